/- Walks of Go functions: each is shown to answer as the Lean function beside it tells, under the conditions that its theorem names. -/
import Derived.Test.YtoofhjflfpccdaaProg
import Derived.Below
import Derived.Deep.Draws
import Derived.Deep.AppendLies
import Derived.Maps.AppendAt
import Derived.OwnWalk
import Derived.Laws.BytesArg
import Derived.Laws.MakeOwn
import Derived.Laws.OwnMore
import Derived.Deep.OwnRows
import Derived.Tactics
import Derived.Lib.ConvBytes
import Derived.Laws.Slices
import Derived.WalkKit
import Derived.KernelRfl
import Derived.RowKit3
import Derived.Deep.LoopGhost
import Derived.Deep.QuietTactic
import Derived.BigQuiet
import Derived.WideLaws
import Derived.Deep.DeepCutAuto
import Derived.Deep.CutBlock
import Derived.Deep.RegionHeld3
import Derived.Laws.Rows
import Derived.Lib.AppendStr
import Derived.ArgAppend
import Derived.Laws.IdiomCopy
import Derived.OrdersHeld
import Derived.Laws.BitsLemmas
import Derived.RowKit
import Derived.Laws.StructEq
import Derived.Lib.SliceRun
import Derived.WalkSpells
import Derived.ChangeArms
import Derived.ChangeSlices
import Derived.Deep.Slices
import Derived.Test.YtoofhjflfpccdaaKP2588f5877c
section
namespace Go.Proofs.Ytoofhjflfpccdaa.PA
open Go.RowKit Go.Proofs.YtoofhjflfpccdaaW.PrintWords Go.Proofs.YtoofhjflfpccdaaW.PrintLast Go.Proofs.YtoofhjflfpccdaaW.PrintMore
attribute [local go_sem] max2_int min2_int max_two min_two max_three min_three max_four min_four   -- for this text's walks alone
set_option linter.unusedVariables false
set_option linter.unusedSimpArgs false
def laws_eqRuleS.T6 : Bool × List (List Nat × List Nat) := (true, [([], []), ([], []), ([0, 1], [0, 1]), ([2], [2]), ([], []), ([], []), ([4, 5], [4, 5]), ([6], [6]), ([3, 7], [3, 7]), ([8], [8])])
def laws_eqRuleS.B6 : List Nat := [0, 0, 3, 7, 0, 0, 48, 112, 255, 511]
theorem laws_eqRuleS.tab6 : rtab .any (opsOf Try.f56 6) = laws_eqRuleS.T6 := by kernel_rfl
theorem laws_eqRuleS.bits6 : waitsOk laws_eqRuleS.T6.2 laws_eqRuleS.B6 = true := by kernel_rfl
set_option maxHeartbeats 8000000 in
set_option maxRecDepth 100000 in
theorem laws_eqRuleS.calls (k : Nat) (A0 : Option Addr) (c0 : Nat) (l0 : List (IRule)) (A1 : Option Addr) (c1 : Nat) (l1 : List (IRule)) (r : Bool) (w : World) (hr0 : Kd.C k81 w A0 l0.length l0) (hc0 : l0.length ≤ c0) (hr1 : Kd.C k81 w A1 l1.length l1) (hc1 : l1.length ≤ c1) (h : laws_eqRuleS.f k l0 l1 = some r) :
  Calls Try.prog 56 #[.slice A0 l0.length c0, .slice A1 l1.length c1] w fun e w' => e = .returned (.bool r) ∧ Below w.heap.size w w' := by
 have hu81 := Try.underlying81
 have HR0 := Aside0.mk hr0
 have HC0 := Aside0.mk hc0
 clear hr0 hc0
 have HR1 := Aside0.mk hr1
 have HC1 := Aside0.mk hc1
 clear hr1 hc1
 have HB := Aside0.mk (Below.refl w.heap.size w)
 have H : (if (l0.length : Int) = (l1.length : Int) then (laws_eqRuleS.l0 k l0 l1 0) else (some false)) = some r := h
 clear h
 by_cases c3 : (l0.length : Int) = (l1.length : Int)
 case neg =>
  rw [if_neg c3] at H
  have c3b0 : ((l0.length : Int) == (l1.length : Int)) = false := beq_eq_false_iff_ne.mpr c3
  have c3b1 : ((l0.length : Int) != (l1.length : Int)) = true := bne_iff_ne.mpr c3
  have c3b2 : (l0.length == l1.length) = false := by first | simpa using c3 | (simp at c3 ⊢; omega)
  obtain rfl := Option.some.inj H
  go_enter Try.func56, Try.ntmps56
  go_wp2
  go_ret
  exact ⟨rz, bz HB⟩
 rw [if_pos c3] at H
 have c3b0 : ((l0.length : Int) == (l1.length : Int)) = true := beq_iff_eq.mpr c3
 have c3b1 : ((l0.length : Int) != (l1.length : Int)) = false := bne_eq_false_iff_eq.mpr c3
 have c3b2 : (l0.length == l1.length) = true := by first | simpa using c3 | (simp at c3 ⊢; omega)
 clear c3
 have H' := Aside0.mk H
 clear H
 go_enter Try.func56, Try.ntmps56
 go_wp2
 go_loopg [5] k (fun kq v5 w' => ∃ (x5_1 : Int), v5 = .int .i64 x5_1 ∧ Aside0 (laws_eqRuleS.l0 kq l0 l1 x5_1 = some r) ∧ Aside0 (kq ≤ k) ∧ Aside0 (Below w.heap.size w w'))
 case atStart => exact ⟨(0), rq, H', ⟨Nat.le_refl _⟩, ⟨bz HB⟩⟩
 case round =>
  clear H'
  try clear c1
  try clear p2
  try clear c3
  try clear c3b0
  try clear c3b1
  try clear c3b2
  obtain ⟨x5_1, rfl, HA, HK1, HB⟩ := hrel
  cases gk with
  | zero => exact absurd HA.out (by simp [laws_eqRuleS.l0])
  | succ k1 =>
   have H := HA.out
   clear HA
   simp only [laws_eqRuleS.l0] at H
   by_cases c4 : x5_1 < (l0.length : Int)
   case neg =>
    rw [if_neg c4] at H
    have c4b0 : decide (x5_1 < (l0.length : Int)) = false := decide_eq_false c4
    clear c4
    obtain rfl := Option.some.inj H
    go_wp2
    go_ret
    exact ⟨rz, bz HB⟩
   rw [if_pos c4] at H
   have c4b0 : decide (x5_1 < (l0.length : Int)) = true := decide_eq_true c4
   clear c4
   by_cases c5 : 0 ≤ x5_1
   case neg =>
    rw [if_neg c5] at H
    exact absurd H (by simp)
   rw [if_pos c5] at H
   have c5b0 : decide (0 ≤ x5_1) = true := decide_eq_true c5
   clear c5
   by_cases c6 : x5_1 < (l1.length : Int)
   case neg =>
    rw [if_neg c6] at H
    exact absurd H (by simp)
   rw [if_pos c6] at H
   have c6b0 : decide (x5_1 < (l1.length : Int)) = true := decide_eq_true c6
   clear c6
   replace H := Option.bind_eq_some_iff.mp H
   obtain ⟨t340, A70, H⟩ := H
   have A7 := Aside0.mk A70
   clear A70
   by_cases c8 : t340 = true
   case neg =>
    replace c8 := Bool.eq_false_iff.mpr c8
    subst c8
    rw [if_neg nt_] at H
    obtain rfl := Option.some.inj H
    try go_wp2
    have n0_ := Aside0.mk (below_drew1 HB.out)
    clear HB
    have HB := n0_
    clear n0_
    have p338 : 0 ≤ (x5_1 : Int) := dz
    have q338 : x5_1 < (l0.length : Int) := dz
    obtain ⟨ad338, A338_0, c338_0, A338_1, c338_1, A338_2, c338_2, e338, hx338_0, hx338_1, hx338_2, hl338_0, hi338_0, hl338_1, hi338_1, hl338_2, hi338_2⟩ := at_IRule HR0.out x5_1 p338 q338
    have hw338_2 := hx338_2
    have hw338_1 := hx338_1
    have hw338_0 := hx338_0
    cases e338
    replace hx338_0 := xz HB hx338_0
    replace hx338_1 := xz HB hx338_1
    replace hx338_2 := xz HB hx338_2
    have HR338_0 := Aside0.mk hi338_0
    have HC338_0 := Aside0.mk hl338_0
    clear hi338_0 hl338_0
    have HR338_1 := Aside0.mk hi338_1
    have HC338_1 := Aside0.mk hl338_1
    clear hi338_1 hl338_1
    have HR338_2 := Aside0.mk hi338_2
    have HC338_2 := Aside0.mk hl338_2
    clear hi338_2 hl338_2
    replace p338 := eq_true p338
    replace q338 := eq_true q338
    have p339 : 0 ≤ (x5_1 : Int) := dz
    have q339 : x5_1 < (l1.length : Int) := dz
    obtain ⟨ad339, A339_0, c339_0, A339_1, c339_1, A339_2, c339_2, e339, hx339_0, hx339_1, hx339_2, hl339_0, hi339_0, hl339_1, hi339_1, hl339_2, hi339_2⟩ := at_IRule HR1.out x5_1 p339 q339
    have hw339_2 := hx339_2
    have hw339_1 := hx339_1
    have hw339_0 := hx339_0
    cases e339
    replace hx339_0 := xz HB hx339_0
    replace hx339_1 := xz HB hx339_1
    replace hx339_2 := xz HB hx339_2
    have HR339_0 := Aside0.mk hi339_0
    have HC339_0 := Aside0.mk hl339_0
    clear hi339_0 hl339_0
    have HR339_1 := Aside0.mk hi339_1
    have HC339_1 := Aside0.mk hl339_1
    clear hi339_1 hl339_1
    have HR339_2 := Aside0.mk hi339_2
    have HC339_2 := Aside0.mk hl339_2
    clear hi339_2 hl339_2
    replace p339 := eq_true p339
    replace q339 := eq_true q339
    refine start_ (n := 10) (S := fun w' => w'.cell? (ad338.add ((x5_1).toNat * 3)) = some (.slice A338_0 ((rd_IRule l0 x5_1).f0).length c338_0) ∧ w'.cell? ⟨(ad338.add ((x5_1).toNat * 3)).block, (ad338.add ((x5_1).toNat * 3)).off + 1, none⟩ = some (.slice A338_1 ((rd_IRule l0 x5_1).f1).length c338_1) ∧ w'.cell? ⟨(ad338.add ((x5_1).toNat * 3)).block, (ad338.add ((x5_1).toNat * 3)).off + 2, none⟩ = some (.slice A338_2 ((rd_IRule l0 x5_1).f2).length c338_2) ∧ w'.cell? (ad339.add ((x5_1).toNat * 3)) = some (.slice A339_0 ((rd_IRule l1 x5_1).f0).length c339_0) ∧ w'.cell? ⟨(ad339.add ((x5_1).toNat * 3)).block, (ad339.add ((x5_1).toNat * 3)).off + 1, none⟩ = some (.slice A339_1 ((rd_IRule l1 x5_1).f1).length c339_1) ∧ w'.cell? ⟨(ad339.add ((x5_1).toNat * 3)).block, (ad339.add ((x5_1).toNat * 3)).off + 2, none⟩ = some (.slice A339_2 ((rd_IRule l1 x5_1).f2).length c339_2)) (ds := []) #[false, false, false, false, false, false, false, false, false, false] (by kernel_rfl) rfl rfl ⟨((HB.out.cell (World.block_lt_of_cell? w _ hw338_0)).trans hw338_0), ((HB.out.cell (World.block_lt_of_cell? w _ hw338_1)).trans hw338_1), ((HB.out.cell (World.block_lt_of_cell? w _ hw338_2)).trans hw338_2), ((HB.out.cell (World.block_lt_of_cell? w _ hw339_0)).trans hw339_0), ((HB.out.cell (World.block_lt_of_cell? w _ hw339_1)).trans hw339_1), ((HB.out.cell (World.block_lt_of_cell? w _ hw339_2)).trans hw339_2)⟩ (fun hHeld => ?_); refine with_tabW laws_eqRuleS.tab6 laws_eqRuleS.bits6 (fun HT_ HW_ => ?_)
    generalize wr.drew = w11 at HB HR338_0 HR338_1 HR338_2 HR339_0 HR339_1 HR339_2 hx338_0 hx338_1 hx338_2 hx339_0 hx339_1 hx339_2 hHeld ⊢
    refine pure_ (i := 0) (N := some 17) (v := ?_) (a' := ?_) #[true, false, false, false, false, false, false, false, false, false] rfl rfl (any_of HT_.out (by kernel_rfl)) (fun _ _ _ h => h) (Or.inl ⟨by rfl, ?_⟩) ?_ ?_
    rotate_left
    ·
     intro w'
     go_simp
     with_reducible rfl
    rotate_left
    ·
     simp only [Act.put, sb_, sc0_, sc1_, i64_w, i32_w]
     rfl
    refine pure_ (i := 1) (N := some 18) (v := ?_) (a' := ?_) #[true, true, false, false, false, false, false, false, false, false] rfl rfl (any_of HT_.out (by kernel_rfl)) (fun _ _ _ h => h) (Or.inl ⟨by rfl, ?_⟩) ?_ ?_
    rotate_left
    ·
     intro w'
     go_simp
     with_reducible rfl
    rotate_left
    ·
     simp only [Act.put, sb_, sc0_, sc1_, i64_w, i32_w]
     rfl
    refine pure_ (i := 2) (N := some 19) (v := ?_) (a' := ?_) #[true, true, true, false, false, false, false, false, false, false] rfl rfl (any_of HT_.out (by kernel_rfl)) (fun _ _ _ h => h) (Or.inl ⟨by rfl, ?_⟩) ?_ ?_
    rotate_left
    ·
     intro w'
     go_simp
     with_reducible rfl
    rotate_left
    ·
     simp only [Act.put, sb_, sc0_, sc1_, i64_w, i32_w]
     rfl
    refine pure_ (i := 4) (N := some 21) (v := ?_) (a' := ?_) #[true, true, true, false, true, false, false, false, false, false] rfl rfl (any_of HT_.out (by kernel_rfl)) (fun _ _ _ h => h) (Or.inl ⟨by rfl, ?_⟩) ?_ ?_
    rotate_left
    ·
     intro w'
     go_simp
     with_reducible rfl
    rotate_left
    ·
     simp only [Act.put, sb_, sc0_, sc1_, i64_w, i32_w]
     rfl
    refine pure_ (i := 5) (N := some 22) (v := ?_) (a' := ?_) #[true, true, true, false, true, true, false, false, false, false] rfl rfl (any_of HT_.out (by kernel_rfl)) (fun _ _ _ h => h) (Or.inl ⟨by rfl, ?_⟩) ?_ ?_
    rotate_left
    ·
     intro w'
     go_simp
     with_reducible rfl
    rotate_left
    ·
     simp only [Act.put, sb_, sc0_, sc1_, i64_w, i32_w]
     rfl
    refine pure_ (i := 6) (N := some 23) (v := ?_) (a' := ?_) #[true, true, true, false, true, true, true, false, false, false] rfl rfl (any_of HT_.out (by kernel_rfl)) (fun _ _ _ h => h) (Or.inl ⟨by rfl, ?_⟩) ?_ ?_
    rotate_left
    ·
     intro w'
     go_simp
     with_reducible rfl
    rotate_left
    ·
     simp only [Act.put, sb_, sc0_, sc1_, i64_w, i32_w]
     rfl
    refine take_ (i := 3) (N := some 20) (v := ?_) (a' := ?_) #[true, true, true, true, true, true, true, false, false, false] rfl rfl (take_ofW HT_.out HW_.out (by kernel_rfl)) (fun _ _ _ h => h) (Or.inl ⟨by rfl, ?_⟩) hHeld ?_ ?_
    rotate_left
    ·
     rintro w' ⟨s0, s1, s2, s3, s4, s5⟩
     go_simp
     with_reducible rfl
    rotate_left
    ·
     simp only [Act.put, sb_, sc0_, sc1_, i64_w, i32_w]
     rfl
    refine take_ (i := 7) (N := some 24) (v := ?_) (a' := ?_) #[true, true, true, true, true, true, true, true, false, false] rfl rfl (take_ofW HT_.out HW_.out (by kernel_rfl)) (fun _ _ _ h => h) (Or.inl ⟨by rfl, ?_⟩) hHeld ?_ ?_
    rotate_left
    ·
     rintro w' ⟨s0, s1, s2, s3, s4, s5⟩
     go_simp
     with_reducible rfl
    rotate_left
    ·
     simp only [Act.put, sb_, sc0_, sc1_, i64_w, i32_w]
     rfl
    refine one_ (i := 8) (N := some 25) #[true, true, true, true, true, true, true, true, true, false] rfl rfl (one_of HT_.out (by kernel_rfl)) (by decide) (fun K hK => ?_)
    refine goes_ Try.func93 (by kernel_rfl) rfl #[.agg #[.slice A338_0 ((rd_IRule l0 x5_1).f0).length c338_0, .slice A338_1 ((rd_IRule l0 x5_1).f1).length c338_1, .slice A338_2 ((rd_IRule l0 x5_1).f2).length c338_2], .agg #[.slice A339_0 ((rd_IRule l1 x5_1).f0).length c339_0, .slice A339_1 ((rd_IRule l1 x5_1).f1).length c339_1, .slice A339_2 ((rd_IRule l1 x5_1).f2).length c339_2]] (by rfl) rfl rfl az ?_
    with_reducible refine (laws_eqRule.calls k1 _ _ ((rd_IRule l0 x5_1).f0) _ _ ((rd_IRule l0 x5_1).f1) _ _ ((rd_IRule l0 x5_1).f2) _ _ ((rd_IRule l1 x5_1).f0) _ _ ((rd_IRule l1 x5_1).f1) _ _ ((rd_IRule l1 x5_1).f2) false _ ?side1 ?side2 ?side3 ?side4 ?side5 ?side6 ?side7 ?side8 ?side9 ?side10 ?side11 ?side12 A7.out).mono ?_
    (case side1 => exact cz HR338_0 HB)
    (case side2 => exact HC338_0.out)
    (case side3 => exact cz HR338_1 HB)
    (case side4 => exact HC338_1.out)
    (case side5 => exact cz HR338_2 HB)
    (case side6 => exact HC338_2.out)
    (case side7 => exact cz HR339_0 HB)
    (case side8 => exact HC339_0.out)
    (case side9 => exact cz HR339_1 HB)
    (case side10 => exact HC339_1.out)
    (case side11 => exact cz HR339_2 HB)
    (case side12 => exact HC339_2.out)
    rintro e w12 ⟨rfl, hb⟩
    refine ⟨_, rfl, ?_⟩
    have n0_ := Aside0.mk (below_step (bz HB) hb)
    clear HB
    have HB := n0_
    clear n0_
    (try clear hb)
    (try clear hb2)
    (try clear hk)
    (try clear hi)
    refine hK.out _ _ ⟨((HB.out.cell (World.block_lt_of_cell? w _ hw338_0)).trans hw338_0), ((HB.out.cell (World.block_lt_of_cell? w _ hw338_1)).trans hw338_1), ((HB.out.cell (World.block_lt_of_cell? w _ hw338_2)).trans hw338_2), ((HB.out.cell (World.block_lt_of_cell? w _ hw339_0)).trans hw339_0), ((HB.out.cell (World.block_lt_of_cell? w _ hw339_1)).trans hw339_1), ((HB.out.cell (World.block_lt_of_cell? w _ hw339_2)).trans hw339_2)⟩ (fun hHeld => ?_)
    clear hK K
    refine norm_ (a' := ?_) ?_ ?_
    rotate_left
    ·
     show Act.put _ (some 25) _ = _
     simp only [Act.put, sb_, sc0_, sc1_, i64_w, i32_w]
     rfl
    refine pure_ (i := 9) (N := some 26) (v := ?_) (a' := ?_) #[true, true, true, true, true, true, true, true, true, true] rfl rfl (any_of HT_.out (by kernel_rfl)) (fun _ _ _ h => h) (Or.inl ⟨by rfl, ?_⟩) ?_ ?_
    rotate_left
    ·
     intro w'
     go_simp
     with_reducible rfl
    rotate_left
    ·
     simp only [Act.put, sb_, sc0_, sc1_, i64_w, i32_w]
     rfl
    refine done_ (done_of HT_.out (by kernel_rfl)) ?_
    try go_wp2
    go_ret
    exact ⟨rz, bz HB⟩
   subst c8
   rw [if_pos rfl] at H
   have H' := Aside0.mk H
   clear H
   try go_wp2
   have n0_ := Aside0.mk (below_drew1 HB.out)
   clear HB
   have HB := n0_
   clear n0_
   have p338 : 0 ≤ (x5_1 : Int) := dz
   have q338 : x5_1 < (l0.length : Int) := dz
   obtain ⟨ad338, A338_0, c338_0, A338_1, c338_1, A338_2, c338_2, e338, hx338_0, hx338_1, hx338_2, hl338_0, hi338_0, hl338_1, hi338_1, hl338_2, hi338_2⟩ := at_IRule HR0.out x5_1 p338 q338
   have hw338_2 := hx338_2
   have hw338_1 := hx338_1
   have hw338_0 := hx338_0
   cases e338
   replace hx338_0 := xz HB hx338_0
   replace hx338_1 := xz HB hx338_1
   replace hx338_2 := xz HB hx338_2
   have HR338_0 := Aside0.mk hi338_0
   have HC338_0 := Aside0.mk hl338_0
   clear hi338_0 hl338_0
   have HR338_1 := Aside0.mk hi338_1
   have HC338_1 := Aside0.mk hl338_1
   clear hi338_1 hl338_1
   have HR338_2 := Aside0.mk hi338_2
   have HC338_2 := Aside0.mk hl338_2
   clear hi338_2 hl338_2
   replace p338 := eq_true p338
   replace q338 := eq_true q338
   have p339 : 0 ≤ (x5_1 : Int) := dz
   have q339 : x5_1 < (l1.length : Int) := dz
   obtain ⟨ad339, A339_0, c339_0, A339_1, c339_1, A339_2, c339_2, e339, hx339_0, hx339_1, hx339_2, hl339_0, hi339_0, hl339_1, hi339_1, hl339_2, hi339_2⟩ := at_IRule HR1.out x5_1 p339 q339
   have hw339_2 := hx339_2
   have hw339_1 := hx339_1
   have hw339_0 := hx339_0
   cases e339
   replace hx339_0 := xz HB hx339_0
   replace hx339_1 := xz HB hx339_1
   replace hx339_2 := xz HB hx339_2
   have HR339_0 := Aside0.mk hi339_0
   have HC339_0 := Aside0.mk hl339_0
   clear hi339_0 hl339_0
   have HR339_1 := Aside0.mk hi339_1
   have HC339_1 := Aside0.mk hl339_1
   clear hi339_1 hl339_1
   have HR339_2 := Aside0.mk hi339_2
   have HC339_2 := Aside0.mk hl339_2
   clear hi339_2 hl339_2
   replace p339 := eq_true p339
   replace q339 := eq_true q339
   refine start_ (n := 10) (S := fun w' => w'.cell? (ad338.add ((x5_1).toNat * 3)) = some (.slice A338_0 ((rd_IRule l0 x5_1).f0).length c338_0) ∧ w'.cell? ⟨(ad338.add ((x5_1).toNat * 3)).block, (ad338.add ((x5_1).toNat * 3)).off + 1, none⟩ = some (.slice A338_1 ((rd_IRule l0 x5_1).f1).length c338_1) ∧ w'.cell? ⟨(ad338.add ((x5_1).toNat * 3)).block, (ad338.add ((x5_1).toNat * 3)).off + 2, none⟩ = some (.slice A338_2 ((rd_IRule l0 x5_1).f2).length c338_2) ∧ w'.cell? (ad339.add ((x5_1).toNat * 3)) = some (.slice A339_0 ((rd_IRule l1 x5_1).f0).length c339_0) ∧ w'.cell? ⟨(ad339.add ((x5_1).toNat * 3)).block, (ad339.add ((x5_1).toNat * 3)).off + 1, none⟩ = some (.slice A339_1 ((rd_IRule l1 x5_1).f1).length c339_1) ∧ w'.cell? ⟨(ad339.add ((x5_1).toNat * 3)).block, (ad339.add ((x5_1).toNat * 3)).off + 2, none⟩ = some (.slice A339_2 ((rd_IRule l1 x5_1).f2).length c339_2)) (ds := []) #[false, false, false, false, false, false, false, false, false, false] (by kernel_rfl) rfl rfl ⟨((HB.out.cell (World.block_lt_of_cell? w _ hw338_0)).trans hw338_0), ((HB.out.cell (World.block_lt_of_cell? w _ hw338_1)).trans hw338_1), ((HB.out.cell (World.block_lt_of_cell? w _ hw338_2)).trans hw338_2), ((HB.out.cell (World.block_lt_of_cell? w _ hw339_0)).trans hw339_0), ((HB.out.cell (World.block_lt_of_cell? w _ hw339_1)).trans hw339_1), ((HB.out.cell (World.block_lt_of_cell? w _ hw339_2)).trans hw339_2)⟩ (fun hHeld => ?_); refine with_tabW laws_eqRuleS.tab6 laws_eqRuleS.bits6 (fun HT_ HW_ => ?_)
   generalize wr.drew = w9 at HB HR338_0 HR338_1 HR338_2 HR339_0 HR339_1 HR339_2 hx338_0 hx338_1 hx338_2 hx339_0 hx339_1 hx339_2 hHeld ⊢
   refine pure_ (i := 0) (N := some 17) (v := ?_) (a' := ?_) #[true, false, false, false, false, false, false, false, false, false] rfl rfl (any_of HT_.out (by kernel_rfl)) (fun _ _ _ h => h) (Or.inl ⟨by rfl, ?_⟩) ?_ ?_
   rotate_left
   ·
    intro w'
    go_simp
    with_reducible rfl
   rotate_left
   ·
    simp only [Act.put, sb_, sc0_, sc1_, i64_w, i32_w]
    rfl
   refine pure_ (i := 1) (N := some 18) (v := ?_) (a' := ?_) #[true, true, false, false, false, false, false, false, false, false] rfl rfl (any_of HT_.out (by kernel_rfl)) (fun _ _ _ h => h) (Or.inl ⟨by rfl, ?_⟩) ?_ ?_
   rotate_left
   ·
    intro w'
    go_simp
    with_reducible rfl
   rotate_left
   ·
    simp only [Act.put, sb_, sc0_, sc1_, i64_w, i32_w]
    rfl
   refine pure_ (i := 2) (N := some 19) (v := ?_) (a' := ?_) #[true, true, true, false, false, false, false, false, false, false] rfl rfl (any_of HT_.out (by kernel_rfl)) (fun _ _ _ h => h) (Or.inl ⟨by rfl, ?_⟩) ?_ ?_
   rotate_left
   ·
    intro w'
    go_simp
    with_reducible rfl
   rotate_left
   ·
    simp only [Act.put, sb_, sc0_, sc1_, i64_w, i32_w]
    rfl
   refine pure_ (i := 4) (N := some 21) (v := ?_) (a' := ?_) #[true, true, true, false, true, false, false, false, false, false] rfl rfl (any_of HT_.out (by kernel_rfl)) (fun _ _ _ h => h) (Or.inl ⟨by rfl, ?_⟩) ?_ ?_
   rotate_left
   ·
    intro w'
    go_simp
    with_reducible rfl
   rotate_left
   ·
    simp only [Act.put, sb_, sc0_, sc1_, i64_w, i32_w]
    rfl
   refine pure_ (i := 5) (N := some 22) (v := ?_) (a' := ?_) #[true, true, true, false, true, true, false, false, false, false] rfl rfl (any_of HT_.out (by kernel_rfl)) (fun _ _ _ h => h) (Or.inl ⟨by rfl, ?_⟩) ?_ ?_
   rotate_left
   ·
    intro w'
    go_simp
    with_reducible rfl
   rotate_left
   ·
    simp only [Act.put, sb_, sc0_, sc1_, i64_w, i32_w]
    rfl
   refine pure_ (i := 6) (N := some 23) (v := ?_) (a' := ?_) #[true, true, true, false, true, true, true, false, false, false] rfl rfl (any_of HT_.out (by kernel_rfl)) (fun _ _ _ h => h) (Or.inl ⟨by rfl, ?_⟩) ?_ ?_
   rotate_left
   ·
    intro w'
    go_simp
    with_reducible rfl
   rotate_left
   ·
    simp only [Act.put, sb_, sc0_, sc1_, i64_w, i32_w]
    rfl
   refine take_ (i := 3) (N := some 20) (v := ?_) (a' := ?_) #[true, true, true, true, true, true, true, false, false, false] rfl rfl (take_ofW HT_.out HW_.out (by kernel_rfl)) (fun _ _ _ h => h) (Or.inl ⟨by rfl, ?_⟩) hHeld ?_ ?_
   rotate_left
   ·
    rintro w' ⟨s0, s1, s2, s3, s4, s5⟩
    go_simp
    with_reducible rfl
   rotate_left
   ·
    simp only [Act.put, sb_, sc0_, sc1_, i64_w, i32_w]
    rfl
   refine take_ (i := 7) (N := some 24) (v := ?_) (a' := ?_) #[true, true, true, true, true, true, true, true, false, false] rfl rfl (take_ofW HT_.out HW_.out (by kernel_rfl)) (fun _ _ _ h => h) (Or.inl ⟨by rfl, ?_⟩) hHeld ?_ ?_
   rotate_left
   ·
    rintro w' ⟨s0, s1, s2, s3, s4, s5⟩
    go_simp
    with_reducible rfl
   rotate_left
   ·
    simp only [Act.put, sb_, sc0_, sc1_, i64_w, i32_w]
    rfl
   refine one_ (i := 8) (N := some 25) #[true, true, true, true, true, true, true, true, true, false] rfl rfl (one_of HT_.out (by kernel_rfl)) (by decide) (fun K hK => ?_)
   refine goes_ Try.func93 (by kernel_rfl) rfl #[.agg #[.slice A338_0 ((rd_IRule l0 x5_1).f0).length c338_0, .slice A338_1 ((rd_IRule l0 x5_1).f1).length c338_1, .slice A338_2 ((rd_IRule l0 x5_1).f2).length c338_2], .agg #[.slice A339_0 ((rd_IRule l1 x5_1).f0).length c339_0, .slice A339_1 ((rd_IRule l1 x5_1).f1).length c339_1, .slice A339_2 ((rd_IRule l1 x5_1).f2).length c339_2]] (by rfl) rfl rfl az ?_
   with_reducible refine (laws_eqRule.calls k1 _ _ ((rd_IRule l0 x5_1).f0) _ _ ((rd_IRule l0 x5_1).f1) _ _ ((rd_IRule l0 x5_1).f2) _ _ ((rd_IRule l1 x5_1).f0) _ _ ((rd_IRule l1 x5_1).f1) _ _ ((rd_IRule l1 x5_1).f2) true _ ?side1 ?side2 ?side3 ?side4 ?side5 ?side6 ?side7 ?side8 ?side9 ?side10 ?side11 ?side12 A7.out).mono ?_
   (case side1 => exact cz HR338_0 HB)
   (case side2 => exact HC338_0.out)
   (case side3 => exact cz HR338_1 HB)
   (case side4 => exact HC338_1.out)
   (case side5 => exact cz HR338_2 HB)
   (case side6 => exact HC338_2.out)
   (case side7 => exact cz HR339_0 HB)
   (case side8 => exact HC339_0.out)
   (case side9 => exact cz HR339_1 HB)
   (case side10 => exact HC339_1.out)
   (case side11 => exact cz HR339_2 HB)
   (case side12 => exact HC339_2.out)
   rintro e w10 ⟨rfl, hb⟩
   refine ⟨_, rfl, ?_⟩
   have n0_ := Aside0.mk (below_step (bz HB) hb)
   clear HB
   have HB := n0_
   clear n0_
   (try clear hb)
   (try clear hb2)
   (try clear hk)
   (try clear hi)
   refine hK.out _ _ ⟨((HB.out.cell (World.block_lt_of_cell? w _ hw338_0)).trans hw338_0), ((HB.out.cell (World.block_lt_of_cell? w _ hw338_1)).trans hw338_1), ((HB.out.cell (World.block_lt_of_cell? w _ hw338_2)).trans hw338_2), ((HB.out.cell (World.block_lt_of_cell? w _ hw339_0)).trans hw339_0), ((HB.out.cell (World.block_lt_of_cell? w _ hw339_1)).trans hw339_1), ((HB.out.cell (World.block_lt_of_cell? w _ hw339_2)).trans hw339_2)⟩ (fun hHeld => ?_)
   clear hK K
   refine norm_ (a' := ?_) ?_ ?_
   rotate_left
   ·
    show Act.put _ (some 25) _ = _
    simp only [Act.put, sb_, sc0_, sc1_, i64_w, i32_w]
    rfl
   refine pure_ (i := 9) (N := some 26) (v := ?_) (a' := ?_) #[true, true, true, true, true, true, true, true, true, true] rfl rfl (any_of HT_.out (by kernel_rfl)) (fun _ _ _ h => h) (Or.inl ⟨by rfl, ?_⟩) ?_ ?_
   rotate_left
   ·
    intro w'
    go_simp
    with_reducible rfl
   rotate_left
   ·
    simp only [Act.put, sb_, sc0_, sc1_, i64_w, i32_w]
    rfl
   refine done_ (done_of HT_.out (by kernel_rfl)) ?_
   try go_wp2
   go_roundg k1
   case measure => have := HK1.out; omega
   case rel => exact ⟨(wrap64 (x5_1 + 1)), rq, H', ⟨by have := HK1.out; omega⟩, ⟨bz HB⟩⟩
end Go.Proofs.Ytoofhjflfpccdaa.PA
end
section
namespace Go.Proofs.Ytoofhjflfpccdaa.PA
open Go.RowKit Go.Proofs.YtoofhjflfpccdaaW.PrintWords Go.Proofs.YtoofhjflfpccdaaW.PrintLast Go.Proofs.YtoofhjflfpccdaaW.PrintMore
attribute [local go_sem] max2_int min2_int max_two min_two max_three min_three max_four min_four   -- for this text's walks alone
set_option linter.unusedVariables false
set_option linter.unusedSimpArgs false
set_option maxHeartbeats 8000000 in
set_option maxRecDepth 100000 in
theorem laws_eqSystem.calls (k : Nat) (A0_0 : Option Addr) (c0_0 : Nat) (l0_0 : List (IVar)) (A0_1 : Option Addr) (c0_1 : Nat) (l0_1 : List (IRule)) (A1_0 : Option Addr) (c1_0 : Nat) (l1_0 : List (IVar)) (A1_1 : Option Addr) (c1_1 : Nat) (l1_1 : List (IRule)) (r : Bool) (w : World) (hr0_0 : Kd.C k62 w A0_0 l0_0.length l0_0) (hc0_0 : l0_0.length ≤ c0_0) (hr0_1 : Kd.C k81 w A0_1 l0_1.length l0_1) (hc0_1 : l0_1.length ≤ c0_1) (hr1_0 : Kd.C k62 w A1_0 l1_0.length l1_0) (hc1_0 : l1_0.length ≤ c1_0) (hr1_1 : Kd.C k81 w A1_1 l1_1.length l1_1) (hc1_1 : l1_1.length ≤ c1_1) (h : laws_eqSystem.f k l0_0 l0_1 l1_0 l1_1 = some r) :
  Calls Try.prog 19 #[.agg #[.slice A0_0 l0_0.length c0_0, .slice A0_1 l0_1.length c0_1], .agg #[.slice A1_0 l1_0.length c1_0, .slice A1_1 l1_1.length c1_1]] w fun e w' => e = .returned (.bool r) ∧ Below w.heap.size w w' := by
 have hu31 := Try.underlying31
 have HR0_0 := Aside0.mk hr0_0
 have HC0_0 := Aside0.mk hc0_0
 clear hr0_0 hc0_0
 have HR0_1 := Aside0.mk hr0_1
 have HC0_1 := Aside0.mk hc0_1
 clear hr0_1 hc0_1
 have HR1_0 := Aside0.mk hr1_0
 have HC1_0 := Aside0.mk hc1_0
 clear hr1_0 hc1_0
 have HR1_1 := Aside0.mk hr1_1
 have HC1_1 := Aside0.mk hc1_1
 clear hr1_1 hc1_1
 have HB := Aside0.mk (Below.refl w.heap.size w)
 have H : ((laws_eqVarS.f k l0_0 l1_0).bind fun t343 => (if t343 = true then ((laws_eqRuleS.f k l0_1 l1_1).bind fun t344 => (if t344 = true then (some true) else (some false))) else (some false))) = some r := h
 clear h
 replace H := Option.bind_eq_some_iff.mp H
 obtain ⟨t343, A30, H⟩ := H
 have A3 := Aside0.mk A30
 clear A30
 by_cases c4 : t343 = true
 case neg =>
  replace c4 := Bool.eq_false_iff.mpr c4
  subst c4
  rw [if_neg nt_] at H
  obtain rfl := Option.some.inj H
  go_enter Try.func19, Try.ntmps19
  go_wp2_with (first | ((with_reducible refine gate_dst (N := 2) rfl ?_); refine box_event ?hg (N := 2) ?hd (cs := #[.slice A0_0 l0_0.length c0_0, .slice A0_1 l0_1.length c0_1]) (t := 31) ?hr ?_; (case hd => rfl); (case hg => rfl); (case hr => first | (go_simp; done) | (go_simp; rfl)); intro gb341 hg w25 hbox hb; have n0_ := Aside0.mk (below_step (bz HB) hb); have n1_ := Aside0.mk (hbox); have n2_ := Aside0.mk ((by rw [hg]; exact (below_size (bz HB)) : w.heap.size ≤ gb341)); have n3_ := Aside0.mk ((by rw [hg]; exact (below_size (bz HB)) : w.heap.size ≤ gb341)); clear HB; have HB := n0_; have BK341 := n1_; have GW341 := n2_; have GE341 := n3_; clear n0_ n1_ n2_ n3_; clear hb hbox hg) | ((with_reducible refine gate_dst (N := 3) rfl ?_); refine box_event ?hg (N := 3) ?hd (cs := #[.slice A1_0 l1_0.length c1_0, .slice A1_1 l1_1.length c1_1]) (t := 31) ?hr ?_; (case hd => rfl); (case hg => rfl); (case hr => first | (go_simp; done) | (go_simp; rfl)); intro gb342 hg w26 hbox hb; have n0_ := Aside0.mk (blk_below (g := gb341) (o := .cells #[.slice A0_0 l0_0.length c0_0, .slice A0_1 l0_1.length c0_1] 31 (0, 0)) (kz BK341) hb); have n1_ := Aside0.mk (below_step (bz1 HB GE341) hb); have n2_ := Aside0.mk (hbox); have n3_ := Aside0.mk ((by rw [hg]; exact (below_size (bz1 HB GE341)) : w.heap.size ≤ gb342)); have n4_ := Aside0.mk ((by rw [hg]; exact (below_size (bz1 HB GE341)) : w.heap.size ≤ gb342)); have n5_ := Aside0.mk ((by rw [hg]; exact Nat.ne_of_lt (blk_lt (g := gb341) (o := .cells #[.slice A0_0 l0_0.length c0_0, .slice A0_1 l0_1.length c0_1] 31 (0, 0)) (kz BK341)) : gb341 ≠ gb342)); have n6_ := Aside0.mk ((by rw [hg]; exact Nat.ne_of_gt (blk_lt (g := gb341) (o := .cells #[.slice A0_0 l0_0.length c0_0, .slice A0_1 l0_1.length c0_1] 31 (0, 0)) (kz BK341)) : gb342 ≠ gb341)); clear BK341; clear HB; have BK341 := n0_; have HB := n1_; have BK342 := n2_; have GW342 := n3_; have GE342 := n4_; have NB341_342 := n5_; have NB342_341 := n6_; clear n0_ n1_ n2_ n3_ n4_ n5_ n6_; clear hb hbox hg; have hnb27 := NB341_342.out; have hnc27 := NB342_341.out; have hcz28_0 : w26.cell? ⟨gb341, 0, none⟩ = some (.slice A0_0 l0_0.length c0_0) := (blk_cell BK341.out 0).trans rfl; have hcz28_1 : w26.cell? ⟨gb341, 1, none⟩ = some (.slice A0_1 l0_1.length c0_1) := (blk_cell BK341.out 1).trans rfl; have hfz28_0 := blk_frozen BK341.out 0; have hfz28_1 := blk_frozen BK341.out 1; have hcz29_0 : w26.cell? ⟨gb342, 0, none⟩ = some (.slice A1_0 l1_0.length c1_0) := (blk_cell BK342.out 0).trans rfl; have hcz29_1 : w26.cell? ⟨gb342, 1, none⟩ = some (.slice A1_1 l1_1.length c1_1) := (blk_cell BK342.out 1).trans rfl; have hfz29_0 := blk_frozen BK342.out 0; have hfz29_1 := blk_frozen BK342.out 1) | ((with_reducible refine gate_callee (f := 55) rfl ?_); refine goesL_ (some 9) rfl rfl Try.func55 (by kernel_rfl) rfl #[.slice A0_0 l0_0.length c0_0, .slice A1_0 l1_0.length c1_0] rfl az ?_; (with_reducible refine (laws_eqVarS.calls k _ _ l0_0 _ _ l1_0 false _ ?side1 HC0_0.out ?side3 HC1_0.out A3.out).mono ?_); (case side1 => exact cz HR0_0 HB); (case side3 => exact cz HR1_0 HB); rintro e w30 ⟨rfl, hb⟩; refine ⟨_, rfl, ?_⟩; replace BK341 := Aside0.mk (blk_below (g := gb341) (o := .cells #[.slice A0_0 l0_0.length c0_0, .slice A0_1 l0_1.length c0_1] 31 (0, 0)) (kz BK341) hb); replace BK342 := Aside0.mk (blk_below (g := gb342) (o := .cells #[.slice A1_0 l1_0.length c1_0, .slice A1_1 l1_1.length c1_1] 31 (0, 0)) (kz BK342) hb); replace HB := Aside0.mk (below_step (bz2 HB GE341 GE342) hb); clear hb))
  go_ret
  exact ⟨rz, bz2 HB GE341 GE342⟩
 subst c4
 rw [if_pos rfl] at H
 replace H := Option.bind_eq_some_iff.mp H
 obtain ⟨t344, A50, H⟩ := H
 have A5 := Aside0.mk A50
 clear A50
 by_cases c6 : t344 = true
 case pos =>
  subst c6
  rw [if_pos rfl] at H
  obtain rfl := Option.some.inj H
  go_enter Try.func19, Try.ntmps19
  go_wp2_with (first | ((with_reducible refine gate_dst (N := 2) rfl ?_); refine box_event ?hg (N := 2) ?hd (cs := #[.slice A0_0 l0_0.length c0_0, .slice A0_1 l0_1.length c0_1]) (t := 31) ?hr ?_; (case hd => rfl); (case hg => rfl); (case hr => first | (go_simp; done) | (go_simp; rfl)); intro gb341 hg w7 hbox hb; have n0_ := Aside0.mk (below_step (bz HB) hb); have n1_ := Aside0.mk (hbox); have n2_ := Aside0.mk ((by rw [hg]; exact (below_size (bz HB)) : w.heap.size ≤ gb341)); have n3_ := Aside0.mk ((by rw [hg]; exact (below_size (bz HB)) : w.heap.size ≤ gb341)); clear HB; have HB := n0_; have BK341 := n1_; have GW341 := n2_; have GE341 := n3_; clear n0_ n1_ n2_ n3_; clear hb hbox hg) | ((with_reducible refine gate_dst (N := 3) rfl ?_); refine box_event ?hg (N := 3) ?hd (cs := #[.slice A1_0 l1_0.length c1_0, .slice A1_1 l1_1.length c1_1]) (t := 31) ?hr ?_; (case hd => rfl); (case hg => rfl); (case hr => first | (go_simp; done) | (go_simp; rfl)); intro gb342 hg w8 hbox hb; have n0_ := Aside0.mk (blk_below (g := gb341) (o := .cells #[.slice A0_0 l0_0.length c0_0, .slice A0_1 l0_1.length c0_1] 31 (0, 0)) (kz BK341) hb); have n1_ := Aside0.mk (below_step (bz1 HB GE341) hb); have n2_ := Aside0.mk (hbox); have n3_ := Aside0.mk ((by rw [hg]; exact (below_size (bz1 HB GE341)) : w.heap.size ≤ gb342)); have n4_ := Aside0.mk ((by rw [hg]; exact (below_size (bz1 HB GE341)) : w.heap.size ≤ gb342)); have n5_ := Aside0.mk ((by rw [hg]; exact Nat.ne_of_lt (blk_lt (g := gb341) (o := .cells #[.slice A0_0 l0_0.length c0_0, .slice A0_1 l0_1.length c0_1] 31 (0, 0)) (kz BK341)) : gb341 ≠ gb342)); have n6_ := Aside0.mk ((by rw [hg]; exact Nat.ne_of_gt (blk_lt (g := gb341) (o := .cells #[.slice A0_0 l0_0.length c0_0, .slice A0_1 l0_1.length c0_1] 31 (0, 0)) (kz BK341)) : gb342 ≠ gb341)); clear BK341; clear HB; have BK341 := n0_; have HB := n1_; have BK342 := n2_; have GW342 := n3_; have GE342 := n4_; have NB341_342 := n5_; have NB342_341 := n6_; clear n0_ n1_ n2_ n3_ n4_ n5_ n6_; clear hb hbox hg; have hnb9 := NB341_342.out; have hnc9 := NB342_341.out; have hcz10_0 : w8.cell? ⟨gb341, 0, none⟩ = some (.slice A0_0 l0_0.length c0_0) := (blk_cell BK341.out 0).trans rfl; have hcz10_1 : w8.cell? ⟨gb341, 1, none⟩ = some (.slice A0_1 l0_1.length c0_1) := (blk_cell BK341.out 1).trans rfl; have hfz10_0 := blk_frozen BK341.out 0; have hfz10_1 := blk_frozen BK341.out 1; have hcz11_0 : w8.cell? ⟨gb342, 0, none⟩ = some (.slice A1_0 l1_0.length c1_0) := (blk_cell BK342.out 0).trans rfl; have hcz11_1 : w8.cell? ⟨gb342, 1, none⟩ = some (.slice A1_1 l1_1.length c1_1) := (blk_cell BK342.out 1).trans rfl; have hfz11_0 := blk_frozen BK342.out 0; have hfz11_1 := blk_frozen BK342.out 1) | ((with_reducible refine gate_callee (f := 55) rfl ?_); refine goesL_ (some 9) rfl rfl Try.func55 (by kernel_rfl) rfl #[.slice A0_0 l0_0.length c0_0, .slice A1_0 l1_0.length c1_0] rfl az ?_; (with_reducible refine (laws_eqVarS.calls k _ _ l0_0 _ _ l1_0 true _ ?side1 HC0_0.out ?side3 HC1_0.out A3.out).mono ?_); (case side1 => exact cz HR0_0 HB); (case side3 => exact cz HR1_0 HB); rintro e w12 ⟨rfl, hb⟩; refine ⟨_, rfl, ?_⟩; replace BK341 := Aside0.mk (blk_below (g := gb341) (o := .cells #[.slice A0_0 l0_0.length c0_0, .slice A0_1 l0_1.length c0_1] 31 (0, 0)) (kz BK341) hb); replace BK342 := Aside0.mk (blk_below (g := gb342) (o := .cells #[.slice A1_0 l1_0.length c1_0, .slice A1_1 l1_1.length c1_1] 31 (0, 0)) (kz BK342) hb); replace HB := Aside0.mk (below_step (bz2 HB GE341 GE342) hb); clear hb; have hcz13_0 : w12.cell? ⟨gb341, 0, none⟩ = some (.slice A0_0 l0_0.length c0_0) := (blk_cell BK341.out 0).trans rfl; have hcz13_1 : w12.cell? ⟨gb341, 1, none⟩ = some (.slice A0_1 l0_1.length c0_1) := (blk_cell BK341.out 1).trans rfl; have hfz13_0 := blk_frozen BK341.out 0; have hfz13_1 := blk_frozen BK341.out 1; have hcz14_0 : w12.cell? ⟨gb342, 0, none⟩ = some (.slice A1_0 l1_0.length c1_0) := (blk_cell BK342.out 0).trans rfl; have hcz14_1 : w12.cell? ⟨gb342, 1, none⟩ = some (.slice A1_1 l1_1.length c1_1) := (blk_cell BK342.out 1).trans rfl; have hfz14_0 := blk_frozen BK342.out 0; have hfz14_1 := blk_frozen BK342.out 1) | ((with_reducible refine gate_callee (f := 56) rfl ?_); refine goesL_ (some 15) rfl rfl Try.func56 (by kernel_rfl) rfl #[.slice A0_1 l0_1.length c0_1, .slice A1_1 l1_1.length c1_1] rfl az ?_; (with_reducible refine (laws_eqRuleS.calls k _ _ l0_1 _ _ l1_1 true _ ?side1 HC0_1.out ?side3 HC1_1.out A5.out).mono ?_); (case side1 => exact cz HR0_1 HB); (case side3 => exact cz HR1_1 HB); rintro e w15 ⟨rfl, hb⟩; refine ⟨_, rfl, ?_⟩; replace BK341 := Aside0.mk (blk_below (g := gb341) (o := .cells #[.slice A0_0 l0_0.length c0_0, .slice A0_1 l0_1.length c0_1] 31 (0, 0)) (kz BK341) hb); replace BK342 := Aside0.mk (blk_below (g := gb342) (o := .cells #[.slice A1_0 l1_0.length c1_0, .slice A1_1 l1_1.length c1_1] 31 (0, 0)) (kz BK342) hb); replace HB := Aside0.mk (below_step (bz2 HB GE341 GE342) hb); clear hb))
  go_ret
  exact ⟨rz, bz2 HB GE341 GE342⟩
 replace c6 := Bool.eq_false_iff.mpr c6
 subst c6
 rw [if_neg nt_] at H
 obtain rfl := Option.some.inj H
 go_enter Try.func19, Try.ntmps19
 go_wp2_with (first | ((with_reducible refine gate_dst (N := 2) rfl ?_); refine box_event ?hg (N := 2) ?hd (cs := #[.slice A0_0 l0_0.length c0_0, .slice A0_1 l0_1.length c0_1]) (t := 31) ?hr ?_; (case hd => rfl); (case hg => rfl); (case hr => first | (go_simp; done) | (go_simp; rfl)); intro gb341 hg w16 hbox hb; have n0_ := Aside0.mk (below_step (bz HB) hb); have n1_ := Aside0.mk (hbox); have n2_ := Aside0.mk ((by rw [hg]; exact (below_size (bz HB)) : w.heap.size ≤ gb341)); have n3_ := Aside0.mk ((by rw [hg]; exact (below_size (bz HB)) : w.heap.size ≤ gb341)); clear HB; have HB := n0_; have BK341 := n1_; have GW341 := n2_; have GE341 := n3_; clear n0_ n1_ n2_ n3_; clear hb hbox hg) | ((with_reducible refine gate_dst (N := 3) rfl ?_); refine box_event ?hg (N := 3) ?hd (cs := #[.slice A1_0 l1_0.length c1_0, .slice A1_1 l1_1.length c1_1]) (t := 31) ?hr ?_; (case hd => rfl); (case hg => rfl); (case hr => first | (go_simp; done) | (go_simp; rfl)); intro gb342 hg w17 hbox hb; have n0_ := Aside0.mk (blk_below (g := gb341) (o := .cells #[.slice A0_0 l0_0.length c0_0, .slice A0_1 l0_1.length c0_1] 31 (0, 0)) (kz BK341) hb); have n1_ := Aside0.mk (below_step (bz1 HB GE341) hb); have n2_ := Aside0.mk (hbox); have n3_ := Aside0.mk ((by rw [hg]; exact (below_size (bz1 HB GE341)) : w.heap.size ≤ gb342)); have n4_ := Aside0.mk ((by rw [hg]; exact (below_size (bz1 HB GE341)) : w.heap.size ≤ gb342)); have n5_ := Aside0.mk ((by rw [hg]; exact Nat.ne_of_lt (blk_lt (g := gb341) (o := .cells #[.slice A0_0 l0_0.length c0_0, .slice A0_1 l0_1.length c0_1] 31 (0, 0)) (kz BK341)) : gb341 ≠ gb342)); have n6_ := Aside0.mk ((by rw [hg]; exact Nat.ne_of_gt (blk_lt (g := gb341) (o := .cells #[.slice A0_0 l0_0.length c0_0, .slice A0_1 l0_1.length c0_1] 31 (0, 0)) (kz BK341)) : gb342 ≠ gb341)); clear BK341; clear HB; have BK341 := n0_; have HB := n1_; have BK342 := n2_; have GW342 := n3_; have GE342 := n4_; have NB341_342 := n5_; have NB342_341 := n6_; clear n0_ n1_ n2_ n3_ n4_ n5_ n6_; clear hb hbox hg; have hnb18 := NB341_342.out; have hnc18 := NB342_341.out; have hcz19_0 : w17.cell? ⟨gb341, 0, none⟩ = some (.slice A0_0 l0_0.length c0_0) := (blk_cell BK341.out 0).trans rfl; have hcz19_1 : w17.cell? ⟨gb341, 1, none⟩ = some (.slice A0_1 l0_1.length c0_1) := (blk_cell BK341.out 1).trans rfl; have hfz19_0 := blk_frozen BK341.out 0; have hfz19_1 := blk_frozen BK341.out 1; have hcz20_0 : w17.cell? ⟨gb342, 0, none⟩ = some (.slice A1_0 l1_0.length c1_0) := (blk_cell BK342.out 0).trans rfl; have hcz20_1 : w17.cell? ⟨gb342, 1, none⟩ = some (.slice A1_1 l1_1.length c1_1) := (blk_cell BK342.out 1).trans rfl; have hfz20_0 := blk_frozen BK342.out 0; have hfz20_1 := blk_frozen BK342.out 1) | ((with_reducible refine gate_callee (f := 55) rfl ?_); refine goesL_ (some 9) rfl rfl Try.func55 (by kernel_rfl) rfl #[.slice A0_0 l0_0.length c0_0, .slice A1_0 l1_0.length c1_0] rfl az ?_; (with_reducible refine (laws_eqVarS.calls k _ _ l0_0 _ _ l1_0 true _ ?side1 HC0_0.out ?side3 HC1_0.out A3.out).mono ?_); (case side1 => exact cz HR0_0 HB); (case side3 => exact cz HR1_0 HB); rintro e w21 ⟨rfl, hb⟩; refine ⟨_, rfl, ?_⟩; replace BK341 := Aside0.mk (blk_below (g := gb341) (o := .cells #[.slice A0_0 l0_0.length c0_0, .slice A0_1 l0_1.length c0_1] 31 (0, 0)) (kz BK341) hb); replace BK342 := Aside0.mk (blk_below (g := gb342) (o := .cells #[.slice A1_0 l1_0.length c1_0, .slice A1_1 l1_1.length c1_1] 31 (0, 0)) (kz BK342) hb); replace HB := Aside0.mk (below_step (bz2 HB GE341 GE342) hb); clear hb; have hcz22_0 : w21.cell? ⟨gb341, 0, none⟩ = some (.slice A0_0 l0_0.length c0_0) := (blk_cell BK341.out 0).trans rfl; have hcz22_1 : w21.cell? ⟨gb341, 1, none⟩ = some (.slice A0_1 l0_1.length c0_1) := (blk_cell BK341.out 1).trans rfl; have hfz22_0 := blk_frozen BK341.out 0; have hfz22_1 := blk_frozen BK341.out 1; have hcz23_0 : w21.cell? ⟨gb342, 0, none⟩ = some (.slice A1_0 l1_0.length c1_0) := (blk_cell BK342.out 0).trans rfl; have hcz23_1 : w21.cell? ⟨gb342, 1, none⟩ = some (.slice A1_1 l1_1.length c1_1) := (blk_cell BK342.out 1).trans rfl; have hfz23_0 := blk_frozen BK342.out 0; have hfz23_1 := blk_frozen BK342.out 1) | ((with_reducible refine gate_callee (f := 56) rfl ?_); refine goesL_ (some 15) rfl rfl Try.func56 (by kernel_rfl) rfl #[.slice A0_1 l0_1.length c0_1, .slice A1_1 l1_1.length c1_1] rfl az ?_; (with_reducible refine (laws_eqRuleS.calls k _ _ l0_1 _ _ l1_1 false _ ?side1 HC0_1.out ?side3 HC1_1.out A5.out).mono ?_); (case side1 => exact cz HR0_1 HB); (case side3 => exact cz HR1_1 HB); rintro e w24 ⟨rfl, hb⟩; refine ⟨_, rfl, ?_⟩; replace BK341 := Aside0.mk (blk_below (g := gb341) (o := .cells #[.slice A0_0 l0_0.length c0_0, .slice A0_1 l0_1.length c0_1] 31 (0, 0)) (kz BK341) hb); replace BK342 := Aside0.mk (blk_below (g := gb342) (o := .cells #[.slice A1_0 l1_0.length c1_0, .slice A1_1 l1_1.length c1_1] 31 (0, 0)) (kz BK342) hb); replace HB := Aside0.mk (below_step (bz2 HB GE341 GE342) hb); clear hb))
 go_ret
 exact ⟨rz, bz2 HB GE341 GE342⟩
end Go.Proofs.Ytoofhjflfpccdaa.PA
end
