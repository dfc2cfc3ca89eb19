/- Walks of Go functions: each is shown to answer as the Lean function beside it tells, under the conditions that its theorem names. -/
import Derived.Test.YtblhlpllkpcolaaProg
import Derived.KernelRfl
import Derived.Below
import Derived.Deep.Draws
import Derived.Deep.AppendLies
import Derived.Maps.AppendAt
import Derived.OwnWalk
import Derived.Laws.BytesArg
import Derived.Laws.MakeOwn
import Derived.Laws.OwnMore
import Derived.Deep.OwnRows
import Derived.Tactics
import Derived.Lib.ConvBytes
import Derived.Laws.Slices
import Derived.WalkKit
import Derived.RowKit3
import Derived.Deep.LoopGhost
import Derived.Deep.QuietTactic
import Derived.BigQuiet
import Derived.WideLaws
import Derived.Deep.DeepCutAuto
import Derived.Deep.CutBlock
import Derived.Deep.RegionHeld3
import Derived.Laws.Rows
import Derived.Lib.AppendStr
import Derived.ArgAppend
import Derived.Laws.IdiomCopy
import Derived.OrdersHeld
import Derived.Laws.BitsLemmas
import Derived.RowKit
import Derived.Laws.StructEq
import Derived.Lib.SliceRun
import Derived.WalkSpells
import Derived.ChangeArms
import Derived.ChangeSlices
import Derived.Deep.Slices
import Derived.Attr
import Derived.Laws.Append
import Derived.Laws.AppendOwn
import Derived.Laws.Entries
import Derived.Calls
import Derived.Laws.Sem
import Derived.Test.YtblhlpllkpcolaaKP675750eb9a
import Derived.Test.YtblhlpllkpcolaaKP56b4770607
import Derived.Test.YtblhlpllkpcolaaKQ54ba928aaf
namespace Go.Proofs.Ytblhlpllkpcolaa.PA
open Go Go.Abs Go.RowKit Go.Proofs Go.Proofs.YtblhlpllkpcolaaW.PrintWords Go.Proofs.YtblhlpllkpcolaaW.PrintLast Go.Proofs.YtblhlpllkpcolaaW.PrintMore
set_option maxRecDepth 100000
set_option maxHeartbeats 4000000
set_option linter.unusedVariables false
set_option linter.unusedSimpArgs false
theorem laws_FnExactWidened.ev {k : Nat} {l0_0 : List LVar} {v0_0 : PV} (hv0_0 : Sl cLVar l0_0 v0_0) {l0_1 : List LRule} {v0_1 : PV} (hv0_1 : Sl cLRule l0_1 v0_1) {l1 : List Int} {v1 : PV} (hv1 : Sl (cInt .i64) l1 v1) {l2 : List Int} {v2 : PV} (hv2 : Sl (cInt .i64) l2 v2) (H : laws_FnExactWidened.Good k l0_0 l0_1 l1 l2) : Ret Try.prog 12 [.agg [v0_0, v0_1], v1, v2] fun v S => v = .lit (.bool true) := by
 unfold laws_FnExactWidened.Good at H
 refine Ret.intro Try.func12 rfl (Nat.le_of_ble_eq_true rfl) rfl ?_
 rw [tm3]
 refine Evr.seq (Evr.regionN rfl (Opl.box (cs := [v0_0, v0_1]) rfl rfl rfl rfl ?_))
 rintro i1 S h1 u1 w1
 refine Opl.one rfl rfl (by simp only [go_sem]; rfl) (Opl.nil (Evr.seq (Evr.seq (Evr.regionN rfl (Opl.one rfl rfl (by simp only [go_sem]; rfl) (Opl.len (xs := l1) (by exact hv1) K26 rfl rfl rfl rfl (Opl.one rfl rfl (by simp only [go_sem]; rfl) (Opl.nil ?_))))))))
 by_cases c1 : (l1.length : Int) > 1048576
 ·
  have e1 : (decide ((l1.length : Int) > 1048576)) = true := by simpa using c1
  try rw [e1]
  refine Evr.condT rfl (Evr.seq (Evr.regionN rfl (Opl.one rfl rfl (by simp only [go_sem]; rfl) (Opl.nil ?_))))
  exact Evr.ret1 Try.func12 rfl rfl
 replace H := H.resolve_left c1
 have e2 : (decide ((l1.length : Int) > 1048576)) = false := by simpa using c1
 try rw [e2]
 refine Evr.condF rfl (Evr.skip (Evr.seq (Evr.seq (Evr.regionN rfl (Opl.one rfl rfl (by simp only [go_sem]; rfl) (Opl.len (xs := l2) (by exact hv2) K26 rfl rfl rfl rfl (Opl.one rfl rfl (by simp only [go_sem]; rfl) (Opl.nil ?_))))))))
 by_cases c2 : (l2.length : Int) > 1048576
 ·
  have e3 : (decide ((l2.length : Int) > 1048576)) = true := by simpa using c2
  try rw [e3]
  refine Evr.condT rfl (Evr.seq (Evr.regionN rfl (Opl.one rfl rfl (by simp only [go_sem]; rfl) (Opl.nil ?_))))
  exact Evr.ret1 Try.func12 rfl rfl
 replace H := H.resolve_left c2
 have e4 : (decide ((l2.length : Int) > 1048576)) = false := by simpa using c2
 try rw [e4]
 refine Evr.condF rfl (Evr.skip (Evr.seq (Evr.regionN rfl (Opl.one rfl rfl (by simp only [go_sem]; rfl) (Opl.nil (Evr.seq (Evr.regionN rfl (Opl.ldb (v := .agg [v0_0, v0_1]) h1 rfl T25 rfl rfl rfl rfl (Opl.one rfl rfl (by simp only [go_sem]; rfl) ?_)))))))))
 obtain ⟨t_1, hf1, H⟩ := H
 refine Opl.callc (laws_szSystem.ev hv0_0 hv0_1 hf1) rfl rfl rfl rfl ⟨(.aggL ⟨hv0_0.plain, hv0_1.plain, trivial⟩), (.lit _), trivial⟩ (by decide) (Opl.one rfl rfl (by simp only [go_sem]; rfl) (Opl.nil (Evr.seq (Evr.seq (Evr.regionN rfl (Opl.one rfl rfl (by simp only [go_sem]; rfl) (Opl.one rfl rfl (by simp only [go_sem]; rfl) (Opl.nil ?_))))))))
 by_cases c3 : t_1 < 0
 ·
  have e5 : (decide (t_1 < 0)) = true := by simpa using c3
  try rw [e5]
  refine Evr.condT rfl (Evr.seq (Evr.regionN rfl (Opl.one rfl rfl (by simp only [go_sem]; rfl) (Opl.nil ?_))))
  exact Evr.ret1 Try.func12 rfl rfl
 replace H := H.resolve_left c3
 have e6 : (decide (t_1 < 0)) = false := by simpa using c3
 try rw [e6]
 refine Evr.condF rfl (Evr.skip (Evr.seq (Evr.regionN rfl (Opl.ldb (v := .agg [v0_0, v0_1]) h1 rfl T25 rfl rfl rfl rfl ?_))))
 obtain ⟨b_1, hf2, H⟩ := H
 obtain ⟨hf3, H⟩ := H
 refine Opl.call (laws_toSystem.ev hv0_0 hv0_1 hf2) rfl rfl rfl rfl ⟨(.aggL ⟨hv0_0.plain, hv0_1.plain, trivial⟩), trivial⟩ (by decide) ?_
 rintro _ ⟨pv2, pv3, rfl, h3, h4⟩
 refine Opl.one rfl rfl (by simp only [go_sem]; rfl) ?_
 obtain ⟨b_2, hf4, H⟩ := H
 obtain ⟨hf5, H⟩ := H
 refine Opl.call ((laws_toIntS.ev hv1 hf4).mono fun _ _ h => Out.vec h) rfl rfl rfl rfl ⟨hv1.plain, trivial⟩ (by decide) ?_
 rintro pv4 h5
 refine Opl.one rfl rfl (by simp only [go_sem]; rfl) ?_
 obtain ⟨b_3, hf6, H⟩ := H
 obtain ⟨hf7, H⟩ := H
 refine Opl.call ((laws_toIntS.ev hv2 hf6).mono fun _ _ h => Out.vec h) rfl rfl rfl rfl ⟨hv2.plain, trivial⟩ (by decide) ?_
 rintro pv5 h6
 obtain ⟨w_1, hf8, H⟩ := H
 refine Opl.call ((spec_Widened.ev h3 h4 h5 h6 hf8).mono fun _ _ h => Out.vec h) rfl rfl rfl rfl ⟨(.aggL ⟨h3.plain, h4.plain, trivial⟩), h5.plain, h6.plain, trivial⟩ (by decide) ?_
 rintro pv6 h7
 refine Opl.one rfl rfl (by simp only [go_sem]; rfl) (Opl.nil (Evr.seq (Evr.regionN rfl (Opl.ldb (v := .agg [v0_0, v0_1]) h1 rfl T25 rfl rfl rfl rfl ?_))))
 refine Opl.callm (laws_toSystem.mk hv0_0 hv0_1 hf2) rfl rfl rfl rfl rfl ?_
 rintro q1 S ids1 h8 f1 g1
 obtain ⟨pq1_0, pq1_1, rfl⟩ := two_of (((oPr (oRow (oPl cIVar oIVar)) (oRow owIRule))).len h8)
 have o1 : pq1_0.one = true := ((oPr (oRow (oPl cIVar oIVar)) (oRow owIRule))).ones h8 _ (by simp)
 have o2 : pq1_1.one = true := ((oPr (oRow (oPl cIVar oIVar)) (oRow owIRule))).ones h8 _ (by simp)
 have ap1 := f1.box h1
 have h9 := g1.box h1
 refine Opl.alloc T32 rfl rfl rfl ?_
 rintro i2 S h10 u2 w2
 have ap2 := w2.box h9
 have h11 := u2.box h9 ap2
 have ap3 := w2.tree h8
 have h12 := u2.tree h8 ap3
 refine Opl.stb (vs := [pq1_0, pq1_1]) h10 rfl rfl Z32 rfl (Nat.le_of_ble_eq_true rfl) (by simp only [List.all_cons, List.all_nil, o1, o2, Bool.and_true, Bool.true_and] <;> rfl) rfl rfl rfl ?_
 rintro S (h13 : Box (.ptr i2 0) [pq1_0, pq1_1] _) u3
 have h14 := u3.box h11 ap2
 have h15 := u3.tree h12 ap3
 refine Opl.nil (Evr.seq (Evr.regionN rfl (Opl.one rfl rfl (by simp only [go_sem]; rfl) ?_)))
 refine Opl.calla (laws_toIntS.ev hv1 hf4) rfl rfl rfl rfl ⟨hv1.plain, trivial⟩ rfl ?_
 rintro p1 S h17 u4 w4
 have h16 := h17.tree (oInt .i64)
 have f2 := w4.fresh
 have g2 := Grow.of u4 w4
 have o3 : p1.one = true := oRow_p1 h16
 have ap4 := f2.box h14
 have h18 := g2.box h14
 have ap5 := f2.tree h15
 have h19 := g2.tree h15
 have ap6 := f2.box h13
 have h20 := g2.box h13
 refine Opl.one rfl rfl (by simp only [go_sem]; rfl) (Opl.nil (Evr.seq (Evr.regionN rfl (Opl.one rfl rfl (by simp only [go_sem]; rfl) ?_))))
 refine Opl.calla (laws_toIntS.ev hv2 hf6) rfl rfl rfl rfl ⟨hv2.plain, trivial⟩ rfl ?_
 rintro p2 S h22 u5 w5
 have h21 := h22.tree (oInt .i64)
 have f3 := w5.fresh
 have g3 := Grow.of u5 w5
 have o4 : p2.one = true := oRow_p1 h21
 have ap7 := f3.box h18
 have h23 := g3.box h18
 have ap8 := f3.tree h19
 have h24 := g3.tree h19
 have ap9 := f3.box h20
 have h25 := g3.box h20
 have ap10 := f3.tree h16
 have h26 := g3.tree h16
 refine Opl.one rfl rfl (by simp only [go_sem]; rfl) (Opl.nil (Evr.seq (Evr.regionN rfl (Opl.ldb (v := .agg [pq1_0, pq1_1]) h25 rfl T32 rfl rfl rfl rfl (Opl.one rfl rfl (by simp only [go_sem]; rfl) (Opl.one rfl rfl (by simp only [go_sem]; rfl) ?_))))))
 obtain ⟨hf9, H⟩ := H
 obtain ⟨_, vw1, r1⟩ := ((oPr (oRow (oPl cIVar oIVar)) (oRow owIRule))).view h24
 obtain ⟨_, _, rfl, r2, r3⟩ := r1
 obtain ⟨pv7, rfl, h27⟩ := r2
 have h27 : Sl cIVar b_1.1 pv7 := h27
 obtain ⟨pv8, rfl, h28⟩ := r3
 have h28 : Sl cIRule b_1.2 pv8 := h28
 obtain ⟨_, vw2, r4⟩ := ((oRow (oPl (cInt .i64) (oInt .i64)))).view h26
 obtain ⟨pv9, rfl, h29⟩ := r4
 have h29 : Sl (cInt .i64) b_2 pv9 := h29
 replace vw2 := vw2.2 0 _ _ rfl rfl
 obtain ⟨_, vw3, r5⟩ := ((oRow (oPl (cInt .i64) (oInt .i64)))).view h21
 obtain ⟨pv10, rfl, h30⟩ := r5
 have h30 : Sl (cInt .i64) b_3 pv10 := h30
 replace vw3 := vw3.2 0 _ _ rfl rfl
 refine Opl.callg1 (.pl (sInt .i64)) ((impl_Widened.ev h27 h28 h29 h30 hf9).mono fun _ _ h => Vec.own1 (oInt .i64) h) rfl rfl rfl (.cons (ViewL.agg vw1) (.cons vw2 (.cons vw3 .nil))) ⟨(.aggL ⟨h27.plain, h28.plain, trivial⟩), h29.plain, h30.plain, trivial⟩ rfl ?_
 rintro p3 S ids4 h31 f4 g4
 obtain ⟨hv_, rfl⟩ := tree_vec h31
 have o5 : p3.one = true := oRow_p1 h31
 have ap11 := f4.box h23
 have h32 := g4.box h23
 have ap12 := f4.tree h24
 have h33 := g4.tree h24
 have ap13 := f4.box h25
 have h34 := g4.box h25
 have ap14 := f4.tree h26
 have h35 := g4.tree h26
 have ap15 := f4.tree h21
 have h36 := g4.tree h21
 refine Opl.one rfl rfl (by simp only [go_sem]; rfl) (Opl.nil (Evr.seq (Evr.seq (Evr.regionN rfl (Opl.one rfl rfl (by simp only [go_sem]; rfl) (Opl.one rfl rfl (by simp only [go_sem]; rfl) ?_))))))
 obtain ⟨hf10, H⟩ := H
 obtain ⟨_, vw4, r6⟩ := ((oRow (oPl (cInt .i64) (oInt .i64)))).view h31
 obtain ⟨pv11, rfl, h37⟩ := r6
 have h37 : Sl (cInt .i64) w_1 pv11 := h37
 replace vw4 := vw4.2 0 _ _ rfl rfl
 refine Opl.callw (laws_eqIntS.ev h37 h7 hf10) rfl rfl rfl (.cons vw4 (.cons (.refl _) .nil)) ⟨h37.plain, h7.plain, trivial⟩ (by decide) (Opl.one rfl rfl (by simp only [go_sem]; rfl) (Opl.nil (Evr.condF rfl (Evr.skip (Evr.seq (Evr.seq (Evr.regionD rfl (by kernel_rfl) (Opl.ldb (v := .agg [pq1_0, pq1_1]) h34 rfl T32 rfl rfl rfl rfl (Opl.ldb (v := .agg [v0_0, v0_1]) h32 rfl T25 rfl rfl rfl rfl ?_)))))))))
 refine Opl.call (laws_toSystem.ev hv0_0 hv0_1 hf2) rfl rfl rfl rfl ⟨(.aggL ⟨hv0_0.plain, hv0_1.plain, trivial⟩), trivial⟩ (by decide) ?_
 rintro _ ⟨pv13, pv14, rfl, h39, h40⟩
 obtain ⟨hf11, H⟩ := H
 obtain ⟨_, vw5, r7⟩ := ((oPr (oRow (oPl cIVar oIVar)) (oRow owIRule))).view h33
 obtain ⟨_, _, rfl, r8, r9⟩ := r7
 obtain ⟨pv15, rfl, h41⟩ := r8
 have h41 : Sl cIVar b_1.1 pv15 := h41
 obtain ⟨pv16, rfl, h42⟩ := r9
 have h42 : Sl cIRule b_1.2 pv16 := h42
 refine Opl.callw (laws_eqSystem.ev h41 h42 h39 h40 hf11) rfl rfl rfl (.cons (ViewL.agg vw5) (.cons (.refl _) .nil)) ⟨(.aggL ⟨h41.plain, h42.plain, trivial⟩), (.aggL ⟨h39.plain, h40.plain, trivial⟩), trivial⟩ (by decide) (Opl.one rfl rfl (by simp only [go_sem]; rfl) (Opl.nil (Evr.condF rfl (Evr.skip (Evr.seq (Evr.seq (Evr.regionN rfl (Opl.one rfl rfl (by simp only [go_sem]; rfl) (Opl.one rfl rfl (by simp only [go_sem]; rfl) ?_)))))))))
 refine Opl.call ((laws_toIntS.ev hv1 hf4).mono fun _ _ h => Out.vec h) rfl rfl rfl rfl ⟨hv1.plain, trivial⟩ (by decide) ?_
 rintro pv17 h43
 obtain ⟨hf12, H⟩ := H
 obtain ⟨_, vw6, r10⟩ := ((oRow (oPl (cInt .i64) (oInt .i64)))).view h35
 obtain ⟨pv18, rfl, h44⟩ := r10
 have h44 : Sl (cInt .i64) b_2 pv18 := h44
 replace vw6 := vw6.2 0 _ _ rfl rfl
 refine Opl.callw (laws_eqIntS.ev h44 h43 hf12) rfl rfl rfl (.cons vw6 (.cons (.refl _) .nil)) ⟨h44.plain, h43.plain, trivial⟩ (by decide) (Opl.one rfl rfl (by simp only [go_sem]; rfl) (Opl.nil (Evr.condF rfl (Evr.skip (Evr.seq (Evr.seq (Evr.regionN rfl (Opl.one rfl rfl (by simp only [go_sem]; rfl) (Opl.one rfl rfl (by simp only [go_sem]; rfl) ?_)))))))))
 refine Opl.call ((laws_toIntS.ev hv2 hf6).mono fun _ _ h => Out.vec h) rfl rfl rfl rfl ⟨hv2.plain, trivial⟩ (by decide) ?_
 rintro pv19 h45
 obtain ⟨hf13, H⟩ := H
 obtain ⟨_, vw7, r11⟩ := ((oRow (oPl (cInt .i64) (oInt .i64)))).view h36
 obtain ⟨pv20, rfl, h46⟩ := r11
 have h46 : Sl (cInt .i64) b_3 pv20 := h46
 replace vw7 := vw7.2 0 _ _ rfl rfl
 refine Opl.callw (laws_eqIntS.ev h46 h45 hf13) rfl rfl rfl (.cons vw7 (.cons (.refl _) .nil)) ⟨h46.plain, h45.plain, trivial⟩ (by decide) (Opl.one rfl rfl (by simp only [go_sem]; rfl) (Opl.nil (Evr.condF rfl (Evr.skip (Evr.seq (Evr.regionN rfl (Opl.one rfl rfl (by simp only [go_sem]; rfl) (Opl.nil (Evr.seq (Evr.regionN rfl (Opl.ldb (v := .agg [pq1_0, pq1_1]) h34 rfl T32 rfl rfl rfl rfl (Opl.one rfl rfl (by simp only [go_sem]; rfl) (Opl.mark laws_markSystem.mks (B := 4611691515988672512) h33 ⟨trivial, ⟨Nat.le_trans hf3.2.1 (by decide), fun y0 hy0 => ⟨trivial, trivial, ⟨Nat.le_trans (hf3.2.2 y0 hy0).2.2.1 (by decide), fun y1 hy1 => trivial⟩⟩⟩⟩ (Nat.add_le_add (leaves_le hf3.1 fun _ _ => Nat.le_refl _) (leaves_le hf3.2.1 fun y0 hy0 => (Nat.add_le_add (Nat.add_le_add (leaves_le (hf3.2.2 y0 hy0).1 fun _ _ => Nat.le_refl _) (leaves_le (hf3.2.2 y0 hy0).2.1 fun _ _ => Nat.le_refl _)) (leaves_le (hf3.2.2 y0 hy0).2.2.1 fun y1 hy1 => (leaves_le ((hf3.2.2 y0 hy0).2.2.2 y1 hy1) fun _ _ => Nat.le_refl _))))) (by omega) (by omega) rfl rfl rfl rfl rfl ?_)))))))))))))
 rintro k_1 S h47 h48 s1
 have h49 : 0 ≤ k_1 := by omega
 have h50 := s1.box h32 ap1
 have h51 := s1.box h34 ap3
 have h52 := s1.tree h35 ap5.symm
 have h53 := s1.tree h36 ap8.symm
 have h54 := s1.tree h31 ap12.symm
 refine Opl.one rfl rfl (by simp only [go_sem]; rfl) (Opl.nil (Evr.seq (Evr.regionN rfl (Opl.one rfl rfl (by simp only [go_sem]; rfl) (Opl.one rfl rfl (by simp only [go_sem]; rfl) (Opl.mark laws_markIntS.mks (B := 1048576) h52 trivial (leaves_le hf5 fun _ _ => Nat.le_refl _) (by omega) (by omega) rfl rfl rfl rfl rfl ?_))))))
 rintro k_2 S h55 h56 s2
 have h57 : 0 ≤ k_2 := by omega
 have h58 := s2.box h50 ap4
 have h59 := s2.box h51 ap6
 have h60 := s2.tree h53 ap10.symm
 have h61 := s2.tree h54 ap14.symm
 refine Opl.one rfl rfl (by simp only [go_sem]; rfl) (Opl.nil (Evr.seq (Evr.regionN rfl (Opl.one rfl rfl (by simp only [go_sem]; rfl) (Opl.one rfl rfl (by simp only [go_sem]; rfl) (Opl.mark laws_markIntS.mks (B := 1048576) h60 trivial (leaves_le hf7 fun _ _ => Nat.le_refl _) (by omega) (by omega) rfl rfl rfl rfl rfl ?_))))))
 rintro k_3 S h62 h63 s3
 have h64 : 0 ≤ k_3 := by omega
 have h65 := s3.box h58 ap7
 have h66 := s3.box h59 ap9
 have h67 := s3.tree h61 ap15.symm
 refine Opl.one rfl rfl (by simp only [go_sem]; rfl) (Opl.nil (Evr.seq (Evr.seq (Evr.regionN rfl (Opl.one rfl rfl (by simp only [go_sem]; rfl) (Opl.one rfl rfl (by simp only [go_sem]; rfl) (Opl.one rfl rfl (by simp only [go_sem]; rfl) ?_)))))))
 have e7 : (decide (k_3 < 0)) = false := decide_eq_false (by have := h64; omega)
 try rw [e7]
 refine Opl.one rfl rfl (by simp only [go_sem]; rfl) (Opl.one rfl rfl (by simp only [go_sem]; rfl) ?_)
 obtain ⟨_, vw8, r12⟩ := ((oRow (oPl (cInt .i64) (oInt .i64)))).view h67
 obtain ⟨pv21, rfl, h68⟩ := r12
 have h68 : Sl (cInt .i64) w_1 pv21 := h68
 replace vw8 := vw8.2 0 _ _ rfl rfl
 refine Opl.callw (laws_eqIntS.ev h68 h7 hf10) rfl rfl rfl (.cons vw8 (.cons (.refl _) .nil)) ⟨h68.plain, h7.plain, trivial⟩ (by decide) (Opl.one rfl rfl (by simp only [go_sem]; rfl) (Opl.one rfl rfl (by simp only [go_sem]; rfl) (Opl.nil (Evr.condF rfl (Evr.skip (Evr.seq (Evr.regionN rfl (Opl.one rfl rfl (by simp only [go_sem]; rfl) (Opl.nil (Evr.seq (Evr.regionN rfl (Opl.one rfl rfl (by simp only [go_sem]; rfl) (Opl.one rfl rfl (by simp only [go_sem]; rfl) ?_)))))))))))))
 obtain ⟨m_1, w_2, hf14, H⟩ := H
 obtain ⟨hf15, H⟩ := H
 refine Opl.calls (laws_markIntS.evm (tree_vec h67).1 hf14) rfl rfl rfl rfl rfl ?_
 rintro _ S ⟨rfl, h69, s4⟩
 have h70 := s4.box h65 ap11
 have h71 := s4.box h66 ap13
 have h72 := h69.tree (oInt .i64)
 refine Opl.one rfl rfl (by simp only [go_sem]; rfl) (Opl.nil (Evr.seq (Evr.regionN rfl (Opl.one rfl rfl (by simp only [go_sem]; rfl) (Opl.nil (Evr.seq (Evr.regionN rfl (Opl.one rfl rfl (by simp only [go_sem]; rfl) (Opl.one rfl rfl (by simp only [go_sem]; rfl) ?_)))))))))
 obtain ⟨hf16, H⟩ := H
 obtain ⟨_, vw9, r13⟩ := ((oRow (oPl (cInt .i64) (oInt .i64)))).view h72
 obtain ⟨pv22, rfl, h73⟩ := r13
 have h73 : Sl (cInt .i64) w_2 pv22 := h73
 replace vw9 := vw9.2 0 _ _ rfl rfl
 refine Opl.callw (laws_heldIntS.ev h73 hf16) rfl rfl rfl (.cons vw9 (.cons (.refl _) .nil)) ⟨h73.plain, (.lit _), trivial⟩ (by decide) (Opl.one rfl rfl (by simp only [go_sem]; rfl) (Opl.nil (Evr.seq (Evr.seq (Evr.regionN rfl (Opl.one rfl rfl (by simp only [go_sem]; rfl) (Opl.one rfl rfl (by simp only [go_sem]; rfl) (Opl.nil ?_))))))))
 have e8 : (decide (m_1 < 0)) = false := decide_eq_false (by have := hf15; omega)
 try rw [e8]
 refine Evr.condF rfl (Evr.skip (Evr.seq (Evr.seq (Evr.regionN rfl (Opl.one rfl rfl (by simp only [go_sem]; rfl) (Opl.one rfl rfl (by simp only [go_sem]; rfl) (Opl.one rfl rfl (by simp only [go_sem]; rfl) (Opl.nil ?_))))))))
 have e9 : (m_1 != m_1) = false := by simp
 try rw [e9]
 refine Evr.condF rfl (Evr.skip (Evr.seq (Evr.regionN rfl (Opl.ldb (v := .agg [v0_0, v0_1]) h70 rfl T25 rfl rfl rfl rfl ?_))))
 refine Opl.call (laws_toSystem.ev hv0_0 hv0_1 hf2) rfl rfl rfl rfl ⟨(.aggL ⟨hv0_0.plain, hv0_1.plain, trivial⟩), trivial⟩ (by decide) ?_
 rintro _ ⟨pv24, pv25, rfl, h75, h76⟩
 refine Opl.one rfl rfl (by simp only [go_sem]; rfl) ?_
 refine Opl.call ((laws_toIntS.ev hv1 hf4).mono fun _ _ h => Out.vec h) rfl rfl rfl rfl ⟨hv1.plain, trivial⟩ (by decide) ?_
 rintro pv26 h77
 refine Opl.one rfl rfl (by simp only [go_sem]; rfl) ?_
 refine Opl.call ((laws_toIntS.ev hv2 hf6).mono fun _ _ h => Out.vec h) rfl rfl rfl rfl ⟨hv2.plain, trivial⟩ (by decide) ?_
 rintro pv27 h78
 refine Opl.call ((impl_Widened.ev h75 h76 h77 h78 hf9).mono fun _ _ h => Out.vec h) rfl rfl rfl rfl ⟨(.aggL ⟨h75.plain, h76.plain, trivial⟩), h77.plain, h78.plain, trivial⟩ (by decide) ?_
 rintro pv28 h79
 refine Opl.one rfl rfl (by simp only [go_sem]; rfl) (Opl.nil (Evr.seq (Evr.seq (Evr.regionN rfl (Opl.one rfl rfl (by simp only [go_sem]; rfl) (Opl.one rfl rfl (by simp only [go_sem]; rfl) ?_))))))
 refine Opl.callc (laws_eqIntS.ev h79 h7 hf10) rfl rfl rfl rfl ⟨h79.plain, h7.plain, trivial⟩ (by decide) (Opl.one rfl rfl (by simp only [go_sem]; rfl) (Opl.nil (Evr.condF rfl (Evr.skip (Evr.seq (Evr.regionN rfl (Opl.one rfl rfl (by simp only [go_sem]; rfl) (Opl.nil (Evr.seq (Evr.regionN rfl (Opl.one rfl rfl (by simp only [go_sem]; rfl) (Opl.one rfl rfl (by simp only [go_sem]; rfl) ?_))))))))))))
 obtain ⟨_, vw10, r14⟩ := ((oRow (oPl (cInt .i64) (oInt .i64)))).view h72
 obtain ⟨pv29, rfl, h80⟩ := r14
 have h80 : Sl (cInt .i64) w_2 pv29 := h80
 replace vw10 := vw10.2 0 _ _ rfl rfl
 refine Opl.callw (laws_heldIntS.ev h80 hf16) rfl rfl rfl (.cons vw10 (.cons (.refl _) .nil)) ⟨h80.plain, (.lit _), trivial⟩ (by decide) (Opl.one rfl rfl (by simp only [go_sem]; rfl) (Opl.nil (Evr.seq (Evr.seq (Evr.regionN rfl (Opl.one rfl rfl (by simp only [go_sem]; rfl) (Opl.one rfl rfl (by simp only [go_sem]; rfl) (Opl.nil ?_))))))))
 have e10 : (decide (m_1 < 0)) = false := decide_eq_false (by have := hf15; omega)
 try rw [e10]
 refine Evr.condF rfl (Evr.skip (Evr.seq (Evr.seq (Evr.regionN rfl (Opl.one rfl rfl (by simp only [go_sem]; rfl) (Opl.one rfl rfl (by simp only [go_sem]; rfl) (Opl.one rfl rfl (by simp only [go_sem]; rfl) (Opl.nil ?_))))))))
 have e11 : (m_1 != m_1) = false := by simp
 try rw [e11]
 refine Evr.condF rfl (Evr.skip (Evr.seq (Evr.regionN rfl (Opl.one rfl rfl (by simp only [go_sem]; rfl) (Opl.nil ?_)))))
 exact Evr.ret1 Try.func12 rfl rfl
end Go.Proofs.Ytblhlpllkpcolaa.PA
