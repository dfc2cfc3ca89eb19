/- Walks of Go functions: each is shown to answer as the Lean function beside it tells, under the conditions that its theorem names. -/
import Derived.Test.YtblhlpllkpcolaaProg
import Derived.KernelRfl
import Derived.Below
import Derived.Deep.Draws
import Derived.Deep.AppendLies
import Derived.Maps.AppendAt
import Derived.OwnWalk
import Derived.Laws.BytesArg
import Derived.Laws.MakeOwn
import Derived.Laws.OwnMore
import Derived.Deep.OwnRows
import Derived.Tactics
import Derived.Lib.ConvBytes
import Derived.Laws.Slices
import Derived.WalkKit
import Derived.RowKit3
import Derived.Deep.LoopGhost
import Derived.Deep.QuietTactic
import Derived.BigQuiet
import Derived.WideLaws
import Derived.Deep.DeepCutAuto
import Derived.Deep.CutBlock
import Derived.Deep.RegionHeld3
import Derived.Laws.Rows
import Derived.Lib.AppendStr
import Derived.ArgAppend
import Derived.Laws.IdiomCopy
import Derived.OrdersHeld
import Derived.Laws.BitsLemmas
import Derived.RowKit
import Derived.Laws.StructEq
import Derived.Lib.SliceRun
import Derived.WalkSpells
import Derived.ChangeArms
import Derived.ChangeSlices
import Derived.Deep.Slices
import Derived.Attr
import Derived.Laws.Append
import Derived.Laws.AppendOwn
import Derived.Laws.Entries
import Derived.Calls
import Derived.Laws.Sem
import Derived.Test.YtblhlpllkpcolaaKP2cc54444eb
import Derived.Test.YtblhlpllkpcolaaKPc9f78b2a53
import Derived.Test.YtblhlpllkpcolaaKQ8d82fce892
namespace Go.Proofs.Ytblhlpllkpcolaa.PA
open Go Go.Abs Go.RowKit Go.Proofs Go.Proofs.YtblhlpllkpcolaaW.PrintWords Go.Proofs.YtblhlpllkpcolaaW.PrintLast Go.Proofs.YtblhlpllkpcolaaW.PrintMore
set_option maxRecDepth 100000
set_option maxHeartbeats 4000000
set_option linter.unusedVariables false
set_option linter.unusedSimpArgs false
theorem laws_FnExactLettersOf.ev {k : Nat} {l0_0 : List LVar} {v0_0 : PV} (hv0_0 : Sl cLVar l0_0 v0_0) {l0_1 : List LRule} {v0_1 : PV} (hv0_1 : Sl cLRule l0_1 v0_1) {l1 : List (List LTerm)} {v1 : PV} (hv1 : Sl (cSl cLTerm) l1 v1) {l2 : List Int} {v2 : PV} (hv2 : Sl (cInt .i64) l2 v2) (H : laws_FnExactLettersOf.Good k l0_0 l0_1 l1 l2) : Ret Try.prog 13 [.agg [v0_0, v0_1], v1, v2] fun v S => v = .lit (.bool true) := by
 unfold laws_FnExactLettersOf.Good at H
 refine Ret.intro Try.func13 rfl (Nat.le_of_ble_eq_true rfl) rfl ?_
 rw [tm3]
 refine Evr.seq (Evr.regionN rfl (Opl.box (cs := [v0_0, v0_1]) rfl rfl rfl rfl ?_))
 rintro i1 S h1 u1 w1
 refine Opl.one rfl rfl (by simp only [go_sem]; rfl) (Opl.nil (Evr.seq (Evr.seq (Evr.regionN rfl (Opl.one rfl rfl (by simp only [go_sem]; rfl) (Opl.len (by exact hv2) K26 rfl rfl rfl rfl (Opl.one rfl rfl (by simp only [go_sem]; rfl) (Opl.nil ?_))))))))
 by_cases c1 : (l2.length : Int) > 1048576
 ·
  have e1 : (decide ((l2.length : Int) > 1048576)) = true := by simpa using c1
  try rw [e1]
  refine Evr.condT rfl (Evr.seq (Evr.regionN rfl (Opl.one rfl rfl (by simp only [go_sem]; rfl) (Opl.nil ?_))))
  exact Evr.ret1 Try.func13 rfl rfl
 replace H := H.resolve_left c1
 have e2 : (decide ((l2.length : Int) > 1048576)) = false := by simpa using c1
 try rw [e2]
 refine Evr.condF rfl (Evr.skip (Evr.seq (Evr.regionN rfl (Opl.one rfl rfl (by simp only [go_sem]; rfl) (Opl.nil (Evr.seq (Evr.regionN rfl (Opl.ldb (v := .agg [v0_0, v0_1]) h1 rfl T25 rfl rfl rfl rfl (Opl.one rfl rfl (by simp only [go_sem]; rfl) ?_)))))))))
 obtain ⟨t_1, hf1, H⟩ := H
 refine Opl.callc (laws_szSystem.ev hv0_0 hv0_1 hf1) rfl rfl rfl rfl ⟨(.aggL ⟨hv0_0.plain, hv0_1.plain, trivial⟩), (.lit _), trivial⟩ (by decide) (Opl.one rfl rfl (by simp only [go_sem]; rfl) (Opl.nil (Evr.seq (Evr.seq (Evr.regionN rfl (Opl.one rfl rfl (by simp only [go_sem]; rfl) (Opl.one rfl rfl (by simp only [go_sem]; rfl) (Opl.nil ?_))))))))
 by_cases c2 : t_1 < 0
 ·
  have e3 : (decide (t_1 < 0)) = true := by simpa using c2
  try rw [e3]
  refine Evr.condT rfl (Evr.seq (Evr.regionN rfl (Opl.one rfl rfl (by simp only [go_sem]; rfl) (Opl.nil ?_))))
  exact Evr.ret1 Try.func13 rfl rfl
 replace H := H.resolve_left c2
 have e4 : (decide (t_1 < 0)) = false := by simpa using c2
 try rw [e4]
 refine Evr.condF rfl (Evr.skip (Evr.seq (Evr.regionN rfl (Opl.one rfl rfl (by simp only [go_sem]; rfl) (Opl.one rfl rfl (by simp only [go_sem]; rfl) ?_)))))
 obtain ⟨t_2, hf2, H⟩ := H
 refine Opl.callc (laws_szTermSS.ev hv1 hf2) rfl rfl rfl rfl ⟨hv1.plain, (.lit _), trivial⟩ (by decide) (Opl.one rfl rfl (by simp only [go_sem]; rfl) (Opl.nil (Evr.seq (Evr.seq (Evr.regionN rfl (Opl.one rfl rfl (by simp only [go_sem]; rfl) (Opl.one rfl rfl (by simp only [go_sem]; rfl) (Opl.nil ?_))))))))
 by_cases c3 : t_2 < 0
 ·
  have e5 : (decide (t_2 < 0)) = true := by simpa using c3
  try rw [e5]
  refine Evr.condT rfl (Evr.seq (Evr.regionN rfl (Opl.one rfl rfl (by simp only [go_sem]; rfl) (Opl.nil ?_))))
  exact Evr.ret1 Try.func13 rfl rfl
 replace H := H.resolve_left c3
 have e6 : (decide (t_2 < 0)) = false := by simpa using c3
 try rw [e6]
 refine Evr.condF rfl (Evr.skip (Evr.seq (Evr.regionN rfl (Opl.ldb (v := .agg [v0_0, v0_1]) h1 rfl T25 rfl rfl rfl rfl ?_))))
 obtain ⟨b_1, hf3, H⟩ := H
 obtain ⟨hf4, H⟩ := H
 refine Opl.call (laws_toSystem.ev hv0_0 hv0_1 hf3) rfl rfl rfl rfl ⟨(.aggL ⟨hv0_0.plain, hv0_1.plain, trivial⟩), trivial⟩ (by decide) ?_
 rintro _ ⟨pv2, pv3, rfl, h3, h4⟩
 refine Opl.one rfl rfl (by simp only [go_sem]; rfl) ?_
 obtain ⟨b_2, hf5, H⟩ := H
 obtain ⟨hf6, H⟩ := H
 refine Opl.call ((laws_toTermSS.ev hv1 hf5).mono fun _ _ h => Out.vec h) rfl rfl rfl rfl ⟨hv1.plain, trivial⟩ (by decide) ?_
 rintro pv4 h5
 refine Opl.one rfl rfl (by simp only [go_sem]; rfl) ?_
 obtain ⟨b_3, hf7, H⟩ := H
 obtain ⟨hf8, H⟩ := H
 refine Opl.call ((laws_toIntS.ev hv2 hf7).mono fun _ _ h => Out.vec h) rfl rfl rfl rfl ⟨hv2.plain, trivial⟩ (by decide) ?_
 rintro pv5 h6
 obtain ⟨w_1, hf9, H⟩ := H
 refine Opl.call ((spec_LettersOf.ev h3 h4 h5 h6 hf9).mono fun _ _ h => Out.vec h) rfl rfl rfl rfl ⟨(.aggL ⟨h3.plain, h4.plain, trivial⟩), h5.plain, h6.plain, trivial⟩ (by decide) ?_
 rintro pv6 h7
 refine Opl.one rfl rfl (by simp only [go_sem]; rfl) (Opl.nil (Evr.seq (Evr.regionN rfl (Opl.ldb (v := .agg [v0_0, v0_1]) h1 rfl T25 rfl rfl rfl rfl ?_))))
 refine Opl.callm (laws_toSystem.mk hv0_0 hv0_1 hf3) rfl rfl rfl rfl rfl ?_
 rintro q1 S ids1 h8 f1 g1
 obtain ⟨pq1_0, pq1_1, rfl⟩ := two_of (((oPr (oRow (oPl cIVar oIVar)) (oRow owIRule))).len h8)
 have o1 : pq1_0.one = true := ((oPr (oRow (oPl cIVar oIVar)) (oRow owIRule))).ones h8 _ (by simp)
 have o2 : pq1_1.one = true := ((oPr (oRow (oPl cIVar oIVar)) (oRow owIRule))).ones h8 _ (by simp)
 have ap1 := f1.box h1
 have h9 := g1.box h1
 refine Opl.alloc T32 rfl rfl rfl ?_
 rintro i2 S h10 u2 w2
 have ap2 := w2.box h9
 have h11 := u2.box h9 ap2
 have ap3 := w2.tree h8
 have h12 := u2.tree h8 ap3
 refine Opl.stb (vs := [pq1_0, pq1_1]) h10 rfl rfl Z32 rfl (Nat.le_of_ble_eq_true rfl) (by simp only [List.all_cons, List.all_nil, o1, o2, Bool.and_true, Bool.true_and] <;> rfl) rfl rfl rfl ?_
 rintro S (h13 : Box (.ptr i2 0) [pq1_0, pq1_1] _) u3
 have h14 := u3.box h11 ap2
 have h15 := u3.tree h12 ap3
 refine Opl.nil (Evr.seq (Evr.regionN rfl (Opl.one rfl rfl (by simp only [go_sem]; rfl) ?_)))
 refine Opl.callr (laws_toTermSS.mk hv1 hf5) rfl rfl rfl rfl rfl ?_
 rintro p1 S ids2 h16 f2 g2
 have o3 : p1.one = true := oRow_p1 h16
 have ap4 := f2.box h14
 have h17 := g2.box h14
 have ap5 := f2.tree h15
 have h18 := g2.tree h15
 have ap6 := f2.box h13
 have h19 := g2.box h13
 refine Opl.one rfl rfl (by simp only [go_sem]; rfl) (Opl.nil (Evr.seq (Evr.regionN rfl (Opl.one rfl rfl (by simp only [go_sem]; rfl) ?_))))
 refine Opl.calla (laws_toIntS.ev hv2 hf7) rfl rfl rfl rfl ⟨hv2.plain, trivial⟩ rfl ?_
 rintro p2 S h21 u4 w4
 have h20 := h21.tree (oInt .i64)
 have f3 := w4.fresh
 have g3 := Grow.of u4 w4
 have o4 : p2.one = true := oRow_p1 h20
 have ap7 := f3.box h17
 have h22 := g3.box h17
 have ap8 := f3.tree h18
 have h23 := g3.tree h18
 have ap9 := f3.box h19
 have h24 := g3.box h19
 have ap10 := f3.tree h16
 have h25 := g3.tree h16
 refine Opl.one rfl rfl (by simp only [go_sem]; rfl) (Opl.nil (Evr.seq (Evr.regionN rfl (Opl.ldb (v := .agg [pq1_0, pq1_1]) h24 rfl T32 rfl rfl rfl rfl (Opl.one rfl rfl (by simp only [go_sem]; rfl) (Opl.one rfl rfl (by simp only [go_sem]; rfl) ?_))))))
 obtain ⟨hf10, H⟩ := H
 obtain ⟨_, vw1, r1⟩ := ((oPr (oRow (oPl cIVar oIVar)) (oRow owIRule))).view h23
 obtain ⟨_, _, rfl, r2, r3⟩ := r1
 obtain ⟨pv7, rfl, h26⟩ := r2
 have h26 : Sl cIVar b_1.1 pv7 := h26
 obtain ⟨pv8, rfl, h27⟩ := r3
 have h27 : Sl cIRule b_1.2 pv8 := h27
 obtain ⟨_, vw2, r4⟩ := ((oRow (oRow (oPl cITerm oITerm)))).view h25
 obtain ⟨pv9, rfl, h28⟩ := r4
 have h28 : Sl (cSl cITerm) b_2 pv9 := h28
 replace vw2 := vw2.2 0 _ _ rfl rfl
 obtain ⟨_, vw3, r5⟩ := ((oRow (oPl (cInt .i64) (oInt .i64)))).view h20
 obtain ⟨pv10, rfl, h29⟩ := r5
 have h29 : Sl (cInt .i64) b_3 pv10 := h29
 replace vw3 := vw3.2 0 _ _ rfl rfl
 refine Opl.callg1 (.pl (sInt .i64)) ((impl_LettersOf.ev h26 h27 h28 h29 hf10).mono fun _ _ h => Vec.own1 (oInt .i64) h) rfl rfl rfl (.cons (ViewL.agg vw1) (.cons vw2 (.cons vw3 .nil))) ⟨(.aggL ⟨h26.plain, h27.plain, trivial⟩), h28.plain, h29.plain, trivial⟩ rfl ?_
 rintro p3 S ids4 h30 f4 g4
 obtain ⟨hv_, rfl⟩ := tree_vec h30
 have o5 : p3.one = true := oRow_p1 h30
 have ap11 := f4.box h22
 have h31 := g4.box h22
 have ap12 := f4.tree h23
 have h32 := g4.tree h23
 have ap13 := f4.box h24
 have h33 := g4.box h24
 have ap14 := f4.tree h25
 have h34 := g4.tree h25
 have ap15 := f4.tree h20
 have h35 := g4.tree h20
 refine Opl.one rfl rfl (by simp only [go_sem]; rfl) (Opl.nil (Evr.seq (Evr.seq (Evr.regionN rfl (Opl.one rfl rfl (by simp only [go_sem]; rfl) (Opl.one rfl rfl (by simp only [go_sem]; rfl) ?_))))))
 obtain ⟨hf11, H⟩ := H
 obtain ⟨_, vw4, r6⟩ := ((oRow (oPl (cInt .i64) (oInt .i64)))).view h30
 obtain ⟨pv11, rfl, h36⟩ := r6
 have h36 : Sl (cInt .i64) w_1 pv11 := h36
 replace vw4 := vw4.2 0 _ _ rfl rfl
 refine Opl.callw (laws_eqIntS.ev h36 h7 hf11) rfl rfl rfl (.cons vw4 (.cons (.refl _) .nil)) ⟨h36.plain, h7.plain, trivial⟩ (by decide) (Opl.one rfl rfl (by simp only [go_sem]; rfl) (Opl.nil (Evr.condF rfl (Evr.skip (Evr.seq (Evr.seq (Evr.regionD rfl (by kernel_rfl) (Opl.ldb (v := .agg [pq1_0, pq1_1]) h33 rfl T32 rfl rfl rfl rfl (Opl.ldb (v := .agg [v0_0, v0_1]) h31 rfl T25 rfl rfl rfl rfl ?_)))))))))
 refine Opl.call (laws_toSystem.ev hv0_0 hv0_1 hf3) rfl rfl rfl rfl ⟨(.aggL ⟨hv0_0.plain, hv0_1.plain, trivial⟩), trivial⟩ (by decide) ?_
 rintro _ ⟨pv13, pv14, rfl, h38, h39⟩
 obtain ⟨hf12, H⟩ := H
 obtain ⟨_, vw5, r7⟩ := ((oPr (oRow (oPl cIVar oIVar)) (oRow owIRule))).view h32
 obtain ⟨_, _, rfl, r8, r9⟩ := r7
 obtain ⟨pv15, rfl, h40⟩ := r8
 have h40 : Sl cIVar b_1.1 pv15 := h40
 obtain ⟨pv16, rfl, h41⟩ := r9
 have h41 : Sl cIRule b_1.2 pv16 := h41
 refine Opl.callw (laws_eqSystem.ev h40 h41 h38 h39 hf12) rfl rfl rfl (.cons (ViewL.agg vw5) (.cons (.refl _) .nil)) ⟨(.aggL ⟨h40.plain, h41.plain, trivial⟩), (.aggL ⟨h38.plain, h39.plain, trivial⟩), trivial⟩ (by decide) (Opl.one rfl rfl (by simp only [go_sem]; rfl) (Opl.nil (Evr.condF rfl (Evr.skip (Evr.seq (Evr.seq (Evr.regionN rfl (Opl.one rfl rfl (by simp only [go_sem]; rfl) (Opl.one rfl rfl (by simp only [go_sem]; rfl) ?_)))))))))
 refine Opl.call ((laws_toTermSS.ev hv1 hf5).mono fun _ _ h => Out.vec h) rfl rfl rfl rfl ⟨hv1.plain, trivial⟩ (by decide) ?_
 rintro pv17 h42
 obtain ⟨hf13, H⟩ := H
 obtain ⟨_, vw6, r10⟩ := ((oRow (oRow (oPl cITerm oITerm)))).view h34
 obtain ⟨pv18, rfl, h43⟩ := r10
 have h43 : Sl (cSl cITerm) b_2 pv18 := h43
 replace vw6 := vw6.2 0 _ _ rfl rfl
 refine Opl.callw (laws_eqTermSS.ev h43 h42 hf13) rfl rfl rfl (.cons vw6 (.cons (.refl _) .nil)) ⟨h43.plain, h42.plain, trivial⟩ (by decide) (Opl.one rfl rfl (by simp only [go_sem]; rfl) (Opl.nil (Evr.condF rfl (Evr.skip (Evr.seq (Evr.seq (Evr.regionN rfl (Opl.one rfl rfl (by simp only [go_sem]; rfl) (Opl.one rfl rfl (by simp only [go_sem]; rfl) ?_)))))))))
 refine Opl.call ((laws_toIntS.ev hv2 hf7).mono fun _ _ h => Out.vec h) rfl rfl rfl rfl ⟨hv2.plain, trivial⟩ (by decide) ?_
 rintro pv19 h44
 obtain ⟨hf14, H⟩ := H
 obtain ⟨_, vw7, r11⟩ := ((oRow (oPl (cInt .i64) (oInt .i64)))).view h35
 obtain ⟨pv20, rfl, h45⟩ := r11
 have h45 : Sl (cInt .i64) b_3 pv20 := h45
 replace vw7 := vw7.2 0 _ _ rfl rfl
 refine Opl.callw (laws_eqIntS.ev h45 h44 hf14) rfl rfl rfl (.cons vw7 (.cons (.refl _) .nil)) ⟨h45.plain, h44.plain, trivial⟩ (by decide) (Opl.one rfl rfl (by simp only [go_sem]; rfl) (Opl.nil (Evr.condF rfl (Evr.skip (Evr.seq (Evr.regionN rfl (Opl.one rfl rfl (by simp only [go_sem]; rfl) (Opl.nil (Evr.seq (Evr.regionN rfl (Opl.ldb (v := .agg [pq1_0, pq1_1]) h33 rfl T32 rfl rfl rfl rfl (Opl.one rfl rfl (by simp only [go_sem]; rfl) (Opl.mark laws_markSystem.mks (B := 4611691515988672512) h32 ⟨trivial, ⟨Nat.le_trans hf4.2.1 (by decide), fun y0 hy0 => ⟨trivial, trivial, ⟨Nat.le_trans (hf4.2.2 y0 hy0).2.2.1 (by decide), fun y1 hy1 => trivial⟩⟩⟩⟩ (Nat.add_le_add (leaves_le hf4.1 fun _ _ => Nat.le_refl _) (leaves_le hf4.2.1 fun y0 hy0 => (Nat.add_le_add (Nat.add_le_add (leaves_le (hf4.2.2 y0 hy0).1 fun _ _ => Nat.le_refl _) (leaves_le (hf4.2.2 y0 hy0).2.1 fun _ _ => Nat.le_refl _)) (leaves_le (hf4.2.2 y0 hy0).2.2.1 fun y1 hy1 => (leaves_le ((hf4.2.2 y0 hy0).2.2.2 y1 hy1) fun _ _ => Nat.le_refl _))))) (by omega) (by omega) rfl rfl rfl rfl rfl ?_)))))))))))))
 rintro k_1 S h46 h47 s1
 have h48 : 0 ≤ k_1 := by omega
 have h49 := s1.box h31 ap1
 have h50 := s1.box h33 ap3
 have h51 := s1.tree h34 ap5.symm
 have h52 := s1.tree h35 ap8.symm
 have h53 := s1.tree h30 ap12.symm
 refine Opl.one rfl rfl (by simp only [go_sem]; rfl) (Opl.nil (Evr.seq (Evr.regionN rfl (Opl.one rfl rfl (by simp only [go_sem]; rfl) (Opl.one rfl rfl (by simp only [go_sem]; rfl) (Opl.mark laws_markTermSS.mks (B := 4398046511104) h51 ⟨Nat.le_trans hf6.1 (by decide), fun y0 hy0 => trivial⟩ (leaves_le hf6.1 fun y0 hy0 => (leaves_le (hf6.2 y0 hy0) fun _ _ => Nat.le_refl _)) (by omega) (by omega) rfl rfl rfl rfl rfl ?_))))))
 rintro k_2 S h54 h55 s2
 have h56 : 0 ≤ k_2 := by omega
 have h57 := s2.box h49 ap4
 have h58 := s2.box h50 ap6
 have h59 := s2.tree h52 ap10.symm
 have h60 := s2.tree h53 ap14.symm
 refine Opl.one rfl rfl (by simp only [go_sem]; rfl) (Opl.nil (Evr.seq (Evr.regionN rfl (Opl.one rfl rfl (by simp only [go_sem]; rfl) (Opl.one rfl rfl (by simp only [go_sem]; rfl) (Opl.mark laws_markIntS.mks (B := 1048576) h59 trivial (leaves_le hf8 fun _ _ => Nat.le_refl _) (by omega) (by omega) rfl rfl rfl rfl rfl ?_))))))
 rintro k_3 S h61 h62 s3
 have h63 : 0 ≤ k_3 := by omega
 have h64 := s3.box h57 ap7
 have h65 := s3.box h58 ap9
 have h66 := s3.tree h60 ap15.symm
 refine Opl.one rfl rfl (by simp only [go_sem]; rfl) (Opl.nil (Evr.seq (Evr.seq (Evr.regionN rfl (Opl.one rfl rfl (by simp only [go_sem]; rfl) (Opl.one rfl rfl (by simp only [go_sem]; rfl) (Opl.one rfl rfl (by simp only [go_sem]; rfl) ?_)))))))
 have e7 : (decide (k_3 < 0)) = false := decide_eq_false (by have := h63; omega)
 try rw [e7]
 refine Opl.one rfl rfl (by simp only [go_sem]; rfl) (Opl.one rfl rfl (by simp only [go_sem]; rfl) ?_)
 obtain ⟨_, vw8, r12⟩ := ((oRow (oPl (cInt .i64) (oInt .i64)))).view h66
 obtain ⟨pv21, rfl, h67⟩ := r12
 have h67 : Sl (cInt .i64) w_1 pv21 := h67
 replace vw8 := vw8.2 0 _ _ rfl rfl
 refine Opl.callw (laws_eqIntS.ev h67 h7 hf11) rfl rfl rfl (.cons vw8 (.cons (.refl _) .nil)) ⟨h67.plain, h7.plain, trivial⟩ (by decide) (Opl.one rfl rfl (by simp only [go_sem]; rfl) (Opl.one rfl rfl (by simp only [go_sem]; rfl) (Opl.nil (Evr.condF rfl (Evr.skip (Evr.seq (Evr.regionN rfl (Opl.one rfl rfl (by simp only [go_sem]; rfl) (Opl.nil (Evr.seq (Evr.regionN rfl (Opl.one rfl rfl (by simp only [go_sem]; rfl) (Opl.one rfl rfl (by simp only [go_sem]; rfl) ?_)))))))))))))
 obtain ⟨m_1, w_2, hf15, H⟩ := H
 obtain ⟨hf16, H⟩ := H
 refine Opl.calls (laws_markIntS.evm (tree_vec h66).1 hf15) rfl rfl rfl rfl rfl ?_
 rintro _ S ⟨rfl, h68, s4⟩
 have h69 := s4.box h64 ap11
 have h70 := s4.box h65 ap13
 have h71 := h68.tree (oInt .i64)
 refine Opl.one rfl rfl (by simp only [go_sem]; rfl) (Opl.nil (Evr.seq (Evr.regionN rfl (Opl.one rfl rfl (by simp only [go_sem]; rfl) (Opl.nil (Evr.seq (Evr.regionN rfl (Opl.one rfl rfl (by simp only [go_sem]; rfl) (Opl.one rfl rfl (by simp only [go_sem]; rfl) ?_)))))))))
 obtain ⟨hf17, H⟩ := H
 obtain ⟨_, vw9, r13⟩ := ((oRow (oPl (cInt .i64) (oInt .i64)))).view h71
 obtain ⟨pv22, rfl, h72⟩ := r13
 have h72 : Sl (cInt .i64) w_2 pv22 := h72
 replace vw9 := vw9.2 0 _ _ rfl rfl
 refine Opl.callw (laws_heldIntS.ev h72 hf17) rfl rfl rfl (.cons vw9 (.cons (.refl _) .nil)) ⟨h72.plain, (.lit _), trivial⟩ (by decide) (Opl.one rfl rfl (by simp only [go_sem]; rfl) (Opl.nil (Evr.seq (Evr.seq (Evr.regionN rfl (Opl.one rfl rfl (by simp only [go_sem]; rfl) (Opl.one rfl rfl (by simp only [go_sem]; rfl) (Opl.nil ?_))))))))
 have e8 : (decide (m_1 < 0)) = false := decide_eq_false (by have := hf16; omega)
 try rw [e8]
 refine Evr.condF rfl (Evr.skip (Evr.seq (Evr.seq (Evr.regionN rfl (Opl.one rfl rfl (by simp only [go_sem]; rfl) (Opl.one rfl rfl (by simp only [go_sem]; rfl) (Opl.one rfl rfl (by simp only [go_sem]; rfl) (Opl.nil ?_))))))))
 have e9 : (m_1 != m_1) = false := by simp
 try rw [e9]
 refine Evr.condF rfl (Evr.skip (Evr.seq (Evr.regionN rfl (Opl.ldb (v := .agg [v0_0, v0_1]) h69 rfl T25 rfl rfl rfl rfl ?_))))
 refine Opl.call (laws_toSystem.ev hv0_0 hv0_1 hf3) rfl rfl rfl rfl ⟨(.aggL ⟨hv0_0.plain, hv0_1.plain, trivial⟩), trivial⟩ (by decide) ?_
 rintro _ ⟨pv24, pv25, rfl, h74, h75⟩
 refine Opl.one rfl rfl (by simp only [go_sem]; rfl) ?_
 refine Opl.call ((laws_toTermSS.ev hv1 hf5).mono fun _ _ h => Out.vec h) rfl rfl rfl rfl ⟨hv1.plain, trivial⟩ (by decide) ?_
 rintro pv26 h76
 refine Opl.one rfl rfl (by simp only [go_sem]; rfl) ?_
 refine Opl.call ((laws_toIntS.ev hv2 hf7).mono fun _ _ h => Out.vec h) rfl rfl rfl rfl ⟨hv2.plain, trivial⟩ (by decide) ?_
 rintro pv27 h77
 refine Opl.call ((impl_LettersOf.ev h74 h75 h76 h77 hf10).mono fun _ _ h => Out.vec h) rfl rfl rfl rfl ⟨(.aggL ⟨h74.plain, h75.plain, trivial⟩), h76.plain, h77.plain, trivial⟩ (by decide) ?_
 rintro pv28 h78
 refine Opl.one rfl rfl (by simp only [go_sem]; rfl) (Opl.nil (Evr.seq (Evr.seq (Evr.regionN rfl (Opl.one rfl rfl (by simp only [go_sem]; rfl) (Opl.one rfl rfl (by simp only [go_sem]; rfl) ?_))))))
 refine Opl.callc (laws_eqIntS.ev h78 h7 hf11) rfl rfl rfl rfl ⟨h78.plain, h7.plain, trivial⟩ (by decide) (Opl.one rfl rfl (by simp only [go_sem]; rfl) (Opl.nil (Evr.condF rfl (Evr.skip (Evr.seq (Evr.regionN rfl (Opl.one rfl rfl (by simp only [go_sem]; rfl) (Opl.nil (Evr.seq (Evr.regionN rfl (Opl.one rfl rfl (by simp only [go_sem]; rfl) (Opl.one rfl rfl (by simp only [go_sem]; rfl) ?_))))))))))))
 obtain ⟨_, vw10, r14⟩ := ((oRow (oPl (cInt .i64) (oInt .i64)))).view h71
 obtain ⟨pv29, rfl, h79⟩ := r14
 have h79 : Sl (cInt .i64) w_2 pv29 := h79
 replace vw10 := vw10.2 0 _ _ rfl rfl
 refine Opl.callw (laws_heldIntS.ev h79 hf17) rfl rfl rfl (.cons vw10 (.cons (.refl _) .nil)) ⟨h79.plain, (.lit _), trivial⟩ (by decide) (Opl.one rfl rfl (by simp only [go_sem]; rfl) (Opl.nil (Evr.seq (Evr.seq (Evr.regionN rfl (Opl.one rfl rfl (by simp only [go_sem]; rfl) (Opl.one rfl rfl (by simp only [go_sem]; rfl) (Opl.nil ?_))))))))
 have e10 : (decide (m_1 < 0)) = false := decide_eq_false (by have := hf16; omega)
 try rw [e10]
 refine Evr.condF rfl (Evr.skip (Evr.seq (Evr.seq (Evr.regionN rfl (Opl.one rfl rfl (by simp only [go_sem]; rfl) (Opl.one rfl rfl (by simp only [go_sem]; rfl) (Opl.one rfl rfl (by simp only [go_sem]; rfl) (Opl.nil ?_))))))))
 have e11 : (m_1 != m_1) = false := by simp
 try rw [e11]
 refine Evr.condF rfl (Evr.skip (Evr.seq (Evr.regionN rfl (Opl.one rfl rfl (by simp only [go_sem]; rfl) (Opl.nil ?_)))))
 exact Evr.ret1 Try.func13 rfl rfl
end Go.Proofs.Ytblhlpllkpcolaa.PA
