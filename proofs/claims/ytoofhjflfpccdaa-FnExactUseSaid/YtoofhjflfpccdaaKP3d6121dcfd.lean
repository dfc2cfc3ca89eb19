/- Walks of Go functions: each is shown to answer as the Lean function beside it tells, under the conditions that its theorem names. -/
import Derived.Test.YtoofhjflfpccdaaProg
import Derived.KernelRfl
import Derived.Below
import Derived.Deep.Draws
import Derived.Deep.AppendLies
import Derived.Maps.AppendAt
import Derived.OwnWalk
import Derived.Laws.BytesArg
import Derived.Laws.MakeOwn
import Derived.Laws.OwnMore
import Derived.Deep.OwnRows
import Derived.Tactics
import Derived.Lib.ConvBytes
import Derived.Laws.Slices
import Derived.WalkKit
import Derived.RowKit3
import Derived.Deep.LoopGhost
import Derived.Deep.QuietTactic
import Derived.BigQuiet
import Derived.WideLaws
import Derived.Deep.DeepCutAuto
import Derived.Deep.CutBlock
import Derived.Deep.RegionHeld3
import Derived.Laws.Rows
import Derived.Lib.AppendStr
import Derived.ArgAppend
import Derived.Laws.IdiomCopy
import Derived.OrdersHeld
import Derived.Laws.BitsLemmas
import Derived.RowKit
import Derived.Laws.StructEq
import Derived.Lib.SliceRun
import Derived.WalkSpells
import Derived.ChangeArms
import Derived.ChangeSlices
import Derived.Deep.Slices
import Derived.Attr
import Derived.Laws.Append
import Derived.Laws.AppendOwn
import Derived.Laws.Entries
import Derived.Calls
import Derived.Laws.Sem
import Derived.Test.YtoofhjflfpccdaaKP37d7bf62cd
import Derived.Test.YtoofhjflfpccdaaKP25f2c6f3ec
import Derived.Test.YtoofhjflfpccdaaKQa81b2dbcbe
namespace Go.Proofs.Ytoofhjflfpccdaa.PA
open Go Go.Abs Go.RowKit Go.Proofs Go.Proofs.YtoofhjflfpccdaaW.PrintWords Go.Proofs.YtoofhjflfpccdaaW.PrintLast Go.Proofs.YtoofhjflfpccdaaW.PrintMore
set_option maxRecDepth 100000
set_option maxHeartbeats 4000000
set_option linter.unusedVariables false
set_option linter.unusedSimpArgs false
theorem laws_FnExactUse.ev {k : Nat} {l0_0 : List LVar} {v0_0 : PV} (hv0_0 : Sl cLVar l0_0 v0_0) {l0_1 : List LRule} {v0_1 : PV} (hv0_1 : Sl cLRule l0_1 v0_1) {l1 : List Int} {v1 : PV} (hv1 : Sl (cInt .i64) l1 v1) {a2 : Int} (H : laws_FnExactUse.Good k l0_0 l0_1 l1 a2) : Ret Try.prog 13 [.agg [v0_0, v0_1], v1, .lit (.int .i64 a2)] fun v S => v = .lit (.bool true) := by
 unfold laws_FnExactUse.Good at H
 refine Ret.intro Try.func13 rfl (Nat.le_of_ble_eq_true rfl) rfl ?_
 rw [tm3]
 refine Evr.seq (Evr.regionN rfl (Opl.box (cs := [v0_0, v0_1]) rfl rfl rfl rfl ?_))
 rintro i1 S h1 u1 w1
 refine Opl.one rfl rfl (by simp only [go_sem]; rfl) (Opl.nil (Evr.seq (Evr.seq (Evr.regionN rfl (Opl.one rfl rfl (by simp only [go_sem]; rfl) (Opl.len (by exact hv1) K35 rfl rfl rfl rfl (Opl.one rfl rfl (by simp only [go_sem]; rfl) (Opl.nil ?_))))))))
 by_cases c1 : (l1.length : Int) > 1048576
 ·
  have e1 : (decide ((l1.length : Int) > 1048576)) = true := by simpa using c1
  try rw [e1]
  refine Evr.condT rfl (Evr.seq (Evr.regionN rfl (Opl.one rfl rfl (by simp only [go_sem]; rfl) (Opl.nil ?_))))
  exact Evr.ret1 Try.func13 rfl rfl
 replace H := H.resolve_left c1
 have e2 : (decide ((l1.length : Int) > 1048576)) = false := by simpa using c1
 try rw [e2]
 refine Evr.condF rfl (Evr.skip (Evr.seq (Evr.regionN rfl (Opl.one rfl rfl (by simp only [go_sem]; rfl) (Opl.nil (Evr.seq (Evr.regionN rfl (Opl.ldb (v := .agg [v0_0, v0_1]) h1 rfl T25 rfl rfl rfl rfl (Opl.one rfl rfl (by simp only [go_sem]; rfl) ?_)))))))))
 obtain ⟨t_1, hf1, H⟩ := H
 refine Opl.callc (laws_szSystem.ev hv0_0 hv0_1 hf1) rfl rfl rfl rfl ⟨(.aggL ⟨hv0_0.plain, hv0_1.plain, trivial⟩), (.lit _), trivial⟩ (by decide) (Opl.one rfl rfl (by simp only [go_sem]; rfl) (Opl.nil (Evr.seq (Evr.seq (Evr.regionN rfl (Opl.one rfl rfl (by simp only [go_sem]; rfl) (Opl.one rfl rfl (by simp only [go_sem]; rfl) (Opl.nil ?_))))))))
 by_cases c2 : t_1 < 0
 ·
  have e3 : (decide (t_1 < 0)) = true := by simpa using c2
  try rw [e3]
  refine Evr.condT rfl (Evr.seq (Evr.regionN rfl (Opl.one rfl rfl (by simp only [go_sem]; rfl) (Opl.nil ?_))))
  exact Evr.ret1 Try.func13 rfl rfl
 replace H := H.resolve_left c2
 have e4 : (decide (t_1 < 0)) = false := by simpa using c2
 try rw [e4]
 refine Evr.condF rfl (Evr.skip (Evr.seq (Evr.regionN rfl (Opl.ldb (v := .agg [v0_0, v0_1]) h1 rfl T25 rfl rfl rfl rfl ?_))))
 obtain ⟨b_1, hf2, H⟩ := H
 obtain ⟨hf3, H⟩ := H
 refine Opl.call (laws_toSystem.ev hv0_0 hv0_1 hf2) rfl rfl rfl rfl ⟨(.aggL ⟨hv0_0.plain, hv0_1.plain, trivial⟩), trivial⟩ (by decide) ?_
 rintro _ ⟨pv2, pv3, rfl, h3, h4⟩
 refine Opl.one rfl rfl (by simp only [go_sem]; rfl) ?_
 obtain ⟨b_2, hf4, H⟩ := H
 obtain ⟨hf5, H⟩ := H
 refine Opl.call ((laws_toIntS.ev hv1 hf4).mono fun _ _ h => Out.vec h) rfl rfl rfl rfl ⟨hv1.plain, trivial⟩ (by decide) ?_
 rintro pv4 h5
 refine Opl.one rfl rfl (by simp only [go_sem]; rfl) ?_
 obtain ⟨w_1, hf6, H⟩ := H
 refine Opl.call (spec_Use.ev h3 h4 h5 hf6) rfl rfl rfl rfl ⟨(.aggL ⟨h3.plain, h4.plain, trivial⟩), h5.plain, (.lit _), trivial⟩ (by decide) ?_
 rintro _ ⟨pv6, _, rfl, h7, rfl⟩
 refine Opl.one rfl rfl (by simp only [go_sem]; rfl) (Opl.one (v := pv6) rfl rfl (by simp only [go_sem]; rfl) (Opl.one (v := .lit (.bool w_1.2)) rfl rfl (by simp only [go_sem]; rfl) (Opl.one rfl rfl (by simp only [go_sem]; rfl) (Opl.one rfl rfl (by simp only [go_sem]; rfl) (Opl.nil (Evr.seq (Evr.regionN rfl (Opl.ldb (v := .agg [v0_0, v0_1]) h1 rfl T25 rfl rfl rfl rfl ?_))))))))
 refine Opl.callm (laws_toSystem.mk hv0_0 hv0_1 hf2) rfl rfl rfl rfl rfl ?_
 rintro q1 S ids1 h8 f1 g1
 obtain ⟨pq1_0, pq1_1, rfl⟩ := two_of (((oPr (oRow (oPl cIVar oIVar)) (oRow owIRule))).len h8)
 have o1 : pq1_0.one = true := ((oPr (oRow (oPl cIVar oIVar)) (oRow owIRule))).ones h8 _ (by simp)
 have o2 : pq1_1.one = true := ((oPr (oRow (oPl cIVar oIVar)) (oRow owIRule))).ones h8 _ (by simp)
 have ap1 := f1.box h1
 have h9 := g1.box h1
 refine Opl.alloc T31 rfl rfl rfl ?_
 rintro i2 S h10 u2 w2
 have ap2 := w2.box h9
 have h11 := u2.box h9 ap2
 have ap3 := w2.tree h8
 have h12 := u2.tree h8 ap3
 refine Opl.stb (vs := [pq1_0, pq1_1]) h10 rfl rfl Z31 rfl (Nat.le_of_ble_eq_true rfl) (by simp only [List.all_cons, List.all_nil, o1, o2, Bool.and_true, Bool.true_and] <;> rfl) rfl rfl rfl ?_
 rintro S (h13 : Box (.ptr i2 0) [pq1_0, pq1_1] _) u3
 have h14 := u3.box h11 ap2
 have h15 := u3.tree h12 ap3
 refine Opl.nil (Evr.seq (Evr.regionN rfl (Opl.one rfl rfl (by simp only [go_sem]; rfl) ?_)))
 refine Opl.calla (laws_toIntS.ev hv1 hf4) rfl rfl rfl rfl ⟨hv1.plain, trivial⟩ rfl ?_
 rintro p1 S h17 u4 w4
 have h16 := h17.tree (oInt .i64)
 have f2 := w4.fresh
 have g2 := Grow.of u4 w4
 have o3 : p1.one = true := oRow_p1 h16
 have ap4 := f2.box h14
 have h18 := g2.box h14
 have ap5 := f2.tree h15
 have h19 := g2.tree h15
 have ap6 := f2.box h13
 have h20 := g2.box h13
 refine Opl.one rfl rfl (by simp only [go_sem]; rfl) (Opl.nil (Evr.seq (Evr.regionN rfl (Opl.ldb (v := .agg [pq1_0, pq1_1]) h20 rfl T31 rfl rfl rfl rfl (Opl.one rfl rfl (by simp only [go_sem]; rfl) (Opl.one rfl rfl (by simp only [go_sem]; rfl) ?_))))))
 obtain ⟨hf7, H⟩ := H
 obtain ⟨_, vw1, r1⟩ := ((oPr (oRow (oPl cIVar oIVar)) (oRow owIRule))).view h19
 obtain ⟨_, _, rfl, r2, r3⟩ := r1
 obtain ⟨pv7, rfl, h21⟩ := r2
 have h21 : Sl cIVar b_1.1 pv7 := h21
 obtain ⟨pv8, rfl, h22⟩ := r3
 have h22 : Sl cIRule b_1.2 pv8 := h22
 obtain ⟨_, vw2, r4⟩ := ((oRow (oPl (cInt .i64) (oInt .i64)))).view h16
 obtain ⟨pv9, rfl, h23⟩ := r4
 have h23 : Sl (cInt .i64) b_2 pv9 := h23
 replace vw2 := vw2.2 0 _ _ rfl rfl
 refine Opl.callg2 (.pl (sInt .i64)) sBool (c0 := (.bool w_1.2)) (fun _ h => h) (impl_Use.evo h21 h22 h23 hf7) rfl rfl rfl (.cons (ViewL.agg vw1) (.cons vw2 (.cons (.refl _) .nil))) ⟨(.aggL ⟨h21.plain, h22.plain, trivial⟩), h23.plain, (.lit _), trivial⟩ rfl ?_
 rintro p2 S ids3 h24 f3 g3
 obtain ⟨hv_, rfl⟩ := tree_vec h24
 have o4 : p2.one = true := oRow_p1 h24
 have ap7 := f3.box h18
 have h25 := g3.box h18
 have ap8 := f3.tree h19
 have h26 := g3.tree h19
 have ap9 := f3.box h20
 have h27 := g3.box h20
 have ap10 := f3.tree h16
 have h28 := g3.tree h16
 refine Opl.one rfl rfl (by simp only [go_sem]; rfl) (Opl.one (v := p2) rfl rfl (by simp only [go_sem]; rfl) (Opl.one (v := .lit (.bool w_1.2)) rfl rfl (by simp only [go_sem]; rfl) (Opl.one rfl rfl (by simp only [go_sem]; rfl) (Opl.one rfl rfl (by simp only [go_sem]; rfl) (Opl.nil (Evr.seq (Evr.seq (Evr.regionN rfl (Opl.one rfl rfl (by simp only [go_sem]; rfl) (Opl.one rfl rfl (by simp only [go_sem]; rfl) ?_))))))))))
 obtain ⟨hf8, H⟩ := H
 obtain ⟨_, vw3, r5⟩ := ((oRow (oPl (cInt .i64) (oInt .i64)))).view h24
 obtain ⟨pv10, rfl, h29⟩ := r5
 have h29 : Sl (cInt .i64) w_1.1 pv10 := h29
 replace vw3 := vw3.2 0 _ _ rfl rfl
 refine Opl.callw (laws_eqIntS.ev h29 h7 hf8) rfl rfl rfl (.cons vw3 (.cons (.refl _) .nil)) ⟨h29.plain, h7.plain, trivial⟩ (by decide) (Opl.one rfl rfl (by simp only [go_sem]; rfl) (Opl.one rfl rfl (by simp only [go_sem]; rfl) (Opl.one rfl rfl (by simp only [go_sem]; rfl) (Opl.one rfl rfl (by simp only [go_sem]; rfl) (Opl.one rfl rfl (by simp only [go_sem]; rfl) (Opl.one rfl rfl (by simp only [go_sem]; rfl) (Opl.nil ?_)))))))
 have e5 : (w_1.2 != w_1.2) = false := by simp
 try rw [e5]
 refine Evr.condF rfl (Evr.skip (Evr.seq (Evr.seq (Evr.regionD rfl (by kernel_rfl) (Opl.ldb (v := .agg [pq1_0, pq1_1]) h27 rfl T31 rfl rfl rfl rfl (Opl.ldb (v := .agg [v0_0, v0_1]) h25 rfl T25 rfl rfl rfl rfl ?_))))))
 refine Opl.call (laws_toSystem.ev hv0_0 hv0_1 hf2) rfl rfl rfl rfl ⟨(.aggL ⟨hv0_0.plain, hv0_1.plain, trivial⟩), trivial⟩ (by decide) ?_
 rintro _ ⟨pv12, pv13, rfl, h31, h32⟩
 obtain ⟨hf9, H⟩ := H
 obtain ⟨_, vw4, r6⟩ := ((oPr (oRow (oPl cIVar oIVar)) (oRow owIRule))).view h26
 obtain ⟨_, _, rfl, r7, r8⟩ := r6
 obtain ⟨pv14, rfl, h33⟩ := r7
 have h33 : Sl cIVar b_1.1 pv14 := h33
 obtain ⟨pv15, rfl, h34⟩ := r8
 have h34 : Sl cIRule b_1.2 pv15 := h34
 refine Opl.callw (laws_eqSystem.ev h33 h34 h31 h32 hf9) rfl rfl rfl (.cons (ViewL.agg vw4) (.cons (.refl _) .nil)) ⟨(.aggL ⟨h33.plain, h34.plain, trivial⟩), (.aggL ⟨h31.plain, h32.plain, trivial⟩), trivial⟩ (by decide) (Opl.one rfl rfl (by simp only [go_sem]; rfl) (Opl.nil (Evr.condF rfl (Evr.skip (Evr.seq (Evr.seq (Evr.regionN rfl (Opl.one rfl rfl (by simp only [go_sem]; rfl) (Opl.one rfl rfl (by simp only [go_sem]; rfl) ?_)))))))))
 refine Opl.call ((laws_toIntS.ev hv1 hf4).mono fun _ _ h => Out.vec h) rfl rfl rfl rfl ⟨hv1.plain, trivial⟩ (by decide) ?_
 rintro pv16 h35
 obtain ⟨hf10, H⟩ := H
 obtain ⟨_, vw5, r9⟩ := ((oRow (oPl (cInt .i64) (oInt .i64)))).view h28
 obtain ⟨pv17, rfl, h36⟩ := r9
 have h36 : Sl (cInt .i64) b_2 pv17 := h36
 replace vw5 := vw5.2 0 _ _ rfl rfl
 refine Opl.callw (laws_eqIntS.ev h36 h35 hf10) rfl rfl rfl (.cons vw5 (.cons (.refl _) .nil)) ⟨h36.plain, h35.plain, trivial⟩ (by decide) (Opl.one rfl rfl (by simp only [go_sem]; rfl) (Opl.nil (Evr.condF rfl (Evr.skip (Evr.seq (Evr.regionN rfl (Opl.one rfl rfl (by simp only [go_sem]; rfl) (Opl.nil (Evr.seq (Evr.regionN rfl (Opl.ldb (v := .agg [pq1_0, pq1_1]) h27 rfl T31 rfl rfl rfl rfl (Opl.one rfl rfl (by simp only [go_sem]; rfl) (Opl.mark laws_markSystem.mks (B := 4611691515988672512) h26 ⟨trivial, ⟨Nat.le_trans hf3.2.1 (by decide), fun y0 hy0 => ⟨trivial, trivial, ⟨Nat.le_trans (hf3.2.2 y0 hy0).2.2.1 (by decide), fun y1 hy1 => trivial⟩⟩⟩⟩ (Nat.add_le_add (leaves_le hf3.1 fun _ _ => Nat.le_refl _) (leaves_le hf3.2.1 fun y0 hy0 => (Nat.add_le_add (Nat.add_le_add (leaves_le (hf3.2.2 y0 hy0).1 fun _ _ => Nat.le_refl _) (leaves_le (hf3.2.2 y0 hy0).2.1 fun _ _ => Nat.le_refl _)) (leaves_le (hf3.2.2 y0 hy0).2.2.1 fun y1 hy1 => (leaves_le ((hf3.2.2 y0 hy0).2.2.2 y1 hy1) fun _ _ => Nat.le_refl _))))) (by omega) (by omega) rfl rfl rfl rfl rfl ?_)))))))))))))
 rintro k_1 S h37 h38 s1
 have h39 : 0 ≤ k_1 := by omega
 have h40 := s1.box h25 ap1
 have h41 := s1.box h27 ap3
 have h42 := s1.tree h28 ap5.symm
 have h43 := s1.tree h24 ap8.symm
 refine Opl.one rfl rfl (by simp only [go_sem]; rfl) (Opl.nil (Evr.seq (Evr.regionN rfl (Opl.one rfl rfl (by simp only [go_sem]; rfl) (Opl.one rfl rfl (by simp only [go_sem]; rfl) (Opl.mark laws_markIntS.mks (B := 1048576) h42 trivial (leaves_le hf5 fun _ _ => Nat.le_refl _) (by omega) (by omega) rfl rfl rfl rfl rfl ?_))))))
 rintro k_2 S h44 h45 s2
 have h46 : 0 ≤ k_2 := by omega
 have h47 := s2.box h40 ap4
 have h48 := s2.box h41 ap6
 have h49 := s2.tree h43 ap10.symm
 refine Opl.one rfl rfl (by simp only [go_sem]; rfl) (Opl.nil (Evr.seq (Evr.seq (Evr.regionN rfl (Opl.one rfl rfl (by simp only [go_sem]; rfl) (Opl.one rfl rfl (by simp only [go_sem]; rfl) (Opl.one rfl rfl (by simp only [go_sem]; rfl) ?_)))))))
 have e6 : (decide (k_2 < 0)) = false := decide_eq_false (by have := h46; omega)
 try rw [e6]
 refine Opl.one rfl rfl (by simp only [go_sem]; rfl) (Opl.one rfl rfl (by simp only [go_sem]; rfl) ?_)
 obtain ⟨_, vw6, r10⟩ := ((oRow (oPl (cInt .i64) (oInt .i64)))).view h49
 obtain ⟨pv18, rfl, h50⟩ := r10
 have h50 : Sl (cInt .i64) w_1.1 pv18 := h50
 replace vw6 := vw6.2 0 _ _ rfl rfl
 refine Opl.callw (laws_eqIntS.ev h50 h7 hf8) rfl rfl rfl (.cons vw6 (.cons (.refl _) .nil)) ⟨h50.plain, h7.plain, trivial⟩ (by decide) (Opl.one rfl rfl (by simp only [go_sem]; rfl) (Opl.one rfl rfl (by simp only [go_sem]; rfl) (Opl.one rfl rfl (by simp only [go_sem]; rfl) (Opl.one rfl rfl (by simp only [go_sem]; rfl) (Opl.one rfl rfl (by simp only [go_sem]; rfl) (Opl.one rfl rfl (by simp only [go_sem]; rfl) (Opl.one rfl rfl (by simp only [go_sem]; rfl) (Opl.nil ?_))))))))
 have e7 : (w_1.2 != w_1.2) = false := by simp
 try rw [e7]
 refine Evr.condF rfl (Evr.skip (Evr.seq (Evr.regionN rfl (Opl.one rfl rfl (by simp only [go_sem]; rfl) (Opl.nil (Evr.seq (Evr.regionN rfl (Opl.one rfl rfl (by simp only [go_sem]; rfl) (Opl.one rfl rfl (by simp only [go_sem]; rfl) ?_)))))))))
 obtain ⟨m_1, w_2, hf11, H⟩ := H
 obtain ⟨hf12, H⟩ := H
 refine Opl.calls (laws_markIntS.evm (tree_vec h49).1 hf11) rfl rfl rfl rfl rfl ?_
 rintro _ S ⟨rfl, h51, s3⟩
 have h52 := s3.box h47 ap7
 have h53 := s3.box h48 ap9
 have h54 := h51.tree (oInt .i64)
 refine Opl.one rfl rfl (by simp only [go_sem]; rfl) (Opl.nil (Evr.seq (Evr.regionN rfl (Opl.one rfl rfl (by simp only [go_sem]; rfl) (Opl.nil (Evr.seq (Evr.regionN rfl (Opl.one rfl rfl (by simp only [go_sem]; rfl) (Opl.one rfl rfl (by simp only [go_sem]; rfl) ?_)))))))))
 obtain ⟨hf13, H⟩ := H
 obtain ⟨_, vw7, r11⟩ := ((oRow (oPl (cInt .i64) (oInt .i64)))).view h54
 obtain ⟨pv19, rfl, h55⟩ := r11
 have h55 : Sl (cInt .i64) w_2 pv19 := h55
 replace vw7 := vw7.2 0 _ _ rfl rfl
 refine Opl.callw (laws_heldIntS.ev h55 hf13) rfl rfl rfl (.cons vw7 (.cons (.refl _) .nil)) ⟨h55.plain, (.lit _), trivial⟩ (by decide) (Opl.one rfl rfl (by simp only [go_sem]; rfl) (Opl.nil (Evr.seq (Evr.seq (Evr.regionN rfl (Opl.one rfl rfl (by simp only [go_sem]; rfl) (Opl.one rfl rfl (by simp only [go_sem]; rfl) (Opl.nil ?_))))))))
 have e8 : (decide (m_1 < 0)) = false := decide_eq_false (by have := hf12; omega)
 try rw [e8]
 refine Evr.condF rfl (Evr.skip (Evr.seq (Evr.seq (Evr.regionN rfl (Opl.one rfl rfl (by simp only [go_sem]; rfl) (Opl.one rfl rfl (by simp only [go_sem]; rfl) (Opl.one rfl rfl (by simp only [go_sem]; rfl) (Opl.nil ?_))))))))
 have e9 : (m_1 != m_1) = false := by simp
 try rw [e9]
 refine Evr.condF rfl (Evr.skip (Evr.seq (Evr.regionN rfl (Opl.ldb (v := .agg [v0_0, v0_1]) h52 rfl T25 rfl rfl rfl rfl ?_))))
 refine Opl.call (laws_toSystem.ev hv0_0 hv0_1 hf2) rfl rfl rfl rfl ⟨(.aggL ⟨hv0_0.plain, hv0_1.plain, trivial⟩), trivial⟩ (by decide) ?_
 rintro _ ⟨pv21, pv22, rfl, h57, h58⟩
 refine Opl.one rfl rfl (by simp only [go_sem]; rfl) ?_
 refine Opl.call ((laws_toIntS.ev hv1 hf4).mono fun _ _ h => Out.vec h) rfl rfl rfl rfl ⟨hv1.plain, trivial⟩ (by decide) ?_
 rintro pv23 h59
 refine Opl.one rfl rfl (by simp only [go_sem]; rfl) ?_
 refine Opl.call (impl_Use.ev h57 h58 h59 hf7) rfl rfl rfl rfl ⟨(.aggL ⟨h57.plain, h58.plain, trivial⟩), h59.plain, (.lit _), trivial⟩ (by decide) ?_
 rintro _ ⟨pv25, _, rfl, h61, rfl⟩
 refine Opl.one rfl rfl (by simp only [go_sem]; rfl) (Opl.one (v := pv25) rfl rfl (by simp only [go_sem]; rfl) (Opl.one (v := .lit (.bool w_1.2)) rfl rfl (by simp only [go_sem]; rfl) (Opl.one rfl rfl (by simp only [go_sem]; rfl) (Opl.one rfl rfl (by simp only [go_sem]; rfl) (Opl.nil (Evr.seq (Evr.seq (Evr.regionN rfl (Opl.one rfl rfl (by simp only [go_sem]; rfl) (Opl.one rfl rfl (by simp only [go_sem]; rfl) ?_))))))))))
 refine Opl.callc (laws_eqIntS.ev h61 h7 hf8) rfl rfl rfl rfl ⟨h61.plain, h7.plain, trivial⟩ (by decide) (Opl.one rfl rfl (by simp only [go_sem]; rfl) (Opl.one rfl rfl (by simp only [go_sem]; rfl) (Opl.one rfl rfl (by simp only [go_sem]; rfl) (Opl.one rfl rfl (by simp only [go_sem]; rfl) (Opl.one rfl rfl (by simp only [go_sem]; rfl) (Opl.one rfl rfl (by simp only [go_sem]; rfl) (Opl.nil ?_)))))))
 have e10 : (w_1.2 != w_1.2) = false := by simp
 try rw [e10]
 refine Evr.condF rfl (Evr.skip (Evr.seq (Evr.regionN rfl (Opl.one rfl rfl (by simp only [go_sem]; rfl) (Opl.nil (Evr.seq (Evr.regionN rfl (Opl.one rfl rfl (by simp only [go_sem]; rfl) (Opl.one rfl rfl (by simp only [go_sem]; rfl) ?_)))))))))
 obtain ⟨_, vw8, r12⟩ := ((oRow (oPl (cInt .i64) (oInt .i64)))).view h54
 obtain ⟨pv26, rfl, h62⟩ := r12
 have h62 : Sl (cInt .i64) w_2 pv26 := h62
 replace vw8 := vw8.2 0 _ _ rfl rfl
 refine Opl.callw (laws_heldIntS.ev h62 hf13) rfl rfl rfl (.cons vw8 (.cons (.refl _) .nil)) ⟨h62.plain, (.lit _), trivial⟩ (by decide) (Opl.one rfl rfl (by simp only [go_sem]; rfl) (Opl.nil (Evr.seq (Evr.seq (Evr.regionN rfl (Opl.one rfl rfl (by simp only [go_sem]; rfl) (Opl.one rfl rfl (by simp only [go_sem]; rfl) (Opl.nil ?_))))))))
 have e11 : (decide (m_1 < 0)) = false := decide_eq_false (by have := hf12; omega)
 try rw [e11]
 refine Evr.condF rfl (Evr.skip (Evr.seq (Evr.seq (Evr.regionN rfl (Opl.one rfl rfl (by simp only [go_sem]; rfl) (Opl.one rfl rfl (by simp only [go_sem]; rfl) (Opl.one rfl rfl (by simp only [go_sem]; rfl) (Opl.nil ?_))))))))
 have e12 : (m_1 != m_1) = false := by simp
 try rw [e12]
 refine Evr.condF rfl (Evr.skip (Evr.seq (Evr.regionN rfl (Opl.one rfl rfl (by simp only [go_sem]; rfl) (Opl.nil ?_)))))
 exact Evr.ret1 Try.func13 rfl rfl
end Go.Proofs.Ytoofhjflfpccdaa.PA
