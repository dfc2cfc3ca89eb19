/- Walks of Go functions: each is shown to answer as the Lean function beside it tells, under the conditions that its theorem names. -/
import Derived.Test.YtoofhjflfpccdaaProg
import Derived.KernelRfl
import Derived.Below
import Derived.Deep.Draws
import Derived.Deep.AppendLies
import Derived.Maps.AppendAt
import Derived.OwnWalk
import Derived.Laws.BytesArg
import Derived.Laws.MakeOwn
import Derived.Laws.OwnMore
import Derived.Deep.OwnRows
import Derived.Tactics
import Derived.Lib.ConvBytes
import Derived.Laws.Slices
import Derived.WalkKit
import Derived.RowKit3
import Derived.Deep.LoopGhost
import Derived.Deep.QuietTactic
import Derived.BigQuiet
import Derived.WideLaws
import Derived.Deep.DeepCutAuto
import Derived.Deep.CutBlock
import Derived.Deep.RegionHeld3
import Derived.Laws.Rows
import Derived.Lib.AppendStr
import Derived.ArgAppend
import Derived.Laws.IdiomCopy
import Derived.OrdersHeld
import Derived.Laws.BitsLemmas
import Derived.RowKit
import Derived.Laws.StructEq
import Derived.Lib.SliceRun
import Derived.WalkSpells
import Derived.ChangeArms
import Derived.ChangeSlices
import Derived.Deep.Slices
import Derived.Attr
import Derived.Laws.Append
import Derived.Laws.AppendOwn
import Derived.Laws.Entries
import Derived.Calls
import Derived.Laws.Sem
import Derived.Test.YtoofhjflfpccdaaKP21cbbee378
import Derived.Test.YtoofhjflfpccdaaKPbfc687cfe1
import Derived.Test.YtoofhjflfpccdaaKQ9027b602e8
namespace Go.Proofs.Ytoofhjflfpccdaa.PA
open Go Go.Abs Go.RowKit Go.Proofs Go.Proofs.YtoofhjflfpccdaaW.PrintWords Go.Proofs.YtoofhjflfpccdaaW.PrintLast Go.Proofs.YtoofhjflfpccdaaW.PrintMore
set_option maxRecDepth 100000
set_option maxHeartbeats 4000000
set_option linter.unusedVariables false
set_option linter.unusedSimpArgs false
theorem laws_FnExactStateAt.ev {k : Nat} {l0_0 : List LVar} {v0_0 : PV} (hv0_0 : Sl cLVar l0_0 v0_0) {l0_1 : List LRule} {v0_1 : PV} (hv0_1 : Sl cLRule l0_1 v0_1) {a1 : Int} (H : laws_FnExactStateAt.Good k l0_0 l0_1 a1) : Ret Try.prog 7 [.agg [v0_0, v0_1], .lit (.int .i64 a1)] fun v S => v = .lit (.bool true) := by
 unfold laws_FnExactStateAt.Good at H
 refine Ret.intro Try.func7 rfl (Nat.le_of_ble_eq_true rfl) rfl ?_
 rw [tm2]
 refine Evr.seq (Evr.regionN rfl (Opl.box (cs := [v0_0, v0_1]) rfl rfl rfl rfl ?_))
 rintro i1 S h1 u1 w1
 refine Opl.one rfl rfl (by simp only [go_sem]; rfl) (Opl.nil (Evr.seq (Evr.regionN rfl (Opl.one rfl rfl (by simp only [go_sem]; rfl) (Opl.nil (Evr.seq (Evr.regionN rfl (Opl.ldb (v := .agg [v0_0, v0_1]) h1 rfl T25 rfl rfl rfl rfl (Opl.one rfl rfl (by simp only [go_sem]; rfl) ?_)))))))))
 obtain ⟨t_1, hf1, H⟩ := H
 refine Opl.callc (laws_szSystem.ev hv0_0 hv0_1 hf1) rfl rfl rfl rfl ⟨(.aggL ⟨hv0_0.plain, hv0_1.plain, trivial⟩), (.lit _), trivial⟩ (by decide) (Opl.one rfl rfl (by simp only [go_sem]; rfl) (Opl.nil (Evr.seq (Evr.seq (Evr.regionN rfl (Opl.one rfl rfl (by simp only [go_sem]; rfl) (Opl.one rfl rfl (by simp only [go_sem]; rfl) (Opl.nil ?_))))))))
 by_cases c1 : t_1 < 0
 ·
  have e1 : (decide (t_1 < 0)) = true := by simpa using c1
  try rw [e1]
  refine Evr.condT rfl (Evr.seq (Evr.regionN rfl (Opl.one rfl rfl (by simp only [go_sem]; rfl) (Opl.nil ?_))))
  exact Evr.ret1 Try.func7 rfl rfl
 replace H := H.resolve_left c1
 have e2 : (decide (t_1 < 0)) = false := by simpa using c1
 try rw [e2]
 refine Evr.condF rfl (Evr.skip (Evr.seq (Evr.regionN rfl (Opl.ldb (v := .agg [v0_0, v0_1]) h1 rfl T25 rfl rfl rfl rfl ?_))))
 obtain ⟨b_1, hf2, H⟩ := H
 obtain ⟨hf3, H⟩ := H
 refine Opl.call (laws_toSystem.ev hv0_0 hv0_1 hf2) rfl rfl rfl rfl ⟨(.aggL ⟨hv0_0.plain, hv0_1.plain, trivial⟩), trivial⟩ (by decide) ?_
 rintro _ ⟨pv2, pv3, rfl, h3, h4⟩
 refine Opl.one rfl rfl (by simp only [go_sem]; rfl) ?_
 obtain ⟨w_1, hf4, H⟩ := H
 refine Opl.call ((spec_StateAt.ev h3 h4 hf4).mono fun _ _ h => Out.vec h) rfl rfl rfl rfl ⟨(.aggL ⟨h3.plain, h4.plain, trivial⟩), (.lit _), trivial⟩ (by decide) ?_
 rintro pv4 h5
 refine Opl.one rfl rfl (by simp only [go_sem]; rfl) (Opl.nil (Evr.seq (Evr.regionN rfl (Opl.ldb (v := .agg [v0_0, v0_1]) h1 rfl T25 rfl rfl rfl rfl ?_))))
 refine Opl.callm (laws_toSystem.mk hv0_0 hv0_1 hf2) rfl rfl rfl rfl rfl ?_
 rintro q1 S ids1 h6 f1 g1
 obtain ⟨pq1_0, pq1_1, rfl⟩ := two_of (((oPr (oRow (oPl cIVar oIVar)) (oRow owIRule))).len h6)
 have o1 : pq1_0.one = true := ((oPr (oRow (oPl cIVar oIVar)) (oRow owIRule))).ones h6 _ (by simp)
 have o2 : pq1_1.one = true := ((oPr (oRow (oPl cIVar oIVar)) (oRow owIRule))).ones h6 _ (by simp)
 have ap1 := f1.box h1
 have h7 := g1.box h1
 refine Opl.alloc T31 rfl rfl rfl ?_
 rintro i2 S h8 u2 w2
 have ap2 := w2.box h7
 have h9 := u2.box h7 ap2
 have ap3 := w2.tree h6
 have h10 := u2.tree h6 ap3
 refine Opl.stb (vs := [pq1_0, pq1_1]) h8 rfl rfl Z31 rfl (Nat.le_of_ble_eq_true rfl) (by simp only [List.all_cons, List.all_nil, o1, o2, Bool.and_true, Bool.true_and] <;> rfl) rfl rfl rfl ?_
 rintro S (h11 : Box (.ptr i2 0) [pq1_0, pq1_1] _) u3
 have h12 := u3.box h9 ap2
 have h13 := u3.tree h10 ap3
 refine Opl.nil (Evr.seq (Evr.regionN rfl (Opl.ldb (v := .agg [pq1_0, pq1_1]) h11 rfl T31 rfl rfl rfl rfl (Opl.one rfl rfl (by simp only [go_sem]; rfl) ?_))))
 obtain ⟨hf5, H⟩ := H
 obtain ⟨_, vw1, r1⟩ := ((oPr (oRow (oPl cIVar oIVar)) (oRow owIRule))).view h13
 obtain ⟨_, _, rfl, r2, r3⟩ := r1
 obtain ⟨pv5, rfl, h14⟩ := r2
 have h14 : Sl cIVar b_1.1 pv5 := h14
 obtain ⟨pv6, rfl, h15⟩ := r3
 have h15 : Sl cIRule b_1.2 pv6 := h15
 refine Opl.callg1 (.pl (sInt .i64)) ((impl_StateAt.ev h14 h15 hf5).mono fun _ _ h => Vec.own1 (oInt .i64) h) rfl rfl rfl (.cons (ViewL.agg vw1) (.cons (.refl _) .nil)) ⟨(.aggL ⟨h14.plain, h15.plain, trivial⟩), (.lit _), trivial⟩ rfl ?_
 rintro p1 S ids2 h16 f2 g2
 obtain ⟨hv_, rfl⟩ := tree_vec h16
 have o3 : p1.one = true := oRow_p1 h16
 have ap4 := f2.box h12
 have h17 := g2.box h12
 have ap5 := f2.tree h13
 have h18 := g2.tree h13
 have ap6 := f2.box h11
 have h19 := g2.box h11
 refine Opl.one rfl rfl (by simp only [go_sem]; rfl) (Opl.nil (Evr.seq (Evr.seq (Evr.regionN rfl (Opl.one rfl rfl (by simp only [go_sem]; rfl) (Opl.one rfl rfl (by simp only [go_sem]; rfl) ?_))))))
 obtain ⟨hf6, H⟩ := H
 obtain ⟨_, vw2, r4⟩ := ((oRow (oPl (cInt .i64) (oInt .i64)))).view h16
 obtain ⟨pv7, rfl, h20⟩ := r4
 have h20 : Sl (cInt .i64) w_1 pv7 := h20
 replace vw2 := vw2.2 0 _ _ rfl rfl
 refine Opl.callw (laws_eqIntS.ev h20 h5 hf6) rfl rfl rfl (.cons vw2 (.cons (.refl _) .nil)) ⟨h20.plain, h5.plain, trivial⟩ (by decide) (Opl.one rfl rfl (by simp only [go_sem]; rfl) (Opl.nil (Evr.condF rfl (Evr.skip (Evr.seq (Evr.seq (Evr.regionD rfl (by kernel_rfl) (Opl.ldb (v := .agg [pq1_0, pq1_1]) h19 rfl T31 rfl rfl rfl rfl (Opl.ldb (v := .agg [v0_0, v0_1]) h17 rfl T25 rfl rfl rfl rfl ?_)))))))))
 refine Opl.call (laws_toSystem.ev hv0_0 hv0_1 hf2) rfl rfl rfl rfl ⟨(.aggL ⟨hv0_0.plain, hv0_1.plain, trivial⟩), trivial⟩ (by decide) ?_
 rintro _ ⟨pv9, pv10, rfl, h22, h23⟩
 obtain ⟨hf7, H⟩ := H
 obtain ⟨_, vw3, r5⟩ := ((oPr (oRow (oPl cIVar oIVar)) (oRow owIRule))).view h18
 obtain ⟨_, _, rfl, r6, r7⟩ := r5
 obtain ⟨pv11, rfl, h24⟩ := r6
 have h24 : Sl cIVar b_1.1 pv11 := h24
 obtain ⟨pv12, rfl, h25⟩ := r7
 have h25 : Sl cIRule b_1.2 pv12 := h25
 refine Opl.callw (laws_eqSystem.ev h24 h25 h22 h23 hf7) rfl rfl rfl (.cons (ViewL.agg vw3) (.cons (.refl _) .nil)) ⟨(.aggL ⟨h24.plain, h25.plain, trivial⟩), (.aggL ⟨h22.plain, h23.plain, trivial⟩), trivial⟩ (by decide) (Opl.one rfl rfl (by simp only [go_sem]; rfl) (Opl.nil (Evr.condF rfl (Evr.skip (Evr.seq (Evr.regionN rfl (Opl.one rfl rfl (by simp only [go_sem]; rfl) (Opl.nil (Evr.seq (Evr.regionN rfl (Opl.ldb (v := .agg [pq1_0, pq1_1]) h19 rfl T31 rfl rfl rfl rfl (Opl.one rfl rfl (by simp only [go_sem]; rfl) (Opl.mark laws_markSystem.mks (B := 4611691515988672512) h18 ⟨trivial, ⟨Nat.le_trans hf3.2.1 (by decide), fun y0 hy0 => ⟨trivial, trivial, ⟨Nat.le_trans (hf3.2.2 y0 hy0).2.2.1 (by decide), fun y1 hy1 => trivial⟩⟩⟩⟩ (Nat.add_le_add (leaves_le hf3.1 fun _ _ => Nat.le_refl _) (leaves_le hf3.2.1 fun y0 hy0 => (Nat.add_le_add (Nat.add_le_add (leaves_le (hf3.2.2 y0 hy0).1 fun _ _ => Nat.le_refl _) (leaves_le (hf3.2.2 y0 hy0).2.1 fun _ _ => Nat.le_refl _)) (leaves_le (hf3.2.2 y0 hy0).2.2.1 fun y1 hy1 => (leaves_le ((hf3.2.2 y0 hy0).2.2.2 y1 hy1) fun _ _ => Nat.le_refl _))))) (by omega) (by omega) rfl rfl rfl rfl rfl ?_)))))))))))))
 rintro k_1 S h26 h27 s1
 have h28 : 0 ≤ k_1 := by omega
 have h29 := s1.box h17 ap1
 have h30 := s1.box h19 ap3
 have h31 := s1.tree h16 ap5.symm
 refine Opl.one rfl rfl (by simp only [go_sem]; rfl) (Opl.nil (Evr.seq (Evr.seq (Evr.regionN rfl (Opl.one rfl rfl (by simp only [go_sem]; rfl) (Opl.one rfl rfl (by simp only [go_sem]; rfl) (Opl.one rfl rfl (by simp only [go_sem]; rfl) ?_)))))))
 have e3 : (decide (k_1 < 0)) = false := decide_eq_false (by have := h28; omega)
 try rw [e3]
 refine Opl.one rfl rfl (by simp only [go_sem]; rfl) (Opl.one rfl rfl (by simp only [go_sem]; rfl) ?_)
 obtain ⟨_, vw4, r8⟩ := ((oRow (oPl (cInt .i64) (oInt .i64)))).view h31
 obtain ⟨pv13, rfl, h32⟩ := r8
 have h32 : Sl (cInt .i64) w_1 pv13 := h32
 replace vw4 := vw4.2 0 _ _ rfl rfl
 refine Opl.callw (laws_eqIntS.ev h32 h5 hf6) rfl rfl rfl (.cons vw4 (.cons (.refl _) .nil)) ⟨h32.plain, h5.plain, trivial⟩ (by decide) (Opl.one rfl rfl (by simp only [go_sem]; rfl) (Opl.one rfl rfl (by simp only [go_sem]; rfl) (Opl.nil (Evr.condF rfl (Evr.skip (Evr.seq (Evr.regionN rfl (Opl.one rfl rfl (by simp only [go_sem]; rfl) (Opl.nil (Evr.seq (Evr.regionN rfl (Opl.one rfl rfl (by simp only [go_sem]; rfl) (Opl.one rfl rfl (by simp only [go_sem]; rfl) ?_)))))))))))))
 obtain ⟨m_1, w_2, hf8, H⟩ := H
 obtain ⟨hf9, H⟩ := H
 refine Opl.calls (laws_markIntS.evm (tree_vec h31).1 hf8) rfl rfl rfl rfl rfl ?_
 rintro _ S ⟨rfl, h33, s2⟩
 have h34 := s2.box h29 ap4
 have h35 := s2.box h30 ap6
 have h36 := h33.tree (oInt .i64)
 refine Opl.one rfl rfl (by simp only [go_sem]; rfl) (Opl.nil (Evr.seq (Evr.regionN rfl (Opl.one rfl rfl (by simp only [go_sem]; rfl) (Opl.nil (Evr.seq (Evr.regionN rfl (Opl.one rfl rfl (by simp only [go_sem]; rfl) (Opl.one rfl rfl (by simp only [go_sem]; rfl) ?_)))))))))
 obtain ⟨hf10, H⟩ := H
 obtain ⟨_, vw5, r9⟩ := ((oRow (oPl (cInt .i64) (oInt .i64)))).view h36
 obtain ⟨pv14, rfl, h37⟩ := r9
 have h37 : Sl (cInt .i64) w_2 pv14 := h37
 replace vw5 := vw5.2 0 _ _ rfl rfl
 refine Opl.callw (laws_heldIntS.ev h37 hf10) rfl rfl rfl (.cons vw5 (.cons (.refl _) .nil)) ⟨h37.plain, (.lit _), trivial⟩ (by decide) (Opl.one rfl rfl (by simp only [go_sem]; rfl) (Opl.nil (Evr.seq (Evr.seq (Evr.regionN rfl (Opl.one rfl rfl (by simp only [go_sem]; rfl) (Opl.one rfl rfl (by simp only [go_sem]; rfl) (Opl.nil ?_))))))))
 have e4 : (decide (m_1 < 0)) = false := decide_eq_false (by have := hf9; omega)
 try rw [e4]
 refine Evr.condF rfl (Evr.skip (Evr.seq (Evr.seq (Evr.regionN rfl (Opl.one rfl rfl (by simp only [go_sem]; rfl) (Opl.one rfl rfl (by simp only [go_sem]; rfl) (Opl.one rfl rfl (by simp only [go_sem]; rfl) (Opl.nil ?_))))))))
 have e5 : (m_1 != m_1) = false := by simp
 try rw [e5]
 refine Evr.condF rfl (Evr.skip (Evr.seq (Evr.regionN rfl (Opl.ldb (v := .agg [v0_0, v0_1]) h34 rfl T25 rfl rfl rfl rfl ?_))))
 refine Opl.call (laws_toSystem.ev hv0_0 hv0_1 hf2) rfl rfl rfl rfl ⟨(.aggL ⟨hv0_0.plain, hv0_1.plain, trivial⟩), trivial⟩ (by decide) ?_
 rintro _ ⟨pv16, pv17, rfl, h39, h40⟩
 refine Opl.one rfl rfl (by simp only [go_sem]; rfl) ?_
 refine Opl.call ((impl_StateAt.ev h39 h40 hf5).mono fun _ _ h => Out.vec h) rfl rfl rfl rfl ⟨(.aggL ⟨h39.plain, h40.plain, trivial⟩), (.lit _), trivial⟩ (by decide) ?_
 rintro pv18 h41
 refine Opl.one rfl rfl (by simp only [go_sem]; rfl) (Opl.nil (Evr.seq (Evr.seq (Evr.regionN rfl (Opl.one rfl rfl (by simp only [go_sem]; rfl) (Opl.one rfl rfl (by simp only [go_sem]; rfl) ?_))))))
 refine Opl.callc (laws_eqIntS.ev h41 h5 hf6) rfl rfl rfl rfl ⟨h41.plain, h5.plain, trivial⟩ (by decide) (Opl.one rfl rfl (by simp only [go_sem]; rfl) (Opl.nil (Evr.condF rfl (Evr.skip (Evr.seq (Evr.regionN rfl (Opl.one rfl rfl (by simp only [go_sem]; rfl) (Opl.nil (Evr.seq (Evr.regionN rfl (Opl.one rfl rfl (by simp only [go_sem]; rfl) (Opl.one rfl rfl (by simp only [go_sem]; rfl) ?_))))))))))))
 obtain ⟨_, vw6, r10⟩ := ((oRow (oPl (cInt .i64) (oInt .i64)))).view h36
 obtain ⟨pv19, rfl, h42⟩ := r10
 have h42 : Sl (cInt .i64) w_2 pv19 := h42
 replace vw6 := vw6.2 0 _ _ rfl rfl
 refine Opl.callw (laws_heldIntS.ev h42 hf10) rfl rfl rfl (.cons vw6 (.cons (.refl _) .nil)) ⟨h42.plain, (.lit _), trivial⟩ (by decide) (Opl.one rfl rfl (by simp only [go_sem]; rfl) (Opl.nil (Evr.seq (Evr.seq (Evr.regionN rfl (Opl.one rfl rfl (by simp only [go_sem]; rfl) (Opl.one rfl rfl (by simp only [go_sem]; rfl) (Opl.nil ?_))))))))
 have e6 : (decide (m_1 < 0)) = false := decide_eq_false (by have := hf9; omega)
 try rw [e6]
 refine Evr.condF rfl (Evr.skip (Evr.seq (Evr.seq (Evr.regionN rfl (Opl.one rfl rfl (by simp only [go_sem]; rfl) (Opl.one rfl rfl (by simp only [go_sem]; rfl) (Opl.one rfl rfl (by simp only [go_sem]; rfl) (Opl.nil ?_))))))))
 have e7 : (m_1 != m_1) = false := by simp
 try rw [e7]
 refine Evr.condF rfl (Evr.skip (Evr.seq (Evr.regionN rfl (Opl.one rfl rfl (by simp only [go_sem]; rfl) (Opl.nil ?_)))))
 exact Evr.ret1 Try.func7 rfl rfl
end Go.Proofs.Ytoofhjflfpccdaa.PA
