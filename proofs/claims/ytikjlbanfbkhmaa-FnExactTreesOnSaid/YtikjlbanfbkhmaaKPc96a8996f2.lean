/- Walks of Go functions: each is shown to answer as the Lean function beside it tells, under the conditions that its theorem names. -/
import Derived.Test.YtikjlbanfbkhmaaProg
import Derived.KernelRfl
import Derived.Below
import Derived.Deep.Draws
import Derived.Deep.AppendLies
import Derived.Maps.AppendAt
import Derived.OwnWalk
import Derived.Laws.BytesArg
import Derived.Laws.MakeOwn
import Derived.Laws.OwnMore
import Derived.Deep.OwnRows
import Derived.Tactics
import Derived.Lib.ConvBytes
import Derived.Laws.Slices
import Derived.WalkKit
import Derived.RowKit3
import Derived.Deep.LoopGhost
import Derived.Deep.QuietTactic
import Derived.BigQuiet
import Derived.WideLaws
import Derived.Deep.DeepCutAuto
import Derived.Deep.CutBlock
import Derived.Deep.RegionHeld3
import Derived.Laws.Rows
import Derived.Lib.AppendStr
import Derived.ArgAppend
import Derived.Laws.IdiomCopy
import Derived.OrdersHeld
import Derived.Laws.BitsLemmas
import Derived.RowKit
import Derived.Laws.StructEq
import Derived.Lib.SliceRun
import Derived.WalkSpells
import Derived.ChangeArms
import Derived.ChangeSlices
import Derived.Deep.Slices
import Derived.Attr
import Derived.Laws.Append
import Derived.Laws.AppendOwn
import Derived.Laws.Entries
import Derived.Calls
import Derived.Laws.Sem
import Derived.Test.YtikjlbanfbkhmaaKPc0ef4821ab
import Derived.Test.YtikjlbanfbkhmaaKP8b0862bb10
import Derived.Test.YtikjlbanfbkhmaaKQd6861bc83e
namespace Go.Proofs.Ytikjlbanfbkhmaa.PA
open Go Go.Abs Go.RowKit Go.Proofs Go.Proofs.YtikjlbanfbkhmaaW.PrintWords Go.Proofs.YtikjlbanfbkhmaaW.PrintLast Go.Proofs.YtikjlbanfbkhmaaW.PrintMore
set_option maxRecDepth 100000
set_option maxHeartbeats 4000000
set_option linter.unusedVariables false
set_option linter.unusedSimpArgs false
theorem laws_FnExactTreesOn.ev {k : Nat} {l0_0 : List (List Int)} {v0_0 : PV} (hv0_0 : Sl (cSl (cInt .i64)) l0_0 v0_0) {a0_1 : Int} {l0_2 : List (List Int)} {v0_2 : PV} (hv0_2 : Sl (cSl (cInt .i64)) l0_2 v0_2) {a1 : Int} {l2 : List LTree} {v2 : PV} (hv2 : Sl cLTree l2 v2) (H : laws_FnExactTreesOn.Good k l0_0 a0_1 l0_2 a1 l2) : Ret Try.prog 4 [.agg [v0_0, .lit (.int .i64 a0_1), v0_2], .lit (.int .i64 a1), v2] fun v S => v = .lit (.bool true) := by
 unfold laws_FnExactTreesOn.Good at H
 refine Ret.intro Try.func4 rfl (Nat.le_of_ble_eq_true rfl) rfl ?_
 rw [tm3]
 refine Evr.sr rfl (Opl.box (cs := [v0_0, .lit (.int .i64 a0_1), v0_2]) rfl rfl rfl rfl ?_)
 rintro i1 S h1 u1 w1
 refine Opl.one rfl rfl (by simp only [go_sem]; rfl) (Opl.nil (Evr.sr rfl (Opl.one rfl rfl (by simp only [go_sem]; rfl) (Opl.nil (Evr.sr rfl (Opl.ldb (v := .agg [v0_0, .lit (.int .i64 a0_1), v0_2]) h1 rfl T38 rfl rfl rfl rfl (Opl.one rfl rfl (by simp only [go_sem]; rfl) ?_)))))))
 obtain ⟨t_1, hf1, H⟩ := H
 refine Opl.callc (laws_szGraph.ev hv0_0 hv0_2 hf1) rfl rfl rfl rfl ⟨(.aggL ⟨hv0_0.plain, (.lit _), hv0_2.plain, trivial⟩), (.lit _), trivial⟩ (by decide) (Opl.one rfl rfl (by simp only [go_sem]; rfl) (Opl.nil (Evr.seq (Evr.sr rfl (Opl.one rfl rfl (by simp only [go_sem]; rfl) (Opl.one rfl rfl (by simp only [go_sem]; rfl) (Opl.nil ?_)))))))
 by_cases c1 : t_1 < 0
 ·
  have e1 : (decide (t_1 < 0)) = true := by simpa using c1
  try rw [e1]
  refine Evr.condT rfl (Evr.sr rfl (Opl.one rfl rfl (by simp only [go_sem]; rfl) (Opl.nil ?_)))
  exact Evr.ret1 Try.func4 rfl rfl
 replace H := H.resolve_left c1
 have e2 : (decide (t_1 < 0)) = false := by simpa using c1
 try rw [e2]
 refine Evr.condF rfl (Evr.skip (Evr.sr rfl (Opl.one rfl rfl (by simp only [go_sem]; rfl) (Opl.one rfl rfl (by simp only [go_sem]; rfl) ?_))))
 obtain ⟨t_2, hf2, H⟩ := H
 refine Opl.callc (laws_szTreeS.ev hv2 hf2) rfl rfl rfl rfl ⟨hv2.plain, (.lit _), trivial⟩ (by decide) (Opl.one rfl rfl (by simp only [go_sem]; rfl) (Opl.nil (Evr.seq (Evr.sr rfl (Opl.one rfl rfl (by simp only [go_sem]; rfl) (Opl.one rfl rfl (by simp only [go_sem]; rfl) (Opl.nil ?_)))))))
 by_cases c2 : t_2 < 0
 ·
  have e3 : (decide (t_2 < 0)) = true := by simpa using c2
  try rw [e3]
  refine Evr.condT rfl (Evr.sr rfl (Opl.one rfl rfl (by simp only [go_sem]; rfl) (Opl.nil ?_)))
  exact Evr.ret1 Try.func4 rfl rfl
 replace H := H.resolve_left c2
 have e4 : (decide (t_2 < 0)) = false := by simpa using c2
 try rw [e4]
 refine Evr.condF rfl (Evr.skip (Evr.sr rfl (Opl.ldb (v := .agg [v0_0, .lit (.int .i64 a0_1), v0_2]) h1 rfl T38 rfl rfl rfl rfl ?_)))
 obtain ⟨b_1, hf3, H⟩ := H
 obtain ⟨hf4, H⟩ := H
 refine Opl.call (laws_toGraph.ev hv0_0 hv0_2 hf3) rfl rfl rfl rfl ⟨(.aggL ⟨hv0_0.plain, (.lit _), hv0_2.plain, trivial⟩), trivial⟩ (by decide) ?_
 rintro _ ⟨pv2, _, pv3, rfl, h3, rfl, h4⟩
 refine Opl.one rfl rfl (by simp only [go_sem]; rfl) (Opl.one rfl rfl (by simp only [go_sem]; rfl) ?_)
 obtain ⟨b_2, hf5, H⟩ := H
 obtain ⟨hf6, H⟩ := H
 refine Opl.call ((laws_toTreeS.ev hv2 hf5).mono fun _ _ h => Out.vec h) rfl rfl rfl rfl ⟨hv2.plain, trivial⟩ (by decide) ?_
 rintro pv4 h5
 obtain ⟨w_1, hf7, H⟩ := H
 refine Opl.call ((spec_TreesOn.ev h3 h4 h5 hf7).mono fun _ _ h => Out.vec h) rfl rfl rfl rfl ⟨(.aggL ⟨h3.plain, (.lit _), h4.plain, trivial⟩), (.lit _), h5.plain, trivial⟩ (by decide) ?_
 rintro pv5 h6
 refine Opl.one rfl rfl (by simp only [go_sem]; rfl) (Opl.nil (Evr.sr rfl (Opl.ldb (v := .agg [v0_0, .lit (.int .i64 a0_1), v0_2]) h1 rfl T38 rfl rfl rfl rfl ?_)))
 refine Opl.callm (laws_toGraph.mk hv0_0 hv0_2 hf3) rfl rfl rfl rfl rfl ?_
 rintro q1 S ids1 h7 f1 g1
 obtain ⟨pq1_0, pq1_1, pq1_2, rfl⟩ := three_of (((oPr (oRow (oRow (oPl (cInt .i64) (oInt .i64)))) (oPr (oPl (cInt .i64) (oInt .i64)) (oRow (oRow (oPl (cInt .i64) (oInt .i64))))))).len h7)
 have o1 : pq1_0.one = true := ((oPr (oRow (oRow (oPl (cInt .i64) (oInt .i64)))) (oPr (oPl (cInt .i64) (oInt .i64)) (oRow (oRow (oPl (cInt .i64) (oInt .i64))))))).ones h7 _ (by simp)
 have o2 : pq1_1.one = true := ((oPr (oRow (oRow (oPl (cInt .i64) (oInt .i64)))) (oPr (oPl (cInt .i64) (oInt .i64)) (oRow (oRow (oPl (cInt .i64) (oInt .i64))))))).ones h7 _ (by simp)
 have o3 : pq1_2.one = true := ((oPr (oRow (oRow (oPl (cInt .i64) (oInt .i64)))) (oPr (oPl (cInt .i64) (oInt .i64)) (oRow (oRow (oPl (cInt .i64) (oInt .i64))))))).ones h7 _ (by simp)
 have ap1 := f1.box h1
 have h8 := g1.box h1
 refine Opl.alloc T43 rfl rfl rfl ?_
 rintro i2 S h9 u2 w2
 have ap2 := w2.box h8
 have h10 := u2.box h8 ap2
 have ap3 := w2.tree h7
 have h11 := u2.tree h7 ap3
 refine Opl.stb (vs := [pq1_0, pq1_1, pq1_2]) h9 rfl rfl Z43 rfl (Nat.le_of_ble_eq_true rfl) (by simp only [List.all_cons, List.all_nil, o1, o2, o3, Bool.and_true, Bool.true_and] <;> rfl) rfl rfl rfl ?_
 rintro S (h12 : Box (.ptr i2 0) [pq1_0, pq1_1, pq1_2] _) u3
 have h13 := u3.box h10 ap2
 have h14 := u3.tree h11 ap3
 refine Opl.nil (Evr.sr rfl (Opl.one rfl rfl (by simp only [go_sem]; rfl) ?_))
 refine Opl.calla (laws_toTreeS.ev hv2 hf5) rfl rfl rfl rfl ⟨hv2.plain, trivial⟩ rfl ?_
 rintro p1 S h16 u4 w4
 have h15 := h16.tree oITree
 have f2 := w4.fresh
 have g2 := Grow.of u4 w4
 have o4 : p1.one = true := oRow_p1 h15
 have ap4 := f2.box h13
 have h17 := g2.box h13
 have ap5 := f2.tree h14
 have h18 := g2.tree h14
 have ap6 := f2.box h12
 have h19 := g2.box h12
 refine Opl.one rfl rfl (by simp only [go_sem]; rfl) (Opl.nil (Evr.sr rfl (Opl.ldb (v := .agg [pq1_0, pq1_1, pq1_2]) h19 rfl T43 rfl rfl rfl rfl (Opl.one rfl rfl (by simp only [go_sem]; rfl) (Opl.one rfl rfl (by simp only [go_sem]; rfl) ?_)))))
 obtain ⟨hf8, H⟩ := H
 obtain ⟨_, vw1, r1⟩ := ((oPr (oRow (oRow (oPl (cInt .i64) (oInt .i64)))) (oPr (oPl (cInt .i64) (oInt .i64)) (oRow (oRow (oPl (cInt .i64) (oInt .i64))))))).view h18
 obtain ⟨_, _, rfl, r2, r3⟩ := r1
 obtain ⟨pv6, rfl, h20⟩ := r2
 have h20 : Sl (cSl (cInt .i64)) b_1.1 pv6 := h20
 obtain ⟨_, _, rfl, r4, r5⟩ := r3
 obtain rfl := cd_int r4
 obtain ⟨pv7, rfl, h21⟩ := r5
 have h21 : Sl (cSl (cInt .i64)) b_1.2.2 pv7 := h21
 obtain ⟨_, vw2, r6⟩ := ((oRow (oPl cITree oITree))).view h15
 obtain ⟨pv8, rfl, h22⟩ := r6
 have h22 : Sl cITree b_2 pv8 := h22
 replace vw2 := vw2.2 0 _ _ rfl rfl
 refine Opl.callg1 (.pl (sInt .i64)) ((impl_TreesOn.ev h20 h21 h22 hf8).mono fun _ _ h => Vec.own1 (oInt .i64) h) rfl rfl rfl (.cons (ViewL.agg vw1) (.cons (.refl _) (.cons vw2 .nil))) ⟨(.aggL ⟨h20.plain, (.lit _), h21.plain, trivial⟩), (.lit _), h22.plain, trivial⟩ rfl ?_
 rintro p2 S ids3 h23 f3 g3
 obtain ⟨hv_, rfl⟩ := tree_vec h23
 have o5 : p2.one = true := oRow_p1 h23
 have ap7 := f3.box h17
 have h24 := g3.box h17
 have ap8 := f3.tree h18
 have h25 := g3.tree h18
 have ap9 := f3.box h19
 have h26 := g3.box h19
 have ap10 := f3.tree h15
 have h27 := g3.tree h15
 refine Opl.one rfl rfl (by simp only [go_sem]; rfl) (Opl.nil (Evr.seq (Evr.sr rfl (Opl.one rfl rfl (by simp only [go_sem]; rfl) (Opl.one rfl rfl (by simp only [go_sem]; rfl) ?_)))))
 obtain ⟨hf9, H⟩ := H
 obtain ⟨_, vw3, r7⟩ := ((oRow (oPl (cInt .i64) (oInt .i64)))).view h23
 obtain ⟨pv9, rfl, h28⟩ := r7
 have h28 : Sl (cInt .i64) w_1 pv9 := h28
 replace vw3 := vw3.2 0 _ _ rfl rfl
 refine Opl.callw (laws_eqIntS.ev h28 h6 hf9) rfl rfl rfl (.cons vw3 (.cons (.refl _) .nil)) ⟨h28.plain, h6.plain, trivial⟩ (by decide) (Opl.one rfl rfl (by simp only [go_sem]; rfl) (Opl.nil (Evr.condF rfl (Evr.skip (Evr.seq (Evr.seq (Evr.regionD rfl (by kernel_rfl) (Opl.ldb (v := .agg [pq1_0, pq1_1, pq1_2]) h26 rfl T43 rfl rfl rfl rfl (Opl.ldb (v := .agg [v0_0, .lit (.int .i64 a0_1), v0_2]) h24 rfl T38 rfl rfl rfl rfl ?_)))))))))
 refine Opl.call (laws_toGraph.ev hv0_0 hv0_2 hf3) rfl rfl rfl rfl ⟨(.aggL ⟨hv0_0.plain, (.lit _), hv0_2.plain, trivial⟩), trivial⟩ (by decide) ?_
 rintro _ ⟨pv11, _, pv12, rfl, h30, rfl, h31⟩
 obtain ⟨hf10, H⟩ := H
 obtain ⟨_, vw4, r8⟩ := ((oPr (oRow (oRow (oPl (cInt .i64) (oInt .i64)))) (oPr (oPl (cInt .i64) (oInt .i64)) (oRow (oRow (oPl (cInt .i64) (oInt .i64))))))).view h25
 obtain ⟨_, _, rfl, r9, r10⟩ := r8
 obtain ⟨pv13, rfl, h32⟩ := r9
 have h32 : Sl (cSl (cInt .i64)) b_1.1 pv13 := h32
 obtain ⟨_, _, rfl, r11, r12⟩ := r10
 obtain rfl := cd_int r11
 obtain ⟨pv14, rfl, h33⟩ := r12
 have h33 : Sl (cSl (cInt .i64)) b_1.2.2 pv14 := h33
 refine Opl.callw (laws_eqGraph.ev h32 h33 h30 h31 hf10) rfl rfl rfl (.cons (ViewL.agg vw4) (.cons (.refl _) .nil)) ⟨(.aggL ⟨h32.plain, (.lit _), h33.plain, trivial⟩), (.aggL ⟨h30.plain, (.lit _), h31.plain, trivial⟩), trivial⟩ (by decide) (Opl.one rfl rfl (by simp only [go_sem]; rfl) (Opl.nil (Evr.condF rfl (Evr.skip (Evr.seq (Evr.sr rfl (Opl.one rfl rfl (by simp only [go_sem]; rfl) (Opl.one rfl rfl (by simp only [go_sem]; rfl) ?_))))))))
 refine Opl.call ((laws_toTreeS.ev hv2 hf5).mono fun _ _ h => Out.vec h) rfl rfl rfl rfl ⟨hv2.plain, trivial⟩ (by decide) ?_
 rintro pv15 h34
 obtain ⟨hf11, H⟩ := H
 obtain ⟨_, vw5, r13⟩ := ((oRow (oPl cITree oITree))).view h27
 obtain ⟨pv16, rfl, h35⟩ := r13
 have h35 : Sl cITree b_2 pv16 := h35
 replace vw5 := vw5.2 0 _ _ rfl rfl
 refine Opl.callw (laws_eqTreeS.ev h35 h34 hf11) rfl rfl rfl (.cons vw5 (.cons (.refl _) .nil)) ⟨h35.plain, h34.plain, trivial⟩ (by decide) (Opl.one rfl rfl (by simp only [go_sem]; rfl) (Opl.nil (Evr.condF rfl (Evr.skip (Evr.sr rfl (Opl.one rfl rfl (by simp only [go_sem]; rfl) (Opl.nil (Evr.sr rfl (Opl.ldb (v := .agg [pq1_0, pq1_1, pq1_2]) h26 rfl T43 rfl rfl rfl rfl (Opl.one rfl rfl (by simp only [go_sem]; rfl) (Opl.mark laws_markGraph.mks (B := 2199023255552) h25 ⟨⟨Nat.le_trans hf4.1.1 (by decide), fun y0 hy0 => trivial⟩, ⟨Nat.le_trans hf4.2.1 (by decide), fun y0 hy0 => trivial⟩⟩ (Nat.add_le_add (leaves_le hf4.1.1 fun y0 hy0 => (leaves_le (hf4.1.2 y0 hy0) fun _ _ => Nat.le_refl _)) (leaves_le hf4.2.1 fun y0 hy0 => (leaves_le (hf4.2.2 y0 hy0) fun _ _ => Nat.le_refl _))) (by omega) (by omega) rfl rfl rfl rfl rfl ?_)))))))))))
 rintro k_1 S h36 h37 s1
 have h38 : 0 ≤ k_1 := by omega
 have h39 := s1.box h24 ap1
 have h40 := s1.box h26 ap3
 have h41 := s1.tree h27 ap5.symm
 have h42 := s1.tree h23 ap8.symm
 refine Opl.one rfl rfl (by simp only [go_sem]; rfl) (Opl.nil (Evr.sr rfl (Opl.one rfl rfl (by simp only [go_sem]; rfl) (Opl.one rfl rfl (by simp only [go_sem]; rfl) (Opl.mark laws_markTreeS.mks (B := 4194304) h41 trivial (leaves_le hf6 fun _ _ => Nat.le_refl _) (by omega) (by omega) rfl rfl rfl rfl rfl ?_)))))
 rintro k_2 S h43 h44 s2
 have h45 : 0 ≤ k_2 := by omega
 have h46 := s2.box h39 ap4
 have h47 := s2.box h40 ap6
 have h48 := s2.tree h42 ap10.symm
 refine Opl.one rfl rfl (by simp only [go_sem]; rfl) (Opl.nil (Evr.seq (Evr.sr rfl (Opl.one rfl rfl (by simp only [go_sem]; rfl) (Opl.one rfl rfl (by simp only [go_sem]; rfl) (Opl.one rfl rfl (by simp only [go_sem]; rfl) ?_))))))
 have e5 : (decide (k_2 < 0)) = false := decide_eq_false (by have := h45; omega)
 try rw [e5]
 refine Opl.one rfl rfl (by simp only [go_sem]; rfl) (Opl.one rfl rfl (by simp only [go_sem]; rfl) ?_)
 obtain ⟨_, vw6, r14⟩ := ((oRow (oPl (cInt .i64) (oInt .i64)))).view h48
 obtain ⟨pv17, rfl, h49⟩ := r14
 have h49 : Sl (cInt .i64) w_1 pv17 := h49
 replace vw6 := vw6.2 0 _ _ rfl rfl
 refine Opl.callw (laws_eqIntS.ev h49 h6 hf9) rfl rfl rfl (.cons vw6 (.cons (.refl _) .nil)) ⟨h49.plain, h6.plain, trivial⟩ (by decide) (Opl.one rfl rfl (by simp only [go_sem]; rfl) (Opl.one rfl rfl (by simp only [go_sem]; rfl) (Opl.nil (Evr.condF rfl (Evr.skip (Evr.sr rfl (Opl.one rfl rfl (by simp only [go_sem]; rfl) (Opl.nil (Evr.sr rfl (Opl.one rfl rfl (by simp only [go_sem]; rfl) (Opl.one rfl rfl (by simp only [go_sem]; rfl) ?_)))))))))))
 obtain ⟨m_1, w_2, hf12, H⟩ := H
 obtain ⟨hf13, H⟩ := H
 refine Opl.calls (laws_markIntS.evm (tree_vec h48).1 hf12) rfl rfl rfl rfl rfl ?_
 rintro _ S ⟨rfl, h50, s3⟩
 have h51 := s3.box h46 ap7
 have h52 := s3.box h47 ap9
 have h53 := h50.tree (oInt .i64)
 refine Opl.one rfl rfl (by simp only [go_sem]; rfl) (Opl.nil (Evr.sr rfl (Opl.one rfl rfl (by simp only [go_sem]; rfl) (Opl.nil (Evr.sr rfl (Opl.one rfl rfl (by simp only [go_sem]; rfl) (Opl.one rfl rfl (by simp only [go_sem]; rfl) ?_)))))))
 obtain ⟨hf14, H⟩ := H
 obtain ⟨_, vw7, r15⟩ := ((oRow (oPl (cInt .i64) (oInt .i64)))).view h53
 obtain ⟨pv18, rfl, h54⟩ := r15
 have h54 : Sl (cInt .i64) w_2 pv18 := h54
 replace vw7 := vw7.2 0 _ _ rfl rfl
 refine Opl.callw (laws_heldIntS.ev h54 hf14) rfl rfl rfl (.cons vw7 (.cons (.refl _) .nil)) ⟨h54.plain, (.lit _), trivial⟩ (by decide) (Opl.one rfl rfl (by simp only [go_sem]; rfl) (Opl.nil (Evr.seq (Evr.sr rfl (Opl.one rfl rfl (by simp only [go_sem]; rfl) (Opl.one rfl rfl (by simp only [go_sem]; rfl) (Opl.nil ?_)))))))
 have e6 : (decide (m_1 < 0)) = false := decide_eq_false (by have := hf13; omega)
 try rw [e6]
 refine Evr.condF rfl (Evr.skip (Evr.seq (Evr.sr rfl (Opl.one rfl rfl (by simp only [go_sem]; rfl) (Opl.one rfl rfl (by simp only [go_sem]; rfl) (Opl.one rfl rfl (by simp only [go_sem]; rfl) (Opl.nil ?_)))))))
 have e7 : (m_1 != m_1) = false := by simp
 try rw [e7]
 refine Evr.condF rfl (Evr.skip (Evr.sr rfl (Opl.ldb (v := .agg [v0_0, .lit (.int .i64 a0_1), v0_2]) h51 rfl T38 rfl rfl rfl rfl ?_)))
 refine Opl.call (laws_toGraph.ev hv0_0 hv0_2 hf3) rfl rfl rfl rfl ⟨(.aggL ⟨hv0_0.plain, (.lit _), hv0_2.plain, trivial⟩), trivial⟩ (by decide) ?_
 rintro _ ⟨pv20, _, pv21, rfl, h56, rfl, h57⟩
 refine Opl.one rfl rfl (by simp only [go_sem]; rfl) (Opl.one rfl rfl (by simp only [go_sem]; rfl) ?_)
 refine Opl.call ((laws_toTreeS.ev hv2 hf5).mono fun _ _ h => Out.vec h) rfl rfl rfl rfl ⟨hv2.plain, trivial⟩ (by decide) ?_
 rintro pv22 h58
 refine Opl.call ((impl_TreesOn.ev h56 h57 h58 hf8).mono fun _ _ h => Out.vec h) rfl rfl rfl rfl ⟨(.aggL ⟨h56.plain, (.lit _), h57.plain, trivial⟩), (.lit _), h58.plain, trivial⟩ (by decide) ?_
 rintro pv23 h59
 refine Opl.one rfl rfl (by simp only [go_sem]; rfl) (Opl.nil (Evr.seq (Evr.sr rfl (Opl.one rfl rfl (by simp only [go_sem]; rfl) (Opl.one rfl rfl (by simp only [go_sem]; rfl) ?_)))))
 refine Opl.callc (laws_eqIntS.ev h59 h6 hf9) rfl rfl rfl rfl ⟨h59.plain, h6.plain, trivial⟩ (by decide) (Opl.one rfl rfl (by simp only [go_sem]; rfl) (Opl.nil (Evr.condF rfl (Evr.skip (Evr.sr rfl (Opl.one rfl rfl (by simp only [go_sem]; rfl) (Opl.nil (Evr.sr rfl (Opl.one rfl rfl (by simp only [go_sem]; rfl) (Opl.one rfl rfl (by simp only [go_sem]; rfl) ?_))))))))))
 obtain ⟨_, vw8, r16⟩ := ((oRow (oPl (cInt .i64) (oInt .i64)))).view h53
 obtain ⟨pv24, rfl, h60⟩ := r16
 have h60 : Sl (cInt .i64) w_2 pv24 := h60
 replace vw8 := vw8.2 0 _ _ rfl rfl
 refine Opl.callw (laws_heldIntS.ev h60 hf14) rfl rfl rfl (.cons vw8 (.cons (.refl _) .nil)) ⟨h60.plain, (.lit _), trivial⟩ (by decide) (Opl.one rfl rfl (by simp only [go_sem]; rfl) (Opl.nil (Evr.seq (Evr.sr rfl (Opl.one rfl rfl (by simp only [go_sem]; rfl) (Opl.one rfl rfl (by simp only [go_sem]; rfl) (Opl.nil ?_)))))))
 have e8 : (decide (m_1 < 0)) = false := decide_eq_false (by have := hf13; omega)
 try rw [e8]
 refine Evr.condF rfl (Evr.skip (Evr.seq (Evr.sr rfl (Opl.one rfl rfl (by simp only [go_sem]; rfl) (Opl.one rfl rfl (by simp only [go_sem]; rfl) (Opl.one rfl rfl (by simp only [go_sem]; rfl) (Opl.nil ?_)))))))
 have e9 : (m_1 != m_1) = false := by simp
 try rw [e9]
 refine Evr.condF rfl (Evr.skip (Evr.sr rfl (Opl.one rfl rfl (by simp only [go_sem]; rfl) (Opl.nil ?_))))
 exact Evr.ret1 Try.func4 rfl rfl
end Go.Proofs.Ytikjlbanfbkhmaa.PA
