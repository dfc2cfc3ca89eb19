/- Walks of Go functions: each is shown to answer as the Lean function beside it tells, under the conditions that its theorem names. -/
import Derived.Test.YtpjmiaooogephaaProg
import Derived.KernelRfl
import Derived.Below
import Derived.Deep.Draws
import Derived.Deep.AppendLies
import Derived.Maps.AppendAt
import Derived.OwnWalk
import Derived.Laws.BytesArg
import Derived.Laws.MakeOwn
import Derived.Laws.OwnMore
import Derived.Deep.OwnRows
import Derived.Tactics
import Derived.Lib.ConvBytes
import Derived.Laws.Slices
import Derived.WalkKit
import Derived.RowKit3
import Derived.Deep.LoopGhost
import Derived.Deep.QuietTactic
import Derived.BigQuiet
import Derived.WideLaws
import Derived.Deep.DeepCutAuto
import Derived.Deep.CutBlock
import Derived.Deep.RegionHeld3
import Derived.Laws.Rows
import Derived.Lib.AppendStr
import Derived.ArgAppend
import Derived.Laws.IdiomCopy
import Derived.OrdersHeld
import Derived.Laws.BitsLemmas
import Derived.RowKit
import Derived.Laws.StructEq
import Derived.Lib.SliceRun
import Derived.WalkSpells
import Derived.ChangeArms
import Derived.ChangeSlices
import Derived.Deep.Slices
import Derived.Attr
import Derived.Laws.Append
import Derived.Laws.AppendOwn
import Derived.Laws.Entries
import Derived.Calls
import Derived.Laws.Sem
import Derived.Test.YtpjmiaooogephaaKP421dc85d9e
import Derived.Test.YtpjmiaooogephaaKP6dcff9fb0e
import Derived.Test.YtpjmiaooogephaaKQ3314bfd3d2
namespace Go.Proofs.Ytpjmiaooogephaa.PA
open Go Go.Abs Go.RowKit Go.Proofs Go.Proofs.YtpjmiaooogephaaW.PrintWords Go.Proofs.YtpjmiaooogephaaW.PrintLast Go.Proofs.YtpjmiaooogephaaW.PrintMore
set_option maxRecDepth 100000
set_option maxHeartbeats 4000000
set_option linter.unusedVariables false
set_option linter.unusedSimpArgs false
theorem laws_FnExactReplay.ev {k : Nat} {l0_0 : List LVar} {v0_0 : PV} (hv0_0 : Sl cLVar l0_0 v0_0) {l0_1 : List LRule} {v0_1 : PV} (hv0_1 : Sl cLRule l0_1 v0_1) {l1 : List Int} {v1 : PV} (hv1 : Sl (cInt .i64) l1 v1) (H : laws_FnExactReplay.Good k l0_0 l0_1 l1) : Ret Try.prog 7 [.agg [v0_0, v0_1], v1] fun v S => v = .lit (.bool true) := by
 unfold laws_FnExactReplay.Good at H
 refine Ret.intro Try.func7 rfl (Nat.le_of_ble_eq_true rfl) rfl ?_
 rw [tm2]
 refine Evr.sr rfl (Opl.box (cs := [v0_0, v0_1]) rfl rfl rfl rfl ?_)
 rintro i1 S h1 u1 w1
 refine Opl.one rfl rfl (by simp only [go_sem]; rfl) (Opl.nil (Evr.seq (Evr.sr rfl (Opl.one rfl rfl (by simp only [go_sem]; rfl) (Opl.len (xs := l1) (by exact hv1) K27 rfl rfl rfl rfl (Opl.one rfl rfl (by simp only [go_sem]; rfl) (Opl.nil ?_)))))))
 by_cases c1 : (l1.length : Int) > 1048576
 ·
  have e1 : (decide ((l1.length : Int) > 1048576)) = true := by simpa using c1
  try rw [e1]
  refine Evr.condT rfl (Evr.sr rfl (Opl.one rfl rfl (by simp only [go_sem]; rfl) (Opl.nil ?_)))
  exact Evr.ret1 Try.func7 rfl rfl
 replace H := H.resolve_left c1
 have e2 : (decide ((l1.length : Int) > 1048576)) = false := by simpa using c1
 try rw [e2]
 refine Evr.condF rfl (Evr.skip (Evr.sr rfl (Opl.one rfl rfl (by simp only [go_sem]; rfl) (Opl.nil (Evr.sr rfl (Opl.ldb (v := .agg [v0_0, v0_1]) h1 rfl T56 rfl rfl rfl rfl (Opl.one rfl rfl (by simp only [go_sem]; rfl) ?_)))))))
 obtain ⟨t_1, hf1, H⟩ := H
 refine Opl.callc (laws_szSystem.ev hv0_0 hv0_1 hf1) rfl rfl rfl rfl ⟨(.aggL ⟨hv0_0.plain, hv0_1.plain, trivial⟩), (.lit _), trivial⟩ (by decide) (Opl.one rfl rfl (by simp only [go_sem]; rfl) (Opl.nil (Evr.seq (Evr.sr rfl (Opl.one rfl rfl (by simp only [go_sem]; rfl) (Opl.one rfl rfl (by simp only [go_sem]; rfl) (Opl.nil ?_)))))))
 by_cases c2 : t_1 < 0
 ·
  have e3 : (decide (t_1 < 0)) = true := by simpa using c2
  try rw [e3]
  refine Evr.condT rfl (Evr.sr rfl (Opl.one rfl rfl (by simp only [go_sem]; rfl) (Opl.nil ?_)))
  exact Evr.ret1 Try.func7 rfl rfl
 replace H := H.resolve_left c2
 have e4 : (decide (t_1 < 0)) = false := by simpa using c2
 try rw [e4]
 refine Evr.condF rfl (Evr.skip (Evr.sr rfl (Opl.ldb (v := .agg [v0_0, v0_1]) h1 rfl T56 rfl rfl rfl rfl ?_)))
 obtain ⟨b_1, hf2, H⟩ := H
 obtain ⟨hf3, H⟩ := H
 refine Opl.call (laws_toSystem.ev hv0_0 hv0_1 hf2) rfl rfl rfl rfl ⟨(.aggL ⟨hv0_0.plain, hv0_1.plain, trivial⟩), trivial⟩ (by decide) ?_
 rintro _ ⟨pv2, pv3, rfl, h3, h4⟩
 refine Opl.one rfl rfl (by simp only [go_sem]; rfl) ?_
 obtain ⟨b_2, hf4, H⟩ := H
 obtain ⟨hf5, H⟩ := H
 refine Opl.call ((laws_toIntS.ev hv1 hf4).mono fun _ _ h => Out.vec h) rfl rfl rfl rfl ⟨hv1.plain, trivial⟩ (by decide) ?_
 rintro pv4 h5
 obtain ⟨w_1, hf6, H⟩ := H
 refine Opl.call (spec_Replay.ev h3 h4 h5 hf6) rfl rfl rfl rfl ⟨(.aggL ⟨h3.plain, h4.plain, trivial⟩), h5.plain, trivial⟩ (by decide) ?_
 rintro _ ⟨_, _, rfl, ⟨pv6, pv7, rfl, h7, h8⟩, rfl⟩
 refine Opl.one rfl rfl (by simp only [go_sem]; rfl) (Opl.one (v := .agg [pv6, pv7]) rfl rfl (by simp only [go_sem]; rfl) (Opl.one (v := .lit (.int .i64 w_1.2)) rfl rfl (by simp only [go_sem]; rfl) (Opl.alloc T42 rfl rfl rfl ?_)))
 rintro i2 S h9 u2 w2
 have ap1 := w2.box h1
 have h10 := u2.box h1 ap1
 refine Opl.stb (vs := [pv6, pv7]) h9 rfl rfl Z42 rfl (Nat.le_of_ble_eq_true rfl) (by simp only [List.all_cons, List.all_nil, h7.one, h8.one, Bool.and_true, Bool.true_and] <;> rfl) rfl rfl rfl ?_
 rintro S (h11 : Box (.ptr i2 0) [pv6, pv7] _) u3
 have h12 := u3.box h10 ap1
 refine Opl.one rfl rfl (by simp only [go_sem]; rfl) (Opl.nil (Evr.sr rfl (Opl.ldb (v := .agg [v0_0, v0_1]) h12 rfl T56 rfl rfl rfl rfl ?_)))
 refine Opl.callm (laws_toSystem.mk hv0_0 hv0_1 hf2) rfl rfl rfl rfl rfl ?_
 rintro q1 S ids1 h13 f1 g1
 obtain ⟨pq1_0, pq1_1, rfl⟩ := two_of (((oPr (oRow (oPl cIVar oIVar)) (oRow owIRule))).len h13)
 have o1 : pq1_0.one = true := ((oPr (oRow (oPl cIVar oIVar)) (oRow owIRule))).ones h13 _ (by simp)
 have o2 : pq1_1.one = true := ((oPr (oRow (oPl cIVar oIVar)) (oRow owIRule))).ones h13 _ (by simp)
 have ap2 := f1.box h12
 have h14 := g1.box h12
 have ap3 := f1.box h11
 have h15 := g1.box h11
 refine Opl.alloc T26 rfl rfl rfl ?_
 rintro i3 S h16 u4 w4
 have ap4 := w4.box h14
 have h17 := u4.box h14 ap4
 have ap5 := w4.box h15
 have h18 := u4.box h15 ap5
 have ap6 := w4.tree h13
 have h19 := u4.tree h13 ap6
 refine Opl.stb (vs := [pq1_0, pq1_1]) h16 rfl rfl Z26 rfl (Nat.le_of_ble_eq_true rfl) (by simp only [List.all_cons, List.all_nil, o1, o2, Bool.and_true, Bool.true_and] <;> rfl) rfl rfl rfl ?_
 rintro S (h20 : Box (.ptr i3 0) [pq1_0, pq1_1] _) u5
 have h21 := u5.box h17 ap4
 have h22 := u5.box h18 ap5
 have h23 := u5.tree h19 ap6
 refine Opl.nil (Evr.sr rfl (Opl.one rfl rfl (by simp only [go_sem]; rfl) ?_))
 refine Opl.calla (laws_toIntS.ev hv1 hf4) rfl rfl rfl rfl ⟨hv1.plain, trivial⟩ rfl ?_
 rintro p1 S h25 u6 w6
 have h24 := h25.tree (oInt .i64)
 have f2 := w6.fresh
 have g2 := Grow.of u6 w6
 have o3 : p1.one = true := oRow_p1 h24
 have ap7 := f2.box h21
 have h26 := g2.box h21
 have ap8 := f2.box h22
 have h27 := g2.box h22
 have ap9 := f2.tree h23
 have h28 := g2.tree h23
 have ap10 := f2.box h20
 have h29 := g2.box h20
 refine Opl.one rfl rfl (by simp only [go_sem]; rfl) (Opl.nil (Evr.sr rfl (Opl.ldb (v := .agg [pq1_0, pq1_1]) h29 rfl T26 rfl rfl rfl rfl (Opl.one rfl rfl (by simp only [go_sem]; rfl) ?_))))
 obtain ⟨hf7, H⟩ := H
 obtain ⟨_, vw1, r1⟩ := ((oPr (oRow (oPl cIVar oIVar)) (oRow owIRule))).view h28
 obtain ⟨_, _, rfl, r2, r3⟩ := r1
 obtain ⟨pv8, rfl, h30⟩ := r2
 have h30 : Sl cIVar b_1.1 pv8 := h30
 obtain ⟨pv9, rfl, h31⟩ := r3
 have h31 : Sl cIRule b_1.2 pv9 := h31
 obtain ⟨_, vw2, r4⟩ := ((oRow (oPl (cInt .i64) (oInt .i64)))).view h24
 obtain ⟨pv10, rfl, h32⟩ := r4
 have h32 : Sl (cInt .i64) b_2 pv10 := h32
 replace vw2 := vw2.2 0 _ _ rfl rfl
 refine Opl.callg3 (.row (.pl (sInt .i64))) (.pl (sInt .i64)) (sInt .i64) (c0 := (.int .i64 w_1.2)) (fun _ h => h) (impl_Replay.evo h30 h31 h32 hf7) rfl rfl rfl (.cons (ViewL.agg vw1) (.cons vw2 .nil)) ⟨(.aggL ⟨h30.plain, h31.plain, trivial⟩), h32.plain, trivial⟩ rfl ?_
 rintro p2 p3 S ids3 h33 f3 g3
 have o4 : p2.one = true := ((oPr (oRow (oRow (oPl (cInt .i64) (oInt .i64)))) (oRow (oPl (cInt .i64) (oInt .i64))))).ones h33 _ (by simp)
 have o5 : p3.one = true := ((oPr (oRow (oRow (oPl (cInt .i64) (oInt .i64)))) (oRow (oPl (cInt .i64) (oInt .i64))))).ones h33 _ (by simp)
 have ap11 := f3.box h26
 have h34 := g3.box h26
 have ap12 := f3.box h27
 have h35 := g3.box h27
 have ap13 := f3.tree h28
 have h36 := g3.tree h28
 have ap14 := f3.box h29
 have h37 := g3.box h29
 have ap15 := f3.tree h24
 have h38 := g3.tree h24
 refine Opl.one rfl rfl (by simp only [go_sem]; rfl) (Opl.one (v := .agg [p2, p3]) rfl rfl (by simp only [go_sem]; rfl) (Opl.one (v := .lit (.int .i64 w_1.2)) rfl rfl (by simp only [go_sem]; rfl) (Opl.alloc T42 rfl rfl rfl ?_)))
 rintro i4 S h39 u7 w7
 have ap16 := w7.box h34
 have h40 := u7.box h34 ap16
 have ap17 := w7.box h35
 have h41 := u7.box h35 ap17
 have ap18 := w7.tree h36
 have h42 := u7.tree h36 ap18
 have ap19 := w7.box h37
 have h43 := u7.box h37 ap19
 have ap20 := w7.tree h38
 have h44 := u7.tree h38 ap20
 have ap21 := w7.tree h33
 have h45 := u7.tree h33 ap21
 refine Opl.stb (vs := [p2, p3]) h39 rfl rfl Z42 rfl (Nat.le_of_ble_eq_true rfl) (by simp only [List.all_cons, List.all_nil, o4, o5, Bool.and_true, Bool.true_and] <;> rfl) rfl rfl rfl ?_
 rintro S (h46 : Box (.ptr i4 0) [p2, p3] _) u8
 have h47 := u8.box h40 ap16
 have h48 := u8.box h41 ap17
 have h49 := u8.tree h42 ap18
 have h50 := u8.box h43 ap19
 have h51 := u8.tree h44 ap20
 have h52 := u8.tree h45 ap21
 refine Opl.one rfl rfl (by simp only [go_sem]; rfl) (Opl.nil (Evr.seq (Evr.sr rfl (Opl.ldb (v := .agg [p2, p3]) h46 rfl T42 rfl rfl rfl rfl (Opl.ldb (v := .agg [pv6, pv7]) h48 rfl T42 rfl rfl rfl rfl ?_)))))
 obtain ⟨hf8, H⟩ := H
 obtain ⟨_, vw3, r5⟩ := ((oPr (oRow (oRow (oPl (cInt .i64) (oInt .i64)))) (oRow (oPl (cInt .i64) (oInt .i64))))).view h52
 obtain ⟨_, _, rfl, r6, r7⟩ := r5
 obtain ⟨pv11, rfl, h53⟩ := r6
 have h53 : Sl (cSl (cInt .i64)) w_1.1.1 pv11 := h53
 obtain ⟨pv12, rfl, h54⟩ := r7
 have h54 : Sl (cInt .i64) w_1.1.2 pv12 := h54
 refine Opl.callw (laws_eqTrace.ev h53 h54 h7 h8 hf8) rfl rfl rfl (.cons (ViewL.agg vw3) (.cons (.refl _) .nil)) ⟨(.aggL ⟨h53.plain, h54.plain, trivial⟩), (.aggL ⟨h7.plain, h8.plain, trivial⟩), trivial⟩ (by decide) (Opl.one rfl rfl (by simp only [go_sem]; rfl) (Opl.one rfl rfl (by simp only [go_sem]; rfl) (Opl.one rfl rfl (by simp only [go_sem]; rfl) (Opl.one rfl rfl (by simp only [go_sem]; rfl) (Opl.one rfl rfl (by simp only [go_sem]; rfl) (Opl.one rfl rfl (by simp only [go_sem]; rfl) (Opl.nil ?_)))))))
 have e5 : (w_1.2 != w_1.2) = false := by simp
 try rw [e5]
 refine Evr.condF rfl (Evr.skip (Evr.seq (Evr.seq (Evr.regionD rfl (by kernel_rfl) (Opl.ldb (v := .agg [pq1_0, pq1_1]) h50 rfl T26 rfl rfl rfl rfl (Opl.ldb (v := .agg [v0_0, v0_1]) h47 rfl T56 rfl rfl rfl rfl ?_))))))
 refine Opl.call (laws_toSystem.ev hv0_0 hv0_1 hf2) rfl rfl rfl rfl ⟨(.aggL ⟨hv0_0.plain, hv0_1.plain, trivial⟩), trivial⟩ (by decide) ?_
 rintro _ ⟨pv14, pv15, rfl, h56, h57⟩
 obtain ⟨hf9, H⟩ := H
 obtain ⟨_, vw4, r8⟩ := ((oPr (oRow (oPl cIVar oIVar)) (oRow owIRule))).view h49
 obtain ⟨_, _, rfl, r9, r10⟩ := r8
 obtain ⟨pv16, rfl, h58⟩ := r9
 have h58 : Sl cIVar b_1.1 pv16 := h58
 obtain ⟨pv17, rfl, h59⟩ := r10
 have h59 : Sl cIRule b_1.2 pv17 := h59
 refine Opl.callw (laws_eqSystem.ev h58 h59 h56 h57 hf9) rfl rfl rfl (.cons (ViewL.agg vw4) (.cons (.refl _) .nil)) ⟨(.aggL ⟨h58.plain, h59.plain, trivial⟩), (.aggL ⟨h56.plain, h57.plain, trivial⟩), trivial⟩ (by decide) (Opl.one rfl rfl (by simp only [go_sem]; rfl) (Opl.nil (Evr.condF rfl (Evr.skip (Evr.seq (Evr.sr rfl (Opl.one rfl rfl (by simp only [go_sem]; rfl) (Opl.one rfl rfl (by simp only [go_sem]; rfl) ?_))))))))
 refine Opl.call ((laws_toIntS.ev hv1 hf4).mono fun _ _ h => Out.vec h) rfl rfl rfl rfl ⟨hv1.plain, trivial⟩ (by decide) ?_
 rintro pv18 h60
 obtain ⟨hf10, H⟩ := H
 obtain ⟨_, vw5, r11⟩ := ((oRow (oPl (cInt .i64) (oInt .i64)))).view h51
 obtain ⟨pv19, rfl, h61⟩ := r11
 have h61 : Sl (cInt .i64) b_2 pv19 := h61
 replace vw5 := vw5.2 0 _ _ rfl rfl
 refine Opl.callw (laws_eqIntS.ev h61 h60 hf10) rfl rfl rfl (.cons vw5 (.cons (.refl _) .nil)) ⟨h61.plain, h60.plain, trivial⟩ (by decide) (Opl.one rfl rfl (by simp only [go_sem]; rfl) (Opl.nil (Evr.condF rfl (Evr.skip (Evr.sr rfl (Opl.one rfl rfl (by simp only [go_sem]; rfl) (Opl.nil (Evr.sr rfl (Opl.ldb (v := .agg [pq1_0, pq1_1]) h50 rfl T26 rfl rfl rfl rfl (Opl.one rfl rfl (by simp only [go_sem]; rfl) (Opl.mark laws_markSystem.mks (B := 4611691515988672512) h49 ⟨trivial, ⟨Nat.le_trans hf3.2.1 (by decide), fun y0 hy0 => ⟨trivial, trivial, ⟨Nat.le_trans (hf3.2.2 y0 hy0).2.2.1 (by decide), fun y1 hy1 => trivial⟩⟩⟩⟩ (Nat.add_le_add (leaves_le hf3.1 fun _ _ => Nat.le_refl _) (leaves_le hf3.2.1 fun y0 hy0 => (Nat.add_le_add (Nat.add_le_add (leaves_le (hf3.2.2 y0 hy0).1 fun _ _ => Nat.le_refl _) (leaves_le (hf3.2.2 y0 hy0).2.1 fun _ _ => Nat.le_refl _)) (leaves_le (hf3.2.2 y0 hy0).2.2.1 fun y1 hy1 => (leaves_le ((hf3.2.2 y0 hy0).2.2.2 y1 hy1) fun _ _ => Nat.le_refl _))))) (by omega) (by omega) rfl rfl rfl rfl rfl ?_)))))))))))
 rintro k_1 S h62 h63 s1
 have h64 : 0 ≤ k_1 := by omega
 have h65 := s1.box h47 ap2
 have h66 := s1.box h48 ap3
 have h67 := s1.box h50 ap6
 have h68 := s1.tree h51 ap9.symm
 have h69 := s1.tree h52 ap13.symm
 have h70 := s1.box h46 ap18
 refine Opl.one rfl rfl (by simp only [go_sem]; rfl) (Opl.nil (Evr.sr rfl (Opl.one rfl rfl (by simp only [go_sem]; rfl) (Opl.one rfl rfl (by simp only [go_sem]; rfl) (Opl.mark laws_markIntS.mks (B := 1048576) h68 trivial (leaves_le hf5 fun _ _ => Nat.le_refl _) (by omega) (by omega) rfl rfl rfl rfl rfl ?_)))))
 rintro k_2 S h71 h72 s2
 have h73 : 0 ≤ k_2 := by omega
 have h74 := s2.box h65 ap7
 have h75 := s2.box h66 ap8
 have h76 := s2.box h67 ap10
 have h77 := s2.tree h69 ap15.symm
 have h78 := s2.box h70 ap20
 refine Opl.one rfl rfl (by simp only [go_sem]; rfl) (Opl.nil (Evr.seq (Evr.sr rfl (Opl.one rfl rfl (by simp only [go_sem]; rfl) (Opl.one rfl rfl (by simp only [go_sem]; rfl) (Opl.one rfl rfl (by simp only [go_sem]; rfl) ?_))))))
 have e6 : (decide (k_2 < 0)) = false := decide_eq_false (by have := h73; omega)
 try rw [e6]
 refine Opl.ldb (v := .agg [p2, p3]) h78 rfl T42 rfl rfl rfl rfl (Opl.ldb (v := .agg [pv6, pv7]) h75 rfl T42 rfl rfl rfl rfl ?_)
 obtain ⟨_, vw6, r12⟩ := ((oPr (oRow (oRow (oPl (cInt .i64) (oInt .i64)))) (oRow (oPl (cInt .i64) (oInt .i64))))).view h77
 obtain ⟨_, _, rfl, r13, r14⟩ := r12
 obtain ⟨pv20, rfl, h79⟩ := r13
 have h79 : Sl (cSl (cInt .i64)) w_1.1.1 pv20 := h79
 obtain ⟨pv21, rfl, h80⟩ := r14
 have h80 : Sl (cInt .i64) w_1.1.2 pv21 := h80
 refine Opl.callw (laws_eqTrace.ev h79 h80 h7 h8 hf8) rfl rfl rfl (.cons (ViewL.agg vw6) (.cons (.refl _) .nil)) ⟨(.aggL ⟨h79.plain, h80.plain, trivial⟩), (.aggL ⟨h7.plain, h8.plain, trivial⟩), trivial⟩ (by decide) (Opl.one rfl rfl (by simp only [go_sem]; rfl) (Opl.one rfl rfl (by simp only [go_sem]; rfl) (Opl.one rfl rfl (by simp only [go_sem]; rfl) (Opl.one rfl rfl (by simp only [go_sem]; rfl) (Opl.one rfl rfl (by simp only [go_sem]; rfl) (Opl.one rfl rfl (by simp only [go_sem]; rfl) (Opl.one rfl rfl (by simp only [go_sem]; rfl) (Opl.nil ?_))))))))
 have e7 : (w_1.2 != w_1.2) = false := by simp
 try rw [e7]
 refine Evr.condF rfl (Evr.skip (Evr.sr rfl (Opl.one rfl rfl (by simp only [go_sem]; rfl) (Opl.nil (Evr.sr rfl (Opl.ldb (v := .agg [p2, p3]) h78 rfl T42 rfl rfl rfl rfl (Opl.one rfl rfl (by simp only [go_sem]; rfl) ?_)))))))
 obtain ⟨m_1, w_2, hf11, H⟩ := H
 obtain ⟨m_2, w_3, hf12, H⟩ := H
 obtain ⟨hf13, H⟩ := H
 obtain ⟨hf14, H⟩ := H
 refine Opl.calls (laws_markTrace.evm h77 hf14 hf11 hf12) rfl rfl rfl rfl rfl ?_
 rintro _ S ⟨rfl, ids4, h81, m1, s3⟩
 have h82 := s3.box h74 ap11
 have h83 := s3.box h75 ap12
 have h84 := s3.box h76 ap14
 have h85 := s3.box h78 ap21
 have ap22 : ApT (.ptr i1 0) ids4 := fun z hz => ap11 z (m1 z hz)
 have ap23 : ApT (.ptr i2 0) ids4 := fun z hz => ap12 z (m1 z hz)
 have ap24 : ApT (.ptr i3 0) ids4 := fun z hz => ap14 z (m1 z hz)
 have ap25 : ApT (.ptr i4 0) ids4 := fun z hz => ap21 z (m1 z hz)
 refine Opl.one rfl rfl (by simp only [go_sem]; rfl) (Opl.nil (Evr.sr rfl (Opl.one rfl rfl (by simp only [go_sem]; rfl) (Opl.nil (Evr.sr rfl (Opl.ldb (v := .agg [p2, p3]) h85 rfl T42 rfl rfl rfl rfl (Opl.one rfl rfl (by simp only [go_sem]; rfl) ?_)))))))
 obtain ⟨hf15, H⟩ := H
 obtain ⟨_, vw7, r15⟩ := ((oPr (oRow (oRow (oPl (cInt .i64) (oInt .i64)))) (oRow (oPl (cInt .i64) (oInt .i64))))).view h81
 obtain ⟨_, _, rfl, r16, r17⟩ := r15
 obtain ⟨pv22, rfl, h86⟩ := r16
 have h86 : Sl (cSl (cInt .i64)) ((w_2, w_3).1) pv22 := h86
 obtain ⟨pv23, rfl, h87⟩ := r17
 have h87 : Sl (cInt .i64) ((w_2, w_3).2) pv23 := h87
 refine Opl.callw (laws_heldTrace.ev h86 h87 hf15) rfl rfl rfl (.cons (ViewL.agg vw7) (.cons (.refl _) .nil)) ⟨(.aggL ⟨h86.plain, h87.plain, trivial⟩), (.lit _), trivial⟩ (by decide) (Opl.one rfl rfl (by simp only [go_sem]; rfl) (Opl.nil (Evr.seq (Evr.sr rfl (Opl.one rfl rfl (by simp only [go_sem]; rfl) (Opl.one rfl rfl (by simp only [go_sem]; rfl) (Opl.nil ?_)))))))
 have e8 : (decide (m_2 < 0)) = false := decide_eq_false (by have := hf13; omega)
 try rw [e8]
 refine Evr.condF rfl (Evr.skip (Evr.seq (Evr.sr rfl (Opl.one rfl rfl (by simp only [go_sem]; rfl) (Opl.one rfl rfl (by simp only [go_sem]; rfl) (Opl.one rfl rfl (by simp only [go_sem]; rfl) (Opl.nil ?_)))))))
 have e9 : (m_2 != m_2) = false := by simp
 try rw [e9]
 refine Evr.condF rfl (Evr.skip (Evr.sr rfl (Opl.ldb (v := .agg [v0_0, v0_1]) h82 rfl T56 rfl rfl rfl rfl ?_)))
 refine Opl.call (laws_toSystem.ev hv0_0 hv0_1 hf2) rfl rfl rfl rfl ⟨(.aggL ⟨hv0_0.plain, hv0_1.plain, trivial⟩), trivial⟩ (by decide) ?_
 rintro _ ⟨pv25, pv26, rfl, h89, h90⟩
 refine Opl.one rfl rfl (by simp only [go_sem]; rfl) ?_
 refine Opl.call ((laws_toIntS.ev hv1 hf4).mono fun _ _ h => Out.vec h) rfl rfl rfl rfl ⟨hv1.plain, trivial⟩ (by decide) ?_
 rintro pv27 h91
 refine Opl.call (impl_Replay.ev h89 h90 h91 hf7) rfl rfl rfl rfl ⟨(.aggL ⟨h89.plain, h90.plain, trivial⟩), h91.plain, trivial⟩ (by decide) ?_
 rintro _ ⟨_, _, rfl, ⟨pv29, pv30, rfl, h93, h94⟩, rfl⟩
 refine Opl.one rfl rfl (by simp only [go_sem]; rfl) (Opl.one (v := .agg [pv29, pv30]) rfl rfl (by simp only [go_sem]; rfl) (Opl.one (v := .lit (.int .i64 w_1.2)) rfl rfl (by simp only [go_sem]; rfl) (Opl.alloc T42 rfl rfl rfl ?_)))
 rintro i5 S h95 u9 w9
 have ap26 := w9.box h82
 have h96 := u9.box h82 ap26
 have ap27 := w9.box h83
 have h97 := u9.box h83 ap27
 have ap28 := w9.box h84
 have h98 := u9.box h84 ap28
 have ap29 := w9.tree h81
 have h99 := u9.tree h81 ap29
 have ap30 := w9.box h85
 have h100 := u9.box h85 ap30
 refine Opl.stb (vs := [pv29, pv30]) h95 rfl rfl Z42 rfl (Nat.le_of_ble_eq_true rfl) (by simp only [List.all_cons, List.all_nil, h93.one, h94.one, Bool.and_true, Bool.true_and] <;> rfl) rfl rfl rfl ?_
 rintro S (h101 : Box (.ptr i5 0) [pv29, pv30] _) u10
 have h102 := u10.box h96 ap26
 have h103 := u10.box h97 ap27
 have h104 := u10.box h98 ap28
 have h105 := u10.tree h99 ap29
 have h106 := u10.box h100 ap30
 refine Opl.one rfl rfl (by simp only [go_sem]; rfl) (Opl.nil (Evr.seq (Evr.sr rfl (Opl.ldb (v := .agg [pv29, pv30]) h101 rfl T42 rfl rfl rfl rfl (Opl.ldb (v := .agg [pv6, pv7]) h103 rfl T42 rfl rfl rfl rfl ?_)))))
 refine Opl.callc (laws_eqTrace.ev h93 h94 h7 h8 hf8) rfl rfl rfl rfl ⟨(.aggL ⟨h93.plain, h94.plain, trivial⟩), (.aggL ⟨h7.plain, h8.plain, trivial⟩), trivial⟩ (by decide) (Opl.one rfl rfl (by simp only [go_sem]; rfl) (Opl.one rfl rfl (by simp only [go_sem]; rfl) (Opl.one rfl rfl (by simp only [go_sem]; rfl) (Opl.one rfl rfl (by simp only [go_sem]; rfl) (Opl.one rfl rfl (by simp only [go_sem]; rfl) (Opl.one rfl rfl (by simp only [go_sem]; rfl) (Opl.nil ?_)))))))
 have e10 : (w_1.2 != w_1.2) = false := by simp
 try rw [e10]
 refine Evr.condF rfl (Evr.skip (Evr.sr rfl (Opl.one rfl rfl (by simp only [go_sem]; rfl) (Opl.nil (Evr.sr rfl (Opl.ldb (v := .agg [p2, p3]) h106 rfl T42 rfl rfl rfl rfl (Opl.one rfl rfl (by simp only [go_sem]; rfl) ?_)))))))
 obtain ⟨_, vw8, r18⟩ := ((oPr (oRow (oRow (oPl (cInt .i64) (oInt .i64)))) (oRow (oPl (cInt .i64) (oInt .i64))))).view h105
 obtain ⟨_, _, rfl, r19, r20⟩ := r18
 obtain ⟨pv31, rfl, h107⟩ := r19
 have h107 : Sl (cSl (cInt .i64)) ((w_2, w_3).1) pv31 := h107
 obtain ⟨pv32, rfl, h108⟩ := r20
 have h108 : Sl (cInt .i64) ((w_2, w_3).2) pv32 := h108
 refine Opl.callw (laws_heldTrace.ev h107 h108 hf15) rfl rfl rfl (.cons (ViewL.agg vw8) (.cons (.refl _) .nil)) ⟨(.aggL ⟨h107.plain, h108.plain, trivial⟩), (.lit _), trivial⟩ (by decide) (Opl.one rfl rfl (by simp only [go_sem]; rfl) (Opl.nil (Evr.seq (Evr.sr rfl (Opl.one rfl rfl (by simp only [go_sem]; rfl) (Opl.one rfl rfl (by simp only [go_sem]; rfl) (Opl.nil ?_)))))))
 have e11 : (decide (m_2 < 0)) = false := decide_eq_false (by have := hf13; omega)
 try rw [e11]
 refine Evr.condF rfl (Evr.skip (Evr.seq (Evr.sr rfl (Opl.one rfl rfl (by simp only [go_sem]; rfl) (Opl.one rfl rfl (by simp only [go_sem]; rfl) (Opl.one rfl rfl (by simp only [go_sem]; rfl) (Opl.nil ?_)))))))
 have e12 : (m_2 != m_2) = false := by simp
 try rw [e12]
 refine Evr.condF rfl (Evr.skip (Evr.sr rfl (Opl.one rfl rfl (by simp only [go_sem]; rfl) (Opl.nil ?_))))
 exact Evr.ret1 Try.func7 rfl rfl
end Go.Proofs.Ytpjmiaooogephaa.PA
