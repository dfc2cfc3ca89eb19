/- Walks of Go functions: each is shown to answer as the Lean function beside it tells, under the conditions that its theorem names. -/
import Derived.Test.YtigbbefdndcmbaaProg
import Derived.KernelRfl
import Derived.Below
import Derived.Deep.Draws
import Derived.Deep.AppendLies
import Derived.Maps.AppendAt
import Derived.OwnWalk
import Derived.Laws.BytesArg
import Derived.Laws.MakeOwn
import Derived.Laws.OwnMore
import Derived.Deep.OwnRows
import Derived.Tactics
import Derived.Lib.ConvBytes
import Derived.Laws.Slices
import Derived.WalkKit
import Derived.RowKit3
import Derived.Deep.LoopGhost
import Derived.Deep.QuietTactic
import Derived.BigQuiet
import Derived.WideLaws
import Derived.Deep.DeepCutAuto
import Derived.Deep.CutBlock
import Derived.Deep.RegionHeld3
import Derived.Laws.Rows
import Derived.Lib.AppendStr
import Derived.ArgAppend
import Derived.Laws.IdiomCopy
import Derived.OrdersHeld
import Derived.Laws.BitsLemmas
import Derived.RowKit
import Derived.Laws.StructEq
import Derived.Lib.SliceRun
import Derived.WalkSpells
import Derived.ChangeArms
import Derived.ChangeSlices
import Derived.Deep.Slices
import Derived.Shelf.SlSortCmp.NoneTotal
import Derived.Attr
import Derived.Laws.Append
import Derived.Laws.AppendOwn
import Derived.Laws.Entries
import Derived.Calls
import Derived.Laws.Sem
import Derived.Test.YtigbbefdndcmbaaKP6b71ebf17d
import Derived.Test.YtigbbefdndcmbaaKP3bdba29414
import Derived.Test.YtigbbefdndcmbaaKQeb5a5b6f08
namespace Go.Proofs.Ytigbbefdndcmbaa.PA
open Go Go.Abs Go.RowKit Go.Proofs Go.Proofs.YtigbbefdndcmbaaW.PrintWords Go.Proofs.YtigbbefdndcmbaaW.PrintLast Go.Proofs.YtigbbefdndcmbaaW.PrintMore
set_option maxRecDepth 100000
set_option maxHeartbeats 4000000
set_option linter.unusedVariables false
set_option linter.unusedSimpArgs false
theorem laws_FnExactClausesOf.ev {k : Nat} {a0_0 : Int} {l0_1 : List LAnd} {v0_1 : PV} (hv0_1 : Sl cLAnd l0_1 v0_1) {a1 : Int} (H : laws_FnExactClausesOf.Good k a0_0 l0_1 a1) : Ret Try.prog 5 [.agg [.lit (.int .i64 a0_0), v0_1], .lit (.int .i64 a1)] fun v S => v = .lit (.bool true) := by
 unfold laws_FnExactClausesOf.Good at H
 refine Ret.intro Try.func5 rfl (Nat.le_of_ble_eq_true rfl) rfl ?_
 rw [tm2]
 refine Evr.sr rfl (Opl.box (cs := [.lit (.int .i64 a0_0), v0_1]) rfl rfl rfl rfl ?_)
 rintro i1 S h1 u1 w1
 refine Opl.one rfl rfl (by simp only [go_sem]; rfl) (Opl.nil (Evr.sr rfl (Opl.one rfl rfl (by simp only [go_sem]; rfl) (Opl.nil (Evr.sr rfl (Opl.ldb (v := .agg [.lit (.int .i64 a0_0), v0_1]) h1 rfl T33 rfl rfl rfl rfl (Opl.one rfl rfl (by simp only [go_sem]; rfl) ?_)))))))
 obtain ⟨t_1, hf1, H⟩ := H
 refine Opl.callc (laws_szCircuit.ev hv0_1 hf1) rfl rfl rfl rfl ⟨(.aggL ⟨(.lit _), hv0_1.plain, trivial⟩), (.lit _), trivial⟩ (by decide) (Opl.one rfl rfl (by simp only [go_sem]; rfl) (Opl.nil (Evr.seq (Evr.sr rfl (Opl.one rfl rfl (by simp only [go_sem]; rfl) (Opl.one rfl rfl (by simp only [go_sem]; rfl) (Opl.nil ?_)))))))
 by_cases c1 : t_1 < 0
 ·
  have e1 : (decide (t_1 < 0)) = true := by simpa using c1
  try rw [e1]
  refine Evr.condT rfl (Evr.sr rfl (Opl.one rfl rfl (by simp only [go_sem]; rfl) (Opl.nil ?_)))
  exact Evr.ret1 Try.func5 rfl rfl
 replace H := H.resolve_left c1
 have e2 : (decide (t_1 < 0)) = false := by simpa using c1
 try rw [e2]
 refine Evr.condF rfl (Evr.skip (Evr.sr rfl (Opl.ldb (v := .agg [.lit (.int .i64 a0_0), v0_1]) h1 rfl T33 rfl rfl rfl rfl ?_)))
 obtain ⟨b_1, hf2, H⟩ := H
 obtain ⟨hf3, H⟩ := H
 refine Opl.call (laws_toCircuit.ev hv0_1 hf2) rfl rfl rfl rfl ⟨(.aggL ⟨(.lit _), hv0_1.plain, trivial⟩), trivial⟩ (by decide) ?_
 rintro _ ⟨_, pv2, rfl, rfl, h3⟩
 refine Opl.one rfl rfl (by simp only [go_sem]; rfl) ?_
 obtain ⟨w_1, hf4, H⟩ := H
 refine Opl.call (spec_ClausesOf.ev h3 hf4) rfl rfl rfl rfl ⟨(.aggL ⟨(.lit _), h3.plain, trivial⟩), (.lit _), trivial⟩ (by decide) ?_
 rintro _ ⟨_, _, rfl, ⟨_, pv4, rfl, rfl, h5⟩, rfl⟩
 refine Opl.one rfl rfl (by simp only [go_sem]; rfl) (Opl.one (v := .agg [.lit (.int .i64 w_1.1.1), pv4]) rfl rfl (by simp only [go_sem]; rfl) (Opl.one (v := .lit (.bool w_1.2)) rfl rfl (by simp only [go_sem]; rfl) (Opl.alloc T37 rfl rfl rfl ?_)))
 rintro i2 S h6 u2 w2
 have ap1 := w2.box h1
 have h7 := u2.box h1 ap1
 refine Opl.stb (vs := [.lit (.int .i64 w_1.1.1), pv4]) h6 rfl rfl Z37 rfl (Nat.le_of_ble_eq_true rfl) (by simp only [List.all_cons, List.all_nil, h5.one, Bool.and_true, Bool.true_and] <;> rfl) rfl rfl rfl ?_
 rintro S (h8 : Box (.ptr i2 0) [.lit (.int .i64 w_1.1.1), pv4] _) u3
 have h9 := u3.box h7 ap1
 refine Opl.one rfl rfl (by simp only [go_sem]; rfl) (Opl.nil (Evr.sr rfl (Opl.ldb (v := .agg [.lit (.int .i64 a0_0), v0_1]) h9 rfl T33 rfl rfl rfl rfl ?_)))
 refine Opl.callm (laws_toCircuit.mk hv0_1 hf2) rfl rfl rfl rfl rfl ?_
 rintro q1 S ids1 h10 f1 g1
 obtain ⟨pq1_0, pq1_1, rfl⟩ := two_of (((oPr (oPl (cInt .i64) (oInt .i64)) (oRow (oPl cIAnd oIAnd)))).len h10)
 have o1 : pq1_0.one = true := ((oPr (oPl (cInt .i64) (oInt .i64)) (oRow (oPl cIAnd oIAnd)))).ones h10 _ (by simp)
 have o2 : pq1_1.one = true := ((oPr (oPl (cInt .i64) (oInt .i64)) (oRow (oPl cIAnd oIAnd)))).ones h10 _ (by simp)
 have ap2 := f1.box h9
 have h11 := g1.box h9
 have ap3 := f1.box h8
 have h12 := g1.box h8
 refine Opl.alloc T42 rfl rfl rfl ?_
 rintro i3 S h13 u4 w4
 have ap4 := w4.box h11
 have h14 := u4.box h11 ap4
 have ap5 := w4.box h12
 have h15 := u4.box h12 ap5
 have ap6 := w4.tree h10
 have h16 := u4.tree h10 ap6
 refine Opl.stb (vs := [pq1_0, pq1_1]) h13 rfl rfl Z42 rfl (Nat.le_of_ble_eq_true rfl) (by simp only [List.all_cons, List.all_nil, o1, o2, Bool.and_true, Bool.true_and] <;> rfl) rfl rfl rfl ?_
 rintro S (h17 : Box (.ptr i3 0) [pq1_0, pq1_1] _) u5
 have h18 := u5.box h14 ap4
 have h19 := u5.box h15 ap5
 have h20 := u5.tree h16 ap6
 refine Opl.nil (Evr.sr rfl (Opl.ldb (v := .agg [pq1_0, pq1_1]) h17 rfl T42 rfl rfl rfl rfl (Opl.one rfl rfl (by simp only [go_sem]; rfl) ?_)))
 obtain ⟨hf5, H⟩ := H
 obtain ⟨_, vw1, r1⟩ := ((oPr (oPl (cInt .i64) (oInt .i64)) (oRow (oPl cIAnd oIAnd)))).view h20
 obtain ⟨_, _, rfl, r2, r3⟩ := r1
 obtain rfl := cd_int r2
 obtain ⟨pv5, rfl, h21⟩ := r3
 have h21 : Sl cIAnd b_1.2 pv5 := h21
 refine Opl.callg4 (sInt .i64) (.row (.pl (sInt .i64))) sBool (c0 := (.bool w_1.2)) (c1 := (.int .i64 w_1.1.1)) (fun _ h => h) (fun _ h => h) (impl_ClausesOf.evo h21 hf5) rfl rfl rfl (.cons (ViewL.agg vw1) (.cons (.refl _) .nil)) ⟨(.aggL ⟨(.lit _), h21.plain, trivial⟩), (.lit _), trivial⟩ rfl ?_
 rintro p1 S ids2 h22 f2 g2
 have o3 : p1.one = true := ((oPr (oPl (cInt .i64) (oInt .i64)) (oRow (oRow (oPl (cInt .i64) (oInt .i64)))))).ones h22 _ (by simp)
 have ap7 := f2.box h18
 have h23 := g2.box h18
 have ap8 := f2.box h19
 have h24 := g2.box h19
 have ap9 := f2.tree h20
 have h25 := g2.tree h20
 have ap10 := f2.box h17
 have h26 := g2.box h17
 refine Opl.one rfl rfl (by simp only [go_sem]; rfl) (Opl.one (v := .agg [.lit (.int .i64 w_1.1.1), p1]) rfl rfl (by simp only [go_sem]; rfl) (Opl.one (v := .lit (.bool w_1.2)) rfl rfl (by simp only [go_sem]; rfl) (Opl.alloc T37 rfl rfl rfl ?_)))
 rintro i4 S h27 u6 w6
 have ap11 := w6.box h23
 have h28 := u6.box h23 ap11
 have ap12 := w6.box h24
 have h29 := u6.box h24 ap12
 have ap13 := w6.tree h25
 have h30 := u6.tree h25 ap13
 have ap14 := w6.box h26
 have h31 := u6.box h26 ap14
 have ap15 := w6.tree h22
 have h32 := u6.tree h22 ap15
 refine Opl.stb (vs := [.lit (.int .i64 w_1.1.1), p1]) h27 rfl rfl Z37 rfl (Nat.le_of_ble_eq_true rfl) (by simp only [List.all_cons, List.all_nil, o3, Bool.and_true, Bool.true_and] <;> rfl) rfl rfl rfl ?_
 rintro S (h33 : Box (.ptr i4 0) [.lit (.int .i64 w_1.1.1), p1] _) u7
 have h34 := u7.box h28 ap11
 have h35 := u7.box h29 ap12
 have h36 := u7.tree h30 ap13
 have h37 := u7.box h31 ap14
 have h38 := u7.tree h32 ap15
 refine Opl.one rfl rfl (by simp only [go_sem]; rfl) (Opl.nil (Evr.seq (Evr.sr rfl (Opl.ldb (v := .agg [.lit (.int .i64 w_1.1.1), p1]) h33 rfl T37 rfl rfl rfl rfl (Opl.ldb (v := .agg [.lit (.int .i64 w_1.1.1), pv4]) h35 rfl T37 rfl rfl rfl rfl ?_)))))
 obtain ⟨hf6, H⟩ := H
 obtain ⟨_, vw2, r4⟩ := ((oPr (oPl (cInt .i64) (oInt .i64)) (oRow (oRow (oPl (cInt .i64) (oInt .i64)))))).view h38
 obtain ⟨_, _, rfl, r5, r6⟩ := r4
 obtain rfl := cd_int r5
 obtain ⟨pv6, rfl, h39⟩ := r6
 have h39 : Sl (cSl (cInt .i64)) w_1.1.2 pv6 := h39
 refine Opl.callw (laws_eqClauses.ev h39 h5 hf6) rfl rfl rfl (.cons (ViewL.agg vw2) (.cons (.refl _) .nil)) ⟨(.aggL ⟨(.lit _), h39.plain, trivial⟩), (.aggL ⟨(.lit _), h5.plain, trivial⟩), trivial⟩ (by decide) (Opl.one rfl rfl (by simp only [go_sem]; rfl) (Opl.one rfl rfl (by simp only [go_sem]; rfl) (Opl.one rfl rfl (by simp only [go_sem]; rfl) (Opl.one rfl rfl (by simp only [go_sem]; rfl) (Opl.one rfl rfl (by simp only [go_sem]; rfl) (Opl.one rfl rfl (by simp only [go_sem]; rfl) (Opl.nil ?_)))))))
 have e3 : (w_1.2 != w_1.2) = false := by simp
 try rw [e3]
 refine Evr.condF rfl (Evr.skip (Evr.seq (Evr.seq (Evr.regionD rfl (by kernel_rfl) (Opl.ldb (v := .agg [pq1_0, pq1_1]) h37 rfl T42 rfl rfl rfl rfl (Opl.ldb (v := .agg [.lit (.int .i64 a0_0), v0_1]) h34 rfl T33 rfl rfl rfl rfl ?_))))))
 refine Opl.call (laws_toCircuit.ev hv0_1 hf2) rfl rfl rfl rfl ⟨(.aggL ⟨(.lit _), hv0_1.plain, trivial⟩), trivial⟩ (by decide) ?_
 rintro _ ⟨_, pv8, rfl, rfl, h41⟩
 obtain ⟨hf7, H⟩ := H
 obtain ⟨_, vw3, r7⟩ := ((oPr (oPl (cInt .i64) (oInt .i64)) (oRow (oPl cIAnd oIAnd)))).view h36
 obtain ⟨_, _, rfl, r8, r9⟩ := r7
 obtain rfl := cd_int r8
 obtain ⟨pv9, rfl, h42⟩ := r9
 have h42 : Sl cIAnd b_1.2 pv9 := h42
 refine Opl.callw (laws_eqCircuit.ev h42 h41 hf7) rfl rfl rfl (.cons (ViewL.agg vw3) (.cons (.refl _) .nil)) ⟨(.aggL ⟨(.lit _), h42.plain, trivial⟩), (.aggL ⟨(.lit _), h41.plain, trivial⟩), trivial⟩ (by decide) (Opl.one rfl rfl (by simp only [go_sem]; rfl) (Opl.nil (Evr.condF rfl (Evr.skip (Evr.sr rfl (Opl.one rfl rfl (by simp only [go_sem]; rfl) (Opl.nil (Evr.sr rfl (Opl.ldb (v := .agg [pq1_0, pq1_1]) h37 rfl T42 rfl rfl rfl rfl (Opl.one rfl rfl (by simp only [go_sem]; rfl) (Opl.mark laws_markCircuit.mks (B := 2097152) h36 trivial (leaves_le hf3 fun _ _ => Nat.le_refl _) (by omega) (by omega) rfl rfl rfl rfl rfl ?_)))))))))))
 rintro k_1 S h43 h44 s1
 have h45 : 0 ≤ k_1 := by omega
 have h46 := s1.box h34 ap2
 have h47 := s1.box h35 ap3
 have h48 := s1.box h37 ap6
 have h49 := s1.tree h38 ap9.symm
 have h50 := s1.box h33 ap13
 refine Opl.one rfl rfl (by simp only [go_sem]; rfl) (Opl.nil (Evr.seq (Evr.sr rfl (Opl.one rfl rfl (by simp only [go_sem]; rfl) (Opl.one rfl rfl (by simp only [go_sem]; rfl) (Opl.one rfl rfl (by simp only [go_sem]; rfl) ?_))))))
 have e4 : (decide (k_1 < 0)) = false := decide_eq_false (by have := h45; omega)
 try rw [e4]
 refine Opl.ldb (v := .agg [.lit (.int .i64 w_1.1.1), p1]) h50 rfl T37 rfl rfl rfl rfl (Opl.ldb (v := .agg [.lit (.int .i64 w_1.1.1), pv4]) h47 rfl T37 rfl rfl rfl rfl ?_)
 obtain ⟨_, vw4, r10⟩ := ((oPr (oPl (cInt .i64) (oInt .i64)) (oRow (oRow (oPl (cInt .i64) (oInt .i64)))))).view h49
 obtain ⟨_, _, rfl, r11, r12⟩ := r10
 obtain rfl := cd_int r11
 obtain ⟨pv10, rfl, h51⟩ := r12
 have h51 : Sl (cSl (cInt .i64)) w_1.1.2 pv10 := h51
 refine Opl.callw (laws_eqClauses.ev h51 h5 hf6) rfl rfl rfl (.cons (ViewL.agg vw4) (.cons (.refl _) .nil)) ⟨(.aggL ⟨(.lit _), h51.plain, trivial⟩), (.aggL ⟨(.lit _), h5.plain, trivial⟩), trivial⟩ (by decide) (Opl.one rfl rfl (by simp only [go_sem]; rfl) (Opl.one rfl rfl (by simp only [go_sem]; rfl) (Opl.one rfl rfl (by simp only [go_sem]; rfl) (Opl.one rfl rfl (by simp only [go_sem]; rfl) (Opl.one rfl rfl (by simp only [go_sem]; rfl) (Opl.one rfl rfl (by simp only [go_sem]; rfl) (Opl.one rfl rfl (by simp only [go_sem]; rfl) (Opl.nil ?_))))))))
 have e5 : (w_1.2 != w_1.2) = false := by simp
 try rw [e5]
 refine Evr.condF rfl (Evr.skip (Evr.sr rfl (Opl.one rfl rfl (by simp only [go_sem]; rfl) (Opl.nil (Evr.sr rfl (Opl.ldb (v := .agg [.lit (.int .i64 w_1.1.1), p1]) h50 rfl T37 rfl rfl rfl rfl (Opl.one rfl rfl (by simp only [go_sem]; rfl) ?_)))))))
 obtain ⟨m_1, w_2, hf8, H⟩ := H
 obtain ⟨hf9, H⟩ := H
 obtain ⟨hf10, H⟩ := H
 refine Opl.calls (laws_markClauses.evm h49 hf10 hf8) rfl rfl rfl rfl rfl ?_
 rintro _ S ⟨rfl, ids3, h52, m1, s2⟩
 have h53 := s2.box h46 ap7
 have h54 := s2.box h47 ap8
 have h55 := s2.box h48 ap10
 have h56 := s2.box h50 ap15
 have ap16 : ApT (.ptr i1 0) ids3 := fun z hz => ap7 z (m1 z hz)
 have ap17 : ApT (.ptr i2 0) ids3 := fun z hz => ap8 z (m1 z hz)
 have ap18 : ApT (.ptr i3 0) ids3 := fun z hz => ap10 z (m1 z hz)
 have ap19 : ApT (.ptr i4 0) ids3 := fun z hz => ap15 z (m1 z hz)
 refine Opl.one rfl rfl (by simp only [go_sem]; rfl) (Opl.nil (Evr.sr rfl (Opl.one rfl rfl (by simp only [go_sem]; rfl) (Opl.nil (Evr.sr rfl (Opl.ldb (v := .agg [.lit (.int .i64 w_1.1.1), p1]) h56 rfl T37 rfl rfl rfl rfl (Opl.one rfl rfl (by simp only [go_sem]; rfl) ?_)))))))
 obtain ⟨hf11, H⟩ := H
 obtain ⟨_, vw5, r13⟩ := ((oPr (oPl (cInt .i64) (oInt .i64)) (oRow (oRow (oPl (cInt .i64) (oInt .i64)))))).view h52
 obtain ⟨_, _, rfl, r14, r15⟩ := r13
 obtain rfl := cd_int r14
 obtain ⟨pv11, rfl, h57⟩ := r15
 have h57 : Sl (cSl (cInt .i64)) ((w_1.1.1, w_2).2) pv11 := h57
 refine Opl.callw (laws_heldClauses.ev h57 hf11) rfl rfl rfl (.cons (ViewL.agg vw5) (.cons (.refl _) .nil)) ⟨(.aggL ⟨(.lit _), h57.plain, trivial⟩), (.lit _), trivial⟩ (by decide) (Opl.one rfl rfl (by simp only [go_sem]; rfl) (Opl.nil (Evr.seq (Evr.sr rfl (Opl.one rfl rfl (by simp only [go_sem]; rfl) (Opl.one rfl rfl (by simp only [go_sem]; rfl) (Opl.nil ?_)))))))
 have e6 : (decide (m_1 < 0)) = false := decide_eq_false (by have := hf9; omega)
 try rw [e6]
 refine Evr.condF rfl (Evr.skip (Evr.seq (Evr.sr rfl (Opl.one rfl rfl (by simp only [go_sem]; rfl) (Opl.one rfl rfl (by simp only [go_sem]; rfl) (Opl.one rfl rfl (by simp only [go_sem]; rfl) (Opl.nil ?_)))))))
 have e7 : (m_1 != m_1) = false := by simp
 try rw [e7]
 refine Evr.condF rfl (Evr.skip (Evr.sr rfl (Opl.ldb (v := .agg [.lit (.int .i64 a0_0), v0_1]) h53 rfl T33 rfl rfl rfl rfl ?_)))
 refine Opl.call (laws_toCircuit.ev hv0_1 hf2) rfl rfl rfl rfl ⟨(.aggL ⟨(.lit _), hv0_1.plain, trivial⟩), trivial⟩ (by decide) ?_
 rintro _ ⟨_, pv13, rfl, rfl, h59⟩
 refine Opl.one rfl rfl (by simp only [go_sem]; rfl) ?_
 refine Opl.call (impl_ClausesOf.ev h59 hf5) rfl rfl rfl rfl ⟨(.aggL ⟨(.lit _), h59.plain, trivial⟩), (.lit _), trivial⟩ (by decide) ?_
 rintro _ ⟨_, _, rfl, ⟨_, pv15, rfl, rfl, h61⟩, rfl⟩
 refine Opl.one rfl rfl (by simp only [go_sem]; rfl) (Opl.one (v := .agg [.lit (.int .i64 w_1.1.1), pv15]) rfl rfl (by simp only [go_sem]; rfl) (Opl.one (v := .lit (.bool w_1.2)) rfl rfl (by simp only [go_sem]; rfl) (Opl.alloc T37 rfl rfl rfl ?_)))
 rintro i5 S h62 u8 w8
 have ap20 := w8.box h53
 have h63 := u8.box h53 ap20
 have ap21 := w8.box h54
 have h64 := u8.box h54 ap21
 have ap22 := w8.box h55
 have h65 := u8.box h55 ap22
 have ap23 := w8.tree h52
 have h66 := u8.tree h52 ap23
 have ap24 := w8.box h56
 have h67 := u8.box h56 ap24
 refine Opl.stb (vs := [.lit (.int .i64 w_1.1.1), pv15]) h62 rfl rfl Z37 rfl (Nat.le_of_ble_eq_true rfl) (by simp only [List.all_cons, List.all_nil, h61.one, Bool.and_true, Bool.true_and] <;> rfl) rfl rfl rfl ?_
 rintro S (h68 : Box (.ptr i5 0) [.lit (.int .i64 w_1.1.1), pv15] _) u9
 have h69 := u9.box h63 ap20
 have h70 := u9.box h64 ap21
 have h71 := u9.box h65 ap22
 have h72 := u9.tree h66 ap23
 have h73 := u9.box h67 ap24
 refine Opl.one rfl rfl (by simp only [go_sem]; rfl) (Opl.nil (Evr.seq (Evr.sr rfl (Opl.ldb (v := .agg [.lit (.int .i64 w_1.1.1), pv15]) h68 rfl T37 rfl rfl rfl rfl (Opl.ldb (v := .agg [.lit (.int .i64 w_1.1.1), pv4]) h70 rfl T37 rfl rfl rfl rfl ?_)))))
 refine Opl.callc (laws_eqClauses.ev h61 h5 hf6) rfl rfl rfl rfl ⟨(.aggL ⟨(.lit _), h61.plain, trivial⟩), (.aggL ⟨(.lit _), h5.plain, trivial⟩), trivial⟩ (by decide) (Opl.one rfl rfl (by simp only [go_sem]; rfl) (Opl.one rfl rfl (by simp only [go_sem]; rfl) (Opl.one rfl rfl (by simp only [go_sem]; rfl) (Opl.one rfl rfl (by simp only [go_sem]; rfl) (Opl.one rfl rfl (by simp only [go_sem]; rfl) (Opl.one rfl rfl (by simp only [go_sem]; rfl) (Opl.nil ?_)))))))
 have e8 : (w_1.2 != w_1.2) = false := by simp
 try rw [e8]
 refine Evr.condF rfl (Evr.skip (Evr.sr rfl (Opl.one rfl rfl (by simp only [go_sem]; rfl) (Opl.nil (Evr.sr rfl (Opl.ldb (v := .agg [.lit (.int .i64 w_1.1.1), p1]) h73 rfl T37 rfl rfl rfl rfl (Opl.one rfl rfl (by simp only [go_sem]; rfl) ?_)))))))
 obtain ⟨_, vw6, r16⟩ := ((oPr (oPl (cInt .i64) (oInt .i64)) (oRow (oRow (oPl (cInt .i64) (oInt .i64)))))).view h72
 obtain ⟨_, _, rfl, r17, r18⟩ := r16
 obtain rfl := cd_int r17
 obtain ⟨pv16, rfl, h74⟩ := r18
 have h74 : Sl (cSl (cInt .i64)) ((w_1.1.1, w_2).2) pv16 := h74
 refine Opl.callw (laws_heldClauses.ev h74 hf11) rfl rfl rfl (.cons (ViewL.agg vw6) (.cons (.refl _) .nil)) ⟨(.aggL ⟨(.lit _), h74.plain, trivial⟩), (.lit _), trivial⟩ (by decide) (Opl.one rfl rfl (by simp only [go_sem]; rfl) (Opl.nil (Evr.seq (Evr.sr rfl (Opl.one rfl rfl (by simp only [go_sem]; rfl) (Opl.one rfl rfl (by simp only [go_sem]; rfl) (Opl.nil ?_)))))))
 have e9 : (decide (m_1 < 0)) = false := decide_eq_false (by have := hf9; omega)
 try rw [e9]
 refine Evr.condF rfl (Evr.skip (Evr.seq (Evr.sr rfl (Opl.one rfl rfl (by simp only [go_sem]; rfl) (Opl.one rfl rfl (by simp only [go_sem]; rfl) (Opl.one rfl rfl (by simp only [go_sem]; rfl) (Opl.nil ?_)))))))
 have e10 : (m_1 != m_1) = false := by simp
 try rw [e10]
 refine Evr.condF rfl (Evr.skip (Evr.sr rfl (Opl.one rfl rfl (by simp only [go_sem]; rfl) (Opl.nil ?_))))
 exact Evr.ret1 Try.func5 rfl rfl
end Go.Proofs.Ytigbbefdndcmbaa.PA
