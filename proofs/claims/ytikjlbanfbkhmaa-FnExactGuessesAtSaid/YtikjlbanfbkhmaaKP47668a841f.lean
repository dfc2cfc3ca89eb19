/- Walks of Go functions: each is shown to answer as the Lean function beside it tells, under the conditions that its theorem names. -/
import Derived.Test.YtikjlbanfbkhmaaProg
import Derived.KernelRfl
import Derived.Below
import Derived.Deep.Draws
import Derived.Deep.AppendLies
import Derived.Maps.AppendAt
import Derived.OwnWalk
import Derived.Laws.BytesArg
import Derived.Laws.MakeOwn
import Derived.Laws.OwnMore
import Derived.Deep.OwnRows
import Derived.Tactics
import Derived.Lib.ConvBytes
import Derived.Laws.Slices
import Derived.WalkKit
import Derived.RowKit3
import Derived.Deep.LoopGhost
import Derived.Deep.QuietTactic
import Derived.BigQuiet
import Derived.WideLaws
import Derived.Deep.DeepCutAuto
import Derived.Deep.CutBlock
import Derived.Deep.RegionHeld3
import Derived.Laws.Rows
import Derived.Lib.AppendStr
import Derived.ArgAppend
import Derived.Laws.IdiomCopy
import Derived.OrdersHeld
import Derived.Laws.BitsLemmas
import Derived.RowKit
import Derived.Laws.StructEq
import Derived.Lib.SliceRun
import Derived.WalkSpells
import Derived.ChangeArms
import Derived.ChangeSlices
import Derived.Deep.Slices
import Derived.Attr
import Derived.Laws.Append
import Derived.Laws.AppendOwn
import Derived.Laws.Entries
import Derived.Calls
import Derived.Laws.Sem
import Derived.Test.YtikjlbanfbkhmaaKPae42a472fe
import Derived.Test.YtikjlbanfbkhmaaKP1c8656f412
import Derived.Test.YtikjlbanfbkhmaaKQ8e354cfc3f
namespace Go.Proofs.Ytikjlbanfbkhmaa.PA
open Go Go.Abs Go.RowKit Go.Proofs Go.Proofs.YtikjlbanfbkhmaaW.PrintWords Go.Proofs.YtikjlbanfbkhmaaW.PrintLast Go.Proofs.YtikjlbanfbkhmaaW.PrintMore
set_option maxRecDepth 100000
set_option maxHeartbeats 4000000
set_option linter.unusedVariables false
set_option linter.unusedSimpArgs false
theorem laws_FnExactGuessesAt.ev {k : Nat} {l0 : List LTime} {v0 : PV} (hv0 : Sl cLTime l0 v0) {l1 : List (List Int)} {v1 : PV} (hv1 : Sl (cSl (cInt .i64)) l1 v1) {l2 : List (List Int)} {v2 : PV} (hv2 : Sl (cSl (cInt .i64)) l2 v2) {a3 : Int} (H : laws_FnExactGuessesAt.Good k l0 l1 l2 a3) : Ret Try.prog 3 [v0, v1, v2, .lit (.int .i64 a3)] fun v S => v = .lit (.bool true) := by
 unfold laws_FnExactGuessesAt.Good at H
 refine Ret.intro Try.func3 rfl (Nat.le_of_ble_eq_true rfl) rfl ?_
 rw [tm4]
 refine Evr.sr rfl (Opl.one rfl rfl (by simp only [go_sem]; rfl) (Opl.nil (Evr.sr rfl (Opl.one rfl rfl (by simp only [go_sem]; rfl) (Opl.nil (Evr.sr rfl (Opl.one rfl rfl (by simp only [go_sem]; rfl) (Opl.one rfl rfl (by simp only [go_sem]; rfl) ?_))))))))
 obtain ⟨t_1, hf1, H⟩ := H
 refine Opl.callc (laws_szTimeS.ev hv0 hf1) rfl rfl rfl rfl ⟨hv0.plain, (.lit _), trivial⟩ (by decide) (Opl.one rfl rfl (by simp only [go_sem]; rfl) (Opl.nil (Evr.seq (Evr.sr rfl (Opl.one rfl rfl (by simp only [go_sem]; rfl) (Opl.one rfl rfl (by simp only [go_sem]; rfl) (Opl.nil ?_)))))))
 by_cases c1 : t_1 < 0
 ·
  have e1 : (decide (t_1 < 0)) = true := by simpa using c1
  try rw [e1]
  refine Evr.condT rfl (Evr.sr rfl (Opl.one rfl rfl (by simp only [go_sem]; rfl) (Opl.nil ?_)))
  exact Evr.ret1 Try.func3 rfl rfl
 replace H := H.resolve_left c1
 have e2 : (decide (t_1 < 0)) = false := by simpa using c1
 try rw [e2]
 refine Evr.condF rfl (Evr.skip (Evr.sr rfl (Opl.one rfl rfl (by simp only [go_sem]; rfl) (Opl.one rfl rfl (by simp only [go_sem]; rfl) ?_))))
 obtain ⟨t_2, hf2, H⟩ := H
 refine Opl.callc (laws_szIntSS.ev hv1 hf2) rfl rfl rfl rfl ⟨hv1.plain, (.lit _), trivial⟩ (by decide) (Opl.one rfl rfl (by simp only [go_sem]; rfl) (Opl.nil (Evr.seq (Evr.sr rfl (Opl.one rfl rfl (by simp only [go_sem]; rfl) (Opl.one rfl rfl (by simp only [go_sem]; rfl) (Opl.nil ?_)))))))
 by_cases c2 : t_2 < 0
 ·
  have e3 : (decide (t_2 < 0)) = true := by simpa using c2
  try rw [e3]
  refine Evr.condT rfl (Evr.sr rfl (Opl.one rfl rfl (by simp only [go_sem]; rfl) (Opl.nil ?_)))
  exact Evr.ret1 Try.func3 rfl rfl
 replace H := H.resolve_left c2
 have e4 : (decide (t_2 < 0)) = false := by simpa using c2
 try rw [e4]
 refine Evr.condF rfl (Evr.skip (Evr.sr rfl (Opl.one rfl rfl (by simp only [go_sem]; rfl) (Opl.one rfl rfl (by simp only [go_sem]; rfl) ?_))))
 obtain ⟨t_3, hf3, H⟩ := H
 refine Opl.callc (laws_szIntSS.ev hv2 hf3) rfl rfl rfl rfl ⟨hv2.plain, (.lit _), trivial⟩ (by decide) (Opl.one rfl rfl (by simp only [go_sem]; rfl) (Opl.nil (Evr.seq (Evr.sr rfl (Opl.one rfl rfl (by simp only [go_sem]; rfl) (Opl.one rfl rfl (by simp only [go_sem]; rfl) (Opl.nil ?_)))))))
 by_cases c3 : t_3 < 0
 ·
  have e5 : (decide (t_3 < 0)) = true := by simpa using c3
  try rw [e5]
  refine Evr.condT rfl (Evr.sr rfl (Opl.one rfl rfl (by simp only [go_sem]; rfl) (Opl.nil ?_)))
  exact Evr.ret1 Try.func3 rfl rfl
 replace H := H.resolve_left c3
 have e6 : (decide (t_3 < 0)) = false := by simpa using c3
 try rw [e6]
 refine Evr.condF rfl (Evr.skip (Evr.sr rfl (Opl.one rfl rfl (by simp only [go_sem]; rfl) ?_)))
 obtain ⟨b_1, hf4, H⟩ := H
 obtain ⟨hf5, H⟩ := H
 refine Opl.call ((laws_toTimeS.ev hv0 hf4).mono fun _ _ h => Out.vec h) rfl rfl rfl rfl ⟨hv0.plain, trivial⟩ (by decide) ?_
 rintro pv1 h1
 refine Opl.one rfl rfl (by simp only [go_sem]; rfl) ?_
 obtain ⟨b_2, hf6, H⟩ := H
 obtain ⟨hf7, H⟩ := H
 refine Opl.call ((laws_toIntSS.ev hv1 hf6).mono fun _ _ h => Out.vec h) rfl rfl rfl rfl ⟨hv1.plain, trivial⟩ (by decide) ?_
 rintro pv2 h2
 refine Opl.one rfl rfl (by simp only [go_sem]; rfl) ?_
 obtain ⟨b_3, hf8, H⟩ := H
 obtain ⟨hf9, H⟩ := H
 refine Opl.call ((laws_toIntSS.ev hv2 hf8).mono fun _ _ h => Out.vec h) rfl rfl rfl rfl ⟨hv2.plain, trivial⟩ (by decide) ?_
 rintro pv3 h3
 refine Opl.one rfl rfl (by simp only [go_sem]; rfl) ?_
 obtain ⟨w_1, hf10, H⟩ := H
 refine Opl.call ((spec_GuessesAt.ev h1 h2 h3 hf10).mono fun _ _ h => Out.vec h) rfl rfl rfl rfl ⟨h1.plain, h2.plain, h3.plain, (.lit _), trivial⟩ (by decide) ?_
 rintro pv4 h4
 refine Opl.one rfl rfl (by simp only [go_sem]; rfl) (Opl.nil (Evr.sr rfl (Opl.one rfl rfl (by simp only [go_sem]; rfl) ?_)))
 refine Opl.calla (laws_toTimeS.ev hv0 hf4) rfl rfl rfl rfl ⟨hv0.plain, trivial⟩ rfl ?_
 rintro p1 S h6 u1 w1
 have h5 := h6.tree oITime
 have f1 := w1.fresh
 have g1 := Grow.of u1 w1
 have o1 : p1.one = true := oRow_p1 h5
 refine Opl.one rfl rfl (by simp only [go_sem]; rfl) (Opl.nil (Evr.sr rfl (Opl.one rfl rfl (by simp only [go_sem]; rfl) ?_)))
 refine Opl.callr (laws_toIntSS.mk hv1 hf6) rfl rfl rfl rfl rfl ?_
 rintro p2 S ids2 h7 f2 g2
 have o2 : p2.one = true := oRow_p1 h7
 have ap1 := f2.tree h5
 have h8 := g2.tree h5
 refine Opl.one rfl rfl (by simp only [go_sem]; rfl) (Opl.nil (Evr.sr rfl (Opl.one rfl rfl (by simp only [go_sem]; rfl) ?_)))
 refine Opl.callr (laws_toIntSS.mk hv2 hf8) rfl rfl rfl rfl rfl ?_
 rintro p3 S ids3 h9 f3 g3
 have o3 : p3.one = true := oRow_p1 h9
 have ap2 := f3.tree h8
 have h10 := g3.tree h8
 have ap3 := f3.tree h7
 have h11 := g3.tree h7
 refine Opl.one rfl rfl (by simp only [go_sem]; rfl) (Opl.nil (Evr.sr rfl (Opl.one rfl rfl (by simp only [go_sem]; rfl) (Opl.one rfl rfl (by simp only [go_sem]; rfl) (Opl.one rfl rfl (by simp only [go_sem]; rfl) (Opl.one rfl rfl (by simp only [go_sem]; rfl) ?_))))))
 obtain ⟨hf11, H⟩ := H
 obtain ⟨_, vw1, r1⟩ := ((oRow (oPl cITime oITime))).view h10
 obtain ⟨pv5, rfl, h12⟩ := r1
 have h12 : Sl cITime b_1 pv5 := h12
 replace vw1 := vw1.2 0 _ _ rfl rfl
 obtain ⟨_, vw2, r2⟩ := ((oRow (oRow (oPl (cInt .i64) (oInt .i64))))).view h11
 obtain ⟨pv6, rfl, h13⟩ := r2
 have h13 : Sl (cSl (cInt .i64)) b_2 pv6 := h13
 replace vw2 := vw2.2 0 _ _ rfl rfl
 obtain ⟨_, vw3, r3⟩ := ((oRow (oRow (oPl (cInt .i64) (oInt .i64))))).view h9
 obtain ⟨pv7, rfl, h14⟩ := r3
 have h14 : Sl (cSl (cInt .i64)) b_3 pv7 := h14
 replace vw3 := vw3.2 0 _ _ rfl rfl
 refine Opl.callg1 (.pl (sInt .i64)) ((impl_GuessesAt.ev h12 h13 h14 hf11).mono fun _ _ h => Vec.own1 (oInt .i64) h) rfl rfl rfl (.cons vw1 (.cons vw2 (.cons vw3 (.cons (.refl _) .nil)))) ⟨h12.plain, h13.plain, h14.plain, (.lit _), trivial⟩ rfl ?_
 rintro p4 S ids4 h15 f4 g4
 obtain ⟨hv_, rfl⟩ := tree_vec h15
 have o4 : p4.one = true := oRow_p1 h15
 have ap4 := f4.tree h10
 have h16 := g4.tree h10
 have ap5 := f4.tree h11
 have h17 := g4.tree h11
 have ap6 := f4.tree h9
 have h18 := g4.tree h9
 refine Opl.one rfl rfl (by simp only [go_sem]; rfl) (Opl.nil (Evr.seq (Evr.sr rfl (Opl.one rfl rfl (by simp only [go_sem]; rfl) (Opl.one rfl rfl (by simp only [go_sem]; rfl) ?_)))))
 obtain ⟨hf12, H⟩ := H
 obtain ⟨_, vw4, r4⟩ := ((oRow (oPl (cInt .i64) (oInt .i64)))).view h15
 obtain ⟨pv8, rfl, h19⟩ := r4
 have h19 : Sl (cInt .i64) w_1 pv8 := h19
 replace vw4 := vw4.2 0 _ _ rfl rfl
 refine Opl.callw (laws_eqIntS.ev h19 h4 hf12) rfl rfl rfl (.cons vw4 (.cons (.refl _) .nil)) ⟨h19.plain, h4.plain, trivial⟩ (by decide) (Opl.one rfl rfl (by simp only [go_sem]; rfl) (Opl.nil (Evr.condF rfl (Evr.skip (Evr.seq (Evr.sr rfl (Opl.one rfl rfl (by simp only [go_sem]; rfl) (Opl.one rfl rfl (by simp only [go_sem]; rfl) ?_))))))))
 refine Opl.call ((laws_toTimeS.ev hv0 hf4).mono fun _ _ h => Out.vec h) rfl rfl rfl rfl ⟨hv0.plain, trivial⟩ (by decide) ?_
 rintro pv9 h20
 obtain ⟨hf13, H⟩ := H
 obtain ⟨_, vw5, r5⟩ := ((oRow (oPl cITime oITime))).view h16
 obtain ⟨pv10, rfl, h21⟩ := r5
 have h21 : Sl cITime b_1 pv10 := h21
 replace vw5 := vw5.2 0 _ _ rfl rfl
 refine Opl.callw (laws_eqTimeS.ev h21 h20 hf13) rfl rfl rfl (.cons vw5 (.cons (.refl _) .nil)) ⟨h21.plain, h20.plain, trivial⟩ (by decide) (Opl.one rfl rfl (by simp only [go_sem]; rfl) (Opl.nil (Evr.condF rfl (Evr.skip (Evr.seq (Evr.sr rfl (Opl.one rfl rfl (by simp only [go_sem]; rfl) (Opl.one rfl rfl (by simp only [go_sem]; rfl) ?_))))))))
 refine Opl.call ((laws_toIntSS.ev hv1 hf6).mono fun _ _ h => Out.vec h) rfl rfl rfl rfl ⟨hv1.plain, trivial⟩ (by decide) ?_
 rintro pv11 h22
 obtain ⟨hf14, H⟩ := H
 obtain ⟨_, vw6, r6⟩ := ((oRow (oRow (oPl (cInt .i64) (oInt .i64))))).view h17
 obtain ⟨pv12, rfl, h23⟩ := r6
 have h23 : Sl (cSl (cInt .i64)) b_2 pv12 := h23
 replace vw6 := vw6.2 0 _ _ rfl rfl
 refine Opl.callw (laws_eqIntSS.ev h23 h22 hf14) rfl rfl rfl (.cons vw6 (.cons (.refl _) .nil)) ⟨h23.plain, h22.plain, trivial⟩ (by decide) (Opl.one rfl rfl (by simp only [go_sem]; rfl) (Opl.nil (Evr.condF rfl (Evr.skip (Evr.seq (Evr.sr rfl (Opl.one rfl rfl (by simp only [go_sem]; rfl) (Opl.one rfl rfl (by simp only [go_sem]; rfl) ?_))))))))
 refine Opl.call ((laws_toIntSS.ev hv2 hf8).mono fun _ _ h => Out.vec h) rfl rfl rfl rfl ⟨hv2.plain, trivial⟩ (by decide) ?_
 rintro pv13 h24
 obtain ⟨hf15, H⟩ := H
 obtain ⟨_, vw7, r7⟩ := ((oRow (oRow (oPl (cInt .i64) (oInt .i64))))).view h18
 obtain ⟨pv14, rfl, h25⟩ := r7
 have h25 : Sl (cSl (cInt .i64)) b_3 pv14 := h25
 replace vw7 := vw7.2 0 _ _ rfl rfl
 refine Opl.callw (laws_eqIntSS.ev h25 h24 hf15) rfl rfl rfl (.cons vw7 (.cons (.refl _) .nil)) ⟨h25.plain, h24.plain, trivial⟩ (by decide) (Opl.one rfl rfl (by simp only [go_sem]; rfl) (Opl.nil (Evr.condF rfl (Evr.skip (Evr.sr rfl (Opl.one rfl rfl (by simp only [go_sem]; rfl) (Opl.nil (Evr.sr rfl (Opl.one rfl rfl (by simp only [go_sem]; rfl) (Opl.one rfl rfl (by simp only [go_sem]; rfl) (Opl.mark laws_markTimeS.mks (B := 4194304) h16 trivial (leaves_le hf5 fun _ _ => Nat.le_refl _) (by omega) (by omega) rfl rfl rfl rfl rfl ?_)))))))))))
 rintro k_1 S h26 h27 s1
 have h28 : 0 ≤ k_1 := by omega
 have h29 := s1.tree h17 ap1.symm
 have h30 := s1.tree h18 ap2.symm
 have h31 := s1.tree h15 ap4.symm
 refine Opl.one rfl rfl (by simp only [go_sem]; rfl) (Opl.nil (Evr.sr rfl (Opl.one rfl rfl (by simp only [go_sem]; rfl) (Opl.one rfl rfl (by simp only [go_sem]; rfl) (Opl.mark laws_markIntSS.mks (B := 1099511627776) h29 ⟨Nat.le_trans hf7.1 (by decide), fun y0 hy0 => trivial⟩ (leaves_le hf7.1 fun y0 hy0 => (leaves_le (hf7.2 y0 hy0) fun _ _ => Nat.le_refl _)) (by omega) (by omega) rfl rfl rfl rfl rfl ?_)))))
 rintro k_2 S h32 h33 s2
 have h34 : 0 ≤ k_2 := by omega
 have h35 := s2.tree h30 ap3.symm
 have h36 := s2.tree h31 ap5.symm
 refine Opl.one rfl rfl (by simp only [go_sem]; rfl) (Opl.nil (Evr.sr rfl (Opl.one rfl rfl (by simp only [go_sem]; rfl) (Opl.one rfl rfl (by simp only [go_sem]; rfl) (Opl.mark laws_markIntSS.mks (B := 1099511627776) h35 ⟨Nat.le_trans hf9.1 (by decide), fun y0 hy0 => trivial⟩ (leaves_le hf9.1 fun y0 hy0 => (leaves_le (hf9.2 y0 hy0) fun _ _ => Nat.le_refl _)) (by omega) (by omega) rfl rfl rfl rfl rfl ?_)))))
 rintro k_3 S h37 h38 s3
 have h39 : 0 ≤ k_3 := by omega
 have h40 := s3.tree h36 ap6.symm
 refine Opl.one rfl rfl (by simp only [go_sem]; rfl) (Opl.nil (Evr.seq (Evr.sr rfl (Opl.one rfl rfl (by simp only [go_sem]; rfl) (Opl.one rfl rfl (by simp only [go_sem]; rfl) (Opl.one rfl rfl (by simp only [go_sem]; rfl) ?_))))))
 have e7 : (decide (k_3 < 0)) = false := decide_eq_false (by have := h39; omega)
 try rw [e7]
 refine Opl.one rfl rfl (by simp only [go_sem]; rfl) (Opl.one rfl rfl (by simp only [go_sem]; rfl) ?_)
 obtain ⟨_, vw8, r8⟩ := ((oRow (oPl (cInt .i64) (oInt .i64)))).view h40
 obtain ⟨pv15, rfl, h41⟩ := r8
 have h41 : Sl (cInt .i64) w_1 pv15 := h41
 replace vw8 := vw8.2 0 _ _ rfl rfl
 refine Opl.callw (laws_eqIntS.ev h41 h4 hf12) rfl rfl rfl (.cons vw8 (.cons (.refl _) .nil)) ⟨h41.plain, h4.plain, trivial⟩ (by decide) (Opl.one rfl rfl (by simp only [go_sem]; rfl) (Opl.one rfl rfl (by simp only [go_sem]; rfl) (Opl.nil (Evr.condF rfl (Evr.skip (Evr.sr rfl (Opl.one rfl rfl (by simp only [go_sem]; rfl) (Opl.nil (Evr.sr rfl (Opl.one rfl rfl (by simp only [go_sem]; rfl) (Opl.one rfl rfl (by simp only [go_sem]; rfl) ?_)))))))))))
 obtain ⟨m_1, w_2, hf16, H⟩ := H
 obtain ⟨hf17, H⟩ := H
 refine Opl.calls (laws_markIntS.evm (tree_vec h40).1 hf16) rfl rfl rfl rfl rfl ?_
 rintro _ S ⟨rfl, h42, s4⟩
 have h43 := h42.tree (oInt .i64)
 refine Opl.one rfl rfl (by simp only [go_sem]; rfl) (Opl.nil (Evr.sr rfl (Opl.one rfl rfl (by simp only [go_sem]; rfl) (Opl.nil (Evr.sr rfl (Opl.one rfl rfl (by simp only [go_sem]; rfl) (Opl.one rfl rfl (by simp only [go_sem]; rfl) ?_)))))))
 obtain ⟨hf18, H⟩ := H
 obtain ⟨_, vw9, r9⟩ := ((oRow (oPl (cInt .i64) (oInt .i64)))).view h43
 obtain ⟨pv16, rfl, h44⟩ := r9
 have h44 : Sl (cInt .i64) w_2 pv16 := h44
 replace vw9 := vw9.2 0 _ _ rfl rfl
 refine Opl.callw (laws_heldIntS.ev h44 hf18) rfl rfl rfl (.cons vw9 (.cons (.refl _) .nil)) ⟨h44.plain, (.lit _), trivial⟩ (by decide) (Opl.one rfl rfl (by simp only [go_sem]; rfl) (Opl.nil (Evr.seq (Evr.sr rfl (Opl.one rfl rfl (by simp only [go_sem]; rfl) (Opl.one rfl rfl (by simp only [go_sem]; rfl) (Opl.nil ?_)))))))
 have e8 : (decide (m_1 < 0)) = false := decide_eq_false (by have := hf17; omega)
 try rw [e8]
 refine Evr.condF rfl (Evr.skip (Evr.seq (Evr.sr rfl (Opl.one rfl rfl (by simp only [go_sem]; rfl) (Opl.one rfl rfl (by simp only [go_sem]; rfl) (Opl.one rfl rfl (by simp only [go_sem]; rfl) (Opl.nil ?_)))))))
 have e9 : (m_1 != m_1) = false := by simp
 try rw [e9]
 refine Evr.condF rfl (Evr.skip (Evr.sr rfl (Opl.one rfl rfl (by simp only [go_sem]; rfl) ?_)))
 refine Opl.call ((laws_toTimeS.ev hv0 hf4).mono fun _ _ h => Out.vec h) rfl rfl rfl rfl ⟨hv0.plain, trivial⟩ (by decide) ?_
 rintro pv17 h45
 refine Opl.one rfl rfl (by simp only [go_sem]; rfl) ?_
 refine Opl.call ((laws_toIntSS.ev hv1 hf6).mono fun _ _ h => Out.vec h) rfl rfl rfl rfl ⟨hv1.plain, trivial⟩ (by decide) ?_
 rintro pv18 h46
 refine Opl.one rfl rfl (by simp only [go_sem]; rfl) ?_
 refine Opl.call ((laws_toIntSS.ev hv2 hf8).mono fun _ _ h => Out.vec h) rfl rfl rfl rfl ⟨hv2.plain, trivial⟩ (by decide) ?_
 rintro pv19 h47
 refine Opl.one rfl rfl (by simp only [go_sem]; rfl) ?_
 refine Opl.call ((impl_GuessesAt.ev h45 h46 h47 hf11).mono fun _ _ h => Out.vec h) rfl rfl rfl rfl ⟨h45.plain, h46.plain, h47.plain, (.lit _), trivial⟩ (by decide) ?_
 rintro pv20 h48
 refine Opl.one rfl rfl (by simp only [go_sem]; rfl) (Opl.nil (Evr.seq (Evr.sr rfl (Opl.one rfl rfl (by simp only [go_sem]; rfl) (Opl.one rfl rfl (by simp only [go_sem]; rfl) ?_)))))
 refine Opl.callc (laws_eqIntS.ev h48 h4 hf12) rfl rfl rfl rfl ⟨h48.plain, h4.plain, trivial⟩ (by decide) (Opl.one rfl rfl (by simp only [go_sem]; rfl) (Opl.nil (Evr.condF rfl (Evr.skip (Evr.sr rfl (Opl.one rfl rfl (by simp only [go_sem]; rfl) (Opl.nil (Evr.sr rfl (Opl.one rfl rfl (by simp only [go_sem]; rfl) (Opl.one rfl rfl (by simp only [go_sem]; rfl) ?_))))))))))
 obtain ⟨_, vw10, r10⟩ := ((oRow (oPl (cInt .i64) (oInt .i64)))).view h43
 obtain ⟨pv21, rfl, h49⟩ := r10
 have h49 : Sl (cInt .i64) w_2 pv21 := h49
 replace vw10 := vw10.2 0 _ _ rfl rfl
 refine Opl.callw (laws_heldIntS.ev h49 hf18) rfl rfl rfl (.cons vw10 (.cons (.refl _) .nil)) ⟨h49.plain, (.lit _), trivial⟩ (by decide) (Opl.one rfl rfl (by simp only [go_sem]; rfl) (Opl.nil (Evr.seq (Evr.sr rfl (Opl.one rfl rfl (by simp only [go_sem]; rfl) (Opl.one rfl rfl (by simp only [go_sem]; rfl) (Opl.nil ?_)))))))
 have e10 : (decide (m_1 < 0)) = false := decide_eq_false (by have := hf17; omega)
 try rw [e10]
 refine Evr.condF rfl (Evr.skip (Evr.seq (Evr.sr rfl (Opl.one rfl rfl (by simp only [go_sem]; rfl) (Opl.one rfl rfl (by simp only [go_sem]; rfl) (Opl.one rfl rfl (by simp only [go_sem]; rfl) (Opl.nil ?_)))))))
 have e11 : (m_1 != m_1) = false := by simp
 try rw [e11]
 refine Evr.condF rfl (Evr.skip (Evr.sr rfl (Opl.one rfl rfl (by simp only [go_sem]; rfl) (Opl.nil ?_))))
 exact Evr.ret1 Try.func3 rfl rfl
end Go.Proofs.Ytikjlbanfbkhmaa.PA
