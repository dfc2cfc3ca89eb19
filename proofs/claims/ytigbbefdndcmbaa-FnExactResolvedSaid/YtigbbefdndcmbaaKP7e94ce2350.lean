/- Walks of Go functions: each is shown to answer as the Lean function beside it tells, under the conditions that its theorem names. -/
import Derived.Test.YtigbbefdndcmbaaProg
import Derived.KernelRfl
import Derived.Below
import Derived.Deep.Draws
import Derived.Deep.AppendLies
import Derived.Maps.AppendAt
import Derived.OwnWalk
import Derived.Laws.BytesArg
import Derived.Laws.MakeOwn
import Derived.Laws.OwnMore
import Derived.Deep.OwnRows
import Derived.Tactics
import Derived.Lib.ConvBytes
import Derived.Laws.Slices
import Derived.WalkKit
import Derived.RowKit3
import Derived.Deep.LoopGhost
import Derived.Deep.QuietTactic
import Derived.BigQuiet
import Derived.WideLaws
import Derived.Deep.DeepCutAuto
import Derived.Deep.CutBlock
import Derived.Deep.RegionHeld3
import Derived.Laws.Rows
import Derived.Lib.AppendStr
import Derived.ArgAppend
import Derived.Laws.IdiomCopy
import Derived.OrdersHeld
import Derived.Laws.BitsLemmas
import Derived.RowKit
import Derived.Laws.StructEq
import Derived.Lib.SliceRun
import Derived.WalkSpells
import Derived.ChangeArms
import Derived.ChangeSlices
import Derived.Deep.Slices
import Derived.Shelf.SlSortCmp.NoneTotal
import Derived.Attr
import Derived.Laws.Append
import Derived.Laws.AppendOwn
import Derived.Laws.Entries
import Derived.Calls
import Derived.Laws.Sem
import Derived.Test.YtigbbefdndcmbaaKP0d709ecc3b
import Derived.Test.YtigbbefdndcmbaaKPb7be046e71
import Derived.Test.YtigbbefdndcmbaaKQ81850bc1e0
namespace Go.Proofs.Ytigbbefdndcmbaa.PA
open Go Go.Abs Go.RowKit Go.Proofs Go.Proofs.YtigbbefdndcmbaaW.PrintWords Go.Proofs.YtigbbefdndcmbaaW.PrintLast Go.Proofs.YtigbbefdndcmbaaW.PrintMore
set_option maxRecDepth 100000
set_option maxHeartbeats 4000000
set_option linter.unusedVariables false
set_option linter.unusedSimpArgs false
theorem laws_FnExactResolved.ev {k : Nat} {l0 : List Int} {v0 : PV} (hv0 : Sl (cInt .i64) l0 v0) {l1 : List Int} {v1 : PV} (hv1 : Sl (cInt .i64) l1 v1) {a2 : Int} (H : laws_FnExactResolved.Good k l0 l1 a2) : Ret Try.prog 4 [v0, v1, .lit (.int .i64 a2)] fun v S => v = .lit (.bool true) := by
 unfold laws_FnExactResolved.Good at H
 refine Ret.intro Try.func4 rfl (Nat.le_of_ble_eq_true rfl) rfl ?_
 rw [tm3]
 refine Evr.sr rfl (Opl.one rfl rfl (by simp only [go_sem]; rfl) (Opl.nil (Evr.seq (Evr.sr rfl (Opl.one rfl rfl (by simp only [go_sem]; rfl) (Opl.len (xs := l0) (by exact hv0) K22 rfl rfl rfl rfl (Opl.one rfl rfl (by simp only [go_sem]; rfl) (Opl.nil ?_))))))))
 by_cases c1 : (l0.length : Int) > 1048576
 ·
  have e1 : (decide ((l0.length : Int) > 1048576)) = true := by simpa using c1
  try rw [e1]
  refine Evr.condT rfl (Evr.sr rfl (Opl.one rfl rfl (by simp only [go_sem]; rfl) (Opl.nil ?_)))
  exact Evr.ret1 Try.func4 rfl rfl
 replace H := H.resolve_left c1
 have e2 : (decide ((l0.length : Int) > 1048576)) = false := by simpa using c1
 try rw [e2]
 refine Evr.condF rfl (Evr.skip (Evr.seq (Evr.sr rfl (Opl.one rfl rfl (by simp only [go_sem]; rfl) (Opl.len (xs := l1) (by exact hv1) K22 rfl rfl rfl rfl (Opl.one rfl rfl (by simp only [go_sem]; rfl) (Opl.nil ?_)))))))
 by_cases c2 : (l1.length : Int) > 1048576
 ·
  have e3 : (decide ((l1.length : Int) > 1048576)) = true := by simpa using c2
  try rw [e3]
  refine Evr.condT rfl (Evr.sr rfl (Opl.one rfl rfl (by simp only [go_sem]; rfl) (Opl.nil ?_)))
  exact Evr.ret1 Try.func4 rfl rfl
 replace H := H.resolve_left c2
 have e4 : (decide ((l1.length : Int) > 1048576)) = false := by simpa using c2
 try rw [e4]
 refine Evr.condF rfl (Evr.skip (Evr.sr rfl (Opl.one rfl rfl (by simp only [go_sem]; rfl) ?_)))
 obtain ⟨b_1, hf1, H⟩ := H
 obtain ⟨hf2, H⟩ := H
 refine Opl.call ((laws_toIntS.ev hv0 hf1).mono fun _ _ h => Out.vec h) rfl rfl rfl rfl ⟨hv0.plain, trivial⟩ (by decide) ?_
 rintro pv1 h1
 refine Opl.one rfl rfl (by simp only [go_sem]; rfl) ?_
 obtain ⟨b_2, hf3, H⟩ := H
 obtain ⟨hf4, H⟩ := H
 refine Opl.call ((laws_toIntS.ev hv1 hf3).mono fun _ _ h => Out.vec h) rfl rfl rfl rfl ⟨hv1.plain, trivial⟩ (by decide) ?_
 rintro pv2 h2
 refine Opl.one rfl rfl (by simp only [go_sem]; rfl) ?_
 obtain ⟨w_1, hf5, H⟩ := H
 refine Opl.call (spec_Resolved.ev h1 h2 hf5) rfl rfl rfl rfl ⟨h1.plain, h2.plain, (.lit _), trivial⟩ (by decide) ?_
 rintro _ ⟨pv4, _, rfl, h4, rfl⟩
 refine Opl.one rfl rfl (by simp only [go_sem]; rfl) (Opl.one (v := pv4) rfl rfl (by simp only [go_sem]; rfl) (Opl.one (v := .lit (.bool w_1.2)) rfl rfl (by simp only [go_sem]; rfl) (Opl.one rfl rfl (by simp only [go_sem]; rfl) (Opl.one rfl rfl (by simp only [go_sem]; rfl) (Opl.nil (Evr.sr rfl (Opl.one rfl rfl (by simp only [go_sem]; rfl) ?_)))))))
 refine Opl.calla (laws_toIntS.ev hv0 hf1) rfl rfl rfl rfl ⟨hv0.plain, trivial⟩ rfl ?_
 rintro p1 S h6 u1 w1
 have h5 := h6.tree (oInt .i64)
 have f1 := w1.fresh
 have g1 := Grow.of u1 w1
 have o1 : p1.one = true := oRow_p1 h5
 refine Opl.one rfl rfl (by simp only [go_sem]; rfl) (Opl.nil (Evr.sr rfl (Opl.one rfl rfl (by simp only [go_sem]; rfl) ?_)))
 refine Opl.calla (laws_toIntS.ev hv1 hf3) rfl rfl rfl rfl ⟨hv1.plain, trivial⟩ rfl ?_
 rintro p2 S h8 u2 w2
 have h7 := h8.tree (oInt .i64)
 have f2 := w2.fresh
 have g2 := Grow.of u2 w2
 have o2 : p2.one = true := oRow_p1 h7
 have ap1 := f2.tree h5
 have h9 := g2.tree h5
 refine Opl.one rfl rfl (by simp only [go_sem]; rfl) (Opl.nil (Evr.sr rfl (Opl.one rfl rfl (by simp only [go_sem]; rfl) (Opl.one rfl rfl (by simp only [go_sem]; rfl) (Opl.one rfl rfl (by simp only [go_sem]; rfl) ?_)))))
 obtain ⟨hf6, H⟩ := H
 obtain ⟨_, vw1, r1⟩ := ((oRow (oPl (cInt .i64) (oInt .i64)))).view h9
 obtain ⟨pv5, rfl, h10⟩ := r1
 have h10 : Sl (cInt .i64) b_1 pv5 := h10
 replace vw1 := vw1.2 0 _ _ rfl rfl
 obtain ⟨_, vw2, r2⟩ := ((oRow (oPl (cInt .i64) (oInt .i64)))).view h7
 obtain ⟨pv6, rfl, h11⟩ := r2
 have h11 : Sl (cInt .i64) b_2 pv6 := h11
 replace vw2 := vw2.2 0 _ _ rfl rfl
 refine Opl.callg2 (.pl (sInt .i64)) sBool (c0 := (.bool w_1.2)) (fun _ h => h) (impl_Resolved.evo h10 h11 hf6) rfl rfl rfl (.cons vw1 (.cons vw2 (.cons (.refl _) .nil))) ⟨h10.plain, h11.plain, (.lit _), trivial⟩ rfl ?_
 rintro p3 S ids3 h12 f3 g3
 obtain ⟨hv_, rfl⟩ := tree_vec h12
 have o3 : p3.one = true := oRow_p1 h12
 have ap2 := f3.tree h9
 have h13 := g3.tree h9
 have ap3 := f3.tree h7
 have h14 := g3.tree h7
 refine Opl.one rfl rfl (by simp only [go_sem]; rfl) (Opl.one (v := p3) rfl rfl (by simp only [go_sem]; rfl) (Opl.one (v := .lit (.bool w_1.2)) rfl rfl (by simp only [go_sem]; rfl) (Opl.one rfl rfl (by simp only [go_sem]; rfl) (Opl.one rfl rfl (by simp only [go_sem]; rfl) (Opl.nil (Evr.seq (Evr.sr rfl (Opl.one rfl rfl (by simp only [go_sem]; rfl) (Opl.one rfl rfl (by simp only [go_sem]; rfl) ?_)))))))))
 obtain ⟨hf7, H⟩ := H
 obtain ⟨_, vw3, r3⟩ := ((oRow (oPl (cInt .i64) (oInt .i64)))).view h12
 obtain ⟨pv7, rfl, h15⟩ := r3
 have h15 : Sl (cInt .i64) w_1.1 pv7 := h15
 replace vw3 := vw3.2 0 _ _ rfl rfl
 refine Opl.callw (laws_eqIntS.ev h15 h4 hf7) rfl rfl rfl (.cons vw3 (.cons (.refl _) .nil)) ⟨h15.plain, h4.plain, trivial⟩ (by decide) (Opl.one rfl rfl (by simp only [go_sem]; rfl) (Opl.one rfl rfl (by simp only [go_sem]; rfl) (Opl.one rfl rfl (by simp only [go_sem]; rfl) (Opl.one rfl rfl (by simp only [go_sem]; rfl) (Opl.one rfl rfl (by simp only [go_sem]; rfl) (Opl.one rfl rfl (by simp only [go_sem]; rfl) (Opl.nil ?_)))))))
 have e5 : (w_1.2 != w_1.2) = false := by simp
 try rw [e5]
 refine Evr.condF rfl (Evr.skip (Evr.seq (Evr.sr rfl (Opl.one rfl rfl (by simp only [go_sem]; rfl) (Opl.one rfl rfl (by simp only [go_sem]; rfl) ?_)))))
 refine Opl.call ((laws_toIntS.ev hv0 hf1).mono fun _ _ h => Out.vec h) rfl rfl rfl rfl ⟨hv0.plain, trivial⟩ (by decide) ?_
 rintro pv8 h16
 obtain ⟨hf8, H⟩ := H
 obtain ⟨_, vw4, r4⟩ := ((oRow (oPl (cInt .i64) (oInt .i64)))).view h13
 obtain ⟨pv9, rfl, h17⟩ := r4
 have h17 : Sl (cInt .i64) b_1 pv9 := h17
 replace vw4 := vw4.2 0 _ _ rfl rfl
 refine Opl.callw (laws_eqIntS.ev h17 h16 hf8) rfl rfl rfl (.cons vw4 (.cons (.refl _) .nil)) ⟨h17.plain, h16.plain, trivial⟩ (by decide) (Opl.one rfl rfl (by simp only [go_sem]; rfl) (Opl.nil (Evr.condF rfl (Evr.skip (Evr.seq (Evr.sr rfl (Opl.one rfl rfl (by simp only [go_sem]; rfl) (Opl.one rfl rfl (by simp only [go_sem]; rfl) ?_))))))))
 refine Opl.call ((laws_toIntS.ev hv1 hf3).mono fun _ _ h => Out.vec h) rfl rfl rfl rfl ⟨hv1.plain, trivial⟩ (by decide) ?_
 rintro pv10 h18
 obtain ⟨hf9, H⟩ := H
 obtain ⟨_, vw5, r5⟩ := ((oRow (oPl (cInt .i64) (oInt .i64)))).view h14
 obtain ⟨pv11, rfl, h19⟩ := r5
 have h19 : Sl (cInt .i64) b_2 pv11 := h19
 replace vw5 := vw5.2 0 _ _ rfl rfl
 refine Opl.callw (laws_eqIntS.ev h19 h18 hf9) rfl rfl rfl (.cons vw5 (.cons (.refl _) .nil)) ⟨h19.plain, h18.plain, trivial⟩ (by decide) (Opl.one rfl rfl (by simp only [go_sem]; rfl) (Opl.nil (Evr.condF rfl (Evr.skip (Evr.sr rfl (Opl.one rfl rfl (by simp only [go_sem]; rfl) (Opl.nil (Evr.sr rfl (Opl.one rfl rfl (by simp only [go_sem]; rfl) (Opl.one rfl rfl (by simp only [go_sem]; rfl) (Opl.mark laws_markIntS.mks (B := 1048576) h13 trivial (leaves_le hf2 fun _ _ => Nat.le_refl _) (by omega) (by omega) rfl rfl rfl rfl rfl ?_)))))))))))
 rintro k_1 S h20 h21 s1
 have h22 : 0 ≤ k_1 := by omega
 have h23 := s1.tree h14 ap1.symm
 have h24 := s1.tree h12 ap2.symm
 refine Opl.one rfl rfl (by simp only [go_sem]; rfl) (Opl.nil (Evr.sr rfl (Opl.one rfl rfl (by simp only [go_sem]; rfl) (Opl.one rfl rfl (by simp only [go_sem]; rfl) (Opl.mark laws_markIntS.mks (B := 1048576) h23 trivial (leaves_le hf4 fun _ _ => Nat.le_refl _) (by omega) (by omega) rfl rfl rfl rfl rfl ?_)))))
 rintro k_2 S h25 h26 s2
 have h27 : 0 ≤ k_2 := by omega
 have h28 := s2.tree h24 ap3.symm
 refine Opl.one rfl rfl (by simp only [go_sem]; rfl) (Opl.nil (Evr.seq (Evr.sr rfl (Opl.one rfl rfl (by simp only [go_sem]; rfl) (Opl.one rfl rfl (by simp only [go_sem]; rfl) (Opl.one rfl rfl (by simp only [go_sem]; rfl) ?_))))))
 have e6 : (decide (k_2 < 0)) = false := decide_eq_false (by have := h27; omega)
 try rw [e6]
 refine Opl.one rfl rfl (by simp only [go_sem]; rfl) (Opl.one rfl rfl (by simp only [go_sem]; rfl) ?_)
 obtain ⟨_, vw6, r6⟩ := ((oRow (oPl (cInt .i64) (oInt .i64)))).view h28
 obtain ⟨pv12, rfl, h29⟩ := r6
 have h29 : Sl (cInt .i64) w_1.1 pv12 := h29
 replace vw6 := vw6.2 0 _ _ rfl rfl
 refine Opl.callw (laws_eqIntS.ev h29 h4 hf7) rfl rfl rfl (.cons vw6 (.cons (.refl _) .nil)) ⟨h29.plain, h4.plain, trivial⟩ (by decide) (Opl.one rfl rfl (by simp only [go_sem]; rfl) (Opl.one rfl rfl (by simp only [go_sem]; rfl) (Opl.one rfl rfl (by simp only [go_sem]; rfl) (Opl.one rfl rfl (by simp only [go_sem]; rfl) (Opl.one rfl rfl (by simp only [go_sem]; rfl) (Opl.one rfl rfl (by simp only [go_sem]; rfl) (Opl.one rfl rfl (by simp only [go_sem]; rfl) (Opl.nil ?_))))))))
 have e7 : (w_1.2 != w_1.2) = false := by simp
 try rw [e7]
 refine Evr.condF rfl (Evr.skip (Evr.sr rfl (Opl.one rfl rfl (by simp only [go_sem]; rfl) (Opl.nil (Evr.sr rfl (Opl.one rfl rfl (by simp only [go_sem]; rfl) (Opl.one rfl rfl (by simp only [go_sem]; rfl) ?_)))))))
 obtain ⟨m_1, w_2, hf10, H⟩ := H
 obtain ⟨hf11, H⟩ := H
 refine Opl.calls (laws_markIntS.evm (tree_vec h28).1 hf10) rfl rfl rfl rfl rfl ?_
 rintro _ S ⟨rfl, h30, s3⟩
 have h31 := h30.tree (oInt .i64)
 refine Opl.one rfl rfl (by simp only [go_sem]; rfl) (Opl.nil (Evr.sr rfl (Opl.one rfl rfl (by simp only [go_sem]; rfl) (Opl.nil (Evr.sr rfl (Opl.one rfl rfl (by simp only [go_sem]; rfl) (Opl.one rfl rfl (by simp only [go_sem]; rfl) ?_)))))))
 obtain ⟨hf12, H⟩ := H
 obtain ⟨_, vw7, r7⟩ := ((oRow (oPl (cInt .i64) (oInt .i64)))).view h31
 obtain ⟨pv13, rfl, h32⟩ := r7
 have h32 : Sl (cInt .i64) w_2 pv13 := h32
 replace vw7 := vw7.2 0 _ _ rfl rfl
 refine Opl.callw (laws_heldIntS.ev h32 hf12) rfl rfl rfl (.cons vw7 (.cons (.refl _) .nil)) ⟨h32.plain, (.lit _), trivial⟩ (by decide) (Opl.one rfl rfl (by simp only [go_sem]; rfl) (Opl.nil (Evr.seq (Evr.sr rfl (Opl.one rfl rfl (by simp only [go_sem]; rfl) (Opl.one rfl rfl (by simp only [go_sem]; rfl) (Opl.nil ?_)))))))
 have e8 : (decide (m_1 < 0)) = false := decide_eq_false (by have := hf11; omega)
 try rw [e8]
 refine Evr.condF rfl (Evr.skip (Evr.seq (Evr.sr rfl (Opl.one rfl rfl (by simp only [go_sem]; rfl) (Opl.one rfl rfl (by simp only [go_sem]; rfl) (Opl.one rfl rfl (by simp only [go_sem]; rfl) (Opl.nil ?_)))))))
 have e9 : (m_1 != m_1) = false := by simp
 try rw [e9]
 refine Evr.condF rfl (Evr.skip (Evr.sr rfl (Opl.one rfl rfl (by simp only [go_sem]; rfl) ?_)))
 refine Opl.call ((laws_toIntS.ev hv0 hf1).mono fun _ _ h => Out.vec h) rfl rfl rfl rfl ⟨hv0.plain, trivial⟩ (by decide) ?_
 rintro pv14 h33
 refine Opl.one rfl rfl (by simp only [go_sem]; rfl) ?_
 refine Opl.call ((laws_toIntS.ev hv1 hf3).mono fun _ _ h => Out.vec h) rfl rfl rfl rfl ⟨hv1.plain, trivial⟩ (by decide) ?_
 rintro pv15 h34
 refine Opl.one rfl rfl (by simp only [go_sem]; rfl) ?_
 refine Opl.call (impl_Resolved.ev h33 h34 hf6) rfl rfl rfl rfl ⟨h33.plain, h34.plain, (.lit _), trivial⟩ (by decide) ?_
 rintro _ ⟨pv17, _, rfl, h36, rfl⟩
 refine Opl.one rfl rfl (by simp only [go_sem]; rfl) (Opl.one (v := pv17) rfl rfl (by simp only [go_sem]; rfl) (Opl.one (v := .lit (.bool w_1.2)) rfl rfl (by simp only [go_sem]; rfl) (Opl.one rfl rfl (by simp only [go_sem]; rfl) (Opl.one rfl rfl (by simp only [go_sem]; rfl) (Opl.nil (Evr.seq (Evr.sr rfl (Opl.one rfl rfl (by simp only [go_sem]; rfl) (Opl.one rfl rfl (by simp only [go_sem]; rfl) ?_)))))))))
 refine Opl.callc (laws_eqIntS.ev h36 h4 hf7) rfl rfl rfl rfl ⟨h36.plain, h4.plain, trivial⟩ (by decide) (Opl.one rfl rfl (by simp only [go_sem]; rfl) (Opl.one rfl rfl (by simp only [go_sem]; rfl) (Opl.one rfl rfl (by simp only [go_sem]; rfl) (Opl.one rfl rfl (by simp only [go_sem]; rfl) (Opl.one rfl rfl (by simp only [go_sem]; rfl) (Opl.one rfl rfl (by simp only [go_sem]; rfl) (Opl.nil ?_)))))))
 have e10 : (w_1.2 != w_1.2) = false := by simp
 try rw [e10]
 refine Evr.condF rfl (Evr.skip (Evr.sr rfl (Opl.one rfl rfl (by simp only [go_sem]; rfl) (Opl.nil (Evr.sr rfl (Opl.one rfl rfl (by simp only [go_sem]; rfl) (Opl.one rfl rfl (by simp only [go_sem]; rfl) ?_)))))))
 obtain ⟨_, vw8, r8⟩ := ((oRow (oPl (cInt .i64) (oInt .i64)))).view h31
 obtain ⟨pv18, rfl, h37⟩ := r8
 have h37 : Sl (cInt .i64) w_2 pv18 := h37
 replace vw8 := vw8.2 0 _ _ rfl rfl
 refine Opl.callw (laws_heldIntS.ev h37 hf12) rfl rfl rfl (.cons vw8 (.cons (.refl _) .nil)) ⟨h37.plain, (.lit _), trivial⟩ (by decide) (Opl.one rfl rfl (by simp only [go_sem]; rfl) (Opl.nil (Evr.seq (Evr.sr rfl (Opl.one rfl rfl (by simp only [go_sem]; rfl) (Opl.one rfl rfl (by simp only [go_sem]; rfl) (Opl.nil ?_)))))))
 have e11 : (decide (m_1 < 0)) = false := decide_eq_false (by have := hf11; omega)
 try rw [e11]
 refine Evr.condF rfl (Evr.skip (Evr.seq (Evr.sr rfl (Opl.one rfl rfl (by simp only [go_sem]; rfl) (Opl.one rfl rfl (by simp only [go_sem]; rfl) (Opl.one rfl rfl (by simp only [go_sem]; rfl) (Opl.nil ?_)))))))
 have e12 : (m_1 != m_1) = false := by simp
 try rw [e12]
 refine Evr.condF rfl (Evr.skip (Evr.sr rfl (Opl.one rfl rfl (by simp only [go_sem]; rfl) (Opl.nil ?_))))
 exact Evr.ret1 Try.func4 rfl rfl
end Go.Proofs.Ytigbbefdndcmbaa.PA
