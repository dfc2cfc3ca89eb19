/- Walks of Go functions: each is shown to answer as the Lean function beside it tells, under the conditions that its theorem names. -/
import Derived.Test.YtigbbefdndcmbaaProg
import Derived.KernelRfl
import Derived.Below
import Derived.Deep.Draws
import Derived.Deep.AppendLies
import Derived.Maps.AppendAt
import Derived.OwnWalk
import Derived.Laws.BytesArg
import Derived.Laws.MakeOwn
import Derived.Laws.OwnMore
import Derived.Deep.OwnRows
import Derived.Tactics
import Derived.Lib.ConvBytes
import Derived.Laws.Slices
import Derived.WalkKit
import Derived.RowKit3
import Derived.Deep.LoopGhost
import Derived.Deep.QuietTactic
import Derived.BigQuiet
import Derived.WideLaws
import Derived.Deep.DeepCutAuto
import Derived.Deep.CutBlock
import Derived.Deep.RegionHeld3
import Derived.Laws.Rows
import Derived.Lib.AppendStr
import Derived.ArgAppend
import Derived.Laws.IdiomCopy
import Derived.OrdersHeld
import Derived.Laws.BitsLemmas
import Derived.RowKit
import Derived.Laws.StructEq
import Derived.Lib.SliceRun
import Derived.WalkSpells
import Derived.ChangeArms
import Derived.ChangeSlices
import Derived.Deep.Slices
import Derived.Shelf.SlSortCmp.NoneTotal
import Derived.Attr
import Derived.Laws.Append
import Derived.Laws.AppendOwn
import Derived.Laws.Entries
import Derived.Calls
import Derived.Laws.Sem
import Derived.Test.YtigbbefdndcmbaaKP6a7389eee9
import Derived.Test.YtigbbefdndcmbaaKP43c659305b
import Derived.Test.YtigbbefdndcmbaaKQ5275484c94
namespace Go.Proofs.Ytigbbefdndcmbaa.PA
open Go Go.Abs Go.RowKit Go.Proofs Go.Proofs.YtigbbefdndcmbaaW.PrintWords Go.Proofs.YtigbbefdndcmbaaW.PrintLast Go.Proofs.YtigbbefdndcmbaaW.PrintMore
set_option maxRecDepth 100000
set_option maxHeartbeats 4000000
set_option linter.unusedVariables false
set_option linter.unusedSimpArgs false
theorem laws_FnExactClauseOf.ev {k : Nat} {l0 : List Int} {v0 : PV} (hv0 : Sl (cInt .i64) l0 v0) {a1 : Int} (H : laws_FnExactClauseOf.Good k l0 a1) : Ret Try.prog 3 [v0, .lit (.int .i64 a1)] fun v S => v = .lit (.bool true) := by
 unfold laws_FnExactClauseOf.Good at H
 refine Ret.intro Try.func3 rfl (Nat.le_of_ble_eq_true rfl) rfl ?_
 rw [tm2]
 refine Evr.sr rfl (Opl.one rfl rfl (by simp only [go_sem]; rfl) (Opl.nil (Evr.seq (Evr.sr rfl (Opl.one rfl rfl (by simp only [go_sem]; rfl) (Opl.len (xs := l0) (by exact hv0) K22 rfl rfl rfl rfl (Opl.one rfl rfl (by simp only [go_sem]; rfl) (Opl.nil ?_))))))))
 by_cases c1 : (l0.length : Int) > 1048576
 ·
  have e1 : (decide ((l0.length : Int) > 1048576)) = true := by simpa using c1
  try rw [e1]
  refine Evr.condT rfl (Evr.sr rfl (Opl.one rfl rfl (by simp only [go_sem]; rfl) (Opl.nil ?_)))
  exact Evr.ret1 Try.func3 rfl rfl
 replace H := H.resolve_left c1
 have e2 : (decide ((l0.length : Int) > 1048576)) = false := by simpa using c1
 try rw [e2]
 refine Evr.condF rfl (Evr.skip (Evr.sr rfl (Opl.one rfl rfl (by simp only [go_sem]; rfl) ?_)))
 obtain ⟨b_1, hf1, H⟩ := H
 obtain ⟨hf2, H⟩ := H
 refine Opl.call ((laws_toIntS.ev hv0 hf1).mono fun _ _ h => Out.vec h) rfl rfl rfl rfl ⟨hv0.plain, trivial⟩ (by decide) ?_
 rintro pv1 h1
 refine Opl.one rfl rfl (by simp only [go_sem]; rfl) ?_
 obtain ⟨w_1, hf3, H⟩ := H
 refine Opl.call (spec_ClauseOf.ev h1 hf3) rfl rfl rfl rfl ⟨h1.plain, (.lit _), trivial⟩ (by decide) ?_
 rintro _ ⟨pv3, _, rfl, h3, rfl⟩
 refine Opl.one rfl rfl (by simp only [go_sem]; rfl) (Opl.one (v := pv3) rfl rfl (by simp only [go_sem]; rfl) (Opl.one (v := .lit (.bool w_1.2)) rfl rfl (by simp only [go_sem]; rfl) (Opl.one rfl rfl (by simp only [go_sem]; rfl) (Opl.one rfl rfl (by simp only [go_sem]; rfl) (Opl.nil (Evr.sr rfl (Opl.one rfl rfl (by simp only [go_sem]; rfl) ?_)))))))
 refine Opl.calla (laws_toIntS.ev hv0 hf1) rfl rfl rfl rfl ⟨hv0.plain, trivial⟩ rfl ?_
 rintro p1 S h5 u1 w1
 have h4 := h5.tree (oInt .i64)
 have f1 := w1.fresh
 have g1 := Grow.of u1 w1
 have o1 : p1.one = true := oRow_p1 h4
 refine Opl.one rfl rfl (by simp only [go_sem]; rfl) (Opl.nil (Evr.sr rfl (Opl.one rfl rfl (by simp only [go_sem]; rfl) (Opl.one rfl rfl (by simp only [go_sem]; rfl) ?_))))
 obtain ⟨hf4, H⟩ := H
 obtain ⟨_, vw1, r1⟩ := ((oRow (oPl (cInt .i64) (oInt .i64)))).view h4
 obtain ⟨pv4, rfl, h6⟩ := r1
 have h6 : Sl (cInt .i64) b_1 pv4 := h6
 replace vw1 := vw1.2 0 _ _ rfl rfl
 refine Opl.callg2 (.pl (sInt .i64)) sBool (c0 := (.bool w_1.2)) (fun _ h => h) (impl_ClauseOf.evo h6 hf4) rfl rfl rfl (.cons vw1 (.cons (.refl _) .nil)) ⟨h6.plain, (.lit _), trivial⟩ rfl ?_
 rintro p2 S ids2 h7 f2 g2
 obtain ⟨hv_, rfl⟩ := tree_vec h7
 have o2 : p2.one = true := oRow_p1 h7
 have ap1 := f2.tree h4
 have h8 := g2.tree h4
 refine Opl.one rfl rfl (by simp only [go_sem]; rfl) (Opl.one (v := p2) rfl rfl (by simp only [go_sem]; rfl) (Opl.one (v := .lit (.bool w_1.2)) rfl rfl (by simp only [go_sem]; rfl) (Opl.one rfl rfl (by simp only [go_sem]; rfl) (Opl.one rfl rfl (by simp only [go_sem]; rfl) (Opl.nil (Evr.seq (Evr.sr rfl (Opl.one rfl rfl (by simp only [go_sem]; rfl) (Opl.one rfl rfl (by simp only [go_sem]; rfl) ?_)))))))))
 obtain ⟨hf5, H⟩ := H
 obtain ⟨_, vw2, r2⟩ := ((oRow (oPl (cInt .i64) (oInt .i64)))).view h7
 obtain ⟨pv5, rfl, h9⟩ := r2
 have h9 : Sl (cInt .i64) w_1.1 pv5 := h9
 replace vw2 := vw2.2 0 _ _ rfl rfl
 refine Opl.callw (laws_eqIntS.ev h9 h3 hf5) rfl rfl rfl (.cons vw2 (.cons (.refl _) .nil)) ⟨h9.plain, h3.plain, trivial⟩ (by decide) (Opl.one rfl rfl (by simp only [go_sem]; rfl) (Opl.one rfl rfl (by simp only [go_sem]; rfl) (Opl.one rfl rfl (by simp only [go_sem]; rfl) (Opl.one rfl rfl (by simp only [go_sem]; rfl) (Opl.one rfl rfl (by simp only [go_sem]; rfl) (Opl.one rfl rfl (by simp only [go_sem]; rfl) (Opl.nil ?_)))))))
 have e3 : (w_1.2 != w_1.2) = false := by simp
 try rw [e3]
 refine Evr.condF rfl (Evr.skip (Evr.seq (Evr.sr rfl (Opl.one rfl rfl (by simp only [go_sem]; rfl) (Opl.one rfl rfl (by simp only [go_sem]; rfl) ?_)))))
 refine Opl.call ((laws_toIntS.ev hv0 hf1).mono fun _ _ h => Out.vec h) rfl rfl rfl rfl ⟨hv0.plain, trivial⟩ (by decide) ?_
 rintro pv6 h10
 obtain ⟨hf6, H⟩ := H
 obtain ⟨_, vw3, r3⟩ := ((oRow (oPl (cInt .i64) (oInt .i64)))).view h8
 obtain ⟨pv7, rfl, h11⟩ := r3
 have h11 : Sl (cInt .i64) b_1 pv7 := h11
 replace vw3 := vw3.2 0 _ _ rfl rfl
 refine Opl.callw (laws_eqIntS.ev h11 h10 hf6) rfl rfl rfl (.cons vw3 (.cons (.refl _) .nil)) ⟨h11.plain, h10.plain, trivial⟩ (by decide) (Opl.one rfl rfl (by simp only [go_sem]; rfl) (Opl.nil (Evr.condF rfl (Evr.skip (Evr.sr rfl (Opl.one rfl rfl (by simp only [go_sem]; rfl) (Opl.nil (Evr.sr rfl (Opl.one rfl rfl (by simp only [go_sem]; rfl) (Opl.one rfl rfl (by simp only [go_sem]; rfl) (Opl.mark laws_markIntS.mks (B := 1048576) h8 trivial (leaves_le hf2 fun _ _ => Nat.le_refl _) (by omega) (by omega) rfl rfl rfl rfl rfl ?_)))))))))))
 rintro k_1 S h12 h13 s1
 have h14 : 0 ≤ k_1 := by omega
 have h15 := s1.tree h7 ap1.symm
 refine Opl.one rfl rfl (by simp only [go_sem]; rfl) (Opl.nil (Evr.seq (Evr.sr rfl (Opl.one rfl rfl (by simp only [go_sem]; rfl) (Opl.one rfl rfl (by simp only [go_sem]; rfl) (Opl.one rfl rfl (by simp only [go_sem]; rfl) ?_))))))
 have e4 : (decide (k_1 < 0)) = false := decide_eq_false (by have := h14; omega)
 try rw [e4]
 refine Opl.one rfl rfl (by simp only [go_sem]; rfl) (Opl.one rfl rfl (by simp only [go_sem]; rfl) ?_)
 obtain ⟨_, vw4, r4⟩ := ((oRow (oPl (cInt .i64) (oInt .i64)))).view h15
 obtain ⟨pv8, rfl, h16⟩ := r4
 have h16 : Sl (cInt .i64) w_1.1 pv8 := h16
 replace vw4 := vw4.2 0 _ _ rfl rfl
 refine Opl.callw (laws_eqIntS.ev h16 h3 hf5) rfl rfl rfl (.cons vw4 (.cons (.refl _) .nil)) ⟨h16.plain, h3.plain, trivial⟩ (by decide) (Opl.one rfl rfl (by simp only [go_sem]; rfl) (Opl.one rfl rfl (by simp only [go_sem]; rfl) (Opl.one rfl rfl (by simp only [go_sem]; rfl) (Opl.one rfl rfl (by simp only [go_sem]; rfl) (Opl.one rfl rfl (by simp only [go_sem]; rfl) (Opl.one rfl rfl (by simp only [go_sem]; rfl) (Opl.one rfl rfl (by simp only [go_sem]; rfl) (Opl.nil ?_))))))))
 have e5 : (w_1.2 != w_1.2) = false := by simp
 try rw [e5]
 refine Evr.condF rfl (Evr.skip (Evr.sr rfl (Opl.one rfl rfl (by simp only [go_sem]; rfl) (Opl.nil (Evr.sr rfl (Opl.one rfl rfl (by simp only [go_sem]; rfl) (Opl.one rfl rfl (by simp only [go_sem]; rfl) ?_)))))))
 obtain ⟨m_1, w_2, hf7, H⟩ := H
 obtain ⟨hf8, H⟩ := H
 refine Opl.calls (laws_markIntS.evm (tree_vec h15).1 hf7) rfl rfl rfl rfl rfl ?_
 rintro _ S ⟨rfl, h17, s2⟩
 have h18 := h17.tree (oInt .i64)
 refine Opl.one rfl rfl (by simp only [go_sem]; rfl) (Opl.nil (Evr.sr rfl (Opl.one rfl rfl (by simp only [go_sem]; rfl) (Opl.nil (Evr.sr rfl (Opl.one rfl rfl (by simp only [go_sem]; rfl) (Opl.one rfl rfl (by simp only [go_sem]; rfl) ?_)))))))
 obtain ⟨hf9, H⟩ := H
 obtain ⟨_, vw5, r5⟩ := ((oRow (oPl (cInt .i64) (oInt .i64)))).view h18
 obtain ⟨pv9, rfl, h19⟩ := r5
 have h19 : Sl (cInt .i64) w_2 pv9 := h19
 replace vw5 := vw5.2 0 _ _ rfl rfl
 refine Opl.callw (laws_heldIntS.ev h19 hf9) rfl rfl rfl (.cons vw5 (.cons (.refl _) .nil)) ⟨h19.plain, (.lit _), trivial⟩ (by decide) (Opl.one rfl rfl (by simp only [go_sem]; rfl) (Opl.nil (Evr.seq (Evr.sr rfl (Opl.one rfl rfl (by simp only [go_sem]; rfl) (Opl.one rfl rfl (by simp only [go_sem]; rfl) (Opl.nil ?_)))))))
 have e6 : (decide (m_1 < 0)) = false := decide_eq_false (by have := hf8; omega)
 try rw [e6]
 refine Evr.condF rfl (Evr.skip (Evr.seq (Evr.sr rfl (Opl.one rfl rfl (by simp only [go_sem]; rfl) (Opl.one rfl rfl (by simp only [go_sem]; rfl) (Opl.one rfl rfl (by simp only [go_sem]; rfl) (Opl.nil ?_)))))))
 have e7 : (m_1 != m_1) = false := by simp
 try rw [e7]
 refine Evr.condF rfl (Evr.skip (Evr.sr rfl (Opl.one rfl rfl (by simp only [go_sem]; rfl) ?_)))
 refine Opl.call ((laws_toIntS.ev hv0 hf1).mono fun _ _ h => Out.vec h) rfl rfl rfl rfl ⟨hv0.plain, trivial⟩ (by decide) ?_
 rintro pv10 h20
 refine Opl.one rfl rfl (by simp only [go_sem]; rfl) ?_
 refine Opl.call (impl_ClauseOf.ev h20 hf4) rfl rfl rfl rfl ⟨h20.plain, (.lit _), trivial⟩ (by decide) ?_
 rintro _ ⟨pv12, _, rfl, h22, rfl⟩
 refine Opl.one rfl rfl (by simp only [go_sem]; rfl) (Opl.one (v := pv12) rfl rfl (by simp only [go_sem]; rfl) (Opl.one (v := .lit (.bool w_1.2)) rfl rfl (by simp only [go_sem]; rfl) (Opl.one rfl rfl (by simp only [go_sem]; rfl) (Opl.one rfl rfl (by simp only [go_sem]; rfl) (Opl.nil (Evr.seq (Evr.sr rfl (Opl.one rfl rfl (by simp only [go_sem]; rfl) (Opl.one rfl rfl (by simp only [go_sem]; rfl) ?_)))))))))
 refine Opl.callc (laws_eqIntS.ev h22 h3 hf5) rfl rfl rfl rfl ⟨h22.plain, h3.plain, trivial⟩ (by decide) (Opl.one rfl rfl (by simp only [go_sem]; rfl) (Opl.one rfl rfl (by simp only [go_sem]; rfl) (Opl.one rfl rfl (by simp only [go_sem]; rfl) (Opl.one rfl rfl (by simp only [go_sem]; rfl) (Opl.one rfl rfl (by simp only [go_sem]; rfl) (Opl.one rfl rfl (by simp only [go_sem]; rfl) (Opl.nil ?_)))))))
 have e8 : (w_1.2 != w_1.2) = false := by simp
 try rw [e8]
 refine Evr.condF rfl (Evr.skip (Evr.sr rfl (Opl.one rfl rfl (by simp only [go_sem]; rfl) (Opl.nil (Evr.sr rfl (Opl.one rfl rfl (by simp only [go_sem]; rfl) (Opl.one rfl rfl (by simp only [go_sem]; rfl) ?_)))))))
 obtain ⟨_, vw6, r6⟩ := ((oRow (oPl (cInt .i64) (oInt .i64)))).view h18
 obtain ⟨pv13, rfl, h23⟩ := r6
 have h23 : Sl (cInt .i64) w_2 pv13 := h23
 replace vw6 := vw6.2 0 _ _ rfl rfl
 refine Opl.callw (laws_heldIntS.ev h23 hf9) rfl rfl rfl (.cons vw6 (.cons (.refl _) .nil)) ⟨h23.plain, (.lit _), trivial⟩ (by decide) (Opl.one rfl rfl (by simp only [go_sem]; rfl) (Opl.nil (Evr.seq (Evr.sr rfl (Opl.one rfl rfl (by simp only [go_sem]; rfl) (Opl.one rfl rfl (by simp only [go_sem]; rfl) (Opl.nil ?_)))))))
 have e9 : (decide (m_1 < 0)) = false := decide_eq_false (by have := hf8; omega)
 try rw [e9]
 refine Evr.condF rfl (Evr.skip (Evr.seq (Evr.sr rfl (Opl.one rfl rfl (by simp only [go_sem]; rfl) (Opl.one rfl rfl (by simp only [go_sem]; rfl) (Opl.one rfl rfl (by simp only [go_sem]; rfl) (Opl.nil ?_)))))))
 have e10 : (m_1 != m_1) = false := by simp
 try rw [e10]
 refine Evr.condF rfl (Evr.skip (Evr.sr rfl (Opl.one rfl rfl (by simp only [go_sem]; rfl) (Opl.nil ?_))))
 exact Evr.ret1 Try.func3 rfl rfl
end Go.Proofs.Ytigbbefdndcmbaa.PA
