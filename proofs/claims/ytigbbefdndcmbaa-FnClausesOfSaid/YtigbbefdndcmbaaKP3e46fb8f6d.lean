/- Walks of Go functions: each is shown to answer as the Lean function beside it tells, under the conditions that its theorem names. -/
import Derived.Test.YtigbbefdndcmbaaProg
import Derived.KernelRfl
import Derived.Below
import Derived.Deep.Draws
import Derived.Deep.AppendLies
import Derived.Maps.AppendAt
import Derived.OwnWalk
import Derived.Laws.BytesArg
import Derived.Laws.MakeOwn
import Derived.Laws.OwnMore
import Derived.Deep.OwnRows
import Derived.Tactics
import Derived.Lib.ConvBytes
import Derived.Laws.Slices
import Derived.WalkKit
import Derived.RowKit3
import Derived.Deep.LoopGhost
import Derived.Deep.QuietTactic
import Derived.BigQuiet
import Derived.WideLaws
import Derived.Deep.DeepCutAuto
import Derived.Deep.CutBlock
import Derived.Deep.RegionHeld3
import Derived.Laws.Rows
import Derived.Lib.AppendStr
import Derived.ArgAppend
import Derived.Laws.IdiomCopy
import Derived.OrdersHeld
import Derived.Laws.BitsLemmas
import Derived.RowKit
import Derived.Laws.StructEq
import Derived.Lib.SliceRun
import Derived.WalkSpells
import Derived.ChangeArms
import Derived.ChangeSlices
import Derived.Deep.Slices
import Derived.Attr
import Derived.Laws.Append
import Derived.Laws.AppendOwn
import Derived.Laws.Entries
import Derived.Calls
import Derived.Laws.Sem
import Derived.Shelf.SlSortCmp.NoneTotal
import Derived.Test.YtigbbefdndcmbaaKWf5d03b3ac5
import Derived.Test.YtigbbefdndcmbaaKD179b97779f
section
namespace Go.Proofs.Ytigbbefdndcmbaa.PA
open Go Go.Abs Go.RowKit Go.Proofs Go.Proofs.YtigbbefdndcmbaaW.PrintWords Go.Proofs.YtigbbefdndcmbaaW.PrintLast Go.Proofs.YtigbbefdndcmbaaW.PrintMore
set_option maxRecDepth 100000
theorem K3 : tkAt Try.prog 3 = some (.int .i64) := by kernel_rfl
theorem Z3 : szAt Try.prog 3 = some 1 := by kernel_rfl
theorem T3 : tiOf Try.prog 3 = some ⟨(.int .i64), 1, 8, [.int .i64 0], []⟩ := by kernel_rfl
theorem K4 : tkAt Try.prog 4 = some .bool := by kernel_rfl
theorem Z4 : szAt Try.prog 4 = some 1 := by kernel_rfl
theorem T4 : tiOf Try.prog 4 = some ⟨.bool, 1, 1, [.bool false], []⟩ := by kernel_rfl
theorem K5 : tkAt Try.prog 5 = some (.int .u8) := by kernel_rfl
theorem Z5 : szAt Try.prog 5 = some 1 := by kernel_rfl
theorem T5 : tiOf Try.prog 5 = some ⟨(.int .u8), 1, 1, [.int .u8 0], []⟩ := by kernel_rfl
theorem K22 : tkAt Try.prog 22 = some (.slice 3) := by kernel_rfl
theorem Z22 : szAt Try.prog 22 = some 1 := by kernel_rfl
theorem T22 : tiOf Try.prog 22 = some ⟨(.slice 3), 1, 24, [.slice none 0 0], []⟩ := by kernel_rfl
theorem K31 : tkAt Try.prog 31 = some (.slice 89) := by kernel_rfl
theorem Z31 : szAt Try.prog 31 = some 1 := by kernel_rfl
theorem T31 : tiOf Try.prog 31 = some ⟨(.slice 89), 1, 24, [.slice none 0 0], []⟩ := by kernel_rfl
theorem K33 : tkAt Try.prog 33 = some .strct := by kernel_rfl
theorem Z33 : szAt Try.prog 33 = some 2 := by kernel_rfl
theorem T33 : tiOf Try.prog 33 = some ⟨.strct, 2, 32, [.int .i64 0, .slice none 0 0], [⟨0, 1, (.int .i64)⟩, ⟨1, 1, (.slice 89)⟩]⟩ := by kernel_rfl
theorem K35 : tkAt Try.prog 35 = some (.slice 22) := by kernel_rfl
theorem Z35 : szAt Try.prog 35 = some 1 := by kernel_rfl
theorem T35 : tiOf Try.prog 35 = some ⟨(.slice 22), 1, 24, [.slice none 0 0], []⟩ := by kernel_rfl
theorem K37 : tkAt Try.prog 37 = some .strct := by kernel_rfl
theorem Z37 : szAt Try.prog 37 = some 2 := by kernel_rfl
theorem T37 : tiOf Try.prog 37 = some ⟨.strct, 2, 32, [.int .i64 0, .slice none 0 0], [⟨0, 1, (.int .i64)⟩, ⟨1, 1, (.slice 22)⟩]⟩ := by kernel_rfl
theorem K40 : tkAt Try.prog 40 = some (.slice 69) := by kernel_rfl
theorem Z40 : szAt Try.prog 40 = some 1 := by kernel_rfl
theorem T40 : tiOf Try.prog 40 = some ⟨(.slice 69), 1, 24, [.slice none 0 0], []⟩ := by kernel_rfl
theorem K42 : tkAt Try.prog 42 = some .strct := by kernel_rfl
theorem Z42 : szAt Try.prog 42 = some 2 := by kernel_rfl
theorem T42 : tiOf Try.prog 42 = some ⟨.strct, 2, 32, [.int .i64 0, .slice none 0 0], [⟨0, 1, (.int .i64)⟩, ⟨1, 1, (.slice 69)⟩]⟩ := by kernel_rfl
theorem K49 : tkAt Try.prog 49 = some (.slice 5) := by kernel_rfl
theorem Z49 : szAt Try.prog 49 = some 1 := by kernel_rfl
theorem T49 : tiOf Try.prog 49 = some ⟨(.slice 5), 1, 24, [.slice none 0 0], []⟩ := by kernel_rfl
theorem K60 : tkAt Try.prog 60 = some .func := by kernel_rfl
theorem Z60 : szAt Try.prog 60 = some 1 := by kernel_rfl
theorem T60 : tiOf Try.prog 60 = some ⟨.func, 1, 8, [.nilFunc], []⟩ := by kernel_rfl
theorem K69 : tkAt Try.prog 69 = some .strct := by kernel_rfl
theorem Z69 : szAt Try.prog 69 = some 2 := by kernel_rfl
theorem T69 : tiOf Try.prog 69 = some ⟨.strct, 2, 16, [.int .i64 0, .int .i64 0], [⟨0, 1, (.int .i64)⟩, ⟨1, 1, (.int .i64)⟩]⟩ := by kernel_rfl
theorem K81 : tkAt Try.prog 81 = some .func := by kernel_rfl
theorem Z81 : szAt Try.prog 81 = some 1 := by kernel_rfl
theorem T81 : tiOf Try.prog 81 = some ⟨.func, 1, 8, [.nilFunc], []⟩ := by kernel_rfl
theorem K89 : tkAt Try.prog 89 = some .strct := by kernel_rfl
theorem Z89 : szAt Try.prog 89 = some 2 := by kernel_rfl
theorem T89 : tiOf Try.prog 89 = some ⟨.strct, 2, 16, [.int .i64 0, .int .i64 0], [⟨0, 1, (.int .i64)⟩, ⟨1, 1, (.int .i64)⟩]⟩ := by kernel_rfl
theorem K91 : tkAt Try.prog 91 = some (.ptr 101) := by kernel_rfl
theorem Z91 : szAt Try.prog 91 = some 1 := by kernel_rfl
theorem T91 : tiOf Try.prog 91 = some ⟨(.ptr 101), 1, 8, [.pointer none], []⟩ := by kernel_rfl
theorem K101 : tkAt Try.prog 101 = some .strct := by kernel_rfl
theorem Z101 : szAt Try.prog 101 = some 2 := by kernel_rfl
theorem T101 : tiOf Try.prog 101 = some ⟨.strct, 2, 32, [.slice none 0 0, .int .i64 0], [⟨0, 1, (.slice 5)⟩, ⟨1, 1, (.int .i64)⟩]⟩ := by kernel_rfl
def cIAnd : Cd IAnd := cIso (cPair (cInt .i64) (cInt .i64)) (fun x => (x.f0, x.f1))
theorem oIAnd : cIAnd.Ones := oIso (oPair (oInt .i64) (oInt .i64))
theorem cIAnd_R {x : IAnd} {c : List PV} (h : cIAnd.R x c) : c = [.lit (.int .i64 x.f0), .lit (.int .i64 x.f1)] := by
  obtain ⟨p0, q0, e0, g0, r0⟩ := h
  have g0' : p0 = _ := g0
  have g1' : q0 = _ := r0
  rw [e0, g0', g1']; rfl
theorem cIAnd_mk {a0 : Int} {a1 : Int}  : cIAnd.R ⟨a0, a1⟩ [.lit (.int .i64 a0), .lit (.int .i64 a1)] := ⟨_, _, rfl, rfl, rfl⟩
attribute [go_sem] K3 Z3 T3 K4 Z4 T4 K5 Z5 T5 K22 Z22 T22 K31 Z31 T31 K33 Z33 T33 K35 Z35 T35 K37 Z37 T37 K40 Z40 T40 K42 Z42 T42 K49 Z49 T49 K60 Z60 T60 K69 Z69 T69 K81 Z81 T81 K89 Z89 T89 K91 Z91 T91 K101 Z101 T101
end Go.Proofs.Ytigbbefdndcmbaa.PA
end
section
namespace Go.Proofs.Ytigbbefdndcmbaa.PA
open Go Go.Abs Go.RowKit Go.Proofs Go.Proofs.YtigbbefdndcmbaaW.PrintWords Go.Proofs.YtigbbefdndcmbaaW.PrintLast Go.Proofs.YtigbbefdndcmbaaW.PrintMore
set_option maxRecDepth 100000
set_option maxHeartbeats 4000000
set_option linter.unusedVariables false
set_option linter.unusedSimpArgs false
theorem impl_in.ev {a0 : Int} {a1 : Int} {a2 : Int} {r : Bool} (H : impl_in.f a0 a1 a2 = some r) : Ret Try.prog 34 [.lit (.int .i64 a0), .lit (.int .i64 a1), .lit (.int .i64 a2)] fun v S => v = .lit (.bool r) := by
 unfold impl_in.f at H
 refine Ret.intro Try.func34 rfl (Nat.le_of_ble_eq_true rfl) rfl ?_
 rw [tm3]
 refine Evr.sr rfl (Opl.p1 (n := Opl.nil (Evr.sr rfl (Opl.p1 (n := Opl.p1 (n := Opl.p1 (n := Opl.p1 (n := ?_))))))))
 by_cases c1 : a0 ≥ a1
 case neg =>
  rw [if_neg c1] at H
  have e2 : (decide (a0 ≥ a1)) = false := by simpa using c1
  try rw [e2]
  refine Opl.skp rfl (Opl.skp rfl (Opl.skp rfl (Opl.p1 (n := Opl.p1 (n := Opl.nil ?_)))))
  obtain rfl := Option.some.inj H
  refine Evr.ret1 Try.func34 rfl ?_
  show (.lit (.bool false) : PV) = _
  first | rfl | (simp only [go_sem]; rfl)
 rw [if_pos c1] at H
 have e1 : (decide (a0 ≥ a1)) = true := by simpa using c1
 try rw [e1]
 refine Opl.p1 (n := Opl.p1 (n := Opl.p1 (n := Opl.p1 (n := Opl.p1 (n := Opl.nil ?_)))))
 obtain rfl := Option.some.inj H
 refine Evr.ret1 Try.func34 rfl ?_
 show (.lit (.bool (decide (a0 ≤ a2))) : PV) = _
 first | rfl | (simp only [go_sem]; rfl)
theorem impl_CircuitValid.ev {k : Nat} {a0_0 : Int} {l0_1 : List IAnd} {v0_1 : PV} (hv0_1 : Sl cIAnd l0_1 v0_1) {r : Bool} (H : impl_CircuitValid.f k a0_0 l0_1 = some r) : Ret Try.prog 51 [.agg [.lit (.int .i64 a0_0), v0_1]] fun v S => v = .lit (.bool r) := by
 unfold impl_CircuitValid.f at H
 refine Ret.intro Try.func51 rfl (Nat.le_of_ble_eq_true rfl) rfl ?_
 rw [tm1]
 refine Evr.sr rfl (Opl.box (cs := [.lit (.int .i64 a0_0), v0_1]) rfl rfl rfl rfl ?_)
 rintro i1 S h1 u1 w1
 refine Opl.p1 (n := Opl.nil (Evr.seq (Evr.seq ?_)))
 refine Evr.join (fun tm S => ∃ (kq1 : Nat) (x15_1 : Bool) (i2 : Abs.Id), impl_CircuitValid.j0 kq1 x15_1 a0_0 l0_1 = some r ∧ Has tm [(1, .ptr i2 0), (15, .lit (.bool x15_1))] ∧ Box (.ptr i2 0) [.lit (.int .i64 a0_0), v0_1] S) ?_ fun hk1 => ?_
 ·
  rintro tm S ⟨kq1, x15_1, i2, H, hh, h2⟩
  rw [hh.eq]
  obtain _ | k1 := kq1
  · simp [impl_CircuitValid.j0] at H
  simp only [impl_CircuitValid.j0] at H
  by_cases c1 : x15_1 = true
  case pos =>
   rw [if_pos c1] at H
   obtain rfl : x15_1 = true := by simpa using c1
   refine Evr.condT rfl (Evr.sr rfl (Opl.p1 (n := Opl.nil ?_)))
   obtain rfl := Option.some.inj H
   refine Evr.ret1 Try.func51 rfl ?_
   show (.lit (.bool false) : PV) = _
   first | rfl | (simp only [go_sem]; rfl)
  rw [if_neg c1] at H
  obtain rfl : x15_1 = false := by simpa using c1
  refine Evr.condF rfl (Evr.skip (Evr.seq (Evr.sr rfl (Opl.p1 (v := .ptr i2 1) (n := Opl.ldb (v := v0_1) h2 rfl T40 rfl rfl rfl rfl (Opl.len (xs := l0_1) (by exact hv0_1) K40 rfl rfl rfl rfl (Opl.p1 (n := Opl.nil (Evr.block ?_)))))))))
  refine Evr.loop (Evr.rounds (n := k1) (Inv := fun n tm S => n ≤ k1 ∧ ∃ (x19_1 : Int) (i3 : Abs.Id), impl_CircuitValid.l0 n l0_1 (l0_1.length : Int) x19_1 a0_0 l0_1 = some r ∧ Has tm [(1, .ptr i3 0), (17, v0_1), (18, .lit (.int .i64 (l0_1.length : Int))), (19, .lit (.int .i64 x19_1))] ∧ Box (.ptr i3 0) [.lit (.int .i64 a0_0), v0_1] S) ?_ ?_ ?_)
  · exact ⟨Nat.le_refl _, _, _, H, ⟨rfl, rfl, rfl, rfl, trivial⟩, h2⟩
  ·
   rintro tm S ⟨_, _, _, H, -⟩
   simp [impl_CircuitValid.l0] at H
  ·
   rintro n1 ih1 tm S ⟨hle, x19_1, i3, H, hh, h3⟩
   simp only [impl_CircuitValid.l0] at H
   rw [hh.eq]
   refine Evr.sr rfl (Opl.p1 (n := Opl.nil (Evr.seq ?_)))
   by_cases c2 : x19_1 < (l0_1.length : Int)
   case neg =>
    rw [if_neg c2] at H
    have e6 : (decide (x19_1 < (l0_1.length : Int))) = false := by simpa using c2
    try rw [e6]
    refine Evr.condF rfl (Evr.exit rfl (Evr.sr rfl (Opl.p1 (n := Opl.nil ?_))))
    obtain rfl := Option.some.inj H
    refine Evr.ret1 Try.func51 rfl ?_
    show (.lit (.bool true) : PV) = _
    first | rfl | (simp only [go_sem]; rfl)
   rw [if_pos c2] at H
   have e1 : (decide (x19_1 < (l0_1.length : Int))) = true := by simpa using c2
   try rw [e1]
   refine Evr.condT rfl (Evr.skip (Evr.seq (Evr.block (Evr.sr rfl (Opl.p1 (n := ?_))))))
   obtain ⟨c3, H⟩ := peel H
   obtain ⟨c4, H⟩ := peel H
   refine Opl.idx (M := cIAnd) (xs := l0_1) (j := x19_1) zIAnd (by exact hv0_1) rfl (by omega) (by omega) K40 Z69 rfl rfl ?_
   rintro p1 q1 h4
   obtain rfl := cIAnd_R (x := (rd_IAnd l0_1 x19_1)) h4
   refine Opl.lda (.agg [.lit (.int .i64 ((rd_IAnd l0_1 x19_1).f0)), .lit (.int .i64 ((rd_IAnd l0_1 x19_1).f1))]) rfl T69 rfl rfl rfl rfl (Opl.alloc T69 rfl rfl rfl ?_)
   rintro i4 S h5 u2 w2
   have ap1 := w2.box h3
   have h6 := u2.box h3 ap1
   refine Opl.p1 (n := Opl.stb (vs := [.lit (.int .i64 ((rd_IAnd l0_1 x19_1).f0)), .lit (.int .i64 ((rd_IAnd l0_1 x19_1).f1))]) h5 rfl rfl Z69 rfl (Nat.le_of_ble_eq_true rfl) rfl rfl rfl rfl ?_)
   rintro S (h7 : Box (.ptr i4 0) [.lit (.int .i64 ((rd_IAnd l0_1 x19_1).f0)), .lit (.int .i64 ((rd_IAnd l0_1 x19_1).f1))] _) u3
   have h8 := u3.box h6 ap1
   refine Opl.nil (Evr.sr rfl (Opl.p1 (v := .ptr i3 0) (n := Opl.ldb (v := .lit (.int .i64 a0_0)) h8 rfl T3 rfl rfl rfl rfl (Opl.add (k := .i64) (a := 1) (b := a0_0) K3 rfl rfl rfl rfl (Opl.one (v := .lit (.int .i64 x19_1)) rfl rfl rfl (Opl.add (k := .i64) (a := (wrap64 (1 + a0_0))) (b := x19_1) K3 rfl rfl rfl rfl (Opl.mul (k := .i64) (a := 2) (b := (wrap64 ((wrap64 (1 + a0_0)) + x19_1))) K3 rfl rfl rfl rfl (Opl.subi (k := .i64) (a := (wrap64 (2 * (wrap64 ((wrap64 (1 + a0_0)) + x19_1))))) (b := 1) K3 rfl rfl rfl rfl (Opl.one (v := .lit (.int .i64 (wrap64 ((wrap64 (2 * (wrap64 ((wrap64 (1 + a0_0)) + x19_1)))) - 1)))) rfl rfl rfl (Opl.nil (Evr.sr rfl (Opl.p1 (v := .ptr i4 0) (n := Opl.ldb (v := .lit (.int .i64 ((rd_IAnd l0_1 x19_1).f0))) h7 rfl T3 rfl rfl rfl rfl (Opl.one (v := .lit (.int .i64 (wrap64 ((wrap64 (2 * (wrap64 ((wrap64 (1 + a0_0)) + x19_1)))) - 1)))) rfl rfl rfl ?_))))))))))))))
   obtain ⟨t407, h_t407, H⟩ := Option.bind_eq_some_iff.1 H
   refine Opl.callc (impl_in.ev h_t407) rfl rfl rfl rfl ⟨(.lit _), (.lit _), (.lit _), trivial⟩ (by decide) (Opl.p1 (n := Opl.one (v := .lit (.bool (!t407))) rfl rfl rfl ?_))
   by_cases c5 : t407 = true
   case neg =>
    rw [if_neg c5] at H
    have e5 : (!t407) = true := by simpa using c5
    try rw [e5]
    refine Opl.skp rfl (Opl.skp rfl (Opl.skp rfl (Opl.skp rfl (Opl.skp rfl (Opl.p1 (n := Opl.nil (Evr.condT rfl (Evr.sr rfl (Opl.one (v := .lit (.bool false)) rfl rfl rfl (Opl.nil ?_))))))))))
    obtain rfl := Option.some.inj H
    refine Evr.ret1 Try.func51 rfl ?_
    show (.lit (.bool false) : PV) = _
    first | rfl | (simp only [go_sem]; rfl)
   rw [if_pos c5] at H
   have e2 : (!t407) = false := by simpa using c5
   try rw [e2]
   refine Opl.p1 (v := .ptr i4 1) (n := Opl.ldb (v := .lit (.int .i64 ((rd_IAnd l0_1 x19_1).f1))) h7 rfl T3 rfl rfl rfl rfl (Opl.one (v := .lit (.int .i64 (wrap64 ((wrap64 (2 * (wrap64 ((wrap64 (1 + a0_0)) + x19_1)))) - 1)))) rfl rfl rfl ?_))
   obtain ⟨t408, h_t408, H⟩ := Option.bind_eq_some_iff.1 H
   refine Opl.callc (impl_in.ev h_t408) rfl rfl rfl rfl ⟨(.lit _), (.lit _), (.lit _), trivial⟩ (by decide) (Opl.p1 (n := Opl.p1 (n := Opl.nil ?_)))
   by_cases c6 : t408 = true
   case neg =>
    rw [if_neg c6] at H
    have e4 : (!t408) = true := by simpa using c6
    try rw [e4]
    refine Evr.condT rfl (Evr.sr rfl (Opl.one (v := .lit (.bool false)) rfl rfl rfl (Opl.nil ?_)))
    obtain rfl := Option.some.inj H
    refine Evr.ret1 Try.func51 rfl ?_
    show (.lit (.bool false) : PV) = _
    first | rfl | (simp only [go_sem]; rfl)
   rw [if_pos c6] at H
   have e3 : (!t408) = false := by simpa using c6
   try rw [e3]
   refine Evr.condF rfl (Evr.skip (Evr.inBlock (Evr.regionN rfl (Opl.add (k := .i64) (a := x19_1) (b := 1) K3 rfl rfl rfl rfl (Opl.one (v := .lit (.int .i64 (wrap64 (x19_1 + 1)))) rfl rfl rfl (Opl.nil ?_))))))
   exact ih1 _ (by omega) _ _ ⟨by omega, _, _, H, ⟨rfl, rfl, rfl, rfl, trivial⟩, h8⟩
 ·
  refine Evr.regionN rfl (Opl.p1 (v := .ptr i1 0) (n := Opl.ldb (v := .lit (.int .i64 a0_0)) h1 rfl T3 rfl rfl rfl rfl ?_))
  obtain ⟨t404, h_t404, H⟩ := Option.bind_eq_some_iff.1 H
  refine Opl.callc (impl_in.ev h_t404) rfl rfl rfl rfl ⟨(.lit _), (.lit _), (.lit _), trivial⟩ (by decide) (Opl.p1 (n := Opl.p1 (n := ?_)))
  by_cases c7 : t404 = true
  case neg =>
   rw [if_neg c7] at H
   have e8 : (!t404) = true := by simpa using c7
   try rw [e8]
   refine Opl.skp rfl (Opl.skp rfl (Opl.skp rfl (Opl.skp rfl (Opl.p1 (n := Opl.nil ?_)))))
   exact hk1 _ _ ⟨_, _, _, H, ⟨rfl, (by first | rfl | (show PV.lit (.bool _) = _; congr 2; simp_all)), trivial⟩, h1⟩
  rw [if_pos c7] at H
  have e7 : (!t404) = false := by simpa using c7
  try rw [e7]
  refine Opl.p1 (v := .ptr i1 1) (n := Opl.ldb (v := v0_1) h1 rfl T40 rfl rfl rfl rfl (Opl.len (xs := l0_1) (by exact hv0_1) K40 rfl rfl rfl rfl (Opl.p1 (n := Opl.p1 (n := Opl.nil ?_)))))
  exact hk1 _ _ ⟨_, _, _, H, ⟨rfl, (by first | rfl | (show PV.lit (.bool _) = _; congr 2; simp_all)), trivial⟩, h1⟩
theorem impl_Circuit_isEdge.ev {a0_0 : Int} {l0_1 : List IAnd} {v0_1 : PV} (hv0_1 : Sl cIAnd l0_1 v0_1) {a1 : Int} {r : Bool} (H : impl_Circuit_isEdge.f a0_0 l0_1 a1 = some r) : Ret Try.prog 52 [.agg [.lit (.int .i64 a0_0), v0_1], .lit (.int .i64 a1)] fun v S => v = .lit (.bool r) := by
 unfold impl_Circuit_isEdge.f at H
 refine Ret.intro Try.func52 rfl (Nat.le_of_ble_eq_true rfl) rfl ?_
 rw [tm2]
 refine Evr.sr rfl (Opl.box (cs := [.lit (.int .i64 a0_0), v0_1]) rfl rfl rfl rfl ?_)
 rintro i1 S h1 u1 w1
 refine Opl.p1 (n := Opl.nil (Evr.sr rfl (Opl.p1 (n := Opl.p1 (v := .ptr i1 0) (n := Opl.ldb (v := .lit (.int .i64 a0_0)) h1 rfl T3 rfl rfl rfl rfl (Opl.add (k := .i64) (a := 1) (b := a0_0) K3 rfl rfl rfl rfl (Opl.p1 (v := .ptr i1 1) (n := Opl.ldb (v := v0_1) h1 rfl T40 rfl rfl rfl rfl (Opl.len (xs := l0_1) (by exact hv0_1) K40 rfl rfl rfl rfl (Opl.add (k := .i64) (a := (wrap64 (1 + a0_0))) (b := (l0_1.length : Int)) K3 rfl rfl rfl rfl (Opl.mul (k := .i64) (a := 2) (b := (wrap64 ((wrap64 (1 + a0_0)) + (l0_1.length : Int)))) K3 rfl rfl rfl rfl (Opl.subi (k := .i64) (a := (wrap64 (2 * (wrap64 ((wrap64 (1 + a0_0)) + (l0_1.length : Int)))))) (b := 1) K3 rfl rfl rfl rfl ?_))))))))))))
 obtain ⟨t410, h_t410, H⟩ := Option.bind_eq_some_iff.1 H
 refine Opl.callc (impl_in.ev h_t410) rfl rfl rfl rfl ⟨(.lit _), (.lit _), (.lit _), trivial⟩ (by decide) (Opl.one (v := .lit (.bool t410)) rfl rfl rfl (Opl.nil ?_))
 obtain rfl := Option.some.inj H
 refine Evr.ret1 Try.func52 rfl ?_
 show (.lit (.bool t410) : PV) = _
 first | rfl | (simp only [go_sem]; rfl)
theorem impl_clone_Lint.ev {l0 : List (List Int)} {v0 : PV} (hv0 : Sl (cSl (cInt .i64)) l0 v0) {r : List (List Int)} (H : impl_clone_Lint.f l0 = some r) : Ret Try.prog 56 [v0] fun v S => Vec (cSl (cInt .i64)) r v S := by
 unfold impl_clone_Lint.f at H
 refine Ret.intro Try.func56 rfl (Nat.le_of_ble_eq_true rfl) rfl ?_
 rw [tm1]
 obtain ⟨c1, H⟩ := peel H
 obtain rfl := Option.some.inj H
 refine Evr.seq (Evr.regionN rfl (Opl.p1 (n := Opl.nil (Evr.seq (Evr.seq (Evr.regionN rfl (Opl.p1 (n := Opl.len (by exact hv0) K35 rfl rfl rfl rfl (Opl.p1 (n := Opl.nil ?_))))))))))
 by_cases c2 : (l0.length : Int) = 0
 · have e1 : ((l0.length : Int) == 0) = true := by simpa using c2
   try rw [e1]
   refine Evr.condT rfl (Evr.seq (Evr.regionN rfl (Opl.p1 (n := Opl.nil ?_))))
   obtain rfl : l0 = [] := List.eq_nil_of_length_eq_zero (by omega)
   refine Evr.ret1 Try.func56 rfl ?_
   exact .nil
 · have e1 : ((l0.length : Int) == 0) = false := by simpa using c2
   try rw [e1]
   refine Evr.condF rfl (Evr.skip (Evr.seq (Evr.regionN rfl (Opl.p1 (n := Opl.len (by exact hv0) K35 rfl rfl rfl rfl ?_)))))
   refine Opl.make (M := (cSl (cInt .i64))) (m := (l0.length : Int)) ([] : List Int) (by exact ⟨_, rfl, .nil⟩) rfl rfl K35 T22 rfl (by omega) (by show (_ : Nat) * 24 ≤ 281474976710656; omega) (by omega) rfl rfl rfl ?_
   rintro pv1 S h1 u1 w1
   refine Opl.p1 (n := Opl.nil (Evr.seq (Evr.regionN rfl (Opl.p1 (n := Opl.p1 (n := ?_))))))
   refine Opl.copy (M := (cSl (cInt .i64))) (ys := l0) h1 (by exact hv0) (oSl (cInt .i64)) rfl (by simp) (by simp; omega) K35 Z22 rfl rfl rfl rfl rfl ?_
   rintro S h2 u2
   refine Opl.nil (Evr.seq (Evr.regionN rfl (Opl.p1 (n := Opl.p1 (n := Opl.nil ?_)))))
   refine Evr.ret1 Try.func56 rfl ?_
   exact h2
theorem impl_clone_int.ev {l0 : List Int} {v0 : PV} (hv0 : Sl (cInt .i64) l0 v0) {r : List Int} (H : impl_clone_int.f l0 = some r) : Ret Try.prog 64 [v0] fun v S => Vec (cInt .i64) r v S := by
 unfold impl_clone_int.f at H
 refine Ret.intro Try.func64 rfl (Nat.le_of_ble_eq_true rfl) rfl ?_
 rw [tm1]
 obtain ⟨c1, H⟩ := peel H
 obtain rfl := Option.some.inj H
 refine Evr.seq (Evr.regionN rfl (Opl.p1 (n := Opl.nil (Evr.seq (Evr.seq (Evr.regionN rfl (Opl.p1 (n := Opl.len (by exact hv0) K22 rfl rfl rfl rfl (Opl.p1 (n := Opl.nil ?_))))))))))
 by_cases c2 : (l0.length : Int) = 0
 · have e1 : ((l0.length : Int) == 0) = true := by simpa using c2
   try rw [e1]
   refine Evr.condT rfl (Evr.seq (Evr.regionN rfl (Opl.p1 (n := Opl.nil ?_))))
   obtain rfl : l0 = [] := List.eq_nil_of_length_eq_zero (by omega)
   refine Evr.ret1 Try.func64 rfl ?_
   exact .nil
 · have e1 : ((l0.length : Int) == 0) = false := by simpa using c2
   try rw [e1]
   refine Evr.condF rfl (Evr.skip (Evr.seq (Evr.regionN rfl (Opl.p1 (n := Opl.len (by exact hv0) K22 rfl rfl rfl rfl ?_)))))
   refine Opl.make (M := (cInt .i64)) (m := (l0.length : Int)) (0 : Int) (by exact rfl) rfl rfl K22 T3 rfl (by omega) (by show (_ : Nat) * 8 ≤ 281474976710656; omega) (by omega) rfl rfl rfl ?_
   rintro pv1 S h1 u1 w1
   refine Opl.p1 (n := Opl.nil (Evr.seq (Evr.regionN rfl (Opl.p1 (n := Opl.p1 (n := ?_))))))
   refine Opl.copy (M := (cInt .i64)) (ys := l0) h1 (by exact hv0) (oInt .i64) rfl (by simp) (by simp; omega) K22 Z3 rfl rfl rfl rfl rfl ?_
   rintro S h2 u2
   refine Opl.nil (Evr.seq (Evr.regionN rfl (Opl.p1 (n := Opl.p1 (n := Opl.nil ?_)))))
   refine Evr.ret1 Try.func64 rfl ?_
   exact h2
theorem slices_Clone_int_int.ev {l0 : List Int} {v0 : PV} (hv0 : Sl (cInt .i64) l0 v0) {r : List Int} (H : slices_Clone_int_int.f l0 = some r) : Ret Try.prog 72 [v0] fun v S => Vec (cInt .i64) r v S := by
 unfold slices_Clone_int_int.f at H
 obtain ⟨c1, H⟩ := peel H
 obtain rfl := Option.some.inj H
 refine Ret.intro Try.func72 rfl (Nat.le_of_ble_eq_true rfl) rfl ?_
 rw [tm1]
 refine Evr.seq (Evr.regionN rfl (Opl.p1 (n := Opl.nil (Evr.seq (Evr.seq (Evr.regionN rfl (Opl.p1 (n := ?_))))))))
 obtain ⟨rfl, rfl⟩ | ⟨cs, rfl, hr⟩ := hv0
 · refine Opl.eqnil rfl K22 rfl rfl (Opl.nil (Evr.condT rfl (Evr.seq (Evr.regionN rfl (Opl.p1 (n := Opl.nil ?_))))))
   refine Evr.ret1 Try.func72 rfl ?_
   exact .nil
 · refine Opl.eqsl rfl K22 rfl rfl (Opl.nil (Evr.condF rfl (Evr.skip (Evr.seq (Evr.regionN rfl (Opl.lits (M := (cInt .i64)) (ys := []) [] K22 T3 rfl rfl rfl trivial rfl (by decide) rfl rfl rfl ?_))))))
   rintro pv1 S h1 u1 w1
   have hv0 : Sl (cInt .i64) l0 (.sl cs l0.length) := .inr ⟨cs, rfl, hr⟩
   refine Opl.p1 (n := Opl.app (M := (cInt .i64)) (xs := ([] : List Int)) (ys := l0) (v := pv1) h1 (.sl hv0) (oInt .i64) rfl rfl K22 T3 rfl rfl (by (try simp only [List.length_cons, List.length_nil]); omega) (by show (_ + _) * 8 ≤ 140737488355328; (try simp only [List.length_cons, List.length_nil]); omega) rfl rfl rfl rfl rfl ?_)
   rintro pv2 S h2 u2 w2
   refine Opl.p1 (n := Opl.nil ?_)
   refine Evr.ret1 Try.func72 rfl ?_
   rw [List.nil_append] at h2
   exact h2
theorem slices_Compact_int_int.evb {k : Nat} {S0 : Sto} {l0 : List Int} {v0 : PV} (hv0 : Vec (cInt .i64) l0 v0 S0) {r : List Int} (H : slices_Compact_int_int.f k l0 = some r) : RetS Try.prog 78 [v0] S0 fun v S => Vec (cInt .i64) r v S ∧ (∀ j, v.id? = some j → v0.id? = some j) ∧ Same S0 S (PV.id? v0).toList := by
 have hs0 : Same S0 S0 (PV.id? v0).toList := .refl _ _
 unfold slices_Compact_int_int.f at H
 refine RetS.intro Try.func78 rfl (Nat.le_of_ble_eq_true rfl) rfl ?_
 rw [tm1]
 refine Evr.sr rfl (Opl.p1 (n := Opl.nil (Evr.seq (Evr.sr rfl (Opl.p1 (n := Opl.lenv (xs := l0) (by exact hv0) K22 rfl rfl rfl rfl (Opl.p1 (n := Opl.nil ?_))))))))
 by_cases c1 : (l0.length : Int) < 2
 case pos =>
  rw [if_pos c1] at H
  have e1 : (decide ((l0.length : Int) < 2)) = true := by simpa using c1
  try rw [e1]
  refine Evr.condT rfl (Evr.sr rfl (Opl.p1 (n := Opl.p1 (n := Opl.nil ?_))))
  obtain rfl := Option.some.inj H
  refine Evr.ret1 Try.func78 rfl ?_
  exact ⟨hv0, fun _ h => h, hs0⟩
 rw [if_neg c1] at H
 have e2 : (decide ((l0.length : Int) < 2)) = false := by simpa using c1
 try rw [e2]
 refine Evr.condF rfl (Evr.skip (Evr.seq (Evr.sr rfl (Opl.p1 (n := Opl.nil (Evr.block ?_))))))
 refine Evr.loop (Evr.rounds (n := k) (Inv := fun n tm S => n ≤ k ∧ ∃ (x3q3_1 : Int), slices_Compact_int_int.l1 n x3q3_1 l0 = some r ∧ Has tm [(0, v0), (3, .lit (.int .i64 x3q3_1))] ∧ Vec (cInt .i64) l0 v0 S ∧ Same S0 S (PV.id? v0).toList) ?_ ?_ ?_)
 · exact ⟨Nat.le_refl _, _, H, ⟨rfl, rfl, trivial⟩, hv0, hs0⟩
 ·
  rintro tm S ⟨_, _, H, -⟩
  simp [slices_Compact_int_int.l1] at H
 ·
  rintro n1 ih1 tm S ⟨hle, x3q3_1, H, hh, h1, h2⟩
  simp only [slices_Compact_int_int.l1] at H
  rw [hh.eq]
  refine Evr.seq (Evr.sr rfl (Opl.p1 (n := Opl.p1 (n := Opl.lenv (xs := l0) (by exact h1) K22 rfl rfl rfl rfl (Opl.p1 (n := Opl.nil ?_))))))
  by_cases c2 : x3q3_1 < (l0.length : Int)
  case neg =>
   rw [if_neg c2] at H
   have e10 : (decide (x3q3_1 < (l0.length : Int))) = false := by simpa using c2
   try rw [e10]
   refine Evr.condF rfl (Evr.exit rfl (Evr.sr rfl (Opl.p1 (n := Opl.p1 (n := Opl.nil ?_)))))
   obtain rfl := Option.some.inj H
   refine Evr.ret1 Try.func78 rfl ?_
   exact ⟨h1, fun _ h => h, h2⟩
  rw [if_pos c2] at H
  have e3 : (decide (x3q3_1 < (l0.length : Int))) = true := by simpa using c2
  try rw [e3]
  refine Evr.condT rfl (Evr.skip (Evr.seq (Evr.block (Evr.seq (Evr.regionD rfl (by kernel_rfl) (Opl.p1 (n := Opl.p1 (n := ?_))))))))
  obtain ⟨c3, H⟩ := peel H
  obtain ⟨c4, H⟩ := peel H
  obtain ⟨c5, H⟩ := peel H
  obtain ⟨c6, H⟩ := peel H
  refine Opl.idv (M := (cInt .i64)) (xs := l0) (j := x3q3_1) (v := v0) h1 rfl rfl (by omega) (by omega) K22 Z3 rfl rfl ?_
  rintro d1 z1 q1 h3 h4
  refine Opl.ldv (M := (cInt .i64)) (xs := l0) (j := x3q3_1) (0 : Int) h3 h4 (by omega) (by omega) rfl T3 rfl rfl rfl ?_
  rintro p1 q2 h5
  obtain rfl : p1 = [.lit (.int .i64 (rd l0 x3q3_1))] := h5
  refine ⟨.lit (.int .i64 (rd l0 x3q3_1)), rfl, ?_⟩
  refine Opl.p1 (n := Opl.p1 (n := Opl.subi (k := .i64) (a := x3q3_1) (b := 1) K3 rfl rfl rfl rfl (Opl.idv (M := (cInt .i64)) (xs := l0) (j := (wrap64 (x3q3_1 - 1))) (v := v0) h1 rfl rfl (by omega) (by omega) K22 Z3 rfl rfl ?_)))
  rintro d2 z2 q3 h6 h7
  refine Opl.ldv (M := (cInt .i64)) (xs := l0) (j := (wrap64 (x3q3_1 - 1))) (0 : Int) h6 h7 (by omega) (by omega) rfl T3 rfl rfl rfl ?_
  rintro p2 q4 h8
  obtain rfl : p2 = [.lit (.int .i64 (rd l0 (wrap64 (x3q3_1 - 1))))] := h8
  refine ⟨.lit (.int .i64 (rd l0 (wrap64 (x3q3_1 - 1)))), rfl, ?_⟩
  refine Opl.eql (a := (rd l0 x3q3_1)) (b := (rd l0 (wrap64 (x3q3_1 - 1)))) K3 rfl rfl rfl rfl (Opl.nil ?_)
  by_cases c7 : (rd l0 x3q3_1) = (rd l0 (wrap64 (x3q3_1 - 1)))
  case neg =>
   rw [if_neg c7] at H
   have e9 : ((rd l0 x3q3_1) == (rd l0 (wrap64 (x3q3_1 - 1)))) = false := by simpa using c7
   try rw [e9]
   refine Evr.condF rfl (Evr.skip (Evr.inBlock (Evr.regionN rfl (Opl.one (v := .lit (.int .i64 x3q3_1)) rfl rfl rfl (Opl.add (k := .i64) (a := x3q3_1) (b := 1) K3 rfl rfl rfl rfl (Opl.one (v := .lit (.int .i64 (wrap64 (x3q3_1 + 1)))) rfl rfl rfl (Opl.nil ?_)))))))
   exact ih1 _ (by omega) _ _ ⟨by omega, _, H, ⟨rfl, rfl, trivial⟩, h1, h2⟩
  rw [if_pos c7] at H
  have e4 : ((rd l0 x3q3_1) == (rd l0 (wrap64 (x3q3_1 - 1)))) = true := by simpa using c7
  try rw [e4]
  refine Evr.condT rfl (Evr.sr rfl (Opl.one (v := v0) rfl rfl rfl (Opl.one (v := .lit (.int .i64 x3q3_1)) rfl rfl rfl ?_)))
  obtain ⟨c8, H⟩ := peel H
  obtain ⟨c9, H⟩ := peel H
  obtain ⟨c10, H⟩ := peel H
  refine Opl.slcW (M := (cInt .i64)) (a := x3q3_1) h1 rfl rfl (by omega) (by omega) (by omega) K22 Z3 rfl rfl rfl ?_
  rintro w1 h9
  refine Opl.p1 (n := Opl.nil (Evr.seq (Evr.sr rfl (Opl.one (v := .lit (.int .i64 1)) rfl rfl rfl (Opl.nil (Evr.block ?_))))))
  refine Evr.loop (Evr.rounds (n := n1) (Inv := fun n tm S => n ≤ n1 ∧ ∃ (x0q4_1 : List Int) (x3q5_1 : Int) (x5q4_1 : Int), slices_Compact_int_int.l2 n x0q4_1 x3q5_1 x5q4_1 x3q3_1 = some r ∧ Has tm [(0, v0), (3, .lit (.int .i64 x3q5_1)), (4, w1), (5, .lit (.int .i64 x5q4_1))] ∧ Vec (cInt .i64) x0q4_1 v0 S ∧ Same S0 S (PV.id? v0).toList) ?_ ?_ ?_)
  · exact ⟨Nat.le_refl _, _, _, _, H, ⟨rfl, rfl, rfl, rfl, trivial⟩, h1, h2⟩
  ·
   rintro tm S ⟨_, _, _, _, H, -⟩
   simp [slices_Compact_int_int.l2] at H
  ·
   rintro n2 ih2 tm S ⟨hle, x0q4_1, x3q5_1, x5q4_1, H, hh, h10, h11⟩
   simp only [slices_Compact_int_int.l2] at H
   rw [hh.eq]
   refine Evr.seq (Evr.sr rfl (Opl.p1 (n := Opl.p1 (n := Opl.lenw (M := (cInt .i64)) (xs := x0q4_1) (a := (x3q3_1 : Int).toNat) h10 h9 rfl K22 rfl rfl rfl rfl (Opl.p1 (n := Opl.nil ?_))))))
   by_cases c11 : x5q4_1 < ((x0q4_1.length - (x3q3_1 : Int).toNat : Nat) : Int)
   case neg =>
    rw [if_neg c11] at H
    have e8 : (decide (x5q4_1 < ((x0q4_1.length - (x3q3_1 : Int).toNat : Nat) : Int))) = false := by simpa using c11
    try rw [e8]
    refine Evr.condF rfl (Evr.exit rfl (Evr.sr rfl (Opl.p1 (n := Opl.p1 (n := ?_)))))
    obtain ⟨c21, H⟩ := peel H
    obtain ⟨c22, H⟩ := peel H
    obtain ⟨c23, H⟩ := peel H
    obtain ⟨c24, H⟩ := peel H
    obtain ⟨c25, H⟩ := peel H
    obtain ⟨c26, H⟩ := peel H
    refine Opl.slcW (M := (cInt .i64)) (a := x3q5_1) h10 rfl rfl (by omega) (by omega) (by omega) K22 Z3 rfl rfl rfl ?_
    rintro w2 h27
    refine Opl.clearw (M := (cInt .i64)) (xs := x0q4_1) (a := x3q5_1) (0 : Int) h10 h27 (by exact rfl) (oInt .i64) rfl K22 T3 rfl rfl rfl rfl rfl ?_
    rintro S h28 u2
    have h29 := u2.sameP h11 OutT.self
    refine Opl.nil (Evr.sr rfl (Opl.p1 (n := Opl.p1 (n := Opl.slcP (M := (cInt .i64)) (b := x3q5_1) h28 rfl rfl (by omega) (by omega) (by omega) K22 Z3 rfl rfl rfl ?_))))
    rintro w3 h30
    refine Opl.p1 (n := Opl.nil ?_)
    refine Evr.cut (M := (cInt .i64)) (xs := (x0q4_1.take (x3q5_1 : Int).toNat ++ List.replicate (x0q4_1.length - (x3q5_1 : Int).toNat) (0 : Int))) h30 h28 fun S h31 u3 b1 => ?_
    have h32 := u3.sameP h29 OutT.self
    obtain rfl := Option.some.inj H
    refine Evr.ret1 Try.func78 rfl ?_
    exact ⟨h31, b1, h32⟩
   rw [if_pos c11] at H
   have e5 : (decide (x5q4_1 < ((x0q4_1.length - (x3q3_1 : Int).toNat : Nat) : Int))) = true := by simpa using c11
   try rw [e5]
   refine Evr.condT rfl (Evr.skip (Evr.seq (Evr.block (Evr.seq (Evr.regionD rfl (by kernel_rfl) (Opl.p1 (n := Opl.p1 (n := ?_))))))))
   obtain ⟨c12, H⟩ := peel H
   obtain ⟨c13, H⟩ := peel H
   obtain ⟨c14, H⟩ := peel H
   obtain ⟨c15, H⟩ := peel H
   refine Opl.idw (M := (cInt .i64)) (xs := x0q4_1) (a := x3q3_1) (j := x5q4_1) (v := v0) h10 h9 (by omega) rfl rfl (by omega) (by omega) K22 Z3 rfl rfl ?_
   rintro d3 z3 q5 h12 h13
   refine Opl.ldv (M := (cInt .i64)) (xs := x0q4_1) (j := x3q3_1 + x5q4_1) (0 : Int) h12 h13 (by omega) (by omega) rfl T3 rfl rfl rfl ?_
   rintro p3 q6 h14
   obtain rfl : p3 = [.lit (.int .i64 (rd x0q4_1 (x3q3_1 + x5q4_1)))] := h14
   refine ⟨.lit (.int .i64 (rd x0q4_1 (x3q3_1 + x5q4_1))), rfl, ?_⟩
   refine Opl.p1 (n := Opl.p1 (n := Opl.subi (k := .i64) (a := x5q4_1) (b := 1) K3 rfl rfl rfl rfl (Opl.idw (M := (cInt .i64)) (xs := x0q4_1) (a := x3q3_1) (j := (wrap64 (x5q4_1 - 1))) (v := v0) h10 h9 (by omega) rfl rfl (by omega) (by omega) K22 Z3 rfl rfl ?_)))
   rintro d4 z4 q7 h15 h16
   refine Opl.ldv (M := (cInt .i64)) (xs := x0q4_1) (j := x3q3_1 + (wrap64 (x5q4_1 - 1))) (0 : Int) h15 h16 (by omega) (by omega) rfl T3 rfl rfl rfl ?_
   rintro p4 q8 h17
   obtain rfl : p4 = [.lit (.int .i64 (rd x0q4_1 (x3q3_1 + (wrap64 (x5q4_1 - 1)))))] := h17
   refine ⟨.lit (.int .i64 (rd x0q4_1 (x3q3_1 + (wrap64 (x5q4_1 - 1))))), rfl, ?_⟩
   refine Opl.neq (a := (rd x0q4_1 (x3q3_1 + x5q4_1))) (b := (rd x0q4_1 (x3q3_1 + (wrap64 (x5q4_1 - 1))))) K3 rfl rfl rfl rfl (Opl.nil ?_)
   refine Evr.join (fun tm S => ∃ (kq1 : Nat) (x0q4_2 : List Int) (x3q5_2 : Int), slices_Compact_int_int.l2 kq1 x0q4_2 x3q5_2 (wrap64 (x5q4_1 + 1)) x3q3_1 = some r ∧ kq1 ≤ n2 ∧ Has tm [(0, v0), (3, .lit (.int .i64 x3q5_2)), (4, w1), (5, .lit (.int .i64 x5q4_1))] ∧ Vec (cInt .i64) x0q4_2 v0 S ∧ Same S0 S (PV.id? v0).toList) ?_ fun hk1 => ?_
   ·
    rintro tm S ⟨kq1, x0q4_2, x3q5_2, H, hle, hh, h18, h19⟩
    rw [hh.eq]
    refine Evr.inBlock (Evr.regionN rfl (Opl.p1 (n := Opl.add (k := .i64) (a := x5q4_1) (b := 1) K3 rfl rfl rfl rfl (Opl.one (v := .lit (.int .i64 (wrap64 (x5q4_1 + 1)))) rfl rfl rfl (Opl.nil ?_)))))
    exact ih2 _ (by omega) _ _ ⟨by omega, _, _, _, H, ⟨rfl, rfl, rfl, rfl, trivial⟩, h18, h19⟩
   ·
    by_cases c16 : (rd x0q4_1 (x3q3_1 + x5q4_1)) ≠ (rd x0q4_1 (x3q3_1 + (wrap64 (x5q4_1 - 1))))
    case neg =>
     rw [if_neg c16] at H
     have e7 : ((rd x0q4_1 (x3q3_1 + x5q4_1)) != (rd x0q4_1 (x3q3_1 + (wrap64 (x5q4_1 - 1))))) = false := by simpa using c16
     try rw [e7]
     refine Evr.condF rfl (Evr.skip ?_)
     exact hk1 _ _ ⟨_, _, _, H, by omega, ⟨rfl, rfl, rfl, rfl, trivial⟩, h10, h11⟩
    rw [if_pos c16] at H
    have e6 : ((rd x0q4_1 (x3q3_1 + x5q4_1)) != (rd x0q4_1 (x3q3_1 + (wrap64 (x5q4_1 - 1))))) = true := by simpa using c16
    try rw [e6]
    refine Evr.condT rfl (Evr.sr rfl (Opl.one (v := v0) rfl rfl rfl (Opl.one (v := .lit (.int .i64 x3q5_1)) rfl rfl rfl (Opl.p1 (n := Opl.one (v := .lit (.int .i64 x5q4_1)) rfl rfl rfl ?_)))))
    obtain ⟨c17, H⟩ := peel H
    obtain ⟨c18, H⟩ := peel H
    obtain ⟨c19, H⟩ := peel H
    obtain ⟨c20, H⟩ := peel H
    refine Opl.idw (M := (cInt .i64)) (xs := x0q4_1) (a := x3q3_1) (j := x5q4_1) (v := v0) h10 h9 (by omega) rfl rfl (by omega) (by omega) K22 Z3 rfl rfl ?_
    rintro d5 z5 q9 h20 h21
    refine Opl.ldv (M := (cInt .i64)) (xs := x0q4_1) (j := x3q3_1 + x5q4_1) (0 : Int) h20 h21 (by omega) (by omega) rfl T3 rfl rfl rfl ?_
    rintro p5 q10 h22
    obtain rfl : p5 = [.lit (.int .i64 (rd x0q4_1 (x3q3_1 + x5q4_1)))] := h22
    refine ⟨.lit (.int .i64 (rd x0q4_1 (x3q3_1 + x5q4_1))), rfl, ?_⟩
    refine Opl.idv (M := (cInt .i64)) (xs := x0q4_1) (j := x3q5_1) (v := v0) h10 rfl rfl (by omega) (by omega) K22 Z3 rfl rfl ?_
    rintro d6 z6 q11 h23 h24
    refine Opl.stv (M := (cInt .i64)) (xs := x0q4_1) (j := x3q5_1) (y := (rd x0q4_1 (x3q3_1 + x5q4_1))) (vs := [.lit (.int .i64 (rd x0q4_1 (x3q3_1 + x5q4_1)))]) h23 h24 (by omega) (by omega) rfl rfl (by exact rfl) Z3 rfl rfl rfl rfl ?_
    rw [← q11]
    rintro S h25 u1
    have h26 := u1.sameP h11 OutT.self
    refine Opl.nil (Evr.regionN rfl (Opl.one (v := .lit (.int .i64 x3q5_1)) rfl rfl rfl (Opl.add (k := .i64) (a := x3q5_1) (b := 1) K3 rfl rfl rfl rfl (Opl.one (v := .lit (.int .i64 (wrap64 (x3q5_1 + 1)))) rfl rfl rfl (Opl.nil ?_)))))
    exact hk1 _ _ ⟨_, _, _, H, by omega, ⟨rfl, rfl, rfl, rfl, trivial⟩, h25, h26⟩
theorem cmp_isNaN_int.ev {a0 : Int} {r : Bool} (H : cmp_isNaN_int.f a0 = some r) : Ret Try.prog 94 [.lit (.int .i64 a0)] fun v S => v = .lit (.bool r) := by
 unfold cmp_isNaN_int.f at H
 refine Ret.intro Try.func94 rfl (Nat.le_of_ble_eq_true rfl) rfl ?_
 rw [tm1]
 refine Evr.sr rfl (Opl.p1 (n := Opl.nil (Evr.sr rfl (Opl.p1 (n := Opl.p1 (n := Opl.p1 (n := Opl.p1 (n := Opl.nil ?_))))))))
 obtain rfl := Option.some.inj H
 refine Evr.ret1 Try.func94 rfl ?_
 show (.lit (.bool (a0 != a0)) : PV) = _
 first | rfl | (simp only [go_sem]; rfl)
theorem cmp_Compare_int.ev {k : Nat} {a0 : Int} {a1 : Int} {r : Int} (H : cmp_Compare_int.f k a0 a1 = some r) : Ret Try.prog 76 [.lit (.int .i64 a0), .lit (.int .i64 a1)] fun v S => v = .lit (.int .i64 r) := by
 unfold cmp_Compare_int.f at H
 refine Ret.intro Try.func76 rfl (Nat.le_of_ble_eq_true rfl) rfl ?_
 rw [tm2]
 refine Evr.sr rfl (Opl.p1 (n := Opl.nil (Evr.sr rfl (Opl.p1 (n := ?_)))))
 obtain ⟨r1, h_r1, H'⟩ := Option.bind_eq_some_iff.1 H; clear H; have H := H'; clear H'
 refine Opl.callc (cmp_isNaN_int.ev h_r1) rfl rfl rfl rfl ⟨(.lit _), trivial⟩ (by decide) (Opl.p1 (n := Opl.nil (Evr.sr rfl (Opl.p1 (n := ?_)))))
 obtain ⟨r2, h_r2, H'⟩ := Option.bind_eq_some_iff.1 H; clear H; have H := H'; clear H'
 refine Opl.callc (cmp_isNaN_int.ev h_r2) rfl rfl rfl rfl ⟨(.lit _), trivial⟩ (by decide) (Opl.p1 (n := Opl.nil (Evr.seq (Evr.sr rfl (Opl.p1 (n := Opl.nil ?_))))))
 by_cases c1 : r1 = true
 case pos =>
  rw [if_pos c1] at H
  obtain rfl : r1 = true := by simpa using c1
  refine Evr.condT rfl (Evr.seq (Evr.sr rfl (Opl.p1 (n := Opl.nil ?_))))
  by_cases c2 : r2 = true
  case pos =>
   rw [if_pos c2] at H
   obtain rfl : r2 = true := by simpa using c2
   refine Evr.condT rfl (Evr.sr rfl (Opl.p1 (n := Opl.nil ?_)))
   obtain rfl := Option.some.inj H
   refine Evr.ret1 Try.func76 rfl ?_
   show (.lit (.int .i64 0) : PV) = _
   first | rfl | (simp only [go_sem]; rfl)
  rw [if_neg c2] at H
  obtain rfl : r2 = false := by simpa using c2
  refine Evr.condF rfl (Evr.skip (Evr.sr rfl (Opl.p1 (n := Opl.nil ?_))))
  obtain rfl := Option.some.inj H
  refine Evr.ret1 Try.func76 rfl ?_
  show (.lit (.int .i64 (-1)) : PV) = _
  first | rfl | (simp only [go_sem]; rfl)
 rw [if_neg c1] at H
 obtain rfl : r1 = false := by simpa using c1
 refine Evr.condF rfl (Evr.skip (Evr.seq (Evr.sr rfl (Opl.p1 (n := Opl.nil ?_)))))
 by_cases c3 : r2 = true
 case pos =>
  rw [if_pos c3] at H
  obtain rfl : r2 = true := by simpa using c3
  refine Evr.condT rfl (Evr.sr rfl (Opl.p1 (n := Opl.nil ?_)))
  obtain rfl := Option.some.inj H
  refine Evr.ret1 Try.func76 rfl ?_
  show (.lit (.int .i64 1) : PV) = _
  first | rfl | (simp only [go_sem]; rfl)
 rw [if_neg c3] at H
 obtain rfl : r2 = false := by simpa using c3
 refine Evr.condF rfl (Evr.skip (Evr.seq (Evr.sr rfl (Opl.p1 (n := Opl.p1 (n := Opl.p1 (n := Opl.nil ?_)))))))
 by_cases c4 : a0 < a1
 case pos =>
  rw [if_pos c4] at H
  have e1 : (decide (a0 < a1)) = true := by simpa using c4
  try rw [e1]
  refine Evr.condT rfl (Evr.sr rfl (Opl.p1 (n := Opl.nil ?_)))
  obtain rfl := Option.some.inj H
  refine Evr.ret1 Try.func76 rfl ?_
  show (.lit (.int .i64 (-1)) : PV) = _
  first | rfl | (simp only [go_sem]; rfl)
 rw [if_neg c4] at H
 have e2 : (decide (a0 < a1)) = false := by simpa using c4
 try rw [e2]
 refine Evr.condF rfl (Evr.skip (Evr.seq (Evr.sr rfl (Opl.p1 (n := Opl.p1 (n := Opl.p1 (n := Opl.nil ?_)))))))
 by_cases c5 : a0 > a1
 case pos =>
  rw [if_pos c5] at H
  have e3 : (decide (a0 > a1)) = true := by simpa using c5
  try rw [e3]
  refine Evr.condT rfl (Evr.sr rfl (Opl.p1 (n := Opl.nil ?_)))
  obtain rfl := Option.some.inj H
  refine Evr.ret1 Try.func76 rfl ?_
  show (.lit (.int .i64 1) : PV) = _
  first | rfl | (simp only [go_sem]; rfl)
 rw [if_neg c5] at H
 have e4 : (decide (a0 > a1)) = false := by simpa using c5
 try rw [e4]
 refine Evr.condF rfl (Evr.skip (Evr.sr rfl (Opl.p1 (n := Opl.nil ?_))))
 obtain rfl := Option.some.inj H
 refine Evr.ret1 Try.func76 rfl ?_
 show (.lit (.int .i64 0) : PV) = _
 first | rfl | (simp only [go_sem]; rfl)
theorem cmp_Or_int.ev {k : Nat} {l0 : List Int} {v0 : PV} (hv0 : Sl (cInt .i64) l0 v0) {r : Int} (H : cmp_Or_int.f k l0 = some r) : Ret Try.prog 75 [v0] fun v S => v = .lit (.int .i64 r) := by
 unfold cmp_Or_int.f at H
 refine Ret.intro Try.func75 rfl (Nat.le_of_ble_eq_true rfl) rfl ?_
 rw [tm1]
 refine Evr.sr rfl (Opl.p1 (n := Opl.nil (Evr.sr rfl (Opl.p1 (n := Opl.nil (Evr.seq (Evr.sr rfl (Opl.p1 (n := Opl.len (xs := l0) (by exact hv0) K22 rfl rfl rfl rfl (Opl.p1 (n := Opl.nil (Evr.block ?_))))))))))))
 refine Evr.loop (Evr.rounds (n := k) (Inv := fun n tm S => n ≤ k ∧ ∃ (x8_1 : Int), cmp_Or_int.l0 n 0 l0 (l0.length : Int) x8_1 = some r ∧ Has tm [(3, .lit (.int .i64 0)), (6, v0), (7, .lit (.int .i64 (l0.length : Int))), (8, .lit (.int .i64 x8_1))]) ?_ ?_ ?_)
 · exact ⟨Nat.le_refl _, _, H, ⟨rfl, rfl, rfl, rfl, trivial⟩⟩
 ·
  rintro tm S ⟨_, _, H, -⟩
  simp [cmp_Or_int.l0] at H
 ·
  rintro n1 ih1 tm S ⟨hle, x8_1, H, hh⟩
  simp only [cmp_Or_int.l0] at H
  rw [hh.eq]
  refine Evr.sr rfl (Opl.p1 (n := Opl.nil (Evr.seq ?_)))
  by_cases c1 : x8_1 < (l0.length : Int)
  case neg =>
   rw [if_neg c1] at H
   have e4 : (decide (x8_1 < (l0.length : Int))) = false := by simpa using c1
   try rw [e4]
   refine Evr.condF rfl (Evr.exit rfl (Evr.sr rfl (Opl.p1 (n := Opl.p1 (n := Opl.nil ?_)))))
   obtain rfl := Option.some.inj H
   refine Evr.ret1 Try.func75 rfl ?_
   show (.lit (.int .i64 0) : PV) = _
   first | rfl | (simp only [go_sem]; rfl)
  rw [if_pos c1] at H
  have e1 : (decide (x8_1 < (l0.length : Int))) = true := by simpa using c1
  try rw [e1]
  refine Evr.condT rfl (Evr.skip (Evr.seq (Evr.block (Evr.sr rfl ?_))))
  obtain ⟨c2, H⟩ := peel H
  obtain ⟨c3, H⟩ := peel H
  refine Opl.idx (M := (cInt .i64)) (xs := l0) (j := x8_1) (0 : Int) (by exact hv0) rfl (by omega) (by omega) K22 Z3 rfl rfl ?_
  rintro p1 q1 h1
  obtain rfl : p1 = [.lit (.int .i64 (rd l0 x8_1))] := h1
  refine Opl.lda (.lit (.int .i64 (rd l0 x8_1))) rfl T3 rfl rfl rfl rfl (Opl.p1 (n := Opl.nil (Evr.sr rfl (Opl.p1 (n := Opl.p1 (n := Opl.p1 (n := Opl.nil ?_)))))))
  by_cases c4 : (rd l0 x8_1) = 0
  case neg =>
   rw [if_neg c4] at H
   have e3 : ((rd l0 x8_1) != 0) = true := by simpa using c4
   try rw [e3]
   refine Evr.condT rfl (Evr.sr rfl (Opl.p1 (n := Opl.p1 (n := Opl.nil ?_))))
   obtain rfl := Option.some.inj H
   refine Evr.ret1 Try.func75 rfl ?_
   show (.lit (.int .i64 (rd l0 x8_1)) : PV) = _
   first | rfl | (simp only [go_sem]; rfl)
  rw [if_pos c4] at H
  have e2 : ((rd l0 x8_1) != 0) = false := by simpa using c4
  try rw [e2]
  refine Evr.condF rfl (Evr.skip (Evr.inBlock (Evr.regionN rfl (Opl.add (k := .i64) (a := x8_1) (b := 1) K3 rfl rfl rfl rfl (Opl.one (v := .lit (.int .i64 (wrap64 (x8_1 + 1)))) rfl rfl rfl (Opl.nil ?_))))))
  exact ih1 _ (by omega) _ _ ⟨by omega, _, H, ⟨rfl, rfl, rfl, rfl, trivial⟩⟩
theorem impl_atomOf.ev {a0 : Int} {r : Int} (H : impl_atomOf.f a0 = some r) : Ret Try.prog 77 [.lit (.int .i64 a0)] fun v S => v = .lit (.int .i64 r) := by
 unfold impl_atomOf.f at H
 refine Ret.intro Try.func77 rfl (Nat.le_of_ble_eq_true rfl) rfl ?_
 rw [tm1]
 refine Evr.sr rfl (Opl.p1 (n := Opl.nil (Evr.sr rfl (Opl.p1 (n := Opl.p1 (n := Opl.one (v := .lit (.int .i64 (wrap64 (-a0)))) rfl rfl (by simp only [go_sem, Int.zero_sub, w64]; rfl) (Opl.one rfl rfl (by simp only [go_sem, minFn, maxFn]; rfl) (Opl.one (v := .lit (.int .i64 (if (wrap64 (-a0)) > a0 then (wrap64 (-a0)) else a0))) rfl rfl rfl (Opl.nil ?_)))))))))
 obtain rfl := Option.some.inj H
 refine Evr.ret1 Try.func77 rfl ?_
 show (.lit (.int .i64 (if (wrap64 (-a0)) > a0 then (wrap64 (-a0)) else a0)) : PV) = _
 first | rfl | (simp only [go_sem]; rfl)
theorem impl_clauseOf_1.ev {k : Nat} {a0 : Int} {a1 : Int} {r : Int} (H : impl_clauseOf_1.f k a0 a1 = some r) : Ret Try.prog 74 [.lit (.int .i64 a0), .lit (.int .i64 a1)] fun v S => v = .lit (.int .i64 r) := by
 unfold impl_clauseOf_1.f at H
 refine Ret.intro Try.func74 rfl (Nat.le_of_ble_eq_true rfl) rfl ?_
 rw [tm2]
 refine Evr.sr rfl (Opl.p1 (n := Opl.nil (Evr.sr rfl (Opl.p1 (n := ?_)))))
 obtain ⟨r1, h_r1, H⟩ := Option.bind_eq_some_iff.1 H
 refine Opl.callc (impl_atomOf.ev h_r1) rfl rfl rfl rfl ⟨(.lit _), trivial⟩ (by decide) (Opl.p1 (n := ?_))
 obtain ⟨r2, h_r2, H⟩ := Option.bind_eq_some_iff.1 H
 refine Opl.callc (impl_atomOf.ev h_r2) rfl rfl rfl rfl ⟨(.lit _), trivial⟩ (by decide) ?_
 obtain ⟨r3, h_r3, H⟩ := Option.bind_eq_some_iff.1 H
 refine Opl.callc (cmp_Compare_int.ev h_r3) rfl rfl rfl rfl ⟨(.lit _), (.lit _), trivial⟩ (by decide) (Opl.p1 (n := Opl.p1 (n := ?_)))
 obtain ⟨r4, h_r4, H⟩ := Option.bind_eq_some_iff.1 H
 refine Opl.callc (cmp_Compare_int.ev h_r4) rfl rfl rfl rfl ⟨(.lit _), (.lit _), trivial⟩ (by decide) (Opl.liti (M := (cInt .i64)) (ys := [r3, r4]) [.tmp 9, .tmp 12] K22 T3 rfl rfl rfl (by exact ⟨rfl, rfl, trivial⟩) rfl (by decide) rfl rfl ?_)
 rintro pv2 h1
 obtain ⟨r5, h_r5, H⟩ := Option.bind_eq_some_iff.1 H
 refine Opl.callc (cmp_Or_int.ev h1 h_r5) rfl rfl rfl rfl ⟨h1.plain, trivial⟩ (by decide) (Opl.p1 (n := Opl.nil ?_))
 obtain rfl := Option.some.inj H
 refine Evr.ret1 Try.func74 rfl ?_
 show (.lit (.int .i64 r5) : PV) = _
 first | rfl | (simp only [go_sem]; rfl)
def sortLit_ren : Go.Shelf.Ren := ⟨fun | 6 => 73 | 15 => 93 | 14 => 92 | 28 => 107 | 29 => 108 | 20 => 99 | 21 => 100 | 22 => 101 | 23 => 102 | 24 => 103 | 25 => 104 | 26 => 105 | 27 => 106 | 46 => 109 | 47 => 110 | 48 => 111 | 49 => 112 | 50 => 113 | 57 => 114 | n => n, fun | 22 => 22 | 24 => 3 | 25 => 87 | 3 => 3 | 39 => 99 | 0 => 0 | 53 => 113 | 55 => 115 | 4 => 4 | 46 => 106 | 45 => 105 | 50 => 110 | 5 => 5 | 9 => 9 | 66 => 116 | 70 => 120 | 76 => 122 | 77 => 123 | n => n, fun | n => n⟩
theorem sortLit : Go.Proofs.SlLaysF.n6 Try.prog sortLit_ren := {
  mixed := by kernel_rfl
  f6 := ⟨Try.f73.name, by decide, Try.func73.trans (congrArg some (by kernel_rfl))⟩
  f14 := ⟨Try.f92.name, by decide, Try.func92.trans (congrArg some (by kernel_rfl))⟩
  f15 := Try.func93.trans (congrArg some (by kernel_rfl))
  f20 := ⟨Try.f99.name, by decide, Try.func99.trans (congrArg some (by kernel_rfl))⟩
  f21 := ⟨Try.f100.name, by decide, Try.func100.trans (congrArg some (by kernel_rfl))⟩
  f22 := ⟨Try.f101.name, by decide, Try.func101.trans (congrArg some (by kernel_rfl))⟩
  f23 := ⟨Try.f102.name, by decide, Try.func102.trans (congrArg some (by kernel_rfl))⟩
  f24 := ⟨Try.f103.name, by decide, Try.func103.trans (congrArg some (by kernel_rfl))⟩
  f25 := ⟨Try.f104.name, by decide, Try.func104.trans (congrArg some (by kernel_rfl))⟩
  f26 := ⟨Try.f105.name, by decide, Try.func105.trans (congrArg some (by kernel_rfl))⟩
  f27 := ⟨Try.f106.name, by decide, Try.func106.trans (congrArg some (by kernel_rfl))⟩
  f28 := Try.func107.trans (congrArg some (by kernel_rfl))
  f29 := Try.func108.trans (congrArg some (by kernel_rfl))
  f46 := ⟨Try.f109.name, by decide, Try.func109.trans (congrArg some (by kernel_rfl))⟩
  f47 := Try.func110.trans (congrArg some (by kernel_rfl))
  f48 := Try.func111.trans (congrArg some (by kernel_rfl))
  f49 := ⟨Try.f112.name, by decide, Try.func112.trans (congrArg some (by kernel_rfl))⟩
  f50 := ⟨Try.f113.name, by decide, Try.func113.trans (congrArg some (by kernel_rfl))⟩
  f57 := ⟨Try.f114.name, by decide, Try.func114.trans (congrArg some (by kernel_rfl))⟩
  t0 := Try.underlying0
  a0 := Try.isAgg0
  z0 := Try.sizeOf0
  v0 := Try.zeroValue0
  t3 := Try.underlying3
  a3 := Try.isAgg3
  z3 := Try.sizeOf3
  v3 := Try.zeroValue3
  t4 := Try.underlying4
  a4 := Try.isAgg4
  z4 := Try.sizeOf4
  v4 := Try.zeroValue4
  t5 := Try.underlying5
  a5 := Try.isAgg5
  z5 := Try.sizeOf5
  v5 := Try.zeroValue5
  t9 := Try.underlying9
  a9 := Try.isAgg9
  z9 := Try.sizeOf9
  v9 := Try.zeroValue9
  t22 := Try.underlying22
  a22 := Try.isAgg22
  z22 := Try.sizeOf22
  v22 := Try.zeroValue22
  a24 := Try.isAgg3
  z24 := Try.sizeOf3
  t25 := Try.underlying87
  a25 := Try.isAgg87
  z25 := Try.sizeOf87
  v25 := Try.zeroValue87
  t39 := Try.underlying99
  a39 := Try.isAgg99
  z39 := Try.sizeOf99
  v39 := Try.zeroValue99
  t45 := Try.underlying105
  a45 := Try.isAgg105
  z45 := Try.sizeOf105
  v45 := Try.zeroValue105
  t46 := Try.underlying106
  a46 := Try.isAgg106
  z46 := Try.sizeOf106
  v46 := Try.zeroValue106
  t50 := Try.underlying110
  a50 := Try.isAgg110
  z50 := Try.sizeOf110
  v50 := Try.zeroValue110
  t53 := Try.underlying113
  a53 := Try.isAgg113
  z53 := Try.sizeOf113
  v53 := Try.zeroValue113
  t55 := Try.underlying115
  a55 := Try.isAgg115
  z55 := Try.sizeOf115
  v55 := Try.zeroValue115
  t66 := Try.underlying116
  a66 := Try.isAgg116
  z66 := Try.sizeOf116
  v66 := Try.zeroValue116
  t70 := Try.underlying120
  a70 := Try.isAgg120
  z70 := Try.sizeOf120
  v70 := Try.zeroValue120
  t76 := Try.underlying122
  a76 := Try.isAgg122
  z76 := Try.sizeOf122
  v76 := Try.zeroValue122
  t77 := Try.underlying123
  a77 := Try.isAgg123
  z77 := Try.sizeOf123
  v77 := Try.zeroValue123 }
theorem litCf_run (x y : Int) : impl_clauseOf_1.f 5 x y = some (litCf x y) := by
 have hc : ∀ a b : Int, cmp_Compare_int.f 5 a b = some (litCmp a b) := by
  intro a b
  unfold cmp_Compare_int.f cmp_isNaN_int.f litCmp
  have h : ∀ z : Int, (z != z) = false := by simp
  rw [h, h]
  by_cases c : a < b
  · simp [c]
  · by_cases d : a > b
    · simp [c, d]
    · simp [c, d]
 have ho : ∀ a b : Int, cmp_Or_int.f 5 [a, b] = some (if a = 0 then b else a) := by
  intro a b
  have r0 : rd [a, b] 0 = a := rfl
  have r1 : rd [a, b] 1 = b := rfl
  have w1 : wrap64 ((0 : Int) + 1) = 1 := by unfold wrap64; omega
  have w2 : wrap64 ((1 : Int) + 1) = 2 := by unfold wrap64; omega
  show cmp_Or_int.l0 5 0 [a, b] 2 0 = _
  rw [cmp_Or_int.l0, r0, w1, if_pos (by omega), if_pos (by omega), if_pos (by simp)]
  by_cases c : a = 0
  · rw [if_pos c, if_pos c, cmp_Or_int.l0, r1, w2, if_pos (by omega), if_pos (by omega), if_pos (by simp)]
    by_cases d : b = 0
    · rw [if_pos d, cmp_Or_int.l0, if_neg (by omega), d]
    · rw [if_neg d]
  · rw [if_neg c, if_neg c]
 unfold impl_clauseOf_1.f impl_atomOf.f
 simp only [Option.bind_some]
 rw [hc, hc]
 simp only [Option.bind_some]
 rw [ho]
 rfl
theorem slices_SortFunc_int_int_at_impl_clauseOf_1.evb {k : Nat} {S0 : Sto} {l0 : List Int} {v0 : PV} (hv0 : Vec (cInt .i64) l0 v0 S0) {r : (List Int)} (H : slices_SortFunc_int_int_at_impl_clauseOf_1.f k l0 = some r) : RetS Try.prog 73 [v0, .lit (.func (.func 74) #[] #[])] S0 fun v S => Vec (cInt .i64) r v0 S ∧ Same S0 S (PV.id? v0).toList := by
 unfold slices_SortFunc_int_int_at_impl_clauseOf_1.f at H
 obtain ⟨c1, H⟩ := peel H
 obtain rfl := Option.some.inj H
 exact RetS.mono (RetS.sort sortLit ⟨_, _, Try.func73, rfl, rfl⟩ (Go.Proofs.enters_of Try.func74 rfl rfl) litCf (lex_swo litKey) (lex_tot litKey) (fun x y => impl_clauseOf_1.ev (litCf_run x y)) hv0 c1) fun _ _ h => h
theorem impl_clauseOf.ev {k : Nat} {l0 : List Int} {v0 : PV} (hv0 : Sl (cInt .i64) l0 v0) {r : (List Int) × Bool} (H : impl_clauseOf.f k l0 = some r) : Ret Try.prog 37 [v0] fun v S => Out (fun q => ∃ q1 q2, q = .tup [q1, q2] ∧ Sl (cInt .i64) r.1 q1 ∧ q2 = .lit (.bool r.2)) v S := by
 unfold impl_clauseOf.f at H
 refine Ret.intro Try.func37 rfl (Nat.le_of_ble_eq_true rfl) rfl ?_
 rw [tm1]
 refine Evr.sr rfl (Opl.p1 (n := Opl.p1 (n := Opl.nil (Evr.sr rfl (Opl.p1 (n := ?_))))))
 obtain ⟨r1, h_r1, H⟩ := Option.bind_eq_some_iff.1 H
 refine Opl.calla (slices_Clone_int_int.ev hv0 h_r1) rfl rfl rfl rfl ⟨hv0.plain, trivial⟩ rfl ?_
 rintro pv1 S h1 u1 w1
 refine Opl.p1 (n := Opl.nil (Evr.sr rfl (Opl.p1 (n := ?_))))
 obtain ⟨r2, h_r2, H⟩ := Option.bind_eq_some_iff.1 H
 refine Opl.calls (slices_SortFunc_int_int_at_impl_clauseOf_1.evb h1 h_r2) rfl rfl rfl rfl rfl ?_
 rintro _ S ⟨h2, u2⟩
 refine Opl.nil (Evr.sr rfl (Opl.p1 (n := ?_)))
 obtain ⟨r3, h_r3, H⟩ := Option.bind_eq_some_iff.1 H
 refine Opl.calls (slices_Compact_int_int.evb h2 h_r3) rfl rfl rfl rfl rfl ?_
 rintro pv2 S ⟨h3, b1, u3⟩
 refine Opl.p1 (n := Opl.nil (Evr.seq (Evr.sr rfl (Opl.p1 (n := Opl.nil (Evr.block ?_))))))
 refine Evr.loop (Evr.rounds (n := k) (Inv := fun n tm S => n ≤ k ∧ ∃ (x5_1 : Int) (pv3 : PV), impl_clauseOf.l1 n x5_1 r3 = some r ∧ Has tm [(4, pv3), (5, .lit (.int .i64 x5_1))] ∧ Vec (cInt .i64) r3 pv3 S) ?_ ?_ ?_)
 · exact ⟨Nat.le_refl _, _, _, H, ⟨rfl, rfl, trivial⟩, h3⟩
 ·
  rintro tm S ⟨_, _, _, H, -⟩
  simp [impl_clauseOf.l1] at H
 ·
  rintro n1 ih1 tm S ⟨hle, x5_1, pv3, H, hh, h4⟩
  simp only [impl_clauseOf.l1] at H
  rw [hh.eq]
  refine Evr.seq (Evr.sr rfl (Opl.p1 (n := Opl.p1 (n := Opl.lenv (xs := r3) (by exact h4) K22 rfl rfl rfl rfl (Opl.p1 (n := Opl.nil ?_))))))
  by_cases c1 : x5_1 < (r3.length : Int)
  case neg =>
   rw [if_neg c1] at H
   have e4 : (decide (x5_1 < (r3.length : Int))) = false := by simpa using c1
   try rw [e4]
   refine Evr.condF rfl (Evr.exit rfl (Evr.sr rfl (Opl.p1 (n := ?_))))
   obtain ⟨r4, h_r4, H⟩ := Option.bind_eq_some_iff.1 H
   obtain ⟨pv4, h11, -, h12⟩ := Out.vec h4
   refine Opl.callv (sInt .i64) (impl_clone_int.ev h12 h_r4) rfl rfl rfl (.cons h11 .nil) ⟨h12.plain, trivial⟩ (by decide) ?_
   rintro pv5 h13
   refine Opl.p1 (n := Opl.p1 (n := Opl.nil ?_))
   obtain rfl := Option.some.inj H
   refine Evr.ret2 Try.func37 rfl ?_
   show Out _ (.tup [pv5, .lit (.bool true)]) _
   exact .tup2 (.sl h13) .lit
  rw [if_pos c1] at H
  have e1 : (decide (x5_1 < (r3.length : Int))) = true := by simpa using c1
  try rw [e1]
  refine Evr.condT rfl (Evr.skip (Evr.seq (Evr.block (Evr.seq (Evr.regionD rfl (by kernel_rfl) (Opl.p1 (n := Opl.p1 (n := ?_))))))))
  obtain ⟨c2, H⟩ := peel H
  obtain ⟨c3, H⟩ := peel H
  obtain ⟨c4, H⟩ := peel H
  obtain ⟨c5, H⟩ := peel H
  refine Opl.idv (M := (cInt .i64)) (xs := r3) (j := x5_1) (v := pv3) h4 rfl rfl (by omega) (by omega) K22 Z3 rfl rfl ?_
  rintro d1 z1 q1 h5 h6
  refine Opl.ldv (M := (cInt .i64)) (xs := r3) (j := x5_1) (0 : Int) h5 h6 (by omega) (by omega) rfl T3 rfl rfl rfl ?_
  rintro p1 q2 h7
  obtain rfl : p1 = [.lit (.int .i64 (rd r3 x5_1))] := h7
  refine ⟨.lit (.int .i64 (rd r3 x5_1)), rfl, ?_⟩
  refine Opl.p1 (n := Opl.p1 (n := Opl.subi (k := .i64) (a := x5_1) (b := 1) K3 rfl rfl rfl rfl (Opl.idv (M := (cInt .i64)) (xs := r3) (j := (wrap64 (x5_1 - 1))) (v := pv3) h4 rfl rfl (by omega) (by omega) K22 Z3 rfl rfl ?_)))
  rintro d2 z2 q3 h8 h9
  refine Opl.ldv (M := (cInt .i64)) (xs := r3) (j := (wrap64 (x5_1 - 1))) (0 : Int) h8 h9 (by omega) (by omega) rfl T3 rfl rfl rfl ?_
  rintro p2 q4 h10
  obtain rfl : p2 = [.lit (.int .i64 (rd r3 (wrap64 (x5_1 - 1))))] := h10
  refine ⟨.lit (.int .i64 (rd r3 (wrap64 (x5_1 - 1)))), rfl, ?_⟩
  refine Opl.one (v := .lit (.int .i64 (wrap64 (-(rd r3 (wrap64 (x5_1 - 1))))))) rfl rfl (by simp only [go_sem, Int.zero_sub, w64]; rfl) (Opl.eql (a := (rd r3 x5_1)) (b := (wrap64 (-(rd r3 (wrap64 (x5_1 - 1)))))) K3 rfl rfl rfl rfl (Opl.nil ?_))
  by_cases c6 : (rd r3 x5_1) = (wrap64 (-(rd r3 (wrap64 (x5_1 - 1)))))
  case pos =>
   rw [if_pos c6] at H
   have e2 : ((rd r3 x5_1) == (wrap64 (-(rd r3 (wrap64 (x5_1 - 1)))))) = true := by simpa using c6
   try rw [e2]
   refine Evr.condT rfl (Evr.sr rfl (Opl.one (v := .lit (.slice none 0 0)) rfl rfl rfl (Opl.one (v := .lit (.bool false)) rfl rfl rfl (Opl.nil ?_))))
   obtain rfl := Option.some.inj H
   refine Evr.ret2 Try.func37 rfl ?_
   show Out _ (.tup [.lit (.slice none 0 0), .lit (.bool false)]) _
   exact .tup2 (.sl .nil) .lit
  rw [if_neg c6] at H
  have e3 : ((rd r3 x5_1) == (wrap64 (-(rd r3 (wrap64 (x5_1 - 1)))))) = false := by simpa using c6
  try rw [e3]
  refine Evr.condF rfl (Evr.skip (Evr.inBlock (Evr.regionN rfl (Opl.one (v := .lit (.int .i64 x5_1)) rfl rfl rfl (Opl.add (k := .i64) (a := x5_1) (b := 1) K3 rfl rfl rfl rfl (Opl.one (v := .lit (.int .i64 (wrap64 (x5_1 + 1)))) rfl rfl rfl (Opl.nil ?_)))))))
  exact ih1 _ (by omega) _ _ ⟨by omega, _, _, H, ⟨rfl, rfl, trivial⟩, h4⟩
theorem impl_edgeClause.ev {k : Nat} {l0 : List Int} {v0 : PV} (hv0 : Sl (cInt .i64) l0 v0) {l1 : List Int} {v1 : PV} (hv1 : Sl (cInt .i64) l1 v1) {r : (List Int) × Bool} (H : impl_edgeClause.f k l0 l1 = some r) : Ret Try.prog 55 [v0, v1] fun v S => Out (fun q => ∃ q1 q2, q = .tup [q1, q2] ∧ Sl (cInt .i64) r.1 q1 ∧ q2 = .lit (.bool r.2)) v S := by
 unfold impl_edgeClause.f at H
 refine Ret.intro Try.func55 rfl (Nat.le_of_ble_eq_true rfl) rfl ?_
 rw [tm2]
 refine Evr.sr rfl (Opl.p1 (n := Opl.p1 (n := Opl.nil (Evr.sr rfl (Opl.p1 (n := Opl.nil (Evr.seq (Evr.sr rfl (Opl.p1 (n := Opl.len (xs := l0) (by exact hv0) K22 rfl rfl rfl rfl (Opl.p1 (n := Opl.nil (Evr.block ?_)))))))))))))
 refine Evr.loop (Evr.rounds (n := k) (Inv := fun n tm S => n ≤ k ∧ ∃ (x6_1 : List Int) (x11_1 : Int) (pv1 : PV), impl_edgeClause.l1 n x6_1 x11_1 l0 l1 = some r ∧ Has tm [(1, v1), (6, pv1), (9, v0), (10, .lit (.int .i64 (l0.length : Int))), (11, .lit (.int .i64 x11_1))] ∧ Vec (cInt .i64) x6_1 pv1 S) ?_ ?_ ?_)
 · exact ⟨Nat.le_refl _, _, _, _, H, ⟨rfl, rfl, rfl, rfl, rfl, trivial⟩, .nil⟩
 ·
  rintro tm S ⟨_, _, _, _, H, -⟩
  simp [impl_edgeClause.l1] at H
 ·
  rintro n1 ih1 tm S ⟨hle, x6_1, x11_1, pv1, H, hh, h1⟩
  simp only [impl_edgeClause.l1] at H
  rw [hh.eq]
  refine Evr.sr rfl (Opl.p1 (n := Opl.nil (Evr.seq ?_)))
  by_cases c1 : x11_1 < (l0.length : Int)
  case neg =>
   rw [if_neg c1] at H
   have e6 : (decide (x11_1 < (l0.length : Int))) = false := by simpa using c1
   try rw [e6]
   refine Evr.condF rfl (Evr.exit rfl (Evr.seq (Evr.frz 6 h1 rfl ?_)))
   rintro pv6 S h7 u2
   refine Evr.regionN rfl (Opl.p1 (n := ?_))
   obtain ⟨r1, h_r1, H⟩ := Option.bind_eq_some_iff.1 H
   refine Opl.call (impl_clauseOf.ev h7 h_r1) rfl rfl rfl rfl ⟨h7.plain, trivial⟩ (by decide) ?_
   rintro _ ⟨pv8, _, rfl, h9, rfl⟩
   refine Opl.p1 (v := pv8) (n := Opl.p1 (v := .lit (.bool r1.2)) (n := Opl.p1 (n := Opl.p1 (n := Opl.nil ?_))))
   obtain rfl := Option.some.inj H
   refine Evr.ret2 Try.func55 rfl ?_
   show Out _ (.tup [pv8, .lit (.bool r1.2)]) _
   exact .tup2 (.sl h9) .lit
  rw [if_pos c1] at H
  have e1 : (decide (x11_1 < (l0.length : Int))) = true := by simpa using c1
  try rw [e1]
  refine Evr.condT rfl (Evr.skip (Evr.seq (Evr.block (Evr.sr rfl ?_))))
  obtain ⟨c2, H⟩ := peel H
  obtain ⟨c3, H⟩ := peel H
  refine Opl.idx (M := (cInt .i64)) (xs := l0) (j := x11_1) (0 : Int) (by exact hv0) rfl (by omega) (by omega) K22 Z3 rfl rfl ?_
  rintro p1 q1 h2
  obtain rfl : p1 = [.lit (.int .i64 (rd l0 x11_1))] := h2
  refine Opl.lda (.lit (.int .i64 (rd l0 x11_1))) rfl T3 rfl rfl rfl rfl (Opl.p1 (n := Opl.nil (Evr.seq (Evr.sr rfl (Opl.p1 (n := Opl.p1 (n := Opl.nil ?_)))))))
  by_cases c4 : (rd l0 x11_1) = 1
  case pos =>
   rw [if_pos c4] at H
   have e2 : ((rd l0 x11_1) == 1) = true := by simpa using c4
   try rw [e2]
   refine Evr.condT rfl (Evr.sr rfl (Opl.p1 (n := Opl.p1 (n := Opl.nil ?_))))
   obtain rfl := Option.some.inj H
   refine Evr.ret2 Try.func55 rfl ?_
   show Out _ (.tup [.lit (.slice none 0 0), .lit (.bool false)]) _
   exact .tup2 (.sl .nil) .lit
  rw [if_neg c4] at H
  have e3 : ((rd l0 x11_1) == 1) = false := by simpa using c4
  try rw [e3]
  refine Evr.condF rfl (Evr.skip (Evr.sr rfl (Opl.p1 (n := Opl.p1 (n := Opl.nil ?_)))))
  refine Evr.join (fun tm S => ∃ (kq1 : Nat) (x6_2 : List Int) (pv2 : PV), impl_edgeClause.l1 kq1 x6_2 (wrap64 (x11_1 + 1)) l0 l1 = some r ∧ kq1 ≤ n1 ∧ Has tm [(1, v1), (6, pv2), (9, v0), (10, .lit (.int .i64 (l0.length : Int))), (11, .lit (.int .i64 x11_1))] ∧ Vec (cInt .i64) x6_2 pv2 S) ?_ fun hk1 => ?_
  ·
   rintro tm S ⟨kq1, x6_2, pv2, H, hle, hh, h3⟩
   rw [hh.eq]
   refine Evr.inBlock (Evr.regionN rfl (Opl.add (k := .i64) (a := x11_1) (b := 1) K3 rfl rfl rfl rfl (Opl.one (v := .lit (.int .i64 (wrap64 (x11_1 + 1)))) rfl rfl rfl (Opl.nil ?_))))
   exact ih1 _ (by omega) _ _ ⟨by omega, _, _, _, H, ⟨rfl, rfl, rfl, rfl, rfl, trivial⟩, h3⟩
  ·
   by_cases c5 : (rd l0 x11_1) > 1
   case neg =>
    rw [if_neg c5] at H
    have e5 : (decide ((rd l0 x11_1) > 1)) = false := by simpa using c5
    try rw [e5]
    refine Evr.condF rfl (Evr.skip ?_)
    exact hk1 _ _ ⟨_, _, _, H, by omega, ⟨rfl, rfl, rfl, rfl, rfl, trivial⟩, h1⟩
   rw [if_pos c5] at H
   have e4 : (decide ((rd l0 x11_1) > 1)) = true := by simpa using c5
   try rw [e4]
   refine Evr.condT rfl (Evr.regionN rfl (Opl.p1 (n := Opl.p1 (n := Opl.p1 (n := ?_)))))
   obtain ⟨c6, H⟩ := peel H
   obtain ⟨c7, H⟩ := peel H
   obtain ⟨c8, H⟩ := peel H
   refine Opl.one (v := .lit (.int .i64 (wrap64 (Int.tdiv (rd l0 x11_1) 2)))) rfl rfl (by simp only [go_sem]; rw [if_neg (by first | assumption | decide | omega)]; rfl) (Opl.idx (M := (cInt .i64)) (xs := l1) (j := (wrap64 (Int.tdiv (rd l0 x11_1) 2))) (0 : Int) (by exact hv1) rfl (by omega) (by omega) K22 Z3 rfl rfl ?_)
   rintro p2 q2 h4
   obtain rfl : p2 = [.lit (.int .i64 (rd l1 (wrap64 (Int.tdiv (rd l0 x11_1) 2))))] := h4
   refine Opl.lda (.lit (.int .i64 (rd l1 (wrap64 (Int.tdiv (rd l0 x11_1) 2))))) rfl T3 rfl rfl rfl rfl (Opl.one (v := .lit (.int .i64 (rd l0 x11_1))) rfl rfl rfl (Opl.one (v := .lit (.int .i64 (Go.bits .and .i64 (rd l0 x11_1) 1))) rfl rfl (by simp only [go_sem]; simp only [Go.bits, w64]; rfl) (Opl.mul (k := .i64) (a := 2) (b := (Go.bits .and .i64 (rd l0 x11_1) 1)) K3 rfl rfl rfl rfl (Opl.subi (k := .i64) (a := 1) (b := (wrap64 (2 * (Go.bits .and .i64 (rd l0 x11_1) 1)))) K3 rfl rfl rfl rfl (Opl.mul (k := .i64) (a := (rd l1 (wrap64 (Int.tdiv (rd l0 x11_1) 2)))) (b := (wrap64 (1 - (wrap64 (2 * (Go.bits .and .i64 (rd l0 x11_1) 1)))))) K3 rfl rfl rfl rfl (Opl.liti (M := (cInt .i64)) (ys := [(wrap64 ((rd l1 (wrap64 (Int.tdiv (rd l0 x11_1) 2))) * (wrap64 (1 - (wrap64 (2 * (Go.bits .and .i64 (rd l0 x11_1) 1)))))))]) [.tmp 29] K22 T3 rfl rfl rfl (by exact ⟨rfl, trivial⟩) rfl (by decide) rfl rfl ?_))))))
   rintro pv4 h5
   refine Opl.app (M := (cInt .i64)) (xs := x6_1) (ys := [(wrap64 ((rd l1 (wrap64 (Int.tdiv (rd l0 x11_1) 2))) * (wrap64 (1 - (wrap64 (2 * (Go.bits .and .i64 (rd l0 x11_1) 1)))))))]) (v := pv1) h1 (.sl h5) (oInt .i64) rfl rfl K22 T3 rfl rfl (by (try simp only [List.length_cons, List.length_nil]); omega) (by show (_ + _) * 8 ≤ 140737488355328; (try simp only [List.length_cons, List.length_nil]); omega) rfl rfl rfl rfl rfl ?_
   rintro pv5 S h6 u1 w1
   refine Opl.one (v := pv5) rfl rfl rfl (Opl.nil ?_)
   exact hk1 _ _ ⟨_, _, _, H, by omega, ⟨rfl, rfl, rfl, rfl, rfl, trivial⟩, h6⟩
theorem impl_gateClauses.ev {k : Nat} {a0_0 : Int} {l0_1 : List IAnd} {v0_1 : PV} (hv0_1 : Sl cIAnd l0_1 v0_1) {l1 : List Int} {v1 : PV} (hv1 : Sl (cInt .i64) l1 v1) {r : (List (List Int))} (H : impl_gateClauses.f k a0_0 l0_1 l1 = some r) : Ret Try.prog 54 [.agg [.lit (.int .i64 a0_0), v0_1], v1] fun v S => Vec (cSl (cInt .i64)) r v S := by
 unfold impl_gateClauses.f at H
 refine Ret.intro Try.func54 rfl (Nat.le_of_ble_eq_true rfl) rfl ?_
 rw [tm2]
 refine Evr.sr rfl (Opl.box (cs := [.lit (.int .i64 a0_0), v0_1]) rfl rfl rfl rfl ?_)
 rintro i1 S h1 u1 w1
 refine Opl.p1 (n := Opl.nil (Evr.sr rfl (Opl.p1 (n := Opl.nil (Evr.seq (Evr.sr rfl (Opl.p1 (v := .ptr i1 1) (n := Opl.ldb (v := v0_1) h1 rfl T40 rfl rfl rfl rfl (Opl.len (xs := l0_1) (by exact hv0_1) K40 rfl rfl rfl rfl (Opl.p1 (n := Opl.nil (Evr.block ?_))))))))))))
 refine Evr.loop (Evr.rounds (n := k) (Inv := fun n tm S => n ≤ k ∧ ∃ (x5q2_1 : List (List Int)) (x16_1 : Int) (i2 : Abs.Id) (pv1 : PV), impl_gateClauses.l1 n x5q2_1 x16_1 a0_0 l0_1 l1 = some r ∧ Has tm [(1, v1), (2, .ptr i2 0), (5, pv1), (14, v0_1), (15, .lit (.int .i64 (l0_1.length : Int))), (16, .lit (.int .i64 x16_1))] ∧ Box (.ptr i2 0) [.lit (.int .i64 a0_0), v0_1] S ∧ Vec (cSl (cInt .i64)) x5q2_1 pv1 S ∧ Ap (.ptr i2 0) pv1) ?_ ?_ ?_)
 · exact ⟨Nat.le_refl _, _, _, _, _, H, ⟨rfl, rfl, rfl, rfl, rfl, rfl, trivial⟩, h1, .nil, Ap.nil.symm⟩
 ·
  rintro tm S ⟨_, _, _, _, _, H, -⟩
  simp [impl_gateClauses.l1] at H
 ·
  rintro n1 ih1 tm S ⟨hle, x5q2_1, x16_1, i2, pv1, H, hh, h2, h3, ap1⟩
  simp only [impl_gateClauses.l1] at H
  rw [hh.eq]
  refine Evr.sr rfl (Opl.p1 (n := Opl.nil (Evr.seq ?_)))
  by_cases c1 : x16_1 < (l0_1.length : Int)
  case neg =>
   rw [if_neg c1] at H
   have e6 : (decide (x16_1 < (l0_1.length : Int))) = false := by simpa using c1
   try rw [e6]
   refine Evr.condF rfl (Evr.exit rfl (Evr.sr rfl (Opl.p1 (n := Opl.p1 (n := Opl.nil ?_)))))
   obtain rfl := Option.some.inj H
   refine Evr.ret1 Try.func54 rfl ?_
   show Vec _ _ pv1 _
   exact h3
  rw [if_pos c1] at H
  have e1 : (decide (x16_1 < (l0_1.length : Int))) = true := by simpa using c1
  try rw [e1]
  refine Evr.condT rfl (Evr.skip (Evr.seq (Evr.block (Evr.sr rfl (Opl.p1 (n := ?_))))))
  obtain ⟨c2, H⟩ := peel H
  obtain ⟨c3, H⟩ := peel H
  refine Opl.idx (M := cIAnd) (xs := l0_1) (j := x16_1) zIAnd (by exact hv0_1) rfl (by omega) (by omega) K40 Z69 rfl rfl ?_
  rintro p1 q1 h4
  obtain rfl := cIAnd_R (x := (rd_IAnd l0_1 x16_1)) h4
  refine Opl.lda (.agg [.lit (.int .i64 ((rd_IAnd l0_1 x16_1).f0)), .lit (.int .i64 ((rd_IAnd l0_1 x16_1).f1))]) rfl T69 rfl rfl rfl rfl (Opl.alloc T69 rfl rfl rfl ?_)
  rintro i3 S h5 u2 w2
  have ap2 := w2.box h2
  have h6 := u2.box h2 ap2
  have ap3 := w2.vec h3
  have h7 := u2.vec h3 ap3
  refine Opl.p1 (n := Opl.stb (vs := [.lit (.int .i64 ((rd_IAnd l0_1 x16_1).f0)), .lit (.int .i64 ((rd_IAnd l0_1 x16_1).f1))]) h5 rfl rfl Z69 rfl (Nat.le_of_ble_eq_true rfl) rfl rfl rfl rfl ?_)
  rintro S (h8 : Box (.ptr i3 0) [.lit (.int .i64 ((rd_IAnd l0_1 x16_1).f0)), .lit (.int .i64 ((rd_IAnd l0_1 x16_1).f1))] _) u3
  have h9 := u3.box h6 ap2
  have h10 := u3.vec h7 ap3
  refine Opl.nil (Evr.sr rfl (Opl.p1 (v := .ptr i2 0) (n := Opl.ldb (v := .lit (.int .i64 a0_0)) h9 rfl T3 rfl rfl rfl rfl (Opl.add (k := .i64) (a := 1) (b := a0_0) K3 rfl rfl rfl rfl (Opl.one (v := .lit (.int .i64 x16_1)) rfl rfl rfl (Opl.add (k := .i64) (a := (wrap64 (1 + a0_0))) (b := x16_1) K3 rfl rfl rfl rfl (Opl.mul (k := .i64) (a := 2) (b := (wrap64 ((wrap64 (1 + a0_0)) + x16_1))) K3 rfl rfl rfl rfl (Opl.one (v := .lit (.int .i64 (wrap64 (2 * (wrap64 ((wrap64 (1 + a0_0)) + x16_1)))))) rfl rfl rfl (Opl.nil (Evr.sr rfl (Opl.one (v := .lit (.int .i64 (wrap64 (2 * (wrap64 ((wrap64 (1 + a0_0)) + x16_1)))))) rfl rfl rfl (Opl.add (k := .i64) (a := (wrap64 (2 * (wrap64 ((wrap64 (1 + a0_0)) + x16_1))))) (b := 1) K3 rfl rfl rfl rfl (Opl.p1 (v := .ptr i3 0) (n := Opl.ldb (v := .lit (.int .i64 ((rd_IAnd l0_1 x16_1).f0))) h8 rfl T3 rfl rfl rfl rfl (Opl.liti (M := (cInt .i64)) (ys := [(wrap64 ((wrap64 (2 * (wrap64 ((wrap64 (1 + a0_0)) + x16_1)))) + 1)), ((rd_IAnd l0_1 x16_1).f0)]) [.tmp 28, .tmp 30] K22 T3 rfl rfl rfl (by exact ⟨rfl, rfl, trivial⟩) rfl (by decide) rfl rfl ?_)))))))))))))))
  rintro pv3 h11
  refine Opl.one (v := .lit (.int .i64 (wrap64 (2 * (wrap64 ((wrap64 (1 + a0_0)) + x16_1)))))) rfl rfl rfl (Opl.add (k := .i64) (a := (wrap64 (2 * (wrap64 ((wrap64 (1 + a0_0)) + x16_1))))) (b := 1) K3 rfl rfl rfl rfl (Opl.p1 (v := .ptr i3 1) (n := Opl.ldb (v := .lit (.int .i64 ((rd_IAnd l0_1 x16_1).f1))) h8 rfl T3 rfl rfl rfl rfl (Opl.liti (M := (cInt .i64)) (ys := [(wrap64 ((wrap64 (2 * (wrap64 ((wrap64 (1 + a0_0)) + x16_1)))) + 1)), ((rd_IAnd l0_1 x16_1).f1)]) [.tmp 33, .tmp 35] K22 T3 rfl rfl rfl (by exact ⟨rfl, rfl, trivial⟩) rfl (by decide) rfl rfl ?_))))
  rintro pv5 h12
  refine Opl.one (v := .lit (.int .i64 (wrap64 (2 * (wrap64 ((wrap64 (1 + a0_0)) + x16_1)))))) rfl rfl rfl (Opl.p1 (v := .ptr i3 0) (n := Opl.ldb (v := .lit (.int .i64 ((rd_IAnd l0_1 x16_1).f0))) h8 rfl T3 rfl rfl rfl rfl (Opl.one (v := .lit (.int .i64 (Go.bits .xor .i64 ((rd_IAnd l0_1 x16_1).f0) 1))) rfl rfl (by simp only [go_sem]; simp only [Go.bits, w64]; rfl) (Opl.p1 (v := .ptr i3 1) (n := Opl.ldb (v := .lit (.int .i64 ((rd_IAnd l0_1 x16_1).f1))) h8 rfl T3 rfl rfl rfl rfl (Opl.one (v := .lit (.int .i64 (Go.bits .xor .i64 ((rd_IAnd l0_1 x16_1).f1) 1))) rfl rfl (by simp only [go_sem]; simp only [Go.bits, w64]; rfl) (Opl.liti (M := (cInt .i64)) (ys := [(wrap64 (2 * (wrap64 ((wrap64 (1 + a0_0)) + x16_1)))), (Go.bits .xor .i64 ((rd_IAnd l0_1 x16_1).f0) 1), (Go.bits .xor .i64 ((rd_IAnd l0_1 x16_1).f1) 1)]) [.tmp 37, .tmp 40, .tmp 43] K22 T3 rfl rfl rfl (by exact ⟨rfl, rfl, rfl, trivial⟩) rfl (by decide) rfl rfl ?_)))))))
  rintro pv7 h13
  refine Opl.liti (M := (cSl (cInt .i64))) (ys := [[(wrap64 ((wrap64 (2 * (wrap64 ((wrap64 (1 + a0_0)) + x16_1)))) + 1)), ((rd_IAnd l0_1 x16_1).f0)], [(wrap64 ((wrap64 (2 * (wrap64 ((wrap64 (1 + a0_0)) + x16_1)))) + 1)), ((rd_IAnd l0_1 x16_1).f1)], [(wrap64 (2 * (wrap64 ((wrap64 (1 + a0_0)) + x16_1)))), (Go.bits .xor .i64 ((rd_IAnd l0_1 x16_1).f0) 1), (Go.bits .xor .i64 ((rd_IAnd l0_1 x16_1).f1) 1)]]) [.tmp 31, .tmp 36, .tmp 44] K35 T22 rfl rfl rfl (by exact ⟨⟨_, by first | rfl | exact h11.cells, h11⟩, ⟨_, by first | rfl | exact h12.cells, h12⟩, ⟨_, by first | rfl | exact h13.cells, h13⟩, trivial⟩) rfl (by decide) rfl rfl ?_
  rintro pv9 h14
  refine Opl.len (xs := [[(wrap64 ((wrap64 (2 * (wrap64 ((wrap64 (1 + a0_0)) + x16_1)))) + 1)), ((rd_IAnd l0_1 x16_1).f0)], [(wrap64 ((wrap64 (2 * (wrap64 ((wrap64 (1 + a0_0)) + x16_1)))) + 1)), ((rd_IAnd l0_1 x16_1).f1)], [(wrap64 (2 * (wrap64 ((wrap64 (1 + a0_0)) + x16_1)))), (Go.bits .xor .i64 ((rd_IAnd l0_1 x16_1).f0) 1), (Go.bits .xor .i64 ((rd_IAnd l0_1 x16_1).f1) 1)]]) (by exact h14) K35 rfl rfl rfl rfl (Opl.one (v := .lit (.int .i64 0)) rfl rfl rfl (Opl.nil (Evr.block ?_)))
  refine Evr.loop (Evr.rounds (n := n1) (Inv := fun n tm S => n ≤ n1 ∧ ∃ (x5q3_1 : List (List Int)) (x47q2_1 : Int) (i4 : Abs.Id) (pv10 : PV), impl_gateClauses.l2 n x5q3_1 x47q2_1 a0_0 l0_1 l1 x16_1 = some r ∧ Has tm [(1, v1), (2, .ptr i4 0), (5, pv10), (14, v0_1), (15, .lit (.int .i64 (l0_1.length : Int))), (16, .lit (.int .i64 x16_1)), (45, pv9), (46, .lit (.int .i64 ([[(wrap64 ((wrap64 (2 * (wrap64 ((wrap64 (1 + a0_0)) + x16_1)))) + 1)), ((rd_IAnd l0_1 x16_1).f0)], [(wrap64 ((wrap64 (2 * (wrap64 ((wrap64 (1 + a0_0)) + x16_1)))) + 1)), ((rd_IAnd l0_1 x16_1).f1)], [(wrap64 (2 * (wrap64 ((wrap64 (1 + a0_0)) + x16_1)))), (Go.bits .xor .i64 ((rd_IAnd l0_1 x16_1).f0) 1), (Go.bits .xor .i64 ((rd_IAnd l0_1 x16_1).f1) 1)]].length : Int))), (47, .lit (.int .i64 x47q2_1))] ∧ Box (.ptr i4 0) [.lit (.int .i64 a0_0), v0_1] S ∧ Vec (cSl (cInt .i64)) x5q3_1 pv10 S ∧ Ap (.ptr i4 0) pv10) ?_ ?_ ?_)
  · exact ⟨Nat.le_refl _, _, _, _, _, H, ⟨rfl, rfl, rfl, rfl, rfl, rfl, rfl, rfl, rfl, trivial⟩, h9, h10, ap1⟩
  ·
   rintro tm S ⟨_, _, _, _, _, H, -⟩
   simp [impl_gateClauses.l2] at H
  ·
   rintro n2 ih2 tm S ⟨hle, x5q3_1, x47q2_1, i4, pv10, H, hh, h15, h16, ap4⟩
   simp only [impl_gateClauses.l2] at H
   rw [hh.eq]
   refine Evr.sr rfl (Opl.lss (a := x47q2_1) (b := ([[(wrap64 ((wrap64 (2 * (wrap64 ((wrap64 (1 + a0_0)) + x16_1)))) + 1)), ((rd_IAnd l0_1 x16_1).f0)], [(wrap64 ((wrap64 (2 * (wrap64 ((wrap64 (1 + a0_0)) + x16_1)))) + 1)), ((rd_IAnd l0_1 x16_1).f1)], [(wrap64 (2 * (wrap64 ((wrap64 (1 + a0_0)) + x16_1)))), (Go.bits .xor .i64 ((rd_IAnd l0_1 x16_1).f0) 1), (Go.bits .xor .i64 ((rd_IAnd l0_1 x16_1).f1) 1)]].length : Int)) K3 rfl rfl rfl rfl (Opl.nil (Evr.seq ?_)))
   by_cases c4 : x47q2_1 < ([[(wrap64 ((wrap64 (2 * (wrap64 ((wrap64 (1 + a0_0)) + x16_1)))) + 1)), ((rd_IAnd l0_1 x16_1).f0)], [(wrap64 ((wrap64 (2 * (wrap64 ((wrap64 (1 + a0_0)) + x16_1)))) + 1)), ((rd_IAnd l0_1 x16_1).f1)], [(wrap64 (2 * (wrap64 ((wrap64 (1 + a0_0)) + x16_1)))), (Go.bits .xor .i64 ((rd_IAnd l0_1 x16_1).f0) 1), (Go.bits .xor .i64 ((rd_IAnd l0_1 x16_1).f1) 1)]].length : Int)
   case neg =>
    rw [if_neg c4] at H
    have e5 : (decide (x47q2_1 < ([[(wrap64 ((wrap64 (2 * (wrap64 ((wrap64 (1 + a0_0)) + x16_1)))) + 1)), ((rd_IAnd l0_1 x16_1).f0)], [(wrap64 ((wrap64 (2 * (wrap64 ((wrap64 (1 + a0_0)) + x16_1)))) + 1)), ((rd_IAnd l0_1 x16_1).f1)], [(wrap64 (2 * (wrap64 ((wrap64 (1 + a0_0)) + x16_1)))), (Go.bits .xor .i64 ((rd_IAnd l0_1 x16_1).f0) 1), (Go.bits .xor .i64 ((rd_IAnd l0_1 x16_1).f1) 1)]].length : Int))) = false := by simpa using c4
    try rw [e5]
    refine Evr.condF rfl (Evr.exit rfl (Evr.inBlock (Evr.regionN rfl (Opl.add (k := .i64) (a := x16_1) (b := 1) K3 rfl rfl rfl rfl (Opl.one (v := .lit (.int .i64 (wrap64 (x16_1 + 1)))) rfl rfl rfl (Opl.nil ?_))))))
    exact ih1 _ (by omega) _ _ ⟨by omega, _, _, _, _, H, ⟨rfl, rfl, rfl, rfl, rfl, rfl, trivial⟩, h15, h16, ap4⟩
   rw [if_pos c4] at H
   have e2 : (decide (x47q2_1 < ([[(wrap64 ((wrap64 (2 * (wrap64 ((wrap64 (1 + a0_0)) + x16_1)))) + 1)), ((rd_IAnd l0_1 x16_1).f0)], [(wrap64 ((wrap64 (2 * (wrap64 ((wrap64 (1 + a0_0)) + x16_1)))) + 1)), ((rd_IAnd l0_1 x16_1).f1)], [(wrap64 (2 * (wrap64 ((wrap64 (1 + a0_0)) + x16_1)))), (Go.bits .xor .i64 ((rd_IAnd l0_1 x16_1).f0) 1), (Go.bits .xor .i64 ((rd_IAnd l0_1 x16_1).f1) 1)]].length : Int))) = true := by simpa using c4
   try rw [e2]
   refine Evr.condT rfl (Evr.skip (Evr.seq (Evr.block (Evr.sr rfl ?_))))
   obtain ⟨c5, H⟩ := peel H
   obtain ⟨c6, H⟩ := peel H
   refine Opl.idx (M := (cSl (cInt .i64))) (xs := [[(wrap64 ((wrap64 (2 * (wrap64 ((wrap64 (1 + a0_0)) + x16_1)))) + 1)), ((rd_IAnd l0_1 x16_1).f0)], [(wrap64 ((wrap64 (2 * (wrap64 ((wrap64 (1 + a0_0)) + x16_1)))) + 1)), ((rd_IAnd l0_1 x16_1).f1)], [(wrap64 (2 * (wrap64 ((wrap64 (1 + a0_0)) + x16_1)))), (Go.bits .xor .i64 ((rd_IAnd l0_1 x16_1).f0) 1), (Go.bits .xor .i64 ((rd_IAnd l0_1 x16_1).f1) 1)]]) (j := x47q2_1) ([] : List Int) (by exact h14) rfl (by omega) (by omega) K35 Z22 rfl rfl ?_
   rintro p2 q2 h17
   obtain ⟨pv11, rfl, h18⟩ := h17
   refine Opl.lda (pv11) rfl T22 rfl rfl rfl rfl (Opl.one (v := pv11) rfl rfl rfl (Opl.nil (Evr.sr rfl (Opl.one (v := pv11) rfl rfl rfl (Opl.one (v := v1) rfl rfl rfl ?_)))))
   obtain ⟨r1, h_r1, H⟩ := Option.bind_eq_some_iff.1 H
   refine Opl.call (impl_edgeClause.ev h18 hv1 h_r1) rfl rfl rfl rfl ⟨h18.plain, hv1.plain, trivial⟩ (by decide) ?_
   rintro _ ⟨pv13, _, rfl, h20, rfl⟩
   refine Opl.p1 (n := Opl.p1 (v := pv13) (n := Opl.p1 (v := .lit (.bool r1.2)) (n := Opl.one (v := pv13) rfl rfl rfl (Opl.one (v := .lit (.bool r1.2)) rfl rfl rfl (Opl.nil (Evr.sr rfl (Opl.one (v := .lit (.bool r1.2)) rfl rfl rfl (Opl.nil ?_))))))))
   refine Evr.join (fun tm S => ∃ (kq1 : Nat) (x5q3_2 : List (List Int)) (i5 : Abs.Id) (pv14 : PV), impl_gateClauses.l2 kq1 x5q3_2 (wrap64 (x47q2_1 + 1)) a0_0 l0_1 l1 x16_1 = some r ∧ kq1 ≤ n2 ∧ Has tm [(1, v1), (2, .ptr i5 0), (5, pv14), (14, v0_1), (15, .lit (.int .i64 (l0_1.length : Int))), (16, .lit (.int .i64 x16_1)), (45, pv9), (46, .lit (.int .i64 ([[(wrap64 ((wrap64 (2 * (wrap64 ((wrap64 (1 + a0_0)) + x16_1)))) + 1)), ((rd_IAnd l0_1 x16_1).f0)], [(wrap64 ((wrap64 (2 * (wrap64 ((wrap64 (1 + a0_0)) + x16_1)))) + 1)), ((rd_IAnd l0_1 x16_1).f1)], [(wrap64 (2 * (wrap64 ((wrap64 (1 + a0_0)) + x16_1)))), (Go.bits .xor .i64 ((rd_IAnd l0_1 x16_1).f0) 1), (Go.bits .xor .i64 ((rd_IAnd l0_1 x16_1).f1) 1)]].length : Int))), (47, .lit (.int .i64 x47q2_1))] ∧ Box (.ptr i5 0) [.lit (.int .i64 a0_0), v0_1] S ∧ Vec (cSl (cInt .i64)) x5q3_2 pv14 S ∧ Ap (.ptr i5 0) pv14) ?_ fun hk1 => ?_
   ·
    rintro tm S ⟨kq1, x5q3_2, i5, pv14, H, hle, hh, h21, h22, ap5⟩
    rw [hh.eq]
    refine Evr.inBlock (Evr.regionN rfl (Opl.add (k := .i64) (a := x47q2_1) (b := 1) K3 rfl rfl rfl rfl (Opl.one (v := .lit (.int .i64 (wrap64 (x47q2_1 + 1)))) rfl rfl rfl (Opl.nil ?_))))
    exact ih2 _ (by omega) _ _ ⟨by omega, _, _, _, _, H, ⟨rfl, rfl, rfl, rfl, rfl, rfl, rfl, rfl, rfl, trivial⟩, h21, h22, ap5⟩
   ·
    by_cases c7 : r1.2 = true
    case neg =>
     rw [if_neg c7] at H
     have e4 : (r1.2) = false := by simpa using c7
     try rw [e4]
     refine Evr.condF rfl (Evr.skip ?_)
     exact hk1 _ _ ⟨_, _, _, _, H, by omega, ⟨rfl, rfl, rfl, rfl, rfl, rfl, rfl, rfl, rfl, trivial⟩, h15, h16, ap4⟩
    rw [if_pos c7] at H
    have e3 : (r1.2) = true := by simpa using c7
    try rw [e3]
    refine Evr.condT rfl (Evr.regionN rfl (Opl.one (v := pv10) rfl rfl rfl (Opl.one (v := pv13) rfl rfl rfl (Opl.liti (M := (cSl (cInt .i64))) (ys := [r1.1]) [.tmp 59] K35 T22 rfl rfl rfl (by exact ⟨⟨_, by first | rfl | exact h20.cells, h20⟩, trivial⟩) rfl (by decide) rfl rfl ?_))))
    rintro pv16 h23
    obtain ⟨c8, H⟩ := peel H
    refine Opl.app (M := (cSl (cInt .i64))) (xs := x5q3_1) (ys := [r1.1]) (v := pv10) h16 (.sl h23) (oSl (cInt .i64)) rfl rfl K35 T22 rfl rfl (by (try simp only [List.length_cons, List.length_nil]); omega) (by show (_ + _) * 24 ≤ 140737488355328; (try simp only [List.length_cons, List.length_nil]); omega) rfl rfl rfl rfl rfl ?_
    rintro pv17 S h24 u4 w4
    have ap6 := w4.box h15
    have h25 := u4.box h15 ap4
    refine Opl.one (v := pv17) rfl rfl rfl (Opl.nil ?_)
    exact hk1 _ _ ⟨_, _, _, _, H, by omega, ⟨rfl, rfl, rfl, rfl, rfl, rfl, rfl, rfl, rfl, trivial⟩, h25, h24, ap6⟩
theorem impl_numbered.ev {k : Nat} {a0 : Int} {r : (List Int)} (H : impl_numbered.f k a0 = some r) : Ret Try.prog 53 [.lit (.int .i64 a0)] fun v S => Vec (cInt .i64) r v S := by
 unfold impl_numbered.f at H
 refine Ret.intro Try.func53 rfl (Nat.le_of_ble_eq_true rfl) rfl ?_
 rw [tm1]
 refine Evr.sr rfl (Opl.p1 (n := Opl.nil (Evr.sr rfl (Opl.p1 (n := ?_)))))
 obtain ⟨c1, H⟩ := peel H
 obtain ⟨c2, H⟩ := peel H
 obtain ⟨y411, hy_, H⟩ := Option.bind_eq_some_iff.1 H
 obtain rfl := Option.some.inj hy_
 refine Opl.make (M := (cInt .i64)) (m := a0) (0 : Int) (by exact rfl) rfl rfl K22 T3 rfl (by omega) (by show (a0).toNat * 8 ≤ 281474976710656; omega) (by omega) rfl rfl rfl ?_
 rintro pv1 S h1 u1 w1
 refine Opl.p1 (n := Opl.nil (Evr.seq (Evr.sr rfl (Opl.p1 (n := Opl.lenv (xs := (List.replicate a0.toNat (0 : Int))) (by exact h1) K22 rfl rfl rfl rfl (Opl.p1 (n := Opl.nil (Evr.block ?_))))))))
 refine Evr.loop (Evr.rounds (n := k) (Inv := fun n tm S => n ≤ k ∧ ∃ (x3_1 : List Int) (x9_1 : Int) (pv2 : PV), impl_numbered.l0 n x3_1 ((List.replicate (a0 : Int).toNat 0 : List Int).length : Int) x9_1 = some r ∧ Has tm [(3, pv2), (8, .lit (.int .i64 ((List.replicate a0.toNat (0 : Int)).length : Int))), (9, .lit (.int .i64 x9_1))] ∧ Vec (cInt .i64) x3_1 pv2 S) ?_ ?_ ?_)
 · exact ⟨Nat.le_refl _, _, _, _, H, ⟨rfl, rfl, rfl, trivial⟩, h1⟩
 ·
  rintro tm S ⟨_, _, _, _, H, -⟩
  simp [impl_numbered.l0] at H
 ·
  rintro n1 ih1 tm S ⟨hle, x3_1, x9_1, pv2, H, hh, h2⟩
  simp only [impl_numbered.l0] at H
  rw [hh.eq]
  refine Evr.sr rfl (Opl.p1 (n := Opl.nil (Evr.seq ?_)))
  by_cases c3 : x9_1 < ((List.replicate (a0 : Int).toNat 0 : List Int).length : Int)
  case neg =>
   rw [if_neg c3] at H
   have e2 : (decide (x9_1 < ((List.replicate a0.toNat (0 : Int)).length : Int))) = false := by simpa using c3
   try rw [e2]
   refine Evr.condF rfl (Evr.exit rfl (Evr.sr rfl (Opl.p1 (n := Opl.p1 (n := Opl.nil ?_)))))
   obtain rfl := Option.some.inj H
   refine Evr.ret1 Try.func53 rfl ?_
   show Vec _ _ pv2 _
   exact h2
  rw [if_pos c3] at H
  have e1 : (decide (x9_1 < ((List.replicate a0.toNat (0 : Int)).length : Int))) = true := by simpa using c3
  try rw [e1]
  refine Evr.condT rfl (Evr.skip (Evr.seq (Evr.block (Evr.sr rfl (Opl.p1 (n := Opl.p1 (n := Opl.nil (Evr.regionN rfl (Opl.p1 (n := Opl.p1 (n := Opl.p1 (n := ?_))))))))))))
  obtain ⟨c4, H⟩ := peel H
  obtain ⟨c5, H⟩ := peel H
  refine Opl.idv (M := (cInt .i64)) (xs := x3_1) (j := x9_1) (v := pv2) h2 rfl rfl (by omega) (by omega) K22 Z3 rfl rfl ?_
  rintro d1 z1 q1 h3 h4
  refine Opl.stv (M := (cInt .i64)) (xs := x3_1) (j := x9_1) (y := x9_1) (vs := [.lit (.int .i64 x9_1)]) h3 h4 (by omega) (by omega) rfl rfl (by exact rfl) Z3 rfl rfl rfl rfl ?_
  rw [← q1]
  rintro S h5 u2
  refine Opl.nil (Evr.inBlock (Evr.regionN rfl (Opl.add (k := .i64) (a := x9_1) (b := 1) K3 rfl rfl rfl rfl (Opl.one (v := .lit (.int .i64 (wrap64 (x9_1 + 1)))) rfl rfl rfl (Opl.nil ?_)))))
  exact ih1 _ (by omega) _ _ ⟨by omega, _, _, _, H, ⟨rfl, rfl, rfl, trivial⟩, h5⟩
theorem impl_ClausesOf.ev {k : Nat} {a0_0 : Int} {l0_1 : List IAnd} {v0_1 : PV} (hv0_1 : Sl cIAnd l0_1 v0_1) {a1 : Int} {r : (Int × List (List Int)) × Bool} (H : impl_ClausesOf.f k a0_0 l0_1 a1 = some r) : Ret Try.prog 18 [.agg [.lit (.int .i64 a0_0), v0_1], .lit (.int .i64 a1)] fun v S => Out (fun q => ∃ q1 q2, q = .tup [q1, q2] ∧ (∃ q11 q12, q1 = .agg [q11, q12] ∧ q11 = .lit (.int .i64 r.1.1) ∧ Sl (cSl (cInt .i64)) r.1.2 q12) ∧ q2 = .lit (.bool r.2)) v S := by
 unfold impl_ClausesOf.f at H
 refine Ret.intro Try.func18 rfl (Nat.le_of_ble_eq_true rfl) rfl ?_
 rw [tm2]
 refine Evr.sr rfl (Opl.box (cs := [.lit (.int .i64 a0_0), v0_1]) rfl rfl rfl rfl ?_)
 rintro i1 S h1 u1 w1
 refine Opl.alloc T37 rfl rfl rfl ?_
 rintro i2 S h2 u2 w2
 have ap1 := w2.box h1
 have h3 := u2.box h1 ap1
 refine Opl.p1 (n := Opl.nil (Evr.seq (Evr.sr rfl (Opl.ldb (v := .agg [.lit (.int .i64 a0_0), v0_1]) h3 rfl T42 rfl rfl rfl rfl ?_))))
 obtain ⟨r1, h_r1, H⟩ := Option.bind_eq_some_iff.1 H
 refine Opl.callc (impl_CircuitValid.ev hv0_1 h_r1) rfl rfl rfl rfl ⟨(.aggL ⟨(.lit _), hv0_1.plain, trivial⟩), trivial⟩ (by decide) (Opl.p1 (n := Opl.p1 (n := ?_)))
 by_cases c1 : r1 = true
 case neg =>
  rw [if_neg c1] at H
  have e6 : (!r1) = true := by simpa using c1
  try rw [e6]
  refine Opl.skp rfl (Opl.skp rfl (Opl.skp rfl (Opl.skp rfl (Opl.p1 (n := Opl.nil (Evr.condT rfl (Evr.sr rfl (Opl.p1 (v := .agg [.lit (.int .i64 0), .lit (.slice none 0 0)]) (n := Opl.stb (vs := [.lit (.int .i64 0), .lit (.slice none 0 0)]) h2 rfl rfl Z37 rfl (Nat.le_of_ble_eq_true rfl) rfl rfl rfl rfl ?_)))))))))
  rintro S (h81 : Box (.ptr i2 0) [.lit (.int .i64 0), .lit (.slice none 0 0)] _) u25
  have h82 := u25.box h3 ap1
  refine Opl.p1 (n := Opl.nil ?_)
  obtain rfl := Option.some.inj H
  refine Evr.ret_ct (v0 := .agg [.lit (.int .i64 0), .lit (.slice none 0 0)]) Try.func18 rfl h81 rfl T37 rfl ?_
  show Out _ (.tup [.agg [.lit (.int .i64 0), .lit (.slice none 0 0)], .lit (.bool false)]) _
  exact .tup2 (.agg2 .lit (.sl .nil)) .lit
 rw [if_pos c1] at H
 have e1 : (!r1) = false := by simpa using c1
 try rw [e1]
 refine Opl.ldb (v := .agg [.lit (.int .i64 a0_0), v0_1]) h3 rfl T42 rfl rfl rfl rfl (Opl.p1 (n := ?_))
 obtain ⟨r2, h_r2, H⟩ := Option.bind_eq_some_iff.1 H
 refine Opl.callc (impl_Circuit_isEdge.ev hv0_1 h_r2) rfl rfl rfl rfl ⟨(.aggL ⟨(.lit _), hv0_1.plain, trivial⟩), (.lit _), trivial⟩ (by decide) (Opl.p1 (n := Opl.p1 (n := Opl.nil ?_)))
 by_cases c2 : r2 = true
 case neg =>
  rw [if_neg c2] at H
  have e5 : (!r2) = true := by simpa using c2
  try rw [e5]
  refine Evr.condT rfl (Evr.sr rfl (Opl.p1 (v := .agg [.lit (.int .i64 0), .lit (.slice none 0 0)]) (n := Opl.stb (vs := [.lit (.int .i64 0), .lit (.slice none 0 0)]) h2 rfl rfl Z37 rfl (Nat.le_of_ble_eq_true rfl) rfl rfl rfl rfl ?_)))
  rintro S (h79 : Box (.ptr i2 0) [.lit (.int .i64 0), .lit (.slice none 0 0)] _) u24
  have h80 := u24.box h3 ap1
  refine Opl.p1 (n := Opl.nil ?_)
  obtain rfl := Option.some.inj H
  refine Evr.ret_ct (v0 := .agg [.lit (.int .i64 0), .lit (.slice none 0 0)]) Try.func18 rfl h79 rfl T37 rfl ?_
  show Out _ (.tup [.agg [.lit (.int .i64 0), .lit (.slice none 0 0)], .lit (.bool false)]) _
  exact .tup2 (.agg2 .lit (.sl .nil)) .lit
 rw [if_pos c2] at H
 have e2 : (!r2) = false := by simpa using c2
 try rw [e2]
 refine Evr.condF rfl (Evr.skip (Evr.sr rfl (Opl.p1 (v := .ptr i1 0) (n := Opl.ldb (v := .lit (.int .i64 a0_0)) h3 rfl T3 rfl rfl rfl rfl (Opl.add (k := .i64) (a := 1) (b := a0_0) K3 rfl rfl rfl rfl (Opl.p1 (v := .ptr i1 1) (n := Opl.ldb (v := v0_1) h3 rfl T40 rfl rfl rfl rfl (Opl.len (xs := l0_1) (by exact hv0_1) K40 rfl rfl rfl rfl (Opl.add (k := .i64) (a := (wrap64 (1 + a0_0))) (b := (l0_1.length : Int)) K3 rfl rfl rfl rfl ?_)))))))))
 obtain ⟨r3, h_r3, H⟩ := Option.bind_eq_some_iff.1 H
 refine Opl.calla (impl_numbered.ev h_r3) rfl rfl rfl rfl ⟨(.lit _), trivial⟩ rfl ?_
 rintro pv1 S h4 u3 w3
 have ap2 := w3.box h3
 have h5 := u3.box h3 ap2
 have ap3 := w3.box h2
 have h6 := u3.box h2 ap3
 refine Opl.one (v := pv1) rfl rfl rfl (Opl.nil (Evr.seq (Evr.frz 6 h4 rfl ?_)))
 rintro pv2 S h7 u4
 have h8 := u4.box h5 ap2
 have h9 := u4.box h6 ap3
 refine Evr.regionN rfl (Opl.one (v := pv2) rfl rfl rfl (Opl.len (xs := r3) (by exact h7) K22 rfl rfl rfl rfl (Opl.subi (k := .i64) (a := (r3.length : Int)) (b := 1) K3 rfl rfl rfl rfl (Opl.ldb (v := .agg [.lit (.int .i64 a0_0), v0_1]) h8 rfl T42 rfl rfl rfl rfl (Opl.one (v := pv2) rfl rfl rfl ?_)))))
 obtain ⟨r4, h_r4, H⟩ := Option.bind_eq_some_iff.1 H
 refine Opl.calla (impl_gateClauses.ev hv0_1 h7 h_r4) rfl rfl rfl rfl ⟨(.aggL ⟨(.lit _), hv0_1.plain, trivial⟩), h7.plain, trivial⟩ rfl ?_
 rintro pv3 S h10 u5 w4
 have ap4 := w4.box h8
 have h11 := u5.box h8 ap4
 have ap5 := w4.box h9
 have h12 := u5.box h9 ap5
 refine Opl.one (v := .agg [.lit (.int .i64 (wrap64 ((r3.length : Int) - 1))), pv3]) rfl rfl (by simp only [go_sem]; simp only [fillL, Vec.cells h10]; rfl) (Opl.alloc T37 rfl rfl rfl ?_)
 rintro i3 S h13 u6 w5
 have ap6 := w5.box h11
 have h14 := u6.box h11 ap6
 have ap7 := w5.box h12
 have h15 := u6.box h12 ap7
 have ap8 := w5.vec h10
 have h16 := u6.vec h10 ap8
 refine Opl.stb (vs := [.lit (.int .i64 (wrap64 ((r3.length : Int) - 1))), pv3]) h13 rfl rfl Z37 rfl (Nat.le_of_ble_eq_true rfl) (by simp only [List.all_cons, List.all_nil, Vec.one h16, Bool.and_true, Bool.true_and] <;> rfl) rfl rfl rfl ?_
 rintro S (h17 : Box (.ptr i3 0) [.lit (.int .i64 (wrap64 ((r3.length : Int) - 1))), pv3] _) u7
 have h18 := u7.box h14 ap6
 have h19 := u7.box h15 ap7
 have h20 := u7.vec h16 ap8
 refine Opl.nil (Evr.seq (Evr.sr rfl (Opl.one (v := .lit (.int .i64 a1)) rfl rfl rfl (Opl.liti (M := (cInt .i64)) (ys := [a1]) [.tmp 36] K22 T3 rfl rfl rfl (by exact ⟨rfl, trivial⟩) rfl (by decide) rfl rfl ?_))))
 rintro pv5 h21
 refine Opl.one (v := pv2) rfl rfl rfl ?_
 obtain ⟨r5, h_r5, H⟩ := Option.bind_eq_some_iff.1 H
 refine Opl.call (impl_edgeClause.ev h21 h7 h_r5) rfl rfl rfl rfl ⟨h21.plain, h7.plain, trivial⟩ (by decide) ?_
 rintro _ ⟨pv7, _, rfl, h23, rfl⟩
 refine Opl.p1 (n := Opl.p1 (v := pv7) (n := Opl.p1 (v := .lit (.bool r5.2)) (n := Opl.one (v := pv7) rfl rfl rfl (Opl.one (v := .lit (.bool r5.2)) rfl rfl rfl (Opl.nil (Evr.sr rfl (Opl.one (v := .lit (.bool r5.2)) rfl rfl rfl (Opl.nil ?_))))))))
 by_cases c3 : r5.2 = true
 case neg =>
  rw [if_neg c3] at H
  have e4 : (r5.2) = false := by simpa using c3
  try rw [e4]
  refine Evr.condF rfl (Evr.skip (Evr.seq (Evr.frzc [.lit (.int .i64 (wrap64 ((r3.length : Int) - 1)))] [] h17 h20 ap8 ?_)))
  rintro pv14 S1_ S h56 u17 u18 h57
  have h58 := u18.box (u17.box h18 ap4) ap6
  have h59 := u18.box (u17.box h19 ap5) ap7
  have h60 : Sl (cSl (cInt .i64)) r4 pv14 := h56
  have h61 : Box (.ptr i3 0) [.lit (.int .i64 (wrap64 ((r3.length : Int) - 1))), pv14] S := h57
  refine Evr.regionN rfl (Opl.p1 (v := .ptr i3 1) (n := Opl.ldb (v := pv14) h61 rfl T35 rfl rfl rfl rfl ?_))
  obtain _ | k2 := k
  · simp [impl_ClausesOf.j1] at H
  simp only [impl_ClausesOf.j1] at H
  obtain ⟨r6, h_r6, H⟩ := Option.bind_eq_some_iff.1 H
  refine Opl.calla (impl_clone_Lint.ev h60 h_r6) rfl rfl rfl rfl ⟨h60.plain, trivial⟩ rfl ?_
  rintro pv15 S h62 u19 w12
  have ap15 := w12.box h58
  have h63 := u19.box h58 ap15
  have ap16 := w12.box h59
  have h64 := u19.box h59 ap16
  have ap17 := w12.box h61
  have h65 := u19.box h61 ap17
  refine Opl.p1 (v := .ptr i3 1) (n := Opl.stb (vs := [pv15]) h65 rfl (by exact Vec.cells h62) Z35 rfl (Nat.le_of_ble_eq_true rfl) (by simp only [List.all_cons, List.all_nil, Vec.one h62, Bool.and_true, Bool.true_and] <;> rfl) rfl rfl rfl ?_)
  rintro S (h66 : Box (.ptr i3 0) [.lit (.int .i64 (wrap64 ((r3.length : Int) - 1))), pv15] _) u20
  have h67 := u20.box h63 ap6
  have h68 := u20.box h64 ap7
  have h69 := u20.vec h62 ap17.symm
  refine Opl.nil (Evr.seq (Evr.frzc [.lit (.int .i64 (wrap64 ((r3.length : Int) - 1)))] [] h66 h69 ap17.symm ?_))
  rintro pv16 S1_ S h70 u21 u22 h71
  have h72 := u22.box (u21.box h67 ap15) ap6
  have h73 := u22.box (u21.box h68 ap16) ap7
  have h74 : Sl (cSl (cInt .i64)) r6 pv16 := h70
  have h75 : Box (.ptr i3 0) [.lit (.int .i64 (wrap64 ((r3.length : Int) - 1))), pv16] S := h71
  refine Evr.regionN rfl (Opl.ldb (v := .agg [.lit (.int .i64 (wrap64 ((r3.length : Int) - 1))), pv16]) h75 rfl T37 rfl rfl rfl rfl (Opl.stb (vs := [.lit (.int .i64 (wrap64 ((r3.length : Int) - 1))), pv16]) h73 rfl rfl Z37 rfl (Nat.le_of_ble_eq_true rfl) (by simp only [List.all_cons, List.all_nil, h74.one, Bool.and_true, Bool.true_and] <;> rfl) rfl rfl rfl ?_))
  rintro S (h76 : Box (.ptr i2 0) [.lit (.int .i64 (wrap64 ((r3.length : Int) - 1))), pv16] _) u23
  have h77 := u23.box h72 ap1
  have h78 := u23.box h75 ap7.symm
  refine Opl.one (v := .lit (.bool true)) rfl rfl rfl (Opl.nil ?_)
  obtain rfl := Option.some.inj H
  refine Evr.ret_ct (v0 := .agg [.lit (.int .i64 (wrap64 ((r3.length : Int) - 1))), pv16]) Try.func18 rfl h76 rfl T37 rfl ?_
  show Out _ (.tup [.agg [.lit (.int .i64 (wrap64 ((r3.length : Int) - 1))), pv16], .lit (.bool true)]) _
  exact .tup2 (.agg2 .lit (.sl h74)) .lit
 rw [if_pos c3] at H
 have e3 : (r5.2) = true := by simpa using c3
 try rw [e3]
 refine Evr.condT rfl (Evr.regionN rfl (Opl.p1 (v := .ptr i3 1) (n := Opl.ldb (v := pv3) h17 rfl T35 rfl rfl rfl rfl (Opl.one (v := pv7) rfl rfl rfl (Opl.liti (M := (cSl (cInt .i64))) (ys := [r5.1]) [.tmp 45] K35 T22 rfl rfl rfl (by exact ⟨⟨_, by first | rfl | exact h23.cells, h23⟩, trivial⟩) rfl (by decide) rfl rfl ?_)))))
 rintro pv9 h24
 obtain ⟨c4, H⟩ := peel H
 obtain _ | k1 := k
 · simp [impl_ClausesOf.j1] at H
 simp only [impl_ClausesOf.j1] at H
 refine Opl.app (M := (cSl (cInt .i64))) (xs := r4) (ys := [r5.1]) (v := pv3) h20 (.sl h24) (oSl (cInt .i64)) rfl rfl K35 T22 rfl rfl (by (try simp only [List.length_cons, List.length_nil]); omega) (by show (_ + _) * 24 ≤ 140737488355328; (try simp only [List.length_cons, List.length_nil]); omega) rfl rfl rfl rfl rfl ?_
 rintro pv10 S h25 u8 w7
 have ap9 := w7.box h18
 have h26 := u8.box h18 ap4
 have ap10 := w7.box h19
 have h27 := u8.box h19 ap5
 have ap11 := w7.box h17
 have h28 := u8.box h17 ap8.symm
 refine Opl.p1 (v := .ptr i3 1) (n := Opl.stb (vs := [pv10]) h28 rfl (by exact Vec.cells h25) Z35 rfl (Nat.le_of_ble_eq_true rfl) (by simp only [List.all_cons, List.all_nil, Vec.one h25, Bool.and_true, Bool.true_and] <;> rfl) rfl rfl rfl ?_)
 rintro S (h29 : Box (.ptr i3 0) [.lit (.int .i64 (wrap64 ((r3.length : Int) - 1))), pv10] _) u9
 have h30 := u9.box h26 ap6
 have h31 := u9.box h27 ap7
 have h32 := u9.vec h25 ap11.symm
 refine Opl.nil (Evr.seq (Evr.frzc [.lit (.int .i64 (wrap64 ((r3.length : Int) - 1)))] [] h29 h32 ap11.symm ?_))
 rintro pv11 S1_ S h33 u10 u11 h34
 have h35 := u11.box (u10.box h30 ap9) ap6
 have h36 := u11.box (u10.box h31 ap10) ap7
 have h37 : Sl (cSl (cInt .i64)) (r4 ++ [r5.1]) pv11 := h33
 have h38 : Box (.ptr i3 0) [.lit (.int .i64 (wrap64 ((r3.length : Int) - 1))), pv11] S := h34
 refine Evr.regionN rfl (Opl.p1 (v := .ptr i3 1) (n := Opl.ldb (v := pv11) h38 rfl T35 rfl rfl rfl rfl ?_))
 obtain ⟨r6, h_r6, H⟩ := Option.bind_eq_some_iff.1 H
 refine Opl.calla (impl_clone_Lint.ev h37 h_r6) rfl rfl rfl rfl ⟨h37.plain, trivial⟩ rfl ?_
 rintro pv12 S h39 u12 w9
 have ap12 := w9.box h35
 have h40 := u12.box h35 ap12
 have ap13 := w9.box h36
 have h41 := u12.box h36 ap13
 have ap14 := w9.box h38
 have h42 := u12.box h38 ap14
 refine Opl.p1 (v := .ptr i3 1) (n := Opl.stb (vs := [pv12]) h42 rfl (by exact Vec.cells h39) Z35 rfl (Nat.le_of_ble_eq_true rfl) (by simp only [List.all_cons, List.all_nil, Vec.one h39, Bool.and_true, Bool.true_and] <;> rfl) rfl rfl rfl ?_)
 rintro S (h43 : Box (.ptr i3 0) [.lit (.int .i64 (wrap64 ((r3.length : Int) - 1))), pv12] _) u13
 have h44 := u13.box h40 ap6
 have h45 := u13.box h41 ap7
 have h46 := u13.vec h39 ap14.symm
 refine Opl.nil (Evr.seq (Evr.frzc [.lit (.int .i64 (wrap64 ((r3.length : Int) - 1)))] [] h43 h46 ap14.symm ?_))
 rintro pv13 S1_ S h47 u14 u15 h48
 have h49 := u15.box (u14.box h44 ap12) ap6
 have h50 := u15.box (u14.box h45 ap13) ap7
 have h51 : Sl (cSl (cInt .i64)) r6 pv13 := h47
 have h52 : Box (.ptr i3 0) [.lit (.int .i64 (wrap64 ((r3.length : Int) - 1))), pv13] S := h48
 refine Evr.regionN rfl (Opl.ldb (v := .agg [.lit (.int .i64 (wrap64 ((r3.length : Int) - 1))), pv13]) h52 rfl T37 rfl rfl rfl rfl (Opl.stb (vs := [.lit (.int .i64 (wrap64 ((r3.length : Int) - 1))), pv13]) h50 rfl rfl Z37 rfl (Nat.le_of_ble_eq_true rfl) (by simp only [List.all_cons, List.all_nil, h51.one, Bool.and_true, Bool.true_and] <;> rfl) rfl rfl rfl ?_))
 rintro S (h53 : Box (.ptr i2 0) [.lit (.int .i64 (wrap64 ((r3.length : Int) - 1))), pv13] _) u16
 have h54 := u16.box h49 ap1
 have h55 := u16.box h52 ap7.symm
 refine Opl.one (v := .lit (.bool true)) rfl rfl rfl (Opl.nil ?_)
 obtain rfl := Option.some.inj H
 refine Evr.ret_ct (v0 := .agg [.lit (.int .i64 (wrap64 ((r3.length : Int) - 1))), pv13]) Try.func18 rfl h53 rfl T37 rfl ?_
 show Out _ (.tup [.agg [.lit (.int .i64 (wrap64 ((r3.length : Int) - 1))), pv13], .lit (.bool true)]) _
 exact .tup2 (.agg2 .lit (.sl h51)) .lit
theorem impl_ClauseValid.ev {k : Nat} {l0 : List Int} {v0 : PV} (hv0 : Sl (cInt .i64) l0 v0) {a1 : Int} {r : Bool} (H : impl_ClauseValid.f k l0 a1 = some r) : Ret Try.prog 42 [v0, .lit (.int .i64 a1)] fun v S => v = .lit (.bool r) := by
 unfold impl_ClauseValid.f at H
 refine Ret.intro Try.func42 rfl (Nat.le_of_ble_eq_true rfl) rfl ?_
 rw [tm2]
 refine Evr.sr rfl (Opl.p1 (n := Opl.nil (Evr.seq (Evr.sr rfl (Opl.p1 (n := ?_))))))
 obtain ⟨t312, h_t312, H⟩ := Option.bind_eq_some_iff.1 H
 refine Opl.callc (impl_in.ev h_t312) rfl rfl rfl rfl ⟨(.lit _), (.lit _), (.lit _), trivial⟩ (by decide) (Opl.p1 (n := Opl.nil ?_))
 by_cases c1 : t312 = true
 case neg =>
  rw [if_neg c1] at H
  have e10 : (!t312) = true := by simpa using c1
  try rw [e10]
  refine Evr.condT rfl (Evr.sr rfl (Opl.p1 (n := Opl.nil ?_)))
  obtain rfl := Option.some.inj H
  refine Evr.ret1 Try.func42 rfl ?_
  show (.lit (.bool false) : PV) = _
  first | rfl | (simp only [go_sem]; rfl)
 rw [if_pos c1] at H
 have e1 : (!t312) = false := by simpa using c1
 try rw [e1]
 refine Evr.condF rfl (Evr.skip (Evr.seq (Evr.sr rfl (Opl.p1 (n := Opl.len (xs := l0) (by exact hv0) K22 rfl rfl rfl rfl (Opl.p1 (n := Opl.nil (Evr.block ?_))))))))
 refine Evr.loop (Evr.rounds (n := k) (Inv := fun n tm S => n ≤ k ∧ ∃ (x12_1 : Int), impl_ClauseValid.l0 n l0 a1 l0 (l0.length : Int) x12_1 = some r ∧ Has tm [(0, v0), (1, .lit (.int .i64 a1)), (10, v0), (11, .lit (.int .i64 (l0.length : Int))), (12, .lit (.int .i64 x12_1))]) ?_ ?_ ?_)
 · exact ⟨Nat.le_refl _, _, H, ⟨rfl, rfl, rfl, rfl, rfl, trivial⟩⟩
 ·
  rintro tm S ⟨_, _, H, -⟩
  simp [impl_ClauseValid.l0] at H
 ·
  rintro n1 ih1 tm S ⟨hle, x12_1, H, hh⟩
  simp only [impl_ClauseValid.l0] at H
  rw [hh.eq]
  refine Evr.sr rfl (Opl.p1 (n := Opl.nil (Evr.seq ?_)))
  by_cases c2 : x12_1 < (l0.length : Int)
  case neg =>
   rw [if_neg c2] at H
   have e9 : (decide (x12_1 < (l0.length : Int))) = false := by simpa using c2
   try rw [e9]
   refine Evr.condF rfl (Evr.exit rfl (Evr.sr rfl (Opl.p1 (n := Opl.nil ?_))))
   obtain rfl := Option.some.inj H
   refine Evr.ret1 Try.func42 rfl ?_
   show (.lit (.bool true) : PV) = _
   first | rfl | (simp only [go_sem]; rfl)
  rw [if_pos c2] at H
  have e2 : (decide (x12_1 < (l0.length : Int))) = true := by simpa using c2
  try rw [e2]
  refine Evr.condT rfl (Evr.skip (Evr.seq (Evr.block (Evr.sr rfl (Opl.p1 (n := ?_))))))
  obtain ⟨c3, H⟩ := peel H
  obtain ⟨c4, H⟩ := peel H
  refine Opl.idx (M := (cInt .i64)) (xs := l0) (j := x12_1) (0 : Int) (by exact hv0) rfl (by omega) (by omega) K22 Z3 rfl rfl ?_
  rintro p1 q1 h1
  obtain rfl : p1 = [.lit (.int .i64 (rd l0 x12_1))] := h1
  refine Opl.lda (.lit (.int .i64 (rd l0 x12_1))) rfl T3 rfl rfl rfl rfl (Opl.p1 (n := Opl.p1 (n := Opl.nil (Evr.seq ?_))))
  refine Evr.join (fun tm S => ∃ (kq1 : Nat) (x41_1 : Bool), impl_ClauseValid.j1 kq1 l0 a1 l0 (l0.length : Int) x12_1 x41_1 = some r ∧ kq1 ≤ n1 ∧ Has tm [(0, v0), (1, .lit (.int .i64 a1)), (10, v0), (11, .lit (.int .i64 (l0.length : Int))), (12, .lit (.int .i64 x12_1)), (41, .lit (.bool x41_1))]) ?_ fun hk1 => ?_
  ·
   rintro tm S ⟨kq1, x41_1, H, hle, hh⟩
   rw [hh.eq]
   obtain _ | k1 := kq1
   · simp [impl_ClauseValid.j1] at H
   simp only [impl_ClauseValid.j1] at H
   by_cases c5 : x41_1 = true
   case pos =>
    rw [if_pos c5] at H
    obtain rfl : x41_1 = true := by simpa using c5
    refine Evr.condT rfl (Evr.sr rfl (Opl.p1 (n := Opl.nil ?_)))
    obtain rfl := Option.some.inj H
    refine Evr.ret1 Try.func42 rfl ?_
    show (.lit (.bool false) : PV) = _
    first | rfl | (simp only [go_sem]; rfl)
   rw [if_neg c5] at H
   obtain rfl : x41_1 = false := by simpa using c5
   refine Evr.condF rfl (Evr.skip (Evr.inBlock (Evr.regionN rfl (Opl.add (k := .i64) (a := x12_1) (b := 1) K3 rfl rfl rfl rfl (Opl.one (v := .lit (.int .i64 (wrap64 (x12_1 + 1)))) rfl rfl rfl (Opl.nil ?_))))))
   exact ih1 _ (by omega) _ _ ⟨by omega, _, H, ⟨rfl, rfl, rfl, rfl, rfl, trivial⟩⟩
  ·
   refine Evr.regionN rfl (Opl.p1 (n := Opl.p1 (n := Opl.one (v := .lit (.int .i64 (wrap64 (-a1)))) rfl rfl (by simp only [go_sem, Int.zero_sub, w64]; rfl) (Opl.one (v := .lit (.int .i64 a1)) rfl rfl rfl ?_))))
   obtain ⟨t314, h_t314, H⟩ := Option.bind_eq_some_iff.1 H
   refine Opl.callc (impl_in.ev h_t314) rfl rfl rfl rfl ⟨(.lit _), (.lit _), (.lit _), trivial⟩ (by decide) (Opl.p1 (n := Opl.one (v := .lit (.bool (!t314))) rfl rfl rfl ?_))
   by_cases c6 : t314 = true
   case neg =>
    rw [if_neg c6] at H
    have e8 : (!t314) = true := by simpa using c6
    try rw [e8]
    refine Opl.skp rfl (Opl.skp rfl (Opl.p1 (n := Opl.one (v := .lit (.bool true)) rfl rfl rfl (Opl.skp rfl (Opl.skp rfl (Opl.skp rfl (Opl.skp rfl (Opl.skp rfl (Opl.skp rfl (Opl.skp rfl (Opl.skp rfl (Opl.skp rfl (Opl.skp rfl (Opl.skp rfl (Opl.skp rfl (Opl.skp rfl (Opl.p1 (n := Opl.nil ?_))))))))))))))))))
    exact hk1 _ _ ⟨_, _, H, by omega, ⟨rfl, rfl, rfl, rfl, rfl, (by first | rfl | (show PV.lit (.bool _) = _; congr 2; simp_all)), trivial⟩⟩
   rw [if_pos c6] at H
   have e3 : (!t314) = false := by simpa using c6
   try rw [e3]
   refine Opl.one (v := .lit (.int .i64 (rd l0 x12_1))) rfl rfl rfl (Opl.p1 (n := Opl.p1 (n := Opl.one (v := .lit (.bool ((rd l0 x12_1) == 0))) rfl rfl rfl ?_)))
   by_cases c7 : (rd l0 x12_1) = 0
   case pos =>
    rw [if_pos c7] at H
    have e4 : ((rd l0 x12_1) == 0) = true := by simpa using c7
    try rw [e4]
    refine Opl.skp rfl (Opl.skp rfl (Opl.skp rfl (Opl.skp rfl (Opl.skp rfl (Opl.skp rfl (Opl.skp rfl (Opl.skp rfl (Opl.skp rfl (Opl.skp rfl (Opl.skp rfl (Opl.skp rfl (Opl.skp rfl (Opl.p1 (n := Opl.nil ?_))))))))))))))
    exact hk1 _ _ ⟨_, _, H, by omega, ⟨rfl, rfl, rfl, rfl, rfl, (by first | rfl | (show PV.lit (.bool _) = _; congr 2; simp_all)), trivial⟩⟩
   rw [if_neg c7] at H
   have e5 : ((rd l0 x12_1) == 0) = false := by simpa using c7
   try rw [e5]
   refine Opl.one (v := .lit (.int .i64 x12_1)) rfl rfl rfl (Opl.p1 (n := Opl.one (v := .lit (.bool (decide (x12_1 > 0)))) rfl rfl rfl ?_))
   by_cases c8 : x12_1 > 0
   case neg =>
    rw [if_neg c8] at H
    have e7 : (decide (x12_1 > 0)) = false := by simpa using c8
    try rw [e7]
    refine Opl.skp rfl (Opl.skp rfl (Opl.skp rfl (Opl.skp rfl (Opl.skp rfl (Opl.skp rfl (Opl.skp rfl (Opl.skp rfl (Opl.skp rfl (Opl.p1 (n := Opl.p1 (n := Opl.nil ?_)))))))))))
    exact hk1 _ _ ⟨_, _, H, by omega, ⟨rfl, rfl, rfl, rfl, rfl, (by first | rfl | (show PV.lit (.bool _) = _; congr 2; simp_all)), trivial⟩⟩
   rw [if_pos c8] at H
   have e6 : (decide (x12_1 > 0)) = true := by simpa using c8
   try rw [e6]
   refine Opl.one (v := v0) rfl rfl rfl (Opl.one (v := .lit (.int .i64 x12_1)) rfl rfl rfl (Opl.subi (k := .i64) (a := x12_1) (b := 1) K3 rfl rfl rfl rfl ?_))
   obtain ⟨c9, H⟩ := peel H
   obtain ⟨c10, H⟩ := peel H
   refine Opl.idx (M := (cInt .i64)) (xs := l0) (j := (wrap64 (x12_1 - 1))) (0 : Int) (by exact hv0) rfl (by omega) (by omega) K22 Z3 rfl rfl ?_
   rintro p2 q2 h2
   obtain rfl : p2 = [.lit (.int .i64 (rd l0 (wrap64 (x12_1 - 1))))] := h2
   refine Opl.lda (.lit (.int .i64 (rd l0 (wrap64 (x12_1 - 1))))) rfl T3 rfl rfl rfl rfl ?_
   obtain ⟨t316, h_t316, H⟩ := Option.bind_eq_some_iff.1 H
   refine Opl.callc (impl_atomOf.ev h_t316) rfl rfl rfl rfl ⟨(.lit _), trivial⟩ (by decide) (Opl.one (v := .lit (.int .i64 (rd l0 x12_1))) rfl rfl rfl ?_)
   obtain ⟨t317, h_t317, H⟩ := Option.bind_eq_some_iff.1 H
   refine Opl.callc (impl_atomOf.ev h_t317) rfl rfl rfl rfl ⟨(.lit _), trivial⟩ (by decide) (Opl.p1 (n := Opl.p1 (n := Opl.p1 (n := Opl.nil ?_))))
   exact hk1 _ _ ⟨_, _, H, by omega, ⟨rfl, rfl, rfl, rfl, rfl, (by first | rfl | (show PV.lit (.bool _) = _; congr 2; simp_all)), trivial⟩⟩
theorem impl_ClausesValid_1.ev {k : Nat} {l0 : List Int} {v0 : PV} (hv0 : Sl (cInt .i64) l0 v0) {a1_0 : Int} {l1_1 : List (List Int)} {v1_1 : PV} (hv1_1 : Sl (cSl (cInt .i64)) l1_1 v1_1) {r : Bool} (H : impl_ClausesValid_1.f k l0 a1_0 l1_1 = some r) : Ret Try.prog 69 [v0, .fel ((.lit (.int .i64 a1_0)) :: v1_1 :: [])] fun v S => v = .lit (.bool r) := by
 unfold impl_ClausesValid_1.f at H
 refine Ret.intro Try.func69 rfl (Nat.le_of_ble_eq_true rfl) rfl ?_
 rw [tm2]
 refine Evr.sr rfl (Opl.p1 (n := Opl.nil (Evr.sr rfl (Opl.p1 (n := Opl.p1 (v := .fel ((.lit (.int .i64 a1_0)) :: v1_1 :: [])) (n := Opl.lda (.lit (.int .i64 a1_0)) rfl T3 rfl rfl rfl rfl ?_))))))
 obtain ⟨t586, h_t586, H⟩ := Option.bind_eq_some_iff.1 H
 refine Opl.callc (impl_ClauseValid.ev hv0 h_t586) rfl rfl rfl rfl ⟨hv0.plain, (.lit _), trivial⟩ (by decide) (Opl.p1 (n := Opl.p1 (n := Opl.nil ?_)))
 obtain rfl := Option.some.inj H
 refine Evr.ret1 Try.func69 rfl ?_
 show (.lit (.bool (!t586)) : PV) = _
 first | rfl | (simp only [go_sem]; rfl)
theorem slices_IndexFunc_at_impl_ClausesValid_1.ev {k : Nat} {l0 : List (List Int)} {v0 : PV} (hv0 : Sl (cSl (cInt .i64)) l0 v0) {a2_0 : Int} {l2_1 : List (List Int)} {v2_1 : PV} (hv2_1 : Sl (cSl (cInt .i64)) l2_1 v2_1) {r : Int} (H : slices_IndexFunc_at_impl_ClausesValid_1.f k l0 a2_0 l2_1 = some r) : Ret Try.prog 91 [v0, .fn 69 [.fel ((.lit (.int .i64 a2_0)) :: v2_1 :: [])]] fun v S => v = .lit (.int .i64 r) := by
 unfold slices_IndexFunc_at_impl_ClausesValid_1.f at H
 refine Ret.intro Try.func91 rfl (Nat.le_of_ble_eq_true rfl) rfl ?_
 rw [tm2]
 refine Evr.sr rfl (Opl.p1 (n := Opl.nil (Evr.seq (Evr.sr rfl (Opl.p1 (n := Opl.len (xs := l0) (by exact hv0) K35 rfl rfl rfl rfl (Opl.p1 (n := Opl.nil (Evr.block ?_)))))))))
 refine Evr.loop (Evr.rounds (n := k) (Inv := fun n tm S => n ≤ k ∧ ∃ (x8_1 : Int), slices_IndexFunc_at_impl_ClausesValid_1.l0 n l0 (l0.length : Int) x8_1 a2_0 l2_1 = some r ∧ Has tm [(0, v0), (1, .fn 69 [.fel ((.lit (.int .i64 a2_0)) :: v2_1 :: [])]), (7, .lit (.int .i64 (l0.length : Int))), (8, .lit (.int .i64 x8_1))]) ?_ ?_ ?_)
 · exact ⟨Nat.le_refl _, _, H, ⟨rfl, rfl, rfl, rfl, trivial⟩⟩
 ·
  rintro tm S ⟨_, _, H, -⟩
  simp [slices_IndexFunc_at_impl_ClausesValid_1.l0] at H
 ·
  rintro n1 ih1 tm S ⟨hle, x8_1, H, hh⟩
  simp only [slices_IndexFunc_at_impl_ClausesValid_1.l0] at H
  rw [hh.eq]
  refine Evr.sr rfl (Opl.p1 (n := Opl.nil (Evr.seq ?_)))
  by_cases c1 : x8_1 < (l0.length : Int)
  case neg =>
   rw [if_neg c1] at H
   have e2 : (decide (x8_1 < (l0.length : Int))) = false := by simpa using c1
   try rw [e2]
   refine Evr.condF rfl (Evr.exit rfl (Evr.sr rfl (Opl.p1 (n := Opl.nil ?_))))
   obtain rfl := Option.some.inj H
   refine Evr.ret1 Try.func91 rfl ?_
   show (.lit (.int .i64 (-1)) : PV) = _
   first | rfl | (simp only [go_sem]; rfl)
  rw [if_pos c1] at H
  have e1 : (decide (x8_1 < (l0.length : Int))) = true := by simpa using c1
  try rw [e1]
  refine Evr.condT rfl (Evr.skip (Evr.seq (Evr.block (Evr.sr rfl (Opl.p1 (n := Opl.p1 (n := Opl.nil (Evr.sr rfl (Opl.p1 (n := Opl.p1 (n := Opl.p1 (n := ?_))))))))))))
  obtain ⟨c2, H⟩ := peel H
  obtain ⟨c3, H⟩ := peel H
  refine Opl.idx (M := (cSl (cInt .i64))) (xs := l0) (j := x8_1) ([] : List Int) (by exact hv0) rfl (by omega) (by omega) K35 Z22 rfl rfl ?_
  rintro p1 q1 h1
  obtain ⟨pv1, rfl, h2⟩ := h1
  refine Opl.lda (pv1) rfl T22 rfl rfl rfl rfl ?_
  obtain ⟨t589, h_t589, H⟩ := Option.bind_eq_some_iff.1 H
  refine Opl.callc (impl_ClausesValid_1.ev h2 hv2_1 h_t589) rfl rfl rfl rfl ⟨h2.plain, (.felL ⟨(.lit _), hv2_1.plain, trivial⟩), trivial⟩ (by decide) (Opl.nil ?_)
  by_cases c4 : t589 = true
  case pos =>
   rw [if_pos c4] at H
   obtain rfl : t589 = true := by simpa using c4
   refine Evr.condT rfl (Evr.sr rfl (Opl.p1 (n := Opl.p1 (n := Opl.nil ?_))))
   obtain rfl := Option.some.inj H
   refine Evr.ret1 Try.func91 rfl ?_
   show (.lit (.int .i64 x8_1) : PV) = _
   first | rfl | (simp only [go_sem]; rfl)
  rw [if_neg c4] at H
  obtain rfl : t589 = false := by simpa using c4
  refine Evr.condF rfl (Evr.skip (Evr.inBlock (Evr.regionN rfl (Opl.add (k := .i64) (a := x8_1) (b := 1) K3 rfl rfl rfl rfl (Opl.one (v := .lit (.int .i64 (wrap64 (x8_1 + 1)))) rfl rfl rfl (Opl.nil ?_))))))
  exact ih1 _ (by omega) _ _ ⟨by omega, _, H, ⟨rfl, rfl, rfl, rfl, trivial⟩⟩
theorem slices_ContainsFunc_at_impl_ClausesValid_1.ev {k : Nat} {l0 : List (List Int)} {v0 : PV} (hv0 : Sl (cSl (cInt .i64)) l0 v0) {a2_0 : Int} {l2_1 : List (List Int)} {v2_1 : PV} (hv2_1 : Sl (cSl (cInt .i64)) l2_1 v2_1) {r : Bool} (H : slices_ContainsFunc_at_impl_ClausesValid_1.f k l0 a2_0 l2_1 = some r) : Ret Try.prog 68 [v0, .fn 69 [.fel ((.lit (.int .i64 a2_0)) :: v2_1 :: [])]] fun v S => v = .lit (.bool r) := by
 unfold slices_ContainsFunc_at_impl_ClausesValid_1.f at H
 refine Ret.intro Try.func68 rfl (Nat.le_of_ble_eq_true rfl) rfl ?_
 rw [tm2]
 refine Evr.sr rfl (Opl.p1 (n := Opl.nil (Evr.sr rfl (Opl.p1 (n := Opl.p1 (n := ?_))))))
 obtain ⟨t591, h_t591, H⟩ := Option.bind_eq_some_iff.1 H
 refine Opl.callc (slices_IndexFunc_at_impl_ClausesValid_1.ev hv0 hv2_1 h_t591) rfl rfl rfl rfl ⟨hv0.plain, (.fnL ⟨(.felL ⟨(.lit _), hv2_1.plain, trivial⟩), trivial⟩), trivial⟩ (by decide) (Opl.p1 (n := Opl.p1 (n := Opl.nil ?_)))
 obtain rfl := Option.some.inj H
 refine Evr.ret1 Try.func68 rfl ?_
 show (.lit (.bool (decide (t591 ≥ 0))) : PV) = _
 first | rfl | (simp only [go_sem]; rfl)
theorem impl_ClausesValid.ev {k : Nat} {a0_0 : Int} {l0_1 : List (List Int)} {v0_1 : PV} (hv0_1 : Sl (cSl (cInt .i64)) l0_1 v0_1) {r : Bool} (H : impl_ClausesValid.f k a0_0 l0_1 = some r) : Ret Try.prog 30 [.agg [.lit (.int .i64 a0_0), v0_1]] fun v S => v = .lit (.bool r) := by
 unfold impl_ClausesValid.f at H
 refine Ret.intro Try.func30 rfl (Nat.le_of_ble_eq_true rfl) rfl ?_
 rw [tm1]
 refine Evr.sr rfl (Opl.box (cs := [.lit (.int .i64 a0_0), v0_1]) rfl rfl rfl rfl ?_)
 rintro i1 S h1 u1 w1
 refine Opl.p1 (n := Opl.nil (Evr.sr rfl (Opl.p1 (v := .ptr i1 0) (n := Opl.ldb (v := .lit (.int .i64 a0_0)) h1 rfl T3 rfl rfl rfl rfl ?_))))
 obtain ⟨t593, h_t593, H⟩ := Option.bind_eq_some_iff.1 H
 refine Opl.callc (impl_in.ev h_t593) rfl rfl rfl rfl ⟨(.lit _), (.lit _), (.lit _), trivial⟩ (by decide) (Opl.p1 (n := ?_))
 by_cases c1 : t593 = true
 case neg =>
  rw [if_neg c1] at H
  obtain rfl : t593 = false := by simpa using c1
  refine Opl.skp rfl (Opl.skp rfl (Opl.skp rfl (Opl.skp rfl (Opl.p1 (n := Opl.p1 (n := Opl.skp rfl (Opl.skp rfl (Opl.skp rfl (Opl.skp rfl (Opl.skp rfl (Opl.p1 (n := Opl.p1 (n := Opl.nil ?_)))))))))))))
  obtain rfl := Option.some.inj H
  refine Evr.ret1 Try.func30 rfl ?_
  show (.lit (.bool false) : PV) = _
  first | rfl | (simp only [go_sem]; rfl)
 rw [if_pos c1] at H
 obtain rfl : t593 = true := by simpa using c1
 refine Opl.p1 (v := .ptr i1 1) (n := Opl.ldb (v := v0_1) h1 rfl T35 rfl rfl rfl rfl (Opl.len (xs := l0_1) (by exact hv0_1) K35 rfl rfl rfl rfl (Opl.p1 (n := Opl.p1 (n := Opl.p1 (n := ?_))))))
 by_cases c2 : (l0_1.length : Int) ≤ 2500
 case neg =>
  rw [if_neg c2] at H
  have e2 : (decide ((l0_1.length : Int) ≤ 2500)) = false := by simpa using c2
  try rw [e2]
  refine Opl.skp rfl (Opl.skp rfl (Opl.skp rfl (Opl.skp rfl (Opl.skp rfl (Opl.p1 (n := Opl.p1 (n := Opl.nil ?_)))))))
  obtain rfl := Option.some.inj H
  refine Evr.ret1 Try.func30 rfl ?_
  show (.lit (.bool false) : PV) = _
  first | rfl | (simp only [go_sem]; rfl)
 rw [if_pos c2] at H
 have e1 : (decide ((l0_1.length : Int) ≤ 2500)) = true := by simpa using c2
 try rw [e1]
 refine Opl.p1 (v := .ptr i1 1) (n := Opl.ldb (v := v0_1) h1 rfl T35 rfl rfl rfl rfl (Opl.p1 (n := ?_)))
 obtain ⟨t594, h_t594, H⟩ := Option.bind_eq_some_iff.1 H
 refine Opl.callw (slices_ContainsFunc_at_impl_ClausesValid_1.ev hv0_1 hv0_1 h_t594) rfl rfl rfl (.cons (.refl _) (.cons (View.fnV (.cons (View.boxV h1 (.cons (.refl _) (.cons (.refl _) .nil))) .nil)) .nil)) ⟨hv0_1.plain, (.fnL ⟨(.felL ⟨(.lit _), hv0_1.plain, trivial⟩), trivial⟩), trivial⟩ (by decide) (Opl.p1 (n := Opl.p1 (n := Opl.p1 (n := Opl.nil ?_))))
 obtain rfl := Option.some.inj H
 refine Evr.ret1 Try.func30 rfl ?_
 show (.lit (.bool (!t594)) : PV) = _
 first | rfl | (simp only [go_sem]; rfl)
theorem impl_edgeOf.ev {l0 : List Int} {v0 : PV} (hv0 : Sl (cInt .i64) l0 v0) {a1 : Int} {r : Int} (H : impl_edgeOf.f l0 a1 = some r) : Ret Try.prog 67 [v0, .lit (.int .i64 a1)] fun v S => v = .lit (.int .i64 r) := by
 unfold impl_edgeOf.f at H
 refine Ret.intro Try.func67 rfl (Nat.le_of_ble_eq_true rfl) rfl ?_
 rw [tm2]
 refine Evr.sr rfl (Opl.p1 (n := Opl.nil (Evr.sr rfl (Opl.p1 (n := Opl.p1 (n := ?_))))))
 obtain ⟨c1, H⟩ := peel H
 obtain ⟨c2, H⟩ := peel H
 refine Opl.one (v := .lit (.int .i64 (wrap64 (Int.tdiv a1 2)))) rfl rfl (by simp only [go_sem]; rw [if_neg (by first | assumption | decide | omega)]; rfl) (Opl.idx (M := (cInt .i64)) (xs := l0) (j := (wrap64 (Int.tdiv a1 2))) (0 : Int) (by exact hv0) rfl (by omega) (by omega) K22 Z3 rfl rfl ?_)
 rintro p1 q1 h1
 obtain rfl : p1 = [.lit (.int .i64 (rd l0 (wrap64 (Int.tdiv a1 2))))] := h1
 refine Opl.lda (.lit (.int .i64 (rd l0 (wrap64 (Int.tdiv a1 2))))) rfl T3 rfl rfl rfl rfl (Opl.one (v := .lit (.int .i64 a1)) rfl rfl rfl (Opl.one (v := .lit (.int .i64 (Go.bits .and .i64 a1 1))) rfl rfl (by simp only [go_sem]; simp only [Go.bits, w64]; rfl) (Opl.one (v := .lit (.int .i64 (Go.bits .xor .i64 (rd l0 (wrap64 (Int.tdiv a1 2))) (Go.bits .and .i64 a1 1)))) rfl rfl (by simp only [go_sem]; simp only [Go.bits, w64]; rfl) (Opl.one (v := .lit (.int .i64 (Go.bits .xor .i64 (rd l0 (wrap64 (Int.tdiv a1 2))) (Go.bits .and .i64 a1 1)))) rfl rfl rfl (Opl.nil ?_)))))
 obtain rfl := Option.some.inj H
 refine Evr.ret1 Try.func67 rfl ?_
 show (.lit (.int .i64 (Go.bits .xor .i64 (rd l0 (wrap64 (Int.tdiv a1 2))) (Go.bits .and .i64 a1 1))) : PV) = _
 first | rfl | (simp only [go_sem]; rfl)
theorem impl_Circuit_values.ev {k : Nat} {a0_0 : Int} {l0_1 : List IAnd} {v0_1 : PV} (hv0_1 : Sl cIAnd l0_1 v0_1) {l1 : List Int} {v1 : PV} (hv1 : Sl (cInt .i64) l1 v1) {r : (List Int)} (H : impl_Circuit_values.f k a0_0 l0_1 l1 = some r) : Ret Try.prog 65 [.agg [.lit (.int .i64 a0_0), v0_1], v1] fun v S => Vec (cInt .i64) r v S := by
 unfold impl_Circuit_values.f at H
 refine Ret.intro Try.func65 rfl (Nat.le_of_ble_eq_true rfl) rfl ?_
 rw [tm2]
 refine Evr.sr rfl (Opl.box (cs := [.lit (.int .i64 a0_0), v0_1]) rfl rfl rfl rfl ?_)
 rintro i1 S h1 u1 w1
 refine Opl.p1 (n := Opl.nil (Evr.sr rfl (Opl.lits (M := (cInt .i64)) (ys := [0]) [.const (.int .i64 0)] K22 T3 rfl rfl rfl (by exact ⟨rfl, trivial⟩) rfl (by decide) rfl rfl rfl ?_)))
 rintro pv1 S h2 u2 w2
 have ap1 := w2.box h1
 have h3 := u2.box h1 ap1
 refine Opl.p1 (n := ?_)
 obtain ⟨y563, hy_, H⟩ := Option.bind_eq_some_iff.1 H
 obtain rfl := Option.some.inj hy_
 obtain ⟨c1, H⟩ := peel H
 refine Opl.app (M := (cInt .i64)) (xs := [0]) (ys := l1) (v := pv1) h2 (.sl hv1) (oInt .i64) rfl rfl K22 T3 rfl rfl (by (try simp only [List.length_cons, List.length_nil]); omega) (by show (_ + _) * 8 ≤ 140737488355328; (try simp only [List.length_cons, List.length_nil]); omega) rfl rfl rfl rfl rfl ?_
 rintro pv2 S h4 u3 w3
 have ap2 := w3.box h3
 have h5 := u3.box h3 ap1
 refine Opl.p1 (n := Opl.nil (Evr.seq (Evr.sr rfl (Opl.p1 (v := .ptr i1 1) (n := Opl.ldb (v := v0_1) h5 rfl T40 rfl rfl rfl rfl (Opl.len (xs := l0_1) (by exact hv0_1) K40 rfl rfl rfl rfl (Opl.p1 (n := Opl.nil (Evr.block ?_)))))))))
 refine Evr.loop (Evr.rounds (n := k) (Inv := fun n tm S => n ≤ k ∧ ∃ (x5_1 : List Int) (x14_1 : Int) (pv3 : PV), impl_Circuit_values.l0 n x5_1 l0_1 (l0_1.length : Int) x14_1 = some r ∧ Has tm [(5, pv3), (12, v0_1), (13, .lit (.int .i64 (l0_1.length : Int))), (14, .lit (.int .i64 x14_1))] ∧ Vec (cInt .i64) x5_1 pv3 S) ?_ ?_ ?_)
 · exact ⟨Nat.le_refl _, _, _, _, H, ⟨rfl, rfl, rfl, rfl, trivial⟩, h4⟩
 ·
  rintro tm S ⟨_, _, _, _, H, -⟩
  simp [impl_Circuit_values.l0] at H
 ·
  rintro n1 ih1 tm S ⟨hle, x5_1, x14_1, pv3, H, hh, h6⟩
  simp only [impl_Circuit_values.l0] at H
  rw [hh.eq]
  refine Evr.sr rfl (Opl.p1 (n := Opl.nil (Evr.seq ?_)))
  by_cases c2 : x14_1 < (l0_1.length : Int)
  case neg =>
   rw [if_neg c2] at H
   have e2 : (decide (x14_1 < (l0_1.length : Int))) = false := by simpa using c2
   try rw [e2]
   refine Evr.condF rfl (Evr.exit rfl (Evr.sr rfl (Opl.p1 (n := Opl.p1 (n := Opl.nil ?_)))))
   obtain rfl := Option.some.inj H
   refine Evr.ret1 Try.func65 rfl ?_
   show Vec _ _ pv3 _
   exact h6
  rw [if_pos c2] at H
  have e1 : (decide (x14_1 < (l0_1.length : Int))) = true := by simpa using c2
  try rw [e1]
  refine Evr.condT rfl (Evr.skip (Evr.seq (Evr.block (Evr.sr rfl ?_))))
  obtain ⟨c3, H⟩ := peel H
  obtain ⟨c4, H⟩ := peel H
  refine Opl.idx (M := cIAnd) (xs := l0_1) (j := x14_1) zIAnd (by exact hv0_1) rfl (by omega) (by omega) K40 Z69 rfl rfl ?_
  rintro p1 q1 h7
  obtain rfl := cIAnd_R (x := (rd_IAnd l0_1 x14_1)) h7
  refine Opl.lda (.agg [.lit (.int .i64 ((rd_IAnd l0_1 x14_1).f0)), .lit (.int .i64 ((rd_IAnd l0_1 x14_1).f1))]) rfl T69 rfl rfl rfl rfl (Opl.alloc T69 rfl rfl rfl ?_)
  rintro i2 S h8 u4 w4
  have ap3 := w4.vec h6
  have h9 := u4.vec h6 ap3
  refine Opl.stb (vs := [.lit (.int .i64 ((rd_IAnd l0_1 x14_1).f0)), .lit (.int .i64 ((rd_IAnd l0_1 x14_1).f1))]) h8 rfl rfl Z69 rfl (Nat.le_of_ble_eq_true rfl) rfl rfl rfl rfl ?_
  rintro S (h10 : Box (.ptr i2 0) [.lit (.int .i64 ((rd_IAnd l0_1 x14_1).f0)), .lit (.int .i64 ((rd_IAnd l0_1 x14_1).f1))] _) u5
  have h11 := u5.vec h9 ap3
  refine Opl.nil (Evr.regionD rfl (by kernel_rfl) (Opl.p1 (n := Opl.p1 (n := Opl.p1 (v := .ptr i2 0) (n := Opl.ldb (v := .lit (.int .i64 ((rd_IAnd l0_1 x14_1).f0))) h10 rfl T3 rfl rfl rfl rfl ?_)))))
  obtain ⟨t571, h_t571, H⟩ := Option.bind_eq_some_iff.1 H
  obtain ⟨pv4, h12, -, h13⟩ := Out.vec h11
  refine Opl.callw (impl_edgeOf.ev h13 h_t571) rfl rfl rfl (.cons h12 (.cons (.refl _) .nil)) ⟨h13.plain, (.lit _), trivial⟩ (by decide) (Opl.p1 (n := Opl.p1 (v := .ptr i2 1) (n := Opl.ldb (v := .lit (.int .i64 ((rd_IAnd l0_1 x14_1).f1))) h10 rfl T3 rfl rfl rfl rfl ?_)))
  obtain ⟨t572, h_t572, H⟩ := Option.bind_eq_some_iff.1 H
  obtain ⟨pv5, h14, -, h15⟩ := Out.vec h11
  refine Opl.callw (impl_edgeOf.ev h15 h_t572) rfl rfl rfl (.cons h14 (.cons (.refl _) .nil)) ⟨h15.plain, (.lit _), trivial⟩ (by decide) ?_
  obtain ⟨c5, H⟩ := peel H
  refine Opl.one (v := .lit (.int .i64 (Go.bits .and .i64 t571 t572))) rfl rfl (by simp only [go_sem]; simp only [Go.bits, w64]; rfl) (Opl.lits (M := (cInt .i64)) (ys := [(Go.bits .and .i64 t571 t572)]) [.tmp 27] K22 T3 rfl rfl rfl (by exact ⟨rfl, trivial⟩) rfl (by decide) rfl rfl rfl ?_)
  rintro pv6 S h16 u6 w6
  have ap4 := w6.vec h11
  have h17 := u6.vec h11 ap4
  have ap5 := w6.box h10
  have h18 := u6.box h10 ap5
  refine Opl.app (M := (cInt .i64)) (xs := x5_1) (ys := [(Go.bits .and .i64 t571 t572)]) (v := pv3) h17 (.vec h16) (oInt .i64) rfl rfl K22 T3 rfl rfl (by (try simp only [List.length_cons, List.length_nil]); omega) (by show (_ + _) * 8 ≤ 140737488355328; (try simp only [List.length_cons, List.length_nil]); omega) rfl rfl rfl rfl rfl ?_
  rintro pv7 S h19 u7 w7
  have ap6 := w7.box h18
  have h20 := u7.box h18 ap3.symm
  have ap7 := w7.vec h16
  have h21 := u7.vec h16 ap4.symm
  refine Opl.p1 (n := Opl.nil (Evr.inBlock (Evr.regionN rfl (Opl.add (k := .i64) (a := x14_1) (b := 1) K3 rfl rfl rfl rfl (Opl.one (v := .lit (.int .i64 (wrap64 (x14_1 + 1)))) rfl rfl rfl (Opl.nil ?_))))))
  exact ih1 _ (by omega) _ _ ⟨by omega, _, _, _, H, ⟨rfl, rfl, rfl, rfl, trivial⟩, h19⟩
theorem impl_bitsValid_1.ev {a0 : Int} {r : Bool} (H : impl_bitsValid_1.f a0 = some r) : Ret Try.prog 87 [.lit (.int .i64 a0)] fun v S => v = .lit (.bool r) := by
 unfold impl_bitsValid_1.f at H
 refine Ret.intro Try.func87 rfl (Nat.le_of_ble_eq_true rfl) rfl ?_
 rw [tm1]
 refine Evr.sr rfl (Opl.p1 (n := Opl.nil (Evr.sr rfl (Opl.p1 (n := ?_)))))
 obtain ⟨t556, h_t556, H⟩ := Option.bind_eq_some_iff.1 H
 refine Opl.callc (impl_in.ev h_t556) rfl rfl rfl rfl ⟨(.lit _), (.lit _), (.lit _), trivial⟩ (by decide) (Opl.p1 (n := Opl.p1 (n := Opl.nil ?_)))
 obtain rfl := Option.some.inj H
 refine Evr.ret1 Try.func87 rfl ?_
 show (.lit (.bool (!t556)) : PV) = _
 first | rfl | (simp only [go_sem]; rfl)
theorem slices_IndexFunc_at_impl_bitsValid_1.ev {k : Nat} {l0 : List Int} {v0 : PV} (hv0 : Sl (cInt .i64) l0 v0) {r : Int} (H : slices_IndexFunc_at_impl_bitsValid_1.f k l0 = some r) : Ret Try.prog 71 [v0, .lit (.func (.func 87) #[] #[])] fun v S => v = .lit (.int .i64 r) := by
 unfold slices_IndexFunc_at_impl_bitsValid_1.f at H
 refine Ret.intro Try.func71 rfl (Nat.le_of_ble_eq_true rfl) rfl ?_
 rw [tm2]
 refine Evr.sr rfl (Opl.p1 (n := Opl.nil (Evr.seq (Evr.sr rfl (Opl.p1 (n := Opl.len (xs := l0) (by exact hv0) K22 rfl rfl rfl rfl (Opl.p1 (n := Opl.nil (Evr.block ?_)))))))))
 refine Evr.loop (Evr.rounds (n := k) (Inv := fun n tm S => n ≤ k ∧ ∃ (x8_1 : Int), slices_IndexFunc_at_impl_bitsValid_1.l0 n l0 (l0.length : Int) x8_1 = some r ∧ Has tm [(0, v0), (1, .lit (.func (.func 87) #[] #[])), (7, .lit (.int .i64 (l0.length : Int))), (8, .lit (.int .i64 x8_1))]) ?_ ?_ ?_)
 · exact ⟨Nat.le_refl _, _, H, ⟨rfl, rfl, rfl, rfl, trivial⟩⟩
 ·
  rintro tm S ⟨_, _, H, -⟩
  simp [slices_IndexFunc_at_impl_bitsValid_1.l0] at H
 ·
  rintro n1 ih1 tm S ⟨hle, x8_1, H, hh⟩
  simp only [slices_IndexFunc_at_impl_bitsValid_1.l0] at H
  rw [hh.eq]
  refine Evr.sr rfl (Opl.p1 (n := Opl.nil (Evr.seq ?_)))
  by_cases c1 : x8_1 < (l0.length : Int)
  case neg =>
   rw [if_neg c1] at H
   have e2 : (decide (x8_1 < (l0.length : Int))) = false := by simpa using c1
   try rw [e2]
   refine Evr.condF rfl (Evr.exit rfl (Evr.sr rfl (Opl.p1 (n := Opl.nil ?_))))
   obtain rfl := Option.some.inj H
   refine Evr.ret1 Try.func71 rfl ?_
   show (.lit (.int .i64 (-1)) : PV) = _
   first | rfl | (simp only [go_sem]; rfl)
  rw [if_pos c1] at H
  have e1 : (decide (x8_1 < (l0.length : Int))) = true := by simpa using c1
  try rw [e1]
  refine Evr.condT rfl (Evr.skip (Evr.seq (Evr.block (Evr.sr rfl (Opl.p1 (n := Opl.p1 (n := Opl.nil (Evr.sr rfl (Opl.p1 (n := Opl.p1 (n := Opl.p1 (n := ?_))))))))))))
  obtain ⟨c2, H⟩ := peel H
  obtain ⟨c3, H⟩ := peel H
  refine Opl.idx (M := (cInt .i64)) (xs := l0) (j := x8_1) (0 : Int) (by exact hv0) rfl (by omega) (by omega) K22 Z3 rfl rfl ?_
  rintro p1 q1 h1
  obtain rfl : p1 = [.lit (.int .i64 (rd l0 x8_1))] := h1
  refine Opl.lda (.lit (.int .i64 (rd l0 x8_1))) rfl T3 rfl rfl rfl rfl ?_
  obtain ⟨t558, h_t558, H⟩ := Option.bind_eq_some_iff.1 H
  refine Opl.callc (impl_bitsValid_1.ev h_t558) rfl rfl rfl rfl ⟨(.lit _), trivial⟩ (by decide) (Opl.nil ?_)
  by_cases c4 : t558 = true
  case pos =>
   rw [if_pos c4] at H
   obtain rfl : t558 = true := by simpa using c4
   refine Evr.condT rfl (Evr.sr rfl (Opl.p1 (n := Opl.p1 (n := Opl.nil ?_))))
   obtain rfl := Option.some.inj H
   refine Evr.ret1 Try.func71 rfl ?_
   show (.lit (.int .i64 x8_1) : PV) = _
   first | rfl | (simp only [go_sem]; rfl)
  rw [if_neg c4] at H
  obtain rfl : t558 = false := by simpa using c4
  refine Evr.condF rfl (Evr.skip (Evr.inBlock (Evr.regionN rfl (Opl.add (k := .i64) (a := x8_1) (b := 1) K3 rfl rfl rfl rfl (Opl.one (v := .lit (.int .i64 (wrap64 (x8_1 + 1)))) rfl rfl rfl (Opl.nil ?_))))))
  exact ih1 _ (by omega) _ _ ⟨by omega, _, H, ⟨rfl, rfl, rfl, rfl, trivial⟩⟩
theorem slices_ContainsFunc_at_impl_bitsValid_1.ev {k : Nat} {l0 : List Int} {v0 : PV} (hv0 : Sl (cInt .i64) l0 v0) {r : Bool} (H : slices_ContainsFunc_at_impl_bitsValid_1.f k l0 = some r) : Ret Try.prog 35 [v0, .lit (.func (.func 87) #[] #[])] fun v S => v = .lit (.bool r) := by
 unfold slices_ContainsFunc_at_impl_bitsValid_1.f at H
 refine Ret.intro Try.func35 rfl (Nat.le_of_ble_eq_true rfl) rfl ?_
 rw [tm2]
 refine Evr.sr rfl (Opl.p1 (n := Opl.nil (Evr.sr rfl (Opl.p1 (n := Opl.p1 (n := ?_))))))
 obtain ⟨t559, h_t559, H⟩ := Option.bind_eq_some_iff.1 H
 refine Opl.callc (slices_IndexFunc_at_impl_bitsValid_1.ev hv0 h_t559) rfl rfl rfl rfl ⟨hv0.plain, (.lit _), trivial⟩ (by decide) (Opl.p1 (n := Opl.p1 (n := Opl.nil ?_)))
 obtain rfl := Option.some.inj H
 refine Evr.ret1 Try.func35 rfl ?_
 show (.lit (.bool (decide (t559 ≥ 0))) : PV) = _
 first | rfl | (simp only [go_sem]; rfl)
theorem impl_bitsValid.ev {k : Nat} {l0 : List Int} {v0 : PV} (hv0 : Sl (cInt .i64) l0 v0) {r : Bool} (H : impl_bitsValid.f k l0 = some r) : Ret Try.prog 63 [v0] fun v S => v = .lit (.bool r) := by
 unfold impl_bitsValid.f at H
 refine Ret.intro Try.func63 rfl (Nat.le_of_ble_eq_true rfl) rfl ?_
 rw [tm1]
 refine Evr.sr rfl (Opl.p1 (n := Opl.nil (Evr.sr rfl (Opl.p1 (n := ?_)))))
 obtain ⟨t560, h_t560, H⟩ := Option.bind_eq_some_iff.1 H
 refine Opl.callc (slices_ContainsFunc_at_impl_bitsValid_1.ev hv0 h_t560) rfl rfl rfl rfl ⟨hv0.plain, (.lit _), trivial⟩ (by decide) (Opl.p1 (n := Opl.p1 (n := Opl.nil ?_)))
 obtain rfl := Option.some.inj H
 refine Evr.ret1 Try.func63 rfl ?_
 show (.lit (.bool (!t560)) : PV) = _
 first | rfl | (simp only [go_sem]; rfl)
theorem impl_EdgeValue.ev {k : Nat} {a0_0 : Int} {l0_1 : List IAnd} {v0_1 : PV} (hv0_1 : Sl cIAnd l0_1 v0_1) {l1 : List Int} {v1 : PV} (hv1 : Sl (cInt .i64) l1 v1) {a2 : Int} {r : Int} (H : impl_EdgeValue.f k a0_0 l0_1 l1 a2 = some r) : Ret Try.prog 27 [.agg [.lit (.int .i64 a0_0), v0_1], v1, .lit (.int .i64 a2)] fun v S => v = .lit (.int .i64 r) := by
 unfold impl_EdgeValue.f at H
 refine Ret.intro Try.func27 rfl (Nat.le_of_ble_eq_true rfl) rfl ?_
 rw [tm3]
 refine Evr.sr rfl (Opl.box (cs := [.lit (.int .i64 a0_0), v0_1]) rfl rfl rfl rfl ?_)
 rintro i1 S h1 u1 w1
 refine Opl.p1 (n := Opl.nil (Evr.seq (Evr.seq ?_)))
 refine Evr.join (fun tm S => ∃ (kq1 : Nat) (x27_1 : Bool) (i2 : Abs.Id), impl_EdgeValue.j0 kq1 l1 a2 x27_1 a0_0 l0_1 = some r ∧ Has tm [(1, v1), (2, .lit (.int .i64 a2)), (3, .ptr i2 0), (27, .lit (.bool x27_1))] ∧ Box (.ptr i2 0) [.lit (.int .i64 a0_0), v0_1] S) ?_ fun hk1 => ?_
 ·
  rintro tm S ⟨kq1, x27_1, i2, H, hh, h2⟩
  rw [hh.eq]
  obtain _ | k1 := kq1
  · simp [impl_EdgeValue.j0] at H
  simp only [impl_EdgeValue.j0] at H
  by_cases c1 : x27_1 = true
  case pos =>
   rw [if_pos c1] at H
   obtain rfl : x27_1 = true := by simpa using c1
   refine Evr.condT rfl (Evr.sr rfl (Opl.p1 (n := Opl.nil ?_)))
   obtain rfl := Option.some.inj H
   refine Evr.ret1 Try.func27 rfl ?_
   show (.lit (.int .i64 (-1)) : PV) = _
   first | rfl | (simp only [go_sem]; rfl)
  rw [if_neg c1] at H
  obtain rfl : x27_1 = false := by simpa using c1
  refine Evr.condF rfl (Evr.skip (Evr.sr rfl (Opl.ldb (v := .agg [.lit (.int .i64 a0_0), v0_1]) h2 rfl T42 rfl rfl rfl rfl (Opl.p1 (n := ?_)))))
  obtain ⟨t605, h_t605, H⟩ := Option.bind_eq_some_iff.1 H
  refine Opl.call ((impl_Circuit_values.ev hv0_1 hv1 h_t605).mono fun _ _ h => Out.vec h) rfl rfl rfl rfl ⟨(.aggL ⟨(.lit _), hv0_1.plain, trivial⟩), hv1.plain, trivial⟩ (by decide) ?_
  rintro pv1 h3
  refine Opl.p1 (n := ?_)
  obtain ⟨t608, h_t608, H⟩ := Option.bind_eq_some_iff.1 H
  refine Opl.callc (impl_edgeOf.ev h3 h_t608) rfl rfl rfl rfl ⟨h3.plain, (.lit _), trivial⟩ (by decide) (Opl.p1 (n := Opl.nil ?_))
  obtain rfl := Option.some.inj H
  refine Evr.ret1 Try.func27 rfl ?_
  show (.lit (.int .i64 t608) : PV) = _
  first | rfl | (simp only [go_sem]; rfl)
 ·
  refine Evr.regionN rfl (Opl.ldb (v := .agg [.lit (.int .i64 a0_0), v0_1]) h1 rfl T42 rfl rfl rfl rfl ?_)
  obtain ⟨t602, h_t602, H⟩ := Option.bind_eq_some_iff.1 H
  refine Opl.callc (impl_CircuitValid.ev hv0_1 h_t602) rfl rfl rfl rfl ⟨(.aggL ⟨(.lit _), hv0_1.plain, trivial⟩), trivial⟩ (by decide) (Opl.p1 (n := Opl.p1 (n := ?_)))
  by_cases c2 : t602 = true
  case neg =>
   rw [if_neg c2] at H
   have e6 : (!t602) = true := by simpa using c2
   try rw [e6]
   refine Opl.skp rfl (Opl.skp rfl (Opl.skp rfl (Opl.skp rfl (Opl.skp rfl (Opl.p1 (n := Opl.p1 (n := Opl.skp rfl (Opl.skp rfl (Opl.skp rfl (Opl.p1 (n := Opl.p1 (n := Opl.skp rfl (Opl.skp rfl (Opl.skp rfl (Opl.skp rfl (Opl.p1 (n := Opl.nil ?_)))))))))))))))))
   exact hk1 _ _ ⟨_, _, _, H, ⟨rfl, rfl, rfl, (by first | rfl | (show PV.lit (.bool _) = _; congr 2; simp_all)), trivial⟩, h1⟩
  rw [if_pos c2] at H
  have e1 : (!t602) = false := by simpa using c2
  try rw [e1]
  refine Opl.p1 (n := Opl.len (xs := l1) (by exact hv1) K22 rfl rfl rfl rfl (Opl.p1 (v := .ptr i1 0) (n := Opl.ldb (v := .lit (.int .i64 a0_0)) h1 rfl T3 rfl rfl rfl rfl (Opl.p1 (n := Opl.p1 (n := Opl.p1 (n := ?_)))))))
  by_cases c3 : (l1.length : Int) = a0_0
  case neg =>
   rw [if_neg c3] at H
   have e5 : ((l1.length : Int) != a0_0) = true := by simpa using c3
   try rw [e5]
   refine Opl.skp rfl (Opl.skp rfl (Opl.skp rfl (Opl.p1 (n := Opl.p1 (n := Opl.skp rfl (Opl.skp rfl (Opl.skp rfl (Opl.skp rfl (Opl.p1 (n := Opl.nil ?_))))))))))
   exact hk1 _ _ ⟨_, _, _, H, ⟨rfl, rfl, rfl, (by first | rfl | (show PV.lit (.bool _) = _; congr 2; simp_all)), trivial⟩, h1⟩
  rw [if_pos c3] at H
  have e2 : ((l1.length : Int) != a0_0) = false := by simpa using c3
  try rw [e2]
  refine Opl.p1 (n := ?_)
  obtain ⟨t603, h_t603, H⟩ := Option.bind_eq_some_iff.1 H
  refine Opl.callc (impl_bitsValid.ev hv1 h_t603) rfl rfl rfl rfl ⟨hv1.plain, trivial⟩ (by decide) (Opl.p1 (n := Opl.p1 (n := Opl.p1 (n := ?_))))
  by_cases c4 : t603 = true
  case neg =>
   rw [if_neg c4] at H
   have e4 : (!t603) = true := by simpa using c4
   try rw [e4]
   refine Opl.skp rfl (Opl.skp rfl (Opl.skp rfl (Opl.skp rfl (Opl.p1 (n := Opl.nil ?_)))))
   exact hk1 _ _ ⟨_, _, _, H, ⟨rfl, rfl, rfl, (by first | rfl | (show PV.lit (.bool _) = _; congr 2; simp_all)), trivial⟩, h1⟩
  rw [if_pos c4] at H
  have e3 : (!t603) = false := by simpa using c4
  try rw [e3]
  refine Opl.ldb (v := .agg [.lit (.int .i64 a0_0), v0_1]) h1 rfl T42 rfl rfl rfl rfl (Opl.p1 (n := ?_))
  obtain ⟨t604, h_t604, H⟩ := Option.bind_eq_some_iff.1 H
  refine Opl.callc (impl_Circuit_isEdge.ev hv0_1 h_t604) rfl rfl rfl rfl ⟨(.aggL ⟨(.lit _), hv0_1.plain, trivial⟩), (.lit _), trivial⟩ (by decide) (Opl.p1 (n := Opl.p1 (n := Opl.nil ?_)))
  exact hk1 _ _ ⟨_, _, _, H, ⟨rfl, rfl, rfl, (by first | rfl | (show PV.lit (.bool _) = _; congr 2; simp_all)), trivial⟩, h1⟩
theorem impl_InputsOf.ev {k : Nat} {a0_0 : Int} {l0_1 : List IAnd} {v0_1 : PV} (hv0_1 : Sl cIAnd l0_1 v0_1) {l1 : List Int} {v1 : PV} (hv1 : Sl (cInt .i64) l1 v1) {r : (List Int)} (H : impl_InputsOf.f k a0_0 l0_1 l1 = some r) : Ret Try.prog 29 [.agg [.lit (.int .i64 a0_0), v0_1], v1] fun v S => Vec (cInt .i64) r v S := by
 unfold impl_InputsOf.f at H
 refine Ret.intro Try.func29 rfl (Nat.le_of_ble_eq_true rfl) rfl ?_
 rw [tm2]
 refine Evr.sr rfl (Opl.box (cs := [.lit (.int .i64 a0_0), v0_1]) rfl rfl rfl rfl ?_)
 rintro i1 S h1 u1 w1
 refine Opl.p1 (n := Opl.nil (Evr.seq (Evr.seq ?_)))
 refine Evr.join (fun tm S => ∃ (kq1 : Nat) (x23_1 : Bool) (i2 : Abs.Id), impl_InputsOf.j0 kq1 l1 x23_1 a0_0 l0_1 = some r ∧ Has tm [(1, v1), (2, .ptr i2 0), (23, .lit (.bool x23_1))] ∧ Box (.ptr i2 0) [.lit (.int .i64 a0_0), v0_1] S) ?_ fun hk1 => ?_
 ·
  rintro tm S ⟨kq1, x23_1, i2, H, hh, h2⟩
  rw [hh.eq]
  obtain _ | k1 := kq1
  · simp [impl_InputsOf.j0] at H
  simp only [impl_InputsOf.j0] at H
  by_cases c1 : x23_1 = true
  case pos =>
   rw [if_pos c1] at H
   obtain rfl : x23_1 = true := by simpa using c1
   refine Evr.condT rfl (Evr.sr rfl (Opl.p1 (n := Opl.nil ?_)))
   obtain rfl := Option.some.inj H
   refine Evr.ret1 Try.func29 rfl ?_
   show Vec _ _ (.lit (.slice none 0 0)) _
   exact .nil
  rw [if_neg c1] at H
  obtain rfl : x23_1 = false := by simpa using c1
  refine Evr.condF rfl (Evr.skip (Evr.sr rfl (Opl.p1 (n := Opl.p1 (v := .ptr i2 0) (n := Opl.ldb (v := .lit (.int .i64 a0_0)) h2 rfl T3 rfl rfl rfl rfl ?_)))))
  obtain ⟨c2, H⟩ := peel H
  obtain ⟨c3, H⟩ := peel H
  refine Opl.slcT (M := (cInt .i64)) (b := a0_0) (by exact hv1) rfl  (by omega) (by omega) K22 Z3 rfl rfl rfl ?_
  rintro pv1 h3
  obtain ⟨t615, h_t615, H⟩ := Option.bind_eq_some_iff.1 H
  refine Opl.calla (impl_clone_int.ev h3 h_t615) rfl rfl rfl rfl ⟨h3.plain, trivial⟩ rfl ?_
  rintro pv2 S h4 u2 w2
  have ap1 := w2.box h2
  have h5 := u2.box h2 ap1
  refine Opl.p1 (n := Opl.nil ?_)
  obtain rfl := Option.some.inj H
  refine Evr.ret1 Try.func29 rfl ?_
  show Vec _ _ pv2 _
  exact h4
 ·
  refine Evr.regionN rfl (Opl.ldb (v := .agg [.lit (.int .i64 a0_0), v0_1]) h1 rfl T42 rfl rfl rfl rfl ?_)
  obtain ⟨t612, h_t612, H⟩ := Option.bind_eq_some_iff.1 H
  refine Opl.callc (impl_CircuitValid.ev hv0_1 h_t612) rfl rfl rfl rfl ⟨(.aggL ⟨(.lit _), hv0_1.plain, trivial⟩), trivial⟩ (by decide) (Opl.p1 (n := Opl.p1 (n := ?_)))
  by_cases c4 : t612 = true
  case neg =>
   rw [if_neg c4] at H
   have e4 : (!t612) = true := by simpa using c4
   try rw [e4]
   refine Opl.skp rfl (Opl.skp rfl (Opl.skp rfl (Opl.skp rfl (Opl.skp rfl (Opl.skp rfl (Opl.skp rfl (Opl.skp rfl (Opl.skp rfl (Opl.p1 (n := Opl.p1 (n := Opl.skp rfl (Opl.skp rfl (Opl.skp rfl (Opl.p1 (n := Opl.nil ?_)))))))))))))))
   exact hk1 _ _ ⟨_, _, _, H, ⟨rfl, rfl, (by first | rfl | (show PV.lit (.bool _) = _; congr 2; simp_all)), trivial⟩, h1⟩
  rw [if_pos c4] at H
  have e1 : (!t612) = false := by simpa using c4
  try rw [e1]
  refine Opl.p1 (n := Opl.len (xs := l1) (by exact hv1) K22 rfl rfl rfl rfl (Opl.p1 (v := .ptr i1 0) (n := Opl.ldb (v := .lit (.int .i64 a0_0)) h1 rfl T3 rfl rfl rfl rfl (Opl.p1 (v := .ptr i1 1) (n := Opl.ldb (v := v0_1) h1 rfl T40 rfl rfl rfl rfl (Opl.len (xs := l0_1) (by exact hv0_1) K40 rfl rfl rfl rfl (Opl.add (k := .i64) (a := a0_0) (b := (l0_1.length : Int)) K3 rfl rfl rfl rfl (Opl.neq (a := (l1.length : Int)) (b := (wrap64 (a0_0 + (l0_1.length : Int)))) K3 rfl rfl rfl rfl (Opl.p1 (n := Opl.one (v := .lit (.bool ((l1.length : Int) != (wrap64 (a0_0 + (l0_1.length : Int)))))) rfl rfl rfl ?_))))))))))
  by_cases c5 : (l1.length : Int) = (wrap64 (a0_0 + (l0_1.length : Int)))
  case neg =>
   rw [if_neg c5] at H
   have e3 : ((l1.length : Int) != (wrap64 (a0_0 + (l0_1.length : Int)))) = true := by simpa using c5
   try rw [e3]
   refine Opl.skp rfl (Opl.skp rfl (Opl.skp rfl (Opl.p1 (n := Opl.nil ?_))))
   exact hk1 _ _ ⟨_, _, _, H, ⟨rfl, rfl, (by first | rfl | (show PV.lit (.bool _) = _; congr 2; simp_all)), trivial⟩, h1⟩
  rw [if_pos c5] at H
  have e2 : ((l1.length : Int) != (wrap64 (a0_0 + (l0_1.length : Int)))) = false := by simpa using c5
  try rw [e2]
  refine Opl.one (v := v1) rfl rfl rfl ?_
  obtain ⟨t613, h_t613, H⟩ := Option.bind_eq_some_iff.1 H
  refine Opl.callc (impl_bitsValid.ev hv1 h_t613) rfl rfl rfl rfl ⟨hv1.plain, trivial⟩ (by decide) (Opl.p1 (n := Opl.p1 (n := Opl.nil ?_)))
  exact hk1 _ _ ⟨_, _, _, H, ⟨rfl, rfl, (by first | rfl | (show PV.lit (.bool _) = _; congr 2; simp_all)), trivial⟩, h1⟩
theorem impl_NodeValues.ev {k : Nat} {a0_0 : Int} {l0_1 : List IAnd} {v0_1 : PV} (hv0_1 : Sl cIAnd l0_1 v0_1) {l1 : List Int} {v1 : PV} (hv1 : Sl (cInt .i64) l1 v1) {r : (List Int)} (H : impl_NodeValues.f k a0_0 l0_1 l1 = some r) : Ret Try.prog 25 [.agg [.lit (.int .i64 a0_0), v0_1], v1] fun v S => Vec (cInt .i64) r v S := by
 unfold impl_NodeValues.f at H
 refine Ret.intro Try.func25 rfl (Nat.le_of_ble_eq_true rfl) rfl ?_
 rw [tm2]
 refine Evr.sr rfl (Opl.box (cs := [.lit (.int .i64 a0_0), v0_1]) rfl rfl rfl rfl ?_)
 rintro i1 S h1 u1 w1
 refine Opl.p1 (n := Opl.nil (Evr.seq (Evr.seq ?_)))
 refine Evr.join (fun tm S => ∃ (kq1 : Nat) (x19_1 : Bool) (i2 : Abs.Id), impl_NodeValues.j0 kq1 l1 x19_1 a0_0 l0_1 = some r ∧ Has tm [(1, v1), (2, .ptr i2 0), (19, .lit (.bool x19_1))] ∧ Box (.ptr i2 0) [.lit (.int .i64 a0_0), v0_1] S) ?_ fun hk1 => ?_
 ·
  rintro tm S ⟨kq1, x19_1, i2, H, hh, h2⟩
  rw [hh.eq]
  obtain _ | k1 := kq1
  · simp [impl_NodeValues.j0] at H
  simp only [impl_NodeValues.j0] at H
  by_cases c1 : x19_1 = true
  case pos =>
   rw [if_pos c1] at H
   obtain rfl : x19_1 = true := by simpa using c1
   refine Evr.condT rfl (Evr.sr rfl (Opl.p1 (n := Opl.nil ?_)))
   obtain rfl := Option.some.inj H
   refine Evr.ret1 Try.func25 rfl ?_
   show Vec _ _ (.lit (.slice none 0 0)) _
   exact .nil
  rw [if_neg c1] at H
  obtain rfl : x19_1 = false := by simpa using c1
  refine Evr.condF rfl (Evr.skip (Evr.sr rfl (Opl.ldb (v := .agg [.lit (.int .i64 a0_0), v0_1]) h2 rfl T42 rfl rfl rfl rfl (Opl.p1 (n := ?_)))))
  obtain ⟨t579, h_t579, H⟩ := Option.bind_eq_some_iff.1 H
  refine Opl.call ((impl_Circuit_values.ev hv0_1 hv1 h_t579).mono fun _ _ h => Out.vec h) rfl rfl rfl rfl ⟨(.aggL ⟨(.lit _), hv0_1.plain, trivial⟩), hv1.plain, trivial⟩ (by decide) ?_
  rintro pv1 h3
  obtain ⟨t582, h_t582, H⟩ := Option.bind_eq_some_iff.1 H
  refine Opl.calla (impl_clone_int.ev h3 h_t582) rfl rfl rfl rfl ⟨h3.plain, trivial⟩ rfl ?_
  rintro pv2 S h4 u2 w2
  have ap1 := w2.box h2
  have h5 := u2.box h2 ap1
  refine Opl.p1 (n := Opl.nil ?_)
  obtain rfl := Option.some.inj H
  refine Evr.ret1 Try.func25 rfl ?_
  show Vec _ _ pv2 _
  exact h4
 ·
  refine Evr.regionN rfl (Opl.ldb (v := .agg [.lit (.int .i64 a0_0), v0_1]) h1 rfl T42 rfl rfl rfl rfl ?_)
  obtain ⟨t577, h_t577, H⟩ := Option.bind_eq_some_iff.1 H
  refine Opl.callc (impl_CircuitValid.ev hv0_1 h_t577) rfl rfl rfl rfl ⟨(.aggL ⟨(.lit _), hv0_1.plain, trivial⟩), trivial⟩ (by decide) (Opl.p1 (n := Opl.p1 (n := ?_)))
  by_cases c2 : t577 = true
  case neg =>
   rw [if_neg c2] at H
   have e4 : (!t577) = true := by simpa using c2
   try rw [e4]
   refine Opl.skp rfl (Opl.skp rfl (Opl.skp rfl (Opl.skp rfl (Opl.skp rfl (Opl.p1 (n := Opl.p1 (n := Opl.skp rfl (Opl.skp rfl (Opl.skp rfl (Opl.p1 (n := Opl.nil ?_)))))))))))
   exact hk1 _ _ ⟨_, _, _, H, ⟨rfl, rfl, (by first | rfl | (show PV.lit (.bool _) = _; congr 2; simp_all)), trivial⟩, h1⟩
  rw [if_pos c2] at H
  have e1 : (!t577) = false := by simpa using c2
  try rw [e1]
  refine Opl.p1 (n := Opl.len (xs := l1) (by exact hv1) K22 rfl rfl rfl rfl (Opl.p1 (v := .ptr i1 0) (n := Opl.ldb (v := .lit (.int .i64 a0_0)) h1 rfl T3 rfl rfl rfl rfl (Opl.p1 (n := Opl.p1 (n := Opl.p1 (n := ?_)))))))
  by_cases c3 : (l1.length : Int) = a0_0
  case neg =>
   rw [if_neg c3] at H
   have e3 : ((l1.length : Int) != a0_0) = true := by simpa using c3
   try rw [e3]
   refine Opl.skp rfl (Opl.skp rfl (Opl.skp rfl (Opl.p1 (n := Opl.nil ?_))))
   exact hk1 _ _ ⟨_, _, _, H, ⟨rfl, rfl, (by first | rfl | (show PV.lit (.bool _) = _; congr 2; simp_all)), trivial⟩, h1⟩
  rw [if_pos c3] at H
  have e2 : ((l1.length : Int) != a0_0) = false := by simpa using c3
  try rw [e2]
  refine Opl.p1 (n := ?_)
  obtain ⟨t578, h_t578, H⟩ := Option.bind_eq_some_iff.1 H
  refine Opl.callc (impl_bitsValid.ev hv1 h_t578) rfl rfl rfl rfl ⟨hv1.plain, trivial⟩ (by decide) (Opl.p1 (n := Opl.p1 (n := Opl.nil ?_)))
  exact hk1 _ _ ⟨_, _, _, H, ⟨rfl, rfl, (by first | rfl | (show PV.lit (.bool _) = _; congr 2; simp_all)), trivial⟩, h1⟩
theorem impl_bit.ev {a0 : Bool} {r : Int} (H : impl_bit.f a0 = some r) : Ret Try.prog 98 [.lit (.bool a0)] fun v S => v = .lit (.int .i64 r) := by
 unfold impl_bit.f at H
 refine Ret.intro Try.func98 rfl (Nat.le_of_ble_eq_true rfl) rfl ?_
 rw [tm1]
 refine Evr.sr rfl (Opl.p1 (n := Opl.nil (Evr.seq (Evr.sr rfl (Opl.p1 (n := Opl.nil ?_))))))
 by_cases c1 : a0 = true
 case pos =>
  rw [if_pos c1] at H
  obtain rfl : a0 = true := by simpa using c1
  refine Evr.condT rfl (Evr.sr rfl (Opl.p1 (n := Opl.nil ?_)))
  obtain rfl := Option.some.inj H
  refine Evr.ret1 Try.func98 rfl ?_
  show (.lit (.int .i64 1) : PV) = _
  first | rfl | (simp only [go_sem]; rfl)
 rw [if_neg c1] at H
 obtain rfl : a0 = false := by simpa using c1
 refine Evr.condF rfl (Evr.skip (Evr.sr rfl (Opl.p1 (n := Opl.nil ?_))))
 obtain rfl := Option.some.inj H
 refine Evr.ret1 Try.func98 rfl ?_
 show (.lit (.int .i64 0) : PV) = _
 first | rfl | (simp only [go_sem]; rfl)
theorem impl_litTrue.ev {a0 : Int} {l1 : List Int} {v1 : PV} (hv1 : Sl (cInt .i64) l1 v1) {r : Bool} (H : impl_litTrue.f a0 l1 = some r) : Ret Try.prog 90 [.lit (.int .i64 a0), v1] fun v S => v = .lit (.bool r) := by
 unfold impl_litTrue.f at H
 refine Ret.intro Try.func90 rfl (Nat.le_of_ble_eq_true rfl) rfl ?_
 rw [tm2]
 refine Evr.sr rfl (Opl.p1 (n := Opl.nil (Evr.seq (Evr.regionD rfl (by kernel_rfl) (Opl.p1 (n := Opl.p1 (n := ?_)))))))
 obtain ⟨t595, h_t595, H⟩ := Option.bind_eq_some_iff.1 H
 refine Opl.callc (impl_atomOf.ev h_t595) rfl rfl rfl rfl ⟨(.lit _), trivial⟩ (by decide) (Opl.subi (k := .i64) (a := t595) (b := 1) K3 rfl rfl rfl rfl ?_)
 obtain ⟨c1, H⟩ := peel H
 obtain ⟨c2, H⟩ := peel H
 refine Opl.idx (M := (cInt .i64)) (xs := l1) (j := (wrap64 (t595 - 1))) (0 : Int) (by exact hv1) rfl (by omega) (by omega) K22 Z3 rfl rfl ?_
 rintro p1 q1 h1
 obtain rfl : p1 = [.lit (.int .i64 (rd l1 (wrap64 (t595 - 1))))] := h1
 refine Opl.lda (.lit (.int .i64 (rd l1 (wrap64 (t595 - 1))))) rfl T3 rfl rfl rfl rfl (Opl.one (v := .lit (.int .i64 a0)) rfl rfl rfl (Opl.p1 (n := ?_)))
 obtain ⟨t597, h_t597, H⟩ := Option.bind_eq_some_iff.1 H
 refine Opl.callc (impl_bit.ev h_t597) rfl rfl rfl rfl ⟨(.lit _), trivial⟩ (by decide) (Opl.eql (a := (rd l1 (wrap64 (t595 - 1)))) (b := t597) K3 rfl rfl rfl rfl (Opl.one (v := .lit (.bool ((rd l1 (wrap64 (t595 - 1))) == t597))) rfl rfl rfl (Opl.nil ?_)))
 obtain rfl := Option.some.inj H
 refine Evr.ret1 Try.func90 rfl ?_
 show (.lit (.bool ((rd l1 (wrap64 (t595 - 1))) == t597)) : PV) = _
 first | rfl | (simp only [go_sem]; rfl)
theorem impl_trueIn_1_1.ev {k : Nat} {a0 : Int} {l1 : List Int} {v1 : PV} (hv1 : Sl (cInt .i64) l1 v1) {r : Bool} (H : impl_trueIn_1_1.f k a0 l1 = some r) : Ret Try.prog 89 [.lit (.int .i64 a0), .fel (v1 :: [])] fun v S => v = .lit (.bool r) := by
 unfold impl_trueIn_1_1.f at H
 refine Ret.intro Try.func89 rfl (Nat.le_of_ble_eq_true rfl) rfl ?_
 rw [tm2]
 refine Evr.sr rfl (Opl.p1 (n := Opl.nil (Evr.sr rfl (Opl.p1 (n := Opl.lda (v1) rfl T22 rfl rfl rfl rfl ?_)))))
 obtain ⟨r1, h_r1, H⟩ := Option.bind_eq_some_iff.1 H
 refine Opl.callc (impl_litTrue.ev hv1 h_r1) rfl rfl rfl rfl ⟨(.lit _), hv1.plain, trivial⟩ (by decide) (Opl.p1 (n := Opl.nil ?_))
 obtain rfl := Option.some.inj H
 refine Evr.ret1 Try.func89 rfl ?_
 show (.lit (.bool r1) : PV) = _
 first | rfl | (simp only [go_sem]; rfl)
theorem slices_IndexFunc_int_int_at_impl_trueIn_1_1.ev {k : Nat} {l0 : List Int} {v0 : PV} (hv0 : Sl (cInt .i64) l0 v0) {l2 : List Int} {v2 : PV} (hv2 : Sl (cInt .i64) l2 v2) {r : Int} (H : slices_IndexFunc_int_int_at_impl_trueIn_1_1.f k l0 l2 = some r) : Ret Try.prog 71 [v0, .fn 89 [.fel (v2 :: [])]] fun v S => v = .lit (.int .i64 r) := by
 unfold slices_IndexFunc_int_int_at_impl_trueIn_1_1.f at H
 refine Ret.intro Try.func71 rfl (Nat.le_of_ble_eq_true rfl) rfl ?_
 rw [tm2]
 refine Evr.sr rfl (Opl.p1 (n := Opl.nil (Evr.seq (Evr.sr rfl (Opl.p1 (n := Opl.len (xs := l0) (by exact hv0) K22 rfl rfl rfl rfl (Opl.p1 (n := Opl.nil (Evr.block ?_)))))))))
 refine Evr.loop (Evr.rounds (n := k) (Inv := fun n tm S => n ≤ k ∧ ∃ (x8_1 : Int), slices_IndexFunc_int_int_at_impl_trueIn_1_1.l1 n x8_1 l0 l2 = some r ∧ Has tm [(0, v0), (1, .fn 89 [.fel (v2 :: [])]), (7, .lit (.int .i64 (l0.length : Int))), (8, .lit (.int .i64 x8_1))]) ?_ ?_ ?_)
 · exact ⟨Nat.le_refl _, _, H, ⟨rfl, rfl, rfl, rfl, trivial⟩⟩
 ·
  rintro tm S ⟨_, _, H, -⟩
  simp [slices_IndexFunc_int_int_at_impl_trueIn_1_1.l1] at H
 ·
  rintro n1 ih1 tm S ⟨hle, x8_1, H, hh⟩
  simp only [slices_IndexFunc_int_int_at_impl_trueIn_1_1.l1] at H
  rw [hh.eq]
  refine Evr.sr rfl (Opl.p1 (n := Opl.nil (Evr.seq ?_)))
  by_cases c1 : x8_1 < (l0.length : Int)
  case neg =>
   rw [if_neg c1] at H
   have e2 : (decide (x8_1 < (l0.length : Int))) = false := by simpa using c1
   try rw [e2]
   refine Evr.condF rfl (Evr.exit rfl (Evr.sr rfl (Opl.p1 (n := Opl.nil ?_))))
   obtain rfl := Option.some.inj H
   refine Evr.ret1 Try.func71 rfl ?_
   show (.lit (.int .i64 (-1)) : PV) = _
   first | rfl | (simp only [go_sem]; rfl)
  rw [if_pos c1] at H
  have e1 : (decide (x8_1 < (l0.length : Int))) = true := by simpa using c1
  try rw [e1]
  refine Evr.condT rfl (Evr.skip (Evr.seq (Evr.block (Evr.sr rfl (Opl.p1 (n := Opl.p1 (n := Opl.nil (Evr.sr rfl (Opl.p1 (n := Opl.p1 (n := Opl.p1 (n := ?_))))))))))))
  obtain ⟨c2, H⟩ := peel H
  obtain ⟨c3, H⟩ := peel H
  refine Opl.idx (M := (cInt .i64)) (xs := l0) (j := x8_1) (0 : Int) (by exact hv0) rfl (by omega) (by omega) K22 Z3 rfl rfl ?_
  rintro p1 q1 h1
  obtain rfl : p1 = [.lit (.int .i64 (rd l0 x8_1))] := h1
  refine Opl.lda (.lit (.int .i64 (rd l0 x8_1))) rfl T3 rfl rfl rfl rfl ?_
  obtain ⟨r1, h_r1, H⟩ := Option.bind_eq_some_iff.1 H
  refine Opl.callc (impl_trueIn_1_1.ev hv2 h_r1) rfl rfl rfl rfl ⟨(.lit _), (.felL ⟨hv2.plain, trivial⟩), trivial⟩ (by decide) (Opl.nil ?_)
  by_cases c4 : r1 = true
  case pos =>
   rw [if_pos c4] at H
   obtain rfl : r1 = true := by simpa using c4
   refine Evr.condT rfl (Evr.sr rfl (Opl.p1 (n := Opl.p1 (n := Opl.nil ?_))))
   obtain rfl := Option.some.inj H
   refine Evr.ret1 Try.func71 rfl ?_
   show (.lit (.int .i64 x8_1) : PV) = _
   first | rfl | (simp only [go_sem]; rfl)
  rw [if_neg c4] at H
  obtain rfl : r1 = false := by simpa using c4
  refine Evr.condF rfl (Evr.skip (Evr.inBlock (Evr.regionN rfl (Opl.add (k := .i64) (a := x8_1) (b := 1) K3 rfl rfl rfl rfl (Opl.one (v := .lit (.int .i64 (wrap64 (x8_1 + 1)))) rfl rfl rfl (Opl.nil ?_))))))
  exact ih1 _ (by omega) _ _ ⟨by omega, _, H, ⟨rfl, rfl, rfl, rfl, trivial⟩⟩
theorem slices_ContainsFunc_int_int_at_impl_trueIn_1_1.ev {k : Nat} {l0 : List Int} {v0 : PV} (hv0 : Sl (cInt .i64) l0 v0) {l2 : List Int} {v2 : PV} (hv2 : Sl (cInt .i64) l2 v2) {r : Bool} (H : slices_ContainsFunc_int_int_at_impl_trueIn_1_1.f k l0 l2 = some r) : Ret Try.prog 35 [v0, .fn 89 [.fel (v2 :: [])]] fun v S => v = .lit (.bool r) := by
 unfold slices_ContainsFunc_int_int_at_impl_trueIn_1_1.f at H
 refine Ret.intro Try.func35 rfl (Nat.le_of_ble_eq_true rfl) rfl ?_
 rw [tm2]
 refine Evr.sr rfl (Opl.p1 (n := Opl.nil (Evr.sr rfl (Opl.p1 (n := Opl.p1 (n := ?_))))))
 obtain ⟨r1, h_r1, H⟩ := Option.bind_eq_some_iff.1 H
 refine Opl.callc (slices_IndexFunc_int_int_at_impl_trueIn_1_1.ev hv0 hv2 h_r1) rfl rfl rfl rfl ⟨hv0.plain, (.fnL ⟨(.felL ⟨hv2.plain, trivial⟩), trivial⟩), trivial⟩ (by decide) (Opl.p1 (n := Opl.p1 (n := Opl.nil ?_)))
 obtain rfl := Option.some.inj H
 refine Evr.ret1 Try.func35 rfl ?_
 show (.lit (.bool (decide (r1 ≥ 0))) : PV) = _
 first | rfl | (simp only [go_sem]; rfl)
theorem impl_trueIn_1.ev {k : Nat} {l0 : List Int} {v0 : PV} (hv0 : Sl (cInt .i64) l0 v0) {l1 : List Int} {v1 : PV} (hv1 : Sl (cInt .i64) l1 v1) {r : Bool} (H : impl_trueIn_1.f k l0 l1 = some r) : Ret Try.prog 88 [v0, .fel (v1 :: [])] fun v S => v = .lit (.bool r) := by
 unfold impl_trueIn_1.f at H
 refine Ret.intro Try.func88 rfl (Nat.le_of_ble_eq_true rfl) rfl ?_
 rw [tm2]
 refine Evr.sr rfl (Opl.p1 (n := Opl.nil (Evr.sr rfl (Opl.p1 (n := Opl.p1 (n := ?_))))))
 obtain ⟨r1, h_r1, H⟩ := Option.bind_eq_some_iff.1 H
 refine Opl.callc (slices_ContainsFunc_int_int_at_impl_trueIn_1_1.ev hv0 hv1 h_r1) rfl rfl rfl rfl ⟨hv0.plain, (.fnL ⟨(.felL ⟨hv1.plain, trivial⟩), trivial⟩), trivial⟩ (by decide) (Opl.p1 (n := Opl.p1 (n := Opl.nil ?_)))
 obtain rfl := Option.some.inj H
 refine Evr.ret1 Try.func88 rfl ?_
 show (.lit (.bool (!r1)) : PV) = _
 first | rfl | (simp only [go_sem]; rfl)
theorem slices_IndexFunc_int_int_at_impl_trueIn_1.ev {k : Nat} {l0 : List (List Int)} {v0 : PV} (hv0 : Sl (cSl (cInt .i64)) l0 v0) {l2 : List Int} {v2 : PV} (hv2 : Sl (cInt .i64) l2 v2) {r : Int} (H : slices_IndexFunc_int_int_at_impl_trueIn_1.f k l0 l2 = some r) : Ret Try.prog 91 [v0, .fn 88 [.fel (v2 :: [])]] fun v S => v = .lit (.int .i64 r) := by
 unfold slices_IndexFunc_int_int_at_impl_trueIn_1.f at H
 refine Ret.intro Try.func91 rfl (Nat.le_of_ble_eq_true rfl) rfl ?_
 rw [tm2]
 refine Evr.sr rfl (Opl.p1 (n := Opl.nil (Evr.seq (Evr.sr rfl (Opl.p1 (n := Opl.len (xs := l0) (by exact hv0) K35 rfl rfl rfl rfl (Opl.p1 (n := Opl.nil (Evr.block ?_)))))))))
 refine Evr.loop (Evr.rounds (n := k) (Inv := fun n tm S => n ≤ k ∧ ∃ (x8_1 : Int), slices_IndexFunc_int_int_at_impl_trueIn_1.l1 n x8_1 l0 l2 = some r ∧ Has tm [(0, v0), (1, .fn 88 [.fel (v2 :: [])]), (7, .lit (.int .i64 (l0.length : Int))), (8, .lit (.int .i64 x8_1))]) ?_ ?_ ?_)
 · exact ⟨Nat.le_refl _, _, H, ⟨rfl, rfl, rfl, rfl, trivial⟩⟩
 ·
  rintro tm S ⟨_, _, H, -⟩
  simp [slices_IndexFunc_int_int_at_impl_trueIn_1.l1] at H
 ·
  rintro n1 ih1 tm S ⟨hle, x8_1, H, hh⟩
  simp only [slices_IndexFunc_int_int_at_impl_trueIn_1.l1] at H
  rw [hh.eq]
  refine Evr.sr rfl (Opl.p1 (n := Opl.nil (Evr.seq ?_)))
  by_cases c1 : x8_1 < (l0.length : Int)
  case neg =>
   rw [if_neg c1] at H
   have e2 : (decide (x8_1 < (l0.length : Int))) = false := by simpa using c1
   try rw [e2]
   refine Evr.condF rfl (Evr.exit rfl (Evr.sr rfl (Opl.p1 (n := Opl.nil ?_))))
   obtain rfl := Option.some.inj H
   refine Evr.ret1 Try.func91 rfl ?_
   show (.lit (.int .i64 (-1)) : PV) = _
   first | rfl | (simp only [go_sem]; rfl)
  rw [if_pos c1] at H
  have e1 : (decide (x8_1 < (l0.length : Int))) = true := by simpa using c1
  try rw [e1]
  refine Evr.condT rfl (Evr.skip (Evr.seq (Evr.block (Evr.sr rfl (Opl.p1 (n := Opl.p1 (n := Opl.nil (Evr.sr rfl (Opl.p1 (n := Opl.p1 (n := Opl.p1 (n := ?_))))))))))))
  obtain ⟨c2, H⟩ := peel H
  obtain ⟨c3, H⟩ := peel H
  refine Opl.idx (M := (cSl (cInt .i64))) (xs := l0) (j := x8_1) ([] : List Int) (by exact hv0) rfl (by omega) (by omega) K35 Z22 rfl rfl ?_
  rintro p1 q1 h1
  obtain ⟨pv1, rfl, h2⟩ := h1
  refine Opl.lda (pv1) rfl T22 rfl rfl rfl rfl ?_
  obtain ⟨r1, h_r1, H⟩ := Option.bind_eq_some_iff.1 H
  refine Opl.callc (impl_trueIn_1.ev h2 hv2 h_r1) rfl rfl rfl rfl ⟨h2.plain, (.felL ⟨hv2.plain, trivial⟩), trivial⟩ (by decide) (Opl.nil ?_)
  by_cases c4 : r1 = true
  case pos =>
   rw [if_pos c4] at H
   obtain rfl : r1 = true := by simpa using c4
   refine Evr.condT rfl (Evr.sr rfl (Opl.p1 (n := Opl.p1 (n := Opl.nil ?_))))
   obtain rfl := Option.some.inj H
   refine Evr.ret1 Try.func91 rfl ?_
   show (.lit (.int .i64 x8_1) : PV) = _
   first | rfl | (simp only [go_sem]; rfl)
  rw [if_neg c4] at H
  obtain rfl : r1 = false := by simpa using c4
  refine Evr.condF rfl (Evr.skip (Evr.inBlock (Evr.regionN rfl (Opl.add (k := .i64) (a := x8_1) (b := 1) K3 rfl rfl rfl rfl (Opl.one (v := .lit (.int .i64 (wrap64 (x8_1 + 1)))) rfl rfl rfl (Opl.nil ?_))))))
  exact ih1 _ (by omega) _ _ ⟨by omega, _, H, ⟨rfl, rfl, rfl, rfl, trivial⟩⟩
theorem slices_ContainsFunc_int_int_at_impl_trueIn_1.ev {k : Nat} {l0 : List (List Int)} {v0 : PV} (hv0 : Sl (cSl (cInt .i64)) l0 v0) {l2 : List Int} {v2 : PV} (hv2 : Sl (cInt .i64) l2 v2) {r : Bool} (H : slices_ContainsFunc_int_int_at_impl_trueIn_1.f k l0 l2 = some r) : Ret Try.prog 68 [v0, .fn 88 [.fel (v2 :: [])]] fun v S => v = .lit (.bool r) := by
 unfold slices_ContainsFunc_int_int_at_impl_trueIn_1.f at H
 refine Ret.intro Try.func68 rfl (Nat.le_of_ble_eq_true rfl) rfl ?_
 rw [tm2]
 refine Evr.sr rfl (Opl.p1 (n := Opl.nil (Evr.sr rfl (Opl.p1 (n := Opl.p1 (n := ?_))))))
 obtain ⟨r1, h_r1, H⟩ := Option.bind_eq_some_iff.1 H
 refine Opl.callc (slices_IndexFunc_int_int_at_impl_trueIn_1.ev hv0 hv2 h_r1) rfl rfl rfl rfl ⟨hv0.plain, (.fnL ⟨(.felL ⟨hv2.plain, trivial⟩), trivial⟩), trivial⟩ (by decide) (Opl.p1 (n := Opl.p1 (n := Opl.nil ?_)))
 obtain rfl := Option.some.inj H
 refine Evr.ret1 Try.func68 rfl ?_
 show (.lit (.bool (decide (r1 ≥ 0))) : PV) = _
 first | rfl | (simp only [go_sem]; rfl)
theorem impl_trueIn.ev {k : Nat} {l0 : List (List Int)} {v0 : PV} (hv0 : Sl (cSl (cInt .i64)) l0 v0) {l1 : List Int} {v1 : PV} (hv1 : Sl (cInt .i64) l1 v1) {r : Bool} (H : impl_trueIn.f k l0 l1 = some r) : Ret Try.prog 66 [v0, v1] fun v S => v = .lit (.bool r) := by
 unfold impl_trueIn.f at H
 refine Ret.intro Try.func66 rfl (Nat.le_of_ble_eq_true rfl) rfl ?_
 rw [tm2]
 refine Evr.sr rfl (Opl.box (cs := [v1]) (by exact hv1.cells) rfl rfl rfl ?_)
 rintro i1 S h1 u1 w1
 refine Opl.p1 (n := Opl.nil (Evr.sr rfl (Opl.p1 (n := Opl.p1 (n := ?_)))))
 obtain ⟨r1, h_r1, H⟩ := Option.bind_eq_some_iff.1 H
 refine Opl.callw (slices_ContainsFunc_int_int_at_impl_trueIn_1.ev hv0 hv1 h_r1) rfl rfl rfl (.cons (.refl _) (.cons (View.fnV (.cons (View.boxV h1 (.cons (.refl _) .nil)) .nil)) .nil)) ⟨hv0.plain, (.fnL ⟨(.felL ⟨hv1.plain, trivial⟩), trivial⟩), trivial⟩ (by decide) (Opl.p1 (n := Opl.p1 (n := Opl.nil ?_)))
 obtain rfl := Option.some.inj H
 refine Evr.ret1 Try.func66 rfl ?_
 show (.lit (.bool (!r1)) : PV) = _
 first | rfl | (simp only [go_sem]; rfl)
theorem impl_TrueIn.ev {k : Nat} {a0_0 : Int} {l0_1 : List (List Int)} {v0_1 : PV} (hv0_1 : Sl (cSl (cInt .i64)) l0_1 v0_1) {l1 : List Int} {v1 : PV} (hv1 : Sl (cInt .i64) l1 v1) {r : Bool} (H : impl_TrueIn.f k a0_0 l0_1 l1 = some r) : Ret Try.prog 26 [.agg [.lit (.int .i64 a0_0), v0_1], v1] fun v S => v = .lit (.bool r) := by
 unfold impl_TrueIn.f at H
 refine Ret.intro Try.func26 rfl (Nat.le_of_ble_eq_true rfl) rfl ?_
 rw [tm2]
 refine Evr.sr rfl (Opl.box (cs := [.lit (.int .i64 a0_0), v0_1]) rfl rfl rfl rfl ?_)
 rintro i1 S h1 u1 w1
 refine Opl.p1 (n := Opl.nil (Evr.sr rfl (Opl.ldb (v := .agg [.lit (.int .i64 a0_0), v0_1]) h1 rfl T37 rfl rfl rfl rfl ?_)))
 obtain ⟨r1, h_r1, H⟩ := Option.bind_eq_some_iff.1 H
 refine Opl.callc (impl_ClausesValid.ev hv0_1 h_r1) rfl rfl rfl rfl ⟨(.aggL ⟨(.lit _), hv0_1.plain, trivial⟩), trivial⟩ (by decide) (Opl.p1 (n := ?_))
 by_cases c1 : r1 = true
 case neg =>
  rw [if_neg c1] at H
  obtain rfl : r1 = false := by simpa using c1
  refine Opl.skp rfl (Opl.skp rfl (Opl.skp rfl (Opl.skp rfl (Opl.skp rfl (Opl.p1 (n := Opl.p1 (n := Opl.skp rfl (Opl.skp rfl (Opl.p1 (n := Opl.p1 (n := Opl.skp rfl (Opl.skp rfl (Opl.skp rfl (Opl.skp rfl (Opl.p1 (n := Opl.p1 (n := Opl.nil ?_)))))))))))))))))
  obtain rfl := Option.some.inj H
  refine Evr.ret1 Try.func26 rfl ?_
  show (.lit (.bool false) : PV) = _
  first | rfl | (simp only [go_sem]; rfl)
 rw [if_pos c1] at H
 obtain rfl : r1 = true := by simpa using c1
 refine Opl.p1 (n := Opl.len (xs := l1) (by exact hv1) K22 rfl rfl rfl rfl (Opl.p1 (v := .ptr i1 0) (n := Opl.ldb (v := .lit (.int .i64 a0_0)) h1 rfl T3 rfl rfl rfl rfl (Opl.p1 (n := Opl.p1 (n := Opl.p1 (n := ?_)))))))
 by_cases c2 : (l1.length : Int) = a0_0
 case neg =>
  rw [if_neg c2] at H
  have e2 : ((l1.length : Int) == a0_0) = false := by simpa using c2
  try rw [e2]
  refine Opl.skp rfl (Opl.skp rfl (Opl.p1 (n := Opl.p1 (n := Opl.skp rfl (Opl.skp rfl (Opl.skp rfl (Opl.skp rfl (Opl.p1 (n := Opl.p1 (n := Opl.nil ?_))))))))))
  obtain rfl := Option.some.inj H
  refine Evr.ret1 Try.func26 rfl ?_
  show (.lit (.bool false) : PV) = _
  first | rfl | (simp only [go_sem]; rfl)
 rw [if_pos c2] at H
 have e1 : ((l1.length : Int) == a0_0) = true := by simpa using c2
 try rw [e1]
 refine Opl.p1 (n := ?_)
 obtain ⟨r2, h_r2, H⟩ := Option.bind_eq_some_iff.1 H
 refine Opl.callc (impl_bitsValid.ev hv1 h_r2) rfl rfl rfl rfl ⟨hv1.plain, trivial⟩ (by decide) (Opl.p1 (n := Opl.p1 (n := ?_)))
 by_cases c3 : r2 = true
 case neg =>
  rw [if_neg c3] at H
  obtain rfl : r2 = false := by simpa using c3
  refine Opl.skp rfl (Opl.skp rfl (Opl.skp rfl (Opl.skp rfl (Opl.p1 (n := Opl.p1 (n := Opl.nil ?_))))))
  obtain rfl := Option.some.inj H
  refine Evr.ret1 Try.func26 rfl ?_
  show (.lit (.bool false) : PV) = _
  first | rfl | (simp only [go_sem]; rfl)
 rw [if_pos c3] at H
 obtain rfl : r2 = true := by simpa using c3
 refine Opl.p1 (v := .ptr i1 1) (n := Opl.ldb (v := v0_1) h1 rfl T35 rfl rfl rfl rfl (Opl.p1 (n := ?_)))
 obtain ⟨r3, h_r3, H⟩ := Option.bind_eq_some_iff.1 H
 refine Opl.callc (impl_trueIn.ev hv0_1 hv1 h_r3) rfl rfl rfl rfl ⟨hv0_1.plain, hv1.plain, trivial⟩ (by decide) (Opl.p1 (n := Opl.p1 (n := Opl.nil ?_)))
 obtain rfl := Option.some.inj H
 refine Evr.ret1 Try.func26 rfl ?_
 show (.lit (.bool r3) : PV) = _
 first | rfl | (simp only [go_sem]; rfl)
end Go.Proofs.Ytigbbefdndcmbaa.PA
end
