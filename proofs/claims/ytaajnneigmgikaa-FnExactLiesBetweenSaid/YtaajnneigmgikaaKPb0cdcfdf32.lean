/- Walks of Go functions: each is shown to answer as the Lean function beside it tells, under the conditions that its theorem names. -/
import Derived.Test.YtaajnneigmgikaaProg
import Derived.KernelRfl
import Derived.Below
import Derived.Deep.Draws
import Derived.Deep.AppendLies
import Derived.Maps.AppendAt
import Derived.OwnWalk
import Derived.Laws.BytesArg
import Derived.Laws.MakeOwn
import Derived.Laws.OwnMore
import Derived.Deep.OwnRows
import Derived.Tactics
import Derived.Lib.ConvBytes
import Derived.Laws.Slices
import Derived.WalkKit
import Derived.RowKit3
import Derived.Deep.LoopGhost
import Derived.Deep.QuietTactic
import Derived.BigQuiet
import Derived.WideLaws
import Derived.Deep.DeepCutAuto
import Derived.Deep.CutBlock
import Derived.Deep.RegionHeld3
import Derived.Laws.Rows
import Derived.Lib.AppendStr
import Derived.ArgAppend
import Derived.Laws.IdiomCopy
import Derived.OrdersHeld
import Derived.Laws.BitsLemmas
import Derived.RowKit
import Derived.Laws.StructEq
import Derived.Lib.SliceRun
import Derived.WalkSpells
import Derived.ChangeArms
import Derived.ChangeSlices
import Derived.Deep.Slices
import Derived.Attr
import Derived.Laws.Append
import Derived.Laws.AppendOwn
import Derived.Laws.Entries
import Derived.Calls
import Derived.Laws.Sem
import Derived.Test.YtaajnneigmgikaaKWb89976a102
import Derived.Test.YtaajnneigmgikaaKDd0460cd482
section
namespace Go.Proofs.Ytaajnneigmgikaa.PA
open Go Go.Abs Go.RowKit Go.Proofs Go.Proofs.YtaajnneigmgikaaW.PrintWords Go.Proofs.YtaajnneigmgikaaW.PrintLast Go.Proofs.YtaajnneigmgikaaW.PrintMore
set_option maxRecDepth 100000
theorem K3 : tkAt Try.prog 3 = some (.int .i64) := by kernel_rfl
theorem Z3 : szAt Try.prog 3 = some 1 := by kernel_rfl
theorem T3 : tiOf Try.prog 3 = some ⟨(.int .i64), 1, 8, [.int .i64 0], []⟩ := by kernel_rfl
theorem K4 : tkAt Try.prog 4 = some .bool := by kernel_rfl
theorem Z4 : szAt Try.prog 4 = some 1 := by kernel_rfl
theorem T4 : tiOf Try.prog 4 = some ⟨.bool, 1, 1, [.bool false], []⟩ := by kernel_rfl
theorem K5 : tkAt Try.prog 5 = some (.int .u8) := by kernel_rfl
theorem Z5 : szAt Try.prog 5 = some 1 := by kernel_rfl
theorem T5 : tiOf Try.prog 5 = some ⟨(.int .u8), 1, 1, [.int .u8 0], []⟩ := by kernel_rfl
theorem K22 : tkAt Try.prog 22 = some (.slice 41) := by kernel_rfl
theorem Z22 : szAt Try.prog 22 = some 1 := by kernel_rfl
theorem T22 : tiOf Try.prog 22 = some ⟨(.slice 41), 1, 24, [.slice none 0 0], []⟩ := by kernel_rfl
theorem K24 : tkAt Try.prog 24 = some .strct := by kernel_rfl
theorem Z24 : szAt Try.prog 24 = some 2 := by kernel_rfl
theorem T24 : tiOf Try.prog 24 = some ⟨.strct, 2, 32, [.int .i64 0, .slice none 0 0], [⟨0, 1, (.int .i64)⟩, ⟨1, 1, (.slice 41)⟩]⟩ := by kernel_rfl
theorem K25 : tkAt Try.prog 25 = some (.slice 106) := by kernel_rfl
theorem Z25 : szAt Try.prog 25 = some 1 := by kernel_rfl
theorem T25 : tiOf Try.prog 25 = some ⟨(.slice 106), 1, 24, [.slice none 0 0], []⟩ := by kernel_rfl
theorem K27 : tkAt Try.prog 27 = some .strct := by kernel_rfl
theorem Z27 : szAt Try.prog 27 = some 2 := by kernel_rfl
theorem T27 : tiOf Try.prog 27 = some ⟨.strct, 2, 32, [.int .i64 0, .slice none 0 0], [⟨0, 1, (.int .i64)⟩, ⟨1, 1, (.slice 106)⟩]⟩ := by kernel_rfl
theorem K31 : tkAt Try.prog 31 = some .strct := by kernel_rfl
theorem Z31 : szAt Try.prog 31 = some 2 := by kernel_rfl
theorem T31 : tiOf Try.prog 31 = some ⟨.strct, 2, 32, [.int .i64 0, .slice none 0 0], [⟨0, 1, (.int .i64)⟩, ⟨1, 1, (.slice 41)⟩]⟩ := by kernel_rfl
theorem K33 : tkAt Try.prog 33 = some (.slice 96) := by kernel_rfl
theorem Z33 : szAt Try.prog 33 = some 1 := by kernel_rfl
theorem T33 : tiOf Try.prog 33 = some ⟨(.slice 96), 1, 24, [.slice none 0 0], []⟩ := by kernel_rfl
theorem K35 : tkAt Try.prog 35 = some .strct := by kernel_rfl
theorem Z35 : szAt Try.prog 35 = some 2 := by kernel_rfl
theorem T35 : tiOf Try.prog 35 = some ⟨.strct, 2, 32, [.int .i64 0, .slice none 0 0], [⟨0, 1, (.int .i64)⟩, ⟨1, 1, (.slice 96)⟩]⟩ := by kernel_rfl
theorem K40 : tkAt Try.prog 40 = some (.slice 5) := by kernel_rfl
theorem Z40 : szAt Try.prog 40 = some 1 := by kernel_rfl
theorem T40 : tiOf Try.prog 40 = some ⟨(.slice 5), 1, 24, [.slice none 0 0], []⟩ := by kernel_rfl
theorem K41 : tkAt Try.prog 41 = some (.slice 3) := by kernel_rfl
theorem Z41 : szAt Try.prog 41 = some 1 := by kernel_rfl
theorem T41 : tiOf Try.prog 41 = some ⟨(.slice 3), 1, 24, [.slice none 0 0], []⟩ := by kernel_rfl
theorem K74 : tkAt Try.prog 74 = some .func := by kernel_rfl
theorem Z74 : szAt Try.prog 74 = some 1 := by kernel_rfl
theorem T74 : tiOf Try.prog 74 = some ⟨.func, 1, 8, [.nilFunc], []⟩ := by kernel_rfl
theorem K75 : tkAt Try.prog 75 = some (.slice 4) := by kernel_rfl
theorem Z75 : szAt Try.prog 75 = some 1 := by kernel_rfl
theorem T75 : tiOf Try.prog 75 = some ⟨(.slice 4), 1, 24, [.slice none 0 0], []⟩ := by kernel_rfl
theorem K93 : tkAt Try.prog 93 = some .func := by kernel_rfl
theorem Z93 : szAt Try.prog 93 = some 1 := by kernel_rfl
theorem T93 : tiOf Try.prog 93 = some ⟨.func, 1, 8, [.nilFunc], []⟩ := by kernel_rfl
theorem K96 : tkAt Try.prog 96 = some .strct := by kernel_rfl
theorem Z96 : szAt Try.prog 96 = some 2 := by kernel_rfl
theorem T96 : tiOf Try.prog 96 = some ⟨.strct, 2, 16, [.int .i64 0, .int .i64 0], [⟨0, 1, (.int .i64)⟩, ⟨1, 1, (.int .i64)⟩]⟩ := by kernel_rfl
theorem K106 : tkAt Try.prog 106 = some .strct := by kernel_rfl
theorem Z106 : szAt Try.prog 106 = some 2 := by kernel_rfl
theorem T106 : tiOf Try.prog 106 = some ⟨.strct, 2, 16, [.int .i64 0, .int .i64 0], [⟨0, 1, (.int .i64)⟩, ⟨1, 1, (.int .i64)⟩]⟩ := by kernel_rfl
def cLClauses : Cd LClauses := cIso (cPair (cInt .i64) (cSl (cSl (cInt .i64)))) (fun x => (x.f0, x.f1))
theorem cLClauses_R {x : LClauses} {c : List PV} (h : cLClauses.R x c) : ∃ v1, c = [.lit (.int .i64 x.f0), v1] ∧ Sl (cSl (cInt .i64)) x.f1 v1 := by
  obtain ⟨p0, q0, e0, g0, r0⟩ := h
  have g0' : p0 = _ := g0
  obtain ⟨v1, g1', s1⟩ := r0
  exact ⟨v1, by rw [e0, g0', g1']; rfl, s1⟩
def cLAnd : Cd LAnd := cIso (cPair (cInt .i64) (cInt .i64)) (fun x => (x.f0, x.f1))
theorem cLAnd_R {x : LAnd} {c : List PV} (h : cLAnd.R x c) : c = [.lit (.int .i64 x.f0), .lit (.int .i64 x.f1)] := by
  obtain ⟨p0, q0, e0, g0, r0⟩ := h
  have g0' : p0 = _ := g0
  have g1' : q0 = _ := r0
  rw [e0, g0', g1']; rfl
def cLCircuit : Cd LCircuit := cIso (cPair (cInt .i64) (cSl cLAnd)) (fun x => (x.f0, x.f1))
theorem cLCircuit_R {x : LCircuit} {c : List PV} (h : cLCircuit.R x c) : ∃ v1, c = [.lit (.int .i64 x.f0), v1] ∧ Sl cLAnd x.f1 v1 := by
  obtain ⟨p0, q0, e0, g0, r0⟩ := h
  have g0' : p0 = _ := g0
  obtain ⟨v1, g1', s1⟩ := r0
  exact ⟨v1, by rw [e0, g0', g1']; rfl, s1⟩
def cIAnd : Cd IAnd := cIso (cPair (cInt .i64) (cInt .i64)) (fun x => (x.f0, x.f1))
theorem cIAnd_R {x : IAnd} {c : List PV} (h : cIAnd.R x c) : c = [.lit (.int .i64 x.f0), .lit (.int .i64 x.f1)] := by
  obtain ⟨p0, q0, e0, g0, r0⟩ := h
  have g0' : p0 = _ := g0
  have g1' : q0 = _ := r0
  rw [e0, g0', g1']; rfl
theorem cIAnd_mk {a0 : Int} {a1 : Int}  : cIAnd.R ⟨a0, a1⟩ [.lit (.int .i64 a0), .lit (.int .i64 a1)] := ⟨_, _, rfl, rfl, rfl⟩
theorem cIAnd_z : cIAnd.R zIAnd (([.int .i64 0, .int .i64 0] : List Value).map .lit) := ⟨_, _, rfl, rfl, rfl⟩
attribute [go_sem] K3 Z3 T3 K4 Z4 T4 K5 Z5 T5 K22 Z22 T22 K24 Z24 T24 K25 Z25 T25 K27 Z27 T27 K31 Z31 T31 K33 Z33 T33 K35 Z35 T35 K40 Z40 T40 K41 Z41 T41 K74 Z74 T74 K75 Z75 T75 K93 Z93 T93 K96 Z96 T96 K106 Z106 T106
end Go.Proofs.Ytaajnneigmgikaa.PA
end
section
namespace Go.Proofs.Ytaajnneigmgikaa.PA
open Go Go.Abs Go.RowKit Go.Proofs Go.Proofs.YtaajnneigmgikaaW.PrintWords Go.Proofs.YtaajnneigmgikaaW.PrintLast Go.Proofs.YtaajnneigmgikaaW.PrintMore
set_option maxRecDepth 100000
set_option maxHeartbeats 4000000
set_option linter.unusedVariables false
set_option linter.unusedSimpArgs false
theorem impl_in.ev {a0 : Int} {a1 : Int} {a2 : Int} {r : Bool} (H : impl_in.f a0 a1 a2 = some r) : Ret Try.prog 65 [.lit (.int .i64 a0), .lit (.int .i64 a1), .lit (.int .i64 a2)] fun v S => v = .lit (.bool r) := by
 unfold impl_in.f at H
 refine Ret.intro Try.func65 rfl (Nat.le_of_ble_eq_true rfl) rfl ?_
 rw [tm3]
 refine Evr.sr rfl (Opl.p1 (n := Opl.nil (Evr.sr rfl (Opl.p1 (n := Opl.p1 (n := Opl.p1 (n := Opl.p1 (n := ?_))))))))
 by_cases c1 : a0 ≥ a1
 case neg =>
  rw [if_neg c1] at H
  have e2 : (decide (a0 ≥ a1)) = false := by simpa using c1
  try rw [e2]
  refine Opl.skp rfl (Opl.skp rfl (Opl.skp rfl (Opl.p1 (n := Opl.p1 (n := Opl.nil ?_)))))
  obtain rfl := Option.some.inj H
  refine Evr.ret1 Try.func65 rfl ?_
  show (.lit (.bool false) : PV) = _
  first | rfl | (simp only [go_sem]; rfl)
 rw [if_pos c1] at H
 have e1 : (decide (a0 ≥ a1)) = true := by simpa using c1
 try rw [e1]
 refine Opl.p1 (n := Opl.p1 (n := Opl.p1 (n := Opl.p1 (n := Opl.p1 (n := Opl.nil ?_)))))
 obtain rfl := Option.some.inj H
 refine Evr.ret1 Try.func65 rfl ?_
 show (.lit (.bool (decide (a0 ≤ a2))) : PV) = _
 first | rfl | (simp only [go_sem]; rfl)
theorem impl_CircuitValid.ev {k : Nat} {a0_0 : Int} {l0_1 : List IAnd} {v0_1 : PV} (hv0_1 : Sl cIAnd l0_1 v0_1) {r : Bool} (H : impl_CircuitValid.f k a0_0 l0_1 = some r) : Ret Try.prog 52 [.agg [.lit (.int .i64 a0_0), v0_1]] fun v S => v = .lit (.bool r) := by
 unfold impl_CircuitValid.f at H
 refine Ret.intro Try.func52 rfl (Nat.le_of_ble_eq_true rfl) rfl ?_
 rw [tm1]
 refine Evr.sr rfl (Opl.box (cs := [.lit (.int .i64 a0_0), v0_1]) rfl rfl rfl rfl ?_)
 rintro i1 S h1 u1 w1
 refine Opl.p1 (n := Opl.nil (Evr.seq (Evr.seq ?_)))
 refine Evr.join (fun tm S => ∃ (kq1 : Nat) (x15_1 : Bool) (i2 : Abs.Id), impl_CircuitValid.j0 kq1 x15_1 a0_0 l0_1 = some r ∧ Has tm [(1, .ptr i2 0), (15, .lit (.bool x15_1))] ∧ Box (.ptr i2 0) [.lit (.int .i64 a0_0), v0_1] S) ?_ fun hk1 => ?_
 ·
  rintro tm S ⟨kq1, x15_1, i2, H, hh, h2⟩
  rw [hh.eq]
  obtain _ | k1 := kq1
  · simp [impl_CircuitValid.j0] at H
  simp only [impl_CircuitValid.j0] at H
  by_cases c1 : x15_1 = true
  case pos =>
   rw [if_pos c1] at H
   obtain rfl : x15_1 = true := by simpa using c1
   refine Evr.condT rfl (Evr.sr rfl (Opl.p1 (n := Opl.nil ?_)))
   obtain rfl := Option.some.inj H
   refine Evr.ret1 Try.func52 rfl ?_
   show (.lit (.bool false) : PV) = _
   first | rfl | (simp only [go_sem]; rfl)
  rw [if_neg c1] at H
  obtain rfl : x15_1 = false := by simpa using c1
  refine Evr.condF rfl (Evr.skip (Evr.seq (Evr.sr rfl (Opl.p1 (v := .ptr i2 1) (n := Opl.ldb (v := v0_1) h2 rfl T33 rfl rfl rfl rfl (Opl.len (xs := l0_1) (by exact hv0_1) K33 rfl rfl rfl rfl (Opl.p1 (n := Opl.nil (Evr.block ?_)))))))))
  refine Evr.loop (Evr.rounds (n := k1) (Inv := fun n tm S => n ≤ k1 ∧ ∃ (x19_1 : Int) (i3 : Abs.Id), impl_CircuitValid.l0 n l0_1 (l0_1.length : Int) x19_1 a0_0 l0_1 = some r ∧ Has tm [(1, .ptr i3 0), (17, v0_1), (18, .lit (.int .i64 (l0_1.length : Int))), (19, .lit (.int .i64 x19_1))] ∧ Box (.ptr i3 0) [.lit (.int .i64 a0_0), v0_1] S) ?_ ?_ ?_)
  · exact ⟨Nat.le_refl _, _, _, H, ⟨rfl, rfl, rfl, rfl, trivial⟩, h2⟩
  ·
   rintro tm S ⟨_, _, _, H, -⟩
   simp [impl_CircuitValid.l0] at H
  ·
   rintro n1 ih1 tm S ⟨hle, x19_1, i3, H, hh, h3⟩
   simp only [impl_CircuitValid.l0] at H
   rw [hh.eq]
   refine Evr.sr rfl (Opl.p1 (n := Opl.nil (Evr.seq ?_)))
   by_cases c2 : x19_1 < (l0_1.length : Int)
   case neg =>
    rw [if_neg c2] at H
    have e6 : (decide (x19_1 < (l0_1.length : Int))) = false := by simpa using c2
    try rw [e6]
    refine Evr.condF rfl (Evr.exit rfl (Evr.sr rfl (Opl.p1 (n := Opl.nil ?_))))
    obtain rfl := Option.some.inj H
    refine Evr.ret1 Try.func52 rfl ?_
    show (.lit (.bool true) : PV) = _
    first | rfl | (simp only [go_sem]; rfl)
   rw [if_pos c2] at H
   have e1 : (decide (x19_1 < (l0_1.length : Int))) = true := by simpa using c2
   try rw [e1]
   refine Evr.condT rfl (Evr.skip (Evr.seq (Evr.block (Evr.sr rfl (Opl.p1 (n := ?_))))))
   obtain ⟨c3, H⟩ := peel H
   obtain ⟨c4, H⟩ := peel H
   refine Opl.idx (M := cIAnd) (xs := l0_1) (j := x19_1) zIAnd (by exact hv0_1) rfl (by omega) (by omega) K33 Z96 rfl rfl ?_
   rintro p1 q1 h4
   obtain rfl := cIAnd_R (x := (rd_IAnd l0_1 x19_1)) h4
   refine Opl.lda (.agg [.lit (.int .i64 ((rd_IAnd l0_1 x19_1).f0)), .lit (.int .i64 ((rd_IAnd l0_1 x19_1).f1))]) rfl T96 rfl rfl rfl rfl (Opl.alloc T96 rfl rfl rfl ?_)
   rintro i4 S h5 u2 w2
   have ap1 := w2.box h3
   have h6 := u2.box h3 ap1
   refine Opl.p1 (n := Opl.stb (vs := [.lit (.int .i64 ((rd_IAnd l0_1 x19_1).f0)), .lit (.int .i64 ((rd_IAnd l0_1 x19_1).f1))]) h5 rfl rfl Z96 rfl (Nat.le_of_ble_eq_true rfl) rfl rfl rfl rfl ?_)
   rintro S (h7 : Box (.ptr i4 0) [.lit (.int .i64 ((rd_IAnd l0_1 x19_1).f0)), .lit (.int .i64 ((rd_IAnd l0_1 x19_1).f1))] _) u3
   have h8 := u3.box h6 ap1
   refine Opl.nil (Evr.sr rfl (Opl.p1 (v := .ptr i3 0) (n := Opl.ldb (v := .lit (.int .i64 a0_0)) h8 rfl T3 rfl rfl rfl rfl (Opl.add (k := .i64) (a := 1) (b := a0_0) K3 rfl rfl rfl rfl (Opl.one (v := .lit (.int .i64 x19_1)) rfl rfl rfl (Opl.add (k := .i64) (a := (wrap64 (1 + a0_0))) (b := x19_1) K3 rfl rfl rfl rfl (Opl.mul (k := .i64) (a := 2) (b := (wrap64 ((wrap64 (1 + a0_0)) + x19_1))) K3 rfl rfl rfl rfl (Opl.subi (k := .i64) (a := (wrap64 (2 * (wrap64 ((wrap64 (1 + a0_0)) + x19_1))))) (b := 1) K3 rfl rfl rfl rfl (Opl.one (v := .lit (.int .i64 (wrap64 ((wrap64 (2 * (wrap64 ((wrap64 (1 + a0_0)) + x19_1)))) - 1)))) rfl rfl rfl (Opl.nil (Evr.sr rfl (Opl.p1 (v := .ptr i4 0) (n := Opl.ldb (v := .lit (.int .i64 ((rd_IAnd l0_1 x19_1).f0))) h7 rfl T3 rfl rfl rfl rfl (Opl.one (v := .lit (.int .i64 (wrap64 ((wrap64 (2 * (wrap64 ((wrap64 (1 + a0_0)) + x19_1)))) - 1)))) rfl rfl rfl ?_))))))))))))))
   obtain ⟨t319, h_t319, H⟩ := Option.bind_eq_some_iff.1 H
   refine Opl.callc (impl_in.ev h_t319) rfl rfl rfl rfl ⟨(.lit _), (.lit _), (.lit _), trivial⟩ (by decide) (Opl.p1 (n := Opl.one (v := .lit (.bool (!t319))) rfl rfl rfl ?_))
   by_cases c5 : t319 = true
   case neg =>
    rw [if_neg c5] at H
    have e5 : (!t319) = true := by simpa using c5
    try rw [e5]
    refine Opl.skp rfl (Opl.skp rfl (Opl.skp rfl (Opl.skp rfl (Opl.skp rfl (Opl.p1 (n := Opl.nil (Evr.condT rfl (Evr.sr rfl (Opl.one (v := .lit (.bool false)) rfl rfl rfl (Opl.nil ?_))))))))))
    obtain rfl := Option.some.inj H
    refine Evr.ret1 Try.func52 rfl ?_
    show (.lit (.bool false) : PV) = _
    first | rfl | (simp only [go_sem]; rfl)
   rw [if_pos c5] at H
   have e2 : (!t319) = false := by simpa using c5
   try rw [e2]
   refine Opl.p1 (v := .ptr i4 1) (n := Opl.ldb (v := .lit (.int .i64 ((rd_IAnd l0_1 x19_1).f1))) h7 rfl T3 rfl rfl rfl rfl (Opl.one (v := .lit (.int .i64 (wrap64 ((wrap64 (2 * (wrap64 ((wrap64 (1 + a0_0)) + x19_1)))) - 1)))) rfl rfl rfl ?_))
   obtain ⟨t320, h_t320, H⟩ := Option.bind_eq_some_iff.1 H
   refine Opl.callc (impl_in.ev h_t320) rfl rfl rfl rfl ⟨(.lit _), (.lit _), (.lit _), trivial⟩ (by decide) (Opl.p1 (n := Opl.p1 (n := Opl.nil ?_)))
   by_cases c6 : t320 = true
   case neg =>
    rw [if_neg c6] at H
    have e4 : (!t320) = true := by simpa using c6
    try rw [e4]
    refine Evr.condT rfl (Evr.sr rfl (Opl.one (v := .lit (.bool false)) rfl rfl rfl (Opl.nil ?_)))
    obtain rfl := Option.some.inj H
    refine Evr.ret1 Try.func52 rfl ?_
    show (.lit (.bool false) : PV) = _
    first | rfl | (simp only [go_sem]; rfl)
   rw [if_pos c6] at H
   have e3 : (!t320) = false := by simpa using c6
   try rw [e3]
   refine Evr.condF rfl (Evr.skip (Evr.inBlock (Evr.regionN rfl (Opl.add (k := .i64) (a := x19_1) (b := 1) K3 rfl rfl rfl rfl (Opl.one (v := .lit (.int .i64 (wrap64 (x19_1 + 1)))) rfl rfl rfl (Opl.nil ?_))))))
   exact ih1 _ (by omega) _ _ ⟨by omega, _, _, H, ⟨rfl, rfl, rfl, rfl, trivial⟩, h8⟩
 ·
  refine Evr.regionN rfl (Opl.p1 (v := .ptr i1 0) (n := Opl.ldb (v := .lit (.int .i64 a0_0)) h1 rfl T3 rfl rfl rfl rfl ?_))
  obtain ⟨t316, h_t316, H⟩ := Option.bind_eq_some_iff.1 H
  refine Opl.callc (impl_in.ev h_t316) rfl rfl rfl rfl ⟨(.lit _), (.lit _), (.lit _), trivial⟩ (by decide) (Opl.p1 (n := Opl.p1 (n := ?_)))
  by_cases c7 : t316 = true
  case neg =>
   rw [if_neg c7] at H
   have e8 : (!t316) = true := by simpa using c7
   try rw [e8]
   refine Opl.skp rfl (Opl.skp rfl (Opl.skp rfl (Opl.skp rfl (Opl.p1 (n := Opl.nil ?_)))))
   exact hk1 _ _ ⟨_, _, _, H, ⟨rfl, (by first | rfl | (show PV.lit (.bool _) = _; congr 2; simp_all)), trivial⟩, h1⟩
  rw [if_pos c7] at H
  have e7 : (!t316) = false := by simpa using c7
  try rw [e7]
  refine Opl.p1 (v := .ptr i1 1) (n := Opl.ldb (v := v0_1) h1 rfl T33 rfl rfl rfl rfl (Opl.len (xs := l0_1) (by exact hv0_1) K33 rfl rfl rfl rfl (Opl.p1 (n := Opl.p1 (n := Opl.nil ?_)))))
  exact hk1 _ _ ⟨_, _, _, H, ⟨rfl, (by first | rfl | (show PV.lit (.bool _) = _; congr 2; simp_all)), trivial⟩, h1⟩
theorem impl_Circuit_isEdge.ev {a0_0 : Int} {l0_1 : List IAnd} {v0_1 : PV} (hv0_1 : Sl cIAnd l0_1 v0_1) {a1 : Int} {r : Bool} (H : impl_Circuit_isEdge.f a0_0 l0_1 a1 = some r) : Ret Try.prog 53 [.agg [.lit (.int .i64 a0_0), v0_1], .lit (.int .i64 a1)] fun v S => v = .lit (.bool r) := by
 unfold impl_Circuit_isEdge.f at H
 refine Ret.intro Try.func53 rfl (Nat.le_of_ble_eq_true rfl) rfl ?_
 rw [tm2]
 refine Evr.sr rfl (Opl.box (cs := [.lit (.int .i64 a0_0), v0_1]) rfl rfl rfl rfl ?_)
 rintro i1 S h1 u1 w1
 refine Opl.p1 (n := Opl.nil (Evr.sr rfl (Opl.p1 (n := Opl.p1 (v := .ptr i1 0) (n := Opl.ldb (v := .lit (.int .i64 a0_0)) h1 rfl T3 rfl rfl rfl rfl (Opl.add (k := .i64) (a := 1) (b := a0_0) K3 rfl rfl rfl rfl (Opl.p1 (v := .ptr i1 1) (n := Opl.ldb (v := v0_1) h1 rfl T33 rfl rfl rfl rfl (Opl.len (xs := l0_1) (by exact hv0_1) K33 rfl rfl rfl rfl (Opl.add (k := .i64) (a := (wrap64 (1 + a0_0))) (b := (l0_1.length : Int)) K3 rfl rfl rfl rfl (Opl.mul (k := .i64) (a := 2) (b := (wrap64 ((wrap64 (1 + a0_0)) + (l0_1.length : Int)))) K3 rfl rfl rfl rfl (Opl.subi (k := .i64) (a := (wrap64 (2 * (wrap64 ((wrap64 (1 + a0_0)) + (l0_1.length : Int)))))) (b := 1) K3 rfl rfl rfl rfl ?_))))))))))))
 obtain ⟨t322, h_t322, H⟩ := Option.bind_eq_some_iff.1 H
 refine Opl.callc (impl_in.ev h_t322) rfl rfl rfl rfl ⟨(.lit _), (.lit _), (.lit _), trivial⟩ (by decide) (Opl.one (v := .lit (.bool t322)) rfl rfl rfl (Opl.nil ?_))
 obtain rfl := Option.some.inj H
 refine Evr.ret1 Try.func53 rfl ?_
 show (.lit (.bool t322) : PV) = _
 first | rfl | (simp only [go_sem]; rfl)
theorem impl_Circuit_needs.ev {k : Nat} {a0_0 : Int} {l0_1 : List IAnd} {v0_1 : PV} (hv0_1 : Sl cIAnd l0_1 v0_1) {a1 : Int} {r : (List Bool)} (H : impl_Circuit_needs.f k a0_0 l0_1 a1 = some r) : Ret Try.prog 55 [.agg [.lit (.int .i64 a0_0), v0_1], .lit (.int .i64 a1)] fun v S => Vec cBool r v S := by
 unfold impl_Circuit_needs.f at H
 refine Ret.intro Try.func55 rfl (Nat.le_of_ble_eq_true rfl) rfl ?_
 rw [tm2]
 refine Evr.sr rfl (Opl.box (cs := [.lit (.int .i64 a0_0), v0_1]) rfl rfl rfl rfl ?_)
 rintro i1 S h1 u1 w1
 refine Opl.p1 (n := Opl.nil (Evr.sr rfl (Opl.p1 (v := .ptr i1 0) (n := Opl.ldb (v := .lit (.int .i64 a0_0)) h1 rfl T3 rfl rfl rfl rfl (Opl.add (k := .i64) (a := 1) (b := a0_0) K3 rfl rfl rfl rfl (Opl.p1 (v := .ptr i1 1) (n := Opl.ldb (v := v0_1) h1 rfl T33 rfl rfl rfl rfl (Opl.len (xs := l0_1) (by exact hv0_1) K33 rfl rfl rfl rfl (Opl.add (k := .i64) (a := (wrap64 (1 + a0_0))) (b := (l0_1.length : Int)) K3 rfl rfl rfl rfl ?_)))))))))
 obtain ⟨c1, H⟩ := peel H
 obtain ⟨c2, H⟩ := peel H
 obtain ⟨y350, hy_, H⟩ := Option.bind_eq_some_iff.1 H
 obtain rfl := Option.some.inj hy_
 obtain ⟨c3, H⟩ := peel H
 obtain ⟨c4, H⟩ := peel H
 refine Opl.make (M := cBool) (m := (wrap64 ((wrap64 (1 + a0_0)) + (l0_1.length : Int)))) false (by exact rfl) rfl rfl K75 T4 rfl (by omega) (by show ((wrap64 ((wrap64 (1 + a0_0)) + (l0_1.length : Int)))).toNat * 1 ≤ 281474976710656; omega) (by omega) rfl rfl rfl ?_
 rintro pv1 S h2 u2 w2
 have ap1 := w2.box h1
 have h3 := u2.box h1 ap1
 refine Opl.one (v := pv1) rfl rfl rfl (Opl.nil (Evr.sr rfl (Opl.one (v := pv1) rfl rfl rfl (Opl.one (v := .lit (.int .i64 a1)) rfl rfl rfl (Opl.one (v := .lit (.int .i64 (wrap64 (Int.tdiv a1 2)))) rfl rfl (by simp only [go_sem]; rw [if_neg (by first | assumption | decide | omega)]; rfl) (Opl.idv (M := cBool) (xs := (List.replicate (wrap64 ((wrap64 (1 + a0_0)) + (l0_1.length : Int))).toNat false)) (j := (wrap64 (Int.tdiv a1 2))) (v := pv1) h2 rfl rfl (by first | omega | (simp only [List.length_set] at *; omega)) (by first | omega | (simp only [List.length_set] at *; omega)) K75 Z4 rfl rfl ?_))))))
 rintro d1 z1 q1 h4 h5
 refine Opl.stv (M := cBool) (xs := (List.replicate (wrap64 ((wrap64 (1 + a0_0)) + (l0_1.length : Int))).toNat false)) (j := (wrap64 (Int.tdiv a1 2))) (y := true) (vs := [.lit (.bool true)]) h4 h5 (by first | omega | (simp only [List.length_set] at *; omega)) (by first | omega | (simp only [List.length_set] at *; omega)) rfl rfl (by exact rfl) Z4 rfl rfl rfl rfl ?_
 rw [← q1]
 rintro S h6 u3
 have h7 := u3.box h3 ap1
 refine Opl.nil (Evr.seq (Evr.sr rfl (Opl.p1 (v := .ptr i1 1) (n := Opl.ldb (v := v0_1) h7 rfl T33 rfl rfl rfl rfl (Opl.len (xs := l0_1) (by exact hv0_1) K33 rfl rfl rfl rfl (Opl.subi (k := .i64) (a := (l0_1.length : Int)) (b := 1) K3 rfl rfl rfl rfl (Opl.one (v := .lit (.int .i64 (wrap64 ((l0_1.length : Int) - 1)))) rfl rfl rfl (Opl.nil (Evr.block ?_)))))))))
 refine Evr.loop (Evr.rounds (n := k) (Inv := fun n tm S => n ≤ k ∧ ∃ (x5_1 : List Bool) (x6_1 : Int) (i2 : Abs.Id) (pv2 : PV), impl_Circuit_needs.l0 n x5_1 x6_1 a0_0 l0_1 = some r ∧ Has tm [(2, .ptr i2 0), (5, pv2), (6, .lit (.int .i64 x6_1))] ∧ Box (.ptr i2 0) [.lit (.int .i64 a0_0), v0_1] S ∧ Vec cBool x5_1 pv2 S ∧ Ap (.ptr i2 0) pv2) ?_ ?_ ?_)
 · exact ⟨Nat.le_refl _, _, _, _, _, H, ⟨rfl, rfl, rfl, trivial⟩, h7, h6, ap1⟩
 ·
  rintro tm S ⟨_, _, _, _, _, H, -⟩
  simp [impl_Circuit_needs.l0] at H
 ·
  rintro n1 ih1 tm S ⟨hle, x5_1, x6_1, i2, pv2, H, hh, h8, h9, ap2⟩
  simp only [impl_Circuit_needs.l0] at H
  rw [hh.eq]
  refine Evr.seq (Evr.sr rfl (Opl.p1 (n := Opl.p1 (n := Opl.nil ?_))))
  by_cases c5 : x6_1 ≥ 0
  case neg =>
   rw [if_neg c5] at H
   have e4 : (decide (x6_1 ≥ 0)) = false := by simpa using c5
   try rw [e4]
   refine Evr.condF rfl (Evr.exit rfl (Evr.sr rfl (Opl.p1 (n := Opl.p1 (n := Opl.nil ?_)))))
   obtain rfl := Option.some.inj H
   refine Evr.ret1 Try.func55 rfl ?_
   show Vec _ _ pv2 _
   exact h9
  rw [if_pos c5] at H
  have e1 : (decide (x6_1 ≥ 0)) = true := by simpa using c5
  try rw [e1]
  refine Evr.condT rfl (Evr.skip (Evr.seq (Evr.block (Evr.sr rfl (Opl.p1 (n := Opl.p1 (v := .ptr i2 0) (n := Opl.ldb (v := .lit (.int .i64 a0_0)) h8 rfl T3 rfl rfl rfl rfl (Opl.add (k := .i64) (a := 1) (b := a0_0) K3 rfl rfl rfl rfl (Opl.one (v := .lit (.int .i64 x6_1)) rfl rfl rfl (Opl.add (k := .i64) (a := (wrap64 (1 + a0_0))) (b := x6_1) K3 rfl rfl rfl rfl ?_))))))))))
  obtain ⟨c6, H⟩ := peel H
  obtain ⟨c7, H⟩ := peel H
  refine Opl.idv (M := cBool) (xs := x5_1) (j := (wrap64 ((wrap64 (1 + a0_0)) + x6_1))) (v := pv2) h9 rfl rfl (by first | omega | (simp only [List.length_set] at *; omega)) (by first | omega | (simp only [List.length_set] at *; omega)) K75 Z4 rfl rfl ?_
  rintro d2 z2 q2 h10 h11
  refine Opl.ldv (M := cBool) (xs := x5_1) (j := (wrap64 ((wrap64 (1 + a0_0)) + x6_1))) false h10 h11 (by first | omega | (simp only [List.length_set] at *; omega)) (by first | omega | (simp only [List.length_set] at *; omega)) rfl T4 rfl rfl rfl ?_
  rintro p1 q3 h12
  obtain rfl : p1 = [.lit (.bool (rdOf false x5_1 (wrap64 ((wrap64 (1 + a0_0)) + x6_1))))] := h12
  refine ⟨.lit (.bool (rdOf false x5_1 (wrap64 ((wrap64 (1 + a0_0)) + x6_1)))), rfl, ?_⟩
  refine Opl.nil ?_
  refine Evr.join (fun tm S => ∃ (kq1 : Nat) (x5_2 : List Bool) (i3 : Abs.Id) (pv3 : PV), impl_Circuit_needs.l0 kq1 x5_2 (wrap64 (x6_1 - 1)) a0_0 l0_1 = some r ∧ kq1 ≤ n1 ∧ Has tm [(2, .ptr i3 0), (5, pv3), (6, .lit (.int .i64 x6_1))] ∧ Box (.ptr i3 0) [.lit (.int .i64 a0_0), v0_1] S ∧ Vec cBool x5_2 pv3 S ∧ Ap (.ptr i3 0) pv3) ?_ fun hk1 => ?_
  ·
   rintro tm S ⟨kq1, x5_2, i3, pv3, H, hle, hh, h13, h14, ap3⟩
   rw [hh.eq]
   refine Evr.inBlock (Evr.regionN rfl (Opl.p1 (n := Opl.subi (k := .i64) (a := x6_1) (b := 1) K3 rfl rfl rfl rfl (Opl.one (v := .lit (.int .i64 (wrap64 (x6_1 - 1)))) rfl rfl rfl (Opl.nil ?_)))))
   exact ih1 _ (by omega) _ _ ⟨by omega, _, _, _, _, H, ⟨rfl, rfl, rfl, trivial⟩, h13, h14, ap3⟩
  ·
   by_cases c8 : rdOf false x5_1 (wrap64 ((wrap64 (1 + a0_0)) + x6_1)) = true
   case neg =>
    rw [if_neg c8] at H
    have e3 : (rdOf false x5_1 (wrap64 ((wrap64 (1 + a0_0)) + x6_1))) = false := by simpa using c8
    try rw [e3]
    refine Evr.condF rfl (Evr.skip ?_)
    exact hk1 _ _ ⟨_, _, _, _, H, by omega, ⟨rfl, rfl, rfl, trivial⟩, h8, h9, ap2⟩
   rw [if_pos c8] at H
   have e2 : (rdOf false x5_1 (wrap64 ((wrap64 (1 + a0_0)) + x6_1))) = true := by simpa using c8
   try rw [e2]
   refine Evr.condT rfl (Evr.regionD rfl (by kernel_rfl) (Opl.one (v := pv2) rfl rfl rfl (Opl.p1 (v := .ptr i2 1) (n := Opl.ldb (v := v0_1) h8 rfl T33 rfl rfl rfl rfl (Opl.one (v := .lit (.int .i64 x6_1)) rfl rfl rfl ?_)))))
   obtain ⟨c9, H⟩ := peel H
   obtain ⟨c10, H⟩ := peel H
   obtain ⟨c11, H⟩ := peel H
   obtain ⟨c12, H⟩ := peel H
   obtain ⟨c13, H⟩ := peel H
   obtain ⟨c14, H⟩ := peel H
   refine Opl.idx (M := cIAnd) (xs := l0_1) (j := x6_1) zIAnd (by exact hv0_1) rfl (by first | omega | (simp only [List.length_set] at *; omega)) (by first | omega | (simp only [List.length_set] at *; omega)) K33 Z96 rfl rfl ?_
   rintro p2 q4 h15
   obtain rfl := cIAnd_R (x := (rd_IAnd l0_1 x6_1)) h15
   refine Opl.p1 (v := .fel ((.lit (.int .i64 ((rd_IAnd l0_1 x6_1).f0))) :: (.lit (.int .i64 ((rd_IAnd l0_1 x6_1).f1))) :: q4)) (n := Opl.lda (.lit (.int .i64 ((rd_IAnd l0_1 x6_1).f0))) rfl T3 rfl rfl rfl rfl (Opl.one (v := .lit (.int .i64 (wrap64 (Int.tdiv ((rd_IAnd l0_1 x6_1).f0) 2)))) rfl rfl (by simp only [go_sem]; rw [if_neg (by first | assumption | decide | omega)]; rfl) (Opl.one (v := pv2) rfl rfl rfl (Opl.p1 (v := .ptr i2 1) (n := Opl.ldb (v := v0_1) h8 rfl T33 rfl rfl rfl rfl (Opl.one (v := .lit (.int .i64 x6_1)) rfl rfl rfl (Opl.idx (M := cIAnd) (xs := l0_1) (j := x6_1) zIAnd (by exact hv0_1) rfl (by first | omega | (simp only [List.length_set] at *; omega)) (by first | omega | (simp only [List.length_set] at *; omega)) K33 Z96 rfl rfl ?_)))))))
   rintro p3 q5 h16
   obtain rfl := cIAnd_R (x := (rd_IAnd l0_1 x6_1)) h16
   refine Opl.p1 (v := .fel ((.lit (.int .i64 ((rd_IAnd l0_1 x6_1).f1))) :: q5)) (n := Opl.lda (.lit (.int .i64 ((rd_IAnd l0_1 x6_1).f1))) rfl T3 rfl rfl rfl rfl (Opl.one (v := .lit (.int .i64 (wrap64 (Int.tdiv ((rd_IAnd l0_1 x6_1).f1) 2)))) rfl rfl (by simp only [go_sem]; rw [if_neg (by first | assumption | decide | omega)]; rfl) (Opl.idv (M := cBool) (xs := x5_1) (j := (wrap64 (Int.tdiv ((rd_IAnd l0_1 x6_1).f0) 2))) (v := pv2) h9 rfl rfl (by first | omega | (simp only [List.length_set] at *; omega)) (by first | omega | (simp only [List.length_set] at *; omega)) K75 Z4 rfl rfl ?_)))
   rintro d3 z3 q6 h17 h18
   refine Opl.stv (M := cBool) (xs := x5_1) (j := (wrap64 (Int.tdiv ((rd_IAnd l0_1 x6_1).f0) 2))) (y := true) (vs := [.lit (.bool true)]) h17 h18 (by first | omega | (simp only [List.length_set] at *; omega)) (by first | omega | (simp only [List.length_set] at *; omega)) rfl rfl (by exact rfl) Z4 rfl rfl rfl rfl ?_
   rw [← q6]
   rintro S h19 u4
   have h20 := u4.box h8 ap2
   refine Opl.idv (M := cBool) (xs := (x5_1.set (wrap64 (Int.tdiv ((rd_IAnd l0_1 x6_1).f0) 2)).toNat true)) (j := (wrap64 (Int.tdiv ((rd_IAnd l0_1 x6_1).f1) 2))) (v := pv2) h19 rfl rfl (by first | omega | (simp only [List.length_set] at *; omega)) (by first | omega | (simp only [List.length_set] at *; omega)) K75 Z4 rfl rfl ?_
   rintro d4 z4 q7 h21 h22
   refine Opl.stv (M := cBool) (xs := (x5_1.set (wrap64 (Int.tdiv ((rd_IAnd l0_1 x6_1).f0) 2)).toNat true)) (j := (wrap64 (Int.tdiv ((rd_IAnd l0_1 x6_1).f1) 2))) (y := true) (vs := [.lit (.bool true)]) h21 h22 (by first | omega | (simp only [List.length_set] at *; omega)) (by first | omega | (simp only [List.length_set] at *; omega)) rfl rfl (by exact rfl) Z4 rfl rfl rfl rfl ?_
   rw [← q7]
   rintro S h23 u5
   have h24 := u5.box h20 ap2
   refine Opl.nil ?_
   exact hk1 _ _ ⟨_, _, _, _, H, by omega, ⟨rfl, rfl, rfl, trivial⟩, h24, h23, ap2⟩
theorem impl_edgeOf.ev {l0 : List Int} {v0 : PV} (hv0 : Sl (cInt .i64) l0 v0) {a1 : Int} {r : Int} (H : impl_edgeOf.f l0 a1 = some r) : Ret Try.prog 57 [v0, .lit (.int .i64 a1)] fun v S => v = .lit (.int .i64 r) := by
 unfold impl_edgeOf.f at H
 refine Ret.intro Try.func57 rfl (Nat.le_of_ble_eq_true rfl) rfl ?_
 rw [tm2]
 refine Evr.sr rfl (Opl.p1 (n := Opl.nil (Evr.sr rfl (Opl.p1 (n := Opl.p1 (n := ?_))))))
 obtain ⟨c1, H⟩ := peel H
 obtain ⟨c2, H⟩ := peel H
 refine Opl.one (v := .lit (.int .i64 (wrap64 (Int.tdiv a1 2)))) rfl rfl (by simp only [go_sem]; rw [if_neg (by first | assumption | decide | omega)]; rfl) (Opl.idx (M := (cInt .i64)) (xs := l0) (j := (wrap64 (Int.tdiv a1 2))) (0 : Int) (by exact hv0) rfl (by omega) (by omega) K41 Z3 rfl rfl ?_)
 rintro p1 q1 h1
 obtain rfl : p1 = [.lit (.int .i64 (rd l0 (wrap64 (Int.tdiv a1 2))))] := h1
 refine Opl.lda (.lit (.int .i64 (rd l0 (wrap64 (Int.tdiv a1 2))))) rfl T3 rfl rfl rfl rfl (Opl.one (v := .lit (.int .i64 a1)) rfl rfl rfl (Opl.one (v := .lit (.int .i64 (Go.bits .and .i64 a1 1))) rfl rfl (by simp only [go_sem]; simp only [Go.bits, w64]; rfl) (Opl.one (v := .lit (.int .i64 (Go.bits .xor .i64 (rd l0 (wrap64 (Int.tdiv a1 2))) (Go.bits .and .i64 a1 1)))) rfl rfl (by simp only [go_sem]; simp only [Go.bits, w64]; rfl) (Opl.one (v := .lit (.int .i64 (Go.bits .xor .i64 (rd l0 (wrap64 (Int.tdiv a1 2))) (Go.bits .and .i64 a1 1)))) rfl rfl rfl (Opl.nil ?_)))))
 obtain rfl := Option.some.inj H
 refine Evr.ret1 Try.func57 rfl ?_
 show (.lit (.int .i64 (Go.bits .xor .i64 (rd l0 (wrap64 (Int.tdiv a1 2))) (Go.bits .and .i64 a1 1))) : PV) = _
 first | rfl | (simp only [go_sem]; rfl)
theorem impl_Circuit_values.ev {k : Nat} {a0_0 : Int} {l0_1 : List IAnd} {v0_1 : PV} (hv0_1 : Sl cIAnd l0_1 v0_1) {l1 : List Int} {v1 : PV} (hv1 : Sl (cInt .i64) l1 v1) {r : (List Int)} (H : impl_Circuit_values.f k a0_0 l0_1 l1 = some r) : Ret Try.prog 58 [.agg [.lit (.int .i64 a0_0), v0_1], v1] fun v S => Vec (cInt .i64) r v S := by
 unfold impl_Circuit_values.f at H
 refine Ret.intro Try.func58 rfl (Nat.le_of_ble_eq_true rfl) rfl ?_
 rw [tm2]
 refine Evr.sr rfl (Opl.box (cs := [.lit (.int .i64 a0_0), v0_1]) rfl rfl rfl rfl ?_)
 rintro i1 S h1 u1 w1
 refine Opl.p1 (n := Opl.nil (Evr.sr rfl (Opl.lits (M := (cInt .i64)) (ys := [0]) [.const (.int .i64 0)] K41 T3 rfl rfl rfl (by exact ⟨rfl, trivial⟩) rfl (by decide) rfl rfl rfl ?_)))
 rintro pv1 S h2 u2 w2
 have ap1 := w2.box h1
 have h3 := u2.box h1 ap1
 refine Opl.p1 (n := ?_)
 obtain ⟨y365, hy_, H⟩ := Option.bind_eq_some_iff.1 H
 obtain rfl := Option.some.inj hy_
 obtain ⟨c1, H⟩ := peel H
 refine Opl.app (M := (cInt .i64)) (xs := [0]) (ys := l1) (v := pv1) h2 (.sl hv1) (oInt .i64) rfl rfl K41 T3 rfl rfl (by (try simp only [List.length_cons, List.length_nil]); omega) (by show (_ + _) * 8 ≤ 140737488355328; (try simp only [List.length_cons, List.length_nil]); omega) rfl rfl rfl rfl rfl ?_
 rintro pv2 S h4 u3 w3
 have ap2 := w3.box h3
 have h5 := u3.box h3 ap1
 refine Opl.p1 (n := Opl.nil (Evr.seq (Evr.sr rfl (Opl.p1 (v := .ptr i1 1) (n := Opl.ldb (v := v0_1) h5 rfl T33 rfl rfl rfl rfl (Opl.len (xs := l0_1) (by exact hv0_1) K33 rfl rfl rfl rfl (Opl.p1 (n := Opl.nil (Evr.block ?_)))))))))
 refine Evr.loop (Evr.rounds (n := k) (Inv := fun n tm S => n ≤ k ∧ ∃ (x5_1 : List Int) (x14_1 : Int) (pv3 : PV), impl_Circuit_values.l0 n x5_1 l0_1 (l0_1.length : Int) x14_1 = some r ∧ Has tm [(5, pv3), (12, v0_1), (13, .lit (.int .i64 (l0_1.length : Int))), (14, .lit (.int .i64 x14_1))] ∧ Vec (cInt .i64) x5_1 pv3 S) ?_ ?_ ?_)
 · exact ⟨Nat.le_refl _, _, _, _, H, ⟨rfl, rfl, rfl, rfl, trivial⟩, h4⟩
 ·
  rintro tm S ⟨_, _, _, _, H, -⟩
  simp [impl_Circuit_values.l0] at H
 ·
  rintro n1 ih1 tm S ⟨hle, x5_1, x14_1, pv3, H, hh, h6⟩
  simp only [impl_Circuit_values.l0] at H
  rw [hh.eq]
  refine Evr.sr rfl (Opl.p1 (n := Opl.nil (Evr.seq ?_)))
  by_cases c2 : x14_1 < (l0_1.length : Int)
  case neg =>
   rw [if_neg c2] at H
   have e2 : (decide (x14_1 < (l0_1.length : Int))) = false := by simpa using c2
   try rw [e2]
   refine Evr.condF rfl (Evr.exit rfl (Evr.sr rfl (Opl.p1 (n := Opl.p1 (n := Opl.nil ?_)))))
   obtain rfl := Option.some.inj H
   refine Evr.ret1 Try.func58 rfl ?_
   show Vec _ _ pv3 _
   exact h6
  rw [if_pos c2] at H
  have e1 : (decide (x14_1 < (l0_1.length : Int))) = true := by simpa using c2
  try rw [e1]
  refine Evr.condT rfl (Evr.skip (Evr.seq (Evr.block (Evr.sr rfl ?_))))
  obtain ⟨c3, H⟩ := peel H
  obtain ⟨c4, H⟩ := peel H
  refine Opl.idx (M := cIAnd) (xs := l0_1) (j := x14_1) zIAnd (by exact hv0_1) rfl (by omega) (by omega) K33 Z96 rfl rfl ?_
  rintro p1 q1 h7
  obtain rfl := cIAnd_R (x := (rd_IAnd l0_1 x14_1)) h7
  refine Opl.lda (.agg [.lit (.int .i64 ((rd_IAnd l0_1 x14_1).f0)), .lit (.int .i64 ((rd_IAnd l0_1 x14_1).f1))]) rfl T96 rfl rfl rfl rfl (Opl.alloc T96 rfl rfl rfl ?_)
  rintro i2 S h8 u4 w4
  have ap3 := w4.vec h6
  have h9 := u4.vec h6 ap3
  refine Opl.stb (vs := [.lit (.int .i64 ((rd_IAnd l0_1 x14_1).f0)), .lit (.int .i64 ((rd_IAnd l0_1 x14_1).f1))]) h8 rfl rfl Z96 rfl (Nat.le_of_ble_eq_true rfl) rfl rfl rfl rfl ?_
  rintro S (h10 : Box (.ptr i2 0) [.lit (.int .i64 ((rd_IAnd l0_1 x14_1).f0)), .lit (.int .i64 ((rd_IAnd l0_1 x14_1).f1))] _) u5
  have h11 := u5.vec h9 ap3
  refine Opl.nil (Evr.regionD rfl (by kernel_rfl) (Opl.p1 (n := Opl.p1 (n := Opl.p1 (v := .ptr i2 0) (n := Opl.ldb (v := .lit (.int .i64 ((rd_IAnd l0_1 x14_1).f0))) h10 rfl T3 rfl rfl rfl rfl ?_)))))
  obtain ⟨t373, h_t373, H⟩ := Option.bind_eq_some_iff.1 H
  obtain ⟨pv4, h12, -, h13⟩ := Out.vec h11
  refine Opl.callw (impl_edgeOf.ev h13 h_t373) rfl rfl rfl (.cons h12 (.cons (.refl _) .nil)) ⟨h13.plain, (.lit _), trivial⟩ (by decide) (Opl.p1 (n := Opl.p1 (v := .ptr i2 1) (n := Opl.ldb (v := .lit (.int .i64 ((rd_IAnd l0_1 x14_1).f1))) h10 rfl T3 rfl rfl rfl rfl ?_)))
  obtain ⟨t374, h_t374, H⟩ := Option.bind_eq_some_iff.1 H
  obtain ⟨pv5, h14, -, h15⟩ := Out.vec h11
  refine Opl.callw (impl_edgeOf.ev h15 h_t374) rfl rfl rfl (.cons h14 (.cons (.refl _) .nil)) ⟨h15.plain, (.lit _), trivial⟩ (by decide) ?_
  obtain ⟨c5, H⟩ := peel H
  refine Opl.one (v := .lit (.int .i64 (Go.bits .and .i64 t373 t374))) rfl rfl (by simp only [go_sem]; simp only [Go.bits, w64]; rfl) (Opl.lits (M := (cInt .i64)) (ys := [(Go.bits .and .i64 t373 t374)]) [.tmp 27] K41 T3 rfl rfl rfl (by exact ⟨rfl, trivial⟩) rfl (by decide) rfl rfl rfl ?_)
  rintro pv6 S h16 u6 w6
  have ap4 := w6.vec h11
  have h17 := u6.vec h11 ap4
  have ap5 := w6.box h10
  have h18 := u6.box h10 ap5
  refine Opl.app (M := (cInt .i64)) (xs := x5_1) (ys := [(Go.bits .and .i64 t373 t374)]) (v := pv3) h17 (.vec h16) (oInt .i64) rfl rfl K41 T3 rfl rfl (by (try simp only [List.length_cons, List.length_nil]); omega) (by show (_ + _) * 8 ≤ 140737488355328; (try simp only [List.length_cons, List.length_nil]); omega) rfl rfl rfl rfl rfl ?_
  rintro pv7 S h19 u7 w7
  have ap6 := w7.box h18
  have h20 := u7.box h18 ap3.symm
  have ap7 := w7.vec h16
  have h21 := u7.vec h16 ap4.symm
  refine Opl.p1 (n := Opl.nil (Evr.inBlock (Evr.regionN rfl (Opl.add (k := .i64) (a := x14_1) (b := 1) K3 rfl rfl rfl rfl (Opl.one (v := .lit (.int .i64 (wrap64 (x14_1 + 1)))) rfl rfl rfl (Opl.nil ?_))))))
  exact ih1 _ (by omega) _ _ ⟨by omega, _, _, _, H, ⟨rfl, rfl, rfl, rfl, trivial⟩, h19⟩
theorem impl_atomOf.ev {a0 : Int} {r : Int} (H : impl_atomOf.f a0 = some r) : Ret Try.prog 72 [.lit (.int .i64 a0)] fun v S => v = .lit (.int .i64 r) := by
 unfold impl_atomOf.f at H
 refine Ret.intro Try.func72 rfl (Nat.le_of_ble_eq_true rfl) rfl ?_
 rw [tm1]
 refine Evr.sr rfl (Opl.p1 (n := Opl.nil (Evr.sr rfl (Opl.p1 (n := Opl.p1 (n := Opl.one (v := .lit (.int .i64 (wrap64 (-a0)))) rfl rfl (by simp only [go_sem, Int.zero_sub, w64]; rfl) (Opl.one rfl rfl (by simp only [go_sem, minFn, maxFn]; rfl) (Opl.one (v := .lit (.int .i64 (if (wrap64 (-a0)) > a0 then (wrap64 (-a0)) else a0))) rfl rfl rfl (Opl.nil ?_)))))))))
 obtain rfl := Option.some.inj H
 refine Evr.ret1 Try.func72 rfl ?_
 show (.lit (.int .i64 (if (wrap64 (-a0)) > a0 then (wrap64 (-a0)) else a0)) : PV) = _
 first | rfl | (simp only [go_sem]; rfl)
theorem impl_ClauseValid.ev {k : Nat} {l0 : List Int} {v0 : PV} (hv0 : Sl (cInt .i64) l0 v0) {a1 : Int} {r : Bool} (H : impl_ClauseValid.f k l0 a1 = some r) : Ret Try.prog 21 [v0, .lit (.int .i64 a1)] fun v S => v = .lit (.bool r) := by
 unfold impl_ClauseValid.f at H
 refine Ret.intro Try.func21 rfl (Nat.le_of_ble_eq_true rfl) rfl ?_
 rw [tm2]
 refine Evr.sr rfl (Opl.p1 (n := Opl.nil (Evr.seq (Evr.sr rfl (Opl.p1 (n := ?_))))))
 obtain ⟨t296, h_t296, H⟩ := Option.bind_eq_some_iff.1 H
 refine Opl.callc (impl_in.ev h_t296) rfl rfl rfl rfl ⟨(.lit _), (.lit _), (.lit _), trivial⟩ (by decide) (Opl.p1 (n := Opl.nil ?_))
 by_cases c1 : t296 = true
 case neg =>
  rw [if_neg c1] at H
  have e10 : (!t296) = true := by simpa using c1
  try rw [e10]
  refine Evr.condT rfl (Evr.sr rfl (Opl.p1 (n := Opl.nil ?_)))
  obtain rfl := Option.some.inj H
  refine Evr.ret1 Try.func21 rfl ?_
  show (.lit (.bool false) : PV) = _
  first | rfl | (simp only [go_sem]; rfl)
 rw [if_pos c1] at H
 have e1 : (!t296) = false := by simpa using c1
 try rw [e1]
 refine Evr.condF rfl (Evr.skip (Evr.seq (Evr.sr rfl (Opl.p1 (n := Opl.len (xs := l0) (by exact hv0) K41 rfl rfl rfl rfl (Opl.p1 (n := Opl.nil (Evr.block ?_))))))))
 refine Evr.loop (Evr.rounds (n := k) (Inv := fun n tm S => n ≤ k ∧ ∃ (x12_1 : Int), impl_ClauseValid.l0 n l0 a1 l0 (l0.length : Int) x12_1 = some r ∧ Has tm [(0, v0), (1, .lit (.int .i64 a1)), (10, v0), (11, .lit (.int .i64 (l0.length : Int))), (12, .lit (.int .i64 x12_1))]) ?_ ?_ ?_)
 · exact ⟨Nat.le_refl _, _, H, ⟨rfl, rfl, rfl, rfl, rfl, trivial⟩⟩
 ·
  rintro tm S ⟨_, _, H, -⟩
  simp [impl_ClauseValid.l0] at H
 ·
  rintro n1 ih1 tm S ⟨hle, x12_1, H, hh⟩
  simp only [impl_ClauseValid.l0] at H
  rw [hh.eq]
  refine Evr.sr rfl (Opl.p1 (n := Opl.nil (Evr.seq ?_)))
  by_cases c2 : x12_1 < (l0.length : Int)
  case neg =>
   rw [if_neg c2] at H
   have e9 : (decide (x12_1 < (l0.length : Int))) = false := by simpa using c2
   try rw [e9]
   refine Evr.condF rfl (Evr.exit rfl (Evr.sr rfl (Opl.p1 (n := Opl.nil ?_))))
   obtain rfl := Option.some.inj H
   refine Evr.ret1 Try.func21 rfl ?_
   show (.lit (.bool true) : PV) = _
   first | rfl | (simp only [go_sem]; rfl)
  rw [if_pos c2] at H
  have e2 : (decide (x12_1 < (l0.length : Int))) = true := by simpa using c2
  try rw [e2]
  refine Evr.condT rfl (Evr.skip (Evr.seq (Evr.block (Evr.sr rfl (Opl.p1 (n := ?_))))))
  obtain ⟨c3, H⟩ := peel H
  obtain ⟨c4, H⟩ := peel H
  refine Opl.idx (M := (cInt .i64)) (xs := l0) (j := x12_1) (0 : Int) (by exact hv0) rfl (by omega) (by omega) K41 Z3 rfl rfl ?_
  rintro p1 q1 h1
  obtain rfl : p1 = [.lit (.int .i64 (rd l0 x12_1))] := h1
  refine Opl.lda (.lit (.int .i64 (rd l0 x12_1))) rfl T3 rfl rfl rfl rfl (Opl.p1 (n := Opl.p1 (n := Opl.nil (Evr.seq ?_))))
  refine Evr.join (fun tm S => ∃ (kq1 : Nat) (x41_1 : Bool), impl_ClauseValid.j1 kq1 l0 a1 l0 (l0.length : Int) x12_1 x41_1 = some r ∧ kq1 ≤ n1 ∧ Has tm [(0, v0), (1, .lit (.int .i64 a1)), (10, v0), (11, .lit (.int .i64 (l0.length : Int))), (12, .lit (.int .i64 x12_1)), (41, .lit (.bool x41_1))]) ?_ fun hk1 => ?_
  ·
   rintro tm S ⟨kq1, x41_1, H, hle, hh⟩
   rw [hh.eq]
   obtain _ | k1 := kq1
   · simp [impl_ClauseValid.j1] at H
   simp only [impl_ClauseValid.j1] at H
   by_cases c5 : x41_1 = true
   case pos =>
    rw [if_pos c5] at H
    obtain rfl : x41_1 = true := by simpa using c5
    refine Evr.condT rfl (Evr.sr rfl (Opl.p1 (n := Opl.nil ?_)))
    obtain rfl := Option.some.inj H
    refine Evr.ret1 Try.func21 rfl ?_
    show (.lit (.bool false) : PV) = _
    first | rfl | (simp only [go_sem]; rfl)
   rw [if_neg c5] at H
   obtain rfl : x41_1 = false := by simpa using c5
   refine Evr.condF rfl (Evr.skip (Evr.inBlock (Evr.regionN rfl (Opl.add (k := .i64) (a := x12_1) (b := 1) K3 rfl rfl rfl rfl (Opl.one (v := .lit (.int .i64 (wrap64 (x12_1 + 1)))) rfl rfl rfl (Opl.nil ?_))))))
   exact ih1 _ (by omega) _ _ ⟨by omega, _, H, ⟨rfl, rfl, rfl, rfl, rfl, trivial⟩⟩
  ·
   refine Evr.regionN rfl (Opl.p1 (n := Opl.p1 (n := Opl.one (v := .lit (.int .i64 (wrap64 (-a1)))) rfl rfl (by simp only [go_sem, Int.zero_sub, w64]; rfl) (Opl.one (v := .lit (.int .i64 a1)) rfl rfl rfl ?_))))
   obtain ⟨t298, h_t298, H⟩ := Option.bind_eq_some_iff.1 H
   refine Opl.callc (impl_in.ev h_t298) rfl rfl rfl rfl ⟨(.lit _), (.lit _), (.lit _), trivial⟩ (by decide) (Opl.p1 (n := Opl.one (v := .lit (.bool (!t298))) rfl rfl rfl ?_))
   by_cases c6 : t298 = true
   case neg =>
    rw [if_neg c6] at H
    have e8 : (!t298) = true := by simpa using c6
    try rw [e8]
    refine Opl.skp rfl (Opl.skp rfl (Opl.p1 (n := Opl.one (v := .lit (.bool true)) rfl rfl rfl (Opl.skp rfl (Opl.skp rfl (Opl.skp rfl (Opl.skp rfl (Opl.skp rfl (Opl.skp rfl (Opl.skp rfl (Opl.skp rfl (Opl.skp rfl (Opl.skp rfl (Opl.skp rfl (Opl.skp rfl (Opl.skp rfl (Opl.p1 (n := Opl.nil ?_))))))))))))))))))
    exact hk1 _ _ ⟨_, _, H, by omega, ⟨rfl, rfl, rfl, rfl, rfl, (by first | rfl | (show PV.lit (.bool _) = _; congr 2; simp_all)), trivial⟩⟩
   rw [if_pos c6] at H
   have e3 : (!t298) = false := by simpa using c6
   try rw [e3]
   refine Opl.one (v := .lit (.int .i64 (rd l0 x12_1))) rfl rfl rfl (Opl.p1 (n := Opl.p1 (n := Opl.one (v := .lit (.bool ((rd l0 x12_1) == 0))) rfl rfl rfl ?_)))
   by_cases c7 : (rd l0 x12_1) = 0
   case pos =>
    rw [if_pos c7] at H
    have e4 : ((rd l0 x12_1) == 0) = true := by simpa using c7
    try rw [e4]
    refine Opl.skp rfl (Opl.skp rfl (Opl.skp rfl (Opl.skp rfl (Opl.skp rfl (Opl.skp rfl (Opl.skp rfl (Opl.skp rfl (Opl.skp rfl (Opl.skp rfl (Opl.skp rfl (Opl.skp rfl (Opl.skp rfl (Opl.p1 (n := Opl.nil ?_))))))))))))))
    exact hk1 _ _ ⟨_, _, H, by omega, ⟨rfl, rfl, rfl, rfl, rfl, (by first | rfl | (show PV.lit (.bool _) = _; congr 2; simp_all)), trivial⟩⟩
   rw [if_neg c7] at H
   have e5 : ((rd l0 x12_1) == 0) = false := by simpa using c7
   try rw [e5]
   refine Opl.one (v := .lit (.int .i64 x12_1)) rfl rfl rfl (Opl.p1 (n := Opl.one (v := .lit (.bool (decide (x12_1 > 0)))) rfl rfl rfl ?_))
   by_cases c8 : x12_1 > 0
   case neg =>
    rw [if_neg c8] at H
    have e7 : (decide (x12_1 > 0)) = false := by simpa using c8
    try rw [e7]
    refine Opl.skp rfl (Opl.skp rfl (Opl.skp rfl (Opl.skp rfl (Opl.skp rfl (Opl.skp rfl (Opl.skp rfl (Opl.skp rfl (Opl.skp rfl (Opl.p1 (n := Opl.p1 (n := Opl.nil ?_)))))))))))
    exact hk1 _ _ ⟨_, _, H, by omega, ⟨rfl, rfl, rfl, rfl, rfl, (by first | rfl | (show PV.lit (.bool _) = _; congr 2; simp_all)), trivial⟩⟩
   rw [if_pos c8] at H
   have e6 : (decide (x12_1 > 0)) = true := by simpa using c8
   try rw [e6]
   refine Opl.one (v := v0) rfl rfl rfl (Opl.one (v := .lit (.int .i64 x12_1)) rfl rfl rfl (Opl.subi (k := .i64) (a := x12_1) (b := 1) K3 rfl rfl rfl rfl ?_))
   obtain ⟨c9, H⟩ := peel H
   obtain ⟨c10, H⟩ := peel H
   refine Opl.idx (M := (cInt .i64)) (xs := l0) (j := (wrap64 (x12_1 - 1))) (0 : Int) (by exact hv0) rfl (by omega) (by omega) K41 Z3 rfl rfl ?_
   rintro p2 q2 h2
   obtain rfl : p2 = [.lit (.int .i64 (rd l0 (wrap64 (x12_1 - 1))))] := h2
   refine Opl.lda (.lit (.int .i64 (rd l0 (wrap64 (x12_1 - 1))))) rfl T3 rfl rfl rfl rfl ?_
   obtain ⟨t300, h_t300, H⟩ := Option.bind_eq_some_iff.1 H
   refine Opl.callc (impl_atomOf.ev h_t300) rfl rfl rfl rfl ⟨(.lit _), trivial⟩ (by decide) (Opl.one (v := .lit (.int .i64 (rd l0 x12_1))) rfl rfl rfl ?_)
   obtain ⟨t301, h_t301, H⟩ := Option.bind_eq_some_iff.1 H
   refine Opl.callc (impl_atomOf.ev h_t301) rfl rfl rfl rfl ⟨(.lit _), trivial⟩ (by decide) (Opl.p1 (n := Opl.p1 (n := Opl.p1 (n := Opl.nil ?_))))
   exact hk1 _ _ ⟨_, _, H, by omega, ⟨rfl, rfl, rfl, rfl, rfl, (by first | rfl | (show PV.lit (.bool _) = _; congr 2; simp_all)), trivial⟩⟩
theorem impl_ClausesValid_1.ev {k : Nat} {l0 : List Int} {v0 : PV} (hv0 : Sl (cInt .i64) l0 v0) {a1_0 : Int} {l1_1 : List (List Int)} {v1_1 : PV} (hv1_1 : Sl (cSl (cInt .i64)) l1_1 v1_1) {r : Bool} (H : impl_ClausesValid_1.f k l0 a1_0 l1_1 = some r) : Ret Try.prog 92 [v0, .fel ((.lit (.int .i64 a1_0)) :: v1_1 :: [])] fun v S => v = .lit (.bool r) := by
 unfold impl_ClausesValid_1.f at H
 refine Ret.intro Try.func92 rfl (Nat.le_of_ble_eq_true rfl) rfl ?_
 rw [tm2]
 refine Evr.sr rfl (Opl.p1 (n := Opl.nil (Evr.sr rfl (Opl.p1 (n := Opl.p1 (v := .fel ((.lit (.int .i64 a1_0)) :: v1_1 :: [])) (n := Opl.lda (.lit (.int .i64 a1_0)) rfl T3 rfl rfl rfl rfl ?_))))))
 obtain ⟨t303, h_t303, H⟩ := Option.bind_eq_some_iff.1 H
 refine Opl.callc (impl_ClauseValid.ev hv0 h_t303) rfl rfl rfl rfl ⟨hv0.plain, (.lit _), trivial⟩ (by decide) (Opl.p1 (n := Opl.p1 (n := Opl.nil ?_)))
 obtain rfl := Option.some.inj H
 refine Evr.ret1 Try.func92 rfl ?_
 show (.lit (.bool (!t303)) : PV) = _
 first | rfl | (simp only [go_sem]; rfl)
theorem slices_IndexFunc_at_impl_ClausesValid_1.ev {k : Nat} {l0 : List (List Int)} {v0 : PV} (hv0 : Sl (cSl (cInt .i64)) l0 v0) {a2_0 : Int} {l2_1 : List (List Int)} {v2_1 : PV} (hv2_1 : Sl (cSl (cInt .i64)) l2_1 v2_1) {r : Int} (H : slices_IndexFunc_at_impl_ClausesValid_1.f k l0 a2_0 l2_1 = some r) : Ret Try.prog 122 [v0, .fn 92 [.fel ((.lit (.int .i64 a2_0)) :: v2_1 :: [])]] fun v S => v = .lit (.int .i64 r) := by
 unfold slices_IndexFunc_at_impl_ClausesValid_1.f at H
 refine Ret.intro Try.func122 rfl (Nat.le_of_ble_eq_true rfl) rfl ?_
 rw [tm2]
 refine Evr.sr rfl (Opl.p1 (n := Opl.nil (Evr.seq (Evr.sr rfl (Opl.p1 (n := Opl.len (xs := l0) (by exact hv0) K22 rfl rfl rfl rfl (Opl.p1 (n := Opl.nil (Evr.block ?_)))))))))
 refine Evr.loop (Evr.rounds (n := k) (Inv := fun n tm S => n ≤ k ∧ ∃ (x8_1 : Int), slices_IndexFunc_at_impl_ClausesValid_1.l0 n l0 (l0.length : Int) x8_1 a2_0 l2_1 = some r ∧ Has tm [(0, v0), (1, .fn 92 [.fel ((.lit (.int .i64 a2_0)) :: v2_1 :: [])]), (7, .lit (.int .i64 (l0.length : Int))), (8, .lit (.int .i64 x8_1))]) ?_ ?_ ?_)
 · exact ⟨Nat.le_refl _, _, H, ⟨rfl, rfl, rfl, rfl, trivial⟩⟩
 ·
  rintro tm S ⟨_, _, H, -⟩
  simp [slices_IndexFunc_at_impl_ClausesValid_1.l0] at H
 ·
  rintro n1 ih1 tm S ⟨hle, x8_1, H, hh⟩
  simp only [slices_IndexFunc_at_impl_ClausesValid_1.l0] at H
  rw [hh.eq]
  refine Evr.sr rfl (Opl.p1 (n := Opl.nil (Evr.seq ?_)))
  by_cases c1 : x8_1 < (l0.length : Int)
  case neg =>
   rw [if_neg c1] at H
   have e2 : (decide (x8_1 < (l0.length : Int))) = false := by simpa using c1
   try rw [e2]
   refine Evr.condF rfl (Evr.exit rfl (Evr.sr rfl (Opl.p1 (n := Opl.nil ?_))))
   obtain rfl := Option.some.inj H
   refine Evr.ret1 Try.func122 rfl ?_
   show (.lit (.int .i64 (-1)) : PV) = _
   first | rfl | (simp only [go_sem]; rfl)
  rw [if_pos c1] at H
  have e1 : (decide (x8_1 < (l0.length : Int))) = true := by simpa using c1
  try rw [e1]
  refine Evr.condT rfl (Evr.skip (Evr.seq (Evr.block (Evr.sr rfl (Opl.p1 (n := Opl.p1 (n := Opl.nil (Evr.sr rfl (Opl.p1 (n := Opl.p1 (n := Opl.p1 (n := ?_))))))))))))
  obtain ⟨c2, H⟩ := peel H
  obtain ⟨c3, H⟩ := peel H
  refine Opl.idx (M := (cSl (cInt .i64))) (xs := l0) (j := x8_1) ([] : List Int) (by exact hv0) rfl (by omega) (by omega) K22 Z41 rfl rfl ?_
  rintro p1 q1 h1
  obtain ⟨pv1, rfl, h2⟩ := h1
  refine Opl.lda (pv1) rfl T41 rfl rfl rfl rfl ?_
  obtain ⟨t306, h_t306, H⟩ := Option.bind_eq_some_iff.1 H
  refine Opl.callc (impl_ClausesValid_1.ev h2 hv2_1 h_t306) rfl rfl rfl rfl ⟨h2.plain, (.felL ⟨(.lit _), hv2_1.plain, trivial⟩), trivial⟩ (by decide) (Opl.nil ?_)
  by_cases c4 : t306 = true
  case pos =>
   rw [if_pos c4] at H
   obtain rfl : t306 = true := by simpa using c4
   refine Evr.condT rfl (Evr.sr rfl (Opl.p1 (n := Opl.p1 (n := Opl.nil ?_))))
   obtain rfl := Option.some.inj H
   refine Evr.ret1 Try.func122 rfl ?_
   show (.lit (.int .i64 x8_1) : PV) = _
   first | rfl | (simp only [go_sem]; rfl)
  rw [if_neg c4] at H
  obtain rfl : t306 = false := by simpa using c4
  refine Evr.condF rfl (Evr.skip (Evr.inBlock (Evr.regionN rfl (Opl.add (k := .i64) (a := x8_1) (b := 1) K3 rfl rfl rfl rfl (Opl.one (v := .lit (.int .i64 (wrap64 (x8_1 + 1)))) rfl rfl rfl (Opl.nil ?_))))))
  exact ih1 _ (by omega) _ _ ⟨by omega, _, H, ⟨rfl, rfl, rfl, rfl, trivial⟩⟩
theorem slices_ContainsFunc_at_impl_ClausesValid_1.ev {k : Nat} {l0 : List (List Int)} {v0 : PV} (hv0 : Sl (cSl (cInt .i64)) l0 v0) {a2_0 : Int} {l2_1 : List (List Int)} {v2_1 : PV} (hv2_1 : Sl (cSl (cInt .i64)) l2_1 v2_1) {r : Bool} (H : slices_ContainsFunc_at_impl_ClausesValid_1.f k l0 a2_0 l2_1 = some r) : Ret Try.prog 91 [v0, .fn 92 [.fel ((.lit (.int .i64 a2_0)) :: v2_1 :: [])]] fun v S => v = .lit (.bool r) := by
 unfold slices_ContainsFunc_at_impl_ClausesValid_1.f at H
 refine Ret.intro Try.func91 rfl (Nat.le_of_ble_eq_true rfl) rfl ?_
 rw [tm2]
 refine Evr.sr rfl (Opl.p1 (n := Opl.nil (Evr.sr rfl (Opl.p1 (n := Opl.p1 (n := ?_))))))
 obtain ⟨t308, h_t308, H⟩ := Option.bind_eq_some_iff.1 H
 refine Opl.callc (slices_IndexFunc_at_impl_ClausesValid_1.ev hv0 hv2_1 h_t308) rfl rfl rfl rfl ⟨hv0.plain, (.fnL ⟨(.felL ⟨(.lit _), hv2_1.plain, trivial⟩), trivial⟩), trivial⟩ (by decide) (Opl.p1 (n := Opl.p1 (n := Opl.nil ?_)))
 obtain rfl := Option.some.inj H
 refine Evr.ret1 Try.func91 rfl ?_
 show (.lit (.bool (decide (t308 ≥ 0))) : PV) = _
 first | rfl | (simp only [go_sem]; rfl)
theorem impl_ClausesValid.ev {k : Nat} {a0_0 : Int} {l0_1 : List (List Int)} {v0_1 : PV} (hv0_1 : Sl (cSl (cInt .i64)) l0_1 v0_1) {r : Bool} (H : impl_ClausesValid.f k a0_0 l0_1 = some r) : Ret Try.prog 36 [.agg [.lit (.int .i64 a0_0), v0_1]] fun v S => v = .lit (.bool r) := by
 unfold impl_ClausesValid.f at H
 refine Ret.intro Try.func36 rfl (Nat.le_of_ble_eq_true rfl) rfl ?_
 rw [tm1]
 refine Evr.sr rfl (Opl.box (cs := [.lit (.int .i64 a0_0), v0_1]) rfl rfl rfl rfl ?_)
 rintro i1 S h1 u1 w1
 refine Opl.p1 (n := Opl.nil (Evr.sr rfl (Opl.p1 (v := .ptr i1 0) (n := Opl.ldb (v := .lit (.int .i64 a0_0)) h1 rfl T3 rfl rfl rfl rfl ?_))))
 obtain ⟨t310, h_t310, H⟩ := Option.bind_eq_some_iff.1 H
 refine Opl.callc (impl_in.ev h_t310) rfl rfl rfl rfl ⟨(.lit _), (.lit _), (.lit _), trivial⟩ (by decide) (Opl.p1 (n := ?_))
 by_cases c1 : t310 = true
 case neg =>
  rw [if_neg c1] at H
  obtain rfl : t310 = false := by simpa using c1
  refine Opl.skp rfl (Opl.skp rfl (Opl.skp rfl (Opl.skp rfl (Opl.p1 (n := Opl.p1 (n := Opl.skp rfl (Opl.skp rfl (Opl.skp rfl (Opl.skp rfl (Opl.skp rfl (Opl.p1 (n := Opl.p1 (n := Opl.nil ?_)))))))))))))
  obtain rfl := Option.some.inj H
  refine Evr.ret1 Try.func36 rfl ?_
  show (.lit (.bool false) : PV) = _
  first | rfl | (simp only [go_sem]; rfl)
 rw [if_pos c1] at H
 obtain rfl : t310 = true := by simpa using c1
 refine Opl.p1 (v := .ptr i1 1) (n := Opl.ldb (v := v0_1) h1 rfl T22 rfl rfl rfl rfl (Opl.len (xs := l0_1) (by exact hv0_1) K22 rfl rfl rfl rfl (Opl.p1 (n := Opl.p1 (n := Opl.p1 (n := ?_))))))
 by_cases c2 : (l0_1.length : Int) ≤ 2500
 case neg =>
  rw [if_neg c2] at H
  have e2 : (decide ((l0_1.length : Int) ≤ 2500)) = false := by simpa using c2
  try rw [e2]
  refine Opl.skp rfl (Opl.skp rfl (Opl.skp rfl (Opl.skp rfl (Opl.skp rfl (Opl.p1 (n := Opl.p1 (n := Opl.nil ?_)))))))
  obtain rfl := Option.some.inj H
  refine Evr.ret1 Try.func36 rfl ?_
  show (.lit (.bool false) : PV) = _
  first | rfl | (simp only [go_sem]; rfl)
 rw [if_pos c2] at H
 have e1 : (decide ((l0_1.length : Int) ≤ 2500)) = true := by simpa using c2
 try rw [e1]
 refine Opl.p1 (v := .ptr i1 1) (n := Opl.ldb (v := v0_1) h1 rfl T22 rfl rfl rfl rfl (Opl.p1 (n := ?_)))
 obtain ⟨t311, h_t311, H⟩ := Option.bind_eq_some_iff.1 H
 refine Opl.callw (slices_ContainsFunc_at_impl_ClausesValid_1.ev hv0_1 hv0_1 h_t311) rfl rfl rfl (.cons (.refl _) (.cons (View.fnV (.cons (View.boxV h1 (.cons (.refl _) (.cons (.refl _) .nil))) .nil)) .nil)) ⟨hv0_1.plain, (.fnL ⟨(.felL ⟨(.lit _), hv0_1.plain, trivial⟩), trivial⟩), trivial⟩ (by decide) (Opl.p1 (n := Opl.p1 (n := Opl.p1 (n := Opl.nil ?_))))
 obtain rfl := Option.some.inj H
 refine Evr.ret1 Try.func36 rfl ?_
 show (.lit (.bool (!t311)) : PV) = _
 first | rfl | (simp only [go_sem]; rfl)
theorem impl_betweenOk.ev {k : Nat} {a0_0 : Int} {l0_1 : List (List Int)} {v0_1 : PV} (hv0_1 : Sl (cSl (cInt .i64)) l0_1 v0_1) {a1 : Int} {r : Bool} (H : impl_betweenOk.f k a0_0 l0_1 a1 = some r) : Ret Try.prog 51 [.agg [.lit (.int .i64 a0_0), v0_1], .lit (.int .i64 a1)] fun v S => v = .lit (.bool r) := by
 unfold impl_betweenOk.f at H
 refine Ret.intro Try.func51 rfl (Nat.le_of_ble_eq_true rfl) rfl ?_
 rw [tm2]
 refine Evr.sr rfl (Opl.box (cs := [.lit (.int .i64 a0_0), v0_1]) rfl rfl rfl rfl ?_)
 rintro i1 S h1 u1 w1
 refine Opl.p1 (n := Opl.nil (Evr.sr rfl (Opl.ldb (v := .agg [.lit (.int .i64 a0_0), v0_1]) h1 rfl T31 rfl rfl rfl rfl ?_)))
 obtain ⟨t313, h_t313, H⟩ := Option.bind_eq_some_iff.1 H
 refine Opl.callc (impl_ClausesValid.ev hv0_1 h_t313) rfl rfl rfl rfl ⟨(.aggL ⟨(.lit _), hv0_1.plain, trivial⟩), trivial⟩ (by decide) (Opl.p1 (n := ?_))
 by_cases c1 : t313 = true
 case neg =>
  rw [if_neg c1] at H
  obtain rfl : t313 = false := by simpa using c1
  refine Opl.skp rfl (Opl.skp rfl (Opl.skp rfl (Opl.p1 (n := Opl.p1 (n := Opl.skp rfl (Opl.skp rfl (Opl.skp rfl (Opl.skp rfl (Opl.skp rfl (Opl.p1 (n := Opl.p1 (n := Opl.nil ?_))))))))))))
  obtain rfl := Option.some.inj H
  refine Evr.ret1 Try.func51 rfl ?_
  show (.lit (.bool false) : PV) = _
  first | rfl | (simp only [go_sem]; rfl)
 rw [if_pos c1] at H
 obtain rfl : t313 = true := by simpa using c1
 refine Opl.p1 (v := .ptr i1 0) (n := Opl.ldb (v := .lit (.int .i64 a0_0)) h1 rfl T3 rfl rfl rfl rfl (Opl.p1 (n := Opl.p1 (n := Opl.p1 (n := ?_)))))
 by_cases c2 : a0_0 ≤ 12
 case neg =>
  rw [if_neg c2] at H
  have e2 : (decide (a0_0 ≤ 12)) = false := by simpa using c2
  try rw [e2]
  refine Opl.skp rfl (Opl.skp rfl (Opl.skp rfl (Opl.skp rfl (Opl.skp rfl (Opl.p1 (n := Opl.p1 (n := Opl.nil ?_)))))))
  obtain rfl := Option.some.inj H
  refine Evr.ret1 Try.func51 rfl ?_
  show (.lit (.bool false) : PV) = _
  first | rfl | (simp only [go_sem]; rfl)
 rw [if_pos c2] at H
 have e1 : (decide (a0_0 ≤ 12)) = true := by simpa using c2
 try rw [e1]
 refine Opl.p1 (n := Opl.p1 (v := .ptr i1 1) (n := Opl.ldb (v := v0_1) h1 rfl T22 rfl rfl rfl rfl (Opl.len (xs := l0_1) (by exact hv0_1) K22 rfl rfl rfl rfl ?_)))
 obtain ⟨t314, h_t314, H⟩ := Option.bind_eq_some_iff.1 H
 refine Opl.callc (impl_in.ev h_t314) rfl rfl rfl rfl ⟨(.lit _), (.lit _), (.lit _), trivial⟩ (by decide) (Opl.p1 (n := Opl.p1 (n := Opl.nil ?_)))
 obtain rfl := Option.some.inj H
 refine Evr.ret1 Try.func51 rfl ?_
 show (.lit (.bool t314) : PV) = _
 first | rfl | (simp only [go_sem]; rfl)
theorem impl_atomsIn.ev {k : Nat} {a0 : Int} {l1 : List (List Int)} {v1 : PV} (hv1 : Sl (cSl (cInt .i64)) l1 v1) {r : (List Bool)} (H : impl_atomsIn.f k a0 l1 = some r) : Ret Try.prog 101 [.lit (.int .i64 a0), v1] fun v S => Vec cBool r v S := by
 unfold impl_atomsIn.f at H
 refine Ret.intro Try.func101 rfl (Nat.le_of_ble_eq_true rfl) rfl ?_
 rw [tm2]
 refine Evr.sr rfl (Opl.p1 (n := Opl.nil (Evr.sr rfl (Opl.p1 (n := Opl.add (k := .i64) (a := a0) (b := 1) K3 rfl rfl rfl rfl ?_)))))
 obtain ⟨c1, H⟩ := peel H
 obtain ⟨c2, H⟩ := peel H
 refine Opl.make (M := cBool) (m := (wrap64 (a0 + 1))) false (by exact rfl) rfl rfl K75 T4 rfl (by omega) (by show ((wrap64 (a0 + 1))).toNat * 1 ≤ 281474976710656; omega) (by omega) rfl rfl rfl ?_
 rintro pv1 S h1 u1 w1
 refine Opl.one (v := pv1) rfl rfl rfl (Opl.nil (Evr.seq (Evr.sr rfl (Opl.one (v := v1) rfl rfl rfl (Opl.len (xs := l1) (by exact hv1) K22 rfl rfl rfl rfl (Opl.one (v := .lit (.int .i64 0)) rfl rfl rfl (Opl.nil (Evr.block ?_))))))))
 refine Evr.loop (Evr.rounds (n := k) (Inv := fun n tm S => n ≤ k ∧ ∃ (x5_1 : List Bool) (x15_1 : Int) (pv2 : PV), impl_atomsIn.l0 n x5_1 l1 (l1.length : Int) x15_1 = some r ∧ Has tm [(5, pv2), (13, v1), (14, .lit (.int .i64 (l1.length : Int))), (15, .lit (.int .i64 x15_1))] ∧ Vec cBool x5_1 pv2 S) ?_ ?_ ?_)
 · exact ⟨Nat.le_refl _, _, _, _, H, ⟨rfl, rfl, rfl, rfl, trivial⟩, h1⟩
 ·
  rintro tm S ⟨_, _, _, _, H, -⟩
  simp [impl_atomsIn.l0] at H
 ·
  rintro n1 ih1 tm S ⟨hle, x5_1, x15_1, pv2, H, hh, h2⟩
  simp only [impl_atomsIn.l0] at H
  rw [hh.eq]
  refine Evr.sr rfl (Opl.p1 (n := Opl.nil (Evr.seq ?_)))
  by_cases c3 : x15_1 < (l1.length : Int)
  case neg =>
   rw [if_neg c3] at H
   have e4 : (decide (x15_1 < (l1.length : Int))) = false := by simpa using c3
   try rw [e4]
   refine Evr.condF rfl (Evr.exit rfl (Evr.sr rfl (Opl.p1 (n := Opl.p1 (n := Opl.nil ?_)))))
   obtain rfl := Option.some.inj H
   refine Evr.ret1 Try.func101 rfl ?_
   show Vec _ _ pv2 _
   exact h2
  rw [if_pos c3] at H
  have e1 : (decide (x15_1 < (l1.length : Int))) = true := by simpa using c3
  try rw [e1]
  refine Evr.condT rfl (Evr.skip (Evr.seq (Evr.block (Evr.sr rfl ?_))))
  obtain ⟨c4, H⟩ := peel H
  obtain ⟨c5, H⟩ := peel H
  refine Opl.idx (M := (cSl (cInt .i64))) (xs := l1) (j := x15_1) ([] : List Int) (by exact hv1) rfl (by omega) (by omega) K22 Z41 rfl rfl ?_
  rintro p1 q1 h3
  obtain ⟨pv3, rfl, h4⟩ := h3
  refine Opl.lda (pv3) rfl T41 rfl rfl rfl rfl (Opl.p1 (n := Opl.nil (Evr.sr rfl (Opl.p1 (n := Opl.len (xs := (rd_Lint l1 x15_1)) (by exact h4) K41 rfl rfl rfl rfl (Opl.p1 (n := Opl.nil (Evr.block ?_))))))))
  refine Evr.loop (Evr.rounds (n := n1) (Inv := fun n tm S => n ≤ n1 ∧ ∃ (x5_2 : List Bool) (x21_1 : Int) (pv4 : PV), impl_atomsIn.l1 n x5_2 l1 (l1.length : Int) x15_1 (rd_Lint l1 x15_1) ((rd_Lint l1 x15_1).length : Int) x21_1 = some r ∧ Has tm [(5, pv4), (13, v1), (14, .lit (.int .i64 (l1.length : Int))), (15, .lit (.int .i64 x15_1)), (19, pv3), (20, .lit (.int .i64 ((rd_Lint l1 x15_1).length : Int))), (21, .lit (.int .i64 x21_1))] ∧ Vec cBool x5_2 pv4 S) ?_ ?_ ?_)
  · exact ⟨Nat.le_refl _, _, _, _, H, ⟨rfl, rfl, rfl, rfl, rfl, rfl, rfl, trivial⟩, h2⟩
  ·
   rintro tm S ⟨_, _, _, _, H, -⟩
   simp [impl_atomsIn.l1] at H
  ·
   rintro n2 ih2 tm S ⟨hle, x5_2, x21_1, pv4, H, hh, h5⟩
   simp only [impl_atomsIn.l1] at H
   rw [hh.eq]
   refine Evr.sr rfl (Opl.p1 (n := Opl.nil (Evr.seq ?_)))
   by_cases c6 : x21_1 < ((rd_Lint l1 x15_1).length : Int)
   case neg =>
    rw [if_neg c6] at H
    have e3 : (decide (x21_1 < ((rd_Lint l1 x15_1).length : Int))) = false := by simpa using c6
    try rw [e3]
    refine Evr.condF rfl (Evr.exit rfl (Evr.inBlock (Evr.regionN rfl (Opl.add (k := .i64) (a := x15_1) (b := 1) K3 rfl rfl rfl rfl (Opl.one (v := .lit (.int .i64 (wrap64 (x15_1 + 1)))) rfl rfl rfl (Opl.nil ?_))))))
    exact ih1 _ (by omega) _ _ ⟨by omega, _, _, _, H, ⟨rfl, rfl, rfl, rfl, trivial⟩, h5⟩
   rw [if_pos c6] at H
   have e2 : (decide (x21_1 < ((rd_Lint l1 x15_1).length : Int))) = true := by simpa using c6
   try rw [e2]
   refine Evr.condT rfl (Evr.skip (Evr.seq (Evr.block (Evr.sr rfl ?_))))
   obtain ⟨c7, H⟩ := peel H
   obtain ⟨c8, H⟩ := peel H
   refine Opl.idx (M := (cInt .i64)) (xs := (rd_Lint l1 x15_1)) (j := x21_1) (0 : Int) (by exact h4) rfl (by omega) (by omega) K41 Z3 rfl rfl ?_
   rintro p2 q2 h6
   obtain rfl : p2 = [.lit (.int .i64 (rd (rd_Lint l1 x15_1) x21_1))] := h6
   refine Opl.lda (.lit (.int .i64 (rd (rd_Lint l1 x15_1) x21_1))) rfl T3 rfl rfl rfl rfl (Opl.p1 (n := Opl.nil (Evr.regionN rfl (Opl.p1 (n := Opl.p1 (n := ?_))))))
   obtain ⟨t328, h_t328, H⟩ := Option.bind_eq_some_iff.1 H
   refine Opl.callc (impl_atomOf.ev h_t328) rfl rfl rfl rfl ⟨(.lit _), trivial⟩ (by decide) ?_
   obtain ⟨c9, H⟩ := peel H
   obtain ⟨c10, H⟩ := peel H
   refine Opl.idv (M := cBool) (xs := x5_2) (j := t328) (v := pv4) h5 rfl rfl (by omega) (by omega) K75 Z4 rfl rfl ?_
   rintro d1 z1 q3 h7 h8
   refine Opl.stv (M := cBool) (xs := x5_2) (j := t328) (y := true) (vs := [.lit (.bool true)]) h7 h8 (by omega) (by omega) rfl rfl (by exact rfl) Z4 rfl rfl rfl rfl ?_
   rw [← q3]
   rintro S h9 u2
   refine Opl.nil (Evr.inBlock (Evr.regionN rfl (Opl.add (k := .i64) (a := x21_1) (b := 1) K3 rfl rfl rfl rfl (Opl.one (v := .lit (.int .i64 (wrap64 (x21_1 + 1)))) rfl rfl rfl (Opl.nil ?_)))))
   exact ih2 _ (by omega) _ _ ⟨by omega, _, _, _, H, ⟨rfl, rfl, rfl, rfl, rfl, rfl, rfl, trivial⟩, h9⟩
theorem impl_shared.ev {k : Nat} {a0_0 : Int} {l0_1 : List (List Int)} {v0_1 : PV} (hv0_1 : Sl (cSl (cInt .i64)) l0_1 v0_1) {a1 : Int} {r : (List Bool)} (H : impl_shared.f k a0_0 l0_1 a1 = some r) : Ret Try.prog 54 [.agg [.lit (.int .i64 a0_0), v0_1], .lit (.int .i64 a1)] fun v S => Vec cBool r v S := by
 unfold impl_shared.f at H
 refine Ret.intro Try.func54 rfl (Nat.le_of_ble_eq_true rfl) rfl ?_
 rw [tm2]
 refine Evr.sr rfl (Opl.box (cs := [.lit (.int .i64 a0_0), v0_1]) rfl rfl rfl rfl ?_)
 rintro i1 S h1 u1 w1
 refine Opl.p1 (n := Opl.nil (Evr.seq (Evr.regionL [(6, .n)] rfl (by kernel_rfl) (Opl.p1 (v := .ptr i1 0) (n := Opl.ldb (v := .lit (.int .i64 a0_0)) h1 rfl T3 rfl rfl rfl rfl (Opl.p1 (v := .ptr i1 1) (n := Opl.ldb (v := v0_1) h1 rfl T22 rfl rfl rfl rfl (Opl.p1 (n := ?_)))))))))
 obtain ⟨c1, H⟩ := peel H
 obtain ⟨c2, H⟩ := peel H
 refine Opl.slcT (M := (cSl (cInt .i64))) (b := a1) (by exact hv0_1) rfl  (by omega) (by omega) K22 Z41 rfl rfl rfl ?_
 rintro pv1 h2
 obtain ⟨t335, h_t335, H⟩ := Option.bind_eq_some_iff.1 H
 refine Opl.calla (impl_atomsIn.ev h2 h_t335) rfl rfl rfl rfl ⟨(.lit _), h2.plain, trivial⟩ rfl ?_
 rintro pv2 S h3 u2 w2
 have ap1 := w2.box h1
 have h4 := u2.box h1 ap1
 refine Opl.p1 (n := Opl.nil (Evr.seq (Evr.seq (Evr.regionD rfl (by kernel_rfl) (Opl.p1 (v := .ptr i1 0) (n := Opl.ldb (v := .lit (.int .i64 a0_0)) h4 rfl T3 rfl rfl rfl rfl (Opl.p1 (v := .ptr i1 1) (n := Opl.ldb (v := v0_1) h4 rfl T22 rfl rfl rfl rfl (Opl.p1 (n := Opl.slcD (M := (cSl (cInt .i64))) (a := a1) (by exact hv0_1) rfl  (by omega) (by omega) K22 Z41 rfl rfl rfl ?_))))))))))
 rintro pv3 h5
 obtain ⟨t342, h_t342, H⟩ := Option.bind_eq_some_iff.1 H
 refine Opl.call ((impl_atomsIn.ev h5 h_t342).mono fun _ _ h => Out.vec h) rfl rfl rfl rfl ⟨(.lit _), h5.plain, trivial⟩ (by decide) ?_
 rintro pv4 h6
 refine Opl.len (xs := t342) (by exact h6) K75 rfl rfl rfl rfl (Opl.p1 (n := Opl.nil (Evr.block ?_)))
 refine Evr.loop (Evr.rounds (n := k) (Inv := fun n tm S => n ≤ k ∧ ∃ (x5_1 : List Bool) (x23_1 : Int) (pv5 : PV), impl_shared.l0 n x5_1 t342 (t342.length : Int) x23_1 = some r ∧ Has tm [(5, pv5), (21, pv4), (22, .lit (.int .i64 (t342.length : Int))), (23, .lit (.int .i64 x23_1))] ∧ Vec cBool x5_1 pv5 S) ?_ ?_ ?_)
 · exact ⟨Nat.le_refl _, _, _, _, H, ⟨rfl, rfl, rfl, rfl, trivial⟩, h3⟩
 ·
  rintro tm S ⟨_, _, _, _, H, -⟩
  simp [impl_shared.l0] at H
 ·
  rintro n1 ih1 tm S ⟨hle, x5_1, x23_1, pv5, H, hh, h7⟩
  simp only [impl_shared.l0] at H
  rw [hh.eq]
  refine Evr.sr rfl (Opl.p1 (n := Opl.nil (Evr.seq ?_)))
  by_cases c3 : x23_1 < (t342.length : Int)
  case neg =>
   rw [if_neg c3] at H
   have e4 : (decide (x23_1 < (t342.length : Int))) = false := by simpa using c3
   try rw [e4]
   refine Evr.condF rfl (Evr.exit rfl (Evr.sr rfl (Opl.p1 (n := Opl.p1 (n := Opl.nil ?_)))))
   obtain rfl := Option.some.inj H
   refine Evr.ret1 Try.func54 rfl ?_
   show Vec _ _ pv5 _
   exact h7
  rw [if_pos c3] at H
  have e1 : (decide (x23_1 < (t342.length : Int))) = true := by simpa using c3
  try rw [e1]
  refine Evr.condT rfl (Evr.skip (Evr.seq (Evr.block (Evr.sr rfl (Opl.p1 (n := ?_))))))
  obtain ⟨c4, H⟩ := peel H
  obtain ⟨c5, H⟩ := peel H
  obtain ⟨c6, H⟩ := peel H
  refine Opl.idx (M := cBool) (xs := t342) (j := x23_1) false (by exact h6) rfl (by omega) (by omega) K75 Z4 rfl rfl ?_
  rintro p1 q1 h8
  obtain rfl : p1 = [.lit (.bool (rdOf false t342 x23_1))] := h8
  refine Opl.lda (.lit (.bool (rdOf false t342 x23_1))) rfl T4 rfl rfl rfl rfl (Opl.p1 (n := Opl.p1 (n := Opl.nil ?_)))
  refine Evr.join (fun tm S => ∃ (kq1 : Nat) (x5_2 : List Bool) (pv6 : PV), impl_shared.l0 kq1 x5_2 t342 (t342.length : Int) (wrap64 (x23_1 + 1)) = some r ∧ kq1 ≤ n1 ∧ Has tm [(5, pv6), (21, pv4), (22, .lit (.int .i64 (t342.length : Int))), (23, .lit (.int .i64 x23_1))] ∧ Vec cBool x5_2 pv6 S) ?_ fun hk1 => ?_
  ·
   rintro tm S ⟨kq1, x5_2, pv6, H, hle, hh, h9⟩
   rw [hh.eq]
   refine Evr.inBlock (Evr.regionN rfl (Opl.add (k := .i64) (a := x23_1) (b := 1) K3 rfl rfl rfl rfl (Opl.one (v := .lit (.int .i64 (wrap64 (x23_1 + 1)))) rfl rfl rfl (Opl.nil ?_))))
   exact ih1 _ (by omega) _ _ ⟨by omega, _, _, _, H, ⟨rfl, rfl, rfl, rfl, trivial⟩, h9⟩
  ·
   refine Evr.regionN rfl (Opl.p1 (n := Opl.p1 (n := Opl.p1 (n := Opl.p1 (n := Opl.idv (M := cBool) (xs := x5_1) (j := x23_1) (v := pv5) h7 rfl rfl (by omega) (by omega) K75 Z4 rfl rfl ?_)))))
   rintro d1 z1 q2 h10 h11
   refine Opl.ldv (M := cBool) (xs := x5_1) (j := x23_1) false h10 h11 (by omega) (by omega) rfl T4 rfl rfl rfl ?_
   rintro p2 q3 h12
   obtain rfl : p2 = [.lit (.bool (rdOf false x5_1 x23_1))] := h12
   refine ⟨.lit (.bool (rdOf false x5_1 x23_1)), rfl, ?_⟩
   refine Opl.p1 (n := ?_)
   by_cases c7 : rdOf false x5_1 x23_1 = true
   case neg =>
    rw [if_neg c7] at H
    have e3 : (rdOf false x5_1 x23_1) = false := by simpa using c7
    try rw [e3]
    refine Opl.skp rfl (Opl.p1 (n := Opl.idv (M := cBool) (xs := x5_1) (j := x23_1) (v := pv5) h7 rfl rfl (by omega) (by omega) K75 Z4 rfl rfl ?_))
    rintro d3 z3 q5 h16 h17
    refine Opl.stv (M := cBool) (xs := x5_1) (j := x23_1) (y := false) (vs := [.lit (.bool false)]) h16 h17 (by omega) (by omega) rfl rfl (by exact rfl) Z4 rfl rfl rfl rfl ?_
    rw [← q5]
    rintro S h18 u4
    refine Opl.nil ?_
    exact hk1 _ _ ⟨_, _, _, H, by omega, ⟨rfl, rfl, rfl, rfl, trivial⟩, h18⟩
   rw [if_pos c7] at H
   have e2 : (rdOf false x5_1 x23_1) = true := by simpa using c7
   try rw [e2]
   refine Opl.p1 (n := Opl.p1 (n := Opl.idv (M := cBool) (xs := x5_1) (j := x23_1) (v := pv5) h7 rfl rfl (by omega) (by omega) K75 Z4 rfl rfl ?_))
   rintro d2 z2 q4 h13 h14
   refine Opl.stv (M := cBool) (xs := x5_1) (j := x23_1) (y := (rdOf false t342 x23_1)) (vs := [.lit (.bool (rdOf false t342 x23_1))]) h13 h14 (by omega) (by omega) rfl rfl (by exact rfl) Z4 rfl rfl rfl rfl ?_
   rw [← q4]
   rintro S h15 u3
   refine Opl.nil ?_
   exact hk1 _ _ ⟨_, _, _, H, by omega, ⟨rfl, rfl, rfl, rfl, trivial⟩, h15⟩
theorem impl_bit.ev {a0 : Bool} {r : Int} (H : impl_bit.f a0 = some r) : Ret Try.prog 125 [.lit (.bool a0)] fun v S => v = .lit (.int .i64 r) := by
 unfold impl_bit.f at H
 refine Ret.intro Try.func125 rfl (Nat.le_of_ble_eq_true rfl) rfl ?_
 rw [tm1]
 refine Evr.sr rfl (Opl.p1 (n := Opl.nil (Evr.seq (Evr.sr rfl (Opl.p1 (n := Opl.nil ?_))))))
 by_cases c1 : a0 = true
 case pos =>
  rw [if_pos c1] at H
  obtain rfl : a0 = true := by simpa using c1
  refine Evr.condT rfl (Evr.sr rfl (Opl.p1 (n := Opl.nil ?_)))
  obtain rfl := Option.some.inj H
  refine Evr.ret1 Try.func125 rfl ?_
  show (.lit (.int .i64 1) : PV) = _
  first | rfl | (simp only [go_sem]; rfl)
 rw [if_neg c1] at H
 obtain rfl : a0 = false := by simpa using c1
 refine Evr.condF rfl (Evr.skip (Evr.sr rfl (Opl.p1 (n := Opl.nil ?_))))
 obtain rfl := Option.some.inj H
 refine Evr.ret1 Try.func125 rfl ?_
 show (.lit (.int .i64 0) : PV) = _
 first | rfl | (simp only [go_sem]; rfl)
theorem impl_litTrue.ev {a0 : Int} {l1 : List Int} {v1 : PV} (hv1 : Sl (cInt .i64) l1 v1) {r : Bool} (H : impl_litTrue.f a0 l1 = some r) : Ret Try.prog 104 [.lit (.int .i64 a0), v1] fun v S => v = .lit (.bool r) := by
 unfold impl_litTrue.f at H
 refine Ret.intro Try.func104 rfl (Nat.le_of_ble_eq_true rfl) rfl ?_
 rw [tm2]
 refine Evr.sr rfl (Opl.p1 (n := Opl.nil (Evr.seq (Evr.regionD rfl (by kernel_rfl) (Opl.p1 (n := Opl.p1 (n := ?_)))))))
 obtain ⟨t378, h_t378, H⟩ := Option.bind_eq_some_iff.1 H
 refine Opl.callc (impl_atomOf.ev h_t378) rfl rfl rfl rfl ⟨(.lit _), trivial⟩ (by decide) (Opl.subi (k := .i64) (a := t378) (b := 1) K3 rfl rfl rfl rfl ?_)
 obtain ⟨c1, H⟩ := peel H
 obtain ⟨c2, H⟩ := peel H
 refine Opl.idx (M := (cInt .i64)) (xs := l1) (j := (wrap64 (t378 - 1))) (0 : Int) (by exact hv1) rfl (by omega) (by omega) K41 Z3 rfl rfl ?_
 rintro p1 q1 h1
 obtain rfl : p1 = [.lit (.int .i64 (rd l1 (wrap64 (t378 - 1))))] := h1
 refine Opl.lda (.lit (.int .i64 (rd l1 (wrap64 (t378 - 1))))) rfl T3 rfl rfl rfl rfl (Opl.one (v := .lit (.int .i64 a0)) rfl rfl rfl (Opl.p1 (n := ?_)))
 obtain ⟨t380, h_t380, H⟩ := Option.bind_eq_some_iff.1 H
 refine Opl.callc (impl_bit.ev h_t380) rfl rfl rfl rfl ⟨(.lit _), trivial⟩ (by decide) (Opl.eql (a := (rd l1 (wrap64 (t378 - 1)))) (b := t380) K3 rfl rfl rfl rfl (Opl.one (v := .lit (.bool ((rd l1 (wrap64 (t378 - 1))) == t380))) rfl rfl rfl (Opl.nil ?_)))
 obtain rfl := Option.some.inj H
 refine Evr.ret1 Try.func104 rfl ?_
 show (.lit (.bool ((rd l1 (wrap64 (t378 - 1))) == t380)) : PV) = _
 first | rfl | (simp only [go_sem]; rfl)
theorem impl_trueIn_1_1.ev {k : Nat} {a0 : Int} {l1 : List Int} {v1 : PV} (hv1 : Sl (cInt .i64) l1 v1) {r : Bool} (H : impl_trueIn_1_1.f k a0 l1 = some r) : Ret Try.prog 103 [.lit (.int .i64 a0), .fel (v1 :: [])] fun v S => v = .lit (.bool r) := by
 unfold impl_trueIn_1_1.f at H
 refine Ret.intro Try.func103 rfl (Nat.le_of_ble_eq_true rfl) rfl ?_
 rw [tm2]
 refine Evr.sr rfl (Opl.p1 (n := Opl.nil (Evr.sr rfl (Opl.p1 (n := Opl.lda (v1) rfl T41 rfl rfl rfl rfl ?_)))))
 obtain ⟨r1, h_r1, H⟩ := Option.bind_eq_some_iff.1 H
 refine Opl.callc (impl_litTrue.ev hv1 h_r1) rfl rfl rfl rfl ⟨(.lit _), hv1.plain, trivial⟩ (by decide) (Opl.p1 (n := Opl.nil ?_))
 obtain rfl := Option.some.inj H
 refine Evr.ret1 Try.func103 rfl ?_
 show (.lit (.bool r1) : PV) = _
 first | rfl | (simp only [go_sem]; rfl)
theorem slices_IndexFunc_int_int_at_impl_trueIn_1_1.ev {k : Nat} {l0 : List Int} {v0 : PV} (hv0 : Sl (cInt .i64) l0 v0) {l2 : List Int} {v2 : PV} (hv2 : Sl (cInt .i64) l2 v2) {r : Int} (H : slices_IndexFunc_int_int_at_impl_trueIn_1_1.f k l0 l2 = some r) : Ret Try.prog 107 [v0, .fn 103 [.fel (v2 :: [])]] fun v S => v = .lit (.int .i64 r) := by
 unfold slices_IndexFunc_int_int_at_impl_trueIn_1_1.f at H
 refine Ret.intro Try.func107 rfl (Nat.le_of_ble_eq_true rfl) rfl ?_
 rw [tm2]
 refine Evr.sr rfl (Opl.p1 (n := Opl.nil (Evr.seq (Evr.sr rfl (Opl.p1 (n := Opl.len (xs := l0) (by exact hv0) K41 rfl rfl rfl rfl (Opl.p1 (n := Opl.nil (Evr.block ?_)))))))))
 refine Evr.loop (Evr.rounds (n := k) (Inv := fun n tm S => n ≤ k ∧ ∃ (x8_1 : Int), slices_IndexFunc_int_int_at_impl_trueIn_1_1.l1 n x8_1 l0 l2 = some r ∧ Has tm [(0, v0), (1, .fn 103 [.fel (v2 :: [])]), (7, .lit (.int .i64 (l0.length : Int))), (8, .lit (.int .i64 x8_1))]) ?_ ?_ ?_)
 · exact ⟨Nat.le_refl _, _, H, ⟨rfl, rfl, rfl, rfl, trivial⟩⟩
 ·
  rintro tm S ⟨_, _, H, -⟩
  simp [slices_IndexFunc_int_int_at_impl_trueIn_1_1.l1] at H
 ·
  rintro n1 ih1 tm S ⟨hle, x8_1, H, hh⟩
  simp only [slices_IndexFunc_int_int_at_impl_trueIn_1_1.l1] at H
  rw [hh.eq]
  refine Evr.sr rfl (Opl.p1 (n := Opl.nil (Evr.seq ?_)))
  by_cases c1 : x8_1 < (l0.length : Int)
  case neg =>
   rw [if_neg c1] at H
   have e2 : (decide (x8_1 < (l0.length : Int))) = false := by simpa using c1
   try rw [e2]
   refine Evr.condF rfl (Evr.exit rfl (Evr.sr rfl (Opl.p1 (n := Opl.nil ?_))))
   obtain rfl := Option.some.inj H
   refine Evr.ret1 Try.func107 rfl ?_
   show (.lit (.int .i64 (-1)) : PV) = _
   first | rfl | (simp only [go_sem]; rfl)
  rw [if_pos c1] at H
  have e1 : (decide (x8_1 < (l0.length : Int))) = true := by simpa using c1
  try rw [e1]
  refine Evr.condT rfl (Evr.skip (Evr.seq (Evr.block (Evr.sr rfl (Opl.p1 (n := Opl.p1 (n := Opl.nil (Evr.sr rfl (Opl.p1 (n := Opl.p1 (n := Opl.p1 (n := ?_))))))))))))
  obtain ⟨c2, H⟩ := peel H
  obtain ⟨c3, H⟩ := peel H
  refine Opl.idx (M := (cInt .i64)) (xs := l0) (j := x8_1) (0 : Int) (by exact hv0) rfl (by omega) (by omega) K41 Z3 rfl rfl ?_
  rintro p1 q1 h1
  obtain rfl : p1 = [.lit (.int .i64 (rd l0 x8_1))] := h1
  refine Opl.lda (.lit (.int .i64 (rd l0 x8_1))) rfl T3 rfl rfl rfl rfl ?_
  obtain ⟨r1, h_r1, H⟩ := Option.bind_eq_some_iff.1 H
  refine Opl.callc (impl_trueIn_1_1.ev hv2 h_r1) rfl rfl rfl rfl ⟨(.lit _), (.felL ⟨hv2.plain, trivial⟩), trivial⟩ (by decide) (Opl.nil ?_)
  by_cases c4 : r1 = true
  case pos =>
   rw [if_pos c4] at H
   obtain rfl : r1 = true := by simpa using c4
   refine Evr.condT rfl (Evr.sr rfl (Opl.p1 (n := Opl.p1 (n := Opl.nil ?_))))
   obtain rfl := Option.some.inj H
   refine Evr.ret1 Try.func107 rfl ?_
   show (.lit (.int .i64 x8_1) : PV) = _
   first | rfl | (simp only [go_sem]; rfl)
  rw [if_neg c4] at H
  obtain rfl : r1 = false := by simpa using c4
  refine Evr.condF rfl (Evr.skip (Evr.inBlock (Evr.regionN rfl (Opl.add (k := .i64) (a := x8_1) (b := 1) K3 rfl rfl rfl rfl (Opl.one (v := .lit (.int .i64 (wrap64 (x8_1 + 1)))) rfl rfl rfl (Opl.nil ?_))))))
  exact ih1 _ (by omega) _ _ ⟨by omega, _, H, ⟨rfl, rfl, rfl, rfl, trivial⟩⟩
theorem slices_ContainsFunc_int_int_at_impl_trueIn_1_1.ev {k : Nat} {l0 : List Int} {v0 : PV} (hv0 : Sl (cInt .i64) l0 v0) {l2 : List Int} {v2 : PV} (hv2 : Sl (cInt .i64) l2 v2) {r : Bool} (H : slices_ContainsFunc_int_int_at_impl_trueIn_1_1.f k l0 l2 = some r) : Ret Try.prog 66 [v0, .fn 103 [.fel (v2 :: [])]] fun v S => v = .lit (.bool r) := by
 unfold slices_ContainsFunc_int_int_at_impl_trueIn_1_1.f at H
 refine Ret.intro Try.func66 rfl (Nat.le_of_ble_eq_true rfl) rfl ?_
 rw [tm2]
 refine Evr.sr rfl (Opl.p1 (n := Opl.nil (Evr.sr rfl (Opl.p1 (n := Opl.p1 (n := ?_))))))
 obtain ⟨r1, h_r1, H⟩ := Option.bind_eq_some_iff.1 H
 refine Opl.callc (slices_IndexFunc_int_int_at_impl_trueIn_1_1.ev hv0 hv2 h_r1) rfl rfl rfl rfl ⟨hv0.plain, (.fnL ⟨(.felL ⟨hv2.plain, trivial⟩), trivial⟩), trivial⟩ (by decide) (Opl.p1 (n := Opl.p1 (n := Opl.nil ?_)))
 obtain rfl := Option.some.inj H
 refine Evr.ret1 Try.func66 rfl ?_
 show (.lit (.bool (decide (r1 ≥ 0))) : PV) = _
 first | rfl | (simp only [go_sem]; rfl)
theorem impl_trueIn_1.ev {k : Nat} {l0 : List Int} {v0 : PV} (hv0 : Sl (cInt .i64) l0 v0) {l1 : List Int} {v1 : PV} (hv1 : Sl (cInt .i64) l1 v1) {r : Bool} (H : impl_trueIn_1.f k l0 l1 = some r) : Ret Try.prog 102 [v0, .fel (v1 :: [])] fun v S => v = .lit (.bool r) := by
 unfold impl_trueIn_1.f at H
 refine Ret.intro Try.func102 rfl (Nat.le_of_ble_eq_true rfl) rfl ?_
 rw [tm2]
 refine Evr.sr rfl (Opl.p1 (n := Opl.nil (Evr.sr rfl (Opl.p1 (n := Opl.p1 (n := ?_))))))
 obtain ⟨r1, h_r1, H⟩ := Option.bind_eq_some_iff.1 H
 refine Opl.callc (slices_ContainsFunc_int_int_at_impl_trueIn_1_1.ev hv0 hv1 h_r1) rfl rfl rfl rfl ⟨hv0.plain, (.fnL ⟨(.felL ⟨hv1.plain, trivial⟩), trivial⟩), trivial⟩ (by decide) (Opl.p1 (n := Opl.p1 (n := Opl.nil ?_)))
 obtain rfl := Option.some.inj H
 refine Evr.ret1 Try.func102 rfl ?_
 show (.lit (.bool (!r1)) : PV) = _
 first | rfl | (simp only [go_sem]; rfl)
theorem slices_IndexFunc_int_int_at_impl_trueIn_1.ev {k : Nat} {l0 : List (List Int)} {v0 : PV} (hv0 : Sl (cSl (cInt .i64)) l0 v0) {l2 : List Int} {v2 : PV} (hv2 : Sl (cInt .i64) l2 v2) {r : Int} (H : slices_IndexFunc_int_int_at_impl_trueIn_1.f k l0 l2 = some r) : Ret Try.prog 122 [v0, .fn 102 [.fel (v2 :: [])]] fun v S => v = .lit (.int .i64 r) := by
 unfold slices_IndexFunc_int_int_at_impl_trueIn_1.f at H
 refine Ret.intro Try.func122 rfl (Nat.le_of_ble_eq_true rfl) rfl ?_
 rw [tm2]
 refine Evr.sr rfl (Opl.p1 (n := Opl.nil (Evr.seq (Evr.sr rfl (Opl.p1 (n := Opl.len (xs := l0) (by exact hv0) K22 rfl rfl rfl rfl (Opl.p1 (n := Opl.nil (Evr.block ?_)))))))))
 refine Evr.loop (Evr.rounds (n := k) (Inv := fun n tm S => n ≤ k ∧ ∃ (x8_1 : Int), slices_IndexFunc_int_int_at_impl_trueIn_1.l1 n x8_1 l0 l2 = some r ∧ Has tm [(0, v0), (1, .fn 102 [.fel (v2 :: [])]), (7, .lit (.int .i64 (l0.length : Int))), (8, .lit (.int .i64 x8_1))]) ?_ ?_ ?_)
 · exact ⟨Nat.le_refl _, _, H, ⟨rfl, rfl, rfl, rfl, trivial⟩⟩
 ·
  rintro tm S ⟨_, _, H, -⟩
  simp [slices_IndexFunc_int_int_at_impl_trueIn_1.l1] at H
 ·
  rintro n1 ih1 tm S ⟨hle, x8_1, H, hh⟩
  simp only [slices_IndexFunc_int_int_at_impl_trueIn_1.l1] at H
  rw [hh.eq]
  refine Evr.sr rfl (Opl.p1 (n := Opl.nil (Evr.seq ?_)))
  by_cases c1 : x8_1 < (l0.length : Int)
  case neg =>
   rw [if_neg c1] at H
   have e2 : (decide (x8_1 < (l0.length : Int))) = false := by simpa using c1
   try rw [e2]
   refine Evr.condF rfl (Evr.exit rfl (Evr.sr rfl (Opl.p1 (n := Opl.nil ?_))))
   obtain rfl := Option.some.inj H
   refine Evr.ret1 Try.func122 rfl ?_
   show (.lit (.int .i64 (-1)) : PV) = _
   first | rfl | (simp only [go_sem]; rfl)
  rw [if_pos c1] at H
  have e1 : (decide (x8_1 < (l0.length : Int))) = true := by simpa using c1
  try rw [e1]
  refine Evr.condT rfl (Evr.skip (Evr.seq (Evr.block (Evr.sr rfl (Opl.p1 (n := Opl.p1 (n := Opl.nil (Evr.sr rfl (Opl.p1 (n := Opl.p1 (n := Opl.p1 (n := ?_))))))))))))
  obtain ⟨c2, H⟩ := peel H
  obtain ⟨c3, H⟩ := peel H
  refine Opl.idx (M := (cSl (cInt .i64))) (xs := l0) (j := x8_1) ([] : List Int) (by exact hv0) rfl (by omega) (by omega) K22 Z41 rfl rfl ?_
  rintro p1 q1 h1
  obtain ⟨pv1, rfl, h2⟩ := h1
  refine Opl.lda (pv1) rfl T41 rfl rfl rfl rfl ?_
  obtain ⟨r1, h_r1, H⟩ := Option.bind_eq_some_iff.1 H
  refine Opl.callc (impl_trueIn_1.ev h2 hv2 h_r1) rfl rfl rfl rfl ⟨h2.plain, (.felL ⟨hv2.plain, trivial⟩), trivial⟩ (by decide) (Opl.nil ?_)
  by_cases c4 : r1 = true
  case pos =>
   rw [if_pos c4] at H
   obtain rfl : r1 = true := by simpa using c4
   refine Evr.condT rfl (Evr.sr rfl (Opl.p1 (n := Opl.p1 (n := Opl.nil ?_))))
   obtain rfl := Option.some.inj H
   refine Evr.ret1 Try.func122 rfl ?_
   show (.lit (.int .i64 x8_1) : PV) = _
   first | rfl | (simp only [go_sem]; rfl)
  rw [if_neg c4] at H
  obtain rfl : r1 = false := by simpa using c4
  refine Evr.condF rfl (Evr.skip (Evr.inBlock (Evr.regionN rfl (Opl.add (k := .i64) (a := x8_1) (b := 1) K3 rfl rfl rfl rfl (Opl.one (v := .lit (.int .i64 (wrap64 (x8_1 + 1)))) rfl rfl rfl (Opl.nil ?_))))))
  exact ih1 _ (by omega) _ _ ⟨by omega, _, H, ⟨rfl, rfl, rfl, rfl, trivial⟩⟩
theorem slices_ContainsFunc_int_int_at_impl_trueIn_1.ev {k : Nat} {l0 : List (List Int)} {v0 : PV} (hv0 : Sl (cSl (cInt .i64)) l0 v0) {l2 : List Int} {v2 : PV} (hv2 : Sl (cInt .i64) l2 v2) {r : Bool} (H : slices_ContainsFunc_int_int_at_impl_trueIn_1.f k l0 l2 = some r) : Ret Try.prog 91 [v0, .fn 102 [.fel (v2 :: [])]] fun v S => v = .lit (.bool r) := by
 unfold slices_ContainsFunc_int_int_at_impl_trueIn_1.f at H
 refine Ret.intro Try.func91 rfl (Nat.le_of_ble_eq_true rfl) rfl ?_
 rw [tm2]
 refine Evr.sr rfl (Opl.p1 (n := Opl.nil (Evr.sr rfl (Opl.p1 (n := Opl.p1 (n := ?_))))))
 obtain ⟨r1, h_r1, H⟩ := Option.bind_eq_some_iff.1 H
 refine Opl.callc (slices_IndexFunc_int_int_at_impl_trueIn_1.ev hv0 hv2 h_r1) rfl rfl rfl rfl ⟨hv0.plain, (.fnL ⟨(.felL ⟨hv2.plain, trivial⟩), trivial⟩), trivial⟩ (by decide) (Opl.p1 (n := Opl.p1 (n := Opl.nil ?_)))
 obtain rfl := Option.some.inj H
 refine Evr.ret1 Try.func91 rfl ?_
 show (.lit (.bool (decide (r1 ≥ 0))) : PV) = _
 first | rfl | (simp only [go_sem]; rfl)
theorem impl_trueIn.ev {k : Nat} {l0 : List (List Int)} {v0 : PV} (hv0 : Sl (cSl (cInt .i64)) l0 v0) {l1 : List Int} {v1 : PV} (hv1 : Sl (cInt .i64) l1 v1) {r : Bool} (H : impl_trueIn.f k l0 l1 = some r) : Ret Try.prog 59 [v0, v1] fun v S => v = .lit (.bool r) := by
 unfold impl_trueIn.f at H
 refine Ret.intro Try.func59 rfl (Nat.le_of_ble_eq_true rfl) rfl ?_
 rw [tm2]
 refine Evr.sr rfl (Opl.box (cs := [v1]) (by exact hv1.cells) rfl rfl rfl ?_)
 rintro i1 S h1 u1 w1
 refine Opl.p1 (n := Opl.nil (Evr.sr rfl (Opl.p1 (n := Opl.p1 (n := ?_)))))
 obtain ⟨r1, h_r1, H⟩ := Option.bind_eq_some_iff.1 H
 refine Opl.callw (slices_ContainsFunc_int_int_at_impl_trueIn_1.ev hv0 hv1 h_r1) rfl rfl rfl (.cons (.refl _) (.cons (View.fnV (.cons (View.boxV h1 (.cons (.refl _) .nil)) .nil)) .nil)) ⟨hv0.plain, (.fnL ⟨(.felL ⟨hv1.plain, trivial⟩), trivial⟩), trivial⟩ (by decide) (Opl.p1 (n := Opl.p1 (n := Opl.nil ?_)))
 obtain rfl := Option.some.inj H
 refine Evr.ret1 Try.func59 rfl ?_
 show (.lit (.bool (!r1)) : PV) = _
 first | rfl | (simp only [go_sem]; rfl)
theorem impl_valueBits.ev {k : Nat} {a0 : Int} {a1 : Int} {r : (List Int)} (H : impl_valueBits.f k a0 a1 = some r) : Ret Try.prog 56 [.lit (.int .i64 a0), .lit (.int .i64 a1)] fun v S => Vec (cInt .i64) r v S := by
 unfold impl_valueBits.f at H
 refine Ret.intro Try.func56 rfl (Nat.le_of_ble_eq_true rfl) rfl ?_
 rw [tm2]
 refine Evr.sr rfl (Opl.p1 (n := Opl.nil (Evr.sr rfl (Opl.p1 (n := ?_)))))
 obtain ⟨c1, H⟩ := peel H
 obtain ⟨c2, H⟩ := peel H
 obtain ⟨y359, hy_, H⟩ := Option.bind_eq_some_iff.1 H
 obtain rfl := Option.some.inj hy_
 refine Opl.make (M := (cInt .i64)) (m := a1) (0 : Int) (by exact rfl) rfl rfl K41 T3 rfl (by omega) (by show (a1).toNat * 8 ≤ 281474976710656; omega) (by omega) rfl rfl rfl ?_
 rintro pv1 S h1 u1 w1
 refine Opl.p1 (n := Opl.nil (Evr.seq (Evr.sr rfl (Opl.p1 (n := Opl.lenv (xs := (List.replicate a1.toNat (0 : Int))) (by exact h1) K41 rfl rfl rfl rfl (Opl.p1 (n := Opl.nil (Evr.block ?_))))))))
 refine Evr.loop (Evr.rounds (n := k) (Inv := fun n tm S => n ≤ k ∧ ∃ (x5_1 : List Int) (x11_1 : Int) (pv2 : PV), impl_valueBits.l0 n a0 a1 x5_1 ((List.replicate (a1 : Int).toNat 0 : List Int).length : Int) x11_1 = some r ∧ Has tm [(0, .lit (.int .i64 a0)), (1, .lit (.int .i64 a1)), (5, pv2), (10, .lit (.int .i64 ((List.replicate a1.toNat (0 : Int)).length : Int))), (11, .lit (.int .i64 x11_1))] ∧ Vec (cInt .i64) x5_1 pv2 S) ?_ ?_ ?_)
 · exact ⟨Nat.le_refl _, _, _, _, H, ⟨rfl, rfl, rfl, rfl, rfl, trivial⟩, h1⟩
 ·
  rintro tm S ⟨_, _, _, _, H, -⟩
  simp [impl_valueBits.l0] at H
 ·
  rintro n1 ih1 tm S ⟨hle, x5_1, x11_1, pv2, H, hh, h2⟩
  simp only [impl_valueBits.l0] at H
  rw [hh.eq]
  refine Evr.sr rfl (Opl.p1 (n := Opl.nil (Evr.seq ?_)))
  by_cases c3 : x11_1 < ((List.replicate (a1 : Int).toNat 0 : List Int).length : Int)
  case neg =>
   rw [if_neg c3] at H
   have e2 : (decide (x11_1 < ((List.replicate a1.toNat (0 : Int)).length : Int))) = false := by simpa using c3
   try rw [e2]
   refine Evr.condF rfl (Evr.exit rfl (Evr.sr rfl (Opl.p1 (n := Opl.p1 (n := Opl.nil ?_)))))
   obtain rfl := Option.some.inj H
   refine Evr.ret1 Try.func56 rfl ?_
   show Vec _ _ pv2 _
   exact h2
  rw [if_pos c3] at H
  have e1 : (decide (x11_1 < ((List.replicate a1.toNat (0 : Int)).length : Int))) = true := by simpa using c3
  try rw [e1]
  refine Evr.condT rfl (Evr.skip (Evr.seq (Evr.block (Evr.sr rfl (Opl.p1 (n := Opl.p1 (n := Opl.nil (Evr.regionN rfl (Opl.p1 (n := Opl.p1 (n := Opl.p1 (n := Opl.p1 (n := Opl.subi (k := .i64) (a := a1) (b := 1) K3 rfl rfl rfl rfl (Opl.one (v := .lit (.int .i64 x11_1)) rfl rfl rfl (Opl.subi (k := .i64) (a := (wrap64 (a1 - 1))) (b := x11_1) K3 rfl rfl rfl rfl ?_)))))))))))))))
  obtain ⟨c4, H⟩ := peel H
  obtain ⟨c5, H⟩ := peel H
  obtain ⟨c6, H⟩ := peel H
  refine Opl.one (v := .lit (.int .i64 (shr .i64 a0 (wrap64 ((wrap64 (a1 - 1)) - x11_1))))) rfl rfl (by simp only [go_sem]; rw [if_neg (by omega), fdiv_pow]; simp only [shr, w64, IntKind.bits]; rfl) (Opl.one (v := .lit (.int .i64 (Go.bits .and .i64 (shr .i64 a0 (wrap64 ((wrap64 (a1 - 1)) - x11_1))) 1))) rfl rfl (by simp only [go_sem]; simp only [Go.bits, w64]; rfl) (Opl.idv (M := (cInt .i64)) (xs := x5_1) (j := x11_1) (v := pv2) h2 rfl rfl (by omega) (by omega) K41 Z3 rfl rfl ?_))
  rintro d1 z1 q1 h3 h4
  refine Opl.stv (M := (cInt .i64)) (xs := x5_1) (j := x11_1) (y := (Go.bits .and .i64 (shr .i64 a0 (wrap64 ((wrap64 (a1 - 1)) - x11_1))) 1)) (vs := [.lit (.int .i64 (Go.bits .and .i64 (shr .i64 a0 (wrap64 ((wrap64 (a1 - 1)) - x11_1))) 1))]) h3 h4 (by omega) (by omega) rfl rfl (by exact rfl) Z3 rfl rfl rfl rfl ?_
  rw [← q1]
  rintro S h5 u2
  refine Opl.nil (Evr.inBlock (Evr.regionN rfl (Opl.add (k := .i64) (a := x11_1) (b := 1) K3 rfl rfl rfl rfl (Opl.one (v := .lit (.int .i64 (wrap64 (x11_1 + 1)))) rfl rfl rfl (Opl.nil ?_)))))
  exact ih1 _ (by omega) _ _ ⟨by omega, _, _, _, H, ⟨rfl, rfl, rfl, rfl, rfl, trivial⟩, h5⟩
theorem impl_LiesBetween.ev {k : Nat} {a0_0 : Int} {l0_1 : List (List Int)} {v0_1 : PV} (hv0_1 : Sl (cSl (cInt .i64)) l0_1 v0_1) {a1 : Int} {a2_0 : Int} {l2_1 : List IAnd} {v2_1 : PV} (hv2_1 : Sl cIAnd l2_1 v2_1) {a3 : Int} {r : Bool} (H : impl_LiesBetween.f k a0_0 l0_1 a1 a2_0 l2_1 a3 = some r) : Ret Try.prog 13 [.agg [.lit (.int .i64 a0_0), v0_1], .lit (.int .i64 a1), .agg [.lit (.int .i64 a2_0), v2_1], .lit (.int .i64 a3)] fun v S => v = .lit (.bool r) := by
 unfold impl_LiesBetween.f at H
 refine Ret.intro Try.func13 rfl (Nat.le_of_ble_eq_true rfl) rfl ?_
 rw [tm4]
 refine Evr.sr rfl (Opl.box (cs := [.lit (.int .i64 a0_0), v0_1]) rfl rfl rfl rfl ?_)
 rintro i1 S h1 u1 w1
 refine Opl.box (cs := [.lit (.int .i64 a2_0), v2_1]) rfl rfl rfl rfl ?_
 rintro i2 S h2 u2 w2
 have ap1 := w2.box h1
 have h3 := u2.box h1 ap1
 refine Opl.p1 (n := Opl.nil (Evr.seq (Evr.sr rfl (Opl.ldb (v := .agg [.lit (.int .i64 a0_0), v0_1]) h3 rfl T31 rfl rfl rfl rfl (Opl.p1 (n := ?_))))))
 obtain ⟨r1, h_r1, H⟩ := Option.bind_eq_some_iff.1 H
 refine Opl.callc (impl_betweenOk.ev hv0_1 h_r1) rfl rfl rfl rfl ⟨(.aggL ⟨(.lit _), hv0_1.plain, trivial⟩), (.lit _), trivial⟩ (by decide) (Opl.p1 (n := Opl.p1 (n := ?_)))
 by_cases c1 : r1 = true
 case neg =>
  rw [if_neg c1] at H
  have e22 : (!r1) = true := by simpa using c1
  try rw [e22]
  refine Opl.skp rfl (Opl.skp rfl (Opl.skp rfl (Opl.p1 (n := Opl.p1 (n := Opl.skp rfl (Opl.skp rfl (Opl.skp rfl (Opl.skp rfl (Opl.skp rfl (Opl.p1 (n := Opl.p1 (n := Opl.skp rfl (Opl.skp rfl (Opl.skp rfl (Opl.skp rfl (Opl.p1 (n := Opl.nil (Evr.condT rfl (Evr.sr rfl (Opl.p1 (n := Opl.nil ?_)))))))))))))))))))))
  obtain rfl := Option.some.inj H
  refine Evr.ret1 Try.func13 rfl ?_
  show (.lit (.bool false) : PV) = _
  first | rfl | (simp only [go_sem]; rfl)
 rw [if_pos c1] at H
 have e1 : (!r1) = false := by simpa using c1
 try rw [e1]
 refine Opl.ldb (v := .agg [.lit (.int .i64 a2_0), v2_1]) h2 rfl T35 rfl rfl rfl rfl ?_
 obtain ⟨r2, h_r2, H⟩ := Option.bind_eq_some_iff.1 H
 refine Opl.callc (impl_CircuitValid.ev hv2_1 h_r2) rfl rfl rfl rfl ⟨(.aggL ⟨(.lit _), hv2_1.plain, trivial⟩), trivial⟩ (by decide) (Opl.p1 (n := Opl.p1 (n := Opl.p1 (n := ?_))))
 by_cases c2 : r2 = true
 case neg =>
  rw [if_neg c2] at H
  have e21 : (!r2) = true := by simpa using c2
  try rw [e21]
  refine Opl.skp rfl (Opl.skp rfl (Opl.skp rfl (Opl.skp rfl (Opl.skp rfl (Opl.p1 (n := Opl.p1 (n := Opl.skp rfl (Opl.skp rfl (Opl.skp rfl (Opl.skp rfl (Opl.p1 (n := Opl.nil (Evr.condT rfl (Evr.sr rfl (Opl.p1 (n := Opl.nil ?_))))))))))))))))
  obtain rfl := Option.some.inj H
  refine Evr.ret1 Try.func13 rfl ?_
  show (.lit (.bool false) : PV) = _
  first | rfl | (simp only [go_sem]; rfl)
 rw [if_pos c2] at H
 have e2 : (!r2) = false := by simpa using c2
 try rw [e2]
 refine Opl.p1 (v := .ptr i2 0) (n := Opl.ldb (v := .lit (.int .i64 a2_0)) h2 rfl T3 rfl rfl rfl rfl (Opl.p1 (v := .ptr i1 0) (n := Opl.ldb (v := .lit (.int .i64 a0_0)) h3 rfl T3 rfl rfl rfl rfl (Opl.p1 (n := Opl.p1 (n := Opl.p1 (n := ?_)))))))
 by_cases c3 : a2_0 ≠ a0_0
 case pos =>
  rw [if_pos c3] at H
  have e3 : (a2_0 != a0_0) = true := by simpa using c3
  try rw [e3]
  refine Opl.skp rfl (Opl.skp rfl (Opl.skp rfl (Opl.skp rfl (Opl.p1 (n := Opl.nil (Evr.condT rfl (Evr.sr rfl (Opl.p1 (n := Opl.nil ?_)))))))))
  obtain rfl := Option.some.inj H
  refine Evr.ret1 Try.func13 rfl ?_
  show (.lit (.bool false) : PV) = _
  first | rfl | (simp only [go_sem]; rfl)
 rw [if_neg c3] at H
 have e4 : (a2_0 != a0_0) = false := by simpa using c3
 try rw [e4]
 refine Opl.ldb (v := .agg [.lit (.int .i64 a2_0), v2_1]) h2 rfl T35 rfl rfl rfl rfl (Opl.p1 (n := ?_))
 obtain ⟨r3, h_r3, H⟩ := Option.bind_eq_some_iff.1 H
 refine Opl.callc (impl_Circuit_isEdge.ev hv2_1 h_r3) rfl rfl rfl rfl ⟨(.aggL ⟨(.lit _), hv2_1.plain, trivial⟩), (.lit _), trivial⟩ (by decide) (Opl.p1 (n := Opl.p1 (n := Opl.nil ?_)))
 by_cases c4 : r3 = true
 case neg =>
  rw [if_neg c4] at H
  have e20 : (!r3) = true := by simpa using c4
  try rw [e20]
  refine Evr.condT rfl (Evr.sr rfl (Opl.p1 (n := Opl.nil ?_)))
  obtain rfl := Option.some.inj H
  refine Evr.ret1 Try.func13 rfl ?_
  show (.lit (.bool false) : PV) = _
  first | rfl | (simp only [go_sem]; rfl)
 rw [if_pos c4] at H
 have e5 : (!r3) = false := by simpa using c4
 try rw [e5]
 refine Evr.condF rfl (Evr.skip (Evr.sr rfl (Opl.ldb (v := .agg [.lit (.int .i64 a0_0), v0_1]) h3 rfl T31 rfl rfl rfl rfl (Opl.p1 (n := ?_)))))
 obtain ⟨r4, h_r4, H⟩ := Option.bind_eq_some_iff.1 H
 refine Opl.call ((impl_shared.ev hv0_1 h_r4).mono fun _ _ h => Out.vec h) rfl rfl rfl rfl ⟨(.aggL ⟨(.lit _), hv0_1.plain, trivial⟩), (.lit _), trivial⟩ (by decide) ?_
 rintro pv1 h4
 refine Opl.p1 (n := Opl.nil (Evr.seq (Evr.seq (Evr.regionD rfl (by kernel_rfl) (Opl.ldb (v := .agg [.lit (.int .i64 a2_0), v2_1]) h2 rfl T35 rfl rfl rfl rfl (Opl.p1 (n := ?_)))))))
 obtain ⟨r5, h_r5, H⟩ := Option.bind_eq_some_iff.1 H
 refine Opl.call ((impl_Circuit_needs.ev hv2_1 h_r5).mono fun _ _ h => Out.vec h) rfl rfl rfl rfl ⟨(.aggL ⟨(.lit _), hv2_1.plain, trivial⟩), (.lit _), trivial⟩ (by decide) ?_
 rintro pv2 h5
 refine Opl.p1 (v := .ptr i2 0) (n := Opl.ldb (v := .lit (.int .i64 a2_0)) h2 rfl T3 rfl rfl rfl rfl (Opl.add (k := .i64) (a := 1) (b := a2_0) K3 rfl rfl rfl rfl ?_))
 obtain ⟨c5, H⟩ := peel H
 obtain ⟨c6, H⟩ := peel H
 refine Opl.slcB (M := cBool) (a := 1) (b := (wrap64 (1 + a2_0))) (by exact h5) rfl rfl  (by omega) (by omega) (by omega) K75 Z4 rfl rfl rfl ?_
 rintro pv3 h6
 refine Opl.len (xs := ((r5.take ((wrap64 (1 + a2_0)) : Int).toNat).drop (1 : Int).toNat)) (by exact h6) K75 rfl rfl rfl rfl (Opl.one (v := .lit (.int .i64 0)) rfl rfl rfl (Opl.nil (Evr.block ?_)))
 refine Evr.loop (Evr.rounds (n := k) (Inv := fun n tm S => n ≤ k ∧ ∃ (x48_1 : Int) (i3 : Abs.Id) (i4 : Abs.Id), impl_LiesBetween.l1 n x48_1 a0_0 l0_1 a1 a2_0 l2_1 a3 r4 r5 = some r ∧ Has tm [(1, .lit (.int .i64 a1)), (3, .lit (.int .i64 a3)), (4, .ptr i3 0), (6, .ptr i4 0), (9, pv1), (46, pv3), (47, .lit (.int .i64 (((r5.take ((wrap64 (1 + a2_0)) : Int).toNat).drop (1 : Int).toNat).length : Int))), (48, .lit (.int .i64 x48_1))] ∧ Box (.ptr i3 0) [.lit (.int .i64 a0_0), v0_1] S ∧ Box (.ptr i4 0) [.lit (.int .i64 a2_0), v2_1] S ∧ Ap (.ptr i3 0) (.ptr i4 0)) ?_ ?_ ?_)
 · exact ⟨Nat.le_refl _, _, _, _, H, ⟨rfl, rfl, rfl, rfl, rfl, rfl, rfl, rfl, trivial⟩, h3, h2, ap1⟩
 ·
  rintro tm S ⟨_, _, _, _, H, -⟩
  simp [impl_LiesBetween.l1] at H
 ·
  rintro n1 ih1 tm S ⟨hle, x48_1, i3, i4, H, hh, h7, h8, ap2⟩
  simp only [impl_LiesBetween.l1] at H
  rw [hh.eq]
  refine Evr.sr rfl (Opl.lss (a := x48_1) (b := (((r5.take ((wrap64 (1 + a2_0)) : Int).toNat).drop (1 : Int).toNat).length : Int)) K3 rfl rfl rfl rfl (Opl.nil (Evr.seq ?_)))
  by_cases c7 : x48_1 < (((r5.take ((wrap64 (1 + a2_0)) : Int).toNat).drop (1 : Int).toNat).length : Int)
  case pos =>
   rw [if_pos c7] at H
   have e6 : (decide (x48_1 < (((r5.take ((wrap64 (1 + a2_0)) : Int).toNat).drop (1 : Int).toNat).length : Int))) = true := by simpa using c7
   try rw [e6]
   refine Evr.condT rfl (Evr.skip (Evr.seq (Evr.block (Evr.sr rfl (Opl.one (v := .lit (.int .i64 x48_1)) rfl rfl rfl ?_)))))
   obtain ⟨c8, H⟩ := peel H
   obtain ⟨c9, H⟩ := peel H
   refine Opl.idx (M := cBool) (xs := ((r5.take ((wrap64 (1 + a2_0)) : Int).toNat).drop (1 : Int).toNat)) (j := x48_1) false (by exact h6) rfl (by omega) (by omega) K75 Z4 rfl rfl ?_
   rintro p1 q1 h9
   obtain rfl : p1 = [.lit (.bool (rdOf false ((r5.take ((wrap64 (1 + a2_0)) : Int).toNat).drop (1 : Int).toNat) x48_1))] := h9
   refine Opl.lda (.lit (.bool (rdOf false ((r5.take ((wrap64 (1 + a2_0)) : Int).toNat).drop (1 : Int).toNat) x48_1))) rfl T4 rfl rfl rfl rfl (Opl.one (v := .lit (.int .i64 x48_1)) rfl rfl rfl (Opl.one (v := .lit (.bool (rdOf false ((r5.take ((wrap64 (1 + a2_0)) : Int).toNat).drop (1 : Int).toNat) x48_1))) rfl rfl rfl (Opl.nil (Evr.seq ?_))))
   refine Evr.join2 (fun tm S => ∃ (kq1 : Nat) (i5 : Abs.Id) (i6 : Abs.Id), impl_LiesBetween.l1 kq1 (wrap64 (x48_1 + 1)) a0_0 l0_1 a1 a2_0 l2_1 a3 r4 r5 = some r ∧ kq1 ≤ n1 ∧ Has tm [(1, .lit (.int .i64 a1)), (3, .lit (.int .i64 a3)), (4, .ptr i5 0), (6, .ptr i6 0), (9, pv1), (46, pv3), (47, .lit (.int .i64 (((r5.take ((wrap64 (1 + a2_0)) : Int).toNat).drop (1 : Int).toNat).length : Int))), (48, .lit (.int .i64 x48_1))] ∧ Box (.ptr i5 0) [.lit (.int .i64 a0_0), v0_1] S ∧ Box (.ptr i6 0) [.lit (.int .i64 a2_0), v2_1] S ∧ Ap (.ptr i5 0) (.ptr i6 0)) ?_ fun hk1 => ?_
   ·
    rintro tm S ⟨kq1, i5, i6, H, hle, hh, h10, h11, ap3⟩
    rw [hh.eq]
    refine Evr.inBlock (Evr.regionN rfl (Opl.add (k := .i64) (a := x48_1) (b := 1) K3 rfl rfl rfl rfl (Opl.one (v := .lit (.int .i64 (wrap64 (x48_1 + 1)))) rfl rfl rfl (Opl.nil ?_))))
    exact ih1 _ (by omega) _ _ ⟨by omega, _, _, _, H, ⟨rfl, rfl, rfl, rfl, rfl, rfl, rfl, rfl, trivial⟩, h10, h11, ap3⟩
   ·
    refine Evr.regionN rfl (Opl.one (v := .lit (.bool (rdOf false ((r5.take ((wrap64 (1 + a2_0)) : Int).toNat).drop (1 : Int).toNat) x48_1))) rfl rfl rfl (Opl.one (v := .lit (.bool (rdOf false ((r5.take ((wrap64 (1 + a2_0)) : Int).toNat).drop (1 : Int).toNat) x48_1))) rfl rfl rfl ?_))
    by_cases c10 : (rdOf false ((r5.take ((wrap64 (1 + a2_0)) : Int).toNat).drop (1 : Int).toNat) x48_1) = true
    case neg =>
     rw [if_neg c10] at H
     have e10 : (rdOf false ((r5.take ((wrap64 (1 + a2_0)) : Int).toNat).drop (1 : Int).toNat) x48_1) = false := by simpa using c10
     try rw [e10]
     refine Opl.skp rfl (Opl.skp rfl (Opl.skp rfl (Opl.skp rfl (Opl.skp rfl (Opl.skp rfl (Opl.p1 (n := Opl.nil (Evr.condF rfl (Evr.skip ?_)))))))))
     exact hk1 _ _ ⟨_, _, _, H, by omega, ⟨rfl, rfl, rfl, rfl, rfl, rfl, rfl, rfl, trivial⟩, h7, h8, ap2⟩
    rw [if_pos c10] at H
    have e7 : (rdOf false ((r5.take ((wrap64 (1 + a2_0)) : Int).toNat).drop (1 : Int).toNat) x48_1) = true := by simpa using c10
    try rw [e7]
    refine Opl.one (v := pv1) rfl rfl rfl (Opl.one (v := .lit (.int .i64 x48_1)) rfl rfl rfl (Opl.add (k := .i64) (a := x48_1) (b := 1) K3 rfl rfl rfl rfl ?_))
    obtain ⟨c11, H⟩ := peel H
    obtain ⟨c12, H⟩ := peel H
    refine Opl.idx (M := cBool) (xs := r4) (j := (wrap64 (x48_1 + 1))) false (by exact h4) rfl (by omega) (by omega) K75 Z4 rfl rfl ?_
    rintro p2 q2 h12
    obtain rfl : p2 = [.lit (.bool (rdOf false r4 (wrap64 (x48_1 + 1))))] := h12
    refine Opl.lda (.lit (.bool (rdOf false r4 (wrap64 (x48_1 + 1))))) rfl T4 rfl rfl rfl rfl (Opl.p1 (n := Opl.p1 (n := Opl.nil ?_)))
    by_cases c13 : (rdOf false r4 (wrap64 (x48_1 + 1))) = true
    case pos =>
     rw [if_pos c13] at H
     have e8 : (!(rdOf false r4 (wrap64 (x48_1 + 1)))) = false := by simpa using c13
     try rw [e8]
     refine Evr.condF rfl (Evr.skip ?_)
     exact hk1 _ _ ⟨_, _, _, H, by omega, ⟨rfl, rfl, rfl, rfl, rfl, rfl, rfl, rfl, trivial⟩, h7, h8, ap2⟩
    rw [if_neg c13] at H
    have e9 : (!(rdOf false r4 (wrap64 (x48_1 + 1)))) = true := by simpa using c13
    try rw [e9]
    refine Evr.condT rfl (Evr.sr rfl (Opl.one (v := .lit (.bool false)) rfl rfl rfl (Opl.nil ?_)))
    obtain rfl := Option.some.inj H
    refine Evr.ret1 Try.func13 rfl ?_
    show (.lit (.bool false) : PV) = _
    first | rfl | (simp only [go_sem]; rfl)
  rw [if_neg c7] at H
  have e11 : (decide (x48_1 < (((r5.take ((wrap64 (1 + a2_0)) : Int).toNat).drop (1 : Int).toNat).length : Int))) = false := by simpa using c7
  try rw [e11]
  refine Evr.condF rfl (Evr.exit rfl (Evr.seq (Evr.sr rfl (Opl.p1 (v := .ptr i4 0) (n := Opl.ldb (v := .lit (.int .i64 a2_0)) h8 rfl T3 rfl rfl rfl rfl ?_)))))
  obtain ⟨c14, H⟩ := peel H
  refine Opl.one (v := .lit (.int .i64 (shl .i64 1 a2_0))) rfl rfl (by simp only [go_sem]; rw [if_neg (by omega)]; simp only [shl, w64, IntKind.bits]; rfl) (Opl.one (v := .lit (.int .i64 0)) rfl rfl rfl (Opl.nil (Evr.block ?_)))
  refine Evr.loop (Evr.rounds (n := n1) (Inv := fun n tm S => n ≤ n1 ∧ ∃ (x66q4_1 : Int) (i7 : Abs.Id) (i8 : Abs.Id), impl_LiesBetween.l2 n x66q4_1 a0_0 l0_1 a1 a2_0 l2_1 a3 = some r ∧ Has tm [(1, .lit (.int .i64 a1)), (3, .lit (.int .i64 a3)), (4, .ptr i7 0), (6, .ptr i8 0), (65, .lit (.int .i64 (shl .i64 1 a2_0))), (66, .lit (.int .i64 x66q4_1))] ∧ Box (.ptr i7 0) [.lit (.int .i64 a0_0), v0_1] S ∧ Box (.ptr i8 0) [.lit (.int .i64 a2_0), v2_1] S ∧ Ap (.ptr i7 0) (.ptr i8 0)) ?_ ?_ ?_)
  · exact ⟨Nat.le_refl _, _, _, _, H, ⟨rfl, rfl, rfl, rfl, rfl, rfl, trivial⟩, h7, h8, ap2⟩
  ·
   rintro tm S ⟨_, _, _, _, H, -⟩
   simp [impl_LiesBetween.l2] at H
  ·
   rintro n2 ih2 tm S ⟨hle, x66q4_1, i7, i8, H, hh, h13, h14, ap4⟩
   simp only [impl_LiesBetween.l2] at H
   rw [hh.eq]
   refine Evr.sr rfl (Opl.p1 (n := Opl.nil (Evr.seq ?_)))
   by_cases c15 : x66q4_1 < (shl .i64 1 a2_0)
   case neg =>
    rw [if_neg c15] at H
    have e19 : (decide (x66q4_1 < (shl .i64 1 a2_0))) = false := by simpa using c15
    try rw [e19]
    refine Evr.condF rfl (Evr.exit rfl (Evr.sr rfl (Opl.p1 (n := Opl.nil ?_))))
    obtain rfl := Option.some.inj H
    refine Evr.ret1 Try.func13 rfl ?_
    show (.lit (.bool true) : PV) = _
    first | rfl | (simp only [go_sem]; rfl)
   rw [if_pos c15] at H
   have e12 : (decide (x66q4_1 < (shl .i64 1 a2_0))) = true := by simpa using c15
   try rw [e12]
   refine Evr.condT rfl (Evr.skip (Evr.seq (Evr.block (Evr.sr rfl (Opl.p1 (n := Opl.p1 (n := Opl.nil (Evr.sr rfl (Opl.p1 (n := Opl.p1 (v := .ptr i8 0) (n := Opl.ldb (v := .lit (.int .i64 a2_0)) h14 rfl T3 rfl rfl rfl rfl ?_)))))))))))
   obtain ⟨r6, h_r6, H⟩ := Option.bind_eq_some_iff.1 H
   refine Opl.call ((impl_valueBits.ev h_r6).mono fun _ _ h => Out.vec h) rfl rfl rfl rfl ⟨(.lit _), (.lit _), trivial⟩ (by decide) ?_
   rintro pv4 h15
   refine Opl.p1 (n := Opl.nil (Evr.sr rfl (Opl.ldb (v := .agg [.lit (.int .i64 a2_0), v2_1]) h14 rfl T35 rfl rfl rfl rfl (Opl.p1 (n := ?_)))))
   obtain ⟨r7, h_r7, H⟩ := Option.bind_eq_some_iff.1 H
   refine Opl.call ((impl_Circuit_values.ev hv2_1 h15 h_r7).mono fun _ _ h => Out.vec h) rfl rfl rfl rfl ⟨(.aggL ⟨(.lit _), hv2_1.plain, trivial⟩), h15.plain, trivial⟩ (by decide) ?_
   rintro pv5 h16
   refine Opl.p1 (n := ?_)
   obtain ⟨r8, h_r8, H⟩ := Option.bind_eq_some_iff.1 H
   refine Opl.callc (impl_edgeOf.ev h16 h_r8) rfl rfl rfl rfl ⟨h16.plain, (.lit _), trivial⟩ (by decide) (Opl.p1 (n := Opl.p1 (n := Opl.nil (Evr.seq ?_))))
   refine Evr.join2 (fun tm S => ∃ (kq2 : Nat) (i9 : Abs.Id) (i10 : Abs.Id), impl_LiesBetween.l2 kq2 (wrap64 (x66q4_1 + 1)) a0_0 l0_1 a1 a2_0 l2_1 a3 = some r ∧ kq2 ≤ n2 ∧ Has tm [(1, .lit (.int .i64 a1)), (3, .lit (.int .i64 a3)), (4, .ptr i9 0), (6, .ptr i10 0), (65, .lit (.int .i64 (shl .i64 1 a2_0))), (66, .lit (.int .i64 x66q4_1))] ∧ Box (.ptr i9 0) [.lit (.int .i64 a0_0), v0_1] S ∧ Box (.ptr i10 0) [.lit (.int .i64 a2_0), v2_1] S ∧ Ap (.ptr i9 0) (.ptr i10 0)) ?_ fun hk2 => ?_
   ·
    rintro tm S ⟨kq2, i9, i10, H, hle, hh, h17, h18, ap5⟩
    rw [hh.eq]
    refine Evr.inBlock (Evr.regionN rfl (Opl.add (k := .i64) (a := x66q4_1) (b := 1) K3 rfl rfl rfl rfl (Opl.one (v := .lit (.int .i64 (wrap64 (x66q4_1 + 1)))) rfl rfl rfl (Opl.nil ?_))))
    exact ih2 _ (by omega) _ _ ⟨by omega, _, _, _, H, ⟨rfl, rfl, rfl, rfl, rfl, rfl, trivial⟩, h17, h18, ap5⟩
   ·
    refine Evr.regionN rfl (Opl.p1 (n := Opl.p1 (n := Opl.p1 (n := ?_))))
    by_cases c16 : r8 = 1
    case pos =>
     rw [if_pos c16] at H
     have e13 : (!(r8 == 1)) = false := by simpa using c16
     try rw [e13]
     refine Opl.skp rfl (Opl.skp rfl (Opl.skp rfl (Opl.skp rfl (Opl.skp rfl (Opl.skp rfl (Opl.p1 (n := Opl.p1 (n := Opl.p1 (n := Opl.p1 (n := ?_))))))))))
     by_cases c17 : r8 = 1
     case neg =>
      rw [if_neg c17] at H
      have e15 : (r8 == 1) = false := by simpa using c17
      try rw [e15]
      refine Opl.skp rfl (Opl.skp rfl (Opl.skp rfl (Opl.skp rfl (Opl.skp rfl (Opl.skp rfl (Opl.p1 (n := Opl.p1 (n := Opl.nil (Evr.condF rfl (Evr.skip ?_))))))))))
      exact hk2 _ _ ⟨_, _, _, H, by omega, ⟨rfl, rfl, rfl, rfl, rfl, rfl, trivial⟩, h13, h14, ap4⟩
     rw [if_pos c17] at H
     have e14 : (r8 == 1) = true := by simpa using c17
     try rw [e14]
     refine Opl.p1 (v := .ptr i7 1) (n := Opl.ldb (v := v0_1) h13 rfl T22 rfl rfl rfl rfl (Opl.p1 (n := ?_)))
     obtain ⟨c18, H⟩ := peel H
     obtain ⟨c19, H⟩ := peel H
     refine Opl.slcD (M := (cSl (cInt .i64))) (a := a1) (by exact hv0_1) rfl  (by omega) (by omega) K22 Z41 rfl rfl rfl ?_
     rintro pv6 h19
     refine Opl.p1 (n := ?_)
     obtain ⟨r9, h_r9, H⟩ := Option.bind_eq_some_iff.1 H
     refine Opl.callc (impl_trueIn.ev h19 h15 h_r9) rfl rfl rfl rfl ⟨h19.plain, h15.plain, trivial⟩ (by decide) (Opl.p1 (n := Opl.p1 (n := Opl.nil ?_)))
     by_cases c20 : r9 = true
     case neg =>
      rw [if_neg c20] at H
      obtain rfl : r9 = false := by simpa using c20
      refine Evr.condF rfl (Evr.skip ?_)
      exact hk2 _ _ ⟨_, _, _, H, by omega, ⟨rfl, rfl, rfl, rfl, rfl, rfl, trivial⟩, h13, h14, ap4⟩
     rw [if_pos c20] at H
     obtain rfl : r9 = true := by simpa using c20
     refine Evr.condT rfl (Evr.sr rfl (Opl.p1 (n := Opl.nil ?_)))
     obtain rfl := Option.some.inj H
     refine Evr.ret1 Try.func13 rfl ?_
     show (.lit (.bool false) : PV) = _
     first | rfl | (simp only [go_sem]; rfl)
    rw [if_neg c16] at H
    have e16 : (!(r8 == 1)) = true := by simpa using c16
    try rw [e16]
    refine Opl.p1 (v := .ptr i7 1) (n := Opl.ldb (v := v0_1) h13 rfl T22 rfl rfl rfl rfl (Opl.p1 (n := ?_)))
    obtain ⟨c21, H⟩ := peel H
    obtain ⟨c22, H⟩ := peel H
    refine Opl.slcT (M := (cSl (cInt .i64))) (b := a1) (by exact hv0_1) rfl  (by omega) (by omega) K22 Z41 rfl rfl rfl ?_
    rintro pv7 h20
    refine Opl.p1 (n := ?_)
    obtain ⟨r10, h_r10, H⟩ := Option.bind_eq_some_iff.1 H
    refine Opl.callc (impl_trueIn.ev h20 h15 h_r10) rfl rfl rfl rfl ⟨h20.plain, h15.plain, trivial⟩ (by decide) (Opl.p1 (n := Opl.p1 (n := ?_)))
    by_cases c23 : r10 = true
    case pos =>
     rw [if_pos c23] at H
     obtain rfl : r10 = true := by simpa using c23
     refine Opl.skp rfl (Opl.skp rfl (Opl.skp rfl (Opl.skp rfl (Opl.skp rfl (Opl.skp rfl (Opl.skp rfl (Opl.skp rfl (Opl.skp rfl (Opl.p1 (n := Opl.nil (Evr.condT rfl (Evr.sr rfl (Opl.p1 (n := Opl.nil ?_))))))))))))))
     obtain rfl := Option.some.inj H
     refine Evr.ret1 Try.func13 rfl ?_
     show (.lit (.bool false) : PV) = _
     first | rfl | (simp only [go_sem]; rfl)
    rw [if_neg c23] at H
    obtain rfl : r10 = false := by simpa using c23
    refine Opl.p1 (n := Opl.p1 (n := ?_))
    by_cases c24 : r8 = 1
    case neg =>
     rw [if_neg c24] at H
     have e18 : (r8 == 1) = false := by simpa using c24
     try rw [e18]
     refine Opl.skp rfl (Opl.skp rfl (Opl.skp rfl (Opl.skp rfl (Opl.skp rfl (Opl.skp rfl (Opl.p1 (n := Opl.p1 (n := Opl.nil (Evr.condF rfl (Evr.skip ?_))))))))))
     exact hk2 _ _ ⟨_, _, _, H, by omega, ⟨rfl, rfl, rfl, rfl, rfl, rfl, trivial⟩, h13, h14, ap4⟩
    rw [if_pos c24] at H
    have e17 : (r8 == 1) = true := by simpa using c24
    try rw [e17]
    refine Opl.p1 (v := .ptr i7 1) (n := Opl.ldb (v := v0_1) h13 rfl T22 rfl rfl rfl rfl (Opl.p1 (n := ?_)))
    obtain ⟨c25, H⟩ := peel H
    obtain ⟨c26, H⟩ := peel H
    refine Opl.slcD (M := (cSl (cInt .i64))) (a := a1) (by exact hv0_1) rfl  (by omega) (by omega) K22 Z41 rfl rfl rfl ?_
    rintro pv8 h21
    refine Opl.p1 (n := ?_)
    obtain ⟨r11, h_r11, H⟩ := Option.bind_eq_some_iff.1 H
    refine Opl.callc (impl_trueIn.ev h21 h15 h_r11) rfl rfl rfl rfl ⟨h21.plain, h15.plain, trivial⟩ (by decide) (Opl.p1 (n := Opl.p1 (n := Opl.nil ?_)))
    by_cases c27 : r11 = true
    case neg =>
     rw [if_neg c27] at H
     obtain rfl : r11 = false := by simpa using c27
     refine Evr.condF rfl (Evr.skip ?_)
     exact hk2 _ _ ⟨_, _, _, H, by omega, ⟨rfl, rfl, rfl, rfl, rfl, rfl, trivial⟩, h13, h14, ap4⟩
    rw [if_pos c27] at H
    obtain rfl : r11 = true := by simpa using c27
    refine Evr.condT rfl (Evr.sr rfl (Opl.p1 (n := Opl.nil ?_)))
    obtain rfl := Option.some.inj H
    refine Evr.ret1 Try.func13 rfl ?_
    show (.lit (.bool false) : PV) = _
    first | rfl | (simp only [go_sem]; rfl)
end Go.Proofs.Ytaajnneigmgikaa.PA
end
