/- Walks of Go functions: each is shown to answer as the Lean function beside it tells, under the conditions that its theorem names. -/
import Derived.Test.YtikjlbanfbkhmaaProg
import Derived.KernelRfl
import Derived.Below
import Derived.Deep.Draws
import Derived.Deep.AppendLies
import Derived.Maps.AppendAt
import Derived.OwnWalk
import Derived.Laws.BytesArg
import Derived.Laws.MakeOwn
import Derived.Laws.OwnMore
import Derived.Deep.OwnRows
import Derived.Tactics
import Derived.Lib.ConvBytes
import Derived.Laws.Slices
import Derived.WalkKit
import Derived.RowKit3
import Derived.Deep.LoopGhost
import Derived.Deep.QuietTactic
import Derived.BigQuiet
import Derived.WideLaws
import Derived.Deep.DeepCutAuto
import Derived.Deep.CutBlock
import Derived.Deep.RegionHeld3
import Derived.Laws.Rows
import Derived.Lib.AppendStr
import Derived.ArgAppend
import Derived.Laws.IdiomCopy
import Derived.OrdersHeld
import Derived.Laws.BitsLemmas
import Derived.RowKit
import Derived.Laws.StructEq
import Derived.Lib.SliceRun
import Derived.WalkSpells
import Derived.ChangeArms
import Derived.ChangeSlices
import Derived.Deep.Slices
import Derived.Attr
import Derived.Laws.Append
import Derived.Laws.AppendOwn
import Derived.Laws.Entries
import Derived.Calls
import Derived.Laws.Sem
import Derived.Test.YtikjlbanfbkhmaaKWbd5f79adb8
import Derived.Test.YtikjlbanfbkhmaaKDdd136839c2
section
namespace Go.Proofs.Ytikjlbanfbkhmaa.PA
open Go Go.Abs Go.RowKit Go.Proofs Go.Proofs.YtikjlbanfbkhmaaW.PrintWords Go.Proofs.YtikjlbanfbkhmaaW.PrintLast Go.Proofs.YtikjlbanfbkhmaaW.PrintMore
set_option maxRecDepth 100000
theorem K3 : tkAt Try.prog 3 = some (.int .i64) := by kernel_rfl
theorem Z3 : szAt Try.prog 3 = some 1 := by kernel_rfl
theorem T3 : tiOf Try.prog 3 = some ⟨(.int .i64), 1, 8, [.int .i64 0], []⟩ := by kernel_rfl
theorem K4 : tkAt Try.prog 4 = some .bool := by kernel_rfl
theorem Z4 : szAt Try.prog 4 = some 1 := by kernel_rfl
theorem T4 : tiOf Try.prog 4 = some ⟨.bool, 1, 1, [.bool false], []⟩ := by kernel_rfl
theorem K5 : tkAt Try.prog 5 = some (.int .u8) := by kernel_rfl
theorem Z5 : szAt Try.prog 5 = some 1 := by kernel_rfl
theorem T5 : tiOf Try.prog 5 = some ⟨(.int .u8), 1, 1, [.int .u8 0], []⟩ := by kernel_rfl
theorem K22 : tkAt Try.prog 22 = some (.slice 66) := by kernel_rfl
theorem Z22 : szAt Try.prog 22 = some 1 := by kernel_rfl
theorem T22 : tiOf Try.prog 22 = some ⟨(.slice 66), 1, 24, [.slice none 0 0], []⟩ := by kernel_rfl
theorem K23 : tkAt Try.prog 23 = some (.slice 26) := by kernel_rfl
theorem Z23 : szAt Try.prog 23 = some 1 := by kernel_rfl
theorem T23 : tiOf Try.prog 23 = some ⟨(.slice 26), 1, 24, [.slice none 0 0], []⟩ := by kernel_rfl
theorem K26 : tkAt Try.prog 26 = some (.slice 3) := by kernel_rfl
theorem Z26 : szAt Try.prog 26 = some 1 := by kernel_rfl
theorem T26 : tiOf Try.prog 26 = some ⟨(.slice 3), 1, 24, [.slice none 0 0], []⟩ := by kernel_rfl
theorem K28 : tkAt Try.prog 28 = some (.slice 64) := by kernel_rfl
theorem Z28 : szAt Try.prog 28 = some 1 := by kernel_rfl
theorem T28 : tiOf Try.prog 28 = some ⟨(.slice 64), 1, 24, [.slice none 0 0], []⟩ := by kernel_rfl
theorem K38 : tkAt Try.prog 38 = some .strct := by kernel_rfl
theorem Z38 : szAt Try.prog 38 = some 3 := by kernel_rfl
theorem T38 : tiOf Try.prog 38 = some ⟨.strct, 3, 56, [.slice none 0 0, .int .i64 0, .slice none 0 0], [⟨0, 1, (.slice 26)⟩, ⟨1, 1, (.int .i64)⟩, ⟨2, 1, (.slice 26)⟩]⟩ := by kernel_rfl
theorem K39 : tkAt Try.prog 39 = some (.slice 83) := by kernel_rfl
theorem Z39 : szAt Try.prog 39 = some 1 := by kernel_rfl
theorem T39 : tiOf Try.prog 39 = some ⟨(.slice 83), 1, 24, [.slice none 0 0], []⟩ := by kernel_rfl
theorem K43 : tkAt Try.prog 43 = some .strct := by kernel_rfl
theorem Z43 : szAt Try.prog 43 = some 3 := by kernel_rfl
theorem T43 : tiOf Try.prog 43 = some ⟨.strct, 3, 56, [.slice none 0 0, .int .i64 0, .slice none 0 0], [⟨0, 1, (.slice 26)⟩, ⟨1, 1, (.int .i64)⟩, ⟨2, 1, (.slice 26)⟩]⟩ := by kernel_rfl
theorem K45 : tkAt Try.prog 45 = some (.slice 80) := by kernel_rfl
theorem Z45 : szAt Try.prog 45 = some 1 := by kernel_rfl
theorem T45 : tiOf Try.prog 45 = some ⟨(.slice 80), 1, 24, [.slice none 0 0], []⟩ := by kernel_rfl
theorem K52 : tkAt Try.prog 52 = some (.slice 5) := by kernel_rfl
theorem Z52 : szAt Try.prog 52 = some 1 := by kernel_rfl
theorem T52 : tiOf Try.prog 52 = some ⟨(.slice 5), 1, 24, [.slice none 0 0], []⟩ := by kernel_rfl
theorem K64 : tkAt Try.prog 64 = some .strct := by kernel_rfl
theorem Z64 : szAt Try.prog 64 = some 4 := by kernel_rfl
theorem T64 : tiOf Try.prog 64 = some ⟨.strct, 4, 32, [.int .i64 0, .int .i64 0, .int .i64 0, .int .i64 0], [⟨0, 1, (.int .i64)⟩, ⟨1, 1, (.int .i64)⟩, ⟨2, 1, (.int .i64)⟩, ⟨3, 1, (.int .i64)⟩]⟩ := by kernel_rfl
theorem K66 : tkAt Try.prog 66 = some .strct := by kernel_rfl
theorem Z66 : szAt Try.prog 66 = some 4 := by kernel_rfl
theorem T66 : tiOf Try.prog 66 = some ⟨.strct, 4, 32, [.int .i64 0, .int .i64 0, .int .i64 0, .int .i64 0], [⟨0, 1, (.int .i64)⟩, ⟨1, 1, (.int .i64)⟩, ⟨2, 1, (.int .i64)⟩, ⟨3, 1, (.int .i64)⟩]⟩ := by kernel_rfl
theorem K77 : tkAt Try.prog 77 = some (.slice 78) := by kernel_rfl
theorem Z77 : szAt Try.prog 77 = some 1 := by kernel_rfl
theorem T77 : tiOf Try.prog 77 = some ⟨(.slice 78), 1, 24, [.slice none 0 0], []⟩ := by kernel_rfl
theorem K78 : tkAt Try.prog 78 = some (.slice 4) := by kernel_rfl
theorem Z78 : szAt Try.prog 78 = some 1 := by kernel_rfl
theorem T78 : tiOf Try.prog 78 = some ⟨(.slice 4), 1, 24, [.slice none 0 0], []⟩ := by kernel_rfl
theorem K80 : tkAt Try.prog 80 = some .strct := by kernel_rfl
theorem Z80 : szAt Try.prog 80 = some 4 := by kernel_rfl
theorem T80 : tiOf Try.prog 80 = some ⟨.strct, 4, 32, [.int .i64 0, .int .i64 0, .int .i64 0, .int .i64 0], [⟨0, 1, (.int .i64)⟩, ⟨1, 1, (.int .i64)⟩, ⟨2, 1, (.int .i64)⟩, ⟨3, 1, (.int .i64)⟩]⟩ := by kernel_rfl
theorem K83 : tkAt Try.prog 83 = some .strct := by kernel_rfl
theorem Z83 : szAt Try.prog 83 = some 4 := by kernel_rfl
theorem T83 : tiOf Try.prog 83 = some ⟨.strct, 4, 32, [.int .i64 0, .int .i64 0, .int .i64 0, .int .i64 0], [⟨0, 1, (.int .i64)⟩, ⟨1, 1, (.int .i64)⟩, ⟨2, 1, (.int .i64)⟩, ⟨3, 1, (.int .i64)⟩]⟩ := by kernel_rfl
theorem K90 : tkAt Try.prog 90 = some .func := by kernel_rfl
theorem Z90 : szAt Try.prog 90 = some 1 := by kernel_rfl
theorem T90 : tiOf Try.prog 90 = some ⟨.func, 1, 8, [.nilFunc], []⟩ := by kernel_rfl
theorem K93 : tkAt Try.prog 93 = some .func := by kernel_rfl
theorem Z93 : szAt Try.prog 93 = some 1 := by kernel_rfl
theorem T93 : tiOf Try.prog 93 = some ⟨.func, 1, 8, [.nilFunc], []⟩ := by kernel_rfl
theorem K95 : tkAt Try.prog 95 = some (.slice 23) := by kernel_rfl
theorem Z95 : szAt Try.prog 95 = some 1 := by kernel_rfl
theorem T95 : tiOf Try.prog 95 = some ⟨(.slice 23), 1, 24, [.slice none 0 0], []⟩ := by kernel_rfl
theorem K99 : tkAt Try.prog 99 = some .func := by kernel_rfl
theorem Z99 : szAt Try.prog 99 = some 1 := by kernel_rfl
theorem T99 : tiOf Try.prog 99 = some ⟨.func, 1, 8, [.nilFunc], []⟩ := by kernel_rfl
theorem K105 : tkAt Try.prog 105 = some .func := by kernel_rfl
theorem Z105 : szAt Try.prog 105 = some 1 := by kernel_rfl
theorem T105 : tiOf Try.prog 105 = some ⟨.func, 1, 8, [.nilFunc], []⟩ := by kernel_rfl
theorem K108 : tkAt Try.prog 108 = some (.ptr 121) := by kernel_rfl
theorem Z108 : szAt Try.prog 108 = some 1 := by kernel_rfl
theorem T108 : tiOf Try.prog 108 = some ⟨(.ptr 121), 1, 8, [.pointer none], []⟩ := by kernel_rfl
theorem K117 : tkAt Try.prog 117 = some .func := by kernel_rfl
theorem Z117 : szAt Try.prog 117 = some 1 := by kernel_rfl
theorem T117 : tiOf Try.prog 117 = some ⟨.func, 1, 8, [.nilFunc], []⟩ := by kernel_rfl
theorem K121 : tkAt Try.prog 121 = some .strct := by kernel_rfl
theorem Z121 : szAt Try.prog 121 = some 2 := by kernel_rfl
theorem T121 : tiOf Try.prog 121 = some ⟨.strct, 2, 32, [.slice none 0 0, .int .i64 0], [⟨0, 1, (.slice 5)⟩, ⟨1, 1, (.int .i64)⟩]⟩ := by kernel_rfl
theorem O80 : structOffs Try.prog 80 = some [0, 1, 2, 3] := by kernel_rfl
def cITree : Cd ITree := cIso (cPair (cInt .i64) (cPair (cInt .i64) (cPair (cInt .i64) (cInt .i64)))) (fun x => (x.f0, x.f1, x.f2, x.f3))
theorem oITree : cITree.Ones := oIso (oPair (oInt .i64) (oPair (oInt .i64) (oPair (oInt .i64) (oInt .i64))))
theorem cITree_R {x : ITree} {c : List PV} (h : cITree.R x c) : c = [.lit (.int .i64 x.f0), .lit (.int .i64 x.f1), .lit (.int .i64 x.f2), .lit (.int .i64 x.f3)] := by
  obtain ⟨p0, q0, e0, g0, r0⟩ := h
  obtain ⟨p1, q1, e1, g1, r1⟩ := r0
  obtain ⟨p2, q2, e2, g2, r2⟩ := r1
  have g0' : p0 = _ := g0
  have g1' : p1 = _ := g1
  have g2' : p2 = _ := g2
  have g3' : q2 = _ := r2
  rw [e0, g0', e1, g1', e2, g2', g3']; rfl
theorem cITree_mk {a0 : Int} {a1 : Int} {a2 : Int} {a3 : Int}  : cITree.R ⟨a0, a1, a2, a3⟩ [.lit (.int .i64 a0), .lit (.int .i64 a1), .lit (.int .i64 a2), .lit (.int .i64 a3)] := ⟨_, _, rfl, rfl, ⟨_, _, rfl, rfl, ⟨_, _, rfl, rfl, rfl⟩⟩⟩
theorem cITree_z : cITree.R zITree (([.int .i64 0, .int .i64 0, .int .i64 0, .int .i64 0] : List Value).map .lit) := ⟨_, _, rfl, rfl, ⟨_, _, rfl, rfl, ⟨_, _, rfl, rfl, rfl⟩⟩⟩
def cLTree : Cd LTree := cIso (cPair (cInt .i64) (cPair (cInt .i64) (cPair (cInt .i64) (cInt .i64)))) (fun x => (x.f0, x.f1, x.f2, x.f3))
theorem cLTree_R {x : LTree} {c : List PV} (h : cLTree.R x c) : c = [.lit (.int .i64 x.f0), .lit (.int .i64 x.f1), .lit (.int .i64 x.f2), .lit (.int .i64 x.f3)] := by
  obtain ⟨p0, q0, e0, g0, r0⟩ := h
  obtain ⟨p1, q1, e1, g1, r1⟩ := r0
  obtain ⟨p2, q2, e2, g2, r2⟩ := r1
  have g0' : p0 = _ := g0
  have g1' : p1 = _ := g1
  have g2' : p2 = _ := g2
  have g3' : q2 = _ := r2
  rw [e0, g0', e1, g1', e2, g2', g3']; rfl
attribute [go_sem] K3 Z3 T3 K4 Z4 T4 K5 Z5 T5 K22 Z22 T22 K23 Z23 T23 K26 Z26 T26 K28 Z28 T28 K38 Z38 T38 K39 Z39 T39 K43 Z43 T43 K45 Z45 T45 K52 Z52 T52 K64 Z64 T64 K66 Z66 T66 K77 Z77 T77 K78 Z78 T78 K80 Z80 T80 K83 Z83 T83 K90 Z90 T90 K93 Z93 T93 K95 Z95 T95 K99 Z99 T99 K105 Z105 T105 K108 Z108 T108 K117 Z117 T117 K121 Z121 T121
end Go.Proofs.Ytikjlbanfbkhmaa.PA
end
section
namespace Go.Proofs.Ytikjlbanfbkhmaa.PA
open Go Go.Abs Go.RowKit Go.Proofs Go.Proofs.YtikjlbanfbkhmaaW.PrintWords Go.Proofs.YtikjlbanfbkhmaaW.PrintLast Go.Proofs.YtikjlbanfbkhmaaW.PrintMore
set_option maxRecDepth 100000
set_option maxHeartbeats 4000000
set_option linter.unusedVariables false
set_option linter.unusedSimpArgs false
theorem impl_in.ev {a0 : Int} {a1 : Int} {a2 : Int} {r : Bool} (H : impl_in.f a0 a1 a2 = some r) : Ret Try.prog 64 [.lit (.int .i64 a0), .lit (.int .i64 a1), .lit (.int .i64 a2)] fun v S => v = .lit (.bool r) := by
 unfold impl_in.f at H
 refine Ret.intro Try.func64 rfl (Nat.le_of_ble_eq_true rfl) rfl ?_
 rw [tm3]
 refine Evr.sr rfl (Opl.p1 (n := Opl.nil (Evr.sr rfl (Opl.p1 (n := Opl.p1 (n := Opl.p1 (n := Opl.p1 (n := ?_))))))))
 by_cases c1 : a0 ≥ a1
 case neg =>
  rw [if_neg c1] at H
  have e2 : (decide (a0 ≥ a1)) = false := by simpa using c1
  try rw [e2]
  refine Opl.skp rfl (Opl.skp rfl (Opl.skp rfl (Opl.p1 (n := Opl.p1 (n := Opl.nil ?_)))))
  obtain rfl := Option.some.inj H
  refine Evr.ret1 Try.func64 rfl ?_
  show (.lit (.bool false) : PV) = _
  first | rfl | (simp only [go_sem]; rfl)
 rw [if_pos c1] at H
 have e1 : (decide (a0 ≥ a1)) = true := by simpa using c1
 try rw [e1]
 refine Opl.p1 (n := Opl.p1 (n := Opl.p1 (n := Opl.p1 (n := Opl.p1 (n := Opl.nil ?_)))))
 obtain rfl := Option.some.inj H
 refine Evr.ret1 Try.func64 rfl ?_
 show (.lit (.bool (decide (a0 ≤ a2))) : PV) = _
 first | rfl | (simp only [go_sem]; rfl)
theorem impl_bitsValid_1.ev {a0 : Int} {r : Bool} (H : impl_bitsValid_1.f a0 = some r) : Ret Try.prog 125 [.lit (.int .i64 a0)] fun v S => v = .lit (.bool r) := by
 unfold impl_bitsValid_1.f at H
 refine Ret.intro Try.func125 rfl (Nat.le_of_ble_eq_true rfl) rfl ?_
 rw [tm1]
 refine Evr.sr rfl (Opl.p1 (n := Opl.nil (Evr.sr rfl (Opl.p1 (n := ?_)))))
 obtain ⟨t294, h_t294, H⟩ := Option.bind_eq_some_iff.1 H
 refine Opl.callc (impl_in.ev h_t294) rfl rfl rfl rfl ⟨(.lit _), (.lit _), (.lit _), trivial⟩ (by decide) (Opl.p1 (n := Opl.p1 (n := Opl.nil ?_)))
 obtain rfl := Option.some.inj H
 refine Evr.ret1 Try.func125 rfl ?_
 show (.lit (.bool (!t294)) : PV) = _
 first | rfl | (simp only [go_sem]; rfl)
theorem slices_IndexFunc_at_impl_bitsValid_1.ev {k : Nat} {l0 : List Int} {v0 : PV} (hv0 : Sl (cInt .i64) l0 v0) {r : Int} (H : slices_IndexFunc_at_impl_bitsValid_1.f k l0 = some r) : Ret Try.prog 126 [v0, .lit (.func (.func 125) #[] #[])] fun v S => v = .lit (.int .i64 r) := by
 unfold slices_IndexFunc_at_impl_bitsValid_1.f at H
 refine Ret.intro Try.func126 rfl (Nat.le_of_ble_eq_true rfl) rfl ?_
 rw [tm2]
 refine Evr.sr rfl (Opl.p1 (n := Opl.nil (Evr.seq (Evr.sr rfl (Opl.p1 (n := Opl.len (xs := l0) (by exact hv0) K26 rfl rfl rfl rfl (Opl.p1 (n := Opl.nil (Evr.block ?_)))))))))
 refine Evr.loop (Evr.rounds (n := k) (Inv := fun n tm S => n ≤ k ∧ ∃ (x8_1 : Int), slices_IndexFunc_at_impl_bitsValid_1.l0 n l0 (l0.length : Int) x8_1 = some r ∧ Has tm [(0, v0), (1, .lit (.func (.func 125) #[] #[])), (7, .lit (.int .i64 (l0.length : Int))), (8, .lit (.int .i64 x8_1))]) ?_ ?_ ?_)
 · exact ⟨Nat.le_refl _, _, H, ⟨rfl, rfl, rfl, rfl, trivial⟩⟩
 ·
  rintro tm S ⟨_, _, H, -⟩
  simp [slices_IndexFunc_at_impl_bitsValid_1.l0] at H
 ·
  rintro n1 ih1 tm S ⟨hle, x8_1, H, hh⟩
  simp only [slices_IndexFunc_at_impl_bitsValid_1.l0] at H
  rw [hh.eq]
  refine Evr.sr rfl (Opl.p1 (n := Opl.nil (Evr.seq ?_)))
  by_cases c1 : x8_1 < (l0.length : Int)
  case neg =>
   rw [if_neg c1] at H
   have e2 : (decide (x8_1 < (l0.length : Int))) = false := by simpa using c1
   try rw [e2]
   refine Evr.condF rfl (Evr.exit rfl (Evr.sr rfl (Opl.p1 (n := Opl.nil ?_))))
   obtain rfl := Option.some.inj H
   refine Evr.ret1 Try.func126 rfl ?_
   show (.lit (.int .i64 (-1)) : PV) = _
   first | rfl | (simp only [go_sem]; rfl)
  rw [if_pos c1] at H
  have e1 : (decide (x8_1 < (l0.length : Int))) = true := by simpa using c1
  try rw [e1]
  refine Evr.condT rfl (Evr.skip (Evr.seq (Evr.block (Evr.sr rfl (Opl.p1 (n := Opl.p1 (n := Opl.nil (Evr.sr rfl (Opl.p1 (n := Opl.p1 (n := Opl.p1 (n := ?_))))))))))))
  obtain ⟨c2, H⟩ := peel H
  obtain ⟨c3, H⟩ := peel H
  refine Opl.idx (M := (cInt .i64)) (xs := l0) (j := x8_1) (0 : Int) (by exact hv0) rfl (by omega) (by omega) K26 Z3 rfl rfl ?_
  rintro p1 q1 h1
  obtain rfl : p1 = [.lit (.int .i64 (rd l0 x8_1))] := h1
  refine Opl.lda (.lit (.int .i64 (rd l0 x8_1))) rfl T3 rfl rfl rfl rfl ?_
  obtain ⟨t296, h_t296, H⟩ := Option.bind_eq_some_iff.1 H
  refine Opl.callc (impl_bitsValid_1.ev h_t296) rfl rfl rfl rfl ⟨(.lit _), trivial⟩ (by decide) (Opl.nil ?_)
  by_cases c4 : t296 = true
  case pos =>
   rw [if_pos c4] at H
   obtain rfl : t296 = true := by simpa using c4
   refine Evr.condT rfl (Evr.sr rfl (Opl.p1 (n := Opl.p1 (n := Opl.nil ?_))))
   obtain rfl := Option.some.inj H
   refine Evr.ret1 Try.func126 rfl ?_
   show (.lit (.int .i64 x8_1) : PV) = _
   first | rfl | (simp only [go_sem]; rfl)
  rw [if_neg c4] at H
  obtain rfl : t296 = false := by simpa using c4
  refine Evr.condF rfl (Evr.skip (Evr.inBlock (Evr.regionN rfl (Opl.add (k := .i64) (a := x8_1) (b := 1) K3 rfl rfl rfl rfl (Opl.one (v := .lit (.int .i64 (wrap64 (x8_1 + 1)))) rfl rfl rfl (Opl.nil ?_))))))
  exact ih1 _ (by omega) _ _ ⟨by omega, _, H, ⟨rfl, rfl, rfl, rfl, trivial⟩⟩
theorem slices_ContainsFunc_at_impl_bitsValid_1.ev {k : Nat} {l0 : List Int} {v0 : PV} (hv0 : Sl (cInt .i64) l0 v0) {r : Bool} (H : slices_ContainsFunc_at_impl_bitsValid_1.f k l0 = some r) : Ret Try.prog 120 [v0, .lit (.func (.func 125) #[] #[])] fun v S => v = .lit (.bool r) := by
 unfold slices_ContainsFunc_at_impl_bitsValid_1.f at H
 refine Ret.intro Try.func120 rfl (Nat.le_of_ble_eq_true rfl) rfl ?_
 rw [tm2]
 refine Evr.sr rfl (Opl.p1 (n := Opl.nil (Evr.sr rfl (Opl.p1 (n := Opl.p1 (n := ?_))))))
 obtain ⟨t297, h_t297, H⟩ := Option.bind_eq_some_iff.1 H
 refine Opl.callc (slices_IndexFunc_at_impl_bitsValid_1.ev hv0 h_t297) rfl rfl rfl rfl ⟨hv0.plain, (.lit _), trivial⟩ (by decide) (Opl.p1 (n := Opl.p1 (n := Opl.nil ?_)))
 obtain rfl := Option.some.inj H
 refine Evr.ret1 Try.func120 rfl ?_
 show (.lit (.bool (decide (t297 ≥ 0))) : PV) = _
 first | rfl | (simp only [go_sem]; rfl)
theorem impl_bitsValid.ev {k : Nat} {l0 : List Int} {v0 : PV} (hv0 : Sl (cInt .i64) l0 v0) {r : Bool} (H : impl_bitsValid.f k l0 = some r) : Ret Try.prog 115 [v0] fun v S => v = .lit (.bool r) := by
 unfold impl_bitsValid.f at H
 refine Ret.intro Try.func115 rfl (Nat.le_of_ble_eq_true rfl) rfl ?_
 rw [tm1]
 refine Evr.sr rfl (Opl.p1 (n := Opl.nil (Evr.sr rfl (Opl.p1 (n := ?_)))))
 obtain ⟨t298, h_t298, H⟩ := Option.bind_eq_some_iff.1 H
 refine Opl.callc (slices_ContainsFunc_at_impl_bitsValid_1.ev hv0 h_t298) rfl rfl rfl rfl ⟨hv0.plain, (.lit _), trivial⟩ (by decide) (Opl.p1 (n := Opl.p1 (n := Opl.nil ?_)))
 obtain rfl := Option.some.inj H
 refine Evr.ret1 Try.func115 rfl ?_
 show (.lit (.bool (!t298)) : PV) = _
 first | rfl | (simp only [go_sem]; rfl)
theorem impl_letterOk.ev {k : Nat} {l0 : List Int} {v0 : PV} (hv0 : Sl (cInt .i64) l0 v0) {a1 : Int} {r : Bool} (H : impl_letterOk.f k l0 a1 = some r) : Ret Try.prog 77 [v0, .lit (.int .i64 a1)] fun v S => v = .lit (.bool r) := by
 unfold impl_letterOk.f at H
 refine Ret.intro Try.func77 rfl (Nat.le_of_ble_eq_true rfl) rfl ?_
 rw [tm2]
 refine Evr.sr rfl (Opl.p1 (n := Opl.nil (Evr.sr rfl (Opl.p1 (n := Opl.len (xs := l0) (by exact hv0) K26 rfl rfl rfl rfl (Opl.p1 (n := Opl.p1 (n := Opl.p1 (n := ?_)))))))))
 by_cases c1 : (l0.length : Int) = a1
 case neg =>
  rw [if_neg c1] at H
  have e2 : ((l0.length : Int) == a1) = false := by simpa using c1
  try rw [e2]
  refine Opl.skp rfl (Opl.skp rfl (Opl.p1 (n := Opl.p1 (n := Opl.nil ?_))))
  obtain rfl := Option.some.inj H
  refine Evr.ret1 Try.func77 rfl ?_
  show (.lit (.bool false) : PV) = _
  first | rfl | (simp only [go_sem]; rfl)
 rw [if_pos c1] at H
 have e1 : ((l0.length : Int) == a1) = true := by simpa using c1
 try rw [e1]
 refine Opl.p1 (n := ?_)
 obtain ⟨t299, h_t299, H⟩ := Option.bind_eq_some_iff.1 H
 refine Opl.callc (impl_bitsValid.ev hv0 h_t299) rfl rfl rfl rfl ⟨hv0.plain, trivial⟩ (by decide) (Opl.p1 (n := Opl.p1 (n := Opl.nil ?_)))
 obtain rfl := Option.some.inj H
 refine Evr.ret1 Try.func77 rfl ?_
 show (.lit (.bool t299) : PV) = _
 first | rfl | (simp only [go_sem]; rfl)
theorem impl_setOk.ev {k : Nat} {l0 : List Int} {v0 : PV} (hv0 : Sl (cInt .i64) l0 v0) {a1 : Int} {r : Bool} (H : impl_setOk.f k l0 a1 = some r) : Ret Try.prog 91 [v0, .lit (.int .i64 a1)] fun v S => v = .lit (.bool r) := by
 unfold impl_setOk.f at H
 refine Ret.intro Try.func91 rfl (Nat.le_of_ble_eq_true rfl) rfl ?_
 rw [tm2]
 refine Evr.sr rfl (Opl.p1 (n := Opl.nil (Evr.seq (Evr.sr rfl (Opl.p1 (n := Opl.len (xs := l0) (by exact hv0) K26 rfl rfl rfl rfl (Opl.p1 (n := Opl.nil (Evr.block ?_)))))))))
 refine Evr.loop (Evr.rounds (n := k) (Inv := fun n tm S => n ≤ k ∧ ∃ (x9_1 : Int), impl_setOk.l0 n l0 a1 l0 (l0.length : Int) x9_1 = some r ∧ Has tm [(0, v0), (1, .lit (.int .i64 a1)), (7, v0), (8, .lit (.int .i64 (l0.length : Int))), (9, .lit (.int .i64 x9_1))]) ?_ ?_ ?_)
 · exact ⟨Nat.le_refl _, _, H, ⟨rfl, rfl, rfl, rfl, rfl, trivial⟩⟩
 ·
  rintro tm S ⟨_, _, H, -⟩
  simp [impl_setOk.l0] at H
 ·
  rintro n1 ih1 tm S ⟨hle, x9_1, H, hh⟩
  simp only [impl_setOk.l0] at H
  rw [hh.eq]
  refine Evr.sr rfl (Opl.p1 (n := Opl.nil (Evr.seq ?_)))
  by_cases c1 : x9_1 < (l0.length : Int)
  case neg =>
   rw [if_neg c1] at H
   have e8 : (decide (x9_1 < (l0.length : Int))) = false := by simpa using c1
   try rw [e8]
   refine Evr.condF rfl (Evr.exit rfl (Evr.sr rfl (Opl.p1 (n := Opl.nil ?_))))
   obtain rfl := Option.some.inj H
   refine Evr.ret1 Try.func91 rfl ?_
   show (.lit (.bool true) : PV) = _
   first | rfl | (simp only [go_sem]; rfl)
  rw [if_pos c1] at H
  have e1 : (decide (x9_1 < (l0.length : Int))) = true := by simpa using c1
  try rw [e1]
  refine Evr.condT rfl (Evr.skip (Evr.seq (Evr.block (Evr.sr rfl (Opl.p1 (n := ?_))))))
  obtain ⟨c2, H⟩ := peel H
  obtain ⟨c3, H⟩ := peel H
  refine Opl.idx (M := (cInt .i64)) (xs := l0) (j := x9_1) (0 : Int) (by exact hv0) rfl (by omega) (by omega) K26 Z3 rfl rfl ?_
  rintro p1 q1 h1
  obtain rfl : p1 = [.lit (.int .i64 (rd l0 x9_1))] := h1
  refine Opl.lda (.lit (.int .i64 (rd l0 x9_1))) rfl T3 rfl rfl rfl rfl (Opl.p1 (n := Opl.p1 (n := Opl.nil (Evr.sr rfl (Opl.p1 (n := Opl.p1 (n := Opl.subi (k := .i64) (a := a1) (b := 1) K3 rfl rfl rfl rfl ?_)))))))
  obtain ⟨t549, h_t549, H⟩ := Option.bind_eq_some_iff.1 H
  refine Opl.callc (impl_in.ev h_t549) rfl rfl rfl rfl ⟨(.lit _), (.lit _), (.lit _), trivial⟩ (by decide) (Opl.p1 (n := Opl.one (v := .lit (.bool (!t549))) rfl rfl rfl ?_))
  by_cases c4 : t549 = true
  case neg =>
   rw [if_neg c4] at H
   have e7 : (!t549) = true := by simpa using c4
   try rw [e7]
   refine Opl.skp rfl (Opl.skp rfl (Opl.skp rfl (Opl.skp rfl (Opl.skp rfl (Opl.skp rfl (Opl.skp rfl (Opl.skp rfl (Opl.skp rfl (Opl.skp rfl (Opl.skp rfl (Opl.one (v := .lit (.bool true)) rfl rfl rfl (Opl.nil (Evr.condT rfl (Evr.sr rfl (Opl.one (v := .lit (.bool false)) rfl rfl rfl (Opl.nil ?_))))))))))))))))
   obtain _ | k3 := n1
   · simp [impl_setOk.j1] at H
   simp only [impl_setOk.j1] at H
   rw [if_pos (by first | rfl | trivial)] at H
   obtain rfl := Option.some.inj H
   refine Evr.ret1 Try.func91 rfl ?_
   show (.lit (.bool false) : PV) = _
   first | rfl | (simp only [go_sem]; rfl)
  rw [if_pos c4] at H
  have e2 : (!t549) = false := by simpa using c4
  try rw [e2]
  refine Opl.one (v := .lit (.int .i64 x9_1)) rfl rfl rfl (Opl.p1 (n := Opl.one (v := .lit (.bool (decide (x9_1 > 0)))) rfl rfl rfl ?_))
  by_cases c5 : x9_1 > 0
  case neg =>
   rw [if_neg c5] at H
   have e6 : (decide (x9_1 > 0)) = false := by simpa using c5
   try rw [e6]
   refine Opl.skp rfl (Opl.skp rfl (Opl.skp rfl (Opl.skp rfl (Opl.skp rfl (Opl.skp rfl (Opl.skp rfl (Opl.one (v := .lit (.bool false)) rfl rfl rfl (Opl.one (v := .lit (.bool false)) rfl rfl rfl (Opl.nil (Evr.condF rfl (Evr.skip (Evr.inBlock (Evr.regionN rfl (Opl.add (k := .i64) (a := x9_1) (b := 1) K3 rfl rfl rfl rfl (Opl.one (v := .lit (.int .i64 (wrap64 (x9_1 + 1)))) rfl rfl rfl (Opl.nil ?_))))))))))))))))
   obtain _ | k2 := n1
   · simp [impl_setOk.j1] at H
   simp only [impl_setOk.j1] at H
   rw [if_neg (by first | decide | exact id)] at H
   exact ih1 _ (by omega) _ _ ⟨by omega, _, H, ⟨rfl, rfl, rfl, rfl, rfl, trivial⟩⟩
  rw [if_pos c5] at H
  have e3 : (decide (x9_1 > 0)) = true := by simpa using c5
  try rw [e3]
  refine Opl.one (v := v0) rfl rfl rfl (Opl.one (v := .lit (.int .i64 x9_1)) rfl rfl rfl (Opl.subi (k := .i64) (a := x9_1) (b := 1) K3 rfl rfl rfl rfl ?_))
  obtain ⟨c6, H⟩ := peel H
  obtain ⟨c7, H⟩ := peel H
  obtain _ | k1 := n1
  · simp [impl_setOk.j1] at H
  simp only [impl_setOk.j1] at H
  refine Opl.idx (M := (cInt .i64)) (xs := l0) (j := (wrap64 (x9_1 - 1))) (0 : Int) (by exact hv0) rfl (by omega) (by omega) K26 Z3 rfl rfl ?_
  rintro p2 q2 h2
  obtain rfl : p2 = [.lit (.int .i64 (rd l0 (wrap64 (x9_1 - 1))))] := h2
  refine Opl.lda (.lit (.int .i64 (rd l0 (wrap64 (x9_1 - 1))))) rfl T3 rfl rfl rfl rfl (Opl.one (v := .lit (.int .i64 (rd l0 x9_1))) rfl rfl rfl (Opl.geq (a := (rd l0 (wrap64 (x9_1 - 1)))) (b := (rd l0 x9_1)) K3 rfl rfl rfl rfl (Opl.one (v := .lit (.bool (decide ((rd l0 (wrap64 (x9_1 - 1))) ≥ (rd l0 x9_1))))) rfl rfl rfl (Opl.one (v := .lit (.bool (decide ((rd l0 (wrap64 (x9_1 - 1))) ≥ (rd l0 x9_1))))) rfl rfl rfl (Opl.nil ?_)))))
  by_cases c8 : (decide ((rd l0 (wrap64 (x9_1 - 1))) ≥ (rd l0 x9_1))) = true
  case pos =>
   rw [if_pos c8] at H
   have e4 : (decide ((rd l0 (wrap64 (x9_1 - 1))) ≥ (rd l0 x9_1))) = true := by simpa using c8
   try rw [e4]
   refine Evr.condT rfl (Evr.sr rfl (Opl.one (v := .lit (.bool false)) rfl rfl rfl (Opl.nil ?_)))
   obtain rfl := Option.some.inj H
   refine Evr.ret1 Try.func91 rfl ?_
   show (.lit (.bool false) : PV) = _
   first | rfl | (simp only [go_sem]; rfl)
  rw [if_neg c8] at H
  have e5 : (decide ((rd l0 (wrap64 (x9_1 - 1))) ≥ (rd l0 x9_1))) = false := by simpa using c8
  try rw [e5]
  refine Evr.condF rfl (Evr.skip (Evr.inBlock (Evr.regionN rfl (Opl.add (k := .i64) (a := x9_1) (b := 1) K3 rfl rfl rfl rfl (Opl.one (v := .lit (.int .i64 (wrap64 (x9_1 + 1)))) rfl rfl rfl (Opl.nil ?_))))))
  exact ih1 _ (by omega) _ _ ⟨by omega, _, H, ⟨rfl, rfl, rfl, rfl, rfl, trivial⟩⟩
theorem impl_GraphValid.ev {k : Nat} {l0_0 : List (List Int)} {v0_0 : PV} (hv0_0 : Sl (cSl (cInt .i64)) l0_0 v0_0) {a0_1 : Int} {l0_2 : List (List Int)} {v0_2 : PV} (hv0_2 : Sl (cSl (cInt .i64)) l0_2 v0_2) {a1 : Int} {r : Bool} (H : impl_GraphValid.f k l0_0 a0_1 l0_2 a1 = some r) : Ret Try.prog 57 [.agg [v0_0, .lit (.int .i64 a0_1), v0_2], .lit (.int .i64 a1)] fun v S => v = .lit (.bool r) := by
 unfold impl_GraphValid.f at H
 refine Ret.intro Try.func57 rfl (Nat.le_of_ble_eq_true rfl) rfl ?_
 rw [tm2]
 refine Evr.sr rfl (Opl.box (cs := [v0_0, .lit (.int .i64 a0_1), v0_2]) rfl rfl rfl rfl ?_)
 rintro i1 S h1 u1 w1
 refine Opl.p1 (n := Opl.nil (Evr.sr rfl (Opl.p1 (v := .ptr i1 0) (n := Opl.ldb (v := v0_0) h1 rfl T23 rfl rfl rfl rfl (Opl.len (xs := l0_0) (by exact hv0_0) K23 rfl rfl rfl rfl (Opl.p1 (n := Opl.nil (Evr.seq (Evr.seq ?_)))))))))
 refine Evr.join (fun tm S => ∃ (kq1 : Nat) (x33_1 : Bool) (i2 : Abs.Id), impl_GraphValid.j0 kq1 a1 (l0_0.length : Int) x33_1 l0_0 a0_1 l0_2 = some r ∧ Has tm [(1, .lit (.int .i64 a1)), (2, .ptr i2 0), (5, .lit (.int .i64 (l0_0.length : Int))), (33, .lit (.bool x33_1))] ∧ Box (.ptr i2 0) [v0_0, .lit (.int .i64 a0_1), v0_2] S) ?_ fun hk1 => ?_
 ·
  rintro tm S ⟨kq1, x33_1, i2, H, hh, h2⟩
  rw [hh.eq]
  obtain _ | k1 := kq1
  · simp [impl_GraphValid.j0] at H
  simp only [impl_GraphValid.j0] at H
  by_cases c1 : x33_1 = true
  case pos =>
   rw [if_pos c1] at H
   obtain rfl : x33_1 = true := by simpa using c1
   refine Evr.condT rfl (Evr.sr rfl (Opl.p1 (n := Opl.nil ?_)))
   obtain rfl := Option.some.inj H
   refine Evr.ret1 Try.func57 rfl ?_
   show (.lit (.bool false) : PV) = _
   first | rfl | (simp only [go_sem]; rfl)
  rw [if_neg c1] at H
  obtain rfl : x33_1 = false := by simpa using c1
  refine Evr.condF rfl (Evr.skip (Evr.seq (Evr.sr rfl (Opl.p1 (v := .ptr i2 2) (n := Opl.ldb (v := v0_2) h2 rfl T23 rfl rfl rfl rfl (Opl.len (xs := l0_2) (by exact hv0_2) K23 rfl rfl rfl rfl (Opl.p1 (n := Opl.nil (Evr.block ?_)))))))))
  refine Evr.loop (Evr.rounds (n := k1) (Inv := fun n tm S => n ≤ k1 ∧ ∃ (x37_1 : Int) (i3 : Abs.Id), impl_GraphValid.l0 n a1 (l0_0.length : Int) l0_2 (l0_2.length : Int) x37_1 l0_0 a0_1 l0_2 = some r ∧ Has tm [(1, .lit (.int .i64 a1)), (2, .ptr i3 0), (5, .lit (.int .i64 (l0_0.length : Int))), (35, v0_2), (36, .lit (.int .i64 (l0_2.length : Int))), (37, .lit (.int .i64 x37_1))] ∧ Box (.ptr i3 0) [v0_0, .lit (.int .i64 a0_1), v0_2] S) ?_ ?_ ?_)
  · exact ⟨Nat.le_refl _, _, _, H, ⟨rfl, rfl, rfl, rfl, rfl, rfl, trivial⟩, h2⟩
  ·
   rintro tm S ⟨_, _, _, H, -⟩
   simp [impl_GraphValid.l0] at H
  ·
   rintro n1 ih1 tm S ⟨hle, x37_1, i3, H, hh, h3⟩
   simp only [impl_GraphValid.l0] at H
   rw [hh.eq]
   refine Evr.sr rfl (Opl.p1 (n := Opl.nil (Evr.seq ?_)))
   by_cases c2 : x37_1 < (l0_2.length : Int)
   case neg =>
    rw [if_neg c2] at H
    have e6 : (decide (x37_1 < (l0_2.length : Int))) = false := by simpa using c2
    try rw [e6]
    refine Evr.condF rfl (Evr.exit rfl (Evr.sr rfl (Opl.p1 (n := Opl.nil ?_))))
    obtain rfl := Option.some.inj H
    refine Evr.ret1 Try.func57 rfl ?_
    show (.lit (.bool true) : PV) = _
    first | rfl | (simp only [go_sem]; rfl)
   rw [if_pos c2] at H
   have e1 : (decide (x37_1 < (l0_2.length : Int))) = true := by simpa using c2
   try rw [e1]
   refine Evr.condT rfl (Evr.skip (Evr.seq (Evr.block (Evr.sr rfl (Opl.p1 (n := ?_))))))
   obtain ⟨c3, H⟩ := peel H
   obtain ⟨c4, H⟩ := peel H
   obtain ⟨c5, H⟩ := peel H
   refine Opl.idx (M := (cSl (cInt .i64))) (xs := l0_2) (j := x37_1) ([] : List Int) (by exact hv0_2) rfl (by omega) (by omega) K23 Z26 rfl rfl ?_
   rintro p1 q1 h4
   obtain ⟨pv1, rfl, h5⟩ := h4
   refine Opl.lda (pv1) rfl T26 rfl rfl rfl rfl (Opl.p1 (n := Opl.p1 (n := Opl.nil (Evr.seq ?_))))
   refine Evr.join (fun tm S => ∃ (kq2 : Nat) (x60_1 : Bool) (i4 : Abs.Id), impl_GraphValid.j2 kq2 a1 (l0_0.length : Int) l0_2 (l0_2.length : Int) x37_1 x60_1 l0_0 a0_1 l0_2 = some r ∧ kq2 ≤ n1 ∧ Has tm [(1, .lit (.int .i64 a1)), (2, .ptr i4 0), (5, .lit (.int .i64 (l0_0.length : Int))), (35, v0_2), (36, .lit (.int .i64 (l0_2.length : Int))), (37, .lit (.int .i64 x37_1)), (60, .lit (.bool x60_1))] ∧ Box (.ptr i4 0) [v0_0, .lit (.int .i64 a0_1), v0_2] S) ?_ fun hk2 => ?_
   ·
    rintro tm S ⟨kq2, x60_1, i4, H, hle, hh, h6⟩
    rw [hh.eq]
    obtain _ | k2 := kq2
    · simp [impl_GraphValid.j2] at H
    simp only [impl_GraphValid.j2] at H
    by_cases c6 : x60_1 = true
    case pos =>
     rw [if_pos c6] at H
     obtain rfl : x60_1 = true := by simpa using c6
     refine Evr.condT rfl (Evr.sr rfl (Opl.p1 (n := Opl.nil ?_)))
     obtain rfl := Option.some.inj H
     refine Evr.ret1 Try.func57 rfl ?_
     show (.lit (.bool false) : PV) = _
     first | rfl | (simp only [go_sem]; rfl)
    rw [if_neg c6] at H
    obtain rfl : x60_1 = false := by simpa using c6
    refine Evr.condF rfl (Evr.skip (Evr.inBlock (Evr.regionN rfl (Opl.add (k := .i64) (a := x37_1) (b := 1) K3 rfl rfl rfl rfl (Opl.one (v := .lit (.int .i64 (wrap64 (x37_1 + 1)))) rfl rfl rfl (Opl.nil ?_))))))
    exact ih1 _ (by omega) _ _ ⟨by omega, _, _, H, ⟨rfl, rfl, rfl, rfl, rfl, rfl, trivial⟩, h6⟩
   ·
    refine Evr.regionN rfl (Opl.p1 (v := .ptr i3 0) (n := Opl.ldb (v := v0_0) h3 rfl T23 rfl rfl rfl rfl (Opl.p1 (n := Opl.idx (M := (cSl (cInt .i64))) (xs := l0_0) (j := x37_1) ([] : List Int) (by exact hv0_0) rfl (by omega) (by omega) K23 Z26 rfl rfl ?_))))
    rintro p2 q2 h7
    obtain ⟨pv2, rfl, h8⟩ := h7
    refine Opl.lda (pv2) rfl T26 rfl rfl rfl rfl (Opl.p1 (n := ?_))
    obtain ⟨t557, h_t557, H⟩ := Option.bind_eq_some_iff.1 H
    refine Opl.callc (impl_letterOk.ev h8 h_t557) rfl rfl rfl rfl ⟨h8.plain, (.lit _), trivial⟩ (by decide) (Opl.p1 (n := Opl.p1 (n := ?_)))
    by_cases c7 : t557 = true
    case neg =>
     rw [if_neg c7] at H
     have e5 : (!t557) = true := by simpa using c7
     try rw [e5]
     refine Opl.skp rfl (Opl.skp rfl (Opl.skp rfl (Opl.p1 (n := Opl.p1 (n := Opl.skp rfl (Opl.skp rfl (Opl.skp rfl (Opl.skp rfl (Opl.p1 (n := Opl.nil ?_))))))))))
     exact hk2 _ _ ⟨_, _, _, H, by omega, ⟨rfl, rfl, rfl, rfl, rfl, rfl, (by first | rfl | (show PV.lit (.bool _) = _; congr 2; simp_all)), trivial⟩, h3⟩
    rw [if_pos c7] at H
    have e2 : (!t557) = false := by simpa using c7
    try rw [e2]
    refine Opl.p1 (n := Opl.len (xs := (rd_Lint l0_2 x37_1)) (by exact h5) K26 rfl rfl rfl rfl (Opl.p1 (n := Opl.p1 (n := Opl.p1 (n := ?_)))))
    by_cases c8 : ((rd_Lint l0_2 x37_1).length : Int) = 0
    case pos =>
     rw [if_pos c8] at H
     have e3 : (((rd_Lint l0_2 x37_1).length : Int) == 0) = true := by simpa using c8
     try rw [e3]
     refine Opl.skp rfl (Opl.skp rfl (Opl.skp rfl (Opl.skp rfl (Opl.p1 (n := Opl.nil ?_)))))
     exact hk2 _ _ ⟨_, _, _, H, by omega, ⟨rfl, rfl, rfl, rfl, rfl, rfl, (by first | rfl | (show PV.lit (.bool _) = _; congr 2; simp_all)), trivial⟩, h3⟩
    rw [if_neg c8] at H
    have e4 : (((rd_Lint l0_2 x37_1).length : Int) == 0) = false := by simpa using c8
    try rw [e4]
    refine Opl.p1 (n := Opl.p1 (n := ?_))
    obtain ⟨t558, h_t558, H⟩ := Option.bind_eq_some_iff.1 H
    refine Opl.callc (impl_setOk.ev h5 h_t558) rfl rfl rfl rfl ⟨h5.plain, (.lit _), trivial⟩ (by decide) (Opl.p1 (n := Opl.p1 (n := Opl.nil ?_)))
    exact hk2 _ _ ⟨_, _, _, H, by omega, ⟨rfl, rfl, rfl, rfl, rfl, rfl, (by first | rfl | (show PV.lit (.bool _) = _; congr 2; simp_all)), trivial⟩, h3⟩
 ·
  refine Evr.regionN rfl (Opl.p1 (n := ?_))
  obtain ⟨t552, h_t552, H⟩ := Option.bind_eq_some_iff.1 H
  refine Opl.callc (impl_in.ev h_t552) rfl rfl rfl rfl ⟨(.lit _), (.lit _), (.lit _), trivial⟩ (by decide) (Opl.p1 (n := Opl.p1 (n := ?_)))
  by_cases c9 : t552 = true
  case neg =>
   rw [if_neg c9] at H
   have e12 : (!t552) = true := by simpa using c9
   try rw [e12]
   refine Opl.skp rfl (Opl.skp rfl (Opl.skp rfl (Opl.p1 (n := Opl.p1 (n := Opl.skp rfl (Opl.skp rfl (Opl.skp rfl (Opl.skp rfl (Opl.skp rfl (Opl.skp rfl (Opl.p1 (n := Opl.p1 (n := Opl.skp rfl (Opl.skp rfl (Opl.skp rfl (Opl.skp rfl (Opl.skp rfl (Opl.p1 (n := Opl.nil ?_)))))))))))))))))))
   exact hk1 _ _ ⟨_, _, _, H, ⟨rfl, rfl, rfl, (by first | rfl | (show PV.lit (.bool _) = _; congr 2; simp_all)), trivial⟩, h1⟩
  rw [if_pos c9] at H
  have e7 : (!t552) = false := by simpa using c9
  try rw [e7]
  refine Opl.p1 (n := ?_)
  obtain ⟨t553, h_t553, H⟩ := Option.bind_eq_some_iff.1 H
  refine Opl.callc (impl_in.ev h_t553) rfl rfl rfl rfl ⟨(.lit _), (.lit _), (.lit _), trivial⟩ (by decide) (Opl.p1 (n := Opl.p1 (n := Opl.p1 (n := ?_))))
  by_cases c10 : t553 = true
  case neg =>
   rw [if_neg c10] at H
   have e11 : (!t553) = true := by simpa using c10
   try rw [e11]
   refine Opl.skp rfl (Opl.skp rfl (Opl.skp rfl (Opl.skp rfl (Opl.skp rfl (Opl.skp rfl (Opl.p1 (n := Opl.p1 (n := Opl.skp rfl (Opl.skp rfl (Opl.skp rfl (Opl.skp rfl (Opl.skp rfl (Opl.p1 (n := Opl.nil ?_))))))))))))))
   exact hk1 _ _ ⟨_, _, _, H, ⟨rfl, rfl, rfl, (by first | rfl | (show PV.lit (.bool _) = _; congr 2; simp_all)), trivial⟩, h1⟩
  rw [if_pos c10] at H
  have e8 : (!t553) = false := by simpa using c10
  try rw [e8]
  refine Opl.p1 (v := .ptr i1 1) (n := Opl.ldb (v := .lit (.int .i64 a0_1)) h1 rfl T3 rfl rfl rfl rfl (Opl.p1 (n := Opl.subi (k := .i64) (a := (l0_0.length : Int)) (b := 1) K3 rfl rfl rfl rfl ?_)))
  obtain ⟨t554, h_t554, H⟩ := Option.bind_eq_some_iff.1 H
  refine Opl.callc (impl_in.ev h_t554) rfl rfl rfl rfl ⟨(.lit _), (.lit _), (.lit _), trivial⟩ (by decide) (Opl.p1 (n := Opl.one (v := .lit (.bool (!t554))) rfl rfl rfl (Opl.one (v := .lit (.bool (!t554))) rfl rfl rfl ?_)))
  by_cases c11 : t554 = true
  case neg =>
   rw [if_neg c11] at H
   have e10 : (!t554) = true := by simpa using c11
   try rw [e10]
   refine Opl.skp rfl (Opl.skp rfl (Opl.skp rfl (Opl.skp rfl (Opl.skp rfl (Opl.one (v := .lit (.bool true)) rfl rfl rfl (Opl.nil ?_))))))
   exact hk1 _ _ ⟨_, _, _, H, ⟨rfl, rfl, rfl, (by first | rfl | (show PV.lit (.bool _) = _; congr 2; simp_all)), trivial⟩, h1⟩
  rw [if_pos c11] at H
  have e9 : (!t554) = false := by simpa using c11
  try rw [e9]
  refine Opl.p1 (v := .ptr i1 2) (n := Opl.ldb (v := v0_2) h1 rfl T23 rfl rfl rfl rfl (Opl.len (xs := l0_2) (by exact hv0_2) K23 rfl rfl rfl rfl (Opl.one (v := .lit (.int .i64 (l0_0.length : Int))) rfl rfl rfl (Opl.p1 (n := Opl.one (v := .lit (.bool ((l0_2.length : Int) != (l0_0.length : Int)))) rfl rfl rfl (Opl.nil ?_))))))
  exact hk1 _ _ ⟨_, _, _, H, ⟨rfl, rfl, rfl, (by first | rfl | (show PV.lit (.bool _) = _; congr 2; simp_all)), trivial⟩, h1⟩
theorem impl_treeParts.ev {k : Nat} {a0 : Int} {r : Int} (H : impl_treeParts.f k a0 = some r) : Ret Try.prog 92 [.lit (.int .i64 a0)] fun v S => v = .lit (.int .i64 r) := by
 unfold impl_treeParts.f at H
 refine Ret.intro Try.func92 rfl (Nat.le_of_ble_eq_true rfl) rfl ?_
 rw [tm1]
 refine Evr.sr rfl (Opl.p1 (n := Opl.nil (Evr.seq (Evr.sr rfl (Opl.p1 (n := Opl.nil (Evr.block (Evr.seq (Evr.sr rfl (Opl.p1 (n := Opl.p1 (n := Opl.nil ?_))))))))))))
 refine Evr.join (fun tm S => ∃ (kq1 : Nat) (x4_1 : Bool), impl_treeParts.j0 kq1 a0 x4_1 = some r ∧ Has tm [(3, .lit (.int .i64 a0)), (4, .lit (.bool x4_1))]) ?_ fun hk1 => ?_
 ·
  rintro tm S ⟨kq1, x4_1, H, hh⟩
  rw [hh.eq]
  obtain _ | k1 := kq1
  · simp [impl_treeParts.j0] at H
  simp only [impl_treeParts.j0] at H
  by_cases c1 : x4_1 = true
  case pos =>
   rw [if_pos c1] at H
   obtain rfl : x4_1 = true := by simpa using c1
   refine Evr.condT rfl (Evr.sr rfl (Opl.p1 (n := Opl.nil ?_)))
   obtain rfl := Option.some.inj H
   refine Evr.ret1 Try.func92 rfl ?_
   show (.lit (.int .i64 2) : PV) = _
   first | rfl | (simp only [go_sem]; rfl)
  rw [if_neg c1] at H
  obtain rfl : x4_1 = false := by simpa using c1
  refine Evr.condF rfl (Evr.seq (Evr.sr rfl (Opl.p1 (n := Opl.p1 (n := Opl.nil ?_)))))
  refine Evr.join (fun tm S => ∃ (kq2 : Nat) (x9_1 : Bool), impl_treeParts.j1 kq2 x9_1 = some r ∧ Has tm [(9, .lit (.bool x9_1))]) ?_ fun hk2 => ?_
  ·
   rintro tm S ⟨kq2, x9_1, H, hh⟩
   rw [hh.eq]
   obtain _ | k2 := kq2
   · simp [impl_treeParts.j1] at H
   simp only [impl_treeParts.j1] at H
   by_cases c2 : x9_1 = true
   case pos =>
    rw [if_pos c2] at H
    obtain rfl : x9_1 = true := by simpa using c2
    refine Evr.condT rfl (Evr.sr rfl (Opl.p1 (n := Opl.nil ?_)))
    obtain rfl := Option.some.inj H
    refine Evr.ret1 Try.func92 rfl ?_
    show (.lit (.int .i64 0) : PV) = _
    first | rfl | (simp only [go_sem]; rfl)
   rw [if_neg c2] at H
   obtain rfl : x9_1 = false := by simpa using c2
   refine Evr.condF rfl (Evr.skip (Evr.inBlock (Evr.sr rfl (Opl.p1 (n := Opl.nil ?_)))))
   obtain rfl := Option.some.inj H
   refine Evr.ret1 Try.func92 rfl ?_
   show (.lit (.int .i64 1) : PV) = _
   first | rfl | (simp only [go_sem]; rfl)
  ·
   by_cases c3 : a0 = 0
   case pos =>
    rw [if_pos c3] at H
    have e1 : (a0 == 0) = true := by simpa using c3
    try rw [e1]
    refine Evr.condT rfl (Evr.skip ?_)
    exact hk2 _ _ ⟨_, _, H, ⟨(by first | rfl | (show PV.lit (.bool _) = _; congr 2; simp_all)), trivial⟩⟩
   rw [if_neg c3] at H
   have e2 : (a0 == 0) = false := by simpa using c3
   try rw [e2]
   refine Evr.condF rfl (Evr.regionN rfl (Opl.p1 (n := Opl.p1 (n := Opl.nil ?_))))
   exact hk2 _ _ ⟨_, _, H, ⟨(by first | rfl | (show PV.lit (.bool _) = _; congr 2; simp_all)), trivial⟩⟩
 ·
  by_cases c4 : a0 = 3
  case pos =>
   rw [if_pos c4] at H
   have e3 : (a0 == 3) = true := by simpa using c4
   try rw [e3]
   refine Evr.condT rfl (Evr.skip ?_)
   exact hk1 _ _ ⟨_, _, H, ⟨rfl, (by first | rfl | (show PV.lit (.bool _) = _; congr 2; simp_all)), trivial⟩⟩
  rw [if_neg c4] at H
  have e4 : (a0 == 3) = false := by simpa using c4
  try rw [e4]
  refine Evr.condF rfl (Evr.sr rfl (Opl.p1 (n := Opl.p1 (n := Opl.nil ?_))))
  refine Evr.join (fun tm S => ∃ (kq3 : Nat) (x4_2 : Bool), impl_treeParts.j0 kq3 a0 x4_2 = some r ∧ Has tm [(3, .lit (.int .i64 a0)), (4, .lit (.bool x4_2))]) ?_ fun hk3 => ?_
  ·
   rintro tm S ⟨kq3, x4_2, H, hh⟩
   rw [hh.eq]
   exact hk1 _ _ ⟨_, _, H, ⟨rfl, (by first | rfl | (show PV.lit (.bool _) = _; congr 2; simp_all)), trivial⟩⟩
  ·
   by_cases c5 : a0 = 4
   case pos =>
    rw [if_pos c5] at H
    have e5 : (a0 == 4) = true := by simpa using c5
    try rw [e5]
    refine Evr.condT rfl (Evr.skip ?_)
    exact hk3 _ _ ⟨_, _, H, ⟨rfl, (by first | rfl | (show PV.lit (.bool _) = _; congr 2; simp_all)), trivial⟩⟩
   rw [if_neg c5] at H
   have e6 : (a0 == 4) = false := by simpa using c5
   try rw [e6]
   refine Evr.condF rfl (Evr.sr rfl (Opl.p1 (n := Opl.p1 (n := Opl.nil ?_))))
   refine Evr.join (fun tm S => ∃ (kq4 : Nat) (x4_3 : Bool), impl_treeParts.j0 kq4 a0 x4_3 = some r ∧ Has tm [(3, .lit (.int .i64 a0)), (4, .lit (.bool x4_3))]) ?_ fun hk4 => ?_
   ·
    rintro tm S ⟨kq4, x4_3, H, hh⟩
    rw [hh.eq]
    exact hk3 _ _ ⟨_, _, H, ⟨rfl, (by first | rfl | (show PV.lit (.bool _) = _; congr 2; simp_all)), trivial⟩⟩
   ·
    by_cases c6 : a0 = 6
    case pos =>
     rw [if_pos c6] at H
     have e7 : (a0 == 6) = true := by simpa using c6
     try rw [e7]
     refine Evr.condT rfl (Evr.skip ?_)
     exact hk4 _ _ ⟨_, _, H, ⟨rfl, (by first | rfl | (show PV.lit (.bool _) = _; congr 2; simp_all)), trivial⟩⟩
    rw [if_neg c6] at H
    have e8 : (a0 == 6) = false := by simpa using c6
    try rw [e8]
    refine Evr.condF rfl (Evr.regionN rfl (Opl.p1 (n := Opl.p1 (n := Opl.nil ?_))))
    exact hk4 _ _ ⟨_, _, H, ⟨rfl, (by first | rfl | (show PV.lit (.bool _) = _; congr 2; simp_all)), trivial⟩⟩
theorem impl_TreesValid.ev {k : Nat} {l0 : List ITree} {v0 : PV} (hv0 : Sl cITree l0 v0) {a1 : Int} {r : Bool} (H : impl_TreesValid.f k l0 a1 = some r) : Ret Try.prog 58 [v0, .lit (.int .i64 a1)] fun v S => v = .lit (.bool r) := by
 unfold impl_TreesValid.f at H
 refine Ret.intro Try.func58 rfl (Nat.le_of_ble_eq_true rfl) rfl ?_
 rw [tm2]
 refine Evr.sr rfl (Opl.p1 (n := Opl.nil (Evr.seq (Evr.seq ?_))))
 refine Evr.join (fun tm S => ∃ (kq1 : Nat) (x16_1 : Bool), impl_TreesValid.j0 kq1 l0 a1 x16_1 = some r ∧ Has tm [(0, v0), (1, .lit (.int .i64 a1)), (16, .lit (.bool x16_1))]) ?_ fun hk1 => ?_
 ·
  rintro tm S ⟨kq1, x16_1, H, hh⟩
  rw [hh.eq]
  obtain _ | k1 := kq1
  · simp [impl_TreesValid.j0] at H
  simp only [impl_TreesValid.j0] at H
  by_cases c1 : x16_1 = true
  case pos =>
   rw [if_pos c1] at H
   obtain rfl : x16_1 = true := by simpa using c1
   refine Evr.condT rfl (Evr.sr rfl (Opl.p1 (n := Opl.nil ?_)))
   obtain rfl := Option.some.inj H
   refine Evr.ret1 Try.func58 rfl ?_
   show (.lit (.bool false) : PV) = _
   first | rfl | (simp only [go_sem]; rfl)
  rw [if_neg c1] at H
  obtain rfl : x16_1 = false := by simpa using c1
  refine Evr.condF rfl (Evr.skip (Evr.seq (Evr.sr rfl (Opl.p1 (n := Opl.len (xs := l0) (by exact hv0) K45 rfl rfl rfl rfl (Opl.p1 (n := Opl.nil (Evr.block ?_))))))))
  refine Evr.loop (Evr.rounds (n := k1) (Inv := fun n tm S => n ≤ k1 ∧ ∃ (x19_1 : Int), impl_TreesValid.l0 n a1 l0 (l0.length : Int) x19_1 = some r ∧ Has tm [(1, .lit (.int .i64 a1)), (17, v0), (18, .lit (.int .i64 (l0.length : Int))), (19, .lit (.int .i64 x19_1))]) ?_ ?_ ?_)
  · exact ⟨Nat.le_refl _, _, H, ⟨rfl, rfl, rfl, rfl, trivial⟩⟩
  ·
   rintro tm S ⟨_, _, H, -⟩
   simp [impl_TreesValid.l0] at H
  ·
   rintro n1 ih1 tm S ⟨hle, x19_1, H, hh⟩
   simp only [impl_TreesValid.l0] at H
   rw [hh.eq]
   refine Evr.sr rfl (Opl.p1 (n := Opl.nil (Evr.seq ?_)))
   by_cases c2 : x19_1 < (l0.length : Int)
   case neg =>
    rw [if_neg c2] at H
    have e14 : (decide (x19_1 < (l0.length : Int))) = false := by simpa using c2
    try rw [e14]
    refine Evr.condF rfl (Evr.exit rfl (Evr.sr rfl (Opl.p1 (n := Opl.nil ?_))))
    obtain rfl := Option.some.inj H
    refine Evr.ret1 Try.func58 rfl ?_
    show (.lit (.bool true) : PV) = _
    first | rfl | (simp only [go_sem]; rfl)
   rw [if_pos c2] at H
   have e1 : (decide (x19_1 < (l0.length : Int))) = true := by simpa using c2
   try rw [e1]
   refine Evr.condT rfl (Evr.skip (Evr.seq (Evr.block (Evr.sr rfl (Opl.p1 (n := ?_))))))
   obtain ⟨c3, H⟩ := peel H
   obtain ⟨c4, H⟩ := peel H
   refine Opl.idx (M := cITree) (xs := l0) (j := x19_1) zITree (by exact hv0) rfl (by omega) (by omega) K45 Z80 rfl rfl ?_
   rintro p1 q1 h1
   obtain rfl := cITree_R (x := (rd_ITree l0 x19_1)) h1
   refine Opl.lda (.agg [.lit (.int .i64 ((rd_ITree l0 x19_1).f0)), .lit (.int .i64 ((rd_ITree l0 x19_1).f1)), .lit (.int .i64 ((rd_ITree l0 x19_1).f2)), .lit (.int .i64 ((rd_ITree l0 x19_1).f3))]) rfl T80 rfl rfl rfl rfl (Opl.alloc T80 rfl rfl rfl ?_)
   rintro i1 S h2 u1 w1
   refine Opl.p1 (n := Opl.stb (vs := [.lit (.int .i64 ((rd_ITree l0 x19_1).f0)), .lit (.int .i64 ((rd_ITree l0 x19_1).f1)), .lit (.int .i64 ((rd_ITree l0 x19_1).f2)), .lit (.int .i64 ((rd_ITree l0 x19_1).f3))]) h2 rfl rfl Z80 rfl (Nat.le_of_ble_eq_true rfl) rfl rfl rfl rfl ?_)
   rintro S (h3 : Box (.ptr i1 0) [.lit (.int .i64 ((rd_ITree l0 x19_1).f0)), .lit (.int .i64 ((rd_ITree l0 x19_1).f1)), .lit (.int .i64 ((rd_ITree l0 x19_1).f2)), .lit (.int .i64 ((rd_ITree l0 x19_1).f3))] _) u2
   refine Opl.nil (Evr.sr rfl (Opl.p1 (v := .ptr i1 0) (n := Opl.ldb (v := .lit (.int .i64 ((rd_ITree l0 x19_1).f0))) h3 rfl T3 rfl rfl rfl rfl ?_)))
   obtain ⟨t563, h_t563, H⟩ := Option.bind_eq_some_iff.1 H
   refine Opl.callc (impl_in.ev h_t563) rfl rfl rfl rfl ⟨(.lit _), (.lit _), (.lit _), trivial⟩ (by decide) (Opl.p1 (n := Opl.nil (Evr.seq (Evr.block (Evr.sr rfl (Opl.p1 (v := .ptr i1 0) (n := Opl.ldb (v := .lit (.int .i64 ((rd_ITree l0 x19_1).f0))) h3 rfl T3 rfl rfl rfl rfl (Opl.p1 (n := Opl.p1 (n := Opl.nil ?_))))))))))
   refine Evr.join (fun tm S => ∃ (kq2 : Nat) (x7_1 : Bool), impl_TreesValid.j2 kq2 a1 x7_1 l0 (l0.length : Int) x19_1 = some r ∧ kq2 ≤ n1 ∧ Has tm [(1, .lit (.int .i64 a1)), (7, .lit (.bool x7_1)), (17, v0), (18, .lit (.int .i64 (l0.length : Int))), (19, .lit (.int .i64 x19_1))]) ?_ fun hk2 => ?_
   ·
    rintro tm S ⟨kq2, x7_1, H, hle, hh⟩
    rw [hh.eq]
    refine Evr.inBlock (Evr.sr rfl (Opl.p1 (n := Opl.p1 (n := Opl.nil ?_))))
    obtain _ | k2 := kq2
    · simp [impl_TreesValid.j2] at H
    simp only [impl_TreesValid.j2] at H
    by_cases c5 : x7_1 = true
    case neg =>
     rw [if_neg c5] at H
     have e3 : (!x7_1) = true := by simpa using c5
     try rw [e3]
     refine Evr.condT rfl (Evr.sr rfl (Opl.p1 (n := Opl.nil ?_)))
     obtain rfl := Option.some.inj H
     refine Evr.ret1 Try.func58 rfl ?_
     show (.lit (.bool false) : PV) = _
     first | rfl | (simp only [go_sem]; rfl)
    rw [if_pos c5] at H
    have e2 : (!x7_1) = false := by simpa using c5
    try rw [e2]
    refine Evr.condF rfl (Evr.skip (Evr.inBlock (Evr.regionN rfl (Opl.add (k := .i64) (a := x19_1) (b := 1) K3 rfl rfl rfl rfl (Opl.one (v := .lit (.int .i64 (wrap64 (x19_1 + 1)))) rfl rfl rfl (Opl.nil ?_))))))
    exact ih1 _ (by omega) _ _ ⟨by omega, _, H, ⟨rfl, rfl, rfl, rfl, trivial⟩⟩
   ·
    by_cases c6 : ((rd_ITree l0 x19_1).f0) = 0
    case pos =>
     rw [if_pos c6] at H
     have e4 : (((rd_ITree l0 x19_1).f0) == 0) = true := by simpa using c6
     try rw [e4]
     refine Evr.condT rfl (Evr.regionN rfl (Opl.ldb (v := .agg [.lit (.int .i64 ((rd_ITree l0 x19_1).f0)), .lit (.int .i64 ((rd_ITree l0 x19_1).f1)), .lit (.int .i64 ((rd_ITree l0 x19_1).f2)), .lit (.int .i64 ((rd_ITree l0 x19_1).f3))]) h3 rfl T80 rfl rfl rfl rfl (Opl.p1 (v := .agg [.lit (.int .i64 0), .lit (.int .i64 0), .lit (.int .i64 0), .lit (.int .i64 0)]) (n := Opl.eqs (b := (((rd_ITree l0 x19_1).f0) == 0 && (((rd_ITree l0 x19_1).f1) == 0 && (((rd_ITree l0 x19_1).f2) == 0 && (((rd_ITree l0 x19_1).f3) == 0 && true))))) O80 K80 rfl rfl rfl rfl rfl (Opl.p1 (n := Opl.nil ?_))))))
     exact hk2 _ _ ⟨_, _, H, by omega, ⟨rfl, (by first | rfl | (show PV.lit (.bool _) = _; congr 2; simp_all)), rfl, rfl, rfl, trivial⟩⟩
    rw [if_neg c6] at H
    have e5 : (((rd_ITree l0 x19_1).f0) == 0) = false := by simpa using c6
    try rw [e5]
    refine Evr.condF rfl (Evr.sr rfl (Opl.p1 (v := .ptr i1 0) (n := Opl.ldb (v := .lit (.int .i64 ((rd_ITree l0 x19_1).f0))) h3 rfl T3 rfl rfl rfl rfl (Opl.p1 (n := Opl.p1 (n := Opl.nil ?_))))))
    refine Evr.join (fun tm S => ∃ (kq3 : Nat) (x7_2 : Bool), impl_TreesValid.j2 kq3 a1 x7_2 l0 (l0.length : Int) x19_1 = some r ∧ kq3 ≤ n1 ∧ Has tm [(1, .lit (.int .i64 a1)), (7, .lit (.bool x7_2)), (17, v0), (18, .lit (.int .i64 (l0.length : Int))), (19, .lit (.int .i64 x19_1))]) ?_ fun hk3 => ?_
    ·
     rintro tm S ⟨kq3, x7_2, H, hle, hh⟩
     rw [hh.eq]
     exact hk2 _ _ ⟨_, _, H, by omega, ⟨rfl, (by first | rfl | (show PV.lit (.bool _) = _; congr 2; simp_all)), rfl, rfl, rfl, trivial⟩⟩
    ·
     by_cases c7 : ((rd_ITree l0 x19_1).f0) = 1
     case pos =>
      rw [if_pos c7] at H
      have e6 : (((rd_ITree l0 x19_1).f0) == 1) = true := by simpa using c7
      try rw [e6]
      refine Evr.condT rfl ?_
      refine Evr.join (fun tm S => ∃ (kq4 : Nat) (x7_3 : Bool), impl_TreesValid.j2 kq4 a1 x7_3 l0 (l0.length : Int) x19_1 = some r ∧ kq4 ≤ n1 ∧ Has tm [(1, .lit (.int .i64 a1)), (7, .lit (.bool x7_3)), (17, v0), (18, .lit (.int .i64 (l0.length : Int))), (19, .lit (.int .i64 x19_1))]) ?_ fun hk4 => ?_
      ·
       rintro tm S ⟨kq4, x7_3, H, hle, hh⟩
       rw [hh.eq]
       exact hk3 _ _ ⟨_, _, H, by omega, ⟨rfl, (by first | rfl | (show PV.lit (.bool _) = _; congr 2; simp_all)), rfl, rfl, rfl, trivial⟩⟩
      ·
       refine Evr.regionN rfl (Opl.p1 (v := .ptr i1 1) (n := Opl.ldb (v := .lit (.int .i64 ((rd_ITree l0 x19_1).f1))) h3 rfl T3 rfl rfl rfl rfl (Opl.p1 (n := Opl.subi (k := .i64) (a := a1) (b := 1) K3 rfl rfl rfl rfl ?_))))
       obtain ⟨t564, h_t564, H⟩ := Option.bind_eq_some_iff.1 H
       refine Opl.callc (impl_in.ev h_t564) rfl rfl rfl rfl ⟨(.lit _), (.lit _), (.lit _), trivial⟩ (by decide) (Opl.one (v := .lit (.bool t564)) rfl rfl rfl ?_)
       by_cases c8 : t564 = true
       case neg =>
        rw [if_neg c8] at H
        obtain rfl : t564 = false := by simpa using c8
        refine Opl.skp rfl (Opl.skp rfl (Opl.skp rfl (Opl.one (v := .lit (.bool false)) rfl rfl rfl (Opl.one (v := .lit (.bool false)) rfl rfl rfl (Opl.skp rfl (Opl.skp rfl (Opl.skp rfl (Opl.one (v := .lit (.bool false)) rfl rfl rfl (Opl.one (v := .lit (.bool false)) rfl rfl rfl (Opl.nil ?_))))))))))
        exact hk4 _ _ ⟨_, _, H, by omega, ⟨rfl, (by first | rfl | (show PV.lit (.bool _) = _; congr 2; simp_all)), rfl, rfl, rfl, trivial⟩⟩
       rw [if_pos c8] at H
       obtain rfl : t564 = true := by simpa using c8
       refine Opl.p1 (v := .ptr i1 2) (n := Opl.ldb (v := .lit (.int .i64 ((rd_ITree l0 x19_1).f2))) h3 rfl T3 rfl rfl rfl rfl (Opl.p1 (n := Opl.one (v := .lit (.bool (((rd_ITree l0 x19_1).f2) == 0))) rfl rfl rfl (Opl.one (v := .lit (.bool (((rd_ITree l0 x19_1).f2) == 0))) rfl rfl rfl ?_))))
       by_cases c9 : ((rd_ITree l0 x19_1).f2) = 0
       case neg =>
        rw [if_neg c9] at H
        have e8 : (((rd_ITree l0 x19_1).f2) == 0) = false := by simpa using c9
        try rw [e8]
        refine Opl.skp rfl (Opl.skp rfl (Opl.skp rfl (Opl.one (v := .lit (.bool false)) rfl rfl rfl (Opl.one (v := .lit (.bool false)) rfl rfl rfl (Opl.nil ?_)))))
        exact hk4 _ _ ⟨_, _, H, by omega, ⟨rfl, (by first | rfl | (show PV.lit (.bool _) = _; congr 2; simp_all)), rfl, rfl, rfl, trivial⟩⟩
       rw [if_pos c9] at H
       have e7 : (((rd_ITree l0 x19_1).f2) == 0) = true := by simpa using c9
       try rw [e7]
       refine Opl.p1 (v := .ptr i1 3) (n := Opl.ldb (v := .lit (.int .i64 ((rd_ITree l0 x19_1).f3))) h3 rfl T3 rfl rfl rfl rfl (Opl.p1 (n := Opl.one (v := .lit (.bool (((rd_ITree l0 x19_1).f3) == 0))) rfl rfl rfl (Opl.one (v := .lit (.bool (((rd_ITree l0 x19_1).f3) == 0))) rfl rfl rfl (Opl.nil ?_)))))
       exact hk4 _ _ ⟨_, _, H, by omega, ⟨rfl, (by first | rfl | (show PV.lit (.bool _) = _; congr 2; simp_all)), rfl, rfl, rfl, trivial⟩⟩
     rw [if_neg c7] at H
     have e9 : (((rd_ITree l0 x19_1).f0) == 1) = false := by simpa using c7
     try rw [e9]
     refine Evr.condF rfl (Evr.sr rfl (Opl.p1 (n := Opl.p1 (n := Opl.nil ?_))))
     refine Evr.join (fun tm S => ∃ (kq5 : Nat) (x7_4 : Bool), impl_TreesValid.j2 kq5 a1 x7_4 l0 (l0.length : Int) x19_1 = some r ∧ kq5 ≤ n1 ∧ Has tm [(1, .lit (.int .i64 a1)), (7, .lit (.bool x7_4)), (17, v0), (18, .lit (.int .i64 (l0.length : Int))), (19, .lit (.int .i64 x19_1))]) ?_ fun hk5 => ?_
     ·
      rintro tm S ⟨kq5, x7_4, H, hle, hh⟩
      rw [hh.eq]
      exact hk3 _ _ ⟨_, _, H, by omega, ⟨rfl, (by first | rfl | (show PV.lit (.bool _) = _; congr 2; simp_all)), rfl, rfl, rfl, trivial⟩⟩
     ·
      by_cases c10 : t563 = true
      case neg =>
       rw [if_neg c10] at H
       obtain rfl : t563 = false := by simpa using c10
       refine Evr.condF rfl (Evr.skip ?_)
       exact hk5 _ _ ⟨_, _, H, by omega, ⟨rfl, (by first | rfl | (show PV.lit (.bool _) = _; congr 2; simp_all)), rfl, rfl, rfl, trivial⟩⟩
      rw [if_pos c10] at H
      obtain rfl : t563 = true := by simpa using c10
      refine Evr.condT rfl ?_
      refine Evr.join (fun tm S => ∃ (kq6 : Nat) (x7_5 : Bool), impl_TreesValid.j2 kq6 a1 x7_5 l0 (l0.length : Int) x19_1 = some r ∧ kq6 ≤ n1 ∧ Has tm [(1, .lit (.int .i64 a1)), (7, .lit (.bool x7_5)), (17, v0), (18, .lit (.int .i64 (l0.length : Int))), (19, .lit (.int .i64 x19_1))]) ?_ fun hk6 => ?_
      ·
       rintro tm S ⟨kq6, x7_5, H, hle, hh⟩
       rw [hh.eq]
       exact hk5 _ _ ⟨_, _, H, by omega, ⟨rfl, (by first | rfl | (show PV.lit (.bool _) = _; congr 2; simp_all)), rfl, rfl, rfl, trivial⟩⟩
      ·
       refine Evr.regionN rfl (Opl.p1 (v := .ptr i1 1) (n := Opl.ldb (v := .lit (.int .i64 ((rd_ITree l0 x19_1).f1))) h3 rfl T3 rfl rfl rfl rfl (Opl.p1 (n := Opl.p1 (n := ?_)))))
       by_cases c11 : ((rd_ITree l0 x19_1).f1) = 0
       case neg =>
        rw [if_neg c11] at H
        have e13 : (((rd_ITree l0 x19_1).f1) == 0) = false := by simpa using c11
        try rw [e13]
        refine Opl.skp rfl (Opl.skp rfl (Opl.skp rfl (Opl.skp rfl (Opl.skp rfl (Opl.p1 (n := Opl.p1 (n := Opl.skp rfl (Opl.skp rfl (Opl.skp rfl (Opl.skp rfl (Opl.skp rfl (Opl.p1 (n := Opl.p1 (n := Opl.skp rfl (Opl.skp rfl (Opl.skp rfl (Opl.skp rfl (Opl.skp rfl (Opl.skp rfl (Opl.skp rfl (Opl.skp rfl (Opl.skp rfl (Opl.skp rfl (Opl.skp rfl (Opl.p1 (n := Opl.p1 (n := Opl.nil ?_)))))))))))))))))))))))))))
        exact hk6 _ _ ⟨_, _, H, by omega, ⟨rfl, (by first | rfl | (show PV.lit (.bool _) = _; congr 2; simp_all)), rfl, rfl, rfl, trivial⟩⟩
       rw [if_pos c11] at H
       have e10 : (((rd_ITree l0 x19_1).f1) == 0) = true := by simpa using c11
       try rw [e10]
       refine Opl.p1 (v := .ptr i1 2) (n := Opl.ldb (v := .lit (.int .i64 ((rd_ITree l0 x19_1).f2))) h3 rfl T3 rfl rfl rfl rfl (Opl.p1 (n := Opl.subi (k := .i64) (a := x19_1) (b := 1) K3 rfl rfl rfl rfl ?_)))
       obtain ⟨t565, h_t565, H⟩ := Option.bind_eq_some_iff.1 H
       refine Opl.callc (impl_in.ev h_t565) rfl rfl rfl rfl ⟨(.lit _), (.lit _), (.lit _), trivial⟩ (by decide) (Opl.one (v := .lit (.bool t565)) rfl rfl rfl (Opl.one (v := .lit (.bool t565)) rfl rfl rfl ?_))
       by_cases c12 : t565 = true
       case neg =>
        rw [if_neg c12] at H
        obtain rfl : t565 = false := by simpa using c12
        refine Opl.skp rfl (Opl.skp rfl (Opl.skp rfl (Opl.skp rfl (Opl.skp rfl (Opl.one (v := .lit (.bool false)) rfl rfl rfl (Opl.one (v := .lit (.bool false)) rfl rfl rfl (Opl.skp rfl (Opl.skp rfl (Opl.skp rfl (Opl.skp rfl (Opl.skp rfl (Opl.skp rfl (Opl.skp rfl (Opl.skp rfl (Opl.skp rfl (Opl.skp rfl (Opl.skp rfl (Opl.one (v := .lit (.bool false)) rfl rfl rfl (Opl.one (v := .lit (.bool false)) rfl rfl rfl (Opl.nil ?_))))))))))))))))))))
        exact hk6 _ _ ⟨_, _, H, by omega, ⟨rfl, (by first | rfl | (show PV.lit (.bool _) = _; congr 2; simp_all)), rfl, rfl, rfl, trivial⟩⟩
       rw [if_pos c12] at H
       obtain rfl : t565 = true := by simpa using c12
       refine Opl.p1 (v := .ptr i1 3) (n := Opl.ldb (v := .lit (.int .i64 ((rd_ITree l0 x19_1).f3))) h3 rfl T3 rfl rfl rfl rfl (Opl.one (v := .lit (.int .i64 x19_1)) rfl rfl rfl (Opl.subi (k := .i64) (a := x19_1) (b := 1) K3 rfl rfl rfl rfl ?_)))
       obtain ⟨t566, h_t566, H⟩ := Option.bind_eq_some_iff.1 H
       refine Opl.callc (impl_in.ev h_t566) rfl rfl rfl rfl ⟨(.lit _), (.lit _), (.lit _), trivial⟩ (by decide) (Opl.one (v := .lit (.bool t566)) rfl rfl rfl (Opl.one (v := .lit (.bool t566)) rfl rfl rfl ?_))
       by_cases c13 : t566 = true
       case neg =>
        rw [if_neg c13] at H
        obtain rfl : t566 = false := by simpa using c13
        refine Opl.skp rfl (Opl.skp rfl (Opl.skp rfl (Opl.skp rfl (Opl.skp rfl (Opl.skp rfl (Opl.skp rfl (Opl.skp rfl (Opl.skp rfl (Opl.skp rfl (Opl.skp rfl (Opl.one (v := .lit (.bool false)) rfl rfl rfl (Opl.one (v := .lit (.bool false)) rfl rfl rfl (Opl.nil ?_)))))))))))))
        exact hk6 _ _ ⟨_, _, H, by omega, ⟨rfl, (by first | rfl | (show PV.lit (.bool _) = _; congr 2; simp_all)), rfl, rfl, rfl, trivial⟩⟩
       rw [if_pos c13] at H
       obtain rfl : t566 = true := by simpa using c13
       refine Opl.p1 (v := .ptr i1 2) (n := Opl.ldb (v := .lit (.int .i64 ((rd_ITree l0 x19_1).f2))) h3 rfl T3 rfl rfl rfl rfl (Opl.p1 (v := .ptr i1 3) (n := Opl.ldb (v := .lit (.int .i64 ((rd_ITree l0 x19_1).f3))) h3 rfl T3 rfl rfl rfl rfl (Opl.p1 (n := Opl.one (v := .lit (.bool (((rd_ITree l0 x19_1).f2) == ((rd_ITree l0 x19_1).f3)))) rfl rfl rfl ?_)))))
       by_cases c14 : ((rd_ITree l0 x19_1).f2) = ((rd_ITree l0 x19_1).f3)
       case pos =>
        rw [if_pos c14] at H
        have e11 : (((rd_ITree l0 x19_1).f2) == ((rd_ITree l0 x19_1).f3)) = true := by simpa using c14
        try rw [e11]
        refine Opl.skp rfl (Opl.skp rfl (Opl.skp rfl (Opl.skp rfl (Opl.one (v := .lit (.bool true)) rfl rfl rfl (Opl.one (v := .lit (.bool true)) rfl rfl rfl (Opl.one (v := .lit (.bool true)) rfl rfl rfl (Opl.nil ?_)))))))
        exact hk6 _ _ ⟨_, _, H, by omega, ⟨rfl, (by first | rfl | (show PV.lit (.bool _) = _; congr 2; simp_all)), rfl, rfl, rfl, trivial⟩⟩
       rw [if_neg c14] at H
       have e12 : (((rd_ITree l0 x19_1).f2) == ((rd_ITree l0 x19_1).f3)) = false := by simpa using c14
       try rw [e12]
       refine Opl.p1 (v := .ptr i1 0) (n := Opl.ldb (v := .lit (.int .i64 ((rd_ITree l0 x19_1).f0))) h3 rfl T3 rfl rfl rfl rfl ?_)
       obtain ⟨t567, h_t567, H⟩ := Option.bind_eq_some_iff.1 H
       refine Opl.callc (impl_treeParts.ev h_t567) rfl rfl rfl rfl ⟨(.lit _), trivial⟩ (by decide) (Opl.p1 (n := Opl.one (v := .lit (.bool (t567 == 2))) rfl rfl rfl (Opl.one (v := .lit (.bool (t567 == 2))) rfl rfl rfl (Opl.one (v := .lit (.bool (t567 == 2))) rfl rfl rfl (Opl.nil ?_)))))
       exact hk6 _ _ ⟨_, _, H, by omega, ⟨rfl, (by first | rfl | (show PV.lit (.bool _) = _; congr 2; simp_all)), rfl, rfl, rfl, trivial⟩⟩
 ·
  refine Evr.regionN rfl (Opl.p1 (n := ?_))
  obtain ⟨t559, h_t559, H⟩ := Option.bind_eq_some_iff.1 H
  refine Opl.callc (impl_in.ev h_t559) rfl rfl rfl rfl ⟨(.lit _), (.lit _), (.lit _), trivial⟩ (by decide) (Opl.p1 (n := Opl.p1 (n := ?_)))
  by_cases c15 : t559 = true
  case neg =>
   rw [if_neg c15] at H
   have e16 : (!t559) = true := by simpa using c15
   try rw [e16]
   refine Opl.skp rfl (Opl.skp rfl (Opl.skp rfl (Opl.skp rfl (Opl.p1 (n := Opl.nil ?_)))))
   exact hk1 _ _ ⟨_, _, H, ⟨rfl, rfl, (by first | rfl | (show PV.lit (.bool _) = _; congr 2; simp_all)), trivial⟩⟩
  rw [if_pos c15] at H
  have e15 : (!t559) = false := by simpa using c15
  try rw [e15]
  refine Opl.p1 (n := Opl.len (xs := l0) (by exact hv0) K45 rfl rfl rfl rfl ?_)
  obtain ⟨t560, h_t560, H⟩ := Option.bind_eq_some_iff.1 H
  refine Opl.callc (impl_in.ev h_t560) rfl rfl rfl rfl ⟨(.lit _), (.lit _), (.lit _), trivial⟩ (by decide) (Opl.p1 (n := Opl.p1 (n := Opl.nil ?_)))
  exact hk1 _ _ ⟨_, _, H, ⟨rfl, rfl, (by first | rfl | (show PV.lit (.bool _) = _; congr 2; simp_all)), trivial⟩⟩
theorem impl_clone_int.ev {l0 : List Int} {v0 : PV} (hv0 : Sl (cInt .i64) l0 v0) {r : List Int} (H : impl_clone_int.f l0 = some r) : Ret Try.prog 50 [v0] fun v S => Vec (cInt .i64) r v S := by
 unfold impl_clone_int.f at H
 refine Ret.intro Try.func50 rfl (Nat.le_of_ble_eq_true rfl) rfl ?_
 rw [tm1]
 obtain ⟨c1, H⟩ := peel H
 obtain rfl := Option.some.inj H
 refine Evr.seq (Evr.regionN rfl (Opl.p1 (n := Opl.nil (Evr.seq (Evr.seq (Evr.regionN rfl (Opl.p1 (n := Opl.len (by exact hv0) K26 rfl rfl rfl rfl (Opl.p1 (n := Opl.nil ?_))))))))))
 by_cases c2 : (l0.length : Int) = 0
 · have e1 : ((l0.length : Int) == 0) = true := by simpa using c2
   try rw [e1]
   refine Evr.condT rfl (Evr.seq (Evr.regionN rfl (Opl.p1 (n := Opl.nil ?_))))
   obtain rfl : l0 = [] := List.eq_nil_of_length_eq_zero (by omega)
   refine Evr.ret1 Try.func50 rfl ?_
   exact .nil
 · have e1 : ((l0.length : Int) == 0) = false := by simpa using c2
   try rw [e1]
   refine Evr.condF rfl (Evr.skip (Evr.seq (Evr.regionN rfl (Opl.p1 (n := Opl.len (by exact hv0) K26 rfl rfl rfl rfl ?_)))))
   refine Opl.make (M := (cInt .i64)) (m := (l0.length : Int)) (0 : Int) (by exact rfl) rfl rfl K26 T3 rfl (by omega) (by show (_ : Nat) * 8 ≤ 281474976710656; omega) (by omega) rfl rfl rfl ?_
   rintro pv1 S h1 u1 w1
   refine Opl.p1 (n := Opl.nil (Evr.seq (Evr.regionN rfl (Opl.p1 (n := Opl.p1 (n := ?_))))))
   refine Opl.copy (M := (cInt .i64)) (ys := l0) h1 (by exact hv0) (oInt .i64) rfl (by simp) (by simp; omega) K26 Z3 rfl rfl rfl rfl rfl ?_
   rintro S h2 u2
   refine Opl.nil (Evr.seq (Evr.regionN rfl (Opl.p1 (n := Opl.p1 (n := Opl.nil ?_)))))
   refine Evr.ret1 Try.func50 rfl ?_
   exact h2
theorem impl_listOf.ev {k : Nat} {l0 : List Bool} {v0 : PV} (hv0 : Sl cBool l0 v0) {r : (List Int)} (H : impl_listOf.f k l0 = some r) : Ret Try.prog 60 [v0] fun v S => Vec (cInt .i64) r v S := by
 unfold impl_listOf.f at H
 refine Ret.intro Try.func60 rfl (Nat.le_of_ble_eq_true rfl) rfl ?_
 rw [tm1]
 refine Evr.sr rfl (Opl.p1 (n := Opl.nil (Evr.sr rfl (Opl.p1 (n := Opl.nil (Evr.seq (Evr.sr rfl (Opl.p1 (n := Opl.len (xs := l0) (by exact hv0) K78 rfl rfl rfl rfl (Opl.p1 (n := Opl.nil (Evr.block ?_))))))))))))
 refine Evr.loop (Evr.rounds (n := k) (Inv := fun n tm S => n ≤ k ∧ ∃ (x3_1 : List Int) (x8_1 : Int) (pv1 : PV), impl_listOf.l0 n x3_1 l0 (l0.length : Int) x8_1 = some r ∧ Has tm [(3, pv1), (6, v0), (7, .lit (.int .i64 (l0.length : Int))), (8, .lit (.int .i64 x8_1))] ∧ Vec (cInt .i64) x3_1 pv1 S) ?_ ?_ ?_)
 · exact ⟨Nat.le_refl _, _, _, _, H, ⟨rfl, rfl, rfl, rfl, trivial⟩, .nil⟩
 ·
  rintro tm S ⟨_, _, _, _, H, -⟩
  simp [impl_listOf.l0] at H
 ·
  rintro n1 ih1 tm S ⟨hle, x3_1, x8_1, pv1, H, hh, h1⟩
  simp only [impl_listOf.l0] at H
  rw [hh.eq]
  refine Evr.sr rfl (Opl.p1 (n := Opl.nil (Evr.seq ?_)))
  by_cases c1 : x8_1 < (l0.length : Int)
  case neg =>
   rw [if_neg c1] at H
   have e4 : (decide (x8_1 < (l0.length : Int))) = false := by simpa using c1
   try rw [e4]
   refine Evr.condF rfl (Evr.exit rfl (Evr.sr rfl (Opl.p1 (n := ?_))))
   obtain ⟨t598, h_t598, H⟩ := Option.bind_eq_some_iff.1 H
   obtain ⟨pv5, h8, -, h9⟩ := Out.vec h1
   refine Opl.callav (sInt .i64) (impl_clone_int.ev h9 h_t598) rfl rfl rfl (.cons h8 .nil) ⟨h9.plain, trivial⟩ rfl ?_
   rintro pv6 S h10 u3 w3
   have ap3 := w3.vec h1
   have h11 := u3.vec h1 ap3
   refine Opl.p1 (n := Opl.nil ?_)
   obtain rfl := Option.some.inj H
   refine Evr.ret1 Try.func60 rfl ?_
   show Vec _ _ pv6 _
   exact h10
  rw [if_pos c1] at H
  have e1 : (decide (x8_1 < (l0.length : Int))) = true := by simpa using c1
  try rw [e1]
  refine Evr.condT rfl (Evr.skip (Evr.seq (Evr.block (Evr.sr rfl (Opl.p1 (n := ?_))))))
  obtain ⟨c2, H⟩ := peel H
  obtain ⟨c3, H⟩ := peel H
  refine Opl.idx (M := cBool) (xs := l0) (j := x8_1) false (by exact hv0) rfl (by omega) (by omega) K78 Z4 rfl rfl ?_
  rintro p1 q1 h2
  obtain rfl : p1 = [.lit (.bool (rdOf false l0 x8_1))] := h2
  refine Opl.lda (.lit (.bool (rdOf false l0 x8_1))) rfl T4 rfl rfl rfl rfl (Opl.p1 (n := Opl.p1 (n := Opl.nil (Evr.sr rfl (Opl.p1 (n := Opl.nil ?_))))))
  refine Evr.join (fun tm S => ∃ (kq1 : Nat) (x3_2 : List Int) (pv2 : PV), impl_listOf.l0 kq1 x3_2 l0 (l0.length : Int) (wrap64 (x8_1 + 1)) = some r ∧ kq1 ≤ n1 ∧ Has tm [(3, pv2), (6, v0), (7, .lit (.int .i64 (l0.length : Int))), (8, .lit (.int .i64 x8_1))] ∧ Vec (cInt .i64) x3_2 pv2 S) ?_ fun hk1 => ?_
  ·
   rintro tm S ⟨kq1, x3_2, pv2, H, hle, hh, h3⟩
   rw [hh.eq]
   refine Evr.inBlock (Evr.regionN rfl (Opl.add (k := .i64) (a := x8_1) (b := 1) K3 rfl rfl rfl rfl (Opl.one (v := .lit (.int .i64 (wrap64 (x8_1 + 1)))) rfl rfl rfl (Opl.nil ?_))))
   exact ih1 _ (by omega) _ _ ⟨by omega, _, _, _, H, ⟨rfl, rfl, rfl, rfl, trivial⟩, h3⟩
  ·
   by_cases c4 : rdOf false l0 x8_1 = true
   case neg =>
    rw [if_neg c4] at H
    have e3 : (rdOf false l0 x8_1) = false := by simpa using c4
    try rw [e3]
    refine Evr.condF rfl (Evr.skip ?_)
    exact hk1 _ _ ⟨_, _, _, H, by omega, ⟨rfl, rfl, rfl, rfl, trivial⟩, h1⟩
   rw [if_pos c4] at H
   have e2 : (rdOf false l0 x8_1) = true := by simpa using c4
   try rw [e2]
   refine Evr.condT rfl (Evr.regionN rfl (Opl.p1 (n := Opl.p1 (n := Opl.lits (M := (cInt .i64)) (ys := [x8_1]) [.tmp 15] K26 T3 rfl rfl rfl (by exact ⟨rfl, trivial⟩) rfl (by decide) rfl rfl rfl ?_))))
   rintro pv3 S h4 u1 w1
   have ap1 := w1.vec h1
   have h5 := u1.vec h1 ap1
   obtain ⟨c5, H⟩ := peel H
   refine Opl.app (M := (cInt .i64)) (xs := x3_1) (ys := [x8_1]) (v := pv1) h5 (.vec h4) (oInt .i64) rfl rfl K26 T3 rfl rfl (by (try simp only [List.length_cons, List.length_nil]); omega) (by show (_ + _) * 8 ≤ 140737488355328; (try simp only [List.length_cons, List.length_nil]); omega) rfl rfl rfl rfl rfl ?_
   rintro pv4 S h6 u2 w2
   have ap2 := w2.vec h4
   have h7 := u2.vec h4 ap1.symm
   refine Opl.p1 (n := Opl.nil ?_)
   exact hk1 _ _ ⟨_, _, _, H, by omega, ⟨rfl, rfl, rfl, rfl, trivial⟩, h6⟩
theorem impl_treeRows_3.ev {a0 : Bool} {a1 : Bool} {r : Bool} (H : impl_treeRows_3.f a0 a1 = some r) : Ret Try.prog 104 [.lit (.bool a0), .lit (.bool a1)] fun v S => v = .lit (.bool r) := by
 unfold impl_treeRows_3.f at H
 refine Ret.intro Try.func104 rfl (Nat.le_of_ble_eq_true rfl) rfl ?_
 rw [tm2]
 refine Evr.sr rfl (Opl.p1 (n := Opl.nil (Evr.sr rfl (Opl.p1 (n := Opl.p1 (n := ?_))))))
 by_cases c1 : a0 = true
 case pos =>
  rw [if_pos c1] at H
  obtain rfl : a0 = true := by simpa using c1
  refine Opl.p1 (n := Opl.p1 (n := Opl.p1 (n := Opl.nil ?_)))
  obtain rfl := Option.some.inj H
  refine Evr.ret1 Try.func104 rfl ?_
  show (.lit (.bool a1) : PV) = _
  first | rfl | (simp only [go_sem]; rfl)
 rw [if_neg c1] at H
 obtain rfl : a0 = false := by simpa using c1
 refine Opl.skp rfl (Opl.p1 (n := Opl.p1 (n := Opl.nil ?_)))
 obtain rfl := Option.some.inj H
 refine Evr.ret1 Try.func104 rfl ?_
 show (.lit (.bool false) : PV) = _
 first | rfl | (simp only [go_sem]; rfl)
theorem impl_each_at_impl_treeRows_3.ev {k : Nat} {l0 : List Bool} {v0 : PV} (hv0 : Sl cBool l0 v0) {l1 : List Bool} {v1 : PV} (hv1 : Sl cBool l1 v1) {r : (List Bool)} (H : impl_each_at_impl_treeRows_3.f k l0 l1 = some r) : Ret Try.prog 98 [v0, v1, .lit (.func (.func 104) #[] #[])] fun v S => Vec cBool r v S := by
 unfold impl_each_at_impl_treeRows_3.f at H
 refine Ret.intro Try.func98 rfl (Nat.le_of_ble_eq_true rfl) rfl ?_
 rw [tm3]
 refine Evr.sr rfl (Opl.p1 (n := Opl.nil (Evr.sr rfl (Opl.p1 (n := Opl.len (xs := l0) (by exact hv0) K78 rfl rfl rfl rfl ?_)))))
 obtain ⟨c1, H⟩ := peel H
 obtain ⟨c2, H⟩ := peel H
 refine Opl.make (M := cBool) (m := (l0.length : Int)) false (by exact rfl) rfl rfl K78 T4 rfl (by omega) (by show ((l0.length : Int)).toNat * 1 ≤ 281474976710656; omega) (by omega) rfl rfl rfl ?_
 rintro pv1 S h1 u1 w1
 refine Opl.p1 (n := Opl.nil (Evr.seq (Evr.sr rfl (Opl.p1 (n := Opl.len (xs := l0) (by exact hv0) K78 rfl rfl rfl rfl (Opl.p1 (n := Opl.nil (Evr.block ?_))))))))
 refine Evr.loop (Evr.rounds (n := k) (Inv := fun n tm S => n ≤ k ∧ ∃ (x7_1 : List Bool) (x14_1 : Int) (pv2 : PV), impl_each_at_impl_treeRows_3.l1 n x7_1 x14_1 l0 l1 = some r ∧ Has tm [(0, v0), (1, v1), (2, .lit (.func (.func 104) #[] #[])), (7, pv2), (13, .lit (.int .i64 (l0.length : Int))), (14, .lit (.int .i64 x14_1))] ∧ Vec cBool x7_1 pv2 S) ?_ ?_ ?_)
 · exact ⟨Nat.le_refl _, _, _, _, H, ⟨rfl, rfl, rfl, rfl, rfl, rfl, trivial⟩, h1⟩
 ·
  rintro tm S ⟨_, _, _, _, H, -⟩
  simp [impl_each_at_impl_treeRows_3.l1] at H
 ·
  rintro n1 ih1 tm S ⟨hle, x7_1, x14_1, pv2, H, hh, h2⟩
  simp only [impl_each_at_impl_treeRows_3.l1] at H
  rw [hh.eq]
  refine Evr.sr rfl (Opl.p1 (n := Opl.nil (Evr.seq ?_)))
  by_cases c3 : x14_1 < (l0.length : Int)
  case neg =>
   rw [if_neg c3] at H
   have e2 : (decide (x14_1 < (l0.length : Int))) = false := by simpa using c3
   try rw [e2]
   refine Evr.condF rfl (Evr.exit rfl (Evr.sr rfl (Opl.p1 (n := Opl.p1 (n := Opl.nil ?_)))))
   obtain rfl := Option.some.inj H
   refine Evr.ret1 Try.func98 rfl ?_
   show Vec _ _ pv2 _
   exact h2
  rw [if_pos c3] at H
  have e1 : (decide (x14_1 < (l0.length : Int))) = true := by simpa using c3
  try rw [e1]
  refine Evr.condT rfl (Evr.skip (Evr.seq (Evr.block (Evr.sr rfl (Opl.p1 (n := Opl.p1 (n := Opl.nil (Evr.regionL [(6, .p), (10, .p)] rfl (by kernel_rfl) (Opl.p1 (n := Opl.p1 (n := Opl.p1 (n := Opl.p1 (n := Opl.p1 (n := ?_))))))))))))))
  obtain ⟨c4, H⟩ := peel H
  obtain ⟨c5, H⟩ := peel H
  obtain ⟨c6, H⟩ := peel H
  obtain ⟨c7, H⟩ := peel H
  refine Opl.idx (M := cBool) (xs := l0) (j := x14_1) false (by exact hv0) rfl (by omega) (by omega) K78 Z4 rfl rfl ?_
  rintro p1 q1 h3
  obtain rfl : p1 = [.lit (.bool (rdOf false l0 x14_1))] := h3
  refine Opl.ldp (.lit (.bool (rdOf false l0 x14_1))) rfl T4 rfl rfl rfl (Opl.p1 (n := Opl.p1 (n := Opl.idx (M := cBool) (xs := l1) (j := x14_1) false (by exact hv1) rfl (by omega) (by omega) K78 Z4 rfl rfl ?_)))
  rintro p2 q2 h4
  obtain rfl : p2 = [.lit (.bool (rdOf false l1 x14_1))] := h4
  refine Opl.ldp (.lit (.bool (rdOf false l1 x14_1))) rfl T4 rfl rfl rfl ?_
  obtain ⟨r1, h_r1, H⟩ := Option.bind_eq_some_iff.1 H
  refine Opl.callc (impl_treeRows_3.ev h_r1) rfl rfl rfl rfl ⟨(.lit _), (.lit _), trivial⟩ (by decide) ?_
  obtain ⟨c8, H⟩ := peel H
  obtain ⟨c9, H⟩ := peel H
  refine Opl.idv (M := cBool) (xs := x7_1) (j := x14_1) (v := pv2) h2 rfl rfl (by omega) (by omega) K78 Z4 rfl rfl ?_
  rintro d1 z1 q3 h5 h6
  refine Opl.stv (M := cBool) (xs := x7_1) (j := x14_1) (y := r1) (vs := [.lit (.bool r1)]) h5 h6 (by omega) (by omega) rfl rfl (by exact rfl) Z4 rfl rfl rfl rfl ?_
  rw [← q3]
  rintro S h7 u2
  refine Opl.nil (Evr.inBlock (Evr.regionN rfl (Opl.add (k := .i64) (a := x14_1) (b := 1) K3 rfl rfl rfl rfl (Opl.one (v := .lit (.int .i64 (wrap64 (x14_1 + 1)))) rfl rfl rfl (Opl.nil ?_)))))
  exact ih1 _ (by omega) _ _ ⟨by omega, _, _, _, H, ⟨rfl, rfl, rfl, rfl, rfl, rfl, trivial⟩, h7⟩
theorem impl_treeRows_4.ev {a0 : Bool} {a1 : Bool} {r : Bool} (H : impl_treeRows_4.f a0 a1 = some r) : Ret Try.prog 105 [.lit (.bool a0), .lit (.bool a1)] fun v S => v = .lit (.bool r) := by
 unfold impl_treeRows_4.f at H
 refine Ret.intro Try.func105 rfl (Nat.le_of_ble_eq_true rfl) rfl ?_
 rw [tm2]
 refine Evr.sr rfl (Opl.p1 (n := Opl.nil (Evr.sr rfl (Opl.p1 (n := Opl.p1 (n := ?_))))))
 by_cases c1 : a0 = true
 case neg =>
  rw [if_neg c1] at H
  obtain rfl : a0 = false := by simpa using c1
  refine Opl.p1 (n := Opl.p1 (n := Opl.p1 (n := Opl.nil ?_)))
  obtain rfl := Option.some.inj H
  refine Evr.ret1 Try.func105 rfl ?_
  show (.lit (.bool a1) : PV) = _
  first | rfl | (simp only [go_sem]; rfl)
 rw [if_pos c1] at H
 obtain rfl : a0 = true := by simpa using c1
 refine Opl.skp rfl (Opl.p1 (n := Opl.p1 (n := Opl.nil ?_)))
 obtain rfl := Option.some.inj H
 refine Evr.ret1 Try.func105 rfl ?_
 show (.lit (.bool true) : PV) = _
 first | rfl | (simp only [go_sem]; rfl)
theorem impl_each_at_impl_treeRows_4.ev {k : Nat} {l0 : List Bool} {v0 : PV} (hv0 : Sl cBool l0 v0) {l1 : List Bool} {v1 : PV} (hv1 : Sl cBool l1 v1) {r : (List Bool)} (H : impl_each_at_impl_treeRows_4.f k l0 l1 = some r) : Ret Try.prog 98 [v0, v1, .lit (.func (.func 105) #[] #[])] fun v S => Vec cBool r v S := by
 unfold impl_each_at_impl_treeRows_4.f at H
 refine Ret.intro Try.func98 rfl (Nat.le_of_ble_eq_true rfl) rfl ?_
 rw [tm3]
 refine Evr.sr rfl (Opl.p1 (n := Opl.nil (Evr.sr rfl (Opl.p1 (n := Opl.len (xs := l0) (by exact hv0) K78 rfl rfl rfl rfl ?_)))))
 obtain ⟨c1, H⟩ := peel H
 obtain ⟨c2, H⟩ := peel H
 refine Opl.make (M := cBool) (m := (l0.length : Int)) false (by exact rfl) rfl rfl K78 T4 rfl (by omega) (by show ((l0.length : Int)).toNat * 1 ≤ 281474976710656; omega) (by omega) rfl rfl rfl ?_
 rintro pv1 S h1 u1 w1
 refine Opl.p1 (n := Opl.nil (Evr.seq (Evr.sr rfl (Opl.p1 (n := Opl.len (xs := l0) (by exact hv0) K78 rfl rfl rfl rfl (Opl.p1 (n := Opl.nil (Evr.block ?_))))))))
 refine Evr.loop (Evr.rounds (n := k) (Inv := fun n tm S => n ≤ k ∧ ∃ (x7_1 : List Bool) (x14_1 : Int) (pv2 : PV), impl_each_at_impl_treeRows_4.l1 n x7_1 x14_1 l0 l1 = some r ∧ Has tm [(0, v0), (1, v1), (2, .lit (.func (.func 105) #[] #[])), (7, pv2), (13, .lit (.int .i64 (l0.length : Int))), (14, .lit (.int .i64 x14_1))] ∧ Vec cBool x7_1 pv2 S) ?_ ?_ ?_)
 · exact ⟨Nat.le_refl _, _, _, _, H, ⟨rfl, rfl, rfl, rfl, rfl, rfl, trivial⟩, h1⟩
 ·
  rintro tm S ⟨_, _, _, _, H, -⟩
  simp [impl_each_at_impl_treeRows_4.l1] at H
 ·
  rintro n1 ih1 tm S ⟨hle, x7_1, x14_1, pv2, H, hh, h2⟩
  simp only [impl_each_at_impl_treeRows_4.l1] at H
  rw [hh.eq]
  refine Evr.sr rfl (Opl.p1 (n := Opl.nil (Evr.seq ?_)))
  by_cases c3 : x14_1 < (l0.length : Int)
  case neg =>
   rw [if_neg c3] at H
   have e2 : (decide (x14_1 < (l0.length : Int))) = false := by simpa using c3
   try rw [e2]
   refine Evr.condF rfl (Evr.exit rfl (Evr.sr rfl (Opl.p1 (n := Opl.p1 (n := Opl.nil ?_)))))
   obtain rfl := Option.some.inj H
   refine Evr.ret1 Try.func98 rfl ?_
   show Vec _ _ pv2 _
   exact h2
  rw [if_pos c3] at H
  have e1 : (decide (x14_1 < (l0.length : Int))) = true := by simpa using c3
  try rw [e1]
  refine Evr.condT rfl (Evr.skip (Evr.seq (Evr.block (Evr.sr rfl (Opl.p1 (n := Opl.p1 (n := Opl.nil (Evr.regionL [(6, .p), (10, .p)] rfl (by kernel_rfl) (Opl.p1 (n := Opl.p1 (n := Opl.p1 (n := Opl.p1 (n := Opl.p1 (n := ?_))))))))))))))
  obtain ⟨c4, H⟩ := peel H
  obtain ⟨c5, H⟩ := peel H
  obtain ⟨c6, H⟩ := peel H
  obtain ⟨c7, H⟩ := peel H
  refine Opl.idx (M := cBool) (xs := l0) (j := x14_1) false (by exact hv0) rfl (by omega) (by omega) K78 Z4 rfl rfl ?_
  rintro p1 q1 h3
  obtain rfl : p1 = [.lit (.bool (rdOf false l0 x14_1))] := h3
  refine Opl.ldp (.lit (.bool (rdOf false l0 x14_1))) rfl T4 rfl rfl rfl (Opl.p1 (n := Opl.p1 (n := Opl.idx (M := cBool) (xs := l1) (j := x14_1) false (by exact hv1) rfl (by omega) (by omega) K78 Z4 rfl rfl ?_)))
  rintro p2 q2 h4
  obtain rfl : p2 = [.lit (.bool (rdOf false l1 x14_1))] := h4
  refine Opl.ldp (.lit (.bool (rdOf false l1 x14_1))) rfl T4 rfl rfl rfl ?_
  obtain ⟨r1, h_r1, H⟩ := Option.bind_eq_some_iff.1 H
  refine Opl.callc (impl_treeRows_4.ev h_r1) rfl rfl rfl rfl ⟨(.lit _), (.lit _), trivial⟩ (by decide) ?_
  obtain ⟨c8, H⟩ := peel H
  obtain ⟨c9, H⟩ := peel H
  refine Opl.idv (M := cBool) (xs := x7_1) (j := x14_1) (v := pv2) h2 rfl rfl (by omega) (by omega) K78 Z4 rfl rfl ?_
  rintro d1 z1 q3 h5 h6
  refine Opl.stv (M := cBool) (xs := x7_1) (j := x14_1) (y := r1) (vs := [.lit (.bool r1)]) h5 h6 (by omega) (by omega) rfl rfl (by exact rfl) Z4 rfl rfl rfl rfl ?_
  rw [← q3]
  rintro S h7 u2
  refine Opl.nil (Evr.inBlock (Evr.regionN rfl (Opl.add (k := .i64) (a := x14_1) (b := 1) K3 rfl rfl rfl rfl (Opl.one (v := .lit (.int .i64 (wrap64 (x14_1 + 1)))) rfl rfl rfl (Opl.nil ?_)))))
  exact ih1 _ (by omega) _ _ ⟨by omega, _, _, _, H, ⟨rfl, rfl, rfl, rfl, rfl, rfl, trivial⟩, h7⟩
theorem impl_not_1.ev {a0 : Bool} {a1 : Bool} {r : Bool} (H : impl_not_1.f a0 a1 = some r) : Ret Try.prog 122 [.lit (.bool a0), .lit (.bool a1)] fun v S => v = .lit (.bool r) := by
 unfold impl_not_1.f at H
 refine Ret.intro Try.func122 rfl (Nat.le_of_ble_eq_true rfl) rfl ?_
 rw [tm2]
 refine Evr.sr rfl (Opl.p1 (n := Opl.nil (Evr.sr rfl (Opl.p1 (n := Opl.p1 (n := Opl.p1 (n := Opl.nil ?_)))))))
 obtain rfl := Option.some.inj H
 refine Evr.ret1 Try.func122 rfl ?_
 show (.lit (.bool (!a0)) : PV) = _
 first | rfl | (simp only [go_sem]; rfl)
theorem loop_example_wholecheck_impl_each_at_impl_not_1.ev {k : Nat} {l0 : List Bool} {v0 : PV} (hv0 : Sl cBool l0 v0) {l1 : List Bool} {v1 : PV} (hv1 : Sl cBool l1 v1) {r : (List Bool)} (H : loop_example_wholecheck_impl_each_at_impl_not_1.f k l0 l1 = some r) : Ret Try.prog 98 [v0, v1, .lit (.func (.func 122) #[] #[])] fun v S => Vec cBool r v S := by
 unfold loop_example_wholecheck_impl_each_at_impl_not_1.f at H
 refine Ret.intro Try.func98 rfl (Nat.le_of_ble_eq_true rfl) rfl ?_
 rw [tm3]
 refine Evr.sr rfl (Opl.p1 (n := Opl.nil (Evr.sr rfl (Opl.p1 (n := Opl.len (xs := l0) (by exact hv0) K78 rfl rfl rfl rfl ?_)))))
 obtain ⟨c1, H⟩ := peel H
 obtain ⟨c2, H⟩ := peel H
 refine Opl.make (M := cBool) (m := (l0.length : Int)) false (by exact rfl) rfl rfl K78 T4 rfl (by omega) (by show ((l0.length : Int)).toNat * 1 ≤ 281474976710656; omega) (by omega) rfl rfl rfl ?_
 rintro pv1 S h1 u1 w1
 refine Opl.p1 (n := Opl.nil (Evr.seq (Evr.sr rfl (Opl.p1 (n := Opl.len (xs := l0) (by exact hv0) K78 rfl rfl rfl rfl (Opl.p1 (n := Opl.nil (Evr.block ?_))))))))
 refine Evr.loop (Evr.rounds (n := k) (Inv := fun n tm S => n ≤ k ∧ ∃ (x7_1 : List Bool) (x14_1 : Int) (pv2 : PV), loop_example_wholecheck_impl_each_at_impl_not_1.l0 n l0 l1 x7_1 (l0.length : Int) x14_1 = some r ∧ Has tm [(0, v0), (1, v1), (2, .lit (.func (.func 122) #[] #[])), (7, pv2), (13, .lit (.int .i64 (l0.length : Int))), (14, .lit (.int .i64 x14_1))] ∧ Vec cBool x7_1 pv2 S) ?_ ?_ ?_)
 · exact ⟨Nat.le_refl _, _, _, _, H, ⟨rfl, rfl, rfl, rfl, rfl, rfl, trivial⟩, h1⟩
 ·
  rintro tm S ⟨_, _, _, _, H, -⟩
  simp [loop_example_wholecheck_impl_each_at_impl_not_1.l0] at H
 ·
  rintro n1 ih1 tm S ⟨hle, x7_1, x14_1, pv2, H, hh, h2⟩
  simp only [loop_example_wholecheck_impl_each_at_impl_not_1.l0] at H
  rw [hh.eq]
  refine Evr.sr rfl (Opl.p1 (n := Opl.nil (Evr.seq ?_)))
  by_cases c3 : x14_1 < (l0.length : Int)
  case neg =>
   rw [if_neg c3] at H
   have e2 : (decide (x14_1 < (l0.length : Int))) = false := by simpa using c3
   try rw [e2]
   refine Evr.condF rfl (Evr.exit rfl (Evr.sr rfl (Opl.p1 (n := Opl.p1 (n := Opl.nil ?_)))))
   obtain rfl := Option.some.inj H
   refine Evr.ret1 Try.func98 rfl ?_
   show Vec _ _ pv2 _
   exact h2
  rw [if_pos c3] at H
  have e1 : (decide (x14_1 < (l0.length : Int))) = true := by simpa using c3
  try rw [e1]
  refine Evr.condT rfl (Evr.skip (Evr.seq (Evr.block (Evr.sr rfl (Opl.p1 (n := Opl.p1 (n := Opl.nil (Evr.regionD rfl (by kernel_rfl) (Opl.p1 (n := Opl.p1 (n := Opl.p1 (n := Opl.p1 (n := Opl.p1 (n := ?_))))))))))))))
  obtain ⟨c4, H⟩ := peel H
  obtain ⟨c5, H⟩ := peel H
  obtain ⟨c6, H⟩ := peel H
  refine Opl.idx (M := cBool) (xs := l0) (j := x14_1) false (by exact hv0) rfl (by omega) (by omega) K78 Z4 rfl rfl ?_
  rintro p1 q1 h3
  obtain rfl : p1 = [.lit (.bool (rdOf false l0 x14_1))] := h3
  refine Opl.lda (.lit (.bool (rdOf false l0 x14_1))) rfl T4 rfl rfl rfl rfl (Opl.p1 (n := Opl.p1 (n := Opl.idx (M := cBool) (xs := l1) (j := x14_1) false (by exact hv1) rfl (by omega) (by omega) K78 Z4 rfl rfl ?_)))
  rintro p2 q2 h4
  obtain rfl : p2 = [.lit (.bool (rdOf false l1 x14_1))] := h4
  refine Opl.lda (.lit (.bool (rdOf false l1 x14_1))) rfl T4 rfl rfl rfl rfl ?_
  obtain ⟨t575, h_t575, H⟩ := Option.bind_eq_some_iff.1 H
  refine Opl.callc (impl_not_1.ev h_t575) rfl rfl rfl rfl ⟨(.lit _), (.lit _), trivial⟩ (by decide) ?_
  obtain ⟨c7, H⟩ := peel H
  refine Opl.idv (M := cBool) (xs := x7_1) (j := x14_1) (v := pv2) h2 rfl rfl (by omega) (by omega) K78 Z4 rfl rfl ?_
  rintro d1 z1 q3 h5 h6
  refine Opl.stv (M := cBool) (xs := x7_1) (j := x14_1) (y := t575) (vs := [.lit (.bool t575)]) h5 h6 (by omega) (by omega) rfl rfl (by exact rfl) Z4 rfl rfl rfl rfl ?_
  rw [← q3]
  rintro S h7 u2
  refine Opl.nil (Evr.inBlock (Evr.regionN rfl (Opl.add (k := .i64) (a := x14_1) (b := 1) K3 rfl rfl rfl rfl (Opl.one (v := .lit (.int .i64 (wrap64 (x14_1 + 1)))) rfl rfl rfl (Opl.nil ?_)))))
  exact ih1 _ (by omega) _ _ ⟨by omega, _, _, _, H, ⟨rfl, rfl, rfl, rfl, rfl, rfl, trivial⟩, h7⟩
theorem impl_not.ev {k : Nat} {l0 : List Bool} {v0 : PV} (hv0 : Sl cBool l0 v0) {r : (List Bool)} (H : impl_not.f k l0 = some r) : Ret Try.prog 97 [v0] fun v S => Vec cBool r v S := by
 unfold impl_not.f at H
 refine Ret.intro Try.func97 rfl (Nat.le_of_ble_eq_true rfl) rfl ?_
 rw [tm1]
 refine Evr.sr rfl (Opl.p1 (n := Opl.nil (Evr.sr rfl (Opl.p1 (n := Opl.p1 (n := ?_))))))
 obtain ⟨t577, h_t577, H⟩ := Option.bind_eq_some_iff.1 H
 refine Opl.calla (loop_example_wholecheck_impl_each_at_impl_not_1.ev hv0 hv0 h_t577) rfl rfl rfl rfl ⟨hv0.plain, hv0.plain, (.lit _), trivial⟩ rfl ?_
 rintro pv1 S h1 u1 w1
 refine Opl.p1 (n := Opl.nil ?_)
 obtain rfl := Option.some.inj H
 refine Evr.ret1 Try.func97 rfl ?_
 show Vec _ _ pv1 _
 exact h1
theorem impl_some_1.ev {k : Nat} {a0 : Int} {l1 : List Bool} {v1 : PV} (hv1 : Sl cBool l1 v1) {r : Bool} (H : impl_some_1.f k a0 l1 = some r) : Ret Try.prog 121 [.lit (.int .i64 a0), .fel (v1 :: [])] fun v S => v = .lit (.bool r) := by
 unfold impl_some_1.f at H
 refine Ret.intro Try.func121 rfl (Nat.le_of_ble_eq_true rfl) rfl ?_
 rw [tm2]
 refine Evr.sr rfl (Opl.p1 (n := Opl.nil (Evr.sr rfl (Opl.lda (v1) rfl T78 rfl rfl rfl rfl (Opl.p1 (n := ?_))))))
 obtain ⟨c1, H⟩ := peel H
 obtain ⟨c2, H⟩ := peel H
 refine Opl.idx (M := cBool) (xs := l1) (j := a0) false (by exact hv1) rfl (by omega) (by omega) K78 Z4 rfl rfl ?_
 rintro p1 q1 h1
 obtain rfl : p1 = [.lit (.bool (rdOf false l1 a0))] := h1
 refine Opl.lda (.lit (.bool (rdOf false l1 a0))) rfl T4 rfl rfl rfl rfl (Opl.p1 (n := Opl.nil ?_))
 obtain rfl := Option.some.inj H
 refine Evr.ret1 Try.func121 rfl ?_
 show (.lit (.bool (rdOf false l1 a0)) : PV) = _
 first | rfl | (simp only [go_sem]; rfl)
theorem slices_IndexFunc_int_int_at_impl_some_1.ev {k : Nat} {l0 : List Int} {v0 : PV} (hv0 : Sl (cInt .i64) l0 v0) {l2 : List Bool} {v2 : PV} (hv2 : Sl cBool l2 v2) {r : Int} (H : slices_IndexFunc_int_int_at_impl_some_1.f k l0 l2 = some r) : Ret Try.prog 126 [v0, .fn 121 [.fel (v2 :: [])]] fun v S => v = .lit (.int .i64 r) := by
 unfold slices_IndexFunc_int_int_at_impl_some_1.f at H
 refine Ret.intro Try.func126 rfl (Nat.le_of_ble_eq_true rfl) rfl ?_
 rw [tm2]
 refine Evr.sr rfl (Opl.p1 (n := Opl.nil (Evr.seq (Evr.sr rfl (Opl.p1 (n := Opl.len (xs := l0) (by exact hv0) K26 rfl rfl rfl rfl (Opl.p1 (n := Opl.nil (Evr.block ?_)))))))))
 refine Evr.loop (Evr.rounds (n := k) (Inv := fun n tm S => n ≤ k ∧ ∃ (x8_1 : Int), slices_IndexFunc_int_int_at_impl_some_1.l1 n x8_1 l0 l2 = some r ∧ Has tm [(0, v0), (1, .fn 121 [.fel (v2 :: [])]), (7, .lit (.int .i64 (l0.length : Int))), (8, .lit (.int .i64 x8_1))]) ?_ ?_ ?_)
 · exact ⟨Nat.le_refl _, _, H, ⟨rfl, rfl, rfl, rfl, trivial⟩⟩
 ·
  rintro tm S ⟨_, _, H, -⟩
  simp [slices_IndexFunc_int_int_at_impl_some_1.l1] at H
 ·
  rintro n1 ih1 tm S ⟨hle, x8_1, H, hh⟩
  simp only [slices_IndexFunc_int_int_at_impl_some_1.l1] at H
  rw [hh.eq]
  refine Evr.sr rfl (Opl.p1 (n := Opl.nil (Evr.seq ?_)))
  by_cases c1 : x8_1 < (l0.length : Int)
  case neg =>
   rw [if_neg c1] at H
   have e2 : (decide (x8_1 < (l0.length : Int))) = false := by simpa using c1
   try rw [e2]
   refine Evr.condF rfl (Evr.exit rfl (Evr.sr rfl (Opl.p1 (n := Opl.nil ?_))))
   obtain rfl := Option.some.inj H
   refine Evr.ret1 Try.func126 rfl ?_
   show (.lit (.int .i64 (-1)) : PV) = _
   first | rfl | (simp only [go_sem]; rfl)
  rw [if_pos c1] at H
  have e1 : (decide (x8_1 < (l0.length : Int))) = true := by simpa using c1
  try rw [e1]
  refine Evr.condT rfl (Evr.skip (Evr.seq (Evr.block (Evr.sr rfl (Opl.p1 (n := Opl.p1 (n := Opl.nil (Evr.sr rfl (Opl.p1 (n := Opl.p1 (n := Opl.p1 (n := ?_))))))))))))
  obtain ⟨c2, H⟩ := peel H
  obtain ⟨c3, H⟩ := peel H
  refine Opl.idx (M := (cInt .i64)) (xs := l0) (j := x8_1) (0 : Int) (by exact hv0) rfl (by omega) (by omega) K26 Z3 rfl rfl ?_
  rintro p1 q1 h1
  obtain rfl : p1 = [.lit (.int .i64 (rd l0 x8_1))] := h1
  refine Opl.lda (.lit (.int .i64 (rd l0 x8_1))) rfl T3 rfl rfl rfl rfl ?_
  obtain ⟨r1, h_r1, H⟩ := Option.bind_eq_some_iff.1 H
  refine Opl.callc (impl_some_1.ev hv2 h_r1) rfl rfl rfl rfl ⟨(.lit _), (.felL ⟨hv2.plain, trivial⟩), trivial⟩ (by decide) (Opl.nil ?_)
  by_cases c4 : r1 = true
  case pos =>
   rw [if_pos c4] at H
   obtain rfl : r1 = true := by simpa using c4
   refine Evr.condT rfl (Evr.sr rfl (Opl.p1 (n := Opl.p1 (n := Opl.nil ?_))))
   obtain rfl := Option.some.inj H
   refine Evr.ret1 Try.func126 rfl ?_
   show (.lit (.int .i64 x8_1) : PV) = _
   first | rfl | (simp only [go_sem]; rfl)
  rw [if_neg c4] at H
  obtain rfl : r1 = false := by simpa using c4
  refine Evr.condF rfl (Evr.skip (Evr.inBlock (Evr.regionN rfl (Opl.add (k := .i64) (a := x8_1) (b := 1) K3 rfl rfl rfl rfl (Opl.one (v := .lit (.int .i64 (wrap64 (x8_1 + 1)))) rfl rfl rfl (Opl.nil ?_))))))
  exact ih1 _ (by omega) _ _ ⟨by omega, _, H, ⟨rfl, rfl, rfl, rfl, trivial⟩⟩
theorem slices_ContainsFunc_int_int_at_impl_some_1.ev {k : Nat} {l0 : List Int} {v0 : PV} (hv0 : Sl (cInt .i64) l0 v0) {l2 : List Bool} {v2 : PV} (hv2 : Sl cBool l2 v2) {r : Bool} (H : slices_ContainsFunc_int_int_at_impl_some_1.f k l0 l2 = some r) : Ret Try.prog 120 [v0, .fn 121 [.fel (v2 :: [])]] fun v S => v = .lit (.bool r) := by
 unfold slices_ContainsFunc_int_int_at_impl_some_1.f at H
 refine Ret.intro Try.func120 rfl (Nat.le_of_ble_eq_true rfl) rfl ?_
 rw [tm2]
 refine Evr.sr rfl (Opl.p1 (n := Opl.nil (Evr.sr rfl (Opl.p1 (n := Opl.p1 (n := ?_))))))
 obtain ⟨r1, h_r1, H⟩ := Option.bind_eq_some_iff.1 H
 refine Opl.callc (slices_IndexFunc_int_int_at_impl_some_1.ev hv0 hv2 h_r1) rfl rfl rfl rfl ⟨hv0.plain, (.fnL ⟨(.felL ⟨hv2.plain, trivial⟩), trivial⟩), trivial⟩ (by decide) (Opl.p1 (n := Opl.p1 (n := Opl.nil ?_)))
 obtain rfl := Option.some.inj H
 refine Evr.ret1 Try.func120 rfl ?_
 show (.lit (.bool (decide (r1 ≥ 0))) : PV) = _
 first | rfl | (simp only [go_sem]; rfl)
theorem impl_some.ev {k : Nat} {l0 : List (List Int)} {v0 : PV} (hv0 : Sl (cSl (cInt .i64)) l0 v0) {l1 : List Bool} {v1 : PV} (hv1 : Sl cBool l1 v1) {r : (List Bool)} (H : impl_some.f k l0 l1 = some r) : Ret Try.prog 96 [v0, v1] fun v S => Vec cBool r v S := by
 unfold impl_some.f at H
 refine Ret.intro Try.func96 rfl (Nat.le_of_ble_eq_true rfl) rfl ?_
 rw [tm2]
 refine Evr.sr rfl (Opl.box (cs := [v1]) (by exact hv1.cells) rfl rfl rfl ?_)
 rintro i1 S h1 u1 w1
 refine Opl.p1 (n := Opl.nil (Evr.sr rfl (Opl.p1 (n := Opl.len (xs := l0) (by exact hv0) K23 rfl rfl rfl rfl ?_))))
 obtain ⟨c1, H⟩ := peel H
 obtain ⟨c2, H⟩ := peel H
 refine Opl.make (M := cBool) (m := (l0.length : Int)) false (by exact rfl) rfl rfl K78 T4 rfl (by omega) (by show ((l0.length : Int)).toNat * 1 ≤ 281474976710656; omega) (by omega) rfl rfl rfl ?_
 rintro pv1 S h2 u2 w2
 have ap1 := w2.box h1
 have h3 := u2.box h1 ap1
 refine Opl.p1 (n := Opl.nil (Evr.seq (Evr.sr rfl (Opl.p1 (n := Opl.len (xs := l0) (by exact hv0) K23 rfl rfl rfl rfl (Opl.p1 (n := Opl.nil (Evr.block ?_))))))))
 refine Evr.loop (Evr.rounds (n := k) (Inv := fun n tm S => n ≤ k ∧ ∃ (x5_1 : List Bool) (x13_1 : Int) (i2 : Abs.Id) (pv2 : PV), impl_some.l1 n x5_1 x13_1 l0 l1 = some r ∧ Has tm [(3, .ptr i2 0), (5, pv2), (11, v0), (12, .lit (.int .i64 (l0.length : Int))), (13, .lit (.int .i64 x13_1))] ∧ Box (.ptr i2 0) [v1] S ∧ Vec cBool x5_1 pv2 S ∧ Ap (.ptr i2 0) pv2) ?_ ?_ ?_)
 · exact ⟨Nat.le_refl _, _, _, _, _, H, ⟨rfl, rfl, rfl, rfl, rfl, trivial⟩, h3, h2, ap1⟩
 ·
  rintro tm S ⟨_, _, _, _, _, H, -⟩
  simp [impl_some.l1] at H
 ·
  rintro n1 ih1 tm S ⟨hle, x5_1, x13_1, i2, pv2, H, hh, h4, h5, ap2⟩
  simp only [impl_some.l1] at H
  rw [hh.eq]
  refine Evr.sr rfl (Opl.p1 (n := Opl.nil (Evr.seq ?_)))
  by_cases c3 : x13_1 < (l0.length : Int)
  case neg =>
   rw [if_neg c3] at H
   have e2 : (decide (x13_1 < (l0.length : Int))) = false := by simpa using c3
   try rw [e2]
   refine Evr.condF rfl (Evr.exit rfl (Evr.sr rfl (Opl.p1 (n := Opl.p1 (n := Opl.nil ?_)))))
   obtain rfl := Option.some.inj H
   refine Evr.ret1 Try.func96 rfl ?_
   show Vec _ _ pv2 _
   exact h5
  rw [if_pos c3] at H
  have e1 : (decide (x13_1 < (l0.length : Int))) = true := by simpa using c3
  try rw [e1]
  refine Evr.condT rfl (Evr.skip (Evr.seq (Evr.block (Evr.sr rfl (Opl.p1 (n := ?_))))))
  obtain ⟨c4, H⟩ := peel H
  obtain ⟨c5, H⟩ := peel H
  refine Opl.idx (M := (cSl (cInt .i64))) (xs := l0) (j := x13_1) ([] : List Int) (by exact hv0) rfl (by omega) (by omega) K23 Z26 rfl rfl ?_
  rintro p1 q1 h6
  obtain ⟨pv3, rfl, h7⟩ := h6
  refine Opl.lda (pv3) rfl T26 rfl rfl rfl rfl (Opl.p1 (n := Opl.p1 (n := Opl.nil (Evr.regionN rfl (Opl.p1 (n := Opl.p1 (n := Opl.p1 (n := Opl.p1 (n := ?_)))))))))
  obtain ⟨r1, h_r1, H⟩ := Option.bind_eq_some_iff.1 H
  refine Opl.callw (slices_ContainsFunc_int_int_at_impl_some_1.ev h7 hv1 h_r1) rfl rfl rfl (.cons (.refl _) (.cons (View.fnV (.cons (View.boxV h4 (.cons (.refl _) .nil)) .nil)) .nil)) ⟨h7.plain, (.fnL ⟨(.felL ⟨hv1.plain, trivial⟩), trivial⟩), trivial⟩ (by decide) ?_
  obtain ⟨c6, H⟩ := peel H
  obtain ⟨c7, H⟩ := peel H
  refine Opl.idv (M := cBool) (xs := x5_1) (j := x13_1) (v := pv2) h5 rfl rfl (by omega) (by omega) K78 Z4 rfl rfl ?_
  rintro d1 z1 q2 h8 h9
  refine Opl.stv (M := cBool) (xs := x5_1) (j := x13_1) (y := r1) (vs := [.lit (.bool r1)]) h8 h9 (by omega) (by omega) rfl rfl (by exact rfl) Z4 rfl rfl rfl rfl ?_
  rw [← q2]
  rintro S h10 u3
  have h11 := u3.box h4 ap2
  refine Opl.nil (Evr.inBlock (Evr.regionN rfl (Opl.add (k := .i64) (a := x13_1) (b := 1) K3 rfl rfl rfl rfl (Opl.one (v := .lit (.int .i64 (wrap64 (x13_1 + 1)))) rfl rfl rfl (Opl.nil ?_)))))
  exact ih1 _ (by omega) _ _ ⟨by omega, _, _, _, _, H, ⟨rfl, rfl, rfl, rfl, rfl, trivial⟩, h11, h10, ap2⟩
theorem impl_treeRows_1_1_1.ev {k : Nat} {a0 : Bool} {a1 : Bool} {r : Bool} (H : impl_treeRows_1_1_1.f k a0 a1 = some r) : Ret Try.prog 99 [.lit (.bool a0), .lit (.bool a1)] fun v S => v = .lit (.bool r) := by
 unfold impl_treeRows_1_1_1.f at H
 refine Ret.intro Try.func99 rfl (Nat.le_of_ble_eq_true rfl) rfl ?_
 rw [tm2]
 refine Evr.sr rfl (Opl.p1 (n := Opl.nil (Evr.sr rfl (Opl.p1 (n := Opl.p1 (n := ?_))))))
 by_cases c1 : a0 = true
 case pos =>
  rw [if_pos c1] at H
  obtain rfl : a0 = true := by simpa using c1
  refine Opl.p1 (n := Opl.p1 (n := Opl.p1 (n := Opl.nil ?_)))
  obtain rfl := Option.some.inj H
  refine Evr.ret1 Try.func99 rfl ?_
  show (.lit (.bool a1) : PV) = _
  first | rfl | (simp only [go_sem]; rfl)
 rw [if_neg c1] at H
 obtain rfl : a0 = false := by simpa using c1
 refine Opl.skp rfl (Opl.p1 (n := Opl.p1 (n := Opl.nil ?_)))
 obtain rfl := Option.some.inj H
 refine Evr.ret1 Try.func99 rfl ?_
 show (.lit (.bool false) : PV) = _
 first | rfl | (simp only [go_sem]; rfl)
theorem impl_each_at_impl_treeRows_1_1_1.ev {k : Nat} {l0 : List Bool} {v0 : PV} (hv0 : Sl cBool l0 v0) {l1 : List Bool} {v1 : PV} (hv1 : Sl cBool l1 v1) {r : (List Bool)} (H : impl_each_at_impl_treeRows_1_1_1.f k l0 l1 = some r) : Ret Try.prog 98 [v0, v1, .lit (.func (.func 99) #[] #[])] fun v S => Vec cBool r v S := by
 unfold impl_each_at_impl_treeRows_1_1_1.f at H
 refine Ret.intro Try.func98 rfl (Nat.le_of_ble_eq_true rfl) rfl ?_
 rw [tm3]
 refine Evr.sr rfl (Opl.p1 (n := Opl.nil (Evr.sr rfl (Opl.p1 (n := Opl.len (xs := l0) (by exact hv0) K78 rfl rfl rfl rfl ?_)))))
 obtain ⟨c1, H⟩ := peel H
 obtain ⟨c2, H⟩ := peel H
 refine Opl.make (M := cBool) (m := (l0.length : Int)) false (by exact rfl) rfl rfl K78 T4 rfl (by omega) (by show ((l0.length : Int)).toNat * 1 ≤ 281474976710656; omega) (by omega) rfl rfl rfl ?_
 rintro pv1 S h1 u1 w1
 refine Opl.p1 (n := Opl.nil (Evr.seq (Evr.sr rfl (Opl.p1 (n := Opl.len (xs := l0) (by exact hv0) K78 rfl rfl rfl rfl (Opl.p1 (n := Opl.nil (Evr.block ?_))))))))
 refine Evr.loop (Evr.rounds (n := k) (Inv := fun n tm S => n ≤ k ∧ ∃ (x7_1 : List Bool) (x14_1 : Int) (pv2 : PV), impl_each_at_impl_treeRows_1_1_1.l1 n x7_1 x14_1 l0 l1 = some r ∧ Has tm [(0, v0), (1, v1), (2, .lit (.func (.func 99) #[] #[])), (7, pv2), (13, .lit (.int .i64 (l0.length : Int))), (14, .lit (.int .i64 x14_1))] ∧ Vec cBool x7_1 pv2 S) ?_ ?_ ?_)
 · exact ⟨Nat.le_refl _, _, _, _, H, ⟨rfl, rfl, rfl, rfl, rfl, rfl, trivial⟩, h1⟩
 ·
  rintro tm S ⟨_, _, _, _, H, -⟩
  simp [impl_each_at_impl_treeRows_1_1_1.l1] at H
 ·
  rintro n1 ih1 tm S ⟨hle, x7_1, x14_1, pv2, H, hh, h2⟩
  simp only [impl_each_at_impl_treeRows_1_1_1.l1] at H
  rw [hh.eq]
  refine Evr.sr rfl (Opl.p1 (n := Opl.nil (Evr.seq ?_)))
  by_cases c3 : x14_1 < (l0.length : Int)
  case neg =>
   rw [if_neg c3] at H
   have e2 : (decide (x14_1 < (l0.length : Int))) = false := by simpa using c3
   try rw [e2]
   refine Evr.condF rfl (Evr.exit rfl (Evr.sr rfl (Opl.p1 (n := Opl.p1 (n := Opl.nil ?_)))))
   obtain rfl := Option.some.inj H
   refine Evr.ret1 Try.func98 rfl ?_
   show Vec _ _ pv2 _
   exact h2
  rw [if_pos c3] at H
  have e1 : (decide (x14_1 < (l0.length : Int))) = true := by simpa using c3
  try rw [e1]
  refine Evr.condT rfl (Evr.skip (Evr.seq (Evr.block (Evr.sr rfl (Opl.p1 (n := Opl.p1 (n := Opl.nil (Evr.regionL [(6, .p), (10, .p)] rfl (by kernel_rfl) (Opl.p1 (n := Opl.p1 (n := Opl.p1 (n := Opl.p1 (n := Opl.p1 (n := ?_))))))))))))))
  obtain ⟨c4, H⟩ := peel H
  obtain ⟨c5, H⟩ := peel H
  obtain ⟨c6, H⟩ := peel H
  obtain ⟨c7, H⟩ := peel H
  refine Opl.idx (M := cBool) (xs := l0) (j := x14_1) false (by exact hv0) rfl (by omega) (by omega) K78 Z4 rfl rfl ?_
  rintro p1 q1 h3
  obtain rfl : p1 = [.lit (.bool (rdOf false l0 x14_1))] := h3
  refine Opl.ldp (.lit (.bool (rdOf false l0 x14_1))) rfl T4 rfl rfl rfl (Opl.p1 (n := Opl.p1 (n := Opl.idx (M := cBool) (xs := l1) (j := x14_1) false (by exact hv1) rfl (by omega) (by omega) K78 Z4 rfl rfl ?_)))
  rintro p2 q2 h4
  obtain rfl : p2 = [.lit (.bool (rdOf false l1 x14_1))] := h4
  refine Opl.ldp (.lit (.bool (rdOf false l1 x14_1))) rfl T4 rfl rfl rfl ?_
  obtain ⟨r1, h_r1, H⟩ := Option.bind_eq_some_iff.1 H
  refine Opl.callc (impl_treeRows_1_1_1.ev h_r1) rfl rfl rfl rfl ⟨(.lit _), (.lit _), trivial⟩ (by decide) ?_
  obtain ⟨c8, H⟩ := peel H
  obtain ⟨c9, H⟩ := peel H
  refine Opl.idv (M := cBool) (xs := x7_1) (j := x14_1) (v := pv2) h2 rfl rfl (by omega) (by omega) K78 Z4 rfl rfl ?_
  rintro d1 z1 q3 h5 h6
  refine Opl.stv (M := cBool) (xs := x7_1) (j := x14_1) (y := r1) (vs := [.lit (.bool r1)]) h5 h6 (by omega) (by omega) rfl rfl (by exact rfl) Z4 rfl rfl rfl rfl ?_
  rw [← q3]
  rintro S h7 u2
  refine Opl.nil (Evr.inBlock (Evr.regionN rfl (Opl.add (k := .i64) (a := x14_1) (b := 1) K3 rfl rfl rfl rfl (Opl.one (v := .lit (.int .i64 (wrap64 (x14_1 + 1)))) rfl rfl rfl (Opl.nil ?_)))))
  exact ih1 _ (by omega) _ _ ⟨by omega, _, _, _, H, ⟨rfl, rfl, rfl, rfl, rfl, rfl, trivial⟩, h7⟩
theorem impl_treeRows_1_1_2.ev {k : Nat} {a0 : Bool} {a1 : Bool} {r : Bool} (H : impl_treeRows_1_1_2.f k a0 a1 = some r) : Ret Try.prog 100 [.lit (.bool a0), .lit (.bool a1)] fun v S => v = .lit (.bool r) := by
 unfold impl_treeRows_1_1_2.f at H
 refine Ret.intro Try.func100 rfl (Nat.le_of_ble_eq_true rfl) rfl ?_
 rw [tm2]
 refine Evr.sr rfl (Opl.p1 (n := Opl.nil (Evr.sr rfl (Opl.p1 (n := Opl.p1 (n := ?_))))))
 by_cases c1 : a0 = true
 case neg =>
  rw [if_neg c1] at H
  obtain rfl : a0 = false := by simpa using c1
  refine Opl.p1 (n := Opl.p1 (n := Opl.p1 (n := Opl.nil ?_)))
  obtain rfl := Option.some.inj H
  refine Evr.ret1 Try.func100 rfl ?_
  show (.lit (.bool a1) : PV) = _
  first | rfl | (simp only [go_sem]; rfl)
 rw [if_pos c1] at H
 obtain rfl : a0 = true := by simpa using c1
 refine Opl.skp rfl (Opl.p1 (n := Opl.p1 (n := Opl.nil ?_)))
 obtain rfl := Option.some.inj H
 refine Evr.ret1 Try.func100 rfl ?_
 show (.lit (.bool true) : PV) = _
 first | rfl | (simp only [go_sem]; rfl)
theorem impl_each_at_impl_treeRows_1_1_2.ev {k : Nat} {l0 : List Bool} {v0 : PV} (hv0 : Sl cBool l0 v0) {l1 : List Bool} {v1 : PV} (hv1 : Sl cBool l1 v1) {r : (List Bool)} (H : impl_each_at_impl_treeRows_1_1_2.f k l0 l1 = some r) : Ret Try.prog 98 [v0, v1, .lit (.func (.func 100) #[] #[])] fun v S => Vec cBool r v S := by
 unfold impl_each_at_impl_treeRows_1_1_2.f at H
 refine Ret.intro Try.func98 rfl (Nat.le_of_ble_eq_true rfl) rfl ?_
 rw [tm3]
 refine Evr.sr rfl (Opl.p1 (n := Opl.nil (Evr.sr rfl (Opl.p1 (n := Opl.len (xs := l0) (by exact hv0) K78 rfl rfl rfl rfl ?_)))))
 obtain ⟨c1, H⟩ := peel H
 obtain ⟨c2, H⟩ := peel H
 refine Opl.make (M := cBool) (m := (l0.length : Int)) false (by exact rfl) rfl rfl K78 T4 rfl (by omega) (by show ((l0.length : Int)).toNat * 1 ≤ 281474976710656; omega) (by omega) rfl rfl rfl ?_
 rintro pv1 S h1 u1 w1
 refine Opl.p1 (n := Opl.nil (Evr.seq (Evr.sr rfl (Opl.p1 (n := Opl.len (xs := l0) (by exact hv0) K78 rfl rfl rfl rfl (Opl.p1 (n := Opl.nil (Evr.block ?_))))))))
 refine Evr.loop (Evr.rounds (n := k) (Inv := fun n tm S => n ≤ k ∧ ∃ (x7_1 : List Bool) (x14_1 : Int) (pv2 : PV), impl_each_at_impl_treeRows_1_1_2.l1 n x7_1 x14_1 l0 l1 = some r ∧ Has tm [(0, v0), (1, v1), (2, .lit (.func (.func 100) #[] #[])), (7, pv2), (13, .lit (.int .i64 (l0.length : Int))), (14, .lit (.int .i64 x14_1))] ∧ Vec cBool x7_1 pv2 S) ?_ ?_ ?_)
 · exact ⟨Nat.le_refl _, _, _, _, H, ⟨rfl, rfl, rfl, rfl, rfl, rfl, trivial⟩, h1⟩
 ·
  rintro tm S ⟨_, _, _, _, H, -⟩
  simp [impl_each_at_impl_treeRows_1_1_2.l1] at H
 ·
  rintro n1 ih1 tm S ⟨hle, x7_1, x14_1, pv2, H, hh, h2⟩
  simp only [impl_each_at_impl_treeRows_1_1_2.l1] at H
  rw [hh.eq]
  refine Evr.sr rfl (Opl.p1 (n := Opl.nil (Evr.seq ?_)))
  by_cases c3 : x14_1 < (l0.length : Int)
  case neg =>
   rw [if_neg c3] at H
   have e2 : (decide (x14_1 < (l0.length : Int))) = false := by simpa using c3
   try rw [e2]
   refine Evr.condF rfl (Evr.exit rfl (Evr.sr rfl (Opl.p1 (n := Opl.p1 (n := Opl.nil ?_)))))
   obtain rfl := Option.some.inj H
   refine Evr.ret1 Try.func98 rfl ?_
   show Vec _ _ pv2 _
   exact h2
  rw [if_pos c3] at H
  have e1 : (decide (x14_1 < (l0.length : Int))) = true := by simpa using c3
  try rw [e1]
  refine Evr.condT rfl (Evr.skip (Evr.seq (Evr.block (Evr.sr rfl (Opl.p1 (n := Opl.p1 (n := Opl.nil (Evr.regionL [(6, .p), (10, .p)] rfl (by kernel_rfl) (Opl.p1 (n := Opl.p1 (n := Opl.p1 (n := Opl.p1 (n := Opl.p1 (n := ?_))))))))))))))
  obtain ⟨c4, H⟩ := peel H
  obtain ⟨c5, H⟩ := peel H
  obtain ⟨c6, H⟩ := peel H
  obtain ⟨c7, H⟩ := peel H
  refine Opl.idx (M := cBool) (xs := l0) (j := x14_1) false (by exact hv0) rfl (by omega) (by omega) K78 Z4 rfl rfl ?_
  rintro p1 q1 h3
  obtain rfl : p1 = [.lit (.bool (rdOf false l0 x14_1))] := h3
  refine Opl.ldp (.lit (.bool (rdOf false l0 x14_1))) rfl T4 rfl rfl rfl (Opl.p1 (n := Opl.p1 (n := Opl.idx (M := cBool) (xs := l1) (j := x14_1) false (by exact hv1) rfl (by omega) (by omega) K78 Z4 rfl rfl ?_)))
  rintro p2 q2 h4
  obtain rfl : p2 = [.lit (.bool (rdOf false l1 x14_1))] := h4
  refine Opl.ldp (.lit (.bool (rdOf false l1 x14_1))) rfl T4 rfl rfl rfl ?_
  obtain ⟨r1, h_r1, H⟩ := Option.bind_eq_some_iff.1 H
  refine Opl.callc (impl_treeRows_1_1_2.ev h_r1) rfl rfl rfl rfl ⟨(.lit _), (.lit _), trivial⟩ (by decide) ?_
  obtain ⟨c8, H⟩ := peel H
  obtain ⟨c9, H⟩ := peel H
  refine Opl.idv (M := cBool) (xs := x7_1) (j := x14_1) (v := pv2) h2 rfl rfl (by omega) (by omega) K78 Z4 rfl rfl ?_
  rintro d1 z1 q3 h5 h6
  refine Opl.stv (M := cBool) (xs := x7_1) (j := x14_1) (y := r1) (vs := [.lit (.bool r1)]) h5 h6 (by omega) (by omega) rfl rfl (by exact rfl) Z4 rfl rfl rfl rfl ?_
  rw [← q3]
  rintro S h7 u2
  refine Opl.nil (Evr.inBlock (Evr.regionN rfl (Opl.add (k := .i64) (a := x14_1) (b := 1) K3 rfl rfl rfl rfl (Opl.one (v := .lit (.int .i64 (wrap64 (x14_1 + 1)))) rfl rfl rfl (Opl.nil ?_)))))
  exact ih1 _ (by omega) _ _ ⟨by omega, _, _, _, H, ⟨rfl, rfl, rfl, rfl, rfl, rfl, trivial⟩, h7⟩
theorem impl_treeRows_1_1.ev {k : Nat} {l0 : List Bool} {v0 : PV} (hv0 : Sl cBool l0 v0) {l1 : List (List Int)} {v1 : PV} (hv1 : Sl (cSl (cInt .i64)) l1 v1) {a2 : Bool} {l3 : List Bool} {v3 : PV} (hv3 : Sl cBool l3 v3) {l4 : List Bool} {v4 : PV} (hv4 : Sl cBool l4 v4) {r : (List Bool)} (H : impl_treeRows_1_1.f k l0 l1 a2 l3 l4 = some r) : Ret Try.prog 95 [v0, .fel (v1 :: []), .fel ((.lit (.bool a2)) :: []), .fel (v3 :: []), .fel (v4 :: [])] fun v S => Vec cBool r v S := by
 unfold impl_treeRows_1_1.f at H
 refine Ret.intro Try.func95 rfl (Nat.le_of_ble_eq_true rfl) rfl ?_
 rw [tm5]
 refine Evr.sr rfl (Opl.p1 (n := Opl.nil (Evr.sr rfl (Opl.lda (v1) rfl T23 rfl rfl rfl rfl (Opl.p1 (n := ?_))))))
 obtain ⟨r1, h_r1, H⟩ := Option.bind_eq_some_iff.1 H
 refine Opl.call ((impl_some.ev hv1 hv0 h_r1).mono fun _ _ h => Out.vec h) rfl rfl rfl rfl ⟨hv1.plain, hv0.plain, trivial⟩ (by decide) ?_
 rintro pv1 h1
 refine Opl.p1 (n := Opl.nil (Evr.seq (Evr.sr rfl (Opl.lda (.lit (.bool a2)) rfl T4 rfl rfl rfl rfl (Opl.nil ?_)))))
 refine Evr.join (fun tm S => ∃ (kq1 : Nat) (x7_1 : List Bool) (pv2 : PV), impl_treeRows_1_1.j1 kq1 x7_1 l3 l4 = some r ∧ Has tm [(3, .fel (v3 :: [])), (4, .fel (v4 :: [])), (7, pv2)] ∧ Sl cBool x7_1 pv2) ?_ fun hk1 => ?_
 ·
  rintro tm S ⟨kq1, x7_1, pv2, H, hh, h2⟩
  rw [hh.eq]
  refine Evr.seq (Evr.regionL [(4, .n), (0, .p), (1, .p)] rfl (by kernel_rfl) (Opl.ldp (v3) rfl T78 rfl rfl rfl (Opl.ldp (v4) rfl T78 rfl rfl rfl (Opl.p1 (n := ?_)))))
  obtain _ | k1 := kq1
  · simp [impl_treeRows_1_1.j1] at H
  simp only [impl_treeRows_1_1.j1] at H
  obtain ⟨r2, h_r2, H⟩ := Option.bind_eq_some_iff.1 H
  refine Opl.call ((impl_each_at_impl_treeRows_1_1_1.ev hv4 h2 h_r2).mono fun _ _ h => Out.vec h) rfl rfl rfl rfl ⟨hv4.plain, h2.plain, (.lit _), trivial⟩ (by decide) ?_
  rintro pv3 h3
  obtain ⟨r3, h_r3, H⟩ := Option.bind_eq_some_iff.1 H
  refine Opl.calla (impl_each_at_impl_treeRows_1_1_2.ev hv3 h3 h_r3) rfl rfl rfl rfl ⟨hv3.plain, h3.plain, (.lit _), trivial⟩ rfl ?_
  rintro pv4 S h4 u1 w1
  refine Opl.p1 (n := Opl.nil ?_)
  obtain rfl := Option.some.inj H
  refine Evr.ret1 Try.func95 rfl ?_
  show Vec _ _ pv4 _
  exact h4
 ·
  by_cases c1 : a2 = true
  case neg =>
   rw [if_neg c1] at H
   have e2 : a2 = false := by simpa using c1
   try rw [e2] at H
   try rw [e2]
   refine Evr.condF rfl (Evr.skip ?_)
   exact hk1 _ _ ⟨_, _, _, H, ⟨rfl, rfl, rfl, trivial⟩, h1⟩
  rw [if_pos c1] at H
  have e1 : a2 = true := by simpa using c1
  try rw [e1] at H
  try rw [e1]
  refine Evr.condT rfl (Evr.regionD rfl (by kernel_rfl) (Opl.lda (v1) rfl T23 rfl rfl rfl rfl (Opl.p1 (n := ?_))))
  obtain ⟨r4, h_r4, H⟩ := Option.bind_eq_some_iff.1 H
  refine Opl.call ((impl_not.ev hv0 h_r4).mono fun _ _ h => Out.vec h) rfl rfl rfl rfl ⟨hv0.plain, trivial⟩ (by decide) ?_
  rintro pv5 h5
  obtain ⟨r5, h_r5, H⟩ := Option.bind_eq_some_iff.1 H
  refine Opl.call ((impl_some.ev hv1 h5 h_r5).mono fun _ _ h => Out.vec h) rfl rfl rfl rfl ⟨hv1.plain, h5.plain, trivial⟩ (by decide) ?_
  rintro pv6 h6
  obtain ⟨r6, h_r6, H⟩ := Option.bind_eq_some_iff.1 H
  refine Opl.call ((impl_not.ev h6 h_r6).mono fun _ _ h => Out.vec h) rfl rfl rfl rfl ⟨h6.plain, trivial⟩ (by decide) ?_
  rintro pv7 h7
  refine Opl.p1 (n := Opl.nil ?_)
  exact hk1 _ _ ⟨_, _, _, H, ⟨rfl, rfl, rfl, trivial⟩, h7⟩
theorem slices_Equal_bool_bool.ev {k : Nat} {l0 : List Bool} {v0 : PV} (hv0 : Sl cBool l0 v0) {l1 : List Bool} {v1 : PV} (hv1 : Sl cBool l1 v1) {r : Bool} (H : slices_Equal_bool_bool.f k l0 l1 = some r) : Ret Try.prog 119 [v0, v1] fun v S => v = .lit (.bool r) := by
 unfold slices_Equal_bool_bool.f at H
 refine Ret.intro Try.func119 rfl (Nat.le_of_ble_eq_true rfl) rfl ?_
 rw [tm2]
 refine Evr.sr rfl (Opl.p1 (n := Opl.nil (Evr.seq (Evr.sr rfl (Opl.p1 (n := Opl.len (xs := l0) (by exact hv0) K78 rfl rfl rfl rfl (Opl.p1 (n := Opl.len (xs := l1) (by exact hv1) K78 rfl rfl rfl rfl (Opl.p1 (n := Opl.nil ?_))))))))))
 by_cases c1 : (l0.length : Int) = (l1.length : Int)
 case neg =>
  rw [if_neg c1] at H
  have e6 : ((l0.length : Int) != (l1.length : Int)) = true := by simpa using c1
  try rw [e6]
  refine Evr.condT rfl (Evr.sr rfl (Opl.p1 (n := Opl.nil ?_)))
  obtain rfl := Option.some.inj H
  refine Evr.ret1 Try.func119 rfl ?_
  show (.lit (.bool false) : PV) = _
  first | rfl | (simp only [go_sem]; rfl)
 rw [if_pos c1] at H
 have e1 : ((l0.length : Int) != (l1.length : Int)) = false := by simpa using c1
 try rw [e1]
 refine Evr.condF rfl (Evr.skip (Evr.seq (Evr.sr rfl (Opl.p1 (n := Opl.len (xs := l0) (by exact hv0) K78 rfl rfl rfl rfl (Opl.p1 (n := Opl.nil (Evr.block ?_))))))))
 refine Evr.loop (Evr.rounds (n := k) (Inv := fun n tm S => n ≤ k ∧ ∃ (x13_1 : Int), slices_Equal_bool_bool.l0 n l0 l1 (l0.length : Int) x13_1 = some r ∧ Has tm [(0, v0), (1, v1), (12, .lit (.int .i64 (l0.length : Int))), (13, .lit (.int .i64 x13_1))]) ?_ ?_ ?_)
 · exact ⟨Nat.le_refl _, _, H, ⟨rfl, rfl, rfl, rfl, trivial⟩⟩
 ·
  rintro tm S ⟨_, _, H, -⟩
  simp [slices_Equal_bool_bool.l0] at H
 ·
  rintro n1 ih1 tm S ⟨hle, x13_1, H, hh⟩
  simp only [slices_Equal_bool_bool.l0] at H
  rw [hh.eq]
  refine Evr.sr rfl (Opl.p1 (n := Opl.nil (Evr.seq ?_)))
  by_cases c2 : x13_1 < (l0.length : Int)
  case neg =>
   rw [if_neg c2] at H
   have e5 : (decide (x13_1 < (l0.length : Int))) = false := by simpa using c2
   try rw [e5]
   refine Evr.condF rfl (Evr.exit rfl (Evr.sr rfl (Opl.p1 (n := Opl.nil ?_))))
   obtain rfl := Option.some.inj H
   refine Evr.ret1 Try.func119 rfl ?_
   show (.lit (.bool true) : PV) = _
   first | rfl | (simp only [go_sem]; rfl)
  rw [if_pos c2] at H
  have e2 : (decide (x13_1 < (l0.length : Int))) = true := by simpa using c2
  try rw [e2]
  refine Evr.condT rfl (Evr.skip (Evr.seq (Evr.block (Evr.sr rfl (Opl.p1 (n := Opl.p1 (n := Opl.nil (Evr.seq (Evr.regionD rfl (by kernel_rfl) (Opl.p1 (n := Opl.p1 (n := ?_))))))))))))
  obtain ⟨c3, H⟩ := peel H
  obtain ⟨c4, H⟩ := peel H
  obtain ⟨c5, H⟩ := peel H
  refine Opl.idx (M := cBool) (xs := l0) (j := x13_1) false (by exact hv0) rfl (by omega) (by omega) K78 Z4 rfl rfl ?_
  rintro p1 q1 h1
  obtain rfl : p1 = [.lit (.bool (rdOf false l0 x13_1))] := h1
  refine Opl.lda (.lit (.bool (rdOf false l0 x13_1))) rfl T4 rfl rfl rfl rfl (Opl.p1 (n := Opl.p1 (n := Opl.idx (M := cBool) (xs := l1) (j := x13_1) false (by exact hv1) rfl (by omega) (by omega) K78 Z4 rfl rfl ?_)))
  rintro p2 q2 h2
  obtain rfl : p2 = [.lit (.bool (rdOf false l1 x13_1))] := h2
  refine Opl.lda (.lit (.bool (rdOf false l1 x13_1))) rfl T4 rfl rfl rfl rfl (Opl.p1 (n := Opl.nil ?_))
  by_cases c6 : ((rdOf false l0 x13_1) != (rdOf false l1 x13_1)) = true
  case pos =>
   rw [if_pos c6] at H
   have e3 : ((rdOf false l0 x13_1) != (rdOf false l1 x13_1)) = true := by simpa using c6
   try rw [e3]
   refine Evr.condT rfl (Evr.sr rfl (Opl.p1 (n := Opl.nil ?_)))
   obtain rfl := Option.some.inj H
   refine Evr.ret1 Try.func119 rfl ?_
   show (.lit (.bool false) : PV) = _
   first | rfl | (simp only [go_sem]; rfl)
  rw [if_neg c6] at H
  have e4 : ((rdOf false l0 x13_1) != (rdOf false l1 x13_1)) = false := by simpa using c6
  try rw [e4]
  refine Evr.condF rfl (Evr.skip (Evr.inBlock (Evr.regionN rfl (Opl.add (k := .i64) (a := x13_1) (b := 1) K3 rfl rfl rfl rfl (Opl.one (v := .lit (.int .i64 (wrap64 (x13_1 + 1)))) rfl rfl rfl (Opl.nil ?_))))))
  exact ih1 _ (by omega) _ _ ⟨by omega, _, H, ⟨rfl, rfl, rfl, rfl, trivial⟩⟩
theorem impl_fixed_at_impl_treeRows_1_1.ev {k : Nat} {l0 : List Bool} {v0 : PV} (hv0 : Sl cBool l0 v0) {l2 : List (List Int)} {v2 : PV} (hv2 : Sl (cSl (cInt .i64)) l2 v2) {a3 : Bool} {l4 : List Bool} {v4 : PV} (hv4 : Sl cBool l4 v4) {l5 : List Bool} {v5 : PV} (hv5 : Sl cBool l5 v5) {r : (List Bool)} (H : impl_fixed_at_impl_treeRows_1_1.f k l0 l2 a3 l4 l5 = some r) : Ret Try.prog 94 [v0, .fn 95 [.fel (v2 :: []), .fel ((.lit (.bool a3)) :: []), .fel (v4 :: []), .fel (v5 :: [])]] fun v S => Out (fun q => Sl cBool r q) v S := by
 unfold impl_fixed_at_impl_treeRows_1_1.f at H
 refine Ret.intro Try.func94 rfl (Nat.le_of_ble_eq_true rfl) rfl ?_
 rw [tm2]
 refine Evr.sr rfl (Opl.p1 (n := Opl.nil (Evr.block ?_)))
 refine Evr.loop (Evr.rounds (n := k) (Inv := fun n tm S => n ≤ k ∧ ∃ (x0_1 : List Bool) (pv1 : PV), impl_fixed_at_impl_treeRows_1_1.l1 n x0_1 l2 a3 l4 l5 = some r ∧ Has tm [(0, pv1), (1, .fn 95 [.fel (v2 :: []), .fel ((.lit (.bool a3)) :: []), .fel (v4 :: []), .fel (v5 :: [])])] ∧ Sl cBool x0_1 pv1) ?_ ?_ ?_)
 · exact ⟨Nat.le_refl _, _, _, H, ⟨rfl, rfl, trivial⟩, hv0⟩
 ·
  rintro tm S ⟨_, _, _, H, -⟩
  simp [impl_fixed_at_impl_treeRows_1_1.l1] at H
 ·
  rintro n1 ih1 tm S ⟨hle, x0_1, pv1, H, hh, h1⟩
  simp only [impl_fixed_at_impl_treeRows_1_1.l1] at H
  rw [hh.eq]
  refine Evr.block (Evr.sr rfl (Opl.p1 (n := Opl.p1 (n := ?_))))
  obtain ⟨r1, h_r1, H⟩ := Option.bind_eq_some_iff.1 H
  refine Opl.call ((impl_treeRows_1_1.ev h1 hv2 hv4 hv5 h_r1).mono fun _ _ h => Out.vec h) rfl rfl rfl rfl ⟨h1.plain, (.felL ⟨hv2.plain, trivial⟩), (.felL ⟨(.lit _), trivial⟩), (.felL ⟨hv4.plain, trivial⟩), (.felL ⟨hv5.plain, trivial⟩), trivial⟩ (by decide) ?_
  rintro pv2 h2
  refine Opl.p1 (n := Opl.nil (Evr.seq (Evr.sr rfl (Opl.p1 (n := Opl.p1 (n := ?_))))))
  obtain ⟨r2, h_r2, H⟩ := Option.bind_eq_some_iff.1 H
  refine Opl.callc (slices_Equal_bool_bool.ev h2 h1 h_r2) rfl rfl rfl rfl ⟨h2.plain, h1.plain, trivial⟩ (by decide) (Opl.nil ?_)
  by_cases c1 : r2 = true
  case pos =>
   rw [if_pos c1] at H
   obtain rfl : r2 = true := by simpa using c1
   refine Evr.condT rfl (Evr.sr rfl (Opl.p1 (n := Opl.p1 (n := Opl.nil ?_))))
   obtain rfl := Option.some.inj H
   refine Evr.ret1 Try.func94 rfl ?_
   show Out _ pv1 _
   exact (.sl h1)
  rw [if_neg c1] at H
  obtain rfl : r2 = false := by simpa using c1
  refine Evr.condF rfl (Evr.skip (Evr.regionN rfl (Opl.p1 (n := Opl.p1 (n := Opl.nil (Evr.inBlock ?_))))))
  exact ih1 _ (by omega) _ _ ⟨by omega, _, _, H, ⟨rfl, rfl, trivial⟩, h2⟩
theorem impl_treeRows_1.ev {k : Nat} {l0 : List Bool} {v0 : PV} (hv0 : Sl cBool l0 v0) {l1 : List Bool} {v1 : PV} (hv1 : Sl cBool l1 v1) {a2 : Bool} {l3 : List (List Int)} {v3 : PV} (hv3 : Sl (cSl (cInt .i64)) l3 v3) {r : (List Bool)} (H : impl_treeRows_1.f k l0 l1 a2 l3 = some r) : Ret Try.prog 93 [v0, v1, .lit (.bool a2), .fel (v3 :: [])] fun v S => Out (fun q => Sl cBool r q) v S := by
 unfold impl_treeRows_1.f at H
 refine Ret.intro Try.func93 rfl (Nat.le_of_ble_eq_true rfl) rfl ?_
 rw [tm4]
 refine Evr.sr rfl (Opl.box (cs := [v0]) (by exact hv0.cells) rfl rfl rfl ?_)
 rintro i1 S h1 u1 w1
 refine Opl.box (cs := [v1]) (by exact hv1.cells) rfl rfl rfl ?_
 rintro i2 S h2 u2 w2
 have ap1 := w2.box h1
 have h3 := u2.box h1 ap1
 refine Opl.box (cs := [.lit (.bool a2)]) rfl rfl rfl rfl ?_
 rintro i3 S h4 u3 w3
 have ap2 := w3.box h3
 have h5 := u3.box h3 ap2
 have ap3 := w3.box h2
 have h6 := u3.box h2 ap3
 refine Opl.p1 (n := Opl.nil (Evr.seq (Evr.frzb 6 h4 rfl ?_)))
 rintro S u4
 have h7 := u4.box h5 ap2
 have h8 := u4.box h6 ap3
 refine Evr.frzb 5 h8 rfl ?_
 rintro S u5
 have h9 := u5.box h7 ap1
 refine Evr.frzb 4 h9 rfl ?_
 rintro S u6
 refine Evr.regionN rfl (Opl.lda (v1) rfl T78 rfl rfl rfl rfl (Opl.p1 (n := ?_)))
 obtain ⟨r1, h_r1, H⟩ := Option.bind_eq_some_iff.1 H
 refine Opl.call (impl_fixed_at_impl_treeRows_1_1.ev hv1 hv3 hv1 hv0 h_r1) rfl rfl rfl rfl ⟨hv1.plain, (.fnL ⟨(.felL ⟨hv3.plain, trivial⟩), (.felL ⟨(.lit _), trivial⟩), (.felL ⟨hv1.plain, trivial⟩), (.felL ⟨hv0.plain, trivial⟩), trivial⟩), trivial⟩ (by decide) ?_
 rintro pv1 h10
 refine Opl.p1 (n := Opl.nil ?_)
 obtain rfl := Option.some.inj H
 refine Evr.ret1 Try.func93 rfl ?_
 show Out _ pv1 _
 exact (.sl h10)
theorem impl_treeRows_2_1_1.ev {k : Nat} {a0 : Bool} {a1 : Bool} {r : Bool} (H : impl_treeRows_2_1_1.f k a0 a1 = some r) : Ret Try.prog 103 [.lit (.bool a0), .lit (.bool a1)] fun v S => v = .lit (.bool r) := by
 unfold impl_treeRows_2_1_1.f at H
 refine Ret.intro Try.func103 rfl (Nat.le_of_ble_eq_true rfl) rfl ?_
 rw [tm2]
 refine Evr.sr rfl (Opl.p1 (n := Opl.nil (Evr.sr rfl (Opl.p1 (n := Opl.p1 (n := ?_))))))
 by_cases c1 : a0 = true
 case pos =>
  rw [if_pos c1] at H
  obtain rfl : a0 = true := by simpa using c1
  refine Opl.p1 (n := Opl.p1 (n := Opl.p1 (n := Opl.nil ?_)))
  obtain rfl := Option.some.inj H
  refine Evr.ret1 Try.func103 rfl ?_
  show (.lit (.bool a1) : PV) = _
  first | rfl | (simp only [go_sem]; rfl)
 rw [if_neg c1] at H
 obtain rfl : a0 = false := by simpa using c1
 refine Opl.skp rfl (Opl.p1 (n := Opl.p1 (n := Opl.nil ?_)))
 obtain rfl := Option.some.inj H
 refine Evr.ret1 Try.func103 rfl ?_
 show (.lit (.bool false) : PV) = _
 first | rfl | (simp only [go_sem]; rfl)
theorem impl_each_at_impl_treeRows_2_1_1.ev {k : Nat} {l0 : List Bool} {v0 : PV} (hv0 : Sl cBool l0 v0) {l1 : List Bool} {v1 : PV} (hv1 : Sl cBool l1 v1) {r : (List Bool)} (H : impl_each_at_impl_treeRows_2_1_1.f k l0 l1 = some r) : Ret Try.prog 98 [v0, v1, .lit (.func (.func 103) #[] #[])] fun v S => Vec cBool r v S := by
 unfold impl_each_at_impl_treeRows_2_1_1.f at H
 refine Ret.intro Try.func98 rfl (Nat.le_of_ble_eq_true rfl) rfl ?_
 rw [tm3]
 refine Evr.sr rfl (Opl.p1 (n := Opl.nil (Evr.sr rfl (Opl.p1 (n := Opl.len (xs := l0) (by exact hv0) K78 rfl rfl rfl rfl ?_)))))
 obtain ⟨c1, H⟩ := peel H
 obtain ⟨c2, H⟩ := peel H
 refine Opl.make (M := cBool) (m := (l0.length : Int)) false (by exact rfl) rfl rfl K78 T4 rfl (by omega) (by show ((l0.length : Int)).toNat * 1 ≤ 281474976710656; omega) (by omega) rfl rfl rfl ?_
 rintro pv1 S h1 u1 w1
 refine Opl.p1 (n := Opl.nil (Evr.seq (Evr.sr rfl (Opl.p1 (n := Opl.len (xs := l0) (by exact hv0) K78 rfl rfl rfl rfl (Opl.p1 (n := Opl.nil (Evr.block ?_))))))))
 refine Evr.loop (Evr.rounds (n := k) (Inv := fun n tm S => n ≤ k ∧ ∃ (x7_1 : List Bool) (x14_1 : Int) (pv2 : PV), impl_each_at_impl_treeRows_2_1_1.l1 n x7_1 x14_1 l0 l1 = some r ∧ Has tm [(0, v0), (1, v1), (2, .lit (.func (.func 103) #[] #[])), (7, pv2), (13, .lit (.int .i64 (l0.length : Int))), (14, .lit (.int .i64 x14_1))] ∧ Vec cBool x7_1 pv2 S) ?_ ?_ ?_)
 · exact ⟨Nat.le_refl _, _, _, _, H, ⟨rfl, rfl, rfl, rfl, rfl, rfl, trivial⟩, h1⟩
 ·
  rintro tm S ⟨_, _, _, _, H, -⟩
  simp [impl_each_at_impl_treeRows_2_1_1.l1] at H
 ·
  rintro n1 ih1 tm S ⟨hle, x7_1, x14_1, pv2, H, hh, h2⟩
  simp only [impl_each_at_impl_treeRows_2_1_1.l1] at H
  rw [hh.eq]
  refine Evr.sr rfl (Opl.p1 (n := Opl.nil (Evr.seq ?_)))
  by_cases c3 : x14_1 < (l0.length : Int)
  case neg =>
   rw [if_neg c3] at H
   have e2 : (decide (x14_1 < (l0.length : Int))) = false := by simpa using c3
   try rw [e2]
   refine Evr.condF rfl (Evr.exit rfl (Evr.sr rfl (Opl.p1 (n := Opl.p1 (n := Opl.nil ?_)))))
   obtain rfl := Option.some.inj H
   refine Evr.ret1 Try.func98 rfl ?_
   show Vec _ _ pv2 _
   exact h2
  rw [if_pos c3] at H
  have e1 : (decide (x14_1 < (l0.length : Int))) = true := by simpa using c3
  try rw [e1]
  refine Evr.condT rfl (Evr.skip (Evr.seq (Evr.block (Evr.sr rfl (Opl.p1 (n := Opl.p1 (n := Opl.nil (Evr.regionL [(6, .p), (10, .p)] rfl (by kernel_rfl) (Opl.p1 (n := Opl.p1 (n := Opl.p1 (n := Opl.p1 (n := Opl.p1 (n := ?_))))))))))))))
  obtain ⟨c4, H⟩ := peel H
  obtain ⟨c5, H⟩ := peel H
  obtain ⟨c6, H⟩ := peel H
  obtain ⟨c7, H⟩ := peel H
  refine Opl.idx (M := cBool) (xs := l0) (j := x14_1) false (by exact hv0) rfl (by omega) (by omega) K78 Z4 rfl rfl ?_
  rintro p1 q1 h3
  obtain rfl : p1 = [.lit (.bool (rdOf false l0 x14_1))] := h3
  refine Opl.ldp (.lit (.bool (rdOf false l0 x14_1))) rfl T4 rfl rfl rfl (Opl.p1 (n := Opl.p1 (n := Opl.idx (M := cBool) (xs := l1) (j := x14_1) false (by exact hv1) rfl (by omega) (by omega) K78 Z4 rfl rfl ?_)))
  rintro p2 q2 h4
  obtain rfl : p2 = [.lit (.bool (rdOf false l1 x14_1))] := h4
  refine Opl.ldp (.lit (.bool (rdOf false l1 x14_1))) rfl T4 rfl rfl rfl ?_
  obtain ⟨r1, h_r1, H⟩ := Option.bind_eq_some_iff.1 H
  refine Opl.callc (impl_treeRows_2_1_1.ev h_r1) rfl rfl rfl rfl ⟨(.lit _), (.lit _), trivial⟩ (by decide) ?_
  obtain ⟨c8, H⟩ := peel H
  obtain ⟨c9, H⟩ := peel H
  refine Opl.idv (M := cBool) (xs := x7_1) (j := x14_1) (v := pv2) h2 rfl rfl (by omega) (by omega) K78 Z4 rfl rfl ?_
  rintro d1 z1 q3 h5 h6
  refine Opl.stv (M := cBool) (xs := x7_1) (j := x14_1) (y := r1) (vs := [.lit (.bool r1)]) h5 h6 (by omega) (by omega) rfl rfl (by exact rfl) Z4 rfl rfl rfl rfl ?_
  rw [← q3]
  rintro S h7 u2
  refine Opl.nil (Evr.inBlock (Evr.regionN rfl (Opl.add (k := .i64) (a := x14_1) (b := 1) K3 rfl rfl rfl rfl (Opl.one (v := .lit (.int .i64 (wrap64 (x14_1 + 1)))) rfl rfl rfl (Opl.nil ?_)))))
  exact ih1 _ (by omega) _ _ ⟨by omega, _, _, _, H, ⟨rfl, rfl, rfl, rfl, rfl, rfl, trivial⟩, h7⟩
theorem impl_treeRows_2_1.ev {k : Nat} {l0 : List Bool} {v0 : PV} (hv0 : Sl cBool l0 v0) {l1 : List (List Int)} {v1 : PV} (hv1 : Sl (cSl (cInt .i64)) l1 v1) {a2 : Bool} {l3 : List Bool} {v3 : PV} (hv3 : Sl cBool l3 v3) {r : (List Bool)} (H : impl_treeRows_2_1.f k l0 l1 a2 l3 = some r) : Ret Try.prog 102 [v0, .fel (v1 :: []), .fel ((.lit (.bool a2)) :: []), .fel (v3 :: [])] fun v S => Vec cBool r v S := by
 unfold impl_treeRows_2_1.f at H
 refine Ret.intro Try.func102 rfl (Nat.le_of_ble_eq_true rfl) rfl ?_
 rw [tm4]
 refine Evr.sr rfl (Opl.p1 (n := Opl.nil (Evr.sr rfl (Opl.lda (v1) rfl T23 rfl rfl rfl rfl (Opl.p1 (n := ?_))))))
 obtain ⟨r1, h_r1, H⟩ := Option.bind_eq_some_iff.1 H
 refine Opl.call ((impl_some.ev hv1 hv0 h_r1).mono fun _ _ h => Out.vec h) rfl rfl rfl rfl ⟨hv1.plain, hv0.plain, trivial⟩ (by decide) ?_
 rintro pv1 h1
 refine Opl.p1 (n := Opl.nil (Evr.seq (Evr.sr rfl (Opl.lda (.lit (.bool a2)) rfl T4 rfl rfl rfl rfl (Opl.nil ?_)))))
 by_cases c1 : a2 = true
 case neg =>
  rw [if_neg c1] at H
  have e2 : a2 = false := by simpa using c1
  try rw [e2] at H
  try rw [e2]
  refine Evr.condF rfl (Evr.skip (Evr.sr rfl (Opl.lda (v3) rfl T78 rfl rfl rfl rfl (Opl.p1 (n := ?_)))))
  obtain ⟨r6, h_r6, H⟩ := Option.bind_eq_some_iff.1 H
  refine Opl.calla (impl_each_at_impl_treeRows_2_1_1.ev hv3 h1 h_r6) rfl rfl rfl rfl ⟨hv3.plain, h1.plain, (.lit _), trivial⟩ rfl ?_
  rintro pv6 S h6 u2 w2
  refine Opl.p1 (n := Opl.nil ?_)
  obtain rfl := Option.some.inj H
  refine Evr.ret1 Try.func102 rfl ?_
  show Vec _ _ pv6 _
  exact h6
 rw [if_pos c1] at H
 have e1 : a2 = true := by simpa using c1
 try rw [e1] at H
 try rw [e1]
 refine Evr.condT rfl (Evr.regionD rfl (by kernel_rfl) (Opl.lda (v1) rfl T23 rfl rfl rfl rfl (Opl.p1 (n := ?_))))
 obtain ⟨r2, h_r2, H⟩ := Option.bind_eq_some_iff.1 H
 refine Opl.call ((impl_not.ev hv0 h_r2).mono fun _ _ h => Out.vec h) rfl rfl rfl rfl ⟨hv0.plain, trivial⟩ (by decide) ?_
 rintro pv2 h2
 obtain ⟨r3, h_r3, H⟩ := Option.bind_eq_some_iff.1 H
 refine Opl.call ((impl_some.ev hv1 h2 h_r3).mono fun _ _ h => Out.vec h) rfl rfl rfl rfl ⟨hv1.plain, h2.plain, trivial⟩ (by decide) ?_
 rintro pv3 h3
 obtain ⟨r4, h_r4, H⟩ := Option.bind_eq_some_iff.1 H
 refine Opl.call ((impl_not.ev h3 h_r4).mono fun _ _ h => Out.vec h) rfl rfl rfl rfl ⟨h3.plain, trivial⟩ (by decide) ?_
 rintro pv4 h4
 refine Opl.p1 (n := Opl.nil (Evr.sr rfl (Opl.lda (v3) rfl T78 rfl rfl rfl rfl (Opl.p1 (n := ?_)))))
 obtain ⟨r5, h_r5, H⟩ := Option.bind_eq_some_iff.1 H
 refine Opl.calla (impl_each_at_impl_treeRows_2_1_1.ev hv3 h4 h_r5) rfl rfl rfl rfl ⟨hv3.plain, h4.plain, (.lit _), trivial⟩ rfl ?_
 rintro pv5 S h5 u1 w1
 refine Opl.p1 (n := Opl.nil ?_)
 obtain rfl := Option.some.inj H
 refine Evr.ret1 Try.func102 rfl ?_
 show Vec _ _ pv5 _
 exact h5
theorem impl_fixed_at_impl_treeRows_2_1.ev {k : Nat} {l0 : List Bool} {v0 : PV} (hv0 : Sl cBool l0 v0) {l2 : List (List Int)} {v2 : PV} (hv2 : Sl (cSl (cInt .i64)) l2 v2) {a3 : Bool} {l4 : List Bool} {v4 : PV} (hv4 : Sl cBool l4 v4) {r : (List Bool)} (H : impl_fixed_at_impl_treeRows_2_1.f k l0 l2 a3 l4 = some r) : Ret Try.prog 94 [v0, .fn 102 [.fel (v2 :: []), .fel ((.lit (.bool a3)) :: []), .fel (v4 :: [])]] fun v S => Out (fun q => Sl cBool r q) v S := by
 unfold impl_fixed_at_impl_treeRows_2_1.f at H
 refine Ret.intro Try.func94 rfl (Nat.le_of_ble_eq_true rfl) rfl ?_
 rw [tm2]
 refine Evr.sr rfl (Opl.p1 (n := Opl.nil (Evr.block ?_)))
 refine Evr.loop (Evr.rounds (n := k) (Inv := fun n tm S => n ≤ k ∧ ∃ (x0_1 : List Bool) (pv1 : PV), impl_fixed_at_impl_treeRows_2_1.l1 n x0_1 l2 a3 l4 = some r ∧ Has tm [(0, pv1), (1, .fn 102 [.fel (v2 :: []), .fel ((.lit (.bool a3)) :: []), .fel (v4 :: [])])] ∧ Sl cBool x0_1 pv1) ?_ ?_ ?_)
 · exact ⟨Nat.le_refl _, _, _, H, ⟨rfl, rfl, trivial⟩, hv0⟩
 ·
  rintro tm S ⟨_, _, _, H, -⟩
  simp [impl_fixed_at_impl_treeRows_2_1.l1] at H
 ·
  rintro n1 ih1 tm S ⟨hle, x0_1, pv1, H, hh, h1⟩
  simp only [impl_fixed_at_impl_treeRows_2_1.l1] at H
  rw [hh.eq]
  refine Evr.block (Evr.sr rfl (Opl.p1 (n := Opl.p1 (n := ?_))))
  obtain ⟨r1, h_r1, H⟩ := Option.bind_eq_some_iff.1 H
  refine Opl.call ((impl_treeRows_2_1.ev h1 hv2 hv4 h_r1).mono fun _ _ h => Out.vec h) rfl rfl rfl rfl ⟨h1.plain, (.felL ⟨hv2.plain, trivial⟩), (.felL ⟨(.lit _), trivial⟩), (.felL ⟨hv4.plain, trivial⟩), trivial⟩ (by decide) ?_
  rintro pv2 h2
  refine Opl.p1 (n := Opl.nil (Evr.seq (Evr.sr rfl (Opl.p1 (n := Opl.p1 (n := ?_))))))
  obtain ⟨r2, h_r2, H⟩ := Option.bind_eq_some_iff.1 H
  refine Opl.callc (slices_Equal_bool_bool.ev h2 h1 h_r2) rfl rfl rfl rfl ⟨h2.plain, h1.plain, trivial⟩ (by decide) (Opl.nil ?_)
  by_cases c1 : r2 = true
  case pos =>
   rw [if_pos c1] at H
   obtain rfl : r2 = true := by simpa using c1
   refine Evr.condT rfl (Evr.sr rfl (Opl.p1 (n := Opl.p1 (n := Opl.nil ?_))))
   obtain rfl := Option.some.inj H
   refine Evr.ret1 Try.func94 rfl ?_
   show Out _ pv1 _
   exact (.sl h1)
  rw [if_neg c1] at H
  obtain rfl : r2 = false := by simpa using c1
  refine Evr.condF rfl (Evr.skip (Evr.regionN rfl (Opl.p1 (n := Opl.p1 (n := Opl.nil (Evr.inBlock ?_))))))
  exact ih1 _ (by omega) _ _ ⟨by omega, _, _, H, ⟨rfl, rfl, trivial⟩, h2⟩
theorem impl_treeRows_2.ev {k : Nat} {l0 : List Bool} {v0 : PV} (hv0 : Sl cBool l0 v0) {a1 : Bool} {l2 : List (List Int)} {v2 : PV} (hv2 : Sl (cSl (cInt .i64)) l2 v2) {r : (List Bool)} (H : impl_treeRows_2.f k l0 a1 l2 = some r) : Ret Try.prog 101 [v0, .lit (.bool a1), .fel (v2 :: [])] fun v S => Out (fun q => Sl cBool r q) v S := by
 unfold impl_treeRows_2.f at H
 refine Ret.intro Try.func101 rfl (Nat.le_of_ble_eq_true rfl) rfl ?_
 rw [tm3]
 refine Evr.sr rfl (Opl.box (cs := [v0]) (by exact hv0.cells) rfl rfl rfl ?_)
 rintro i1 S h1 u1 w1
 refine Opl.box (cs := [.lit (.bool a1)]) rfl rfl rfl rfl ?_
 rintro i2 S h2 u2 w2
 have ap1 := w2.box h1
 have h3 := u2.box h1 ap1
 refine Opl.p1 (n := Opl.nil (Evr.seq (Evr.frzb 4 h2 rfl ?_)))
 rintro S u3
 have h4 := u3.box h3 ap1
 refine Evr.frzb 3 h4 rfl ?_
 rintro S u4
 refine Evr.regionN rfl (Opl.lda (v0) rfl T78 rfl rfl rfl rfl (Opl.p1 (n := ?_)))
 obtain ⟨r1, h_r1, H⟩ := Option.bind_eq_some_iff.1 H
 refine Opl.call (impl_fixed_at_impl_treeRows_2_1.ev hv0 hv2 hv0 h_r1) rfl rfl rfl rfl ⟨hv0.plain, (.fnL ⟨(.felL ⟨hv2.plain, trivial⟩), (.felL ⟨(.lit _), trivial⟩), (.felL ⟨hv0.plain, trivial⟩), trivial⟩), trivial⟩ (by decide) ?_
 rintro pv1 h5
 refine Opl.p1 (n := Opl.nil ?_)
 obtain rfl := Option.some.inj H
 refine Evr.ret1 Try.func101 rfl ?_
 show Out _ pv1 _
 exact (.sl h5)
theorem impl_treeRows.ev {k : Nat} {l0 : List ITree} {v0 : PV} (hv0 : Sl cITree l0 v0) {l1 : List (List Int)} {v1 : PV} (hv1 : Sl (cSl (cInt .i64)) l1 v1) {l2 : List (List Int)} {v2 : PV} (hv2 : Sl (cSl (cInt .i64)) l2 v2) {r : (List (List Bool))} (H : impl_treeRows.f k l0 l1 l2 = some r) : Ret Try.prog 59 [v0, v1, v2] fun v S => Vec (cSl cBool) r v S := by
 unfold impl_treeRows.f at H
 refine Ret.intro Try.func59 rfl (Nat.le_of_ble_eq_true rfl) rfl ?_
 rw [tm3]
 refine Evr.sr rfl (Opl.box (cs := [v1]) (by exact hv1.cells) rfl rfl rfl ?_)
 rintro i1 S h1 u1 w1
 refine Opl.p1 (n := Opl.nil (Evr.sr rfl (Opl.p1 (n := Opl.len (xs := l0) (by exact hv0) K45 rfl rfl rfl rfl ?_))))
 obtain ⟨c1, H⟩ := peel H
 obtain ⟨c2, H⟩ := peel H
 refine Opl.make (M := (cSl cBool)) (m := (l0.length : Int)) ([] : List Bool) (by exact ⟨_, rfl, .nil⟩) rfl rfl K77 T78 rfl (by omega) (by show ((l0.length : Int)).toNat * 24 ≤ 281474976710656; omega) (by omega) rfl rfl rfl ?_
 rintro pv1 S h2 u2 w2
 have ap1 := w2.box h1
 have h3 := u2.box h1 ap1
 refine Opl.p1 (n := Opl.nil (Evr.seq (Evr.frzb 4 h3 rfl ?_)))
 rintro S u3
 have h4 := u3.vec h2 ap1.symm
 refine Evr.regionN rfl (Opl.p1 (n := Opl.p1 (n := Opl.nil (Evr.sr rfl (Opl.p1 (n := Opl.p1 (n := Opl.nil (Evr.seq (Evr.sr rfl (Opl.p1 (n := Opl.len (xs := l0) (by exact hv0) K45 rfl rfl rfl rfl (Opl.p1 (n := Opl.nil (Evr.block ?_))))))))))))))
 refine Evr.loop (Evr.rounds (n := k) (Inv := fun n tm S => n ≤ k ∧ ∃ (x7_1 : List (List Bool)) (x22_1 : Int) (pv2 : PV), impl_treeRows.l1 n x7_1 x22_1 l0 l1 l2 = some r ∧ Has tm [(2, v2), (4, .fel (v1 :: [])), (7, pv2), (8, .fn 93 [.fel (v1 :: [])]), (9, .fn 101 [.fel (v1 :: [])]), (20, v0), (21, .lit (.int .i64 (l0.length : Int))), (22, .lit (.int .i64 x22_1))] ∧ Vec (cSl cBool) x7_1 pv2 S) ?_ ?_ ?_)
 · exact ⟨Nat.le_refl _, _, _, _, H, ⟨rfl, rfl, rfl, rfl, rfl, rfl, rfl, rfl, trivial⟩, h4⟩
 ·
  rintro tm S ⟨_, _, _, _, H, -⟩
  simp [impl_treeRows.l1] at H
 ·
  rintro n1 ih1 tm S ⟨hle, x7_1, x22_1, pv2, H, hh, h5⟩
  simp only [impl_treeRows.l1] at H
  rw [hh.eq]
  refine Evr.sr rfl (Opl.p1 (n := Opl.nil (Evr.seq ?_)))
  by_cases c3 : x22_1 < (l0.length : Int)
  case neg =>
   rw [if_neg c3] at H
   have e56 : (decide (x22_1 < (l0.length : Int))) = false := by simpa using c3
   try rw [e56]
   refine Evr.condF rfl (Evr.exit rfl (Evr.sr rfl (Opl.p1 (n := Opl.p1 (n := Opl.nil ?_)))))
   obtain rfl := Option.some.inj H
   refine Evr.ret1 Try.func59 rfl ?_
   show Vec _ _ pv2 _
   exact h5
  rw [if_pos c3] at H
  have e1 : (decide (x22_1 < (l0.length : Int))) = true := by simpa using c3
  try rw [e1]
  refine Evr.condT rfl (Evr.skip (Evr.seq (Evr.block (Evr.sr rfl (Opl.p1 (n := ?_))))))
  obtain ⟨c4, H⟩ := peel H
  obtain ⟨c5, H⟩ := peel H
  refine Opl.idx (M := cITree) (xs := l0) (j := x22_1) zITree (by exact hv0) rfl (by omega) (by omega) K45 Z80 rfl rfl ?_
  rintro p1 q1 h6
  obtain rfl := cITree_R (x := (rd_ITree l0 x22_1)) h6
  refine Opl.lda (.agg [.lit (.int .i64 ((rd_ITree l0 x22_1).f0)), .lit (.int .i64 ((rd_ITree l0 x22_1).f1)), .lit (.int .i64 ((rd_ITree l0 x22_1).f2)), .lit (.int .i64 ((rd_ITree l0 x22_1).f3))]) rfl T80 rfl rfl rfl rfl (Opl.alloc T80 rfl rfl rfl ?_)
  rintro i2 S h7 u4 w3
  have ap2 := w3.vec h5
  have h8 := u4.vec h5 ap2
  refine Opl.p1 (n := Opl.stb (vs := [.lit (.int .i64 ((rd_ITree l0 x22_1).f0)), .lit (.int .i64 ((rd_ITree l0 x22_1).f1)), .lit (.int .i64 ((rd_ITree l0 x22_1).f2)), .lit (.int .i64 ((rd_ITree l0 x22_1).f3))]) h7 rfl rfl Z80 rfl (Nat.le_of_ble_eq_true rfl) rfl rfl rfl rfl ?_)
  rintro S (h9 : Box (.ptr i2 0) [.lit (.int .i64 ((rd_ITree l0 x22_1).f0)), .lit (.int .i64 ((rd_ITree l0 x22_1).f1)), .lit (.int .i64 ((rd_ITree l0 x22_1).f2)), .lit (.int .i64 ((rd_ITree l0 x22_1).f3))] _) u5
  have h10 := u5.vec h8 ap2
  refine Opl.nil (Evr.sr rfl (Opl.p1 (n := Opl.p1 (n := Opl.nil (Evr.seq (Evr.sr rfl (Opl.p1 (v := .ptr i2 0) (n := Opl.ldb (v := .lit (.int .i64 ((rd_ITree l0 x22_1).f0))) h9 rfl T3 rfl rfl rfl rfl (Opl.p1 (n := Opl.nil ?_))))))))))
  by_cases c6 : ((rd_ITree l0 x22_1).f0) > 1
  case neg =>
   rw [if_neg c6] at H
   have e29 : (decide (((rd_ITree l0 x22_1).f0) > 1)) = false := by simpa using c6
   try rw [e29]
   refine Evr.condF rfl (Evr.skip (Evr.sr rfl (Opl.p1 (v := .ptr i2 0) (n := Opl.ldb (v := .lit (.int .i64 ((rd_ITree l0 x22_1).f0))) h9 rfl T3 rfl rfl rfl rfl (Opl.nil (Evr.block (Evr.seq (Evr.sr rfl (Opl.p1 (n := Opl.p1 (n := Opl.nil ?_)))))))))))
   obtain _ | k2 := n1
   · simp [impl_treeRows.j2] at H
   simp only [impl_treeRows.j2] at H
   by_cases c72 : ((rd_ITree l0 x22_1).f0) = 0
   case pos =>
    rw [if_pos c72] at H
    have e30 : (((rd_ITree l0 x22_1).f0) == 0) = true := by simpa using c72
    try rw [e30]
    refine Evr.condT rfl (Evr.skip (Evr.condT rfl (Evr.sr rfl (Opl.p1 (n := Opl.p1 (n := Opl.lda (v1) rfl T23 rfl rfl rfl rfl (Opl.len (xs := l1) (by exact hv1) K23 rfl rfl rfl rfl ?_)))))))
    obtain ⟨c73, H⟩ := peel H
    obtain ⟨c74, H⟩ := peel H
    obtain ⟨c75, H⟩ := peel H
    obtain ⟨c76, H⟩ := peel H
    obtain ⟨c77, H⟩ := peel H
    obtain ⟨c78, H⟩ := peel H
    refine Opl.make (M := cBool) (m := (l1.length : Int)) false (by exact rfl) rfl rfl K78 T4 rfl (by omega) (by show ((l1.length : Int)).toNat * 1 ≤ 281474976710656; omega) (by omega) rfl rfl rfl ?_
    rintro pv34 S h134 u26 w7
    have ap19 := w7.vec h10
    have h135 := u26.vec h10 ap19
    have ap20 := w7.box h9
    have h136 := u26.box h9 ap20
    refine Opl.idv (M := (cSl cBool)) (xs := x7_1) (j := x22_1) (v := pv2) h135 rfl rfl (by omega) (by omega) K77 Z78 rfl rfl ?_
    rintro d21 z21 q24 h137 h138
    refine Opl.sthol (M := cBool) (xs := x7_1) (m := x22_1) h137 h138 (by omega) (by omega) rfl rfl h134 Z78 rfl rfl rfl ?_
    rw [← q24]
    rintro S h139 u27
    have h140 := u27.box h136 ap2.symm
    have h141 := u27.vec h134 ap19.symm
    refine Opl.nil (Evr.sr rfl (Opl.p1 (n := Opl.p1 (n := Opl.idh h139 rfl rfl K77 Z78 rfl rfl ?_))))
    rintro d22 z22 h142 h143
    refine Opl.ldh h142 h143 rfl T78 rfl rfl rfl rfl (Opl.lenv (xs := (List.replicate (l1.length : Int).toNat false)) (by exact h141) K78 rfl rfl rfl rfl (Opl.p1 (n := Opl.nil (Evr.block ?_))))
    refine Evr.loop (Evr.rounds (n := k2) (Inv := fun n tm S => n ≤ k2 ∧ ∃ (x7hq4_3 : List Bool) (x65q4_2 : Int) (pv35 : PV) (pv36 : PV) (i7 : Abs.Id), impl_treeRows.l3 n x7hq4_3 x65q4_2 l0 l1 l2 x7_1 x22_1 = some r ∧ Has tm [(2, v2), (4, .fel (v1 :: [])), (7, pv36), (8, .fn 93 [.fel (v1 :: [])]), (9, .fn 101 [.fel (v1 :: [])]), (10, .lit (.int .i64 x22_1)), (11, .ptr i7 0), (20, v0), (21, .lit (.int .i64 (l0.length : Int))), (22, .lit (.int .i64 x22_1)), (64, .lit (.int .i64 ((List.replicate (l1.length : Int).toNat false).length : Int))), (65, .lit (.int .i64 x65q4_2))] ∧ Vec cBool x7hq4_3 pv35 S ∧ Hol cBool x7_1 x22_1 pv35 pv36 S ∧ Box (.ptr i7 0) [.lit (.int .i64 ((rd_ITree l0 x22_1).f0)), .lit (.int .i64 ((rd_ITree l0 x22_1).f1)), .lit (.int .i64 ((rd_ITree l0 x22_1).f2)), .lit (.int .i64 ((rd_ITree l0 x22_1).f3))] S ∧ Ap pv35 pv36 ∧ Ap pv35 (.ptr i7 0) ∧ Ap pv36 (.ptr i7 0)) ?_ ?_ ?_)
    · exact ⟨Nat.le_refl _, _, _, _, _, _, H, ⟨rfl, rfl, rfl, rfl, rfl, rfl, rfl, rfl, rfl, rfl, rfl, rfl, trivial⟩, h141, h139, h140, ap19.symm, ap20.symm, ap2⟩
    ·
     rintro tm S ⟨_, _, _, _, _, _, H, -⟩
     simp [impl_treeRows.l3] at H
    ·
     rintro n4 ih4 tm S ⟨hle, x7hq4_3, x65q4_2, pv35, pv36, i7, H, hh, h144, h145, h146, ap21, ap22, ap23⟩
     simp only [impl_treeRows.l3] at H
     rw [hh.eq]
     refine Evr.sr rfl (Opl.p1 (n := Opl.nil (Evr.seq ?_)))
     by_cases c79 : x65q4_2 < ((List.replicate (l1.length : Int).toNat false).length : Int)
     case neg =>
      rw [if_neg c79] at H
      have e34 : (decide (x65q4_2 < ((List.replicate (l1.length : Int).toNat false).length : Int))) = false := by simpa using c79
      try rw [e34]
      refine Evr.condF rfl (Evr.exit rfl (Evr.inBlock (Evr.inBlock (Evr.regionN rfl (Opl.add (k := .i64) (a := x22_1) (b := 1) K3 rfl rfl rfl rfl (Opl.one (v := .lit (.int .i64 (wrap64 (x22_1 + 1)))) rfl rfl rfl (Opl.nil ?_)))))))
      refine Evr.frzh h145 h144 ap21 ?_
      rintro S1_ S u30 u31 h165
      have h166 := u31.box (u30.box h146 ap22.symm) ap23.symm
      exact ih1 _ (by omega) _ _ ⟨by omega, _, _, _, H, ⟨rfl, rfl, rfl, rfl, rfl, rfl, rfl, rfl, trivial⟩, h165⟩
     rw [if_pos c79] at H
     have e31 : (decide (x65q4_2 < ((List.replicate (l1.length : Int).toNat false).length : Int))) = true := by simpa using c79
     try rw [e31]
     refine Evr.condT rfl (Evr.skip (Evr.seq (Evr.block (Evr.sr rfl (Opl.p1 (n := Opl.p1 (n := Opl.nil ?_)))))))
     refine Evr.join (fun tm S => ∃ (kq10 : Nat) (x7hq4_4 : List Bool) (pv37 : PV) (pv38 : PV) (i8 : Abs.Id), impl_treeRows.l3 kq10 x7hq4_4 (wrap64 (x65q4_2 + 1)) l0 l1 l2 x7_1 x22_1 = some r ∧ kq10 ≤ n4 ∧ Has tm [(2, v2), (4, .fel (v1 :: [])), (7, pv38), (8, .fn 93 [.fel (v1 :: [])]), (9, .fn 101 [.fel (v1 :: [])]), (10, .lit (.int .i64 x22_1)), (11, .ptr i8 0), (20, v0), (21, .lit (.int .i64 (l0.length : Int))), (22, .lit (.int .i64 x22_1)), (64, .lit (.int .i64 ((List.replicate (l1.length : Int).toNat false).length : Int))), (65, .lit (.int .i64 x65q4_2))] ∧ Vec cBool x7hq4_4 pv37 S ∧ Hol cBool x7_1 x22_1 pv37 pv38 S ∧ Box (.ptr i8 0) [.lit (.int .i64 ((rd_ITree l0 x22_1).f0)), .lit (.int .i64 ((rd_ITree l0 x22_1).f1)), .lit (.int .i64 ((rd_ITree l0 x22_1).f2)), .lit (.int .i64 ((rd_ITree l0 x22_1).f3))] S ∧ Ap pv37 pv38 ∧ Ap pv37 (.ptr i8 0) ∧ Ap pv38 (.ptr i8 0)) ?_ fun hk10 => ?_
     ·
      rintro tm S ⟨kq10, x7hq4_4, pv37, pv38, i8, H, hle, hh, h147, h148, h149, ap24, ap25, ap26⟩
      rw [hh.eq]
      refine Evr.inBlock (Evr.regionN rfl (Opl.add (k := .i64) (a := x65q4_2) (b := 1) K3 rfl rfl rfl rfl (Opl.one (v := .lit (.int .i64 (wrap64 (x65q4_2 + 1)))) rfl rfl rfl (Opl.nil ?_))))
      exact ih4 _ (by omega) _ _ ⟨by omega, _, _, _, _, _, H, ⟨rfl, rfl, rfl, rfl, rfl, rfl, rfl, rfl, rfl, rfl, rfl, rfl, trivial⟩, h147, h148, h149, ap24, ap25, ap26⟩
     ·
      refine Evr.regionL [(12, .p), (16, .p), (6, .q), (14, .q)] rfl (by kernel_rfl) (Opl.p1 (n := Opl.p1 (n := ?_)))
      obtain ⟨c80, H⟩ := peel H
      obtain ⟨c81, H⟩ := peel H
      refine Opl.idh h145 rfl rfl K77 Z78 rfl rfl ?_
      rintro d23 z23 h150 h151
      refine Opl.ldh h150 h151 rfl T78 rfl rfl rfl rfl (Opl.p1 (n := Opl.p1 (v := .ptr i7 0) (n := Opl.ldbk (v := .lit (.int .i64 ((rd_ITree l0 x22_1).f0))) h146 rd3 rfl T3 rfl rfl rfl rfl (Opl.p1 (n := Opl.p1 (n := ?_))))))
      by_cases c82 : ((rd_ITree l0 x22_1).f0) = 0
      case pos =>
       rw [if_pos c82] at H
       have e32 : (((rd_ITree l0 x22_1).f0) == 0) = true := by simpa using c82
       try rw [e32]
       refine Opl.skp rfl (Opl.skp rfl (Opl.skp rfl (Opl.skp rfl (Opl.skp rfl (Opl.skp rfl (Opl.skp rfl (Opl.skp rfl (Opl.skp rfl (Opl.p1 (n := ?_))))))))))
       obtain ⟨c83, H⟩ := peel H
       obtain ⟨c84, H⟩ := peel H
       refine Opl.idv (M := cBool) (xs := x7hq4_3) (j := x65q4_2) (v := pv35) h144 rfl rfl (by omega) (by omega) K78 Z4 rfl rfl ?_
       rintro d24 z24 q25 h152 h153
       refine Opl.stv (M := cBool) (xs := x7hq4_3) (j := x65q4_2) (y := true) (vs := [.lit (.bool true)]) h152 h153 (by omega) (by omega) rfl rfl (by exact rfl) Z4 rfl rfl rfl rfl ?_
       rw [← q25]
       rintro S h154 u28
       have h155 := u28.hol h145 ap21.symm
       have h156 := u28.box h146 ap22.symm
       refine Opl.nil ?_
       exact hk10 _ _ ⟨_, _, _, _, _, H, by omega, ⟨rfl, rfl, rfl, rfl, rfl, rfl, rfl, rfl, rfl, rfl, rfl, rfl, trivial⟩, h154, h155, h156, ap21, ap22, ap23⟩
      rw [if_neg c82] at H
      have e33 : (((rd_ITree l0 x22_1).f0) == 0) = false := by simpa using c82
      try rw [e33]
      refine Opl.p1 (n := Opl.p1 (n := ?_))
      obtain ⟨c85, H⟩ := peel H
      obtain ⟨c86, H⟩ := peel H
      obtain ⟨c87, H⟩ := peel H
      obtain ⟨c88, H⟩ := peel H
      obtain ⟨c89, H⟩ := peel H
      obtain ⟨c90, H⟩ := peel H
      refine Opl.idx (M := (cSl (cInt .i64))) (xs := l2) (j := x65q4_2) ([] : List Int) (by exact hv2) rfl (by omega) (by omega) K23 Z26 rfl rfl ?_
      rintro p8 q26 h157
      obtain ⟨pv39, rfl, h158⟩ := h157
      refine Opl.ldp (pv39) rfl T26 rfl rfl rfl (Opl.p1 (v := .ptr i7 1) (n := Opl.ldbk (v := .lit (.int .i64 ((rd_ITree l0 x22_1).f1))) h146 rd3 rfl T3 rfl rfl rfl rfl (Opl.idx (M := (cInt .i64)) (xs := (rd_Lint l2 x65q4_2)) (j := ((rd_ITree l0 x22_1).f1)) (0 : Int) (by exact h158) rfl (by omega) (by omega) K26 Z3 rfl rfl ?_)))
      rintro p9 q27 h159
      obtain rfl : p9 = [.lit (.int .i64 (rd (rd_Lint l2 x65q4_2) ((rd_ITree l0 x22_1).f1)))] := h159
      refine Opl.ldp (.lit (.int .i64 (rd (rd_Lint l2 x65q4_2) ((rd_ITree l0 x22_1).f1)))) rfl T3 rfl rfl rfl (Opl.p1 (n := Opl.p1 (n := Opl.idv (M := cBool) (xs := x7hq4_3) (j := x65q4_2) (v := pv35) h144 rfl rfl (by omega) (by omega) K78 Z4 rfl rfl ?_)))
      rintro d25 z25 q28 h160 h161
      refine Opl.stv (M := cBool) (xs := x7hq4_3) (j := x65q4_2) (y := (rd (rd_Lint l2 x65q4_2) ((rd_ITree l0 x22_1).f1)) == 1) (vs := [.lit (.bool ((rd (rd_Lint l2 x65q4_2) ((rd_ITree l0 x22_1).f1)) == 1))]) h160 h161 (by omega) (by omega) rfl rfl (by exact rfl) Z4 rfl rfl rfl rfl ?_
      rw [← q28]
      rintro S h162 u29
      have h163 := u29.hol h145 ap21.symm
      have h164 := u29.box h146 ap22.symm
      refine Opl.nil ?_
      exact hk10 _ _ ⟨_, _, _, _, _, H, by omega, ⟨rfl, rfl, rfl, rfl, rfl, rfl, rfl, rfl, rfl, rfl, rfl, rfl, trivial⟩, h162, h163, h164, ap21, ap22, ap23⟩
   rw [if_neg c72] at H
   have e35 : (((rd_ITree l0 x22_1).f0) == 0) = false := by simpa using c72
   try rw [e35]
   refine Evr.condF rfl (Evr.regionN rfl (Opl.p1 (n := Opl.p1 (n := Opl.nil ?_))))
   refine Evr.join (fun tm S => ∃ (kq11 : Nat) (x7_9 : List (List Bool)) (pv40 : PV), impl_treeRows.l1 kq11 x7_9 (wrap64 (x22_1 + 1)) l0 l1 l2 = some r ∧ kq11 ≤ k2 ∧ Has tm [(2, v2), (4, .fel (v1 :: [])), (7, pv40), (8, .fn 93 [.fel (v1 :: [])]), (9, .fn 101 [.fel (v1 :: [])]), (20, v0), (21, .lit (.int .i64 (l0.length : Int))), (22, .lit (.int .i64 x22_1))] ∧ Vec (cSl cBool) x7_9 pv40 S) ?_ fun hk11 => ?_
   ·
    rintro tm S ⟨kq11, x7_9, pv40, H, hle, hh, h167⟩
    rw [hh.eq]
    refine Evr.inBlock (Evr.inBlock (Evr.regionN rfl (Opl.add (k := .i64) (a := x22_1) (b := 1) K3 rfl rfl rfl rfl (Opl.one (v := .lit (.int .i64 (wrap64 (x22_1 + 1)))) rfl rfl rfl (Opl.nil ?_)))))
    exact ih1 _ (by omega) _ _ ⟨by omega, _, _, _, H, ⟨rfl, rfl, rfl, rfl, rfl, rfl, rfl, rfl, trivial⟩, h167⟩
   ·
    by_cases c91 : ((rd_ITree l0 x22_1).f0) = 1
    case pos =>
     rw [if_pos c91] at H
     have e36 : (((rd_ITree l0 x22_1).f0) == 1) = true := by simpa using c91
     try rw [e36]
     refine Evr.condT rfl (Evr.sr rfl (Opl.p1 (n := Opl.p1 (n := Opl.lda (v1) rfl T23 rfl rfl rfl rfl (Opl.len (xs := l1) (by exact hv1) K23 rfl rfl rfl rfl ?_)))))
     obtain ⟨c92, H⟩ := peel H
     obtain ⟨c93, H⟩ := peel H
     obtain ⟨c94, H⟩ := peel H
     obtain ⟨c95, H⟩ := peel H
     obtain ⟨c96, H⟩ := peel H
     obtain ⟨c97, H⟩ := peel H
     refine Opl.make (M := cBool) (m := (l1.length : Int)) false (by exact rfl) rfl rfl K78 T4 rfl (by omega) (by show ((l1.length : Int)).toNat * 1 ≤ 281474976710656; omega) (by omega) rfl rfl rfl ?_
     rintro pv41 S h168 u32 w8
     have ap27 := w8.vec h10
     have h169 := u32.vec h10 ap27
     have ap28 := w8.box h9
     have h170 := u32.box h9 ap28
     refine Opl.idv (M := (cSl cBool)) (xs := x7_1) (j := x22_1) (v := pv2) h169 rfl rfl (by omega) (by omega) K77 Z78 rfl rfl ?_
     rintro d26 z26 q29 h171 h172
     refine Opl.sthol (M := cBool) (xs := x7_1) (m := x22_1) h171 h172 (by omega) (by omega) rfl rfl h168 Z78 rfl rfl rfl ?_
     rw [← q29]
     rintro S h173 u33
     have h174 := u33.box h170 ap2.symm
     have h175 := u33.vec h168 ap27.symm
     refine Opl.nil (Evr.sr rfl (Opl.p1 (n := Opl.p1 (n := Opl.idh h173 rfl rfl K77 Z78 rfl rfl ?_))))
     rintro d27 z27 h176 h177
     refine Opl.ldh h176 h177 rfl T78 rfl rfl rfl rfl (Opl.lenv (xs := (List.replicate (l1.length : Int).toNat false)) (by exact h175) K78 rfl rfl rfl rfl (Opl.p1 (n := Opl.nil (Evr.block ?_))))
     refine Evr.loop (Evr.rounds (n := k2) (Inv := fun n tm S => n ≤ k2 ∧ ∃ (x7hq6_3 : List Bool) (x65q6_2 : Int) (pv42 : PV) (pv43 : PV) (i9 : Abs.Id), impl_treeRows.l4 n x7hq6_3 x65q6_2 l0 l1 l2 x7_1 x22_1 = some r ∧ Has tm [(2, v2), (4, .fel (v1 :: [])), (7, pv43), (8, .fn 93 [.fel (v1 :: [])]), (9, .fn 101 [.fel (v1 :: [])]), (10, .lit (.int .i64 x22_1)), (11, .ptr i9 0), (20, v0), (21, .lit (.int .i64 (l0.length : Int))), (22, .lit (.int .i64 x22_1)), (64, .lit (.int .i64 ((List.replicate (l1.length : Int).toNat false).length : Int))), (65, .lit (.int .i64 x65q6_2))] ∧ Vec cBool x7hq6_3 pv42 S ∧ Hol cBool x7_1 x22_1 pv42 pv43 S ∧ Box (.ptr i9 0) [.lit (.int .i64 ((rd_ITree l0 x22_1).f0)), .lit (.int .i64 ((rd_ITree l0 x22_1).f1)), .lit (.int .i64 ((rd_ITree l0 x22_1).f2)), .lit (.int .i64 ((rd_ITree l0 x22_1).f3))] S ∧ Ap pv42 pv43 ∧ Ap pv42 (.ptr i9 0) ∧ Ap pv43 (.ptr i9 0)) ?_ ?_ ?_)
     · exact ⟨Nat.le_refl _, _, _, _, _, _, H, ⟨rfl, rfl, rfl, rfl, rfl, rfl, rfl, rfl, rfl, rfl, rfl, rfl, trivial⟩, h175, h173, h174, ap27.symm, ap28.symm, ap2⟩
     ·
      rintro tm S ⟨_, _, _, _, _, _, H, -⟩
      simp [impl_treeRows.l4] at H
     ·
      rintro n5 ih5 tm S ⟨hle, x7hq6_3, x65q6_2, pv42, pv43, i9, H, hh, h178, h179, h180, ap29, ap30, ap31⟩
      simp only [impl_treeRows.l4] at H
      rw [hh.eq]
      refine Evr.sr rfl (Opl.p1 (n := Opl.nil (Evr.seq ?_)))
      by_cases c98 : x65q6_2 < ((List.replicate (l1.length : Int).toNat false).length : Int)
      case neg =>
       rw [if_neg c98] at H
       have e40 : (decide (x65q6_2 < ((List.replicate (l1.length : Int).toNat false).length : Int))) = false := by simpa using c98
       try rw [e40]
       refine Evr.condF rfl (Evr.exit rfl ?_)
       refine Evr.frzh h179 h178 ap29 ?_
       rintro S1_ S u36 u37 h199
       have h200 := u37.box (u36.box h180 ap30.symm) ap31.symm
       exact hk11 _ _ ⟨_, _, _, H, by omega, ⟨rfl, rfl, rfl, rfl, rfl, rfl, rfl, rfl, trivial⟩, h199⟩
      rw [if_pos c98] at H
      have e37 : (decide (x65q6_2 < ((List.replicate (l1.length : Int).toNat false).length : Int))) = true := by simpa using c98
      try rw [e37]
      refine Evr.condT rfl (Evr.skip (Evr.seq (Evr.block (Evr.sr rfl (Opl.p1 (n := Opl.p1 (n := Opl.nil ?_)))))))
      refine Evr.join (fun tm S => ∃ (kq12 : Nat) (x7hq6_4 : List Bool) (pv44 : PV) (pv45 : PV) (i10 : Abs.Id), impl_treeRows.l4 kq12 x7hq6_4 (wrap64 (x65q6_2 + 1)) l0 l1 l2 x7_1 x22_1 = some r ∧ kq12 ≤ n5 ∧ Has tm [(2, v2), (4, .fel (v1 :: [])), (7, pv45), (8, .fn 93 [.fel (v1 :: [])]), (9, .fn 101 [.fel (v1 :: [])]), (10, .lit (.int .i64 x22_1)), (11, .ptr i10 0), (20, v0), (21, .lit (.int .i64 (l0.length : Int))), (22, .lit (.int .i64 x22_1)), (64, .lit (.int .i64 ((List.replicate (l1.length : Int).toNat false).length : Int))), (65, .lit (.int .i64 x65q6_2))] ∧ Vec cBool x7hq6_4 pv44 S ∧ Hol cBool x7_1 x22_1 pv44 pv45 S ∧ Box (.ptr i10 0) [.lit (.int .i64 ((rd_ITree l0 x22_1).f0)), .lit (.int .i64 ((rd_ITree l0 x22_1).f1)), .lit (.int .i64 ((rd_ITree l0 x22_1).f2)), .lit (.int .i64 ((rd_ITree l0 x22_1).f3))] S ∧ Ap pv44 pv45 ∧ Ap pv44 (.ptr i10 0) ∧ Ap pv45 (.ptr i10 0)) ?_ fun hk12 => ?_
      ·
       rintro tm S ⟨kq12, x7hq6_4, pv44, pv45, i10, H, hle, hh, h181, h182, h183, ap32, ap33, ap34⟩
       rw [hh.eq]
       refine Evr.inBlock (Evr.regionN rfl (Opl.add (k := .i64) (a := x65q6_2) (b := 1) K3 rfl rfl rfl rfl (Opl.one (v := .lit (.int .i64 (wrap64 (x65q6_2 + 1)))) rfl rfl rfl (Opl.nil ?_))))
       exact ih5 _ (by omega) _ _ ⟨by omega, _, _, _, _, _, H, ⟨rfl, rfl, rfl, rfl, rfl, rfl, rfl, rfl, rfl, rfl, rfl, rfl, trivial⟩, h181, h182, h183, ap32, ap33, ap34⟩
      ·
       refine Evr.regionL [(12, .p), (16, .p), (6, .q), (14, .q)] rfl (by kernel_rfl) (Opl.p1 (n := Opl.p1 (n := ?_)))
       obtain ⟨c99, H⟩ := peel H
       obtain ⟨c100, H⟩ := peel H
       refine Opl.idh h179 rfl rfl K77 Z78 rfl rfl ?_
       rintro d28 z28 h184 h185
       refine Opl.ldh h184 h185 rfl T78 rfl rfl rfl rfl (Opl.p1 (n := Opl.p1 (v := .ptr i9 0) (n := Opl.ldbk (v := .lit (.int .i64 ((rd_ITree l0 x22_1).f0))) h180 rd3 rfl T3 rfl rfl rfl rfl (Opl.p1 (n := Opl.p1 (n := ?_))))))
       by_cases c101 : ((rd_ITree l0 x22_1).f0) = 0
       case pos =>
        rw [if_pos c101] at H
        have e38 : (((rd_ITree l0 x22_1).f0) == 0) = true := by simpa using c101
        try rw [e38]
        refine Opl.skp rfl (Opl.skp rfl (Opl.skp rfl (Opl.skp rfl (Opl.skp rfl (Opl.skp rfl (Opl.skp rfl (Opl.skp rfl (Opl.skp rfl (Opl.p1 (n := ?_))))))))))
        obtain ⟨c102, H⟩ := peel H
        obtain ⟨c103, H⟩ := peel H
        refine Opl.idv (M := cBool) (xs := x7hq6_3) (j := x65q6_2) (v := pv42) h178 rfl rfl (by omega) (by omega) K78 Z4 rfl rfl ?_
        rintro d29 z29 q30 h186 h187
        refine Opl.stv (M := cBool) (xs := x7hq6_3) (j := x65q6_2) (y := true) (vs := [.lit (.bool true)]) h186 h187 (by omega) (by omega) rfl rfl (by exact rfl) Z4 rfl rfl rfl rfl ?_
        rw [← q30]
        rintro S h188 u34
        have h189 := u34.hol h179 ap29.symm
        have h190 := u34.box h180 ap30.symm
        refine Opl.nil ?_
        exact hk12 _ _ ⟨_, _, _, _, _, H, by omega, ⟨rfl, rfl, rfl, rfl, rfl, rfl, rfl, rfl, rfl, rfl, rfl, rfl, trivial⟩, h188, h189, h190, ap29, ap30, ap31⟩
       rw [if_neg c101] at H
       have e39 : (((rd_ITree l0 x22_1).f0) == 0) = false := by simpa using c101
       try rw [e39]
       refine Opl.p1 (n := Opl.p1 (n := ?_))
       obtain ⟨c104, H⟩ := peel H
       obtain ⟨c105, H⟩ := peel H
       obtain ⟨c106, H⟩ := peel H
       obtain ⟨c107, H⟩ := peel H
       obtain ⟨c108, H⟩ := peel H
       obtain ⟨c109, H⟩ := peel H
       refine Opl.idx (M := (cSl (cInt .i64))) (xs := l2) (j := x65q6_2) ([] : List Int) (by exact hv2) rfl (by omega) (by omega) K23 Z26 rfl rfl ?_
       rintro p10 q31 h191
       obtain ⟨pv46, rfl, h192⟩ := h191
       refine Opl.ldp (pv46) rfl T26 rfl rfl rfl (Opl.p1 (v := .ptr i9 1) (n := Opl.ldbk (v := .lit (.int .i64 ((rd_ITree l0 x22_1).f1))) h180 rd3 rfl T3 rfl rfl rfl rfl (Opl.idx (M := (cInt .i64)) (xs := (rd_Lint l2 x65q6_2)) (j := ((rd_ITree l0 x22_1).f1)) (0 : Int) (by exact h192) rfl (by omega) (by omega) K26 Z3 rfl rfl ?_)))
       rintro p11 q32 h193
       obtain rfl : p11 = [.lit (.int .i64 (rd (rd_Lint l2 x65q6_2) ((rd_ITree l0 x22_1).f1)))] := h193
       refine Opl.ldp (.lit (.int .i64 (rd (rd_Lint l2 x65q6_2) ((rd_ITree l0 x22_1).f1)))) rfl T3 rfl rfl rfl (Opl.p1 (n := Opl.p1 (n := Opl.idv (M := cBool) (xs := x7hq6_3) (j := x65q6_2) (v := pv42) h178 rfl rfl (by omega) (by omega) K78 Z4 rfl rfl ?_)))
       rintro d30 z30 q33 h194 h195
       refine Opl.stv (M := cBool) (xs := x7hq6_3) (j := x65q6_2) (y := (rd (rd_Lint l2 x65q6_2) ((rd_ITree l0 x22_1).f1)) == 1) (vs := [.lit (.bool ((rd (rd_Lint l2 x65q6_2) ((rd_ITree l0 x22_1).f1)) == 1))]) h194 h195 (by omega) (by omega) rfl rfl (by exact rfl) Z4 rfl rfl rfl rfl ?_
       rw [← q33]
       rintro S h196 u35
       have h197 := u35.hol h179 ap29.symm
       have h198 := u35.box h180 ap30.symm
       refine Opl.nil ?_
       exact hk12 _ _ ⟨_, _, _, _, _, H, by omega, ⟨rfl, rfl, rfl, rfl, rfl, rfl, rfl, rfl, rfl, rfl, rfl, rfl, trivial⟩, h196, h197, h198, ap29, ap30, ap31⟩
    rw [if_neg c91] at H
    have e41 : (((rd_ITree l0 x22_1).f0) == 1) = false := by simpa using c91
    try rw [e41]
    refine Evr.condF rfl (Evr.sr rfl (Opl.p1 (n := Opl.p1 (n := Opl.nil ?_))))
    refine Evr.join (fun tm S => ∃ (kq13 : Nat) (x7_10 : List (List Bool)) (pv47 : PV), impl_treeRows.l1 kq13 x7_10 (wrap64 (x22_1 + 1)) l0 l1 l2 = some r ∧ kq13 ≤ k2 ∧ Has tm [(2, v2), (4, .fel (v1 :: [])), (7, pv47), (8, .fn 93 [.fel (v1 :: [])]), (9, .fn 101 [.fel (v1 :: [])]), (20, v0), (21, .lit (.int .i64 (l0.length : Int))), (22, .lit (.int .i64 x22_1))] ∧ Vec (cSl cBool) x7_10 pv47 S) ?_ fun hk13 => ?_
    ·
     rintro tm S ⟨kq13, x7_10, pv47, H, hle, hh, h201⟩
     rw [hh.eq]
     exact hk11 _ _ ⟨_, _, _, H, by omega, ⟨rfl, rfl, rfl, rfl, rfl, rfl, rfl, rfl, trivial⟩, h201⟩
    ·
     by_cases c110 : ((rd_ITree l0 x22_1).f0) = 2
     case pos =>
      rw [if_pos c110] at H
      have e42 : (((rd_ITree l0 x22_1).f0) == 2) = true := by simpa using c110
      try rw [e42]
      refine Evr.condT rfl (Evr.regionN rfl (Opl.p1 (n := Opl.p1 (n := Opl.p1 (n := ?_)))))
      obtain ⟨r1, h_r1, H⟩ := Option.bind_eq_some_iff.1 H
      refine Opl.call ((impl_not.ev .nil h_r1).mono fun _ _ h => Out.vec h) rfl rfl rfl rfl ⟨(.lit _), trivial⟩ (by decide) ?_
      rintro pv48 h202
      obtain ⟨c111, H⟩ := peel H
      obtain ⟨c112, H⟩ := peel H
      refine Opl.idv (M := (cSl cBool)) (xs := x7_1) (j := x22_1) (v := pv2) h10 rfl rfl (by omega) (by omega) K77 Z78 rfl rfl ?_
      rintro d31 z31 q34 h203 h204
      refine Opl.stv (M := (cSl cBool)) (xs := x7_1) (j := x22_1) (y := r1) (vs := [pv48]) h203 h204 (by omega) (by omega) rfl (by exact h202.cells) (by exact ⟨_, by first | rfl | exact h202.cells, h202⟩) Z78 (by simp only [List.all_cons, List.all_nil, h202.one, Bool.and_true, Bool.true_and] <;> rfl) rfl rfl rfl ?_
      rw [← q34]
      rintro S h205 u38
      have h206 := u38.box h9 ap2.symm
      refine Opl.nil ?_
      exact hk13 _ _ ⟨_, _, _, H, by omega, ⟨rfl, rfl, rfl, rfl, rfl, rfl, rfl, rfl, trivial⟩, h205⟩
     rw [if_neg c110] at H
     have e43 : (((rd_ITree l0 x22_1).f0) == 2) = false := by simpa using c110
     try rw [e43]
     refine Evr.condF rfl (Evr.sr rfl (Opl.p1 (n := Opl.p1 (n := Opl.nil ?_))))
     refine Evr.join (fun tm S => ∃ (kq14 : Nat) (x7_11 : List (List Bool)) (pv49 : PV), impl_treeRows.l1 kq14 x7_11 (wrap64 (x22_1 + 1)) l0 l1 l2 = some r ∧ kq14 ≤ k2 ∧ Has tm [(2, v2), (4, .fel (v1 :: [])), (7, pv49), (8, .fn 93 [.fel (v1 :: [])]), (9, .fn 101 [.fel (v1 :: [])]), (20, v0), (21, .lit (.int .i64 (l0.length : Int))), (22, .lit (.int .i64 x22_1))] ∧ Vec (cSl cBool) x7_11 pv49 S) ?_ fun hk14 => ?_
     ·
      rintro tm S ⟨kq14, x7_11, pv49, H, hle, hh, h207⟩
      rw [hh.eq]
      exact hk13 _ _ ⟨_, _, _, H, by omega, ⟨rfl, rfl, rfl, rfl, rfl, rfl, rfl, rfl, trivial⟩, h207⟩
     ·
      by_cases c113 : ((rd_ITree l0 x22_1).f0) = 3
      case pos =>
       rw [if_pos c113] at H
       have e44 : (((rd_ITree l0 x22_1).f0) == 3) = true := by simpa using c113
       try rw [e44]
       refine Evr.condT rfl (Evr.regionN rfl (Opl.p1 (n := Opl.p1 (n := Opl.p1 (n := Opl.p1 (n := ?_))))))
       obtain ⟨r2, h_r2, H⟩ := Option.bind_eq_some_iff.1 H
       refine Opl.call ((impl_each_at_impl_treeRows_3.ev .nil .nil h_r2).mono fun _ _ h => Out.vec h) rfl rfl rfl rfl ⟨(.lit _), (.lit _), (.lit _), trivial⟩ (by decide) ?_
       rintro pv50 h208
       obtain ⟨c114, H⟩ := peel H
       obtain ⟨c115, H⟩ := peel H
       refine Opl.idv (M := (cSl cBool)) (xs := x7_1) (j := x22_1) (v := pv2) h10 rfl rfl (by omega) (by omega) K77 Z78 rfl rfl ?_
       rintro d32 z32 q35 h209 h210
       refine Opl.stv (M := (cSl cBool)) (xs := x7_1) (j := x22_1) (y := r2) (vs := [pv50]) h209 h210 (by omega) (by omega) rfl (by exact h208.cells) (by exact ⟨_, by first | rfl | exact h208.cells, h208⟩) Z78 (by simp only [List.all_cons, List.all_nil, h208.one, Bool.and_true, Bool.true_and] <;> rfl) rfl rfl rfl ?_
       rw [← q35]
       rintro S h211 u39
       have h212 := u39.box h9 ap2.symm
       refine Opl.nil ?_
       exact hk14 _ _ ⟨_, _, _, H, by omega, ⟨rfl, rfl, rfl, rfl, rfl, rfl, rfl, rfl, trivial⟩, h211⟩
      rw [if_neg c113] at H
      have e45 : (((rd_ITree l0 x22_1).f0) == 3) = false := by simpa using c113
      try rw [e45]
      refine Evr.condF rfl (Evr.sr rfl (Opl.p1 (n := Opl.p1 (n := Opl.nil ?_))))
      refine Evr.join (fun tm S => ∃ (kq15 : Nat) (x7_12 : List (List Bool)) (pv51 : PV), impl_treeRows.l1 kq15 x7_12 (wrap64 (x22_1 + 1)) l0 l1 l2 = some r ∧ kq15 ≤ k2 ∧ Has tm [(2, v2), (4, .fel (v1 :: [])), (7, pv51), (8, .fn 93 [.fel (v1 :: [])]), (9, .fn 101 [.fel (v1 :: [])]), (20, v0), (21, .lit (.int .i64 (l0.length : Int))), (22, .lit (.int .i64 x22_1))] ∧ Vec (cSl cBool) x7_12 pv51 S) ?_ fun hk15 => ?_
      ·
       rintro tm S ⟨kq15, x7_12, pv51, H, hle, hh, h213⟩
       rw [hh.eq]
       exact hk14 _ _ ⟨_, _, _, H, by omega, ⟨rfl, rfl, rfl, rfl, rfl, rfl, rfl, rfl, trivial⟩, h213⟩
      ·
       by_cases c116 : ((rd_ITree l0 x22_1).f0) = 4
       case pos =>
        rw [if_pos c116] at H
        have e46 : (((rd_ITree l0 x22_1).f0) == 4) = true := by simpa using c116
        try rw [e46]
        refine Evr.condT rfl (Evr.regionN rfl (Opl.p1 (n := Opl.p1 (n := Opl.p1 (n := Opl.p1 (n := ?_))))))
        obtain ⟨r3, h_r3, H⟩ := Option.bind_eq_some_iff.1 H
        refine Opl.call ((impl_each_at_impl_treeRows_4.ev .nil .nil h_r3).mono fun _ _ h => Out.vec h) rfl rfl rfl rfl ⟨(.lit _), (.lit _), (.lit _), trivial⟩ (by decide) ?_
        rintro pv52 h214
        obtain ⟨c117, H⟩ := peel H
        obtain ⟨c118, H⟩ := peel H
        refine Opl.idv (M := (cSl cBool)) (xs := x7_1) (j := x22_1) (v := pv2) h10 rfl rfl (by omega) (by omega) K77 Z78 rfl rfl ?_
        rintro d33 z33 q36 h215 h216
        refine Opl.stv (M := (cSl cBool)) (xs := x7_1) (j := x22_1) (y := r3) (vs := [pv52]) h215 h216 (by omega) (by omega) rfl (by exact h214.cells) (by exact ⟨_, by first | rfl | exact h214.cells, h214⟩) Z78 (by simp only [List.all_cons, List.all_nil, h214.one, Bool.and_true, Bool.true_and] <;> rfl) rfl rfl rfl ?_
        rw [← q36]
        rintro S h217 u40
        have h218 := u40.box h9 ap2.symm
        refine Opl.nil ?_
        exact hk15 _ _ ⟨_, _, _, H, by omega, ⟨rfl, rfl, rfl, rfl, rfl, rfl, rfl, rfl, trivial⟩, h217⟩
       rw [if_neg c116] at H
       have e47 : (((rd_ITree l0 x22_1).f0) == 4) = false := by simpa using c116
       try rw [e47]
       refine Evr.condF rfl (Evr.sr rfl (Opl.p1 (n := Opl.p1 (n := Opl.nil ?_))))
       refine Evr.join (fun tm S => ∃ (kq16 : Nat) (x7_13 : List (List Bool)) (pv53 : PV), impl_treeRows.l1 kq16 x7_13 (wrap64 (x22_1 + 1)) l0 l1 l2 = some r ∧ kq16 ≤ k2 ∧ Has tm [(2, v2), (4, .fel (v1 :: [])), (7, pv53), (8, .fn 93 [.fel (v1 :: [])]), (9, .fn 101 [.fel (v1 :: [])]), (20, v0), (21, .lit (.int .i64 (l0.length : Int))), (22, .lit (.int .i64 x22_1))] ∧ Vec (cSl cBool) x7_13 pv53 S) ?_ fun hk16 => ?_
       ·
        rintro tm S ⟨kq16, x7_13, pv53, H, hle, hh, h219⟩
        rw [hh.eq]
        exact hk15 _ _ ⟨_, _, _, H, by omega, ⟨rfl, rfl, rfl, rfl, rfl, rfl, rfl, rfl, trivial⟩, h219⟩
       ·
        by_cases c119 : ((rd_ITree l0 x22_1).f0) = 5
        case pos =>
         rw [if_pos c119] at H
         have e48 : (((rd_ITree l0 x22_1).f0) == 5) = true := by simpa using c119
         try rw [e48]
         refine Evr.condT rfl (Evr.regionN rfl (Opl.p1 (n := Opl.p1 (n := Opl.lda (v1) rfl T23 rfl rfl rfl rfl (Opl.p1 (n := ?_))))))
         obtain ⟨r4, h_r4, H⟩ := Option.bind_eq_some_iff.1 H
         refine Opl.call ((impl_some.ev hv1 .nil h_r4).mono fun _ _ h => Out.vec h) rfl rfl rfl rfl ⟨hv1.plain, (.lit _), trivial⟩ (by decide) ?_
         rintro pv54 h220
         obtain ⟨c120, H⟩ := peel H
         obtain ⟨c121, H⟩ := peel H
         refine Opl.idv (M := (cSl cBool)) (xs := x7_1) (j := x22_1) (v := pv2) h10 rfl rfl (by omega) (by omega) K77 Z78 rfl rfl ?_
         rintro d34 z34 q37 h221 h222
         refine Opl.stv (M := (cSl cBool)) (xs := x7_1) (j := x22_1) (y := r4) (vs := [pv54]) h221 h222 (by omega) (by omega) rfl (by exact h220.cells) (by exact ⟨_, by first | rfl | exact h220.cells, h220⟩) Z78 (by simp only [List.all_cons, List.all_nil, h220.one, Bool.and_true, Bool.true_and] <;> rfl) rfl rfl rfl ?_
         rw [← q37]
         rintro S h223 u41
         have h224 := u41.box h9 ap2.symm
         refine Opl.nil ?_
         exact hk16 _ _ ⟨_, _, _, H, by omega, ⟨rfl, rfl, rfl, rfl, rfl, rfl, rfl, rfl, trivial⟩, h223⟩
        rw [if_neg c119] at H
        have e49 : (((rd_ITree l0 x22_1).f0) == 5) = false := by simpa using c119
        try rw [e49]
        refine Evr.condF rfl (Evr.sr rfl (Opl.p1 (n := Opl.p1 (n := Opl.nil ?_))))
        refine Evr.join (fun tm S => ∃ (kq17 : Nat) (x7_14 : List (List Bool)) (pv55 : PV), impl_treeRows.l1 kq17 x7_14 (wrap64 (x22_1 + 1)) l0 l1 l2 = some r ∧ kq17 ≤ k2 ∧ Has tm [(2, v2), (4, .fel (v1 :: [])), (7, pv55), (8, .fn 93 [.fel (v1 :: [])]), (9, .fn 101 [.fel (v1 :: [])]), (20, v0), (21, .lit (.int .i64 (l0.length : Int))), (22, .lit (.int .i64 x22_1))] ∧ Vec (cSl cBool) x7_14 pv55 S) ?_ fun hk17 => ?_
        ·
         rintro tm S ⟨kq17, x7_14, pv55, H, hle, hh, h225⟩
         rw [hh.eq]
         exact hk16 _ _ ⟨_, _, _, H, by omega, ⟨rfl, rfl, rfl, rfl, rfl, rfl, rfl, rfl, trivial⟩, h225⟩
        ·
         by_cases c122 : ((rd_ITree l0 x22_1).f0) = 8
         case pos =>
          rw [if_pos c122] at H
          have e50 : (((rd_ITree l0 x22_1).f0) == 8) = true := by simpa using c122
          try rw [e50]
          refine Evr.condT rfl (Evr.regionL [(2, .p)] rfl (by kernel_rfl) (Opl.p1 (n := Opl.p1 (n := Opl.ldp (v1) rfl T23 rfl rfl rfl (Opl.p1 (n := ?_))))))
          obtain ⟨r5, h_r5, H⟩ := Option.bind_eq_some_iff.1 H
          refine Opl.call ((impl_not.ev .nil h_r5).mono fun _ _ h => Out.vec h) rfl rfl rfl rfl ⟨(.lit _), trivial⟩ (by decide) ?_
          rintro pv56 h226
          obtain ⟨r6, h_r6, H⟩ := Option.bind_eq_some_iff.1 H
          refine Opl.call ((impl_some.ev hv1 h226 h_r6).mono fun _ _ h => Out.vec h) rfl rfl rfl rfl ⟨hv1.plain, h226.plain, trivial⟩ (by decide) ?_
          rintro pv57 h227
          obtain ⟨r7, h_r7, H⟩ := Option.bind_eq_some_iff.1 H
          refine Opl.call ((impl_not.ev h227 h_r7).mono fun _ _ h => Out.vec h) rfl rfl rfl rfl ⟨h227.plain, trivial⟩ (by decide) ?_
          rintro pv58 h228
          obtain ⟨c123, H⟩ := peel H
          obtain ⟨c124, H⟩ := peel H
          refine Opl.idv (M := (cSl cBool)) (xs := x7_1) (j := x22_1) (v := pv2) h10 rfl rfl (by omega) (by omega) K77 Z78 rfl rfl ?_
          rintro d35 z35 q38 h229 h230
          refine Opl.stv (M := (cSl cBool)) (xs := x7_1) (j := x22_1) (y := r7) (vs := [pv58]) h229 h230 (by omega) (by omega) rfl (by exact h228.cells) (by exact ⟨_, by first | rfl | exact h228.cells, h228⟩) Z78 (by simp only [List.all_cons, List.all_nil, h228.one, Bool.and_true, Bool.true_and] <;> rfl) rfl rfl rfl ?_
          rw [← q38]
          rintro S h231 u42
          have h232 := u42.box h9 ap2.symm
          refine Opl.nil ?_
          exact hk17 _ _ ⟨_, _, _, H, by omega, ⟨rfl, rfl, rfl, rfl, rfl, rfl, rfl, rfl, trivial⟩, h231⟩
         rw [if_neg c122] at H
         have e51 : (((rd_ITree l0 x22_1).f0) == 8) = false := by simpa using c122
         try rw [e51]
         refine Evr.condF rfl (Evr.seq (Evr.sr rfl (Opl.p1 (n := Opl.p1 (n := Opl.nil ?_)))))
         by_cases c125 : ((rd_ITree l0 x22_1).f0) = 6
         case pos =>
          rw [if_pos c125] at H
          have e52 : (((rd_ITree l0 x22_1).f0) == 6) = true := by simpa using c125
          try rw [e52]
          refine Evr.condT rfl (Evr.skip (Evr.condT rfl (Evr.regionN rfl (Opl.p1 (n := Opl.p1 (n := Opl.p1 (n := Opl.p1 (n := Opl.p1 (n := Opl.p1 (v := .ptr i2 0) (n := Opl.ldb (v := .lit (.int .i64 ((rd_ITree l0 x22_1).f0))) h9 rfl T3 rfl rfl rfl rfl (Opl.p1 (n := ?_))))))))))))
          obtain ⟨r8, h_r8, H⟩ := Option.bind_eq_some_iff.1 H
          refine Opl.call (impl_treeRows_1.ev .nil .nil hv1 h_r8) rfl rfl rfl rfl ⟨(.lit _), (.lit _), (.lit _), (.felL ⟨hv1.plain, trivial⟩), trivial⟩ (by decide) ?_
          rintro pv59 h233
          obtain ⟨c126, H⟩ := peel H
          obtain ⟨c127, H⟩ := peel H
          refine Opl.idv (M := (cSl cBool)) (xs := x7_1) (j := x22_1) (v := pv2) h10 rfl rfl (by omega) (by omega) K77 Z78 rfl rfl ?_
          rintro d36 z36 q39 h234 h235
          refine Opl.stv (M := (cSl cBool)) (xs := x7_1) (j := x22_1) (y := r8) (vs := [pv59]) h234 h235 (by omega) (by omega) rfl (by exact h233.cells) (by exact ⟨_, by first | rfl | exact h233.cells, h233⟩) Z78 (by simp only [List.all_cons, List.all_nil, h233.one, Bool.and_true, Bool.true_and] <;> rfl) rfl rfl rfl ?_
          rw [← q39]
          rintro S h236 u43
          have h237 := u43.box h9 ap2.symm
          refine Opl.nil ?_
          exact hk17 _ _ ⟨_, _, _, H, by omega, ⟨rfl, rfl, rfl, rfl, rfl, rfl, rfl, rfl, trivial⟩, h236⟩
         rw [if_neg c125] at H
         have e53 : (((rd_ITree l0 x22_1).f0) == 6) = false := by simpa using c125
         try rw [e53]
         refine Evr.condF rfl (Evr.regionN rfl (Opl.p1 (n := Opl.p1 (n := Opl.nil ?_))))
         refine Evr.join (fun tm S => ∃ (kq18 : Nat) (x7_15 : List (List Bool)) (pv60 : PV), impl_treeRows.l1 kq18 x7_15 (wrap64 (x22_1 + 1)) l0 l1 l2 = some r ∧ kq18 ≤ k2 ∧ Has tm [(2, v2), (4, .fel (v1 :: [])), (7, pv60), (8, .fn 93 [.fel (v1 :: [])]), (9, .fn 101 [.fel (v1 :: [])]), (20, v0), (21, .lit (.int .i64 (l0.length : Int))), (22, .lit (.int .i64 x22_1))] ∧ Vec (cSl cBool) x7_15 pv60 S) ?_ fun hk18 => ?_
         ·
          rintro tm S ⟨kq18, x7_15, pv60, H, hle, hh, h238⟩
          rw [hh.eq]
          exact hk17 _ _ ⟨_, _, _, H, by omega, ⟨rfl, rfl, rfl, rfl, rfl, rfl, rfl, rfl, trivial⟩, h238⟩
         ·
          by_cases c128 : ((rd_ITree l0 x22_1).f0) = 9
          case neg =>
           rw [if_neg c128] at H
           have e55 : (((rd_ITree l0 x22_1).f0) == 9) = false := by simpa using c128
           try rw [e55]
           refine Evr.condF rfl (Evr.regionN rfl (Opl.p1 (n := Opl.p1 (n := Opl.p1 (n := Opl.p1 (n := Opl.p1 (v := .ptr i2 0) (n := Opl.ldb (v := .lit (.int .i64 ((rd_ITree l0 x22_1).f0))) h9 rfl T3 rfl rfl rfl rfl (Opl.p1 (n := ?_)))))))))
           obtain ⟨r10, h_r10, H⟩ := Option.bind_eq_some_iff.1 H
           refine Opl.call (impl_treeRows_2.ev .nil hv1 h_r10) rfl rfl rfl rfl ⟨(.lit _), (.lit _), (.felL ⟨hv1.plain, trivial⟩), trivial⟩ (by decide) ?_
           rintro pv62 h244
           obtain ⟨c131, H⟩ := peel H
           obtain ⟨c132, H⟩ := peel H
           refine Opl.idv (M := (cSl cBool)) (xs := x7_1) (j := x22_1) (v := pv2) h10 rfl rfl (by omega) (by omega) K77 Z78 rfl rfl ?_
           rintro d38 z38 q41 h245 h246
           refine Opl.stv (M := (cSl cBool)) (xs := x7_1) (j := x22_1) (y := r10) (vs := [pv62]) h245 h246 (by omega) (by omega) rfl (by exact h244.cells) (by exact ⟨_, by first | rfl | exact h244.cells, h244⟩) Z78 (by simp only [List.all_cons, List.all_nil, h244.one, Bool.and_true, Bool.true_and] <;> rfl) rfl rfl rfl ?_
           rw [← q41]
           rintro S h247 u45
           have h248 := u45.box h9 ap2.symm
           refine Opl.nil ?_
           exact hk18 _ _ ⟨_, _, _, H, by omega, ⟨rfl, rfl, rfl, rfl, rfl, rfl, rfl, rfl, trivial⟩, h247⟩
          rw [if_pos c128] at H
          have e54 : (((rd_ITree l0 x22_1).f0) == 9) = true := by simpa using c128
          try rw [e54]
          refine Evr.condT rfl (Evr.regionN rfl (Opl.p1 (n := Opl.p1 (n := Opl.p1 (n := Opl.p1 (n := Opl.p1 (n := Opl.p1 (v := .ptr i2 0) (n := Opl.ldb (v := .lit (.int .i64 ((rd_ITree l0 x22_1).f0))) h9 rfl T3 rfl rfl rfl rfl (Opl.p1 (n := ?_))))))))))
          obtain ⟨r9, h_r9, H⟩ := Option.bind_eq_some_iff.1 H
          refine Opl.call (impl_treeRows_1.ev .nil .nil hv1 h_r9) rfl rfl rfl rfl ⟨(.lit _), (.lit _), (.lit _), (.felL ⟨hv1.plain, trivial⟩), trivial⟩ (by decide) ?_
          rintro pv61 h239
          obtain ⟨c129, H⟩ := peel H
          obtain ⟨c130, H⟩ := peel H
          refine Opl.idv (M := (cSl cBool)) (xs := x7_1) (j := x22_1) (v := pv2) h10 rfl rfl (by omega) (by omega) K77 Z78 rfl rfl ?_
          rintro d37 z37 q40 h240 h241
          refine Opl.stv (M := (cSl cBool)) (xs := x7_1) (j := x22_1) (y := r9) (vs := [pv61]) h240 h241 (by omega) (by omega) rfl (by exact h239.cells) (by exact ⟨_, by first | rfl | exact h239.cells, h239⟩) Z78 (by simp only [List.all_cons, List.all_nil, h239.one, Bool.and_true, Bool.true_and] <;> rfl) rfl rfl rfl ?_
          rw [← q40]
          rintro S h242 u44
          have h243 := u44.box h9 ap2.symm
          refine Opl.nil ?_
          exact hk18 _ _ ⟨_, _, _, H, by omega, ⟨rfl, rfl, rfl, rfl, rfl, rfl, rfl, rfl, trivial⟩, h242⟩
  rw [if_pos c6] at H
  have e2 : (decide (((rd_ITree l0 x22_1).f0) > 1)) = true := by simpa using c6
  try rw [e2]
  refine Evr.condT rfl (Evr.regionD rfl (by kernel_rfl) (Opl.p1 (n := Opl.p1 (v := .ptr i2 2) (n := Opl.ldb (v := .lit (.int .i64 ((rd_ITree l0 x22_1).f2))) h9 rfl T3 rfl rfl rfl rfl ?_))))
  obtain ⟨c7, H⟩ := peel H
  obtain ⟨c8, H⟩ := peel H
  obtain ⟨c9, H⟩ := peel H
  obtain ⟨c10, H⟩ := peel H
  obtain _ | k1 := n1
  · simp [impl_treeRows.j2] at H
  simp only [impl_treeRows.j2] at H
  refine Opl.idv (M := (cSl cBool)) (xs := x7_1) (j := ((rd_ITree l0 x22_1).f2)) (v := pv2) h10 rfl rfl (by omega) (by omega) K77 Z78 rfl rfl ?_
  rintro d1 z1 q2 h11 h12
  refine Opl.ldv (M := (cSl cBool)) (xs := x7_1) (j := ((rd_ITree l0 x22_1).f2)) ([] : List Bool) h11 h12 (by omega) (by omega) rfl T78 rfl rfl rfl ?_
  rintro p2 q3 h13
  obtain ⟨pv3, rfl, h14⟩ := h13
  refine ⟨pv3, rfl, ?_⟩
  refine Opl.p1 (n := Opl.p1 (v := .ptr i2 3) (n := Opl.ldb (v := .lit (.int .i64 ((rd_ITree l0 x22_1).f3))) h9 rfl T3 rfl rfl rfl rfl (Opl.idv (M := (cSl cBool)) (xs := x7_1) (j := ((rd_ITree l0 x22_1).f3)) (v := pv2) h10 rfl rfl (by omega) (by omega) K77 Z78 rfl rfl ?_)))
  rintro d2 z2 q4 h15 h16
  refine Opl.ldv (M := (cSl cBool)) (xs := x7_1) (j := ((rd_ITree l0 x22_1).f3)) ([] : List Bool) h15 h16 (by omega) (by omega) rfl T78 rfl rfl rfl ?_
  rintro p3 q5 h17
  obtain ⟨pv4, rfl, h18⟩ := h17
  refine ⟨pv4, rfl, ?_⟩
  refine Opl.p1 (n := Opl.p1 (n := Opl.nil (Evr.sr rfl (Opl.p1 (v := .ptr i2 0) (n := Opl.ldb (v := .lit (.int .i64 ((rd_ITree l0 x22_1).f0))) h9 rfl T3 rfl rfl rfl rfl (Opl.nil (Evr.block (Evr.seq (Evr.sr rfl (Opl.p1 (n := Opl.p1 (n := Opl.nil ?_))))))))))))
  by_cases c11 : ((rd_ITree l0 x22_1).f0) = 0
  case pos =>
   rw [if_pos c11] at H
   have e3 : (((rd_ITree l0 x22_1).f0) == 0) = true := by simpa using c11
   try rw [e3]
   refine Evr.condT rfl (Evr.skip (Evr.condT rfl (Evr.sr rfl (Opl.p1 (n := Opl.p1 (n := Opl.lda (v1) rfl T23 rfl rfl rfl rfl (Opl.len (xs := l1) (by exact hv1) K23 rfl rfl rfl rfl ?_)))))))
   obtain ⟨c12, H⟩ := peel H
   obtain ⟨c13, H⟩ := peel H
   obtain ⟨c14, H⟩ := peel H
   obtain ⟨c15, H⟩ := peel H
   obtain ⟨c16, H⟩ := peel H
   obtain ⟨c17, H⟩ := peel H
   refine Opl.make (M := cBool) (m := (l1.length : Int)) false (by exact rfl) rfl rfl K78 T4 rfl (by omega) (by show ((l1.length : Int)).toNat * 1 ≤ 281474976710656; omega) (by omega) rfl rfl rfl ?_
   rintro pv5 S h19 u6 w5
   have ap3 := w5.vec h10
   have h20 := u6.vec h10 ap3
   have ap4 := w5.box h9
   have h21 := u6.box h9 ap4
   refine Opl.idv (M := (cSl cBool)) (xs := x7_1) (j := x22_1) (v := pv2) h20 rfl rfl (by omega) (by omega) K77 Z78 rfl rfl ?_
   rintro d3 z3 q6 h22 h23
   refine Opl.sthol (M := cBool) (xs := x7_1) (m := x22_1) h22 h23 (by omega) (by omega) rfl rfl h19 Z78 rfl rfl rfl ?_
   rw [← q6]
   rintro S h24 u7
   have h25 := u7.box h21 ap2.symm
   have h26 := u7.vec h19 ap3.symm
   refine Opl.nil (Evr.sr rfl (Opl.p1 (n := Opl.p1 (n := Opl.idh h24 rfl rfl K77 Z78 rfl rfl ?_))))
   rintro d4 z4 h27 h28
   refine Opl.ldh h27 h28 rfl T78 rfl rfl rfl rfl (Opl.lenv (xs := (List.replicate (l1.length : Int).toNat false)) (by exact h26) K78 rfl rfl rfl rfl (Opl.p1 (n := Opl.nil (Evr.block ?_))))
   refine Evr.loop (Evr.rounds (n := k1) (Inv := fun n tm S => n ≤ k1 ∧ ∃ (x7hq4_1 : List Bool) (x65q4_1 : Int) (pv6 : PV) (pv7 : PV) (i3 : Abs.Id), impl_treeRows.l3 n x7hq4_1 x65q4_1 l0 l1 l2 x7_1 x22_1 = some r ∧ Has tm [(2, v2), (4, .fel (v1 :: [])), (7, pv7), (8, .fn 93 [.fel (v1 :: [])]), (9, .fn 101 [.fel (v1 :: [])]), (10, .lit (.int .i64 x22_1)), (11, .ptr i3 0), (20, v0), (21, .lit (.int .i64 (l0.length : Int))), (22, .lit (.int .i64 x22_1)), (64, .lit (.int .i64 ((List.replicate (l1.length : Int).toNat false).length : Int))), (65, .lit (.int .i64 x65q4_1))] ∧ Vec cBool x7hq4_1 pv6 S ∧ Hol cBool x7_1 x22_1 pv6 pv7 S ∧ Box (.ptr i3 0) [.lit (.int .i64 ((rd_ITree l0 x22_1).f0)), .lit (.int .i64 ((rd_ITree l0 x22_1).f1)), .lit (.int .i64 ((rd_ITree l0 x22_1).f2)), .lit (.int .i64 ((rd_ITree l0 x22_1).f3))] S ∧ Ap pv6 pv7 ∧ Ap pv6 (.ptr i3 0) ∧ Ap pv7 (.ptr i3 0)) ?_ ?_ ?_)
   · exact ⟨Nat.le_refl _, _, _, _, _, _, H, ⟨rfl, rfl, rfl, rfl, rfl, rfl, rfl, rfl, rfl, rfl, rfl, rfl, trivial⟩, h26, h24, h25, ap3.symm, ap4.symm, ap2⟩
   ·
    rintro tm S ⟨_, _, _, _, _, _, H, -⟩
    simp [impl_treeRows.l3] at H
   ·
    rintro n2 ih2 tm S ⟨hle, x7hq4_1, x65q4_1, pv6, pv7, i3, H, hh, h29, h30, h31, ap5, ap6, ap7⟩
    simp only [impl_treeRows.l3] at H
    rw [hh.eq]
    refine Evr.sr rfl (Opl.p1 (n := Opl.nil (Evr.seq ?_)))
    by_cases c18 : x65q4_1 < ((List.replicate (l1.length : Int).toNat false).length : Int)
    case neg =>
     rw [if_neg c18] at H
     have e7 : (decide (x65q4_1 < ((List.replicate (l1.length : Int).toNat false).length : Int))) = false := by simpa using c18
     try rw [e7]
     refine Evr.condF rfl (Evr.exit rfl (Evr.inBlock (Evr.inBlock (Evr.regionN rfl (Opl.add (k := .i64) (a := x22_1) (b := 1) K3 rfl rfl rfl rfl (Opl.one (v := .lit (.int .i64 (wrap64 (x22_1 + 1)))) rfl rfl rfl (Opl.nil ?_)))))))
     refine Evr.frzh h30 h29 ap5 ?_
     rintro S1_ S u10 u11 h50
     have h51 := u11.box (u10.box h31 ap6.symm) ap7.symm
     exact ih1 _ (by omega) _ _ ⟨by omega, _, _, _, H, ⟨rfl, rfl, rfl, rfl, rfl, rfl, rfl, rfl, trivial⟩, h50⟩
    rw [if_pos c18] at H
    have e4 : (decide (x65q4_1 < ((List.replicate (l1.length : Int).toNat false).length : Int))) = true := by simpa using c18
    try rw [e4]
    refine Evr.condT rfl (Evr.skip (Evr.seq (Evr.block (Evr.sr rfl (Opl.p1 (n := Opl.p1 (n := Opl.nil ?_)))))))
    refine Evr.join (fun tm S => ∃ (kq1 : Nat) (x7hq4_2 : List Bool) (pv8 : PV) (pv9 : PV) (i4 : Abs.Id), impl_treeRows.l3 kq1 x7hq4_2 (wrap64 (x65q4_1 + 1)) l0 l1 l2 x7_1 x22_1 = some r ∧ kq1 ≤ n2 ∧ Has tm [(2, v2), (4, .fel (v1 :: [])), (7, pv9), (8, .fn 93 [.fel (v1 :: [])]), (9, .fn 101 [.fel (v1 :: [])]), (10, .lit (.int .i64 x22_1)), (11, .ptr i4 0), (20, v0), (21, .lit (.int .i64 (l0.length : Int))), (22, .lit (.int .i64 x22_1)), (64, .lit (.int .i64 ((List.replicate (l1.length : Int).toNat false).length : Int))), (65, .lit (.int .i64 x65q4_1))] ∧ Vec cBool x7hq4_2 pv8 S ∧ Hol cBool x7_1 x22_1 pv8 pv9 S ∧ Box (.ptr i4 0) [.lit (.int .i64 ((rd_ITree l0 x22_1).f0)), .lit (.int .i64 ((rd_ITree l0 x22_1).f1)), .lit (.int .i64 ((rd_ITree l0 x22_1).f2)), .lit (.int .i64 ((rd_ITree l0 x22_1).f3))] S ∧ Ap pv8 pv9 ∧ Ap pv8 (.ptr i4 0) ∧ Ap pv9 (.ptr i4 0)) ?_ fun hk1 => ?_
    ·
     rintro tm S ⟨kq1, x7hq4_2, pv8, pv9, i4, H, hle, hh, h32, h33, h34, ap8, ap9, ap10⟩
     rw [hh.eq]
     refine Evr.inBlock (Evr.regionN rfl (Opl.add (k := .i64) (a := x65q4_1) (b := 1) K3 rfl rfl rfl rfl (Opl.one (v := .lit (.int .i64 (wrap64 (x65q4_1 + 1)))) rfl rfl rfl (Opl.nil ?_))))
     exact ih2 _ (by omega) _ _ ⟨by omega, _, _, _, _, _, H, ⟨rfl, rfl, rfl, rfl, rfl, rfl, rfl, rfl, rfl, rfl, rfl, rfl, trivial⟩, h32, h33, h34, ap8, ap9, ap10⟩
    ·
     refine Evr.regionL [(12, .p), (16, .p), (6, .q), (14, .q)] rfl (by kernel_rfl) (Opl.p1 (n := Opl.p1 (n := ?_)))
     obtain ⟨c19, H⟩ := peel H
     obtain ⟨c20, H⟩ := peel H
     refine Opl.idh h30 rfl rfl K77 Z78 rfl rfl ?_
     rintro d5 z5 h35 h36
     refine Opl.ldh h35 h36 rfl T78 rfl rfl rfl rfl (Opl.p1 (n := Opl.p1 (v := .ptr i3 0) (n := Opl.ldbk (v := .lit (.int .i64 ((rd_ITree l0 x22_1).f0))) h31 rd3 rfl T3 rfl rfl rfl rfl (Opl.p1 (n := Opl.p1 (n := ?_))))))
     by_cases c21 : ((rd_ITree l0 x22_1).f0) = 0
     case pos =>
      rw [if_pos c21] at H
      have e5 : (((rd_ITree l0 x22_1).f0) == 0) = true := by simpa using c21
      try rw [e5]
      refine Opl.skp rfl (Opl.skp rfl (Opl.skp rfl (Opl.skp rfl (Opl.skp rfl (Opl.skp rfl (Opl.skp rfl (Opl.skp rfl (Opl.skp rfl (Opl.p1 (n := ?_))))))))))
      obtain ⟨c22, H⟩ := peel H
      obtain ⟨c23, H⟩ := peel H
      refine Opl.idv (M := cBool) (xs := x7hq4_1) (j := x65q4_1) (v := pv6) h29 rfl rfl (by omega) (by omega) K78 Z4 rfl rfl ?_
      rintro d6 z6 q7 h37 h38
      refine Opl.stv (M := cBool) (xs := x7hq4_1) (j := x65q4_1) (y := true) (vs := [.lit (.bool true)]) h37 h38 (by omega) (by omega) rfl rfl (by exact rfl) Z4 rfl rfl rfl rfl ?_
      rw [← q7]
      rintro S h39 u8
      have h40 := u8.hol h30 ap5.symm
      have h41 := u8.box h31 ap6.symm
      refine Opl.nil ?_
      exact hk1 _ _ ⟨_, _, _, _, _, H, by omega, ⟨rfl, rfl, rfl, rfl, rfl, rfl, rfl, rfl, rfl, rfl, rfl, rfl, trivial⟩, h39, h40, h41, ap5, ap6, ap7⟩
     rw [if_neg c21] at H
     have e6 : (((rd_ITree l0 x22_1).f0) == 0) = false := by simpa using c21
     try rw [e6]
     refine Opl.p1 (n := Opl.p1 (n := ?_))
     obtain ⟨c24, H⟩ := peel H
     obtain ⟨c25, H⟩ := peel H
     obtain ⟨c26, H⟩ := peel H
     obtain ⟨c27, H⟩ := peel H
     obtain ⟨c28, H⟩ := peel H
     obtain ⟨c29, H⟩ := peel H
     refine Opl.idx (M := (cSl (cInt .i64))) (xs := l2) (j := x65q4_1) ([] : List Int) (by exact hv2) rfl (by omega) (by omega) K23 Z26 rfl rfl ?_
     rintro p4 q8 h42
     obtain ⟨pv10, rfl, h43⟩ := h42
     refine Opl.ldp (pv10) rfl T26 rfl rfl rfl (Opl.p1 (v := .ptr i3 1) (n := Opl.ldbk (v := .lit (.int .i64 ((rd_ITree l0 x22_1).f1))) h31 rd3 rfl T3 rfl rfl rfl rfl (Opl.idx (M := (cInt .i64)) (xs := (rd_Lint l2 x65q4_1)) (j := ((rd_ITree l0 x22_1).f1)) (0 : Int) (by exact h43) rfl (by omega) (by omega) K26 Z3 rfl rfl ?_)))
     rintro p5 q9 h44
     obtain rfl : p5 = [.lit (.int .i64 (rd (rd_Lint l2 x65q4_1) ((rd_ITree l0 x22_1).f1)))] := h44
     refine Opl.ldp (.lit (.int .i64 (rd (rd_Lint l2 x65q4_1) ((rd_ITree l0 x22_1).f1)))) rfl T3 rfl rfl rfl (Opl.p1 (n := Opl.p1 (n := Opl.idv (M := cBool) (xs := x7hq4_1) (j := x65q4_1) (v := pv6) h29 rfl rfl (by omega) (by omega) K78 Z4 rfl rfl ?_)))
     rintro d7 z7 q10 h45 h46
     refine Opl.stv (M := cBool) (xs := x7hq4_1) (j := x65q4_1) (y := (rd (rd_Lint l2 x65q4_1) ((rd_ITree l0 x22_1).f1)) == 1) (vs := [.lit (.bool ((rd (rd_Lint l2 x65q4_1) ((rd_ITree l0 x22_1).f1)) == 1))]) h45 h46 (by omega) (by omega) rfl rfl (by exact rfl) Z4 rfl rfl rfl rfl ?_
     rw [← q10]
     rintro S h47 u9
     have h48 := u9.hol h30 ap5.symm
     have h49 := u9.box h31 ap6.symm
     refine Opl.nil ?_
     exact hk1 _ _ ⟨_, _, _, _, _, H, by omega, ⟨rfl, rfl, rfl, rfl, rfl, rfl, rfl, rfl, rfl, rfl, rfl, rfl, trivial⟩, h47, h48, h49, ap5, ap6, ap7⟩
  rw [if_neg c11] at H
  have e8 : (((rd_ITree l0 x22_1).f0) == 0) = false := by simpa using c11
  try rw [e8]
  refine Evr.condF rfl (Evr.regionN rfl (Opl.p1 (n := Opl.p1 (n := Opl.nil ?_))))
  refine Evr.join (fun tm S => ∃ (kq2 : Nat) (x7_2 : List (List Bool)) (pv11 : PV), impl_treeRows.l1 kq2 x7_2 (wrap64 (x22_1 + 1)) l0 l1 l2 = some r ∧ kq2 ≤ k1 ∧ Has tm [(2, v2), (4, .fel (v1 :: [])), (7, pv11), (8, .fn 93 [.fel (v1 :: [])]), (9, .fn 101 [.fel (v1 :: [])]), (20, v0), (21, .lit (.int .i64 (l0.length : Int))), (22, .lit (.int .i64 x22_1))] ∧ Vec (cSl cBool) x7_2 pv11 S) ?_ fun hk2 => ?_
  ·
   rintro tm S ⟨kq2, x7_2, pv11, H, hle, hh, h52⟩
   rw [hh.eq]
   refine Evr.inBlock (Evr.inBlock (Evr.regionN rfl (Opl.add (k := .i64) (a := x22_1) (b := 1) K3 rfl rfl rfl rfl (Opl.one (v := .lit (.int .i64 (wrap64 (x22_1 + 1)))) rfl rfl rfl (Opl.nil ?_)))))
   exact ih1 _ (by omega) _ _ ⟨by omega, _, _, _, H, ⟨rfl, rfl, rfl, rfl, rfl, rfl, rfl, rfl, trivial⟩, h52⟩
  ·
   by_cases c30 : ((rd_ITree l0 x22_1).f0) = 1
   case pos =>
    rw [if_pos c30] at H
    have e9 : (((rd_ITree l0 x22_1).f0) == 1) = true := by simpa using c30
    try rw [e9]
    refine Evr.condT rfl (Evr.sr rfl (Opl.p1 (n := Opl.p1 (n := Opl.lda (v1) rfl T23 rfl rfl rfl rfl (Opl.len (xs := l1) (by exact hv1) K23 rfl rfl rfl rfl ?_)))))
    obtain ⟨c31, H⟩ := peel H
    obtain ⟨c32, H⟩ := peel H
    obtain ⟨c33, H⟩ := peel H
    obtain ⟨c34, H⟩ := peel H
    obtain ⟨c35, H⟩ := peel H
    obtain ⟨c36, H⟩ := peel H
    refine Opl.make (M := cBool) (m := (l1.length : Int)) false (by exact rfl) rfl rfl K78 T4 rfl (by omega) (by show ((l1.length : Int)).toNat * 1 ≤ 281474976710656; omega) (by omega) rfl rfl rfl ?_
    rintro pv12 S h53 u12 w6
    have ap11 := w6.vec h10
    have h54 := u12.vec h10 ap11
    have ap12 := w6.box h9
    have h55 := u12.box h9 ap12
    refine Opl.idv (M := (cSl cBool)) (xs := x7_1) (j := x22_1) (v := pv2) h54 rfl rfl (by omega) (by omega) K77 Z78 rfl rfl ?_
    rintro d8 z8 q11 h56 h57
    refine Opl.sthol (M := cBool) (xs := x7_1) (m := x22_1) h56 h57 (by omega) (by omega) rfl rfl h53 Z78 rfl rfl rfl ?_
    rw [← q11]
    rintro S h58 u13
    have h59 := u13.box h55 ap2.symm
    have h60 := u13.vec h53 ap11.symm
    refine Opl.nil (Evr.sr rfl (Opl.p1 (n := Opl.p1 (n := Opl.idh h58 rfl rfl K77 Z78 rfl rfl ?_))))
    rintro d9 z9 h61 h62
    refine Opl.ldh h61 h62 rfl T78 rfl rfl rfl rfl (Opl.lenv (xs := (List.replicate (l1.length : Int).toNat false)) (by exact h60) K78 rfl rfl rfl rfl (Opl.p1 (n := Opl.nil (Evr.block ?_))))
    refine Evr.loop (Evr.rounds (n := k1) (Inv := fun n tm S => n ≤ k1 ∧ ∃ (x7hq6_1 : List Bool) (x65q6_1 : Int) (pv13 : PV) (pv14 : PV) (i5 : Abs.Id), impl_treeRows.l4 n x7hq6_1 x65q6_1 l0 l1 l2 x7_1 x22_1 = some r ∧ Has tm [(2, v2), (4, .fel (v1 :: [])), (7, pv14), (8, .fn 93 [.fel (v1 :: [])]), (9, .fn 101 [.fel (v1 :: [])]), (10, .lit (.int .i64 x22_1)), (11, .ptr i5 0), (20, v0), (21, .lit (.int .i64 (l0.length : Int))), (22, .lit (.int .i64 x22_1)), (64, .lit (.int .i64 ((List.replicate (l1.length : Int).toNat false).length : Int))), (65, .lit (.int .i64 x65q6_1))] ∧ Vec cBool x7hq6_1 pv13 S ∧ Hol cBool x7_1 x22_1 pv13 pv14 S ∧ Box (.ptr i5 0) [.lit (.int .i64 ((rd_ITree l0 x22_1).f0)), .lit (.int .i64 ((rd_ITree l0 x22_1).f1)), .lit (.int .i64 ((rd_ITree l0 x22_1).f2)), .lit (.int .i64 ((rd_ITree l0 x22_1).f3))] S ∧ Ap pv13 pv14 ∧ Ap pv13 (.ptr i5 0) ∧ Ap pv14 (.ptr i5 0)) ?_ ?_ ?_)
    · exact ⟨Nat.le_refl _, _, _, _, _, _, H, ⟨rfl, rfl, rfl, rfl, rfl, rfl, rfl, rfl, rfl, rfl, rfl, rfl, trivial⟩, h60, h58, h59, ap11.symm, ap12.symm, ap2⟩
    ·
     rintro tm S ⟨_, _, _, _, _, _, H, -⟩
     simp [impl_treeRows.l4] at H
    ·
     rintro n3 ih3 tm S ⟨hle, x7hq6_1, x65q6_1, pv13, pv14, i5, H, hh, h63, h64, h65, ap13, ap14, ap15⟩
     simp only [impl_treeRows.l4] at H
     rw [hh.eq]
     refine Evr.sr rfl (Opl.p1 (n := Opl.nil (Evr.seq ?_)))
     by_cases c37 : x65q6_1 < ((List.replicate (l1.length : Int).toNat false).length : Int)
     case neg =>
      rw [if_neg c37] at H
      have e13 : (decide (x65q6_1 < ((List.replicate (l1.length : Int).toNat false).length : Int))) = false := by simpa using c37
      try rw [e13]
      refine Evr.condF rfl (Evr.exit rfl ?_)
      refine Evr.frzh h64 h63 ap13 ?_
      rintro S1_ S u16 u17 h84
      have h85 := u17.box (u16.box h65 ap14.symm) ap15.symm
      exact hk2 _ _ ⟨_, _, _, H, by omega, ⟨rfl, rfl, rfl, rfl, rfl, rfl, rfl, rfl, trivial⟩, h84⟩
     rw [if_pos c37] at H
     have e10 : (decide (x65q6_1 < ((List.replicate (l1.length : Int).toNat false).length : Int))) = true := by simpa using c37
     try rw [e10]
     refine Evr.condT rfl (Evr.skip (Evr.seq (Evr.block (Evr.sr rfl (Opl.p1 (n := Opl.p1 (n := Opl.nil ?_)))))))
     refine Evr.join (fun tm S => ∃ (kq3 : Nat) (x7hq6_2 : List Bool) (pv15 : PV) (pv16 : PV) (i6 : Abs.Id), impl_treeRows.l4 kq3 x7hq6_2 (wrap64 (x65q6_1 + 1)) l0 l1 l2 x7_1 x22_1 = some r ∧ kq3 ≤ n3 ∧ Has tm [(2, v2), (4, .fel (v1 :: [])), (7, pv16), (8, .fn 93 [.fel (v1 :: [])]), (9, .fn 101 [.fel (v1 :: [])]), (10, .lit (.int .i64 x22_1)), (11, .ptr i6 0), (20, v0), (21, .lit (.int .i64 (l0.length : Int))), (22, .lit (.int .i64 x22_1)), (64, .lit (.int .i64 ((List.replicate (l1.length : Int).toNat false).length : Int))), (65, .lit (.int .i64 x65q6_1))] ∧ Vec cBool x7hq6_2 pv15 S ∧ Hol cBool x7_1 x22_1 pv15 pv16 S ∧ Box (.ptr i6 0) [.lit (.int .i64 ((rd_ITree l0 x22_1).f0)), .lit (.int .i64 ((rd_ITree l0 x22_1).f1)), .lit (.int .i64 ((rd_ITree l0 x22_1).f2)), .lit (.int .i64 ((rd_ITree l0 x22_1).f3))] S ∧ Ap pv15 pv16 ∧ Ap pv15 (.ptr i6 0) ∧ Ap pv16 (.ptr i6 0)) ?_ fun hk3 => ?_
     ·
      rintro tm S ⟨kq3, x7hq6_2, pv15, pv16, i6, H, hle, hh, h66, h67, h68, ap16, ap17, ap18⟩
      rw [hh.eq]
      refine Evr.inBlock (Evr.regionN rfl (Opl.add (k := .i64) (a := x65q6_1) (b := 1) K3 rfl rfl rfl rfl (Opl.one (v := .lit (.int .i64 (wrap64 (x65q6_1 + 1)))) rfl rfl rfl (Opl.nil ?_))))
      exact ih3 _ (by omega) _ _ ⟨by omega, _, _, _, _, _, H, ⟨rfl, rfl, rfl, rfl, rfl, rfl, rfl, rfl, rfl, rfl, rfl, rfl, trivial⟩, h66, h67, h68, ap16, ap17, ap18⟩
     ·
      refine Evr.regionL [(12, .p), (16, .p), (6, .q), (14, .q)] rfl (by kernel_rfl) (Opl.p1 (n := Opl.p1 (n := ?_)))
      obtain ⟨c38, H⟩ := peel H
      obtain ⟨c39, H⟩ := peel H
      refine Opl.idh h64 rfl rfl K77 Z78 rfl rfl ?_
      rintro d10 z10 h69 h70
      refine Opl.ldh h69 h70 rfl T78 rfl rfl rfl rfl (Opl.p1 (n := Opl.p1 (v := .ptr i5 0) (n := Opl.ldbk (v := .lit (.int .i64 ((rd_ITree l0 x22_1).f0))) h65 rd3 rfl T3 rfl rfl rfl rfl (Opl.p1 (n := Opl.p1 (n := ?_))))))
      by_cases c40 : ((rd_ITree l0 x22_1).f0) = 0
      case pos =>
       rw [if_pos c40] at H
       have e11 : (((rd_ITree l0 x22_1).f0) == 0) = true := by simpa using c40
       try rw [e11]
       refine Opl.skp rfl (Opl.skp rfl (Opl.skp rfl (Opl.skp rfl (Opl.skp rfl (Opl.skp rfl (Opl.skp rfl (Opl.skp rfl (Opl.skp rfl (Opl.p1 (n := ?_))))))))))
       obtain ⟨c41, H⟩ := peel H
       obtain ⟨c42, H⟩ := peel H
       refine Opl.idv (M := cBool) (xs := x7hq6_1) (j := x65q6_1) (v := pv13) h63 rfl rfl (by omega) (by omega) K78 Z4 rfl rfl ?_
       rintro d11 z11 q12 h71 h72
       refine Opl.stv (M := cBool) (xs := x7hq6_1) (j := x65q6_1) (y := true) (vs := [.lit (.bool true)]) h71 h72 (by omega) (by omega) rfl rfl (by exact rfl) Z4 rfl rfl rfl rfl ?_
       rw [← q12]
       rintro S h73 u14
       have h74 := u14.hol h64 ap13.symm
       have h75 := u14.box h65 ap14.symm
       refine Opl.nil ?_
       exact hk3 _ _ ⟨_, _, _, _, _, H, by omega, ⟨rfl, rfl, rfl, rfl, rfl, rfl, rfl, rfl, rfl, rfl, rfl, rfl, trivial⟩, h73, h74, h75, ap13, ap14, ap15⟩
      rw [if_neg c40] at H
      have e12 : (((rd_ITree l0 x22_1).f0) == 0) = false := by simpa using c40
      try rw [e12]
      refine Opl.p1 (n := Opl.p1 (n := ?_))
      obtain ⟨c43, H⟩ := peel H
      obtain ⟨c44, H⟩ := peel H
      obtain ⟨c45, H⟩ := peel H
      obtain ⟨c46, H⟩ := peel H
      obtain ⟨c47, H⟩ := peel H
      obtain ⟨c48, H⟩ := peel H
      refine Opl.idx (M := (cSl (cInt .i64))) (xs := l2) (j := x65q6_1) ([] : List Int) (by exact hv2) rfl (by omega) (by omega) K23 Z26 rfl rfl ?_
      rintro p6 q13 h76
      obtain ⟨pv17, rfl, h77⟩ := h76
      refine Opl.ldp (pv17) rfl T26 rfl rfl rfl (Opl.p1 (v := .ptr i5 1) (n := Opl.ldbk (v := .lit (.int .i64 ((rd_ITree l0 x22_1).f1))) h65 rd3 rfl T3 rfl rfl rfl rfl (Opl.idx (M := (cInt .i64)) (xs := (rd_Lint l2 x65q6_1)) (j := ((rd_ITree l0 x22_1).f1)) (0 : Int) (by exact h77) rfl (by omega) (by omega) K26 Z3 rfl rfl ?_)))
      rintro p7 q14 h78
      obtain rfl : p7 = [.lit (.int .i64 (rd (rd_Lint l2 x65q6_1) ((rd_ITree l0 x22_1).f1)))] := h78
      refine Opl.ldp (.lit (.int .i64 (rd (rd_Lint l2 x65q6_1) ((rd_ITree l0 x22_1).f1)))) rfl T3 rfl rfl rfl (Opl.p1 (n := Opl.p1 (n := Opl.idv (M := cBool) (xs := x7hq6_1) (j := x65q6_1) (v := pv13) h63 rfl rfl (by omega) (by omega) K78 Z4 rfl rfl ?_)))
      rintro d12 z12 q15 h79 h80
      refine Opl.stv (M := cBool) (xs := x7hq6_1) (j := x65q6_1) (y := (rd (rd_Lint l2 x65q6_1) ((rd_ITree l0 x22_1).f1)) == 1) (vs := [.lit (.bool ((rd (rd_Lint l2 x65q6_1) ((rd_ITree l0 x22_1).f1)) == 1))]) h79 h80 (by omega) (by omega) rfl rfl (by exact rfl) Z4 rfl rfl rfl rfl ?_
      rw [← q15]
      rintro S h81 u15
      have h82 := u15.hol h64 ap13.symm
      have h83 := u15.box h65 ap14.symm
      refine Opl.nil ?_
      exact hk3 _ _ ⟨_, _, _, _, _, H, by omega, ⟨rfl, rfl, rfl, rfl, rfl, rfl, rfl, rfl, rfl, rfl, rfl, rfl, trivial⟩, h81, h82, h83, ap13, ap14, ap15⟩
   rw [if_neg c30] at H
   have e14 : (((rd_ITree l0 x22_1).f0) == 1) = false := by simpa using c30
   try rw [e14]
   refine Evr.condF rfl (Evr.sr rfl (Opl.p1 (n := Opl.p1 (n := Opl.nil ?_))))
   refine Evr.join (fun tm S => ∃ (kq4 : Nat) (x7_3 : List (List Bool)) (pv18 : PV), impl_treeRows.l1 kq4 x7_3 (wrap64 (x22_1 + 1)) l0 l1 l2 = some r ∧ kq4 ≤ k1 ∧ Has tm [(2, v2), (4, .fel (v1 :: [])), (7, pv18), (8, .fn 93 [.fel (v1 :: [])]), (9, .fn 101 [.fel (v1 :: [])]), (20, v0), (21, .lit (.int .i64 (l0.length : Int))), (22, .lit (.int .i64 x22_1))] ∧ Vec (cSl cBool) x7_3 pv18 S) ?_ fun hk4 => ?_
   ·
    rintro tm S ⟨kq4, x7_3, pv18, H, hle, hh, h86⟩
    rw [hh.eq]
    exact hk2 _ _ ⟨_, _, _, H, by omega, ⟨rfl, rfl, rfl, rfl, rfl, rfl, rfl, rfl, trivial⟩, h86⟩
   ·
    by_cases c49 : ((rd_ITree l0 x22_1).f0) = 2
    case pos =>
     rw [if_pos c49] at H
     have e15 : (((rd_ITree l0 x22_1).f0) == 2) = true := by simpa using c49
     try rw [e15]
     refine Evr.condT rfl (Evr.regionN rfl (Opl.p1 (n := Opl.p1 (n := Opl.p1 (n := ?_)))))
     obtain ⟨r1, h_r1, H⟩ := Option.bind_eq_some_iff.1 H
     refine Opl.call ((impl_not.ev h14 h_r1).mono fun _ _ h => Out.vec h) rfl rfl rfl rfl ⟨h14.plain, trivial⟩ (by decide) ?_
     rintro pv19 h87
     obtain ⟨c50, H⟩ := peel H
     obtain ⟨c51, H⟩ := peel H
     refine Opl.idv (M := (cSl cBool)) (xs := x7_1) (j := x22_1) (v := pv2) h10 rfl rfl (by omega) (by omega) K77 Z78 rfl rfl ?_
     rintro d13 z13 q16 h88 h89
     refine Opl.stv (M := (cSl cBool)) (xs := x7_1) (j := x22_1) (y := r1) (vs := [pv19]) h88 h89 (by omega) (by omega) rfl (by exact h87.cells) (by exact ⟨_, by first | rfl | exact h87.cells, h87⟩) Z78 (by simp only [List.all_cons, List.all_nil, h87.one, Bool.and_true, Bool.true_and] <;> rfl) rfl rfl rfl ?_
     rw [← q16]
     rintro S h90 u18
     have h91 := u18.box h9 ap2.symm
     refine Opl.nil ?_
     exact hk4 _ _ ⟨_, _, _, H, by omega, ⟨rfl, rfl, rfl, rfl, rfl, rfl, rfl, rfl, trivial⟩, h90⟩
    rw [if_neg c49] at H
    have e16 : (((rd_ITree l0 x22_1).f0) == 2) = false := by simpa using c49
    try rw [e16]
    refine Evr.condF rfl (Evr.sr rfl (Opl.p1 (n := Opl.p1 (n := Opl.nil ?_))))
    refine Evr.join (fun tm S => ∃ (kq5 : Nat) (x7_4 : List (List Bool)) (pv20 : PV), impl_treeRows.l1 kq5 x7_4 (wrap64 (x22_1 + 1)) l0 l1 l2 = some r ∧ kq5 ≤ k1 ∧ Has tm [(2, v2), (4, .fel (v1 :: [])), (7, pv20), (8, .fn 93 [.fel (v1 :: [])]), (9, .fn 101 [.fel (v1 :: [])]), (20, v0), (21, .lit (.int .i64 (l0.length : Int))), (22, .lit (.int .i64 x22_1))] ∧ Vec (cSl cBool) x7_4 pv20 S) ?_ fun hk5 => ?_
    ·
     rintro tm S ⟨kq5, x7_4, pv20, H, hle, hh, h92⟩
     rw [hh.eq]
     exact hk4 _ _ ⟨_, _, _, H, by omega, ⟨rfl, rfl, rfl, rfl, rfl, rfl, rfl, rfl, trivial⟩, h92⟩
    ·
     by_cases c52 : ((rd_ITree l0 x22_1).f0) = 3
     case pos =>
      rw [if_pos c52] at H
      have e17 : (((rd_ITree l0 x22_1).f0) == 3) = true := by simpa using c52
      try rw [e17]
      refine Evr.condT rfl (Evr.regionN rfl (Opl.p1 (n := Opl.p1 (n := Opl.p1 (n := Opl.p1 (n := ?_))))))
      obtain ⟨r2, h_r2, H⟩ := Option.bind_eq_some_iff.1 H
      refine Opl.call ((impl_each_at_impl_treeRows_3.ev h14 h18 h_r2).mono fun _ _ h => Out.vec h) rfl rfl rfl rfl ⟨h14.plain, h18.plain, (.lit _), trivial⟩ (by decide) ?_
      rintro pv21 h93
      obtain ⟨c53, H⟩ := peel H
      obtain ⟨c54, H⟩ := peel H
      refine Opl.idv (M := (cSl cBool)) (xs := x7_1) (j := x22_1) (v := pv2) h10 rfl rfl (by omega) (by omega) K77 Z78 rfl rfl ?_
      rintro d14 z14 q17 h94 h95
      refine Opl.stv (M := (cSl cBool)) (xs := x7_1) (j := x22_1) (y := r2) (vs := [pv21]) h94 h95 (by omega) (by omega) rfl (by exact h93.cells) (by exact ⟨_, by first | rfl | exact h93.cells, h93⟩) Z78 (by simp only [List.all_cons, List.all_nil, h93.one, Bool.and_true, Bool.true_and] <;> rfl) rfl rfl rfl ?_
      rw [← q17]
      rintro S h96 u19
      have h97 := u19.box h9 ap2.symm
      refine Opl.nil ?_
      exact hk5 _ _ ⟨_, _, _, H, by omega, ⟨rfl, rfl, rfl, rfl, rfl, rfl, rfl, rfl, trivial⟩, h96⟩
     rw [if_neg c52] at H
     have e18 : (((rd_ITree l0 x22_1).f0) == 3) = false := by simpa using c52
     try rw [e18]
     refine Evr.condF rfl (Evr.sr rfl (Opl.p1 (n := Opl.p1 (n := Opl.nil ?_))))
     refine Evr.join (fun tm S => ∃ (kq6 : Nat) (x7_5 : List (List Bool)) (pv22 : PV), impl_treeRows.l1 kq6 x7_5 (wrap64 (x22_1 + 1)) l0 l1 l2 = some r ∧ kq6 ≤ k1 ∧ Has tm [(2, v2), (4, .fel (v1 :: [])), (7, pv22), (8, .fn 93 [.fel (v1 :: [])]), (9, .fn 101 [.fel (v1 :: [])]), (20, v0), (21, .lit (.int .i64 (l0.length : Int))), (22, .lit (.int .i64 x22_1))] ∧ Vec (cSl cBool) x7_5 pv22 S) ?_ fun hk6 => ?_
     ·
      rintro tm S ⟨kq6, x7_5, pv22, H, hle, hh, h98⟩
      rw [hh.eq]
      exact hk5 _ _ ⟨_, _, _, H, by omega, ⟨rfl, rfl, rfl, rfl, rfl, rfl, rfl, rfl, trivial⟩, h98⟩
     ·
      by_cases c55 : ((rd_ITree l0 x22_1).f0) = 4
      case pos =>
       rw [if_pos c55] at H
       have e19 : (((rd_ITree l0 x22_1).f0) == 4) = true := by simpa using c55
       try rw [e19]
       refine Evr.condT rfl (Evr.regionN rfl (Opl.p1 (n := Opl.p1 (n := Opl.p1 (n := Opl.p1 (n := ?_))))))
       obtain ⟨r3, h_r3, H⟩ := Option.bind_eq_some_iff.1 H
       refine Opl.call ((impl_each_at_impl_treeRows_4.ev h14 h18 h_r3).mono fun _ _ h => Out.vec h) rfl rfl rfl rfl ⟨h14.plain, h18.plain, (.lit _), trivial⟩ (by decide) ?_
       rintro pv23 h99
       obtain ⟨c56, H⟩ := peel H
       obtain ⟨c57, H⟩ := peel H
       refine Opl.idv (M := (cSl cBool)) (xs := x7_1) (j := x22_1) (v := pv2) h10 rfl rfl (by omega) (by omega) K77 Z78 rfl rfl ?_
       rintro d15 z15 q18 h100 h101
       refine Opl.stv (M := (cSl cBool)) (xs := x7_1) (j := x22_1) (y := r3) (vs := [pv23]) h100 h101 (by omega) (by omega) rfl (by exact h99.cells) (by exact ⟨_, by first | rfl | exact h99.cells, h99⟩) Z78 (by simp only [List.all_cons, List.all_nil, h99.one, Bool.and_true, Bool.true_and] <;> rfl) rfl rfl rfl ?_
       rw [← q18]
       rintro S h102 u20
       have h103 := u20.box h9 ap2.symm
       refine Opl.nil ?_
       exact hk6 _ _ ⟨_, _, _, H, by omega, ⟨rfl, rfl, rfl, rfl, rfl, rfl, rfl, rfl, trivial⟩, h102⟩
      rw [if_neg c55] at H
      have e20 : (((rd_ITree l0 x22_1).f0) == 4) = false := by simpa using c55
      try rw [e20]
      refine Evr.condF rfl (Evr.sr rfl (Opl.p1 (n := Opl.p1 (n := Opl.nil ?_))))
      refine Evr.join (fun tm S => ∃ (kq7 : Nat) (x7_6 : List (List Bool)) (pv24 : PV), impl_treeRows.l1 kq7 x7_6 (wrap64 (x22_1 + 1)) l0 l1 l2 = some r ∧ kq7 ≤ k1 ∧ Has tm [(2, v2), (4, .fel (v1 :: [])), (7, pv24), (8, .fn 93 [.fel (v1 :: [])]), (9, .fn 101 [.fel (v1 :: [])]), (20, v0), (21, .lit (.int .i64 (l0.length : Int))), (22, .lit (.int .i64 x22_1))] ∧ Vec (cSl cBool) x7_6 pv24 S) ?_ fun hk7 => ?_
      ·
       rintro tm S ⟨kq7, x7_6, pv24, H, hle, hh, h104⟩
       rw [hh.eq]
       exact hk6 _ _ ⟨_, _, _, H, by omega, ⟨rfl, rfl, rfl, rfl, rfl, rfl, rfl, rfl, trivial⟩, h104⟩
      ·
       by_cases c58 : ((rd_ITree l0 x22_1).f0) = 5
       case pos =>
        rw [if_pos c58] at H
        have e21 : (((rd_ITree l0 x22_1).f0) == 5) = true := by simpa using c58
        try rw [e21]
        refine Evr.condT rfl (Evr.regionN rfl (Opl.p1 (n := Opl.p1 (n := Opl.lda (v1) rfl T23 rfl rfl rfl rfl (Opl.p1 (n := ?_))))))
        obtain ⟨r4, h_r4, H⟩ := Option.bind_eq_some_iff.1 H
        refine Opl.call ((impl_some.ev hv1 h14 h_r4).mono fun _ _ h => Out.vec h) rfl rfl rfl rfl ⟨hv1.plain, h14.plain, trivial⟩ (by decide) ?_
        rintro pv25 h105
        obtain ⟨c59, H⟩ := peel H
        obtain ⟨c60, H⟩ := peel H
        refine Opl.idv (M := (cSl cBool)) (xs := x7_1) (j := x22_1) (v := pv2) h10 rfl rfl (by omega) (by omega) K77 Z78 rfl rfl ?_
        rintro d16 z16 q19 h106 h107
        refine Opl.stv (M := (cSl cBool)) (xs := x7_1) (j := x22_1) (y := r4) (vs := [pv25]) h106 h107 (by omega) (by omega) rfl (by exact h105.cells) (by exact ⟨_, by first | rfl | exact h105.cells, h105⟩) Z78 (by simp only [List.all_cons, List.all_nil, h105.one, Bool.and_true, Bool.true_and] <;> rfl) rfl rfl rfl ?_
        rw [← q19]
        rintro S h108 u21
        have h109 := u21.box h9 ap2.symm
        refine Opl.nil ?_
        exact hk7 _ _ ⟨_, _, _, H, by omega, ⟨rfl, rfl, rfl, rfl, rfl, rfl, rfl, rfl, trivial⟩, h108⟩
       rw [if_neg c58] at H
       have e22 : (((rd_ITree l0 x22_1).f0) == 5) = false := by simpa using c58
       try rw [e22]
       refine Evr.condF rfl (Evr.sr rfl (Opl.p1 (n := Opl.p1 (n := Opl.nil ?_))))
       refine Evr.join (fun tm S => ∃ (kq8 : Nat) (x7_7 : List (List Bool)) (pv26 : PV), impl_treeRows.l1 kq8 x7_7 (wrap64 (x22_1 + 1)) l0 l1 l2 = some r ∧ kq8 ≤ k1 ∧ Has tm [(2, v2), (4, .fel (v1 :: [])), (7, pv26), (8, .fn 93 [.fel (v1 :: [])]), (9, .fn 101 [.fel (v1 :: [])]), (20, v0), (21, .lit (.int .i64 (l0.length : Int))), (22, .lit (.int .i64 x22_1))] ∧ Vec (cSl cBool) x7_7 pv26 S) ?_ fun hk8 => ?_
       ·
        rintro tm S ⟨kq8, x7_7, pv26, H, hle, hh, h110⟩
        rw [hh.eq]
        exact hk7 _ _ ⟨_, _, _, H, by omega, ⟨rfl, rfl, rfl, rfl, rfl, rfl, rfl, rfl, trivial⟩, h110⟩
       ·
        by_cases c61 : ((rd_ITree l0 x22_1).f0) = 8
        case pos =>
         rw [if_pos c61] at H
         have e23 : (((rd_ITree l0 x22_1).f0) == 8) = true := by simpa using c61
         try rw [e23]
         refine Evr.condT rfl (Evr.regionL [(2, .p)] rfl (by kernel_rfl) (Opl.p1 (n := Opl.p1 (n := Opl.ldp (v1) rfl T23 rfl rfl rfl (Opl.p1 (n := ?_))))))
         obtain ⟨r5, h_r5, H⟩ := Option.bind_eq_some_iff.1 H
         refine Opl.call ((impl_not.ev h14 h_r5).mono fun _ _ h => Out.vec h) rfl rfl rfl rfl ⟨h14.plain, trivial⟩ (by decide) ?_
         rintro pv27 h111
         obtain ⟨r6, h_r6, H⟩ := Option.bind_eq_some_iff.1 H
         refine Opl.call ((impl_some.ev hv1 h111 h_r6).mono fun _ _ h => Out.vec h) rfl rfl rfl rfl ⟨hv1.plain, h111.plain, trivial⟩ (by decide) ?_
         rintro pv28 h112
         obtain ⟨r7, h_r7, H⟩ := Option.bind_eq_some_iff.1 H
         refine Opl.call ((impl_not.ev h112 h_r7).mono fun _ _ h => Out.vec h) rfl rfl rfl rfl ⟨h112.plain, trivial⟩ (by decide) ?_
         rintro pv29 h113
         obtain ⟨c62, H⟩ := peel H
         obtain ⟨c63, H⟩ := peel H
         refine Opl.idv (M := (cSl cBool)) (xs := x7_1) (j := x22_1) (v := pv2) h10 rfl rfl (by omega) (by omega) K77 Z78 rfl rfl ?_
         rintro d17 z17 q20 h114 h115
         refine Opl.stv (M := (cSl cBool)) (xs := x7_1) (j := x22_1) (y := r7) (vs := [pv29]) h114 h115 (by omega) (by omega) rfl (by exact h113.cells) (by exact ⟨_, by first | rfl | exact h113.cells, h113⟩) Z78 (by simp only [List.all_cons, List.all_nil, h113.one, Bool.and_true, Bool.true_and] <;> rfl) rfl rfl rfl ?_
         rw [← q20]
         rintro S h116 u22
         have h117 := u22.box h9 ap2.symm
         refine Opl.nil ?_
         exact hk8 _ _ ⟨_, _, _, H, by omega, ⟨rfl, rfl, rfl, rfl, rfl, rfl, rfl, rfl, trivial⟩, h116⟩
        rw [if_neg c61] at H
        have e24 : (((rd_ITree l0 x22_1).f0) == 8) = false := by simpa using c61
        try rw [e24]
        refine Evr.condF rfl (Evr.seq (Evr.sr rfl (Opl.p1 (n := Opl.p1 (n := Opl.nil ?_)))))
        by_cases c64 : ((rd_ITree l0 x22_1).f0) = 6
        case pos =>
         rw [if_pos c64] at H
         have e25 : (((rd_ITree l0 x22_1).f0) == 6) = true := by simpa using c64
         try rw [e25]
         refine Evr.condT rfl (Evr.skip (Evr.condT rfl (Evr.regionN rfl (Opl.p1 (n := Opl.p1 (n := Opl.p1 (n := Opl.p1 (n := Opl.p1 (n := Opl.p1 (v := .ptr i2 0) (n := Opl.ldb (v := .lit (.int .i64 ((rd_ITree l0 x22_1).f0))) h9 rfl T3 rfl rfl rfl rfl (Opl.p1 (n := ?_))))))))))))
         obtain ⟨r8, h_r8, H⟩ := Option.bind_eq_some_iff.1 H
         refine Opl.call (impl_treeRows_1.ev h14 h18 hv1 h_r8) rfl rfl rfl rfl ⟨h14.plain, h18.plain, (.lit _), (.felL ⟨hv1.plain, trivial⟩), trivial⟩ (by decide) ?_
         rintro pv30 h118
         obtain ⟨c65, H⟩ := peel H
         obtain ⟨c66, H⟩ := peel H
         refine Opl.idv (M := (cSl cBool)) (xs := x7_1) (j := x22_1) (v := pv2) h10 rfl rfl (by omega) (by omega) K77 Z78 rfl rfl ?_
         rintro d18 z18 q21 h119 h120
         refine Opl.stv (M := (cSl cBool)) (xs := x7_1) (j := x22_1) (y := r8) (vs := [pv30]) h119 h120 (by omega) (by omega) rfl (by exact h118.cells) (by exact ⟨_, by first | rfl | exact h118.cells, h118⟩) Z78 (by simp only [List.all_cons, List.all_nil, h118.one, Bool.and_true, Bool.true_and] <;> rfl) rfl rfl rfl ?_
         rw [← q21]
         rintro S h121 u23
         have h122 := u23.box h9 ap2.symm
         refine Opl.nil ?_
         exact hk8 _ _ ⟨_, _, _, H, by omega, ⟨rfl, rfl, rfl, rfl, rfl, rfl, rfl, rfl, trivial⟩, h121⟩
        rw [if_neg c64] at H
        have e26 : (((rd_ITree l0 x22_1).f0) == 6) = false := by simpa using c64
        try rw [e26]
        refine Evr.condF rfl (Evr.regionN rfl (Opl.p1 (n := Opl.p1 (n := Opl.nil ?_))))
        refine Evr.join (fun tm S => ∃ (kq9 : Nat) (x7_8 : List (List Bool)) (pv31 : PV), impl_treeRows.l1 kq9 x7_8 (wrap64 (x22_1 + 1)) l0 l1 l2 = some r ∧ kq9 ≤ k1 ∧ Has tm [(2, v2), (4, .fel (v1 :: [])), (7, pv31), (8, .fn 93 [.fel (v1 :: [])]), (9, .fn 101 [.fel (v1 :: [])]), (20, v0), (21, .lit (.int .i64 (l0.length : Int))), (22, .lit (.int .i64 x22_1))] ∧ Vec (cSl cBool) x7_8 pv31 S) ?_ fun hk9 => ?_
        ·
         rintro tm S ⟨kq9, x7_8, pv31, H, hle, hh, h123⟩
         rw [hh.eq]
         exact hk8 _ _ ⟨_, _, _, H, by omega, ⟨rfl, rfl, rfl, rfl, rfl, rfl, rfl, rfl, trivial⟩, h123⟩
        ·
         by_cases c67 : ((rd_ITree l0 x22_1).f0) = 9
         case neg =>
          rw [if_neg c67] at H
          have e28 : (((rd_ITree l0 x22_1).f0) == 9) = false := by simpa using c67
          try rw [e28]
          refine Evr.condF rfl (Evr.regionN rfl (Opl.p1 (n := Opl.p1 (n := Opl.p1 (n := Opl.p1 (n := Opl.p1 (v := .ptr i2 0) (n := Opl.ldb (v := .lit (.int .i64 ((rd_ITree l0 x22_1).f0))) h9 rfl T3 rfl rfl rfl rfl (Opl.p1 (n := ?_)))))))))
          obtain ⟨r10, h_r10, H⟩ := Option.bind_eq_some_iff.1 H
          refine Opl.call (impl_treeRows_2.ev h14 hv1 h_r10) rfl rfl rfl rfl ⟨h14.plain, (.lit _), (.felL ⟨hv1.plain, trivial⟩), trivial⟩ (by decide) ?_
          rintro pv33 h129
          obtain ⟨c70, H⟩ := peel H
          obtain ⟨c71, H⟩ := peel H
          refine Opl.idv (M := (cSl cBool)) (xs := x7_1) (j := x22_1) (v := pv2) h10 rfl rfl (by omega) (by omega) K77 Z78 rfl rfl ?_
          rintro d20 z20 q23 h130 h131
          refine Opl.stv (M := (cSl cBool)) (xs := x7_1) (j := x22_1) (y := r10) (vs := [pv33]) h130 h131 (by omega) (by omega) rfl (by exact h129.cells) (by exact ⟨_, by first | rfl | exact h129.cells, h129⟩) Z78 (by simp only [List.all_cons, List.all_nil, h129.one, Bool.and_true, Bool.true_and] <;> rfl) rfl rfl rfl ?_
          rw [← q23]
          rintro S h132 u25
          have h133 := u25.box h9 ap2.symm
          refine Opl.nil ?_
          exact hk9 _ _ ⟨_, _, _, H, by omega, ⟨rfl, rfl, rfl, rfl, rfl, rfl, rfl, rfl, trivial⟩, h132⟩
         rw [if_pos c67] at H
         have e27 : (((rd_ITree l0 x22_1).f0) == 9) = true := by simpa using c67
         try rw [e27]
         refine Evr.condT rfl (Evr.regionN rfl (Opl.p1 (n := Opl.p1 (n := Opl.p1 (n := Opl.p1 (n := Opl.p1 (n := Opl.p1 (v := .ptr i2 0) (n := Opl.ldb (v := .lit (.int .i64 ((rd_ITree l0 x22_1).f0))) h9 rfl T3 rfl rfl rfl rfl (Opl.p1 (n := ?_))))))))))
         obtain ⟨r9, h_r9, H⟩ := Option.bind_eq_some_iff.1 H
         refine Opl.call (impl_treeRows_1.ev h14 h18 hv1 h_r9) rfl rfl rfl rfl ⟨h14.plain, h18.plain, (.lit _), (.felL ⟨hv1.plain, trivial⟩), trivial⟩ (by decide) ?_
         rintro pv32 h124
         obtain ⟨c68, H⟩ := peel H
         obtain ⟨c69, H⟩ := peel H
         refine Opl.idv (M := (cSl cBool)) (xs := x7_1) (j := x22_1) (v := pv2) h10 rfl rfl (by omega) (by omega) K77 Z78 rfl rfl ?_
         rintro d19 z19 q22 h125 h126
         refine Opl.stv (M := (cSl cBool)) (xs := x7_1) (j := x22_1) (y := r9) (vs := [pv32]) h125 h126 (by omega) (by omega) rfl (by exact h124.cells) (by exact ⟨_, by first | rfl | exact h124.cells, h124⟩) Z78 (by simp only [List.all_cons, List.all_nil, h124.one, Bool.and_true, Bool.true_and] <;> rfl) rfl rfl rfl ?_
         rw [← q22]
         rintro S h127 u24
         have h128 := u24.box h9 ap2.symm
         refine Opl.nil ?_
         exact hk9 _ _ ⟨_, _, _, H, by omega, ⟨rfl, rfl, rfl, rfl, rfl, rfl, rfl, rfl, trivial⟩, h127⟩
theorem impl_TreesOn.ev {k : Nat} {l0_0 : List (List Int)} {v0_0 : PV} (hv0_0 : Sl (cSl (cInt .i64)) l0_0 v0_0) {a0_1 : Int} {l0_2 : List (List Int)} {v0_2 : PV} (hv0_2 : Sl (cSl (cInt .i64)) l0_2 v0_2) {a1 : Int} {l2 : List ITree} {v2 : PV} (hv2 : Sl cITree l2 v2) {r : (List Int)} (H : impl_TreesOn.f k l0_0 a0_1 l0_2 a1 l2 = some r) : Ret Try.prog 24 [.agg [v0_0, .lit (.int .i64 a0_1), v0_2], .lit (.int .i64 a1), v2] fun v S => Vec (cInt .i64) r v S := by
 unfold impl_TreesOn.f at H
 refine Ret.intro Try.func24 rfl (Nat.le_of_ble_eq_true rfl) rfl ?_
 rw [tm3]
 refine Evr.sr rfl (Opl.box (cs := [v0_0, .lit (.int .i64 a0_1), v0_2]) rfl rfl rfl rfl ?_)
 rintro i1 S h1 u1 w1
 refine Opl.p1 (n := Opl.nil (Evr.seq (Evr.sr rfl (Opl.ldb (v := .agg [v0_0, .lit (.int .i64 a0_1), v0_2]) h1 rfl T43 rfl rfl rfl rfl (Opl.p1 (n := ?_))))))
 obtain ⟨r1, h_r1, H⟩ := Option.bind_eq_some_iff.1 H
 refine Opl.callc (impl_GraphValid.ev hv0_0 hv0_2 h_r1) rfl rfl rfl rfl ⟨(.aggL ⟨hv0_0.plain, (.lit _), hv0_2.plain, trivial⟩), (.lit _), trivial⟩ (by decide) (Opl.p1 (n := Opl.p1 (n := ?_)))
 by_cases c1 : r1 = true
 case neg =>
  rw [if_neg c1] at H
  have e4 : (!r1) = true := by simpa using c1
  try rw [e4]
  refine Opl.skp rfl (Opl.skp rfl (Opl.skp rfl (Opl.skp rfl (Opl.p1 (n := Opl.nil (Evr.condT rfl (Evr.sr rfl (Opl.p1 (n := Opl.nil ?_)))))))))
  obtain rfl := Option.some.inj H
  refine Evr.ret1 Try.func24 rfl ?_
  show Vec _ _ (.lit (.slice none 0 0)) _
  exact .nil
 rw [if_pos c1] at H
 have e1 : (!r1) = false := by simpa using c1
 try rw [e1]
 refine Opl.p1 (n := Opl.p1 (n := ?_))
 obtain ⟨r2, h_r2, H⟩ := Option.bind_eq_some_iff.1 H
 refine Opl.callc (impl_TreesValid.ev hv2 h_r2) rfl rfl rfl rfl ⟨hv2.plain, (.lit _), trivial⟩ (by decide) (Opl.p1 (n := Opl.p1 (n := Opl.nil ?_)))
 by_cases c2 : r2 = true
 case neg =>
  rw [if_neg c2] at H
  have e3 : (!r2) = true := by simpa using c2
  try rw [e3]
  refine Evr.condT rfl (Evr.sr rfl (Opl.p1 (n := Opl.nil ?_)))
  obtain rfl := Option.some.inj H
  refine Evr.ret1 Try.func24 rfl ?_
  show Vec _ _ (.lit (.slice none 0 0)) _
  exact .nil
 rw [if_pos c2] at H
 have e2 : (!r2) = false := by simpa using c2
 try rw [e2]
 refine Evr.condF rfl (Evr.skip (Evr.sr rfl (Opl.p1 (n := Opl.p1 (v := .ptr i1 2) (n := Opl.ldb (v := v0_2) h1 rfl T23 rfl rfl rfl rfl (Opl.p1 (v := .ptr i1 0) (n := Opl.ldb (v := v0_0) h1 rfl T23 rfl rfl rfl rfl ?_)))))))
 obtain ⟨r3, h_r3, H⟩ := Option.bind_eq_some_iff.1 H
 refine Opl.call ((impl_treeRows.ev hv2 hv0_2 hv0_0 h_r3).mono fun _ _ h => Out.vec h) rfl rfl rfl rfl ⟨hv2.plain, hv0_2.plain, hv0_0.plain, trivial⟩ (by decide) ?_
 rintro pv1 h2
 refine Opl.p1 (n := Opl.nil (Evr.sr rfl (Opl.p1 (n := Opl.p1 (n := Opl.len (xs := r3) (by exact h2) K77 rfl rfl rfl rfl (Opl.subi (k := .i64) (a := (r3.length : Int)) (b := 1) K3 rfl rfl rfl rfl ?_))))))
 obtain ⟨c3, H⟩ := peel H
 obtain ⟨c4, H⟩ := peel H
 refine Opl.idx (M := (cSl cBool)) (xs := r3) (j := (wrap64 ((r3.length : Int) - 1))) ([] : List Bool) (by exact h2) rfl (by omega) (by omega) K77 Z78 rfl rfl ?_
 rintro p1 q1 h3
 obtain ⟨pv2, rfl, h4⟩ := h3
 refine Opl.lda (pv2) rfl T78 rfl rfl rfl rfl ?_
 obtain ⟨r4, h_r4, H⟩ := Option.bind_eq_some_iff.1 H
 refine Opl.calla (impl_listOf.ev h4 h_r4) rfl rfl rfl rfl ⟨h4.plain, trivial⟩ rfl ?_
 rintro pv3 S h5 u2 w2
 have ap1 := w2.box h1
 have h6 := u2.box h1 ap1
 refine Opl.one (v := pv3) rfl rfl rfl (Opl.nil ?_)
 obtain rfl := Option.some.inj H
 refine Evr.ret1 Try.func24 rfl ?_
 show Vec _ _ pv3 _
 exact h5
end Go.Proofs.Ytikjlbanfbkhmaa.PA
end
