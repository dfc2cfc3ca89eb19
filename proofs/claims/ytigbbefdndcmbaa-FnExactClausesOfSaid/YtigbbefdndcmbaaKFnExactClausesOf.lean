/- The statement FnExactClausesOfSaid, proved: for every input the law returns true and each argument reads as it read. No conditions. -/
import Derived.Test.YtigbbefdndcmbaaRows
import Derived.WalkKit
import Derived.ProofKit
import Derived.OpenShut
import Derived.ShutString
import Derived.ChangeOld
import Derived.Below
import Derived.SizedLaws
import Derived.ChangeArms
import Derived.ChangeSlices
import Derived.Deep.Slices
import Derived.Test.YtigbbefdndcmbaaProg
import Derived.KernelRfl
import Derived.Deep.Draws
import Derived.Deep.AppendLies
import Derived.Maps.AppendAt
import Derived.OwnWalk
import Derived.Laws.BytesArg
import Derived.Laws.MakeOwn
import Derived.Laws.OwnMore
import Derived.Deep.OwnRows
import Derived.Tactics
import Derived.Lib.ConvBytes
import Derived.Laws.Slices
import Derived.RowKit3
import Derived.Deep.LoopGhost
import Derived.Deep.QuietTactic
import Derived.BigQuiet
import Derived.WideLaws
import Derived.Deep.DeepCutAuto
import Derived.Deep.CutBlock
import Derived.Deep.RegionHeld3
import Derived.Laws.Rows
import Derived.Lib.AppendStr
import Derived.ArgAppend
import Derived.Laws.IdiomCopy
import Derived.OrdersHeld
import Derived.Laws.BitsLemmas
import Derived.RowKit
import Derived.Attr
import Derived.Laws.StructEq
import Derived.Lib.SliceRun
import Derived.WalkSpells
import Derived.Shelf.SlSortCmp.NoneTotal
import Derived.Laws.Append
import Derived.Laws.AppendOwn
import Derived.Laws.Entries
import Derived.Calls
import Derived.Laws.Sem
import Derived.Test.YtigbbefdndcmbaaKPf7567c8de2
namespace Go.Proofs.Ytigbbefdndcmbaa.fnExactClausesOf
open Go.Abs Go.ChangeShapes Go.WideShapes Go.ChangeAt Go.RowKit Go.Proofs.YtigbbefdndcmbaaW.PrintWords Go.Proofs.Ytigbbefdndcmbaa.PA
open Go.ChangeMaps (open_string shut_string)
set_option linter.unusedVariables false
set_option maxRecDepth 100000
theorem own : ownKnob Try.prog.godebug = none := by kernel_rfl
theorem laidOut : laidOutB Try.prog = true := by kernel_rfl
theorem orders : Try.prog.follows .mixedOrders = true := by kernel_rfl
theorem opensLAnd : OpensP Try.prog 89 cLAnd okLAnd := by
  have h : OpensP Try.prog 89 (cPair (cInt .i64) (cInt .i64)) _ := opensP_struct Try.underlying89 (by kernel_rfl) (fields_cons rfl (opensP_int Try.underlying3 (by kernel_rfl)) (fields_last rfl (opensP_int Try.underlying3 (by kernel_rfl))))
  exact opensP_iso (f := fun x : LAnd => (x.f0, x.f1)) (fun y => ⟨y.1, y.2⟩) (fun _ => rfl) h
def cLCircuit : Cd LCircuit := cIso (cPair (cInt .i64) (cSl cLAnd)) (fun x => (x.f0, x.f1))
theorem oLCircuit : cLCircuit.Ones := oIso (oPair (oInt .i64) (oSl cLAnd))
theorem cLCircuit_R {x : LCircuit} {c : List PV} (h : cLCircuit.R x c) : ∃ v1, c = [.lit (.int .i64 x.f0), v1] ∧ Sl cLAnd x.f1 v1 := by
  obtain ⟨p0, q0, e0, g0, r0⟩ := h
  have g0' : p0 = _ := g0
  obtain ⟨v1, g1', s1⟩ := r0
  exact ⟨v1, by rw [e0, g0', g1']; rfl, s1⟩
theorem cLCircuit_mk {a0 : Int} {l1 : List LAnd} {v1 : PV} (h1 : Sl cLAnd l1 v1) : cLCircuit.R ⟨a0, l1⟩ [.lit (.int .i64 a0), v1] := ⟨_, _, rfl, rfl, ⟨_, rfl, h1⟩⟩
theorem cLCircuit_z : cLCircuit.R zLCircuit (([.int .i64 0, .slice none 0 0] : List Value).map .lit) := ⟨_, _, rfl, rfl, ⟨_, rfl, .nil⟩⟩
theorem opensLCircuit : OpensP Try.prog 33 cLCircuit okLCircuit := by
  have h : OpensP Try.prog 33 (cPair (cInt .i64) (cSl cLAnd)) _ := opensP_struct Try.underlying33 (by kernel_rfl) (fields_cons rfl (opensP_int Try.underlying3 (by kernel_rfl)) (fields_last rfl (opensP_slice Try.underlying31 (by kernel_rfl) (Nat.lt_of_lt_of_le Nat.zero_lt_one (Nat.le_of_ble_eq_true rfl)) opensLAnd)))
  exact opensP_iso (f := fun x : LCircuit => (x.f0, x.f1)) (fun y => ⟨y.1, y.2⟩) (fun _ => rfl) h
set_option maxRecDepth 100000 in
theorem lifted (os : Os) (started : os.Started) (H : Type) (enc : TypeId × Value → H) :
    ReturnsInHanded {} Try.checked os 5 .any (Rows.fnExactClausesOfSpec.pre6 enc Try.prog Try.f5 Rows.fnExactClausesOfRow.domain false) (Rows.fnExactClausesOfSpec.post enc Try.prog Try.f5 false true false false) := by
  refine returnsInHanded_of_change_sized (C := Try.checked) own started (by kernel_rfl) Try.func5
    (ChangeSpec.witness6 (enc := enc) (C := Try.checked) false ⟨#[], #[.agg #[.int .i64 0, .slice none 0 0], .int .i64 0], []⟩ 8 (by kernel_rfl) (by kernel_rfl) (by kernel_rfl) (by kernel_rfl)) ?_
  intro W base args ds gs before hval0 hW hcnd hsz0 _
  have hval : ∀ (j : Nat) t v, Try.f5.params[j]? = some t → args[j]? = some v → Value.okWide Try.prog W .any base t v := hval0
  have hW' := hW
  obtain ⟨p, q, hA0, hV, rfl, hfz, hnd⟩ := hW
  have hA : DataW.TrodAll enc Try.prog W 0 (fun _ => true) true Try.f5.params.toList args.toList ds p := hA0
  rw [Try.params5] at hA hval
  obtain ⟨v0, vs0, d0, ds0, p0, q0, hargs, rfl, rfl, h0, r0⟩ := trodAll_cons hA
  obtain ⟨v1, vs1, d1, ds1, p1, q1, rfl, rfl, rfl, h1, r1⟩ := trodAll_cons r0
  obtain ⟨rfl, rfl, rfl⟩ := trodAll_nil r1
  obtain rfl : args = #[v0, v1] := by cases args; simp_all
  obtain ⟨rfl, rfl⟩ := trodVars_none hV
  obtain ⟨cs0, rfl, hz0⟩ := okWide_struct Try.underlying33 (hval 0 33 v0 rfl rfl)
  have k0 := h0
  have lt0 : ∀ x ∈ p0, x.block < W.heap.size := by obtain ⟨m, hm⟩ := k0; exact DataW.trod_lt m _ _ _ hm
  obtain ⟨y0, c0, hK0, hr0, hp0⟩ := openP_agg opensLCircuit h0
  obtain ⟨v0_1, rfl, hs0_1⟩ := cLCircuit_R (x := y0) hK0
  obtain ⟨hp0_0, hp0_1⟩ := hp0
  obtain ⟨a1, rfl, rfl, rfl, w1⟩ := open_int Try.underlying3 (hval 1 3 v1 rfl rfl) h1
  obtain ⟨k, hk⟩ := Pure.FnExactClausesOf y0.f0 y0.f1 a1 hp0_0 hp0_1 w1
  clear hA0 hval0 hsz0
  refine (Ret.calls orders (laws_FnExactClausesOf.ev hs0_1 hk) (relA_cons hr0 (relA_cons (.lit _) relA_nil))).mono fun e W' ⟨he, bel⟩ => ?_
  subst he
  exact ⟨_, rfl, _, _, _, [], _, [], hW', trodAll_mk1 (shut_bool Try.underlying4 _), (trodAll_cons_mk (Below.trod laidOut (by kernel_rfl) (of_decide_eq_true (by kernel_rfl)) k0 bel lt0) (trodAll_cons_mk (shut_int Try.underlying3 w1) trodAll_mk0)), rfl, bel.frame _, fun h => by cases h⟩
theorem over : Rows.fnExactClausesOfRow.holds Try.pinned (OpenSpec.ofChange Rows.fnExactClausesOfSpec) :=
  OpenClaim.holds_of_wide 5 Try.f5 rfl rfl rfl rfl rfl rfl rfl ⟨rfl, rfl, rfl, rfl, rfl⟩ rfl rfl rfl rfl rfl (by kernel_rfl) Try.func5 (by kernel_rfl)
    (of_decide_eq_true (by kernel_rfl)) (by unfold Func.isWrapper; first | (rw [if_pos (by decide +kernel)]; kernel_rfl) | (rw [if_neg (by decide +kernel)]; exact ⟨rfl, rfl⟩))
    (fun os started H enc _ => lifted os started H enc)
theorem proved : Rows.FnExactClausesOfSaid := over
#print axioms proved
end Go.Proofs.Ytigbbefdndcmbaa.fnExactClausesOf
namespace Go.Proofs.Ytigbbefdndcmbaa
theorem fnExactClausesOf_holds : Rows.FnExactClausesOfSaid := fnExactClausesOf.proved
end Go.Proofs.Ytigbbefdndcmbaa
