/- The statement FnExactWidenedSaid, proved: for every input the law returns true and each argument reads as it read. No conditions. -/
import Derived.Test.YtblhlpllkpcolaaRows
import Derived.WalkKit
import Derived.ProofKit
import Derived.OpenShut
import Derived.ShutString
import Derived.ChangeOld
import Derived.Below
import Derived.SizedLaws
import Derived.ChangeArms
import Derived.ChangeSlices
import Derived.Deep.Slices
import Derived.Test.YtblhlpllkpcolaaProg
import Derived.KernelRfl
import Derived.Deep.Draws
import Derived.Deep.AppendLies
import Derived.Maps.AppendAt
import Derived.OwnWalk
import Derived.Laws.BytesArg
import Derived.Laws.MakeOwn
import Derived.Laws.OwnMore
import Derived.Deep.OwnRows
import Derived.Tactics
import Derived.Lib.ConvBytes
import Derived.Laws.Slices
import Derived.RowKit3
import Derived.Deep.LoopGhost
import Derived.Deep.QuietTactic
import Derived.BigQuiet
import Derived.WideLaws
import Derived.Deep.DeepCutAuto
import Derived.Deep.CutBlock
import Derived.Deep.RegionHeld3
import Derived.Laws.Rows
import Derived.Lib.AppendStr
import Derived.ArgAppend
import Derived.Laws.IdiomCopy
import Derived.OrdersHeld
import Derived.Laws.BitsLemmas
import Derived.RowKit
import Derived.Attr
import Derived.Laws.StructEq
import Derived.Lib.SliceRun
import Derived.WalkSpells
import Derived.Laws.Append
import Derived.Laws.AppendOwn
import Derived.Laws.Entries
import Derived.Calls
import Derived.Laws.Sem
import Derived.Test.YtblhlpllkpcolaaKPe2183ce239
namespace Go.Proofs.Ytblhlpllkpcolaa.fnExactWidened
open Go.Abs Go.ChangeShapes Go.WideShapes Go.ChangeAt Go.RowKit Go.Proofs.YtblhlpllkpcolaaW.PrintWords Go.Proofs.Ytblhlpllkpcolaa.PA
open Go.ChangeMaps (open_string shut_string)
set_option linter.unusedVariables false
set_option maxRecDepth 100000
theorem own : ownKnob Try.prog.godebug = none := by kernel_rfl
theorem laidOut : laidOutB Try.prog = true := by kernel_rfl
theorem orders : Try.prog.follows .mixedOrders = true := by kernel_rfl
theorem opensLVar : OpensP Try.prog 123 cLVar okLVar := by
  have h : OpensP Try.prog 123 (cPair (cInt .i64) (cPair (cInt .i64) (cInt .i64))) _ := opensP_struct Try.underlying123 (by kernel_rfl) (fields_cons rfl (opensP_int Try.underlying3 (by kernel_rfl)) (fields_cons rfl (opensP_int Try.underlying3 (by kernel_rfl)) (fields_last rfl (opensP_int Try.underlying3 (by kernel_rfl)))))
  exact opensP_iso (f := fun x : LVar => (x.f0, x.f1, x.f2)) (fun y => ⟨y.1, y.2.1, y.2.2⟩) (fun _ => rfl) h
theorem opensLTerm : OpensP Try.prog 108 cLTerm okLTerm := by
  have h : OpensP Try.prog 108 (cPair (cInt .i64) (cPair (cInt .i64) (cPair (cInt .i64) (cInt .i64)))) _ := opensP_struct Try.underlying108 (by kernel_rfl) (fields_cons rfl (opensP_int Try.underlying3 (by kernel_rfl)) (fields_cons rfl (opensP_int Try.underlying3 (by kernel_rfl)) (fields_cons rfl (opensP_int Try.underlying3 (by kernel_rfl)) (fields_last rfl (opensP_int Try.underlying3 (by kernel_rfl))))))
  exact opensP_iso (f := fun x : LTerm => (x.f0, x.f1, x.f2, x.f3)) (fun y => ⟨y.1, y.2.1, y.2.2.1, y.2.2.2⟩) (fun _ => rfl) h
theorem opensLRule : OpensP Try.prog 121 cLRule okLRule := by
  have h : OpensP Try.prog 121 (cPair (cSl cLTerm) (cPair (cSl (cInt .i64)) (cSl (cSl cLTerm)))) _ := opensP_struct Try.underlying121 (by kernel_rfl) (fields_cons rfl (opensP_slice Try.underlying57 (by kernel_rfl) (Nat.lt_of_lt_of_le Nat.zero_lt_one (Nat.le_of_ble_eq_true rfl)) opensLTerm) (fields_cons rfl (opensP_slice Try.underlying26 (by kernel_rfl) (Nat.lt_of_lt_of_le Nat.zero_lt_one (Nat.le_of_ble_eq_true rfl)) (opensP_int Try.underlying3 (by kernel_rfl))) (fields_last rfl (opensP_slice Try.underlying71 (by kernel_rfl) (Nat.lt_of_lt_of_le Nat.zero_lt_one (Nat.le_of_ble_eq_true rfl)) (opensP_slice Try.underlying57 (by kernel_rfl) (Nat.lt_of_lt_of_le Nat.zero_lt_one (Nat.le_of_ble_eq_true rfl)) opensLTerm)))))
  exact opensP_iso (f := fun x : LRule => (x.f0, x.f1, x.f2)) (fun y => ⟨y.1, y.2.1, y.2.2⟩) (fun _ => rfl) h
theorem opensLSystem : OpensP Try.prog 25 cLSystem okLSystem := by
  have h : OpensP Try.prog 25 (cPair (cSl cLVar) (cSl cLRule)) _ := opensP_struct Try.underlying25 (by kernel_rfl) (fields_cons rfl (opensP_slice Try.underlying22 (by kernel_rfl) (Nat.lt_of_lt_of_le Nat.zero_lt_one (Nat.le_of_ble_eq_true rfl)) opensLVar) (fields_last rfl (opensP_slice Try.underlying23 (by kernel_rfl) (Nat.lt_of_lt_of_le Nat.zero_lt_one (Nat.le_of_ble_eq_true rfl)) opensLRule)))
  exact opensP_iso (f := fun x : LSystem => (x.f0, x.f1)) (fun y => ⟨y.1, y.2⟩) (fun _ => rfl) h
set_option maxRecDepth 100000 in
theorem lifted (os : Os) (started : os.Started) (H : Type) (enc : TypeId × Value → H) :
    ReturnsInHanded {} Try.checked os 12 .any (Rows.fnExactWidenedSpec.pre6 enc Try.prog Try.f12 Rows.fnExactWidenedRow.domain false) (Rows.fnExactWidenedSpec.post enc Try.prog Try.f12 false true false false) := by
  refine returnsInHanded_of_change_sized (C := Try.checked) own started (by kernel_rfl) Try.func12
    (ChangeSpec.witness6 (enc := enc) (C := Try.checked) false ⟨#[], #[.agg #[.slice none 0 0, .slice none 0 0], .slice none 0 0, .slice none 0 0], []⟩ 8 (by kernel_rfl) (by kernel_rfl) (by kernel_rfl) (by kernel_rfl)) ?_
  intro W base args ds gs before hval0 hW hcnd hsz0 _
  have hval : ∀ (j : Nat) t v, Try.f12.params[j]? = some t → args[j]? = some v → Value.okWide Try.prog W .any base t v := hval0
  have hW' := hW
  obtain ⟨p, q, hA0, hV, rfl, hfz, hnd⟩ := hW
  have hA : DataW.TrodAll enc Try.prog W 0 (fun _ => true) true Try.f12.params.toList args.toList ds p := hA0
  rw [Try.params12] at hA hval
  obtain ⟨v0, vs0, d0, ds0, p0, q0, hargs, rfl, rfl, h0, r0⟩ := trodAll_cons hA
  obtain ⟨v1, vs1, d1, ds1, p1, q1, rfl, rfl, rfl, h1, r1⟩ := trodAll_cons r0
  obtain ⟨v2, vs2, d2, ds2, p2, q2, rfl, rfl, rfl, h2, r2⟩ := trodAll_cons r1
  obtain ⟨rfl, rfl, rfl⟩ := trodAll_nil r2
  obtain rfl : args = #[v0, v1, v2] := by cases args; simp_all
  obtain ⟨rfl, rfl⟩ := trodVars_none hV
  obtain ⟨cs0, rfl, hz0⟩ := okWide_struct Try.underlying25 (hval 0 25 v0 rfl rfl)
  have k0 := h0
  have lt0 : ∀ x ∈ p0, x.block < W.heap.size := by obtain ⟨m, hm⟩ := k0; exact DataW.trod_lt m _ _ _ hm
  obtain ⟨y0, c0, hK0, hr0, hp0⟩ := openP_agg opensLSystem h0
  obtain ⟨v0_0, v0_1, rfl, hs0_0, hs0_1⟩ := cLSystem_R (x := y0) hK0
  obtain ⟨hp0_0, hp0_1⟩ := hp0
  obtain ⟨a1, len1, cap1, rfl⟩ := okWide_slice Try.underlying26 (hval 1 26 v1 rfl rfl)
  have k1 := h1
  have lt1 : ∀ x ∈ p1, x.block < W.heap.size := by obtain ⟨m, hm⟩ := k1; exact DataW.trod_lt m _ _ _ hm
  obtain ⟨l1, pv1, hs1, hr1, hp1⟩ := openP_slice (opensP_slice Try.underlying26 (by kernel_rfl) (Nat.lt_of_lt_of_le Nat.zero_lt_one (Nat.le_of_ble_eq_true rfl)) (opensP_int Try.underlying3 (by kernel_rfl))) h1
  obtain ⟨a2, len2, cap2, rfl⟩ := okWide_slice Try.underlying26 (hval 2 26 v2 rfl rfl)
  have k2 := h2
  have lt2 : ∀ x ∈ p2, x.block < W.heap.size := by obtain ⟨m, hm⟩ := k2; exact DataW.trod_lt m _ _ _ hm
  obtain ⟨l2, pv2, hs2, hr2, hp2⟩ := openP_slice (opensP_slice Try.underlying26 (by kernel_rfl) (Nat.lt_of_lt_of_le Nat.zero_lt_one (Nat.le_of_ble_eq_true rfl)) (opensP_int Try.underlying3 (by kernel_rfl))) h2
  obtain ⟨k, hk⟩ := Pure.FnExactWidened y0.f0 y0.f1 l1 l2 hp0_0 hp0_1 hp1 hp2
  clear hA0 hval0 hsz0
  refine (Ret.calls orders (laws_FnExactWidened.ev hs0_0 hs0_1 hs1 hs2 hk) (relA_cons hr0 (relA_cons hr1 (relA_cons hr2 relA_nil)))).mono fun e W' ⟨he, bel⟩ => ?_
  subst he
  exact ⟨_, rfl, _, _, _, [], _, [], hW', trodAll_mk1 (shut_bool Try.underlying4 _), (trodAll_cons_mk (Below.trod laidOut (by kernel_rfl) (of_decide_eq_true (by kernel_rfl)) k0 bel lt0) (trodAll_cons_mk (Below.trod laidOut (by kernel_rfl) (of_decide_eq_true (by kernel_rfl)) k1 bel lt1) (trodAll_cons_mk (Below.trod laidOut (by kernel_rfl) (of_decide_eq_true (by kernel_rfl)) k2 bel lt2) trodAll_mk0))), rfl, bel.frame _, fun h => by cases h⟩
theorem and_t {a b : Bool} (h : a = true) (k : b = true) : (a && b) = true := by rw [h, k]; rfl
set_option maxRecDepth 100000 in
set_option maxHeartbeats 40000000 in
theorem closed : joinedFacts Try.pinned.checked.prog 12 Try.f12 Rows.fnExactWidenedSpec Rows.fnExactWidenedRow = true := by
  unfold joinedFacts
  refine and_t (and_t (and_t (and_t (and_t (and_t (and_t (and_t (and_t (and_t (and_t (and_t (and_t (and_t (and_t (and_t (and_t (and_t (and_t (and_t (and_t (and_t (and_t (and_t (and_t (and_t (and_t (and_t (and_t (and_t (and_t ?_ ?_) ?_) ?_) ?_) ?_) ?_) ?_) ?_) ?_) ?_) ?_) ?_) ?_) ?_) ?_) ?_) ?_) ?_) ?_) ?_) ?_) ?_) ?_) ?_) ?_) ?_) ?_) ?_) ?_) ?_) ?_
  all_goals as_aux_lemma => kernel_rfl
theorem over : Rows.fnExactWidenedRow.holds Try.pinned (OpenSpec.ofChange Rows.fnExactWidenedSpec) :=
  OpenClaim.holds_of_wide 12 Try.f12 rfl rfl rfl rfl rfl rfl rfl ⟨rfl, rfl, rfl, rfl, rfl⟩ rfl rfl rfl rfl rfl (by kernel_rfl) Try.func12 closed
    (of_decide_eq_true (by kernel_rfl)) (by unfold Func.isWrapper; first | (rw [if_pos (by decide +kernel)]; kernel_rfl) | (rw [if_neg (by decide +kernel)]; exact ⟨rfl, rfl⟩))
    (fun os started H enc _ => lifted os started H enc)
theorem proved : Rows.FnExactWidenedSaid := over
#print axioms proved
end Go.Proofs.Ytblhlpllkpcolaa.fnExactWidened
namespace Go.Proofs.Ytblhlpllkpcolaa
theorem fnExactWidened_holds : Rows.FnExactWidenedSaid := fnExactWidened.proved
end Go.Proofs.Ytblhlpllkpcolaa
