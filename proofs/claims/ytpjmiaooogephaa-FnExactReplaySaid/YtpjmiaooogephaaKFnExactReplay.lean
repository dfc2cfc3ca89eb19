/- The statement FnExactReplaySaid, proved: for every input the law returns true and each argument reads as it read. No conditions. -/
import Derived.Test.YtpjmiaooogephaaRows
import Derived.WalkKit
import Derived.ProofKit
import Derived.OpenShut
import Derived.ShutString
import Derived.ChangeOld
import Derived.Below
import Derived.SizedLaws
import Derived.ChangeArms
import Derived.ChangeSlices
import Derived.Deep.Slices
import Derived.Test.YtpjmiaooogephaaProg
import Derived.KernelRfl
import Derived.Deep.Draws
import Derived.Deep.AppendLies
import Derived.Maps.AppendAt
import Derived.OwnWalk
import Derived.Laws.BytesArg
import Derived.Laws.MakeOwn
import Derived.Laws.OwnMore
import Derived.Deep.OwnRows
import Derived.Tactics
import Derived.Lib.ConvBytes
import Derived.Laws.Slices
import Derived.RowKit3
import Derived.Deep.LoopGhost
import Derived.Deep.QuietTactic
import Derived.BigQuiet
import Derived.WideLaws
import Derived.Deep.DeepCutAuto
import Derived.Deep.CutBlock
import Derived.Deep.RegionHeld3
import Derived.Laws.Rows
import Derived.Lib.AppendStr
import Derived.ArgAppend
import Derived.Laws.IdiomCopy
import Derived.OrdersHeld
import Derived.Laws.BitsLemmas
import Derived.RowKit
import Derived.Attr
import Derived.Laws.StructEq
import Derived.Lib.SliceRun
import Derived.WalkSpells
import Derived.Laws.Append
import Derived.Laws.AppendOwn
import Derived.Laws.Entries
import Derived.Calls
import Derived.Laws.Sem
import Derived.Test.YtpjmiaooogephaaKP8fcdcb066d
namespace Go.Proofs.Ytpjmiaooogephaa.fnExactReplay
open Go.Abs Go.ChangeShapes Go.WideShapes Go.ChangeAt Go.RowKit Go.Proofs.YtpjmiaooogephaaW.PrintWords Go.Proofs.Ytpjmiaooogephaa.PA
open Go.ChangeMaps (open_string shut_string)
set_option linter.unusedVariables false
set_option maxRecDepth 100000
theorem own : ownKnob Try.prog.godebug = none := by kernel_rfl
theorem laidOut : laidOutB Try.prog = true := by kernel_rfl
theorem orders : Try.prog.follows .mixedOrders = true := by kernel_rfl
theorem opensLVar : OpensP Try.prog 153 cLVar okLVar := by
  have h : OpensP Try.prog 153 (cPair (cInt .i64) (cPair (cInt .i64) (cInt .i64))) _ := opensP_struct Try.underlying153 (by kernel_rfl) (fields_cons rfl (opensP_int Try.underlying3 (by kernel_rfl)) (fields_cons rfl (opensP_int Try.underlying3 (by kernel_rfl)) (fields_last rfl (opensP_int Try.underlying3 (by kernel_rfl)))))
  exact opensP_iso (f := fun x : LVar => (x.f0, x.f1, x.f2)) (fun y => ⟨y.1, y.2.1, y.2.2⟩) (fun _ => rfl) h
theorem opensLTerm : OpensP Try.prog 180 cLTerm okLTerm := by
  have h : OpensP Try.prog 180 (cPair (cInt .i64) (cPair (cInt .i64) (cPair (cInt .i64) (cInt .i64)))) _ := opensP_struct Try.underlying180 (by kernel_rfl) (fields_cons rfl (opensP_int Try.underlying3 (by kernel_rfl)) (fields_cons rfl (opensP_int Try.underlying3 (by kernel_rfl)) (fields_cons rfl (opensP_int Try.underlying3 (by kernel_rfl)) (fields_last rfl (opensP_int Try.underlying3 (by kernel_rfl))))))
  exact opensP_iso (f := fun x : LTerm => (x.f0, x.f1, x.f2, x.f3)) (fun y => ⟨y.1, y.2.1, y.2.2.1, y.2.2.2⟩) (fun _ => rfl) h
theorem opensLRule : OpensP Try.prog 151 cLRule okLRule := by
  have h : OpensP Try.prog 151 (cPair (cSl cLTerm) (cPair (cSl (cInt .i64)) (cSl (cSl cLTerm)))) _ := opensP_struct Try.underlying151 (by kernel_rfl) (fields_cons rfl (opensP_slice Try.underlying148 (by kernel_rfl) (Nat.lt_of_lt_of_le Nat.zero_lt_one (Nat.le_of_ble_eq_true rfl)) opensLTerm) (fields_cons rfl (opensP_slice Try.underlying27 (by kernel_rfl) (Nat.lt_of_lt_of_le Nat.zero_lt_one (Nat.le_of_ble_eq_true rfl)) (opensP_int Try.underlying3 (by kernel_rfl))) (fields_last rfl (opensP_slice Try.underlying149 (by kernel_rfl) (Nat.lt_of_lt_of_le Nat.zero_lt_one (Nat.le_of_ble_eq_true rfl)) (opensP_slice Try.underlying148 (by kernel_rfl) (Nat.lt_of_lt_of_le Nat.zero_lt_one (Nat.le_of_ble_eq_true rfl)) opensLTerm)))))
  exact opensP_iso (f := fun x : LRule => (x.f0, x.f1, x.f2)) (fun y => ⟨y.1, y.2.1, y.2.2⟩) (fun _ => rfl) h
def cLSystem : Cd LSystem := cIso (cPair (cSl cLVar) (cSl cLRule)) (fun x => (x.f0, x.f1))
theorem oLSystem : cLSystem.Ones := oIso (oPair (oSl cLVar) (oSl cLRule))
theorem cLSystem_R {x : LSystem} {c : List PV} (h : cLSystem.R x c) : ∃ v0 v1, c = [v0, v1] ∧ Sl cLVar x.f0 v0 ∧ Sl cLRule x.f1 v1 := by
  obtain ⟨p0, q0, e0, g0, r0⟩ := h
  obtain ⟨v0, g0', s0⟩ := g0
  obtain ⟨v1, g1', s1⟩ := r0
  exact ⟨v0, v1, by rw [e0, g0', g1']; rfl, s0, s1⟩
theorem cLSystem_mk  {l0 : List LVar} {v0 : PV} (h0 : Sl cLVar l0 v0) {l1 : List LRule} {v1 : PV} (h1 : Sl cLRule l1 v1) : cLSystem.R ⟨l0, l1⟩ [v0, v1] := ⟨_, _, rfl, ⟨_, rfl, h0⟩, ⟨_, rfl, h1⟩⟩
theorem cLSystem_z : cLSystem.R zLSystem (([.slice none 0 0, .slice none 0 0] : List Value).map .lit) := ⟨_, _, rfl, ⟨_, rfl, .nil⟩, ⟨_, rfl, .nil⟩⟩
theorem opensLSystem : OpensP Try.prog 56 cLSystem okLSystem := by
  have h : OpensP Try.prog 56 (cPair (cSl cLVar) (cSl cLRule)) _ := opensP_struct Try.underlying56 (by kernel_rfl) (fields_cons rfl (opensP_slice Try.underlying53 (by kernel_rfl) (Nat.lt_of_lt_of_le Nat.zero_lt_one (Nat.le_of_ble_eq_true rfl)) opensLVar) (fields_last rfl (opensP_slice Try.underlying54 (by kernel_rfl) (Nat.lt_of_lt_of_le Nat.zero_lt_one (Nat.le_of_ble_eq_true rfl)) opensLRule)))
  exact opensP_iso (f := fun x : LSystem => (x.f0, x.f1)) (fun y => ⟨y.1, y.2⟩) (fun _ => rfl) h
set_option maxRecDepth 100000 in
theorem lifted (os : Os) (started : os.Started) (H : Type) (enc : TypeId × Value → H) :
    ReturnsInHanded {} Try.checked os 7 .any (Rows.fnExactReplaySpec.pre6 enc Try.prog Try.f7 Rows.fnExactReplayRow.domain false) (Rows.fnExactReplaySpec.post enc Try.prog Try.f7 false true false false) := by
  refine returnsInHanded_of_change_sized (C := Try.checked) own started (by kernel_rfl) Try.func7
    (ChangeSpec.witness6 (enc := enc) (C := Try.checked) false ⟨#[], #[.agg #[.slice none 0 0, .slice none 0 0], .slice none 0 0], []⟩ 8 (by kernel_rfl) (by kernel_rfl) (by kernel_rfl) (by kernel_rfl)) ?_
  intro W base args ds gs before hval0 hW hcnd hsz0 _
  have hval : ∀ (j : Nat) t v, Try.f7.params[j]? = some t → args[j]? = some v → Value.okWide Try.prog W .any base t v := hval0
  have hW' := hW
  obtain ⟨p, q, hA0, hV, rfl, hfz, hnd⟩ := hW
  have hA : DataW.TrodAll enc Try.prog W 0 (fun _ => true) true Try.f7.params.toList args.toList ds p := hA0
  rw [Try.params7] at hA hval
  obtain ⟨v0, vs0, d0, ds0, p0, q0, hargs, rfl, rfl, h0, r0⟩ := trodAll_cons hA
  obtain ⟨v1, vs1, d1, ds1, p1, q1, rfl, rfl, rfl, h1, r1⟩ := trodAll_cons r0
  obtain ⟨rfl, rfl, rfl⟩ := trodAll_nil r1
  obtain rfl : args = #[v0, v1] := by cases args; simp_all
  obtain ⟨rfl, rfl⟩ := trodVars_none hV
  obtain ⟨cs0, rfl, hz0⟩ := okWide_struct Try.underlying56 (hval 0 56 v0 rfl rfl)
  have k0 := h0
  have lt0 : ∀ x ∈ p0, x.block < W.heap.size := by obtain ⟨m, hm⟩ := k0; exact DataW.trod_lt m _ _ _ hm
  obtain ⟨y0, c0, hK0, hr0, hp0⟩ := openP_agg opensLSystem h0
  obtain ⟨v0_0, v0_1, rfl, hs0_0, hs0_1⟩ := cLSystem_R (x := y0) hK0
  obtain ⟨hp0_0, hp0_1⟩ := hp0
  obtain ⟨a1, len1, cap1, rfl⟩ := okWide_slice Try.underlying27 (hval 1 27 v1 rfl rfl)
  have k1 := h1
  have lt1 : ∀ x ∈ p1, x.block < W.heap.size := by obtain ⟨m, hm⟩ := k1; exact DataW.trod_lt m _ _ _ hm
  obtain ⟨l1, pv1, hs1, hr1, hp1⟩ := openP_slice (opensP_slice Try.underlying27 (by kernel_rfl) (Nat.lt_of_lt_of_le Nat.zero_lt_one (Nat.le_of_ble_eq_true rfl)) (opensP_int Try.underlying3 (by kernel_rfl))) h1
  obtain ⟨k, hk⟩ := Pure.FnExactReplay y0.f0 y0.f1 l1 hp0_0 hp0_1 hp1
  clear hA0 hval0 hsz0
  refine (Ret.calls orders (laws_FnExactReplay.ev hs0_0 hs0_1 hs1 hk) (relA_cons hr0 (relA_cons hr1 relA_nil))).mono fun e W' ⟨he, bel⟩ => ?_
  subst he
  exact ⟨_, rfl, _, _, _, [], _, [], hW', trodAll_mk1 (shut_bool Try.underlying4 _), (trodAll_cons_mk (Below.trod laidOut (by kernel_rfl) (of_decide_eq_true (by kernel_rfl)) k0 bel lt0) (trodAll_cons_mk (Below.trod laidOut (by kernel_rfl) (of_decide_eq_true (by kernel_rfl)) k1 bel lt1) trodAll_mk0)), rfl, bel.frame _, fun h => by cases h⟩
theorem and_t {a b : Bool} (h : a = true) (k : b = true) : (a && b) = true := by rw [h, k]; rfl
set_option maxRecDepth 100000 in
set_option maxHeartbeats 40000000 in
theorem closed : joinedFacts Try.pinned.checked.prog 7 Try.f7 Rows.fnExactReplaySpec Rows.fnExactReplayRow = true := by
  unfold joinedFacts
  refine and_t (and_t (and_t (and_t (and_t (and_t (and_t (and_t (and_t (and_t (and_t (and_t (and_t (and_t (and_t (and_t (and_t (and_t (and_t (and_t (and_t (and_t (and_t (and_t (and_t (and_t (and_t (and_t (and_t (and_t (and_t ?_ ?_) ?_) ?_) ?_) ?_) ?_) ?_) ?_) ?_) ?_) ?_) ?_) ?_) ?_) ?_) ?_) ?_) ?_) ?_) ?_) ?_) ?_) ?_) ?_) ?_) ?_) ?_) ?_) ?_) ?_) ?_
  all_goals as_aux_lemma => kernel_rfl
theorem over : Rows.fnExactReplayRow.holds Try.pinned (OpenSpec.ofChange Rows.fnExactReplaySpec) :=
  OpenClaim.holds_of_wide 7 Try.f7 rfl rfl rfl rfl rfl rfl rfl ⟨rfl, rfl, rfl, rfl, rfl⟩ rfl rfl rfl rfl rfl (by kernel_rfl) Try.func7 closed
    (of_decide_eq_true (by kernel_rfl)) (by unfold Func.isWrapper; first | (rw [if_pos (by decide +kernel)]; kernel_rfl) | (rw [if_neg (by decide +kernel)]; exact ⟨rfl, rfl⟩))
    (fun os started H enc _ => lifted os started H enc)
theorem proved : Rows.FnExactReplaySaid := over
#print axioms proved
end Go.Proofs.Ytpjmiaooogephaa.fnExactReplay
namespace Go.Proofs.Ytpjmiaooogephaa
theorem fnExactReplay_holds : Rows.FnExactReplaySaid := fnExactReplay.proved
end Go.Proofs.Ytpjmiaooogephaa
