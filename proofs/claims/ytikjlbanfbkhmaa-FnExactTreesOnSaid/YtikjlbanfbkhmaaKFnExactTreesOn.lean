/- The statement FnExactTreesOnSaid, proved: for every input the law returns true and each argument reads as it read. No conditions. -/
import Derived.Test.YtikjlbanfbkhmaaRows
import Derived.WalkKit
import Derived.ProofKit
import Derived.OpenShut
import Derived.ShutString
import Derived.ChangeOld
import Derived.Below
import Derived.SizedLaws
import Derived.ChangeArms
import Derived.ChangeSlices
import Derived.Deep.Slices
import Derived.Test.YtikjlbanfbkhmaaProg
import Derived.KernelRfl
import Derived.Deep.Draws
import Derived.Deep.AppendLies
import Derived.Maps.AppendAt
import Derived.OwnWalk
import Derived.Laws.BytesArg
import Derived.Laws.MakeOwn
import Derived.Laws.OwnMore
import Derived.Deep.OwnRows
import Derived.Tactics
import Derived.Lib.ConvBytes
import Derived.Laws.Slices
import Derived.RowKit3
import Derived.Deep.LoopGhost
import Derived.Deep.QuietTactic
import Derived.BigQuiet
import Derived.WideLaws
import Derived.Deep.DeepCutAuto
import Derived.Deep.CutBlock
import Derived.Deep.RegionHeld3
import Derived.Laws.Rows
import Derived.Lib.AppendStr
import Derived.ArgAppend
import Derived.Laws.IdiomCopy
import Derived.OrdersHeld
import Derived.Laws.BitsLemmas
import Derived.RowKit
import Derived.Attr
import Derived.Laws.StructEq
import Derived.Lib.SliceRun
import Derived.WalkSpells
import Derived.Laws.Append
import Derived.Laws.AppendOwn
import Derived.Laws.Entries
import Derived.Calls
import Derived.Laws.Sem
import Derived.Test.YtikjlbanfbkhmaaKPc96a8996f2
namespace Go.Proofs.Ytikjlbanfbkhmaa.fnExactTreesOn
open Go.Abs Go.ChangeShapes Go.WideShapes Go.ChangeAt Go.RowKit Go.Proofs.YtikjlbanfbkhmaaW.PrintWords Go.Proofs.Ytikjlbanfbkhmaa.PA
open Go.ChangeMaps (open_string shut_string)
set_option linter.unusedVariables false
set_option maxRecDepth 100000
theorem own : ownKnob Try.prog.godebug = none := by kernel_rfl
theorem laidOut : laidOutB Try.prog = true := by kernel_rfl
theorem orders : Try.prog.follows .mixedOrders = true := by kernel_rfl
def cLGraph : Cd LGraph := cIso (cPair (cSl (cSl (cInt .i64))) (cPair (cInt .i64) (cSl (cSl (cInt .i64))))) (fun x => (x.f0, x.f1, x.f2))
theorem oLGraph : cLGraph.Ones := oIso (oPair (oSl (cSl (cInt .i64))) (oPair (oInt .i64) (oSl (cSl (cInt .i64)))))
theorem cLGraph_R {x : LGraph} {c : List PV} (h : cLGraph.R x c) : ∃ v0 v2, c = [v0, .lit (.int .i64 x.f1), v2] ∧ Sl (cSl (cInt .i64)) x.f0 v0 ∧ Sl (cSl (cInt .i64)) x.f2 v2 := by
  obtain ⟨p0, q0, e0, g0, r0⟩ := h
  obtain ⟨p1, q1, e1, g1, r1⟩ := r0
  obtain ⟨v0, g0', s0⟩ := g0
  have g1' : p1 = _ := g1
  obtain ⟨v2, g2', s2⟩ := r1
  exact ⟨v0, v2, by rw [e0, g0', e1, g1', g2']; rfl, s0, s2⟩
theorem cLGraph_mk {a1 : Int} {l0 : List (List Int)} {v0 : PV} (h0 : Sl (cSl (cInt .i64)) l0 v0) {l2 : List (List Int)} {v2 : PV} (h2 : Sl (cSl (cInt .i64)) l2 v2) : cLGraph.R ⟨l0, a1, l2⟩ [v0, .lit (.int .i64 a1), v2] := ⟨_, _, rfl, ⟨_, rfl, h0⟩, ⟨_, _, rfl, rfl, ⟨_, rfl, h2⟩⟩⟩
theorem cLGraph_z : cLGraph.R zLGraph (([.slice none 0 0, .int .i64 0, .slice none 0 0] : List Value).map .lit) := ⟨_, _, rfl, ⟨_, rfl, .nil⟩, ⟨_, _, rfl, rfl, ⟨_, rfl, .nil⟩⟩⟩
theorem opensLGraph : OpensP Try.prog 38 cLGraph okLGraph := by
  have h : OpensP Try.prog 38 (cPair (cSl (cSl (cInt .i64))) (cPair (cInt .i64) (cSl (cSl (cInt .i64))))) _ := opensP_struct Try.underlying38 (by kernel_rfl) (fields_cons rfl (opensP_slice Try.underlying23 (by kernel_rfl) (Nat.lt_of_lt_of_le Nat.zero_lt_one (Nat.le_of_ble_eq_true rfl)) (opensP_slice Try.underlying26 (by kernel_rfl) (Nat.lt_of_lt_of_le Nat.zero_lt_one (Nat.le_of_ble_eq_true rfl)) (opensP_int Try.underlying3 (by kernel_rfl)))) (fields_cons rfl (opensP_int Try.underlying3 (by kernel_rfl)) (fields_last rfl (opensP_slice Try.underlying23 (by kernel_rfl) (Nat.lt_of_lt_of_le Nat.zero_lt_one (Nat.le_of_ble_eq_true rfl)) (opensP_slice Try.underlying26 (by kernel_rfl) (Nat.lt_of_lt_of_le Nat.zero_lt_one (Nat.le_of_ble_eq_true rfl)) (opensP_int Try.underlying3 (by kernel_rfl)))))))
  exact opensP_iso (f := fun x : LGraph => (x.f0, x.f1, x.f2)) (fun y => ⟨y.1, y.2.1, y.2.2⟩) (fun _ => rfl) h
theorem opensLTree : OpensP Try.prog 83 cLTree okLTree := by
  have h : OpensP Try.prog 83 (cPair (cInt .i64) (cPair (cInt .i64) (cPair (cInt .i64) (cInt .i64)))) _ := opensP_struct Try.underlying83 (by kernel_rfl) (fields_cons rfl (opensP_int Try.underlying3 (by kernel_rfl)) (fields_cons rfl (opensP_int Try.underlying3 (by kernel_rfl)) (fields_cons rfl (opensP_int Try.underlying3 (by kernel_rfl)) (fields_last rfl (opensP_int Try.underlying3 (by kernel_rfl))))))
  exact opensP_iso (f := fun x : LTree => (x.f0, x.f1, x.f2, x.f3)) (fun y => ⟨y.1, y.2.1, y.2.2.1, y.2.2.2⟩) (fun _ => rfl) h
set_option maxRecDepth 100000 in
theorem lifted (os : Os) (started : os.Started) (H : Type) (enc : TypeId × Value → H) :
    ReturnsInHanded {} Try.checked os 4 .any (Rows.fnExactTreesOnSpec.pre6 enc Try.prog Try.f4 Rows.fnExactTreesOnRow.domain false) (Rows.fnExactTreesOnSpec.post enc Try.prog Try.f4 false true false false) := by
  refine returnsInHanded_of_change_sized (C := Try.checked) own started (by kernel_rfl) Try.func4
    (ChangeSpec.witness6 (enc := enc) (C := Try.checked) false ⟨#[], #[.agg #[.slice none 0 0, .int .i64 0, .slice none 0 0], .int .i64 0, .slice none 0 0], []⟩ 8 (by kernel_rfl) (by kernel_rfl) (by kernel_rfl) (by kernel_rfl)) ?_
  intro W base args ds gs before hval0 hW hcnd hsz0 _
  have hval : ∀ (j : Nat) t v, Try.f4.params[j]? = some t → args[j]? = some v → Value.okWide Try.prog W .any base t v := hval0
  have hW' := hW
  obtain ⟨p, q, hA0, hV, rfl, hfz, hnd⟩ := hW
  have hA : DataW.TrodAll enc Try.prog W 0 (fun _ => true) true Try.f4.params.toList args.toList ds p := hA0
  rw [Try.params4] at hA hval
  obtain ⟨v0, vs0, d0, ds0, p0, q0, hargs, rfl, rfl, h0, r0⟩ := trodAll_cons hA
  obtain ⟨v1, vs1, d1, ds1, p1, q1, rfl, rfl, rfl, h1, r1⟩ := trodAll_cons r0
  obtain ⟨v2, vs2, d2, ds2, p2, q2, rfl, rfl, rfl, h2, r2⟩ := trodAll_cons r1
  obtain ⟨rfl, rfl, rfl⟩ := trodAll_nil r2
  obtain rfl : args = #[v0, v1, v2] := by cases args; simp_all
  obtain ⟨rfl, rfl⟩ := trodVars_none hV
  obtain ⟨cs0, rfl, hz0⟩ := okWide_struct Try.underlying38 (hval 0 38 v0 rfl rfl)
  have k0 := h0
  have lt0 : ∀ x ∈ p0, x.block < W.heap.size := by obtain ⟨m, hm⟩ := k0; exact DataW.trod_lt m _ _ _ hm
  obtain ⟨y0, c0, hK0, hr0, hp0⟩ := openP_agg opensLGraph h0
  obtain ⟨v0_0, v0_2, rfl, hs0_0, hs0_2⟩ := cLGraph_R (x := y0) hK0
  obtain ⟨hp0_0, hp0_1, hp0_2⟩ := hp0
  obtain ⟨a1, rfl, rfl, rfl, w1⟩ := open_int Try.underlying3 (hval 1 3 v1 rfl rfl) h1
  obtain ⟨a2, len2, cap2, rfl⟩ := okWide_slice Try.underlying39 (hval 2 39 v2 rfl rfl)
  have k2 := h2
  have lt2 : ∀ x ∈ p2, x.block < W.heap.size := by obtain ⟨m, hm⟩ := k2; exact DataW.trod_lt m _ _ _ hm
  obtain ⟨l2, pv2, hs2, hr2, hp2⟩ := openP_slice (opensP_slice Try.underlying39 (by kernel_rfl) (Nat.lt_of_lt_of_le Nat.zero_lt_one (Nat.le_of_ble_eq_true rfl)) opensLTree) h2
  obtain ⟨k, hk⟩ := Pure.FnExactTreesOn y0.f0 y0.f1 y0.f2 a1 l2 hp0_0 hp0_1 hp0_2 w1 hp2
  clear hA0 hval0 hsz0
  refine (Ret.calls orders (laws_FnExactTreesOn.ev hs0_0 hs0_2 hs2 hk) (relA_cons hr0 (relA_cons (.lit _) (relA_cons hr2 relA_nil)))).mono fun e W' ⟨he, bel⟩ => ?_
  subst he
  exact ⟨_, rfl, _, _, _, [], _, [], hW', trodAll_mk1 (shut_bool Try.underlying4 _), (trodAll_cons_mk (Below.trod laidOut (by kernel_rfl) (of_decide_eq_true (by kernel_rfl)) k0 bel lt0) (trodAll_cons_mk (shut_int Try.underlying3 w1) (trodAll_cons_mk (Below.trod laidOut (by kernel_rfl) (of_decide_eq_true (by kernel_rfl)) k2 bel lt2) trodAll_mk0))), rfl, bel.frame _, fun h => by cases h⟩
theorem over : Rows.fnExactTreesOnRow.holds Try.pinned (OpenSpec.ofChange Rows.fnExactTreesOnSpec) :=
  OpenClaim.holds_of_wide 4 Try.f4 rfl rfl rfl rfl rfl rfl rfl ⟨rfl, rfl, rfl, rfl, rfl⟩ rfl rfl rfl rfl rfl (by kernel_rfl) Try.func4 (by kernel_rfl)
    (of_decide_eq_true (by kernel_rfl)) (by unfold Func.isWrapper; first | (rw [if_pos (by decide +kernel)]; kernel_rfl) | (rw [if_neg (by decide +kernel)]; exact ⟨rfl, rfl⟩))
    (fun os started H enc _ => lifted os started H enc)
theorem proved : Rows.FnExactTreesOnSaid := over
#print axioms proved
end Go.Proofs.Ytikjlbanfbkhmaa.fnExactTreesOn
namespace Go.Proofs.Ytikjlbanfbkhmaa
theorem fnExactTreesOn_holds : Rows.FnExactTreesOnSaid := fnExactTreesOn.proved
end Go.Proofs.Ytikjlbanfbkhmaa
