/- The statement FnExactSetValidSaid, proved: for every input the law returns true and each argument reads as it read. No conditions. -/
import Derived.Test.YtndmhmekmkgccaaRows
import Derived.WalkKit
import Derived.ProofKit
import Derived.OpenShut
import Derived.ShutString
import Derived.ChangeOld
import Derived.Below
import Derived.SizedLaws
import Derived.Test.YtndmhmekmkgccaaKP58419e44e7
import Derived.Test.YtndmhmekmkgccaaKQd8af2efec8
import Derived.Test.YtndmhmekmkgccaaKW0898dac022
namespace Go.Proofs.Ytndmhmekmkgccaa.fnExactSetValid
open Go.ChangeShapes Go.WideShapes Go.ChangeAt Go.RowKit Go.Proofs.YtndmhmekmkgccaaW.PrintWords Go.Proofs.Ytndmhmekmkgccaa.PFnExactSetValid
open Go.ChangeMaps (open_string shut_string)
set_option linter.unusedVariables false
theorem own : ownKnob Try.prog.godebug = none := by kernel_rfl
theorem laidOut : laidOutB Try.prog = true := by kernel_rfl
instance : Inhabited LVar := ⟨zLVar⟩
theorem opensLVar : Opens Try.prog 147 k147 okLVar := opens_iso (fun y => ⟨y.1, y.2.1, y.2.2⟩) (fun _ => rfl) (opens_struct3 Try.underlying147 ⟨by kernel_rfl, by kernel_rfl, by kernel_rfl, by kernel_rfl⟩ (opens_int Try.underlying3 (by kernel_rfl)) (opens_int Try.underlying3 (by kernel_rfl)) (opens_int Try.underlying3 (by kernel_rfl)))
instance : Inhabited LTerm := ⟨zLTerm⟩
theorem opensLTerm : Opens Try.prog 180 k180 okLTerm := opens_iso (fun y => ⟨y.1, y.2.1, y.2.2.1, y.2.2.2⟩) (fun _ => rfl) (opens_struct4 Try.underlying180 ⟨by kernel_rfl, by kernel_rfl, by kernel_rfl, by kernel_rfl, by kernel_rfl⟩ (opens_int Try.underlying3 (by kernel_rfl)) (opens_int Try.underlying3 (by kernel_rfl)) (opens_int Try.underlying3 (by kernel_rfl)) (opens_int Try.underlying3 (by kernel_rfl)))
instance : Inhabited LRule := ⟨zLRule⟩
theorem opensLRule : Opens Try.prog 138 k138 okLRule := opens_iso (fun y => ⟨y.1, y.2.1, y.2.2⟩) (fun _ => rfl) (opens_struct3 Try.underlying138 ⟨by kernel_rfl, by kernel_rfl, by kernel_rfl, by kernel_rfl⟩ (opens_slice Try.underlying135 (by kernel_rfl) opensLTerm) (opens_slice Try.underlying26 (by kernel_rfl) (opens_int Try.underlying3 (by kernel_rfl))) (opens_slice Try.underlying136 (by kernel_rfl) (opens_slice Try.underlying135 (by kernel_rfl) opensLTerm)))
instance : Inhabited LSystem := ⟨zLSystem⟩
theorem opensLSystem : Opens Try.prog 37 k37 okLSystem := opens_iso (fun y => ⟨y.1, y.2⟩) (fun _ => rfl) (opens_struct2 Try.underlying37 ⟨by kernel_rfl, by kernel_rfl, by kernel_rfl⟩ (opens_slice Try.underlying34 (by kernel_rfl) opensLVar) (opens_slice Try.underlying35 (by kernel_rfl) opensLRule))
set_option maxRecDepth 100000 in
theorem lifted (os : Os) (started : os.Started) (H : Type) (enc : TypeId × Value → H) :
    ReturnsInHanded {} Try.checked os 7 .any (Rows.fnExactSetValidSpec.pre6 enc Try.prog Try.f7 Rows.fnExactSetValidRow.domain false) (Rows.fnExactSetValidSpec.post enc Try.prog Try.f7 false true false false) := by
  refine returnsInHanded_of_change_sized (C := Try.checked) own started (by kernel_rfl) Try.func7
    (ChangeSpec.witness6 (enc := enc) (C := Try.checked) false ⟨#[], #[.agg #[.slice none 0 0, .slice none 0 0], .slice none 0 0], []⟩ 8 (by kernel_rfl) (by kernel_rfl) (by kernel_rfl) (by kernel_rfl)) ?_
  intro W base args ds gs before hval0 hW hcnd hsz0 _
  have hval : ∀ (j : Nat) t v, Try.f7.params[j]? = some t → args[j]? = some v → Value.okWide Try.prog W .any base t v := hval0
  have hW' := hW
  obtain ⟨p, q, hA0, hV, rfl, hfz, hnd⟩ := hW
  have hA : DataW.TrodAll enc Try.prog W 0 (fun _ => true) true Try.f7.params.toList args.toList ds p := hA0
  rw [Try.params7] at hA hval
  obtain ⟨v0, vs0, d0, ds0, p0, q0, hargs, rfl, rfl, h0, r0⟩ := trodAll_cons hA
  obtain ⟨v1, vs1, d1, ds1, p1, q1, rfl, rfl, rfl, h1, r1⟩ := trodAll_cons r0
  obtain ⟨rfl, rfl, rfl⟩ := trodAll_nil r1
  obtain rfl : args = #[v0, v1] := by cases args; simp_all
  obtain ⟨rfl, rfl⟩ := trodVars_none hV
  obtain ⟨cs0, rfl, hz0⟩ := okWide_struct Try.underlying37 (hval 0 37 v0 rfl rfl)
  have k0 := h0
  have lt0 : ∀ x ∈ p0, x.block < W.heap.size := by obtain ⟨m, hm⟩ := k0; exact DataW.trod_lt m _ _ _ hm
  obtain ⟨y0, hK0, hp0⟩ := open_agg_arg opensLSystem h0
  obtain ⟨A0_0, c0_0, A0_1, c0_1, hcs0, hl0_0, hC0_0, hl0_1, hC0_1⟩ := k37_open hK0
  obtain rfl : cs0 = #[.slice A0_0 y0.f0.length c0_0, .slice A0_1 y0.f1.length c0_1] := by cases cs0; simp_all
  obtain ⟨hp0_0, hp0_1⟩ := hp0
  obtain ⟨a1, len1, cap1, rfl⟩ := okWide_slice Try.underlying26 (hval 1 26 v1 rfl rfl)
  have k1 := h1
  have lt1 : ∀ x ∈ p1, x.block < W.heap.size := by obtain ⟨m, hm⟩ := k1; exact DataW.trod_lt m _ _ _ hm
  obtain ⟨l1, rfl, hl1, hC1, hp1⟩ := open_arg (opens_slice Try.underlying26 (by kernel_rfl) (opens_int Try.underlying3 (by kernel_rfl))) h1
  obtain ⟨k, hk⟩ := Pure.FnExactSetValid y0.f0 y0.f1 l1 hp0_0 hp0_1 hp1
  clear hA0 hval0 hsz0
  refine (laws_FnExactSetValid.calls k _ _ y0.f0 _ _ y0.f1 _ _ l1 true W hC0_0 hl0_0 hC0_1 hl0_1 hC1 hl1 hk rfl).mono fun e W' ⟨he, bel⟩ => ?_
  subst he
  exact ⟨_, rfl, _, _, _, [], _, [], hW', trodAll_mk1 (shut_bool Try.underlying4 _), (trodAll_cons_mk (Below.trod laidOut (by kernel_rfl) (of_decide_eq_true (by kernel_rfl)) k0 bel lt0) (trodAll_cons_mk (Below.trod laidOut (by kernel_rfl) (of_decide_eq_true (by kernel_rfl)) k1 bel lt1) trodAll_mk0)), rfl, bel.frame _, fun h => by cases h⟩
theorem over : Rows.fnExactSetValidRow.holds Try.pinned (OpenSpec.ofChange Rows.fnExactSetValidSpec) :=
  OpenClaim.holds_of_wide 7 Try.f7 rfl rfl rfl rfl rfl rfl rfl ⟨rfl, rfl, rfl, rfl, rfl⟩ rfl rfl rfl rfl rfl (by kernel_rfl) Try.func7 (by kernel_rfl)
    (of_decide_eq_true (by kernel_rfl)) (by unfold Func.isWrapper; first | (rw [if_pos (by decide +kernel)]; kernel_rfl) | (rw [if_neg (by decide +kernel)]; exact ⟨rfl, rfl⟩))
    (fun os started H enc _ => lifted os started H enc)
theorem proved : Rows.FnExactSetValidSaid := over
#print axioms proved
end Go.Proofs.Ytndmhmekmkgccaa.fnExactSetValid
namespace Go.Proofs.Ytndmhmekmkgccaa
theorem fnExactSetValid_holds : Rows.FnExactSetValidSaid := fnExactSetValid.proved
end Go.Proofs.Ytndmhmekmkgccaa
