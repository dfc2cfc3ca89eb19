/- The statement FnExactApartBitsSaid, proved: for every input the law returns true and each argument reads as it read. No conditions. -/
import Derived.Test.YtoofhjflfpccdaaRows
import Derived.WalkKit
import Derived.ProofKit
import Derived.OpenShut
import Derived.ShutString
import Derived.ChangeOld
import Derived.Below
import Derived.SizedLaws
import Derived.ChangeArms
import Derived.ChangeSlices
import Derived.Deep.Slices
import Derived.Test.YtoofhjflfpccdaaProg
import Derived.Deep.Draws
import Derived.Deep.AppendLies
import Derived.Maps.AppendAt
import Derived.OwnWalk
import Derived.Laws.BytesArg
import Derived.Laws.MakeOwn
import Derived.Laws.OwnMore
import Derived.Deep.OwnRows
import Derived.Tactics
import Derived.Lib.ConvBytes
import Derived.Laws.Slices
import Derived.KernelRfl
import Derived.RowKit3
import Derived.Deep.LoopGhost
import Derived.Deep.QuietTactic
import Derived.BigQuiet
import Derived.WideLaws
import Derived.Deep.DeepCutAuto
import Derived.Deep.CutBlock
import Derived.Deep.RegionHeld3
import Derived.Laws.Rows
import Derived.Lib.AppendStr
import Derived.ArgAppend
import Derived.Laws.IdiomCopy
import Derived.OrdersHeld
import Derived.Laws.BitsLemmas
import Derived.RowKit
import Derived.Laws.StructEq
import Derived.Lib.SliceRun
import Derived.WalkSpells
import Derived.Test.YtoofhjflfpccdaaKPe7fe254b54
import Derived.Test.YtoofhjflfpccdaaKQ5a74924c05
namespace Go.Proofs.Ytoofhjflfpccdaa.fnExactApartBits
open Go.ChangeShapes Go.WideShapes Go.ChangeAt Go.RowKit Go.Proofs.YtoofhjflfpccdaaW.PrintWords Go.Proofs.Ytoofhjflfpccdaa.PA
open Go.ChangeMaps (open_string shut_string)
set_option linter.unusedVariables false
theorem own : ownKnob Try.prog.godebug = none := by kernel_rfl
theorem laidOut : laidOutB Try.prog = true := by kernel_rfl
instance : Inhabited LVar := ⟨zLVar⟩
theorem opensLVar : Opens Try.prog 84 k84 okLVar := opens_iso (fun y => ⟨y.1, y.2.1, y.2.2⟩) (fun _ => rfl) (opens_struct3 Try.underlying84 ⟨by kernel_rfl, by kernel_rfl, by kernel_rfl, by kernel_rfl⟩ (opens_int Try.underlying3 (by kernel_rfl)) (opens_int Try.underlying3 (by kernel_rfl)) (opens_int Try.underlying3 (by kernel_rfl)))
instance : Inhabited LTerm := ⟨zLTerm⟩
theorem opensLTerm : Opens Try.prog 112 k112 okLTerm := opens_iso (fun y => ⟨y.1, y.2.1, y.2.2.1, y.2.2.2⟩) (fun _ => rfl) (opens_struct4 Try.underlying112 ⟨by kernel_rfl, by kernel_rfl, by kernel_rfl, by kernel_rfl, by kernel_rfl⟩ (opens_int Try.underlying3 (by kernel_rfl)) (opens_int Try.underlying3 (by kernel_rfl)) (opens_int Try.underlying3 (by kernel_rfl)) (opens_int Try.underlying3 (by kernel_rfl)))
instance : Inhabited LRule := ⟨zLRule⟩
theorem opensLRule : Opens Try.prog 75 k75 okLRule := opens_iso (fun y => ⟨y.1, y.2.1, y.2.2⟩) (fun _ => rfl) (opens_struct3 Try.underlying75 ⟨by kernel_rfl, by kernel_rfl, by kernel_rfl, by kernel_rfl⟩ (opens_slice Try.underlying72 (by kernel_rfl) opensLTerm) (opens_slice Try.underlying35 (by kernel_rfl) (opens_int Try.underlying3 (by kernel_rfl))) (opens_slice Try.underlying73 (by kernel_rfl) (opens_slice Try.underlying72 (by kernel_rfl) opensLTerm)))
instance : Inhabited LSystem := ⟨zLSystem⟩
theorem opensLSystem : Opens Try.prog 25 k25 okLSystem := opens_iso (fun y => ⟨y.1, y.2⟩) (fun _ => rfl) (opens_struct2 Try.underlying25 ⟨by kernel_rfl, by kernel_rfl, by kernel_rfl⟩ (opens_slice Try.underlying22 (by kernel_rfl) opensLVar) (opens_slice Try.underlying23 (by kernel_rfl) opensLRule))
set_option maxRecDepth 100000 in
theorem lifted (os : Os) (started : os.Started) (H : Type) (enc : TypeId × Value → H) :
    ReturnsInHanded {} Try.checked os 8 .any (Rows.fnExactApartBitsSpec.pre6 enc Try.prog Try.f8 Rows.fnExactApartBitsRow.domain false) (Rows.fnExactApartBitsSpec.post enc Try.prog Try.f8 false true false false) := by
  refine returnsInHanded_of_change_sized (C := Try.checked) own started (by kernel_rfl) Try.func8
    (ChangeSpec.witness6 (enc := enc) (C := Try.checked) false ⟨#[], #[.agg #[.slice none 0 0, .slice none 0 0], .slice none 0 0, .slice none 0 0], []⟩ 8 (by kernel_rfl) (by kernel_rfl) (by kernel_rfl) (by kernel_rfl)) ?_
  intro W base args ds gs before hval0 hW hcnd hsz0 _
  have hval : ∀ (j : Nat) t v, Try.f8.params[j]? = some t → args[j]? = some v → Value.okWide Try.prog W .any base t v := hval0
  have hW' := hW
  obtain ⟨p, q, hA0, hV, rfl, hfz, hnd⟩ := hW
  have hA : DataW.TrodAll enc Try.prog W 0 (fun _ => true) true Try.f8.params.toList args.toList ds p := hA0
  rw [Try.params8] at hA hval
  obtain ⟨v0, vs0, d0, ds0, p0, q0, hargs, rfl, rfl, h0, r0⟩ := trodAll_cons hA
  obtain ⟨v1, vs1, d1, ds1, p1, q1, rfl, rfl, rfl, h1, r1⟩ := trodAll_cons r0
  obtain ⟨v2, vs2, d2, ds2, p2, q2, rfl, rfl, rfl, h2, r2⟩ := trodAll_cons r1
  obtain ⟨rfl, rfl, rfl⟩ := trodAll_nil r2
  obtain rfl : args = #[v0, v1, v2] := by cases args; simp_all
  obtain ⟨rfl, rfl⟩ := trodVars_none hV
  obtain ⟨cs0, rfl, hz0⟩ := okWide_struct Try.underlying25 (hval 0 25 v0 rfl rfl)
  have k0 := h0
  have lt0 : ∀ x ∈ p0, x.block < W.heap.size := by obtain ⟨m, hm⟩ := k0; exact DataW.trod_lt m _ _ _ hm
  obtain ⟨y0, hK0, hp0⟩ := open_agg_arg opensLSystem h0
  obtain ⟨A0_0, c0_0, A0_1, c0_1, hcs0, hl0_0, hC0_0, hl0_1, hC0_1⟩ := k25_open hK0
  obtain rfl : cs0 = #[.slice A0_0 y0.f0.length c0_0, .slice A0_1 y0.f1.length c0_1] := by cases cs0; simp_all
  obtain ⟨hp0_0, hp0_1⟩ := hp0
  obtain ⟨a1, len1, cap1, rfl⟩ := okWide_slice Try.underlying35 (hval 1 35 v1 rfl rfl)
  have k1 := h1
  have lt1 : ∀ x ∈ p1, x.block < W.heap.size := by obtain ⟨m, hm⟩ := k1; exact DataW.trod_lt m _ _ _ hm
  obtain ⟨l1, rfl, hl1, hC1, hp1⟩ := open_arg (opens_slice Try.underlying35 (by kernel_rfl) (opens_int Try.underlying3 (by kernel_rfl))) h1
  obtain ⟨a2, len2, cap2, rfl⟩ := okWide_slice Try.underlying35 (hval 2 35 v2 rfl rfl)
  have k2 := h2
  have lt2 : ∀ x ∈ p2, x.block < W.heap.size := by obtain ⟨m, hm⟩ := k2; exact DataW.trod_lt m _ _ _ hm
  obtain ⟨l2, rfl, hl2, hC2, hp2⟩ := open_arg (opens_slice Try.underlying35 (by kernel_rfl) (opens_int Try.underlying3 (by kernel_rfl))) h2
  obtain ⟨k, hk⟩ := Pure.FnExactApartBits y0.f0 y0.f1 l1 l2 hp0_0 hp0_1 hp1 hp2
  clear hA0 hval0 hsz0
  refine (laws_FnExactApartBits.calls k _ _ y0.f0 _ _ y0.f1 _ _ l1 _ _ l2 true W hC0_0 hl0_0 hC0_1 hl0_1 hC1 hl1 hC2 hl2 hk rfl).mono fun e W' ⟨he, bel⟩ => ?_
  subst he
  exact ⟨_, rfl, _, _, _, [], _, [], hW', trodAll_mk1 (shut_bool Try.underlying4 _), (trodAll_cons_mk (Below.trod laidOut (by kernel_rfl) (of_decide_eq_true (by kernel_rfl)) k0 bel lt0) (trodAll_cons_mk (Below.trod laidOut (by kernel_rfl) (of_decide_eq_true (by kernel_rfl)) k1 bel lt1) (trodAll_cons_mk (Below.trod laidOut (by kernel_rfl) (of_decide_eq_true (by kernel_rfl)) k2 bel lt2) trodAll_mk0))), rfl, bel.frame _, fun h => by cases h⟩
theorem over : Rows.fnExactApartBitsRow.holds Try.pinned (OpenSpec.ofChange Rows.fnExactApartBitsSpec) :=
  OpenClaim.holds_of_wide 8 Try.f8 rfl rfl rfl rfl rfl rfl rfl ⟨rfl, rfl, rfl, rfl, rfl⟩ rfl rfl rfl rfl rfl (by kernel_rfl) Try.func8 (by kernel_rfl)
    (of_decide_eq_true (by kernel_rfl)) (by unfold Func.isWrapper; first | (rw [if_pos (by decide +kernel)]; kernel_rfl) | (rw [if_neg (by decide +kernel)]; exact ⟨rfl, rfl⟩))
    (fun os started H enc _ => lifted os started H enc)
theorem proved : Rows.FnExactApartBitsSaid := over
#print axioms proved
end Go.Proofs.Ytoofhjflfpccdaa.fnExactApartBits
namespace Go.Proofs.Ytoofhjflfpccdaa
theorem fnExactApartBits_holds : Rows.FnExactApartBitsSaid := fnExactApartBits.proved
end Go.Proofs.Ytoofhjflfpccdaa
