/- Words for walks: plain theorems on memory, rows and numbers, each under the conditions that it names. -/
import Derived.Laws.StructEq
import Derived.Laws.BytesArg
import Derived.Laws.Slices
import Derived.Laws.MakeOwn
import Derived.Laws.Append
import Derived.Laws.AppendOwn
import Derived.Laws.IdiomCopy
import Derived.Laws.Entries
import Derived.Calls
import Derived.Laws.Sem
import Derived.Below
import Derived.RowKit
import Derived.Attr
import Derived.ChangeArms
import Derived.ChangeSlices
import Derived.Deep.Slices
import Derived.Test.YtpbpmfckmgcdfaaDoorKW30b9bf3a8e
section
namespace Go.Abs
open Go
variable {P : Program} {w : World} {S : Sto} {L : Id → Option Loc} {F K : Nat → Prop}
def SoundC (P : Program) (C : CallP) : Prop := ∀ f ps S r S', C f ps S r S' → Gives P f ps S r S'
theorem want_sound {os : Array Oper} {tm : Tm} {a : Act} {o : Oper} {b : Bool} (ht : TmRel w F L tm a) (h : wantFn os tm o = some b) : Region.wanted o (yielded os a.tmps) = b := by
  unfold wantFn at h
  unfold Region.wanted
  split at h
  · rename_i hg
    simp only [hg]
    simpa using h
  · rename_i j want hg
    simp only [hg]
    split at h
    · rename_i d hd
      have hr := ht d
      simp only [yielded, hd, Option.bind_some]
      split at h
      · rename_i b' hb
        rw [hb] at hr
        have he := hr.lit_eq
        rw [Array.getD_eq_getD_getElem?] at he
        cases hx : a.tmps[d]? with
        | none => rw [hx] at he; cases he
        | some u =>
          rw [hx] at he
          obtain rfl : u = .bool b' := he
          obtain rfl := Option.some.inj h
          cases b' <;> cases want <;> rfl
      · rename_i vs hb
        rw [hb] at hr
        have he := hr.lit_eq
        rw [Array.getD_eq_getD_getElem?] at he
        obtain rfl := Option.some.inj h
        cases hx : a.tmps[d]? with
        | none => rfl
        | some u =>
          rw [hx] at he
          obtain rfl : u = .tuple vs := he
          rfl
      · cases h
    · cases h
theorem calleeOf_rel {p : PV} {v : Value} {f : FuncId} {cs : List PV} (hr : Rel w F L p v) (h : calleeOf p = some (f, cs)) : ∃ vs : Array Value, v = .func (.func f) #[] vs ∧ RelA w F L cs vs.toList := by
  cases hr with
  | fn vs hs hrr =>
    simp only [calleeOf, Option.some.injEq, Prod.mk.injEq] at h
    obtain ⟨rfl, rfl⟩ := h
    exact ⟨vs, rfl, hs, hrr⟩
  | lit v =>
    unfold calleeOf at h
    split at h
    · rename_i hq; cases hq
    · rename_i f' a b hq
      obtain rfl : v = .func (.func f') a b := by injection hq
      split at h
      · rename_i ha
        simp only [Option.some.injEq, Prod.mk.injEq] at h
        obtain ⟨rfl, rfl⟩ := h
        obtain rfl : a = #[] := Array.eq_empty_of_size_eq_zero ha
        exact ⟨b, rfl, RelA.lits _⟩
      · cases h
    · cases h
  | sl => simp [calleeOf] at h
  | wild => simp [calleeOf] at h
  | agg => simp [calleeOf] at h
  | tup => simp [calleeOf] at h
  | fel => simp [calleeOf] at h
  | loc => simp [calleeOf] at h
  | ptr => simp [calleeOf] at h
theorem run_call {ev : Operand → Value} {o : Oper} {x : Operand} {xs : Array Operand} {ts : Array TypeId} {f : FuncId} {vs : Array Value} (ho : o.op = .call ⟨.value x, xs, ts⟩) (hx : ev x = .func (.func f) #[] vs) (he : Ent P f) :
    (execOp ev o).run P w = .ok (.enter f (xs.map ev ++ vs)) w := by
  obtain ⟨fn, c, h1, h2, h3⟩ := he
  obtain ⟨dst, op, type, pos, after, guard⟩ := o
  obtain rfl : op = _ := ho
  have h4 : ¬ fn.body = none := by rw [h2]; simp
  have h5 : ¬ fn.name = "runtime.NumGoroutine" := by simpa using h3
  simp [execOp, resolve, hx, Deferred.ofValue, invoke, callFunc, h1, h5, h4]
theorem RelA.maps {ρ : Operand → PV} {ev : Operand → Value} (hr : ∀ x, Rel w F L (ρ x) (ev x)) (l : List Operand) : RelA w F L (l.map ρ) (l.map ev) := by
  refine ⟨by simp, fun j c u hc hu => ?_⟩
  simp only [List.getElem?_map, Option.map_eq_some_iff] at hc hu
  obtain ⟨x, hx, rfl⟩ := hc
  obtain ⟨y, hy, rfl⟩ := hu
  obtain rfl : x = y := by rw [hx] at hy; exact Option.some.inj hy
  exact hr x
def After (P : Program) (os : Array Oper) (Q : Exit → Act → World → Prop) (rest : List Nat) (o : Oper) (a : Act) (w : World) (L : Id → Option Loc) (F K : Nat → Prop) (v : PV) (S1 : Sto) : Prop :=
  ∀ w' L' F' u, Rel w' F' L' v u → Inv w' S1 L' F' K → Ext w F L K w' F' L' → wpOps P os Q rest (a.put o.dst u) w'
section
variable {os : Array Oper} {Q : Exit → Act → World → Prop} {rest : List Nat} {i : Nat} {o : Oper} {a : Act}
theorem wp_cons_value (ho : os[i]? = some o) (hw : Region.wanted o (yielded os a.tmps) = true) {u : Value} {w' : World} (h : (execOp a.eval o).run P w = .ok (.value u) w') (hn : wpOps P os Q rest (a.put o.dst u) w') :
    wpOps P os Q (i :: rest) a w := by
  simp only [wpOps, ho, hw, if_true]
  exact .inl (by simp only [Oper.wp, h, Oper.upon]; exact hn)
theorem wp_cons_skip (ho : os[i]? = some o) (hw : Region.wanted o (yielded os a.tmps) = true) {w' : World} (h : (execOp a.eval o).run P w = .ok .skip w') (hn : wpOps P os Q rest (a.put o.dst Go.undef) w') :
    wpOps P os Q (i :: rest) a w := by
  simp only [wpOps, ho, hw, if_true]
  exact .inl (by simp only [Oper.wp, h, Oper.upon]; exact hn)
theorem wp_cons_not (ho : os[i]? = some o) (hw : Region.wanted o (yielded os a.tmps) = false) (hn : wpOps P os Q rest (a.put o.dst Go.undef) w) :
    wpOps P os Q (i :: rest) a w := by
  simp only [wpOps, ho, hw]
  exact hn
theorem wp_cons_call (ho : os[i]? = some o) (hw : Region.wanted o (yielded os a.tmps) = true) {f : FuncId} {args : Array Value} (h : (execOp a.eval o).run P w = .ok (.enter f args) w)
    (hn : Calls P f args w fun e w' => ∃ u, e = .returned u ∧ wpOps P os Q rest (a.put o.dst u) w') : wpOps P os Q (i :: rest) a w := by
  simp only [wpOps, ho, hw, if_true]
  refine .inl ?_
  simp only [Oper.wp, h, Oper.upon]
  refine hn.mono fun e w' he => ?_
  obtain ⟨u, rfl, hq⟩ := he
  exact hq
theorem up_ge (g : Nat → Nat) (i : Id) : ¬ (Id.up g i).g < g (Id.up g i).s := by simp only [Id.up]; omega
theorem up_sub (g : Nat → Nat) (i : Id) : (⟨(Id.up g i).s, (Id.up g i).g - g (Id.up g i).s⟩ : Id) = i := by
  cases i; simp only [Id.up, Id.mk.injEq, true_and]; omega
theorem up_of (g : Nat → Nat) {i : Id} (h : ¬ i.g < g i.s) : Id.up g ⟨i.s, i.g - g i.s⟩ = i := by
  cases i; simp only [Id.up, Id.mk.injEq, true_and] at h ⊢; omega
theorem renL_get {g : Nat → Nat} {cs : List PV} {j : Nat} {c : PV} (h : (renL g cs)[j]? = some c) : ∃ d, cs[j]? = some d ∧ c = d.ren g := by
  rw [renL_eq, List.getElem?_map, Option.map_eq_some_iff] at h
  obtain ⟨d, h1, h2⟩ := h
  exact ⟨d, h1, h2.symm⟩
theorem renL_length (g : Nat → Nat) (cs : List PV) : (renL g cs).length = cs.length := by rw [renL_eq, List.length_map]
theorem Rel.ren {w' : World} {F F' : Nat → Prop} {L2 L' : Id → Option Loc} {g : Nat → Nat} (hL : ∀ i ℓ, L2 i = some ℓ → L' (Id.up g i) = some ℓ) {p : PV} {v : Value} (h : Rel w' F L2 p v) : Own p → Rel w' F' L' (p.ren g) v := by
  induction h with
  | lit v => intro _; exact .lit v
  | sl => intro h; cases h
  | wild => intro h; cases h
  | fel => intro h; cases h
  | fn => intro h; cases h
  | agg vs hs hr ih =>
    intro h; cases h with
    | agg h =>
      simp only [PV.ren]
      refine .agg vs (by rw [renL_length]; exact hs) fun j c u e1 e2 => ?_
      obtain ⟨d, h1, rfl⟩ := renL_get e1
      exact ih j d u h1 e2 (h d (List.mem_of_getElem? h1))
  | tup vs hs hr ih =>
    intro h; cases h with
    | tup h =>
      simp only [PV.ren]
      refine .tup vs (by rw [renL_length]; exact hs) fun j c u e1 e2 => ?_
      obtain ⟨d, h1, rfl⟩ := renL_get e1
      exact ih j d u h1 e2 (h d (List.mem_of_getElem? h1))
  | loc cap o h1 h2 h3 h4 => intro _; simp only [PV.ren]; exact .loc cap o (hL _ _ h1) h2 h3 h4
  | ptr h1 => intro _; simp only [PV.ren]; exact .ptr (hL _ _ h1)
theorem Inv.sub {w : World} {S1 S2 : Sto} {L : Id → Option Loc} {F K : Nat → Prop} (hi : Inv w S1 L F K) (hobj : ∀ j q, S2.obj j = some q → S1.obj j = some q) (hg : S2.gen = S1.gen) : Inv w S2 L F K :=
  ⟨fun j q h => hi.live j q (hobj j q h), fun j k q q' m m' h h' => hi.apart j k q q' m m' (hobj _ _ h) (hobj _ _ h'), fun i h => hi.fresh i (by rw [← hg]; exact h), hi.fz⟩
theorem Inv.back {w : World} {S' : Sto} {L : Id → Option Loc} {F K : Nat → Prop} (hi : Inv w S' L F K) (S : Sto) : Inv w (S.back S') L F K := by
  have hobj : ∀ j q, (S.back S').obj j = some q → S'.obj j = some q := fun j q h => by
    simp only [Sto.back] at h
    split at h
    · exact h
    · cases h
  exact ⟨fun j q h => hi.live j q (hobj j q h), fun j k q q' m m' h h' => hi.apart j k q q' m m' (hobj _ _ h) (hobj _ _ h'), hi.fresh, hi.fz⟩
theorem step_sound {C : CallP} (hC : SoundC P C) {κ : Cls} {tm : Tm} {v : PV} {S1 : Sto} (ho : os[i]? = some o) (h : Step C P os κ o tm S v S1) (ht : TmRel w F L tm a) (hi : Inv w S L F K)
    (hn : After P os Q rest o a w L F K v S1) : wpOps P os Q (i :: rest) a w := by
  have hops := ht.opnd
  cases h with
  | skp h => exact wp_cons_not ho (want_sound ht h) (hn w L F _ (.lit _) hi (.refl _ _ _ _))
  | oneP hw h =>
    obtain ⟨w', L', u, x, h1, h2, h3, h4, h5⟩ := op_sound (P := P) o _ hops hi (h _)
    rcases h2 with rfl | ⟨rfl, rfl⟩
    · exact wp_cons_value ho (want_sound ht hw) h1 (hn w' L' F u h3 h4 h5)
    · exact wp_cons_skip ho (want_sound ht hw) h1 (hn w' L' F _ h3 h4 h5)
  | one hw hk h =>
    obtain ⟨w', L', u, x, h1, h2, h3, h4, h5⟩ := op_sound (P := P) o _ hops hi h
    rcases h2 with rfl | ⟨rfl, rfl⟩
    · exact wp_cons_value ho (want_sound ht hw) h1 (hn w' L' F u h3 h4 h5)
    · exact wp_cons_skip ho (want_sound ht hw) h1 (hn w' L' F _ h3 h4 h5)
  | oneI hw hq h =>
    obtain ⟨p, S', io, ob, h, hob, hv, hgi, hkeep⟩ := h S
    obtain ⟨w', L', u, x, h1, h2, h3, h4, h5⟩ := op_sound (P := P) o _ hops hi h
    obtain ⟨ℓ, _, _, hl, _⟩ := h4.live _ _ hob
    obtain ⟨g1, g2⟩ := h4.grow hob hl
    have hr := (view_rel g1 hv (h3.ext g2)).grow fun b hb => hb.elim id fun h => by cases h.1
    have hlt : ∀ j ℓ, L j = some ℓ → j.g < S.gen j.s := fun j ℓ hj => Nat.lt_of_not_le fun hn => by rw [hi.fresh j hn] at hj; cases hj
    have hold : ∀ j q, S.obj j = some q → (j.g < S.gen j.s) ∧ (S'.set io { ob with frz := true }).obj j = some q := fun j q hj => by
      obtain ⟨m, _, _, hm, _⟩ := hi.live j q hj
      have hj2 := hlt j m hm
      refine ⟨hj2, ?_⟩
      have hne : j ≠ io := fun e => by rw [e] at hj2; omega
      simp only [Sto.set]
      rw [upd_ne _ _ hne]
      exact hkeep j q hj hj2
    have hcut : ∀ j, j.g < S.gen j.s → (fun j : Id => if j.g < S.gen j.s then L' j else none) j = L' j := fun j h => if_pos h
    have e3 := h5.trans g2
    have g3 : Inv w' S (fun j : Id => if j.g < S.gen j.s then L' j else none) _ K := ⟨fun j q hj => by
        obtain ⟨a, b⟩ := hold j q hj
        obtain ⟨m, c, e, k1, k2, k3, k4, k5, ⟨vs, k6, k7⟩, k8, k9⟩ := g1.live j q b
        obtain ⟨_, _, _, _, _, _, _, _, ⟨vs0, k60, _⟩, _⟩ := hi.live j q hj
        refine ⟨m, c, e, (hcut j a).trans k1, k2, k3, k4, k5, ⟨vs, ⟨k6.1, fun n c u e1 e2 => ?_⟩, k7⟩, k8, k9⟩
        have hn := (List.getElem?_eq_some_iff.1 e1).1
        have hn0 : n < vs0.length := by rw [k60.1]; exact hn
        exact (k60.2 n c _ e1 (List.getElem?_eq_getElem hn0)).cut (fun i ℓ ℓ' a1 a2 => (hcut i (hlt i ℓ a1)).trans a2) (k6.2 n c u e1 e2),
      fun j k q q' m m' h h' hf a1 a2 hne => by
        obtain ⟨b1, b2⟩ := hold j q h
        obtain ⟨c1, c2⟩ := hold k q' h'
        exact g1.apart j k q q' m m' b2 c2 hf ((hcut j b1).symm.trans a1) ((hcut k c1).symm.trans a2) hne,
      fun j hj => if_neg (Nat.not_lt.2 hj), g1.fz⟩
    have e4 := (⟨e3.os, e3.tape, e3.output, e3.size, e3.fz, e3.heap, fun j ℓ hj => (hcut j (hlt j ℓ hj)).trans (e3.loc j ℓ hj), e3.new, fun j ℓ hj => e3.own j ℓ (by
      by_cases hg : j.g < S.gen j.s
      · exact (hcut j hg).symm.trans hj
      · simp [hg] at hj), e3.drawn⟩ : Ext w F L K w' _ (fun j : Id => if j.g < S.gen j.s then L' j else none))
    rcases h2 with rfl | ⟨rfl, rfl⟩
    · exact wp_cons_value ho (want_sound ht hw) h1 (hn w' _ _ u (hr.plain hq) g3 e4)
    · exact wp_cons_skip ho (want_sound ht hw) h1 (hn w' _ _ _ (hr.plain hq) g3 e4)
  | oneF hw hk h hob hv =>
    obtain ⟨w', L', u, x, h1, h2, h3, h4, h5⟩ := op_sound (P := P) o _ hops hi h
    obtain ⟨ℓ, _, _, hl, _⟩ := h4.live _ _ hob
    obtain ⟨g1, g2⟩ := h4.grow hob hl
    have hq := (view_rel g1 hv (h3.ext g2)).grow fun b hb => hb.elim id fun h => by cases h.1
    rcases h2 with rfl | ⟨rfl, rfl⟩
    · exact wp_cons_value ho (want_sound ht hw) h1 (hn w' L' _ u hq g1 (h5.trans g2))
    · exact wp_cons_skip ho (want_sound ht hw) h1 (hn w' L' _ _ hq g1 (h5.trans g2))
  | @callP S' x xs ts f cs ps r q hw hk hop hc hv hp h hr hq =>
    obtain ⟨hE, hS⟩ := hC _ _ _ _ _ h
    obtain ⟨vs, hx, hcs⟩ := calleeOf_rel (hops x) hc
    have hargs : RelA w F L (xs.toList.map tm.opnd ++ cs) (xs.map a.eval ++ vs).toList := by
      rw [Array.toList_append, Array.toList_map]
      exact (RelA.maps hops _).append hcs
    have hps : RelA w F (fun _ => none) ps (xs.map a.eval ++ vs).toList :=
      ((viewL_rel hi hv hargs).grow fun b hb => hb.elim id fun h => by cases h.1).plain hp
    have h0 : Inv w .empty (fun _ => none) F (fun b => b < w.heap.size) := Inv.empty fun b hb => hb.elim (fun hb => hi.fz b (.inl hb)) id
    refine wp_cons_call ho (want_sound ht hw) (run_call hop hx hE) ((hS _ w _ F _ hps h0).mono fun e w' he => ?_)
    obtain ⟨val, L2, F2, rfl, hrv, hi2, hx2⟩ := he
    refine ⟨val, rfl, ?_⟩
    obtain ⟨g1, g2⟩ := hi.after hx2.os hx2.tape hx2.output hx2.size (fun b hb => hx2.heap b (.inr hb)) (fun b => w.heap.size ≤ b ∧ b < w'.heap.size) (fun b hb => hb) hx2.drawn
    refine hn w' L _ val ?_ g1 g2
    refine ((view_rel hi2 hr hrv).grow fun b hb => ?_).plain hq
    rcases hb with hb | ⟨_, hb⟩
    · rcases hx2.new b hb with h | h | ⟨i, ℓ, h, _⟩
      · exact .inl h
      · exact .inr ⟨h, hi2.fz b (.inl hb)⟩
      · cases h
    · have hlt := blk_lt hi2 hb
      obtain ⟨j, ob, ℓ, hob, hl, rfl⟩ := hb
      obtain ⟨ℓ', _, _, hl', _, _, _, _, _, k1, k2⟩ := hi2.live j ob hob
      obtain rfl := Option.some.inj (hl.symm.trans hl')
      cases hz : ob.frz with
      | true =>
        rcases hx2.new _ (k1 hz) with h | h | ⟨i, ℓ, h, _⟩
        · exact .inl h
        · exact .inr ⟨h, hlt⟩
        · cases h
      | false => exact .inr ⟨Nat.le_of_not_lt (k2 hz).2, hlt⟩
  | @callB S' x xs ts f cs ps r hw hk hop hc hv hp h hr =>
    obtain ⟨hE, hS⟩ := hC _ _ _ _ _ h
    obtain ⟨vs, hx, hcs⟩ := calleeOf_rel (hops x) hc
    have hargs : RelA w F L (xs.toList.map tm.opnd ++ cs) (xs.map a.eval ++ vs).toList := by
      rw [Array.toList_append, Array.toList_map]
      exact (RelA.maps hops _).append hcs
    have hps : RelA w (Fv S L F false) (fun _ => none) ps (xs.map a.eval ++ vs).toList := (viewL_rel hi hv hargs).plain hp
    have h0 : Inv w .empty (fun _ => none) (Fv S L F false) (fun b => b < w.heap.size) := Inv.empty fun b hb => by
      rcases hb with (hb | hb) | hb
      · exact hi.fz b (.inl hb)
      · exact blk_lt hi hb.2
      · exact hb
    refine wp_cons_call ho (want_sound ht hw) (run_call hop hx hE) ((hS _ w _ _ _ hps h0).mono fun e w' he => ?_)
    obtain ⟨val, L2, F2, rfl, hrv, hi2, hx2⟩ := he
    refine ⟨val, rfl, ?_⟩
    obtain ⟨g1, g2⟩ := hi.after hx2.os hx2.tape hx2.output hx2.size (fun b hb => hx2.heap b (.inr hb)) (fun _ => False) (fun b hb => hb.elim) hx2.drawn
    exact hn w' L _ val (hrv.scal hr) g1 g2
  | @callV S' x xs ts f cs ps j ob off n hw hk hop hc hv hp h hob hoff hs =>
    obtain ⟨hE, hS⟩ := hC _ _ _ _ _ h
    obtain ⟨vs, hx, hcs⟩ := calleeOf_rel (hops x) hc
    have hargs : RelA w F L (xs.toList.map tm.opnd ++ cs) (xs.map a.eval ++ vs).toList := by
      rw [Array.toList_append, Array.toList_map]
      exact (RelA.maps hops _).append hcs
    have hps : RelA w (Fv S L F false) (fun _ => none) ps (xs.map a.eval ++ vs).toList := (viewL_rel hi hv hargs).plain hp
    have h0 : Inv w .empty (fun _ => none) (Fv S L F false) (fun b => b < w.heap.size) := Inv.empty fun b hb => by
      rcases hb with (hb | hb) | hb
      · exact hi.fz b (.inl hb)
      · exact blk_lt hi hb.2
      · exact hb
    refine wp_cons_call ho (want_sound ht hw) (run_call hop hx hE) ((hS _ w _ _ _ hps h0).mono fun e w' he => ?_)
    obtain ⟨val, L2, F2, rfl, hrv, hi2, hx2⟩ := he
    refine ⟨val, rfl, ?_⟩
    cases hrv with
    | @loc _ _ _ ℓ cap ad hL hnc ha hcap =>
    obtain ⟨ℓ', c, e, hL', hes, hb, hcs', hlen, ⟨us, hus, hcu⟩, _, _⟩ := hi2.live j ob hob
    obtain rfl := Option.some.inj (hL'.symm.trans hL)
    have hbg : w.heap.size ≤ ℓ'.b := by
      rcases hx2.own j ℓ' hL with h | ⟨m, k, h, _⟩
      · exact h
      · cases h
    have hbl := obj_lt hi2 hob hL
    obtain ⟨g1, g2⟩ := hi.after hx2.os hx2.tape hx2.output hx2.size (fun b hb => hx2.heap b (.inr hb)) (fun b => w.heap.size ≤ b ∧ b < w'.heap.size) (fun b hb => hb) hx2.drawn
    refine hn w' L _ _ ?_ g1 g2
    have hd := hus.drop off
    rcases ha with rfl | ha
    · exact .sl ℓ'.b (ℓ'.base + off) cap (us.drop off) (.inr ⟨hbg, hbl⟩) hnc hd.1 ((HCells.of hb hcu).drop off) fun k c u e1 e2 => (hd.2 k c u e1 e2).scal (hs _ (List.mem_of_mem_drop (List.mem_of_getElem? e1)))
    · obtain rfl : n = 0 := by omega
      subst ha
      rw [List.drop_of_length_le (by omega)]
      exact .wild _
  | @callA S' x xs ts f cs ps ds j ob off n z hw hk hop hc hv hp h hob hz hoff hd hpl hs =>
    obtain ⟨hE, hS⟩ := hC _ _ _ _ _ h
    obtain ⟨vs, hx, hcs⟩ := calleeOf_rel (hops x) hc
    have hargs : RelA w F L (xs.toList.map tm.opnd ++ cs) (xs.map a.eval ++ vs).toList := by
      rw [Array.toList_append, Array.toList_map]
      exact (RelA.maps hops _).append hcs
    have hps : RelA w (Fv S L F z) (fun _ => none) ps (xs.map a.eval ++ vs).toList := (viewL_rel hi hv hargs).plain hp
    have h0 : Inv w .empty (fun _ => none) (Fv S L F z) (fun b => b < w.heap.size) := Inv.empty fun b hb => by
      rcases hb with (hb | hb) | hb
      · exact hi.fz b (.inl hb)
      · exact blk_lt hi hb.2
      · exact hb
    refine wp_cons_call ho (want_sound ht hw) (run_call hop hx hE) ((hS _ w _ _ _ hps h0).mono fun e w' he => ?_)
    obtain ⟨val, L2, F2, rfl, hrv, hi2, hx2⟩ := he
    refine ⟨val, rfl, ?_⟩
    cases hrv with
    | @loc _ _ _ ℓ cap ad hL hnc ha hcap =>
    obtain ⟨ℓ', c, e, hL', hes, hb, hcs', hlen, ⟨us, hus, hcu⟩, _, hown⟩ := hi2.live j ob hob
    obtain rfl := Option.some.inj (hL'.symm.trans hL)
    obtain ⟨n1, n2⟩ := hown hz
    have hbl := obj_lt hi2 hob hL
    have hbg : w.heap.size ≤ ℓ'.b := Nat.le_of_not_lt n2
    -- the caller's objects, the new blocks but this one frozen
    obtain ⟨g1, g2⟩ := hi.after hx2.os hx2.tape hx2.output hx2.size (fun b hb => hx2.heap b (.inr hb)) (fun b => (w.heap.size ≤ b ∧ b < w'.heap.size) ∧ b ≠ ℓ'.b) (fun b hb => hb.1) hx2.drawn
    let s := o.dst.getD 0
    let F' : Nat → Prop := fun b => F b ∨ ((w.heap.size ≤ b ∧ b < w'.heap.size) ∧ b ≠ ℓ'.b)
    let L' := upd L (S.next s) (some ⟨ℓ'.b, ℓ'.base + off, ℓ'.es, ℓ'.sz⟩)
    have hfresh : L (S.next s) = none := hi.fresh _ (Nat.le_refl _)
    have hLL : ∀ i ℓ, L i = some ℓ → L' i = some ℓ := fun i ℓ h => by
      have : i ≠ S.next s := fun e => by rw [e, hfresh] at h; cases h
      rw [show L' i = L i from upd_ne L _ this]; exact h
    have hself : L' (S.next s) = some ⟨ℓ'.b, ℓ'.base + off, ℓ'.es, ℓ'.sz⟩ := upd_same _ _ _
    have hcells : RelA w' F' L' ds (us.drop off) := by
      have hdel := hi2.del j
      have hA := viewL_rel hdel hd (hus.drop off)
      cases z with
      | true =>
        refine (hA.grow fun b hb => ?_).plain hpl
        rcases hb with hb | ⟨_, hb⟩
        · have hne : b ≠ ℓ'.b := fun e => n1 (e ▸ hb)
          rcases hx2.new b hb with h | h | ⟨i, ℓ, h, _⟩
          · rcases h with h | h
            · exact .inl h
            · cases h.1
          · exact .inr ⟨⟨h, hi2.fz b (.inl hb)⟩, hne⟩
          · cases h
        · have hlt := blk_lt hdel hb
          obtain ⟨j', ob', ℓ2, hob', hl2, rfl⟩ := hb
          obtain ⟨q1, q2⟩ := del_obj hob'
          have hne : ℓ2.b ≠ ℓ'.b := fun e => hi2.apart j j' ob ob' ℓ' ℓ2 hob q1 hz hL hl2 (fun e => q2 e.symm) e.symm
          obtain ⟨ℓ3, _, _, hl3, _, _, _, _, _, k1, k2⟩ := hi2.live j' ob' q1
          obtain rfl := Option.some.inj (hl2.symm.trans hl3)
          cases hz' : ob'.frz with
          | true =>
            rcases hx2.new _ (k1 hz') with h | h | ⟨i, ℓ, h, _⟩
            · rcases h with h | h
              · exact .inl h
              · cases h.1
            · exact .inr ⟨⟨h, hlt⟩, hne⟩
            · cases h
          | false => exact .inr ⟨⟨Nat.le_of_not_lt (k2 hz').2, hlt⟩, hne⟩
      | false =>
        refine ⟨hA.1, fun k d u e1 e2 => (hA.2 k d u e1 e2).scal ?_⟩
        have hk : k < (ob.cells.drop off).length := by have := (List.getElem?_eq_some_iff.1 e1).1; have := hd.1; omega
        exact (hd.2 k _ d (List.getElem?_eq_getElem hk) e1).scal (hs rfl _ (List.mem_of_mem_drop (List.getElem_mem hk)))
    have hxx : Ext w F L K w' F' L' := ⟨g2.os, g2.tape, g2.output, g2.size, g2.fz, g2.heap, hLL, fun b hb => g2.new b hb |>.imp id (fun h => h.imp id fun ⟨i, ℓ, h1, h2⟩ => ⟨i, ℓ, h1, h2⟩), fun m k hm => by
      by_cases e : m = S.next s
      · subst e
        obtain rfl := Option.some.inj (hself.symm.trans hm)
        exact .inl hbg
      · exact .inr ⟨m, k, (upd_ne L _ e).symm.trans hm, rfl⟩, g2.drawn⟩
    have hobj : ∀ j, (S.add s ⟨ds, ob.es, false⟩).obj j = if j = S.next s then some ⟨ds, ob.es, false⟩ else S.obj j := fun j => by simp only [Sto.add, upd]
    have e2 : ∀ {m : Id} {k : Loc}, L' m = some k → m ≠ S.next s → L m = some k := fun hm e => by
      rw [← hm]; exact (upd_ne L _ e).symm
    have hK : ¬ K ℓ'.b := fun hk => by have := hi.fz _ (.inr hk); omega
    have hF : ¬ F' ℓ'.b := fun hf => by
      rcases hf with hf | hf
      · have := hi.fz _ (.inl hf); omega
      · exact hf.2 rfl
    refine hn w' L' F' _ (Rel.loc (ℓ := ⟨ℓ'.b, ℓ'.base + off, ℓ'.es, ℓ'.sz⟩) cap ad hself hnc ?_ ?_) ⟨fun m q hq => ?_, fun m k q q' ℓ1 ℓ2 hq hq' hqz hm hm' hne => ?_, fun m hg => ?_, g1.fz⟩ hxx
    · rcases ha with ha | ha
      · left; simpa using ha
      · exact .inr ha
    · simpa using hcap
    · rw [hobj] at hq
      split at hq
      · rename_i hm; subst hm
        obtain rfl := Option.some.inj hq
        refine ⟨_, c, e, hself, hes, hb, hcs', by have := hd.1; simp at this ⊢; omega, ⟨us.drop off, hcells, fun k u hu => ?_⟩, by simp, fun _ => ⟨hF, hK⟩⟩
        rw [List.getElem?_drop] at hu
        have := hcu _ _ hu
        rwa [← Nat.add_assoc] at this
      · obtain ⟨m', c2, e2, h1, h2, h3, h4, h5, ⟨us', h6, h7⟩, h8, h9⟩ := g1.live m q hq
        exact ⟨m', c2, e2, hLL _ _ h1, h2, h3, h4, h5, ⟨us', h6.mono fun _ _ r => r.mono (fun _ h => h) (fun _ _ => rfl) hLL, h7⟩, h8, h9⟩
    · rw [hobj] at hq hq'
      split at hq <;> split at hq'
      · rename_i h1 h2; exact absurd (h1.trans h2.symm) hne
      · rename_i h1 h2
        subst h1
        obtain rfl := Option.some.inj (hself.symm.trans hm)
        have := obj_lt hi hq' (e2 hm' h2)
        show ℓ'.b ≠ ℓ2.b
        omega
      · rename_i h1 h2
        subst h2
        obtain rfl := Option.some.inj (hself.symm.trans hm')
        have := obj_lt hi hq (e2 hm h1)
        show ℓ1.b ≠ ℓ'.b
        omega
      · rename_i h1 h2
        exact hi.apart m k q q' ℓ1 ℓ2 hq hq' hqz (e2 hm h1) (e2 hm' h2) hne
    · have hne : m ≠ S.next s := fun e => by
        subst e
        have e1 : (S.add s ⟨ds, ob.es, false⟩).gen s = S.gen s + 1 := by simp [Sto.add]
        have e3 : (S.add s ⟨ds, ob.es, false⟩).gen s ≤ S.gen s := hg
        omega
      rw [show L' m = L m from upd_ne L _ hne]
      refine hi.fresh m ?_
      simp only [Sto.add] at hg
      split at hg
      · rename_i h; rw [h]; omega
      · exact hg
  | @callG S' x xs ts f cs ps r keep hw hk hop hc hv hp h hkeep hr =>
    obtain ⟨hE, hS⟩ := hC _ _ _ _ _ h
    obtain ⟨vs, hx, hcs⟩ := calleeOf_rel (hops x) hc
    have hargs : RelA w F L (xs.toList.map tm.opnd ++ cs) (xs.map a.eval ++ vs).toList := by
      rw [Array.toList_append, Array.toList_map]
      exact (RelA.maps hops _).append hcs
    have hps : RelA w (Fv S L F false) (fun _ => none) ps (xs.map a.eval ++ vs).toList := (viewL_rel hi hv hargs).plain hp
    have h0 : Inv w .empty (fun _ => none) (Fv S L F false) (fun b => b < w.heap.size) := Inv.empty fun b hb => by
      rcases hb with (hb | hb) | hb
      · exact hi.fz b (.inl hb)
      · exact blk_lt hi hb.2
      · exact hb
    refine wp_cons_call ho (want_sound ht hw) (run_call hop hx hE) ((hS _ w _ _ _ hps h0).mono fun e w' he => ?_)
    obtain ⟨val, L2, F2, rfl, hrv, hi2, hx2⟩ := he
    refine ⟨val, rfl, ?_⟩
    obtain ⟨g1, g2⟩ := hi.after hx2.os hx2.tape hx2.output hx2.size (fun b hb => hx2.heap b (.inr hb)) (fun _ => False) (fun b hb => hb.elim) hx2.drawn
    let L' : Id → Option Loc := fun i => if i.g < S.gen i.s then L i else L2 ⟨i.s, i.g - S.gen i.s⟩
    have hup : ∀ i ℓ, L2 i = some ℓ → L' (Id.up S.gen i) = some ℓ := fun i ℓ h => by
      show (if _ then _ else _) = _
      rw [if_neg (up_ge S.gen i), up_sub]; exact h
    have hLL : ∀ i ℓ, L i = some ℓ → L' i = some ℓ := fun i ℓ h => by
      show (if _ then _ else _) = _
      by_cases e : i.g < S.gen i.s
      · rw [if_pos e]; exact h
      · rw [hi.fresh i (by omega)] at h; cases h
    have hnew : ∀ i ℓ, L2 i = some ℓ → w.heap.size ≤ ℓ.b := fun i ℓ h => by
      rcases hx2.own i ℓ h with h | ⟨j, m, h, _⟩
      · exact h
      · cases h
    have hxx : Ext w F L K w' (fun b => F b ∨ False) L' := ⟨g2.os, g2.tape, g2.output, g2.size, g2.fz, g2.heap, hLL, g2.new, fun m k hm => by
      have hm : (if m.g < S.gen m.s then L m else L2 ⟨m.s, m.g - S.gen m.s⟩) = some k := hm
      by_cases e : m.g < S.gen m.s
      · rw [if_pos e] at hm; exact .inr ⟨m, k, hm, rfl⟩
      · rw [if_neg e] at hm; exact .inl (hnew _ _ hm), g2.drawn⟩
    have hobj : ∀ i o, (S.merge S' keep).obj i = some o → (i.g < S.gen i.s ∧ S.obj i = some o) ∨ (¬ i.g < S.gen i.s ∧ ∃ ob, S'.obj ⟨i.s, i.g - S.gen i.s⟩ = some ob ∧ ob.frz = false ∧ (∀ c ∈ ob.cells, Own c) ∧ o = { ob with cells := renL S.gen ob.cells }) := fun i o h => by
      simp only [Sto.merge] at h
      by_cases e : i.g < S.gen i.s
      · rw [if_pos e] at h; exact .inl ⟨e, h⟩
      · rw [if_neg e] at h
        split at h
        · rename_i hk
          obtain ⟨ob, h1, h2, h3⟩ := hkeep _ hk
          rw [h1, Option.map_some, Option.some.injEq] at h
          exact .inr ⟨e, ob, h1, h2, h3, h.symm⟩
        · cases h
    have hLo : ∀ {i : Id} {ℓ : Loc}, L' i = some ℓ → i.g < S.gen i.s → L i = some ℓ := fun {i ℓ} h e => by
      have h : (if i.g < S.gen i.s then L i else L2 ⟨i.s, i.g - S.gen i.s⟩) = some ℓ := h
      rwa [if_pos e] at h
    have hLn : ∀ {i : Id} {ℓ : Loc}, L' i = some ℓ → ¬ i.g < S.gen i.s → L2 ⟨i.s, i.g - S.gen i.s⟩ = some ℓ := fun {i ℓ} h e => by
      have h : (if i.g < S.gen i.s then L i else L2 ⟨i.s, i.g - S.gen i.s⟩) = some ℓ := h
      rwa [if_neg e] at h
    refine hn w' L' _ val (hrv.ren hup hr) ⟨fun m q hq => ?_, fun m k q q' ℓ1 ℓ2 hq hq' hqz hm hm' hne => ?_, fun m hg => ?_, g1.fz⟩ hxx
    · rcases hobj m q hq with ⟨e, hq⟩ | ⟨e, ob, h1, h2, h3, rfl⟩
      · obtain ⟨m', c2, e2, h1, h2, h3, h4, h5, ⟨us', h6, h7⟩, h8, h9⟩ := g1.live m q hq
        exact ⟨m', c2, e2, hLL _ _ h1, h2, h3, h4, h5, ⟨us', h6.mono fun _ _ r => r.mono (fun _ h => h) (fun _ _ => rfl) hLL, h7⟩, h8, h9⟩
      · obtain ⟨m', c2, e2, k1, k2, k3, k4, k5, ⟨us', k6, k7⟩, _, k9⟩ := hi2.live _ _ h1
        have hlm : L' m = some m' := by rw [← up_of S.gen e]; exact hup _ _ k1
        refine ⟨m', c2, e2, hlm, k2, k3, k4, by simp only [renL_length]; exact k5, ⟨us', ⟨by simp only [renL_length]; exact k6.1, fun j c u e1 e3 => ?_⟩, k7⟩, fun h => (by rw [show ob.frz = true from h] at h2; cases h2), fun _ => ⟨fun hf => ?_, fun hk => ?_⟩⟩
        · obtain ⟨d, h4, rfl⟩ := renL_get e1
          exact (k6.2 j d u h4 e3).ren hup (h3 d (List.mem_of_getElem? h4))
        · have := hi.fz _ (.inl (hf.elim id False.elim)); have := hnew _ _ k1; omega
        · have := hi.fz _ (.inr hk); have := hnew _ _ k1; omega
    · rcases hobj m q hq with ⟨e, hq⟩ | ⟨e, ob, h1, h2, h3, rfl⟩ <;> rcases hobj k q' hq' with ⟨e', hq'⟩ | ⟨e', ob', h1', h2', h3', rfl⟩
      · exact hi.apart m k q q' ℓ1 ℓ2 hq hq' hqz (hLo hm e) (hLo hm' e') hne
      · have := obj_lt hi hq (hLo hm e); have := hnew _ _ (hLn hm' e'); omega
      · have := obj_lt hi hq' (hLo hm' e'); have := hnew _ _ (hLn hm e); omega
      · refine hi2.apart _ _ ob ob' ℓ1 ℓ2 h1 h1' h2 (hLn hm e) (hLn hm' e') fun h => hne ?_
        rw [← up_of S.gen e, ← up_of S.gen e', h]
    · simp only [Sto.merge] at hg
      show (if _ then _ else _) = _
      rw [if_neg (by omega)]
      exact hi2.fresh _ (by simp only; omega)
  | callS hw hk hop hc h =>
    rename_i xo xs ts f cs
    obtain ⟨hE, hS⟩ := hC _ _ _ _ _ h
    obtain ⟨vs, hx, hcs⟩ := calleeOf_rel (hops xo) hc
    have hargs : RelA w F L (xs.toList.map tm.opnd ++ cs) (xs.map a.eval ++ vs).toList := by
      rw [Array.toList_append, Array.toList_map]
      exact (RelA.maps hops _).append hcs
    refine wp_cons_call ho (want_sound ht hw) (run_call hop hx hE) ((hS _ w _ _ _ hargs hi).mono fun e w' he => ?_)
    obtain ⟨val, L2, F2, rfl, hrv, hi2, hx2⟩ := he
    exact ⟨val, rfl, hn w' L2 F2 val hrv hi2 hx2⟩
  | oneK hw hk hob hg hes h =>
    obtain ⟨w', L', u, x, h1, h2, h3, h4, h5⟩ := op_sound (P := P) o _ hops hi (h _ hob)
    rcases h2 with rfl | ⟨rfl, rfl⟩
    · exact wp_cons_value ho (want_sound ht hw) h1 (hn w' L' F u h3 h4 h5)
    · exact wp_cons_skip ho (want_sound ht hw) h1 (hn w' L' F _ h3 h4 h5)
  | oneW hw hk h _ _ =>
    obtain ⟨w', L', u, x, h1, h2, h3, h4, h5⟩ := op_sound (P := P) o _ hops hi h
    rcases h2 with rfl | ⟨rfl, rfl⟩
    · exact wp_cons_value ho (want_sound ht hw) h1 (hn w' L' F u h3 h4 h5)
    · exact wp_cons_skip ho (want_sound ht hw) h1 (hn w' L' F _ h3 h4 h5)
  | oneM hw hk h hob hv hgen hkeep =>
    rename_i S' p io ob
    obtain ⟨w', L', u, x, h1, h2, h3, h4, h5⟩ := op_sound (P := P) o _ hops hi h
    obtain ⟨ℓ, _, _, hl, _⟩ := h4.live _ _ hob
    obtain ⟨g1, g2⟩ := h4.grow hob hl
    have hq := (view_rel g1 hv (h3.ext g2)).grow fun b hb => hb.elim id fun h => by cases h.1
    have g3 := g1.sub (S2 := S.back S') (fun j q hj => by
      simp only [Sto.back] at hj
      split at hj
      · rename_i hc
        obtain ⟨ob0, h0⟩ := Option.isSome_iff_exists.1 hc.1
        have hne := (hkeep j ob0 h0 hc.2).1
        simp only [Sto.set]
        rw [upd_ne _ _ hne]
        exact hj
      · cases hj) rfl
    rcases h2 with rfl | ⟨rfl, rfl⟩
    · exact wp_cons_value ho (want_sound ht hw) h1 (hn w' L' _ u hq g3 (h5.trans g2))
    · exact wp_cons_skip ho (want_sound ht hw) h1 (hn w' L' _ _ hq g3 (h5.trans g2))
  | callM hw hk hop hc h hg hkeep =>
    rename_i S' xo xs ts f cs
    obtain ⟨hE, hS⟩ := hC _ _ _ _ _ h
    obtain ⟨vs, hx, hcs⟩ := calleeOf_rel (hops xo) hc
    have hargs : RelA w F L (xs.toList.map tm.opnd ++ cs) (xs.map a.eval ++ vs).toList := by
      rw [Array.toList_append, Array.toList_map]
      exact (RelA.maps hops _).append hcs
    refine wp_cons_call ho (want_sound ht hw) (run_call hop hx hE) ((hS _ w _ _ _ hargs hi).mono fun e w' he => ?_)
    obtain ⟨val, L2, F2, rfl, hrv, hi2, hx2⟩ := he
    exact ⟨val, rfl, hn w' L2 F2 val hrv (hi2.back S) hx2⟩
end
end Go.Abs
end
section
namespace Go.Abs
open Go
variable {C : CallP} {P : Program} {os : Array Oper}
theorem opnd_congr {tm tm' : Tm} {l : List Operand} (h : ∀ t ∈ tmpsOf l, tm' t = tm t) : ∀ x ∈ l, tm'.opnd x = tm.opnd x := by
  intro x hx
  cases x with
  | tmp t => exact h t (List.mem_filterMap.2 ⟨_, hx, rfl⟩)
  | _ => rfl
theorem opFn_congr {s : Nat} {ρ ρ' : Operand → PV} {S : Sto} {op : Op} (h : ∀ x ∈ op.operands.toList, ρ' x = ρ x) : opFn P s ρ' S op = opFn P s ρ S op := by
  have optL : ∀ (o : Option Operand), (∀ x ∈ o.toArray.toList, ρ' x = ρ x) → o.map ρ' = o.map ρ := fun o ho => by
    cases o with
    | none => rfl
    | some x => simp [ho x (by simp)]
  have parts : ∀ (ps : Array (Nat × Operand)), (∀ x ∈ ps.toList.map (·.2), ρ' x = ρ x) → (ps.toList.map fun (i, x) => (i, ρ' x)) = (ps.toList.map fun (i, x) => (i, ρ x)) := fun ps hp => by
    refine List.map_congr_left fun y hy => ?_
    have := hp y.2 (List.mem_map.2 ⟨y, hy, rfl⟩)
    simp [this]
  have lists : ∀ (xs : List Operand), (∀ x ∈ xs, ρ' x = ρ x) → xs.map ρ' = xs.map ρ := fun xs hx => List.map_congr_left hx
  cases op with
  | move x => simp only [opFn, h x (by simp [Op.operands])]
  | assign x => simp only [opFn, h x (by simp [Op.operands])]
  | pick c a b => simp only [opFn, h c (by simp [Op.operands]), h a (by simp [Op.operands]), h b (by simp [Op.operands])]
  | alloc e => rfl
  | box e x => simp only [opFn, h x (by simp [Op.operands])]
  | build t ps =>
    have := parts ps (fun x hx => h x (by simpa [Op.operands] using hx))
    simp only [opFn, this]
  | buildSlice t n ps =>
    have := parts ps (fun x hx => h x (by simpa [Op.operands] using hx))
    simp only [opFn, this]
  | load t a => simp only [opFn, h a (by simp [Op.operands])]
  | store t a x => simp only [opFn, h a (by simp [Op.operands]), h x (by simp [Op.operands])]
  | nilCheck x => simp only [opFn, h x (by simp [Op.operands])]
  | binOp op t x y yt => simp only [opFn, h x (by simp [Op.operands]), h y (by simp [Op.operands])]
  | unOp op t x => simp only [opFn, h x (by simp [Op.operands])]
  | convert a b x => simp only [opFn, h x (by simp [Op.operands])]
  | makeFunc fn a b =>
    cases fn with
    | func f =>
      have := lists b.toList (fun x hx => h x (by simp [Op.operands] at hx ⊢; exact .inr hx))
      simp only [opFn, this]
    | _ => rfl
  | makeSlice t l c => simp only [opFn, h l (by simp [Op.operands]), h c (by simp [Op.operands])]
  | slice t x lo hi mx =>
    have h1 := h x (by simp [Op.operands])
    have h2 := optL lo (fun y hy => h y (by simp [Op.operands] at hy ⊢; simp [hy]))
    have h3 := optL hi (fun y hy => h y (by simp [Op.operands] at hy ⊢; simp [hy]))
    cases mx with
    | none => simp only [opFn, h1, h2, h3]
    | some m => rfl
  | fieldAddr t x f => simp only [opFn, h x (by simp [Op.operands])]
  | field t x f => simp only [opFn, h x (by simp [Op.operands])]
  | indexAddr t x i => simp only [opFn, h x (by simp [Op.operands]), h i (by simp [Op.operands])]
  | index t x i => simp only [opFn, h x (by simp [Op.operands]), h i (by simp [Op.operands])]
  | extract x i => simp only [opFn, h x (by simp [Op.operands])]
  | call c =>
    obtain ⟨callee, xs, ts⟩ := c
    cases callee with
    | builtin b =>
      have := lists xs.toList (fun x hx => h x (by simpa [Op.operands, Call.operands] using hx))
      simp only [opFn, this]
    | _ => rfl
  | _ => rfl
theorem want_congr {tm tm' : Tm} {o : Oper} (h : ∀ t ∈ readsOf os o, tm' t = tm t) : wantFn os tm' o = wantFn os tm o := by
  unfold wantFn
  cases hg : o.guard with
  | none => rfl
  | some jw =>
    obtain ⟨j, want⟩ := jw
    simp only
    cases hd : (os[j]?).bind (·.dst) with
    | none => rfl
    | some d =>
      have : tm' d = tm d := h d (by simp [readsOf, hg, hd])
      simp only [this]
theorem Step.port {κ : Cls} {o : Oper} {tm tm' : Tm} {S S1 : Sto} {v : PV} (h : Step C P os κ o tm S v S1) (hag : ∀ t ∈ readsOf os o, tm' t = tm t) : Step C P os κ o tm' S v S1 := by
  have hw := want_congr hag
  have hop : ∀ x ∈ o.op.operands.toList, tm'.opnd x = tm.opnd x := opnd_congr fun t ht => hag t (by simp [readsOf, ht])
  have hcall : ∀ {x : Operand} {xs : Array Operand} {ts : Array TypeId}, o.op = .call ⟨.value x, xs, ts⟩ → tm'.opnd x = tm.opnd x ∧ xs.toList.map tm'.opnd = xs.toList.map tm.opnd := fun {x xs ts} ho => by
    rw [ho] at hop
    refine ⟨hop x (by simp [Op.operands, Call.operands]), List.map_congr_left fun y hy => hop y (by simp [Op.operands, Call.operands] at hy ⊢; exact .inr hy)⟩
  cases h with
  | skp h => exact .skp (hw.trans h)
  | one h1 h2 h3 => exact .one (hw.trans h1) h2 ((opFn_congr hop).trans h3)
  | oneP h1 h2 => exact .oneP (hw.trans h1) fun S' => (opFn_congr hop).trans (h2 S')
  | oneI h1 h2 h3 => exact .oneI (hw.trans h1) h2 fun S => by rw [opFn_congr hop]; exact h3 S
  | oneF h1 h2 h3 h4 h5 => exact .oneF (hw.trans h1) h2 ((opFn_congr hop).trans h3) h4 h5
  | callP h1 h2 ho hc hv hp h hr hq =>
    obtain ⟨e1, e2⟩ := hcall ho
    exact .callP (hw.trans h1) h2 ho (by rw [e1]; exact hc) (by rw [e2]; exact hv) hp h hr hq
  | callB h1 h2 ho hc hv hp h hr =>
    obtain ⟨e1, e2⟩ := hcall ho
    exact .callB (hw.trans h1) h2 ho (by rw [e1]; exact hc) (by rw [e2]; exact hv) hp h hr
  | callV h1 h2 ho hc hv hp h hob hoff hs =>
    obtain ⟨e1, e2⟩ := hcall ho
    exact .callV (hw.trans h1) h2 ho (by rw [e1]; exact hc) (by rw [e2]; exact hv) hp h hob hoff hs
  | callA h1 h2 ho hc hv hp h hob hz hoff hd hpl hs =>
    obtain ⟨e1, e2⟩ := hcall ho
    exact .callA (hw.trans h1) h2 ho (by rw [e1]; exact hc) (by rw [e2]; exact hv) hp h hob hz hoff hd hpl hs
  | callG h1 h2 ho hc hv hp h hkeep hr =>
    obtain ⟨e1, e2⟩ := hcall ho
    exact .callG (hw.trans h1) h2 ho (by rw [e1]; exact hc) (by rw [e2]; exact hv) hp h hkeep hr
  | callS h1 h2 ho hc h =>
    obtain ⟨e1, e2⟩ := hcall ho
    exact .callS (hw.trans h1) h2 ho (by rw [e1]; exact hc) (by rw [e2]; exact h)
  | oneK h1 h2 h3 h4 h5 h6 => exact .oneK (hw.trans h1) h2 h3 h4 h5 fun S' hS => (opFn_congr hop).trans (h6 S' hS)
  | oneW h1 h2 h3 h4 h5 => exact .oneW (hw.trans h1) h2 ((opFn_congr hop).trans h3) h4 h5
  | oneM h1 h2 h3 h4 h5 h6 h7 => exact .oneM (hw.trans h1) h2 ((opFn_congr hop).trans h3) h4 h5 h6 h7
  | callM h1 h2 ho hc h hg hk =>
    obtain ⟨e1, e2⟩ := hcall ho
    exact .callM (hw.trans h1) h2 ho (by rw [e1]; exact hc) (by rw [e2]; exact h) hg hk
theorem justV_any {q : Option PV} {v : PV} {S S' : Sto} (h : justV S q = some (v, S')) : S' = S ∧ ∀ S2 : Sto, justV S2 q = some (v, S2) := by
  cases q with
  | none => cases h
  | some x =>
    simp only [justV, Option.map_some, Option.some.injEq, Prod.mk.injEq] at h
    obtain ⟨rfl, rfl⟩ := h
    exact ⟨rfl, fun _ => rfl⟩
theorem map_any {α : Type} {q : Option α} {g : α → PV} {v : PV} {S S' : Sto} (h : (q.map fun n => (g n, S)) = some (v, S')) : S' = S ∧ ∀ S2 : Sto, (q.map fun n => (g n, S2)) = some (v, S2) := by
  cases q with
  | none => cases h
  | some x =>
    simp only [Option.map_some, Option.some.injEq, Prod.mk.injEq] at h
    obtain ⟨rfl, rfl⟩ := h
    exact ⟨rfl, fun _ => rfl⟩
theorem some_any {p v : PV} {S S' : Sto} (h : some (p, S) = some (v, S')) : S' = S ∧ ∀ S2 : Sto, some (p, S2) = some (v, S2) := by
  simp only [Option.some.injEq, Prod.mk.injEq] at h
  obtain ⟨rfl, rfl⟩ := h
  exact ⟨rfl, fun _ => rfl⟩
theorem cls_p {s : Nat} {ρ : Operand → PV} {op : Op} {S S' : Sto} {v : PV} (hc : clsOf op = .p) (h : opFn P s ρ S op = some (v, S')) : S' = S ∧ ∀ S2 : Sto, opFn P s ρ S2 op = some (v, S2) := by
  cases op with
  | move x => exact some_any h
  | assign x => exact some_any h
  | pick c a b =>
    simp only [opFn] at h ⊢
    split at h
    · exact some_any h
    · cases h
  | build t ps =>
    simp only [opFn] at h ⊢
    split at h
    · split at h
      · exact map_any h
      · split at h
        · exact map_any h
        · cases h
      · cases h
    · cases h
  | binOp op t x y yt => exact justV_any h
  | unOp op t x => exact justV_any h
  | convert a b x => cases hc
  | makeFunc fn a b =>
    cases fn <;> simp only [opFn] at h ⊢ <;> first | (cases h; done) | skip
    split at h
    · rename_i hf
      simp only [hf, if_true]
      exact some_any h
    · cases h
  | fieldAddr t x f =>
    simp only [opFn] at h ⊢
    split at h
    · split at h
      · split at h
        · rename_i hc
          simp only [if_pos hc]
          exact justV_any h
        · cases h
      · cases h
    · cases h
  | field t x f =>
    simp only [opFn] at h ⊢
    split at h
    · split at h
      · split at h
        · rename_i hc
          simp only [if_pos hc]
          exact justV_any h
        · cases h
      · cases h
    · cases h
  | indexAddr t x i =>
    simp only [opFn] at h ⊢
    split at h
    · split at h
      · split at h
        · rename_i hc
          simp only [if_pos hc]
          exact justV_any h
        · cases h
      · cases h
    · split at h
      · split at h
        · rename_i hc
          simp only [if_pos hc]
          exact justV_any h
        · cases h
      · cases h
    · cases h
  | index t x i =>
    simp only [opFn] at h ⊢
    split at h
    · split at h
      · split at h
        · rename_i hc
          simp only [if_pos hc]
          exact justV_any h
        · cases h
      · cases h
    · split at h
      · split at h
        · rename_i hc
          simp only [if_pos hc]
          exact map_any (g := fun b : UInt8 => PV.lit (.int .u8 (b.toNat : Nat))) h
        · cases h
      · cases h
    · cases h
  | extract x i =>
    simp only [opFn] at h ⊢
    split at h
    · exact map_any (g := id) h
    · exact map_any (g := PV.lit) h
    · cases h
  | nilCheck x =>
    simp only [opFn] at h ⊢
    split at h
    · exact some_any h
    · exact some_any h
    · exact some_any h
    · exact some_any h
    · cases h
  | call c =>
    obtain ⟨callee, xs, ts⟩ := c
    cases callee with
    | builtin b => cases b <;> first | (simp [clsOf] at hc; done) | exact justV_any h
    | _ => simp [clsOf] at hc
  | _ => simp [clsOf] at hc
theorem cls_r {s : Nat} {ρ : Operand → PV} {op : Op} {S S' : Sto} {v : PV} (hc : clsOf op = .r) (h : opFn P s ρ S op = some (v, S')) : S' = S := by
  cases op with
  | load t a =>
    simp only [opFn] at h
    split at h
    · exact (justV_any h).1
    · cases h
  | convert a b x =>
    simp only [opFn] at h
    split at h
    · split at h
      · split at h
        · exact (some_any h).1
        · cases h
      · cases h
    · exact (justV_any h).1
  | slice t x lo hi mx =>
    cases mx with
    | some m => cases h
    | none =>
    simp only [opFn] at h
    split at h
    · split at h
      · split at h
        · split at h
          · exact (justV_any h).1
          · cases h
        · cases h
      · cases h
    · split at h
      · split at h
        · split at h
          · exact (some_any h).1
          · cases h
        · cases h
      · cases h
    · cases h
  | call c =>
    obtain ⟨callee, xs, ts⟩ := c
    cases callee with
    | builtin b => cases b <;> simp [clsOf] at hc
    | _ => cases h
  | _ => simp [clsOf] at hc
theorem Cls.le_p {c : Cls} (h : c.le .p = true) : c = .p := by cases c <;> first | rfl | cases h
theorem Cls.le_r {c : Cls} (h : c.le .r = true) : c = .p ∨ c = .r := by cases c <;> first | exact .inl rfl | exact .inr rfl | cases h
theorem Step.p {o : Oper} {tm : Tm} {S S1 : Sto} {v : PV} (h : Step C P os .p o tm S v S1) : S1 = S ∧ ∀ S2, Step C P os .p o tm S2 v S2 := by
  cases h with
  | skp h => exact ⟨rfl, fun _ => .skp h⟩
  | oneP h1 h2 => exact ⟨rfl, fun _ => .oneP h1 h2⟩
  | oneI h1 h2 h3 => exact ⟨rfl, fun _ => .oneI h1 h2 h3⟩
  | oneF _ hk => cases hk
  | one h1 h2 h3 =>
    obtain ⟨e, f⟩ := cls_p (Cls.le_p h2) h3
    exact ⟨e, fun S2 => .one h1 h2 (f S2)⟩
  | callP _ hk => cases hk
  | callB _ hk => cases hk
  | callV _ hk => cases hk
  | callA _ hk => cases hk
  | callG _ hk => cases hk
  | callS _ hk => cases hk
  | oneK _ hk => cases hk
  | callM _ hk => cases hk
  | oneM _ hk => cases hk
  | oneW _ hk => cases hk
theorem Step.q {o : Oper} {tm : Tm} {S S1 : Sto} {v : PV} (h : Step C P os .q o tm S v S1) : S1 = S ∧ ∀ S2 : Sto, (∀ j ob, S.obj j = some ob → j.g < S.gen j.s → ob.rd = false → S2.obj j = some ob ∧ j.g < S2.gen j.s) → Step C P os .q o tm S2 v S2 := by
  cases h with
  | skp h => exact ⟨rfl, fun _ _ => .skp h⟩
  | oneP h1 h2 => exact ⟨rfl, fun _ _ => .oneP h1 h2⟩
  | oneI h1 h2 h3 => exact ⟨rfl, fun _ _ => .oneI h1 h2 h3⟩
  | oneF _ hk => cases hk
  | one h1 h2 h3 =>
    have hc : clsOf o.op = .p := by
      revert h2
      cases clsOf o.op <;> intro h2 <;> first | rfl | cases h2
    obtain ⟨e, f⟩ := cls_p hc h3
    exact ⟨e, fun S2 _ => .one h1 h2 (f S2)⟩
  | callP _ hk => cases hk
  | callB _ hk => cases hk
  | callV _ hk => cases hk
  | callA _ hk => cases hk
  | callG _ hk => cases hk
  | callS _ hk => cases hk
  | oneK h1 h2 h3 h4 h5 h6 =>
    refine ⟨rfl, fun S2 hS => ?_⟩
    obtain ⟨g1, g2⟩ := hS _ _ h3 h4 h5
    exact .oneK h1 h2 g1 g2 h5 h6
  | callM _ hk => cases hk
  | oneM _ hk => cases hk
  | oneW _ hk => cases hk
theorem Step.m {o : Oper} {tm : Tm} {S S1 : Sto} {v : PV} (h : Step C P os .m o tm S v S1) : (∀ j ob, S.obj j = some ob → j.g < S.gen j.s → ob.rd = false → S1.obj j = some ob ∧ j.g < S1.gen j.s) ∧ ∀ j ob, S1.obj j = some ob → j.g < S1.gen j.s → ob.rd = false → S.obj j = some ob ∧ j.g < S.gen j.s := by
  cases h with
  | skp h => exact ⟨fun _ _ a b _ => ⟨a, b⟩, fun _ _ a b _ => ⟨a, b⟩⟩
  | oneP h1 h2 => exact ⟨fun _ _ a b _ => ⟨a, b⟩, fun _ _ a b _ => ⟨a, b⟩⟩
  | oneI h1 h2 h3 => exact ⟨fun _ _ a b _ => ⟨a, b⟩, fun _ _ a b _ => ⟨a, b⟩⟩
  | oneF _ hk => cases hk
  | one h1 h2 h3 =>
    have hc : clsOf o.op = .p := by
      revert h2
      cases clsOf o.op <;> intro h2 <;> first | rfl | cases h2
    obtain ⟨rfl, f⟩ := cls_p hc h3
    exact ⟨fun _ _ a b _ => ⟨a, b⟩, fun _ _ a b _ => ⟨a, b⟩⟩
  | callP _ hk => cases hk
  | callB _ hk => cases hk
  | callV _ hk => cases hk
  | callA _ hk => cases hk
  | callG _ hk => cases hk
  | callS _ hk => cases hk
  | oneK _ hk => cases hk
  | oneW h1 h2 h3 h4 h5 => exact ⟨h4, h5⟩
  | oneM h1 h2 h3 h4 h5 hg hk =>
    refine ⟨fun j ob a b c => ?_, fun j ob a b c => ?_⟩
    · exact ⟨by simp only [Sto.back]; rw [if_pos ⟨by rw [a]; rfl, b⟩]; exact (hk j ob a b).2, Nat.lt_of_lt_of_le b (hg _)⟩
    · simp only [Sto.back] at a
      split at a
      · rename_i hj
        obtain ⟨ob0, h0⟩ := Option.isSome_iff_exists.1 hj.1
        obtain rfl := Option.some.inj (a.symm.trans (hk j ob0 h0 hj.2).2)
        exact ⟨h0, hj.2⟩
      · cases a
  | callM h1 h2 ho hc h hg hk =>
    refine ⟨fun j ob a b c => ?_, fun j ob a b c => ?_⟩
    · obtain ⟨ob', k1, k2, _⟩ := hk j ob a b
      obtain rfl := k2 c
      exact ⟨by simp only [Sto.back]; rw [if_pos ⟨by rw [a]; rfl, b⟩]; exact k1, Nat.lt_of_lt_of_le b (hg _)⟩
    · simp only [Sto.back] at a
      split at a
      · rename_i hj
        obtain ⟨ob0, h0⟩ := Option.isSome_iff_exists.1 hj.1
        obtain ⟨ob', k1, k2, k3⟩ := hk j ob0 h0 hj.2
        obtain rfl := Option.some.inj (a.symm.trans k1)
        by_cases e : ob0.rd = true
        · rw [k3 e] at c; cases c
        · obtain rfl := k2 (by simpa using e)
          exact ⟨h0, hj.2⟩
      · cases a
theorem Step.r {o : Oper} {tm : Tm} {S S1 : Sto} {v : PV} (h : Step C P os .r o tm S v S1) : S1 = S := by
  cases h with
  | skp h => rfl
  | oneP => rfl
  | oneI => rfl
  | oneF _ hk => cases hk
  | one h1 h2 h3 =>
    rcases Cls.le_r h2 with h | h
    · exact (cls_p h h3).1
    · exact cls_r h h3
  | callP => rfl
  | callB => rfl
  | callV => rfl
  | callA _ hk => cases hk
  | callG _ hk => cases hk
  | callS _ hk => cases hk
  | oneK _ hk => cases hk
  | callM _ hk => cases hk
  | oneM _ hk => cases hk
  | oneW _ hk => cases hk
theorem put_ne {tm : Tm} {d : Option Tmp} {v : PV} {t : Tmp} (h : d ≠ some t) : tm.put d v t = tm t := by
  cases d with
  | none => rfl
  | some d => simp only [Tm.put]; rw [if_neg (fun e => h (by rw [e]))]
theorem put_comm {tm : Tm} {d e : Option Tmp} {u v : PV} (h : ∀ t, d = some t → e ≠ some t) : (tm.put d u).put e v = (tm.put e v).put d u := by
  cases d with
  | none => rfl
  | some d =>
    cases e with
    | none => rfl
    | some e =>
      funext t
      have : d ≠ e := fun he => h d rfl (by rw [he])
      simp only [Tm.put]
      by_cases h1 : t = d
      · subst h1; simp [this]
      · simp [h1]
theorem apart_spec {a b : Oper} (h : apart os a b = true) : (∀ t ∈ readsOf os b, a.dst ≠ some t) ∧ (∀ t ∈ readsOf os a, b.dst ≠ some t) ∧ (∀ t, a.dst = some t → b.dst ≠ some t) := by
  simp only [apart, Bool.and_eq_true, List.all_eq_true, Option.mem_toList] at h
  obtain ⟨h1, h2⟩ := h
  refine ⟨fun t ht e => ?_, fun t ht e => ?_, fun t e1 e2 => ?_⟩
  · have := h1 t e
    simp [ht] at this
  · have := h2 t e
    simp [ht] at this
  · have := h1 t e1
    simp [e2] at this
theorem Step.swap {κ κ' : Cls} {a b : Oper} {tm : Tm} {S S1 S2 : Sto} {u v : PV} (hc : clsFree κ κ' = true) (ha : apart os a b = true) (h1 : Step C P os κ a tm S u S1) (h2 : Step C P os κ' b (tm.put a.dst u) S1 v S2) :
    ∃ S3, Step C P os κ' b tm S v S3 ∧ Step C P os κ a (tm.put b.dst v) S3 u S2 ∧ (tm.put a.dst u).put b.dst v = (tm.put b.dst v).put a.dst u := by
  obtain ⟨r1, r2, r3⟩ := apart_spec ha
  have p1 : Step C P os κ' b tm S1 v S2 := h2.port fun t ht => (put_ne (r1 t ht)).symm
  have p2 : Step C P os κ a (tm.put b.dst v) S u S1 := h1.port fun t ht => put_ne (r2 t ht)
  have p3 := put_comm (tm := tm) (u := u) (v := v) r3
  cases κ with
  | p =>
    obtain ⟨rfl, f⟩ := h1.p
    exact ⟨S2, p1, (p2.p).2 S2, p3⟩
  | r =>
    obtain rfl := h1.r
    cases κ' with
    | p =>
      obtain ⟨rfl, f⟩ := p1.p
      exact ⟨_, p1, p2, p3⟩
    | r =>
      obtain rfl := p1.r
      exact ⟨_, p1, p2, p3⟩
    | q =>
      obtain ⟨rfl, _⟩ := p1.q
      exact ⟨_, p1, p2, p3⟩
    | n => cases hc
    | m => cases hc
  | n =>
    cases κ' with
    | p =>
      obtain ⟨rfl, f⟩ := p1.p
      exact ⟨S, f S, p2, p3⟩
    | r => cases hc
    | n => cases hc
    | q => cases hc
    | m => cases hc
  | q =>
    obtain ⟨rfl, f⟩ := p2.q
    cases κ' with
    | p =>
      obtain ⟨rfl, f⟩ := p1.p
      exact ⟨_, p1, p2, p3⟩
    | r =>
      obtain rfl := p1.r
      exact ⟨_, p1, p2, p3⟩
    | q =>
      obtain ⟨rfl, _⟩ := p1.q
      exact ⟨_, p1, p2, p3⟩
    | n => cases hc
    | m => exact ⟨S2, p1, f S2 p1.m.1, p3⟩
  | m =>
    cases κ' with
    | p =>
      obtain ⟨rfl, f⟩ := p1.p
      exact ⟨S, f S, p2, p3⟩
    | q =>
      obtain ⟨rfl, f⟩ := p1.q
      exact ⟨S, f S p2.m.2, p2, p3⟩
    | r => cases hc
    | n => cases hc
    | m => cases hc
def Free (os : Array Oper) (κ : Nat → Cls) (j i : Nat) : Prop := ∀ a b, os[j]? = some a → os[i]? = some b → clsFree (κ j) (κ i) = true ∧ apart os a b = true
theorem Ops.bring {κ : Nat → Cls} {i : Nat} {l2 : List Nat} : ∀ (l1 : List Nat) {tm tm' : Tm} {S S' : Sto}, (∀ j ∈ l1, Free os κ j i) → Ops C P os κ (l1 ++ i :: l2) tm S tm' S' → Ops C P os κ (i :: (l1 ++ l2)) tm S tm' S'
  | [], _, _, _, _, _, h => h
  | j :: l1, tm, tm', S, S', hf, h => by
    cases h with
    | cons ho hs hr =>
      have ih := Ops.bring l1 (fun k hk => hf k (by simp [hk])) hr
      cases ih with
      | cons ho' hs' hr' =>
        obtain ⟨c1, c2⟩ := hf j (by simp) _ _ ho ho'
        obtain ⟨S3, g1, g2, g3⟩ := Step.swap c1 c2 hs hs'
        rw [g3] at hr'
        exact .cons ho' g1 (.cons ho g2 hr')
def maskOf (acc : Array Nat) (o : Oper) : Nat := o.after.foldl (fun s e => if Region.binds .any e then s ||| 2 ^ e.on ||| acc.getD e.on 0 else s) 0
def masks : List Oper → Array Nat → Array Nat
  | [], acc => acc
  | o :: l, acc => masks l (acc.push (maskOf acc o))
theorem before_eq (os : Array Oper) : Region.before os = masks os.toList #[] := by
  have : ∀ (l : List Oper) (acc : Array Nat), l.foldl (fun acc o => acc.push (maskOf acc o)) acc = masks l acc := by
    intro l
    induction l with
    | nil => intro acc; rfl
    | cons o l ih => intro acc; exact ih _
  unfold Region.before
  rw [← Array.foldl_toList]
  exact this _ _
theorem masks_old : ∀ (l : List Oper) (acc : Array Nat) (j : Nat), j < acc.size → (masks l acc).getD j 0 = acc.getD j 0
  | [], _, _, _ => rfl
  | o :: l, acc, j, h => by
    rw [masks, masks_old l _ j (by simp; omega)]
    simp only [Array.getD_eq_getD_getElem?, Array.getElem?_push]
    rw [if_neg (by omega)]
theorem foldl_bits (acc : Array Nat) (T : Nat → Prop) (j : Nat) : ∀ (l : List Edge) (s : Nat), (s.testBit j = true → T j) →
    (∀ e ∈ l, Region.binds .any e = true → T e.on ∧ ((acc.getD e.on 0).testBit j = true → T j)) →
    (l.foldl (fun s e => if Region.binds .any e then s ||| 2 ^ e.on ||| acc.getD e.on 0 else s) s).testBit j = true → T j
  | [], s, hs, _, h => hs h
  | e :: l, s, hs, he, h => by
    refine foldl_bits acc T j l _ ?_ (fun e' h' => he e' (by simp [h'])) h
    intro hb
    dsimp only at hb
    split at hb
    · rename_i hbi
      obtain ⟨h1, h2⟩ := he e (by simp) hbi
      rw [Nat.testBit_or, Nat.testBit_or, Bool.or_eq_true, Bool.or_eq_true] at hb
      rcases hb with (hb | hb) | hb
      · exact hs hb
      · rw [Nat.testBit_two_pow] at hb
        have : e.on = j := by simpa using hb
        exact this ▸ h1
      · exact h2 hb
    · exact hs hb
theorem masks_closed (T : Nat → Prop) (j : Nat) : ∀ (l : List Oper) (acc : Array Nat) (pre : List Oper), acc.size = pre.length →
    (∀ k, k < pre.length → (∀ o, pre[k]? = some o → (∀ e ∈ o.after.toList, Region.binds .any e = true → e.on < k ∧ T e.on)) → True) →
    (∀ k, k < acc.size → T k → (acc.getD k 0).testBit j = true → T j) →
    (∀ k o, (pre ++ l)[k]? = some o → ∀ e ∈ o.after.toList, Region.binds .any e = true → e.on < k) →
    (∀ k o, (pre ++ l)[k]? = some o → T k → ∀ e ∈ o.after.toList, Region.binds .any e = true → T e.on) →
    ∀ k o, (pre ++ l)[k]? = some o → acc.size ≤ k → (∀ e ∈ o.after.toList, Region.binds .any e = true → T e.on) → ((masks l acc).getD k 0).testBit j = true → T j
  | [], acc, pre, hs, _, _, _, _, k, o, hk, hle, _, _ => by
    have := (List.getElem?_eq_some_iff.1 hk).1
    simp at this
    omega
  | x :: l, acc, pre, hs, h0, hacc, hfw, hcl, k, o, hk, hle, hdep, hbit => by
    have hx : (pre ++ x :: l)[acc.size]? = some x := by rw [hs]; simp
    have hmask : ∀ (hd : ∀ e ∈ x.after.toList, Region.binds .any e = true → T e.on), (maskOf acc x).testBit j = true → T j := fun hd hb => by
      unfold maskOf at hb
      rw [← Array.foldl_toList] at hb
      refine foldl_bits acc T j _ 0 (by simp) (fun e he hbi => ⟨hd e he hbi, fun hb2 => ?_⟩) hb
      exact hacc e.on (hfw _ _ hx e he hbi) (hd e he hbi) hb2
    by_cases hke : k = acc.size
    · subst hke
      rw [hx] at hk
      obtain rfl := Option.some.inj hk
      rw [masks, masks_old _ _ _ (by simp)] at hbit
      refine hmask hdep ?_
      simpa [Array.getD_eq_getD_getElem?] using hbit
    · have happ : pre ++ x :: l = (pre ++ [x]) ++ l := by simp
      rw [happ] at hk hfw hcl
      refine masks_closed T j l (acc.push (maskOf acc x)) (pre ++ [x]) (by simp [hs]) (fun _ _ _ => trivial) ?_ hfw hcl k o hk (by simp; omega) hdep hbit
      intro m hm hT hb
      simp only [Array.size_push] at hm
      by_cases hme : m = acc.size
      · subst hme
        have hx' : ((pre ++ [x]) ++ l)[acc.size]? = some x := by rw [← happ]; exact hx
        refine hmask (hcl _ _ hx' hT) ?_
        simpa [Array.getD_eq_getD_getElem?] using hb
      · refine hacc m (by omega) hT ?_
        simp only [Array.getD_eq_getD_getElem?, Array.getElem?_push] at hb
        rw [if_neg (by omega)] at hb
        simpa [Array.getD_eq_getD_getElem?] using hb
theorem before_closed {T : Nat → Prop} (hfw : ∀ k o, os[k]? = some o → ∀ e ∈ o.after.toList, Region.binds .any e = true → e.on < k)
    (hcl : ∀ k o, os[k]? = some o → T k → ∀ e ∈ o.after.toList, Region.binds .any e = true → T e.on) {i : Nat} {o : Oper} (hi : os[i]? = some o)
    (hd : ∀ e ∈ o.after.toList, Region.binds .any e = true → T e.on) {j : Nat} (hb : ((Region.before os).getD i 0).testBit j = true) : T j := by
  rw [before_eq] at hb
  refine masks_closed T j os.toList #[] [] rfl (fun _ _ _ => trivial) (fun k hk => by simp at hk) ?_ ?_ i o ?_ (by simp) hd hb
  · intro k o hk; rw [List.nil_append, Array.getElem?_toList] at hk; exact hfw k o hk
  · intro k o hk; rw [List.nil_append, Array.getElem?_toList] at hk; exact hcl k o hk
  · rw [List.nil_append, Array.getElem?_toList]; exact hi
theorem indep_spec {κ : Nat → Cls} (h : indep os κ = true) : (∀ k o, os[k]? = some o → ∀ e ∈ o.after.toList, Region.binds .any e = true → e.on < k) ∧
    ∀ i j, i < os.size → j < i → ((Region.before os).getD i 0).testBit j = true ∨ Free os κ j i := by
  simp only [indep, List.all_eq_true, List.mem_range, Bool.and_eq_true, Bool.or_eq_true] at h
  refine ⟨fun k o hk e he hb => ?_, fun i j hi hj => ?_⟩
  · obtain ⟨hlt, rfl⟩ := Array.getElem?_eq_some_iff.1 hk
    have hd : os.getD k default = os[k] := by simp [Array.getD_eq_getD_getElem?, hlt]
    have := (h k hlt).1 e (by rw [hd]; exact he)
    simpa [hb] using this
  · rcases (h i hi).2 j hj with h1 | h1
    · exact .inl h1
    · refine .inr fun a b ha hb => ?_
      obtain ⟨_, rfl⟩ := Array.getElem?_eq_some_iff.1 ha
      obtain ⟨_, rfl⟩ := Array.getElem?_eq_some_iff.1 hb
      have e1 : os.getD j default = os[j] := by simp [Array.getD_eq_getD_getElem?, show j < os.size by omega]
      have e2 : os.getD i default = os[i] := by simp [Array.getD_eq_getD_getElem?, hi]
      rw [e1, e2] at h1
      simpa using h1
def remain (n : Nat) (listed : Array Bool) : List Nat := (List.range n).filter fun i => !listed.getD i true
theorem remain_split {n : Nat} {listed : Array Bool} (hs : listed.size = n) {i : Nat} (hi : i ∈ remain n listed) :
    ∃ l1 l2, remain n listed = l1 ++ i :: l2 ∧ (∀ j ∈ l1, j < i ∧ listed.getD j true = false) ∧ remain n (listed.setIfInBounds i true) = l1 ++ l2 := by
  obtain ⟨l1, l2, hl⟩ := List.append_of_mem hi
  have hpw : (remain n listed).Pairwise (· < ·) := List.Pairwise.filter _ List.pairwise_lt_range
  have hin : i < n := by simpa using (List.mem_filter.1 hi).1
  rw [hl] at hpw
  have hlt : ∀ j ∈ l1, j < i := fun j hj => (List.pairwise_append.1 hpw).2.2 j hj i (by simp)
  have hgt : ∀ j ∈ l2, i < j := fun j hj => (List.pairwise_cons.1 (List.pairwise_append.1 hpw).2.1).1 j hj
  refine ⟨l1, l2, hl, fun j hj => ⟨hlt j hj, ?_⟩, ?_⟩
  · have : j ∈ remain n listed := by rw [hl]; simp [hj]
    simpa using (List.mem_filter.1 this).2
  · have e1 : remain n (listed.setIfInBounds i true) = (remain n listed).filter (fun j => j != i) := by
      unfold remain
      rw [List.filter_filter]
      refine List.filter_congr fun j hj => ?_
      have hjn : j < n := by simpa using hj
      simp only [Array.getD_eq_getD_getElem?, Array.getElem?_setIfInBounds]
      by_cases e : i = j
      · subst e; simp [show i < listed.size by omega]
      · have : (j != i) = true := by simp; omega
        simp [e, this]
    rw [e1, hl, List.filter_append, List.filter_cons]
    have f1 : l1.filter (fun j => j != i) = l1 := List.filter_eq_self.2 fun j hj => by have := hlt j hj; simp; omega
    have f2 : l2.filter (fun j => j != i) = l2 := List.filter_eq_self.2 fun j hj => by have := hgt j hj; simp; omega
    simp [f1, f2]
theorem lin_go {κ : Nat → Cls} (hind : indep os κ = true) : ∀ (fuel t : Nat) (listed : Array Bool) (acc : List Nat) (tm tm' : Tm) (S S' : Sto), listed.size = os.size →
    (∀ k o, os[k]? = some o → listed.getD k true = true → ∀ e ∈ o.after.toList, Region.binds .any e = true → listed.getD e.on true = true) →
    (remain os.size listed).length ≤ fuel → Ops C P os κ (remain os.size listed) tm S tm' S' →
    ∃ ord, Region.linearise.go .any os fuel t listed acc = acc.reverse ++ ord ∧ Ops C P os κ ord tm S tm' S'
  | 0, t, listed, acc, tm, tm', S, S', hs, hc, hf, h => by
    have : remain os.size listed = [] := List.eq_nil_of_length_eq_zero (by omega)
    rw [this] at h
    exact ⟨[], by simp [Region.linearise.go], h⟩
  | fuel + 1, t, listed, acc, tm, tm', S, S', hs, hc, hf, h => by
    obtain ⟨hfw, hfree⟩ := indep_spec hind
    simp only [Region.linearise.go]
    generalize hrs : (List.range os.size).filter (fun i => !listed.getD i true && ((os[i]?).map (·.after.all fun e => !Region.binds .any e || listed.getD e.on false)).getD false) = rs
    have hmem : ∀ i, i ∈ rs ↔ i ∈ remain os.size listed ∧ ∃ o, os[i]? = some o ∧ ∀ e ∈ o.after.toList, Region.binds .any e = true → listed.getD e.on false = true := by
      intro i
      rw [← hrs]
      simp only [remain, List.mem_filter, Bool.and_eq_true]
      constructor
      · rintro ⟨h1, h2, h3⟩
        have hi : i < os.size := by simpa using h1
        refine ⟨⟨h1, h2⟩, os[i], by simp [hi], fun e he hb => ?_⟩
        simp [hi] at h3
        have he' : e ∈ os[i].after := by simpa using he
        obtain ⟨k, hk, rfl⟩ := Array.mem_iff_getElem.1 he'
        rcases h3 k hk with h4 | h4
        · rw [h4] at hb; cases hb
        · simpa using h4
      · rintro ⟨⟨h1, h2⟩, o, h3, h4⟩
        refine ⟨h1, h2, ?_⟩
        rw [h3]
        simp only [Option.map_some, Option.getD_some, Array.all_eq_true]
        intro k hk
        cases hb : Region.binds .any o.after[k] with
        | false => simp
        | true => simp [h4 _ (by simp) hb]
    cases hrem : remain os.size listed with
    | nil =>
      have hnil : rs = [] := by
        cases hr : rs with
        | nil => rfl
        | cons x l =>
          have := (hmem x).1 (by rw [hr]; simp)
          rw [hrem] at this
          simp at this
      rw [hnil]
      rw [hrem] at h
      exact ⟨[], by simp, h⟩
    | cons m l =>
      -- the least that remains is ready
      have hm : m ∈ remain os.size listed := by rw [hrem]; simp
      have hready : m ∈ rs := by
        rw [hmem]
        have hml : m < os.size := by simpa using (List.mem_filter.1 hm).1
        refine ⟨hm, os[m], by simp [hml], fun e he hb => ?_⟩
        have hlt := hfw m os[m] (by simp [hml]) e he hb
        have hel : e.on < os.size := by omega
        cases hle : listed.getD e.on true with
        | true =>
          have hsz : e.on < listed.size := by omega
          simp [Array.getD_eq_getD_getElem?, hsz] at hle ⊢
          exact hle
        | false =>
          have hin : e.on ∈ remain os.size listed := List.mem_filter.2 ⟨by simp [hel], by simp [hle]⟩
          have hpw : (remain os.size listed).Pairwise (· < ·) := List.Pairwise.filter _ List.pairwise_lt_range
          rw [hrem] at hin hpw
          rcases List.mem_cons.1 hin with h1 | h1
          · omega
          · have := (List.pairwise_cons.1 hpw).1 _ h1; omega
      have hpos : 0 < rs.length := List.length_pos_of_mem hready
      have hlt : t % rs.length < rs.length := Nat.mod_lt _ hpos
      have hget : rs[t % rs.length]? = some rs[t % rs.length] := by simp [hlt]
      simp only [hget]
      generalize hi : rs[t % rs.length] = i
      have hirs : i ∈ rs := hi ▸ List.getElem_mem hlt
      obtain ⟨hirem, o, ho, hdeps⟩ := (hmem i).1 hirs
      obtain ⟨l1, l2, e1, e2, e3⟩ := remain_split hs hirem
      have hil : i < os.size := (Array.getElem?_eq_some_iff.1 ho).1
      have hdeps' : ∀ e ∈ o.after.toList, Region.binds .any e = true → listed.getD e.on true = true := fun e he hb => by
        have := hdeps e he hb
        rw [Array.getD_eq_getD_getElem?] at this ⊢
        cases hx : listed[e.on]? with
        | none => rfl
        | some b => rw [hx] at this; exact this
      have hfr : ∀ j ∈ l1, Free os κ j i := fun j hj => by
        obtain ⟨q1, q2⟩ := e2 j hj
        rcases hfree i j hil q1 with hb | hb
        · have : listed.getD j true = true := before_closed (T := fun k => listed.getD k true = true) hfw hc ho hdeps' hb
          rw [this] at q2; cases q2
        · exact hb
      rw [e1] at h
      have hb := Ops.bring l1 hfr h
      cases hb with
      | cons ho' hst hr =>
        obtain rfl := Option.some.inj (ho.symm.trans ho')
        have hlen : (remain os.size (listed.setIfInBounds i true)).length ≤ fuel := by
          have h1 : (remain os.size listed).length = l1.length + (l2.length + 1) := by rw [e1]; simp
          have h2 : (remain os.size (listed.setIfInBounds i true)).length = l1.length + l2.length := by rw [e3]; simp
          omega
        rw [← e3] at hr
        have hc' : ∀ k o, os[k]? = some o → (listed.setIfInBounds i true).getD k true = true → ∀ e ∈ o.after.toList, Region.binds .any e = true → (listed.setIfInBounds i true).getD e.on true = true := by
          intro k ok hk hlk e he hbd
          have grow : ∀ m, listed.getD m true = true → (listed.setIfInBounds i true).getD m true = true := fun m hm => by
            simp only [Array.getD_eq_getD_getElem?, Array.getElem?_setIfInBounds] at hm ⊢
            split
            · split <;> rfl
            · exact hm
          by_cases hki : k = i
          · subst hki
            obtain rfl := Option.some.inj (ho.symm.trans hk)
            exact grow _ (hdeps' e he hbd)
          · refine grow _ (hc k ok hk ?_ e he hbd)
            simp only [Array.getD_eq_getD_getElem?, Array.getElem?_setIfInBounds] at hlk ⊢
            rwa [if_neg (fun e => hki e.symm)] at hlk
        obtain ⟨ord, g1, g2⟩ := lin_go hind fuel (t / rs.length) (listed.setIfInBounds i true) (i :: acc) _ tm' _ S' (by simp [hs]) hc' hlen hr
        exact ⟨i :: ord, by rw [g1]; simp, .cons ho hst g2⟩
theorem ops_perm {κ : Nat → Cls} (hind : indep os κ = true) {tm tm' : Tm} {S S' : Sto} (h : Ops C P os κ (List.range os.size) tm S tm' S') (t : Nat) :
    Ops C P os κ (Region.linearise .any os t) tm S tm' S' := by
  have hrem : remain os.size (Array.replicate os.size false) = List.range os.size := by
    unfold remain
    refine List.filter_eq_self.2 fun i hi => ?_
    have : i < os.size := by simpa using hi
    simp [Array.getD_eq_getD_getElem?, this]
  obtain ⟨ord, g1, g2⟩ := lin_go hind os.size t (Array.replicate os.size false) [] tm tm' S S' (by simp) (fun k o hk hl => by
    have : k < os.size := (Array.getElem?_eq_some_iff.1 hk).1
    simp [Array.getD_eq_getD_getElem?, this] at hl) (by rw [hrem]; simp) (by rw [hrem]; exact h)
  unfold Region.linearise
  rw [g1]
  simpa using g2
end Go.Abs
end
section
namespace Go.Abs
open Go
variable {P : Program} {C : CallP}
theorem put_size (a : Act) (d : Option Tmp) (u : Value) : (a.put d u).tmps.size = a.tmps.size := by cases d <;> simp [Act.put]
theorem put_defers (a : Act) (d : Option Tmp) (u : Value) : (a.put d u).defers = a.defers := by cases d <;> rfl
def OpsAfter (w : World) (L : Id → Option Loc) (F K : Nat → Prop) (n : Nat) (tm' : Tm) (S' : Sto) (Q : Exit → Act → World → Prop) : Prop :=
  ∀ a' w' L' F', a'.defers = [] → a'.tmps.size = n → TmRel w' F' L' tm' a' → Inv w' S' L' F' K → Ext w F L K w' F' L' → Q .normal a' w'
theorem dstsOk_spec {n : Nat} {os : Array Oper} (h : dstsOk n os = true) {i : Nat} {o : Oper} (ho : os[i]? = some o) {t : Tmp} (ht : o.dst = some t) : t < n := by
  simp only [dstsOk, List.all_eq_true] at h
  obtain ⟨hi, rfl⟩ := Array.getElem?_eq_some_iff.1 ho
  have := h os[i] (by simp) t (by simp [ht])
  simpa using this
theorem ops_sound (hC : SoundC P C) {os : Array Oper} {κ : Nat → Cls} {n : Nat} (hd : dstsOk n os = true) {is : List Nat} {tm tm' : Tm} {S S' : Sto} (h : Ops C P os κ is tm S tm' S') :
    ∀ (a : Act) (w : World) (L : Id → Option Loc) (F K : Nat → Prop) (Q : Exit → Act → World → Prop), a.defers = [] → a.tmps.size = n → TmRel w F L tm a → Inv w S L F K → OpsAfter w L F K n tm' S' Q → wpOps P os Q is a w := by
  induction h with
  | nil =>
    intro a w L F K Q h1 h2 h3 h4 h5
    exact h5 a w L F h1 h2 h3 h4 (.refl _ _ _ _)
  | @cons i is o tm tm' S S1 S' v ho hs hr ih =>
    intro a w L F K Q h1 h2 h3 h4 h5
    refine step_sound hC ho hs h3 h4 fun w1 L1 F1 u hu hi1 hx1 => ?_
    refine ih (a.put o.dst u) w1 L1 F1 K Q ((put_defers _ _ _).trans h1) ((put_size _ _ _).trans h2) ?_ hi1 ?_
    · exact TmRel.put (d := o.dst) (h3.ext hx1) (fun t ht => by rw [h2]; exact dstsOk_spec hd ho ht) hu
    · intro a' w' L' F' k1 k2 k3 k4 k5
      exact h5 a' w' L' F' k1 k2 k3 k4 (hx1.trans k5)
def resSem (tmps : Array Value) : ResultVar → Sem Value
  | .tmp t => pure (tmps.getD t Go.undef)
  | .cell a t => do loadVar t (← asAddr (tmps.getD a Go.undef))
theorem results_eq (fn : Func) (tmps : Array Value) : results fn tmps = (do
    let vs ← fn.results.mapM (resSem tmps)
    pure (if h : vs.size = 1 then vs[0] else .tuple vs)) := by
  unfold results
  congr 1
theorem res1_sound {w : World} {S : Sto} {L : Id → Option Loc} {F K : Nat → Prop} {tm : Tm} {a : Act} (ht : TmRel w F L tm a) (hi : Inv w S L F K) {r : ResultVar} {p : PV} (h : resFn P tm S r = some p) :
    ∃ u, (resSem a.tmps r).run P w = .ok u w ∧ Rel w F L p u := by
  cases r with
  | tmp t =>
    obtain rfl := Option.some.inj h
    exact ⟨_, rfl, ht t⟩
  | cell x t =>
    simp only [resFn] at h
    split at h
    · rename_i ti cs h1 h2
      obtain ⟨u, g1, g2⟩ := s_load (P := P) hi h1 (ht x) h2 h
      obtain ⟨b, o, he, _⟩ := cells_at hi (ht x) h2
      refine ⟨u, ?_, g2⟩
      rw [he] at g1
      rw [Array.getD_eq_getD_getElem?] at he
      simpa [resSem, he, asAddr, Instr.loadAt, Instr.sureAddr] using g1
    · cases h
theorem resL_sound {w : World} {S : Sto} {L : Id → Option Loc} {F K : Nat → Prop} {tm : Tm} {a : Act} (ht : TmRel w F L tm a) (hi : Inv w S L F K) : ∀ (l : List ResultVar) {ps : List PV}, resL P tm S l = some ps →
    ∃ us, (l.mapM (resSem a.tmps)).run P w = .ok us w ∧ RelA w F L ps us
  | [], ps, h => by
    obtain rfl := Option.some.inj h
    exact ⟨[], rfl, .nil⟩
  | r :: l, ps, h => by
    simp only [resL] at h
    split at h
    · rename_i p qs h1 h2
      obtain rfl := Option.some.inj h
      obtain ⟨u, g1, g2⟩ := res1_sound (P := P) ht hi h1
      obtain ⟨us, g3, g4⟩ := resL_sound ht hi l h2
      refine ⟨u :: us, ?_, (RelA.one g2).append g4⟩
      rw [List.mapM_cons]
      simp only [Sem.run_bind, g1, Result.andThen_ok, g3, Sem.run_pure]
    · cases h
theorem res_sound {w : World} {S : Sto} {L : Id → Option Loc} {F K : Nat → Prop} {tm : Tm} {a : Act} (ht : TmRel w F L tm a) (hi : Inv w S L F K) {f : FuncId} {v : PV} (h : resOf P f tm S = some v) :
    ∃ fn u, P.funcs[f]? = some fn ∧ (results fn a.tmps).run P w = .ok u w ∧ Rel w F L v u := by
  unfold resOf at h
  split at h
  case h_2 => cases h
  rename_i fn hf
  have key : ∀ ps, resL P tm S fn.results.toList = some ps → ∃ us : List Value, (fn.results.mapM (resSem a.tmps)).run P w = .ok us.toArray w ∧ RelA w F L ps us := by
    intro ps hps
    obtain ⟨us, g1, g2⟩ := resL_sound (P := P) ht hi _ hps
    refine ⟨us, ?_, g2⟩
    rw [Array.mapM_eq_mapM_toList, Sem.run_map, g1]
    simp
  split at h
  · rename_i p hp
    obtain rfl := Option.some.inj h
    obtain ⟨us, g1, g2⟩ := key _ hp
    obtain ⟨u, rfl⟩ : ∃ u, us = [u] := List.length_eq_one_iff.1 (by have := g2.1; simpa using this)
    refine ⟨fn, u, hf, ?_, g2.2 0 _ _ rfl rfl⟩
    simp only [results_eq, Sem.run_bind]
    rw [g1]
    rfl
  · rename_i ps hne hp
    obtain rfl := Option.some.inj h
    obtain ⟨us, g1, g2⟩ := key _ hp
    have hl : us.length ≠ 1 := fun e => by
      obtain ⟨u, rfl⟩ := List.length_eq_one_iff.1 e
      have hl := g2.1
      obtain ⟨p, rfl⟩ := List.length_eq_one_iff.1 (by simpa using hl.symm : ps.length = 1)
      exact hne p rfl
    refine ⟨fn, .tuple us.toArray, hf, ?_, .tup _ (by simpa using g2.1) (by simpa using g2.2)⟩
    simp only [results_eq, Sem.run_bind]
    rw [g1]
    simp [hl]
  · cases h
def EvGood (P : Program) (f : FuncId) (k : List Item) (tm : Tm) (S : Sto) (v : PV) (S' : Sto) : Prop :=
  ∀ (b : Frame) (a : Act) (w : World) (L : Id → Option Loc) (F K : Nat → Prop) (cs : List Frame), b.fn = f → b.kind = .normal → a.defers = [] → a.tmps.size = ntOf P f → TmRel w F L tm a → Inv w S L F K →
    ∃ w' fr val L' F', Steps P (lone (b.at a k) cs w) (lone fr cs w') ∧ fr.fn = f ∧ fr.leaving P w' (.returned val) ∧ Rel w' F' L' v val ∧ Inv w' S' L' F' K ∧ Ext w F L K w' F' L'
theorem EvGood.after {f : FuncId} {k k' : List Item} {tm : Tm} {S S' : Sto} {v : PV} (h : EvGood P f k' tm S v S')
    (hs : ∀ (b : Frame) (a : Act) (w : World) (cs : List Frame), (∃ F L, TmRel w F L tm a) → step P (lone (b.at a k) cs w) = .next (lone (b.at a k') cs w)) : EvGood P f k tm S v S' := by
  intro b a w L F K cs h1 h2 h3 h4 h5 h6
  obtain ⟨w', fr, val, L', F', g1, g2⟩ := h b a w L F K cs h1 h2 h3 h4 h5 h6
  exact ⟨w', fr, val, L', F', .head (hs b a w cs ⟨F, L, h5⟩) g1, g2⟩
theorem EvGood.ends {f : FuncId} {k : List Item} {tm : Tm} {S : Sto} {v : PV} (h : resOf P f tm S = some v)
    (hs : ∀ (b : Frame) (a : Act) (w : World) (cs : List Frame), ∃ k', step P (lone (b.at a k) cs w) = .next (lone { b.at a k' with mode := .returning } cs w)) : EvGood P f k tm S v S := by
  intro b a w L F K cs h1 h2 h3 h4 h5 h6
  obtain ⟨fn, u, g1, g2, g3⟩ := res_sound (P := P) h5 h6 h
  obtain ⟨k', hk⟩ := hs b a w cs
  refine ⟨w, { b.at a k' with mode := .returning }, u, L, F, .one hk, h1, ⟨rfl, h3, h2, fn, by rw [← h1] at g1; exact g1, g2⟩, g3, h6, .refl _ _ _ _⟩
theorem ev_sound (hC : SoundC P C) (hm : P.follows .mixedOrders = true) {f : FuncId} {k : List Item} {tm : Tm} {S S' : Sto} {v : PV} (h : Ev C P f k tm S v S') : EvGood P f k tm S v S' := by
  induction h with
  | fin h => exact .ends h fun b a w cs => ⟨[], step_end⟩
  | @ret k _ _ _ h => exact .ends h fun b a w cs => ⟨_, step_ret⟩
  | skip _ ih => exact ih.after fun b a w cs _ => step_skip
  | label _ ih => exact ih.after fun b a w cs _ => step_label
  | inBlock _ ih => exact ih.after fun b a w cs _ => step_inBlock
  | inScope _ ih => exact ih.after fun b a w cs _ => step_lone_go (by simp [stepG, stepG.exec, Frame.at])
  | seq _ ih => exact ih.after fun b a w cs _ => step_seq
  | @cond c x y t k tm S S' v hc _ ih =>
    refine ih.after fun b a w cs ht => ?_
    obtain ⟨F, L, ht⟩ := ht
    have := ht.opnd c
    rw [hc] at this
    exact step_cond this.lit_eq
  | block _ ih => exact ih.after fun b a w cs _ => step_block
  | scope _ ih => exact ih.after fun b a w cs _ => step_lone_go (by simp [stepG, stepG.exec, Frame.at])
  | loop _ ih => exact ih.after fun b a w cs _ => step_loop
  | inLoop _ ih => exact ih.after fun b a w cs _ => step_inLoop
  | exit hk _ ih => exact ih.after fun b a w cs _ => step_exit hk
  | goto hk _ ih => exact ih.after fun b a w cs _ => step_goto hk
  | @region id os draw k tm tm1 S S1 S' v κ hd hi ho _ ih =>
    intro b a w L F K cs h1 h2 h3 h4 h5 h6
    let Q : Exit → Act → World → Prop := fun e a' w' => e = .normal ∧ ∃ L' F', a'.defers = [] ∧ a'.tmps.size = ntOf P f ∧ TmRel w' F' L' tm1 a' ∧ Inv w' S1 L' F' K ∧ Ext w F L K w' F' L'
    have fin : ∀ e a' w', Q e a' w' → Arrives P (lone (b.at a (.code (.region id os draw) :: k)) cs w) b k cs e a' w' →
        ∃ w' fr val L' F', Steps P (lone (b.at a (.code (.region id os draw) :: k)) cs w) (lone fr cs w') ∧ fr.fn = f ∧ fr.leaving P w' (.returned val) ∧ Rel w' F' L' v val ∧ Inv w' S' L' F' K ∧ Ext w F L K w' F' L' := by
      rintro e a' w' ⟨rfl, L', F', q1, q2, q3, q4, q5⟩ harr
      obtain ⟨w2, fr, val, L2, F2, g1, g2, g3, g4, g5, g6⟩ := ih b a' w' L' F' K cs h1 h2 q1 q2 q3 q4
      exact ⟨w2, fr, val, L2, F2, Steps.trans harr g1, g2, g3, g4, g5, q5.trans g6⟩
    cases draw with
    | false =>
      obtain ⟨e, a', w', q, r⟩ := wp_ops _ a w (ops_sound hC hd ho a w L F K Q h3 h4 h5 h6 fun a' w' L' F' k1 k2 k3 k4 k5 => ⟨rfl, L', F', k1, k2, k3, k4, k5⟩) b k cs
      exact fin e a' w' q (.of_steps (.one step_region) r)
    | true =>
      have hp := ops_perm (hi rfl) ho (w.tape w.drawn (.order b.fn id))
      have hsch : Region.schedule (P.follows .mixedOrders) os (w.tape w.drawn (.order b.fn id)) = Region.linearise .any os (w.tape w.drawn (.order b.fn id)) := by
        simp [Region.schedule, hm]
      have hx : Ext w F L K { w with drawn := w.drawn + 1 } F L := ⟨rfl, rfl, rfl, Nat.le_refl _, fun _ h => h, fun _ _ => rfl, fun _ _ h => h, fun _ h => .inl h, fun i ℓ h => .inr ⟨i, ℓ, h, rfl⟩, Nat.le_succ _⟩
      have h6' : Inv { w with drawn := w.drawn + 1 } S L F K := by
        refine ⟨fun i o ho => ?_, h6.apart, h6.fresh, h6.fz⟩
        obtain ⟨ℓ, c, e, g1, g2, g3, g4, g5, ⟨vs, g6, g7⟩, g8⟩ := h6.live i o ho
        exact ⟨ℓ, c, e, g1, g2, g3, g4, g5, ⟨vs, g6.ext hx, g7⟩, g8⟩
      obtain ⟨e, a', w', q, r⟩ := wp_ops _ a { w with drawn := w.drawn + 1 } (ops_sound hC hd hp a _ L F K Q h3 h4 (h5.ext hx) h6' fun a' w' L' F' k1 k2 k3 k4 k5 => ⟨rfl, L', F', k1, k2, k3, k4, hx.trans k5⟩) b k cs
      refine fin e a' w' q (.of_steps (.one ?_) r)
      rw [step_region_draw, hsch]
  | @freeze k tm S S' v i o ho _ ih =>
    intro b a w L F K cs h1 h2 h3 h4 h5 h6
    obtain ⟨ℓ, _, _, hl, _⟩ := h6.live i o ho
    obtain ⟨g1, g2⟩ := h6.grow ho hl
    obtain ⟨w', fr, val, L', F', q1, q2, q3, q4, q5, q6⟩ := ih b a w L _ K cs h1 h2 h3 h4 (h5.ext g2) g1
    exact ⟨w', fr, val, L', F', q1, q2, q3, q4, q5, g2.trans q6⟩
  | @trim k tm S S' v i o m ho _ ih =>
    intro b a w L F K cs h1 h2 h3 h4 h5 h6
    exact ih b a w L F K cs h1 h2 h3 h4 h5 (h6.trim ho m)
  | @seeC k tm S S' v i o ds ho hv _ ih =>
    intro b a w L F K cs h1 h2 h3 h4 h5 h6
    refine ih b a w L F K cs h1 h2 h3 h4 h5 (h6.recell ho hv.1 fun vs hvs => ?_)
    exact (viewL_rel h6 hv hvs).grow fun b hb => hb.elim id fun h => by cases h.1
  | @see k tm S S' v t q hv _ ih =>
    intro b a w L F K cs h1 h2 h3 h4 h5 h6
    have hq : Rel w F L q (a.tmps.getD t Go.undef) := (view_rel h6 hv (h5 t)).grow fun b hb => hb.elim id fun h => by cases h.1
    refine ih b a w L F K cs h1 h2 h3 h4 (fun t' => ?_) h6
    simp only [Tm.put]
    split
    · rename_i e; subst e; exact hq
    · exact h5 t'
theorem enters_ent {f : FuncId} {n : Nat} {c : Code} (h : Enters P f n c) : Ent P f := by
  obtain ⟨fn, h1, h2, _, h4⟩ := h
  exact ⟨fn, c, h1, h2, h4⟩
theorem of_rel {w : World} {F : Nat → Prop} {L : Id → Option Loc} {ps : List PV} {vals : Array Value} {n : Nat} (h : RelA w F L ps vals.toList) :
    TmRel w F L (Tm.of ps) { tmps := vals ++ Array.replicate n Go.undef, defers := [] } := by
  intro t
  simp only [Tm.of, Array.getD_eq_getD_getElem?, Array.getElem?_append]
  have hl : vals.size = ps.length := by simpa using h.1
  by_cases ht : t < ps.length
  · have h1 : ps[t]? = some ps[t] := by simp
    have h2 : vals.toList[t]? = some vals[t] := by simp
    rw [h1, if_pos (by omega)]
    have := h.2 t _ _ h1 h2
    simpa [show t < vals.size by omega] using this
  · have h1 : ps[t]? = none := List.getElem?_eq_none (by omega)
    rw [h1, if_neg (by omega)]
    have : ((Array.replicate n Go.undef)[t - vals.size]?).getD Go.undef = Go.undef := by
      rw [Array.getElem?_replicate]
      split <;> rfl
    rw [this]
    exact .lit _
theorem callD_sound (hm : P.follows .mixedOrders = true) : ∀ d, SoundC P (CallD P d)
  | 0 => fun _ _ _ _ _ h => h.elim
  | d + 1 => by
    intro f ps S r S' h
    rcases h with ⟨c, hE, hev⟩ | h
    case inr => exact h
    have hg := ev_sound (callD_sound hm d) hm hev
    refine ⟨enters_ent hE, fun vals w L F K hA hi cs => ?_⟩
    obtain ⟨fn, e1, e2, e3, e4⟩ := hE
    have hl : vals.size = ps.length := by simpa using hA.1
    let b : Frame := { (default : Frame) with fn := f, kind := .normal }
    have hnt : ntOf P f = fn.ntmps := by simp [ntOf, e1]
    have henter : Frame.enter P f vals .normal = b.at { tmps := vals ++ Array.replicate (fn.ntmps - vals.size) Go.undef, defers := [] } [.code c] := by
      simp [Frame.enter, Frame.at, e1, e2, b]
    obtain ⟨w', fr, val, L', F', g1, g2, g3, g4, g5, g6⟩ := hg b { tmps := vals ++ Array.replicate (fn.ntmps - vals.size) Go.undef, defers := [] } w L F K cs rfl rfl rfl
      (by simp [hnt]; omega) (of_rel hA) hi
    exact ⟨.returned val, w', fr, ⟨val, L', F', rfl, g4, g5, g6⟩, by rw [henter]; exact g1, g2, g3⟩
theorem call_sound (hm : P.follows .mixedOrders = true) : SoundC P (Call P) := fun f ps S r S' h => by
  obtain ⟨d, h⟩ := h
  exact callD_sound hm d f ps S r S' h
end Go.Abs
end
section
namespace Go.Abs
open Go
variable {P : Program} {f : FuncId} {os : Array Oper} {κ : Nat → Cls}
def Evr (P : Program) (f : FuncId) (k : List Item) (tm : Tm) (S : Sto) (R : PV → Sto → Prop) : Prop := ∃ v S', Ev (Call P) P f k tm S v S' ∧ R v S'
def Opl (P : Program) (os : Array Oper) (κ : Nat → Cls) (i : Nat) (l : List Oper) (tm : Tm) (S : Sto) (K : Tm → Sto → Prop) : Prop :=
  os.toList.drop i = l → ∃ tm1 S1, Ops (Call P) P os κ ((List.range l.length).map (i + ·)) tm S tm1 S1 ∧ K tm1 S1
theorem Opl.nil {i : Nat} {tm : Tm} {S : Sto} {K : Tm → Sto → Prop} (h : K tm S) : Opl P os κ i [] tm S K := fun _ => ⟨tm, S, .nil, h⟩
theorem Opl.cons {i : Nat} {o : Oper} {l : List Oper} {tm : Tm} {S S1 : Sto} {v : PV} {K : Tm → Sto → Prop} (h : Step (Call P) P os (κ i) o tm S v S1) (n : Opl P os κ (i + 1) l (tm.put o.dst v) S1 K) :
    Opl P os κ i (o :: l) tm S K := by
  intro hd
  have ho : os[i]? = some o := by
    have : (os.toList.drop i)[0]? = some o := by rw [hd]; rfl
    rw [List.getElem?_drop] at this
    simpa using this
  have hl : os.toList.drop (i + 1) = l := by rw [← List.drop_drop, hd]; rfl
  obtain ⟨tm1, S2, h1, h2⟩ := n hl
  refine ⟨tm1, S2, ?_, h2⟩
  have : (List.range (o :: l).length).map (i + ·) = i :: (List.range l.length).map (i + 1 + ·) := by
    rw [List.length_cons, List.range_succ_eq_map, List.map_cons, List.map_map]
    simp only [Nat.add_zero, List.cons.injEq, true_and]
    refine List.map_congr_left fun x _ => ?_
    simp only [Function.comp]
    omega
  rw [this]
  exact .cons ho h h1
theorem Evr.region {id : Nat} {draw : Bool} {k : List Item} {tm : Tm} {S : Sto} {R : PV → Sto → Prop} (κ : Nat → Cls) (hd : dstsOk (ntOf P f) os = true) (hi : draw = true → indep os κ = true)
    (h : Opl P os κ 0 os.toList tm S fun tm1 S1 => Evr P f k tm1 S1 R) : Evr P f (.code (.region id os draw) :: k) tm S R := by
  obtain ⟨tm1, S1, h1, v, S', h2, h3⟩ := h rfl
  refine ⟨v, S', .region κ hd hi ?_ h2, h3⟩
  have : (List.range os.toList.length).map (0 + ·) = List.range os.size := by simp
  rw [this] at h1
  exact h1
section
variable {i : Nat} {o : Oper} {l : List Oper} {tm : Tm} {S S1 : Sto} {v : PV} {K : Tm → Sto → Prop}
theorem Opl.skp (h : wantFn os tm o = some false) (n : Opl P os κ (i + 1) l (tm.put o.dst .undef) S K) : Opl P os κ i (o :: l) tm S K := .cons (.skp h) n
theorem Opl.one (hw : wantFn os tm o = some true) (hk : (clsOf o.op).le (κ i) = true) (h : opFn P (o.dst.getD 0) tm.opnd S o.op = some (v, S1)) (n : Opl P os κ (i + 1) l (tm.put o.dst v) S1 K) :
    Opl P os κ i (o :: l) tm S K := .cons (.one hw hk h) n
end
section
variable {k : List Item} {tm : Tm} {S : Sto} {R : PV → Sto → Prop} {a b c : Code}
theorem Evr.fin {v : PV} (h : resOf P f tm S = some v) (hr : R v S) : Evr P f [] tm S R := ⟨v, S, .fin h, hr⟩
theorem Evr.ret {v : PV} (h : resOf P f tm S = some v) (hr : R v S) : Evr P f (.code .ret :: k) tm S R := ⟨v, S, .ret h, hr⟩
theorem Evr.skip (h : Evr P f k tm S R) : Evr P f (.code .skip :: k) tm S R := let ⟨v, S', h1, h2⟩ := h; ⟨v, S', .skip h1, h2⟩
theorem Evr.label {n : Nat} (h : Evr P f k tm S R) : Evr P f (.code (.label n) :: k) tm S R := let ⟨v, S', h1, h2⟩ := h; ⟨v, S', .label h1, h2⟩
theorem Evr.inBlock {n : Nat} (h : Evr P f k tm S R) : Evr P f (.inBlock n :: k) tm S R := let ⟨v, S', h1, h2⟩ := h; ⟨v, S', .inBlock h1, h2⟩
theorem Evr.inScope (h : Evr P f k tm S R) : Evr P f (.inScope c :: k) tm S R := let ⟨v, S', h1, h2⟩ := h; ⟨v, S', .inScope h1, h2⟩
theorem Evr.seq (h : Evr P f (.code a :: .code b :: k) tm S R) : Evr P f (.code (.seq a b) :: k) tm S R := let ⟨v, S', h1, h2⟩ := h; ⟨v, S', .seq h1, h2⟩
theorem Evr.block {n : Nat} (h : Evr P f (.code a :: .inBlock n :: k) tm S R) : Evr P f (.code (.block n a) :: k) tm S R := let ⟨v, S', h1, h2⟩ := h; ⟨v, S', .block h1, h2⟩
theorem Evr.scope (h : Evr P f (.code a :: .inScope a :: k) tm S R) : Evr P f (.code (.scope a) :: k) tm S R := let ⟨v, S', h1, h2⟩ := h; ⟨v, S', .scope h1, h2⟩
theorem Evr.exit {n : Nat} {k' : List Item} (hk : exitTo n k = some k') (h : Evr P f k' tm S R) : Evr P f (.code (.exit n) :: k) tm S R := let ⟨v, S', h1, h2⟩ := h; ⟨v, S', .exit hk h1, h2⟩
theorem Evr.goto {n : Nat} {k' : List Item} (hk : gotoIn n k = some k') (h : Evr P f k' tm S R) : Evr P f (.code (.goto n) :: k) tm S R := let ⟨v, S', h1, h2⟩ := h; ⟨v, S', .goto hk h1, h2⟩
theorem Evr.cond {x : Operand} {t : Bool} (hc : tm.opnd x = .lit (.bool t)) (ht : t = true → Evr P f (.code a :: k) tm S R) (hf : t = false → Evr P f (.code b :: k) tm S R) : Evr P f (.code (.cond x a b) :: k) tm S R := by
  cases t with
  | true => obtain ⟨v, S', h1, h2⟩ := ht rfl; exact ⟨v, S', .cond hc h1, h2⟩
  | false => obtain ⟨v, S', h1, h2⟩ := hf rfl; exact ⟨v, S', .cond hc h1, h2⟩
theorem Evr.loop (h : Evr P f (.inLoop a :: k) tm S R) : Evr P f (.code (.loop a) :: k) tm S R := by
  obtain ⟨v, S', h1, h2⟩ := h
  generalize hk : Item.inLoop a :: k = k' at h1
  suffices ∀ k' tm S v S', Ev (Call P) P f k' tm S v S' → k' = Item.inLoop a :: k → Ev (Call P) P f (.code (.loop a) :: k) tm S v S' from ⟨v, S', this _ _ _ _ _ h1 hk.symm, h2⟩
  intro k' tm S v S' h
  induction h with
  | inLoop h ih => intro e; injection e with e1 e2; injection e1 with e1; subst e1 e2; exact .loop h
  | freeze i ho h ih => intro e; exact .freeze i ho (ih e)
  | trim i m ho h ih => intro e; exact .trim i m ho (ih e)
  | seeC i ho hv h ih => intro e; exact .seeC i ho hv (ih e)
  | see t hv h ih => intro e; exact .see t hv (ih e)
  | fin => intro e; cases e
  | _ => intro e; injection e with e1 e2; first | cases e1 | (injection e1)
theorem Evr.round (h : Evr P f (.code a :: .inLoop a :: k) tm S R) : Evr P f (.inLoop a :: k) tm S R := let ⟨v, S', h1, h2⟩ := h; ⟨v, S', .inLoop h1, h2⟩
theorem Evr.rounds {Inv : Nat → Tm → Sto → Prop} {n : Nat} (h : Inv n tm S) (h0 : ∀ tm S, Inv 0 tm S → False)
    (hs : ∀ n, (∀ m, m ≤ n → ∀ tm S, Inv m tm S → Evr P f (.inLoop a :: k) tm S R) → ∀ tm S, Inv (n + 1) tm S → Evr P f (.code a :: .inLoop a :: k) tm S R) : Evr P f (.inLoop a :: k) tm S R := by
  have : ∀ n m, m ≤ n → ∀ tm S, Inv m tm S → Evr P f (.inLoop a :: k) tm S R := by
    intro n
    induction n with
    | zero => intro m hm tm S h; obtain rfl : m = 0 := by omega
              exact (h0 tm S h).elim
    | succ n ih =>
      intro m hm tm S h
      cases m with
      | zero => exact (h0 tm S h).elim
      | succ m => exact .round (hs m (fun m' hm' => ih m' (by omega)) tm S h)
  exact this n n (Nat.le_refl _) tm S h
theorem Evr.condT {x : Operand} (hc : tm.opnd x = .lit (.bool true)) (h : Evr P f (.code a :: k) tm S R) : Evr P f (.code (.cond x a b) :: k) tm S R := .cond hc (fun _ => h) (fun h => by cases h)
theorem Evr.condF {x : Operand} (hc : tm.opnd x = .lit (.bool false)) (h : Evr P f (.code b :: k) tm S R) : Evr P f (.code (.cond x a b) :: k) tm S R := .cond hc (fun h => by cases h) (fun _ => h)
theorem Evr.join (J : Tm → Sto → Prop) (n : ∀ tm S, J tm S → Evr P f k tm S R) (h : (∀ tm S, J tm S → Evr P f k tm S R) → Evr P f (.code c :: k) tm S R) : Evr P f (.code c :: k) tm S R := h n
theorem Evr.ret1 {fn : Func} {t : Tmp} (h1 : P.funcs[f]? = some fn) (h2 : fn.results.toList = [.tmp t]) (hr : R (tm t) S) : Evr P f (.code .ret :: k) tm S R :=
  .ret (v := tm t) (by simp only [resOf, h1, h2]; rfl) hr
theorem Evr.ret3 {fn : Func} {t u w : Tmp} (h1 : P.funcs[f]? = some fn) (h2 : fn.results.toList = [.tmp t, .tmp u, .tmp w]) (hr : R (.tup [tm t, tm u, tm w]) S) : Evr P f (.code .ret :: k) tm S R :=
  .ret (v := .tup [tm t, tm u, tm w]) (by simp only [resOf, h1, h2]; rfl) hr
end
def Ret (P : Program) (f : FuncId) (ps : List PV) (R : PV → Sto → Prop) : Prop := ∃ r S, Call P f ps .empty r S ∧ R r S
theorem ops_up {C C' : CallP} (hC : ∀ f ps S r S', C f ps S r S' → C' f ps S r S') {is : List Nat} {tm tm' : Tm} {S S' : Sto} (h : Ops C P os κ is tm S tm' S') : Ops C' P os κ is tm S tm' S' := by
  induction h with
  | nil => exact .nil
  | cons ho hs hr ih =>
    refine .cons ho ?_ ih
    cases hs with
    | skp h => exact .skp h
    | one h1 h2 h3 => exact .one h1 h2 h3
    | oneP h1 h2 => exact .oneP h1 h2
    | oneI h1 h2 h3 => exact .oneI h1 h2 h3
    | oneF h1 h2 h3 h4 h5 => exact .oneF h1 h2 h3 h4 h5
    | callP h1 h2 ho hc hv hp h hw hq => exact .callP h1 h2 ho hc hv hp (hC _ _ _ _ _ h) hw hq
    | callB h1 h2 ho hc hv hp h hw => exact .callB h1 h2 ho hc hv hp (hC _ _ _ _ _ h) hw
    | callV h1 h2 ho hc hv hp h hob hoff hs => exact .callV h1 h2 ho hc hv hp (hC _ _ _ _ _ h) hob hoff hs
    | callA h1 h2 ho hc hv hp h hob hz hoff hd hpl hs => exact .callA h1 h2 ho hc hv hp (hC _ _ _ _ _ h) hob hz hoff hd hpl hs
    | callG h1 h2 ho hc hv hp h hkeep hw => exact .callG h1 h2 ho hc hv hp (hC _ _ _ _ _ h) hkeep hw
    | callS h1 h2 ho hc h => exact .callS h1 h2 ho hc (hC _ _ _ _ _ h)
    | oneK h1 h2 h3 h4 h5 h6 => exact .oneK h1 h2 h3 h4 h5 h6
    | oneW h1 h2 h3 h4 h5 => exact .oneW h1 h2 h3 h4 h5
    | oneM h1 h2 h3 h4 h5 h6 h7 => exact .oneM h1 h2 h3 h4 h5 h6 h7
    | callM h1 h2 ho hc h hg hk => exact .callM h1 h2 ho hc (hC _ _ _ _ _ h) hg hk
theorem ev_up {C C' : CallP} (hC : ∀ f ps S r S', C f ps S r S' → C' f ps S r S') {k : List Item} {tm : Tm} {S S' : Sto} {v : PV} (h : Ev C P f k tm S v S') : Ev C' P f k tm S v S' := by
  induction h with
  | fin h => exact .fin h
  | ret h => exact .ret h
  | skip _ ih => exact .skip ih
  | label _ ih => exact .label ih
  | inBlock _ ih => exact .inBlock ih
  | inScope _ ih => exact .inScope ih
  | seq _ ih => exact .seq ih
  | cond hc _ ih => exact .cond hc ih
  | block _ ih => exact .block ih
  | scope _ ih => exact .scope ih
  | loop _ ih => exact .loop ih
  | inLoop _ ih => exact .inLoop ih
  | exit hk _ ih => exact .exit hk ih
  | goto hk _ ih => exact .goto hk ih
  | region κ hd hi ho _ ih => exact .region κ hd hi (ops_up hC ho) ih
  | freeze i ho _ ih => exact .freeze i ho ih
  | trim i m ho _ ih => exact .trim i m ho ih
  | seeC i ho hv _ ih => exact .seeC i ho hv ih
  | see t hv _ ih => exact .see t hv ih
theorem callD_mono : ∀ {d e : Nat}, d ≤ e → ∀ f ps S r S', CallD P d f ps S r S' → CallD P e f ps S r S'
  | 0, _, _, _, _, _, _, _, h => h.elim
  | d + 1, 0, h, _, _, _, _, _, _ => by omega
  | d + 1, e + 1, h, f, ps, S, r, S', .inr g => .inr g
  | d + 1, e + 1, h, f, ps, S, r, S', .inl ⟨c, h1, h2⟩ => .inl ⟨c, h1, ev_up (fun _ _ _ _ _ h => callD_mono (Nat.le_of_succ_le_succ ‹_›) _ _ _ _ _ h) h2⟩
theorem ops_bound {is : List Nat} {tm tm' : Tm} {S S' : Sto} (h : Ops (Call P) P os κ is tm S tm' S') : ∃ d, Ops (CallD P d) P os κ is tm S tm' S' := by
  induction h with
  | nil => exact ⟨0, .nil⟩
  | cons ho hs hr ih =>
    obtain ⟨d, ih⟩ := ih
    have up : ∀ {e}, d ≤ e → _ := fun {e} he => ops_up (callD_mono (P := P) he) ih
    cases hs with
    | skp h => exact ⟨d, .cons ho (.skp h) ih⟩
    | one h1 h2 h3 => exact ⟨d, .cons ho (.one h1 h2 h3) ih⟩
    | oneP h1 h2 => exact ⟨d, .cons ho (.oneP h1 h2) ih⟩
    | oneI h1 h2 h3 => exact ⟨d, .cons ho (.oneI h1 h2 h3) ih⟩
    | oneF h1 h2 h3 h4 h5 => exact ⟨d, .cons ho (.oneF h1 h2 h3 h4 h5) ih⟩
    | callP h1 h2 ho' hc hv hp h hw hq =>
      obtain ⟨e, h⟩ := h
      exact ⟨max d e, .cons ho (.callP h1 h2 ho' hc hv hp (callD_mono (Nat.le_max_right _ _) _ _ _ _ _ h) hw hq) (up (Nat.le_max_left _ _))⟩
    | callB h1 h2 ho' hc hv hp h hw =>
      obtain ⟨e, h⟩ := h
      exact ⟨max d e, .cons ho (.callB h1 h2 ho' hc hv hp (callD_mono (Nat.le_max_right _ _) _ _ _ _ _ h) hw) (up (Nat.le_max_left _ _))⟩
    | callV h1 h2 ho' hc hv hp h hob hoff hs =>
      obtain ⟨e, h⟩ := h
      exact ⟨max d e, .cons ho (.callV h1 h2 ho' hc hv hp (callD_mono (Nat.le_max_right _ _) _ _ _ _ _ h) hob hoff hs) (up (Nat.le_max_left _ _))⟩
    | callA h1 h2 ho' hc hv hp h hob hz hoff hd hpl hs =>
      obtain ⟨e, h⟩ := h
      exact ⟨max d e, .cons ho (.callA h1 h2 ho' hc hv hp (callD_mono (Nat.le_max_right _ _) _ _ _ _ _ h) hob hz hoff hd hpl hs) (up (Nat.le_max_left _ _))⟩
    | callG h1 h2 ho' hc hv hp h hkeep hw =>
      obtain ⟨e, h⟩ := h
      exact ⟨max d e, .cons ho (.callG h1 h2 ho' hc hv hp (callD_mono (Nat.le_max_right _ _) _ _ _ _ _ h) hkeep hw) (up (Nat.le_max_left _ _))⟩
    | callS h1 h2 ho' hc h =>
      obtain ⟨e, h⟩ := h
      exact ⟨max d e, .cons ho (.callS h1 h2 ho' hc (callD_mono (Nat.le_max_right _ _) _ _ _ _ _ h)) (up (Nat.le_max_left _ _))⟩
    | oneK h1 h2 h3 h4 h5 h6 => exact ⟨d, .cons ho (.oneK h1 h2 h3 h4 h5 h6) ih⟩
    | oneW h1 h2 h3 h4 h5 => exact ⟨d, .cons ho (.oneW h1 h2 h3 h4 h5) ih⟩
    | oneM h1 h2 h3 h4 h5 h6 h7 => exact ⟨d, .cons ho (.oneM h1 h2 h3 h4 h5 h6 h7) ih⟩
    | callM h1 h2 ho' hc h hg hk =>
      obtain ⟨e, h⟩ := h
      exact ⟨max d e, .cons ho (.callM h1 h2 ho' hc (callD_mono (Nat.le_max_right _ _) _ _ _ _ _ h) hg hk) (up (Nat.le_max_left _ _))⟩
theorem ev_bound {k : List Item} {tm : Tm} {S S' : Sto} {v : PV} (h : Ev (Call P) P f k tm S v S') : ∃ d, Ev (CallD P d) P f k tm S v S' := by
  induction h with
  | fin h => exact ⟨0, .fin h⟩
  | ret h => exact ⟨0, .ret h⟩
  | skip _ ih => exact ih.imp fun _ => .skip
  | label _ ih => exact ih.imp fun _ => .label
  | inBlock _ ih => exact ih.imp fun _ => .inBlock
  | inScope _ ih => exact ih.imp fun _ => .inScope
  | seq _ ih => exact ih.imp fun _ => .seq
  | cond hc _ ih => exact ih.imp fun _ => .cond hc
  | block _ ih => exact ih.imp fun _ => .block
  | scope _ ih => exact ih.imp fun _ => .scope
  | loop _ ih => exact ih.imp fun _ => .loop
  | inLoop _ ih => exact ih.imp fun _ => .inLoop
  | exit hk _ ih => exact ih.imp fun _ => .exit hk
  | goto hk _ ih => exact ih.imp fun _ => .goto hk
  | region κ hd hi ho _ ih =>
    obtain ⟨d, ih⟩ := ih
    obtain ⟨e, ho⟩ := ops_bound ho
    exact ⟨max d e, .region κ hd hi (ops_up (callD_mono (Nat.le_max_right _ _)) ho) (ev_up (callD_mono (Nat.le_max_left _ _)) ih)⟩
  | freeze i ho _ ih => exact ih.imp fun _ => .freeze i ho
  | trim i m ho _ ih => exact ih.imp fun _ => .trim i m ho
  | seeC i ho hv _ ih => exact ih.imp fun _ => .seeC i ho hv
  | see t hv _ ih => exact ih.imp fun _ => .see t hv
theorem Ret.intro {fn : Func} {c : Code} {ps : List PV} {R : PV → Sto → Prop} (h1 : P.funcs[f]? = some fn) (h2 : fn.body = some c) (h3 : ps.length ≤ fn.ntmps) (h4 : (fn.name == "runtime.NumGoroutine") = false)
    (h : Evr P f [.code c] (Tm.of ps) .empty R) : Ret P f ps R := by
  obtain ⟨r, S, h5, h6⟩ := h
  obtain ⟨d, h5⟩ := ev_bound h5
  exact ⟨r, S, ⟨d + 1, .inl ⟨c, ⟨fn, h1, h2, h3, h4⟩, h5⟩⟩, h6⟩
def puts (b : Tm) : List (Nat × PV) → Tm
  | [] => b
  | (t, v) :: l => (puts b l).put (some t) v
def Has (tm : Tm) : List (Nat × PV) → Prop
  | [] => True
  | (t, v) :: l => tm t = v ∧ Has tm l
theorem Has.eq {tm : Tm} : ∀ {l : List (Nat × PV)}, Has tm l → tm = puts tm l
  | [], _ => rfl
  | (t, v) :: l, ⟨h1, h2⟩ => by
    rw [puts, ← h2.eq]
    funext u
    simp only [Tm.put]
    split
    · rename_i e; rw [e]; exact h1
    · rfl
theorem tm1 (a : PV) : Tm.of [a] = Tm.put (fun _ => .undef) (some 0) a := by
  funext t; match t with
  | 0 => rfl
  | t + 1 => rfl
theorem tm2 (a b : PV) : Tm.of [a, b] = Tm.put (Tm.put (fun _ => .undef) (some 0) a) (some 1) b := by
  funext t; match t with
  | 0 => rfl
  | 1 => rfl
  | t + 2 => rfl
theorem tm3 (a b c : PV) : Tm.of [a, b, c] = Tm.put (Tm.put (Tm.put (fun _ => .undef) (some 0) a) (some 1) b) (some 2) c := by
  funext t; match t with
  | 0 => rfl
  | 1 => rfl
  | 2 => rfl
  | t + 3 => rfl
def stdκ (os : Array Oper) (i : Nat) : Cls := match os[i]? with | some o => clsOf o.op | none => .n
theorem Evr.regionD {id : Nat} {k : List Item} {tm : Tm} {S : Sto} {R : PV → Sto → Prop} (hd : dstsOk (ntOf P f) os = true) (hi : indep os (stdκ os) = true)
    (h : Opl P os (stdκ os) 0 os.toList tm S fun tm1 S1 => Evr P f k tm1 S1 R) : Evr P f (.code (.region id os true) :: k) tm S R := .region _ hd (fun _ => hi) h
theorem Evr.regionN {id : Nat} {k : List Item} {tm : Tm} {S : Sto} {R : PV → Sto → Prop} (hd : dstsOk (ntOf P f) os = true)
    (h : Opl P os (fun _ => .n) 0 os.toList tm S fun tm1 S1 => Evr P f k tm1 S1 R) : Evr P f (.code (.region id os false) :: k) tm S R := .region _ hd (fun h => by cases h) h
end Go.Abs
end
section
namespace Go.Abs
open Go Go.RowKit
structure Cd (α : Type) where
  n : Nat
  R : α → List PV → Prop
  len : ∀ {a c}, R a c → c.length = n
  plain : ∀ {a c}, R a c → ∀ p ∈ c, Plain p
def Rows {α : Type} (K : Cd α) : List α → List PV → Prop
  | [], cs => cs = []
  | a :: l, cs => ∃ c r, cs = c ++ r ∧ K.R a c ∧ Rows K l r
def Sl {α : Type} (K : Cd α) (l : List α) (v : PV) : Prop := (v = .lit (.slice none 0 0) ∧ l = []) ∨ ∃ cs, v = .sl cs l.length ∧ Rows K l cs
section
variable {α : Type} {K : Cd α}
theorem Rows.length : ∀ {l : List α} {cs : List PV}, Rows K l cs → cs.length = l.length * K.n
  | [], cs, h => by rw [show cs = [] from h]; simp
  | a :: l, cs, ⟨c, r, h1, h2, h3⟩ => by rw [h1, List.length_append, K.len h2, h3.length, List.length_cons, Nat.add_mul]; omega
theorem Rows.plain : ∀ {l : List α} {cs : List PV}, Rows K l cs → ∀ p ∈ cs, Plain p
  | [], cs, h, p, hp => by rw [show cs = [] from h] at hp; cases hp
  | a :: l, cs, ⟨c, r, h1, h2, h3⟩, p, hp => by
    rw [h1, List.mem_append] at hp
    exact hp.elim (K.plain h2 p) (h3.plain p)
theorem Rows.append : ∀ {l m : List α} {cs ds : List PV}, Rows K l cs → Rows K m ds → Rows K (l ++ m) (cs ++ ds)
  | [], m, cs, ds, h, k => by rw [show cs = [] from h]; exact k
  | a :: l, m, cs, ds, ⟨c, r, h1, h2, h3⟩, k => ⟨c, r ++ ds, by rw [h1, List.append_assoc], h2, h3.append k⟩
theorem Rows.one {a : α} {c : List PV} (h : K.R a c) : Rows K [a] c := ⟨c, [], by simp, h, rfl⟩
theorem Rows.get : ∀ {l : List α} {cs : List PV}, Rows K l cs → ∀ (j : Nat) (hj : j < l.length), ∃ c r, cs.drop (j * K.n) = c ++ r ∧ K.R l[j] c
  | a :: l, cs, ⟨c, r, h1, h2, h3⟩, 0, _ => ⟨c, r, by simp [h1], h2⟩
  | a :: l, cs, ⟨c, r, h1, h2, h3⟩, j + 1, hj => by
    obtain ⟨c', r', g1, g2⟩ := h3.get j (by simpa using hj)
    refine ⟨c', r', ?_, g2⟩
    rw [h1, ← g1, show (j + 1) * K.n = c.length + j * K.n by rw [K.len h2, Nat.add_mul]; omega, ← List.drop_drop]
    simp
theorem Rows.set : ∀ {l : List α} {cs : List PV}, Rows K l cs → ∀ (j : Nat), j < l.length → ∀ {a : α} {c : List PV}, K.R a c → Rows K (l.set j a) (putAt cs (j * K.n) c)
  | x :: l, cs, ⟨c, r, h1, h2, h3⟩, 0, _, a, d, hd => by
    refine ⟨d, r, ?_, hd, h3⟩
    subst h1
    unfold putAt
    rw [Nat.zero_mul, List.take_zero, List.nil_append, Nat.zero_add, K.len hd, ← K.len h2]
    simp
  | x :: l, cs, ⟨c, r, h1, h2, h3⟩, j + 1, hj, a, d, hd => by
    refine ⟨c, putAt r (j * K.n) d, ?_, h2, h3.set j (by simpa using hj) hd⟩
    subst h1
    unfold putAt
    have e : (j + 1) * K.n = c.length + j * K.n := by rw [K.len h2, Nat.add_mul]; omega
    rw [e, List.take_append, List.take_of_length_le (by omega), Nat.add_sub_cancel_left, Nat.add_assoc, ← List.drop_drop]
    simp
theorem Rows.rep {z : α} {c : List PV} (h : K.R z c) : ∀ n, Rows K (List.replicate n z) (repL n c)
  | 0 => rfl
  | n + 1 => ⟨c, repL n c, by simp [repL, List.replicate_succ], h, Rows.rep h n⟩
theorem Rows.take : ∀ {l : List α} {cs : List PV}, Rows K l cs → ∀ j, Rows K (l.take j) (cs.take (j * K.n))
  | _, _, _, 0 => by simp [Rows]
  | [], cs, h, j + 1 => by rw [show cs = [] from h]; simp [Rows]
  | a :: l, cs, ⟨c, r, h1, h2, h3⟩, j + 1 => by
    refine ⟨c, r.take (j * K.n), ?_, h2, h3.take j⟩
    rw [h1, List.take_append, Nat.add_mul, List.take_of_length_le (by rw [K.len h2]; omega), K.len h2]
    congr 2; omega
theorem Rows.drop : ∀ {l : List α} {cs : List PV}, Rows K l cs → ∀ j, Rows K (l.drop j) (cs.drop (j * K.n))
  | _, _, h, 0 => by simpa using h
  | [], cs, h, j + 1 => by rw [show cs = [] from h]; simp [Rows]
  | a :: l, cs, ⟨c, r, h1, h2, h3⟩, j + 1 => by
    have := h3.drop j
    rw [h1, show (j + 1) * K.n = c.length + j * K.n by rw [K.len h2, Nat.add_mul]; omega, ← List.drop_drop]
    simpa using this
theorem Sl.nil : Sl K [] (.lit (.slice none 0 0)) := .inl ⟨rfl, rfl⟩
theorem Sl.rows {l : List α} {cs : List PV} (h : Rows K l cs) : Sl K l (.sl cs l.length) := .inr ⟨cs, rfl, h⟩
theorem Sl.plain {l : List α} {v : PV} (h : Sl K l v) : Plain v := by
  rcases h with ⟨rfl, _⟩ | ⟨cs, rfl, h⟩
  · exact .lit _
  · exact .sl _ h.plain
theorem Sl.len {l : List α} {v : PV} (h : Sl K l v) : v.len? = some l.length := by
  rcases h with ⟨rfl, rfl⟩ | ⟨cs, rfl, h⟩ <;> rfl
theorem Sl.row {l : List α} {v : PV} (h : Sl K l v) (S : Sto) : ∃ cs, S.rowOf K.n v = some cs ∧ Rows K l cs := by
  rcases h with ⟨rfl, rfl⟩ | ⟨cs, rfl, h⟩
  · exact ⟨[], rfl, rfl⟩
  · refine ⟨cs, ?_, h⟩
    have := h.length
    simp only [Sto.rowOf]
    rw [if_pos (by omega), List.take_of_length_le (by omega)]
theorem Sl.at {l : List α} {v : PV} (h : Sl K l v) {j : Nat} (hj : j < l.length) : ∃ c r, v.elem (j * K.n) = some (.fel (c ++ r)) ∧ K.R l[j] c := by
  rcases h with ⟨rfl, rfl⟩ | ⟨cs, rfl, h⟩
  · simp at hj
  · obtain ⟨c, r, h1, h2⟩ := h.get j hj
    exact ⟨c, r, by simp [PV.elem, h1], h2⟩
theorem Sl.part {l : List α} {v : PV} (h : Sl K l v) (S : Sto) {a b : Nat} (h1 : a ≤ b) (h2 : b ≤ l.length) : ∃ q, S.part v K.n a b = some q ∧ Sl K ((l.drop a).take (b - a)) q := by
  rcases h with ⟨rfl, rfl⟩ | ⟨cs, rfl, h⟩
  · simp at h2
    exact ⟨.lit (.slice none 0 0), by simp [Sto.part, h2], .inl ⟨rfl, by simp⟩⟩
  · refine ⟨.sl ((cs.drop (a * K.n)).take ((b - a) * K.n)) (b - a), by simp [Sto.part, h1, h2], ?_⟩
    have := Sl.rows ((h.drop a).take (b - a))
    rwa [show ((l.drop a).take (b - a)).length = b - a by simp; omega] at this
end
def cInt (k : IntKind) : Cd Int := ⟨1, fun a c => c = [.lit (.int k a)], fun h => by rw [h]; rfl, fun h p hp => by rw [h] at hp; obtain rfl := List.mem_singleton.1 hp; exact .lit _⟩
def cSl {α : Type} (K : Cd α) : Cd (List α) := ⟨1, fun a c => ∃ v, c = [v] ∧ Sl K a v, fun ⟨v, h, _⟩ => by rw [h]; rfl, fun ⟨v, h, hs⟩ p hp => by rw [h] at hp; obtain rfl := List.mem_singleton.1 hp; exact hs.plain⟩
def cPair {α β : Type} (K : Cd α) (M : Cd β) : Cd (α × β) := ⟨K.n + M.n, fun a c => ∃ c1 c2, c = c1 ++ c2 ∧ K.R a.1 c1 ∧ M.R a.2 c2,
  fun ⟨c1, c2, h, h1, h2⟩ => by rw [h, List.length_append, K.len h1, M.len h2],
  fun ⟨c1, c2, h, h1, h2⟩ p hp => by rw [h, List.mem_append] at hp; exact hp.elim (K.plain h1 p) (M.plain h2 p)⟩
def cIso {α β : Type} (K : Cd β) (g : α → β) : Cd α := ⟨K.n, fun a c => K.R (g a) c, fun h => K.len h, fun h => K.plain h⟩
def Live (S : Sto) (i : Id) (o : Obj) : Prop := S.obj i = some o ∧ i.g < S.gen i.s
def Vec {α : Type} (K : Cd α) (l : List α) (v : PV) (S : Sto) : Prop :=
  (v = .lit (.slice none 0 0) ∧ l = []) ∨ ∃ i cs, v = .loc i 0 l.length ∧ Live S i ⟨cs, K.n, false⟩ ∧ Rows K l cs
theorem obj_add (S : Sto) (s : Nat) (o : Obj) (i : Id) : (S.add s o).obj i = if i = S.next s then some o else S.obj i := rfl
theorem obj_set (S : Sto) (j : Id) (o : Obj) (i : Id) : (S.set j o).obj i = if i = j then some o else S.obj i := rfl
theorem obj_del (S : Sto) (j : Id) (i : Id) : (S.del j).obj i = if i = j then none else S.obj i := rfl
section
variable {S : Sto} {i j : Id} {o o' : Obj} {s : Nat}
theorem Live.new : Live (S.add s o) (S.next s) o := ⟨by rw [obj_add, if_pos rfl], by simp [Sto.next, Sto.add]⟩
theorem Live.ne_next (h : Live S i o) : i ≠ S.next s := fun e => by
  have := h.2
  rw [e] at this
  exact absurd this (Nat.lt_irrefl _)
theorem Live.add (h : Live S i o) : Live (S.add s o') i o :=
  ⟨by rw [obj_add, if_neg h.ne_next]; exact h.1, by have := h.2; simp only [Sto.add]; split <;> first | (rename_i e; rw [← e]; omega) | exact this⟩
theorem Live.set (h : Live S i o) (hn : i ≠ j) : Live (S.set j o') i o := ⟨by rw [obj_set, if_neg hn]; exact h.1, h.2⟩
theorem Live.set_same (h : Live S i o) : Live (S.set i o') i o' := ⟨by rw [obj_set, if_pos rfl], h.2⟩
theorem Live.del (h : Live S i o) (hn : i ≠ j) : Live (S.del j) i o := ⟨by rw [obj_del, if_neg hn]; exact h.1, h.2⟩
end
def Out (R : PV → Prop) (v : PV) (S : Sto) : Prop := ∃ q, View S false v q ∧ Plain q ∧ R q
theorem Out.sl {α : Type} {K : Cd α} {l : List α} {v : PV} {S : Sto} (h : Sl K l v) : Out (Sl K l) v S := ⟨v, .refl v, h.plain, h⟩
theorem View.row {S : Sto} {z : Bool} {i : Id} {o : Obj} {n : Nat} (h : S.obj i = some o) (hz : z = true → o.frz = true) (hl : o.cells.length = n * o.es) : View S z (.loc i 0 n) (.sl o.cells n) := by
  have e : (o.cells.drop 0).take (n * o.es) = o.cells := by rw [List.drop_zero, ← hl, List.take_length]
  refine .loc h hz (by rw [e]) (fun j c d h1 h2 => ?_)
  rw [e] at h1
  rw [h1] at h2
  obtain rfl := Option.some.inj h2
  exact .refl c
theorem Out.vec {α : Type} {K : Cd α} {l : List α} {v : PV} {S : Sto} (h : Vec K l v S) : Out (Sl K l) v S := by
  rcases h with ⟨rfl, rfl⟩ | ⟨i, cs, rfl, h1, h2⟩
  · exact ⟨_, .refl _, .lit _, .nil⟩
  · exact ⟨.sl cs l.length, View.row h1.1 (fun h => by cases h) h2.length, .sl _ h2.plain, .rows h2⟩
end Go.Abs
end
section
namespace Go.Abs
open Go Go.RowKit
attribute [go_sem] opFn Tm.opnd Tm.put justV unFn convFn PV.int? boundFn aggCells storeFn builtinFn pureB PV.undef
attribute [go_sem] Nat.reduceEqDiff Option.map_some Option.map_none Option.getD_some Option.getD_none if_true if_false List.map_cons List.map_nil Option.some.injEq reduceCtorEq
theorem w64 (x : Int) : IntKind.i64.wrap x = wrap64 x := by
  rw [IntKind.wrap_i64]
  unfold wrap64
  rfl
attribute [go_sem] w64 puts Sto.cellsOf TI.load TK.agg binFn litBin intBin PV.step List.cons_append List.nil_append
theorem Sl.one {α : Type} {K : Cd α} {l : List α} {v : PV} (h : Sl K l v) : v.one = true := by
  rcases h with ⟨rfl, _⟩ | ⟨cs, rfl, _⟩ <;> rfl
theorem Sl.cells {α : Type} {K : Cd α} {l : List α} {v : PV} (h : Sl K l v) : v.cells = [v] := by
  rcases h with ⟨rfl, _⟩ | ⟨cs, rfl, _⟩ <;> rfl
section
variable {P : Program} {f : FuncId} {os : Array Oper} {κ : Nat → Cls} {i : Nat} {o : Oper} {l : List Oper} {tm : Tm} {S S1 : Sto} {K : Tm → Sto → Prop}
theorem Opl.idx {α : Type} {M : Cd α} {xs : List α} {t e : TypeId} {x ix : Operand} {j : Int} {k : IntKind} (z : α) (hv : Sl M xs (tm.opnd x)) (hj : tm.opnd ix = .lit (.int k j)) (h0 : 0 ≤ j) (h1 : j < (xs.length : Int))
    (hk : tkAt P t = some (.slice e)) (hz : szAt P e = some M.n) (hw : wantFn os tm o = some true) (ho : o.op = .indexAddr t x ix)
    (n : ∀ c r, M.R (xs.getD j.toNat z) c → Opl P os κ (i + 1) l (tm.put o.dst (.fel (c ++ r))) S K) : Opl P os κ i (o :: l) tm S K := by
  have hj' : j.toNat < xs.length := by omega
  obtain ⟨c, r, h2, h3⟩ := hv.at hj'
  refine Opl.one hw (by rw [ho]; rfl) ?_ (n c r (by simpa [List.getD_eq_getElem?_getD, hj'] using h3))
  rw [ho]
  simp only [opFn, hk, hj, PV.int?, hz, hv.len]
  rw [if_pos ⟨h0, h1⟩, h2]
  rfl
theorem Opl.len {α : Type} {M : Cd α} {xs : List α} {t e : TypeId} {x : Operand} {xs' : Array Operand} {ts : Array TypeId} (hv : Sl M xs (tm.opnd x)) (hk : tkAt P t = some (.slice e)) (hw : wantFn os tm o = some true)
    (ho : o.op = .call ⟨.builtin .len, xs', ts⟩) (h1 : xs'.toList = [x]) (h2 : ts.toList = [t])
    (n : Opl P os κ (i + 1) l (tm.put o.dst (.lit (.int .i64 (xs.length : Nat)))) S K) : Opl P os κ i (o :: l) tm S K := by
  refine Opl.one hw (by rw [ho]; rfl) ?_ n
  rw [ho]
  simp only [opFn, builtinFn, h1, h2, List.map_cons, List.map_nil, pureB, hk, hv.len, Option.map_some, justV]
theorem Opl.lda {t : TypeId} {ti : TI} {x : Operand} {cs : List PV} (v : PV) (hx : tm.opnd x = .fel cs) (ht : tiOf P t = some ti) (hv : ti.load cs = some v) (hw : wantFn os tm o = some true) (ho : o.op = .load t x) (hκ : Cls.le .r (κ i) = true)
    (n : Opl P os κ (i + 1) l (tm.put o.dst v) S K) : Opl P os κ i (o :: l) tm S K := by
  refine Opl.one hw (by rw [ho]; exact hκ) ?_ n
  rw [ho]
  simp only [opFn, ht, hx, Sto.cellsOf, hv, justV, Option.map_some]
theorem peel {p : Prop} [Decidable p] {β : Type} {a : Option β} {r : β} (h : (if p then a else none) = some r) : p ∧ a = some r := by
  split at h
  · exact ⟨‹_›, h⟩
  · cases h
end
end Go.Abs
end
section
namespace Go.Abs
open Go Go.RowKit
def Box (p : PV) (cs : List PV) (S : Sto) : Prop := ∃ i, p = .ptr i 0 ∧ Live S i ⟨cs, 0, false⟩
def PV.id? : PV → Option Id
  | .ptr i _ => some i
  | .loc i _ _ => some i
  | _ => none
def Ap (p q : PV) : Prop := ∀ i, p.id? = some i → q.id? ≠ some i
theorem Ap.symm {p q : PV} (h : Ap p q) : Ap q p := fun i h1 h2 => h i h2 h1
theorem Ap.nil {q : PV} {v : Value} : Ap (.lit v) q := fun i h => by cases h
structure Up (S S1 : Sto) (p : PV) : Prop where
  live : ∀ i o, Live S i o → p.id? ≠ some i → Live S1 i o
  gen : ∀ s, S.gen s ≤ S1.gen s
theorem Up.box {S S1 : Sto} {p q : PV} {cs : List PV} (u : Up S S1 p) (h : Box q cs S) (a : Ap q p) : Box q cs S1 := by
  obtain ⟨i, rfl, h⟩ := h
  exact ⟨i, rfl, u.live i _ h (a i rfl)⟩
theorem Up.vec {α : Type} {K : Cd α} {l : List α} {S S1 : Sto} {p v : PV} (u : Up S S1 p) (h : Vec K l v S) (a : Ap v p) : Vec K l v S1 := by
  rcases h with h | ⟨i, cs, rfl, h1, h2⟩
  · exact .inl h
  · exact .inr ⟨i, cs, rfl, u.live i _ h1 (a i rfl), h2⟩
def New (S : Sto) (p : PV) : Prop := ∀ i o, Live S i o → p.id? ≠ some i
theorem New.box {S : Sto} {p q : PV} {cs : List PV} (n : New S p) (h : Box q cs S) : Ap q p := by
  obtain ⟨i, rfl, h⟩ := h
  intro j hj
  obtain rfl := Option.some.inj hj
  exact n i _ h
theorem New.vec {α : Type} {K : Cd α} {l : List α} {S : Sto} {p v : PV} (n : New S p) (h : Vec K l v S) : Ap v p := by
  rcases h with ⟨rfl, _⟩ | ⟨i, cs, rfl, h1, h2⟩
  · exact .nil
  · intro j hj
    obtain rfl := Option.some.inj hj
    exact n i _ h1
theorem Up.add {S : Sto} {s : Nat} {o : Obj} (p : PV) : Up S (S.add s o) p :=
  ⟨fun i q h _ => h.add, fun t => by simp only [Sto.add]; split <;> first | (rename_i e; rw [e]; omega) | exact Nat.le_refl _⟩
theorem New.next {S : Sto} {s : Nat} {p : PV} (h : p.id? = some (S.next s)) : New S p := fun i o hl e => by
  rw [h] at e
  exact hl.ne_next (Option.some.inj e).symm
section
variable {P : Program} {f : FuncId} {os : Array Oper} {κ : Nat → Cls} {i : Nat} {o : Oper} {l : List Oper} {tm : Tm} {S : Sto} {K : Tm → Sto → Prop}
theorem Opl.alloc {e : TypeId} {ti : TI} (ht : tiOf P e = some ti) (hw : wantFn os tm o = some true) (ho : o.op = .alloc e) (hκ : κ i = .n)
    (n : ∀ d S1, Box (.ptr d 0) (ti.zero.map .lit) S1 → Up S S1 (.ptr d 0) → New S (.ptr d 0) → Opl P os κ (i + 1) l (tm.put o.dst (.ptr d 0)) S1 K) : Opl P os κ i (o :: l) tm S K := by
  refine Opl.one hw (by rw [hκ]; cases clsOf o.op <;> rfl) ?_ (n (S.next (o.dst.getD 0)) _ ⟨_, rfl, .new⟩ (.add _) (.next rfl))
  rw [ho]; simp only [opFn, ht]
theorem Opl.box {e : TypeId} {x : Operand} {cs : List PV} (hx : (tm.opnd x).cells = cs) (hw : wantFn os tm o = some true) (ho : o.op = .box e x) (hκ : κ i = .n)
    (n : ∀ d S1, Box (.ptr d 0) cs S1 → Up S S1 (.ptr d 0) → New S (.ptr d 0) → Opl P os κ (i + 1) l (tm.put o.dst (.ptr d 0)) S1 K) : Opl P os κ i (o :: l) tm S K := by
  refine Opl.one hw (by rw [hκ]; cases clsOf o.op <;> rfl) ?_ (n (S.next (o.dst.getD 0)) _ ⟨_, rfl, .new⟩ (.add _) (.next rfl))
  rw [ho]; simp only [opFn, hx]
theorem Opl.ldb {t : TypeId} {ti : TI} {x : Operand} {j : Id} {off : Nat} {cs : List PV} {v : PV} (hb : Box (.ptr j 0) cs S) (hx : tm.opnd x = .ptr j off) (ht : tiOf P t = some ti) (hv : ti.load (cs.drop off) = some v)
    (hw : wantFn os tm o = some true) (ho : o.op = .load t x) (hκ : Cls.le .r (κ i) = true) (n : Opl P os κ (i + 1) l (tm.put o.dst v) S K) : Opl P os κ i (o :: l) tm S K := by
  refine Opl.one hw (by rw [ho]; exact hκ) ?_ n
  obtain ⟨j', e, h⟩ := hb
  injection e with e1 e2; subst e1
  rw [ho]
  simp only [opFn, ht, hx, Sto.cellsOf, h.1, Option.map_some, hv, justV]
theorem Opl.stb {t : TypeId} {sz : Nat} {a x : Operand} {j : Id} {off : Nat} {cs vs : List PV} (hb : Box (.ptr j 0) cs S) (ha : tm.opnd a = .ptr j off) (hx : (tm.opnd x).cells = vs) (ht : szAt P t = some sz)
    (hl : vs.length = sz) (hfit : off + sz ≤ cs.length) (h1 : vs.all PV.one = true)
    (hw : wantFn os tm o = some true) (ho : o.op = .store t a x) (hκ : κ i = .n)
    (n : ∀ S1, Box (.ptr j 0) (putAt cs off vs) S1 → Up S S1 (.ptr j 0) → Opl P os κ (i + 1) l (tm.put o.dst .undef) S1 K) : Opl P os κ i (o :: l) tm S K := by
  obtain ⟨j', e, h⟩ := hb
  injection e with e1 e2; subst e1
  refine Opl.one hw (by rw [hκ]; cases clsOf o.op <;> rfl) ?_ (n (S.set j ⟨putAt cs off vs, 0, false⟩) ⟨j, rfl, h.set_same⟩ ⟨fun k q hk hne => hk.set (fun e => hne (by rw [e]; rfl)), fun _ => Nat.le_refl _⟩)
  rw [ho]
  simp only [opFn, ht, ha, storeFn, h.1, hx]
  rw [if_pos ⟨trivial, hl, hfit, h1⟩]
theorem Opl.idv {α : Type} {M : Cd α} {xs : List α} {t e : TypeId} {x ix : Operand} {j : Int} {k : IntKind} {v : PV} (hv : Vec M xs v S) (hx : tm.opnd x = v) (hj : tm.opnd ix = .lit (.int k j)) (h0 : 0 ≤ j) (h1 : j < (xs.length : Int))
    (hk : tkAt P t = some (.slice e)) (hz : szAt P e = some M.n) (hw : wantFn os tm o = some true) (ho : o.op = .indexAddr t x ix)
    (n : ∀ d cs, v = .loc d 0 xs.length → Live S d ⟨cs, M.n, false⟩ → Rows M xs cs → Opl P os κ (i + 1) l (tm.put o.dst (.ptr d (j.toNat * M.n))) S K) : Opl P os κ i (o :: l) tm S K := by
  rcases hv with ⟨rfl, rfl⟩ | ⟨d, cs, rfl, h2, h3⟩
  · simp at h1; omega
  · refine Opl.one hw (by rw [ho]; rfl) ?_ (n d cs rfl h2 h3)
    rw [ho]
    simp only [opFn, hk, hj, PV.int?, hz, hx, PV.len?]
    rw [if_pos ⟨h0, h1⟩]
    simp [PV.elem, justV]
theorem Rows.getD {α : Type} {M : Cd α} {xs : List α} {cs : List PV} (h : Rows M xs cs) (z : α) {j : Int} (h0 : 0 ≤ j) (h1 : j < (xs.length : Int)) : ∃ c r, cs.drop (j.toNat * M.n) = c ++ r ∧ M.R (xs.getD j.toNat z) c := by
  have hj : j.toNat < xs.length := by omega
  obtain ⟨c, r, h2, h3⟩ := h.get j.toNat hj
  exact ⟨c, r, h2, by simpa [List.getD_eq_getElem?_getD, hj] using h3⟩
theorem Opl.ldv {α : Type} {M : Cd α} {xs : List α} {t : TypeId} {ti : TI} {x : Operand} {j : Int} {d : Id} {cs : List PV} (z : α) (hl : Live S d ⟨cs, M.n, false⟩) (hr : Rows M xs cs) (h0 : 0 ≤ j) (h1 : j < (xs.length : Int))
    (hx : tm.opnd x = .ptr d (j.toNat * M.n)) (ht : tiOf P t = some ti) (hw : wantFn os tm o = some true) (ho : o.op = .load t x) (hκ : Cls.le .r (κ i) = true)
    (n : ∀ c r, M.R (xs.getD j.toNat z) c → ∃ v, ti.load (c ++ r) = some v ∧ Opl P os κ (i + 1) l (tm.put o.dst v) S K) : Opl P os κ i (o :: l) tm S K := by
  obtain ⟨c, r, h2, h3⟩ := hr.getD z h0 h1
  obtain ⟨v, h4, h5⟩ := n c r h3
  refine Opl.one hw (by rw [ho]; exact hκ) ?_ h5
  rw [ho]
  simp only [opFn, ht, hx, Sto.cellsOf, hl.1, Option.map_some, h2, h4, justV]
theorem Opl.stv {α : Type} {M : Cd α} {xs : List α} {t : TypeId} {a x : Operand} {j : Int} {d : Id} {cs vs : List PV} {y : α} (hl : Live S d ⟨cs, M.n, false⟩) (hr : Rows M xs cs) (h0 : 0 ≤ j) (h1 : j < (xs.length : Int))
    (ha : tm.opnd a = .ptr d (j.toNat * M.n)) (hx : (tm.opnd x).cells = vs) (hy : M.R y vs) (ht : szAt P t = some M.n) (h2 : vs.all PV.one = true)
    (hw : wantFn os tm o = some true) (ho : o.op = .store t a x) (hκ : κ i = .n)
    (n : ∀ S1, Vec M (xs.set j.toNat y) (.loc d 0 xs.length) S1 → Up S S1 (.loc d 0 xs.length) → Opl P os κ (i + 1) l (tm.put o.dst .undef) S1 K) : Opl P os κ i (o :: l) tm S K := by
  have hj : j.toNat < xs.length := by omega
  have hrs := hr.set j.toNat hj hy
  refine Opl.one hw (by rw [hκ]; cases clsOf o.op <;> rfl) ?_ (n (S.set d ⟨putAt cs (j.toNat * M.n) vs, M.n, false⟩) (.inr ⟨d, _, by simp, hl.set_same, hrs⟩)
    ⟨fun k q hk hne => hk.set (fun e => hne (by rw [e]; rfl)), fun _ => Nat.le_refl _⟩)
  rw [ho]
  have hlen := hr.length
  have hfit : j.toNat * M.n + M.n ≤ cs.length := by
    rw [hlen, ← Nat.succ_mul]
    exact Nat.mul_le_mul_right _ hj
  simp only [opFn, ht, ha, storeFn, hl.1, hx]
  rw [if_pos ⟨trivial, M.len hy, hfit, h2⟩]
theorem Opl.make {α : Type} {M : Cd α} {t e : TypeId} {te : TI} {x y : Operand} {m : Int} {k k' : IntKind} (z : α) (hz : M.R z (te.zero.map .lit)) (hx : tm.opnd x = .lit (.int k m)) (hy : tm.opnd y = .lit (.int k' m))
    (hk : tkAt P t = some (.slice e)) (ht : tiOf P e = some te) (hs : te.size = M.n) (h0 : 0 ≤ m) (h1 : m.toNat * te.bytes ≤ 281474976710656) (h2 : m ≤ 281474976710656) (hw : wantFn os tm o = some true) (ho : o.op = .makeSlice t x y) (hκ : κ i = .n)
    (n : ∀ v S1, Vec M (List.replicate m.toNat z) v S1 → Up S S1 v → New S v → Opl P os κ (i + 1) l (tm.put o.dst v) S1 K) : Opl P os κ i (o :: l) tm S K := by
  have hzl : te.zero.length = te.size := by have := M.len hz; simp at this; omega
  have hv : Vec M (List.replicate m.toNat z) (.loc (S.next (o.dst.getD 0)) 0 m.toNat) (S.add (o.dst.getD 0) ⟨repL m.toNat (te.zero.map .lit), te.size, false⟩) :=
    .inr ⟨S.next (o.dst.getD 0), repL m.toNat (te.zero.map .lit), by simp, by rw [← hs]; exact .new, Rows.rep hz m.toNat⟩
  refine Opl.one hw (by rw [hκ]; cases clsOf o.op <;> rfl) ?_ (n (.loc (S.next (o.dst.getD 0)) 0 m.toNat) _ hv (.add _) (.next rfl))
  rw [ho]
  simp only [opFn, hk, hx, hy, ht]
  rw [if_pos ⟨h0, Int.le_refl _, by unfold maxMake; omega, by unfold maxMake; exact h1, hzl⟩]
theorem Opl.make0 {α : Type} {M : Cd α} {t e : TypeId} {te : TI} {x y : Operand} {m : Int} {k k' : IntKind} (hx : tm.opnd x = .lit (.int k 0)) (hy : tm.opnd y = .lit (.int k' m))
    (hk : tkAt P t = some (.slice e)) (ht : tiOf P e = some te) (hs : te.size = M.n) (hzl : te.zero.length = te.size) (h0 : 0 ≤ m) (h1 : m.toNat * te.bytes ≤ 281474976710656) (h2 : m ≤ 281474976710656) (hw : wantFn os tm o = some true) (ho : o.op = .makeSlice t x y) (hκ : κ i = .n)
    (n : ∀ v S1, Vec M [] v S1 → Up S S1 v → New S v → Opl P os κ (i + 1) l (tm.put o.dst v) S1 K) : Opl P os κ i (o :: l) tm S K := by
  have hv : Vec M [] (.loc (S.next (o.dst.getD 0)) 0 0) (S.add (o.dst.getD 0) ⟨repL (Int.toNat 0) (te.zero.map .lit), te.size, false⟩) :=
    .inr ⟨S.next (o.dst.getD 0), repL (Int.toNat 0) (te.zero.map .lit), rfl, by rw [← hs]; exact .new, rfl⟩
  refine Opl.one hw (by rw [hκ]; cases clsOf o.op <;> rfl) ?_ (n (.loc (S.next (o.dst.getD 0)) 0 0) _ hv (.add _) (.next rfl))
  rw [ho]
  simp only [opFn, hk, hx, hy, ht]
  rw [if_pos ⟨Int.le_refl _, h0, by unfold maxMake; omega, by unfold maxMake; exact h1, hzl⟩]
  rfl
end
theorem Evr.frz {P : Program} {f : FuncId} {k : List Item} {tm : Tm} {S : Sto} {R : PV → Sto → Prop} {α : Type} {M : Cd α} {xs : List α} {v : PV} (t : Tmp) (hv : Vec M xs v S) (ht : tm t = v)
    (n : ∀ q S1, Sl M xs q → Up S S1 v → Evr P f k (tm.put (some t) q) S1 R) : Evr P f k tm S R := by
  rcases hv with ⟨rfl, rfl⟩ | ⟨i, cs, rfl, h1, h2⟩
  · obtain ⟨w, S', g1, g2⟩ := n _ S .nil ⟨fun _ _ h _ => h, fun _ => Nat.le_refl _⟩
    refine ⟨w, S', ?_, g2⟩
    have : tm.put (some t) (.lit (.slice none 0 0)) = tm := by
      funext u
      simp only [Tm.put]
      split
      · rename_i e; rw [e, ht]
      · rfl
    rw [this] at g1; exact g1
  · obtain ⟨w, S', g1, g2⟩ := n (.sl cs xs.length) (S.set i ⟨cs, M.n, true⟩) (.rows h2) ⟨fun k q hk hne => hk.set (fun e => hne (by rw [e]; rfl)), fun _ => Nat.le_refl _⟩
    refine ⟨w, S', .freeze i h1.1 (.see t (q := .sl cs xs.length) ?_ g1), g2⟩
    rw [ht]
    have hl := h2.length
    have e : ((cs.drop 0).take (xs.length * M.n)) = cs := by rw [List.drop_zero, ← hl, List.take_length]
    refine .loc (o := ⟨cs, M.n, true⟩) (by rw [obj_set, if_pos rfl]) (fun _ => rfl) (by rw [e]) (fun j c d e1 e2 => ?_)
    rw [e] at e1
    rw [e1] at e2
    obtain rfl := Option.some.inj e2
    exact .refl c
theorem Evr.retb {P : Program} {f : FuncId} {k : List Item} {tm : Tm} {S : Sto} {R : PV → Sto → Prop} {fn : Func} {a : Tmp} {t : TypeId} {ti : TI} {j : Id} {cs : List PV} {v : PV} (h1 : P.funcs[f]? = some fn) (h2 : fn.results.toList = [.cell a t])
    (hb : Box (.ptr j 0) cs S) (hx : tm a = .ptr j 0) (ht : tiOf P t = some ti) (hv : ti.load cs = some v) (hr : R v S) : Evr P f (.code .ret :: k) tm S R := by
  refine .ret (v := v) ?_ hr
  obtain ⟨j', e, h⟩ := hb
  injection e with e1 e2; subst e1
  simp only [resOf, h1, h2, resL, resFn, ht, hx, Sto.cellsOf, h.1, Option.map_some, List.drop_zero, hv]
end Go.Abs
end
section
namespace Go.Abs
open Go Go.RowKit
def PL : List PV → Prop
  | [] => True
  | p :: ps => Plain p ∧ PL ps
theorem PL.all : ∀ {ps : List PV}, PL ps → ∀ p ∈ ps, Plain p
  | _ :: _, ⟨h, _⟩, _, hp => by
    rcases List.mem_cons.1 hp with rfl | hp
    · exact h
    · exact PL.all (by assumption) _ hp
theorem Plain.aggL {cs : List PV} (h : PL cs) : Plain (.agg cs) := .agg h.all
theorem Plain.tupL {cs : List PV} (h : PL cs) : Plain (.tup cs) := .tup h.all
theorem Plain.felL {cs : List PV} (h : PL cs) : Plain (.fel cs) := .fel h.all
def Row {α : Type} (K : Cd α) (l : List α) (v : PV) (S : Sto) : Prop := ∃ ds, S.rowOf K.n v = some ds ∧ Rows K l ds ∧ v.len? = some l.length
section
variable {α : Type} {M : Cd α}
theorem Row.sl {l : List α} {v : PV} {S : Sto} (h : Sl M l v) : Row M l v S := by
  obtain ⟨ds, h1, h2⟩ := h.row S
  exact ⟨ds, h1, h2, h.len⟩
theorem Row.vec {l : List α} {v : PV} {S : Sto} (h : Vec M l v S) : Row M l v S := by
  rcases h with ⟨rfl, rfl⟩ | ⟨i, cs, rfl, h1, h2⟩
  · exact ⟨[], rfl, rfl, rfl⟩
  · refine ⟨cs, ?_, h2, rfl⟩
    have := h2.length
    simp only [Sto.rowOf, h1.1, Nat.zero_add, List.drop_zero]
    rw [if_pos (by omega), List.take_of_length_le (by omega)]
theorem Vec.len {l : List α} {v : PV} {S : Sto} (h : Vec M l v S) : v.len? = some l.length := by
  rcases h with ⟨rfl, rfl⟩ | ⟨i, cs, rfl, h1, h2⟩ <;> rfl
theorem Vec.nil {S : Sto} : Vec M [] (.lit (.slice none 0 0)) S := .inl ⟨rfl, rfl⟩
def Cd.Ones (M : Cd α) : Prop := ∀ a c, M.R a c → ∀ p ∈ c, p.one = true
theorem Rows.ones (h1 : M.Ones) : ∀ {l : List α} {cs : List PV}, Rows M l cs → ∀ p ∈ cs, p.one = true
  | [], cs, h, p, hp => by rw [show cs = [] from h] at hp; cases hp
  | a :: l, cs, ⟨c, r, e, h2, h3⟩, p, hp => by
    rw [e, List.mem_append] at hp
    exact hp.elim (h1 a c h2 p) (Rows.ones h1 h3 p)
end
theorem oInt (k : IntKind) : (cInt k).Ones := fun a c h p hp => by rw [show c = _ from h] at hp; obtain rfl := List.mem_singleton.1 hp; rfl
theorem fill_row {es : Nat} : ∀ (xs : List PV) (pre rest : List PV) (k : Nat), (∀ x ∈ xs, x.cells.length = es) → pre.length = k * es → rest.length = xs.length * es →
    fillL (fun i => some (i * es, es)) (pre ++ rest) ((xs.zipIdx k).map fun x => (x.2, x.1)) = some (pre ++ (xs.map PV.cells).flatten)
  | [], pre, rest, k, _, _, h3 => by
    have : rest = [] := List.eq_nil_of_length_eq_zero (by simpa using h3)
    simp [fillL, this]
  | x :: xs, pre, rest, k, h1, h2, h3 => by
    have hx := h1 x (by simp)
    have hr : es ≤ rest.length := by rw [h3, List.length_cons, Nat.add_mul]; omega
    simp only [List.zipIdx_cons, List.map_cons, fillL]
    rw [if_neg (by simp [hx, h2]; omega)]
    have hput : putAt (pre ++ rest) (k * es) x.cells = (pre ++ x.cells) ++ rest.drop es := by
      unfold putAt
      rw [← h2, List.take_left', List.drop_append, hx]
      · simp [List.drop_eq_nil_of_le]
      · rfl
    rw [hput, fill_row xs (pre ++ x.cells) (rest.drop es) (k + 1) (fun y hy => h1 y (by simp [hy])) (by simp [h2, hx, Nat.add_mul]) (by simp [h3, Nat.add_mul])]
    simp
def RowsL {α : Type} (M : Cd α) : List α → List PV → Prop
  | [], [] => True
  | a :: l, x :: xs => M.R a x.cells ∧ RowsL M l xs
  | _, _ => False
theorem RowsL.rows {α : Type} {M : Cd α} : ∀ {l : List α} {xs : List PV}, RowsL M l xs → Rows M l (xs.map PV.cells).flatten ∧ xs.length = l.length ∧ ∀ x ∈ xs, x.cells.length = M.n
  | [], [], _ => ⟨rfl, rfl, by simp⟩
  | a :: l, x :: xs, ⟨h1, h2⟩ => by
    obtain ⟨g1, g2, g3⟩ := RowsL.rows h2
    refine ⟨⟨x.cells, _, by simp, h1, g1⟩, by simp [g2], fun y hy => ?_⟩
    rcases List.mem_cons.1 hy with rfl | hy
    · exact M.len h1
    · exact g3 y hy
  | [], _ :: _, h => h.elim
  | _ :: _, [], h => h.elim
section
variable {P : Program} {f : FuncId} {os : Array Oper} {κ : Nat → Cls} {i : Nat} {o : Oper} {l : List Oper} {tm : Tm} {S : Sto} {K : Tm → Sto → Prop}
theorem Opl.lits {α : Type} {M : Cd α} {ys : List α} {t e : TypeId} {te : TI} {len : Nat} {parts : Array (Nat × Operand)} (xs : List Operand) (hk : tkAt P t = some (.slice e)) (ht : tiOf P e = some te) (hs : te.size = M.n) (hzl : te.zero.length = te.size)
    (hp : parts.toList = (xs.zipIdx.map fun x => (x.2, x.1))) (hy : RowsL M ys (xs.map tm.opnd)) (hlen : len = xs.length) (hbig : len * te.size ≤ 16777216)
    (hw : wantFn os tm o = some true) (ho : o.op = .buildSlice t len parts) (hκ : κ i = .n)
    (n : ∀ v S1, Vec M ys v S1 → Up S S1 v → New S v → Opl P os κ (i + 1) l (tm.put o.dst v) S1 K) : Opl P os κ i (o :: l) tm S K := by
  obtain ⟨g1, g2, g3⟩ := hy.rows
  have hl : len = ys.length := by rw [hlen, ← g2]; simp
  have hv : Vec M ys (.loc (S.next (o.dst.getD 0)) 0 len) (S.add (o.dst.getD 0) ⟨((xs.map tm.opnd).map PV.cells).flatten, te.size, false⟩) :=
    .inr ⟨S.next (o.dst.getD 0), _, by rw [hl], by rw [← hs]; exact .new, g1⟩
  refine Opl.one hw (by rw [hκ]; cases clsOf o.op <;> rfl) ?_ (n _ _ hv (.add _) (.next rfl))
  rw [ho]
  simp only [opFn, hk, ht]
  rw [if_pos ⟨hbig, hzl⟩]
  have hpp : (parts.toList.map fun (x : Nat × Operand) => (x.1, tm.opnd x.2)) = ((xs.map tm.opnd).zipIdx 0).map fun x => (x.2, x.1) := by
    rw [hp, List.zipIdx_map, List.map_map, List.map_map]
    rfl
  have := fill_row (es := te.size) (xs.map tm.opnd) [] (repL len (te.zero.map .lit)) 0 (by rw [hs]; exact g3) (by simp) (by rw [repL_length, List.length_map, hzl, g2, hl])
  rw [List.nil_append, List.nil_append] at this
  show Option.map _ (fillL _ _ (parts.toList.map fun (x : Nat × Operand) => (x.1, tm.opnd x.2))) = _
  rw [hpp, this]
  rfl
theorem Opl.app {α : Type} {M : Cd α} {xs ys : List α} {t e : TypeId} {te : TI} {x y : Operand} {v u : PV} {aw : Array Operand} {ts : Array TypeId} (hv : Vec M xs v S) (hu : Row M ys u S) (h1 : M.Ones) (hx : tm.opnd x = v) (hy : tm.opnd y = u)
    (hk : tkAt P t = some (.slice e)) (ht : tiOf P e = some te) (hs : te.size = M.n) (hzl : te.zero.length = te.size) (hb1 : xs.length + ys.length ≤ 140737488355328) (hb2 : (xs.length + ys.length) * te.bytes ≤ 140737488355328)
    (hw : wantFn os tm o = some true) (ho : o.op = .call ⟨.builtin .append, aw, ts⟩) (ha : aw.toList = [x, y]) (hts : ts.toList = [t, t]) (hκ : κ i = .n)
    (n : ∀ v' S1, Vec M (xs ++ ys) v' S1 → Up S S1 v → New S v' → Opl P os κ (i + 1) l (tm.put o.dst v') S1 K) : Opl P os κ i (o :: l) tm S K := by
  obtain ⟨ds, hd1, hd2, hd3⟩ := hu
  have hall : ds.all PV.one = true := by simpa using hd2.ones h1
  rw [← hs] at hd1
  have hop : ∀ r, appendFn P (o.dst.getD 0) S t v u = r → opFn P (o.dst.getD 0) tm.opnd S o.op = r := fun r hr => by
    rw [ho]
    simp only [opFn, builtinFn, ha, hts, List.map_cons, List.map_nil, if_true, hx, hy]
    exact hr
  have hκ' : (clsOf o.op).le (κ i) = true := by rw [hκ]; cases clsOf o.op <;> rfl
  rcases hv with ⟨rfl, rfl⟩ | ⟨d, cs, rfl, h2, h3⟩
  · by_cases hm : ys.length = 0
    · have hys : ys = [] := List.eq_nil_of_length_eq_zero hm
      subst hys
      refine Opl.one hw hκ' (hop (some (.lit (.slice none 0 0), S)) ?_) (n _ S .nil ⟨fun _ _ h _ => h, fun _ => Nat.le_refl _⟩ (fun i o h e => by cases e))
      simp only [appendFn, hk, ht, hd3, hd1, hall, hzl, true_and, if_true, List.length_nil]
    · refine Opl.one hw hκ' (hop (some (.loc (S.next (o.dst.getD 0)) 0 ys.length, S.add (o.dst.getD 0) ⟨ds, te.size, false⟩)) ?_)
        (n (.loc (S.next (o.dst.getD 0)) 0 ys.length) _ (.inr ⟨S.next (o.dst.getD 0), ds, by simp, by rw [← hs]; exact .new, by simpa using hd2⟩) (.add _) (.next rfl))
      simp only [appendFn, hk, ht, hd3, hd1, hall, hzl, true_and, if_true, hm, if_false]
      rw [if_pos]
      simp only [List.length_nil, Nat.zero_add] at hb1 hb2
      exact ⟨hb1, hb2⟩
  · have hcl := h3.length
    refine Opl.one hw hκ' (hop (some (.loc (S.next (o.dst.getD 0)) 0 (xs.length + ys.length), (S.del d).add (o.dst.getD 0) ⟨cs ++ ds, te.size, false⟩)) ?_)
      (n (.loc (S.next (o.dst.getD 0)) 0 (xs.length + ys.length)) _ (.inr ⟨S.next (o.dst.getD 0), cs ++ ds, by simp, ?_, h3.append hd2⟩) ⟨fun k q hk hne => (hk.del (fun e => hne (by rw [e]; rfl))).add, (Up.add (S := S.del d) .undef).gen⟩ (.next rfl))
    · simp only [appendFn, hk, ht, hd3, hd1, hall, hzl, true_and, if_true, h2.1]
      rw [if_pos ⟨hs.symm, by rw [hcl, hs, Nat.zero_add], hb1, hb2⟩]
      rfl
    · rw [← hs]; exact Live.new (S := S.del d)
theorem Opl.call {g : FuncId} {x : Operand} {cs : List PV} {aw : Array Operand} {ts : Array TypeId} {ps : List PV} {R : PV → Prop} (h : Ret P g ps (Out R)) (hw : wantFn os tm o = some true) (ho : o.op = .call ⟨.value x, aw, ts⟩)
    (hc : calleeOf (tm.opnd x) = some (g, cs)) (hp : aw.toList.map tm.opnd ++ cs = ps) (hpl : PL ps) (hκ : (κ i).rn = true) (n : ∀ q, R q → Opl P os κ (i + 1) l (tm.put o.dst q) S K) : Opl P os κ i (o :: l) tm S K := by
  obtain ⟨r, S', h1, q, h2, h3, h4⟩ := h
  refine Opl.cons (.callP hw hκ ho (f := g) (cs := cs) hc ⟨by rw [hp], fun j c d e1 e2 => ?_⟩ hpl.all h1 h2 h3) (n q h4)
  rw [hp] at e1
  rw [e1] at e2
  obtain rfl := Option.some.inj e2
  exact .refl c
theorem Opl.callc {g : FuncId} {x : Operand} {cs : List PV} {aw : Array Operand} {ts : Array TypeId} {ps : List PV} {c : Value} (h : Ret P g ps fun v _ => v = .lit c) (hw : wantFn os tm o = some true) (ho : o.op = .call ⟨.value x, aw, ts⟩)
    (hc : calleeOf (tm.opnd x) = some (g, cs)) (hp : aw.toList.map tm.opnd ++ cs = ps) (hpl : PL ps) (hκ : (κ i).rn = true) (n : Opl P os κ (i + 1) l (tm.put o.dst (.lit c)) S K) : Opl P os κ i (o :: l) tm S K :=
  Opl.call (R := fun q => q = .lit c) (let ⟨r, S', h1, h2⟩ := h; ⟨r, S', h1, r, .refl r, h2 ▸ .lit c, h2⟩) hw ho hc hp hpl hκ (fun _ hq => hq ▸ n)
theorem Opl.callw {g : FuncId} {x : Operand} {cs : List PV} {aw : Array Operand} {ts : Array TypeId} {ps : List PV} {c : Value} (h : Ret P g ps fun v _ => v = .lit c) (hw : wantFn os tm o = some true) (ho : o.op = .call ⟨.value x, aw, ts⟩)
    (hc : calleeOf (tm.opnd x) = some (g, cs)) (hp : ViewL S false (aw.toList.map tm.opnd ++ cs) ps) (hpl : PL ps) (hκ : (κ i).rn = true) (n : Opl P os κ (i + 1) l (tm.put o.dst (.lit c)) S K) : Opl P os κ i (o :: l) tm S K := by
  obtain ⟨r, S', h1, rfl⟩ := h
  exact Opl.cons (.callB hw hκ ho (f := g) (cs := cs) hc hp hpl.all h1 (.lit c)) n
theorem Opl.calla {α : Type} {M : Cd α} {xs : List α} {g : FuncId} {x : Operand} {cs : List PV} {aw : Array Operand} {ts : Array TypeId} {ps : List PV} (h : Ret P g ps fun v S => Vec M xs v S) (hw : wantFn os tm o = some true) (ho : o.op = .call ⟨.value x, aw, ts⟩)
    (hc : calleeOf (tm.opnd x) = some (g, cs)) (hp : aw.toList.map tm.opnd ++ cs = ps) (hpl : PL ps) (hκ : κ i = .n) (n : ∀ v S1, Vec M xs v S1 → Up S S1 v → New S v → Opl P os κ (i + 1) l (tm.put o.dst v) S1 K) : Opl P os κ i (o :: l) tm S K := by
  have hview : ViewL S true (aw.toList.map tm.opnd ++ cs) ps := ⟨by rw [hp], fun j c d e1 e2 => by
    rw [hp] at e1
    rw [e1] at e2
    obtain rfl := Option.some.inj e2
    exact .refl c⟩
  obtain ⟨r, S', h1, h2⟩ := h
  rcases h2 with ⟨rfl, rfl⟩ | ⟨d, ds, rfl, h3, h4⟩
  · exact Opl.cons (.callP hw (by rw [hκ]; decide) ho (f := g) (cs := cs) hc hview hpl.all h1 (.refl _) (.lit _)) (n _ S .nil ⟨fun _ _ h _ => h, fun _ => Nat.le_refl _⟩ (fun i o h e => by cases e))
  · refine Opl.cons (.callA (z := true) (ds := ds) hw hκ ho (f := g) (cs := cs) hc hview hpl.all h1 h3.1 rfl (Nat.zero_le _) ⟨by rw [List.drop_zero], fun j c d e1 e2 => ?_⟩ h4.plain (fun h => by cases h))
      (n _ _ (.inr ⟨S.next (o.dst.getD 0), ds, rfl, .new, h4⟩) (.add _) (.next rfl))
    rw [List.drop_zero] at e1
    rw [e1] at e2
    obtain rfl := Option.some.inj e2
    exact .refl c
end
theorem ViewL.nil {S : Sto} {z : Bool} : ViewL S z [] [] := ⟨rfl, fun j c d e => by simp at e⟩
theorem ViewL.cons {S : Sto} {z : Bool} {a b : PV} {cs ds : List PV} (h : View S z a b) (t : ViewL S z cs ds) : ViewL S z (a :: cs) (b :: ds) :=
  ⟨by simp [t.1], fun j c d e1 e2 => match j, e1, e2 with
    | 0, e1, e2 => by simp at e1 e2; subst e1 e2; exact h
    | j + 1, e1, e2 => t.2 j c d (by simpa using e1) (by simpa using e2)⟩
theorem Plain.fnL {f : FuncId} {cs : List PV} (h : PL cs) : Plain (.fn f cs) := .fn f h.all
theorem Out.lit {c : Value} {S : Sto} : Out (fun q => q = .lit c) (.lit c) S := ⟨_, .refl _, .lit _, rfl⟩
theorem pw2 {R : PV → PV → Prop} {a b c d : PV} (h1 : R a c) (h2 : R b d) : ∀ (j : Nat) x y, [a, b][j]? = some x → [c, d][j]? = some y → R x y
  | 0, x, y, e1, e2 => by simp at e1 e2; subst e1 e2; exact h1
  | 1, x, y, e1, e2 => by simp at e1 e2; subst e1 e2; exact h2
  | j + 2, x, y, e1, _ => by simp at e1
theorem pw3 {R : PV → PV → Prop} {a b e c d f : PV} (h1 : R a c) (h2 : R b d) (h3 : R e f) : ∀ (j : Nat) x y, [a, b, e][j]? = some x → [c, d, f][j]? = some y → R x y
  | 0, x, y, e1, e2 => by simp at e1 e2; subst e1 e2; exact h1
  | 1, x, y, e1, e2 => by simp at e1 e2; subst e1 e2; exact h2
  | 2, x, y, e1, e2 => by simp at e1 e2; subst e1 e2; exact h3
  | j + 3, x, y, e1, _ => by simp at e1
theorem Out.tup3 {R1 R2 R3 : PV → Prop} {a b e : PV} {S : Sto} (h1 : Out R1 a S) (h2 : Out R2 b S) (h3 : Out R3 e S) : Out (fun q => ∃ q1 q2 q3, q = .tup [q1, q2, q3] ∧ R1 q1 ∧ R2 q2 ∧ R3 q3) (.tup [a, b, e]) S := by
  obtain ⟨c, v1, p1, r1⟩ := h1
  obtain ⟨d, v2, p2, r2⟩ := h2
  obtain ⟨f, v3, p3, r3⟩ := h3
  exact ⟨.tup [c, d, f], .tup rfl (pw3 v1 v2 v3), .tupL ⟨p1, p2, p3, trivial⟩, c, d, f, rfl, r1, r2, r3⟩
theorem Out.agg2 {R1 R2 : PV → Prop} {a b : PV} {S : Sto} (h1 : Out R1 a S) (h2 : Out R2 b S) : Out (fun q => ∃ q1 q2, q = .agg [q1, q2] ∧ R1 q1 ∧ R2 q2) (.agg [a, b]) S := by
  obtain ⟨c, v1, p1, r1⟩ := h1
  obtain ⟨d, v2, p2, r2⟩ := h2
  exact ⟨.agg [c, d], .agg rfl (pw2 v1 v2), .aggL ⟨p1, p2, trivial⟩, c, d, rfl, r1, r2⟩
theorem Out.agg3 {R1 R2 R3 : PV → Prop} {a b e : PV} {S : Sto} (h1 : Out R1 a S) (h2 : Out R2 b S) (h3 : Out R3 e S) : Out (fun q => ∃ q1 q2 q3, q = .agg [q1, q2, q3] ∧ R1 q1 ∧ R2 q2 ∧ R3 q3) (.agg [a, b, e]) S := by
  obtain ⟨c, v1, p1, r1⟩ := h1
  obtain ⟨d, v2, p2, r2⟩ := h2
  obtain ⟨f, v3, p3, r3⟩ := h3
  exact ⟨.agg [c, d, f], .agg rfl (pw3 v1 v2 v3), .aggL ⟨p1, p2, p3, trivial⟩, c, d, f, rfl, r1, r2, r3⟩
theorem pw4 {R : PV → PV → Prop} {a b e g c d f h : PV} (h1 : R a c) (h2 : R b d) (h3 : R e f) (h4 : R g h) : ∀ (j : Nat) x y, [a, b, e, g][j]? = some x → [c, d, f, h][j]? = some y → R x y
  | 0, x, y, e1, e2 => by simp at e1 e2; subst e1 e2; exact h1
  | 1, x, y, e1, e2 => by simp at e1 e2; subst e1 e2; exact h2
  | 2, x, y, e1, e2 => by simp at e1 e2; subst e1 e2; exact h3
  | 3, x, y, e1, e2 => by simp at e1 e2; subst e1 e2; exact h4
  | j + 4, x, y, e1, _ => by simp at e1
theorem Out.agg4 {R1 R2 R3 R4 : PV → Prop} {a b e g : PV} {S : Sto} (h1 : Out R1 a S) (h2 : Out R2 b S) (h3 : Out R3 e S) (h4 : Out R4 g S) : Out (fun q => ∃ q1 q2 q3 q4, q = .agg [q1, q2, q3, q4] ∧ R1 q1 ∧ R2 q2 ∧ R3 q3 ∧ R4 q4) (.agg [a, b, e, g]) S := by
  obtain ⟨c, v1, p1, r1⟩ := h1
  obtain ⟨d, v2, p2, r2⟩ := h2
  obtain ⟨f, v3, p3, r3⟩ := h3
  obtain ⟨h, v4, p4, r4⟩ := h4
  exact ⟨.agg [c, d, f, h], .agg rfl (pw4 v1 v2 v3 v4), .aggL ⟨p1, p2, p3, p4, trivial⟩, c, d, f, h, rfl, r1, r2, r3, r4⟩
theorem Out.plain {R : PV → Prop} {v : PV} {S : Sto} (hp : Plain v) (hr : R v) : Out R v S := ⟨v, .refl v, hp, hr⟩
theorem Opl.cut {P : Program} {os : Array Oper} {κ : Nat → Cls} {i : Nat} {l : List Oper} {tm : Tm} {S : Sto} {K : Tm → Sto → Prop} (J : Tm → Sto → Prop) (h : Opl P os κ i l tm S J) (n : ∀ tm S, J tm S → K tm S) : Opl P os κ i l tm S K :=
  fun hd => let ⟨tm1, S1, h1, h2⟩ := h hd; ⟨tm1, S1, h1, n _ _ h2⟩
theorem Ret.mono {P : Program} {f : FuncId} {ps : List PV} {R R' : PV → Sto → Prop} (h : Ret P f ps R) (n : ∀ v S, R v S → R' v S) : Ret P f ps R' :=
  let ⟨r, S, h1, h2⟩ := h; ⟨r, S, h1, n r S h2⟩
end Go.Abs
end
section
namespace Go.Abs
open Go Go.RowKit
section
variable {P : Program} {f : FuncId} {os : Array Oper} {κ : Nat → Cls} {i : Nat} {o : Oper} {l : List Oper} {tm : Tm} {S S1 : Sto} {K : Tm → Sto → Prop}
theorem Out.vecn {α : Type} {K : Cd α} {l : List α} {v : PV} {S : Sto} (h : Vec K l v S ∧ (l = [] → v = .lit (.slice none 0 0))) : Out (fun q => Sl K l q ∧ (l = [] → q = .lit (.slice none 0 0))) v S := by
  obtain ⟨h, hn⟩ := h
  rcases h with ⟨rfl, rfl⟩ | ⟨i, cs, rfl, h1, h2⟩
  · exact ⟨_, .refl _, .lit _, .nil, fun _ => rfl⟩
  · exact ⟨.sl cs l.length, View.row h1.1 (fun h => by cases h) h2.length, .sl _ h2.plain, .rows h2, fun e => by cases hn e⟩
theorem Opl.copy {α : Type} {M : Cd α} {xs ys : List α} {t e : TypeId} {x y : Operand} {v : PV} {aw : Array Operand} {ts : Array TypeId} (hv : Vec M xs v S) (hs : Sl M ys (tm.opnd y)) (h1 : M.Ones) (hx : tm.opnd x = v)
    (hl : ys.length = xs.length) (h0 : 0 < xs.length) (hk : tkAt P t = some (.slice e)) (hz : szAt P e = some M.n)
    (hw : wantFn os tm o = some true) (ho : o.op = .call ⟨.builtin .copy, aw, ts⟩) (ha : aw.toList = [x, y]) (hts : ts.toList = [t, t]) (hκ : κ i = .n)
    (n : ∀ S1, Vec M ys v S1 → Up S S1 v → Opl P os κ (i + 1) l (tm.put o.dst (.lit (.int .i64 (xs.length : Nat)))) S1 K) : Opl P os κ i (o :: l) tm S K := by
  rcases hv with ⟨rfl, rfl⟩ | ⟨d, cs, rfl, h2, h3⟩
  · cases h0
  obtain ⟨ds, hd1, hd2⟩ := hs.row S
  have hall : ds.all PV.one = true := by simpa using hd2.ones h1
  have hcl := h3.length
  have hdl := hd2.length
  have hput : putAt cs 0 (ds.take (min ys.length xs.length * M.n)) = ds := by
    have e1 : min ys.length xs.length * M.n = ds.length := by rw [hdl, hl, Nat.min_self]
    have e2 : cs.length = ds.length := by rw [hcl, hdl, hl]
    rw [e1, List.take_length]; simp [putAt, ← e2]
  refine Opl.one hw (by rw [hκ]; cases clsOf o.op <;> rfl) (S1 := S.set d ⟨ds, M.n, false⟩) ?_ (n _ (.inr ⟨d, ds, by rw [hl], h2.set_same, hd2⟩)
    ⟨fun k q hk hne => hk.set (fun e => hne (by rw [e]; rfl)), fun _ => Nat.le_refl _⟩)
  rw [ho]
  simp only [opFn, builtinFn, ha, hts, List.map_cons, List.map_nil, if_true, hx, copyFn, hk, hz, hs.len, h2.1, hd1]
  rw [if_pos ⟨trivial, hall, by rw [hcl, Nat.zero_add]; exact Nat.le_refl _⟩, hput, hl, Nat.min_self]
theorem Opl.eqnil {t : TypeId} {e : TypeId} {x : Operand} {rt : TypeId} (hv : tm.opnd x = .lit (.slice none 0 0)) (hk : tkAt P t = some (.slice e)) (hw : wantFn os tm o = some true)
    (ho : o.op = .binOp .eql t x (.const (.slice none 0 0)) rt) (n : Opl P os κ (i + 1) l (tm.put o.dst (.lit (.bool true))) S K) : Opl P os κ i (o :: l) tm S K := by
  refine Opl.one hw (by rw [ho]; rfl) ?_ n
  rw [ho]
  simp only [opFn, Tm.opnd, binFn, nilEq, hk, PV.nil?] at hv ⊢
  rw [hv]
  rfl
theorem Opl.eqsome {α : Type} {M : Cd α} {xs : List α} {t : TypeId} {e : TypeId} {x : Operand} {rt : TypeId} (hv : Sl M xs (tm.opnd x)) (hne : ¬ xs = []) (hk : tkAt P t = some (.slice e)) (hw : wantFn os tm o = some true)
    (ho : o.op = .binOp .eql t x (.const (.slice none 0 0)) rt) (n : Opl P os κ (i + 1) l (tm.put o.dst (.lit (.bool false))) S K) : Opl P os κ i (o :: l) tm S K := by
  refine Opl.one hw (by rw [ho]; rfl) ?_ n
  rw [ho]
  rcases hv with ⟨_, h⟩ | ⟨cs, h, _⟩
  · exact absurd h hne
  simp only [opFn, Tm.opnd, binFn, nilEq, hk, PV.nil?] at h ⊢
  rw [h]
  rfl
end
end Go.Abs
end
section
namespace Go.Abs
open Go Go.RowKit
def Apt (a b : List Id) : Prop := ∀ i ∈ a, i ∉ b
theorem Apt.symm {a b : List Id} (h : Apt a b) : Apt b a := fun i h1 h2 => h i h2 h1
theorem Apt.nil {a : List Id} : Apt [] a := fun _ h => by cases h
def Kept (S S1 : Sto) (ids : List Id) : Prop := ∀ i ∈ ids, ∀ o, Live S i o → Live S1 i o
theorem Kept.sub {S S1 : Sto} {a b : List Id} (h : Kept S S1 b) (hs : ∀ i ∈ a, i ∈ b) : Kept S S1 a := fun i hi => h i (hs i hi)
structure Od (α : Type) where
  n : Nat
  cd : Cd α
  R : Sto → List Id → α → List PV → Prop
  len : ∀ {S ids a c}, R S ids a c → c.length = n
  ones : ∀ {S ids a c}, R S ids a c → ∀ p ∈ c, p.one = true
  live : ∀ {S ids a c}, R S ids a c → ∀ i ∈ ids, ∃ o, Live S i o ∧ o.frz = false
  up : ∀ {S S1 ids a c}, R S ids a c → Kept S S1 ids → R S1 ids a c
  view : ∀ {S ids a c}, R S ids a c → ∃ d, ViewL S false c d ∧ cd.R a d
  hn : cd.n = n
theorem ViewL.refl {S : Sto} {z : Bool} (c : List PV) : ViewL S z c c := ⟨rfl, fun j a b h1 h2 => by
  rw [h1] at h2
  obtain rfl := Option.some.inj h2
  exact .refl a⟩
theorem ViewL.append {S : Sto} {z : Bool} {c d c' d' : List PV} (h : ViewL S z c d) (k : ViewL S z c' d') : ViewL S z (c ++ c') (d ++ d') := ⟨by simp [h.1, k.1], fun j a b h1 h2 => by
  rw [List.getElem?_append] at h1 h2
  rw [h.1] at h2
  split at h1
  · rename_i hj
    rw [if_pos hj] at h2
    exact h.2 j a b h1 h2
  · rename_i hj
    rw [if_neg hj] at h2
    exact k.2 _ a b h1 h2⟩
def oPl {α : Type} (M : Cd α) (h1 : M.Ones) : Od α where
  n := M.n
  cd := M
  R _ ids a c := ids = [] ∧ M.R a c
  len h := M.len h.2
  ones h := h1 _ _ h.2
  live h i hi := by rw [h.1] at hi; cases hi
  up h _ := h
  view {S ids a c} h := ⟨c, .refl c, h.2⟩
  hn := rfl
def oIs {α β : Type} (M : Od β) (g : α → β) : Od α where
  n := M.n
  cd := cIso M.cd g
  R S ids a c := M.R S ids (g a) c
  len := M.len
  ones := M.ones
  live := M.live
  up := M.up
  view := M.view
  hn := M.hn
def RowsO {α : Type} (N : Od α) (S : Sto) : List α → List Id → List PV → Prop
  | [], ids, cs => ids = [] ∧ cs = []
  | a :: l, ids, cs => ∃ c r i1 i2, cs = c ++ r ∧ ids = i1 ++ i2 ∧ Apt i1 i2 ∧ N.R S i1 a c ∧ RowsO N S l i2 r
section
variable {α : Type} {N : Od α} {S S1 : Sto}
theorem RowsO.length : ∀ {l : List α} {ids : List Id} {cs : List PV}, RowsO N S l ids cs → cs.length = l.length * N.n
  | [], _, cs, h => by rw [h.2]; simp
  | a :: l, _, cs, ⟨c, r, i1, i2, h, _, _, h1, h2⟩ => by rw [h, List.length_append, N.len h1, h2.length, List.length_cons, Nat.add_mul]; omega
theorem RowsO.ones : ∀ {l : List α} {ids : List Id} {cs : List PV}, RowsO N S l ids cs → ∀ p ∈ cs, p.one = true
  | [], _, cs, h, p, hp => by rw [h.2] at hp; cases hp
  | a :: l, _, cs, ⟨c, r, i1, i2, h, _, _, h1, h2⟩, p, hp => by rw [h, List.mem_append] at hp; exact hp.elim (N.ones h1 p) (h2.ones p)
theorem RowsO.live : ∀ {l : List α} {ids : List Id} {cs : List PV}, RowsO N S l ids cs → ∀ i ∈ ids, ∃ o, Live S i o ∧ o.frz = false
  | [], _, cs, h, p, hp => by rw [h.1] at hp; cases hp
  | a :: l, _, cs, ⟨c, r, i1, i2, _, h, _, h1, h2⟩, p, hp => by rw [h, List.mem_append] at hp; exact hp.elim (N.live h1 p) (h2.live p)
theorem RowsO.up : ∀ {l : List α} {ids : List Id} {cs : List PV}, RowsO N S l ids cs → Kept S S1 ids → RowsO N S1 l ids cs
  | [], _, cs, h, _ => h
  | a :: l, _, cs, ⟨c, r, i1, i2, h, hi, ha, h1, h2⟩, hk => ⟨c, r, i1, i2, h, hi, ha, N.up h1 (hk.sub fun i hm => by rw [hi]; exact List.mem_append_left _ hm), h2.up (hk.sub fun i hm => by rw [hi]; exact List.mem_append_right _ hm)⟩
theorem RowsO.view : ∀ {l : List α} {ids : List Id} {cs : List PV}, RowsO N S l ids cs → ∃ ds, ViewL S false cs ds ∧ Rows N.cd l ds
  | [], _, cs, h => ⟨[], by rw [h.2]; exact .refl [], rfl⟩
  | a :: l, _, cs, ⟨c, r, i1, i2, h, _, _, h1, h2⟩ => by
    obtain ⟨d1, v1, r1⟩ := N.view h1
    obtain ⟨d2, v2, r2⟩ := h2.view
    exact ⟨d1 ++ d2, by rw [h]; exact v1.append v2, d1, d2, rfl, r1, r2⟩
theorem RowsO.rep {z : α} {c : List PV} (h : N.R S [] z c) : ∀ n, RowsO N S (List.replicate n z) [] (repL n c)
  | 0 => ⟨rfl, rfl⟩
  | n + 1 => ⟨c, repL n c, [], [], by simp [repL, List.replicate_succ], rfl, .nil, h, RowsO.rep h n⟩
theorem RowsO.at : ∀ {l : List α} {ids : List Id} {cs : List PV}, RowsO N S l ids cs → ∀ (j : Nat) (hj : j < l.length), ∃ c ij rest, N.R S ij l[j] c ∧ (∃ r, cs.drop (j * N.n) = c ++ r) ∧ Apt ij rest ∧
    (∀ i, i ∈ ids ↔ i ∈ ij ∨ i ∈ rest) ∧ ∀ (S1 : Sto) a' c' ij', N.R S1 ij' a' c' → Kept S S1 rest → Apt ij' rest → ∃ ids', RowsO N S1 (l.set j a') ids' (putAt cs (j * N.n) c') ∧ ∀ i, i ∈ ids' ↔ i ∈ ij' ∨ i ∈ rest
  | a :: l, ids, cs, ⟨c, r, i1, i2, h, hi, ha, h1, h2⟩, 0, _ => by
    subst h hi
    refine ⟨c, i1, i2, h1, ⟨r, by simp⟩, ha, fun i => List.mem_append, fun S1 a' c' ij' g1 g2 g3 => ⟨ij' ++ i2, ⟨c', r, ij', i2, ?_, rfl, g3, g1, h2.up g2⟩, fun i => List.mem_append⟩⟩
    simp [putAt, N.len g1, ← N.len h1]
  | a :: l, ids, cs, ⟨c, r, i1, i2, h, hi, ha, h1, h2⟩, j + 1, hj => by
    subst h hi
    obtain ⟨d, ij, rest, g1, ⟨t, g2⟩, g3, g4, g5⟩ := h2.at j (by simpa using hj)
    have hcl := N.len h1
    have e1 : (j + 1) * N.n = c.length + j * N.n := by rw [Nat.add_mul, hcl]; omega
    refine ⟨d, ij, i1 ++ rest, g1, ⟨t, by rw [e1, ← List.drop_drop, List.drop_left]; exact g2⟩, fun i hm hn => ?_, fun i => ?_, fun S1 a' c' ij' k1 k2 k3 => ?_⟩
    · rcases List.mem_append.1 hn with hn | hn
      · exact ha i hn ((g4 i).2 (.inl hm))
      · exact g3 i hm hn
    · rw [List.mem_append, List.mem_append, g4]
      constructor
      · rintro (h | h | h)
        · exact .inr (.inl h)
        · exact .inl h
        · exact .inr (.inr h)
      · rintro (h | h | h)
        · exact .inr (.inl h)
        · exact .inl h
        · exact .inr (.inr h)
    · obtain ⟨ids', m1, m2⟩ := g5 S1 a' c' ij' k1 (k2.sub fun i hm => List.mem_append_right _ hm) (fun i hm hn => k3 i hm (List.mem_append_right _ hn))
      refine ⟨i1 ++ ids', ⟨c, putAt r (j * N.n) c', i1, ids', ?_, rfl, fun i hm hn => ?_, N.up h1 (k2.sub fun i hm => List.mem_append_left _ hm), m1⟩, fun i => ?_⟩
      · have g1 : c.take (c.length + j * N.n) = c := List.take_of_length_le (by omega)
        have g2 : c.drop (c.length + (j * N.n + c'.length)) = [] := List.drop_of_length_le (by omega)
        rw [e1]; simp [putAt, List.take_append, List.drop_append, Nat.add_assoc, g1, g2]
      · rcases (m2 i).1 hn with hn | hn
        · exact k3 i hn (List.mem_append_left _ hm)
        · exact ha i hm ((g4 i).2 (.inr hn))
      · rw [List.mem_append, List.mem_append, m2]
        constructor
        · rintro (h | h | h)
          · exact .inr (.inl h)
          · exact .inl h
          · exact .inr (.inr h)
        · rintro (h | h | h)
          · exact .inr (.inl h)
          · exact .inl h
          · exact .inr (.inr h)
end
def oRow {α : Type} (N : Od α) : Od (List α) where
  n := 1
  cd := cSl N.cd
  R S ids l c := (c = [.lit (.slice none 0 0)] ∧ l = [] ∧ ids = []) ∨ ∃ i cs is, c = [.loc i 0 l.length] ∧ ids = i :: is ∧ i ∉ is ∧ Live S i ⟨cs, N.n, false⟩ ∧ RowsO N S l is cs
  len := by rintro S ids a c (⟨rfl, _⟩ | ⟨i, cs, is, rfl, _⟩) <;> rfl
  ones := by rintro S ids a c (⟨rfl, _⟩ | ⟨i, cs, is, rfl, _⟩) p hp <;> (obtain rfl := List.mem_singleton.1 hp; rfl)
  live := by
    rintro S ids a c (⟨_, _, rfl⟩ | ⟨i, cs, is, _, rfl, _, h1, h2⟩) j hj
    · cases hj
    · rcases List.mem_cons.1 hj with rfl | hj
      · exact ⟨_, h1, rfl⟩
      · exact h2.live j hj
  up := by
    rintro S S1 ids a c (h | ⟨i, cs, is, h0, rfl, hn, h1, h2⟩) hk
    · exact .inl h
    · exact .inr ⟨i, cs, is, h0, rfl, hn, hk i List.mem_cons_self _ h1, h2.up (hk.sub fun j hj => List.mem_cons_of_mem _ hj)⟩
  view := by
    rintro S ids a c (⟨rfl, rfl, _⟩ | ⟨i, cs, is, rfl, _, _, h1, h2⟩)
    · exact ⟨_, .refl _, _, rfl, .nil⟩
    · obtain ⟨ds, v, r⟩ := h2.view
      have e : (cs.drop 0).take (a.length * N.n) = cs := by rw [List.drop_zero, ← h2.length, List.take_length]
      refine ⟨[.sl ds a.length], ⟨rfl, fun j p q g1 g2 => ?_⟩, _, rfl, .rows r⟩
      match j, g1, g2 with
      | 0, g1, g2 =>
        obtain rfl := Option.some.inj g1
        obtain rfl := Option.some.inj g2
        exact .loc h1.1 (fun h => by cases h) (by rw [e]; exact v.1) (fun k p q e1 e2 => v.2 k p q (by rw [e] at e1; exact e1) e2)
      | j + 1, g1, _ => simp at g1
  hn := rfl
theorem Vec.tree {α : Type} {M : Cd α} (h1 : M.Ones) {l : List α} {v : PV} {S : Sto} (h : Vec M l v S) : (oRow (oPl M h1)).R S v.id?.toList l [v] := by
  have rows : ∀ {l : List α} {cs : List PV}, Rows M l cs → RowsO (oPl M h1) S l [] cs := by
    intro l
    induction l with
    | nil => exact fun h => ⟨rfl, h⟩
    | cons a l ih => exact fun ⟨c, r, g1, g2, g3⟩ => ⟨c, r, [], [], g1, rfl, .nil, ⟨rfl, g2⟩, ih g3⟩
  rcases h with ⟨rfl, rfl⟩ | ⟨i, cs, rfl, g1, g2⟩
  · exact .inl ⟨rfl, rfl, rfl⟩
  · exact .inr ⟨i, cs, [], rfl, rfl, List.not_mem_nil, g1, rows g2⟩
structure Grow (S S1 : Sto) : Prop where
  live : ∀ i o, Live S i o → Live S1 i o
  gen : ∀ s, S.gen s ≤ S1.gen s
theorem Grow.refl (S : Sto) : Grow S S := ⟨fun _ _ h => h, fun _ => Nat.le_refl _⟩
theorem Grow.trans {S S1 S2 : Sto} (h : Grow S S1) (k : Grow S1 S2) : Grow S S2 := ⟨fun i o h1 => k.live i o (h.live i o h1), fun s => Nat.le_trans (h.gen s) (k.gen s)⟩
theorem Grow.kept {S S1 : Sto} (h : Grow S S1) (ids : List Id) : Kept S S1 ids := fun i _ o => h.live i o
def Fresh (S : Sto) (ids : List Id) : Prop := ∀ i ∈ ids, ∀ o, ¬ Live S i o
theorem Fresh.mono {S S1 : Sto} {ids : List Id} (h : Fresh S1 ids) (k : Grow S S1) : Fresh S ids := fun i hi o ho => h i hi o (k.live i o ho)
theorem Fresh.apt {S : Sto} {a b : List Id} (h : Fresh S a) (k : ∀ i ∈ b, ∃ o, Live S i o ∧ o.frz = false) : Apt a b := fun i h1 h2 => by
  obtain ⟨o, h3, _⟩ := k i h2
  exact h i h1 o h3
theorem Fresh.append {S : Sto} {a b : List Id} (h : Fresh S a) (k : Fresh S b) : Fresh S (a ++ b) := fun i hi => (List.mem_append.1 hi).elim (h i) (k i)
theorem Fresh.nil {S : Sto} : Fresh S [] := fun _ h => by cases h
def ApT (p : PV) (ids : List Id) : Prop := ∀ i ∈ ids, p.id? ≠ some i
theorem New.fresh {S : Sto} {p : PV} (h : New S p) : Fresh S p.id?.toList := fun i hi o ho => h i o ho (by simpa using hi)
theorem New.mono {S S1 : Sto} {p : PV} (h : New S1 p) (k : Grow S S1) : New S p := fun i o ho => h i o (k.live i o ho)
theorem Grow.of {S S1 : Sto} {p : PV} (u : Up S S1 p) (n : New S p) : Grow S S1 := ⟨fun i o h => u.live i o h (n i o h), u.gen⟩
theorem Grow.up {S0 S S1 : Sto} {p : PV} (g : Grow S0 S) (u : Up S S1 p) (n : New S0 p) : Grow S0 S1 := ⟨fun i o h => u.live i o (g.live i o h) (n i o h), fun s => Nat.le_trans (g.gen s) (u.gen s)⟩
theorem Grow.box {S S1 : Sto} {p : PV} {cs : List PV} (g : Grow S S1) (h : Box p cs S) : Box p cs S1 := by
  obtain ⟨i, rfl, h⟩ := h
  exact ⟨i, rfl, g.live i _ h⟩
theorem Grow.vec {α : Type} {K : Cd α} {l : List α} {S S1 : Sto} {v : PV} (g : Grow S S1) (h : Vec K l v S) : Vec K l v S1 := by
  rcases h with h | ⟨i, cs, rfl, h1, h2⟩
  · exact .inl h
  · exact .inr ⟨i, cs, rfl, g.live i _ h1, h2⟩
section
variable {α : Type} {N : Od α} {S S1 : Sto} {ids : List Id} {a : α} {c : List PV} {p : PV}
theorem Grow.tree (g : Grow S S1) (h : N.R S ids a c) : N.R S1 ids a c := N.up h (g.kept ids)
theorem Up.tree (u : Up S S1 p) (h : N.R S ids a c) (ha : ApT p ids) : N.R S1 ids a c := N.up h fun i hi o ho => u.live i o ho (ha i hi)
theorem New.tree (n : New S p) (h : N.R S ids a c) : ApT p ids := fun i hi e => by
  obtain ⟨o, ho, _⟩ := N.live h i hi
  exact n i o ho e
theorem Fresh.box {cs : List PV} (f : Fresh S ids) (h : Box p cs S) : ApT p ids := fun i hi e => by
  obtain ⟨j, rfl, hl⟩ := h
  obtain rfl := Option.some.inj e
  exact f _ hi _ hl
theorem Fresh.vec {β : Type} {K : Cd β} {l : List β} (f : Fresh S ids) (h : Vec K l p S) : ApT p ids := fun i hi e => by
  rcases h with ⟨rfl, _⟩ | ⟨j, cs, rfl, hl, _⟩
  · cases e
  · obtain rfl := Option.some.inj e
    exact f _ hi _ hl
theorem Fresh.tree (f : Fresh S ids) {β : Type} {M : Od β} {js : List Id} {b : β} {d : List PV} (h : M.R S js b d) : Apt js ids := (f.apt (M.live h)).symm
end
def Makes (P : Program) (g : FuncId) (ps : List PV) {α : Type} (N : Od α) (a : α) (val : List PV → PV) : Prop :=
  ∀ S, ∃ c S' ids, Call P g ps S (val c) S' ∧ N.R S' ids a c ∧ Fresh S ids ∧ Grow S S'
def Made (S0 : Sto) {α : Type} (N : Od α) (a : α) (val : List PV → PV) (v : PV) (S : Sto) : Prop := ∃ c ids, v = val c ∧ N.R S ids a c ∧ Fresh S0 ids ∧ Grow S0 S
def first (c : List PV) : PV := c.headD .undef
end Go.Abs
end
section
namespace Go.Abs
open Go Go.RowKit
theorem Makes.intro {P : Program} {f : FuncId} {fn : Func} {c : Code} {ps : List PV} {α : Type} {N : Od α} {a : α} {val : List PV → PV} (h1 : P.funcs[f]? = some fn) (h2 : fn.body = some c) (h3 : ps.length ≤ fn.ntmps) (h4 : (fn.name == "runtime.NumGoroutine") = false)
    (h : ∀ S0, Evr P f [.code c] (Tm.of ps) S0 (Made S0 N a val)) : Makes P f ps N a val := fun S0 => by
  obtain ⟨r, S, h5, d, ids, rfl, h6, h7, h8⟩ := h S0
  obtain ⟨k, h5⟩ := ev_bound h5
  exact ⟨d, S, ids, ⟨k + 1, .inl ⟨c, ⟨fn, h1, h2, h3, h4⟩, h5⟩⟩, h6, h7, h8⟩
section
variable {P : Program} {f : FuncId} {os : Array Oper} {κ : Nat → Cls} {i : Nat} {o : Oper} {l : List Oper} {tm : Tm} {S S1 : Sto} {K : Tm → Sto → Prop} {α : Type} {N : Od α} {a : α}
theorem Fresh.or {S : Sto} {a b c : List Id} (h : ∀ i ∈ c, i ∈ a ∨ i ∈ b) (f : Fresh S a) (g : Fresh S b) : Fresh S c := fun i hi => (h i hi).elim (f i) (g i)
end
end Go.Abs
end
section
namespace Go.Abs
open Go Go.RowKit
def RetS (P : Program) (f : FuncId) (ps : List PV) (S : Sto) (R : PV → Sto → Prop) : Prop := ∃ r S', Call P f ps S r S' ∧ R r S'
theorem RetS.intro {P : Program} {f : FuncId} {fn : Func} {c : Code} {ps : List PV} {S : Sto} {R : PV → Sto → Prop} (h1 : P.funcs[f]? = some fn) (h2 : fn.body = some c) (h3 : ps.length ≤ fn.ntmps) (h4 : (fn.name == "runtime.NumGoroutine") = false)
    (h : Evr P f [.code c] (Tm.of ps) S R) : RetS P f ps S R := by
  obtain ⟨r, S', h5, h6⟩ := h
  obtain ⟨k, h5⟩ := ev_bound h5
  exact ⟨r, S', ⟨k + 1, .inl ⟨c, ⟨fn, h1, h2, h3, h4⟩, h5⟩⟩, h6⟩
structure Same (S S1 : Sto) (ids : List Id) : Prop where
  live : ∀ i o, i ∉ ids → Live S i o → Live S1 i o
  gen : ∀ s, S.gen s ≤ S1.gen s
theorem Same.refl (S : Sto) (ids : List Id) : Same S S ids := ⟨fun _ _ _ h => h, fun _ => Nat.le_refl _⟩
theorem Same.trans {S S1 S2 : Sto} {a b : List Id} (h : Same S S1 a) (k : Same S1 S2 b) (hs : ∀ i ∈ b, i ∈ a) : Same S S2 a := ⟨fun i o hn hl => k.live i o (fun hi => hn (hs i hi)) (h.live i o hn hl), fun s => Nat.le_trans (h.gen s) (k.gen s)⟩
theorem Same.sub {S S1 : Sto} {a b : List Id} (h : Same S S1 a) (hs : ∀ i ∈ a, i ∈ b) : Same S S1 b := ⟨fun i o hn hl => h.live i o (fun hi => hn (hs i hi)) hl, h.gen⟩
theorem Same.kept {S S1 : Sto} {a b : List Id} (h : Same S S1 a) (ha : Apt b a) : Kept S S1 b := fun i hi o ho => h.live i o (ha i hi) ho
theorem Same.box {S S1 : Sto} {a : List Id} {p : PV} {cs : List PV} (h : Same S S1 a) (k : Box p cs S) (ha : ApT p a) : Box p cs S1 := by
  obtain ⟨i, rfl, hl⟩ := k
  exact ⟨i, rfl, h.live i _ (fun hi => ha i hi rfl) hl⟩
theorem Same.vec {α : Type} {K : Cd α} {S S1 : Sto} {a : List Id} {p : PV} {l : List α} (h : Same S S1 a) (k : Vec K l p S) (ha : ApT p a) : Vec K l p S1 := by
  rcases k with k | ⟨i, cs, rfl, hl, hr⟩
  · exact .inl k
  · exact .inr ⟨i, cs, rfl, h.live i _ (fun hi => ha i hi rfl) hl, hr⟩
theorem Same.tree {α : Type} {N : Od α} {S S1 : Sto} {a b : List Id} {x : α} {c : List PV} (h : Same S S1 a) (k : N.R S b x c) (ha : Apt b a) : N.R S1 b x c := N.up k (h.kept ha)
def okRow {α : Type} (ok : α → Prop) (l : List α) : Prop := l.length ≤ 4611686018427387904 ∧ ∀ x ∈ l, ok x
def leaves {α : Type} (leaf : α → Nat) (l : List α) : Nat := (l.map leaf).sum
section
variable {P : Program} {f : FuncId} {os : Array Oper} {κ : Nat → Cls} {i : Nat} {o : Oper} {l : List Oper} {tm : Tm} {S S1 : Sto} {K : Tm → Sto → Prop} {α : Type} {N : Od α}
theorem Opl.calls {g : FuncId} {x : Operand} {cs : List PV} {aw : Array Operand} {ts : Array TypeId} {ps : List PV} {R : PV → Sto → Prop} (h : RetS P g ps S R) (hw : wantFn os tm o = some true) (ho : o.op = .call ⟨.value x, aw, ts⟩)
    (hc : calleeOf (tm.opnd x) = some (g, cs)) (hp : aw.toList.map tm.opnd ++ cs = ps) (hκ : κ i = .n) (n : ∀ v S1, R v S1 → Opl P os κ (i + 1) l (tm.put o.dst v) S1 K) : Opl P os κ i (o :: l) tm S K := by
  obtain ⟨r, S', h1, h2⟩ := h
  exact Opl.cons (.callS hw hκ ho (f := g) (cs := cs) hc (by rw [hp]; exact h1)) (n r S' h2)
end
structure Ints {α : Type} (M : Cd α) : Prop where
  out : ∀ {a c}, M.R a c → ∀ p ∈ c, ∃ x : Int, p = .lit (.int .i64 x)
  inn : ∀ {c}, c.length = M.n → (∀ p ∈ c, ∃ x : Int, p = .lit (.int .i64 x)) → ∃ a, M.R a c
def AllInts (cs : List PV) : Prop := ∀ p ∈ cs, ∃ x : Int, p = .lit (.int .i64 x)
theorem AllInts.put {cs : List PV} (h : AllInts cs) (off : Nat) (x : Int) : AllInts (putAt cs off [.lit (.int .i64 x)]) := fun p hp => by
  simp only [putAt, List.mem_append] at hp
  rcases hp with hp | hp | hp
  · exact h p (List.mem_of_mem_take hp)
  · exact ⟨x, List.mem_singleton.1 hp⟩
  · exact h p (List.mem_of_mem_drop hp)
theorem Ints.rows {α : Type} {M : Cd α} (h : Ints M) : ∀ {l : List α} {cs : List PV}, Rows M l cs → AllInts cs
  | [], cs, h0, p, hp => by rw [show cs = [] from h0] at hp; cases hp
  | a :: l, cs, ⟨c, r, h1, h2, h3⟩, p, hp => by
    rw [h1, List.mem_append] at hp
    exact hp.elim (h.out h2 p) (h.rows h3 p)
theorem Ints.back {α : Type} {M : Cd α} (h : Ints M) : ∀ (n : Nat) {cs : List PV}, cs.length = n * M.n → AllInts cs → ∃ l : List α, l.length = n ∧ Rows M l cs
  | 0, cs, hl, _ => ⟨[], rfl, List.eq_nil_of_length_eq_zero (by simpa using hl)⟩
  | n + 1, cs, hl, ha => by
    obtain ⟨a, h1⟩ := h.inn (c := cs.take M.n) (by rw [List.length_take, hl, Nat.add_mul]; omega) (fun p hp => ha p (List.mem_of_mem_take hp))
    obtain ⟨l, h2, h3⟩ := h.back n (cs := cs.drop M.n) (by rw [List.length_drop, hl, Nat.add_mul]; omega) (fun p hp => ha p (List.mem_of_mem_drop hp))
    exact ⟨a :: l, by simp [h2], cs.take M.n, cs.drop M.n, (List.take_append_drop _ _).symm, h1, h3⟩
def Flat (S0 S : Sto) (p : PV) (len es : Nat) : Prop := p.len? = some len ∧ (len = 0 ∧ S = S0 ∨ ∃ d cs, p = .loc d 0 len ∧ Live S d ⟨cs, es, false⟩ ∧ cs.length = len * es ∧ AllInts cs ∧ Same S0 S [d])
theorem Flat.of {α : Type} {M : Cd α} (h : Ints M) {l : List α} {p : PV} {S : Sto} (hv : Vec M l p S) : Flat S S p l.length M.n := by
  refine ⟨hv.len, ?_⟩
  rcases hv with ⟨_, rfl⟩ | ⟨d, cs, rfl, h1, h2⟩
  · exact .inl ⟨rfl, rfl⟩
  · exact .inr ⟨d, cs, rfl, h1, h2.length, h.rows h2, .refl _ _⟩
theorem Flat.done {α : Type} {M : Cd α} (h : Ints M) (h1 : M.Ones) {l : List α} {p : PV} {S0 S : Sto} (hv : Vec M l p S0) (hf : Flat S0 S p l.length M.n) :
    ∃ ids' a', (oRow (oPl M h1)).R S ids' a' [p] ∧ (∀ i ∈ ids', i ∈ p.id?.toList) ∧ a'.length = l.length ∧ Same S0 S p.id?.toList := by
  obtain ⟨_, ⟨h0, rfl⟩ | ⟨d, cs, rfl, g1, g2, g3, g4⟩⟩ := hf
  · exact ⟨_, l, hv.tree h1, fun _ h => h, rfl, .refl _ _⟩
  · obtain ⟨l', g5, g6⟩ := h.back l.length g2 g3
    exact ⟨_, l', Vec.tree h1 (.inr ⟨d, cs, by rw [g5], g1, g6⟩), fun _ h => h, g5, g4⟩
end Go.Abs
end
section
namespace Go.Abs
open Go Go.RowKit
theorem putAt_same {cs c r : List PV} {off : Nat} (h : cs.drop off = c ++ r) : putAt cs off c = cs := by
  unfold putAt
  have e : cs.drop (off + c.length) = r := by rw [← List.drop_drop, h, List.drop_left]
  rw [e, ← h, List.take_append_drop]
theorem sum_take : ∀ (W : List Nat) (i : Nat) (h : i < W.length), (W.take (i + 1)).sum = (W.take i).sum + W[i]
  | w :: W, 0, _ => by simp
  | w :: W, i + 1, h => by
    have := sum_take W i (by simpa using h)
    simp only [List.take_succ_cons, List.sum_cons, List.getElem_cons_succ]
    omega
theorem sum_le : ∀ (W : List Nat) (i : Nat), (W.take i).sum ≤ W.sum
  | [], i => by simp
  | w :: W, 0 => by simp
  | w :: W, i + 1 => by
    have := sum_le W i
    simp only [List.take_succ_cons, List.sum_cons]
    omega
theorem oRow_mark {α : Type} {N : Od α} {S : Sto} {ids : List Id} {l : List α} {p : PV} (h : (oRow N).R S ids l [p]) (j : Nat) (hj : j < l.length) : ∃ d cs ij ce r, p = .loc d 0 l.length ∧ Live S d ⟨cs, N.n, false⟩ ∧ cs.drop (j * N.n) = ce ++ r ∧ N.R S ij l[j] ce ∧
    (∀ i ∈ ij, i ∈ ids) ∧ (∀ S1, Same S S1 ij → Live S1 d ⟨cs, N.n, false⟩) ∧ ∀ S1 ij' a', Same S S1 ij → N.R S1 ij' a' ce → (∀ i ∈ ij', i ∈ ij) → ∃ ids', (oRow N).R S1 ids' (l.set j a') [p] ∧ ∀ i ∈ ids', i ∈ ids := by
  rcases h with ⟨_, rfl, _⟩ | ⟨d, cs, is, hd, rfl, hni, hl, h3⟩
  · cases hj
  obtain rfl := (List.cons.inj hd).1
  obtain ⟨ce, ij, rest, g1, ⟨r, g2⟩, g3, g4, g5⟩ := h3.at j hj
  have hdi : d ∉ ij := fun hm => hni ((g4 d).2 (.inl hm))
  refine ⟨d, cs, ij, ce, r, rfl, hl, g2, g1, fun i hi => List.mem_cons_of_mem _ ((g4 i).2 (.inl hi)), fun S1 hs => hs.live d _ hdi hl, fun S1 ij' a' hs ha hsub => ?_⟩
  obtain ⟨is', m1, m2⟩ := g5 S1 a' ce ij' ha (hs.kept g3.symm) (fun i hi hr => g3 i (hsub i hi) hr)
  rw [putAt_same g2] at m1
  refine ⟨d :: is', .inr ⟨d, cs, is', by simp, rfl, fun hm => ?_, hs.live d _ hdi hl, m1⟩, fun i hi => ?_⟩
  · rcases (m2 d).1 hm with hm | hm
    · exact hdi (hsub d hm)
    · exact hni ((g4 d).2 (.inr hm))
  · rcases List.mem_cons.1 hi with rfl | hi
    · exact List.mem_cons_self
    · rcases (m2 i).1 hi with hi | hi
      · exact List.mem_cons_of_mem _ ((g4 i).2 (.inl (hsub i hi)))
      · exact List.mem_cons_of_mem _ ((g4 i).2 (.inr hi))
def Deep {α : Type} (N : Od α) (leaf : α → Nat) (ok : α → Prop) (S0 S : Sto) (ids : List Id) (l : List α) (p : PV) : Prop :=
  ∃ ids1 l1, (oRow N).R S ids1 l1 [p] ∧ (∀ i ∈ ids1, i ∈ ids) ∧ l1.map leaf = l.map leaf ∧ (∀ x ∈ l1, ok x) ∧ Same S0 S ids
section
variable {α : Type} {N : Od α} {leaf : α → Nat} {ok : α → Prop} {S0 S : Sto} {ids : List Id} {l : List α} {p : PV}
theorem Deep.of (h : (oRow N).R S ids l [p]) (ho : ∀ x ∈ l, ok x) : Deep N leaf ok S S ids l p := ⟨ids, l, h, fun _ h => h, rfl, ho, .refl _ _⟩
theorem Deep.at (h : Deep N leaf ok S0 S ids l p) {i k : Int} (h0 : 0 ≤ i) (h1 : i < (l.length : Int)) (hk : 0 ≤ k) (hb : k + leaves leaf l ≤ 9223372036854775807) :
    ∃ d cs ij ce r a, p = .loc d 0 l.length ∧ Live S d ⟨cs, N.n, false⟩ ∧ cs.drop (i.toNat * N.n) = ce ++ r ∧ N.R S ij a ce ∧ ok a ∧ 0 ≤ k + (((l.map leaf).take i.toNat).sum : Nat) ∧ k + (((l.map leaf).take i.toNat).sum : Nat) + leaf a ≤ 9223372036854775807 ∧
      k + (((l.map leaf).take (i + 1).toNat).sum : Nat) = k + (((l.map leaf).take i.toNat).sum : Nat) + leaf a ∧ (∀ S1, Same S S1 ij → Live S1 d ⟨cs, N.n, false⟩) ∧
      ∀ S1 ij' a', Same S S1 ij → N.R S1 ij' a' ce → (∀ i ∈ ij', i ∈ ij) → leaf a' = leaf a → ok a' → Deep N leaf ok S0 S1 ids l p := by
  obtain ⟨ids1, l1, g1, g2, g3, go, g4⟩ := h
  have hlen : l1.length = l.length := by have := congrArg List.length g3; simpa using this
  have hj : i.toNat < l1.length := by omega
  obtain ⟨d, cs, ij, ce, r, e1, e2, e3, e4, e5, e6, e7⟩ := oRow_mark g1 i.toNat hj
  have hw : (l.map leaf)[i.toNat]'(by simp; omega) = leaf l1[i.toNat] := by
    have : (l.map leaf)[i.toNat]? = (l1.map leaf)[i.toNat]? := by rw [g3]
    rw [List.getElem?_eq_getElem (by simp; omega), List.getElem?_eq_getElem (by simp; omega)] at this
    simpa using this
  have hs := sum_take (l.map leaf) i.toNat (by simp; omega)
  have hle := sum_le (l.map leaf) (i.toNat + 1)
  have e9 : (i + 1).toNat = i.toNat + 1 := by omega
  unfold leaves at hb
  rw [hw] at hs
  refine ⟨d, cs, ij, ce, r, l1[i.toNat], by rw [e1, hlen], e2, e3, e4, go _ (List.getElem_mem hj), by omega, by omega, by rw [e9]; omega, e6, fun S1 ij' a' m1 m2 m3 m4 m5 => ?_⟩
  obtain ⟨ids', n1, n2⟩ := e7 S1 ij' a' m1 m2 m3
  refine ⟨ids', _, n1, fun i hi => g2 i (n2 i hi), ?_, fun x hx => (List.mem_or_eq_of_mem_set hx).elim (go x) (fun e => e ▸ m5), g4.trans m1 fun i hi => g2 i (e5 i hi)⟩
  rw [← g3, List.map_set, m4]
  exact List.ext_getElem (by simp) fun n a b => by
    rw [List.getElem_set]
    split
    · rename_i hn; subst hn; simp
    · rfl
theorem Deep.done (h : Deep N leaf ok S0 S ids l p) : ∃ ids' a', (oRow N).R S ids' a' [p] ∧ (∀ i ∈ ids', i ∈ ids) ∧ leaves leaf a' = leaves leaf l ∧ (l.length ≤ 4611686018427387904 → okRow ok a') ∧ Same S0 S ids := by
  obtain ⟨ids1, l1, g1, g2, g3, go, g4⟩ := h
  have hlen : l1.length = l.length := by have := congrArg List.length g3; simpa using this
  exact ⟨ids1, l1, g1, g2, by unfold leaves; rw [g3], fun h => ⟨by omega, go⟩, g4⟩
end
end Go.Abs
end
section
namespace Go.Abs
open Go Go.RowKit
section
variable {P : Program} {f : FuncId} {os : Array Oper} {κ : Nat → Cls} {i : Nat} {o : Oper} {l : List Oper} {tm : Tm} {S : Sto} {K : Tm → Sto → Prop}
def Cd.Scals {α : Type} (M : Cd α) : Prop := ∀ a c, M.R a c → ∀ p ∈ c, Scal p
theorem sInt (k : IntKind) : (cInt k).Scals := fun a c h p hp => by rw [show c = _ from h] at hp; obtain rfl := List.mem_singleton.1 hp; exact .lit _
theorem Rows.scals {α : Type} {M : Cd α} (h : M.Scals) : ∀ {l : List α} {cs : List PV}, Rows M l cs → ∀ p ∈ cs, Scal p
  | [], cs, h0, p, hp => by rw [show cs = [] from h0] at hp; cases hp
  | a :: l, cs, ⟨c, r, h1, h2, h3⟩, p, hp => by
    rw [h1, List.mem_append] at hp
    exact hp.elim (h a c h2 p) (h3.scals h p)
theorem Opl.callav {α : Type} {M : Cd α} (hM : M.Scals) {xs : List α} {g : FuncId} {x : Operand} {cs : List PV} {aw : Array Operand} {ts : Array TypeId} {ps : List PV} (h : Ret P g ps fun v S => Vec M xs v S) (hw : wantFn os tm o = some true) (ho : o.op = .call ⟨.value x, aw, ts⟩)
    (hc : calleeOf (tm.opnd x) = some (g, cs)) (hp : ViewL S false (aw.toList.map tm.opnd ++ cs) ps) (hpl : PL ps) (hκ : κ i = .n) (n : ∀ v S1, Vec M xs v S1 → Up S S1 v → New S v → Opl P os κ (i + 1) l (tm.put o.dst v) S1 K) : Opl P os κ i (o :: l) tm S K := by
  obtain ⟨r, S', h1, h2⟩ := h
  rcases h2 with ⟨rfl, rfl⟩ | ⟨d, ds, rfl, h3, h4⟩
  · exact Opl.cons (.callB hw (by rw [hκ]; decide) ho (f := g) (cs := cs) hc hp hpl.all h1 (.lit _)) (n _ S .nil ⟨fun _ _ h _ => h, fun _ => Nat.le_refl _⟩ (fun i o h e => by cases e))
  · refine Opl.cons (.callA (z := false) (ds := ds) hw hκ ho (f := g) (cs := cs) hc hp hpl.all h1 h3.1 rfl (Nat.zero_le _) ⟨by rw [List.drop_zero], fun j c d e1 e2 => ?_⟩ h4.plain (fun _ => h4.scals hM))
      (n _ _ (.inr ⟨S.next (o.dst.getD 0), ds, rfl, .new, h4⟩) (.add _) (.next rfl))
    rw [List.drop_zero] at e1
    rw [e1] at e2
    obtain rfl := Option.some.inj e2
    exact .refl c
end
theorem ViewL.agg {S : Sto} {z : Bool} {c d : List PV} (h : ViewL S z c d) : View S z (.agg c) (.agg d) := .agg h.1 h.2
theorem ViewL.one {S : Sto} {z : Bool} {p : PV} {d : List PV} (h : ViewL S z [p] d) : ∃ q, d = [q] ∧ View S z p q := by
  obtain ⟨h1, h2⟩ := h
  match d, h1 with
  | [q], _ => exact ⟨q, rfl, h2 0 p q rfl rfl⟩
end Go.Abs
end
section
namespace Go.Abs
open Go Go.RowKit
theorem Scal.own {p : PV} (h : Scal p) : Own p := by
  induction h with
  | lit v => exact .lit v
  | agg h ih => exact .agg ih
  | tup h ih => exact .tup ih
theorem Scal.ren {p : PV} (h : Scal p) (g : Nat → Nat) : p.ren g = p := by
  induction h with
  | lit v => simp only [PV.ren]
  | @agg cs h ih => simp only [PV.ren, renL_eq, PV.agg.injEq]; exact (List.map_congr_left ih).trans (List.map_id _)
  | @tup cs h ih => simp only [PV.ren, renL_eq, PV.tup.injEq]; exact (List.map_congr_left ih).trans (List.map_id _)
theorem renL_append (g : Nat → Nat) (c d : List PV) : renL g (c ++ d) = renL g c ++ renL g d := by simp only [renL_eq, List.map_append]
theorem up_inj {g : Nat → Nat} {i j : Id} (h : Id.up g i = Id.up g j) : i = j := by
  cases i; cases j
  simp only [Id.up, Id.mk.injEq] at h ⊢
  obtain ⟨rfl, h⟩ := h
  exact ⟨rfl, by omega⟩
theorem Apt.map {g : Nat → Nat} {a b : List Id} (h : Apt a b) : Apt (a.map (Id.up g)) (b.map (Id.up g)) := fun i h1 h2 => by
  obtain ⟨x, hx, rfl⟩ := List.mem_map.1 h1
  obtain ⟨y, hy, e⟩ := List.mem_map.1 h2
  exact h x hx (up_inj e ▸ hy)
theorem Live.merge {S S' : Sto} {keep : Id → Bool} {i : Id} {o : Obj} (h : Live S' i o) (hk : keep i = true) : Live (S.merge S' keep) (Id.up S.gen i) { o with cells := renL S.gen o.cells } := by
  refine ⟨?_, ?_⟩
  · simp only [Sto.merge]
    rw [if_neg (up_ge S.gen i), up_sub, if_pos hk, h.1, Option.map_some]
  · have := h.2
    simp only [Sto.merge, Id.up]; omega
theorem Grow.merge (S S' : Sto) (keep : Id → Bool) : Grow S (S.merge S' keep) :=
  ⟨fun i o h => ⟨by simp only [Sto.merge]; rw [if_pos h.2]; exact h.1, by have := h.2; simp only [Sto.merge]; omega⟩, fun s => by simp only [Sto.merge]; omega⟩
theorem Fresh.up {S : Sto} (ids : List Id) : Fresh S (ids.map (Id.up S.gen)) := fun i hi o ho => by
  obtain ⟨x, _, rfl⟩ := List.mem_map.1 hi
  exact up_ge S.gen x ho.2
structure OdR {α : Type} (N : Od α) : Prop where
  own : ∀ {S : Sto} {ids a c}, N.R S ids a c → ∀ p ∈ c, Own p
  obj : ∀ {S : Sto} {ids a c}, N.R S ids a c → ∀ i ∈ ids, ∃ o, S.obj i = some o ∧ o.frz = false ∧ ∀ p ∈ o.cells, Own p
  ren : ∀ {S S' : Sto} {ids a c} {keep : Id → Bool}, N.R S' ids a c → (∀ i ∈ ids, keep i = true) → N.R (S.merge S' keep) (ids.map (Id.up S.gen)) a (renL S.gen c)
theorem OdR.is {α β : Type} {M : Od β} {g : α → β} (hM : OdR M) : OdR (oIs M g) where
  own := hM.own
  obj := hM.obj
  ren := hM.ren
section
variable {α : Type} {N : Od α} (hN : OdR N)
include hN
theorem RowsO.own {S : Sto} : ∀ {l : List α} {ids : List Id} {cs : List PV}, RowsO N S l ids cs → ∀ p ∈ cs, Own p
  | [], _, cs, h, p, hp => by rw [h.2] at hp; cases hp
  | a :: l, _, cs, ⟨c, r, i1, i2, h, _, _, h1, h2⟩, p, hp => by rw [h, List.mem_append] at hp; exact hp.elim (hN.own h1 p) (h2.own p)
theorem RowsO.obj {S : Sto} : ∀ {l : List α} {ids : List Id} {cs : List PV}, RowsO N S l ids cs → ∀ i ∈ ids, ∃ o, S.obj i = some o ∧ o.frz = false ∧ ∀ p ∈ o.cells, Own p
  | [], _, cs, h, p, hp => by rw [h.1] at hp; cases hp
  | a :: l, _, cs, ⟨c, r, i1, i2, _, h, _, h1, h2⟩, p, hp => by rw [h, List.mem_append] at hp; exact hp.elim (hN.obj h1 p) (h2.obj p)
theorem RowsO.ren {S S' : Sto} {keep : Id → Bool} : ∀ {l : List α} {ids : List Id} {cs : List PV}, RowsO N S' l ids cs → (∀ i ∈ ids, keep i = true) → RowsO N (S.merge S' keep) l (ids.map (Id.up S.gen)) (renL S.gen cs)
  | [], _, cs, h, _ => ⟨by rw [h.1]; rfl, by rw [h.2, renL_eq]; rfl⟩
  | a :: l, _, cs, ⟨c, r, i1, i2, h, hi, ha, h1, h2⟩, hk => ⟨renL S.gen c, renL S.gen r, i1.map (Id.up S.gen), i2.map (Id.up S.gen), by rw [h, renL_append], by rw [hi, List.map_append], ha.map,
    hN.ren h1 fun i hm => hk i (by rw [hi]; exact List.mem_append_left _ hm), h2.ren fun i hm => hk i (by rw [hi]; exact List.mem_append_right _ hm)⟩
theorem OdR.row : OdR (oRow N) where
  own := by rintro S ids a c (⟨rfl, _⟩ | ⟨i, cs, is, rfl, _⟩) p hp <;> (obtain rfl := List.mem_singleton.1 hp) <;> constructor
  obj := by
    rintro S ids a c (⟨_, _, rfl⟩ | ⟨i, cs, is, _, rfl, _, h1, h2⟩) j hj
    · cases hj
    · rcases List.mem_cons.1 hj with rfl | hj
      · exact ⟨_, h1.1, rfl, h2.own hN⟩
      · exact h2.obj hN j hj
  ren := by
    rintro S S' ids a c keep (⟨rfl, rfl, rfl⟩ | ⟨i, cs, is, rfl, rfl, hn, h1, h2⟩) hk
    · exact .inl ⟨by simp only [renL_eq, List.map_cons, List.map_nil, PV.ren], rfl, rfl⟩
    · refine .inr ⟨Id.up S.gen i, renL S.gen cs, is.map (Id.up S.gen), by simp only [renL_eq, List.map_cons, List.map_nil, PV.ren], rfl, fun hm => ?_, h1.merge (hk i List.mem_cons_self), h2.ren hN fun j hj => hk j (List.mem_cons_of_mem _ hj)⟩
      obtain ⟨x, hx, e⟩ := List.mem_map.1 hm
      exact hn (up_inj e ▸ hx)
end
structure ValW (val : List PV → PV) : Prop where
  own : ∀ {c}, (∀ p ∈ c, Own p) → Own (val c)
  ren : ∀ g c, (val c).ren g = val (renL g c)
theorem ValW.first : ValW first where
  own {c} h := by
    cases c with
    | nil => exact .lit _
    | cons p c => exact h p List.mem_cons_self
  ren g c := by
    cases c with
    | nil => simp only [Abs.first, List.headD_nil, PV.undef, renL, PV.ren]
    | cons p c => simp only [Abs.first, List.headD_cons, renL]
theorem ValW.agg : ValW .agg := ⟨.agg, fun g c => by simp only [PV.ren]⟩
theorem ValW.tup : ValW .tup := ⟨.tup, fun g c => by simp only [PV.ren]⟩
def Own1 {α : Type} (N : Od α) (a : α) (val : List PV → PV) (v : PV) (S : Sto) : Prop := ∃ c ids, v = val c ∧ N.R S ids a c
section
variable {P : Program} {f : FuncId} {os : Array Oper} {κ : Nat → Cls} {i : Nat} {o : Oper} {l : List Oper} {tm : Tm} {S : Sto} {K : Tm → Sto → Prop}
theorem Vec.own1 {α : Type} {M : Cd α} (h1 : M.Ones) {l : List α} {v : PV} {S : Sto} (h : Vec M l v S) : Own1 (oRow (oPl M h1)) l first v S := ⟨[v], _, rfl, h.tree h1⟩
end
end Go.Abs
end
section
namespace Go.Abs
open Go Go.RowKit
theorem Same.grow {S S1 : Sto} {ids : List Id} (h : Same S S1 ids) (hf : ∀ i ∈ ids, ∀ o, ¬ Live S i o) : Grow S S1 := ⟨fun i o hl => h.live i o (fun hi => hf i hi o hl) hl, h.gen⟩
section
variable {P : Program} {f : FuncId} {os : Array Oper} {κ : Nat → Cls} {i : Nat} {o : Oper} {l : List Oper} {tm : Tm} {S : Sto} {K : Tm → Sto → Prop} {α β : Type}
end
end Go.Abs
end
section
namespace Go.Abs
open Go Go.RowKit
set_option linter.unusedSimpArgs false
set_option linter.unusedVariables false
section
variable {P : Program} {os : Array Oper} {κ : Nat → Cls} {i : Nat} {o : Oper} {l : List Oper} {tm : Tm} {S : Sto} {K : Tm → Sto → Prop} {α : Type} {M : Cd α} {xs : List α} {t e : TypeId} {x : Operand}
theorem Opl.lss {p q : Operand} {rt : TypeId} {k ki : IntKind} {a b : Int} (hkt : tkAt P t = some (.int ki)) (hp : tm.opnd p = .lit (.int k a)) (hq : tm.opnd q = .lit (.int k b)) (hw : wantFn os tm o = some true) (ho : o.op = .binOp .lss t p q rt)
    (n : Opl P os κ (i + 1) l (tm.put o.dst (.lit (.bool (decide (a < b))))) S K) : Opl P os κ i (o :: l) tm S K :=
  Opl.one hw (by rw [ho]; rfl) (by rw [ho]; simp only [opFn, hkt, hp, hq, binFn, litBin, intBin, justV, Option.map_some, if_true, w64]) n
theorem Opl.leq {p q : Operand} {rt : TypeId} {k ki : IntKind} {a b : Int} (hkt : tkAt P t = some (.int ki)) (hp : tm.opnd p = .lit (.int k a)) (hq : tm.opnd q = .lit (.int k b)) (hw : wantFn os tm o = some true) (ho : o.op = .binOp .leq t p q rt)
    (n : Opl P os κ (i + 1) l (tm.put o.dst (.lit (.bool (decide (a ≤ b))))) S K) : Opl P os κ i (o :: l) tm S K :=
  Opl.one hw (by rw [ho]; rfl) (by rw [ho]; simp only [opFn, hkt, hp, hq, binFn, litBin, intBin, justV, Option.map_some, if_true, w64]) n
theorem Opl.gtr {p q : Operand} {rt : TypeId} {k ki : IntKind} {a b : Int} (hkt : tkAt P t = some (.int ki)) (hp : tm.opnd p = .lit (.int k a)) (hq : tm.opnd q = .lit (.int k b)) (hw : wantFn os tm o = some true) (ho : o.op = .binOp .gtr t p q rt)
    (n : Opl P os κ (i + 1) l (tm.put o.dst (.lit (.bool (decide (a > b))))) S K) : Opl P os κ i (o :: l) tm S K :=
  Opl.one hw (by rw [ho]; rfl) (by rw [ho]; simp only [opFn, hkt, hp, hq, binFn, litBin, intBin, justV, Option.map_some, if_true, w64]) n
theorem Opl.geq {p q : Operand} {rt : TypeId} {k ki : IntKind} {a b : Int} (hkt : tkAt P t = some (.int ki)) (hp : tm.opnd p = .lit (.int k a)) (hq : tm.opnd q = .lit (.int k b)) (hw : wantFn os tm o = some true) (ho : o.op = .binOp .geq t p q rt)
    (n : Opl P os κ (i + 1) l (tm.put o.dst (.lit (.bool (decide (a ≥ b))))) S K) : Opl P os κ i (o :: l) tm S K :=
  Opl.one hw (by rw [ho]; rfl) (by rw [ho]; simp only [opFn, hkt, hp, hq, binFn, litBin, intBin, justV, Option.map_some, if_true, w64]) n
theorem Opl.eql {p q : Operand} {rt : TypeId} {k ki : IntKind} {a b : Int} (hkt : tkAt P t = some (.int ki)) (hp : tm.opnd p = .lit (.int k a)) (hq : tm.opnd q = .lit (.int k b)) (hw : wantFn os tm o = some true) (ho : o.op = .binOp .eql t p q rt)
    (n : Opl P os κ (i + 1) l (tm.put o.dst (.lit (.bool (a == b)))) S K) : Opl P os κ i (o :: l) tm S K :=
  Opl.one hw (by rw [ho]; rfl) (by rw [ho]; simp only [opFn, hkt, hp, hq, binFn, litBin, intBin, justV, Option.map_some, if_true, w64]) n
theorem Opl.neq {p q : Operand} {rt : TypeId} {k ki : IntKind} {a b : Int} (hkt : tkAt P t = some (.int ki)) (hp : tm.opnd p = .lit (.int k a)) (hq : tm.opnd q = .lit (.int k b)) (hw : wantFn os tm o = some true) (ho : o.op = .binOp .neq t p q rt)
    (n : Opl P os κ (i + 1) l (tm.put o.dst (.lit (.bool (a != b)))) S K) : Opl P os κ i (o :: l) tm S K :=
  Opl.one hw (by rw [ho]; rfl) (by rw [ho]; simp only [opFn, hkt, hp, hq, binFn, litBin, intBin, justV, Option.map_some, if_true, w64]) n
theorem Opl.add {p q : Operand} {rt : TypeId} {k ki : IntKind} {a b : Int} (hkt : tkAt P t = some (.int ki)) (hp : tm.opnd p = .lit (.int .i64 a)) (hq : tm.opnd q = .lit (.int .i64 b)) (hw : wantFn os tm o = some true) (ho : o.op = .binOp .add t p q rt)
    (n : Opl P os κ (i + 1) l (tm.put o.dst (.lit (.int .i64 (wrap64 (a + b))))) S K) : Opl P os κ i (o :: l) tm S K :=
  Opl.one hw (by rw [ho]; rfl) (by rw [ho]; simp only [opFn, hkt, hp, hq, binFn, litBin, intBin, justV, Option.map_some, if_true, w64]) n
theorem Opl.subi {p q : Operand} {rt : TypeId} {k ki : IntKind} {a b : Int} (hkt : tkAt P t = some (.int ki)) (hp : tm.opnd p = .lit (.int .i64 a)) (hq : tm.opnd q = .lit (.int .i64 b)) (hw : wantFn os tm o = some true) (ho : o.op = .binOp .sub t p q rt)
    (n : Opl P os κ (i + 1) l (tm.put o.dst (.lit (.int .i64 (wrap64 (a - b))))) S K) : Opl P os κ i (o :: l) tm S K :=
  Opl.one hw (by rw [ho]; rfl) (by rw [ho]; simp only [opFn, hkt, hp, hq, binFn, litBin, intBin, justV, Option.map_some, if_true, w64]) n
theorem Opl.mul {p q : Operand} {rt : TypeId} {k ki : IntKind} {a b : Int} (hkt : tkAt P t = some (.int ki)) (hp : tm.opnd p = .lit (.int .i64 a)) (hq : tm.opnd q = .lit (.int .i64 b)) (hw : wantFn os tm o = some true) (ho : o.op = .binOp .mul t p q rt)
    (n : Opl P os κ (i + 1) l (tm.put o.dst (.lit (.int .i64 (wrap64 (a * b))))) S K) : Opl P os κ i (o :: l) tm S K :=
  Opl.one hw (by rw [ho]; rfl) (by rw [ho]; simp only [opFn, hkt, hp, hq, binFn, litBin, intBin, justV, Option.map_some, if_true, w64]) n
end
end Go.Abs
end
section
namespace Go.Abs
open Go Go.RowKit
def Fr (S : Sto) (olds ids : List Id) : Prop := ∀ i ∈ ids, i ∈ olds ∨ ∀ o, ¬ Live S i o
theorem Fr.box {S : Sto} {olds ids : List Id} {p : PV} {cs : List PV} (f : Fr S olds ids) (a : ApT p olds) (h : Box p cs S) : ApT p ids := fun i hi e => by
  obtain ⟨j, rfl, hl⟩ := h
  rcases f i hi with h | h
  · exact a i h e
  · obtain rfl := Option.some.inj e
    exact h _ hl
theorem Fr.vec {α : Type} {M : Cd α} {l : List α} {S : Sto} {olds ids : List Id} {p : PV} (f : Fr S olds ids) (a : ApT p olds) (h : Vec M l p S) : ApT p ids := fun i hi e => by
  rcases h with ⟨rfl, _⟩ | ⟨j, cs, rfl, hl, _⟩
  · cases e
  · rcases f i hi with h | h
    · exact a i h e
    · obtain rfl := Option.some.inj e
      exact h _ hl
theorem Fr.tree {α : Type} {N : Od α} {S : Sto} {olds ids js : List Id} {b : α} {c : List PV} (f : Fr S olds ids) (a : Apt js olds) (h : N.R S js b c) : Apt js ids := fun i hj hi => by
  obtain ⟨o, ho, _⟩ := N.live h i hj
  rcases f i hi with k | k
  · exact a i hj k
  · exact k o ho
theorem ApT.app {p : PV} {a b : List Id} (h : ApT p a) (k : ApT p b) : ApT p (a ++ b) := fun i hi => (List.mem_append.1 hi).elim (h i) (k i)
theorem Apt.app {js a b : List Id} (h : Apt js a) (k : Apt js b) : Apt js (a ++ b) := fun i hj hi => (List.mem_append.1 hi).elim (h i hj) (k i hj)
theorem ApT.nil {p : PV} : ApT p [] := fun _ h => by cases h
theorem ApT.lit {v : Value} {ids : List Id} : ApT (.lit v) ids := fun _ _ e => by cases e
theorem Apt.nil' {a : List Id} : Apt a [] := fun _ _ h => by cases h
theorem ApT.apt {p : PV} {js : List Id} (h : ApT p js) : Apt js p.id?.toList := fun i hj hi => h i hj (by simpa using hi)
theorem Ap.apt {p q : PV} (h : Ap p q) : Apt p.id?.toList q.id?.toList := fun i h1 h2 => h i (by simpa using h1) (by simpa using h2)
theorem New.fr {S : Sto} {p : PV} (h : New S p) {olds : List Id} {ids : List Id} (k : ∀ i ∈ ids, p.id? = some i ∨ i ∈ olds) : Fr S olds ids := fun i hi => (k i hi).elim (fun e => .inr fun o ho => h i o ho e) .inl
section
variable {α : Type} {N : Od α} {S : Sto}
theorem RowsO.append : ∀ {l m : List α} {i1 i2 : List Id} {cs ds : List PV}, RowsO N S l i1 cs → RowsO N S m i2 ds → Apt i1 i2 → RowsO N S (l ++ m) (i1 ++ i2) (cs ++ ds)
  | [], m, i1, i2, cs, ds, h, k, _ => by rw [h.1, h.2]; exact k
  | a :: l, m, _, i2, _, ds, ⟨c, r, j1, j2, h, hi, ha, h1, h2⟩, k, hap => ⟨c, r ++ ds, j1, j2 ++ i2, by rw [h, List.append_assoc], by rw [hi, List.append_assoc],
    fun i hm hn => (List.mem_append.1 hn).elim (ha i hm) (hap i (by rw [hi]; exact List.mem_append_left _ hm)), h1, h2.append k fun i hm => hap i (by rw [hi]; exact List.mem_append_right _ hm)⟩
theorem RowsO.one {a : α} {ids : List Id} {c : List PV} (h : N.R S ids a c) : RowsO N S [a] ids c := ⟨c, [], ids, [], by simp, by simp, Apt.nil', h, rfl, rfl⟩
end
theorem Vec.one {α : Type} {M : Cd α} {l : List α} {v : PV} {S : Sto} (h : Vec M l v S) : v.one = true := by
  rcases h with ⟨rfl, _⟩ | ⟨i, cs, rfl, _⟩ <;> rfl
theorem Vec.cells {α : Type} {M : Cd α} {l : List α} {v : PV} {S : Sto} (h : Vec M l v S) : v.cells = [v] := by
  rcases h with ⟨rfl, _⟩ | ⟨i, cs, rfl, _⟩ <;> rfl
section
variable {P : Program} {f : FuncId} {os : Array Oper} {κ : Nat → Cls} {i : Nat} {o : Oper} {l : List Oper} {tm : Tm} {S : Sto} {K : Tm → Sto → Prop} {α : Type} {N : Od α}
end
end Go.Abs
end
section
set_option linter.unusedSimpArgs false
set_option linter.unusedVariables false
namespace Go.Abs
open Go Go.RowKit
theorem View.boxV {S : Sto} {i : Abs.Id} {cs ds : List PV} (h : Box (.ptr i 0) cs S) (v : ViewL S false cs ds) : View S false (.ptr i 0) (.fel ds) := by
  obtain ⟨j, e, h⟩ := h
  injection e with e1 e2; subst e1
  exact .ptr h.1 (fun h => by cases h) (by rw [List.drop_zero]; exact v.1) (fun j c d e1 e2 => v.2 j c d (by rwa [List.drop_zero] at e1) e2)
theorem View.fnV {S : Sto} {f : FuncId} {cs ds : List PV} (v : ViewL S false cs ds) : View S false (.fn f cs) (.fn f ds) := .fn v.1 v.2
section
variable {P : Program} {f : FuncId} {os : Array Oper} {κ : Nat → Cls} {i : Nat} {o : Oper} {l : List Oper} {tm : Tm} {S S1 : Sto} {K : Tm → Sto → Prop} {α : Type} {M : Cd α} {t e : TypeId} {x y : Operand}
theorem Evr.trim {P : Program} {f : FuncId} {k : List Item} {tm : Tm} {S : Sto} {R : PV → Sto → Prop} {v : PV} (hv : v = .lit (.slice none 0 0) ∨ ∃ d cs, v = .loc d 0 0 ∧ Live S d ⟨cs, M.n, false⟩) (n : ∀ S1, Vec M [] v S1 → Evr P f k tm S1 R) : Evr P f k tm S R := by
  rcases hv with rfl | ⟨d, cs, rfl, hl⟩
  · exact n S (.inl ⟨rfl, rfl⟩)
  · obtain ⟨w, S', g1, g2⟩ := n (S.set d ⟨[], M.n, false⟩) (.inr ⟨d, [], rfl, hl.set_same, rfl⟩)
    exact ⟨w, S', .trim d 0 hl.1 g1, g2⟩
end
end Go.Abs
end
section
namespace Go.Abs
open Go Go.RowKit
set_option linter.unusedSimpArgs false
set_option linter.unusedVariables false
section
variable {P : Program} {os : Array Oper} {κ : Nat → Cls} {i : Nat} {o : Oper} {l : List Oper} {tm : Tm} {S : Sto} {K : Tm → Sto → Prop} {α : Type} {M : Cd α} {xs : List α} {t e : TypeId} {x : Operand}
end
section
variable {P : Program} {f : FuncId} {c c2 b b2 : Code} {k : List Item} {tm : Tm} {S : Sto} {R : PV → Sto → Prop}
theorem Evr.join2 (J : Tm → Sto → Prop) (n : ∀ tm S, J tm S → Evr P f k tm S R) (h : (∀ tm S, J tm S → Evr P f k tm S R) → Evr P f (.code c :: .code c2 :: k) tm S R) : Evr P f (.code c :: .code c2 :: k) tm S R := h n
end
end Go.Abs
end
section
namespace Go.Abs
open Go Go.RowKit
set_option linter.unusedSimpArgs false
set_option linter.unusedVariables false
def OutT (S0 : Sto) (i0 ids : List Id) : Prop := ∀ j ∈ ids, j ∈ i0 ∨ ∀ o, ¬ Live S0 j o
theorem OutT.nil {S0 : Sto} {i0 : List Id} : OutT S0 i0 [] := fun _ h => by cases h
theorem OutT.box {S0 : Sto} {i : Id} : OutT S0 [i] (PV.ptr i 0).id?.toList := fun j h => .inl h
theorem OutT.lit {S0 : Sto} {i0 : List Id} {v : Value} : OutT S0 i0 (PV.lit v).id?.toList := fun j h => by cases h
theorem OutT.app {S0 : Sto} {i0 a b : List Id} (h : OutT S0 i0 a) (k : OutT S0 i0 b) : OutT S0 i0 (a ++ b) := fun j hj => (List.mem_append.1 hj).elim (h j) (k j)
section
variable {S0 S S1 : Sto} {i0 ids : List Id} {p : PV}
theorem OutT.new {i : Id} (k : OutT S0 [i] p.id?.toList) (a : Ap p (.ptr i 0)) : New S0 p := fun j o ho e => by
  rcases k j (by rw [e]; exact List.mem_singleton.2 rfl) with h | h
  · obtain rfl := List.mem_singleton.1 h
    exact a j e rfl
  · exact h o ho
theorem OutT.fresh {i : Id} (k : OutT S0 [i] ids) (a : ApT (.ptr i 0) ids) : Fresh S0 ids := fun j hj o ho => by
  rcases k j hj with h | h
  · obtain rfl := List.mem_singleton.1 h
    exact a j hj rfl
  · exact h o ho
end
def Sto.only (S : Sto) (ids : List Id) : Sto := { S with obj := fun i => if i ∈ ids then S.obj i else none }
theorem Live.only {S : Sto} {ids : List Id} {i : Id} {o : Obj} (h : Live S i o) (hi : i ∈ ids) : Live (S.only ids) i o := ⟨by simp only [Sto.only, if_pos hi]; exact h.1, h.2⟩
section
variable {P : Program} {f : FuncId} {k : List Item} {tm : Tm} {R : PV → Sto → Prop}
end
theorem Od.only {α : Type} {N : Od α} {S : Sto} {ids js : List Id} {a : α} {c : List PV} (h : N.R S ids a c) (hs : ∀ i ∈ ids, i ∈ js) : N.R (S.only js) ids a c := N.up h fun i hi o ho => ho.only (hs i hi)
end Go.Abs
end
section
namespace Go.Abs
open Go Go.RowKit
set_option linter.unusedSimpArgs false
set_option linter.unusedVariables false
section
variable {P : Program} {f : FuncId} {os : Array Oper} {κ : Nat → Cls} {i : Nat} {o : Oper} {l : List Oper} {tm : Tm} {S : Sto} {K : Tm → Sto → Prop} {α : Type} {M : Cd α} {xs : List α} {t : TypeId}
theorem Opl.oneK {d : Id} {ob : Obj} {v : PV} (hw : wantFn os tm o = some true) (hκ : κ i = .q) (hl : Live S d ob) (hes : ob.rd = false) (h : ∀ S' : Sto, S'.obj d = some ob → opFn P (o.dst.getD 0) tm.opnd S' o.op = some (v, S'))
    (n : Opl P os κ (i + 1) l (tm.put o.dst v) S K) : Opl P os κ i (o :: l) tm S K := Opl.cons (.oneK hw hκ hl.1 hl.2 hes h) n
end
end Go.Abs
end
section
namespace Go.Abs
open Go Go.RowKit
set_option linter.unusedSimpArgs false
set_option linter.unusedVariables false
theorem Up.obj {S S1 : Sto} {p : PV} {d : Id} {o : Obj} (u : Up S S1 p) (h : Live S d o) (a : Ap (.ptr d 0) p) : Live S1 d o := u.live d o h (a d rfl)
theorem New.obj {S : Sto} {p : PV} {d : Id} {o : Obj} (n : New S p) (h : Live S d o) : Ap (.ptr d 0) p := fun j hj e => by
  obtain rfl := Option.some.inj hj
  exact n _ o h e
theorem Grow.obj {S S1 : Sto} {d : Id} {o : Obj} (g : Grow S S1) (h : Live S d o) : Live S1 d o := g.live d o h
section
variable {α : Type} {N : Od α} {S S1 : Sto} {l : List α} {is : List Id} {r : List PV} {p : PV}
theorem Up.rows (u : Up S S1 p) (h : RowsO N S l is r) (a : ApT p is) : RowsO N S1 l is r := h.up fun i hi o ho => u.live i o ho (a i hi)
theorem New.rows (n : New S p) (h : RowsO N S l is r) : ApT p is := fun i hi e => by
  obtain ⟨o, ho, _⟩ := h.live i hi
  exact n i o ho e
theorem Grow.rows (g : Grow S S1) (h : RowsO N S l is r) : RowsO N S1 l is r := h.up (g.kept is)
end
theorem ApT.sub {p : PV} {a b : List Id} (h : ApT p b) (hs : ∀ i ∈ a, i ∈ b) : ApT p a := fun i hi => h i (hs i hi)
theorem OutT.sub {S0 : Sto} {i0 a b : List Id} (h : OutT S0 i0 b) (hs : ∀ i ∈ a, i ∈ b) : OutT S0 i0 a := fun i hi => h i (hs i hi)
theorem ApT.cons {p : PV} {d : Id} {a : List Id} (h : Ap p (.ptr d 0)) (k : ApT p a) : ApT p (d :: a) := fun i hi e => by
  rcases List.mem_cons.1 hi with rfl | hi
  · exact h i e rfl
  · exact k i hi e
theorem OutT.cons {S0 : Sto} {i0 a : List Id} {d : Id} (h : OutT S0 i0 (PV.ptr d 0).id?.toList) (k : OutT S0 i0 a) : OutT S0 i0 (d :: a) := fun i hi => by
  rcases List.mem_cons.1 hi with rfl | hi
  · exact h i (List.mem_singleton.2 rfl)
  · exact k i hi
section
variable {α β γ δ : Type} {A : Cd α} {B : Cd β} {C : Cd γ} {h1 : (cSl A).Ones} {h2 : B.Ones} {h3 : C.Ones} {g : δ → List α × List β × List γ}
end
section
variable {P : Program} {f : FuncId} {os : Array Oper} {κ : Nat → Cls} {i : Nat} {o : Oper} {l : List Oper} {tm : Tm} {S : Sto} {K : Tm → Sto → Prop} {t : TypeId}
theorem Opl.oneW {v : PV} {S' : Sto} (hw : wantFn os tm o = some true) (hκ : κ i = .m) (h : opFn P (o.dst.getD 0) tm.opnd S o.op = some (v, S'))
    (hkeep : ∀ j ob, Live S j ob → ob.rd = false → Live S' j ob) (hback : ∀ j ob, Live S' j ob → ob.rd = false → Live S j ob) (n : Opl P os κ (i + 1) l (tm.put o.dst v) S' K) : Opl P os κ i (o :: l) tm S K :=
  Opl.cons (.oneW hw hκ h (fun j ob a b c => hkeep j ob ⟨a, b⟩ c) (fun j ob a b c => hback j ob ⟨a, b⟩ c)) n
end
section
variable {P : Program} {f : FuncId} {k : List Item} {tm : Tm} {S : Sto} {R : PV → Sto → Prop}
end
theorem Opl.p1 {P : Program} {os : Array Oper} {κ : Nat → Cls} {i : Nat} {o : Oper} {l : List Oper} {tm : Tm} {S S1 : Sto} {K : Tm → Sto → Prop} {v : PV} (hw : wantFn os tm o = some true := by rfl)
    (hk : (clsOf o.op).le (κ i) = true := by rfl) (h : opFn P (o.dst.getD 0) tm.opnd S o.op = some (v, S1) := by simp only [go_sem] <;> rfl) (n : Opl P os κ (i + 1) l (tm.put o.dst v) S1 K) : Opl P os κ i (o :: l) tm S K := Opl.one hw hk h n
theorem Evr.sr {P : Program} {f : FuncId} {os : Array Oper} {b : Code} {id : Nat} {k : List Item} {tm : Tm} {S : Sto} {R : PV → Sto → Prop} (hd : dstsOk (ntOf P f) os = true)
    (h : Opl P os (fun _ => .n) 0 os.toList tm S fun tm1 S1 => Evr P f (.code b :: k) tm1 S1 R) : Evr P f (.code (.seq (.region id os false) b) :: k) tm S R := Evr.seq (Evr.regionN hd h)
end Go.Abs
end
section
namespace Go.Abs
open Go Go.RowKit
section
variable {P : Program} {os : Array Oper} {κ : Nat → Cls} {i : Nat} {o : Oper} {l : List Oper} {tm : Tm} {S : Sto} {K : Tm → Sto → Prop}
end
theorem RetS.mono {P : Program} {f : FuncId} {ps : List PV} {S : Sto} {Q Q' : PV → Sto → Prop} (h : RetS P f ps S Q) (k : ∀ v S', Q v S' → Q' v S') : RetS P f ps S Q' := by
  obtain ⟨v, S', a, b⟩ := h
  exact ⟨v, S', a, k v S' b⟩
end Go.Abs
end
section
namespace Go.Abs
open Go Go.RowKit
def Pre (v w : PV) (b : Nat) : Prop := ∃ d n, v = .loc d 0 n ∧ w = .loc d 0 b ∧ b ≤ n
section
variable {P : Program} {f : FuncId} {os : Array Oper} {κ : Nat → Cls} {i : Nat} {o : Oper} {l : List Oper} {tm : Tm} {S : Sto} {K : Tm → Sto → Prop} {α : Type} {M : Cd α} {xs : List α} {t e : TypeId} {x : Operand} {v w : PV}
theorem Vec.loc (hv : Vec M xs v S) (hne : 0 < xs.length) : ∃ d cs, v = .loc d 0 xs.length ∧ Live S d ⟨cs, M.n, false⟩ ∧ Rows M xs cs := by
  rcases hv with ⟨_, rfl⟩ | ⟨d, cs, h⟩
  · simp at hne
  · exact ⟨d, cs, h⟩
theorem Vec.locW {d : Abs.Id} {m : Nat} (hv : Vec M xs (.loc d 0 m) S) : m = xs.length ∧ ∃ cs, Live S d ⟨cs, M.n, false⟩ ∧ Rows M xs cs := by
  rcases hv with ⟨h, _⟩ | ⟨d', cs, h, h2⟩
  · cases h
  · injection h with h1 _ h3
    subst h1
    exact ⟨h3, cs, h2⟩
end
theorem Evr.cut {P : Program} {f : FuncId} {k : List Item} {tm : Tm} {S : Sto} {R : PV → Sto → Prop} {α : Type} {M : Cd α} {xs : List α} {v w : PV} {b : Nat} (hp : Pre v w b) (hv : Vec M xs v S)
    (n : ∀ S1, Vec M (xs.take b) w S1 → Up S S1 v → (∀ j, w.id? = some j → v.id? = some j) → Evr P f k tm S1 R) : Evr P f k tm S R := by
  obtain ⟨d, m, rfl, rfl, hle⟩ := hp
  obtain ⟨rfl, cs, hl, hr⟩ := hv.locW
  obtain ⟨r, S', g1, g2⟩ := n (S.set d ⟨cs.take (b * M.n), M.n, false⟩) (.inr ⟨d, _, by rw [List.length_take, Nat.min_eq_left hle], hl.set_same, hr.take b⟩)
    ⟨fun k q hk hne => hk.set (fun e => hne (by rw [e]; rfl)), fun _ => Nat.le_refl _⟩ (fun j h => h)
  exact ⟨r, S', .trim d (b * M.n) hl.1 g1, g2⟩
end Go.Abs
end
section
namespace Go.Abs
open Go
section
variable {P : Program} {f : FuncId} {os : Array Oper} {κ : Nat → Cls} {i : Nat} {o : Oper} {l : List Oper} {tm : Tm} {S : Sto} {K : Tm → Sto → Prop} {t e d : TypeId} {x y : Operand} {v : PV}
theorem Opl.adds {a b : ByteArray} {yt : TypeId} (hc : a.size + b.size ≤ 9223372036854775807) (hk : tkAt P t = some .str) (hx : tm.opnd x = .lit (.string a)) (hy : tm.opnd y = .lit (.string b)) (hw : wantFn os tm o = some true) (ho : o.op = .binOp .add t x y yt)
    (n : Opl P os κ (i + 1) l (tm.put o.dst (.lit (.string (a ++ b)))) S K) : Opl P os κ i (o :: l) tm S K := by
  refine Opl.one hw (by rw [ho]; rfl) ?_ n
  rw [ho]
  simp only [opFn, binFn, hk, hx, hy, litBin, strBin, if_pos hc, Option.map_some, justV]
theorem Opl.nestr {a b : ByteArray} {yt : TypeId} (hk : tkAt P t = some .str) (hx : tm.opnd x = .lit (.string a)) (hy : tm.opnd y = .lit (.string b)) (hw : wantFn os tm o = some true) (ho : o.op = .binOp .neq t x y yt)
    (n : Opl P os κ (i + 1) l (tm.put o.dst (.lit (.bool (!(a.toList == b.toList))))) S K) : Opl P os κ i (o :: l) tm S K := by
  refine Opl.one hw (by rw [ho]; rfl) ?_ n
  rw [ho]
  simp only [opFn, binFn, hk, hx, hy, litBin, strBin, Option.map_some, justV]
theorem Opl.slstr {s : ByteArray} {lo hi : Operand} {a b : Int} {k k' : IntKind} (hx : tm.opnd x = .lit (.string s)) (hlo : tm.opnd lo = .lit (.int k a)) (hhi : tm.opnd hi = .lit (.int k' b)) (h0 : 0 ≤ a) (h1 : a ≤ b) (h2 : b ≤ (s.size : Int)) (hk : tkAt P t = some .str)
    (hw : wantFn os tm o = some true) (ho : o.op = .slice t x (some lo) (some hi) none) (hκ : Cls.le .r (κ i) = true) (n : Opl P os κ (i + 1) l (tm.put o.dst (.lit (.string (s.extract a.toNat b.toNat)))) S K) : Opl P os κ i (o :: l) tm S K := by
  refine Opl.one hw (by rw [ho]; exact hκ) ?_ n
  rw [ho]
  simp [opFn, hk, hx, boundFn, PV.int?, hlo, hhi, h0, h1, h2]
theorem bytesOf_rows : ∀ {xs : List Int} {cs : List PV}, Rows (cInt .u8) xs cs → bytesOf cs = some (xs.map fun n => UInt8.ofNat n.toNat)
  | [], cs, h => by rw [show cs = [] from h]; rfl
  | x :: xs, cs, h => by
    obtain ⟨c, r, rfl, hc, hr⟩ := h
    rw [show c = [.lit (.int .u8 x)] from hc]
    simp [bytesOf, bytesOf_rows hr]
theorem Opl.bstr {xs : List Int} (hv : Vec (cInt .u8) xs v S) (hx : tm.opnd x = v) (hne : 0 < xs.length) (hk : tkAt P t = some (.slice e)) (hd : tkAt P d = some .str) (he : tkAt P e = some (.int .u8))
    (hw : wantFn os tm o = some true) (ho : o.op = .convert t d x) (hκ : Cls.le .r (κ i) = true) (n : Opl P os κ (i + 1) l (tm.put o.dst (.lit (.string (strOfNums xs)))) S K) : Opl P os κ i (o :: l) tm S K := by
  obtain ⟨q, cs, rfl, hl, hr⟩ := hv.loc hne
  refine Opl.one hw (by rw [ho]; exact hκ) ?_ n
  have hn : cs.length = xs.length := by have := hr.length; simpa [cInt] using this
  have hb : S.rowOf 1 (.loc q 0 xs.length) = some cs := by simp [Sto.rowOf, hl.1, hn, List.take_of_length_le]
  rw [ho]
  simp only [opFn, hx, hk, hd, he, hb, bytesOf_rows hr]
  rfl
end
end Go.Abs
end
section
set_option linter.unusedVariables false
set_option linter.unusedSimpArgs false
namespace Go.Abs
open Go Go.RowKit
def All (w : World) (b : Nat) : Prop := b < w.heap.size
def None (_ : Id) : Option Loc := none
theorem Ret.calls {P : Program} (hm : P.follows .mixedOrders = true) {f : FuncId} {ps : List PV} {c : Value} (h : Ret P f ps fun v _ => v = .lit c) {w : World} {vals : Array Value} (ha : RelA w (All w) None ps vals.toList) :
    Calls P f vals w fun e w' => e = .returned c ∧ Below w.heap.size w w' := by
  obtain ⟨r, S', h1, rfl⟩ := h
  refine ((call_sound hm f ps .empty _ S' h1).2 vals w None (All w) (fun _ => False) ha (Inv.empty fun b hb => hb.elim id False.elim)).mono fun e w' ⟨val, L', F', he, hr, _, hx⟩ => ?_
  obtain rfl : val = c := by cases hr; rfl
  exact ⟨he, hx.os, hx.tape, hx.output, hx.size, fun k hk => hx.heap k (.inl hk)⟩
def OpensP (P : Program) (t : TypeId) {α : Type} (M : Cd α) (φ : α → Prop) : Prop :=
  P.cellsOf t = M.n ∧ ∀ {H : Type} (enc : TypeId × Value → H) (w : World) (fuel : Nat) (cs : List Value) (x : DataW H × List MemPlace),
    DataW.trod enc P w 0 (fun _ => true) true fuel t cs = some x → ∃ y c, M.R y c ∧ RelA w (All w) None c cs ∧ φ y
section
variable {P : Program}
theorem opensP_int {t : TypeId} {k : IntKind} (ht : P.underlying t = some (.int k)) (hc : P.cellsOf t = 1) : OpensP P t (cInt k) (fun y => (Lit.int k y).wf = true) := by
  refine ⟨hc, fun enc w fuel cs x h => ?_⟩
  obtain ⟨n, rfl, _, hw⟩ := DataW.trod_int ht h
  exact ⟨n, _, rfl, .one (.lit _), hw⟩
theorem opensP_iso {t : TypeId} {α β : Type} {M : Cd α} {φ : α → Prop} {f : β → α} (g : α → β) (hg : ∀ x, f (g x) = x) (h : OpensP P t M φ) : OpensP P t (cIso M f) (fun y => φ (f y)) := by
  refine ⟨h.1, fun enc w fuel cs x hx => ?_⟩
  obtain ⟨y, c, hR, hr, hφ⟩ := h.2 enc w fuel cs x hx
  exact ⟨g y, c, by show M.R (f (g y)) c; rw [hg]; exact hR, hr, by show φ (f (g y)); rw [hg]; exact hφ⟩
theorem opensP_slice {t e : TypeId} {α : Type} {M : Cd α} {φ : α → Prop} (ht : P.underlying t = some (.slice e)) (hc : P.cellsOf t = 1) (hp : 0 < M.n) (he : OpensP P e M φ) :
    OpensP P t (cSl M) (fun xs => xs.length ≤ 9223372036854775807 ∧ ∀ x ∈ xs, φ x) := by
  refine ⟨hc, fun {H} enc w fuel cs x h => ?_⟩
  rcases DataW.trod_slice ht h with ⟨rfl, _⟩ | ⟨a, len, cap, elems, rest, n, _, rfl, _, _, hl, hm, hlen, hel, hsp, _⟩
  · exact ⟨[], _, ⟨_, rfl, .nil⟩, .one (.lit _), by simp, fun x hx => by simp at hx⟩
  by_cases hcap : cap = 0
  · obtain rfl : len = 0 := by omega
    subst hcap
    exact ⟨[], _, ⟨_, rfl, Sl.rows (cs := []) rfl⟩, .one (.wild a), by simp, fun x hx => by simp at hx⟩
  have hmx : len ≤ 9223372036854775807 := by simp only [maxLen] at hm; omega
  -- its address is a plain one, in a block that is there
  have hplace : a.spot = none ∧ a.block < w.heap.size := by
    have hfirst : ∃ u, w.cell? a = some u := by
      have key : ∀ (l : List (DataW H × List MemPlace)) (m : Nat), m = 0 → 0 < l.length → (w.cells? 0 (a.add (m * P.cellsOf e)) (P.cellsOf e)).bind (DataW.trod enc P w 0 (fun _ => true) true n e) = l[0]? → ∃ u, w.cell? a = some u := by
        intro l m hm hl hx
        rw [List.getElem?_eq_getElem hl] at hx
        obtain ⟨cs', hcs, _⟩ := Option.bind_eq_some_iff.1 hx
        obtain ⟨_, hcl, hcell⟩ := World.cells?_some hcs
        have h0 := hcell 0 (by rw [he.1]; exact hp)
        rw [List.getElem?_eq_getElem (by rw [hcl, he.1]; exact hp)] at h0
        rw [hm, Nat.zero_mul] at h0
        exact ⟨_, h0⟩
      by_cases hl0 : len = 0
      · obtain ⟨h1, h2⟩ := hsp rfl
        exact key rest (len + 0) (by omega) (by omega) (h2 0 (by omega))
      · exact key elems 0 rfl (by omega) (hel 0 (by omega))
    obtain ⟨u, hu⟩ := hfirst
    refine ⟨World.cell?_spot hu, ?_⟩
    unfold World.cell? at hu
    split at hu
    · rename_i hb
      obtain ⟨hlt, _⟩ := Array.getElem?_eq_some_iff.1 hb
      exact hlt
    · cases hu
  obtain ⟨b, off, sp⟩ := a
  obtain ⟨rfl, hb⟩ := hplace
  have hrow : ∀ m, m ≤ len → ∃ (l : List α) (c : List PV) (vs : List Value), l.length = m ∧ Rows M l c ∧ RelA w (All w) None c vs ∧ vs.length = m * M.n ∧ HCells w b off vs ∧ ∀ x ∈ l, φ x := by
    intro m
    induction m with
    | zero => exact fun _ => ⟨[], [], [], rfl, rfl, .nil, by simp, fun j u hu => by simp at hu, fun x hx => by cases hx⟩
    | succ m ih =>
      intro hle
      obtain ⟨l, c, vs, g1, g2, g3, g4, g5, g6⟩ := ih (by omega)
      have h1 := hel m (by omega)
      rw [List.getElem?_eq_getElem (show m < elems.length by omega)] at h1
      obtain ⟨cs', hcs, htr⟩ := Option.bind_eq_some_iff.1 h1
      obtain ⟨y, d, hR, hr, hφ⟩ := he.2 enc w n cs' _ htr
      obtain ⟨_, hcl, hcell⟩ := World.cells?_some hcs
      rw [he.1] at hcl hcell
      refine ⟨l ++ [y], c ++ d, vs ++ cs', by simp [g1], g2.append (Rows.one hR), g3.append hr, by rw [List.length_append, g4, hcl, Nat.add_mul, Nat.one_mul], fun j u hu => ?_, fun x hx => ?_⟩
      · rw [List.getElem?_append] at hu
        split at hu
        · exact g5 j u hu
        · rename_i hj
          rw [g4] at hu hj
          have hj2 : j - m * M.n < M.n := by have := (List.getElem?_eq_some_iff.1 hu).1; omega
          have h2 := hcell (j - m * M.n) hj2
          rw [Go.Deep.add_add, hu] at h2
          rw [← h2, show m * M.n + (j - m * M.n) = j by omega, Go.WideShapes.add_plain]
      · rcases List.mem_append.1 hx with hx | hx
        · exact g6 x hx
        · obtain rfl := List.mem_singleton.1 hx
          exact hφ
  obtain ⟨l, c, vs, g1, g2, g3, g4, g5, g6⟩ := hrow len (Nat.le_refl _)
  refine ⟨l, _, ⟨_, rfl, Sl.rows g2⟩, .one ?_, by omega, g6⟩
  rw [g1]
  exact .slA hb hl g3 g5
structure FieldsP (P : Program) (fs : List Field) (off : Nat) {α : Type} (M : Cd α) (φ : α → Prop) : Prop where
  run : ∀ {H : Type} (enc : TypeId × Value → H) (w : World) (cs : List Value), cs.length = off + M.n →
    (∀ f ∈ fs, ∃ n x, DataW.trod enc P w 0 (fun _ => true) true n f.type ((cs.drop f.offset).take (P.cellsOf f.type)) = some x) → ∃ y c, M.R y c ∧ RelA w (All w) None c (cs.drop off) ∧ φ y
theorem fields_last {f : Field} {off : Nat} {α : Type} {M : Cd α} {φ : α → Prop} (ho : f.offset = off) (h : OpensP P f.type M φ) : FieldsP P [f] off M φ := .mk fun enc w cs hl hf => by
  obtain ⟨n, x, hx⟩ := hf f (List.mem_singleton.2 rfl)
  obtain ⟨y, c, h1, h2, h3⟩ := h.2 enc w n _ x hx
  rw [ho, List.take_of_length_le (by rw [List.length_drop, hl, h.1]; omega)] at h2
  exact ⟨y, c, h1, h2, h3⟩
theorem fields_cons {f : Field} {fs : List Field} {off : Nat} {α β : Type} {M : Cd α} {N : Cd β} {φ : α → Prop} {ψ : β → Prop} (ho : f.offset = off) (h : OpensP P f.type M φ) (hr : FieldsP P fs (off + M.n) N ψ) :
    FieldsP P (f :: fs) off (cPair M N) (fun x => φ x.1 ∧ ψ x.2) := .mk fun enc w cs hl hf => by
  obtain ⟨n, x, hx⟩ := hf f List.mem_cons_self
  obtain ⟨y, c, h1, h2, h3⟩ := h.2 enc w n _ x hx
  obtain ⟨z, d, k1, k2, k3⟩ := hr.run enc w cs (by rw [hl]; show off + (M.n + N.n) = _; omega) (fun g hg => hf g (List.mem_cons_of_mem _ hg))
  rw [ho, h.1] at h2
  refine ⟨(y, z), c ++ d, ⟨c, d, rfl, h1, k1⟩, ?_, h3, k3⟩
  have := h2.append k2
  rwa [← List.drop_drop, List.take_append_drop] at this
theorem opensP_struct {t : TypeId} {fs : Array Field} {α : Type} {M : Cd α} {φ : α → Prop} (ht : P.underlying t = some (.struct fs)) (hc : P.cellsOf t = M.n) (h : FieldsP P fs.toList 0 M φ) : OpensP P t M φ := by
  refine ⟨hc, fun enc w fuel cs x hx => ?_⟩
  obtain ⟨xs, n, _, _, hl, hlen, hf⟩ := DataW.trod_struct ht hx
  have := h.run enc w cs (by rw [hl, hc]; omega) (fun f hm => ?_)
  · simpa using this
  · obtain ⟨i, hi, rfl⟩ := List.mem_iff_getElem.1 hm
    have hlt : i < fs.size := by simpa using hi
    have := hf i fs[i] (by simp [hlt])
    rw [List.getElem?_eq_getElem (by omega)] at this
    exact ⟨n, _, by simpa using this⟩
theorem openP_arg {t : TypeId} {α : Type} {M : Cd α} {φ : α → Prop} {H : Type} {enc : TypeId × Value → H} {w : World} {v : Value} {x : DataW H} {ps : List MemPlace} (ho : OpensP P t M φ)
    (h : DataW.Trod enc P w 0 (fun _ => true) true t v x ps) : ∃ y c, M.R y c ∧ RelA w (All w) None c v.cells.toList ∧ φ y := by
  obtain ⟨fuel, hf⟩ := h
  exact ho.2 enc w fuel _ _ hf
theorem openP_agg {t : TypeId} {α : Type} {M : Cd α} {φ : α → Prop} {H : Type} {enc : TypeId × Value → H} {w : World} {cs : Array Value} {x : DataW H} {ps : List MemPlace} (ho : OpensP P t M φ)
    (h : DataW.Trod enc P w 0 (fun _ => true) true t (.agg cs) x ps) : ∃ y c, M.R y c ∧ Rel w (All w) None (.agg c) (.agg cs) ∧ φ y := by
  obtain ⟨y, c, h1, h2, h3⟩ := openP_arg ho h
  exact ⟨y, c, h1, .aggA h2, h3⟩
theorem relA_nil {w : World} : RelA w (All w) None [] [] := .nil
theorem relA_cons {w : World} {p : PV} {v : Value} {ps : List PV} {vs : List Value} (h : Rel w (All w) None p v) (k : RelA w (All w) None ps vs) : RelA w (All w) None (p :: ps) (v :: vs) := (RelA.one h).append k
end
end Go.Abs
end
