/- The plain side: what the Lean functions compute, without Go and memory; each theorem under the conditions that it names. -/
import Derived.Test.YtigbbefdndcmbaaProg
import Derived.Below
import Derived.Deep.Draws
import Derived.Deep.AppendLies
import Derived.Maps.AppendAt
import Derived.OwnWalk
import Derived.Laws.BytesArg
import Derived.Laws.MakeOwn
import Derived.Laws.OwnMore
import Derived.Deep.OwnRows
import Derived.Tactics
import Derived.Lib.ConvBytes
import Derived.Laws.Slices
import Derived.WalkKit
import Derived.KernelRfl
import Derived.RowKit3
import Derived.Deep.LoopGhost
import Derived.Deep.QuietTactic
import Derived.BigQuiet
import Derived.WideLaws
import Derived.Deep.DeepCutAuto
import Derived.Deep.CutBlock
import Derived.Deep.RegionHeld3
import Derived.Laws.Rows
import Derived.Lib.AppendStr
import Derived.ArgAppend
import Derived.Laws.IdiomCopy
import Derived.OrdersHeld
import Derived.Laws.BitsLemmas
import Derived.RowKit
import Derived.Laws.StructEq
import Derived.Lib.SliceRun
import Derived.WalkSpells
import Derived.ChangeArms
import Derived.ChangeSlices
import Derived.Deep.Slices
import Derived.Test.YtigbbefdndcmbaaKD179b97779f
section
set_option linter.unusedVariables false
set_option linter.unusedSimpArgs false
namespace Go.Proofs.Ytigbbefdndcmbaa.PA
open Go.RowKit Go.Proofs.YtigbbefdndcmbaaW.PrintWords
theorem ev_ret {α : Type} (r : α) : Ev (fun _ => some r) r := Ev.now r
theorem ev_pos {α : Type} {c : Prop} [Decidable c] {f g : Nat → Option α} {r : α} (h : c) (k : Ev f r) : Ev (fun n => if c then f n else g n) r := by
  simpa [h] using k
theorem ev_neg {α : Type} {c : Prop} [Decidable c] {f g : Nat → Option α} {r : α} (h : ¬ c) (k : Ev g r) : Ev (fun n => if c then f n else g n) r := by
  simpa [h] using k
theorem ev_ite {α : Type} {c : Prop} [Decidable c] {f g : Nat → Option α} {r : α} (h1 : c → Ev f r) (h2 : ¬ c → Ev g r) : Ev (fun n => if c then f n else g n) r := by
  by_cases h : c
  · exact ev_pos h (h1 h)
  · exact ev_neg h (h2 h)
theorem ev_bind {α β : Type} {g : Nat → Option α} {f : Nat → α → Option β} {a : α} {r : β} (h : Ev g a) (k : Ev (fun n => f n a) r) : Ev (fun n => (g n).bind (fun t => f n t)) r := Ev.bind h k
theorem ev_fix {α : Type} {o : Option α} {r : α} (h : o = some r) : Ev (fun _ => o) r := ⟨0, fun _ _ => h⟩
theorem ev_eq {α : Type} {g : Nat → Option α} {r r' : α} (h : Ev g r) (e : r = r') : Ev g r' := e ▸ h
theorem wrap_in {x : Int} (h0 : -9223372036854775808 ≤ x) (h1 : x ≤ 9223372036854775807) : wrap64 x = x := by unfold wrap64; omega
theorem wrap_nat {n m : Nat} (h : n < m) (hm : m ≤ 9223372036854775807) : wrap64 ((n : Int) + 1) = ((n + 1 : Nat) : Int) := by unfold wrap64; omega
theorem getD_of {α : Type} {xs : List α} {n : Nat} {x d : α} (h : xs[n]? = some x) : xs.getD (n : Int).toNat d = x := by
  simp [List.getD_eq_getElem?_getD, h]
def SzOk (f : Nat → Option Int) (a : Int) (P : Prop) : Prop := ∃ r, Ev f r ∧ (r < 0 ∨ (0 ≤ r ∧ r ≤ a ∧ P))
def inR (n lo hi : Int) : Bool := decide (lo ≤ n ∧ n ≤ hi)
theorem inR_iff {n lo hi : Int} : inR n lo hi = true ↔ lo ≤ n ∧ n ≤ hi := by simp [inR]
theorem spec_l1In_eq (n lo hi : Int) : spec_l1In.f n lo hi = some (inR n lo hi) := by
  unfold spec_l1In.f inR
  by_cases h : n ≥ lo
  · rw [if_pos h]; congr 1; simp; omega
  · rw [if_neg h]; congr 1; simp; omega
theorem impl_in_eq (n lo hi : Int) : impl_in.f n lo hi = some (inR n lo hi) := by
  unfold impl_in.f inR
  by_cases h : n ≥ lo
  · rw [if_pos h]; congr 1; simp; omega
  · rw [if_neg h]; congr 1; simp; omega
def Evp (G : Nat → Prop) : Prop := ∃ n, ∀ k, n ≤ k → G k
theorem Evp.get {G : Nat → Prop} (h : Evp G) : ∃ k, G k := let ⟨n, h⟩ := h; ⟨n, h n (Nat.le_refl _)⟩
theorem Evp.of {P : Prop} (h : P) : Evp fun _ => P := ⟨0, fun _ _ => h⟩
theorem Evp.and {G H : Nat → Prop} (g : Evp G) (h : Evp H) : Evp fun k => G k ∧ H k := by
  obtain ⟨n, g⟩ := g
  obtain ⟨m, h⟩ := h
  exact ⟨max n m, fun k hk => ⟨g k (by omega), h k (by omega)⟩⟩
theorem Evp.fact {α : Type} {f : Nat → Option α} {r : α} {H : Nat → Prop} (g : Ev f r) (h : Evp H) : Evp fun k => f k = some r ∧ H k := Evp.and (G := fun k => f k = some r) g h
theorem Evp.inl {G H : Nat → Prop} (g : Evp G) : Evp fun k => G k ∨ H k := let ⟨n, g⟩ := g; ⟨n, fun k hk => .inl (g k hk)⟩
theorem Evp.inr {G H : Nat → Prop} (g : Evp H) : Evp fun k => G k ∨ H k := let ⟨n, g⟩ := g; ⟨n, fun k hk => .inr (g k hk)⟩
theorem Evp.ex {α : Type} {G : Nat → α → Prop} (a : α) (g : Evp fun k => G k a) : Evp fun k => ∃ x, G k x := let ⟨n, g⟩ := g; ⟨n, fun k hk => ⟨a, g k hk⟩⟩
theorem Evp.guard {P : Prop} {H : Nat → Prop} (h : ¬ P → Evp H) : Evp fun k => P ∨ H k := by
  by_cases p : P
  · exact .inl (.of p)
  · exact .inr (h p)
theorem Evp.sz {f : Nat → Option Int} {a : Int} {P : Prop} (hf : SzOk f a P) {H : Nat → Int → Prop} (h : ∀ r, 0 ≤ r → r ≤ a → P → Evp fun k => H k r) : Evp fun k => ∃ t : Int, f k = some t ∧ (t < 0 ∨ H k t) := by
  obtain ⟨r, h1, h2⟩ := hf
  refine .ex r (.fact h1 ?_)
  rcases h2 with h2 | ⟨h2, h3, h4⟩
  · exact .inl (.of h2)
  · exact .inr (h r h2 h3 h4)
def valOk (k v : Int) : Prop := (k = 1 → -9999 ≤ v ∧ v ≤ 9999) ∧ (k = 2 → 0 ≤ v ∧ v ≤ 1)
structure ValsOk (ks vs : List Int) : Prop where
  len : vs.length = ks.length
  at_ : ∀ i : Nat, i < ks.length → valOk (ks.getD i 0) (vs.getD i 0)
theorem ValsOk.nil : ValsOk [] [] := ⟨rfl, fun i h => absurd h (Nat.not_lt_zero i)⟩
theorem ValsOk.rd {ks vs : List Int} (h : ValsOk ks vs) {i : Int} (h0 : inR i 0 ((ks.length : Int) - 1) = true) : valOk (rd ks i) (rd vs i) := by
  have := inR_iff.1 h0
  have e := h.at_ i.toNat (by omega)
  exact e
theorem ValsOk.push {ks vs : List Int} (h : ValsOk ks vs) {k v : Int} (hv : valOk k v) : ValsOk (ks ++ [k]) (vs ++ [v]) := by
  refine ⟨by simp [h.len], fun i hi => ?_⟩
  rw [List.length_append, List.length_singleton] at hi
  by_cases e : i < ks.length
  · have := h.at_ i e
    rw [List.getD_eq_getElem?_getD, List.getD_eq_getElem?_getD] at this ⊢
    rw [List.getElem?_append_left e, List.getElem?_append_left (by rw [h.len]; exact e)]
    exact this
  · have e' : i = ks.length := by omega
    subst e'
    rw [List.getD_eq_getElem?_getD, List.getD_eq_getElem?_getD, List.getElem?_append_right (Nat.le_refl _), List.getElem?_append_right (by rw [h.len]; exact Nat.le_refl _), h.len]
    simpa using hv
theorem ev_index {α : Type} {da : α} (L : Nat → Int → Option Int) (F : Nat → α → Option Bool) (xs : List α) (p : α → Bool) (hl : xs.length ≤ 9223372036854775807)
    (hL : ∀ k i, L (k + 1) i = if i < (xs.length : Int) then (if 0 ≤ i then (if i < (xs.length : Int) then ((F k (xs.getD i.toNat da)).bind fun t => if t = true then some i else L k (wrap64 (i + 1))) else none) else none) else some (-1))
    (hF : ∀ x ∈ xs, Ev (fun k => F k x) (p x)) : ∃ r, Ev (fun k => L k 0) r ∧ decide (r ≥ 0) = xs.any p := by
  have key : ∀ d n : Nat, xs.length - n = d → n ≤ xs.length → ∃ r, Ev (fun k => L k (n : Int)) r ∧ decide (r ≥ 0) = (xs.drop n).any p := by
    intro d
    induction d with
    | zero =>
      intro n h1 h2
      have : n = xs.length := by omega
      subst this
      exact ⟨-1, Ev.step (fun k => hL k _) (ev_neg (by omega) (ev_ret _)), by rw [List.drop_length]; rfl⟩
    | succ d ih =>
      intro n h1 h2
      have hn : n < xs.length := by omega
      have hx := List.getElem?_eq_getElem hn
      rw [List.drop_eq_getElem_cons hn, List.any_cons]
      have hf := hF _ (List.getElem_mem hn)
      cases hp : p xs[n] with
      | true =>
        rw [hp] at hf
        refine ⟨(n : Int), Ev.step (fun k => hL k _) (ev_pos (by omega) (ev_pos (by omega) (ev_pos (by omega) ?_))), by simp⟩
        rw [getD_of hx]
        exact ev_bind hf (ev_pos rfl (ev_ret _))
      | false =>
        rw [hp] at hf
        obtain ⟨r, h3, h4⟩ := ih (n + 1) (by omega) (by omega)
        refine ⟨r, Ev.step (fun k => hL k _) (ev_pos (by omega) (ev_pos (by omega) (ev_pos (by omega) ?_))), by rw [h4]; rfl⟩
        rw [getD_of hx, wrap_nat hn (by omega)]
        exact ev_bind hf (ev_neg (by simp) h3)
  have := key xs.length 0 (by omega) (by omega)
  simpa using this
theorem ev_contains {α : Type} {da : α} (L : Nat → Int → Option Int) (F : Nat → α → Option Bool) (xs : List α) (p : α → Bool) (hl : xs.length ≤ 9223372036854775807)
    (hL : ∀ k i, L (k + 1) i = if i < (xs.length : Int) then (if 0 ≤ i then (if i < (xs.length : Int) then ((F k (xs.getD i.toNat da)).bind fun t => if t = true then some i else L k (wrap64 (i + 1))) else none) else none) else some (-1))
    (hF : ∀ x ∈ xs, Ev (fun k => F k x) (p x)) : Ev (fun k => (L k 0).bind fun t => some (decide (t ≥ 0))) (xs.any p) := by
  obtain ⟨r, h1, h2⟩ := ev_index L F xs p hl hL hF
  exact ev_bind h1 (ev_eq (ev_ret _) h2)
def areBits (l : List Int) : Bool := l.all fun x => inR x 0 1
theorem impl_bitsValid_ev (l : List Int) (hl : l.length ≤ 9223372036854775807) : Ev (fun k => impl_bitsValid.f k l) (areBits l) := by
  unfold impl_bitsValid.f slices_ContainsFunc_at_impl_bitsValid_1.f slices_IndexFunc_at_impl_bitsValid_1.f
  refine ev_bind (ev_contains (da := (0 : Int)) (fun k i => slices_IndexFunc_at_impl_bitsValid_1.l0 k l (l.length : Int) i) (fun _ x => impl_bitsValid_1.f x) l (fun x => !inR x 0 1) hl (fun k i => by rw [slices_IndexFunc_at_impl_bitsValid_1.l0]; rfl)
    (fun x _ => ev_fix (by unfold impl_bitsValid_1.f; rw [impl_in_eq]; rfl))) (ev_eq (ev_ret _) ?_)
  unfold areBits
  rw [List.not_any_eq_all_not]
  simp
theorem rd_at {set : List Int} {n : Nat} (h : n < set.length) : rd set (n : Int) = set[n] := getD_of (List.getElem?_eq_getElem h)
def absP (n : Int) : Int := if n < 0 then -n else n
def litOk (atoms x : Int) : Bool := decide (x ≠ 0) && inR x (-atoms) atoms
def clauseGo (atoms : Int) (l : List Int) : Nat → List Int → Bool
  | _, [] => true
  | n, x :: r => (litOk atoms x && (decide (n = 0) || decide (absP (l.getD (n - 1) 0) < absP x))) && clauseGo atoms l (n + 1) r
def clauseP (l : List Int) (atoms : Int) : Bool := clauseGo atoms l 0 l
theorem litOk_in {atoms x : Int} (h : litOk atoms x = true) : x ≠ 0 ∧ -atoms ≤ x ∧ x ≤ atoms := by
  unfold litOk at h
  rw [Bool.and_eq_true, decide_eq_true_eq, inR_iff] at h
  exact h
theorem abs_le {n : Int} : 0 ≤ absP n ∧ (absP n = n ∨ absP n = -n) := by unfold absP; split <;> omega
theorem spec_l11Abs_eq {n : Int} (h : -700 ≤ n ∧ n ≤ 700) : spec_l11Abs.f n = some (absP n) := by
  unfold spec_l11Abs.f absP
  rw [wrap_in (x := -n) (by omega) (by omega)]
  split <;> rfl
theorem impl_atomOf_eq {n : Int} (h : -700 ≤ n ∧ n ≤ 700) : impl_atomOf.f n = some (absP n) := by
  unfold impl_atomOf.f absP mx
  rw [wrap_in (x := -n) (by omega) (by omega)]
  split <;> split <;> first | rfl | (congr 1; omega)
theorem clauseGo_at {atoms : Int} {l : List Int} : ∀ (r : List Int) (n : Nat), clauseGo atoms l n r = true → ∀ x ∈ r, litOk atoms x = true
  | [], n, _, x, hx => by cases hx
  | y :: r, n, h, x, hx => by
    unfold clauseGo at h
    simp only [Bool.and_eq_true] at h
    rcases List.mem_cons.1 hx with rfl | hx
    · exact h.1.1
    · exact clauseGo_at r (n + 1) h.2 x hx
theorem clauseP_lit {l : List Int} {atoms : Int} (h : clauseP l atoms = true) : ∀ x ∈ l, litOk atoms x = true := clauseGo_at l 0 h
theorem impl_ClauseValid_ev (l : List Int) {atoms : Int} (ha : 0 ≤ atoms ∧ atoms ≤ 700) (hl : l.length ≤ 9223372036854775806) : Ev (fun k => impl_ClauseValid.f k l atoms) (clauseP l atoms) := by
  unfold impl_ClauseValid.f clauseP
  have key : ∀ d n : Nat, l.length - n = d → n ≤ l.length → (n = 0 ∨ litOk atoms (l.getD (n - 1) 0) = true) → Ev (fun k => impl_ClauseValid.l0 k l atoms l (l.length : Int) (n : Int)) (clauseGo atoms l n (l.drop n)) := by
    intro d
    induction d with
    | zero =>
      intro n g1 g2 g3
      have : n = l.length := by omega
      subst this
      rw [List.drop_length]
      refine Ev.step (fun k => by rw [impl_ClauseValid.l0]) ?_
      exact ev_neg (by omega) (ev_ret _)
    | succ d ih =>
      intro n g1 g2 g3
      have hn : n < l.length := by omega
      have hx := rd_at hn
      have hget : l.getD n 0 = l[n] := by rw [List.getD_eq_getElem?_getD, List.getElem?_eq_getElem hn]; rfl
      rw [List.drop_eq_getElem_cons hn]
      generalize hq : l[n] = x at *
      unfold clauseGo
      have go : ∀ b, (b = false → litOk atoms x = true) → Ev (fun k => impl_ClauseValid.j1 k l atoms l (l.length : Int) (n : Int) b) (!b && clauseGo atoms l (n + 1) (l.drop (n + 1))) := fun b hL => by
        refine Ev.step (fun k => by rw [impl_ClauseValid.j1, wrap_nat hn (by omega)]) ?_
        cases b with
        | true => exact ev_pos rfl (ev_ret _)
        | false => exact ev_neg (by simp) (ih (n + 1) (by omega) (by omega) (.inr (by rw [Nat.add_sub_cancel, hget]; exact hL rfl)))
      have hw2 : wrap64 (-atoms) = -atoms := wrap_in (by omega) (by omega)
      refine Ev.step (fun k => by rw [impl_ClauseValid.l0, hx, hw2, impl_in_eq]) ?_
      clear hw2
      refine ev_pos (by omega) (ev_pos (by omega) (ev_pos (by omega) (ev_bind (ev_ret _) ?_)))
      by_cases i : inR x (-atoms) atoms = true
      · refine ev_pos i ?_
        by_cases z0 : x = 0
        · refine ev_pos z0 (ev_eq (go true (by simp)) ?_)
          unfold litOk
          simp [z0]
        · have e : litOk atoms x = true := by unfold litOk; rw [i, decide_eq_true z0]; rfl
          have hxi := litOk_in e
          refine ev_neg z0 ?_
          rw [e, Bool.true_and]
          by_cases z : n = 0
          · subst z
            exact ev_neg (by omega) (ev_eq (go false fun _ => e) (by simp))
          · rcases g3 with g3 | g3
            · exact absurd g3 z
            have hpi := litOk_in g3
            rw [decide_eq_false z, Bool.false_or]
            have w : wrap64 ((n : Int) - 1) = ((n - 1 : Nat) : Int) := by rw [wrap_in (by omega) (by omega)]; omega
            have hr : rd l ((n - 1 : Nat) : Int) = l.getD (n - 1) 0 := rfl
            rw [w, hr]
            clear w
            refine ev_pos (by omega) (ev_pos (by omega) (ev_pos (by omega) (ev_bind (ev_fix (impl_atomOf_eq (by omega))) (ev_bind (ev_fix (impl_atomOf_eq (by omega))) (ev_eq (go _ fun _ => e) ?_)))))
            congr 1
            rw [Bool.eq_iff_iff]
            simp
      · refine ev_neg i (ev_eq (go true (by simp)) ?_)
        have : litOk atoms x = false := by unfold litOk; rw [Bool.not_eq_true] at i; rw [i, Bool.and_false]
        rw [this]; rfl
  have := key l.length 0 (by omega) (by omega) (.inl rfl)
  refine ev_bind (ev_fix (impl_in_eq _ _ _)) (ev_pos (inR_iff.2 ha) ?_)
  simpa using this
def clausesP (atoms : Int) (list : List (List Int)) : Bool := inR atoms 0 700 && (decide (list.length ≤ 2500) && list.all fun c => clauseP c atoms)
theorem all_any {α : Type} (l : List α) (p : α → Bool) : (!l.any fun x => !p x) = l.all p := by
  induction l with
  | nil => rfl
  | cons a l ih => rw [List.any_cons, List.all_cons, Bool.not_or, Bool.not_not, ih]
theorem impl_ClausesValid_ev (atoms : Int) (list : List (List Int)) (hl : list.length ≤ 9223372036854775806) (hx : ∀ c ∈ list, c.length ≤ 9223372036854775806) : Ev (fun k => impl_ClausesValid.f k atoms list) (clausesP atoms list) := by
  unfold impl_ClausesValid.f clausesP
  rw [impl_in_eq]
  refine ev_bind (ev_ret _) ?_
  by_cases c : inR atoms 0 700 = true
  · have ha := inR_iff.1 c
    rw [c]
    refine ev_pos rfl ?_
    by_cases n : list.length ≤ 2500
    · rw [decide_eq_true n, Bool.true_and, Bool.true_and, ← all_any]
      refine ev_pos (by omega) (ev_bind ?_ (ev_ret _))
      unfold slices_ContainsFunc_at_impl_ClausesValid_1.f slices_IndexFunc_at_impl_ClausesValid_1.f
      refine ev_contains (da := ([] : List Int)) (fun k i => slices_IndexFunc_at_impl_ClausesValid_1.l0 k list (list.length : Int) i atoms list) (fun k c => impl_ClausesValid_1.f k c atoms list) list (fun c => !clauseP c atoms) (by omega) (fun k i => by rw [slices_IndexFunc_at_impl_ClausesValid_1.l0]; rfl) (fun c hc => ?_)
      unfold impl_ClausesValid_1.f
      exact ev_bind (impl_ClauseValid_ev c ha (hx c hc)) (ev_ret _)
    · refine ev_neg (by omega) (ev_eq (ev_ret _) ?_)
      rw [decide_eq_false n]; rfl
  · rw [Bool.not_eq_true] at c
    rw [c]
    exact ev_neg (by simp) (ev_ret _)
theorem clausesP_and {atoms : Int} {list : List (List Int)} (h : clausesP atoms list = true) : (0 ≤ atoms ∧ atoms ≤ 700) ∧ list.length ≤ 2500 ∧ ∀ c ∈ list, ∀ x ∈ c, litOk atoms x = true := by
  unfold clausesP at h
  simp only [Bool.and_eq_true, inR_iff, decide_eq_true_eq, List.all_eq_true] at h
  exact ⟨h.1, h.2.1, fun c hc => clauseP_lit (h.2.2 c hc)⟩
def litP (bits : List Int) (x : Int) : Bool := decide (bits.getD (absP x - 1).toNat 0 = if x < 0 then 0 else 1)
def trueP (list : List (List Int)) (bits : List Int) : Bool := list.all fun c => c.any (litP bits)
theorem impl_litTrue_eq {x : Int} {bits : List Int} {atoms : Int} (h : litOk atoms x = true) (ha : atoms ≤ 700) (hb : (bits.length : Int) = atoms) : impl_litTrue.f x bits = some (litP bits x) := by
  have hx := litOk_in h
  unfold impl_litTrue.f
  rw [impl_atomOf_eq (by omega)]
  have hA := abs_le (n := x)
  rw [Option.bind_some, wrap_in (x := absP x - 1) (by omega) (by omega), if_pos (by omega), if_pos (by omega)]
  unfold impl_bit.f litP
  by_cases e : x < 0
  · rw [if_pos e, if_neg (by simp; omega)]
    rfl
  · rw [if_neg e, if_pos (by simp; omega)]
    rfl
end Go.Proofs.Ytigbbefdndcmbaa.PA
end
section
set_option linter.unusedVariables false
set_option linter.unusedSimpArgs false
namespace Go.Proofs.Ytigbbefdndcmbaa.PA
open Go.RowKit Go.Proofs.YtigbbefdndcmbaaW.PrintWords
def Tot {α : Type} (g : Nat → Option α) (Q : α → Prop) : Prop := ∃ r, Ev g r ∧ Q r
section
variable {α β : Type} {Q : α → Prop}
theorem tot_ret {r : α} (h : Q r) : Tot (fun _ => some r) Q := ⟨r, ev_ret r, h⟩
theorem tot_fix {o : Option α} (h : ∃ r, o = some r ∧ Q r) : Tot (fun _ => o) Q := by obtain ⟨r, h, q⟩ := h; exact ⟨r, ev_fix h, q⟩
theorem tot_pos {c : Prop} [Decidable c] {f g : Nat → Option α} (h : c) (k : Tot f Q) : Tot (fun n => if c then f n else g n) Q := by
  obtain ⟨r, k, q⟩ := k
  exact ⟨r, ev_pos h k, q⟩
theorem tot_neg {c : Prop} [Decidable c] {f g : Nat → Option α} (h : ¬ c) (k : Tot g Q) : Tot (fun n => if c then f n else g n) Q := by
  obtain ⟨r, k, q⟩ := k
  exact ⟨r, ev_neg h k, q⟩
theorem tot_ite {c : Prop} [Decidable c] {f g : Nat → Option α} (h1 : c → Tot f Q) (h2 : ¬ c → Tot g Q) : Tot (fun n => if c then f n else g n) Q := by
  by_cases h : c
  · exact tot_pos h (h1 h)
  · exact tot_neg h (h2 h)
theorem tot_bind {g : Nat → Option β} {f : Nat → β → Option α} {R : β → Prop} (h : Tot g R) (k : ∀ b, R b → Tot (fun n => f n b) Q) : Tot (fun n => (g n).bind (fun t => f n t)) Q := by
  obtain ⟨b, h, q⟩ := h
  obtain ⟨r, k, q⟩ := k b q
  exact ⟨r, ev_bind h k, q⟩
theorem tot_step {g f : Nat → Option α} (h : ∀ k, g (k + 1) = f k) (k : Tot f Q) : Tot g Q := by
  obtain ⟨r, k, q⟩ := k
  exact ⟨r, Ev.step h k, q⟩
end
def ByteL (b : List Int) : Prop := b.length ≤ 2000 ∧ ∀ x ∈ b, 0 ≤ x ∧ x < 256
theorem xor_nat (a b : Int) (ha : 0 ≤ a) (hb : 0 ≤ b) (ha' : a < 4611686018427387904) (hb' : b < 4611686018427387904) : ∃ n : Nat, Go.bits .xor .i64 a b = (n : Int) ∧ n < 9223372036854775808 := by
  obtain ⟨a, rfl⟩ := Int.eq_ofNat_of_zero_le ha
  obtain ⟨b, rfl⟩ := Int.eq_ofNat_of_zero_le hb
  refine ⟨a ^^^ b, ?_, Nat.xor_lt_two_pow (n := 63) (by omega) (by omega)⟩
  have h1 : a % 2 ^ 64 = a := Nat.mod_eq_of_lt (by omega)
  have h2 : b % 2 ^ 64 = b := Nat.mod_eq_of_lt (by omega)
  have h3 : a ^^^ b < 2 ^ 63 := Nat.xor_lt_two_pow (by omega) (by omega)
  unfold Go.bits
  simp only [BitVec.ofInt_natCast]
  rw [BitVec.toNat_xor, BitVec.toNat_ofNat, BitVec.toNat_ofNat]
  show Go.IntKind.i64.wrap (((a % 2 ^ 64) ^^^ (b % 2 ^ 64) : Nat) : Int) = _
  rw [h1, h2, Go.IntKind.wrap_i64]
  omega
theorem tmod_in {x n : Int} (hx : 0 ≤ x) (hn : 1 ≤ n) : 0 ≤ x.tmod n ∧ x.tmod n < n := ⟨Int.tmod_nonneg n hx, Int.tmod_lt_of_pos x (by omega)⟩
theorem byte_at {b : List Int} (h : ByteL b) {i : Int} (h0 : 0 ≤ i) (h1 : i < (b.length : Int)) : 0 ≤ rd b i ∧ rd b i < 256 := by
  have : b[i.toNat]? = some b[i.toNat] := List.getElem?_eq_getElem (by omega)
  have e : rd b i = b[i.toNat] := by
    show b.getD i.toNat _ = _
    simp [List.getD_eq_getElem?_getD, this]
  rw [e]
  exact h.2 _ (List.getElem_mem _)
end Go.Proofs.Ytigbbefdndcmbaa.PA
end
section
set_option linter.unusedVariables false
set_option linter.unusedSimpArgs false
namespace Go.Proofs.Ytigbbefdndcmbaa.PA
open Go.RowKit Go.Proofs.YtigbbefdndcmbaaW.PrintWords
def ltL (x y : Int) : Bool := decide (absP x < absP y) || (decide (absP x = absP y) && decide (x < y))
theorem ltL_iff {x y : Int} : ltL x y = true ↔ absP x < absP y ∨ (absP x = absP y ∧ x < y) := by unfold ltL; simp
theorem ltL_not {x y : Int} : ltL x y = false ↔ ¬ (absP x < absP y ∨ (absP x = absP y ∧ x < y)) := by rw [← ltL_iff, Bool.not_eq_true]
def Lit7 (x : Int) : Prop := -700 ≤ x ∧ x ≤ 700
theorem rd_mid (A T : List Int) (x : Int) : rd (A ++ x :: T) (A.length : Int) = x := by
  show List.getD _ _ _ = _
  simp [List.getD_eq_getElem?_getD]
def OkL (A : List Int) : Prop := A.Pairwise fun x y => ltL y x = false
theorem ltL_asym {x y : Int} (h : ltL x y = true) : ltL y x = false := by
  rw [ltL_iff] at h
  rw [ltL_not]
  omega
def keepI (l : List Int) (i : Nat) : Bool := decide (i = 0) || decide (l.getD i 0 ≠ l.getD (i - 1) 0)
def cI (l : List Int) : Nat → List Int
  | 0 => []
  | n + 1 => cI l n ++ if keepI l n then [l.getD n 0] else []
def compL (l : List Int) : List Int := cI l l.length
theorem cI_len (l : List Int) : ∀ n, (cI l n).length ≤ n
  | 0 => Nat.le_refl _
  | n + 1 => by
    have := cI_len l n
    unfold cI
    split <;> simp <;> omega
theorem rdN {l : List Int} {n : Nat} : rd l (n : Int) = l.getD n 0 := rfl
theorem compact_in (l : List Int) (b : Nat) (hb : 1 ≤ b) (hl : l.length ≤ 4611686018427387904) : ∀ (d : Nat) (row : List Int) (k k2 : Nat), l.length - (b + k2) = d → b + k2 ≤ l.length → row.length = l.length → 1 ≤ k2 → k + 1 ≤ b + k2 → k = (cI l (b + k2)).length → row.take k = cI l (b + k2) →
    (∀ i, b + k2 ≤ i + 1 → row.getD i 0 = l.getD i 0) → Ev (fun f => slices_Compact_int_int.l2 f row (k : Int) (k2 : Int) (b : Int)) (compL l) := by
  intro d
  induction d with
  | zero =>
    intro row k k2 h1 h2 h3 h4 h5 h6 h7 h8
    have e : b + k2 = l.length := by omega
    refine Ev.step (fun f => by rw [slices_Compact_int_int.l2]) ?_
    refine ev_neg (by omega) (ev_pos (by omega) (ev_pos (by omega) (ev_pos (by omega) (ev_pos (by simp; omega) (ev_pos (by omega) (ev_pos (by simp; omega) (ev_eq (ev_ret _) ?_)))))))
    rw [Int.toNat_natCast, List.take_append_of_le_length (by rw [List.length_take]; omega), List.take_take, Nat.min_self, h7, e]
    rfl
  | succ d ih =>
    intro row k k2 h1 h2 h3 h4 h5 h6 h7 h8
    have hr1 : rd row ((b : Int) + (k2 : Int)) = l.getD (b + k2) 0 := by
      rw [show (b : Int) + (k2 : Int) = ((b + k2 : Nat) : Int) by omega, rdN]; exact h8 _ (by omega)
    have hr2 : rd row ((b : Int) + ((k2 - 1 : Nat) : Int)) = l.getD (b + k2 - 1) 0 := by
      rw [show (b : Int) + ((k2 - 1 : Nat) : Int) = ((b + k2 - 1 : Nat) : Int) by omega, rdN]; exact h8 _ (by omega)
    have hw : wrap64 ((k2 : Int) - 1) = ((k2 - 1 : Nat) : Int) := by rw [wrap_in (by omega) (by omega)]; omega
    have hlen := cI_len l (b + k2 + 1)
    refine Ev.step (fun f => by rw [slices_Compact_int_int.l2, hw, hr1, hr2, wrap_nat (n := k2) (m := 9223372036854775806) (by omega) (by omega), wrap_nat (n := k) (m := 9223372036854775806) (by omega) (by omega)]) ?_
    clear hw
    refine ev_pos (by omega) (ev_pos (by omega) (ev_pos (by omega) (ev_pos (by omega) (ev_pos (by omega) ?_))))
    have hstep : cI l (b + (k2 + 1)) = cI l (b + k2) ++ if keepI l (b + k2) then [l.getD (b + k2) 0] else [] := rfl
    have hk : keepI l (b + k2) = decide (l.getD (b + k2) 0 ≠ l.getD (b + k2 - 1) 0) := by
      unfold keepI
      rw [decide_eq_false (by omega : ¬ b + k2 = 0), Bool.false_or]
    by_cases c : l.getD (b + k2) 0 ≠ l.getD (b + k2 - 1) 0
    · rw [hk, if_pos (decide_eq_true c)] at hstep
      refine ev_pos c (ev_pos (by omega) (ev_pos (by omega) (ev_pos (by omega) (ev_pos (by omega) ?_))))
      refine ih (row.set (k : Int).toNat (l.getD (b + k2) 0)) (k + 1) (k2 + 1) (by omega) (by omega) (by rw [List.length_set]; exact h3) (by omega) (by omega) (by rw [hstep, List.length_append, ← h6]; rfl) ?_ (fun i hi => ?_)
      · rw [hstep, ← h7, Int.toNat_natCast, List.take_add_one, List.take_set_of_le (by omega)]
        congr 1
        rw [List.getElem?_set_self (by omega)]
        rfl
      · rw [Int.toNat_natCast, List.getD_eq_getElem?_getD, List.getElem?_set_ne (by omega), ← List.getD_eq_getElem?_getD]
        exact h8 i (by omega)
    · rw [hk, if_neg (by simpa using c), List.append_nil] at hstep
      exact ev_neg c (ih row k (k2 + 1) (by omega) (by omega) h3 (by omega) (by omega) (by rw [hstep]; exact h6) (by rw [hstep]; exact h7) (fun i hi => h8 i (by omega)))
theorem compact_ev (l : List Int) (hl : l.length ≤ 4611686018427387904) : Ev (fun f => slices_Compact_int_int.f f l) (compL l) := by
  have key : ∀ d n : Nat, l.length - n = d → 1 ≤ n → n ≤ l.length → cI l n = l.take n → Ev (fun f => slices_Compact_int_int.l1 f (n : Int) l) (compL l) := by
    intro d
    induction d with
    | zero =>
      intro n h1 h2 h3 h4
      have : n = l.length := by omega
      subst this
      refine Ev.step (fun f => by rw [slices_Compact_int_int.l1]) (ev_neg (by omega) (ev_eq (ev_ret _) ?_))
      unfold compL
      rw [h4, List.take_length]
    | succ d ih =>
      intro n h1 h2 h3 h4
      have hn : n < l.length := by omega
      have hw : wrap64 ((n : Int) - 1) = ((n - 1 : Nat) : Int) := by rw [wrap_in (by omega) (by omega)]; omega
      refine Ev.step (fun f => by rw [slices_Compact_int_int.l1, hw, rdN, rdN, wrap_nat hn (by omega)]) ?_
      clear hw
      have hstep : cI l (n + 1) = cI l n ++ if keepI l n then [l.getD n 0] else [] := rfl
      have hk : keepI l n = decide (l.getD n 0 ≠ l.getD (n - 1) 0) := by
        unfold keepI
        rw [decide_eq_false (by omega : ¬ n = 0), Bool.false_or]
      refine ev_pos (by omega) (ev_pos (by omega) (ev_pos (by omega) (ev_pos (by omega) (ev_pos (by omega) ?_))))
      by_cases c : l.getD n 0 = l.getD (n - 1) 0
      · rw [hk, if_neg (by simpa using c), List.append_nil] at hstep
        refine ev_pos c (ev_pos (by omega) (ev_pos (by omega) (ev_pos (by omega) ?_)))
        have := compact_in l n h2 hl (l.length - (n + 1)) l n 1 rfl (by omega) rfl (by omega) (by omega) (by rw [hstep, h4, List.length_take]; omega) (by rw [hstep, h4]) (fun i hi => rfl)
        exact this
      · rw [hk, if_pos (by simpa using c)] at hstep
        refine ev_neg c (ih (n + 1) (by omega) (by omega) (by omega) ?_)
        rw [hstep, h4, List.take_add_one, List.getElem?_eq_getElem hn]
        congr 1
        rw [List.getD_eq_getElem?_getD, List.getElem?_eq_getElem hn]
        rfl
  unfold slices_Compact_int_int.f
  by_cases c : l.length < 2
  · refine ev_pos (by omega) (ev_eq (ev_ret _) ?_)
    match l, c with
    | [], _ => rfl
    | [x], _ => rfl
    | x :: y :: r, c => simp only [List.length_cons] at c; omega
  · refine ev_neg (by omega) (key _ 1 rfl (by omega) (by omega) ?_)
    match l, c with
    | [], c => simp at c
    | x :: r, _ => rfl
theorem cI_mem (l : List Int) : ∀ n, n ≤ l.length → ∀ x, x ∈ cI l n ↔ x ∈ l.take n
  | 0, _, x => by simp [cI]
  | n + 1, h, x => by
    have ih := cI_mem l n (by omega) x
    have hn : n < l.length := by omega
    have hg : l.getD n 0 = l[n] := by rw [List.getD_eq_getElem?_getD, List.getElem?_eq_getElem hn]; rfl
    unfold cI
    rw [List.take_add_one, List.getElem?_eq_getElem hn, List.mem_append, List.mem_append, ih]
    by_cases c : keepI l n = true
    · rw [if_pos c, hg]; simp
    · rw [if_neg c]
      unfold keepI at c
      simp at c
      obtain ⟨c1, c2⟩ := c
      have hp : n - 1 < l.length := by omega
      have hm : x = l[n] → x ∈ l.take n := fun e => by
        rw [e, ← hg, List.getD_eq_getElem?_getD, c2, List.getElem?_eq_getElem hp]
        exact List.mem_take_iff_getElem.2 ⟨n - 1, by omega, rfl⟩
      constructor
      · rintro (h | h)
        · exact .inl h
        · simp at h
      · rintro (h | h)
        · exact .inl h
        · exact .inl (hm (by simpa using h))
theorem compL_mem {l : List Int} {x : Int} : x ∈ compL l ↔ x ∈ l := by
  unfold compL
  rw [cI_mem l l.length (Nat.le_refl _), List.take_length]
theorem cI_sorted (l : List Int) (ho : OkL l) : ∀ n, n ≤ l.length → (cI l n).Pairwise fun x y => ltL x y = true
  | 0, _ => .nil
  | n + 1, h => by
    have ih := cI_sorted l ho n (by omega)
    have hn : n < l.length := by omega
    have hg : l.getD n 0 = l[n] := by rw [List.getD_eq_getElem?_getD, List.getElem?_eq_getElem hn]; rfl
    unfold cI
    by_cases c : keepI l n = true
    · rw [if_pos c, hg, List.pairwise_append]
      refine ⟨ih, List.pairwise_singleton _ _, fun a ha b hb => ?_⟩
      obtain rfl := List.mem_singleton.1 hb
      have ha := (cI_mem l n (by omega) a).1 ha
      obtain ⟨i, hi, e⟩ := List.mem_take_iff_getElem.1 ha
      have hp : n - 1 < l.length := by omega
      have hne : l[n] ≠ l[n - 1] := by
        unfold keepI at c
        rw [Bool.or_eq_true, decide_eq_true_eq, decide_eq_true_eq] at c
        rcases c with c | c
        · omega
        · rw [hg, List.getD_eq_getElem?_getD, List.getElem?_eq_getElem hp] at c
          exact c
      have pw := List.pairwise_iff_getElem.1 ho
      have h1 : ltL l[n] l[n - 1] = false := pw (n - 1) n hp hn (by omega)
      have h2 : ltL l[n - 1] a = false := by
        by_cases z : i = n - 1
        · subst z
          rw [← e, ltL_not]; omega
        · rw [← e]; exact pw i (n - 1) (by omega) hp (by omega)
      rw [ltL_not] at h1 h2
      rw [ltL_iff]
      unfold absP at *
      omega
    · rw [if_neg c, List.append_nil]
      exact ih
theorem compL_sorted {l : List Int} (ho : OkL l) : (compL l).Pairwise fun x y => ltL x y = true := cI_sorted l ho l.length (Nat.le_refl _)
def mk (p : List Int) (a : Nat) : Int := if (a : Int) ∈ p then (a : Int) else if -(a : Int) ∈ p then -(a : Int) else 0
def coll (p : List Int) : Nat → List Int
  | 0 => []
  | n + 1 => coll p n ++ if mk p (n + 1) ≠ 0 then [mk p (n + 1)] else []
def marksL (m : Nat) (p : List Int) : List Int := (List.range m).map (mk p)
def NoC (p : List Int) : Prop := ∀ x ∈ p, -x ∉ p
instance noCdec (p : List Int) : Decidable (NoC p) := by unfold NoC; infer_instance
def clauseR (l : List Int) (atoms : Nat) : List Int × Bool := if NoC l then (coll l atoms, true) else ([], false)
theorem mk_cases (p : List Int) (a : Nat) : (mk p a = (a : Int) ∧ (a : Int) ∈ p) ∨ (mk p a = -(a : Int) ∧ -(a : Int) ∈ p) ∨ (mk p a = 0 ∧ (a : Int) ∉ p ∧ -(a : Int) ∉ p) := by
  unfold mk
  by_cases h : (a : Int) ∈ p
  · rw [if_pos h]; exact .inl ⟨rfl, h⟩
  · rw [if_neg h]
    by_cases h2 : -(a : Int) ∈ p
    · rw [if_pos h2]; exact .inr (.inl ⟨rfl, h2⟩)
    · rw [if_neg h2]; exact .inr (.inr ⟨rfl, h, h2⟩)
theorem marksL_len (m : Nat) (p : List Int) : (marksL m p).length = m := by simp [marksL]
theorem marksL_get {m : Nat} {p : List Int} {a : Nat} (h : a < m) : (marksL m p).getD a 0 = mk p a := by
  unfold marksL
  rw [List.getD_eq_getElem?_getD, List.getElem?_map, List.getElem?_range h]; rfl
theorem mk_ne {p : List Int} {x : Int} {b : Nat} (h : (b : Int) ≠ absP x) : mk (p ++ [x]) b = mk p b := by
  have h1 : (b : Int) ≠ x := by intro e; apply h; unfold absP; split <;> omega
  have h2 : -(b : Int) ≠ x := by intro e; apply h; unfold absP; split <;> omega
  unfold mk
  simp [h1, h2]
theorem marksL_set {m : Nat} {p : List Int} {x : Int} (h : absP x < m) (hx : mk (p ++ [x]) (absP x).toNat = x) : (marksL m p).set (absP x).toNat x = marksL m (p ++ [x]) := by
  have h0 := (abs_le (n := x)).1
  apply List.ext_getElem
  · simp [marksL]
  · intro i g1 g2
    rw [List.getElem_set]
    simp only [marksL, List.getElem_map, List.getElem_range]
    by_cases e : (absP x).toNat = i
    · subst e; rw [if_pos rfl, hx]
    · rw [if_neg e, mk_ne (by omega)]
theorem coll_len (p : List Int) : ∀ n, (coll p n).length ≤ n
  | 0 => Nat.le_refl _
  | n + 1 => by
    have := coll_len p n
    unfold coll
    split <;> simp <;> omega
theorem coll_ev {p : List Int} {atoms : Nat} (ha : atoms ≤ 700) : Ev (fun k => spec_l11Clause.l3 k [] 1 (atoms : Int) (marksL (atoms + 1) p)) (coll p atoms, true) := by
  have hl : ∀ n, (coll p n).length ≤ n := by
    intro n
    induction n with
    | zero => exact Nat.le_refl _
    | succ n ih => unfold coll; split <;> simp <;> omega
  have key : ∀ d n : Nat, atoms - n = d → n ≤ atoms → Ev (fun k => spec_l11Clause.l3 k (coll p n) ((n + 1 : Nat) : Int) (atoms : Int) (marksL (atoms + 1) p)) (coll p atoms, true) := by
    intro d
    induction d with
    | zero =>
      intro n h1 h2
      have : n = atoms := by omega
      subst this
      refine Ev.step (fun k => by rw [spec_l11Clause.l3]) (ev_neg (by omega) (ev_ret _))
    | succ d ih =>
      intro n h1 h2
      have hn := hl n
      have hr : rd (marksL (atoms + 1) p) ((n + 1 : Nat) : Int) = mk p (n + 1) := by rw [rdN]; exact marksL_get (by omega)
      have ih := ih (n + 1) (by omega) (by omega)
      refine Ev.step (fun k => by rw [spec_l11Clause.l3, hr, wrap_nat (n := n + 1) (m := 1000) (by omega) (by omega)]) ?_
      refine ev_pos (by omega) (ev_pos (by omega) (ev_pos (by rw [marksL_len]; omega) ?_))
      rw [show coll p (n + 1) = coll p n ++ if mk p (n + 1) ≠ 0 then [mk p (n + 1)] else [] from rfl] at ih
      by_cases c : mk p (n + 1) ≠ 0
      · rw [if_pos c] at ih
        exact ev_pos c (ev_pos (by omega) (ev_pos (by rw [marksL_len]; omega) (ev_pos (by omega) ih)))
      · rw [if_neg c, List.append_nil] at ih
        exact ev_neg c ih
  exact key atoms 0 (by omega) (by omega)
theorem spec_l11Clause_ev {l : List Int} {atoms : Nat} (ha : atoms ≤ 700) (hl : l.length ≤ 4611686018427387904) (hx : ∀ x ∈ l, litOk (atoms : Int) x = true) : Ev (fun k => spec_l11Clause.f k l (atoms : Int)) (clauseR l atoms) := by
  have key : ∀ (d : Nat) (p r : List Int), r.length = d → l = p ++ r → NoC p → Ev (fun k => spec_l11Clause.l1 k (marksL (atoms + 1) p) (p.length : Int) l (atoms : Int)) (clauseR l atoms) := by
    intro d
    induction d with
    | zero =>
      intro p r h1 h2 h3
      obtain rfl := List.eq_nil_of_length_eq_zero h1
      rw [List.append_nil] at h2
      subst h2
      refine Ev.step (fun k => by rw [spec_l11Clause.l1]) (ev_neg (by omega) (ev_eq (coll_ev ha) ?_))
      unfold clauseR
      rw [if_pos h3]
    | succ d ih =>
      intro p r h1 h2 h3
      obtain ⟨x, r, rfl⟩ : ∃ x r', r = x :: r' := by
        cases r with
        | nil => simp at h1
        | cons x r => exact ⟨x, r, rfl⟩
      have hlen : l.length = p.length + (r.length + 1) := by rw [h2]; simp
      have hxm : x ∈ l := by rw [h2]; simp
      have hlx := litOk_in (hx x hxm)
      have hA := abs_le (n := x)
      have hr : rd l (p.length : Int) = x := by rw [h2]; exact rd_mid _ _ _
      obtain ⟨a, haE⟩ : ∃ a : Nat, absP x = (a : Int) := ⟨(absP x).toNat, by omega⟩
      have hm : rd (marksL (atoms + 1) p) (a : Int) = mk p a := by rw [rdN]; exact marksL_get (by omega)
      have hx2 : x = (a : Int) ∨ x = -(a : Int) := by omega
      have hgo : (mk p a = 0 ∨ mk p a = x) → Ev (fun k => spec_l11Clause.j2 k l (atoms : Int) (marksL (atoms + 1) p) (p.length : Int) (a : Int)) (clauseR l atoms) := fun hz => by
        have hneg : -x ∉ p := by
          rcases mk_cases p a with ⟨e, m⟩ | ⟨e, m⟩ | ⟨e, m1, m2⟩
          · rcases hz with hz | hz
            · omega
            · intro hmem; exact h3 x (by rw [← hz, e]; exact m) hmem
          · rcases hz with hz | hz
            · omega
            · intro hmem; exact h3 x (by rw [← hz, e]; exact m) hmem
          · rcases hx2 with rfl | rfl
            · exact m2
            · rw [Int.neg_neg]; exact m1
        have hno : NoC (p ++ [x]) := by
          intro y hy hny
          rcases List.mem_append.1 hy with hy | hy
          · rcases List.mem_append.1 hny with hny | hny
            · exact h3 y hy hny
            · have := List.mem_singleton.1 hny
              exact hneg (by rw [← this, Int.neg_neg]; exact hy)
          · obtain rfl := List.mem_singleton.1 hy
            rcases List.mem_append.1 hny with hny | hny
            · exact hneg hny
            · have := List.mem_singleton.1 hny
              omega
        have hmx : mk (p ++ [x]) (absP x).toNat = x := by
          rw [haE, Int.toNat_natCast]
          rcases mk_cases (p ++ [x]) a with ⟨e, m⟩ | ⟨e, m⟩ | ⟨e, m1, m2⟩
          · rcases hx2 with h | h
            · omega
            · exact absurd (show -x ∈ p ++ [x] by rw [show -x = (a : Int) by omega]; exact m) (hno x (by simp))
          · rcases hx2 with h | h
            · exact absurd (show -x ∈ p ++ [x] by rw [show -x = -(a : Int) by omega]; exact m) (hno x (by simp))
            · omega
          · rcases hx2 with h | h
            · exact absurd (show (a : Int) ∈ p ++ [x] by rw [show (a : Int) = x by omega]; simp) m1
            · exact absurd (show -(a : Int) ∈ p ++ [x] by rw [show -(a : Int) = x by omega]; simp) m2
        have hset : (marksL (atoms + 1) p).set ((a : Int)).toNat x = marksL (atoms + 1) (p ++ [x]) := by rw [← haE]; exact marksL_set (by omega) hmx
        refine Ev.step (fun k => by rw [spec_l11Clause.j2, hr, hset, wrap_nat (n := p.length) (m := l.length) (by omega) (by omega)]) ?_
        refine ev_pos (by omega) (ev_pos (by omega) (ev_pos (by omega) (ev_pos (by rw [marksL_len]; omega) ?_)))
        have := ih (p ++ [x]) r (by simpa using h1) (by rw [h2]; simp) hno
        simpa using this
      refine Ev.step (fun k => by rw [spec_l11Clause.l1, hr, spec_l11Abs_eq (by omega), haE]) ?_
      refine ev_pos (by omega) (ev_pos (by omega) (ev_pos (by omega) (ev_bind (ev_ret _) (ev_pos (by omega) (ev_pos (by rw [marksL_len]; omega) ?_)))))
      rw [hm]
      by_cases c : mk p a ≠ 0
      · refine ev_pos c (ev_pos (by omega) (ev_pos (by rw [marksL_len]; omega) (ev_pos (by omega) (ev_pos (by omega) ?_))))
        by_cases e : mk p a ≠ x
        · refine ev_pos e (ev_eq (ev_ret _) ?_)
          unfold clauseR
          rw [if_neg]
          intro hno
          have hn : -x ∈ p := by
            rcases mk_cases p a with ⟨e1, m⟩ | ⟨e1, m⟩ | ⟨e1, m1, m2⟩
            · rcases hx2 with h | h
              · omega
              · rw [h, Int.neg_neg]; exact m
            · rcases hx2 with h | h
              · rw [h]; exact m
              · omega
            · omega
          exact hno x hxm (by rw [h2]; exact List.mem_append.2 (.inl hn))
        · exact ev_neg e (hgo (.inr (by simpa using e)))
      · exact ev_neg c (hgo (.inl (by simpa using c)))
  unfold spec_l11Clause.f
  rw [wrap_in (x := (atoms : Int) + 1) (by omega) (by omega)]
  refine ev_pos (by omega) (ev_pos (by omega) ?_)
  have := key l.length [] l rfl rfl (fun x hx => by cases hx)
  have e : List.replicate ((atoms : Int) + 1).toNat (0 : Int) = marksL (atoms + 1) [] := by
    unfold marksL
    rw [show ((atoms : Int) + 1).toNat = atoms + 1 by omega]
    apply List.ext_getElem
    · simp
    · intro i g1 g2
      simp [mk]
  rw [e]
  exact this
theorem coll_mem {p : List Int} (h0 : ∀ x ∈ p, x ≠ 0) (hn : NoC p) : ∀ n x, x ∈ coll p n ↔ x ∈ p ∧ absP x ≤ n
  | 0, x => by
    constructor
    · intro h; cases h
    · rintro ⟨h, e⟩
      have := h0 x h
      have := abs_le (n := x)
      omega
  | n + 1, x => by
    have ih := coll_mem h0 hn n x
    have hA := abs_le (n := x)
    unfold coll
    rw [List.mem_append, ih]
    constructor
    · rintro (⟨h, e⟩ | h)
      · exact ⟨h, by omega⟩
      · split at h
        · obtain rfl := List.mem_singleton.1 h
          rcases mk_cases p (n + 1) with ⟨e1, m⟩ | ⟨e1, m⟩ | ⟨e1, m1, m2⟩
          · rw [e1]; exact ⟨m, by unfold absP; split <;> omega⟩
          · rw [e1]; exact ⟨m, by unfold absP; split <;> omega⟩
          · contradiction
        · cases h
    · rintro ⟨h, e⟩
      by_cases z : absP x ≤ n
      · exact .inl ⟨h, z⟩
      · right
        have hx0 := h0 x h
        have e1 : mk p (n + 1) = x := by
          have hx2 : x = ((n + 1 : Nat) : Int) ∨ x = -((n + 1 : Nat) : Int) := by omega
          unfold mk
          rcases hx2 with h2 | h2
          · rw [if_pos (by rw [← h2]; exact h), h2]
          · have hnot : ((n + 1 : Nat) : Int) ∉ p := fun m => hn x h (by rw [h2, Int.neg_neg]; exact m)
            rw [if_neg hnot, if_pos (by rw [← h2]; exact h), h2]
        rw [e1, if_pos hx0]
        simp
theorem coll_sorted {p : List Int} (h0 : ∀ x ∈ p, x ≠ 0) (hn : NoC p) : ∀ n, (coll p n).Pairwise fun x y => absP x < absP y
  | 0 => .nil
  | n + 1 => by
    have ih := coll_sorted h0 hn n
    unfold coll
    split
    · rw [List.pairwise_append]
      refine ⟨ih, List.pairwise_singleton _ _, fun a ha b hb => ?_⟩
      obtain rfl := List.mem_singleton.1 hb
      have h1 := ((coll_mem h0 hn n a).1 ha).2
      have h2 : absP (mk p (n + 1)) = ((n + 1 : Nat) : Int) := by
        rcases mk_cases p (n + 1) with ⟨e1, m⟩ | ⟨e1, m⟩ | ⟨e1, m1, m2⟩
        · rw [e1]; unfold absP; split <;> omega
        · rw [e1]; unfold absP; split <;> omega
        · contradiction
      omega
    · rw [List.append_nil]; exact ih
theorem sorted_ext : ∀ {a b : List Int}, (a.Pairwise fun x y => ltL x y = true) → (b.Pairwise fun x y => ltL x y = true) → (∀ x, x ∈ a ↔ x ∈ b) → a = b
  | [], [], _, _, _ => rfl
  | [], y :: b, _, _, h => by have := (h y).2 (by simp); cases this
  | x :: a, [], _, _, h => by have := (h x).1 (by simp); cases this
  | x :: a, y :: b, h1, h2, h => by
    have h1' := List.pairwise_cons.1 h1
    have h2' := List.pairwise_cons.1 h2
    have irr : ∀ z, ltL z z = false := fun z => by rw [ltL_not]; omega
    have e : x = y := by
      have m1 := (h x).1 (by simp)
      have m2 := (h y).2 (by simp)
      rcases List.mem_cons.1 m1 with e | m1
      · exact e
      · rcases List.mem_cons.1 m2 with e | m2
        · exact e.symm
        · have a1 := h2'.1 x m1
          have a2 := h1'.1 y m2
          rw [ltL_asym a1] at a2
          cases a2
    subst e
    congr 1
    refine sorted_ext h1'.2 h2'.2 fun z => ?_
    have hz := h z
    rw [List.mem_cons, List.mem_cons] at hz
    constructor
    · intro m
      rcases hz.1 (.inr m) with rfl | m2
      · have := h1'.1 z m
        rw [irr] at this; cases this
      · exact m2
    · intro m
      rcases hz.2 (.inr m) with rfl | m2
      · have := h2'.1 z m
        rw [irr] at this; cases this
      · exact m2
theorem adj_iff {o : List Int} (hs : o.Pairwise fun x y => ltL x y = true) (h0 : ∀ x ∈ o, x ≠ 0) : NoC o ↔ ∀ i, 1 ≤ i → i < o.length → o.getD i 0 ≠ -(o.getD (i - 1) 0) := by
  have pw := List.pairwise_iff_getElem.1 hs
  have hg : ∀ {i}, (h : i < o.length) → o.getD i 0 = o[i] := fun h => by rw [List.getD_eq_getElem?_getD, List.getElem?_eq_getElem h]; rfl
  constructor
  · intro hn i h1 h2 e
    have h3 : i - 1 < o.length := by omega
    rw [hg h2, hg h3] at e
    exact hn o[i - 1] (List.getElem_mem _) (by rw [← e]; exact List.getElem_mem _)
  · intro h x hx hnx
    have main : ∀ y, y ∈ o → -y ∈ o → y < 0 → False := fun y hy hny hneg => by
      obtain ⟨i, hi, e1⟩ := List.mem_iff_getElem.1 hy
      obtain ⟨j, hj, e2⟩ := List.mem_iff_getElem.1 hny
      have b1 := abs_le (n := y)
      have b2 := abs_le (n := -y)
      have hij : i < j := by
        rcases Nat.lt_trichotomy i j with c | c | c
        · exact c
        · subst c; omega
        · have := pw j i hj hi c
          rw [e1, e2, ltL_iff] at this
          omega
      by_cases c : j = i + 1
      · subst c
        have := h (i + 1) (by omega) hj
        rw [hg hj, Nat.add_sub_cancel, hg hi, e1, e2] at this
        exact this rfl
      · have hm : i + 1 < o.length := by omega
        have a1 := pw i (i + 1) hi hm (by omega)
        have a2 := pw (i + 1) j hm hj (by omega)
        have z0 := h0 o[i + 1] (List.getElem_mem _)
        rw [e1] at a1
        rw [e2] at a2
        rw [ltL_iff] at a1 a2
        have b3 := abs_le (n := o[i + 1])
        omega
    rcases Int.lt_trichotomy x 0 with c | c | c
    · exact main x hx hnx c
    · exact h0 x hx c
    · exact main (-x) hnx (by rw [Int.neg_neg]; exact hx) (by omega)
theorem contrary_ev (o : List Int) (hl : o.length ≤ 1099511627776) (h7 : ∀ x ∈ o, Lit7 x) :
    ((∀ i, 1 ≤ i → i < o.length → o.getD i 0 ≠ -(o.getD (i - 1) 0)) → Ev (fun k => impl_clauseOf.l1 k 1 o) (o, true)) ∧
    (¬ (∀ i, 1 ≤ i → i < o.length → o.getD i 0 ≠ -(o.getD (i - 1) 0)) → Ev (fun k => impl_clauseOf.l1 k 1 o) ([], false)) := by
  have hg : ∀ {i}, (h : i < o.length) → o.getD i 0 = o[i] := fun h => by rw [List.getD_eq_getElem?_getD, List.getElem?_eq_getElem h]; rfl
  have key : ∀ d n : Nat, o.length - n = d → 1 ≤ n → ((∀ i, n ≤ i → i < o.length → o.getD i 0 ≠ -(o.getD (i - 1) 0)) → Ev (fun k => impl_clauseOf.l1 k (n : Int) o) (o, true)) ∧
      (¬ (∀ i, n ≤ i → i < o.length → o.getD i 0 ≠ -(o.getD (i - 1) 0)) → Ev (fun k => impl_clauseOf.l1 k (n : Int) o) ([], false)) := by
    intro d
    induction d with
    | zero =>
      intro n h1 h2
      refine ⟨fun _ => ?_, fun h => absurd (fun i a b => by omega) h⟩
      refine Ev.step (fun k => by rw [impl_clauseOf.l1]) (ev_neg (by omega) ?_)
      exact ev_bind (g := fun _ => impl_clone_int.f o) (ev_fix (by unfold impl_clone_int.f; rw [if_pos (by omega)])) (ev_ret _)
    | succ d ih =>
      intro n h1 h2
      have hn : n < o.length := by omega
      have hp : n - 1 < o.length := by omega
      have hw : wrap64 ((n : Int) - 1) = ((n - 1 : Nat) : Int) := by rw [wrap_in (by omega) (by omega)]; omega
      have h7p : -700 ≤ o.getD (n - 1) 0 ∧ o.getD (n - 1) 0 ≤ 700 := by rw [hg hp]; exact h7 _ (List.getElem_mem _)
      obtain ⟨i1, i2⟩ := ih (n + 1) (by omega) (by omega)
      by_cases c : o.getD n 0 = -(o.getD (n - 1) 0)
      · refine ⟨fun h => absurd c (h n (Nat.le_refl _) hn), fun _ => ?_⟩
        refine Ev.step (fun k => by rw [impl_clauseOf.l1, hw, rdN, rdN, wrap_in (x := -(o.getD (n - 1) 0)) (by omega) (by omega)]) ?_
        clear hw
        exact ev_pos (by omega) (ev_pos (by omega) (ev_pos (by omega) (ev_pos (by omega) (ev_pos (by omega) (ev_pos c (ev_ret _))))))
      · have st : ∀ r, Ev (fun k => impl_clauseOf.l1 k ((n + 1 : Nat) : Int) o) r → Ev (fun k => impl_clauseOf.l1 k (n : Int) o) r := fun r hr => by
          refine Ev.step (fun k => by rw [impl_clauseOf.l1, hw, rdN, rdN, wrap_in (x := -(o.getD (n - 1) 0)) (by omega) (by omega), wrap_nat hn (by omega)]) ?_
          clear hw
          exact ev_pos (by omega) (ev_pos (by omega) (ev_pos (by omega) (ev_pos (by omega) (ev_pos (by omega) (ev_neg c hr)))))
        refine ⟨fun h => st _ (i1 fun i a b => h i (by omega) b), fun h => st _ (i2 fun h2 => h fun i a b => ?_)⟩
        by_cases z : i = n
        · subst z; exact c
        · exact h2 i (by omega) b
  exact key _ 1 rfl (Nat.le_refl _)
theorem NoC_mem {a b : List Int} (h : ∀ x, x ∈ a ↔ x ∈ b) : NoC a ↔ NoC b := by
  unfold NoC
  constructor
  · intro g x hx hn; exact g x ((h x).2 hx) ((h _).2 hn)
  · intro g x hx hn; exact g x ((h x).1 hx) ((h _).1 hn)
theorem impl_clauseOf_ev {l : List Int} {atoms : Nat} (ha : atoms ≤ 700) (hx : ∀ x ∈ l, litOk (atoms : Int) x = true) (hl : l.length ≤ 1048576)
    (hs : Tot (fun k => slices_SortFunc_int_int_at_impl_clauseOf_1.f k l) (fun r => r.Perm l ∧ OkL r)) : Ev (fun k => impl_clauseOf.f k l) (clauseR l atoms) := by
  obtain ⟨s, hs, hp, ho⟩ := hs
  have hlen := hp.length_eq
  have hmem : ∀ x, x ∈ compL s ↔ x ∈ l := fun x => compL_mem.trans hp.mem_iff
  have h0 : ∀ x ∈ l, x ≠ 0 := fun x h => (litOk_in (hx x h)).1
  have h0c : ∀ x ∈ compL s, x ≠ 0 := fun x h => h0 x ((hmem x).1 h)
  have h7 : ∀ x ∈ compL s, Lit7 x := fun x h => by have := litOk_in (hx x ((hmem x).1 h)); unfold Lit7; omega
  have hcl : (compL s).length ≤ 1048576 := by have := cI_len s s.length; unfold compL; omega
  have hsort := compL_sorted ho
  obtain ⟨e1, e2⟩ := contrary_ev (compL s) (by omega) h7
  rw [← adj_iff hsort h0c] at e1 e2
  unfold impl_clauseOf.f
  refine ev_bind (g := fun _ => slices_Clone_int_int.f l) (ev_fix (by unfold slices_Clone_int_int.f; rw [if_pos (by omega)])) (ev_bind hs (ev_bind (compact_ev s (by omega)) ?_))
  unfold clauseR
  by_cases c : NoC l
  · rw [if_pos c]
    have c' := (NoC_mem hmem).2 c
    have e : compL s = coll l atoms := sorted_ext hsort ((coll_sorted h0 c atoms).imp fun h => ltL_iff.2 (.inl h)) fun x => by
      rw [hmem, coll_mem h0 c]
      exact ⟨fun h => ⟨h, by have := litOk_in (hx x h); have := abs_le (n := x); omega⟩, fun h => h.1⟩
    rw [← e]
    exact e1 c'
  · rw [if_neg c]
    exact e2 fun c' => c ((NoC_mem hmem).1 c')
theorem clauseP_sorted {l : List Int} {atoms : Int} (hs : l.Pairwise fun x y => absP x < absP y) (hx : ∀ x ∈ l, litOk atoms x = true) : clauseP l atoms = true := by
  unfold clauseP
  have key : ∀ (r p : List Int), l = p ++ r → clauseGo atoms l p.length r = true := by
    intro r
    induction r with
    | nil => intro p h; rfl
    | cons x r ih =>
      intro p h
      unfold clauseGo
      have h1 := ih (p ++ [x]) (by rw [h]; simp)
      rw [List.length_append] at h1
      rw [hx x (by rw [h]; simp)]
      simp only [Bool.true_and, Bool.and_eq_true, Bool.or_eq_true, decide_eq_true_eq]
      refine ⟨?_, h1⟩
      by_cases z : p.length = 0
      · exact .inl z
      · right
        have hp : p.length - 1 < p.length := by omega
        have e : l.getD (p.length - 1) 0 = p[p.length - 1] := by
          rw [h, List.getD_eq_getElem?_getD, List.getElem?_append_left hp, List.getElem?_eq_getElem hp]; rfl
        rw [e]
        rw [h] at hs
        exact (List.pairwise_append.1 hs).2.2 _ (List.getElem_mem hp) x (by simp)
  exact key l [] rfl
theorem litCf_lt (x y : Int) : litCf x y < 0 ↔ litKey x < litKey y ∨ (litKey x = litKey y ∧ x < y) := by
  unfold litCf litCmp
  generalize litKey x = a
  generalize litKey y = b
  by_cases h1 : a < b
  · simp [h1]
  · by_cases h2 : a > b
    · simp [h1, h2]; omega
    · by_cases h3 : x < y
      · simp [h1, h2, h3]; omega
      · by_cases h4 : x > y
        · simp [h1, h2, h3, h4]
        · simp [h1, h2, h3, h4]
theorem litKey_eq {x : Int} (h : Lit7 x) : litKey x = absP x := by
  unfold Lit7 at h
  have := impl_atomOf_eq h
  unfold impl_atomOf.f at this
  exact Option.some.inj this
theorem sortM_tot (l : List Int) (h7 : ∀ x ∈ l, Lit7 x) (hl : l.length ≤ 4294967296) : Tot (fun k => slices_SortFunc_int_int_at_impl_clauseOf_1.f k l) (fun r => r.Perm l ∧ OkL r) := by
  unfold slices_SortFunc_int_int_at_impl_clauseOf_1.f
  refine tot_pos (by omega) (tot_ret ⟨List.mergeSort_perm l _, ?_⟩)
  have hp := List.mergeSort_perm l fun x y => !(decide (litCf y x < 0))
  have hs := List.pairwise_mergeSort (le := fun x y => !(decide (litCf y x < 0))) (fun a b c h1 h2 => by
    simp only [Bool.not_eq_true', decide_eq_false_iff_not, litCf_lt] at *
    omega) (fun a b => by
    rw [Bool.or_eq_true]
    simp only [Bool.not_eq_true', decide_eq_false_iff_not, litCf_lt]
    omega) l
  refine hs.imp_of_mem fun {a b} ha hb h => ?_
  have ha := h7 a (hp.mem_iff.1 ha)
  have hb := h7 b (hp.mem_iff.1 hb)
  simp only [Bool.not_eq_true', decide_eq_false_iff_not, litCf_lt, litKey_eq ha, litKey_eq hb] at h
  rw [ltL_not]
  exact h
def gatesGo (inputs : Int) : Nat → List IAnd → Bool
  | _, [] => true
  | n, g :: r => (inR g.f0 0 (2 * (1 + inputs + n) - 1) && inR g.f1 0 (2 * (1 + inputs + n) - 1)) && gatesGo inputs (n + 1) r
def circP (inputs : Int) (gates : List IAnd) : Bool := inR inputs 0 12 && (decide (gates.length ≤ 600) && gatesGo inputs 0 gates)
theorem rd_IAnd_at {l : List IAnd} {n : Nat} (h : n < l.length) : rd_IAnd l (n : Int) = l[n] := getD_of (List.getElem?_eq_getElem h)
theorem most_w {inputs : Int} {n : Nat} (h : 0 ≤ inputs ∧ inputs ≤ 12) (hn : n ≤ 600) : wrap64 (wrap64 (2 * wrap64 (wrap64 (1 + inputs) + n)) - 1) = 2 * (1 + inputs + n) - 1 := by
  rw [wrap_in (x := 1 + inputs) (by omega) (by omega), wrap_in (x := 1 + inputs + n) (by omega) (by omega), wrap_in (x := 2 * (1 + inputs + n)) (by omega) (by omega), wrap_in (by omega) (by omega)]
theorem spec_CircuitValid_ev (inputs : Int) (gates : List IAnd) : Ev (fun k => spec_CircuitValid.f k inputs gates) (circP inputs gates) := by
  unfold spec_CircuitValid.f circP
  rw [spec_l1In_eq]
  refine ev_bind (ev_ret _) ?_
  by_cases c : inR inputs 0 12 = true
  · have ha := inR_iff.1 c
    rw [c]
    refine ev_pos rfl (Ev.step (fun k => by rw [spec_CircuitValid.j0]) ?_)
    by_cases n : gates.length ≤ 600
    · refine ev_neg (by simp; omega) ?_
      rw [decide_eq_true n, Bool.true_and, Bool.true_and]
      have key : ∀ d n : Nat, gates.length - n = d → n ≤ gates.length → Ev (fun k => spec_CircuitValid.l0 k (n : Int) inputs gates) (gatesGo inputs n (gates.drop n)) := by
        intro d
        induction d with
        | zero =>
          intro n g1 g2
          have : n = gates.length := by omega
          subst this
          rw [List.drop_length]
          refine Ev.step (fun k => by rw [spec_CircuitValid.l0]) ?_
          exact ev_neg (by omega) (ev_ret _)
        | succ d ih =>
          intro n g1 g2
          have hn : n < gates.length := by omega
          rw [List.drop_eq_getElem_cons hn]
          unfold gatesGo
          refine Ev.step (fun k => by rw [spec_CircuitValid.l0, rd_IAnd_at hn, most_w ha (by omega), wrap_nat hn (by omega), spec_l1In_eq, spec_l1In_eq]) ?_
          refine ev_pos (by omega) (ev_pos (by omega) (ev_bind (ev_ret _) ?_))
          cases e1 : inR gates[n].f0 0 (2 * (1 + inputs + n) - 1) with
          | false => exact ev_neg (by simp) (ev_ret _)
          | true =>
            refine ev_pos rfl (ev_bind (ev_ret _) ?_)
            cases e2 : inR gates[n].f1 0 (2 * (1 + inputs + n) - 1) with
            | false => exact ev_neg (by simp) (ev_ret _)
            | true => exact ev_pos rfl (ev_eq (ih (n + 1) (by omega) (by omega)) (by simp))
      exact key gates.length 0 (by omega) (by omega)
    · refine ev_pos (by simp; omega) (ev_eq (ev_ret _) ?_)
      rw [decide_eq_false n]; rfl
  · rw [Bool.not_eq_true] at c
    rw [c]
    refine ev_neg (by simp) (Ev.step (fun k => by rw [spec_CircuitValid.j0]) ?_)
    exact ev_pos rfl (ev_ret _)
theorem impl_CircuitValid_ev (inputs : Int) (gates : List IAnd) : Ev (fun k => impl_CircuitValid.f k inputs gates) (circP inputs gates) := by
  unfold impl_CircuitValid.f circP
  rw [impl_in_eq]
  refine ev_bind (ev_ret _) ?_
  by_cases c : inR inputs 0 12 = true
  · have ha := inR_iff.1 c
    rw [c]
    refine ev_pos rfl (Ev.step (fun k => by rw [impl_CircuitValid.j0]) ?_)
    by_cases n : gates.length ≤ 600
    · refine ev_neg (by simp; omega) ?_
      rw [decide_eq_true n, Bool.true_and, Bool.true_and]
      have key : ∀ d n : Nat, gates.length - n = d → n ≤ gates.length → Ev (fun k => impl_CircuitValid.l0 k gates (gates.length : Int) (n : Int) inputs gates) (gatesGo inputs n (gates.drop n)) := by
        intro d
        induction d with
        | zero =>
          intro n g1 g2
          have : n = gates.length := by omega
          subst this
          rw [List.drop_length]
          refine Ev.step (fun k => by rw [impl_CircuitValid.l0]) ?_
          exact ev_neg (by omega) (ev_ret _)
        | succ d ih =>
          intro n g1 g2
          have hn : n < gates.length := by omega
          rw [List.drop_eq_getElem_cons hn]
          unfold gatesGo
          refine Ev.step (fun k => by rw [impl_CircuitValid.l0, rd_IAnd_at hn, most_w ha (by omega), wrap_nat hn (by omega), impl_in_eq, impl_in_eq]) ?_
          refine ev_pos (by omega) (ev_pos (by omega) (ev_pos (by omega) (ev_bind (ev_ret _) ?_)))
          cases e1 : inR gates[n].f0 0 (2 * (1 + inputs + n) - 1) with
          | false => exact ev_neg (by simp) (ev_ret _)
          | true =>
            refine ev_pos rfl (ev_bind (ev_ret _) ?_)
            cases e2 : inR gates[n].f1 0 (2 * (1 + inputs + n) - 1) with
            | false => exact ev_neg (by simp) (ev_ret _)
            | true => exact ev_pos rfl (ev_eq (ih (n + 1) (by omega) (by omega)) (by simp))
      exact key gates.length 0 (by omega) (by omega)
    · refine ev_pos (by simp; omega) (ev_eq (ev_ret _) ?_)
      rw [decide_eq_false n]; rfl
  · rw [Bool.not_eq_true] at c
    rw [c]
    refine ev_neg (by simp) (Ev.step (fun k => by rw [impl_CircuitValid.j0]) ?_)
    exact ev_pos rfl (ev_ret _)
theorem gatesGo_at {inputs : Int} : ∀ (r : List IAnd) (n i : Nat) (g : IAnd), gatesGo inputs n r = true → r[i]? = some g → (0 ≤ g.f0 ∧ g.f0 < 2 * (1 + inputs + (n + i : Nat))) ∧ (0 ≤ g.f1 ∧ g.f1 < 2 * (1 + inputs + (n + i : Nat)))
  | [], n, i, g, _, h => by simp at h
  | x :: r, n, 0, g, h, hg => by
    obtain rfl : x = g := by simpa using hg
    unfold gatesGo at h
    simp only [Bool.and_eq_true, inR_iff] at h
    omega
  | x :: r, n, i + 1, g, h, hg => by
    unfold gatesGo at h
    rw [Bool.and_eq_true] at h
    have := gatesGo_at r (n + 1) i g h.2 (by simpa using hg)
    omega
theorem circP_and {inputs : Int} {gates : List IAnd} (h : circP inputs gates = true) : (0 ≤ inputs ∧ inputs ≤ 12) ∧ gates.length ≤ 600 ∧ ∀ (i : Nat) (g : IAnd), gates[i]? = some g → (0 ≤ g.f0 ∧ g.f0 < 2 * (1 + inputs + i)) ∧ (0 ≤ g.f1 ∧ g.f1 < 2 * (1 + inputs + i)) := by
  unfold circP at h
  simp only [Bool.and_eq_true, inR_iff, decide_eq_true_eq] at h
  refine ⟨h.1, h.2.1, fun i g hg => ?_⟩
  have := gatesGo_at gates 0 i g h.2.2 hg
  simpa using this
def edgeP (inputs : Int) (gates : List IAnd) (e : Int) : Bool := inR e 0 (2 * (1 + inputs + gates.length) - 1)
theorem spec_l7Edge_eq {inputs : Int} {gates : List IAnd} (h : circP inputs gates = true) (e : Int) : spec_l7Edge.f inputs gates e = some (edgeP inputs gates e) := by
  obtain ⟨h1, h2, _⟩ := circP_and h
  unfold spec_l7Edge.f spec_l7Nodes.f edgeP
  rw [Option.bind_some, wrap_in (x := 1 + inputs) (by omega) (by omega), wrap_in (x := 1 + inputs + gates.length) (by omega) (by omega), wrap_in (x := 2 * (1 + inputs + gates.length)) (by omega) (by omega), wrap_in (by omega) (by omega), spec_l1In_eq]
  rfl
theorem impl_isEdge_eq {inputs : Int} {gates : List IAnd} (h : circP inputs gates = true) (e : Int) : impl_Circuit_isEdge.f inputs gates e = some (edgeP inputs gates e) := by
  obtain ⟨h1, h2, _⟩ := circP_and h
  unfold impl_Circuit_isEdge.f edgeP
  rw [wrap_in (x := 1 + inputs) (by omega) (by omega), wrap_in (x := 1 + inputs + gates.length) (by omega) (by omega), wrap_in (x := 2 * (1 + inputs + gates.length)) (by omega) (by omega), wrap_in (by omega) (by omega), impl_in_eq]
  rfl
def valE (v : List Int) (e : Int) : Int := if e % 2 = 1 then 1 - v.getD (e / 2).toNat 0 else v.getD (e / 2).toNat 0
def runC (v : List Int) : List IAnd → List Int
  | [] => v
  | g :: r => runC (v ++ [valE v g.f0 * valE v g.f1]) r
theorem bit_cases {x : Int} (h : inR x 0 1 = true) : x = 0 ∨ x = 1 := by have := inR_iff.1 h; omega
theorem bits_at {v : List Int} (h : areBits v = true) (i : Nat) : v.getD i 0 = 0 ∨ v.getD i 0 = 1 := by
  rw [List.getD_eq_getElem?_getD]
  cases e : v[i]? with
  | none => exact .inl rfl
  | some x => exact bit_cases (List.all_eq_true.1 h x (List.mem_of_getElem? e))
theorem valE_bit {v : List Int} (h : areBits v = true) (e : Int) : valE v e = 0 ∨ valE v e = 1 := by
  have := bits_at h (e / 2).toNat
  unfold valE
  split <;> omega
theorem mul_bit {a b : Int} (ha : a = 0 ∨ a = 1) (hb : b = 0 ∨ b = 1) : (a * b = 0 ∨ a * b = 1) ∧ wrap64 (a * b) = a * b ∧ Go.bits .and .i64 a b = a * b := by
  rcases ha with rfl | rfl <;> rcases hb with rfl | rfl <;> decide +kernel
theorem xor_bit {a b : Int} (ha : a = 0 ∨ a = 1) (hb : b = 0 ∨ b = 1) : Go.bits .xor .i64 a b = if b = 1 then 1 - a else a := by
  rcases ha with rfl | rfl <;> rcases hb with rfl | rfl <;> decide +kernel
theorem and_one {x : Int} (h0 : 0 ≤ x) (h1 : x < 4611686018427387904) : Go.bits .and .i64 x 1 = x % 2 := by
  have := Go.bits_mask .i64 62 (by decide) (fun n a b => by rw [Go.IntKind.wrap_i64]; omega) 1 (by decide) x h0 (by omega)
  simpa using this
theorem tdiv_two {x : Int} (h : 0 ≤ x) : Int.tdiv x 2 = x / 2 := Int.tdiv_eq_ediv_of_nonneg h
theorem tmod_two {x : Int} (h : 0 ≤ x) : Int.tmod x 2 = x % 2 := Int.tmod_eq_emod_of_nonneg h
theorem impl_edgeOf_eq {v : List Int} {e : Int} (hv : areBits v = true) (h0 : 0 ≤ e) (h1 : e < 2 * v.length) (hl : v.length ≤ 1048576) : impl_edgeOf.f v e = some (valE v e) := by
  have hb := bits_at hv (e / 2).toNat
  unfold impl_edgeOf.f valE
  rw [tdiv_two h0, wrap_in (x := e / 2) (by omega) (by omega), if_pos (by omega), if_pos (by omega), and_one h0 (by omega)]
  show some (Go.bits .xor .i64 (v.getD (e / 2).toNat 0) (e % 2)) = _
  rw [xor_bit hb (by omega)]
theorem areBits_snoc {v : List Int} {x : Int} (hv : areBits v = true) (hx : x = 0 ∨ x = 1) : areBits (v ++ [x]) = true := by
  unfold areBits at hv ⊢
  rw [List.all_append, hv]
  rcases hx with rfl | rfl <;> rfl
theorem runC_ok (v : List Int) : ∀ (gates : List IAnd), areBits v = true → areBits (runC v gates) = true ∧ (runC v gates).length = v.length + gates.length := by
  intro gates
  induction gates generalizing v with
  | nil => exact fun h => ⟨h, by simp [runC]⟩
  | cons g r ih =>
    intro h
    unfold runC
    have := ih (v ++ [valE v g.f0 * valE v g.f1]) (areBits_snoc h (mul_bit (valE_bit h _) (valE_bit h _)).1)
    refine ⟨this.1, ?_⟩
    rw [this.2]
    simp only [List.length_append, List.length_cons, List.length_nil]
    omega
theorem impl_values_ev {inputs : Int} {gates : List IAnd} {bits : List Int} (h : circP inputs gates = true) (hb : (bits.length : Int) = inputs) (hbb : areBits bits = true) : Ev (fun k => impl_Circuit_values.f k inputs gates bits) (runC (0 :: bits) gates) := by
  obtain ⟨h1, h2, h3⟩ := circP_and h
  unfold impl_Circuit_values.f
  have key : ∀ d n : Nat, gates.length - n = d → n ≤ gates.length → ∀ v : List Int, areBits v = true → (v.length : Int) = 1 + inputs + n → Ev (fun k => impl_Circuit_values.l0 k v gates (gates.length : Int) (n : Int)) (runC v (gates.drop n)) := by
    intro d
    induction d with
    | zero =>
      intro n g1 g2 v _ _
      have : n = gates.length := by omega
      subst this
      rw [List.drop_length]
      refine Ev.step (fun k => by rw [impl_Circuit_values.l0]) ?_
      exact ev_neg (by omega) (ev_ret _)
    | succ d ih =>
      intro n g1 g2 v hv hl
      have hn : n < gates.length := by omega
      obtain ⟨a, b⟩ := h3 n gates[n] (List.getElem?_eq_getElem hn)
      rw [List.drop_eq_getElem_cons hn]
      unfold runC
      generalize hgq : gates[n] = g at *
      have hrd : rd_IAnd gates (n : Int) = g := (rd_IAnd_at hn).trans hgq
      obtain ⟨m1, m2, m3⟩ := mul_bit (valE_bit hv g.f0) (valE_bit hv g.f1)
      refine Ev.step (fun k => by rw [impl_Circuit_values.l0, hrd, wrap_nat hn (by omega), impl_edgeOf_eq hv a.1 (by omega) (by omega), impl_edgeOf_eq hv b.1 (by omega) (by omega)]) ?_
      refine ev_pos (by omega) (ev_pos (by omega) (ev_pos (by omega) (ev_bind (ev_ret _) (ev_bind (ev_ret _) (ev_pos (by omega) ?_)))))
      rw [m3]
      exact ih (n + 1) (by omega) (by omega) _ (areBits_snoc hv m1) (by simp; omega)
  refine ev_bind (ev_ret _) (ev_pos (by simp; omega) ?_)
  exact key gates.length 0 (by omega) (by omega) (0 :: bits) (by unfold areBits at hbb ⊢; rw [List.all_cons, hbb]; rfl) (by simp; omega)
theorem shr_nat {n m : Nat} (hm : m ≤ 64) : shr .i64 (n : Int) (m : Int) = ((n / 2 ^ m : Nat) : Int) := by
  unfold shr
  rw [Int.toNat_natCast, show min m IntKind.i64.bits = m from Nat.min_eq_left hm]
  push_cast
  rfl
def eLit (e : Int) : Int := if e % 2 = 1 then -(e / 2) else e / 2
def nE (e : Int) : Int := if e % 2 = 1 then e - 1 else e + 1
theorem xor_one {x : Int} (h0 : 0 ≤ x) (h1 : x < 2048) : Go.bits .xor .i64 x 1 = nE x := by
  obtain ⟨n, rfl⟩ := Int.eq_ofNat_of_zero_le h0
  have key : ∀ a : Fin 2048, Go.bits .xor .i64 ((a.val : Nat) : Int) 1 = nE ((a.val : Nat) : Int) := by decide +kernel
  exact key ⟨n, by omega⟩
theorem spec_l11Edge_eq {e : Int} (h0 : 0 ≤ e) (h1 : e ≤ 4096) : spec_l11Edge.f e = some (eLit e) := by
  unfold spec_l11Edge.f eLit
  rw [tmod_two h0, tdiv_two h0, wrap_in (x := e / 2) (by omega) (by omega)]
  by_cases c : e % 2 = 1
  · rw [if_pos c, if_pos c, wrap_in (by omega) (by omega)]
  · rw [if_neg c, if_neg c]
theorem spec_l7Not_eq {e : Int} (h0 : 0 ≤ e) (h1 : e ≤ 4096) : spec_l7Not.f e = some (nE e) := by
  unfold spec_l7Not.f nE
  rw [if_neg (by omega), tmod_two h0, tdiv_two h0, wrap_in (x := e / 2) (by omega) (by omega), wrap_in (x := e / 2 * 2) (by omega) (by omega), wrap_in (x := e / 2 * 2 + 1) (by omega) (by omega), wrap_in (by omega) (by omega)]
  by_cases c : e % 2 = 1
  · rw [if_pos c]; congr 1; omega
  · rw [if_neg c]; congr 1; omega
def litsGo (acc : List Int) : List Int → Option (List Int)
  | [] => some acc
  | e :: r => if e = 1 then none else if e > 1 then litsGo (acc ++ [eLit e]) r else litsGo acc r
def putE (atoms : Nat) (edges : List Int) : Option (List Int) :=
  match litsGo [] edges with
  | none => none
  | some l => if NoC l then some (coll l atoms) else none
def EdgesOk (atoms : Nat) (edges : List Int) : Prop := ∀ e ∈ edges, 0 ≤ e ∧ e < 2 * (1 + (atoms : Int))
theorem eLit_ok {atoms : Nat} {e : Int} (h1 : 1 < e) (h2 : e < 2 * (1 + (atoms : Int))) : litOk (atoms : Int) (eLit e) = true := by
  unfold litOk eLit
  rw [Bool.and_eq_true, decide_eq_true_eq, inR_iff]
  split <;> omega
theorem litsGo_ok {atoms : Nat} : ∀ {edges acc l : List Int}, EdgesOk atoms edges → (∀ x ∈ acc, litOk (atoms : Int) x = true) → litsGo acc edges = some l → (∀ x ∈ l, litOk (atoms : Int) x = true) ∧ l.length ≤ acc.length + edges.length
  | [], acc, l, _, ha, h => by
    obtain rfl := Option.some.inj h
    exact ⟨ha, by simp⟩
  | e :: r, acc, l, he, ha, h => by
    have h0 := he e (by simp)
    have hr : EdgesOk atoms r := fun x hx => he x (by simp [hx])
    unfold litsGo at h
    by_cases c : e = 1
    · rw [if_pos c] at h; cases h
    · rw [if_neg c] at h
      by_cases d : e > 1
      · rw [if_pos d] at h
        obtain ⟨a, b⟩ := litsGo_ok hr (fun x hx => by
          rcases List.mem_append.1 hx with hx | hx
          · exact ha x hx
          · rw [List.mem_singleton.1 hx]; exact eLit_ok d h0.2) h
        refine ⟨a, ?_⟩
        simp only [List.length_append, List.length_cons, List.length_nil] at b ⊢
        omega
      · rw [if_neg d] at h
        obtain ⟨a, b⟩ := litsGo_ok hr ha h
        refine ⟨a, ?_⟩
        simp only [List.length_cons] at b ⊢
        omega
theorem cons_of {α : Type} {r : List α} {d : Nat} (h : r.length = d + 1) : ∃ x r', r = x :: r' := by
  cases r with
  | nil => simp at h
  | cons x r => exact ⟨x, r, rfl⟩
theorem spec_l11Put_ev {atoms : Nat} {list : List (List Int)} {edges : List Int} (ha : atoms ≤ 700) (hl : list.length ≤ 1048576) (he : EdgesOk atoms edges) (hn : edges.length ≤ 1048576) :
    Ev (fun k => spec_l11Put.f k (atoms : Int) list edges) ((atoms : Int), list ++ (putE atoms edges).toList) := by
  unfold spec_l11Put.f putE
  have key : ∀ (d : Nat) (p r acc : List Int), r.length = d → edges = p ++ r → (∀ x ∈ acc, litOk (atoms : Int) x = true) → acc.length ≤ p.length → litsGo [] edges = litsGo acc r →
      Ev (fun k => spec_l11Put.l1 k acc (p.length : Int) (atoms : Int) list edges) ((atoms : Int), list ++ (match litsGo [] edges with | none => none | some l => if NoC l then some (coll l atoms) else none).toList) := by
    intro d
    induction d with
    | zero =>
      intro p r acc h1 h2 h3 h4 h5
      obtain rfl := List.eq_nil_of_length_eq_zero h1
      rw [List.append_nil] at h2
      subst h2
      rw [h5]
      simp only [litsGo]
      refine Ev.step (fun k => by rw [spec_l11Put.l1]) (ev_neg (by omega) (ev_bind (spec_l11Clause_ev (by omega) (by omega) h3) ?_))
      unfold clauseR
      by_cases c : NoC acc
      · rw [if_pos c, if_pos c]
        exact ev_pos rfl (ev_pos (by omega) (ev_ret _))
      · rw [if_neg c, if_neg c]
        refine ev_neg (by simp) (ev_eq (ev_ret _) ?_)
        simp
    | succ d ih =>
      intro p r acc h1 h2 h3 h4 h5
      obtain ⟨e, r, rfl⟩ := cons_of h1
      have hlen : edges.length = p.length + (r.length + 1) := by rw [h2]; simp
      have hr : rd edges (p.length : Int) = e := by rw [h2]; exact rd_mid _ _ _
      have h0 := he e (by rw [h2]; simp)
      have h2' : edges = (p ++ [e]) ++ r := by rw [h2]; simp
      rw [litsGo] at h5
      refine Ev.step (fun k => by rw [spec_l11Put.l1, hr, wrap_nat (n := p.length) (m := edges.length) (by omega) (by omega), spec_l11Edge_eq h0.1 (by omega)]) ?_
      refine ev_pos (by omega) (ev_pos (by omega) (ev_pos (by omega) ?_))
      by_cases c : e = 1
      · rw [if_pos c] at h5
        refine ev_pos c (ev_eq (ev_ret _) ?_)
        rw [h5]
        simp
      · rw [if_neg c] at h5
        refine ev_neg c (ev_pos (by omega) (ev_pos (by omega) ?_))
        by_cases z : e > 1
        · rw [if_pos z] at h5
          refine ev_pos z (ev_pos (by omega) (ev_pos (by omega) (ev_bind (ev_ret _) (ev_pos (by omega) ?_))))
          have := ih (p ++ [e]) r (acc ++ [eLit e]) (by simpa using h1) h2' (fun x hx => by
            rcases List.mem_append.1 hx with hx | hx
            · exact h3 x hx
            · rw [List.mem_singleton.1 hx]; exact eLit_ok z h0.2) (by simp; omega) h5
          rw [List.length_append, List.length_singleton] at this
          exact this
        · rw [if_neg z] at h5
          refine ev_neg z ?_
          have := ih (p ++ [e]) r acc (by simpa using h1) h2' h3 (by simp; omega) h5
          rw [List.length_append, List.length_singleton] at this
          exact this
  exact key edges.length [] edges [] rfl rfl (fun x hx => by cases hx) (Nat.le_refl _) rfl
def nums (n : Nat) : List Int := (List.range n).map fun i => ((i : Nat) : Int)
theorem nums_len (n : Nat) : (nums n).length = n := by simp [nums]
theorem nums_at {n i : Nat} (h : i < n) : rd (nums n) (i : Int) = (i : Int) := by
  rw [rdN]
  unfold nums
  rw [List.getD_eq_getElem?_getD, List.getElem?_map, List.getElem?_range h]; rfl
theorem impl_numbered_ev {n : Nat} (hn : n ≤ 1048576) : Ev (fun k => impl_numbered.f k (n : Int)) (nums n) := by
  unfold impl_numbered.f
  refine ev_pos (by omega) (ev_pos (by omega) (ev_bind (ev_ret _) ?_))
  rw [List.length_replicate, Int.toNat_natCast]
  have key : ∀ d i : Nat, n - i = d → i ≤ n → Ev (fun k => impl_numbered.l0 k (nums i ++ List.replicate (n - i) 0) (n : Int) (i : Int)) (nums n) := by
    intro d
    induction d with
    | zero =>
      intro i h1 h2
      have : i = n := by omega
      subst this
      refine Ev.step (fun k => by rw [impl_numbered.l0]) (ev_neg (by omega) (ev_eq (ev_ret _) ?_))
      simp
    | succ d ih =>
      intro i h1 h2
      have hi : i < n := by omega
      have e : (nums i ++ List.replicate (n - i) (0 : Int)).set ((i : Int)).toNat (i : Int) = nums (i + 1) ++ List.replicate (n - (i + 1)) 0 := by
        rw [Int.toNat_natCast, List.set_append, if_neg (by rw [nums_len]; omega), nums_len, Nat.sub_self, show n - i = (n - (i + 1)) + 1 by omega, List.replicate_succ, List.set_cons_zero]
        unfold nums
        rw [List.range_succ, List.map_append]
        simp
      refine Ev.step (fun k => by rw [impl_numbered.l0, e, wrap_nat hi (by omega)]) (ev_pos (by omega) (ev_pos (by omega) (ev_pos (by simp [nums_len]; omega) ?_)))
      exact ih (i + 1) (by omega) (by omega)
  have := key n 0 (by omega) (by omega)
  simpa [nums] using this
theorem lit_mul {e : Int} (h0 : 0 ≤ e) (h1 : e ≤ 4096) : wrap64 (e / 2 * wrap64 (1 - wrap64 (2 * Go.bits .and .i64 e 1))) = eLit e := by
  rw [and_one h0 (by omega), wrap_in (x := 2 * (e % 2)) (by omega) (by omega), wrap_in (x := 1 - 2 * (e % 2)) (by omega) (by omega)]
  unfold eLit
  by_cases c : e % 2 = 1
  · rw [if_pos c, c, show (1 : Int) - 2 * 1 = -1 by omega, Int.mul_neg, Int.mul_one, wrap_in (by omega) (by omega)]
  · have c0 : e % 2 = 0 := by omega
    rw [if_neg c, c0, show (1 : Int) - 2 * 0 = 1 by omega, Int.mul_one, wrap_in (by omega) (by omega)]
def putR (o : Option (List Int)) : List Int × Bool := match o with | none => ([], false) | some c => (c, true)
theorem impl_edgeClause_ev {atoms : Nat} {edges : List Int} (ha : atoms ≤ 700) (he : EdgesOk atoms edges) (hn : edges.length ≤ 1048576) :
    Ev (fun k => impl_edgeClause.f k edges (nums (atoms + 1))) (putR (putE atoms edges)) := by
  unfold impl_edgeClause.f putE
  have key : ∀ (d : Nat) (p r acc : List Int), r.length = d → edges = p ++ r → (∀ x ∈ acc, litOk (atoms : Int) x = true) → acc.length ≤ p.length → litsGo [] edges = litsGo acc r →
      Ev (fun k => impl_edgeClause.l1 k acc (p.length : Int) edges (nums (atoms + 1))) (putR (match litsGo [] edges with | none => none | some l => if NoC l then some (coll l atoms) else none)) := by
    intro d
    induction d with
    | zero =>
      intro p r acc h1 h2 h3 h4 h5
      obtain rfl := List.eq_nil_of_length_eq_zero h1
      rw [List.append_nil] at h2
      subst h2
      rw [h5]
      simp only [litsGo]
      refine Ev.step (fun k => by rw [impl_edgeClause.l1]) (ev_neg (by omega) (ev_bind (impl_clauseOf_ev (atoms := atoms) (by omega) h3 (by omega) (sortM_tot acc (fun x hx => by have := litOk_in (h3 x hx); unfold Lit7; omega) (by omega))) (ev_eq (ev_ret _) ?_)))
      unfold clauseR putR
      by_cases c : NoC acc
      · rw [if_pos c, if_pos c]
      · rw [if_neg c, if_neg c]
    | succ d ih =>
      intro p r acc h1 h2 h3 h4 h5
      obtain ⟨e, r, rfl⟩ := cons_of h1
      have hlen : edges.length = p.length + (r.length + 1) := by rw [h2]; simp
      have hr : rd edges (p.length : Int) = e := by rw [h2]; exact rd_mid _ _ _
      have h0 := he e (by rw [h2]; simp)
      have h2' : edges = (p ++ [e]) ++ r := by rw [h2]; simp
      have hq : rd (nums (atoms + 1)) (e / 2) = e / 2 := by
        have := nums_at (n := atoms + 1) (i := (e / 2).toNat) (by omega)
        rwa [show (((e / 2).toNat : Nat) : Int) = e / 2 by omega] at this
      rw [litsGo] at h5
      refine Ev.step (fun k => by rw [impl_edgeClause.l1, hr, wrap_nat (n := p.length) (m := edges.length) (by omega) (by omega), tdiv_two h0.1, wrap_in (x := e / 2) (by omega) (by omega), hq, lit_mul h0.1 (by omega)]) ?_
      refine ev_pos (by omega) (ev_pos (by omega) (ev_pos (by omega) ?_))
      by_cases c : e = 1
      · rw [if_pos c] at h5
        refine ev_pos c (ev_eq (ev_ret _) ?_)
        rw [h5]
        rfl
      · rw [if_neg c] at h5
        refine ev_neg c ?_
        by_cases z : e > 1
        · rw [if_pos z] at h5
          refine ev_pos z (ev_pos (by omega) (ev_pos (by rw [nums_len]; omega) (ev_pos (by omega) ?_)))
          have := ih (p ++ [e]) r (acc ++ [eLit e]) (by simpa using h1) h2' (fun x hx => by
            rcases List.mem_append.1 hx with hx | hx
            · exact h3 x hx
            · rw [List.mem_singleton.1 hx]; exact eLit_ok z h0.2) (by simp; omega) h5
          rw [List.length_append, List.length_singleton] at this
          exact this
        · rw [if_neg z] at h5
          refine ev_neg z ?_
          have := ih (p ++ [e]) r acc (by simpa using h1) h2' h3 (by simp; omega) h5
          rw [List.length_append, List.length_singleton] at this
          exact this
  exact key edges.length [] edges [] rfl rfl (fun x hx => by cases hx) (Nat.le_refl _) rfl
def gateE (inputs : Int) (n : Nat) (g : IAnd) : List (List Int) := [[2 * (1 + inputs + n) + 1, g.f0], [2 * (1 + inputs + n) + 1, g.f1], [2 * (1 + inputs + n), nE g.f0, nE g.f1]]
def gateC (atoms : Nat) (inputs : Int) (n : Nat) (g : IAnd) : List (List Int) := (gateE inputs n g).flatMap fun e => (putE atoms e).toList
def gatesC (atoms : Nat) (inputs : Int) : Nat → List IAnd → List (List Int)
  | _, [] => []
  | n, g :: r => gateC atoms inputs n g ++ gatesC atoms inputs (n + 1) r
def circC (inputs : Int) (gates : List IAnd) (e : Int) : List (List Int) := gatesC (inputs.toNat + gates.length) inputs 0 gates ++ (putE (inputs.toNat + gates.length) [e]).toList
def circR (inputs : Int) (gates : List IAnd) (e : Int) : (Int × List (List Int)) × Bool :=
  if (circP inputs gates && edgeP inputs gates e) = true then ((((inputs.toNat + gates.length : Nat) : Int), circC inputs gates e), true) else ((0, []), false)
theorem nE_in {e m : Int} (h0 : 0 ≤ e) (h1 : e < 2 * m) : 0 ≤ nE e ∧ nE e < 2 * m := by unfold nE; split <;> omega
theorem gateE_ok {inputs : Int} {atoms n : Nat} {g : IAnd} (hi : 0 ≤ inputs) (hn : inputs + n < atoms) (h : (0 ≤ g.f0 ∧ g.f0 < 2 * (1 + inputs + n)) ∧ (0 ≤ g.f1 ∧ g.f1 < 2 * (1 + inputs + n))) : ∀ e ∈ gateE inputs n g, EdgesOk atoms e ∧ e.length ≤ 3 := by
  have a0 := nE_in h.1.1 h.1.2
  have a1 := nE_in h.2.1 h.2.2
  intro e he
  unfold gateE at he
  simp only [List.mem_cons, List.not_mem_nil, or_false] at he
  rcases he with rfl | rfl | rfl
  · refine ⟨fun x hx => ?_, by simp⟩
    simp only [List.mem_cons, List.not_mem_nil, or_false] at hx
    rcases hx with rfl | rfl <;> omega
  · refine ⟨fun x hx => ?_, by simp⟩
    simp only [List.mem_cons, List.not_mem_nil, or_false] at hx
    rcases hx with rfl | rfl <;> omega
  · refine ⟨fun x hx => ?_, by simp⟩
    simp only [List.mem_cons, List.not_mem_nil, or_false] at hx
    rcases hx with rfl | rfl | rfl <;> omega
theorem putE_len (atoms : Nat) (e : List Int) : (putE atoms e).toList.length ≤ 1 ∧ ∀ c ∈ (putE atoms e).toList, c.length ≤ atoms := by
  unfold putE
  split
  · simp
  · split
    · exact ⟨by simp, fun c hc => by simp at hc; rw [hc]; exact coll_len _ _⟩
    · simp
theorem gateC_eq (atoms : Nat) (inputs : Int) (n : Nat) (g : IAnd) : gateC atoms inputs n g = (putE atoms [2 * (1 + inputs + n) + 1, g.f0]).toList ++ ((putE atoms [2 * (1 + inputs + n) + 1, g.f1]).toList ++ (putE atoms [2 * (1 + inputs + n), nE g.f0, nE g.f1]).toList) := by
  unfold gateC gateE
  simp [List.flatMap_cons]
theorem gateC_len (atoms : Nat) (inputs : Int) (n : Nat) (g : IAnd) : (gateC atoms inputs n g).length ≤ 3 ∧ ∀ c ∈ gateC atoms inputs n g, c.length ≤ atoms := by
  rw [gateC_eq]
  have a := putE_len atoms [2 * (1 + inputs + n) + 1, g.f0]
  have b := putE_len atoms [2 * (1 + inputs + n) + 1, g.f1]
  have c := putE_len atoms [2 * (1 + inputs + n), nE g.f0, nE g.f1]
  refine ⟨by simp only [List.length_append]; omega, fun x hx => ?_⟩
  rcases List.mem_append.1 hx with hx | hx
  · exact a.2 x hx
  · rcases List.mem_append.1 hx with hx | hx
    · exact b.2 x hx
    · exact c.2 x hx
theorem gatesC_len (atoms : Nat) (inputs : Int) : ∀ (r : List IAnd) (n : Nat), (gatesC atoms inputs n r).length ≤ 3 * r.length ∧ ∀ c ∈ gatesC atoms inputs n r, c.length ≤ atoms
  | [], n => by simp [gatesC]
  | g :: r, n => by
    obtain ⟨a, b⟩ := gatesC_len atoms inputs r (n + 1)
    obtain ⟨c, d⟩ := gateC_len atoms inputs n g
    refine ⟨by simp only [gatesC, List.length_append, List.length_cons]; omega, fun x hx => ?_⟩
    rcases List.mem_append.1 hx with hx | hx
    · exact d x hx
    · exact b x hx
theorem two_w {inputs : Int} {n : Nat} (h : 0 ≤ inputs ∧ inputs ≤ 12) (hn : n ≤ 600) : wrap64 (2 * wrap64 (wrap64 (1 + inputs) + n)) = 2 * (1 + inputs + n) := by
  rw [wrap_in (x := 1 + inputs) (by omega) (by omega), wrap_in (x := 1 + inputs + n) (by omega) (by omega), wrap_in (x := 2 * (1 + inputs + n)) (by omega) (by omega)]
theorem spec_ClausesOf_ev (inputs : Int) (gates : List IAnd) (e : Int) : Ev (fun k => spec_ClausesOf.f k inputs gates e) (circR inputs gates e) := by
  unfold spec_ClausesOf.f circR
  have hV := spec_CircuitValid_ev inputs gates
  by_cases c : circP inputs gates = true
  · obtain ⟨h1, h2, h3⟩ := circP_and c
    rw [c] at hV
    rw [c, Bool.true_and]
    refine ev_bind hV (ev_pos rfl (ev_bind (ev_fix (spec_l7Edge_eq c e)) ?_))
    by_cases d : edgeP inputs gates e = true
    · rw [if_pos d]
      refine ev_pos d ?_
      have he := inR_iff.1 d
      obtain ⟨m, rfl⟩ : ∃ m : Nat, inputs = (m : Int) := ⟨inputs.toNat, by omega⟩
      unfold circC
      rw [Int.toNat_natCast]
      generalize ham : m + gates.length = atoms
      have key : ∀ (dd n : Nat), gates.length - n = dd → n ≤ gates.length → ∀ acc : List (List Int), acc.length ≤ 3 * n →
          Ev (fun k => spec_ClausesOf.l1 k (atoms : Int) acc (n : Int) (m : Int) gates e) (((atoms : Int), acc ++ (gatesC atoms (m : Int) n (gates.drop n) ++ (putE atoms [e]).toList)), true) := by
        intro dd
        induction dd with
        | zero =>
          intro n g1 g2 acc g3
          have : n = gates.length := by omega
          subst this
          rw [List.drop_length]
          simp only [gatesC, List.nil_append]
          refine Ev.step (fun k => by rw [spec_ClausesOf.l1]) (ev_neg (by omega) (ev_bind (spec_l11Put_ev (by omega) (by omega) (fun x hx => ?_) (by simp)) (ev_ret _)))
          rw [List.mem_singleton.1 hx]
          omega
        | succ dd ih =>
          intro n g1 g2 acc g3
          have hn : n < gates.length := by omega
          obtain ⟨a, b⟩ := h3 n gates[n] (List.getElem?_eq_getElem hn)
          rw [List.drop_eq_getElem_cons hn]
          simp only [gatesC]
          generalize hgq : gates[n] = g at *
          have hrd : rd_IAnd gates (n : Int) = g := (rd_IAnd_at hn).trans hgq
          have hok := gateE_ok (atoms := atoms) (n := n) (g := g) h1.1 (by omega) ⟨a, b⟩
          have w1 : wrap64 (2 * (1 + (m : Int) + n) + 1) = 2 * (1 + (m : Int) + n) + 1 := wrap_in (by omega) (by omega)
          refine Ev.step (fun k => by rw [spec_ClausesOf.l1, hrd, two_w h1 (by omega), w1, wrap_nat hn (by omega), spec_l7Not_eq a.1 (by omega), spec_l7Not_eq b.1 (by omega)]) ?_
          clear w1
          obtain ⟨p1, _⟩ := putE_len atoms [2 * (1 + (m : Int) + n) + 1, g.f0]
          obtain ⟨p2, _⟩ := putE_len atoms [2 * (1 + (m : Int) + n) + 1, g.f1]
          obtain ⟨p3, _⟩ := putE_len atoms [2 * (1 + (m : Int) + n), nE g.f0, nE g.f1]
          refine ev_pos (by omega) (ev_pos (by omega) (ev_pos (by omega) (ev_pos (by omega) (ev_pos (by omega) ?_))))
          refine ev_bind (spec_l11Put_ev (by omega) (by omega) (hok _ (by simp [gateE])).1 (by simp)) ?_
          refine ev_bind (spec_l11Put_ev (by omega) (by simp only [List.length_append]; omega) (hok _ (by simp [gateE])).1 (by simp)) ?_
          refine ev_bind (ev_ret _) (ev_bind (ev_ret _) ?_)
          refine ev_bind (spec_l11Put_ev (by omega) (by simp only [List.length_append]; omega) (hok _ (by simp [gateE])).1 (by simp)) ?_
          refine ev_eq (ih (n + 1) (by omega) (by omega) _ (by simp only [List.length_append]; omega)) ?_
          rw [gateC_eq]
          simp only [List.append_assoc]
      refine ev_bind (g := fun _ => spec_l7Nodes.f (m : Int) gates) (ev_fix rfl) ?_
      rw [wrap_in (x := 1 + (m : Int)) (by omega) (by omega), wrap_in (x := 1 + (m : Int) + gates.length) (by omega) (by omega), show wrap64 (1 + (m : Int) + (gates.length : Int) - 1) = (atoms : Int) by rw [wrap_in (by omega) (by omega)]; omega]
      exact key gates.length 0 (by omega) (by omega) [] (by simp)
    · rw [if_neg d]
      exact ev_neg d (ev_ret _)
  · rw [Bool.not_eq_true] at c
    rw [c] at hV
    rw [c, Bool.false_and, if_neg (by simp)]
    exact ev_bind hV (ev_neg (by simp) (ev_ret _))
theorem impl_gateClauses_ev {m : Nat} {gates : List IAnd} (h : circP (m : Int) gates = true) : Ev (fun k => impl_gateClauses.f k (m : Int) gates (nums (m + gates.length + 1))) (gatesC (m + gates.length) (m : Int) 0 gates) := by
  obtain ⟨h1, h2, h3⟩ := circP_and h
  unfold impl_gateClauses.f
  generalize ham : m + gates.length = atoms
  have key : ∀ (dd n : Nat), gates.length - n = dd → n ≤ gates.length → ∀ acc : List (List Int), acc.length ≤ 3 * n →
      Ev (fun k => impl_gateClauses.l1 k acc (n : Int) (m : Int) gates (nums (atoms + 1))) (acc ++ gatesC atoms (m : Int) n (gates.drop n)) := by
    intro dd
    induction dd with
    | zero =>
      intro n g1 g2 acc g3
      have : n = gates.length := by omega
      subst this
      rw [List.drop_length]
      simp only [gatesC, List.append_nil]
      exact Ev.step (fun k => by rw [impl_gateClauses.l1]) (ev_neg (by omega) (ev_ret _))
    | succ dd ih =>
      intro n g1 g2 acc g3
      have hn : n < gates.length := by omega
      obtain ⟨a, b⟩ := h3 n gates[n] (List.getElem?_eq_getElem hn)
      rw [List.drop_eq_getElem_cons hn]
      simp only [gatesC]
      generalize hgq : gates[n] = g at *
      have hrd : rd_IAnd gates (n : Int) = g := (rd_IAnd_at hn).trans hgq
      have hok := gateE_ok (atoms := atoms) (n := n) (g := g) h1.1 (by omega) ⟨a, b⟩
      have w1 : wrap64 (2 * (1 + (m : Int) + n) + 1) = 2 * (1 + (m : Int) + n) + 1 := wrap_in (by omega) (by omega)
      have inner : ∀ (d3 : Nat) (p r : List (List Int)) (acc : List (List Int)), r.length = d3 → gateE (m : Int) n g = p ++ r → acc.length ≤ 3 * n + p.length →
          Ev (fun k => impl_gateClauses.l2 k acc (p.length : Int) (m : Int) gates (nums (atoms + 1)) (n : Int)) (acc ++ (r.flatMap fun e => (putE atoms e).toList) ++ gatesC atoms (m : Int) (n + 1) (gates.drop (n + 1))) := by
        intro d3
        induction d3 with
        | zero =>
          intro p r acc q1 q2 q3
          obtain rfl := List.eq_nil_of_length_eq_zero q1
          rw [List.append_nil] at q2
          have hp : p.length = 3 := by rw [← q2]; rfl
          refine Ev.step (fun k => by rw [impl_gateClauses.l2, wrap_nat hn (by omega)]) (ev_neg (by simp; omega) ?_)
          have := ih (n + 1) (by omega) (by omega) acc (by omega)
          simpa using this
        | succ d3 ih3 =>
          intro p r acc q1 q2 q3
          obtain ⟨e, r, rfl⟩ := cons_of q1
          have hlen : 3 = p.length + (r.length + 1) := by
            have : (gateE (m : Int) n g).length = 3 := rfl
            rw [q2] at this
            simpa using this.symm
          have hre : rd_Lint (gateE (m : Int) n g) (p.length : Int) = e := by
            show (gateE (m : Int) n g).getD _ _ = e
            rw [q2]; simp
          obtain ⟨he1, he2⟩ := hok e (by rw [q2]; simp)
          have hq2 : gateE (m : Int) n g = (p ++ [e]) ++ r := by rw [q2]; simp
          refine Ev.step (fun k => by
            rw [impl_gateClauses.l2, hrd, two_w h1 (by omega), w1, wrap_nat (n := p.length) (m := 3) (by omega) (by omega), xor_one a.1 (by omega), xor_one b.1 (by omega), show [[2 * (1 + (m : Int) + n) + 1, g.f0], [2 * (1 + (m : Int) + n) + 1, g.f1], [2 * (1 + (m : Int) + n), nE g.f0, nE g.f1]] = gateE (m : Int) n g from rfl, hre]) ?_
          obtain ⟨pl, _⟩ := putE_len atoms e
          refine ev_pos (by rw [show (gateE (m : Int) n g).length = 3 from rfl]; omega) (ev_pos (by omega) (ev_pos (by rw [show (gateE (m : Int) n g).length = 3 from rfl]; omega) (ev_bind (impl_edgeClause_ev (by omega) he1 (by omega)) ?_)))
          rw [List.flatMap_cons]
          cases hpe : putE atoms e with
          | none =>
            have := ih3 (p ++ [e]) r acc (by simpa using q1) hq2 (by simp; omega)
            rw [List.length_append, List.length_singleton] at this
            refine ev_neg (by simp [putR]) ?_
            simpa using this
          | some cl =>
            have := ih3 (p ++ [e]) r (acc ++ [cl]) (by simpa using q1) hq2 (by simp; omega)
            rw [List.length_append, List.length_singleton] at this
            refine ev_pos rfl (ev_pos (by omega) ?_)
            simpa [putR] using this
      refine Ev.step (fun k => by rw [impl_gateClauses.l1]) (ev_pos (by omega) (ev_pos (by omega) (ev_pos (by omega) ?_)))
      have := inner 3 [] (gateE (m : Int) n g) acc rfl rfl (by simp; omega)
      rw [List.append_assoc] at this
      exact this
  have := key gates.length 0 (by omega) (by omega) [] (by simp)
  simpa using this
theorem impl_ClausesOf_ev (inputs : Int) (gates : List IAnd) (e : Int) : Ev (fun k => impl_ClausesOf.f k inputs gates e) (circR inputs gates e) := by
  unfold impl_ClausesOf.f circR
  have hV := impl_CircuitValid_ev inputs gates
  by_cases c : circP inputs gates = true
  · obtain ⟨h1, h2, h3⟩ := circP_and c
    rw [c] at hV
    rw [c, Bool.true_and]
    refine ev_bind hV (ev_pos rfl (ev_bind (ev_fix (impl_isEdge_eq c e)) ?_))
    by_cases d : edgeP inputs gates e = true
    · rw [if_pos d]
      refine ev_pos d ?_
      have he := inR_iff.1 d
      obtain ⟨m, rfl⟩ : ∃ m : Nat, inputs = (m : Int) := ⟨inputs.toNat, by omega⟩
      have hG := impl_gateClauses_ev c
      obtain ⟨gl, _⟩ := gatesC_len (m + gates.length) (m : Int) gates 0
      unfold circC
      rw [Int.toNat_natCast]
      have w : wrap64 (wrap64 (1 + (m : Int)) + (gates.length : Int)) = ((m + gates.length + 1 : Nat) : Int) := by rw [wrap_in (x := 1 + (m : Int)) (by omega) (by omega), wrap_in (by omega) (by omega)]; omega
      rw [w]
      clear w
      refine ev_bind (impl_numbered_ev (by omega)) (ev_bind hG (ev_bind (impl_edgeClause_ev (atoms := m + gates.length) (edges := [e]) (by omega) (fun x hx => by rw [List.mem_singleton.1 hx]; omega) (by simp)) ?_))
      have w2 : wrap64 (((nums (m + gates.length + 1)).length : Int) - 1) = ((m + gates.length : Nat) : Int) := by rw [nums_len, wrap_in (by omega) (by omega)]; omega
      cases hpe : putE (m + gates.length) [e] with
      | none =>
        refine ev_neg (by simp [putR]) (Ev.step (fun k => by rw [impl_ClausesOf.j1, w2]) (ev_bind (g := fun _ => impl_clone_Lint.f _) (ev_fix (by unfold impl_clone_Lint.f; rw [if_pos (by omega)])) (ev_eq (ev_ret _) ?_)))
        simp
      | some cl =>
        refine ev_pos rfl (ev_pos (by omega) (Ev.step (fun k => by rw [impl_ClausesOf.j1, w2]) (ev_bind (g := fun _ => impl_clone_Lint.f _) (ev_fix (by unfold impl_clone_Lint.f; rw [if_pos (by simp only [List.length_append, List.length_singleton]; omega)])) (ev_eq (ev_ret _) ?_))))
        simp [putR]
    · rw [if_neg d]
      exact ev_neg d (ev_ret _)
  · rw [Bool.not_eq_true] at c
    rw [c] at hV
    rw [c, Bool.false_and, if_neg (by simp)]
    exact ev_bind hV (ev_neg (by simp) (ev_ret _))
theorem impl_trueIn_ev {atoms : Int} {list : List (List Int)} {bits : List Int} (ha : atoms ≤ 700) (hl : list.length ≤ 1048576) (hx : ∀ c ∈ list, c.length ≤ 1048576) (hL : ∀ c ∈ list, ∀ x ∈ c, litOk atoms x = true) (hb : (bits.length : Int) = atoms) : Ev (fun k => impl_trueIn.f k list bits) (trueP list bits) := by
  unfold impl_trueIn.f trueP
  rw [← all_any]
  refine ev_bind ?_ (ev_ret _)
  unfold slices_ContainsFunc_int_int_at_impl_trueIn_1.f slices_IndexFunc_int_int_at_impl_trueIn_1.f
  refine ev_contains (da := ([] : List Int)) (fun k i => slices_IndexFunc_int_int_at_impl_trueIn_1.l1 k i list bits) (fun k c => impl_trueIn_1.f k c bits) list (fun c => !c.any (litP bits)) (by omega) (fun k i => by rw [slices_IndexFunc_int_int_at_impl_trueIn_1.l1]; rfl) (fun c hc => ?_)
  unfold impl_trueIn_1.f
  refine ev_bind ?_ (ev_ret _)
  unfold slices_ContainsFunc_int_int_at_impl_trueIn_1_1.f slices_IndexFunc_int_int_at_impl_trueIn_1_1.f
  refine ev_contains (da := (0 : Int)) (fun k i => slices_IndexFunc_int_int_at_impl_trueIn_1_1.l1 k i c bits) (fun k x => impl_trueIn_1_1.f k x bits) c (litP bits) (by have := hx c hc; omega) (fun k i => by rw [slices_IndexFunc_int_int_at_impl_trueIn_1_1.l1]; rfl) (fun x hxc => ?_)
  unfold impl_trueIn_1_1.f
  exact ev_bind (ev_fix (impl_litTrue_eq (hL c hc x hxc) ha hb)) (ev_ret _)
theorem shl_all : ∀ m : Fin 13, shl .i64 1 (m.val : Int) = ((2 ^ m.val : Nat) : Int) := by decide +kernel
theorem shl_nat {m : Nat} (h : m ≤ 12) : shl .i64 1 (m : Int) = ((2 ^ m : Nat) : Int) := shl_all ⟨m, by omega⟩
theorem impl_TrueIn_ev2 {atoms : Int} {list : List (List Int)} {bits : List Int} (c : clausesP atoms list = true) (hl : list.length ≤ 1048576) (hx : ∀ c ∈ list, c.length ≤ 1048576) (hb : (bits.length : Int) = atoms) (hbb : areBits bits = true) : Ev (fun k => impl_TrueIn.f k atoms list bits) (trueP list bits) := by
  have hV := impl_ClausesValid_ev atoms list (by omega) (fun c hc => by have := hx c hc; omega)
  have hA := impl_bitsValid_ev bits
  unfold impl_TrueIn.f
  refine ev_bind hV ?_
  obtain ⟨ha, h2, h3⟩ := clausesP_and c
  have hA := hA (by omega)
  rw [hbb] at hA
  exact ev_pos c (ev_pos hb (ev_bind hA (ev_pos rfl (ev_bind (impl_trueIn_ev ha.2 hl hx h3 hb) (ev_ret _)))))
def evalE (v : List Int) (edges : List Int) : Bool := edges.any fun e => decide (valE v e = 1)
theorem getD_cons {x : Int} {l : List Int} {i : Nat} (h : 1 ≤ i) : (x :: l).getD i 0 = l.getD (i - 1) 0 := by
  obtain ⟨j, rfl⟩ : ∃ j, i = j + 1 := ⟨i - 1, by omega⟩
  simp
theorem lit_val {bits : List Int} {e : Int} (hb : areBits bits = true) (h1 : 1 < e) : litP bits (eLit e) = decide (valE (0 :: bits) e = 1) := by
  have hv := bits_at hb ((e / 2).toNat - 1)
  unfold litP valE
  rw [getD_cons (by omega)]
  unfold eLit
  by_cases c : e % 2 = 1
  · rw [if_pos c, if_pos c, if_pos (by omega)]
    have : (absP (-(e / 2)) - 1).toNat = (e / 2).toNat - 1 := by unfold absP; rw [if_pos (by omega)]; omega
    rw [this]
    rw [Bool.eq_iff_iff, decide_eq_true_iff, decide_eq_true_iff]
    omega
  · rw [if_neg c, if_neg c, if_neg (by omega)]
    have : (absP (e / 2) - 1).toNat = (e / 2).toNat - 1 := by unfold absP; rw [if_neg (by omega)]; omega
    rw [this]
theorem litsGo_any {bits : List Int} (hb : areBits bits = true) : ∀ (edges acc : List Int), (∀ e ∈ edges, 0 ≤ e) → match litsGo acc edges with
    | none => evalE (0 :: bits) edges = true
    | some l => l.any (litP bits) = (acc.any (litP bits) || evalE (0 :: bits) edges)
  | [], acc, _ => by simp [litsGo, evalE]
  | e :: r, acc, he => by
    have h0 := he e (by simp)
    have hr : ∀ x ∈ r, 0 ≤ x := fun x hx => he x (by simp [hx])
    unfold litsGo
    have ev : evalE (0 :: bits) (e :: r) = (decide (valE (0 :: bits) e = 1) || evalE (0 :: bits) r) := rfl
    rw [ev]
    by_cases c : e = 1
    · rw [if_pos c]
      subst c
      show (decide (valE (0 :: bits) 1 = 1) || _) = true
      have : valE (0 :: bits) 1 = 1 := by unfold valE; simp
      rw [this]; simp
    · rw [if_neg c]
      by_cases d : e > 1
      · rw [if_pos d]
        have ih := litsGo_any hb r (acc ++ [eLit e]) hr
        rw [← lit_val hb d]
        split at ih
        · rename_i h
          show (_ || _) = true
          rw [ih, Bool.or_true]
        · rename_i l h
          show l.any _ = _
          rw [ih, List.any_append]
          simp [Bool.or_assoc]
      · rw [if_neg d]
        have ih := litsGo_any hb r acc hr
        have e0 : e = 0 := by omega
        subst e0
        have : valE (0 :: bits) 0 = 0 := by unfold valE; simp
        rw [this]
        split at ih
        · rename_i h
          show (_ || _) = true
          rw [ih, Bool.or_true]
        · rename_i l h
          show l.any _ = _
          rw [ih]
          simp
theorem litP_two {bits : List Int} (hb : areBits bits = true) {x : Int} (h0 : x ≠ 0) : litP bits x = true ∨ litP bits (-x) = true := by
  unfold litP
  have e : absP (-x) = absP x := by unfold absP; split <;> split <;> omega
  rw [e, decide_eq_true_iff, decide_eq_true_iff]
  have := bits_at hb (absP x - 1).toNat
  split <;> split <;> omega
theorem putE_any {atoms : Nat} {bits edges : List Int} (hb : areBits bits = true) (he : EdgesOk atoms edges) : (putE atoms edges).toList.all (fun c => c.any (litP bits)) = evalE (0 :: bits) edges := by
  have h := litsGo_any hb edges [] (fun e h => (he e h).1)
  have hok := fun l => litsGo_ok (atoms := atoms) (acc := []) (l := l) he (fun x hx => by cases hx)
  unfold putE
  generalize litsGo [] edges = o at *
  cases o with
  | none =>
    have h : evalE (0 :: bits) edges = true := h
    rw [h]; rfl
  | some l =>
    have h : l.any (litP bits) = ([].any (litP bits) || evalE (0 :: bits) edges) := h
    rw [List.any_nil, Bool.false_or] at h
    obtain ⟨hl, _⟩ := hok l rfl
    have h0 : ∀ x ∈ l, x ≠ 0 := fun x hx => (litOk_in (hl x hx)).1
    by_cases n : NoC l
    · simp only [if_pos n, Option.toList_some, List.all_cons, List.all_nil, Bool.and_true]
      rw [← h, Bool.eq_iff_iff, List.any_eq_true, List.any_eq_true]
      constructor
      · rintro ⟨x, hx, t⟩
        exact ⟨x, ((coll_mem h0 n atoms x).1 hx).1, t⟩
      · rintro ⟨x, hx, t⟩
        exact ⟨x, (coll_mem h0 n atoms x).2 ⟨hx, by have := litOk_in (hl x hx); have := abs_le (n := x); omega⟩, t⟩
    · simp only [if_neg n, Option.toList_none, List.all_nil]
      rw [← h]
      symm
      unfold NoC at n
      simp only [Classical.not_forall, Classical.not_not] at n
      obtain ⟨x, hx, hnx⟩ := n
      rw [List.any_eq_true]
      rcases litP_two hb (h0 x hx) with t | t
      · exact ⟨x, hx, t⟩
      · exact ⟨-x, hnx, t⟩
theorem trueP_append (a b : List (List Int)) (bits : List Int) : trueP (a ++ b) bits = (trueP a bits && trueP b bits) := by
  unfold trueP
  rw [List.all_append]
theorem valE_nE {v : List Int} {e : Int} (h0 : 0 ≤ e) : valE v (nE e) = 1 - valE v e := by
  unfold valE nE
  by_cases c : e % 2 = 1
  · rw [if_pos c, if_neg (by omega), if_pos c]
    rw [show ((e - 1) / 2) = e / 2 by omega]
    omega
  · rw [if_neg c, if_pos (by omega), if_neg c]
    rw [show ((e + 1) / 2) = e / 2 by omega]
theorem bits0' {v : List Int} (h : areBits v = true) : areBits (0 :: v) = true := by
  unfold areBits at h ⊢
  rw [List.all_cons, h]
  rfl
theorem gate_sem {atoms n : Nat} {inputs : Int} {g : IAnd} {bits : List Int} (hb : areBits bits = true) (hi : 0 ≤ inputs) (hn : inputs + n < atoms) (h : (0 ≤ g.f0 ∧ g.f0 < 2 * (1 + inputs + n)) ∧ (0 ≤ g.f1 ∧ g.f1 < 2 * (1 + inputs + n))) :
    trueP (gateC atoms inputs n g) bits = decide ((0 :: bits).getD (1 + inputs + n).toNat 0 = valE (0 :: bits) g.f0 * valE (0 :: bits) g.f1) := by
  have hok := gateE_ok (atoms := atoms) hi hn h
  have hv := bits0' hb
  rw [gateC_eq, trueP_append, trueP_append]
  unfold trueP
  rw [putE_any hb (hok _ (by simp [gateE])).1, putE_any hb (hok _ (by simp [gateE])).1, putE_any hb (hok _ (by simp [gateE])).1]
  unfold evalE
  simp only [List.any_cons, List.any_nil, Bool.or_false]
  rw [valE_nE h.1.1, valE_nE h.2.1]
  have a := valE_bit hv g.f0
  have b := valE_bit hv g.f1
  have c := bits_at hv (1 + inputs + n).toNat
  have e1 : valE (0 :: bits) (2 * (1 + inputs + n) + 1) = 1 - (0 :: bits).getD (1 + inputs + n).toNat 0 := by
    unfold valE
    rw [if_pos (by omega), show (2 * (1 + inputs + n) + 1) / 2 = 1 + inputs + n by omega]
  have e2 : valE (0 :: bits) (2 * (1 + inputs + n)) = (0 :: bits).getD (1 + inputs + n).toNat 0 := by
    unfold valE
    rw [if_neg (by omega), show (2 * (1 + inputs + n)) / 2 = 1 + inputs + n by omega]
  rw [e1, e2]
  generalize (0 :: bits).getD (1 + inputs + n).toNat 0 = z at *
  generalize valE (0 :: bits) g.f0 = x at *
  generalize valE (0 :: bits) g.f1 = y at *
  rcases a with rfl | rfl <;> rcases b with rfl | rfl <;> rcases c with rfl | rfl <;> decide
theorem gates_sem {atoms : Nat} {inputs : Int} {bits : List Int} (hb : areBits bits = true) (hi : 0 ≤ inputs) : ∀ (r : List IAnd) (n : Nat), inputs + n + r.length ≤ atoms → (∀ (i : Nat) (g : IAnd), r[i]? = some g → (0 ≤ g.f0 ∧ g.f0 < 2 * (1 + inputs + (n + i : Nat))) ∧ (0 ≤ g.f1 ∧ g.f1 < 2 * (1 + inputs + (n + i : Nat)))) →
    (trueP (gatesC atoms inputs n r) bits = true ↔ ∀ (i : Nat) (g : IAnd), r[i]? = some g → (0 :: bits).getD (1 + inputs + (n + i : Nat)).toNat 0 = valE (0 :: bits) g.f0 * valE (0 :: bits) g.f1)
  | [], n, _, _ => by simp [gatesC, trueP]
  | g :: r, n, hn, h => by
    have h0 := h 0 g (by simp)
    rw [Nat.add_zero] at h0
    have ih := gates_sem (atoms := atoms) hb hi r (n + 1) (by simp at hn; omega) (fun i g hg => by have := h (i + 1) g (by simpa using hg); rw [show n + 1 + i = n + (i + 1) by omega]; exact this)
    unfold gatesC
    rw [trueP_append, Bool.and_eq_true, ih, gate_sem hb hi (by simp at hn; omega) h0, decide_eq_true_iff]
    constructor
    · rintro ⟨a, b⟩ i g' hg
      cases i with
      | zero =>
        obtain rfl : g = g' := by simpa using hg
        exact a
      | succ i =>
        have := b i g' (by simpa using hg)
        rw [show n + (i + 1) = n + 1 + i by omega]
        exact this
    · intro H
      refine ⟨H 0 g (by simp), fun i g' hg => ?_⟩
      have := H (i + 1) g' (by simpa using hg)
      rw [show n + 1 + i = n + (i + 1) by omega]
      exact this
theorem runC_pre : ∀ (gates : List IAnd) (v : List Int) (j : Nat), j < v.length → (runC v gates).getD j 0 = v.getD j 0
  | [], v, j, _ => rfl
  | g :: r, v, j, h => by
    unfold runC
    rw [runC_pre r _ j (by simp; omega)]
    rw [List.getD_eq_getElem?_getD, List.getElem?_append_left h, ← List.getD_eq_getElem?_getD]
theorem valE_pre {v w : List Int} {e : Int} {m : Nat} (h : ∀ j, j < m → w.getD j 0 = v.getD j 0) (h0 : 0 ≤ e) (h1 : e < 2 * m) : valE w e = valE v e := by
  unfold valE
  rw [h (e / 2).toNat (by omega)]
theorem runC_at : ∀ (gates : List IAnd) (v : List Int), (∀ (i : Nat) (g : IAnd), gates[i]? = some g → (0 ≤ g.f0 ∧ g.f0 < 2 * ((v.length + i : Nat) : Int)) ∧ (0 ≤ g.f1 ∧ g.f1 < 2 * ((v.length + i : Nat) : Int))) →
    ∀ (i : Nat) (g : IAnd), gates[i]? = some g → (runC v gates).getD (v.length + i) 0 = valE (runC v gates) g.f0 * valE (runC v gates) g.f1
  | [], v, _, i, g, hg => by simp at hg
  | g :: r, v, h, 0, g', hg => by
    obtain rfl : g = g' := by simpa using hg
    have h0 := h 0 g (by simp)
    unfold runC
    have p := runC_pre r (v ++ [valE v g.f0 * valE v g.f1])
    rw [p (v.length + 0) (by simp)]
    have q : ∀ j, j < v.length → (runC (v ++ [valE v g.f0 * valE v g.f1]) r).getD j 0 = v.getD j 0 := fun j hj => by
      rw [p j (by simp; omega), List.getD_eq_getElem?_getD, List.getElem?_append_left hj, ← List.getD_eq_getElem?_getD]
    rw [valE_pre q h0.1.1 (by have := h0.1.2; simpa using this), valE_pre q h0.2.1 (by have := h0.2.2; simpa using this)]
    simp
  | g :: r, v, h, i + 1, g', hg => by
    unfold runC
    have := runC_at r (v ++ [valE v g.f0 * valE v g.f1]) (fun i g hg => by
      have := h (i + 1) g (by simpa using hg)
      rw [List.length_append, List.length_singleton, show v.length + 1 + i = v.length + (i + 1) by omega]
      exact this) i g' (by simpa using hg)
    rw [List.length_append, List.length_singleton, show v.length + 1 + i = v.length + (i + 1) by omega] at this
    exact this
theorem runC_cons (x : Int) (b : List Int) (gates : List IAnd) : ∃ c, runC (x :: b) gates = x :: c := by
  have key : ∀ (gates : List IAnd) (b : List Int), ∃ c, runC (x :: b) gates = x :: c := by
    intro gates
    induction gates with
    | nil => exact fun b => ⟨b, rfl⟩
    | cons g r ih =>
      intro b
      unfold runC
      rw [List.cons_append]
      exact ih _
  exact key gates b
theorem circC_len {m : Nat} {gates : List IAnd} (h : circP (m : Int) gates = true) (e : Int) : (circC (m : Int) gates e).length ≤ 1048576 ∧ (∀ c ∈ circC (m : Int) gates e, c.length ≤ 1048576) ∧ (circC (m : Int) gates e).length ≤ 2500 := by
  obtain ⟨h1, h2, _⟩ := circP_and h
  obtain ⟨a, b⟩ := gatesC_len ((m : Int).toNat + gates.length) m gates 0
  obtain ⟨c, d⟩ := putE_len ((m : Int).toNat + gates.length) [e]
  have hl : (circC (m : Int) gates e).length ≤ 2500 := by unfold circC; rw [List.length_append]; omega
  refine ⟨by omega, fun x hx => ?_, hl⟩
  unfold circC at hx
  rcases List.mem_append.1 hx with hx | hx
  · have := b x hx; omega
  · have := d x hx; omega
theorem putE_valid {atoms : Nat} {edges : List Int} (he : EdgesOk atoms edges) : ∀ c ∈ (putE atoms edges).toList, clauseP c (atoms : Int) = true := by
  intro c hc
  have hok := fun l => litsGo_ok (atoms := atoms) (acc := []) (l := l) he (fun x hx => by cases hx)
  unfold putE at hc
  generalize litsGo [] edges = o at *
  cases o with
  | none => simp at hc
  | some l =>
    obtain ⟨hl, _⟩ := hok l rfl
    have h0 : ∀ x ∈ l, x ≠ 0 := fun x hx => (litOk_in (hl x hx)).1
    by_cases n : NoC l
    · simp only [if_pos n, Option.toList_some, List.mem_singleton] at hc
      subst hc
      exact clauseP_sorted (coll_sorted h0 n _) fun x h => hl x ((coll_mem h0 n _ x).1 h).1
    · simp [if_neg n] at hc
theorem gatesC_valid {atoms : Nat} {inputs : Int} (hi : 0 ≤ inputs) : ∀ (r : List IAnd) (n : Nat), inputs + n + r.length ≤ atoms → (∀ (i : Nat) (g : IAnd), r[i]? = some g → (0 ≤ g.f0 ∧ g.f0 < 2 * (1 + inputs + (n + i : Nat))) ∧ (0 ≤ g.f1 ∧ g.f1 < 2 * (1 + inputs + (n + i : Nat)))) →
    ∀ c ∈ gatesC atoms inputs n r, clauseP c (atoms : Int) = true
  | [], n, _, _, c, hc => by cases hc
  | g :: r, n, hn, h, c, hc => by
    have hok := gateE_ok (atoms := atoms) (n := n) (g := g) hi (by simp at hn; omega) (h 0 g (by simp))
    unfold gatesC at hc
    rcases List.mem_append.1 hc with hc | hc
    · unfold gateC at hc
      obtain ⟨e, he, hc⟩ := List.mem_flatMap.1 hc
      exact putE_valid (hok e he).1 c hc
    · exact gatesC_valid hi r (n + 1) (by simp at hn; omega) (fun i g hg => by have := h (i + 1) g (by simpa using hg); rw [show n + 1 + i = n + (i + 1) by omega]; exact this) c hc
theorem circC_valid {m : Nat} {gates : List IAnd} (h : circP (m : Int) gates = true) {e : Int} (he : edgeP (m : Int) gates e = true) : clausesP ((m + gates.length : Nat) : Int) (circC (m : Int) gates e) = true := by
  obtain ⟨h1, h2, h3⟩ := circP_and h
  have he' := inR_iff.1 he
  unfold clausesP
  rw [inR_iff.2 (by omega), decide_eq_true (circC_len h e).2.2, Bool.true_and, Bool.true_and, List.all_eq_true]
  intro c hc
  unfold circC at hc
  rw [Int.toNat_natCast] at hc
  rcases List.mem_append.1 hc with hc | hc
  · exact gatesC_valid (by omega) gates 0 (by omega) (fun i g hg => by have := h3 i g hg; simpa using this) c hc
  · exact putE_valid (fun x hx => by rw [List.mem_singleton.1 hx]; omega) c hc
theorem circC_sem {m : Nat} {gates : List IAnd} (h : circP (m : Int) gates = true) {e : Int} (he : edgeP (m : Int) gates e = true) {bits : List Int} (hb : areBits bits = true) :
    trueP (circC (m : Int) gates e) bits = true ↔ (∀ (i : Nat) (g : IAnd), gates[i]? = some g → (0 :: bits).getD (1 + m + i) 0 = valE (0 :: bits) g.f0 * valE (0 :: bits) g.f1) ∧ valE (0 :: bits) e = 1 := by
  obtain ⟨h1, h2, h3⟩ := circP_and h
  have he' := inR_iff.1 he
  unfold circC
  rw [Int.toNat_natCast, trueP_append, Bool.and_eq_true, gates_sem hb (by omega) gates 0 (by omega) (fun i g hg => by have := h3 i g hg; simpa using this)]
  have e1 : trueP (putE (m + gates.length) [e]).toList bits = decide (valE (0 :: bits) e = 1) := by
    unfold trueP
    rw [putE_any hb (fun x hx => by rw [List.mem_singleton.1 hx]; omega)]
    simp [evalE]
  rw [e1, decide_eq_true_iff]
  have e2 : ∀ i : Nat, (1 + (m : Int) + ((0 + i : Nat) : Int)).toNat = 1 + m + i := fun i => by omega
  simp only [e2]
theorem circC_run {m : Nat} {gates : List IAnd} (h : circP (m : Int) gates = true) {e : Int} (he : edgeP (m : Int) gates e = true) {b : List Int} (hb : areBits b = true) (hl : b.length = m) :
    trueP (circC (m : Int) gates e) ((runC (0 :: b) gates).drop 1) = decide (valE (runC (0 :: b) gates) e = 1) ∧
    (gates ≠ [] → trueP (circC (m : Int) gates e) (((runC (0 :: b) gates).set (m + gates.length) (1 - (runC (0 :: b) gates).getD (m + gates.length) 0)).drop 1) = false) := by
  obtain ⟨h1, h2, h3⟩ := circP_and h
  have hv0 := bits0' hb
  obtain ⟨r1, r2⟩ := runC_ok (0 :: b) gates hv0
  have hat := runC_at gates (0 :: b) (fun i g hg => by
    have := h3 i g hg
    rw [List.length_cons, hl]
    push_cast
    omega)
  obtain ⟨c, hc⟩ := runC_cons 0 b gates
  have hcb : areBits c = true := by
    rw [hc] at r1
    unfold areBits at r1 ⊢
    rw [List.all_cons, Bool.and_eq_true] at r1
    exact r1.2
  rw [List.length_cons, hl] at hat r2
  constructor
  · rw [hc] at hat ⊢
    rw [List.drop_succ_cons, List.drop_zero, Bool.eq_iff_iff, circC_sem h he hcb, decide_eq_true_iff]
    constructor
    · exact fun h => h.2
    · exact fun h => ⟨fun i g hg => by have := hat i g hg; rw [show 1 + m + i = m + 1 + i by omega]; exact this, h⟩
  · intro hg
    have hlen : 0 < gates.length := List.length_pos_iff.2 hg
    have hcl : c.length = m + gates.length := by rw [hc, List.length_cons] at r2; omega
    have hbit := bits_at r1 (m + gates.length)
    generalize hz : (1 - (runC (0 :: b) gates).getD (m + gates.length) 0) = z
    have hset : (runC (0 :: b) gates).set (m + gates.length) z = 0 :: c.set (m + gates.length - 1) z := by
      rw [hc]
      obtain ⟨q, hq⟩ : ∃ q, m + gates.length = q + 1 := ⟨m + gates.length - 1, by omega⟩
      rw [hq, List.set_cons_succ, Nat.add_sub_cancel]
    rw [hset, List.drop_succ_cons, List.drop_zero, Bool.eq_false_iff]
    have hcb2 : areBits (c.set (m + gates.length - 1) z) = true := by
      unfold areBits at hcb ⊢
      rw [List.all_eq_true] at hcb ⊢
      intro x hx
      rcases List.mem_or_eq_of_mem_set hx with hx | rfl
      · exact hcb x hx
      · exact inR_iff.2 (by omega)
    intro ht
    have ht := ((circC_sem h he hcb2).1 ht).1 (gates.length - 1) gates[gates.length - 1] (List.getElem?_eq_getElem (by omega))
    have ho := hat (gates.length - 1) gates[gates.length - 1] (List.getElem?_eq_getElem (by omega))
    obtain ⟨g0, g1⟩ := h3 (gates.length - 1) gates[gates.length - 1] (List.getElem?_eq_getElem (by omega))
    have hpre : ∀ j, j < m + gates.length → (0 :: c.set (m + gates.length - 1) z).getD j 0 = (runC (0 :: b) gates).getD j 0 := fun j hj => by
      rw [← hset, List.getD_eq_getElem?_getD, List.getElem?_set_ne (by omega), ← List.getD_eq_getElem?_getD]
    rw [valE_pre hpre g0.1 (by omega), valE_pre hpre g1.1 (by omega), ← ho, show 1 + m + (gates.length - 1) = m + gates.length by omega, show m + 1 + (gates.length - 1) = m + gates.length by omega, ← hset] at ht
    rw [List.getD_eq_getElem?_getD, List.getElem?_set_self (by omega)] at ht
    simp only [Option.getD_some] at ht
    omega
end Go.Proofs.Ytigbbefdndcmbaa.PA
end
section
set_option linter.unusedVariables false
set_option linter.unusedSimpArgs false
namespace Go.Proofs.Ytigbbefdndcmbaa.PA
open Go.RowKit Go.Proofs.YtigbbefdndcmbaaW.PrintWords
theorem mix_in {u v p d : Int} (hu : 0 ≤ u ∧ u < 256) (hv : 0 ≤ v ∧ v < 256) (hp : 0 ≤ p ∧ p ≤ 1000000000000) (hd : 0 ≤ d ∧ d ≤ p) :
    wrap64 (wrap64 (wrap64 (wrap64 (wrap64 u * 131) + wrap64 (wrap64 v * 1117)) + wrap64 (p * 29)) + wrap64 (wrap64 d * 53)) = u * 131 + v * 1117 + p * 29 + d * 53 := by
  rw [wrap_in (x := u) (by omega) (by omega), wrap_in (x := v) (by omega) (by omega), wrap_in (x := d) (by omega) (by omega), wrap_in (x := u * 131) (by omega) (by omega), wrap_in (x := v * 1117) (by omega) (by omega), wrap_in (x := p * 29) (by omega) (by omega),
    wrap_in (x := d * 53) (by omega) (by omega), wrap_in (x := u * 131 + v * 1117) (by omega) (by omega), wrap_in (x := u * 131 + v * 1117 + p * 29) (by omega) (by omega), wrap_in (by omega) (by omega)]
def PickQ (p n : Int) (r : Int × Int) : Prop := r.1 = p + 1 ∧ 0 ≤ r.2 ∧ (1 ≤ n → r.2 < n) ∧ (n < 1 → r.2 = 0)
theorem pick_tot {b : List Int} (hb : ByteL b) {p : Int} (h0 : 0 ≤ p) (h1 : p ≤ 1000000000000) (n : Int) : Tot (fun k => spec_l40Rd_pick.f k b p n) (PickQ p n) := by
  unfold spec_l40Rd_pick.f
  have w1 : wrap64 (p + 1) = p + 1 := wrap_in (by omega) (by omega)
  have w2 : wrap64 (p + 1 - 1) = p := by rw [wrap_in (by omega) (by omega)]; omega
  simp only [w1, w2]
  refine tot_ite (fun h => tot_ret ⟨rfl, Int.le_refl _, fun _ => by omega, fun _ => rfl⟩) fun h => tot_ite (fun h2 => tot_ret ⟨rfl, Int.le_refl _, fun _ => by show (0 : Int) < n; omega, fun _ => rfl⟩) fun h2 => tot_ite (fun h3 => ?_) fun h3 => ?_
  · refine tot_pos h0 (tot_pos h3 (tot_pos (by omega) (tot_ret ?_)))
    have hr := byte_at hb h0 h3
    rw [wrap_in (x := rd b p) (by omega) (by omega)]
    have := tmod_in (x := rd b p) (n := n) hr.1 (by omega)
    exact ⟨rfl, this.1, fun _ => this.2, fun h => by omega⟩
  · have w3 : wrap64 (wrap64 (p * 7) + 3) = p * 7 + 3 := by rw [wrap_in (x := p * 7) (by omega) (by omega), wrap_in (by omega) (by omega)]
    simp only [w3]
    have m1 := tmod_in (x := p) (n := (b.length : Int)) h0 (by omega)
    have m2 := tmod_in (x := p * 7 + 3) (n := (b.length : Int)) (by omega) (by omega)
    refine tot_pos h2 (tot_pos m1.1 (tot_pos m1.2 (tot_pos h2 (tot_pos m2.1 (tot_pos m2.2 (tot_pos h2 (tot_pos (by omega) (tot_ret ?_))))))))
    have d1 : 0 ≤ Int.tdiv p (b.length : Int) := Int.tdiv_nonneg h0 (by omega)
    have d2 : Int.tdiv p (b.length : Int) ≤ p := by rw [Int.tdiv_eq_ediv_of_nonneg h0]; exact Int.ediv_le_self _ h0
    have r1 := byte_at hb m1.1 m1.2
    have r2 := byte_at hb m2.1 m2.2
    rw [mix_in r1 r2 ⟨h0, h1⟩ ⟨d1, d2⟩]
    generalize hX : rd b (Int.tmod p (b.length : Int)) * 131 + rd b (Int.tmod (p * 7 + 3) (b.length : Int)) * 1117 + p * 29 + Int.tdiv p (b.length : Int) * 53 = X
    have x0 : 0 ≤ X ∧ X ≤ 1000000000000000 := by omega
    have e1 : 0 ≤ Int.tdiv X 64 := Int.tdiv_nonneg x0.1 (by omega)
    have e2 : Int.tdiv X 64 ≤ X := by rw [Int.tdiv_eq_ediv_of_nonneg x0.1]; exact Int.ediv_le_self _ x0.1
    rw [wrap_in (x := Int.tdiv X 64) (by omega) (by omega)]
    obtain ⟨m, hm, _⟩ := xor_nat X (Int.tdiv X 64) x0.1 e1 (by omega) (by omega)
    rw [hm]
    have := tmod_in (x := (m : Int)) (n := n) (by omega) (by omega)
    exact ⟨rfl, this.1, fun _ => this.2, fun h => by omega⟩
theorem rd_mem {l : List Int} {i : Int} (h0 : 0 ≤ i) (h1 : i < (l.length : Int)) : rd l i ∈ l := by
  have : l[i.toNat]? = some l[i.toNat] := List.getElem?_eq_getElem (by omega)
  have e : rd l i = l[i.toNat] := by
    show l.getD i.toNat _ = _
    simp [List.getD_eq_getElem?_getD, this]
  rw [e]
  exact List.getElem_mem _
theorem num_tot {b : List Int} (hb : ByteL b) {p : Int} (h0 : 0 ≤ p) (h1 : p ≤ 1000000000000) (l : List Int) (hl : l ≠ []) : Tot (fun k => spec_l40Rd_num.f k b p l) (fun r => r.1 = p + 1 ∧ r.2 ∈ l) := by
  unfold spec_l40Rd_num.f
  have hn : 0 < l.length := List.length_pos_iff.2 hl
  refine tot_bind (pick_tot hb h0 h1 _) fun r q => ?_
  obtain ⟨q1, q2, q3, _⟩ := q
  have q3 := q3 (by omega)
  exact tot_pos q2 (tot_pos q3 (tot_ret ⟨q1, rd_mem q2 q3⟩))
section
variable {b : List Int} (hb : ByteL b) {vars kind : Int} (hv : 0 ≤ vars ∧ vars ≤ 5)
include hb in
include hb hv in
include hb hv in
end
end Go.Proofs.Ytigbbefdndcmbaa.PA
end
section
set_option linter.unusedVariables false
set_option linter.unusedSimpArgs false
namespace Go.Proofs.Ytigbbefdndcmbaa.PA
open Go.RowKit Go.Proofs.YtigbbefdndcmbaaW.PrintWords
section
variable {b : List Int} (hb : ByteL b)
include hb
omit hb in
omit hb in
omit hb in
end
theorem l40Open_tot {l : List Int} (h : ∀ x ∈ l, 0 ≤ x ∧ x < 256) : Tot (fun k => spec_l40Open.f k l) (fun r => ByteL r.1 ∧ r.2 = 0) := by
  unfold spec_l40Open.f
  refine tot_ite (fun h1 => tot_pos (by omega) (tot_ret ⟨⟨by rw [List.length_take]; omega, fun x hx => h x (List.mem_of_mem_take hx)⟩, rfl⟩)) fun h1 => tot_ret ⟨⟨by show l.length ≤ 2000; omega, h⟩, rfl⟩
theorem bytes_in {l : List Int} (h : l.length ≤ 9223372036854775807 ∧ ∀ x ∈ l, (Lit.int .u8 x).wf = true) : ∀ x ∈ l, 0 ≤ x ∧ x < 256 := fun x hx => by
  have := h.2 x hx
  have e1 : Go.IntKind.u8.min = 0 := by decide
  have e2 : Go.IntKind.u8.max = 255 := by decide
  simp [Lit.wf] at this
  omega
end Go.Proofs.Ytigbbefdndcmbaa.PA
end
section
set_option linter.unusedVariables false
set_option linter.unusedSimpArgs false
namespace Go.Proofs.Ytigbbefdndcmbaa.PA
open Go.RowKit Go.Proofs.YtigbbefdndcmbaaW.PrintWords
theorem laws_wcInts_ev (a b : List Int) (h : a.length ≤ 1099511627776) : Ev (fun k => laws_wcInts.f k a b) (decide (a = b)) := by
  unfold laws_wcInts.f
  by_cases e : a.length = b.length
  · refine ev_pos (by omega) ?_
    have key : ∀ d n : Nat, a.length - n = d → n ≤ a.length → Ev (fun k => laws_wcInts.l0 k b a (a.length : Int) (n : Int)) (decide (a.drop n = b.drop n)) := by
      intro d
      induction d with
      | zero =>
        intro n g1 g2
        refine Ev.step (fun k => by rw [laws_wcInts.l0]) (ev_neg (by omega) (ev_eq (ev_ret _) ?_))
        rw [List.drop_eq_nil_of_le (by omega), List.drop_eq_nil_of_le (by omega)]
        rfl
      | succ d ih =>
        intro n g1 g2
        have hn : n < a.length := by omega
        have hm : n < b.length := by omega
        refine Ev.step (fun k => by rw [laws_wcInts.l0]) (ev_pos (by omega) (ev_pos (by omega) (ev_pos (by omega) (ev_pos (by omega) ?_))))
        rw [show rd b (n : Int) = b[n] from getD_of (List.getElem?_eq_getElem hm), show rd a (n : Int) = a[n] from getD_of (List.getElem?_eq_getElem hn), List.drop_eq_getElem_cons hn, List.drop_eq_getElem_cons hm, wrap_nat (n := n) (m := a.length) hn (by omega)]
        by_cases q : b[n] = a[n]
        · exact ev_pos q (ev_eq (ih (n + 1) (by omega) (by omega)) (by simp only [List.cons.injEq, q, true_and]))
        · exact ev_neg q (ev_eq (ev_ret _) (by simp only [List.cons.injEq]; rw [eq_comm, decide_eq_false_iff_not]; exact fun h => q h.1.symm))
    simpa using key a.length 0 (by omega) (by omega)
  · refine ev_neg (by omega) (ev_eq (ev_ret _) ?_)
    rw [eq_comm, decide_eq_false_iff_not]
    exact fun h => e (congrArg List.length h)
end Go.Proofs.Ytigbbefdndcmbaa.PA
end
section
namespace Go.Proofs.Ytigbbefdndcmbaa.PA
open Go.RowKit Go.Proofs.YtigbbefdndcmbaaW.PrintWords
def laws_FnClausesOf.PureS : Prop := ∀ (l0 : List Int), (l0.length ≤ 9223372036854775807 ∧ ∀ x0 ∈ l0, (Lit.int .u8 x0).wf = true) → ∃ k, laws_FnClausesOf.f k l0 = some true
end Go.Proofs.Ytigbbefdndcmbaa.PA
end
section
set_option linter.unusedVariables false
set_option linter.unusedSimpArgs false
namespace Go.Proofs.Ytigbbefdndcmbaa.PA
open Go.RowKit Go.Proofs.YtigbbefdndcmbaaW.PrintWords
theorem l7Draw_tot {b : List Int} (hb : ByteL b) {p : Int} (h0 : 0 ≤ p) (h1 : p ≤ 1000000) (m : Int) : Tot (fun k => spec_l7Draw.f k b p m) (fun r => p ≤ r.1 ∧ r.1 ≤ p + 40 ∧ r.2.2.length ≤ 14) := by
  unfold spec_l7Draw.f
  refine tot_bind (pick_tot hb h0 (by omega) _) fun r1 q1 => tot_bind (num_tot hb (by rw [q1.1]; omega) (by rw [q1.1]; omega) _ (by simp)) fun r2 q2 => ?_
  have a1 := q1.1
  have a2 := q2.1
  have a3 := q2.2
  simp only [List.mem_cons, List.not_mem_nil, or_false] at a3
  have key : ∀ (n : Nat) (q : Int) (x : List IAnd), p ≤ q → q + 2 * n ≤ p + 40 → x.length + n ≤ 14 → Tot (fun k => spec_l7Draw.l1 k q x (n : Int) b r1) (fun r => p ≤ r.1 ∧ r.1 ≤ p + 40 ∧ r.2.2.length ≤ 14) := by
    intro n
    induction n with
    | zero =>
      intro q x g1 g2 g3
      refine tot_step (fun k => by rw [spec_l7Draw.l1]) (tot_neg (by omega) (tot_ret ⟨g1, by simpa using g2, by simpa using g3⟩))
    | succ n ih =>
      intro q x g1 g2 g3
      have hw : wrap64 (((n + 1 : Nat) : Int) - 1) = (n : Int) := by rw [wrap_in (by omega) (by omega)]; omega
      refine tot_step (fun k => by rw [spec_l7Draw.l1, hw]) ?_
      clear hw
      refine tot_pos (by omega) (tot_bind (g := fun _ => spec_l7Nodes.f r1.2 x) (R := fun _ => True) (tot_fix ⟨_, rfl, trivial⟩) fun r3 _ => tot_bind (pick_tot hb (by omega) (by omega) _) fun r4 q4 => tot_bind (pick_tot hb (by rw [q4.1]; omega) (by rw [q4.1]; omega) _) fun r5 q5 => tot_pos (by omega) ?_)
      have b1 := q4.1
      have b2 := q5.1
      exact ih _ _ (by omega) (by omega) (by simp; omega)
  obtain ⟨n, hn⟩ : ∃ n : Nat, r2.2 = (n : Int) := ⟨r2.2.toNat, by omega⟩
  have := key n r2.1 [] (by omega) (by omega) (by simp; omega)
  rw [hn]
  exact this
theorem l7Any_tot {b : List Int} (hb : ByteL b) {p : Int} (h0 : 0 ≤ p) (h1 : p ≤ 1000000) (m : Int) : Tot (fun k => spec_l7Any.f k b p m) (fun r => p ≤ r.1 ∧ r.1 ≤ p + 100 ∧ r.2.2.length ≤ 14) := by
  unfold spec_l7Any.f
  refine tot_bind (l7Draw_tot hb h0 h1 m) fun r1 q1 => ?_
  obtain ⟨a1, a2, a3⟩ := q1
  refine tot_bind (pick_tot hb (by omega) (by omega) 14) fun r2 q2 => ?_
  have b2 := q2.1
  refine tot_ite (fun _ => ?_) fun _ => tot_ret ⟨by show p ≤ r2.1; omega, by show r2.1 ≤ _; omega, a3⟩
  refine tot_bind (pick_tot hb (by omega) (by omega) 2) fun r3 q3 => ?_
  have b3 := q3.1
  have hnum : Tot (fun k => (spec_l40Rd_num.f k b r3.1 [(-1), 13]).bind fun r4 => some (r4.1, (r4.2, r1.2.2))) (fun r => p ≤ r.1 ∧ r.1 ≤ p + 100 ∧ r.2.2.length ≤ 14) := by
    refine tot_bind (num_tot hb (by omega) (by omega) _ (by simp)) fun r4 q4 => tot_ret ?_
    have b4 := q4.1
    exact ⟨by show p ≤ r4.1; omega, by show r4.1 ≤ _; omega, a3⟩
  refine tot_ite (fun _ => hnum) fun _ => tot_ite (fun _ => hnum) fun hne => ?_
  refine tot_bind (pick_tot hb (by omega) (by omega) (r1.2.2.length : Int)) fun r6 q6 => tot_bind (num_tot hb (by rw [q6.1]; omega) (by rw [q6.1]; omega) _ (by simp)) fun r7 q7 => ?_
  have b6 := q6.1
  have b7 := q7.1
  have c1 := q6.2.1
  have c2 := q6.2.2.1 (by omega)
  exact tot_pos c1 (tot_pos c2 (tot_ret ⟨by show p ≤ r7.1; omega, by show r7.1 ≤ _; omega, by simpa using a3⟩))
theorem l7Some_tot {b : List Int} (hb : ByteL b) {p : Int} (h0 : 0 ≤ p) (h1 : p ≤ 10000000) (inputs : Int) (gates : List IAnd) : Tot (fun k => spec_l7Some.f k b p inputs gates) (fun _ => True) := by
  unfold spec_l7Some.f
  refine tot_bind (g := fun _ => spec_l7Nodes.f inputs gates) (R := fun _ => True) (tot_fix ⟨_, rfl, trivial⟩) fun r1 _ => tot_bind (pick_tot hb (by omega) (by omega) 15) fun r2 q2 => ?_
  have b2 := q2.1
  refine tot_ite (fun _ => tot_bind (num_tot hb (by omega) (by omega) _ (by simp)) fun r3 _ => tot_ret trivial) fun _ => tot_bind (pick_tot hb (by omega) (by omega) 2) fun r4 q4 => ?_
  have b4 := q4.1
  exact tot_ite (fun _ => tot_bind (pick_tot hb (by omega) (by omega) _) fun r5 _ => tot_ret trivial) fun _ => tot_bind (pick_tot hb (by omega) (by omega) _) fun r5 _ => tot_ret trivial
theorem drawClausesOf_tot {l : List Int} (h : ∀ x ∈ l, 0 ≤ x ∧ x < 256) : Tot (fun k => spec_DrawClausesOf.f k l) (fun r => r.1.2.length ≤ 14) := by
  unfold spec_DrawClausesOf.f spec_DrawNeedsInputs.f
  refine tot_bind (R := fun r : (Int × List IAnd) × Int => r.1.2.length ≤ 14) (tot_bind (l40Open_tot h) fun r1 q1 => tot_bind (l7Any_tot q1.1 (by have := q1.2; omega) (by have := q1.2; omega) 5) fun r2 q2 => tot_bind (l7Some_tot q1.1 (by have := q1.2; omega) (by have := q1.2; omega) _ _) fun r3 _ => tot_ret q2.2.2) fun r q => tot_ret q
theorem impl_NodeValues_ev {m : Nat} {gates : List IAnd} (h : circP (m : Int) gates = true) {b : List Int} (hb : areBits b = true) (hl : b.length = m) : Ev (fun k => impl_NodeValues.f k (m : Int) gates b) (runC (0 :: b) gates) := by
  obtain ⟨h1, h2, h3⟩ := circP_and h
  have hV := impl_CircuitValid_ev (m : Int) gates
  rw [h] at hV
  have hA := impl_bitsValid_ev b (by omega)
  rw [hb] at hA
  obtain ⟨r1, r2⟩ := runC_ok (0 :: b) gates (bits0' hb)
  rw [List.length_cons] at r2
  unfold impl_NodeValues.f
  refine ev_bind hV (ev_pos rfl (ev_pos (by omega) (ev_bind hA (Ev.step (fun k => by rw [impl_NodeValues.j0]) (ev_neg (by simp) (ev_bind (impl_values_ev h (by omega) hb) ?_))))))
  exact ev_bind (g := fun _ => impl_clone_int.f _) (ev_fix (by unfold impl_clone_int.f; rw [if_pos (by omega)])) (ev_ret _)
theorem impl_EdgeValue_ev {m : Nat} {gates : List IAnd} (h : circP (m : Int) gates = true) {b : List Int} (hb : areBits b = true) (hl : b.length = m) {e : Int} (he : edgeP (m : Int) gates e = true) : Ev (fun k => impl_EdgeValue.f k (m : Int) gates b e) (valE (runC (0 :: b) gates) e) := by
  obtain ⟨h1, h2, h3⟩ := circP_and h
  have hV := impl_CircuitValid_ev (m : Int) gates
  rw [h] at hV
  have hA := impl_bitsValid_ev b (by omega)
  rw [hb] at hA
  have he' := inR_iff.1 he
  obtain ⟨r1, r2⟩ := runC_ok (0 :: b) gates (bits0' hb)
  rw [List.length_cons] at r2
  unfold impl_EdgeValue.f
  rw [impl_isEdge_eq h, he]
  refine ev_bind hV (ev_pos rfl (ev_pos (by omega) (ev_bind hA (ev_pos rfl (ev_bind (ev_ret _) (Ev.step (fun k => by rw [impl_EdgeValue.j0]) (ev_neg (by simp) (ev_bind (impl_values_ev h (by omega) hb) ?_))))))))
  exact ev_bind (g := fun _ => impl_edgeOf.f _ _) (ev_fix (impl_edgeOf_eq r1 he'.1 (by omega) (by omega))) (ev_ret _)
theorem impl_InputsOf_ev {m : Nat} {gates : List IAnd} (h : circP (m : Int) gates = true) {v : List Int} (hb : areBits v = true) (hl : v.length = m + gates.length) : Ev (fun k => impl_InputsOf.f k (m : Int) gates v) (v.take m) := by
  obtain ⟨h1, h2, h3⟩ := circP_and h
  have hV := impl_CircuitValid_ev (m : Int) gates
  rw [h] at hV
  have hA := impl_bitsValid_ev v (by omega)
  rw [hb] at hA
  have ht := List.length_take_le m v
  unfold impl_InputsOf.f
  refine ev_bind hV (ev_pos rfl (ev_pos (by rw [wrap_in (by omega) (by omega)]; omega) (ev_bind hA (Ev.step (fun k => by rw [impl_InputsOf.j0]) (ev_neg (by simp) (ev_pos (by omega) (ev_pos (by omega) ?_)))))))
  exact ev_bind (g := fun _ => impl_clone_int.f _) (ev_fix (by unfold impl_clone_int.f; rw [if_pos (by rw [Int.toNat_natCast]; omega), Int.toNat_natCast])) (ev_ret _)
theorem runC_ext (gates : List IAnd) : ∀ (v : List Int), ∃ t, runC v gates = v ++ t := by
  induction gates with
  | nil => exact fun v => ⟨[], by simp [runC]⟩
  | cons g r ih =>
    intro v
    obtain ⟨t, ht⟩ := ih (v ++ [valE v g.f0 * valE v g.f1])
    exact ⟨valE v g.f0 * valE v g.f1 :: t, by unfold runC; rw [ht]; simp⟩
theorem FnClausesOf_pure : laws_FnClausesOf.PureS := by
  intro l hl
  suffices h : Ev (fun k => laws_FnClausesOf.f k l) true from h.rounds
  unfold laws_FnClausesOf.f
  refine ev_ite (fun _ => ev_ret _) fun _ => ?_
  obtain ⟨⟨⟨inputs, gates⟩, e⟩, hd, hq⟩ := drawClausesOf_tot (bytes_in hl)
  dsimp only at hq
  have hi := impl_ClausesOf_ev inputs gates e
  have hs := spec_ClausesOf_ev inputs gates e
  refine ev_bind hd (ev_bind hi (ev_bind hs (ev_neg (by simp) (ev_neg (by simp) (ev_neg (by simp) ?_)))))
  unfold circR
  by_cases c : (circP inputs gates && edgeP inputs gates e) = true
  · rw [if_pos c]
    rw [Bool.and_eq_true] at c
    obtain ⟨c1, c2⟩ := c
    obtain ⟨h1, h2, h3⟩ := circP_and c1
    obtain ⟨m, rfl⟩ : ∃ m : Nat, inputs = (m : Int) := ⟨inputs.toNat, by omega⟩
    obtain ⟨hl1, hl2, _⟩ := circC_len c1 e
    have hval := circC_valid c1 c2
    rw [Int.toNat_natCast]
    refine ev_pos rfl (ev_pos (show (0 : Int) ≤ (m : Int) by omega) ?_)
    obtain ⟨M, hM⟩ : ∃ M, 2 ^ m = M := ⟨_, rfl⟩
    have hp : M ≤ 4096 := by
      have : ∀ i : Fin 13, 2 ^ i.val ≤ 4096 := by decide
      rw [← hM]
      exact this ⟨m, by omega⟩
    have hsh : shl .i64 1 (m : Int) = (M : Int) := by rw [shl_nat (by omega), hM]
    clear hM
    have hF := impl_ClausesValid_ev ((m + gates.length : Nat) : Int) (circC (m : Int) gates e) (by omega) (fun x hx => by have := hl2 x hx; omega)
    rw [hval] at hF
    have outer : ∀ d n : Nat, M - n = d → n ≤ M → Ev (fun k => laws_FnClausesOf.l4 k (n : Int) (((m : Int), gates), e) ((((m + gates.length : Nat) : Int), circC (m : Int) gates e), true)) true := by
      intro d
      induction d with
      | zero =>
        intro n g1 g2
        have : n = M := by omega
        refine Ev.step (fun k => by rw [laws_FnClausesOf.l4, hsh]) (ev_neg (by omega) (ev_bind hF (ev_ret _)))
      | succ d ih =>
        intro n g1 g2
        have hn : n < M := by omega
        refine Ev.step (fun k => by rw [laws_FnClausesOf.l4, hsh]) (ev_pos (by omega) ?_)
        have ih := ih (n + 1) (by omega) (by omega)
        have inner : ∀ d i : Nat, m - i = d → i ≤ m → ∀ b : List Int, b.length = i → areBits b = true → Ev (fun k => laws_FnClausesOf.l5 k b (i : Int) (((m : Int), gates), e) ((((m + gates.length : Nat) : Int), circC (m : Int) gates e), true) (n : Int)) true := by
          intro d2
          induction d2 with
          | zero =>
            intro i g3 g4 b hbl hb
            have : i = m := by omega
            subst this
            obtain ⟨r1, r2⟩ := runC_ok (0 :: b) gates (bits0' hb)
            rw [List.length_cons, hbl] at r2
            obtain ⟨s1, s2⟩ := circC_run c1 c2 hb hbl
            have hN := impl_NodeValues_ev c1 hb hbl
            have hE := impl_EdgeValue_ev c1 hb hbl c2
            obtain ⟨t, ht⟩ := runC_ext gates (0 :: b)
            have hdrop : (runC (0 :: b) gates).drop 1 = b ++ t := by rw [ht]; simp
            have htl : b.length + t.length = i + gates.length := by
              have := congrArg List.length ht
              rw [r2] at this
              simp only [List.length_cons, List.length_append] at this
              omega
            have hbt : areBits (b ++ t) = true := by
              rw [ht] at r1
              unfold areBits at r1 ⊢
              rw [List.cons_append, List.all_cons, Bool.and_eq_true] at r1
              exact r1.2
            have hT := impl_TrueIn_ev2 (bits := (runC (0 :: b) gates).drop 1) hval hl1 hl2 (by rw [hdrop, List.length_append]; omega) (by rw [hdrop]; exact hbt)
            have hI := impl_InputsOf_ev c1 (v := (runC (0 :: b) gates).drop 1) (by rw [hdrop]; exact hbt) (by rw [hdrop, List.length_append]; omega)
            have hW := laws_wcInts_ev b b (by omega)
            rw [decide_eq_true rfl] at hW
            have htake : ((runC (0 :: b) gates).drop 1).take i = b := by rw [hdrop, List.take_append_of_le_length (by omega), List.take_of_length_le (by omega)]
            rw [htake] at hI
            have hset : (wrap64 (((runC (0 :: b) gates).length : Int) - 1)) = ((i + gates.length : Nat) : Int) := by rw [r2, wrap_in (by omega) (by omega)]; omega
            have hK := bits_at r1 (i + gates.length)
            have hrd : rd (runC (0 :: b) gates) ((i + gates.length : Nat) : Int) = (runC (0 :: b) gates).getD (i + gates.length) 0 := rfl
            rw [s1] at hT
            refine Ev.step (fun k => by rw [laws_FnClausesOf.l5]) (ev_neg (show ¬ ((i : Int) < (i : Int)) by omega) (ev_bind hN ?_))
            rw [hset, hrd, wrap_in (x := 1 - (runC (0 :: b) gates).getD (i + gates.length) 0) (by omega) (by omega), Int.toNat_natCast, show ((1 : Int)).toNat = 1 from rfl]
            clear hset
            have hnx : wrap64 ((n : Int) + 1) = ((n + 1 : Nat) : Int) := wrap_nat hn (by omega)
            rw [hnx]
            clear hnx
            refine ev_pos (by omega) (ev_pos (by omega) (ev_bind hT (ev_bind hE (ev_neg (show ¬ (decide (valE (runC (0 :: b) gates) e = 1) ≠ (valE (runC (0 :: b) gates) e == 1)) from fun h => h (by by_cases q : valE (runC (0 :: b) gates) e = 1 <;> simp [q])) (ev_pos (by omega) (ev_pos (by omega) (ev_bind hI (ev_bind hW (ev_pos rfl ?_)))))))))
            by_cases z : decide (valE (runC (0 :: b) gates) e = 1) = true
            · refine ev_pos z ?_
              by_cases y : (gates.length : Int) > 0
              · have s2 := s2 (fun h => by subst h; simp at y)
                have hcb : areBits (((runC (0 :: b) gates).set (i + gates.length) (1 - (runC (0 :: b) gates).getD (i + gates.length) 0)).drop 1) = true := by
                  unfold areBits at r1 ⊢
                  rw [List.all_eq_true] at r1 ⊢
                  intro x hx
                  rcases List.mem_or_eq_of_mem_set (List.mem_of_mem_drop hx) with hx | rfl
                  · exact r1 x hx
                  · exact inR_iff.2 (by omega)
                have hT2 := impl_TrueIn_ev2 hval hl1 hl2 (by rw [List.length_drop, List.length_set]; omega) hcb
                rw [s2] at hT2
                exact ev_pos y (ev_pos (by omega) (ev_pos (by omega) (ev_pos (by omega) (ev_pos (by omega) (ev_pos (by rw [List.length_set]; omega) (ev_pos (by rw [List.length_set]; omega) (ev_bind hT2 (ev_neg (by simp) ih))))))))
              · exact ev_neg y ih
            · exact ev_neg z ih
          | succ d2 ih2 =>
            intro i g3 g4 b hbl hb
            have hi' : i < m := by omega
            refine Ev.step (fun k => by rw [laws_FnClausesOf.l5, shr_nat (by omega), tmod_two (Int.natCast_nonneg _), wrap_nat hi' (by omega)]) (ev_pos (show (i : Int) < (m : Int) by omega) (ev_pos (by omega) (ev_pos (by omega) ?_)))
            exact ih2 (i + 1) (by omega) (by omega) _ (by simp; omega) (areBits_snoc hb (by omega))
        exact inner m 0 (by omega) (by omega) [] rfl rfl
    exact outer (M) 0 (by omega) (by omega)
  · rw [if_neg c]
    refine ev_neg (by simp) (ev_pos rfl (ev_pos rfl (Ev.step (fun k => by rw [laws_FnClausesOf.j6]; rfl) (ev_ret _))))
end Go.Proofs.Ytigbbefdndcmbaa.PA
namespace Go.Proofs.Ytigbbefdndcmbaa.Pure
theorem FnClausesOf : Go.Proofs.Ytigbbefdndcmbaa.PA.laws_FnClausesOf.PureS := Go.Proofs.Ytigbbefdndcmbaa.PA.FnClausesOf_pure
end Go.Proofs.Ytigbbefdndcmbaa.Pure
end
