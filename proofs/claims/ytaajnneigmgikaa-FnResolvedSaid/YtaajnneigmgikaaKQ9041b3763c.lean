/- The plain side: what the Lean functions compute, without Go and memory; each theorem under the conditions that it names. -/
import Derived.Test.YtaajnneigmgikaaProg
import Derived.Below
import Derived.Deep.Draws
import Derived.Deep.AppendLies
import Derived.Maps.AppendAt
import Derived.OwnWalk
import Derived.Laws.BytesArg
import Derived.Laws.MakeOwn
import Derived.Laws.OwnMore
import Derived.Deep.OwnRows
import Derived.Tactics
import Derived.Lib.ConvBytes
import Derived.Laws.Slices
import Derived.WalkKit
import Derived.KernelRfl
import Derived.RowKit3
import Derived.Deep.LoopGhost
import Derived.Deep.QuietTactic
import Derived.BigQuiet
import Derived.WideLaws
import Derived.Deep.DeepCutAuto
import Derived.Deep.CutBlock
import Derived.Deep.RegionHeld3
import Derived.Laws.Rows
import Derived.Lib.AppendStr
import Derived.ArgAppend
import Derived.Laws.IdiomCopy
import Derived.OrdersHeld
import Derived.Laws.BitsLemmas
import Derived.RowKit
import Derived.Laws.StructEq
import Derived.Lib.SliceRun
import Derived.WalkSpells
import Derived.ChangeArms
import Derived.ChangeSlices
import Derived.Deep.Slices
import Derived.Test.YtaajnneigmgikaaKD14145eb784
section
set_option linter.unusedVariables false
set_option linter.unusedSimpArgs false
namespace Go.Proofs.Ytaajnneigmgikaa.PA
open Go.RowKit Go.Proofs.YtaajnneigmgikaaW.PrintWords
theorem ev_ret {α : Type} (r : α) : Ev (fun _ => some r) r := Ev.now r
theorem ev_pos {α : Type} {c : Prop} [Decidable c] {f g : Nat → Option α} {r : α} (h : c) (k : Ev f r) : Ev (fun n => if c then f n else g n) r := by
  simpa [h] using k
theorem ev_neg {α : Type} {c : Prop} [Decidable c] {f g : Nat → Option α} {r : α} (h : ¬ c) (k : Ev g r) : Ev (fun n => if c then f n else g n) r := by
  simpa [h] using k
theorem ev_ite {α : Type} {c : Prop} [Decidable c] {f g : Nat → Option α} {r : α} (h1 : c → Ev f r) (h2 : ¬ c → Ev g r) : Ev (fun n => if c then f n else g n) r := by
  by_cases h : c
  · exact ev_pos h (h1 h)
  · exact ev_neg h (h2 h)
theorem ev_bind {α β : Type} {g : Nat → Option α} {f : Nat → α → Option β} {a : α} {r : β} (h : Ev g a) (k : Ev (fun n => f n a) r) : Ev (fun n => (g n).bind (fun t => f n t)) r := Ev.bind h k
theorem ev_fix {α : Type} {o : Option α} {r : α} (h : o = some r) : Ev (fun _ => o) r := ⟨0, fun _ _ => h⟩
theorem ev_eq {α : Type} {g : Nat → Option α} {r r' : α} (h : Ev g r) (e : r = r') : Ev g r' := e ▸ h
theorem wrap_in {x : Int} (h0 : -9223372036854775808 ≤ x) (h1 : x ≤ 9223372036854775807) : wrap64 x = x := by unfold wrap64; omega
theorem wrap_nat {n m : Nat} (h : n < m) (hm : m ≤ 9223372036854775807) : wrap64 ((n : Int) + 1) = ((n + 1 : Nat) : Int) := by unfold wrap64; omega
theorem getD_of {α : Type} {xs : List α} {n : Nat} {x d : α} (h : xs[n]? = some x) : xs.getD (n : Int).toNat d = x := by
  simp [List.getD_eq_getElem?_getD, h]
def SzOk (f : Nat → Option Int) (a : Int) (P : Prop) : Prop := ∃ r, Ev f r ∧ (r < 0 ∨ (0 ≤ r ∧ r ≤ a ∧ P))
def inR (n lo hi : Int) : Bool := decide (lo ≤ n ∧ n ≤ hi)
theorem inR_iff {n lo hi : Int} : inR n lo hi = true ↔ lo ≤ n ∧ n ≤ hi := by simp [inR]
theorem spec_l1In_eq (n lo hi : Int) : spec_l1In.f n lo hi = some (inR n lo hi) := by
  unfold spec_l1In.f inR
  by_cases h : n ≥ lo
  · rw [if_pos h]; congr 1; simp; omega
  · rw [if_neg h]; congr 1; simp; omega
theorem impl_in_eq (n lo hi : Int) : impl_in.f n lo hi = some (inR n lo hi) := by
  unfold impl_in.f inR
  by_cases h : n ≥ lo
  · rw [if_pos h]; congr 1; simp; omega
  · rw [if_neg h]; congr 1; simp; omega
def Evp (G : Nat → Prop) : Prop := ∃ n, ∀ k, n ≤ k → G k
theorem Evp.get {G : Nat → Prop} (h : Evp G) : ∃ k, G k := let ⟨n, h⟩ := h; ⟨n, h n (Nat.le_refl _)⟩
theorem Evp.of {P : Prop} (h : P) : Evp fun _ => P := ⟨0, fun _ _ => h⟩
theorem Evp.and {G H : Nat → Prop} (g : Evp G) (h : Evp H) : Evp fun k => G k ∧ H k := by
  obtain ⟨n, g⟩ := g
  obtain ⟨m, h⟩ := h
  exact ⟨max n m, fun k hk => ⟨g k (by omega), h k (by omega)⟩⟩
theorem Evp.fact {α : Type} {f : Nat → Option α} {r : α} {H : Nat → Prop} (g : Ev f r) (h : Evp H) : Evp fun k => f k = some r ∧ H k := Evp.and (G := fun k => f k = some r) g h
theorem Evp.inl {G H : Nat → Prop} (g : Evp G) : Evp fun k => G k ∨ H k := let ⟨n, g⟩ := g; ⟨n, fun k hk => .inl (g k hk)⟩
theorem Evp.inr {G H : Nat → Prop} (g : Evp H) : Evp fun k => G k ∨ H k := let ⟨n, g⟩ := g; ⟨n, fun k hk => .inr (g k hk)⟩
theorem Evp.ex {α : Type} {G : Nat → α → Prop} (a : α) (g : Evp fun k => G k a) : Evp fun k => ∃ x, G k x := let ⟨n, g⟩ := g; ⟨n, fun k hk => ⟨a, g k hk⟩⟩
theorem Evp.guard {P : Prop} {H : Nat → Prop} (h : ¬ P → Evp H) : Evp fun k => P ∨ H k := by
  by_cases p : P
  · exact .inl (.of p)
  · exact .inr (h p)
theorem Evp.sz {f : Nat → Option Int} {a : Int} {P : Prop} (hf : SzOk f a P) {H : Nat → Int → Prop} (h : ∀ r, 0 ≤ r → r ≤ a → P → Evp fun k => H k r) : Evp fun k => ∃ t : Int, f k = some t ∧ (t < 0 ∨ H k t) := by
  obtain ⟨r, h1, h2⟩ := hf
  refine .ex r (.fact h1 ?_)
  rcases h2 with h2 | ⟨h2, h3, h4⟩
  · exact .inl (.of h2)
  · exact .inr (h r h2 h3 h4)
def valOk (k v : Int) : Prop := (k = 1 → -9999 ≤ v ∧ v ≤ 9999) ∧ (k = 2 → 0 ≤ v ∧ v ≤ 1)
structure ValsOk (ks vs : List Int) : Prop where
  len : vs.length = ks.length
  at_ : ∀ i : Nat, i < ks.length → valOk (ks.getD i 0) (vs.getD i 0)
theorem ValsOk.nil : ValsOk [] [] := ⟨rfl, fun i h => absurd h (Nat.not_lt_zero i)⟩
theorem ValsOk.rd {ks vs : List Int} (h : ValsOk ks vs) {i : Int} (h0 : inR i 0 ((ks.length : Int) - 1) = true) : valOk (rd ks i) (rd vs i) := by
  have := inR_iff.1 h0
  have e := h.at_ i.toNat (by omega)
  exact e
theorem ValsOk.push {ks vs : List Int} (h : ValsOk ks vs) {k v : Int} (hv : valOk k v) : ValsOk (ks ++ [k]) (vs ++ [v]) := by
  refine ⟨by simp [h.len], fun i hi => ?_⟩
  rw [List.length_append, List.length_singleton] at hi
  by_cases e : i < ks.length
  · have := h.at_ i e
    rw [List.getD_eq_getElem?_getD, List.getD_eq_getElem?_getD] at this ⊢
    rw [List.getElem?_append_left e, List.getElem?_append_left (by rw [h.len]; exact e)]
    exact this
  · have e' : i = ks.length := by omega
    subst e'
    rw [List.getD_eq_getElem?_getD, List.getD_eq_getElem?_getD, List.getElem?_append_right (Nat.le_refl _), List.getElem?_append_right (by rw [h.len]; exact Nat.le_refl _), h.len]
    simpa using hv
def foldN {α σ : Type} (step : Nat → σ → α → σ) : Nat → σ → List α → σ
  | _, s, [] => s
  | n, s, x :: r => foldN step (n + 1) (step n s x) r
theorem foldN_push {α β : Type} (g : α → β) : ∀ (xs : List α) (n : Nat) (s : List β), foldN (fun _ s x => s ++ [g x]) n s xs = s ++ xs.map g
  | [], n, s => by simp [foldN]
  | x :: r, n, s => by unfold foldN; rw [foldN_push g r]; simp
theorem ev_fold {α σ ρ : Type} (L : Nat → σ → Int → Option ρ) (xs : List α) (step : Nat → σ → α → σ) (fin : σ → ρ) (I : Nat → σ → Prop)
    (hend : ∀ s, I xs.length s → Ev (fun k => L k s (xs.length : Int)) (fin s))
    (hstep : ∀ (n : Nat) s x R, n < xs.length → xs[n]? = some x → I n s → Ev (fun k => L k (step n s x) ((n + 1 : Nat) : Int)) R → Ev (fun k => L k s (n : Int)) R)
    (hI : ∀ (n : Nat) s x, n < xs.length → xs[n]? = some x → I n s → I (n + 1) (step n s x)) (s0 : σ) (h0 : I 0 s0) :
    Ev (fun k => L k s0 0) (fin (foldN step 0 s0 xs)) := by
  have h : ∀ d n : Nat, xs.length - n = d → n ≤ xs.length → ∀ s, I n s → Ev (fun k => L k s (n : Int)) (fin (foldN step n s (xs.drop n))) := by
    intro d
    induction d with
    | zero =>
      intro n h1 h2 s hs
      have : n = xs.length := by omega
      subst this
      rw [List.drop_length]
      exact hend s hs
    | succ d ih =>
      intro n h1 h2 s hs
      have hn : n < xs.length := by omega
      have hx := List.getElem?_eq_getElem hn
      rw [List.drop_eq_getElem_cons hn]
      exact hstep n s _ _ hn hx hs (ih (n + 1) (by omega) (by omega) _ (hI n s _ hn hx hs))
  have := h xs.length 0 (by omega) (by omega) s0 h0
  simpa using this
theorem ev_index {α : Type} {da : α} (L : Nat → Int → Option Int) (F : Nat → α → Option Bool) (xs : List α) (p : α → Bool) (hl : xs.length ≤ 9223372036854775807)
    (hL : ∀ k i, L (k + 1) i = if i < (xs.length : Int) then (if 0 ≤ i then (if i < (xs.length : Int) then ((F k (xs.getD i.toNat da)).bind fun t => if t = true then some i else L k (wrap64 (i + 1))) else none) else none) else some (-1))
    (hF : ∀ x ∈ xs, Ev (fun k => F k x) (p x)) : ∃ r, Ev (fun k => L k 0) r ∧ decide (r ≥ 0) = xs.any p := by
  have key : ∀ d n : Nat, xs.length - n = d → n ≤ xs.length → ∃ r, Ev (fun k => L k (n : Int)) r ∧ decide (r ≥ 0) = (xs.drop n).any p := by
    intro d
    induction d with
    | zero =>
      intro n h1 h2
      have : n = xs.length := by omega
      subst this
      exact ⟨-1, Ev.step (fun k => hL k _) (ev_neg (by omega) (ev_ret _)), by rw [List.drop_length]; rfl⟩
    | succ d ih =>
      intro n h1 h2
      have hn : n < xs.length := by omega
      have hx := List.getElem?_eq_getElem hn
      rw [List.drop_eq_getElem_cons hn, List.any_cons]
      have hf := hF _ (List.getElem_mem hn)
      cases hp : p xs[n] with
      | true =>
        rw [hp] at hf
        refine ⟨(n : Int), Ev.step (fun k => hL k _) (ev_pos (by omega) (ev_pos (by omega) (ev_pos (by omega) ?_))), by simp⟩
        rw [getD_of hx]
        exact ev_bind hf (ev_pos rfl (ev_ret _))
      | false =>
        rw [hp] at hf
        obtain ⟨r, h3, h4⟩ := ih (n + 1) (by omega) (by omega)
        refine ⟨r, Ev.step (fun k => hL k _) (ev_pos (by omega) (ev_pos (by omega) (ev_pos (by omega) ?_))), by rw [h4]; rfl⟩
        rw [getD_of hx, wrap_nat hn (by omega)]
        exact ev_bind hf (ev_neg (by simp) h3)
  have := key xs.length 0 (by omega) (by omega)
  simpa using this
theorem ev_contains {α : Type} {da : α} (L : Nat → Int → Option Int) (F : Nat → α → Option Bool) (xs : List α) (p : α → Bool) (hl : xs.length ≤ 9223372036854775807)
    (hL : ∀ k i, L (k + 1) i = if i < (xs.length : Int) then (if 0 ≤ i then (if i < (xs.length : Int) then ((F k (xs.getD i.toNat da)).bind fun t => if t = true then some i else L k (wrap64 (i + 1))) else none) else none) else some (-1))
    (hF : ∀ x ∈ xs, Ev (fun k => F k x) (p x)) : Ev (fun k => (L k 0).bind fun t => some (decide (t ≥ 0))) (xs.any p) := by
  obtain ⟨r, h1, h2⟩ := ev_index L F xs p hl hL hF
  exact ev_bind h1 (ev_eq (ev_ret _) h2)
def areBits (l : List Int) : Bool := l.all fun x => inR x 0 1
theorem impl_bitsValid_ev (l : List Int) (hl : l.length ≤ 9223372036854775807) : Ev (fun k => impl_bitsValid.f k l) (areBits l) := by
  unfold impl_bitsValid.f slices_ContainsFunc_at_impl_bitsValid_1.f slices_IndexFunc_at_impl_bitsValid_1.f
  refine ev_bind (ev_contains (da := (0 : Int)) (fun k i => slices_IndexFunc_at_impl_bitsValid_1.l0 k l (l.length : Int) i) (fun _ x => impl_bitsValid_1.f x) l (fun x => !inR x 0 1) hl (fun k i => by rw [slices_IndexFunc_at_impl_bitsValid_1.l0]; rfl)
    (fun x _ => ev_fix (by unfold impl_bitsValid_1.f; rw [impl_in_eq]; rfl))) (ev_eq (ev_ret _) ?_)
  unfold areBits
  rw [List.not_any_eq_all_not]
  simp
theorem spec_l3Copy_ev (l : List Int) (hl : l.length ≤ 1048576) : Ev (fun k => spec_l3Copy.f k l) l := by
  unfold spec_l3Copy.f
  have := ev_fold (fun k s i => spec_l3Copy.l0 k l s i) l (fun _ s x => s ++ [x]) (fun s => s) (fun n s => s.length = n)
    (fun s hs => Ev.step (fun k => by rw [spec_l3Copy.l0]) (ev_neg (by omega) (ev_ret _)))
    (fun n s x R hn hx hs ih => by
      refine Ev.step (fun k => by rw [spec_l3Copy.l0]) ?_
      rw [show rd l (n : Int) = x from getD_of hx, wrap_nat hn (by omega)]
      exact ev_pos (by omega) (ev_pos (by omega) (ev_pos (by omega) ih)))
    (fun n s x hn hx hs => by simp [hs]) [] rfl
  rw [foldN_push (fun x => x)] at this
  simpa using this
theorem rd_at {set : List Int} {n : Nat} (h : n < set.length) : rd set (n : Int) = set[n] := getD_of (List.getElem?_eq_getElem h)
def absP (n : Int) : Int := if n < 0 then -n else n
def litOk (atoms x : Int) : Bool := decide (x ≠ 0) && inR x (-atoms) atoms
def clauseGo (atoms : Int) (l : List Int) : Nat → List Int → Bool
  | _, [] => true
  | n, x :: r => (litOk atoms x && (decide (n = 0) || decide (absP (l.getD (n - 1) 0) < absP x))) && clauseGo atoms l (n + 1) r
def clauseP (l : List Int) (atoms : Int) : Bool := clauseGo atoms l 0 l
theorem litOk_in {atoms x : Int} (h : litOk atoms x = true) : x ≠ 0 ∧ -atoms ≤ x ∧ x ≤ atoms := by
  unfold litOk at h
  rw [Bool.and_eq_true, decide_eq_true_eq, inR_iff] at h
  exact h
theorem abs_le {n : Int} : 0 ≤ absP n ∧ (absP n = n ∨ absP n = -n) := by unfold absP; split <;> omega
theorem spec_l11Abs_eq {n : Int} (h : -700 ≤ n ∧ n ≤ 700) : spec_l11Abs.f n = some (absP n) := by
  unfold spec_l11Abs.f absP
  rw [wrap_in (x := -n) (by omega) (by omega)]
  split <;> rfl
theorem impl_atomOf_eq {n : Int} (h : -700 ≤ n ∧ n ≤ 700) : impl_atomOf.f n = some (absP n) := by
  unfold impl_atomOf.f absP mx
  rw [wrap_in (x := -n) (by omega) (by omega)]
  split <;> split <;> first | rfl | (congr 1; omega)
theorem spec_l11Lit_eq {x atoms : Int} (h : 0 ≤ atoms ∧ atoms ≤ 700) : spec_l11Lit.f x atoms = some (litOk atoms x) := by
  unfold spec_l11Lit.f litOk
  rw [wrap_in (x := -atoms) (by omega) (by omega), spec_l1In_eq]
  by_cases e : x = 0
  · rw [if_pos e]; simp [e]
  · rw [if_neg e]; simp [e]
theorem clauseGo_at {atoms : Int} {l : List Int} : ∀ (r : List Int) (n : Nat), clauseGo atoms l n r = true → ∀ x ∈ r, litOk atoms x = true
  | [], n, _, x, hx => by cases hx
  | y :: r, n, h, x, hx => by
    unfold clauseGo at h
    simp only [Bool.and_eq_true] at h
    rcases List.mem_cons.1 hx with rfl | hx
    · exact h.1.1
    · exact clauseGo_at r (n + 1) h.2 x hx
theorem clauseP_lit {l : List Int} {atoms : Int} (h : clauseP l atoms = true) : ∀ x ∈ l, litOk atoms x = true := clauseGo_at l 0 h
theorem spec_ClauseValid_ev (l : List Int) {atoms : Int} (ha : 0 ≤ atoms ∧ atoms ≤ 700) (hl : l.length ≤ 9223372036854775806) : Ev (fun k => spec_ClauseValid.f k l atoms) (clauseP l atoms) := by
  unfold spec_ClauseValid.f clauseP
  have key : ∀ d n : Nat, l.length - n = d → n ≤ l.length → (n = 0 ∨ litOk atoms (l.getD (n - 1) 0) = true) → Ev (fun k => spec_ClauseValid.l0 k l atoms (n : Int)) (clauseGo atoms l n (l.drop n)) := by
    intro d
    induction d with
    | zero =>
      intro n g1 g2 g3
      have : n = l.length := by omega
      subst this
      rw [List.drop_length]
      refine Ev.step (fun k => by rw [spec_ClauseValid.l0, spec_l1In_eq]) ?_
      exact ev_neg (by omega) (ev_bind (ev_ret _) (ev_eq (ev_ret _) (inR_iff.2 ha)))
    | succ d ih =>
      intro n g1 g2 g3
      have hn : n < l.length := by omega
      have hx := rd_at hn
      have hget : l.getD n 0 = l[n] := by rw [List.getD_eq_getElem?_getD, List.getElem?_eq_getElem hn]; rfl
      rw [List.drop_eq_getElem_cons hn]
      generalize hq : l[n] = x at *
      unfold clauseGo
      have go : litOk atoms x = true → ∀ b, Ev (fun k => spec_ClauseValid.j1 k l atoms (n : Int) b) (!b && clauseGo atoms l (n + 1) (l.drop (n + 1))) := fun hL b => by
        refine Ev.step (fun k => by rw [spec_ClauseValid.j1, wrap_nat hn (by omega)]) ?_
        cases b with
        | true => exact ev_pos rfl (ev_ret _)
        | false => exact ev_neg (by simp) (ih (n + 1) (by omega) (by omega) (.inr (by rw [Nat.add_sub_cancel, hget]; exact hL)))
      refine Ev.step (fun k => by rw [spec_ClauseValid.l0, hx, spec_l11Lit_eq ha]) ?_
      refine ev_pos (by omega) (ev_pos (by omega) (ev_bind (ev_ret _) ?_))
      by_cases e : litOk atoms x = true
      · refine ev_pos e ?_
        have hxi := litOk_in e
        rw [e, Bool.true_and]
        by_cases z : n = 0
        · subst z
          exact ev_neg (by omega) (ev_eq (go e false) (by simp))
        · rcases g3 with g3 | g3
          · exact absurd g3 z
          have hpi := litOk_in g3
          rw [decide_eq_false z, Bool.false_or]
          refine ev_pos (by omega) (ev_bind (ev_fix (spec_l11Abs_eq (by omega))) ?_)
          have w : wrap64 ((n : Int) - 1) = ((n - 1 : Nat) : Int) := by rw [wrap_in (by omega) (by omega)]; omega
          have hr : rd l ((n - 1 : Nat) : Int) = l.getD (n - 1) 0 := rfl
          rw [w, hr]
          clear w
          refine ev_pos (by omega) (ev_pos (by omega) (ev_bind (ev_fix (spec_l11Abs_eq (by omega))) (ev_eq (go e _) ?_)))
          congr 1
          rw [Bool.eq_iff_iff]
          simp
      · refine ev_neg e (Ev.step (fun k => by rw [spec_ClauseValid.j1]) (ev_pos rfl (ev_eq (ev_ret _) ?_)))
        rw [Bool.not_eq_true] at e
        rw [e]; rfl
  have := key l.length 0 (by omega) (by omega) (.inl rfl)
  simpa using this
theorem impl_ClauseValid_ev (l : List Int) {atoms : Int} (ha : 0 ≤ atoms ∧ atoms ≤ 700) (hl : l.length ≤ 9223372036854775806) : Ev (fun k => impl_ClauseValid.f k l atoms) (clauseP l atoms) := by
  unfold impl_ClauseValid.f clauseP
  have key : ∀ d n : Nat, l.length - n = d → n ≤ l.length → (n = 0 ∨ litOk atoms (l.getD (n - 1) 0) = true) → Ev (fun k => impl_ClauseValid.l0 k l atoms l (l.length : Int) (n : Int)) (clauseGo atoms l n (l.drop n)) := by
    intro d
    induction d with
    | zero =>
      intro n g1 g2 g3
      have : n = l.length := by omega
      subst this
      rw [List.drop_length]
      refine Ev.step (fun k => by rw [impl_ClauseValid.l0]) ?_
      exact ev_neg (by omega) (ev_ret _)
    | succ d ih =>
      intro n g1 g2 g3
      have hn : n < l.length := by omega
      have hx := rd_at hn
      have hget : l.getD n 0 = l[n] := by rw [List.getD_eq_getElem?_getD, List.getElem?_eq_getElem hn]; rfl
      rw [List.drop_eq_getElem_cons hn]
      generalize hq : l[n] = x at *
      unfold clauseGo
      have go : ∀ b, (b = false → litOk atoms x = true) → Ev (fun k => impl_ClauseValid.j1 k l atoms l (l.length : Int) (n : Int) b) (!b && clauseGo atoms l (n + 1) (l.drop (n + 1))) := fun b hL => by
        refine Ev.step (fun k => by rw [impl_ClauseValid.j1, wrap_nat hn (by omega)]) ?_
        cases b with
        | true => exact ev_pos rfl (ev_ret _)
        | false => exact ev_neg (by simp) (ih (n + 1) (by omega) (by omega) (.inr (by rw [Nat.add_sub_cancel, hget]; exact hL rfl)))
      have hw2 : wrap64 (-atoms) = -atoms := wrap_in (by omega) (by omega)
      refine Ev.step (fun k => by rw [impl_ClauseValid.l0, hx, hw2, impl_in_eq]) ?_
      clear hw2
      refine ev_pos (by omega) (ev_pos (by omega) (ev_pos (by omega) (ev_bind (ev_ret _) ?_)))
      by_cases i : inR x (-atoms) atoms = true
      · refine ev_pos i ?_
        by_cases z0 : x = 0
        · refine ev_pos z0 (ev_eq (go true (by simp)) ?_)
          unfold litOk
          simp [z0]
        · have e : litOk atoms x = true := by unfold litOk; rw [i, decide_eq_true z0]; rfl
          have hxi := litOk_in e
          refine ev_neg z0 ?_
          rw [e, Bool.true_and]
          by_cases z : n = 0
          · subst z
            exact ev_neg (by omega) (ev_eq (go false fun _ => e) (by simp))
          · rcases g3 with g3 | g3
            · exact absurd g3 z
            have hpi := litOk_in g3
            rw [decide_eq_false z, Bool.false_or]
            have w : wrap64 ((n : Int) - 1) = ((n - 1 : Nat) : Int) := by rw [wrap_in (by omega) (by omega)]; omega
            have hr : rd l ((n - 1 : Nat) : Int) = l.getD (n - 1) 0 := rfl
            rw [w, hr]
            clear w
            refine ev_pos (by omega) (ev_pos (by omega) (ev_pos (by omega) (ev_bind (ev_fix (impl_atomOf_eq (by omega))) (ev_bind (ev_fix (impl_atomOf_eq (by omega))) (ev_eq (go _ fun _ => e) ?_)))))
            congr 1
            rw [Bool.eq_iff_iff]
            simp
      · refine ev_neg i (ev_eq (go true (by simp)) ?_)
        have : litOk atoms x = false := by unfold litOk; rw [Bool.not_eq_true] at i; rw [i, Bool.and_false]
        rw [this]; rfl
  have := key l.length 0 (by omega) (by omega) (.inl rfl)
  refine ev_bind (ev_fix (impl_in_eq _ _ _)) (ev_pos (inR_iff.2 ha) ?_)
  simpa using this
def clausesP (atoms : Int) (list : List (List Int)) : Bool := inR atoms 0 700 && (decide (list.length ≤ 2500) && list.all fun c => clauseP c atoms)
theorem all_any {α : Type} (l : List α) (p : α → Bool) : (!l.any fun x => !p x) = l.all p := by
  induction l with
  | nil => rfl
  | cons a l ih => rw [List.any_cons, List.all_cons, Bool.not_or, Bool.not_not, ih]
theorem impl_ClausesValid_ev (atoms : Int) (list : List (List Int)) (hl : list.length ≤ 9223372036854775806) (hx : ∀ c ∈ list, c.length ≤ 9223372036854775806) : Ev (fun k => impl_ClausesValid.f k atoms list) (clausesP atoms list) := by
  unfold impl_ClausesValid.f clausesP
  rw [impl_in_eq]
  refine ev_bind (ev_ret _) ?_
  by_cases c : inR atoms 0 700 = true
  · have ha := inR_iff.1 c
    rw [c]
    refine ev_pos rfl ?_
    by_cases n : list.length ≤ 2500
    · rw [decide_eq_true n, Bool.true_and, Bool.true_and, ← all_any]
      refine ev_pos (by omega) (ev_bind ?_ (ev_ret _))
      unfold slices_ContainsFunc_at_impl_ClausesValid_1.f slices_IndexFunc_at_impl_ClausesValid_1.f
      refine ev_contains (da := ([] : List Int)) (fun k i => slices_IndexFunc_at_impl_ClausesValid_1.l0 k list (list.length : Int) i atoms list) (fun k c => impl_ClausesValid_1.f k c atoms list) list (fun c => !clauseP c atoms) (by omega) (fun k i => by rw [slices_IndexFunc_at_impl_ClausesValid_1.l0]; rfl) (fun c hc => ?_)
      unfold impl_ClausesValid_1.f
      exact ev_bind (impl_ClauseValid_ev c ha (hx c hc)) (ev_ret _)
    · refine ev_neg (by omega) (ev_eq (ev_ret _) ?_)
      rw [decide_eq_false n]; rfl
  · rw [Bool.not_eq_true] at c
    rw [c]
    exact ev_neg (by simp) (ev_ret _)
theorem clausesP_and {atoms : Int} {list : List (List Int)} (h : clausesP atoms list = true) : (0 ≤ atoms ∧ atoms ≤ 700) ∧ list.length ≤ 2500 ∧ ∀ c ∈ list, ∀ x ∈ c, litOk atoms x = true := by
  unfold clausesP at h
  simp only [Bool.and_eq_true, inR_iff, decide_eq_true_eq, List.all_eq_true] at h
  exact ⟨h.1, h.2.1, fun c hc => clauseP_lit (h.2.2 c hc)⟩
def litP (bits : List Int) (x : Int) : Bool := decide (bits.getD (absP x - 1).toNat 0 = if x < 0 then 0 else 1)
def trueP (list : List (List Int)) (bits : List Int) : Bool := list.all fun c => c.any (litP bits)
theorem impl_litTrue_eq {x : Int} {bits : List Int} {atoms : Int} (h : litOk atoms x = true) (ha : atoms ≤ 700) (hb : (bits.length : Int) = atoms) : impl_litTrue.f x bits = some (litP bits x) := by
  have hx := litOk_in h
  unfold impl_litTrue.f
  rw [impl_atomOf_eq (by omega)]
  have hA := abs_le (n := x)
  rw [Option.bind_some, wrap_in (x := absP x - 1) (by omega) (by omega), if_pos (by omega), if_pos (by omega)]
  unfold impl_bit.f litP
  by_cases e : x < 0
  · rw [if_pos e, if_neg (by simp; omega)]
    rfl
  · rw [if_neg e, if_pos (by simp; omega)]
    rfl
end Go.Proofs.Ytaajnneigmgikaa.PA
end
section
set_option linter.unusedVariables false
set_option linter.unusedSimpArgs false
namespace Go.Proofs.Ytaajnneigmgikaa.PA
open Go.RowKit Go.Proofs.YtaajnneigmgikaaW.PrintWords
def Tot {α : Type} (g : Nat → Option α) (Q : α → Prop) : Prop := ∃ r, Ev g r ∧ Q r
section
variable {α β : Type} {Q : α → Prop}
theorem tot_ret {r : α} (h : Q r) : Tot (fun _ => some r) Q := ⟨r, ev_ret r, h⟩
theorem tot_ev {g : Nat → Option α} {r : α} (h : Ev g r) (q : Q r) : Tot g Q := ⟨r, h, q⟩
theorem tot_pos {c : Prop} [Decidable c] {f g : Nat → Option α} (h : c) (k : Tot f Q) : Tot (fun n => if c then f n else g n) Q := by
  obtain ⟨r, k, q⟩ := k
  exact ⟨r, ev_pos h k, q⟩
theorem tot_neg {c : Prop} [Decidable c] {f g : Nat → Option α} (h : ¬ c) (k : Tot g Q) : Tot (fun n => if c then f n else g n) Q := by
  obtain ⟨r, k, q⟩ := k
  exact ⟨r, ev_neg h k, q⟩
theorem tot_ite {c : Prop} [Decidable c] {f g : Nat → Option α} (h1 : c → Tot f Q) (h2 : ¬ c → Tot g Q) : Tot (fun n => if c then f n else g n) Q := by
  by_cases h : c
  · exact tot_pos h (h1 h)
  · exact tot_neg h (h2 h)
theorem tot_bind {g : Nat → Option β} {f : Nat → β → Option α} {R : β → Prop} (h : Tot g R) (k : ∀ b, R b → Tot (fun n => f n b) Q) : Tot (fun n => (g n).bind (fun t => f n t)) Q := by
  obtain ⟨b, h, q⟩ := h
  obtain ⟨r, k, q⟩ := k b q
  exact ⟨r, ev_bind h k, q⟩
theorem tot_step {g f : Nat → Option α} (h : ∀ k, g (k + 1) = f k) (k : Tot f Q) : Tot g Q := by
  obtain ⟨r, k, q⟩ := k
  exact ⟨r, Ev.step h k, q⟩
theorem tot_mono {g : Nat → Option α} {R : α → Prop} (h : Tot g R) (k : ∀ r, R r → Q r) : Tot g Q := by
  obtain ⟨r, h, q⟩ := h
  exact ⟨r, h, k r q⟩
end
def ByteL (b : List Int) : Prop := b.length ≤ 2000 ∧ ∀ x ∈ b, 0 ≤ x ∧ x < 256
theorem xor_nat (a b : Int) (ha : 0 ≤ a) (hb : 0 ≤ b) (ha' : a < 4611686018427387904) (hb' : b < 4611686018427387904) : ∃ n : Nat, Go.bits .xor .i64 a b = (n : Int) ∧ n < 9223372036854775808 := by
  obtain ⟨a, rfl⟩ := Int.eq_ofNat_of_zero_le ha
  obtain ⟨b, rfl⟩ := Int.eq_ofNat_of_zero_le hb
  refine ⟨a ^^^ b, ?_, Nat.xor_lt_two_pow (n := 63) (by omega) (by omega)⟩
  have h1 : a % 2 ^ 64 = a := Nat.mod_eq_of_lt (by omega)
  have h2 : b % 2 ^ 64 = b := Nat.mod_eq_of_lt (by omega)
  have h3 : a ^^^ b < 2 ^ 63 := Nat.xor_lt_two_pow (by omega) (by omega)
  unfold Go.bits
  simp only [BitVec.ofInt_natCast]
  rw [BitVec.toNat_xor, BitVec.toNat_ofNat, BitVec.toNat_ofNat]
  show Go.IntKind.i64.wrap (((a % 2 ^ 64) ^^^ (b % 2 ^ 64) : Nat) : Int) = _
  rw [h1, h2, Go.IntKind.wrap_i64]
  omega
theorem tmod_in {x n : Int} (hx : 0 ≤ x) (hn : 1 ≤ n) : 0 ≤ x.tmod n ∧ x.tmod n < n := ⟨Int.tmod_nonneg n hx, Int.tmod_lt_of_pos x (by omega)⟩
theorem byte_at {b : List Int} (h : ByteL b) {i : Int} (h0 : 0 ≤ i) (h1 : i < (b.length : Int)) : 0 ≤ rd b i ∧ rd b i < 256 := by
  have : b[i.toNat]? = some b[i.toNat] := List.getElem?_eq_getElem (by omega)
  have e : rd b i = b[i.toNat] := by
    show b.getD i.toNat _ = _
    simp [List.getD_eq_getElem?_getD, this]
  rw [e]
  exact h.2 _ (List.getElem_mem _)
end Go.Proofs.Ytaajnneigmgikaa.PA
end
section
set_option linter.unusedVariables false
set_option linter.unusedSimpArgs false
namespace Go.Proofs.Ytaajnneigmgikaa.PA
open Go.RowKit Go.Proofs.YtaajnneigmgikaaW.PrintWords
def ltL (x y : Int) : Bool := decide (absP x < absP y) || (decide (absP x = absP y) && decide (x < y))
theorem ltL_iff {x y : Int} : ltL x y = true ↔ absP x < absP y ∨ (absP x = absP y ∧ x < y) := by unfold ltL; simp
theorem ltL_not {x y : Int} : ltL x y = false ↔ ¬ (absP x < absP y ∨ (absP x = absP y ∧ x < y)) := by rw [← ltL_iff, Bool.not_eq_true]
def Lit7 (x : Int) : Prop := -700 ≤ x ∧ x ≤ 700
def cmpL (x y : Int) : Int := if x < y then -1 else if x > y then 1 else 0
theorem cmpInt_ev (x y : Int) : Ev (fun k => cmp_Compare_int.f k x y) (cmpL x y) := by
  unfold cmp_Compare_int.f cmp_isNaN_int.f cmpL
  have h : ∀ z : Int, (z != z) = false := by simp
  rw [h, h]
  refine ev_bind (ev_ret _) (ev_bind (ev_ret _) (ev_neg (by simp) (ev_neg (by simp) ?_)))
  by_cases c : x < y
  · exact ev_pos c (ev_eq (ev_ret _) (if_pos c).symm)
  · by_cases d : x > y
    · exact ev_neg c (ev_pos d (ev_eq (ev_ret _) (by rw [if_neg c, if_pos d])))
    · exact ev_neg c (ev_neg d (ev_eq (ev_ret _) (by rw [if_neg c, if_neg d])))
theorem cmpOr_ev (a b : Int) : Ev (fun k => cmp_Or_int.f k [a, b]) (if a = 0 then b else a) := by
  unfold cmp_Or_int.f
  have r0 : rd [a, b] 0 = a := rfl
  have r1 : rd [a, b] 1 = b := rfl
  have w1 : wrap64 ((0 : Int) + 1) = 1 := by rw [wrap_in (by omega) (by omega)]; rfl
  have w2 : wrap64 ((1 : Int) + 1) = 2 := by rw [wrap_in (by omega) (by omega)]; rfl
  show Ev (fun k => cmp_Or_int.l0 k 0 [a, b] 2 0) _
  refine Ev.step (fun k => by rw [cmp_Or_int.l0, r0, w1]) (ev_pos (by omega) (ev_pos (by omega) (ev_pos (by simp) ?_)))
  by_cases c : a = 0
  · rw [if_pos c]
    refine ev_pos c (Ev.step (fun k => by rw [cmp_Or_int.l0, r1, w2]) (ev_pos (by omega) (ev_pos (by omega) (ev_pos (by simp) ?_))))
    by_cases d : b = 0
    · exact ev_pos d (Ev.step (fun k => by rw [cmp_Or_int.l0]) (ev_neg (by omega) (ev_eq (ev_ret _) d.symm)))
    · exact ev_neg d (ev_ret _)
  · rw [if_neg c]
    exact ev_neg c (ev_ret _)
theorem cmpL_ev {x y : Int} (hx : Lit7 x) (hy : Lit7 y) : ∃ c, Ev (fun k => impl_clauseOf_1.f k x y) c ∧ (c < 0 ↔ ltL x y = true) := by
  refine ⟨if cmpL (absP x) (absP y) = 0 then cmpL x y else cmpL (absP x) (absP y), ?_, ?_⟩
  · unfold impl_clauseOf_1.f
    exact ev_bind (ev_fix (impl_atomOf_eq hx)) (ev_bind (ev_fix (impl_atomOf_eq hy)) (ev_bind (cmpInt_ev _ _) (ev_bind (cmpInt_ev _ _) (ev_bind (cmpOr_ev _ _) (ev_ret _)))))
  · rw [ltL_iff]
    unfold cmpL
    split <;> split <;> (try split) <;> (try split) <;> (try split) <;> omega
theorem rd_mid (A T : List Int) (x : Int) : rd (A ++ x :: T) (A.length : Int) = x := by
  show List.getD _ _ _ = _
  simp [List.getD_eq_getElem?_getD]
theorem set_mid (A T : List Int) (x y : Int) : (A ++ x :: T).set A.length y = A ++ y :: T := by
  rw [List.set_append, if_neg (by omega)]
  simp
def OkL (A : List Int) : Prop := A.Pairwise fun x y => ltL y x = false
theorem ltL_trans' {x y z : Int} (h1 : ltL y x = false) (h2 : ltL z y = false) : ltL z x = false := by
  rw [ltL_not] at *
  omega
theorem ltL_asym {x y : Int} (h : ltL x y = true) : ltL y x = false := by
  rw [ltL_iff] at h
  rw [ltL_not]
  omega
theorem ins_inner {P B : List Int} {a2 : Int} {Q : List Int → Prop} (i : Nat) (hB : ∀ x ∈ B, Lit7 x) : ∀ (n : Nat) (A1 C : List Int) (x : Int), A1.length = n → OkL (A1 ++ C) → (∀ c ∈ C, ltL x c = true) → (∀ y ∈ A1 ++ x :: C, Lit7 y) → P.length + n ≤ 4611686018427387904 →
    (∀ A', A'.Perm (A1 ++ x :: C) → OkL A' → Tot (fun k => slices_insertionSortCmpFunc_int_at_impl_clauseOf_1.l1 k (P ++ (A' ++ B)) (wrap64 ((i : Int) + 1)) (P.length : Int) a2) Q) →
    Tot (fun k => slices_insertionSortCmpFunc_int_at_impl_clauseOf_1.l2 k (P ++ (A1 ++ x :: (C ++ B))) ((P.length + n : Nat) : Int) (P.length : Int) a2 (i : Int)) Q := by
  intro n
  induction n with
  | zero =>
    intro A1 C x h1 h2 h3 h4 h5 h6
    obtain rfl := List.eq_nil_of_length_eq_zero h1
    refine tot_step (fun k => by rw [slices_insertionSortCmpFunc_int_at_impl_clauseOf_1.l2]) (tot_neg (by omega) ?_)
    have := h6 (x :: C) (.refl _) (List.pairwise_cons.2 ⟨fun c hc => ltL_asym (h3 c hc), h2⟩)
    exact this
  | succ n ih =>
    intro A1 C x h1 h2 h3 h4 h5 h6
    obtain ⟨A2, y, rfl⟩ : ∃ A2 y, A1 = A2 ++ [y] := ⟨A1.dropLast, A1.getLast (by intro e; rw [e] at h1; simp at h1), (List.dropLast_concat_getLast _).symm⟩
    have hl : A2.length = n := by simpa using h1
    have e1 : P ++ ((A2 ++ [y]) ++ x :: (C ++ B)) = (P ++ (A2 ++ [y])) ++ x :: (C ++ B) := by simp
    have e2 : P ++ ((A2 ++ [y]) ++ x :: (C ++ B)) = (P ++ A2) ++ y :: x :: (C ++ B) := by simp
    have l1 : (P ++ (A2 ++ [y])).length = P.length + (n + 1) := by simp [hl]
    have l2 : (P ++ A2).length = P.length + n := by simp [hl]
    have hx := h4 x (by simp)
    have hy := h4 y (by simp)
    have r1 : rd (P ++ ((A2 ++ [y]) ++ x :: (C ++ B))) ((P.length + (n + 1) : Nat) : Int) = x := by rw [e1, ← l1]; exact rd_mid _ _ _
    have r2 : rd (P ++ ((A2 ++ [y]) ++ x :: (C ++ B))) ((P.length + n : Nat) : Int) = y := by rw [e2, ← l2]; exact rd_mid _ _ _
    have hlen : (P ++ ((A2 ++ [y]) ++ x :: (C ++ B))).length = P.length + n + 2 + (C ++ B).length := by simp [hl]; omega
    have s1 : (P ++ ((A2 ++ [y]) ++ x :: (C ++ B))).set (((P.length + (n + 1) : Nat) : Int)).toNat y = (P ++ A2) ++ y :: y :: (C ++ B) := by
      rw [e1, Int.toNat_natCast, ← l1, set_mid]; simp
    have s2 : ((P ++ A2) ++ y :: y :: (C ++ B)).set (((P.length + n : Nat) : Int)).toNat x = P ++ (A2 ++ x :: ((y :: C) ++ B)) := by
      rw [Int.toNat_natCast, ← l2, set_mid]; simp
    obtain ⟨c, hc, hcl⟩ := cmpL_ev hx hy
    have hw : wrap64 (((P.length + (n + 1) : Nat) : Int) - 1) = ((P.length + n : Nat) : Int) := by rw [wrap_in (by omega) (by omega)]; omega
    refine tot_step (fun k => by rw [slices_insertionSortCmpFunc_int_at_impl_clauseOf_1.l2, hw, r1, r2, s1, s2]) ?_
    clear hw
    refine tot_pos (by omega) (tot_pos (by omega) (tot_pos (by omega) (tot_pos (by omega) (tot_pos (by omega) (tot_bind (R := fun b => c = b) ⟨c, hc, rfl⟩ fun b hb => ?_)))))
    obtain rfl : b = c := hb.symm
    by_cases z : b < 0
    · have lt := hcl.1 z
      refine tot_pos z (tot_pos (by omega) (tot_pos (by omega) (tot_pos (by omega) (tot_pos (by omega) (tot_pos (by omega) (tot_pos (by omega) (tot_pos (by omega) (tot_pos (by simp [hl]; omega) ?_))))))))
      refine ih A2 (y :: C) x hl (by simpa using h2) (fun c hc => ?_) (fun z hz => h4 z (by simp at hz ⊢; rcases hz with h | h | h | h <;> simp [h])) (by omega) (fun A' hp ho => h6 A' (hp.trans ?_) ho)
      · rcases List.mem_cons.1 hc with rfl | hc
        · exact lt
        · exact h3 c hc
      · rw [List.append_assoc]
        exact List.Perm.append_left A2 (List.Perm.swap _ _ _)
    · refine tot_neg z ?_
      have hyx : ltL x y = false := by rw [← Bool.not_eq_true]; exact fun h => z (hcl.2 h)
      have hok : OkL ((A2 ++ [y]) ++ x :: C) := by
        unfold OkL at h2 ⊢
        rw [List.pairwise_append] at h2 ⊢
        refine ⟨h2.1, List.pairwise_cons.2 ⟨fun c hc => ltL_asym (h3 c hc), h2.2.1⟩, fun a ha b hb => ?_⟩
        rcases List.mem_cons.1 hb with rfl | hb
        · rcases List.mem_append.1 ha with ha | ha
          · exact ltL_trans' ((List.pairwise_append.1 h2.1).2.2 a ha y (by simp)) hyx
          · obtain rfl := List.mem_singleton.1 ha
            exact hyx
        · exact h2.2.2 a ha b hb
      have := h6 ((A2 ++ [y]) ++ x :: C) (.refl _) hok
      simpa using this
theorem ins_outer {P T : List Int} : ∀ (d : Nat) (A B : List Int), B.length = d → A ≠ [] → OkL A → (∀ y ∈ A ++ B, Lit7 y) → (∀ y ∈ T, Lit7 y) → P.length + A.length + d ≤ 4611686018427387904 →
    Tot (fun k => slices_insertionSortCmpFunc_int_at_impl_clauseOf_1.l1 k (P ++ (A ++ (B ++ T))) ((P.length + A.length : Nat) : Int) (P.length : Int) ((P.length + A.length + d : Nat) : Int)) (fun r => ∃ A', r = P ++ (A' ++ T) ∧ A'.Perm (A ++ B) ∧ OkL A') := by
  intro d
  induction d with
  | zero =>
    intro A B h1 hne h2 h3 h3' h4
    obtain rfl := List.eq_nil_of_length_eq_zero h1
    refine tot_step (fun k => by rw [slices_insertionSortCmpFunc_int_at_impl_clauseOf_1.l1]) (tot_neg (by omega) (tot_ret ⟨A, by simp, by simp, h2⟩))
  | succ d ih =>
    intro A B h1 hne h2 h3 h3' h4
    obtain ⟨x, B, rfl⟩ : ∃ x B', B = x :: B' := by
      cases B with
      | nil => simp at h1
      | cons x B => exact ⟨x, B, rfl⟩
    have hB : B.length = d := by simpa using h1
    refine tot_step (fun k => by rw [slices_insertionSortCmpFunc_int_at_impl_clauseOf_1.l1]) (tot_pos (by omega) ?_)
    have := ins_inner (P := P) (B := B ++ T) (a2 := ((P.length + A.length + (d + 1) : Nat) : Int)) (Q := fun r => ∃ A', r = P ++ (A' ++ T) ∧ A'.Perm (A ++ x :: B) ∧ OkL A') (P.length + A.length)
      (fun y hy => (List.mem_append.1 hy).elim (fun hy => h3 y (by simp [hy])) (h3' y)) A.length A [] x rfl (by simpa using h2) (by simp) (fun y hy => h3 y (by simp at hy ⊢; rcases hy with h | h <;> simp [h])) (by omega) (fun A' hp ho => ?_)
    · simpa using this
    · have hl : A'.length = A.length + 1 := by have := hp.length_eq; simpa using this
      have hw : wrap64 (((P.length + A.length : Nat) : Int) + 1) = ((P.length + A'.length : Nat) : Int) := by rw [wrap_in (by omega) (by omega), hl]; omega
      rw [hw, show P.length + A.length + (d + 1) = P.length + A'.length + d by omega]
      clear hw
      refine tot_mono (ih A' B hB (by intro e; rw [e] at hl; simp at hl) ho (fun y hy => ?_) h3' (by omega)) (fun r ⟨A2, e, hp2, ho2⟩ => ⟨A2, e, ?_, ho2⟩)
      · rcases List.mem_append.1 hy with hy | hy
        · have := hp.mem_iff.1 hy
          exact h3 y (by simp at this ⊢; rcases this with h | h <;> simp [h])
        · exact h3 y (by simp [hy])
      · refine hp2.trans ?_
        have := hp.append_right B
        simpa using this
theorem insertion_tot (P M T : List Int) (hm : ∀ y ∈ M, Lit7 y) (ht : ∀ y ∈ T, Lit7 y) (hl : P.length + M.length ≤ 4611686018427387904) :
    Tot (fun k => slices_insertionSortCmpFunc_int_at_impl_clauseOf_1.f k (P ++ (M ++ T)) (P.length : Int) ((P.length + M.length : Nat) : Int)) (fun r => ∃ M', r = P ++ (M' ++ T) ∧ M'.Perm M ∧ OkL M') := by
  unfold slices_insertionSortCmpFunc_int_at_impl_clauseOf_1.f
  have hw : wrap64 ((P.length : Int) + 1) = ((P.length + 1 : Nat) : Int) := by rw [wrap_in (by omega) (by omega)]; omega
  rw [hw]
  clear hw
  cases M with
  | nil => exact tot_step (fun k => by rw [slices_insertionSortCmpFunc_int_at_impl_clauseOf_1.l1]) (tot_neg (by simp; omega) (tot_ret ⟨[], rfl, .refl _, .nil⟩))
  | cons x M =>
    have := ins_outer (P := P) (T := T) M.length [x] M rfl (by simp) (List.pairwise_singleton _ _) (by simpa using hm) ht (by simp at hl ⊢; omega)
    simpa [Nat.add_assoc, Nat.add_comm 1] using this
def keepI (l : List Int) (i : Nat) : Bool := decide (i = 0) || decide (l.getD i 0 ≠ l.getD (i - 1) 0)
def cI (l : List Int) : Nat → List Int
  | 0 => []
  | n + 1 => cI l n ++ if keepI l n then [l.getD n 0] else []
def compL (l : List Int) : List Int := cI l l.length
theorem cI_len (l : List Int) : ∀ n, (cI l n).length ≤ n
  | 0 => Nat.le_refl _
  | n + 1 => by
    have := cI_len l n
    unfold cI
    split <;> simp <;> omega
theorem rdN {l : List Int} {n : Nat} : rd l (n : Int) = l.getD n 0 := rfl
theorem compact_in (l : List Int) (b : Nat) (hb : 1 ≤ b) (hl : l.length ≤ 4611686018427387904) : ∀ (d : Nat) (row : List Int) (k k2 : Nat), l.length - (b + k2) = d → b + k2 ≤ l.length → row.length = l.length → 1 ≤ k2 → k + 1 ≤ b + k2 → k = (cI l (b + k2)).length → row.take k = cI l (b + k2) →
    (∀ i, b + k2 ≤ i + 1 → row.getD i 0 = l.getD i 0) → Ev (fun f => slices_Compact_int_int.l2 f row (k : Int) (k2 : Int) (b : Int)) (compL l) := by
  intro d
  induction d with
  | zero =>
    intro row k k2 h1 h2 h3 h4 h5 h6 h7 h8
    have e : b + k2 = l.length := by omega
    refine Ev.step (fun f => by rw [slices_Compact_int_int.l2]) ?_
    refine ev_neg (by omega) (ev_pos (by omega) (ev_pos (by omega) (ev_pos (by omega) (ev_pos (by simp; omega) (ev_pos (by omega) (ev_pos (by simp; omega) (ev_eq (ev_ret _) ?_)))))))
    rw [Int.toNat_natCast, List.take_append_of_le_length (by rw [List.length_take]; omega), List.take_take, Nat.min_self, h7, e]
    rfl
  | succ d ih =>
    intro row k k2 h1 h2 h3 h4 h5 h6 h7 h8
    have hr1 : rd row ((b : Int) + (k2 : Int)) = l.getD (b + k2) 0 := by
      rw [show (b : Int) + (k2 : Int) = ((b + k2 : Nat) : Int) by omega, rdN]; exact h8 _ (by omega)
    have hr2 : rd row ((b : Int) + ((k2 - 1 : Nat) : Int)) = l.getD (b + k2 - 1) 0 := by
      rw [show (b : Int) + ((k2 - 1 : Nat) : Int) = ((b + k2 - 1 : Nat) : Int) by omega, rdN]; exact h8 _ (by omega)
    have hw : wrap64 ((k2 : Int) - 1) = ((k2 - 1 : Nat) : Int) := by rw [wrap_in (by omega) (by omega)]; omega
    have hlen := cI_len l (b + k2 + 1)
    refine Ev.step (fun f => by rw [slices_Compact_int_int.l2, hw, hr1, hr2, wrap_nat (n := k2) (m := 9223372036854775806) (by omega) (by omega), wrap_nat (n := k) (m := 9223372036854775806) (by omega) (by omega)]) ?_
    clear hw
    refine ev_pos (by omega) (ev_pos (by omega) (ev_pos (by omega) (ev_pos (by omega) (ev_pos (by omega) ?_))))
    have hstep : cI l (b + (k2 + 1)) = cI l (b + k2) ++ if keepI l (b + k2) then [l.getD (b + k2) 0] else [] := rfl
    have hk : keepI l (b + k2) = decide (l.getD (b + k2) 0 ≠ l.getD (b + k2 - 1) 0) := by
      unfold keepI
      rw [decide_eq_false (by omega : ¬ b + k2 = 0), Bool.false_or]
    by_cases c : l.getD (b + k2) 0 ≠ l.getD (b + k2 - 1) 0
    · rw [hk, if_pos (decide_eq_true c)] at hstep
      refine ev_pos c (ev_pos (by omega) (ev_pos (by omega) (ev_pos (by omega) (ev_pos (by omega) ?_))))
      refine ih (row.set (k : Int).toNat (l.getD (b + k2) 0)) (k + 1) (k2 + 1) (by omega) (by omega) (by rw [List.length_set]; exact h3) (by omega) (by omega) (by rw [hstep, List.length_append, ← h6]; rfl) ?_ (fun i hi => ?_)
      · rw [hstep, ← h7, Int.toNat_natCast, List.take_add_one, List.take_set_of_le (by omega)]
        congr 1
        rw [List.getElem?_set_self (by omega)]
        rfl
      · rw [Int.toNat_natCast, List.getD_eq_getElem?_getD, List.getElem?_set_ne (by omega), ← List.getD_eq_getElem?_getD]
        exact h8 i (by omega)
    · rw [hk, if_neg (by simpa using c), List.append_nil] at hstep
      exact ev_neg c (ih row k (k2 + 1) (by omega) (by omega) h3 (by omega) (by omega) (by rw [hstep]; exact h6) (by rw [hstep]; exact h7) (fun i hi => h8 i (by omega)))
theorem compact_ev (l : List Int) (hl : l.length ≤ 4611686018427387904) : Ev (fun f => slices_Compact_int_int.f f l) (compL l) := by
  have key : ∀ d n : Nat, l.length - n = d → 1 ≤ n → n ≤ l.length → cI l n = l.take n → Ev (fun f => slices_Compact_int_int.l1 f (n : Int) l) (compL l) := by
    intro d
    induction d with
    | zero =>
      intro n h1 h2 h3 h4
      have : n = l.length := by omega
      subst this
      refine Ev.step (fun f => by rw [slices_Compact_int_int.l1]) (ev_neg (by omega) (ev_eq (ev_ret _) ?_))
      unfold compL
      rw [h4, List.take_length]
    | succ d ih =>
      intro n h1 h2 h3 h4
      have hn : n < l.length := by omega
      have hw : wrap64 ((n : Int) - 1) = ((n - 1 : Nat) : Int) := by rw [wrap_in (by omega) (by omega)]; omega
      refine Ev.step (fun f => by rw [slices_Compact_int_int.l1, hw, rdN, rdN, wrap_nat hn (by omega)]) ?_
      clear hw
      have hstep : cI l (n + 1) = cI l n ++ if keepI l n then [l.getD n 0] else [] := rfl
      have hk : keepI l n = decide (l.getD n 0 ≠ l.getD (n - 1) 0) := by
        unfold keepI
        rw [decide_eq_false (by omega : ¬ n = 0), Bool.false_or]
      refine ev_pos (by omega) (ev_pos (by omega) (ev_pos (by omega) (ev_pos (by omega) (ev_pos (by omega) ?_))))
      by_cases c : l.getD n 0 = l.getD (n - 1) 0
      · rw [hk, if_neg (by simpa using c), List.append_nil] at hstep
        refine ev_pos c (ev_pos (by omega) (ev_pos (by omega) (ev_pos (by omega) ?_)))
        have := compact_in l n h2 hl (l.length - (n + 1)) l n 1 rfl (by omega) rfl (by omega) (by omega) (by rw [hstep, h4, List.length_take]; omega) (by rw [hstep, h4]) (fun i hi => rfl)
        exact this
      · rw [hk, if_pos (by simpa using c)] at hstep
        refine ev_neg c (ih (n + 1) (by omega) (by omega) (by omega) ?_)
        rw [hstep, h4, List.take_add_one, List.getElem?_eq_getElem hn]
        congr 1
        rw [List.getD_eq_getElem?_getD, List.getElem?_eq_getElem hn]
        rfl
  unfold slices_Compact_int_int.f
  by_cases c : l.length < 2
  · refine ev_pos (by omega) (ev_eq (ev_ret _) ?_)
    match l, c with
    | [], _ => rfl
    | [x], _ => rfl
    | x :: y :: r, c => simp only [List.length_cons] at c; omega
  · refine ev_neg (by omega) (key _ 1 rfl (by omega) (by omega) ?_)
    match l, c with
    | [], c => simp at c
    | x :: r, _ => rfl
theorem cI_mem (l : List Int) : ∀ n, n ≤ l.length → ∀ x, x ∈ cI l n ↔ x ∈ l.take n
  | 0, _, x => by simp [cI]
  | n + 1, h, x => by
    have ih := cI_mem l n (by omega) x
    have hn : n < l.length := by omega
    have hg : l.getD n 0 = l[n] := by rw [List.getD_eq_getElem?_getD, List.getElem?_eq_getElem hn]; rfl
    unfold cI
    rw [List.take_add_one, List.getElem?_eq_getElem hn, List.mem_append, List.mem_append, ih]
    by_cases c : keepI l n = true
    · rw [if_pos c, hg]; simp
    · rw [if_neg c]
      unfold keepI at c
      simp at c
      obtain ⟨c1, c2⟩ := c
      have hp : n - 1 < l.length := by omega
      have hm : x = l[n] → x ∈ l.take n := fun e => by
        rw [e, ← hg, List.getD_eq_getElem?_getD, c2, List.getElem?_eq_getElem hp]
        exact List.mem_take_iff_getElem.2 ⟨n - 1, by omega, rfl⟩
      constructor
      · rintro (h | h)
        · exact .inl h
        · simp at h
      · rintro (h | h)
        · exact .inl h
        · exact .inl (hm (by simpa using h))
theorem compL_mem {l : List Int} {x : Int} : x ∈ compL l ↔ x ∈ l := by
  unfold compL
  rw [cI_mem l l.length (Nat.le_refl _), List.take_length]
theorem cI_sorted (l : List Int) (ho : OkL l) : ∀ n, n ≤ l.length → (cI l n).Pairwise fun x y => ltL x y = true
  | 0, _ => .nil
  | n + 1, h => by
    have ih := cI_sorted l ho n (by omega)
    have hn : n < l.length := by omega
    have hg : l.getD n 0 = l[n] := by rw [List.getD_eq_getElem?_getD, List.getElem?_eq_getElem hn]; rfl
    unfold cI
    by_cases c : keepI l n = true
    · rw [if_pos c, hg, List.pairwise_append]
      refine ⟨ih, List.pairwise_singleton _ _, fun a ha b hb => ?_⟩
      obtain rfl := List.mem_singleton.1 hb
      have ha := (cI_mem l n (by omega) a).1 ha
      obtain ⟨i, hi, e⟩ := List.mem_take_iff_getElem.1 ha
      have hp : n - 1 < l.length := by omega
      have hne : l[n] ≠ l[n - 1] := by
        unfold keepI at c
        rw [Bool.or_eq_true, decide_eq_true_eq, decide_eq_true_eq] at c
        rcases c with c | c
        · omega
        · rw [hg, List.getD_eq_getElem?_getD, List.getElem?_eq_getElem hp] at c
          exact c
      have pw := List.pairwise_iff_getElem.1 ho
      have h1 : ltL l[n] l[n - 1] = false := pw (n - 1) n hp hn (by omega)
      have h2 : ltL l[n - 1] a = false := by
        by_cases z : i = n - 1
        · subst z
          rw [← e, ltL_not]; omega
        · rw [← e]; exact pw i (n - 1) (by omega) hp (by omega)
      rw [ltL_not] at h1 h2
      rw [ltL_iff]
      unfold absP at *
      omega
    · rw [if_neg c, List.append_nil]
      exact ih
theorem compL_sorted {l : List Int} (ho : OkL l) : (compL l).Pairwise fun x y => ltL x y = true := cI_sorted l ho l.length (Nat.le_refl _)
def mk (p : List Int) (a : Nat) : Int := if (a : Int) ∈ p then (a : Int) else if -(a : Int) ∈ p then -(a : Int) else 0
def coll (p : List Int) : Nat → List Int
  | 0 => []
  | n + 1 => coll p n ++ if mk p (n + 1) ≠ 0 then [mk p (n + 1)] else []
def marksL (m : Nat) (p : List Int) : List Int := (List.range m).map (mk p)
def NoC (p : List Int) : Prop := ∀ x ∈ p, -x ∉ p
instance noCdec (p : List Int) : Decidable (NoC p) := by unfold NoC; infer_instance
def clauseR (l : List Int) (atoms : Nat) : List Int × Bool := if NoC l then (coll l atoms, true) else ([], false)
theorem mk_cases (p : List Int) (a : Nat) : (mk p a = (a : Int) ∧ (a : Int) ∈ p) ∨ (mk p a = -(a : Int) ∧ -(a : Int) ∈ p) ∨ (mk p a = 0 ∧ (a : Int) ∉ p ∧ -(a : Int) ∉ p) := by
  unfold mk
  by_cases h : (a : Int) ∈ p
  · rw [if_pos h]; exact .inl ⟨rfl, h⟩
  · rw [if_neg h]
    by_cases h2 : -(a : Int) ∈ p
    · rw [if_pos h2]; exact .inr (.inl ⟨rfl, h2⟩)
    · rw [if_neg h2]; exact .inr (.inr ⟨rfl, h, h2⟩)
theorem marksL_len (m : Nat) (p : List Int) : (marksL m p).length = m := by simp [marksL]
theorem marksL_get {m : Nat} {p : List Int} {a : Nat} (h : a < m) : (marksL m p).getD a 0 = mk p a := by
  unfold marksL
  rw [List.getD_eq_getElem?_getD, List.getElem?_map, List.getElem?_range h]; rfl
theorem mk_ne {p : List Int} {x : Int} {b : Nat} (h : (b : Int) ≠ absP x) : mk (p ++ [x]) b = mk p b := by
  have h1 : (b : Int) ≠ x := by intro e; apply h; unfold absP; split <;> omega
  have h2 : -(b : Int) ≠ x := by intro e; apply h; unfold absP; split <;> omega
  unfold mk
  simp [h1, h2]
theorem marksL_set {m : Nat} {p : List Int} {x : Int} (h : absP x < m) (hx : mk (p ++ [x]) (absP x).toNat = x) : (marksL m p).set (absP x).toNat x = marksL m (p ++ [x]) := by
  have h0 := (abs_le (n := x)).1
  apply List.ext_getElem
  · simp [marksL]
  · intro i g1 g2
    rw [List.getElem_set]
    simp only [marksL, List.getElem_map, List.getElem_range]
    by_cases e : (absP x).toNat = i
    · subst e; rw [if_pos rfl, hx]
    · rw [if_neg e, mk_ne (by omega)]
theorem coll_ev {p : List Int} {atoms : Nat} (ha : atoms ≤ 700) : Ev (fun k => spec_l11Clause.l3 k [] 1 (atoms : Int) (marksL (atoms + 1) p)) (coll p atoms, true) := by
  have hl : ∀ n, (coll p n).length ≤ n := by
    intro n
    induction n with
    | zero => exact Nat.le_refl _
    | succ n ih => unfold coll; split <;> simp <;> omega
  have key : ∀ d n : Nat, atoms - n = d → n ≤ atoms → Ev (fun k => spec_l11Clause.l3 k (coll p n) ((n + 1 : Nat) : Int) (atoms : Int) (marksL (atoms + 1) p)) (coll p atoms, true) := by
    intro d
    induction d with
    | zero =>
      intro n h1 h2
      have : n = atoms := by omega
      subst this
      refine Ev.step (fun k => by rw [spec_l11Clause.l3]) (ev_neg (by omega) (ev_ret _))
    | succ d ih =>
      intro n h1 h2
      have hn := hl n
      have hr : rd (marksL (atoms + 1) p) ((n + 1 : Nat) : Int) = mk p (n + 1) := by rw [rdN]; exact marksL_get (by omega)
      have ih := ih (n + 1) (by omega) (by omega)
      refine Ev.step (fun k => by rw [spec_l11Clause.l3, hr, wrap_nat (n := n + 1) (m := 1000) (by omega) (by omega)]) ?_
      refine ev_pos (by omega) (ev_pos (by omega) (ev_pos (by rw [marksL_len]; omega) ?_))
      rw [show coll p (n + 1) = coll p n ++ if mk p (n + 1) ≠ 0 then [mk p (n + 1)] else [] from rfl] at ih
      by_cases c : mk p (n + 1) ≠ 0
      · rw [if_pos c] at ih
        exact ev_pos c (ev_pos (by omega) (ev_pos (by rw [marksL_len]; omega) (ev_pos (by omega) ih)))
      · rw [if_neg c, List.append_nil] at ih
        exact ev_neg c ih
  exact key atoms 0 (by omega) (by omega)
theorem spec_l11Clause_ev {l : List Int} {atoms : Nat} (ha : atoms ≤ 700) (hl : l.length ≤ 4611686018427387904) (hx : ∀ x ∈ l, litOk (atoms : Int) x = true) : Ev (fun k => spec_l11Clause.f k l (atoms : Int)) (clauseR l atoms) := by
  have key : ∀ (d : Nat) (p r : List Int), r.length = d → l = p ++ r → NoC p → Ev (fun k => spec_l11Clause.l1 k (marksL (atoms + 1) p) (p.length : Int) l (atoms : Int)) (clauseR l atoms) := by
    intro d
    induction d with
    | zero =>
      intro p r h1 h2 h3
      obtain rfl := List.eq_nil_of_length_eq_zero h1
      rw [List.append_nil] at h2
      subst h2
      refine Ev.step (fun k => by rw [spec_l11Clause.l1]) (ev_neg (by omega) (ev_eq (coll_ev ha) ?_))
      unfold clauseR
      rw [if_pos h3]
    | succ d ih =>
      intro p r h1 h2 h3
      obtain ⟨x, r, rfl⟩ : ∃ x r', r = x :: r' := by
        cases r with
        | nil => simp at h1
        | cons x r => exact ⟨x, r, rfl⟩
      have hlen : l.length = p.length + (r.length + 1) := by rw [h2]; simp
      have hxm : x ∈ l := by rw [h2]; simp
      have hlx := litOk_in (hx x hxm)
      have hA := abs_le (n := x)
      have hr : rd l (p.length : Int) = x := by rw [h2]; exact rd_mid _ _ _
      obtain ⟨a, haE⟩ : ∃ a : Nat, absP x = (a : Int) := ⟨(absP x).toNat, by omega⟩
      have hm : rd (marksL (atoms + 1) p) (a : Int) = mk p a := by rw [rdN]; exact marksL_get (by omega)
      have hx2 : x = (a : Int) ∨ x = -(a : Int) := by omega
      have hgo : (mk p a = 0 ∨ mk p a = x) → Ev (fun k => spec_l11Clause.j2 k l (atoms : Int) (marksL (atoms + 1) p) (p.length : Int) (a : Int)) (clauseR l atoms) := fun hz => by
        have hneg : -x ∉ p := by
          rcases mk_cases p a with ⟨e, m⟩ | ⟨e, m⟩ | ⟨e, m1, m2⟩
          · rcases hz with hz | hz
            · omega
            · intro hmem; exact h3 x (by rw [← hz, e]; exact m) hmem
          · rcases hz with hz | hz
            · omega
            · intro hmem; exact h3 x (by rw [← hz, e]; exact m) hmem
          · rcases hx2 with rfl | rfl
            · exact m2
            · rw [Int.neg_neg]; exact m1
        have hno : NoC (p ++ [x]) := by
          intro y hy hny
          rcases List.mem_append.1 hy with hy | hy
          · rcases List.mem_append.1 hny with hny | hny
            · exact h3 y hy hny
            · have := List.mem_singleton.1 hny
              exact hneg (by rw [← this, Int.neg_neg]; exact hy)
          · obtain rfl := List.mem_singleton.1 hy
            rcases List.mem_append.1 hny with hny | hny
            · exact hneg hny
            · have := List.mem_singleton.1 hny
              omega
        have hmx : mk (p ++ [x]) (absP x).toNat = x := by
          rw [haE, Int.toNat_natCast]
          rcases mk_cases (p ++ [x]) a with ⟨e, m⟩ | ⟨e, m⟩ | ⟨e, m1, m2⟩
          · rcases hx2 with h | h
            · omega
            · exact absurd (show -x ∈ p ++ [x] by rw [show -x = (a : Int) by omega]; exact m) (hno x (by simp))
          · rcases hx2 with h | h
            · exact absurd (show -x ∈ p ++ [x] by rw [show -x = -(a : Int) by omega]; exact m) (hno x (by simp))
            · omega
          · rcases hx2 with h | h
            · exact absurd (show (a : Int) ∈ p ++ [x] by rw [show (a : Int) = x by omega]; simp) m1
            · exact absurd (show -(a : Int) ∈ p ++ [x] by rw [show -(a : Int) = x by omega]; simp) m2
        have hset : (marksL (atoms + 1) p).set ((a : Int)).toNat x = marksL (atoms + 1) (p ++ [x]) := by rw [← haE]; exact marksL_set (by omega) hmx
        refine Ev.step (fun k => by rw [spec_l11Clause.j2, hr, hset, wrap_nat (n := p.length) (m := l.length) (by omega) (by omega)]) ?_
        refine ev_pos (by omega) (ev_pos (by omega) (ev_pos (by omega) (ev_pos (by rw [marksL_len]; omega) ?_)))
        have := ih (p ++ [x]) r (by simpa using h1) (by rw [h2]; simp) hno
        simpa using this
      refine Ev.step (fun k => by rw [spec_l11Clause.l1, hr, spec_l11Abs_eq (by omega), haE]) ?_
      refine ev_pos (by omega) (ev_pos (by omega) (ev_pos (by omega) (ev_bind (ev_ret _) (ev_pos (by omega) (ev_pos (by rw [marksL_len]; omega) ?_)))))
      rw [hm]
      by_cases c : mk p a ≠ 0
      · refine ev_pos c (ev_pos (by omega) (ev_pos (by rw [marksL_len]; omega) (ev_pos (by omega) (ev_pos (by omega) ?_))))
        by_cases e : mk p a ≠ x
        · refine ev_pos e (ev_eq (ev_ret _) ?_)
          unfold clauseR
          rw [if_neg]
          intro hno
          have hn : -x ∈ p := by
            rcases mk_cases p a with ⟨e1, m⟩ | ⟨e1, m⟩ | ⟨e1, m1, m2⟩
            · rcases hx2 with h | h
              · omega
              · rw [h, Int.neg_neg]; exact m
            · rcases hx2 with h | h
              · rw [h]; exact m
              · omega
            · omega
          exact hno x hxm (by rw [h2]; exact List.mem_append.2 (.inl hn))
        · exact ev_neg e (hgo (.inr (by simpa using e)))
      · exact ev_neg c (hgo (.inl (by simpa using c)))
  unfold spec_l11Clause.f
  rw [wrap_in (x := (atoms : Int) + 1) (by omega) (by omega)]
  refine ev_pos (by omega) (ev_pos (by omega) ?_)
  have := key l.length [] l rfl rfl (fun x hx => by cases hx)
  have e : List.replicate ((atoms : Int) + 1).toNat (0 : Int) = marksL (atoms + 1) [] := by
    unfold marksL
    rw [show ((atoms : Int) + 1).toNat = atoms + 1 by omega]
    apply List.ext_getElem
    · simp
    · intro i g1 g2
      simp [mk]
  rw [e]
  exact this
theorem coll_mem {p : List Int} (h0 : ∀ x ∈ p, x ≠ 0) (hn : NoC p) : ∀ n x, x ∈ coll p n ↔ x ∈ p ∧ absP x ≤ n
  | 0, x => by
    constructor
    · intro h; cases h
    · rintro ⟨h, e⟩
      have := h0 x h
      have := abs_le (n := x)
      omega
  | n + 1, x => by
    have ih := coll_mem h0 hn n x
    have hA := abs_le (n := x)
    unfold coll
    rw [List.mem_append, ih]
    constructor
    · rintro (⟨h, e⟩ | h)
      · exact ⟨h, by omega⟩
      · split at h
        · obtain rfl := List.mem_singleton.1 h
          rcases mk_cases p (n + 1) with ⟨e1, m⟩ | ⟨e1, m⟩ | ⟨e1, m1, m2⟩
          · rw [e1]; exact ⟨m, by unfold absP; split <;> omega⟩
          · rw [e1]; exact ⟨m, by unfold absP; split <;> omega⟩
          · contradiction
        · cases h
    · rintro ⟨h, e⟩
      by_cases z : absP x ≤ n
      · exact .inl ⟨h, z⟩
      · right
        have hx0 := h0 x h
        have e1 : mk p (n + 1) = x := by
          have hx2 : x = ((n + 1 : Nat) : Int) ∨ x = -((n + 1 : Nat) : Int) := by omega
          unfold mk
          rcases hx2 with h2 | h2
          · rw [if_pos (by rw [← h2]; exact h), h2]
          · have hnot : ((n + 1 : Nat) : Int) ∉ p := fun m => hn x h (by rw [h2, Int.neg_neg]; exact m)
            rw [if_neg hnot, if_pos (by rw [← h2]; exact h), h2]
        rw [e1, if_pos hx0]
        simp
theorem coll_sorted {p : List Int} (h0 : ∀ x ∈ p, x ≠ 0) (hn : NoC p) : ∀ n, (coll p n).Pairwise fun x y => absP x < absP y
  | 0 => .nil
  | n + 1 => by
    have ih := coll_sorted h0 hn n
    unfold coll
    split
    · rw [List.pairwise_append]
      refine ⟨ih, List.pairwise_singleton _ _, fun a ha b hb => ?_⟩
      obtain rfl := List.mem_singleton.1 hb
      have h1 := ((coll_mem h0 hn n a).1 ha).2
      have h2 : absP (mk p (n + 1)) = ((n + 1 : Nat) : Int) := by
        rcases mk_cases p (n + 1) with ⟨e1, m⟩ | ⟨e1, m⟩ | ⟨e1, m1, m2⟩
        · rw [e1]; unfold absP; split <;> omega
        · rw [e1]; unfold absP; split <;> omega
        · contradiction
      omega
    · rw [List.append_nil]; exact ih
theorem sorted_ext : ∀ {a b : List Int}, (a.Pairwise fun x y => ltL x y = true) → (b.Pairwise fun x y => ltL x y = true) → (∀ x, x ∈ a ↔ x ∈ b) → a = b
  | [], [], _, _, _ => rfl
  | [], y :: b, _, _, h => by have := (h y).2 (by simp); cases this
  | x :: a, [], _, _, h => by have := (h x).1 (by simp); cases this
  | x :: a, y :: b, h1, h2, h => by
    have h1' := List.pairwise_cons.1 h1
    have h2' := List.pairwise_cons.1 h2
    have irr : ∀ z, ltL z z = false := fun z => by rw [ltL_not]; omega
    have e : x = y := by
      have m1 := (h x).1 (by simp)
      have m2 := (h y).2 (by simp)
      rcases List.mem_cons.1 m1 with e | m1
      · exact e
      · rcases List.mem_cons.1 m2 with e | m2
        · exact e.symm
        · have a1 := h2'.1 x m1
          have a2 := h1'.1 y m2
          rw [ltL_asym a1] at a2
          cases a2
    subst e
    congr 1
    refine sorted_ext h1'.2 h2'.2 fun z => ?_
    have hz := h z
    rw [List.mem_cons, List.mem_cons] at hz
    constructor
    · intro m
      rcases hz.1 (.inr m) with rfl | m2
      · have := h1'.1 z m
        rw [irr] at this; cases this
      · exact m2
    · intro m
      rcases hz.2 (.inr m) with rfl | m2
      · have := h2'.1 z m
        rw [irr] at this; cases this
      · exact m2
theorem adj_iff {o : List Int} (hs : o.Pairwise fun x y => ltL x y = true) (h0 : ∀ x ∈ o, x ≠ 0) : NoC o ↔ ∀ i, 1 ≤ i → i < o.length → o.getD i 0 ≠ -(o.getD (i - 1) 0) := by
  have pw := List.pairwise_iff_getElem.1 hs
  have hg : ∀ {i}, (h : i < o.length) → o.getD i 0 = o[i] := fun h => by rw [List.getD_eq_getElem?_getD, List.getElem?_eq_getElem h]; rfl
  constructor
  · intro hn i h1 h2 e
    have h3 : i - 1 < o.length := by omega
    rw [hg h2, hg h3] at e
    exact hn o[i - 1] (List.getElem_mem _) (by rw [← e]; exact List.getElem_mem _)
  · intro h x hx hnx
    have main : ∀ y, y ∈ o → -y ∈ o → y < 0 → False := fun y hy hny hneg => by
      obtain ⟨i, hi, e1⟩ := List.mem_iff_getElem.1 hy
      obtain ⟨j, hj, e2⟩ := List.mem_iff_getElem.1 hny
      have b1 := abs_le (n := y)
      have b2 := abs_le (n := -y)
      have hij : i < j := by
        rcases Nat.lt_trichotomy i j with c | c | c
        · exact c
        · subst c; omega
        · have := pw j i hj hi c
          rw [e1, e2, ltL_iff] at this
          omega
      by_cases c : j = i + 1
      · subst c
        have := h (i + 1) (by omega) hj
        rw [hg hj, Nat.add_sub_cancel, hg hi, e1, e2] at this
        exact this rfl
      · have hm : i + 1 < o.length := by omega
        have a1 := pw i (i + 1) hi hm (by omega)
        have a2 := pw (i + 1) j hm hj (by omega)
        have z0 := h0 o[i + 1] (List.getElem_mem _)
        rw [e1] at a1
        rw [e2] at a2
        rw [ltL_iff] at a1 a2
        have b3 := abs_le (n := o[i + 1])
        omega
    rcases Int.lt_trichotomy x 0 with c | c | c
    · exact main x hx hnx c
    · exact h0 x hx c
    · exact main (-x) hnx (by rw [Int.neg_neg]; exact hx) (by omega)
theorem contrary_ev (o : List Int) (hl : o.length ≤ 1099511627776) (h7 : ∀ x ∈ o, Lit7 x) :
    ((∀ i, 1 ≤ i → i < o.length → o.getD i 0 ≠ -(o.getD (i - 1) 0)) → Ev (fun k => impl_clauseOf.l1 k 1 o) (o, true)) ∧
    (¬ (∀ i, 1 ≤ i → i < o.length → o.getD i 0 ≠ -(o.getD (i - 1) 0)) → Ev (fun k => impl_clauseOf.l1 k 1 o) ([], false)) := by
  have hg : ∀ {i}, (h : i < o.length) → o.getD i 0 = o[i] := fun h => by rw [List.getD_eq_getElem?_getD, List.getElem?_eq_getElem h]; rfl
  have key : ∀ d n : Nat, o.length - n = d → 1 ≤ n → ((∀ i, n ≤ i → i < o.length → o.getD i 0 ≠ -(o.getD (i - 1) 0)) → Ev (fun k => impl_clauseOf.l1 k (n : Int) o) (o, true)) ∧
      (¬ (∀ i, n ≤ i → i < o.length → o.getD i 0 ≠ -(o.getD (i - 1) 0)) → Ev (fun k => impl_clauseOf.l1 k (n : Int) o) ([], false)) := by
    intro d
    induction d with
    | zero =>
      intro n h1 h2
      refine ⟨fun _ => ?_, fun h => absurd (fun i a b => by omega) h⟩
      refine Ev.step (fun k => by rw [impl_clauseOf.l1]) (ev_neg (by omega) ?_)
      exact ev_bind (g := fun _ => impl_clone_int.f o) (ev_fix (by unfold impl_clone_int.f; rw [if_pos (by omega)])) (ev_ret _)
    | succ d ih =>
      intro n h1 h2
      have hn : n < o.length := by omega
      have hp : n - 1 < o.length := by omega
      have hw : wrap64 ((n : Int) - 1) = ((n - 1 : Nat) : Int) := by rw [wrap_in (by omega) (by omega)]; omega
      have h7p : -700 ≤ o.getD (n - 1) 0 ∧ o.getD (n - 1) 0 ≤ 700 := by rw [hg hp]; exact h7 _ (List.getElem_mem _)
      obtain ⟨i1, i2⟩ := ih (n + 1) (by omega) (by omega)
      by_cases c : o.getD n 0 = -(o.getD (n - 1) 0)
      · refine ⟨fun h => absurd c (h n (Nat.le_refl _) hn), fun _ => ?_⟩
        refine Ev.step (fun k => by rw [impl_clauseOf.l1, hw, rdN, rdN, wrap_in (x := -(o.getD (n - 1) 0)) (by omega) (by omega)]) ?_
        clear hw
        exact ev_pos (by omega) (ev_pos (by omega) (ev_pos (by omega) (ev_pos (by omega) (ev_pos (by omega) (ev_pos c (ev_ret _))))))
      · have st : ∀ r, Ev (fun k => impl_clauseOf.l1 k ((n + 1 : Nat) : Int) o) r → Ev (fun k => impl_clauseOf.l1 k (n : Int) o) r := fun r hr => by
          refine Ev.step (fun k => by rw [impl_clauseOf.l1, hw, rdN, rdN, wrap_in (x := -(o.getD (n - 1) 0)) (by omega) (by omega), wrap_nat hn (by omega)]) ?_
          clear hw
          exact ev_pos (by omega) (ev_pos (by omega) (ev_pos (by omega) (ev_pos (by omega) (ev_pos (by omega) (ev_neg c hr)))))
        refine ⟨fun h => st _ (i1 fun i a b => h i (by omega) b), fun h => st _ (i2 fun h2 => h fun i a b => ?_)⟩
        by_cases z : i = n
        · subst z; exact c
        · exact h2 i (by omega) b
  exact key _ 1 rfl (Nat.le_refl _)
theorem wrap_u8 {x : Int} (h0 : 0 ≤ x) (h1 : x < 256) : Go.IntKind.u8.wrap x = x := by
  simp [Go.IntKind.wrap, Go.IntKind.signed, Go.IntKind.bits]; omega
theorem wrap_u64 {x : Int} (h0 : 0 ≤ x) (h1 : x < 18446744073709551616) : Go.IntKind.u64.wrap x = x := by
  simp [Go.IntKind.wrap, Go.IntKind.signed, Go.IntKind.bits]; omega
theorem len8_size : (len8tab.size : Int) = 256 := by decide +kernel
theorem bitsLen_tot {x : Int} (h0 : 0 ≤ x) (h1 : x < 4294967296) : Tot (fun k => math_bits_Len.f k x) (fun _ => True) := by
  have s16 : ∀ y : Int, shr .u64 y 16 = y / 65536 := fun y => by unfold shr; rfl
  have s8 : ∀ y : Int, shr .u64 y 8 = y / 256 := fun y => by unfold shr; rfl
  have j3 : ∀ y z : Int, 0 ≤ y → y < 256 → Tot (fun k => math_bits_Len64.j3 k y z) (fun _ => True) := fun y z g0 g1 =>
    tot_step (fun k => by rw [math_bits_Len64.j3, wrap_u8 g0 g1]) (tot_pos g0 (tot_pos (by rw [len8_size]; omega) (tot_ret trivial)))
  have j2 : ∀ y z : Int, 0 ≤ y → y < 65536 → Tot (fun k => math_bits_Len64.j2 k y z) (fun _ => True) := fun y z g0 g1 =>
    tot_step (fun k => by rw [math_bits_Len64.j2, s8]) (tot_ite (fun _ => j3 _ _ (by omega) (by omega)) fun _ => j3 _ _ g0 (by omega))
  unfold math_bits_Len.f math_bits_Len64.f
  refine tot_bind (R := fun _ => True) (tot_neg (by omega) (tot_step (fun k => by rw [math_bits_Len64.j1, s16]) (tot_ite (fun _ => j2 _ _ (by omega) (by omega)) fun _ => j2 _ _ h0 (by omega)))) fun r _ => tot_ret trivial
theorem sortFunc_tot (l : List Int) (h7 : ∀ x ∈ l, Lit7 x) (hl : l.length ≤ 12) : Tot (fun k => slices_SortFunc_int_int_at_impl_clauseOf_1.f k l) (fun r => r.Perm l ∧ OkL r) := by
  unfold slices_SortFunc_int_int_at_impl_clauseOf_1.f
  rw [wrap_u64 (by omega) (by omega)]
  refine tot_bind (bitsLen_tot (by omega) (by omega)) fun b _ => ?_
  refine tot_bind (R := fun r => r.Perm l ∧ OkL r) ?_ fun r q => tot_ret q
  unfold slices_pdqsortCmpFunc_int_at_impl_clauseOf_1.f
  have hw : wrap64 ((l.length : Int) - 0) = (l.length : Int) := by rw [wrap_in (by omega) (by omega)]; omega
  refine tot_step (fun k => by rw [slices_pdqsortCmpFunc_int_at_impl_clauseOf_1.l1, hw]) ?_
  clear hw
  refine tot_pos (by omega) ?_
  have := insertion_tot [] l [] h7 (by simp) (by simp; omega)
  simp only [List.nil_append, List.append_nil, List.length_nil, Nat.zero_add] at this
  refine tot_bind this fun r q => tot_ret ?_
  obtain ⟨m, rfl, q⟩ := q
  exact q
theorem NoC_mem {a b : List Int} (h : ∀ x, x ∈ a ↔ x ∈ b) : NoC a ↔ NoC b := by
  unfold NoC
  constructor
  · intro g x hx hn; exact g x ((h x).2 hx) ((h _).2 hn)
  · intro g x hx hn; exact g x ((h x).1 hx) ((h _).1 hn)
theorem impl_clauseOf_ev {l : List Int} {atoms : Nat} (ha : atoms ≤ 700) (hx : ∀ x ∈ l, litOk (atoms : Int) x = true) (hl : l.length ≤ 1048576)
    (hs : Tot (fun k => slices_SortFunc_int_int_at_impl_clauseOf_1.f k l) (fun r => r.Perm l ∧ OkL r)) : Ev (fun k => impl_clauseOf.f k l) (clauseR l atoms) := by
  obtain ⟨s, hs, hp, ho⟩ := hs
  have hlen := hp.length_eq
  have hmem : ∀ x, x ∈ compL s ↔ x ∈ l := fun x => compL_mem.trans hp.mem_iff
  have h0 : ∀ x ∈ l, x ≠ 0 := fun x h => (litOk_in (hx x h)).1
  have h0c : ∀ x ∈ compL s, x ≠ 0 := fun x h => h0 x ((hmem x).1 h)
  have h7 : ∀ x ∈ compL s, Lit7 x := fun x h => by have := litOk_in (hx x ((hmem x).1 h)); unfold Lit7; omega
  have hcl : (compL s).length ≤ 1048576 := by have := cI_len s s.length; unfold compL; omega
  have hsort := compL_sorted ho
  obtain ⟨e1, e2⟩ := contrary_ev (compL s) (by omega) h7
  rw [← adj_iff hsort h0c] at e1 e2
  unfold impl_clauseOf.f
  refine ev_bind (g := fun _ => slices_Clone_int_int.f l) (ev_fix (by unfold slices_Clone_int_int.f; rw [if_pos (by omega)])) (ev_bind hs (ev_bind (compact_ev s (by omega)) ?_))
  unfold clauseR
  by_cases c : NoC l
  · rw [if_pos c]
    have c' := (NoC_mem hmem).2 c
    have e : compL s = coll l atoms := sorted_ext hsort ((coll_sorted h0 c atoms).imp fun h => ltL_iff.2 (.inl h)) fun x => by
      rw [hmem, coll_mem h0 c]
      exact ⟨fun h => ⟨h, by have := litOk_in (hx x h); have := abs_le (n := x); omega⟩, fun h => h.1⟩
    rw [← e]
    exact e1 c'
  · rw [if_neg c]
    exact e2 fun c' => c ((NoC_mem hmem).1 c')
theorem clauseP_sorted {l : List Int} {atoms : Int} (hs : l.Pairwise fun x y => absP x < absP y) (hx : ∀ x ∈ l, litOk atoms x = true) : clauseP l atoms = true := by
  unfold clauseP
  have key : ∀ (r p : List Int), l = p ++ r → clauseGo atoms l p.length r = true := by
    intro r
    induction r with
    | nil => intro p h; rfl
    | cons x r ih =>
      intro p h
      unfold clauseGo
      have h1 := ih (p ++ [x]) (by rw [h]; simp)
      rw [List.length_append] at h1
      rw [hx x (by rw [h]; simp)]
      simp only [Bool.true_and, Bool.and_eq_true, Bool.or_eq_true, decide_eq_true_eq]
      refine ⟨?_, h1⟩
      by_cases z : p.length = 0
      · exact .inl z
      · right
        have hp : p.length - 1 < p.length := by omega
        have e : l.getD (p.length - 1) 0 = p[p.length - 1] := by
          rw [h, List.getD_eq_getElem?_getD, List.getElem?_append_left hp, List.getElem?_eq_getElem hp]; rfl
        rw [e]
        rw [h] at hs
        exact (List.pairwise_append.1 hs).2.2 _ (List.getElem_mem hp) x (by simp)
  exact key l [] rfl
theorem spec_l2Has_of (a : List Int) (x : Int) (h : a.length ≤ 1099511627776) : Ev (fun k => spec_l2Has.f k a x) (decide (x ∈ a)) := by
  unfold spec_l2Has.f
  have key : ∀ d n : Nat, a.length - n = d → n ≤ a.length → Ev (fun k => spec_l2Has.l0 k a x (n : Int)) (decide (x ∈ a.drop n)) := by
    intro d
    induction d with
    | zero =>
      intro n h1 h2
      have : n = a.length := by omega
      subst this
      refine Ev.step (fun k => by rw [spec_l2Has.l0]) ?_
      exact ev_neg (by omega) (ev_eq (ev_ret _) (by simp))
    | succ d ih =>
      intro n h1 h2
      have hn : n < a.length := by omega
      rw [List.drop_eq_getElem_cons hn]
      refine Ev.step (fun k => by rw [spec_l2Has.l0, rd_at hn, wrap_nat hn (by omega)]) ?_
      refine ev_pos (by omega) (ev_pos (by omega) ?_)
      by_cases e : a[n] = x
      · exact ev_pos e (ev_eq (ev_ret _) (by rw [e]; simp))
      · exact ev_neg e (ev_eq (ih (n + 1) (by omega) (by omega)) (by simp only [List.drop_eq_getElem_cons hn, List.mem_cons, Ne.symm e, false_or]))
  have := key a.length 0 (by omega) (by omega)
  simpa using this
theorem impl_trueIn_ev {atoms : Int} {list : List (List Int)} {bits : List Int} (ha : atoms ≤ 700) (hl : list.length ≤ 1048576) (hx : ∀ c ∈ list, c.length ≤ 1048576) (hL : ∀ c ∈ list, ∀ x ∈ c, litOk atoms x = true) (hb : (bits.length : Int) = atoms) : Ev (fun k => impl_trueIn.f k list bits) (trueP list bits) := by
  unfold impl_trueIn.f trueP
  rw [← all_any]
  refine ev_bind ?_ (ev_ret _)
  unfold slices_ContainsFunc_int_int_at_impl_trueIn_1.f slices_IndexFunc_int_int_at_impl_trueIn_1.f
  refine ev_contains (da := ([] : List Int)) (fun k i => slices_IndexFunc_int_int_at_impl_trueIn_1.l1 k i list bits) (fun k c => impl_trueIn_1.f k c bits) list (fun c => !c.any (litP bits)) (by omega) (fun k i => by rw [slices_IndexFunc_int_int_at_impl_trueIn_1.l1]; rfl) (fun c hc => ?_)
  unfold impl_trueIn_1.f
  refine ev_bind ?_ (ev_ret _)
  unfold slices_ContainsFunc_int_int_at_impl_trueIn_1_1.f slices_IndexFunc_int_int_at_impl_trueIn_1_1.f
  refine ev_contains (da := (0 : Int)) (fun k i => slices_IndexFunc_int_int_at_impl_trueIn_1_1.l1 k i c bits) (fun k x => impl_trueIn_1_1.f k x bits) c (litP bits) (by have := hx c hc; omega) (fun k i => by rw [slices_IndexFunc_int_int_at_impl_trueIn_1_1.l1]; rfl) (fun x hxc => ?_)
  unfold impl_trueIn_1_1.f
  exact ev_bind (ev_fix (impl_litTrue_eq (hL c hc x hxc) ha hb)) (ev_ret _)
theorem has_ev (a : List Int) (x : Int) (h : a.length ≤ 1099511627776) : Ev (fun k => slices_Contains_int_int.f k a x) (decide (x ∈ a)) := by
  unfold slices_Contains_int_int.f slices_Index_int_int.f
  have key : ∀ d n : Nat, a.length - n = d → n ≤ a.length → ∃ r, Ev (fun k => slices_Index_int_int.l0 k a x (a.length : Int) (n : Int)) r ∧ decide (r ≥ 0) = decide (x ∈ a.drop n) := by
    intro d
    induction d with
    | zero =>
      intro n h1 h2
      have : n = a.length := by omega
      subst this
      exact ⟨-1, Ev.step (fun k => by rw [slices_Index_int_int.l0]) (ev_neg (by omega) (ev_ret _)), by simp⟩
    | succ d ih =>
      intro n h1 h2
      have hn : n < a.length := by omega
      rw [List.drop_eq_getElem_cons hn]
      by_cases e : x = a[n]
      · exact ⟨(n : Int), Ev.step (fun k => by rw [slices_Index_int_int.l0, rd_at hn, wrap_nat hn (by omega)]) (ev_pos (by omega) (ev_pos (by omega) (ev_pos (by omega) (ev_pos e (ev_ret _))))), by rw [decide_eq_true (by omega : (n : Int) ≥ 0), e, decide_eq_true (List.mem_cons_self ..)]⟩
      · obtain ⟨r, hr, h3⟩ := ih (n + 1) (by omega) (by omega)
        exact ⟨r, Ev.step (fun k => by rw [slices_Index_int_int.l0, rd_at hn, wrap_nat hn (by omega)]) (ev_pos (by omega) (ev_pos (by omega) (ev_pos (by omega) (ev_neg e hr)))), by rw [h3]; simp only [List.mem_cons, e, false_or]⟩
  obtain ⟨r, h1, h2⟩ := key a.length 0 (by omega) (by omega)
  exact ev_bind h1 (ev_eq (ev_ret _) (by simpa using h2))
theorem without_ev (a : List Int) (x : Int) (h : a.length ≤ 1048576) : Ev (fun k => spec_l11Without.f k a x) (a.filter fun y => decide (y ≠ x)) := by
  unfold spec_l11Without.f
  have key : ∀ d n : Nat, a.length - n = d → n ≤ a.length → ∀ s : List Int, s.length ≤ n → Ev (fun k => spec_l11Without.l0 k a x s (n : Int)) (s ++ (a.drop n).filter fun y => decide (y ≠ x)) := by
    intro d
    induction d with
    | zero =>
      intro n h1 h2 s hs
      have : n = a.length := by omega
      subst this
      refine Ev.step (fun k => by rw [spec_l11Without.l0]) (ev_neg (by omega) (ev_eq (ev_ret _) (by simp)))
    | succ d ih =>
      intro n h1 h2 s hs
      have hn : n < a.length := by omega
      rw [List.drop_eq_getElem_cons hn]
      refine Ev.step (fun k => by rw [spec_l11Without.l0, rd_at hn, wrap_nat hn (by omega)]) ?_
      refine ev_pos (by omega) (ev_pos (by omega) ?_)
      by_cases e : a[n] = x
      · rw [List.filter_cons_of_neg (by simpa using e)]
        exact ev_pos e (ih (n + 1) (by omega) (by omega) s (by omega))
      · rw [List.filter_cons_of_pos (by simpa using e)]
        exact ev_neg e (ev_pos (by omega) (ev_eq (ih (n + 1) (by omega) (by omega) _ (by simp; omega)) (by simp)))
  have := key a.length 0 (by omega) (by omega) [] (by simp)
  simpa using this
theorem join_ev (a b : List Int) (ha : a.length ≤ 1048576) (hb : b.length ≤ 1048576) : Ev (fun k => spec_l11Join.f k a b) (a ++ b) := by
  unfold spec_l11Join.f
  refine ev_bind (spec_l3Copy_ev a ha) ?_
  have key : ∀ d n : Nat, b.length - n = d → n ≤ b.length → ∀ s : List Int, s.length ≤ 1048576 + n → Ev (fun k => spec_l11Join.l0 k b s (n : Int)) (s ++ b.drop n) := by
    intro d
    induction d with
    | zero =>
      intro n h1 h2 s hs
      have : n = b.length := by omega
      subst this
      refine Ev.step (fun k => by rw [spec_l11Join.l0]) (ev_neg (by omega) (ev_eq (ev_ret _) (by simp)))
    | succ d ih =>
      intro n h1 h2 s hs
      have hn : n < b.length := by omega
      rw [List.drop_eq_getElem_cons hn]
      refine Ev.step (fun k => by rw [spec_l11Join.l0, rd_at hn, wrap_nat hn (by omega)]) ?_
      exact ev_pos (by omega) (ev_pos (by omega) (ev_pos (by omega) (ev_eq (ih (n + 1) (by omega) (by omega) _ (by simp; omega)) (by simp))))
  have := key b.length 0 (by omega) (by omega) a (by omega)
  simpa using this
def resL (a b : List Int) (x : Int) : List Int := (a.filter fun y => decide (y ≠ x)) ++ b.filter fun y => decide (y ≠ -x)
def resR (a b : List Int) (x : Int) : List Int × Bool := if clauseP a 700 = true ∧ clauseP b 700 = true ∧ 1 ≤ x ∧ x ∈ a ∧ -x ∈ b then clauseR (resL a b x) 700 else ([], false)
theorem resL_lit {a b : List Int} {x : Int} (ha : clauseP a 700 = true) (hb : clauseP b 700 = true) : ∀ y ∈ resL a b x, litOk ((700 : Nat) : Int) y = true := fun y hy => by
  unfold resL at hy
  rcases List.mem_append.1 hy with hy | hy
  · exact clauseP_lit ha y (List.mem_filter.1 hy).1
  · exact clauseP_lit hb y (List.mem_filter.1 hy).1
theorem spec_Resolved_ev (a b : List Int) (x : Int) (ha : a.length ≤ 1048576) (hb : b.length ≤ 1048576) : Ev (fun k => spec_Resolved.f k a b x) (resR a b x) := by
  have h1 := spec_ClauseValid_ev a (atoms := 700) (by omega) (by omega)
  have h2 := spec_ClauseValid_ev b (atoms := 700) (by omega) (by omega)
  unfold spec_Resolved.f resR
  refine ev_bind h1 ?_
  by_cases c1 : clauseP a 700 = true
  · refine ev_pos c1 (ev_bind h2 ?_)
    by_cases c2 : clauseP b 700 = true
    · refine ev_pos c2 ?_
      by_cases c3 : x < 1
      · exact ev_pos c3 (ev_eq (ev_ret _) (by rw [if_neg]; intro h; omega))
      · refine ev_neg c3 (ev_bind (spec_l2Has_of a x (by omega)) ?_)
        by_cases c4 : x ∈ a
        · have hx := litOk_in (clauseP_lit c1 x c4)
          rw [wrap_in (x := -x) (by omega) (by omega)]
          refine ev_pos (by simpa using c4) (ev_bind (spec_l2Has_of b (-x) (by omega)) ?_)
          by_cases c5 : -x ∈ b
          · rw [if_pos ⟨c1, c2, by omega, c4, c5⟩]
            have l1 := List.length_filter_le (fun y => decide (y ≠ x)) a
            have l2 := List.length_filter_le (fun y => decide (y ≠ -x)) b
            refine ev_pos (by simpa using c5) (ev_bind (without_ev a x ha) (ev_bind (without_ev b (-x) hb) (ev_bind (join_ev _ _ (by omega) (by omega)) (ev_bind (spec_l11Clause_ev (atoms := 700) (l := resL a b x) (by omega) (by unfold resL; simp only [List.length_append]; omega) (resL_lit c1 c2)) (ev_ret _)))))
          · exact ev_neg (by simpa using c5) (ev_eq (ev_ret _) (by rw [if_neg (fun h => c5 h.2.2.2.2)]))
        · exact ev_neg (by simpa using c4) (ev_eq (ev_ret _) (by rw [if_neg (fun h => c4 h.2.2.2.1)]))
    · exact ev_neg c2 (ev_eq (ev_ret _) (by rw [if_neg (fun h => c2 h.2.1)]))
  · exact ev_neg c1 (ev_eq (ev_ret _) (by rw [if_neg (fun h => c1 h.1)]))
theorem impl_Resolved_ev (a b : List Int) (x : Int) (ha : a.length ≤ 524288) (hb : b.length ≤ 524288) (hs : clauseP a 700 = true → clauseP b 700 = true → (∀ y ∈ resL a b x, Lit7 y) → Tot (fun k => slices_SortFunc_int_int_at_impl_clauseOf_1.f k (resL a b x)) (fun r => r.Perm (resL a b x) ∧ OkL r)) : Ev (fun k => impl_Resolved.f k a b x) (resR a b x) := by
  have h1 := impl_ClauseValid_ev a (atoms := 700) (by omega) (by omega)
  have h2 := impl_ClauseValid_ev b (atoms := 700) (by omega) (by omega)
  unfold impl_Resolved.f resR
  refine ev_bind h1 ?_
  by_cases c1 : clauseP a 700 = true
  · refine ev_pos c1 (ev_bind h2 ?_)
    by_cases c2 : clauseP b 700 = true
    · refine ev_pos c2 ?_
      by_cases c3 : x ≤ 0
      · exact ev_pos c3 (ev_eq (ev_ret _) (by rw [if_neg]; intro h; omega))
      · refine ev_neg c3 (ev_bind (has_ev a x (by omega)) ?_)
        by_cases c4 : x ∈ a
        · have hx := litOk_in (clauseP_lit c1 x c4)
          rw [wrap_in (x := -x) (by omega) (by omega)]
          refine ev_pos (by simpa using c4) (ev_bind (has_ev b (-x) (by omega)) ?_)
          by_cases c5 : -x ∈ b
          · rw [if_pos ⟨c1, c2, by omega, c4, c5⟩]
            refine ev_pos (by simpa using c5) ?_
            have l1 := List.length_filter_le (fun y => decide (y ≠ x)) a
            have l2 := List.length_filter_le (fun y => decide (y ≠ -x)) b
            have hlit := resL_lit (x := x) c1 c2
            have hc := impl_clauseOf_ev (l := resL a b x) (atoms := 700) (by omega) hlit (by unfold resL; simp only [List.length_append]; omega) (hs c1 c2 fun y hy => by have := litOk_in (hlit y hy); unfold Lit7; omega)
            have keyb : ∀ d n : Nat, b.length - n = d → n ≤ b.length → ∀ s : List Int, s.length ≤ 524288 + n → s ++ ((b.drop n).filter fun y => decide (y ≠ -x)) = resL a b x → Ev (fun k => impl_Resolved.l2 k s (n : Int) b x) (clauseR (resL a b x) 700) := by
              intro d
              induction d with
              | zero =>
                intro n g1 g2 s g3 g4
                have : n = b.length := by omega
                subst this
                simp only [List.drop_length, List.filter_nil, List.append_nil] at g4
                subst g4
                exact Ev.step (fun k => by rw [impl_Resolved.l2]) (ev_neg (by omega) (ev_bind hc (ev_ret _)))
              | succ d ih =>
                intro n g1 g2 s g3 g4
                have hn : n < b.length := by omega
                rw [List.drop_eq_getElem_cons hn] at g4
                refine Ev.step (fun k => by rw [impl_Resolved.l2, rd_at hn, wrap_nat hn (by omega), wrap_in (x := -x) (by omega) (by omega)]) ?_
                refine ev_pos (by omega) (ev_pos (by omega) (ev_pos (by omega) ?_))
                by_cases e : b[n] ≠ -x
                · rw [List.filter_cons_of_pos (by simpa using e)] at g4
                  exact ev_pos e (ev_pos (by omega) (ih (n + 1) (by omega) (by omega) (s ++ [b[n]]) (by simp; omega) (by rw [← g4]; simp)))
                · rw [List.filter_cons_of_neg (by simpa using e)] at g4
                  exact ev_neg e (ih (n + 1) (by omega) (by omega) s (by omega) g4)
            have keya : ∀ d n : Nat, a.length - n = d → n ≤ a.length → ∀ s : List Int, s.length ≤ n → s ++ ((a.drop n).filter fun y => decide (y ≠ x)) = (a.filter fun y => decide (y ≠ x)) → Ev (fun k => impl_Resolved.l1 k s (n : Int) a b x) (clauseR (resL a b x) 700) := by
              intro d
              induction d with
              | zero =>
                intro n g1 g2 s g3 g4
                have : n = a.length := by omega
                subst this
                simp only [List.drop_length, List.filter_nil, List.append_nil] at g4
                refine Ev.step (fun k => by rw [impl_Resolved.l1]) ?_
                exact ev_neg (by omega) (keyb b.length 0 rfl (by omega) s (by omega) (by rw [g4]; rfl))
              | succ d ih =>
                intro n g1 g2 s g3 g4
                have hn : n < a.length := by omega
                rw [List.drop_eq_getElem_cons hn] at g4
                refine Ev.step (fun k => by rw [impl_Resolved.l1, rd_at hn, wrap_nat hn (by omega)]) ?_
                refine ev_pos (by omega) (ev_pos (by omega) (ev_pos (by omega) ?_))
                by_cases e : a[n] ≠ x
                · rw [List.filter_cons_of_pos (by simpa using e)] at g4
                  exact ev_pos e (ev_pos (by omega) (ih (n + 1) (by omega) (by omega) (s ++ [a[n]]) (by simp; omega) (by rw [← g4]; simp)))
                · rw [List.filter_cons_of_neg (by simpa using e)] at g4
                  exact ev_neg e (ih (n + 1) (by omega) (by omega) s (by omega) g4)
            exact keya a.length 0 rfl (by omega) [] (by simp) (by simp)
          · exact ev_neg (by simpa using c5) (ev_eq (ev_ret _) (by rw [if_neg (fun h => c5 h.2.2.2.2)]))
        · exact ev_neg (by simpa using c4) (ev_eq (ev_ret _) (by rw [if_neg (fun h => c4 h.2.2.2.1)]))
    · exact ev_neg c2 (ev_eq (ev_ret _) (by rw [if_neg (fun h => c2 h.2.1)]))
  · exact ev_neg c1 (ev_eq (ev_ret _) (by rw [if_neg (fun h => c1 h.1)]))
end Go.Proofs.Ytaajnneigmgikaa.PA
end
section
set_option linter.unusedVariables false
set_option linter.unusedSimpArgs false
namespace Go.Proofs.Ytaajnneigmgikaa.PA
open Go.RowKit Go.Proofs.YtaajnneigmgikaaW.PrintWords
theorem mix_in {u v p d : Int} (hu : 0 ≤ u ∧ u < 256) (hv : 0 ≤ v ∧ v < 256) (hp : 0 ≤ p ∧ p ≤ 1000000000000) (hd : 0 ≤ d ∧ d ≤ p) :
    wrap64 (wrap64 (wrap64 (wrap64 (wrap64 u * 131) + wrap64 (wrap64 v * 1117)) + wrap64 (p * 29)) + wrap64 (wrap64 d * 53)) = u * 131 + v * 1117 + p * 29 + d * 53 := by
  rw [wrap_in (x := u) (by omega) (by omega), wrap_in (x := v) (by omega) (by omega), wrap_in (x := d) (by omega) (by omega), wrap_in (x := u * 131) (by omega) (by omega), wrap_in (x := v * 1117) (by omega) (by omega), wrap_in (x := p * 29) (by omega) (by omega),
    wrap_in (x := d * 53) (by omega) (by omega), wrap_in (x := u * 131 + v * 1117) (by omega) (by omega), wrap_in (x := u * 131 + v * 1117 + p * 29) (by omega) (by omega), wrap_in (by omega) (by omega)]
def PickQ (p n : Int) (r : Int × Int) : Prop := r.1 = p + 1 ∧ 0 ≤ r.2 ∧ (1 ≤ n → r.2 < n) ∧ (n < 1 → r.2 = 0)
theorem pick_tot {b : List Int} (hb : ByteL b) {p : Int} (h0 : 0 ≤ p) (h1 : p ≤ 1000000000000) (n : Int) : Tot (fun k => spec_l40Rd_pick.f k b p n) (PickQ p n) := by
  unfold spec_l40Rd_pick.f
  have w1 : wrap64 (p + 1) = p + 1 := wrap_in (by omega) (by omega)
  have w2 : wrap64 (p + 1 - 1) = p := by rw [wrap_in (by omega) (by omega)]; omega
  simp only [w1, w2]
  refine tot_ite (fun h => tot_ret ⟨rfl, Int.le_refl _, fun _ => by omega, fun _ => rfl⟩) fun h => tot_ite (fun h2 => tot_ret ⟨rfl, Int.le_refl _, fun _ => by show (0 : Int) < n; omega, fun _ => rfl⟩) fun h2 => tot_ite (fun h3 => ?_) fun h3 => ?_
  · refine tot_pos h0 (tot_pos h3 (tot_pos (by omega) (tot_ret ?_)))
    have hr := byte_at hb h0 h3
    rw [wrap_in (x := rd b p) (by omega) (by omega)]
    have := tmod_in (x := rd b p) (n := n) hr.1 (by omega)
    exact ⟨rfl, this.1, fun _ => this.2, fun h => by omega⟩
  · have w3 : wrap64 (wrap64 (p * 7) + 3) = p * 7 + 3 := by rw [wrap_in (x := p * 7) (by omega) (by omega), wrap_in (by omega) (by omega)]
    simp only [w3]
    have m1 := tmod_in (x := p) (n := (b.length : Int)) h0 (by omega)
    have m2 := tmod_in (x := p * 7 + 3) (n := (b.length : Int)) (by omega) (by omega)
    refine tot_pos h2 (tot_pos m1.1 (tot_pos m1.2 (tot_pos h2 (tot_pos m2.1 (tot_pos m2.2 (tot_pos h2 (tot_pos (by omega) (tot_ret ?_))))))))
    have d1 : 0 ≤ Int.tdiv p (b.length : Int) := Int.tdiv_nonneg h0 (by omega)
    have d2 : Int.tdiv p (b.length : Int) ≤ p := by rw [Int.tdiv_eq_ediv_of_nonneg h0]; exact Int.ediv_le_self _ h0
    have r1 := byte_at hb m1.1 m1.2
    have r2 := byte_at hb m2.1 m2.2
    rw [mix_in r1 r2 ⟨h0, h1⟩ ⟨d1, d2⟩]
    generalize hX : rd b (Int.tmod p (b.length : Int)) * 131 + rd b (Int.tmod (p * 7 + 3) (b.length : Int)) * 1117 + p * 29 + Int.tdiv p (b.length : Int) * 53 = X
    have x0 : 0 ≤ X ∧ X ≤ 1000000000000000 := by omega
    have e1 : 0 ≤ Int.tdiv X 64 := Int.tdiv_nonneg x0.1 (by omega)
    have e2 : Int.tdiv X 64 ≤ X := by rw [Int.tdiv_eq_ediv_of_nonneg x0.1]; exact Int.ediv_le_self _ x0.1
    rw [wrap_in (x := Int.tdiv X 64) (by omega) (by omega)]
    obtain ⟨m, hm, _⟩ := xor_nat X (Int.tdiv X 64) x0.1 e1 (by omega) (by omega)
    rw [hm]
    have := tmod_in (x := (m : Int)) (n := n) (by omega) (by omega)
    exact ⟨rfl, this.1, fun _ => this.2, fun h => by omega⟩
theorem rd_mem {l : List Int} {i : Int} (h0 : 0 ≤ i) (h1 : i < (l.length : Int)) : rd l i ∈ l := by
  have : l[i.toNat]? = some l[i.toNat] := List.getElem?_eq_getElem (by omega)
  have e : rd l i = l[i.toNat] := by
    show l.getD i.toNat _ = _
    simp [List.getD_eq_getElem?_getD, this]
  rw [e]
  exact List.getElem_mem _
theorem num_tot {b : List Int} (hb : ByteL b) {p : Int} (h0 : 0 ≤ p) (h1 : p ≤ 1000000000000) (l : List Int) (hl : l ≠ []) : Tot (fun k => spec_l40Rd_num.f k b p l) (fun r => r.1 = p + 1 ∧ r.2 ∈ l) := by
  unfold spec_l40Rd_num.f
  have hn : 0 < l.length := List.length_pos_iff.2 hl
  refine tot_bind (pick_tot hb h0 h1 _) fun r q => ?_
  obtain ⟨q1, q2, q3, _⟩ := q
  have q3 := q3 (by omega)
  exact tot_pos q2 (tot_pos q3 (tot_ret ⟨q1, rd_mem q2 q3⟩))
section
variable {b : List Int} (hb : ByteL b) {vars kind : Int} (hv : 0 ≤ vars ∧ vars ≤ 5)
include hb in
include hb hv in
include hb hv in
end
end Go.Proofs.Ytaajnneigmgikaa.PA
end
section
set_option linter.unusedVariables false
set_option linter.unusedSimpArgs false
namespace Go.Proofs.Ytaajnneigmgikaa.PA
open Go.RowKit Go.Proofs.YtaajnneigmgikaaW.PrintWords
section
variable {b : List Int} (hb : ByteL b)
include hb
omit hb in
omit hb in
omit hb in
end
theorem l40Open_tot {l : List Int} (h : ∀ x ∈ l, 0 ≤ x ∧ x < 256) : Tot (fun k => spec_l40Open.f k l) (fun r => ByteL r.1 ∧ r.2 = 0) := by
  unfold spec_l40Open.f
  refine tot_ite (fun h1 => tot_pos (by omega) (tot_ret ⟨⟨by rw [List.length_take]; omega, fun x hx => h x (List.mem_of_mem_take hx)⟩, rfl⟩)) fun h1 => tot_ret ⟨⟨by show l.length ≤ 2000; omega, h⟩, rfl⟩
theorem bytes_in {l : List Int} (h : l.length ≤ 9223372036854775807 ∧ ∀ x ∈ l, (Lit.int .u8 x).wf = true) : ∀ x ∈ l, 0 ≤ x ∧ x < 256 := fun x hx => by
  have := h.2 x hx
  have e1 : Go.IntKind.u8.min = 0 := by decide
  have e2 : Go.IntKind.u8.max = 255 := by decide
  simp [Lit.wf] at this
  omega
end Go.Proofs.Ytaajnneigmgikaa.PA
end
section
set_option linter.unusedVariables false
set_option linter.unusedSimpArgs false
namespace Go.Proofs.Ytaajnneigmgikaa.PA
open Go.RowKit Go.Proofs.YtaajnneigmgikaaW.PrintWords
theorem laws_wcInts_ev (a b : List Int) (h : a.length ≤ 1099511627776) : Ev (fun k => laws_wcInts.f k a b) (decide (a = b)) := by
  unfold laws_wcInts.f
  by_cases e : a.length = b.length
  · refine ev_pos (by omega) ?_
    have key : ∀ d n : Nat, a.length - n = d → n ≤ a.length → Ev (fun k => laws_wcInts.l0 k b a (a.length : Int) (n : Int)) (decide (a.drop n = b.drop n)) := by
      intro d
      induction d with
      | zero =>
        intro n g1 g2
        refine Ev.step (fun k => by rw [laws_wcInts.l0]) (ev_neg (by omega) (ev_eq (ev_ret _) ?_))
        rw [List.drop_eq_nil_of_le (by omega), List.drop_eq_nil_of_le (by omega)]
        rfl
      | succ d ih =>
        intro n g1 g2
        have hn : n < a.length := by omega
        have hm : n < b.length := by omega
        refine Ev.step (fun k => by rw [laws_wcInts.l0]) (ev_pos (by omega) (ev_pos (by omega) (ev_pos (by omega) (ev_pos (by omega) ?_))))
        rw [show rd b (n : Int) = b[n] from getD_of (List.getElem?_eq_getElem hm), show rd a (n : Int) = a[n] from getD_of (List.getElem?_eq_getElem hn), List.drop_eq_getElem_cons hn, List.drop_eq_getElem_cons hm, wrap_nat (n := n) (m := a.length) hn (by omega)]
        by_cases q : b[n] = a[n]
        · exact ev_pos q (ev_eq (ih (n + 1) (by omega) (by omega)) (by simp only [List.cons.injEq, q, true_and]))
        · exact ev_neg q (ev_eq (ev_ret _) (by simp only [List.cons.injEq]; rw [eq_comm, decide_eq_false_iff_not]; exact fun h => q h.1.symm))
    simpa using key a.length 0 (by omega) (by omega)
  · refine ev_neg (by omega) (ev_eq (ev_ret _) ?_)
    rw [eq_comm, decide_eq_false_iff_not]
    exact fun h => e (congrArg List.length h)
end Go.Proofs.Ytaajnneigmgikaa.PA
end
section
namespace Go.Proofs.Ytaajnneigmgikaa.PA
open Go.RowKit Go.Proofs.YtaajnneigmgikaaW.PrintWords
def laws_FnResolved.PureS : Prop := ∀ (l0 : List Int), (l0.length ≤ 9223372036854775807 ∧ ∀ x0 ∈ l0, (Lit.int .u8 x0).wf = true) → ∃ k, laws_FnResolved.f k l0 = some true
end Go.Proofs.Ytaajnneigmgikaa.PA
end
section
set_option linter.unusedVariables false
set_option linter.unusedSimpArgs false
namespace Go.Proofs.Ytaajnneigmgikaa.PA
open Go.RowKit Go.Proofs.YtaajnneigmgikaaW.PrintWords
theorem coll_len (p : List Int) : ∀ n, (coll p n).length ≤ n
  | 0 => Nat.le_refl _
  | n + 1 => by
    have := coll_len p n
    unfold coll
    split <;> simp <;> omega
theorem clauseR_small {l : List Int} {m : Nat} (hx : ∀ x ∈ l, litOk (m : Int) x = true) : (clauseR l m).1.length ≤ m ∧ ∀ x ∈ (clauseR l m).1, litOk (m : Int) x = true := by
  unfold clauseR
  by_cases c : NoC l
  · rw [if_pos c]
    refine ⟨coll_len l m, fun x h => hx x ?_⟩
    exact ((coll_mem (fun x h => (litOk_in (hx x h)).1) c m x).1 h).1
  · rw [if_neg c]
    exact ⟨by simp, fun x h => by cases h⟩
theorem l11Lits_tot {b : List Int} (hb : ByteL b) {p : Int} (h0 : 0 ≤ p) (h1 : p ≤ 1000000) (m : Nat) (hm : 1 ≤ m ∧ m ≤ 5) (c : Int) (hc : 0 ≤ c ∧ c ≤ 3) :
    Tot (fun k => spec_l11Lits.f k b p (m : Int) c) (fun r => (p ≤ r.1 ∧ r.1 ≤ p + 6) ∧ r.2.length ≤ 5 ∧ ∀ x ∈ r.2, litOk (m : Int) x = true) := by
  unfold spec_l11Lits.f
  obtain ⟨n, rfl⟩ : ∃ n : Nat, c = (n : Int) := ⟨c.toNat, by omega⟩
  have key : ∀ (d : Nat) (i : Nat) (q : Int) (x : List Int), n - i = d → i ≤ n → p ≤ q → q ≤ p + 2 * i → x.length ≤ i → (∀ y ∈ x, litOk (m : Int) y = true) →
      Tot (fun k => spec_l11Lits.l1 k q x (i : Int) b (m : Int) (n : Int)) (fun r => (p ≤ r.1 ∧ r.1 ≤ p + 6) ∧ r.2.length ≤ 5 ∧ ∀ x ∈ r.2, litOk (m : Int) x = true) := by
    intro d
    induction d with
    | zero =>
      intro i q x g1 g2 g3 g4 g5 g6
      refine tot_step (fun k => by rw [spec_l11Lits.l1]) (tot_neg (by omega) ?_)
      refine tot_bind (tot_ev (Q := fun r => r = clauseR x m) (spec_l11Clause_ev (by omega) (by omega) g6) rfl) fun r hr => tot_ret ?_
      subst hr
      obtain ⟨e1, e2⟩ := clauseR_small g6
      refine ⟨⟨?_, ?_⟩, ?_, e2⟩
      · show p ≤ q; omega
      · show q ≤ p + 6; omega
      · show (clauseR x m).1.length ≤ 5; omega
    | succ d ih =>
      intro i q x g1 g2 g3 g4 g5 g6
      refine tot_step (fun k => by rw [spec_l11Lits.l1]) (tot_pos (by omega) (tot_pos (by omega) ?_))
      refine tot_bind (pick_tot hb (by omega) (by omega) (m : Int)) fun r1 q1 => tot_bind (pick_tot hb (by rw [q1.1]; omega) (by rw [q1.1]; omega) 2) fun r2 q2 => ?_
      have a1 := q1.1
      have a2 := q2.1
      have a3 := q1.2.1
      have a4 := q1.2.2.1 (by omega)
      have hj : ∀ y : Int, litOk (m : Int) y = true → Tot (fun k => spec_l11Lits.j2 k y b (m : Int) (n : Int) x (i : Int) r2) (fun r => (p ≤ r.1 ∧ r.1 ≤ p + 6) ∧ r.2.length ≤ 5 ∧ ∀ x ∈ r.2, litOk (m : Int) x = true) := fun y hy => by
        refine tot_step (fun k => by rw [spec_l11Lits.j2, wrap_nat (n := i) (m := n) (by omega) (by omega)]) ?_
        refine tot_bind (tot_ev (Q := fun _ => True) (spec_l2Has_of x _ (by omega)) trivial) fun t _ => tot_ite (fun _ => ?_) fun _ => tot_pos (by omega) ?_
        · exact ih (i + 1) _ x (by omega) (by omega) (by omega) (by omega) (by omega) g6
        · refine ih (i + 1) _ _ (by omega) (by omega) (by omega) (by omega) (by simp; omega) fun z hz => ?_
          rcases List.mem_append.1 hz with hz | hz
          · exact g6 z hz
          · obtain rfl := List.mem_singleton.1 hz
            exact hy
      have hlit : ∀ y : Int, y ≠ 0 → -(m : Int) ≤ y → y ≤ (m : Int) → litOk (m : Int) y = true := fun y e1 e2 e3 => by
        unfold litOk
        rw [decide_eq_true e1, Bool.true_and, inR_iff]
        exact ⟨e2, e3⟩
      rw [wrap_in (x := 1 + r1.2) (by omega) (by omega), wrap_in (x := -(1 + r1.2)) (by omega) (by omega)]
      exact tot_ite (fun _ => hj _ (hlit _ (by omega) (by omega) (by omega))) fun _ => hj _ (hlit _ (by omega) (by omega) (by omega))
  exact key n 0 p [] rfl (by omega) (by omega) (by omega) (by simp) (fun y hy => by cases hy)
def ResQ (r : List Int × List Int × Int) : Prop := r.1.length ≤ 5 ∧ r.2.1.length ≤ 5 ∧ (((∀ x ∈ r.1, litOk 6 x = true) ∧ ∀ x ∈ r.2.1, litOk 6 x = true) ∨ clauseP r.1 700 = false)
theorem lit_up {m : Nat} (hm : m ≤ 5) {x : Int} (h : litOk (m : Int) x = true) : litOk 6 x = true := by
  have := litOk_in h
  unfold litOk
  rw [decide_eq_true this.1, Bool.true_and, inR_iff]
  omega
theorem drawResolved_tot {l : List Int} (h : ∀ x ∈ l, 0 ≤ x ∧ x < 256) : Tot (fun k => spec_DrawResolved.f k l) ResQ := by
  unfold spec_DrawResolved.f
  refine tot_bind (l40Open_tot h) fun r1 q1 => ?_
  obtain ⟨hb, e1⟩ := q1
  refine tot_bind (num_tot hb (by omega) (by omega) _ (by simp)) fun r2 q2 => tot_bind (num_tot hb (by rw [q2.1]; omega) (by rw [q2.1]; omega) _ (by simp)) fun r3 q3 => ?_
  have b1 := q2.1
  have b2 := q2.2
  have b3 := q3.1
  have b4 := q3.2
  simp only [List.mem_cons, List.not_mem_nil, or_false] at b2 b4
  obtain ⟨m, hm⟩ : ∃ m : Nat, r2.2 = (m : Int) := ⟨r2.2.toNat, by omega⟩
  rw [hm]
  refine tot_bind (l11Lits_tot hb (by omega) (by omega) m (by omega) r3.2 (by omega)) fun r4 q4 => ?_
  obtain ⟨⟨c1, c2⟩, c3, c4⟩ := q4
  refine tot_bind (num_tot hb (by omega) (by omega) _ (by simp)) fun r5 q5 => ?_
  have b5 := q5.1
  have b6 := q5.2
  simp only [List.mem_cons, List.not_mem_nil, or_false] at b6
  refine tot_bind (l11Lits_tot hb (by omega) (by omega) m (by omega) r5.2 (by omega)) fun r6 q6 => ?_
  obtain ⟨⟨d1, d2⟩, d3, d4⟩ := q6
  have hQ : ∀ x, ResQ (r4.2, r6.2, x) := fun x => ⟨c3, d3, .inl ⟨fun y hy => lit_up (by omega) (c4 y hy), fun y hy => lit_up (by omega) (d4 y hy)⟩⟩
  have hend : Tot (fun k => (spec_l40Rd_pick.f k r1.1 r6.1 12).bind fun r8 => if r8.2 = 0 then (some (([1, 701], [(-1)], 1) : List Int × List Int × Int)) else ((spec_l40Rd_pick.f k r1.1 r8.1 r2.2).bind fun r9 => some (r4.2, r6.2, (wrap64 (1 + r9.2))))) ResQ := by
    refine tot_bind (pick_tot hb (by omega) (by omega) 12) fun r8 q8 => ?_
    have b8 := q8.1
    refine tot_ite (fun _ => tot_ret ⟨by simp, by simp, .inr (by decide +kernel)⟩) fun _ => ?_
    exact tot_bind (pick_tot hb (by omega) (by omega) _) fun r9 _ => tot_ret (hQ _)
  have key : ∀ d n : Nat, r4.2.length - n = d → n ≤ r4.2.length → Tot (fun k => spec_DrawResolved.l1 k (n : Int) r1 r2 r4 r6) ResQ := by
    intro d
    induction d with
    | zero =>
      intro n g1 g2
      exact tot_step (fun k => by rw [spec_DrawResolved.l1]) (tot_neg (by omega) hend)
    | succ d ih =>
      intro n g1 g2
      have hn : n < r4.2.length := by omega
      refine tot_step (fun k => by rw [spec_DrawResolved.l1, wrap_nat hn (by omega)]) ?_
      refine tot_pos (by omega) (tot_pos (by omega) (tot_pos (by omega) (tot_ite (fun _ => tot_pos (by omega) (tot_pos (by omega) ?_)) fun _ => ih (n + 1) (by omega) (by omega))))
      refine tot_bind (tot_ev (Q := fun _ => True) (spec_l2Has_of r6.2 _ (by omega)) trivial) fun t _ => tot_ite (fun _ => tot_pos (by omega) (tot_pos (by omega) (tot_ret (hQ _)))) fun _ => ih (n + 1) (by omega) (by omega)
  have := key r4.2.length 0 rfl (by omega)
  rw [hm] at *
  exact this
theorem impl_TrueIn_ev {atoms : Int} {list : List (List Int)} {bits : List Int} (hl : list.length ≤ 1048576) (hx : ∀ c ∈ list, c.length ≤ 1048576) (hb : (bits.length : Int) = atoms) (hbb : areBits bits = true) : Ev (fun k => impl_TrueIn.f k atoms list bits) (clausesP atoms list && trueP list bits) := by
  have hV := impl_ClausesValid_ev atoms list (by omega) (fun c hc => by have := hx c hc; omega)
  have hA := impl_bitsValid_ev bits
  unfold impl_TrueIn.f
  refine ev_bind hV ?_
  by_cases c : clausesP atoms list = true
  · obtain ⟨ha, h2, h3⟩ := clausesP_and c
    have hA := hA (by omega)
    rw [hbb] at hA
    rw [c, Bool.true_and]
    exact ev_pos rfl (ev_pos hb (ev_bind hA (ev_pos rfl (ev_bind (impl_trueIn_ev ha.2 hl hx h3 hb) (ev_ret _)))))
  · rw [Bool.not_eq_true] at c
    rw [c]
    exact ev_neg (by simp) (ev_ret _)
def bits6 (v : Int) : List Int := [(Int.tmod v 2), (Int.tmod (wrap64 (Int.tdiv v 2)) 2), (Int.tmod (wrap64 (Int.tdiv v 4)) 2), (Int.tmod (wrap64 (Int.tdiv v 8)) 2), (Int.tmod (wrap64 (Int.tdiv v 16)) 2), (wrap64 (Int.tdiv v 32))]
theorem bits6_ok {v : Nat} (h : v < 64) : areBits (bits6 (v : Int)) = true := by
  have : ∀ w : Fin 64, areBits (bits6 (w.val : Int)) = true := by
    intro w
    have hw := w.isLt
    generalize w.val = n at hw
    have t : ∀ m : Nat, 0 < m → Int.tdiv (n : Int) (m : Int) = ((n / m : Nat) : Int) := fun m hm => by rw [Int.tdiv_eq_ediv_of_nonneg (by omega)]; rfl
    have q : ∀ k : Nat, Int.tmod (k : Int) 2 = ((k % 2 : Nat) : Int) := fun k => by rw [Int.tmod_eq_emod_of_nonneg (by omega)]; rfl
    have w : ∀ k : Nat, k < 64 → wrap64 (k : Int) = (k : Int) := fun k hk => wrap_in (by omega) (by omega)
    unfold bits6 areBits
    rw [show (2 : Int) = ((2 : Nat) : Int) from rfl, show (4 : Int) = ((4 : Nat) : Int) from rfl, show (8 : Int) = ((8 : Nat) : Int) from rfl, show (16 : Int) = ((16 : Nat) : Int) from rfl, show (32 : Int) = ((32 : Nat) : Int) from rfl,
      t 2 (by omega), t 4 (by omega), t 8 (by omega), t 16 (by omega), t 32 (by omega), w _ (by omega), w _ (by omega), w _ (by omega), w _ (by omega), w _ (by omega)]
    rw [show ((2 : Nat) : Int) = 2 from rfl, q, q, q, q, q]
    simp only [List.all_cons, List.all_nil, Bool.and_eq_true, Bool.and_true, inR_iff]
    omega
  exact this ⟨v, h⟩
theorem litP_neg {bits : List Int} {x : Int} (h0 : x ≠ 0) (h : litP bits x = true) : litP bits (-x) = false := by
  unfold litP at h ⊢
  rw [decide_eq_true_eq] at h
  rw [decide_eq_false_iff_not]
  have e : absP (-x) = absP x := by unfold absP; split <;> split <;> omega
  rw [e, h]
  split <;> split <;> omega
theorem res_true {a b : List Int} {x : Int} {bits : List Int} (h0 : x ≠ 0) (ha : a.any (litP bits) = true) (hb : b.any (litP bits) = true) : (resL a b x).any (litP bits) = true := by
  rw [List.any_eq_true] at *
  obtain ⟨y, hy, ty⟩ := ha
  obtain ⟨z, hz, tz⟩ := hb
  by_cases e : y = x
  · have hzn : z ≠ -x := by
      intro h
      subst e
      have := litP_neg h0 ty
      rw [← h, tz] at this
      cases this
    exact ⟨z, List.mem_append.2 (.inr (List.mem_filter.2 ⟨hz, by simpa using hzn⟩)), tz⟩
  · exact ⟨y, List.mem_append.2 (.inl (List.mem_filter.2 ⟨hy, by simpa using e⟩)), ty⟩
theorem FnResolved_pure : laws_FnResolved.PureS := by
  intro l hl
  suffices h : Ev (fun k => laws_FnResolved.f k l) true from h.rounds
  unfold laws_FnResolved.f
  refine ev_ite (fun _ => ev_ret _) fun _ => ?_
  obtain ⟨⟨a, b, x⟩, hd, hq⟩ := drawResolved_tot (bytes_in hl)
  obtain ⟨la, lb, hq⟩ := hq
  dsimp only at la lb hq
  have l1 := List.length_filter_le (fun y => decide (y ≠ x)) a
  have l2 := List.length_filter_le (fun y => decide (y ≠ -x)) b
  have hll : (resL a b x).length ≤ 10 := by unfold resL; simp only [List.length_append]; omega
  have hi := impl_Resolved_ev a b x (by omega) (by omega) (fun _ _ h7 => sortFunc_tot _ h7 (by omega))
  have hs := spec_Resolved_ev a b x (by omega) (by omega)
  have hfact : ((resR a b x).2 = true ∧ clauseP a 700 = true ∧ clauseP b 700 = true ∧ x ≠ 0 ∧ (∀ y, y ∈ (resR a b x).1 ↔ y ∈ resL a b x) ∧ (resR a b x).1.Pairwise (fun x y => absP x < absP y)) ∨ resR a b x = ([], false) := by
    unfold resR
    by_cases c : clauseP a 700 = true ∧ clauseP b 700 = true ∧ 1 ≤ x ∧ x ∈ a ∧ -x ∈ b
    · rw [if_pos c]
      have hlit := resL_lit (x := x) c.1 c.2.1
      unfold clauseR
      by_cases n : NoC (resL a b x)
      · rw [if_pos n]
        have h0 : ∀ y ∈ resL a b x, y ≠ 0 := fun y h => (litOk_in (hlit y h)).1
        refine .inl ⟨rfl, c.1, c.2.1, by omega, fun y => ?_, coll_sorted h0 n _⟩
        rw [coll_mem h0 n]
        exact ⟨fun h => h.1, fun h => ⟨h, by have := litOk_in (hlit y h); have := abs_le (n := y); omega⟩⟩
      · rw [if_neg n]; exact .inr rfl
    · rw [if_neg c]; exact .inr rfl
  have hcl : (resR a b x).1.length ≤ 1048576 := by
    unfold resR clauseR
    split
    · split
      · have := coll_len (resL a b x) 700
        show (coll (resL a b x) 700).length ≤ _
        omega
      · simp
    · simp
  generalize resR a b x = R at *
  obtain ⟨C, ok⟩ := R
  dsimp only at hfact hcl
  have hwc := laws_wcInts_ev C C (by omega)
  rw [decide_eq_true rfl] at hwc
  refine ev_bind hd (ev_bind hi (ev_bind hs (ev_neg (by simp) (ev_bind hwc (ev_pos rfl ?_)))))
  rcases hfact with ⟨rfl, pa, pb, x0, hm, hsrt⟩ | e
  · refine ev_pos rfl ?_
    have h6 : (∀ y ∈ a, litOk 6 y = true) ∧ ∀ y ∈ b, litOk 6 y = true := by
      rcases hq with h | h
      · exact h
      · rw [pa] at h; cases h
    have hC6 : ∀ y ∈ C, litOk 6 y = true := fun y hy => by
      have := (hm y).1 hy
      unfold resL at this
      rcases List.mem_append.1 this with h | h
      · exact h6.1 y (List.mem_filter.1 h).1
      · exact h6.2 y (List.mem_filter.1 h).1
    have hP := clauseP_sorted hsrt hC6
    have hv := impl_ClauseValid_ev C (atoms := 6) (by omega) (by omega)
    rw [hP] at hv
    have key : ∀ d n : Nat, 64 - n = d → n ≤ 64 → Ev (fun k => laws_FnResolved.l2 k (n : Int) (a, b, x) (C, true)) true := by
      intro d
      induction d with
      | zero =>
        intro n g1 g2
        exact Ev.step (fun k => by rw [laws_FnResolved.l2]) (ev_neg (by omega) (ev_bind hv (ev_ret _)))
      | succ d ih =>
        intro n g1 g2
        have hn : n < 64 := by omega
        have hb6 := bits6_ok hn
        have t1 := impl_TrueIn_ev (atoms := 6) (list := [a, b]) (bits := bits6 (n : Int)) (by simp) (fun c hc => by simp at hc; rcases hc with rfl | rfl <;> omega) rfl hb6
        have t2 := impl_TrueIn_ev (atoms := 6) (list := [C]) (bits := bits6 (n : Int)) (by simp) (fun c hc => by simp at hc; subst hc; omega) rfl hb6
        have ih := ih (n + 1) (by omega) (by omega)
        refine Ev.step (fun k => by rw [laws_FnResolved.l2, wrap_nat hn (by omega)]) ?_
        refine ev_pos (by omega) (ev_bind t1 ?_)
        by_cases c : (clausesP 6 [a, b] && trueP [a, b] (bits6 (n : Int))) = true
        · refine ev_pos c (ev_bind t2 ?_)
          have e2 : (clausesP 6 [C] && trueP [C] (bits6 (n : Int))) = true := by
            rw [Bool.and_eq_true] at c ⊢
            obtain ⟨_, c2⟩ := c
            refine ⟨?_, ?_⟩
            · unfold clausesP
              rw [inR_iff.2 (by omega)]
              simp [hP]
            · unfold trueP at c2 ⊢
              simp only [List.all_cons, List.all_nil, Bool.and_true, Bool.and_eq_true] at c2 ⊢
              have := res_true x0 c2.1 c2.2
              rw [List.any_eq_true] at this ⊢
              obtain ⟨y, hy, ty⟩ := this
              exact ⟨y, (hm y).2 hy, ty⟩
          exact ev_pos e2 ih
        · exact ev_neg c ih
    exact key 64 0 rfl (by omega)
  · obtain ⟨rfl, rfl⟩ := Prod.mk.inj e
    have v1 := impl_ClauseValid_ev a (atoms := 700) (by omega) (by omega)
    have v2 := spec_ClauseValid_ev a (atoms := 700) (by omega) (by omega)
    refine ev_neg (by simp) (ev_pos rfl (ev_pos rfl (ev_bind v1 (ev_bind v2 ?_))))
    refine Ev.step (fun k => by rw [laws_FnResolved.j3]) (ev_eq (ev_ret _) ?_)
    simp
end Go.Proofs.Ytaajnneigmgikaa.PA
namespace Go.Proofs.Ytaajnneigmgikaa.Pure
theorem FnResolved : Go.Proofs.Ytaajnneigmgikaa.PA.laws_FnResolved.PureS := Go.Proofs.Ytaajnneigmgikaa.PA.FnResolved_pure
end Go.Proofs.Ytaajnneigmgikaa.Pure
end
