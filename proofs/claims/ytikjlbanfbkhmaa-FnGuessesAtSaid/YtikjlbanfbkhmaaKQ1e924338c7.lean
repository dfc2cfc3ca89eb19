/- The plain side: what the Lean functions compute, without Go and memory; each theorem under the conditions that it names. -/
import Derived.Test.YtikjlbanfbkhmaaProg
import Derived.Below
import Derived.Deep.Draws
import Derived.Deep.AppendLies
import Derived.Maps.AppendAt
import Derived.OwnWalk
import Derived.Laws.BytesArg
import Derived.Laws.MakeOwn
import Derived.Laws.OwnMore
import Derived.Deep.OwnRows
import Derived.Tactics
import Derived.Lib.ConvBytes
import Derived.Laws.Slices
import Derived.WalkKit
import Derived.KernelRfl
import Derived.RowKit3
import Derived.Deep.LoopGhost
import Derived.Deep.QuietTactic
import Derived.BigQuiet
import Derived.WideLaws
import Derived.Deep.DeepCutAuto
import Derived.Deep.CutBlock
import Derived.Deep.RegionHeld3
import Derived.Laws.Rows
import Derived.Lib.AppendStr
import Derived.ArgAppend
import Derived.Laws.IdiomCopy
import Derived.OrdersHeld
import Derived.Laws.BitsLemmas
import Derived.RowKit
import Derived.Laws.StructEq
import Derived.Lib.SliceRun
import Derived.WalkSpells
import Derived.ChangeArms
import Derived.ChangeSlices
import Derived.Deep.Slices
import Derived.Test.YtikjlbanfbkhmaaKD7b8a93b072
section
set_option linter.unusedVariables false
set_option linter.unusedSimpArgs false
namespace Go.Proofs.Ytikjlbanfbkhmaa.PA
open Go.RowKit Go.Proofs.YtikjlbanfbkhmaaW.PrintWords
theorem ev_ret {α : Type} (r : α) : Ev (fun _ => some r) r := Ev.now r
theorem ev_pos {α : Type} {c : Prop} [Decidable c] {f g : Nat → Option α} {r : α} (h : c) (k : Ev f r) : Ev (fun n => if c then f n else g n) r := by
  simpa [h] using k
theorem ev_neg {α : Type} {c : Prop} [Decidable c] {f g : Nat → Option α} {r : α} (h : ¬ c) (k : Ev g r) : Ev (fun n => if c then f n else g n) r := by
  simpa [h] using k
theorem ev_ite {α : Type} {c : Prop} [Decidable c] {f g : Nat → Option α} {r : α} (h1 : c → Ev f r) (h2 : ¬ c → Ev g r) : Ev (fun n => if c then f n else g n) r := by
  by_cases h : c
  · exact ev_pos h (h1 h)
  · exact ev_neg h (h2 h)
theorem ev_bind {α β : Type} {g : Nat → Option α} {f : Nat → α → Option β} {a : α} {r : β} (h : Ev g a) (k : Ev (fun n => f n a) r) : Ev (fun n => (g n).bind (fun t => f n t)) r := Ev.bind h k
theorem ev_fix {α : Type} {o : Option α} {r : α} (h : o = some r) : Ev (fun _ => o) r := ⟨0, fun _ _ => h⟩
theorem ev_eq {α : Type} {g : Nat → Option α} {r r' : α} (h : Ev g r) (e : r = r') : Ev g r' := e ▸ h
theorem wrap_in {x : Int} (h0 : -9223372036854775808 ≤ x) (h1 : x ≤ 9223372036854775807) : wrap64 x = x := by unfold wrap64; omega
theorem wrap_nat {n m : Nat} (h : n < m) (hm : m ≤ 9223372036854775807) : wrap64 ((n : Int) + 1) = ((n + 1 : Nat) : Int) := by unfold wrap64; omega
theorem getD_of {α : Type} {xs : List α} {n : Nat} {x d : α} (h : xs[n]? = some x) : xs.getD (n : Int).toNat d = x := by
  simp [List.getD_eq_getElem?_getD, h]
def SzOk (f : Nat → Option Int) (a : Int) (P : Prop) : Prop := ∃ r, Ev f r ∧ (r < 0 ∨ (0 ≤ r ∧ r ≤ a ∧ P))
def inR (n lo hi : Int) : Bool := decide (lo ≤ n ∧ n ≤ hi)
theorem inR_iff {n lo hi : Int} : inR n lo hi = true ↔ lo ≤ n ∧ n ≤ hi := by simp [inR]
theorem spec_l1In_eq (n lo hi : Int) : spec_l1In.f n lo hi = some (inR n lo hi) := by
  unfold spec_l1In.f inR
  by_cases h : n ≥ lo
  · rw [if_pos h]; congr 1; simp; omega
  · rw [if_neg h]; congr 1; simp; omega
theorem impl_in_eq (n lo hi : Int) : impl_in.f n lo hi = some (inR n lo hi) := by
  unfold impl_in.f inR
  by_cases h : n ≥ lo
  · rw [if_pos h]; congr 1; simp; omega
  · rw [if_neg h]; congr 1; simp; omega
def Evp (G : Nat → Prop) : Prop := ∃ n, ∀ k, n ≤ k → G k
theorem Evp.get {G : Nat → Prop} (h : Evp G) : ∃ k, G k := let ⟨n, h⟩ := h; ⟨n, h n (Nat.le_refl _)⟩
theorem Evp.of {P : Prop} (h : P) : Evp fun _ => P := ⟨0, fun _ _ => h⟩
theorem Evp.and {G H : Nat → Prop} (g : Evp G) (h : Evp H) : Evp fun k => G k ∧ H k := by
  obtain ⟨n, g⟩ := g
  obtain ⟨m, h⟩ := h
  exact ⟨max n m, fun k hk => ⟨g k (by omega), h k (by omega)⟩⟩
theorem Evp.fact {α : Type} {f : Nat → Option α} {r : α} {H : Nat → Prop} (g : Ev f r) (h : Evp H) : Evp fun k => f k = some r ∧ H k := Evp.and (G := fun k => f k = some r) g h
theorem Evp.inl {G H : Nat → Prop} (g : Evp G) : Evp fun k => G k ∨ H k := let ⟨n, g⟩ := g; ⟨n, fun k hk => .inl (g k hk)⟩
theorem Evp.inr {G H : Nat → Prop} (g : Evp H) : Evp fun k => G k ∨ H k := let ⟨n, g⟩ := g; ⟨n, fun k hk => .inr (g k hk)⟩
theorem Evp.ex {α : Type} {G : Nat → α → Prop} (a : α) (g : Evp fun k => G k a) : Evp fun k => ∃ x, G k x := let ⟨n, g⟩ := g; ⟨n, fun k hk => ⟨a, g k hk⟩⟩
theorem Evp.guard {P : Prop} {H : Nat → Prop} (h : ¬ P → Evp H) : Evp fun k => P ∨ H k := by
  by_cases p : P
  · exact .inl (.of p)
  · exact .inr (h p)
theorem Evp.sz {f : Nat → Option Int} {a : Int} {P : Prop} (hf : SzOk f a P) {H : Nat → Int → Prop} (h : ∀ r, 0 ≤ r → r ≤ a → P → Evp fun k => H k r) : Evp fun k => ∃ t : Int, f k = some t ∧ (t < 0 ∨ H k t) := by
  obtain ⟨r, h1, h2⟩ := hf
  refine .ex r (.fact h1 ?_)
  rcases h2 with h2 | ⟨h2, h3, h4⟩
  · exact .inl (.of h2)
  · exact .inr (h r h2 h3 h4)
def valOk (k v : Int) : Prop := (k = 1 → -9999 ≤ v ∧ v ≤ 9999) ∧ (k = 2 → 0 ≤ v ∧ v ≤ 1)
structure ValsOk (ks vs : List Int) : Prop where
  len : vs.length = ks.length
  at_ : ∀ i : Nat, i < ks.length → valOk (ks.getD i 0) (vs.getD i 0)
theorem ValsOk.nil : ValsOk [] [] := ⟨rfl, fun i h => absurd h (Nat.not_lt_zero i)⟩
theorem ValsOk.rd {ks vs : List Int} (h : ValsOk ks vs) {i : Int} (h0 : inR i 0 ((ks.length : Int) - 1) = true) : valOk (rd ks i) (rd vs i) := by
  have := inR_iff.1 h0
  have e := h.at_ i.toNat (by omega)
  exact e
theorem ValsOk.push {ks vs : List Int} (h : ValsOk ks vs) {k v : Int} (hv : valOk k v) : ValsOk (ks ++ [k]) (vs ++ [v]) := by
  refine ⟨by simp [h.len], fun i hi => ?_⟩
  rw [List.length_append, List.length_singleton] at hi
  by_cases e : i < ks.length
  · have := h.at_ i e
    rw [List.getD_eq_getElem?_getD, List.getD_eq_getElem?_getD] at this ⊢
    rw [List.getElem?_append_left e, List.getElem?_append_left (by rw [h.len]; exact e)]
    exact this
  · have e' : i = ks.length := by omega
    subst e'
    rw [List.getD_eq_getElem?_getD, List.getD_eq_getElem?_getD, List.getElem?_append_right (Nat.le_refl _), List.getElem?_append_right (by rw [h.len]; exact Nat.le_refl _), h.len]
    simpa using hv
def foldN {α σ : Type} (step : Nat → σ → α → σ) : Nat → σ → List α → σ
  | _, s, [] => s
  | n, s, x :: r => foldN step (n + 1) (step n s x) r
theorem foldN_push {α β : Type} (g : α → β) : ∀ (xs : List α) (n : Nat) (s : List β), foldN (fun _ s x => s ++ [g x]) n s xs = s ++ xs.map g
  | [], n, s => by simp [foldN]
  | x :: r, n, s => by unfold foldN; rw [foldN_push g r]; simp
theorem ev_fold {α σ ρ : Type} (L : Nat → σ → Int → Option ρ) (xs : List α) (step : Nat → σ → α → σ) (fin : σ → ρ) (I : Nat → σ → Prop)
    (hend : ∀ s, I xs.length s → Ev (fun k => L k s (xs.length : Int)) (fin s))
    (hstep : ∀ (n : Nat) s x R, n < xs.length → xs[n]? = some x → I n s → Ev (fun k => L k (step n s x) ((n + 1 : Nat) : Int)) R → Ev (fun k => L k s (n : Int)) R)
    (hI : ∀ (n : Nat) s x, n < xs.length → xs[n]? = some x → I n s → I (n + 1) (step n s x)) (s0 : σ) (h0 : I 0 s0) :
    Ev (fun k => L k s0 0) (fin (foldN step 0 s0 xs)) := by
  have h : ∀ d n : Nat, xs.length - n = d → n ≤ xs.length → ∀ s, I n s → Ev (fun k => L k s (n : Int)) (fin (foldN step n s (xs.drop n))) := by
    intro d
    induction d with
    | zero =>
      intro n h1 h2 s hs
      have : n = xs.length := by omega
      subst this
      rw [List.drop_length]
      exact hend s hs
    | succ d ih =>
      intro n h1 h2 s hs
      have hn : n < xs.length := by omega
      have hx := List.getElem?_eq_getElem hn
      rw [List.drop_eq_getElem_cons hn]
      exact hstep n s _ _ hn hx hs (ih (n + 1) (by omega) (by omega) _ (hI n s _ hn hx hs))
  have := h xs.length 0 (by omega) (by omega) s0 h0
  simpa using this
theorem ev_fold0 {α σ ρ : Type} (L : Nat → σ → Int → Option ρ) (xs : List α) (step : Nat → σ → α → σ) (fin : σ → ρ)
    (hend : ∀ s, Ev (fun k => L k s (xs.length : Int)) (fin s))
    (hstep : ∀ (n : Nat) s x R, n < xs.length → xs[n]? = some x → Ev (fun k => L k (step n s x) ((n + 1 : Nat) : Int)) R → Ev (fun k => L k s (n : Int)) R) (s0 : σ) :
    Ev (fun k => L k s0 0) (fin (foldN step 0 s0 xs)) :=
  ev_fold L xs step fin (fun _ _ => True) (fun s _ => hend s) (fun n s x R h1 h2 _ h3 => hstep n s x R h1 h2 h3) (fun _ _ _ _ _ _ => trivial) s0 trivial
theorem spec_l3Copy_ev (l : List Int) (hl : l.length ≤ 1048576) : Ev (fun k => spec_l3Copy.f k l) l := by
  unfold spec_l3Copy.f
  have := ev_fold (fun k s i => spec_l3Copy.l0 k l s i) l (fun _ s x => s ++ [x]) (fun s => s) (fun n s => s.length = n)
    (fun s hs => Ev.step (fun k => by rw [spec_l3Copy.l0]) (ev_neg (by omega) (ev_ret _)))
    (fun n s x R hn hx hs ih => by
      refine Ev.step (fun k => by rw [spec_l3Copy.l0]) ?_
      rw [show rd l (n : Int) = x from getD_of hx, wrap_nat hn (by omega)]
      exact ev_pos (by omega) (ev_pos (by omega) (ev_pos (by omega) ih)))
    (fun n s x hn hx hs => by simp [hs]) [] rfl
  rw [foldN_push (fun x => x)] at this
  simpa using this
theorem ev_index {α : Type} {da : α} (L : Nat → Int → Option Int) (F : Nat → α → Option Bool) (xs : List α) (p : α → Bool) (hl : xs.length ≤ 9223372036854775807)
    (hL : ∀ k i, L (k + 1) i = if i < (xs.length : Int) then (if 0 ≤ i then (if i < (xs.length : Int) then ((F k (xs.getD i.toNat da)).bind fun t => if t = true then some i else L k (wrap64 (i + 1))) else none) else none) else some (-1))
    (hF : ∀ x ∈ xs, Ev (fun k => F k x) (p x)) : ∃ r, Ev (fun k => L k 0) r ∧ decide (r ≥ 0) = xs.any p := by
  have key : ∀ d n : Nat, xs.length - n = d → n ≤ xs.length → ∃ r, Ev (fun k => L k (n : Int)) r ∧ decide (r ≥ 0) = (xs.drop n).any p := by
    intro d
    induction d with
    | zero =>
      intro n h1 h2
      have : n = xs.length := by omega
      subst this
      exact ⟨-1, Ev.step (fun k => hL k _) (ev_neg (by omega) (ev_ret _)), by rw [List.drop_length]; rfl⟩
    | succ d ih =>
      intro n h1 h2
      have hn : n < xs.length := by omega
      have hx := List.getElem?_eq_getElem hn
      rw [List.drop_eq_getElem_cons hn, List.any_cons]
      have hf := hF _ (List.getElem_mem hn)
      cases hp : p xs[n] with
      | true =>
        rw [hp] at hf
        refine ⟨(n : Int), Ev.step (fun k => hL k _) (ev_pos (by omega) (ev_pos (by omega) (ev_pos (by omega) ?_))), by simp⟩
        rw [getD_of hx]
        exact ev_bind hf (ev_pos rfl (ev_ret _))
      | false =>
        rw [hp] at hf
        obtain ⟨r, h3, h4⟩ := ih (n + 1) (by omega) (by omega)
        refine ⟨r, Ev.step (fun k => hL k _) (ev_pos (by omega) (ev_pos (by omega) (ev_pos (by omega) ?_))), by rw [h4]; rfl⟩
        rw [getD_of hx, wrap_nat hn (by omega)]
        exact ev_bind hf (ev_neg (by simp) h3)
  have := key xs.length 0 (by omega) (by omega)
  simpa using this
theorem ev_contains {α : Type} {da : α} (L : Nat → Int → Option Int) (F : Nat → α → Option Bool) (xs : List α) (p : α → Bool) (hl : xs.length ≤ 9223372036854775807)
    (hL : ∀ k i, L (k + 1) i = if i < (xs.length : Int) then (if 0 ≤ i then (if i < (xs.length : Int) then ((F k (xs.getD i.toNat da)).bind fun t => if t = true then some i else L k (wrap64 (i + 1))) else none) else none) else some (-1))
    (hF : ∀ x ∈ xs, Ev (fun k => F k x) (p x)) : Ev (fun k => (L k 0).bind fun t => some (decide (t ≥ 0))) (xs.any p) := by
  obtain ⟨r, h1, h2⟩ := ev_index L F xs p hl hL hF
  exact ev_bind h1 (ev_eq (ev_ret _) h2)
theorem ev_all {α : Type} {da : α} (L : Nat → Int → Option Bool) (F : Nat → α → Option Bool) (xs : List α) (p : α → Bool) (G : Nat → Option Bool) (b : Bool) (hl : xs.length ≤ 9223372036854775807) (hG : Ev G b)
    (hL : ∀ k i, L (k + 1) i = if i < (xs.length : Int) then (if 0 ≤ i then ((F k (xs.getD i.toNat da)).bind fun t => if t = true then L k (wrap64 (i + 1)) else some false) else none) else G k)
    (hF : ∀ x ∈ xs, Ev (fun k => F k x) (p x)) : Ev (fun k => L k 0) (xs.all p && b) := by
  have key : ∀ d n : Nat, xs.length - n = d → n ≤ xs.length → Ev (fun k => L k (n : Int)) ((xs.drop n).all p && b) := by
    intro d
    induction d with
    | zero =>
      intro n h1 h2
      have : n = xs.length := by omega
      subst this
      rw [List.drop_length]
      refine Ev.step (fun k => hL k _) (ev_neg (by omega) (ev_eq hG (by simp)))
    | succ d ih =>
      intro n h1 h2
      have hn : n < xs.length := by omega
      have hx := List.getElem?_eq_getElem hn
      rw [List.drop_eq_getElem_cons hn, List.all_cons]
      have hf := hF _ (List.getElem_mem hn)
      refine Ev.step (fun k => hL k _) (ev_pos (by omega) (ev_pos (by omega) ?_))
      rw [getD_of hx, wrap_nat hn (by omega)]
      cases hp : p xs[n] with
      | true => rw [hp] at hf; exact ev_bind hf (ev_pos rfl (ev_eq (ih (n + 1) (by omega) (by omega)) (by simp)))
      | false => rw [hp] at hf; exact ev_bind hf (ev_neg (by simp) (ev_eq (ev_ret _) (by simp)))
  have := key xs.length 0 (by omega) (by omega)
  simpa using this
def allI {α : Type} (p : Nat → α → Bool) : Nat → List α → Bool
  | _, [] => true
  | n, x :: r => p n x && allI p (n + 1) r
theorem ev_alli {α : Type} (L : Nat → Int → Option Bool) (xs : List α) (p : Nat → α → Bool) (hend : Ev (fun k => L k (xs.length : Int)) true)
    (hstep : ∀ (n : Nat) (x : α) (Q : Bool), n < xs.length → xs[n]? = some x → Ev (fun k => L k ((n + 1 : Nat) : Int)) Q → Ev (fun k => L k (n : Int)) (p n x && Q)) : Ev (fun k => L k 0) (allI p 0 xs) := by
  have h : ∀ d n : Nat, xs.length - n = d → n ≤ xs.length → Ev (fun k => L k (n : Int)) (allI p n (xs.drop n)) := by
    intro d
    induction d with
    | zero =>
      intro n h1 h2
      have : n = xs.length := by omega
      subst this
      rw [List.drop_length]
      exact hend
    | succ d ih =>
      intro n h1 h2
      have hn : n < xs.length := by omega
      rw [List.drop_eq_getElem_cons hn]
      exact hstep n _ _ hn (List.getElem?_eq_getElem hn) (ih (n + 1) (by omega) (by omega))
  have := h xs.length 0 (by omega) (by omega)
  simpa using this
theorem ev_at {α : Type} {g : Nat → Option α} {r : α} (h : ∀ k, g (k + 1) = some r) : Ev g r := ⟨1, fun k hk => by
  obtain ⟨m, rfl⟩ : ∃ m, k = m + 1 := ⟨k - 1, by omega⟩
  exact h m⟩
def timeP (facts : Int) (n : Nat) (t : ITime) : Bool :=
  if t.f0 = 0 then (t.f1 == 0 && (t.f2 == 0 && t.f3 == 0))
  else if t.f0 = 1 then (inR t.f1 0 (wrap64 (facts - 1)) && (t.f2 == 0 && t.f3 == 0))
  else (inR t.f0 2 7 && (t.f1 == 0 && (inR t.f2 0 (wrap64 ((n : Int) - 1)) && (inR t.f3 0 (wrap64 ((n : Int) - 1)) && (!(t.f0 == 2 || t.f0 == 5) || t.f3 == t.f2)))))
def timesP (l : List ITime) (facts : Int) : Bool := inR facts 0 4 && (inR (l.length : Int) 1 24 && allI (timeP facts) 0 l)
theorem spec_l20Step_eq (t : ITime) (n : Nat) (facts : Int) : ∀ k, spec_l20Step.f (k + 1) t.f0 t.f1 t.f2 t.f3 (n : Int) facts = some (timeP facts n t) := by
  intro k
  simp only [spec_l20Step.f, spec_l20Step.j0, spec_l20One.f, spec_l1In_eq, Option.bind_some, timeP]
  by_cases h0 : t.f0 = 0
  · simp only [h0, if_true]
    by_cases h1 : t.f1 = 0 <;> by_cases h2 : t.f2 = 0 <;> simp [h1, h2]
  simp only [h0, if_false]
  by_cases h1 : t.f0 = 1
  · simp only [h1, if_true]
    cases inR t.f1 0 (wrap64 (facts - 1)) <;> by_cases h2 : t.f2 = 0 <;> simp [h2]
  simp only [h1, if_false]
  cases inR t.f0 2 7 <;> by_cases h2 : t.f1 = 0 <;> cases inR t.f2 0 (wrap64 ((n : Int) - 1)) <;> cases inR t.f3 0 (wrap64 ((n : Int) - 1)) <;> by_cases h3 : t.f0 = 2 <;> by_cases h4 : t.f0 = 5 <;> simp [h2, h3, h4]
theorem spec_TimesValid_ev (l : List ITime) (facts : Int) (hl : l.length ≤ 9223372036854775807) : Ev (fun k => spec_TimesValid.f k l facts) (timesP l facts) := by
  unfold spec_TimesValid.f timesP
  rw [spec_l1In_eq, spec_l1In_eq]
  refine ev_bind (ev_ret _) ?_
  cases h1 : inR facts 0 4 with
  | false => exact ev_neg (by simp) (Ev.step (fun k => by rw [spec_TimesValid.j0]) (ev_pos rfl (ev_eq (ev_ret _) (by simp))))
  | true =>
    refine ev_pos rfl (ev_bind (ev_ret _) (Ev.step (fun k => by rw [spec_TimesValid.j0]) ?_))
    cases h2 : inR (l.length : Int) 1 24 with
    | false => exact ev_pos rfl (ev_eq (ev_ret _) (by simp))
    | true =>
      refine ev_neg (by simp) (ev_eq (ev_alli (fun k i => spec_TimesValid.l0 k l facts i) l (timeP facts) (Ev.step (fun k => by rw [spec_TimesValid.l0]) (ev_neg (by omega) (ev_ret _))) ?_) (by simp))
      intro n x Q hn hx ih
      refine Ev.step (fun k => by rw [spec_TimesValid.l0]) ?_
      rw [show rd_ITime l (n : Int) = x from getD_of hx, wrap_nat hn (by omega)]
      refine ev_pos (by omega) (ev_pos (by omega) (ev_bind (ev_at (spec_l20Step_eq x n facts)) ?_))
      cases h : timeP facts n x with
      | true => exact ev_pos rfl (ev_eq ih (by simp))
      | false => exact ev_neg (by simp) (ev_eq (ev_ret _) (by simp))
theorem impl_TimesValid_ev (l : List ITime) (facts : Int) (hl : l.length ≤ 9223372036854775807) : Ev (fun k => impl_TimesValid.f k l facts) (timesP l facts) := by
  unfold impl_TimesValid.f timesP
  rw [impl_in_eq, impl_in_eq]
  refine ev_bind (ev_ret _) ?_
  cases h1 : inR facts 0 4 with
  | false => exact ev_neg (by simp) (Ev.step (fun k => by rw [impl_TimesValid.j0]) (ev_pos rfl (ev_eq (ev_ret _) (by simp))))
  | true =>
    refine ev_pos rfl (ev_bind (ev_ret _) (Ev.step (fun k => by rw [impl_TimesValid.j0]) ?_))
    cases h2 : inR (l.length : Int) 1 24 with
    | false => exact ev_pos rfl (ev_eq (ev_ret _) (by simp))
    | true =>
      refine ev_neg (by simp) (ev_eq (ev_alli (fun k i => impl_TimesValid.l0 k facts l (l.length : Int) i) l (timeP facts) (Ev.step (fun k => by rw [impl_TimesValid.l0]) (ev_neg (by omega) (ev_ret _))) ?_) (by simp))
      intro n x Q hn hx ih
      have hj : Ev (fun k => impl_TimesValid.j2 k facts (timeP facts n x) l (l.length : Int) (n : Int)) (timeP facts n x && Q) := by
        refine Ev.step (fun k => by rw [impl_TimesValid.j2, wrap_nat hn (by omega)]) ?_
        cases h : timeP facts n x with
        | true => exact ev_pos rfl (ev_eq ih (by simp))
        | false => exact ev_neg (by simp) (ev_eq (ev_ret _) (by simp))
      refine Ev.step (fun k => by rw [impl_TimesValid.l0]) ?_
      rw [show rd_ITime l (n : Int) = x from getD_of hx]
      refine ev_pos (by omega) (ev_pos (by omega) (ev_pos (by omega) (Ev.congr (fun k => ?_) hj)))
      simp only [impl_in_eq, Option.bind_some]
      unfold timeP
      by_cases h0 : x.f0 = 0
      · simp [h0]
      simp only [h0, if_false]
      by_cases h1 : x.f0 = 1
      · simp only [h1, if_true]
        by_cases h2 : x.f2 = 0
        · cases inR x.f1 0 (wrap64 (facts - 1)) <;> simp [h2]
        · have b2 : (x.f2 == 0) = false := by simpa using h2
          cases inR x.f1 0 (wrap64 (facts - 1)) <;> simp [h2, b2]
      simp only [h1, if_false]
      have e : inR x.f0 0 7 = inR x.f0 2 7 := by unfold inR; congr 1; apply propext; omega
      rw [e]
      by_cases h2 : x.f1 = 0
      · by_cases h5 : x.f2 = x.f3
        · cases inR x.f0 2 7 <;> cases inR x.f2 0 (wrap64 ((n : Int) - 1)) <;> cases inR x.f3 0 (wrap64 ((n : Int) - 1)) <;> simp [h2, h5]
        · have b5 : (x.f3 == x.f2) = false := by simpa using fun h => h5 h.symm
          by_cases h3 : x.f0 = 2
          · cases inR x.f0 2 7 <;> cases inR x.f2 0 (wrap64 ((n : Int) - 1)) <;> cases inR x.f3 0 (wrap64 ((n : Int) - 1)) <;> simp [h2, h3, h5, b5]
          · have b3 : (x.f0 == 2) = false := by simpa using h3
            cases inR x.f0 2 7 <;> cases inR x.f2 0 (wrap64 ((n : Int) - 1)) <;> cases inR x.f3 0 (wrap64 ((n : Int) - 1)) <;> simp [h2, h3, h5, b3, b5, bne]
      · have b2 : (x.f1 == 0) = false := by simpa using h2
        cases inR x.f0 2 7 <;> simp [h2, b2]
def stepsP (l : List ITime) : List Int := foldN (fun n s (x : ITime) => if x.f0 ≥ 5 then s ++ [(n : Int)] else s) 0 [] l
theorem foldN_steps (l : List ITime) : ∀ n s, (foldN (fun n s (x : ITime) => if x.f0 ≥ 5 then s ++ [(n : Int)] else s) n s l).length ≤ s.length + l.length := by
  induction l with
  | nil => intro n s; simp [foldN]
  | cons x l ih =>
    intro n s
    simp only [foldN]
    by_cases h : x.f0 ≥ 5
    · have := ih (n + 1) (s ++ [(n : Int)])
      rw [if_pos h]
      rw [List.length_append, List.length_singleton] at this
      rw [List.length_cons]
      omega
    · have := ih (n + 1) s
      rw [if_neg h, List.length_cons]
      omega
theorem stepsP_len (l : List ITime) : (stepsP l).length ≤ l.length := by
  have := foldN_steps l 0 []
  rw [List.length_nil, Nat.zero_add] at this
  exact this
theorem spec_l21Steps_ev (l : List ITime) (hl : l.length ≤ 1048576) : Ev (fun k => spec_l21Steps.f k l) (stepsP l) := by
  unfold spec_l21Steps.f stepsP
  refine ev_fold (fun k s i => spec_l21Steps.l0 k l s i) l _ (fun s => s) (fun n s => s.length ≤ n) (fun s hs => by
      refine Ev.step (fun k => by rw [spec_l21Steps.l0]) ?_
      exact ev_neg (by omega) (ev_ret _)) (fun n s x R hn hx hs ih => ?_) (fun n s x hn hx hs => ?_) [] (by simp)
  · refine Ev.step (fun k => by rw [spec_l21Steps.l0]) ?_
    rw [show rd_ITime l (n : Int) = x from getD_of hx, wrap_nat hn (by omega)]
    refine ev_pos (by omega) (ev_pos (by omega) ?_)
    by_cases h : x.f0 ≥ 5
    · simp only [h, if_true] at ih
      exact ev_pos h (ev_pos (by omega) ih)
    · simp only [h, if_false] at ih
      exact ev_neg h ih
  · split
    · simp; omega
    · omega
def guessedP (l : List ITime) (facts : Int) : List Int × Bool := if timesP l facts = true then (stepsP l, decide (facts + (stepsP l).length ≤ 7)) else ([], false)
theorem timesP_in {l : List ITime} {facts : Int} (h : timesP l facts = true) : (0 ≤ facts ∧ facts ≤ 4) ∧ 1 ≤ l.length ∧ l.length ≤ 24 := by
  simp only [timesP, Bool.and_eq_true, inR_iff] at h
  omega
theorem impl_guessed_ev (l : List ITime) (facts : Int) (hl : l.length ≤ 9223372036854775807) : Ev (fun k => impl_guessed.f k l facts) (guessedP l facts) := by
  unfold impl_guessed.f guessedP
  refine ev_bind (impl_TimesValid_ev l facts hl) ?_
  cases h : timesP l facts with
  | false => exact ev_neg (by simp) (ev_eq (ev_ret _) (by simp))
  | true =>
    obtain ⟨h1, h2⟩ := timesP_in h
    have hs := stepsP_len l
    refine ev_pos rfl ?_
    simp only [if_true]
    unfold stepsP at hs ⊢
    refine ev_fold (fun k s i => impl_guessed.l0 k facts s l (l.length : Int) i) l (fun n s (x : ITime) => if x.f0 ≥ 5 then s ++ [(n : Int)] else s) (fun s => (s, decide (facts + s.length ≤ 7))) (fun n s => s.length ≤ n) (fun s hs => ?_) (fun n s x R hn hx hs ih => ?_) (fun n s x hn hx hs => ?_) [] (by simp)
    · refine Ev.step (fun k => by rw [impl_guessed.l0]) (ev_neg (by omega) ?_)
      refine ev_bind (g := fun _ => impl_clone_int.f s) (ev_fix (by unfold impl_clone_int.f; rw [if_pos (by omega)])) (ev_eq (ev_ret _) ?_)
      rw [wrap_in (by omega) (by omega)]
    · refine Ev.step (fun k => by rw [impl_guessed.l0]) ?_
      rw [show rd_ITime l (n : Int) = x from getD_of hx, wrap_nat hn (by omega)]
      refine ev_pos (by omega) (ev_pos (by omega) (ev_pos (by omega) ?_))
      by_cases h : x.f0 ≥ 5
      · simp only [h, if_true] at ih
        exact ev_pos h (ev_pos (by omega) ih)
      · simp only [h, if_false] at ih
        exact ev_neg h ih
    · split
      · simp; omega
      · omega
def askedP (l : List ITime) (facts : Int) : Bool := timesP l facts && decide (facts + (stepsP l).length ≤ 7)
theorem spec_l21Asked_ev (l : List ITime) (facts : Int) (hl : l.length ≤ 1048576) : Ev (fun k => spec_l21Asked.f k l facts) (askedP l facts) := by
  unfold spec_l21Asked.f askedP
  refine ev_bind (spec_TimesValid_ev l facts (by omega)) ?_
  cases h : timesP l facts with
  | false => exact ev_neg (by simp) (ev_eq (ev_ret _) (by simp))
  | true =>
    obtain ⟨h1, h2⟩ := timesP_in h
    have hs := stepsP_len l
    refine ev_pos rfl (ev_bind (spec_l21Steps_ev l hl) (ev_eq (ev_ret _) ?_))
    rw [wrap_in (by omega) (by omega), Bool.true_and]
def guessesP (l : List ITime) (facts : Int) : Int := if askedP l facts = true then shl .i64 1 (facts + (stepsP l).length) else 0
theorem spec_GuessCount_ev (l : List ITime) (facts : Int) (hl : l.length ≤ 1048576) : Ev (fun k => spec_GuessCount.f k l facts) (guessesP l facts) := by
  unfold spec_GuessCount.f guessesP
  refine ev_bind (spec_l21Asked_ev l facts hl) ?_
  cases h : askedP l facts with
  | false => exact ev_neg (by simp) (ev_eq (ev_ret _) (by simp))
  | true =>
    simp only [askedP, Bool.and_eq_true, decide_eq_true_eq] at h
    obtain ⟨h1, h2⟩ := timesP_in h.1
    have w : wrap64 (facts + ((stepsP l).length : Int)) = facts + (stepsP l).length := wrap_in (by omega) (by omega)
    refine ev_pos rfl (ev_bind (spec_l21Steps_ev l hl) (ev_pos (by rw [w]; omega) (ev_eq (ev_ret _) ?_)))
    rw [w, if_pos rfl]
theorem impl_GuessCount_ev (l : List ITime) (facts : Int) (hl : l.length ≤ 1048576) : Ev (fun k => impl_GuessCount.f k l facts) (guessesP l facts) := by
  unfold impl_GuessCount.f guessesP
  refine ev_bind (impl_guessed_ev l facts (by omega)) ?_
  unfold guessedP askedP
  cases h : timesP l facts with
  | false => exact ev_neg (by simp) (ev_eq (ev_ret _) (by simp))
  | true =>
    obtain ⟨h1, h2⟩ := timesP_in h
    have hs := stepsP_len l
    have w : wrap64 (facts + ((stepsP l).length : Int)) = facts + (stepsP l).length := wrap_in (by omega) (by omega)
    by_cases h3 : facts + (stepsP l).length ≤ 7
    · exact ev_pos (by simp [h3]) (ev_pos (by simp [w]; omega) (ev_eq (ev_ret _) (by simp [h3, w])))
    · exact ev_neg (by simp [h3]) (ev_eq (ev_ret _) (by simp [h3]))
def bitNum (l : List Int) : Int := foldN (fun _ s x => wrap64 (wrap64 (2 * s) + x)) 0 0 l
theorem impl_bitsValue_ev (l : List Int) (hl : l.length ≤ 9223372036854775807) : Ev (fun k => impl_bitsValue.f k l) (bitNum l) := by
  unfold impl_bitsValue.f bitNum
  exact ev_fold0 (fun k s i => impl_bitsValue.l0 k s l (l.length : Int) i) l _ (fun s => s)
    (fun s => by
      refine Ev.step (fun k => by rw [impl_bitsValue.l0]) ?_
      exact ev_neg (by omega) (ev_ret _))
    (fun n s x R hn hx ih => by
      refine Ev.step (fun k => by rw [impl_bitsValue.l0]) ?_
      rw [show rd l (n : Int) = x from getD_of hx, wrap_nat hn (by omega)]
      exact ev_pos (by omega) (ev_pos (by omega) (ev_pos (by omega) ih))) 0
theorem spec_l6Number_ev (l : List Int) (hl : l.length ≤ 9223372036854775807) : Ev (fun k => spec_l6Number.f k l) (bitNum l) := by
  unfold spec_l6Number.f bitNum
  exact ev_fold0 (fun k s i => spec_l6Number.l0 k l s i) l _ (fun s => s)
    (fun s => by
      refine Ev.step (fun k => by rw [spec_l6Number.l0]) ?_
      exact ev_neg (by omega) (ev_ret _))
    (fun n s x R hn hx ih => by
      refine Ev.step (fun k => by rw [spec_l6Number.l0]) ?_
      rw [show rd l (n : Int) = x from getD_of hx, wrap_nat hn (by omega), Int.mul_comm s 2]
      exact ev_pos (by omega) (ev_pos (by omega) ih)) 0
def areBits (l : List Int) : Bool := l.all fun x => inR x 0 1
theorem spec_l6Are_ev (l : List Int) (hl : l.length ≤ 9223372036854775807) : Ev (fun k => spec_l6Are.f k l) (areBits l) := by
  unfold spec_l6Are.f
  refine ev_eq (ev_all (da := (0 : Int)) (fun k i => spec_l6Are.l0 k l i) (fun _ x => spec_l1In.f x 0 1) l (fun x => inR x 0 1) (fun _ => some true) true hl (ev_ret _) (fun k i => by rw [spec_l6Are.l0]; rfl) (fun x _ => ev_fix (spec_l1In_eq x 0 1))) ?_
  simp [areBits]
theorem impl_bitsValid_ev (l : List Int) (hl : l.length ≤ 9223372036854775807) : Ev (fun k => impl_bitsValid.f k l) (areBits l) := by
  unfold impl_bitsValid.f slices_ContainsFunc_at_impl_bitsValid_1.f slices_IndexFunc_at_impl_bitsValid_1.f
  refine ev_bind (ev_contains (da := (0 : Int)) (fun k i => slices_IndexFunc_at_impl_bitsValid_1.l0 k l (l.length : Int) i) (fun _ x => impl_bitsValid_1.f x) l (fun x => !inR x 0 1) hl (fun k i => by rw [slices_IndexFunc_at_impl_bitsValid_1.l0]; rfl)
    (fun x _ => ev_fix (by unfold impl_bitsValid_1.f; rw [impl_in_eq]; rfl))) (ev_eq (ev_ret _) ?_)
  unfold areBits
  rw [List.not_any_eq_all_not]
  simp
theorem rd_at {set : List Int} {n : Nat} (h : n < set.length) : rd set (n : Int) = set[n] := getD_of (List.getElem?_eq_getElem h)
theorem bit_cases {x : Int} (h : inR x 0 1 = true) : x = 0 ∨ x = 1 := by have := inR_iff.1 h; omega
theorem bits_at {v : List Int} (h : areBits v = true) (i : Nat) : v.getD i 0 = 0 ∨ v.getD i 0 = 1 := by
  rw [List.getD_eq_getElem?_getD]
  cases e : v[i]? with
  | none => exact .inl rfl
  | some x => exact bit_cases (List.all_eq_true.1 h x (List.mem_of_getElem? e))
theorem mul_bit {a b : Int} (ha : a = 0 ∨ a = 1) (hb : b = 0 ∨ b = 1) : (a * b = 0 ∨ a * b = 1) ∧ wrap64 (a * b) = a * b ∧ Go.bits .and .i64 a b = a * b := by
  rcases ha with rfl | rfl <;> rcases hb with rfl | rfl <;> decide +kernel
theorem and_one {x : Int} (h0 : 0 ≤ x) (h1 : x < 4611686018427387904) : Go.bits .and .i64 x 1 = x % 2 := by
  have := Go.bits_mask .i64 62 (by decide) (fun n a b => by rw [Go.IntKind.wrap_i64]; omega) 1 (by decide) x h0 (by omega)
  simpa using this
def bitsN (n : Nat) : Nat → List Int
  | 0 => []
  | m + 1 => ((n / 2 ^ m % 2 : Nat) : Int) :: bitsN n m
theorem bitsN_len (n : Nat) : ∀ m, (bitsN n m).length = m
  | 0 => rfl
  | m + 1 => by simp [bitsN, bitsN_len n m]
theorem shr_nat {n m : Nat} (hm : m ≤ 64) : shr .i64 (n : Int) (m : Int) = ((n / 2 ^ m : Nat) : Int) := by
  unfold shr
  rw [Int.toNat_natCast, show min m IntKind.i64.bits = m from Nat.min_eq_left hm]
  push_cast
  rfl
theorem bitsN_get (n : Nat) : ∀ (m i : Nat), i < m → (bitsN n m)[i]? = some ((n / 2 ^ (m - 1 - i) % 2 : Nat) : Int)
  | 0, i, h => by omega
  | m + 1, 0, h => by simp [bitsN]
  | m + 1, i + 1, h => by
    unfold bitsN
    rw [List.getElem?_cons_succ, bitsN_get n m i (by omega)]
    congr 5
    omega
theorem impl_valueBits_nat {n m : Nat} (hn : n < 4611686018427387904) (hm : m ≤ 64) : Ev (fun k => impl_valueBits.f k (n : Int) (m : Int)) (bitsN n m) := by
  unfold impl_valueBits.f
  refine ev_pos (by omega) (ev_pos (by omega) (ev_bind (ev_ret _) ?_))
  rw [List.length_replicate, Int.toNat_natCast]
  have key : ∀ d i : Nat, m - i = d → i ≤ m → Ev (fun k => impl_valueBits.l0 k (n : Int) (m : Int) ((bitsN n m).take i ++ List.replicate (m - i) 0) (m : Int) (i : Int)) (bitsN n m) := by
    intro d
    induction d with
    | zero =>
      intro i g1 g2
      have : i = m := by omega
      subst this
      refine Ev.step (fun k => by rw [impl_valueBits.l0]) ?_
      exact ev_neg (by omega) (ev_eq (ev_ret _) (by rw [List.take_of_length_le (by rw [bitsN_len]; omega), Nat.sub_self]; simp))
    | succ d ih =>
      intro i g1 g2
      have hi : i < m := by omega
      have hw : wrap64 (wrap64 ((m : Int) - 1) - i) = ((m - 1 - i : Nat) : Int) := by rw [wrap_in (x := (m : Int) - 1) (by omega) (by omega), wrap_in (by omega) (by omega)]; omega
      have hp : n / 2 ^ (m - 1 - i) ≤ n := Nat.div_le_self _ _
      refine Ev.step (fun k => by rw [impl_valueBits.l0, hw, shr_nat (by omega), and_one (Int.natCast_nonneg _) (by omega), wrap_nat hi (by omega)]) ?_
      clear hw
      have hlen : ((bitsN n m).take i).length = i := by rw [List.length_take, bitsN_len]; omega
      refine ev_pos (by omega) (ev_pos (by omega) (ev_pos (by omega) (ev_pos (by rw [List.length_append, hlen, List.length_replicate]; omega) ?_)))
      have e : ((bitsN n m).take i ++ List.replicate (m - i) 0).set ((i : Int)).toNat (((n / 2 ^ (m - 1 - i) : Nat) : Int) % 2) = (bitsN n m).take (i + 1) ++ List.replicate (m - (i + 1)) 0 := by
        rw [Int.toNat_natCast, List.set_append, hlen, if_neg (by omega), Nat.sub_self, show m - i = (m - (i + 1)) + 1 by omega, List.replicate_succ, List.set_cons_zero, List.take_add_one, bitsN_get n m i hi, List.append_assoc]
        rfl
      rw [e]
      exact ih (i + 1) (by omega) (by omega)
  have := key m 0 (by omega) (by omega)
  simpa using this
def lasAll (a b : List (List Int)) : List (List Int) := a ++ (b ++ b.take 1)
theorem spec_l3At_eq {a b : List (List Int)} (hb : 0 < b.length) {i : Nat} (hi : i ≤ a.length + b.length) (hn : a.length + b.length ≤ 9999999) : spec_l3At.f a b (i : Int) = some ((lasAll a b).getD i []) := by
  unfold spec_l3At.f lasAll
  by_cases h : i < a.length
  · rw [if_pos (by omega), if_pos (by omega), List.getD_eq_getElem?_getD, List.getElem?_append_left h]
    rw [show rd_Lint a (i : Int) = a.getD i [] from rfl, List.getD_eq_getElem?_getD]
  · rw [if_neg (by omega), if_neg (by omega), wrap_in (by omega) (by omega)]
    have e : ((i : Int) - (a.length : Int)) = ((i - a.length : Nat) : Int) := by omega
    rw [e, show Int.tmod ((i - a.length : Nat) : Int) (b.length : Int) = (((i - a.length) % b.length : Nat) : Int) from rfl]
    have hm := Nat.mod_lt (i - a.length) hb
    rw [if_pos (by omega), if_pos (by omega), show rd_Lint b ((((i - a.length) % b.length : Nat)) : Int) = b.getD ((i - a.length) % b.length) [] from rfl, List.getD_eq_getElem?_getD, List.getD_eq_getElem?_getD, List.getElem?_append_right (by omega)]
    by_cases h2 : i - a.length < b.length
    · rw [Nat.mod_eq_of_lt h2, List.getElem?_append_left h2]
    · have e2 : i - a.length = b.length := by omega
      rw [e2, Nat.mod_self, List.getElem?_append_right (by omega), Nat.sub_self, List.getElem?_take]
      simp
def letterP (facts : Int) (l : List Int) : Bool := decide ((l.length : Int) = facts) && areBits l
def wordP (stem loop : List (List Int)) (facts : Int) : Bool := inR facts 0 4 && (decide (0 < loop.length) && (decide (stem.length + loop.length ≤ 60) && (stem.all (letterP facts) && loop.all (letterP facts))))
theorem spec_l20Letters_ev (l : List (List Int)) (facts : Int) (hl : l.length ≤ 9223372036854775807) (hx : ∀ x ∈ l, x.length ≤ 9223372036854775807) : Ev (fun k => spec_l20Letters.f k l facts) (l.all (letterP facts)) := by
  unfold spec_l20Letters.f
  rw [← Bool.and_true (l.all _)]
  refine ev_all (da := ([] : List Int)) (fun k i => spec_l20Letters.l0 k l facts i) (fun k c => if (c.length : Int) = facts then spec_l6Are.f k c else some false) l (letterP facts) (fun _ => some true) true hl (ev_ret _) (fun k i => ?_) (fun c hc => ?_)
  · rw [spec_l20Letters.l0]
    show (if i < (l.length : Int) then (if 0 ≤ i then (if ((l.getD i.toNat []).length : Int) = facts then _ else _) else _) else _) = _
    by_cases h : i < (l.length : Int)
    · rw [if_pos h, if_pos h]
      by_cases h0 : 0 ≤ i
      · rw [if_pos h0, if_pos h0]
        by_cases h1 : ((l.getD i.toNat []).length : Int) = facts
        · rw [if_pos h1, if_pos h1]; rfl
        · rw [if_neg h1, if_neg h1]; rfl
      · rw [if_neg h0, if_neg h0]
    · rw [if_neg h, if_neg h]
  · unfold letterP
    by_cases h1 : (c.length : Int) = facts
    · exact ev_pos h1 (ev_eq (spec_l6Are_ev c (hx c hc)) (by simp [h1]))
    · exact ev_neg h1 (ev_eq (ev_ret _) (by simp [h1]))
theorem spec_WordValid_ev (stem loop : List (List Int)) (facts : Int) (h1 : stem.length ≤ 1048576 ∧ ∀ x ∈ stem, x.length ≤ 1048576) (h2 : loop.length ≤ 1048576 ∧ ∀ x ∈ loop, x.length ≤ 1048576) : Ev (fun k => spec_WordValid.f k stem loop facts) (wordP stem loop facts) := by
  have e1 := spec_l20Letters_ev stem facts (by omega) (fun x hx => by have := h1.2 x hx; omega)
  have e2 := spec_l20Letters_ev loop facts (by omega) (fun x hx => by have := h2.2 x hx; omega)
  unfold spec_WordValid.f wordP
  rw [spec_l1In_eq, wrap_in (x := (stem.length : Int) + loop.length) (by omega) (by omega)]
  refine ev_bind (ev_ret _) ?_
  cases inR facts 0 4 with
  | false => exact ev_neg (by simp) (ev_ret _)
  | true =>
    refine ev_pos rfl ?_
    by_cases a : 0 < loop.length
    · refine ev_pos (by omega) ?_
      by_cases b : stem.length + loop.length ≤ 60
      · refine ev_pos (by omega) (ev_bind e1 ?_)
        rw [decide_eq_true a, decide_eq_true b, Bool.true_and, Bool.true_and, Bool.true_and]
        cases stem.all (letterP facts) with
        | false => exact ev_neg (by simp) (ev_ret _)
        | true => exact ev_pos rfl (ev_bind e2 (ev_ret _))
      · exact ev_neg (by omega) (ev_eq (ev_ret _) (by simp [b]))
    · exact ev_neg (by omega) (ev_eq (ev_ret _) (by simp [a]))
theorem all_any' {α : Type} (l : List α) (p : α → Bool) : (!l.any fun x => !p x) = l.all p := by
  induction l with
  | nil => rfl
  | cons a l ih => rw [List.any_cons, List.all_cons, Bool.not_or, Bool.not_not, ih]
theorem impl_bad_ev (l : List (List Int)) (facts : Int) (hl : l.length ≤ 9223372036854775807) (hx : ∀ x ∈ l, x.length ≤ 9223372036854775807) : Ev (fun k => slices_ContainsFunc_int_int_at_impl_WordValid_1.f k l facts) (!l.all (letterP facts)) := by
  rw [← all_any', Bool.not_not]
  unfold slices_ContainsFunc_int_int_at_impl_WordValid_1.f slices_IndexFunc_int_int_at_impl_WordValid_1.f
  refine ev_contains (da := ([] : List Int)) (fun k i => slices_IndexFunc_int_int_at_impl_WordValid_1.l1 k i l facts) (fun k x => impl_WordValid_1.f k x facts) l (fun x => !letterP facts x) hl (fun k i => by rw [slices_IndexFunc_int_int_at_impl_WordValid_1.l1]; rfl) (fun c hc => ?_)
  unfold impl_WordValid_1.f impl_letterOk.f letterP
  by_cases h1 : (c.length : Int) = facts
  · exact ev_bind (ev_pos h1 (ev_bind (impl_bitsValid_ev c (hx c hc)) (ev_ret _))) (ev_eq (ev_ret _) (by simp [h1]))
  · exact ev_bind (ev_neg h1 (ev_ret _)) (ev_eq (ev_ret _) (by simp [h1]))
theorem impl_WordValid_ev (stem loop : List (List Int)) (facts : Int) (h1 : stem.length ≤ 1048576 ∧ ∀ x ∈ stem, x.length ≤ 1048576) (h2 : loop.length ≤ 1048576 ∧ ∀ x ∈ loop, x.length ≤ 1048576) : Ev (fun k => impl_WordValid.f k stem loop facts) (wordP stem loop facts) := by
  have e1 := impl_bad_ev stem facts (by omega) (fun x hx => by have := h1.2 x hx; omega)
  have e2 := impl_bad_ev loop facts (by omega) (fun x hx => by have := h2.2 x hx; omega)
  unfold impl_WordValid.f wordP
  rw [impl_in_eq, wrap_in (x := (stem.length : Int) + loop.length) (by omega) (by omega)]
  refine ev_bind (ev_ret _) ?_
  cases inR facts 0 4 with
  | false => exact ev_neg (by simp) (ev_ret _)
  | true =>
    refine ev_pos rfl ?_
    by_cases a : 0 < loop.length
    · refine ev_pos (by omega) ?_
      by_cases b : stem.length + loop.length ≤ 60
      · refine ev_pos (by omega) (ev_bind e1 ?_)
        rw [decide_eq_true a, decide_eq_true b, Bool.true_and, Bool.true_and, Bool.true_and]
        cases stem.all (letterP facts) with
        | false => exact ev_pos rfl (ev_ret _)
        | true => exact ev_neg (by simp) (ev_bind e2 (ev_eq (ev_ret _) (by simp)))
      · exact ev_neg (by omega) (ev_eq (ev_ret _) (by simp [b]))
    · exact ev_neg (by omega) (ev_eq (ev_ret _) (by simp [a]))
theorem wordP_and {stem loop : List (List Int)} {facts : Int} (h : wordP stem loop facts = true) : (0 ≤ facts ∧ facts ≤ 4) ∧ 0 < loop.length ∧ stem.length + loop.length ≤ 60 ∧ ∀ x ∈ stem ++ loop, (x.length : Int) = facts ∧ areBits x = true := by
  unfold wordP at h
  simp only [Bool.and_eq_true, inR_iff, decide_eq_true_eq, List.all_eq_true] at h
  obtain ⟨a, b, c, d, e⟩ := h
  refine ⟨a, b, c, fun x hx => ?_⟩
  have : letterP facts x = true := by
    rcases List.mem_append.1 hx with hx | hx
    · exact d x hx
    · exact e x hx
  unfold letterP at this
  simpa using this
theorem concat2_ev (a b : List (List Int)) (h : a.length + b.length ≤ 9999999) : Ev (fun k => slices_Concat_int_int.f k [a, b]) (a ++ b) := by
  unfold slices_Concat_int_int.f
  have w : ∀ n : Nat, n ≤ 9999999 → wrap64 (n : Int) = n := fun n hn => wrap_in (by omega) (by omega)
  have e0 : rd_LLint [a, b] 0 = a := rfl
  have e1 : rd_LLint [a, b] 1 = b := rfl
  have w1 : wrap64 (0 + (a.length : Int)) = (a.length : Int) := by rw [Int.zero_add]; exact w _ (by omega)
  have w2 : wrap64 ((a.length : Int) + (b.length : Int)) = ((a.length + b.length : Nat) : Int) := by rw [← Int.natCast_add]; exact w _ (by omega)
  refine Ev.step (fun k => by rw [slices_Concat_int_int.l1, e0, w1, show wrap64 (0 + 1) = 1 from wrap_in (by omega) (by omega)]) ?_
  refine ev_pos (by simp) (ev_pos (by omega) (ev_pos (by simp) (ev_neg (by omega) ?_)))
  refine Ev.step (fun k => by rw [slices_Concat_int_int.l1, e1, w2, show wrap64 (1 + 1) = 2 from wrap_in (by omega) (by omega)]) ?_
  refine ev_pos (by simp) (ev_pos (by omega) (ev_pos (by simp) (ev_neg (by omega) ?_)))
  refine Ev.step (fun k => by rw [slices_Concat_int_int.l1]) ?_
  refine ev_neg (by simp) (ev_bind (g := fun _ => slices_Grow_int_int.f ([] : List (List Int)) ((a.length + b.length : Nat) : Int)) (ev_fix (by unfold slices_Grow_int_int.f; rw [if_pos (by omega), if_pos (by omega)])) ?_)
  refine Ev.step (fun k => by rw [slices_Concat_int_int.l2, e0, show wrap64 (0 + 1) = 1 from wrap_in (by omega) (by omega), List.nil_append]) ?_
  refine ev_pos (by simp) (ev_pos (by omega) (ev_pos (by simp) (ev_pos (by simp; omega) ?_)))
  refine Ev.step (fun k => by rw [slices_Concat_int_int.l2, e1, show wrap64 (1 + 1) = 2 from wrap_in (by omega) (by omega)]) ?_
  refine ev_pos (by simp) (ev_pos (by omega) (ev_pos (by simp) (ev_pos (by omega) ?_)))
  refine Ev.step (fun k => by rw [slices_Concat_int_int.l2]) ?_
  exact ev_neg (by simp) (ev_ret _)
def nxt (st N i : Nat) : Nat := if i + 1 < N then i + 1 else st
def chn (G : Nat → Int → Int) (N : Nat) (y : Int) : Nat → Int
  | 0 => G (N - 1) y
  | d + 1 => G (N - 1 - (d + 1)) (chn G N y d)
def swp (G : Nat → Int → Int) (N : Nat) (y : Int) : List Int := (List.range N).map fun i => chn G N y (N - 1 - i)
def isBit (x : Int) : Prop := x = 0 ∨ x = 1
theorem swp_len (G : Nat → Int → Int) (N : Nat) (y : Int) : (swp G N y).length = N := by simp [swp]
theorem swp_at {G : Nat → Int → Int} {N : Nat} {y : Int} {i : Nat} (h : i < N) : (swp G N y).getD i 0 = chn G N y (N - 1 - i) := by
  unfold swp
  rw [List.getD_eq_getElem?_getD, List.getElem?_map, List.getElem?_range h]; rfl
theorem chn_bit {G : Nat → Int → Int} {N : Nat} {y : Int} (hG : ∀ i n, isBit (G i n)) : ∀ d, isBit (chn G N y d)
  | 0 => hG _ _
  | d + 1 => hG _ _
theorem swp_bit {G : Nat → Int → Int} {N : Nat} {y : Int} (hG : ∀ i n, isBit (G i n)) (i : Nat) : isBit ((swp G N y).getD i 0) := by
  by_cases h : i < N
  · rw [swp_at h]; exact chn_bit hG _
  · left
    rw [List.getD_eq_getElem?_getD, List.getElem?_eq_none (by rw [swp_len]; omega)]; rfl
theorem chn_mono {G : Nat → Int → Int} {N : Nat} (hM : ∀ i, G i 0 ≤ G i 1) (hG : ∀ i n, isBit (G i n)) : ∀ d, chn G N 0 d ≤ chn G N 1 d
  | 0 => hM _
  | d + 1 => by
    have ih := chn_mono hM hG (N := N) d
    have a := chn_bit hG (N := N) (y := 0) d
    have b := chn_bit hG (N := N) (y := 1) d
    unfold chn
    have h1 := hG (N - 1 - (d + 1)) 0
    have h2 := hG (N - 1 - (d + 1)) 1
    have hm := hM (N - 1 - (d + 1))
    unfold isBit at a b h1 h2
    rcases a with a | a <;> rcases b with b | b <;> rw [a, b] <;> first | exact hm | exact Int.le_refl _ | omega
theorem chn_fix {G : Nat → Int → Int} {N : Nat} (hM : ∀ i, G i 0 ≤ G i 1) (hG : ∀ i n, isBit (G i n)) {y : Int} (hy : isBit y) (d : Nat) : chn G N (chn G N y d) d = chn G N y d := by
  have m := chn_mono hM hG (N := N) d
  have a := chn_bit hG (N := N) (y := 0) d
  have b := chn_bit hG (N := N) (y := 1) d
  have c := chn_bit hG (N := N) (y := y) d
  unfold isBit at a b c hy
  rcases hy with rfl | rfl <;> rcases c with c | c <;> rw [c] <;> omega
theorem ev_sweep {ρ : Type} (L : Nat → List Int → Int → Option ρ) (G : Nat → Int → Int) (st N : Nat) (hG : ∀ i n, isBit (G i n)) (hst : st < N) (r : ρ) {v : List Int} (hv : v.length = N) (hb : ∀ j, isBit (v.getD j 0))
    (hstep : ∀ (i : Nat) (v : List Int), i < N → v.length = N → (∀ j, isBit (v.getD j 0)) → Ev (fun k => L k (v.set i (G i (v.getD (nxt st N i) 0))) ((i : Int) - 1)) r → Ev (fun k => L k v (i : Int)) r)
    (hend : Ev (fun k => L k (swp G N (v.getD st 0)) (-1)) r) : Ev (fun k => L k v ((N : Int) - 1)) r := by
  generalize hS : swp G N (v.getD st 0) = S at hend
  have hSl : S.length = N := by rw [← hS]; exact swp_len _ _ _
  have hmix : ∀ i j, i ≤ N → (v.take i ++ S.drop i).getD j 0 = if j < i then v.getD j 0 else S.getD j 0 := fun i j hi => by
    rw [List.getD_eq_getElem?_getD, List.getElem?_append, List.length_take, hv, Nat.min_eq_left hi]
    by_cases h : j < i
    · rw [if_pos h, if_pos h, List.getElem?_take_of_lt h, ← List.getD_eq_getElem?_getD]
    · rw [if_neg h, if_neg h, List.getElem?_drop, show i + (j - i) = j by omega, ← List.getD_eq_getElem?_getD]
  have key : ∀ i : Nat, i ≤ N → Ev (fun k => L k (v.take i ++ S.drop i) ((i : Int) - 1)) r := by
    intro i
    induction i with
    | zero => intro _; simpa using hend
    | succ i ih =>
      intro hi
      have hlen : (v.take (i + 1) ++ S.drop (i + 1)).length = N := by rw [List.length_append, List.length_take, List.length_drop]; omega
      have hbit : ∀ j, isBit ((v.take (i + 1) ++ S.drop (i + 1)).getD j 0) := fun j => by
        rw [hmix _ _ hi]
        split
        · exact hb j
        · rw [← hS]; exact swp_bit hG j
      have hx : G i ((v.take (i + 1) ++ S.drop (i + 1)).getD (nxt st N i) 0) = S.getD i 0 := by
        have hSi : S.getD i 0 = chn G N (v.getD st 0) (N - 1 - i) := by rw [← hS]; exact swp_at (by omega)
        rw [hmix _ _ hi, hSi]
        unfold nxt
        by_cases c : i + 1 < N
        · have hSj : S.getD (i + 1) 0 = chn G N (v.getD st 0) (N - 1 - (i + 1)) := by rw [← hS]; exact swp_at c
          rw [if_pos c, if_neg (by omega), hSj]
          obtain ⟨d, hd⟩ : ∃ d, N - 1 - i = d + 1 := ⟨N - 1 - i - 1, by omega⟩
          rw [hd, show N - 1 - (i + 1) = d by omega]
          have e : N - 1 - (d + 1) = i := by omega
          conv => rhs; unfold chn
          rw [e]
        · rw [if_neg c, if_pos (by omega), show N - 1 - i = 0 by omega]
          have e : N - 1 = i := by omega
          unfold chn
          rw [e]
      have hset : (v.take (i + 1) ++ S.drop (i + 1)).set i (S.getD i 0) = v.take i ++ S.drop i := by
        rw [List.set_append, if_pos (by rw [List.length_take]; omega), List.drop_eq_getElem_cons (l := S) (i := i) (by omega), List.take_succ_eq_append_getElem (by omega), List.set_append, if_neg (by rw [List.length_take]; omega), List.length_take, Nat.min_eq_left (by omega), Nat.sub_self, List.set_cons_zero, List.append_assoc, List.getD_eq_getElem?_getD, List.getElem?_eq_getElem (by omega)]
        rfl
      have ih := ih (by omega)
      have := hstep i (v.take (i + 1) ++ S.drop (i + 1)) (by omega) hlen hbit (by rw [hx, hset]; exact ih)
      rw [show (((i + 1 : Nat) : Int) - 1) = (i : Int) by omega]
      exact this
  have := key N (Nat.le_refl _)
  rw [List.take_of_length_le (by omega), List.drop_of_length_le (by omega), List.append_nil] at this
  exact this
def stG (op : Int) (a b : List Int) (i : Nat) (n : Int) : Int :=
  if op = 6 then (if b.getD i 0 = 1 ∨ (a.getD i 0 = 1 ∧ n = 1) then 1 else 0) else (if b.getD i 0 = 1 ∧ (a.getD i 0 = 1 ∨ n = 1) then 1 else 0)
theorem stG_bit (op : Int) (a b : List Int) (i : Nat) (n : Int) : isBit (stG op a b i n) := by
  unfold stG isBit
  split <;> split <;> simp
theorem stG_mono (op : Int) (a b : List Int) (i : Nat) : stG op a b i 0 ≤ stG op a b i 1 := by
  unfold stG
  split <;> split <;> split <;> simp_all
def startV (op : Int) : Int := if op = 7 then 1 else 0
def laterV (op : Int) (a b : List Int) (st N : Nat) : List Int := swp (stG op a b) N (chn (stG op a b) N (startV op) (N - 1 - st))
def plainV (t : ITime) (rows w : List (List Int)) (st N : Nat) (i : Nat) : Int :=
  if t.f0 = 1 then (w.getD i []).getD t.f1.toNat 0
  else if t.f0 = 2 then 1 - (rows.getD t.f2.toNat []).getD i 0
  else if t.f0 = 3 then (rows.getD t.f2.toNat []).getD i 0 * (rows.getD t.f3.toNat []).getD i 0
  else if t.f0 = 4 then (if (rows.getD t.f2.toNat []).getD i 0 + (rows.getD t.f3.toNat []).getD i 0 > 0 then 1 else 0)
  else if t.f0 = 5 then (rows.getD t.f2.toNat []).getD (nxt st N i) 0
  else 1
def rowV (t : ITime) (rows w : List (List Int)) (st : Nat) : List Int :=
  if t.f0 ≥ 6 then laterV t.f0 (rows.getD t.f2.toNat []) (rows.getD t.f3.toNat []) st w.length else (List.range w.length).map (plainV t rows w st w.length)
def rowsV (w : List (List Int)) (st : Nat) : List ITime → List (List Int) → List (List Int)
  | [], rows => rows
  | t :: r, rows => rowsV w st r (rows ++ [rowV t rows w st])
def RowsOk (rows : List (List Int)) (N : Nat) : Prop := ∀ r ∈ rows, r.length = N ∧ ∀ j, isBit (r.getD j 0)
theorem timeP_cases {facts : Int} {n : Nat} {t : ITime} (hf : 0 ≤ facts ∧ facts ≤ 4) (hn : n ≤ 24) (h : timeP facts n t = true) : t.f0 = 0 ∨ (t.f0 = 1 ∧ 0 ≤ t.f1 ∧ t.f1 < facts) ∨ (2 ≤ t.f0 ∧ t.f0 ≤ 7 ∧ (0 ≤ t.f2 ∧ t.f2 < n) ∧ (0 ≤ t.f3 ∧ t.f3 < n)) := by
  unfold timeP at h
  by_cases h0 : t.f0 = 0
  · exact .inl h0
  rw [if_neg h0, wrap_in (x := facts - 1) (by omega) (by omega), wrap_in (x := (n : Int) - 1) (by omega) (by omega)] at h
  by_cases h1 : t.f0 = 1
  · rw [if_pos h1] at h
    simp only [Bool.and_eq_true, inR_iff] at h
    exact .inr (.inl ⟨h1, by omega, by omega⟩)
  · rw [if_neg h1] at h
    simp only [Bool.and_eq_true, inR_iff] at h
    obtain ⟨a, _, b, c, _⟩ := h
    exact .inr (.inr ⟨by omega, by omega, by omega, by omega⟩)
theorem rows_at {rows : List (List Int)} {N : Nat} (h : RowsOk rows N) {i : Int} (h0 : 0 ≤ i) (h1 : i < rows.length) : rd_Lint rows i = rows.getD i.toNat [] ∧ (rows.getD i.toNat []).length = N ∧ ∀ j, isBit ((rows.getD i.toNat []).getD j 0) := by
  have hm : rows.getD i.toNat [] ∈ rows := by
    rw [List.getD_eq_getElem?_getD, List.getElem?_eq_getElem (by omega)]
    exact List.getElem_mem _
  exact ⟨rfl, h _ hm⟩
theorem spec_l20Next_eq {st N i : Nat} (h : i < N) (hN : N ≤ 1048576) : spec_l20Next.f (i : Int) (st : Int) (N : Int) = some ((nxt st N i : Nat) : Int) := by
  unfold spec_l20Next.f nxt
  rw [wrap_nat (n := i) (m := N) h (by omega)]
  by_cases c : i + 1 < N
  · rw [if_pos (by omega), if_pos c]
  · rw [if_neg (by omega), if_neg c]
theorem nxt_lt {st N i : Nat} (h : st < N) : nxt st N i < N := by unfold nxt; split <;> omega
def vst (G : Nat → Int → Int) (st N : Nat) (v : List Int) : Nat → List Int
  | 0 => v
  | m + 1 => swp G N ((vst G st N v m).getD st 0)
theorem vst_fix {G : Nat → Int → Int} {st N : Nat} {v : List Int} (hst : st < N) (hM : ∀ i, G i 0 ≤ G i 1) (hG : ∀ i n, isBit (G i n)) (hb : isBit (v.getD st 0)) : ∀ m, vst G st N v (m + 2) = swp G N (chn G N (v.getD st 0) (N - 1 - st))
  | 0 => by
    show swp G N ((swp G N (v.getD st 0)).getD st 0) = _
    rw [swp_at hst]
  | m + 1 => by
    show swp G N ((vst G st N v (m + 2)).getD st 0) = _
    rw [vst_fix hst hM hG hb m, swp_at hst, chn_fix hM hG hb]
theorem vst_ok {G : Nat → Int → Int} {st N : Nat} {v : List Int} (hG : ∀ i n, isBit (G i n)) (hv : v.length = N) (hb : ∀ j, isBit (v.getD j 0)) : ∀ m, (vst G st N v m).length = N ∧ ∀ j, isBit ((vst G st N v m).getD j 0)
  | 0 => ⟨hv, hb⟩
  | m + 1 => ⟨swp_len _ _ _, fun j => swp_bit hG j⟩
theorem rep_bit {N : Nat} {x : Int} (hx : isBit x) (j : Nat) : isBit ((List.replicate N x).getD j 0) := by
  rw [List.getD_eq_getElem?_getD]
  by_cases h : j < N
  · rw [List.getElem?_replicate, if_pos h]; exact hx
  · rw [List.getElem?_replicate, if_neg h]; exact .inl rfl
theorem startV_bit (op : Int) : isBit (startV op) := by unfold startV isBit; split <;> simp
theorem spec_l20Later_ev {t : ITime} {rows : List (List Int)} {st N : Nat} (hr : RowsOk rows N) (hop : t.f0 = 6 ∨ t.f0 = 7) (h2 : 0 ≤ t.f2 ∧ t.f2 < rows.length) (h3 : 0 ≤ t.f3 ∧ t.f3 < rows.length) (hst : st < N) (hN : N ≤ 60) :
    Ev (fun k => spec_l20Later.f k t.f0 t.f1 t.f2 t.f3 rows (st : Int) (N : Int)) (laterV t.f0 (rows.getD t.f2.toNat []) (rows.getD t.f3.toNat []) st N) := by
  obtain ⟨ea, la, ba⟩ := rows_at hr h2.1 h2.2
  obtain ⟨eb, lb, bb⟩ := rows_at hr h3.1 h3.2
  unfold spec_l20Later.f laterV
  generalize hA : rows.getD t.f2.toNat [] = a at *
  generalize hB : rows.getD t.f3.toNat [] = b at *
  have hG : ∀ i n, isBit (stG t.f0 a b i n) := stG_bit _ _ _
  have hM : ∀ i, stG t.f0 a b i 0 ≤ stG t.f0 a b i 1 := stG_mono _ _ _
  have hR : vst (stG t.f0 a b) st N (List.replicate N (startV t.f0)) (N + 1) = swp (stG t.f0 a b) N (chn (stG t.f0 a b) N (startV t.f0) (N - 1 - st)) := by
    obtain ⟨m, hm⟩ : ∃ m, N + 1 = m + 2 := ⟨N - 1, by omega⟩
    rw [hm, vst_fix hst hM hG (rep_bit (startV_bit _) _)]
    congr 2
    rw [List.getD_eq_getElem?_getD, List.getElem?_replicate, if_pos hst]; rfl
  rw [← hR]
  generalize hv0 : List.replicate N (startV t.f0) = v0
  have hv0l : v0.length = N := by rw [← hv0]; simp
  have hv0b : ∀ j, isBit (v0.getD j 0) := fun j => by rw [← hv0]; exact rep_bit (startV_bit _) j
  have outer : ∀ d m : Nat, N + 1 - m = d → m ≤ N + 1 → Ev (fun k => spec_l20Later.l1 k rows (st : Int) (N : Int) (vst (stG t.f0 a b) st N v0 m) (m : Int) t.f0 t.f1 t.f2 t.f3) (vst (stG t.f0 a b) st N v0 (N + 1)) := by
    intro d
    induction d with
    | zero =>
      intro m g1 g2
      have : m = N + 1 := by omega
      subst this
      exact Ev.step (fun k => by rw [spec_l20Later.l1]) (ev_neg (by omega) (ev_ret _))
    | succ d ih =>
      intro m g1 g2
      have ih := ih (m + 1) (by omega) (by omega)
      obtain ⟨vl, vb⟩ := vst_ok (st := st) hG hv0l hv0b m
      refine Ev.step (fun k => by rw [spec_l20Later.l1, wrap_in (x := (N : Int) - 1) (by omega) (by omega)]) (ev_pos (by omega) ?_)
      refine ev_sweep (fun k v i => spec_l20Later.l2 k rows (st : Int) (N : Int) v (m : Int) i t.f0 t.f1 t.f2 t.f3) (stG t.f0 a b) st N hG hst _ vl vb (fun i v hi hl hb hn => ?_) ?_
      · have hn1 : nxt st N i < N := nxt_lt hst
        have wd : wrap64 ((i : Int) - 1) = (i : Int) - 1 := wrap_in (by omega) (by omega)
        have ra : rd a (i : Int) = a.getD i 0 := rfl
        have rb : rd b (i : Int) = b.getD i 0 := rfl
        have rv : rd v ((nxt st N i : Nat) : Int) = v.getD (nxt st N i) 0 := rfl
        have hset : ∀ x, (v.set (i : Int).toNat x) = v.set i x := fun x => by rw [Int.toNat_natCast]
        refine Ev.step (fun k => by rw [spec_l20Later.l2, ea, eb, spec_l20Next_eq hi (by omega), wd, ra, rb]) ?_
        clear wd
        refine ev_pos (by omega) (ev_pos h2.1 (ev_pos h2.2 (ev_pos (by omega) (ev_pos (by omega) (ev_pos h3.1 (ev_pos h3.2 (ev_pos (by omega) (ev_bind (ev_ret _) (ev_pos (by omega) (ev_pos (by omega) ?_))))))))))
        rw [rv]
        unfold stG at hn
        have tr : ∀ q : Bool, spec_l1Truth.f q = some (if q = true then 1 else 0) := fun q => by unfold spec_l1Truth.f; cases q <;> rfl
        have put : ∀ x : Int, x = (if t.f0 = 6 then (if b.getD i 0 = 1 ∨ (a.getD i 0 = 1 ∧ v.getD (nxt st N i) 0 = 1) then 1 else 0) else (if b.getD i 0 = 1 ∧ (a.getD i 0 = 1 ∨ v.getD (nxt st N i) 0 = 1) then 1 else 0)) →
            Ev (fun k => if (i : Int) < (v.length : Int) then spec_l20Later.l2 k rows (st : Int) (N : Int) (v.set ((i : Int)).toNat x) (m : Int) ((i : Int) - 1) t.f0 t.f1 t.f2 t.f3 else none) (vst (stG t.f0 a b) st N v0 (N + 1)) := fun x hx => by
          refine ev_pos (by omega) ?_
          rw [hset, hx]
          exact hn
        by_cases o6 : t.f0 = 6
        · refine ev_pos o6 ?_
          by_cases c1 : b.getD i 0 = 1
          · exact ev_pos c1 (ev_bind (ev_fix (show spec_l1Truth.f true = some 1 from rfl)) (put _ (by rw [if_pos o6, if_pos (.inl c1)])))
          · refine ev_neg c1 ?_
            by_cases c2 : a.getD i 0 = 1
            · refine ev_pos c2 (ev_bind (ev_fix (tr _)) (put _ ?_))
              rw [if_pos o6]
              by_cases c3 : v.getD (nxt st N i) 0 = 1
              · rw [if_pos (by simpa using c3), if_pos (.inr ⟨c2, c3⟩)]
              · rw [if_neg (by simpa using c3), if_neg (fun h => h.elim c1 fun h => c3 h.2)]
            · exact ev_neg c2 (ev_bind (ev_fix (show spec_l1Truth.f false = some 0 from rfl)) (put _ (by rw [if_pos o6, if_neg (fun h => h.elim c1 fun h => c2 h.1)])))
        · refine ev_neg o6 ?_
          by_cases c1 : b.getD i 0 = 1
          · refine ev_pos c1 ?_
            by_cases c2 : a.getD i 0 = 1
            · exact ev_pos c2 (ev_bind (ev_fix (show spec_l1Truth.f true = some 1 from rfl)) (put _ (by rw [if_neg o6, if_pos ⟨c1, .inl c2⟩])))
            · refine ev_neg c2 (ev_bind (ev_fix (tr _)) (put _ ?_))
              rw [if_neg o6]
              by_cases c3 : v.getD (nxt st N i) 0 = 1
              · rw [if_pos (by simpa using c3), if_pos ⟨c1, .inr c3⟩]
              · rw [if_neg (by simpa using c3), if_neg (fun h => h.2.elim c2 c3)]
          · exact ev_neg c1 (ev_bind (ev_fix (show spec_l1Truth.f false = some 0 from rfl)) (put _ (by rw [if_neg o6, if_neg (fun h => c1 h.1)])))
      · have ih' : Ev (fun k => spec_l20Later.l1 k rows (st : Int) (N : Int) (swp (stG t.f0 a b) N ((vst (stG t.f0 a b) st N v0 m).getD st 0)) ((m + 1 : Nat) : Int) t.f0 t.f1 t.f2 t.f3) (vst (stG t.f0 a b) st N v0 (N + 1)) := ih
        exact Ev.step (fun k => by rw [spec_l20Later.l2, show wrap64 ((m : Int) + 1) = ((m + 1 : Nat) : Int) from wrap_nat (m := 1048576) (by omega) (by omega)]) (ev_neg (by omega) ih')
  have fill : ∀ d n : Nat, N - n = d → n ≤ N → Ev (fun k => spec_l20Later.l0 k rows (st : Int) (N : Int) (List.replicate n (startV t.f0)) (n : Int) t.f0 t.f1 t.f2 t.f3) (vst (stG t.f0 a b) st N v0 (N + 1)) := by
    intro d
    induction d with
    | zero =>
      intro n g1 g2
      have : n = N := by omega
      subst this
      rw [hv0]
      have o0 : Ev (fun k => spec_l20Later.l1 k rows (st : Int) (n : Int) v0 0 t.f0 t.f1 t.f2 t.f3) (vst (stG t.f0 a b) st n v0 (n + 1)) := outer (n + 1) 0 (by omega) (by omega)
      exact Ev.step (fun k => by rw [spec_l20Later.l0]) (ev_neg (by omega) o0)
    | succ d ih =>
      intro n g1 g2
      have ih := ih (n + 1) (by omega) (by omega)
      rw [List.replicate_succ', ← show startV t.f0 = startV t.f0 from rfl] at ih
      refine Ev.step (fun k => by rw [spec_l20Later.l0, wrap_nat (n := n) (m := N) (by omega) (by omega)]) (ev_pos (by omega) ?_)
      rcases hop with o | o
      · have e : startV t.f0 = 0 := by unfold startV; rw [if_neg (by omega)]
        rw [e] at ih ⊢
        exact ev_neg (by omega) (ev_pos (by simp; omega) ih)
      · have e : startV t.f0 = 1 := by unfold startV; rw [if_pos o]
        rw [e] at ih ⊢
        exact ev_pos o (ev_pos (by simp; omega) ih)
  exact fill N 0 (by omega) (by omega)
theorem bit_or_and {a b n : Int} (ha : isBit a) (hb : isBit b) (hn : isBit n) : Go.bits .or .i64 b (Go.bits .and .i64 a n) = (if b = 1 ∨ (a = 1 ∧ n = 1) then 1 else 0) ∧ Go.bits .and .i64 b (Go.bits .or .i64 a n) = (if b = 1 ∧ (a = 1 ∨ n = 1) then 1 else 0) ∧ Go.bits .and .i64 a b = a * b ∧ Go.bits .or .i64 a b = (if a + b > 0 then 1 else 0) := by
  unfold isBit at ha hb hn
  rcases ha with rfl | rfl <;> rcases hb with rfl | rfl <;> rcases hn with rfl | rfl <;> decide +kernel
theorem spec_l3At_eq2 {a b : List (List Int)} {i : Nat} (hb : 0 < b.length) (hi : i < a.length + b.length) (hn : a.length + b.length ≤ 9999999) : spec_l3At.f a b (i : Int) = some ((a ++ b).getD i []) := by
  rw [spec_l3At_eq hb (by omega) hn]
  unfold lasAll
  rw [← List.append_assoc, List.getD_eq_getElem?_getD, List.getElem?_append_left (by rw [List.length_append]; omega), ← List.getD_eq_getElem?_getD]
theorem plainV_bit {t : ITime} {rows w : List (List Int)} {st N : Nat} (hr : RowsOk rows N) (hw : ∀ x ∈ w, areBits x = true) (hc : t.f0 = 0 ∨ t.f0 = 1 ∨ ((0 ≤ t.f2 ∧ t.f2 < rows.length) ∧ (0 ≤ t.f3 ∧ t.f3 < rows.length))) (i : Nat) : isBit (plainV t rows w st N i) := by
  unfold plainV
  by_cases c1 : t.f0 = 1
  · rw [if_pos c1]
    by_cases h : i < w.length
    · have hm : w.getD i [] ∈ w := by rw [List.getD_eq_getElem?_getD, List.getElem?_eq_getElem h]; exact List.getElem_mem _
      exact bits_at (hw _ hm) _
    · have e : w.getD i [] = [] := by rw [List.getD_eq_getElem?_getD, List.getElem?_eq_none (by omega)]; rfl
      rw [e]
      exact .inl (by simp)
  rw [if_neg c1]
  by_cases c0 : t.f0 = 0
  · rw [if_neg (by omega), if_neg (by omega), if_neg (by omega), if_neg (by omega)]; exact .inr rfl
  obtain ⟨h2, h3⟩ : (0 ≤ t.f2 ∧ t.f2 < rows.length) ∧ (0 ≤ t.f3 ∧ t.f3 < rows.length) := by
    rcases hc with h | h | h
    · exact absurd h c0
    · exact absurd h c1
    · exact h
  obtain ⟨_, _, ba⟩ := rows_at hr h2.1 h2.2
  obtain ⟨_, _, bb⟩ := rows_at hr h3.1 h3.2
  have a := ba i
  have b := bb i
  have n := ba (nxt st N i)
  generalize (rows.getD t.f2.toNat []).getD i 0 = x at *
  generalize (rows.getD t.f3.toNat []).getD i 0 = y at *
  generalize (rows.getD t.f2.toNat []).getD (nxt st N i) 0 = z at *
  unfold isBit at *
  split
  · omega
  · split
    · rcases a with rfl | rfl <;> rcases b with rfl | rfl <;> decide
    · split
      · split <;> omega
      · split
        · exact n
        · omega
theorem spec_l20Row_ev {t : ITime} {rows stem loop : List (List Int)} {facts : Int} (hw : wordP stem loop facts = true) (hr : RowsOk rows (stem.length + loop.length)) (hc : t.f0 = 0 ∨ (t.f0 = 1 ∧ 0 ≤ t.f1 ∧ t.f1 < facts) ∨ (2 ≤ t.f0 ∧ t.f0 ≤ 7 ∧ (0 ≤ t.f2 ∧ t.f2 < rows.length) ∧ (0 ≤ t.f3 ∧ t.f3 < rows.length))) :
    Ev (fun k => spec_l20Row.f k t.f0 t.f1 t.f2 t.f3 rows stem loop) (rowV t rows (stem ++ loop) stem.length) := by
  obtain ⟨hf, hl, hN, hx⟩ := wordP_and hw
  have hst : stem.length < stem.length + loop.length := by omega
  unfold spec_l20Row.f rowV
  rw [List.length_append, wrap_in (x := (stem.length : Int) + loop.length) (by omega) (by omega), ← Int.natCast_add]
  generalize hNN : stem.length + loop.length = N at *
  by_cases c6 : t.f0 ≥ 6
  · rw [if_pos c6]
    obtain ⟨h2, h3⟩ : (0 ≤ t.f2 ∧ t.f2 < rows.length) ∧ (0 ≤ t.f3 ∧ t.f3 < rows.length) := by
      rcases hc with h | h | h
      · omega
      · omega
      · exact h.2.2
    exact ev_pos c6 (ev_bind (spec_l20Later_ev hr (by omega) h2 h3 hst hN) (ev_ret _))
  · rw [if_neg c6]
    refine ev_neg c6 ?_
    have key : ∀ d n : Nat, N - n = d → n ≤ N → Ev (fun k => spec_l20Row.l0 k rows stem loop (N : Int) ((List.range n).map (plainV t rows (stem ++ loop) stem.length N)) (n : Int) t.f0 t.f1 t.f2 t.f3) ((List.range N).map (plainV t rows (stem ++ loop) stem.length N)) := by
      intro d
      induction d with
      | zero =>
        intro n g1 g2
        have : n = N := by omega
        subst this
        exact Ev.step (fun k => by rw [spec_l20Row.l0]) (ev_neg (by omega) (ev_ret _))
      | succ d ih =>
        intro n g1 g2
        have hn : n < N := by omega
        have ih := ih (n + 1) (by omega) (by omega)
        rw [List.range_succ, List.map_append, List.map_cons, List.map_nil] at ih
        have hln : ((List.range n).map (plainV t rows (stem ++ loop) stem.length N)).length < 17592186044416 := by simp; omega
        have hnx : nxt stem.length N n < N := nxt_lt hst
        refine Ev.step (fun k => by rw [spec_l20Row.l0, wrap_nat hn (by omega), spec_l3At_eq2 hl (by omega) (by omega), spec_l20Next_eq hn (by omega)]) (ev_pos (by omega) ?_)
        by_cases c1 : t.f0 = 1
        · obtain ⟨f0, f1⟩ : 0 ≤ t.f1 ∧ t.f1 < facts := by rcases hc with h | h | h <;> omega
          have hm : (stem ++ loop).getD n [] ∈ stem ++ loop := by rw [List.getD_eq_getElem?_getD, List.getElem?_eq_getElem (by rw [List.length_append]; omega)]; exact List.getElem_mem _
          have hlen := (hx _ hm).1
          have e : plainV t rows (stem ++ loop) stem.length N n = rd ((stem ++ loop).getD n []) t.f1 := by unfold plainV; rw [if_pos c1]; rfl
          rw [e] at ih
          exact ev_pos c1 (ev_bind (ev_ret _) (ev_pos f0 (ev_pos (by omega) (ev_pos hln ih))))
        refine ev_neg c1 ?_
        by_cases c0 : t.f0 = 0
        · have e : plainV t rows (stem ++ loop) stem.length N n = 1 := by unfold plainV; rw [if_neg c1, if_neg (by omega), if_neg (by omega), if_neg (by omega), if_neg (by omega)]
          rw [e] at ih
          exact ev_neg (by omega) (ev_neg (by omega) (ev_neg (by omega) (ev_neg (by omega) (ev_pos hln ih))))
        obtain ⟨h2, h3⟩ : (0 ≤ t.f2 ∧ t.f2 < rows.length) ∧ (0 ≤ t.f3 ∧ t.f3 < rows.length) := by
          rcases hc with h | h | h
          · exact absurd h c0
          · exact absurd h.1 c1
          · exact h.2.2
        obtain ⟨ea, la, ba⟩ := rows_at hr h2.1 h2.2
        obtain ⟨eb, lb, bb⟩ := rows_at hr h3.1 h3.2
        have ba' := ba n
        have bb' := bb n
        unfold isBit at ba' bb'
        have ra : rd (rd_Lint rows t.f2) (n : Int) = (rows.getD t.f2.toNat []).getD n 0 := rfl
        have rb : rd (rd_Lint rows t.f3) (n : Int) = (rows.getD t.f3.toNat []).getD n 0 := rfl
        by_cases c2 : t.f0 = 2
        · have e : plainV t rows (stem ++ loop) stem.length N n = 1 - (rows.getD t.f2.toNat []).getD n 0 := by unfold plainV; rw [if_neg c1, if_pos c2]
          rw [e] at ih
          refine ev_pos c2 (ev_pos h2.1 (ev_pos h2.2 (ev_pos (by omega) (ev_pos (by rw [ea]; omega) (ev_pos hln ?_)))))
          rw [ra, wrap_in (by omega) (by omega)]
          exact ih
        refine ev_neg c2 ?_
        by_cases c3 : t.f0 = 3
        · have e : plainV t rows (stem ++ loop) stem.length N n = (rows.getD t.f2.toNat []).getD n 0 * (rows.getD t.f3.toNat []).getD n 0 := by unfold plainV; rw [if_neg c1, if_neg c2, if_pos c3]
          rw [e] at ih
          refine ev_pos c3 (ev_pos h2.1 (ev_pos h2.2 (ev_pos (by omega) (ev_pos (by rw [ea]; omega) (ev_pos h3.1 (ev_pos h3.2 (ev_pos (by rw [eb]; omega) (ev_pos hln ?_))))))))
          rw [ra, rb, (mul_bit ba' bb').2.1]
          exact ih
        refine ev_neg c3 ?_
        by_cases c4 : t.f0 = 4
        · have e : plainV t rows (stem ++ loop) stem.length N n = (if (rows.getD t.f2.toNat []).getD n 0 + (rows.getD t.f3.toNat []).getD n 0 > 0 then 1 else 0) := by unfold plainV; rw [if_neg c1, if_neg c2, if_neg c3, if_pos c4]
          rw [e] at ih
          refine ev_pos c4 (ev_pos h2.1 (ev_pos h2.2 (ev_pos (by omega) (ev_pos (by rw [ea]; omega) (ev_pos h3.1 (ev_pos h3.2 (ev_pos (by rw [eb]; omega) ?_)))))))
          rw [ra, rb, wrap_in (by omega) (by omega)]
          refine ev_bind (ev_fix (by unfold spec_l1Truth.f; simp only [decide_eq_true_eq]; rw [← apply_ite some])) (ev_pos hln ih)
        refine ev_neg c4 ?_
        have c5 : t.f0 = 5 := by rcases hc with h | h | h <;> omega
        have e : plainV t rows (stem ++ loop) stem.length N n = rd (rd_Lint rows t.f2) ((nxt stem.length N n : Nat) : Int) := by unfold plainV; rw [if_neg c1, if_neg c2, if_neg c3, if_neg c4, if_pos c5]; rfl
        rw [e] at ih
        exact ev_pos c5 (ev_pos h2.1 (ev_pos h2.2 (ev_bind (ev_ret _) (ev_pos (by omega) (ev_pos (by rw [ea]; omega) (ev_pos hln ih))))))
    exact key N 0 (by omega) (by omega)
theorem rowV_ok {t : ITime} {rows w : List (List Int)} {st : Nat} (hr : RowsOk rows w.length) (hw : ∀ x ∈ w, areBits x = true) (hc : t.f0 = 0 ∨ t.f0 = 1 ∨ ((0 ≤ t.f2 ∧ t.f2 < rows.length) ∧ (0 ≤ t.f3 ∧ t.f3 < rows.length))) : (rowV t rows w st).length = w.length ∧ ∀ j, isBit ((rowV t rows w st).getD j 0) := by
  unfold rowV
  split
  · unfold laterV
    exact ⟨swp_len _ _ _, fun j => swp_bit (stG_bit _ _ _) j⟩
  · refine ⟨by simp, fun j => ?_⟩
    rw [List.getD_eq_getElem?_getD, List.getElem?_map]
    by_cases h : j < w.length
    · rw [List.getElem?_range h]
      exact plainV_bit hr hw hc j
    · rw [List.getElem?_eq_none (by simp; omega)]
      exact .inl rfl
theorem timeP_ops {facts : Int} {n : Nat} {t : ITime} (h : t.f0 = 0 ∨ (t.f0 = 1 ∧ 0 ≤ t.f1 ∧ t.f1 < facts) ∨ (2 ≤ t.f0 ∧ t.f0 ≤ 7 ∧ (0 ≤ t.f2 ∧ t.f2 < (n : Int)) ∧ (0 ≤ t.f3 ∧ t.f3 < (n : Int)))) : t.f0 = 0 ∨ t.f0 = 1 ∨ ((0 ≤ t.f2 ∧ t.f2 < (n : Int)) ∧ (0 ≤ t.f3 ∧ t.f3 < (n : Int))) := by
  rcases h with h | h | h
  · exact .inl h
  · exact .inr (.inl h.1)
  · exact .inr (.inr h.2.2)
theorem rowsOk_snoc {rows : List (List Int)} {N : Nat} {r : List Int} (h : RowsOk rows N) (hr : r.length = N ∧ ∀ j, isBit (r.getD j 0)) : RowsOk (rows ++ [r]) N := fun x hx => by
  rcases List.mem_append.1 hx with hx | hx
  · exact h x hx
  · rw [List.mem_singleton.1 hx]; exact hr
theorem allI_at {α : Type} {p : Nat → α → Bool} : ∀ {l : List α} {n : Nat}, allI p n l = true → ∀ (i : Nat) (x : α), l[i]? = some x → p (n + i) x = true
  | [], n, _, i, x, hx => by simp at hx
  | y :: l, n, h, 0, x, hx => by
    obtain rfl : y = x := by simpa using hx
    unfold allI at h
    rw [Bool.and_eq_true] at h
    exact h.1
  | y :: l, n, h, i + 1, x, hx => by
    unfold allI at h
    rw [Bool.and_eq_true] at h
    have := allI_at h.2 i x (by simpa using hx)
    rw [show n + (i + 1) = n + 1 + i by omega]
    exact this
theorem timesP_at {list : List ITime} {facts : Int} (h : timesP list facts = true) (i : Nat) (t : ITime) (ht : list[i]? = some t) : t.f0 = 0 ∨ (t.f0 = 1 ∧ 0 ≤ t.f1 ∧ t.f1 < facts) ∨ (2 ≤ t.f0 ∧ t.f0 ≤ 7 ∧ (0 ≤ t.f2 ∧ t.f2 < (i : Int)) ∧ (0 ≤ t.f3 ∧ t.f3 < (i : Int))) := by
  obtain ⟨h1, h2, h3⟩ := timesP_in h
  unfold timesP at h
  simp only [Bool.and_eq_true] at h
  have := allI_at h.2.2 i t ht
  rw [Nat.zero_add] at this
  have hi : i < list.length := by
    rcases Nat.lt_or_ge i list.length with h | h
    · exact h
    · rw [List.getElem?_eq_none h] at ht; cases ht
  exact timeP_cases h1 (by omega) this
theorem rowsV_snoc (w : List (List Int)) (st : Nat) : ∀ (l : List ITime) (rows : List (List Int)), (rowsV w st l rows).length = rows.length + l.length
  | [], rows => by simp [rowsV]
  | t :: r, rows => by
    unfold rowsV
    rw [rowsV_snoc w st r]
    simp only [List.length_append, List.length_cons, List.length_nil]
    omega
theorem rowsV_ok {w : List (List Int)} {st : Nat} {facts : Int} {list : List ITime} (hw : ∀ x ∈ w, areBits x = true) (h : timesP list facts = true) : ∀ (l : List ITime) (n : Nat) (rows : List (List Int)), list.drop n = l → rows.length = n → RowsOk rows w.length → RowsOk (rowsV w st l rows) w.length
  | [], n, rows, _, _, hr => hr
  | t :: r, n, rows, hd, hn, hr => by
    have ht : list[n]? = some t := by
      have := congrArg (fun l => l[0]?) hd
      simpa using this
    have hc := timesP_at h n t ht
    rw [← hn] at hc
    unfold rowsV
    refine rowsV_ok hw h r (n + 1) _ ?_ (by simp [hn]) (rowsOk_snoc hr (rowV_ok hr hw (timeP_ops hc)))
    have := congrArg List.tail hd
    simpa using this
theorem spec_TimesOn_ev {stem loop : List (List Int)} {list : List ITime} {facts : Int} (h1 : stem.length ≤ 1048576 ∧ ∀ x ∈ stem, x.length ≤ 1048576) (h2 : loop.length ≤ 1048576 ∧ ∀ x ∈ loop, x.length ≤ 1048576) (hl : list.length ≤ 1048576) :
    Ev (fun k => spec_TimesOn.f k list stem loop facts) (if (timesP list facts && wordP stem loop facts) = true then rowsV (stem ++ loop) stem.length list [] else []) := by
  unfold spec_TimesOn.f
  refine ev_bind (spec_TimesValid_ev list facts (by omega)) ?_
  cases c : timesP list facts with
  | false => exact ev_neg (by simp) (Ev.step (fun k => by rw [spec_TimesOn.j0]) (ev_pos rfl (ev_eq (ev_ret _) (by simp))))
  | true =>
    refine ev_pos rfl (ev_bind (spec_WordValid_ev stem loop facts h1 h2) (Ev.step (fun k => by rw [spec_TimesOn.j0]) ?_))
    cases d : wordP stem loop facts with
    | false => exact ev_pos rfl (ev_eq (ev_ret _) (by simp))
    | true =>
      obtain ⟨hf, hlp, hN, hx⟩ := wordP_and d
      obtain ⟨_, hl1, hl2⟩ := timesP_in c
      rw [if_pos (by simp)]
      refine ev_neg (by simp) ?_
      have key : ∀ (dd n : Nat), list.length - n = dd → n ≤ list.length → ∀ rows : List (List Int), rows.length = n → RowsOk rows (stem.length + loop.length) → Ev (fun k => spec_TimesOn.l0 k list stem loop rows (n : Int)) (rowsV (stem ++ loop) stem.length (list.drop n) rows) := by
        intro dd
        induction dd with
        | zero =>
          intro n g1 g2 rows g3 g4
          have : n = list.length := by omega
          subst this
          rw [List.drop_length]
          exact Ev.step (fun k => by rw [spec_TimesOn.l0]) (ev_neg (by omega) (ev_eq (ev_ret _) (by simp [rowsV])))
        | succ dd ih =>
          intro n g1 g2 rows g3 g4
          have hn : n < list.length := by omega
          have ht : list[n]? = some list[n] := List.getElem?_eq_getElem hn
          have hc := timesP_at c n list[n] ht
          rw [List.drop_eq_getElem_cons hn]
          have hrd : rd_ITime list (n : Int) = list[n] := getD_of ht
          generalize list[n] = t at *
          rw [← g3] at hc
          have hok := rowV_ok (st := stem.length) (w := stem ++ loop) (by rw [List.length_append]; exact g4) (fun x hx' => (hx x hx').2) (timeP_ops hc)
          rw [List.length_append] at hok
          unfold rowsV
          refine Ev.step (fun k => by rw [spec_TimesOn.l0, hrd, wrap_nat hn (by omega)]) (ev_pos (by omega) (ev_pos (by omega) (ev_bind (spec_l20Row_ev d g4 hc) (ev_pos (show rows.length < 5864062014805 by omega) ?_))))
          exact ih (n + 1) (by omega) (by omega) _ (by simp [g3]) (rowsOk_snoc g4 hok)
      have := key list.length 0 (by omega) (by omega) [] rfl (fun r hr => by cases hr)
      simpa using this
def genG (t : ITime) (rows w : List (List Int)) (st N : Nat) (i : Nat) (n : Int) : Int :=
  if t.f0 ≥ 6 then stG t.f0 (rows.getD t.f2.toNat []) (rows.getD t.f3.toNat []) i n else plainV t rows w st N i
theorem chn_plain {G : Nat → Int → Int} {P : Nat → Int} {N : Nat} {y : Int} (hG : ∀ i n, G i n = P i) : ∀ d, d < N → chn G N y d = P (N - 1 - d)
  | 0, _ => hG _ _
  | d + 1, _ => hG _ _
theorem genG_row (t : ITime) (rows w : List (List Int)) (st : Nat) (hst : st < w.length) : swp (genG t rows w st w.length) w.length (chn (genG t rows w st w.length) w.length (startV t.f0) (w.length - 1 - st)) = rowV t rows w st := by
  unfold rowV
  by_cases c : t.f0 ≥ 6
  · rw [if_pos c]
    have e : genG t rows w st w.length = stG t.f0 (rows.getD t.f2.toNat []) (rows.getD t.f3.toNat []) := by
      funext i n
      unfold genG
      rw [if_pos c]
    rw [e]; rfl
  · rw [if_neg c]
    have hG : ∀ i n, genG t rows w st w.length i n = plainV t rows w st w.length i := fun i n => by unfold genG; rw [if_neg c]
    unfold swp
    refine List.map_congr_left fun i hi => ?_
    have := List.mem_range.1 hi
    rw [chn_plain hG _ (by omega)]
    congr 1
    omega
theorem impl_behind_eq {st N i : Nat} {stem : List (List Int)} (hs : stem.length = st) (h : i < N) (hN : N ≤ 1048576) (k : Nat) : impl_timesOn_1.f k (i : Int) (N : Int) stem = some ((nxt st N i : Nat) : Int) := by
  unfold impl_timesOn_1.f nxt
  rw [wrap_nat (n := i) (m := N) h (by omega)]
  by_cases c : i + 1 < N
  · rw [if_neg (by omega), if_pos c]
  · rw [if_pos (by omega), if_neg c, hs]
theorem rd_rep {rows : List (List Int)} {m : Nat} {i : Int} (h0 : 0 ≤ i) (h1 : i < rows.length) : rd_Lint (rows ++ List.replicate m []) i = rows.getD i.toNat [] := by
  show (rows ++ List.replicate m []).getD i.toNat [] = _
  rw [List.getD_eq_getElem?_getD, List.getElem?_append_left (by omega), ← List.getD_eq_getElem?_getD]
theorem impl_step_ev {t : ITime} {rows stem loop : List (List Int)} {facts : Int} {m : Nat} (hw : wordP stem loop facts = true) (hr : RowsOk rows (stem.length + loop.length)) (hc : t.f0 = 0 ∨ (t.f0 = 1 ∧ 0 ≤ t.f1 ∧ t.f1 < facts) ∨ (2 ≤ t.f0 ∧ t.f0 ≤ 7 ∧ (0 ≤ t.f2 ∧ t.f2 < rows.length) ∧ (0 ≤ t.f3 ∧ t.f3 < rows.length)))
    {i : Nat} (hi : i < stem.length + loop.length) {v : List Int} (hv : v.length = stem.length + loop.length) (hb : ∀ j, isBit (v.getD j 0)) :
    Ev (fun k => impl_timesOn_2.f k (i : Int) t.f0 t.f1 t.f2 t.f3 (rows ++ List.replicate m []) (stem ++ loop) ((stem ++ loop).length : Int) stem v) (genG t rows (stem ++ loop) stem.length (stem ++ loop).length i (v.getD (nxt stem.length (stem ++ loop).length i) 0)) := by
  obtain ⟨hf, hlp, hN, hx⟩ := wordP_and hw
  have hlen : (stem ++ loop).length = stem.length + loop.length := List.length_append
  have hst : stem.length < (stem ++ loop).length := by omega
  rw [← hlen] at hr hi hv hN
  generalize hW : stem ++ loop = w at *
  generalize hNN : w.length = N at *
  have hnx : nxt stem.length N i < N := nxt_lt hst
  have hbe : Ev (fun k => impl_timesOn_1.f k (i : Int) (N : Int) stem) ((nxt stem.length N i : Nat) : Int) := ⟨0, fun k _ => impl_behind_eq rfl hi (by omega) k⟩
  have hm : w.getD i [] ∈ w := by rw [List.getD_eq_getElem?_getD, List.getElem?_eq_getElem (by omega)]; exact List.getElem_mem _
  unfold impl_timesOn_2.f genG
  by_cases c0 : t.f0 = 0
  · refine ev_neg (by omega) (Ev.step (fun k => by rw [impl_timesOn_2.j1]) (ev_pos c0 (ev_eq (ev_ret _) ?_)))
    rw [if_neg (by omega)]
    unfold plainV
    rw [if_neg (by omega), if_neg (by omega), if_neg (by omega), if_neg (by omega), if_neg (by omega)]
  by_cases c1 : t.f0 = 1
  · obtain ⟨f0, f1⟩ : 0 ≤ t.f1 ∧ t.f1 < facts := by rcases hc with h | h | h <;> omega
    have hl1 := (hx _ hm).1
    refine ev_neg (by omega) (Ev.step (fun k => by rw [impl_timesOn_2.j1]) (ev_neg c0 (ev_pos c1 (ev_pos (by omega) (ev_pos (by omega) (ev_pos f0 (ev_pos (show t.f1 < ((rd_Lint w (i : Int)).length : Int) from (show t.f1 < ((w.getD i []).length : Int) by omega)) (ev_eq (ev_ret _) ?_))))))))
    rw [if_neg (by omega)]
    unfold plainV
    rw [if_pos c1]
    rfl
  obtain ⟨h2, h3⟩ : (0 ≤ t.f2 ∧ t.f2 < rows.length) ∧ (0 ≤ t.f3 ∧ t.f3 < rows.length) := by
    rcases hc with h | h | h
    · exact absurd h c0
    · exact absurd h.1 c1
    · exact h.2.2
  have hge : t.f0 > 1 := by rcases hc with h | h | h <;> omega
  obtain ⟨_, la, ba⟩ := rows_at hr h2.1 h2.2
  obtain ⟨_, lb, bb⟩ := rows_at hr h3.1 h3.2
  have ba' := ba i
  have bb' := bb i
  have bn := hb (nxt stem.length N i)
  have ra : rd (rows.getD t.f2.toNat []) (i : Int) = (rows.getD t.f2.toNat []).getD i 0 := rfl
  have rb : rd (rows.getD t.f3.toNat []) (i : Int) = (rows.getD t.f3.toNat []).getD i 0 := rfl
  have rv : rd v ((nxt stem.length N i : Nat) : Int) = v.getD (nxt stem.length N i) 0 := rfl
  obtain ⟨o1, o2, o3, o4⟩ := bit_or_and ba' bb' bn
  have hrl : (rows ++ List.replicate m ([] : List Int)).length = rows.length + m := by simp
  refine ev_pos hge (ev_pos h2.1 (ev_pos (by rw [hrl]; omega) ?_))
  rw [rd_rep h2.1 h2.2, rd_rep h3.1 h3.2, ra, rb]
  refine ev_pos (by omega) (ev_pos (by omega) (ev_pos h3.1 (ev_pos (by rw [hrl]; omega) (ev_pos (by omega) (ev_pos (by omega) (Ev.step (fun k => by rw [impl_timesOn_2.j1]) (ev_neg c0 (ev_neg c1 ?_))))))))
  unfold isBit at ba' bb'
  by_cases c2 : t.f0 = 2
  · refine ev_pos c2 (ev_eq (ev_ret _) ?_)
    rw [if_neg (by omega), wrap_in (by omega) (by omega)]
    unfold plainV
    rw [if_neg c1, if_pos c2]
  refine ev_neg c2 ?_
  by_cases c3 : t.f0 = 3
  · refine ev_pos c3 (ev_eq (ev_ret _) ?_)
    rw [if_neg (by omega), o3]
    unfold plainV
    rw [if_neg c1, if_neg c2, if_pos c3]
  refine ev_neg c3 ?_
  by_cases c4 : t.f0 = 4
  · refine ev_pos c4 (ev_eq (ev_ret _) ?_)
    rw [if_neg (by omega), o4]
    unfold plainV
    rw [if_neg c1, if_neg c2, if_neg c3, if_pos c4]
  refine ev_neg c4 ?_
  by_cases c5 : t.f0 = 5
  · refine ev_pos c5 (ev_pos h2.1 (ev_pos (by rw [hrl]; omega) (ev_bind hbe ?_)))
    rw [rd_rep h2.1 h2.2]
    refine ev_pos (by omega) (ev_pos (by omega) (ev_eq (ev_ret _) ?_))
    rw [if_neg (by omega)]
    unfold plainV
    rw [if_neg c1, if_neg c2, if_neg c3, if_neg c4, if_pos c5]
    rfl
  refine ev_neg c5 ?_
  rw [if_pos (show t.f0 ≥ 6 by omega)]
  unfold stG
  by_cases c6 : t.f0 = 6
  · refine ev_pos c6 (ev_bind hbe (ev_pos (by omega) (ev_pos (by omega) (ev_eq (ev_ret _) ?_))))
    rw [if_pos c6, rv, o1]
  · refine ev_neg c6 (ev_bind hbe (ev_pos (by omega) (ev_pos (by omega) (ev_eq (ev_ret _) ?_))))
    rw [if_neg c6, rv, o2]
theorem genG_bit {t : ITime} {rows w : List (List Int)} {st : Nat} (hr : RowsOk rows w.length) (hw : ∀ x ∈ w, areBits x = true) (hc : t.f0 = 0 ∨ t.f0 = 1 ∨ ((0 ≤ t.f2 ∧ t.f2 < rows.length) ∧ (0 ≤ t.f3 ∧ t.f3 < rows.length))) (i : Nat) (n : Int) : isBit (genG t rows w st w.length i n) := by
  unfold genG
  split
  · exact stG_bit _ _ _ _ _
  · exact plainV_bit hr hw hc i
theorem genG_mono (t : ITime) (rows w : List (List Int)) (st : Nat) (i : Nat) : genG t rows w st w.length i 0 ≤ genG t rows w st w.length i 1 := by
  unfold genG
  split
  · exact stG_mono _ _ _ _
  · exact Int.le_refl _
theorem impl_timesOn_ev {stem loop : List (List Int)} {list : List ITime} {facts : Int} (c : timesP list facts = true) (d : wordP stem loop facts = true) : Ev (fun k => impl_timesOn.f k list stem loop) (rowsV (stem ++ loop) stem.length list []) := by
  obtain ⟨hf, hlp, hN, hx⟩ := wordP_and d
  obtain ⟨_, hl1, hl2⟩ := timesP_in c
  have hlen : (stem ++ loop).length = stem.length + loop.length := List.length_append
  have hst : stem.length < (stem ++ loop).length := by omega
  unfold impl_timesOn.f
  refine ev_bind (concat2_ev stem loop (by omega)) (ev_pos (by omega) (ev_pos (by omega) ?_))
  rw [Int.toNat_natCast]
  have key : ∀ (dd n : Nat), list.length - n = dd → n ≤ list.length → ∀ rows : List (List Int), rows.length = n → RowsOk rows (stem.length + loop.length) → Ev (fun k => impl_timesOn.l1 k (rows ++ List.replicate (list.length - n) []) (n : Int) list stem (stem ++ loop)) (rowsV (stem ++ loop) stem.length (list.drop n) rows) := by
    intro dd
    induction dd with
    | zero =>
      intro n g1 g2 rows g3 g4
      have : n = list.length := by omega
      subst this
      rw [List.drop_length]
      exact Ev.step (fun k => by rw [impl_timesOn.l1]) (ev_neg (by omega) (ev_eq (ev_ret _) (by simp [rowsV])))
    | succ dd ih =>
      intro n g1 g2 rows g3 g4
      have hn : n < list.length := by omega
      have ht : list[n]? = some list[n] := List.getElem?_eq_getElem hn
      have hc := timesP_at c n list[n] ht
      rw [List.drop_eq_getElem_cons hn]
      have hrd : rd_ITime list (n : Int) = list[n] := getD_of ht
      generalize list[n] = t at *
      rw [← g3] at hc
      have g4' : RowsOk rows (stem ++ loop).length := by rw [hlen]; exact g4
      have hok := rowV_ok (st := stem.length) g4' (fun x hx' => (hx x hx').2) (timeP_ops hc)
      have hG := genG_bit (st := stem.length) g4' (fun x hx' => (hx x hx').2) (timeP_ops hc)
      have hM := genG_mono t rows (stem ++ loop) stem.length
      have ih := ih (n + 1) (by omega) (by omega) (rows ++ [rowV t rows (stem ++ loop) stem.length]) (by simp [g3]) (rowsOk_snoc g4 (by rw [← hlen]; exact hok))
      unfold rowsV
      generalize hrep : rows ++ List.replicate (list.length - n) ([] : List Int) = R
      have hRl : R.length = list.length := by rw [← hrep]; simp; omega
      have hset : ∀ x, R.set n x = rows ++ [x] ++ List.replicate (list.length - (n + 1)) [] := fun x => by
        rw [← hrep, List.set_append, if_neg (by omega), g3, Nat.sub_self, show list.length - n = (list.length - (n + 1)) + 1 by omega, List.replicate_succ, List.set_cons_zero, List.append_assoc]
        rfl
      have fin : ∀ v, v = rowV t rows (stem ++ loop) stem.length → Ev (fun k => if (0 : Int) ≤ (n : Int) then (if (n : Int) < (R.length : Int) then impl_timesOn.l1 k (R.set ((n : Int)).toNat v) (wrap64 ((n : Int) + 1)) list stem (stem ++ loop) else none) else none) (rowsV (stem ++ loop) stem.length (list.drop (n + 1)) (rows ++ [rowV t rows (stem ++ loop) stem.length])) := fun v hv => by
        refine ev_pos (by omega) (ev_pos (by omega) ?_)
        rw [Int.toNat_natCast, hset, hv, wrap_nat hn (by omega)]
        exact ih
      -- two sweeps
      have hv0l : (List.replicate (stem ++ loop).length (startV t.f0)).length = (stem ++ loop).length := by simp
      have hv0b : ∀ j, isBit ((List.replicate (stem ++ loop).length (startV t.f0)).getD j 0) := fun j => rep_bit (startV_bit _) j
      have hv2 : vst (genG t rows (stem ++ loop) stem.length (stem ++ loop).length) stem.length (stem ++ loop).length (List.replicate (stem ++ loop).length (startV t.f0)) 2 = rowV t rows (stem ++ loop) stem.length := by
        rw [vst_fix hst hM hG (hv0b _) 0]
        rw [show (List.replicate (stem ++ loop).length (startV t.f0)).getD stem.length 0 = startV t.f0 by rw [List.getD_eq_getElem?_getD, List.getElem?_replicate, if_pos hst]; rfl]
        exact genG_row t rows (stem ++ loop) stem.length hst
      have sweep : ∀ (m : Nat), m < 2 → ∀ res, Ev (fun k => impl_timesOn.l4 k (vst (genG t rows (stem ++ loop) stem.length (stem ++ loop).length) stem.length (stem ++ loop).length (List.replicate (stem ++ loop).length (startV t.f0)) (m + 1)) ((m + 1 : Nat) : Int) list stem (stem ++ loop) R (n : Int)) res →
          Ev (fun k => impl_timesOn.l4 k (vst (genG t rows (stem ++ loop) stem.length (stem ++ loop).length) stem.length (stem ++ loop).length (List.replicate (stem ++ loop).length (startV t.f0)) m) (m : Int) list stem (stem ++ loop) R (n : Int)) res := fun m hm res hnext => by
        obtain ⟨vl, vb⟩ := vst_ok (st := stem.length) hG hv0l hv0b m
        have hnext' : Ev (fun k => impl_timesOn.l4 k (swp (genG t rows (stem ++ loop) stem.length (stem ++ loop).length) (stem ++ loop).length ((vst (genG t rows (stem ++ loop) stem.length (stem ++ loop).length) stem.length (stem ++ loop).length (List.replicate (stem ++ loop).length (startV t.f0)) m).getD stem.length 0)) ((m + 1 : Nat) : Int) list stem (stem ++ loop) R (n : Int)) res := hnext
        refine Ev.step (fun k => by rw [impl_timesOn.l4, wrap_in (x := ((stem ++ loop).length : Int) - 1) (by omega) (by omega)]) (ev_pos (by omega) ?_)
        refine ev_sweep (fun k v i => impl_timesOn.l5 k v i list stem (stem ++ loop) R (n : Int) (m : Int)) (genG t rows (stem ++ loop) stem.length (stem ++ loop).length) stem.length (stem ++ loop).length hG hst _ vl vb (fun i v hi hl hb hnn => ?_) ?_
        · have st_ := impl_step_ev (m := list.length - n) d g4 hc (i := i) (by omega) (v := v) (by omega) hb
          rw [hrep] at st_
          refine Ev.step (fun k => by rw [impl_timesOn.l5, hrd, wrap_in (x := (i : Int) - 1) (by omega) (by omega)]) (ev_pos (show (i : Int) ≥ 0 by omega) (ev_bind st_ (ev_pos (show (0 : Int) ≤ (i : Int) by omega) (ev_pos (show (i : Int) < (v.length : Int) by omega) ?_))))
          rw [Int.toNat_natCast]
          exact hnn
        · exact Ev.step (fun k => by rw [impl_timesOn.l5, show wrap64 ((m : Int) + 1) = ((m + 1 : Nat) : Int) from wrap_nat (m := 1048576) (by omega) (by omega)]) (ev_neg (by omega) hnext')
      have h4 : Ev (fun k => impl_timesOn.l4 k (List.replicate (stem ++ loop).length (startV t.f0)) 0 list stem (stem ++ loop) R (n : Int)) (rowsV (stem ++ loop) stem.length (list.drop (n + 1)) (rows ++ [rowV t rows (stem ++ loop) stem.length])) := by
        refine sweep 0 (by omega) _ (sweep 1 (by omega) _ ?_)
        rw [hv2]
        exact Ev.step (fun k => by rw [impl_timesOn.l4]) (ev_neg (by omega) (fin _ rfl))
      have h3 : ∀ (e j : Nat), (stem ++ loop).length - j = e → j ≤ (stem ++ loop).length → Ev (fun k => impl_timesOn.l3 k (List.replicate j (startV t.f0) ++ List.replicate ((stem ++ loop).length - j) 0) (j : Int) list stem (stem ++ loop) R (n : Int) (startV t.f0)) (rowsV (stem ++ loop) stem.length (list.drop (n + 1)) (rows ++ [rowV t rows (stem ++ loop) stem.length])) := by
        intro e
        induction e with
        | zero =>
          intro j k1 k2
          have : j = (stem ++ loop).length := by omega
          subst this
          rw [Nat.sub_self, List.replicate_zero, List.append_nil]
          exact Ev.step (fun k => by rw [impl_timesOn.l3]) (ev_neg (by rw [List.length_replicate]; omega) h4)
        | succ e ihe =>
          intro j k1 k2
          have ihe := ihe (j + 1) (by omega) (by omega)
          have hs3 : (List.replicate j (startV t.f0) ++ List.replicate ((stem ++ loop).length - j) 0).set j (startV t.f0) = List.replicate (j + 1) (startV t.f0) ++ List.replicate ((stem ++ loop).length - (j + 1)) 0 := by
            rw [List.set_append, if_neg (by simp), List.length_replicate, Nat.sub_self, show (stem ++ loop).length - j = ((stem ++ loop).length - (j + 1)) + 1 by omega, List.replicate_succ, List.set_cons_zero, List.replicate_succ', List.append_assoc]
            rfl
          refine Ev.step (fun k => by rw [impl_timesOn.l3, wrap_nat (n := j) (m := (stem ++ loop).length) (by omega) (by omega)]) (ev_pos (by simp; omega) (ev_pos (by omega) (ev_pos (by simp; omega) ?_)))
          rw [Int.toNat_natCast, hs3]
          exact ihe
      have h3 := h3 (stem ++ loop).length 0 rfl (by omega)
      rw [List.replicate_zero, List.nil_append, Nat.sub_zero] at h3
      have j2 : Ev (fun k => impl_timesOn.j2 k (startV t.f0) list stem (stem ++ loop) R (n : Int)) (rowsV (stem ++ loop) stem.length (list.drop (n + 1)) (rows ++ [rowV t rows (stem ++ loop) stem.length])) := by
        refine Ev.step (fun k => by rw [impl_timesOn.j2, Int.toNat_natCast]) ?_
        exact h3
      refine Ev.step (fun k => by rw [impl_timesOn.l1, hrd]) (ev_pos (by omega) (ev_pos (by omega) (ev_pos (by omega) (ev_pos (by omega) (ev_pos (by omega) ?_)))))
      by_cases c7 : t.f0 = 7
      · have e : startV t.f0 = 1 := by unfold startV; rw [if_pos c7]
        rw [e] at j2
        exact ev_pos c7 j2
      · have e : startV t.f0 = 0 := by unfold startV; rw [if_neg c7]
        rw [e] at j2
        exact ev_neg c7 j2
  have := key list.length 0 (by omega) (by omega) [] rfl (fun r hr => by cases hr)
  simpa using this
theorem foldN_stepsm (l : List ITime) : ∀ (n : Nat) (s : List Int), (∀ k ∈ s, 0 ≤ k ∧ k < (n : Int)) → ∀ k ∈ foldN (fun n s (x : ITime) => if x.f0 ≥ 5 then s ++ [(n : Int)] else s) n s l, 0 ≤ k ∧ k < ((n + l.length : Nat) : Int) := by
  induction l with
  | nil => intro n s h; simpa [foldN] using h
  | cons x l ih =>
    intro n s h
    simp only [foldN]
    rw [List.length_cons, show n + (l.length + 1) = n + 1 + l.length by omega]
    refine ih (n + 1) _ fun k hk => ?_
    split at hk
    · rcases List.mem_append.1 hk with hk | hk
      · have := h k hk; omega
      · rw [List.mem_singleton.1 hk]; omega
    · have := h k hk; omega
theorem stepsP_mem {l : List ITime} : ∀ k ∈ stepsP l, 0 ≤ k ∧ k < (l.length : Int) := by
  have := foldN_stepsm l 0 [] (fun k hk => by cases hk)
  rw [Nat.zero_add] at this
  exact this
def guessB (letter : List Int) (rows : List (List Int)) (steps : List Int) (i : Nat) : List Int := letter ++ steps.map fun k => (rows.getD k.toNat []).getD i 0
def rowsOf (list : List ITime) (stem loop : List (List Int)) : List (List Int) := rowsV (stem ++ loop) stem.length list []
def guessAt (list : List ITime) (stem loop : List (List Int)) (i : Nat) : Int := bitNum (guessB ((stem ++ loop).getD i []) (rowsOf list stem loop) (stepsP list) i)
def guessesAtP (list : List ITime) (stem loop : List (List Int)) (facts : Int) : List Int :=
  if (askedP list facts && wordP stem loop facts) = true then (List.range (stem.length + loop.length)).map (guessAt list stem loop) else []
theorem rowsOf_ok {list : List ITime} {stem loop : List (List Int)} {facts : Int} (c : timesP list facts = true) (d : wordP stem loop facts = true) : (rowsOf list stem loop).length = list.length ∧ RowsOk (rowsOf list stem loop) (stem.length + loop.length) := by
  obtain ⟨_, _, _, hx⟩ := wordP_and d
  refine ⟨by unfold rowsOf; rw [rowsV_snoc]; simp, ?_⟩
  have := rowsV_ok (w := stem ++ loop) (st := stem.length) (fun x hx' => (hx x hx').2) c list 0 [] (by simp) rfl (fun r hr => by cases hr)
  rw [List.length_append] at this
  exact this
theorem spec_l21Number_ev {list : List ITime} {letter : List Int} {rows : List (List Int)} {N i : Nat} (hl : letter.length ≤ 1048576) (hll : list.length ≤ 1048576) (hr : RowsOk rows N) (hrl : rows.length = list.length) (hi : i < N) :
    Ev (fun k => spec_l21Number.f k list letter rows (i : Int)) (bitNum (guessB letter rows (stepsP list) i)) := by
  have hs := stepsP_len list
  have hm := stepsP_mem (l := list)
  unfold spec_l21Number.f
  refine ev_bind (spec_l3Copy_ev letter hl) (ev_bind (spec_l21Steps_ev list hll) ?_)
  unfold guessB
  generalize stepsP list = steps at *
  have key : ∀ (d n : Nat), steps.length - n = d → n ≤ steps.length → Ev (fun k => spec_l21Number.l0 k rows (i : Int) (letter ++ (steps.take n).map fun k => (rows.getD k.toNat []).getD i 0) steps (n : Int)) (bitNum (letter ++ steps.map fun k => (rows.getD k.toNat []).getD i 0)) := by
    intro d
    induction d with
    | zero =>
      intro n g1 g2
      have : n = steps.length := by omega
      subst this
      rw [List.take_length]
      have h6 := spec_l6Number_ev (letter ++ steps.map fun k => (rows.getD k.toNat []).getD i 0) (by simp; omega)
      exact Ev.step (fun k => by rw [spec_l21Number.l0]) (ev_neg (by omega) (ev_bind h6 (ev_ret _)))
    | succ d ih =>
      intro n g1 g2
      have hn : n < steps.length := by omega
      have ih := ih (n + 1) (by omega) (by omega)
      rw [List.take_succ_eq_append_getElem hn, List.map_append, List.map_cons, List.map_nil, ← List.append_assoc] at ih
      have hk := hm steps[n] (List.getElem_mem hn)
      have hrk : rd steps (n : Int) = steps[n] := rd_at hn
      generalize steps[n] = s at *
      obtain ⟨er, lr, _⟩ := rows_at hr hk.1 (by omega)
      refine Ev.step (fun k => by rw [spec_l21Number.l0, hrk, er, wrap_nat hn (by omega)]) ?_
      refine ev_pos (by omega) (ev_pos (by omega) (ev_pos hk.1 (ev_pos (by omega) (ev_pos (by omega) (ev_pos (by omega) (ev_pos (by simp; omega) ?_))))))
      exact ih
  have := key steps.length 0 (by omega) (by omega)
  simpa using this
theorem spec_GuessesAt_ev {list : List ITime} {stem loop : List (List Int)} {facts : Int} (h1 : stem.length ≤ 1048576 ∧ ∀ x ∈ stem, x.length ≤ 1048576) (h2 : loop.length ≤ 1048576 ∧ ∀ x ∈ loop, x.length ≤ 1048576) (hl : list.length ≤ 1048576) :
    Ev (fun k => spec_GuessesAt.f k list stem loop facts) (guessesAtP list stem loop facts) := by
  unfold spec_GuessesAt.f guessesAtP
  refine ev_bind (spec_TimesOn_ev h1 h2 hl) ?_
  have hA := spec_l21Asked_ev list facts hl
  by_cases c : (timesP list facts && wordP stem loop facts) = true
  · rw [if_pos c]
    rw [Bool.and_eq_true] at c
    obtain ⟨c1, c2⟩ := c
    obtain ⟨hf, hlp, hN, hx⟩ := wordP_and c2
    obtain ⟨_, hl1, hl2⟩ := timesP_in c1
    obtain ⟨hrl, hro⟩ := rowsOf_ok c1 c2
    rw [c2, Bool.and_true]
    have hRR : rowsV (stem ++ loop) stem.length list [] = rowsOf list stem loop := rfl
    rw [hRR]
    have hw : wrap64 ((stem.length : Int) + (loop.length : Int)) = ((stem.length + loop.length : Nat) : Int) := by rw [wrap_in (by omega) (by omega)]; omega
    have cut : ∀ x n, Ev (fun k => spec_GuessesAt.j1 k list stem loop facts (rowsOf list stem loop) x n false) x := fun x n => Ev.step (fun k => by rw [spec_GuessesAt.j1]) (ev_neg (by simp) (ev_ret _))
    by_cases a : askedP list facts = true
    · rw [if_pos a]
      rw [a] at hA
      have key : ∀ (d n : Nat), stem.length + loop.length - n = d → n ≤ stem.length + loop.length → Ev (fun k => spec_GuessesAt.l0 k list stem loop facts (rowsOf list stem loop) ((List.range n).map (guessAt list stem loop)) (n : Int)) ((List.range (stem.length + loop.length)).map (guessAt list stem loop)) := by
        intro d
        induction d with
        | zero =>
          intro n g1 g2
          have : n = stem.length + loop.length := by omega
          subst this
          refine Ev.step (fun k => by rw [spec_GuessesAt.l0, hw]) (ev_neg (by omega) (cut _ _))
        | succ d ih =>
          intro n g1 g2
          have ih := ih (n + 1) (by omega) (by omega)
          rw [List.range_succ, List.map_append, List.map_cons, List.map_nil] at ih
          have hm : (stem ++ loop).getD n [] ∈ stem ++ loop := by rw [List.getD_eq_getElem?_getD, List.getElem?_eq_getElem (by rw [List.length_append]; omega)]; exact List.getElem_mem _
          have hlen := (hx _ hm).1
          refine Ev.step (fun k => by rw [spec_GuessesAt.l0, hw]) (ev_pos (by omega) (ev_pos (by omega) (ev_bind hA ?_)))
          have hnum := spec_l21Number_ev (letter := (stem ++ loop).getD n []) (i := n) (by omega) hl hro hrl (by omega)
          refine Ev.step (fun k => by rw [spec_GuessesAt.j1, spec_l3At_eq2 hlp (by omega) (by omega), wrap_nat (n := n) (m := stem.length + loop.length) (by omega) (by omega)]) ?_
          refine ev_pos rfl (ev_bind (ev_ret ((stem ++ loop).getD n [])) (ev_bind hnum (ev_pos (by simp; omega) ?_)))
          exact ih
      exact key (stem.length + loop.length) 0 (by omega) (by omega)
    · rw [if_neg a]
      rw [Bool.not_eq_true] at a
      rw [a] at hA
      exact Ev.step (fun k => by rw [spec_GuessesAt.l0, hw]) (ev_pos (by omega) (ev_pos (by omega) (ev_bind hA (cut _ _))))
  · rw [if_neg c, if_neg (by
      intro h
      apply c
      unfold askedP at h
      simp only [Bool.and_eq_true] at h ⊢
      exact ⟨h.1.1, h.2⟩)]
    have cut : ∀ n, Ev (fun k => spec_GuessesAt.j1 k list stem loop facts [] [] n false) [] := fun n => Ev.step (fun k => by rw [spec_GuessesAt.j1]) (ev_neg (by simp) (ev_ret _))
    refine Ev.step (fun k => by rw [spec_GuessesAt.l0]) ?_
    by_cases h : (0 : Int) < wrap64 ((stem.length : Int) + (loop.length : Int))
    · exact ev_pos h (ev_neg (by simp) (cut _))
    · exact ev_neg h (cut _)
theorem impl_GuessesAt_ev {list : List ITime} {stem loop : List (List Int)} {facts : Int} (h1 : stem.length ≤ 1048576 ∧ ∀ x ∈ stem, x.length ≤ 1048576) (h2 : loop.length ≤ 1048576 ∧ ∀ x ∈ loop, x.length ≤ 1048576) (hl : list.length ≤ 1048576) :
    Ev (fun k => impl_GuessesAt.f k list stem loop facts) (guessesAtP list stem loop facts) := by
  unfold impl_GuessesAt.f guessesAtP
  refine ev_bind (impl_guessed_ev list facts (by omega)) ?_
  unfold guessedP askedP
  by_cases c : timesP list facts = true
  · rw [c, if_pos rfl, Bool.true_and]
    by_cases a : facts + ((stepsP list).length : Int) ≤ 7
    · rw [decide_eq_true a, Bool.true_and]
      refine ev_pos rfl (ev_bind (impl_WordValid_ev stem loop facts h1 h2) ?_)
      by_cases d : wordP stem loop facts = true
      · rw [if_pos d]
        obtain ⟨hf, hlp, hN, hx⟩ := wordP_and d
        obtain ⟨_, hl1, hl2⟩ := timesP_in c
        obtain ⟨hrl, hro⟩ := rowsOf_ok c d
        refine ev_pos d (ev_bind (impl_timesOn_ev c d) (ev_bind (concat2_ev stem loop (by omega)) ?_))
        have hRR : rowsV (stem ++ loop) stem.length list [] = rowsOf list stem loop := rfl
        rw [hRR]
        have hlen2 : (stem ++ loop).length = stem.length + loop.length := List.length_append
        have hs := stepsP_len list
        have hm := stepsP_mem (l := list)
        have key : ∀ (dd n : Nat), stem.length + loop.length - n = dd → n ≤ stem.length + loop.length → Ev (fun k => impl_GuessesAt.l1 k ((List.range n).map (guessAt list stem loop)) (n : Int) (stepsP list, true) (rowsOf list stem loop) (stem ++ loop)) ((List.range (stem.length + loop.length)).map (guessAt list stem loop)) := by
          intro dd
          induction dd with
          | zero =>
            intro n g1 g2
            have : n = stem.length + loop.length := by omega
            subst this
            refine Ev.step (fun k => by rw [impl_GuessesAt.l1]) (ev_neg (by omega) ?_)
            exact ev_bind (g := fun _ => impl_clone_int.f _) (ev_fix (by unfold impl_clone_int.f; rw [if_pos (by simp; omega)])) (ev_ret _)
          | succ dd ih =>
            intro n g1 g2
            have ih := ih (n + 1) (by omega) (by omega)
            rw [List.range_succ, List.map_append, List.map_cons, List.map_nil] at ih
            have hmm : (stem ++ loop).getD n [] ∈ stem ++ loop := by rw [List.getD_eq_getElem?_getD, List.getElem?_eq_getElem (by rw [List.length_append]; omega)]; exact List.getElem_mem _
            have hlen := (hx _ hmm).1
            have hrl2 : rd_Lint (stem ++ loop) (n : Int) = (stem ++ loop).getD n [] := rfl
            have inner : ∀ (e j : Nat), (stepsP list).length - j = e → j ≤ (stepsP list).length → Ev (fun k => impl_GuessesAt.l2 k ((stem ++ loop).getD n [] ++ ((stepsP list).take j).map fun k => ((rowsOf list stem loop).getD k.toNat []).getD n 0) (j : Int) (stepsP list, true) (rowsOf list stem loop) (stem ++ loop) ((List.range n).map (guessAt list stem loop)) (n : Int)) ((List.range (stem.length + loop.length)).map (guessAt list stem loop)) := by
              intro e
              induction e with
              | zero =>
                intro j k1 k2
                have : j = (stepsP list).length := by omega
                subst this
                rw [List.take_length]
                refine Ev.step (fun k => by rw [impl_GuessesAt.l2, wrap_nat (n := n) (m := stem.length + loop.length) (by omega) (by omega)]) (ev_neg (by simp) (ev_bind (impl_bitsValue_ev _ (by rw [List.length_append, List.length_map]; omega)) (ev_pos (show ((List.range n).map (guessAt list stem loop)).length + 1 ≤ 1099511627776 by rw [List.length_map, List.length_range]; omega) ?_)))
                exact ih
              | succ e ihe =>
                intro j k1 k2
                have hj : j < (stepsP list).length := by omega
                have ihe := ihe (j + 1) (by omega) (by omega)
                rw [List.take_succ_eq_append_getElem hj, List.map_append, List.map_cons, List.map_nil, ← List.append_assoc] at ihe
                have hk := hm (stepsP list)[j] (List.getElem_mem hj)
                have hrk : rd (stepsP list) (j : Int) = (stepsP list)[j] := rd_at hj
                generalize (stepsP list)[j] = s at *
                obtain ⟨er, lr, _⟩ := rows_at hro hk.1 (by omega)
                refine Ev.step (fun k => by rw [impl_GuessesAt.l2, hrk, er, wrap_nat hj (by omega)]) ?_
                refine ev_pos (show (j : Int) < ((stepsP list).length : Int) by omega) (ev_pos (by omega) (ev_pos (show (j : Int) < ((stepsP list).length : Int) by omega) (ev_pos hk.1 (ev_pos (by omega) (ev_pos (by omega) (ev_pos (by omega) (ev_pos (by rw [List.length_append, List.length_map, List.length_take]; omega) ?_)))))))
                exact ihe
            refine Ev.step (fun k => by rw [impl_GuessesAt.l1, hrl2]) (ev_pos (by omega) (ev_pos (by omega) (ev_pos (by omega) ?_)))
            refine ev_bind (g := fun _ => slices_Clone_int_int.f _) (ev_fix (by unfold slices_Clone_int_int.f; rw [if_pos (by omega)])) ?_
            have := inner (stepsP list).length 0 (by omega) (by omega)
            simpa using this
        exact key (stem.length + loop.length) 0 (by omega) (by omega)
      · rw [if_neg d]
        exact ev_neg d (ev_ret _)
    · rw [decide_eq_false a, Bool.false_and, if_neg (by simp)]
      exact ev_neg (by simp) (ev_ret _)
  · rw [Bool.not_eq_true] at c
    rw [c, if_neg (by simp), Bool.false_and, Bool.false_and, if_neg (by simp)]
    exact ev_neg (by simp) (ev_ret _)
theorem guessesAtP_len (list : List ITime) (stem loop : List (List Int)) (facts : Int) : (guessesAtP list stem loop facts).length ≤ 60 := by
  unfold guessesAtP
  split
  · rename_i h
    rw [Bool.and_eq_true] at h
    obtain ⟨_, _, h3, _⟩ := wordP_and h.2
    simpa using h3
  · simp
end Go.Proofs.Ytikjlbanfbkhmaa.PA
end
section
set_option linter.unusedVariables false
set_option linter.unusedSimpArgs false
namespace Go.Proofs.Ytikjlbanfbkhmaa.PA
open Go.RowKit Go.Proofs.YtikjlbanfbkhmaaW.PrintWords
def numFrom (s : Nat) : List Int → Nat
  | [] => s
  | x :: l => numFrom (2 * s + x.toNat) l
theorem numFrom_add (l : List Int) : ∀ s, numFrom s l = s * 2 ^ l.length + numFrom 0 l := by
  induction l with
  | nil => intro s; simp [numFrom]
  | cons x l ih =>
    intro s
    unfold numFrom
    rw [ih (2 * s + x.toNat), ih (2 * 0 + x.toNat), List.length_cons, Nat.pow_succ, Nat.add_mul, Nat.add_mul]
    have : 2 * s * 2 ^ l.length = s * (2 ^ l.length * 2) := by rw [Nat.mul_comm 2 s, Nat.mul_assoc, Nat.mul_comm 2]
    omega
theorem numFrom_lt {l : List Int} (h : areBits l = true) : numFrom 0 l < 2 ^ l.length := by
  induction l with
  | nil => simp [numFrom]
  | cons x l ih =>
    unfold areBits at h
    rw [List.all_cons, Bool.and_eq_true, inR_iff] at h
    have ih := ih h.2
    unfold numFrom
    rw [numFrom_add l, List.length_cons, Nat.pow_succ]
    have : x.toNat = 0 ∨ x.toNat = 1 := by omega
    rcases this with e | e <;> rw [e] <;> omega
theorem bitsN_num {l : List Int} (h : areBits l = true) : ∀ s, bitsN (numFrom s l) l.length = l := by
  induction l with
  | nil => intro s; rfl
  | cons x l ih =>
    intro s
    unfold areBits at h
    rw [List.all_cons, Bool.and_eq_true, inR_iff] at h
    have ih := ih h.2 (2 * s + x.toNat)
    have hlt := numFrom_lt h.2
    unfold numFrom
    rw [List.length_cons]
    unfold bitsN
    rw [ih]
    congr 1
    rw [numFrom_add l, Nat.mul_comm, Nat.mul_add_div (Nat.two_pow_pos _), Nat.div_eq_of_lt hlt]
    omega
theorem bitNum_num {l : List Int} (h : areBits l = true) (hl : l.length ≤ 60) : bitNum l = ((numFrom 0 l : Nat) : Int) := by
  have key : ∀ (r : List Int) (n s : Nat), areBits r = true → (s + 1) * 2 ^ r.length ≤ 2 ^ 60 → foldN (fun _ s x => wrap64 (wrap64 (2 * s) + x)) n (s : Int) r = ((numFrom s r : Nat) : Int) := by
    intro r
    induction r with
    | nil => intro n s _ _; rfl
    | cons x r ih =>
      intro n s hb hs
      unfold areBits at hb
      rw [List.all_cons, Bool.and_eq_true, inR_iff] at hb
      have hp : 1 ≤ 2 ^ r.length := Nat.one_le_two_pow
      rw [List.length_cons, Nat.pow_succ] at hs
      have hb1 : (2 * s + x.toNat + 1) * 2 ^ r.length ≤ 2 ^ 60 := by
        refine Nat.le_trans (Nat.mul_le_mul_right _ (show 2 * s + x.toNat + 1 ≤ 2 * (s + 1) by omega)) ?_
        rw [Nat.mul_comm 2 (s + 1), Nat.mul_assoc, Nat.mul_comm 2]
        exact hs
      have hss : 2 * s + x.toNat + 1 ≤ 2 ^ 60 := Nat.le_trans (Nat.le_mul_of_pos_right _ (by omega)) hb1
      have h60 : (2 : Nat) ^ 60 = 1152921504606846976 := by decide
      rw [h60] at hss
      simp only [foldN]
      unfold numFrom
      rw [← ih (n + 1) _ hb.2 hb1, wrap_in (x := 2 * (s : Int)) (by omega) (by omega), wrap_in (x := 2 * (s : Int) + x) (by omega) (by omega)]
      congr 1
      omega
  have := key l 0 0 h (by rw [Nat.zero_add, Nat.one_mul]; exact Nat.pow_le_pow_right (by omega) hl)
  exact this
theorem rowsV_ext (w : List (List Int)) (st : Nat) : ∀ (l : List ITime) (rows : List (List Int)), ∃ e, rowsV w st l rows = rows ++ e
  | [], rows => ⟨[], by simp [rowsV]⟩
  | t :: r, rows => by
    obtain ⟨e, he⟩ := rowsV_ext w st r (rows ++ [rowV t rows w st])
    exact ⟨rowV t rows w st :: e, by unfold rowsV; rw [he, List.append_assoc]; rfl⟩
theorem rowsV_app (w : List (List Int)) (st : Nat) : ∀ (a b : List ITime) (rows : List (List Int)), rowsV w st (a ++ b) rows = rowsV w st b (rowsV w st a rows)
  | [], b, rows => rfl
  | t :: a, b, rows => by
    show rowsV w st (a ++ b) (rows ++ [rowV t rows w st]) = _
    rw [rowsV_app w st a b]
    rfl
section
variable {list : List ITime} {stem loop : List (List Int)} {facts : Int}
theorem rows_get {j : Nat} {t : ITime} (ht : list[j]? = some t) : ∃ P : List (List Int), P.length = j ∧ (∃ e, rowsOf list stem loop = P ++ e) ∧ (rowsOf list stem loop).getD j [] = rowV t P (stem ++ loop) stem.length := by
  have hj : j < list.length := by
    rcases Nat.lt_or_ge j list.length with h | h
    · exact h
    · rw [List.getElem?_eq_none h] at ht; cases ht
  have e : list = list.take j ++ t :: list.drop (j + 1) := by
    have h1 : list[j] = t := by rw [List.getElem?_eq_getElem hj] at ht; exact Option.some.inj ht
    rw [← h1, ← List.drop_eq_getElem_cons hj, List.take_append_drop]
  generalize hP : rowsV (stem ++ loop) stem.length (list.take j) [] = P
  have hPl : P.length = j := by rw [← hP, rowsV_snoc]; simp; omega
  have hR : rowsOf list stem loop = rowsV (stem ++ loop) stem.length (list.drop (j + 1)) (P ++ [rowV t P (stem ++ loop) stem.length]) := by
    unfold rowsOf
    conv => lhs; rw [e]
    rw [rowsV_app, hP]
    rfl
  obtain ⟨x, hx⟩ := rowsV_ext (stem ++ loop) stem.length (list.drop (j + 1)) (P ++ [rowV t P (stem ++ loop) stem.length])
  refine ⟨P, hPl, ⟨rowV t P (stem ++ loop) stem.length :: x, by rw [hR, hx, List.append_assoc]; rfl⟩, ?_⟩
  rw [hR, hx, List.append_assoc, List.getD_eq_getElem?_getD, List.getElem?_append_right (by omega), hPl, Nat.sub_self]
  rfl
theorem pre_get {R P e : List (List Int)} (h : R = P ++ e) {i : Int} (h0 : 0 ≤ i) (h1 : i < P.length) : P.getD i.toNat [] = R.getD i.toNat [] := by
  rw [h, List.getD_eq_getElem?_getD, List.getD_eq_getElem?_getD, List.getElem?_append_left (by omega)]
structure Sem (list : List ITime) (stem loop : List (List Int)) (facts : Int) : Prop where
  c : timesP list facts = true
  d : wordP stem loop facts = true
variable (S : Sem list stem loop facts)
include S
theorem Sem.len : (rowsOf list stem loop).length = list.length := (rowsOf_ok S.c S.d).1
theorem Sem.ok : RowsOk (rowsOf list stem loop) (stem.length + loop.length) := (rowsOf_ok S.c S.d).2
theorem Sem.row {j : Nat} {t : ITime} (ht : list[j]? = some t) : ∃ P : List (List Int), P.length = j ∧ (∃ e, rowsOf list stem loop = P ++ e) ∧
    (∀ i, i < stem.length + loop.length → ((rowsOf list stem loop).getD j []).getD i 0 = genG t P (stem ++ loop) stem.length (stem ++ loop).length i (((rowsOf list stem loop).getD j []).getD (nxt stem.length (stem.length + loop.length) i) 0)) ∧
    ((rowsOf list stem loop).getD j []).getD stem.length 0 = chn (genG t P (stem ++ loop) stem.length (stem ++ loop).length) (stem ++ loop).length (startV t.f0) ((stem ++ loop).length - 1 - stem.length) := by
  obtain ⟨hf, hlp, hN, hx⟩ := wordP_and S.d
  obtain ⟨P, hP, ⟨e, he⟩, hr⟩ := rows_get (stem := stem) (loop := loop) ht
  have hlen : (stem ++ loop).length = stem.length + loop.length := List.length_append
  have hst : stem.length < (stem ++ loop).length := by omega
  have hok : RowsOk P (stem ++ loop).length := fun r hm => by rw [hlen]; exact S.ok r (by rw [he]; exact List.mem_append_left _ hm)
  have hc := timesP_at S.c j t ht
  rw [← hP] at hc
  have hG := genG_bit (st := stem.length) hok (fun x hx' => (hx x hx').2) (timeP_ops hc)
  have hM := genG_mono t P (stem ++ loop) stem.length
  have hsw := genG_row t P (stem ++ loop) stem.length hst
  refine ⟨P, hP, ⟨e, he⟩, ?_, ?_⟩
  · intro i hi
    rw [hr, ← hsw, ← hlen]
    generalize hy : chn (genG t P (stem ++ loop) stem.length (stem ++ loop).length) (stem ++ loop).length (startV t.f0) ((stem ++ loop).length - 1 - stem.length) = y
    rw [← hlen] at hi
    rw [swp_at hi, swp_at (nxt_lt hst)]
    unfold nxt
    by_cases c : i + 1 < (stem ++ loop).length
    · rw [if_pos c]
      obtain ⟨q, hq⟩ : ∃ q, (stem ++ loop).length - 1 - i = q + 1 := ⟨(stem ++ loop).length - 1 - i - 1, by omega⟩
      rw [hq, show (stem ++ loop).length - 1 - (i + 1) = q by omega]
      have e1 : (stem ++ loop).length - 1 - (q + 1) = i := by omega
      conv => lhs; unfold chn
      rw [e1]
    · rw [if_neg c, show (stem ++ loop).length - 1 - i = 0 by omega]
      have e1 : (stem ++ loop).length - 1 = i := by omega
      conv => lhs; unfold chn
      rw [e1]
      congr 1
      rw [← hy, show i - stem.length = (stem ++ loop).length - 1 - stem.length by omega, chn_fix hM hG (startV_bit _)]
  · rw [hr, ← hsw, swp_at hst, chn_fix hM hG (startV_bit _)]
def colT (rows : List (List Int)) (i : Nat) : List Int := rows.map fun r => r.getD i 0
omit S in
theorem colT_at {rows : List (List Int)} {i j : Nat} (h : j < rows.length) : (colT rows i).getD j 0 = (rows.getD j []).getD i 0 := by
  unfold colT
  have e : rows.getD j [] = rows[j] := by rw [List.getD_eq_getElem?_getD, List.getElem?_eq_getElem h]; rfl
  rw [e, List.getD_eq_getElem?_getD, List.getElem?_map, List.getElem?_eq_getElem h]
  rfl
omit S in
theorem colT_len (rows : List (List Int)) (i : Nat) : (colT rows i).length = rows.length := by simp [colT]
end
def stepsGo : Nat → List ITime → List Int
  | _, [] => []
  | n, t :: r => if t.f0 ≥ 5 then (n : Int) :: stepsGo (n + 1) r else stepsGo (n + 1) r
theorem stepsP_go (l : List ITime) : stepsP l = stepsGo 0 l := by
  have key : ∀ (l : List ITime) (n : Nat) (s : List Int), foldN (fun n s (x : ITime) => if x.f0 ≥ 5 then s ++ [(n : Int)] else s) n s l = s ++ stepsGo n l := by
    intro l
    induction l with
    | nil => intro n s; simp [foldN, stepsGo]
    | cons x l ih =>
      intro n s
      simp only [foldN, stepsGo]
      rw [ih]
      by_cases h : x.f0 ≥ 5
      · rw [if_pos h, if_pos h, List.append_assoc]; rfl
      · rw [if_neg h, if_neg h]
  have := key l 0 []
  exact this
end Go.Proofs.Ytikjlbanfbkhmaa.PA
end
section
set_option linter.unusedVariables false
set_option linter.unusedSimpArgs false
namespace Go.Proofs.Ytikjlbanfbkhmaa.PA
open Go.RowKit Go.Proofs.YtikjlbanfbkhmaaW.PrintWords
theorem isBit_bits {l : List Int} (h : ∀ x ∈ l, isBit x) : areBits l = true := by
  unfold areBits
  rw [List.all_eq_true]
  intro x hx
  rcases h x hx with rfl | rfl <;> decide
theorem areBits_app {a b : List Int} (h1 : areBits a = true) (h2 : areBits b = true) : areBits (a ++ b) = true := by
  unfold areBits at *
  rw [List.all_append, h1, h2]; rfl
section
variable {list : List ITime} {stem loop : List (List Int)} {facts : Int} (S : Sem list stem loop facts)
include S
def gB (list : List ITime) (stem loop : List (List Int)) (i : Nat) : List Int := guessB ((stem ++ loop).getD i []) (rowsOf list stem loop) (stepsP list) i
omit S in
theorem w_mem {i : Nat} (hi : i < stem.length + loop.length) : (stem ++ loop).getD i [] ∈ stem ++ loop := by
  rw [List.getD_eq_getElem?_getD, List.getElem?_eq_getElem (by rw [List.length_append]; omega)]
  exact List.getElem_mem _
theorem Sem.gB_bits {i : Nat} (hi : i < stem.length + loop.length) : areBits (gB list stem loop i) = true ∧ ((gB list stem loop i).length : Int) = facts + (stepsP list).length := by
  obtain ⟨hf, hlp, hN, hx⟩ := wordP_and S.d
  obtain ⟨e1, e2⟩ := hx _ (w_mem hi)
  have hm := stepsP_mem (l := list)
  unfold gB guessB
  refine ⟨areBits_app e2 (isBit_bits fun x hx' => ?_), ?_⟩
  · obtain ⟨k, hk, rfl⟩ := List.mem_map.1 hx'
    have := hm k hk
    exact (rows_at S.ok this.1 (by rw [S.len]; omega)).2.2 i
  · rw [List.length_append, List.length_map]; omega
theorem Sem.col_bit {i : Nat} (j : Nat) : isBit ((colT (rowsOf list stem loop) i).getD j 0) := by
  by_cases h : j < (rowsOf list stem loop).length
  · rw [colT_at h]
    have hm : (rowsOf list stem loop).getD j [] ∈ rowsOf list stem loop := by rw [List.getD_eq_getElem?_getD, List.getElem?_eq_getElem h]; exact List.getElem_mem _
    exact (S.ok _ hm).2 i
  · left
    rw [List.getD_eq_getElem?_getD, List.getElem?_eq_none (by rw [colT_len]; omega)]; rfl
omit S in
theorem tr_len {C : List Int} {j L : Nat} (h : C.length = L) (hj : j ≤ L) : (C.take j ++ List.replicate (L - j) (0 : Int)).length = L := by
  rw [List.length_append, List.length_take_of_le (by omega), List.length_replicate]; omega
omit S in
theorem tr_get {C : List Int} {j L a : Nat} (h : C.length = L) (hj : j ≤ L) (ha : a < j) : (C.take j ++ List.replicate (L - j) (0 : Int)).getD a 0 = C.getD a 0 := by
  rw [List.getD_eq_getElem?_getD, List.getElem?_append_left (by simp; omega), List.getElem?_take_of_lt (by omega), ← List.getD_eq_getElem?_getD]
omit S in
theorem tr_set {C : List Int} {j L : Nat} (h : C.length = L) (hj : j < L) : (C.take j ++ List.replicate (L - j) (0 : Int)).set j (C.getD j 0) = C.take (j + 1) ++ List.replicate (L - (j + 1)) 0 := by
  have hcj : C.getD j 0 = C[j] := by rw [List.getD_eq_getElem?_getD, List.getElem?_eq_getElem (by omega)]; rfl
  rw [List.set_append, if_neg (by simp; omega), List.length_take, Nat.min_eq_left (by omega), Nat.sub_self, show L - j = (L - (j + 1)) + 1 by omega, List.replicate_succ, List.set_cons_zero, List.take_succ_eq_append_getElem (by omega), hcj, List.append_assoc]
  rfl
theorem impl_truths_ev (hA : facts + (stepsP list).length ≤ 7) {i : Nat} (hi : i < stem.length + loop.length) : Ev (fun k => impl_truths.f k list facts ((numFrom 0 (gB list stem loop i) : Nat) : Int)) (colT (rowsOf list stem loop) i) := by
  obtain ⟨hf, hlp, hN, hx⟩ := wordP_and S.d
  obtain ⟨_, hl1, hl2⟩ := timesP_in S.c
  obtain ⟨b1, b2⟩ := S.gB_bits hi
  have hs := stepsP_len list
  have hlt := numFrom_lt b1
  have hp : (2 : Nat) ^ (gB list stem loop i).length ≤ 2 ^ 7 := Nat.pow_le_pow_right (by omega) (by omega)
  have h7 : (2 : Nat) ^ 7 = 128 := by decide
  unfold impl_truths.f
  refine ev_bind (impl_guessed_ev list facts (by omega)) ?_
  have hg : guessedP list facts = (stepsP list, true) := by unfold guessedP; rw [if_pos S.c, decide_eq_true hA]
  rw [hg]
  have hw : wrap64 (facts + (((stepsP list, true) : List Int × Bool).1.length : Int)) = ((gB list stem loop i).length : Int) := by rw [wrap_in (by show _ ≤ facts + ((stepsP list).length : Int); omega) (by show facts + ((stepsP list).length : Int) ≤ _; omega)]; show facts + ((stepsP list).length : Int) = _; omega
  rw [hw]
  clear hw
  have hv := impl_valueBits_nat (n := numFrom 0 (gB list stem loop i)) (m := (gB list stem loop i).length) (by omega) (by omega)
  rw [bitsN_num b1] at hv
  refine ev_bind hv (ev_pos (by omega) (ev_pos (by omega) ?_))
  rw [Int.toNat_natCast]
  have hcl : (colT (rowsOf list stem loop) i).length = list.length := by rw [colT_len, S.len]
  generalize hC : colT (rowsOf list stem loop) i = C at *
  clear hp h7 hlt hv hg
  have key : ∀ (d j : Nat), list.length - j = d → j ≤ list.length → ∀ at_ : Nat, (gB list stem loop i).drop at_ = (stepsGo j (list.drop j)).map (fun k => ((rowsOf list stem loop).getD k.toNat []).getD i 0) → facts ≤ (at_ : Int) → at_ ≤ 7 →
      Ev (fun k => impl_truths.l0 k (gB list stem loop i) (C.take j ++ List.replicate (list.length - j) 0) (at_ : Int) list (list.length : Int) (j : Int)) C := by
    intro d
    induction d with
    | zero =>
      intro j g1 g2 at_ g3 g4 g5
      have : j = list.length := by omega
      subst this
      refine Ev.step (fun k => by rw [impl_truths.l0]) (ev_neg (by omega) (ev_eq (ev_ret _) ?_))
      rw [List.take_of_length_le (by omega)]
      simp
    | succ d ih =>
      intro j g1 g2 at_ g3 g4 g5
      have hj : j < list.length := by omega
      have ht : list[j]? = some list[j] := List.getElem?_eq_getElem hj
      have hc := timesP_at S.c j list[j] ht
      obtain ⟨P, hPl, ⟨e, he⟩, hrow, _⟩ := S.row ht
      have hrd : rd_ITime list (j : Int) = list[j] := getD_of ht
      rw [List.drop_eq_getElem_cons hj] at g3
      generalize list[j] = t at *
      have hrow := hrow i hi
      have hCj : C.getD j 0 = ((rowsOf list stem loop).getD j []).getD i 0 := by rw [← hC, colT_at (by rw [S.len]; omega)]
      rw [← hCj] at hrow
      have hxl : (C.take j ++ List.replicate (list.length - j) (0 : Int)).length = list.length := tr_len hcl g2
      have hread : ∀ a : Int, 0 ≤ a → a < (j : Int) → rd (C.take j ++ List.replicate (list.length - j) (0 : Int)) a = (P.getD a.toNat []).getD i 0 := fun a a0 a1 => by
        have ha : a.toNat < j := by clear hrow hCj hc b2 hs hA; omega
        show (C.take j ++ List.replicate (list.length - j) (0 : Int)).getD a.toNat 0 = _
        rw [tr_get hcl g2 ha, ← hC, colT_at (by rw [S.len]; exact Nat.lt_of_lt_of_le ha g2), pre_get he a0 (by rw [hPl]; exact a1)]
      have hset : ∀ x : Int, x = C.getD j 0 → (C.take j ++ List.replicate (list.length - j) (0 : Int)).set ((j : Int)).toNat x = C.take (j + 1) ++ List.replicate (list.length - (j + 1)) 0 := fun x hx' => by
        rw [Int.toNat_natCast, hx', tr_set hcl hj]
      -- the steps that are not guessed
      have go : t.f0 < 5 → ∀ x : Int, x = C.getD j 0 → Ev (fun k => if (j : Int) < ((C.take j ++ List.replicate (list.length - j) (0 : Int)).length : Int) then impl_truths.l0 k (gB list stem loop i) ((C.take j ++ List.replicate (list.length - j) (0 : Int)).set ((j : Int)).toNat x) (at_ : Int) list (list.length : Int) ((j + 1 : Nat) : Int) else none) C := fun h5 x hx' => by
        rw [hset x hx']
        refine ev_pos (by omega) (ih (j + 1) (by omega) (by omega) at_ ?_ g4 g5)
        simp only [stepsGo] at g3
        rw [if_neg (by omega)] at g3
        exact g3
      refine Ev.step (fun k => by rw [impl_truths.l0, hrd, wrap_nat (n := j) (m := list.length) hj (Nat.le_trans hl2 (by decide))]) (ev_pos (by omega) (ev_pos (by omega) (ev_pos (by omega) ?_)))
      have gen : t.f0 < 5 → C.getD j 0 = plainV t P (stem ++ loop) stem.length (stem ++ loop).length i := fun h5 => by
        rw [hrow]; unfold genG; rw [if_neg (by omega)]
      by_cases c0 : t.f0 = 0
      · refine ev_pos c0 (go (by omega) 1 ?_)
        rw [gen (by omega)]
        unfold plainV
        rw [if_neg (by omega), if_neg (by omega), if_neg (by omega), if_neg (by omega), if_neg (by omega)]
      refine ev_neg c0 ?_
      by_cases c1 : t.f0 = 1
      · obtain ⟨f0, f1⟩ : 0 ≤ t.f1 ∧ t.f1 < facts := by rcases hc with h | h | h <;> omega
        have hlen := (hx _ (w_mem hi)).1
        refine ev_pos c1 (ev_pos f0 (ev_pos (by omega) (go (by omega) _ ?_)))
        rw [gen (by omega)]
        unfold plainV
        rw [if_pos c1]
        show (gB list stem loop i).getD t.f1.toNat 0 = _
        unfold gB guessB
        rw [List.getD_eq_getElem?_getD, List.getElem?_append_left (by omega), ← List.getD_eq_getElem?_getD]
      refine ev_neg c1 ?_
      obtain ⟨h2, h3⟩ : (0 ≤ t.f2 ∧ t.f2 < (j : Int)) ∧ (0 ≤ t.f3 ∧ t.f3 < (j : Int)) := by
        rcases hc with h | h | h
        · exact absurd h c0
        · exact absurd h.1 c1
        · exact h.2.2
      have r2 := hread t.f2 h2.1 h2.2
      have r3 := hread t.f3 h3.1 h3.2
      have hokP : ∀ a : Int, 0 ≤ a → a < (j : Int) → isBit ((P.getD a.toNat []).getD i 0) := fun a a0 a1 => by
        rw [pre_get he a0 (by omega)]
        exact (rows_at S.ok a0 (by rw [S.len]; omega)).2.2 i
      have b2' := hokP t.f2 h2.1 h2.2
      have b3' := hokP t.f3 h3.1 h3.2
      obtain ⟨_, _, o3, o4⟩ := bit_or_and b2' b3' (.inl rfl)
      by_cases c2 : t.f0 = 2
      · refine ev_pos c2 (ev_pos h2.1 (ev_pos (by omega) (go (by omega) _ ?_)))
        rw [r2, gen (by omega)]
        unfold isBit at b2'
        rw [wrap_in (by omega) (by omega)]
        unfold plainV
        rw [if_neg c1, if_pos c2]
      refine ev_neg c2 ?_
      by_cases c3 : t.f0 = 3
      · refine ev_pos c3 (ev_pos h2.1 (ev_pos (by omega) (ev_pos h3.1 (ev_pos (by omega) (go (by omega) _ ?_)))))
        rw [r2, r3, o3, gen (by omega)]
        unfold plainV
        rw [if_neg c1, if_neg c2, if_pos c3]
      refine ev_neg c3 ?_
      by_cases c4 : t.f0 = 4
      · refine ev_pos c4 (ev_pos h2.1 (ev_pos (by omega) (ev_pos h3.1 (ev_pos (by omega) (go (by omega) _ ?_)))))
        rw [r2, r3, o4, gen (by omega)]
        unfold plainV
        rw [if_neg c1, if_neg c2, if_neg c3, if_pos c4]
      refine ev_neg c4 ?_
      have h5 : t.f0 ≥ 5 := by rcases hc with h | h | h <;> omega
      simp only [stepsGo] at g3
      rw [if_pos h5, List.map_cons] at g3
      have hlt2 : at_ < (gB list stem loop i).length := by
        rcases Nat.lt_or_ge at_ (gB list stem loop i).length with h | h
        · exact h
        · rw [List.drop_eq_nil_of_le h] at g3; cases g3
      rw [List.drop_eq_getElem_cons hlt2] at g3
      obtain ⟨g6, g7⟩ := List.cons.inj g3
      have hrb : rd (gB list stem loop i) (at_ : Int) = C.getD j 0 := by
        rw [rd_at hlt2, g6, Int.toNat_natCast, hCj]
      rw [hrb, wrap_nat (n := at_) (m := 1048576) (by omega) (by omega)]
      refine ev_pos (by omega) (ev_pos (by omega) (ev_pos (by omega) ?_))
      rw [hset _ rfl]
      exact ih (j + 1) (by omega) (by omega) (at_ + 1) g7 (by omega) (by omega)
  obtain ⟨f, hfe⟩ : ∃ f : Nat, facts = (f : Int) := ⟨facts.toNat, by omega⟩
  have hletter := (hx _ (w_mem hi)).1
  have := key list.length 0 (by omega) (by omega) f (by
    unfold gB guessB
    rw [List.drop_left' (by omega), List.drop_zero, ← stepsP_go]) (by omega) (by omega)
  rw [List.take_zero, List.nil_append, Nat.sub_zero] at this
  rw [hfe]
  exact this
theorem impl_behindOk_ev {i : Nat} (hi : i < stem.length + loop.length) : Ev (fun k => impl_behindOk.f k list (colT (rowsOf list stem loop) i) (colT (rowsOf list stem loop) (nxt stem.length (stem.length + loop.length) i))) true := by
  obtain ⟨hf, hlp, hN, hx⟩ := wordP_and S.d
  obtain ⟨_, hl1, hl2⟩ := timesP_in S.c
  have hlen : (stem ++ loop).length = stem.length + loop.length := List.length_append
  generalize hn' : nxt stem.length (stem.length + loop.length) i = i'
  have hcl : (colT (rowsOf list stem loop) i).length = list.length := by rw [colT_len, S.len]
  have hcl' : (colT (rowsOf list stem loop) i').length = list.length := by rw [colT_len, S.len]
  have hb := S.col_bit (i := i)
  have hb' := S.col_bit (i := i')
  have hCa : ∀ j, j < list.length → (colT (rowsOf list stem loop) i).getD j 0 = ((rowsOf list stem loop).getD j []).getD i 0 := fun j hj => colT_at (by rw [S.len]; omega)
  have hCb : ∀ j, j < list.length → (colT (rowsOf list stem loop) i').getD j 0 = ((rowsOf list stem loop).getD j []).getD i' 0 := fun j hj => colT_at (by rw [S.len]; omega)
  generalize colT (rowsOf list stem loop) i = A at *
  generalize colT (rowsOf list stem loop) i' = B at *
  unfold impl_behindOk.f
  have key : ∀ (d j : Nat), list.length - j = d → j ≤ list.length → Ev (fun k => impl_behindOk.l0 k A B list (list.length : Int) (j : Int)) true := by
    intro d
    induction d with
    | zero =>
      intro j g1 g2
      exact Ev.step (fun k => by rw [impl_behindOk.l0]) (ev_neg (by omega) (ev_ret _))
    | succ d ih =>
      intro j g1 g2
      have hj : j < list.length := by omega
      have ht : list[j]? = some list[j] := List.getElem?_eq_getElem hj
      have hc := timesP_at S.c j list[j] ht
      obtain ⟨P, hPl, ⟨e, he⟩, hrow, _⟩ := S.row ht
      have hrd : rd_ITime list (j : Int) = list[j] := getD_of ht
      generalize list[j] = t at *
      have hrow := hrow i hi
      rw [hn', ← hCa j hj, ← hCb j hj] at hrow
      have ra : rd A (j : Int) = A.getD j 0 := rfl
      have rb : rd B (j : Int) = B.getD j 0 := rfl
      have hj2 : ∀ x : Int, x = A.getD j 0 → Ev (fun k => impl_behindOk.j2 k A B (j : Int) x list (list.length : Int) (j : Int)) true := fun x hx' => by
        refine Ev.step (fun k => by rw [impl_behindOk.j2, wrap_nat (n := j) (m := list.length) hj (Nat.le_trans hl2 (by decide)), ra]) (ev_pos (by omega) (ev_pos (by omega) (ev_pos hx'.symm ?_)))
        exact ih (j + 1) (by omega) (by omega)
      have pa : ∀ a : Int, 0 ≤ a → a < (j : Int) → (P.getD a.toNat []).getD i 0 = rd A a := fun a a0 a1 => by
        rw [pre_get he a0 (by omega), ← hCa a.toNat (by omega)]; rfl
      have pb : ∀ a : Int, 0 ≤ a → a < (j : Int) → (P.getD a.toNat []).getD i' 0 = rd B a := fun a a0 a1 => by
        rw [pre_get he a0 (by omega), ← hCb a.toNat (by omega)]; rfl
      refine Ev.step (fun k => by rw [impl_behindOk.l0, hrd]) (ev_pos (by omega) (ev_pos (by omega) (ev_pos (by omega) ?_)))
      by_cases h5 : t.f0 ≥ 5
      · obtain ⟨h2, h3⟩ : (0 ≤ t.f2 ∧ t.f2 < (j : Int)) ∧ (0 ≤ t.f3 ∧ t.f3 < (j : Int)) := by
          rcases hc with h | h | h
          · omega
          · omega
          · exact h.2.2
        refine ev_pos h5 (Ev.step (fun k => by rw [impl_behindOk.j1, ra, rb]) (ev_pos (by omega) (ev_pos (by omega) ?_)))
        by_cases c5 : t.f0 = 5
        · refine ev_pos c5 (ev_pos h2.1 (ev_pos (by omega) (hj2 _ ?_)))
          rw [hrow, ← pb t.f2 h2.1 h2.2]
          unfold genG plainV
          rw [if_neg (by omega), if_neg (by omega), if_neg (by omega), if_neg (by omega), if_neg (by omega), if_pos c5, hlen, hn']
        refine ev_neg c5 ?_
        have bA : isBit (rd A t.f2) := hb t.f2.toNat
        have bB : isBit (rd A t.f3) := hb t.f3.toNat
        obtain ⟨o1, o2, _, _⟩ := bit_or_and bA bB (hb' j)
        have hgen : A.getD j 0 = stG t.f0 (P.getD t.f2.toNat []) (P.getD t.f3.toNat []) i (B.getD j 0) := by rw [hrow]; unfold genG; rw [if_pos (by omega)]
        unfold stG at hgen
        rw [pa t.f2 h2.1 h2.2, pa t.f3 h3.1 h3.2] at hgen
        by_cases c6 : t.f0 = 6
        · refine ev_pos c6 (ev_pos h3.1 (ev_pos (by omega) (ev_pos h2.1 (ev_pos (by omega) (ev_pos (by omega) (hj2 _ ?_))))))
          rw [o1, hgen, if_pos c6]
        · refine ev_neg c6 (ev_pos (by rcases hc with h | h | h <;> omega) (ev_pos h3.1 (ev_pos (by omega) (ev_pos h2.1 (ev_pos (by omega) (ev_pos (by omega) (hj2 _ ?_)))))))
          rw [o2, hgen, if_neg c6]
      · refine ev_neg h5 (Ev.step (fun k => by rw [impl_behindOk.j1, ra]) (ev_pos (by omega) (ev_pos (by omega) (ev_neg (by omega) (ev_neg (by omega) (ev_neg (by omega) (hj2 _ rfl)))))))
  exact key list.length 0 (by omega) (by omega)
end
end Go.Proofs.Ytikjlbanfbkhmaa.PA
end
section
set_option linter.unusedVariables false
set_option linter.unusedSimpArgs false
namespace Go.Proofs.Ytikjlbanfbkhmaa.PA
open Go.RowKit Go.Proofs.YtikjlbanfbkhmaaW.PrintWords
theorem ev_mono_at {α : Type} {g : Nat → Option α} (h : ∀ k, LeO (g k) (g (k + 1))) {n : Nat} {r : α} (e : g n = some r) : Ev g r := by
  refine ⟨n, fun k hk => ?_⟩
  obtain ⟨d, rfl⟩ : ∃ d, k = n + d := ⟨k - n, by omega⟩
  induction d with
  | zero => exact e
  | succ d ih => exact h (n + d) _ (ih (by omega))
theorem impl_bitsFor_pow {m : Nat} (h : m ≤ 7) : Ev (fun k => impl_bitsFor.f k (shl .i64 1 (m : Int))) (m : Int) := by
  refine ev_mono_at (n := 10) (fun k => impl_bitsFor.mono _ k) ?_
  match m, h with
  | 0, _ => decide +kernel
  | 1, _ => decide +kernel
  | 2, _ => decide +kernel
  | 3, _ => decide +kernel
  | 4, _ => decide +kernel
  | 5, _ => decide +kernel
  | 6, _ => decide +kernel
  | 7, _ => decide +kernel
theorem shl_pow {m : Nat} (h : m ≤ 7) : shl .i64 1 (m : Int) = ((2 ^ m : Nat) : Int) := by
  match m, h with
  | 0, _ => decide +kernel
  | 1, _ => decide +kernel
  | 2, _ => decide +kernel
  | 3, _ => decide +kernel
  | 4, _ => decide +kernel
  | 5, _ => decide +kernel
  | 6, _ => decide +kernel
  | 7, _ => decide +kernel
def kpIx : Nat → List ITime → List (Nat × ITime)
  | _, [] => []
  | n, t :: r => if t.f0 = 6 ∨ t.f0 = 7 then (n, t) :: kpIx (n + 1) r else kpIx (n + 1) r
def kv (C : List Int) (p : Nat × ITime) : Int :=
  if p.2.f0 = 6 then Go.bits .or .i64 (wrap64 (1 - C.getD p.1 0)) (C.getD p.2.f3.toNat 0) else Go.bits .or .i64 (C.getD p.1 0) (wrap64 (1 - C.getD p.2.f3.toNat 0))
theorem kpIx_mem (l : List ITime) : ∀ n, ∀ p ∈ kpIx n l, n ≤ p.1 ∧ l[p.1 - n]? = some p.2 ∧ (p.2.f0 = 6 ∨ p.2.f0 = 7) := by
  induction l with
  | nil => intro n p hp; simp [kpIx] at hp
  | cons t r ih =>
    intro n p hp
    have hr : ∀ q ∈ kpIx (n + 1) r, n ≤ q.1 ∧ (t :: r)[q.1 - n]? = some q.2 ∧ (q.2.f0 = 6 ∨ q.2.f0 = 7) := fun q hq => by
      obtain ⟨a, b, c⟩ := ih (n + 1) q hq
      refine ⟨by omega, ?_, c⟩
      rw [show q.1 - n = (q.1 - (n + 1)) + 1 by omega, List.getElem?_cons_succ]
      exact b
    unfold kpIx at hp
    split at hp
    · rename_i h
      rcases List.mem_cons.1 hp with rfl | hp
      · exact ⟨Nat.le_refl _, by simp, h⟩
      · exact hr p hp
    · exact hr p hp
theorem kpIx_len (l : List ITime) : ∀ n, (kpIx n l).length ≤ l.length := by
  induction l with
  | nil => intro n; simp [kpIx]
  | cons t r ih =>
    intro n
    have := ih (n + 1)
    unfold kpIx
    split <;> simp <;> omega
theorem bit_or {a b : Int} (ha : isBit a) (hb : isBit b) : Go.bits .or .i64 (wrap64 (1 - a)) b = (if a = 0 ∨ b = 1 then 1 else 0) ∧ Go.bits .or .i64 a (wrap64 (1 - b)) = (if a = 1 ∨ b = 0 then 1 else 0) := by
  unfold isBit at ha hb
  rcases ha with rfl | rfl <;> rcases hb with rfl | rfl <;> decide +kernel
section
variable {list : List ITime} {stem loop : List (List Int)} {facts : Int} (S : Sem list stem loop facts)
include S
theorem impl_keeps_ev {C : List Int} (hC : C.length = list.length) : Ev (fun k => impl_keeps.f k list C) ((kpIx 0 list).map (kv C)) := by
  obtain ⟨_, hl1, hl2⟩ := timesP_in S.c
  unfold impl_keeps.f
  have key : ∀ (d j : Nat), list.length - j = d → j ≤ list.length → ∀ x : List Int, x.length ≤ j → Ev (fun k => impl_keeps.l0 k C x list (list.length : Int) (j : Int)) (x ++ (kpIx j (list.drop j)).map (kv C)) := by
    intro d
    induction d with
    | zero =>
      intro j g1 g2 x g3
      have : j = list.length := by omega
      subst this
      refine Ev.step (fun k => by rw [impl_keeps.l0]) (ev_neg (by omega) ?_)
      refine ev_bind (g := fun _ => impl_clone_int.f x) (ev_fix (by unfold impl_clone_int.f; rw [if_pos (by omega)])) (ev_eq (ev_ret _) ?_)
      rw [List.drop_length]
      simp [kpIx]
    | succ d ih =>
      intro j g1 g2 x g3
      have hj : j < list.length := by omega
      have ht : list[j]? = some list[j] := List.getElem?_eq_getElem hj
      have hc := timesP_at S.c j list[j] ht
      have hrd : rd_ITime list (j : Int) = list[j] := getD_of ht
      rw [List.drop_eq_getElem_cons hj]
      generalize list[j] = t at *
      have r1 : rd C (j : Int) = C.getD j 0 := rfl
      have r2 : rd C t.f3 = C.getD t.f3.toNat 0 := rfl
      refine Ev.step (fun k => by rw [impl_keeps.l0, hrd, wrap_nat (n := j) (m := list.length) hj (Nat.le_trans hl2 (by decide)), r1, r2]) (ev_pos (by omega) (ev_pos (by omega) (ev_pos (by omega) ?_)))
      have h3 : t.f0 = 6 ∨ t.f0 = 7 → 0 ≤ t.f3 ∧ t.f3 < (j : Int) := fun h => by
        rcases hc with h' | h' | h'
        · omega
        · omega
        · exact h'.2.2.2
      have step : ∀ y : Int, (t.f0 = 6 ∨ t.f0 = 7) → y = kv C (j, t) → Ev (fun k => impl_keeps.l0 k C (x ++ [y]) list (list.length : Int) ((j + 1 : Nat) : Int)) (x ++ (kpIx j (t :: list.drop (j + 1))).map (kv C)) := fun y h hy => by
        have := ih (j + 1) (by omega) (by omega) (x ++ [y]) (by simp; omega)
        rw [hy, List.append_assoc] at this
        rw [hy]
        unfold kpIx
        rw [if_pos h]
        exact this
      by_cases c6 : t.f0 = 6
      · obtain ⟨a, b⟩ := h3 (.inl c6)
        refine ev_pos c6 (ev_pos (by omega) (ev_pos a (ev_pos (by omega) (ev_pos (by omega) (step _ (.inl c6) ?_)))))
        unfold kv; rw [if_pos c6]
      refine ev_neg c6 ?_
      by_cases c7 : t.f0 = 7
      · obtain ⟨a, b⟩ := h3 (.inr c7)
        refine ev_pos c7 (ev_pos (by omega) (ev_pos a (ev_pos (by omega) (ev_pos (by omega) (step _ (.inr c7) ?_)))))
        unfold kv; rw [if_neg c6]
      refine ev_neg c7 ?_
      have := ih (j + 1) (by omega) (by omega) x (by omega)
      unfold kpIx
      rw [if_neg (by omega)]
      exact this
  have := key list.length 0 (by omega) (by omega) [] (by simp)
  simpa using this
theorem kept_some {p : Nat × ITime} (hp : p ∈ kpIx 0 list) : ∃ i, stem.length ≤ i ∧ i < stem.length + loop.length ∧ kv (colT (rowsOf list stem loop) i) p = 1 := by
  obtain ⟨hf, hlp, hN, hx⟩ := wordP_and S.d
  obtain ⟨_, ht, h67⟩ := kpIx_mem list 0 p hp
  rw [Nat.sub_zero] at ht
  obtain ⟨j, t⟩ := p
  have ht : list[j]? = some t := ht
  have h67 : t.f0 = 6 ∨ t.f0 = 7 := h67
  have hj : j < list.length := by
    rcases Nat.lt_or_ge j list.length with h | h
    · exact h
    · rw [List.getElem?_eq_none h] at ht; cases ht
  have hc := timesP_at S.c j t ht
  obtain ⟨h20, h30⟩ : (0 ≤ t.f2 ∧ t.f2 < (j : Int)) ∧ (0 ≤ t.f3 ∧ t.f3 < (j : Int)) := by
    rcases hc with h' | h' | h'
    · omega
    · omega
    · exact h'.2.2
  obtain ⟨P, hPl, ⟨e, he⟩, hrow, hst⟩ := S.row ht
  have hlen : (stem ++ loop).length = stem.length + loop.length := List.length_append
  have pa : ∀ (a : Int) i, 0 ≤ a → a < (j : Int) → (P.getD a.toNat []).getD i 0 = (colT (rowsOf list stem loop) i).getD a.toNat 0 := fun a i a0 a1 => by
    rw [pre_get he a0 (by omega), colT_at (by rw [S.len]; omega)]
  have cj : ∀ i, (colT (rowsOf list stem loop) i).getD j 0 = ((rowsOf list stem loop).getD j []).getD i 0 := fun i => colT_at (by rw [S.len]; omega)
  by_cases hall : ∃ i, stem.length ≤ i ∧ i < stem.length + loop.length ∧ kv (colT (rowsOf list stem loop) i) (j, t) = 1
  · exact hall
  exfalso
  have hno : ∀ i, stem.length ≤ i → i < stem.length + loop.length → kv (colT (rowsOf list stem loop) i) (j, t) ≠ 1 := fun i a b c => hall ⟨i, a, b, c⟩
  have key : ∀ (y : Int), (∀ i, stem.length ≤ i → i < stem.length + loop.length → genG t P (stem ++ loop) stem.length (stem ++ loop).length i y = y) → ∀ q, q ≤ (stem ++ loop).length - 1 - stem.length → chn (genG t P (stem ++ loop) stem.length (stem ++ loop).length) (stem ++ loop).length y q = y := by
    intro y hy q
    induction q with
    | zero => intro _; exact hy _ (by omega) (by omega)
    | succ q ih =>
      intro hq
      show genG t P (stem ++ loop) stem.length (stem ++ loop).length ((stem ++ loop).length - 1 - (q + 1)) (chn _ _ y q) = y
      rw [ih (by omega)]
      exact hy _ (by omega) (by omega)
  rcases h67 with c | c
  · have hk : ∀ i, stem.length ≤ i → i < stem.length + loop.length → (colT (rowsOf list stem loop) i).getD j 0 = 1 ∧ (colT (rowsOf list stem loop) i).getD t.f3.toNat 0 = 0 := fun i a b => by
      have h := hno i a b
      unfold kv at h
      rw [if_pos (show ((j, t) : Nat × ITime).2.f0 = 6 from c)] at h
      have b1 := S.col_bit (i := i) j
      have b2 := S.col_bit (i := i) t.f3.toNat
      rw [(bit_or (show isBit ((colT (rowsOf list stem loop) i).getD ((j, t) : Nat × ITime).1 0) from b1) (show isBit ((colT (rowsOf list stem loop) i).getD ((j, t) : Nat × ITime).2.f3.toNat 0) from b2)).1] at h
      unfold isBit at b1 b2
      have h : ¬ ((colT (rowsOf list stem loop) i).getD j 0 = 0 ∨ (colT (rowsOf list stem loop) i).getD t.f3.toNat 0 = 1) := fun hh => h (if_pos hh)
      omega
    have h1 := hk stem.length (Nat.le_refl _) (by omega)
    have hz := key 0 (fun i a b => by
      have := hk i a b
      unfold genG stG
      rw [if_pos (by omega), if_pos c, pa t.f3 i h30.1 h30.2, if_neg (by omega)]) ((stem ++ loop).length - 1 - stem.length) (Nat.le_refl _)
    have hs0 : startV t.f0 = 0 := by unfold startV; rw [if_neg (by omega)]
    rw [hs0, hz, ← cj] at hst
    omega
  · have hk : ∀ i, stem.length ≤ i → i < stem.length + loop.length → (colT (rowsOf list stem loop) i).getD j 0 = 0 ∧ (colT (rowsOf list stem loop) i).getD t.f3.toNat 0 = 1 := fun i a b => by
      have h := hno i a b
      unfold kv at h
      rw [if_neg (show ¬ ((j, t) : Nat × ITime).2.f0 = 6 from by show ¬ t.f0 = 6; omega)] at h
      have b1 := S.col_bit (i := i) j
      have b2 := S.col_bit (i := i) t.f3.toNat
      rw [(bit_or (show isBit ((colT (rowsOf list stem loop) i).getD ((j, t) : Nat × ITime).1 0) from b1) (show isBit ((colT (rowsOf list stem loop) i).getD ((j, t) : Nat × ITime).2.f3.toNat 0) from b2)).2] at h
      unfold isBit at b1 b2
      have h : ¬ ((colT (rowsOf list stem loop) i).getD j 0 = 1 ∨ (colT (rowsOf list stem loop) i).getD t.f3.toNat 0 = 0) := fun hh => h (if_pos hh)
      omega
    have h1 := hk stem.length (Nat.le_refl _) (by omega)
    have hz := key 1 (fun i a b => by
      have := hk i a b
      unfold genG stG
      rw [if_pos (by omega), if_neg (by omega), pa t.f3 i h30.1 h30.2, if_pos (by omega)]) ((stem ++ loop).length - 1 - stem.length) (Nat.le_refl _)
    have hs0 : startV t.f0 = 1 := by unfold startV; rw [if_pos c]
    rw [hs0, hz, ← cj] at hst
    omega
def gN (list : List ITime) (stem loop : List (List Int)) (i : Nat) : Int := ((numFrom 0 (gB list stem loop i) : Nat) : Int)
theorem Sem.count (hA : facts + (stepsP list).length ≤ 7) : Ev (fun k => impl_GuessCount.f k list facts) (((2 ^ (facts + (stepsP list).length).toNat : Nat) : Int)) := by
  obtain ⟨hf, hlp, hN, hx⟩ := wordP_and S.d
  obtain ⟨_, hl1, hl2⟩ := timesP_in S.c
  refine ev_eq (impl_GuessCount_ev list facts (by omega)) ?_
  unfold guessesP askedP
  rw [S.c, Bool.true_and, decide_eq_true hA, if_pos rfl]
  obtain ⟨m, hm⟩ : ∃ m : Nat, facts + (stepsP list).length = (m : Int) := ⟨(facts + (stepsP list).length).toNat, by omega⟩
  rw [hm, shl_pow (by omega), Int.toNat_natCast]
theorem Sem.gN_in (hA : facts + (stepsP list).length ≤ 7) {i : Nat} (hi : i < stem.length + loop.length) : inR (gN list stem loop i) 0 (wrap64 ((((2 ^ (facts + (stepsP list).length).toNat : Nat) : Int)) - 1)) = true := by
  obtain ⟨hf, hlp, hN, hx⟩ := wordP_and S.d
  obtain ⟨b1, b2⟩ := S.gB_bits hi
  have hlt := numFrom_lt b1
  rw [show (gB list stem loop i).length = (facts + (stepsP list).length).toNat by omega] at hlt
  have hp : (2 : Nat) ^ (facts + (stepsP list).length).toNat ≤ 2 ^ 7 := Nat.pow_le_pow_right (by omega) (by omega)
  have h7 : (2 : Nat) ^ 7 = 128 := by decide
  rw [inR_iff, wrap_in (by omega) (by omega)]
  unfold gN
  omega
theorem guessAt_gN {i : Nat} (hA : facts + (stepsP list).length ≤ 7) (hi : i < stem.length + loop.length) : guessAt list stem loop i = gN list stem loop i := by
  obtain ⟨b1, b2⟩ := S.gB_bits hi
  obtain ⟨hf, hlp, hN, hx⟩ := wordP_and S.d
  have h60 : (gB list stem loop i).length ≤ 60 := by omega
  exact bitNum_num b1 h60
theorem impl_GuessNext_ev (hA : facts + (stepsP list).length ≤ 7) {i : Nat} (hi : i < stem.length + loop.length) : Ev (fun k => impl_GuessNext.f k list facts (gN list stem loop i) (gN list stem loop (nxt stem.length (stem.length + loop.length) i))) true := by
  obtain ⟨hf, hlp, hN, hx⟩ := wordP_and S.d
  have hi' : nxt stem.length (stem.length + loop.length) i < stem.length + loop.length := by unfold nxt; split <;> omega
  unfold impl_GuessNext.f
  refine ev_bind (S.count hA) ?_
  rw [impl_in_eq, impl_in_eq, S.gN_in hA hi, S.gN_in hA hi']
  exact ev_bind (ev_ret _) (ev_pos rfl (ev_bind (ev_ret _) (ev_pos rfl (ev_bind (impl_truths_ev S hA hi) (ev_bind (impl_truths_ev S hA hi') (ev_bind (impl_behindOk_ev S hi) (ev_ret _)))))))
theorem impl_GuessLetter_ev (hA : facts + (stepsP list).length ≤ 7) {i : Nat} (hi : i < stem.length + loop.length) : Ev (fun k => impl_GuessLetter.f k list facts (gN list stem loop i)) ((stem ++ loop).getD i []) := by
  obtain ⟨hf, hlp, hN, hx⟩ := wordP_and S.d
  obtain ⟨b1, b2⟩ := S.gB_bits hi
  have hlet := (hx _ (w_mem hi)).1
  unfold impl_GuessLetter.f
  refine ev_bind (S.count hA) ?_
  rw [impl_in_eq, S.gN_in hA hi]
  obtain ⟨m, hm⟩ : ∃ m : Nat, facts + (stepsP list).length = (m : Int) := ⟨(facts + (stepsP list).length).toNat, by omega⟩
  have hml : (gB list stem loop i).length = m := by omega
  rw [hm, Int.toNat_natCast, ← shl_pow (by omega)]
  have hlt := numFrom_lt b1
  have hp : (2 : Nat) ^ (gB list stem loop i).length ≤ 2 ^ 7 := Nat.pow_le_pow_right (by omega) (by omega)
  have h7 : (2 : Nat) ^ 7 = 128 := by decide
  have hv := impl_valueBits_nat (n := numFrom 0 (gB list stem loop i)) (m := (gB list stem loop i).length) (by omega) (by omega)
  rw [bitsN_num b1, hml] at hv
  refine ev_bind (ev_ret _) (ev_pos rfl (ev_bind (impl_bitsFor_pow (by omega)) (ev_bind hv (ev_pos (by omega) (ev_pos (by omega) ?_)))))
  have htk : (gB list stem loop i).take facts.toNat = (stem ++ loop).getD i [] := by
    unfold gB guessB
    rw [List.take_append_of_le_length (by omega), List.take_of_length_le (by omega)]
  rw [htk]
  exact ev_bind (g := fun _ => impl_clone_int.f _) (ev_fix (by unfold impl_clone_int.f; rw [if_pos (by omega)])) (ev_ret _)
theorem impl_GuessKept_ev (hA : facts + (stepsP list).length ≤ 7) {i : Nat} (hi : i < stem.length + loop.length) : Ev (fun k => impl_GuessKept.f k list facts (gN list stem loop i)) ((kpIx 0 list).map (kv (colT (rowsOf list stem loop) i))) := by
  unfold impl_GuessKept.f
  refine ev_bind (S.count hA) ?_
  rw [impl_in_eq, S.gN_in hA hi]
  exact ev_bind (ev_ret _) (ev_pos rfl (ev_bind (impl_truths_ev S hA hi) (ev_bind (impl_keeps_ev S (by rw [colT_len, S.len])) (ev_ret _))))
end
end Go.Proofs.Ytikjlbanfbkhmaa.PA
end
section
set_option linter.unusedVariables false
set_option linter.unusedSimpArgs false
namespace Go.Proofs.Ytikjlbanfbkhmaa.PA
open Go.RowKit Go.Proofs.YtikjlbanfbkhmaaW.PrintWords
def Tot {α : Type} (g : Nat → Option α) (Q : α → Prop) : Prop := ∃ r, Ev g r ∧ Q r
section
variable {α β : Type} {Q : α → Prop}
theorem tot_ret {r : α} (h : Q r) : Tot (fun _ => some r) Q := ⟨r, ev_ret r, h⟩
theorem tot_fix {o : Option α} (h : ∃ r, o = some r ∧ Q r) : Tot (fun _ => o) Q := by obtain ⟨r, h, q⟩ := h; exact ⟨r, ev_fix h, q⟩
theorem tot_pos {c : Prop} [Decidable c] {f g : Nat → Option α} (h : c) (k : Tot f Q) : Tot (fun n => if c then f n else g n) Q := by
  obtain ⟨r, k, q⟩ := k
  exact ⟨r, ev_pos h k, q⟩
theorem tot_neg {c : Prop} [Decidable c] {f g : Nat → Option α} (h : ¬ c) (k : Tot g Q) : Tot (fun n => if c then f n else g n) Q := by
  obtain ⟨r, k, q⟩ := k
  exact ⟨r, ev_neg h k, q⟩
theorem tot_ite {c : Prop} [Decidable c] {f g : Nat → Option α} (h1 : c → Tot f Q) (h2 : ¬ c → Tot g Q) : Tot (fun n => if c then f n else g n) Q := by
  by_cases h : c
  · exact tot_pos h (h1 h)
  · exact tot_neg h (h2 h)
theorem tot_bind {g : Nat → Option β} {f : Nat → β → Option α} {R : β → Prop} (h : Tot g R) (k : ∀ b, R b → Tot (fun n => f n b) Q) : Tot (fun n => (g n).bind (fun t => f n t)) Q := by
  obtain ⟨b, h, q⟩ := h
  obtain ⟨r, k, q⟩ := k b q
  exact ⟨r, ev_bind h k, q⟩
theorem tot_step {g f : Nat → Option α} (h : ∀ k, g (k + 1) = f k) (k : Tot f Q) : Tot g Q := by
  obtain ⟨r, k, q⟩ := k
  exact ⟨r, Ev.step h k, q⟩
theorem tot_mono {g : Nat → Option α} {R : α → Prop} (h : Tot g R) (k : ∀ r, R r → Q r) : Tot g Q := by
  obtain ⟨r, h, q⟩ := h
  exact ⟨r, h, k r q⟩
end
def ByteL (b : List Int) : Prop := b.length ≤ 2000 ∧ ∀ x ∈ b, 0 ≤ x ∧ x < 256
theorem xor_nat (a b : Int) (ha : 0 ≤ a) (hb : 0 ≤ b) (ha' : a < 4611686018427387904) (hb' : b < 4611686018427387904) : ∃ n : Nat, Go.bits .xor .i64 a b = (n : Int) ∧ n < 9223372036854775808 := by
  obtain ⟨a, rfl⟩ := Int.eq_ofNat_of_zero_le ha
  obtain ⟨b, rfl⟩ := Int.eq_ofNat_of_zero_le hb
  refine ⟨a ^^^ b, ?_, Nat.xor_lt_two_pow (n := 63) (by omega) (by omega)⟩
  have h1 : a % 2 ^ 64 = a := Nat.mod_eq_of_lt (by omega)
  have h2 : b % 2 ^ 64 = b := Nat.mod_eq_of_lt (by omega)
  have h3 : a ^^^ b < 2 ^ 63 := Nat.xor_lt_two_pow (by omega) (by omega)
  unfold Go.bits
  simp only [BitVec.ofInt_natCast]
  rw [BitVec.toNat_xor, BitVec.toNat_ofNat, BitVec.toNat_ofNat]
  show Go.IntKind.i64.wrap (((a % 2 ^ 64) ^^^ (b % 2 ^ 64) : Nat) : Int) = _
  rw [h1, h2, Go.IntKind.wrap_i64]
  omega
theorem tmod_in {x n : Int} (hx : 0 ≤ x) (hn : 1 ≤ n) : 0 ≤ x.tmod n ∧ x.tmod n < n := ⟨Int.tmod_nonneg n hx, Int.tmod_lt_of_pos x (by omega)⟩
theorem byte_at {b : List Int} (h : ByteL b) {i : Int} (h0 : 0 ≤ i) (h1 : i < (b.length : Int)) : 0 ≤ rd b i ∧ rd b i < 256 := by
  have : b[i.toNat]? = some b[i.toNat] := List.getElem?_eq_getElem (by omega)
  have e : rd b i = b[i.toNat] := by
    show b.getD i.toNat _ = _
    simp [List.getD_eq_getElem?_getD, this]
  rw [e]
  exact h.2 _ (List.getElem_mem _)
end Go.Proofs.Ytikjlbanfbkhmaa.PA
end
section
set_option linter.unusedVariables false
set_option linter.unusedSimpArgs false
namespace Go.Proofs.Ytikjlbanfbkhmaa.PA
open Go.RowKit Go.Proofs.YtikjlbanfbkhmaaW.PrintWords
theorem mix_in {u v p d : Int} (hu : 0 ≤ u ∧ u < 256) (hv : 0 ≤ v ∧ v < 256) (hp : 0 ≤ p ∧ p ≤ 1000000000000) (hd : 0 ≤ d ∧ d ≤ p) :
    wrap64 (wrap64 (wrap64 (wrap64 (wrap64 u * 131) + wrap64 (wrap64 v * 1117)) + wrap64 (p * 29)) + wrap64 (wrap64 d * 53)) = u * 131 + v * 1117 + p * 29 + d * 53 := by
  rw [wrap_in (x := u) (by omega) (by omega), wrap_in (x := v) (by omega) (by omega), wrap_in (x := d) (by omega) (by omega), wrap_in (x := u * 131) (by omega) (by omega), wrap_in (x := v * 1117) (by omega) (by omega), wrap_in (x := p * 29) (by omega) (by omega),
    wrap_in (x := d * 53) (by omega) (by omega), wrap_in (x := u * 131 + v * 1117) (by omega) (by omega), wrap_in (x := u * 131 + v * 1117 + p * 29) (by omega) (by omega), wrap_in (by omega) (by omega)]
def PickQ (p n : Int) (r : Int × Int) : Prop := r.1 = p + 1 ∧ 0 ≤ r.2 ∧ (1 ≤ n → r.2 < n) ∧ (n < 1 → r.2 = 0)
theorem pick_tot {b : List Int} (hb : ByteL b) {p : Int} (h0 : 0 ≤ p) (h1 : p ≤ 1000000000000) (n : Int) : Tot (fun k => spec_l40Rd_pick.f k b p n) (PickQ p n) := by
  unfold spec_l40Rd_pick.f
  have w1 : wrap64 (p + 1) = p + 1 := wrap_in (by omega) (by omega)
  have w2 : wrap64 (p + 1 - 1) = p := by rw [wrap_in (by omega) (by omega)]; omega
  simp only [w1, w2]
  refine tot_ite (fun h => tot_ret ⟨rfl, Int.le_refl _, fun _ => by omega, fun _ => rfl⟩) fun h => tot_ite (fun h2 => tot_ret ⟨rfl, Int.le_refl _, fun _ => by show (0 : Int) < n; omega, fun _ => rfl⟩) fun h2 => tot_ite (fun h3 => ?_) fun h3 => ?_
  · refine tot_pos h0 (tot_pos h3 (tot_pos (by omega) (tot_ret ?_)))
    have hr := byte_at hb h0 h3
    rw [wrap_in (x := rd b p) (by omega) (by omega)]
    have := tmod_in (x := rd b p) (n := n) hr.1 (by omega)
    exact ⟨rfl, this.1, fun _ => this.2, fun h => by omega⟩
  · have w3 : wrap64 (wrap64 (p * 7) + 3) = p * 7 + 3 := by rw [wrap_in (x := p * 7) (by omega) (by omega), wrap_in (by omega) (by omega)]
    simp only [w3]
    have m1 := tmod_in (x := p) (n := (b.length : Int)) h0 (by omega)
    have m2 := tmod_in (x := p * 7 + 3) (n := (b.length : Int)) (by omega) (by omega)
    refine tot_pos h2 (tot_pos m1.1 (tot_pos m1.2 (tot_pos h2 (tot_pos m2.1 (tot_pos m2.2 (tot_pos h2 (tot_pos (by omega) (tot_ret ?_))))))))
    have d1 : 0 ≤ Int.tdiv p (b.length : Int) := Int.tdiv_nonneg h0 (by omega)
    have d2 : Int.tdiv p (b.length : Int) ≤ p := by rw [Int.tdiv_eq_ediv_of_nonneg h0]; exact Int.ediv_le_self _ h0
    have r1 := byte_at hb m1.1 m1.2
    have r2 := byte_at hb m2.1 m2.2
    rw [mix_in r1 r2 ⟨h0, h1⟩ ⟨d1, d2⟩]
    generalize hX : rd b (Int.tmod p (b.length : Int)) * 131 + rd b (Int.tmod (p * 7 + 3) (b.length : Int)) * 1117 + p * 29 + Int.tdiv p (b.length : Int) * 53 = X
    have x0 : 0 ≤ X ∧ X ≤ 1000000000000000 := by omega
    have e1 : 0 ≤ Int.tdiv X 64 := Int.tdiv_nonneg x0.1 (by omega)
    have e2 : Int.tdiv X 64 ≤ X := by rw [Int.tdiv_eq_ediv_of_nonneg x0.1]; exact Int.ediv_le_self _ x0.1
    rw [wrap_in (x := Int.tdiv X 64) (by omega) (by omega)]
    obtain ⟨m, hm, _⟩ := xor_nat X (Int.tdiv X 64) x0.1 e1 (by omega) (by omega)
    rw [hm]
    have := tmod_in (x := (m : Int)) (n := n) (by omega) (by omega)
    exact ⟨rfl, this.1, fun _ => this.2, fun h => by omega⟩
theorem rd_mem {l : List Int} {i : Int} (h0 : 0 ≤ i) (h1 : i < (l.length : Int)) : rd l i ∈ l := by
  have : l[i.toNat]? = some l[i.toNat] := List.getElem?_eq_getElem (by omega)
  have e : rd l i = l[i.toNat] := by
    show l.getD i.toNat _ = _
    simp [List.getD_eq_getElem?_getD, this]
  rw [e]
  exact List.getElem_mem _
theorem num_tot {b : List Int} (hb : ByteL b) {p : Int} (h0 : 0 ≤ p) (h1 : p ≤ 1000000000000) (l : List Int) (hl : l ≠ []) : Tot (fun k => spec_l40Rd_num.f k b p l) (fun r => r.1 = p + 1 ∧ r.2 ∈ l) := by
  unfold spec_l40Rd_num.f
  have hn : 0 < l.length := List.length_pos_iff.2 hl
  refine tot_bind (pick_tot hb h0 h1 _) fun r q => ?_
  obtain ⟨q1, q2, q3, _⟩ := q
  have q3 := q3 (by omega)
  exact tot_pos q2 (tot_pos q3 (tot_ret ⟨q1, rd_mem q2 q3⟩))
section
variable {b : List Int} (hb : ByteL b) {vars kind : Int} (hv : 0 ≤ vars ∧ vars ≤ 5)
include hb in
include hb hv in
include hb hv in
end
end Go.Proofs.Ytikjlbanfbkhmaa.PA
end
section
set_option linter.unusedVariables false
set_option linter.unusedSimpArgs false
namespace Go.Proofs.Ytikjlbanfbkhmaa.PA
open Go.RowKit Go.Proofs.YtikjlbanfbkhmaaW.PrintWords
section
variable {b : List Int} (hb : ByteL b)
include hb
omit hb in
omit hb in
omit hb in
end
theorem l40Open_tot {l : List Int} (h : ∀ x ∈ l, 0 ≤ x ∧ x < 256) : Tot (fun k => spec_l40Open.f k l) (fun r => ByteL r.1 ∧ r.2 = 0) := by
  unfold spec_l40Open.f
  refine tot_ite (fun h1 => tot_pos (by omega) (tot_ret ⟨⟨by rw [List.length_take]; omega, fun x hx => h x (List.mem_of_mem_take hx)⟩, rfl⟩)) fun h1 => tot_ret ⟨⟨by show l.length ≤ 2000; omega, h⟩, rfl⟩
theorem bytes_in {l : List Int} (h : l.length ≤ 9223372036854775807 ∧ ∀ x ∈ l, (Lit.int .u8 x).wf = true) : ∀ x ∈ l, 0 ≤ x ∧ x < 256 := fun x hx => by
  have := h.2 x hx
  have e1 : Go.IntKind.u8.min = 0 := by decide
  have e2 : Go.IntKind.u8.max = 255 := by decide
  simp [Lit.wf] at this
  omega
end Go.Proofs.Ytikjlbanfbkhmaa.PA
end
section
set_option linter.unusedVariables false
set_option linter.unusedSimpArgs false
namespace Go.Proofs.Ytikjlbanfbkhmaa.PA
open Go.RowKit Go.Proofs.YtikjlbanfbkhmaaW.PrintWords
def DrQ (p : Int) (n m : Nat) (r : Int × List ITime) : Prop := p ≤ r.1 ∧ r.1 ≤ p + 10 * n ∧ r.2.length = m + n
section
variable {b : List Int} (hb : ByteL b)
include hb
theorem l20DrawL_tot (a1 : Int) : ∀ (n : Nat) (p later : Int) (x : List ITime), 0 ≤ p → p + 10 * n ≤ 1000000 → x.length + n ≤ 20 → Tot (fun k => spec_l20Draw.l1 k p later x (n : Int) b a1) (DrQ p n x.length)
  | 0, p, later, x, h0, h1, h2 => tot_step (fun k => by rw [spec_l20Draw.l1]) (tot_neg (by omega) (tot_ret ⟨Int.le_refl _, by show p ≤ _; omega, by simp⟩))
  | n + 1, p, later, x, h0, h1, h2 => by
    have hw : wrap64 (((n + 1 : Nat) : Int) - 1) = (n : Int) := by rw [wrap_in (by omega) (by omega)]; omega
    have hj3 : ∀ (q l2 c0 c1 c2 c3 : Int), p ≤ q → q ≤ p + 10 → Tot (fun k => spec_l20Draw.j3 k q l2 c0 c1 c2 c3 b a1 x ((n + 1 : Nat) : Int)) (DrQ p (n + 1) x.length) := fun q l2 c0 c1 c2 c3 e1 e2 => by
      refine tot_step (fun k => by rw [spec_l20Draw.j3, hw]) (tot_pos (by omega) ?_)
      refine tot_mono (l20DrawL_tot a1 n q l2 _ (by omega) (by omega) (by simp; omega)) fun r ⟨k1, k2, k3⟩ => ⟨by omega, by omega, by simp at k3; omega⟩
    have hj4 : ∀ (c0 c1 l2 : Int) (r3 : Int × Int), p ≤ r3.1 → r3.1 ≤ p + 10 → Tot (fun k => spec_l20Draw.j4 k c0 c1 b a1 l2 x ((n + 1 : Nat) : Int) r3) (DrQ p (n + 1) x.length) := fun c0 c1 l2 r3 e1 e2 => tot_step (fun k => by rw [spec_l20Draw.j4]) (hj3 _ _ _ _ _ _ e1 e2)
    have hj5 : ∀ (c0 c1 l2 : Int) (r3 : Int × Int), p ≤ r3.1 → r3.1 ≤ p + 10 → Tot (fun k => spec_l20Draw.j5 k c0 c1 b a1 l2 x ((n + 1 : Nat) : Int) r3) (DrQ p (n + 1) x.length) := fun c0 c1 l2 r3 e1 e2 => tot_step (fun k => by rw [spec_l20Draw.j5]) (hj4 _ _ _ _ e1 e2)
    have hj6 : ∀ (q l2 c0 c1 c2 c3 : Int), p ≤ q → q ≤ p + 10 → Tot (fun k => spec_l20Draw.j6 k q l2 c0 c1 c2 c3 b a1 x ((n + 1 : Nat) : Int)) (DrQ p (n + 1) x.length) := fun q l2 c0 c1 c2 c3 e1 e2 => tot_step (fun k => by rw [spec_l20Draw.j6]) (hj3 _ _ _ _ _ _ e1 e2)
    have hj7 : ∀ (c0 c1 l2 : Int) (r3 : Int × Int), p ≤ r3.1 → r3.1 ≤ p + 10 → Tot (fun k => spec_l20Draw.j7 k c0 c1 b a1 l2 x ((n + 1 : Nat) : Int) r3) (DrQ p (n + 1) x.length) := fun c0 c1 l2 r3 e1 e2 => tot_step (fun k => by rw [spec_l20Draw.j7]) (hj6 _ _ _ _ _ _ e1 e2)
    have hj8 : ∀ (c0 c1 l2 : Int) (r3 : Int × Int), p ≤ r3.1 → r3.1 ≤ p + 10 → Tot (fun k => spec_l20Draw.j8 k c0 c1 b a1 l2 x ((n + 1 : Nat) : Int) r3) (DrQ p (n + 1) x.length) := fun c0 c1 l2 r3 e1 e2 => tot_step (fun k => by rw [spec_l20Draw.j8]) (hj7 _ _ _ _ e1 e2)
    have hj10 : ∀ (l2 c9 c3 : Int) (r5 r6 r7 : Int × Int), p ≤ r7.1 → r7.1 ≤ p + 10 → Tot (fun k => spec_l20Draw.j10 k l2 b a1 x ((n + 1 : Nat) : Int) c9 r5 r6 r7 c3) (DrQ p (n + 1) x.length) := fun l2 c9 c3 r5 r6 r7 e1 e2 => tot_step (fun k => by rw [spec_l20Draw.j10]) (hj6 _ _ _ _ _ _ e1 e2)
    have hj9 : ∀ (c3 l2 c9 : Int) (r5 r6 r7 : Int × Int), p ≤ r7.1 → r7.1 ≤ p + 10 → Tot (fun k => spec_l20Draw.j9 k c3 b a1 l2 x ((n + 1 : Nat) : Int) c9 r5 r6 r7) (DrQ p (n + 1) x.length) := fun c3 l2 c9 r5 r6 r7 e1 e2 =>
      tot_step (fun k => by rw [spec_l20Draw.j9]) (tot_ite (fun _ => hj10 _ _ _ _ _ _ e1 e2) fun _ => hj10 _ _ _ _ _ _ e1 e2)
    have hj2 : ∀ (c9 l2 : Int) (r2 : Int × Int), r2.1 = p + 1 → Tot (fun k => spec_l20Draw.j2 k c9 b a1 l2 x ((n + 1 : Nat) : Int) r2) (DrQ p (n + 1) x.length) := fun c9 l2 r2 e2 => by
      refine tot_step (fun k => by rw [spec_l20Draw.j2]) (tot_ite (fun _ => ?_) fun hne => tot_ite (fun _ => ?_) fun _ => ?_)
      · refine tot_bind (pick_tot hb (by omega) (by omega) a1) fun r3 q3 => ?_
        have g3 := q3.1
        exact tot_ite (fun _ => hj4 _ _ _ _ (by omega) (by omega)) fun _ => tot_ite (fun _ => tot_ite (fun _ => hj5 _ _ _ _ (by omega) (by omega)) fun _ => hj5 _ _ _ _ (by omega) (by omega)) fun _ => hj4 _ _ _ _ (by omega) (by omega)
      · refine tot_bind (pick_tot hb (by omega) (by omega) a1) fun r3 q3 => ?_
        have g3 := q3.1
        exact tot_ite (fun _ => hj7 _ _ _ _ (by omega) (by omega)) fun _ => tot_ite (fun _ => tot_ite (fun _ => hj8 _ _ _ _ (by omega) (by omega)) fun _ => hj8 _ _ _ _ (by omega) (by omega)) fun _ => hj7 _ _ _ _ (by omega) (by omega)
      · refine tot_bind (pick_tot hb (by omega) (by omega) 2) fun r5 q5 => ?_
        have g5 := q5.1
        refine tot_bind (pick_tot hb (by omega) (by omega) _) fun r6 q6 => ?_
        have g6 := q6.1
        refine tot_bind (pick_tot hb (by omega) (by omega) _) fun r7 q7 => ?_
        have g7 := q7.1
        refine tot_bind (g := fun _ => spec_l20One.f c9) (R := fun _ => True) (tot_fix (by unfold spec_l20One.f; split <;> exact ⟨_, rfl, trivial⟩)) fun r8 _ => ?_
        exact tot_ite (fun _ => hj9 _ _ _ _ _ _ (by omega) (by omega)) fun _ => hj9 _ _ _ _ _ _ (by omega) (by omega)
    have hj11 : ∀ (c9 l2 : Int) (r2 : Int × Int), r2.1 = p + 1 → Tot (fun k => spec_l20Draw.j11 k c9 b a1 l2 x ((n + 1 : Nat) : Int) r2) (DrQ p (n + 1) x.length) := fun c9 l2 r2 e2 => tot_step (fun k => by rw [spec_l20Draw.j11]) (hj2 _ _ _ e2)
    refine tot_step (fun k => by rw [spec_l20Draw.l1]) (tot_pos (by omega) (tot_bind (num_tot hb h0 (by omega) _ (by simp)) fun r2 q2 => ?_))
    exact tot_ite (fun _ => tot_ite (fun _ => hj11 _ _ _ q2.1) fun _ => hj11 _ _ _ q2.1) fun _ => hj2 _ _ _ q2.1
theorem l20Any_tot {p : Int} (h0 : 0 ≤ p) (h1 : p ≤ 100000) (a1 a2 : Int) : Tot (fun k => spec_l20Any.f k b p a1 a2) (fun r => p ≤ r.1 ∧ r.1 ≤ p + 200 ∧ r.2.length ≤ 20) := by
  have hD : Tot (fun k => spec_l20Draw.f k b p a1 a2) (fun r => p ≤ r.1 ∧ r.1 ≤ p + 100 ∧ 1 ≤ r.2.length ∧ r.2.length ≤ 20) := by
    unfold spec_l20Draw.f
    refine tot_bind (pick_tot hb h0 (by omega) 7) fun r1 q1 => ?_
    obtain ⟨e1, e2, e3, _⟩ := q1
    have e3 := e3 (by omega)
    obtain ⟨n, hn⟩ : ∃ n : Nat, wrap64 (2 + r1.2) = (n : Int) := ⟨(2 + r1.2).toNat, by rw [wrap_in (by omega) (by omega)]; omega⟩
    have hn2 : (n : Int) = 2 + r1.2 := by rw [← hn, wrap_in (by omega) (by omega)]
    rw [hn]
    clear hn
    refine tot_mono (l20DrawL_tot hb a1 n r1.1 a2 [] (by omega) (by omega) (by simp; omega)) fun r ⟨k1, k2, k3⟩ => ⟨by omega, by omega, by simp at k3; omega, by simp at k3; omega⟩
  unfold spec_l20Any.f
  refine tot_bind hD fun r1 ⟨d1, d2, d3, d4⟩ => tot_bind (pick_tot hb (by omega) (by omega) 14) fun r2 q2 => ?_
  have e2 := q2.1
  refine tot_ite (fun _ => ?_) fun _ => tot_ret ⟨by show p ≤ r2.1; omega, by show r2.1 ≤ _; omega, d4⟩
  refine tot_bind (pick_tot hb (by omega) (by omega) (r1.2.length : Int)) fun r3 q3 => ?_
  obtain ⟨e3, f3, g3, _⟩ := q3
  have g3 := g3 (by omega)
  have hj1 : ∀ (q c0 c1 c2 c3 : Int), p ≤ q → q ≤ p + 200 → Tot (fun k => spec_l20Any.j1 k q c0 c1 c2 c3 b r1 r3) (fun r => p ≤ r.1 ∧ r.1 ≤ p + 200 ∧ r.2.length ≤ 20) := fun q c0 c1 c2 c3 k1 k2 => tot_step (fun k => by rw [spec_l20Any.j1]) (tot_pos f3 (tot_pos g3 (tot_ret ⟨k1, k2, by simpa using d4⟩)))
  have hj2 : ∀ (q c1 c2 c3 : Int), p ≤ q → q ≤ p + 200 → Tot (fun k => spec_l20Any.j2 k q c1 c2 c3 b r1 r3) (fun r => p ≤ r.1 ∧ r.1 ≤ p + 200 ∧ r.2.length ≤ 20) := fun q c1 c2 c3 k1 k2 => tot_step (fun k => by rw [spec_l20Any.j2]) (hj1 _ _ _ _ _ k1 k2)
  have hj3 : ∀ (q c2 c3 : Int), p ≤ q → q ≤ p + 200 → Tot (fun k => spec_l20Any.j3 k q c2 c3 b r1 r3) (fun r => p ≤ r.1 ∧ r.1 ≤ p + 200 ∧ r.2.length ≤ 20) := fun q c2 c3 k1 k2 => tot_step (fun k => by rw [spec_l20Any.j3]) (hj2 _ _ _ _ k1 k2)
  refine tot_pos f3 (tot_pos g3 (tot_bind (pick_tot hb (by omega) (by omega) 4) fun r4 q4 => ?_))
  have e4 := q4.1
  refine tot_ite (fun _ => ?_) fun _ => tot_ite (fun _ => ?_) fun _ => tot_ite (fun _ => ?_) fun _ => ?_
  · exact tot_bind (num_tot hb (by omega) (by omega) _ (by simp)) fun r5 q5 => hj1 _ _ _ _ _ (by have := q5.1; omega) (by have := q5.1; omega)
  · exact tot_bind (num_tot hb (by omega) (by omega) _ (by simp)) fun r5 q5 => hj2 _ _ _ _ (by have := q5.1; omega) (by have := q5.1; omega)
  · exact tot_bind (num_tot hb (by omega) (by omega) _ (by simp)) fun r5 q5 => hj3 _ _ _ (by have := q5.1; omega) (by have := q5.1; omega)
  · exact tot_bind (num_tot hb (by omega) (by omega) _ (by simp)) fun r5 q5 => hj3 _ _ _ (by have := q5.1; omega) (by have := q5.1; omega)
theorem l20Word_tot {p : Int} (h0 : 0 ≤ p) (h1 : p ≤ 100000) (facts many : Nat) (hf : facts ≤ 10) (hm : many ≤ 10) : Tot (fun k => spec_l20Word.f k b p (facts : Int) (many : Int)) (fun r => p ≤ r.1 ∧ r.1 ≤ p + 200 ∧ r.2.length ≤ 10 ∧ ∀ x ∈ r.2, x.length ≤ 10) := by
  unfold spec_l20Word.f
  have outer : ∀ (d n : Nat), many - n = d → n ≤ many → ∀ (q : Int) (x : List (List Int)), p ≤ q → q ≤ p + 10 * n → x.length ≤ n → (∀ y ∈ x, y.length ≤ 10) → Tot (fun k => spec_l20Word.l1 k q x (n : Int) b (facts : Int) (many : Int)) (fun r => p ≤ r.1 ∧ r.1 ≤ p + 200 ∧ r.2.length ≤ 10 ∧ ∀ x ∈ r.2, x.length ≤ 10) := by
    intro d
    induction d with
    | zero =>
      intro n g1 g2 q x g3 g4 g5 g6
      exact tot_step (fun k => by rw [spec_l20Word.l1]) (tot_neg (by omega) (tot_ret ⟨g3, by show q ≤ _; omega, by show x.length ≤ 10; omega, g6⟩))
    | succ d ih =>
      intro n g1 g2 q x g3 g4 g5 g6
      have inner : ∀ (e j : Nat), facts - j = e → j ≤ facts → ∀ (q2 : Int) (y : List Int), q ≤ q2 → q2 ≤ q + j → y.length ≤ j → Tot (fun k => spec_l20Word.l2 k q2 y (j : Int) b (facts : Int) (many : Int) x (n : Int)) (fun r => p ≤ r.1 ∧ r.1 ≤ p + 200 ∧ r.2.length ≤ 10 ∧ ∀ x ∈ r.2, x.length ≤ 10) := by
        intro e
        induction e with
        | zero =>
          intro j k1 k2 q2 y k3 k4 k5
          refine tot_step (fun k => by rw [spec_l20Word.l2, wrap_nat (n := n) (m := many) (by omega) (by omega)]) (tot_neg (by omega) (tot_pos (by omega) ?_))
          refine ih (n + 1) (by omega) (by omega) q2 _ (by omega) (by omega) (by simp; omega) fun z hz => ?_
          rcases List.mem_append.1 hz with hz | hz
          · exact g6 z hz
          · rw [List.mem_singleton.1 hz]; omega
        | succ e ihe =>
          intro j k1 k2 q2 y k3 k4 k5
          refine tot_step (fun k => by rw [spec_l20Word.l2, wrap_nat (n := j) (m := facts) (by omega) (by omega)]) (tot_pos (by omega) (tot_bind (pick_tot hb (by omega) (by omega) 2) fun r1 q1 => ?_))
          have w1 := q1.1
          exact tot_pos (by omega) (ihe (j + 1) (by omega) (by omega) r1.1 _ (by omega) (by omega) (by simp; omega))
      have h0' : Tot (fun k => spec_l20Word.l2 k q [] 0 b (facts : Int) (many : Int) x (n : Int)) (fun r => p ≤ r.1 ∧ r.1 ≤ p + 200 ∧ r.2.length ≤ 10 ∧ ∀ x ∈ r.2, x.length ≤ 10) := inner facts 0 (by omega) (by omega) q [] (by omega) (by omega) (by simp)
      exact tot_step (fun k => by rw [spec_l20Word.l1]) (tot_pos (by omega) h0')
  exact outer many 0 (by omega) (by omega) p [] (by omega) (by omega) (by simp) (fun y hy => by cases hy)
end
def SmallW (w : List (List Int)) : Prop := w.length ≤ 1048576 ∧ ∀ x ∈ w, x.length ≤ 1048576
theorem drawGuessesAt_tot {l : List Int} (h : ∀ x ∈ l, 0 ≤ x ∧ x < 256) : Tot (fun k => spec_DrawGuessesAt.f k l) (fun r => r.1.length ≤ 20 ∧ SmallW r.2.1 ∧ SmallW r.2.2.1) := by
  unfold spec_DrawGuessesAt.f spec_l21On.f
  refine tot_bind (R := fun r : List ITime × List (List Int) × List (List Int) × Int => r.1.length ≤ 20 ∧ SmallW r.2.1 ∧ SmallW r.2.2.1) ?_ fun r q => tot_ret q
  refine tot_bind (l40Open_tot h) fun r1 q1 => ?_
  obtain ⟨hb, e1⟩ := q1
  refine tot_bind (num_tot hb (by omega) (by omega) _ (by simp)) fun r2 q2 => ?_
  have e2 := q2.1
  have m2 := q2.2
  simp only [List.mem_cons, List.not_mem_nil, or_false] at m2
  obtain ⟨facts, hf⟩ : ∃ n : Nat, r2.2 = (n : Int) := ⟨r2.2.toNat, by omega⟩
  have hS : Tot (fun k => spec_l21Small.f k r1.1 r2.1 r2.2) (fun r => r2.1 ≤ r.1 ∧ r.1 ≤ r2.1 + 300 ∧ r.2.length ≤ 20) := by
    unfold spec_l21Small.f
    refine tot_bind (pick_tot hb (by omega) (by omega) 2) fun r4 q4 => ?_
    have e4 := q4.1
    exact tot_bind (l20Any_tot hb (by omega) (by omega) _ _) fun r5 ⟨a, b, c⟩ => tot_ret ⟨by show r2.1 ≤ r5.1; omega, by show r5.1 ≤ _; omega, c⟩
  refine tot_bind hS fun r3 ⟨a3, b3, c3⟩ => tot_bind (pick_tot hb (by omega) (by omega) 2) fun r4 q4 => ?_
  obtain ⟨e4, f4, g4, _⟩ := q4
  have g4 := g4 (by omega)
  obtain ⟨m4, hm4⟩ : ∃ n : Nat, r4.2 = (n : Int) := ⟨r4.2.toNat, by omega⟩
  rw [hf, hm4]
  refine tot_bind (l20Word_tot hb (by omega) (by omega) facts m4 (by omega) (by omega)) fun r5 ⟨a5, b5, c5, d5⟩ => tot_bind (pick_tot hb (by omega) (by omega) 2) fun r6 q6 => ?_
  obtain ⟨e6, f6, g6, _⟩ := q6
  have g6 := g6 (by omega)
  obtain ⟨m6, hm6⟩ : ∃ n : Nat, wrap64 (1 + r6.2) = (n : Int) := ⟨(1 + r6.2).toNat, by rw [wrap_in (by omega) (by omega)]; omega⟩
  have hm6' : (m6 : Int) = 1 + r6.2 := by rw [← hm6, wrap_in (by omega) (by omega)]
  rw [hm6]
  clear hm6
  refine tot_bind (l20Word_tot hb (by omega) (by omega) facts m6 (by omega) (by omega)) fun r7 ⟨a7, b7, c7, d7⟩ => tot_bind (pick_tot hb (by omega) (by omega) 16) fun r8 q8 => ?_
  have s5 : SmallW r5.2 := ⟨by omega, fun x hx => by have := d5 x hx; omega⟩
  have s7 : SmallW r7.2 := ⟨by omega, fun x hx => by have := d7 x hx; omega⟩
  exact tot_ite (fun _ => tot_step (fun k => by rw [spec_l21On.j1]) (tot_ret ⟨c3, s5, ⟨by simp, by simp⟩⟩)) fun _ => tot_step (fun k => by rw [spec_l21On.j1]) (tot_ret ⟨c3, s5, s7⟩)
end Go.Proofs.Ytikjlbanfbkhmaa.PA
end
section
set_option linter.unusedVariables false
set_option linter.unusedSimpArgs false
namespace Go.Proofs.Ytikjlbanfbkhmaa.PA
open Go.RowKit Go.Proofs.YtikjlbanfbkhmaaW.PrintWords
theorem laws_wcInts_ev (a b : List Int) (h : a.length ≤ 1099511627776) : Ev (fun k => laws_wcInts.f k a b) (decide (a = b)) := by
  unfold laws_wcInts.f
  by_cases e : a.length = b.length
  · refine ev_pos (by omega) ?_
    have key : ∀ d n : Nat, a.length - n = d → n ≤ a.length → Ev (fun k => laws_wcInts.l0 k b a (a.length : Int) (n : Int)) (decide (a.drop n = b.drop n)) := by
      intro d
      induction d with
      | zero =>
        intro n g1 g2
        refine Ev.step (fun k => by rw [laws_wcInts.l0]) (ev_neg (by omega) (ev_eq (ev_ret _) ?_))
        rw [List.drop_eq_nil_of_le (by omega), List.drop_eq_nil_of_le (by omega)]
        rfl
      | succ d ih =>
        intro n g1 g2
        have hn : n < a.length := by omega
        have hm : n < b.length := by omega
        refine Ev.step (fun k => by rw [laws_wcInts.l0]) (ev_pos (by omega) (ev_pos (by omega) (ev_pos (by omega) (ev_pos (by omega) ?_))))
        rw [show rd b (n : Int) = b[n] from getD_of (List.getElem?_eq_getElem hm), show rd a (n : Int) = a[n] from getD_of (List.getElem?_eq_getElem hn), List.drop_eq_getElem_cons hn, List.drop_eq_getElem_cons hm, wrap_nat (n := n) (m := a.length) hn (by omega)]
        by_cases q : b[n] = a[n]
        · exact ev_pos q (ev_eq (ih (n + 1) (by omega) (by omega)) (by simp only [List.cons.injEq, q, true_and]))
        · exact ev_neg q (ev_eq (ev_ret _) (by simp only [List.cons.injEq]; rw [eq_comm, decide_eq_false_iff_not]; exact fun h => q h.1.symm))
    simpa using key a.length 0 (by omega) (by omega)
  · refine ev_neg (by omega) (ev_eq (ev_ret _) ?_)
    rw [eq_comm, decide_eq_false_iff_not]
    exact fun h => e (congrArg List.length h)
theorem laws_wcHas_ev (a : List Int) (x : Int) (h : a.length ≤ 1099511627776) : Ev (fun k => laws_wcHas.f k a x) (decide (x ∈ a)) := by
  unfold laws_wcHas.f
  have key : ∀ d n : Nat, a.length - n = d → n ≤ a.length → Ev (fun k => laws_wcHas.l0 k x a (a.length : Int) (n : Int)) (decide (x ∈ a.drop n)) := by
    intro d
    induction d with
    | zero =>
      intro n g1 g2
      refine Ev.step (fun k => by rw [laws_wcHas.l0]) (ev_neg (by omega) (ev_eq (ev_ret _) ?_))
      rw [List.drop_eq_nil_of_le (by omega)]
      rfl
    | succ d ih =>
      intro n g1 g2
      have hn : n < a.length := by omega
      refine Ev.step (fun k => by rw [laws_wcHas.l0]) (ev_pos (by omega) (ev_pos (by omega) (ev_pos (by omega) ?_)))
      rw [show rd a (n : Int) = a[n] from getD_of (List.getElem?_eq_getElem hn), List.drop_eq_getElem_cons hn, wrap_nat (n := n) (m := a.length) hn (by omega)]
      by_cases q : a[n] = x
      · exact ev_pos q (ev_eq (ev_ret _) (by simp [q]))
      · exact ev_neg q (ev_eq (ih (n + 1) (by omega) (by omega)) (by simp only [List.mem_cons, Ne.symm q, false_or]))
  simpa using key a.length 0 (by omega) (by omega)
end Go.Proofs.Ytikjlbanfbkhmaa.PA
end
section
namespace Go.Proofs.Ytikjlbanfbkhmaa.PA
open Go.RowKit Go.Proofs.YtikjlbanfbkhmaaW.PrintWords
def laws_FnGuessesAt.PureS : Prop := ∀ (l0 : List Int), (l0.length ≤ 9223372036854775807 ∧ ∀ x0 ∈ l0, (Lit.int .u8 x0).wf = true) → ∃ k, laws_FnGuessesAt.f k l0 = some true
end Go.Proofs.Ytikjlbanfbkhmaa.PA
end
section
set_option linter.unusedVariables false
set_option linter.unusedSimpArgs false
namespace Go.Proofs.Ytikjlbanfbkhmaa.PA
open Go.RowKit Go.Proofs.YtikjlbanfbkhmaaW.PrintWords
def KpUp (kv_ : Nat → List Int) (st i m : Nat) (X : List Int) : Prop := ∀ k, k < m → (∃ i', i' < i ∧ st ≤ i' ∧ (kv_ i').getD k 0 = 1) → X.getD k 0 = 1
theorem set_one {X : List Int} {p k : Nat} (hp : p < X.length) : (X.set p 1).getD k 0 = if k = p then 1 else X.getD k 0 := by
  rw [List.getD_eq_getElem?_getD, List.getD_eq_getElem?_getD, List.getElem?_set]
  by_cases h : p = k
  · subst h; simp [hp]
  · rw [if_neg h, if_neg (fun e => h e.symm)]
theorem app_zero {X : List Int} {k : Nat} : (X ++ [0]).getD k 0 = X.getD k 0 := by
  rw [List.getD_eq_getElem?_getD, List.getD_eq_getElem?_getD]
  rcases Nat.lt_trichotomy k X.length with h | h | h
  · rw [List.getElem?_append_left h]
  · subst h; simp
  · rw [List.getElem?_eq_none (by simp; omega), List.getElem?_eq_none (by omega)]
theorem FnGuessesAt_pure : laws_FnGuessesAt.PureS := by
  intro l hl
  suffices h : Ev (fun k => laws_FnGuessesAt.f k l) true from h.rounds
  unfold laws_FnGuessesAt.f
  refine ev_ite (fun _ => ev_ret _) fun _ => ?_
  obtain ⟨⟨list, stem, loop, facts⟩, hd, q1, q2, q3⟩ := drawGuessesAt_tot (bytes_in hl)
  have q1 : list.length ≤ 20 := q1
  have q2 : SmallW stem := q2
  have q3 : SmallW loop := q3
  have hg := guessesAtP_len list stem loop facts
  refine ev_bind hd (ev_bind (impl_GuessesAt_ev q2 q3 (by omega)) (ev_bind (spec_GuessesAt_ev q2 q3 (by omega)) (ev_bind (laws_wcInts_ev (guessesAtP list stem loop facts) (guessesAtP list stem loop facts) (by omega)) (ev_pos (by simp) ?_))))
  refine ev_bind (impl_GuessCount_ev list facts (by omega)) (ev_bind (spec_GuessCount_ev list facts (by omega)) (ev_neg (by simp) ?_))
  by_cases c : (askedP list facts && wordP stem loop facts) = true
  · have hat : guessesAtP list stem loop facts = (List.range (stem.length + loop.length)).map (guessAt list stem loop) := by unfold guessesAtP; rw [if_pos c]
    rw [hat]
    clear hat hg
    rw [Bool.and_eq_true] at c
    obtain ⟨c1, d⟩ := c
    unfold askedP at c1
    rw [Bool.and_eq_true, decide_eq_true_eq] at c1
    obtain ⟨c, hA⟩ := c1
    have S : Sem list stem loop facts := ⟨c, d⟩
    obtain ⟨hf, hlp, hN, hx⟩ := wordP_and d
    have hlen : (stem ++ loop).length = stem.length + loop.length := List.length_append
    generalize hAt : (List.range (stem.length + loop.length)).map (guessAt list stem loop) = at_
    have hal : at_.length = stem.length + loop.length := by rw [← hAt]; simp
    have hget : ∀ i, i < stem.length + loop.length → rd at_ (i : Int) = gN list stem loop i := fun i hi => by
      have h0 : (List.range (stem.length + loop.length))[i]? = some i := by simp [hi]
      have : at_[i]? = some (guessAt list stem loop i) := by rw [← hAt, List.getElem?_map, h0]; rfl
      rw [show rd at_ (i : Int) = guessAt list stem loop i from getD_of this, guessAt_gN S hA hi]
    have hkl := kpIx_len list 0
    generalize hm : (kpIx 0 list).length = m at *
    have hm64 : m ≤ 9223372036854775807 := by obtain ⟨_, _, h24⟩ := timesP_in c; omega
    let K : Nat → List Int := fun i => (kpIx 0 list).map (kv (colT (rowsOf list stem loop) i))
    have hKl : ∀ i, (K i).length = m := fun i => by show ((kpIx 0 list).map _).length = m; rw [List.length_map, hm]
    have inner : ∀ i, i < stem.length + loop.length → (∀ X : List Int, X.length = m → KpUp K stem.length (i + 1) m X → Ev (fun k => laws_FnGuessesAt.l1 k X ((i + 1 : Nat) : Int) (list, stem, loop, facts) at_) true) →
        ∀ (dd p : Nat), m - p = dd → p ≤ m → ∀ X : List Int, X.length = (if i = 0 then p else m) → KpUp K stem.length i m X → (∀ k, k < p → stem.length ≤ i → (K i).getD k 0 = 1 → X.getD k 0 = 1) →
        Ev (fun k => laws_FnGuessesAt.l3 k X (p : Int) (list, stem, loop, facts) at_ (i : Int) (K i)) true := by
      intro i hi hnext dd
      induction dd with
      | zero =>
        intro p g1 g2 X g3 g4 g5
        have : p = m := by omega
        subst this
        have hXl : X.length = p := by rw [g3]; split <;> rfl
        refine Ev.step (fun k => by rw [laws_FnGuessesAt.l3, wrap_nat (n := i) (m := stem.length + loop.length) hi (by omega)]) (ev_neg (by rw [hKl]; omega) ?_)
        refine hnext X hXl fun k hk ⟨i', h1, h2, h3⟩ => ?_
        rcases Nat.lt_or_ge i' i with h | h
        · exact g4 k hk ⟨i', h, h2, h3⟩
        · obtain rfl : i' = i := by omega
          exact g5 k hk h2 h3
      | succ dd ih =>
        intro p g1 g2 X g3 g4 g5
        have hp : p < m := by omega
        have hrk : rd (K i) (p : Int) = (K i).getD p 0 := rfl
        -- behind the row's own new place
        have j4 : ∀ Y : List Int, Y.length = (if i = 0 then p + 1 else m) → (∀ k, Y.getD k 0 = X.getD k 0) → Ev (fun k => laws_FnGuessesAt.j4 k Y (list, stem, loop, facts) at_ (i : Int) (K i) (p : Int)) true := fun Y hY hYX => by
          have hpY : p < Y.length := by rw [hY]; split <;> omega
          refine Ev.step (fun k => by rw [laws_FnGuessesAt.j4, wrap_nat (n := p) (m := m) hp hm64, hrk]) ?_
          have up : KpUp K stem.length i m Y := fun k hk h => by rw [hYX]; exact g4 k hk h
          refine ev_ite (fun a => ?_) fun a => ?_
          · have a : stem.length ≤ i := by have : (i : Int) ≥ (stem.length : Int) := a; omega
            refine ev_ite (fun b => ?_) fun b => ?_
            · refine ev_pos (by omega) (ev_pos (by omega) ?_)
              refine ih (p + 1) (by omega) (by omega) _ (by rw [List.length_set, hY]) (fun k hk h => ?_) fun k hk h1 h2 => ?_
              · show (Y.set p 1).getD k 0 = 1
                rw [set_one hpY]; split
                · rfl
                · exact up k hk h
              · show (Y.set p 1).getD k 0 = 1
                rw [set_one hpY]; split
                · rfl
                · rw [hYX]; exact g5 k (by omega) h1 h2
            · refine ih (p + 1) (by omega) (by omega) Y hY up fun k hk h1 h2 => ?_
              rcases Nat.lt_or_ge k p with h | h
              · rw [hYX]; exact g5 k h h1 h2
              · obtain rfl : k = p := by omega
                exact absurd h2 b
          · have a : i < stem.length := by have : ¬ (i : Int) ≥ (stem.length : Int) := a; omega
            exact ih (p + 1) (by omega) (by omega) Y hY up fun k hk h1 h2 => by omega
        refine Ev.step (fun k => by rw [laws_FnGuessesAt.l3]) (ev_pos (by rw [hKl]; omega) (ev_pos (by omega) (ev_pos (by rw [hKl]; omega) ?_)))
        by_cases i0 : i = 0
        · rw [if_pos i0] at g3
          refine ev_pos (by omega) (ev_pos (by obtain ⟨_, _, h24⟩ := timesP_in c; omega) (j4 (X ++ [0]) (by rw [if_pos i0, List.length_append, g3]; rfl) fun k => app_zero))
        · exact ev_neg (by omega) (j4 X (by rw [g3, if_neg i0, if_neg i0]) fun k => rfl)
    have outer : ∀ (dd i : Nat), stem.length + loop.length - i = dd → i ≤ stem.length + loop.length → ∀ X : List Int, X.length = (if i = 0 then 0 else m) → KpUp K stem.length i m X →
        Ev (fun k => laws_FnGuessesAt.l1 k X (i : Int) (list, stem, loop, facts) at_) true := by
      intro dd
      induction dd with
      | zero =>
        intro i g1 g2 X g3 g4
        have : i = stem.length + loop.length := by omega
        subst this
        rw [if_neg (by omega)] at g3
        have hXs : X.length ≤ 1099511627776 := by obtain ⟨_, _, h24⟩ := timesP_in c; omega
        suffices hno : ¬ (0 : Int) ∈ X by
          have hlast : Ev (fun k => (laws_wcHas.f k X 0).bind fun r11 => some (!r11)) true := ev_bind (laws_wcHas_ev X 0 hXs) (ev_eq (ev_ret (!decide ((0 : Int) ∈ X))) (by rw [Bool.not_eq_true', decide_eq_false_iff_not]; exact hno))
          exact Ev.step (fun k => by rw [laws_FnGuessesAt.l1]) (ev_neg (by rw [hal]; omega) hlast)
        intro h0
        obtain ⟨k, hk, e⟩ := List.mem_iff_getElem.1 h0
        have hk' : k < (kpIx 0 list).length := by omega
        obtain ⟨i', a, b, e1⟩ := kept_some S (List.getElem_mem hk')
        have := g4 k (by omega) ⟨i', b, a, by
          show ((kpIx 0 list).map _).getD k 0 = 1
          rw [List.getD_eq_getElem?_getD, List.getElem?_map, List.getElem?_eq_getElem hk']
          exact e1⟩
        rw [List.getD_eq_getElem?_getD, List.getElem?_eq_getElem hk, e] at this
        cases this
      | succ dd ih =>
        intro i g1 g2 X g3 g4
        have hi : i < stem.length + loop.length := by omega
        have hn := inner i hi fun X hX hU => ih (i + 1) (by omega) (by omega) X (by rw [if_neg (by omega)]; exact hX) hU
        have hi' : nxt stem.length (stem.length + loop.length) i < stem.length + loop.length := by unfold nxt; split <;> omega
        have hrl : rd_Lint ((([] : List (List Int)) ++ stem) ++ loop) (i : Int) = (stem ++ loop).getD i [] := rfl
        have hletter := hx _ (w_mem (stem := stem) (loop := loop) hi)
        have j2 : Ev (fun k => laws_FnGuessesAt.j2 k ((nxt stem.length (stem.length + loop.length) i : Nat) : Int) (list, stem, loop, facts) at_ X (i : Int)) true := by
          refine Ev.step (fun k => by rw [laws_FnGuessesAt.j2]) ?_
          refine ev_pos (show ([] : List (List Int)).length + stem.length ≤ 1099511627776 by simp; omega) (ev_pos (show (([] : List (List Int)) ++ stem).length + loop.length ≤ 1099511627776 by simp; omega) (ev_pos (by omega) (ev_pos (show (i : Int) < (((([] : List (List Int)) ++ stem) ++ loop).length : Int) by simp; omega) (ev_pos (by omega) (ev_pos (by rw [hal]; omega) ?_)))))
          show Ev (fun k => (impl_GuessNext.f k list facts (rd at_ (i : Int)) (rd at_ ((nxt stem.length (stem.length + loop.length) i : Nat) : Int))).bind fun r7 => if r7 = true then ((impl_GuessLetter.f k list facts (rd at_ (i : Int))).bind fun r8 => (laws_wcInts.f k r8 (rd_Lint ((([] : List (List Int)) ++ stem) ++ loop) (i : Int))).bind fun r9 => if r9 = true then ((impl_GuessKept.f k list facts (rd at_ (i : Int))).bind fun r10 => laws_FnGuessesAt.l3 k X 0 (list, stem, loop, facts) at_ (i : Int) r10) else (some false)) else (some false)) true
          rw [hget i hi, hget _ hi', hrl]
          refine ev_bind (impl_GuessNext_ev S hA hi) (ev_pos rfl (ev_bind (impl_GuessLetter_ev S hA hi) (ev_bind (laws_wcInts_ev _ _ (by omega)) (ev_pos (by simp) (ev_bind (impl_GuessKept_ev S hA hi) ?_)))))
          have := hn m 0 (by omega) (by omega) X g3 g4 (fun k hk => by omega)
          exact this
        refine Ev.step (fun k => by rw [laws_FnGuessesAt.l1, wrap_nat (n := i) (m := stem.length + loop.length) hi (Nat.le_trans hN (by decide))]) (ev_pos (by rw [hal]; omega) (ev_pos (by omega) (ev_pos (by rw [hal]; omega) ?_)))
        by_cases e : i + 1 = stem.length + loop.length
        · refine ev_pos (by rw [hal]; omega) ?_
          have hnx : nxt stem.length (stem.length + loop.length) i = stem.length := by unfold nxt; rw [if_neg (by omega)]
          rw [hnx] at j2
          exact j2
        · refine ev_neg (by rw [hal]; omega) ?_
          have hnx : nxt stem.length (stem.length + loop.length) i = i + 1 := by unfold nxt; rw [if_pos (by omega)]
          rw [hnx] at j2
          exact j2
    exact outer (stem.length + loop.length) 0 (by omega) (by omega) [] (by simp) (fun k hk ⟨i', h, _⟩ => by omega)
  · have hat : guessesAtP list stem loop facts = [] := by unfold guessesAtP; rw [if_neg c]
    rw [hat]
    have hlast : Ev (fun k => (laws_wcHas.f k [] 0).bind fun r11 => some (!r11)) true := ev_bind (laws_wcHas_ev [] 0 (by simp)) (ev_eq (ev_ret (!decide ((0 : Int) ∈ []))) (by simp))
    exact Ev.step (fun k => by rw [laws_FnGuessesAt.l1]) (ev_neg (by simp) hlast)
end Go.Proofs.Ytikjlbanfbkhmaa.PA
namespace Go.Proofs.Ytikjlbanfbkhmaa.Pure
theorem FnGuessesAt : Go.Proofs.Ytikjlbanfbkhmaa.PA.laws_FnGuessesAt.PureS := Go.Proofs.Ytikjlbanfbkhmaa.PA.FnGuessesAt_pure
end Go.Proofs.Ytikjlbanfbkhmaa.Pure
end
