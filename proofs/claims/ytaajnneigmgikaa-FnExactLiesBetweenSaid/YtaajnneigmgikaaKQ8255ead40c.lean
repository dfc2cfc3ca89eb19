/- The plain side: what the Lean functions compute, without Go and memory; each theorem under the conditions that it names. -/
import Derived.Test.YtaajnneigmgikaaProg
import Derived.Below
import Derived.Deep.Draws
import Derived.Deep.AppendLies
import Derived.Maps.AppendAt
import Derived.OwnWalk
import Derived.Laws.BytesArg
import Derived.Laws.MakeOwn
import Derived.Laws.OwnMore
import Derived.Deep.OwnRows
import Derived.Tactics
import Derived.Lib.ConvBytes
import Derived.Laws.Slices
import Derived.WalkKit
import Derived.KernelRfl
import Derived.RowKit3
import Derived.Deep.LoopGhost
import Derived.Deep.QuietTactic
import Derived.BigQuiet
import Derived.WideLaws
import Derived.Deep.DeepCutAuto
import Derived.Deep.CutBlock
import Derived.Deep.RegionHeld3
import Derived.Laws.Rows
import Derived.Lib.AppendStr
import Derived.ArgAppend
import Derived.Laws.IdiomCopy
import Derived.OrdersHeld
import Derived.Laws.BitsLemmas
import Derived.RowKit
import Derived.Laws.StructEq
import Derived.Lib.SliceRun
import Derived.WalkSpells
import Derived.ChangeArms
import Derived.ChangeSlices
import Derived.Deep.Slices
import Derived.Test.YtaajnneigmgikaaKDd0460cd482
section
set_option linter.unusedVariables false
set_option linter.unusedSimpArgs false
namespace Go.Proofs.Ytaajnneigmgikaa.PA
open Go.RowKit Go.Proofs.YtaajnneigmgikaaW.PrintWords
theorem ev_ret {α : Type} (r : α) : Ev (fun _ => some r) r := Ev.now r
theorem ev_pos {α : Type} {c : Prop} [Decidable c] {f g : Nat → Option α} {r : α} (h : c) (k : Ev f r) : Ev (fun n => if c then f n else g n) r := by
  simpa [h] using k
theorem ev_neg {α : Type} {c : Prop} [Decidable c] {f g : Nat → Option α} {r : α} (h : ¬ c) (k : Ev g r) : Ev (fun n => if c then f n else g n) r := by
  simpa [h] using k
theorem ev_bind {α β : Type} {g : Nat → Option α} {f : Nat → α → Option β} {a : α} {r : β} (h : Ev g a) (k : Ev (fun n => f n a) r) : Ev (fun n => (g n).bind (fun t => f n t)) r := Ev.bind h k
theorem ev_fix {α : Type} {o : Option α} {r : α} (h : o = some r) : Ev (fun _ => o) r := ⟨0, fun _ _ => h⟩
theorem ev_eq {α : Type} {g : Nat → Option α} {r r' : α} (h : Ev g r) (e : r = r') : Ev g r' := e ▸ h
theorem ev_loop {α ρ : Type} (L : Nat → Int → Option ρ) (xs : List α) (res : List α → ρ) (hend : Ev (fun k => L k (xs.length : Int)) (res []))
    (hstep : ∀ (n : Nat) (x : α) (r : List α), n < xs.length → xs[n]? = some x → xs.drop n = x :: r → r = xs.drop (n + 1) → Ev (fun k => L k ((n + 1 : Nat) : Int)) (res r) → Ev (fun k => L k (n : Int)) (res (x :: r))) :
    Ev (fun k => L k 0) (res xs) := by
  have h : ∀ d n : Nat, xs.length - n = d → n ≤ xs.length → Ev (fun k => L k (n : Int)) (res (xs.drop n)) := by
    intro d
    induction d with
    | zero =>
      intro n h1 h2
      have : n = xs.length := by omega
      subst this
      rw [List.drop_length]
      exact hend
    | succ d ih =>
      intro n h1 h2
      have hn : n < xs.length := by omega
      have e := List.drop_eq_getElem_cons hn
      rw [e]
      exact hstep n _ _ hn (List.getElem?_eq_getElem hn) e rfl (ih (n + 1) (by omega) (by omega))
  have := h xs.length 0 (by omega) (by omega)
  simpa using this
theorem wrap_in {x : Int} (h0 : -9223372036854775808 ≤ x) (h1 : x ≤ 9223372036854775807) : wrap64 x = x := by unfold wrap64; omega
theorem wrap_nat {n m : Nat} (h : n < m) (hm : m ≤ 9223372036854775807) : wrap64 ((n : Int) + 1) = ((n + 1 : Nat) : Int) := by unfold wrap64; omega
theorem getD_of {α : Type} {xs : List α} {n : Nat} {x d : α} (h : xs[n]? = some x) : xs.getD (n : Int).toNat d = x := by
  simp [List.getD_eq_getElem?_getD, h]
theorem ev_fill {α β : Type} {da : α} {db : β} (L : Nat → List β → Int → Option (List β)) (F : Nat → α → Option β) (xs : List α) (g : α → β) (hl : xs.length ≤ 4611686018427387904)
    (hL : ∀ k ys i, L (k + 1) ys i = if i < (xs.length : Int) then (if 0 ≤ i then ((F k (xs.getD i.toNat da)).bind fun b => if i < (ys.length : Int) then L k (ys.set i.toNat b) (wrap64 (i + 1)) else none) else none) else some ys)
    (hF : ∀ x ∈ xs, Ev (fun k => F k x) (g x)) : Ev (fun k => L k (List.replicate xs.length db) 0) (xs.map g) := by
  have h : ∀ d n : Nat, xs.length - n = d → n ≤ xs.length → Ev (fun k => L k ((xs.take n).map g ++ List.replicate (xs.length - n) db) (n : Int)) (xs.map g) := by
    intro d
    induction d with
    | zero =>
      intro n h1 h2
      have : n = xs.length := by omega
      subst this
      refine Ev.step (fun k => hL k _ _) (ev_neg (by omega) ?_)
      simpa using ev_ret (xs.map g)
    | succ d ih =>
      intro n h1 h2
      have hn : n < xs.length := by omega
      refine Ev.step (fun k => hL k _ _) (ev_pos (by omega) (ev_pos (by omega) ?_))
      have hx := List.getElem?_eq_getElem hn
      rw [getD_of hx]
      refine ev_bind (hF _ (List.getElem_mem hn)) (ev_pos (by simp; omega) ?_)
      rw [wrap_nat hn (by omega)]
      have e : ((xs.take n).map g ++ List.replicate (xs.length - n) db).set (n : Int).toNat (g xs[n]) = (xs.take (n + 1)).map g ++ List.replicate (xs.length - (n + 1)) db := by
        rw [show xs.length - n = (xs.length - (n + 1)) + 1 by omega, List.replicate_succ, List.take_succ_eq_append_getElem hn, List.map_append]
        simp [List.set_append, Nat.min_eq_left (Nat.le_of_lt hn)]
      rw [e]
      exact ih (n + 1) (by omega) (by omega)
  have := h xs.length 0 (by omega) (by omega)
  simpa using this
theorem ev_same {α : Type} {da : α} (L : Nat → Int → Option Bool) (F : Nat → α → α → Option Bool) (xs ys : List α) (hl : xs.length ≤ 4611686018427387904) (hxy : xs = ys)
    (hL : ∀ k i, L (k + 1) i = if i < (xs.length : Int) then (if 0 ≤ i then (if i < (ys.length : Int) then ((F k (xs.getD i.toNat da) (ys.getD i.toNat da)).bind fun t => if t = true then L k (wrap64 (i + 1)) else some false) else none) else none) else some true)
    (hF : ∀ x ∈ xs, Ev (fun k => F k x x) true) : Ev (fun k => L k 0) true := by
  subst hxy
  refine ev_loop L xs (fun _ => true) (Ev.step (fun k => hL k _) (ev_neg (by omega) (ev_ret _))) ?_
  intro n x r hn hx _ _ ih
  refine Ev.step (fun k => hL k _) (ev_pos (by omega) (ev_pos (by omega) (ev_pos (by omega) ?_)))
  rw [getD_of hx]
  refine ev_bind (hF x (List.mem_of_getElem? hx)) (ev_pos rfl ?_)
  rw [wrap_nat hn (by omega)]
  exact ih
def SzOk (f : Nat → Option Int) (a : Int) (P : Prop) : Prop := ∃ r, Ev f r ∧ (r < 0 ∨ (0 ≤ r ∧ r ≤ a ∧ P))
theorem sz_len {n : Nat} {a : Int} (h0 : 0 ≤ a) (h1 : a ≤ 1048576) (hn : n ≤ 9223372036854775807) : SzOk (fun _ => if wrap64 (a - (n : Int)) < 0 then some (-1) else some (wrap64 (a - (n : Int)))) a (n ≤ 1048576) := by
  have w : wrap64 (a - (n : Int)) = a - (n : Int) := wrap_in (by omega) (by omega)
  rw [w]
  by_cases h : a - (n : Int) < 0
  · exact ⟨-1, ev_pos h (ev_ret _), .inl (by omega)⟩
  · exact ⟨a - n, ev_neg h (ev_ret _), .inr ⟨by omega, by omega, by omega⟩⟩
theorem sz_then {f : Nat → Option Int} {g : Nat → Int → Option Int} {a : Int} {P Q : Prop} (hf : SzOk f a P) (h1 : a ≤ 1048576) (hg : P → ∀ b, 0 ≤ b → b ≤ a → SzOk (fun k => g k b) b Q) :
    SzOk (fun k => (f k).bind fun t => if t < 0 then some (-1) else g k t) a (P ∧ Q) := by
  obtain ⟨r, hr, h⟩ := hf
  rcases h with h | ⟨h0, ha, hp⟩
  · exact ⟨-1, ev_bind hr (ev_pos h (ev_ret _)), .inl (by omega)⟩
  · obtain ⟨s, hs, k⟩ := hg hp r h0 ha
    refine ⟨s, ev_bind hr (ev_neg (by omega) hs), ?_⟩
    rcases k with k | ⟨k0, ka, kq⟩
    · exact .inl k
    · exact .inr ⟨k0, by omega, hp, kq⟩
theorem sz_loop {α : Type} {da : α} (L : Nat → Int → Int → Option Int) (F : Nat → α → Int → Option Int) (xs : List α) (P : α → Prop) (hl : xs.length ≤ 9223372036854775807)
    (hL : ∀ k a i, L (k + 1) a i = if i < (xs.length : Int) then (if 0 ≤ i then ((F k (xs.getD i.toNat da) a).bind fun t => if t < 0 then some (-1) else L k t (wrap64 (i + 1))) else none) else some a)
    (hF : ∀ x ∈ xs, ∀ a, 0 ≤ a → a ≤ 1048576 → SzOk (fun k => F k x a) a (P x)) : ∀ a, 0 ≤ a → a ≤ 1048576 → SzOk (fun k => L k a 0) a (∀ x ∈ xs, P x) := by
  have key : ∀ d n : Nat, xs.length - n = d → n ≤ xs.length → ∀ a, 0 ≤ a → a ≤ 1048576 → SzOk (fun k => L k a (n : Int)) a (∀ x ∈ xs.drop n, P x) := by
    intro d
    induction d with
    | zero =>
      intro n e1 e2 a h0 h1
      have : n = xs.length := by omega
      subst this
      refine ⟨a, ?_, .inr ⟨h0, Int.le_refl _, fun x hx => by simp at hx⟩⟩
      refine Ev.step (fun k => hL k _ _) ?_
      exact ev_neg (by omega) (ev_ret _)
    | succ d ih =>
      intro n e1 e2 a h0 h1
      have hn : n < xs.length := by omega
      have hs := sz_then (g := fun k t => L k t ((n + 1 : Nat) : Int)) (hF _ (List.getElem_mem hn) a h0 h1) h1 (fun _ b hb0 hb1 => ih (n + 1) (by omega) (by omega) b hb0 (by omega))
      obtain ⟨r, hr, k⟩ := hs
      refine ⟨r, ?_, ?_⟩
      · refine Ev.step (fun k => by rw [hL, if_pos (by omega), if_pos (by omega), getD_of (List.getElem?_eq_getElem hn), wrap_nat hn (by omega)]) hr
      · rcases k with k | ⟨k0, ka, kp, kq⟩
        · exact .inl k
        · refine .inr ⟨k0, ka, fun x hx => ?_⟩
          rw [List.drop_eq_getElem_cons hn] at hx
          rcases List.mem_cons.1 hx with rfl | hx
          · exact kp
          · exact kq x hx
  intro a h0 h1
  have := key xs.length 0 (by omega) (by omega) a h0 h1
  simpa using this
theorem laws_toIntS_ev (l : List Int) (h : l.length ≤ 1048576) : Ev (fun k => laws_toIntS.f k l) l := by
  unfold laws_toIntS.f
  refine ev_pos (by omega) (ev_pos (by omega) ?_)
  have := ev_fill (da := (0 : Int)) (db := (0 : Int)) (fun k ys i => laws_toIntS.l0 k l ys i) (fun k x => some x) l id (by omega) (fun k ys i => by rw [laws_toIntS.l0]; rfl) (fun x _ => ev_ret _)
  simpa using this
theorem laws_eqIntS_ev (l : List Int) (h : l.length ≤ 4611686018427387904) : Ev (fun k => laws_eqIntS.f k l l) true := by
  unfold laws_eqIntS.f
  refine ev_pos rfl ?_
  exact ev_same (da := (0 : Int)) (fun k i => laws_eqIntS.l0 k l l i) (fun k x y => if x = y then some true else some false) l l h rfl (fun k i => by rw [laws_eqIntS.l0]; simp [rd]) (fun x _ => ev_pos rfl (ev_ret _))
def inR (n lo hi : Int) : Bool := decide (lo ≤ n ∧ n ≤ hi)
theorem inR_iff {n lo hi : Int} : inR n lo hi = true ↔ lo ≤ n ∧ n ≤ hi := by simp [inR]
theorem spec_l1In_eq (n lo hi : Int) : spec_l1In.f n lo hi = some (inR n lo hi) := by
  unfold spec_l1In.f inR
  by_cases h : n ≥ lo
  · rw [if_pos h]; congr 1; simp; omega
  · rw [if_neg h]; congr 1; simp; omega
theorem impl_in_eq (n lo hi : Int) : impl_in.f n lo hi = some (inR n lo hi) := by
  unfold impl_in.f inR
  by_cases h : n ≥ lo
  · rw [if_pos h]; congr 1; simp; omega
  · rw [if_neg h]; congr 1; simp; omega
end Go.Proofs.Ytaajnneigmgikaa.PA
end
section
namespace Go.Proofs.Ytaajnneigmgikaa.PA
open Go.RowKit Go.Proofs.YtaajnneigmgikaaW.PrintWords
def okLClauses (y : LClauses) : Prop := (Lit.int .i64 y.f0).wf = true ∧ (y.f1.length ≤ 9223372036854775807 ∧ ∀ x0 ∈ y.f1, (x0.length ≤ 9223372036854775807 ∧ ∀ x1 ∈ x0, (Lit.int .i64 x1).wf = true))
def okLAnd (y : LAnd) : Prop := (Lit.int .i64 y.f0).wf = true ∧ (Lit.int .i64 y.f1).wf = true
def okLCircuit (y : LCircuit) : Prop := (Lit.int .i64 y.f0).wf = true ∧ (y.f1.length ≤ 9223372036854775807 ∧ ∀ x0 ∈ y.f1, okLAnd x0)
end Go.Proofs.Ytaajnneigmgikaa.PA
end
section
set_option linter.unusedVariables false
set_option linter.unusedSimpArgs false
namespace Go.Proofs.Ytaajnneigmgikaa.PA
open Go.RowKit Go.Proofs.YtaajnneigmgikaaW.PrintWords
def Evp (G : Nat → Prop) : Prop := ∃ n, ∀ k, n ≤ k → G k
theorem Evp.get {G : Nat → Prop} (h : Evp G) : ∃ k, G k := let ⟨n, h⟩ := h; ⟨n, h n (Nat.le_refl _)⟩
theorem Evp.of {P : Prop} (h : P) : Evp fun _ => P := ⟨0, fun _ _ => h⟩
theorem Evp.and {G H : Nat → Prop} (g : Evp G) (h : Evp H) : Evp fun k => G k ∧ H k := by
  obtain ⟨n, g⟩ := g
  obtain ⟨m, h⟩ := h
  exact ⟨max n m, fun k hk => ⟨g k (by omega), h k (by omega)⟩⟩
theorem Evp.fact {α : Type} {f : Nat → Option α} {r : α} {H : Nat → Prop} (g : Ev f r) (h : Evp H) : Evp fun k => f k = some r ∧ H k := Evp.and (G := fun k => f k = some r) g h
theorem Evp.inl {G H : Nat → Prop} (g : Evp G) : Evp fun k => G k ∨ H k := let ⟨n, g⟩ := g; ⟨n, fun k hk => .inl (g k hk)⟩
theorem Evp.inr {G H : Nat → Prop} (g : Evp H) : Evp fun k => G k ∨ H k := let ⟨n, g⟩ := g; ⟨n, fun k hk => .inr (g k hk)⟩
theorem Evp.ex {α : Type} {G : Nat → α → Prop} (a : α) (g : Evp fun k => G k a) : Evp fun k => ∃ x, G k x := let ⟨n, g⟩ := g; ⟨n, fun k hk => ⟨a, g k hk⟩⟩
theorem Evp.guard {P : Prop} {H : Nat → Prop} (h : ¬ P → Evp H) : Evp fun k => P ∨ H k := by
  by_cases p : P
  · exact .inl (.of p)
  · exact .inr (h p)
theorem Evp.sz {f : Nat → Option Int} {a : Int} {P : Prop} (hf : SzOk f a P) {H : Nat → Int → Prop} (h : ∀ r, 0 ≤ r → r ≤ a → P → Evp fun k => H k r) : Evp fun k => ∃ t : Int, f k = some t ∧ (t < 0 ∨ H k t) := by
  obtain ⟨r, h1, h2⟩ := hf
  refine .ex r (.fact h1 ?_)
  rcases h2 with h2 | ⟨h2, h3, h4⟩
  · exact .inl (.of h2)
  · exact .inr (h r h2 h3 h4)
theorem sz_ints {l : List Int} {a : Int} (h0 : 0 ≤ a) (h1 : a ≤ 1048576) (hn : l.length ≤ 9223372036854775807) : SzOk (fun _ => laws_szIntS.f l a) a (l.length ≤ 1048576) := by
  unfold laws_szIntS.f
  exact sz_len h0 h1 hn
theorem sz_rows {α : Type} {da : List α} {n : Nat} (L : Nat → Int → Int → Option Int) (F : List α → Int → Option Int) (xs : List (List α)) {a : Int} (h0 : 0 ≤ a) (h1 : a ≤ 1048576) (hn : xs.length ≤ 9223372036854775807)
    (hL : ∀ k a i, L (k + 1) a i = if i < (xs.length : Int) then (if 0 ≤ i then ((F (xs.getD i.toNat da) a).bind fun t => if t < 0 then some (-1) else L k t (wrap64 (i + 1))) else none) else some a)
    (hF : ∀ x ∈ xs, ∀ a, 0 ≤ a → a ≤ 1048576 → SzOk (fun _ => F x a) a (x.length ≤ 1048576)) :
    SzOk (fun k => if wrap64 (a - (xs.length : Int)) < 0 then some (-1) else L k (wrap64 (a - (xs.length : Int))) 0) a (xs.length ≤ 1048576 ∧ ∀ x ∈ xs, x.length ≤ 1048576) := by
  have w : wrap64 (a - (xs.length : Int)) = a - (xs.length : Int) := wrap_in (by omega) (by omega)
  rw [w]
  by_cases h : a - (xs.length : Int) < 0
  · exact ⟨-1, ev_pos h (ev_ret _), .inl (by omega)⟩
  · obtain ⟨s, hs, k⟩ := sz_loop (da := da) L (fun _ x a => F x a) xs (fun l => l.length ≤ 1048576) hn hL hF (a - (xs.length : Int)) (by omega) (by omega)
    refine ⟨s, ev_neg h hs, ?_⟩
    rcases k with k | ⟨k0, ka, kp⟩
    · exact .inl k
    · exact .inr ⟨k0, by omega, by omega, kp⟩
theorem sz_intss {l : List (List Int)} {a : Int} (h0 : 0 ≤ a) (h1 : a ≤ 1048576) (hn : l.length ≤ 9223372036854775807) (hx : ∀ x ∈ l, x.length ≤ 9223372036854775807) : SzOk (fun k => laws_szIntSS.f k l a) a (l.length ≤ 1048576 ∧ ∀ x ∈ l, x.length ≤ 1048576) := by
  unfold laws_szIntSS.f
  exact sz_rows (n := 0) (da := []) (fun k a i => laws_szIntSS.l0 k l a i) (fun x a => laws_szIntS.f x a) l h0 h1 hn (fun k a i => by rw [laws_szIntSS.l0]; rfl) (fun x h a h0 h1 => sz_ints h0 h1 (hx x h))
theorem laws_toIntSS_ev (l : List (List Int)) (h : l.length ≤ 1048576 ∧ ∀ x ∈ l, x.length ≤ 1048576) : Ev (fun k => laws_toIntSS.f k l) l := by
  unfold laws_toIntSS.f
  refine ev_pos (by omega) (ev_pos (by omega) ?_)
  have := ev_fill (da := ([] : List Int)) (db := ([] : List Int)) (fun k ys i => laws_toIntSS.l0 k l ys i) (fun k x => laws_toIntS.f k x) l id (by omega) (fun k ys i => by rw [laws_toIntSS.l0]; rfl) (fun x hx => laws_toIntS_ev x (h.2 x hx))
  simpa using this
theorem laws_eqIntSS_ev (l : List (List Int)) (h : l.length ≤ 1048576 ∧ ∀ x ∈ l, x.length ≤ 1048576) : Ev (fun k => laws_eqIntSS.f k l l) true := by
  unfold laws_eqIntSS.f
  refine ev_pos rfl ?_
  exact ev_same (da := []) (fun k i => laws_eqIntSS.l0 k l l i) (fun k x y => laws_eqIntS.f k x y) l l (by omega) rfl (fun k i => by rw [laws_eqIntSS.l0]; rfl) (fun x hx => laws_eqIntS_ev x (by have := h.2 x hx; omega))
def valOk (k v : Int) : Prop := (k = 1 → -9999 ≤ v ∧ v ≤ 9999) ∧ (k = 2 → 0 ≤ v ∧ v ≤ 1)
structure ValsOk (ks vs : List Int) : Prop where
  len : vs.length = ks.length
  at_ : ∀ i : Nat, i < ks.length → valOk (ks.getD i 0) (vs.getD i 0)
theorem ValsOk.nil : ValsOk [] [] := ⟨rfl, fun i h => absurd h (Nat.not_lt_zero i)⟩
theorem ValsOk.rd {ks vs : List Int} (h : ValsOk ks vs) {i : Int} (h0 : inR i 0 ((ks.length : Int) - 1) = true) : valOk (rd ks i) (rd vs i) := by
  have := inR_iff.1 h0
  have e := h.at_ i.toNat (by omega)
  exact e
theorem ValsOk.push {ks vs : List Int} (h : ValsOk ks vs) {k v : Int} (hv : valOk k v) : ValsOk (ks ++ [k]) (vs ++ [v]) := by
  refine ⟨by simp [h.len], fun i hi => ?_⟩
  rw [List.length_append, List.length_singleton] at hi
  by_cases e : i < ks.length
  · have := h.at_ i e
    rw [List.getD_eq_getElem?_getD, List.getD_eq_getElem?_getD] at this ⊢
    rw [List.getElem?_append_left e, List.getElem?_append_left (by rw [h.len]; exact e)]
    exact this
  · have e' : i = ks.length := by omega
    subst e'
    rw [List.getD_eq_getElem?_getD, List.getD_eq_getElem?_getD, List.getElem?_append_right (Nat.le_refl _), List.getElem?_append_right (by rw [h.len]; exact Nat.le_refl _), h.len]
    simpa using hv
theorem ev_index {α : Type} {da : α} (L : Nat → Int → Option Int) (F : Nat → α → Option Bool) (xs : List α) (p : α → Bool) (hl : xs.length ≤ 9223372036854775807)
    (hL : ∀ k i, L (k + 1) i = if i < (xs.length : Int) then (if 0 ≤ i then (if i < (xs.length : Int) then ((F k (xs.getD i.toNat da)).bind fun t => if t = true then some i else L k (wrap64 (i + 1))) else none) else none) else some (-1))
    (hF : ∀ x ∈ xs, Ev (fun k => F k x) (p x)) : ∃ r, Ev (fun k => L k 0) r ∧ decide (r ≥ 0) = xs.any p := by
  have key : ∀ d n : Nat, xs.length - n = d → n ≤ xs.length → ∃ r, Ev (fun k => L k (n : Int)) r ∧ decide (r ≥ 0) = (xs.drop n).any p := by
    intro d
    induction d with
    | zero =>
      intro n h1 h2
      have : n = xs.length := by omega
      subst this
      exact ⟨-1, Ev.step (fun k => hL k _) (ev_neg (by omega) (ev_ret _)), by rw [List.drop_length]; rfl⟩
    | succ d ih =>
      intro n h1 h2
      have hn : n < xs.length := by omega
      have hx := List.getElem?_eq_getElem hn
      rw [List.drop_eq_getElem_cons hn, List.any_cons]
      have hf := hF _ (List.getElem_mem hn)
      cases hp : p xs[n] with
      | true =>
        rw [hp] at hf
        refine ⟨(n : Int), Ev.step (fun k => hL k _) (ev_pos (by omega) (ev_pos (by omega) (ev_pos (by omega) ?_))), by simp⟩
        rw [getD_of hx]
        exact ev_bind hf (ev_pos rfl (ev_ret _))
      | false =>
        rw [hp] at hf
        obtain ⟨r, h3, h4⟩ := ih (n + 1) (by omega) (by omega)
        refine ⟨r, Ev.step (fun k => hL k _) (ev_pos (by omega) (ev_pos (by omega) (ev_pos (by omega) ?_))), by rw [h4]; rfl⟩
        rw [getD_of hx, wrap_nat hn (by omega)]
        exact ev_bind hf (ev_neg (by simp) h3)
  have := key xs.length 0 (by omega) (by omega)
  simpa using this
theorem ev_contains {α : Type} {da : α} (L : Nat → Int → Option Int) (F : Nat → α → Option Bool) (xs : List α) (p : α → Bool) (hl : xs.length ≤ 9223372036854775807)
    (hL : ∀ k i, L (k + 1) i = if i < (xs.length : Int) then (if 0 ≤ i then (if i < (xs.length : Int) then ((F k (xs.getD i.toNat da)).bind fun t => if t = true then some i else L k (wrap64 (i + 1))) else none) else none) else some (-1))
    (hF : ∀ x ∈ xs, Ev (fun k => F k x) (p x)) : Ev (fun k => (L k 0).bind fun t => some (decide (t ≥ 0))) (xs.any p) := by
  obtain ⟨r, h1, h2⟩ := ev_index L F xs p hl hL hF
  exact ev_bind h1 (ev_eq (ev_ret _) h2)
theorem ev_all {α : Type} {da : α} (L : Nat → Int → Option Bool) (F : Nat → α → Option Bool) (xs : List α) (p : α → Bool) (G : Nat → Option Bool) (b : Bool) (hl : xs.length ≤ 9223372036854775807) (hG : Ev G b)
    (hL : ∀ k i, L (k + 1) i = if i < (xs.length : Int) then (if 0 ≤ i then ((F k (xs.getD i.toNat da)).bind fun t => if t = true then L k (wrap64 (i + 1)) else some false) else none) else G k)
    (hF : ∀ x ∈ xs, Ev (fun k => F k x) (p x)) : Ev (fun k => L k 0) (xs.all p && b) := by
  have key : ∀ d n : Nat, xs.length - n = d → n ≤ xs.length → Ev (fun k => L k (n : Int)) ((xs.drop n).all p && b) := by
    intro d
    induction d with
    | zero =>
      intro n h1 h2
      have : n = xs.length := by omega
      subst this
      rw [List.drop_length]
      refine Ev.step (fun k => hL k _) (ev_neg (by omega) (ev_eq hG (by simp)))
    | succ d ih =>
      intro n h1 h2
      have hn : n < xs.length := by omega
      have hx := List.getElem?_eq_getElem hn
      rw [List.drop_eq_getElem_cons hn, List.all_cons]
      have hf := hF _ (List.getElem_mem hn)
      refine Ev.step (fun k => hL k _) (ev_pos (by omega) (ev_pos (by omega) ?_))
      rw [getD_of hx, wrap_nat hn (by omega)]
      cases hp : p xs[n] with
      | true => rw [hp] at hf; exact ev_bind hf (ev_pos rfl (ev_eq (ih (n + 1) (by omega) (by omega)) (by simp)))
      | false => rw [hp] at hf; exact ev_bind hf (ev_neg (by simp) (ev_eq (ev_ret _) (by simp)))
  have := key xs.length 0 (by omega) (by omega)
  simpa using this
def pickGo (p : Nat → Bool) : Nat → Nat → List Int → List Int
  | 0, _, s => s
  | d + 1, n, s => pickGo p d (n + 1) (if p n = true then s ++ [(n : Int)] else s)
def pickP (p : Nat → Bool) (m : Nat) : List Int := pickGo p m 0 []
theorem pickGo_len (p : Nat → Bool) : ∀ (d n : Nat) (s : List Int), (pickGo p d n s).length ≤ s.length + d
  | 0, _, _ => Nat.le_refl _
  | d + 1, n, s => by
    unfold pickGo
    have h := pickGo_len p d (n + 1) (if p n = true then s ++ [(n : Int)] else s)
    split at h <;> rename_i e
    · rw [if_pos e]; simp at h ⊢; omega
    · rw [if_neg e]; omega
theorem pickP_len (p : Nat → Bool) (m : Nat) : (pickP p m).length ≤ m := by
  have := pickGo_len p m 0 []
  simpa [pickP] using this
theorem ev_pick (L : Nat → List Int → Int → Option (List Int)) (p : Nat → Bool) (m : Nat) (hend : ∀ s, s.length ≤ m → Ev (fun k => L k s (m : Int)) s)
    (hstep : ∀ (n : Nat) s R, n < m → s.length ≤ n → Ev (fun k => L k (if p n = true then s ++ [(n : Int)] else s) ((n + 1 : Nat) : Int)) R → Ev (fun k => L k s (n : Int)) R) : Ev (fun k => L k [] 0) (pickP p m) := by
  have key : ∀ d n : Nat, m - n = d → n ≤ m → ∀ s : List Int, s.length ≤ n → Ev (fun k => L k s (n : Int)) (pickGo p d n s) := by
    intro d
    induction d with
    | zero =>
      intro n h1 h2 s hs
      have : n = m := by omega
      subst this
      exact hend s hs
    | succ d ih =>
      intro n h1 h2 s hs
      refine hstep n s _ (by omega) hs ?_
      unfold pickGo
      exact ih (n + 1) (by omega) (by omega) _ (by split <;> (try simp only [List.length_append, List.length_singleton]) <;> omega)
  exact key m 0 (by omega) (by omega) [] (by simp)
def areBits (l : List Int) : Bool := l.all fun x => inR x 0 1
theorem spec_l6Are_ev (l : List Int) (hl : l.length ≤ 9223372036854775807) : Ev (fun k => spec_l6Are.f k l) (areBits l) := by
  unfold spec_l6Are.f
  refine ev_eq (ev_all (da := (0 : Int)) (fun k i => spec_l6Are.l0 k l i) (fun _ x => spec_l1In.f x 0 1) l (fun x => inR x 0 1) (fun _ => some true) true hl (ev_ret _) (fun k i => by rw [spec_l6Are.l0]; rfl) (fun x _ => ev_fix (spec_l1In_eq x 0 1))) ?_
  simp [areBits]
theorem rd_at {set : List Int} {n : Nat} (h : n < set.length) : rd set (n : Int) = set[n] := getD_of (List.getElem?_eq_getElem h)
theorem pickGo_mem (p : Nat → Bool) : ∀ (d n : Nat) (s : List Int) (x : Int), x ∈ pickGo p d n s ↔ (x ∈ s ∨ ∃ i : Nat, n ≤ i ∧ i < n + d ∧ p i = true ∧ x = i)
  | 0, n, s, x => ⟨.inl, fun h => h.elim id fun ⟨i, h1, h2, _⟩ => by omega⟩
  | d + 1, n, s, x => by
    unfold pickGo
    rw [pickGo_mem p d (n + 1)]
    constructor
    · rintro (h | ⟨i, h1, h2, h3, h4⟩)
      · by_cases e : p n = true
        · rw [if_pos e] at h
          rcases List.mem_append.1 h with h | h
          · exact .inl h
          · exact .inr ⟨n, Nat.le_refl _, by omega, e, List.mem_singleton.1 h⟩
        · rw [if_neg e] at h; exact .inl h
      · exact .inr ⟨i, by omega, by omega, h3, h4⟩
    · rintro (h | ⟨i, h1, h2, h3, h4⟩)
      · left
        split
        · exact List.mem_append_left _ h
        · exact h
      · by_cases e : i = n
        · left
          subst e
          rw [if_pos h3, h4]
          exact List.mem_append_right _ List.mem_cons_self
        · exact .inr ⟨i, by omega, by omega, h3, h4⟩
theorem pickP_mem {p : Nat → Bool} {m : Nat} {x : Int} : x ∈ pickP p m ↔ ∃ i : Nat, i < m ∧ p i = true ∧ x = i := by
  unfold pickP
  rw [pickGo_mem]
  simp
theorem ev_any {α : Type} {da : α} (L : Nat → Int → Option Bool) (F : Nat → α → Option Bool) (xs : List α) (p : α → Bool) (hl : xs.length ≤ 9223372036854775807)
    (hL : ∀ k i, L (k + 1) i = if i < (xs.length : Int) then (if 0 ≤ i then ((F k (xs.getD i.toNat da)).bind fun t => if t = true then some true else L k (wrap64 (i + 1))) else none) else some false)
    (hF : ∀ x ∈ xs, Ev (fun k => F k x) (p x)) : Ev (fun k => L k 0) (xs.any p) := by
  have key : ∀ d n : Nat, xs.length - n = d → n ≤ xs.length → Ev (fun k => L k (n : Int)) ((xs.drop n).any p) := by
    intro d
    induction d with
    | zero =>
      intro n h1 h2
      have : n = xs.length := by omega
      subst this
      rw [List.drop_length]
      exact Ev.step (fun k => hL k _) (ev_neg (by omega) (ev_ret _))
    | succ d ih =>
      intro n h1 h2
      have hn : n < xs.length := by omega
      have hx := List.getElem?_eq_getElem hn
      rw [List.drop_eq_getElem_cons hn, List.any_cons]
      have hf := hF _ (List.getElem_mem hn)
      refine Ev.step (fun k => hL k _) (ev_pos (by omega) (ev_pos (by omega) ?_))
      rw [getD_of hx, wrap_nat hn (by omega)]
      cases hp : p xs[n] with
      | true => rw [hp] at hf; exact ev_bind hf (ev_pos rfl (ev_eq (ev_ret _) (by simp)))
      | false => rw [hp] at hf; exact ev_bind hf (ev_neg (by simp) (ev_eq (ih (n + 1) (by omega) (by omega)) (by simp)))
  have := key xs.length 0 (by omega) (by omega)
  simpa using this
def absP (n : Int) : Int := if n < 0 then -n else n
def litOk (atoms x : Int) : Bool := decide (x ≠ 0) && inR x (-atoms) atoms
def clauseGo (atoms : Int) (l : List Int) : Nat → List Int → Bool
  | _, [] => true
  | n, x :: r => (litOk atoms x && (decide (n = 0) || decide (absP (l.getD (n - 1) 0) < absP x))) && clauseGo atoms l (n + 1) r
def clauseP (l : List Int) (atoms : Int) : Bool := clauseGo atoms l 0 l
theorem litOk_in {atoms x : Int} (h : litOk atoms x = true) : x ≠ 0 ∧ -atoms ≤ x ∧ x ≤ atoms := by
  unfold litOk at h
  rw [Bool.and_eq_true, decide_eq_true_eq, inR_iff] at h
  exact h
theorem abs_le {n : Int} : 0 ≤ absP n ∧ (absP n = n ∨ absP n = -n) := by unfold absP; split <;> omega
theorem spec_l11Abs_eq {n : Int} (h : -700 ≤ n ∧ n ≤ 700) : spec_l11Abs.f n = some (absP n) := by
  unfold spec_l11Abs.f absP
  rw [wrap_in (x := -n) (by omega) (by omega)]
  split <;> rfl
theorem impl_atomOf_eq {n : Int} (h : -700 ≤ n ∧ n ≤ 700) : impl_atomOf.f n = some (absP n) := by
  unfold impl_atomOf.f absP mx
  rw [wrap_in (x := -n) (by omega) (by omega)]
  split <;> split <;> first | rfl | (congr 1; omega)
theorem spec_l11Lit_eq {x atoms : Int} (h : 0 ≤ atoms ∧ atoms ≤ 700) : spec_l11Lit.f x atoms = some (litOk atoms x) := by
  unfold spec_l11Lit.f litOk
  rw [wrap_in (x := -atoms) (by omega) (by omega), spec_l1In_eq]
  by_cases e : x = 0
  · rw [if_pos e]; simp [e]
  · rw [if_neg e]; simp [e]
theorem clauseGo_at {atoms : Int} {l : List Int} : ∀ (r : List Int) (n : Nat), clauseGo atoms l n r = true → ∀ x ∈ r, litOk atoms x = true
  | [], n, _, x, hx => by cases hx
  | y :: r, n, h, x, hx => by
    unfold clauseGo at h
    simp only [Bool.and_eq_true] at h
    rcases List.mem_cons.1 hx with rfl | hx
    · exact h.1.1
    · exact clauseGo_at r (n + 1) h.2 x hx
theorem clauseP_lit {l : List Int} {atoms : Int} (h : clauseP l atoms = true) : ∀ x ∈ l, litOk atoms x = true := clauseGo_at l 0 h
theorem spec_ClauseValid_ev (l : List Int) {atoms : Int} (ha : 0 ≤ atoms ∧ atoms ≤ 700) (hl : l.length ≤ 9223372036854775806) : Ev (fun k => spec_ClauseValid.f k l atoms) (clauseP l atoms) := by
  unfold spec_ClauseValid.f clauseP
  have key : ∀ d n : Nat, l.length - n = d → n ≤ l.length → (n = 0 ∨ litOk atoms (l.getD (n - 1) 0) = true) → Ev (fun k => spec_ClauseValid.l0 k l atoms (n : Int)) (clauseGo atoms l n (l.drop n)) := by
    intro d
    induction d with
    | zero =>
      intro n g1 g2 g3
      have : n = l.length := by omega
      subst this
      rw [List.drop_length]
      refine Ev.step (fun k => by rw [spec_ClauseValid.l0, spec_l1In_eq]) ?_
      exact ev_neg (by omega) (ev_bind (ev_ret _) (ev_eq (ev_ret _) (inR_iff.2 ha)))
    | succ d ih =>
      intro n g1 g2 g3
      have hn : n < l.length := by omega
      have hx := rd_at hn
      have hget : l.getD n 0 = l[n] := by rw [List.getD_eq_getElem?_getD, List.getElem?_eq_getElem hn]; rfl
      rw [List.drop_eq_getElem_cons hn]
      generalize hq : l[n] = x at *
      unfold clauseGo
      have go : litOk atoms x = true → ∀ b, Ev (fun k => spec_ClauseValid.j1 k l atoms (n : Int) b) (!b && clauseGo atoms l (n + 1) (l.drop (n + 1))) := fun hL b => by
        refine Ev.step (fun k => by rw [spec_ClauseValid.j1, wrap_nat hn (by omega)]) ?_
        cases b with
        | true => exact ev_pos rfl (ev_ret _)
        | false => exact ev_neg (by simp) (ih (n + 1) (by omega) (by omega) (.inr (by rw [Nat.add_sub_cancel, hget]; exact hL)))
      refine Ev.step (fun k => by rw [spec_ClauseValid.l0, hx, spec_l11Lit_eq ha]) ?_
      refine ev_pos (by omega) (ev_pos (by omega) (ev_bind (ev_ret _) ?_))
      by_cases e : litOk atoms x = true
      · refine ev_pos e ?_
        have hxi := litOk_in e
        rw [e, Bool.true_and]
        by_cases z : n = 0
        · subst z
          exact ev_neg (by omega) (ev_eq (go e false) (by simp))
        · rcases g3 with g3 | g3
          · exact absurd g3 z
          have hpi := litOk_in g3
          rw [decide_eq_false z, Bool.false_or]
          refine ev_pos (by omega) (ev_bind (ev_fix (spec_l11Abs_eq (by omega))) ?_)
          have w : wrap64 ((n : Int) - 1) = ((n - 1 : Nat) : Int) := by rw [wrap_in (by omega) (by omega)]; omega
          have hr : rd l ((n - 1 : Nat) : Int) = l.getD (n - 1) 0 := rfl
          rw [w, hr]
          clear w
          refine ev_pos (by omega) (ev_pos (by omega) (ev_bind (ev_fix (spec_l11Abs_eq (by omega))) (ev_eq (go e _) ?_)))
          congr 1
          rw [Bool.eq_iff_iff]
          simp
      · refine ev_neg e (Ev.step (fun k => by rw [spec_ClauseValid.j1]) (ev_pos rfl (ev_eq (ev_ret _) ?_)))
        rw [Bool.not_eq_true] at e
        rw [e]; rfl
  have := key l.length 0 (by omega) (by omega) (.inl rfl)
  simpa using this
theorem impl_ClauseValid_ev (l : List Int) {atoms : Int} (ha : 0 ≤ atoms ∧ atoms ≤ 700) (hl : l.length ≤ 9223372036854775806) : Ev (fun k => impl_ClauseValid.f k l atoms) (clauseP l atoms) := by
  unfold impl_ClauseValid.f clauseP
  have key : ∀ d n : Nat, l.length - n = d → n ≤ l.length → (n = 0 ∨ litOk atoms (l.getD (n - 1) 0) = true) → Ev (fun k => impl_ClauseValid.l0 k l atoms l (l.length : Int) (n : Int)) (clauseGo atoms l n (l.drop n)) := by
    intro d
    induction d with
    | zero =>
      intro n g1 g2 g3
      have : n = l.length := by omega
      subst this
      rw [List.drop_length]
      refine Ev.step (fun k => by rw [impl_ClauseValid.l0]) ?_
      exact ev_neg (by omega) (ev_ret _)
    | succ d ih =>
      intro n g1 g2 g3
      have hn : n < l.length := by omega
      have hx := rd_at hn
      have hget : l.getD n 0 = l[n] := by rw [List.getD_eq_getElem?_getD, List.getElem?_eq_getElem hn]; rfl
      rw [List.drop_eq_getElem_cons hn]
      generalize hq : l[n] = x at *
      unfold clauseGo
      have go : ∀ b, (b = false → litOk atoms x = true) → Ev (fun k => impl_ClauseValid.j1 k l atoms l (l.length : Int) (n : Int) b) (!b && clauseGo atoms l (n + 1) (l.drop (n + 1))) := fun b hL => by
        refine Ev.step (fun k => by rw [impl_ClauseValid.j1, wrap_nat hn (by omega)]) ?_
        cases b with
        | true => exact ev_pos rfl (ev_ret _)
        | false => exact ev_neg (by simp) (ih (n + 1) (by omega) (by omega) (.inr (by rw [Nat.add_sub_cancel, hget]; exact hL rfl)))
      have hw2 : wrap64 (-atoms) = -atoms := wrap_in (by omega) (by omega)
      refine Ev.step (fun k => by rw [impl_ClauseValid.l0, hx, hw2, impl_in_eq]) ?_
      clear hw2
      refine ev_pos (by omega) (ev_pos (by omega) (ev_pos (by omega) (ev_bind (ev_ret _) ?_)))
      by_cases i : inR x (-atoms) atoms = true
      · refine ev_pos i ?_
        by_cases z0 : x = 0
        · refine ev_pos z0 (ev_eq (go true (by simp)) ?_)
          unfold litOk
          simp [z0]
        · have e : litOk atoms x = true := by unfold litOk; rw [i, decide_eq_true z0]; rfl
          have hxi := litOk_in e
          refine ev_neg z0 ?_
          rw [e, Bool.true_and]
          by_cases z : n = 0
          · subst z
            exact ev_neg (by omega) (ev_eq (go false fun _ => e) (by simp))
          · rcases g3 with g3 | g3
            · exact absurd g3 z
            have hpi := litOk_in g3
            rw [decide_eq_false z, Bool.false_or]
            have w : wrap64 ((n : Int) - 1) = ((n - 1 : Nat) : Int) := by rw [wrap_in (by omega) (by omega)]; omega
            have hr : rd l ((n - 1 : Nat) : Int) = l.getD (n - 1) 0 := rfl
            rw [w, hr]
            clear w
            refine ev_pos (by omega) (ev_pos (by omega) (ev_pos (by omega) (ev_bind (ev_fix (impl_atomOf_eq (by omega))) (ev_bind (ev_fix (impl_atomOf_eq (by omega))) (ev_eq (go _ fun _ => e) ?_)))))
            congr 1
            rw [Bool.eq_iff_iff]
            simp
      · refine ev_neg i (ev_eq (go true (by simp)) ?_)
        have : litOk atoms x = false := by unfold litOk; rw [Bool.not_eq_true] at i; rw [i, Bool.and_false]
        rw [this]; rfl
  have := key l.length 0 (by omega) (by omega) (.inl rfl)
  refine ev_bind (ev_fix (impl_in_eq _ _ _)) (ev_pos (inR_iff.2 ha) ?_)
  simpa using this
def clausesP (atoms : Int) (list : List (List Int)) : Bool := inR atoms 0 700 && (decide (list.length ≤ 2500) && list.all fun c => clauseP c atoms)
theorem spec_ClausesValid_ev (atoms : Int) (list : List (List Int)) (hl : list.length ≤ 9223372036854775806) (hx : ∀ c ∈ list, c.length ≤ 9223372036854775806) : Ev (fun k => spec_ClausesValid.f k atoms list) (clausesP atoms list) := by
  unfold spec_ClausesValid.f clausesP
  rw [spec_l1In_eq]
  refine ev_bind (ev_ret _) ?_
  by_cases c : inR atoms 0 700 = true
  · have ha := inR_iff.1 c
    rw [c]
    refine ev_pos rfl (Ev.step (fun k => by rw [spec_ClausesValid.j0]) ?_)
    by_cases n : list.length ≤ 2500
    · refine ev_neg (by simp; omega) ?_
      rw [decide_eq_true n, Bool.true_and, Bool.true_and, ← Bool.and_true (list.all _)]
      exact ev_all (da := ([] : List Int)) (fun k i => spec_ClausesValid.l0 k i atoms list) (fun k c => spec_ClauseValid.f k c atoms) list (fun c => clauseP c atoms) (fun _ => some true) true (by omega) (ev_ret _) (fun k i => by rw [spec_ClausesValid.l0]; rfl) (fun c hc => spec_ClauseValid_ev c ha (hx c hc))
    · refine ev_pos (by simp; omega) (ev_eq (ev_ret _) ?_)
      rw [decide_eq_false n]; rfl
  · rw [Bool.not_eq_true] at c
    rw [c]
    refine ev_neg (by simp) (Ev.step (fun k => by rw [spec_ClausesValid.j0]) ?_)
    exact ev_pos rfl (ev_ret _)
theorem all_any {α : Type} (l : List α) (p : α → Bool) : (!l.any fun x => !p x) = l.all p := by
  induction l with
  | nil => rfl
  | cons a l ih => rw [List.any_cons, List.all_cons, Bool.not_or, Bool.not_not, ih]
theorem impl_ClausesValid_ev (atoms : Int) (list : List (List Int)) (hl : list.length ≤ 9223372036854775806) (hx : ∀ c ∈ list, c.length ≤ 9223372036854775806) : Ev (fun k => impl_ClausesValid.f k atoms list) (clausesP atoms list) := by
  unfold impl_ClausesValid.f clausesP
  rw [impl_in_eq]
  refine ev_bind (ev_ret _) ?_
  by_cases c : inR atoms 0 700 = true
  · have ha := inR_iff.1 c
    rw [c]
    refine ev_pos rfl ?_
    by_cases n : list.length ≤ 2500
    · rw [decide_eq_true n, Bool.true_and, Bool.true_and, ← all_any]
      refine ev_pos (by omega) (ev_bind ?_ (ev_ret _))
      unfold slices_ContainsFunc_at_impl_ClausesValid_1.f slices_IndexFunc_at_impl_ClausesValid_1.f
      refine ev_contains (da := ([] : List Int)) (fun k i => slices_IndexFunc_at_impl_ClausesValid_1.l0 k list (list.length : Int) i atoms list) (fun k c => impl_ClausesValid_1.f k c atoms list) list (fun c => !clauseP c atoms) (by omega) (fun k i => by rw [slices_IndexFunc_at_impl_ClausesValid_1.l0]; rfl) (fun c hc => ?_)
      unfold impl_ClausesValid_1.f
      exact ev_bind (impl_ClauseValid_ev c ha (hx c hc)) (ev_ret _)
    · refine ev_neg (by omega) (ev_eq (ev_ret _) ?_)
      rw [decide_eq_false n]; rfl
  · rw [Bool.not_eq_true] at c
    rw [c]
    exact ev_neg (by simp) (ev_ret _)
theorem clausesP_and {atoms : Int} {list : List (List Int)} (h : clausesP atoms list = true) : (0 ≤ atoms ∧ atoms ≤ 700) ∧ list.length ≤ 2500 ∧ ∀ c ∈ list, ∀ x ∈ c, litOk atoms x = true := by
  unfold clausesP at h
  simp only [Bool.and_eq_true, inR_iff, decide_eq_true_eq, List.all_eq_true] at h
  exact ⟨h.1, h.2.1, fun c hc => clauseP_lit (h.2.2 c hc)⟩
def litP (bits : List Int) (x : Int) : Bool := decide (bits.getD (absP x - 1).toNat 0 = if x < 0 then 0 else 1)
def trueP (list : List (List Int)) (bits : List Int) : Bool := list.all fun c => c.any (litP bits)
theorem spec_l11Is_eq {x : Int} {bits : List Int} {atoms : Int} (h : litOk atoms x = true) (ha : atoms ≤ 700) (hb : (bits.length : Int) = atoms) : spec_l11Is.f x bits = some (litP bits x) := by
  have hx := litOk_in h
  unfold spec_l11Is.f litP absP
  by_cases e : x < 0
  · rw [if_pos e, if_pos e, if_pos e, wrap_in (x := -x) (by omega) (by omega), wrap_in (x := -x - 1) (by omega) (by omega), if_pos (by omega), if_pos (by omega)]
    congr 1
  · rw [if_neg e, if_neg e, if_neg e, wrap_in (x := x - 1) (by omega) (by omega), if_pos (by omega), if_pos (by omega)]
    congr 1
theorem impl_litTrue_eq {x : Int} {bits : List Int} {atoms : Int} (h : litOk atoms x = true) (ha : atoms ≤ 700) (hb : (bits.length : Int) = atoms) : impl_litTrue.f x bits = some (litP bits x) := by
  have hx := litOk_in h
  unfold impl_litTrue.f
  rw [impl_atomOf_eq (by omega)]
  have hA := abs_le (n := x)
  rw [Option.bind_some, wrap_in (x := absP x - 1) (by omega) (by omega), if_pos (by omega), if_pos (by omega)]
  unfold impl_bit.f litP
  by_cases e : x < 0
  · rw [if_pos e, if_neg (by simp; omega)]
    rfl
  · rw [if_neg e, if_pos (by simp; omega)]
    rfl
theorem spec_TrueIn_ev {atoms : Int} {list : List (List Int)} {bits : List Int} (h : clausesP atoms list = true) (hl : ∀ c ∈ list, c.length ≤ 1048576) (hb : (bits.length : Int) = atoms) (hbb : areBits bits = true) : Ev (fun k => spec_TrueIn.f k atoms list bits) (trueP list bits) := by
  obtain ⟨ha, h2, h3⟩ := clausesP_and h
  have hV := spec_ClausesValid_ev atoms list (by omega) (fun c hc => by have := hl c hc; omega)
  rw [h] at hV
  have hA := spec_l6Are_ev bits (by omega)
  rw [hbb] at hA
  unfold spec_TrueIn.f
  refine ev_bind hV (ev_pos rfl (ev_pos (by omega) (ev_bind hA (Ev.step (fun k => by rw [spec_TrueIn.j0]) (ev_neg (by simp) ?_)))))
  unfold trueP
  rw [← Bool.and_true (list.all _)]
  refine ev_all (da := ([] : List Int)) (fun k i => spec_TrueIn.l0 k bits i atoms list) (fun k c => spec_l11Any.f k c bits) list (fun c => c.any (litP bits)) (fun _ => some true) true (by omega) (ev_ret _) (fun k i => by rw [spec_TrueIn.l0]; rfl) (fun c hc => ?_)
  unfold spec_l11Any.f
  exact ev_any (da := (0 : Int)) (fun k i => spec_l11Any.l0 k c bits i) (fun _ x => spec_l11Is.f x bits) c (litP bits) (by have := hl c hc; omega) (fun k i => by rw [spec_l11Any.l0]; rfl) (fun x hx => ev_fix (spec_l11Is_eq (h3 c hc x hx) ha.2 hb))
def gatesGo (inputs : Int) : Nat → List IAnd → Bool
  | _, [] => true
  | n, g :: r => (inR g.f0 0 (2 * (1 + inputs + n) - 1) && inR g.f1 0 (2 * (1 + inputs + n) - 1)) && gatesGo inputs (n + 1) r
def circP (inputs : Int) (gates : List IAnd) : Bool := inR inputs 0 12 && (decide (gates.length ≤ 600) && gatesGo inputs 0 gates)
theorem rd_IAnd_at {l : List IAnd} {n : Nat} (h : n < l.length) : rd_IAnd l (n : Int) = l[n] := getD_of (List.getElem?_eq_getElem h)
theorem most_w {inputs : Int} {n : Nat} (h : 0 ≤ inputs ∧ inputs ≤ 12) (hn : n ≤ 600) : wrap64 (wrap64 (2 * wrap64 (wrap64 (1 + inputs) + n)) - 1) = 2 * (1 + inputs + n) - 1 := by
  rw [wrap_in (x := 1 + inputs) (by omega) (by omega), wrap_in (x := 1 + inputs + n) (by omega) (by omega), wrap_in (x := 2 * (1 + inputs + n)) (by omega) (by omega), wrap_in (by omega) (by omega)]
theorem spec_CircuitValid_ev (inputs : Int) (gates : List IAnd) : Ev (fun k => spec_CircuitValid.f k inputs gates) (circP inputs gates) := by
  unfold spec_CircuitValid.f circP
  rw [spec_l1In_eq]
  refine ev_bind (ev_ret _) ?_
  by_cases c : inR inputs 0 12 = true
  · have ha := inR_iff.1 c
    rw [c]
    refine ev_pos rfl (Ev.step (fun k => by rw [spec_CircuitValid.j0]) ?_)
    by_cases n : gates.length ≤ 600
    · refine ev_neg (by simp; omega) ?_
      rw [decide_eq_true n, Bool.true_and, Bool.true_and]
      have key : ∀ d n : Nat, gates.length - n = d → n ≤ gates.length → Ev (fun k => spec_CircuitValid.l0 k (n : Int) inputs gates) (gatesGo inputs n (gates.drop n)) := by
        intro d
        induction d with
        | zero =>
          intro n g1 g2
          have : n = gates.length := by omega
          subst this
          rw [List.drop_length]
          refine Ev.step (fun k => by rw [spec_CircuitValid.l0]) ?_
          exact ev_neg (by omega) (ev_ret _)
        | succ d ih =>
          intro n g1 g2
          have hn : n < gates.length := by omega
          rw [List.drop_eq_getElem_cons hn]
          unfold gatesGo
          refine Ev.step (fun k => by rw [spec_CircuitValid.l0, rd_IAnd_at hn, most_w ha (by omega), wrap_nat hn (by omega), spec_l1In_eq, spec_l1In_eq]) ?_
          refine ev_pos (by omega) (ev_pos (by omega) (ev_bind (ev_ret _) ?_))
          cases e1 : inR gates[n].f0 0 (2 * (1 + inputs + n) - 1) with
          | false => exact ev_neg (by simp) (ev_ret _)
          | true =>
            refine ev_pos rfl (ev_bind (ev_ret _) ?_)
            cases e2 : inR gates[n].f1 0 (2 * (1 + inputs + n) - 1) with
            | false => exact ev_neg (by simp) (ev_ret _)
            | true => exact ev_pos rfl (ev_eq (ih (n + 1) (by omega) (by omega)) (by simp))
      exact key gates.length 0 (by omega) (by omega)
    · refine ev_pos (by simp; omega) (ev_eq (ev_ret _) ?_)
      rw [decide_eq_false n]; rfl
  · rw [Bool.not_eq_true] at c
    rw [c]
    refine ev_neg (by simp) (Ev.step (fun k => by rw [spec_CircuitValid.j0]) ?_)
    exact ev_pos rfl (ev_ret _)
theorem impl_CircuitValid_ev (inputs : Int) (gates : List IAnd) : Ev (fun k => impl_CircuitValid.f k inputs gates) (circP inputs gates) := by
  unfold impl_CircuitValid.f circP
  rw [impl_in_eq]
  refine ev_bind (ev_ret _) ?_
  by_cases c : inR inputs 0 12 = true
  · have ha := inR_iff.1 c
    rw [c]
    refine ev_pos rfl (Ev.step (fun k => by rw [impl_CircuitValid.j0]) ?_)
    by_cases n : gates.length ≤ 600
    · refine ev_neg (by simp; omega) ?_
      rw [decide_eq_true n, Bool.true_and, Bool.true_and]
      have key : ∀ d n : Nat, gates.length - n = d → n ≤ gates.length → Ev (fun k => impl_CircuitValid.l0 k gates (gates.length : Int) (n : Int) inputs gates) (gatesGo inputs n (gates.drop n)) := by
        intro d
        induction d with
        | zero =>
          intro n g1 g2
          have : n = gates.length := by omega
          subst this
          rw [List.drop_length]
          refine Ev.step (fun k => by rw [impl_CircuitValid.l0]) ?_
          exact ev_neg (by omega) (ev_ret _)
        | succ d ih =>
          intro n g1 g2
          have hn : n < gates.length := by omega
          rw [List.drop_eq_getElem_cons hn]
          unfold gatesGo
          refine Ev.step (fun k => by rw [impl_CircuitValid.l0, rd_IAnd_at hn, most_w ha (by omega), wrap_nat hn (by omega), impl_in_eq, impl_in_eq]) ?_
          refine ev_pos (by omega) (ev_pos (by omega) (ev_pos (by omega) (ev_bind (ev_ret _) ?_)))
          cases e1 : inR gates[n].f0 0 (2 * (1 + inputs + n) - 1) with
          | false => exact ev_neg (by simp) (ev_ret _)
          | true =>
            refine ev_pos rfl (ev_bind (ev_ret _) ?_)
            cases e2 : inR gates[n].f1 0 (2 * (1 + inputs + n) - 1) with
            | false => exact ev_neg (by simp) (ev_ret _)
            | true => exact ev_pos rfl (ev_eq (ih (n + 1) (by omega) (by omega)) (by simp))
      exact key gates.length 0 (by omega) (by omega)
    · refine ev_pos (by simp; omega) (ev_eq (ev_ret _) ?_)
      rw [decide_eq_false n]; rfl
  · rw [Bool.not_eq_true] at c
    rw [c]
    refine ev_neg (by simp) (Ev.step (fun k => by rw [impl_CircuitValid.j0]) ?_)
    exact ev_pos rfl (ev_ret _)
theorem gatesGo_at {inputs : Int} : ∀ (r : List IAnd) (n i : Nat) (g : IAnd), gatesGo inputs n r = true → r[i]? = some g → (0 ≤ g.f0 ∧ g.f0 < 2 * (1 + inputs + (n + i : Nat))) ∧ (0 ≤ g.f1 ∧ g.f1 < 2 * (1 + inputs + (n + i : Nat)))
  | [], n, i, g, _, h => by simp at h
  | x :: r, n, 0, g, h, hg => by
    obtain rfl : x = g := by simpa using hg
    unfold gatesGo at h
    simp only [Bool.and_eq_true, inR_iff] at h
    omega
  | x :: r, n, i + 1, g, h, hg => by
    unfold gatesGo at h
    rw [Bool.and_eq_true] at h
    have := gatesGo_at r (n + 1) i g h.2 (by simpa using hg)
    omega
theorem circP_and {inputs : Int} {gates : List IAnd} (h : circP inputs gates = true) : (0 ≤ inputs ∧ inputs ≤ 12) ∧ gates.length ≤ 600 ∧ ∀ (i : Nat) (g : IAnd), gates[i]? = some g → (0 ≤ g.f0 ∧ g.f0 < 2 * (1 + inputs + i)) ∧ (0 ≤ g.f1 ∧ g.f1 < 2 * (1 + inputs + i)) := by
  unfold circP at h
  simp only [Bool.and_eq_true, inR_iff, decide_eq_true_eq] at h
  refine ⟨h.1, h.2.1, fun i g hg => ?_⟩
  have := gatesGo_at gates 0 i g h.2.2 hg
  simpa using this
def edgeP (inputs : Int) (gates : List IAnd) (e : Int) : Bool := inR e 0 (2 * (1 + inputs + gates.length) - 1)
theorem spec_l7Edge_eq {inputs : Int} {gates : List IAnd} (h : circP inputs gates = true) (e : Int) : spec_l7Edge.f inputs gates e = some (edgeP inputs gates e) := by
  obtain ⟨h1, h2, _⟩ := circP_and h
  unfold spec_l7Edge.f spec_l7Nodes.f edgeP
  rw [Option.bind_some, wrap_in (x := 1 + inputs) (by omega) (by omega), wrap_in (x := 1 + inputs + gates.length) (by omega) (by omega), wrap_in (x := 2 * (1 + inputs + gates.length)) (by omega) (by omega), wrap_in (by omega) (by omega), spec_l1In_eq]
  rfl
theorem impl_isEdge_eq {inputs : Int} {gates : List IAnd} (h : circP inputs gates = true) (e : Int) : impl_Circuit_isEdge.f inputs gates e = some (edgeP inputs gates e) := by
  obtain ⟨h1, h2, _⟩ := circP_and h
  unfold impl_Circuit_isEdge.f edgeP
  rw [wrap_in (x := 1 + inputs) (by omega) (by omega), wrap_in (x := 1 + inputs + gates.length) (by omega) (by omega), wrap_in (x := 2 * (1 + inputs + gates.length)) (by omega) (by omega), wrap_in (by omega) (by omega), impl_in_eq]
  rfl
def valE (v : List Int) (e : Int) : Int := if e % 2 = 1 then 1 - v.getD (e / 2).toNat 0 else v.getD (e / 2).toNat 0
def runC (v : List Int) : List IAnd → List Int
  | [] => v
  | g :: r => runC (v ++ [valE v g.f0 * valE v g.f1]) r
theorem bit_cases {x : Int} (h : inR x 0 1 = true) : x = 0 ∨ x = 1 := by have := inR_iff.1 h; omega
theorem bits_at {v : List Int} (h : areBits v = true) (i : Nat) : v.getD i 0 = 0 ∨ v.getD i 0 = 1 := by
  rw [List.getD_eq_getElem?_getD]
  cases e : v[i]? with
  | none => exact .inl rfl
  | some x => exact bit_cases (List.all_eq_true.1 h x (List.mem_of_getElem? e))
theorem valE_bit {v : List Int} (h : areBits v = true) (e : Int) : valE v e = 0 ∨ valE v e = 1 := by
  have := bits_at h (e / 2).toNat
  unfold valE
  split <;> omega
theorem mul_bit {a b : Int} (ha : a = 0 ∨ a = 1) (hb : b = 0 ∨ b = 1) : (a * b = 0 ∨ a * b = 1) ∧ wrap64 (a * b) = a * b ∧ Go.bits .and .i64 a b = a * b := by
  rcases ha with rfl | rfl <;> rcases hb with rfl | rfl <;> decide +kernel
theorem xor_bit {a b : Int} (ha : a = 0 ∨ a = 1) (hb : b = 0 ∨ b = 1) : Go.bits .xor .i64 a b = if b = 1 then 1 - a else a := by
  rcases ha with rfl | rfl <;> rcases hb with rfl | rfl <;> decide +kernel
theorem and_one {x : Int} (h0 : 0 ≤ x) (h1 : x < 4611686018427387904) : Go.bits .and .i64 x 1 = x % 2 := by
  have := Go.bits_mask .i64 62 (by decide) (fun n a b => by rw [Go.IntKind.wrap_i64]; omega) 1 (by decide) x h0 (by omega)
  simpa using this
theorem tdiv_two {x : Int} (h : 0 ≤ x) : Int.tdiv x 2 = x / 2 := Int.tdiv_eq_ediv_of_nonneg h
theorem tmod_two {x : Int} (h : 0 ≤ x) : Int.tmod x 2 = x % 2 := Int.tmod_eq_emod_of_nonneg h
theorem spec_l7Of_eq {v : List Int} {e : Int} (hv : areBits v = true) (h0 : 0 ≤ e) (h1 : e < 2 * v.length) (hl : v.length ≤ 1048576) : spec_l7Of.f v e = some (valE v e) := by
  have hb := bits_at hv (e / 2).toNat
  unfold spec_l7Of.f valE
  rw [tmod_two h0, tdiv_two h0, wrap_in (x := e / 2) (by omega) (by omega)]
  by_cases c : e % 2 = 1
  · rw [if_pos c, if_pos c, if_pos (show 0 ≤ e / 2 by omega), if_pos (show e / 2 < (v.length : Int) by omega)]
    show some (wrap64 (1 - v.getD (e / 2).toNat 0)) = _
    rw [wrap_in (by omega) (by omega)]
  · rw [if_neg c, if_neg c, if_pos (show 0 ≤ e / 2 by omega), if_pos (show e / 2 < (v.length : Int) by omega)]
    rfl
theorem impl_edgeOf_eq {v : List Int} {e : Int} (hv : areBits v = true) (h0 : 0 ≤ e) (h1 : e < 2 * v.length) (hl : v.length ≤ 1048576) : impl_edgeOf.f v e = some (valE v e) := by
  have hb := bits_at hv (e / 2).toNat
  unfold impl_edgeOf.f valE
  rw [tdiv_two h0, wrap_in (x := e / 2) (by omega) (by omega), if_pos (by omega), if_pos (by omega), and_one h0 (by omega)]
  show some (Go.bits .xor .i64 (v.getD (e / 2).toNat 0) (e % 2)) = _
  rw [xor_bit hb (by omega)]
theorem areBits_snoc {v : List Int} {x : Int} (hv : areBits v = true) (hx : x = 0 ∨ x = 1) : areBits (v ++ [x]) = true := by
  unfold areBits at hv ⊢
  rw [List.all_append, hv]
  rcases hx with rfl | rfl <;> rfl
theorem runC_ok (v : List Int) : ∀ (gates : List IAnd), areBits v = true → areBits (runC v gates) = true ∧ (runC v gates).length = v.length + gates.length := by
  intro gates
  induction gates generalizing v with
  | nil => exact fun h => ⟨h, by simp [runC]⟩
  | cons g r ih =>
    intro h
    unfold runC
    have := ih (v ++ [valE v g.f0 * valE v g.f1]) (areBits_snoc h (mul_bit (valE_bit h _) (valE_bit h _)).1)
    refine ⟨this.1, ?_⟩
    rw [this.2]
    simp only [List.length_append, List.length_cons, List.length_nil]
    omega
theorem spec_l7Run_ev {inputs : Int} {gates : List IAnd} {bits : List Int} (h : circP inputs gates = true) (hb : (bits.length : Int) = inputs) (hbb : areBits bits = true) : Ev (fun k => spec_l7Run.f k inputs gates bits) (runC (0 :: bits) gates) := by
  obtain ⟨h1, h2, h3⟩ := circP_and h
  unfold spec_l7Run.f
  have key : ∀ d n : Nat, gates.length - n = d → n ≤ gates.length → ∀ v : List Int, areBits v = true → (v.length : Int) = 1 + inputs + n → Ev (fun k => spec_l7Run.l1 k v (n : Int) inputs gates) (runC v (gates.drop n)) := by
    intro d
    induction d with
    | zero =>
      intro n g1 g2 v _ _
      have : n = gates.length := by omega
      subst this
      rw [List.drop_length]
      refine Ev.step (fun k => by rw [spec_l7Run.l1]) ?_
      exact ev_neg (by omega) (ev_ret _)
    | succ d ih =>
      intro n g1 g2 v hv hl
      have hn : n < gates.length := by omega
      obtain ⟨a, b⟩ := h3 n gates[n] (List.getElem?_eq_getElem hn)
      rw [List.drop_eq_getElem_cons hn]
      unfold runC
      generalize hgq : gates[n] = g at *
      have hrd : rd_IAnd gates (n : Int) = g := (rd_IAnd_at hn).trans hgq
      obtain ⟨m1, m2, m3⟩ := mul_bit (valE_bit hv g.f0) (valE_bit hv g.f1)
      refine Ev.step (fun k => by rw [spec_l7Run.l1, hrd, wrap_nat hn (by omega), spec_l7Of_eq hv a.1 (by omega) (by omega), spec_l7Of_eq hv b.1 (by omega) (by omega)]) ?_
      refine ev_pos (by omega) (ev_pos (by omega) (ev_bind (ev_ret _) (ev_bind (ev_ret _) (ev_pos (by omega) ?_))))
      rw [m2]
      exact ih (n + 1) (by omega) (by omega) _ (areBits_snoc hv m1) (by simp; omega)
  have fill : ∀ d n : Nat, bits.length - n = d → n ≤ bits.length → Ev (fun k => spec_l7Run.l0 k bits (0 :: bits.take n) (n : Int) inputs gates) (runC (0 :: bits) gates) := by
    intro d
    induction d with
    | zero =>
      intro n g1 g2
      have : n = bits.length := by omega
      subst this
      rw [List.take_length]
      refine Ev.step (fun k => by rw [spec_l7Run.l0]) ?_
      refine ev_neg (by omega) ?_
      have := key gates.length 0 (by omega) (by omega) (0 :: bits) (by unfold areBits at hbb ⊢; rw [List.all_cons, hbb]; rfl) (by simp; omega)
      exact this
    | succ d ih =>
      intro n g1 g2
      have hn : n < bits.length := by omega
      refine Ev.step (fun k => by rw [spec_l7Run.l0, rd_at hn, wrap_nat hn (by omega)]) ?_
      refine ev_pos (by omega) (ev_pos (by omega) (ev_pos (by omega) (ev_pos (by simp; omega) ?_)))
      rw [List.cons_append, ← List.take_succ_eq_append_getElem hn]
      exact ih (n + 1) (by omega) (by omega)
  exact fill bits.length 0 (by omega) (by omega)
theorem impl_values_ev {inputs : Int} {gates : List IAnd} {bits : List Int} (h : circP inputs gates = true) (hb : (bits.length : Int) = inputs) (hbb : areBits bits = true) : Ev (fun k => impl_Circuit_values.f k inputs gates bits) (runC (0 :: bits) gates) := by
  obtain ⟨h1, h2, h3⟩ := circP_and h
  unfold impl_Circuit_values.f
  have key : ∀ d n : Nat, gates.length - n = d → n ≤ gates.length → ∀ v : List Int, areBits v = true → (v.length : Int) = 1 + inputs + n → Ev (fun k => impl_Circuit_values.l0 k v gates (gates.length : Int) (n : Int)) (runC v (gates.drop n)) := by
    intro d
    induction d with
    | zero =>
      intro n g1 g2 v _ _
      have : n = gates.length := by omega
      subst this
      rw [List.drop_length]
      refine Ev.step (fun k => by rw [impl_Circuit_values.l0]) ?_
      exact ev_neg (by omega) (ev_ret _)
    | succ d ih =>
      intro n g1 g2 v hv hl
      have hn : n < gates.length := by omega
      obtain ⟨a, b⟩ := h3 n gates[n] (List.getElem?_eq_getElem hn)
      rw [List.drop_eq_getElem_cons hn]
      unfold runC
      generalize hgq : gates[n] = g at *
      have hrd : rd_IAnd gates (n : Int) = g := (rd_IAnd_at hn).trans hgq
      obtain ⟨m1, m2, m3⟩ := mul_bit (valE_bit hv g.f0) (valE_bit hv g.f1)
      refine Ev.step (fun k => by rw [impl_Circuit_values.l0, hrd, wrap_nat hn (by omega), impl_edgeOf_eq hv a.1 (by omega) (by omega), impl_edgeOf_eq hv b.1 (by omega) (by omega)]) ?_
      refine ev_pos (by omega) (ev_pos (by omega) (ev_pos (by omega) (ev_bind (ev_ret _) (ev_bind (ev_ret _) (ev_pos (by omega) ?_)))))
      rw [m3]
      exact ih (n + 1) (by omega) (by omega) _ (areBits_snoc hv m1) (by simp; omega)
  refine ev_bind (ev_ret _) (ev_pos (by simp; omega) ?_)
  exact key gates.length 0 (by omega) (by omega) (0 :: bits) (by unfold areBits at hbb ⊢; rw [List.all_cons, hbb]; rfl) (by simp; omega)
def reachGo (inputs : Int) (gates : List IAnd) : Nat → List Bool → List Bool
  | 0, s => s
  | i + 1, s => reachGo inputs gates i (if s.getD (1 + inputs + i).toNat false = true then (s.set ((gates.getD i zIAnd).f0 / 2).toNat true).set ((gates.getD i zIAnd).f1 / 2).toNat true else s)
theorem reachGo_len (inputs : Int) (gates : List IAnd) : ∀ (i : Nat) (s : List Bool), (reachGo inputs gates i s).length = s.length
  | 0, s => rfl
  | i + 1, s => by
    unfold reachGo
    rw [reachGo_len inputs gates i]
    split <;> simp
def reachP (inputs : Int) (gates : List IAnd) (e : Int) : List Bool := reachGo inputs gates gates.length ((List.replicate (1 + inputs + gates.length).toNat false).set (e / 2).toNat true)
theorem reachP_len {inputs : Int} {gates : List IAnd} {e : Int} : (reachP inputs gates e).length = (1 + inputs + gates.length).toNat := by
  unfold reachP
  rw [reachGo_len, List.length_set, List.length_replicate]
theorem spec_l7Reach_ev {inputs : Int} {gates : List IAnd} {e : Int} (h : circP inputs gates = true) (he : edgeP inputs gates e = true) : Ev (fun k => spec_l7Reach.f k inputs gates e) (reachP inputs gates e) := by
  obtain ⟨h1, h2, h3⟩ := circP_and h
  have he' := inR_iff.1 he
  unfold spec_l7Reach.f spec_l7Nodes.f reachP
  rw [wrap_in (x := 1 + inputs) (by omega) (by omega), wrap_in (x := 1 + inputs + gates.length) (by omega) (by omega), tdiv_two he'.1, wrap_in (x := e / 2) (by omega) (by omega)]
  have key : ∀ i : Nat, i ≤ gates.length → ∀ s : List Bool, (s.length : Int) = 1 + inputs + gates.length → Ev (fun k => spec_l7Reach.l0 k s ((i : Int) - 1) inputs gates) (reachGo inputs gates i s) := by
    intro i
    induction i with
    | zero =>
      intro _ s _
      refine Ev.step (fun k => by rw [spec_l7Reach.l0]) ?_
      exact ev_neg (by omega) (ev_ret _)
    | succ i ih =>
      intro hi s hs
      have hn : i < gates.length := by omega
      obtain ⟨a, b⟩ := h3 i gates[i] (List.getElem?_eq_getElem hn)
      have hg : gates.getD i zIAnd = gates[i] := by rw [List.getD_eq_getElem?_getD, List.getElem?_eq_getElem hn]; rfl
      have hrd : rd_IAnd gates (i : Int) = gates[i] := rd_IAnd_at hn
      have hr2 : rdOf false s (1 + inputs + i) = s.getD (1 + inputs + i).toNat false := rfl
      unfold reachGo
      rw [hg]
      generalize gates[i] = g at *
      refine Ev.step (fun k => by rw [spec_l7Reach.l0, show (((i + 1 : Nat) : Int) - 1) = (i : Int) by omega, hrd, wrap_in (x := 1 + inputs) (by omega) (by omega), wrap_in (x := 1 + inputs + i) (by omega) (by omega), wrap_in (x := (i : Int) - 1) (by omega) (by omega), tdiv_two a.1, tdiv_two b.1, wrap_in (x := g.f0 / 2) (by omega) (by omega), wrap_in (x := g.f1 / 2) (by omega) (by omega), hr2]) ?_
      refine ev_pos (by omega) (ev_pos (by omega) (ev_pos (by omega) ?_))
      by_cases c : s.getD (1 + inputs + i).toNat false = true
      · rw [if_pos c]
        exact ev_pos c (ev_pos (by omega) (ev_pos (by omega) (ev_pos (by omega) (ev_pos (by omega) (ev_pos (by omega) (ev_pos (by omega) (ih (by omega) _ (by simpa using hs))))))))
      · rw [if_neg c]
        exact ev_neg c (ih (by omega) s hs)
  refine ev_bind (ev_ret _) (ev_pos (by omega) (ev_pos (by omega) (ev_bind (ev_ret _) (ev_pos (by omega) (ev_pos (by simp; omega) ?_)))))
  rw [wrap_in (x := (gates.length : Int) - 1) (by omega) (by omega)]
  exact key gates.length (Nat.le_refl _) _ (by simp; omega)
theorem impl_needs_ev {inputs : Int} {gates : List IAnd} {e : Int} (h : circP inputs gates = true) (he : edgeP inputs gates e = true) : Ev (fun k => impl_Circuit_needs.f k inputs gates e) (reachP inputs gates e) := by
  obtain ⟨h1, h2, h3⟩ := circP_and h
  have he' := inR_iff.1 he
  unfold impl_Circuit_needs.f reachP
  rw [wrap_in (x := 1 + inputs) (by omega) (by omega), wrap_in (x := 1 + inputs + gates.length) (by omega) (by omega), tdiv_two he'.1, wrap_in (x := e / 2) (by omega) (by omega)]
  have key : ∀ i : Nat, i ≤ gates.length → ∀ s : List Bool, (s.length : Int) = 1 + inputs + gates.length → Ev (fun k => impl_Circuit_needs.l0 k s ((i : Int) - 1) inputs gates) (reachGo inputs gates i s) := by
    intro i
    induction i with
    | zero =>
      intro _ s _
      refine Ev.step (fun k => by rw [impl_Circuit_needs.l0]) ?_
      exact ev_neg (by omega) (ev_ret _)
    | succ i ih =>
      intro hi s hs
      have hn : i < gates.length := by omega
      obtain ⟨a, b⟩ := h3 i gates[i] (List.getElem?_eq_getElem hn)
      have hg : gates.getD i zIAnd = gates[i] := by rw [List.getD_eq_getElem?_getD, List.getElem?_eq_getElem hn]; rfl
      have hrd : rd_IAnd gates (i : Int) = gates[i] := rd_IAnd_at hn
      have hr2 : rdOf false s (1 + inputs + i) = s.getD (1 + inputs + i).toNat false := rfl
      unfold reachGo
      rw [hg]
      generalize gates[i] = g at *
      refine Ev.step (fun k => by rw [impl_Circuit_needs.l0, show (((i + 1 : Nat) : Int) - 1) = (i : Int) by omega, hrd, wrap_in (x := 1 + inputs) (by omega) (by omega), wrap_in (x := 1 + inputs + i) (by omega) (by omega), wrap_in (x := (i : Int) - 1) (by omega) (by omega), tdiv_two a.1, tdiv_two b.1, wrap_in (x := g.f0 / 2) (by omega) (by omega), wrap_in (x := g.f1 / 2) (by omega) (by omega), hr2]) ?_
      refine ev_pos (by omega) (ev_pos (by omega) (ev_pos (by omega) ?_))
      by_cases c : s.getD (1 + inputs + i).toNat false = true
      · rw [if_pos c]
        exact ev_pos c (ev_pos (by omega) (ev_pos (by omega) (ev_pos (by omega) (ev_pos (by omega) (ev_pos (by omega) (ev_pos (by omega) (ih (by omega) _ (by simpa using hs))))))))
      · rw [if_neg c]
        exact ev_neg c (ih (by omega) s hs)
  refine ev_pos (by omega) (ev_pos (by omega) (ev_bind (ev_ret _) (ev_pos (by omega) (ev_pos (by simp; omega) ?_))))
  rw [wrap_in (x := (gates.length : Int) - 1) (by omega) (by omega)]
  exact key gates.length (Nat.le_refl _) _ (by simp; omega)
def bitsN (n : Nat) : Nat → List Int
  | 0 => []
  | m + 1 => ((n / 2 ^ m % 2 : Nat) : Int) :: bitsN n m
theorem bitsN_len (n : Nat) : ∀ m, (bitsN n m).length = m
  | 0 => rfl
  | m + 1 => by simp [bitsN, bitsN_len n m]
theorem bitsN_bits (n : Nat) : ∀ m, areBits (bitsN n m) = true
  | 0 => rfl
  | m + 1 => by
    unfold bitsN areBits
    rw [List.all_cons, Bool.and_eq_true]
    exact ⟨inR_iff.2 (by omega), bitsN_bits n m⟩
theorem shr_nat {n m : Nat} (hm : m ≤ 64) : shr .i64 (n : Int) (m : Int) = ((n / 2 ^ m : Nat) : Int) := by
  unfold shr
  rw [Int.toNat_natCast, show min m IntKind.i64.bits = m from Nat.min_eq_left hm]
  push_cast
  rfl
theorem spec_l6Value_nat {n m : Nat} (hn : n < 4611686018427387904) (hm : m ≤ 64) : Ev (fun k => spec_l6Value.f k (n : Int) (m : Int)) (bitsN n m) := by
  unfold spec_l6Value.f
  have key : ∀ i : Nat, i ≤ m → ∀ s : List Int, s.length + i = m → Ev (fun k => spec_l6Value.l0 k (n : Int) s ((i : Int) - 1)) (s ++ bitsN n i) := by
    intro i
    induction i with
    | zero =>
      intro _ s _
      refine Ev.step (fun k => by rw [spec_l6Value.l0]) ?_
      exact ev_neg (by omega) (ev_eq (ev_ret _) (by simp [bitsN]))
    | succ i ih =>
      intro hi s hs
      refine Ev.step (fun k => by rw [spec_l6Value.l0, show (((i + 1 : Nat) : Int) - 1) = (i : Int) by omega, shr_nat (by omega), wrap_in (x := (i : Int) - 1) (by omega) (by omega)]) ?_
      refine ev_pos (by omega) (ev_pos (by omega) (ev_pos (by omega) (ev_eq (ih (by omega) _ (by simp; omega)) ?_)))
      rw [tmod_two (Int.natCast_nonneg _), List.append_assoc]
      congr 1
  rw [wrap_in (x := (m : Int) - 1) (by omega) (by omega)]
  exact ev_eq (key m (Nat.le_refl _) [] (by simp)) (by simp)
theorem bitsN_get (n : Nat) : ∀ (m i : Nat), i < m → (bitsN n m)[i]? = some ((n / 2 ^ (m - 1 - i) % 2 : Nat) : Int)
  | 0, i, h => by omega
  | m + 1, 0, h => by simp [bitsN]
  | m + 1, i + 1, h => by
    unfold bitsN
    rw [List.getElem?_cons_succ, bitsN_get n m i (by omega)]
    congr 5
    omega
theorem impl_valueBits_nat {n m : Nat} (hn : n < 4611686018427387904) (hm : m ≤ 64) : Ev (fun k => impl_valueBits.f k (n : Int) (m : Int)) (bitsN n m) := by
  unfold impl_valueBits.f
  refine ev_pos (by omega) (ev_pos (by omega) (ev_bind (ev_ret _) ?_))
  rw [List.length_replicate, Int.toNat_natCast]
  have key : ∀ d i : Nat, m - i = d → i ≤ m → Ev (fun k => impl_valueBits.l0 k (n : Int) (m : Int) ((bitsN n m).take i ++ List.replicate (m - i) 0) (m : Int) (i : Int)) (bitsN n m) := by
    intro d
    induction d with
    | zero =>
      intro i g1 g2
      have : i = m := by omega
      subst this
      refine Ev.step (fun k => by rw [impl_valueBits.l0]) ?_
      exact ev_neg (by omega) (ev_eq (ev_ret _) (by rw [List.take_of_length_le (by rw [bitsN_len]; omega), Nat.sub_self]; simp))
    | succ d ih =>
      intro i g1 g2
      have hi : i < m := by omega
      have hw : wrap64 (wrap64 ((m : Int) - 1) - i) = ((m - 1 - i : Nat) : Int) := by rw [wrap_in (x := (m : Int) - 1) (by omega) (by omega), wrap_in (by omega) (by omega)]; omega
      have hp : n / 2 ^ (m - 1 - i) ≤ n := Nat.div_le_self _ _
      refine Ev.step (fun k => by rw [impl_valueBits.l0, hw, shr_nat (by omega), and_one (Int.natCast_nonneg _) (by omega), wrap_nat hi (by omega)]) ?_
      clear hw
      have hlen : ((bitsN n m).take i).length = i := by rw [List.length_take, bitsN_len]; omega
      refine ev_pos (by omega) (ev_pos (by omega) (ev_pos (by omega) (ev_pos (by rw [List.length_append, hlen, List.length_replicate]; omega) ?_)))
      have e : ((bitsN n m).take i ++ List.replicate (m - i) 0).set ((i : Int)).toNat (((n / 2 ^ (m - 1 - i) : Nat) : Int) % 2) = (bitsN n m).take (i + 1) ++ List.replicate (m - (i + 1)) 0 := by
        rw [Int.toNat_natCast, List.set_append, hlen, if_neg (by omega), Nat.sub_self, show m - i = (m - (i + 1)) + 1 by omega, List.replicate_succ, List.set_cons_zero, List.take_add_one, bitsN_get n m i hi, List.append_assoc]
        rfl
      rw [e]
      exact ih (i + 1) (by omega) (by omega)
  have := key m 0 (by omega) (by omega)
  simpa using this
def hasA (c : List Int) (a : Int) : Bool := c.any fun x => decide (absP x = a)
def hasAtom (list : List (List Int)) (a : Int) : Bool := list.any fun c => hasA c a
def marksF (m : Nat) (p : Nat → Bool) : List Bool := (List.range m).map p
theorem marksF_len (m : Nat) (p : Nat → Bool) : (marksF m p).length = m := by simp [marksF]
theorem marksF_congr {m : Nat} {p q : Nat → Bool} (h : ∀ i, i < m → p i = q i) : marksF m p = marksF m q := List.map_congr_left fun i hi => h i (List.mem_range.1 hi)
theorem marksF_get {m : Nat} {p : Nat → Bool} {i : Nat} (h : i < m) : (marksF m p).getD i false = p i := by
  unfold marksF
  rw [List.getD_eq_getElem?_getD, List.getElem?_map, List.getElem?_range h]
  rfl
theorem marksF_set {m : Nat} {p : Nat → Bool} {x : Int} (hx : 0 ≤ x ∧ x < m) : (marksF m p).set x.toNat true = marksF m fun i => p i || decide ((i : Int) = x) := by
  apply List.ext_getElem
  · simp [marksF]
  · intro i h1 h2
    rw [List.getElem_set]
    simp only [marksF, List.getElem_map, List.getElem_range]
    by_cases e : x.toNat = i
    · rw [if_pos e]
      have : (i : Int) = x := by omega
      simp [this]
    · rw [if_neg e]
      have : ¬ (i : Int) = x := by omega
      simp [this]
theorem marksF_nil (m : Nat) : List.replicate m false = marksF m fun _ => false := by
  unfold marksF
  rw [eq_comm, List.eq_replicate_iff]
  exact ⟨by simp, fun b hb => by obtain ⟨i, _, rfl⟩ := List.mem_map.1 hb; rfl⟩
theorem hasA_take {c : List Int} {j : Nat} (h : j < c.length) (a : Int) : hasA (c.take (j + 1)) a = (hasA (c.take j) a || decide (a = absP c[j])) := by
  unfold hasA
  rw [List.take_succ_eq_append_getElem h, List.any_append]
  simp [eq_comm]
theorem hasAtom_snoc (l : List (List Int)) (c : List Int) (a : Int) : hasAtom (l ++ [c]) a = (hasAtom l a || hasA c a) := by
  unfold hasAtom
  rw [List.any_append]
  simp
theorem impl_atomsIn_ev {atoms : Nat} {list : List (List Int)} (ha : atoms ≤ 700) (hl : list.length ≤ 1048576) (hx : ∀ c ∈ list, c.length ≤ 1048576) (hL : ∀ c ∈ list, ∀ x ∈ c, litOk atoms x = true) : Ev (fun k => impl_atomsIn.f k (atoms : Int) list) (marksF (atoms + 1) fun i => hasAtom list (i : Int)) := by
  unfold impl_atomsIn.f
  rw [wrap_in (x := (atoms : Int) + 1) (by omega) (by omega)]
  refine ev_pos (by omega) (ev_pos (by omega) ?_)
  have key : ∀ d n : Nat, list.length - n = d → n ≤ list.length → Ev (fun k => impl_atomsIn.l0 k (marksF (atoms + 1) fun i => hasAtom (list.take n) (i : Int)) list (list.length : Int) (n : Int)) (marksF (atoms + 1) fun i => hasAtom list (i : Int)) := by
    intro d
    induction d with
    | zero =>
      intro n g1 g2
      have : n = list.length := by omega
      subst this
      rw [List.take_length]
      refine Ev.step (fun k => by rw [impl_atomsIn.l0]) ?_
      exact ev_neg (by omega) (ev_ret _)
    | succ d ih =>
      intro n g1 g2
      have hn : n < list.length := by omega
      obtain ⟨c, hgc⟩ : ∃ c, list[n]? = some c := ⟨_, List.getElem?_eq_getElem hn⟩
      have hcm : c ∈ list := List.mem_of_getElem? hgc
      have hcl := hx c hcm
      have htk : list.take (n + 1) = list.take n ++ [c] := by rw [List.take_add_one, hgc]; rfl
      have hrd : rd_Lint list (n : Int) = c := getD_of hgc
      refine Ev.step (fun k => by rw [impl_atomsIn.l0, hrd]) ?_
      refine ev_pos (by omega) (ev_pos (by omega) (ev_pos (by omega) ?_))
      have inner : ∀ d j : Nat, c.length - j = d → j ≤ c.length → Ev (fun k => impl_atomsIn.l1 k (marksF (atoms + 1) fun i => hasAtom (list.take n) (i : Int) || hasA (c.take j) (i : Int)) list (list.length : Int) (n : Int) c (c.length : Int) (j : Int)) (marksF (atoms + 1) fun i => hasAtom list (i : Int)) := by
        intro d
        induction d with
        | zero =>
          intro j f1 f2
          have : j = c.length := by omega
          subst this
          refine Ev.step (fun k => by rw [impl_atomsIn.l1, wrap_nat hn (by omega)]) ?_
          refine ev_neg (by omega) ?_
          have := ih (n + 1) (by omega) (by omega)
          rw [htk] at this
          refine ev_eq ?_ rfl
          rw [List.take_length]
          simpa only [hasAtom_snoc] using this
        | succ d ih2 =>
          intro j f1 f2
          have hj : j < c.length := by omega
          have hlit := litOk_in (hL c hcm c[j] (List.getElem_mem hj))
          have hA := abs_le (n := c[j])
          refine Ev.step (fun k => by rw [impl_atomsIn.l1, rd_at hj, impl_atomOf_eq (by omega), wrap_nat hj (by omega)]) ?_
          refine ev_pos (by omega) (ev_pos (by omega) (ev_pos (by omega) (ev_bind (ev_ret _) (ev_pos (by omega) (ev_pos (by rw [marksF_len]; omega) ?_)))))
          rw [marksF_set (by omega)]
          have := ih2 (j + 1) (by omega) (by omega)
          simpa only [hasA_take hj, Bool.or_assoc] using this
      have := inner c.length 0 (by omega) (by omega)
      simpa [hasA] using this
  have := key list.length 0 (by omega) (by omega)
  rw [show ((atoms : Int) + 1).toNat = atoms + 1 by omega, marksF_nil]
  simpa [hasAtom] using this
theorem spec_l4List_F {m : Nat} {p : Nat → Bool} (hm : m ≤ 1048576) : Ev (fun k => spec_l4List.f k (marksF m p)) (pickP p m) := by
  unfold spec_l4List.f
  refine ev_pick (fun k s i => spec_l4List.l0 k (marksF m p) s i) p m (fun s hs => ?_) (fun n s R hn hs ih => ?_)
  · refine Ev.step (fun k => by rw [spec_l4List.l0]) ?_
    exact ev_neg (by rw [marksF_len]; omega) (ev_ret _)
  · have hr : rdOf false (marksF m p) (n : Int) = p n := marksF_get hn
    refine Ev.step (fun k => by rw [spec_l4List.l0, hr, wrap_nat hn (by omega)]) ?_
    refine ev_pos (by rw [marksF_len]; omega) (ev_pos (by omega) ?_)
    by_cases e : p n = true
    · rw [if_pos e] at ih
      exact ev_pos e (ev_pos (by omega) ih)
    · rw [if_neg e] at ih
      exact ev_neg e ih
theorem spec_AtomsOf_ev {atoms : Nat} {list : List (List Int)} {a b : Nat} (h : clausesP (atoms : Int) list = true) (hx : ∀ c ∈ list, c.length ≤ 1048576) (hab : a ≤ b) (hb : b ≤ list.length) : Ev (fun k => spec_AtomsOf.f k (atoms : Int) list (a : Int) (b : Int)) (pickP (fun i => hasAtom ((list.take b).drop a) (i : Int)) (atoms + 1)) := by
  obtain ⟨ha, h2, hL⟩ := clausesP_and h
  have hV := spec_ClausesValid_ev (atoms : Int) list (by omega) (fun c hc => by have := hx c hc; omega)
  rw [h] at hV
  unfold spec_AtomsOf.f
  rw [spec_l1In_eq]
  refine ev_bind hV (ev_pos rfl (ev_bind (ev_ret _) (ev_pos (inR_iff.2 (by omega)) (Ev.step (fun k => by rw [spec_AtomsOf.j0, wrap_in (x := (atoms : Int) + 1) (by omega) (by omega)]) (ev_neg (by simp; omega) (ev_pos (by omega) (ev_pos (by omega) ?_)))))))
  have key : ∀ d n : Nat, b - n = d → a ≤ n → n ≤ b → Ev (fun k => spec_AtomsOf.l0 k (b : Int) (marksF (atoms + 1) fun i => hasAtom ((list.take n).drop a) (i : Int)) (n : Int) (atoms : Int) list) (pickP (fun i => hasAtom ((list.take b).drop a) (i : Int)) (atoms + 1)) := by
    intro d
    induction d with
    | zero =>
      intro n g1 g0 g2
      have : n = b := by omega
      subst this
      refine Ev.step (fun k => by rw [spec_AtomsOf.l0]) ?_
      exact ev_neg (by omega) (ev_bind (spec_l4List_F (by omega)) (ev_ret _))
    | succ d ih =>
      intro n g1 g0 g2
      have hn : n < list.length := by omega
      obtain ⟨c, hgc⟩ : ∃ c, list[n]? = some c := ⟨_, List.getElem?_eq_getElem hn⟩
      have hcm : c ∈ list := List.mem_of_getElem? hgc
      have hcl := hx c hcm
      have htk : (list.take (n + 1)).drop a = (list.take n).drop a ++ [c] := by
        rw [List.take_add_one, hgc, List.drop_append_of_le_length (by rw [List.length_take]; omega)]; rfl
      have hrd : rd_Lint list (n : Int) = c := getD_of hgc
      refine Ev.step (fun k => by rw [spec_AtomsOf.l0]) ?_
      refine ev_pos (by omega) ?_
      have inner : ∀ d j : Nat, c.length - j = d → j ≤ c.length → Ev (fun k => spec_AtomsOf.l1 k (b : Int) (marksF (atoms + 1) fun i => hasAtom ((list.take n).drop a) (i : Int) || hasA (c.take j) (i : Int)) (n : Int) (j : Int) (atoms : Int) list) (pickP (fun i => hasAtom ((list.take b).drop a) (i : Int)) (atoms + 1)) := by
        intro d
        induction d with
        | zero =>
          intro j f1 f2
          have : j = c.length := by omega
          subst this
          refine Ev.step (fun k => by rw [spec_AtomsOf.l1, hrd, wrap_nat hn (by omega)]) ?_
          refine ev_pos (by omega) (ev_pos (by omega) (ev_neg (by omega) ?_))
          have := ih (n + 1) (by omega) (by omega) (by omega)
          rw [htk] at this
          rw [List.take_length]
          simpa only [hasAtom_snoc] using this
        | succ d ih2 =>
          intro j f1 f2
          have hj : j < c.length := by omega
          have hlit := litOk_in (hL c hcm c[j] (List.getElem_mem hj))
          have hA := abs_le (n := c[j])
          refine Ev.step (fun k => by rw [spec_AtomsOf.l1, hrd, rd_at hj, spec_l11Abs_eq (by omega), wrap_nat hj (by omega)]) ?_
          refine ev_pos (by omega) (ev_pos (by omega) (ev_pos (by omega) (ev_pos (by omega) (ev_bind (ev_ret _) (ev_pos (by omega) (ev_pos (by rw [marksF_len]; omega) ?_))))))
          rw [marksF_set (by omega)]
          have := ih2 (j + 1) (by omega) (by omega)
          simpa only [hasA_take hj, Bool.or_assoc] using this
      have := inner c.length 0 (by omega) (by omega)
      simpa [hasA] using this
  have := key (b - a) a rfl (Nat.le_refl _) hab
  rw [show ((atoms : Int) + 1).toNat = atoms + 1 by omega, marksF_nil]
  simpa [hasAtom] using this
theorem spec_l2Has_of (a : List Int) (x : Int) (h : a.length ≤ 1099511627776) : Ev (fun k => spec_l2Has.f k a x) (decide (x ∈ a)) := by
  unfold spec_l2Has.f
  have key : ∀ d n : Nat, a.length - n = d → n ≤ a.length → Ev (fun k => spec_l2Has.l0 k a x (n : Int)) (decide (x ∈ a.drop n)) := by
    intro d
    induction d with
    | zero =>
      intro n h1 h2
      have : n = a.length := by omega
      subst this
      refine Ev.step (fun k => by rw [spec_l2Has.l0]) ?_
      exact ev_neg (by omega) (ev_eq (ev_ret _) (by simp))
    | succ d ih =>
      intro n h1 h2
      have hn : n < a.length := by omega
      rw [List.drop_eq_getElem_cons hn]
      refine Ev.step (fun k => by rw [spec_l2Has.l0, rd_at hn, wrap_nat hn (by omega)]) ?_
      refine ev_pos (by omega) (ev_pos (by omega) ?_)
      by_cases e : a[n] = x
      · exact ev_pos e (ev_eq (ev_ret _) (by rw [e]; simp))
      · exact ev_neg e (ev_eq (ih (n + 1) (by omega) (by omega)) (by simp only [List.drop_eq_getElem_cons hn, List.mem_cons, Ne.symm e, false_or]))
  have := key a.length 0 (by omega) (by omega)
  simpa using this
def sharedL (atoms : Nat) (list : List (List Int)) (first : Nat) : List Int := (pickP (fun i => hasAtom (list.take first) (i : Int)) (atoms + 1)).filter fun x => decide (x ∈ pickP (fun i => hasAtom (list.drop first) (i : Int)) (atoms + 1))
theorem sharedL_mem {atoms : Nat} {list : List (List Int)} {first : Nat} {a : Nat} (h : a < atoms + 1) : (a : Int) ∈ sharedL atoms list first ↔ (hasAtom (list.take first) (a : Int) && hasAtom (list.drop first) (a : Int)) = true := by
  unfold sharedL
  rw [List.mem_filter, decide_eq_true_eq, pickP_mem, pickP_mem, Bool.and_eq_true]
  constructor
  · rintro ⟨⟨i, _, h1, e1⟩, ⟨j, _, h2, e2⟩⟩
    obtain rfl : a = i := by omega
    obtain rfl : a = j := by omega
    exact ⟨h1, h2⟩
  · rintro ⟨h1, h2⟩
    exact ⟨⟨a, h, h1, rfl⟩, ⟨a, h, h2, rfl⟩⟩
theorem spec_SharedAtoms_ev {atoms : Nat} {list : List (List Int)} {first : Nat} (h : clausesP (atoms : Int) list = true) (hx : ∀ c ∈ list, c.length ≤ 1048576) (hf : first ≤ list.length) : Ev (fun k => spec_SharedAtoms.f k (atoms : Int) list (first : Int)) (sharedL atoms list first) := by
  obtain ⟨ha, h2, hL⟩ := clausesP_and h
  have h1 := spec_AtomsOf_ev h hx (Nat.zero_le first) hf
  have h3 := spec_AtomsOf_ev h hx hf (Nat.le_refl list.length)
  rw [List.drop_zero] at h1
  rw [List.take_length] at h3
  unfold spec_SharedAtoms.f sharedL
  refine ev_bind h1 (ev_bind h3 ?_)
  have hl1 := pickP_len (fun i => hasAtom (list.take first) (i : Int)) (atoms + 1)
  have hl2 := pickP_len (fun i => hasAtom (list.drop first) (i : Int)) (atoms + 1)
  generalize pickP (fun i => hasAtom (list.take first) (i : Int)) (atoms + 1) = A at *
  generalize pickP (fun i => hasAtom (list.drop first) (i : Int)) (atoms + 1) = B at *
  have key : ∀ d n : Nat, A.length - n = d → n ≤ A.length → ∀ s : List Int, s.length ≤ n → Ev (fun k => spec_SharedAtoms.l0 k s A B (n : Int)) (s ++ (A.drop n).filter fun x => decide (x ∈ B)) := by
    intro d
    induction d with
    | zero =>
      intro n g1 g2 s hs
      have : n = A.length := by omega
      subst this
      refine Ev.step (fun k => by rw [spec_SharedAtoms.l0]) ?_
      exact ev_neg (by omega) (ev_eq (ev_ret _) (by simp))
    | succ d ih =>
      intro n g1 g2 s hs
      have hn : n < A.length := by omega
      rw [List.drop_eq_getElem_cons hn]
      refine Ev.step (fun k => by rw [spec_SharedAtoms.l0, rd_at hn, wrap_nat hn (by omega)]) ?_
      refine ev_pos (by omega) (ev_pos (by omega) (ev_bind (spec_l2Has_of B _ (by omega)) ?_))
      by_cases e : A[n] ∈ B
      · rw [List.filter_cons_of_pos (by simpa using e)]
        refine ev_pos (by simpa using e) (ev_pos (by omega) (ev_eq (ih (n + 1) (by omega) (by omega) _ (by simp; omega)) (by simp)))
      · rw [List.filter_cons_of_neg (by simpa using e)]
        exact ev_neg (by simpa using e) (ih (n + 1) (by omega) (by omega) s (by omega))
  have := key A.length 0 (by omega) (by omega) [] (by simp)
  simpa using this
theorem shared_loop (atoms : Nat) (ha : atoms ≤ 700) (p q : Nat → Bool) : Ev (fun k => impl_shared.l0 k (marksF (atoms + 1) p) (marksF (atoms + 1) q) ((atoms + 1 : Nat) : Int) 0) (marksF (atoms + 1) fun i => p i && q i) := by
  have key : ∀ d n : Nat, atoms + 1 - n = d → n ≤ atoms + 1 → Ev (fun k => impl_shared.l0 k (marksF (atoms + 1) fun i => if i < n then p i && q i else p i) (marksF (atoms + 1) q) ((atoms + 1 : Nat) : Int) (n : Int)) (marksF (atoms + 1) fun i => p i && q i) := by
    intro d
    induction d with
    | zero =>
      intro n g1 g2
      refine Ev.step (fun k => by rw [impl_shared.l0]) ?_
      exact ev_neg (by omega) (ev_eq (ev_ret _) (marksF_congr fun i hi => by rw [if_pos (by omega)]))
    | succ d ih =>
      intro n g1 g2
      have hn : n < atoms + 1 := by omega
      have r1 : rdOf false (marksF (atoms + 1) fun i => if i < n then p i && q i else p i) (n : Int) = p n := by
        show List.getD _ _ _ = _
        rw [Int.toNat_natCast, marksF_get hn, if_neg (by omega)]
      have r2 : rdOf false (marksF (atoms + 1) q) (n : Int) = q n := marksF_get hn
      have st : ∀ b : Bool, b = (p n && q n) → (marksF (atoms + 1) fun i => if i < n then p i && q i else p i).set ((n : Int)).toNat b = marksF (atoms + 1) fun i => if i < n + 1 then p i && q i else p i := fun b hb => by
        apply List.ext_getElem
        · simp [marksF]
        · intro i h1 h2
          rw [List.getElem_set]
          simp only [marksF, List.getElem_map, List.getElem_range, Int.toNat_natCast]
          by_cases e : n = i
          · subst e
            rw [if_pos rfl, if_pos (by omega), hb]
          · rw [if_neg e]
            by_cases f : i < n
            · rw [if_pos f, if_pos (by omega)]
            · rw [if_neg f, if_neg (by omega)]
      refine Ev.step (fun k => by rw [impl_shared.l0, r1, r2, wrap_nat hn (by omega)]) ?_
      refine ev_pos (by omega) (ev_pos (by omega) (ev_pos (by rw [marksF_len]; omega) (ev_pos (by rw [marksF_len]; omega) ?_)))
      by_cases e : p n = true
      · refine ev_pos e ?_
        rw [st _ (by rw [e, Bool.true_and])]
        exact ih (n + 1) (by omega) (by omega)
      · refine ev_neg e ?_
        rw [Bool.not_eq_true] at e
        rw [st _ (by rw [e, Bool.false_and])]
        exact ih (n + 1) (by omega) (by omega)
  have := key (atoms + 1) 0 (by omega) (by omega)
  simpa using this
theorem impl_shared_ev {atoms : Nat} {list : List (List Int)} {first : Nat} (ha : atoms ≤ 700) (hl : list.length ≤ 1048576) (hx : ∀ c ∈ list, c.length ≤ 1048576) (hL : ∀ c ∈ list, ∀ x ∈ c, litOk atoms x = true) (hf : first ≤ list.length) : Ev (fun k => impl_shared.f k (atoms : Int) list (first : Int)) (marksF (atoms + 1) fun i => hasAtom (list.take first) (i : Int) && hasAtom (list.drop first) (i : Int)) := by
  have h1 : Ev (fun k => impl_atomsIn.f k (atoms : Int) (list.take first)) (marksF (atoms + 1) fun i => hasAtom (list.take first) (i : Int)) := impl_atomsIn_ev ha (by rw [List.length_take]; omega) (fun c hc => hx c (List.mem_of_mem_take hc)) (fun c hc => hL c (List.mem_of_mem_take hc))
  have h2 : Ev (fun k => impl_atomsIn.f k (atoms : Int) (list.drop first)) (marksF (atoms + 1) fun i => hasAtom (list.drop first) (i : Int)) := impl_atomsIn_ev ha (by rw [List.length_drop]; omega) (fun c hc => hx c (List.mem_of_mem_drop hc)) (fun c hc => hL c (List.mem_of_mem_drop hc))
  unfold impl_shared.f
  rw [Int.toNat_natCast]
  refine ev_pos (by omega) (ev_pos (by omega) (ev_bind h1 (ev_bind h2 ?_)))
  rw [marksF_len]
  exact shared_loop atoms ha _ _
theorem spec_NeedsInputs_ev {inputs : Nat} {gates : List IAnd} {e : Int} (h : circP (inputs : Int) gates = true) (he : edgeP (inputs : Int) gates e = true) : Ev (fun k => spec_NeedsInputs.f k (inputs : Int) gates e) (pickP (fun i => (reachP (inputs : Int) gates e).getD (1 + i) false) inputs) := by
  obtain ⟨h1, h2, h3⟩ := circP_and h
  have hC := spec_CircuitValid_ev (inputs : Int) gates
  rw [h] at hC
  have hlen := reachP_len (inputs := (inputs : Int)) (gates := gates) (e := e)
  unfold spec_NeedsInputs.f
  rw [spec_l7Edge_eq h, he]
  refine ev_bind (ev_ret _) (ev_bind hC (ev_pos rfl (ev_bind (ev_ret _) (Ev.step (fun k => by rw [spec_NeedsInputs.j0]) (ev_neg (by simp) (ev_bind (spec_l7Reach_ev h he) ?_))))))
  refine ev_pick (fun k s i => spec_NeedsInputs.l0 k s (reachP (inputs : Int) gates e) i (inputs : Int) gates) _ inputs (fun s hs => ?_) (fun n s R hn hs ih => ?_)
  · refine Ev.step (fun k => by rw [spec_NeedsInputs.l0]) ?_
    exact ev_neg (by omega) (ev_ret _)
  · have hw : wrap64 (1 + (n : Int)) = ((1 + n : Nat) : Int) := by rw [wrap_in (by omega) (by omega)]; omega
    have hr : rdOf false (reachP (inputs : Int) gates e) ((1 + n : Nat) : Int) = (reachP (inputs : Int) gates e).getD (1 + n) false := rfl
    refine Ev.step (fun k => by rw [spec_NeedsInputs.l0, hw, hr, wrap_nat hn (by omega)]) ?_
    clear hw
    refine ev_pos (by omega) (ev_pos (by omega) (ev_pos (by omega) ?_))
    by_cases c : (reachP (inputs : Int) gates e).getD (1 + n) false = true
    · rw [if_pos c] at ih
      exact ev_pos c (ev_pos (by omega) ih)
    · rw [if_neg c] at ih
      exact ev_neg c ih
theorem impl_trueIn_ev {atoms : Int} {list : List (List Int)} {bits : List Int} (ha : atoms ≤ 700) (hl : list.length ≤ 1048576) (hx : ∀ c ∈ list, c.length ≤ 1048576) (hL : ∀ c ∈ list, ∀ x ∈ c, litOk atoms x = true) (hb : (bits.length : Int) = atoms) : Ev (fun k => impl_trueIn.f k list bits) (trueP list bits) := by
  unfold impl_trueIn.f trueP
  rw [← all_any]
  refine ev_bind ?_ (ev_ret _)
  unfold slices_ContainsFunc_int_int_at_impl_trueIn_1.f slices_IndexFunc_int_int_at_impl_trueIn_1.f
  refine ev_contains (da := ([] : List Int)) (fun k i => slices_IndexFunc_int_int_at_impl_trueIn_1.l1 k i list bits) (fun k c => impl_trueIn_1.f k c bits) list (fun c => !c.any (litP bits)) (by omega) (fun k i => by rw [slices_IndexFunc_int_int_at_impl_trueIn_1.l1]; rfl) (fun c hc => ?_)
  unfold impl_trueIn_1.f
  refine ev_bind ?_ (ev_ret _)
  unfold slices_ContainsFunc_int_int_at_impl_trueIn_1_1.f slices_IndexFunc_int_int_at_impl_trueIn_1_1.f
  refine ev_contains (da := (0 : Int)) (fun k i => slices_IndexFunc_int_int_at_impl_trueIn_1_1.l1 k i c bits) (fun k x => impl_trueIn_1_1.f k x bits) c (litP bits) (by have := hx c hc; omega) (fun k i => by rw [slices_IndexFunc_int_int_at_impl_trueIn_1_1.l1]; rfl) (fun x hxc => ?_)
  unfold impl_trueIn_1_1.f
  exact ev_bind (ev_fix (impl_litTrue_eq (hL c hc x hxc) ha hb)) (ev_ret _)
theorem clausesP_sub {atoms : Int} {list l2 : List (List Int)} (h : clausesP atoms list = true) (hs : l2.length ≤ list.length) (hm : ∀ c ∈ l2, c ∈ list) : clausesP atoms l2 = true := by
  unfold clausesP at h ⊢
  simp only [Bool.and_eq_true, decide_eq_true_eq, List.all_eq_true] at h ⊢
  exact ⟨h.1, by omega, fun c hc => h.2.2 c (hm c hc)⟩
theorem shl_all : ∀ m : Fin 13, shl .i64 1 (m.val : Int) = ((2 ^ m.val : Nat) : Int) := by decide +kernel
theorem shl_nat {m : Nat} (h : m ≤ 12) : shl .i64 1 (m : Int) = ((2 ^ m : Nat) : Int) := shl_all ⟨m, by omega⟩
theorem ev_allN (L : Nat → Int → Option Bool) (p : Nat → Bool) (m : Nat) (b : Bool) (hend : Ev (fun k => L k (m : Int)) b) (hstep : ∀ n, n < m → ∀ R, Ev (fun k => L k ((n + 1 : Nat) : Int)) R → Ev (fun k => L k (n : Int)) (p n && R)) : Ev (fun k => L k 0) ((List.range m).all p && b) := by
  have key : ∀ d n : Nat, m - n = d → n ≤ m → Ev (fun k => L k (n : Int)) (((List.range m).drop n).all p && b) := by
    intro d
    induction d with
    | zero =>
      intro n g1 g2
      have : n = m := by omega
      subst this
      rw [List.drop_eq_nil_of_le (by simp)]
      exact hend
    | succ d ih =>
      intro n g1 g2
      have hn : n < (List.range m).length := by rw [List.length_range]; omega
      rw [List.drop_eq_getElem_cons hn, List.all_cons, List.getElem_range, Bool.and_assoc]
      exact hstep n (by omega) _ (ih (n + 1) (by omega) (by omega))
  have := key m 0 (by omega) (by omega)
  rw [List.drop_zero] at this
  exact this
def btwP (atoms inputs : Nat) (list : List (List Int)) (first : Nat) (gates : List IAnd) (e : Int) : Bool :=
  (List.range inputs).all (fun i => !(reachP (inputs : Int) gates e).getD (1 + i) false || (hasAtom (list.take first) ((i + 1 : Nat) : Int) && hasAtom (list.drop first) ((i + 1 : Nat) : Int))) &&
  ((List.range (2 ^ inputs)).all (fun n => if valE (runC (0 :: bitsN n inputs) gates) e = 1 then !trueP (list.drop first) (bitsN n inputs) else !trueP (list.take first) (bitsN n inputs)) && true)
theorem bits0 {v : List Int} (h : areBits v = true) : areBits (0 :: v) = true := by
  unfold areBits at h ⊢
  rw [List.all_cons, h]
  rfl
theorem pow12 : ∀ m : Fin 13, 2 ^ m.val ≤ 4096 := by decide
theorem spec_Lies_ev {inputs : Nat} {list : List (List Int)} {first : Nat} {gates : List IAnd} {e : Int} (h : clausesP (inputs : Int) list = true) (hi : inputs ≤ 12) (hx : ∀ c ∈ list, c.length ≤ 1048576) (hf : first ≤ list.length) (hc : circP (inputs : Int) gates = true) (he : edgeP (inputs : Int) gates e = true) :
    Ev (fun k => spec_LiesBetween.f k (inputs : Int) list (first : Int) (inputs : Int) gates e) (btwP inputs inputs list first gates e) := by
  obtain ⟨ha, h2, hL⟩ := clausesP_and h
  obtain ⟨c1, c2, c3⟩ := circP_and hc
  have hV := spec_ClausesValid_ev (inputs : Int) list (by omega) (fun c hc => by have := hx c hc; omega)
  rw [h] at hV
  have hS : Ev (fun k => spec_l18Split.f k (inputs : Int) list (first : Int)) true := by
    unfold spec_l18Split.f
    rw [spec_l1In_eq]
    exact ev_bind hV (ev_pos rfl (ev_pos (by omega) (ev_bind (ev_ret _) (ev_eq (ev_ret _) (inR_iff.2 (by omega))))))
  have hC := spec_CircuitValid_ev (inputs : Int) gates
  rw [hc] at hC
  have hN := spec_NeedsInputs_ev hc he
  have hSh := spec_SharedAtoms_ev h hx hf
  have hlen := pickP_len (fun i => (reachP (inputs : Int) gates e).getD (1 + i) false) inputs
  have hshl : (sharedL inputs list first).length ≤ 1048576 := by
    unfold sharedL
    refine Nat.le_trans (List.length_filter_le _ _) ?_
    have := pickP_len (fun i => hasAtom (list.take first) (i : Int)) (inputs + 1)
    omega
  unfold spec_LiesBetween.f btwP
  rw [spec_l7Edge_eq hc, he]
  refine ev_bind hS (ev_pos rfl (ev_bind hC (ev_pos rfl (ev_neg (by simp) (ev_bind (ev_ret _) (ev_pos rfl (ev_bind hSh (ev_bind hN ?_))))))))
  have hneeds : (List.range inputs).all (fun i => !(reachP (inputs : Int) gates e).getD (1 + i) false || (hasAtom (list.take first) ((i + 1 : Nat) : Int) && hasAtom (list.drop first) ((i + 1 : Nat) : Int))) = (pickP (fun i => (reachP (inputs : Int) gates e).getD (1 + i) false) inputs).all fun x => decide (wrap64 (x + 1) ∈ sharedL inputs list first) := by
    rw [Bool.eq_iff_iff, List.all_eq_true, List.all_eq_true]
    constructor
    · intro H x hxm
      obtain ⟨i, _, h1, e1⟩ := pickP_mem.1 hxm
      have hi2 : i < inputs := by assumption
      have := H i (List.mem_range.2 hi2)
      subst e1
      rw [h1] at this
      rw [wrap_in (by omega) (by omega), decide_eq_true_eq]
      have k1 := (sharedL_mem (list := list) (first := first) (a := i + 1) (atoms := inputs) (by omega)).2 (by simpa using this)
      exact_mod_cast k1
    · intro H i hi2
      have hi3 := List.mem_range.1 hi2
      by_cases p : (reachP (inputs : Int) gates e).getD (1 + i) false = true
      · have := H (i : Int) (pickP_mem.2 ⟨i, hi3, p, rfl⟩)
        rw [wrap_in (by omega) (by omega), decide_eq_true_eq] at this
        have k1 := (sharedL_mem (list := list) (first := first) (a := i + 1) (atoms := inputs) (by omega)).1 (by exact_mod_cast this)
        rw [k1, Bool.or_true]
      · rw [Bool.not_eq_true] at p
        rw [p]; rfl
  rw [hneeds]
  clear hneeds
  generalize pickP (fun i => (reachP (inputs : Int) gates e).getD (1 + i) false) inputs = needs at *
  have hpow := pow12 ⟨inputs, by omega⟩
  dsimp only at hpow
  refine ev_all (da := (0 : Int)) (fun k i => spec_LiesBetween.l1 k i (inputs : Int) list (first : Int) (inputs : Int) gates e (sharedL inputs list first) needs) (fun k x => spec_l2Has.f k (sharedL inputs list first) (wrap64 (x + 1))) needs _ (fun k => spec_LiesBetween.l2 k 0 (inputs : Int) list (first : Int) (inputs : Int) gates e) _ (by omega) ?_ (fun k i => ?_) (fun x hxm => spec_l2Has_of _ _ (by omega))
  · refine ev_allN (fun k n => spec_LiesBetween.l2 k n (inputs : Int) list (first : Int) (inputs : Int) gates e) _ (2 ^ inputs) true ?_ (fun n hn R hR => ?_)
    · refine Ev.step (fun k => by rw [spec_LiesBetween.l2, shl_nat hi]) ?_
      exact ev_pos (by omega) (ev_neg (by omega) (ev_ret _))
    · have hlb := bitsN_len n inputs
      have hbb := bitsN_bits n inputs
      have hv := spec_l6Value_nat (n := n) (m := inputs) (by omega) (by omega)
      have hr := spec_l7Run_ev hc (bits := bitsN n inputs) (by omega) hbb
      obtain ⟨r1, r2⟩ := runC_ok (0 :: bitsN n inputs) gates (bits0 hbb)
      rw [List.length_cons, hlb] at r2
      have hee := inR_iff.1 (show inR e 0 (2 * (1 + (inputs : Int) + gates.length) - 1) = true from he)
      have hof := spec_l7Of_eq (v := runC (0 :: bitsN n inputs) gates) (e := e) r1 (by omega) (by omega) (by omega)
      have hT := spec_TrueIn_ev (atoms := (inputs : Int)) (list := list.take first) (bits := bitsN n inputs) (clausesP_sub h (by rw [List.length_take]; omega) fun c hc => List.mem_of_mem_take hc) (fun c hc => hx c (List.mem_of_mem_take hc)) (by omega) hbb
      have hD := spec_TrueIn_ev (atoms := (inputs : Int)) (list := list.drop first) (bits := bitsN n inputs) (clausesP_sub h (by rw [List.length_drop]; omega) fun c hc => List.mem_of_mem_drop hc) (fun c hc => hx c (List.mem_of_mem_drop hc)) (by omega) hbb
      have hbit := valE_bit r1 e
      generalize hq : valE (runC (0 :: bitsN n inputs) gates) e = v at *
      refine Ev.step (fun k => by rw [spec_LiesBetween.l2, shl_nat hi, Int.toNat_natCast, wrap_nat (n := n) (m := 2 ^ inputs) hn (by omega)]) ?_
      refine ev_pos (by omega) (ev_pos (by omega) (ev_bind hv (ev_bind hr (ev_bind (ev_fix hof) ?_))))
      rcases hbit with z | z
      · rw [if_neg (by omega)]
        refine ev_pos z (ev_bind hT ?_)
        by_cases t : trueP (list.take first) (bitsN n inputs) = true
        · exact ev_pos t (ev_eq (ev_ret _) (by rw [t]; rfl))
        · rw [Bool.not_eq_true] at t
          exact ev_neg (by simp [t]) (ev_neg (by omega) (ev_eq hR (by rw [t]; rfl)))
      · rw [if_pos z]
        refine ev_neg (by omega) (ev_pos z (ev_bind hD ?_))
        by_cases t : trueP (list.drop first) (bitsN n inputs) = true
        · exact ev_pos t (ev_eq (ev_ret _) (by rw [t]; rfl))
        · rw [Bool.not_eq_true] at t
          exact ev_neg (by simp [t]) (ev_eq hR (by rw [t]; rfl))
  · rw [spec_LiesBetween.l1]
    have g1 : (0 : Int) ≤ (first : Int) := by omega
    have g2 : (first : Int) ≤ (list.length : Int) := by omega
    by_cases c : i < (needs.length : Int)
    · rw [if_pos c, if_pos c, if_pos c]; rfl
    · rw [if_neg c, if_neg c, if_pos g1, if_pos g2, if_pos g1, if_pos g2]
theorem impl_Lies_ev {inputs : Nat} {list : List (List Int)} {first : Nat} {gates : List IAnd} {e : Int} (h : clausesP (inputs : Int) list = true) (hi : inputs ≤ 12) (hx : ∀ c ∈ list, c.length ≤ 1048576) (hf : first ≤ list.length) (hc : circP (inputs : Int) gates = true) (he : edgeP (inputs : Int) gates e = true) :
    Ev (fun k => impl_LiesBetween.f k (inputs : Int) list (first : Int) (inputs : Int) gates e) (btwP inputs inputs list first gates e) := by
  obtain ⟨ha, h2, hL⟩ := clausesP_and h
  obtain ⟨c1, c2, c3⟩ := circP_and hc
  have hV := impl_ClausesValid_ev (inputs : Int) list (by omega) (fun c hc => by have := hx c hc; omega)
  rw [h] at hV
  have hS : Ev (fun k => impl_betweenOk.f k (inputs : Int) list (first : Int)) true := by
    unfold impl_betweenOk.f
    rw [impl_in_eq]
    exact ev_bind hV (ev_pos rfl (ev_pos (by omega) (ev_bind (ev_ret _) (ev_eq (ev_ret _) (inR_iff.2 (by omega))))))
  have hC := impl_CircuitValid_ev (inputs : Int) gates
  rw [hc] at hC
  have hN := impl_needs_ev hc he
  have hSh := impl_shared_ev (atoms := inputs) (list := list) (first := first) (by omega) (by omega) hx hL hf
  have hrl := reachP_len (inputs := (inputs : Int)) (gates := gates) (e := e)
  unfold impl_LiesBetween.f btwP
  rw [impl_isEdge_eq hc, he, wrap_in (x := 1 + (inputs : Int)) (by omega) (by omega)]
  refine ev_bind hS (ev_pos rfl (ev_bind hC (ev_pos rfl (ev_neg (by simp) (ev_bind (ev_ret _) (ev_pos rfl (ev_bind hSh (ev_bind hN (ev_pos (by omega) (ev_pos (by omega) ?_))))))))))
  generalize reachP (inputs : Int) gates e = reach at *
  have hpow := pow12 ⟨inputs, by omega⟩
  dsimp only at hpow
  have hrow : ((reach.take (1 + (inputs : Int)).toNat).drop (1 : Int).toNat).length = inputs := by
    rw [List.length_drop, List.length_take]; omega
  have hget : ∀ i, i < inputs → rdOf false ((reach.take (1 + (inputs : Int)).toNat).drop (1 : Int).toNat) (i : Int) = reach.getD (1 + i) false := by
    intro i hi2
    show List.getD _ _ _ = _
    rw [List.getD_eq_getElem?_getD, List.getD_eq_getElem?_getD, List.getElem?_drop, List.getElem?_take_of_lt (by simp; omega)]
    rfl
  have hw : wrap64 (1 + (inputs : Int)) = 1 + (inputs : Int) := wrap_in (by omega) (by omega)
  refine ev_allN (fun k n => impl_LiesBetween.l1 k n (inputs : Int) list (first : Int) (inputs : Int) gates e _ reach) _ inputs _ ?_ (fun n hn R hR => ?_)
  · refine Ev.step (fun k => by rw [impl_LiesBetween.l1, hw, hrow]) ?_
    clear hw
    refine ev_neg (by omega) (ev_pos (by omega) ?_)
    refine ev_allN (fun k n => impl_LiesBetween.l2 k n (inputs : Int) list (first : Int) (inputs : Int) gates e) _ (2 ^ inputs) true ?_ (fun n hn R hR => ?_)
    · refine Ev.step (fun k => by rw [impl_LiesBetween.l2, shl_nat hi]) ?_
      exact ev_neg (by omega) (ev_ret _)
    · have hlb := bitsN_len n inputs
      have hbb := bitsN_bits n inputs
      have hv := impl_valueBits_nat (n := n) (m := inputs) (by omega) (by omega)
      have hr := impl_values_ev hc (bits := bitsN n inputs) (by omega) hbb
      obtain ⟨r1, r2⟩ := runC_ok (0 :: bitsN n inputs) gates (bits0 hbb)
      rw [List.length_cons, hlb] at r2
      have hee := inR_iff.1 (show inR e 0 (2 * (1 + (inputs : Int) + gates.length) - 1) = true from he)
      have hof := impl_edgeOf_eq (v := runC (0 :: bitsN n inputs) gates) (e := e) r1 (by omega) (by omega) (by omega)
      have hT := impl_trueIn_ev (atoms := (inputs : Int)) (list := list.take first) (bits := bitsN n inputs) (by omega) (by rw [List.length_take]; omega) (fun c hc => hx c (List.mem_of_mem_take hc)) (fun c hc => hL c (List.mem_of_mem_take hc)) (by omega)
      have hD := impl_trueIn_ev (atoms := (inputs : Int)) (list := list.drop first) (bits := bitsN n inputs) (by omega) (by rw [List.length_drop]; omega) (fun c hc => hx c (List.mem_of_mem_drop hc)) (fun c hc => hL c (List.mem_of_mem_drop hc)) (by omega)
      have hbit := valE_bit r1 e
      generalize hq : valE (runC (0 :: bitsN n inputs) gates) e = v at *
      refine Ev.step (fun k => by rw [impl_LiesBetween.l2, shl_nat hi, Int.toNat_natCast, wrap_nat (n := n) (m := 2 ^ inputs) hn (by omega)]) ?_
      refine ev_pos (by omega) (ev_bind hv (ev_bind hr (ev_bind (ev_fix hof) ?_)))
      rcases hbit with z | z
      · rw [if_neg (show ¬ v = 1 by omega)]
        refine ev_neg (by omega) (ev_pos (by omega) (ev_pos (by omega) (ev_bind hT ?_)))
        by_cases t : trueP (list.take first) (bitsN n inputs) = true
        · exact ev_pos t (ev_eq (ev_ret _) (by rw [t]; rfl))
        · rw [Bool.not_eq_true] at t
          exact ev_neg (by simp [t]) (ev_neg (by omega) (ev_eq hR (by rw [t]; rfl)))
      · rw [if_pos z]
        refine ev_pos z (ev_pos z (ev_pos (by omega) (ev_pos (by omega) (ev_bind hD ?_))))
        by_cases t : trueP (list.drop first) (bitsN n inputs) = true
        · exact ev_pos t (ev_eq (ev_ret _) (by rw [t]; rfl))
        · rw [Bool.not_eq_true] at t
          exact ev_neg (by simp [t]) (ev_eq hR (by rw [t]; rfl))
  · have hg2 := hget n hn
    have hm : rdOf false (marksF (inputs + 1) fun i => hasAtom (list.take first) (i : Int) && hasAtom (list.drop first) (i : Int)) ((n + 1 : Nat) : Int) = (hasAtom (list.take first) ((n + 1 : Nat) : Int) && hasAtom (list.drop first) ((n + 1 : Nat) : Int)) := marksF_get (by omega)
    refine Ev.step (fun k => by rw [impl_LiesBetween.l1, hw, hrow, hg2, wrap_nat (n := n) (m := inputs) hn (by omega), hm]) ?_
    clear hw
    refine ev_pos (by omega) (ev_pos (by omega) (ev_pos (by omega) ?_))
    by_cases p : reach.getD (1 + n) false = true
    · rw [p, Bool.not_true, Bool.false_or]
      refine ev_pos rfl (ev_pos (by omega) (ev_pos (by rw [marksF_len]; omega) ?_))
      by_cases q : (hasAtom (list.take first) ((n + 1 : Nat) : Int) && hasAtom (list.drop first) ((n + 1 : Nat) : Int)) = true
      · rw [q]
        exact ev_pos rfl (ev_eq hR (by simp))
      · rw [Bool.not_eq_true] at q
        rw [q]
        exact ev_neg (by simp) (ev_eq (ev_ret _) (by simp))
    · rw [Bool.not_eq_true] at p
      rw [p, Bool.not_false, Bool.true_or, Bool.true_and]
      exact ev_neg (by simp [p]) hR
end Go.Proofs.Ytaajnneigmgikaa.PA
end
section
namespace Go.Proofs.Ytaajnneigmgikaa.PA
open Go.RowKit Go.Proofs.YtaajnneigmgikaaW.PrintWords
def laws_FnExactLiesBetween.PureS : Prop := ∀ (a0_0 : Int) (l0_1 : List (List Int)) (a1 : Int) (a2_0 : Int) (l2_1 : List LAnd) (a3 : Int), (Lit.int .i64 a0_0).wf = true → (l0_1.length ≤ 9223372036854775807 ∧ ∀ x0 ∈ l0_1, (x0.length ≤ 9223372036854775807 ∧ ∀ x1 ∈ x0, (Lit.int .i64 x1).wf = true)) → (Lit.int .i64 a1).wf = true → (Lit.int .i64 a2_0).wf = true → (l2_1.length ≤ 9223372036854775807 ∧ ∀ x0 ∈ l2_1, okLAnd x0) → (Lit.int .i64 a3).wf = true → ∃ k, laws_FnExactLiesBetween.f k a0_0 l0_1 a1 a2_0 l2_1 a3 = some true
end Go.Proofs.Ytaajnneigmgikaa.PA
end
section
set_option linter.unusedVariables false
set_option linter.unusedSimpArgs false
namespace Go.Proofs.Ytaajnneigmgikaa.PA
open Go.RowKit Go.Proofs.YtaajnneigmgikaaW.PrintWords
def cAnd (x : LAnd) : IAnd := ⟨x.f0, x.f1⟩
theorem laws_toAndS_ev (l : List LAnd) (h : l.length ≤ 1048576) : Ev (fun k => laws_toAndS.f k l) (l.map cAnd) := by
  unfold laws_toAndS.f
  refine ev_pos (by omega) (ev_pos (by omega) ?_)
  have := ev_fill (da := zLAnd) (db := zIAnd) (fun k ys i => laws_toAndS.l0 k l ys i) (fun k x => (laws_toAnd.f x.f0 x.f1).bind fun b => some (⟨b.1, b.2⟩ : IAnd)) l cAnd (by omega) (fun k ys i => by
    rw [laws_toAndS.l0]
    by_cases c : i < (l.length : Int)
    · rw [if_pos c, if_pos c]
      by_cases d : 0 ≤ i
      · rw [if_pos d, if_pos d]; rfl
      · rw [if_neg d, if_neg d]
    · rw [if_neg c, if_neg c]) (fun x hx => ev_ret _)
  rw [Int.toNat_natCast]
  exact this
theorem laws_eqAndS_ev (l : List IAnd) (h : l.length ≤ 1048576) : Ev (fun k => laws_eqAndS.f k l l) true := by
  unfold laws_eqAndS.f
  refine ev_pos rfl ?_
  exact ev_same (da := zIAnd) (fun k i => laws_eqAndS.l0 k l l i) (fun k x y => laws_eqAnd.f x.f0 x.f1 y.f0 y.f1) l l (by omega) rfl (fun k i => by rw [laws_eqAndS.l0]; rfl) (fun x hx => by
    unfold laws_eqAnd.f
    exact ev_fix (by simp))
theorem Lies_both (atoms : Int) (list : List (List Int)) (first inputs : Int) (gates : List IAnd) (e : Int) (h : list.length ≤ 1048576 ∧ ∀ x ∈ list, x.length ≤ 1048576) : ∃ b, Ev (fun k => spec_LiesBetween.f k atoms list first inputs gates e) b ∧ Ev (fun k => impl_LiesBetween.f k atoms list first inputs gates e) b := by
  have s1 := spec_ClausesValid_ev atoms list (by omega) (fun c hc => by have := h.2 c hc; omega)
  have i1 := impl_ClausesValid_ev atoms list (by omega) (fun c hc => by have := h.2 c hc; omega)
  have s2 := spec_CircuitValid_ev inputs gates
  have i2 := impl_CircuitValid_ev inputs gates
  generalize hq : (clausesP atoms list && (decide (atoms ≤ 12) && inR first 0 (list.length : Int))) = ok
  have s3 : Ev (fun k => spec_l18Split.f k atoms list first) ok := by
    unfold spec_l18Split.f
    rw [spec_l1In_eq]
    refine ev_bind s1 ?_
    by_cases c : clausesP atoms list = true
    · rw [c, Bool.true_and] at hq
      refine ev_pos c ?_
      by_cases d : atoms ≤ 12
      · rw [decide_eq_true d, Bool.true_and] at hq
        exact ev_pos d (ev_bind (ev_ret _) (ev_eq (ev_ret _) hq))
      · rw [decide_eq_false d] at hq
        exact ev_neg d (ev_eq (ev_ret _) hq)
    · rw [Bool.not_eq_true] at c
      rw [c] at hq
      exact ev_neg (by simp [c]) (ev_eq (ev_ret _) hq)
  have i3 : Ev (fun k => impl_betweenOk.f k atoms list first) ok := by
    unfold impl_betweenOk.f
    rw [impl_in_eq]
    refine ev_bind i1 ?_
    by_cases c : clausesP atoms list = true
    · rw [c, Bool.true_and] at hq
      refine ev_pos c ?_
      by_cases d : atoms ≤ 12
      · rw [decide_eq_true d, Bool.true_and] at hq
        exact ev_pos d (ev_bind (ev_ret _) (ev_eq (ev_ret _) hq))
      · rw [decide_eq_false d] at hq
        exact ev_neg d (ev_eq (ev_ret _) hq)
    · rw [Bool.not_eq_true] at c
      rw [c] at hq
      exact ev_neg (by simp [c]) (ev_eq (ev_ret _) hq)
  cases ok with
  | false =>
    refine ⟨false, ?_, ?_⟩
    · unfold spec_LiesBetween.f
      exact ev_bind s3 (ev_neg (by simp) (ev_ret _))
    · unfold impl_LiesBetween.f
      exact ev_bind i3 (ev_neg (by simp) (ev_ret _))
  | true =>
    simp only [Bool.and_eq_true, decide_eq_true_eq, inR_iff] at hq
    obtain ⟨c1, d1, f0, f1⟩ := hq
    obtain ⟨ha, _, _⟩ := clausesP_and c1
    by_cases c2 : circP inputs gates = true
    · rw [c2] at s2 i2
      by_cases c3 : inputs ≠ atoms
      · refine ⟨false, ?_, ?_⟩
        · unfold spec_LiesBetween.f
          exact ev_bind s3 (ev_pos rfl (ev_bind s2 (ev_pos rfl (ev_pos c3 (ev_ret _)))))
        · unfold impl_LiesBetween.f
          exact ev_bind i3 (ev_pos rfl (ev_bind i2 (ev_pos rfl (ev_pos c3 (ev_ret _)))))
      · obtain rfl : inputs = atoms := by omega
        by_cases c4 : edgeP inputs gates e = true
        · obtain ⟨m, rfl⟩ : ∃ m : Nat, inputs = (m : Int) := ⟨inputs.toNat, by omega⟩
          obtain ⟨g, rfl⟩ : ∃ g : Nat, first = (g : Int) := ⟨first.toNat, by omega⟩
          exact ⟨_, spec_Lies_ev c1 (by omega) h.2 (by omega) c2 c4, impl_Lies_ev c1 (by omega) h.2 (by omega) c2 c4⟩
        · rw [Bool.not_eq_true] at c4
          refine ⟨false, ?_, ?_⟩
          · unfold spec_LiesBetween.f
            rw [spec_l7Edge_eq c2, c4]
            exact ev_bind s3 (ev_pos rfl (ev_bind s2 (ev_pos rfl (ev_neg c3 (ev_bind (ev_ret _) (ev_neg (by simp) (ev_ret _)))))))
          · unfold impl_LiesBetween.f
            rw [impl_isEdge_eq c2, c4]
            exact ev_bind i3 (ev_pos rfl (ev_bind i2 (ev_pos rfl (ev_neg c3 (ev_bind (ev_ret _) (ev_neg (by simp) (ev_ret _)))))))
    · rw [Bool.not_eq_true] at c2
      rw [c2] at s2 i2
      refine ⟨false, ?_, ?_⟩
      · unfold spec_LiesBetween.f
        exact ev_bind s3 (ev_pos rfl (ev_bind s2 (ev_neg (by simp) (ev_ret _))))
      · unfold impl_LiesBetween.f
        exact ev_bind i3 (ev_pos rfl (ev_bind i2 (ev_neg (by simp) (ev_ret _))))
theorem ExactLiesBetween_pure : laws_FnExactLiesBetween.PureS := by
  intro atoms list first inputs ands e w1 hl w2 w3 ha w4
  suffices h : Ev (fun k => laws_FnExactLiesBetween.f k atoms list first inputs ands e) true from h.rounds
  unfold laws_FnExactLiesBetween.f
  obtain ⟨c, hc, kc⟩ := sz_intss (l := list) (a := 1048576) (by omega) (by omega) hl.1 (fun x hx => (hl.2 x hx).1)
  have hc2 : Ev (fun k => laws_szClauses.f k atoms list 1048576) (if c < 0 then -1 else c) := by
    unfold laws_szClauses.f
    refine ev_bind hc ?_
    by_cases d : c < 0
    · exact ev_pos d (ev_eq (ev_ret _) (if_pos d).symm)
    · exact ev_neg d (ev_eq (ev_ret _) (if_neg d).symm)
  refine ev_bind hc2 ?_
  rcases kc with kc | ⟨k0, k1, kl⟩
  · rw [if_pos kc]
    exact ev_pos (by omega) (ev_ret _)
  rw [if_neg (by omega)]
  refine ev_neg (by omega) ?_
  obtain ⟨d, hd, kd⟩ := sz_len (n := ands.length) k0 (by omega) ha.1
  have hd2 : Ev (fun k => laws_szCircuit.f inputs ands c) (if d < 0 then -1 else d) := by
    unfold laws_szCircuit.f laws_szAndS.f
    refine ev_bind hd ?_
    by_cases z : d < 0
    · exact ev_pos z (ev_eq (ev_ret _) (if_pos z).symm)
    · exact ev_neg z (ev_eq (ev_ret _) (if_neg z).symm)
  refine ev_bind hd2 ?_
  rcases kd with kd | ⟨d0, d1, ka⟩
  · rw [if_pos kd]
    exact ev_pos (by omega) (ev_ret _)
  rw [if_neg (by omega)]
  refine ev_neg (by omega) ?_
  have tC : Ev (fun k => laws_toClauses.f k atoms list) (atoms, list) := by
    unfold laws_toClauses.f
    exact ev_bind (laws_toIntSS_ev list kl) (ev_ret _)
  have tA : Ev (fun k => laws_toCircuit.f k inputs ands) (inputs, ands.map cAnd) := by
    unfold laws_toCircuit.f
    exact ev_bind (laws_toAndS_ev ands ka) (ev_ret _)
  have eC : Ev (fun k => laws_eqClauses.f k atoms list atoms list) true := by
    unfold laws_eqClauses.f
    exact ev_pos rfl (ev_bind (laws_eqIntSS_ev list kl) (ev_pos rfl (ev_ret _)))
  have eA : Ev (fun k => laws_eqCircuit.f k inputs (ands.map cAnd) inputs (ands.map cAnd)) true := by
    unfold laws_eqCircuit.f
    exact ev_pos rfl (ev_bind (laws_eqAndS_ev _ (by rw [List.length_map]; exact ka)) (ev_pos rfl (ev_ret _)))
  obtain ⟨b, hs, hi⟩ := Lies_both atoms list first inputs (ands.map cAnd) e kl
  refine ev_bind tC (ev_bind tA (ev_bind hs (ev_bind tC (ev_bind tA (ev_bind hi (ev_neg (by simp) ?_))))))
  exact ev_bind tC (ev_bind eC (ev_pos rfl (ev_bind tA (ev_bind eA (ev_pos rfl (ev_ret _))))))
end Go.Proofs.Ytaajnneigmgikaa.PA
namespace Go.Proofs.Ytaajnneigmgikaa.Pure
theorem FnExactLiesBetween : Go.Proofs.Ytaajnneigmgikaa.PA.laws_FnExactLiesBetween.PureS := Go.Proofs.Ytaajnneigmgikaa.PA.ExactLiesBetween_pure
end Go.Proofs.Ytaajnneigmgikaa.Pure
end
