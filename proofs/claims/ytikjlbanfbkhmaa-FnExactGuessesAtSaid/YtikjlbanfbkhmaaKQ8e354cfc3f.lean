/- The plain side: what the Lean functions compute, without Go and memory; each theorem under the conditions that it names. -/
import Derived.Test.YtikjlbanfbkhmaaProg
import Derived.Below
import Derived.Deep.Draws
import Derived.Deep.AppendLies
import Derived.Maps.AppendAt
import Derived.OwnWalk
import Derived.Laws.BytesArg
import Derived.Laws.MakeOwn
import Derived.Laws.OwnMore
import Derived.Deep.OwnRows
import Derived.Tactics
import Derived.Lib.ConvBytes
import Derived.Laws.Slices
import Derived.WalkKit
import Derived.KernelRfl
import Derived.RowKit3
import Derived.Deep.LoopGhost
import Derived.Deep.QuietTactic
import Derived.BigQuiet
import Derived.WideLaws
import Derived.Deep.DeepCutAuto
import Derived.Deep.CutBlock
import Derived.Deep.RegionHeld3
import Derived.Laws.Rows
import Derived.Lib.AppendStr
import Derived.ArgAppend
import Derived.Laws.IdiomCopy
import Derived.OrdersHeld
import Derived.Laws.BitsLemmas
import Derived.RowKit
import Derived.Laws.StructEq
import Derived.Lib.SliceRun
import Derived.WalkSpells
import Derived.ChangeArms
import Derived.ChangeSlices
import Derived.Deep.Slices
import Derived.Test.YtikjlbanfbkhmaaKD18c82741fd
section
namespace Go.Proofs.Ytikjlbanfbkhmaa.PA
open Go.RowKit Go.Proofs.YtikjlbanfbkhmaaW.PrintWords
def okLTime (y : LTime) : Prop := (Lit.int .i64 y.f0).wf = true ∧ (Lit.int .i64 y.f1).wf = true ∧ (Lit.int .i64 y.f2).wf = true ∧ (Lit.int .i64 y.f3).wf = true
def laws_FnExactGuessesAt.Good (k : Nat) (l0 : List LTime) (l1 : List (List Int)) (l2 : List (List Int)) (a3 : Int) : Prop :=
  ∃ (t_1 : Int), laws_szTimeS.f l0 1048576 = some t_1 ∧ (t_1 < 0 ∨ ∃ (t_2 : Int), laws_szIntSS.f k l1 t_1 = some t_2 ∧ (t_2 < 0 ∨ ∃ (t_3 : Int), laws_szIntSS.f k l2 t_2 = some t_3 ∧ (t_3 < 0 ∨ ∃ (b_1 : (List ITime)), laws_toTimeS.f k l0 = some b_1 ∧ b_1.length ≤ 1048576 ∧ ∃ (b_2 : (List (List Int))), laws_toIntSS.f k l1 = some b_2 ∧ (b_2.length ≤ 1048576 ∧ ∀ y0 ∈ b_2, y0.length ≤ 1048576) ∧ ∃ (b_3 : (List (List Int))), laws_toIntSS.f k l2 = some b_3 ∧ (b_3.length ≤ 1048576 ∧ ∀ y0 ∈ b_3, y0.length ≤ 1048576) ∧ ∃ (w_1 : (List Int)), spec_GuessesAt.f k b_1 b_2 b_3 a3 = some w_1 ∧ impl_GuessesAt.f k b_1 b_2 b_3 a3 = some w_1 ∧ laws_eqIntS.f k w_1 w_1 = some true ∧ laws_eqTimeS.f k b_1 b_1 = some true ∧ laws_eqIntSS.f k b_2 b_2 = some true ∧ laws_eqIntSS.f k b_3 b_3 = some true ∧ ∃ (m_1 : Int), ∃ (w_2 : List Int), laws_markIntS.f k w_1 1 = some (m_1, w_2) ∧ 0 ≤ m_1 ∧ laws_heldIntS.f k w_2 1 = some m_1 ∧ True)))
def laws_FnExactGuessesAt.PureS : Prop := ∀ (l0 : List LTime) (l1 : List (List Int)) (l2 : List (List Int)) (a3 : Int), (l0.length ≤ 9223372036854775807 ∧ ∀ x0 ∈ l0, okLTime x0) → (l1.length ≤ 9223372036854775807 ∧ ∀ x0 ∈ l1, (x0.length ≤ 9223372036854775807 ∧ ∀ x1 ∈ x0, (Lit.int .i64 x1).wf = true)) → (l2.length ≤ 9223372036854775807 ∧ ∀ x0 ∈ l2, (x0.length ≤ 9223372036854775807 ∧ ∀ x1 ∈ x0, (Lit.int .i64 x1).wf = true)) → (Lit.int .i64 a3).wf = true → ∃ k, laws_FnExactGuessesAt.Good k l0 l1 l2 a3
end Go.Proofs.Ytikjlbanfbkhmaa.PA
end
section
set_option linter.unusedVariables false
set_option linter.unusedSimpArgs false
namespace Go.Proofs.Ytikjlbanfbkhmaa.PA
open Go.RowKit Go.Proofs.YtikjlbanfbkhmaaW.PrintWords
theorem ev_ret {α : Type} (r : α) : Ev (fun _ => some r) r := Ev.now r
theorem ev_pos {α : Type} {c : Prop} [Decidable c] {f g : Nat → Option α} {r : α} (h : c) (k : Ev f r) : Ev (fun n => if c then f n else g n) r := by
  simpa [h] using k
theorem ev_neg {α : Type} {c : Prop} [Decidable c] {f g : Nat → Option α} {r : α} (h : ¬ c) (k : Ev g r) : Ev (fun n => if c then f n else g n) r := by
  simpa [h] using k
theorem ev_bind {α β : Type} {g : Nat → Option α} {f : Nat → α → Option β} {a : α} {r : β} (h : Ev g a) (k : Ev (fun n => f n a) r) : Ev (fun n => (g n).bind (fun t => f n t)) r := Ev.bind h k
theorem ev_fix {α : Type} {o : Option α} {r : α} (h : o = some r) : Ev (fun _ => o) r := ⟨0, fun _ _ => h⟩
theorem ev_eq {α : Type} {g : Nat → Option α} {r r' : α} (h : Ev g r) (e : r = r') : Ev g r' := e ▸ h
theorem ev_loop {α ρ : Type} (L : Nat → Int → Option ρ) (xs : List α) (res : List α → ρ) (hend : Ev (fun k => L k (xs.length : Int)) (res []))
    (hstep : ∀ (n : Nat) (x : α) (r : List α), n < xs.length → xs[n]? = some x → xs.drop n = x :: r → r = xs.drop (n + 1) → Ev (fun k => L k ((n + 1 : Nat) : Int)) (res r) → Ev (fun k => L k (n : Int)) (res (x :: r))) :
    Ev (fun k => L k 0) (res xs) := by
  have h : ∀ d n : Nat, xs.length - n = d → n ≤ xs.length → Ev (fun k => L k (n : Int)) (res (xs.drop n)) := by
    intro d
    induction d with
    | zero =>
      intro n h1 h2
      have : n = xs.length := by omega
      subst this
      rw [List.drop_length]
      exact hend
    | succ d ih =>
      intro n h1 h2
      have hn : n < xs.length := by omega
      have e := List.drop_eq_getElem_cons hn
      rw [e]
      exact hstep n _ _ hn (List.getElem?_eq_getElem hn) e rfl (ih (n + 1) (by omega) (by omega))
  have := h xs.length 0 (by omega) (by omega)
  simpa using this
theorem wrap_in {x : Int} (h0 : -9223372036854775808 ≤ x) (h1 : x ≤ 9223372036854775807) : wrap64 x = x := by unfold wrap64; omega
theorem wrap_nat {n m : Nat} (h : n < m) (hm : m ≤ 9223372036854775807) : wrap64 ((n : Int) + 1) = ((n + 1 : Nat) : Int) := by unfold wrap64; omega
theorem getD_of {α : Type} {xs : List α} {n : Nat} {x d : α} (h : xs[n]? = some x) : xs.getD (n : Int).toNat d = x := by
  simp [List.getD_eq_getElem?_getD, h]
theorem ev_fill {α β : Type} {da : α} {db : β} (L : Nat → List β → Int → Option (List β)) (F : Nat → α → Option β) (xs : List α) (g : α → β) (hl : xs.length ≤ 4611686018427387904)
    (hL : ∀ k ys i, L (k + 1) ys i = if i < (xs.length : Int) then (if 0 ≤ i then ((F k (xs.getD i.toNat da)).bind fun b => if i < (ys.length : Int) then L k (ys.set i.toNat b) (wrap64 (i + 1)) else none) else none) else some ys)
    (hF : ∀ x ∈ xs, Ev (fun k => F k x) (g x)) : Ev (fun k => L k (List.replicate xs.length db) 0) (xs.map g) := by
  have h : ∀ d n : Nat, xs.length - n = d → n ≤ xs.length → Ev (fun k => L k ((xs.take n).map g ++ List.replicate (xs.length - n) db) (n : Int)) (xs.map g) := by
    intro d
    induction d with
    | zero =>
      intro n h1 h2
      have : n = xs.length := by omega
      subst this
      refine Ev.step (fun k => hL k _ _) (ev_neg (by omega) ?_)
      simpa using ev_ret (xs.map g)
    | succ d ih =>
      intro n h1 h2
      have hn : n < xs.length := by omega
      refine Ev.step (fun k => hL k _ _) (ev_pos (by omega) (ev_pos (by omega) ?_))
      have hx := List.getElem?_eq_getElem hn
      rw [getD_of hx]
      refine ev_bind (hF _ (List.getElem_mem hn)) (ev_pos (by simp; omega) ?_)
      rw [wrap_nat hn (by omega)]
      have e : ((xs.take n).map g ++ List.replicate (xs.length - n) db).set (n : Int).toNat (g xs[n]) = (xs.take (n + 1)).map g ++ List.replicate (xs.length - (n + 1)) db := by
        rw [show xs.length - n = (xs.length - (n + 1)) + 1 by omega, List.replicate_succ, List.take_succ_eq_append_getElem hn, List.map_append]
        simp [List.set_append, Nat.min_eq_left (Nat.le_of_lt hn)]
      rw [e]
      exact ih (n + 1) (by omega) (by omega)
  have := h xs.length 0 (by omega) (by omega)
  simpa using this
theorem ev_same {α : Type} {da : α} (L : Nat → Int → Option Bool) (F : Nat → α → α → Option Bool) (xs ys : List α) (hl : xs.length ≤ 4611686018427387904) (hxy : xs = ys)
    (hL : ∀ k i, L (k + 1) i = if i < (xs.length : Int) then (if 0 ≤ i then (if i < (ys.length : Int) then ((F k (xs.getD i.toNat da) (ys.getD i.toNat da)).bind fun t => if t = true then L k (wrap64 (i + 1)) else some false) else none) else none) else some true)
    (hF : ∀ x ∈ xs, Ev (fun k => F k x x) true) : Ev (fun k => L k 0) true := by
  subst hxy
  refine ev_loop L xs (fun _ => true) (Ev.step (fun k => hL k _) (ev_neg (by omega) (ev_ret _))) ?_
  intro n x r hn hx _ _ ih
  refine Ev.step (fun k => hL k _) (ev_pos (by omega) (ev_pos (by omega) (ev_pos (by omega) ?_)))
  rw [getD_of hx]
  refine ev_bind (hF x (List.mem_of_getElem? hx)) (ev_pos rfl ?_)
  rw [wrap_nat hn (by omega)]
  exact ih
def SzOk (f : Nat → Option Int) (a : Int) (P : Prop) : Prop := ∃ r, Ev f r ∧ (r < 0 ∨ (0 ≤ r ∧ r ≤ a ∧ P))
theorem sz_len {n : Nat} {a : Int} (h0 : 0 ≤ a) (h1 : a ≤ 1048576) (hn : n ≤ 9223372036854775807) : SzOk (fun _ => if wrap64 (a - (n : Int)) < 0 then some (-1) else some (wrap64 (a - (n : Int)))) a (n ≤ 1048576) := by
  have w : wrap64 (a - (n : Int)) = a - (n : Int) := wrap_in (by omega) (by omega)
  rw [w]
  by_cases h : a - (n : Int) < 0
  · exact ⟨-1, ev_pos h (ev_ret _), .inl (by omega)⟩
  · exact ⟨a - n, ev_neg h (ev_ret _), .inr ⟨by omega, by omega, by omega⟩⟩
theorem sz_then {f : Nat → Option Int} {g : Nat → Int → Option Int} {a : Int} {P Q : Prop} (hf : SzOk f a P) (h1 : a ≤ 1048576) (hg : P → ∀ b, 0 ≤ b → b ≤ a → SzOk (fun k => g k b) b Q) :
    SzOk (fun k => (f k).bind fun t => if t < 0 then some (-1) else g k t) a (P ∧ Q) := by
  obtain ⟨r, hr, h⟩ := hf
  rcases h with h | ⟨h0, ha, hp⟩
  · exact ⟨-1, ev_bind hr (ev_pos h (ev_ret _)), .inl (by omega)⟩
  · obtain ⟨s, hs, k⟩ := hg hp r h0 ha
    refine ⟨s, ev_bind hr (ev_neg (by omega) hs), ?_⟩
    rcases k with k | ⟨k0, ka, kq⟩
    · exact .inl k
    · exact .inr ⟨k0, by omega, hp, kq⟩
theorem sz_loop {α : Type} {da : α} (L : Nat → Int → Int → Option Int) (F : Nat → α → Int → Option Int) (xs : List α) (P : α → Prop) (hl : xs.length ≤ 9223372036854775807)
    (hL : ∀ k a i, L (k + 1) a i = if i < (xs.length : Int) then (if 0 ≤ i then ((F k (xs.getD i.toNat da) a).bind fun t => if t < 0 then some (-1) else L k t (wrap64 (i + 1))) else none) else some a)
    (hF : ∀ x ∈ xs, ∀ a, 0 ≤ a → a ≤ 1048576 → SzOk (fun k => F k x a) a (P x)) : ∀ a, 0 ≤ a → a ≤ 1048576 → SzOk (fun k => L k a 0) a (∀ x ∈ xs, P x) := by
  have key : ∀ d n : Nat, xs.length - n = d → n ≤ xs.length → ∀ a, 0 ≤ a → a ≤ 1048576 → SzOk (fun k => L k a (n : Int)) a (∀ x ∈ xs.drop n, P x) := by
    intro d
    induction d with
    | zero =>
      intro n e1 e2 a h0 h1
      have : n = xs.length := by omega
      subst this
      refine ⟨a, ?_, .inr ⟨h0, Int.le_refl _, fun x hx => by simp at hx⟩⟩
      refine Ev.step (fun k => hL k _ _) ?_
      exact ev_neg (by omega) (ev_ret _)
    | succ d ih =>
      intro n e1 e2 a h0 h1
      have hn : n < xs.length := by omega
      have hs := sz_then (g := fun k t => L k t ((n + 1 : Nat) : Int)) (hF _ (List.getElem_mem hn) a h0 h1) h1 (fun _ b hb0 hb1 => ih (n + 1) (by omega) (by omega) b hb0 (by omega))
      obtain ⟨r, hr, k⟩ := hs
      refine ⟨r, ?_, ?_⟩
      · refine Ev.step (fun k => by rw [hL, if_pos (by omega), if_pos (by omega), getD_of (List.getElem?_eq_getElem hn), wrap_nat hn (by omega)]) hr
      · rcases k with k | ⟨k0, ka, kp, kq⟩
        · exact .inl k
        · refine .inr ⟨k0, ka, fun x hx => ?_⟩
          rw [List.drop_eq_getElem_cons hn] at hx
          rcases List.mem_cons.1 hx with rfl | hx
          · exact kp
          · exact kq x hx
  intro a h0 h1
  have := key xs.length 0 (by omega) (by omega) a h0 h1
  simpa using this
theorem laws_toIntS_ev (l : List Int) (h : l.length ≤ 1048576) : Ev (fun k => laws_toIntS.f k l) l := by
  unfold laws_toIntS.f
  refine ev_pos (by omega) (ev_pos (by omega) ?_)
  have := ev_fill (da := (0 : Int)) (db := (0 : Int)) (fun k ys i => laws_toIntS.l0 k l ys i) (fun k x => some x) l id (by omega) (fun k ys i => by rw [laws_toIntS.l0]; rfl) (fun x _ => ev_ret _)
  simpa using this
theorem laws_eqIntS_ev (l : List Int) (h : l.length ≤ 4611686018427387904) : Ev (fun k => laws_eqIntS.f k l l) true := by
  unfold laws_eqIntS.f
  refine ev_pos rfl ?_
  exact ev_same (da := (0 : Int)) (fun k i => laws_eqIntS.l0 k l l i) (fun k x y => if x = y then some true else some false) l l h rfl (fun k i => by rw [laws_eqIntS.l0]; simp [rd]) (fun x _ => ev_pos rfl (ev_ret _))
def inR (n lo hi : Int) : Bool := decide (lo ≤ n ∧ n ≤ hi)
theorem inR_iff {n lo hi : Int} : inR n lo hi = true ↔ lo ≤ n ∧ n ≤ hi := by simp [inR]
theorem spec_l1In_eq (n lo hi : Int) : spec_l1In.f n lo hi = some (inR n lo hi) := by
  unfold spec_l1In.f inR
  by_cases h : n ≥ lo
  · rw [if_pos h]; congr 1; simp; omega
  · rw [if_neg h]; congr 1; simp; omega
theorem impl_in_eq (n lo hi : Int) : impl_in.f n lo hi = some (inR n lo hi) := by
  unfold impl_in.f inR
  by_cases h : n ≥ lo
  · rw [if_pos h]; congr 1; simp; omega
  · rw [if_neg h]; congr 1; simp; omega
def Evp (G : Nat → Prop) : Prop := ∃ n, ∀ k, n ≤ k → G k
theorem Evp.get {G : Nat → Prop} (h : Evp G) : ∃ k, G k := let ⟨n, h⟩ := h; ⟨n, h n (Nat.le_refl _)⟩
theorem Evp.of {P : Prop} (h : P) : Evp fun _ => P := ⟨0, fun _ _ => h⟩
theorem Evp.and {G H : Nat → Prop} (g : Evp G) (h : Evp H) : Evp fun k => G k ∧ H k := by
  obtain ⟨n, g⟩ := g
  obtain ⟨m, h⟩ := h
  exact ⟨max n m, fun k hk => ⟨g k (by omega), h k (by omega)⟩⟩
theorem Evp.fact {α : Type} {f : Nat → Option α} {r : α} {H : Nat → Prop} (g : Ev f r) (h : Evp H) : Evp fun k => f k = some r ∧ H k := Evp.and (G := fun k => f k = some r) g h
theorem Evp.inl {G H : Nat → Prop} (g : Evp G) : Evp fun k => G k ∨ H k := let ⟨n, g⟩ := g; ⟨n, fun k hk => .inl (g k hk)⟩
theorem Evp.inr {G H : Nat → Prop} (g : Evp H) : Evp fun k => G k ∨ H k := let ⟨n, g⟩ := g; ⟨n, fun k hk => .inr (g k hk)⟩
theorem Evp.ex {α : Type} {G : Nat → α → Prop} (a : α) (g : Evp fun k => G k a) : Evp fun k => ∃ x, G k x := let ⟨n, g⟩ := g; ⟨n, fun k hk => ⟨a, g k hk⟩⟩
theorem Evp.guard {P : Prop} {H : Nat → Prop} (h : ¬ P → Evp H) : Evp fun k => P ∨ H k := by
  by_cases p : P
  · exact .inl (.of p)
  · exact .inr (h p)
theorem Evp.sz {f : Nat → Option Int} {a : Int} {P : Prop} (hf : SzOk f a P) {H : Nat → Int → Prop} (h : ∀ r, 0 ≤ r → r ≤ a → P → Evp fun k => H k r) : Evp fun k => ∃ t : Int, f k = some t ∧ (t < 0 ∨ H k t) := by
  obtain ⟨r, h1, h2⟩ := hf
  refine .ex r (.fact h1 ?_)
  rcases h2 with h2 | ⟨h2, h3, h4⟩
  · exact .inl (.of h2)
  · exact .inr (h r h2 h3 h4)
def fromP (n : Int) : Nat → List Int
  | 0 => []
  | m + 1 => n :: fromP (n + 1) m
theorem fromP_length (n : Int) (m : Nat) : (fromP n m).length = m := by
  induction m generalizing n with
  | zero => rfl
  | succ m ih => simp [fromP, ih]
theorem fromP_snoc (n : Int) (m : Nat) : fromP n (m + 1) = fromP n m ++ [n + m] := by
  induction m generalizing n with
  | zero => simp [fromP]
  | succ m ih =>
    rw [fromP, ih (n + 1), fromP, List.cons_append]
    congr 3
    push_cast
    omega
theorem laws_markIntS_ev (w : List Int) (n : Int) (h0 : -4611686018427387904 ≤ n ∧ n ≤ 4611686018427387904) (hl : w.length ≤ 4503599627370496) : Ev (fun k => laws_markIntS.f k w n) (n + w.length, fromP n w.length) := by
  unfold laws_markIntS.f
  have key : ∀ d i : Nat, w.length - i = d → i ≤ w.length → Ev (fun k => laws_markIntS.l0 k (fromP n i ++ w.drop i) (n + i) (i : Int)) (n + w.length, fromP n w.length) := by
    intro d
    induction d with
    | zero =>
      intro i h1 h2
      have : i = w.length := by omega
      subst this
      refine Ev.step (fun k => by rw [laws_markIntS.l0]) (ev_neg (by simp [fromP_length]) ?_)
      rw [List.drop_length, List.append_nil]
      exact ev_ret _
    | succ d ih =>
      intro i h1 h2
      have hi : i < w.length := by omega
      refine Ev.step (fun k => by rw [laws_markIntS.l0]) (ev_pos (by simp [fromP_length]; omega) (ev_pos (by omega) ?_))
      rw [wrap_nat hi (by omega), show wrap64 (n + (i : Int) + 1) = n + ((i + 1 : Nat) : Int) by rw [wrap_in (by omega) (by omega)]; push_cast; omega]
      have e : (fromP n i ++ w.drop i).set ((i : Int)).toNat (n + i) = fromP n (i + 1) ++ w.drop (i + 1) := by
        rw [fromP_snoc, List.set_append, if_neg (by simp [fromP_length]), fromP_length, show ((i : Int)).toNat - i = 0 by omega, List.drop_eq_getElem_cons hi, List.set_cons_zero, List.append_assoc]
        rfl
      rw [e]
      exact ih (i + 1) (by omega) (by omega)
  have := key w.length 0 (by omega) (by omega)
  simpa [fromP] using this
theorem fromP_at (n : Int) : ∀ (m i : Nat), i < m → rd (fromP n m) (i : Int) = n + i := by
  intro m
  induction m generalizing n with
  | zero => intro i h; omega
  | succ m ih =>
    intro i h
    cases i with
    | zero => simp [fromP, rd]
    | succ i =>
      have := ih (n + 1) i (by omega)
      show (fromP n (m + 1)).getD _ 0 = _
      simp only [fromP]
      rw [show (((i + 1 : Nat) : Int)).toNat = i + 1 by omega, List.getD_cons_succ]
      have e : (fromP (n + 1) m).getD i 0 = n + 1 + i := by simpa [rd] using this
      rw [e]
      push_cast
      omega
theorem laws_heldIntS_ev (n : Int) (m : Nat) (h0 : -4611686018427387904 ≤ n ∧ n ≤ 4611686018427387904) (hl : m ≤ 4503599627370496) : Ev (fun k => laws_heldIntS.f k (fromP n m) n) (n + m) := by
  unfold laws_heldIntS.f
  have key : ∀ d i : Nat, m - i = d → i ≤ m → Ev (fun k => laws_heldIntS.l0 k (fromP n m) (n + i) (i : Int)) (n + m) := by
    intro d
    induction d with
    | zero =>
      intro i h1 h2
      have : i = m := by omega
      subst this
      refine Ev.step (fun k => by rw [laws_heldIntS.l0]) (ev_neg (by simp [fromP_length]) (ev_ret _))
    | succ d ih =>
      intro i h1 h2
      have hi : i < m := by omega
      refine Ev.step (fun k => by rw [laws_heldIntS.l0]) (ev_pos (by rw [fromP_length]; omega) (ev_pos (by omega) (ev_pos (fromP_at n m i hi) ?_)))
      rw [wrap_nat hi (by omega), show wrap64 (n + (i : Int) + 1) = n + ((i + 1 : Nat) : Int) by rw [wrap_in (by omega) (by omega)]; push_cast; omega]
      exact ih (i + 1) (by omega) (by omega)
  have := key m 0 (by omega) (by omega)
  simpa using this
theorem Evp.marked (w : List Int) (hl : w.length ≤ 4503599627370496) : Evp fun k => ∃ (m : Int), ∃ (w2 : List Int), laws_markIntS.f k w 1 = some (m, w2) ∧ 0 ≤ m ∧ laws_heldIntS.f k w2 1 = some m ∧ True :=
  .ex (1 + w.length) (.ex (fromP 1 w.length) (.fact (laws_markIntS_ev w 1 (by omega) hl) (.and (.of (by omega)) (.fact (laws_heldIntS_ev 1 w.length (by omega) hl) (.of trivial)))))
def valOk (k v : Int) : Prop := (k = 1 → -9999 ≤ v ∧ v ≤ 9999) ∧ (k = 2 → 0 ≤ v ∧ v ≤ 1)
structure ValsOk (ks vs : List Int) : Prop where
  len : vs.length = ks.length
  at_ : ∀ i : Nat, i < ks.length → valOk (ks.getD i 0) (vs.getD i 0)
theorem ValsOk.nil : ValsOk [] [] := ⟨rfl, fun i h => absurd h (Nat.not_lt_zero i)⟩
theorem ValsOk.rd {ks vs : List Int} (h : ValsOk ks vs) {i : Int} (h0 : inR i 0 ((ks.length : Int) - 1) = true) : valOk (rd ks i) (rd vs i) := by
  have := inR_iff.1 h0
  have e := h.at_ i.toNat (by omega)
  exact e
theorem ValsOk.push {ks vs : List Int} (h : ValsOk ks vs) {k v : Int} (hv : valOk k v) : ValsOk (ks ++ [k]) (vs ++ [v]) := by
  refine ⟨by simp [h.len], fun i hi => ?_⟩
  rw [List.length_append, List.length_singleton] at hi
  by_cases e : i < ks.length
  · have := h.at_ i e
    rw [List.getD_eq_getElem?_getD, List.getD_eq_getElem?_getD] at this ⊢
    rw [List.getElem?_append_left e, List.getElem?_append_left (by rw [h.len]; exact e)]
    exact this
  · have e' : i = ks.length := by omega
    subst e'
    rw [List.getD_eq_getElem?_getD, List.getD_eq_getElem?_getD, List.getElem?_append_right (Nat.le_refl _), List.getElem?_append_right (by rw [h.len]; exact Nat.le_refl _), h.len]
    simpa using hv
def foldN {α σ : Type} (step : Nat → σ → α → σ) : Nat → σ → List α → σ
  | _, s, [] => s
  | n, s, x :: r => foldN step (n + 1) (step n s x) r
theorem foldN_push {α β : Type} (g : α → β) : ∀ (xs : List α) (n : Nat) (s : List β), foldN (fun _ s x => s ++ [g x]) n s xs = s ++ xs.map g
  | [], n, s => by simp [foldN]
  | x :: r, n, s => by unfold foldN; rw [foldN_push g r]; simp
theorem ev_fold {α σ ρ : Type} (L : Nat → σ → Int → Option ρ) (xs : List α) (step : Nat → σ → α → σ) (fin : σ → ρ) (I : Nat → σ → Prop)
    (hend : ∀ s, I xs.length s → Ev (fun k => L k s (xs.length : Int)) (fin s))
    (hstep : ∀ (n : Nat) s x R, n < xs.length → xs[n]? = some x → I n s → Ev (fun k => L k (step n s x) ((n + 1 : Nat) : Int)) R → Ev (fun k => L k s (n : Int)) R)
    (hI : ∀ (n : Nat) s x, n < xs.length → xs[n]? = some x → I n s → I (n + 1) (step n s x)) (s0 : σ) (h0 : I 0 s0) :
    Ev (fun k => L k s0 0) (fin (foldN step 0 s0 xs)) := by
  have h : ∀ d n : Nat, xs.length - n = d → n ≤ xs.length → ∀ s, I n s → Ev (fun k => L k s (n : Int)) (fin (foldN step n s (xs.drop n))) := by
    intro d
    induction d with
    | zero =>
      intro n h1 h2 s hs
      have : n = xs.length := by omega
      subst this
      rw [List.drop_length]
      exact hend s hs
    | succ d ih =>
      intro n h1 h2 s hs
      have hn : n < xs.length := by omega
      have hx := List.getElem?_eq_getElem hn
      rw [List.drop_eq_getElem_cons hn]
      exact hstep n s _ _ hn hx hs (ih (n + 1) (by omega) (by omega) _ (hI n s _ hn hx hs))
  have := h xs.length 0 (by omega) (by omega) s0 h0
  simpa using this
theorem ev_fold0 {α σ ρ : Type} (L : Nat → σ → Int → Option ρ) (xs : List α) (step : Nat → σ → α → σ) (fin : σ → ρ)
    (hend : ∀ s, Ev (fun k => L k s (xs.length : Int)) (fin s))
    (hstep : ∀ (n : Nat) s x R, n < xs.length → xs[n]? = some x → Ev (fun k => L k (step n s x) ((n + 1 : Nat) : Int)) R → Ev (fun k => L k s (n : Int)) R) (s0 : σ) :
    Ev (fun k => L k s0 0) (fin (foldN step 0 s0 xs)) :=
  ev_fold L xs step fin (fun _ _ => True) (fun s _ => hend s) (fun n s x R h1 h2 _ h3 => hstep n s x R h1 h2 h3) (fun _ _ _ _ _ _ => trivial) s0 trivial
theorem spec_l3Copy_ev (l : List Int) (hl : l.length ≤ 1048576) : Ev (fun k => spec_l3Copy.f k l) l := by
  unfold spec_l3Copy.f
  have := ev_fold (fun k s i => spec_l3Copy.l0 k l s i) l (fun _ s x => s ++ [x]) (fun s => s) (fun n s => s.length = n)
    (fun s hs => Ev.step (fun k => by rw [spec_l3Copy.l0]) (ev_neg (by omega) (ev_ret _)))
    (fun n s x R hn hx hs ih => by
      refine Ev.step (fun k => by rw [spec_l3Copy.l0]) ?_
      rw [show rd l (n : Int) = x from getD_of hx, wrap_nat hn (by omega)]
      exact ev_pos (by omega) (ev_pos (by omega) (ev_pos (by omega) ih)))
    (fun n s x hn hx hs => by simp [hs]) [] rfl
  rw [foldN_push (fun x => x)] at this
  simpa using this
theorem ev_index {α : Type} {da : α} (L : Nat → Int → Option Int) (F : Nat → α → Option Bool) (xs : List α) (p : α → Bool) (hl : xs.length ≤ 9223372036854775807)
    (hL : ∀ k i, L (k + 1) i = if i < (xs.length : Int) then (if 0 ≤ i then (if i < (xs.length : Int) then ((F k (xs.getD i.toNat da)).bind fun t => if t = true then some i else L k (wrap64 (i + 1))) else none) else none) else some (-1))
    (hF : ∀ x ∈ xs, Ev (fun k => F k x) (p x)) : ∃ r, Ev (fun k => L k 0) r ∧ decide (r ≥ 0) = xs.any p := by
  have key : ∀ d n : Nat, xs.length - n = d → n ≤ xs.length → ∃ r, Ev (fun k => L k (n : Int)) r ∧ decide (r ≥ 0) = (xs.drop n).any p := by
    intro d
    induction d with
    | zero =>
      intro n h1 h2
      have : n = xs.length := by omega
      subst this
      exact ⟨-1, Ev.step (fun k => hL k _) (ev_neg (by omega) (ev_ret _)), by rw [List.drop_length]; rfl⟩
    | succ d ih =>
      intro n h1 h2
      have hn : n < xs.length := by omega
      have hx := List.getElem?_eq_getElem hn
      rw [List.drop_eq_getElem_cons hn, List.any_cons]
      have hf := hF _ (List.getElem_mem hn)
      cases hp : p xs[n] with
      | true =>
        rw [hp] at hf
        refine ⟨(n : Int), Ev.step (fun k => hL k _) (ev_pos (by omega) (ev_pos (by omega) (ev_pos (by omega) ?_))), by simp⟩
        rw [getD_of hx]
        exact ev_bind hf (ev_pos rfl (ev_ret _))
      | false =>
        rw [hp] at hf
        obtain ⟨r, h3, h4⟩ := ih (n + 1) (by omega) (by omega)
        refine ⟨r, Ev.step (fun k => hL k _) (ev_pos (by omega) (ev_pos (by omega) (ev_pos (by omega) ?_))), by rw [h4]; rfl⟩
        rw [getD_of hx, wrap_nat hn (by omega)]
        exact ev_bind hf (ev_neg (by simp) h3)
  have := key xs.length 0 (by omega) (by omega)
  simpa using this
theorem ev_contains {α : Type} {da : α} (L : Nat → Int → Option Int) (F : Nat → α → Option Bool) (xs : List α) (p : α → Bool) (hl : xs.length ≤ 9223372036854775807)
    (hL : ∀ k i, L (k + 1) i = if i < (xs.length : Int) then (if 0 ≤ i then (if i < (xs.length : Int) then ((F k (xs.getD i.toNat da)).bind fun t => if t = true then some i else L k (wrap64 (i + 1))) else none) else none) else some (-1))
    (hF : ∀ x ∈ xs, Ev (fun k => F k x) (p x)) : Ev (fun k => (L k 0).bind fun t => some (decide (t ≥ 0))) (xs.any p) := by
  obtain ⟨r, h1, h2⟩ := ev_index L F xs p hl hL hF
  exact ev_bind h1 (ev_eq (ev_ret _) h2)
theorem ev_all {α : Type} {da : α} (L : Nat → Int → Option Bool) (F : Nat → α → Option Bool) (xs : List α) (p : α → Bool) (G : Nat → Option Bool) (b : Bool) (hl : xs.length ≤ 9223372036854775807) (hG : Ev G b)
    (hL : ∀ k i, L (k + 1) i = if i < (xs.length : Int) then (if 0 ≤ i then ((F k (xs.getD i.toNat da)).bind fun t => if t = true then L k (wrap64 (i + 1)) else some false) else none) else G k)
    (hF : ∀ x ∈ xs, Ev (fun k => F k x) (p x)) : Ev (fun k => L k 0) (xs.all p && b) := by
  have key : ∀ d n : Nat, xs.length - n = d → n ≤ xs.length → Ev (fun k => L k (n : Int)) ((xs.drop n).all p && b) := by
    intro d
    induction d with
    | zero =>
      intro n h1 h2
      have : n = xs.length := by omega
      subst this
      rw [List.drop_length]
      refine Ev.step (fun k => hL k _) (ev_neg (by omega) (ev_eq hG (by simp)))
    | succ d ih =>
      intro n h1 h2
      have hn : n < xs.length := by omega
      have hx := List.getElem?_eq_getElem hn
      rw [List.drop_eq_getElem_cons hn, List.all_cons]
      have hf := hF _ (List.getElem_mem hn)
      refine Ev.step (fun k => hL k _) (ev_pos (by omega) (ev_pos (by omega) ?_))
      rw [getD_of hx, wrap_nat hn (by omega)]
      cases hp : p xs[n] with
      | true => rw [hp] at hf; exact ev_bind hf (ev_pos rfl (ev_eq (ih (n + 1) (by omega) (by omega)) (by simp)))
      | false => rw [hp] at hf; exact ev_bind hf (ev_neg (by simp) (ev_eq (ev_ret _) (by simp)))
  have := key xs.length 0 (by omega) (by omega)
  simpa using this
theorem sz_ints {l : List Int} {a : Int} (h0 : 0 ≤ a) (h1 : a ≤ 1048576) (hn : l.length ≤ 9223372036854775807) : SzOk (fun _ => laws_szIntS.f l a) a (l.length ≤ 1048576) := by
  unfold laws_szIntS.f
  exact sz_len h0 h1 hn
theorem sz_rows {α : Type} {da : List α} {n : Nat} (L : Nat → Int → Int → Option Int) (F : List α → Int → Option Int) (xs : List (List α)) {a : Int} (h0 : 0 ≤ a) (h1 : a ≤ 1048576) (hn : xs.length ≤ 9223372036854775807)
    (hL : ∀ k a i, L (k + 1) a i = if i < (xs.length : Int) then (if 0 ≤ i then ((F (xs.getD i.toNat da) a).bind fun t => if t < 0 then some (-1) else L k t (wrap64 (i + 1))) else none) else some a)
    (hF : ∀ x ∈ xs, ∀ a, 0 ≤ a → a ≤ 1048576 → SzOk (fun _ => F x a) a (x.length ≤ 1048576)) :
    SzOk (fun k => if wrap64 (a - (xs.length : Int)) < 0 then some (-1) else L k (wrap64 (a - (xs.length : Int))) 0) a (xs.length ≤ 1048576 ∧ ∀ x ∈ xs, x.length ≤ 1048576) := by
  have w : wrap64 (a - (xs.length : Int)) = a - (xs.length : Int) := wrap_in (by omega) (by omega)
  rw [w]
  by_cases h : a - (xs.length : Int) < 0
  · exact ⟨-1, ev_pos h (ev_ret _), .inl (by omega)⟩
  · obtain ⟨s, hs, k⟩ := sz_loop (da := da) L (fun _ x a => F x a) xs (fun l => l.length ≤ 1048576) hn hL hF (a - (xs.length : Int)) (by omega) (by omega)
    refine ⟨s, ev_neg h hs, ?_⟩
    rcases k with k | ⟨k0, ka, kp⟩
    · exact .inl k
    · exact .inr ⟨k0, by omega, by omega, kp⟩
theorem sz_intss {l : List (List Int)} {a : Int} (h0 : 0 ≤ a) (h1 : a ≤ 1048576) (hn : l.length ≤ 9223372036854775807) (hx : ∀ x ∈ l, x.length ≤ 9223372036854775807) : SzOk (fun k => laws_szIntSS.f k l a) a (l.length ≤ 1048576 ∧ ∀ x ∈ l, x.length ≤ 1048576) := by
  unfold laws_szIntSS.f
  exact sz_rows (n := 0) (da := []) (fun k a i => laws_szIntSS.l0 k l a i) (fun x a => laws_szIntS.f x a) l h0 h1 hn (fun k a i => by rw [laws_szIntSS.l0]; rfl) (fun x h a h0 h1 => sz_ints h0 h1 (hx x h))
theorem laws_toIntSS_ev (l : List (List Int)) (h : l.length ≤ 1048576 ∧ ∀ x ∈ l, x.length ≤ 1048576) : Ev (fun k => laws_toIntSS.f k l) l := by
  unfold laws_toIntSS.f
  refine ev_pos (by omega) (ev_pos (by omega) ?_)
  have := ev_fill (da := ([] : List Int)) (db := ([] : List Int)) (fun k ys i => laws_toIntSS.l0 k l ys i) (fun k x => laws_toIntS.f k x) l id (by omega) (fun k ys i => by rw [laws_toIntSS.l0]; rfl) (fun x hx => laws_toIntS_ev x (h.2 x hx))
  simpa using this
theorem laws_eqIntSS_ev (l : List (List Int)) (h : l.length ≤ 1048576 ∧ ∀ x ∈ l, x.length ≤ 1048576) : Ev (fun k => laws_eqIntSS.f k l l) true := by
  unfold laws_eqIntSS.f
  refine ev_pos rfl ?_
  exact ev_same (da := []) (fun k i => laws_eqIntSS.l0 k l l i) (fun k x y => laws_eqIntS.f k x y) l l (by omega) rfl (fun k i => by rw [laws_eqIntSS.l0]; rfl) (fun x hx => laws_eqIntS_ev x (by have := h.2 x hx; omega))
def allI {α : Type} (p : Nat → α → Bool) : Nat → List α → Bool
  | _, [] => true
  | n, x :: r => p n x && allI p (n + 1) r
theorem ev_alli {α : Type} (L : Nat → Int → Option Bool) (xs : List α) (p : Nat → α → Bool) (hend : Ev (fun k => L k (xs.length : Int)) true)
    (hstep : ∀ (n : Nat) (x : α) (Q : Bool), n < xs.length → xs[n]? = some x → Ev (fun k => L k ((n + 1 : Nat) : Int)) Q → Ev (fun k => L k (n : Int)) (p n x && Q)) : Ev (fun k => L k 0) (allI p 0 xs) := by
  have h : ∀ d n : Nat, xs.length - n = d → n ≤ xs.length → Ev (fun k => L k (n : Int)) (allI p n (xs.drop n)) := by
    intro d
    induction d with
    | zero =>
      intro n h1 h2
      have : n = xs.length := by omega
      subst this
      rw [List.drop_length]
      exact hend
    | succ d ih =>
      intro n h1 h2
      have hn : n < xs.length := by omega
      rw [List.drop_eq_getElem_cons hn]
      exact hstep n _ _ hn (List.getElem?_eq_getElem hn) (ih (n + 1) (by omega) (by omega))
  have := h xs.length 0 (by omega) (by omega)
  simpa using this
theorem ev_at {α : Type} {g : Nat → Option α} {r : α} (h : ∀ k, g (k + 1) = some r) : Ev g r := ⟨1, fun k hk => by
  obtain ⟨m, rfl⟩ : ∃ m, k = m + 1 := ⟨k - 1, by omega⟩
  exact h m⟩
def timeP (facts : Int) (n : Nat) (t : ITime) : Bool :=
  if t.f0 = 0 then (t.f1 == 0 && (t.f2 == 0 && t.f3 == 0))
  else if t.f0 = 1 then (inR t.f1 0 (wrap64 (facts - 1)) && (t.f2 == 0 && t.f3 == 0))
  else (inR t.f0 2 7 && (t.f1 == 0 && (inR t.f2 0 (wrap64 ((n : Int) - 1)) && (inR t.f3 0 (wrap64 ((n : Int) - 1)) && (!(t.f0 == 2 || t.f0 == 5) || t.f3 == t.f2)))))
def timesP (l : List ITime) (facts : Int) : Bool := inR facts 0 4 && (inR (l.length : Int) 1 24 && allI (timeP facts) 0 l)
theorem spec_l20Step_eq (t : ITime) (n : Nat) (facts : Int) : ∀ k, spec_l20Step.f (k + 1) t.f0 t.f1 t.f2 t.f3 (n : Int) facts = some (timeP facts n t) := by
  intro k
  simp only [spec_l20Step.f, spec_l20Step.j0, spec_l20One.f, spec_l1In_eq, Option.bind_some, timeP]
  by_cases h0 : t.f0 = 0
  · simp only [h0, if_true]
    by_cases h1 : t.f1 = 0 <;> by_cases h2 : t.f2 = 0 <;> simp [h1, h2]
  simp only [h0, if_false]
  by_cases h1 : t.f0 = 1
  · simp only [h1, if_true]
    cases inR t.f1 0 (wrap64 (facts - 1)) <;> by_cases h2 : t.f2 = 0 <;> simp [h2]
  simp only [h1, if_false]
  cases inR t.f0 2 7 <;> by_cases h2 : t.f1 = 0 <;> cases inR t.f2 0 (wrap64 ((n : Int) - 1)) <;> cases inR t.f3 0 (wrap64 ((n : Int) - 1)) <;> by_cases h3 : t.f0 = 2 <;> by_cases h4 : t.f0 = 5 <;> simp [h2, h3, h4]
theorem spec_TimesValid_ev (l : List ITime) (facts : Int) (hl : l.length ≤ 9223372036854775807) : Ev (fun k => spec_TimesValid.f k l facts) (timesP l facts) := by
  unfold spec_TimesValid.f timesP
  rw [spec_l1In_eq, spec_l1In_eq]
  refine ev_bind (ev_ret _) ?_
  cases h1 : inR facts 0 4 with
  | false => exact ev_neg (by simp) (Ev.step (fun k => by rw [spec_TimesValid.j0]) (ev_pos rfl (ev_eq (ev_ret _) (by simp))))
  | true =>
    refine ev_pos rfl (ev_bind (ev_ret _) (Ev.step (fun k => by rw [spec_TimesValid.j0]) ?_))
    cases h2 : inR (l.length : Int) 1 24 with
    | false => exact ev_pos rfl (ev_eq (ev_ret _) (by simp))
    | true =>
      refine ev_neg (by simp) (ev_eq (ev_alli (fun k i => spec_TimesValid.l0 k l facts i) l (timeP facts) (Ev.step (fun k => by rw [spec_TimesValid.l0]) (ev_neg (by omega) (ev_ret _))) ?_) (by simp))
      intro n x Q hn hx ih
      refine Ev.step (fun k => by rw [spec_TimesValid.l0]) ?_
      rw [show rd_ITime l (n : Int) = x from getD_of hx, wrap_nat hn (by omega)]
      refine ev_pos (by omega) (ev_pos (by omega) (ev_bind (ev_at (spec_l20Step_eq x n facts)) ?_))
      cases h : timeP facts n x with
      | true => exact ev_pos rfl (ev_eq ih (by simp))
      | false => exact ev_neg (by simp) (ev_eq (ev_ret _) (by simp))
theorem impl_TimesValid_ev (l : List ITime) (facts : Int) (hl : l.length ≤ 9223372036854775807) : Ev (fun k => impl_TimesValid.f k l facts) (timesP l facts) := by
  unfold impl_TimesValid.f timesP
  rw [impl_in_eq, impl_in_eq]
  refine ev_bind (ev_ret _) ?_
  cases h1 : inR facts 0 4 with
  | false => exact ev_neg (by simp) (Ev.step (fun k => by rw [impl_TimesValid.j0]) (ev_pos rfl (ev_eq (ev_ret _) (by simp))))
  | true =>
    refine ev_pos rfl (ev_bind (ev_ret _) (Ev.step (fun k => by rw [impl_TimesValid.j0]) ?_))
    cases h2 : inR (l.length : Int) 1 24 with
    | false => exact ev_pos rfl (ev_eq (ev_ret _) (by simp))
    | true =>
      refine ev_neg (by simp) (ev_eq (ev_alli (fun k i => impl_TimesValid.l0 k facts l (l.length : Int) i) l (timeP facts) (Ev.step (fun k => by rw [impl_TimesValid.l0]) (ev_neg (by omega) (ev_ret _))) ?_) (by simp))
      intro n x Q hn hx ih
      have hj : Ev (fun k => impl_TimesValid.j2 k facts (timeP facts n x) l (l.length : Int) (n : Int)) (timeP facts n x && Q) := by
        refine Ev.step (fun k => by rw [impl_TimesValid.j2, wrap_nat hn (by omega)]) ?_
        cases h : timeP facts n x with
        | true => exact ev_pos rfl (ev_eq ih (by simp))
        | false => exact ev_neg (by simp) (ev_eq (ev_ret _) (by simp))
      refine Ev.step (fun k => by rw [impl_TimesValid.l0]) ?_
      rw [show rd_ITime l (n : Int) = x from getD_of hx]
      refine ev_pos (by omega) (ev_pos (by omega) (ev_pos (by omega) (Ev.congr (fun k => ?_) hj)))
      simp only [impl_in_eq, Option.bind_some]
      unfold timeP
      by_cases h0 : x.f0 = 0
      · simp [h0]
      simp only [h0, if_false]
      by_cases h1 : x.f0 = 1
      · simp only [h1, if_true]
        by_cases h2 : x.f2 = 0
        · cases inR x.f1 0 (wrap64 (facts - 1)) <;> simp [h2]
        · have b2 : (x.f2 == 0) = false := by simpa using h2
          cases inR x.f1 0 (wrap64 (facts - 1)) <;> simp [h2, b2]
      simp only [h1, if_false]
      have e : inR x.f0 0 7 = inR x.f0 2 7 := by unfold inR; congr 1; apply propext; omega
      rw [e]
      by_cases h2 : x.f1 = 0
      · by_cases h5 : x.f2 = x.f3
        · cases inR x.f0 2 7 <;> cases inR x.f2 0 (wrap64 ((n : Int) - 1)) <;> cases inR x.f3 0 (wrap64 ((n : Int) - 1)) <;> simp [h2, h5]
        · have b5 : (x.f3 == x.f2) = false := by simpa using fun h => h5 h.symm
          by_cases h3 : x.f0 = 2
          · cases inR x.f0 2 7 <;> cases inR x.f2 0 (wrap64 ((n : Int) - 1)) <;> cases inR x.f3 0 (wrap64 ((n : Int) - 1)) <;> simp [h2, h3, h5, b5]
          · have b3 : (x.f0 == 2) = false := by simpa using h3
            cases inR x.f0 2 7 <;> cases inR x.f2 0 (wrap64 ((n : Int) - 1)) <;> cases inR x.f3 0 (wrap64 ((n : Int) - 1)) <;> simp [h2, h3, h5, b3, b5, bne]
      · have b2 : (x.f1 == 0) = false := by simpa using h2
        cases inR x.f0 2 7 <;> simp [h2, b2]
def stepsP (l : List ITime) : List Int := foldN (fun n s (x : ITime) => if x.f0 ≥ 5 then s ++ [(n : Int)] else s) 0 [] l
theorem foldN_steps (l : List ITime) : ∀ n s, (foldN (fun n s (x : ITime) => if x.f0 ≥ 5 then s ++ [(n : Int)] else s) n s l).length ≤ s.length + l.length := by
  induction l with
  | nil => intro n s; simp [foldN]
  | cons x l ih =>
    intro n s
    simp only [foldN]
    by_cases h : x.f0 ≥ 5
    · have := ih (n + 1) (s ++ [(n : Int)])
      rw [if_pos h]
      rw [List.length_append, List.length_singleton] at this
      rw [List.length_cons]
      omega
    · have := ih (n + 1) s
      rw [if_neg h, List.length_cons]
      omega
theorem stepsP_len (l : List ITime) : (stepsP l).length ≤ l.length := by
  have := foldN_steps l 0 []
  rw [List.length_nil, Nat.zero_add] at this
  exact this
theorem spec_l21Steps_ev (l : List ITime) (hl : l.length ≤ 1048576) : Ev (fun k => spec_l21Steps.f k l) (stepsP l) := by
  unfold spec_l21Steps.f stepsP
  refine ev_fold (fun k s i => spec_l21Steps.l0 k l s i) l _ (fun s => s) (fun n s => s.length ≤ n) (fun s hs => by
      refine Ev.step (fun k => by rw [spec_l21Steps.l0]) ?_
      exact ev_neg (by omega) (ev_ret _)) (fun n s x R hn hx hs ih => ?_) (fun n s x hn hx hs => ?_) [] (by simp)
  · refine Ev.step (fun k => by rw [spec_l21Steps.l0]) ?_
    rw [show rd_ITime l (n : Int) = x from getD_of hx, wrap_nat hn (by omega)]
    refine ev_pos (by omega) (ev_pos (by omega) ?_)
    by_cases h : x.f0 ≥ 5
    · simp only [h, if_true] at ih
      exact ev_pos h (ev_pos (by omega) ih)
    · simp only [h, if_false] at ih
      exact ev_neg h ih
  · split
    · simp; omega
    · omega
def guessedP (l : List ITime) (facts : Int) : List Int × Bool := if timesP l facts = true then (stepsP l, decide (facts + (stepsP l).length ≤ 7)) else ([], false)
theorem timesP_in {l : List ITime} {facts : Int} (h : timesP l facts = true) : (0 ≤ facts ∧ facts ≤ 4) ∧ 1 ≤ l.length ∧ l.length ≤ 24 := by
  simp only [timesP, Bool.and_eq_true, inR_iff] at h
  omega
theorem impl_guessed_ev (l : List ITime) (facts : Int) (hl : l.length ≤ 9223372036854775807) : Ev (fun k => impl_guessed.f k l facts) (guessedP l facts) := by
  unfold impl_guessed.f guessedP
  refine ev_bind (impl_TimesValid_ev l facts hl) ?_
  cases h : timesP l facts with
  | false => exact ev_neg (by simp) (ev_eq (ev_ret _) (by simp))
  | true =>
    obtain ⟨h1, h2⟩ := timesP_in h
    have hs := stepsP_len l
    refine ev_pos rfl ?_
    simp only [if_true]
    unfold stepsP at hs ⊢
    refine ev_fold (fun k s i => impl_guessed.l0 k facts s l (l.length : Int) i) l (fun n s (x : ITime) => if x.f0 ≥ 5 then s ++ [(n : Int)] else s) (fun s => (s, decide (facts + s.length ≤ 7))) (fun n s => s.length ≤ n) (fun s hs => ?_) (fun n s x R hn hx hs ih => ?_) (fun n s x hn hx hs => ?_) [] (by simp)
    · refine Ev.step (fun k => by rw [impl_guessed.l0]) (ev_neg (by omega) ?_)
      refine ev_bind (g := fun _ => impl_clone_int.f s) (ev_fix (by unfold impl_clone_int.f; rw [if_pos (by omega)])) (ev_eq (ev_ret _) ?_)
      rw [wrap_in (by omega) (by omega)]
    · refine Ev.step (fun k => by rw [impl_guessed.l0]) ?_
      rw [show rd_ITime l (n : Int) = x from getD_of hx, wrap_nat hn (by omega)]
      refine ev_pos (by omega) (ev_pos (by omega) (ev_pos (by omega) ?_))
      by_cases h : x.f0 ≥ 5
      · simp only [h, if_true] at ih
        exact ev_pos h (ev_pos (by omega) ih)
      · simp only [h, if_false] at ih
        exact ev_neg h ih
    · split
      · simp; omega
      · omega
def askedP (l : List ITime) (facts : Int) : Bool := timesP l facts && decide (facts + (stepsP l).length ≤ 7)
theorem spec_l21Asked_ev (l : List ITime) (facts : Int) (hl : l.length ≤ 1048576) : Ev (fun k => spec_l21Asked.f k l facts) (askedP l facts) := by
  unfold spec_l21Asked.f askedP
  refine ev_bind (spec_TimesValid_ev l facts (by omega)) ?_
  cases h : timesP l facts with
  | false => exact ev_neg (by simp) (ev_eq (ev_ret _) (by simp))
  | true =>
    obtain ⟨h1, h2⟩ := timesP_in h
    have hs := stepsP_len l
    refine ev_pos rfl (ev_bind (spec_l21Steps_ev l hl) (ev_eq (ev_ret _) ?_))
    rw [wrap_in (by omega) (by omega), Bool.true_and]
def cTime (x : LTime) : ITime := ⟨x.f0, x.f1, x.f2, x.f3⟩
theorem sz_times {l : List LTime} {a : Int} (h0 : 0 ≤ a) (h1 : a ≤ 1048576) (hn : l.length ≤ 9223372036854775807) : SzOk (fun _ => laws_szTimeS.f l a) a (l.length ≤ 1048576) := by
  unfold laws_szTimeS.f
  exact sz_len h0 h1 hn
theorem laws_toTimeS_ev (l : List LTime) (h : l.length ≤ 1048576) : Ev (fun k => laws_toTimeS.f k l) (l.map cTime) := by
  unfold laws_toTimeS.f
  refine ev_pos (by omega) (ev_pos (by omega) ?_)
  exact ev_fill (da := zLTime) (db := zITime) (fun k ys i => laws_toTimeS.l0 k l ys i) (fun k x => some (cTime x)) l cTime (by omega) (fun k ys i => by rw [laws_toTimeS.l0]; rfl) (fun x _ => ev_ret _)
theorem laws_eqTimeS_ev (l : List ITime) (h : l.length ≤ 1048576) : Ev (fun k => laws_eqTimeS.f k l l) true := by
  unfold laws_eqTimeS.f
  refine ev_pos rfl ?_
  exact ev_same (da := zITime) (fun k i => laws_eqTimeS.l0 k l l i) (fun k x y => laws_eqTime.f x.f0 x.f1 x.f2 x.f3 y.f0 y.f1 y.f2 y.f3) l l (by omega) rfl (fun k i => by rw [laws_eqTimeS.l0]; rfl) (fun x _ => by unfold laws_eqTime.f; simp only [if_true]; exact ev_ret _)
def bitNum (l : List Int) : Int := foldN (fun _ s x => wrap64 (wrap64 (2 * s) + x)) 0 0 l
theorem impl_bitsValue_ev (l : List Int) (hl : l.length ≤ 9223372036854775807) : Ev (fun k => impl_bitsValue.f k l) (bitNum l) := by
  unfold impl_bitsValue.f bitNum
  exact ev_fold0 (fun k s i => impl_bitsValue.l0 k s l (l.length : Int) i) l _ (fun s => s)
    (fun s => by
      refine Ev.step (fun k => by rw [impl_bitsValue.l0]) ?_
      exact ev_neg (by omega) (ev_ret _))
    (fun n s x R hn hx ih => by
      refine Ev.step (fun k => by rw [impl_bitsValue.l0]) ?_
      rw [show rd l (n : Int) = x from getD_of hx, wrap_nat hn (by omega)]
      exact ev_pos (by omega) (ev_pos (by omega) (ev_pos (by omega) ih))) 0
theorem spec_l6Number_ev (l : List Int) (hl : l.length ≤ 9223372036854775807) : Ev (fun k => spec_l6Number.f k l) (bitNum l) := by
  unfold spec_l6Number.f bitNum
  exact ev_fold0 (fun k s i => spec_l6Number.l0 k l s i) l _ (fun s => s)
    (fun s => by
      refine Ev.step (fun k => by rw [spec_l6Number.l0]) ?_
      exact ev_neg (by omega) (ev_ret _))
    (fun n s x R hn hx ih => by
      refine Ev.step (fun k => by rw [spec_l6Number.l0]) ?_
      rw [show rd l (n : Int) = x from getD_of hx, wrap_nat hn (by omega), Int.mul_comm s 2]
      exact ev_pos (by omega) (ev_pos (by omega) ih)) 0
def areBits (l : List Int) : Bool := l.all fun x => inR x 0 1
theorem spec_l6Are_ev (l : List Int) (hl : l.length ≤ 9223372036854775807) : Ev (fun k => spec_l6Are.f k l) (areBits l) := by
  unfold spec_l6Are.f
  refine ev_eq (ev_all (da := (0 : Int)) (fun k i => spec_l6Are.l0 k l i) (fun _ x => spec_l1In.f x 0 1) l (fun x => inR x 0 1) (fun _ => some true) true hl (ev_ret _) (fun k i => by rw [spec_l6Are.l0]; rfl) (fun x _ => ev_fix (spec_l1In_eq x 0 1))) ?_
  simp [areBits]
theorem impl_bitsValid_ev (l : List Int) (hl : l.length ≤ 9223372036854775807) : Ev (fun k => impl_bitsValid.f k l) (areBits l) := by
  unfold impl_bitsValid.f slices_ContainsFunc_at_impl_bitsValid_1.f slices_IndexFunc_at_impl_bitsValid_1.f
  refine ev_bind (ev_contains (da := (0 : Int)) (fun k i => slices_IndexFunc_at_impl_bitsValid_1.l0 k l (l.length : Int) i) (fun _ x => impl_bitsValid_1.f x) l (fun x => !inR x 0 1) hl (fun k i => by rw [slices_IndexFunc_at_impl_bitsValid_1.l0]; rfl)
    (fun x _ => ev_fix (by unfold impl_bitsValid_1.f; rw [impl_in_eq]; rfl))) (ev_eq (ev_ret _) ?_)
  unfold areBits
  rw [List.not_any_eq_all_not]
  simp
theorem rd_at {set : List Int} {n : Nat} (h : n < set.length) : rd set (n : Int) = set[n] := getD_of (List.getElem?_eq_getElem h)
theorem bit_cases {x : Int} (h : inR x 0 1 = true) : x = 0 ∨ x = 1 := by have := inR_iff.1 h; omega
theorem bits_at {v : List Int} (h : areBits v = true) (i : Nat) : v.getD i 0 = 0 ∨ v.getD i 0 = 1 := by
  rw [List.getD_eq_getElem?_getD]
  cases e : v[i]? with
  | none => exact .inl rfl
  | some x => exact bit_cases (List.all_eq_true.1 h x (List.mem_of_getElem? e))
theorem mul_bit {a b : Int} (ha : a = 0 ∨ a = 1) (hb : b = 0 ∨ b = 1) : (a * b = 0 ∨ a * b = 1) ∧ wrap64 (a * b) = a * b ∧ Go.bits .and .i64 a b = a * b := by
  rcases ha with rfl | rfl <;> rcases hb with rfl | rfl <;> decide +kernel
def lasAll (a b : List (List Int)) : List (List Int) := a ++ (b ++ b.take 1)
theorem spec_l3At_eq {a b : List (List Int)} (hb : 0 < b.length) {i : Nat} (hi : i ≤ a.length + b.length) (hn : a.length + b.length ≤ 9999999) : spec_l3At.f a b (i : Int) = some ((lasAll a b).getD i []) := by
  unfold spec_l3At.f lasAll
  by_cases h : i < a.length
  · rw [if_pos (by omega), if_pos (by omega), List.getD_eq_getElem?_getD, List.getElem?_append_left h]
    rw [show rd_Lint a (i : Int) = a.getD i [] from rfl, List.getD_eq_getElem?_getD]
  · rw [if_neg (by omega), if_neg (by omega), wrap_in (by omega) (by omega)]
    have e : ((i : Int) - (a.length : Int)) = ((i - a.length : Nat) : Int) := by omega
    rw [e, show Int.tmod ((i - a.length : Nat) : Int) (b.length : Int) = (((i - a.length) % b.length : Nat) : Int) from rfl]
    have hm := Nat.mod_lt (i - a.length) hb
    rw [if_pos (by omega), if_pos (by omega), show rd_Lint b ((((i - a.length) % b.length : Nat)) : Int) = b.getD ((i - a.length) % b.length) [] from rfl, List.getD_eq_getElem?_getD, List.getD_eq_getElem?_getD, List.getElem?_append_right (by omega)]
    by_cases h2 : i - a.length < b.length
    · rw [Nat.mod_eq_of_lt h2, List.getElem?_append_left h2]
    · have e2 : i - a.length = b.length := by omega
      rw [e2, Nat.mod_self, List.getElem?_append_right (by omega), Nat.sub_self, List.getElem?_take]
      simp
def letterP (facts : Int) (l : List Int) : Bool := decide ((l.length : Int) = facts) && areBits l
def wordP (stem loop : List (List Int)) (facts : Int) : Bool := inR facts 0 4 && (decide (0 < loop.length) && (decide (stem.length + loop.length ≤ 60) && (stem.all (letterP facts) && loop.all (letterP facts))))
theorem spec_l20Letters_ev (l : List (List Int)) (facts : Int) (hl : l.length ≤ 9223372036854775807) (hx : ∀ x ∈ l, x.length ≤ 9223372036854775807) : Ev (fun k => spec_l20Letters.f k l facts) (l.all (letterP facts)) := by
  unfold spec_l20Letters.f
  rw [← Bool.and_true (l.all _)]
  refine ev_all (da := ([] : List Int)) (fun k i => spec_l20Letters.l0 k l facts i) (fun k c => if (c.length : Int) = facts then spec_l6Are.f k c else some false) l (letterP facts) (fun _ => some true) true hl (ev_ret _) (fun k i => ?_) (fun c hc => ?_)
  · rw [spec_l20Letters.l0]
    show (if i < (l.length : Int) then (if 0 ≤ i then (if ((l.getD i.toNat []).length : Int) = facts then _ else _) else _) else _) = _
    by_cases h : i < (l.length : Int)
    · rw [if_pos h, if_pos h]
      by_cases h0 : 0 ≤ i
      · rw [if_pos h0, if_pos h0]
        by_cases h1 : ((l.getD i.toNat []).length : Int) = facts
        · rw [if_pos h1, if_pos h1]; rfl
        · rw [if_neg h1, if_neg h1]; rfl
      · rw [if_neg h0, if_neg h0]
    · rw [if_neg h, if_neg h]
  · unfold letterP
    by_cases h1 : (c.length : Int) = facts
    · exact ev_pos h1 (ev_eq (spec_l6Are_ev c (hx c hc)) (by simp [h1]))
    · exact ev_neg h1 (ev_eq (ev_ret _) (by simp [h1]))
theorem spec_WordValid_ev (stem loop : List (List Int)) (facts : Int) (h1 : stem.length ≤ 1048576 ∧ ∀ x ∈ stem, x.length ≤ 1048576) (h2 : loop.length ≤ 1048576 ∧ ∀ x ∈ loop, x.length ≤ 1048576) : Ev (fun k => spec_WordValid.f k stem loop facts) (wordP stem loop facts) := by
  have e1 := spec_l20Letters_ev stem facts (by omega) (fun x hx => by have := h1.2 x hx; omega)
  have e2 := spec_l20Letters_ev loop facts (by omega) (fun x hx => by have := h2.2 x hx; omega)
  unfold spec_WordValid.f wordP
  rw [spec_l1In_eq, wrap_in (x := (stem.length : Int) + loop.length) (by omega) (by omega)]
  refine ev_bind (ev_ret _) ?_
  cases inR facts 0 4 with
  | false => exact ev_neg (by simp) (ev_ret _)
  | true =>
    refine ev_pos rfl ?_
    by_cases a : 0 < loop.length
    · refine ev_pos (by omega) ?_
      by_cases b : stem.length + loop.length ≤ 60
      · refine ev_pos (by omega) (ev_bind e1 ?_)
        rw [decide_eq_true a, decide_eq_true b, Bool.true_and, Bool.true_and, Bool.true_and]
        cases stem.all (letterP facts) with
        | false => exact ev_neg (by simp) (ev_ret _)
        | true => exact ev_pos rfl (ev_bind e2 (ev_ret _))
      · exact ev_neg (by omega) (ev_eq (ev_ret _) (by simp [b]))
    · exact ev_neg (by omega) (ev_eq (ev_ret _) (by simp [a]))
theorem all_any' {α : Type} (l : List α) (p : α → Bool) : (!l.any fun x => !p x) = l.all p := by
  induction l with
  | nil => rfl
  | cons a l ih => rw [List.any_cons, List.all_cons, Bool.not_or, Bool.not_not, ih]
theorem impl_bad_ev (l : List (List Int)) (facts : Int) (hl : l.length ≤ 9223372036854775807) (hx : ∀ x ∈ l, x.length ≤ 9223372036854775807) : Ev (fun k => slices_ContainsFunc_int_int_at_impl_WordValid_1.f k l facts) (!l.all (letterP facts)) := by
  rw [← all_any', Bool.not_not]
  unfold slices_ContainsFunc_int_int_at_impl_WordValid_1.f slices_IndexFunc_int_int_at_impl_WordValid_1.f
  refine ev_contains (da := ([] : List Int)) (fun k i => slices_IndexFunc_int_int_at_impl_WordValid_1.l1 k i l facts) (fun k x => impl_WordValid_1.f k x facts) l (fun x => !letterP facts x) hl (fun k i => by rw [slices_IndexFunc_int_int_at_impl_WordValid_1.l1]; rfl) (fun c hc => ?_)
  unfold impl_WordValid_1.f impl_letterOk.f letterP
  by_cases h1 : (c.length : Int) = facts
  · exact ev_bind (ev_pos h1 (ev_bind (impl_bitsValid_ev c (hx c hc)) (ev_ret _))) (ev_eq (ev_ret _) (by simp [h1]))
  · exact ev_bind (ev_neg h1 (ev_ret _)) (ev_eq (ev_ret _) (by simp [h1]))
theorem impl_WordValid_ev (stem loop : List (List Int)) (facts : Int) (h1 : stem.length ≤ 1048576 ∧ ∀ x ∈ stem, x.length ≤ 1048576) (h2 : loop.length ≤ 1048576 ∧ ∀ x ∈ loop, x.length ≤ 1048576) : Ev (fun k => impl_WordValid.f k stem loop facts) (wordP stem loop facts) := by
  have e1 := impl_bad_ev stem facts (by omega) (fun x hx => by have := h1.2 x hx; omega)
  have e2 := impl_bad_ev loop facts (by omega) (fun x hx => by have := h2.2 x hx; omega)
  unfold impl_WordValid.f wordP
  rw [impl_in_eq, wrap_in (x := (stem.length : Int) + loop.length) (by omega) (by omega)]
  refine ev_bind (ev_ret _) ?_
  cases inR facts 0 4 with
  | false => exact ev_neg (by simp) (ev_ret _)
  | true =>
    refine ev_pos rfl ?_
    by_cases a : 0 < loop.length
    · refine ev_pos (by omega) ?_
      by_cases b : stem.length + loop.length ≤ 60
      · refine ev_pos (by omega) (ev_bind e1 ?_)
        rw [decide_eq_true a, decide_eq_true b, Bool.true_and, Bool.true_and, Bool.true_and]
        cases stem.all (letterP facts) with
        | false => exact ev_pos rfl (ev_ret _)
        | true => exact ev_neg (by simp) (ev_bind e2 (ev_eq (ev_ret _) (by simp)))
      · exact ev_neg (by omega) (ev_eq (ev_ret _) (by simp [b]))
    · exact ev_neg (by omega) (ev_eq (ev_ret _) (by simp [a]))
theorem wordP_and {stem loop : List (List Int)} {facts : Int} (h : wordP stem loop facts = true) : (0 ≤ facts ∧ facts ≤ 4) ∧ 0 < loop.length ∧ stem.length + loop.length ≤ 60 ∧ ∀ x ∈ stem ++ loop, (x.length : Int) = facts ∧ areBits x = true := by
  unfold wordP at h
  simp only [Bool.and_eq_true, inR_iff, decide_eq_true_eq, List.all_eq_true] at h
  obtain ⟨a, b, c, d, e⟩ := h
  refine ⟨a, b, c, fun x hx => ?_⟩
  have : letterP facts x = true := by
    rcases List.mem_append.1 hx with hx | hx
    · exact d x hx
    · exact e x hx
  unfold letterP at this
  simpa using this
theorem concat2_ev (a b : List (List Int)) (h : a.length + b.length ≤ 9999999) : Ev (fun k => slices_Concat_int_int.f k [a, b]) (a ++ b) := by
  unfold slices_Concat_int_int.f
  have w : ∀ n : Nat, n ≤ 9999999 → wrap64 (n : Int) = n := fun n hn => wrap_in (by omega) (by omega)
  have e0 : rd_LLint [a, b] 0 = a := rfl
  have e1 : rd_LLint [a, b] 1 = b := rfl
  have w1 : wrap64 (0 + (a.length : Int)) = (a.length : Int) := by rw [Int.zero_add]; exact w _ (by omega)
  have w2 : wrap64 ((a.length : Int) + (b.length : Int)) = ((a.length + b.length : Nat) : Int) := by rw [← Int.natCast_add]; exact w _ (by omega)
  refine Ev.step (fun k => by rw [slices_Concat_int_int.l1, e0, w1, show wrap64 (0 + 1) = 1 from wrap_in (by omega) (by omega)]) ?_
  refine ev_pos (by simp) (ev_pos (by omega) (ev_pos (by simp) (ev_neg (by omega) ?_)))
  refine Ev.step (fun k => by rw [slices_Concat_int_int.l1, e1, w2, show wrap64 (1 + 1) = 2 from wrap_in (by omega) (by omega)]) ?_
  refine ev_pos (by simp) (ev_pos (by omega) (ev_pos (by simp) (ev_neg (by omega) ?_)))
  refine Ev.step (fun k => by rw [slices_Concat_int_int.l1]) ?_
  refine ev_neg (by simp) (ev_bind (g := fun _ => slices_Grow_int_int.f ([] : List (List Int)) ((a.length + b.length : Nat) : Int)) (ev_fix (by unfold slices_Grow_int_int.f; rw [if_pos (by omega), if_pos (by omega)])) ?_)
  refine Ev.step (fun k => by rw [slices_Concat_int_int.l2, e0, show wrap64 (0 + 1) = 1 from wrap_in (by omega) (by omega), List.nil_append]) ?_
  refine ev_pos (by simp) (ev_pos (by omega) (ev_pos (by simp) (ev_pos (by simp; omega) ?_)))
  refine Ev.step (fun k => by rw [slices_Concat_int_int.l2, e1, show wrap64 (1 + 1) = 2 from wrap_in (by omega) (by omega)]) ?_
  refine ev_pos (by simp) (ev_pos (by omega) (ev_pos (by simp) (ev_pos (by omega) ?_)))
  refine Ev.step (fun k => by rw [slices_Concat_int_int.l2]) ?_
  exact ev_neg (by simp) (ev_ret _)
def nxt (st N i : Nat) : Nat := if i + 1 < N then i + 1 else st
def chn (G : Nat → Int → Int) (N : Nat) (y : Int) : Nat → Int
  | 0 => G (N - 1) y
  | d + 1 => G (N - 1 - (d + 1)) (chn G N y d)
def swp (G : Nat → Int → Int) (N : Nat) (y : Int) : List Int := (List.range N).map fun i => chn G N y (N - 1 - i)
def isBit (x : Int) : Prop := x = 0 ∨ x = 1
theorem swp_len (G : Nat → Int → Int) (N : Nat) (y : Int) : (swp G N y).length = N := by simp [swp]
theorem swp_at {G : Nat → Int → Int} {N : Nat} {y : Int} {i : Nat} (h : i < N) : (swp G N y).getD i 0 = chn G N y (N - 1 - i) := by
  unfold swp
  rw [List.getD_eq_getElem?_getD, List.getElem?_map, List.getElem?_range h]; rfl
theorem chn_bit {G : Nat → Int → Int} {N : Nat} {y : Int} (hG : ∀ i n, isBit (G i n)) : ∀ d, isBit (chn G N y d)
  | 0 => hG _ _
  | d + 1 => hG _ _
theorem swp_bit {G : Nat → Int → Int} {N : Nat} {y : Int} (hG : ∀ i n, isBit (G i n)) (i : Nat) : isBit ((swp G N y).getD i 0) := by
  by_cases h : i < N
  · rw [swp_at h]; exact chn_bit hG _
  · left
    rw [List.getD_eq_getElem?_getD, List.getElem?_eq_none (by rw [swp_len]; omega)]; rfl
theorem chn_mono {G : Nat → Int → Int} {N : Nat} (hM : ∀ i, G i 0 ≤ G i 1) (hG : ∀ i n, isBit (G i n)) : ∀ d, chn G N 0 d ≤ chn G N 1 d
  | 0 => hM _
  | d + 1 => by
    have ih := chn_mono hM hG (N := N) d
    have a := chn_bit hG (N := N) (y := 0) d
    have b := chn_bit hG (N := N) (y := 1) d
    unfold chn
    have h1 := hG (N - 1 - (d + 1)) 0
    have h2 := hG (N - 1 - (d + 1)) 1
    have hm := hM (N - 1 - (d + 1))
    unfold isBit at a b h1 h2
    rcases a with a | a <;> rcases b with b | b <;> rw [a, b] <;> first | exact hm | exact Int.le_refl _ | omega
theorem chn_fix {G : Nat → Int → Int} {N : Nat} (hM : ∀ i, G i 0 ≤ G i 1) (hG : ∀ i n, isBit (G i n)) {y : Int} (hy : isBit y) (d : Nat) : chn G N (chn G N y d) d = chn G N y d := by
  have m := chn_mono hM hG (N := N) d
  have a := chn_bit hG (N := N) (y := 0) d
  have b := chn_bit hG (N := N) (y := 1) d
  have c := chn_bit hG (N := N) (y := y) d
  unfold isBit at a b c hy
  rcases hy with rfl | rfl <;> rcases c with c | c <;> rw [c] <;> omega
theorem ev_sweep {ρ : Type} (L : Nat → List Int → Int → Option ρ) (G : Nat → Int → Int) (st N : Nat) (hG : ∀ i n, isBit (G i n)) (hst : st < N) (r : ρ) {v : List Int} (hv : v.length = N) (hb : ∀ j, isBit (v.getD j 0))
    (hstep : ∀ (i : Nat) (v : List Int), i < N → v.length = N → (∀ j, isBit (v.getD j 0)) → Ev (fun k => L k (v.set i (G i (v.getD (nxt st N i) 0))) ((i : Int) - 1)) r → Ev (fun k => L k v (i : Int)) r)
    (hend : Ev (fun k => L k (swp G N (v.getD st 0)) (-1)) r) : Ev (fun k => L k v ((N : Int) - 1)) r := by
  generalize hS : swp G N (v.getD st 0) = S at hend
  have hSl : S.length = N := by rw [← hS]; exact swp_len _ _ _
  have hmix : ∀ i j, i ≤ N → (v.take i ++ S.drop i).getD j 0 = if j < i then v.getD j 0 else S.getD j 0 := fun i j hi => by
    rw [List.getD_eq_getElem?_getD, List.getElem?_append, List.length_take, hv, Nat.min_eq_left hi]
    by_cases h : j < i
    · rw [if_pos h, if_pos h, List.getElem?_take_of_lt h, ← List.getD_eq_getElem?_getD]
    · rw [if_neg h, if_neg h, List.getElem?_drop, show i + (j - i) = j by omega, ← List.getD_eq_getElem?_getD]
  have key : ∀ i : Nat, i ≤ N → Ev (fun k => L k (v.take i ++ S.drop i) ((i : Int) - 1)) r := by
    intro i
    induction i with
    | zero => intro _; simpa using hend
    | succ i ih =>
      intro hi
      have hlen : (v.take (i + 1) ++ S.drop (i + 1)).length = N := by rw [List.length_append, List.length_take, List.length_drop]; omega
      have hbit : ∀ j, isBit ((v.take (i + 1) ++ S.drop (i + 1)).getD j 0) := fun j => by
        rw [hmix _ _ hi]
        split
        · exact hb j
        · rw [← hS]; exact swp_bit hG j
      have hx : G i ((v.take (i + 1) ++ S.drop (i + 1)).getD (nxt st N i) 0) = S.getD i 0 := by
        have hSi : S.getD i 0 = chn G N (v.getD st 0) (N - 1 - i) := by rw [← hS]; exact swp_at (by omega)
        rw [hmix _ _ hi, hSi]
        unfold nxt
        by_cases c : i + 1 < N
        · have hSj : S.getD (i + 1) 0 = chn G N (v.getD st 0) (N - 1 - (i + 1)) := by rw [← hS]; exact swp_at c
          rw [if_pos c, if_neg (by omega), hSj]
          obtain ⟨d, hd⟩ : ∃ d, N - 1 - i = d + 1 := ⟨N - 1 - i - 1, by omega⟩
          rw [hd, show N - 1 - (i + 1) = d by omega]
          have e : N - 1 - (d + 1) = i := by omega
          conv => rhs; unfold chn
          rw [e]
        · rw [if_neg c, if_pos (by omega), show N - 1 - i = 0 by omega]
          have e : N - 1 = i := by omega
          unfold chn
          rw [e]
      have hset : (v.take (i + 1) ++ S.drop (i + 1)).set i (S.getD i 0) = v.take i ++ S.drop i := by
        rw [List.set_append, if_pos (by rw [List.length_take]; omega), List.drop_eq_getElem_cons (l := S) (i := i) (by omega), List.take_succ_eq_append_getElem (by omega), List.set_append, if_neg (by rw [List.length_take]; omega), List.length_take, Nat.min_eq_left (by omega), Nat.sub_self, List.set_cons_zero, List.append_assoc, List.getD_eq_getElem?_getD, List.getElem?_eq_getElem (by omega)]
        rfl
      have ih := ih (by omega)
      have := hstep i (v.take (i + 1) ++ S.drop (i + 1)) (by omega) hlen hbit (by rw [hx, hset]; exact ih)
      rw [show (((i + 1 : Nat) : Int) - 1) = (i : Int) by omega]
      exact this
  have := key N (Nat.le_refl _)
  rw [List.take_of_length_le (by omega), List.drop_of_length_le (by omega), List.append_nil] at this
  exact this
def stG (op : Int) (a b : List Int) (i : Nat) (n : Int) : Int :=
  if op = 6 then (if b.getD i 0 = 1 ∨ (a.getD i 0 = 1 ∧ n = 1) then 1 else 0) else (if b.getD i 0 = 1 ∧ (a.getD i 0 = 1 ∨ n = 1) then 1 else 0)
theorem stG_bit (op : Int) (a b : List Int) (i : Nat) (n : Int) : isBit (stG op a b i n) := by
  unfold stG isBit
  split <;> split <;> simp
theorem stG_mono (op : Int) (a b : List Int) (i : Nat) : stG op a b i 0 ≤ stG op a b i 1 := by
  unfold stG
  split <;> split <;> split <;> simp_all
def startV (op : Int) : Int := if op = 7 then 1 else 0
def laterV (op : Int) (a b : List Int) (st N : Nat) : List Int := swp (stG op a b) N (chn (stG op a b) N (startV op) (N - 1 - st))
def plainV (t : ITime) (rows w : List (List Int)) (st N : Nat) (i : Nat) : Int :=
  if t.f0 = 1 then (w.getD i []).getD t.f1.toNat 0
  else if t.f0 = 2 then 1 - (rows.getD t.f2.toNat []).getD i 0
  else if t.f0 = 3 then (rows.getD t.f2.toNat []).getD i 0 * (rows.getD t.f3.toNat []).getD i 0
  else if t.f0 = 4 then (if (rows.getD t.f2.toNat []).getD i 0 + (rows.getD t.f3.toNat []).getD i 0 > 0 then 1 else 0)
  else if t.f0 = 5 then (rows.getD t.f2.toNat []).getD (nxt st N i) 0
  else 1
def rowV (t : ITime) (rows w : List (List Int)) (st : Nat) : List Int :=
  if t.f0 ≥ 6 then laterV t.f0 (rows.getD t.f2.toNat []) (rows.getD t.f3.toNat []) st w.length else (List.range w.length).map (plainV t rows w st w.length)
def rowsV (w : List (List Int)) (st : Nat) : List ITime → List (List Int) → List (List Int)
  | [], rows => rows
  | t :: r, rows => rowsV w st r (rows ++ [rowV t rows w st])
def RowsOk (rows : List (List Int)) (N : Nat) : Prop := ∀ r ∈ rows, r.length = N ∧ ∀ j, isBit (r.getD j 0)
theorem timeP_cases {facts : Int} {n : Nat} {t : ITime} (hf : 0 ≤ facts ∧ facts ≤ 4) (hn : n ≤ 24) (h : timeP facts n t = true) : t.f0 = 0 ∨ (t.f0 = 1 ∧ 0 ≤ t.f1 ∧ t.f1 < facts) ∨ (2 ≤ t.f0 ∧ t.f0 ≤ 7 ∧ (0 ≤ t.f2 ∧ t.f2 < n) ∧ (0 ≤ t.f3 ∧ t.f3 < n)) := by
  unfold timeP at h
  by_cases h0 : t.f0 = 0
  · exact .inl h0
  rw [if_neg h0, wrap_in (x := facts - 1) (by omega) (by omega), wrap_in (x := (n : Int) - 1) (by omega) (by omega)] at h
  by_cases h1 : t.f0 = 1
  · rw [if_pos h1] at h
    simp only [Bool.and_eq_true, inR_iff] at h
    exact .inr (.inl ⟨h1, by omega, by omega⟩)
  · rw [if_neg h1] at h
    simp only [Bool.and_eq_true, inR_iff] at h
    obtain ⟨a, _, b, c, _⟩ := h
    exact .inr (.inr ⟨by omega, by omega, by omega, by omega⟩)
theorem rows_at {rows : List (List Int)} {N : Nat} (h : RowsOk rows N) {i : Int} (h0 : 0 ≤ i) (h1 : i < rows.length) : rd_Lint rows i = rows.getD i.toNat [] ∧ (rows.getD i.toNat []).length = N ∧ ∀ j, isBit ((rows.getD i.toNat []).getD j 0) := by
  have hm : rows.getD i.toNat [] ∈ rows := by
    rw [List.getD_eq_getElem?_getD, List.getElem?_eq_getElem (by omega)]
    exact List.getElem_mem _
  exact ⟨rfl, h _ hm⟩
theorem spec_l20Next_eq {st N i : Nat} (h : i < N) (hN : N ≤ 1048576) : spec_l20Next.f (i : Int) (st : Int) (N : Int) = some ((nxt st N i : Nat) : Int) := by
  unfold spec_l20Next.f nxt
  rw [wrap_nat (n := i) (m := N) h (by omega)]
  by_cases c : i + 1 < N
  · rw [if_pos (by omega), if_pos c]
  · rw [if_neg (by omega), if_neg c]
theorem nxt_lt {st N i : Nat} (h : st < N) : nxt st N i < N := by unfold nxt; split <;> omega
def vst (G : Nat → Int → Int) (st N : Nat) (v : List Int) : Nat → List Int
  | 0 => v
  | m + 1 => swp G N ((vst G st N v m).getD st 0)
theorem vst_fix {G : Nat → Int → Int} {st N : Nat} {v : List Int} (hst : st < N) (hM : ∀ i, G i 0 ≤ G i 1) (hG : ∀ i n, isBit (G i n)) (hb : isBit (v.getD st 0)) : ∀ m, vst G st N v (m + 2) = swp G N (chn G N (v.getD st 0) (N - 1 - st))
  | 0 => by
    show swp G N ((swp G N (v.getD st 0)).getD st 0) = _
    rw [swp_at hst]
  | m + 1 => by
    show swp G N ((vst G st N v (m + 2)).getD st 0) = _
    rw [vst_fix hst hM hG hb m, swp_at hst, chn_fix hM hG hb]
theorem vst_ok {G : Nat → Int → Int} {st N : Nat} {v : List Int} (hG : ∀ i n, isBit (G i n)) (hv : v.length = N) (hb : ∀ j, isBit (v.getD j 0)) : ∀ m, (vst G st N v m).length = N ∧ ∀ j, isBit ((vst G st N v m).getD j 0)
  | 0 => ⟨hv, hb⟩
  | m + 1 => ⟨swp_len _ _ _, fun j => swp_bit hG j⟩
theorem rep_bit {N : Nat} {x : Int} (hx : isBit x) (j : Nat) : isBit ((List.replicate N x).getD j 0) := by
  rw [List.getD_eq_getElem?_getD]
  by_cases h : j < N
  · rw [List.getElem?_replicate, if_pos h]; exact hx
  · rw [List.getElem?_replicate, if_neg h]; exact .inl rfl
theorem startV_bit (op : Int) : isBit (startV op) := by unfold startV isBit; split <;> simp
theorem spec_l20Later_ev {t : ITime} {rows : List (List Int)} {st N : Nat} (hr : RowsOk rows N) (hop : t.f0 = 6 ∨ t.f0 = 7) (h2 : 0 ≤ t.f2 ∧ t.f2 < rows.length) (h3 : 0 ≤ t.f3 ∧ t.f3 < rows.length) (hst : st < N) (hN : N ≤ 60) :
    Ev (fun k => spec_l20Later.f k t.f0 t.f1 t.f2 t.f3 rows (st : Int) (N : Int)) (laterV t.f0 (rows.getD t.f2.toNat []) (rows.getD t.f3.toNat []) st N) := by
  obtain ⟨ea, la, ba⟩ := rows_at hr h2.1 h2.2
  obtain ⟨eb, lb, bb⟩ := rows_at hr h3.1 h3.2
  unfold spec_l20Later.f laterV
  generalize hA : rows.getD t.f2.toNat [] = a at *
  generalize hB : rows.getD t.f3.toNat [] = b at *
  have hG : ∀ i n, isBit (stG t.f0 a b i n) := stG_bit _ _ _
  have hM : ∀ i, stG t.f0 a b i 0 ≤ stG t.f0 a b i 1 := stG_mono _ _ _
  have hR : vst (stG t.f0 a b) st N (List.replicate N (startV t.f0)) (N + 1) = swp (stG t.f0 a b) N (chn (stG t.f0 a b) N (startV t.f0) (N - 1 - st)) := by
    obtain ⟨m, hm⟩ : ∃ m, N + 1 = m + 2 := ⟨N - 1, by omega⟩
    rw [hm, vst_fix hst hM hG (rep_bit (startV_bit _) _)]
    congr 2
    rw [List.getD_eq_getElem?_getD, List.getElem?_replicate, if_pos hst]; rfl
  rw [← hR]
  generalize hv0 : List.replicate N (startV t.f0) = v0
  have hv0l : v0.length = N := by rw [← hv0]; simp
  have hv0b : ∀ j, isBit (v0.getD j 0) := fun j => by rw [← hv0]; exact rep_bit (startV_bit _) j
  have outer : ∀ d m : Nat, N + 1 - m = d → m ≤ N + 1 → Ev (fun k => spec_l20Later.l1 k rows (st : Int) (N : Int) (vst (stG t.f0 a b) st N v0 m) (m : Int) t.f0 t.f1 t.f2 t.f3) (vst (stG t.f0 a b) st N v0 (N + 1)) := by
    intro d
    induction d with
    | zero =>
      intro m g1 g2
      have : m = N + 1 := by omega
      subst this
      exact Ev.step (fun k => by rw [spec_l20Later.l1]) (ev_neg (by omega) (ev_ret _))
    | succ d ih =>
      intro m g1 g2
      have ih := ih (m + 1) (by omega) (by omega)
      obtain ⟨vl, vb⟩ := vst_ok (st := st) hG hv0l hv0b m
      refine Ev.step (fun k => by rw [spec_l20Later.l1, wrap_in (x := (N : Int) - 1) (by omega) (by omega)]) (ev_pos (by omega) ?_)
      refine ev_sweep (fun k v i => spec_l20Later.l2 k rows (st : Int) (N : Int) v (m : Int) i t.f0 t.f1 t.f2 t.f3) (stG t.f0 a b) st N hG hst _ vl vb (fun i v hi hl hb hn => ?_) ?_
      · have hn1 : nxt st N i < N := nxt_lt hst
        have wd : wrap64 ((i : Int) - 1) = (i : Int) - 1 := wrap_in (by omega) (by omega)
        have ra : rd a (i : Int) = a.getD i 0 := rfl
        have rb : rd b (i : Int) = b.getD i 0 := rfl
        have rv : rd v ((nxt st N i : Nat) : Int) = v.getD (nxt st N i) 0 := rfl
        have hset : ∀ x, (v.set (i : Int).toNat x) = v.set i x := fun x => by rw [Int.toNat_natCast]
        refine Ev.step (fun k => by rw [spec_l20Later.l2, ea, eb, spec_l20Next_eq hi (by omega), wd, ra, rb]) ?_
        clear wd
        refine ev_pos (by omega) (ev_pos h2.1 (ev_pos h2.2 (ev_pos (by omega) (ev_pos (by omega) (ev_pos h3.1 (ev_pos h3.2 (ev_pos (by omega) (ev_bind (ev_ret _) (ev_pos (by omega) (ev_pos (by omega) ?_))))))))))
        rw [rv]
        unfold stG at hn
        have tr : ∀ q : Bool, spec_l1Truth.f q = some (if q = true then 1 else 0) := fun q => by unfold spec_l1Truth.f; cases q <;> rfl
        have put : ∀ x : Int, x = (if t.f0 = 6 then (if b.getD i 0 = 1 ∨ (a.getD i 0 = 1 ∧ v.getD (nxt st N i) 0 = 1) then 1 else 0) else (if b.getD i 0 = 1 ∧ (a.getD i 0 = 1 ∨ v.getD (nxt st N i) 0 = 1) then 1 else 0)) →
            Ev (fun k => if (i : Int) < (v.length : Int) then spec_l20Later.l2 k rows (st : Int) (N : Int) (v.set ((i : Int)).toNat x) (m : Int) ((i : Int) - 1) t.f0 t.f1 t.f2 t.f3 else none) (vst (stG t.f0 a b) st N v0 (N + 1)) := fun x hx => by
          refine ev_pos (by omega) ?_
          rw [hset, hx]
          exact hn
        by_cases o6 : t.f0 = 6
        · refine ev_pos o6 ?_
          by_cases c1 : b.getD i 0 = 1
          · exact ev_pos c1 (ev_bind (ev_fix (show spec_l1Truth.f true = some 1 from rfl)) (put _ (by rw [if_pos o6, if_pos (.inl c1)])))
          · refine ev_neg c1 ?_
            by_cases c2 : a.getD i 0 = 1
            · refine ev_pos c2 (ev_bind (ev_fix (tr _)) (put _ ?_))
              rw [if_pos o6]
              by_cases c3 : v.getD (nxt st N i) 0 = 1
              · rw [if_pos (by simpa using c3), if_pos (.inr ⟨c2, c3⟩)]
              · rw [if_neg (by simpa using c3), if_neg (fun h => h.elim c1 fun h => c3 h.2)]
            · exact ev_neg c2 (ev_bind (ev_fix (show spec_l1Truth.f false = some 0 from rfl)) (put _ (by rw [if_pos o6, if_neg (fun h => h.elim c1 fun h => c2 h.1)])))
        · refine ev_neg o6 ?_
          by_cases c1 : b.getD i 0 = 1
          · refine ev_pos c1 ?_
            by_cases c2 : a.getD i 0 = 1
            · exact ev_pos c2 (ev_bind (ev_fix (show spec_l1Truth.f true = some 1 from rfl)) (put _ (by rw [if_neg o6, if_pos ⟨c1, .inl c2⟩])))
            · refine ev_neg c2 (ev_bind (ev_fix (tr _)) (put _ ?_))
              rw [if_neg o6]
              by_cases c3 : v.getD (nxt st N i) 0 = 1
              · rw [if_pos (by simpa using c3), if_pos ⟨c1, .inr c3⟩]
              · rw [if_neg (by simpa using c3), if_neg (fun h => h.2.elim c2 c3)]
          · exact ev_neg c1 (ev_bind (ev_fix (show spec_l1Truth.f false = some 0 from rfl)) (put _ (by rw [if_neg o6, if_neg (fun h => c1 h.1)])))
      · have ih' : Ev (fun k => spec_l20Later.l1 k rows (st : Int) (N : Int) (swp (stG t.f0 a b) N ((vst (stG t.f0 a b) st N v0 m).getD st 0)) ((m + 1 : Nat) : Int) t.f0 t.f1 t.f2 t.f3) (vst (stG t.f0 a b) st N v0 (N + 1)) := ih
        exact Ev.step (fun k => by rw [spec_l20Later.l2, show wrap64 ((m : Int) + 1) = ((m + 1 : Nat) : Int) from wrap_nat (m := 1048576) (by omega) (by omega)]) (ev_neg (by omega) ih')
  have fill : ∀ d n : Nat, N - n = d → n ≤ N → Ev (fun k => spec_l20Later.l0 k rows (st : Int) (N : Int) (List.replicate n (startV t.f0)) (n : Int) t.f0 t.f1 t.f2 t.f3) (vst (stG t.f0 a b) st N v0 (N + 1)) := by
    intro d
    induction d with
    | zero =>
      intro n g1 g2
      have : n = N := by omega
      subst this
      rw [hv0]
      have o0 : Ev (fun k => spec_l20Later.l1 k rows (st : Int) (n : Int) v0 0 t.f0 t.f1 t.f2 t.f3) (vst (stG t.f0 a b) st n v0 (n + 1)) := outer (n + 1) 0 (by omega) (by omega)
      exact Ev.step (fun k => by rw [spec_l20Later.l0]) (ev_neg (by omega) o0)
    | succ d ih =>
      intro n g1 g2
      have ih := ih (n + 1) (by omega) (by omega)
      rw [List.replicate_succ', ← show startV t.f0 = startV t.f0 from rfl] at ih
      refine Ev.step (fun k => by rw [spec_l20Later.l0, wrap_nat (n := n) (m := N) (by omega) (by omega)]) (ev_pos (by omega) ?_)
      rcases hop with o | o
      · have e : startV t.f0 = 0 := by unfold startV; rw [if_neg (by omega)]
        rw [e] at ih ⊢
        exact ev_neg (by omega) (ev_pos (by simp; omega) ih)
      · have e : startV t.f0 = 1 := by unfold startV; rw [if_pos o]
        rw [e] at ih ⊢
        exact ev_pos o (ev_pos (by simp; omega) ih)
  exact fill N 0 (by omega) (by omega)
theorem bit_or_and {a b n : Int} (ha : isBit a) (hb : isBit b) (hn : isBit n) : Go.bits .or .i64 b (Go.bits .and .i64 a n) = (if b = 1 ∨ (a = 1 ∧ n = 1) then 1 else 0) ∧ Go.bits .and .i64 b (Go.bits .or .i64 a n) = (if b = 1 ∧ (a = 1 ∨ n = 1) then 1 else 0) ∧ Go.bits .and .i64 a b = a * b ∧ Go.bits .or .i64 a b = (if a + b > 0 then 1 else 0) := by
  unfold isBit at ha hb hn
  rcases ha with rfl | rfl <;> rcases hb with rfl | rfl <;> rcases hn with rfl | rfl <;> decide +kernel
theorem spec_l3At_eq2 {a b : List (List Int)} {i : Nat} (hb : 0 < b.length) (hi : i < a.length + b.length) (hn : a.length + b.length ≤ 9999999) : spec_l3At.f a b (i : Int) = some ((a ++ b).getD i []) := by
  rw [spec_l3At_eq hb (by omega) hn]
  unfold lasAll
  rw [← List.append_assoc, List.getD_eq_getElem?_getD, List.getElem?_append_left (by rw [List.length_append]; omega), ← List.getD_eq_getElem?_getD]
theorem plainV_bit {t : ITime} {rows w : List (List Int)} {st N : Nat} (hr : RowsOk rows N) (hw : ∀ x ∈ w, areBits x = true) (hc : t.f0 = 0 ∨ t.f0 = 1 ∨ ((0 ≤ t.f2 ∧ t.f2 < rows.length) ∧ (0 ≤ t.f3 ∧ t.f3 < rows.length))) (i : Nat) : isBit (plainV t rows w st N i) := by
  unfold plainV
  by_cases c1 : t.f0 = 1
  · rw [if_pos c1]
    by_cases h : i < w.length
    · have hm : w.getD i [] ∈ w := by rw [List.getD_eq_getElem?_getD, List.getElem?_eq_getElem h]; exact List.getElem_mem _
      exact bits_at (hw _ hm) _
    · have e : w.getD i [] = [] := by rw [List.getD_eq_getElem?_getD, List.getElem?_eq_none (by omega)]; rfl
      rw [e]
      exact .inl (by simp)
  rw [if_neg c1]
  by_cases c0 : t.f0 = 0
  · rw [if_neg (by omega), if_neg (by omega), if_neg (by omega), if_neg (by omega)]; exact .inr rfl
  obtain ⟨h2, h3⟩ : (0 ≤ t.f2 ∧ t.f2 < rows.length) ∧ (0 ≤ t.f3 ∧ t.f3 < rows.length) := by
    rcases hc with h | h | h
    · exact absurd h c0
    · exact absurd h c1
    · exact h
  obtain ⟨_, _, ba⟩ := rows_at hr h2.1 h2.2
  obtain ⟨_, _, bb⟩ := rows_at hr h3.1 h3.2
  have a := ba i
  have b := bb i
  have n := ba (nxt st N i)
  generalize (rows.getD t.f2.toNat []).getD i 0 = x at *
  generalize (rows.getD t.f3.toNat []).getD i 0 = y at *
  generalize (rows.getD t.f2.toNat []).getD (nxt st N i) 0 = z at *
  unfold isBit at *
  split
  · omega
  · split
    · rcases a with rfl | rfl <;> rcases b with rfl | rfl <;> decide
    · split
      · split <;> omega
      · split
        · exact n
        · omega
theorem spec_l20Row_ev {t : ITime} {rows stem loop : List (List Int)} {facts : Int} (hw : wordP stem loop facts = true) (hr : RowsOk rows (stem.length + loop.length)) (hc : t.f0 = 0 ∨ (t.f0 = 1 ∧ 0 ≤ t.f1 ∧ t.f1 < facts) ∨ (2 ≤ t.f0 ∧ t.f0 ≤ 7 ∧ (0 ≤ t.f2 ∧ t.f2 < rows.length) ∧ (0 ≤ t.f3 ∧ t.f3 < rows.length))) :
    Ev (fun k => spec_l20Row.f k t.f0 t.f1 t.f2 t.f3 rows stem loop) (rowV t rows (stem ++ loop) stem.length) := by
  obtain ⟨hf, hl, hN, hx⟩ := wordP_and hw
  have hst : stem.length < stem.length + loop.length := by omega
  unfold spec_l20Row.f rowV
  rw [List.length_append, wrap_in (x := (stem.length : Int) + loop.length) (by omega) (by omega), ← Int.natCast_add]
  generalize hNN : stem.length + loop.length = N at *
  by_cases c6 : t.f0 ≥ 6
  · rw [if_pos c6]
    obtain ⟨h2, h3⟩ : (0 ≤ t.f2 ∧ t.f2 < rows.length) ∧ (0 ≤ t.f3 ∧ t.f3 < rows.length) := by
      rcases hc with h | h | h
      · omega
      · omega
      · exact h.2.2
    exact ev_pos c6 (ev_bind (spec_l20Later_ev hr (by omega) h2 h3 hst hN) (ev_ret _))
  · rw [if_neg c6]
    refine ev_neg c6 ?_
    have key : ∀ d n : Nat, N - n = d → n ≤ N → Ev (fun k => spec_l20Row.l0 k rows stem loop (N : Int) ((List.range n).map (plainV t rows (stem ++ loop) stem.length N)) (n : Int) t.f0 t.f1 t.f2 t.f3) ((List.range N).map (plainV t rows (stem ++ loop) stem.length N)) := by
      intro d
      induction d with
      | zero =>
        intro n g1 g2
        have : n = N := by omega
        subst this
        exact Ev.step (fun k => by rw [spec_l20Row.l0]) (ev_neg (by omega) (ev_ret _))
      | succ d ih =>
        intro n g1 g2
        have hn : n < N := by omega
        have ih := ih (n + 1) (by omega) (by omega)
        rw [List.range_succ, List.map_append, List.map_cons, List.map_nil] at ih
        have hln : ((List.range n).map (plainV t rows (stem ++ loop) stem.length N)).length < 17592186044416 := by simp; omega
        have hnx : nxt stem.length N n < N := nxt_lt hst
        refine Ev.step (fun k => by rw [spec_l20Row.l0, wrap_nat hn (by omega), spec_l3At_eq2 hl (by omega) (by omega), spec_l20Next_eq hn (by omega)]) (ev_pos (by omega) ?_)
        by_cases c1 : t.f0 = 1
        · obtain ⟨f0, f1⟩ : 0 ≤ t.f1 ∧ t.f1 < facts := by rcases hc with h | h | h <;> omega
          have hm : (stem ++ loop).getD n [] ∈ stem ++ loop := by rw [List.getD_eq_getElem?_getD, List.getElem?_eq_getElem (by rw [List.length_append]; omega)]; exact List.getElem_mem _
          have hlen := (hx _ hm).1
          have e : plainV t rows (stem ++ loop) stem.length N n = rd ((stem ++ loop).getD n []) t.f1 := by unfold plainV; rw [if_pos c1]; rfl
          rw [e] at ih
          exact ev_pos c1 (ev_bind (ev_ret _) (ev_pos f0 (ev_pos (by omega) (ev_pos hln ih))))
        refine ev_neg c1 ?_
        by_cases c0 : t.f0 = 0
        · have e : plainV t rows (stem ++ loop) stem.length N n = 1 := by unfold plainV; rw [if_neg c1, if_neg (by omega), if_neg (by omega), if_neg (by omega), if_neg (by omega)]
          rw [e] at ih
          exact ev_neg (by omega) (ev_neg (by omega) (ev_neg (by omega) (ev_neg (by omega) (ev_pos hln ih))))
        obtain ⟨h2, h3⟩ : (0 ≤ t.f2 ∧ t.f2 < rows.length) ∧ (0 ≤ t.f3 ∧ t.f3 < rows.length) := by
          rcases hc with h | h | h
          · exact absurd h c0
          · exact absurd h.1 c1
          · exact h.2.2
        obtain ⟨ea, la, ba⟩ := rows_at hr h2.1 h2.2
        obtain ⟨eb, lb, bb⟩ := rows_at hr h3.1 h3.2
        have ba' := ba n
        have bb' := bb n
        unfold isBit at ba' bb'
        have ra : rd (rd_Lint rows t.f2) (n : Int) = (rows.getD t.f2.toNat []).getD n 0 := rfl
        have rb : rd (rd_Lint rows t.f3) (n : Int) = (rows.getD t.f3.toNat []).getD n 0 := rfl
        by_cases c2 : t.f0 = 2
        · have e : plainV t rows (stem ++ loop) stem.length N n = 1 - (rows.getD t.f2.toNat []).getD n 0 := by unfold plainV; rw [if_neg c1, if_pos c2]
          rw [e] at ih
          refine ev_pos c2 (ev_pos h2.1 (ev_pos h2.2 (ev_pos (by omega) (ev_pos (by rw [ea]; omega) (ev_pos hln ?_)))))
          rw [ra, wrap_in (by omega) (by omega)]
          exact ih
        refine ev_neg c2 ?_
        by_cases c3 : t.f0 = 3
        · have e : plainV t rows (stem ++ loop) stem.length N n = (rows.getD t.f2.toNat []).getD n 0 * (rows.getD t.f3.toNat []).getD n 0 := by unfold plainV; rw [if_neg c1, if_neg c2, if_pos c3]
          rw [e] at ih
          refine ev_pos c3 (ev_pos h2.1 (ev_pos h2.2 (ev_pos (by omega) (ev_pos (by rw [ea]; omega) (ev_pos h3.1 (ev_pos h3.2 (ev_pos (by rw [eb]; omega) (ev_pos hln ?_))))))))
          rw [ra, rb, (mul_bit ba' bb').2.1]
          exact ih
        refine ev_neg c3 ?_
        by_cases c4 : t.f0 = 4
        · have e : plainV t rows (stem ++ loop) stem.length N n = (if (rows.getD t.f2.toNat []).getD n 0 + (rows.getD t.f3.toNat []).getD n 0 > 0 then 1 else 0) := by unfold plainV; rw [if_neg c1, if_neg c2, if_neg c3, if_pos c4]
          rw [e] at ih
          refine ev_pos c4 (ev_pos h2.1 (ev_pos h2.2 (ev_pos (by omega) (ev_pos (by rw [ea]; omega) (ev_pos h3.1 (ev_pos h3.2 (ev_pos (by rw [eb]; omega) ?_)))))))
          rw [ra, rb, wrap_in (by omega) (by omega)]
          refine ev_bind (ev_fix (by unfold spec_l1Truth.f; simp only [decide_eq_true_eq]; rw [← apply_ite some])) (ev_pos hln ih)
        refine ev_neg c4 ?_
        have c5 : t.f0 = 5 := by rcases hc with h | h | h <;> omega
        have e : plainV t rows (stem ++ loop) stem.length N n = rd (rd_Lint rows t.f2) ((nxt stem.length N n : Nat) : Int) := by unfold plainV; rw [if_neg c1, if_neg c2, if_neg c3, if_neg c4, if_pos c5]; rfl
        rw [e] at ih
        exact ev_pos c5 (ev_pos h2.1 (ev_pos h2.2 (ev_bind (ev_ret _) (ev_pos (by omega) (ev_pos (by rw [ea]; omega) (ev_pos hln ih))))))
    exact key N 0 (by omega) (by omega)
theorem rowV_ok {t : ITime} {rows w : List (List Int)} {st : Nat} (hr : RowsOk rows w.length) (hw : ∀ x ∈ w, areBits x = true) (hc : t.f0 = 0 ∨ t.f0 = 1 ∨ ((0 ≤ t.f2 ∧ t.f2 < rows.length) ∧ (0 ≤ t.f3 ∧ t.f3 < rows.length))) : (rowV t rows w st).length = w.length ∧ ∀ j, isBit ((rowV t rows w st).getD j 0) := by
  unfold rowV
  split
  · unfold laterV
    exact ⟨swp_len _ _ _, fun j => swp_bit (stG_bit _ _ _) j⟩
  · refine ⟨by simp, fun j => ?_⟩
    rw [List.getD_eq_getElem?_getD, List.getElem?_map]
    by_cases h : j < w.length
    · rw [List.getElem?_range h]
      exact plainV_bit hr hw hc j
    · rw [List.getElem?_eq_none (by simp; omega)]
      exact .inl rfl
theorem timeP_ops {facts : Int} {n : Nat} {t : ITime} (h : t.f0 = 0 ∨ (t.f0 = 1 ∧ 0 ≤ t.f1 ∧ t.f1 < facts) ∨ (2 ≤ t.f0 ∧ t.f0 ≤ 7 ∧ (0 ≤ t.f2 ∧ t.f2 < (n : Int)) ∧ (0 ≤ t.f3 ∧ t.f3 < (n : Int)))) : t.f0 = 0 ∨ t.f0 = 1 ∨ ((0 ≤ t.f2 ∧ t.f2 < (n : Int)) ∧ (0 ≤ t.f3 ∧ t.f3 < (n : Int))) := by
  rcases h with h | h | h
  · exact .inl h
  · exact .inr (.inl h.1)
  · exact .inr (.inr h.2.2)
theorem rowsOk_snoc {rows : List (List Int)} {N : Nat} {r : List Int} (h : RowsOk rows N) (hr : r.length = N ∧ ∀ j, isBit (r.getD j 0)) : RowsOk (rows ++ [r]) N := fun x hx => by
  rcases List.mem_append.1 hx with hx | hx
  · exact h x hx
  · rw [List.mem_singleton.1 hx]; exact hr
theorem allI_at {α : Type} {p : Nat → α → Bool} : ∀ {l : List α} {n : Nat}, allI p n l = true → ∀ (i : Nat) (x : α), l[i]? = some x → p (n + i) x = true
  | [], n, _, i, x, hx => by simp at hx
  | y :: l, n, h, 0, x, hx => by
    obtain rfl : y = x := by simpa using hx
    unfold allI at h
    rw [Bool.and_eq_true] at h
    exact h.1
  | y :: l, n, h, i + 1, x, hx => by
    unfold allI at h
    rw [Bool.and_eq_true] at h
    have := allI_at h.2 i x (by simpa using hx)
    rw [show n + (i + 1) = n + 1 + i by omega]
    exact this
theorem timesP_at {list : List ITime} {facts : Int} (h : timesP list facts = true) (i : Nat) (t : ITime) (ht : list[i]? = some t) : t.f0 = 0 ∨ (t.f0 = 1 ∧ 0 ≤ t.f1 ∧ t.f1 < facts) ∨ (2 ≤ t.f0 ∧ t.f0 ≤ 7 ∧ (0 ≤ t.f2 ∧ t.f2 < (i : Int)) ∧ (0 ≤ t.f3 ∧ t.f3 < (i : Int))) := by
  obtain ⟨h1, h2, h3⟩ := timesP_in h
  unfold timesP at h
  simp only [Bool.and_eq_true] at h
  have := allI_at h.2.2 i t ht
  rw [Nat.zero_add] at this
  have hi : i < list.length := by
    rcases Nat.lt_or_ge i list.length with h | h
    · exact h
    · rw [List.getElem?_eq_none h] at ht; cases ht
  exact timeP_cases h1 (by omega) this
theorem rowsV_snoc (w : List (List Int)) (st : Nat) : ∀ (l : List ITime) (rows : List (List Int)), (rowsV w st l rows).length = rows.length + l.length
  | [], rows => by simp [rowsV]
  | t :: r, rows => by
    unfold rowsV
    rw [rowsV_snoc w st r]
    simp only [List.length_append, List.length_cons, List.length_nil]
    omega
theorem rowsV_ok {w : List (List Int)} {st : Nat} {facts : Int} {list : List ITime} (hw : ∀ x ∈ w, areBits x = true) (h : timesP list facts = true) : ∀ (l : List ITime) (n : Nat) (rows : List (List Int)), list.drop n = l → rows.length = n → RowsOk rows w.length → RowsOk (rowsV w st l rows) w.length
  | [], n, rows, _, _, hr => hr
  | t :: r, n, rows, hd, hn, hr => by
    have ht : list[n]? = some t := by
      have := congrArg (fun l => l[0]?) hd
      simpa using this
    have hc := timesP_at h n t ht
    rw [← hn] at hc
    unfold rowsV
    refine rowsV_ok hw h r (n + 1) _ ?_ (by simp [hn]) (rowsOk_snoc hr (rowV_ok hr hw (timeP_ops hc)))
    have := congrArg List.tail hd
    simpa using this
theorem spec_TimesOn_ev {stem loop : List (List Int)} {list : List ITime} {facts : Int} (h1 : stem.length ≤ 1048576 ∧ ∀ x ∈ stem, x.length ≤ 1048576) (h2 : loop.length ≤ 1048576 ∧ ∀ x ∈ loop, x.length ≤ 1048576) (hl : list.length ≤ 1048576) :
    Ev (fun k => spec_TimesOn.f k list stem loop facts) (if (timesP list facts && wordP stem loop facts) = true then rowsV (stem ++ loop) stem.length list [] else []) := by
  unfold spec_TimesOn.f
  refine ev_bind (spec_TimesValid_ev list facts (by omega)) ?_
  cases c : timesP list facts with
  | false => exact ev_neg (by simp) (Ev.step (fun k => by rw [spec_TimesOn.j0]) (ev_pos rfl (ev_eq (ev_ret _) (by simp))))
  | true =>
    refine ev_pos rfl (ev_bind (spec_WordValid_ev stem loop facts h1 h2) (Ev.step (fun k => by rw [spec_TimesOn.j0]) ?_))
    cases d : wordP stem loop facts with
    | false => exact ev_pos rfl (ev_eq (ev_ret _) (by simp))
    | true =>
      obtain ⟨hf, hlp, hN, hx⟩ := wordP_and d
      obtain ⟨_, hl1, hl2⟩ := timesP_in c
      rw [if_pos (by simp)]
      refine ev_neg (by simp) ?_
      have key : ∀ (dd n : Nat), list.length - n = dd → n ≤ list.length → ∀ rows : List (List Int), rows.length = n → RowsOk rows (stem.length + loop.length) → Ev (fun k => spec_TimesOn.l0 k list stem loop rows (n : Int)) (rowsV (stem ++ loop) stem.length (list.drop n) rows) := by
        intro dd
        induction dd with
        | zero =>
          intro n g1 g2 rows g3 g4
          have : n = list.length := by omega
          subst this
          rw [List.drop_length]
          exact Ev.step (fun k => by rw [spec_TimesOn.l0]) (ev_neg (by omega) (ev_eq (ev_ret _) (by simp [rowsV])))
        | succ dd ih =>
          intro n g1 g2 rows g3 g4
          have hn : n < list.length := by omega
          have ht : list[n]? = some list[n] := List.getElem?_eq_getElem hn
          have hc := timesP_at c n list[n] ht
          rw [List.drop_eq_getElem_cons hn]
          have hrd : rd_ITime list (n : Int) = list[n] := getD_of ht
          generalize list[n] = t at *
          rw [← g3] at hc
          have hok := rowV_ok (st := stem.length) (w := stem ++ loop) (by rw [List.length_append]; exact g4) (fun x hx' => (hx x hx').2) (timeP_ops hc)
          rw [List.length_append] at hok
          unfold rowsV
          refine Ev.step (fun k => by rw [spec_TimesOn.l0, hrd, wrap_nat hn (by omega)]) (ev_pos (by omega) (ev_pos (by omega) (ev_bind (spec_l20Row_ev d g4 hc) (ev_pos (show rows.length < 5864062014805 by omega) ?_))))
          exact ih (n + 1) (by omega) (by omega) _ (by simp [g3]) (rowsOk_snoc g4 hok)
      have := key list.length 0 (by omega) (by omega) [] rfl (fun r hr => by cases hr)
      simpa using this
def genG (t : ITime) (rows w : List (List Int)) (st N : Nat) (i : Nat) (n : Int) : Int :=
  if t.f0 ≥ 6 then stG t.f0 (rows.getD t.f2.toNat []) (rows.getD t.f3.toNat []) i n else plainV t rows w st N i
theorem chn_plain {G : Nat → Int → Int} {P : Nat → Int} {N : Nat} {y : Int} (hG : ∀ i n, G i n = P i) : ∀ d, d < N → chn G N y d = P (N - 1 - d)
  | 0, _ => hG _ _
  | d + 1, _ => hG _ _
theorem genG_row (t : ITime) (rows w : List (List Int)) (st : Nat) (hst : st < w.length) : swp (genG t rows w st w.length) w.length (chn (genG t rows w st w.length) w.length (startV t.f0) (w.length - 1 - st)) = rowV t rows w st := by
  unfold rowV
  by_cases c : t.f0 ≥ 6
  · rw [if_pos c]
    have e : genG t rows w st w.length = stG t.f0 (rows.getD t.f2.toNat []) (rows.getD t.f3.toNat []) := by
      funext i n
      unfold genG
      rw [if_pos c]
    rw [e]; rfl
  · rw [if_neg c]
    have hG : ∀ i n, genG t rows w st w.length i n = plainV t rows w st w.length i := fun i n => by unfold genG; rw [if_neg c]
    unfold swp
    refine List.map_congr_left fun i hi => ?_
    have := List.mem_range.1 hi
    rw [chn_plain hG _ (by omega)]
    congr 1
    omega
theorem impl_behind_eq {st N i : Nat} {stem : List (List Int)} (hs : stem.length = st) (h : i < N) (hN : N ≤ 1048576) (k : Nat) : impl_timesOn_1.f k (i : Int) (N : Int) stem = some ((nxt st N i : Nat) : Int) := by
  unfold impl_timesOn_1.f nxt
  rw [wrap_nat (n := i) (m := N) h (by omega)]
  by_cases c : i + 1 < N
  · rw [if_neg (by omega), if_pos c]
  · rw [if_pos (by omega), if_neg c, hs]
theorem rd_rep {rows : List (List Int)} {m : Nat} {i : Int} (h0 : 0 ≤ i) (h1 : i < rows.length) : rd_Lint (rows ++ List.replicate m []) i = rows.getD i.toNat [] := by
  show (rows ++ List.replicate m []).getD i.toNat [] = _
  rw [List.getD_eq_getElem?_getD, List.getElem?_append_left (by omega), ← List.getD_eq_getElem?_getD]
theorem impl_step_ev {t : ITime} {rows stem loop : List (List Int)} {facts : Int} {m : Nat} (hw : wordP stem loop facts = true) (hr : RowsOk rows (stem.length + loop.length)) (hc : t.f0 = 0 ∨ (t.f0 = 1 ∧ 0 ≤ t.f1 ∧ t.f1 < facts) ∨ (2 ≤ t.f0 ∧ t.f0 ≤ 7 ∧ (0 ≤ t.f2 ∧ t.f2 < rows.length) ∧ (0 ≤ t.f3 ∧ t.f3 < rows.length)))
    {i : Nat} (hi : i < stem.length + loop.length) {v : List Int} (hv : v.length = stem.length + loop.length) (hb : ∀ j, isBit (v.getD j 0)) :
    Ev (fun k => impl_timesOn_2.f k (i : Int) t.f0 t.f1 t.f2 t.f3 (rows ++ List.replicate m []) (stem ++ loop) ((stem ++ loop).length : Int) stem v) (genG t rows (stem ++ loop) stem.length (stem ++ loop).length i (v.getD (nxt stem.length (stem ++ loop).length i) 0)) := by
  obtain ⟨hf, hlp, hN, hx⟩ := wordP_and hw
  have hlen : (stem ++ loop).length = stem.length + loop.length := List.length_append
  have hst : stem.length < (stem ++ loop).length := by omega
  rw [← hlen] at hr hi hv hN
  generalize hW : stem ++ loop = w at *
  generalize hNN : w.length = N at *
  have hnx : nxt stem.length N i < N := nxt_lt hst
  have hbe : Ev (fun k => impl_timesOn_1.f k (i : Int) (N : Int) stem) ((nxt stem.length N i : Nat) : Int) := ⟨0, fun k _ => impl_behind_eq rfl hi (by omega) k⟩
  have hm : w.getD i [] ∈ w := by rw [List.getD_eq_getElem?_getD, List.getElem?_eq_getElem (by omega)]; exact List.getElem_mem _
  unfold impl_timesOn_2.f genG
  by_cases c0 : t.f0 = 0
  · refine ev_neg (by omega) (Ev.step (fun k => by rw [impl_timesOn_2.j1]) (ev_pos c0 (ev_eq (ev_ret _) ?_)))
    rw [if_neg (by omega)]
    unfold plainV
    rw [if_neg (by omega), if_neg (by omega), if_neg (by omega), if_neg (by omega), if_neg (by omega)]
  by_cases c1 : t.f0 = 1
  · obtain ⟨f0, f1⟩ : 0 ≤ t.f1 ∧ t.f1 < facts := by rcases hc with h | h | h <;> omega
    have hl1 := (hx _ hm).1
    refine ev_neg (by omega) (Ev.step (fun k => by rw [impl_timesOn_2.j1]) (ev_neg c0 (ev_pos c1 (ev_pos (by omega) (ev_pos (by omega) (ev_pos f0 (ev_pos (show t.f1 < ((rd_Lint w (i : Int)).length : Int) from (show t.f1 < ((w.getD i []).length : Int) by omega)) (ev_eq (ev_ret _) ?_))))))))
    rw [if_neg (by omega)]
    unfold plainV
    rw [if_pos c1]
    rfl
  obtain ⟨h2, h3⟩ : (0 ≤ t.f2 ∧ t.f2 < rows.length) ∧ (0 ≤ t.f3 ∧ t.f3 < rows.length) := by
    rcases hc with h | h | h
    · exact absurd h c0
    · exact absurd h.1 c1
    · exact h.2.2
  have hge : t.f0 > 1 := by rcases hc with h | h | h <;> omega
  obtain ⟨_, la, ba⟩ := rows_at hr h2.1 h2.2
  obtain ⟨_, lb, bb⟩ := rows_at hr h3.1 h3.2
  have ba' := ba i
  have bb' := bb i
  have bn := hb (nxt stem.length N i)
  have ra : rd (rows.getD t.f2.toNat []) (i : Int) = (rows.getD t.f2.toNat []).getD i 0 := rfl
  have rb : rd (rows.getD t.f3.toNat []) (i : Int) = (rows.getD t.f3.toNat []).getD i 0 := rfl
  have rv : rd v ((nxt stem.length N i : Nat) : Int) = v.getD (nxt stem.length N i) 0 := rfl
  obtain ⟨o1, o2, o3, o4⟩ := bit_or_and ba' bb' bn
  have hrl : (rows ++ List.replicate m ([] : List Int)).length = rows.length + m := by simp
  refine ev_pos hge (ev_pos h2.1 (ev_pos (by rw [hrl]; omega) ?_))
  rw [rd_rep h2.1 h2.2, rd_rep h3.1 h3.2, ra, rb]
  refine ev_pos (by omega) (ev_pos (by omega) (ev_pos h3.1 (ev_pos (by rw [hrl]; omega) (ev_pos (by omega) (ev_pos (by omega) (Ev.step (fun k => by rw [impl_timesOn_2.j1]) (ev_neg c0 (ev_neg c1 ?_))))))))
  unfold isBit at ba' bb'
  by_cases c2 : t.f0 = 2
  · refine ev_pos c2 (ev_eq (ev_ret _) ?_)
    rw [if_neg (by omega), wrap_in (by omega) (by omega)]
    unfold plainV
    rw [if_neg c1, if_pos c2]
  refine ev_neg c2 ?_
  by_cases c3 : t.f0 = 3
  · refine ev_pos c3 (ev_eq (ev_ret _) ?_)
    rw [if_neg (by omega), o3]
    unfold plainV
    rw [if_neg c1, if_neg c2, if_pos c3]
  refine ev_neg c3 ?_
  by_cases c4 : t.f0 = 4
  · refine ev_pos c4 (ev_eq (ev_ret _) ?_)
    rw [if_neg (by omega), o4]
    unfold plainV
    rw [if_neg c1, if_neg c2, if_neg c3, if_pos c4]
  refine ev_neg c4 ?_
  by_cases c5 : t.f0 = 5
  · refine ev_pos c5 (ev_pos h2.1 (ev_pos (by rw [hrl]; omega) (ev_bind hbe ?_)))
    rw [rd_rep h2.1 h2.2]
    refine ev_pos (by omega) (ev_pos (by omega) (ev_eq (ev_ret _) ?_))
    rw [if_neg (by omega)]
    unfold plainV
    rw [if_neg c1, if_neg c2, if_neg c3, if_neg c4, if_pos c5]
    rfl
  refine ev_neg c5 ?_
  rw [if_pos (show t.f0 ≥ 6 by omega)]
  unfold stG
  by_cases c6 : t.f0 = 6
  · refine ev_pos c6 (ev_bind hbe (ev_pos (by omega) (ev_pos (by omega) (ev_eq (ev_ret _) ?_))))
    rw [if_pos c6, rv, o1]
  · refine ev_neg c6 (ev_bind hbe (ev_pos (by omega) (ev_pos (by omega) (ev_eq (ev_ret _) ?_))))
    rw [if_neg c6, rv, o2]
theorem genG_bit {t : ITime} {rows w : List (List Int)} {st : Nat} (hr : RowsOk rows w.length) (hw : ∀ x ∈ w, areBits x = true) (hc : t.f0 = 0 ∨ t.f0 = 1 ∨ ((0 ≤ t.f2 ∧ t.f2 < rows.length) ∧ (0 ≤ t.f3 ∧ t.f3 < rows.length))) (i : Nat) (n : Int) : isBit (genG t rows w st w.length i n) := by
  unfold genG
  split
  · exact stG_bit _ _ _ _ _
  · exact plainV_bit hr hw hc i
theorem genG_mono (t : ITime) (rows w : List (List Int)) (st : Nat) (i : Nat) : genG t rows w st w.length i 0 ≤ genG t rows w st w.length i 1 := by
  unfold genG
  split
  · exact stG_mono _ _ _ _
  · exact Int.le_refl _
theorem impl_timesOn_ev {stem loop : List (List Int)} {list : List ITime} {facts : Int} (c : timesP list facts = true) (d : wordP stem loop facts = true) : Ev (fun k => impl_timesOn.f k list stem loop) (rowsV (stem ++ loop) stem.length list []) := by
  obtain ⟨hf, hlp, hN, hx⟩ := wordP_and d
  obtain ⟨_, hl1, hl2⟩ := timesP_in c
  have hlen : (stem ++ loop).length = stem.length + loop.length := List.length_append
  have hst : stem.length < (stem ++ loop).length := by omega
  unfold impl_timesOn.f
  refine ev_bind (concat2_ev stem loop (by omega)) (ev_pos (by omega) (ev_pos (by omega) ?_))
  rw [Int.toNat_natCast]
  have key : ∀ (dd n : Nat), list.length - n = dd → n ≤ list.length → ∀ rows : List (List Int), rows.length = n → RowsOk rows (stem.length + loop.length) → Ev (fun k => impl_timesOn.l1 k (rows ++ List.replicate (list.length - n) []) (n : Int) list stem (stem ++ loop)) (rowsV (stem ++ loop) stem.length (list.drop n) rows) := by
    intro dd
    induction dd with
    | zero =>
      intro n g1 g2 rows g3 g4
      have : n = list.length := by omega
      subst this
      rw [List.drop_length]
      exact Ev.step (fun k => by rw [impl_timesOn.l1]) (ev_neg (by omega) (ev_eq (ev_ret _) (by simp [rowsV])))
    | succ dd ih =>
      intro n g1 g2 rows g3 g4
      have hn : n < list.length := by omega
      have ht : list[n]? = some list[n] := List.getElem?_eq_getElem hn
      have hc := timesP_at c n list[n] ht
      rw [List.drop_eq_getElem_cons hn]
      have hrd : rd_ITime list (n : Int) = list[n] := getD_of ht
      generalize list[n] = t at *
      rw [← g3] at hc
      have g4' : RowsOk rows (stem ++ loop).length := by rw [hlen]; exact g4
      have hok := rowV_ok (st := stem.length) g4' (fun x hx' => (hx x hx').2) (timeP_ops hc)
      have hG := genG_bit (st := stem.length) g4' (fun x hx' => (hx x hx').2) (timeP_ops hc)
      have hM := genG_mono t rows (stem ++ loop) stem.length
      have ih := ih (n + 1) (by omega) (by omega) (rows ++ [rowV t rows (stem ++ loop) stem.length]) (by simp [g3]) (rowsOk_snoc g4 (by rw [← hlen]; exact hok))
      unfold rowsV
      generalize hrep : rows ++ List.replicate (list.length - n) ([] : List Int) = R
      have hRl : R.length = list.length := by rw [← hrep]; simp; omega
      have hset : ∀ x, R.set n x = rows ++ [x] ++ List.replicate (list.length - (n + 1)) [] := fun x => by
        rw [← hrep, List.set_append, if_neg (by omega), g3, Nat.sub_self, show list.length - n = (list.length - (n + 1)) + 1 by omega, List.replicate_succ, List.set_cons_zero, List.append_assoc]
        rfl
      have fin : ∀ v, v = rowV t rows (stem ++ loop) stem.length → Ev (fun k => if (0 : Int) ≤ (n : Int) then (if (n : Int) < (R.length : Int) then impl_timesOn.l1 k (R.set ((n : Int)).toNat v) (wrap64 ((n : Int) + 1)) list stem (stem ++ loop) else none) else none) (rowsV (stem ++ loop) stem.length (list.drop (n + 1)) (rows ++ [rowV t rows (stem ++ loop) stem.length])) := fun v hv => by
        refine ev_pos (by omega) (ev_pos (by omega) ?_)
        rw [Int.toNat_natCast, hset, hv, wrap_nat hn (by omega)]
        exact ih
      -- two sweeps
      have hv0l : (List.replicate (stem ++ loop).length (startV t.f0)).length = (stem ++ loop).length := by simp
      have hv0b : ∀ j, isBit ((List.replicate (stem ++ loop).length (startV t.f0)).getD j 0) := fun j => rep_bit (startV_bit _) j
      have hv2 : vst (genG t rows (stem ++ loop) stem.length (stem ++ loop).length) stem.length (stem ++ loop).length (List.replicate (stem ++ loop).length (startV t.f0)) 2 = rowV t rows (stem ++ loop) stem.length := by
        rw [vst_fix hst hM hG (hv0b _) 0]
        rw [show (List.replicate (stem ++ loop).length (startV t.f0)).getD stem.length 0 = startV t.f0 by rw [List.getD_eq_getElem?_getD, List.getElem?_replicate, if_pos hst]; rfl]
        exact genG_row t rows (stem ++ loop) stem.length hst
      have sweep : ∀ (m : Nat), m < 2 → ∀ res, Ev (fun k => impl_timesOn.l4 k (vst (genG t rows (stem ++ loop) stem.length (stem ++ loop).length) stem.length (stem ++ loop).length (List.replicate (stem ++ loop).length (startV t.f0)) (m + 1)) ((m + 1 : Nat) : Int) list stem (stem ++ loop) R (n : Int)) res →
          Ev (fun k => impl_timesOn.l4 k (vst (genG t rows (stem ++ loop) stem.length (stem ++ loop).length) stem.length (stem ++ loop).length (List.replicate (stem ++ loop).length (startV t.f0)) m) (m : Int) list stem (stem ++ loop) R (n : Int)) res := fun m hm res hnext => by
        obtain ⟨vl, vb⟩ := vst_ok (st := stem.length) hG hv0l hv0b m
        have hnext' : Ev (fun k => impl_timesOn.l4 k (swp (genG t rows (stem ++ loop) stem.length (stem ++ loop).length) (stem ++ loop).length ((vst (genG t rows (stem ++ loop) stem.length (stem ++ loop).length) stem.length (stem ++ loop).length (List.replicate (stem ++ loop).length (startV t.f0)) m).getD stem.length 0)) ((m + 1 : Nat) : Int) list stem (stem ++ loop) R (n : Int)) res := hnext
        refine Ev.step (fun k => by rw [impl_timesOn.l4, wrap_in (x := ((stem ++ loop).length : Int) - 1) (by omega) (by omega)]) (ev_pos (by omega) ?_)
        refine ev_sweep (fun k v i => impl_timesOn.l5 k v i list stem (stem ++ loop) R (n : Int) (m : Int)) (genG t rows (stem ++ loop) stem.length (stem ++ loop).length) stem.length (stem ++ loop).length hG hst _ vl vb (fun i v hi hl hb hnn => ?_) ?_
        · have st_ := impl_step_ev (m := list.length - n) d g4 hc (i := i) (by omega) (v := v) (by omega) hb
          rw [hrep] at st_
          refine Ev.step (fun k => by rw [impl_timesOn.l5, hrd, wrap_in (x := (i : Int) - 1) (by omega) (by omega)]) (ev_pos (show (i : Int) ≥ 0 by omega) (ev_bind st_ (ev_pos (show (0 : Int) ≤ (i : Int) by omega) (ev_pos (show (i : Int) < (v.length : Int) by omega) ?_))))
          rw [Int.toNat_natCast]
          exact hnn
        · exact Ev.step (fun k => by rw [impl_timesOn.l5, show wrap64 ((m : Int) + 1) = ((m + 1 : Nat) : Int) from wrap_nat (m := 1048576) (by omega) (by omega)]) (ev_neg (by omega) hnext')
      have h4 : Ev (fun k => impl_timesOn.l4 k (List.replicate (stem ++ loop).length (startV t.f0)) 0 list stem (stem ++ loop) R (n : Int)) (rowsV (stem ++ loop) stem.length (list.drop (n + 1)) (rows ++ [rowV t rows (stem ++ loop) stem.length])) := by
        refine sweep 0 (by omega) _ (sweep 1 (by omega) _ ?_)
        rw [hv2]
        exact Ev.step (fun k => by rw [impl_timesOn.l4]) (ev_neg (by omega) (fin _ rfl))
      have h3 : ∀ (e j : Nat), (stem ++ loop).length - j = e → j ≤ (stem ++ loop).length → Ev (fun k => impl_timesOn.l3 k (List.replicate j (startV t.f0) ++ List.replicate ((stem ++ loop).length - j) 0) (j : Int) list stem (stem ++ loop) R (n : Int) (startV t.f0)) (rowsV (stem ++ loop) stem.length (list.drop (n + 1)) (rows ++ [rowV t rows (stem ++ loop) stem.length])) := by
        intro e
        induction e with
        | zero =>
          intro j k1 k2
          have : j = (stem ++ loop).length := by omega
          subst this
          rw [Nat.sub_self, List.replicate_zero, List.append_nil]
          exact Ev.step (fun k => by rw [impl_timesOn.l3]) (ev_neg (by rw [List.length_replicate]; omega) h4)
        | succ e ihe =>
          intro j k1 k2
          have ihe := ihe (j + 1) (by omega) (by omega)
          have hs3 : (List.replicate j (startV t.f0) ++ List.replicate ((stem ++ loop).length - j) 0).set j (startV t.f0) = List.replicate (j + 1) (startV t.f0) ++ List.replicate ((stem ++ loop).length - (j + 1)) 0 := by
            rw [List.set_append, if_neg (by simp), List.length_replicate, Nat.sub_self, show (stem ++ loop).length - j = ((stem ++ loop).length - (j + 1)) + 1 by omega, List.replicate_succ, List.set_cons_zero, List.replicate_succ', List.append_assoc]
            rfl
          refine Ev.step (fun k => by rw [impl_timesOn.l3, wrap_nat (n := j) (m := (stem ++ loop).length) (by omega) (by omega)]) (ev_pos (by simp; omega) (ev_pos (by omega) (ev_pos (by simp; omega) ?_)))
          rw [Int.toNat_natCast, hs3]
          exact ihe
      have h3 := h3 (stem ++ loop).length 0 rfl (by omega)
      rw [List.replicate_zero, List.nil_append, Nat.sub_zero] at h3
      have j2 : Ev (fun k => impl_timesOn.j2 k (startV t.f0) list stem (stem ++ loop) R (n : Int)) (rowsV (stem ++ loop) stem.length (list.drop (n + 1)) (rows ++ [rowV t rows (stem ++ loop) stem.length])) := by
        refine Ev.step (fun k => by rw [impl_timesOn.j2, Int.toNat_natCast]) ?_
        exact h3
      refine Ev.step (fun k => by rw [impl_timesOn.l1, hrd]) (ev_pos (by omega) (ev_pos (by omega) (ev_pos (by omega) (ev_pos (by omega) (ev_pos (by omega) ?_)))))
      by_cases c7 : t.f0 = 7
      · have e : startV t.f0 = 1 := by unfold startV; rw [if_pos c7]
        rw [e] at j2
        exact ev_pos c7 j2
      · have e : startV t.f0 = 0 := by unfold startV; rw [if_neg c7]
        rw [e] at j2
        exact ev_neg c7 j2
  have := key list.length 0 (by omega) (by omega) [] rfl (fun r hr => by cases hr)
  simpa using this
theorem foldN_stepsm (l : List ITime) : ∀ (n : Nat) (s : List Int), (∀ k ∈ s, 0 ≤ k ∧ k < (n : Int)) → ∀ k ∈ foldN (fun n s (x : ITime) => if x.f0 ≥ 5 then s ++ [(n : Int)] else s) n s l, 0 ≤ k ∧ k < ((n + l.length : Nat) : Int) := by
  induction l with
  | nil => intro n s h; simpa [foldN] using h
  | cons x l ih =>
    intro n s h
    simp only [foldN]
    rw [List.length_cons, show n + (l.length + 1) = n + 1 + l.length by omega]
    refine ih (n + 1) _ fun k hk => ?_
    split at hk
    · rcases List.mem_append.1 hk with hk | hk
      · have := h k hk; omega
      · rw [List.mem_singleton.1 hk]; omega
    · have := h k hk; omega
theorem stepsP_mem {l : List ITime} : ∀ k ∈ stepsP l, 0 ≤ k ∧ k < (l.length : Int) := by
  have := foldN_stepsm l 0 [] (fun k hk => by cases hk)
  rw [Nat.zero_add] at this
  exact this
def guessB (letter : List Int) (rows : List (List Int)) (steps : List Int) (i : Nat) : List Int := letter ++ steps.map fun k => (rows.getD k.toNat []).getD i 0
def rowsOf (list : List ITime) (stem loop : List (List Int)) : List (List Int) := rowsV (stem ++ loop) stem.length list []
def guessAt (list : List ITime) (stem loop : List (List Int)) (i : Nat) : Int := bitNum (guessB ((stem ++ loop).getD i []) (rowsOf list stem loop) (stepsP list) i)
def guessesAtP (list : List ITime) (stem loop : List (List Int)) (facts : Int) : List Int :=
  if (askedP list facts && wordP stem loop facts) = true then (List.range (stem.length + loop.length)).map (guessAt list stem loop) else []
theorem rowsOf_ok {list : List ITime} {stem loop : List (List Int)} {facts : Int} (c : timesP list facts = true) (d : wordP stem loop facts = true) : (rowsOf list stem loop).length = list.length ∧ RowsOk (rowsOf list stem loop) (stem.length + loop.length) := by
  obtain ⟨_, _, _, hx⟩ := wordP_and d
  refine ⟨by unfold rowsOf; rw [rowsV_snoc]; simp, ?_⟩
  have := rowsV_ok (w := stem ++ loop) (st := stem.length) (fun x hx' => (hx x hx').2) c list 0 [] (by simp) rfl (fun r hr => by cases hr)
  rw [List.length_append] at this
  exact this
theorem spec_l21Number_ev {list : List ITime} {letter : List Int} {rows : List (List Int)} {N i : Nat} (hl : letter.length ≤ 1048576) (hll : list.length ≤ 1048576) (hr : RowsOk rows N) (hrl : rows.length = list.length) (hi : i < N) :
    Ev (fun k => spec_l21Number.f k list letter rows (i : Int)) (bitNum (guessB letter rows (stepsP list) i)) := by
  have hs := stepsP_len list
  have hm := stepsP_mem (l := list)
  unfold spec_l21Number.f
  refine ev_bind (spec_l3Copy_ev letter hl) (ev_bind (spec_l21Steps_ev list hll) ?_)
  unfold guessB
  generalize stepsP list = steps at *
  have key : ∀ (d n : Nat), steps.length - n = d → n ≤ steps.length → Ev (fun k => spec_l21Number.l0 k rows (i : Int) (letter ++ (steps.take n).map fun k => (rows.getD k.toNat []).getD i 0) steps (n : Int)) (bitNum (letter ++ steps.map fun k => (rows.getD k.toNat []).getD i 0)) := by
    intro d
    induction d with
    | zero =>
      intro n g1 g2
      have : n = steps.length := by omega
      subst this
      rw [List.take_length]
      have h6 := spec_l6Number_ev (letter ++ steps.map fun k => (rows.getD k.toNat []).getD i 0) (by simp; omega)
      exact Ev.step (fun k => by rw [spec_l21Number.l0]) (ev_neg (by omega) (ev_bind h6 (ev_ret _)))
    | succ d ih =>
      intro n g1 g2
      have hn : n < steps.length := by omega
      have ih := ih (n + 1) (by omega) (by omega)
      rw [List.take_succ_eq_append_getElem hn, List.map_append, List.map_cons, List.map_nil, ← List.append_assoc] at ih
      have hk := hm steps[n] (List.getElem_mem hn)
      have hrk : rd steps (n : Int) = steps[n] := rd_at hn
      generalize steps[n] = s at *
      obtain ⟨er, lr, _⟩ := rows_at hr hk.1 (by omega)
      refine Ev.step (fun k => by rw [spec_l21Number.l0, hrk, er, wrap_nat hn (by omega)]) ?_
      refine ev_pos (by omega) (ev_pos (by omega) (ev_pos hk.1 (ev_pos (by omega) (ev_pos (by omega) (ev_pos (by omega) (ev_pos (by simp; omega) ?_))))))
      exact ih
  have := key steps.length 0 (by omega) (by omega)
  simpa using this
theorem spec_GuessesAt_ev {list : List ITime} {stem loop : List (List Int)} {facts : Int} (h1 : stem.length ≤ 1048576 ∧ ∀ x ∈ stem, x.length ≤ 1048576) (h2 : loop.length ≤ 1048576 ∧ ∀ x ∈ loop, x.length ≤ 1048576) (hl : list.length ≤ 1048576) :
    Ev (fun k => spec_GuessesAt.f k list stem loop facts) (guessesAtP list stem loop facts) := by
  unfold spec_GuessesAt.f guessesAtP
  refine ev_bind (spec_TimesOn_ev h1 h2 hl) ?_
  have hA := spec_l21Asked_ev list facts hl
  by_cases c : (timesP list facts && wordP stem loop facts) = true
  · rw [if_pos c]
    rw [Bool.and_eq_true] at c
    obtain ⟨c1, c2⟩ := c
    obtain ⟨hf, hlp, hN, hx⟩ := wordP_and c2
    obtain ⟨_, hl1, hl2⟩ := timesP_in c1
    obtain ⟨hrl, hro⟩ := rowsOf_ok c1 c2
    rw [c2, Bool.and_true]
    have hRR : rowsV (stem ++ loop) stem.length list [] = rowsOf list stem loop := rfl
    rw [hRR]
    have hw : wrap64 ((stem.length : Int) + (loop.length : Int)) = ((stem.length + loop.length : Nat) : Int) := by rw [wrap_in (by omega) (by omega)]; omega
    have cut : ∀ x n, Ev (fun k => spec_GuessesAt.j1 k list stem loop facts (rowsOf list stem loop) x n false) x := fun x n => Ev.step (fun k => by rw [spec_GuessesAt.j1]) (ev_neg (by simp) (ev_ret _))
    by_cases a : askedP list facts = true
    · rw [if_pos a]
      rw [a] at hA
      have key : ∀ (d n : Nat), stem.length + loop.length - n = d → n ≤ stem.length + loop.length → Ev (fun k => spec_GuessesAt.l0 k list stem loop facts (rowsOf list stem loop) ((List.range n).map (guessAt list stem loop)) (n : Int)) ((List.range (stem.length + loop.length)).map (guessAt list stem loop)) := by
        intro d
        induction d with
        | zero =>
          intro n g1 g2
          have : n = stem.length + loop.length := by omega
          subst this
          refine Ev.step (fun k => by rw [spec_GuessesAt.l0, hw]) (ev_neg (by omega) (cut _ _))
        | succ d ih =>
          intro n g1 g2
          have ih := ih (n + 1) (by omega) (by omega)
          rw [List.range_succ, List.map_append, List.map_cons, List.map_nil] at ih
          have hm : (stem ++ loop).getD n [] ∈ stem ++ loop := by rw [List.getD_eq_getElem?_getD, List.getElem?_eq_getElem (by rw [List.length_append]; omega)]; exact List.getElem_mem _
          have hlen := (hx _ hm).1
          refine Ev.step (fun k => by rw [spec_GuessesAt.l0, hw]) (ev_pos (by omega) (ev_pos (by omega) (ev_bind hA ?_)))
          have hnum := spec_l21Number_ev (letter := (stem ++ loop).getD n []) (i := n) (by omega) hl hro hrl (by omega)
          refine Ev.step (fun k => by rw [spec_GuessesAt.j1, spec_l3At_eq2 hlp (by omega) (by omega), wrap_nat (n := n) (m := stem.length + loop.length) (by omega) (by omega)]) ?_
          refine ev_pos rfl (ev_bind (ev_ret ((stem ++ loop).getD n [])) (ev_bind hnum (ev_pos (by simp; omega) ?_)))
          exact ih
      exact key (stem.length + loop.length) 0 (by omega) (by omega)
    · rw [if_neg a]
      rw [Bool.not_eq_true] at a
      rw [a] at hA
      exact Ev.step (fun k => by rw [spec_GuessesAt.l0, hw]) (ev_pos (by omega) (ev_pos (by omega) (ev_bind hA (cut _ _))))
  · rw [if_neg c, if_neg (by
      intro h
      apply c
      unfold askedP at h
      simp only [Bool.and_eq_true] at h ⊢
      exact ⟨h.1.1, h.2⟩)]
    have cut : ∀ n, Ev (fun k => spec_GuessesAt.j1 k list stem loop facts [] [] n false) [] := fun n => Ev.step (fun k => by rw [spec_GuessesAt.j1]) (ev_neg (by simp) (ev_ret _))
    refine Ev.step (fun k => by rw [spec_GuessesAt.l0]) ?_
    by_cases h : (0 : Int) < wrap64 ((stem.length : Int) + (loop.length : Int))
    · exact ev_pos h (ev_neg (by simp) (cut _))
    · exact ev_neg h (cut _)
theorem impl_GuessesAt_ev {list : List ITime} {stem loop : List (List Int)} {facts : Int} (h1 : stem.length ≤ 1048576 ∧ ∀ x ∈ stem, x.length ≤ 1048576) (h2 : loop.length ≤ 1048576 ∧ ∀ x ∈ loop, x.length ≤ 1048576) (hl : list.length ≤ 1048576) :
    Ev (fun k => impl_GuessesAt.f k list stem loop facts) (guessesAtP list stem loop facts) := by
  unfold impl_GuessesAt.f guessesAtP
  refine ev_bind (impl_guessed_ev list facts (by omega)) ?_
  unfold guessedP askedP
  by_cases c : timesP list facts = true
  · rw [c, if_pos rfl, Bool.true_and]
    by_cases a : facts + ((stepsP list).length : Int) ≤ 7
    · rw [decide_eq_true a, Bool.true_and]
      refine ev_pos rfl (ev_bind (impl_WordValid_ev stem loop facts h1 h2) ?_)
      by_cases d : wordP stem loop facts = true
      · rw [if_pos d]
        obtain ⟨hf, hlp, hN, hx⟩ := wordP_and d
        obtain ⟨_, hl1, hl2⟩ := timesP_in c
        obtain ⟨hrl, hro⟩ := rowsOf_ok c d
        refine ev_pos d (ev_bind (impl_timesOn_ev c d) (ev_bind (concat2_ev stem loop (by omega)) ?_))
        have hRR : rowsV (stem ++ loop) stem.length list [] = rowsOf list stem loop := rfl
        rw [hRR]
        have hlen2 : (stem ++ loop).length = stem.length + loop.length := List.length_append
        have hs := stepsP_len list
        have hm := stepsP_mem (l := list)
        have key : ∀ (dd n : Nat), stem.length + loop.length - n = dd → n ≤ stem.length + loop.length → Ev (fun k => impl_GuessesAt.l1 k ((List.range n).map (guessAt list stem loop)) (n : Int) (stepsP list, true) (rowsOf list stem loop) (stem ++ loop)) ((List.range (stem.length + loop.length)).map (guessAt list stem loop)) := by
          intro dd
          induction dd with
          | zero =>
            intro n g1 g2
            have : n = stem.length + loop.length := by omega
            subst this
            refine Ev.step (fun k => by rw [impl_GuessesAt.l1]) (ev_neg (by omega) ?_)
            exact ev_bind (g := fun _ => impl_clone_int.f _) (ev_fix (by unfold impl_clone_int.f; rw [if_pos (by simp; omega)])) (ev_ret _)
          | succ dd ih =>
            intro n g1 g2
            have ih := ih (n + 1) (by omega) (by omega)
            rw [List.range_succ, List.map_append, List.map_cons, List.map_nil] at ih
            have hmm : (stem ++ loop).getD n [] ∈ stem ++ loop := by rw [List.getD_eq_getElem?_getD, List.getElem?_eq_getElem (by rw [List.length_append]; omega)]; exact List.getElem_mem _
            have hlen := (hx _ hmm).1
            have hrl2 : rd_Lint (stem ++ loop) (n : Int) = (stem ++ loop).getD n [] := rfl
            have inner : ∀ (e j : Nat), (stepsP list).length - j = e → j ≤ (stepsP list).length → Ev (fun k => impl_GuessesAt.l2 k ((stem ++ loop).getD n [] ++ ((stepsP list).take j).map fun k => ((rowsOf list stem loop).getD k.toNat []).getD n 0) (j : Int) (stepsP list, true) (rowsOf list stem loop) (stem ++ loop) ((List.range n).map (guessAt list stem loop)) (n : Int)) ((List.range (stem.length + loop.length)).map (guessAt list stem loop)) := by
              intro e
              induction e with
              | zero =>
                intro j k1 k2
                have : j = (stepsP list).length := by omega
                subst this
                rw [List.take_length]
                refine Ev.step (fun k => by rw [impl_GuessesAt.l2, wrap_nat (n := n) (m := stem.length + loop.length) (by omega) (by omega)]) (ev_neg (by simp) (ev_bind (impl_bitsValue_ev _ (by rw [List.length_append, List.length_map]; omega)) (ev_pos (show ((List.range n).map (guessAt list stem loop)).length + 1 ≤ 1099511627776 by rw [List.length_map, List.length_range]; omega) ?_)))
                exact ih
              | succ e ihe =>
                intro j k1 k2
                have hj : j < (stepsP list).length := by omega
                have ihe := ihe (j + 1) (by omega) (by omega)
                rw [List.take_succ_eq_append_getElem hj, List.map_append, List.map_cons, List.map_nil, ← List.append_assoc] at ihe
                have hk := hm (stepsP list)[j] (List.getElem_mem hj)
                have hrk : rd (stepsP list) (j : Int) = (stepsP list)[j] := rd_at hj
                generalize (stepsP list)[j] = s at *
                obtain ⟨er, lr, _⟩ := rows_at hro hk.1 (by omega)
                refine Ev.step (fun k => by rw [impl_GuessesAt.l2, hrk, er, wrap_nat hj (by omega)]) ?_
                refine ev_pos (show (j : Int) < ((stepsP list).length : Int) by omega) (ev_pos (by omega) (ev_pos (show (j : Int) < ((stepsP list).length : Int) by omega) (ev_pos hk.1 (ev_pos (by omega) (ev_pos (by omega) (ev_pos (by omega) (ev_pos (by rw [List.length_append, List.length_map, List.length_take]; omega) ?_)))))))
                exact ihe
            refine Ev.step (fun k => by rw [impl_GuessesAt.l1, hrl2]) (ev_pos (by omega) (ev_pos (by omega) (ev_pos (by omega) ?_)))
            refine ev_bind (g := fun _ => slices_Clone_int_int.f _) (ev_fix (by unfold slices_Clone_int_int.f; rw [if_pos (by omega)])) ?_
            have := inner (stepsP list).length 0 (by omega) (by omega)
            simpa using this
        exact key (stem.length + loop.length) 0 (by omega) (by omega)
      · rw [if_neg d]
        exact ev_neg d (ev_ret _)
    · rw [decide_eq_false a, Bool.false_and, if_neg (by simp)]
      exact ev_neg (by simp) (ev_ret _)
  · rw [Bool.not_eq_true] at c
    rw [c, if_neg (by simp), Bool.false_and, Bool.false_and, if_neg (by simp)]
    exact ev_neg (by simp) (ev_ret _)
theorem guessesAtP_len (list : List ITime) (stem loop : List (List Int)) (facts : Int) : (guessesAtP list stem loop facts).length ≤ 60 := by
  unfold guessesAtP
  split
  · rename_i h
    rw [Bool.and_eq_true] at h
    obtain ⟨_, _, h3, _⟩ := wordP_and h.2
    simpa using h3
  · simp
end Go.Proofs.Ytikjlbanfbkhmaa.PA
end
section
set_option linter.unusedVariables false
set_option linter.unusedSimpArgs false
namespace Go.Proofs.Ytikjlbanfbkhmaa.PA
open Go.RowKit Go.Proofs.YtikjlbanfbkhmaaW.PrintWords
theorem ExactGuessesAt_pure : laws_FnExactGuessesAt.PureS := by
  intro list stem loop facts hl hs hp w
  suffices h : Evp fun k => laws_FnExactGuessesAt.Good k list stem loop facts from h.get
  unfold laws_FnExactGuessesAt.Good
  refine .sz (sz_times (by omega) (by omega) hl.1) fun r1 a1 b1 k1 => .sz (sz_intss a1 (by omega) hs.1 fun x hx => (hs.2 x hx).1) fun r2 a2 b2 k2 => .sz (sz_intss a2 (by omega) hp.1 fun x hx => (hp.2 x hx).1) fun r3 a3 b3 k3 => ?_
  have hlen := guessesAtP_len (list.map cTime) stem loop facts
  have hl' : (list.map cTime).length ≤ 1048576 := by simpa using k1
  exact .ex _ (.fact (laws_toTimeS_ev list k1) (.and (.of hl') (.ex stem (.fact (laws_toIntSS_ev stem k2) (.and (.of k2) (.ex loop (.fact (laws_toIntSS_ev loop k3) (.and (.of k3) (.ex _ (.fact (spec_GuessesAt_ev k2 k3 hl') (.fact (impl_GuessesAt_ev k2 k3 hl')
    (.fact (laws_eqIntS_ev _ (by omega)) (.fact (laws_eqTimeS_ev _ hl') (.fact (laws_eqIntSS_ev _ k2) (.fact (laws_eqIntSS_ev _ k3) (.marked _ (by omega)))))))))))))))))
end Go.Proofs.Ytikjlbanfbkhmaa.PA
namespace Go.Proofs.Ytikjlbanfbkhmaa.Pure
theorem FnExactGuessesAt : Go.Proofs.Ytikjlbanfbkhmaa.PA.laws_FnExactGuessesAt.PureS := Go.Proofs.Ytikjlbanfbkhmaa.PA.ExactGuessesAt_pure
end Go.Proofs.Ytikjlbanfbkhmaa.Pure
end
