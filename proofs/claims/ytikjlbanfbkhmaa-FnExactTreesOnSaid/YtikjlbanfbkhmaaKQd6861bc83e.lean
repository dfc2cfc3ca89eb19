/- The plain side: what the Lean functions compute, without Go and memory; each theorem under the conditions that it names. -/
import Derived.Test.YtikjlbanfbkhmaaProg
import Derived.Below
import Derived.Deep.Draws
import Derived.Deep.AppendLies
import Derived.Maps.AppendAt
import Derived.OwnWalk
import Derived.Laws.BytesArg
import Derived.Laws.MakeOwn
import Derived.Laws.OwnMore
import Derived.Deep.OwnRows
import Derived.Tactics
import Derived.Lib.ConvBytes
import Derived.Laws.Slices
import Derived.WalkKit
import Derived.KernelRfl
import Derived.RowKit3
import Derived.Deep.LoopGhost
import Derived.Deep.QuietTactic
import Derived.BigQuiet
import Derived.WideLaws
import Derived.Deep.DeepCutAuto
import Derived.Deep.CutBlock
import Derived.Deep.RegionHeld3
import Derived.Laws.Rows
import Derived.Lib.AppendStr
import Derived.ArgAppend
import Derived.Laws.IdiomCopy
import Derived.OrdersHeld
import Derived.Laws.BitsLemmas
import Derived.RowKit
import Derived.Laws.StructEq
import Derived.Lib.SliceRun
import Derived.WalkSpells
import Derived.ChangeArms
import Derived.ChangeSlices
import Derived.Deep.Slices
import Derived.Test.YtikjlbanfbkhmaaKDdd136839c2
section
namespace Go.Proofs.Ytikjlbanfbkhmaa.PA
open Go.RowKit Go.Proofs.YtikjlbanfbkhmaaW.PrintWords
def okLGraph (y : LGraph) : Prop := (y.f0.length ≤ 9223372036854775807 ∧ ∀ x0 ∈ y.f0, (x0.length ≤ 9223372036854775807 ∧ ∀ x1 ∈ x0, (Lit.int .i64 x1).wf = true)) ∧ (Lit.int .i64 y.f1).wf = true ∧ (y.f2.length ≤ 9223372036854775807 ∧ ∀ x0 ∈ y.f2, (x0.length ≤ 9223372036854775807 ∧ ∀ x1 ∈ x0, (Lit.int .i64 x1).wf = true))
def okLTree (y : LTree) : Prop := (Lit.int .i64 y.f0).wf = true ∧ (Lit.int .i64 y.f1).wf = true ∧ (Lit.int .i64 y.f2).wf = true ∧ (Lit.int .i64 y.f3).wf = true
def laws_FnExactTreesOn.Good (k : Nat) (l0_0 : List (List Int)) (a0_1 : Int) (l0_2 : List (List Int)) (a1 : Int) (l2 : List LTree) : Prop :=
  ∃ (t_1 : Int), laws_szGraph.f k l0_0 a0_1 l0_2 1048576 = some t_1 ∧ (t_1 < 0 ∨ ∃ (t_2 : Int), laws_szTreeS.f l2 t_1 = some t_2 ∧ (t_2 < 0 ∨ ∃ (b_1 : (List (List Int) × Int × List (List Int))), laws_toGraph.f k l0_0 a0_1 l0_2 = some b_1 ∧ ((b_1.1.length ≤ 1048576 ∧ ∀ y0 ∈ b_1.1, y0.length ≤ 1048576) ∧ (b_1.2.2.length ≤ 1048576 ∧ ∀ y0 ∈ b_1.2.2, y0.length ≤ 1048576)) ∧ ∃ (b_2 : (List ITree)), laws_toTreeS.f k l2 = some b_2 ∧ b_2.length ≤ 1048576 ∧ ∃ (w_1 : (List Int)), spec_TreesOn.f k b_1.1 b_1.2.1 b_1.2.2 a1 b_2 = some w_1 ∧ impl_TreesOn.f k b_1.1 b_1.2.1 b_1.2.2 a1 b_2 = some w_1 ∧ laws_eqIntS.f k w_1 w_1 = some true ∧ laws_eqGraph.f k b_1.1 b_1.2.1 b_1.2.2 b_1.1 b_1.2.1 b_1.2.2 = some true ∧ laws_eqTreeS.f k b_2 b_2 = some true ∧ ∃ (m_1 : Int), ∃ (w_2 : List Int), laws_markIntS.f k w_1 1 = some (m_1, w_2) ∧ 0 ≤ m_1 ∧ laws_heldIntS.f k w_2 1 = some m_1 ∧ True))
def laws_FnExactTreesOn.PureS : Prop := ∀ (l0_0 : List (List Int)) (a0_1 : Int) (l0_2 : List (List Int)) (a1 : Int) (l2 : List LTree), (l0_0.length ≤ 9223372036854775807 ∧ ∀ x0 ∈ l0_0, (x0.length ≤ 9223372036854775807 ∧ ∀ x1 ∈ x0, (Lit.int .i64 x1).wf = true)) → (Lit.int .i64 a0_1).wf = true → (l0_2.length ≤ 9223372036854775807 ∧ ∀ x0 ∈ l0_2, (x0.length ≤ 9223372036854775807 ∧ ∀ x1 ∈ x0, (Lit.int .i64 x1).wf = true)) → (Lit.int .i64 a1).wf = true → (l2.length ≤ 9223372036854775807 ∧ ∀ x0 ∈ l2, okLTree x0) → ∃ k, laws_FnExactTreesOn.Good k l0_0 a0_1 l0_2 a1 l2
end Go.Proofs.Ytikjlbanfbkhmaa.PA
end
section
set_option linter.unusedVariables false
set_option linter.unusedSimpArgs false
namespace Go.Proofs.Ytikjlbanfbkhmaa.PA
open Go.RowKit Go.Proofs.YtikjlbanfbkhmaaW.PrintWords
theorem ev_ret {α : Type} (r : α) : Ev (fun _ => some r) r := Ev.now r
theorem ev_pos {α : Type} {c : Prop} [Decidable c] {f g : Nat → Option α} {r : α} (h : c) (k : Ev f r) : Ev (fun n => if c then f n else g n) r := by
  simpa [h] using k
theorem ev_neg {α : Type} {c : Prop} [Decidable c] {f g : Nat → Option α} {r : α} (h : ¬ c) (k : Ev g r) : Ev (fun n => if c then f n else g n) r := by
  simpa [h] using k
theorem ev_bind {α β : Type} {g : Nat → Option α} {f : Nat → α → Option β} {a : α} {r : β} (h : Ev g a) (k : Ev (fun n => f n a) r) : Ev (fun n => (g n).bind (fun t => f n t)) r := Ev.bind h k
theorem ev_fix {α : Type} {o : Option α} {r : α} (h : o = some r) : Ev (fun _ => o) r := ⟨0, fun _ _ => h⟩
theorem ev_eq {α : Type} {g : Nat → Option α} {r r' : α} (h : Ev g r) (e : r = r') : Ev g r' := e ▸ h
theorem ev_loop {α ρ : Type} (L : Nat → Int → Option ρ) (xs : List α) (res : List α → ρ) (hend : Ev (fun k => L k (xs.length : Int)) (res []))
    (hstep : ∀ (n : Nat) (x : α) (r : List α), n < xs.length → xs[n]? = some x → xs.drop n = x :: r → r = xs.drop (n + 1) → Ev (fun k => L k ((n + 1 : Nat) : Int)) (res r) → Ev (fun k => L k (n : Int)) (res (x :: r))) :
    Ev (fun k => L k 0) (res xs) := by
  have h : ∀ d n : Nat, xs.length - n = d → n ≤ xs.length → Ev (fun k => L k (n : Int)) (res (xs.drop n)) := by
    intro d
    induction d with
    | zero =>
      intro n h1 h2
      have : n = xs.length := by omega
      subst this
      rw [List.drop_length]
      exact hend
    | succ d ih =>
      intro n h1 h2
      have hn : n < xs.length := by omega
      have e := List.drop_eq_getElem_cons hn
      rw [e]
      exact hstep n _ _ hn (List.getElem?_eq_getElem hn) e rfl (ih (n + 1) (by omega) (by omega))
  have := h xs.length 0 (by omega) (by omega)
  simpa using this
theorem wrap_in {x : Int} (h0 : -9223372036854775808 ≤ x) (h1 : x ≤ 9223372036854775807) : wrap64 x = x := by unfold wrap64; omega
theorem wrap_nat {n m : Nat} (h : n < m) (hm : m ≤ 9223372036854775807) : wrap64 ((n : Int) + 1) = ((n + 1 : Nat) : Int) := by unfold wrap64; omega
theorem getD_of {α : Type} {xs : List α} {n : Nat} {x d : α} (h : xs[n]? = some x) : xs.getD (n : Int).toNat d = x := by
  simp [List.getD_eq_getElem?_getD, h]
theorem ev_fill {α β : Type} {da : α} {db : β} (L : Nat → List β → Int → Option (List β)) (F : Nat → α → Option β) (xs : List α) (g : α → β) (hl : xs.length ≤ 4611686018427387904)
    (hL : ∀ k ys i, L (k + 1) ys i = if i < (xs.length : Int) then (if 0 ≤ i then ((F k (xs.getD i.toNat da)).bind fun b => if i < (ys.length : Int) then L k (ys.set i.toNat b) (wrap64 (i + 1)) else none) else none) else some ys)
    (hF : ∀ x ∈ xs, Ev (fun k => F k x) (g x)) : Ev (fun k => L k (List.replicate xs.length db) 0) (xs.map g) := by
  have h : ∀ d n : Nat, xs.length - n = d → n ≤ xs.length → Ev (fun k => L k ((xs.take n).map g ++ List.replicate (xs.length - n) db) (n : Int)) (xs.map g) := by
    intro d
    induction d with
    | zero =>
      intro n h1 h2
      have : n = xs.length := by omega
      subst this
      refine Ev.step (fun k => hL k _ _) (ev_neg (by omega) ?_)
      simpa using ev_ret (xs.map g)
    | succ d ih =>
      intro n h1 h2
      have hn : n < xs.length := by omega
      refine Ev.step (fun k => hL k _ _) (ev_pos (by omega) (ev_pos (by omega) ?_))
      have hx := List.getElem?_eq_getElem hn
      rw [getD_of hx]
      refine ev_bind (hF _ (List.getElem_mem hn)) (ev_pos (by simp; omega) ?_)
      rw [wrap_nat hn (by omega)]
      have e : ((xs.take n).map g ++ List.replicate (xs.length - n) db).set (n : Int).toNat (g xs[n]) = (xs.take (n + 1)).map g ++ List.replicate (xs.length - (n + 1)) db := by
        rw [show xs.length - n = (xs.length - (n + 1)) + 1 by omega, List.replicate_succ, List.take_succ_eq_append_getElem hn, List.map_append]
        simp [List.set_append, Nat.min_eq_left (Nat.le_of_lt hn)]
      rw [e]
      exact ih (n + 1) (by omega) (by omega)
  have := h xs.length 0 (by omega) (by omega)
  simpa using this
theorem ev_same {α : Type} {da : α} (L : Nat → Int → Option Bool) (F : Nat → α → α → Option Bool) (xs ys : List α) (hl : xs.length ≤ 4611686018427387904) (hxy : xs = ys)
    (hL : ∀ k i, L (k + 1) i = if i < (xs.length : Int) then (if 0 ≤ i then (if i < (ys.length : Int) then ((F k (xs.getD i.toNat da) (ys.getD i.toNat da)).bind fun t => if t = true then L k (wrap64 (i + 1)) else some false) else none) else none) else some true)
    (hF : ∀ x ∈ xs, Ev (fun k => F k x x) true) : Ev (fun k => L k 0) true := by
  subst hxy
  refine ev_loop L xs (fun _ => true) (Ev.step (fun k => hL k _) (ev_neg (by omega) (ev_ret _))) ?_
  intro n x r hn hx _ _ ih
  refine Ev.step (fun k => hL k _) (ev_pos (by omega) (ev_pos (by omega) (ev_pos (by omega) ?_)))
  rw [getD_of hx]
  refine ev_bind (hF x (List.mem_of_getElem? hx)) (ev_pos rfl ?_)
  rw [wrap_nat hn (by omega)]
  exact ih
def SzOk (f : Nat → Option Int) (a : Int) (P : Prop) : Prop := ∃ r, Ev f r ∧ (r < 0 ∨ (0 ≤ r ∧ r ≤ a ∧ P))
theorem sz_len {n : Nat} {a : Int} (h0 : 0 ≤ a) (h1 : a ≤ 1048576) (hn : n ≤ 9223372036854775807) : SzOk (fun _ => if wrap64 (a - (n : Int)) < 0 then some (-1) else some (wrap64 (a - (n : Int)))) a (n ≤ 1048576) := by
  have w : wrap64 (a - (n : Int)) = a - (n : Int) := wrap_in (by omega) (by omega)
  rw [w]
  by_cases h : a - (n : Int) < 0
  · exact ⟨-1, ev_pos h (ev_ret _), .inl (by omega)⟩
  · exact ⟨a - n, ev_neg h (ev_ret _), .inr ⟨by omega, by omega, by omega⟩⟩
theorem sz_then {f : Nat → Option Int} {g : Nat → Int → Option Int} {a : Int} {P Q : Prop} (hf : SzOk f a P) (h1 : a ≤ 1048576) (hg : P → ∀ b, 0 ≤ b → b ≤ a → SzOk (fun k => g k b) b Q) :
    SzOk (fun k => (f k).bind fun t => if t < 0 then some (-1) else g k t) a (P ∧ Q) := by
  obtain ⟨r, hr, h⟩ := hf
  rcases h with h | ⟨h0, ha, hp⟩
  · exact ⟨-1, ev_bind hr (ev_pos h (ev_ret _)), .inl (by omega)⟩
  · obtain ⟨s, hs, k⟩ := hg hp r h0 ha
    refine ⟨s, ev_bind hr (ev_neg (by omega) hs), ?_⟩
    rcases k with k | ⟨k0, ka, kq⟩
    · exact .inl k
    · exact .inr ⟨k0, by omega, hp, kq⟩
theorem sz_loop {α : Type} {da : α} (L : Nat → Int → Int → Option Int) (F : Nat → α → Int → Option Int) (xs : List α) (P : α → Prop) (hl : xs.length ≤ 9223372036854775807)
    (hL : ∀ k a i, L (k + 1) a i = if i < (xs.length : Int) then (if 0 ≤ i then ((F k (xs.getD i.toNat da) a).bind fun t => if t < 0 then some (-1) else L k t (wrap64 (i + 1))) else none) else some a)
    (hF : ∀ x ∈ xs, ∀ a, 0 ≤ a → a ≤ 1048576 → SzOk (fun k => F k x a) a (P x)) : ∀ a, 0 ≤ a → a ≤ 1048576 → SzOk (fun k => L k a 0) a (∀ x ∈ xs, P x) := by
  have key : ∀ d n : Nat, xs.length - n = d → n ≤ xs.length → ∀ a, 0 ≤ a → a ≤ 1048576 → SzOk (fun k => L k a (n : Int)) a (∀ x ∈ xs.drop n, P x) := by
    intro d
    induction d with
    | zero =>
      intro n e1 e2 a h0 h1
      have : n = xs.length := by omega
      subst this
      refine ⟨a, ?_, .inr ⟨h0, Int.le_refl _, fun x hx => by simp at hx⟩⟩
      refine Ev.step (fun k => hL k _ _) ?_
      exact ev_neg (by omega) (ev_ret _)
    | succ d ih =>
      intro n e1 e2 a h0 h1
      have hn : n < xs.length := by omega
      have hs := sz_then (g := fun k t => L k t ((n + 1 : Nat) : Int)) (hF _ (List.getElem_mem hn) a h0 h1) h1 (fun _ b hb0 hb1 => ih (n + 1) (by omega) (by omega) b hb0 (by omega))
      obtain ⟨r, hr, k⟩ := hs
      refine ⟨r, ?_, ?_⟩
      · refine Ev.step (fun k => by rw [hL, if_pos (by omega), if_pos (by omega), getD_of (List.getElem?_eq_getElem hn), wrap_nat hn (by omega)]) hr
      · rcases k with k | ⟨k0, ka, kp, kq⟩
        · exact .inl k
        · refine .inr ⟨k0, ka, fun x hx => ?_⟩
          rw [List.drop_eq_getElem_cons hn] at hx
          rcases List.mem_cons.1 hx with rfl | hx
          · exact kp
          · exact kq x hx
  intro a h0 h1
  have := key xs.length 0 (by omega) (by omega) a h0 h1
  simpa using this
theorem laws_toIntS_ev (l : List Int) (h : l.length ≤ 1048576) : Ev (fun k => laws_toIntS.f k l) l := by
  unfold laws_toIntS.f
  refine ev_pos (by omega) (ev_pos (by omega) ?_)
  have := ev_fill (da := (0 : Int)) (db := (0 : Int)) (fun k ys i => laws_toIntS.l0 k l ys i) (fun k x => some x) l id (by omega) (fun k ys i => by rw [laws_toIntS.l0]; rfl) (fun x _ => ev_ret _)
  simpa using this
theorem laws_eqIntS_ev (l : List Int) (h : l.length ≤ 4611686018427387904) : Ev (fun k => laws_eqIntS.f k l l) true := by
  unfold laws_eqIntS.f
  refine ev_pos rfl ?_
  exact ev_same (da := (0 : Int)) (fun k i => laws_eqIntS.l0 k l l i) (fun k x y => if x = y then some true else some false) l l h rfl (fun k i => by rw [laws_eqIntS.l0]; simp [rd]) (fun x _ => ev_pos rfl (ev_ret _))
def inR (n lo hi : Int) : Bool := decide (lo ≤ n ∧ n ≤ hi)
theorem inR_iff {n lo hi : Int} : inR n lo hi = true ↔ lo ≤ n ∧ n ≤ hi := by simp [inR]
theorem spec_l1In_eq (n lo hi : Int) : spec_l1In.f n lo hi = some (inR n lo hi) := by
  unfold spec_l1In.f inR
  by_cases h : n ≥ lo
  · rw [if_pos h]; congr 1; simp; omega
  · rw [if_neg h]; congr 1; simp; omega
theorem impl_in_eq (n lo hi : Int) : impl_in.f n lo hi = some (inR n lo hi) := by
  unfold impl_in.f inR
  by_cases h : n ≥ lo
  · rw [if_pos h]; congr 1; simp; omega
  · rw [if_neg h]; congr 1; simp; omega
def Evp (G : Nat → Prop) : Prop := ∃ n, ∀ k, n ≤ k → G k
theorem Evp.get {G : Nat → Prop} (h : Evp G) : ∃ k, G k := let ⟨n, h⟩ := h; ⟨n, h n (Nat.le_refl _)⟩
theorem Evp.of {P : Prop} (h : P) : Evp fun _ => P := ⟨0, fun _ _ => h⟩
theorem Evp.and {G H : Nat → Prop} (g : Evp G) (h : Evp H) : Evp fun k => G k ∧ H k := by
  obtain ⟨n, g⟩ := g
  obtain ⟨m, h⟩ := h
  exact ⟨max n m, fun k hk => ⟨g k (by omega), h k (by omega)⟩⟩
theorem Evp.fact {α : Type} {f : Nat → Option α} {r : α} {H : Nat → Prop} (g : Ev f r) (h : Evp H) : Evp fun k => f k = some r ∧ H k := Evp.and (G := fun k => f k = some r) g h
theorem Evp.inl {G H : Nat → Prop} (g : Evp G) : Evp fun k => G k ∨ H k := let ⟨n, g⟩ := g; ⟨n, fun k hk => .inl (g k hk)⟩
theorem Evp.inr {G H : Nat → Prop} (g : Evp H) : Evp fun k => G k ∨ H k := let ⟨n, g⟩ := g; ⟨n, fun k hk => .inr (g k hk)⟩
theorem Evp.ex {α : Type} {G : Nat → α → Prop} (a : α) (g : Evp fun k => G k a) : Evp fun k => ∃ x, G k x := let ⟨n, g⟩ := g; ⟨n, fun k hk => ⟨a, g k hk⟩⟩
theorem Evp.guard {P : Prop} {H : Nat → Prop} (h : ¬ P → Evp H) : Evp fun k => P ∨ H k := by
  by_cases p : P
  · exact .inl (.of p)
  · exact .inr (h p)
theorem Evp.sz {f : Nat → Option Int} {a : Int} {P : Prop} (hf : SzOk f a P) {H : Nat → Int → Prop} (h : ∀ r, 0 ≤ r → r ≤ a → P → Evp fun k => H k r) : Evp fun k => ∃ t : Int, f k = some t ∧ (t < 0 ∨ H k t) := by
  obtain ⟨r, h1, h2⟩ := hf
  refine .ex r (.fact h1 ?_)
  rcases h2 with h2 | ⟨h2, h3, h4⟩
  · exact .inl (.of h2)
  · exact .inr (h r h2 h3 h4)
def fromP (n : Int) : Nat → List Int
  | 0 => []
  | m + 1 => n :: fromP (n + 1) m
theorem fromP_length (n : Int) (m : Nat) : (fromP n m).length = m := by
  induction m generalizing n with
  | zero => rfl
  | succ m ih => simp [fromP, ih]
theorem fromP_snoc (n : Int) (m : Nat) : fromP n (m + 1) = fromP n m ++ [n + m] := by
  induction m generalizing n with
  | zero => simp [fromP]
  | succ m ih =>
    rw [fromP, ih (n + 1), fromP, List.cons_append]
    congr 3
    push_cast
    omega
theorem laws_markIntS_ev (w : List Int) (n : Int) (h0 : -4611686018427387904 ≤ n ∧ n ≤ 4611686018427387904) (hl : w.length ≤ 4503599627370496) : Ev (fun k => laws_markIntS.f k w n) (n + w.length, fromP n w.length) := by
  unfold laws_markIntS.f
  have key : ∀ d i : Nat, w.length - i = d → i ≤ w.length → Ev (fun k => laws_markIntS.l0 k (fromP n i ++ w.drop i) (n + i) (i : Int)) (n + w.length, fromP n w.length) := by
    intro d
    induction d with
    | zero =>
      intro i h1 h2
      have : i = w.length := by omega
      subst this
      refine Ev.step (fun k => by rw [laws_markIntS.l0]) (ev_neg (by simp [fromP_length]) ?_)
      rw [List.drop_length, List.append_nil]
      exact ev_ret _
    | succ d ih =>
      intro i h1 h2
      have hi : i < w.length := by omega
      refine Ev.step (fun k => by rw [laws_markIntS.l0]) (ev_pos (by simp [fromP_length]; omega) (ev_pos (by omega) ?_))
      rw [wrap_nat hi (by omega), show wrap64 (n + (i : Int) + 1) = n + ((i + 1 : Nat) : Int) by rw [wrap_in (by omega) (by omega)]; push_cast; omega]
      have e : (fromP n i ++ w.drop i).set ((i : Int)).toNat (n + i) = fromP n (i + 1) ++ w.drop (i + 1) := by
        rw [fromP_snoc, List.set_append, if_neg (by simp [fromP_length]), fromP_length, show ((i : Int)).toNat - i = 0 by omega, List.drop_eq_getElem_cons hi, List.set_cons_zero, List.append_assoc]
        rfl
      rw [e]
      exact ih (i + 1) (by omega) (by omega)
  have := key w.length 0 (by omega) (by omega)
  simpa [fromP] using this
theorem fromP_at (n : Int) : ∀ (m i : Nat), i < m → rd (fromP n m) (i : Int) = n + i := by
  intro m
  induction m generalizing n with
  | zero => intro i h; omega
  | succ m ih =>
    intro i h
    cases i with
    | zero => simp [fromP, rd]
    | succ i =>
      have := ih (n + 1) i (by omega)
      show (fromP n (m + 1)).getD _ 0 = _
      simp only [fromP]
      rw [show (((i + 1 : Nat) : Int)).toNat = i + 1 by omega, List.getD_cons_succ]
      have e : (fromP (n + 1) m).getD i 0 = n + 1 + i := by simpa [rd] using this
      rw [e]
      push_cast
      omega
theorem laws_heldIntS_ev (n : Int) (m : Nat) (h0 : -4611686018427387904 ≤ n ∧ n ≤ 4611686018427387904) (hl : m ≤ 4503599627370496) : Ev (fun k => laws_heldIntS.f k (fromP n m) n) (n + m) := by
  unfold laws_heldIntS.f
  have key : ∀ d i : Nat, m - i = d → i ≤ m → Ev (fun k => laws_heldIntS.l0 k (fromP n m) (n + i) (i : Int)) (n + m) := by
    intro d
    induction d with
    | zero =>
      intro i h1 h2
      have : i = m := by omega
      subst this
      refine Ev.step (fun k => by rw [laws_heldIntS.l0]) (ev_neg (by simp [fromP_length]) (ev_ret _))
    | succ d ih =>
      intro i h1 h2
      have hi : i < m := by omega
      refine Ev.step (fun k => by rw [laws_heldIntS.l0]) (ev_pos (by rw [fromP_length]; omega) (ev_pos (by omega) (ev_pos (fromP_at n m i hi) ?_)))
      rw [wrap_nat hi (by omega), show wrap64 (n + (i : Int) + 1) = n + ((i + 1 : Nat) : Int) by rw [wrap_in (by omega) (by omega)]; push_cast; omega]
      exact ih (i + 1) (by omega) (by omega)
  have := key m 0 (by omega) (by omega)
  simpa using this
theorem Evp.marked (w : List Int) (hl : w.length ≤ 4503599627370496) : Evp fun k => ∃ (m : Int), ∃ (w2 : List Int), laws_markIntS.f k w 1 = some (m, w2) ∧ 0 ≤ m ∧ laws_heldIntS.f k w2 1 = some m ∧ True :=
  .ex (1 + w.length) (.ex (fromP 1 w.length) (.fact (laws_markIntS_ev w 1 (by omega) hl) (.and (.of (by omega)) (.fact (laws_heldIntS_ev 1 w.length (by omega) hl) (.of trivial)))))
theorem sz_ints {l : List Int} {a : Int} (h0 : 0 ≤ a) (h1 : a ≤ 1048576) (hn : l.length ≤ 9223372036854775807) : SzOk (fun _ => laws_szIntS.f l a) a (l.length ≤ 1048576) := by
  unfold laws_szIntS.f
  exact sz_len h0 h1 hn
theorem sz_rows {α : Type} {da : List α} {n : Nat} (L : Nat → Int → Int → Option Int) (F : List α → Int → Option Int) (xs : List (List α)) {a : Int} (h0 : 0 ≤ a) (h1 : a ≤ 1048576) (hn : xs.length ≤ 9223372036854775807)
    (hL : ∀ k a i, L (k + 1) a i = if i < (xs.length : Int) then (if 0 ≤ i then ((F (xs.getD i.toNat da) a).bind fun t => if t < 0 then some (-1) else L k t (wrap64 (i + 1))) else none) else some a)
    (hF : ∀ x ∈ xs, ∀ a, 0 ≤ a → a ≤ 1048576 → SzOk (fun _ => F x a) a (x.length ≤ 1048576)) :
    SzOk (fun k => if wrap64 (a - (xs.length : Int)) < 0 then some (-1) else L k (wrap64 (a - (xs.length : Int))) 0) a (xs.length ≤ 1048576 ∧ ∀ x ∈ xs, x.length ≤ 1048576) := by
  have w : wrap64 (a - (xs.length : Int)) = a - (xs.length : Int) := wrap_in (by omega) (by omega)
  rw [w]
  by_cases h : a - (xs.length : Int) < 0
  · exact ⟨-1, ev_pos h (ev_ret _), .inl (by omega)⟩
  · obtain ⟨s, hs, k⟩ := sz_loop (da := da) L (fun _ x a => F x a) xs (fun l => l.length ≤ 1048576) hn hL hF (a - (xs.length : Int)) (by omega) (by omega)
    refine ⟨s, ev_neg h hs, ?_⟩
    rcases k with k | ⟨k0, ka, kp⟩
    · exact .inl k
    · exact .inr ⟨k0, by omega, by omega, kp⟩
theorem sz_intss {l : List (List Int)} {a : Int} (h0 : 0 ≤ a) (h1 : a ≤ 1048576) (hn : l.length ≤ 9223372036854775807) (hx : ∀ x ∈ l, x.length ≤ 9223372036854775807) : SzOk (fun k => laws_szIntSS.f k l a) a (l.length ≤ 1048576 ∧ ∀ x ∈ l, x.length ≤ 1048576) := by
  unfold laws_szIntSS.f
  exact sz_rows (n := 0) (da := []) (fun k a i => laws_szIntSS.l0 k l a i) (fun x a => laws_szIntS.f x a) l h0 h1 hn (fun k a i => by rw [laws_szIntSS.l0]; rfl) (fun x h a h0 h1 => sz_ints h0 h1 (hx x h))
theorem laws_toIntSS_ev (l : List (List Int)) (h : l.length ≤ 1048576 ∧ ∀ x ∈ l, x.length ≤ 1048576) : Ev (fun k => laws_toIntSS.f k l) l := by
  unfold laws_toIntSS.f
  refine ev_pos (by omega) (ev_pos (by omega) ?_)
  have := ev_fill (da := ([] : List Int)) (db := ([] : List Int)) (fun k ys i => laws_toIntSS.l0 k l ys i) (fun k x => laws_toIntS.f k x) l id (by omega) (fun k ys i => by rw [laws_toIntSS.l0]; rfl) (fun x hx => laws_toIntS_ev x (h.2 x hx))
  simpa using this
theorem laws_eqIntSS_ev (l : List (List Int)) (h : l.length ≤ 1048576 ∧ ∀ x ∈ l, x.length ≤ 1048576) : Ev (fun k => laws_eqIntSS.f k l l) true := by
  unfold laws_eqIntSS.f
  refine ev_pos rfl ?_
  exact ev_same (da := []) (fun k i => laws_eqIntSS.l0 k l l i) (fun k x y => laws_eqIntS.f k x y) l l (by omega) rfl (fun k i => by rw [laws_eqIntSS.l0]; rfl) (fun x hx => laws_eqIntS_ev x (by have := h.2 x hx; omega))
def valOk (k v : Int) : Prop := (k = 1 → -9999 ≤ v ∧ v ≤ 9999) ∧ (k = 2 → 0 ≤ v ∧ v ≤ 1)
structure ValsOk (ks vs : List Int) : Prop where
  len : vs.length = ks.length
  at_ : ∀ i : Nat, i < ks.length → valOk (ks.getD i 0) (vs.getD i 0)
theorem ValsOk.nil : ValsOk [] [] := ⟨rfl, fun i h => absurd h (Nat.not_lt_zero i)⟩
theorem ValsOk.rd {ks vs : List Int} (h : ValsOk ks vs) {i : Int} (h0 : inR i 0 ((ks.length : Int) - 1) = true) : valOk (rd ks i) (rd vs i) := by
  have := inR_iff.1 h0
  have e := h.at_ i.toNat (by omega)
  exact e
theorem ValsOk.push {ks vs : List Int} (h : ValsOk ks vs) {k v : Int} (hv : valOk k v) : ValsOk (ks ++ [k]) (vs ++ [v]) := by
  refine ⟨by simp [h.len], fun i hi => ?_⟩
  rw [List.length_append, List.length_singleton] at hi
  by_cases e : i < ks.length
  · have := h.at_ i e
    rw [List.getD_eq_getElem?_getD, List.getD_eq_getElem?_getD] at this ⊢
    rw [List.getElem?_append_left e, List.getElem?_append_left (by rw [h.len]; exact e)]
    exact this
  · have e' : i = ks.length := by omega
    subst e'
    rw [List.getD_eq_getElem?_getD, List.getD_eq_getElem?_getD, List.getElem?_append_right (Nat.le_refl _), List.getElem?_append_right (by rw [h.len]; exact Nat.le_refl _), h.len]
    simpa using hv
theorem ev_index {α : Type} {da : α} (L : Nat → Int → Option Int) (F : Nat → α → Option Bool) (xs : List α) (p : α → Bool) (hl : xs.length ≤ 9223372036854775807)
    (hL : ∀ k i, L (k + 1) i = if i < (xs.length : Int) then (if 0 ≤ i then (if i < (xs.length : Int) then ((F k (xs.getD i.toNat da)).bind fun t => if t = true then some i else L k (wrap64 (i + 1))) else none) else none) else some (-1))
    (hF : ∀ x ∈ xs, Ev (fun k => F k x) (p x)) : ∃ r, Ev (fun k => L k 0) r ∧ decide (r ≥ 0) = xs.any p := by
  have key : ∀ d n : Nat, xs.length - n = d → n ≤ xs.length → ∃ r, Ev (fun k => L k (n : Int)) r ∧ decide (r ≥ 0) = (xs.drop n).any p := by
    intro d
    induction d with
    | zero =>
      intro n h1 h2
      have : n = xs.length := by omega
      subst this
      exact ⟨-1, Ev.step (fun k => hL k _) (ev_neg (by omega) (ev_ret _)), by rw [List.drop_length]; rfl⟩
    | succ d ih =>
      intro n h1 h2
      have hn : n < xs.length := by omega
      have hx := List.getElem?_eq_getElem hn
      rw [List.drop_eq_getElem_cons hn, List.any_cons]
      have hf := hF _ (List.getElem_mem hn)
      cases hp : p xs[n] with
      | true =>
        rw [hp] at hf
        refine ⟨(n : Int), Ev.step (fun k => hL k _) (ev_pos (by omega) (ev_pos (by omega) (ev_pos (by omega) ?_))), by simp⟩
        rw [getD_of hx]
        exact ev_bind hf (ev_pos rfl (ev_ret _))
      | false =>
        rw [hp] at hf
        obtain ⟨r, h3, h4⟩ := ih (n + 1) (by omega) (by omega)
        refine ⟨r, Ev.step (fun k => hL k _) (ev_pos (by omega) (ev_pos (by omega) (ev_pos (by omega) ?_))), by rw [h4]; rfl⟩
        rw [getD_of hx, wrap_nat hn (by omega)]
        exact ev_bind hf (ev_neg (by simp) h3)
  have := key xs.length 0 (by omega) (by omega)
  simpa using this
theorem ev_contains {α : Type} {da : α} (L : Nat → Int → Option Int) (F : Nat → α → Option Bool) (xs : List α) (p : α → Bool) (hl : xs.length ≤ 9223372036854775807)
    (hL : ∀ k i, L (k + 1) i = if i < (xs.length : Int) then (if 0 ≤ i then (if i < (xs.length : Int) then ((F k (xs.getD i.toNat da)).bind fun t => if t = true then some i else L k (wrap64 (i + 1))) else none) else none) else some (-1))
    (hF : ∀ x ∈ xs, Ev (fun k => F k x) (p x)) : Ev (fun k => (L k 0).bind fun t => some (decide (t ≥ 0))) (xs.any p) := by
  obtain ⟨r, h1, h2⟩ := ev_index L F xs p hl hL hF
  exact ev_bind h1 (ev_eq (ev_ret _) h2)
theorem ev_all {α : Type} {da : α} (L : Nat → Int → Option Bool) (F : Nat → α → Option Bool) (xs : List α) (p : α → Bool) (G : Nat → Option Bool) (b : Bool) (hl : xs.length ≤ 9223372036854775807) (hG : Ev G b)
    (hL : ∀ k i, L (k + 1) i = if i < (xs.length : Int) then (if 0 ≤ i then ((F k (xs.getD i.toNat da)).bind fun t => if t = true then L k (wrap64 (i + 1)) else some false) else none) else G k)
    (hF : ∀ x ∈ xs, Ev (fun k => F k x) (p x)) : Ev (fun k => L k 0) (xs.all p && b) := by
  have key : ∀ d n : Nat, xs.length - n = d → n ≤ xs.length → Ev (fun k => L k (n : Int)) ((xs.drop n).all p && b) := by
    intro d
    induction d with
    | zero =>
      intro n h1 h2
      have : n = xs.length := by omega
      subst this
      rw [List.drop_length]
      refine Ev.step (fun k => hL k _) (ev_neg (by omega) (ev_eq hG (by simp)))
    | succ d ih =>
      intro n h1 h2
      have hn : n < xs.length := by omega
      have hx := List.getElem?_eq_getElem hn
      rw [List.drop_eq_getElem_cons hn, List.all_cons]
      have hf := hF _ (List.getElem_mem hn)
      refine Ev.step (fun k => hL k _) (ev_pos (by omega) (ev_pos (by omega) ?_))
      rw [getD_of hx, wrap_nat hn (by omega)]
      cases hp : p xs[n] with
      | true => rw [hp] at hf; exact ev_bind hf (ev_pos rfl (ev_eq (ih (n + 1) (by omega) (by omega)) (by simp)))
      | false => rw [hp] at hf; exact ev_bind hf (ev_neg (by simp) (ev_eq (ev_ret _) (by simp)))
  have := key xs.length 0 (by omega) (by omega)
  simpa using this
def pickGo (p : Nat → Bool) : Nat → Nat → List Int → List Int
  | 0, _, s => s
  | d + 1, n, s => pickGo p d (n + 1) (if p n = true then s ++ [(n : Int)] else s)
def pickP (p : Nat → Bool) (m : Nat) : List Int := pickGo p m 0 []
theorem pickGo_congr {p q : Nat → Bool} : ∀ (d n : Nat) (s : List Int), (∀ i, n ≤ i → i < n + d → p i = q i) → pickGo p d n s = pickGo q d n s
  | 0, _, _, _ => rfl
  | d + 1, n, s, h => by
    unfold pickGo
    rw [h n (Nat.le_refl _) (by omega)]
    exact pickGo_congr d (n + 1) _ fun i h1 h2 => h i (by omega) (by omega)
theorem pickP_congr {p q : Nat → Bool} {m : Nat} (h : ∀ i, i < m → p i = q i) : pickP p m = pickP q m := pickGo_congr m 0 [] fun i _ h2 => h i (by omega)
theorem pickGo_len (p : Nat → Bool) : ∀ (d n : Nat) (s : List Int), (pickGo p d n s).length ≤ s.length + d
  | 0, _, _ => Nat.le_refl _
  | d + 1, n, s => by
    unfold pickGo
    have h := pickGo_len p d (n + 1) (if p n = true then s ++ [(n : Int)] else s)
    split at h <;> rename_i e
    · rw [if_pos e]; simp at h ⊢; omega
    · rw [if_neg e]; omega
theorem pickP_len (p : Nat → Bool) (m : Nat) : (pickP p m).length ≤ m := by
  have := pickGo_len p m 0 []
  simpa [pickP] using this
theorem ev_pick (L : Nat → List Int → Int → Option (List Int)) (p : Nat → Bool) (m : Nat) (hend : ∀ s, s.length ≤ m → Ev (fun k => L k s (m : Int)) s)
    (hstep : ∀ (n : Nat) s R, n < m → s.length ≤ n → Ev (fun k => L k (if p n = true then s ++ [(n : Int)] else s) ((n + 1 : Nat) : Int)) R → Ev (fun k => L k s (n : Int)) R) : Ev (fun k => L k [] 0) (pickP p m) := by
  have key : ∀ d n : Nat, m - n = d → n ≤ m → ∀ s : List Int, s.length ≤ n → Ev (fun k => L k s (n : Int)) (pickGo p d n s) := by
    intro d
    induction d with
    | zero =>
      intro n h1 h2 s hs
      have : n = m := by omega
      subst this
      exact hend s hs
    | succ d ih =>
      intro n h1 h2 s hs
      refine hstep n s _ (by omega) hs ?_
      unfold pickGo
      exact ih (n + 1) (by omega) (by omega) _ (by split <;> (try simp only [List.length_append, List.length_singleton]) <;> omega)
  exact key m 0 (by omega) (by omega) [] (by simp)
theorem impl_listOf_ev (l : List Bool) (hl : l.length ≤ 1048576) : Ev (fun k => impl_listOf.f k l) (pickP (fun n => l.getD n false) l.length) := by
  unfold impl_listOf.f
  refine ev_pick (fun k s i => impl_listOf.l0 k s l (l.length : Int) i) _ l.length (fun s hs => ?_) (fun n s R hn hs ih => ?_)
  · refine Ev.step (fun k => by rw [impl_listOf.l0]) ?_
    exact ev_neg (by omega) (ev_bind (g := fun _ => impl_clone_int.f s) (ev_fix (by unfold impl_clone_int.f; rw [if_pos (by omega)])) (ev_ret _))
  · refine Ev.step (fun k => by rw [impl_listOf.l0]) ?_
    rw [wrap_nat hn (by omega)]
    refine ev_pos (by omega) (ev_pos (by omega) (ev_pos (by omega) ?_))
    have e : rdOf false l (n : Int) = l.getD n false := rfl
    rw [e]
    by_cases h : l.getD n false = true
    · rw [if_pos h] at ih
      exact ev_pos h (ev_pos (by omega) ih)
    · rw [if_neg h] at ih
      exact ev_neg h ih
def areBits (l : List Int) : Bool := l.all fun x => inR x 0 1
theorem spec_l6Are_ev (l : List Int) (hl : l.length ≤ 9223372036854775807) : Ev (fun k => spec_l6Are.f k l) (areBits l) := by
  unfold spec_l6Are.f
  refine ev_eq (ev_all (da := (0 : Int)) (fun k i => spec_l6Are.l0 k l i) (fun _ x => spec_l1In.f x 0 1) l (fun x => inR x 0 1) (fun _ => some true) true hl (ev_ret _) (fun k i => by rw [spec_l6Are.l0]; rfl) (fun x _ => ev_fix (spec_l1In_eq x 0 1))) ?_
  simp [areBits]
theorem impl_bitsValid_ev (l : List Int) (hl : l.length ≤ 9223372036854775807) : Ev (fun k => impl_bitsValid.f k l) (areBits l) := by
  unfold impl_bitsValid.f slices_ContainsFunc_at_impl_bitsValid_1.f slices_IndexFunc_at_impl_bitsValid_1.f
  refine ev_bind (ev_contains (da := (0 : Int)) (fun k i => slices_IndexFunc_at_impl_bitsValid_1.l0 k l (l.length : Int) i) (fun _ x => impl_bitsValid_1.f x) l (fun x => !inR x 0 1) hl (fun k i => by rw [slices_IndexFunc_at_impl_bitsValid_1.l0]; rfl)
    (fun x _ => ev_fix (by unfold impl_bitsValid_1.f; rw [impl_in_eq]; rfl))) (ev_eq (ev_ret _) ?_)
  unfold areBits
  rw [List.not_any_eq_all_not]
  simp
def setGo (set : List Int) (most : Int) : Nat → List Int → Bool
  | _, [] => true
  | n, x :: r => (inR x 0 (most - 1) && !(decide (0 < n) && decide (x ≤ set.getD (n - 1) 0))) && setGo set most (n + 1) r
def setP (set : List Int) (most : Int) : Bool := setGo set most 0 set
theorem rd_prev {set : List Int} {n : Nat} (h0 : 0 < n) (h : n ≤ 9223372036854775807) : rd set (wrap64 ((n : Int) - 1)) = set.getD (n - 1) 0 := by
  rw [wrap_in (by omega) (by omega), show ((n : Int) - 1) = ((n - 1 : Nat) : Int) by omega]
  rfl
theorem rd_at {set : List Int} {n : Nat} (h : n < set.length) : rd set (n : Int) = set[n] := getD_of (List.getElem?_eq_getElem h)
theorem impl_setOk_ev (set : List Int) (most : Int) (hm : 0 ≤ most ∧ most ≤ 400) (hl : set.length ≤ 9223372036854775807) : Ev (fun k => impl_setOk.f k set most) (setP set most) := by
  unfold impl_setOk.f setP
  have key : ∀ d n : Nat, set.length - n = d → n ≤ set.length → Ev (fun k => impl_setOk.l0 k set most set (set.length : Int) (n : Int)) (setGo set most n (set.drop n)) := by
    intro d
    induction d with
    | zero =>
      intro n e1 e2
      have : n = set.length := by omega
      subst this
      rw [List.drop_length]
      refine Ev.step (fun k => by rw [impl_setOk.l0]) ?_
      exact ev_neg (by omega) (ev_ret _)
    | succ d ih =>
      intro n e1 e2
      have hn : n < set.length := by omega
      rw [List.drop_eq_getElem_cons hn]
      unfold setGo
      refine Ev.step (fun k => by rw [impl_setOk.l0]) ?_
      refine ev_pos (by omega) (ev_pos (by omega) (ev_pos (by omega) ?_))
      rw [impl_in_eq, rd_at hn, wrap_in (x := most - 1) (by omega) (by omega)]
      simp only [Option.bind_some]
      cases h1 : inR set[n] 0 (most - 1) with
      | false => exact ev_neg (by simp) (Ev.step (fun k => by rw [impl_setOk.j1]) (ev_pos rfl (ev_eq (ev_ret _) (by simp))))
      | true =>
        refine ev_pos rfl ?_
        by_cases h0 : 0 < n
        · refine ev_pos (by omega) (ev_pos (by rw [wrap_in] <;> omega) (ev_pos (by rw [wrap_in] <;> omega) ?_))
          rw [rd_prev h0 (by omega)]
          refine Ev.step (fun k => by rw [impl_setOk.j1]) ?_
          by_cases h2 : set[n] ≤ set.getD (n - 1) 0
          · exact ev_pos (by simpa using h2) (ev_eq (ev_ret _) (by simp only [h0, h2, decide_true]; rfl))
          · refine ev_neg (by simpa using h2) ?_
            rw [wrap_nat hn (by omega)]
            exact ev_eq (ih (n + 1) (by omega) (by omega)) (by simp only [h0, h2, decide_true, decide_false]; rfl)
        · refine ev_neg (by omega) (Ev.step (fun k => by rw [impl_setOk.j1]) (ev_neg (by simp) ?_))
          rw [wrap_nat hn (by omega)]
          exact ev_eq (ih (n + 1) (by omega) (by omega)) (by simp only [h0, decide_false]; rfl)
  have := key set.length 0 (by omega) (by omega)
  simpa using this
theorem setGo_mem {most : Int} (set : List Int) : ∀ (l : List Int) (n : Nat), setGo set most n l = true → ∀ x ∈ l, inR x 0 (most - 1) = true
  | y :: r, n, h, x, hx => by
    simp only [setGo, Bool.and_eq_true] at h
    rcases List.mem_cons.1 hx with rfl | hx
    · exact h.1.1
    · exact setGo_mem set r (n + 1) h.2 x hx
theorem setP_range {l : List Int} {most x : Int} (h : setP l most = true) (hx : x ∈ l) : 0 ≤ x ∧ x < most := by
  have := inR_iff.1 (setGo_mem l l 0 h x hx)
  omega
def marksF (m : Nat) (p : Nat → Bool) : List Bool := (List.range m).map p
theorem marksF_len (m : Nat) (p : Nat → Bool) : (marksF m p).length = m := by simp [marksF]
theorem marksF_congr {m : Nat} {p q : Nat → Bool} (h : ∀ i, i < m → p i = q i) : marksF m p = marksF m q := List.map_congr_left fun i hi => h i (List.mem_range.1 hi)
theorem marksF_get {m : Nat} {p : Nat → Bool} {i : Nat} (h : i < m) : (marksF m p).getD i false = p i := by
  unfold marksF
  rw [List.getD_eq_getElem?_getD, List.getElem?_map, List.getElem?_range h]
  rfl
theorem spec_l4List_F {m : Nat} {p : Nat → Bool} (hm : m ≤ 1048576) : Ev (fun k => spec_l4List.f k (marksF m p)) (pickP p m) := by
  unfold spec_l4List.f
  refine ev_pick (fun k s i => spec_l4List.l0 k (marksF m p) s i) p m (fun s hs => ?_) (fun n s R hn hs ih => ?_)
  · refine Ev.step (fun k => by rw [spec_l4List.l0]) ?_
    exact ev_neg (by rw [marksF_len]; omega) (ev_ret _)
  · have hr : rdOf false (marksF m p) (n : Int) = p n := marksF_get hn
    refine Ev.step (fun k => by rw [spec_l4List.l0, hr, wrap_nat hn (by omega)]) ?_
    refine ev_pos (by rw [marksF_len]; omega) (ev_pos (by omega) ?_)
    by_cases e : p n = true
    · rw [if_pos e] at ih
      exact ev_pos e (ev_pos (by omega) ih)
    · rw [if_neg e] at ih
      exact ev_neg e ih
end Go.Proofs.Ytikjlbanfbkhmaa.PA
end
section
set_option linter.unusedVariables false
set_option linter.unusedSimpArgs false
namespace Go.Proofs.Ytikjlbanfbkhmaa.PA
open Go.RowKit Go.Proofs.YtikjlbanfbkhmaaW.PrintWords
def aheadF (X : List (List Int)) (z : Nat → Bool) (n : Nat) : Bool := (X.getD n []).any fun x => z x.toNat
theorem aheadF_iff {X : List (List Int)} {z : Nat → Bool} {n : Nat} : aheadF X z n = true ↔ ∃ x ∈ X.getD n [], z x.toNat = true := by
  unfold aheadF; rw [List.any_eq_true]
theorem aheadF_mono {X : List (List Int)} {y z : Nat → Bool} (h : ∀ n, y n = true → z n = true) (n : Nat) : aheadF X y n = true → aheadF X z n = true := by
  rw [aheadF_iff, aheadF_iff]
  exact fun ⟨x, a, b⟩ => ⟨x, a, h _ b⟩
def uniF (all : Bool) (X : List (List Int)) (z : Nat → Bool) (n : Nat) : Bool := if all then !aheadF X (fun m => !z m) n else aheadF X z n
theorem uniF_mono {all : Bool} {X : List (List Int)} {y z : Nat → Bool} (h : ∀ n, y n = true → z n = true) (n : Nat) : uniF all X y n = true → uniF all X z n = true := by
  unfold uniF
  cases all with
  | false => exact aheadF_mono h n
  | true =>
    simp only [if_true, Bool.not_eq_true']
    intro h1
    cases h2 : aheadF X (fun m => !z m) n with
    | false => rfl
    | true =>
      rw [aheadF_mono (z := fun m => !y m) (fun m hm => by
        cases hy : y m with
        | false => rfl
        | true => rw [h m hy] at hm; cases hm) n h2] at h1
      cases h1
def itF (step : (Nat → Bool) → Nat → Bool) (z : Nat → Bool) : Nat → Nat → Bool
  | 0 => z
  | k + 1 => step (itF step z k)
def stepU (all : Bool) (X : List (List Int)) (a b z : Nat → Bool) (n : Nat) : Bool := b n || (a n && uniF all X z n)
def stepA (all : Bool) (X : List (List Int)) (a z : Nat → Bool) (n : Nat) : Bool := a n && uniF all X z n
def untilF (all : Bool) (X : List (List Int)) (a b : Nat → Bool) (k : Nat) : Nat → Bool := itF (stepU all X a b) b k
def alwaysF (all : Bool) (X : List (List Int)) (a : Nat → Bool) (k : Nat) : Nat → Bool := itF (stepA all X a) a k
section
variable {all : Bool} {X : List (List Int)} {a b : Nat → Bool}
theorem bimp {x y : Bool} (h : x = true → y = true) (h2 : y = true → x = true) : x = y := by cases x <;> cases y <;> simp_all
theorem stepU_mono {y z : Nat → Bool} (h : ∀ n, y n = true → z n = true) (n : Nat) : stepU all X a b y n = true → stepU all X a b z n = true := by
  unfold stepU
  simp only [Bool.or_eq_true, Bool.and_eq_true]
  exact fun h1 => h1.imp_right fun ⟨p, q⟩ => ⟨p, uniF_mono h n q⟩
theorem stepA_mono {y z : Nat → Bool} (h : ∀ n, y n = true → z n = true) (n : Nat) : stepA all X a y n = true → stepA all X a z n = true := by
  unfold stepA
  simp only [Bool.and_eq_true]
  exact fun ⟨p, q⟩ => ⟨p, uniF_mono h n q⟩
theorem untilF_succ (k n : Nat) : untilF all X a b (k + 1) n = (b n || (a n && uniF all X (untilF all X a b k) n)) := rfl
theorem alwaysF_succ (k n : Nat) : alwaysF all X a (k + 1) n = (a n && uniF all X (alwaysF all X a k) n) := rfl
theorem untilF_up : ∀ (k n : Nat), untilF all X a b k n = true → untilF all X a b (k + 1) n = true
  | 0, n => fun h => by
    show stepU all X a b b n = true
    unfold stepU
    rw [show b n = true from h]; rfl
  | k + 1, n => fun h => stepU_mono (fun m => untilF_up k m) n h
theorem alwaysF_down : ∀ (k n : Nat), alwaysF all X a (k + 1) n = true → alwaysF all X a k n = true
  | 0, n => fun h => by
    have : stepA all X a a n = true := h
    unfold stepA at this
    rw [Bool.and_eq_true] at this
    exact this.1
  | k + 1, n => fun h => stepA_mono (fun m => alwaysF_down k m) n h
theorem untilF_or (k n : Nat) : untilF all X a b (k + 1) n = (untilF all X a b k n || (a n && uniF all X (untilF all X a b k) n)) := by
  refine bimp (fun h => ?_) fun h => ?_
  · have h : stepU all X a b (untilF all X a b k) n = true := h
    unfold stepU at h
    rw [Bool.or_eq_true] at h ⊢
    refine h.imp_left fun hb => ?_
    induction k with
    | zero => exact hb
    | succ k _ => show stepU all X a b _ n = true; unfold stepU; rw [hb]; rfl
  · rw [Bool.or_eq_true] at h
    rcases h with h | h
    · exact untilF_up k n h
    · rw [untilF_succ, h, Bool.or_true]
theorem alwaysF_and (k n : Nat) : alwaysF all X a (k + 1) n = (alwaysF all X a k n && uniF all X (alwaysF all X a k) n) := by
  refine bimp (fun h => ?_) fun h => ?_
  · rw [Bool.and_eq_true]
    have h2 : stepA all X a (alwaysF all X a k) n = true := h
    unfold stepA at h2
    rw [Bool.and_eq_true] at h2
    exact ⟨alwaysF_down k n h, h2.2⟩
  · rw [Bool.and_eq_true] at h
    rw [alwaysF_succ, h.2, Bool.and_true]
    have : ∀ k, alwaysF all X a k n = true → a n = true := fun k => by
      induction k with
      | zero => exact fun h => h
      | succ k ih => exact fun h => ih (alwaysF_down k n h)
    exact this k h.1
end
def cntF (s : Bool) (z : Nat → Bool) : Nat → Nat
  | 0 => 0
  | n + 1 => cntF s z n + (if z n = s then 1 else 0)
theorem cntF_le (s : Bool) (z : Nat → Bool) : ∀ n, cntF s z n ≤ n
  | 0 => Nat.le_refl _
  | n + 1 => by have := cntF_le s z n; unfold cntF; split <;> omega
theorem cntF_mono {s : Bool} {y z : Nat → Bool} : ∀ n, (∀ i, i < n → y i = s → z i = s) → cntF s y n ≤ cntF s z n ∧ ((∃ i, i < n ∧ y i ≠ z i) → cntF s y n < cntF s z n)
  | 0, _ => ⟨Nat.le_refl _, fun ⟨i, h, _⟩ => by omega⟩
  | n + 1, h => by
    obtain ⟨h1, h2⟩ := cntF_mono (y := y) (z := z) n fun i hi => h i (by omega)
    have h3 := h n (by omega)
    unfold cntF
    refine ⟨?_, fun ⟨i, hi, hne⟩ => ?_⟩
    · by_cases e : y n = s
      · rw [if_pos e, if_pos (h3 e)]; omega
      · rw [if_neg e]; omega
    · rcases Nat.lt_or_ge i n with hl | hl
      · have := h2 ⟨i, hl, hne⟩
        by_cases e : y n = s
        · rw [if_pos e, if_pos (h3 e)]; omega
        · rw [if_neg e]; omega
      · obtain rfl : i = n := by omega
        have hy : y i ≠ s := fun e => hne (by rw [e, h3 e])
        have hz : z i = s := by revert hy hne; cases y i <;> cases z i <;> cases s <;> simp
        rw [if_neg hy, if_pos hz]; omega
theorem rest_at {N : Nat} {s : Bool} (it : Nat → Nat → Bool) (hup : ∀ k i, i < N → it k i = s → it (k + 1) i = s)
    (hc : ∀ k, (∀ i, i < N → it (k + 1) i = it k i) → ∀ i, i < N → it (k + 2) i = it (k + 1) i) : ∀ i, i < N → it (N + 1) i = it N i := by
  have hor : ∀ k, (∀ i, i < N → it (k + 1) i = it k i) ∨ k + 1 ≤ cntF s (it (k + 1)) N := by
    intro k
    induction k with
    | zero =>
      by_cases h : ∀ i, i < N → it 1 i = it 0 i
      · exact .inl h
      · right
        obtain ⟨i, hi, hne⟩ : ∃ i, i < N ∧ it 0 i ≠ it 1 i := by
          apply Classical.byContradiction; intro hh
          exact h fun i hi => Classical.byContradiction fun hn => hh ⟨i, hi, fun e => hn e.symm⟩
        have := (cntF_mono (y := it 0) (z := it 1) N (hup 0)).2 ⟨i, hi, hne⟩
        show 1 ≤ cntF s (it 1) N
        omega
    | succ k ih =>
      rcases ih with ih | ih
      · exact .inl (hc k ih)
      · by_cases h : ∀ i, i < N → it (k + 1 + 1) i = it (k + 1) i
        · exact .inl h
        · right
          obtain ⟨i, hi, hne⟩ : ∃ i, i < N ∧ it (k + 1) i ≠ it (k + 1 + 1) i := by
            apply Classical.byContradiction; intro hh
            exact h fun i hi => Classical.byContradiction fun hn => hh ⟨i, hi, fun e => hn e.symm⟩
          have := (cntF_mono (y := it (k + 1)) (z := it (k + 1 + 1)) N (hup (k + 1))).2 ⟨i, hi, hne⟩
          omega
  rcases hor N with h | h
  · exact h
  · have := cntF_le s (it (N + 1)) N
    omega
structure GrOk (X : List (List Int)) (N : Nat) : Prop where
  len : X.length = N
  small : N ≤ 400
  tgt : ∀ x ∈ X, ∀ y ∈ x, 0 ≤ y ∧ y < (N : Int)
  short : ∀ x ∈ X, x.length ≤ 1048576
section
variable {X : List (List Int)} {N : Nat} (G : GrOk X N) {all : Bool} {a b : Nat → Bool}
include G
theorem GrOk.at {n : Nat} {x : Int} (h : x ∈ X.getD n []) : x.toNat < N ∧ 0 ≤ x := by
  rw [List.getD_eq_getElem?_getD] at h
  by_cases hn : n < X.length
  · rw [List.getElem?_eq_getElem hn] at h
    have := G.tgt _ (List.getElem_mem hn) x h
    omega
  · rw [List.getElem?_eq_none (by omega)] at h
    cases h
theorem GrOk.congr {y z : Nat → Bool} (h : ∀ i, i < N → y i = z i) (n : Nat) : aheadF X y n = aheadF X z n := by
  refine bimp (fun h1 => ?_) fun h1 => ?_
  · rw [aheadF_iff] at h1 ⊢
    obtain ⟨x, a1, a2⟩ := h1
    exact ⟨x, a1, by rw [← h _ (G.at a1).1]; exact a2⟩
  · rw [aheadF_iff] at h1 ⊢
    obtain ⟨x, a1, a2⟩ := h1
    exact ⟨x, a1, by rw [h _ (G.at a1).1]; exact a2⟩
theorem GrOk.congrU {y z : Nat → Bool} (h : ∀ i, i < N → y i = z i) (n : Nat) : uniF all X y n = uniF all X z n := by
  unfold uniF
  cases all with
  | false => exact G.congr h n
  | true => simp only [if_true]; rw [G.congr (z := fun m => !z m) (fun i hi => by rw [h i hi]) n]
theorem GrOk.restU : ∀ i, i < N → untilF all X a b (N + 1) i = untilF all X a b N i := by
  refine rest_at (s := true) (untilF all X a b) (fun k i _ h => untilF_up k i h) fun k h i hi => ?_
  show stepU all X a b (untilF all X a b (k + 1)) i = stepU all X a b (untilF all X a b k) i
  unfold stepU
  rw [G.congrU h]
theorem GrOk.restA : ∀ i, i < N → alwaysF all X a (N + 1) i = alwaysF all X a N i := by
  refine rest_at (s := false) (alwaysF all X a) (fun k i _ h => ?_) fun k h i hi => ?_
  · cases h2 : alwaysF all X a (k + 1) i with
    | false => rfl
    | true => rw [alwaysF_down k i h2] at h; cases h
  · show stepA all X a (alwaysF all X a (k + 1)) i = stepA all X a (alwaysF all X a k) i
    unfold stepA
    rw [G.congrU h]
theorem GrOk.dual {n : Nat} (hn : n < N) : untilF true X a b N n = (!untilF false X (fun m => !b m) (fun m => !b m && !a m) N n && !alwaysF false X (fun m => !b m) N n) := by
  generalize hU : untilF false X (fun m => !b m) (fun m => !b m && !a m) N = U
  generalize hS : alwaysF false X (fun m => !b m) N = S
  have uU : ∀ i, i < N → U i = ((!b i && !a i) || (!b i && aheadF X U i)) := fun i hi => by
    have := G.restU (all := false) (a := fun m => !b m) (b := fun m => !b m && !a m) i hi
    rw [hU] at this
    rw [← this, untilF_succ, hU]
    rfl
  have uS : ∀ i, i < N → S i = (!b i && aheadF X S i) := fun i hi => by
    have := G.restA (all := false) (a := fun m => !b m) i hi
    rw [hS] at this
    rw [← this, alwaysF_succ, hS]
    rfl
  have uI : ∀ i, i < N → untilF true X a b N i = (b i || (a i && !aheadF X (fun m => !untilF true X a b N m) i)) := fun i hi => by
    have := G.restU (all := true) (a := a) (b := b) i hi
    rw [← this]
    rfl
  refine bimp (fun h => ?_) fun h => ?_
  · -- each round of the one is outside both
    have key : ∀ k i, i < N → untilF true X a b k i = true → U i = false ∧ S i = false := by
      intro k
      induction k with
      | zero =>
        intro i hi hb
        have hb : b i = true := hb
        rw [uU i hi, uS i hi, hb]
        exact ⟨rfl, rfl⟩
      | succ k ih =>
        intro i hi hk
        have hk : stepU true X a b (untilF true X a b k) i = true := hk
        unfold stepU uniF at hk
        simp only [if_true, Bool.or_eq_true, Bool.and_eq_true, Bool.not_eq_true'] at hk
        rcases hk with hb | ⟨ha, hno⟩
        · rw [uU i hi, uS i hi, hb]; exact ⟨rfl, rfl⟩
        · have no : ∀ z : Nat → Bool, (∀ j, j < N → untilF true X a b k j = true → z j = false) → aheadF X z i = false := fun z hz => by
            cases hA : aheadF X z i with
            | false => rfl
            | true =>
              obtain ⟨x, x1, x2⟩ := aheadF_iff.1 hA
              have : aheadF X (fun m => !untilF true X a b k m) i = true := aheadF_iff.2 ⟨x, x1, by
                cases hu : untilF true X a b k x.toNat with
                | false => rfl
                | true => rw [hz _ (G.at x1).1 hu] at x2; cases x2⟩
              rw [this] at hno; cases hno
          rw [uU i hi, uS i hi, no U fun j hj hu => (ih j hj hu).1, no S fun j hj hu => (ih j hj hu).2, ha]
          simp
    obtain ⟨h1, h2⟩ := key N n hn h
    rw [h1, h2]; rfl
  · rw [Bool.and_eq_true, Bool.not_eq_true', Bool.not_eq_true'] at h
    -- what is outside the one and outside U stays for ever
    have key : ∀ k i, i < N → untilF true X a b N i = false → U i = false → alwaysF false X (fun m => !b m) k i = true := by
      intro k
      induction k with
      | zero =>
        intro i hi h1 h2
        rw [uI i hi, Bool.or_eq_false_iff] at h1
        show (!b i) = true
        rw [h1.1]; rfl
      | succ k ih =>
        intro i hi h1 h2
        have hI := h1
        rw [uI i hi, Bool.or_eq_false_iff] at h1
        obtain ⟨hb, h1⟩ := h1
        rw [uU i hi, hb] at h2
        simp only [Bool.not_false, Bool.true_and, Bool.or_eq_false_iff, Bool.not_eq_false'] at h2
        obtain ⟨ha, hno⟩ := h2
        rw [ha] at h1
        simp only [Bool.true_and, Bool.not_eq_false'] at h1
        obtain ⟨x, x1, x2⟩ := aheadF_iff.1 h1
        rw [Bool.not_eq_true'] at x2
        rw [alwaysF_succ]
        show (!b i && aheadF X (alwaysF false X (fun m => !b m) k) i) = true
        rw [hb, Bool.not_false, Bool.true_and]
        refine aheadF_iff.2 ⟨x, x1, ih x.toNat (G.at x1).1 x2 ?_⟩
        cases hu : U x.toNat with
        | false => rfl
        | true => rw [aheadF_iff.2 ⟨x, x1, hu⟩] at hno; cases hno
    cases hI : untilF true X a b N n with
    | true => rfl
    | false =>
      have := key N n hn hI h.1
      rw [hS, h.2] at this
      cases this
omit G in
theorem always_dual (k n : Nat) : alwaysF true X a k n = !untilF false X (fun _ => true) (fun m => !a m) k n := by
  induction k generalizing n with
  | zero => show a n = !(!a n); rw [Bool.not_not]
  | succ k ih =>
    show stepA true X a (alwaysF true X a k) n = !stepU false X (fun _ => true) (fun m => !a m) (untilF false X (fun _ => true) (fun m => !a m) k) n
    unfold stepA stepU uniF
    simp only [if_true, Bool.false_eq_true, if_false, Bool.true_and]
    have : (fun m => !alwaysF true X a k m) = untilF false X (fun _ => true) (fun m => !a m) k := by
      funext m; rw [ih m, Bool.not_not]
    rw [this]
    cases a n <;> cases aheadF X (untilF false X (fun _ => true) (fun m => !a m) k) n <;> rfl
end
theorem marksF_put {N : Nat} {q : Nat → Bool} {n : Nat} {b : Bool} (h : n < N) : (marksF N q).set n b = marksF N fun i => if i = n then b else q i := by
  refine List.ext_getElem (by simp [marksF]) fun i h1 h2 => ?_
  simp only [marksF, List.getElem_set, List.getElem_map, List.getElem_range]
  by_cases e : n = i
  · rw [if_pos e, if_pos e.symm]
  · rw [if_neg e, if_neg (fun h => e h.symm)]
theorem marksF_no (N : Nat) : List.replicate N false = marksF N fun _ => false := by
  refine List.ext_getElem (by simp [marksF]) fun i h1 h2 => ?_
  simp [marksF]
theorem marksF_eq {N : Nat} {p q : Nat → Bool} : marksF N p = marksF N q ↔ ∀ i, i < N → p i = q i := by
  refine ⟨fun h i hi => ?_, marksF_congr⟩
  rw [← marksF_get (p := p) hi, h, marksF_get hi]
theorem marksF_rd {N : Nat} {p : Nat → Bool} {n : Nat} (h : n < N) : rdOf false (marksF N p) (n : Int) = p n := by
  show (marksF N p).getD _ false = _
  rw [Int.toNat_natCast]
  exact marksF_get h
theorem ev_fillM {ρ : Type} (L : Nat → List Bool → Int → Option ρ) (N : Nat) (p p' : Nat → Bool) (r : ρ) (hend : Ev (fun k => L k (marksF N p') (N : Int)) r)
    (hstep : ∀ n (q : Nat → Bool) R, n < N → (∀ i, n ≤ i → q i = p i) → Ev (fun k => L k ((marksF N q).set n (p' n)) ((n + 1 : Nat) : Int)) R → Ev (fun k => L k (marksF N q) (n : Int)) R) : Ev (fun k => L k (marksF N p) 0) r := by
  have key : ∀ d n : Nat, N - n = d → n ≤ N → Ev (fun k => L k (marksF N fun i => if i < n then p' i else p i) (n : Int)) r := by
    intro d
    induction d with
    | zero =>
      intro n h1 h2
      obtain rfl : n = N := by omega
      rw [marksF_congr (q := p') fun i hi => by rw [if_pos hi]]
      exact hend
    | succ d ih =>
      intro n h1 h2
      refine hstep n _ r (by omega) (fun i hi => by rw [if_neg (by omega)]) ?_
      rw [marksF_put (by omega)]
      have := ih (n + 1) (by omega) (by omega)
      rw [marksF_congr (q := fun i => if i < n + 1 then p' i else p i) fun i hi => by
        by_cases e : i = n
        · rw [if_pos e, if_pos (by omega), e]
        · rw [if_neg e]
          by_cases l : i < n
          · rw [if_pos l, if_pos (by omega)]
          · rw [if_neg l, if_neg (by omega)]]
      exact this
  have := key N 0 (by omega) (by omega)
  rw [marksF_congr (q := p) fun i hi => by rw [if_neg (by omega)]] at this
  exact this
end Go.Proofs.Ytikjlbanfbkhmaa.PA
end
section
set_option linter.unusedVariables false
set_option linter.unusedSimpArgs false
namespace Go.Proofs.Ytikjlbanfbkhmaa.PA
open Go.RowKit Go.Proofs.YtikjlbanfbkhmaaW.PrintWords
def allI {α : Type} (p : Nat → α → Bool) : Nat → List α → Bool
  | _, [] => true
  | n, x :: r => p n x && allI p (n + 1) r
theorem ev_alli {α : Type} (L : Nat → Int → Option Bool) (xs : List α) (p : Nat → α → Bool) (hend : Ev (fun k => L k (xs.length : Int)) true)
    (hstep : ∀ (n : Nat) (x : α) (Q : Bool), n < xs.length → xs[n]? = some x → Ev (fun k => L k ((n + 1 : Nat) : Int)) Q → Ev (fun k => L k (n : Int)) (p n x && Q)) : Ev (fun k => L k 0) (allI p 0 xs) := by
  have h : ∀ d n : Nat, xs.length - n = d → n ≤ xs.length → Ev (fun k => L k (n : Int)) (allI p n (xs.drop n)) := by
    intro d
    induction d with
    | zero =>
      intro n h1 h2
      have : n = xs.length := by omega
      subst this
      rw [List.drop_length]
      exact hend
    | succ d ih =>
      intro n h1 h2
      have hn : n < xs.length := by omega
      rw [List.drop_eq_getElem_cons hn]
      exact hstep n _ _ hn (List.getElem?_eq_getElem hn) (ih (n + 1) (by omega) (by omega))
  have := h xs.length 0 (by omega) (by omega)
  simpa using this
theorem ev_at {α : Type} {g : Nat → Option α} {r : α} (h : ∀ k, g (k + 1) = some r) : Ev g r := ⟨1, fun k hk => by
  obtain ⟨m, rfl⟩ : ∃ m, k = m + 1 := ⟨k - 1, by omega⟩
  exact h m⟩
def letterP (facts : Int) (l : List Int) : Bool := decide ((l.length : Int) = facts) && areBits l
theorem spec_l20Letters_ev (l : List (List Int)) (facts : Int) (hl : l.length ≤ 9223372036854775807) (hx : ∀ x ∈ l, x.length ≤ 9223372036854775807) : Ev (fun k => spec_l20Letters.f k l facts) (l.all (letterP facts)) := by
  unfold spec_l20Letters.f
  rw [← Bool.and_true (l.all _)]
  refine ev_all (da := ([] : List Int)) (fun k i => spec_l20Letters.l0 k l facts i) (fun k c => if (c.length : Int) = facts then spec_l6Are.f k c else some false) l (letterP facts) (fun _ => some true) true hl (ev_ret _) (fun k i => ?_) (fun c hc => ?_)
  · rw [spec_l20Letters.l0]
    show (if i < (l.length : Int) then (if 0 ≤ i then (if ((l.getD i.toNat []).length : Int) = facts then _ else _) else _) else _) = _
    by_cases h : i < (l.length : Int)
    · rw [if_pos h, if_pos h]
      by_cases h0 : 0 ≤ i
      · rw [if_pos h0, if_pos h0]
        by_cases h1 : ((l.getD i.toNat []).length : Int) = facts
        · rw [if_pos h1, if_pos h1]; rfl
        · rw [if_neg h1, if_neg h1]; rfl
      · rw [if_neg h0, if_neg h0]
    · rw [if_neg h, if_neg h]
  · unfold letterP
    by_cases h1 : (c.length : Int) = facts
    · exact ev_pos h1 (ev_eq (spec_l6Are_ev c (hx c hc)) (by simp [h1]))
    · exact ev_neg h1 (ev_eq (ev_ret _) (by simp [h1]))
end Go.Proofs.Ytikjlbanfbkhmaa.PA
end
section
set_option linter.unusedVariables false
set_option linter.unusedSimpArgs false
namespace Go.Proofs.Ytikjlbanfbkhmaa.PA
open Go.RowKit Go.Proofs.YtikjlbanfbkhmaaW.PrintWords
theorem ev_eachM (L : Nat → List Bool → Int → Option (List Bool)) (F : Nat → Bool → Bool → Option Bool) (f : Bool → Bool → Bool) {N : Nat} (hN : N ≤ 400) (a b : Nat → Bool)
    (hL : ∀ k row i, L (k + 1) row i = if i < ((marksF N a).length : Int) then (if 0 ≤ i then (if i < ((marksF N a).length : Int) then (if 0 ≤ i then (if i < ((marksF N b).length : Int) then ((F k (rdOf false (marksF N a) i) (rdOf false (marksF N b) i)).bind fun r => if 0 ≤ i then (if i < (row.length : Int) then (L k (row.set i.toNat r) (wrap64 (i + 1))) else none) else none) else none) else none) else none) else none) else some row)
    (hF : ∀ k x y, F k x y = some (f x y)) : Ev (fun k => L k (marksF N fun _ => false) 0) (marksF N fun n => f (a n) (b n)) := by
  refine ev_fillM L N _ (fun n => f (a n) (b n)) _ (Ev.step (fun k => hL k _ _) (ev_neg (by rw [marksF_len]; omega) (ev_ret _))) fun n q R hn _ ih => ?_
  refine Ev.step (fun k => by rw [hL, marksF_rd hn, marksF_rd hn, hF, wrap_nat (n := n) (m := N) hn (by omega), Int.toNat_natCast]) ?_
  exact ev_pos (by rw [marksF_len]; omega) (ev_pos (by omega) (ev_pos (by rw [marksF_len]; omega) (ev_pos (by omega) (ev_pos (by rw [marksF_len]; omega) (ev_bind (ev_ret _) (ev_pos (by omega) (ev_pos (by rw [marksF_len]; omega) ih)))))))
theorem repl_marks {N : Nat} {p : Nat → Bool} : List.replicate ((marksF N p).length : Int).toNat false = marksF N fun _ => false := by
  rw [marksF_len, Int.toNat_natCast, marksF_no]
section
variable {N : Nat} (hN : N ≤ 400) (a b : Nat → Bool)
include hN
theorem each_3_ev : Ev (fun k => impl_each_at_impl_treeRows_3.f k (marksF N a) (marksF N b)) (marksF N fun n => a n && b n) := by
  unfold impl_each_at_impl_treeRows_3.f
  rw [repl_marks]
  exact ev_pos (by omega) (ev_pos (by rw [marksF_len]; omega) (ev_eachM (fun k row i => impl_each_at_impl_treeRows_3.l1 k row i (marksF N a) (marksF N b)) (fun _ => impl_treeRows_3.f) (fun x y => x && y) hN a b (fun k row i => by rw [impl_each_at_impl_treeRows_3.l1]) (fun k x y => by unfold impl_treeRows_3.f; cases x <;> rfl)))
theorem each_4_ev : Ev (fun k => impl_each_at_impl_treeRows_4.f k (marksF N a) (marksF N b)) (marksF N fun n => a n || b n) := by
  unfold impl_each_at_impl_treeRows_4.f
  rw [repl_marks]
  exact ev_pos (by omega) (ev_pos (by rw [marksF_len]; omega) (ev_eachM (fun k row i => impl_each_at_impl_treeRows_4.l1 k row i (marksF N a) (marksF N b)) (fun _ => impl_treeRows_4.f) (fun x y => x || y) hN a b (fun k row i => by rw [impl_each_at_impl_treeRows_4.l1]) (fun k x y => by unfold impl_treeRows_4.f; cases x <;> rfl)))
theorem each_111_ev : Ev (fun k => impl_each_at_impl_treeRows_1_1_1.f k (marksF N a) (marksF N b)) (marksF N fun n => a n && b n) := by
  unfold impl_each_at_impl_treeRows_1_1_1.f
  rw [repl_marks]
  exact ev_pos (by omega) (ev_pos (by rw [marksF_len]; omega) (ev_eachM (fun k row i => impl_each_at_impl_treeRows_1_1_1.l1 k row i (marksF N a) (marksF N b)) (fun k => impl_treeRows_1_1_1.f k) (fun x y => x && y) hN a b (fun k row i => by rw [impl_each_at_impl_treeRows_1_1_1.l1]) (fun k x y => by unfold impl_treeRows_1_1_1.f; cases x <;> rfl)))
theorem each_112_ev : Ev (fun k => impl_each_at_impl_treeRows_1_1_2.f k (marksF N a) (marksF N b)) (marksF N fun n => a n || b n) := by
  unfold impl_each_at_impl_treeRows_1_1_2.f
  rw [repl_marks]
  exact ev_pos (by omega) (ev_pos (by rw [marksF_len]; omega) (ev_eachM (fun k row i => impl_each_at_impl_treeRows_1_1_2.l1 k row i (marksF N a) (marksF N b)) (fun k => impl_treeRows_1_1_2.f k) (fun x y => x || y) hN a b (fun k row i => by rw [impl_each_at_impl_treeRows_1_1_2.l1]) (fun k x y => by unfold impl_treeRows_1_1_2.f; cases x <;> rfl)))
theorem each_211_ev : Ev (fun k => impl_each_at_impl_treeRows_2_1_1.f k (marksF N a) (marksF N b)) (marksF N fun n => a n && b n) := by
  unfold impl_each_at_impl_treeRows_2_1_1.f
  rw [repl_marks]
  exact ev_pos (by omega) (ev_pos (by rw [marksF_len]; omega) (ev_eachM (fun k row i => impl_each_at_impl_treeRows_2_1_1.l1 k row i (marksF N a) (marksF N b)) (fun k => impl_treeRows_2_1_1.f k) (fun x y => x && y) hN a b (fun k row i => by rw [impl_each_at_impl_treeRows_2_1_1.l1]) (fun k x y => by unfold impl_treeRows_2_1_1.f; cases x <;> rfl)))
theorem impl_not_M : Ev (fun k => impl_not.f k (marksF N a)) (marksF N fun n => !a n) := by
  unfold impl_not.f loop_example_wholecheck_impl_each_at_impl_not_1.f
  rw [repl_marks]
  refine ev_bind (ev_pos (by omega) (ev_pos (by rw [marksF_len]; omega) ?_)) (ev_ret _)
  refine ev_fillM (fun k row i => loop_example_wholecheck_impl_each_at_impl_not_1.l0 k (marksF N a) (marksF N a) row ((marksF N a).length : Int) i) N _ (fun n => !a n) _ (Ev.step (fun k => by rw [loop_example_wholecheck_impl_each_at_impl_not_1.l0]) (ev_neg (by rw [marksF_len]; omega) (ev_ret _))) fun n q R hn _ ih => ?_
  refine Ev.step (fun k => by rw [loop_example_wholecheck_impl_each_at_impl_not_1.l0, marksF_rd hn, wrap_nat (n := n) (m := N) hn (by omega), Int.toNat_natCast]) ?_
  refine ev_pos (by rw [marksF_len]; omega) (ev_pos (by omega) (ev_pos (by rw [marksF_len]; omega) (ev_pos (by rw [marksF_len]; omega) ?_)))
  exact ev_bind (g := fun _ => impl_not_1.f (a n) (a n)) (ev_fix rfl) (ev_pos (by rw [marksF_len]; omega) ih)
theorem spec_not_M : Ev (fun k => spec_l24Not.f k (marksF N a)) (marksF N fun n => !a n) := by
  unfold spec_l24Not.f
  rw [repl_marks]
  refine ev_pos (by omega) (ev_pos (by rw [marksF_len]; omega) ?_)
  refine ev_fillM (fun k row i => spec_l24Not.l0 k (marksF N a) row i) N _ (fun n => !a n) _ (Ev.step (fun k => by rw [spec_l24Not.l0]) (ev_neg (by rw [marksF_len]; omega) (ev_ret _))) fun n q R hn _ ih => ?_
  refine Ev.step (fun k => by rw [spec_l24Not.l0, marksF_rd hn, wrap_nat (n := n) (m := N) hn (by omega), Int.toNat_natCast]) ?_
  exact ev_pos (by rw [marksF_len]; omega) (ev_pos (by omega) (ev_pos (by rw [marksF_len]; omega) ih))
theorem spec_both_M : Ev (fun k => spec_l24Both.f k (marksF N a) (marksF N b)) (marksF N fun n => a n && b n) := by
  unfold spec_l24Both.f
  rw [repl_marks]
  refine ev_pos (by omega) (ev_pos (by rw [marksF_len]; omega) ?_)
  refine ev_fillM (fun k row i => spec_l24Both.l0 k (marksF N a) (marksF N b) row i) N _ (fun n => a n && b n) _ (Ev.step (fun k => by rw [spec_l24Both.l0]) (ev_neg (by rw [marksF_len]; omega) (ev_ret _))) fun n q R hn _ ih => ?_
  refine Ev.step (fun k => by rw [spec_l24Both.l0, marksF_rd hn, marksF_rd hn, wrap_nat (n := n) (m := N) hn (by omega), Int.toNat_natCast]) (ev_pos (by rw [marksF_len]; omega) (ev_pos (by omega) ?_))
  cases h : a n with
  | true => rw [h, Bool.true_and] at ih; exact ev_pos rfl (ev_pos (by rw [marksF_len]; omega) (ev_pos (by rw [marksF_len]; omega) ih))
  | false => rw [h, Bool.false_and] at ih; exact ev_neg (by simp) (ev_pos (by rw [marksF_len]; omega) ih)
theorem equal_M : Ev (fun k => slices_Equal_bool_bool.f k (marksF N a) (marksF N b)) (decide (marksF N a = marksF N b)) := by
  unfold slices_Equal_bool_bool.f
  refine ev_pos (by rw [marksF_len, marksF_len]) ?_
  rw [marksF_len]
  have key : ∀ d n : Nat, N - n = d → n ≤ N → ∀ r : Bool, (r = true ↔ ∀ i, n ≤ i → i < N → a i = b i) → Ev (fun k => slices_Equal_bool_bool.l0 k (marksF N a) (marksF N b) (N : Int) (n : Int)) r := by
    intro d
    induction d with
    | zero =>
      intro n h1 h2 r hr
      refine Ev.step (fun k => by rw [slices_Equal_bool_bool.l0]) (ev_neg (by omega) (ev_eq (ev_ret _) ?_))
      exact (hr.2 fun i h3 h4 => by omega).symm
    | succ d ih =>
      intro n h1 h2 r hr
      have hn : n < N := by omega
      refine Ev.step (fun k => by rw [slices_Equal_bool_bool.l0, marksF_rd hn, marksF_rd hn, wrap_nat (n := n) (m := N) hn (by omega)]) (ev_pos (by omega) (ev_pos (by omega) (ev_pos (by rw [marksF_len]; omega) (ev_pos (by rw [marksF_len]; omega) ?_))))
      by_cases e : a n = b n
      · refine ev_neg (by rw [e]; simp) (ih (n + 1) (by omega) (by omega) r (hr.trans ⟨fun h i h3 h4 => h i (by omega) h4, fun h i h3 h4 => ?_⟩))
        rcases Nat.lt_or_ge n i with h5 | h5
        · exact h i h5 h4
        · obtain rfl : i = n := by omega
          exact e
      · refine ev_pos (by simpa using e) (ev_eq (ev_ret _) ?_)
        cases r with
        | false => rfl
        | true => exact absurd (hr.1 rfl n (Nat.le_refl _) hn) e
  refine key N 0 (by omega) (by omega) _ ?_
  rw [decide_eq_true_eq, marksF_eq]
  exact ⟨fun h i _ hi => h i hi, fun h i hi => h i (by omega) hi⟩
end
section
variable {X : List (List Int)} {N : Nat} (G : GrOk X N) (z : Nat → Bool)
include G
theorem GrOk.row {n : Nat} (hn : n < N) : X.getD n [] ∈ X := by
  rw [List.getD_eq_getElem?_getD, List.getElem?_eq_getElem (by rw [G.len]; exact hn)]; exact List.getElem_mem _
omit G in
theorem some_any {x : List Int} (hx : ∀ y ∈ x, 0 ≤ y ∧ y < (N : Int)) (hl : x.length ≤ 1048576) : Ev (fun k => slices_ContainsFunc_int_int_at_impl_some_1.f k x (marksF N z)) (x.any fun y => z y.toNat) := by
  unfold slices_ContainsFunc_int_int_at_impl_some_1.f slices_IndexFunc_int_int_at_impl_some_1.f
  refine ev_contains (da := (0 : Int)) (fun k i => slices_IndexFunc_int_int_at_impl_some_1.l1 k i x (marksF N z)) (fun k y => impl_some_1.f k y (marksF N z)) x (fun y => z y.toNat) (by omega) (fun k i => by rw [slices_IndexFunc_int_int_at_impl_some_1.l1]; rfl) (fun y hy => ?_)
  obtain ⟨h0, h1⟩ := hx y hy
  unfold impl_some_1.f
  refine ev_pos h0 (ev_pos (by rw [marksF_len]; omega) (ev_eq (ev_ret _) ?_))
  obtain ⟨m, rfl⟩ := Int.eq_ofNat_of_zero_le h0
  exact marksF_rd (by omega)
theorem impl_some_M : Ev (fun k => impl_some.f k X (marksF N z)) (marksF N (aheadF X z)) := by
  have hN := G.small
  have hX := G.len
  unfold impl_some.f
  rw [show List.replicate (X.length : Int).toNat false = marksF N fun _ => false by rw [hX, Int.toNat_natCast, marksF_no]]
  refine ev_pos (by omega) (ev_pos (by omega) ?_)
  refine ev_fillM (fun k row i => impl_some.l1 k row i X (marksF N z)) N _ (aheadF X z) _ (Ev.step (fun k => by rw [impl_some.l1]) (ev_neg (by omega) (ev_ret _))) fun n q R hn _ ih => ?_
  have hr : rd_Lint X (n : Int) = X.getD n [] := rfl
  refine Ev.step (fun k => by rw [impl_some.l1, hr, wrap_nat (n := n) (m := N) hn (by omega), Int.toNat_natCast]) ?_
  exact ev_pos (by omega) (ev_pos (by omega) (ev_pos (by omega) (ev_bind (some_any z (G.tgt _ (G.row hn)) (G.short _ (G.row hn))) (ev_pos (by omega) (ev_pos (by rw [marksF_len]; omega) ih)))))
theorem spec_ahead_M : Ev (fun k => spec_l4Ahead.f k X (marksF N z)) (marksF N (aheadF X z)) := by
  have hN := G.small
  have hX := G.len
  unfold spec_l4Ahead.f
  rw [show List.replicate ((X.length : Int) : Int).toNat false = marksF N fun _ => false by rw [hX, Int.toNat_natCast, marksF_no]]
  refine ev_pos (by omega) (ev_pos (by omega) ?_)
  have outer : ∀ d n : Nat, N - n = d → n ≤ N → ∀ q : Nat → Bool, (∀ i, i < n → q i = aheadF X z i) → (∀ i, n ≤ i → q i = false) → Ev (fun k => spec_l4Ahead.l0 k X (marksF N z) (marksF N q) (n : Int)) (marksF N (aheadF X z)) := by
    intro d
    induction d with
    | zero =>
      intro n h1 h2 q h3 h4
      exact Ev.step (fun k => by rw [spec_l4Ahead.l0]) (ev_neg (by omega) (ev_eq (ev_ret _) (marksF_congr fun i hi => h3 i (by omega))))
    | succ d ih =>
      intro n h1 h2 q h3 h4
      have hn : n < N := by omega
      have hr : rd_Lint X (n : Int) = X.getD n [] := rfl
      have hsh := G.short _ (G.row hn)
      have htg := G.tgt _ (G.row hn)
      have inner : ∀ e j : Nat, (X.getD n []).length - j = e → j ≤ (X.getD n []).length → ∀ q : Nat → Bool, (∀ i, i < n → q i = aheadF X z i) → (∀ i, n < i → q i = false) → (q n = ((X.getD n []).take j).any fun x => z x.toNat) →
          Ev (fun k => spec_l4Ahead.l1 k X (marksF N z) (marksF N q) (n : Int) (j : Int)) (marksF N (aheadF X z)) := by
        intro e
        induction e with
        | zero =>
          intro j g1 g2 q g3 g4 g5
          have : j = (X.getD n []).length := by omega
          subst this
          rw [List.take_length] at g5
          refine Ev.step (fun k => by rw [spec_l4Ahead.l1, hr, wrap_nat (n := n) (m := N) hn (by omega)]) (ev_pos (by omega) (ev_pos (by omega) (ev_neg (by omega) ?_)))
          refine ih (n + 1) (by omega) (by omega) q (fun i hi => ?_) fun i hi => g4 i (by omega)
          rcases Nat.lt_or_ge i n with h | h
          · exact g3 i h
          · obtain rfl : i = n := by omega
            exact g5
        | succ e ihe =>
          intro j g1 g2 q g3 g4 g5
          have hj : j < (X.getD n []).length := by omega
          have hrd : rd (X.getD n []) (j : Int) = (X.getD n [])[j] := rd_at hj
          have hy := htg _ (List.getElem_mem hj)
          have htk : (X.getD n []).take (j + 1) = (X.getD n []).take j ++ [(X.getD n [])[j]] := List.take_succ_eq_append_getElem hj
          generalize (X.getD n [])[j] = y at *
          obtain ⟨m, rfl⟩ := Int.eq_ofNat_of_zero_le hy.1
          have hz : rdOf false (marksF N z) (m : Int) = z m := marksF_rd (by omega)
          refine Ev.step (fun k => by rw [spec_l4Ahead.l1, hr, hrd, hz, wrap_nat (n := j) (m := (X.getD n []).length) hj (by omega), Int.toNat_natCast]) (ev_pos (by omega) (ev_pos (by omega) (ev_pos (by omega) (ev_pos (by omega) (ev_pos hy.1 (ev_pos (by rw [marksF_len]; omega) ?_))))))
          cases hzm : z m with
          | true =>
            refine ev_pos rfl (ev_pos (by rw [marksF_len]; omega) ?_)
            rw [marksF_put hn]
            refine ihe (j + 1) (by omega) (by omega) _ (fun i hi => ?_) (fun i hi => ?_) ?_
            · show (if i = n then true else q i) = _
              rw [if_neg (by omega)]; exact g3 i hi
            · show (if i = n then true else q i) = _
              rw [if_neg (by omega)]; exact g4 i hi
            · show (if n = n then true else q n) = _
              rw [if_pos rfl, htk, List.any_append]
              simp [hzm]
          | false =>
            refine ev_neg (by simp) (ihe (j + 1) (by omega) (by omega) q g3 g4 ?_)
            rw [g5, htk, List.any_append]
            simp [hzm]
      refine Ev.step (fun k => by rw [spec_l4Ahead.l0]) (ev_pos (by omega) ?_)
      exact inner (X.getD n []).length 0 (by omega) (by omega) q h3 (fun i hi => h4 i (by omega)) (by rw [h4 n (Nat.le_refl _)]; simp)
  exact outer N 0 (by omega) (by omega) _ (fun i hi => by omega) fun i _ => rfl
variable (a b : Nat → Bool) (all : Bool)
theorem stepU_ev : Ev (fun k => impl_treeRows_1_1.f k (marksF N z) X all (marksF N b) (marksF N a)) (marksF N (stepU all X a b z)) := by
  have hN := G.small
  unfold impl_treeRows_1_1.f
  have hj : ∀ p : Nat → Bool, p = uniF all X z → Ev (fun k => impl_treeRows_1_1.j1 k (marksF N p) (marksF N b) (marksF N a)) (marksF N (stepU all X a b z)) := fun p hp => by
    refine Ev.step (fun k => by rw [impl_treeRows_1_1.j1]) (ev_bind (each_111_ev hN a p) (ev_bind (each_112_ev hN b _) (ev_eq (ev_ret _) ?_)))
    rw [hp]; rfl
  refine ev_bind (impl_some_M G z) ?_
  cases all with
  | true => exact ev_pos rfl (ev_bind (impl_not_M hN z) (ev_bind (impl_some_M G _) (ev_bind (impl_not_M hN _) (hj _ (funext fun n => rfl)))))
  | false => exact ev_neg (by simp) (hj _ (funext fun n => rfl))
theorem stepA_ev : Ev (fun k => impl_treeRows_2_1.f k (marksF N z) X all (marksF N a)) (marksF N (stepA all X a z)) := by
  have hN := G.small
  unfold impl_treeRows_2_1.f
  refine ev_bind (impl_some_M G z) ?_
  cases all with
  | true => exact ev_pos rfl (ev_bind (impl_not_M hN z) (ev_bind (impl_some_M G _) (ev_bind (impl_not_M hN _) (ev_bind (each_211_ev hN a _) (ev_ret _)))))
  | false => exact ev_neg (by simp) (ev_bind (each_211_ev hN a _) (ev_ret _))
omit G in
theorem ev_rest {L : Nat → List Bool → Option (List Bool)} {F : Nat → List Bool → Option (List Bool)} (it : Nat → Nat → Bool) (hN : N ≤ 400) (hrest : ∀ i, i < N → it (N + 1) i = it N i)
    (hst : ∀ k, (∀ i, i < N → it (k + 1) i = it k i) → ∀ i, i < N → it (k + 2) i = it (k + 1) i)
    (hL : ∀ k row, L (k + 1) row = (F k row).bind fun r1 => (slices_Equal_bool_bool.f k r1 row).bind fun r2 => if r2 = true then some row else L k r1)
    (hF : ∀ j, Ev (fun k => F k (marksF N (it j))) (marksF N (it (j + 1)))) : Ev (fun k => L k (marksF N (it 0))) (marksF N (it N)) := by
  have stay : ∀ j, (∀ i, i < N → it (j + 1) i = it j i) → ∀ d i, i < N → it (j + d) i = it j i ∧ it (j + d + 1) i = it (j + d) i := by
    intro j hj d
    induction d with
    | zero => exact fun i hi => ⟨rfl, hj i hi⟩
    | succ d ih => exact fun i hi => ⟨((ih i hi).2).trans (ih i hi).1, hst (j + d) (fun i hi => (ih i hi).2) i hi⟩
  have key : ∀ d j : Nat, N - j = d → j ≤ N → Ev (fun k => L k (marksF N (it j))) (marksF N (it N)) := by
    intro d
    induction d with
    | zero =>
      intro j h1 h2
      obtain rfl : j = N := by omega
      refine Ev.step (fun k => hL k _) (ev_bind (hF j) (ev_bind (equal_M hN _ _) (ev_pos ?_ (ev_ret _))))
      rw [decide_eq_true_eq, marksF_eq]
      exact hrest
    | succ d ih =>
      intro j h1 h2
      refine Ev.step (fun k => hL k _) (ev_bind (hF j) (ev_bind (equal_M hN _ _) ?_))
      by_cases e : marksF N (it (j + 1)) = marksF N (it j)
      · refine ev_pos (by rw [decide_eq_true_eq]; exact e) (ev_eq (ev_ret _) ?_)
        refine marksF_congr fun i hi => ?_
        have := (stay j (marksF_eq.1 e) (N - j) i hi).1
        rw [show j + (N - j) = N by omega] at this
        exact this.symm
      · exact ev_neg (by rw [decide_eq_true_eq]; exact e) (ih (j + 1) (by omega) (by omega))
  exact key N 0 (by omega) (by omega)
theorem impl_until_M : Ev (fun k => impl_treeRows_1.f k (marksF N a) (marksF N b) all X) (marksF N (untilF all X a b N)) := by
  unfold impl_treeRows_1.f impl_fixed_at_impl_treeRows_1_1.f
  refine ev_bind (ev_rest (L := fun k row => impl_fixed_at_impl_treeRows_1_1.l1 k row X all (marksF N b) (marksF N a)) (F := fun k row => impl_treeRows_1_1.f k row X all (marksF N b) (marksF N a)) (untilF all X a b) G.small G.restU (fun k h i hi => ?_) (fun k row => by rw [impl_fixed_at_impl_treeRows_1_1.l1]) fun j => stepU_ev G _ a b all) (ev_ret _)
  rw [untilF_succ, untilF_succ, G.congrU h]
theorem impl_always_M : Ev (fun k => impl_treeRows_2.f k (marksF N a) all X) (marksF N (alwaysF all X a N)) := by
  unfold impl_treeRows_2.f impl_fixed_at_impl_treeRows_2_1.f
  refine ev_bind (ev_rest (L := fun k row => impl_fixed_at_impl_treeRows_2_1.l1 k row X all (marksF N a)) (F := fun k row => impl_treeRows_2_1.f k row X all (marksF N a)) (alwaysF all X a) G.small G.restA (fun k h i hi => ?_) (fun k row => by rw [impl_fixed_at_impl_treeRows_2_1.l1]) fun j => stepA_ev G _ a all) (ev_ret _)
  rw [alwaysF_succ, alwaysF_succ, G.congrU h]
theorem spec_until_M : Ev (fun k => spec_l24Until.f k X (marksF N a) (marksF N b)) (marksF N (untilF false X a b N)) := by
  have hN := G.small
  unfold spec_l24Until.f
  rw [repl_marks]
  refine ev_pos (by omega) (ev_pos (by rw [marksF_len]; omega) ?_)
  have outer : ∀ d j : Nat, N - j = d → j ≤ N → Ev (fun k => spec_l24Until.l1 k X (marksF N a) (marksF N (untilF false X a b j)) (j : Int)) (marksF N (untilF false X a b N)) := by
    intro d
    induction d with
    | zero =>
      intro j h1 h2
      obtain rfl : j = N := by omega
      exact Ev.step (fun k => by rw [spec_l24Until.l1]) (ev_neg (by rw [marksF_len]; omega) (ev_ret _))
    | succ d ih =>
      intro j h1 h2
      refine Ev.step (fun k => by rw [spec_l24Until.l1]) (ev_pos (by rw [marksF_len]; omega) (ev_bind (spec_ahead_M G _) ?_))
      refine ev_fillM (fun k row i => spec_l24Until.l2 k X (marksF N a) row (j : Int) (marksF N (aheadF X (untilF false X a b j))) i) N (untilF false X a b j) (untilF false X a b (j + 1)) _ ?_ fun n q R hn hq ihn => ?_
      · refine Ev.step (fun k => by rw [spec_l24Until.l2, wrap_nat (n := j) (m := N) (by omega) (by omega)]) (ev_neg (by rw [marksF_len]; omega) ?_)
        exact ih (j + 1) (by omega) (by omega)
      · refine Ev.step (fun k => by rw [spec_l24Until.l2, marksF_rd hn, marksF_rd hn, marksF_rd hn, wrap_nat (n := n) (m := N) hn (by omega), Int.toNat_natCast]) (ev_pos (by rw [marksF_len]; omega) (ev_pos (by omega) (ev_pos (by rw [marksF_len]; omega) ?_)))
        have ho := untilF_or (all := false) (X := X) (a := a) (b := b) j n
        rw [hq n (Nat.le_refl _)]
        cases h1 : untilF false X a b j n with
        | true => rw [ho, h1, Bool.true_or] at ihn; exact ev_pos rfl ihn
        | false =>
          refine ev_neg (by simp) ?_
          cases h2 : a n with
          | true =>
            rw [ho, h1, h2, Bool.false_or, Bool.true_and] at ihn
            exact ev_pos rfl (ev_pos (by rw [marksF_len]; omega) ihn)
          | false =>
            rw [ho, h1, h2, Bool.false_or, Bool.false_and] at ihn
            exact ev_neg (by simp) ihn
  refine ev_fillM (fun k row i => spec_l24Until.l0 k X (marksF N a) (marksF N b) row i) N _ b _ ?_ fun n q R hn _ ih => ?_
  · have o0 : Ev (fun k => spec_l24Until.l1 k X (marksF N a) (marksF N b) 0) (marksF N (untilF false X a b N)) := outer N 0 (by omega) (by omega)
    exact Ev.step (fun k => by rw [spec_l24Until.l0]) (ev_neg (by rw [marksF_len]; omega) o0)
  · refine Ev.step (fun k => by rw [spec_l24Until.l0, marksF_rd hn, wrap_nat (n := n) (m := N) hn (by omega), Int.toNat_natCast]) ?_
    exact ev_pos (by rw [marksF_len]; omega) (ev_pos (by omega) (ev_pos (by rw [marksF_len]; omega) (ev_pos (by rw [marksF_len]; omega) ih)))
theorem spec_stay_M : Ev (fun k => spec_l24Stay.f k X (marksF N a)) (marksF N (alwaysF false X a N)) := by
  have hN := G.small
  unfold spec_l24Stay.f
  rw [repl_marks]
  refine ev_pos (by omega) (ev_pos (by rw [marksF_len]; omega) ?_)
  have outer : ∀ d j : Nat, N - j = d → j ≤ N → Ev (fun k => spec_l24Stay.l1 k X (marksF N a) (marksF N (alwaysF false X a j)) (j : Int)) (marksF N (alwaysF false X a N)) := by
    intro d
    induction d with
    | zero =>
      intro j h1 h2
      obtain rfl : j = N := by omega
      exact Ev.step (fun k => by rw [spec_l24Stay.l1]) (ev_neg (by rw [marksF_len]; omega) (ev_ret _))
    | succ d ih =>
      intro j h1 h2
      refine Ev.step (fun k => by rw [spec_l24Stay.l1]) (ev_pos (by rw [marksF_len]; omega) (ev_bind (spec_ahead_M G _) ?_))
      refine ev_fillM (fun k row i => spec_l24Stay.l2 k X (marksF N a) row (j : Int) (marksF N (aheadF X (alwaysF false X a j))) i) N (alwaysF false X a j) (alwaysF false X a (j + 1)) _ ?_ fun n q R hn hq ihn => ?_
      · refine Ev.step (fun k => by rw [spec_l24Stay.l2, wrap_nat (n := j) (m := N) (by omega) (by omega)]) (ev_neg (by rw [marksF_len]; omega) ?_)
        exact ih (j + 1) (by omega) (by omega)
      · refine Ev.step (fun k => by rw [spec_l24Stay.l2, marksF_rd hn, marksF_rd hn, wrap_nat (n := n) (m := N) hn (by omega), Int.toNat_natCast]) (ev_pos (by rw [marksF_len]; omega) (ev_pos (by omega) (ev_pos (by rw [marksF_len]; omega) ?_)))
        have ho := alwaysF_and (all := false) (X := X) (a := a) j n
        rw [hq n (Nat.le_refl _)]
        cases h1 : alwaysF false X a j n with
        | true => rw [ho, h1, Bool.true_and] at ihn; exact ev_pos rfl (ev_pos (by rw [marksF_len]; omega) ihn)
        | false => rw [ho, h1, Bool.false_and] at ihn; exact ev_neg (by simp) ihn
  refine ev_fillM (fun k row i => spec_l24Stay.l0 k X (marksF N a) row i) N _ a _ ?_ fun n q R hn _ ih => ?_
  · have o0 : Ev (fun k => spec_l24Stay.l1 k X (marksF N a) (marksF N a) 0) (marksF N (alwaysF false X a N)) := outer N 0 (by omega) (by omega)
    exact Ev.step (fun k => by rw [spec_l24Stay.l0]) (ev_neg (by rw [marksF_len]; omega) o0)
  · refine Ev.step (fun k => by rw [spec_l24Stay.l0, marksF_rd hn, wrap_nat (n := n) (m := N) hn (by omega), Int.toNat_natCast]) ?_
    exact ev_pos (by rw [marksF_len]; omega) (ev_pos (by omega) (ev_pos (by rw [marksF_len]; omega) ih))
theorem spec_all_M : Ev (fun k => spec_l24All.f k X (marksF N a) (marksF N b)) (marksF N (untilF true X a b N)) := by
  have hN := G.small
  unfold spec_l24All.f
  refine ev_bind (spec_not_M hN b) (ev_bind (spec_not_M hN a) (ev_bind (spec_both_M hN _ _) (ev_bind (spec_until_M G _ _) (ev_bind (spec_stay_M G _) ?_))))
  rw [repl_marks]
  refine ev_pos (by omega) (ev_pos (by rw [marksF_len]; omega) ?_)
  refine ev_fillM (fun k row i => spec_l24All.l0 k (marksF N a) (marksF N (untilF false X (fun m => !b m) (fun m => !b m && !a m) N)) (marksF N (alwaysF false X (fun m => !b m) N)) row i) N _ (untilF true X a b N) _ ?_ fun n q R hn _ ih => ?_
  · exact Ev.step (fun k => by rw [spec_l24All.l0]) (ev_neg (by rw [marksF_len]; omega) (ev_ret _))
  · refine Ev.step (fun k => by rw [spec_l24All.l0, marksF_rd hn, marksF_rd hn, wrap_nat (n := n) (m := N) hn (by omega), Int.toNat_natCast]) (ev_pos (by rw [marksF_len]; omega) (ev_pos (by omega) (ev_pos (by rw [marksF_len]; omega) ?_)))
    rw [G.dual (a := a) (b := b) hn] at ih
    cases h1 : untilF false X (fun m => !b m) (fun m => !b m && !a m) N n with
    | true => rw [h1, Bool.not_true, Bool.false_and] at ih; exact ev_pos rfl (ev_pos (by rw [marksF_len]; omega) ih)
    | false => rw [h1, Bool.not_false, Bool.true_and] at ih; exact ev_neg (by simp) (ev_pos (by rw [marksF_len]; omega) (ev_pos (by rw [marksF_len]; omega) ih))
end
end Go.Proofs.Ytikjlbanfbkhmaa.PA
end
section
set_option linter.unusedVariables false
set_option linter.unusedSimpArgs false
namespace Go.Proofs.Ytikjlbanfbkhmaa.PA
open Go.RowKit Go.Proofs.YtikjlbanfbkhmaaW.PrintWords
def rowOk (N : Nat) (x : List Int) : Bool := !x.isEmpty && setP x (N : Int)
def graphP (L : List (List Int)) (f : Int) (X : List (List Int)) (facts : Int) : Bool :=
  inR facts 0 4 && (inR (L.length : Int) 1 400 && (inR f 0 (wrap64 ((L.length : Int) - 1)) && (decide (X.length = L.length) && (L.all (letterP facts) && X.all (rowOk L.length)))))
theorem allI_both {p : List Int → Bool} {q : List Int → Bool} (L : List (List Int)) : ∀ (X : List (List Int)) (n : Nat), L.length = n + X.length → allI (fun n x => p (L.getD n []) && q x) n X = ((L.drop n).all p && X.all q)
  | [], n, h => by
    rw [List.drop_eq_nil_of_le (by simp at h; omega)]; rfl
  | x :: X, n, h => by
    have hn : n < L.length := by simp at h; omega
    unfold allI
    rw [allI_both L X (n + 1) (by simp at h; omega), List.drop_eq_getElem_cons hn, List.all_cons, List.all_cons]
    rw [show L.getD n [] = L[n] by rw [List.getD_eq_getElem?_getD, List.getElem?_eq_getElem hn]; rfl]
    cases p L[n] <;> cases q x <;> cases (L.drop (n + 1)).all p <;> cases X.all q <;> rfl
theorem impl_letterOk_ev (x : List Int) (facts : Int) (hx : x.length ≤ 1048576) : Ev (fun k => impl_letterOk.f k x facts) (letterP facts x) := by
  unfold impl_letterOk.f letterP
  by_cases h : (x.length : Int) = facts
  · exact ev_pos h (ev_bind (impl_bitsValid_ev x (by omega)) (ev_eq (ev_ret _) (by simp [h])))
  · exact ev_neg h (ev_eq (ev_ret _) (by simp [h]))
theorem impl_GraphValid_ev {L X : List (List Int)} (f facts : Int) (hL : L.length ≤ 1048576 ∧ ∀ x ∈ L, x.length ≤ 1048576) (hX : X.length ≤ 1048576 ∧ ∀ x ∈ X, x.length ≤ 1048576) : Ev (fun k => impl_GraphValid.f k L f X facts) (graphP L f X facts) := by
  unfold impl_GraphValid.f graphP
  rw [impl_in_eq, impl_in_eq, impl_in_eq]
  refine ev_bind (ev_ret _) ?_
  have no : Ev (fun k => impl_GraphValid.j0 k facts (L.length : Int) true L f X) false := Ev.step (fun k => by rw [impl_GraphValid.j0]) (ev_pos rfl (ev_ret _))
  cases h1 : inR facts 0 4 with
  | false => exact ev_neg (by simp) (ev_eq no (by simp))
  | true =>
    refine ev_pos rfl (ev_bind (ev_ret _) ?_)
    cases h2 : inR (L.length : Int) 1 400 with
    | false => exact ev_neg (by simp) (ev_eq no (by simp))
    | true =>
      refine ev_pos rfl (ev_bind (ev_ret _) ?_)
      have h2' := inR_iff.1 h2
      cases h3 : inR f 0 (wrap64 ((L.length : Int) - 1)) with
      | false => exact ev_neg (by simp) (ev_eq no (by simp))
      | true =>
        refine ev_pos rfl (Ev.step (fun k => by rw [impl_GraphValid.j0]) ?_)
        by_cases h4 : X.length = L.length
        · refine ev_neg (by simp [h4]) ?_
          rw [show ((true && (true && (true && (decide (X.length = L.length) && (L.all (letterP facts) && X.all (rowOk L.length)))))) : Bool) = (L.all (letterP facts) && X.all (rowOk L.length)) by simp [h4]]
          have hb := allI_both (p := letterP facts) (q := rowOk L.length) L X 0 (by omega)
          rw [List.drop_zero] at hb
          rw [← hb]
          refine ev_alli (fun k i => impl_GraphValid.l0 k facts (L.length : Int) X (X.length : Int) i L f X) X _ (Ev.step (fun k => by rw [impl_GraphValid.l0]) (ev_neg (by omega) (ev_ret _))) fun n x Q hn hx ih => ?_
          have hrx : rd_Lint X (n : Int) = x := getD_of hx
          have hnL : n < L.length := by omega
          have hrl : rd_Lint L (n : Int) = L.getD n [] := rfl
          have hxm : x ∈ X := List.mem_of_getElem? hx
          have hlm : L.getD n [] ∈ L := by rw [List.getD_eq_getElem?_getD, List.getElem?_eq_getElem hnL]; exact List.getElem_mem _
          have hj : ∀ b : Bool, Ev (fun k => impl_GraphValid.j2 k facts (L.length : Int) X (X.length : Int) (n : Int) b L f X) (!b && Q) := fun b => by
            refine Ev.step (fun k => by rw [impl_GraphValid.j2, wrap_nat (n := n) (m := X.length) hn (by omega)]) ?_
            cases b with
            | true => exact ev_pos rfl (ev_eq (ev_ret _) rfl)
            | false => exact ev_neg (by simp) (ev_eq ih (by simp))
          refine Ev.step (fun k => by rw [impl_GraphValid.l0, hrx, hrl]) (ev_pos (by omega) (ev_pos (by omega) (ev_pos (by omega) (ev_pos (by omega) (ev_bind (impl_letterOk_ev _ facts (hL.2 _ hlm)) ?_)))))
          cases h5 : letterP facts (L.getD n []) with
          | false => exact ev_neg (by simp) (ev_eq (hj true) (by simp))
          | true =>
            refine ev_pos rfl ?_
            unfold rowOk
            cases x with
            | nil => exact ev_pos (by simp) (ev_eq (hj true) (by simp))
            | cons y x =>
              refine ev_neg (by simp; omega) (ev_bind (impl_setOk_ev _ (L.length : Int) (by omega) (by have := hX.2 _ hxm; omega)) (ev_eq (hj _) ?_))
              rw [Bool.not_not, Bool.true_and]; rfl
        · refine ev_pos ?_ (ev_eq (ev_ret _) (by simp [h4]))
          rw [bne_iff_ne]; omega
theorem spec_GraphValid_ev {L X : List (List Int)} (f facts : Int) (hL : L.length ≤ 1048576 ∧ ∀ x ∈ L, x.length ≤ 1048576) (hX : X.length ≤ 1048576 ∧ ∀ x ∈ X, x.length ≤ 1048576) : Ev (fun k => spec_GraphValid.f k L f X facts) (graphP L f X facts) := by
  unfold spec_GraphValid.f graphP
  rw [spec_l1In_eq, spec_l1In_eq, spec_l1In_eq]
  refine ev_bind (ev_ret _) ?_
  have no : Ev (fun k => spec_GraphValid.j0 k (L.length : Int) true L f X) false := Ev.step (fun k => by rw [spec_GraphValid.j0]) (ev_pos rfl (ev_ret _))
  cases h1 : inR facts 0 4 with
  | false => exact ev_neg (by simp) (ev_eq no (by simp))
  | true =>
    refine ev_pos rfl (ev_bind (ev_ret _) ?_)
    cases h2 : inR (L.length : Int) 1 400 with
    | false => exact ev_neg (by simp) (ev_eq no (by simp))
    | true =>
      refine ev_pos rfl ?_
      have h2' := inR_iff.1 h2
      by_cases h4 : X.length = L.length
      · refine ev_pos (by omega) (ev_bind (ev_ret _) ?_)
        cases h3 : inR f 0 (wrap64 ((L.length : Int) - 1)) with
        | false => exact ev_neg (by simp) (ev_eq no (by simp))
        | true =>
          refine ev_pos rfl (ev_bind (spec_l20Letters_ev L facts (by omega) fun x hx => by have := hL.2 x hx; omega) ?_)
          cases h5 : L.all (letterP facts) with
          | false => exact ev_eq no (by simp)
          | true =>
            refine Ev.step (fun k => by rw [spec_GraphValid.j0]) (ev_neg (by simp) ?_)
            rw [show ((true && (true && (true && (decide (X.length = L.length) && (true && X.all (rowOk L.length)))))) : Bool) = X.all (rowOk L.length) by simp [h4]]
            have outer : ∀ d n : Nat, X.length - n = d → n ≤ X.length → Ev (fun k => spec_GraphValid.l0 k (L.length : Int) (n : Int) L f X) ((X.drop n).all (rowOk L.length)) := by
              intro d
              induction d with
              | zero =>
                intro n e1 e2
                rw [List.drop_eq_nil_of_le (by omega), List.all_nil]
                exact Ev.step (fun k => by rw [spec_GraphValid.l0]) (ev_neg (by omega) (ev_ret _))
              | succ d ih =>
                intro n e1 e2
                have hn : n < X.length := by omega
                rw [List.drop_eq_getElem_cons hn, List.all_cons]
                have hrx : rd_Lint X (n : Int) = X[n] := getD_of (List.getElem?_eq_getElem hn)
                have hxl := hX.2 _ (List.getElem_mem hn)
                generalize X[n] = x at *
                have ih := ih (n + 1) (by omega) (by omega)
                generalize ((X.drop (n + 1)).all (rowOk L.length)) = Q at *
                have inner : ∀ e j : Nat, x.length - j = e → j ≤ x.length → Ev (fun k => spec_GraphValid.l1 k (L.length : Int) (n : Int) (j : Int) L f X) ((!x.isEmpty && setGo x (L.length : Int) j (x.drop j)) && Q) := by
                  intro e
                  induction e with
                  | zero =>
                    intro j g1 g2
                    rw [List.drop_eq_nil_of_le (by omega)]
                    refine Ev.step (fun k => by rw [spec_GraphValid.l1, hrx, wrap_nat (n := n) (m := X.length) hn (by omega)]) (ev_pos (by omega) (ev_pos (by omega) (ev_neg (by omega) ?_)))
                    cases x with
                    | nil => exact ev_pos (by simp) (ev_eq (ev_ret _) rfl)
                    | cons y x => exact ev_neg (by simp; omega) (ev_eq ih (by simp [setGo]))
                  | succ e ihe =>
                    intro j g1 g2
                    have hj : j < x.length := by omega
                    have hne : x.isEmpty = false := by cases x with
                      | nil => simp at hj
                      | cons y x => rfl
                    rw [List.drop_eq_getElem_cons hj]
                    unfold setGo
                    have ihe := ihe (j + 1) (by omega) (by omega)
                    rw [hne, Bool.not_false, Bool.true_and] at ihe ⊢
                    refine Ev.step (fun k => by rw [spec_GraphValid.l1, hrx, rd_at hj, spec_l1In_eq, wrap_in (x := (L.length : Int) - 1) (by omega) (by omega)]) (ev_pos (by omega) (ev_pos (by omega) (ev_pos (by omega) (ev_pos (by omega) (ev_bind (ev_ret _) ?_)))))
                    have hj3 : ∀ b : Bool, Ev (fun k => spec_GraphValid.j3 k (L.length : Int) (n : Int) (j : Int) b L f X) (!b && (setGo x (L.length : Int) (j + 1) (x.drop (j + 1)) && Q)) := fun b => by
                      refine Ev.step (fun k => by rw [spec_GraphValid.j3, wrap_nat (n := j) (m := x.length) hj (by omega)]) ?_
                      cases b with
                      | true => exact ev_pos rfl (ev_eq (ev_ret _) rfl)
                      | false => exact ev_neg (by simp) (ev_eq ihe (by simp))
                    cases h6 : inR x[j] 0 ((L.length : Int) - 1) with
                    | false => exact ev_neg (by simp) (ev_eq (hj3 true) (by simp))
                    | true =>
                      refine ev_pos rfl ?_
                      by_cases h0 : 0 < j
                      · refine ev_pos (by omega) (ev_pos (by rw [wrap_in] <;> omega) (ev_pos (by rw [wrap_in] <;> omega) ?_))
                        rw [rd_prev h0 (by omega)]
                        refine ev_eq (hj3 _) ?_
                        simp only [h0, decide_true, Bool.true_and, Bool.and_assoc]
                      · refine ev_neg (by omega) (ev_eq (hj3 false) ?_)
                        simp only [h0, decide_false, Bool.false_and, Bool.not_false, Bool.true_and]
                refine Ev.step (fun k => by rw [spec_GraphValid.l0]) (ev_pos (by omega) ?_)
                exact inner x.length 0 (by omega) (by omega)
            exact outer X.length 0 (by omega) (by omega)
      · exact ev_neg (by omega) (ev_eq no (by simp [h4]))
theorem graphP_ok {L X : List (List Int)} {f facts : Int} (hX : ∀ x ∈ X, x.length ≤ 1048576) (h : graphP L f X facts = true) : GrOk X L.length ∧ (0 ≤ facts ∧ facts ≤ 4) ∧ 1 ≤ L.length ∧ (∀ x ∈ L, (x.length : Int) = facts) := by
  simp only [graphP, Bool.and_eq_true, inR_iff, decide_eq_true_eq, List.all_eq_true] at h
  obtain ⟨h1, h2, h3, h4, h5, h6⟩ := h
  refine ⟨⟨h4, by omega, fun x hx y hy => ?_, hX⟩, h1, by omega, fun x hx => ?_⟩
  · have := h6 x hx
    unfold rowOk at this
    rw [Bool.and_eq_true] at this
    exact setP_range this.2 hy
  · have := h5 x hx
    unfold letterP at this
    rw [Bool.and_eq_true, decide_eq_true_eq] at this
    exact this.1
def treeP (facts : Int) (n : Nat) (t : ITree) : Bool :=
  if t.f0 = 0 then (t.f1 == 0 && (t.f2 == 0 && t.f3 == 0))
  else if t.f0 = 1 then (inR t.f1 0 (wrap64 (facts - 1)) && (t.f2 == 0 && t.f3 == 0))
  else (inR t.f0 2 10 && (t.f1 == 0 && (inR t.f2 0 (wrap64 ((n : Int) - 1)) && (inR t.f3 0 (wrap64 ((n : Int) - 1)) && ((t.f0 == 3 || (t.f0 == 4 || (t.f0 == 6 || t.f0 == 9))) || t.f3 == t.f2)))))
def treesP (l : List ITree) (facts : Int) : Bool := inR facts 0 4 && (inR (l.length : Int) 1 24 && allI (treeP facts) 0 l)
theorem spec_l24Step_eq (t : ITree) (n : Nat) (facts : Int) : ∀ k, spec_l24Step.f (k + 1) t.f0 t.f1 t.f2 t.f3 (n : Int) facts = some (treeP facts n t) := by
  intro k
  simp only [spec_l24Step.f, spec_l24Step.j0, spec_l24One.f, spec_l1In_eq, Option.bind_some, treeP]
  by_cases h0 : t.f0 = 0
  · simp only [h0, if_true]
    by_cases h1 : t.f1 = 0 <;> by_cases h2 : t.f2 = 0 <;> simp [h1, h2]
  simp only [h0, if_false]
  by_cases h1 : t.f0 = 1
  · simp only [h1, if_true]
    cases inR t.f1 0 (wrap64 (facts - 1)) <;> by_cases h2 : t.f2 = 0 <;> simp [h2]
  simp only [h1, if_false]
  cases hr : inR t.f0 2 10 with
  | false => simp
  | true =>
    have hr := inR_iff.1 hr
    by_cases h2 : t.f1 = 0
    · cases inR t.f2 0 (wrap64 ((n : Int) - 1)) <;> cases inR t.f3 0 (wrap64 ((n : Int) - 1)) <;> try simp [h2]
      obtain h | h | h | h | h | h | h | h | h : t.f0 = 2 ∨ t.f0 = 3 ∨ t.f0 = 4 ∨ t.f0 = 5 ∨ t.f0 = 6 ∨ t.f0 = 7 ∨ t.f0 = 8 ∨ t.f0 = 9 ∨ t.f0 = 10 := by omega
      all_goals simp [h]
    · simp [h2]
theorem spec_TreesValid_ev (l : List ITree) (facts : Int) (hl : l.length ≤ 1048576) : Ev (fun k => spec_TreesValid.f k l facts) (treesP l facts) := by
  unfold spec_TreesValid.f treesP
  rw [spec_l1In_eq, spec_l1In_eq]
  refine ev_bind (ev_ret _) ?_
  cases h1 : inR facts 0 4 with
  | false => exact ev_neg (by simp) (Ev.step (fun k => by rw [spec_TreesValid.j0]) (ev_pos rfl (ev_eq (ev_ret _) (by simp))))
  | true =>
    refine ev_pos rfl (ev_bind (ev_ret _) (Ev.step (fun k => by rw [spec_TreesValid.j0]) ?_))
    cases h2 : inR (l.length : Int) 1 24 with
    | false => exact ev_pos rfl (ev_eq (ev_ret _) (by simp))
    | true =>
      refine ev_neg (by simp) (ev_eq (ev_alli (fun k i => spec_TreesValid.l0 k l facts i) l (treeP facts) (Ev.step (fun k => by rw [spec_TreesValid.l0]) (ev_neg (by omega) (ev_ret _))) ?_) (by simp))
      intro n x Q hn hx ih
      refine Ev.step (fun k => by rw [spec_TreesValid.l0]) ?_
      rw [show rd_ITree l (n : Int) = x from getD_of hx, wrap_nat hn (by omega)]
      refine ev_pos (by omega) (ev_pos (by omega) (ev_bind (ev_at (spec_l24Step_eq x n facts)) ?_))
      cases h : treeP facts n x with
      | true => exact ev_pos rfl (ev_eq ih (by simp))
      | false => exact ev_neg (by simp) (ev_eq (ev_ret _) (by simp))
theorem treeParts_ev (op : Int) (h : 2 ≤ op ∧ op ≤ 10) : Ev (fun k => impl_treeParts.f k op) (if (op == 3 || (op == 4 || (op == 6 || op == 9))) = true then 2 else 1) := by
  obtain rfl | rfl | rfl | rfl | rfl | rfl | rfl | rfl | rfl : op = 2 ∨ op = 3 ∨ op = 4 ∨ op = 5 ∨ op = 6 ∨ op = 7 ∨ op = 8 ∨ op = 9 ∨ op = 10 := by omega
  all_goals exact ⟨2, fun k hk => by
    obtain ⟨m, rfl⟩ : ∃ m, k = m + 2 := ⟨k - 2, by omega⟩
    simp [impl_treeParts.f, impl_treeParts.j0, impl_treeParts.j1]⟩
theorem impl_TreesValid_ev (l : List ITree) (facts : Int) (hl : l.length ≤ 1048576) : Ev (fun k => impl_TreesValid.f k l facts) (treesP l facts) := by
  unfold impl_TreesValid.f treesP
  rw [impl_in_eq, impl_in_eq]
  refine ev_bind (ev_ret _) ?_
  cases h1 : inR facts 0 4 with
  | false => exact ev_neg (by simp) (Ev.step (fun k => by rw [impl_TreesValid.j0]) (ev_pos rfl (ev_eq (ev_ret _) (by simp))))
  | true =>
    refine ev_pos rfl (ev_bind (ev_ret _) (Ev.step (fun k => by rw [impl_TreesValid.j0]) ?_))
    cases h2 : inR (l.length : Int) 1 24 with
    | false => exact ev_pos rfl (ev_eq (ev_ret _) (by simp))
    | true =>
      refine ev_neg (by simp) (ev_eq (ev_alli (fun k i => impl_TreesValid.l0 k facts l (l.length : Int) i) l (treeP facts) (Ev.step (fun k => by rw [impl_TreesValid.l0]) (ev_neg (by omega) (ev_ret _))) ?_) (by simp))
      intro n x Q hn hx ih
      have hj : ∀ b : Bool, Ev (fun k => impl_TreesValid.j2 k facts b l (l.length : Int) (n : Int)) (b && Q) := fun b => by
        refine Ev.step (fun k => by rw [impl_TreesValid.j2, wrap_nat hn (by omega)]) ?_
        cases b with
        | true => exact ev_pos rfl (ev_eq ih (by simp))
        | false => exact ev_neg (by simp) (ev_eq (ev_ret _) (by simp))
      refine Ev.step (fun k => by rw [impl_TreesValid.l0]) ?_
      rw [show rd_ITree l (n : Int) = x from getD_of hx]
      simp only [impl_in_eq]
      refine ev_pos (by omega) (ev_pos (by omega) (ev_pos (by omega) (ev_bind (ev_ret _) ?_)))
      unfold treeP
      by_cases h0 : x.f0 = 0
      · refine ev_pos h0 (ev_eq (hj _) ?_)
        simp [h0]
      refine ev_neg h0 ?_
      rw [if_neg h0]
      by_cases h1 : x.f0 = 1
      · refine ev_pos h1 (ev_bind (ev_ret _) ?_)
        rw [if_pos h1]
        cases inR x.f1 0 (wrap64 (facts - 1)) with
        | false => exact ev_neg (by simp) (ev_eq (hj false) (by simp))
        | true =>
          refine ev_pos rfl ?_
          by_cases h2 : x.f2 = 0
          · exact ev_pos h2 (ev_eq (hj _) (by simp [h2]))
          · exact ev_neg h2 (ev_eq (hj false) (by simp [h2]))
      refine ev_neg h1 ?_
      rw [if_neg h1]
      have e : inR x.f0 0 10 = inR x.f0 2 10 := by unfold inR; congr 1; apply propext; omega
      rw [e]
      cases hr : inR x.f0 2 10 with
      | false => exact ev_neg (by simp) (ev_eq (hj false) (by simp))
      | true =>
        have hr := inR_iff.1 hr
        refine ev_pos rfl ?_
        by_cases h2 : x.f1 = 0
        · refine ev_pos h2 (ev_bind (ev_ret _) ?_)
          rw [show (x.f1 == 0) = true by simpa using h2]
          cases inR x.f2 0 (wrap64 ((n : Int) - 1)) with
          | false => exact ev_neg (by simp) (ev_eq (hj false) (by simp))
          | true =>
            refine ev_pos rfl (ev_bind (ev_ret _) ?_)
            cases inR x.f3 0 (wrap64 ((n : Int) - 1)) with
            | false => exact ev_neg (by simp) (ev_eq (hj false) (by simp))
            | true =>
              refine ev_pos rfl ?_
              by_cases h3 : x.f2 = x.f3
              · exact ev_pos h3 (ev_eq (hj true) (by simp [h3]))
              · refine ev_neg h3 (ev_bind (treeParts_ev x.f0 (by omega)) (ev_eq (hj _) ?_))
                have b3 : (x.f3 == x.f2) = false := by simpa using fun h => h3 h.symm
                rw [b3]
                cases (x.f0 == 3 || (x.f0 == 4 || (x.f0 == 6 || x.f0 == 9))) <;> simp
        · refine ev_neg h2 (ev_eq (hj false) ?_)
          have b2 : (x.f1 == 0) = false := by simpa using h2
          rw [b2]; simp
theorem allI_at {α : Type} {p : Nat → α → Bool} : ∀ (l : List α) (n : Nat), allI p n l = true → ∀ (j : Nat) t, l[j]? = some t → p (n + j) t = true
  | [], n, _, j, t, e => by simp at e
  | x :: l, n, h, 0, t, e => by
    unfold allI at h
    rw [Bool.and_eq_true] at h
    simp at e
    subst e
    exact h.1
  | x :: l, n, h, j + 1, t, e => by
    unfold allI at h
    rw [Bool.and_eq_true] at h
    have := allI_at l (n + 1) h.2 j t (by simpa using e)
    rw [show n + (j + 1) = n + 1 + j by omega]
    exact this
theorem treesP_at {l : List ITree} {facts : Int} (h : treesP l facts = true) (hf : 0 ≤ facts) {j : Nat} {t : ITree} (e : l[j]? = some t) :
    t.f0 = 0 ∨ (t.f0 = 1 ∧ 0 ≤ t.f1 ∧ t.f1 < facts) ∨ ((2 ≤ t.f0 ∧ t.f0 ≤ 10) ∧ (0 ≤ t.f2 ∧ t.f2 < (j : Int)) ∧ (0 ≤ t.f3 ∧ t.f3 < (j : Int))) := by
  simp only [treesP, Bool.and_eq_true, inR_iff] at h
  obtain ⟨hf4, hl, ha⟩ := h
  have hj : j < l.length := by
    rcases Nat.lt_or_ge j l.length with h | h
    · exact h
    · rw [List.getElem?_eq_none h] at e; cases e
  have ht := allI_at l 0 ha j t e
  rw [Nat.zero_add] at ht
  unfold treeP at ht
  by_cases h0 : t.f0 = 0
  · exact .inl h0
  rw [if_neg h0] at ht
  by_cases h1 : t.f0 = 1
  · rw [if_pos h1, Bool.and_eq_true, inR_iff, wrap_in (by omega) (by omega)] at ht
    exact .inr (.inl ⟨h1, by omega⟩)
  rw [if_neg h1] at ht
  simp only [Bool.and_eq_true, inR_iff] at ht
  obtain ⟨a1, a2, a3, a4, a5⟩ := ht
  rw [wrap_in (by omega) (by omega)] at a3 a4
  exact .inr (.inr ⟨a1, by omega, by omega⟩)
end Go.Proofs.Ytikjlbanfbkhmaa.PA
end
section
set_option linter.unusedVariables false
set_option linter.unusedSimpArgs false
namespace Go.Proofs.Ytikjlbanfbkhmaa.PA
open Go.RowKit Go.Proofs.YtikjlbanfbkhmaaW.PrintWords
def nthF (P : List (Nat → Bool)) (i : Int) : Nat → Bool := P.getD i.toNat fun _ => false
def rowF (N : Nat) (X L : List (List Int)) (t : ITree) (P : List (Nat → Bool)) : Nat → Bool :=
  if t.f0 = 0 then fun _ => true
  else if t.f0 = 1 then fun n => (L.getD n []).getD t.f1.toNat 0 == 1
  else if t.f0 = 2 then fun n => !nthF P t.f2 n
  else if t.f0 = 3 then fun n => nthF P t.f2 n && nthF P t.f3 n
  else if t.f0 = 4 then fun n => nthF P t.f2 n || nthF P t.f3 n
  else if t.f0 = 5 then aheadF X (nthF P t.f2)
  else if t.f0 = 6 then untilF false X (nthF P t.f2) (nthF P t.f3) N
  else if t.f0 = 7 then alwaysF false X (nthF P t.f2) N
  else if t.f0 = 8 then fun n => !aheadF X (fun m => !nthF P t.f2 m) n
  else if t.f0 = 9 then untilF true X (nthF P t.f2) (nthF P t.f3) N
  else alwaysF true X (nthF P t.f2) N
def rowsF (N : Nat) (X L : List (List Int)) : List ITree → List (Nat → Bool) → List (Nat → Bool)
  | [], P => P
  | t :: r, P => rowsF N X L r (P ++ [rowF N X L t P])
theorem rowsF_len (N : Nat) (X L : List (List Int)) : ∀ (l : List ITree) (P : List (Nat → Bool)), (rowsF N X L l P).length = P.length + l.length
  | [], P => rfl
  | t :: r, P => by unfold rowsF; rw [rowsF_len N X L r]; simp; omega
theorem rd_rows {N : Nat} {P : List (Nat → Bool)} {e : List (List Bool)} {i : Int} (h0 : 0 ≤ i) (h1 : i < (P.length : Int)) : rd_Lbool (P.map (marksF N) ++ e) i = marksF N (nthF P i) := by
  have hi : i.toNat < P.length := by omega
  show (P.map (marksF N) ++ e).getD i.toNat [] = _
  unfold nthF
  rw [List.getD_eq_getElem?_getD, List.getElem?_append_left (by simpa using hi), List.getElem?_map, List.getD_eq_getElem?_getD, List.getElem?_eq_getElem hi]
  rfl
theorem rows_put {N : Nat} {P : List (Nat → Bool)} {p : Nat → Bool} {d : Nat} {x : Int} (hx : x = (P.length : Int)) : (P.map (marksF N) ++ List.replicate (d + 1) []).set x.toNat (marksF N p) = (P ++ [p]).map (marksF N) ++ List.replicate d [] := by
  rw [hx, Int.toNat_natCast, List.set_append, if_neg (by simp), List.length_map, Nat.sub_self, List.replicate_succ, List.set_cons_zero, List.map_append, List.append_assoc]
  rfl
section
variable {X L : List (List Int)} {N : Nat} (G : GrOk X N) {facts : Int} (hL : L.length = N) (hl : ∀ x ∈ L, (x.length : Int) = facts)
include G hL hl
omit G in
theorem letter_at {n : Nat} (hn : n < N) : ((L.getD n []).length : Int) = facts := by
  refine hl _ ?_
  rw [List.getD_eq_getElem?_getD, List.getElem?_eq_getElem (by omega)]; exact List.getElem_mem _
theorem spec_l24Row_ev {t : ITree} {P : List (Nat → Bool)} (hc : t.f0 = 0 ∨ (t.f0 = 1 ∧ 0 ≤ t.f1 ∧ t.f1 < facts) ∨ ((2 ≤ t.f0 ∧ t.f0 ≤ 10) ∧ (0 ≤ t.f2 ∧ t.f2 < (P.length : Int)) ∧ (0 ≤ t.f3 ∧ t.f3 < (P.length : Int)))) :
    Ev (fun k => spec_l24Row.f k t.f0 t.f1 t.f2 t.f3 (P.map (marksF N)) X L) (marksF N (rowF N X L t P)) := by
  have hN := G.small
  have hX := G.len
  have hrep : List.replicate ((X.length : Int) : Int).toNat false = marksF N fun _ => false := by rw [hX, Int.toNat_natCast, marksF_no]
  unfold spec_l24Row.f
  rw [hrep]
  by_cases h1 : t.f0 ≤ 1
  · refine ev_pos h1 (ev_pos (by omega) (ev_pos (by omega) ?_))
    refine ev_fillM (fun k row i => spec_l24Row.l0 k X L row i t.f0 t.f1 t.f2 t.f3) N _ (rowF N X L t P) _ (Ev.step (fun k => by rw [spec_l24Row.l0]) (ev_neg (by omega) (ev_ret _))) fun n q R hn _ ih => ?_
    have hrl : rd_Lint L (n : Int) = L.getD n [] := rfl
    have hll := letter_at hL hl hn
    refine Ev.step (fun k => by rw [spec_l24Row.l0, hrl, wrap_nat (n := n) (m := N) hn (by omega), Int.toNat_natCast]) (ev_pos (by omega) ?_)
    by_cases h0 : t.f0 = 0
    · refine ev_pos h0 (ev_pos (by omega) (ev_pos (by rw [marksF_len]; omega) ?_))
      unfold rowF at ih
      rw [if_pos h0] at ih
      exact ih
    · have h1' : t.f0 = 1 := by rcases hc with h | h | h <;> omega
      have hf : 0 ≤ t.f1 ∧ t.f1 < facts := by rcases hc with h | h | h <;> omega
      refine ev_neg h0 (ev_pos (by omega) (ev_pos (by omega) (ev_pos hf.1 (ev_pos (by omega) (ev_pos (by rw [marksF_len]; omega) ?_)))))
      unfold rowF at ih
      rw [if_neg h0, if_pos h1'] at ih
      exact ih
  · obtain ⟨h2, h3, h4⟩ : (2 ≤ t.f0 ∧ t.f0 ≤ 10) ∧ (0 ≤ t.f2 ∧ t.f2 < (P.length : Int)) ∧ (0 ≤ t.f3 ∧ t.f3 < (P.length : Int)) := by
      rcases hc with h | h | h
      · omega
      · omega
      · exact h
    have ra : rd_Lbool (P.map (marksF N)) t.f2 = marksF N (nthF P t.f2) := by have := rd_rows (N := N) (e := []) h3.1 h3.2; rwa [List.append_nil] at this
    have rb : rd_Lbool (P.map (marksF N)) t.f3 = marksF N (nthF P t.f3) := by have := rd_rows (N := N) (e := []) h4.1 h4.2; rwa [List.append_nil] at this
    rw [ra, rb]
    refine ev_neg h1 (ev_pos h3.1 (ev_pos (by rw [List.length_map]; exact h3.2) (ev_pos h4.1 (ev_pos (by rw [List.length_map]; exact h4.2) ?_))))
    unfold rowF
    rw [if_neg (by omega), if_neg (by omega)]
    by_cases c2 : t.f0 = 2
    · rw [if_pos c2]
      exact ev_pos c2 (ev_bind (spec_not_M hN _) (ev_ret _))
    rw [if_neg c2]
    refine ev_neg c2 ?_
    by_cases c3 : t.f0 = 3
    · rw [if_pos c3]
      exact ev_pos c3 (ev_bind (spec_both_M hN _ _) (ev_ret _))
    rw [if_neg c3]
    refine ev_neg c3 ?_
    by_cases c4 : t.f0 = 4
    · rw [if_pos c4]
      refine ev_pos c4 (ev_bind (spec_not_M hN _) (ev_bind (spec_not_M hN _) (ev_bind (spec_both_M hN _ _) (ev_bind (spec_not_M hN _) (ev_eq (ev_ret _) ?_)))))
      refine marksF_congr fun i _ => ?_
      cases nthF P t.f2 i <;> cases nthF P t.f3 i <;> rfl
    rw [if_neg c4]
    refine ev_neg c4 ?_
    by_cases c5 : t.f0 = 5
    · rw [if_pos c5]
      exact ev_pos c5 (ev_bind (spec_ahead_M G _) (ev_ret _))
    rw [if_neg c5]
    refine ev_neg c5 ?_
    by_cases c6 : t.f0 = 6
    · rw [if_pos c6]
      exact ev_pos c6 (ev_bind (spec_until_M G _ _) (ev_ret _))
    rw [if_neg c6]
    refine ev_neg c6 ?_
    by_cases c7 : t.f0 = 7
    · rw [if_pos c7]
      exact ev_pos c7 (ev_bind (spec_stay_M G _) (ev_ret _))
    rw [if_neg c7]
    refine ev_neg c7 ?_
    by_cases c8 : t.f0 = 8
    · rw [if_pos c8]
      exact ev_pos c8 (ev_bind (spec_not_M hN _) (ev_bind (spec_ahead_M G _) (ev_bind (spec_not_M hN _) (ev_ret _))))
    rw [if_neg c8]
    refine ev_neg c8 ?_
    by_cases c9 : t.f0 = 9
    · rw [if_pos c9]
      exact ev_pos c9 (ev_bind (spec_all_M G _ _) (ev_ret _))
    rw [if_neg c9]
    refine ev_neg c9 (ev_pos (by omega) (ev_pos (by omega) ?_))
    refine ev_fillM (fun k row i => spec_l24Row.l1 k X (marksF N (nthF P t.f2)) row i) N _ (fun _ => true) _ ?_ fun n q R hn _ ih => ?_
    · refine Ev.step (fun k => by rw [spec_l24Row.l1]) (ev_neg (by omega) (ev_bind (spec_not_M hN _) (ev_bind (spec_until_M G _ _) (ev_bind (spec_not_M hN _) (ev_eq (ev_ret _) ?_)))))
      exact marksF_congr fun i _ => (always_dual N i).symm
    · refine Ev.step (fun k => by rw [spec_l24Row.l1, wrap_nat (n := n) (m := N) hn (by omega), Int.toNat_natCast]) ?_
      exact ev_pos (by omega) (ev_pos (by omega) (ev_pos (by rw [marksF_len]; omega) ih))
theorem impl_treeRows_ev {list : List ITree} (hlen : list.length ≤ 24)
    (hc : ∀ (j : Nat) t, list[j]? = some t → t.f0 = 0 ∨ (t.f0 = 1 ∧ 0 ≤ t.f1 ∧ t.f1 < facts) ∨ ((2 ≤ t.f0 ∧ t.f0 ≤ 10) ∧ (0 ≤ t.f2 ∧ t.f2 < (j : Int)) ∧ (0 ≤ t.f3 ∧ t.f3 < (j : Int)))) :
    Ev (fun k => impl_treeRows.f k list X L) ((rowsF N X L list []).map (marksF N)) := by
  have hN := G.small
  have hX := G.len
  have hrep : List.replicate (X.length : Int).toNat false = marksF N fun _ => false := by rw [hX, Int.toNat_natCast, marksF_no]
  unfold impl_treeRows.f
  refine ev_pos (by omega) (ev_pos (by omega) ?_)
  have key : ∀ (d n : Nat), list.length - n = d → n ≤ list.length → ∀ P : List (Nat → Bool), P.length = n → Ev (fun k => impl_treeRows.l1 k (P.map (marksF N) ++ List.replicate d []) (n : Int) list X L) ((rowsF N X L (list.drop n) P).map (marksF N)) := by
    intro d
    induction d with
    | zero =>
      intro n h1 h2 P hP
      rw [List.drop_eq_nil_of_le (by omega)]
      refine Ev.step (fun k => by rw [impl_treeRows.l1]) (ev_neg (by omega) (ev_eq (ev_ret _) ?_))
      rw [List.replicate_zero, List.append_nil]; rfl
    | succ d ih =>
      intro n h1 h2 P hP
      have hn : n < list.length := by omega
      have ht : list[n]? = some list[n] := List.getElem?_eq_getElem hn
      have hc := hc n _ ht
      rw [List.drop_eq_getElem_cons hn]
      have hrd : rd_ITree list (n : Int) = list[n] := getD_of ht
      generalize list[n] = t at *
      have ih := fun p => ih (n + 1) (by omega) (by omega) (P ++ [p]) (by simp; omega)
      have hRl : (P.map (marksF N) ++ List.replicate (d + 1) ([] : List Bool)).length = list.length := by simp; omega
      show Ev _ ((rowsF N X L (list.drop (n + 1)) (P ++ [rowF N X L t P])).map (marksF N))
      -- a row that is put
      have put : ∀ p : Nat → Bool, rowF N X L t P = p → Ev (fun k => impl_treeRows.l1 k ((P.map (marksF N) ++ List.replicate (d + 1) []).set ((n : Int)).toNat (marksF N p)) (((n + 1 : Nat) : Int)) list X L) ((rowsF N X L (list.drop (n + 1)) (P ++ [rowF N X L t P])).map (marksF N)) := fun p hp => by
        rw [rows_put (by rw [hP]), hp]
        exact ih p
      have fill3 : (t.f0 = 0 ∨ (t.f0 = 1 ∧ 0 ≤ t.f1 ∧ t.f1 < facts)) → Ev (fun k => impl_treeRows.l3 k (marksF N fun _ => false) 0 list X L (P.map (marksF N) ++ List.replicate (d + 1) []) (n : Int)) ((rowsF N X L (list.drop (n + 1)) (P ++ [rowF N X L t P])).map (marksF N)) := fun h01 => by
        refine ev_fillM (fun k row i => impl_treeRows.l3 k row i list X L (P.map (marksF N) ++ List.replicate (d + 1) []) (n : Int)) N _ (rowF N X L t P) _ ?_ fun m q R hm _ ihm => ?_
        · refine Ev.step (fun k => by rw [impl_treeRows.l3, hrep, wrap_nat (n := n) (m := list.length) hn (by omega)]) (ev_neg (by rw [marksF_len]; omega) (put _ rfl))
        · have hrl : rd_Lint L (m : Int) = L.getD m [] := rfl
          have hll := letter_at hL hl hm
          refine Ev.step (fun k => by rw [impl_treeRows.l3, hrep, hrd, hrl, wrap_nat (n := m) (m := N) hm (by omega), Int.toNat_natCast]) (ev_pos (by rw [marksF_len]; omega) (ev_pos (by omega) (ev_pos (by omega) ?_)))
          by_cases h0 : t.f0 = 0
          · refine ev_pos h0 (ev_pos (by omega) (ev_pos (by rw [marksF_len]; omega) ?_))
            unfold rowF at ihm
            rw [if_pos h0] at ihm
            exact ihm
          · have hf : t.f0 = 1 ∧ 0 ≤ t.f1 ∧ t.f1 < facts := by rcases h01 with h | h <;> omega
            refine ev_neg h0 (ev_pos (by omega) (ev_pos (by omega) (ev_pos hf.2.1 (ev_pos (by omega) (ev_pos (by omega) (ev_pos (by rw [marksF_len]; omega) ?_))))))
            unfold rowF at ihm
            rw [if_neg h0, if_pos hf.1] at ihm
            exact ihm
      have fill4 : (t.f0 = 0 ∨ (t.f0 = 1 ∧ 0 ≤ t.f1 ∧ t.f1 < facts)) → Ev (fun k => impl_treeRows.l4 k (marksF N fun _ => false) 0 list X L (P.map (marksF N) ++ List.replicate (d + 1) []) (n : Int)) ((rowsF N X L (list.drop (n + 1)) (P ++ [rowF N X L t P])).map (marksF N)) := fun h01 => by
        refine ev_fillM (fun k row i => impl_treeRows.l4 k row i list X L (P.map (marksF N) ++ List.replicate (d + 1) []) (n : Int)) N _ (rowF N X L t P) _ ?_ fun m q R hm _ ihm => ?_
        · refine Ev.step (fun k => by rw [impl_treeRows.l4, hrep, wrap_nat (n := n) (m := list.length) hn (by omega)]) (ev_neg (by rw [marksF_len]; omega) (put _ rfl))
        · have hrl : rd_Lint L (m : Int) = L.getD m [] := rfl
          have hll := letter_at hL hl hm
          refine Ev.step (fun k => by rw [impl_treeRows.l4, hrep, hrd, hrl, wrap_nat (n := m) (m := N) hm (by omega), Int.toNat_natCast]) (ev_pos (by rw [marksF_len]; omega) (ev_pos (by omega) (ev_pos (by omega) ?_)))
          by_cases h0 : t.f0 = 0
          · refine ev_pos h0 (ev_pos (by omega) (ev_pos (by rw [marksF_len]; omega) ?_))
            unfold rowF at ihm
            rw [if_pos h0] at ihm
            exact ihm
          · have hf : t.f0 = 1 ∧ 0 ≤ t.f1 ∧ t.f1 < facts := by rcases h01 with h | h <;> omega
            refine ev_neg h0 (ev_pos (by omega) (ev_pos (by omega) (ev_pos hf.2.1 (ev_pos (by omega) (ev_pos (by omega) (ev_pos (by rw [marksF_len]; omega) ?_))))))
            unfold rowF at ihm
            rw [if_neg h0, if_pos hf.1] at ihm
            exact ihm
      refine Ev.step (fun k => by rw [impl_treeRows.l1, hrd]) (ev_pos (by omega) (ev_pos (by omega) (ev_pos (by omega) ?_)))
      by_cases h1 : t.f0 > 1
      · obtain ⟨h2, h3, h4⟩ : (2 ≤ t.f0 ∧ t.f0 ≤ 10) ∧ (0 ≤ t.f2 ∧ t.f2 < (n : Int)) ∧ (0 ≤ t.f3 ∧ t.f3 < (n : Int)) := by
          rcases hc with h | h | h
          · omega
          · omega
          · exact h
        have ra := rd_rows (N := N) (e := List.replicate (d + 1) []) h3.1 (by rw [hP]; exact h3.2)
        have rb := rd_rows (N := N) (e := List.replicate (d + 1) []) h4.1 (by rw [hP]; exact h4.2)
        rw [ra, rb]
        refine ev_pos h1 (ev_pos h3.1 (ev_pos (by omega) (ev_pos h4.1 (ev_pos (by omega) ?_))))
        have put2 : ∀ p : Nat → Bool, rowF N X L t P = p → Ev (fun k => if 0 ≤ (n : Int) then (if (n : Int) < ((P.map (marksF N) ++ List.replicate (d + 1) ([] : List Bool)).length : Int) then impl_treeRows.l1 k ((P.map (marksF N) ++ List.replicate (d + 1) []).set ((n : Int)).toNat (marksF N p)) (wrap64 ((n : Int) + 1)) list X L else none) else none) ((rowsF N X L (list.drop (n + 1)) (P ++ [rowF N X L t P])).map (marksF N)) := fun p hp => by
          rw [wrap_nat (n := n) (m := list.length) hn (by omega)]
          exact ev_pos (by omega) (ev_pos (by omega) (put p hp))
        have rF : ∀ p : Nat → Bool, (if t.f0 = 2 then (fun n => !nthF P t.f2 n) else if t.f0 = 3 then (fun n => nthF P t.f2 n && nthF P t.f3 n) else if t.f0 = 4 then (fun n => nthF P t.f2 n || nthF P t.f3 n) else if t.f0 = 5 then aheadF X (nthF P t.f2)
            else if t.f0 = 6 then untilF false X (nthF P t.f2) (nthF P t.f3) N else if t.f0 = 7 then alwaysF false X (nthF P t.f2) N else if t.f0 = 8 then (fun n => !aheadF X (fun m => !nthF P t.f2 m) n) else if t.f0 = 9 then untilF true X (nthF P t.f2) (nthF P t.f3) N else alwaysF true X (nthF P t.f2) N) = p → rowF N X L t P = p := fun p hp => by
          unfold rowF
          rw [if_neg (by omega), if_neg (by omega)]
          exact hp
        refine Ev.step (fun k => by rw [impl_treeRows.j2, hrd]) (ev_neg (by omega) (ev_neg (by omega) ?_))
        by_cases c2 : t.f0 = 2
        · exact ev_pos c2 (ev_bind (impl_not_M hN _) (put2 _ (rF _ (by rw [if_pos c2]))))
        refine ev_neg c2 ?_
        by_cases c3 : t.f0 = 3
        · exact ev_pos c3 (ev_bind (each_3_ev hN _ _) (put2 _ (rF _ (by rw [if_neg c2, if_pos c3]))))
        refine ev_neg c3 ?_
        by_cases c4 : t.f0 = 4
        · exact ev_pos c4 (ev_bind (each_4_ev hN _ _) (put2 _ (rF _ (by rw [if_neg c2, if_neg c3, if_pos c4]))))
        refine ev_neg c4 ?_
        by_cases c5 : t.f0 = 5
        · exact ev_pos c5 (ev_bind (impl_some_M G _) (put2 _ (rF _ (by rw [if_neg c2, if_neg c3, if_neg c4, if_pos c5]))))
        refine ev_neg c5 ?_
        by_cases c8 : t.f0 = 8
        · exact ev_pos c8 (ev_bind (impl_not_M hN _) (ev_bind (impl_some_M G _) (ev_bind (impl_not_M hN _) (put2 _ (rF _ (by rw [if_neg c2, if_neg c3, if_neg c4, if_neg c5, if_neg (by omega), if_neg (by omega), if_pos c8]))))))
        refine ev_neg c8 ?_
        by_cases c6 : t.f0 = 6
        · rw [show (t.f0 == 9) = false by rw [c6]; rfl]
          exact ev_pos c6 (ev_bind (impl_until_M G _ _ _) (put2 _ (rF _ (by rw [if_neg c2, if_neg c3, if_neg c4, if_neg c5, if_pos c6]))))
        refine ev_neg c6 ?_
        by_cases c9 : t.f0 = 9
        · rw [show (t.f0 == 9) = true by rw [c9]; rfl]
          exact ev_pos c9 (ev_bind (impl_until_M G _ _ _) (put2 _ (rF _ (by rw [if_neg c2, if_neg c3, if_neg c4, if_neg c5, if_neg c6, if_neg (by omega), if_neg c8, if_pos c9]))))
        refine ev_neg c9 ?_
        by_cases c7 : t.f0 = 7
        · rw [show (t.f0 == 10) = false by rw [c7]; rfl]
          exact ev_bind (impl_always_M G _ _) (put2 _ (rF _ (by rw [if_neg c2, if_neg c3, if_neg c4, if_neg c5, if_neg c6, if_pos c7])))
        · have c10 : t.f0 = 10 := by omega
          rw [show (t.f0 == 10) = true by rw [c10]; rfl]
          exact ev_bind (impl_always_M G _ _) (put2 _ (rF _ (by rw [if_neg c2, if_neg c3, if_neg c4, if_neg c5, if_neg c6, if_neg c7, if_neg c8, if_neg c9])))
      · have h01 : t.f0 = 0 ∨ (t.f0 = 1 ∧ 0 ≤ t.f1 ∧ t.f1 < facts) := by
          rcases hc with h | h | h
          · exact .inl h
          · exact .inr h
          · omega
        refine ev_neg h1 (Ev.step (fun k => by rw [impl_treeRows.j2, hrd, hrep]) ?_)
        by_cases h0 : t.f0 = 0
        · exact ev_pos h0 (ev_pos (by omega) (ev_pos (by omega) (ev_pos (by omega) (ev_pos (by omega) (ev_pos (by omega) (ev_pos (by omega) (fill3 h01)))))))
        · have h1' : t.f0 = 1 := by rcases h01 with h | h <;> omega
          exact ev_neg h0 (ev_pos h1' (ev_pos (by omega) (ev_pos (by omega) (ev_pos (by omega) (ev_pos (by omega) (ev_pos (by omega) (ev_pos (by omega) (fill4 h01))))))))
  have := key list.length 0 (by omega) (by omega) [] rfl
  rw [List.drop_zero, List.map_nil, List.nil_append] at this
  rw [Int.toNat_natCast]
  exact this
end
def treesOnP (L : List (List Int)) (f : Int) (X : List (List Int)) (facts : Int) (list : List ITree) : List Int :=
  if (graphP L f X facts && treesP list facts) = true then pickP (nthF (rowsF L.length X L list []) ((list.length : Int) - 1)) L.length else []
theorem treesOnP_len (L : List (List Int)) (f : Int) (X : List (List Int)) (facts : Int) (list : List ITree) (h : L.length ≤ 1048576) : (treesOnP L f X facts list).length ≤ 1048576 := by
  unfold treesOnP
  split
  · exact Nat.le_trans (pickP_len _ _) h
  · simp
theorem rows_last {N : Nat} {P : List (Nat → Bool)} {m : Nat} (h : P.length = m) (h1 : 1 ≤ m) (h2 : m ≤ 24) : wrap64 (((P.map (marksF N)).length : Int) - 1) = (m : Int) - 1 ∧ rd_Lbool (P.map (marksF N)) ((m : Int) - 1) = marksF N (nthF P ((m : Int) - 1)) := by
  refine ⟨by rw [List.length_map, h, wrap_in (by omega) (by omega)], ?_⟩
  have := rd_rows (N := N) (P := P) (e := []) (i := (m : Int) - 1) (by omega) (by omega)
  rwa [List.append_nil] at this
theorem impl_TreesOn_ev {L X : List (List Int)} (f facts : Int) {list : List ITree} (hL : L.length ≤ 1048576 ∧ ∀ x ∈ L, x.length ≤ 1048576) (hX : X.length ≤ 1048576 ∧ ∀ x ∈ X, x.length ≤ 1048576) (hl : list.length ≤ 1048576) :
    Ev (fun k => impl_TreesOn.f k L f X facts list) (treesOnP L f X facts list) := by
  unfold impl_TreesOn.f treesOnP
  refine ev_bind (impl_GraphValid_ev f facts hL hX) ?_
  cases h1 : graphP L f X facts with
  | false => exact ev_neg (by simp) (ev_eq (ev_ret _) (by simp))
  | true =>
    refine ev_pos rfl (ev_bind (impl_TreesValid_ev list facts hl) ?_)
    cases h2 : treesP list facts with
    | false => exact ev_neg (by simp) (ev_eq (ev_ret _) (by simp))
    | true =>
      obtain ⟨G, hf, hL1, hll⟩ := graphP_ok hX.2 h1
      have hb : 1 ≤ list.length ∧ list.length ≤ 24 := by simp only [treesP, Bool.and_eq_true, inR_iff] at h2; omega
      have hR := impl_treeRows_ev G rfl hll hb.2 fun j t e => treesP_at h2 hf.1 e
      have hRl := rowsF_len L.length X L list []
      obtain ⟨e1, e2⟩ := rows_last (N := L.length) (m := list.length) (hRl.trans (by simp)) hb.1 hb.2
      refine ev_pos rfl (ev_bind hR ?_)
      rw [e1, e2, if_pos (by rfl)]
      refine ev_pos (by omega) (ev_pos (by rw [List.length_map, hRl]; simp; omega) (ev_bind (impl_listOf_ev _ (by rw [marksF_len]; omega)) (ev_eq (ev_ret _) ?_)))
      rw [marksF_len]
      exact pickP_congr fun i hi => marksF_get hi
theorem spec_TreesOn_ev {L X : List (List Int)} (f facts : Int) {list : List ITree} (hL : L.length ≤ 1048576 ∧ ∀ x ∈ L, x.length ≤ 1048576) (hX : X.length ≤ 1048576 ∧ ∀ x ∈ X, x.length ≤ 1048576) (hl : list.length ≤ 1048576) :
    Ev (fun k => spec_TreesOn.f k L f X facts list) (treesOnP L f X facts list) := by
  unfold spec_TreesOn.f treesOnP
  refine ev_bind (spec_GraphValid_ev f facts hL hX) ?_
  have no : Ev (fun k => spec_TreesOn.j0 k list true L f X) [] := Ev.step (fun k => by rw [spec_TreesOn.j0]) (ev_pos rfl (ev_ret _))
  cases h1 : graphP L f X facts with
  | false => exact ev_neg (by simp) (ev_eq no (by simp))
  | true =>
    refine ev_pos rfl (ev_bind (spec_TreesValid_ev list facts hl) ?_)
    cases h2 : treesP list facts with
    | false => exact ev_eq no (by simp)
    | true =>
      obtain ⟨G, hf, hL1, hll⟩ := graphP_ok hX.2 h1
      have hb : 1 ≤ list.length ∧ list.length ≤ 24 := by simp only [treesP, Bool.and_eq_true, inR_iff] at h2; omega
      rw [if_pos (by rfl)]
      refine Ev.step (fun k => by rw [spec_TreesOn.j0]) (ev_neg (by simp) ?_)
      have key : ∀ (d n : Nat), list.length - n = d → n ≤ list.length → ∀ P : List (Nat → Bool), P.length = n → rowsF L.length X L (list.drop n) P = rowsF L.length X L list [] →
          Ev (fun k => spec_TreesOn.l0 k list (P.map (marksF L.length)) (n : Int) L f X) (pickP (nthF (rowsF L.length X L list []) ((list.length : Int) - 1)) L.length) := by
        intro d
        induction d with
        | zero =>
          intro n g1 g2 P g3 g4
          rw [List.drop_eq_nil_of_le (by omega)] at g4
          have g4 : P = rowsF L.length X L list [] := g4
          rw [← g4]
          obtain ⟨e1, e2⟩ := rows_last (N := L.length) (P := P) (m := list.length) (by omega) hb.1 hb.2
          refine Ev.step (fun k => by rw [spec_TreesOn.l0, e1, e2]) (ev_neg (by omega) (ev_pos (by omega) (ev_pos (by rw [List.length_map]; omega) ?_)))
          exact ev_bind (spec_l4List_F hL.1) (ev_ret _)
        | succ d ih =>
          intro n g1 g2 P g3 g4
          have hn : n < list.length := by omega
          have ht : list[n]? = some list[n] := List.getElem?_eq_getElem hn
          have hc := treesP_at h2 hf.1 ht
          rw [List.drop_eq_getElem_cons hn] at g4
          have hrd : rd_ITree list (n : Int) = list[n] := getD_of ht
          generalize list[n] = t at *
          rw [← g3] at hc
          have hrow := spec_l24Row_ev G rfl hll hc
          have ih := ih (n + 1) (by omega) (by omega) (P ++ [rowF L.length X L t P]) (by simp; omega) g4
          rw [List.map_append, List.map_cons, List.map_nil] at ih
          refine Ev.step (fun k => by rw [spec_TreesOn.l0, hrd, wrap_nat (n := n) (m := list.length) hn (by omega)]) (ev_pos (by omega) (ev_pos (by omega) (ev_bind hrow ?_)))
          have hml : (P.map (marksF L.length)).length < 5864062014805 := by rw [List.length_map]; omega
          exact ev_pos hml ih
      exact key list.length 0 (by omega) (by omega) [] rfl rfl
end Go.Proofs.Ytikjlbanfbkhmaa.PA
end
section
set_option linter.unusedVariables false
set_option linter.unusedSimpArgs false
namespace Go.Proofs.Ytikjlbanfbkhmaa.PA
open Go.RowKit Go.Proofs.YtikjlbanfbkhmaaW.PrintWords
def cTree (x : LTree) : ITree := ⟨x.f0, x.f1, x.f2, x.f3⟩
theorem sz_trees {l : List LTree} {a : Int} (h0 : 0 ≤ a) (h1 : a ≤ 1048576) (hn : l.length ≤ 9223372036854775807) : SzOk (fun _ => laws_szTreeS.f l a) a (l.length ≤ 1048576) := by
  unfold laws_szTreeS.f
  exact sz_len h0 h1 hn
theorem laws_toTreeS_ev (l : List LTree) (h : l.length ≤ 1048576) : Ev (fun k => laws_toTreeS.f k l) (l.map cTree) := by
  unfold laws_toTreeS.f
  refine ev_pos (by omega) (ev_pos (by omega) ?_)
  exact ev_fill (da := zLTree) (db := zITree) (fun k ys i => laws_toTreeS.l0 k l ys i) (fun k x => some (cTree x)) l cTree (by omega) (fun k ys i => by rw [laws_toTreeS.l0]; rfl) (fun x _ => ev_ret _)
theorem laws_eqTreeS_ev (l : List ITree) (h : l.length ≤ 1048576) : Ev (fun k => laws_eqTreeS.f k l l) true := by
  unfold laws_eqTreeS.f
  refine ev_pos rfl ?_
  exact ev_same (da := zITree) (fun k i => laws_eqTreeS.l0 k l l i) (fun k x y => laws_eqTree.f x.f0 x.f1 x.f2 x.f3 y.f0 y.f1 y.f2 y.f3) l l (by omega) rfl (fun k i => by rw [laws_eqTreeS.l0]; rfl) (fun x _ => by unfold laws_eqTree.f; simp only [if_true]; exact ev_ret _)
theorem sz_graph {L X : List (List Int)} {f a : Int} (h0 : 0 ≤ a) (h1 : a ≤ 1048576) (hL : L.length ≤ 9223372036854775807 ∧ ∀ x ∈ L, x.length ≤ 9223372036854775807) (hX : X.length ≤ 9223372036854775807 ∧ ∀ x ∈ X, x.length ≤ 9223372036854775807) :
    SzOk (fun k => laws_szGraph.f k L f X a) a ((L.length ≤ 1048576 ∧ ∀ x ∈ L, x.length ≤ 1048576) ∧ (X.length ≤ 1048576 ∧ ∀ x ∈ X, x.length ≤ 1048576)) := by
  unfold laws_szGraph.f
  obtain ⟨r, e1, e2⟩ := sz_intss h0 h1 hL.1 hL.2
  rcases e2 with e2 | ⟨a1, a2, k1⟩
  · exact ⟨-1, ev_bind e1 (ev_pos e2 (ev_ret _)), .inl (by omega)⟩
  · obtain ⟨r2, e3, e4⟩ := sz_intss (l := X) a1 (by omega) hX.1 hX.2
    rcases e4 with e4 | ⟨b1, b2, k2⟩
    · exact ⟨-1, ev_bind e1 (ev_neg (by omega) (ev_bind e3 (ev_pos e4 (ev_ret _)))), .inl (by omega)⟩
    · exact ⟨r2, ev_bind e1 (ev_neg (by omega) (ev_bind e3 (ev_neg (by omega) (ev_ret _)))), .inr ⟨b1, by omega, k1, k2⟩⟩
theorem ExactTreesOn_pure : laws_FnExactTreesOn.PureS := by
  intro L f X facts l hL hf hX w hl
  suffices h : Evp fun k => laws_FnExactTreesOn.Good k L f X facts l from h.get
  unfold laws_FnExactTreesOn.Good
  refine .sz (sz_graph (by omega) (by omega) ⟨hL.1, fun x hx => (hL.2 x hx).1⟩ ⟨hX.1, fun x hx => (hX.2 x hx).1⟩) fun r1 a1 b1 k1 => .sz (sz_trees a1 (by omega) hl.1) fun r2 a2 b2 k2 => ?_
  obtain ⟨k3, k4⟩ := k1
  have hl' : (l.map cTree).length ≤ 1048576 := by simpa using k2
  have hlen := treesOnP_len L f X facts (l.map cTree) k3.1
  have hto : Ev (fun k => laws_toGraph.f k L f X) (L, f, X) := by
    unfold laws_toGraph.f
    exact ev_bind (laws_toIntSS_ev L k3) (ev_bind (laws_toIntSS_ev X k4) (ev_ret _))
  have heq : Ev (fun k => laws_eqGraph.f k L f X L f X) true := by
    unfold laws_eqGraph.f
    exact ev_bind (laws_eqIntSS_ev L k3) (ev_pos rfl (ev_pos rfl (ev_bind (laws_eqIntSS_ev X k4) (ev_pos rfl (ev_ret _)))))
  exact .ex (L, f, X) (.fact hto (.and (.of ⟨k3, k4⟩) (.ex _ (.fact (laws_toTreeS_ev l k2) (.and (.of hl') (.ex _ (.fact (spec_TreesOn_ev f facts k3 k4 hl') (.fact (impl_TreesOn_ev f facts k3 k4 hl')
    (.fact (laws_eqIntS_ev _ (Nat.le_trans hlen (by decide))) (.fact heq (.fact (laws_eqTreeS_ev _ hl') (.marked _ (Nat.le_trans hlen (by decide))))))))))))))
end Go.Proofs.Ytikjlbanfbkhmaa.PA
namespace Go.Proofs.Ytikjlbanfbkhmaa.Pure
theorem FnExactTreesOn : Go.Proofs.Ytikjlbanfbkhmaa.PA.laws_FnExactTreesOn.PureS := Go.Proofs.Ytikjlbanfbkhmaa.PA.ExactTreesOn_pure
end Go.Proofs.Ytikjlbanfbkhmaa.Pure
end
