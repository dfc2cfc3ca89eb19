/- The plain side: what the Lean functions compute, without Go and memory; each theorem under the conditions that it names. -/
import Derived.Test.YtigbbefdndcmbaaProg
import Derived.Below
import Derived.Deep.Draws
import Derived.Deep.AppendLies
import Derived.Maps.AppendAt
import Derived.OwnWalk
import Derived.Laws.BytesArg
import Derived.Laws.MakeOwn
import Derived.Laws.OwnMore
import Derived.Deep.OwnRows
import Derived.Tactics
import Derived.Lib.ConvBytes
import Derived.Laws.Slices
import Derived.WalkKit
import Derived.KernelRfl
import Derived.RowKit3
import Derived.Deep.LoopGhost
import Derived.Deep.QuietTactic
import Derived.BigQuiet
import Derived.WideLaws
import Derived.Deep.DeepCutAuto
import Derived.Deep.CutBlock
import Derived.Deep.RegionHeld3
import Derived.Laws.Rows
import Derived.Lib.AppendStr
import Derived.ArgAppend
import Derived.Laws.IdiomCopy
import Derived.OrdersHeld
import Derived.Laws.BitsLemmas
import Derived.RowKit
import Derived.Laws.StructEq
import Derived.Lib.SliceRun
import Derived.WalkSpells
import Derived.ChangeArms
import Derived.ChangeSlices
import Derived.Deep.Slices
import Derived.Test.YtigbbefdndcmbaaKDa308213fcb
section
namespace Go.Proofs.Ytigbbefdndcmbaa.PA
open Go.RowKit Go.Proofs.YtigbbefdndcmbaaW.PrintWords
def okLAnd (y : LAnd) : Prop := (Lit.int .i64 y.f0).wf = true ∧ (Lit.int .i64 y.f1).wf = true
def okLCircuit (y : LCircuit) : Prop := (Lit.int .i64 y.f0).wf = true ∧ (y.f1.length ≤ 9223372036854775807 ∧ ∀ x0 ∈ y.f1, okLAnd x0)
def laws_FnExactClausesOf.Good (k : Nat) (a0_0 : Int) (l0_1 : List LAnd) (a1 : Int) : Prop :=
  ∃ (t_1 : Int), laws_szCircuit.f a0_0 l0_1 1048576 = some t_1 ∧ (t_1 < 0 ∨ ∃ (b_1 : (Int × List IAnd)), laws_toCircuit.f k a0_0 l0_1 = some b_1 ∧ (b_1.2.length ≤ 1048576) ∧ ∃ (w_1 : (Int × List (List Int)) × Bool), spec_ClausesOf.f k b_1.1 b_1.2 a1 = some w_1 ∧ impl_ClausesOf.f k b_1.1 b_1.2 a1 = some w_1 ∧ laws_eqClauses.f k w_1.1.1 w_1.1.2 w_1.1.1 w_1.1.2 = some true ∧ laws_eqCircuit.f k b_1.1 b_1.2 b_1.1 b_1.2 = some true ∧ ∃ (m_1 : Int), ∃ (w_2 : List (List Int)), laws_markIntSS.f k w_1.1.2 1 = some (m_1, w_2) ∧ 0 ≤ m_1 ∧ w_1.1.2.length ≤ 9223372036854775807 ∧ laws_heldClauses.f k w_1.1.1 w_2 1 = some m_1 ∧ True)
def laws_FnExactClausesOf.PureS : Prop := ∀ (a0_0 : Int) (l0_1 : List LAnd) (a1 : Int), (Lit.int .i64 a0_0).wf = true → (l0_1.length ≤ 9223372036854775807 ∧ ∀ x0 ∈ l0_1, okLAnd x0) → (Lit.int .i64 a1).wf = true → ∃ k, laws_FnExactClausesOf.Good k a0_0 l0_1 a1
end Go.Proofs.Ytigbbefdndcmbaa.PA
end
section
set_option linter.unusedVariables false
set_option linter.unusedSimpArgs false
namespace Go.Proofs.Ytigbbefdndcmbaa.PA
open Go.RowKit Go.Proofs.YtigbbefdndcmbaaW.PrintWords
theorem ev_ret {α : Type} (r : α) : Ev (fun _ => some r) r := Ev.now r
theorem ev_pos {α : Type} {c : Prop} [Decidable c] {f g : Nat → Option α} {r : α} (h : c) (k : Ev f r) : Ev (fun n => if c then f n else g n) r := by
  simpa [h] using k
theorem ev_neg {α : Type} {c : Prop} [Decidable c] {f g : Nat → Option α} {r : α} (h : ¬ c) (k : Ev g r) : Ev (fun n => if c then f n else g n) r := by
  simpa [h] using k
theorem ev_bind {α β : Type} {g : Nat → Option α} {f : Nat → α → Option β} {a : α} {r : β} (h : Ev g a) (k : Ev (fun n => f n a) r) : Ev (fun n => (g n).bind (fun t => f n t)) r := Ev.bind h k
theorem ev_fix {α : Type} {o : Option α} {r : α} (h : o = some r) : Ev (fun _ => o) r := ⟨0, fun _ _ => h⟩
theorem ev_eq {α : Type} {g : Nat → Option α} {r r' : α} (h : Ev g r) (e : r = r') : Ev g r' := e ▸ h
theorem ev_loop {α ρ : Type} (L : Nat → Int → Option ρ) (xs : List α) (res : List α → ρ) (hend : Ev (fun k => L k (xs.length : Int)) (res []))
    (hstep : ∀ (n : Nat) (x : α) (r : List α), n < xs.length → xs[n]? = some x → xs.drop n = x :: r → r = xs.drop (n + 1) → Ev (fun k => L k ((n + 1 : Nat) : Int)) (res r) → Ev (fun k => L k (n : Int)) (res (x :: r))) :
    Ev (fun k => L k 0) (res xs) := by
  have h : ∀ d n : Nat, xs.length - n = d → n ≤ xs.length → Ev (fun k => L k (n : Int)) (res (xs.drop n)) := by
    intro d
    induction d with
    | zero =>
      intro n h1 h2
      have : n = xs.length := by omega
      subst this
      rw [List.drop_length]
      exact hend
    | succ d ih =>
      intro n h1 h2
      have hn : n < xs.length := by omega
      have e := List.drop_eq_getElem_cons hn
      rw [e]
      exact hstep n _ _ hn (List.getElem?_eq_getElem hn) e rfl (ih (n + 1) (by omega) (by omega))
  have := h xs.length 0 (by omega) (by omega)
  simpa using this
theorem wrap_in {x : Int} (h0 : -9223372036854775808 ≤ x) (h1 : x ≤ 9223372036854775807) : wrap64 x = x := by unfold wrap64; omega
theorem wrap_nat {n m : Nat} (h : n < m) (hm : m ≤ 9223372036854775807) : wrap64 ((n : Int) + 1) = ((n + 1 : Nat) : Int) := by unfold wrap64; omega
theorem getD_of {α : Type} {xs : List α} {n : Nat} {x d : α} (h : xs[n]? = some x) : xs.getD (n : Int).toNat d = x := by
  simp [List.getD_eq_getElem?_getD, h]
theorem ev_fill {α β : Type} {da : α} {db : β} (L : Nat → List β → Int → Option (List β)) (F : Nat → α → Option β) (xs : List α) (g : α → β) (hl : xs.length ≤ 4611686018427387904)
    (hL : ∀ k ys i, L (k + 1) ys i = if i < (xs.length : Int) then (if 0 ≤ i then ((F k (xs.getD i.toNat da)).bind fun b => if i < (ys.length : Int) then L k (ys.set i.toNat b) (wrap64 (i + 1)) else none) else none) else some ys)
    (hF : ∀ x ∈ xs, Ev (fun k => F k x) (g x)) : Ev (fun k => L k (List.replicate xs.length db) 0) (xs.map g) := by
  have h : ∀ d n : Nat, xs.length - n = d → n ≤ xs.length → Ev (fun k => L k ((xs.take n).map g ++ List.replicate (xs.length - n) db) (n : Int)) (xs.map g) := by
    intro d
    induction d with
    | zero =>
      intro n h1 h2
      have : n = xs.length := by omega
      subst this
      refine Ev.step (fun k => hL k _ _) (ev_neg (by omega) ?_)
      simpa using ev_ret (xs.map g)
    | succ d ih =>
      intro n h1 h2
      have hn : n < xs.length := by omega
      refine Ev.step (fun k => hL k _ _) (ev_pos (by omega) (ev_pos (by omega) ?_))
      have hx := List.getElem?_eq_getElem hn
      rw [getD_of hx]
      refine ev_bind (hF _ (List.getElem_mem hn)) (ev_pos (by simp; omega) ?_)
      rw [wrap_nat hn (by omega)]
      have e : ((xs.take n).map g ++ List.replicate (xs.length - n) db).set (n : Int).toNat (g xs[n]) = (xs.take (n + 1)).map g ++ List.replicate (xs.length - (n + 1)) db := by
        rw [show xs.length - n = (xs.length - (n + 1)) + 1 by omega, List.replicate_succ, List.take_succ_eq_append_getElem hn, List.map_append]
        simp [List.set_append, Nat.min_eq_left (Nat.le_of_lt hn)]
      rw [e]
      exact ih (n + 1) (by omega) (by omega)
  have := h xs.length 0 (by omega) (by omega)
  simpa using this
theorem ev_same {α : Type} {da : α} (L : Nat → Int → Option Bool) (F : Nat → α → α → Option Bool) (xs ys : List α) (hl : xs.length ≤ 4611686018427387904) (hxy : xs = ys)
    (hL : ∀ k i, L (k + 1) i = if i < (xs.length : Int) then (if 0 ≤ i then (if i < (ys.length : Int) then ((F k (xs.getD i.toNat da) (ys.getD i.toNat da)).bind fun t => if t = true then L k (wrap64 (i + 1)) else some false) else none) else none) else some true)
    (hF : ∀ x ∈ xs, Ev (fun k => F k x x) true) : Ev (fun k => L k 0) true := by
  subst hxy
  refine ev_loop L xs (fun _ => true) (Ev.step (fun k => hL k _) (ev_neg (by omega) (ev_ret _))) ?_
  intro n x r hn hx _ _ ih
  refine Ev.step (fun k => hL k _) (ev_pos (by omega) (ev_pos (by omega) (ev_pos (by omega) ?_)))
  rw [getD_of hx]
  refine ev_bind (hF x (List.mem_of_getElem? hx)) (ev_pos rfl ?_)
  rw [wrap_nat hn (by omega)]
  exact ih
def SzOk (f : Nat → Option Int) (a : Int) (P : Prop) : Prop := ∃ r, Ev f r ∧ (r < 0 ∨ (0 ≤ r ∧ r ≤ a ∧ P))
theorem sz_len {n : Nat} {a : Int} (h0 : 0 ≤ a) (h1 : a ≤ 1048576) (hn : n ≤ 9223372036854775807) : SzOk (fun _ => if wrap64 (a - (n : Int)) < 0 then some (-1) else some (wrap64 (a - (n : Int)))) a (n ≤ 1048576) := by
  have w : wrap64 (a - (n : Int)) = a - (n : Int) := wrap_in (by omega) (by omega)
  rw [w]
  by_cases h : a - (n : Int) < 0
  · exact ⟨-1, ev_pos h (ev_ret _), .inl (by omega)⟩
  · exact ⟨a - n, ev_neg h (ev_ret _), .inr ⟨by omega, by omega, by omega⟩⟩
theorem laws_eqIntS_ev (l : List Int) (h : l.length ≤ 4611686018427387904) : Ev (fun k => laws_eqIntS.f k l l) true := by
  unfold laws_eqIntS.f
  refine ev_pos rfl ?_
  exact ev_same (da := (0 : Int)) (fun k i => laws_eqIntS.l0 k l l i) (fun k x y => if x = y then some true else some false) l l h rfl (fun k i => by rw [laws_eqIntS.l0]; simp [rd]) (fun x _ => ev_pos rfl (ev_ret _))
def inR (n lo hi : Int) : Bool := decide (lo ≤ n ∧ n ≤ hi)
theorem inR_iff {n lo hi : Int} : inR n lo hi = true ↔ lo ≤ n ∧ n ≤ hi := by simp [inR]
theorem spec_l1In_eq (n lo hi : Int) : spec_l1In.f n lo hi = some (inR n lo hi) := by
  unfold spec_l1In.f inR
  by_cases h : n ≥ lo
  · rw [if_pos h]; congr 1; simp; omega
  · rw [if_neg h]; congr 1; simp; omega
theorem impl_in_eq (n lo hi : Int) : impl_in.f n lo hi = some (inR n lo hi) := by
  unfold impl_in.f inR
  by_cases h : n ≥ lo
  · rw [if_pos h]; congr 1; simp; omega
  · rw [if_neg h]; congr 1; simp; omega
def Evp (G : Nat → Prop) : Prop := ∃ n, ∀ k, n ≤ k → G k
theorem Evp.get {G : Nat → Prop} (h : Evp G) : ∃ k, G k := let ⟨n, h⟩ := h; ⟨n, h n (Nat.le_refl _)⟩
theorem Evp.of {P : Prop} (h : P) : Evp fun _ => P := ⟨0, fun _ _ => h⟩
theorem Evp.and {G H : Nat → Prop} (g : Evp G) (h : Evp H) : Evp fun k => G k ∧ H k := by
  obtain ⟨n, g⟩ := g
  obtain ⟨m, h⟩ := h
  exact ⟨max n m, fun k hk => ⟨g k (by omega), h k (by omega)⟩⟩
theorem Evp.fact {α : Type} {f : Nat → Option α} {r : α} {H : Nat → Prop} (g : Ev f r) (h : Evp H) : Evp fun k => f k = some r ∧ H k := Evp.and (G := fun k => f k = some r) g h
theorem Evp.inl {G H : Nat → Prop} (g : Evp G) : Evp fun k => G k ∨ H k := let ⟨n, g⟩ := g; ⟨n, fun k hk => .inl (g k hk)⟩
theorem Evp.inr {G H : Nat → Prop} (g : Evp H) : Evp fun k => G k ∨ H k := let ⟨n, g⟩ := g; ⟨n, fun k hk => .inr (g k hk)⟩
theorem Evp.ex {α : Type} {G : Nat → α → Prop} (a : α) (g : Evp fun k => G k a) : Evp fun k => ∃ x, G k x := let ⟨n, g⟩ := g; ⟨n, fun k hk => ⟨a, g k hk⟩⟩
theorem Evp.guard {P : Prop} {H : Nat → Prop} (h : ¬ P → Evp H) : Evp fun k => P ∨ H k := by
  by_cases p : P
  · exact .inl (.of p)
  · exact .inr (h p)
theorem Evp.sz {f : Nat → Option Int} {a : Int} {P : Prop} (hf : SzOk f a P) {H : Nat → Int → Prop} (h : ∀ r, 0 ≤ r → r ≤ a → P → Evp fun k => H k r) : Evp fun k => ∃ t : Int, f k = some t ∧ (t < 0 ∨ H k t) := by
  obtain ⟨r, h1, h2⟩ := hf
  refine .ex r (.fact h1 ?_)
  rcases h2 with h2 | ⟨h2, h3, h4⟩
  · exact .inl (.of h2)
  · exact .inr (h r h2 h3 h4)
def fromP (n : Int) : Nat → List Int
  | 0 => []
  | m + 1 => n :: fromP (n + 1) m
theorem fromP_length (n : Int) (m : Nat) : (fromP n m).length = m := by
  induction m generalizing n with
  | zero => rfl
  | succ m ih => simp [fromP, ih]
theorem fromP_snoc (n : Int) (m : Nat) : fromP n (m + 1) = fromP n m ++ [n + m] := by
  induction m generalizing n with
  | zero => simp [fromP]
  | succ m ih =>
    rw [fromP, ih (n + 1), fromP, List.cons_append]
    congr 3
    push_cast
    omega
theorem laws_markIntS_ev (w : List Int) (n : Int) (h0 : -4611686018427387904 ≤ n ∧ n ≤ 4611686018427387904) (hl : w.length ≤ 4503599627370496) : Ev (fun k => laws_markIntS.f k w n) (n + w.length, fromP n w.length) := by
  unfold laws_markIntS.f
  have key : ∀ d i : Nat, w.length - i = d → i ≤ w.length → Ev (fun k => laws_markIntS.l0 k (fromP n i ++ w.drop i) (n + i) (i : Int)) (n + w.length, fromP n w.length) := by
    intro d
    induction d with
    | zero =>
      intro i h1 h2
      have : i = w.length := by omega
      subst this
      refine Ev.step (fun k => by rw [laws_markIntS.l0]) (ev_neg (by simp [fromP_length]) ?_)
      rw [List.drop_length, List.append_nil]
      exact ev_ret _
    | succ d ih =>
      intro i h1 h2
      have hi : i < w.length := by omega
      refine Ev.step (fun k => by rw [laws_markIntS.l0]) (ev_pos (by simp [fromP_length]; omega) (ev_pos (by omega) ?_))
      rw [wrap_nat hi (by omega), show wrap64 (n + (i : Int) + 1) = n + ((i + 1 : Nat) : Int) by rw [wrap_in (by omega) (by omega)]; push_cast; omega]
      have e : (fromP n i ++ w.drop i).set ((i : Int)).toNat (n + i) = fromP n (i + 1) ++ w.drop (i + 1) := by
        rw [fromP_snoc, List.set_append, if_neg (by simp [fromP_length]), fromP_length, show ((i : Int)).toNat - i = 0 by omega, List.drop_eq_getElem_cons hi, List.set_cons_zero, List.append_assoc]
        rfl
      rw [e]
      exact ih (i + 1) (by omega) (by omega)
  have := key w.length 0 (by omega) (by omega)
  simpa [fromP] using this
theorem fromP_at (n : Int) : ∀ (m i : Nat), i < m → rd (fromP n m) (i : Int) = n + i := by
  intro m
  induction m generalizing n with
  | zero => intro i h; omega
  | succ m ih =>
    intro i h
    cases i with
    | zero => simp [fromP, rd]
    | succ i =>
      have := ih (n + 1) i (by omega)
      show (fromP n (m + 1)).getD _ 0 = _
      simp only [fromP]
      rw [show (((i + 1 : Nat) : Int)).toNat = i + 1 by omega, List.getD_cons_succ]
      have e : (fromP (n + 1) m).getD i 0 = n + 1 + i := by simpa [rd] using this
      rw [e]
      push_cast
      omega
theorem laws_heldIntS_ev (n : Int) (m : Nat) (h0 : -4611686018427387904 ≤ n ∧ n ≤ 4611686018427387904) (hl : m ≤ 4503599627370496) : Ev (fun k => laws_heldIntS.f k (fromP n m) n) (n + m) := by
  unfold laws_heldIntS.f
  have key : ∀ d i : Nat, m - i = d → i ≤ m → Ev (fun k => laws_heldIntS.l0 k (fromP n m) (n + i) (i : Int)) (n + m) := by
    intro d
    induction d with
    | zero =>
      intro i h1 h2
      have : i = m := by omega
      subst this
      refine Ev.step (fun k => by rw [laws_heldIntS.l0]) (ev_neg (by simp [fromP_length]) (ev_ret _))
    | succ d ih =>
      intro i h1 h2
      have hi : i < m := by omega
      refine Ev.step (fun k => by rw [laws_heldIntS.l0]) (ev_pos (by rw [fromP_length]; omega) (ev_pos (by omega) (ev_pos (fromP_at n m i hi) ?_)))
      rw [wrap_nat hi (by omega), show wrap64 (n + (i : Int) + 1) = n + ((i + 1 : Nat) : Int) by rw [wrap_in (by omega) (by omega)]; push_cast; omega]
      exact ih (i + 1) (by omega) (by omega)
  have := key m 0 (by omega) (by omega)
  simpa using this
def totalN : List (List Int) → Nat
  | [] => 0
  | x :: r => x.length + totalN r
def fromRows (n : Int) : List (List Int) → List (List Int)
  | [] => []
  | x :: r => fromP n x.length :: fromRows (n + x.length) r
theorem totalN_le {b : Nat} : ∀ (w : List (List Int)), (∀ x ∈ w, x.length ≤ b) → totalN w ≤ w.length * b
  | [], _ => by simp [totalN]
  | x :: r, h => by
    have h1 := totalN_le r fun y hy => h y (List.mem_cons_of_mem _ hy)
    have h2 := h x List.mem_cons_self
    rw [totalN, List.length_cons, Nat.add_mul]
    omega
theorem laws_markIntSS_ev : ∀ (w : List (List Int)) (n : Int), 0 ≤ n → n + totalN w ≤ 4503599627370496 → Ev (fun k => laws_markIntSS.f k w n) (n + totalN w, fromRows n w)
  | [], n, _, _ => by
    simp only [laws_markIntSS.f, fromRows, totalN]
    exact ev_eq (ev_ret _) (by simp)
  | x :: r, n, h0, h1 => by
    simp only [laws_markIntSS.f, fromRows]
    simp only [totalN] at h1
    push_cast at h1
    refine ev_bind (laws_markIntS_ev x n (by omega) (by omega)) (ev_bind (laws_markIntSS_ev r (n + x.length) (by omega) (by omega)) (ev_eq (ev_ret _) ?_))
    simp only [totalN]
    push_cast
    congr 1
    omega
theorem laws_heldIntSS_ev (w : List (List Int)) (n : Int) (h0 : 0 ≤ n) (h1 : n + totalN w ≤ 4503599627370496) (hl : w.length ≤ 4503599627370496) : Ev (fun k => laws_heldIntSS.f k (fromRows n w) n) (n + totalN w) := by
  unfold laws_heldIntSS.f
  have key : ∀ (r : List (List Int)) (a : Int) (pre : List (List Int)), fromRows n w = pre ++ fromRows a r → 0 ≤ a → a + totalN r ≤ 4503599627370496 → pre.length + r.length ≤ 4503599627370496 → Ev (fun k => laws_heldIntSS.l0 k (fromRows n w) a (pre.length : Int)) (a + totalN r) := by
    intro r
    induction r with
    | nil =>
      intro a pre e _ _ _
      refine Ev.step (fun k => by rw [laws_heldIntSS.l0]) ?_
      have : (fromRows n w).length = pre.length := by rw [e]; simp [fromRows]
      exact ev_neg (by omega) (ev_eq (ev_ret _) (by simp [totalN]))
    | cons x r ih =>
      intro a pre e ha hb hc
      simp only [totalN] at hb
      simp only [List.length_cons] at hc
      push_cast at hb
      have hlen : (fromRows n w).length = pre.length + 1 + (fromRows (a + x.length) r).length := by rw [e]; simp [fromRows]; omega
      have hx : rd_Lint (fromRows n w) (pre.length : Int) = fromP a x.length := by
        show (fromRows n w).getD _ [] = _
        rw [e]
        simp [fromRows, List.getD_eq_getElem?_getD]
      refine Ev.step (fun k => by rw [laws_heldIntSS.l0]) ?_
      rw [hx, wrap_nat (n := pre.length) (m := pre.length + 1) (by omega) (by omega)]
      refine ev_pos (by omega) (ev_pos (by omega) (ev_bind (laws_heldIntS_ev a x.length (by omega) (by omega)) (ev_neg (by omega) ?_)))
      have := ih (a + x.length) (pre ++ [fromP a x.length]) (by rw [e]; simp [fromRows]) (by omega) (by omega) (by simp; omega)
      rw [List.length_append, List.length_singleton] at this
      refine ev_eq this ?_
      simp only [totalN]
      push_cast
      omega
  exact key w n [] rfl h0 h1 (by simpa using hl)
theorem laws_eqIntSS_ev (l : List (List Int)) (h : l.length ≤ 1048576 ∧ ∀ x ∈ l, x.length ≤ 1048576) : Ev (fun k => laws_eqIntSS.f k l l) true := by
  unfold laws_eqIntSS.f
  refine ev_pos rfl ?_
  exact ev_same (da := []) (fun k i => laws_eqIntSS.l0 k l l i) (fun k x y => laws_eqIntS.f k x y) l l (by omega) rfl (fun k i => by rw [laws_eqIntSS.l0]; rfl) (fun x hx => laws_eqIntS_ev x (by have := h.2 x hx; omega))
def valOk (k v : Int) : Prop := (k = 1 → -9999 ≤ v ∧ v ≤ 9999) ∧ (k = 2 → 0 ≤ v ∧ v ≤ 1)
structure ValsOk (ks vs : List Int) : Prop where
  len : vs.length = ks.length
  at_ : ∀ i : Nat, i < ks.length → valOk (ks.getD i 0) (vs.getD i 0)
theorem ValsOk.nil : ValsOk [] [] := ⟨rfl, fun i h => absurd h (Nat.not_lt_zero i)⟩
theorem ValsOk.rd {ks vs : List Int} (h : ValsOk ks vs) {i : Int} (h0 : inR i 0 ((ks.length : Int) - 1) = true) : valOk (rd ks i) (rd vs i) := by
  have := inR_iff.1 h0
  have e := h.at_ i.toNat (by omega)
  exact e
theorem ValsOk.push {ks vs : List Int} (h : ValsOk ks vs) {k v : Int} (hv : valOk k v) : ValsOk (ks ++ [k]) (vs ++ [v]) := by
  refine ⟨by simp [h.len], fun i hi => ?_⟩
  rw [List.length_append, List.length_singleton] at hi
  by_cases e : i < ks.length
  · have := h.at_ i e
    rw [List.getD_eq_getElem?_getD, List.getD_eq_getElem?_getD] at this ⊢
    rw [List.getElem?_append_left e, List.getElem?_append_left (by rw [h.len]; exact e)]
    exact this
  · have e' : i = ks.length := by omega
    subst e'
    rw [List.getD_eq_getElem?_getD, List.getD_eq_getElem?_getD, List.getElem?_append_right (Nat.le_refl _), List.getElem?_append_right (by rw [h.len]; exact Nat.le_refl _), h.len]
    simpa using hv
def absP (n : Int) : Int := if n < 0 then -n else n
def litOk (atoms x : Int) : Bool := decide (x ≠ 0) && inR x (-atoms) atoms
theorem litOk_in {atoms x : Int} (h : litOk atoms x = true) : x ≠ 0 ∧ -atoms ≤ x ∧ x ≤ atoms := by
  unfold litOk at h
  rw [Bool.and_eq_true, decide_eq_true_eq, inR_iff] at h
  exact h
theorem abs_le {n : Int} : 0 ≤ absP n ∧ (absP n = n ∨ absP n = -n) := by unfold absP; split <;> omega
theorem spec_l11Abs_eq {n : Int} (h : -700 ≤ n ∧ n ≤ 700) : spec_l11Abs.f n = some (absP n) := by
  unfold spec_l11Abs.f absP
  rw [wrap_in (x := -n) (by omega) (by omega)]
  split <;> rfl
theorem impl_atomOf_eq {n : Int} (h : -700 ≤ n ∧ n ≤ 700) : impl_atomOf.f n = some (absP n) := by
  unfold impl_atomOf.f absP mx
  rw [wrap_in (x := -n) (by omega) (by omega)]
  split <;> split <;> first | rfl | (congr 1; omega)
end Go.Proofs.Ytigbbefdndcmbaa.PA
end
section
set_option linter.unusedVariables false
set_option linter.unusedSimpArgs false
namespace Go.Proofs.Ytigbbefdndcmbaa.PA
open Go.RowKit Go.Proofs.YtigbbefdndcmbaaW.PrintWords
def Tot {α : Type} (g : Nat → Option α) (Q : α → Prop) : Prop := ∃ r, Ev g r ∧ Q r
section
variable {α β : Type} {Q : α → Prop}
theorem tot_ret {r : α} (h : Q r) : Tot (fun _ => some r) Q := ⟨r, ev_ret r, h⟩
theorem tot_pos {c : Prop} [Decidable c] {f g : Nat → Option α} (h : c) (k : Tot f Q) : Tot (fun n => if c then f n else g n) Q := by
  obtain ⟨r, k, q⟩ := k
  exact ⟨r, ev_pos h k, q⟩
end
end Go.Proofs.Ytigbbefdndcmbaa.PA
end
section
set_option linter.unusedVariables false
set_option linter.unusedSimpArgs false
namespace Go.Proofs.Ytigbbefdndcmbaa.PA
open Go.RowKit Go.Proofs.YtigbbefdndcmbaaW.PrintWords
def ltL (x y : Int) : Bool := decide (absP x < absP y) || (decide (absP x = absP y) && decide (x < y))
theorem ltL_iff {x y : Int} : ltL x y = true ↔ absP x < absP y ∨ (absP x = absP y ∧ x < y) := by unfold ltL; simp
theorem ltL_not {x y : Int} : ltL x y = false ↔ ¬ (absP x < absP y ∨ (absP x = absP y ∧ x < y)) := by rw [← ltL_iff, Bool.not_eq_true]
def Lit7 (x : Int) : Prop := -700 ≤ x ∧ x ≤ 700
theorem rd_mid (A T : List Int) (x : Int) : rd (A ++ x :: T) (A.length : Int) = x := by
  show List.getD _ _ _ = _
  simp [List.getD_eq_getElem?_getD]
def OkL (A : List Int) : Prop := A.Pairwise fun x y => ltL y x = false
theorem ltL_asym {x y : Int} (h : ltL x y = true) : ltL y x = false := by
  rw [ltL_iff] at h
  rw [ltL_not]
  omega
def keepI (l : List Int) (i : Nat) : Bool := decide (i = 0) || decide (l.getD i 0 ≠ l.getD (i - 1) 0)
def cI (l : List Int) : Nat → List Int
  | 0 => []
  | n + 1 => cI l n ++ if keepI l n then [l.getD n 0] else []
def compL (l : List Int) : List Int := cI l l.length
theorem cI_len (l : List Int) : ∀ n, (cI l n).length ≤ n
  | 0 => Nat.le_refl _
  | n + 1 => by
    have := cI_len l n
    unfold cI
    split <;> simp <;> omega
theorem rdN {l : List Int} {n : Nat} : rd l (n : Int) = l.getD n 0 := rfl
theorem compact_in (l : List Int) (b : Nat) (hb : 1 ≤ b) (hl : l.length ≤ 4611686018427387904) : ∀ (d : Nat) (row : List Int) (k k2 : Nat), l.length - (b + k2) = d → b + k2 ≤ l.length → row.length = l.length → 1 ≤ k2 → k + 1 ≤ b + k2 → k = (cI l (b + k2)).length → row.take k = cI l (b + k2) →
    (∀ i, b + k2 ≤ i + 1 → row.getD i 0 = l.getD i 0) → Ev (fun f => slices_Compact_int_int.l2 f row (k : Int) (k2 : Int) (b : Int)) (compL l) := by
  intro d
  induction d with
  | zero =>
    intro row k k2 h1 h2 h3 h4 h5 h6 h7 h8
    have e : b + k2 = l.length := by omega
    refine Ev.step (fun f => by rw [slices_Compact_int_int.l2]) ?_
    refine ev_neg (by omega) (ev_pos (by omega) (ev_pos (by omega) (ev_pos (by omega) (ev_pos (by simp; omega) (ev_pos (by omega) (ev_pos (by simp; omega) (ev_eq (ev_ret _) ?_)))))))
    rw [Int.toNat_natCast, List.take_append_of_le_length (by rw [List.length_take]; omega), List.take_take, Nat.min_self, h7, e]
    rfl
  | succ d ih =>
    intro row k k2 h1 h2 h3 h4 h5 h6 h7 h8
    have hr1 : rd row ((b : Int) + (k2 : Int)) = l.getD (b + k2) 0 := by
      rw [show (b : Int) + (k2 : Int) = ((b + k2 : Nat) : Int) by omega, rdN]; exact h8 _ (by omega)
    have hr2 : rd row ((b : Int) + ((k2 - 1 : Nat) : Int)) = l.getD (b + k2 - 1) 0 := by
      rw [show (b : Int) + ((k2 - 1 : Nat) : Int) = ((b + k2 - 1 : Nat) : Int) by omega, rdN]; exact h8 _ (by omega)
    have hw : wrap64 ((k2 : Int) - 1) = ((k2 - 1 : Nat) : Int) := by rw [wrap_in (by omega) (by omega)]; omega
    have hlen := cI_len l (b + k2 + 1)
    refine Ev.step (fun f => by rw [slices_Compact_int_int.l2, hw, hr1, hr2, wrap_nat (n := k2) (m := 9223372036854775806) (by omega) (by omega), wrap_nat (n := k) (m := 9223372036854775806) (by omega) (by omega)]) ?_
    clear hw
    refine ev_pos (by omega) (ev_pos (by omega) (ev_pos (by omega) (ev_pos (by omega) (ev_pos (by omega) ?_))))
    have hstep : cI l (b + (k2 + 1)) = cI l (b + k2) ++ if keepI l (b + k2) then [l.getD (b + k2) 0] else [] := rfl
    have hk : keepI l (b + k2) = decide (l.getD (b + k2) 0 ≠ l.getD (b + k2 - 1) 0) := by
      unfold keepI
      rw [decide_eq_false (by omega : ¬ b + k2 = 0), Bool.false_or]
    by_cases c : l.getD (b + k2) 0 ≠ l.getD (b + k2 - 1) 0
    · rw [hk, if_pos (decide_eq_true c)] at hstep
      refine ev_pos c (ev_pos (by omega) (ev_pos (by omega) (ev_pos (by omega) (ev_pos (by omega) ?_))))
      refine ih (row.set (k : Int).toNat (l.getD (b + k2) 0)) (k + 1) (k2 + 1) (by omega) (by omega) (by rw [List.length_set]; exact h3) (by omega) (by omega) (by rw [hstep, List.length_append, ← h6]; rfl) ?_ (fun i hi => ?_)
      · rw [hstep, ← h7, Int.toNat_natCast, List.take_add_one, List.take_set_of_le (by omega)]
        congr 1
        rw [List.getElem?_set_self (by omega)]
        rfl
      · rw [Int.toNat_natCast, List.getD_eq_getElem?_getD, List.getElem?_set_ne (by omega), ← List.getD_eq_getElem?_getD]
        exact h8 i (by omega)
    · rw [hk, if_neg (by simpa using c), List.append_nil] at hstep
      exact ev_neg c (ih row k (k2 + 1) (by omega) (by omega) h3 (by omega) (by omega) (by rw [hstep]; exact h6) (by rw [hstep]; exact h7) (fun i hi => h8 i (by omega)))
theorem compact_ev (l : List Int) (hl : l.length ≤ 4611686018427387904) : Ev (fun f => slices_Compact_int_int.f f l) (compL l) := by
  have key : ∀ d n : Nat, l.length - n = d → 1 ≤ n → n ≤ l.length → cI l n = l.take n → Ev (fun f => slices_Compact_int_int.l1 f (n : Int) l) (compL l) := by
    intro d
    induction d with
    | zero =>
      intro n h1 h2 h3 h4
      have : n = l.length := by omega
      subst this
      refine Ev.step (fun f => by rw [slices_Compact_int_int.l1]) (ev_neg (by omega) (ev_eq (ev_ret _) ?_))
      unfold compL
      rw [h4, List.take_length]
    | succ d ih =>
      intro n h1 h2 h3 h4
      have hn : n < l.length := by omega
      have hw : wrap64 ((n : Int) - 1) = ((n - 1 : Nat) : Int) := by rw [wrap_in (by omega) (by omega)]; omega
      refine Ev.step (fun f => by rw [slices_Compact_int_int.l1, hw, rdN, rdN, wrap_nat hn (by omega)]) ?_
      clear hw
      have hstep : cI l (n + 1) = cI l n ++ if keepI l n then [l.getD n 0] else [] := rfl
      have hk : keepI l n = decide (l.getD n 0 ≠ l.getD (n - 1) 0) := by
        unfold keepI
        rw [decide_eq_false (by omega : ¬ n = 0), Bool.false_or]
      refine ev_pos (by omega) (ev_pos (by omega) (ev_pos (by omega) (ev_pos (by omega) (ev_pos (by omega) ?_))))
      by_cases c : l.getD n 0 = l.getD (n - 1) 0
      · rw [hk, if_neg (by simpa using c), List.append_nil] at hstep
        refine ev_pos c (ev_pos (by omega) (ev_pos (by omega) (ev_pos (by omega) ?_)))
        have := compact_in l n h2 hl (l.length - (n + 1)) l n 1 rfl (by omega) rfl (by omega) (by omega) (by rw [hstep, h4, List.length_take]; omega) (by rw [hstep, h4]) (fun i hi => rfl)
        exact this
      · rw [hk, if_pos (by simpa using c)] at hstep
        refine ev_neg c (ih (n + 1) (by omega) (by omega) (by omega) ?_)
        rw [hstep, h4, List.take_add_one, List.getElem?_eq_getElem hn]
        congr 1
        rw [List.getD_eq_getElem?_getD, List.getElem?_eq_getElem hn]
        rfl
  unfold slices_Compact_int_int.f
  by_cases c : l.length < 2
  · refine ev_pos (by omega) (ev_eq (ev_ret _) ?_)
    match l, c with
    | [], _ => rfl
    | [x], _ => rfl
    | x :: y :: r, c => simp only [List.length_cons] at c; omega
  · refine ev_neg (by omega) (key _ 1 rfl (by omega) (by omega) ?_)
    match l, c with
    | [], c => simp at c
    | x :: r, _ => rfl
theorem cI_mem (l : List Int) : ∀ n, n ≤ l.length → ∀ x, x ∈ cI l n ↔ x ∈ l.take n
  | 0, _, x => by simp [cI]
  | n + 1, h, x => by
    have ih := cI_mem l n (by omega) x
    have hn : n < l.length := by omega
    have hg : l.getD n 0 = l[n] := by rw [List.getD_eq_getElem?_getD, List.getElem?_eq_getElem hn]; rfl
    unfold cI
    rw [List.take_add_one, List.getElem?_eq_getElem hn, List.mem_append, List.mem_append, ih]
    by_cases c : keepI l n = true
    · rw [if_pos c, hg]; simp
    · rw [if_neg c]
      unfold keepI at c
      simp at c
      obtain ⟨c1, c2⟩ := c
      have hp : n - 1 < l.length := by omega
      have hm : x = l[n] → x ∈ l.take n := fun e => by
        rw [e, ← hg, List.getD_eq_getElem?_getD, c2, List.getElem?_eq_getElem hp]
        exact List.mem_take_iff_getElem.2 ⟨n - 1, by omega, rfl⟩
      constructor
      · rintro (h | h)
        · exact .inl h
        · simp at h
      · rintro (h | h)
        · exact .inl h
        · exact .inl (hm (by simpa using h))
theorem compL_mem {l : List Int} {x : Int} : x ∈ compL l ↔ x ∈ l := by
  unfold compL
  rw [cI_mem l l.length (Nat.le_refl _), List.take_length]
theorem cI_sorted (l : List Int) (ho : OkL l) : ∀ n, n ≤ l.length → (cI l n).Pairwise fun x y => ltL x y = true
  | 0, _ => .nil
  | n + 1, h => by
    have ih := cI_sorted l ho n (by omega)
    have hn : n < l.length := by omega
    have hg : l.getD n 0 = l[n] := by rw [List.getD_eq_getElem?_getD, List.getElem?_eq_getElem hn]; rfl
    unfold cI
    by_cases c : keepI l n = true
    · rw [if_pos c, hg, List.pairwise_append]
      refine ⟨ih, List.pairwise_singleton _ _, fun a ha b hb => ?_⟩
      obtain rfl := List.mem_singleton.1 hb
      have ha := (cI_mem l n (by omega) a).1 ha
      obtain ⟨i, hi, e⟩ := List.mem_take_iff_getElem.1 ha
      have hp : n - 1 < l.length := by omega
      have hne : l[n] ≠ l[n - 1] := by
        unfold keepI at c
        rw [Bool.or_eq_true, decide_eq_true_eq, decide_eq_true_eq] at c
        rcases c with c | c
        · omega
        · rw [hg, List.getD_eq_getElem?_getD, List.getElem?_eq_getElem hp] at c
          exact c
      have pw := List.pairwise_iff_getElem.1 ho
      have h1 : ltL l[n] l[n - 1] = false := pw (n - 1) n hp hn (by omega)
      have h2 : ltL l[n - 1] a = false := by
        by_cases z : i = n - 1
        · subst z
          rw [← e, ltL_not]; omega
        · rw [← e]; exact pw i (n - 1) (by omega) hp (by omega)
      rw [ltL_not] at h1 h2
      rw [ltL_iff]
      unfold absP at *
      omega
    · rw [if_neg c, List.append_nil]
      exact ih
theorem compL_sorted {l : List Int} (ho : OkL l) : (compL l).Pairwise fun x y => ltL x y = true := cI_sorted l ho l.length (Nat.le_refl _)
def mk (p : List Int) (a : Nat) : Int := if (a : Int) ∈ p then (a : Int) else if -(a : Int) ∈ p then -(a : Int) else 0
def coll (p : List Int) : Nat → List Int
  | 0 => []
  | n + 1 => coll p n ++ if mk p (n + 1) ≠ 0 then [mk p (n + 1)] else []
def marksL (m : Nat) (p : List Int) : List Int := (List.range m).map (mk p)
def NoC (p : List Int) : Prop := ∀ x ∈ p, -x ∉ p
instance noCdec (p : List Int) : Decidable (NoC p) := by unfold NoC; infer_instance
def clauseR (l : List Int) (atoms : Nat) : List Int × Bool := if NoC l then (coll l atoms, true) else ([], false)
theorem mk_cases (p : List Int) (a : Nat) : (mk p a = (a : Int) ∧ (a : Int) ∈ p) ∨ (mk p a = -(a : Int) ∧ -(a : Int) ∈ p) ∨ (mk p a = 0 ∧ (a : Int) ∉ p ∧ -(a : Int) ∉ p) := by
  unfold mk
  by_cases h : (a : Int) ∈ p
  · rw [if_pos h]; exact .inl ⟨rfl, h⟩
  · rw [if_neg h]
    by_cases h2 : -(a : Int) ∈ p
    · rw [if_pos h2]; exact .inr (.inl ⟨rfl, h2⟩)
    · rw [if_neg h2]; exact .inr (.inr ⟨rfl, h, h2⟩)
theorem marksL_len (m : Nat) (p : List Int) : (marksL m p).length = m := by simp [marksL]
theorem marksL_get {m : Nat} {p : List Int} {a : Nat} (h : a < m) : (marksL m p).getD a 0 = mk p a := by
  unfold marksL
  rw [List.getD_eq_getElem?_getD, List.getElem?_map, List.getElem?_range h]; rfl
theorem mk_ne {p : List Int} {x : Int} {b : Nat} (h : (b : Int) ≠ absP x) : mk (p ++ [x]) b = mk p b := by
  have h1 : (b : Int) ≠ x := by intro e; apply h; unfold absP; split <;> omega
  have h2 : -(b : Int) ≠ x := by intro e; apply h; unfold absP; split <;> omega
  unfold mk
  simp [h1, h2]
theorem marksL_set {m : Nat} {p : List Int} {x : Int} (h : absP x < m) (hx : mk (p ++ [x]) (absP x).toNat = x) : (marksL m p).set (absP x).toNat x = marksL m (p ++ [x]) := by
  have h0 := (abs_le (n := x)).1
  apply List.ext_getElem
  · simp [marksL]
  · intro i g1 g2
    rw [List.getElem_set]
    simp only [marksL, List.getElem_map, List.getElem_range]
    by_cases e : (absP x).toNat = i
    · subst e; rw [if_pos rfl, hx]
    · rw [if_neg e, mk_ne (by omega)]
theorem coll_len (p : List Int) : ∀ n, (coll p n).length ≤ n
  | 0 => Nat.le_refl _
  | n + 1 => by
    have := coll_len p n
    unfold coll
    split <;> simp <;> omega
theorem coll_ev {p : List Int} {atoms : Nat} (ha : atoms ≤ 700) : Ev (fun k => spec_l11Clause.l3 k [] 1 (atoms : Int) (marksL (atoms + 1) p)) (coll p atoms, true) := by
  have hl : ∀ n, (coll p n).length ≤ n := by
    intro n
    induction n with
    | zero => exact Nat.le_refl _
    | succ n ih => unfold coll; split <;> simp <;> omega
  have key : ∀ d n : Nat, atoms - n = d → n ≤ atoms → Ev (fun k => spec_l11Clause.l3 k (coll p n) ((n + 1 : Nat) : Int) (atoms : Int) (marksL (atoms + 1) p)) (coll p atoms, true) := by
    intro d
    induction d with
    | zero =>
      intro n h1 h2
      have : n = atoms := by omega
      subst this
      refine Ev.step (fun k => by rw [spec_l11Clause.l3]) (ev_neg (by omega) (ev_ret _))
    | succ d ih =>
      intro n h1 h2
      have hn := hl n
      have hr : rd (marksL (atoms + 1) p) ((n + 1 : Nat) : Int) = mk p (n + 1) := by rw [rdN]; exact marksL_get (by omega)
      have ih := ih (n + 1) (by omega) (by omega)
      refine Ev.step (fun k => by rw [spec_l11Clause.l3, hr, wrap_nat (n := n + 1) (m := 1000) (by omega) (by omega)]) ?_
      refine ev_pos (by omega) (ev_pos (by omega) (ev_pos (by rw [marksL_len]; omega) ?_))
      rw [show coll p (n + 1) = coll p n ++ if mk p (n + 1) ≠ 0 then [mk p (n + 1)] else [] from rfl] at ih
      by_cases c : mk p (n + 1) ≠ 0
      · rw [if_pos c] at ih
        exact ev_pos c (ev_pos (by omega) (ev_pos (by rw [marksL_len]; omega) (ev_pos (by omega) ih)))
      · rw [if_neg c, List.append_nil] at ih
        exact ev_neg c ih
  exact key atoms 0 (by omega) (by omega)
theorem spec_l11Clause_ev {l : List Int} {atoms : Nat} (ha : atoms ≤ 700) (hl : l.length ≤ 4611686018427387904) (hx : ∀ x ∈ l, litOk (atoms : Int) x = true) : Ev (fun k => spec_l11Clause.f k l (atoms : Int)) (clauseR l atoms) := by
  have key : ∀ (d : Nat) (p r : List Int), r.length = d → l = p ++ r → NoC p → Ev (fun k => spec_l11Clause.l1 k (marksL (atoms + 1) p) (p.length : Int) l (atoms : Int)) (clauseR l atoms) := by
    intro d
    induction d with
    | zero =>
      intro p r h1 h2 h3
      obtain rfl := List.eq_nil_of_length_eq_zero h1
      rw [List.append_nil] at h2
      subst h2
      refine Ev.step (fun k => by rw [spec_l11Clause.l1]) (ev_neg (by omega) (ev_eq (coll_ev ha) ?_))
      unfold clauseR
      rw [if_pos h3]
    | succ d ih =>
      intro p r h1 h2 h3
      obtain ⟨x, r, rfl⟩ : ∃ x r', r = x :: r' := by
        cases r with
        | nil => simp at h1
        | cons x r => exact ⟨x, r, rfl⟩
      have hlen : l.length = p.length + (r.length + 1) := by rw [h2]; simp
      have hxm : x ∈ l := by rw [h2]; simp
      have hlx := litOk_in (hx x hxm)
      have hA := abs_le (n := x)
      have hr : rd l (p.length : Int) = x := by rw [h2]; exact rd_mid _ _ _
      obtain ⟨a, haE⟩ : ∃ a : Nat, absP x = (a : Int) := ⟨(absP x).toNat, by omega⟩
      have hm : rd (marksL (atoms + 1) p) (a : Int) = mk p a := by rw [rdN]; exact marksL_get (by omega)
      have hx2 : x = (a : Int) ∨ x = -(a : Int) := by omega
      have hgo : (mk p a = 0 ∨ mk p a = x) → Ev (fun k => spec_l11Clause.j2 k l (atoms : Int) (marksL (atoms + 1) p) (p.length : Int) (a : Int)) (clauseR l atoms) := fun hz => by
        have hneg : -x ∉ p := by
          rcases mk_cases p a with ⟨e, m⟩ | ⟨e, m⟩ | ⟨e, m1, m2⟩
          · rcases hz with hz | hz
            · omega
            · intro hmem; exact h3 x (by rw [← hz, e]; exact m) hmem
          · rcases hz with hz | hz
            · omega
            · intro hmem; exact h3 x (by rw [← hz, e]; exact m) hmem
          · rcases hx2 with rfl | rfl
            · exact m2
            · rw [Int.neg_neg]; exact m1
        have hno : NoC (p ++ [x]) := by
          intro y hy hny
          rcases List.mem_append.1 hy with hy | hy
          · rcases List.mem_append.1 hny with hny | hny
            · exact h3 y hy hny
            · have := List.mem_singleton.1 hny
              exact hneg (by rw [← this, Int.neg_neg]; exact hy)
          · obtain rfl := List.mem_singleton.1 hy
            rcases List.mem_append.1 hny with hny | hny
            · exact hneg hny
            · have := List.mem_singleton.1 hny
              omega
        have hmx : mk (p ++ [x]) (absP x).toNat = x := by
          rw [haE, Int.toNat_natCast]
          rcases mk_cases (p ++ [x]) a with ⟨e, m⟩ | ⟨e, m⟩ | ⟨e, m1, m2⟩
          · rcases hx2 with h | h
            · omega
            · exact absurd (show -x ∈ p ++ [x] by rw [show -x = (a : Int) by omega]; exact m) (hno x (by simp))
          · rcases hx2 with h | h
            · exact absurd (show -x ∈ p ++ [x] by rw [show -x = -(a : Int) by omega]; exact m) (hno x (by simp))
            · omega
          · rcases hx2 with h | h
            · exact absurd (show (a : Int) ∈ p ++ [x] by rw [show (a : Int) = x by omega]; simp) m1
            · exact absurd (show -(a : Int) ∈ p ++ [x] by rw [show -(a : Int) = x by omega]; simp) m2
        have hset : (marksL (atoms + 1) p).set ((a : Int)).toNat x = marksL (atoms + 1) (p ++ [x]) := by rw [← haE]; exact marksL_set (by omega) hmx
        refine Ev.step (fun k => by rw [spec_l11Clause.j2, hr, hset, wrap_nat (n := p.length) (m := l.length) (by omega) (by omega)]) ?_
        refine ev_pos (by omega) (ev_pos (by omega) (ev_pos (by omega) (ev_pos (by rw [marksL_len]; omega) ?_)))
        have := ih (p ++ [x]) r (by simpa using h1) (by rw [h2]; simp) hno
        simpa using this
      refine Ev.step (fun k => by rw [spec_l11Clause.l1, hr, spec_l11Abs_eq (by omega), haE]) ?_
      refine ev_pos (by omega) (ev_pos (by omega) (ev_pos (by omega) (ev_bind (ev_ret _) (ev_pos (by omega) (ev_pos (by rw [marksL_len]; omega) ?_)))))
      rw [hm]
      by_cases c : mk p a ≠ 0
      · refine ev_pos c (ev_pos (by omega) (ev_pos (by rw [marksL_len]; omega) (ev_pos (by omega) (ev_pos (by omega) ?_))))
        by_cases e : mk p a ≠ x
        · refine ev_pos e (ev_eq (ev_ret _) ?_)
          unfold clauseR
          rw [if_neg]
          intro hno
          have hn : -x ∈ p := by
            rcases mk_cases p a with ⟨e1, m⟩ | ⟨e1, m⟩ | ⟨e1, m1, m2⟩
            · rcases hx2 with h | h
              · omega
              · rw [h, Int.neg_neg]; exact m
            · rcases hx2 with h | h
              · rw [h]; exact m
              · omega
            · omega
          exact hno x hxm (by rw [h2]; exact List.mem_append.2 (.inl hn))
        · exact ev_neg e (hgo (.inr (by simpa using e)))
      · exact ev_neg c (hgo (.inl (by simpa using c)))
  unfold spec_l11Clause.f
  rw [wrap_in (x := (atoms : Int) + 1) (by omega) (by omega)]
  refine ev_pos (by omega) (ev_pos (by omega) ?_)
  have := key l.length [] l rfl rfl (fun x hx => by cases hx)
  have e : List.replicate ((atoms : Int) + 1).toNat (0 : Int) = marksL (atoms + 1) [] := by
    unfold marksL
    rw [show ((atoms : Int) + 1).toNat = atoms + 1 by omega]
    apply List.ext_getElem
    · simp
    · intro i g1 g2
      simp [mk]
  rw [e]
  exact this
theorem coll_mem {p : List Int} (h0 : ∀ x ∈ p, x ≠ 0) (hn : NoC p) : ∀ n x, x ∈ coll p n ↔ x ∈ p ∧ absP x ≤ n
  | 0, x => by
    constructor
    · intro h; cases h
    · rintro ⟨h, e⟩
      have := h0 x h
      have := abs_le (n := x)
      omega
  | n + 1, x => by
    have ih := coll_mem h0 hn n x
    have hA := abs_le (n := x)
    unfold coll
    rw [List.mem_append, ih]
    constructor
    · rintro (⟨h, e⟩ | h)
      · exact ⟨h, by omega⟩
      · split at h
        · obtain rfl := List.mem_singleton.1 h
          rcases mk_cases p (n + 1) with ⟨e1, m⟩ | ⟨e1, m⟩ | ⟨e1, m1, m2⟩
          · rw [e1]; exact ⟨m, by unfold absP; split <;> omega⟩
          · rw [e1]; exact ⟨m, by unfold absP; split <;> omega⟩
          · contradiction
        · cases h
    · rintro ⟨h, e⟩
      by_cases z : absP x ≤ n
      · exact .inl ⟨h, z⟩
      · right
        have hx0 := h0 x h
        have e1 : mk p (n + 1) = x := by
          have hx2 : x = ((n + 1 : Nat) : Int) ∨ x = -((n + 1 : Nat) : Int) := by omega
          unfold mk
          rcases hx2 with h2 | h2
          · rw [if_pos (by rw [← h2]; exact h), h2]
          · have hnot : ((n + 1 : Nat) : Int) ∉ p := fun m => hn x h (by rw [h2, Int.neg_neg]; exact m)
            rw [if_neg hnot, if_pos (by rw [← h2]; exact h), h2]
        rw [e1, if_pos hx0]
        simp
theorem coll_sorted {p : List Int} (h0 : ∀ x ∈ p, x ≠ 0) (hn : NoC p) : ∀ n, (coll p n).Pairwise fun x y => absP x < absP y
  | 0 => .nil
  | n + 1 => by
    have ih := coll_sorted h0 hn n
    unfold coll
    split
    · rw [List.pairwise_append]
      refine ⟨ih, List.pairwise_singleton _ _, fun a ha b hb => ?_⟩
      obtain rfl := List.mem_singleton.1 hb
      have h1 := ((coll_mem h0 hn n a).1 ha).2
      have h2 : absP (mk p (n + 1)) = ((n + 1 : Nat) : Int) := by
        rcases mk_cases p (n + 1) with ⟨e1, m⟩ | ⟨e1, m⟩ | ⟨e1, m1, m2⟩
        · rw [e1]; unfold absP; split <;> omega
        · rw [e1]; unfold absP; split <;> omega
        · contradiction
      omega
    · rw [List.append_nil]; exact ih
theorem sorted_ext : ∀ {a b : List Int}, (a.Pairwise fun x y => ltL x y = true) → (b.Pairwise fun x y => ltL x y = true) → (∀ x, x ∈ a ↔ x ∈ b) → a = b
  | [], [], _, _, _ => rfl
  | [], y :: b, _, _, h => by have := (h y).2 (by simp); cases this
  | x :: a, [], _, _, h => by have := (h x).1 (by simp); cases this
  | x :: a, y :: b, h1, h2, h => by
    have h1' := List.pairwise_cons.1 h1
    have h2' := List.pairwise_cons.1 h2
    have irr : ∀ z, ltL z z = false := fun z => by rw [ltL_not]; omega
    have e : x = y := by
      have m1 := (h x).1 (by simp)
      have m2 := (h y).2 (by simp)
      rcases List.mem_cons.1 m1 with e | m1
      · exact e
      · rcases List.mem_cons.1 m2 with e | m2
        · exact e.symm
        · have a1 := h2'.1 x m1
          have a2 := h1'.1 y m2
          rw [ltL_asym a1] at a2
          cases a2
    subst e
    congr 1
    refine sorted_ext h1'.2 h2'.2 fun z => ?_
    have hz := h z
    rw [List.mem_cons, List.mem_cons] at hz
    constructor
    · intro m
      rcases hz.1 (.inr m) with rfl | m2
      · have := h1'.1 z m
        rw [irr] at this; cases this
      · exact m2
    · intro m
      rcases hz.2 (.inr m) with rfl | m2
      · have := h2'.1 z m
        rw [irr] at this; cases this
      · exact m2
theorem adj_iff {o : List Int} (hs : o.Pairwise fun x y => ltL x y = true) (h0 : ∀ x ∈ o, x ≠ 0) : NoC o ↔ ∀ i, 1 ≤ i → i < o.length → o.getD i 0 ≠ -(o.getD (i - 1) 0) := by
  have pw := List.pairwise_iff_getElem.1 hs
  have hg : ∀ {i}, (h : i < o.length) → o.getD i 0 = o[i] := fun h => by rw [List.getD_eq_getElem?_getD, List.getElem?_eq_getElem h]; rfl
  constructor
  · intro hn i h1 h2 e
    have h3 : i - 1 < o.length := by omega
    rw [hg h2, hg h3] at e
    exact hn o[i - 1] (List.getElem_mem _) (by rw [← e]; exact List.getElem_mem _)
  · intro h x hx hnx
    have main : ∀ y, y ∈ o → -y ∈ o → y < 0 → False := fun y hy hny hneg => by
      obtain ⟨i, hi, e1⟩ := List.mem_iff_getElem.1 hy
      obtain ⟨j, hj, e2⟩ := List.mem_iff_getElem.1 hny
      have b1 := abs_le (n := y)
      have b2 := abs_le (n := -y)
      have hij : i < j := by
        rcases Nat.lt_trichotomy i j with c | c | c
        · exact c
        · subst c; omega
        · have := pw j i hj hi c
          rw [e1, e2, ltL_iff] at this
          omega
      by_cases c : j = i + 1
      · subst c
        have := h (i + 1) (by omega) hj
        rw [hg hj, Nat.add_sub_cancel, hg hi, e1, e2] at this
        exact this rfl
      · have hm : i + 1 < o.length := by omega
        have a1 := pw i (i + 1) hi hm (by omega)
        have a2 := pw (i + 1) j hm hj (by omega)
        have z0 := h0 o[i + 1] (List.getElem_mem _)
        rw [e1] at a1
        rw [e2] at a2
        rw [ltL_iff] at a1 a2
        have b3 := abs_le (n := o[i + 1])
        omega
    rcases Int.lt_trichotomy x 0 with c | c | c
    · exact main x hx hnx c
    · exact h0 x hx c
    · exact main (-x) hnx (by rw [Int.neg_neg]; exact hx) (by omega)
theorem contrary_ev (o : List Int) (hl : o.length ≤ 1099511627776) (h7 : ∀ x ∈ o, Lit7 x) :
    ((∀ i, 1 ≤ i → i < o.length → o.getD i 0 ≠ -(o.getD (i - 1) 0)) → Ev (fun k => impl_clauseOf.l1 k 1 o) (o, true)) ∧
    (¬ (∀ i, 1 ≤ i → i < o.length → o.getD i 0 ≠ -(o.getD (i - 1) 0)) → Ev (fun k => impl_clauseOf.l1 k 1 o) ([], false)) := by
  have hg : ∀ {i}, (h : i < o.length) → o.getD i 0 = o[i] := fun h => by rw [List.getD_eq_getElem?_getD, List.getElem?_eq_getElem h]; rfl
  have key : ∀ d n : Nat, o.length - n = d → 1 ≤ n → ((∀ i, n ≤ i → i < o.length → o.getD i 0 ≠ -(o.getD (i - 1) 0)) → Ev (fun k => impl_clauseOf.l1 k (n : Int) o) (o, true)) ∧
      (¬ (∀ i, n ≤ i → i < o.length → o.getD i 0 ≠ -(o.getD (i - 1) 0)) → Ev (fun k => impl_clauseOf.l1 k (n : Int) o) ([], false)) := by
    intro d
    induction d with
    | zero =>
      intro n h1 h2
      refine ⟨fun _ => ?_, fun h => absurd (fun i a b => by omega) h⟩
      refine Ev.step (fun k => by rw [impl_clauseOf.l1]) (ev_neg (by omega) ?_)
      exact ev_bind (g := fun _ => impl_clone_int.f o) (ev_fix (by unfold impl_clone_int.f; rw [if_pos (by omega)])) (ev_ret _)
    | succ d ih =>
      intro n h1 h2
      have hn : n < o.length := by omega
      have hp : n - 1 < o.length := by omega
      have hw : wrap64 ((n : Int) - 1) = ((n - 1 : Nat) : Int) := by rw [wrap_in (by omega) (by omega)]; omega
      have h7p : -700 ≤ o.getD (n - 1) 0 ∧ o.getD (n - 1) 0 ≤ 700 := by rw [hg hp]; exact h7 _ (List.getElem_mem _)
      obtain ⟨i1, i2⟩ := ih (n + 1) (by omega) (by omega)
      by_cases c : o.getD n 0 = -(o.getD (n - 1) 0)
      · refine ⟨fun h => absurd c (h n (Nat.le_refl _) hn), fun _ => ?_⟩
        refine Ev.step (fun k => by rw [impl_clauseOf.l1, hw, rdN, rdN, wrap_in (x := -(o.getD (n - 1) 0)) (by omega) (by omega)]) ?_
        clear hw
        exact ev_pos (by omega) (ev_pos (by omega) (ev_pos (by omega) (ev_pos (by omega) (ev_pos (by omega) (ev_pos c (ev_ret _))))))
      · have st : ∀ r, Ev (fun k => impl_clauseOf.l1 k ((n + 1 : Nat) : Int) o) r → Ev (fun k => impl_clauseOf.l1 k (n : Int) o) r := fun r hr => by
          refine Ev.step (fun k => by rw [impl_clauseOf.l1, hw, rdN, rdN, wrap_in (x := -(o.getD (n - 1) 0)) (by omega) (by omega), wrap_nat hn (by omega)]) ?_
          clear hw
          exact ev_pos (by omega) (ev_pos (by omega) (ev_pos (by omega) (ev_pos (by omega) (ev_pos (by omega) (ev_neg c hr)))))
        refine ⟨fun h => st _ (i1 fun i a b => h i (by omega) b), fun h => st _ (i2 fun h2 => h fun i a b => ?_)⟩
        by_cases z : i = n
        · subst z; exact c
        · exact h2 i (by omega) b
  exact key _ 1 rfl (Nat.le_refl _)
theorem NoC_mem {a b : List Int} (h : ∀ x, x ∈ a ↔ x ∈ b) : NoC a ↔ NoC b := by
  unfold NoC
  constructor
  · intro g x hx hn; exact g x ((h x).2 hx) ((h _).2 hn)
  · intro g x hx hn; exact g x ((h x).1 hx) ((h _).1 hn)
theorem impl_clauseOf_ev {l : List Int} {atoms : Nat} (ha : atoms ≤ 700) (hx : ∀ x ∈ l, litOk (atoms : Int) x = true) (hl : l.length ≤ 1048576)
    (hs : Tot (fun k => slices_SortFunc_int_int_at_impl_clauseOf_1.f k l) (fun r => r.Perm l ∧ OkL r)) : Ev (fun k => impl_clauseOf.f k l) (clauseR l atoms) := by
  obtain ⟨s, hs, hp, ho⟩ := hs
  have hlen := hp.length_eq
  have hmem : ∀ x, x ∈ compL s ↔ x ∈ l := fun x => compL_mem.trans hp.mem_iff
  have h0 : ∀ x ∈ l, x ≠ 0 := fun x h => (litOk_in (hx x h)).1
  have h0c : ∀ x ∈ compL s, x ≠ 0 := fun x h => h0 x ((hmem x).1 h)
  have h7 : ∀ x ∈ compL s, Lit7 x := fun x h => by have := litOk_in (hx x ((hmem x).1 h)); unfold Lit7; omega
  have hcl : (compL s).length ≤ 1048576 := by have := cI_len s s.length; unfold compL; omega
  have hsort := compL_sorted ho
  obtain ⟨e1, e2⟩ := contrary_ev (compL s) (by omega) h7
  rw [← adj_iff hsort h0c] at e1 e2
  unfold impl_clauseOf.f
  refine ev_bind (g := fun _ => slices_Clone_int_int.f l) (ev_fix (by unfold slices_Clone_int_int.f; rw [if_pos (by omega)])) (ev_bind hs (ev_bind (compact_ev s (by omega)) ?_))
  unfold clauseR
  by_cases c : NoC l
  · rw [if_pos c]
    have c' := (NoC_mem hmem).2 c
    have e : compL s = coll l atoms := sorted_ext hsort ((coll_sorted h0 c atoms).imp fun h => ltL_iff.2 (.inl h)) fun x => by
      rw [hmem, coll_mem h0 c]
      exact ⟨fun h => ⟨h, by have := litOk_in (hx x h); have := abs_le (n := x); omega⟩, fun h => h.1⟩
    rw [← e]
    exact e1 c'
  · rw [if_neg c]
    exact e2 fun c' => c ((NoC_mem hmem).1 c')
theorem litCf_lt (x y : Int) : litCf x y < 0 ↔ litKey x < litKey y ∨ (litKey x = litKey y ∧ x < y) := by
  unfold litCf litCmp
  generalize litKey x = a
  generalize litKey y = b
  by_cases h1 : a < b
  · simp [h1]
  · by_cases h2 : a > b
    · simp [h1, h2]; omega
    · by_cases h3 : x < y
      · simp [h1, h2, h3]; omega
      · by_cases h4 : x > y
        · simp [h1, h2, h3, h4]
        · simp [h1, h2, h3, h4]
theorem litKey_eq {x : Int} (h : Lit7 x) : litKey x = absP x := by
  unfold Lit7 at h
  have := impl_atomOf_eq h
  unfold impl_atomOf.f at this
  exact Option.some.inj this
theorem sortM_tot (l : List Int) (h7 : ∀ x ∈ l, Lit7 x) (hl : l.length ≤ 4294967296) : Tot (fun k => slices_SortFunc_int_int_at_impl_clauseOf_1.f k l) (fun r => r.Perm l ∧ OkL r) := by
  unfold slices_SortFunc_int_int_at_impl_clauseOf_1.f
  refine tot_pos (by omega) (tot_ret ⟨List.mergeSort_perm l _, ?_⟩)
  have hp := List.mergeSort_perm l fun x y => !(decide (litCf y x < 0))
  have hs := List.pairwise_mergeSort (le := fun x y => !(decide (litCf y x < 0))) (fun a b c h1 h2 => by
    simp only [Bool.not_eq_true', decide_eq_false_iff_not, litCf_lt] at *
    omega) (fun a b => by
    rw [Bool.or_eq_true]
    simp only [Bool.not_eq_true', decide_eq_false_iff_not, litCf_lt]
    omega) l
  refine hs.imp_of_mem fun {a b} ha hb h => ?_
  have ha := h7 a (hp.mem_iff.1 ha)
  have hb := h7 b (hp.mem_iff.1 hb)
  simp only [Bool.not_eq_true', decide_eq_false_iff_not, litCf_lt, litKey_eq ha, litKey_eq hb] at h
  rw [ltL_not]
  exact h
def gatesGo (inputs : Int) : Nat → List IAnd → Bool
  | _, [] => true
  | n, g :: r => (inR g.f0 0 (2 * (1 + inputs + n) - 1) && inR g.f1 0 (2 * (1 + inputs + n) - 1)) && gatesGo inputs (n + 1) r
def circP (inputs : Int) (gates : List IAnd) : Bool := inR inputs 0 12 && (decide (gates.length ≤ 600) && gatesGo inputs 0 gates)
theorem rd_IAnd_at {l : List IAnd} {n : Nat} (h : n < l.length) : rd_IAnd l (n : Int) = l[n] := getD_of (List.getElem?_eq_getElem h)
theorem most_w {inputs : Int} {n : Nat} (h : 0 ≤ inputs ∧ inputs ≤ 12) (hn : n ≤ 600) : wrap64 (wrap64 (2 * wrap64 (wrap64 (1 + inputs) + n)) - 1) = 2 * (1 + inputs + n) - 1 := by
  rw [wrap_in (x := 1 + inputs) (by omega) (by omega), wrap_in (x := 1 + inputs + n) (by omega) (by omega), wrap_in (x := 2 * (1 + inputs + n)) (by omega) (by omega), wrap_in (by omega) (by omega)]
theorem spec_CircuitValid_ev (inputs : Int) (gates : List IAnd) : Ev (fun k => spec_CircuitValid.f k inputs gates) (circP inputs gates) := by
  unfold spec_CircuitValid.f circP
  rw [spec_l1In_eq]
  refine ev_bind (ev_ret _) ?_
  by_cases c : inR inputs 0 12 = true
  · have ha := inR_iff.1 c
    rw [c]
    refine ev_pos rfl (Ev.step (fun k => by rw [spec_CircuitValid.j0]) ?_)
    by_cases n : gates.length ≤ 600
    · refine ev_neg (by simp; omega) ?_
      rw [decide_eq_true n, Bool.true_and, Bool.true_and]
      have key : ∀ d n : Nat, gates.length - n = d → n ≤ gates.length → Ev (fun k => spec_CircuitValid.l0 k (n : Int) inputs gates) (gatesGo inputs n (gates.drop n)) := by
        intro d
        induction d with
        | zero =>
          intro n g1 g2
          have : n = gates.length := by omega
          subst this
          rw [List.drop_length]
          refine Ev.step (fun k => by rw [spec_CircuitValid.l0]) ?_
          exact ev_neg (by omega) (ev_ret _)
        | succ d ih =>
          intro n g1 g2
          have hn : n < gates.length := by omega
          rw [List.drop_eq_getElem_cons hn]
          unfold gatesGo
          refine Ev.step (fun k => by rw [spec_CircuitValid.l0, rd_IAnd_at hn, most_w ha (by omega), wrap_nat hn (by omega), spec_l1In_eq, spec_l1In_eq]) ?_
          refine ev_pos (by omega) (ev_pos (by omega) (ev_bind (ev_ret _) ?_))
          cases e1 : inR gates[n].f0 0 (2 * (1 + inputs + n) - 1) with
          | false => exact ev_neg (by simp) (ev_ret _)
          | true =>
            refine ev_pos rfl (ev_bind (ev_ret _) ?_)
            cases e2 : inR gates[n].f1 0 (2 * (1 + inputs + n) - 1) with
            | false => exact ev_neg (by simp) (ev_ret _)
            | true => exact ev_pos rfl (ev_eq (ih (n + 1) (by omega) (by omega)) (by simp))
      exact key gates.length 0 (by omega) (by omega)
    · refine ev_pos (by simp; omega) (ev_eq (ev_ret _) ?_)
      rw [decide_eq_false n]; rfl
  · rw [Bool.not_eq_true] at c
    rw [c]
    refine ev_neg (by simp) (Ev.step (fun k => by rw [spec_CircuitValid.j0]) ?_)
    exact ev_pos rfl (ev_ret _)
theorem impl_CircuitValid_ev (inputs : Int) (gates : List IAnd) : Ev (fun k => impl_CircuitValid.f k inputs gates) (circP inputs gates) := by
  unfold impl_CircuitValid.f circP
  rw [impl_in_eq]
  refine ev_bind (ev_ret _) ?_
  by_cases c : inR inputs 0 12 = true
  · have ha := inR_iff.1 c
    rw [c]
    refine ev_pos rfl (Ev.step (fun k => by rw [impl_CircuitValid.j0]) ?_)
    by_cases n : gates.length ≤ 600
    · refine ev_neg (by simp; omega) ?_
      rw [decide_eq_true n, Bool.true_and, Bool.true_and]
      have key : ∀ d n : Nat, gates.length - n = d → n ≤ gates.length → Ev (fun k => impl_CircuitValid.l0 k gates (gates.length : Int) (n : Int) inputs gates) (gatesGo inputs n (gates.drop n)) := by
        intro d
        induction d with
        | zero =>
          intro n g1 g2
          have : n = gates.length := by omega
          subst this
          rw [List.drop_length]
          refine Ev.step (fun k => by rw [impl_CircuitValid.l0]) ?_
          exact ev_neg (by omega) (ev_ret _)
        | succ d ih =>
          intro n g1 g2
          have hn : n < gates.length := by omega
          rw [List.drop_eq_getElem_cons hn]
          unfold gatesGo
          refine Ev.step (fun k => by rw [impl_CircuitValid.l0, rd_IAnd_at hn, most_w ha (by omega), wrap_nat hn (by omega), impl_in_eq, impl_in_eq]) ?_
          refine ev_pos (by omega) (ev_pos (by omega) (ev_pos (by omega) (ev_bind (ev_ret _) ?_)))
          cases e1 : inR gates[n].f0 0 (2 * (1 + inputs + n) - 1) with
          | false => exact ev_neg (by simp) (ev_ret _)
          | true =>
            refine ev_pos rfl (ev_bind (ev_ret _) ?_)
            cases e2 : inR gates[n].f1 0 (2 * (1 + inputs + n) - 1) with
            | false => exact ev_neg (by simp) (ev_ret _)
            | true => exact ev_pos rfl (ev_eq (ih (n + 1) (by omega) (by omega)) (by simp))
      exact key gates.length 0 (by omega) (by omega)
    · refine ev_pos (by simp; omega) (ev_eq (ev_ret _) ?_)
      rw [decide_eq_false n]; rfl
  · rw [Bool.not_eq_true] at c
    rw [c]
    refine ev_neg (by simp) (Ev.step (fun k => by rw [impl_CircuitValid.j0]) ?_)
    exact ev_pos rfl (ev_ret _)
theorem gatesGo_at {inputs : Int} : ∀ (r : List IAnd) (n i : Nat) (g : IAnd), gatesGo inputs n r = true → r[i]? = some g → (0 ≤ g.f0 ∧ g.f0 < 2 * (1 + inputs + (n + i : Nat))) ∧ (0 ≤ g.f1 ∧ g.f1 < 2 * (1 + inputs + (n + i : Nat)))
  | [], n, i, g, _, h => by simp at h
  | x :: r, n, 0, g, h, hg => by
    obtain rfl : x = g := by simpa using hg
    unfold gatesGo at h
    simp only [Bool.and_eq_true, inR_iff] at h
    omega
  | x :: r, n, i + 1, g, h, hg => by
    unfold gatesGo at h
    rw [Bool.and_eq_true] at h
    have := gatesGo_at r (n + 1) i g h.2 (by simpa using hg)
    omega
theorem circP_and {inputs : Int} {gates : List IAnd} (h : circP inputs gates = true) : (0 ≤ inputs ∧ inputs ≤ 12) ∧ gates.length ≤ 600 ∧ ∀ (i : Nat) (g : IAnd), gates[i]? = some g → (0 ≤ g.f0 ∧ g.f0 < 2 * (1 + inputs + i)) ∧ (0 ≤ g.f1 ∧ g.f1 < 2 * (1 + inputs + i)) := by
  unfold circP at h
  simp only [Bool.and_eq_true, inR_iff, decide_eq_true_eq] at h
  refine ⟨h.1, h.2.1, fun i g hg => ?_⟩
  have := gatesGo_at gates 0 i g h.2.2 hg
  simpa using this
def edgeP (inputs : Int) (gates : List IAnd) (e : Int) : Bool := inR e 0 (2 * (1 + inputs + gates.length) - 1)
theorem spec_l7Edge_eq {inputs : Int} {gates : List IAnd} (h : circP inputs gates = true) (e : Int) : spec_l7Edge.f inputs gates e = some (edgeP inputs gates e) := by
  obtain ⟨h1, h2, _⟩ := circP_and h
  unfold spec_l7Edge.f spec_l7Nodes.f edgeP
  rw [Option.bind_some, wrap_in (x := 1 + inputs) (by omega) (by omega), wrap_in (x := 1 + inputs + gates.length) (by omega) (by omega), wrap_in (x := 2 * (1 + inputs + gates.length)) (by omega) (by omega), wrap_in (by omega) (by omega), spec_l1In_eq]
  rfl
theorem impl_isEdge_eq {inputs : Int} {gates : List IAnd} (h : circP inputs gates = true) (e : Int) : impl_Circuit_isEdge.f inputs gates e = some (edgeP inputs gates e) := by
  obtain ⟨h1, h2, _⟩ := circP_and h
  unfold impl_Circuit_isEdge.f edgeP
  rw [wrap_in (x := 1 + inputs) (by omega) (by omega), wrap_in (x := 1 + inputs + gates.length) (by omega) (by omega), wrap_in (x := 2 * (1 + inputs + gates.length)) (by omega) (by omega), wrap_in (by omega) (by omega), impl_in_eq]
  rfl
theorem and_one {x : Int} (h0 : 0 ≤ x) (h1 : x < 4611686018427387904) : Go.bits .and .i64 x 1 = x % 2 := by
  have := Go.bits_mask .i64 62 (by decide) (fun n a b => by rw [Go.IntKind.wrap_i64]; omega) 1 (by decide) x h0 (by omega)
  simpa using this
theorem tdiv_two {x : Int} (h : 0 ≤ x) : Int.tdiv x 2 = x / 2 := Int.tdiv_eq_ediv_of_nonneg h
theorem tmod_two {x : Int} (h : 0 ≤ x) : Int.tmod x 2 = x % 2 := Int.tmod_eq_emod_of_nonneg h
def eLit (e : Int) : Int := if e % 2 = 1 then -(e / 2) else e / 2
def nE (e : Int) : Int := if e % 2 = 1 then e - 1 else e + 1
theorem xor_one {x : Int} (h0 : 0 ≤ x) (h1 : x < 2048) : Go.bits .xor .i64 x 1 = nE x := by
  obtain ⟨n, rfl⟩ := Int.eq_ofNat_of_zero_le h0
  have key : ∀ a : Fin 2048, Go.bits .xor .i64 ((a.val : Nat) : Int) 1 = nE ((a.val : Nat) : Int) := by decide +kernel
  exact key ⟨n, by omega⟩
theorem spec_l11Edge_eq {e : Int} (h0 : 0 ≤ e) (h1 : e ≤ 4096) : spec_l11Edge.f e = some (eLit e) := by
  unfold spec_l11Edge.f eLit
  rw [tmod_two h0, tdiv_two h0, wrap_in (x := e / 2) (by omega) (by omega)]
  by_cases c : e % 2 = 1
  · rw [if_pos c, if_pos c, wrap_in (by omega) (by omega)]
  · rw [if_neg c, if_neg c]
theorem spec_l7Not_eq {e : Int} (h0 : 0 ≤ e) (h1 : e ≤ 4096) : spec_l7Not.f e = some (nE e) := by
  unfold spec_l7Not.f nE
  rw [if_neg (by omega), tmod_two h0, tdiv_two h0, wrap_in (x := e / 2) (by omega) (by omega), wrap_in (x := e / 2 * 2) (by omega) (by omega), wrap_in (x := e / 2 * 2 + 1) (by omega) (by omega), wrap_in (by omega) (by omega)]
  by_cases c : e % 2 = 1
  · rw [if_pos c]; congr 1; omega
  · rw [if_neg c]; congr 1; omega
def litsGo (acc : List Int) : List Int → Option (List Int)
  | [] => some acc
  | e :: r => if e = 1 then none else if e > 1 then litsGo (acc ++ [eLit e]) r else litsGo acc r
def putE (atoms : Nat) (edges : List Int) : Option (List Int) :=
  match litsGo [] edges with
  | none => none
  | some l => if NoC l then some (coll l atoms) else none
def EdgesOk (atoms : Nat) (edges : List Int) : Prop := ∀ e ∈ edges, 0 ≤ e ∧ e < 2 * (1 + (atoms : Int))
theorem eLit_ok {atoms : Nat} {e : Int} (h1 : 1 < e) (h2 : e < 2 * (1 + (atoms : Int))) : litOk (atoms : Int) (eLit e) = true := by
  unfold litOk eLit
  rw [Bool.and_eq_true, decide_eq_true_eq, inR_iff]
  split <;> omega
theorem cons_of {α : Type} {r : List α} {d : Nat} (h : r.length = d + 1) : ∃ x r', r = x :: r' := by
  cases r with
  | nil => simp at h
  | cons x r => exact ⟨x, r, rfl⟩
theorem spec_l11Put_ev {atoms : Nat} {list : List (List Int)} {edges : List Int} (ha : atoms ≤ 700) (hl : list.length ≤ 1048576) (he : EdgesOk atoms edges) (hn : edges.length ≤ 1048576) :
    Ev (fun k => spec_l11Put.f k (atoms : Int) list edges) ((atoms : Int), list ++ (putE atoms edges).toList) := by
  unfold spec_l11Put.f putE
  have key : ∀ (d : Nat) (p r acc : List Int), r.length = d → edges = p ++ r → (∀ x ∈ acc, litOk (atoms : Int) x = true) → acc.length ≤ p.length → litsGo [] edges = litsGo acc r →
      Ev (fun k => spec_l11Put.l1 k acc (p.length : Int) (atoms : Int) list edges) ((atoms : Int), list ++ (match litsGo [] edges with | none => none | some l => if NoC l then some (coll l atoms) else none).toList) := by
    intro d
    induction d with
    | zero =>
      intro p r acc h1 h2 h3 h4 h5
      obtain rfl := List.eq_nil_of_length_eq_zero h1
      rw [List.append_nil] at h2
      subst h2
      rw [h5]
      simp only [litsGo]
      refine Ev.step (fun k => by rw [spec_l11Put.l1]) (ev_neg (by omega) (ev_bind (spec_l11Clause_ev (by omega) (by omega) h3) ?_))
      unfold clauseR
      by_cases c : NoC acc
      · rw [if_pos c, if_pos c]
        exact ev_pos rfl (ev_pos (by omega) (ev_ret _))
      · rw [if_neg c, if_neg c]
        refine ev_neg (by simp) (ev_eq (ev_ret _) ?_)
        simp
    | succ d ih =>
      intro p r acc h1 h2 h3 h4 h5
      obtain ⟨e, r, rfl⟩ := cons_of h1
      have hlen : edges.length = p.length + (r.length + 1) := by rw [h2]; simp
      have hr : rd edges (p.length : Int) = e := by rw [h2]; exact rd_mid _ _ _
      have h0 := he e (by rw [h2]; simp)
      have h2' : edges = (p ++ [e]) ++ r := by rw [h2]; simp
      rw [litsGo] at h5
      refine Ev.step (fun k => by rw [spec_l11Put.l1, hr, wrap_nat (n := p.length) (m := edges.length) (by omega) (by omega), spec_l11Edge_eq h0.1 (by omega)]) ?_
      refine ev_pos (by omega) (ev_pos (by omega) (ev_pos (by omega) ?_))
      by_cases c : e = 1
      · rw [if_pos c] at h5
        refine ev_pos c (ev_eq (ev_ret _) ?_)
        rw [h5]
        simp
      · rw [if_neg c] at h5
        refine ev_neg c (ev_pos (by omega) (ev_pos (by omega) ?_))
        by_cases z : e > 1
        · rw [if_pos z] at h5
          refine ev_pos z (ev_pos (by omega) (ev_pos (by omega) (ev_bind (ev_ret _) (ev_pos (by omega) ?_))))
          have := ih (p ++ [e]) r (acc ++ [eLit e]) (by simpa using h1) h2' (fun x hx => by
            rcases List.mem_append.1 hx with hx | hx
            · exact h3 x hx
            · rw [List.mem_singleton.1 hx]; exact eLit_ok z h0.2) (by simp; omega) h5
          rw [List.length_append, List.length_singleton] at this
          exact this
        · rw [if_neg z] at h5
          refine ev_neg z ?_
          have := ih (p ++ [e]) r acc (by simpa using h1) h2' h3 (by simp; omega) h5
          rw [List.length_append, List.length_singleton] at this
          exact this
  exact key edges.length [] edges [] rfl rfl (fun x hx => by cases hx) (Nat.le_refl _) rfl
def nums (n : Nat) : List Int := (List.range n).map fun i => ((i : Nat) : Int)
theorem nums_len (n : Nat) : (nums n).length = n := by simp [nums]
theorem nums_at {n i : Nat} (h : i < n) : rd (nums n) (i : Int) = (i : Int) := by
  rw [rdN]
  unfold nums
  rw [List.getD_eq_getElem?_getD, List.getElem?_map, List.getElem?_range h]; rfl
theorem impl_numbered_ev {n : Nat} (hn : n ≤ 1048576) : Ev (fun k => impl_numbered.f k (n : Int)) (nums n) := by
  unfold impl_numbered.f
  refine ev_pos (by omega) (ev_pos (by omega) (ev_bind (ev_ret _) ?_))
  rw [List.length_replicate, Int.toNat_natCast]
  have key : ∀ d i : Nat, n - i = d → i ≤ n → Ev (fun k => impl_numbered.l0 k (nums i ++ List.replicate (n - i) 0) (n : Int) (i : Int)) (nums n) := by
    intro d
    induction d with
    | zero =>
      intro i h1 h2
      have : i = n := by omega
      subst this
      refine Ev.step (fun k => by rw [impl_numbered.l0]) (ev_neg (by omega) (ev_eq (ev_ret _) ?_))
      simp
    | succ d ih =>
      intro i h1 h2
      have hi : i < n := by omega
      have e : (nums i ++ List.replicate (n - i) (0 : Int)).set ((i : Int)).toNat (i : Int) = nums (i + 1) ++ List.replicate (n - (i + 1)) 0 := by
        rw [Int.toNat_natCast, List.set_append, if_neg (by rw [nums_len]; omega), nums_len, Nat.sub_self, show n - i = (n - (i + 1)) + 1 by omega, List.replicate_succ, List.set_cons_zero]
        unfold nums
        rw [List.range_succ, List.map_append]
        simp
      refine Ev.step (fun k => by rw [impl_numbered.l0, e, wrap_nat hi (by omega)]) (ev_pos (by omega) (ev_pos (by omega) (ev_pos (by simp [nums_len]; omega) ?_)))
      exact ih (i + 1) (by omega) (by omega)
  have := key n 0 (by omega) (by omega)
  simpa [nums] using this
theorem lit_mul {e : Int} (h0 : 0 ≤ e) (h1 : e ≤ 4096) : wrap64 (e / 2 * wrap64 (1 - wrap64 (2 * Go.bits .and .i64 e 1))) = eLit e := by
  rw [and_one h0 (by omega), wrap_in (x := 2 * (e % 2)) (by omega) (by omega), wrap_in (x := 1 - 2 * (e % 2)) (by omega) (by omega)]
  unfold eLit
  by_cases c : e % 2 = 1
  · rw [if_pos c, c, show (1 : Int) - 2 * 1 = -1 by omega, Int.mul_neg, Int.mul_one, wrap_in (by omega) (by omega)]
  · have c0 : e % 2 = 0 := by omega
    rw [if_neg c, c0, show (1 : Int) - 2 * 0 = 1 by omega, Int.mul_one, wrap_in (by omega) (by omega)]
def putR (o : Option (List Int)) : List Int × Bool := match o with | none => ([], false) | some c => (c, true)
theorem impl_edgeClause_ev {atoms : Nat} {edges : List Int} (ha : atoms ≤ 700) (he : EdgesOk atoms edges) (hn : edges.length ≤ 1048576) :
    Ev (fun k => impl_edgeClause.f k edges (nums (atoms + 1))) (putR (putE atoms edges)) := by
  unfold impl_edgeClause.f putE
  have key : ∀ (d : Nat) (p r acc : List Int), r.length = d → edges = p ++ r → (∀ x ∈ acc, litOk (atoms : Int) x = true) → acc.length ≤ p.length → litsGo [] edges = litsGo acc r →
      Ev (fun k => impl_edgeClause.l1 k acc (p.length : Int) edges (nums (atoms + 1))) (putR (match litsGo [] edges with | none => none | some l => if NoC l then some (coll l atoms) else none)) := by
    intro d
    induction d with
    | zero =>
      intro p r acc h1 h2 h3 h4 h5
      obtain rfl := List.eq_nil_of_length_eq_zero h1
      rw [List.append_nil] at h2
      subst h2
      rw [h5]
      simp only [litsGo]
      refine Ev.step (fun k => by rw [impl_edgeClause.l1]) (ev_neg (by omega) (ev_bind (impl_clauseOf_ev (atoms := atoms) (by omega) h3 (by omega) (sortM_tot acc (fun x hx => by have := litOk_in (h3 x hx); unfold Lit7; omega) (by omega))) (ev_eq (ev_ret _) ?_)))
      unfold clauseR putR
      by_cases c : NoC acc
      · rw [if_pos c, if_pos c]
      · rw [if_neg c, if_neg c]
    | succ d ih =>
      intro p r acc h1 h2 h3 h4 h5
      obtain ⟨e, r, rfl⟩ := cons_of h1
      have hlen : edges.length = p.length + (r.length + 1) := by rw [h2]; simp
      have hr : rd edges (p.length : Int) = e := by rw [h2]; exact rd_mid _ _ _
      have h0 := he e (by rw [h2]; simp)
      have h2' : edges = (p ++ [e]) ++ r := by rw [h2]; simp
      have hq : rd (nums (atoms + 1)) (e / 2) = e / 2 := by
        have := nums_at (n := atoms + 1) (i := (e / 2).toNat) (by omega)
        rwa [show (((e / 2).toNat : Nat) : Int) = e / 2 by omega] at this
      rw [litsGo] at h5
      refine Ev.step (fun k => by rw [impl_edgeClause.l1, hr, wrap_nat (n := p.length) (m := edges.length) (by omega) (by omega), tdiv_two h0.1, wrap_in (x := e / 2) (by omega) (by omega), hq, lit_mul h0.1 (by omega)]) ?_
      refine ev_pos (by omega) (ev_pos (by omega) (ev_pos (by omega) ?_))
      by_cases c : e = 1
      · rw [if_pos c] at h5
        refine ev_pos c (ev_eq (ev_ret _) ?_)
        rw [h5]
        rfl
      · rw [if_neg c] at h5
        refine ev_neg c ?_
        by_cases z : e > 1
        · rw [if_pos z] at h5
          refine ev_pos z (ev_pos (by omega) (ev_pos (by rw [nums_len]; omega) (ev_pos (by omega) ?_)))
          have := ih (p ++ [e]) r (acc ++ [eLit e]) (by simpa using h1) h2' (fun x hx => by
            rcases List.mem_append.1 hx with hx | hx
            · exact h3 x hx
            · rw [List.mem_singleton.1 hx]; exact eLit_ok z h0.2) (by simp; omega) h5
          rw [List.length_append, List.length_singleton] at this
          exact this
        · rw [if_neg z] at h5
          refine ev_neg z ?_
          have := ih (p ++ [e]) r acc (by simpa using h1) h2' h3 (by simp; omega) h5
          rw [List.length_append, List.length_singleton] at this
          exact this
  exact key edges.length [] edges [] rfl rfl (fun x hx => by cases hx) (Nat.le_refl _) rfl
def gateE (inputs : Int) (n : Nat) (g : IAnd) : List (List Int) := [[2 * (1 + inputs + n) + 1, g.f0], [2 * (1 + inputs + n) + 1, g.f1], [2 * (1 + inputs + n), nE g.f0, nE g.f1]]
def gateC (atoms : Nat) (inputs : Int) (n : Nat) (g : IAnd) : List (List Int) := (gateE inputs n g).flatMap fun e => (putE atoms e).toList
def gatesC (atoms : Nat) (inputs : Int) : Nat → List IAnd → List (List Int)
  | _, [] => []
  | n, g :: r => gateC atoms inputs n g ++ gatesC atoms inputs (n + 1) r
def circC (inputs : Int) (gates : List IAnd) (e : Int) : List (List Int) := gatesC (inputs.toNat + gates.length) inputs 0 gates ++ (putE (inputs.toNat + gates.length) [e]).toList
def circR (inputs : Int) (gates : List IAnd) (e : Int) : (Int × List (List Int)) × Bool :=
  if (circP inputs gates && edgeP inputs gates e) = true then ((((inputs.toNat + gates.length : Nat) : Int), circC inputs gates e), true) else ((0, []), false)
theorem nE_in {e m : Int} (h0 : 0 ≤ e) (h1 : e < 2 * m) : 0 ≤ nE e ∧ nE e < 2 * m := by unfold nE; split <;> omega
theorem gateE_ok {inputs : Int} {atoms n : Nat} {g : IAnd} (hi : 0 ≤ inputs) (hn : inputs + n < atoms) (h : (0 ≤ g.f0 ∧ g.f0 < 2 * (1 + inputs + n)) ∧ (0 ≤ g.f1 ∧ g.f1 < 2 * (1 + inputs + n))) : ∀ e ∈ gateE inputs n g, EdgesOk atoms e ∧ e.length ≤ 3 := by
  have a0 := nE_in h.1.1 h.1.2
  have a1 := nE_in h.2.1 h.2.2
  intro e he
  unfold gateE at he
  simp only [List.mem_cons, List.not_mem_nil, or_false] at he
  rcases he with rfl | rfl | rfl
  · refine ⟨fun x hx => ?_, by simp⟩
    simp only [List.mem_cons, List.not_mem_nil, or_false] at hx
    rcases hx with rfl | rfl <;> omega
  · refine ⟨fun x hx => ?_, by simp⟩
    simp only [List.mem_cons, List.not_mem_nil, or_false] at hx
    rcases hx with rfl | rfl <;> omega
  · refine ⟨fun x hx => ?_, by simp⟩
    simp only [List.mem_cons, List.not_mem_nil, or_false] at hx
    rcases hx with rfl | rfl | rfl <;> omega
theorem putE_len (atoms : Nat) (e : List Int) : (putE atoms e).toList.length ≤ 1 ∧ ∀ c ∈ (putE atoms e).toList, c.length ≤ atoms := by
  unfold putE
  split
  · simp
  · split
    · exact ⟨by simp, fun c hc => by simp at hc; rw [hc]; exact coll_len _ _⟩
    · simp
theorem gateC_eq (atoms : Nat) (inputs : Int) (n : Nat) (g : IAnd) : gateC atoms inputs n g = (putE atoms [2 * (1 + inputs + n) + 1, g.f0]).toList ++ ((putE atoms [2 * (1 + inputs + n) + 1, g.f1]).toList ++ (putE atoms [2 * (1 + inputs + n), nE g.f0, nE g.f1]).toList) := by
  unfold gateC gateE
  simp [List.flatMap_cons]
theorem gateC_len (atoms : Nat) (inputs : Int) (n : Nat) (g : IAnd) : (gateC atoms inputs n g).length ≤ 3 ∧ ∀ c ∈ gateC atoms inputs n g, c.length ≤ atoms := by
  rw [gateC_eq]
  have a := putE_len atoms [2 * (1 + inputs + n) + 1, g.f0]
  have b := putE_len atoms [2 * (1 + inputs + n) + 1, g.f1]
  have c := putE_len atoms [2 * (1 + inputs + n), nE g.f0, nE g.f1]
  refine ⟨by simp only [List.length_append]; omega, fun x hx => ?_⟩
  rcases List.mem_append.1 hx with hx | hx
  · exact a.2 x hx
  · rcases List.mem_append.1 hx with hx | hx
    · exact b.2 x hx
    · exact c.2 x hx
theorem gatesC_len (atoms : Nat) (inputs : Int) : ∀ (r : List IAnd) (n : Nat), (gatesC atoms inputs n r).length ≤ 3 * r.length ∧ ∀ c ∈ gatesC atoms inputs n r, c.length ≤ atoms
  | [], n => by simp [gatesC]
  | g :: r, n => by
    obtain ⟨a, b⟩ := gatesC_len atoms inputs r (n + 1)
    obtain ⟨c, d⟩ := gateC_len atoms inputs n g
    refine ⟨by simp only [gatesC, List.length_append, List.length_cons]; omega, fun x hx => ?_⟩
    rcases List.mem_append.1 hx with hx | hx
    · exact d x hx
    · exact b x hx
theorem circR_len (inputs : Int) (gates : List IAnd) (e : Int) : (circR inputs gates e).1.2.length ≤ 1048576 ∧ ∀ c ∈ (circR inputs gates e).1.2, c.length ≤ 1048576 := by
  unfold circR
  split
  · rename_i h
    rw [Bool.and_eq_true] at h
    obtain ⟨h1, h2, _⟩ := circP_and h.1
    obtain ⟨a, b⟩ := gatesC_len (inputs.toNat + gates.length) inputs gates 0
    obtain ⟨c, d⟩ := putE_len (inputs.toNat + gates.length) [e]
    refine ⟨by simp only [circC, List.length_append]; omega, fun x hx => ?_⟩
    rcases List.mem_append.1 hx with hx | hx
    · have := b x hx; omega
    · have := d x hx; omega
  · simp
theorem two_w {inputs : Int} {n : Nat} (h : 0 ≤ inputs ∧ inputs ≤ 12) (hn : n ≤ 600) : wrap64 (2 * wrap64 (wrap64 (1 + inputs) + n)) = 2 * (1 + inputs + n) := by
  rw [wrap_in (x := 1 + inputs) (by omega) (by omega), wrap_in (x := 1 + inputs + n) (by omega) (by omega), wrap_in (x := 2 * (1 + inputs + n)) (by omega) (by omega)]
theorem spec_ClausesOf_ev (inputs : Int) (gates : List IAnd) (e : Int) : Ev (fun k => spec_ClausesOf.f k inputs gates e) (circR inputs gates e) := by
  unfold spec_ClausesOf.f circR
  have hV := spec_CircuitValid_ev inputs gates
  by_cases c : circP inputs gates = true
  · obtain ⟨h1, h2, h3⟩ := circP_and c
    rw [c] at hV
    rw [c, Bool.true_and]
    refine ev_bind hV (ev_pos rfl (ev_bind (ev_fix (spec_l7Edge_eq c e)) ?_))
    by_cases d : edgeP inputs gates e = true
    · rw [if_pos d]
      refine ev_pos d ?_
      have he := inR_iff.1 d
      obtain ⟨m, rfl⟩ : ∃ m : Nat, inputs = (m : Int) := ⟨inputs.toNat, by omega⟩
      unfold circC
      rw [Int.toNat_natCast]
      generalize ham : m + gates.length = atoms
      have key : ∀ (dd n : Nat), gates.length - n = dd → n ≤ gates.length → ∀ acc : List (List Int), acc.length ≤ 3 * n →
          Ev (fun k => spec_ClausesOf.l1 k (atoms : Int) acc (n : Int) (m : Int) gates e) (((atoms : Int), acc ++ (gatesC atoms (m : Int) n (gates.drop n) ++ (putE atoms [e]).toList)), true) := by
        intro dd
        induction dd with
        | zero =>
          intro n g1 g2 acc g3
          have : n = gates.length := by omega
          subst this
          rw [List.drop_length]
          simp only [gatesC, List.nil_append]
          refine Ev.step (fun k => by rw [spec_ClausesOf.l1]) (ev_neg (by omega) (ev_bind (spec_l11Put_ev (by omega) (by omega) (fun x hx => ?_) (by simp)) (ev_ret _)))
          rw [List.mem_singleton.1 hx]
          omega
        | succ dd ih =>
          intro n g1 g2 acc g3
          have hn : n < gates.length := by omega
          obtain ⟨a, b⟩ := h3 n gates[n] (List.getElem?_eq_getElem hn)
          rw [List.drop_eq_getElem_cons hn]
          simp only [gatesC]
          generalize hgq : gates[n] = g at *
          have hrd : rd_IAnd gates (n : Int) = g := (rd_IAnd_at hn).trans hgq
          have hok := gateE_ok (atoms := atoms) (n := n) (g := g) h1.1 (by omega) ⟨a, b⟩
          have w1 : wrap64 (2 * (1 + (m : Int) + n) + 1) = 2 * (1 + (m : Int) + n) + 1 := wrap_in (by omega) (by omega)
          refine Ev.step (fun k => by rw [spec_ClausesOf.l1, hrd, two_w h1 (by omega), w1, wrap_nat hn (by omega), spec_l7Not_eq a.1 (by omega), spec_l7Not_eq b.1 (by omega)]) ?_
          clear w1
          obtain ⟨p1, _⟩ := putE_len atoms [2 * (1 + (m : Int) + n) + 1, g.f0]
          obtain ⟨p2, _⟩ := putE_len atoms [2 * (1 + (m : Int) + n) + 1, g.f1]
          obtain ⟨p3, _⟩ := putE_len atoms [2 * (1 + (m : Int) + n), nE g.f0, nE g.f1]
          refine ev_pos (by omega) (ev_pos (by omega) (ev_pos (by omega) (ev_pos (by omega) (ev_pos (by omega) ?_))))
          refine ev_bind (spec_l11Put_ev (by omega) (by omega) (hok _ (by simp [gateE])).1 (by simp)) ?_
          refine ev_bind (spec_l11Put_ev (by omega) (by simp only [List.length_append]; omega) (hok _ (by simp [gateE])).1 (by simp)) ?_
          refine ev_bind (ev_ret _) (ev_bind (ev_ret _) ?_)
          refine ev_bind (spec_l11Put_ev (by omega) (by simp only [List.length_append]; omega) (hok _ (by simp [gateE])).1 (by simp)) ?_
          refine ev_eq (ih (n + 1) (by omega) (by omega) _ (by simp only [List.length_append]; omega)) ?_
          rw [gateC_eq]
          simp only [List.append_assoc]
      refine ev_bind (g := fun _ => spec_l7Nodes.f (m : Int) gates) (ev_fix rfl) ?_
      rw [wrap_in (x := 1 + (m : Int)) (by omega) (by omega), wrap_in (x := 1 + (m : Int) + gates.length) (by omega) (by omega), show wrap64 (1 + (m : Int) + (gates.length : Int) - 1) = (atoms : Int) by rw [wrap_in (by omega) (by omega)]; omega]
      exact key gates.length 0 (by omega) (by omega) [] (by simp)
    · rw [if_neg d]
      exact ev_neg d (ev_ret _)
  · rw [Bool.not_eq_true] at c
    rw [c] at hV
    rw [c, Bool.false_and, if_neg (by simp)]
    exact ev_bind hV (ev_neg (by simp) (ev_ret _))
theorem impl_gateClauses_ev {m : Nat} {gates : List IAnd} (h : circP (m : Int) gates = true) : Ev (fun k => impl_gateClauses.f k (m : Int) gates (nums (m + gates.length + 1))) (gatesC (m + gates.length) (m : Int) 0 gates) := by
  obtain ⟨h1, h2, h3⟩ := circP_and h
  unfold impl_gateClauses.f
  generalize ham : m + gates.length = atoms
  have key : ∀ (dd n : Nat), gates.length - n = dd → n ≤ gates.length → ∀ acc : List (List Int), acc.length ≤ 3 * n →
      Ev (fun k => impl_gateClauses.l1 k acc (n : Int) (m : Int) gates (nums (atoms + 1))) (acc ++ gatesC atoms (m : Int) n (gates.drop n)) := by
    intro dd
    induction dd with
    | zero =>
      intro n g1 g2 acc g3
      have : n = gates.length := by omega
      subst this
      rw [List.drop_length]
      simp only [gatesC, List.append_nil]
      exact Ev.step (fun k => by rw [impl_gateClauses.l1]) (ev_neg (by omega) (ev_ret _))
    | succ dd ih =>
      intro n g1 g2 acc g3
      have hn : n < gates.length := by omega
      obtain ⟨a, b⟩ := h3 n gates[n] (List.getElem?_eq_getElem hn)
      rw [List.drop_eq_getElem_cons hn]
      simp only [gatesC]
      generalize hgq : gates[n] = g at *
      have hrd : rd_IAnd gates (n : Int) = g := (rd_IAnd_at hn).trans hgq
      have hok := gateE_ok (atoms := atoms) (n := n) (g := g) h1.1 (by omega) ⟨a, b⟩
      have w1 : wrap64 (2 * (1 + (m : Int) + n) + 1) = 2 * (1 + (m : Int) + n) + 1 := wrap_in (by omega) (by omega)
      have inner : ∀ (d3 : Nat) (p r : List (List Int)) (acc : List (List Int)), r.length = d3 → gateE (m : Int) n g = p ++ r → acc.length ≤ 3 * n + p.length →
          Ev (fun k => impl_gateClauses.l2 k acc (p.length : Int) (m : Int) gates (nums (atoms + 1)) (n : Int)) (acc ++ (r.flatMap fun e => (putE atoms e).toList) ++ gatesC atoms (m : Int) (n + 1) (gates.drop (n + 1))) := by
        intro d3
        induction d3 with
        | zero =>
          intro p r acc q1 q2 q3
          obtain rfl := List.eq_nil_of_length_eq_zero q1
          rw [List.append_nil] at q2
          have hp : p.length = 3 := by rw [← q2]; rfl
          refine Ev.step (fun k => by rw [impl_gateClauses.l2, wrap_nat hn (by omega)]) (ev_neg (by simp; omega) ?_)
          have := ih (n + 1) (by omega) (by omega) acc (by omega)
          simpa using this
        | succ d3 ih3 =>
          intro p r acc q1 q2 q3
          obtain ⟨e, r, rfl⟩ := cons_of q1
          have hlen : 3 = p.length + (r.length + 1) := by
            have : (gateE (m : Int) n g).length = 3 := rfl
            rw [q2] at this
            simpa using this.symm
          have hre : rd_Lint (gateE (m : Int) n g) (p.length : Int) = e := by
            show (gateE (m : Int) n g).getD _ _ = e
            rw [q2]; simp
          obtain ⟨he1, he2⟩ := hok e (by rw [q2]; simp)
          have hq2 : gateE (m : Int) n g = (p ++ [e]) ++ r := by rw [q2]; simp
          refine Ev.step (fun k => by
            rw [impl_gateClauses.l2, hrd, two_w h1 (by omega), w1, wrap_nat (n := p.length) (m := 3) (by omega) (by omega), xor_one a.1 (by omega), xor_one b.1 (by omega), show [[2 * (1 + (m : Int) + n) + 1, g.f0], [2 * (1 + (m : Int) + n) + 1, g.f1], [2 * (1 + (m : Int) + n), nE g.f0, nE g.f1]] = gateE (m : Int) n g from rfl, hre]) ?_
          obtain ⟨pl, _⟩ := putE_len atoms e
          refine ev_pos (by rw [show (gateE (m : Int) n g).length = 3 from rfl]; omega) (ev_pos (by omega) (ev_pos (by rw [show (gateE (m : Int) n g).length = 3 from rfl]; omega) (ev_bind (impl_edgeClause_ev (by omega) he1 (by omega)) ?_)))
          rw [List.flatMap_cons]
          cases hpe : putE atoms e with
          | none =>
            have := ih3 (p ++ [e]) r acc (by simpa using q1) hq2 (by simp; omega)
            rw [List.length_append, List.length_singleton] at this
            refine ev_neg (by simp [putR]) ?_
            simpa using this
          | some cl =>
            have := ih3 (p ++ [e]) r (acc ++ [cl]) (by simpa using q1) hq2 (by simp; omega)
            rw [List.length_append, List.length_singleton] at this
            refine ev_pos rfl (ev_pos (by omega) ?_)
            simpa [putR] using this
      refine Ev.step (fun k => by rw [impl_gateClauses.l1]) (ev_pos (by omega) (ev_pos (by omega) (ev_pos (by omega) ?_)))
      have := inner 3 [] (gateE (m : Int) n g) acc rfl rfl (by simp; omega)
      rw [List.append_assoc] at this
      exact this
  have := key gates.length 0 (by omega) (by omega) [] (by simp)
  simpa using this
theorem impl_ClausesOf_ev (inputs : Int) (gates : List IAnd) (e : Int) : Ev (fun k => impl_ClausesOf.f k inputs gates e) (circR inputs gates e) := by
  unfold impl_ClausesOf.f circR
  have hV := impl_CircuitValid_ev inputs gates
  by_cases c : circP inputs gates = true
  · obtain ⟨h1, h2, h3⟩ := circP_and c
    rw [c] at hV
    rw [c, Bool.true_and]
    refine ev_bind hV (ev_pos rfl (ev_bind (ev_fix (impl_isEdge_eq c e)) ?_))
    by_cases d : edgeP inputs gates e = true
    · rw [if_pos d]
      refine ev_pos d ?_
      have he := inR_iff.1 d
      obtain ⟨m, rfl⟩ : ∃ m : Nat, inputs = (m : Int) := ⟨inputs.toNat, by omega⟩
      have hG := impl_gateClauses_ev c
      obtain ⟨gl, _⟩ := gatesC_len (m + gates.length) (m : Int) gates 0
      unfold circC
      rw [Int.toNat_natCast]
      have w : wrap64 (wrap64 (1 + (m : Int)) + (gates.length : Int)) = ((m + gates.length + 1 : Nat) : Int) := by rw [wrap_in (x := 1 + (m : Int)) (by omega) (by omega), wrap_in (by omega) (by omega)]; omega
      rw [w]
      clear w
      refine ev_bind (impl_numbered_ev (by omega)) (ev_bind hG (ev_bind (impl_edgeClause_ev (atoms := m + gates.length) (edges := [e]) (by omega) (fun x hx => by rw [List.mem_singleton.1 hx]; omega) (by simp)) ?_))
      have w2 : wrap64 (((nums (m + gates.length + 1)).length : Int) - 1) = ((m + gates.length : Nat) : Int) := by rw [nums_len, wrap_in (by omega) (by omega)]; omega
      cases hpe : putE (m + gates.length) [e] with
      | none =>
        refine ev_neg (by simp [putR]) (Ev.step (fun k => by rw [impl_ClausesOf.j1, w2]) (ev_bind (g := fun _ => impl_clone_Lint.f _) (ev_fix (by unfold impl_clone_Lint.f; rw [if_pos (by omega)])) (ev_eq (ev_ret _) ?_)))
        simp
      | some cl =>
        refine ev_pos rfl (ev_pos (by omega) (Ev.step (fun k => by rw [impl_ClausesOf.j1, w2]) (ev_bind (g := fun _ => impl_clone_Lint.f _) (ev_fix (by unfold impl_clone_Lint.f; rw [if_pos (by simp only [List.length_append, List.length_singleton]; omega)])) (ev_eq (ev_ret _) ?_))))
        simp [putR]
    · rw [if_neg d]
      exact ev_neg d (ev_ret _)
  · rw [Bool.not_eq_true] at c
    rw [c] at hV
    rw [c, Bool.false_and, if_neg (by simp)]
    exact ev_bind hV (ev_neg (by simp) (ev_ret _))
def cAnd (x : LAnd) : IAnd := ⟨x.f0, x.f1⟩
theorem laws_toAndS_ev (l : List LAnd) (h : l.length ≤ 1048576) : Ev (fun k => laws_toAndS.f k l) (l.map cAnd) := by
  unfold laws_toAndS.f
  refine ev_pos (by omega) (ev_pos (by omega) ?_)
  have := ev_fill (da := zLAnd) (db := zIAnd) (fun k ys i => laws_toAndS.l0 k l ys i) (fun k x => (laws_toAnd.f x.f0 x.f1).bind fun b => some (⟨b.1, b.2⟩ : IAnd)) l cAnd (by omega) (fun k ys i => by
    rw [laws_toAndS.l0]
    by_cases c : i < (l.length : Int)
    · rw [if_pos c, if_pos c]
      by_cases d : 0 ≤ i
      · rw [if_pos d, if_pos d]; rfl
      · rw [if_neg d, if_neg d]
    · rw [if_neg c, if_neg c]) (fun x hx => ev_ret _)
  rw [Int.toNat_natCast]
  exact this
theorem laws_eqAndS_ev (l : List IAnd) (h : l.length ≤ 1048576) : Ev (fun k => laws_eqAndS.f k l l) true := by
  unfold laws_eqAndS.f
  refine ev_pos rfl ?_
  exact ev_same (da := zIAnd) (fun k i => laws_eqAndS.l0 k l l i) (fun k x y => laws_eqAnd.f x.f0 x.f1 y.f0 y.f1) l l (by omega) rfl (fun k i => by rw [laws_eqAndS.l0]; rfl) (fun x hx => by
    unfold laws_eqAnd.f
    exact ev_fix (by simp))
theorem laws_toCircuit_ev (inputs : Int) (l : List LAnd) (h : l.length ≤ 1048576) : Ev (fun k => laws_toCircuit.f k inputs l) (inputs, l.map cAnd) := by
  unfold laws_toCircuit.f
  exact ev_bind (laws_toAndS_ev l h) (ev_ret _)
theorem laws_eqCircuit_ev (inputs : Int) (l : List IAnd) (h : l.length ≤ 1048576) : Ev (fun k => laws_eqCircuit.f k inputs l inputs l) true := by
  unfold laws_eqCircuit.f
  exact ev_pos rfl (ev_bind (laws_eqAndS_ev l h) (ev_pos rfl (ev_ret _)))
theorem laws_eqClauses_ev (atoms : Int) (l : List (List Int)) (h : l.length ≤ 1048576 ∧ ∀ x ∈ l, x.length ≤ 1048576) : Ev (fun k => laws_eqClauses.f k atoms l atoms l) true := by
  unfold laws_eqClauses.f
  exact ev_pos rfl (ev_bind (laws_eqIntSS_ev l h) (ev_pos rfl (ev_ret _)))
theorem sz_circuit (inputs : Int) (l : List LAnd) {a : Int} (h0 : 0 ≤ a) (h1 : a ≤ 1048576) (hn : l.length ≤ 9223372036854775807) : SzOk (fun _ => laws_szCircuit.f inputs l a) a (l.length ≤ 1048576) := by
  obtain ⟨d, hd, kd⟩ := sz_len (n := l.length) h0 h1 hn
  unfold laws_szCircuit.f laws_szAndS.f
  refine ⟨if d < 0 then -1 else d, ev_bind hd ?_, ?_⟩
  · by_cases z : d < 0
    · exact ev_pos z (ev_eq (ev_ret _) (if_pos z).symm)
    · exact ev_neg z (ev_eq (ev_ret _) (if_neg z).symm)
  · rcases kd with kd | ⟨d0, d1, ka⟩
    · exact .inl (by rw [if_pos kd]; omega)
    · rw [if_neg (by omega)]
      exact .inr ⟨d0, d1, ka⟩
theorem Evp.markedClauses (a0 : Int) (w : List (List Int)) (h : w.length ≤ 1048576 ∧ ∀ x ∈ w, x.length ≤ 1048576) :
    Evp fun k => ∃ (m : Int), ∃ (w2 : List (List Int)), laws_markIntSS.f k w 1 = some (m, w2) ∧ 0 ≤ m ∧ w.length ≤ 9223372036854775807 ∧ laws_heldClauses.f k a0 w2 1 = some m ∧ True := by
  obtain ⟨hl, hx⟩ := h
  have ht := totalN_le w hx
  have : w.length * 1048576 ≤ 1048576 * 1048576 := Nat.mul_le_mul_right _ hl
  have hh : Ev (fun k => laws_heldClauses.f k a0 (fromRows 1 w) 1) (1 + totalN w) := by
    unfold laws_heldClauses.f
    exact ev_bind (laws_heldIntSS_ev w 1 (by omega) (by omega) (by omega)) (ev_neg (by omega) (ev_ret _))
  exact .ex (1 + totalN w) (.ex (fromRows 1 w) (.fact (laws_markIntSS_ev w 1 (by omega) (by omega)) (.and (.of (by omega)) (.and (.of (by omega)) (.fact hh (.of trivial))))))
end Go.Proofs.Ytigbbefdndcmbaa.PA
end
section
set_option linter.unusedVariables false
set_option linter.unusedSimpArgs false
namespace Go.Proofs.Ytigbbefdndcmbaa.PA
open Go.RowKit Go.Proofs.YtigbbefdndcmbaaW.PrintWords
theorem ExactClausesOf_pure : laws_FnExactClausesOf.PureS := by
  intro inputs ands e w1 ha w2
  suffices h : Evp fun k => laws_FnExactClausesOf.Good k inputs ands e from h.get
  unfold laws_FnExactClausesOf.Good
  refine .sz (sz_circuit inputs ands (by omega) (by omega) ha.1) fun r _ _ hl => ?_
  have hw := circR_len inputs (ands.map cAnd) e
  exact .ex _ (.fact (laws_toCircuit_ev inputs ands hl) (.and (.of (by simpa using hl)) (.ex _ (.fact (spec_ClausesOf_ev inputs (ands.map cAnd) e) (.fact (impl_ClausesOf_ev inputs (ands.map cAnd) e) (.fact (laws_eqClauses_ev _ _ hw) (.fact (laws_eqCircuit_ev inputs _ (by simpa using hl)) (.markedClauses _ _ hw))))))))
end Go.Proofs.Ytigbbefdndcmbaa.PA
namespace Go.Proofs.Ytigbbefdndcmbaa.Pure
theorem FnExactClausesOf : Go.Proofs.Ytigbbefdndcmbaa.PA.laws_FnExactClausesOf.PureS := Go.Proofs.Ytigbbefdndcmbaa.PA.ExactClausesOf_pure
end Go.Proofs.Ytigbbefdndcmbaa.Pure
end
