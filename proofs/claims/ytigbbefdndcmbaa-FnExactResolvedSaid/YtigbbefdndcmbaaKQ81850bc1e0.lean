/- The plain side: what the Lean functions compute, without Go and memory; each theorem under the conditions that it names. -/
import Derived.Test.YtigbbefdndcmbaaProg
import Derived.Below
import Derived.Deep.Draws
import Derived.Deep.AppendLies
import Derived.Maps.AppendAt
import Derived.OwnWalk
import Derived.Laws.BytesArg
import Derived.Laws.MakeOwn
import Derived.Laws.OwnMore
import Derived.Deep.OwnRows
import Derived.Tactics
import Derived.Lib.ConvBytes
import Derived.Laws.Slices
import Derived.WalkKit
import Derived.KernelRfl
import Derived.RowKit3
import Derived.Deep.LoopGhost
import Derived.Deep.QuietTactic
import Derived.BigQuiet
import Derived.WideLaws
import Derived.Deep.DeepCutAuto
import Derived.Deep.CutBlock
import Derived.Deep.RegionHeld3
import Derived.Laws.Rows
import Derived.Lib.AppendStr
import Derived.ArgAppend
import Derived.Laws.IdiomCopy
import Derived.OrdersHeld
import Derived.Laws.BitsLemmas
import Derived.RowKit
import Derived.Laws.StructEq
import Derived.Lib.SliceRun
import Derived.WalkSpells
import Derived.ChangeArms
import Derived.ChangeSlices
import Derived.Deep.Slices
import Derived.Test.YtigbbefdndcmbaaKD6e4a1ceafe
section
namespace Go.Proofs.Ytigbbefdndcmbaa.PA
open Go.RowKit Go.Proofs.YtigbbefdndcmbaaW.PrintWords
def laws_FnExactResolved.Good (k : Nat) (l0 : List Int) (l1 : List Int) (a2 : Int) : Prop :=
  ((l0.length : Int) > 1048576 ∨ ((l1.length : Int) > 1048576 ∨ ∃ (b_1 : (List Int)), laws_toIntS.f k l0 = some b_1 ∧ b_1.length ≤ 1048576 ∧ ∃ (b_2 : (List Int)), laws_toIntS.f k l1 = some b_2 ∧ b_2.length ≤ 1048576 ∧ ∃ (w_1 : (List Int) × Bool), spec_Resolved.f k b_1 b_2 a2 = some w_1 ∧ impl_Resolved.f k b_1 b_2 a2 = some w_1 ∧ laws_eqIntS.f k w_1.1 w_1.1 = some true ∧ laws_eqIntS.f k b_1 b_1 = some true ∧ laws_eqIntS.f k b_2 b_2 = some true ∧ ∃ (m_1 : Int), ∃ (w_2 : List Int), laws_markIntS.f k w_1.1 1 = some (m_1, w_2) ∧ 0 ≤ m_1 ∧ laws_heldIntS.f k w_2 1 = some m_1 ∧ True))
def laws_FnExactResolved.PureS : Prop := ∀ (l0 : List Int) (l1 : List Int) (a2 : Int), (l0.length ≤ 9223372036854775807 ∧ ∀ x0 ∈ l0, (Lit.int .i64 x0).wf = true) → (l1.length ≤ 9223372036854775807 ∧ ∀ x0 ∈ l1, (Lit.int .i64 x0).wf = true) → (Lit.int .i64 a2).wf = true → ∃ k, laws_FnExactResolved.Good k l0 l1 a2
end Go.Proofs.Ytigbbefdndcmbaa.PA
end
section
set_option linter.unusedVariables false
set_option linter.unusedSimpArgs false
namespace Go.Proofs.Ytigbbefdndcmbaa.PA
open Go.RowKit Go.Proofs.YtigbbefdndcmbaaW.PrintWords
theorem ev_ret {α : Type} (r : α) : Ev (fun _ => some r) r := Ev.now r
theorem ev_pos {α : Type} {c : Prop} [Decidable c] {f g : Nat → Option α} {r : α} (h : c) (k : Ev f r) : Ev (fun n => if c then f n else g n) r := by
  simpa [h] using k
theorem ev_neg {α : Type} {c : Prop} [Decidable c] {f g : Nat → Option α} {r : α} (h : ¬ c) (k : Ev g r) : Ev (fun n => if c then f n else g n) r := by
  simpa [h] using k
theorem ev_bind {α β : Type} {g : Nat → Option α} {f : Nat → α → Option β} {a : α} {r : β} (h : Ev g a) (k : Ev (fun n => f n a) r) : Ev (fun n => (g n).bind (fun t => f n t)) r := Ev.bind h k
theorem ev_fix {α : Type} {o : Option α} {r : α} (h : o = some r) : Ev (fun _ => o) r := ⟨0, fun _ _ => h⟩
theorem ev_eq {α : Type} {g : Nat → Option α} {r r' : α} (h : Ev g r) (e : r = r') : Ev g r' := e ▸ h
theorem ev_loop {α ρ : Type} (L : Nat → Int → Option ρ) (xs : List α) (res : List α → ρ) (hend : Ev (fun k => L k (xs.length : Int)) (res []))
    (hstep : ∀ (n : Nat) (x : α) (r : List α), n < xs.length → xs[n]? = some x → xs.drop n = x :: r → r = xs.drop (n + 1) → Ev (fun k => L k ((n + 1 : Nat) : Int)) (res r) → Ev (fun k => L k (n : Int)) (res (x :: r))) :
    Ev (fun k => L k 0) (res xs) := by
  have h : ∀ d n : Nat, xs.length - n = d → n ≤ xs.length → Ev (fun k => L k (n : Int)) (res (xs.drop n)) := by
    intro d
    induction d with
    | zero =>
      intro n h1 h2
      have : n = xs.length := by omega
      subst this
      rw [List.drop_length]
      exact hend
    | succ d ih =>
      intro n h1 h2
      have hn : n < xs.length := by omega
      have e := List.drop_eq_getElem_cons hn
      rw [e]
      exact hstep n _ _ hn (List.getElem?_eq_getElem hn) e rfl (ih (n + 1) (by omega) (by omega))
  have := h xs.length 0 (by omega) (by omega)
  simpa using this
theorem wrap_in {x : Int} (h0 : -9223372036854775808 ≤ x) (h1 : x ≤ 9223372036854775807) : wrap64 x = x := by unfold wrap64; omega
theorem wrap_nat {n m : Nat} (h : n < m) (hm : m ≤ 9223372036854775807) : wrap64 ((n : Int) + 1) = ((n + 1 : Nat) : Int) := by unfold wrap64; omega
theorem getD_of {α : Type} {xs : List α} {n : Nat} {x d : α} (h : xs[n]? = some x) : xs.getD (n : Int).toNat d = x := by
  simp [List.getD_eq_getElem?_getD, h]
theorem ev_fill {α β : Type} {da : α} {db : β} (L : Nat → List β → Int → Option (List β)) (F : Nat → α → Option β) (xs : List α) (g : α → β) (hl : xs.length ≤ 4611686018427387904)
    (hL : ∀ k ys i, L (k + 1) ys i = if i < (xs.length : Int) then (if 0 ≤ i then ((F k (xs.getD i.toNat da)).bind fun b => if i < (ys.length : Int) then L k (ys.set i.toNat b) (wrap64 (i + 1)) else none) else none) else some ys)
    (hF : ∀ x ∈ xs, Ev (fun k => F k x) (g x)) : Ev (fun k => L k (List.replicate xs.length db) 0) (xs.map g) := by
  have h : ∀ d n : Nat, xs.length - n = d → n ≤ xs.length → Ev (fun k => L k ((xs.take n).map g ++ List.replicate (xs.length - n) db) (n : Int)) (xs.map g) := by
    intro d
    induction d with
    | zero =>
      intro n h1 h2
      have : n = xs.length := by omega
      subst this
      refine Ev.step (fun k => hL k _ _) (ev_neg (by omega) ?_)
      simpa using ev_ret (xs.map g)
    | succ d ih =>
      intro n h1 h2
      have hn : n < xs.length := by omega
      refine Ev.step (fun k => hL k _ _) (ev_pos (by omega) (ev_pos (by omega) ?_))
      have hx := List.getElem?_eq_getElem hn
      rw [getD_of hx]
      refine ev_bind (hF _ (List.getElem_mem hn)) (ev_pos (by simp; omega) ?_)
      rw [wrap_nat hn (by omega)]
      have e : ((xs.take n).map g ++ List.replicate (xs.length - n) db).set (n : Int).toNat (g xs[n]) = (xs.take (n + 1)).map g ++ List.replicate (xs.length - (n + 1)) db := by
        rw [show xs.length - n = (xs.length - (n + 1)) + 1 by omega, List.replicate_succ, List.take_succ_eq_append_getElem hn, List.map_append]
        simp [List.set_append, Nat.min_eq_left (Nat.le_of_lt hn)]
      rw [e]
      exact ih (n + 1) (by omega) (by omega)
  have := h xs.length 0 (by omega) (by omega)
  simpa using this
theorem ev_same {α : Type} {da : α} (L : Nat → Int → Option Bool) (F : Nat → α → α → Option Bool) (xs ys : List α) (hl : xs.length ≤ 4611686018427387904) (hxy : xs = ys)
    (hL : ∀ k i, L (k + 1) i = if i < (xs.length : Int) then (if 0 ≤ i then (if i < (ys.length : Int) then ((F k (xs.getD i.toNat da) (ys.getD i.toNat da)).bind fun t => if t = true then L k (wrap64 (i + 1)) else some false) else none) else none) else some true)
    (hF : ∀ x ∈ xs, Ev (fun k => F k x x) true) : Ev (fun k => L k 0) true := by
  subst hxy
  refine ev_loop L xs (fun _ => true) (Ev.step (fun k => hL k _) (ev_neg (by omega) (ev_ret _))) ?_
  intro n x r hn hx _ _ ih
  refine Ev.step (fun k => hL k _) (ev_pos (by omega) (ev_pos (by omega) (ev_pos (by omega) ?_)))
  rw [getD_of hx]
  refine ev_bind (hF x (List.mem_of_getElem? hx)) (ev_pos rfl ?_)
  rw [wrap_nat hn (by omega)]
  exact ih
def SzOk (f : Nat → Option Int) (a : Int) (P : Prop) : Prop := ∃ r, Ev f r ∧ (r < 0 ∨ (0 ≤ r ∧ r ≤ a ∧ P))
theorem laws_toIntS_ev (l : List Int) (h : l.length ≤ 1048576) : Ev (fun k => laws_toIntS.f k l) l := by
  unfold laws_toIntS.f
  refine ev_pos (by omega) (ev_pos (by omega) ?_)
  have := ev_fill (da := (0 : Int)) (db := (0 : Int)) (fun k ys i => laws_toIntS.l0 k l ys i) (fun k x => some x) l id (by omega) (fun k ys i => by rw [laws_toIntS.l0]; rfl) (fun x _ => ev_ret _)
  simpa using this
theorem laws_eqIntS_ev (l : List Int) (h : l.length ≤ 4611686018427387904) : Ev (fun k => laws_eqIntS.f k l l) true := by
  unfold laws_eqIntS.f
  refine ev_pos rfl ?_
  exact ev_same (da := (0 : Int)) (fun k i => laws_eqIntS.l0 k l l i) (fun k x y => if x = y then some true else some false) l l h rfl (fun k i => by rw [laws_eqIntS.l0]; simp [rd]) (fun x _ => ev_pos rfl (ev_ret _))
def inR (n lo hi : Int) : Bool := decide (lo ≤ n ∧ n ≤ hi)
theorem inR_iff {n lo hi : Int} : inR n lo hi = true ↔ lo ≤ n ∧ n ≤ hi := by simp [inR]
theorem spec_l1In_eq (n lo hi : Int) : spec_l1In.f n lo hi = some (inR n lo hi) := by
  unfold spec_l1In.f inR
  by_cases h : n ≥ lo
  · rw [if_pos h]; congr 1; simp; omega
  · rw [if_neg h]; congr 1; simp; omega
theorem impl_in_eq (n lo hi : Int) : impl_in.f n lo hi = some (inR n lo hi) := by
  unfold impl_in.f inR
  by_cases h : n ≥ lo
  · rw [if_pos h]; congr 1; simp; omega
  · rw [if_neg h]; congr 1; simp; omega
def Evp (G : Nat → Prop) : Prop := ∃ n, ∀ k, n ≤ k → G k
theorem Evp.get {G : Nat → Prop} (h : Evp G) : ∃ k, G k := let ⟨n, h⟩ := h; ⟨n, h n (Nat.le_refl _)⟩
theorem Evp.of {P : Prop} (h : P) : Evp fun _ => P := ⟨0, fun _ _ => h⟩
theorem Evp.and {G H : Nat → Prop} (g : Evp G) (h : Evp H) : Evp fun k => G k ∧ H k := by
  obtain ⟨n, g⟩ := g
  obtain ⟨m, h⟩ := h
  exact ⟨max n m, fun k hk => ⟨g k (by omega), h k (by omega)⟩⟩
theorem Evp.fact {α : Type} {f : Nat → Option α} {r : α} {H : Nat → Prop} (g : Ev f r) (h : Evp H) : Evp fun k => f k = some r ∧ H k := Evp.and (G := fun k => f k = some r) g h
theorem Evp.inl {G H : Nat → Prop} (g : Evp G) : Evp fun k => G k ∨ H k := let ⟨n, g⟩ := g; ⟨n, fun k hk => .inl (g k hk)⟩
theorem Evp.inr {G H : Nat → Prop} (g : Evp H) : Evp fun k => G k ∨ H k := let ⟨n, g⟩ := g; ⟨n, fun k hk => .inr (g k hk)⟩
theorem Evp.ex {α : Type} {G : Nat → α → Prop} (a : α) (g : Evp fun k => G k a) : Evp fun k => ∃ x, G k x := let ⟨n, g⟩ := g; ⟨n, fun k hk => ⟨a, g k hk⟩⟩
theorem Evp.guard {P : Prop} {H : Nat → Prop} (h : ¬ P → Evp H) : Evp fun k => P ∨ H k := by
  by_cases p : P
  · exact .inl (.of p)
  · exact .inr (h p)
theorem Evp.sz {f : Nat → Option Int} {a : Int} {P : Prop} (hf : SzOk f a P) {H : Nat → Int → Prop} (h : ∀ r, 0 ≤ r → r ≤ a → P → Evp fun k => H k r) : Evp fun k => ∃ t : Int, f k = some t ∧ (t < 0 ∨ H k t) := by
  obtain ⟨r, h1, h2⟩ := hf
  refine .ex r (.fact h1 ?_)
  rcases h2 with h2 | ⟨h2, h3, h4⟩
  · exact .inl (.of h2)
  · exact .inr (h r h2 h3 h4)
theorem Evp.ints {l : List Int} (hl : l.length ≤ 1048576) {H : Nat → List Int → Prop} (h : Evp fun k => H k l) : Evp fun k => ∃ b : List Int, laws_toIntS.f k l = some b ∧ b.length ≤ 1048576 ∧ H k b :=
  .ex l (.fact (laws_toIntS_ev l hl) (.and (.of hl) h))
def fromP (n : Int) : Nat → List Int
  | 0 => []
  | m + 1 => n :: fromP (n + 1) m
theorem fromP_length (n : Int) (m : Nat) : (fromP n m).length = m := by
  induction m generalizing n with
  | zero => rfl
  | succ m ih => simp [fromP, ih]
theorem fromP_snoc (n : Int) (m : Nat) : fromP n (m + 1) = fromP n m ++ [n + m] := by
  induction m generalizing n with
  | zero => simp [fromP]
  | succ m ih =>
    rw [fromP, ih (n + 1), fromP, List.cons_append]
    congr 3
    push_cast
    omega
theorem laws_markIntS_ev (w : List Int) (n : Int) (h0 : -4611686018427387904 ≤ n ∧ n ≤ 4611686018427387904) (hl : w.length ≤ 4503599627370496) : Ev (fun k => laws_markIntS.f k w n) (n + w.length, fromP n w.length) := by
  unfold laws_markIntS.f
  have key : ∀ d i : Nat, w.length - i = d → i ≤ w.length → Ev (fun k => laws_markIntS.l0 k (fromP n i ++ w.drop i) (n + i) (i : Int)) (n + w.length, fromP n w.length) := by
    intro d
    induction d with
    | zero =>
      intro i h1 h2
      have : i = w.length := by omega
      subst this
      refine Ev.step (fun k => by rw [laws_markIntS.l0]) (ev_neg (by simp [fromP_length]) ?_)
      rw [List.drop_length, List.append_nil]
      exact ev_ret _
    | succ d ih =>
      intro i h1 h2
      have hi : i < w.length := by omega
      refine Ev.step (fun k => by rw [laws_markIntS.l0]) (ev_pos (by simp [fromP_length]; omega) (ev_pos (by omega) ?_))
      rw [wrap_nat hi (by omega), show wrap64 (n + (i : Int) + 1) = n + ((i + 1 : Nat) : Int) by rw [wrap_in (by omega) (by omega)]; push_cast; omega]
      have e : (fromP n i ++ w.drop i).set ((i : Int)).toNat (n + i) = fromP n (i + 1) ++ w.drop (i + 1) := by
        rw [fromP_snoc, List.set_append, if_neg (by simp [fromP_length]), fromP_length, show ((i : Int)).toNat - i = 0 by omega, List.drop_eq_getElem_cons hi, List.set_cons_zero, List.append_assoc]
        rfl
      rw [e]
      exact ih (i + 1) (by omega) (by omega)
  have := key w.length 0 (by omega) (by omega)
  simpa [fromP] using this
theorem fromP_at (n : Int) : ∀ (m i : Nat), i < m → rd (fromP n m) (i : Int) = n + i := by
  intro m
  induction m generalizing n with
  | zero => intro i h; omega
  | succ m ih =>
    intro i h
    cases i with
    | zero => simp [fromP, rd]
    | succ i =>
      have := ih (n + 1) i (by omega)
      show (fromP n (m + 1)).getD _ 0 = _
      simp only [fromP]
      rw [show (((i + 1 : Nat) : Int)).toNat = i + 1 by omega, List.getD_cons_succ]
      have e : (fromP (n + 1) m).getD i 0 = n + 1 + i := by simpa [rd] using this
      rw [e]
      push_cast
      omega
theorem laws_heldIntS_ev (n : Int) (m : Nat) (h0 : -4611686018427387904 ≤ n ∧ n ≤ 4611686018427387904) (hl : m ≤ 4503599627370496) : Ev (fun k => laws_heldIntS.f k (fromP n m) n) (n + m) := by
  unfold laws_heldIntS.f
  have key : ∀ d i : Nat, m - i = d → i ≤ m → Ev (fun k => laws_heldIntS.l0 k (fromP n m) (n + i) (i : Int)) (n + m) := by
    intro d
    induction d with
    | zero =>
      intro i h1 h2
      have : i = m := by omega
      subst this
      refine Ev.step (fun k => by rw [laws_heldIntS.l0]) (ev_neg (by simp [fromP_length]) (ev_ret _))
    | succ d ih =>
      intro i h1 h2
      have hi : i < m := by omega
      refine Ev.step (fun k => by rw [laws_heldIntS.l0]) (ev_pos (by rw [fromP_length]; omega) (ev_pos (by omega) (ev_pos (fromP_at n m i hi) ?_)))
      rw [wrap_nat hi (by omega), show wrap64 (n + (i : Int) + 1) = n + ((i + 1 : Nat) : Int) by rw [wrap_in (by omega) (by omega)]; push_cast; omega]
      exact ih (i + 1) (by omega) (by omega)
  have := key m 0 (by omega) (by omega)
  simpa using this
theorem Evp.marked (w : List Int) (hl : w.length ≤ 4503599627370496) : Evp fun k => ∃ (m : Int), ∃ (w2 : List Int), laws_markIntS.f k w 1 = some (m, w2) ∧ 0 ≤ m ∧ laws_heldIntS.f k w2 1 = some m ∧ True :=
  .ex (1 + w.length) (.ex (fromP 1 w.length) (.fact (laws_markIntS_ev w 1 (by omega) hl) (.and (.of (by omega)) (.fact (laws_heldIntS_ev 1 w.length (by omega) hl) (.of trivial)))))
def valOk (k v : Int) : Prop := (k = 1 → -9999 ≤ v ∧ v ≤ 9999) ∧ (k = 2 → 0 ≤ v ∧ v ≤ 1)
structure ValsOk (ks vs : List Int) : Prop where
  len : vs.length = ks.length
  at_ : ∀ i : Nat, i < ks.length → valOk (ks.getD i 0) (vs.getD i 0)
theorem ValsOk.nil : ValsOk [] [] := ⟨rfl, fun i h => absurd h (Nat.not_lt_zero i)⟩
theorem ValsOk.rd {ks vs : List Int} (h : ValsOk ks vs) {i : Int} (h0 : inR i 0 ((ks.length : Int) - 1) = true) : valOk (rd ks i) (rd vs i) := by
  have := inR_iff.1 h0
  have e := h.at_ i.toNat (by omega)
  exact e
theorem ValsOk.push {ks vs : List Int} (h : ValsOk ks vs) {k v : Int} (hv : valOk k v) : ValsOk (ks ++ [k]) (vs ++ [v]) := by
  refine ⟨by simp [h.len], fun i hi => ?_⟩
  rw [List.length_append, List.length_singleton] at hi
  by_cases e : i < ks.length
  · have := h.at_ i e
    rw [List.getD_eq_getElem?_getD, List.getD_eq_getElem?_getD] at this ⊢
    rw [List.getElem?_append_left e, List.getElem?_append_left (by rw [h.len]; exact e)]
    exact this
  · have e' : i = ks.length := by omega
    subst e'
    rw [List.getD_eq_getElem?_getD, List.getD_eq_getElem?_getD, List.getElem?_append_right (Nat.le_refl _), List.getElem?_append_right (by rw [h.len]; exact Nat.le_refl _), h.len]
    simpa using hv
def foldN {α σ : Type} (step : Nat → σ → α → σ) : Nat → σ → List α → σ
  | _, s, [] => s
  | n, s, x :: r => foldN step (n + 1) (step n s x) r
theorem foldN_push {α β : Type} (g : α → β) : ∀ (xs : List α) (n : Nat) (s : List β), foldN (fun _ s x => s ++ [g x]) n s xs = s ++ xs.map g
  | [], n, s => by simp [foldN]
  | x :: r, n, s => by unfold foldN; rw [foldN_push g r]; simp
theorem ev_fold {α σ ρ : Type} (L : Nat → σ → Int → Option ρ) (xs : List α) (step : Nat → σ → α → σ) (fin : σ → ρ) (I : Nat → σ → Prop)
    (hend : ∀ s, I xs.length s → Ev (fun k => L k s (xs.length : Int)) (fin s))
    (hstep : ∀ (n : Nat) s x R, n < xs.length → xs[n]? = some x → I n s → Ev (fun k => L k (step n s x) ((n + 1 : Nat) : Int)) R → Ev (fun k => L k s (n : Int)) R)
    (hI : ∀ (n : Nat) s x, n < xs.length → xs[n]? = some x → I n s → I (n + 1) (step n s x)) (s0 : σ) (h0 : I 0 s0) :
    Ev (fun k => L k s0 0) (fin (foldN step 0 s0 xs)) := by
  have h : ∀ d n : Nat, xs.length - n = d → n ≤ xs.length → ∀ s, I n s → Ev (fun k => L k s (n : Int)) (fin (foldN step n s (xs.drop n))) := by
    intro d
    induction d with
    | zero =>
      intro n h1 h2 s hs
      have : n = xs.length := by omega
      subst this
      rw [List.drop_length]
      exact hend s hs
    | succ d ih =>
      intro n h1 h2 s hs
      have hn : n < xs.length := by omega
      have hx := List.getElem?_eq_getElem hn
      rw [List.drop_eq_getElem_cons hn]
      exact hstep n s _ _ hn hx hs (ih (n + 1) (by omega) (by omega) _ (hI n s _ hn hx hs))
  have := h xs.length 0 (by omega) (by omega) s0 h0
  simpa using this
theorem spec_l3Copy_ev (l : List Int) (hl : l.length ≤ 1048576) : Ev (fun k => spec_l3Copy.f k l) l := by
  unfold spec_l3Copy.f
  have := ev_fold (fun k s i => spec_l3Copy.l0 k l s i) l (fun _ s x => s ++ [x]) (fun s => s) (fun n s => s.length = n)
    (fun s hs => Ev.step (fun k => by rw [spec_l3Copy.l0]) (ev_neg (by omega) (ev_ret _)))
    (fun n s x R hn hx hs ih => by
      refine Ev.step (fun k => by rw [spec_l3Copy.l0]) ?_
      rw [show rd l (n : Int) = x from getD_of hx, wrap_nat hn (by omega)]
      exact ev_pos (by omega) (ev_pos (by omega) (ev_pos (by omega) ih)))
    (fun n s x hn hx hs => by simp [hs]) [] rfl
  rw [foldN_push (fun x => x)] at this
  simpa using this
theorem rd_at {set : List Int} {n : Nat} (h : n < set.length) : rd set (n : Int) = set[n] := getD_of (List.getElem?_eq_getElem h)
def absP (n : Int) : Int := if n < 0 then -n else n
def litOk (atoms x : Int) : Bool := decide (x ≠ 0) && inR x (-atoms) atoms
def clauseGo (atoms : Int) (l : List Int) : Nat → List Int → Bool
  | _, [] => true
  | n, x :: r => (litOk atoms x && (decide (n = 0) || decide (absP (l.getD (n - 1) 0) < absP x))) && clauseGo atoms l (n + 1) r
def clauseP (l : List Int) (atoms : Int) : Bool := clauseGo atoms l 0 l
theorem litOk_in {atoms x : Int} (h : litOk atoms x = true) : x ≠ 0 ∧ -atoms ≤ x ∧ x ≤ atoms := by
  unfold litOk at h
  rw [Bool.and_eq_true, decide_eq_true_eq, inR_iff] at h
  exact h
theorem abs_le {n : Int} : 0 ≤ absP n ∧ (absP n = n ∨ absP n = -n) := by unfold absP; split <;> omega
theorem spec_l11Abs_eq {n : Int} (h : -700 ≤ n ∧ n ≤ 700) : spec_l11Abs.f n = some (absP n) := by
  unfold spec_l11Abs.f absP
  rw [wrap_in (x := -n) (by omega) (by omega)]
  split <;> rfl
theorem impl_atomOf_eq {n : Int} (h : -700 ≤ n ∧ n ≤ 700) : impl_atomOf.f n = some (absP n) := by
  unfold impl_atomOf.f absP mx
  rw [wrap_in (x := -n) (by omega) (by omega)]
  split <;> split <;> first | rfl | (congr 1; omega)
theorem spec_l11Lit_eq {x atoms : Int} (h : 0 ≤ atoms ∧ atoms ≤ 700) : spec_l11Lit.f x atoms = some (litOk atoms x) := by
  unfold spec_l11Lit.f litOk
  rw [wrap_in (x := -atoms) (by omega) (by omega), spec_l1In_eq]
  by_cases e : x = 0
  · rw [if_pos e]; simp [e]
  · rw [if_neg e]; simp [e]
theorem clauseGo_at {atoms : Int} {l : List Int} : ∀ (r : List Int) (n : Nat), clauseGo atoms l n r = true → ∀ x ∈ r, litOk atoms x = true
  | [], n, _, x, hx => by cases hx
  | y :: r, n, h, x, hx => by
    unfold clauseGo at h
    simp only [Bool.and_eq_true] at h
    rcases List.mem_cons.1 hx with rfl | hx
    · exact h.1.1
    · exact clauseGo_at r (n + 1) h.2 x hx
theorem clauseP_lit {l : List Int} {atoms : Int} (h : clauseP l atoms = true) : ∀ x ∈ l, litOk atoms x = true := clauseGo_at l 0 h
theorem spec_ClauseValid_ev (l : List Int) {atoms : Int} (ha : 0 ≤ atoms ∧ atoms ≤ 700) (hl : l.length ≤ 9223372036854775806) : Ev (fun k => spec_ClauseValid.f k l atoms) (clauseP l atoms) := by
  unfold spec_ClauseValid.f clauseP
  have key : ∀ d n : Nat, l.length - n = d → n ≤ l.length → (n = 0 ∨ litOk atoms (l.getD (n - 1) 0) = true) → Ev (fun k => spec_ClauseValid.l0 k l atoms (n : Int)) (clauseGo atoms l n (l.drop n)) := by
    intro d
    induction d with
    | zero =>
      intro n g1 g2 g3
      have : n = l.length := by omega
      subst this
      rw [List.drop_length]
      refine Ev.step (fun k => by rw [spec_ClauseValid.l0, spec_l1In_eq]) ?_
      exact ev_neg (by omega) (ev_bind (ev_ret _) (ev_eq (ev_ret _) (inR_iff.2 ha)))
    | succ d ih =>
      intro n g1 g2 g3
      have hn : n < l.length := by omega
      have hx := rd_at hn
      have hget : l.getD n 0 = l[n] := by rw [List.getD_eq_getElem?_getD, List.getElem?_eq_getElem hn]; rfl
      rw [List.drop_eq_getElem_cons hn]
      generalize hq : l[n] = x at *
      unfold clauseGo
      have go : litOk atoms x = true → ∀ b, Ev (fun k => spec_ClauseValid.j1 k l atoms (n : Int) b) (!b && clauseGo atoms l (n + 1) (l.drop (n + 1))) := fun hL b => by
        refine Ev.step (fun k => by rw [spec_ClauseValid.j1, wrap_nat hn (by omega)]) ?_
        cases b with
        | true => exact ev_pos rfl (ev_ret _)
        | false => exact ev_neg (by simp) (ih (n + 1) (by omega) (by omega) (.inr (by rw [Nat.add_sub_cancel, hget]; exact hL)))
      refine Ev.step (fun k => by rw [spec_ClauseValid.l0, hx, spec_l11Lit_eq ha]) ?_
      refine ev_pos (by omega) (ev_pos (by omega) (ev_bind (ev_ret _) ?_))
      by_cases e : litOk atoms x = true
      · refine ev_pos e ?_
        have hxi := litOk_in e
        rw [e, Bool.true_and]
        by_cases z : n = 0
        · subst z
          exact ev_neg (by omega) (ev_eq (go e false) (by simp))
        · rcases g3 with g3 | g3
          · exact absurd g3 z
          have hpi := litOk_in g3
          rw [decide_eq_false z, Bool.false_or]
          refine ev_pos (by omega) (ev_bind (ev_fix (spec_l11Abs_eq (by omega))) ?_)
          have w : wrap64 ((n : Int) - 1) = ((n - 1 : Nat) : Int) := by rw [wrap_in (by omega) (by omega)]; omega
          have hr : rd l ((n - 1 : Nat) : Int) = l.getD (n - 1) 0 := rfl
          rw [w, hr]
          clear w
          refine ev_pos (by omega) (ev_pos (by omega) (ev_bind (ev_fix (spec_l11Abs_eq (by omega))) (ev_eq (go e _) ?_)))
          congr 1
          rw [Bool.eq_iff_iff]
          simp
      · refine ev_neg e (Ev.step (fun k => by rw [spec_ClauseValid.j1]) (ev_pos rfl (ev_eq (ev_ret _) ?_)))
        rw [Bool.not_eq_true] at e
        rw [e]; rfl
  have := key l.length 0 (by omega) (by omega) (.inl rfl)
  simpa using this
theorem impl_ClauseValid_ev (l : List Int) {atoms : Int} (ha : 0 ≤ atoms ∧ atoms ≤ 700) (hl : l.length ≤ 9223372036854775806) : Ev (fun k => impl_ClauseValid.f k l atoms) (clauseP l atoms) := by
  unfold impl_ClauseValid.f clauseP
  have key : ∀ d n : Nat, l.length - n = d → n ≤ l.length → (n = 0 ∨ litOk atoms (l.getD (n - 1) 0) = true) → Ev (fun k => impl_ClauseValid.l0 k l atoms l (l.length : Int) (n : Int)) (clauseGo atoms l n (l.drop n)) := by
    intro d
    induction d with
    | zero =>
      intro n g1 g2 g3
      have : n = l.length := by omega
      subst this
      rw [List.drop_length]
      refine Ev.step (fun k => by rw [impl_ClauseValid.l0]) ?_
      exact ev_neg (by omega) (ev_ret _)
    | succ d ih =>
      intro n g1 g2 g3
      have hn : n < l.length := by omega
      have hx := rd_at hn
      have hget : l.getD n 0 = l[n] := by rw [List.getD_eq_getElem?_getD, List.getElem?_eq_getElem hn]; rfl
      rw [List.drop_eq_getElem_cons hn]
      generalize hq : l[n] = x at *
      unfold clauseGo
      have go : ∀ b, (b = false → litOk atoms x = true) → Ev (fun k => impl_ClauseValid.j1 k l atoms l (l.length : Int) (n : Int) b) (!b && clauseGo atoms l (n + 1) (l.drop (n + 1))) := fun b hL => by
        refine Ev.step (fun k => by rw [impl_ClauseValid.j1, wrap_nat hn (by omega)]) ?_
        cases b with
        | true => exact ev_pos rfl (ev_ret _)
        | false => exact ev_neg (by simp) (ih (n + 1) (by omega) (by omega) (.inr (by rw [Nat.add_sub_cancel, hget]; exact hL rfl)))
      have hw2 : wrap64 (-atoms) = -atoms := wrap_in (by omega) (by omega)
      refine Ev.step (fun k => by rw [impl_ClauseValid.l0, hx, hw2, impl_in_eq]) ?_
      clear hw2
      refine ev_pos (by omega) (ev_pos (by omega) (ev_pos (by omega) (ev_bind (ev_ret _) ?_)))
      by_cases i : inR x (-atoms) atoms = true
      · refine ev_pos i ?_
        by_cases z0 : x = 0
        · refine ev_pos z0 (ev_eq (go true (by simp)) ?_)
          unfold litOk
          simp [z0]
        · have e : litOk atoms x = true := by unfold litOk; rw [i, decide_eq_true z0]; rfl
          have hxi := litOk_in e
          refine ev_neg z0 ?_
          rw [e, Bool.true_and]
          by_cases z : n = 0
          · subst z
            exact ev_neg (by omega) (ev_eq (go false fun _ => e) (by simp))
          · rcases g3 with g3 | g3
            · exact absurd g3 z
            have hpi := litOk_in g3
            rw [decide_eq_false z, Bool.false_or]
            have w : wrap64 ((n : Int) - 1) = ((n - 1 : Nat) : Int) := by rw [wrap_in (by omega) (by omega)]; omega
            have hr : rd l ((n - 1 : Nat) : Int) = l.getD (n - 1) 0 := rfl
            rw [w, hr]
            clear w
            refine ev_pos (by omega) (ev_pos (by omega) (ev_pos (by omega) (ev_bind (ev_fix (impl_atomOf_eq (by omega))) (ev_bind (ev_fix (impl_atomOf_eq (by omega))) (ev_eq (go _ fun _ => e) ?_)))))
            congr 1
            rw [Bool.eq_iff_iff]
            simp
      · refine ev_neg i (ev_eq (go true (by simp)) ?_)
        have : litOk atoms x = false := by unfold litOk; rw [Bool.not_eq_true] at i; rw [i, Bool.and_false]
        rw [this]; rfl
  have := key l.length 0 (by omega) (by omega) (.inl rfl)
  refine ev_bind (ev_fix (impl_in_eq _ _ _)) (ev_pos (inR_iff.2 ha) ?_)
  simpa using this
end Go.Proofs.Ytigbbefdndcmbaa.PA
end
section
set_option linter.unusedVariables false
set_option linter.unusedSimpArgs false
namespace Go.Proofs.Ytigbbefdndcmbaa.PA
open Go.RowKit Go.Proofs.YtigbbefdndcmbaaW.PrintWords
def Tot {α : Type} (g : Nat → Option α) (Q : α → Prop) : Prop := ∃ r, Ev g r ∧ Q r
section
variable {α β : Type} {Q : α → Prop}
theorem tot_ret {r : α} (h : Q r) : Tot (fun _ => some r) Q := ⟨r, ev_ret r, h⟩
theorem tot_pos {c : Prop} [Decidable c] {f g : Nat → Option α} (h : c) (k : Tot f Q) : Tot (fun n => if c then f n else g n) Q := by
  obtain ⟨r, k, q⟩ := k
  exact ⟨r, ev_pos h k, q⟩
end
end Go.Proofs.Ytigbbefdndcmbaa.PA
end
section
set_option linter.unusedVariables false
set_option linter.unusedSimpArgs false
namespace Go.Proofs.Ytigbbefdndcmbaa.PA
open Go.RowKit Go.Proofs.YtigbbefdndcmbaaW.PrintWords
def ltL (x y : Int) : Bool := decide (absP x < absP y) || (decide (absP x = absP y) && decide (x < y))
theorem ltL_iff {x y : Int} : ltL x y = true ↔ absP x < absP y ∨ (absP x = absP y ∧ x < y) := by unfold ltL; simp
theorem ltL_not {x y : Int} : ltL x y = false ↔ ¬ (absP x < absP y ∨ (absP x = absP y ∧ x < y)) := by rw [← ltL_iff, Bool.not_eq_true]
def Lit7 (x : Int) : Prop := -700 ≤ x ∧ x ≤ 700
theorem rd_mid (A T : List Int) (x : Int) : rd (A ++ x :: T) (A.length : Int) = x := by
  show List.getD _ _ _ = _
  simp [List.getD_eq_getElem?_getD]
def OkL (A : List Int) : Prop := A.Pairwise fun x y => ltL y x = false
theorem ltL_asym {x y : Int} (h : ltL x y = true) : ltL y x = false := by
  rw [ltL_iff] at h
  rw [ltL_not]
  omega
def keepI (l : List Int) (i : Nat) : Bool := decide (i = 0) || decide (l.getD i 0 ≠ l.getD (i - 1) 0)
def cI (l : List Int) : Nat → List Int
  | 0 => []
  | n + 1 => cI l n ++ if keepI l n then [l.getD n 0] else []
def compL (l : List Int) : List Int := cI l l.length
theorem cI_len (l : List Int) : ∀ n, (cI l n).length ≤ n
  | 0 => Nat.le_refl _
  | n + 1 => by
    have := cI_len l n
    unfold cI
    split <;> simp <;> omega
theorem rdN {l : List Int} {n : Nat} : rd l (n : Int) = l.getD n 0 := rfl
theorem compact_in (l : List Int) (b : Nat) (hb : 1 ≤ b) (hl : l.length ≤ 4611686018427387904) : ∀ (d : Nat) (row : List Int) (k k2 : Nat), l.length - (b + k2) = d → b + k2 ≤ l.length → row.length = l.length → 1 ≤ k2 → k + 1 ≤ b + k2 → k = (cI l (b + k2)).length → row.take k = cI l (b + k2) →
    (∀ i, b + k2 ≤ i + 1 → row.getD i 0 = l.getD i 0) → Ev (fun f => slices_Compact_int_int.l2 f row (k : Int) (k2 : Int) (b : Int)) (compL l) := by
  intro d
  induction d with
  | zero =>
    intro row k k2 h1 h2 h3 h4 h5 h6 h7 h8
    have e : b + k2 = l.length := by omega
    refine Ev.step (fun f => by rw [slices_Compact_int_int.l2]) ?_
    refine ev_neg (by omega) (ev_pos (by omega) (ev_pos (by omega) (ev_pos (by omega) (ev_pos (by simp; omega) (ev_pos (by omega) (ev_pos (by simp; omega) (ev_eq (ev_ret _) ?_)))))))
    rw [Int.toNat_natCast, List.take_append_of_le_length (by rw [List.length_take]; omega), List.take_take, Nat.min_self, h7, e]
    rfl
  | succ d ih =>
    intro row k k2 h1 h2 h3 h4 h5 h6 h7 h8
    have hr1 : rd row ((b : Int) + (k2 : Int)) = l.getD (b + k2) 0 := by
      rw [show (b : Int) + (k2 : Int) = ((b + k2 : Nat) : Int) by omega, rdN]; exact h8 _ (by omega)
    have hr2 : rd row ((b : Int) + ((k2 - 1 : Nat) : Int)) = l.getD (b + k2 - 1) 0 := by
      rw [show (b : Int) + ((k2 - 1 : Nat) : Int) = ((b + k2 - 1 : Nat) : Int) by omega, rdN]; exact h8 _ (by omega)
    have hw : wrap64 ((k2 : Int) - 1) = ((k2 - 1 : Nat) : Int) := by rw [wrap_in (by omega) (by omega)]; omega
    have hlen := cI_len l (b + k2 + 1)
    refine Ev.step (fun f => by rw [slices_Compact_int_int.l2, hw, hr1, hr2, wrap_nat (n := k2) (m := 9223372036854775806) (by omega) (by omega), wrap_nat (n := k) (m := 9223372036854775806) (by omega) (by omega)]) ?_
    clear hw
    refine ev_pos (by omega) (ev_pos (by omega) (ev_pos (by omega) (ev_pos (by omega) (ev_pos (by omega) ?_))))
    have hstep : cI l (b + (k2 + 1)) = cI l (b + k2) ++ if keepI l (b + k2) then [l.getD (b + k2) 0] else [] := rfl
    have hk : keepI l (b + k2) = decide (l.getD (b + k2) 0 ≠ l.getD (b + k2 - 1) 0) := by
      unfold keepI
      rw [decide_eq_false (by omega : ¬ b + k2 = 0), Bool.false_or]
    by_cases c : l.getD (b + k2) 0 ≠ l.getD (b + k2 - 1) 0
    · rw [hk, if_pos (decide_eq_true c)] at hstep
      refine ev_pos c (ev_pos (by omega) (ev_pos (by omega) (ev_pos (by omega) (ev_pos (by omega) ?_))))
      refine ih (row.set (k : Int).toNat (l.getD (b + k2) 0)) (k + 1) (k2 + 1) (by omega) (by omega) (by rw [List.length_set]; exact h3) (by omega) (by omega) (by rw [hstep, List.length_append, ← h6]; rfl) ?_ (fun i hi => ?_)
      · rw [hstep, ← h7, Int.toNat_natCast, List.take_add_one, List.take_set_of_le (by omega)]
        congr 1
        rw [List.getElem?_set_self (by omega)]
        rfl
      · rw [Int.toNat_natCast, List.getD_eq_getElem?_getD, List.getElem?_set_ne (by omega), ← List.getD_eq_getElem?_getD]
        exact h8 i (by omega)
    · rw [hk, if_neg (by simpa using c), List.append_nil] at hstep
      exact ev_neg c (ih row k (k2 + 1) (by omega) (by omega) h3 (by omega) (by omega) (by rw [hstep]; exact h6) (by rw [hstep]; exact h7) (fun i hi => h8 i (by omega)))
theorem compact_ev (l : List Int) (hl : l.length ≤ 4611686018427387904) : Ev (fun f => slices_Compact_int_int.f f l) (compL l) := by
  have key : ∀ d n : Nat, l.length - n = d → 1 ≤ n → n ≤ l.length → cI l n = l.take n → Ev (fun f => slices_Compact_int_int.l1 f (n : Int) l) (compL l) := by
    intro d
    induction d with
    | zero =>
      intro n h1 h2 h3 h4
      have : n = l.length := by omega
      subst this
      refine Ev.step (fun f => by rw [slices_Compact_int_int.l1]) (ev_neg (by omega) (ev_eq (ev_ret _) ?_))
      unfold compL
      rw [h4, List.take_length]
    | succ d ih =>
      intro n h1 h2 h3 h4
      have hn : n < l.length := by omega
      have hw : wrap64 ((n : Int) - 1) = ((n - 1 : Nat) : Int) := by rw [wrap_in (by omega) (by omega)]; omega
      refine Ev.step (fun f => by rw [slices_Compact_int_int.l1, hw, rdN, rdN, wrap_nat hn (by omega)]) ?_
      clear hw
      have hstep : cI l (n + 1) = cI l n ++ if keepI l n then [l.getD n 0] else [] := rfl
      have hk : keepI l n = decide (l.getD n 0 ≠ l.getD (n - 1) 0) := by
        unfold keepI
        rw [decide_eq_false (by omega : ¬ n = 0), Bool.false_or]
      refine ev_pos (by omega) (ev_pos (by omega) (ev_pos (by omega) (ev_pos (by omega) (ev_pos (by omega) ?_))))
      by_cases c : l.getD n 0 = l.getD (n - 1) 0
      · rw [hk, if_neg (by simpa using c), List.append_nil] at hstep
        refine ev_pos c (ev_pos (by omega) (ev_pos (by omega) (ev_pos (by omega) ?_)))
        have := compact_in l n h2 hl (l.length - (n + 1)) l n 1 rfl (by omega) rfl (by omega) (by omega) (by rw [hstep, h4, List.length_take]; omega) (by rw [hstep, h4]) (fun i hi => rfl)
        exact this
      · rw [hk, if_pos (by simpa using c)] at hstep
        refine ev_neg c (ih (n + 1) (by omega) (by omega) (by omega) ?_)
        rw [hstep, h4, List.take_add_one, List.getElem?_eq_getElem hn]
        congr 1
        rw [List.getD_eq_getElem?_getD, List.getElem?_eq_getElem hn]
        rfl
  unfold slices_Compact_int_int.f
  by_cases c : l.length < 2
  · refine ev_pos (by omega) (ev_eq (ev_ret _) ?_)
    match l, c with
    | [], _ => rfl
    | [x], _ => rfl
    | x :: y :: r, c => simp only [List.length_cons] at c; omega
  · refine ev_neg (by omega) (key _ 1 rfl (by omega) (by omega) ?_)
    match l, c with
    | [], c => simp at c
    | x :: r, _ => rfl
theorem cI_mem (l : List Int) : ∀ n, n ≤ l.length → ∀ x, x ∈ cI l n ↔ x ∈ l.take n
  | 0, _, x => by simp [cI]
  | n + 1, h, x => by
    have ih := cI_mem l n (by omega) x
    have hn : n < l.length := by omega
    have hg : l.getD n 0 = l[n] := by rw [List.getD_eq_getElem?_getD, List.getElem?_eq_getElem hn]; rfl
    unfold cI
    rw [List.take_add_one, List.getElem?_eq_getElem hn, List.mem_append, List.mem_append, ih]
    by_cases c : keepI l n = true
    · rw [if_pos c, hg]; simp
    · rw [if_neg c]
      unfold keepI at c
      simp at c
      obtain ⟨c1, c2⟩ := c
      have hp : n - 1 < l.length := by omega
      have hm : x = l[n] → x ∈ l.take n := fun e => by
        rw [e, ← hg, List.getD_eq_getElem?_getD, c2, List.getElem?_eq_getElem hp]
        exact List.mem_take_iff_getElem.2 ⟨n - 1, by omega, rfl⟩
      constructor
      · rintro (h | h)
        · exact .inl h
        · simp at h
      · rintro (h | h)
        · exact .inl h
        · exact .inl (hm (by simpa using h))
theorem compL_mem {l : List Int} {x : Int} : x ∈ compL l ↔ x ∈ l := by
  unfold compL
  rw [cI_mem l l.length (Nat.le_refl _), List.take_length]
theorem cI_sorted (l : List Int) (ho : OkL l) : ∀ n, n ≤ l.length → (cI l n).Pairwise fun x y => ltL x y = true
  | 0, _ => .nil
  | n + 1, h => by
    have ih := cI_sorted l ho n (by omega)
    have hn : n < l.length := by omega
    have hg : l.getD n 0 = l[n] := by rw [List.getD_eq_getElem?_getD, List.getElem?_eq_getElem hn]; rfl
    unfold cI
    by_cases c : keepI l n = true
    · rw [if_pos c, hg, List.pairwise_append]
      refine ⟨ih, List.pairwise_singleton _ _, fun a ha b hb => ?_⟩
      obtain rfl := List.mem_singleton.1 hb
      have ha := (cI_mem l n (by omega) a).1 ha
      obtain ⟨i, hi, e⟩ := List.mem_take_iff_getElem.1 ha
      have hp : n - 1 < l.length := by omega
      have hne : l[n] ≠ l[n - 1] := by
        unfold keepI at c
        rw [Bool.or_eq_true, decide_eq_true_eq, decide_eq_true_eq] at c
        rcases c with c | c
        · omega
        · rw [hg, List.getD_eq_getElem?_getD, List.getElem?_eq_getElem hp] at c
          exact c
      have pw := List.pairwise_iff_getElem.1 ho
      have h1 : ltL l[n] l[n - 1] = false := pw (n - 1) n hp hn (by omega)
      have h2 : ltL l[n - 1] a = false := by
        by_cases z : i = n - 1
        · subst z
          rw [← e, ltL_not]; omega
        · rw [← e]; exact pw i (n - 1) (by omega) hp (by omega)
      rw [ltL_not] at h1 h2
      rw [ltL_iff]
      unfold absP at *
      omega
    · rw [if_neg c, List.append_nil]
      exact ih
theorem compL_sorted {l : List Int} (ho : OkL l) : (compL l).Pairwise fun x y => ltL x y = true := cI_sorted l ho l.length (Nat.le_refl _)
def mk (p : List Int) (a : Nat) : Int := if (a : Int) ∈ p then (a : Int) else if -(a : Int) ∈ p then -(a : Int) else 0
def coll (p : List Int) : Nat → List Int
  | 0 => []
  | n + 1 => coll p n ++ if mk p (n + 1) ≠ 0 then [mk p (n + 1)] else []
def marksL (m : Nat) (p : List Int) : List Int := (List.range m).map (mk p)
def NoC (p : List Int) : Prop := ∀ x ∈ p, -x ∉ p
instance noCdec (p : List Int) : Decidable (NoC p) := by unfold NoC; infer_instance
def clauseR (l : List Int) (atoms : Nat) : List Int × Bool := if NoC l then (coll l atoms, true) else ([], false)
theorem mk_cases (p : List Int) (a : Nat) : (mk p a = (a : Int) ∧ (a : Int) ∈ p) ∨ (mk p a = -(a : Int) ∧ -(a : Int) ∈ p) ∨ (mk p a = 0 ∧ (a : Int) ∉ p ∧ -(a : Int) ∉ p) := by
  unfold mk
  by_cases h : (a : Int) ∈ p
  · rw [if_pos h]; exact .inl ⟨rfl, h⟩
  · rw [if_neg h]
    by_cases h2 : -(a : Int) ∈ p
    · rw [if_pos h2]; exact .inr (.inl ⟨rfl, h2⟩)
    · rw [if_neg h2]; exact .inr (.inr ⟨rfl, h, h2⟩)
theorem marksL_len (m : Nat) (p : List Int) : (marksL m p).length = m := by simp [marksL]
theorem marksL_get {m : Nat} {p : List Int} {a : Nat} (h : a < m) : (marksL m p).getD a 0 = mk p a := by
  unfold marksL
  rw [List.getD_eq_getElem?_getD, List.getElem?_map, List.getElem?_range h]; rfl
theorem mk_ne {p : List Int} {x : Int} {b : Nat} (h : (b : Int) ≠ absP x) : mk (p ++ [x]) b = mk p b := by
  have h1 : (b : Int) ≠ x := by intro e; apply h; unfold absP; split <;> omega
  have h2 : -(b : Int) ≠ x := by intro e; apply h; unfold absP; split <;> omega
  unfold mk
  simp [h1, h2]
theorem marksL_set {m : Nat} {p : List Int} {x : Int} (h : absP x < m) (hx : mk (p ++ [x]) (absP x).toNat = x) : (marksL m p).set (absP x).toNat x = marksL m (p ++ [x]) := by
  have h0 := (abs_le (n := x)).1
  apply List.ext_getElem
  · simp [marksL]
  · intro i g1 g2
    rw [List.getElem_set]
    simp only [marksL, List.getElem_map, List.getElem_range]
    by_cases e : (absP x).toNat = i
    · subst e; rw [if_pos rfl, hx]
    · rw [if_neg e, mk_ne (by omega)]
theorem coll_len (p : List Int) : ∀ n, (coll p n).length ≤ n
  | 0 => Nat.le_refl _
  | n + 1 => by
    have := coll_len p n
    unfold coll
    split <;> simp <;> omega
theorem coll_ev {p : List Int} {atoms : Nat} (ha : atoms ≤ 700) : Ev (fun k => spec_l11Clause.l3 k [] 1 (atoms : Int) (marksL (atoms + 1) p)) (coll p atoms, true) := by
  have hl : ∀ n, (coll p n).length ≤ n := by
    intro n
    induction n with
    | zero => exact Nat.le_refl _
    | succ n ih => unfold coll; split <;> simp <;> omega
  have key : ∀ d n : Nat, atoms - n = d → n ≤ atoms → Ev (fun k => spec_l11Clause.l3 k (coll p n) ((n + 1 : Nat) : Int) (atoms : Int) (marksL (atoms + 1) p)) (coll p atoms, true) := by
    intro d
    induction d with
    | zero =>
      intro n h1 h2
      have : n = atoms := by omega
      subst this
      refine Ev.step (fun k => by rw [spec_l11Clause.l3]) (ev_neg (by omega) (ev_ret _))
    | succ d ih =>
      intro n h1 h2
      have hn := hl n
      have hr : rd (marksL (atoms + 1) p) ((n + 1 : Nat) : Int) = mk p (n + 1) := by rw [rdN]; exact marksL_get (by omega)
      have ih := ih (n + 1) (by omega) (by omega)
      refine Ev.step (fun k => by rw [spec_l11Clause.l3, hr, wrap_nat (n := n + 1) (m := 1000) (by omega) (by omega)]) ?_
      refine ev_pos (by omega) (ev_pos (by omega) (ev_pos (by rw [marksL_len]; omega) ?_))
      rw [show coll p (n + 1) = coll p n ++ if mk p (n + 1) ≠ 0 then [mk p (n + 1)] else [] from rfl] at ih
      by_cases c : mk p (n + 1) ≠ 0
      · rw [if_pos c] at ih
        exact ev_pos c (ev_pos (by omega) (ev_pos (by rw [marksL_len]; omega) (ev_pos (by omega) ih)))
      · rw [if_neg c, List.append_nil] at ih
        exact ev_neg c ih
  exact key atoms 0 (by omega) (by omega)
theorem spec_l11Clause_ev {l : List Int} {atoms : Nat} (ha : atoms ≤ 700) (hl : l.length ≤ 4611686018427387904) (hx : ∀ x ∈ l, litOk (atoms : Int) x = true) : Ev (fun k => spec_l11Clause.f k l (atoms : Int)) (clauseR l atoms) := by
  have key : ∀ (d : Nat) (p r : List Int), r.length = d → l = p ++ r → NoC p → Ev (fun k => spec_l11Clause.l1 k (marksL (atoms + 1) p) (p.length : Int) l (atoms : Int)) (clauseR l atoms) := by
    intro d
    induction d with
    | zero =>
      intro p r h1 h2 h3
      obtain rfl := List.eq_nil_of_length_eq_zero h1
      rw [List.append_nil] at h2
      subst h2
      refine Ev.step (fun k => by rw [spec_l11Clause.l1]) (ev_neg (by omega) (ev_eq (coll_ev ha) ?_))
      unfold clauseR
      rw [if_pos h3]
    | succ d ih =>
      intro p r h1 h2 h3
      obtain ⟨x, r, rfl⟩ : ∃ x r', r = x :: r' := by
        cases r with
        | nil => simp at h1
        | cons x r => exact ⟨x, r, rfl⟩
      have hlen : l.length = p.length + (r.length + 1) := by rw [h2]; simp
      have hxm : x ∈ l := by rw [h2]; simp
      have hlx := litOk_in (hx x hxm)
      have hA := abs_le (n := x)
      have hr : rd l (p.length : Int) = x := by rw [h2]; exact rd_mid _ _ _
      obtain ⟨a, haE⟩ : ∃ a : Nat, absP x = (a : Int) := ⟨(absP x).toNat, by omega⟩
      have hm : rd (marksL (atoms + 1) p) (a : Int) = mk p a := by rw [rdN]; exact marksL_get (by omega)
      have hx2 : x = (a : Int) ∨ x = -(a : Int) := by omega
      have hgo : (mk p a = 0 ∨ mk p a = x) → Ev (fun k => spec_l11Clause.j2 k l (atoms : Int) (marksL (atoms + 1) p) (p.length : Int) (a : Int)) (clauseR l atoms) := fun hz => by
        have hneg : -x ∉ p := by
          rcases mk_cases p a with ⟨e, m⟩ | ⟨e, m⟩ | ⟨e, m1, m2⟩
          · rcases hz with hz | hz
            · omega
            · intro hmem; exact h3 x (by rw [← hz, e]; exact m) hmem
          · rcases hz with hz | hz
            · omega
            · intro hmem; exact h3 x (by rw [← hz, e]; exact m) hmem
          · rcases hx2 with rfl | rfl
            · exact m2
            · rw [Int.neg_neg]; exact m1
        have hno : NoC (p ++ [x]) := by
          intro y hy hny
          rcases List.mem_append.1 hy with hy | hy
          · rcases List.mem_append.1 hny with hny | hny
            · exact h3 y hy hny
            · have := List.mem_singleton.1 hny
              exact hneg (by rw [← this, Int.neg_neg]; exact hy)
          · obtain rfl := List.mem_singleton.1 hy
            rcases List.mem_append.1 hny with hny | hny
            · exact hneg hny
            · have := List.mem_singleton.1 hny
              omega
        have hmx : mk (p ++ [x]) (absP x).toNat = x := by
          rw [haE, Int.toNat_natCast]
          rcases mk_cases (p ++ [x]) a with ⟨e, m⟩ | ⟨e, m⟩ | ⟨e, m1, m2⟩
          · rcases hx2 with h | h
            · omega
            · exact absurd (show -x ∈ p ++ [x] by rw [show -x = (a : Int) by omega]; exact m) (hno x (by simp))
          · rcases hx2 with h | h
            · exact absurd (show -x ∈ p ++ [x] by rw [show -x = -(a : Int) by omega]; exact m) (hno x (by simp))
            · omega
          · rcases hx2 with h | h
            · exact absurd (show (a : Int) ∈ p ++ [x] by rw [show (a : Int) = x by omega]; simp) m1
            · exact absurd (show -(a : Int) ∈ p ++ [x] by rw [show -(a : Int) = x by omega]; simp) m2
        have hset : (marksL (atoms + 1) p).set ((a : Int)).toNat x = marksL (atoms + 1) (p ++ [x]) := by rw [← haE]; exact marksL_set (by omega) hmx
        refine Ev.step (fun k => by rw [spec_l11Clause.j2, hr, hset, wrap_nat (n := p.length) (m := l.length) (by omega) (by omega)]) ?_
        refine ev_pos (by omega) (ev_pos (by omega) (ev_pos (by omega) (ev_pos (by rw [marksL_len]; omega) ?_)))
        have := ih (p ++ [x]) r (by simpa using h1) (by rw [h2]; simp) hno
        simpa using this
      refine Ev.step (fun k => by rw [spec_l11Clause.l1, hr, spec_l11Abs_eq (by omega), haE]) ?_
      refine ev_pos (by omega) (ev_pos (by omega) (ev_pos (by omega) (ev_bind (ev_ret _) (ev_pos (by omega) (ev_pos (by rw [marksL_len]; omega) ?_)))))
      rw [hm]
      by_cases c : mk p a ≠ 0
      · refine ev_pos c (ev_pos (by omega) (ev_pos (by rw [marksL_len]; omega) (ev_pos (by omega) (ev_pos (by omega) ?_))))
        by_cases e : mk p a ≠ x
        · refine ev_pos e (ev_eq (ev_ret _) ?_)
          unfold clauseR
          rw [if_neg]
          intro hno
          have hn : -x ∈ p := by
            rcases mk_cases p a with ⟨e1, m⟩ | ⟨e1, m⟩ | ⟨e1, m1, m2⟩
            · rcases hx2 with h | h
              · omega
              · rw [h, Int.neg_neg]; exact m
            · rcases hx2 with h | h
              · rw [h]; exact m
              · omega
            · omega
          exact hno x hxm (by rw [h2]; exact List.mem_append.2 (.inl hn))
        · exact ev_neg e (hgo (.inr (by simpa using e)))
      · exact ev_neg c (hgo (.inl (by simpa using c)))
  unfold spec_l11Clause.f
  rw [wrap_in (x := (atoms : Int) + 1) (by omega) (by omega)]
  refine ev_pos (by omega) (ev_pos (by omega) ?_)
  have := key l.length [] l rfl rfl (fun x hx => by cases hx)
  have e : List.replicate ((atoms : Int) + 1).toNat (0 : Int) = marksL (atoms + 1) [] := by
    unfold marksL
    rw [show ((atoms : Int) + 1).toNat = atoms + 1 by omega]
    apply List.ext_getElem
    · simp
    · intro i g1 g2
      simp [mk]
  rw [e]
  exact this
theorem coll_mem {p : List Int} (h0 : ∀ x ∈ p, x ≠ 0) (hn : NoC p) : ∀ n x, x ∈ coll p n ↔ x ∈ p ∧ absP x ≤ n
  | 0, x => by
    constructor
    · intro h; cases h
    · rintro ⟨h, e⟩
      have := h0 x h
      have := abs_le (n := x)
      omega
  | n + 1, x => by
    have ih := coll_mem h0 hn n x
    have hA := abs_le (n := x)
    unfold coll
    rw [List.mem_append, ih]
    constructor
    · rintro (⟨h, e⟩ | h)
      · exact ⟨h, by omega⟩
      · split at h
        · obtain rfl := List.mem_singleton.1 h
          rcases mk_cases p (n + 1) with ⟨e1, m⟩ | ⟨e1, m⟩ | ⟨e1, m1, m2⟩
          · rw [e1]; exact ⟨m, by unfold absP; split <;> omega⟩
          · rw [e1]; exact ⟨m, by unfold absP; split <;> omega⟩
          · contradiction
        · cases h
    · rintro ⟨h, e⟩
      by_cases z : absP x ≤ n
      · exact .inl ⟨h, z⟩
      · right
        have hx0 := h0 x h
        have e1 : mk p (n + 1) = x := by
          have hx2 : x = ((n + 1 : Nat) : Int) ∨ x = -((n + 1 : Nat) : Int) := by omega
          unfold mk
          rcases hx2 with h2 | h2
          · rw [if_pos (by rw [← h2]; exact h), h2]
          · have hnot : ((n + 1 : Nat) : Int) ∉ p := fun m => hn x h (by rw [h2, Int.neg_neg]; exact m)
            rw [if_neg hnot, if_pos (by rw [← h2]; exact h), h2]
        rw [e1, if_pos hx0]
        simp
theorem coll_sorted {p : List Int} (h0 : ∀ x ∈ p, x ≠ 0) (hn : NoC p) : ∀ n, (coll p n).Pairwise fun x y => absP x < absP y
  | 0 => .nil
  | n + 1 => by
    have ih := coll_sorted h0 hn n
    unfold coll
    split
    · rw [List.pairwise_append]
      refine ⟨ih, List.pairwise_singleton _ _, fun a ha b hb => ?_⟩
      obtain rfl := List.mem_singleton.1 hb
      have h1 := ((coll_mem h0 hn n a).1 ha).2
      have h2 : absP (mk p (n + 1)) = ((n + 1 : Nat) : Int) := by
        rcases mk_cases p (n + 1) with ⟨e1, m⟩ | ⟨e1, m⟩ | ⟨e1, m1, m2⟩
        · rw [e1]; unfold absP; split <;> omega
        · rw [e1]; unfold absP; split <;> omega
        · contradiction
      omega
    · rw [List.append_nil]; exact ih
theorem sorted_ext : ∀ {a b : List Int}, (a.Pairwise fun x y => ltL x y = true) → (b.Pairwise fun x y => ltL x y = true) → (∀ x, x ∈ a ↔ x ∈ b) → a = b
  | [], [], _, _, _ => rfl
  | [], y :: b, _, _, h => by have := (h y).2 (by simp); cases this
  | x :: a, [], _, _, h => by have := (h x).1 (by simp); cases this
  | x :: a, y :: b, h1, h2, h => by
    have h1' := List.pairwise_cons.1 h1
    have h2' := List.pairwise_cons.1 h2
    have irr : ∀ z, ltL z z = false := fun z => by rw [ltL_not]; omega
    have e : x = y := by
      have m1 := (h x).1 (by simp)
      have m2 := (h y).2 (by simp)
      rcases List.mem_cons.1 m1 with e | m1
      · exact e
      · rcases List.mem_cons.1 m2 with e | m2
        · exact e.symm
        · have a1 := h2'.1 x m1
          have a2 := h1'.1 y m2
          rw [ltL_asym a1] at a2
          cases a2
    subst e
    congr 1
    refine sorted_ext h1'.2 h2'.2 fun z => ?_
    have hz := h z
    rw [List.mem_cons, List.mem_cons] at hz
    constructor
    · intro m
      rcases hz.1 (.inr m) with rfl | m2
      · have := h1'.1 z m
        rw [irr] at this; cases this
      · exact m2
    · intro m
      rcases hz.2 (.inr m) with rfl | m2
      · have := h2'.1 z m
        rw [irr] at this; cases this
      · exact m2
theorem adj_iff {o : List Int} (hs : o.Pairwise fun x y => ltL x y = true) (h0 : ∀ x ∈ o, x ≠ 0) : NoC o ↔ ∀ i, 1 ≤ i → i < o.length → o.getD i 0 ≠ -(o.getD (i - 1) 0) := by
  have pw := List.pairwise_iff_getElem.1 hs
  have hg : ∀ {i}, (h : i < o.length) → o.getD i 0 = o[i] := fun h => by rw [List.getD_eq_getElem?_getD, List.getElem?_eq_getElem h]; rfl
  constructor
  · intro hn i h1 h2 e
    have h3 : i - 1 < o.length := by omega
    rw [hg h2, hg h3] at e
    exact hn o[i - 1] (List.getElem_mem _) (by rw [← e]; exact List.getElem_mem _)
  · intro h x hx hnx
    have main : ∀ y, y ∈ o → -y ∈ o → y < 0 → False := fun y hy hny hneg => by
      obtain ⟨i, hi, e1⟩ := List.mem_iff_getElem.1 hy
      obtain ⟨j, hj, e2⟩ := List.mem_iff_getElem.1 hny
      have b1 := abs_le (n := y)
      have b2 := abs_le (n := -y)
      have hij : i < j := by
        rcases Nat.lt_trichotomy i j with c | c | c
        · exact c
        · subst c; omega
        · have := pw j i hj hi c
          rw [e1, e2, ltL_iff] at this
          omega
      by_cases c : j = i + 1
      · subst c
        have := h (i + 1) (by omega) hj
        rw [hg hj, Nat.add_sub_cancel, hg hi, e1, e2] at this
        exact this rfl
      · have hm : i + 1 < o.length := by omega
        have a1 := pw i (i + 1) hi hm (by omega)
        have a2 := pw (i + 1) j hm hj (by omega)
        have z0 := h0 o[i + 1] (List.getElem_mem _)
        rw [e1] at a1
        rw [e2] at a2
        rw [ltL_iff] at a1 a2
        have b3 := abs_le (n := o[i + 1])
        omega
    rcases Int.lt_trichotomy x 0 with c | c | c
    · exact main x hx hnx c
    · exact h0 x hx c
    · exact main (-x) hnx (by rw [Int.neg_neg]; exact hx) (by omega)
theorem contrary_ev (o : List Int) (hl : o.length ≤ 1099511627776) (h7 : ∀ x ∈ o, Lit7 x) :
    ((∀ i, 1 ≤ i → i < o.length → o.getD i 0 ≠ -(o.getD (i - 1) 0)) → Ev (fun k => impl_clauseOf.l1 k 1 o) (o, true)) ∧
    (¬ (∀ i, 1 ≤ i → i < o.length → o.getD i 0 ≠ -(o.getD (i - 1) 0)) → Ev (fun k => impl_clauseOf.l1 k 1 o) ([], false)) := by
  have hg : ∀ {i}, (h : i < o.length) → o.getD i 0 = o[i] := fun h => by rw [List.getD_eq_getElem?_getD, List.getElem?_eq_getElem h]; rfl
  have key : ∀ d n : Nat, o.length - n = d → 1 ≤ n → ((∀ i, n ≤ i → i < o.length → o.getD i 0 ≠ -(o.getD (i - 1) 0)) → Ev (fun k => impl_clauseOf.l1 k (n : Int) o) (o, true)) ∧
      (¬ (∀ i, n ≤ i → i < o.length → o.getD i 0 ≠ -(o.getD (i - 1) 0)) → Ev (fun k => impl_clauseOf.l1 k (n : Int) o) ([], false)) := by
    intro d
    induction d with
    | zero =>
      intro n h1 h2
      refine ⟨fun _ => ?_, fun h => absurd (fun i a b => by omega) h⟩
      refine Ev.step (fun k => by rw [impl_clauseOf.l1]) (ev_neg (by omega) ?_)
      exact ev_bind (g := fun _ => impl_clone_int.f o) (ev_fix (by unfold impl_clone_int.f; rw [if_pos (by omega)])) (ev_ret _)
    | succ d ih =>
      intro n h1 h2
      have hn : n < o.length := by omega
      have hp : n - 1 < o.length := by omega
      have hw : wrap64 ((n : Int) - 1) = ((n - 1 : Nat) : Int) := by rw [wrap_in (by omega) (by omega)]; omega
      have h7p : -700 ≤ o.getD (n - 1) 0 ∧ o.getD (n - 1) 0 ≤ 700 := by rw [hg hp]; exact h7 _ (List.getElem_mem _)
      obtain ⟨i1, i2⟩ := ih (n + 1) (by omega) (by omega)
      by_cases c : o.getD n 0 = -(o.getD (n - 1) 0)
      · refine ⟨fun h => absurd c (h n (Nat.le_refl _) hn), fun _ => ?_⟩
        refine Ev.step (fun k => by rw [impl_clauseOf.l1, hw, rdN, rdN, wrap_in (x := -(o.getD (n - 1) 0)) (by omega) (by omega)]) ?_
        clear hw
        exact ev_pos (by omega) (ev_pos (by omega) (ev_pos (by omega) (ev_pos (by omega) (ev_pos (by omega) (ev_pos c (ev_ret _))))))
      · have st : ∀ r, Ev (fun k => impl_clauseOf.l1 k ((n + 1 : Nat) : Int) o) r → Ev (fun k => impl_clauseOf.l1 k (n : Int) o) r := fun r hr => by
          refine Ev.step (fun k => by rw [impl_clauseOf.l1, hw, rdN, rdN, wrap_in (x := -(o.getD (n - 1) 0)) (by omega) (by omega), wrap_nat hn (by omega)]) ?_
          clear hw
          exact ev_pos (by omega) (ev_pos (by omega) (ev_pos (by omega) (ev_pos (by omega) (ev_pos (by omega) (ev_neg c hr)))))
        refine ⟨fun h => st _ (i1 fun i a b => h i (by omega) b), fun h => st _ (i2 fun h2 => h fun i a b => ?_)⟩
        by_cases z : i = n
        · subst z; exact c
        · exact h2 i (by omega) b
  exact key _ 1 rfl (Nat.le_refl _)
theorem NoC_mem {a b : List Int} (h : ∀ x, x ∈ a ↔ x ∈ b) : NoC a ↔ NoC b := by
  unfold NoC
  constructor
  · intro g x hx hn; exact g x ((h x).2 hx) ((h _).2 hn)
  · intro g x hx hn; exact g x ((h x).1 hx) ((h _).1 hn)
theorem impl_clauseOf_ev {l : List Int} {atoms : Nat} (ha : atoms ≤ 700) (hx : ∀ x ∈ l, litOk (atoms : Int) x = true) (hl : l.length ≤ 1048576)
    (hs : Tot (fun k => slices_SortFunc_int_int_at_impl_clauseOf_1.f k l) (fun r => r.Perm l ∧ OkL r)) : Ev (fun k => impl_clauseOf.f k l) (clauseR l atoms) := by
  obtain ⟨s, hs, hp, ho⟩ := hs
  have hlen := hp.length_eq
  have hmem : ∀ x, x ∈ compL s ↔ x ∈ l := fun x => compL_mem.trans hp.mem_iff
  have h0 : ∀ x ∈ l, x ≠ 0 := fun x h => (litOk_in (hx x h)).1
  have h0c : ∀ x ∈ compL s, x ≠ 0 := fun x h => h0 x ((hmem x).1 h)
  have h7 : ∀ x ∈ compL s, Lit7 x := fun x h => by have := litOk_in (hx x ((hmem x).1 h)); unfold Lit7; omega
  have hcl : (compL s).length ≤ 1048576 := by have := cI_len s s.length; unfold compL; omega
  have hsort := compL_sorted ho
  obtain ⟨e1, e2⟩ := contrary_ev (compL s) (by omega) h7
  rw [← adj_iff hsort h0c] at e1 e2
  unfold impl_clauseOf.f
  refine ev_bind (g := fun _ => slices_Clone_int_int.f l) (ev_fix (by unfold slices_Clone_int_int.f; rw [if_pos (by omega)])) (ev_bind hs (ev_bind (compact_ev s (by omega)) ?_))
  unfold clauseR
  by_cases c : NoC l
  · rw [if_pos c]
    have c' := (NoC_mem hmem).2 c
    have e : compL s = coll l atoms := sorted_ext hsort ((coll_sorted h0 c atoms).imp fun h => ltL_iff.2 (.inl h)) fun x => by
      rw [hmem, coll_mem h0 c]
      exact ⟨fun h => ⟨h, by have := litOk_in (hx x h); have := abs_le (n := x); omega⟩, fun h => h.1⟩
    rw [← e]
    exact e1 c'
  · rw [if_neg c]
    exact e2 fun c' => c ((NoC_mem hmem).1 c')
theorem spec_l2Has_of (a : List Int) (x : Int) (h : a.length ≤ 1099511627776) : Ev (fun k => spec_l2Has.f k a x) (decide (x ∈ a)) := by
  unfold spec_l2Has.f
  have key : ∀ d n : Nat, a.length - n = d → n ≤ a.length → Ev (fun k => spec_l2Has.l0 k a x (n : Int)) (decide (x ∈ a.drop n)) := by
    intro d
    induction d with
    | zero =>
      intro n h1 h2
      have : n = a.length := by omega
      subst this
      refine Ev.step (fun k => by rw [spec_l2Has.l0]) ?_
      exact ev_neg (by omega) (ev_eq (ev_ret _) (by simp))
    | succ d ih =>
      intro n h1 h2
      have hn : n < a.length := by omega
      rw [List.drop_eq_getElem_cons hn]
      refine Ev.step (fun k => by rw [spec_l2Has.l0, rd_at hn, wrap_nat hn (by omega)]) ?_
      refine ev_pos (by omega) (ev_pos (by omega) ?_)
      by_cases e : a[n] = x
      · exact ev_pos e (ev_eq (ev_ret _) (by rw [e]; simp))
      · exact ev_neg e (ev_eq (ih (n + 1) (by omega) (by omega)) (by simp only [List.drop_eq_getElem_cons hn, List.mem_cons, Ne.symm e, false_or]))
  have := key a.length 0 (by omega) (by omega)
  simpa using this
theorem has_ev (a : List Int) (x : Int) (h : a.length ≤ 1099511627776) : Ev (fun k => slices_Contains_int_int.f k a x) (decide (x ∈ a)) := by
  unfold slices_Contains_int_int.f slices_Index_int_int.f
  have key : ∀ d n : Nat, a.length - n = d → n ≤ a.length → ∃ r, Ev (fun k => slices_Index_int_int.l0 k a x (a.length : Int) (n : Int)) r ∧ decide (r ≥ 0) = decide (x ∈ a.drop n) := by
    intro d
    induction d with
    | zero =>
      intro n h1 h2
      have : n = a.length := by omega
      subst this
      exact ⟨-1, Ev.step (fun k => by rw [slices_Index_int_int.l0]) (ev_neg (by omega) (ev_ret _)), by simp⟩
    | succ d ih =>
      intro n h1 h2
      have hn : n < a.length := by omega
      rw [List.drop_eq_getElem_cons hn]
      by_cases e : x = a[n]
      · exact ⟨(n : Int), Ev.step (fun k => by rw [slices_Index_int_int.l0, rd_at hn, wrap_nat hn (by omega)]) (ev_pos (by omega) (ev_pos (by omega) (ev_pos (by omega) (ev_pos e (ev_ret _))))), by rw [decide_eq_true (by omega : (n : Int) ≥ 0), e, decide_eq_true (List.mem_cons_self ..)]⟩
      · obtain ⟨r, hr, h3⟩ := ih (n + 1) (by omega) (by omega)
        exact ⟨r, Ev.step (fun k => by rw [slices_Index_int_int.l0, rd_at hn, wrap_nat hn (by omega)]) (ev_pos (by omega) (ev_pos (by omega) (ev_pos (by omega) (ev_neg e hr)))), by rw [h3]; simp only [List.mem_cons, e, false_or]⟩
  obtain ⟨r, h1, h2⟩ := key a.length 0 (by omega) (by omega)
  exact ev_bind h1 (ev_eq (ev_ret _) (by simpa using h2))
theorem without_ev (a : List Int) (x : Int) (h : a.length ≤ 1048576) : Ev (fun k => spec_l11Without.f k a x) (a.filter fun y => decide (y ≠ x)) := by
  unfold spec_l11Without.f
  have key : ∀ d n : Nat, a.length - n = d → n ≤ a.length → ∀ s : List Int, s.length ≤ n → Ev (fun k => spec_l11Without.l0 k a x s (n : Int)) (s ++ (a.drop n).filter fun y => decide (y ≠ x)) := by
    intro d
    induction d with
    | zero =>
      intro n h1 h2 s hs
      have : n = a.length := by omega
      subst this
      refine Ev.step (fun k => by rw [spec_l11Without.l0]) (ev_neg (by omega) (ev_eq (ev_ret _) (by simp)))
    | succ d ih =>
      intro n h1 h2 s hs
      have hn : n < a.length := by omega
      rw [List.drop_eq_getElem_cons hn]
      refine Ev.step (fun k => by rw [spec_l11Without.l0, rd_at hn, wrap_nat hn (by omega)]) ?_
      refine ev_pos (by omega) (ev_pos (by omega) ?_)
      by_cases e : a[n] = x
      · rw [List.filter_cons_of_neg (by simpa using e)]
        exact ev_pos e (ih (n + 1) (by omega) (by omega) s (by omega))
      · rw [List.filter_cons_of_pos (by simpa using e)]
        exact ev_neg e (ev_pos (by omega) (ev_eq (ih (n + 1) (by omega) (by omega) _ (by simp; omega)) (by simp)))
  have := key a.length 0 (by omega) (by omega) [] (by simp)
  simpa using this
theorem join_ev (a b : List Int) (ha : a.length ≤ 1048576) (hb : b.length ≤ 1048576) : Ev (fun k => spec_l11Join.f k a b) (a ++ b) := by
  unfold spec_l11Join.f
  refine ev_bind (spec_l3Copy_ev a ha) ?_
  have key : ∀ d n : Nat, b.length - n = d → n ≤ b.length → ∀ s : List Int, s.length ≤ 1048576 + n → Ev (fun k => spec_l11Join.l0 k b s (n : Int)) (s ++ b.drop n) := by
    intro d
    induction d with
    | zero =>
      intro n h1 h2 s hs
      have : n = b.length := by omega
      subst this
      refine Ev.step (fun k => by rw [spec_l11Join.l0]) (ev_neg (by omega) (ev_eq (ev_ret _) (by simp)))
    | succ d ih =>
      intro n h1 h2 s hs
      have hn : n < b.length := by omega
      rw [List.drop_eq_getElem_cons hn]
      refine Ev.step (fun k => by rw [spec_l11Join.l0, rd_at hn, wrap_nat hn (by omega)]) ?_
      exact ev_pos (by omega) (ev_pos (by omega) (ev_pos (by omega) (ev_eq (ih (n + 1) (by omega) (by omega) _ (by simp; omega)) (by simp))))
  have := key b.length 0 (by omega) (by omega) a (by omega)
  simpa using this
def resL (a b : List Int) (x : Int) : List Int := (a.filter fun y => decide (y ≠ x)) ++ b.filter fun y => decide (y ≠ -x)
def resR (a b : List Int) (x : Int) : List Int × Bool := if clauseP a 700 = true ∧ clauseP b 700 = true ∧ 1 ≤ x ∧ x ∈ a ∧ -x ∈ b then clauseR (resL a b x) 700 else ([], false)
theorem resL_lit {a b : List Int} {x : Int} (ha : clauseP a 700 = true) (hb : clauseP b 700 = true) : ∀ y ∈ resL a b x, litOk ((700 : Nat) : Int) y = true := fun y hy => by
  unfold resL at hy
  rcases List.mem_append.1 hy with hy | hy
  · exact clauseP_lit ha y (List.mem_filter.1 hy).1
  · exact clauseP_lit hb y (List.mem_filter.1 hy).1
theorem spec_Resolved_ev (a b : List Int) (x : Int) (ha : a.length ≤ 1048576) (hb : b.length ≤ 1048576) : Ev (fun k => spec_Resolved.f k a b x) (resR a b x) := by
  have h1 := spec_ClauseValid_ev a (atoms := 700) (by omega) (by omega)
  have h2 := spec_ClauseValid_ev b (atoms := 700) (by omega) (by omega)
  unfold spec_Resolved.f resR
  refine ev_bind h1 ?_
  by_cases c1 : clauseP a 700 = true
  · refine ev_pos c1 (ev_bind h2 ?_)
    by_cases c2 : clauseP b 700 = true
    · refine ev_pos c2 ?_
      by_cases c3 : x < 1
      · exact ev_pos c3 (ev_eq (ev_ret _) (by rw [if_neg]; intro h; omega))
      · refine ev_neg c3 (ev_bind (spec_l2Has_of a x (by omega)) ?_)
        by_cases c4 : x ∈ a
        · have hx := litOk_in (clauseP_lit c1 x c4)
          rw [wrap_in (x := -x) (by omega) (by omega)]
          refine ev_pos (by simpa using c4) (ev_bind (spec_l2Has_of b (-x) (by omega)) ?_)
          by_cases c5 : -x ∈ b
          · rw [if_pos ⟨c1, c2, by omega, c4, c5⟩]
            have l1 := List.length_filter_le (fun y => decide (y ≠ x)) a
            have l2 := List.length_filter_le (fun y => decide (y ≠ -x)) b
            refine ev_pos (by simpa using c5) (ev_bind (without_ev a x ha) (ev_bind (without_ev b (-x) hb) (ev_bind (join_ev _ _ (by omega) (by omega)) (ev_bind (spec_l11Clause_ev (atoms := 700) (l := resL a b x) (by omega) (by unfold resL; simp only [List.length_append]; omega) (resL_lit c1 c2)) (ev_ret _)))))
          · exact ev_neg (by simpa using c5) (ev_eq (ev_ret _) (by rw [if_neg (fun h => c5 h.2.2.2.2)]))
        · exact ev_neg (by simpa using c4) (ev_eq (ev_ret _) (by rw [if_neg (fun h => c4 h.2.2.2.1)]))
    · exact ev_neg c2 (ev_eq (ev_ret _) (by rw [if_neg (fun h => c2 h.2.1)]))
  · exact ev_neg c1 (ev_eq (ev_ret _) (by rw [if_neg (fun h => c1 h.1)]))
theorem impl_Resolved_ev (a b : List Int) (x : Int) (ha : a.length ≤ 524288) (hb : b.length ≤ 524288) (hs : clauseP a 700 = true → clauseP b 700 = true → (∀ y ∈ resL a b x, Lit7 y) → Tot (fun k => slices_SortFunc_int_int_at_impl_clauseOf_1.f k (resL a b x)) (fun r => r.Perm (resL a b x) ∧ OkL r)) : Ev (fun k => impl_Resolved.f k a b x) (resR a b x) := by
  have h1 := impl_ClauseValid_ev a (atoms := 700) (by omega) (by omega)
  have h2 := impl_ClauseValid_ev b (atoms := 700) (by omega) (by omega)
  unfold impl_Resolved.f resR
  refine ev_bind h1 ?_
  by_cases c1 : clauseP a 700 = true
  · refine ev_pos c1 (ev_bind h2 ?_)
    by_cases c2 : clauseP b 700 = true
    · refine ev_pos c2 ?_
      by_cases c3 : x ≤ 0
      · exact ev_pos c3 (ev_eq (ev_ret _) (by rw [if_neg]; intro h; omega))
      · refine ev_neg c3 (ev_bind (has_ev a x (by omega)) ?_)
        by_cases c4 : x ∈ a
        · have hx := litOk_in (clauseP_lit c1 x c4)
          rw [wrap_in (x := -x) (by omega) (by omega)]
          refine ev_pos (by simpa using c4) (ev_bind (has_ev b (-x) (by omega)) ?_)
          by_cases c5 : -x ∈ b
          · rw [if_pos ⟨c1, c2, by omega, c4, c5⟩]
            refine ev_pos (by simpa using c5) ?_
            have l1 := List.length_filter_le (fun y => decide (y ≠ x)) a
            have l2 := List.length_filter_le (fun y => decide (y ≠ -x)) b
            have hlit := resL_lit (x := x) c1 c2
            have hc := impl_clauseOf_ev (l := resL a b x) (atoms := 700) (by omega) hlit (by unfold resL; simp only [List.length_append]; omega) (hs c1 c2 fun y hy => by have := litOk_in (hlit y hy); unfold Lit7; omega)
            have keyb : ∀ d n : Nat, b.length - n = d → n ≤ b.length → ∀ s : List Int, s.length ≤ 524288 + n → s ++ ((b.drop n).filter fun y => decide (y ≠ -x)) = resL a b x → Ev (fun k => impl_Resolved.l2 k s (n : Int) b x) (clauseR (resL a b x) 700) := by
              intro d
              induction d with
              | zero =>
                intro n g1 g2 s g3 g4
                have : n = b.length := by omega
                subst this
                simp only [List.drop_length, List.filter_nil, List.append_nil] at g4
                subst g4
                exact Ev.step (fun k => by rw [impl_Resolved.l2]) (ev_neg (by omega) (ev_bind hc (ev_ret _)))
              | succ d ih =>
                intro n g1 g2 s g3 g4
                have hn : n < b.length := by omega
                rw [List.drop_eq_getElem_cons hn] at g4
                refine Ev.step (fun k => by rw [impl_Resolved.l2, rd_at hn, wrap_nat hn (by omega), wrap_in (x := -x) (by omega) (by omega)]) ?_
                refine ev_pos (by omega) (ev_pos (by omega) (ev_pos (by omega) ?_))
                by_cases e : b[n] ≠ -x
                · rw [List.filter_cons_of_pos (by simpa using e)] at g4
                  exact ev_pos e (ev_pos (by omega) (ih (n + 1) (by omega) (by omega) (s ++ [b[n]]) (by simp; omega) (by rw [← g4]; simp)))
                · rw [List.filter_cons_of_neg (by simpa using e)] at g4
                  exact ev_neg e (ih (n + 1) (by omega) (by omega) s (by omega) g4)
            have keya : ∀ d n : Nat, a.length - n = d → n ≤ a.length → ∀ s : List Int, s.length ≤ n → s ++ ((a.drop n).filter fun y => decide (y ≠ x)) = (a.filter fun y => decide (y ≠ x)) → Ev (fun k => impl_Resolved.l1 k s (n : Int) a b x) (clauseR (resL a b x) 700) := by
              intro d
              induction d with
              | zero =>
                intro n g1 g2 s g3 g4
                have : n = a.length := by omega
                subst this
                simp only [List.drop_length, List.filter_nil, List.append_nil] at g4
                refine Ev.step (fun k => by rw [impl_Resolved.l1]) ?_
                exact ev_neg (by omega) (keyb b.length 0 rfl (by omega) s (by omega) (by rw [g4]; rfl))
              | succ d ih =>
                intro n g1 g2 s g3 g4
                have hn : n < a.length := by omega
                rw [List.drop_eq_getElem_cons hn] at g4
                refine Ev.step (fun k => by rw [impl_Resolved.l1, rd_at hn, wrap_nat hn (by omega)]) ?_
                refine ev_pos (by omega) (ev_pos (by omega) (ev_pos (by omega) ?_))
                by_cases e : a[n] ≠ x
                · rw [List.filter_cons_of_pos (by simpa using e)] at g4
                  exact ev_pos e (ev_pos (by omega) (ih (n + 1) (by omega) (by omega) (s ++ [a[n]]) (by simp; omega) (by rw [← g4]; simp)))
                · rw [List.filter_cons_of_neg (by simpa using e)] at g4
                  exact ev_neg e (ih (n + 1) (by omega) (by omega) s (by omega) g4)
            exact keya a.length 0 rfl (by omega) [] (by simp) (by simp)
          · exact ev_neg (by simpa using c5) (ev_eq (ev_ret _) (by rw [if_neg (fun h => c5 h.2.2.2.2)]))
        · exact ev_neg (by simpa using c4) (ev_eq (ev_ret _) (by rw [if_neg (fun h => c4 h.2.2.2.1)]))
    · exact ev_neg c2 (ev_eq (ev_ret _) (by rw [if_neg (fun h => c2 h.2.1)]))
  · exact ev_neg c1 (ev_eq (ev_ret _) (by rw [if_neg (fun h => c1 h.1)]))
theorem litCf_lt (x y : Int) : litCf x y < 0 ↔ litKey x < litKey y ∨ (litKey x = litKey y ∧ x < y) := by
  unfold litCf litCmp
  generalize litKey x = a
  generalize litKey y = b
  by_cases h1 : a < b
  · simp [h1]
  · by_cases h2 : a > b
    · simp [h1, h2]; omega
    · by_cases h3 : x < y
      · simp [h1, h2, h3]; omega
      · by_cases h4 : x > y
        · simp [h1, h2, h3, h4]
        · simp [h1, h2, h3, h4]
theorem litKey_eq {x : Int} (h : Lit7 x) : litKey x = absP x := by
  unfold Lit7 at h
  have := impl_atomOf_eq h
  unfold impl_atomOf.f at this
  exact Option.some.inj this
theorem sortM_tot (l : List Int) (h7 : ∀ x ∈ l, Lit7 x) (hl : l.length ≤ 4294967296) : Tot (fun k => slices_SortFunc_int_int_at_impl_clauseOf_1.f k l) (fun r => r.Perm l ∧ OkL r) := by
  unfold slices_SortFunc_int_int_at_impl_clauseOf_1.f
  refine tot_pos (by omega) (tot_ret ⟨List.mergeSort_perm l _, ?_⟩)
  have hp := List.mergeSort_perm l fun x y => !(decide (litCf y x < 0))
  have hs := List.pairwise_mergeSort (le := fun x y => !(decide (litCf y x < 0))) (fun a b c h1 h2 => by
    simp only [Bool.not_eq_true', decide_eq_false_iff_not, litCf_lt] at *
    omega) (fun a b => by
    rw [Bool.or_eq_true]
    simp only [Bool.not_eq_true', decide_eq_false_iff_not, litCf_lt]
    omega) l
  refine hs.imp_of_mem fun {a b} ha hb h => ?_
  have ha := h7 a (hp.mem_iff.1 ha)
  have hb := h7 b (hp.mem_iff.1 hb)
  simp only [Bool.not_eq_true', decide_eq_false_iff_not, litCf_lt, litKey_eq ha, litKey_eq hb] at h
  rw [ltL_not]
  exact h
end Go.Proofs.Ytigbbefdndcmbaa.PA
end
section
set_option linter.unusedVariables false
set_option linter.unusedSimpArgs false
namespace Go.Proofs.Ytigbbefdndcmbaa.PA
open Go.RowKit Go.Proofs.YtigbbefdndcmbaaW.PrintWords
theorem resL_len (a b : List Int) (x : Int) : (resL a b x).length ≤ a.length + b.length := by
  have l1 := List.length_filter_le (fun y => decide (y ≠ x)) a
  have l2 := List.length_filter_le (fun y => decide (y ≠ -x)) b
  unfold resL
  rw [List.length_append]
  omega
theorem clauseP_len {l : List Int} {atoms : Int} (ha : 0 ≤ atoms) (h : clauseP l atoms = true) : (l.length : Int) ≤ atoms := by
  have key : ∀ (r : List Int) (n : Nat) (p : Int), clauseGo atoms l n r = true → (n = 0 → p = 0) → (n ≠ 0 → p = absP (l.getD (n - 1) 0)) → l.drop n = r → p ≤ atoms → (r.length : Int) ≤ atoms - p := by
    intro r
    induction r with
    | nil => intro n p _ _ _ _ h; simp; omega
    | cons x r ih =>
      intro n p hg h0 h1 hd hp
      unfold clauseGo at hg
      simp only [Bool.and_eq_true, Bool.or_eq_true, decide_eq_true_eq] at hg
      obtain ⟨⟨c1, c2⟩, c3⟩ := hg
      have hx := litOk_in c1
      have hA := abs_le (n := x)
      have hn : n < l.length := by
        rcases Nat.lt_or_ge n l.length with h | h
        · exact h
        · rw [List.drop_eq_nil_of_le h] at hd; cases hd
      rw [List.drop_eq_getElem_cons hn] at hd
      obtain ⟨e1, e2⟩ := List.cons.inj hd
      have := ih (n + 1) (absP x) c3 (fun h => absurd h (by omega)) (fun _ => by rw [Nat.add_sub_cancel, List.getD_eq_getElem?_getD, List.getElem?_eq_getElem hn, e1]; rfl) e2 (by omega)
      have hlt : p < absP x := by
        rcases c2 with c2 | c2
        · rw [h0 c2]; omega
        · by_cases z : n = 0
          · rw [h0 z]; omega
          · rw [h1 z]; exact c2
      rw [List.length_cons]
      omega
  have := key l 0 0 h (fun _ => rfl) (fun h => absurd rfl h) (by simp) ha
  omega
theorem ExactResolved_pure : laws_FnExactResolved.PureS := by
  intro a b x ha hb hx
  suffices h : Evp fun k => laws_FnExactResolved.Good k a b x from h.get
  unfold laws_FnExactResolved.Good
  refine .guard fun g1 => .guard fun g2 => .ints (by omega) (.ints (by omega) ?_)
  have hS := spec_Resolved_ev a b x (by omega) (by omega)
  have hI : Ev (fun k => impl_Resolved.f k a b x) (resR a b x) := by
    by_cases c : clauseP a 700 = true ∧ clauseP b 700 = true
    · have l1 := clauseP_len (by omega) c.1
      have l2 := clauseP_len (by omega) c.2
      have l3 := resL_len a b x
      exact impl_Resolved_ev a b x (by omega) (by omega) (fun _ _ h7 => sortM_tot _ h7 (by omega))
    · have h1 := impl_ClauseValid_ev a (atoms := 700) (by omega) (by omega)
      have h2 := impl_ClauseValid_ev b (atoms := 700) (by omega) (by omega)
      unfold impl_Resolved.f resR
      rw [if_neg (fun h => c ⟨h.1, h.2.1⟩)]
      refine ev_bind h1 ?_
      by_cases c1 : clauseP a 700 = true
      · have c2 : ¬ clauseP b 700 = true := fun h => c ⟨c1, h⟩
        exact ev_pos c1 (ev_bind h2 (ev_neg c2 (ev_ret _)))
      · exact ev_neg c1 (ev_ret _)
  have hlen : (resR a b x).1.length ≤ 1048576 := by
    unfold resR
    split
    · have : (clauseR (resL a b x) 700).1.length ≤ 700 := by
        unfold clauseR
        split
        · exact coll_len _ _
        · simp
      omega
    · simp
  exact .ex _ (.fact hS (.fact hI (.fact (laws_eqIntS_ev _ (by omega)) (.fact (laws_eqIntS_ev _ (by omega)) (.fact (laws_eqIntS_ev _ (by omega)) (.marked _ (by omega)))))))
end Go.Proofs.Ytigbbefdndcmbaa.PA
namespace Go.Proofs.Ytigbbefdndcmbaa.Pure
theorem FnExactResolved : Go.Proofs.Ytigbbefdndcmbaa.PA.laws_FnExactResolved.PureS := Go.Proofs.Ytigbbefdndcmbaa.PA.ExactResolved_pure
end Go.Proofs.Ytigbbefdndcmbaa.Pure
end
