/- The plain side: what the Lean functions compute, without Go and memory; each theorem under the conditions that it names. -/
import Derived.Test.YtjgfpgoaabppbaaProg
import Derived.Below
import Derived.Deep.Draws
import Derived.Deep.AppendLies
import Derived.Maps.AppendAt
import Derived.OwnWalk
import Derived.Laws.BytesArg
import Derived.Laws.MakeOwn
import Derived.Laws.OwnMore
import Derived.Deep.OwnRows
import Derived.Tactics
import Derived.Lib.ConvBytes
import Derived.Laws.Slices
import Derived.WalkKit
import Derived.KernelRfl
import Derived.RowKit3
import Derived.Deep.LoopGhost
import Derived.Deep.QuietTactic
import Derived.BigQuiet
import Derived.WideLaws
import Derived.Deep.DeepCutAuto
import Derived.Deep.CutBlock
import Derived.Deep.RegionHeld3
import Derived.Laws.Rows
import Derived.Lib.AppendStr
import Derived.ArgAppend
import Derived.Laws.IdiomCopy
import Derived.OrdersHeld
import Derived.Laws.BitsLemmas
import Derived.RowKit
import Derived.Laws.StructEq
import Derived.Lib.SliceRun
import Derived.WalkSpells
import Derived.ChangeArms
import Derived.ChangeSlices
import Derived.Deep.Slices
import Derived.Test.YtjgfpgoaabppbaaKD802d6baaa2
section
set_option linter.unusedVariables false
set_option linter.unusedSimpArgs false
namespace Go.Proofs.Ytjgfpgoaabppbaa.PA
open Go.RowKit Go.Proofs.YtjgfpgoaabppbaaW.PrintWords
theorem ev_ret {α : Type} (r : α) : Ev (fun _ => some r) r := Ev.now r
theorem ev_pos {α : Type} {c : Prop} [Decidable c] {f g : Nat → Option α} {r : α} (h : c) (k : Ev f r) : Ev (fun n => if c then f n else g n) r := by
  simpa [h] using k
theorem ev_neg {α : Type} {c : Prop} [Decidable c] {f g : Nat → Option α} {r : α} (h : ¬ c) (k : Ev g r) : Ev (fun n => if c then f n else g n) r := by
  simpa [h] using k
theorem ev_ite_eq {α : Type} {c : Prop} [Decidable c] {f g : Nat → Option α} {r s : α} (h1 : c → Ev f r) (h2 : ¬ c → Ev g s) : Ev (fun n => if c then f n else g n) (if c then r else s) := by
  by_cases h : c
  · rw [if_pos h]; exact ev_pos h (h1 h)
  · rw [if_neg h]; exact ev_neg h (h2 h)
theorem ev_bind {α β : Type} {g : Nat → Option α} {f : Nat → α → Option β} {a : α} {r : β} (h : Ev g a) (k : Ev (fun n => f n a) r) : Ev (fun n => (g n).bind (fun t => f n t)) r := Ev.bind h k
theorem ev_fix {α : Type} {o : Option α} {r : α} (h : o = some r) : Ev (fun _ => o) r := ⟨0, fun _ _ => h⟩
theorem ev_eq {α : Type} {g : Nat → Option α} {r r' : α} (h : Ev g r) (e : r = r') : Ev g r' := e ▸ h
theorem ev_loop {α ρ : Type} (L : Nat → Int → Option ρ) (xs : List α) (res : List α → ρ) (hend : Ev (fun k => L k (xs.length : Int)) (res []))
    (hstep : ∀ (n : Nat) (x : α) (r : List α), n < xs.length → xs[n]? = some x → xs.drop n = x :: r → r = xs.drop (n + 1) → Ev (fun k => L k ((n + 1 : Nat) : Int)) (res r) → Ev (fun k => L k (n : Int)) (res (x :: r))) :
    Ev (fun k => L k 0) (res xs) := by
  have h : ∀ d n : Nat, xs.length - n = d → n ≤ xs.length → Ev (fun k => L k (n : Int)) (res (xs.drop n)) := by
    intro d
    induction d with
    | zero =>
      intro n h1 h2
      have : n = xs.length := by omega
      subst this
      rw [List.drop_length]
      exact hend
    | succ d ih =>
      intro n h1 h2
      have hn : n < xs.length := by omega
      have e := List.drop_eq_getElem_cons hn
      rw [e]
      exact hstep n _ _ hn (List.getElem?_eq_getElem hn) e rfl (ih (n + 1) (by omega) (by omega))
  have := h xs.length 0 (by omega) (by omega)
  simpa using this
theorem wrap_in {x : Int} (h0 : -9223372036854775808 ≤ x) (h1 : x ≤ 9223372036854775807) : wrap64 x = x := by unfold wrap64; omega
theorem wrap_nat {n m : Nat} (h : n < m) (hm : m ≤ 9223372036854775807) : wrap64 ((n : Int) + 1) = ((n + 1 : Nat) : Int) := by unfold wrap64; omega
theorem getD_of {α : Type} {xs : List α} {n : Nat} {x d : α} (h : xs[n]? = some x) : xs.getD (n : Int).toNat d = x := by
  simp [List.getD_eq_getElem?_getD, h]
theorem ev_fill {α β : Type} {da : α} {db : β} (L : Nat → List β → Int → Option (List β)) (F : Nat → α → Option β) (xs : List α) (g : α → β) (hl : xs.length ≤ 4611686018427387904)
    (hL : ∀ k ys i, L (k + 1) ys i = if i < (xs.length : Int) then (if 0 ≤ i then ((F k (xs.getD i.toNat da)).bind fun b => if i < (ys.length : Int) then L k (ys.set i.toNat b) (wrap64 (i + 1)) else none) else none) else some ys)
    (hF : ∀ x ∈ xs, Ev (fun k => F k x) (g x)) : Ev (fun k => L k (List.replicate xs.length db) 0) (xs.map g) := by
  have h : ∀ d n : Nat, xs.length - n = d → n ≤ xs.length → Ev (fun k => L k ((xs.take n).map g ++ List.replicate (xs.length - n) db) (n : Int)) (xs.map g) := by
    intro d
    induction d with
    | zero =>
      intro n h1 h2
      have : n = xs.length := by omega
      subst this
      refine Ev.step (fun k => hL k _ _) (ev_neg (by omega) ?_)
      simpa using ev_ret (xs.map g)
    | succ d ih =>
      intro n h1 h2
      have hn : n < xs.length := by omega
      refine Ev.step (fun k => hL k _ _) (ev_pos (by omega) (ev_pos (by omega) ?_))
      have hx := List.getElem?_eq_getElem hn
      rw [getD_of hx]
      refine ev_bind (hF _ (List.getElem_mem hn)) (ev_pos (by simp; omega) ?_)
      rw [wrap_nat hn (by omega)]
      have e : ((xs.take n).map g ++ List.replicate (xs.length - n) db).set (n : Int).toNat (g xs[n]) = (xs.take (n + 1)).map g ++ List.replicate (xs.length - (n + 1)) db := by
        rw [show xs.length - n = (xs.length - (n + 1)) + 1 by omega, List.replicate_succ, List.take_succ_eq_append_getElem hn, List.map_append]
        simp [List.set_append, Nat.min_eq_left (Nat.le_of_lt hn)]
      rw [e]
      exact ih (n + 1) (by omega) (by omega)
  have := h xs.length 0 (by omega) (by omega)
  simpa using this
theorem ev_same {α : Type} {da : α} (L : Nat → Int → Option Bool) (F : Nat → α → α → Option Bool) (xs ys : List α) (hl : xs.length ≤ 4611686018427387904) (hxy : xs = ys)
    (hL : ∀ k i, L (k + 1) i = if i < (xs.length : Int) then (if 0 ≤ i then (if i < (ys.length : Int) then ((F k (xs.getD i.toNat da) (ys.getD i.toNat da)).bind fun t => if t = true then L k (wrap64 (i + 1)) else some false) else none) else none) else some true)
    (hF : ∀ x ∈ xs, Ev (fun k => F k x x) true) : Ev (fun k => L k 0) true := by
  subst hxy
  refine ev_loop L xs (fun _ => true) (Ev.step (fun k => hL k _) (ev_neg (by omega) (ev_ret _))) ?_
  intro n x r hn hx _ _ ih
  refine Ev.step (fun k => hL k _) (ev_pos (by omega) (ev_pos (by omega) (ev_pos (by omega) ?_)))
  rw [getD_of hx]
  refine ev_bind (hF x (List.mem_of_getElem? hx)) (ev_pos rfl ?_)
  rw [wrap_nat hn (by omega)]
  exact ih
def SzOk (f : Nat → Option Int) (a : Int) (P : Prop) : Prop := ∃ r, Ev f r ∧ (r < 0 ∨ (0 ≤ r ∧ r ≤ a ∧ P))
theorem sz_len {n : Nat} {a : Int} (h0 : 0 ≤ a) (h1 : a ≤ 1048576) (hn : n ≤ 9223372036854775807) : SzOk (fun _ => if wrap64 (a - (n : Int)) < 0 then some (-1) else some (wrap64 (a - (n : Int)))) a (n ≤ 1048576) := by
  have w : wrap64 (a - (n : Int)) = a - (n : Int) := wrap_in (by omega) (by omega)
  rw [w]
  by_cases h : a - (n : Int) < 0
  · exact ⟨-1, ev_pos h (ev_ret _), .inl (by omega)⟩
  · exact ⟨a - n, ev_neg h (ev_ret _), .inr ⟨by omega, by omega, by omega⟩⟩
theorem sz_then {f : Nat → Option Int} {g : Nat → Int → Option Int} {a : Int} {P Q : Prop} (hf : SzOk f a P) (h1 : a ≤ 1048576) (hg : P → ∀ b, 0 ≤ b → b ≤ a → SzOk (fun k => g k b) b Q) :
    SzOk (fun k => (f k).bind fun t => if t < 0 then some (-1) else g k t) a (P ∧ Q) := by
  obtain ⟨r, hr, h⟩ := hf
  rcases h with h | ⟨h0, ha, hp⟩
  · exact ⟨-1, ev_bind hr (ev_pos h (ev_ret _)), .inl (by omega)⟩
  · obtain ⟨s, hs, k⟩ := hg hp r h0 ha
    refine ⟨s, ev_bind hr (ev_neg (by omega) hs), ?_⟩
    rcases k with k | ⟨k0, ka, kq⟩
    · exact .inl k
    · exact .inr ⟨k0, by omega, hp, kq⟩
theorem sz_end {f : Nat → Option Int} {a : Int} {P : Prop} (hf : SzOk f a P) : SzOk (fun k => (f k).bind fun t => if t < 0 then some (-1) else some t) a P := by
  obtain ⟨r, hr, h⟩ := hf
  rcases h with h | h
  · exact ⟨-1, ev_bind hr (ev_pos h (ev_ret _)), .inl (by omega)⟩
  · exact ⟨r, ev_bind hr (ev_neg (by omega) (ev_ret _)), .inr h⟩
theorem sz_loop {α : Type} {da : α} (L : Nat → Int → Int → Option Int) (F : Nat → α → Int → Option Int) (xs : List α) (P : α → Prop) (hl : xs.length ≤ 9223372036854775807)
    (hL : ∀ k a i, L (k + 1) a i = if i < (xs.length : Int) then (if 0 ≤ i then ((F k (xs.getD i.toNat da) a).bind fun t => if t < 0 then some (-1) else L k t (wrap64 (i + 1))) else none) else some a)
    (hF : ∀ x ∈ xs, ∀ a, 0 ≤ a → a ≤ 1048576 → SzOk (fun k => F k x a) a (P x)) : ∀ a, 0 ≤ a → a ≤ 1048576 → SzOk (fun k => L k a 0) a (∀ x ∈ xs, P x) := by
  have key : ∀ d n : Nat, xs.length - n = d → n ≤ xs.length → ∀ a, 0 ≤ a → a ≤ 1048576 → SzOk (fun k => L k a (n : Int)) a (∀ x ∈ xs.drop n, P x) := by
    intro d
    induction d with
    | zero =>
      intro n e1 e2 a h0 h1
      have : n = xs.length := by omega
      subst this
      refine ⟨a, ?_, .inr ⟨h0, Int.le_refl _, fun x hx => by simp at hx⟩⟩
      refine Ev.step (fun k => hL k _ _) ?_
      exact ev_neg (by omega) (ev_ret _)
    | succ d ih =>
      intro n e1 e2 a h0 h1
      have hn : n < xs.length := by omega
      have hs := sz_then (g := fun k t => L k t ((n + 1 : Nat) : Int)) (hF _ (List.getElem_mem hn) a h0 h1) h1 (fun _ b hb0 hb1 => ih (n + 1) (by omega) (by omega) b hb0 (by omega))
      obtain ⟨r, hr, k⟩ := hs
      refine ⟨r, ?_, ?_⟩
      · refine Ev.step (fun k => by rw [hL, if_pos (by omega), if_pos (by omega), getD_of (List.getElem?_eq_getElem hn), wrap_nat hn (by omega)]) hr
      · rcases k with k | ⟨k0, ka, kp, kq⟩
        · exact .inl k
        · refine .inr ⟨k0, ka, fun x hx => ?_⟩
          rw [List.drop_eq_getElem_cons hn] at hx
          rcases List.mem_cons.1 hx with rfl | hx
          · exact kp
          · exact kq x hx
  intro a h0 h1
  have := key xs.length 0 (by omega) (by omega) a h0 h1
  simpa using this
def cVar (x : LVar) : IVar := ⟨x.f0, x.f1, x.f2⟩
def cTerm (x : LTerm) : ITerm := ⟨x.f0, x.f1, x.f2, x.f3⟩
def cRule (x : LRule) : IRule := ⟨x.f0.map cTerm, x.f1, x.f2.map (fun l => l.map cTerm)⟩
def szRuleP (r : LRule) : Prop := r.f0.length ≤ 1048576 ∧ r.f1.length ≤ 1048576 ∧ r.f2.length ≤ 1048576 ∧ ∀ l ∈ r.f2, l.length ≤ 1048576
theorem laws_szSystem_ok (vars : List LVar) (rules : List LRule) (hv : vars.length ≤ 9223372036854775807) (hr : rules.length ≤ 9223372036854775807)
    (hrr : ∀ r ∈ rules, r.f0.length ≤ 9223372036854775807 ∧ r.f1.length ≤ 9223372036854775807 ∧ r.f2.length ≤ 9223372036854775807 ∧ ∀ l ∈ r.f2, l.length ≤ 9223372036854775807) (a : Int) (h0 : 0 ≤ a) (h1 : a ≤ 1048576) :
    SzOk (fun k => laws_szSystem.f k vars rules a) a (vars.length ≤ 1048576 ∧ rules.length ≤ 1048576 ∧ ∀ r ∈ rules, szRuleP r) := by
  unfold laws_szSystem.f laws_szVarS.f
  refine sz_then (sz_len h0 h1 hv) h1 (fun _ b hb0 hb1 => sz_end ?_)
  unfold laws_szRuleS.f
  have hrule : ∀ r ∈ rules, ∀ c, 0 ≤ c → c ≤ 1048576 → SzOk (fun k => laws_szRule.f k r.f0 r.f1 r.f2 c) c (szRuleP r) := by
    intro r hmem c hc0 hc1
    obtain ⟨m0, m1, m2, m3⟩ := hrr r hmem
    unfold laws_szRule.f laws_szTermS.f laws_szIntS.f
    refine sz_then (sz_len hc0 hc1 m0) hc1 (fun _ d hd0 hd1 => sz_then (sz_len hd0 (by omega) m1) (by omega) (fun _ e he0 he1 => sz_end ?_))
    unfold laws_szTermSS.f
    have hlen := sz_len he0 (show e ≤ 1048576 by omega) m2
    obtain ⟨q, hq, hk⟩ := hlen
    have w : wrap64 (e - (r.f2.length : Int)) = e - (r.f2.length : Int) := wrap_in (by omega) (by omega)
    rw [w]
    by_cases h : e - (r.f2.length : Int) < 0
    · exact ⟨-1, ev_pos h (ev_ret _), .inl (by omega)⟩
    · have hl := sz_loop (da := []) (fun k a i => laws_szTermSS.l0 k r.f2 a i) (fun k x a => laws_szTermS.f x a) r.f2 (fun l => l.length ≤ 1048576) m2 (fun k a i => by rw [laws_szTermSS.l0]; rfl)
        (fun x hx a ha0 ha1 => by unfold laws_szTermS.f; exact sz_len ha0 ha1 (m3 x hx)) (e - (r.f2.length : Int)) (by omega) (by omega)
      obtain ⟨s, hs, k⟩ := hl
      refine ⟨s, ev_neg h hs, ?_⟩
      rcases k with k | ⟨k0, ka, kp⟩
      · exact .inl k
      · exact .inr ⟨k0, by omega, by omega, kp⟩
  have w : wrap64 (b - (rules.length : Int)) = b - (rules.length : Int) := wrap_in (by omega) (by omega)
  rw [w]
  by_cases h : b - (rules.length : Int) < 0
  · exact ⟨-1, ev_pos h (ev_ret _), .inl (by omega)⟩
  · have hl := sz_loop (da := zLRule) (fun k a i => laws_szRuleS.l0 k rules a i) (fun k x a => laws_szRule.f k x.f0 x.f1 x.f2 a) rules szRuleP hr (fun k a i => by rw [laws_szRuleS.l0]; rfl) hrule (b - (rules.length : Int)) (by omega) (by omega)
    obtain ⟨s, hs, k⟩ := hl
    refine ⟨s, ev_neg h hs, ?_⟩
    rcases k with k | ⟨k0, ka, kp⟩
    · exact .inl k
    · exact .inr ⟨k0, by omega, by omega, kp⟩
theorem laws_toVarS_ev (l : List LVar) (h : l.length ≤ 1048576) : Ev (fun k => laws_toVarS.f k l) (l.map cVar) := by
  unfold laws_toVarS.f
  refine ev_pos (by omega) (ev_pos (by omega) ?_)
  exact ev_fill (da := zLVar) (db := zIVar) (fun k ys i => laws_toVarS.l0 k l ys i) (fun k x => some (cVar x)) l cVar (by omega) (fun k ys i => by rw [laws_toVarS.l0]; rfl) (fun x _ => ev_ret _)
theorem laws_toIntS_ev (l : List Int) (h : l.length ≤ 1048576) : Ev (fun k => laws_toIntS.f k l) l := by
  unfold laws_toIntS.f
  refine ev_pos (by omega) (ev_pos (by omega) ?_)
  have := ev_fill (da := (0 : Int)) (db := (0 : Int)) (fun k ys i => laws_toIntS.l0 k l ys i) (fun k x => some x) l id (by omega) (fun k ys i => by rw [laws_toIntS.l0]; rfl) (fun x _ => ev_ret _)
  simpa using this
theorem laws_toTermS_ev (l : List LTerm) (h : l.length ≤ 1048576) : Ev (fun k => laws_toTermS.f k l) (l.map cTerm) := by
  unfold laws_toTermS.f
  refine ev_pos (by omega) (ev_pos (by omega) ?_)
  exact ev_fill (da := zLTerm) (db := zITerm) (fun k ys i => laws_toTermS.l0 k l ys i) (fun k x => some (cTerm x)) l cTerm (by omega) (fun k ys i => by rw [laws_toTermS.l0]; rfl) (fun x _ => ev_ret _)
theorem laws_toTermSS_ev (l : List (List LTerm)) (h : l.length ≤ 1048576) (h2 : ∀ x ∈ l, x.length ≤ 1048576) : Ev (fun k => laws_toTermSS.f k l) (l.map (fun x => x.map cTerm)) := by
  unfold laws_toTermSS.f
  refine ev_pos (by omega) (ev_pos (by omega) ?_)
  exact ev_fill (da := []) (db := []) (fun k ys i => laws_toTermSS.l0 k l ys i) (fun k x => laws_toTermS.f k x) l (fun x => x.map cTerm) (by omega) (fun k ys i => by rw [laws_toTermSS.l0]; rfl) (fun x hx => laws_toTermS_ev x (h2 x hx))
theorem laws_toRule_ev (r : LRule) (h : szRuleP r) : Ev (fun k => laws_toRule.f k r.f0 r.f1 r.f2) ((cRule r).f0, (cRule r).f1, (cRule r).f2) := by
  obtain ⟨h0, h1, h2, h3⟩ := h
  unfold laws_toRule.f
  exact ev_bind (laws_toTermS_ev _ h0) (ev_bind (laws_toIntS_ev _ h1) (ev_bind (laws_toTermSS_ev _ h2 h3) (ev_ret _)))
theorem laws_toRuleS_ev (l : List LRule) (h : l.length ≤ 1048576) (h2 : ∀ r ∈ l, szRuleP r) : Ev (fun k => laws_toRuleS.f k l) (l.map cRule) := by
  unfold laws_toRuleS.f
  refine ev_pos (by omega) (ev_pos (by omega) ?_)
  exact ev_fill (da := zLRule) (db := zIRule) (fun k ys i => laws_toRuleS.l0 k l ys i) (fun k x => (laws_toRule.f k x.f0 x.f1 x.f2).bind fun bt => some ⟨bt.1, bt.2.1, bt.2.2⟩) l cRule (by omega)
    (fun k ys i => by rw [laws_toRuleS.l0]; simp only [Option.bind_assoc, Option.bind_some]; rfl) (fun x hx => ev_bind (laws_toRule_ev x (h2 x hx)) (ev_ret _))
def cSys (vars : List LVar) (rules : List LRule) : List IVar × List IRule := (vars.map cVar, rules.map cRule)
theorem laws_toSystem_ev (vars : List LVar) (rules : List LRule) (h : vars.length ≤ 1048576 ∧ rules.length ≤ 1048576 ∧ ∀ r ∈ rules, szRuleP r) : Ev (fun k => laws_toSystem.f k vars rules) (cSys vars rules) := by
  unfold laws_toSystem.f
  exact ev_bind (laws_toVarS_ev _ h.1) (ev_bind (laws_toRuleS_ev _ h.2.1 h.2.2) (ev_ret _))
theorem laws_eqIntS_ev (l : List Int) (h : l.length ≤ 4611686018427387904) : Ev (fun k => laws_eqIntS.f k l l) true := by
  unfold laws_eqIntS.f
  refine ev_pos rfl ?_
  exact ev_same (da := (0 : Int)) (fun k i => laws_eqIntS.l0 k l l i) (fun k x y => if x = y then some true else some false) l l h rfl (fun k i => by rw [laws_eqIntS.l0]; simp [rd]) (fun x _ => ev_pos rfl (ev_ret _))
theorem laws_eqTermS_ev (l : List ITerm) (h : l.length ≤ 4611686018427387904) : Ev (fun k => laws_eqTermS.f k l l) true := by
  unfold laws_eqTermS.f
  refine ev_pos rfl ?_
  exact ev_same (da := zITerm) (fun k i => laws_eqTermS.l0 k l l i) (fun k x y => laws_eqTerm.f x.f0 x.f1 x.f2 x.f3 y.f0 y.f1 y.f2 y.f3) l l h rfl (fun k i => by rw [laws_eqTermS.l0]; rfl) (fun x _ => by unfold laws_eqTerm.f; simpa using ev_ret true)
theorem laws_eqTermSS_ev (l : List (List ITerm)) (h : l.length ≤ 4611686018427387904) (h2 : ∀ x ∈ l, x.length ≤ 4611686018427387904) : Ev (fun k => laws_eqTermSS.f k l l) true := by
  unfold laws_eqTermSS.f
  refine ev_pos rfl ?_
  exact ev_same (da := []) (fun k i => laws_eqTermSS.l0 k l l i) (fun k x y => laws_eqTermS.f k x y) l l h rfl (fun k i => by rw [laws_eqTermSS.l0]; rfl) (fun x hx => laws_eqTermS_ev x (h2 x hx))
theorem laws_eqVarS_ev (l : List IVar) (h : l.length ≤ 4611686018427387904) : Ev (fun k => laws_eqVarS.f k l l) true := by
  unfold laws_eqVarS.f
  refine ev_pos rfl ?_
  exact ev_same (da := zIVar) (fun k i => laws_eqVarS.l0 k l l i) (fun k x y => laws_eqVar.f x.f0 x.f1 x.f2 y.f0 y.f1 y.f2) l l h rfl (fun k i => by rw [laws_eqVarS.l0]; rfl) (fun x _ => by unfold laws_eqVar.f; simpa using ev_ret true)
def smallRule (r : IRule) : Prop := r.f0.length ≤ 1048576 ∧ r.f1.length ≤ 1048576 ∧ r.f2.length ≤ 1048576 ∧ ∀ l ∈ r.f2, l.length ≤ 1048576
theorem laws_eqRule_ev (r : IRule) (h : smallRule r) : Ev (fun k => laws_eqRule.f k r.f0 r.f1 r.f2 r.f0 r.f1 r.f2) true := by
  obtain ⟨h0, h1, h2, h3⟩ := h
  unfold laws_eqRule.f
  exact ev_bind (laws_eqTermS_ev _ (by omega)) (ev_pos rfl (ev_bind (laws_eqIntS_ev _ (by omega)) (ev_pos rfl (ev_bind (laws_eqTermSS_ev _ (by omega) (fun x hx => by have := h3 x hx; omega)) (ev_pos rfl (ev_ret _))))))
theorem laws_eqRuleS_ev (l : List IRule) (h : l.length ≤ 4611686018427387904) (h2 : ∀ r ∈ l, smallRule r) : Ev (fun k => laws_eqRuleS.f k l l) true := by
  unfold laws_eqRuleS.f
  refine ev_pos rfl ?_
  exact ev_same (da := zIRule) (fun k i => laws_eqRuleS.l0 k l l i) (fun k x y => laws_eqRule.f k x.f0 x.f1 x.f2 y.f0 y.f1 y.f2) l l h rfl (fun k i => by rw [laws_eqRuleS.l0]; rfl) (fun x hx => laws_eqRule_ev x (h2 x hx))
theorem small_of_sz {r : LRule} (h : szRuleP r) : smallRule (cRule r) := by
  obtain ⟨h0, h1, h2, h3⟩ := h
  refine ⟨by simpa [cRule] using h0, h1, by simpa [cRule] using h2, fun l hl => ?_⟩
  simp only [cRule, List.mem_map] at hl
  obtain ⟨x, hx, rfl⟩ := hl
  simpa using h3 x hx
theorem laws_eqSystem_ev (vars : List LVar) (rules : List LRule) (h : vars.length ≤ 1048576 ∧ rules.length ≤ 1048576 ∧ ∀ r ∈ rules, szRuleP r) :
    Ev (fun k => laws_eqSystem.f k (cSys vars rules).1 (cSys vars rules).2 (cSys vars rules).1 (cSys vars rules).2) true := by
  unfold laws_eqSystem.f cSys
  refine ev_bind (laws_eqVarS_ev _ (by simp; omega)) (ev_pos rfl (ev_bind (laws_eqRuleS_ev _ (by simp; omega) ?_) (ev_pos rfl (ev_ret _))))
  intro r hr
  obtain ⟨x, hx, rfl⟩ := List.mem_map.1 hr
  exact small_of_sz (h.2.2 x hx)
def inR (n lo hi : Int) : Bool := decide (lo ≤ n ∧ n ≤ hi)
theorem inR_iff {n lo hi : Int} : inR n lo hi = true ↔ lo ≤ n ∧ n ≤ hi := by simp [inR]
theorem spec_l1In_eq (n lo hi : Int) : spec_l1In.f n lo hi = some (inR n lo hi) := by
  unfold spec_l1In.f inR
  by_cases h : n ≥ lo
  · rw [if_pos h]; congr 1; simp; omega
  · rw [if_neg h]; congr 1; simp; omega
theorem impl_in_eq (n lo hi : Int) : impl_in.f n lo hi = some (inR n lo hi) := by
  unfold impl_in.f inR
  by_cases h : n ≥ lo
  · rw [if_pos h]; congr 1; simp; omega
  · rw [if_neg h]; congr 1; simp; omega
def wantP (op : Int) : Int := if op ≥ 7 then 2 else 1
def kindP (t : ITerm) (ks : List Int) (vars : Int) : Int :=
  if t.f0 = 0 ∧ (inR t.f1 (-9999) 9999 = true ∧ t.f2 = 0 ∧ t.f3 = 0) then 1
  else if t.f0 = 1 ∧ (inR t.f1 0 (vars - 1) = true ∧ t.f2 = 0 ∧ t.f3 = 0) then 1
  else if (inR t.f0 2 9 = true ∧ t.f1 = 0 ∧ inR t.f2 0 (ks.length - 1) = true ∧ inR t.f3 0 (ks.length - 1) = true) ∧ (rd ks t.f2 = wantP t.f0 ∧ rd ks t.f3 = wantP t.f0 ∧ (t.f0 = 7 → t.f3 = t.f2)) then (if t.f0 ≥ 5 then 2 else 1)
  else 0
theorem spec_l1Kind_eq (t : ITerm) (ks : List Int) (vars : Int) (hv : 0 ≤ vars ∧ vars ≤ 5) (hk : ks.length ≤ 40) (m : Nat) : spec_l1Kind.f (m + 6) t.f0 t.f1 t.f2 t.f3 ks vars = some (kindP t ks vars) := by
  have w1 : wrap64 (vars - 1) = vars - 1 := wrap_in (by omega) (by omega)
  have w2 : wrap64 ((ks.length : Int) - 1) = (ks.length : Int) - 1 := wrap_in (by omega) (by omega)
  simp only [spec_l1Kind.f, spec_l1Kind.j0, spec_l1Kind.j1, spec_l1Kind.j2, spec_l1Kind.j3, spec_l1Kind.j4, spec_l1In_eq, spec_l1One.f, Option.bind_some, w1, w2]
  unfold kindP wantP
  cases t with | mk op n a b =>
  dsimp only
  by_cases h0 : op = 0
  · subst h0
    by_cases h : inR n (-9999) 9999 = true ∧ a = 0 ∧ b = 0
    · simp [h.1, h.2.1, h.2.2]
    · have hc : ¬ ((0 : Int) = 0 ∧ (inR n (-9999) 9999 = true ∧ a = 0 ∧ b = 0)) := fun x => h x.2
      rw [if_neg hc]
      have : inR (0 : Int) 2 9 = false := by simp [inR]
      by_cases h1 : inR n (-9999) 9999 = true
      · by_cases h2 : a = 0
        · have h3 : b ≠ 0 := fun e => h ⟨h1, h2, e⟩
          simp [h1, h2, h3, this]
        · simp [h1, h2, this]
      · simp [h1, this]
  · have hc : ¬ (op = 0 ∧ (inR n (-9999) 9999 = true ∧ a = 0 ∧ b = 0)) := fun x => h0 x.1
    rw [if_neg hc, if_neg h0]
    by_cases h1 : op = 1
    · subst h1
      have h29 : inR (1 : Int) 2 9 = false := by simp [inR]
      by_cases h2 : inR n 0 (vars - 1) = true
      · by_cases h3 : a = 0
        · by_cases h4 : b = 0 <;> simp [h2, h3, h4, h29]
        · simp [h2, h3, h29]
      · simp [h2, h29]
    · have hc1 : ¬ (op = 1 ∧ (inR n 0 (vars - 1) = true ∧ a = 0 ∧ b = 0)) := fun x => h1 x.1
      rw [if_neg hc1]
      by_cases g1 : inR op 2 9 = true
      · by_cases g2 : n = 0
        · by_cases g3 : inR a 0 ((ks.length : Int) - 1) = true
          · by_cases g4 : inR b 0 ((ks.length : Int) - 1) = true
            · have ha := inR_iff.1 g3
              have hb := inR_iff.1 g4
              have ha1 : a < (ks.length : Int) := by omega
              have hb1 : b < (ks.length : Int) := by omega
              by_cases g7 : op ≥ 7
              · by_cases r1 : rd ks a = 2
                · by_cases r2 : rd ks b = 2
                  · by_cases o7 : op = 7
                    · subst o7
                      by_cases e : b = a <;> simp [h1, g1, g2, g3, g4, ha.1, hb.1, ha1, hb1, r1, r2, e]
                    · simp [h1, g1, g2, g3, g4, ha.1, hb.1, ha1, hb1, g7, r1, r2, o7]; split <;> rfl
                  · simp [h1, g1, g2, g3, g4, ha.1, hb.1, ha1, hb1, g7, r1, r2]
                · simp [h1, g1, g2, g3, g4, ha.1, hb.1, ha1, hb1, g7, r1]
              · have o7 : op ≠ 7 := by omega
                by_cases r1 : rd ks a = 1
                · by_cases r2 : rd ks b = 1
                  · simp [h1, g1, g2, g3, g4, ha.1, hb.1, ha1, hb1, g7, r1, r2, o7]; split <;> rfl
                  · simp [h1, g1, g2, g3, g4, ha.1, hb.1, ha1, hb1, g7, r1, r2]
                · simp [h1, g1, g2, g3, g4, ha.1, hb.1, ha1, hb1, g7, r1]
            · simp [h1, g1, g2, g3, g4]
          · simp [h1, g1, g2, g3]
        · simp [h1, g1, g2]
      · simp [h1, g1]
def kindsGo (vars : Int) : List ITerm → List Int → List Int
  | [], ks => ks
  | t :: ts, ks => if kindP t ks vars = 0 then [] else kindsGo vars ts (ks ++ [kindP t ks vars])
def kindsOk (l : List ITerm) (vars : Int) : Bool := inR vars 0 5 && inR l.length 1 40
def kindsP (l : List ITerm) (vars : Int) : List Int := if kindsOk l vars = true then kindsGo vars l [] else []
theorem kindsGo_length (vars : Int) : ∀ (l : List ITerm) (ks : List Int), kindsGo vars l ks = [] ∨ (kindsGo vars l ks).length = ks.length + l.length
  | [], ks => .inr (by simp [kindsGo])
  | t :: ts, ks => by
    unfold kindsGo
    split
    · exact .inl rfl
    · rcases kindsGo_length vars ts (ks ++ [kindP t ks vars]) with h | h
      · exact .inl h
      · exact .inr (by rw [h]; simp; omega)
theorem kindsP_length (l : List ITerm) (vars : Int) (h : kindsP l vars ≠ []) : (kindsP l vars).length = l.length ∧ kindsOk l vars = true := by
  unfold kindsP at h ⊢
  split
  · rename_i hk
    rw [if_pos hk] at h
    rcases kindsGo_length vars l [] with h1 | h1
    · exact absurd h1 h
    · exact ⟨by simpa using h1, hk⟩
  · rename_i hk
    rw [if_neg hk] at h
    exact absurd rfl h
theorem spec_KindsOf_ev (l : List ITerm) (vars : Int) : Ev (fun k => spec_KindsOf.f k l vars) (kindsP l vars) := by
  unfold spec_KindsOf.f
  simp only [spec_l1In_eq, Option.bind_some]
  by_cases h1 : inR vars 0 5 = true
  · by_cases h2 : inR (l.length : Int) 1 40 = true
    · have hv := inR_iff.1 h1
      have hl := inR_iff.1 h2
      refine ev_pos h1 (Ev.step (fun k => by rw [spec_KindsOf.j0]) (ev_neg (by simp [h2]) ?_))
      have hP : kindsP l vars = kindsGo vars l [] := by unfold kindsP kindsOk; simp [h1, h2]
      rw [hP]
      have key : ∀ d n : Nat, l.length - n = d → n ≤ l.length → ∀ ks : List Int, ks.length ≤ n → Ev (fun k => spec_KindsOf.l0 k l vars ks (n : Int)) (kindsGo vars (l.drop n) ks) := by
        intro d
        induction d with
        | zero =>
          intro n e1 e2 ks hks
          have : n = l.length := by omega
          subst this
          refine Ev.step (fun k => by rw [spec_KindsOf.l0]) (ev_neg (by omega) ?_)
          rw [List.drop_length]
          exact ev_ret _
        | succ d ih =>
          intro n e1 e2 ks hks
          have hn : n < l.length := by omega
          have hx := List.getElem?_eq_getElem hn
          refine Ev.step (fun k => by rw [spec_KindsOf.l0]) (ev_pos (by omega) (ev_pos (by omega) ?_))
          have hr : rd_ITerm l (n : Int) = l[n] := getD_of hx
          rw [hr]
          have hK : Ev (fun k => spec_l1Kind.f k l[n].f0 l[n].f1 l[n].f2 l[n].f3 ks vars) (kindP l[n] ks vars) :=
            ⟨6, fun k hk => by obtain ⟨m, rfl⟩ : ∃ m, k = m + 6 := ⟨k - 6, by omega⟩; exact spec_l1Kind_eq _ _ _ hv (by omega) m⟩
          refine ev_bind hK ?_
          rw [List.drop_eq_getElem_cons hn]
          unfold kindsGo
          refine ev_ite_eq (fun h => ev_ret _) (fun h => ev_pos (by omega) ?_)
          rw [wrap_nat hn (by omega)]
          exact ih (n + 1) (by omega) (by omega) _ (by simp; omega)
      have := key l.length 0 (by omega) (by omega) [] (by simp)
      simpa using this
    · refine ev_pos h1 (Ev.step (fun k => by rw [spec_KindsOf.j0]) (ev_pos (by simpa using h2) ?_))
      have hP : kindsP l vars = [] := by unfold kindsP kindsOk; simp [h2]
      rw [hP]
      exact ev_ret _
  · refine ev_neg h1 (Ev.step (fun k => by rw [spec_KindsOf.j0]) (ev_pos rfl ?_))
    have hP : kindsP l vars = [] := by unfold kindsP kindsOk; simp [h1]
    rw [hP]
    exact ev_ret _
def partsP (op : Int) : Int × Int × Int :=
  if op = 2 ∨ op = 3 ∨ op = 4 then (2, 1, 1) else if op = 5 ∨ op = 6 then (2, 1, 2) else if op = 7 then (1, 2, 2) else if op = 8 ∨ op = 9 then (2, 2, 2) else (0, 0, 1)
theorem impl_parts_eq (op : Int) (m : Nat) : impl_parts.f (m + 3) op = some (partsP op) := by
  simp only [impl_parts.f, impl_parts.j0, impl_parts.j1, impl_parts.j2]
  unfold partsP
  by_cases h2 : op = 2
  · subst h2; simp
  by_cases h3 : op = 3
  · subst h3; simp
  by_cases h4 : op = 4
  · subst h4; simp
  by_cases h5 : op = 5
  · subst h5; simp
  by_cases h6 : op = 6
  · subst h6; simp
  by_cases h7 : op = 7
  · subst h7; simp
  by_cases h8 : op = 8
  · subst h8; simp
  by_cases h9 : op = 9
  · subst h9; simp
  simp [h2, h3, h4, h5, h6, h7, h8, h9]
theorem impl_parts_ev (op : Int) : Ev (fun k => impl_parts.f k op) (partsP op) := ⟨3, fun k hk => by obtain ⟨m, rfl⟩ : ∃ m, k = m + 3 := ⟨k - 3, by omega⟩; exact impl_parts_eq op m⟩
theorem partsP_low (op : Int) (h : op = 0 ∨ op = 1) : (partsP op).2.2 = 1 := by
  rcases h with rfl | rfl <;> simp [partsP]
theorem partsP_high (op : Int) (h : inR op 2 9 = true) : (partsP op).2.1 = wantP op ∧ (partsP op).2.2 = (if op ≥ 5 then 2 else 1) ∧ ((partsP op).1 = 2 ↔ op ≠ 7) := by
  have := inR_iff.1 h
  obtain ⟨a, b⟩ := this
  have : op = 2 ∨ op = 3 ∨ op = 4 ∨ op = 5 ∨ op = 6 ∨ op = 7 ∨ op = 8 ∨ op = 9 := by omega
  rcases this with rfl | rfl | rfl | rfl | rfl | rfl | rfl | rfl <;> simp [partsP, wantP]
theorem kindsGo_step {vars : Int} {t : ITerm} {ts : List ITerm} {ks : List Int} {r : Int} (h : kindP t ks vars = r) (hr : r ≠ 0) : kindsGo vars (t :: ts) ks = kindsGo vars ts (ks ++ [r]) := by
  rw [kindsGo, h, if_neg hr]
theorem kindsGo_none {vars : Int} {t : ITerm} {ts : List ITerm} {ks : List Int} (h : kindP t ks vars = 0) : kindsGo vars (t :: ts) ks = [] := by
  rw [kindsGo, if_pos h]
theorem impl_kindsOf_ev (l : List ITerm) (vars : Int) : Ev (fun k => impl_kindsOf.f k l vars) (kindsP l vars) := by
  unfold impl_kindsOf.f
  simp only [impl_in_eq, Option.bind_some]
  by_cases h1 : inR vars 0 5 = true
  · by_cases h2 : inR (l.length : Int) 1 40 = true
    · have hv := inR_iff.1 h1
      have hl := inR_iff.1 h2
      refine ev_pos h1 (Ev.step (fun k => by rw [impl_kindsOf.j0]) (ev_neg (by simp [h2]) (ev_pos (by omega) (ev_pos (by omega) ?_))))
      have hP : kindsP l vars = kindsGo vars l [] := by unfold kindsP kindsOk; simp [h1, h2]
      rw [hP]
      have w1 : wrap64 (vars - 1) = vars - 1 := wrap_in (by omega) (by omega)
      have key : ∀ d n : Nat, l.length - n = d → n ≤ l.length → ∀ ks : List Int, ks.length = n → Ev (fun k => impl_kindsOf.l0 k vars ks l (l.length : Int) (n : Int)) (kindsGo vars (l.drop n) ks) := by
        intro d
        induction d with
        | zero =>
          intro n e1 e2 ks hks
          have : n = l.length := by omega
          subst this
          refine Ev.step (fun k => by rw [impl_kindsOf.l0]) (ev_neg (by omega) (ev_pos (by omega) ?_))
          rw [List.drop_length]
          exact ev_ret _
        | succ d ih =>
          intro n e1 e2 ks hks
          have hn : n < l.length := by omega
          have hx := List.getElem?_eq_getElem hn
          refine Ev.step (fun k => by rw [impl_kindsOf.l0]) (ev_pos (by omega) (ev_pos (by omega) (ev_pos (by omega) ?_)))
          have hr : rd_ITerm l (n : Int) = l[n] := getD_of hx
          rw [hr, List.drop_eq_getElem_cons hn]
          generalize l[n] = t
          have w2 : wrap64 ((n : Int) - 1) = (ks.length : Int) - 1 := by rw [hks]; exact wrap_in (by omega) (by omega)
          have J : ∀ (r : Int) (b : Bool), (b = true → kindP t ks vars = r ∧ r ≠ 0) → (b = false → kindP t ks vars = 0) → Ev (fun k => impl_kindsOf.j2 k vars ks r b l (l.length : Int) (n : Int)) (kindsGo vars (t :: l.drop (n + 1)) ks) := by
            intro r b h1 h2
            refine Ev.step (fun k => by rw [impl_kindsOf.j2]) ?_
            cases b with
            | true =>
              obtain ⟨h, hr⟩ := h1 rfl
              refine ev_pos rfl (ev_pos (by omega) ?_)
              rw [wrap_nat hn (by omega), kindsGo_step h hr]
              exact ih (n + 1) (by omega) (by omega) _ (by simp; omega)
            | false => exact ev_neg (by simp) (by rw [kindsGo_none (h2 rfl)]; exact ev_ret _)
          refine ev_bind (impl_parts_ev t.f0) ?_
          simp only [impl_in_eq, Option.bind_some, w1, w2]
          cases t with | mk op n' a b =>
          dsimp only at J ⊢
          have stop : ∀ r : Int, kindP ⟨op, n', a, b⟩ ks vars = 0 → Ev (fun k => impl_kindsOf.j2 k vars ks r false l (l.length : Int) (n : Int)) (kindsGo vars (⟨op, n', a, b⟩ :: l.drop (n + 1)) ks) := fun r h => J r false (fun e => by cases e) (fun _ => h)
          by_cases h0 : op = 0
          · refine ev_pos h0 ?_
            have hp := partsP_low op (.inl h0)
            have z : inR op 2 9 = false := by subst h0; simp [inR]
            by_cases g1 : inR n' (-9999) 9999 = true
            · by_cases g2 : a = 0
              · refine ev_pos g1 (ev_pos g2 (J _ _ (fun e => ?_) (fun e => ?_)))
                · rw [hp]
                  exact ⟨by unfold kindP; rw [if_pos ⟨h0, g1, g2, by simpa using e⟩], by decide⟩
                · have g3 : b ≠ 0 := by simpa using e
                  subst h0; simp [kindP, g3, z]
              · exact ev_pos g1 (ev_neg g2 (stop _ (by subst h0; simp [kindP, g2, z])))
            · exact ev_neg g1 (stop _ (by subst h0; simp [kindP, g1, z]))
          · refine ev_neg h0 ?_
            by_cases h1' : op = 1
            · refine ev_pos h1' ?_
              have hp := partsP_low op (.inr h1')
              have z : inR op 2 9 = false := by subst h1'; simp [inR]
              by_cases g1 : inR n' 0 (vars - 1) = true
              · by_cases g2 : a = 0
                · refine ev_pos g1 (ev_pos g2 (J _ _ (fun e => ?_) (fun e => ?_)))
                  · rw [hp]
                    exact ⟨by unfold kindP; rw [if_neg (fun x => h0 x.1), if_pos ⟨h1', g1, g2, by simpa using e⟩], by decide⟩
                  · have g3 : b ≠ 0 := by simpa using e
                    subst h1'; simp [kindP, g3, z]
                · exact ev_pos g1 (ev_neg g2 (stop _ (by subst h1'; simp [kindP, g2, z])))
              · exact ev_neg g1 (stop _ (by subst h1'; simp [kindP, g1, z]))
            · refine ev_neg h1' ?_
              have c0 : ∀ P : Prop, ¬ (op = 0 ∧ P) := fun P x => h0 x.1
              have c1 : ∀ P : Prop, ¬ (op = 1 ∧ P) := fun P x => h1' x.1
              by_cases g0 : inR op 0 9 = true
              · have g29 : inR op 2 9 = true := by have := inR_iff.1 g0; exact inR_iff.2 (by omega)
                obtain ⟨p1, p2, p3⟩ := partsP_high op g29
                refine ev_pos g0 ?_
                rw [p1]
                by_cases g1 : n' = 0
                · refine ev_pos g1 ?_
                  by_cases g2 : inR a 0 ((ks.length : Int) - 1) = true
                  · refine ev_pos g2 ?_
                    by_cases g3 : inR b 0 ((ks.length : Int) - 1) = true
                    · have ha := inR_iff.1 g2
                      have hb := inR_iff.1 g3
                      refine ev_pos g3 (ev_pos ha.1 (ev_pos (by omega) ?_))
                      by_cases g4 : rd ks a = wantP op
                      · refine ev_pos g4 (ev_pos hb.1 (ev_pos (by omega) ?_))
                        by_cases g5 : rd ks b = wantP op
                        · refine ev_pos g5 ?_
                          have hres : (op = 7 → b = a) → kindP ⟨op, n', a, b⟩ ks vars = (partsP op).2.2 := fun e => by
                            unfold kindP
                            dsimp only
                            rw [if_neg (c0 _), if_neg (c1 _), if_pos ⟨⟨g29, g1, g2, g3⟩, g4, g5, e⟩, p2]
                          have hne : (partsP op).2.2 ≠ 0 := by rw [p2]; split <;> decide
                          by_cases g6 : (partsP op).1 = 2
                          · exact ev_pos g6 (J _ _ (fun _ => ⟨hres (fun e => absurd e (p3.1 g6)), hne⟩) (fun e => by cases e))
                          · have e7 : op = 7 := by
                              by_cases e : op = 7
                              · exact e
                              · exact absurd (p3.2 e) g6
                            refine ev_neg g6 (J _ _ (fun e => ⟨hres (fun _ => (beq_iff_eq.1 e).symm), hne⟩) (fun e => ?_))
                            have g7 : a ≠ b := beq_eq_false_iff_ne.1 e
                            unfold kindP
                            dsimp only
                            rw [if_neg (c0 _), if_neg (c1 _), if_neg (fun x => g7 (x.2.2.2 e7).symm)]
                        · refine ev_neg g5 (stop _ ?_)
                          unfold kindP
                          dsimp only
                          rw [if_neg (c0 _), if_neg (c1 _), if_neg (fun x => g5 x.2.2.1)]
                      · refine ev_neg g4 (stop _ ?_)
                        unfold kindP
                        dsimp only
                        rw [if_neg (c0 _), if_neg (c1 _), if_neg (fun x => g4 x.2.1)]
                    · refine ev_neg g3 (stop _ ?_)
                      unfold kindP
                      dsimp only
                      rw [if_neg (c0 _), if_neg (c1 _), if_neg (fun x => g3 x.1.2.2.2)]
                  · refine ev_neg g2 (stop _ ?_)
                    unfold kindP
                    dsimp only
                    rw [if_neg (c0 _), if_neg (c1 _), if_neg (fun x => g2 x.1.2.2.1)]
                · refine ev_neg g1 (stop _ ?_)
                  unfold kindP
                  dsimp only
                  rw [if_neg (c0 _), if_neg (c1 _), if_neg (fun x => g1 x.1.2.1)]
              · have gf : inR op 0 9 = false := by simpa using g0
                refine ev_neg g0 ?_
                rw [gf]
                refine stop _ ?_
                unfold kindP
                dsimp only
                rw [if_neg (c0 _), if_neg (c1 _), if_neg (fun x => g0 (by have := inR_iff.1 x.1.1; exact inR_iff.2 (by omega)))]
      have := key l.length 0 (by omega) (by omega) [] (by simp)
      simpa using this
    · refine ev_pos h1 (Ev.step (fun k => by rw [impl_kindsOf.j0]) (ev_pos (by simpa using h2) ?_))
      have hP : kindsP l vars = [] := by unfold kindsP kindsOk; simp [h2]
      rw [hP]
      exact ev_ret _
  · refine ev_neg h1 (Ev.step (fun k => by rw [impl_kindsOf.j0]) (ev_pos rfl ?_))
    have hP : kindsP l vars = [] := by unfold kindsP kindsOk; simp [h1]
    rw [hP]
    exact ev_ret _
def kindOfP (l : List ITerm) (vars : Int) : Int := if kindsP l vars = [] then 0 else rd (kindsP l vars) (((kindsP l vars).length : Int) - 1)
theorem kindsP_le (l : List ITerm) (vars : Int) : (kindsP l vars).length ≤ 40 := by
  by_cases h : kindsP l vars = []
  · rw [h]; simp
  · obtain ⟨h1, h2⟩ := kindsP_length l vars h
    unfold kindsOk at h2
    have := inR_iff.1 (Bool.and_eq_true_iff.1 h2).2
    omega
theorem impl_kindOf_ev (l : List ITerm) (vars : Int) : Ev (fun k => impl_kindOf.f k l vars) (kindOfP l vars) := by
  unfold impl_kindOf.f kindOfP
  refine ev_bind (impl_kindsOf_ev l vars) ?_
  have hle := kindsP_le l vars
  refine ev_ite_eq (fun h => ev_ret _) (fun h => ?_)
  have hp : 0 < (kindsP l vars).length := List.length_pos_iff.2 h
  have w : wrap64 (((kindsP l vars).length : Int) - 1) = ((kindsP l vars).length : Int) - 1 := wrap_in (by omega) (by omega)
  rw [w]
  exact ev_pos (by omega) (ev_pos (by omega) (ev_ret _))
theorem spec_l2Is_ev (l : List ITerm) (vars kind : Int) (hk : kind ≠ 0) : Ev (fun k => spec_l2Is.f k l vars kind) (kindOfP l vars == kind) := by
  unfold spec_l2Is.f
  refine ev_bind (spec_KindsOf_ev l vars) ?_
  have hle := kindsP_le l vars
  by_cases h : kindsP l vars = []
  · have e : kindOfP l vars = 0 := by unfold kindOfP; rw [if_pos h]
    rw [e, show ((0 : Int) == kind) = false from by simpa using (Ne.symm hk)]
    exact ev_neg (by rw [h]; simp) (ev_ret _)
  · have e : kindOfP l vars = rd (kindsP l vars) (((kindsP l vars).length : Int) - 1) := by unfold kindOfP; rw [if_neg h]
    have hp : 0 < (kindsP l vars).length := List.length_pos_iff.2 h
    have w : wrap64 (((kindsP l vars).length : Int) - 1) = ((kindsP l vars).length : Int) - 1 := wrap_in (by omega) (by omega)
    rw [w, e]
    exact ev_pos (by omega) (ev_pos (by omega) (ev_pos (by omega) (ev_ret _)))
def varP (v : IVar) : Bool := inR v.f0 (-9999) 9999 && (inR v.f1 v.f0 9999 && (decide (v.f1 - v.f0 < 20) && inR v.f2 v.f0 v.f1))
theorem span_wrap {v : IVar} (h0 : inR v.f0 (-9999) 9999 = true) (h1 : inR v.f1 v.f0 9999 = true) : wrap64 (v.f1 - v.f0) = v.f1 - v.f0 := by
  have := inR_iff.1 h0; have := inR_iff.1 h1
  exact wrap_in (by omega) (by omega)
theorem spec_l2Var_eq (v : IVar) : spec_l2Var.f v.f0 v.f1 v.f2 = some (varP v) := by
  unfold spec_l2Var.f varP
  simp only [spec_l1In_eq, Option.bind_some]
  by_cases h0 : inR v.f0 (-9999) 9999 = true
  · by_cases h1 : inR v.f1 v.f0 9999 = true
    · rw [span_wrap h0 h1]
      by_cases h2 : v.f1 - v.f0 < 20 <;> simp [h0, h1, h2]
    · simp [h0, h1]
  · simp [h0]
theorem impl_varOk_eq (v : IVar) : impl_varOk.f v.f0 v.f1 v.f2 = some (varP v) := by
  unfold impl_varOk.f varP
  simp only [impl_in_eq, Option.bind_some]
  by_cases h0 : inR v.f0 (-9999) 9999 = true
  · by_cases h1 : inR v.f1 v.f0 9999 = true
    · rw [span_wrap h0 h1]
      by_cases h2 : v.f1 - v.f0 < 20 <;> simp [h0, h1, h2]
    · simp [h0, h1]
  · simp [h0]
def setsGo (vars : Int) (sets : List Int) (terms : List (List ITerm)) (n : Nat) : List Int → Bool
  | [] => true
  | x :: r => inR x 0 (vars - 1) && (!(decide (0 < n) && decide (x ≤ sets.getD (n - 1) 0)) && (kindOfP (terms.getD n []) vars == 1 && setsGo vars sets terms (n + 1) r))
def ruleP (r : IRule) (vars : Int) : Bool := kindOfP r.f0 vars == 2 && (decide (r.f1.length = r.f2.length) && setsGo vars r.f1 r.f2 0 r.f1)
theorem setsGo_bound {vars : Int} {sets : List Int} {terms : List (List ITerm)} : ∀ (r : List Int) (n : Nat), sets.drop n = r → setsGo vars sets terms n r = true →
    ∀ i, n ≤ i → i < sets.length → inR (sets.getD i 0) 0 (vars - 1) = true ∧ (0 < i → sets.getD (i - 1) 0 < sets.getD i 0) ∧ kindOfP (terms.getD i []) vars = 1
  | [], n, h, _, i, h1, h2 => by
    have := congrArg List.length h
    simp at this
    omega
  | x :: r, n, h, hs, i, h1, h2 => by
    unfold setsGo at hs
    simp only [Bool.and_eq_true, Bool.not_eq_true', Bool.and_eq_false_iff, decide_eq_false_iff_not, beq_iff_eq] at hs
    obtain ⟨a, b, c, d⟩ := hs
    have hn : n < sets.length := by omega
    have hx : sets.getD n 0 = x := by
      rw [List.drop_eq_getElem_cons hn] at h
      injection h with h3 h4
      rw [List.getD_eq_getElem?_getD, List.getElem?_eq_getElem hn]
      exact h3
    have hr : sets.drop (n + 1) = r := by
      rw [List.drop_eq_getElem_cons hn] at h
      injection h
    by_cases e : i = n
    · subst e
      rw [hx]
      exact ⟨a, fun hp => by rcases b with b | b <;> omega, c⟩
    · exact setsGo_bound r (n + 1) hr d i (by omega) h2
theorem setsGo_len {vars : Int} {sets : List Int} {terms : List (List ITerm)} (h : setsGo vars sets terms 0 sets = true) (hv : 0 ≤ vars) : (sets.length : Int) ≤ vars := by
  have hb := setsGo_bound sets 0 rfl h
  have up : ∀ i : Nat, i < sets.length → (i : Int) ≤ sets.getD i 0 := by
    intro i
    induction i with
    | zero => intro hi; exact (inR_iff.1 (hb 0 (by omega) hi).1).1
    | succ i ih =>
      intro hi
      have h1 := (hb (i + 1) (by omega) hi).2.1 (by omega)
      have h2 := ih (by omega)
      simp only [Nat.add_sub_cancel] at h1
      omega
  by_cases e : sets.length = 0
  · omega
  · have h1 := up (sets.length - 1) (by omega)
    have h2 := (inR_iff.1 (hb (sets.length - 1) (by omega) (by omega)).1).2
    omega
theorem spec_l2Rule_ev (r : IRule) (vars : Int) (hv : 0 ≤ vars ∧ vars ≤ 5) : Ev (fun k => spec_l2Rule.f k r.f0 r.f1 r.f2 vars) (ruleP r vars) := by
  unfold spec_l2Rule.f ruleP
  refine ev_bind (spec_l2Is_ev r.f0 vars 2 (by decide)) ?_
  by_cases h0 : (kindOfP r.f0 vars == 2) = true
  · rw [h0]
    refine ev_pos rfl ?_
    by_cases h1 : r.f1.length = r.f2.length
    · refine ev_pos (by omega) (Ev.step (fun k => by rw [spec_l2Rule.j0]) ?_)
      by_cases h2 : (r.f1.length : Int) > vars
      · refine ev_pos (by simpa using h2) (ev_eq (ev_ret _) ?_)
        cases hs : setsGo vars r.f1 r.f2 0 r.f1 with
        | true => have := setsGo_len hs hv.1; omega
        | false => simp
      · refine ev_neg (by simpa using h2) ?_
        rw [show (decide (r.f1.length = r.f2.length) && setsGo vars r.f1 r.f2 0 r.f1) = setsGo vars r.f1 r.f2 0 r.f1 from by simp [h1]]
        simp only [Bool.true_and]
        have key : ∀ d n : Nat, r.f1.length - n = d → n ≤ r.f1.length → Ev (fun k => spec_l2Rule.l0 k vars (n : Int) r.f0 r.f1 r.f2) (setsGo vars r.f1 r.f2 n (r.f1.drop n)) := by
          intro d
          induction d with
          | zero =>
            intro n e1 e2
            have : n = r.f1.length := by omega
            subst this
            rw [List.drop_length]
            refine Ev.step (fun k => by rw [spec_l2Rule.l0]) ?_
            exact ev_neg (by omega) (ev_ret _)
          | succ d ih =>
            intro n e1 e2
            have hn : n < r.f1.length := by omega
            have hx := List.getElem?_eq_getElem hn
            have hrd : rd r.f1 (n : Int) = r.f1[n] := getD_of hx
            rw [List.drop_eq_getElem_cons hn]
            unfold setsGo
            refine Ev.step (fun k => by rw [spec_l2Rule.l0]) (ev_pos (by omega) (ev_pos (by omega) ?_))
            have w1 : wrap64 (vars - 1) = vars - 1 := wrap_in (by omega) (by omega)
            simp only [spec_l1In_eq, Option.bind_some, w1, hrd]
            generalize hX : r.f1[n] = x
            have J : ∀ b : Bool, Ev (fun k => spec_l2Rule.j2 k vars (n : Int) b r.f0 r.f1 r.f2) (!b && setsGo vars r.f1 r.f2 (n + 1) (r.f1.drop (n + 1))) := by
              intro b
              refine Ev.step (fun k => by rw [spec_l2Rule.j2]) ?_
              cases b with
              | true => exact ev_pos rfl (ev_eq (ev_ret _) (by simp))
              | false =>
                refine ev_neg (by simp) ?_
                rw [wrap_nat hn (by omega)]
                exact ev_eq (ih (n + 1) (by omega) (by omega)) (by simp)
            have htail : Ev (fun k => if (n : Int) < (r.f2.length : Int) then (spec_l2Is.f k (rd_LITerm r.f2 n) vars 1).bind fun t => spec_l2Rule.j2 k vars (n : Int) (!t) r.f0 r.f1 r.f2 else none)
                (kindOfP (r.f2.getD n []) vars == 1 && setsGo vars r.f1 r.f2 (n + 1) (r.f1.drop (n + 1))) := by
              refine ev_pos (by omega) (ev_bind (spec_l2Is_ev _ vars 1 (by decide)) ?_)
              rw [show rd_LITerm r.f2 (n : Int) = r.f2.getD n [] from rfl]
              exact ev_eq (J _) (by rw [Bool.not_not])
            by_cases g0 : inR x 0 (vars - 1) = true
            · refine ev_pos g0 ?_
              by_cases g1 : 0 < n
              · have w2 : wrap64 ((n : Int) - 1) = ((n - 1 : Nat) : Int) := by rw [wrap_in (by omega) (by omega)]; omega
                refine ev_pos (by omega) ?_
                rw [w2]
                refine ev_pos (by omega) (ev_pos (by omega) ?_)
                rw [show rd r.f1 ((n - 1 : Nat) : Int) = r.f1.getD (n - 1) 0 from rfl]
                generalize r.f1.getD (n - 1) 0 = y
                by_cases g2 : x ≤ y
                · exact ev_pos g2 (ev_eq (J true) (by simp [g0, g1, g2]))
                · exact ev_neg g2 (ev_eq htail (by simp [g0, g1, g2]))
              · exact ev_neg (by omega) (ev_eq htail (by simp [g0, g1]))
            · exact ev_neg g0 (ev_eq (J true) (by simp [g0]))
        have := key r.f1.length 0 (by omega) (by omega)
        simpa using this
    · refine ev_neg (by omega) (Ev.step (fun k => by rw [spec_l2Rule.j0]) ?_)
      exact ev_pos rfl (ev_eq (ev_ret _) (by simp [h1]))
  · rw [show (kindOfP r.f0 vars == 2) = false from by simpa using h0]
    refine ev_neg (by simp) (Ev.step (fun k => by rw [spec_l2Rule.j0]) ?_)
    exact ev_pos rfl (ev_eq (ev_ret _) (by simp))
theorem impl_ruleOk_ev (r : IRule) (vars : Int) (hv : 0 ≤ vars ∧ vars ≤ 5) (hl : r.f1.length ≤ 9223372036854775807) : Ev (fun k => impl_ruleOk.f k r.f0 r.f1 r.f2 vars) (ruleP r vars) := by
  unfold impl_ruleOk.f ruleP
  refine ev_bind (impl_kindOf_ev r.f0 vars) ?_
  by_cases h0 : kindOfP r.f0 vars = 2
  · refine ev_pos h0 ?_
    rw [show (kindOfP r.f0 vars == 2) = true from by simpa using h0]
    by_cases h1 : r.f1.length = r.f2.length
    · refine Ev.step (fun k => by rw [impl_ruleOk.j0]) (ev_neg (by simp [h1]) ?_)
      rw [show (decide (r.f1.length = r.f2.length) && setsGo vars r.f1 r.f2 0 r.f1) = setsGo vars r.f1 r.f2 0 r.f1 from by simp [h1]]
      simp only [Bool.true_and]
      have w1 : wrap64 (vars - 1) = vars - 1 := wrap_in (by omega) (by omega)
      have key : ∀ d n : Nat, r.f1.length - n = d → n ≤ r.f1.length → Ev (fun k => impl_ruleOk.l0 k vars r.f1 (r.f1.length : Int) (n : Int) r.f0 r.f1 r.f2) (setsGo vars r.f1 r.f2 n (r.f1.drop n)) := by
        intro d
        induction d with
        | zero =>
          intro n e1 e2
          have : n = r.f1.length := by omega
          subst this
          rw [List.drop_length]
          refine Ev.step (fun k => by rw [impl_ruleOk.l0]) ?_
          exact ev_neg (by omega) (ev_ret _)
        | succ d ih =>
          intro n e1 e2
          have hn : n < r.f1.length := by omega
          have hx := List.getElem?_eq_getElem hn
          have hrd : rd r.f1 (n : Int) = r.f1[n] := getD_of hx
          rw [List.drop_eq_getElem_cons hn]
          unfold setsGo
          refine Ev.step (fun k => by rw [impl_ruleOk.l0]) (ev_pos (by omega) (ev_pos (by omega) (ev_pos (by omega) ?_)))
          simp only [impl_in_eq, Option.bind_some, w1, hrd]
          generalize hX : r.f1[n] = x
          have J : ∀ b : Bool, Ev (fun k => impl_ruleOk.j2 k vars r.f1 (r.f1.length : Int) (n : Int) b r.f0 r.f1 r.f2) (!b && setsGo vars r.f1 r.f2 (n + 1) (r.f1.drop (n + 1))) := by
            intro b
            refine Ev.step (fun k => by rw [impl_ruleOk.j2]) ?_
            cases b with
            | true => exact ev_pos rfl (ev_eq (ev_ret _) (by simp))
            | false =>
              refine ev_neg (by simp) ?_
              rw [wrap_nat hn (by omega)]
              exact ev_eq (ih (n + 1) (by omega) (by omega)) (by simp)
          have htail : Ev (fun k => if (n : Int) < (r.f2.length : Int) then (impl_kindOf.f k (rd_LITerm r.f2 n) vars).bind fun t => impl_ruleOk.j2 k vars r.f1 (r.f1.length : Int) (n : Int) (t != 1) r.f0 r.f1 r.f2 else none)
              (kindOfP (r.f2.getD n []) vars == 1 && setsGo vars r.f1 r.f2 (n + 1) (r.f1.drop (n + 1))) := by
            refine ev_pos (by omega) (ev_bind (impl_kindOf_ev _ vars) ?_)
            rw [show rd_LITerm r.f2 (n : Int) = r.f2.getD n [] from rfl]
            exact ev_eq (J _) (by simp only [bne, Bool.not_not])
          by_cases g0 : inR x 0 (vars - 1) = true
          · refine ev_pos g0 ?_
            by_cases g1 : 0 < n
            · have w2 : wrap64 ((n : Int) - 1) = ((n - 1 : Nat) : Int) := by rw [wrap_in (by omega) (by omega)]; omega
              refine ev_pos (by omega) ?_
              rw [w2]
              refine ev_pos (by omega) (ev_pos (by omega) ?_)
              rw [show rd r.f1 ((n - 1 : Nat) : Int) = r.f1.getD (n - 1) 0 from rfl]
              generalize r.f1.getD (n - 1) 0 = y
              by_cases g2 : x ≤ y
              · exact ev_pos (by omega) (ev_eq (J true) (by simp [g0, g1, g2]))
              · exact ev_neg (by omega) (ev_eq htail (by simp [g0, g1, g2]))
            · exact ev_neg (by omega) (ev_eq htail (by simp [g0, g1]))
          · exact ev_neg g0 (ev_eq (J true) (by simp [g0]))
      have := key r.f1.length 0 (by omega) (by omega)
      simpa using this
    · refine Ev.step (fun k => by rw [impl_ruleOk.j0]) ?_
      exact ev_pos (by simp; omega) (ev_eq (ev_ret _) (by simp [h1]))
  · rw [show (kindOfP r.f0 vars == 2) = false from by simpa using h0]
    refine ev_neg h0 (Ev.step (fun k => by rw [impl_ruleOk.j0]) ?_)
    exact ev_pos rfl (ev_eq (ev_ret _) (by simp))
def sizeGo : List IVar → Int → Int
  | [], n => n
  | v :: r, n => sizeGo r (wrap64 (n * wrap64 (wrap64 (v.f1 - v.f0) + 1)))
def sizeP (vars : List IVar) : Int := sizeGo vars 1
theorem impl_size_ev (vars : List IVar) (hl : vars.length ≤ 9223372036854775807) : Ev (fun k => impl_size.f k vars) (sizeP vars) := by
  unfold impl_size.f sizeP
  have key : ∀ d n : Nat, vars.length - n = d → n ≤ vars.length → ∀ a : Int, Ev (fun k => impl_size.l0 k a vars (vars.length : Int) (n : Int)) (sizeGo (vars.drop n) a) := by
    intro d
    induction d with
    | zero =>
      intro n e1 e2 a
      have : n = vars.length := by omega
      subst this
      rw [List.drop_length]
      refine Ev.step (fun k => by rw [impl_size.l0]) ?_
      exact ev_neg (by omega) (ev_ret _)
    | succ d ih =>
      intro n e1 e2 a
      have hn : n < vars.length := by omega
      have hr : rd_IVar vars (n : Int) = vars[n] := getD_of (List.getElem?_eq_getElem hn)
      rw [List.drop_eq_getElem_cons hn]
      unfold sizeGo
      refine Ev.step (fun k => by rw [impl_size.l0]) ?_
      refine ev_pos (by omega) (ev_pos (by omega) (ev_pos (by omega) ?_))
      rw [hr, wrap_nat hn (by omega)]
      exact ih (n + 1) (by omega) (by omega) _
  have := key vars.length 0 (by omega) (by omega) 1
  simpa using this
def smallP (n : Int) : Bool := decide (n ≤ 400)
def sysP (vars : List IVar) (rules : List IRule) : Bool :=
  inR vars.length 1 5 && (decide (rules.length ≤ 8) && (vars.all varP && (rules.all (fun r => ruleP r vars.length) && smallP (sizeP vars))))
theorem spec_SystemValid_ev (vars : List IVar) (rules : List IRule) : Ev (fun k => spec_SystemValid.f k vars rules) (sysP vars rules) := by
  unfold spec_SystemValid.f sysP
  simp only [spec_l1In_eq, Option.bind_some]
  by_cases h1 : inR (vars.length : Int) 1 5 = true
  · have hv := inR_iff.1 h1
    refine ev_pos h1 (Ev.step (fun k => by rw [spec_SystemValid.j0]) ?_)
    by_cases h2 : rules.length ≤ 8
    · refine ev_neg (by simp; omega) ?_
      have rulesKey : ∀ (n0 : Int) (d n : Nat), rules.length - n = d → n ≤ rules.length → Ev (fun k => spec_SystemValid.l1 k n0 (n : Int) vars rules) ((rules.drop n).all (fun r => ruleP r vars.length) && smallP n0) := by
        intro n0 d
        induction d with
        | zero =>
          intro n e1 e2
          have : n = rules.length := by omega
          subst this
          rw [List.drop_length]
          refine Ev.step (fun k => by rw [spec_SystemValid.l1]) ?_
          exact ev_neg (by omega) (ev_eq (ev_ret _) (by simp [smallP]))
        | succ d ih =>
          intro n e1 e2
          have hn : n < rules.length := by omega
          have hr : rd_IRule rules (n : Int) = rules[n] := getD_of (List.getElem?_eq_getElem hn)
          rw [List.drop_eq_getElem_cons hn, List.all_cons]
          refine Ev.step (fun k => by rw [spec_SystemValid.l1]) ?_
          refine ev_pos (by omega) (ev_pos (by omega) ?_)
          rw [hr, wrap_nat hn (by omega)]
          refine ev_bind (spec_l2Rule_ev rules[n] (vars.length : Int) (by omega)) ?_
          cases hq : ruleP rules[n] (vars.length : Int) with
          | true => exact ev_pos rfl (ev_eq (ih (n + 1) (by omega) (by omega)) (by simp))
          | false => exact ev_neg (by simp) (ev_eq (ev_ret _) (by simp))
      have varsKey : ∀ d n : Nat, vars.length - n = d → n ≤ vars.length → ∀ a : Int, Ev (fun k => spec_SystemValid.l0 k a (n : Int) vars rules) ((vars.drop n).all varP && (rules.all (fun r => ruleP r vars.length) && smallP (sizeGo (vars.drop n) a))) := by
        intro d
        induction d with
        | zero =>
          intro n e1 e2 a
          have : n = vars.length := by omega
          subst this
          rw [List.drop_length]
          refine Ev.step (fun k => by rw [spec_SystemValid.l0]) ?_
          refine ev_neg (by omega) ?_
          have := rulesKey a rules.length 0 (by omega) (by omega)
          simpa [sizeGo] using this
        | succ d ih =>
          intro n e1 e2 a
          have hn : n < vars.length := by omega
          have hr : rd_IVar vars (n : Int) = vars[n] := getD_of (List.getElem?_eq_getElem hn)
          rw [List.drop_eq_getElem_cons hn, List.all_cons]
          refine Ev.step (fun k => by rw [spec_SystemValid.l0]) ?_
          refine ev_pos (by omega) (ev_pos (by omega) ?_)
          rw [hr, wrap_nat hn (by omega), spec_l2Var_eq]
          simp only [Option.bind_some]
          cases hq : varP vars[n] with
          | true => exact ev_pos rfl (ev_eq (ih (n + 1) (by omega) (by omega) _) (by simp [sizeGo]))
          | false => exact ev_neg (by simp) (ev_eq (ev_ret _) (by simp))
      have := varsKey vars.length 0 (by omega) (by omega) 1
      simpa [h1, h2, sizeP] using this
    · exact ev_pos (by simp; omega) (ev_eq (ev_ret _) (by simp [h2]))
  · refine ev_neg h1 (Ev.step (fun k => by rw [spec_SystemValid.j0]) ?_)
    exact ev_pos rfl (ev_eq (ev_ret _) (by simp [h1]))
theorem find_ev {α : Type} {da : α} (L : Nat → Int → Option Int) (F : Nat → α → Option Bool) (xs : List α) (p : α → Bool) (hl : xs.length ≤ 9223372036854775807)
    (hL : ∀ k i, L (k + 1) i = if i < (xs.length : Int) then (if 0 ≤ i then (if i < (xs.length : Int) then ((F k (xs.getD i.toNat da)).bind fun t => if t = true then some i else L k (wrap64 (i + 1))) else none) else none) else some (-1))
    (hF : ∀ x ∈ xs, Ev (fun k => F k x) (p x)) : Ev (fun k => (L k 0).bind fun t => some (decide (t ≥ 0))) (xs.any p) := by
  have key : ∀ d n : Nat, xs.length - n = d → n ≤ xs.length → Ev (fun k => (L k (n : Int)).bind fun t => some (decide (t ≥ 0))) ((xs.drop n).any p) := by
    intro d
    induction d with
    | zero =>
      intro n e1 e2
      have : n = xs.length := by omega
      subst this
      rw [List.drop_length]
      refine Ev.step (fun k => by rw [hL, if_neg (by omega), Option.bind_some]) ?_
      exact ev_eq (ev_ret _) (by simp)
    | succ d ih =>
      intro n e1 e2
      have hn : n < xs.length := by omega
      rw [List.drop_eq_getElem_cons hn, List.any_cons]
      refine Ev.step (fun k => by rw [hL, if_pos (by omega), if_pos (by omega), if_pos (by omega), getD_of (List.getElem?_eq_getElem hn), wrap_nat hn (by omega), Option.bind_assoc]) ?_
      refine ev_bind (hF _ (List.getElem_mem hn)) ?_
      cases hq : p xs[n] with
      | true => exact ev_eq (Ev.congr (fun k => by rw [if_pos rfl, Option.bind_some]) (ev_ret _)) (by simp)
      | false => exact ev_eq (Ev.congr (fun k => by rw [if_neg (by simp)]) (ih (n + 1) (by omega) (by omega))) (by simp)
  have := key xs.length 0 (by omega) (by omega)
  simpa using this
theorem impl_SystemValid_ev (vars : List IVar) (rules : List IRule) (hl : rules.length ≤ 9223372036854775807) (hr : ∀ r ∈ rules, r.f1.length ≤ 9223372036854775807) : Ev (fun k => impl_SystemValid.f k vars rules) (sysP vars rules) := by
  unfold impl_SystemValid.f sysP
  simp only [impl_in_eq, Option.bind_some]
  by_cases h1 : inR (vars.length : Int) 1 5 = true
  · have hv := inR_iff.1 h1
    have J : ∀ b : Bool, Ev (fun k => impl_SystemValid.j0 k b vars rules) (!b && rules.all (fun r => ruleP r vars.length)) := by
      intro b
      refine Ev.step (fun k => by rw [impl_SystemValid.j0]) ?_
      cases b with
      | true => exact ev_pos rfl (ev_eq (ev_ret _) (by simp))
      | false =>
        refine ev_neg (by simp) ?_
        have e2 : Ev (fun k => slices_ContainsFunc_at_impl_SystemValid_2.f k rules vars rules) (rules.any (fun r => !ruleP r vars.length)) := by
          unfold slices_ContainsFunc_at_impl_SystemValid_2.f slices_IndexFunc_at_impl_SystemValid_2.f
          · refine find_ev (da := zIRule) (fun k i => slices_IndexFunc_at_impl_SystemValid_2.l0 k rules (rules.length : Int) i vars rules) (fun k r => impl_SystemValid_2.f k r.f0 r.f1 r.f2 vars rules) rules _ hl (fun k i => by rw [slices_IndexFunc_at_impl_SystemValid_2.l0]; rfl) ?_
            intro x hx
            unfold impl_SystemValid_2.f
            exact ev_bind (impl_ruleOk_ev x (vars.length : Int) (by omega) (hr x hx)) (ev_ret _)
        refine ev_bind e2 (ev_eq (ev_ret _) ?_)
        have : (!rules.any (fun r => !ruleP r vars.length)) = rules.all (fun r => ruleP r vars.length) := by rw [List.not_any_eq_all_not]; simp
        rw [this]
        simp
    refine ev_pos h1 ?_
    by_cases h2 : rules.length ≤ 8
    · refine ev_neg (by omega) ?_
      have e1 : Ev (fun k => slices_ContainsFunc_at_impl_SystemValid_1.f k vars) (vars.any (fun v => !varP v)) := by
        unfold slices_ContainsFunc_at_impl_SystemValid_1.f slices_IndexFunc_at_impl_SystemValid_1.f
        refine find_ev (da := zIVar) (fun k i => slices_IndexFunc_at_impl_SystemValid_1.l0 k vars (vars.length : Int) i) (fun k v => impl_SystemValid_1.f v.f0 v.f1 v.f2) vars _ (by omega) (fun k i => by rw [slices_IndexFunc_at_impl_SystemValid_1.l0]; rfl) ?_
        intro x hx
        unfold impl_SystemValid_1.f
        rw [impl_varOk_eq]
        exact ev_ret _
      refine ev_bind e1 ?_
      by_cases h3 : vars.all varP = true
      · have n3 : vars.any (fun v => !varP v) = false := by rw [List.any_eq_false]; intro x hx; simp [List.all_eq_true.1 h3 x hx]
        rw [n3]
        refine ev_neg (by simp) (ev_bind (impl_size_ev vars (by omega)) (ev_eq (J _) ?_))
        rw [h1, h3]
        by_cases h4 : sizeP vars ≤ 400 <;> simp [h2, h4, smallP]
      · have n3 : vars.any (fun v => !varP v) = true := by
          rw [← List.not_all_eq_any_not]
          simpa using h3
        rw [n3]
        exact ev_pos rfl (ev_eq (J true) (by rw [show vars.all varP = false from by simpa using h3]; simp))
    · exact ev_pos (by omega) (ev_eq (J true) (by simp [h2]))
  · refine ev_neg h1 (Ev.step (fun k => by rw [impl_SystemValid.j0]) ?_)
    exact ev_pos rfl (ev_eq (ev_ret _) (by simp [h1]))
theorem sysP_and {vars : List IVar} {rules : List IRule} (h : sysP vars rules = true) :
    (1 ≤ vars.length ∧ vars.length ≤ 5) ∧ rules.length ≤ 8 ∧ vars.all varP = true ∧ rules.all (fun r => ruleP r vars.length) = true ∧ sizeP vars ≤ 400 := by
  simp only [sysP, Bool.and_eq_true, inR_iff, smallP, decide_eq_true_eq] at h
  exact ⟨⟨by omega, by omega⟩, h.2.1, h.2.2.1, h.2.2.2.1, h.2.2.2.2⟩
theorem spec_SizeOf_ev (vars : List IVar) (rules : List IRule) : Ev (fun k => spec_SizeOf.f k vars rules) (if sysP vars rules = true then sizeP vars else 0) := by
  unfold spec_SizeOf.f
  refine ev_bind (spec_SystemValid_ev vars rules) ?_
  refine ev_ite_eq (fun h => ?_) (fun _ => ev_ret _)
  have hl : vars.length ≤ 9223372036854775807 := by have := (sysP_and h).1; omega
  unfold sizeP
  have key : ∀ d n : Nat, vars.length - n = d → n ≤ vars.length → ∀ a : Int, Ev (fun k => spec_SizeOf.l0 k a (n : Int) vars rules) (sizeGo (vars.drop n) a) := by
    intro d
    induction d with
    | zero =>
      intro n e1 e2 a
      have : n = vars.length := by omega
      subst this
      rw [List.drop_length]
      refine Ev.step (fun k => by rw [spec_SizeOf.l0]) ?_
      exact ev_neg (by omega) (ev_ret _)
    | succ d ih =>
      intro n e1 e2 a
      have hn : n < vars.length := by omega
      have hr : rd_IVar vars (n : Int) = vars[n] := getD_of (List.getElem?_eq_getElem hn)
      rw [List.drop_eq_getElem_cons hn]
      unfold sizeGo
      refine Ev.step (fun k => by rw [spec_SizeOf.l0]) ?_
      refine ev_pos (by omega) (ev_pos (by omega) ?_)
      rw [hr, wrap_nat hn (by omega)]
      exact ih (n + 1) (by omega) (by omega) _
  have := key vars.length 0 (by omega) (by omega) 1
  simpa using this
end Go.Proofs.Ytjgfpgoaabppbaa.PA
end
section
namespace Go.Proofs.Ytjgfpgoaabppbaa.PA
open Go.RowKit Go.Proofs.YtjgfpgoaabppbaaW.PrintWords
def okLTime (y : LTime) : Prop := (Lit.int .i64 y.f0).wf = true ∧ (Lit.int .i64 y.f1).wf = true ∧ (Lit.int .i64 y.f2).wf = true ∧ (Lit.int .i64 y.f3).wf = true
def okLVar (y : LVar) : Prop := (Lit.int .i64 y.f0).wf = true ∧ (Lit.int .i64 y.f1).wf = true ∧ (Lit.int .i64 y.f2).wf = true
def okLTerm (y : LTerm) : Prop := (Lit.int .i64 y.f0).wf = true ∧ (Lit.int .i64 y.f1).wf = true ∧ (Lit.int .i64 y.f2).wf = true ∧ (Lit.int .i64 y.f3).wf = true
def okLRule (y : LRule) : Prop := (y.f0.length ≤ 9223372036854775807 ∧ ∀ x0 ∈ y.f0, okLTerm x0) ∧ (y.f1.length ≤ 9223372036854775807 ∧ ∀ x0 ∈ y.f1, (Lit.int .i64 x0).wf = true) ∧ (y.f2.length ≤ 9223372036854775807 ∧ ∀ x0 ∈ y.f2, (x0.length ≤ 9223372036854775807 ∧ ∀ x1 ∈ x0, okLTerm x1))
def okLSystem (y : LSystem) : Prop := (y.f0.length ≤ 9223372036854775807 ∧ ∀ x0 ∈ y.f0, okLVar x0) ∧ (y.f1.length ≤ 9223372036854775807 ∧ ∀ x0 ∈ y.f1, okLRule x0)
end Go.Proofs.Ytjgfpgoaabppbaa.PA
end
section
set_option linter.unusedVariables false
set_option linter.unusedSimpArgs false
namespace Go.Proofs.Ytjgfpgoaabppbaa.PA
open Go.RowKit Go.Proofs.YtjgfpgoaabppbaaW.PrintWords
theorem sz_of_ok {rules : List LRule} (h : rules.length ≤ 9223372036854775807 ∧ ∀ x ∈ rules, okLRule x) :
    ∀ r ∈ rules, r.f0.length ≤ 9223372036854775807 ∧ r.f1.length ≤ 9223372036854775807 ∧ r.f2.length ≤ 9223372036854775807 ∧ ∀ l ∈ r.f2, l.length ≤ 9223372036854775807 :=
  fun r hr => ⟨(h.2 r hr).1.1, (h.2 r hr).2.1.1, (h.2 r hr).2.2.1, fun l hl => ((h.2 r hr).2.2.2 l hl).1⟩
structure ExOk (vars : List LVar) (rules : List LRule) : Prop where
  hk : vars.length ≤ 1048576 ∧ rules.length ≤ 1048576 ∧ ∀ r ∈ rules, szRuleP r
  vl : (cSys vars rules).1.length ≤ 1048576
  rl : (cSys vars rules).2.length ≤ 1048576
  rs : ∀ r ∈ (cSys vars rules).2, r.f1.length ≤ 9223372036854775807
theorem ex_sys {vars : List LVar} {rules : List LRule} (hv : vars.length ≤ 9223372036854775807 ∧ ∀ x ∈ vars, okLVar x) (hr : rules.length ≤ 9223372036854775807 ∧ ∀ x ∈ rules, okLRule x)
    {F : Nat → Int → Option Bool} (h : ∀ r : Int, 0 ≤ r → r ≤ 1048576 → ExOk vars rules → Ev (fun k => F k r) true) :
    Ev (fun k => (laws_szSystem.f k vars rules 1048576).bind fun t => if t < 0 then some true else F k t) true := by
  obtain ⟨r, hsz, hk⟩ := laws_szSystem_ok vars rules hv.1 hr.1 (sz_of_ok hr) 1048576 (by omega) (by omega)
  refine ev_bind hsz ?_
  rcases hk with hk | ⟨h0, h1, hk⟩
  · exact ev_pos hk (ev_ret _)
  · refine ev_neg (by omega) (h r h0 (by omega) ⟨hk, by simpa [cSys] using hk.1, by simpa [cSys] using hk.2.1, ?_⟩)
    intro r hr'
    obtain ⟨x, hx, rfl⟩ := List.mem_map.1 hr'
    exact (sz_of_ok hr x hx).2.1
theorem ExOk.to {vars : List LVar} {rules : List LRule} (S : ExOk vars rules) : Ev (fun k => laws_toSystem.f k vars rules) (cSys vars rules) := laws_toSystem_ev vars rules S.hk
theorem ExOk.eq {vars : List LVar} {rules : List LRule} (S : ExOk vars rules) : Ev (fun k => laws_eqSystem.f k (cSys vars rules).1 (cSys vars rules).2 (cSys vars rules).1 (cSys vars rules).2) true := laws_eqSystem_ev vars rules S.hk
theorem ExOk.impl {vars : List LVar} {rules : List LRule} (S : ExOk vars rules) : Ev (fun k => impl_SystemValid.f k (cSys vars rules).1 (cSys vars rules).2) (sysP (cSys vars rules).1 (cSys vars rules).2) := impl_SystemValid_ev _ _ (by have := S.rl; omega) S.rs
def Evp (G : Nat → Prop) : Prop := ∃ n, ∀ k, n ≤ k → G k
theorem Evp.get {G : Nat → Prop} (h : Evp G) : ∃ k, G k := let ⟨n, h⟩ := h; ⟨n, h n (Nat.le_refl _)⟩
theorem Evp.of {P : Prop} (h : P) : Evp fun _ => P := ⟨0, fun _ _ => h⟩
theorem Evp.and {G H : Nat → Prop} (g : Evp G) (h : Evp H) : Evp fun k => G k ∧ H k := by
  obtain ⟨n, g⟩ := g
  obtain ⟨m, h⟩ := h
  exact ⟨max n m, fun k hk => ⟨g k (by omega), h k (by omega)⟩⟩
theorem Evp.fact {α : Type} {f : Nat → Option α} {r : α} {H : Nat → Prop} (g : Ev f r) (h : Evp H) : Evp fun k => f k = some r ∧ H k := Evp.and (G := fun k => f k = some r) g h
theorem Evp.inl {G H : Nat → Prop} (g : Evp G) : Evp fun k => G k ∨ H k := let ⟨n, g⟩ := g; ⟨n, fun k hk => .inl (g k hk)⟩
theorem Evp.inr {G H : Nat → Prop} (g : Evp H) : Evp fun k => G k ∨ H k := let ⟨n, g⟩ := g; ⟨n, fun k hk => .inr (g k hk)⟩
theorem Evp.ex {α : Type} {G : Nat → α → Prop} (a : α) (g : Evp fun k => G k a) : Evp fun k => ∃ x, G k x := let ⟨n, g⟩ := g; ⟨n, fun k hk => ⟨a, g k hk⟩⟩
theorem Evp.guard {P : Prop} {H : Nat → Prop} (h : ¬ P → Evp H) : Evp fun k => P ∨ H k := by
  by_cases p : P
  · exact .inl (.of p)
  · exact .inr (h p)
theorem Evp.sz {f : Nat → Option Int} {a : Int} {P : Prop} (hf : SzOk f a P) {H : Nat → Int → Prop} (h : ∀ r, 0 ≤ r → r ≤ a → P → Evp fun k => H k r) : Evp fun k => ∃ t : Int, f k = some t ∧ (t < 0 ∨ H k t) := by
  obtain ⟨r, h1, h2⟩ := hf
  refine .ex r (.fact h1 ?_)
  rcases h2 with h2 | ⟨h2, h3, h4⟩
  · exact .inl (.of h2)
  · exact .inr (h r h2 h3 h4)
theorem sz_terms {l : List LTerm} {a : Int} (h0 : 0 ≤ a) (h1 : a ≤ 1048576) (hn : l.length ≤ 9223372036854775807) : SzOk (fun _ => laws_szTermS.f l a) a (l.length ≤ 1048576) := by
  unfold laws_szTermS.f
  exact sz_len h0 h1 hn
theorem Evp.terms {l : List LTerm} (hl : l.length ≤ 1048576) {H : Nat → List ITerm → Prop} (h : Evp fun k => H k (l.map cTerm)) : Evp fun k => ∃ b : List ITerm, laws_toTermS.f k l = some b ∧ b.length ≤ 1048576 ∧ H k b :=
  .ex _ (.fact (laws_toTermS_ev l hl) (.and (.of (by simpa using hl)) h))
def valOk (k v : Int) : Prop := (k = 1 → -9999 ≤ v ∧ v ≤ 9999) ∧ (k = 2 → 0 ≤ v ∧ v ≤ 1)
structure ValsOk (ks vs : List Int) : Prop where
  len : vs.length = ks.length
  at_ : ∀ i : Nat, i < ks.length → valOk (ks.getD i 0) (vs.getD i 0)
theorem ValsOk.nil : ValsOk [] [] := ⟨rfl, fun i h => absurd h (Nat.not_lt_zero i)⟩
theorem ValsOk.rd {ks vs : List Int} (h : ValsOk ks vs) {i : Int} (h0 : inR i 0 ((ks.length : Int) - 1) = true) : valOk (rd ks i) (rd vs i) := by
  have := inR_iff.1 h0
  have e := h.at_ i.toNat (by omega)
  exact e
theorem ValsOk.push {ks vs : List Int} (h : ValsOk ks vs) {k v : Int} (hv : valOk k v) : ValsOk (ks ++ [k]) (vs ++ [v]) := by
  refine ⟨by simp [h.len], fun i hi => ?_⟩
  rw [List.length_append, List.length_singleton] at hi
  by_cases e : i < ks.length
  · have := h.at_ i e
    rw [List.getD_eq_getElem?_getD, List.getD_eq_getElem?_getD] at this ⊢
    rw [List.getElem?_append_left e, List.getElem?_append_left (by rw [h.len]; exact e)]
    exact this
  · have e' : i = ks.length := by omega
    subst e'
    rw [List.getD_eq_getElem?_getD, List.getD_eq_getElem?_getD, List.getElem?_append_right (Nat.le_refl _), List.getElem?_append_right (by rw [h.len]; exact Nat.le_refl _), h.len]
    simpa using hv
def foldN {α σ : Type} (step : Nat → σ → α → σ) : Nat → σ → List α → σ
  | _, s, [] => s
  | n, s, x :: r => foldN step (n + 1) (step n s x) r
theorem ev_fold {α σ ρ : Type} (L : Nat → σ → Int → Option ρ) (xs : List α) (step : Nat → σ → α → σ) (fin : σ → ρ) (I : Nat → σ → Prop)
    (hend : ∀ s, I xs.length s → Ev (fun k => L k s (xs.length : Int)) (fin s))
    (hstep : ∀ (n : Nat) s x R, n < xs.length → xs[n]? = some x → I n s → Ev (fun k => L k (step n s x) ((n + 1 : Nat) : Int)) R → Ev (fun k => L k s (n : Int)) R)
    (hI : ∀ (n : Nat) s x, n < xs.length → xs[n]? = some x → I n s → I (n + 1) (step n s x)) (s0 : σ) (h0 : I 0 s0) :
    Ev (fun k => L k s0 0) (fin (foldN step 0 s0 xs)) := by
  have h : ∀ d n : Nat, xs.length - n = d → n ≤ xs.length → ∀ s, I n s → Ev (fun k => L k s (n : Int)) (fin (foldN step n s (xs.drop n))) := by
    intro d
    induction d with
    | zero =>
      intro n h1 h2 s hs
      have : n = xs.length := by omega
      subst this
      rw [List.drop_length]
      exact hend s hs
    | succ d ih =>
      intro n h1 h2 s hs
      have hn : n < xs.length := by omega
      have hx := List.getElem?_eq_getElem hn
      rw [List.drop_eq_getElem_cons hn]
      exact hstep n s _ _ hn hx hs (ih (n + 1) (by omega) (by omega) _ (hI n s _ hn hx hs))
  have := h xs.length 0 (by omega) (by omega) s0 h0
  simpa using this
theorem ev_index {α : Type} {da : α} (L : Nat → Int → Option Int) (F : Nat → α → Option Bool) (xs : List α) (p : α → Bool) (hl : xs.length ≤ 9223372036854775807)
    (hL : ∀ k i, L (k + 1) i = if i < (xs.length : Int) then (if 0 ≤ i then (if i < (xs.length : Int) then ((F k (xs.getD i.toNat da)).bind fun t => if t = true then some i else L k (wrap64 (i + 1))) else none) else none) else some (-1))
    (hF : ∀ x ∈ xs, Ev (fun k => F k x) (p x)) : ∃ r, Ev (fun k => L k 0) r ∧ decide (r ≥ 0) = xs.any p := by
  have key : ∀ d n : Nat, xs.length - n = d → n ≤ xs.length → ∃ r, Ev (fun k => L k (n : Int)) r ∧ decide (r ≥ 0) = (xs.drop n).any p := by
    intro d
    induction d with
    | zero =>
      intro n h1 h2
      have : n = xs.length := by omega
      subst this
      exact ⟨-1, Ev.step (fun k => hL k _) (ev_neg (by omega) (ev_ret _)), by rw [List.drop_length]; rfl⟩
    | succ d ih =>
      intro n h1 h2
      have hn : n < xs.length := by omega
      have hx := List.getElem?_eq_getElem hn
      rw [List.drop_eq_getElem_cons hn, List.any_cons]
      have hf := hF _ (List.getElem_mem hn)
      cases hp : p xs[n] with
      | true =>
        rw [hp] at hf
        refine ⟨(n : Int), Ev.step (fun k => hL k _) (ev_pos (by omega) (ev_pos (by omega) (ev_pos (by omega) ?_))), by simp⟩
        rw [getD_of hx]
        exact ev_bind hf (ev_pos rfl (ev_ret _))
      | false =>
        rw [hp] at hf
        obtain ⟨r, h3, h4⟩ := ih (n + 1) (by omega) (by omega)
        refine ⟨r, Ev.step (fun k => hL k _) (ev_pos (by omega) (ev_pos (by omega) (ev_pos (by omega) ?_))), by rw [h4]; rfl⟩
        rw [getD_of hx, wrap_nat hn (by omega)]
        exact ev_bind hf (ev_neg (by simp) h3)
  have := key xs.length 0 (by omega) (by omega)
  simpa using this
theorem ev_contains {α : Type} {da : α} (L : Nat → Int → Option Int) (F : Nat → α → Option Bool) (xs : List α) (p : α → Bool) (hl : xs.length ≤ 9223372036854775807)
    (hL : ∀ k i, L (k + 1) i = if i < (xs.length : Int) then (if 0 ≤ i then (if i < (xs.length : Int) then ((F k (xs.getD i.toNat da)).bind fun t => if t = true then some i else L k (wrap64 (i + 1))) else none) else none) else some (-1))
    (hF : ∀ x ∈ xs, Ev (fun k => F k x) (p x)) : Ev (fun k => (L k 0).bind fun t => some (decide (t ≥ 0))) (xs.any p) := by
  obtain ⟨r, h1, h2⟩ := ev_index L F xs p hl hL hF
  exact ev_bind h1 (ev_eq (ev_ret _) h2)
theorem ev_all {α : Type} {da : α} (L : Nat → Int → Option Bool) (F : Nat → α → Option Bool) (xs : List α) (p : α → Bool) (G : Nat → Option Bool) (b : Bool) (hl : xs.length ≤ 9223372036854775807) (hG : Ev G b)
    (hL : ∀ k i, L (k + 1) i = if i < (xs.length : Int) then (if 0 ≤ i then ((F k (xs.getD i.toNat da)).bind fun t => if t = true then L k (wrap64 (i + 1)) else some false) else none) else G k)
    (hF : ∀ x ∈ xs, Ev (fun k => F k x) (p x)) : Ev (fun k => L k 0) (xs.all p && b) := by
  have key : ∀ d n : Nat, xs.length - n = d → n ≤ xs.length → Ev (fun k => L k (n : Int)) ((xs.drop n).all p && b) := by
    intro d
    induction d with
    | zero =>
      intro n h1 h2
      have : n = xs.length := by omega
      subst this
      rw [List.drop_length]
      refine Ev.step (fun k => hL k _) (ev_neg (by omega) (ev_eq hG (by simp)))
    | succ d ih =>
      intro n h1 h2
      have hn : n < xs.length := by omega
      have hx := List.getElem?_eq_getElem hn
      rw [List.drop_eq_getElem_cons hn, List.all_cons]
      have hf := hF _ (List.getElem_mem hn)
      refine Ev.step (fun k => hL k _) (ev_pos (by omega) (ev_pos (by omega) ?_))
      rw [getD_of hx, wrap_nat hn (by omega)]
      cases hp : p xs[n] with
      | true => rw [hp] at hf; exact ev_bind hf (ev_pos rfl (ev_eq (ih (n + 1) (by omega) (by omega)) (by simp)))
      | false => rw [hp] at hf; exact ev_bind hf (ev_neg (by simp) (ev_eq (ev_ret _) (by simp)))
  have := key xs.length 0 (by omega) (by omega)
  simpa using this
theorem sz_rows {α : Type} {da : List α} {n : Nat} (L : Nat → Int → Int → Option Int) (F : List α → Int → Option Int) (xs : List (List α)) {a : Int} (h0 : 0 ≤ a) (h1 : a ≤ 1048576) (hn : xs.length ≤ 9223372036854775807)
    (hL : ∀ k a i, L (k + 1) a i = if i < (xs.length : Int) then (if 0 ≤ i then ((F (xs.getD i.toNat da) a).bind fun t => if t < 0 then some (-1) else L k t (wrap64 (i + 1))) else none) else some a)
    (hF : ∀ x ∈ xs, ∀ a, 0 ≤ a → a ≤ 1048576 → SzOk (fun _ => F x a) a (x.length ≤ 1048576)) :
    SzOk (fun k => if wrap64 (a - (xs.length : Int)) < 0 then some (-1) else L k (wrap64 (a - (xs.length : Int))) 0) a (xs.length ≤ 1048576 ∧ ∀ x ∈ xs, x.length ≤ 1048576) := by
  have w : wrap64 (a - (xs.length : Int)) = a - (xs.length : Int) := wrap_in (by omega) (by omega)
  rw [w]
  by_cases h : a - (xs.length : Int) < 0
  · exact ⟨-1, ev_pos h (ev_ret _), .inl (by omega)⟩
  · obtain ⟨s, hs, k⟩ := sz_loop (da := da) L (fun _ x a => F x a) xs (fun l => l.length ≤ 1048576) hn hL hF (a - (xs.length : Int)) (by omega) (by omega)
    refine ⟨s, ev_neg h hs, ?_⟩
    rcases k with k | ⟨k0, ka, kp⟩
    · exact .inl k
    · exact .inr ⟨k0, by omega, by omega, kp⟩
theorem sz_termss {l : List (List LTerm)} {a : Int} (h0 : 0 ≤ a) (h1 : a ≤ 1048576) (hn : l.length ≤ 9223372036854775807) (hx : ∀ x ∈ l, x.length ≤ 9223372036854775807) : SzOk (fun k => laws_szTermSS.f k l a) a (l.length ≤ 1048576 ∧ ∀ x ∈ l, x.length ≤ 1048576) := by
  unfold laws_szTermSS.f
  exact sz_rows (n := 0) (da := []) (fun k a i => laws_szTermSS.l0 k l a i) (fun x a => laws_szTermS.f x a) l h0 h1 hn (fun k a i => by rw [laws_szTermSS.l0]; rfl) (fun x h a h0 h1 => sz_terms h0 h1 (hx x h))
def factsP (V : List IVar) (R : List IRule) (fs : List (List ITerm)) : Bool := (fs.all fun f => kindOfP f V.length == 2) && (sysP V R && decide (fs.length ≤ 4))
theorem spec_l20Facts_ev (V : List IVar) (R : List IRule) (fs : List (List ITerm)) (hl : fs.length ≤ 9223372036854775807) : Ev (fun k => spec_l20Facts.f k V R fs) (factsP V R fs) := by
  unfold spec_l20Facts.f factsP
  refine ev_all (da := ([] : List ITerm)) (fun k i => spec_l20Facts.l0 k fs i V R) (fun k x => spec_l2Is.f k x (V.length : Int) 2) fs (fun f => kindOfP f V.length == 2) (fun k => (spec_SystemValid.f k V R).bind fun t1503 => (if t1503 = true then (some (decide ((fs.length : Int) ≤ 4))) else (some false))) _ hl ?_ (fun k i => by rw [spec_l20Facts.l0]; rfl) (fun x _ => spec_l2Is_ev x _ 2 (by decide))
  refine ev_bind (spec_SystemValid_ev _ _) ?_
  cases q : sysP V R with
  | true => exact ev_pos rfl (ev_eq (ev_ret _) (by rw [Bool.true_and]; congr 1; apply propext; omega))
  | false => exact ev_neg (by simp) (ev_eq (ev_ret _) (by simp))
theorem impl_factsOk_ev {V : List IVar} {R : List IRule} (fs : List (List ITerm)) (hl : fs.length ≤ 9223372036854775807) (hv : Ev (fun k => impl_SystemValid.f k V R) (sysP V R)) : Ev (fun k => impl_factsOk.f k V R fs) (factsP V R fs) := by
  unfold impl_factsOk.f factsP
  refine ev_bind hv ?_
  cases q : sysP V R with
  | false => exact ev_neg (by simp) (ev_eq (ev_ret _) (by simp))
  | true =>
    refine ev_pos rfl ?_
    by_cases h : fs.length ≤ 4
    · refine ev_pos (by omega) ?_
      unfold slices_ContainsFunc_at_impl_factsOk_1.f slices_IndexFunc_at_impl_factsOk_1.f
      refine ev_bind (ev_contains (da := ([] : List ITerm)) (fun k i => slices_IndexFunc_at_impl_factsOk_1.l0 k fs (fs.length : Int) i V R) (fun k x => impl_factsOk_1.f k x V R) fs (fun x => !(kindOfP x V.length == 2)) hl (fun k i => by rw [slices_IndexFunc_at_impl_factsOk_1.l0]; rfl)
        (fun x _ => by unfold impl_factsOk_1.f; exact ev_bind (impl_kindOf_ev x _) (ev_eq (ev_ret _) (by rfl)))) (ev_eq (ev_ret _) ?_)
      rw [List.not_any_eq_all_not]
      simp [h]
    · exact ev_neg (by omega) (ev_eq (ev_ret _) (by simp [h]))
def allI {α : Type} (p : Nat → α → Bool) : Nat → List α → Bool
  | _, [] => true
  | n, x :: r => p n x && allI p (n + 1) r
theorem ev_alli {α : Type} (L : Nat → Int → Option Bool) (xs : List α) (p : Nat → α → Bool) (hend : Ev (fun k => L k (xs.length : Int)) true)
    (hstep : ∀ (n : Nat) (x : α) (Q : Bool), n < xs.length → xs[n]? = some x → Ev (fun k => L k ((n + 1 : Nat) : Int)) Q → Ev (fun k => L k (n : Int)) (p n x && Q)) : Ev (fun k => L k 0) (allI p 0 xs) := by
  have h : ∀ d n : Nat, xs.length - n = d → n ≤ xs.length → Ev (fun k => L k (n : Int)) (allI p n (xs.drop n)) := by
    intro d
    induction d with
    | zero =>
      intro n h1 h2
      have : n = xs.length := by omega
      subst this
      rw [List.drop_length]
      exact hend
    | succ d ih =>
      intro n h1 h2
      have hn : n < xs.length := by omega
      rw [List.drop_eq_getElem_cons hn]
      exact hstep n _ _ hn (List.getElem?_eq_getElem hn) (ih (n + 1) (by omega) (by omega))
  have := h xs.length 0 (by omega) (by omega)
  simpa using this
theorem ev_at {α : Type} {g : Nat → Option α} {r : α} (h : ∀ k, g (k + 1) = some r) : Ev g r := ⟨1, fun k hk => by
  obtain ⟨m, rfl⟩ : ∃ m, k = m + 1 := ⟨k - 1, by omega⟩
  exact h m⟩
def timeP (facts : Int) (n : Nat) (t : ITime) : Bool :=
  if t.f0 = 0 then (t.f1 == 0 && (t.f2 == 0 && t.f3 == 0))
  else if t.f0 = 1 then (inR t.f1 0 (wrap64 (facts - 1)) && (t.f2 == 0 && t.f3 == 0))
  else (inR t.f0 2 7 && (t.f1 == 0 && (inR t.f2 0 (wrap64 ((n : Int) - 1)) && (inR t.f3 0 (wrap64 ((n : Int) - 1)) && (!(t.f0 == 2 || t.f0 == 5) || t.f3 == t.f2)))))
def timesP (l : List ITime) (facts : Int) : Bool := inR facts 0 4 && (inR (l.length : Int) 1 24 && allI (timeP facts) 0 l)
theorem spec_l20Step_eq (t : ITime) (n : Nat) (facts : Int) : ∀ k, spec_l20Step.f (k + 1) t.f0 t.f1 t.f2 t.f3 (n : Int) facts = some (timeP facts n t) := by
  intro k
  simp only [spec_l20Step.f, spec_l20Step.j0, spec_l20One.f, spec_l1In_eq, Option.bind_some, timeP]
  by_cases h0 : t.f0 = 0
  · simp only [h0, if_true]
    by_cases h1 : t.f1 = 0 <;> by_cases h2 : t.f2 = 0 <;> simp [h1, h2]
  simp only [h0, if_false]
  by_cases h1 : t.f0 = 1
  · simp only [h1, if_true]
    cases inR t.f1 0 (wrap64 (facts - 1)) <;> by_cases h2 : t.f2 = 0 <;> simp [h2]
  simp only [h1, if_false]
  cases inR t.f0 2 7 <;> by_cases h2 : t.f1 = 0 <;> cases inR t.f2 0 (wrap64 ((n : Int) - 1)) <;> cases inR t.f3 0 (wrap64 ((n : Int) - 1)) <;> by_cases h3 : t.f0 = 2 <;> by_cases h4 : t.f0 = 5 <;> simp [h2, h3, h4]
theorem spec_TimesValid_ev (l : List ITime) (facts : Int) (hl : l.length ≤ 9223372036854775807) : Ev (fun k => spec_TimesValid.f k l facts) (timesP l facts) := by
  unfold spec_TimesValid.f timesP
  rw [spec_l1In_eq, spec_l1In_eq]
  refine ev_bind (ev_ret _) ?_
  cases h1 : inR facts 0 4 with
  | false => exact ev_neg (by simp) (Ev.step (fun k => by rw [spec_TimesValid.j0]) (ev_pos rfl (ev_eq (ev_ret _) (by simp))))
  | true =>
    refine ev_pos rfl (ev_bind (ev_ret _) (Ev.step (fun k => by rw [spec_TimesValid.j0]) ?_))
    cases h2 : inR (l.length : Int) 1 24 with
    | false => exact ev_pos rfl (ev_eq (ev_ret _) (by simp))
    | true =>
      refine ev_neg (by simp) (ev_eq (ev_alli (fun k i => spec_TimesValid.l0 k l facts i) l (timeP facts) (Ev.step (fun k => by rw [spec_TimesValid.l0]) (ev_neg (by omega) (ev_ret _))) ?_) (by simp))
      intro n x Q hn hx ih
      refine Ev.step (fun k => by rw [spec_TimesValid.l0]) ?_
      rw [show rd_ITime l (n : Int) = x from getD_of hx, wrap_nat hn (by omega)]
      refine ev_pos (by omega) (ev_pos (by omega) (ev_bind (ev_at (spec_l20Step_eq x n facts)) ?_))
      cases h : timeP facts n x with
      | true => exact ev_pos rfl (ev_eq ih (by simp))
      | false => exact ev_neg (by simp) (ev_eq (ev_ret _) (by simp))
theorem impl_TimesValid_ev (l : List ITime) (facts : Int) (hl : l.length ≤ 9223372036854775807) : Ev (fun k => impl_TimesValid.f k l facts) (timesP l facts) := by
  unfold impl_TimesValid.f timesP
  rw [impl_in_eq, impl_in_eq]
  refine ev_bind (ev_ret _) ?_
  cases h1 : inR facts 0 4 with
  | false => exact ev_neg (by simp) (Ev.step (fun k => by rw [impl_TimesValid.j0]) (ev_pos rfl (ev_eq (ev_ret _) (by simp))))
  | true =>
    refine ev_pos rfl (ev_bind (ev_ret _) (Ev.step (fun k => by rw [impl_TimesValid.j0]) ?_))
    cases h2 : inR (l.length : Int) 1 24 with
    | false => exact ev_pos rfl (ev_eq (ev_ret _) (by simp))
    | true =>
      refine ev_neg (by simp) (ev_eq (ev_alli (fun k i => impl_TimesValid.l0 k facts l (l.length : Int) i) l (timeP facts) (Ev.step (fun k => by rw [impl_TimesValid.l0]) (ev_neg (by omega) (ev_ret _))) ?_) (by simp))
      intro n x Q hn hx ih
      have hj : Ev (fun k => impl_TimesValid.j2 k facts (timeP facts n x) l (l.length : Int) (n : Int)) (timeP facts n x && Q) := by
        refine Ev.step (fun k => by rw [impl_TimesValid.j2, wrap_nat hn (by omega)]) ?_
        cases h : timeP facts n x with
        | true => exact ev_pos rfl (ev_eq ih (by simp))
        | false => exact ev_neg (by simp) (ev_eq (ev_ret _) (by simp))
      refine Ev.step (fun k => by rw [impl_TimesValid.l0]) ?_
      rw [show rd_ITime l (n : Int) = x from getD_of hx]
      refine ev_pos (by omega) (ev_pos (by omega) (ev_pos (by omega) (Ev.congr (fun k => ?_) hj)))
      simp only [impl_in_eq, Option.bind_some]
      unfold timeP
      by_cases h0 : x.f0 = 0
      · simp [h0]
      simp only [h0, if_false]
      by_cases h1 : x.f0 = 1
      · simp only [h1, if_true]
        by_cases h2 : x.f2 = 0
        · cases inR x.f1 0 (wrap64 (facts - 1)) <;> simp [h2]
        · have b2 : (x.f2 == 0) = false := by simpa using h2
          cases inR x.f1 0 (wrap64 (facts - 1)) <;> simp [h2, b2]
      simp only [h1, if_false]
      have e : inR x.f0 0 7 = inR x.f0 2 7 := by unfold inR; congr 1; apply propext; omega
      rw [e]
      by_cases h2 : x.f1 = 0
      · by_cases h5 : x.f2 = x.f3
        · cases inR x.f0 2 7 <;> cases inR x.f2 0 (wrap64 ((n : Int) - 1)) <;> cases inR x.f3 0 (wrap64 ((n : Int) - 1)) <;> simp [h2, h5]
        · have b5 : (x.f3 == x.f2) = false := by simpa using fun h => h5 h.symm
          by_cases h3 : x.f0 = 2
          · cases inR x.f0 2 7 <;> cases inR x.f2 0 (wrap64 ((n : Int) - 1)) <;> cases inR x.f3 0 (wrap64 ((n : Int) - 1)) <;> simp [h2, h3, h5, b5]
          · have b3 : (x.f0 == 2) = false := by simpa using h3
            cases inR x.f0 2 7 <;> cases inR x.f2 0 (wrap64 ((n : Int) - 1)) <;> cases inR x.f3 0 (wrap64 ((n : Int) - 1)) <;> simp [h2, h3, h5, b3, b5, bne]
      · have b2 : (x.f1 == 0) = false := by simpa using h2
        cases inR x.f0 2 7 <;> simp [h2, b2]
def stepsP (l : List ITime) : List Int := foldN (fun n s (x : ITime) => if x.f0 ≥ 5 then s ++ [(n : Int)] else s) 0 [] l
theorem foldN_steps (l : List ITime) : ∀ n s, (foldN (fun n s (x : ITime) => if x.f0 ≥ 5 then s ++ [(n : Int)] else s) n s l).length ≤ s.length + l.length := by
  induction l with
  | nil => intro n s; simp [foldN]
  | cons x l ih =>
    intro n s
    simp only [foldN]
    by_cases h : x.f0 ≥ 5
    · have := ih (n + 1) (s ++ [(n : Int)])
      rw [if_pos h]
      rw [List.length_append, List.length_singleton] at this
      rw [List.length_cons]
      omega
    · have := ih (n + 1) s
      rw [if_neg h, List.length_cons]
      omega
theorem stepsP_len (l : List ITime) : (stepsP l).length ≤ l.length := by
  have := foldN_steps l 0 []
  rw [List.length_nil, Nat.zero_add] at this
  exact this
theorem spec_l21Steps_ev (l : List ITime) (hl : l.length ≤ 1048576) : Ev (fun k => spec_l21Steps.f k l) (stepsP l) := by
  unfold spec_l21Steps.f stepsP
  refine ev_fold (fun k s i => spec_l21Steps.l0 k l s i) l _ (fun s => s) (fun n s => s.length ≤ n) (fun s hs => by
      refine Ev.step (fun k => by rw [spec_l21Steps.l0]) ?_
      exact ev_neg (by omega) (ev_ret _)) (fun n s x R hn hx hs ih => ?_) (fun n s x hn hx hs => ?_) [] (by simp)
  · refine Ev.step (fun k => by rw [spec_l21Steps.l0]) ?_
    rw [show rd_ITime l (n : Int) = x from getD_of hx, wrap_nat hn (by omega)]
    refine ev_pos (by omega) (ev_pos (by omega) ?_)
    by_cases h : x.f0 ≥ 5
    · simp only [h, if_true] at ih
      exact ev_pos h (ev_pos (by omega) ih)
    · simp only [h, if_false] at ih
      exact ev_neg h ih
  · split
    · simp; omega
    · omega
def guessedP (l : List ITime) (facts : Int) : List Int × Bool := if timesP l facts = true then (stepsP l, decide (facts + (stepsP l).length ≤ 7)) else ([], false)
theorem timesP_in {l : List ITime} {facts : Int} (h : timesP l facts = true) : (0 ≤ facts ∧ facts ≤ 4) ∧ 1 ≤ l.length ∧ l.length ≤ 24 := by
  simp only [timesP, Bool.and_eq_true, inR_iff] at h
  omega
theorem impl_guessed_ev (l : List ITime) (facts : Int) (hl : l.length ≤ 9223372036854775807) : Ev (fun k => impl_guessed.f k l facts) (guessedP l facts) := by
  unfold impl_guessed.f guessedP
  refine ev_bind (impl_TimesValid_ev l facts hl) ?_
  cases h : timesP l facts with
  | false => exact ev_neg (by simp) (ev_eq (ev_ret _) (by simp))
  | true =>
    obtain ⟨h1, h2⟩ := timesP_in h
    have hs := stepsP_len l
    refine ev_pos rfl ?_
    simp only [if_true]
    unfold stepsP at hs ⊢
    refine ev_fold (fun k s i => impl_guessed.l0 k facts s l (l.length : Int) i) l (fun n s (x : ITime) => if x.f0 ≥ 5 then s ++ [(n : Int)] else s) (fun s => (s, decide (facts + s.length ≤ 7))) (fun n s => s.length ≤ n) (fun s hs => ?_) (fun n s x R hn hx hs ih => ?_) (fun n s x hn hx hs => ?_) [] (by simp)
    · refine Ev.step (fun k => by rw [impl_guessed.l0]) (ev_neg (by omega) ?_)
      refine ev_bind (g := fun _ => impl_clone_int.f s) (ev_fix (by unfold impl_clone_int.f; rw [if_pos (by omega)])) (ev_eq (ev_ret _) ?_)
      rw [wrap_in (by omega) (by omega)]
    · refine Ev.step (fun k => by rw [impl_guessed.l0]) ?_
      rw [show rd_ITime l (n : Int) = x from getD_of hx, wrap_nat hn (by omega)]
      refine ev_pos (by omega) (ev_pos (by omega) (ev_pos (by omega) ?_))
      by_cases h : x.f0 ≥ 5
      · simp only [h, if_true] at ih
        exact ev_pos h (ev_pos (by omega) ih)
      · simp only [h, if_false] at ih
        exact ev_neg h ih
    · split
      · simp; omega
      · omega
def askedP (l : List ITime) (facts : Int) : Bool := timesP l facts && decide (facts + (stepsP l).length ≤ 7)
theorem spec_l21Asked_ev (l : List ITime) (facts : Int) (hl : l.length ≤ 1048576) : Ev (fun k => spec_l21Asked.f k l facts) (askedP l facts) := by
  unfold spec_l21Asked.f askedP
  refine ev_bind (spec_TimesValid_ev l facts (by omega)) ?_
  cases h : timesP l facts with
  | false => exact ev_neg (by simp) (ev_eq (ev_ret _) (by simp))
  | true =>
    obtain ⟨h1, h2⟩ := timesP_in h
    have hs := stepsP_len l
    refine ev_pos rfl (ev_bind (spec_l21Steps_ev l hl) (ev_eq (ev_ret _) ?_))
    rw [wrap_in (by omega) (by omega), Bool.true_and]
def guessesP (l : List ITime) (facts : Int) : Int := if askedP l facts = true then shl .i64 1 (facts + (stepsP l).length) else 0
theorem spec_GuessCount_ev (l : List ITime) (facts : Int) (hl : l.length ≤ 1048576) : Ev (fun k => spec_GuessCount.f k l facts) (guessesP l facts) := by
  unfold spec_GuessCount.f guessesP
  refine ev_bind (spec_l21Asked_ev l facts hl) ?_
  cases h : askedP l facts with
  | false => exact ev_neg (by simp) (ev_eq (ev_ret _) (by simp))
  | true =>
    simp only [askedP, Bool.and_eq_true, decide_eq_true_eq] at h
    obtain ⟨h1, h2⟩ := timesP_in h.1
    have w : wrap64 (facts + ((stepsP l).length : Int)) = facts + (stepsP l).length := wrap_in (by omega) (by omega)
    refine ev_pos rfl (ev_bind (spec_l21Steps_ev l hl) (ev_pos (by rw [w]; omega) (ev_eq (ev_ret _) ?_)))
    rw [w, if_pos rfl]
theorem impl_GuessCount_ev (l : List ITime) (facts : Int) (hl : l.length ≤ 1048576) : Ev (fun k => impl_GuessCount.f k l facts) (guessesP l facts) := by
  unfold impl_GuessCount.f guessesP
  refine ev_bind (impl_guessed_ev l facts (by omega)) ?_
  unfold guessedP askedP
  cases h : timesP l facts with
  | false => exact ev_neg (by simp) (ev_eq (ev_ret _) (by simp))
  | true =>
    obtain ⟨h1, h2⟩ := timesP_in h
    have hs := stepsP_len l
    have w : wrap64 (facts + ((stepsP l).length : Int)) = facts + (stepsP l).length := wrap_in (by omega) (by omega)
    by_cases h3 : facts + (stepsP l).length ≤ 7
    · exact ev_pos (by simp [h3]) (ev_pos (by simp [w]; omega) (ev_eq (ev_ret _) (by simp [h3, w])))
    · exact ev_neg (by simp [h3]) (ev_eq (ev_ret _) (by simp [h3]))
theorem shl_pos {n : Int} (h0 : 0 ≤ n) (h1 : n ≤ 7) : 0 < shl .i64 1 n := by
  obtain ⟨m, rfl⟩ : ∃ m : Nat, n = m := ⟨n.toNat, by omega⟩
  have : m ≤ 7 := by omega
  match m, this with
  | 0, _ => decide
  | 1, _ => decide
  | 2, _ => decide
  | 3, _ => decide
  | 4, _ => decide
  | 5, _ => decide
  | 6, _ => decide
  | 7, _ => decide
theorem guessesP_pos (l : List ITime) {facts : Int} (h0 : 0 ≤ facts) : (0 < guessesP l facts) ↔ askedP l facts = true := by
  unfold guessesP
  cases h : askedP l facts with
  | false => simp
  | true =>
    simp only [askedP, Bool.and_eq_true, decide_eq_true_eq] at h
    simpa using shl_pos (by omega) h.2
def cTime (x : LTime) : ITime := ⟨x.f0, x.f1, x.f2, x.f3⟩
theorem sz_times {l : List LTime} {a : Int} (h0 : 0 ≤ a) (h1 : a ≤ 1048576) (hn : l.length ≤ 9223372036854775807) : SzOk (fun _ => laws_szTimeS.f l a) a (l.length ≤ 1048576) := by
  unfold laws_szTimeS.f
  exact sz_len h0 h1 hn
theorem laws_toTimeS_ev (l : List LTime) (h : l.length ≤ 1048576) : Ev (fun k => laws_toTimeS.f k l) (l.map cTime) := by
  unfold laws_toTimeS.f
  refine ev_pos (by omega) (ev_pos (by omega) ?_)
  exact ev_fill (da := zLTime) (db := zITime) (fun k ys i => laws_toTimeS.l0 k l ys i) (fun k x => some (cTime x)) l cTime (by omega) (fun k ys i => by rw [laws_toTimeS.l0]; rfl) (fun x _ => ev_ret _)
theorem laws_eqTimeS_ev (l : List ITime) (h : l.length ≤ 1048576) : Ev (fun k => laws_eqTimeS.f k l l) true := by
  unfold laws_eqTimeS.f
  refine ev_pos rfl ?_
  exact ev_same (da := zITime) (fun k i => laws_eqTimeS.l0 k l l i) (fun k x y => laws_eqTime.f x.f0 x.f1 x.f2 x.f3 y.f0 y.f1 y.f2 y.f3) l l (by omega) rfl (fun k i => by rw [laws_eqTimeS.l0]; rfl) (fun x _ => by unfold laws_eqTime.f; simp only [if_true]; exact ev_ret _)
end Go.Proofs.Ytjgfpgoaabppbaa.PA
end
section
namespace Go.Proofs.Ytjgfpgoaabppbaa.PA
open Go.RowKit Go.Proofs.YtjgfpgoaabppbaaW.PrintWords
def laws_FnExactProductSize.PureS : Prop := ∀ (l0_0 : List LVar) (l0_1 : List LRule) (l1 : List (List LTerm)) (l2 : List LTime), (l0_0.length ≤ 9223372036854775807 ∧ ∀ x0 ∈ l0_0, okLVar x0) → (l0_1.length ≤ 9223372036854775807 ∧ ∀ x0 ∈ l0_1, okLRule x0) → (l1.length ≤ 9223372036854775807 ∧ ∀ x0 ∈ l1, (x0.length ≤ 9223372036854775807 ∧ ∀ x1 ∈ x0, okLTerm x1)) → (l2.length ≤ 9223372036854775807 ∧ ∀ x0 ∈ l2, okLTime x0) → ∃ k, laws_FnExactProductSize.f k l0_0 l0_1 l1 l2 = some true
end Go.Proofs.Ytjgfpgoaabppbaa.PA
end
section
set_option linter.unusedVariables false
set_option linter.unusedSimpArgs false
namespace Go.Proofs.Ytjgfpgoaabppbaa.PA
open Go.RowKit Go.Proofs.YtjgfpgoaabppbaaW.PrintWords
theorem timeS_len {l : List LTime} (h : l.length ≤ 9223372036854775807 ∧ ∀ x ∈ l, okLTime x) : l.length ≤ 9223372036854775807 := h.1
def askP (V : List IVar) (R : List IRule) (fs : List (List ITerm)) (l : List ITime) : Bool := factsP V R fs && (decide (sizeP V ≤ 50) && askedP l (fs.length : Int))
def prodSizeP (V : List IVar) (R : List IRule) (fs : List (List ITerm)) (l : List ITime) : Int := if askP V R fs l = true then wrap64 (sizeP V * guessesP l (fs.length : Int)) else 0
theorem factsP_sys {V : List IVar} {R : List IRule} {fs : List (List ITerm)} (h : factsP V R fs = true) : sysP V R = true := by
  simp only [factsP, Bool.and_eq_true] at h
  exact h.2.1
theorem spec_ProductSize_ev (V : List IVar) (R : List IRule) (fs : List (List ITerm)) (l : List ITime) (hf : fs.length ≤ 9223372036854775807) (hl : l.length ≤ 1048576) : Ev (fun k => spec_ProductSize.f k V R fs l) (prodSizeP V R fs l) := by
  unfold spec_ProductSize.f prodSizeP spec_l22Asked.f
  refine ev_bind (a := askP V R fs l) ?_ ?_
  · refine ev_bind (spec_l20Facts_ev V R fs hf) ?_
    unfold askP
    cases h : factsP V R fs with
    | false => exact ev_neg (by simp) (ev_eq (ev_ret _) (by simp))
    | true =>
      refine ev_pos rfl (ev_bind (spec_SizeOf_ev V R) ?_)
      rw [if_pos (factsP_sys h)]
      by_cases h2 : sizeP V ≤ 50
      · exact ev_pos h2 (ev_bind (spec_l21Asked_ev l _ hl) (ev_eq (ev_ret _) (by simp [h2])))
      · exact ev_neg h2 (ev_eq (ev_ret _) (by simp [h2]))
  · cases h : askP V R fs l with
    | false => exact ev_neg (by simp) (ev_eq (ev_ret _) (by simp))
    | true =>
      refine ev_pos rfl (ev_bind (spec_SizeOf_ev V R) (ev_bind (spec_GuessCount_ev l _ hl) (ev_eq (ev_ret _) ?_)))
      simp only [askP, Bool.and_eq_true] at h
      rw [if_pos (factsP_sys h.1)]
      simp
theorem impl_ProductSize_ev {V : List IVar} {R : List IRule} (fs : List (List ITerm)) (l : List ITime) (hf : fs.length ≤ 9223372036854775807) (hl : l.length ≤ 1048576) (hV : V.length ≤ 9223372036854775807) (hv : Ev (fun k => impl_SystemValid.f k V R) (sysP V R)) : Ev (fun k => impl_ProductSize.f k V R fs l) (prodSizeP V R fs l) := by
  unfold impl_ProductSize.f prodSizeP impl_askTime.f
  refine ev_bind (a := askP V R fs l) ?_ ?_
  · refine ev_bind (impl_factsOk_ev fs hf hv) ?_
    unfold askP
    cases h : factsP V R fs with
    | false => exact ev_neg (by simp) (ev_eq (ev_ret _) (by simp))
    | true =>
      refine ev_pos rfl (ev_bind (impl_GuessCount_ev l _ hl) ?_)
      have hp := guessesP_pos l (facts := (fs.length : Int)) (by omega)
      by_cases h2 : guessesP l (fs.length : Int) > 0
      · exact ev_pos h2 (ev_bind (impl_size_ev V hV) (ev_eq (ev_ret _) (by simp [hp.1 h2])))
      · refine ev_neg h2 (ev_eq (ev_ret _) ?_)
        have : askedP l (fs.length : Int) = false := by
          cases e : askedP l (fs.length : Int) with
          | false => rfl
          | true => exact absurd (hp.2 e) h2
        simp [this]
  · cases h : askP V R fs l with
    | false => exact ev_neg (by simp) (ev_eq (ev_ret _) (by simp))
    | true => exact ev_pos rfl (ev_bind (impl_size_ev V hV) (ev_bind (impl_GuessCount_ev l _ hl) (ev_eq (ev_ret _) (by simp))))
theorem ExactProductSize_pure : laws_FnExactProductSize.PureS := by
  intro vars rules fs l hv hr hf hl
  suffices h : Ev (fun k => laws_FnExactProductSize.f k vars rules fs l) true from h.rounds
  unfold laws_FnExactProductSize.f
  refine ex_sys hv hr fun r hr0 hr1 S => ?_
  obtain ⟨a, ha, ka⟩ := sz_termss (l := fs) hr0 hr1 hf.1 (fun x hx => (hf.2 x hx).1)
  refine ev_bind ha ?_
  rcases ka with ka | ⟨a0, a1, kf1, kf2⟩
  · exact ev_pos ka (ev_ret _)
  refine ev_neg (by omega) ?_
  obtain ⟨b, hb, kb⟩ := sz_times (l := l) a0 (by omega) hl.1
  refine ev_bind hb ?_
  rcases kb with kb | ⟨b0, b1, kl⟩
  · exact ev_pos kb (ev_ret _)
  refine ev_neg (by omega) ?_
  have hF := laws_toTermSS_ev fs kf1 kf2
  have hL := laws_toTimeS_ev l kl
  have hfl : (fs.map fun x => x.map cTerm).length ≤ 1048576 := by simpa using kf1
  have hll : (l.map cTime).length ≤ 1048576 := by simpa using kl
  have hvl := S.vl
  refine ev_bind S.to (ev_bind hF (ev_bind hL (ev_bind (spec_ProductSize_ev _ _ _ _ (by omega) hll) (ev_bind S.to (ev_bind hF (ev_bind hL (ev_bind (impl_ProductSize_ev _ _ (by omega) hll (by omega) S.impl) (ev_pos rfl ?_))))))))
  refine ev_bind S.to (ev_bind S.eq (ev_pos rfl (ev_bind hF (ev_bind (laws_eqTermSS_ev _ (by omega) fun x hx => ?_) (ev_pos rfl (ev_bind hL (ev_bind (laws_eqTimeS_ev _ hll) (ev_pos rfl (ev_ret _)))))))))
  obtain ⟨y, hy, rfl⟩ := List.mem_map.1 hx
  have := kf2 y hy
  rw [List.length_map]
  omega
end Go.Proofs.Ytjgfpgoaabppbaa.PA
namespace Go.Proofs.Ytjgfpgoaabppbaa.Pure
theorem FnExactProductSize : Go.Proofs.Ytjgfpgoaabppbaa.PA.laws_FnExactProductSize.PureS := Go.Proofs.Ytjgfpgoaabppbaa.PA.ExactProductSize_pure
end Go.Proofs.Ytjgfpgoaabppbaa.Pure
end
