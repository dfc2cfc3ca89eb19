/- The plain side: what the Lean functions compute, without Go and memory; each theorem under the conditions that it names. -/
import Derived.Test.YtpjmiaooogephaaProg
import Derived.Below
import Derived.Deep.Draws
import Derived.Deep.AppendLies
import Derived.Maps.AppendAt
import Derived.OwnWalk
import Derived.Laws.BytesArg
import Derived.Laws.MakeOwn
import Derived.Laws.OwnMore
import Derived.Deep.OwnRows
import Derived.Tactics
import Derived.Lib.ConvBytes
import Derived.Laws.Slices
import Derived.WalkKit
import Derived.KernelRfl
import Derived.RowKit3
import Derived.Deep.LoopGhost
import Derived.Deep.QuietTactic
import Derived.BigQuiet
import Derived.WideLaws
import Derived.Deep.DeepCutAuto
import Derived.Deep.CutBlock
import Derived.Deep.RegionHeld3
import Derived.Laws.Rows
import Derived.Lib.AppendStr
import Derived.ArgAppend
import Derived.Laws.IdiomCopy
import Derived.OrdersHeld
import Derived.Laws.BitsLemmas
import Derived.RowKit
import Derived.Laws.StructEq
import Derived.Lib.SliceRun
import Derived.WalkSpells
import Derived.ChangeArms
import Derived.ChangeSlices
import Derived.Deep.Slices
import Derived.Test.YtpjmiaooogephaaKD470f0ddf8f
section
set_option linter.unusedVariables false
set_option linter.unusedSimpArgs false
namespace Go.Proofs.Ytpjmiaooogephaa.PA
open Go.RowKit Go.Proofs.YtpjmiaooogephaaW.PrintWords
theorem ev_ret {α : Type} (r : α) : Ev (fun _ => some r) r := Ev.now r
theorem ev_pos {α : Type} {c : Prop} [Decidable c] {f g : Nat → Option α} {r : α} (h : c) (k : Ev f r) : Ev (fun n => if c then f n else g n) r := by
  simpa [h] using k
theorem ev_neg {α : Type} {c : Prop} [Decidable c] {f g : Nat → Option α} {r : α} (h : ¬ c) (k : Ev g r) : Ev (fun n => if c then f n else g n) r := by
  simpa [h] using k
theorem ev_ite {α : Type} {c : Prop} [Decidable c] {f g : Nat → Option α} {r : α} (h1 : c → Ev f r) (h2 : ¬ c → Ev g r) : Ev (fun n => if c then f n else g n) r := by
  by_cases h : c
  · exact ev_pos h (h1 h)
  · exact ev_neg h (h2 h)
theorem ev_ite_eq {α : Type} {c : Prop} [Decidable c] {f g : Nat → Option α} {r s : α} (h1 : c → Ev f r) (h2 : ¬ c → Ev g s) : Ev (fun n => if c then f n else g n) (if c then r else s) := by
  by_cases h : c
  · rw [if_pos h]; exact ev_pos h (h1 h)
  · rw [if_neg h]; exact ev_neg h (h2 h)
theorem ev_bind {α β : Type} {g : Nat → Option α} {f : Nat → α → Option β} {a : α} {r : β} (h : Ev g a) (k : Ev (fun n => f n a) r) : Ev (fun n => (g n).bind (fun t => f n t)) r := Ev.bind h k
theorem ev_fix {α : Type} {o : Option α} {r : α} (h : o = some r) : Ev (fun _ => o) r := ⟨0, fun _ _ => h⟩
theorem ev_eq {α : Type} {g : Nat → Option α} {r r' : α} (h : Ev g r) (e : r = r') : Ev g r' := e ▸ h
theorem ev_loop {α ρ : Type} (L : Nat → Int → Option ρ) (xs : List α) (res : List α → ρ) (hend : Ev (fun k => L k (xs.length : Int)) (res []))
    (hstep : ∀ (n : Nat) (x : α) (r : List α), n < xs.length → xs[n]? = some x → xs.drop n = x :: r → r = xs.drop (n + 1) → Ev (fun k => L k ((n + 1 : Nat) : Int)) (res r) → Ev (fun k => L k (n : Int)) (res (x :: r))) :
    Ev (fun k => L k 0) (res xs) := by
  have h : ∀ d n : Nat, xs.length - n = d → n ≤ xs.length → Ev (fun k => L k (n : Int)) (res (xs.drop n)) := by
    intro d
    induction d with
    | zero =>
      intro n h1 h2
      have : n = xs.length := by omega
      subst this
      rw [List.drop_length]
      exact hend
    | succ d ih =>
      intro n h1 h2
      have hn : n < xs.length := by omega
      have e := List.drop_eq_getElem_cons hn
      rw [e]
      exact hstep n _ _ hn (List.getElem?_eq_getElem hn) e rfl (ih (n + 1) (by omega) (by omega))
  have := h xs.length 0 (by omega) (by omega)
  simpa using this
theorem wrap_in {x : Int} (h0 : -9223372036854775808 ≤ x) (h1 : x ≤ 9223372036854775807) : wrap64 x = x := by unfold wrap64; omega
theorem wrap_nat {n m : Nat} (h : n < m) (hm : m ≤ 9223372036854775807) : wrap64 ((n : Int) + 1) = ((n + 1 : Nat) : Int) := by unfold wrap64; omega
theorem getD_of {α : Type} {xs : List α} {n : Nat} {x d : α} (h : xs[n]? = some x) : xs.getD (n : Int).toNat d = x := by
  simp [List.getD_eq_getElem?_getD, h]
theorem ev_fill {α β : Type} {da : α} {db : β} (L : Nat → List β → Int → Option (List β)) (F : Nat → α → Option β) (xs : List α) (g : α → β) (hl : xs.length ≤ 4611686018427387904)
    (hL : ∀ k ys i, L (k + 1) ys i = if i < (xs.length : Int) then (if 0 ≤ i then ((F k (xs.getD i.toNat da)).bind fun b => if i < (ys.length : Int) then L k (ys.set i.toNat b) (wrap64 (i + 1)) else none) else none) else some ys)
    (hF : ∀ x ∈ xs, Ev (fun k => F k x) (g x)) : Ev (fun k => L k (List.replicate xs.length db) 0) (xs.map g) := by
  have h : ∀ d n : Nat, xs.length - n = d → n ≤ xs.length → Ev (fun k => L k ((xs.take n).map g ++ List.replicate (xs.length - n) db) (n : Int)) (xs.map g) := by
    intro d
    induction d with
    | zero =>
      intro n h1 h2
      have : n = xs.length := by omega
      subst this
      refine Ev.step (fun k => hL k _ _) (ev_neg (by omega) ?_)
      simpa using ev_ret (xs.map g)
    | succ d ih =>
      intro n h1 h2
      have hn : n < xs.length := by omega
      refine Ev.step (fun k => hL k _ _) (ev_pos (by omega) (ev_pos (by omega) ?_))
      have hx := List.getElem?_eq_getElem hn
      rw [getD_of hx]
      refine ev_bind (hF _ (List.getElem_mem hn)) (ev_pos (by simp; omega) ?_)
      rw [wrap_nat hn (by omega)]
      have e : ((xs.take n).map g ++ List.replicate (xs.length - n) db).set (n : Int).toNat (g xs[n]) = (xs.take (n + 1)).map g ++ List.replicate (xs.length - (n + 1)) db := by
        rw [show xs.length - n = (xs.length - (n + 1)) + 1 by omega, List.replicate_succ, List.take_succ_eq_append_getElem hn, List.map_append]
        simp [List.set_append, Nat.min_eq_left (Nat.le_of_lt hn)]
      rw [e]
      exact ih (n + 1) (by omega) (by omega)
  have := h xs.length 0 (by omega) (by omega)
  simpa using this
theorem ev_same {α : Type} {da : α} (L : Nat → Int → Option Bool) (F : Nat → α → α → Option Bool) (xs ys : List α) (hl : xs.length ≤ 4611686018427387904) (hxy : xs = ys)
    (hL : ∀ k i, L (k + 1) i = if i < (xs.length : Int) then (if 0 ≤ i then (if i < (ys.length : Int) then ((F k (xs.getD i.toNat da) (ys.getD i.toNat da)).bind fun t => if t = true then L k (wrap64 (i + 1)) else some false) else none) else none) else some true)
    (hF : ∀ x ∈ xs, Ev (fun k => F k x x) true) : Ev (fun k => L k 0) true := by
  subst hxy
  refine ev_loop L xs (fun _ => true) (Ev.step (fun k => hL k _) (ev_neg (by omega) (ev_ret _))) ?_
  intro n x r hn hx _ _ ih
  refine Ev.step (fun k => hL k _) (ev_pos (by omega) (ev_pos (by omega) (ev_pos (by omega) ?_)))
  rw [getD_of hx]
  refine ev_bind (hF x (List.mem_of_getElem? hx)) (ev_pos rfl ?_)
  rw [wrap_nat hn (by omega)]
  exact ih
def inR (n lo hi : Int) : Bool := decide (lo ≤ n ∧ n ≤ hi)
theorem inR_iff {n lo hi : Int} : inR n lo hi = true ↔ lo ≤ n ∧ n ≤ hi := by simp [inR]
theorem spec_l1In_eq (n lo hi : Int) : spec_l1In.f n lo hi = some (inR n lo hi) := by
  unfold spec_l1In.f inR
  by_cases h : n ≥ lo
  · rw [if_pos h]; congr 1; simp; omega
  · rw [if_neg h]; congr 1; simp; omega
theorem impl_in_eq (n lo hi : Int) : impl_in.f n lo hi = some (inR n lo hi) := by
  unfold impl_in.f inR
  by_cases h : n ≥ lo
  · rw [if_pos h]; congr 1; simp; omega
  · rw [if_neg h]; congr 1; simp; omega
def wantP (op : Int) : Int := if op ≥ 7 then 2 else 1
def kindP (t : ITerm) (ks : List Int) (vars : Int) : Int :=
  if t.f0 = 0 ∧ (inR t.f1 (-9999) 9999 = true ∧ t.f2 = 0 ∧ t.f3 = 0) then 1
  else if t.f0 = 1 ∧ (inR t.f1 0 (vars - 1) = true ∧ t.f2 = 0 ∧ t.f3 = 0) then 1
  else if (inR t.f0 2 9 = true ∧ t.f1 = 0 ∧ inR t.f2 0 (ks.length - 1) = true ∧ inR t.f3 0 (ks.length - 1) = true) ∧ (rd ks t.f2 = wantP t.f0 ∧ rd ks t.f3 = wantP t.f0 ∧ (t.f0 = 7 → t.f3 = t.f2)) then (if t.f0 ≥ 5 then 2 else 1)
  else 0
theorem spec_l1Kind_eq (t : ITerm) (ks : List Int) (vars : Int) (hv : 0 ≤ vars ∧ vars ≤ 5) (hk : ks.length ≤ 40) (m : Nat) : spec_l1Kind.f (m + 6) t.f0 t.f1 t.f2 t.f3 ks vars = some (kindP t ks vars) := by
  have w1 : wrap64 (vars - 1) = vars - 1 := wrap_in (by omega) (by omega)
  have w2 : wrap64 ((ks.length : Int) - 1) = (ks.length : Int) - 1 := wrap_in (by omega) (by omega)
  simp only [spec_l1Kind.f, spec_l1Kind.j0, spec_l1Kind.j1, spec_l1Kind.j2, spec_l1Kind.j3, spec_l1Kind.j4, spec_l1In_eq, spec_l1One.f, Option.bind_some, w1, w2]
  unfold kindP wantP
  cases t with | mk op n a b =>
  dsimp only
  by_cases h0 : op = 0
  · subst h0
    by_cases h : inR n (-9999) 9999 = true ∧ a = 0 ∧ b = 0
    · simp [h.1, h.2.1, h.2.2]
    · have hc : ¬ ((0 : Int) = 0 ∧ (inR n (-9999) 9999 = true ∧ a = 0 ∧ b = 0)) := fun x => h x.2
      rw [if_neg hc]
      have : inR (0 : Int) 2 9 = false := by simp [inR]
      by_cases h1 : inR n (-9999) 9999 = true
      · by_cases h2 : a = 0
        · have h3 : b ≠ 0 := fun e => h ⟨h1, h2, e⟩
          simp [h1, h2, h3, this]
        · simp [h1, h2, this]
      · simp [h1, this]
  · have hc : ¬ (op = 0 ∧ (inR n (-9999) 9999 = true ∧ a = 0 ∧ b = 0)) := fun x => h0 x.1
    rw [if_neg hc, if_neg h0]
    by_cases h1 : op = 1
    · subst h1
      have h29 : inR (1 : Int) 2 9 = false := by simp [inR]
      by_cases h2 : inR n 0 (vars - 1) = true
      · by_cases h3 : a = 0
        · by_cases h4 : b = 0 <;> simp [h2, h3, h4, h29]
        · simp [h2, h3, h29]
      · simp [h2, h29]
    · have hc1 : ¬ (op = 1 ∧ (inR n 0 (vars - 1) = true ∧ a = 0 ∧ b = 0)) := fun x => h1 x.1
      rw [if_neg hc1]
      by_cases g1 : inR op 2 9 = true
      · by_cases g2 : n = 0
        · by_cases g3 : inR a 0 ((ks.length : Int) - 1) = true
          · by_cases g4 : inR b 0 ((ks.length : Int) - 1) = true
            · have ha := inR_iff.1 g3
              have hb := inR_iff.1 g4
              have ha1 : a < (ks.length : Int) := by omega
              have hb1 : b < (ks.length : Int) := by omega
              by_cases g7 : op ≥ 7
              · by_cases r1 : rd ks a = 2
                · by_cases r2 : rd ks b = 2
                  · by_cases o7 : op = 7
                    · subst o7
                      by_cases e : b = a <;> simp [h1, g1, g2, g3, g4, ha.1, hb.1, ha1, hb1, r1, r2, e]
                    · simp [h1, g1, g2, g3, g4, ha.1, hb.1, ha1, hb1, g7, r1, r2, o7]; split <;> rfl
                  · simp [h1, g1, g2, g3, g4, ha.1, hb.1, ha1, hb1, g7, r1, r2]
                · simp [h1, g1, g2, g3, g4, ha.1, hb.1, ha1, hb1, g7, r1]
              · have o7 : op ≠ 7 := by omega
                by_cases r1 : rd ks a = 1
                · by_cases r2 : rd ks b = 1
                  · simp [h1, g1, g2, g3, g4, ha.1, hb.1, ha1, hb1, g7, r1, r2, o7]; split <;> rfl
                  · simp [h1, g1, g2, g3, g4, ha.1, hb.1, ha1, hb1, g7, r1, r2]
                · simp [h1, g1, g2, g3, g4, ha.1, hb.1, ha1, hb1, g7, r1]
            · simp [h1, g1, g2, g3, g4]
          · simp [h1, g1, g2, g3]
        · simp [h1, g1, g2]
      · simp [h1, g1]
def kindsGo (vars : Int) : List ITerm → List Int → List Int
  | [], ks => ks
  | t :: ts, ks => if kindP t ks vars = 0 then [] else kindsGo vars ts (ks ++ [kindP t ks vars])
def kindsOk (l : List ITerm) (vars : Int) : Bool := inR vars 0 5 && inR l.length 1 40
def kindsP (l : List ITerm) (vars : Int) : List Int := if kindsOk l vars = true then kindsGo vars l [] else []
theorem kindsGo_length (vars : Int) : ∀ (l : List ITerm) (ks : List Int), kindsGo vars l ks = [] ∨ (kindsGo vars l ks).length = ks.length + l.length
  | [], ks => .inr (by simp [kindsGo])
  | t :: ts, ks => by
    unfold kindsGo
    split
    · exact .inl rfl
    · rcases kindsGo_length vars ts (ks ++ [kindP t ks vars]) with h | h
      · exact .inl h
      · exact .inr (by rw [h]; simp; omega)
theorem kindsP_length (l : List ITerm) (vars : Int) (h : kindsP l vars ≠ []) : (kindsP l vars).length = l.length ∧ kindsOk l vars = true := by
  unfold kindsP at h ⊢
  split
  · rename_i hk
    rw [if_pos hk] at h
    rcases kindsGo_length vars l [] with h1 | h1
    · exact absurd h1 h
    · exact ⟨by simpa using h1, hk⟩
  · rename_i hk
    rw [if_neg hk] at h
    exact absurd rfl h
theorem spec_KindsOf_ev (l : List ITerm) (vars : Int) : Ev (fun k => spec_KindsOf.f k l vars) (kindsP l vars) := by
  unfold spec_KindsOf.f
  simp only [spec_l1In_eq, Option.bind_some]
  by_cases h1 : inR vars 0 5 = true
  · by_cases h2 : inR (l.length : Int) 1 40 = true
    · have hv := inR_iff.1 h1
      have hl := inR_iff.1 h2
      refine ev_pos h1 (Ev.step (fun k => by rw [spec_KindsOf.j0]) (ev_neg (by simp [h2]) ?_))
      have hP : kindsP l vars = kindsGo vars l [] := by unfold kindsP kindsOk; simp [h1, h2]
      rw [hP]
      have key : ∀ d n : Nat, l.length - n = d → n ≤ l.length → ∀ ks : List Int, ks.length ≤ n → Ev (fun k => spec_KindsOf.l0 k l vars ks (n : Int)) (kindsGo vars (l.drop n) ks) := by
        intro d
        induction d with
        | zero =>
          intro n e1 e2 ks hks
          have : n = l.length := by omega
          subst this
          refine Ev.step (fun k => by rw [spec_KindsOf.l0]) (ev_neg (by omega) ?_)
          rw [List.drop_length]
          exact ev_ret _
        | succ d ih =>
          intro n e1 e2 ks hks
          have hn : n < l.length := by omega
          have hx := List.getElem?_eq_getElem hn
          refine Ev.step (fun k => by rw [spec_KindsOf.l0]) (ev_pos (by omega) (ev_pos (by omega) ?_))
          have hr : rd_ITerm l (n : Int) = l[n] := getD_of hx
          rw [hr]
          have hK : Ev (fun k => spec_l1Kind.f k l[n].f0 l[n].f1 l[n].f2 l[n].f3 ks vars) (kindP l[n] ks vars) :=
            ⟨6, fun k hk => by obtain ⟨m, rfl⟩ : ∃ m, k = m + 6 := ⟨k - 6, by omega⟩; exact spec_l1Kind_eq _ _ _ hv (by omega) m⟩
          refine ev_bind hK ?_
          rw [List.drop_eq_getElem_cons hn]
          unfold kindsGo
          refine ev_ite_eq (fun h => ev_ret _) (fun h => ev_pos (by omega) ?_)
          rw [wrap_nat hn (by omega)]
          exact ih (n + 1) (by omega) (by omega) _ (by simp; omega)
      have := key l.length 0 (by omega) (by omega) [] (by simp)
      simpa using this
    · refine ev_pos h1 (Ev.step (fun k => by rw [spec_KindsOf.j0]) (ev_pos (by simpa using h2) ?_))
      have hP : kindsP l vars = [] := by unfold kindsP kindsOk; simp [h2]
      rw [hP]
      exact ev_ret _
  · refine ev_neg h1 (Ev.step (fun k => by rw [spec_KindsOf.j0]) (ev_pos rfl ?_))
    have hP : kindsP l vars = [] := by unfold kindsP kindsOk; simp [h1]
    rw [hP]
    exact ev_ret _
def partsP (op : Int) : Int × Int × Int :=
  if op = 2 ∨ op = 3 ∨ op = 4 then (2, 1, 1) else if op = 5 ∨ op = 6 then (2, 1, 2) else if op = 7 then (1, 2, 2) else if op = 8 ∨ op = 9 then (2, 2, 2) else (0, 0, 1)
theorem impl_parts_eq (op : Int) (m : Nat) : impl_parts.f (m + 3) op = some (partsP op) := by
  simp only [impl_parts.f, impl_parts.j0, impl_parts.j1, impl_parts.j2]
  unfold partsP
  by_cases h2 : op = 2
  · subst h2; simp
  by_cases h3 : op = 3
  · subst h3; simp
  by_cases h4 : op = 4
  · subst h4; simp
  by_cases h5 : op = 5
  · subst h5; simp
  by_cases h6 : op = 6
  · subst h6; simp
  by_cases h7 : op = 7
  · subst h7; simp
  by_cases h8 : op = 8
  · subst h8; simp
  by_cases h9 : op = 9
  · subst h9; simp
  simp [h2, h3, h4, h5, h6, h7, h8, h9]
theorem impl_parts_ev (op : Int) : Ev (fun k => impl_parts.f k op) (partsP op) := ⟨3, fun k hk => by obtain ⟨m, rfl⟩ : ∃ m, k = m + 3 := ⟨k - 3, by omega⟩; exact impl_parts_eq op m⟩
theorem partsP_low (op : Int) (h : op = 0 ∨ op = 1) : (partsP op).2.2 = 1 := by
  rcases h with rfl | rfl <;> simp [partsP]
theorem partsP_high (op : Int) (h : inR op 2 9 = true) : (partsP op).2.1 = wantP op ∧ (partsP op).2.2 = (if op ≥ 5 then 2 else 1) ∧ ((partsP op).1 = 2 ↔ op ≠ 7) := by
  have := inR_iff.1 h
  obtain ⟨a, b⟩ := this
  have : op = 2 ∨ op = 3 ∨ op = 4 ∨ op = 5 ∨ op = 6 ∨ op = 7 ∨ op = 8 ∨ op = 9 := by omega
  rcases this with rfl | rfl | rfl | rfl | rfl | rfl | rfl | rfl <;> simp [partsP, wantP]
theorem kindsGo_step {vars : Int} {t : ITerm} {ts : List ITerm} {ks : List Int} {r : Int} (h : kindP t ks vars = r) (hr : r ≠ 0) : kindsGo vars (t :: ts) ks = kindsGo vars ts (ks ++ [r]) := by
  rw [kindsGo, h, if_neg hr]
theorem kindsGo_none {vars : Int} {t : ITerm} {ts : List ITerm} {ks : List Int} (h : kindP t ks vars = 0) : kindsGo vars (t :: ts) ks = [] := by
  rw [kindsGo, if_pos h]
theorem impl_kindsOf_ev (l : List ITerm) (vars : Int) : Ev (fun k => impl_kindsOf.f k l vars) (kindsP l vars) := by
  unfold impl_kindsOf.f
  simp only [impl_in_eq, Option.bind_some]
  by_cases h1 : inR vars 0 5 = true
  · by_cases h2 : inR (l.length : Int) 1 40 = true
    · have hv := inR_iff.1 h1
      have hl := inR_iff.1 h2
      refine ev_pos h1 (Ev.step (fun k => by rw [impl_kindsOf.j0]) (ev_neg (by simp [h2]) (ev_pos (by omega) (ev_pos (by omega) ?_))))
      have hP : kindsP l vars = kindsGo vars l [] := by unfold kindsP kindsOk; simp [h1, h2]
      rw [hP]
      have w1 : wrap64 (vars - 1) = vars - 1 := wrap_in (by omega) (by omega)
      have key : ∀ d n : Nat, l.length - n = d → n ≤ l.length → ∀ ks : List Int, ks.length = n → Ev (fun k => impl_kindsOf.l0 k vars ks l (l.length : Int) (n : Int)) (kindsGo vars (l.drop n) ks) := by
        intro d
        induction d with
        | zero =>
          intro n e1 e2 ks hks
          have : n = l.length := by omega
          subst this
          refine Ev.step (fun k => by rw [impl_kindsOf.l0]) (ev_neg (by omega) (ev_pos (by omega) ?_))
          rw [List.drop_length]
          exact ev_ret _
        | succ d ih =>
          intro n e1 e2 ks hks
          have hn : n < l.length := by omega
          have hx := List.getElem?_eq_getElem hn
          refine Ev.step (fun k => by rw [impl_kindsOf.l0]) (ev_pos (by omega) (ev_pos (by omega) (ev_pos (by omega) ?_)))
          have hr : rd_ITerm l (n : Int) = l[n] := getD_of hx
          rw [hr, List.drop_eq_getElem_cons hn]
          generalize l[n] = t
          have w2 : wrap64 ((n : Int) - 1) = (ks.length : Int) - 1 := by rw [hks]; exact wrap_in (by omega) (by omega)
          have J : ∀ (r : Int) (b : Bool), (b = true → kindP t ks vars = r ∧ r ≠ 0) → (b = false → kindP t ks vars = 0) → Ev (fun k => impl_kindsOf.j2 k vars ks r b l (l.length : Int) (n : Int)) (kindsGo vars (t :: l.drop (n + 1)) ks) := by
            intro r b h1 h2
            refine Ev.step (fun k => by rw [impl_kindsOf.j2]) ?_
            cases b with
            | true =>
              obtain ⟨h, hr⟩ := h1 rfl
              refine ev_pos rfl (ev_pos (by omega) ?_)
              rw [wrap_nat hn (by omega), kindsGo_step h hr]
              exact ih (n + 1) (by omega) (by omega) _ (by simp; omega)
            | false => exact ev_neg (by simp) (by rw [kindsGo_none (h2 rfl)]; exact ev_ret _)
          refine ev_bind (impl_parts_ev t.f0) ?_
          simp only [impl_in_eq, Option.bind_some, w1, w2]
          cases t with | mk op n' a b =>
          dsimp only at J ⊢
          have stop : ∀ r : Int, kindP ⟨op, n', a, b⟩ ks vars = 0 → Ev (fun k => impl_kindsOf.j2 k vars ks r false l (l.length : Int) (n : Int)) (kindsGo vars (⟨op, n', a, b⟩ :: l.drop (n + 1)) ks) := fun r h => J r false (fun e => by cases e) (fun _ => h)
          by_cases h0 : op = 0
          · refine ev_pos h0 ?_
            have hp := partsP_low op (.inl h0)
            have z : inR op 2 9 = false := by subst h0; simp [inR]
            by_cases g1 : inR n' (-9999) 9999 = true
            · by_cases g2 : a = 0
              · refine ev_pos g1 (ev_pos g2 (J _ _ (fun e => ?_) (fun e => ?_)))
                · rw [hp]
                  exact ⟨by unfold kindP; rw [if_pos ⟨h0, g1, g2, by simpa using e⟩], by decide⟩
                · have g3 : b ≠ 0 := by simpa using e
                  subst h0; simp [kindP, g3, z]
              · exact ev_pos g1 (ev_neg g2 (stop _ (by subst h0; simp [kindP, g2, z])))
            · exact ev_neg g1 (stop _ (by subst h0; simp [kindP, g1, z]))
          · refine ev_neg h0 ?_
            by_cases h1' : op = 1
            · refine ev_pos h1' ?_
              have hp := partsP_low op (.inr h1')
              have z : inR op 2 9 = false := by subst h1'; simp [inR]
              by_cases g1 : inR n' 0 (vars - 1) = true
              · by_cases g2 : a = 0
                · refine ev_pos g1 (ev_pos g2 (J _ _ (fun e => ?_) (fun e => ?_)))
                  · rw [hp]
                    exact ⟨by unfold kindP; rw [if_neg (fun x => h0 x.1), if_pos ⟨h1', g1, g2, by simpa using e⟩], by decide⟩
                  · have g3 : b ≠ 0 := by simpa using e
                    subst h1'; simp [kindP, g3, z]
                · exact ev_pos g1 (ev_neg g2 (stop _ (by subst h1'; simp [kindP, g2, z])))
              · exact ev_neg g1 (stop _ (by subst h1'; simp [kindP, g1, z]))
            · refine ev_neg h1' ?_
              have c0 : ∀ P : Prop, ¬ (op = 0 ∧ P) := fun P x => h0 x.1
              have c1 : ∀ P : Prop, ¬ (op = 1 ∧ P) := fun P x => h1' x.1
              by_cases g0 : inR op 0 9 = true
              · have g29 : inR op 2 9 = true := by have := inR_iff.1 g0; exact inR_iff.2 (by omega)
                obtain ⟨p1, p2, p3⟩ := partsP_high op g29
                refine ev_pos g0 ?_
                rw [p1]
                by_cases g1 : n' = 0
                · refine ev_pos g1 ?_
                  by_cases g2 : inR a 0 ((ks.length : Int) - 1) = true
                  · refine ev_pos g2 ?_
                    by_cases g3 : inR b 0 ((ks.length : Int) - 1) = true
                    · have ha := inR_iff.1 g2
                      have hb := inR_iff.1 g3
                      refine ev_pos g3 (ev_pos ha.1 (ev_pos (by omega) ?_))
                      by_cases g4 : rd ks a = wantP op
                      · refine ev_pos g4 (ev_pos hb.1 (ev_pos (by omega) ?_))
                        by_cases g5 : rd ks b = wantP op
                        · refine ev_pos g5 ?_
                          have hres : (op = 7 → b = a) → kindP ⟨op, n', a, b⟩ ks vars = (partsP op).2.2 := fun e => by
                            unfold kindP
                            dsimp only
                            rw [if_neg (c0 _), if_neg (c1 _), if_pos ⟨⟨g29, g1, g2, g3⟩, g4, g5, e⟩, p2]
                          have hne : (partsP op).2.2 ≠ 0 := by rw [p2]; split <;> decide
                          by_cases g6 : (partsP op).1 = 2
                          · exact ev_pos g6 (J _ _ (fun _ => ⟨hres (fun e => absurd e (p3.1 g6)), hne⟩) (fun e => by cases e))
                          · have e7 : op = 7 := by
                              by_cases e : op = 7
                              · exact e
                              · exact absurd (p3.2 e) g6
                            refine ev_neg g6 (J _ _ (fun e => ⟨hres (fun _ => (beq_iff_eq.1 e).symm), hne⟩) (fun e => ?_))
                            have g7 : a ≠ b := beq_eq_false_iff_ne.1 e
                            unfold kindP
                            dsimp only
                            rw [if_neg (c0 _), if_neg (c1 _), if_neg (fun x => g7 (x.2.2.2 e7).symm)]
                        · refine ev_neg g5 (stop _ ?_)
                          unfold kindP
                          dsimp only
                          rw [if_neg (c0 _), if_neg (c1 _), if_neg (fun x => g5 x.2.2.1)]
                      · refine ev_neg g4 (stop _ ?_)
                        unfold kindP
                        dsimp only
                        rw [if_neg (c0 _), if_neg (c1 _), if_neg (fun x => g4 x.2.1)]
                    · refine ev_neg g3 (stop _ ?_)
                      unfold kindP
                      dsimp only
                      rw [if_neg (c0 _), if_neg (c1 _), if_neg (fun x => g3 x.1.2.2.2)]
                  · refine ev_neg g2 (stop _ ?_)
                    unfold kindP
                    dsimp only
                    rw [if_neg (c0 _), if_neg (c1 _), if_neg (fun x => g2 x.1.2.2.1)]
                · refine ev_neg g1 (stop _ ?_)
                  unfold kindP
                  dsimp only
                  rw [if_neg (c0 _), if_neg (c1 _), if_neg (fun x => g1 x.1.2.1)]
              · have gf : inR op 0 9 = false := by simpa using g0
                refine ev_neg g0 ?_
                rw [gf]
                refine stop _ ?_
                unfold kindP
                dsimp only
                rw [if_neg (c0 _), if_neg (c1 _), if_neg (fun x => g0 (by have := inR_iff.1 x.1.1; exact inR_iff.2 (by omega)))]
      have := key l.length 0 (by omega) (by omega) [] (by simp)
      simpa using this
    · refine ev_pos h1 (Ev.step (fun k => by rw [impl_kindsOf.j0]) (ev_pos (by simpa using h2) ?_))
      have hP : kindsP l vars = [] := by unfold kindsP kindsOk; simp [h2]
      rw [hP]
      exact ev_ret _
  · refine ev_neg h1 (Ev.step (fun k => by rw [impl_kindsOf.j0]) (ev_pos rfl ?_))
    have hP : kindsP l vars = [] := by unfold kindsP kindsOk; simp [h1]
    rw [hP]
    exact ev_ret _
def heldP (n : Int) : Int := if n > 9999 then 9999 else if n < -9999 then -9999 else n
theorem heldP_in (n : Int) : -9999 ≤ heldP n ∧ heldP n ≤ 9999 := by unfold heldP; split <;> (try split) <;> omega
def doP (op a b : Int) : Int :=
  if op = 2 then heldP (a + b) else if op = 3 then heldP (a - b) else if op = 4 then heldP (a * b)
  else if op = 5 then (if a < b then 1 else 0) else if op = 6 then (if a = b then 1 else 0)
  else if op = 7 then 1 - a else if op = 8 then (if a ≤ b then a else b) else (if a ≤ b then b else a)
def termP (t : ITerm) (st vs : List Int) : Int := if t.f0 = 0 then t.f1 else if t.f0 = 1 then rd st t.f1 else doP t.f0 (rd vs t.f2) (rd vs t.f3)
def valsGo (st : List Int) : List ITerm → List Int → List Int
  | [], vs => vs
  | t :: ts, vs => valsGo st ts (vs ++ [termP t st vs])
def valsP (l : List ITerm) (st : List Int) : List Int := valsGo st l []
def valOk (k v : Int) : Prop := (k = 1 → -9999 ≤ v ∧ v ≤ 9999) ∧ (k = 2 → 0 ≤ v ∧ v ≤ 1)
structure ValsOk (ks vs : List Int) : Prop where
  len : vs.length = ks.length
  at_ : ∀ i : Nat, i < ks.length → valOk (ks.getD i 0) (vs.getD i 0)
def StateIn (st : List Int) : Prop := ∀ i : Nat, i < st.length → -9999 ≤ st.getD i 0 ∧ st.getD i 0 ≤ 9999
theorem ValsOk.nil : ValsOk [] [] := ⟨rfl, fun i h => absurd h (Nat.not_lt_zero i)⟩
theorem ValsOk.rd {ks vs : List Int} (h : ValsOk ks vs) {i : Int} (h0 : inR i 0 ((ks.length : Int) - 1) = true) : valOk (rd ks i) (rd vs i) := by
  have := inR_iff.1 h0
  have e := h.at_ i.toNat (by omega)
  exact e
theorem kindP_cases {t : ITerm} {ks : List Int} {vars : Int} (h : kindP t ks vars ≠ 0) :
    (t.f0 = 0 ∧ inR t.f1 (-9999) 9999 = true ∧ kindP t ks vars = 1) ∨ (t.f0 = 1 ∧ inR t.f1 0 (vars - 1) = true ∧ kindP t ks vars = 1) ∨
    (inR t.f0 2 9 = true ∧ inR t.f2 0 (ks.length - 1) = true ∧ inR t.f3 0 (ks.length - 1) = true ∧ rd ks t.f2 = wantP t.f0 ∧ rd ks t.f3 = wantP t.f0 ∧ kindP t ks vars = (if t.f0 ≥ 5 then 2 else 1)) := by
  unfold kindP at h ⊢
  split
  · rename_i h1; exact .inl ⟨h1.1, h1.2.1, rfl⟩
  · rename_i h1
    rw [if_neg h1] at h
    split
    · rename_i h2; exact .inr (.inl ⟨h2.1, h2.2.1, rfl⟩)
    · rename_i h2
      rw [if_neg h2] at h
      split
      · rename_i h3; exact .inr (.inr ⟨h3.1.1, h3.1.2.2.1, h3.1.2.2.2, h3.2.1, h3.2.2.1, rfl⟩)
      · rename_i h3; rw [if_neg h3] at h; exact absurd rfl h
theorem rd_app {xs ys : List Int} {i : Int} (h : inR i 0 ((xs.length : Int) - 1) = true) : rd (xs ++ ys) i = rd xs i := by
  have := inR_iff.1 h
  show (xs ++ ys).getD i.toNat 0 = xs.getD i.toNat 0
  rw [List.getD_eq_getElem?_getD, List.getD_eq_getElem?_getD, List.getElem?_append_left (by omega)]
theorem termP_ok {t : ITerm} {ks vs st : List Int} {vars : Int} (hk : kindP t ks vars ≠ 0) (hv : ValsOk ks vs) (hs : StateIn st) (hl : vars = st.length) : valOk (kindP t ks vars) (termP t st vs) := by
  unfold termP
  rcases kindP_cases hk with ⟨h0, h1, h2⟩ | ⟨h0, h1, h2⟩ | ⟨h0, h1, h2, h3, h4, h5⟩
  · rw [if_pos h0, h2]
    have := inR_iff.1 h1
    exact ⟨fun _ => this, fun h => absurd h (by omega)⟩
  · rw [if_neg (by omega), if_pos h0, h2]
    have := inR_iff.1 h1
    have := hs t.f1.toNat (by omega)
    exact ⟨fun _ => this, fun h => absurd h (by omega)⟩
  · have hb := inR_iff.1 h0
    rw [if_neg (by omega), if_neg (by omega), h5]
    have ha := hv.rd h1
    have hc := hv.rd h2
    rw [h3] at ha
    rw [h4] at hc
    unfold wantP at ha hc
    unfold doP
    by_cases e2 : t.f0 = 2
    · rw [if_pos e2, if_neg (by omega)]; exact ⟨fun _ => heldP_in _, fun h => absurd h (by omega)⟩
    rw [if_neg e2]
    by_cases e3 : t.f0 = 3
    · rw [if_pos e3, if_neg (by omega)]; exact ⟨fun _ => heldP_in _, fun h => absurd h (by omega)⟩
    rw [if_neg e3]
    by_cases e4 : t.f0 = 4
    · rw [if_pos e4, if_neg (by omega)]; exact ⟨fun _ => heldP_in _, fun h => absurd h (by omega)⟩
    rw [if_neg e4, if_pos (by omega : t.f0 ≥ 5)]
    refine ⟨fun h => absurd h (by omega), fun _ => ?_⟩
    by_cases e5 : t.f0 = 5
    · rw [if_pos e5]; split <;> omega
    rw [if_neg e5]
    by_cases e6 : t.f0 = 6
    · rw [if_pos e6]; split <;> omega
    rw [if_neg e6]
    rw [if_pos (by omega : t.f0 ≥ 7)] at ha hc
    have ha := ha.2 rfl
    have hc := hc.2 rfl
    split
    · omega
    · split <;> split <;> omega
theorem ValsOk.push {ks vs : List Int} (h : ValsOk ks vs) {k v : Int} (hv : valOk k v) : ValsOk (ks ++ [k]) (vs ++ [v]) := by
  refine ⟨by simp [h.len], fun i hi => ?_⟩
  rw [List.length_append, List.length_singleton] at hi
  by_cases e : i < ks.length
  · have := h.at_ i e
    rw [List.getD_eq_getElem?_getD, List.getD_eq_getElem?_getD] at this ⊢
    rw [List.getElem?_append_left e, List.getElem?_append_left (by rw [h.len]; exact e)]
    exact this
  · have e' : i = ks.length := by omega
    subst e'
    rw [List.getD_eq_getElem?_getD, List.getD_eq_getElem?_getD, List.getElem?_append_right (Nat.le_refl _), List.getElem?_append_right (by rw [h.len]; exact Nat.le_refl _), h.len]
    simpa using hv
def GoOk (vars : Int) : List ITerm → List Int → Prop
  | [], _ => True
  | t :: ts, ks => kindP t ks vars ≠ 0 ∧ GoOk vars ts (ks ++ [kindP t ks vars])
theorem kindsGo_ok {vars : Int} : ∀ (l : List ITerm) (ks : List Int), (ks ≠ [] ∨ l ≠ []) → kindsGo vars l ks ≠ [] → GoOk vars l ks
  | [], ks, _, _ => trivial
  | t :: ts, ks, _, h => by
    unfold kindsGo at h
    by_cases e : kindP t ks vars = 0
    · rw [if_pos e] at h; exact absurd rfl h
    · rw [if_neg e] at h
      exact ⟨e, kindsGo_ok ts _ (.inl (by simp)) h⟩
theorem spec_l1Held_eq (n : Int) : spec_l1Held.f n = some (heldP n) := by unfold spec_l1Held.f heldP; split <;> (try split) <;> rfl
theorem impl_held_eq (n : Int) : impl_held.f n = some (heldP n) := by
  unfold impl_held.f heldP mx mn
  congr 1
  split <;> split <;> (try split) <;> (try split) <;> omega
theorem mul_in {a b : Int} (ha : -9999 ≤ a ∧ a ≤ 9999) (hb : -9999 ≤ b ∧ b ≤ 9999) : -99980001 ≤ a * b ∧ a * b ≤ 99980001 := by
  have h : (a * b).natAbs ≤ 9999 * 9999 := by
    rw [Int.natAbs_mul]
    exact Nat.mul_le_mul (by omega) (by omega)
  omega
theorem arg_num {op a : Int} (h : valOk (wantP op) a) (ho : op < 7) : -9999 ≤ a ∧ a ≤ 9999 := by
  unfold wantP at h
  rw [if_neg (by omega)] at h
  exact h.1 rfl
theorem arg_truth {op a : Int} (h : valOk (wantP op) a) (ho : op ≥ 7) : a = 0 ∨ a = 1 := by
  unfold wantP at h
  rw [if_pos ho] at h
  have := h.2 rfl
  omega
theorem ops_cases {op : Int} (h : inR op 2 9 = true) : op = 2 ∨ op = 3 ∨ op = 4 ∨ op = 5 ∨ op = 6 ∨ op = 7 ∨ op = 8 ∨ op = 9 := by
  have := inR_iff.1 h
  omega
theorem spec_l1Do_eq {op a b : Int} (ho : inR op 2 9 = true) (ha : valOk (wantP op) a) (hb : valOk (wantP op) b) : spec_l1Do.f op a b = some (doP op a b) := by
  unfold spec_l1Do.f doP
  rcases ops_cases ho with rfl | rfl | rfl | rfl | rfl | rfl | rfl | rfl
  · have := arg_num ha (by omega); have := arg_num hb (by omega)
    have e : wrap64 (a + b) = a + b := wrap_in (by omega) (by omega)
    simp [e, spec_l1Held_eq]
  · have := arg_num ha (by omega); have := arg_num hb (by omega)
    have e : wrap64 (a - b) = a - b := wrap_in (by omega) (by omega)
    simp [e, spec_l1Held_eq]
  · have := mul_in (arg_num ha (by omega)) (arg_num hb (by omega))
    have e : wrap64 (a * b) = a * b := wrap_in (by omega) (by omega)
    simp [e, spec_l1Held_eq]
  · by_cases h : a < b <;> simp [h, spec_l1Truth.f]
  · by_cases h : a = b <;> simp [h, spec_l1Truth.f]
  · rcases arg_truth ha (by omega) with rfl | rfl <;> simp [wrap64]
  · rcases arg_truth ha (by omega) with rfl | rfl <;> rcases arg_truth hb (by omega) with rfl | rfl <;> simp [wrap64, mn, mx, spec_l1Truth.f]
  · rcases arg_truth ha (by omega) with rfl | rfl <;> rcases arg_truth hb (by omega) with rfl | rfl <;> simp [wrap64, mn, mx, spec_l1Truth.f]
theorem impl_do_eq {op a b : Int} (ho : inR op 2 9 = true) (ha : valOk (wantP op) a) (hb : valOk (wantP op) b) : impl_do.f op a b = some (doP op a b) := by
  unfold impl_do.f doP
  rcases ops_cases ho with rfl | rfl | rfl | rfl | rfl | rfl | rfl | rfl
  · have := arg_num ha (by omega); have := arg_num hb (by omega)
    have e : wrap64 (a + b) = a + b := wrap_in (by omega) (by omega)
    simp [e, impl_held_eq]
  · have := arg_num ha (by omega); have := arg_num hb (by omega)
    have e : wrap64 (a - b) = a - b := wrap_in (by omega) (by omega)
    simp [e, impl_held_eq]
  · have := mul_in (arg_num ha (by omega)) (arg_num hb (by omega))
    have e : wrap64 (a * b) = a * b := wrap_in (by omega) (by omega)
    simp [e, impl_held_eq]
  · by_cases h : a < b <;> simp [h, impl_bit.f]
  · by_cases h : a = b <;> simp [h, impl_bit.f]
  · rcases arg_truth ha (by omega) with rfl | rfl <;> simp [wrap64]
  · rcases arg_truth ha (by omega) with rfl | rfl <;> rcases arg_truth hb (by omega) with rfl | rfl <;> simp [wrap64, mn, mx, impl_bit.f]
  · rcases arg_truth ha (by omega) with rfl | rfl <;> rcases arg_truth hb (by omega) with rfl | rfl <;> simp [wrap64, mn, mx, impl_bit.f]
def lastP (l : List ITerm) (st : List Int) : Int := rd (valsP l st) ((l.length : Int) - 1)
theorem fill_set {vs : List Int} {m n : Nat} {x : Int} (hv : vs.length = n) (hn : n < m) : (vs ++ List.replicate (m - n) 0).set ((n : Int)).toNat x = (vs ++ [x]) ++ List.replicate (m - (n + 1)) 0 := by
  subst hv
  rw [show m - vs.length = (m - (vs.length + 1)) + 1 by omega, List.replicate_succ]
  simp [List.set_append]
theorem impl_eval_ev {l : List ITerm} {st : List Int} {vars : Int} (hg : GoOk vars l []) (h1 : 1 ≤ l.length) (hl : l.length ≤ 40) (hs : StateIn st) (hv : vars = st.length) : Ev (fun k => impl_eval.f k l st) (lastP l st) := by
  unfold impl_eval.f
  refine ev_pos (by omega) (ev_pos (by omega) ?_)
  have key : ∀ d n : Nat, l.length - n = d → n ≤ l.length → ∀ ks vs : List Int, ks.length = n → ValsOk ks vs → GoOk vars (l.drop n) ks → Ev (fun k => impl_eval.l0 k st (vs ++ List.replicate (l.length - n) 0) l (l.length : Int) (n : Int)) (rd (valsGo st (l.drop n) vs) ((l.length : Int) - 1)) := by
    intro d
    induction d with
    | zero =>
      intro n e1 e2 ks vs hk ho hg
      have : n = l.length := by omega
      subst this
      have hvl : vs.length = l.length := by rw [ho.len, hk]
      rw [List.drop_length, Nat.sub_self, List.replicate_zero, List.append_nil]
      refine Ev.step (fun k => by rw [impl_eval.l0]) ?_
      rw [hvl, wrap_in (x := (l.length : Int) - 1) (by omega) (by omega)]
      exact ev_neg (by omega) (ev_pos (by omega) (ev_pos (by omega) (ev_ret _)))
    | succ d ih =>
      intro n e1 e2 ks vs hk ho hg
      have hn : n < l.length := by omega
      have hr : rd_ITerm l (n : Int) = l[n] := getD_of (List.getElem?_eq_getElem hn)
      rw [List.drop_eq_getElem_cons hn] at hg ⊢
      obtain ⟨hx, hg'⟩ := hg
      have hvl : vs.length = n := by rw [ho.len, hk]
      have hall : (vs ++ List.replicate (l.length - n) 0).length = l.length := by simp; omega
      have ih' := ih (n + 1) (by omega) (by omega) _ (vs ++ [termP l[n] st vs]) (by rw [List.length_append, hk]; rfl) (ho.push (termP_ok hx ho hs hv)) hg'
      unfold valsGo
      refine Ev.step (fun k => by rw [impl_eval.l0]) ?_
      rw [hr, hall, wrap_nat hn (by omega)]
      refine ev_pos (by omega) (ev_pos (by omega) (ev_pos (by omega) ?_))
      rw [← fill_set hvl hn] at ih'
      rcases kindP_cases hx with ⟨h0, h1, _⟩ | ⟨h0, h1, _⟩ | ⟨h0, h1, h2, h3, h4, _⟩
      · have et : termP l[n] st vs = l[n].f1 := by unfold termP; rw [if_pos h0]
        rw [et] at ih' ⊢
        exact ev_pos h0 (ev_pos (by omega) ih')
      · have et : termP l[n] st vs = rd st l[n].f1 := by unfold termP; rw [if_neg (by omega), if_pos h0]
        have hb := inR_iff.1 h1
        rw [et] at ih' ⊢
        exact ev_neg (by omega) (ev_pos h0 (ev_pos (by omega) (ev_pos (by omega) (ev_pos (by omega) ih'))))
      · have hb := inR_iff.1 h0
        have hb1 := inR_iff.1 h1
        have hb2 := inR_iff.1 h2
        have et : termP l[n] st vs = doP l[n].f0 (rd vs l[n].f2) (rd vs l[n].f3) := by unfold termP; rw [if_neg (by omega), if_neg (by omega)]
        have ha := ho.rd h1
        have hc := ho.rd h2
        rw [h3] at ha
        rw [h4] at hc
        rw [et] at ih' ⊢
        have h1' : inR l[n].f2 0 ((vs.length : Int) - 1) = true := by rw [ho.len]; exact h1
        have h2' : inR l[n].f3 0 ((vs.length : Int) - 1) = true := by rw [ho.len]; exact h2
        rw [rd_app h1', rd_app h2']
        exact ev_neg (by omega) (ev_neg (by omega) (ev_pos (by omega) (ev_pos (by omega) (ev_pos (by omega) (ev_pos (by omega) (ev_bind (ev_fix (impl_do_eq h0 ha hc)) (ev_pos (by omega) ih')))))))
  have := key l.length 0 (by omega) (by omega) [] [] rfl ValsOk.nil (by simpa using hg)
  simpa [lastP, valsP] using this
def min2 (a b : Int) : Int := if a ≤ b then a else b
def max2 (a b : Int) : Int := if a ≤ b then b else a
def low4 (a b : Int × Int) : Int := min2 (min2 (a.1 * b.1) (a.1 * b.2)) (min2 (a.2 * b.1) (a.2 * b.2))
def high4 (a b : Int × Int) : Int := max2 (max2 (a.1 * b.1) (a.1 * b.2)) (max2 (a.2 * b.1) (a.2 * b.2))
def spanDo (op : Int) (a b : Int × Int) : Int × Int :=
  if op = 2 then (heldP (a.1 + b.1), heldP (a.2 + b.2)) else if op = 3 then (heldP (a.1 - b.2), heldP (a.2 - b.1)) else if op = 4 then (heldP (low4 a b), heldP (high4 a b))
  else if op = 5 then (if a.2 < b.1 then 1 else 0, if a.1 < b.2 then 1 else 0) else if op = 6 then (if a.1 = a.2 ∧ b.1 = b.2 ∧ a.1 = b.1 then 1 else 0, if a.1 ≤ b.2 ∧ b.1 ≤ a.2 then 1 else 0)
  else if op = 7 then (1 - a.2, 1 - a.1) else (doP op a.1 b.1, doP op a.2 b.2)
def Btw (s : Int × Int) (x : Int) : Prop := s.1 ≤ x ∧ x ≤ s.2
theorem held_mono {a b : Int} (h : a ≤ b) : heldP a ≤ heldP b := by
  unfold heldP
  repeat' split
  all_goals omega
theorem lin_in {l h x y : Int} (h1 : l ≤ x) (h2 : x ≤ h) : min2 (l * y) (h * y) ≤ x * y ∧ x * y ≤ max2 (l * y) (h * y) := by
  rcases Int.le_total 0 y with hy | hy
  · have a := Int.mul_le_mul_of_nonneg_right h1 hy
    have b := Int.mul_le_mul_of_nonneg_right h2 hy
    unfold min2 max2
    constructor <;> split <;> omega
  · have a := Int.mul_le_mul_of_nonpos_right h1 hy
    have b := Int.mul_le_mul_of_nonpos_right h2 hy
    unfold min2 max2
    constructor <;> split <;> omega
theorem mul_btw {a b : Int × Int} {x y : Int} (ha : Btw a x) (hb : Btw b y) : low4 a b ≤ x * y ∧ x * y ≤ high4 a b := by
  have h1 := lin_in (y := y) ha.1 ha.2
  have h2 := lin_in (y := a.1) hb.1 hb.2
  have h3 := lin_in (y := a.2) hb.1 hb.2
  rw [Int.mul_comm y a.1, Int.mul_comm b.1 a.1, Int.mul_comm b.2 a.1] at h2
  rw [Int.mul_comm y a.2, Int.mul_comm b.1 a.2, Int.mul_comm b.2 a.2] at h3
  unfold low4 high4
  generalize a.1 * y = p at *
  generalize a.2 * y = q at *
  generalize a.1 * b.1 = p1 at *
  generalize a.1 * b.2 = p2 at *
  generalize a.2 * b.1 = q1 at *
  generalize a.2 * b.2 = q2 at *
  generalize x * y = z at *
  unfold min2 max2 at *
  constructor
  · have := h1.1; have := h2.1; have := h3.1
    repeat' split at *
    all_goals omega
  · have := h1.2; have := h2.2; have := h3.2
    repeat' split at *
    all_goals omega
theorem span_btw {op : Int} (ho : inR op 2 9 = true) {a b : Int × Int} {x y : Int} (ha : Btw a x) (hb : Btw b y) : Btw (spanDo op a b) (doP op x y) := by
  obtain ⟨a1, a2⟩ := ha
  obtain ⟨b1, b2⟩ := hb
  unfold spanDo doP Btw
  rcases ops_cases ho with rfl | rfl | rfl | rfl | rfl | rfl | rfl | rfl <;> simp only [Int.reduceEq, ↓reduceIte]
  · exact ⟨held_mono (by omega), held_mono (by omega)⟩
  · exact ⟨held_mono (by omega), held_mono (by omega)⟩
  · have := mul_btw (a := a) (b := b) ⟨a1, a2⟩ ⟨b1, b2⟩
    exact ⟨held_mono this.1, held_mono this.2⟩
  · constructor <;> split <;> split <;> omega
  · constructor <;> split <;> split <;> omega
  · omega
  · constructor <;> split <;> split <;> omega
  · constructor <;> split <;> split <;> omega
def rd2 (l : List (Int × Int)) (i : Int) : Int × Int := l.getD i.toNat (0, 0)
def spanT (t : ITerm) (low high : List Int) (vs : List (Int × Int)) : Int × Int := if t.f0 = 0 then (t.f1, t.f1) else if t.f0 = 1 then (rd low t.f1, rd high t.f1) else spanDo t.f0 (rd2 vs t.f2) (rd2 vs t.f3)
def spansGo (low high : List Int) : List ITerm → List (Int × Int) → List (Int × Int)
  | [], vs => vs
  | t :: ts, vs => spansGo low high ts (vs ++ [spanT t low high vs])
def SpOk (ks : List Int) (vs : List (Int × Int)) : Prop := vs.length = ks.length ∧ ∀ i : Nat, i < ks.length → valOk (ks.getD i 0) (vs.getD i (0, 0)).1 ∧ valOk (ks.getD i 0) (vs.getD i (0, 0)).2
theorem SpOk.rd {ks : List Int} {vs : List (Int × Int)} (h : SpOk ks vs) {i : Int} (h0 : inR i 0 ((ks.length : Int) - 1) = true) : valOk (rd ks i) (rd2 vs i).1 ∧ valOk (rd ks i) (rd2 vs i).2 := by
  have := inR_iff.1 h0
  exact h.2 i.toNat (by omega)
theorem SpOk.push {ks : List Int} {vs : List (Int × Int)} (h : SpOk ks vs) {k : Int} {v : Int × Int} (h1 : valOk k v.1) (h2 : valOk k v.2) : SpOk (ks ++ [k]) (vs ++ [v]) := by
  obtain ⟨hl, ha⟩ := h
  refine ⟨by simp [hl], fun i hi => ?_⟩
  rw [List.length_append, List.length_singleton] at hi
  by_cases e : i < ks.length
  · have := ha i e
    rw [List.getD_eq_getElem?_getD, List.getD_eq_getElem?_getD] at this ⊢
    rw [List.getElem?_append_left e, List.getElem?_append_left (by rw [hl]; exact e)]
    exact this
  · have e' : i = ks.length := by omega
    subst e'
    rw [List.getD_eq_getElem?_getD, List.getD_eq_getElem?_getD, List.getElem?_append_right (Nat.le_refl _), List.getElem?_append_right (by rw [hl]; exact Nat.le_refl _), hl]
    simpa using ⟨h1, h2⟩
theorem spanDo_ok {op : Int} (ho : inR op 2 9 = true) {a b : Int × Int} (ha : valOk (wantP op) a.1 ∧ valOk (wantP op) a.2) (hb : valOk (wantP op) b.1 ∧ valOk (wantP op) b.2) : valOk (if op ≥ 5 then 2 else 1) (spanDo op a b).1 ∧ valOk (if op ≥ 5 then 2 else 1) (spanDo op a b).2 := by
  have one : ∀ v : Int, -9999 ≤ v ∧ v ≤ 9999 → valOk 1 v := fun v h => ⟨fun _ => h, fun e => absurd e (by omega)⟩
  have two : ∀ v : Int, 0 ≤ v ∧ v ≤ 1 → valOk 2 v := fun v h => ⟨fun e => absurd e (by omega), fun _ => h⟩
  unfold spanDo
  rcases ops_cases ho with rfl | rfl | rfl | rfl | rfl | rfl | rfl | rfl
  · exact ⟨one _ (heldP_in _), one _ (heldP_in _)⟩
  · exact ⟨one _ (heldP_in _), one _ (heldP_in _)⟩
  · exact ⟨one _ (heldP_in _), one _ (heldP_in _)⟩
  · refine ⟨two _ ?_, two _ ?_⟩
    · show 0 ≤ (if a.2 < b.1 then (1 : Int) else 0) ∧ (if a.2 < b.1 then (1 : Int) else 0) ≤ 1
      split <;> omega
    · show 0 ≤ (if a.1 < b.2 then (1 : Int) else 0) ∧ (if a.1 < b.2 then (1 : Int) else 0) ≤ 1
      split <;> omega
  · refine ⟨two _ ?_, two _ ?_⟩
    · show 0 ≤ (if a.1 = a.2 ∧ b.1 = b.2 ∧ a.1 = b.1 then (1 : Int) else 0) ∧ (if a.1 = a.2 ∧ b.1 = b.2 ∧ a.1 = b.1 then (1 : Int) else 0) ≤ 1
      split <;> omega
    · show 0 ≤ (if a.1 ≤ b.2 ∧ b.1 ≤ a.2 then (1 : Int) else 0) ∧ (if a.1 ≤ b.2 ∧ b.1 ≤ a.2 then (1 : Int) else 0) ≤ 1
      split <;> omega
  · have h1 := arg_truth ha.1 (by omega)
    have h2 := arg_truth ha.2 (by omega)
    exact ⟨two _ (by show 0 ≤ 1 - a.2 ∧ 1 - a.2 ≤ 1; omega), two _ (by show 0 ≤ 1 - a.1 ∧ 1 - a.1 ≤ 1; omega)⟩
  · have h1 := arg_truth ha.1 (by omega)
    have h2 := arg_truth ha.2 (by omega)
    have h3 := arg_truth hb.1 (by omega)
    have h4 := arg_truth hb.2 (by omega)
    refine ⟨two _ ?_, two _ ?_⟩
    · show 0 ≤ (if a.1 ≤ b.1 then a.1 else b.1) ∧ (if a.1 ≤ b.1 then a.1 else b.1) ≤ 1
      split <;> omega
    · show 0 ≤ (if a.2 ≤ b.2 then a.2 else b.2) ∧ (if a.2 ≤ b.2 then a.2 else b.2) ≤ 1
      split <;> omega
  · have h1 := arg_truth ha.1 (by omega)
    have h2 := arg_truth ha.2 (by omega)
    have h3 := arg_truth hb.1 (by omega)
    have h4 := arg_truth hb.2 (by omega)
    refine ⟨two _ ?_, two _ ?_⟩
    · show 0 ≤ (if a.1 ≤ b.1 then b.1 else a.1) ∧ (if a.1 ≤ b.1 then b.1 else a.1) ≤ 1
      split <;> omega
    · show 0 ≤ (if a.2 ≤ b.2 then b.2 else a.2) ∧ (if a.2 ≤ b.2 then b.2 else a.2) ≤ 1
      split <;> omega
theorem spanT_ok {t : ITerm} {ks low high : List Int} {vs : List (Int × Int)} {vars : Int} (hk : kindP t ks vars ≠ 0) (hv : SpOk ks vs) (h1 : StateIn low) (h2 : StateIn high) (e1 : vars = low.length) (e2 : vars = high.length) :
    valOk (kindP t ks vars) (spanT t low high vs).1 ∧ valOk (kindP t ks vars) (spanT t low high vs).2 := by
  unfold spanT
  rcases kindP_cases hk with ⟨g0, g1, g2⟩ | ⟨g0, g1, g2⟩ | ⟨g0, g1, g2, g3, g4, g5⟩
  · rw [if_pos g0, g2]
    have := inR_iff.1 g1
    exact ⟨⟨fun _ => this, fun h => absurd h (by omega)⟩, ⟨fun _ => this, fun h => absurd h (by omega)⟩⟩
  · rw [if_neg (by omega), if_pos g0, g2]
    have := inR_iff.1 g1
    exact ⟨⟨fun _ => h1 t.f1.toNat (by omega), fun h => absurd h (by omega)⟩, ⟨fun _ => h2 t.f1.toNat (by omega), fun h => absurd h (by omega)⟩⟩
  · have hb := inR_iff.1 g0
    rw [if_neg (by omega), if_neg (by omega), g5]
    have ha := hv.rd g1
    have hc := hv.rd g2
    rw [g3] at ha
    rw [g4] at hc
    exact spanDo_ok g0 ha hc
theorem spansGo_btw {low high st : List Int} {vars : Int} (e1 : vars = low.length) (e3 : st.length = low.length) (hst : ∀ i : Nat, i < st.length → low.getD i 0 ≤ st.getD i 0 ∧ st.getD i 0 ≤ high.getD i 0) :
    ∀ (l : List ITerm) (ks : List Int) (vs : List (Int × Int)) (xs : List Int), GoOk vars l ks → vs.length = ks.length → xs.length = ks.length → (∀ i : Nat, i < ks.length → Btw (vs.getD i (0, 0)) (xs.getD i 0)) →
    ∀ i : Nat, i < ks.length + l.length → Btw ((spansGo low high l vs).getD i (0, 0)) ((valsGo st l xs).getD i 0)
  | [], ks, vs, xs, _, _, _, h, i, hi => h i (by simpa using hi)
  | t :: ts, ks, vs, xs, hg, hl1, hl2, h, i, hi => by
    obtain ⟨hk, hg⟩ := hg
    unfold spansGo valsGo
    refine spansGo_btw e1 e3 hst ts _ _ _ hg (by simp [hl1]) (by simp [hl2]) (fun j hj => ?_) i (by simp at hi ⊢; omega)
    rw [List.length_append, List.length_singleton] at hj
    by_cases e : j < ks.length
    · have := h j e
      rw [List.getD_eq_getElem?_getD, List.getD_eq_getElem?_getD] at this ⊢
      rw [List.getElem?_append_left (by omega), List.getElem?_append_left (by omega)]
      exact this
    · have e' : j = ks.length := by omega
      subst e'
      rw [List.getD_eq_getElem?_getD, List.getD_eq_getElem?_getD, List.getElem?_append_right (by omega), List.getElem?_append_right (by omega), hl1, hl2]
      simp only [Nat.sub_self, List.getElem?_cons_zero, Option.getD_some]
      unfold spanT termP
      rcases kindP_cases hk with ⟨g0, g1, g2⟩ | ⟨g0, g1, g2⟩ | ⟨g0, g1, g2, g3, g4, g5⟩
      · rw [if_pos g0, if_pos g0]; exact ⟨Int.le_refl _, Int.le_refl _⟩
      · rw [if_neg (by omega), if_pos g0, if_neg (by omega), if_pos g0]
        have := inR_iff.1 g1
        exact hst t.f1.toNat (by omega)
      · have hb := inR_iff.1 g0
        rw [if_neg (by omega), if_neg (by omega), if_neg (by omega), if_neg (by omega)]
        have b1 := inR_iff.1 g1
        have b2 := inR_iff.1 g2
        exact span_btw g0 (h t.f2.toNat (by omega)) (h t.f3.toNat (by omega))
def SzOk (f : Nat → Option Int) (a : Int) (P : Prop) : Prop := ∃ r, Ev f r ∧ (r < 0 ∨ (0 ≤ r ∧ r ≤ a ∧ P))
def cVar (x : LVar) : IVar := ⟨x.f0, x.f1, x.f2⟩
def cTerm (x : LTerm) : ITerm := ⟨x.f0, x.f1, x.f2, x.f3⟩
def cRule (x : LRule) : IRule := ⟨x.f0.map cTerm, x.f1, x.f2.map (fun l => l.map cTerm)⟩
def szRuleP (r : LRule) : Prop := r.f0.length ≤ 1048576 ∧ r.f1.length ≤ 1048576 ∧ r.f2.length ≤ 1048576 ∧ ∀ l ∈ r.f2, l.length ≤ 1048576
theorem laws_toVarS_ev (l : List LVar) (h : l.length ≤ 1048576) : Ev (fun k => laws_toVarS.f k l) (l.map cVar) := by
  unfold laws_toVarS.f
  refine ev_pos (by omega) (ev_pos (by omega) ?_)
  exact ev_fill (da := zLVar) (db := zIVar) (fun k ys i => laws_toVarS.l0 k l ys i) (fun k x => some (cVar x)) l cVar (by omega) (fun k ys i => by rw [laws_toVarS.l0]; rfl) (fun x _ => ev_ret _)
theorem laws_toIntS_ev (l : List Int) (h : l.length ≤ 1048576) : Ev (fun k => laws_toIntS.f k l) l := by
  unfold laws_toIntS.f
  refine ev_pos (by omega) (ev_pos (by omega) ?_)
  have := ev_fill (da := (0 : Int)) (db := (0 : Int)) (fun k ys i => laws_toIntS.l0 k l ys i) (fun k x => some x) l id (by omega) (fun k ys i => by rw [laws_toIntS.l0]; rfl) (fun x _ => ev_ret _)
  simpa using this
theorem laws_toTermS_ev (l : List LTerm) (h : l.length ≤ 1048576) : Ev (fun k => laws_toTermS.f k l) (l.map cTerm) := by
  unfold laws_toTermS.f
  refine ev_pos (by omega) (ev_pos (by omega) ?_)
  exact ev_fill (da := zLTerm) (db := zITerm) (fun k ys i => laws_toTermS.l0 k l ys i) (fun k x => some (cTerm x)) l cTerm (by omega) (fun k ys i => by rw [laws_toTermS.l0]; rfl) (fun x _ => ev_ret _)
theorem laws_toTermSS_ev (l : List (List LTerm)) (h : l.length ≤ 1048576) (h2 : ∀ x ∈ l, x.length ≤ 1048576) : Ev (fun k => laws_toTermSS.f k l) (l.map (fun x => x.map cTerm)) := by
  unfold laws_toTermSS.f
  refine ev_pos (by omega) (ev_pos (by omega) ?_)
  exact ev_fill (da := []) (db := []) (fun k ys i => laws_toTermSS.l0 k l ys i) (fun k x => laws_toTermS.f k x) l (fun x => x.map cTerm) (by omega) (fun k ys i => by rw [laws_toTermSS.l0]; rfl) (fun x hx => laws_toTermS_ev x (h2 x hx))
theorem laws_toRule_ev (r : LRule) (h : szRuleP r) : Ev (fun k => laws_toRule.f k r.f0 r.f1 r.f2) ((cRule r).f0, (cRule r).f1, (cRule r).f2) := by
  obtain ⟨h0, h1, h2, h3⟩ := h
  unfold laws_toRule.f
  exact ev_bind (laws_toTermS_ev _ h0) (ev_bind (laws_toIntS_ev _ h1) (ev_bind (laws_toTermSS_ev _ h2 h3) (ev_ret _)))
theorem laws_toRuleS_ev (l : List LRule) (h : l.length ≤ 1048576) (h2 : ∀ r ∈ l, szRuleP r) : Ev (fun k => laws_toRuleS.f k l) (l.map cRule) := by
  unfold laws_toRuleS.f
  refine ev_pos (by omega) (ev_pos (by omega) ?_)
  exact ev_fill (da := zLRule) (db := zIRule) (fun k ys i => laws_toRuleS.l0 k l ys i) (fun k x => (laws_toRule.f k x.f0 x.f1 x.f2).bind fun bt => some ⟨bt.1, bt.2.1, bt.2.2⟩) l cRule (by omega)
    (fun k ys i => by rw [laws_toRuleS.l0]; simp only [Option.bind_assoc, Option.bind_some]; rfl) (fun x hx => ev_bind (laws_toRule_ev x (h2 x hx)) (ev_ret _))
def cSys (vars : List LVar) (rules : List LRule) : List IVar × List IRule := (vars.map cVar, rules.map cRule)
theorem laws_toSystem_ev (vars : List LVar) (rules : List LRule) (h : vars.length ≤ 1048576 ∧ rules.length ≤ 1048576 ∧ ∀ r ∈ rules, szRuleP r) : Ev (fun k => laws_toSystem.f k vars rules) (cSys vars rules) := by
  unfold laws_toSystem.f
  exact ev_bind (laws_toVarS_ev _ h.1) (ev_bind (laws_toRuleS_ev _ h.2.1 h.2.2) (ev_ret _))
theorem laws_eqIntS_ev (l : List Int) (h : l.length ≤ 4611686018427387904) : Ev (fun k => laws_eqIntS.f k l l) true := by
  unfold laws_eqIntS.f
  refine ev_pos rfl ?_
  exact ev_same (da := (0 : Int)) (fun k i => laws_eqIntS.l0 k l l i) (fun k x y => if x = y then some true else some false) l l h rfl (fun k i => by rw [laws_eqIntS.l0]; simp [rd]) (fun x _ => ev_pos rfl (ev_ret _))
theorem laws_eqTermS_ev (l : List ITerm) (h : l.length ≤ 4611686018427387904) : Ev (fun k => laws_eqTermS.f k l l) true := by
  unfold laws_eqTermS.f
  refine ev_pos rfl ?_
  exact ev_same (da := zITerm) (fun k i => laws_eqTermS.l0 k l l i) (fun k x y => laws_eqTerm.f x.f0 x.f1 x.f2 x.f3 y.f0 y.f1 y.f2 y.f3) l l h rfl (fun k i => by rw [laws_eqTermS.l0]; rfl) (fun x _ => by unfold laws_eqTerm.f; simpa using ev_ret true)
theorem laws_eqTermSS_ev (l : List (List ITerm)) (h : l.length ≤ 4611686018427387904) (h2 : ∀ x ∈ l, x.length ≤ 4611686018427387904) : Ev (fun k => laws_eqTermSS.f k l l) true := by
  unfold laws_eqTermSS.f
  refine ev_pos rfl ?_
  exact ev_same (da := []) (fun k i => laws_eqTermSS.l0 k l l i) (fun k x y => laws_eqTermS.f k x y) l l h rfl (fun k i => by rw [laws_eqTermSS.l0]; rfl) (fun x hx => laws_eqTermS_ev x (h2 x hx))
theorem laws_eqVarS_ev (l : List IVar) (h : l.length ≤ 4611686018427387904) : Ev (fun k => laws_eqVarS.f k l l) true := by
  unfold laws_eqVarS.f
  refine ev_pos rfl ?_
  exact ev_same (da := zIVar) (fun k i => laws_eqVarS.l0 k l l i) (fun k x y => laws_eqVar.f x.f0 x.f1 x.f2 y.f0 y.f1 y.f2) l l h rfl (fun k i => by rw [laws_eqVarS.l0]; rfl) (fun x _ => by unfold laws_eqVar.f; simpa using ev_ret true)
def smallRule (r : IRule) : Prop := r.f0.length ≤ 1048576 ∧ r.f1.length ≤ 1048576 ∧ r.f2.length ≤ 1048576 ∧ ∀ l ∈ r.f2, l.length ≤ 1048576
theorem laws_eqRule_ev (r : IRule) (h : smallRule r) : Ev (fun k => laws_eqRule.f k r.f0 r.f1 r.f2 r.f0 r.f1 r.f2) true := by
  obtain ⟨h0, h1, h2, h3⟩ := h
  unfold laws_eqRule.f
  exact ev_bind (laws_eqTermS_ev _ (by omega)) (ev_pos rfl (ev_bind (laws_eqIntS_ev _ (by omega)) (ev_pos rfl (ev_bind (laws_eqTermSS_ev _ (by omega) (fun x hx => by have := h3 x hx; omega)) (ev_pos rfl (ev_ret _))))))
theorem laws_eqRuleS_ev (l : List IRule) (h : l.length ≤ 4611686018427387904) (h2 : ∀ r ∈ l, smallRule r) : Ev (fun k => laws_eqRuleS.f k l l) true := by
  unfold laws_eqRuleS.f
  refine ev_pos rfl ?_
  exact ev_same (da := zIRule) (fun k i => laws_eqRuleS.l0 k l l i) (fun k x y => laws_eqRule.f k x.f0 x.f1 x.f2 y.f0 y.f1 y.f2) l l h rfl (fun k i => by rw [laws_eqRuleS.l0]; rfl) (fun x hx => laws_eqRule_ev x (h2 x hx))
theorem small_of_sz {r : LRule} (h : szRuleP r) : smallRule (cRule r) := by
  obtain ⟨h0, h1, h2, h3⟩ := h
  refine ⟨by simpa [cRule] using h0, h1, by simpa [cRule] using h2, fun l hl => ?_⟩
  simp only [cRule, List.mem_map] at hl
  obtain ⟨x, hx, rfl⟩ := hl
  simpa using h3 x hx
theorem laws_eqSystem_ev (vars : List LVar) (rules : List LRule) (h : vars.length ≤ 1048576 ∧ rules.length ≤ 1048576 ∧ ∀ r ∈ rules, szRuleP r) :
    Ev (fun k => laws_eqSystem.f k (cSys vars rules).1 (cSys vars rules).2 (cSys vars rules).1 (cSys vars rules).2) true := by
  unfold laws_eqSystem.f cSys
  refine ev_bind (laws_eqVarS_ev _ (by simp; omega)) (ev_pos rfl (ev_bind (laws_eqRuleS_ev _ (by simp; omega) ?_) (ev_pos rfl (ev_ret _))))
  intro r hr
  obtain ⟨x, hx, rfl⟩ := List.mem_map.1 hr
  exact small_of_sz (h.2.2 x hx)
structure ExOk (vars : List LVar) (rules : List LRule) : Prop where
  hk : vars.length ≤ 1048576 ∧ rules.length ≤ 1048576 ∧ ∀ r ∈ rules, szRuleP r
  vl : (cSys vars rules).1.length ≤ 1048576
  rl : (cSys vars rules).2.length ≤ 1048576
  rs : ∀ r ∈ (cSys vars rules).2, r.f1.length ≤ 9223372036854775807
theorem ExOk.to {vars : List LVar} {rules : List LRule} (S : ExOk vars rules) : Ev (fun k => laws_toSystem.f k vars rules) (cSys vars rules) := laws_toSystem_ev vars rules S.hk
theorem ExOk.eq {vars : List LVar} {rules : List LRule} (S : ExOk vars rules) : Ev (fun k => laws_eqSystem.f k (cSys vars rules).1 (cSys vars rules).2 (cSys vars rules).1 (cSys vars rules).2) true := laws_eqSystem_ev vars rules S.hk
def Evp (G : Nat → Prop) : Prop := ∃ n, ∀ k, n ≤ k → G k
theorem Evp.get {G : Nat → Prop} (h : Evp G) : ∃ k, G k := let ⟨n, h⟩ := h; ⟨n, h n (Nat.le_refl _)⟩
theorem Evp.of {P : Prop} (h : P) : Evp fun _ => P := ⟨0, fun _ _ => h⟩
theorem Evp.and {G H : Nat → Prop} (g : Evp G) (h : Evp H) : Evp fun k => G k ∧ H k := by
  obtain ⟨n, g⟩ := g
  obtain ⟨m, h⟩ := h
  exact ⟨max n m, fun k hk => ⟨g k (by omega), h k (by omega)⟩⟩
theorem Evp.fact {α : Type} {f : Nat → Option α} {r : α} {H : Nat → Prop} (g : Ev f r) (h : Evp H) : Evp fun k => f k = some r ∧ H k := Evp.and (G := fun k => f k = some r) g h
theorem Evp.inl {G H : Nat → Prop} (g : Evp G) : Evp fun k => G k ∨ H k := let ⟨n, g⟩ := g; ⟨n, fun k hk => .inl (g k hk)⟩
theorem Evp.inr {G H : Nat → Prop} (g : Evp H) : Evp fun k => G k ∨ H k := let ⟨n, g⟩ := g; ⟨n, fun k hk => .inr (g k hk)⟩
theorem Evp.ex {α : Type} {G : Nat → α → Prop} (a : α) (g : Evp fun k => G k a) : Evp fun k => ∃ x, G k x := let ⟨n, g⟩ := g; ⟨n, fun k hk => ⟨a, g k hk⟩⟩
theorem Evp.guard {P : Prop} {H : Nat → Prop} (h : ¬ P → Evp H) : Evp fun k => P ∨ H k := by
  by_cases p : P
  · exact .inl (.of p)
  · exact .inr (h p)
theorem Evp.sz {f : Nat → Option Int} {a : Int} {P : Prop} (hf : SzOk f a P) {H : Nat → Int → Prop} (h : ∀ r, 0 ≤ r → r ≤ a → P → Evp fun k => H k r) : Evp fun k => ∃ t : Int, f k = some t ∧ (t < 0 ∨ H k t) := by
  obtain ⟨r, h1, h2⟩ := hf
  refine .ex r (.fact h1 ?_)
  rcases h2 with h2 | ⟨h2, h3, h4⟩
  · exact .inl (.of h2)
  · exact .inr (h r h2 h3 h4)
theorem ev_index {α : Type} {da : α} (L : Nat → Int → Option Int) (F : Nat → α → Option Bool) (xs : List α) (p : α → Bool) (hl : xs.length ≤ 9223372036854775807)
    (hL : ∀ k i, L (k + 1) i = if i < (xs.length : Int) then (if 0 ≤ i then (if i < (xs.length : Int) then ((F k (xs.getD i.toNat da)).bind fun t => if t = true then some i else L k (wrap64 (i + 1))) else none) else none) else some (-1))
    (hF : ∀ x ∈ xs, Ev (fun k => F k x) (p x)) : ∃ r, Ev (fun k => L k 0) r ∧ decide (r ≥ 0) = xs.any p := by
  have key : ∀ d n : Nat, xs.length - n = d → n ≤ xs.length → ∃ r, Ev (fun k => L k (n : Int)) r ∧ decide (r ≥ 0) = (xs.drop n).any p := by
    intro d
    induction d with
    | zero =>
      intro n h1 h2
      have : n = xs.length := by omega
      subst this
      exact ⟨-1, Ev.step (fun k => hL k _) (ev_neg (by omega) (ev_ret _)), by rw [List.drop_length]; rfl⟩
    | succ d ih =>
      intro n h1 h2
      have hn : n < xs.length := by omega
      have hx := List.getElem?_eq_getElem hn
      rw [List.drop_eq_getElem_cons hn, List.any_cons]
      have hf := hF _ (List.getElem_mem hn)
      cases hp : p xs[n] with
      | true =>
        rw [hp] at hf
        refine ⟨(n : Int), Ev.step (fun k => hL k _) (ev_pos (by omega) (ev_pos (by omega) (ev_pos (by omega) ?_))), by simp⟩
        rw [getD_of hx]
        exact ev_bind hf (ev_pos rfl (ev_ret _))
      | false =>
        rw [hp] at hf
        obtain ⟨r, h3, h4⟩ := ih (n + 1) (by omega) (by omega)
        refine ⟨r, Ev.step (fun k => hL k _) (ev_pos (by omega) (ev_pos (by omega) (ev_pos (by omega) ?_))), by rw [h4]; rfl⟩
        rw [getD_of hx, wrap_nat hn (by omega)]
        exact ev_bind hf (ev_neg (by simp) h3)
  have := key xs.length 0 (by omega) (by omega)
  simpa using this
theorem ev_contains {α : Type} {da : α} (L : Nat → Int → Option Int) (F : Nat → α → Option Bool) (xs : List α) (p : α → Bool) (hl : xs.length ≤ 9223372036854775807)
    (hL : ∀ k i, L (k + 1) i = if i < (xs.length : Int) then (if 0 ≤ i then (if i < (xs.length : Int) then ((F k (xs.getD i.toNat da)).bind fun t => if t = true then some i else L k (wrap64 (i + 1))) else none) else none) else some (-1))
    (hF : ∀ x ∈ xs, Ev (fun k => F k x) (p x)) : Ev (fun k => (L k 0).bind fun t => some (decide (t ≥ 0))) (xs.any p) := by
  obtain ⟨r, h1, h2⟩ := ev_index L F xs p hl hL hF
  exact ev_bind h1 (ev_eq (ev_ret _) h2)
theorem ev_all {α : Type} {da : α} (L : Nat → Int → Option Bool) (F : Nat → α → Option Bool) (xs : List α) (p : α → Bool) (G : Nat → Option Bool) (b : Bool) (hl : xs.length ≤ 9223372036854775807) (hG : Ev G b)
    (hL : ∀ k i, L (k + 1) i = if i < (xs.length : Int) then (if 0 ≤ i then ((F k (xs.getD i.toNat da)).bind fun t => if t = true then L k (wrap64 (i + 1)) else some false) else none) else G k)
    (hF : ∀ x ∈ xs, Ev (fun k => F k x) (p x)) : Ev (fun k => L k 0) (xs.all p && b) := by
  have key : ∀ d n : Nat, xs.length - n = d → n ≤ xs.length → Ev (fun k => L k (n : Int)) ((xs.drop n).all p && b) := by
    intro d
    induction d with
    | zero =>
      intro n h1 h2
      have : n = xs.length := by omega
      subst this
      rw [List.drop_length]
      refine Ev.step (fun k => hL k _) (ev_neg (by omega) (ev_eq hG (by simp)))
    | succ d ih =>
      intro n h1 h2
      have hn : n < xs.length := by omega
      have hx := List.getElem?_eq_getElem hn
      rw [List.drop_eq_getElem_cons hn, List.all_cons]
      have hf := hF _ (List.getElem_mem hn)
      refine Ev.step (fun k => hL k _) (ev_pos (by omega) (ev_pos (by omega) ?_))
      rw [getD_of hx, wrap_nat hn (by omega)]
      cases hp : p xs[n] with
      | true => rw [hp] at hf; exact ev_bind hf (ev_pos rfl (ev_eq (ih (n + 1) (by omega) (by omega)) (by simp)))
      | false => rw [hp] at hf; exact ev_bind hf (ev_neg (by simp) (ev_eq (ev_ret _) (by simp)))
  have := key xs.length 0 (by omega) (by omega)
  simpa using this
def allIn (st : List Int) : Bool := st.all fun x => inR x (-9999) 9999
def stateOkP (st : List Int) : Bool := decide ((st.length : Int) ≤ 5) && allIn st
theorem impl_stateOk_ev (st : List Int) : Ev (fun k => impl_stateOk.f k st) (stateOkP st) := by
  unfold impl_stateOk.f stateOkP
  by_cases h : (st.length : Int) ≤ 5
  · refine ev_pos h ?_
    unfold slices_ContainsFunc_at_impl_stateOk_1.f slices_IndexFunc_at_impl_stateOk_1.f
    refine ev_bind (ev_contains (da := (0 : Int)) (fun k i => slices_IndexFunc_at_impl_stateOk_1.l0 k st (st.length : Int) i) (fun _ x => impl_stateOk_1.f x) st (fun x => !inR x (-9999) 9999) (by omega) (fun k i => by rw [slices_IndexFunc_at_impl_stateOk_1.l0]; rfl)
      (fun x _ => ev_fix (by unfold impl_stateOk_1.f; rw [impl_in_eq]; rfl))) (ev_eq (ev_ret _) ?_)
    unfold allIn
    rw [decide_eq_true h, Bool.true_and, List.not_any_eq_all_not]
    simp
  · exact ev_neg h (ev_eq (ev_ret _) (by simp [h]))
theorem spec_l1State_ev (st : List Int) (hl : st.length ≤ 9223372036854775807) : Ev (fun k => spec_l1State.f k st) (allIn st) := by
  unfold spec_l1State.f allIn
  exact ev_all (da := (0 : Int)) (fun k i => spec_l1State.l0 k st i) (fun _ x => spec_l1In.f x (-9999) 9999) st (fun x => inR x (-9999) 9999) (fun _ => some true) true hl (ev_ret _) (fun k i => by rw [spec_l1State.l0]; rfl) (fun x _ => ev_fix (spec_l1In_eq x (-9999) 9999)) |> fun h => ev_eq h (by simp)
theorem allIn_in {st : List Int} (h : allIn st = true) : StateIn st := fun i hi => by
  have := inR_iff.1 (List.all_eq_true.1 h _ (List.getElem_mem hi))
  rw [List.getD_eq_getElem?_getD, List.getElem?_eq_getElem hi]
  exact this
theorem in_allIn {st : List Int} (h : StateIn st) : allIn st = true := List.all_eq_true.2 fun x hx => by
  obtain ⟨i, hi, rfl⟩ := List.mem_iff_getElem.1 hx
  have := h i hi
  rw [List.getD_eq_getElem?_getD, List.getElem?_eq_getElem hi] at this
  exact inR_iff.2 this
theorem kinds_go {l : List ITerm} {vars : Int} (h : kindsP l vars ≠ []) : (GoOk vars l [] ∧ 1 ≤ l.length ∧ l.length ≤ 40) ∧ 0 ≤ vars ∧ vars ≤ 5 := by
  obtain ⟨_, hk⟩ := kindsP_length l vars h
  have e : kindsP l vars = kindsGo vars l [] := by unfold kindsP; rw [if_pos hk]
  have hk2 := hk
  simp only [kindsOk, Bool.and_eq_true] at hk2
  have := inR_iff.1 hk2.2
  have h2 := inR_iff.1 hk2.1
  refine ⟨⟨kindsGo_ok l [] (.inr ?_) (by rw [← e]; exact h), by omega, by omega⟩, h2⟩
  intro e2; rw [e2] at this; simp at this
theorem impl_TermsValid_ev (l : List ITerm) (vars : Int) : Ev (fun k => impl_TermsValid.f k l vars) (!(kindsP l vars).isEmpty) := by
  unfold impl_TermsValid.f
  exact ev_bind (impl_kindsOf_ev l vars) (ev_ret _)
theorem spec_TermsValid_ev (l : List ITerm) (vars : Int) : Ev (fun k => spec_TermsValid.f k l vars) (!(kindsP l vars).isEmpty) := by
  unfold spec_TermsValid.f
  refine ev_bind (spec_KindsOf_ev l vars) (ev_eq (ev_ret _) ?_)
  cases kindsP l vars <;> simp
def evalPairP (l : List ITerm) (st : List Int) : Int × Bool := if (stateOkP st && !(kindsP l st.length).isEmpty) = true then (lastP l st, true) else (0, false)
theorem impl_Eval_ev (l : List ITerm) (st : List Int) : Ev (fun k => impl_Eval.f k l st) (evalPairP l st) := by
  unfold impl_Eval.f evalPairP
  refine ev_bind (impl_stateOk_ev st) ?_
  cases h : stateOkP st with
  | false => exact ev_neg (by simp) (ev_eq (ev_ret _) (by simp))
  | true =>
    refine ev_pos rfl (ev_bind (impl_TermsValid_ev l st.length) ?_)
    cases hk : (kindsP l (st.length : Int)).isEmpty with
    | true => exact ev_neg (by simp) (ev_eq (ev_ret _) (by simp))
    | false =>
      obtain ⟨⟨g1, g2, g3⟩, _⟩ := kinds_go (l := l) (vars := (st.length : Int)) (by intro e; rw [e] at hk; cases hk)
      simp only [stateOkP, Bool.and_eq_true] at h
      exact ev_pos rfl (ev_bind (impl_eval_ev g1 g2 g3 (allIn_in h.2) rfl) (ev_eq (ev_ret _) (by simp)))
theorem held_min2 (a b : Int) : min2 (heldP a) (heldP b) = heldP (min2 a b) := by
  unfold min2
  by_cases h : a ≤ b
  · rw [if_pos h, if_pos (held_mono h)]
  · rw [if_neg h]
    have := held_mono (a := b) (b := a) (by omega)
    split <;> omega
theorem held_max2 (a b : Int) : max2 (heldP a) (heldP b) = heldP (max2 a b) := by
  unfold max2
  by_cases h : a ≤ b
  · rw [if_pos h, if_pos (held_mono h)]
  · rw [if_neg h]
    have := held_mono (a := b) (b := a) (by omega)
    split <;> omega
theorem smin_ev (a b c d : Int) : Ev (fun k => slices_Min_int_int.f k [a, b, c, d]) (min2 (min2 a b) (min2 c d)) := by
  have w1 : wrap64 (1 + 1) = 2 := by unfold wrap64; omega
  have w2 : wrap64 (2 + 1) = 3 := by unfold wrap64; omega
  have w3 : wrap64 (3 + 1) = 4 := by unfold wrap64; omega
  unfold slices_Min_int_int.f
  refine ev_neg (by simp) (ev_pos (by simp) ?_)
  refine Ev.step (fun k => by rw [slices_Min_int_int.l1, w1]) (ev_pos (by simp) (ev_pos (by omega) (ev_pos (by simp) ?_)))
  refine Ev.step (fun k => by rw [slices_Min_int_int.l1, w2]) (ev_pos (by simp) (ev_pos (by omega) (ev_pos (by simp) ?_)))
  refine Ev.step (fun k => by rw [slices_Min_int_int.l1, w3]) (ev_pos (by simp) (ev_pos (by omega) (ev_pos (by simp) ?_)))
  refine Ev.step (fun k => by rw [slices_Min_int_int.l1]) ?_
  refine ev_neg (by simp) (ev_eq (ev_ret _) ?_)
  show (if d < (if c < (if b < a then b else a) then c else (if b < a then b else a)) then d else (if c < (if b < a then b else a) then c else (if b < a then b else a))) = _
  unfold min2
  repeat' split
  all_goals omega
theorem smax_ev (a b c d : Int) : Ev (fun k => slices_Max_int_int.f k [a, b, c, d]) (max2 (max2 a b) (max2 c d)) := by
  have w1 : wrap64 (1 + 1) = 2 := by unfold wrap64; omega
  have w2 : wrap64 (2 + 1) = 3 := by unfold wrap64; omega
  have w3 : wrap64 (3 + 1) = 4 := by unfold wrap64; omega
  unfold slices_Max_int_int.f
  refine ev_neg (by simp) (ev_pos (by simp) ?_)
  refine Ev.step (fun k => by rw [slices_Max_int_int.l1, w1]) (ev_pos (by simp) (ev_pos (by omega) (ev_pos (by simp) ?_)))
  refine Ev.step (fun k => by rw [slices_Max_int_int.l1, w2]) (ev_pos (by simp) (ev_pos (by omega) (ev_pos (by simp) ?_)))
  refine Ev.step (fun k => by rw [slices_Max_int_int.l1, w3]) (ev_pos (by simp) (ev_pos (by omega) (ev_pos (by simp) ?_)))
  refine Ev.step (fun k => by rw [slices_Max_int_int.l1]) ?_
  refine ev_neg (by simp) (ev_eq (ev_ret _) ?_)
  show (if d > (if c > (if b > a then b else a) then c else (if b > a then b else a)) then d else (if c > (if b > a then b else a) then c else (if b > a then b else a))) = _
  unfold max2
  repeat' split
  all_goals omega
theorem four_ev (a b c d : Int) : Ev (fun k => spec_l1Four.f k a b c d) [min2 (min2 a b) (min2 c d), max2 (max2 a b) (max2 c d)] := by
  have w0 : wrap64 (0 + 1) = 1 := by unfold wrap64; omega
  have w1 : wrap64 (1 + 1) = 2 := by unfold wrap64; omega
  have w2 : wrap64 (2 + 1) = 3 := by unfold wrap64; omega
  have one : ∀ (lo hi x : Int) (i : Nat) (r : List Int), i < 3 → rd [b, c, d] (i : Int) = x → Ev (fun k => spec_l1Four.l0 k (if x < lo then x else lo) (if x > hi then x else hi) [b, c, d] ((i + 1 : Nat) : Int)) r → Ev (fun k => spec_l1Four.l0 k lo hi [b, c, d] (i : Int)) r := fun lo hi x i r hi3 hx h => by
    refine Ev.step (fun k => by rw [spec_l1Four.l0, hx]) ?_
    refine ev_pos (by simp; omega) (ev_pos (by omega) ?_)
    have j1 : ∀ lo', Ev (fun k => spec_l1Four.l0 k lo' (if x > hi then x else hi) [b, c, d] ((i + 1 : Nat) : Int)) r → Ev (fun k => spec_l1Four.j1 k lo' hi [b, c, d] (i : Int)) r := fun lo' h => by
      refine Ev.step (fun k => by rw [spec_l1Four.j1, hx, wrap_nat (n := i) (m := 3) hi3 (by omega)]) ?_
      refine ev_pos (by omega) (ev_pos (by simp; omega) ?_)
      by_cases e : x > hi
      · rw [if_pos e] at h; exact ev_pos e h
      · rw [if_neg e] at h; exact ev_neg e h
    by_cases e : x < lo
    · rw [if_pos e] at h; exact ev_pos e (j1 _ h)
    · rw [if_neg e] at h; exact ev_neg e (j1 _ h)
  unfold spec_l1Four.f
  refine one a a b 0 _ (by omega) rfl (one _ _ c 1 _ (by omega) rfl (one _ _ d 2 _ (by omega) rfl ?_))
  refine Ev.step (fun k => by rw [spec_l1Four.l0]) ?_
  refine ev_neg (by simp) (ev_eq (ev_ret _) ?_)
  congr 1
  · unfold min2
    repeat' split
    all_goals omega
  · congr 1
    unfold max2
    repeat' split
    all_goals omega
theorem impl_spanOf_ev {op : Int} (ho : inR op 2 9 = true) {a b : Int × Int} (ha : valOk (wantP op) a.1 ∧ valOk (wantP op) a.2) (hb : valOk (wantP op) b.1 ∧ valOk (wantP op) b.2) : Ev (fun k => impl_spanOf.f k op a.1 a.2 b.1 b.2) (spanDo op a b) := by
  have bit_ev : ∀ c : Bool, Ev (fun _ => impl_bit.f c) (if c = true then 1 else 0) := fun c => ev_fix (by cases c <;> rfl)
  unfold impl_spanOf.f spanDo
  have hops := ops_cases ho
  by_cases e2 : op = 2
  · subst e2
    have := arg_num ha.1 (by omega); have := arg_num ha.2 (by omega); have := arg_num hb.1 (by omega); have := arg_num hb.2 (by omega)
    rw [if_pos rfl, wrap_in (x := a.1 + b.1) (by omega) (by omega), wrap_in (x := a.2 + b.2) (by omega) (by omega), impl_held_eq, impl_held_eq]
    exact ev_pos rfl (ev_ret _)
  refine ev_neg e2 ?_
  rw [if_neg e2]
  by_cases e3 : op = 3
  · subst e3
    have := arg_num ha.1 (by omega); have := arg_num ha.2 (by omega); have := arg_num hb.1 (by omega); have := arg_num hb.2 (by omega)
    rw [if_pos rfl, wrap_in (x := a.1 - b.2) (by omega) (by omega), wrap_in (x := a.2 - b.1) (by omega) (by omega), impl_held_eq, impl_held_eq]
    exact ev_pos rfl (ev_ret _)
  refine ev_neg e3 ?_
  rw [if_neg e3]
  by_cases e4 : op = 4
  · subst e4
    have h1 := arg_num ha.1 (by omega); have h2 := arg_num ha.2 (by omega); have h3 := arg_num hb.1 (by omega); have h4 := arg_num hb.2 (by omega)
    have m1 := mul_in h1 h3; have m2 := mul_in h1 h4; have m3 := mul_in h2 h3; have m4 := mul_in h2 h4
    rw [if_pos rfl, wrap_in (x := a.1 * b.1) (by omega) (by omega), wrap_in (x := a.1 * b.2) (by omega) (by omega), wrap_in (x := a.2 * b.1) (by omega) (by omega), wrap_in (x := a.2 * b.2) (by omega) (by omega), impl_held_eq, impl_held_eq, impl_held_eq, impl_held_eq]
    refine ev_pos rfl (ev_bind (ev_ret _) (ev_bind (ev_ret _) (ev_bind (ev_ret _) (ev_bind (ev_ret _) (ev_bind (smin_ev _ _ _ _) (ev_bind (smax_ev _ _ _ _) (ev_eq (ev_ret _) ?_)))))))
    unfold low4 high4
    simp only [held_min2, held_max2]
  refine ev_neg e4 ?_
  rw [if_neg e4]
  by_cases e5 : op = 5
  · subst e5
    rw [if_pos rfl]
    exact ev_pos rfl (ev_bind (bit_ev _) (ev_bind (bit_ev _) (ev_eq (ev_ret _) (by simp))))
  refine ev_neg e5 ?_
  rw [if_neg e5]
  by_cases e6 : op = 6
  · subst e6
    have j1 : ∀ x y, Ev (fun k => impl_spanOf.j1 k x y) (x, y) := fun x y => Ev.step (fun k => by rw [impl_spanOf.j1]) (ev_ret _)
    rw [if_pos rfl]
    refine ev_pos rfl ?_
    have tail : ∀ x, Ev (fun k => if a.1 ≤ b.2 then ((impl_bit.f (decide (b.1 ≤ a.2))).bind fun r14 => impl_spanOf.j1 k x r14) else ((impl_bit.f false).bind fun r15 => impl_spanOf.j1 k x r15)) (x, if a.1 ≤ b.2 ∧ b.1 ≤ a.2 then 1 else 0) := fun x => by
      refine ev_ite (fun h => ev_bind (bit_ev _) (ev_eq (j1 _ _) (by simp [h]))) fun h => ev_bind (bit_ev _) (ev_eq (j1 _ _) (by simp [h]))
    by_cases h : a.1 = a.2
    · refine ev_pos h (ev_bind (bit_ev _) (ev_eq (tail _) ?_))
      congr 1
      by_cases h1 : a.1 = b.1
      · by_cases h2 : a.2 = b.2
        · rw [if_pos (by simp [h1, h2]), if_pos ⟨h, by omega, h1⟩]
        · rw [if_neg (by simp [h2]), if_neg (by omega)]
      · rw [if_neg (by simp [h1]), if_neg (by omega)]
    · refine ev_neg h (ev_bind (bit_ev _) (ev_eq (tail _) ?_))
      congr 1
      rw [if_neg (by simp), if_neg (by omega)]
  refine ev_neg e6 ?_
  rw [if_neg e6]
  by_cases e7 : op = 7
  · subst e7
    have h1 := arg_truth ha.1 (by omega); have h2 := arg_truth ha.2 (by omega)
    refine ev_eq (ev_pos rfl (ev_ret _)) ?_
    rw [wrap_in (x := 1 - a.2) (by omega) (by omega), wrap_in (x := 1 - a.1) (by omega) (by omega)]
    rfl
  refine ev_neg e7 ?_
  rw [if_neg e7, impl_do_eq ho ha.1 hb.1, impl_do_eq ho ha.2 hb.2]
  exact ev_bind (ev_ret _) (ev_bind (ev_ret _) (ev_ret _))
def two (p : Int × Int) : List Int := [p.1, p.2]
theorem spec_l1Between_ev {op : Int} (ho : inR op 2 9 = true) {a b : Int × Int} (ha : valOk (wantP op) a.1 ∧ valOk (wantP op) a.2) (hb : valOk (wantP op) b.1 ∧ valOk (wantP op) b.2) : Ev (fun k => spec_l1Between.f k op (two a) (two b)) (two (spanDo op a b)) := by
  have bit_ev : ∀ c : Bool, Ev (fun _ => spec_l1Truth.f c) (if c = true then 1 else 0) := fun c => ev_fix (by cases c <;> rfl)
  have l0 : ∀ p : Int × Int, (0 : Int) < ((two p).length : Int) := fun p => by simp [two]
  have l1 : ∀ p : Int × Int, (1 : Int) < ((two p).length : Int) := fun p => by simp [two]
  have r0 : ∀ p : Int × Int, rd (two p) 0 = p.1 := fun _ => rfl
  have r1 : ∀ p : Int × Int, rd (two p) 1 = p.2 := fun _ => rfl
  unfold spec_l1Between.f spanDo
  simp only [r0, r1]
  have hops := ops_cases ho
  by_cases e2 : op = 2
  · subst e2
    have := arg_num ha.1 (by omega); have := arg_num ha.2 (by omega); have := arg_num hb.1 (by omega); have := arg_num hb.2 (by omega)
    rw [if_pos rfl, wrap_in (x := a.1 + b.1) (by omega) (by omega), wrap_in (x := a.2 + b.2) (by omega) (by omega), spec_l1Held_eq, spec_l1Held_eq]
    exact ev_pos rfl (ev_pos (l0 _) (ev_pos (l0 _) (ev_bind (ev_ret _) (ev_pos (l1 _) (ev_pos (l1 _) (ev_ret _))))))
  refine ev_neg e2 ?_
  rw [if_neg e2]
  by_cases e3 : op = 3
  · subst e3
    have := arg_num ha.1 (by omega); have := arg_num ha.2 (by omega); have := arg_num hb.1 (by omega); have := arg_num hb.2 (by omega)
    rw [if_pos rfl, wrap_in (x := a.1 - b.2) (by omega) (by omega), wrap_in (x := a.2 - b.1) (by omega) (by omega), spec_l1Held_eq, spec_l1Held_eq]
    exact ev_pos rfl (ev_pos (l0 _) (ev_pos (l1 _) (ev_bind (ev_ret _) (ev_pos (l1 _) (ev_pos (l0 _) (ev_ret _))))))
  refine ev_neg e3 ?_
  rw [if_neg e3]
  by_cases e4 : op = 4
  · subst e4
    have h1 := arg_num ha.1 (by omega); have h2 := arg_num ha.2 (by omega); have h3 := arg_num hb.1 (by omega); have h4 := arg_num hb.2 (by omega)
    have m1 := mul_in h1 h3; have m2 := mul_in h1 h4; have m3 := mul_in h2 h3; have m4 := mul_in h2 h4
    rw [if_pos rfl, wrap_in (x := a.1 * b.1) (by omega) (by omega), wrap_in (x := a.1 * b.2) (by omega) (by omega), wrap_in (x := a.2 * b.1) (by omega) (by omega), wrap_in (x := a.2 * b.2) (by omega) (by omega)]
    refine ev_pos rfl (ev_pos (l0 _) (ev_pos (l0 _) (ev_pos (l0 _) (ev_pos (l1 _) (ev_pos (l1 _) (ev_pos (l0 _) (ev_pos (l1 _) (ev_pos (l1 _) (ev_bind (four_ev _ _ _ _) ?_)))))))))
    have q0 : ∀ x y : Int, rd [x, y] 0 = x := fun _ _ => rfl
    have q1 : ∀ x y : Int, rd [x, y] 1 = y := fun _ _ => rfl
    rw [q0, q1, spec_l1Held_eq, spec_l1Held_eq]
    exact ev_pos (by simp) (ev_bind (ev_ret _) (ev_pos (by simp) (ev_bind (ev_ret _) (ev_ret _))))
  refine ev_neg e4 ?_
  rw [if_neg e4]
  by_cases e5 : op = 5
  · subst e5
    rw [if_pos rfl]
    exact ev_pos rfl (ev_pos (l1 _) (ev_pos (l0 _) (ev_bind (bit_ev _) (ev_pos (l0 _) (ev_pos (l1 _) (ev_bind (bit_ev _) (ev_eq (ev_ret _) (by simp [two]))))))))
  refine ev_neg e5 ?_
  rw [if_neg e5]
  by_cases e6 : op = 6
  · subst e6
    have j1 : ∀ x, Ev (fun k => spec_l1Between.j1 k x) x := fun x => Ev.step (fun k => by rw [spec_l1Between.j1]) (ev_ret _)
    rw [if_pos rfl]
    refine ev_pos rfl ?_
    have tail : ∀ x, Ev (fun k => if 0 < ((two a).length : Int) then (if 1 < ((two b).length : Int) then (if a.1 ≤ b.2 then (if 0 < ((two b).length : Int) then (if 1 < ((two a).length : Int) then ((spec_l1Truth.f (decide (b.1 ≤ a.2))).bind fun r11 => spec_l1Between.j1 k [x, r11]) else none) else none) else ((spec_l1Truth.f false).bind fun r12 => spec_l1Between.j1 k [x, r12])) else none) else none) [x, if a.1 ≤ b.2 ∧ b.1 ≤ a.2 then 1 else 0] := fun x => by
      refine ev_pos (l0 _) (ev_pos (l1 _) (ev_ite (fun h => ev_pos (l0 _) (ev_pos (l1 _) (ev_bind (bit_ev _) (ev_eq (j1 _) (by simp [h]))))) fun h => ev_bind (bit_ev _) (ev_eq (j1 _) (by simp [h]))))
    refine ev_pos (l0 _) (ev_pos (l1 _) ?_)
    by_cases h : a.1 = a.2
    · refine ev_pos h (ev_pos (l0 _) (ev_pos (l1 _) ?_))
      by_cases h1 : b.1 = b.2
      · refine ev_pos h1 (ev_pos (l0 _) (ev_pos (l0 _) (ev_bind (bit_ev _) (ev_eq (tail _) ?_))))
        unfold two
        congr 1
        by_cases h2 : a.1 = b.1
        · rw [if_pos (by simp [h2]), if_pos ⟨h, h1, h2⟩]
        · rw [if_neg (by simp [h2]), if_neg (by omega)]
      · refine ev_neg h1 (ev_bind (bit_ev _) (ev_eq (tail _) ?_))
        unfold two
        congr 1
        rw [if_neg (by simp), if_neg (by omega)]
    · refine ev_neg h (ev_bind (bit_ev _) (ev_eq (tail _) ?_))
      unfold two
      congr 1
      rw [if_neg (by simp), if_neg (by omega)]
  refine ev_neg e6 ?_
  rw [if_neg e6]
  by_cases e7 : op = 7
  · subst e7
    have h1 := arg_truth ha.1 (by omega); have h2 := arg_truth ha.2 (by omega)
    refine ev_eq (ev_pos rfl (ev_pos (l1 _) (ev_pos (l0 _) (ev_ret _)))) ?_
    rw [wrap_in (x := 1 - a.2) (by omega) (by omega), wrap_in (x := 1 - a.1) (by omega) (by omega)]
    rfl
  refine ev_neg e7 ?_
  rw [if_neg e7, spec_l1Do_eq ho ha.1 hb.1, spec_l1Do_eq ho ha.2 hb.2]
  exact ev_pos (l0 _) (ev_pos (l0 _) (ev_bind (ev_ret _) (ev_pos (l1 _) (ev_pos (l1 _) (ev_bind (ev_ret _) (ev_ret _))))))
end Go.Proofs.Ytpjmiaooogephaa.PA
end
section
set_option linter.unusedVariables false
set_option linter.unusedSimpArgs false
namespace Go.Proofs.Ytpjmiaooogephaa.PA
open Go.RowKit Go.Proofs.YtpjmiaooogephaaW.PrintWords
def leGo : List Int → List Int → Bool
  | a :: p, b :: q => decide (a ≤ b) && leGo p q
  | _, _ => true
theorem leGo_at : ∀ (a b : List Int), leGo a b = true → a.length = b.length → ∀ i : Nat, i < a.length → a.getD i 0 ≤ b.getD i 0
  | [], _, _, _, i, h => by simp at h
  | _ :: _, [], _, h, _, _ => by simp at h
  | x :: a, y :: b, h, hl, 0, _ => by
    simp only [leGo, Bool.and_eq_true, decide_eq_true_eq] at h
    simpa using h.1
  | x :: a, y :: b, h, hl, i + 1, hi => by
    simp only [leGo, Bool.and_eq_true] at h
    have := leGo_at a b h.2 (by simpa using hl) i (by simpa using hi)
    simpa using this
def spansP (l : List ITerm) (low high : List Int) : List (Int × Int) := spansGo low high l []
def lastSpan (l : List ITerm) (low high : List Int) : Int × Int := (spansP l low high).getD (l.length - 1) (0, 0)
def rangeP (l : List ITerm) (low high : List Int) : Int × Int × Bool :=
  if ((stateOkP low && allIn high) && ((decide (low.length = high.length) && !(kindsP l low.length).isEmpty) && leGo low high)) = true then ((lastSpan l low high).1, (lastSpan l low high).2, true) else (0, 0, false)
def toI (p : Int × Int) : Ispan := ⟨p.1, p.2⟩
theorem rd_toI {vs : List (Int × Int)} {ys : List Ispan} {i : Int} (h : inR i 0 ((vs.length : Int) - 1) = true) : rd_Ispan (vs.map toI ++ ys) i = toI (rd2 vs i) := by
  have := inR_iff.1 h
  unfold rd_Ispan rd2
  rw [List.getD_eq_getElem?_getD, List.getD_eq_getElem?_getD, List.getElem?_append_left (by simp; omega), List.getElem?_map, List.getElem?_eq_getElem (show i.toNat < vs.length by omega)]
  rfl
theorem rd_two {vs : List (Int × Int)} {i : Int} (h : inR i 0 ((vs.length : Int) - 1) = true) : rd_Lint (vs.map two) i = two (rd2 vs i) := by
  have := inR_iff.1 h
  show (vs.map two).getD i.toNat [] = _
  unfold rd2
  rw [List.getD_eq_getElem?_getD, List.getD_eq_getElem?_getD, List.getElem?_map, List.getElem?_eq_getElem (show i.toNat < vs.length by omega)]
  rfl
section
variable {l : List ITerm} {low high : List Int} {vars : Int} (hg : GoOk vars l []) (h1 : 1 ≤ l.length) (h40 : l.length ≤ 40) (hlo : StateIn low) (hhi : StateIn high) (e1 : vars = low.length) (e2 : vars = high.length)
include hg h1 h40 hlo hhi e1 e2
theorem impl_l2_ev : Ev (fun k => impl_RangeOf.l2 k (List.replicate (l.length : Int).toNat zIspan) 0 l low high) ((lastSpan l low high).1, (lastSpan l low high).2, true) := by
  have key : ∀ d n : Nat, l.length - n = d → n ≤ l.length → ∀ (ks : List Int) (vs : List (Int × Int)), vs.length = n → GoOk vars (l.drop n) ks → SpOk ks vs → spansGo low high (l.drop n) vs = spansP l low high →
      Ev (fun k => impl_RangeOf.l2 k (vs.map toI ++ List.replicate (l.length - n) zIspan) (n : Int) l low high) ((lastSpan l low high).1, (lastSpan l low high).2, true) := by
    intro d
    induction d with
    | zero =>
      intro n g1 g2 ks vs g3 g4 g5 g6
      have : n = l.length := by omega
      subst this
      rw [List.drop_length] at g6
      refine Ev.step (fun k => by rw [impl_RangeOf.l2]) ?_
      have hl : ((vs.map toI ++ List.replicate (l.length - l.length) zIspan).length : Int) = (l.length : Int) := by simp [g3]
      rw [hl, wrap_in (x := (l.length : Int) - 1) (by omega) (by omega), rd_toI (i := (l.length : Int) - 1) (by rw [g3]; exact inR_iff.2 (by omega))]
      refine ev_neg (by omega) (ev_pos (by omega) (ev_pos (by omega) (ev_eq (ev_ret _) ?_)))
      unfold lastSpan
      rw [← g6]
      show (((rd2 vs ((l.length : Int) - 1)).1, (rd2 vs ((l.length : Int) - 1)).2, true) : Int × Int × Bool) = ((vs.getD (l.length - 1) (0, 0)).1, (vs.getD (l.length - 1) (0, 0)).2, true)
      unfold rd2
      rw [show ((l.length : Int) - 1).toNat = l.length - 1 by omega]
    | succ d ih =>
      intro n g1 g2 ks vs g3 g4 g5 g6
      have hn : n < l.length := by omega
      have hx := List.getElem?_eq_getElem hn
      rw [List.drop_eq_getElem_cons hn] at g4 g6
      obtain ⟨hk, g4⟩ := g4
      unfold spansGo at g6
      have hsp := spanT_ok hk g5 hlo hhi e1 e2
      have next := ih (n + 1) (by omega) (by omega) _ (vs ++ [spanT l[n] low high vs]) (by simp [g3]) g4 (g5.push hsp.1 hsp.2) g6
      have hlen : ((vs.map toI ++ List.replicate (l.length - n) zIspan).length : Int) = (l.length : Int) := by simp [g3]; omega
      have hset : ∀ p, (vs.map toI ++ List.replicate (l.length - n) zIspan).set (n : Int).toNat (toI p) = (vs ++ [p]).map toI ++ List.replicate (l.length - (n + 1)) zIspan := fun p => by
        rw [show (n : Int).toNat = n by omega, List.set_append_right _ _ (by simp [g3]), show l.length - n = (l.length - (n + 1)) + 1 by omega, List.replicate_succ]
        simp [g3]
      refine Ev.step (fun k => by rw [impl_RangeOf.l2]) ?_
      rw [show rd_ITerm l (n : Int) = l[n] from getD_of hx, hlen, wrap_nat hn (by omega)]
      refine ev_pos (by omega) (ev_pos (by omega) (ev_pos (by omega) ?_))
      generalize l[n] = t at *
      rcases kindP_cases hk with ⟨k0, k1, _⟩ | ⟨k0, k1, _⟩ | ⟨k0, k1, k2, k3, k4, _⟩
      · have e : spanT t low high vs = (t.f1, t.f1) := by unfold spanT; rw [if_pos k0]
        rw [e, ← hset] at next
        exact ev_pos k0 (ev_pos (by omega) (ev_pos (by omega) next))
      · have e : spanT t low high vs = (rd low t.f1, rd high t.f1) := by unfold spanT; rw [if_neg (by omega), if_pos k0]
        have := inR_iff.1 k1
        rw [e, ← hset] at next
        exact ev_neg (by omega) (ev_pos k0 (ev_pos (by omega) (ev_pos (by omega) (ev_pos (by omega) (ev_pos (by omega) (ev_pos (by omega) (ev_pos (by omega) next)))))))
      · have hb := inR_iff.1 k0
        have b1 := inR_iff.1 k1
        have b2 := inR_iff.1 k2
        have hl := g5.1
        have e : spanT t low high vs = spanDo t.f0 (rd2 vs t.f2) (rd2 vs t.f3) := by unfold spanT; rw [if_neg (by omega), if_neg (by omega)]
        have ha := g5.rd k1
        have hc := g5.rd k2
        rw [k3] at ha
        rw [k4] at hc
        rw [e, ← hset] at next
        rw [rd_toI (i := t.f2) (by rw [hl]; exact k1), rd_toI (i := t.f3) (by rw [hl]; exact k2)]
        exact ev_neg (by omega) (ev_neg (by omega) (ev_pos (by omega) (ev_pos (by omega) (ev_pos (by omega) (ev_pos (by omega) (ev_bind (impl_spanOf_ev k0 ha hc) (ev_pos (by omega) (ev_pos (by omega) next))))))))
  have := key l.length 0 (by omega) (by omega) [] [] rfl hg ⟨rfl, fun i h => by simp at h⟩ rfl
  simpa using this
theorem spec_l2_ev : Ev (fun k => spec_RangeOf.l2 k ([] : List (List Int)) 0 l low high) ((lastSpan l low high).1, (lastSpan l low high).2, true) := by
  have key : ∀ d n : Nat, l.length - n = d → n ≤ l.length → ∀ (ks : List Int) (vs : List (Int × Int)), vs.length = n → GoOk vars (l.drop n) ks → SpOk ks vs → spansGo low high (l.drop n) vs = spansP l low high →
      Ev (fun k => spec_RangeOf.l2 k (vs.map two) (n : Int) l low high) ((lastSpan l low high).1, (lastSpan l low high).2, true) := by
    intro d
    induction d with
    | zero =>
      intro n g1 g2 ks vs g3 g4 g5 g6
      have : n = l.length := by omega
      subst this
      rw [List.drop_length] at g6
      refine Ev.step (fun k => by rw [spec_RangeOf.l2]) ?_
      have hl : ((vs.map two).length : Int) = (l.length : Int) := by simp [g3]
      rw [hl, wrap_in (x := (l.length : Int) - 1) (by omega) (by omega), rd_two (i := (l.length : Int) - 1) (by rw [g3]; exact inR_iff.2 (by omega))]
      refine ev_neg (by omega) (ev_pos (by omega) (ev_pos (by omega) (ev_pos (by simp [two]) (ev_pos (by simp [two]) (ev_eq (ev_ret _) ?_)))))
      unfold lastSpan
      rw [← g6]
      show (((rd2 vs ((l.length : Int) - 1)).1, (rd2 vs ((l.length : Int) - 1)).2, true) : Int × Int × Bool) = ((vs.getD (l.length - 1) (0, 0)).1, (vs.getD (l.length - 1) (0, 0)).2, true)
      unfold rd2
      rw [show ((l.length : Int) - 1).toNat = l.length - 1 by omega]
    | succ d ih =>
      intro n g1 g2 ks vs g3 g4 g5 g6
      have hn : n < l.length := by omega
      have hx := List.getElem?_eq_getElem hn
      rw [List.drop_eq_getElem_cons hn] at g4 g6
      obtain ⟨hk, g4⟩ := g4
      unfold spansGo at g6
      have hsp := spanT_ok hk g5 hlo hhi e1 e2
      have next := ih (n + 1) (by omega) (by omega) _ (vs ++ [spanT l[n] low high vs]) (by simp [g3]) g4 (g5.push hsp.1 hsp.2) g6
      rw [List.map_append, List.map_cons, List.map_nil] at next
      have hlen : (vs.map two).length = n := by simp [g3]
      refine Ev.step (fun k => by rw [spec_RangeOf.l2]) ?_
      rw [show rd_ITerm l (n : Int) = l[n] from getD_of hx, hlen, wrap_nat hn (by omega)]
      refine ev_pos (by omega) (ev_pos (by omega) (ev_pos (by omega) ?_))
      generalize l[n] = t at *
      rcases kindP_cases hk with ⟨k0, k1, _⟩ | ⟨k0, k1, _⟩ | ⟨k0, k1, k2, k3, k4, _⟩
      · have e : spanT t low high vs = (t.f1, t.f1) := by unfold spanT; rw [if_pos k0]
        rw [e] at next
        exact ev_pos k0 (ev_pos (by omega) next)
      · have e : spanT t low high vs = (rd low t.f1, rd high t.f1) := by unfold spanT; rw [if_neg (by omega), if_pos k0]
        have := inR_iff.1 k1
        rw [e] at next
        exact ev_neg (by omega) (ev_pos k0 (ev_pos (by omega) (ev_pos (by omega) (ev_pos (by omega) (ev_pos (by omega) (ev_pos (by omega) next))))))
      · have hb := inR_iff.1 k0
        have b1 := inR_iff.1 k1
        have b2 := inR_iff.1 k2
        have hl := g5.1
        have e : spanT t low high vs = spanDo t.f0 (rd2 vs t.f2) (rd2 vs t.f3) := by unfold spanT; rw [if_neg (by omega), if_neg (by omega)]
        have ha := g5.rd k1
        have hc := g5.rd k2
        rw [k3] at ha
        rw [k4] at hc
        rw [e] at next
        rw [rd_two (i := t.f2) (by rw [hl]; exact k1), rd_two (i := t.f3) (by rw [hl]; exact k2)]
        exact ev_neg (by omega) (ev_neg (by omega) (ev_pos (by omega) (ev_pos (by omega) (ev_pos (by omega) (ev_pos (by omega) (ev_bind (spec_l1Between_ev k0 ha hc) (ev_pos (by omega) next)))))))
  have := key l.length 0 (by omega) (by omega) [] [] rfl hg ⟨rfl, fun i h => by simp at h⟩ rfl
  simpa using this
end
theorem l1_ev (L : Nat → Int → Option (Int × Int × Bool)) (low high : List Int) (hl : low.length = high.length) (h5 : low.length ≤ 1048576) (r : Int × Int × Bool)
    (hL : ∀ k (i : Nat), i < low.length → L (k + 1) (i : Int) = if rd low (i : Int) > rd high (i : Int) then some (0, 0, false) else L k ((i + 1 : Nat) : Int)) (hend : leGo low high = true → Ev (fun k => L k (low.length : Int)) r) :
    Ev (fun k => L k 0) (if leGo low high = true then r else (0, 0, false)) := by
  have key : ∀ d n : Nat, low.length - n = d → n ≤ low.length → (leGo (low.drop n) (high.drop n) = true → leGo low high = true) → (leGo low high = true → leGo (low.drop n) (high.drop n) = true) → Ev (fun k => L k (n : Int)) (if leGo low high = true then r else (0, 0, false)) := by
    intro d
    induction d with
    | zero =>
      intro n g1 g2 g3 _
      have : n = low.length := by omega
      subst this
      have ht : leGo low high = true := g3 (by rw [List.drop_length]; simp [leGo])
      rw [if_pos ht]
      exact hend ht
    | succ d ih =>
      intro n g1 g2 g3 g4
      have hn : n < low.length := by omega
      have hm : n < high.length := by omega
      refine Ev.step (fun k => hL k n hn) ?_
      rw [show rd low (n : Int) = low[n] from getD_of (List.getElem?_eq_getElem hn), show rd high (n : Int) = high[n] from getD_of (List.getElem?_eq_getElem hm)]
      rw [List.drop_eq_getElem_cons hn, List.drop_eq_getElem_cons hm] at g3 g4
      have hc : leGo (low[n] :: low.drop (n + 1)) (high[n] :: high.drop (n + 1)) = (decide (low[n] ≤ high[n]) && leGo (low.drop (n + 1)) (high.drop (n + 1))) := rfl
      rw [hc] at g3 g4
      by_cases h : low[n] > high[n]
      · refine ev_pos h (ev_eq (ev_ret _) ?_)
        rw [if_neg]
        intro ht
        have := g4 ht
        simp only [Bool.and_eq_true, decide_eq_true_eq] at this
        omega
      · refine ev_neg h (ih (n + 1) (by omega) (by omega) (fun q => g3 ?_) (fun q => ?_))
        · simp only [Bool.and_eq_true, decide_eq_true_eq]
          exact ⟨by omega, q⟩
        · have := g4 q
          simp only [Bool.and_eq_true] at this
          exact this.2
  exact key low.length 0 (by omega) (by omega) (by simp) (by simp)
theorem impl_RangeOf_ev (l : List ITerm) (low high : List Int) : Ev (fun k => impl_RangeOf.f k l low high) (rangeP l low high) := by
  unfold impl_RangeOf.f rangeP
  refine ev_bind (impl_stateOk_ev low) ?_
  cases h1 : stateOkP low with
  | false => exact ev_neg (by simp) (ev_eq (ev_ret _) (by simp))
  | true =>
    refine ev_pos rfl (ev_bind (impl_stateOk_ev high) ?_)
    have h1' := h1
    simp only [stateOkP, Bool.and_eq_true, decide_eq_true_eq] at h1'
    by_cases hl : low.length = high.length
    · cases h2 : allIn high with
      | false => exact ev_neg (by simp [stateOkP, h2]) (ev_eq (ev_ret _) (by simp))
      | true =>
        refine ev_pos (by simp only [stateOkP, h2, Bool.and_true, decide_eq_true_eq]; omega) (ev_neg (by omega) (ev_bind (impl_TermsValid_ev l low.length) ?_))
        cases hk : (kindsP l (low.length : Int)).isEmpty with
        | true => exact ev_neg (by simp) (ev_eq (ev_ret _) (by simp))
        | false =>
          obtain ⟨⟨g1, g2, g3⟩, _⟩ := kinds_go (l := l) (vars := (low.length : Int)) (by intro e; rw [e] at hk; cases hk)
          refine ev_pos rfl ?_
          have := l1_ev (fun k i => impl_RangeOf.l1 k i l low high) low high hl (by omega) ((lastSpan l low high).1, (lastSpan l low high).2, true)
            (fun k i hi => by
              rw [impl_RangeOf.l1, if_pos (by omega), if_pos (by omega), if_pos (by omega), if_pos (by omega), if_pos (by omega), wrap_nat hi (by omega)])
            (fun ht => by
              refine Ev.step (fun k => by rw [impl_RangeOf.l1]) ?_
              exact ev_neg (by omega) (ev_pos (by omega) (ev_pos (by omega) (impl_l2_ev g1 g2 g3 (allIn_in h1'.2) (allIn_in h2) rfl (by omega)))))
          refine ev_eq this ?_
          simp only [decide_eq_true hl, Bool.true_and, Bool.not_false, Bool.and_self]
    · have e : (decide (low.length = high.length)) = false := decide_eq_false hl
      cases h2 : stateOkP high with
      | false => exact ev_neg (by simp) (ev_eq (ev_ret _) (by simp [e]))
      | true => exact ev_pos rfl (ev_pos (by omega) (ev_eq (ev_ret _) (by simp [e])))
theorem spec_RangeOf_ev (l : List ITerm) (low high : List Int) (hb : low.length ≤ 1048576) (hb2 : high.length ≤ 1048576) : Ev (fun k => spec_RangeOf.f k l low high) (rangeP l low high) := by
  unfold spec_RangeOf.f rangeP
  by_cases hl : low.length = high.length
  · refine ev_neg (by omega) (ev_bind (spec_TermsValid_ev l low.length) ?_)
    cases hk : (kindsP l (low.length : Int)).isEmpty with
    | true => exact ev_neg (by simp) (ev_eq (ev_ret _) (by simp))
    | false =>
      obtain ⟨⟨g1, g2, g3⟩, g4⟩ := kinds_go (l := l) (vars := (low.length : Int)) (by intro e; rw [e] at hk; cases hk)
      refine ev_pos rfl (ev_bind (spec_l1State_ev low (by omega)) ?_)
      cases h1 : allIn low with
      | false => exact ev_neg (by simp) (ev_eq (ev_ret _) (by simp [stateOkP, h1]))
      | true =>
        refine ev_pos rfl (ev_bind (spec_l1State_ev high (by omega)) ?_)
        cases h2 : allIn high with
        | false => exact ev_neg (by simp) (ev_eq (ev_ret _) (by simp))
        | true =>
          refine ev_pos rfl ?_
          have := l1_ev (fun k i => spec_RangeOf.l1 k i l low high) low high hl (by omega) ((lastSpan l low high).1, (lastSpan l low high).2, true)
            (fun k i hi => by
              rw [spec_RangeOf.l1, if_pos (by omega), if_pos (by omega), if_pos (by omega), if_pos (by omega), if_pos (by omega), wrap_nat hi (by omega)])
            (fun ht => by
              refine Ev.step (fun k => by rw [spec_RangeOf.l1]) ?_
              exact ev_neg (by omega) (spec_l2_ev g1 g2 g3 (allIn_in h1) (allIn_in h2) rfl (by omega)))
          refine ev_eq this ?_
          have e5 : stateOkP low = true := by simp only [stateOkP, h1, Bool.and_true, decide_eq_true_eq]; omega
          simp only [e5, decide_eq_true hl, Bool.true_and, Bool.not_false, Bool.and_self]
  · have e : (decide (low.length = high.length)) = false := decide_eq_false hl
    exact ev_pos (by omega) (ev_eq (ev_ret _) (by simp [e]))
end Go.Proofs.Ytpjmiaooogephaa.PA
end
section
set_option linter.unusedVariables false
set_option linter.unusedSimpArgs false
namespace Go.Proofs.Ytpjmiaooogephaa.PA
open Go.RowKit Go.Proofs.YtpjmiaooogephaaW.PrintWords
def Tot {α : Type} (g : Nat → Option α) (Q : α → Prop) : Prop := ∃ r, Ev g r ∧ Q r
section
variable {α β : Type} {Q : α → Prop}
theorem tot_ret {r : α} (h : Q r) : Tot (fun _ => some r) Q := ⟨r, ev_ret r, h⟩
theorem tot_fix {o : Option α} (h : ∃ r, o = some r ∧ Q r) : Tot (fun _ => o) Q := by obtain ⟨r, h, q⟩ := h; exact ⟨r, ev_fix h, q⟩
theorem tot_pos {c : Prop} [Decidable c] {f g : Nat → Option α} (h : c) (k : Tot f Q) : Tot (fun n => if c then f n else g n) Q := by
  obtain ⟨r, k, q⟩ := k
  exact ⟨r, ev_pos h k, q⟩
theorem tot_neg {c : Prop} [Decidable c] {f g : Nat → Option α} (h : ¬ c) (k : Tot g Q) : Tot (fun n => if c then f n else g n) Q := by
  obtain ⟨r, k, q⟩ := k
  exact ⟨r, ev_neg h k, q⟩
theorem tot_ite {c : Prop} [Decidable c] {f g : Nat → Option α} (h1 : c → Tot f Q) (h2 : ¬ c → Tot g Q) : Tot (fun n => if c then f n else g n) Q := by
  by_cases h : c
  · exact tot_pos h (h1 h)
  · exact tot_neg h (h2 h)
theorem tot_bind {g : Nat → Option β} {f : Nat → β → Option α} {R : β → Prop} (h : Tot g R) (k : ∀ b, R b → Tot (fun n => f n b) Q) : Tot (fun n => (g n).bind (fun t => f n t)) Q := by
  obtain ⟨b, h, q⟩ := h
  obtain ⟨r, k, q⟩ := k b q
  exact ⟨r, ev_bind h k, q⟩
theorem tot_step {g f : Nat → Option α} (h : ∀ k, g (k + 1) = f k) (k : Tot f Q) : Tot g Q := by
  obtain ⟨r, k, q⟩ := k
  exact ⟨r, Ev.step h k, q⟩
theorem tot_mono {g : Nat → Option α} {R : α → Prop} (h : Tot g R) (k : ∀ r, R r → Q r) : Tot g Q := by
  obtain ⟨r, h, q⟩ := h
  exact ⟨r, h, k r q⟩
end
def ByteL (b : List Int) : Prop := b.length ≤ 2000 ∧ ∀ x ∈ b, 0 ≤ x ∧ x < 256
theorem xor_nat (a b : Int) (ha : 0 ≤ a) (hb : 0 ≤ b) (ha' : a < 4611686018427387904) (hb' : b < 4611686018427387904) : ∃ n : Nat, Go.bits .xor .i64 a b = (n : Int) ∧ n < 9223372036854775808 := by
  obtain ⟨a, rfl⟩ := Int.eq_ofNat_of_zero_le ha
  obtain ⟨b, rfl⟩ := Int.eq_ofNat_of_zero_le hb
  refine ⟨a ^^^ b, ?_, Nat.xor_lt_two_pow (n := 63) (by omega) (by omega)⟩
  have h1 : a % 2 ^ 64 = a := Nat.mod_eq_of_lt (by omega)
  have h2 : b % 2 ^ 64 = b := Nat.mod_eq_of_lt (by omega)
  have h3 : a ^^^ b < 2 ^ 63 := Nat.xor_lt_two_pow (by omega) (by omega)
  unfold Go.bits
  simp only [BitVec.ofInt_natCast]
  rw [BitVec.toNat_xor, BitVec.toNat_ofNat, BitVec.toNat_ofNat]
  show Go.IntKind.i64.wrap (((a % 2 ^ 64) ^^^ (b % 2 ^ 64) : Nat) : Int) = _
  rw [h1, h2, Go.IntKind.wrap_i64]
  omega
theorem tmod_in {x n : Int} (hx : 0 ≤ x) (hn : 1 ≤ n) : 0 ≤ x.tmod n ∧ x.tmod n < n := ⟨Int.tmod_nonneg n hx, Int.tmod_lt_of_pos x (by omega)⟩
theorem byte_at {b : List Int} (h : ByteL b) {i : Int} (h0 : 0 ≤ i) (h1 : i < (b.length : Int)) : 0 ≤ rd b i ∧ rd b i < 256 := by
  have : b[i.toNat]? = some b[i.toNat] := List.getElem?_eq_getElem (by omega)
  have e : rd b i = b[i.toNat] := by
    show b.getD i.toNat _ = _
    simp [List.getD_eq_getElem?_getD, this]
  rw [e]
  exact h.2 _ (List.getElem_mem _)
end Go.Proofs.Ytpjmiaooogephaa.PA
end
section
set_option linter.unusedVariables false
set_option linter.unusedSimpArgs false
namespace Go.Proofs.Ytpjmiaooogephaa.PA
open Go.RowKit Go.Proofs.YtpjmiaooogephaaW.PrintWords
theorem mix_in {u v p d : Int} (hu : 0 ≤ u ∧ u < 256) (hv : 0 ≤ v ∧ v < 256) (hp : 0 ≤ p ∧ p ≤ 1000000000000) (hd : 0 ≤ d ∧ d ≤ p) :
    wrap64 (wrap64 (wrap64 (wrap64 (wrap64 u * 131) + wrap64 (wrap64 v * 1117)) + wrap64 (p * 29)) + wrap64 (wrap64 d * 53)) = u * 131 + v * 1117 + p * 29 + d * 53 := by
  rw [wrap_in (x := u) (by omega) (by omega), wrap_in (x := v) (by omega) (by omega), wrap_in (x := d) (by omega) (by omega), wrap_in (x := u * 131) (by omega) (by omega), wrap_in (x := v * 1117) (by omega) (by omega), wrap_in (x := p * 29) (by omega) (by omega),
    wrap_in (x := d * 53) (by omega) (by omega), wrap_in (x := u * 131 + v * 1117) (by omega) (by omega), wrap_in (x := u * 131 + v * 1117 + p * 29) (by omega) (by omega), wrap_in (by omega) (by omega)]
def PickQ (p n : Int) (r : Int × Int) : Prop := r.1 = p + 1 ∧ 0 ≤ r.2 ∧ (1 ≤ n → r.2 < n) ∧ (n < 1 → r.2 = 0)
theorem pick_tot {b : List Int} (hb : ByteL b) {p : Int} (h0 : 0 ≤ p) (h1 : p ≤ 1000000000000) (n : Int) : Tot (fun k => spec_l40Rd_pick.f k b p n) (PickQ p n) := by
  unfold spec_l40Rd_pick.f
  have w1 : wrap64 (p + 1) = p + 1 := wrap_in (by omega) (by omega)
  have w2 : wrap64 (p + 1 - 1) = p := by rw [wrap_in (by omega) (by omega)]; omega
  simp only [w1, w2]
  refine tot_ite (fun h => tot_ret ⟨rfl, Int.le_refl _, fun _ => by omega, fun _ => rfl⟩) fun h => tot_ite (fun h2 => tot_ret ⟨rfl, Int.le_refl _, fun _ => by show (0 : Int) < n; omega, fun _ => rfl⟩) fun h2 => tot_ite (fun h3 => ?_) fun h3 => ?_
  · refine tot_pos h0 (tot_pos h3 (tot_pos (by omega) (tot_ret ?_)))
    have hr := byte_at hb h0 h3
    rw [wrap_in (x := rd b p) (by omega) (by omega)]
    have := tmod_in (x := rd b p) (n := n) hr.1 (by omega)
    exact ⟨rfl, this.1, fun _ => this.2, fun h => by omega⟩
  · have w3 : wrap64 (wrap64 (p * 7) + 3) = p * 7 + 3 := by rw [wrap_in (x := p * 7) (by omega) (by omega), wrap_in (by omega) (by omega)]
    simp only [w3]
    have m1 := tmod_in (x := p) (n := (b.length : Int)) h0 (by omega)
    have m2 := tmod_in (x := p * 7 + 3) (n := (b.length : Int)) (by omega) (by omega)
    refine tot_pos h2 (tot_pos m1.1 (tot_pos m1.2 (tot_pos h2 (tot_pos m2.1 (tot_pos m2.2 (tot_pos h2 (tot_pos (by omega) (tot_ret ?_))))))))
    have d1 : 0 ≤ Int.tdiv p (b.length : Int) := Int.tdiv_nonneg h0 (by omega)
    have d2 : Int.tdiv p (b.length : Int) ≤ p := by rw [Int.tdiv_eq_ediv_of_nonneg h0]; exact Int.ediv_le_self _ h0
    have r1 := byte_at hb m1.1 m1.2
    have r2 := byte_at hb m2.1 m2.2
    rw [mix_in r1 r2 ⟨h0, h1⟩ ⟨d1, d2⟩]
    generalize hX : rd b (Int.tmod p (b.length : Int)) * 131 + rd b (Int.tmod (p * 7 + 3) (b.length : Int)) * 1117 + p * 29 + Int.tdiv p (b.length : Int) * 53 = X
    have x0 : 0 ≤ X ∧ X ≤ 1000000000000000 := by omega
    have e1 : 0 ≤ Int.tdiv X 64 := Int.tdiv_nonneg x0.1 (by omega)
    have e2 : Int.tdiv X 64 ≤ X := by rw [Int.tdiv_eq_ediv_of_nonneg x0.1]; exact Int.ediv_le_self _ x0.1
    rw [wrap_in (x := Int.tdiv X 64) (by omega) (by omega)]
    obtain ⟨m, hm, _⟩ := xor_nat X (Int.tdiv X 64) x0.1 e1 (by omega) (by omega)
    rw [hm]
    have := tmod_in (x := (m : Int)) (n := n) (by omega) (by omega)
    exact ⟨rfl, this.1, fun _ => this.2, fun h => by omega⟩
theorem rd_mem {l : List Int} {i : Int} (h0 : 0 ≤ i) (h1 : i < (l.length : Int)) : rd l i ∈ l := by
  have : l[i.toNat]? = some l[i.toNat] := List.getElem?_eq_getElem (by omega)
  have e : rd l i = l[i.toNat] := by
    show l.getD i.toNat _ = _
    simp [List.getD_eq_getElem?_getD, this]
  rw [e]
  exact List.getElem_mem _
theorem num_tot {b : List Int} (hb : ByteL b) {p : Int} (h0 : 0 ≤ p) (h1 : p ≤ 1000000000000) (l : List Int) (hl : l ≠ []) : Tot (fun k => spec_l40Rd_num.f k b p l) (fun r => r.1 = p + 1 ∧ r.2 ∈ l) := by
  unfold spec_l40Rd_num.f
  have hn : 0 < l.length := List.length_pos_iff.2 hl
  refine tot_bind (pick_tot hb h0 h1 _) fun r q => ?_
  obtain ⟨q1, q2, q3, _⟩ := q
  have q3 := q3 (by omega)
  exact tot_pos q2 (tot_pos q3 (tot_ret ⟨q1, rd_mem q2 q3⟩))
theorem l1Number_tot {b : List Int} (hb : ByteL b) {p : Int} (h0 : 0 ≤ p) (h1 : p ≤ 100000000000) : Tot (fun k => spec_l1Number.f k b p) (fun r => r.1 = p + 6) := by
  unfold spec_l1Number.f
  refine tot_bind (pick_tot hb h0 (by omega) _) fun r1 q1 => tot_bind (pick_tot hb (by have := q1.1; omega) (by have := q1.1; omega) _) fun r2 q2 => ?_
  have e1 := q1.1
  have e2 := q2.1
  refine tot_bind (pick_tot hb (by omega) (by omega) _) fun r3 q3 => ?_
  have e3 := q3.1
  refine tot_bind (pick_tot hb (by omega) (by omega) _) fun r4 q4 => ?_
  have e4 := q4.1
  refine tot_bind (pick_tot hb (by omega) (by omega) _) fun r5 q5 => ?_
  have e5 := q5.1
  refine tot_pos q5.2.1 (tot_pos (q5.2.2.1 (by omega)) ?_)
  refine tot_bind (num_tot hb (by omega) (by omega) _ (by simp)) fun r6 q6 => tot_ret ?_
  have := q6.1
  show r6.1 = _
  omega
theorem l1Pick_tot {b : List Int} (hb : ByteL b) {p : Int} (h0 : 0 ≤ p) (h1 : p ≤ 100000000000) (ks : List Int) (hk : ks.length ≤ 1000) (a : Int) : Tot (fun k => spec_l1Pick.f k b p ks a) (fun r => r.1 = p + 1) := by
  unfold spec_l1Pick.f
  refine tot_bind (pick_tot hb h0 (by omega) _) fun r1 q1 => ?_
  obtain ⟨e1, e2, e3, e4⟩ := q1
  have key : ∀ d n : Nat, ks.length - n = d → n ≤ ks.length → Tot (fun k => spec_l1Pick.l1 k (n : Int) b ks a r1) (fun r => r.1 = p + 1) := by
    intro d
    induction d with
    | zero =>
      intro n g1 g2
      refine tot_step (fun k => by rw [spec_l1Pick.l1]) ?_
      exact tot_neg (by omega) (tot_ret e1)
    | succ d ih =>
      intro n g1 g2
      have e3 := e3 (by omega)
      refine tot_step (fun k => by rw [spec_l1Pick.l1]) (tot_pos (by omega) (tot_pos (by omega) ?_))
      have m := tmod_in (x := wrap64 (r1.2 + (n : Int))) (n := (ks.length : Int)) (by rw [wrap_in (by omega) (by omega)]; omega) (by omega)
      refine tot_pos m.1 (tot_pos m.2 (tot_ite (fun _ => tot_ret e1) fun _ => ?_))
      rw [wrap_nat (n := n) (m := ks.length) (by omega) (by omega)]
      exact ih (n + 1) (by omega) (by omega)
  exact key ks.length 0 (by omega) (by omega)
theorem kind_tot (o n a c : Int) (ks : List Int) (vars : Int) (hv : 0 ≤ vars ∧ vars ≤ 5) (hk : ks.length ≤ 40) : Tot (fun k => spec_l1Kind.f k o n a c ks vars) (fun _ => True) :=
  ⟨_, ⟨6, fun k hk' => by obtain ⟨m, rfl⟩ : ∃ m, k = m + 6 := ⟨k - 6, by omega⟩; exact spec_l1Kind_eq ⟨o, n, a, c⟩ _ _ hv hk m⟩, trivial⟩
section
variable {b : List Int} (hb : ByteL b) {vars kind : Int} (hv : 0 ≤ vars ∧ vars ≤ 5)
def TermsQ (p : Int) (n m : Nat) (r : Int × List ITerm) : Prop := p ≤ r.1 ∧ r.1 ≤ p + 20 * n + 10 ∧ 0 < r.2.length ∧ r.2.length ≤ m
include hb in
theorem j10_tot {p : Int} (h0 : 0 ≤ p) (h1 : p ≤ 10000000000) (x9 : List ITerm) (x10 : List Int) (he : x9.length = x10.length) (hn : 0 < x9.length) (hl : x9.length ≤ 30) :
    Tot (fun k => spec_l1Terms.j10 k x9 x10 b kind p) (fun r => p ≤ r.1 ∧ r.1 ≤ p + 10 ∧ 0 < r.2.length ∧ r.2.length ≤ x9.length + 1) := by
  refine tot_step (fun k => by rw [spec_l1Terms.j10]) ?_
  have w : wrap64 ((x9.length : Int) - 1) = (x9.length : Int) - 1 := wrap_in (by omega) (by omega)
  simp only [w]
  have sm : Tot (fun _ => some (p, x9)) (fun r : Int × List ITerm => p ≤ r.1 ∧ r.1 ≤ p + 10 ∧ 0 < r.2.length ∧ r.2.length ≤ x9.length + 1) := tot_ret ⟨Int.le_refl _, by show p ≤ _; omega, hn, by show x9.length ≤ _; omega⟩
  have n2 : Tot (fun k => (spec_l1Pick.f k b p x10 1).bind fun r16 => (spec_l40Rd_num.f k b r16.1 [2, 3]).bind fun r17 => (spec_l1Pick.f k b r17.1 x10 1).bind fun r18 => if x9.length + 1 ≤ 1099511627776 then (some (r18.1, (x9 ++ [(⟨r17.2, 0, r16.2, r18.2⟩ : ITerm)]))) else none)
      (fun r : Int × List ITerm => p ≤ r.1 ∧ r.1 ≤ p + 10 ∧ 0 < r.2.length ∧ r.2.length ≤ x9.length + 1) := by
    refine tot_bind (l1Pick_tot hb h0 (by omega) _ (by omega) _) fun r1 q1 => tot_bind (num_tot hb (by omega) (by omega) _ (by simp)) fun r2 q2 => tot_bind (l1Pick_tot hb (by omega) (by omega) _ (by omega) _) fun r3 q3 => tot_pos (by omega) (tot_ret ?_)
    refine ⟨by show p ≤ r3.1; omega, by show r3.1 ≤ _; omega, by simp, by simp⟩
  have n1 : Tot (fun k => if kind = 1 then (if 0 ≤ (x9.length : Int) - 1 then (if (x9.length : Int) - 1 < (x10.length : Int) then (if rd x10 ((x9.length : Int) - 1) ≠ kind then ((spec_l1Pick.f k b p x10 1).bind fun r16 => (spec_l40Rd_num.f k b r16.1 [2, 3]).bind fun r17 => (spec_l1Pick.f k b r17.1 x10 1).bind fun r18 => if x9.length + 1 ≤ 1099511627776 then (some (r18.1, (x9 ++ [(⟨r17.2, 0, r16.2, r18.2⟩ : ITerm)]))) else none) else (some (p, x9))) else none) else none) else (some (p, x9)))
      (fun r : Int × List ITerm => p ≤ r.1 ∧ r.1 ≤ p + 10 ∧ 0 < r.2.length ∧ r.2.length ≤ x9.length + 1) := tot_ite (fun _ => tot_pos (by omega) (tot_pos (by omega) (tot_ite (fun _ => n2) fun _ => sm))) fun _ => sm
  refine tot_ite (fun _ => tot_pos (by omega) (tot_pos (by omega) (tot_ite (fun _ => ?_) fun _ => n1))) fun _ => n1
  refine tot_bind (num_tot hb h0 (by omega) _ (by simp)) fun r1 q1 => tot_bind (l1Pick_tot hb (by omega) (by omega) _ (by omega) _) fun r2 q2 => tot_pos (by omega) (tot_ret ?_)
  refine ⟨by show p ≤ r2.1; omega, by show r2.1 ≤ _; omega, by simp, by simp⟩
include hb hv in
theorem l1TermsL_tot : ∀ (n : Nat) (p : Int) (x9 : List ITerm) (x10 : List Int), 0 ≤ p → p + 20 * n ≤ 1000000000 → x9.length = x10.length → x9.length + n ≤ 25 → Tot (fun k => spec_l1Terms.l1 k p x9 x10 (n : Int) b vars kind) (TermsQ p n (x9.length + n + 2))
  | 0, p, x9, x10, h0, h1, he, hl => by
    refine tot_step (fun k => by rw [spec_l1Terms.l1]) ?_
    refine tot_neg (by omega) (tot_ite (fun h => tot_pos (by omega) (tot_pos (by omega) ?_)) fun h => ?_)
    · refine tot_mono (j10_tot hb h0 (by omega) _ _ (by simp; omega) (by simp) (by simp; omega)) fun r q => ?_
      simp only [List.length_append, List.length_cons, List.length_nil] at q
      exact ⟨q.1, by omega, q.2.2.1, by omega⟩
    · refine tot_mono (j10_tot hb h0 (by omega) _ _ he (by omega) (by omega)) fun r q => ?_
      exact ⟨q.1, by omega, q.2.2.1, by omega⟩
  | n + 1, p, x9, x10, h0, h1, he, hl => by
    have ih := l1TermsL_tot n
    have w : wrap64 (((n + 1 : Nat) : Int) - 1) = (n : Int) := by rw [wrap_in (by omega) (by omega)]; omega
    have j2 : ∀ p' o nn a c, p ≤ p' → p' ≤ p + 20 → Tot (fun k => spec_l1Terms.j2 k p' o nn a c b vars kind x9 x10 ((n + 1 : Nat) : Int)) (TermsQ p (n + 1) (x9.length + (n + 1) + 2)) := fun p' o nn a c g1 g2 => by
      refine tot_step (fun k => by rw [spec_l1Terms.j2]) (tot_bind (kind_tot o nn a c x10 vars hv (by omega)) fun r3 _ => ?_)
      rw [w]
      refine tot_ite (fun _ => tot_pos (by omega) (tot_pos (by omega) ?_)) fun _ => ?_
      · refine tot_mono (ih p' _ _ (by omega) (by omega) (by simp; omega) (by simp; omega)) fun r q => ?_
        obtain ⟨q1, q2, q3, q4⟩ := q
        simp only [List.length_append, List.length_cons, List.length_nil] at q4
        exact ⟨by omega, by omega, q3, by omega⟩
      · refine tot_mono (ih p' _ _ (by omega) (by omega) he (by omega)) fun r q => ?_
        obtain ⟨q1, q2, q3, q4⟩ := q
        exact ⟨by omega, by omega, q3, by omega⟩
    have j3 : ∀ p' o nn, p ≤ p' → p' ≤ p + 20 → Tot (fun k => spec_l1Terms.j3 k p' o nn b vars kind x9 x10 ((n + 1 : Nat) : Int)) (TermsQ p (n + 1) (x9.length + (n + 1) + 2)) := fun p' o nn g1 g2 => tot_step (fun k => by rw [spec_l1Terms.j3]) (j2 p' o nn 0 0 g1 g2)
    have j4 : ∀ p' o nn, p ≤ p' → p' ≤ p + 20 → Tot (fun k => spec_l1Terms.j4 k p' o nn b vars kind x9 x10 ((n + 1 : Nat) : Int)) (TermsQ p (n + 1) (x9.length + (n + 1) + 2)) := fun p' o nn g1 g2 => tot_step (fun k => by rw [spec_l1Terms.j4]) (j3 p' o nn g1 g2)
    have j5 : ∀ p' o nn a c, p ≤ p' → p' ≤ p + 20 → Tot (fun k => spec_l1Terms.j5 k p' o nn a c b vars kind x9 x10 ((n + 1 : Nat) : Int)) (TermsQ p (n + 1) (x9.length + (n + 1) + 2)) := fun p' o nn a c g1 g2 => tot_step (fun k => by rw [spec_l1Terms.j5]) (j2 p' o nn a c g1 g2)
    have j6 : ∀ p' o nn, p ≤ p' → p' ≤ p + 20 → Tot (fun k => spec_l1Terms.j6 k p' o nn b vars kind x9 x10 ((n + 1 : Nat) : Int)) (TermsQ p (n + 1) (x9.length + (n + 1) + 2)) := fun p' o nn g1 g2 => tot_step (fun k => by rw [spec_l1Terms.j6]) (j5 p' o nn 0 0 g1 g2)
    have j7 : ∀ p' o nn, p ≤ p' → p' ≤ p + 20 → Tot (fun k => spec_l1Terms.j7 k p' o nn b vars kind x9 x10 ((n + 1 : Nat) : Int)) (TermsQ p (n + 1) (x9.length + (n + 1) + 2)) := fun p' o nn g1 g2 => tot_step (fun k => by rw [spec_l1Terms.j7]) (j6 p' o nn g1 g2)
    have j8 : ∀ wt (r2 : Int × Int), r2.1 = p + 1 → Tot (fun k => spec_l1Terms.j8 k wt b vars kind x9 x10 ((n + 1 : Nat) : Int) r2) (TermsQ p (n + 1) (x9.length + (n + 1) + 2)) := fun wt r2 e => by
      refine tot_step (fun k => by rw [spec_l1Terms.j8]) (tot_bind (l1Pick_tot hb (by omega) (by omega) _ (by omega) _) fun r8 q8 => tot_bind (l1Pick_tot hb (by omega) (by omega) _ (by omega) _) fun r9 q9 => ?_)
      have j9 : ∀ c, Tot (fun k => spec_l1Terms.j9 k c b vars kind x9 x10 ((n + 1 : Nat) : Int) r2 r8 r9) (TermsQ p (n + 1) (x9.length + (n + 1) + 2)) := fun c => tot_step (fun k => by rw [spec_l1Terms.j9]) (j5 _ _ _ _ _ (by omega) (by omega))
      exact tot_bind (R := fun _ => True) (tot_fix ⟨_, rfl, trivial⟩) fun r10 _ => tot_ite (fun _ => j9 _) fun _ => j9 _
    refine tot_step (fun k => by rw [spec_l1Terms.l1]) (tot_pos (by omega) (tot_bind (num_tot hb h0 (by omega) _ (by simp)) fun r2 q2 => ?_))
    obtain ⟨e2, _⟩ := q2
    refine tot_ite (fun _ => tot_bind (l1Number_tot hb (by omega) (by omega)) fun r4 q4 => ?_) fun _ => tot_ite (fun _ => tot_bind (l1Number_tot hb (by omega) (by omega)) fun r4 q4 => ?_) fun _ => tot_ite (fun _ => j8 _ _ e2) fun _ => j8 _ _ e2
    · refine tot_ite (fun _ => tot_ite (fun _ => tot_bind (pick_tot hb (by omega) (by omega) _) fun r5 q5 => ?_) fun _ => j4 _ _ _ (by omega) (by omega)) fun _ => j3 _ _ _ (by omega) (by omega)
      have := q5.1
      exact j4 _ _ _ (by omega) (by omega)
    · refine tot_ite (fun _ => tot_ite (fun _ => tot_bind (pick_tot hb (by omega) (by omega) _) fun r5 q5 => ?_) fun _ => j7 _ _ _ (by omega) (by omega)) fun _ => j6 _ _ _ (by omega) (by omega)
      have := q5.1
      exact j7 _ _ _ (by omega) (by omega)
include hb hv in
theorem l1Terms_tot {p : Int} (h0 : 0 ≤ p) (h1 : p ≤ 100000000) (most : Int) (hm : 1 ≤ most ∧ most ≤ 12) : Tot (fun k => spec_l1Terms.f k b p vars kind most) (fun r => p ≤ r.1 ∧ r.1 ≤ p + 300 ∧ 0 < r.2.length ∧ r.2.length ≤ 20) := by
  unfold spec_l1Terms.f
  refine tot_bind (pick_tot hb h0 (by omega) _) fun r1 q1 => ?_
  obtain ⟨e1, e2, e3, e4⟩ := q1
  have e3 := e3 hm.1
  obtain ⟨n, hn⟩ : ∃ n : Nat, (n : Int) = 2 + r1.2 := ⟨(2 + r1.2).toNat, by omega⟩
  rw [wrap_in (x := 2 + r1.2) (by omega) (by omega), ← hn]
  refine tot_mono (l1TermsL_tot hb hv n r1.1 [] [] (by omega) (by omega) rfl (by simp; omega)) fun r q => ?_
  obtain ⟨q1, q2, q3, q4⟩ := q
  simp only [List.length_nil] at q4
  exact ⟨by omega, by omega, q3, by omega⟩
end
end Go.Proofs.Ytpjmiaooogephaa.PA
end
section
set_option linter.unusedVariables false
set_option linter.unusedSimpArgs false
namespace Go.Proofs.Ytpjmiaooogephaa.PA
open Go.RowKit Go.Proofs.YtpjmiaooogephaaW.PrintWords
theorem l1Any_tot {b : List Int} (hb : ByteL b) {vars : Int} (hv : 0 ≤ vars ∧ vars ≤ 5) {p : Int} (h0 : 0 ≤ p) (h1 : p ≤ 1000000) : Tot (fun k => spec_l1Any.f k b p vars) (fun r => p ≤ r.1 ∧ r.1 ≤ p + 400) := by
  unfold spec_l1Any.f
  refine tot_bind (pick_tot hb h0 (by omega) _) fun r1 q1 => ?_
  have e1 := q1.1
  refine tot_bind (l1Terms_tot hb hv (by omega) (by omega) _ (by omega)) fun r2 q2 => ?_
  obtain ⟨a1, a2, a3, a4⟩ := q2
  refine tot_bind (pick_tot hb (by omega) (by omega) _) fun r3 q3 => ?_
  have e3 := q3.1
  refine tot_ite (fun _ => tot_bind (pick_tot hb (by omega) (by omega) _) fun r4 q4 => ?_) fun _ => tot_ret ⟨by simp only; omega, by simp only; omega⟩
  have e4 := q4.1
  have b1 := q4.2.1
  have b2 := q4.2.2.1 (by omega)
  have j1 : ∀ p' x0 x1 x2 x3, p ≤ p' → p' ≤ p + 400 → Tot (fun k => spec_l1Any.j1 k p' x0 x1 x2 x3 b r2 r4) (fun r => p ≤ r.1 ∧ r.1 ≤ p + 400) := fun p' x0 x1 x2 x3 g1 g2 => tot_step (fun k => by rw [spec_l1Any.j1]) (tot_pos b1 (tot_pos b2 (tot_ret ⟨g1, g2⟩)))
  have j2 : ∀ p' x1 x2 x3, p ≤ p' → p' ≤ p + 400 → Tot (fun k => spec_l1Any.j2 k p' x1 x2 x3 b r2 r4) (fun r => p ≤ r.1 ∧ r.1 ≤ p + 400) := fun p' x1 x2 x3 g1 g2 => tot_step (fun k => by rw [spec_l1Any.j2]) (j1 _ _ _ _ _ g1 g2)
  have j3 : ∀ p' x2 x3, p ≤ p' → p' ≤ p + 400 → Tot (fun k => spec_l1Any.j3 k p' x2 x3 b r2 r4) (fun r => p ≤ r.1 ∧ r.1 ≤ p + 400) := fun p' x2 x3 g1 g2 => tot_step (fun k => by rw [spec_l1Any.j3]) (j2 _ _ _ _ g1 g2)
  refine tot_pos b1 (tot_pos b2 (tot_bind (pick_tot hb (by omega) (by omega) _) fun r5 q5 => ?_))
  have e5 := q5.1
  refine tot_ite (fun _ => tot_bind (num_tot hb (by omega) (by omega) _ (by simp)) fun r6 q6 => j1 _ _ _ _ _ (by omega) (by omega)) fun _ => tot_ite (fun _ => tot_bind (num_tot hb (by omega) (by omega) _ (by simp)) fun r6 q6 => j2 _ _ _ _ (by omega) (by omega)) fun _ =>
    tot_ite (fun _ => tot_bind (num_tot hb (by omega) (by omega) _ (by simp)) fun r6 q6 => j3 _ _ _ (by omega) (by omega)) fun _ => tot_bind (num_tot hb (by omega) (by omega) _ (by simp)) fun r6 q6 => j3 _ _ _ (by omega) (by omega)
theorem l1Numbers_tot {b : List Int} (hb : ByteL b) {vars : Int} (hv : 0 ≤ vars ∧ vars ≤ 5) {p : Int} (h0 : 0 ≤ p) (h1 : p ≤ 1000000) : Tot (fun k => spec_l1Numbers.f k b p vars) (fun r => p ≤ r.1 ∧ r.1 ≤ p + 100 ∧ (r.2.length : Int) = vars) := by
  have key : ∀ d n : Nat, (vars - n).toNat = d → (n : Int) ≤ vars → ∀ (p' : Int) (x5 : List Int), p ≤ p' → p' + 10 * d ≤ p + 60 → x5.length = n → Tot (fun k => spec_l1Numbers.l1 k p' x5 (n : Int) b vars) (fun r => p ≤ r.1 ∧ r.1 ≤ p + 100 ∧ (r.2.length : Int) = vars) := by
    intro d
    induction d with
    | zero =>
      intro n g1 g2 p' x5 a1 a2 a3
      refine tot_step (fun k => by rw [spec_l1Numbers.l1]) ?_
      refine tot_neg (by omega) (tot_ite (fun h => tot_bind (pick_tot hb (by omega) (by omega) _) fun r2 q2 => ?_) fun _ => tot_ret ⟨by simp only; omega, by simp only; omega, by simp only; omega⟩)
      have e2 := q2.1
      exact tot_ite (fun _ => tot_bind (num_tot hb (by omega) (by omega) _ (by simp)) fun r3 q3 => tot_pos (by omega) (tot_ret ⟨by simp only; omega, by simp only; omega, by simp <;> omega⟩)) fun _ => tot_ret ⟨by simp only; omega, by simp only; omega, by simp only; omega⟩
    | succ d ih =>
      intro n g1 g2 p' x5 a1 a2 a3
      refine tot_step (fun k => by rw [spec_l1Numbers.l1]) ?_
      refine tot_pos (by omega) (tot_bind (l1Number_tot hb (by omega) (by omega)) fun r1 q1 => tot_pos (by omega) ?_)
      rw [wrap_nat (n := n) (m := n + 1) (by omega) (by omega)]
      exact ih (n + 1) (by omega) (by omega) _ _ (by omega) (by omega) (by simp; omega)
  unfold spec_l1Numbers.f
  exact key vars.toNat 0 (by omega) (by omega) p [] (by omega) (by omega) rfl
end Go.Proofs.Ytpjmiaooogephaa.PA
end
section
set_option linter.unusedVariables false
set_option linter.unusedSimpArgs false
namespace Go.Proofs.Ytpjmiaooogephaa.PA
open Go.RowKit Go.Proofs.YtpjmiaooogephaaW.PrintWords
section
variable {b : List Int} (hb : ByteL b)
include hb
def FewQ (rs : List IRule) (m : Nat) : Prop := rs.length ≤ m ∧ ∀ r ∈ rs, r.f1.length ≤ 5 ∧ r.f2.length ≤ 5
omit hb in
theorem FewQ.snoc {rs : List IRule} {m : Nat} (h : FewQ rs m) (r : IRule) (hr : r.f1.length ≤ 5 ∧ r.f2.length ≤ 5) : FewQ (rs ++ [r]) (m + 1) := by
  refine ⟨by have := h.1; simp; omega, fun x hx => ?_⟩
  rcases List.mem_append.1 hx with hx | hx
  · exact h.2 x hx
  · rw [List.mem_singleton.1 hx]; exact hr
omit hb in
omit hb in
end
theorem l40Open_tot {l : List Int} (h : ∀ x ∈ l, 0 ≤ x ∧ x < 256) : Tot (fun k => spec_l40Open.f k l) (fun r => ByteL r.1 ∧ r.2 = 0) := by
  unfold spec_l40Open.f
  refine tot_ite (fun h1 => tot_pos (by omega) (tot_ret ⟨⟨by rw [List.length_take]; omega, fun x hx => h x (List.mem_of_mem_take hx)⟩, rfl⟩)) fun h1 => tot_ret ⟨⟨by show l.length ≤ 2000; omega, h⟩, rfl⟩
theorem bytes_in {l : List Int} (h : l.length ≤ 9223372036854775807 ∧ ∀ x ∈ l, (Lit.int .u8 x).wf = true) : ∀ x ∈ l, 0 ≤ x ∧ x < 256 := fun x hx => by
  have := h.2 x hx
  have e1 : Go.IntKind.u8.min = 0 := by decide
  have e2 : Go.IntKind.u8.max = 255 := by decide
  simp [Lit.wf] at this
  omega
end Go.Proofs.Ytpjmiaooogephaa.PA
end
section
namespace Go.Proofs.Ytpjmiaooogephaa.PA
open Go.RowKit Go.Proofs.YtpjmiaooogephaaW.PrintWords
def laws_FnEvalRange.PureS : Prop := ∀ (l0 : List Int), (l0.length ≤ 9223372036854775807 ∧ ∀ x0 ∈ l0, (Lit.int .u8 x0).wf = true) → ∃ k, laws_FnEvalRange.f k l0 = some true
end Go.Proofs.Ytpjmiaooogephaa.PA
end
section
set_option linter.unusedVariables false
set_option linter.unusedSimpArgs false
namespace Go.Proofs.Ytpjmiaooogephaa.PA
open Go.RowKit Go.Proofs.YtpjmiaooogephaaW.PrintWords
theorem drawRangeOf_tot {l : List Int} (h : ∀ x ∈ l, 0 ≤ x ∧ x < 256) : Tot (fun k => spec_DrawRangeOf.f k l) (fun r => r.2.1.length ≤ 5 ∧ r.2.2.length ≤ 5) := by
  unfold spec_DrawRangeOf.f
  refine tot_bind (l40Open_tot h) fun r1 q1 => ?_
  obtain ⟨hb, e1⟩ := q1
  refine tot_bind (num_tot hb (by omega) (by omega) _ (by simp)) fun r2 q2 => ?_
  have hv : 0 ≤ r2.2 ∧ r2.2 ≤ 3 := by
    have := q2.2
    simp only [List.mem_cons, List.not_mem_nil, or_false] at this
    omega
  refine tot_bind (l1Any_tot hb (by omega) (by omega) (by omega)) fun r3 q3 => tot_bind (l1Numbers_tot hb (by omega) (by omega) (by omega)) fun r4 q4 => ?_
  obtain ⟨a1, a2, a3⟩ := q4
  have j2 : ∀ x : List Int, x.length ≤ 5 → Tot (fun k => spec_DrawRangeOf.j2 k x r3 r4) (fun r => r.2.1.length ≤ 5 ∧ r.2.2.length ≤ 5) := fun x hx => tot_step (fun k => by rw [spec_DrawRangeOf.j2]) (tot_ret ⟨by show r4.2.length ≤ 5; omega, hx⟩)
  have j3 : ∀ x : List Int, x.length ≤ 5 → Tot (fun k => spec_DrawRangeOf.j3 k x r3 r4) (fun r => r.2.1.length ≤ 5 ∧ r.2.2.length ≤ 5) := fun x hx => tot_step (fun k => by rw [spec_DrawRangeOf.j3]) (j2 x hx)
  have key : ∀ d n : Nat, (r2.2 - n).toNat = d → (n : Int) ≤ r2.2 → ∀ (p' : Int) (x5 : List Int), 0 ≤ p' → p' + d ≤ 100000 → x5.length = n → Tot (fun k => spec_DrawRangeOf.l1 k p' x5 (n : Int) r1 r2 r3 r4) (fun r => r.2.1.length ≤ 5 ∧ r.2.2.length ≤ 5) := by
    intro d
    induction d with
    | zero =>
      intro n g1 g2 p' x5 b1 b2 b3
      refine tot_step (fun k => by rw [spec_DrawRangeOf.l1]) ?_
      refine tot_neg (by omega) (tot_ite (fun h => tot_bind (pick_tot hb (by omega) (by omega) _) fun r6 q6 => ?_) fun _ => j2 _ (by omega))
      exact tot_ite (fun _ => tot_pos (by omega) (tot_pos (by omega) (j3 _ (by simp; omega)))) fun _ => j3 _ (by omega)
    | succ d ih =>
      intro n g1 g2 p' x5 b1 b2 b3
      refine tot_step (fun k => by rw [spec_DrawRangeOf.l1]) ?_
      refine tot_pos (by omega) (tot_pos (by omega) (tot_pos (by omega) (tot_bind (num_tot hb (by omega) (by omega) _ (by simp)) fun r5 q5 => tot_pos (by omega) ?_)))
      rw [wrap_nat (n := n) (m := n + 1) (by omega) (by omega)]
      exact ih (n + 1) (by omega) (by omega) _ _ (by omega) (by omega) (by simp; omega)
  exact key r2.2.toNat 0 (by omega) (by omega) _ [] (by omega) (by omega) rfl
theorem shr_bit : ∀ n : Fin 4, ∀ y : Fin 2, Int.tmod (shr .i64 (n.val : Int) (y.val : Int)) 2 = 0 ∨ Int.tmod (shr .i64 (n.val : Int) (y.val : Int)) 2 = 1 := by decide +kernel
theorem FnEvalRange_pure : laws_FnEvalRange.PureS := by
  intro l hl
  suffices h : Ev (fun k => laws_FnEvalRange.f k l) true from h.rounds
  unfold laws_FnEvalRange.f
  refine ev_ite (fun _ => ev_ret _) fun _ => ?_
  obtain ⟨⟨list, low, high⟩, hd, hlo, hhi⟩ := drawRangeOf_tot (bytes_in hl)
  simp only at hlo hhi
  refine ev_bind hd (ev_bind (impl_RangeOf_ev list low high) (ev_bind (spec_RangeOf_ev list low high (by omega) (by omega)) (ev_neg (by simp) (ev_neg (by simp) (ev_neg (by simp) ?_)))))
  have j6 : ∀ b, Ev (fun k => laws_FnEvalRange.j6 k b) b := fun b => Ev.step (fun k => by rw [laws_FnEvalRange.j6]) (ev_ret b)
  refine ev_ite (fun hok => ?_) fun hok => ev_pos rfl (ev_pos rfl (ev_pos rfl (ev_eq (j6 _) (by simpa using hok))))
  have hc : ((stateOkP low && allIn high) && ((decide (low.length = high.length) && !(kindsP list low.length).isEmpty) && leGo low high)) = true := by
    cases h : ((stateOkP low && allIn high) && ((decide (low.length = high.length) && !(kindsP list low.length).isEmpty) && leGo low high)) with
    | true => rfl
    | false => unfold rangeP at hok; rw [if_neg (by rw [h]; simp)] at hok; cases hok
  have hr : rangeP list low high = ((lastSpan list low high).1, (lastSpan list low high).2, true) := by unfold rangeP; rw [if_pos hc]
  rw [hr]
  simp only [Bool.and_eq_true, decide_eq_true_eq, stateOkP] at hc
  obtain ⟨⟨⟨c0, c1⟩, c2⟩, ⟨c3, c4⟩, c5⟩ := hc
  have hne : kindsP list (low.length : Int) ≠ [] := by intro e; rw [e] at c4; simp at c4
  obtain ⟨⟨g1, g2, g3⟩, _⟩ := kinds_go hne
  have hle := leGo_at low high c5 c3
  have hS1 := allIn_in c1
  have hS2 := allIn_in c2
  have outer : ∀ d n : Nat, 4 - n = d → n ≤ 4 → Ev (fun k => laws_FnEvalRange.l4 k (n : Int) (list, low, high) ((lastSpan list low high).1, (lastSpan list low high).2, true)) true := by
    intro d
    induction d with
    | zero =>
      intro n h1 h2
      refine Ev.step (fun k => by rw [laws_FnEvalRange.l4]) ?_
      exact ev_neg (by omega) (ev_ret _)
    | succ d ihd =>
      intro n h1 h2
      refine Ev.step (fun k => by rw [laws_FnEvalRange.l4]) (ev_pos (by omega) ?_)
      have inner : ∀ e m : Nat, low.length - m = e → m ≤ low.length → ∀ x : List Int, x.length = m → (∀ i : Nat, i < m → low.getD i 0 ≤ x.getD i 0 ∧ x.getD i 0 ≤ high.getD i 0) → Ev (fun k => laws_FnEvalRange.l5 k x (m : Int) (list, low, high) ((lastSpan list low high).1, (lastSpan list low high).2, true) (n : Int)) true := by
        intro e
        induction e with
        | zero =>
          intro m m1 m2 x x1 x2
          refine Ev.step (fun k => by rw [laws_FnEvalRange.l5]) ?_
          refine ev_neg (by show ¬ (m : Int) < (low.length : Int); omega) (ev_bind (impl_Eval_ev list x) ?_)
          have hxl : x.length = low.length := by omega
          have hxs : StateIn x := fun i hi => by
            have a := x2 i (by omega); have b := hS1 i (by omega); have c := hS2 i (by omega)
            omega
          have hev : evalPairP list x = (lastP list x, true) := by
            unfold evalPairP
            rw [if_pos]
            rw [hxl]
            simp only [stateOkP, Bool.and_eq_true, decide_eq_true_eq]
            exact ⟨⟨by omega, in_allIn hxs⟩, c4⟩
          have hb := spansGo_btw (low := low) (high := high) (st := x) (vars := (low.length : Int)) rfl hxl (fun i hi => x2 i (by omega)) list [] [] [] g1 rfl rfl (fun i h => by simp at h) (list.length - 1) (by simp; omega)
          have hlast : lastP list x = (valsGo x list []).getD (list.length - 1) 0 := by
            unfold lastP valsP
            show (valsGo x list []).getD ((list.length : Int) - 1).toNat 0 = _
            rw [show ((list.length : Int) - 1).toNat = list.length - 1 by omega]
          have hB : (lastSpan list low high).1 ≤ lastP list x ∧ lastP list x ≤ (lastSpan list low high).2 := by
            rw [hlast]; exact hb
          rw [hev, wrap_nat (n := n) (m := 4) (by omega) (by omega)]
          exact ev_pos rfl (ev_neg (by simp only; omega) (ev_neg (by simp only; omega) (ihd (n + 1) (by omega) (by omega))))
        | succ e ihe =>
          intro m m1 m2 x x1 x2
          have hm : m < low.length := by omega
          have hm2 : m < high.length := by omega
          have hlm : rd low (m : Int) = low.getD m 0 := rfl
          have hhm : rd high (m : Int) = high.getD m 0 := rfl
          have a := hS1 m hm; have b := hS2 m (by omega); have c := hle m hm
          have t0 : 0 ≤ Int.tmod (m : Int) 2 := Int.tmod_nonneg 2 (by omega)
          have t1 : Int.tmod (m : Int) 2 < 2 := Int.tmod_lt_of_pos _ (by omega)
          have hs : Int.tmod (shr .i64 (n : Int) (Int.tmod (m : Int) 2)) 2 = 0 ∨ Int.tmod (shr .i64 (n : Int) (Int.tmod (m : Int) 2)) 2 = 1 := by
            have := shr_bit ⟨n, by omega⟩ ⟨(Int.tmod (m : Int) 2).toNat, by omega⟩
            rw [show (((Int.tmod (m : Int) 2).toNat : Nat) : Int) = Int.tmod (m : Int) 2 by omega] at this
            exact this
          refine Ev.step (fun k => by rw [laws_FnEvalRange.l5]) ?_
          have q1 : (0 : Int) ≤ (m : Int) := by omega
          have q2 : (m : Int) < (low.length : Int) := by omega
          have q3 : (m : Int) < (high.length : Int) := by omega
          refine ev_pos q2 (ev_pos q1 (ev_pos q2 (ev_pos q1 (ev_pos q3 (ev_pos q1 (ev_pos q2 (ev_pos t0 (ev_pos (by omega) ?_))))))))
          rw [wrap_nat hm (by omega)]
          refine ihe (m + 1) (by omega) (by omega) _ (by simp [x1]) fun i hi => ?_
          by_cases hi2 : i < m
          · have := x2 i hi2
            rw [List.getD_eq_getElem?_getD (l := x ++ _), List.getElem?_append_left (by omega), ← List.getD_eq_getElem?_getD]
            exact this
          · obtain rfl : i = m := by omega
            rw [List.getD_eq_getElem?_getD (l := x ++ _), List.getElem?_append_right (by omega), x1, Nat.sub_self]
            simp only [List.getElem?_cons_zero, Option.getD_some, hlm, hhm]
            generalize low.getD i 0 = u at *
            generalize high.getD i 0 = v at *
            rw [wrap_in (x := v - u) (by omega) (by omega)]
            rcases hs with hs | hs
            · rw [hs, Int.mul_zero, wrap_in (x := 0) (by omega) (by omega), wrap_in (by omega) (by omega)]; omega
            · rw [hs, Int.mul_one, wrap_in (x := v - u) (by omega) (by omega), wrap_in (by omega) (by omega)]; omega
      exact inner low.length 0 (by omega) (by omega) [] rfl (fun i h => by omega)
  exact outer 4 0 (by omega) (by omega)
end Go.Proofs.Ytpjmiaooogephaa.PA
namespace Go.Proofs.Ytpjmiaooogephaa.Pure
theorem FnEvalRange : Go.Proofs.Ytpjmiaooogephaa.PA.laws_FnEvalRange.PureS := Go.Proofs.Ytpjmiaooogephaa.PA.FnEvalRange_pure
end Go.Proofs.Ytpjmiaooogephaa.Pure
end
