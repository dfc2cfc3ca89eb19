/- The plain side: what the Lean functions compute, without Go and memory; each theorem under the conditions that it names. -/
import Derived.Test.YtpbpmfckmgcdfaaDoorProg
import Derived.Below
import Derived.Deep.Draws
import Derived.Deep.AppendLies
import Derived.Maps.AppendAt
import Derived.OwnWalk
import Derived.Laws.BytesArg
import Derived.Laws.MakeOwn
import Derived.Laws.OwnMore
import Derived.Deep.OwnRows
import Derived.Tactics
import Derived.Lib.ConvBytes
import Derived.Laws.Slices
import Derived.WalkKit
import Derived.KernelRfl
import Derived.RowKit3
import Derived.Deep.LoopGhost
import Derived.Deep.QuietTactic
import Derived.BigQuiet
import Derived.WideLaws
import Derived.Deep.DeepCutAuto
import Derived.Deep.CutBlock
import Derived.Deep.RegionHeld3
import Derived.Laws.Rows
import Derived.Lib.AppendStr
import Derived.ArgAppend
import Derived.Laws.IdiomCopy
import Derived.OrdersHeld
import Derived.Laws.BitsLemmas
import Derived.RowKit
import Derived.Laws.StructEq
import Derived.Lib.SliceRun
import Derived.WalkSpells
import Derived.ChangeArms
import Derived.ChangeSlices
import Derived.Deep.Slices
import Derived.Test.YtpbpmfckmgcdfaaDoorKDbb676a14e4
section
set_option linter.unusedVariables false
set_option linter.unusedSimpArgs false
namespace Go.Proofs.YtpbpmfckmgcdfaaDoor.PA
open Go.RowKit Go.Proofs.YtpbpmfckmgcdfaaDoorW.PrintWords
theorem ev_ret {α : Type} (r : α) : Ev (fun _ => some r) r := Ev.now r
theorem ev_pos {α : Type} {c : Prop} [Decidable c] {f g : Nat → Option α} {r : α} (h : c) (k : Ev f r) : Ev (fun n => if c then f n else g n) r := by
  simpa [h] using k
theorem ev_neg {α : Type} {c : Prop} [Decidable c] {f g : Nat → Option α} {r : α} (h : ¬ c) (k : Ev g r) : Ev (fun n => if c then f n else g n) r := by
  simpa [h] using k
theorem ev_ite {α : Type} {c : Prop} [Decidable c] {f g : Nat → Option α} {r : α} (h1 : c → Ev f r) (h2 : ¬ c → Ev g r) : Ev (fun n => if c then f n else g n) r := by
  by_cases h : c
  · exact ev_pos h (h1 h)
  · exact ev_neg h (h2 h)
theorem ev_ite_eq {α : Type} {c : Prop} [Decidable c] {f g : Nat → Option α} {r s : α} (h1 : c → Ev f r) (h2 : ¬ c → Ev g s) : Ev (fun n => if c then f n else g n) (if c then r else s) := by
  by_cases h : c
  · rw [if_pos h]; exact ev_pos h (h1 h)
  · rw [if_neg h]; exact ev_neg h (h2 h)
theorem ev_bind {α β : Type} {g : Nat → Option α} {f : Nat → α → Option β} {a : α} {r : β} (h : Ev g a) (k : Ev (fun n => f n a) r) : Ev (fun n => (g n).bind (fun t => f n t)) r := Ev.bind h k
theorem ev_fix {α : Type} {o : Option α} {r : α} (h : o = some r) : Ev (fun _ => o) r := ⟨0, fun _ _ => h⟩
theorem ev_eq {α : Type} {g : Nat → Option α} {r r' : α} (h : Ev g r) (e : r = r') : Ev g r' := e ▸ h
theorem ev_loop {α ρ : Type} (L : Nat → Int → Option ρ) (xs : List α) (res : List α → ρ) (hend : Ev (fun k => L k (xs.length : Int)) (res []))
    (hstep : ∀ (n : Nat) (x : α) (r : List α), n < xs.length → xs[n]? = some x → xs.drop n = x :: r → r = xs.drop (n + 1) → Ev (fun k => L k ((n + 1 : Nat) : Int)) (res r) → Ev (fun k => L k (n : Int)) (res (x :: r))) :
    Ev (fun k => L k 0) (res xs) := by
  have h : ∀ d n : Nat, xs.length - n = d → n ≤ xs.length → Ev (fun k => L k (n : Int)) (res (xs.drop n)) := by
    intro d
    induction d with
    | zero =>
      intro n h1 h2
      have : n = xs.length := by omega
      subst this
      rw [List.drop_length]
      exact hend
    | succ d ih =>
      intro n h1 h2
      have hn : n < xs.length := by omega
      have e := List.drop_eq_getElem_cons hn
      rw [e]
      exact hstep n _ _ hn (List.getElem?_eq_getElem hn) e rfl (ih (n + 1) (by omega) (by omega))
  have := h xs.length 0 (by omega) (by omega)
  simpa using this
theorem wrap_in {x : Int} (h0 : -9223372036854775808 ≤ x) (h1 : x ≤ 9223372036854775807) : wrap64 x = x := by unfold wrap64; omega
theorem wrap_nat {n m : Nat} (h : n < m) (hm : m ≤ 9223372036854775807) : wrap64 ((n : Int) + 1) = ((n + 1 : Nat) : Int) := by unfold wrap64; omega
theorem getD_of {α : Type} {xs : List α} {n : Nat} {x d : α} (h : xs[n]? = some x) : xs.getD (n : Int).toNat d = x := by
  simp [List.getD_eq_getElem?_getD, h]
theorem ev_fill {α β : Type} {da : α} {db : β} (L : Nat → List β → Int → Option (List β)) (F : Nat → α → Option β) (xs : List α) (g : α → β) (hl : xs.length ≤ 4611686018427387904)
    (hL : ∀ k ys i, L (k + 1) ys i = if i < (xs.length : Int) then (if 0 ≤ i then ((F k (xs.getD i.toNat da)).bind fun b => if i < (ys.length : Int) then L k (ys.set i.toNat b) (wrap64 (i + 1)) else none) else none) else some ys)
    (hF : ∀ x ∈ xs, Ev (fun k => F k x) (g x)) : Ev (fun k => L k (List.replicate xs.length db) 0) (xs.map g) := by
  have h : ∀ d n : Nat, xs.length - n = d → n ≤ xs.length → Ev (fun k => L k ((xs.take n).map g ++ List.replicate (xs.length - n) db) (n : Int)) (xs.map g) := by
    intro d
    induction d with
    | zero =>
      intro n h1 h2
      have : n = xs.length := by omega
      subst this
      refine Ev.step (fun k => hL k _ _) (ev_neg (by omega) ?_)
      simpa using ev_ret (xs.map g)
    | succ d ih =>
      intro n h1 h2
      have hn : n < xs.length := by omega
      refine Ev.step (fun k => hL k _ _) (ev_pos (by omega) (ev_pos (by omega) ?_))
      have hx := List.getElem?_eq_getElem hn
      rw [getD_of hx]
      refine ev_bind (hF _ (List.getElem_mem hn)) (ev_pos (by simp; omega) ?_)
      rw [wrap_nat hn (by omega)]
      have e : ((xs.take n).map g ++ List.replicate (xs.length - n) db).set (n : Int).toNat (g xs[n]) = (xs.take (n + 1)).map g ++ List.replicate (xs.length - (n + 1)) db := by
        rw [show xs.length - n = (xs.length - (n + 1)) + 1 by omega, List.replicate_succ, List.take_succ_eq_append_getElem hn, List.map_append]
        simp [List.set_append, Nat.min_eq_left (Nat.le_of_lt hn)]
      rw [e]
      exact ih (n + 1) (by omega) (by omega)
  have := h xs.length 0 (by omega) (by omega)
  simpa using this
theorem ev_same {α : Type} {da : α} (L : Nat → Int → Option Bool) (F : Nat → α → α → Option Bool) (xs ys : List α) (hl : xs.length ≤ 4611686018427387904) (hxy : xs = ys)
    (hL : ∀ k i, L (k + 1) i = if i < (xs.length : Int) then (if 0 ≤ i then (if i < (ys.length : Int) then ((F k (xs.getD i.toNat da) (ys.getD i.toNat da)).bind fun t => if t = true then L k (wrap64 (i + 1)) else some false) else none) else none) else some true)
    (hF : ∀ x ∈ xs, Ev (fun k => F k x x) true) : Ev (fun k => L k 0) true := by
  subst hxy
  refine ev_loop L xs (fun _ => true) (Ev.step (fun k => hL k _) (ev_neg (by omega) (ev_ret _))) ?_
  intro n x r hn hx _ _ ih
  refine Ev.step (fun k => hL k _) (ev_pos (by omega) (ev_pos (by omega) (ev_pos (by omega) ?_)))
  rw [getD_of hx]
  refine ev_bind (hF x (List.mem_of_getElem? hx)) (ev_pos rfl ?_)
  rw [wrap_nat hn (by omega)]
  exact ih
def inR (n lo hi : Int) : Bool := decide (lo ≤ n ∧ n ≤ hi)
theorem inR_iff {n lo hi : Int} : inR n lo hi = true ↔ lo ≤ n ∧ n ≤ hi := by simp [inR]
theorem spec_l1In_eq (n lo hi : Int) : spec_l1In.f n lo hi = some (inR n lo hi) := by
  unfold spec_l1In.f inR
  by_cases h : n ≥ lo
  · rw [if_pos h]; congr 1; simp; omega
  · rw [if_neg h]; congr 1; simp; omega
theorem impl_in_eq (n lo hi : Int) : impl_in.f n lo hi = some (inR n lo hi) := by
  unfold impl_in.f inR
  by_cases h : n ≥ lo
  · rw [if_pos h]; congr 1; simp; omega
  · rw [if_neg h]; congr 1; simp; omega
def wantP (op : Int) : Int := if op ≥ 7 then 2 else 1
def kindP (t : ITerm) (ks : List Int) (vars : Int) : Int :=
  if t.f0 = 0 ∧ (inR t.f1 (-9999) 9999 = true ∧ t.f2 = 0 ∧ t.f3 = 0) then 1
  else if t.f0 = 1 ∧ (inR t.f1 0 (vars - 1) = true ∧ t.f2 = 0 ∧ t.f3 = 0) then 1
  else if (inR t.f0 2 9 = true ∧ t.f1 = 0 ∧ inR t.f2 0 (ks.length - 1) = true ∧ inR t.f3 0 (ks.length - 1) = true) ∧ (rd ks t.f2 = wantP t.f0 ∧ rd ks t.f3 = wantP t.f0 ∧ (t.f0 = 7 → t.f3 = t.f2)) then (if t.f0 ≥ 5 then 2 else 1)
  else 0
theorem spec_l1Kind_eq (t : ITerm) (ks : List Int) (vars : Int) (hv : 0 ≤ vars ∧ vars ≤ 5) (hk : ks.length ≤ 40) (m : Nat) : spec_l1Kind.f (m + 6) t.f0 t.f1 t.f2 t.f3 ks vars = some (kindP t ks vars) := by
  have w1 : wrap64 (vars - 1) = vars - 1 := wrap_in (by omega) (by omega)
  have w2 : wrap64 ((ks.length : Int) - 1) = (ks.length : Int) - 1 := wrap_in (by omega) (by omega)
  simp only [spec_l1Kind.f, spec_l1Kind.j0, spec_l1Kind.j1, spec_l1Kind.j2, spec_l1Kind.j3, spec_l1Kind.j4, spec_l1In_eq, spec_l1One.f, Option.bind_some, w1, w2]
  unfold kindP wantP
  cases t with | mk op n a b =>
  dsimp only
  by_cases h0 : op = 0
  · subst h0
    by_cases h : inR n (-9999) 9999 = true ∧ a = 0 ∧ b = 0
    · simp [h.1, h.2.1, h.2.2]
    · have hc : ¬ ((0 : Int) = 0 ∧ (inR n (-9999) 9999 = true ∧ a = 0 ∧ b = 0)) := fun x => h x.2
      rw [if_neg hc]
      have : inR (0 : Int) 2 9 = false := by simp [inR]
      by_cases h1 : inR n (-9999) 9999 = true
      · by_cases h2 : a = 0
        · have h3 : b ≠ 0 := fun e => h ⟨h1, h2, e⟩
          simp [h1, h2, h3, this]
        · simp [h1, h2, this]
      · simp [h1, this]
  · have hc : ¬ (op = 0 ∧ (inR n (-9999) 9999 = true ∧ a = 0 ∧ b = 0)) := fun x => h0 x.1
    rw [if_neg hc, if_neg h0]
    by_cases h1 : op = 1
    · subst h1
      have h29 : inR (1 : Int) 2 9 = false := by simp [inR]
      by_cases h2 : inR n 0 (vars - 1) = true
      · by_cases h3 : a = 0
        · by_cases h4 : b = 0 <;> simp [h2, h3, h4, h29]
        · simp [h2, h3, h29]
      · simp [h2, h29]
    · have hc1 : ¬ (op = 1 ∧ (inR n 0 (vars - 1) = true ∧ a = 0 ∧ b = 0)) := fun x => h1 x.1
      rw [if_neg hc1]
      by_cases g1 : inR op 2 9 = true
      · by_cases g2 : n = 0
        · by_cases g3 : inR a 0 ((ks.length : Int) - 1) = true
          · by_cases g4 : inR b 0 ((ks.length : Int) - 1) = true
            · have ha := inR_iff.1 g3
              have hb := inR_iff.1 g4
              have ha1 : a < (ks.length : Int) := by omega
              have hb1 : b < (ks.length : Int) := by omega
              by_cases g7 : op ≥ 7
              · by_cases r1 : rd ks a = 2
                · by_cases r2 : rd ks b = 2
                  · by_cases o7 : op = 7
                    · subst o7
                      by_cases e : b = a <;> simp [h1, g1, g2, g3, g4, ha.1, hb.1, ha1, hb1, r1, r2, e]
                    · simp [h1, g1, g2, g3, g4, ha.1, hb.1, ha1, hb1, g7, r1, r2, o7]; split <;> rfl
                  · simp [h1, g1, g2, g3, g4, ha.1, hb.1, ha1, hb1, g7, r1, r2]
                · simp [h1, g1, g2, g3, g4, ha.1, hb.1, ha1, hb1, g7, r1]
              · have o7 : op ≠ 7 := by omega
                by_cases r1 : rd ks a = 1
                · by_cases r2 : rd ks b = 1
                  · simp [h1, g1, g2, g3, g4, ha.1, hb.1, ha1, hb1, g7, r1, r2, o7]; split <;> rfl
                  · simp [h1, g1, g2, g3, g4, ha.1, hb.1, ha1, hb1, g7, r1, r2]
                · simp [h1, g1, g2, g3, g4, ha.1, hb.1, ha1, hb1, g7, r1]
            · simp [h1, g1, g2, g3, g4]
          · simp [h1, g1, g2, g3]
        · simp [h1, g1, g2]
      · simp [h1, g1]
def kindsGo (vars : Int) : List ITerm → List Int → List Int
  | [], ks => ks
  | t :: ts, ks => if kindP t ks vars = 0 then [] else kindsGo vars ts (ks ++ [kindP t ks vars])
def kindsOk (l : List ITerm) (vars : Int) : Bool := inR vars 0 5 && inR l.length 1 40
def kindsP (l : List ITerm) (vars : Int) : List Int := if kindsOk l vars = true then kindsGo vars l [] else []
theorem kindsGo_length (vars : Int) : ∀ (l : List ITerm) (ks : List Int), kindsGo vars l ks = [] ∨ (kindsGo vars l ks).length = ks.length + l.length
  | [], ks => .inr (by simp [kindsGo])
  | t :: ts, ks => by
    unfold kindsGo
    split
    · exact .inl rfl
    · rcases kindsGo_length vars ts (ks ++ [kindP t ks vars]) with h | h
      · exact .inl h
      · exact .inr (by rw [h]; simp; omega)
theorem kindsP_length (l : List ITerm) (vars : Int) (h : kindsP l vars ≠ []) : (kindsP l vars).length = l.length ∧ kindsOk l vars = true := by
  unfold kindsP at h ⊢
  split
  · rename_i hk
    rw [if_pos hk] at h
    rcases kindsGo_length vars l [] with h1 | h1
    · exact absurd h1 h
    · exact ⟨by simpa using h1, hk⟩
  · rename_i hk
    rw [if_neg hk] at h
    exact absurd rfl h
theorem spec_KindsOf_ev (l : List ITerm) (vars : Int) : Ev (fun k => spec_KindsOf.f k l vars) (kindsP l vars) := by
  unfold spec_KindsOf.f
  simp only [spec_l1In_eq, Option.bind_some]
  by_cases h1 : inR vars 0 5 = true
  · by_cases h2 : inR (l.length : Int) 1 40 = true
    · have hv := inR_iff.1 h1
      have hl := inR_iff.1 h2
      refine ev_pos h1 (Ev.step (fun k => by rw [spec_KindsOf.j0]) (ev_neg (by simp [h2]) ?_))
      have hP : kindsP l vars = kindsGo vars l [] := by unfold kindsP kindsOk; simp [h1, h2]
      rw [hP]
      have key : ∀ d n : Nat, l.length - n = d → n ≤ l.length → ∀ ks : List Int, ks.length ≤ n → Ev (fun k => spec_KindsOf.l0 k l vars ks (n : Int)) (kindsGo vars (l.drop n) ks) := by
        intro d
        induction d with
        | zero =>
          intro n e1 e2 ks hks
          have : n = l.length := by omega
          subst this
          refine Ev.step (fun k => by rw [spec_KindsOf.l0]) (ev_neg (by omega) ?_)
          rw [List.drop_length]
          exact ev_ret _
        | succ d ih =>
          intro n e1 e2 ks hks
          have hn : n < l.length := by omega
          have hx := List.getElem?_eq_getElem hn
          refine Ev.step (fun k => by rw [spec_KindsOf.l0]) (ev_pos (by omega) (ev_pos (by omega) ?_))
          have hr : rd_ITerm l (n : Int) = l[n] := getD_of hx
          rw [hr]
          have hK : Ev (fun k => spec_l1Kind.f k l[n].f0 l[n].f1 l[n].f2 l[n].f3 ks vars) (kindP l[n] ks vars) :=
            ⟨6, fun k hk => by obtain ⟨m, rfl⟩ : ∃ m, k = m + 6 := ⟨k - 6, by omega⟩; exact spec_l1Kind_eq _ _ _ hv (by omega) m⟩
          refine ev_bind hK ?_
          rw [List.drop_eq_getElem_cons hn]
          unfold kindsGo
          refine ev_ite_eq (fun h => ev_ret _) (fun h => ev_pos (by omega) ?_)
          rw [wrap_nat hn (by omega)]
          exact ih (n + 1) (by omega) (by omega) _ (by simp; omega)
      have := key l.length 0 (by omega) (by omega) [] (by simp)
      simpa using this
    · refine ev_pos h1 (Ev.step (fun k => by rw [spec_KindsOf.j0]) (ev_pos (by simpa using h2) ?_))
      have hP : kindsP l vars = [] := by unfold kindsP kindsOk; simp [h2]
      rw [hP]
      exact ev_ret _
  · refine ev_neg h1 (Ev.step (fun k => by rw [spec_KindsOf.j0]) (ev_pos rfl ?_))
    have hP : kindsP l vars = [] := by unfold kindsP kindsOk; simp [h1]
    rw [hP]
    exact ev_ret _
def partsP (op : Int) : Int × Int × Int :=
  if op = 2 ∨ op = 3 ∨ op = 4 then (2, 1, 1) else if op = 5 ∨ op = 6 then (2, 1, 2) else if op = 7 then (1, 2, 2) else if op = 8 ∨ op = 9 then (2, 2, 2) else (0, 0, 1)
theorem impl_parts_eq (op : Int) (m : Nat) : impl_parts.f (m + 3) op = some (partsP op) := by
  simp only [impl_parts.f, impl_parts.j0, impl_parts.j1, impl_parts.j2]
  unfold partsP
  by_cases h2 : op = 2
  · subst h2; simp
  by_cases h3 : op = 3
  · subst h3; simp
  by_cases h4 : op = 4
  · subst h4; simp
  by_cases h5 : op = 5
  · subst h5; simp
  by_cases h6 : op = 6
  · subst h6; simp
  by_cases h7 : op = 7
  · subst h7; simp
  by_cases h8 : op = 8
  · subst h8; simp
  by_cases h9 : op = 9
  · subst h9; simp
  simp [h2, h3, h4, h5, h6, h7, h8, h9]
theorem impl_parts_ev (op : Int) : Ev (fun k => impl_parts.f k op) (partsP op) := ⟨3, fun k hk => by obtain ⟨m, rfl⟩ : ∃ m, k = m + 3 := ⟨k - 3, by omega⟩; exact impl_parts_eq op m⟩
theorem partsP_low (op : Int) (h : op = 0 ∨ op = 1) : (partsP op).2.2 = 1 := by
  rcases h with rfl | rfl <;> simp [partsP]
theorem partsP_high (op : Int) (h : inR op 2 9 = true) : (partsP op).2.1 = wantP op ∧ (partsP op).2.2 = (if op ≥ 5 then 2 else 1) ∧ ((partsP op).1 = 2 ↔ op ≠ 7) := by
  have := inR_iff.1 h
  obtain ⟨a, b⟩ := this
  have : op = 2 ∨ op = 3 ∨ op = 4 ∨ op = 5 ∨ op = 6 ∨ op = 7 ∨ op = 8 ∨ op = 9 := by omega
  rcases this with rfl | rfl | rfl | rfl | rfl | rfl | rfl | rfl <;> simp [partsP, wantP]
theorem kindsGo_step {vars : Int} {t : ITerm} {ts : List ITerm} {ks : List Int} {r : Int} (h : kindP t ks vars = r) (hr : r ≠ 0) : kindsGo vars (t :: ts) ks = kindsGo vars ts (ks ++ [r]) := by
  rw [kindsGo, h, if_neg hr]
theorem kindsGo_none {vars : Int} {t : ITerm} {ts : List ITerm} {ks : List Int} (h : kindP t ks vars = 0) : kindsGo vars (t :: ts) ks = [] := by
  rw [kindsGo, if_pos h]
theorem impl_kindsOf_ev (l : List ITerm) (vars : Int) : Ev (fun k => impl_kindsOf.f k l vars) (kindsP l vars) := by
  unfold impl_kindsOf.f
  simp only [impl_in_eq, Option.bind_some]
  by_cases h1 : inR vars 0 5 = true
  · by_cases h2 : inR (l.length : Int) 1 40 = true
    · have hv := inR_iff.1 h1
      have hl := inR_iff.1 h2
      refine ev_pos h1 (Ev.step (fun k => by rw [impl_kindsOf.j0]) (ev_neg (by simp [h2]) (ev_pos (by omega) (ev_pos (by omega) ?_))))
      have hP : kindsP l vars = kindsGo vars l [] := by unfold kindsP kindsOk; simp [h1, h2]
      rw [hP]
      have w1 : wrap64 (vars - 1) = vars - 1 := wrap_in (by omega) (by omega)
      have key : ∀ d n : Nat, l.length - n = d → n ≤ l.length → ∀ ks : List Int, ks.length = n → Ev (fun k => impl_kindsOf.l0 k vars ks l (l.length : Int) (n : Int)) (kindsGo vars (l.drop n) ks) := by
        intro d
        induction d with
        | zero =>
          intro n e1 e2 ks hks
          have : n = l.length := by omega
          subst this
          refine Ev.step (fun k => by rw [impl_kindsOf.l0]) (ev_neg (by omega) (ev_pos (by omega) ?_))
          rw [List.drop_length]
          exact ev_ret _
        | succ d ih =>
          intro n e1 e2 ks hks
          have hn : n < l.length := by omega
          have hx := List.getElem?_eq_getElem hn
          refine Ev.step (fun k => by rw [impl_kindsOf.l0]) (ev_pos (by omega) (ev_pos (by omega) (ev_pos (by omega) ?_)))
          have hr : rd_ITerm l (n : Int) = l[n] := getD_of hx
          rw [hr, List.drop_eq_getElem_cons hn]
          generalize l[n] = t
          have w2 : wrap64 ((n : Int) - 1) = (ks.length : Int) - 1 := by rw [hks]; exact wrap_in (by omega) (by omega)
          have J : ∀ (r : Int) (b : Bool), (b = true → kindP t ks vars = r ∧ r ≠ 0) → (b = false → kindP t ks vars = 0) → Ev (fun k => impl_kindsOf.j2 k vars ks r b l (l.length : Int) (n : Int)) (kindsGo vars (t :: l.drop (n + 1)) ks) := by
            intro r b h1 h2
            refine Ev.step (fun k => by rw [impl_kindsOf.j2]) ?_
            cases b with
            | true =>
              obtain ⟨h, hr⟩ := h1 rfl
              refine ev_pos rfl (ev_pos (by omega) ?_)
              rw [wrap_nat hn (by omega), kindsGo_step h hr]
              exact ih (n + 1) (by omega) (by omega) _ (by simp; omega)
            | false => exact ev_neg (by simp) (by rw [kindsGo_none (h2 rfl)]; exact ev_ret _)
          refine ev_bind (impl_parts_ev t.f0) ?_
          simp only [impl_in_eq, Option.bind_some, w1, w2]
          cases t with | mk op n' a b =>
          dsimp only at J ⊢
          have stop : ∀ r : Int, kindP ⟨op, n', a, b⟩ ks vars = 0 → Ev (fun k => impl_kindsOf.j2 k vars ks r false l (l.length : Int) (n : Int)) (kindsGo vars (⟨op, n', a, b⟩ :: l.drop (n + 1)) ks) := fun r h => J r false (fun e => by cases e) (fun _ => h)
          by_cases h0 : op = 0
          · refine ev_pos h0 ?_
            have hp := partsP_low op (.inl h0)
            have z : inR op 2 9 = false := by subst h0; simp [inR]
            by_cases g1 : inR n' (-9999) 9999 = true
            · by_cases g2 : a = 0
              · refine ev_pos g1 (ev_pos g2 (J _ _ (fun e => ?_) (fun e => ?_)))
                · rw [hp]
                  exact ⟨by unfold kindP; rw [if_pos ⟨h0, g1, g2, by simpa using e⟩], by decide⟩
                · have g3 : b ≠ 0 := by simpa using e
                  subst h0; simp [kindP, g3, z]
              · exact ev_pos g1 (ev_neg g2 (stop _ (by subst h0; simp [kindP, g2, z])))
            · exact ev_neg g1 (stop _ (by subst h0; simp [kindP, g1, z]))
          · refine ev_neg h0 ?_
            by_cases h1' : op = 1
            · refine ev_pos h1' ?_
              have hp := partsP_low op (.inr h1')
              have z : inR op 2 9 = false := by subst h1'; simp [inR]
              by_cases g1 : inR n' 0 (vars - 1) = true
              · by_cases g2 : a = 0
                · refine ev_pos g1 (ev_pos g2 (J _ _ (fun e => ?_) (fun e => ?_)))
                  · rw [hp]
                    exact ⟨by unfold kindP; rw [if_neg (fun x => h0 x.1), if_pos ⟨h1', g1, g2, by simpa using e⟩], by decide⟩
                  · have g3 : b ≠ 0 := by simpa using e
                    subst h1'; simp [kindP, g3, z]
                · exact ev_pos g1 (ev_neg g2 (stop _ (by subst h1'; simp [kindP, g2, z])))
              · exact ev_neg g1 (stop _ (by subst h1'; simp [kindP, g1, z]))
            · refine ev_neg h1' ?_
              have c0 : ∀ P : Prop, ¬ (op = 0 ∧ P) := fun P x => h0 x.1
              have c1 : ∀ P : Prop, ¬ (op = 1 ∧ P) := fun P x => h1' x.1
              by_cases g0 : inR op 0 9 = true
              · have g29 : inR op 2 9 = true := by have := inR_iff.1 g0; exact inR_iff.2 (by omega)
                obtain ⟨p1, p2, p3⟩ := partsP_high op g29
                refine ev_pos g0 ?_
                rw [p1]
                by_cases g1 : n' = 0
                · refine ev_pos g1 ?_
                  by_cases g2 : inR a 0 ((ks.length : Int) - 1) = true
                  · refine ev_pos g2 ?_
                    by_cases g3 : inR b 0 ((ks.length : Int) - 1) = true
                    · have ha := inR_iff.1 g2
                      have hb := inR_iff.1 g3
                      refine ev_pos g3 (ev_pos ha.1 (ev_pos (by omega) ?_))
                      by_cases g4 : rd ks a = wantP op
                      · refine ev_pos g4 (ev_pos hb.1 (ev_pos (by omega) ?_))
                        by_cases g5 : rd ks b = wantP op
                        · refine ev_pos g5 ?_
                          have hres : (op = 7 → b = a) → kindP ⟨op, n', a, b⟩ ks vars = (partsP op).2.2 := fun e => by
                            unfold kindP
                            dsimp only
                            rw [if_neg (c0 _), if_neg (c1 _), if_pos ⟨⟨g29, g1, g2, g3⟩, g4, g5, e⟩, p2]
                          have hne : (partsP op).2.2 ≠ 0 := by rw [p2]; split <;> decide
                          by_cases g6 : (partsP op).1 = 2
                          · exact ev_pos g6 (J _ _ (fun _ => ⟨hres (fun e => absurd e (p3.1 g6)), hne⟩) (fun e => by cases e))
                          · have e7 : op = 7 := by
                              by_cases e : op = 7
                              · exact e
                              · exact absurd (p3.2 e) g6
                            refine ev_neg g6 (J _ _ (fun e => ⟨hres (fun _ => (beq_iff_eq.1 e).symm), hne⟩) (fun e => ?_))
                            have g7 : a ≠ b := beq_eq_false_iff_ne.1 e
                            unfold kindP
                            dsimp only
                            rw [if_neg (c0 _), if_neg (c1 _), if_neg (fun x => g7 (x.2.2.2 e7).symm)]
                        · refine ev_neg g5 (stop _ ?_)
                          unfold kindP
                          dsimp only
                          rw [if_neg (c0 _), if_neg (c1 _), if_neg (fun x => g5 x.2.2.1)]
                      · refine ev_neg g4 (stop _ ?_)
                        unfold kindP
                        dsimp only
                        rw [if_neg (c0 _), if_neg (c1 _), if_neg (fun x => g4 x.2.1)]
                    · refine ev_neg g3 (stop _ ?_)
                      unfold kindP
                      dsimp only
                      rw [if_neg (c0 _), if_neg (c1 _), if_neg (fun x => g3 x.1.2.2.2)]
                  · refine ev_neg g2 (stop _ ?_)
                    unfold kindP
                    dsimp only
                    rw [if_neg (c0 _), if_neg (c1 _), if_neg (fun x => g2 x.1.2.2.1)]
                · refine ev_neg g1 (stop _ ?_)
                  unfold kindP
                  dsimp only
                  rw [if_neg (c0 _), if_neg (c1 _), if_neg (fun x => g1 x.1.2.1)]
              · have gf : inR op 0 9 = false := by simpa using g0
                refine ev_neg g0 ?_
                rw [gf]
                refine stop _ ?_
                unfold kindP
                dsimp only
                rw [if_neg (c0 _), if_neg (c1 _), if_neg (fun x => g0 (by have := inR_iff.1 x.1.1; exact inR_iff.2 (by omega)))]
      have := key l.length 0 (by omega) (by omega) [] (by simp)
      simpa using this
    · refine ev_pos h1 (Ev.step (fun k => by rw [impl_kindsOf.j0]) (ev_pos (by simpa using h2) ?_))
      have hP : kindsP l vars = [] := by unfold kindsP kindsOk; simp [h2]
      rw [hP]
      exact ev_ret _
  · refine ev_neg h1 (Ev.step (fun k => by rw [impl_kindsOf.j0]) (ev_pos rfl ?_))
    have hP : kindsP l vars = [] := by unfold kindsP kindsOk; simp [h1]
    rw [hP]
    exact ev_ret _
def kindOfP (l : List ITerm) (vars : Int) : Int := if kindsP l vars = [] then 0 else rd (kindsP l vars) (((kindsP l vars).length : Int) - 1)
theorem kindsP_le (l : List ITerm) (vars : Int) : (kindsP l vars).length ≤ 40 := by
  by_cases h : kindsP l vars = []
  · rw [h]; simp
  · obtain ⟨h1, h2⟩ := kindsP_length l vars h
    unfold kindsOk at h2
    have := inR_iff.1 (Bool.and_eq_true_iff.1 h2).2
    omega
theorem impl_kindOf_ev (l : List ITerm) (vars : Int) : Ev (fun k => impl_kindOf.f k l vars) (kindOfP l vars) := by
  unfold impl_kindOf.f kindOfP
  refine ev_bind (impl_kindsOf_ev l vars) ?_
  have hle := kindsP_le l vars
  refine ev_ite_eq (fun h => ev_ret _) (fun h => ?_)
  have hp : 0 < (kindsP l vars).length := List.length_pos_iff.2 h
  have w : wrap64 (((kindsP l vars).length : Int) - 1) = ((kindsP l vars).length : Int) - 1 := wrap_in (by omega) (by omega)
  rw [w]
  exact ev_pos (by omega) (ev_pos (by omega) (ev_ret _))
theorem spec_l2Is_ev (l : List ITerm) (vars kind : Int) (hk : kind ≠ 0) : Ev (fun k => spec_l2Is.f k l vars kind) (kindOfP l vars == kind) := by
  unfold spec_l2Is.f
  refine ev_bind (spec_KindsOf_ev l vars) ?_
  have hle := kindsP_le l vars
  by_cases h : kindsP l vars = []
  · have e : kindOfP l vars = 0 := by unfold kindOfP; rw [if_pos h]
    rw [e, show ((0 : Int) == kind) = false from by simpa using (Ne.symm hk)]
    exact ev_neg (by rw [h]; simp) (ev_ret _)
  · have e : kindOfP l vars = rd (kindsP l vars) (((kindsP l vars).length : Int) - 1) := by unfold kindOfP; rw [if_neg h]
    have hp : 0 < (kindsP l vars).length := List.length_pos_iff.2 h
    have w : wrap64 (((kindsP l vars).length : Int) - 1) = ((kindsP l vars).length : Int) - 1 := wrap_in (by omega) (by omega)
    rw [w, e]
    exact ev_pos (by omega) (ev_pos (by omega) (ev_pos (by omega) (ev_ret _)))
def varP (v : IVar) : Bool := inR v.f0 (-9999) 9999 && (inR v.f1 v.f0 9999 && (decide (v.f1 - v.f0 < 20) && inR v.f2 v.f0 v.f1))
theorem span_wrap {v : IVar} (h0 : inR v.f0 (-9999) 9999 = true) (h1 : inR v.f1 v.f0 9999 = true) : wrap64 (v.f1 - v.f0) = v.f1 - v.f0 := by
  have := inR_iff.1 h0; have := inR_iff.1 h1
  exact wrap_in (by omega) (by omega)
theorem spec_l2Var_eq (v : IVar) : spec_l2Var.f v.f0 v.f1 v.f2 = some (varP v) := by
  unfold spec_l2Var.f varP
  simp only [spec_l1In_eq, Option.bind_some]
  by_cases h0 : inR v.f0 (-9999) 9999 = true
  · by_cases h1 : inR v.f1 v.f0 9999 = true
    · rw [span_wrap h0 h1]
      by_cases h2 : v.f1 - v.f0 < 20 <;> simp [h0, h1, h2]
    · simp [h0, h1]
  · simp [h0]
theorem impl_varOk_eq (v : IVar) : impl_varOk.f v.f0 v.f1 v.f2 = some (varP v) := by
  unfold impl_varOk.f varP
  simp only [impl_in_eq, Option.bind_some]
  by_cases h0 : inR v.f0 (-9999) 9999 = true
  · by_cases h1 : inR v.f1 v.f0 9999 = true
    · rw [span_wrap h0 h1]
      by_cases h2 : v.f1 - v.f0 < 20 <;> simp [h0, h1, h2]
    · simp [h0, h1]
  · simp [h0]
theorem varP_span {v : IVar} (h : varP v = true) : -9999 ≤ v.f0 ∧ v.f0 ≤ v.f2 ∧ v.f2 ≤ v.f1 ∧ v.f1 ≤ 9999 ∧ v.f1 - v.f0 < 20 := by
  unfold varP at h
  simp only [Bool.and_eq_true, inR_iff, decide_eq_true_eq] at h
  omega
def setsGo (vars : Int) (sets : List Int) (terms : List (List ITerm)) (n : Nat) : List Int → Bool
  | [] => true
  | x :: r => inR x 0 (vars - 1) && (!(decide (0 < n) && decide (x ≤ sets.getD (n - 1) 0)) && (kindOfP (terms.getD n []) vars == 1 && setsGo vars sets terms (n + 1) r))
def ruleP (r : IRule) (vars : Int) : Bool := kindOfP r.f0 vars == 2 && (decide (r.f1.length = r.f2.length) && setsGo vars r.f1 r.f2 0 r.f1)
theorem setsGo_bound {vars : Int} {sets : List Int} {terms : List (List ITerm)} : ∀ (r : List Int) (n : Nat), sets.drop n = r → setsGo vars sets terms n r = true →
    ∀ i, n ≤ i → i < sets.length → inR (sets.getD i 0) 0 (vars - 1) = true ∧ (0 < i → sets.getD (i - 1) 0 < sets.getD i 0) ∧ kindOfP (terms.getD i []) vars = 1
  | [], n, h, _, i, h1, h2 => by
    have := congrArg List.length h
    simp at this
    omega
  | x :: r, n, h, hs, i, h1, h2 => by
    unfold setsGo at hs
    simp only [Bool.and_eq_true, Bool.not_eq_true', Bool.and_eq_false_iff, decide_eq_false_iff_not, beq_iff_eq] at hs
    obtain ⟨a, b, c, d⟩ := hs
    have hn : n < sets.length := by omega
    have hx : sets.getD n 0 = x := by
      rw [List.drop_eq_getElem_cons hn] at h
      injection h with h3 h4
      rw [List.getD_eq_getElem?_getD, List.getElem?_eq_getElem hn]
      exact h3
    have hr : sets.drop (n + 1) = r := by
      rw [List.drop_eq_getElem_cons hn] at h
      injection h
    by_cases e : i = n
    · subst e
      rw [hx]
      exact ⟨a, fun hp => by rcases b with b | b <;> omega, c⟩
    · exact setsGo_bound r (n + 1) hr d i (by omega) h2
theorem setsGo_len {vars : Int} {sets : List Int} {terms : List (List ITerm)} (h : setsGo vars sets terms 0 sets = true) (hv : 0 ≤ vars) : (sets.length : Int) ≤ vars := by
  have hb := setsGo_bound sets 0 rfl h
  have up : ∀ i : Nat, i < sets.length → (i : Int) ≤ sets.getD i 0 := by
    intro i
    induction i with
    | zero => intro hi; exact (inR_iff.1 (hb 0 (by omega) hi).1).1
    | succ i ih =>
      intro hi
      have h1 := (hb (i + 1) (by omega) hi).2.1 (by omega)
      have h2 := ih (by omega)
      simp only [Nat.add_sub_cancel] at h1
      omega
  by_cases e : sets.length = 0
  · omega
  · have h1 := up (sets.length - 1) (by omega)
    have h2 := (inR_iff.1 (hb (sets.length - 1) (by omega) (by omega)).1).2
    omega
theorem spec_l2Rule_ev (r : IRule) (vars : Int) (hv : 0 ≤ vars ∧ vars ≤ 5) : Ev (fun k => spec_l2Rule.f k r.f0 r.f1 r.f2 vars) (ruleP r vars) := by
  unfold spec_l2Rule.f ruleP
  refine ev_bind (spec_l2Is_ev r.f0 vars 2 (by decide)) ?_
  by_cases h0 : (kindOfP r.f0 vars == 2) = true
  · rw [h0]
    refine ev_pos rfl ?_
    by_cases h1 : r.f1.length = r.f2.length
    · refine ev_pos (by omega) (Ev.step (fun k => by rw [spec_l2Rule.j0]) ?_)
      by_cases h2 : (r.f1.length : Int) > vars
      · refine ev_pos (by simpa using h2) (ev_eq (ev_ret _) ?_)
        cases hs : setsGo vars r.f1 r.f2 0 r.f1 with
        | true => have := setsGo_len hs hv.1; omega
        | false => simp
      · refine ev_neg (by simpa using h2) ?_
        rw [show (decide (r.f1.length = r.f2.length) && setsGo vars r.f1 r.f2 0 r.f1) = setsGo vars r.f1 r.f2 0 r.f1 from by simp [h1]]
        simp only [Bool.true_and]
        have key : ∀ d n : Nat, r.f1.length - n = d → n ≤ r.f1.length → Ev (fun k => spec_l2Rule.l0 k vars (n : Int) r.f0 r.f1 r.f2) (setsGo vars r.f1 r.f2 n (r.f1.drop n)) := by
          intro d
          induction d with
          | zero =>
            intro n e1 e2
            have : n = r.f1.length := by omega
            subst this
            rw [List.drop_length]
            refine Ev.step (fun k => by rw [spec_l2Rule.l0]) ?_
            exact ev_neg (by omega) (ev_ret _)
          | succ d ih =>
            intro n e1 e2
            have hn : n < r.f1.length := by omega
            have hx := List.getElem?_eq_getElem hn
            have hrd : rd r.f1 (n : Int) = r.f1[n] := getD_of hx
            rw [List.drop_eq_getElem_cons hn]
            unfold setsGo
            refine Ev.step (fun k => by rw [spec_l2Rule.l0]) (ev_pos (by omega) (ev_pos (by omega) ?_))
            have w1 : wrap64 (vars - 1) = vars - 1 := wrap_in (by omega) (by omega)
            simp only [spec_l1In_eq, Option.bind_some, w1, hrd]
            generalize hX : r.f1[n] = x
            have J : ∀ b : Bool, Ev (fun k => spec_l2Rule.j2 k vars (n : Int) b r.f0 r.f1 r.f2) (!b && setsGo vars r.f1 r.f2 (n + 1) (r.f1.drop (n + 1))) := by
              intro b
              refine Ev.step (fun k => by rw [spec_l2Rule.j2]) ?_
              cases b with
              | true => exact ev_pos rfl (ev_eq (ev_ret _) (by simp))
              | false =>
                refine ev_neg (by simp) ?_
                rw [wrap_nat hn (by omega)]
                exact ev_eq (ih (n + 1) (by omega) (by omega)) (by simp)
            have htail : Ev (fun k => if (n : Int) < (r.f2.length : Int) then (spec_l2Is.f k (rd_LITerm r.f2 n) vars 1).bind fun t => spec_l2Rule.j2 k vars (n : Int) (!t) r.f0 r.f1 r.f2 else none)
                (kindOfP (r.f2.getD n []) vars == 1 && setsGo vars r.f1 r.f2 (n + 1) (r.f1.drop (n + 1))) := by
              refine ev_pos (by omega) (ev_bind (spec_l2Is_ev _ vars 1 (by decide)) ?_)
              rw [show rd_LITerm r.f2 (n : Int) = r.f2.getD n [] from rfl]
              exact ev_eq (J _) (by rw [Bool.not_not])
            by_cases g0 : inR x 0 (vars - 1) = true
            · refine ev_pos g0 ?_
              by_cases g1 : 0 < n
              · have w2 : wrap64 ((n : Int) - 1) = ((n - 1 : Nat) : Int) := by rw [wrap_in (by omega) (by omega)]; omega
                refine ev_pos (by omega) ?_
                rw [w2]
                refine ev_pos (by omega) (ev_pos (by omega) ?_)
                rw [show rd r.f1 ((n - 1 : Nat) : Int) = r.f1.getD (n - 1) 0 from rfl]
                generalize r.f1.getD (n - 1) 0 = y
                by_cases g2 : x ≤ y
                · exact ev_pos g2 (ev_eq (J true) (by simp [g0, g1, g2]))
                · exact ev_neg g2 (ev_eq htail (by simp [g0, g1, g2]))
              · exact ev_neg (by omega) (ev_eq htail (by simp [g0, g1]))
            · exact ev_neg g0 (ev_eq (J true) (by simp [g0]))
        have := key r.f1.length 0 (by omega) (by omega)
        simpa using this
    · refine ev_neg (by omega) (Ev.step (fun k => by rw [spec_l2Rule.j0]) ?_)
      exact ev_pos rfl (ev_eq (ev_ret _) (by simp [h1]))
  · rw [show (kindOfP r.f0 vars == 2) = false from by simpa using h0]
    refine ev_neg (by simp) (Ev.step (fun k => by rw [spec_l2Rule.j0]) ?_)
    exact ev_pos rfl (ev_eq (ev_ret _) (by simp))
theorem impl_ruleOk_ev (r : IRule) (vars : Int) (hv : 0 ≤ vars ∧ vars ≤ 5) (hl : r.f1.length ≤ 9223372036854775807) : Ev (fun k => impl_ruleOk.f k r.f0 r.f1 r.f2 vars) (ruleP r vars) := by
  unfold impl_ruleOk.f ruleP
  refine ev_bind (impl_kindOf_ev r.f0 vars) ?_
  by_cases h0 : kindOfP r.f0 vars = 2
  · refine ev_pos h0 ?_
    rw [show (kindOfP r.f0 vars == 2) = true from by simpa using h0]
    by_cases h1 : r.f1.length = r.f2.length
    · refine Ev.step (fun k => by rw [impl_ruleOk.j0]) (ev_neg (by simp [h1]) ?_)
      rw [show (decide (r.f1.length = r.f2.length) && setsGo vars r.f1 r.f2 0 r.f1) = setsGo vars r.f1 r.f2 0 r.f1 from by simp [h1]]
      simp only [Bool.true_and]
      have w1 : wrap64 (vars - 1) = vars - 1 := wrap_in (by omega) (by omega)
      have key : ∀ d n : Nat, r.f1.length - n = d → n ≤ r.f1.length → Ev (fun k => impl_ruleOk.l0 k vars r.f1 (r.f1.length : Int) (n : Int) r.f0 r.f1 r.f2) (setsGo vars r.f1 r.f2 n (r.f1.drop n)) := by
        intro d
        induction d with
        | zero =>
          intro n e1 e2
          have : n = r.f1.length := by omega
          subst this
          rw [List.drop_length]
          refine Ev.step (fun k => by rw [impl_ruleOk.l0]) ?_
          exact ev_neg (by omega) (ev_ret _)
        | succ d ih =>
          intro n e1 e2
          have hn : n < r.f1.length := by omega
          have hx := List.getElem?_eq_getElem hn
          have hrd : rd r.f1 (n : Int) = r.f1[n] := getD_of hx
          rw [List.drop_eq_getElem_cons hn]
          unfold setsGo
          refine Ev.step (fun k => by rw [impl_ruleOk.l0]) (ev_pos (by omega) (ev_pos (by omega) (ev_pos (by omega) ?_)))
          simp only [impl_in_eq, Option.bind_some, w1, hrd]
          generalize hX : r.f1[n] = x
          have J : ∀ b : Bool, Ev (fun k => impl_ruleOk.j2 k vars r.f1 (r.f1.length : Int) (n : Int) b r.f0 r.f1 r.f2) (!b && setsGo vars r.f1 r.f2 (n + 1) (r.f1.drop (n + 1))) := by
            intro b
            refine Ev.step (fun k => by rw [impl_ruleOk.j2]) ?_
            cases b with
            | true => exact ev_pos rfl (ev_eq (ev_ret _) (by simp))
            | false =>
              refine ev_neg (by simp) ?_
              rw [wrap_nat hn (by omega)]
              exact ev_eq (ih (n + 1) (by omega) (by omega)) (by simp)
          have htail : Ev (fun k => if (n : Int) < (r.f2.length : Int) then (impl_kindOf.f k (rd_LITerm r.f2 n) vars).bind fun t => impl_ruleOk.j2 k vars r.f1 (r.f1.length : Int) (n : Int) (t != 1) r.f0 r.f1 r.f2 else none)
              (kindOfP (r.f2.getD n []) vars == 1 && setsGo vars r.f1 r.f2 (n + 1) (r.f1.drop (n + 1))) := by
            refine ev_pos (by omega) (ev_bind (impl_kindOf_ev _ vars) ?_)
            rw [show rd_LITerm r.f2 (n : Int) = r.f2.getD n [] from rfl]
            exact ev_eq (J _) (by simp only [bne, Bool.not_not])
          by_cases g0 : inR x 0 (vars - 1) = true
          · refine ev_pos g0 ?_
            by_cases g1 : 0 < n
            · have w2 : wrap64 ((n : Int) - 1) = ((n - 1 : Nat) : Int) := by rw [wrap_in (by omega) (by omega)]; omega
              refine ev_pos (by omega) ?_
              rw [w2]
              refine ev_pos (by omega) (ev_pos (by omega) ?_)
              rw [show rd r.f1 ((n - 1 : Nat) : Int) = r.f1.getD (n - 1) 0 from rfl]
              generalize r.f1.getD (n - 1) 0 = y
              by_cases g2 : x ≤ y
              · exact ev_pos (by omega) (ev_eq (J true) (by simp [g0, g1, g2]))
              · exact ev_neg (by omega) (ev_eq htail (by simp [g0, g1, g2]))
            · exact ev_neg (by omega) (ev_eq htail (by simp [g0, g1]))
          · exact ev_neg g0 (ev_eq (J true) (by simp [g0]))
      have := key r.f1.length 0 (by omega) (by omega)
      simpa using this
    · refine Ev.step (fun k => by rw [impl_ruleOk.j0]) ?_
      exact ev_pos (by simp; omega) (ev_eq (ev_ret _) (by simp [h1]))
  · rw [show (kindOfP r.f0 vars == 2) = false from by simpa using h0]
    refine ev_neg h0 (Ev.step (fun k => by rw [impl_ruleOk.j0]) ?_)
    exact ev_pos rfl (ev_eq (ev_ret _) (by simp))
def spanP (v : IVar) : Int := v.f1 - v.f0 + 1
def sizeGo : List IVar → Int → Int
  | [], n => n
  | v :: r, n => sizeGo r (wrap64 (n * wrap64 (wrap64 (v.f1 - v.f0) + 1)))
def sizeP (vars : List IVar) : Int := sizeGo vars 1
theorem impl_size_ev (vars : List IVar) (hl : vars.length ≤ 9223372036854775807) : Ev (fun k => impl_size.f k vars) (sizeP vars) := by
  unfold impl_size.f sizeP
  have key : ∀ d n : Nat, vars.length - n = d → n ≤ vars.length → ∀ a : Int, Ev (fun k => impl_size.l0 k a vars (vars.length : Int) (n : Int)) (sizeGo (vars.drop n) a) := by
    intro d
    induction d with
    | zero =>
      intro n e1 e2 a
      have : n = vars.length := by omega
      subst this
      rw [List.drop_length]
      refine Ev.step (fun k => by rw [impl_size.l0]) ?_
      exact ev_neg (by omega) (ev_ret _)
    | succ d ih =>
      intro n e1 e2 a
      have hn : n < vars.length := by omega
      have hr : rd_IVar vars (n : Int) = vars[n] := getD_of (List.getElem?_eq_getElem hn)
      rw [List.drop_eq_getElem_cons hn]
      unfold sizeGo
      refine Ev.step (fun k => by rw [impl_size.l0]) ?_
      refine ev_pos (by omega) (ev_pos (by omega) (ev_pos (by omega) ?_))
      rw [hr, wrap_nat hn (by omega)]
      exact ih (n + 1) (by omega) (by omega) _
  have := key vars.length 0 (by omega) (by omega) 1
  simpa using this
def smallP (n : Int) : Bool := decide (n ≤ 400)
def sysP (vars : List IVar) (rules : List IRule) : Bool :=
  inR vars.length 1 5 && (decide (rules.length ≤ 8) && (vars.all varP && (rules.all (fun r => ruleP r vars.length) && smallP (sizeP vars))))
theorem spec_SystemValid_ev (vars : List IVar) (rules : List IRule) : Ev (fun k => spec_SystemValid.f k vars rules) (sysP vars rules) := by
  unfold spec_SystemValid.f sysP
  simp only [spec_l1In_eq, Option.bind_some]
  by_cases h1 : inR (vars.length : Int) 1 5 = true
  · have hv := inR_iff.1 h1
    refine ev_pos h1 (Ev.step (fun k => by rw [spec_SystemValid.j0]) ?_)
    by_cases h2 : rules.length ≤ 8
    · refine ev_neg (by simp; omega) ?_
      have rulesKey : ∀ (n0 : Int) (d n : Nat), rules.length - n = d → n ≤ rules.length → Ev (fun k => spec_SystemValid.l1 k n0 (n : Int) vars rules) ((rules.drop n).all (fun r => ruleP r vars.length) && smallP n0) := by
        intro n0 d
        induction d with
        | zero =>
          intro n e1 e2
          have : n = rules.length := by omega
          subst this
          rw [List.drop_length]
          refine Ev.step (fun k => by rw [spec_SystemValid.l1]) ?_
          exact ev_neg (by omega) (ev_eq (ev_ret _) (by simp [smallP]))
        | succ d ih =>
          intro n e1 e2
          have hn : n < rules.length := by omega
          have hr : rd_IRule rules (n : Int) = rules[n] := getD_of (List.getElem?_eq_getElem hn)
          rw [List.drop_eq_getElem_cons hn, List.all_cons]
          refine Ev.step (fun k => by rw [spec_SystemValid.l1]) ?_
          refine ev_pos (by omega) (ev_pos (by omega) ?_)
          rw [hr, wrap_nat hn (by omega)]
          refine ev_bind (spec_l2Rule_ev rules[n] (vars.length : Int) (by omega)) ?_
          cases hq : ruleP rules[n] (vars.length : Int) with
          | true => exact ev_pos rfl (ev_eq (ih (n + 1) (by omega) (by omega)) (by simp))
          | false => exact ev_neg (by simp) (ev_eq (ev_ret _) (by simp))
      have varsKey : ∀ d n : Nat, vars.length - n = d → n ≤ vars.length → ∀ a : Int, Ev (fun k => spec_SystemValid.l0 k a (n : Int) vars rules) ((vars.drop n).all varP && (rules.all (fun r => ruleP r vars.length) && smallP (sizeGo (vars.drop n) a))) := by
        intro d
        induction d with
        | zero =>
          intro n e1 e2 a
          have : n = vars.length := by omega
          subst this
          rw [List.drop_length]
          refine Ev.step (fun k => by rw [spec_SystemValid.l0]) ?_
          refine ev_neg (by omega) ?_
          have := rulesKey a rules.length 0 (by omega) (by omega)
          simpa [sizeGo] using this
        | succ d ih =>
          intro n e1 e2 a
          have hn : n < vars.length := by omega
          have hr : rd_IVar vars (n : Int) = vars[n] := getD_of (List.getElem?_eq_getElem hn)
          rw [List.drop_eq_getElem_cons hn, List.all_cons]
          refine Ev.step (fun k => by rw [spec_SystemValid.l0]) ?_
          refine ev_pos (by omega) (ev_pos (by omega) ?_)
          rw [hr, wrap_nat hn (by omega), spec_l2Var_eq]
          simp only [Option.bind_some]
          cases hq : varP vars[n] with
          | true => exact ev_pos rfl (ev_eq (ih (n + 1) (by omega) (by omega) _) (by simp [sizeGo]))
          | false => exact ev_neg (by simp) (ev_eq (ev_ret _) (by simp))
      have := varsKey vars.length 0 (by omega) (by omega) 1
      simpa [h1, h2, sizeP] using this
    · exact ev_pos (by simp; omega) (ev_eq (ev_ret _) (by simp [h2]))
  · refine ev_neg h1 (Ev.step (fun k => by rw [spec_SystemValid.j0]) ?_)
    exact ev_pos rfl (ev_eq (ev_ret _) (by simp [h1]))
theorem find_ev {α : Type} {da : α} (L : Nat → Int → Option Int) (F : Nat → α → Option Bool) (xs : List α) (p : α → Bool) (hl : xs.length ≤ 9223372036854775807)
    (hL : ∀ k i, L (k + 1) i = if i < (xs.length : Int) then (if 0 ≤ i then (if i < (xs.length : Int) then ((F k (xs.getD i.toNat da)).bind fun t => if t = true then some i else L k (wrap64 (i + 1))) else none) else none) else some (-1))
    (hF : ∀ x ∈ xs, Ev (fun k => F k x) (p x)) : Ev (fun k => (L k 0).bind fun t => some (decide (t ≥ 0))) (xs.any p) := by
  have key : ∀ d n : Nat, xs.length - n = d → n ≤ xs.length → Ev (fun k => (L k (n : Int)).bind fun t => some (decide (t ≥ 0))) ((xs.drop n).any p) := by
    intro d
    induction d with
    | zero =>
      intro n e1 e2
      have : n = xs.length := by omega
      subst this
      rw [List.drop_length]
      refine Ev.step (fun k => by rw [hL, if_neg (by omega), Option.bind_some]) ?_
      exact ev_eq (ev_ret _) (by simp)
    | succ d ih =>
      intro n e1 e2
      have hn : n < xs.length := by omega
      rw [List.drop_eq_getElem_cons hn, List.any_cons]
      refine Ev.step (fun k => by rw [hL, if_pos (by omega), if_pos (by omega), if_pos (by omega), getD_of (List.getElem?_eq_getElem hn), wrap_nat hn (by omega), Option.bind_assoc]) ?_
      refine ev_bind (hF _ (List.getElem_mem hn)) ?_
      cases hq : p xs[n] with
      | true => exact ev_eq (Ev.congr (fun k => by rw [if_pos rfl, Option.bind_some]) (ev_ret _)) (by simp)
      | false => exact ev_eq (Ev.congr (fun k => by rw [if_neg (by simp)]) (ih (n + 1) (by omega) (by omega))) (by simp)
  have := key xs.length 0 (by omega) (by omega)
  simpa using this
theorem impl_SystemValid_ev (vars : List IVar) (rules : List IRule) (hl : rules.length ≤ 9223372036854775807) (hr : ∀ r ∈ rules, r.f1.length ≤ 9223372036854775807) : Ev (fun k => impl_SystemValid.f k vars rules) (sysP vars rules) := by
  unfold impl_SystemValid.f sysP
  simp only [impl_in_eq, Option.bind_some]
  by_cases h1 : inR (vars.length : Int) 1 5 = true
  · have hv := inR_iff.1 h1
    have J : ∀ b : Bool, Ev (fun k => impl_SystemValid.j0 k b vars rules) (!b && rules.all (fun r => ruleP r vars.length)) := by
      intro b
      refine Ev.step (fun k => by rw [impl_SystemValid.j0]) ?_
      cases b with
      | true => exact ev_pos rfl (ev_eq (ev_ret _) (by simp))
      | false =>
        refine ev_neg (by simp) ?_
        have e2 : Ev (fun k => slices_ContainsFunc_at_impl_SystemValid_2.f k rules vars rules) (rules.any (fun r => !ruleP r vars.length)) := by
          unfold slices_ContainsFunc_at_impl_SystemValid_2.f slices_IndexFunc_at_impl_SystemValid_2.f
          · refine find_ev (da := zIRule) (fun k i => slices_IndexFunc_at_impl_SystemValid_2.l0 k rules (rules.length : Int) i vars rules) (fun k r => impl_SystemValid_2.f k r.f0 r.f1 r.f2 vars rules) rules _ hl (fun k i => by rw [slices_IndexFunc_at_impl_SystemValid_2.l0]; rfl) ?_
            intro x hx
            unfold impl_SystemValid_2.f
            exact ev_bind (impl_ruleOk_ev x (vars.length : Int) (by omega) (hr x hx)) (ev_ret _)
        refine ev_bind e2 (ev_eq (ev_ret _) ?_)
        have : (!rules.any (fun r => !ruleP r vars.length)) = rules.all (fun r => ruleP r vars.length) := by rw [List.not_any_eq_all_not]; simp
        rw [this]
        simp
    refine ev_pos h1 ?_
    by_cases h2 : rules.length ≤ 8
    · refine ev_neg (by omega) ?_
      have e1 : Ev (fun k => slices_ContainsFunc_at_impl_SystemValid_1.f k vars) (vars.any (fun v => !varP v)) := by
        unfold slices_ContainsFunc_at_impl_SystemValid_1.f slices_IndexFunc_at_impl_SystemValid_1.f
        refine find_ev (da := zIVar) (fun k i => slices_IndexFunc_at_impl_SystemValid_1.l0 k vars (vars.length : Int) i) (fun k v => impl_SystemValid_1.f v.f0 v.f1 v.f2) vars _ (by omega) (fun k i => by rw [slices_IndexFunc_at_impl_SystemValid_1.l0]; rfl) ?_
        intro x hx
        unfold impl_SystemValid_1.f
        rw [impl_varOk_eq]
        exact ev_ret _
      refine ev_bind e1 ?_
      by_cases h3 : vars.all varP = true
      · have n3 : vars.any (fun v => !varP v) = false := by rw [List.any_eq_false]; intro x hx; simp [List.all_eq_true.1 h3 x hx]
        rw [n3]
        refine ev_neg (by simp) (ev_bind (impl_size_ev vars (by omega)) (ev_eq (J _) ?_))
        rw [h1, h3]
        by_cases h4 : sizeP vars ≤ 400 <;> simp [h2, h4, smallP]
      · have n3 : vars.any (fun v => !varP v) = true := by
          rw [← List.not_all_eq_any_not]
          simpa using h3
        rw [n3]
        exact ev_pos rfl (ev_eq (J true) (by rw [show vars.all varP = false from by simpa using h3]; simp))
    · exact ev_pos (by omega) (ev_eq (J true) (by simp [h2]))
  · refine ev_neg h1 (Ev.step (fun k => by rw [impl_SystemValid.j0]) ?_)
    exact ev_pos rfl (ev_eq (ev_ret _) (by simp [h1]))
theorem spanP_in {v : IVar} (h : varP v = true) : 1 ≤ spanP v ∧ spanP v ≤ 20 := by
  have := varP_span h
  unfold spanP; omega
theorem span_w {v : IVar} (h : varP v = true) : wrap64 (wrap64 (v.f1 - v.f0) + 1) = spanP v := by
  have := varP_span h
  rw [wrap_in (x := v.f1 - v.f0) (by omega) (by omega), wrap_in (by omega) (by omega)]
  rfl
theorem sysP_and {vars : List IVar} {rules : List IRule} (h : sysP vars rules = true) :
    (1 ≤ vars.length ∧ vars.length ≤ 5) ∧ rules.length ≤ 8 ∧ vars.all varP = true ∧ rules.all (fun r => ruleP r vars.length) = true ∧ sizeP vars ≤ 400 := by
  simp only [sysP, Bool.and_eq_true, inR_iff, smallP, decide_eq_true_eq] at h
  exact ⟨⟨by omega, by omega⟩, h.2.1, h.2.2.1, h.2.2.2.1, h.2.2.2.2⟩
def valOk (k v : Int) : Prop := (k = 1 → -9999 ≤ v ∧ v ≤ 9999) ∧ (k = 2 → 0 ≤ v ∧ v ≤ 1)
structure ValsOk (ks vs : List Int) : Prop where
  len : vs.length = ks.length
  at_ : ∀ i : Nat, i < ks.length → valOk (ks.getD i 0) (vs.getD i 0)
theorem ValsOk.nil : ValsOk [] [] := ⟨rfl, fun i h => absurd h (Nat.not_lt_zero i)⟩
theorem ValsOk.rd {ks vs : List Int} (h : ValsOk ks vs) {i : Int} (h0 : inR i 0 ((ks.length : Int) - 1) = true) : valOk (rd ks i) (rd vs i) := by
  have := inR_iff.1 h0
  have e := h.at_ i.toNat (by omega)
  exact e
theorem ValsOk.push {ks vs : List Int} (h : ValsOk ks vs) {k v : Int} (hv : valOk k v) : ValsOk (ks ++ [k]) (vs ++ [v]) := by
  refine ⟨by simp [h.len], fun i hi => ?_⟩
  rw [List.length_append, List.length_singleton] at hi
  by_cases e : i < ks.length
  · have := h.at_ i e
    rw [List.getD_eq_getElem?_getD, List.getD_eq_getElem?_getD] at this ⊢
    rw [List.getElem?_append_left e, List.getElem?_append_left (by rw [h.len]; exact e)]
    exact this
  · have e' : i = ks.length := by omega
    subst e'
    rw [List.getD_eq_getElem?_getD, List.getD_eq_getElem?_getD, List.getElem?_append_right (Nat.le_refl _), List.getElem?_append_right (by rw [h.len]; exact Nat.le_refl _), h.len]
    simpa using hv
def foldN {α σ : Type} (step : Nat → σ → α → σ) : Nat → σ → List α → σ
  | _, s, [] => s
  | n, s, x :: r => foldN step (n + 1) (step n s x) r
theorem foldN_push {α β : Type} (g : α → β) : ∀ (xs : List α) (n : Nat) (s : List β), foldN (fun _ s x => s ++ [g x]) n s xs = s ++ xs.map g
  | [], n, s => by simp [foldN]
  | x :: r, n, s => by unfold foldN; rw [foldN_push g r]; simp
theorem ev_fold {α σ ρ : Type} (L : Nat → σ → Int → Option ρ) (xs : List α) (step : Nat → σ → α → σ) (fin : σ → ρ) (I : Nat → σ → Prop)
    (hend : ∀ s, I xs.length s → Ev (fun k => L k s (xs.length : Int)) (fin s))
    (hstep : ∀ (n : Nat) s x R, n < xs.length → xs[n]? = some x → I n s → Ev (fun k => L k (step n s x) ((n + 1 : Nat) : Int)) R → Ev (fun k => L k s (n : Int)) R)
    (hI : ∀ (n : Nat) s x, n < xs.length → xs[n]? = some x → I n s → I (n + 1) (step n s x)) (s0 : σ) (h0 : I 0 s0) :
    Ev (fun k => L k s0 0) (fin (foldN step 0 s0 xs)) := by
  have h : ∀ d n : Nat, xs.length - n = d → n ≤ xs.length → ∀ s, I n s → Ev (fun k => L k s (n : Int)) (fin (foldN step n s (xs.drop n))) := by
    intro d
    induction d with
    | zero =>
      intro n h1 h2 s hs
      have : n = xs.length := by omega
      subst this
      rw [List.drop_length]
      exact hend s hs
    | succ d ih =>
      intro n h1 h2 s hs
      have hn : n < xs.length := by omega
      have hx := List.getElem?_eq_getElem hn
      rw [List.drop_eq_getElem_cons hn]
      exact hstep n s _ _ hn hx hs (ih (n + 1) (by omega) (by omega) _ (hI n s _ hn hx hs))
  have := h xs.length 0 (by omega) (by omega) s0 h0
  simpa using this
theorem ev_fold0 {α σ ρ : Type} (L : Nat → σ → Int → Option ρ) (xs : List α) (step : Nat → σ → α → σ) (fin : σ → ρ)
    (hend : ∀ s, Ev (fun k => L k s (xs.length : Int)) (fin s))
    (hstep : ∀ (n : Nat) s x R, n < xs.length → xs[n]? = some x → Ev (fun k => L k (step n s x) ((n + 1 : Nat) : Int)) R → Ev (fun k => L k s (n : Int)) R) (s0 : σ) :
    Ev (fun k => L k s0 0) (fin (foldN step 0 s0 xs)) :=
  ev_fold L xs step fin (fun _ _ => True) (fun s _ => hend s) (fun n s x R h1 h2 _ h3 => hstep n s x R h1 h2 h3) (fun _ _ _ _ _ _ => trivial) s0 trivial
theorem impl_clone_int_eq {l : List Int} (h : l.length ≤ 35184372088832) : impl_clone_int.f l = some l := by unfold impl_clone_int.f; rw [if_pos h]
def bitsP (m : Int) : Int := if 1 < m then (if 2 < m then (if 4 < m then (if 8 < m then (if 16 < m then 5 else 4) else 3) else 2) else 1) else 0
theorem bitsP_in (m : Int) : 0 ≤ bitsP m ∧ bitsP m ≤ 5 := by unfold bitsP; repeat' split <;> omega
theorem spec_l6Many_ev {m : Int} (h : 1 ≤ m ∧ m ≤ 20) : Ev (fun k => spec_l6Many.f k m) (bitsP m) := by
  unfold spec_l6Many.f bitsP
  have w1 : wrap64 (0 + 1) = 1 := by unfold wrap64; omega
  have w2 : wrap64 (1 + 1) = 2 := by unfold wrap64; omega
  have w3 : wrap64 (2 + 1) = 3 := by unfold wrap64; omega
  have w4 : wrap64 (3 + 1) = 4 := by unfold wrap64; omega
  have w5 : wrap64 (4 + 1) = 5 := by unfold wrap64; omega
  have v1 : wrap64 (1 * 2) = 2 := by unfold wrap64; omega
  have v2 : wrap64 (2 * 2) = 4 := by unfold wrap64; omega
  have v3 : wrap64 (4 * 2) = 8 := by unfold wrap64; omega
  have v4 : wrap64 (8 * 2) = 16 := by unfold wrap64; omega
  have v5 : wrap64 (16 * 2) = 32 := by unfold wrap64; omega
  refine Ev.step (fun k => by rw [spec_l6Many.l0]) (ev_ite_eq (fun _ => ?_) (fun _ => ev_ret _))
  rw [w1, v1]
  refine Ev.step (fun k => by rw [spec_l6Many.l0]) (ev_ite_eq (fun _ => ?_) (fun _ => ev_ret _))
  rw [w2, v2]
  refine Ev.step (fun k => by rw [spec_l6Many.l0]) (ev_ite_eq (fun _ => ?_) (fun _ => ev_ret _))
  rw [w3, v3]
  refine Ev.step (fun k => by rw [spec_l6Many.l0]) (ev_ite_eq (fun _ => ?_) (fun _ => ev_ret _))
  rw [w4, v4]
  refine Ev.step (fun k => by rw [spec_l6Many.l0]) (ev_ite_eq (fun _ => ?_) (fun _ => ev_ret _))
  rw [w5, v5]
  exact Ev.step (fun k => by rw [spec_l6Many.l0]) (ev_neg (by omega) (ev_ret _))
theorem impl_bitsFor_ev {m : Int} (h : 1 ≤ m ∧ m ≤ 20) : Ev (fun k => impl_bitsFor.f k m) (bitsP m) := by
  unfold impl_bitsFor.f bitsP
  have w1 : wrap64 (0 + 1) = 1 := by unfold wrap64; omega
  have w2 : wrap64 (1 + 1) = 2 := by unfold wrap64; omega
  have w3 : wrap64 (2 + 1) = 3 := by unfold wrap64; omega
  have w4 : wrap64 (3 + 1) = 4 := by unfold wrap64; omega
  have w5 : wrap64 (4 + 1) = 5 := by unfold wrap64; omega
  have s0 : shl .i64 1 0 = 1 := by decide +kernel
  have s1 : shl .i64 1 1 = 2 := by decide +kernel
  have s2 : shl .i64 1 2 = 4 := by decide +kernel
  have s3 : shl .i64 1 3 = 8 := by decide +kernel
  have s4 : shl .i64 1 4 = 16 := by decide +kernel
  have s5 : shl .i64 1 5 = 32 := by decide +kernel
  refine Ev.step (fun k => by rw [impl_bitsFor.l0]) (ev_pos (by omega) ?_)
  rw [s0]
  refine ev_ite_eq (fun _ => ?_) (fun _ => ev_ret _)
  rw [w1]
  refine Ev.step (fun k => by rw [impl_bitsFor.l0]) (ev_pos (by omega) ?_)
  rw [s1]
  refine ev_ite_eq (fun _ => ?_) (fun _ => ev_ret _)
  rw [w2]
  refine Ev.step (fun k => by rw [impl_bitsFor.l0]) (ev_pos (by omega) ?_)
  rw [s2]
  refine ev_ite_eq (fun _ => ?_) (fun _ => ev_ret _)
  rw [w3]
  refine Ev.step (fun k => by rw [impl_bitsFor.l0]) (ev_pos (by omega) ?_)
  rw [s3]
  refine ev_ite_eq (fun _ => ?_) (fun _ => ev_ret _)
  rw [w4]
  refine Ev.step (fun k => by rw [impl_bitsFor.l0]) (ev_pos (by omega) ?_)
  rw [s4]
  refine ev_ite_eq (fun _ => ?_) (fun _ => ev_ret _)
  rw [w5]
  refine Ev.step (fun k => by rw [impl_bitsFor.l0]) (ev_pos (by omega) ?_)
  rw [s5]
  exact ev_neg (by omega) (ev_ret _)
def widthsP (vars : List IVar) : List Int := vars.map (fun v => bitsP (spanP v))
theorem span_all {vars : List IVar} (h : vars.all varP = true) {n : Nat} {v : IVar} (hv : vars[n]? = some v) : varP v = true := List.all_eq_true.1 h v (List.mem_of_getElem? hv)
theorem spec_l6Widths_ev {vars : List IVar} (rules : List IRule) (hl : vars.length ≤ 5) (h : vars.all varP = true) : Ev (fun k => spec_l6Widths.f k vars rules) (widthsP vars) := by
  unfold spec_l6Widths.f
  have := ev_fold (fun k s i => spec_l6Widths.l0 k s i vars rules) vars (fun _ s v => s ++ [bitsP (spanP v)]) (fun s => s) (fun m s => s.length = m)
    (fun s hs => Ev.step (fun k => by rw [spec_l6Widths.l0]) (ev_neg (by omega) (ev_ret _)))
    (fun n s v R hn hx hs ih => by
      have hp := span_all h hx
      refine Ev.step (fun k => by rw [spec_l6Widths.l0]) ?_
      rw [show rd_IVar vars (n : Int) = v from getD_of hx, wrap_nat hn (by omega), span_w hp]
      exact ev_pos (by omega) (ev_pos (by omega) (ev_bind (spec_l6Many_ev (spanP_in hp)) (ev_pos (by omega) ih))))
    (fun n s v hn hx hs => by simp [hs]) [] rfl
  rw [foldN_push] at this
  simpa [widthsP] using this
theorem impl_bitsOf_ev {vars : List IVar} (rules : List IRule) (hl : vars.length ≤ 5) (h : vars.all varP = true) : Ev (fun k => impl_bitsOf.f k vars rules) (widthsP vars) := by
  unfold impl_bitsOf.f
  have := ev_fold (fun k s i => impl_bitsOf.l0 k s vars (vars.length : Int) i) vars (fun _ s v => s ++ [bitsP (spanP v)]) (fun s => s) (fun m s => s.length = m)
    (fun s hs => Ev.step (fun k => by rw [impl_bitsOf.l0]) (ev_neg (by omega) (ev_bind (ev_fix (impl_clone_int_eq (by omega))) (ev_ret _))))
    (fun n s v R hn hx hs ih => by
      have hp := span_all h hx
      refine Ev.step (fun k => by rw [impl_bitsOf.l0]) ?_
      rw [show rd_IVar vars (n : Int) = v from getD_of hx, wrap_nat hn (by omega), span_w hp]
      exact ev_pos (by omega) (ev_pos (by omega) (ev_pos (by omega) (ev_bind (impl_bitsFor_ev (spanP_in hp)) (ev_pos (by omega) ih)))))
    (fun n s v hn hx hs => by simp [hs]) [] rfl
  rw [foldN_push] at this
  simpa [widthsP] using this
def sumP (l : List Int) : Int := foldN (fun _ s x => wrap64 (s + x)) 0 0 l
theorem spec_l6Sum_ev (l : List Int) (hl : l.length ≤ 9223372036854775807) : Ev (fun k => spec_l6Sum.f k l) (sumP l) := by
  unfold spec_l6Sum.f
  exact ev_fold0 (fun k s i => spec_l6Sum.l0 k l s i) l (fun _ s x => wrap64 (s + x)) (fun s => s)
    (fun s => Ev.step (fun k => by rw [spec_l6Sum.l0]) (ev_neg (by omega) (ev_ret _)))
    (fun n s x R hn hx ih => by
      refine Ev.step (fun k => by rw [spec_l6Sum.l0]) ?_
      rw [show rd l (n : Int) = x from getD_of hx, wrap_nat hn (by omega)]
      exact ev_pos (by omega) (ev_pos (by omega) ih)) 0
def SzOk (f : Nat → Option Int) (a : Int) (P : Prop) : Prop := ∃ r, Ev f r ∧ (r < 0 ∨ (0 ≤ r ∧ r ≤ a ∧ P))
theorem sz_len {n : Nat} {a : Int} (h0 : 0 ≤ a) (h1 : a ≤ 1048576) (hn : n ≤ 9223372036854775807) : SzOk (fun _ => if wrap64 (a - (n : Int)) < 0 then some (-1) else some (wrap64 (a - (n : Int)))) a (n ≤ 1048576) := by
  have w : wrap64 (a - (n : Int)) = a - (n : Int) := wrap_in (by omega) (by omega)
  rw [w]
  by_cases h : a - (n : Int) < 0
  · exact ⟨-1, ev_pos h (ev_ret _), .inl (by omega)⟩
  · exact ⟨a - n, ev_neg h (ev_ret _), .inr ⟨by omega, by omega, by omega⟩⟩
theorem sz_then {f : Nat → Option Int} {g : Nat → Int → Option Int} {a : Int} {P Q : Prop} (hf : SzOk f a P) (h1 : a ≤ 1048576) (hg : P → ∀ b, 0 ≤ b → b ≤ a → SzOk (fun k => g k b) b Q) :
    SzOk (fun k => (f k).bind fun t => if t < 0 then some (-1) else g k t) a (P ∧ Q) := by
  obtain ⟨r, hr, h⟩ := hf
  rcases h with h | ⟨h0, ha, hp⟩
  · exact ⟨-1, ev_bind hr (ev_pos h (ev_ret _)), .inl (by omega)⟩
  · obtain ⟨s, hs, k⟩ := hg hp r h0 ha
    refine ⟨s, ev_bind hr (ev_neg (by omega) hs), ?_⟩
    rcases k with k | ⟨k0, ka, kq⟩
    · exact .inl k
    · exact .inr ⟨k0, by omega, hp, kq⟩
theorem sz_end {f : Nat → Option Int} {a : Int} {P : Prop} (hf : SzOk f a P) : SzOk (fun k => (f k).bind fun t => if t < 0 then some (-1) else some t) a P := by
  obtain ⟨r, hr, h⟩ := hf
  rcases h with h | h
  · exact ⟨-1, ev_bind hr (ev_pos h (ev_ret _)), .inl (by omega)⟩
  · exact ⟨r, ev_bind hr (ev_neg (by omega) (ev_ret _)), .inr h⟩
theorem sz_loop {α : Type} {da : α} (L : Nat → Int → Int → Option Int) (F : Nat → α → Int → Option Int) (xs : List α) (P : α → Prop) (hl : xs.length ≤ 9223372036854775807)
    (hL : ∀ k a i, L (k + 1) a i = if i < (xs.length : Int) then (if 0 ≤ i then ((F k (xs.getD i.toNat da) a).bind fun t => if t < 0 then some (-1) else L k t (wrap64 (i + 1))) else none) else some a)
    (hF : ∀ x ∈ xs, ∀ a, 0 ≤ a → a ≤ 1048576 → SzOk (fun k => F k x a) a (P x)) : ∀ a, 0 ≤ a → a ≤ 1048576 → SzOk (fun k => L k a 0) a (∀ x ∈ xs, P x) := by
  have key : ∀ d n : Nat, xs.length - n = d → n ≤ xs.length → ∀ a, 0 ≤ a → a ≤ 1048576 → SzOk (fun k => L k a (n : Int)) a (∀ x ∈ xs.drop n, P x) := by
    intro d
    induction d with
    | zero =>
      intro n e1 e2 a h0 h1
      have : n = xs.length := by omega
      subst this
      refine ⟨a, ?_, .inr ⟨h0, Int.le_refl _, fun x hx => by simp at hx⟩⟩
      refine Ev.step (fun k => hL k _ _) ?_
      exact ev_neg (by omega) (ev_ret _)
    | succ d ih =>
      intro n e1 e2 a h0 h1
      have hn : n < xs.length := by omega
      have hs := sz_then (g := fun k t => L k t ((n + 1 : Nat) : Int)) (hF _ (List.getElem_mem hn) a h0 h1) h1 (fun _ b hb0 hb1 => ih (n + 1) (by omega) (by omega) b hb0 (by omega))
      obtain ⟨r, hr, k⟩ := hs
      refine ⟨r, ?_, ?_⟩
      · refine Ev.step (fun k => by rw [hL, if_pos (by omega), if_pos (by omega), getD_of (List.getElem?_eq_getElem hn), wrap_nat hn (by omega)]) hr
      · rcases k with k | ⟨k0, ka, kp, kq⟩
        · exact .inl k
        · refine .inr ⟨k0, ka, fun x hx => ?_⟩
          rw [List.drop_eq_getElem_cons hn] at hx
          rcases List.mem_cons.1 hx with rfl | hx
          · exact kp
          · exact kq x hx
  intro a h0 h1
  have := key xs.length 0 (by omega) (by omega) a h0 h1
  simpa using this
def cVar (x : LVar) : IVar := ⟨x.f0, x.f1, x.f2⟩
def cTerm (x : LTerm) : ITerm := ⟨x.f0, x.f1, x.f2, x.f3⟩
def cRule (x : LRule) : IRule := ⟨x.f0.map cTerm, x.f1, x.f2.map (fun l => l.map cTerm)⟩
def szRuleP (r : LRule) : Prop := r.f0.length ≤ 1048576 ∧ r.f1.length ≤ 1048576 ∧ r.f2.length ≤ 1048576 ∧ ∀ l ∈ r.f2, l.length ≤ 1048576
theorem laws_szSystem_ok (vars : List LVar) (rules : List LRule) (hv : vars.length ≤ 9223372036854775807) (hr : rules.length ≤ 9223372036854775807)
    (hrr : ∀ r ∈ rules, r.f0.length ≤ 9223372036854775807 ∧ r.f1.length ≤ 9223372036854775807 ∧ r.f2.length ≤ 9223372036854775807 ∧ ∀ l ∈ r.f2, l.length ≤ 9223372036854775807) (a : Int) (h0 : 0 ≤ a) (h1 : a ≤ 1048576) :
    SzOk (fun k => laws_szSystem.f k vars rules a) a (vars.length ≤ 1048576 ∧ rules.length ≤ 1048576 ∧ ∀ r ∈ rules, szRuleP r) := by
  unfold laws_szSystem.f laws_szVarS.f
  refine sz_then (sz_len h0 h1 hv) h1 (fun _ b hb0 hb1 => sz_end ?_)
  unfold laws_szRuleS.f
  have hrule : ∀ r ∈ rules, ∀ c, 0 ≤ c → c ≤ 1048576 → SzOk (fun k => laws_szRule.f k r.f0 r.f1 r.f2 c) c (szRuleP r) := by
    intro r hmem c hc0 hc1
    obtain ⟨m0, m1, m2, m3⟩ := hrr r hmem
    unfold laws_szRule.f laws_szTermS.f laws_szIntS.f
    refine sz_then (sz_len hc0 hc1 m0) hc1 (fun _ d hd0 hd1 => sz_then (sz_len hd0 (by omega) m1) (by omega) (fun _ e he0 he1 => sz_end ?_))
    unfold laws_szTermSS.f
    have hlen := sz_len he0 (show e ≤ 1048576 by omega) m2
    obtain ⟨q, hq, hk⟩ := hlen
    have w : wrap64 (e - (r.f2.length : Int)) = e - (r.f2.length : Int) := wrap_in (by omega) (by omega)
    rw [w]
    by_cases h : e - (r.f2.length : Int) < 0
    · exact ⟨-1, ev_pos h (ev_ret _), .inl (by omega)⟩
    · have hl := sz_loop (da := []) (fun k a i => laws_szTermSS.l0 k r.f2 a i) (fun k x a => laws_szTermS.f x a) r.f2 (fun l => l.length ≤ 1048576) m2 (fun k a i => by rw [laws_szTermSS.l0]; rfl)
        (fun x hx a ha0 ha1 => by unfold laws_szTermS.f; exact sz_len ha0 ha1 (m3 x hx)) (e - (r.f2.length : Int)) (by omega) (by omega)
      obtain ⟨s, hs, k⟩ := hl
      refine ⟨s, ev_neg h hs, ?_⟩
      rcases k with k | ⟨k0, ka, kp⟩
      · exact .inl k
      · exact .inr ⟨k0, by omega, by omega, kp⟩
  have w : wrap64 (b - (rules.length : Int)) = b - (rules.length : Int) := wrap_in (by omega) (by omega)
  rw [w]
  by_cases h : b - (rules.length : Int) < 0
  · exact ⟨-1, ev_pos h (ev_ret _), .inl (by omega)⟩
  · have hl := sz_loop (da := zLRule) (fun k a i => laws_szRuleS.l0 k rules a i) (fun k x a => laws_szRule.f k x.f0 x.f1 x.f2 a) rules szRuleP hr (fun k a i => by rw [laws_szRuleS.l0]; rfl) hrule (b - (rules.length : Int)) (by omega) (by omega)
    obtain ⟨s, hs, k⟩ := hl
    refine ⟨s, ev_neg h hs, ?_⟩
    rcases k with k | ⟨k0, ka, kp⟩
    · exact .inl k
    · exact .inr ⟨k0, by omega, by omega, kp⟩
theorem laws_toVarS_ev (l : List LVar) (h : l.length ≤ 1048576) : Ev (fun k => laws_toVarS.f k l) (l.map cVar) := by
  unfold laws_toVarS.f
  refine ev_pos (by omega) (ev_pos (by omega) ?_)
  exact ev_fill (da := zLVar) (db := zIVar) (fun k ys i => laws_toVarS.l0 k l ys i) (fun k x => some (cVar x)) l cVar (by omega) (fun k ys i => by rw [laws_toVarS.l0]; rfl) (fun x _ => ev_ret _)
theorem laws_toIntS_ev (l : List Int) (h : l.length ≤ 1048576) : Ev (fun k => laws_toIntS.f k l) l := by
  unfold laws_toIntS.f
  refine ev_pos (by omega) (ev_pos (by omega) ?_)
  have := ev_fill (da := (0 : Int)) (db := (0 : Int)) (fun k ys i => laws_toIntS.l0 k l ys i) (fun k x => some x) l id (by omega) (fun k ys i => by rw [laws_toIntS.l0]; rfl) (fun x _ => ev_ret _)
  simpa using this
theorem laws_toTermS_ev (l : List LTerm) (h : l.length ≤ 1048576) : Ev (fun k => laws_toTermS.f k l) (l.map cTerm) := by
  unfold laws_toTermS.f
  refine ev_pos (by omega) (ev_pos (by omega) ?_)
  exact ev_fill (da := zLTerm) (db := zITerm) (fun k ys i => laws_toTermS.l0 k l ys i) (fun k x => some (cTerm x)) l cTerm (by omega) (fun k ys i => by rw [laws_toTermS.l0]; rfl) (fun x _ => ev_ret _)
theorem laws_toTermSS_ev (l : List (List LTerm)) (h : l.length ≤ 1048576) (h2 : ∀ x ∈ l, x.length ≤ 1048576) : Ev (fun k => laws_toTermSS.f k l) (l.map (fun x => x.map cTerm)) := by
  unfold laws_toTermSS.f
  refine ev_pos (by omega) (ev_pos (by omega) ?_)
  exact ev_fill (da := []) (db := []) (fun k ys i => laws_toTermSS.l0 k l ys i) (fun k x => laws_toTermS.f k x) l (fun x => x.map cTerm) (by omega) (fun k ys i => by rw [laws_toTermSS.l0]; rfl) (fun x hx => laws_toTermS_ev x (h2 x hx))
theorem laws_toRule_ev (r : LRule) (h : szRuleP r) : Ev (fun k => laws_toRule.f k r.f0 r.f1 r.f2) ((cRule r).f0, (cRule r).f1, (cRule r).f2) := by
  obtain ⟨h0, h1, h2, h3⟩ := h
  unfold laws_toRule.f
  exact ev_bind (laws_toTermS_ev _ h0) (ev_bind (laws_toIntS_ev _ h1) (ev_bind (laws_toTermSS_ev _ h2 h3) (ev_ret _)))
theorem laws_toRuleS_ev (l : List LRule) (h : l.length ≤ 1048576) (h2 : ∀ r ∈ l, szRuleP r) : Ev (fun k => laws_toRuleS.f k l) (l.map cRule) := by
  unfold laws_toRuleS.f
  refine ev_pos (by omega) (ev_pos (by omega) ?_)
  exact ev_fill (da := zLRule) (db := zIRule) (fun k ys i => laws_toRuleS.l0 k l ys i) (fun k x => (laws_toRule.f k x.f0 x.f1 x.f2).bind fun bt => some ⟨bt.1, bt.2.1, bt.2.2⟩) l cRule (by omega)
    (fun k ys i => by rw [laws_toRuleS.l0]; simp only [Option.bind_assoc, Option.bind_some]; rfl) (fun x hx => ev_bind (laws_toRule_ev x (h2 x hx)) (ev_ret _))
def cSys (vars : List LVar) (rules : List LRule) : List IVar × List IRule := (vars.map cVar, rules.map cRule)
theorem laws_toSystem_ev (vars : List LVar) (rules : List LRule) (h : vars.length ≤ 1048576 ∧ rules.length ≤ 1048576 ∧ ∀ r ∈ rules, szRuleP r) : Ev (fun k => laws_toSystem.f k vars rules) (cSys vars rules) := by
  unfold laws_toSystem.f
  exact ev_bind (laws_toVarS_ev _ h.1) (ev_bind (laws_toRuleS_ev _ h.2.1 h.2.2) (ev_ret _))
theorem laws_eqIntS_ev (l : List Int) (h : l.length ≤ 4611686018427387904) : Ev (fun k => laws_eqIntS.f k l l) true := by
  unfold laws_eqIntS.f
  refine ev_pos rfl ?_
  exact ev_same (da := (0 : Int)) (fun k i => laws_eqIntS.l0 k l l i) (fun k x y => if x = y then some true else some false) l l h rfl (fun k i => by rw [laws_eqIntS.l0]; simp [rd]) (fun x _ => ev_pos rfl (ev_ret _))
theorem laws_eqTermS_ev (l : List ITerm) (h : l.length ≤ 4611686018427387904) : Ev (fun k => laws_eqTermS.f k l l) true := by
  unfold laws_eqTermS.f
  refine ev_pos rfl ?_
  exact ev_same (da := zITerm) (fun k i => laws_eqTermS.l0 k l l i) (fun k x y => laws_eqTerm.f x.f0 x.f1 x.f2 x.f3 y.f0 y.f1 y.f2 y.f3) l l h rfl (fun k i => by rw [laws_eqTermS.l0]; rfl) (fun x _ => by unfold laws_eqTerm.f; simpa using ev_ret true)
theorem laws_eqTermSS_ev (l : List (List ITerm)) (h : l.length ≤ 4611686018427387904) (h2 : ∀ x ∈ l, x.length ≤ 4611686018427387904) : Ev (fun k => laws_eqTermSS.f k l l) true := by
  unfold laws_eqTermSS.f
  refine ev_pos rfl ?_
  exact ev_same (da := []) (fun k i => laws_eqTermSS.l0 k l l i) (fun k x y => laws_eqTermS.f k x y) l l h rfl (fun k i => by rw [laws_eqTermSS.l0]; rfl) (fun x hx => laws_eqTermS_ev x (h2 x hx))
theorem laws_eqVarS_ev (l : List IVar) (h : l.length ≤ 4611686018427387904) : Ev (fun k => laws_eqVarS.f k l l) true := by
  unfold laws_eqVarS.f
  refine ev_pos rfl ?_
  exact ev_same (da := zIVar) (fun k i => laws_eqVarS.l0 k l l i) (fun k x y => laws_eqVar.f x.f0 x.f1 x.f2 y.f0 y.f1 y.f2) l l h rfl (fun k i => by rw [laws_eqVarS.l0]; rfl) (fun x _ => by unfold laws_eqVar.f; simpa using ev_ret true)
def smallRule (r : IRule) : Prop := r.f0.length ≤ 1048576 ∧ r.f1.length ≤ 1048576 ∧ r.f2.length ≤ 1048576 ∧ ∀ l ∈ r.f2, l.length ≤ 1048576
theorem laws_eqRule_ev (r : IRule) (h : smallRule r) : Ev (fun k => laws_eqRule.f k r.f0 r.f1 r.f2 r.f0 r.f1 r.f2) true := by
  obtain ⟨h0, h1, h2, h3⟩ := h
  unfold laws_eqRule.f
  exact ev_bind (laws_eqTermS_ev _ (by omega)) (ev_pos rfl (ev_bind (laws_eqIntS_ev _ (by omega)) (ev_pos rfl (ev_bind (laws_eqTermSS_ev _ (by omega) (fun x hx => by have := h3 x hx; omega)) (ev_pos rfl (ev_ret _))))))
theorem laws_eqRuleS_ev (l : List IRule) (h : l.length ≤ 4611686018427387904) (h2 : ∀ r ∈ l, smallRule r) : Ev (fun k => laws_eqRuleS.f k l l) true := by
  unfold laws_eqRuleS.f
  refine ev_pos rfl ?_
  exact ev_same (da := zIRule) (fun k i => laws_eqRuleS.l0 k l l i) (fun k x y => laws_eqRule.f k x.f0 x.f1 x.f2 y.f0 y.f1 y.f2) l l h rfl (fun k i => by rw [laws_eqRuleS.l0]; rfl) (fun x hx => laws_eqRule_ev x (h2 x hx))
theorem small_of_sz {r : LRule} (h : szRuleP r) : smallRule (cRule r) := by
  obtain ⟨h0, h1, h2, h3⟩ := h
  refine ⟨by simpa [cRule] using h0, h1, by simpa [cRule] using h2, fun l hl => ?_⟩
  simp only [cRule, List.mem_map] at hl
  obtain ⟨x, hx, rfl⟩ := hl
  simpa using h3 x hx
theorem laws_eqSystem_ev (vars : List LVar) (rules : List LRule) (h : vars.length ≤ 1048576 ∧ rules.length ≤ 1048576 ∧ ∀ r ∈ rules, szRuleP r) :
    Ev (fun k => laws_eqSystem.f k (cSys vars rules).1 (cSys vars rules).2 (cSys vars rules).1 (cSys vars rules).2) true := by
  unfold laws_eqSystem.f cSys
  refine ev_bind (laws_eqVarS_ev _ (by simp; omega)) (ev_pos rfl (ev_bind (laws_eqRuleS_ev _ (by simp; omega) ?_) (ev_pos rfl (ev_ret _))))
  intro r hr
  obtain ⟨x, hx, rfl⟩ := List.mem_map.1 hr
  exact small_of_sz (h.2.2 x hx)
end Go.Proofs.YtpbpmfckmgcdfaaDoor.PA
end
section
namespace Go.Proofs.YtpbpmfckmgcdfaaDoor.PA
open Go.RowKit Go.Proofs.YtpbpmfckmgcdfaaDoorW.PrintWords
def okLVar (y : LVar) : Prop := (Lit.int .i64 y.f0).wf = true ∧ (Lit.int .i64 y.f1).wf = true ∧ (Lit.int .i64 y.f2).wf = true
def okLTerm (y : LTerm) : Prop := (Lit.int .i64 y.f0).wf = true ∧ (Lit.int .i64 y.f1).wf = true ∧ (Lit.int .i64 y.f2).wf = true ∧ (Lit.int .i64 y.f3).wf = true
def okLRule (y : LRule) : Prop := (y.f0.length ≤ 9223372036854775807 ∧ ∀ x0 ∈ y.f0, okLTerm x0) ∧ (y.f1.length ≤ 9223372036854775807 ∧ ∀ x0 ∈ y.f1, (Lit.int .i64 x0).wf = true) ∧ (y.f2.length ≤ 9223372036854775807 ∧ ∀ x0 ∈ y.f2, (x0.length ≤ 9223372036854775807 ∧ ∀ x1 ∈ x0, okLTerm x1))
def okLSystem (y : LSystem) : Prop := (y.f0.length ≤ 9223372036854775807 ∧ ∀ x0 ∈ y.f0, okLVar x0) ∧ (y.f1.length ≤ 9223372036854775807 ∧ ∀ x0 ∈ y.f1, okLRule x0)
end Go.Proofs.YtpbpmfckmgcdfaaDoor.PA
end
section
set_option linter.unusedVariables false
set_option linter.unusedSimpArgs false
namespace Go.Proofs.YtpbpmfckmgcdfaaDoor.PA
open Go.RowKit Go.Proofs.YtpbpmfckmgcdfaaDoorW.PrintWords
theorem sz_of_ok {rules : List LRule} (h : rules.length ≤ 9223372036854775807 ∧ ∀ x ∈ rules, okLRule x) :
    ∀ r ∈ rules, r.f0.length ≤ 9223372036854775807 ∧ r.f1.length ≤ 9223372036854775807 ∧ r.f2.length ≤ 9223372036854775807 ∧ ∀ l ∈ r.f2, l.length ≤ 9223372036854775807 :=
  fun r hr => ⟨(h.2 r hr).1.1, (h.2 r hr).2.1.1, (h.2 r hr).2.2.1, fun l hl => ((h.2 r hr).2.2.2 l hl).1⟩
structure ExOk (vars : List LVar) (rules : List LRule) : Prop where
  hk : vars.length ≤ 1048576 ∧ rules.length ≤ 1048576 ∧ ∀ r ∈ rules, szRuleP r
  vl : (cSys vars rules).1.length ≤ 1048576
  rl : (cSys vars rules).2.length ≤ 1048576
  rs : ∀ r ∈ (cSys vars rules).2, r.f1.length ≤ 9223372036854775807
theorem ex_sys {vars : List LVar} {rules : List LRule} (hv : vars.length ≤ 9223372036854775807 ∧ ∀ x ∈ vars, okLVar x) (hr : rules.length ≤ 9223372036854775807 ∧ ∀ x ∈ rules, okLRule x)
    {F : Nat → Int → Option Bool} (h : ∀ r : Int, 0 ≤ r → r ≤ 1048576 → ExOk vars rules → Ev (fun k => F k r) true) :
    Ev (fun k => (laws_szSystem.f k vars rules 1048576).bind fun t => if t < 0 then some true else F k t) true := by
  obtain ⟨r, hsz, hk⟩ := laws_szSystem_ok vars rules hv.1 hr.1 (sz_of_ok hr) 1048576 (by omega) (by omega)
  refine ev_bind hsz ?_
  rcases hk with hk | ⟨h0, h1, hk⟩
  · exact ev_pos hk (ev_ret _)
  · refine ev_neg (by omega) (h r h0 (by omega) ⟨hk, by simpa [cSys] using hk.1, by simpa [cSys] using hk.2.1, ?_⟩)
    intro r hr'
    obtain ⟨x, hx, rfl⟩ := List.mem_map.1 hr'
    exact (sz_of_ok hr x hx).2.1
theorem ExOk.to {vars : List LVar} {rules : List LRule} (S : ExOk vars rules) : Ev (fun k => laws_toSystem.f k vars rules) (cSys vars rules) := laws_toSystem_ev vars rules S.hk
theorem ExOk.eq {vars : List LVar} {rules : List LRule} (S : ExOk vars rules) : Ev (fun k => laws_eqSystem.f k (cSys vars rules).1 (cSys vars rules).2 (cSys vars rules).1 (cSys vars rules).2) true := laws_eqSystem_ev vars rules S.hk
theorem ExOk.impl {vars : List LVar} {rules : List LRule} (S : ExOk vars rules) : Ev (fun k => impl_SystemValid.f k (cSys vars rules).1 (cSys vars rules).2) (sysP (cSys vars rules).1 (cSys vars rules).2) := impl_SystemValid_ev _ _ (by have := S.rl; omega) S.rs
end Go.Proofs.YtpbpmfckmgcdfaaDoor.PA
end
section
namespace Go.Proofs.YtpbpmfckmgcdfaaDoor.PA
open Go.RowKit Go.Proofs.YtpbpmfckmgcdfaaDoorW.PrintWords
def laws_FnExactBitName.PureS : Prop := ∀ (l0_0 : List LVar) (l0_1 : List LRule) (a1 : Int), (l0_0.length ≤ 9223372036854775807 ∧ ∀ x0 ∈ l0_0, okLVar x0) → (l0_1.length ≤ 9223372036854775807 ∧ ∀ x0 ∈ l0_1, okLRule x0) → (Lit.int .i64 a1).wf = true → ∃ k, laws_FnExactBitName.f k l0_0 l0_1 a1 = some true
end Go.Proofs.YtpbpmfckmgcdfaaDoor.PA
end
section
set_option linter.unusedVariables false
set_option linter.unusedSimpArgs false
namespace Go.Proofs.YtpbpmfckmgcdfaaDoor.PA
open Go.RowKit Go.Proofs.YtpbpmfckmgcdfaaDoorW.PrintWords
def digP (n : Int) : ByteArray := strOfNums [n + 48]
theorem dig_eq {n : Int} (h0 : 0 ≤ n) (h1 : n ≤ 9) : IntKind.u8.wrap (wrap64 (48 + n)) = n + 48 := by
  have : n = 0 ∨ n = 1 ∨ n = 2 ∨ n = 3 ∨ n = 4 ∨ n = 5 ∨ n = 6 ∨ n = 7 ∨ n = 8 ∨ n = 9 := by omega
  rcases this with rfl | rfl | rfl | rfl | rfl | rfl | rfl | rfl | rfl | rfl <;> decide +kernel
theorem str_nil (s : ByteArray) : s ++ (⟨#[]⟩ : ByteArray) = s := ByteArray.append_empty
theorem dec_ev {n : Int} (h0 : 0 ≤ n) (h1 : n ≤ 9) : Ev (fun k => spec_l40Dec.f k n) (digP n) := by
  unfold spec_l40Dec.f
  refine ev_neg (by omega) (ev_neg (by omega) (Ev.step (fun k => by rw [spec_l40Dec.l1]) (ev_neg (by omega) (ev_pos ?_ ?_))))
  · show (1 + 0 : Nat) ≤ _
    omega
  · rw [str_nil, dig_eq h0 h1]
    exact ev_ret _
theorem small_ev {n : Int} (h0 : 0 ≤ n) (h1 : n ≤ 9) : Ev (fun k => internal_strconv_small.f k n) (digP n) := by
  unfold internal_strconv_small.f
  have w : wrap64 (n + 1) = n + 1 := wrap_in (by omega) (by omega)
  rw [w]
  refine ev_pos (by omega) (ev_pos (by omega) (ev_pos (by omega) (ev_pos ?_ ?_)))
  · show n + 1 ≤ (36 : Int)
    omega
  · refine ev_eq (ev_ret _) ?_
    clear w
    have : n = 0 ∨ n = 1 ∨ n = 2 ∨ n = 3 ∨ n = 4 ∨ n = 5 ∨ n = 6 ∨ n = 7 ∨ n = 8 ∨ n = 9 := by omega
    rcases this with rfl | rfl | rfl | rfl | rfl | rfl | rfl | rfl | rfl | rfl <;> decide +kernel
theorem itoa_ev {n : Int} (h0 : 0 ≤ n) (h1 : n ≤ 9) : Ev (fun k => strconv_Itoa.f k n) (digP n) := by
  unfold strconv_Itoa.f internal_strconv_Itoa.f internal_strconv_FormatInt.f
  exact ev_bind (ev_bind (ev_pos rfl (ev_pos (by omega) (ev_pos (by omega) (ev_bind (small_ev h0 h1) (ev_ret _))))) (ev_ret _)) (ev_ret _)
def nmP (v b : Int) : ByteArray := (((⟨#[118]⟩ : ByteArray) ++ digP v) ++ (⟨#[46]⟩ : ByteArray)) ++ digP b
def nameAt : Nat → List Int → Int → ByteArray
  | _, [], _ => ⟨#[]⟩
  | n, w :: r, b => if b < w then nmP n (w - 1 - b) else nameAt (n + 1) r (b - w)
theorem dig_size (n : Int) : (digP n).size = 1 := rfl
theorem name_over : ∀ (l : List Int) (n : Nat) (b : Int), (∀ x ∈ l, 0 ≤ x ∧ x ≤ 5) → l.sum ≤ b → nameAt n l b = ⟨#[]⟩
  | [], _, _, _, _ => rfl
  | w :: r, n, b, h, hb => by
    have hw := h w (List.mem_cons_self ..)
    have hr : ∀ x ∈ r, 0 ≤ x ∧ x ≤ 5 := fun x hx => h x (List.mem_cons_of_mem _ hx)
    have hs : 0 ≤ r.sum := by
      clear hb h
      induction r with
      | nil => simp
      | cons a r ih => have := hr a (List.mem_cons_self ..); have := ih (fun x hx => hr x (List.mem_cons_of_mem _ hx)); simp; omega
    simp only [List.sum_cons] at hb
    unfold nameAt
    rw [if_neg (by omega)]
    exact name_over r (n + 1) (b - w) hr (by omega)
theorem sum_fold : ∀ (l : List Int) (n : Nat) (s : Int), 0 ≤ s → s + 5 * (l.length : Int) ≤ 1000 → (∀ x ∈ l, 0 ≤ x ∧ x ≤ 5) → foldN (fun _ s x => wrap64 (s + x)) n s l = s + l.sum
  | [], n, s, _, _, _ => by simp [foldN]
  | x :: r, n, s, h0, h1, h => by
    have hx := h x (List.mem_cons_self ..)
    simp only [List.length_cons] at h1
    unfold foldN
    rw [wrap_in (x := s + x) (by omega) (by omega), sum_fold r (n + 1) (s + x) (by omega) (by omega) (fun y hy => h y (List.mem_cons_of_mem _ hy))]
    simp only [List.sum_cons]
    omega
theorem spec_name_ev (W : List Int) (hl : W.length ≤ 5) (hw : ∀ x ∈ W, 0 ≤ x ∧ x ≤ 5) : ∀ (d n : Nat) (b : Int), W.length - n = d → 0 ≤ b → b ≤ 9223372036854775807 → b < (W.drop n).sum → Ev (fun k => spec_BitName.l1 k b (n : Int) W) (nameAt n (W.drop n) b) := by
  intro d
  induction d with
  | zero =>
    intro n b h1 h2 h4 h3
    rw [List.drop_of_length_le (by omega)] at h3
    simp at h3
    omega
  | succ d ih =>
    intro n b h1 h2 h4 h3
    have hn : n < W.length := by omega
    have hx := List.getElem?_eq_getElem hn
    have e := List.drop_eq_getElem_cons hn
    have hm := hw W[n] (List.getElem_mem hn)
    rw [e] at h3 ⊢
    simp only [List.sum_cons] at h3
    refine Ev.step (fun k => by rw [spec_BitName.l1]) ?_
    rw [show rd W (n : Int) = W[n] from getD_of hx]
    generalize W[n] = w at *
    refine ev_pos (by omega) (ev_pos (by omega) ?_)
    unfold nameAt
    by_cases hb : b < w
    · rw [if_pos hb]
      refine ev_neg (by omega) (ev_bind (dec_ev (by omega) (by omega)) (ev_pos ?_ (ev_pos ?_ (ev_pos (by omega) (ev_pos (by omega) ?_)))))
      · show (1 + 1 : Nat) ≤ _
        omega
      · rw [ByteArray.size_append]
        show (1 + 1 + 1 : Nat) ≤ _
        omega
      · rw [wrap_in (x := w - 1) (by omega) (by omega), wrap_in (x := w - 1 - b) (by omega) (by omega)]
        refine ev_bind (dec_ev (by omega) (by omega)) (ev_pos ?_ (ev_ret _))
        rw [ByteArray.size_append, ByteArray.size_append]
        show (1 + 1 + 1 + 1 : Nat) ≤ _
        omega
    · rw [if_neg hb]
      rw [wrap_in (x := b - w) (by omega) (by omega), wrap_nat (n := n) (m := W.length) hn (by omega)]
      exact ev_pos (by omega) (ev_pos (by omega) (ev_pos (by omega) (ih (n + 1) (b - w) (by omega) (by omega) (by omega) (by omega))))
theorem impl_name_ev (W : List Int) (hl : W.length ≤ 5) (hw : ∀ x ∈ W, 0 ≤ x ∧ x ≤ 5) : ∀ (d n : Nat) (b : Int), W.length - n = d → n ≤ W.length → 0 ≤ b → b ≤ 9223372036854775807 → Ev (fun k => impl_BitName.l1 k b (n : Int) W) (nameAt n (W.drop n) b) := by
  intro d
  induction d with
  | zero =>
    intro n b h1 h2 h3 h4
    rw [List.drop_of_length_le (by omega)]
    refine Ev.step (fun k => by rw [impl_BitName.l1]) ?_
    exact ev_neg (by omega) (ev_ret _)
  | succ d ih =>
    intro n b h1 h2 h3 h4
    have hn : n < W.length := by omega
    have hx := List.getElem?_eq_getElem hn
    have e := List.drop_eq_getElem_cons hn
    have hm := hw W[n] (List.getElem_mem hn)
    rw [e]
    refine Ev.step (fun k => by rw [impl_BitName.l1]) ?_
    rw [show rd W (n : Int) = W[n] from getD_of hx]
    generalize W[n] = w at *
    refine ev_pos (by omega) (ev_pos (by omega) (ev_pos (by omega) ?_))
    unfold nameAt
    by_cases hb : b < w
    · rw [if_pos hb]
      refine ev_pos hb (ev_bind (itoa_ev (by omega) (by omega)) (ev_pos ?_ (ev_pos ?_ ?_)))
      · show (1 + 1 : Nat) ≤ _
        omega
      · rw [ByteArray.size_append]
        show (1 + 1 + 1 : Nat) ≤ _
        omega
      · rw [wrap_in (x := w - 1) (by omega) (by omega), wrap_in (x := w - 1 - b) (by omega) (by omega)]
        refine ev_bind (itoa_ev (by omega) (by omega)) (ev_pos ?_ (ev_ret _))
        rw [ByteArray.size_append, ByteArray.size_append]
        show (1 + 1 + 1 + 1 : Nat) ≤ _
        omega
    · rw [if_neg hb]
      rw [wrap_in (x := b - w) (by omega) (by omega), wrap_nat (n := n) (m := W.length) hn (by omega)]
      exact ev_neg hb (ih (n + 1) (b - w) (by omega) (by omega) (by omega) (by omega))
def bitNameP (V : List IVar) (R : List IRule) (b : Int) : ByteArray := if sysP V R = true then (if b < 0 then ⟨#[]⟩ else nameAt 0 (widthsP V) b) else ⟨#[]⟩
theorem widths_in (V : List IVar) : ∀ x ∈ widthsP V, 0 ≤ x ∧ x ≤ 5 := by
  intro x hx
  obtain ⟨v, _, rfl⟩ := List.mem_map.1 hx
  exact bitsP_in _
theorem spec_BitName_ev (V : List IVar) (R : List IRule) (b : Int) (hb' : b ≤ 9223372036854775807) : Ev (fun k => spec_BitName.f k V R b) (bitNameP V R b) := by
  unfold spec_BitName.f spec_BitsOf.f bitNameP
  by_cases hs : sysP V R = true
  · have h5 : (widthsP V).length ≤ 5 := by have := (sysP_and hs).1.2; simpa [widthsP] using this
    rw [if_pos hs]
    refine ev_bind (ev_bind (spec_SystemValid_ev _ _) (ev_pos hs (ev_bind (spec_l6Widths_ev _ (sysP_and hs).1.2 (sysP_and hs).2.2.1) (ev_ret _)))) (ev_ite_eq (fun _ => ev_ret _) (fun hb => ?_))
    have e : sumP (widthsP V) = (widthsP V).sum := by
      unfold sumP
      rw [sum_fold _ 0 0 (by omega) (by omega) (widths_in V)]
      omega
    refine ev_bind (spec_l6Sum_ev _ (by omega)) ?_
    rw [e]
    refine ev_ite (fun hg => ?_) (fun hg => ?_)
    · rw [name_over _ 0 b (widths_in V) (by omega)]
      exact ev_ret _
    · exact spec_name_ev _ h5 (widths_in V) _ 0 b rfl (by omega) hb' (by rw [List.drop_zero]; omega)
  · rw [if_neg hs]
    refine ev_bind (ev_bind (spec_SystemValid_ev _ _) (ev_neg hs (ev_ret _))) (ev_ite (fun _ => ev_ret _) (fun hb => ?_))
    refine ev_bind (spec_l6Sum_ev [] (by simp)) (ev_pos ?_ (ev_ret _))
    show b ≥ 0
    omega
theorem impl_BitName_ev (V : List IVar) (R : List IRule) (b : Int) (hb : b ≤ 9223372036854775807) (hv : Ev (fun k => impl_SystemValid.f k V R) (sysP V R)) : Ev (fun k => impl_BitName.f k V R b) (bitNameP V R b) := by
  unfold impl_BitName.f bitNameP
  refine ev_bind hv (ev_ite_eq (fun hs => ev_ite_eq (fun _ => ev_ret _) (fun h0 => ?_)) (fun _ => ev_ret _))
  have h5 : (widthsP V).length ≤ 5 := by have := (sysP_and hs).1.2; simpa [widthsP] using this
  refine ev_bind (impl_bitsOf_ev _ (sysP_and hs).1.2 (sysP_and hs).2.2.1) ?_
  exact impl_name_ev _ h5 (widths_in V) _ 0 b rfl (by omega) (by omega) hb
theorem BitName_pure : laws_FnExactBitName.PureS := by
  intro vars rules b hv hr hb
  suffices h : Ev (fun k => laws_FnExactBitName.f k vars rules b) true from h.rounds
  unfold laws_FnExactBitName.f
  have hb' : b ≤ 9223372036854775807 := by simp [Lit.wf, IntKind.bits, IntKind.signed] at hb; omega
  refine ex_sys hv hr (fun r _ _ S => ?_)
  refine ev_bind S.to (ev_bind (spec_BitName_ev _ _ b hb') (ev_bind S.to (ev_bind (impl_BitName_ev _ _ b hb' S.impl) (ev_pos rfl (ev_bind S.to (ev_bind S.eq (ev_pos rfl (ev_ret _))))))))
end Go.Proofs.YtpbpmfckmgcdfaaDoor.PA
namespace Go.Proofs.YtpbpmfckmgcdfaaDoor.Pure
theorem FnExactBitName : Go.Proofs.YtpbpmfckmgcdfaaDoor.PA.laws_FnExactBitName.PureS := Go.Proofs.YtpbpmfckmgcdfaaDoor.PA.BitName_pure
end Go.Proofs.YtpbpmfckmgcdfaaDoor.Pure
end
