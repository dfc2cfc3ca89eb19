/- The plain side: what the Lean functions compute, without Go and memory; each theorem under the conditions that it names. -/
import Derived.Test.YtpjmiaooogephaaProg
import Derived.Below
import Derived.Deep.Draws
import Derived.Deep.AppendLies
import Derived.Maps.AppendAt
import Derived.OwnWalk
import Derived.Laws.BytesArg
import Derived.Laws.MakeOwn
import Derived.Laws.OwnMore
import Derived.Deep.OwnRows
import Derived.Tactics
import Derived.Lib.ConvBytes
import Derived.Laws.Slices
import Derived.WalkKit
import Derived.KernelRfl
import Derived.RowKit3
import Derived.Deep.LoopGhost
import Derived.Deep.QuietTactic
import Derived.BigQuiet
import Derived.WideLaws
import Derived.Deep.DeepCutAuto
import Derived.Deep.CutBlock
import Derived.Deep.RegionHeld3
import Derived.Laws.Rows
import Derived.Lib.AppendStr
import Derived.ArgAppend
import Derived.Laws.IdiomCopy
import Derived.OrdersHeld
import Derived.Laws.BitsLemmas
import Derived.RowKit
import Derived.Laws.StructEq
import Derived.Lib.SliceRun
import Derived.WalkSpells
import Derived.ChangeArms
import Derived.ChangeSlices
import Derived.Deep.Slices
import Derived.Test.YtpjmiaooogephaaKD5438592b15
section
set_option linter.unusedVariables false
set_option linter.unusedSimpArgs false
namespace Go.Proofs.Ytpjmiaooogephaa.PA
open Go.RowKit Go.Proofs.YtpjmiaooogephaaW.PrintWords
theorem ev_ret {α : Type} (r : α) : Ev (fun _ => some r) r := Ev.now r
theorem ev_pos {α : Type} {c : Prop} [Decidable c] {f g : Nat → Option α} {r : α} (h : c) (k : Ev f r) : Ev (fun n => if c then f n else g n) r := by
  simpa [h] using k
theorem ev_neg {α : Type} {c : Prop} [Decidable c] {f g : Nat → Option α} {r : α} (h : ¬ c) (k : Ev g r) : Ev (fun n => if c then f n else g n) r := by
  simpa [h] using k
theorem ev_ite {α : Type} {c : Prop} [Decidable c] {f g : Nat → Option α} {r : α} (h1 : c → Ev f r) (h2 : ¬ c → Ev g r) : Ev (fun n => if c then f n else g n) r := by
  by_cases h : c
  · exact ev_pos h (h1 h)
  · exact ev_neg h (h2 h)
theorem ev_ite_eq {α : Type} {c : Prop} [Decidable c] {f g : Nat → Option α} {r s : α} (h1 : c → Ev f r) (h2 : ¬ c → Ev g s) : Ev (fun n => if c then f n else g n) (if c then r else s) := by
  by_cases h : c
  · rw [if_pos h]; exact ev_pos h (h1 h)
  · rw [if_neg h]; exact ev_neg h (h2 h)
theorem ev_bind {α β : Type} {g : Nat → Option α} {f : Nat → α → Option β} {a : α} {r : β} (h : Ev g a) (k : Ev (fun n => f n a) r) : Ev (fun n => (g n).bind (fun t => f n t)) r := Ev.bind h k
theorem ev_fix {α : Type} {o : Option α} {r : α} (h : o = some r) : Ev (fun _ => o) r := ⟨0, fun _ _ => h⟩
theorem ev_eq {α : Type} {g : Nat → Option α} {r r' : α} (h : Ev g r) (e : r = r') : Ev g r' := e ▸ h
theorem wrap_in {x : Int} (h0 : -9223372036854775808 ≤ x) (h1 : x ≤ 9223372036854775807) : wrap64 x = x := by unfold wrap64; omega
theorem wrap_nat {n m : Nat} (h : n < m) (hm : m ≤ 9223372036854775807) : wrap64 ((n : Int) + 1) = ((n + 1 : Nat) : Int) := by unfold wrap64; omega
theorem getD_of {α : Type} {xs : List α} {n : Nat} {x d : α} (h : xs[n]? = some x) : xs.getD (n : Int).toNat d = x := by
  simp [List.getD_eq_getElem?_getD, h]
end Go.Proofs.Ytpjmiaooogephaa.PA
end
section
set_option linter.unusedVariables false
set_option linter.unusedSimpArgs false
namespace Go.Proofs.Ytpjmiaooogephaa.PA
open Go.RowKit Go.Proofs.YtpjmiaooogephaaW.PrintWords
def Tot {α : Type} (g : Nat → Option α) (Q : α → Prop) : Prop := ∃ r, Ev g r ∧ Q r
section
variable {α β : Type} {Q : α → Prop}
theorem tot_ret {r : α} (h : Q r) : Tot (fun _ => some r) Q := ⟨r, ev_ret r, h⟩
theorem tot_ev {g : Nat → Option α} {r : α} (h : Ev g r) (q : Q r) : Tot g Q := ⟨r, h, q⟩
theorem tot_fix {o : Option α} (h : ∃ r, o = some r ∧ Q r) : Tot (fun _ => o) Q := by obtain ⟨r, h, q⟩ := h; exact ⟨r, ev_fix h, q⟩
theorem tot_pos {c : Prop} [Decidable c] {f g : Nat → Option α} (h : c) (k : Tot f Q) : Tot (fun n => if c then f n else g n) Q := by
  obtain ⟨r, k, q⟩ := k
  exact ⟨r, ev_pos h k, q⟩
theorem tot_neg {c : Prop} [Decidable c] {f g : Nat → Option α} (h : ¬ c) (k : Tot g Q) : Tot (fun n => if c then f n else g n) Q := by
  obtain ⟨r, k, q⟩ := k
  exact ⟨r, ev_neg h k, q⟩
theorem tot_ite {c : Prop} [Decidable c] {f g : Nat → Option α} (h1 : c → Tot f Q) (h2 : ¬ c → Tot g Q) : Tot (fun n => if c then f n else g n) Q := by
  by_cases h : c
  · exact tot_pos h (h1 h)
  · exact tot_neg h (h2 h)
theorem tot_bind {g : Nat → Option β} {f : Nat → β → Option α} {R : β → Prop} (h : Tot g R) (k : ∀ b, R b → Tot (fun n => f n b) Q) : Tot (fun n => (g n).bind (fun t => f n t)) Q := by
  obtain ⟨b, h, q⟩ := h
  obtain ⟨r, k, q⟩ := k b q
  exact ⟨r, ev_bind h k, q⟩
theorem tot_step {g f : Nat → Option α} (h : ∀ k, g (k + 1) = f k) (k : Tot f Q) : Tot g Q := by
  obtain ⟨r, k, q⟩ := k
  exact ⟨r, Ev.step h k, q⟩
theorem tot_mono {g : Nat → Option α} {R : α → Prop} (h : Tot g R) (k : ∀ r, R r → Q r) : Tot g Q := by
  obtain ⟨r, h, q⟩ := h
  exact ⟨r, h, k r q⟩
end
def ByteL (b : List Int) : Prop := b.length ≤ 2000 ∧ ∀ x ∈ b, 0 ≤ x ∧ x < 256
theorem xor_nat (a b : Int) (ha : 0 ≤ a) (hb : 0 ≤ b) (ha' : a < 4611686018427387904) (hb' : b < 4611686018427387904) : ∃ n : Nat, Go.bits .xor .i64 a b = (n : Int) ∧ n < 9223372036854775808 := by
  obtain ⟨a, rfl⟩ := Int.eq_ofNat_of_zero_le ha
  obtain ⟨b, rfl⟩ := Int.eq_ofNat_of_zero_le hb
  refine ⟨a ^^^ b, ?_, Nat.xor_lt_two_pow (n := 63) (by omega) (by omega)⟩
  have h1 : a % 2 ^ 64 = a := Nat.mod_eq_of_lt (by omega)
  have h2 : b % 2 ^ 64 = b := Nat.mod_eq_of_lt (by omega)
  have h3 : a ^^^ b < 2 ^ 63 := Nat.xor_lt_two_pow (by omega) (by omega)
  unfold Go.bits
  simp only [BitVec.ofInt_natCast]
  rw [BitVec.toNat_xor, BitVec.toNat_ofNat, BitVec.toNat_ofNat]
  show Go.IntKind.i64.wrap (((a % 2 ^ 64) ^^^ (b % 2 ^ 64) : Nat) : Int) = _
  rw [h1, h2, Go.IntKind.wrap_i64]
  omega
theorem tmod_in {x n : Int} (hx : 0 ≤ x) (hn : 1 ≤ n) : 0 ≤ x.tmod n ∧ x.tmod n < n := ⟨Int.tmod_nonneg n hx, Int.tmod_lt_of_pos x (by omega)⟩
theorem byte_at {b : List Int} (h : ByteL b) {i : Int} (h0 : 0 ≤ i) (h1 : i < (b.length : Int)) : 0 ≤ rd b i ∧ rd b i < 256 := by
  have : b[i.toNat]? = some b[i.toNat] := List.getElem?_eq_getElem (by omega)
  have e : rd b i = b[i.toNat] := by
    show b.getD i.toNat _ = _
    simp [List.getD_eq_getElem?_getD, this]
  rw [e]
  exact h.2 _ (List.getElem_mem _)
end Go.Proofs.Ytpjmiaooogephaa.PA
end
section
set_option linter.unusedVariables false
set_option linter.unusedSimpArgs false
namespace Go.Proofs.Ytpjmiaooogephaa.PA
open Go.RowKit Go.Proofs.YtpjmiaooogephaaW.PrintWords
def inR (n lo hi : Int) : Bool := decide (lo ≤ n ∧ n ≤ hi)
theorem inR_iff {n lo hi : Int} : inR n lo hi = true ↔ lo ≤ n ∧ n ≤ hi := by simp [inR]
theorem spec_l1In_eq (n lo hi : Int) : spec_l1In.f n lo hi = some (inR n lo hi) := by
  unfold spec_l1In.f inR
  by_cases h : n ≥ lo
  · rw [if_pos h]; congr 1; simp; omega
  · rw [if_neg h]; congr 1; simp; omega
theorem impl_in_eq (n lo hi : Int) : impl_in.f n lo hi = some (inR n lo hi) := by
  unfold impl_in.f inR
  by_cases h : n ≥ lo
  · rw [if_pos h]; congr 1; simp; omega
  · rw [if_neg h]; congr 1; simp; omega
def wantP (op : Int) : Int := if op ≥ 7 then 2 else 1
def kindP (t : ITerm) (ks : List Int) (vars : Int) : Int :=
  if t.f0 = 0 ∧ (inR t.f1 (-9999) 9999 = true ∧ t.f2 = 0 ∧ t.f3 = 0) then 1
  else if t.f0 = 1 ∧ (inR t.f1 0 (vars - 1) = true ∧ t.f2 = 0 ∧ t.f3 = 0) then 1
  else if (inR t.f0 2 9 = true ∧ t.f1 = 0 ∧ inR t.f2 0 (ks.length - 1) = true ∧ inR t.f3 0 (ks.length - 1) = true) ∧ (rd ks t.f2 = wantP t.f0 ∧ rd ks t.f3 = wantP t.f0 ∧ (t.f0 = 7 → t.f3 = t.f2)) then (if t.f0 ≥ 5 then 2 else 1)
  else 0
theorem spec_l1Kind_eq (t : ITerm) (ks : List Int) (vars : Int) (hv : 0 ≤ vars ∧ vars ≤ 5) (hk : ks.length ≤ 40) (m : Nat) : spec_l1Kind.f (m + 6) t.f0 t.f1 t.f2 t.f3 ks vars = some (kindP t ks vars) := by
  have w1 : wrap64 (vars - 1) = vars - 1 := wrap_in (by omega) (by omega)
  have w2 : wrap64 ((ks.length : Int) - 1) = (ks.length : Int) - 1 := wrap_in (by omega) (by omega)
  simp only [spec_l1Kind.f, spec_l1Kind.j0, spec_l1Kind.j1, spec_l1Kind.j2, spec_l1Kind.j3, spec_l1Kind.j4, spec_l1In_eq, spec_l1One.f, Option.bind_some, w1, w2]
  unfold kindP wantP
  cases t with | mk op n a b =>
  dsimp only
  by_cases h0 : op = 0
  · subst h0
    by_cases h : inR n (-9999) 9999 = true ∧ a = 0 ∧ b = 0
    · simp [h.1, h.2.1, h.2.2]
    · have hc : ¬ ((0 : Int) = 0 ∧ (inR n (-9999) 9999 = true ∧ a = 0 ∧ b = 0)) := fun x => h x.2
      rw [if_neg hc]
      have : inR (0 : Int) 2 9 = false := by simp [inR]
      by_cases h1 : inR n (-9999) 9999 = true
      · by_cases h2 : a = 0
        · have h3 : b ≠ 0 := fun e => h ⟨h1, h2, e⟩
          simp [h1, h2, h3, this]
        · simp [h1, h2, this]
      · simp [h1, this]
  · have hc : ¬ (op = 0 ∧ (inR n (-9999) 9999 = true ∧ a = 0 ∧ b = 0)) := fun x => h0 x.1
    rw [if_neg hc, if_neg h0]
    by_cases h1 : op = 1
    · subst h1
      have h29 : inR (1 : Int) 2 9 = false := by simp [inR]
      by_cases h2 : inR n 0 (vars - 1) = true
      · by_cases h3 : a = 0
        · by_cases h4 : b = 0 <;> simp [h2, h3, h4, h29]
        · simp [h2, h3, h29]
      · simp [h2, h29]
    · have hc1 : ¬ (op = 1 ∧ (inR n 0 (vars - 1) = true ∧ a = 0 ∧ b = 0)) := fun x => h1 x.1
      rw [if_neg hc1]
      by_cases g1 : inR op 2 9 = true
      · by_cases g2 : n = 0
        · by_cases g3 : inR a 0 ((ks.length : Int) - 1) = true
          · by_cases g4 : inR b 0 ((ks.length : Int) - 1) = true
            · have ha := inR_iff.1 g3
              have hb := inR_iff.1 g4
              have ha1 : a < (ks.length : Int) := by omega
              have hb1 : b < (ks.length : Int) := by omega
              by_cases g7 : op ≥ 7
              · by_cases r1 : rd ks a = 2
                · by_cases r2 : rd ks b = 2
                  · by_cases o7 : op = 7
                    · subst o7
                      by_cases e : b = a <;> simp [h1, g1, g2, g3, g4, ha.1, hb.1, ha1, hb1, r1, r2, e]
                    · simp [h1, g1, g2, g3, g4, ha.1, hb.1, ha1, hb1, g7, r1, r2, o7]; split <;> rfl
                  · simp [h1, g1, g2, g3, g4, ha.1, hb.1, ha1, hb1, g7, r1, r2]
                · simp [h1, g1, g2, g3, g4, ha.1, hb.1, ha1, hb1, g7, r1]
              · have o7 : op ≠ 7 := by omega
                by_cases r1 : rd ks a = 1
                · by_cases r2 : rd ks b = 1
                  · simp [h1, g1, g2, g3, g4, ha.1, hb.1, ha1, hb1, g7, r1, r2, o7]; split <;> rfl
                  · simp [h1, g1, g2, g3, g4, ha.1, hb.1, ha1, hb1, g7, r1, r2]
                · simp [h1, g1, g2, g3, g4, ha.1, hb.1, ha1, hb1, g7, r1]
            · simp [h1, g1, g2, g3, g4]
          · simp [h1, g1, g2, g3]
        · simp [h1, g1, g2]
      · simp [h1, g1]
def kindsGo (vars : Int) : List ITerm → List Int → List Int
  | [], ks => ks
  | t :: ts, ks => if kindP t ks vars = 0 then [] else kindsGo vars ts (ks ++ [kindP t ks vars])
def kindsOk (l : List ITerm) (vars : Int) : Bool := inR vars 0 5 && inR l.length 1 40
def kindsP (l : List ITerm) (vars : Int) : List Int := if kindsOk l vars = true then kindsGo vars l [] else []
theorem kindsGo_length (vars : Int) : ∀ (l : List ITerm) (ks : List Int), kindsGo vars l ks = [] ∨ (kindsGo vars l ks).length = ks.length + l.length
  | [], ks => .inr (by simp [kindsGo])
  | t :: ts, ks => by
    unfold kindsGo
    split
    · exact .inl rfl
    · rcases kindsGo_length vars ts (ks ++ [kindP t ks vars]) with h | h
      · exact .inl h
      · exact .inr (by rw [h]; simp; omega)
theorem kindsP_length (l : List ITerm) (vars : Int) (h : kindsP l vars ≠ []) : (kindsP l vars).length = l.length ∧ kindsOk l vars = true := by
  unfold kindsP at h ⊢
  split
  · rename_i hk
    rw [if_pos hk] at h
    rcases kindsGo_length vars l [] with h1 | h1
    · exact absurd h1 h
    · exact ⟨by simpa using h1, hk⟩
  · rename_i hk
    rw [if_neg hk] at h
    exact absurd rfl h
theorem spec_KindsOf_ev (l : List ITerm) (vars : Int) : Ev (fun k => spec_KindsOf.f k l vars) (kindsP l vars) := by
  unfold spec_KindsOf.f
  simp only [spec_l1In_eq, Option.bind_some]
  by_cases h1 : inR vars 0 5 = true
  · by_cases h2 : inR (l.length : Int) 1 40 = true
    · have hv := inR_iff.1 h1
      have hl := inR_iff.1 h2
      refine ev_pos h1 (Ev.step (fun k => by rw [spec_KindsOf.j0]) (ev_neg (by simp [h2]) ?_))
      have hP : kindsP l vars = kindsGo vars l [] := by unfold kindsP kindsOk; simp [h1, h2]
      rw [hP]
      have key : ∀ d n : Nat, l.length - n = d → n ≤ l.length → ∀ ks : List Int, ks.length ≤ n → Ev (fun k => spec_KindsOf.l0 k l vars ks (n : Int)) (kindsGo vars (l.drop n) ks) := by
        intro d
        induction d with
        | zero =>
          intro n e1 e2 ks hks
          have : n = l.length := by omega
          subst this
          refine Ev.step (fun k => by rw [spec_KindsOf.l0]) (ev_neg (by omega) ?_)
          rw [List.drop_length]
          exact ev_ret _
        | succ d ih =>
          intro n e1 e2 ks hks
          have hn : n < l.length := by omega
          have hx := List.getElem?_eq_getElem hn
          refine Ev.step (fun k => by rw [spec_KindsOf.l0]) (ev_pos (by omega) (ev_pos (by omega) ?_))
          have hr : rd_ITerm l (n : Int) = l[n] := getD_of hx
          rw [hr]
          have hK : Ev (fun k => spec_l1Kind.f k l[n].f0 l[n].f1 l[n].f2 l[n].f3 ks vars) (kindP l[n] ks vars) :=
            ⟨6, fun k hk => by obtain ⟨m, rfl⟩ : ∃ m, k = m + 6 := ⟨k - 6, by omega⟩; exact spec_l1Kind_eq _ _ _ hv (by omega) m⟩
          refine ev_bind hK ?_
          rw [List.drop_eq_getElem_cons hn]
          unfold kindsGo
          refine ev_ite_eq (fun h => ev_ret _) (fun h => ev_pos (by omega) ?_)
          rw [wrap_nat hn (by omega)]
          exact ih (n + 1) (by omega) (by omega) _ (by simp; omega)
      have := key l.length 0 (by omega) (by omega) [] (by simp)
      simpa using this
    · refine ev_pos h1 (Ev.step (fun k => by rw [spec_KindsOf.j0]) (ev_pos (by simpa using h2) ?_))
      have hP : kindsP l vars = [] := by unfold kindsP kindsOk; simp [h2]
      rw [hP]
      exact ev_ret _
  · refine ev_neg h1 (Ev.step (fun k => by rw [spec_KindsOf.j0]) (ev_pos rfl ?_))
    have hP : kindsP l vars = [] := by unfold kindsP kindsOk; simp [h1]
    rw [hP]
    exact ev_ret _
def partsP (op : Int) : Int × Int × Int :=
  if op = 2 ∨ op = 3 ∨ op = 4 then (2, 1, 1) else if op = 5 ∨ op = 6 then (2, 1, 2) else if op = 7 then (1, 2, 2) else if op = 8 ∨ op = 9 then (2, 2, 2) else (0, 0, 1)
theorem impl_parts_eq (op : Int) (m : Nat) : impl_parts.f (m + 3) op = some (partsP op) := by
  simp only [impl_parts.f, impl_parts.j0, impl_parts.j1, impl_parts.j2]
  unfold partsP
  by_cases h2 : op = 2
  · subst h2; simp
  by_cases h3 : op = 3
  · subst h3; simp
  by_cases h4 : op = 4
  · subst h4; simp
  by_cases h5 : op = 5
  · subst h5; simp
  by_cases h6 : op = 6
  · subst h6; simp
  by_cases h7 : op = 7
  · subst h7; simp
  by_cases h8 : op = 8
  · subst h8; simp
  by_cases h9 : op = 9
  · subst h9; simp
  simp [h2, h3, h4, h5, h6, h7, h8, h9]
theorem impl_parts_ev (op : Int) : Ev (fun k => impl_parts.f k op) (partsP op) := ⟨3, fun k hk => by obtain ⟨m, rfl⟩ : ∃ m, k = m + 3 := ⟨k - 3, by omega⟩; exact impl_parts_eq op m⟩
theorem partsP_low (op : Int) (h : op = 0 ∨ op = 1) : (partsP op).2.2 = 1 := by
  rcases h with rfl | rfl <;> simp [partsP]
theorem partsP_high (op : Int) (h : inR op 2 9 = true) : (partsP op).2.1 = wantP op ∧ (partsP op).2.2 = (if op ≥ 5 then 2 else 1) ∧ ((partsP op).1 = 2 ↔ op ≠ 7) := by
  have := inR_iff.1 h
  obtain ⟨a, b⟩ := this
  have : op = 2 ∨ op = 3 ∨ op = 4 ∨ op = 5 ∨ op = 6 ∨ op = 7 ∨ op = 8 ∨ op = 9 := by omega
  rcases this with rfl | rfl | rfl | rfl | rfl | rfl | rfl | rfl <;> simp [partsP, wantP]
end Go.Proofs.Ytpjmiaooogephaa.PA
end
section
set_option linter.unusedVariables false
set_option linter.unusedSimpArgs false
namespace Go.Proofs.Ytpjmiaooogephaa.PA
open Go.RowKit Go.Proofs.YtpjmiaooogephaaW.PrintWords
theorem mix_in {u v p d : Int} (hu : 0 ≤ u ∧ u < 256) (hv : 0 ≤ v ∧ v < 256) (hp : 0 ≤ p ∧ p ≤ 1000000000000) (hd : 0 ≤ d ∧ d ≤ p) :
    wrap64 (wrap64 (wrap64 (wrap64 (wrap64 u * 131) + wrap64 (wrap64 v * 1117)) + wrap64 (p * 29)) + wrap64 (wrap64 d * 53)) = u * 131 + v * 1117 + p * 29 + d * 53 := by
  rw [wrap_in (x := u) (by omega) (by omega), wrap_in (x := v) (by omega) (by omega), wrap_in (x := d) (by omega) (by omega), wrap_in (x := u * 131) (by omega) (by omega), wrap_in (x := v * 1117) (by omega) (by omega), wrap_in (x := p * 29) (by omega) (by omega),
    wrap_in (x := d * 53) (by omega) (by omega), wrap_in (x := u * 131 + v * 1117) (by omega) (by omega), wrap_in (x := u * 131 + v * 1117 + p * 29) (by omega) (by omega), wrap_in (by omega) (by omega)]
def PickQ (p n : Int) (r : Int × Int) : Prop := r.1 = p + 1 ∧ 0 ≤ r.2 ∧ (1 ≤ n → r.2 < n) ∧ (n < 1 → r.2 = 0)
theorem pick_tot {b : List Int} (hb : ByteL b) {p : Int} (h0 : 0 ≤ p) (h1 : p ≤ 1000000000000) (n : Int) : Tot (fun k => spec_l40Rd_pick.f k b p n) (PickQ p n) := by
  unfold spec_l40Rd_pick.f
  have w1 : wrap64 (p + 1) = p + 1 := wrap_in (by omega) (by omega)
  have w2 : wrap64 (p + 1 - 1) = p := by rw [wrap_in (by omega) (by omega)]; omega
  simp only [w1, w2]
  refine tot_ite (fun h => tot_ret ⟨rfl, Int.le_refl _, fun _ => by omega, fun _ => rfl⟩) fun h => tot_ite (fun h2 => tot_ret ⟨rfl, Int.le_refl _, fun _ => by show (0 : Int) < n; omega, fun _ => rfl⟩) fun h2 => tot_ite (fun h3 => ?_) fun h3 => ?_
  · refine tot_pos h0 (tot_pos h3 (tot_pos (by omega) (tot_ret ?_)))
    have hr := byte_at hb h0 h3
    rw [wrap_in (x := rd b p) (by omega) (by omega)]
    have := tmod_in (x := rd b p) (n := n) hr.1 (by omega)
    exact ⟨rfl, this.1, fun _ => this.2, fun h => by omega⟩
  · have w3 : wrap64 (wrap64 (p * 7) + 3) = p * 7 + 3 := by rw [wrap_in (x := p * 7) (by omega) (by omega), wrap_in (by omega) (by omega)]
    simp only [w3]
    have m1 := tmod_in (x := p) (n := (b.length : Int)) h0 (by omega)
    have m2 := tmod_in (x := p * 7 + 3) (n := (b.length : Int)) (by omega) (by omega)
    refine tot_pos h2 (tot_pos m1.1 (tot_pos m1.2 (tot_pos h2 (tot_pos m2.1 (tot_pos m2.2 (tot_pos h2 (tot_pos (by omega) (tot_ret ?_))))))))
    have d1 : 0 ≤ Int.tdiv p (b.length : Int) := Int.tdiv_nonneg h0 (by omega)
    have d2 : Int.tdiv p (b.length : Int) ≤ p := by rw [Int.tdiv_eq_ediv_of_nonneg h0]; exact Int.ediv_le_self _ h0
    have r1 := byte_at hb m1.1 m1.2
    have r2 := byte_at hb m2.1 m2.2
    rw [mix_in r1 r2 ⟨h0, h1⟩ ⟨d1, d2⟩]
    generalize hX : rd b (Int.tmod p (b.length : Int)) * 131 + rd b (Int.tmod (p * 7 + 3) (b.length : Int)) * 1117 + p * 29 + Int.tdiv p (b.length : Int) * 53 = X
    have x0 : 0 ≤ X ∧ X ≤ 1000000000000000 := by omega
    have e1 : 0 ≤ Int.tdiv X 64 := Int.tdiv_nonneg x0.1 (by omega)
    have e2 : Int.tdiv X 64 ≤ X := by rw [Int.tdiv_eq_ediv_of_nonneg x0.1]; exact Int.ediv_le_self _ x0.1
    rw [wrap_in (x := Int.tdiv X 64) (by omega) (by omega)]
    obtain ⟨m, hm, _⟩ := xor_nat X (Int.tdiv X 64) x0.1 e1 (by omega) (by omega)
    rw [hm]
    have := tmod_in (x := (m : Int)) (n := n) (by omega) (by omega)
    exact ⟨rfl, this.1, fun _ => this.2, fun h => by omega⟩
theorem rd_mem {l : List Int} {i : Int} (h0 : 0 ≤ i) (h1 : i < (l.length : Int)) : rd l i ∈ l := by
  have : l[i.toNat]? = some l[i.toNat] := List.getElem?_eq_getElem (by omega)
  have e : rd l i = l[i.toNat] := by
    show l.getD i.toNat _ = _
    simp [List.getD_eq_getElem?_getD, this]
  rw [e]
  exact List.getElem_mem _
theorem num_tot {b : List Int} (hb : ByteL b) {p : Int} (h0 : 0 ≤ p) (h1 : p ≤ 1000000000000) (l : List Int) (hl : l ≠ []) : Tot (fun k => spec_l40Rd_num.f k b p l) (fun r => r.1 = p + 1 ∧ r.2 ∈ l) := by
  unfold spec_l40Rd_num.f
  have hn : 0 < l.length := List.length_pos_iff.2 hl
  refine tot_bind (pick_tot hb h0 h1 _) fun r q => ?_
  obtain ⟨q1, q2, q3, _⟩ := q
  have q3 := q3 (by omega)
  exact tot_pos q2 (tot_pos q3 (tot_ret ⟨q1, rd_mem q2 q3⟩))
theorem l1Number_tot {b : List Int} (hb : ByteL b) {p : Int} (h0 : 0 ≤ p) (h1 : p ≤ 100000000000) : Tot (fun k => spec_l1Number.f k b p) (fun r => r.1 = p + 6) := by
  unfold spec_l1Number.f
  refine tot_bind (pick_tot hb h0 (by omega) _) fun r1 q1 => tot_bind (pick_tot hb (by have := q1.1; omega) (by have := q1.1; omega) _) fun r2 q2 => ?_
  have e1 := q1.1
  have e2 := q2.1
  refine tot_bind (pick_tot hb (by omega) (by omega) _) fun r3 q3 => ?_
  have e3 := q3.1
  refine tot_bind (pick_tot hb (by omega) (by omega) _) fun r4 q4 => ?_
  have e4 := q4.1
  refine tot_bind (pick_tot hb (by omega) (by omega) _) fun r5 q5 => ?_
  have e5 := q5.1
  refine tot_pos q5.2.1 (tot_pos (q5.2.2.1 (by omega)) ?_)
  refine tot_bind (num_tot hb (by omega) (by omega) _ (by simp)) fun r6 q6 => tot_ret ?_
  have := q6.1
  show r6.1 = _
  omega
theorem l1Pick_tot {b : List Int} (hb : ByteL b) {p : Int} (h0 : 0 ≤ p) (h1 : p ≤ 100000000000) (ks : List Int) (hk : ks.length ≤ 1000) (a : Int) : Tot (fun k => spec_l1Pick.f k b p ks a) (fun r => r.1 = p + 1) := by
  unfold spec_l1Pick.f
  refine tot_bind (pick_tot hb h0 (by omega) _) fun r1 q1 => ?_
  obtain ⟨e1, e2, e3, e4⟩ := q1
  have key : ∀ d n : Nat, ks.length - n = d → n ≤ ks.length → Tot (fun k => spec_l1Pick.l1 k (n : Int) b ks a r1) (fun r => r.1 = p + 1) := by
    intro d
    induction d with
    | zero =>
      intro n g1 g2
      refine tot_step (fun k => by rw [spec_l1Pick.l1]) ?_
      exact tot_neg (by omega) (tot_ret e1)
    | succ d ih =>
      intro n g1 g2
      have e3 := e3 (by omega)
      refine tot_step (fun k => by rw [spec_l1Pick.l1]) (tot_pos (by omega) (tot_pos (by omega) ?_))
      have m := tmod_in (x := wrap64 (r1.2 + (n : Int))) (n := (ks.length : Int)) (by rw [wrap_in (by omega) (by omega)]; omega) (by omega)
      refine tot_pos m.1 (tot_pos m.2 (tot_ite (fun _ => tot_ret e1) fun _ => ?_))
      rw [wrap_nat (n := n) (m := ks.length) (by omega) (by omega)]
      exact ih (n + 1) (by omega) (by omega)
  exact key ks.length 0 (by omega) (by omega)
theorem kind_tot (o n a c : Int) (ks : List Int) (vars : Int) (hv : 0 ≤ vars ∧ vars ≤ 5) (hk : ks.length ≤ 40) : Tot (fun k => spec_l1Kind.f k o n a c ks vars) (fun _ => True) :=
  ⟨_, ⟨6, fun k hk' => by obtain ⟨m, rfl⟩ : ∃ m, k = m + 6 := ⟨k - 6, by omega⟩; exact spec_l1Kind_eq ⟨o, n, a, c⟩ _ _ hv hk m⟩, trivial⟩
section
variable {b : List Int} (hb : ByteL b) {vars kind : Int} (hv : 0 ≤ vars ∧ vars ≤ 5)
def TermsQ (p : Int) (n m : Nat) (r : Int × List ITerm) : Prop := p ≤ r.1 ∧ r.1 ≤ p + 20 * n + 10 ∧ 0 < r.2.length ∧ r.2.length ≤ m
include hb in
theorem j10_tot {p : Int} (h0 : 0 ≤ p) (h1 : p ≤ 10000000000) (x9 : List ITerm) (x10 : List Int) (he : x9.length = x10.length) (hn : 0 < x9.length) (hl : x9.length ≤ 30) :
    Tot (fun k => spec_l1Terms.j10 k x9 x10 b kind p) (fun r => p ≤ r.1 ∧ r.1 ≤ p + 10 ∧ 0 < r.2.length ∧ r.2.length ≤ x9.length + 1) := by
  refine tot_step (fun k => by rw [spec_l1Terms.j10]) ?_
  have w : wrap64 ((x9.length : Int) - 1) = (x9.length : Int) - 1 := wrap_in (by omega) (by omega)
  simp only [w]
  have sm : Tot (fun _ => some (p, x9)) (fun r : Int × List ITerm => p ≤ r.1 ∧ r.1 ≤ p + 10 ∧ 0 < r.2.length ∧ r.2.length ≤ x9.length + 1) := tot_ret ⟨Int.le_refl _, by show p ≤ _; omega, hn, by show x9.length ≤ _; omega⟩
  have n2 : Tot (fun k => (spec_l1Pick.f k b p x10 1).bind fun r16 => (spec_l40Rd_num.f k b r16.1 [2, 3]).bind fun r17 => (spec_l1Pick.f k b r17.1 x10 1).bind fun r18 => if x9.length + 1 ≤ 1099511627776 then (some (r18.1, (x9 ++ [(⟨r17.2, 0, r16.2, r18.2⟩ : ITerm)]))) else none)
      (fun r : Int × List ITerm => p ≤ r.1 ∧ r.1 ≤ p + 10 ∧ 0 < r.2.length ∧ r.2.length ≤ x9.length + 1) := by
    refine tot_bind (l1Pick_tot hb h0 (by omega) _ (by omega) _) fun r1 q1 => tot_bind (num_tot hb (by omega) (by omega) _ (by simp)) fun r2 q2 => tot_bind (l1Pick_tot hb (by omega) (by omega) _ (by omega) _) fun r3 q3 => tot_pos (by omega) (tot_ret ?_)
    refine ⟨by show p ≤ r3.1; omega, by show r3.1 ≤ _; omega, by simp, by simp⟩
  have n1 : Tot (fun k => if kind = 1 then (if 0 ≤ (x9.length : Int) - 1 then (if (x9.length : Int) - 1 < (x10.length : Int) then (if rd x10 ((x9.length : Int) - 1) ≠ kind then ((spec_l1Pick.f k b p x10 1).bind fun r16 => (spec_l40Rd_num.f k b r16.1 [2, 3]).bind fun r17 => (spec_l1Pick.f k b r17.1 x10 1).bind fun r18 => if x9.length + 1 ≤ 1099511627776 then (some (r18.1, (x9 ++ [(⟨r17.2, 0, r16.2, r18.2⟩ : ITerm)]))) else none) else (some (p, x9))) else none) else none) else (some (p, x9)))
      (fun r : Int × List ITerm => p ≤ r.1 ∧ r.1 ≤ p + 10 ∧ 0 < r.2.length ∧ r.2.length ≤ x9.length + 1) := tot_ite (fun _ => tot_pos (by omega) (tot_pos (by omega) (tot_ite (fun _ => n2) fun _ => sm))) fun _ => sm
  refine tot_ite (fun _ => tot_pos (by omega) (tot_pos (by omega) (tot_ite (fun _ => ?_) fun _ => n1))) fun _ => n1
  refine tot_bind (num_tot hb h0 (by omega) _ (by simp)) fun r1 q1 => tot_bind (l1Pick_tot hb (by omega) (by omega) _ (by omega) _) fun r2 q2 => tot_pos (by omega) (tot_ret ?_)
  refine ⟨by show p ≤ r2.1; omega, by show r2.1 ≤ _; omega, by simp, by simp⟩
include hb hv in
theorem l1TermsL_tot : ∀ (n : Nat) (p : Int) (x9 : List ITerm) (x10 : List Int), 0 ≤ p → p + 20 * n ≤ 1000000000 → x9.length = x10.length → x9.length + n ≤ 25 → Tot (fun k => spec_l1Terms.l1 k p x9 x10 (n : Int) b vars kind) (TermsQ p n (x9.length + n + 2))
  | 0, p, x9, x10, h0, h1, he, hl => by
    refine tot_step (fun k => by rw [spec_l1Terms.l1]) ?_
    refine tot_neg (by omega) (tot_ite (fun h => tot_pos (by omega) (tot_pos (by omega) ?_)) fun h => ?_)
    · refine tot_mono (j10_tot hb h0 (by omega) _ _ (by simp; omega) (by simp) (by simp; omega)) fun r q => ?_
      simp only [List.length_append, List.length_cons, List.length_nil] at q
      exact ⟨q.1, by omega, q.2.2.1, by omega⟩
    · refine tot_mono (j10_tot hb h0 (by omega) _ _ he (by omega) (by omega)) fun r q => ?_
      exact ⟨q.1, by omega, q.2.2.1, by omega⟩
  | n + 1, p, x9, x10, h0, h1, he, hl => by
    have ih := l1TermsL_tot n
    have w : wrap64 (((n + 1 : Nat) : Int) - 1) = (n : Int) := by rw [wrap_in (by omega) (by omega)]; omega
    have j2 : ∀ p' o nn a c, p ≤ p' → p' ≤ p + 20 → Tot (fun k => spec_l1Terms.j2 k p' o nn a c b vars kind x9 x10 ((n + 1 : Nat) : Int)) (TermsQ p (n + 1) (x9.length + (n + 1) + 2)) := fun p' o nn a c g1 g2 => by
      refine tot_step (fun k => by rw [spec_l1Terms.j2]) (tot_bind (kind_tot o nn a c x10 vars hv (by omega)) fun r3 _ => ?_)
      rw [w]
      refine tot_ite (fun _ => tot_pos (by omega) (tot_pos (by omega) ?_)) fun _ => ?_
      · refine tot_mono (ih p' _ _ (by omega) (by omega) (by simp; omega) (by simp; omega)) fun r q => ?_
        obtain ⟨q1, q2, q3, q4⟩ := q
        simp only [List.length_append, List.length_cons, List.length_nil] at q4
        exact ⟨by omega, by omega, q3, by omega⟩
      · refine tot_mono (ih p' _ _ (by omega) (by omega) he (by omega)) fun r q => ?_
        obtain ⟨q1, q2, q3, q4⟩ := q
        exact ⟨by omega, by omega, q3, by omega⟩
    have j3 : ∀ p' o nn, p ≤ p' → p' ≤ p + 20 → Tot (fun k => spec_l1Terms.j3 k p' o nn b vars kind x9 x10 ((n + 1 : Nat) : Int)) (TermsQ p (n + 1) (x9.length + (n + 1) + 2)) := fun p' o nn g1 g2 => tot_step (fun k => by rw [spec_l1Terms.j3]) (j2 p' o nn 0 0 g1 g2)
    have j4 : ∀ p' o nn, p ≤ p' → p' ≤ p + 20 → Tot (fun k => spec_l1Terms.j4 k p' o nn b vars kind x9 x10 ((n + 1 : Nat) : Int)) (TermsQ p (n + 1) (x9.length + (n + 1) + 2)) := fun p' o nn g1 g2 => tot_step (fun k => by rw [spec_l1Terms.j4]) (j3 p' o nn g1 g2)
    have j5 : ∀ p' o nn a c, p ≤ p' → p' ≤ p + 20 → Tot (fun k => spec_l1Terms.j5 k p' o nn a c b vars kind x9 x10 ((n + 1 : Nat) : Int)) (TermsQ p (n + 1) (x9.length + (n + 1) + 2)) := fun p' o nn a c g1 g2 => tot_step (fun k => by rw [spec_l1Terms.j5]) (j2 p' o nn a c g1 g2)
    have j6 : ∀ p' o nn, p ≤ p' → p' ≤ p + 20 → Tot (fun k => spec_l1Terms.j6 k p' o nn b vars kind x9 x10 ((n + 1 : Nat) : Int)) (TermsQ p (n + 1) (x9.length + (n + 1) + 2)) := fun p' o nn g1 g2 => tot_step (fun k => by rw [spec_l1Terms.j6]) (j5 p' o nn 0 0 g1 g2)
    have j7 : ∀ p' o nn, p ≤ p' → p' ≤ p + 20 → Tot (fun k => spec_l1Terms.j7 k p' o nn b vars kind x9 x10 ((n + 1 : Nat) : Int)) (TermsQ p (n + 1) (x9.length + (n + 1) + 2)) := fun p' o nn g1 g2 => tot_step (fun k => by rw [spec_l1Terms.j7]) (j6 p' o nn g1 g2)
    have j8 : ∀ wt (r2 : Int × Int), r2.1 = p + 1 → Tot (fun k => spec_l1Terms.j8 k wt b vars kind x9 x10 ((n + 1 : Nat) : Int) r2) (TermsQ p (n + 1) (x9.length + (n + 1) + 2)) := fun wt r2 e => by
      refine tot_step (fun k => by rw [spec_l1Terms.j8]) (tot_bind (l1Pick_tot hb (by omega) (by omega) _ (by omega) _) fun r8 q8 => tot_bind (l1Pick_tot hb (by omega) (by omega) _ (by omega) _) fun r9 q9 => ?_)
      have j9 : ∀ c, Tot (fun k => spec_l1Terms.j9 k c b vars kind x9 x10 ((n + 1 : Nat) : Int) r2 r8 r9) (TermsQ p (n + 1) (x9.length + (n + 1) + 2)) := fun c => tot_step (fun k => by rw [spec_l1Terms.j9]) (j5 _ _ _ _ _ (by omega) (by omega))
      exact tot_bind (R := fun _ => True) (tot_fix ⟨_, rfl, trivial⟩) fun r10 _ => tot_ite (fun _ => j9 _) fun _ => j9 _
    refine tot_step (fun k => by rw [spec_l1Terms.l1]) (tot_pos (by omega) (tot_bind (num_tot hb h0 (by omega) _ (by simp)) fun r2 q2 => ?_))
    obtain ⟨e2, _⟩ := q2
    refine tot_ite (fun _ => tot_bind (l1Number_tot hb (by omega) (by omega)) fun r4 q4 => ?_) fun _ => tot_ite (fun _ => tot_bind (l1Number_tot hb (by omega) (by omega)) fun r4 q4 => ?_) fun _ => tot_ite (fun _ => j8 _ _ e2) fun _ => j8 _ _ e2
    · refine tot_ite (fun _ => tot_ite (fun _ => tot_bind (pick_tot hb (by omega) (by omega) _) fun r5 q5 => ?_) fun _ => j4 _ _ _ (by omega) (by omega)) fun _ => j3 _ _ _ (by omega) (by omega)
      have := q5.1
      exact j4 _ _ _ (by omega) (by omega)
    · refine tot_ite (fun _ => tot_ite (fun _ => tot_bind (pick_tot hb (by omega) (by omega) _) fun r5 q5 => ?_) fun _ => j7 _ _ _ (by omega) (by omega)) fun _ => j6 _ _ _ (by omega) (by omega)
      have := q5.1
      exact j7 _ _ _ (by omega) (by omega)
include hb hv in
theorem l1Terms_tot {p : Int} (h0 : 0 ≤ p) (h1 : p ≤ 100000000) (most : Int) (hm : 1 ≤ most ∧ most ≤ 12) : Tot (fun k => spec_l1Terms.f k b p vars kind most) (fun r => p ≤ r.1 ∧ r.1 ≤ p + 300 ∧ 0 < r.2.length ∧ r.2.length ≤ 20) := by
  unfold spec_l1Terms.f
  refine tot_bind (pick_tot hb h0 (by omega) _) fun r1 q1 => ?_
  obtain ⟨e1, e2, e3, e4⟩ := q1
  have e3 := e3 hm.1
  obtain ⟨n, hn⟩ : ∃ n : Nat, (n : Int) = 2 + r1.2 := ⟨(2 + r1.2).toNat, by omega⟩
  rw [wrap_in (x := 2 + r1.2) (by omega) (by omega), ← hn]
  refine tot_mono (l1TermsL_tot hb hv n r1.1 [] [] (by omega) (by omega) rfl (by simp; omega)) fun r q => ?_
  obtain ⟨q1, q2, q3, q4⟩ := q
  simp only [List.length_nil] at q4
  exact ⟨by omega, by omega, q3, by omega⟩
end
end Go.Proofs.Ytpjmiaooogephaa.PA
end
section
set_option linter.unusedVariables false
set_option linter.unusedSimpArgs false
namespace Go.Proofs.Ytpjmiaooogephaa.PA
open Go.RowKit Go.Proofs.YtpjmiaooogephaaW.PrintWords
theorem kindsGo_step {vars : Int} {t : ITerm} {ts : List ITerm} {ks : List Int} {r : Int} (h : kindP t ks vars = r) (hr : r ≠ 0) : kindsGo vars (t :: ts) ks = kindsGo vars ts (ks ++ [r]) := by
  rw [kindsGo, h, if_neg hr]
theorem kindsGo_none {vars : Int} {t : ITerm} {ts : List ITerm} {ks : List Int} (h : kindP t ks vars = 0) : kindsGo vars (t :: ts) ks = [] := by
  rw [kindsGo, if_pos h]
theorem impl_kindsOf_ev (l : List ITerm) (vars : Int) : Ev (fun k => impl_kindsOf.f k l vars) (kindsP l vars) := by
  unfold impl_kindsOf.f
  simp only [impl_in_eq, Option.bind_some]
  by_cases h1 : inR vars 0 5 = true
  · by_cases h2 : inR (l.length : Int) 1 40 = true
    · have hv := inR_iff.1 h1
      have hl := inR_iff.1 h2
      refine ev_pos h1 (Ev.step (fun k => by rw [impl_kindsOf.j0]) (ev_neg (by simp [h2]) (ev_pos (by omega) (ev_pos (by omega) ?_))))
      have hP : kindsP l vars = kindsGo vars l [] := by unfold kindsP kindsOk; simp [h1, h2]
      rw [hP]
      have w1 : wrap64 (vars - 1) = vars - 1 := wrap_in (by omega) (by omega)
      have key : ∀ d n : Nat, l.length - n = d → n ≤ l.length → ∀ ks : List Int, ks.length = n → Ev (fun k => impl_kindsOf.l0 k vars ks l (l.length : Int) (n : Int)) (kindsGo vars (l.drop n) ks) := by
        intro d
        induction d with
        | zero =>
          intro n e1 e2 ks hks
          have : n = l.length := by omega
          subst this
          refine Ev.step (fun k => by rw [impl_kindsOf.l0]) (ev_neg (by omega) (ev_pos (by omega) ?_))
          rw [List.drop_length]
          exact ev_ret _
        | succ d ih =>
          intro n e1 e2 ks hks
          have hn : n < l.length := by omega
          have hx := List.getElem?_eq_getElem hn
          refine Ev.step (fun k => by rw [impl_kindsOf.l0]) (ev_pos (by omega) (ev_pos (by omega) (ev_pos (by omega) ?_)))
          have hr : rd_ITerm l (n : Int) = l[n] := getD_of hx
          rw [hr, List.drop_eq_getElem_cons hn]
          generalize l[n] = t
          have w2 : wrap64 ((n : Int) - 1) = (ks.length : Int) - 1 := by rw [hks]; exact wrap_in (by omega) (by omega)
          have J : ∀ (r : Int) (b : Bool), (b = true → kindP t ks vars = r ∧ r ≠ 0) → (b = false → kindP t ks vars = 0) → Ev (fun k => impl_kindsOf.j2 k vars ks r b l (l.length : Int) (n : Int)) (kindsGo vars (t :: l.drop (n + 1)) ks) := by
            intro r b h1 h2
            refine Ev.step (fun k => by rw [impl_kindsOf.j2]) ?_
            cases b with
            | true =>
              obtain ⟨h, hr⟩ := h1 rfl
              refine ev_pos rfl (ev_pos (by omega) ?_)
              rw [wrap_nat hn (by omega), kindsGo_step h hr]
              exact ih (n + 1) (by omega) (by omega) _ (by simp; omega)
            | false => exact ev_neg (by simp) (by rw [kindsGo_none (h2 rfl)]; exact ev_ret _)
          refine ev_bind (impl_parts_ev t.f0) ?_
          simp only [impl_in_eq, Option.bind_some, w1, w2]
          cases t with | mk op n' a b =>
          dsimp only at J ⊢
          have stop : ∀ r : Int, kindP ⟨op, n', a, b⟩ ks vars = 0 → Ev (fun k => impl_kindsOf.j2 k vars ks r false l (l.length : Int) (n : Int)) (kindsGo vars (⟨op, n', a, b⟩ :: l.drop (n + 1)) ks) := fun r h => J r false (fun e => by cases e) (fun _ => h)
          by_cases h0 : op = 0
          · refine ev_pos h0 ?_
            have hp := partsP_low op (.inl h0)
            have z : inR op 2 9 = false := by subst h0; simp [inR]
            by_cases g1 : inR n' (-9999) 9999 = true
            · by_cases g2 : a = 0
              · refine ev_pos g1 (ev_pos g2 (J _ _ (fun e => ?_) (fun e => ?_)))
                · rw [hp]
                  exact ⟨by unfold kindP; rw [if_pos ⟨h0, g1, g2, by simpa using e⟩], by decide⟩
                · have g3 : b ≠ 0 := by simpa using e
                  subst h0; simp [kindP, g3, z]
              · exact ev_pos g1 (ev_neg g2 (stop _ (by subst h0; simp [kindP, g2, z])))
            · exact ev_neg g1 (stop _ (by subst h0; simp [kindP, g1, z]))
          · refine ev_neg h0 ?_
            by_cases h1' : op = 1
            · refine ev_pos h1' ?_
              have hp := partsP_low op (.inr h1')
              have z : inR op 2 9 = false := by subst h1'; simp [inR]
              by_cases g1 : inR n' 0 (vars - 1) = true
              · by_cases g2 : a = 0
                · refine ev_pos g1 (ev_pos g2 (J _ _ (fun e => ?_) (fun e => ?_)))
                  · rw [hp]
                    exact ⟨by unfold kindP; rw [if_neg (fun x => h0 x.1), if_pos ⟨h1', g1, g2, by simpa using e⟩], by decide⟩
                  · have g3 : b ≠ 0 := by simpa using e
                    subst h1'; simp [kindP, g3, z]
                · exact ev_pos g1 (ev_neg g2 (stop _ (by subst h1'; simp [kindP, g2, z])))
              · exact ev_neg g1 (stop _ (by subst h1'; simp [kindP, g1, z]))
            · refine ev_neg h1' ?_
              have c0 : ∀ P : Prop, ¬ (op = 0 ∧ P) := fun P x => h0 x.1
              have c1 : ∀ P : Prop, ¬ (op = 1 ∧ P) := fun P x => h1' x.1
              by_cases g0 : inR op 0 9 = true
              · have g29 : inR op 2 9 = true := by have := inR_iff.1 g0; exact inR_iff.2 (by omega)
                obtain ⟨p1, p2, p3⟩ := partsP_high op g29
                refine ev_pos g0 ?_
                rw [p1]
                by_cases g1 : n' = 0
                · refine ev_pos g1 ?_
                  by_cases g2 : inR a 0 ((ks.length : Int) - 1) = true
                  · refine ev_pos g2 ?_
                    by_cases g3 : inR b 0 ((ks.length : Int) - 1) = true
                    · have ha := inR_iff.1 g2
                      have hb := inR_iff.1 g3
                      refine ev_pos g3 (ev_pos ha.1 (ev_pos (by omega) ?_))
                      by_cases g4 : rd ks a = wantP op
                      · refine ev_pos g4 (ev_pos hb.1 (ev_pos (by omega) ?_))
                        by_cases g5 : rd ks b = wantP op
                        · refine ev_pos g5 ?_
                          have hres : (op = 7 → b = a) → kindP ⟨op, n', a, b⟩ ks vars = (partsP op).2.2 := fun e => by
                            unfold kindP
                            dsimp only
                            rw [if_neg (c0 _), if_neg (c1 _), if_pos ⟨⟨g29, g1, g2, g3⟩, g4, g5, e⟩, p2]
                          have hne : (partsP op).2.2 ≠ 0 := by rw [p2]; split <;> decide
                          by_cases g6 : (partsP op).1 = 2
                          · exact ev_pos g6 (J _ _ (fun _ => ⟨hres (fun e => absurd e (p3.1 g6)), hne⟩) (fun e => by cases e))
                          · have e7 : op = 7 := by
                              by_cases e : op = 7
                              · exact e
                              · exact absurd (p3.2 e) g6
                            refine ev_neg g6 (J _ _ (fun e => ⟨hres (fun _ => (beq_iff_eq.1 e).symm), hne⟩) (fun e => ?_))
                            have g7 : a ≠ b := beq_eq_false_iff_ne.1 e
                            unfold kindP
                            dsimp only
                            rw [if_neg (c0 _), if_neg (c1 _), if_neg (fun x => g7 (x.2.2.2 e7).symm)]
                        · refine ev_neg g5 (stop _ ?_)
                          unfold kindP
                          dsimp only
                          rw [if_neg (c0 _), if_neg (c1 _), if_neg (fun x => g5 x.2.2.1)]
                      · refine ev_neg g4 (stop _ ?_)
                        unfold kindP
                        dsimp only
                        rw [if_neg (c0 _), if_neg (c1 _), if_neg (fun x => g4 x.2.1)]
                    · refine ev_neg g3 (stop _ ?_)
                      unfold kindP
                      dsimp only
                      rw [if_neg (c0 _), if_neg (c1 _), if_neg (fun x => g3 x.1.2.2.2)]
                  · refine ev_neg g2 (stop _ ?_)
                    unfold kindP
                    dsimp only
                    rw [if_neg (c0 _), if_neg (c1 _), if_neg (fun x => g2 x.1.2.2.1)]
                · refine ev_neg g1 (stop _ ?_)
                  unfold kindP
                  dsimp only
                  rw [if_neg (c0 _), if_neg (c1 _), if_neg (fun x => g1 x.1.2.1)]
              · have gf : inR op 0 9 = false := by simpa using g0
                refine ev_neg g0 ?_
                rw [gf]
                refine stop _ ?_
                unfold kindP
                dsimp only
                rw [if_neg (c0 _), if_neg (c1 _), if_neg (fun x => g0 (by have := inR_iff.1 x.1.1; exact inR_iff.2 (by omega)))]
      have := key l.length 0 (by omega) (by omega) [] (by simp)
      simpa using this
    · refine ev_pos h1 (Ev.step (fun k => by rw [impl_kindsOf.j0]) (ev_pos (by simpa using h2) ?_))
      have hP : kindsP l vars = [] := by unfold kindsP kindsOk; simp [h2]
      rw [hP]
      exact ev_ret _
  · refine ev_neg h1 (Ev.step (fun k => by rw [impl_kindsOf.j0]) (ev_pos rfl ?_))
    have hP : kindsP l vars = [] := by unfold kindsP kindsOk; simp [h1]
    rw [hP]
    exact ev_ret _
def kindOfP (l : List ITerm) (vars : Int) : Int := if kindsP l vars = [] then 0 else rd (kindsP l vars) (((kindsP l vars).length : Int) - 1)
theorem kindsP_le (l : List ITerm) (vars : Int) : (kindsP l vars).length ≤ 40 := by
  by_cases h : kindsP l vars = []
  · rw [h]; simp
  · obtain ⟨h1, h2⟩ := kindsP_length l vars h
    unfold kindsOk at h2
    have := inR_iff.1 (Bool.and_eq_true_iff.1 h2).2
    omega
theorem impl_kindOf_ev (l : List ITerm) (vars : Int) : Ev (fun k => impl_kindOf.f k l vars) (kindOfP l vars) := by
  unfold impl_kindOf.f kindOfP
  refine ev_bind (impl_kindsOf_ev l vars) ?_
  have hle := kindsP_le l vars
  refine ev_ite_eq (fun h => ev_ret _) (fun h => ?_)
  have hp : 0 < (kindsP l vars).length := List.length_pos_iff.2 h
  have w : wrap64 (((kindsP l vars).length : Int) - 1) = ((kindsP l vars).length : Int) - 1 := wrap_in (by omega) (by omega)
  rw [w]
  exact ev_pos (by omega) (ev_pos (by omega) (ev_ret _))
theorem spec_l2Is_ev (l : List ITerm) (vars kind : Int) (hk : kind ≠ 0) : Ev (fun k => spec_l2Is.f k l vars kind) (kindOfP l vars == kind) := by
  unfold spec_l2Is.f
  refine ev_bind (spec_KindsOf_ev l vars) ?_
  have hle := kindsP_le l vars
  by_cases h : kindsP l vars = []
  · have e : kindOfP l vars = 0 := by unfold kindOfP; rw [if_pos h]
    rw [e, show ((0 : Int) == kind) = false from by simpa using (Ne.symm hk)]
    exact ev_neg (by rw [h]; simp) (ev_ret _)
  · have e : kindOfP l vars = rd (kindsP l vars) (((kindsP l vars).length : Int) - 1) := by unfold kindOfP; rw [if_neg h]
    have hp : 0 < (kindsP l vars).length := List.length_pos_iff.2 h
    have w : wrap64 (((kindsP l vars).length : Int) - 1) = ((kindsP l vars).length : Int) - 1 := wrap_in (by omega) (by omega)
    rw [w, e]
    exact ev_pos (by omega) (ev_pos (by omega) (ev_pos (by omega) (ev_ret _)))
def varP (v : IVar) : Bool := inR v.f0 (-9999) 9999 && (inR v.f1 v.f0 9999 && (decide (v.f1 - v.f0 < 20) && inR v.f2 v.f0 v.f1))
theorem span_wrap {v : IVar} (h0 : inR v.f0 (-9999) 9999 = true) (h1 : inR v.f1 v.f0 9999 = true) : wrap64 (v.f1 - v.f0) = v.f1 - v.f0 := by
  have := inR_iff.1 h0; have := inR_iff.1 h1
  exact wrap_in (by omega) (by omega)
theorem spec_l2Var_eq (v : IVar) : spec_l2Var.f v.f0 v.f1 v.f2 = some (varP v) := by
  unfold spec_l2Var.f varP
  simp only [spec_l1In_eq, Option.bind_some]
  by_cases h0 : inR v.f0 (-9999) 9999 = true
  · by_cases h1 : inR v.f1 v.f0 9999 = true
    · rw [span_wrap h0 h1]
      by_cases h2 : v.f1 - v.f0 < 20 <;> simp [h0, h1, h2]
    · simp [h0, h1]
  · simp [h0]
theorem impl_varOk_eq (v : IVar) : impl_varOk.f v.f0 v.f1 v.f2 = some (varP v) := by
  unfold impl_varOk.f varP
  simp only [impl_in_eq, Option.bind_some]
  by_cases h0 : inR v.f0 (-9999) 9999 = true
  · by_cases h1 : inR v.f1 v.f0 9999 = true
    · rw [span_wrap h0 h1]
      by_cases h2 : v.f1 - v.f0 < 20 <;> simp [h0, h1, h2]
    · simp [h0, h1]
  · simp [h0]
theorem varP_span {v : IVar} (h : varP v = true) : -9999 ≤ v.f0 ∧ v.f0 ≤ v.f2 ∧ v.f2 ≤ v.f1 ∧ v.f1 ≤ 9999 ∧ v.f1 - v.f0 < 20 := by
  unfold varP at h
  simp only [Bool.and_eq_true, inR_iff, decide_eq_true_eq] at h
  omega
def setsGo (vars : Int) (sets : List Int) (terms : List (List ITerm)) (n : Nat) : List Int → Bool
  | [] => true
  | x :: r => inR x 0 (vars - 1) && (!(decide (0 < n) && decide (x ≤ sets.getD (n - 1) 0)) && (kindOfP (terms.getD n []) vars == 1 && setsGo vars sets terms (n + 1) r))
def ruleP (r : IRule) (vars : Int) : Bool := kindOfP r.f0 vars == 2 && (decide (r.f1.length = r.f2.length) && setsGo vars r.f1 r.f2 0 r.f1)
theorem setsGo_bound {vars : Int} {sets : List Int} {terms : List (List ITerm)} : ∀ (r : List Int) (n : Nat), sets.drop n = r → setsGo vars sets terms n r = true →
    ∀ i, n ≤ i → i < sets.length → inR (sets.getD i 0) 0 (vars - 1) = true ∧ (0 < i → sets.getD (i - 1) 0 < sets.getD i 0) ∧ kindOfP (terms.getD i []) vars = 1
  | [], n, h, _, i, h1, h2 => by
    have := congrArg List.length h
    simp at this
    omega
  | x :: r, n, h, hs, i, h1, h2 => by
    unfold setsGo at hs
    simp only [Bool.and_eq_true, Bool.not_eq_true', Bool.and_eq_false_iff, decide_eq_false_iff_not, beq_iff_eq] at hs
    obtain ⟨a, b, c, d⟩ := hs
    have hn : n < sets.length := by omega
    have hx : sets.getD n 0 = x := by
      rw [List.drop_eq_getElem_cons hn] at h
      injection h with h3 h4
      rw [List.getD_eq_getElem?_getD, List.getElem?_eq_getElem hn]
      exact h3
    have hr : sets.drop (n + 1) = r := by
      rw [List.drop_eq_getElem_cons hn] at h
      injection h
    by_cases e : i = n
    · subst e
      rw [hx]
      exact ⟨a, fun hp => by rcases b with b | b <;> omega, c⟩
    · exact setsGo_bound r (n + 1) hr d i (by omega) h2
theorem setsGo_len {vars : Int} {sets : List Int} {terms : List (List ITerm)} (h : setsGo vars sets terms 0 sets = true) (hv : 0 ≤ vars) : (sets.length : Int) ≤ vars := by
  have hb := setsGo_bound sets 0 rfl h
  have up : ∀ i : Nat, i < sets.length → (i : Int) ≤ sets.getD i 0 := by
    intro i
    induction i with
    | zero => intro hi; exact (inR_iff.1 (hb 0 (by omega) hi).1).1
    | succ i ih =>
      intro hi
      have h1 := (hb (i + 1) (by omega) hi).2.1 (by omega)
      have h2 := ih (by omega)
      simp only [Nat.add_sub_cancel] at h1
      omega
  by_cases e : sets.length = 0
  · omega
  · have h1 := up (sets.length - 1) (by omega)
    have h2 := (inR_iff.1 (hb (sets.length - 1) (by omega) (by omega)).1).2
    omega
theorem spec_l2Rule_ev (r : IRule) (vars : Int) (hv : 0 ≤ vars ∧ vars ≤ 5) : Ev (fun k => spec_l2Rule.f k r.f0 r.f1 r.f2 vars) (ruleP r vars) := by
  unfold spec_l2Rule.f ruleP
  refine ev_bind (spec_l2Is_ev r.f0 vars 2 (by decide)) ?_
  by_cases h0 : (kindOfP r.f0 vars == 2) = true
  · rw [h0]
    refine ev_pos rfl ?_
    by_cases h1 : r.f1.length = r.f2.length
    · refine ev_pos (by omega) (Ev.step (fun k => by rw [spec_l2Rule.j0]) ?_)
      by_cases h2 : (r.f1.length : Int) > vars
      · refine ev_pos (by simpa using h2) (ev_eq (ev_ret _) ?_)
        cases hs : setsGo vars r.f1 r.f2 0 r.f1 with
        | true => have := setsGo_len hs hv.1; omega
        | false => simp
      · refine ev_neg (by simpa using h2) ?_
        rw [show (decide (r.f1.length = r.f2.length) && setsGo vars r.f1 r.f2 0 r.f1) = setsGo vars r.f1 r.f2 0 r.f1 from by simp [h1]]
        simp only [Bool.true_and]
        have key : ∀ d n : Nat, r.f1.length - n = d → n ≤ r.f1.length → Ev (fun k => spec_l2Rule.l0 k vars (n : Int) r.f0 r.f1 r.f2) (setsGo vars r.f1 r.f2 n (r.f1.drop n)) := by
          intro d
          induction d with
          | zero =>
            intro n e1 e2
            have : n = r.f1.length := by omega
            subst this
            rw [List.drop_length]
            refine Ev.step (fun k => by rw [spec_l2Rule.l0]) ?_
            exact ev_neg (by omega) (ev_ret _)
          | succ d ih =>
            intro n e1 e2
            have hn : n < r.f1.length := by omega
            have hx := List.getElem?_eq_getElem hn
            have hrd : rd r.f1 (n : Int) = r.f1[n] := getD_of hx
            rw [List.drop_eq_getElem_cons hn]
            unfold setsGo
            refine Ev.step (fun k => by rw [spec_l2Rule.l0]) (ev_pos (by omega) (ev_pos (by omega) ?_))
            have w1 : wrap64 (vars - 1) = vars - 1 := wrap_in (by omega) (by omega)
            simp only [spec_l1In_eq, Option.bind_some, w1, hrd]
            generalize hX : r.f1[n] = x
            have J : ∀ b : Bool, Ev (fun k => spec_l2Rule.j2 k vars (n : Int) b r.f0 r.f1 r.f2) (!b && setsGo vars r.f1 r.f2 (n + 1) (r.f1.drop (n + 1))) := by
              intro b
              refine Ev.step (fun k => by rw [spec_l2Rule.j2]) ?_
              cases b with
              | true => exact ev_pos rfl (ev_eq (ev_ret _) (by simp))
              | false =>
                refine ev_neg (by simp) ?_
                rw [wrap_nat hn (by omega)]
                exact ev_eq (ih (n + 1) (by omega) (by omega)) (by simp)
            have htail : Ev (fun k => if (n : Int) < (r.f2.length : Int) then (spec_l2Is.f k (rd_LITerm r.f2 n) vars 1).bind fun t => spec_l2Rule.j2 k vars (n : Int) (!t) r.f0 r.f1 r.f2 else none)
                (kindOfP (r.f2.getD n []) vars == 1 && setsGo vars r.f1 r.f2 (n + 1) (r.f1.drop (n + 1))) := by
              refine ev_pos (by omega) (ev_bind (spec_l2Is_ev _ vars 1 (by decide)) ?_)
              rw [show rd_LITerm r.f2 (n : Int) = r.f2.getD n [] from rfl]
              exact ev_eq (J _) (by rw [Bool.not_not])
            by_cases g0 : inR x 0 (vars - 1) = true
            · refine ev_pos g0 ?_
              by_cases g1 : 0 < n
              · have w2 : wrap64 ((n : Int) - 1) = ((n - 1 : Nat) : Int) := by rw [wrap_in (by omega) (by omega)]; omega
                refine ev_pos (by omega) ?_
                rw [w2]
                refine ev_pos (by omega) (ev_pos (by omega) ?_)
                rw [show rd r.f1 ((n - 1 : Nat) : Int) = r.f1.getD (n - 1) 0 from rfl]
                generalize r.f1.getD (n - 1) 0 = y
                by_cases g2 : x ≤ y
                · exact ev_pos g2 (ev_eq (J true) (by simp [g0, g1, g2]))
                · exact ev_neg g2 (ev_eq htail (by simp [g0, g1, g2]))
              · exact ev_neg (by omega) (ev_eq htail (by simp [g0, g1]))
            · exact ev_neg g0 (ev_eq (J true) (by simp [g0]))
        have := key r.f1.length 0 (by omega) (by omega)
        simpa using this
    · refine ev_neg (by omega) (Ev.step (fun k => by rw [spec_l2Rule.j0]) ?_)
      exact ev_pos rfl (ev_eq (ev_ret _) (by simp [h1]))
  · rw [show (kindOfP r.f0 vars == 2) = false from by simpa using h0]
    refine ev_neg (by simp) (Ev.step (fun k => by rw [spec_l2Rule.j0]) ?_)
    exact ev_pos rfl (ev_eq (ev_ret _) (by simp))
theorem impl_ruleOk_ev (r : IRule) (vars : Int) (hv : 0 ≤ vars ∧ vars ≤ 5) (hl : r.f1.length ≤ 9223372036854775807) : Ev (fun k => impl_ruleOk.f k r.f0 r.f1 r.f2 vars) (ruleP r vars) := by
  unfold impl_ruleOk.f ruleP
  refine ev_bind (impl_kindOf_ev r.f0 vars) ?_
  by_cases h0 : kindOfP r.f0 vars = 2
  · refine ev_pos h0 ?_
    rw [show (kindOfP r.f0 vars == 2) = true from by simpa using h0]
    by_cases h1 : r.f1.length = r.f2.length
    · refine Ev.step (fun k => by rw [impl_ruleOk.j0]) (ev_neg (by simp [h1]) ?_)
      rw [show (decide (r.f1.length = r.f2.length) && setsGo vars r.f1 r.f2 0 r.f1) = setsGo vars r.f1 r.f2 0 r.f1 from by simp [h1]]
      simp only [Bool.true_and]
      have w1 : wrap64 (vars - 1) = vars - 1 := wrap_in (by omega) (by omega)
      have key : ∀ d n : Nat, r.f1.length - n = d → n ≤ r.f1.length → Ev (fun k => impl_ruleOk.l0 k vars r.f1 (r.f1.length : Int) (n : Int) r.f0 r.f1 r.f2) (setsGo vars r.f1 r.f2 n (r.f1.drop n)) := by
        intro d
        induction d with
        | zero =>
          intro n e1 e2
          have : n = r.f1.length := by omega
          subst this
          rw [List.drop_length]
          refine Ev.step (fun k => by rw [impl_ruleOk.l0]) ?_
          exact ev_neg (by omega) (ev_ret _)
        | succ d ih =>
          intro n e1 e2
          have hn : n < r.f1.length := by omega
          have hx := List.getElem?_eq_getElem hn
          have hrd : rd r.f1 (n : Int) = r.f1[n] := getD_of hx
          rw [List.drop_eq_getElem_cons hn]
          unfold setsGo
          refine Ev.step (fun k => by rw [impl_ruleOk.l0]) (ev_pos (by omega) (ev_pos (by omega) (ev_pos (by omega) ?_)))
          simp only [impl_in_eq, Option.bind_some, w1, hrd]
          generalize hX : r.f1[n] = x
          have J : ∀ b : Bool, Ev (fun k => impl_ruleOk.j2 k vars r.f1 (r.f1.length : Int) (n : Int) b r.f0 r.f1 r.f2) (!b && setsGo vars r.f1 r.f2 (n + 1) (r.f1.drop (n + 1))) := by
            intro b
            refine Ev.step (fun k => by rw [impl_ruleOk.j2]) ?_
            cases b with
            | true => exact ev_pos rfl (ev_eq (ev_ret _) (by simp))
            | false =>
              refine ev_neg (by simp) ?_
              rw [wrap_nat hn (by omega)]
              exact ev_eq (ih (n + 1) (by omega) (by omega)) (by simp)
          have htail : Ev (fun k => if (n : Int) < (r.f2.length : Int) then (impl_kindOf.f k (rd_LITerm r.f2 n) vars).bind fun t => impl_ruleOk.j2 k vars r.f1 (r.f1.length : Int) (n : Int) (t != 1) r.f0 r.f1 r.f2 else none)
              (kindOfP (r.f2.getD n []) vars == 1 && setsGo vars r.f1 r.f2 (n + 1) (r.f1.drop (n + 1))) := by
            refine ev_pos (by omega) (ev_bind (impl_kindOf_ev _ vars) ?_)
            rw [show rd_LITerm r.f2 (n : Int) = r.f2.getD n [] from rfl]
            exact ev_eq (J _) (by simp only [bne, Bool.not_not])
          by_cases g0 : inR x 0 (vars - 1) = true
          · refine ev_pos g0 ?_
            by_cases g1 : 0 < n
            · have w2 : wrap64 ((n : Int) - 1) = ((n - 1 : Nat) : Int) := by rw [wrap_in (by omega) (by omega)]; omega
              refine ev_pos (by omega) ?_
              rw [w2]
              refine ev_pos (by omega) (ev_pos (by omega) ?_)
              rw [show rd r.f1 ((n - 1 : Nat) : Int) = r.f1.getD (n - 1) 0 from rfl]
              generalize r.f1.getD (n - 1) 0 = y
              by_cases g2 : x ≤ y
              · exact ev_pos (by omega) (ev_eq (J true) (by simp [g0, g1, g2]))
              · exact ev_neg (by omega) (ev_eq htail (by simp [g0, g1, g2]))
            · exact ev_neg (by omega) (ev_eq htail (by simp [g0, g1]))
          · exact ev_neg g0 (ev_eq (J true) (by simp [g0]))
      have := key r.f1.length 0 (by omega) (by omega)
      simpa using this
    · refine Ev.step (fun k => by rw [impl_ruleOk.j0]) ?_
      exact ev_pos (by simp; omega) (ev_eq (ev_ret _) (by simp [h1]))
  · rw [show (kindOfP r.f0 vars == 2) = false from by simpa using h0]
    refine ev_neg h0 (Ev.step (fun k => by rw [impl_ruleOk.j0]) ?_)
    exact ev_pos rfl (ev_eq (ev_ret _) (by simp))
def sizeGo : List IVar → Int → Int
  | [], n => n
  | v :: r, n => sizeGo r (wrap64 (n * wrap64 (wrap64 (v.f1 - v.f0) + 1)))
def sizeP (vars : List IVar) : Int := sizeGo vars 1
theorem impl_size_ev (vars : List IVar) (hl : vars.length ≤ 9223372036854775807) : Ev (fun k => impl_size.f k vars) (sizeP vars) := by
  unfold impl_size.f sizeP
  have key : ∀ d n : Nat, vars.length - n = d → n ≤ vars.length → ∀ a : Int, Ev (fun k => impl_size.l0 k a vars (vars.length : Int) (n : Int)) (sizeGo (vars.drop n) a) := by
    intro d
    induction d with
    | zero =>
      intro n e1 e2 a
      have : n = vars.length := by omega
      subst this
      rw [List.drop_length]
      refine Ev.step (fun k => by rw [impl_size.l0]) ?_
      exact ev_neg (by omega) (ev_ret _)
    | succ d ih =>
      intro n e1 e2 a
      have hn : n < vars.length := by omega
      have hr : rd_IVar vars (n : Int) = vars[n] := getD_of (List.getElem?_eq_getElem hn)
      rw [List.drop_eq_getElem_cons hn]
      unfold sizeGo
      refine Ev.step (fun k => by rw [impl_size.l0]) ?_
      refine ev_pos (by omega) (ev_pos (by omega) (ev_pos (by omega) ?_))
      rw [hr, wrap_nat hn (by omega)]
      exact ih (n + 1) (by omega) (by omega) _
  have := key vars.length 0 (by omega) (by omega) 1
  simpa using this
def smallP (n : Int) : Bool := decide (n ≤ 400)
def sysP (vars : List IVar) (rules : List IRule) : Bool :=
  inR vars.length 1 5 && (decide (rules.length ≤ 8) && (vars.all varP && (rules.all (fun r => ruleP r vars.length) && smallP (sizeP vars))))
theorem spec_SystemValid_ev (vars : List IVar) (rules : List IRule) : Ev (fun k => spec_SystemValid.f k vars rules) (sysP vars rules) := by
  unfold spec_SystemValid.f sysP
  simp only [spec_l1In_eq, Option.bind_some]
  by_cases h1 : inR (vars.length : Int) 1 5 = true
  · have hv := inR_iff.1 h1
    refine ev_pos h1 (Ev.step (fun k => by rw [spec_SystemValid.j0]) ?_)
    by_cases h2 : rules.length ≤ 8
    · refine ev_neg (by simp; omega) ?_
      have rulesKey : ∀ (n0 : Int) (d n : Nat), rules.length - n = d → n ≤ rules.length → Ev (fun k => spec_SystemValid.l1 k n0 (n : Int) vars rules) ((rules.drop n).all (fun r => ruleP r vars.length) && smallP n0) := by
        intro n0 d
        induction d with
        | zero =>
          intro n e1 e2
          have : n = rules.length := by omega
          subst this
          rw [List.drop_length]
          refine Ev.step (fun k => by rw [spec_SystemValid.l1]) ?_
          exact ev_neg (by omega) (ev_eq (ev_ret _) (by simp [smallP]))
        | succ d ih =>
          intro n e1 e2
          have hn : n < rules.length := by omega
          have hr : rd_IRule rules (n : Int) = rules[n] := getD_of (List.getElem?_eq_getElem hn)
          rw [List.drop_eq_getElem_cons hn, List.all_cons]
          refine Ev.step (fun k => by rw [spec_SystemValid.l1]) ?_
          refine ev_pos (by omega) (ev_pos (by omega) ?_)
          rw [hr, wrap_nat hn (by omega)]
          refine ev_bind (spec_l2Rule_ev rules[n] (vars.length : Int) (by omega)) ?_
          cases hq : ruleP rules[n] (vars.length : Int) with
          | true => exact ev_pos rfl (ev_eq (ih (n + 1) (by omega) (by omega)) (by simp))
          | false => exact ev_neg (by simp) (ev_eq (ev_ret _) (by simp))
      have varsKey : ∀ d n : Nat, vars.length - n = d → n ≤ vars.length → ∀ a : Int, Ev (fun k => spec_SystemValid.l0 k a (n : Int) vars rules) ((vars.drop n).all varP && (rules.all (fun r => ruleP r vars.length) && smallP (sizeGo (vars.drop n) a))) := by
        intro d
        induction d with
        | zero =>
          intro n e1 e2 a
          have : n = vars.length := by omega
          subst this
          rw [List.drop_length]
          refine Ev.step (fun k => by rw [spec_SystemValid.l0]) ?_
          refine ev_neg (by omega) ?_
          have := rulesKey a rules.length 0 (by omega) (by omega)
          simpa [sizeGo] using this
        | succ d ih =>
          intro n e1 e2 a
          have hn : n < vars.length := by omega
          have hr : rd_IVar vars (n : Int) = vars[n] := getD_of (List.getElem?_eq_getElem hn)
          rw [List.drop_eq_getElem_cons hn, List.all_cons]
          refine Ev.step (fun k => by rw [spec_SystemValid.l0]) ?_
          refine ev_pos (by omega) (ev_pos (by omega) ?_)
          rw [hr, wrap_nat hn (by omega), spec_l2Var_eq]
          simp only [Option.bind_some]
          cases hq : varP vars[n] with
          | true => exact ev_pos rfl (ev_eq (ih (n + 1) (by omega) (by omega) _) (by simp [sizeGo]))
          | false => exact ev_neg (by simp) (ev_eq (ev_ret _) (by simp))
      have := varsKey vars.length 0 (by omega) (by omega) 1
      simpa [h1, h2, sizeP] using this
    · exact ev_pos (by simp; omega) (ev_eq (ev_ret _) (by simp [h2]))
  · refine ev_neg h1 (Ev.step (fun k => by rw [spec_SystemValid.j0]) ?_)
    exact ev_pos rfl (ev_eq (ev_ret _) (by simp [h1]))
theorem find_ev {α : Type} {da : α} (L : Nat → Int → Option Int) (F : Nat → α → Option Bool) (xs : List α) (p : α → Bool) (hl : xs.length ≤ 9223372036854775807)
    (hL : ∀ k i, L (k + 1) i = if i < (xs.length : Int) then (if 0 ≤ i then (if i < (xs.length : Int) then ((F k (xs.getD i.toNat da)).bind fun t => if t = true then some i else L k (wrap64 (i + 1))) else none) else none) else some (-1))
    (hF : ∀ x ∈ xs, Ev (fun k => F k x) (p x)) : Ev (fun k => (L k 0).bind fun t => some (decide (t ≥ 0))) (xs.any p) := by
  have key : ∀ d n : Nat, xs.length - n = d → n ≤ xs.length → Ev (fun k => (L k (n : Int)).bind fun t => some (decide (t ≥ 0))) ((xs.drop n).any p) := by
    intro d
    induction d with
    | zero =>
      intro n e1 e2
      have : n = xs.length := by omega
      subst this
      rw [List.drop_length]
      refine Ev.step (fun k => by rw [hL, if_neg (by omega), Option.bind_some]) ?_
      exact ev_eq (ev_ret _) (by simp)
    | succ d ih =>
      intro n e1 e2
      have hn : n < xs.length := by omega
      rw [List.drop_eq_getElem_cons hn, List.any_cons]
      refine Ev.step (fun k => by rw [hL, if_pos (by omega), if_pos (by omega), if_pos (by omega), getD_of (List.getElem?_eq_getElem hn), wrap_nat hn (by omega), Option.bind_assoc]) ?_
      refine ev_bind (hF _ (List.getElem_mem hn)) ?_
      cases hq : p xs[n] with
      | true => exact ev_eq (Ev.congr (fun k => by rw [if_pos rfl, Option.bind_some]) (ev_ret _)) (by simp)
      | false => exact ev_eq (Ev.congr (fun k => by rw [if_neg (by simp)]) (ih (n + 1) (by omega) (by omega))) (by simp)
  have := key xs.length 0 (by omega) (by omega)
  simpa using this
theorem impl_SystemValid_ev (vars : List IVar) (rules : List IRule) (hl : rules.length ≤ 9223372036854775807) (hr : ∀ r ∈ rules, r.f1.length ≤ 9223372036854775807) : Ev (fun k => impl_SystemValid.f k vars rules) (sysP vars rules) := by
  unfold impl_SystemValid.f sysP
  simp only [impl_in_eq, Option.bind_some]
  by_cases h1 : inR (vars.length : Int) 1 5 = true
  · have hv := inR_iff.1 h1
    have J : ∀ b : Bool, Ev (fun k => impl_SystemValid.j0 k b vars rules) (!b && rules.all (fun r => ruleP r vars.length)) := by
      intro b
      refine Ev.step (fun k => by rw [impl_SystemValid.j0]) ?_
      cases b with
      | true => exact ev_pos rfl (ev_eq (ev_ret _) (by simp))
      | false =>
        refine ev_neg (by simp) ?_
        have e2 : Ev (fun k => slices_ContainsFunc_at_impl_SystemValid_2.f k rules vars rules) (rules.any (fun r => !ruleP r vars.length)) := by
          unfold slices_ContainsFunc_at_impl_SystemValid_2.f slices_IndexFunc_at_impl_SystemValid_2.f
          · refine find_ev (da := zIRule) (fun k i => slices_IndexFunc_at_impl_SystemValid_2.l0 k rules (rules.length : Int) i vars rules) (fun k r => impl_SystemValid_2.f k r.f0 r.f1 r.f2 vars rules) rules _ hl (fun k i => by rw [slices_IndexFunc_at_impl_SystemValid_2.l0]; rfl) ?_
            intro x hx
            unfold impl_SystemValid_2.f
            exact ev_bind (impl_ruleOk_ev x (vars.length : Int) (by omega) (hr x hx)) (ev_ret _)
        refine ev_bind e2 (ev_eq (ev_ret _) ?_)
        have : (!rules.any (fun r => !ruleP r vars.length)) = rules.all (fun r => ruleP r vars.length) := by rw [List.not_any_eq_all_not]; simp
        rw [this]
        simp
    refine ev_pos h1 ?_
    by_cases h2 : rules.length ≤ 8
    · refine ev_neg (by omega) ?_
      have e1 : Ev (fun k => slices_ContainsFunc_at_impl_SystemValid_1.f k vars) (vars.any (fun v => !varP v)) := by
        unfold slices_ContainsFunc_at_impl_SystemValid_1.f slices_IndexFunc_at_impl_SystemValid_1.f
        refine find_ev (da := zIVar) (fun k i => slices_IndexFunc_at_impl_SystemValid_1.l0 k vars (vars.length : Int) i) (fun k v => impl_SystemValid_1.f v.f0 v.f1 v.f2) vars _ (by omega) (fun k i => by rw [slices_IndexFunc_at_impl_SystemValid_1.l0]; rfl) ?_
        intro x hx
        unfold impl_SystemValid_1.f
        rw [impl_varOk_eq]
        exact ev_ret _
      refine ev_bind e1 ?_
      by_cases h3 : vars.all varP = true
      · have n3 : vars.any (fun v => !varP v) = false := by rw [List.any_eq_false]; intro x hx; simp [List.all_eq_true.1 h3 x hx]
        rw [n3]
        refine ev_neg (by simp) (ev_bind (impl_size_ev vars (by omega)) (ev_eq (J _) ?_))
        rw [h1, h3]
        by_cases h4 : sizeP vars ≤ 400 <;> simp [h2, h4, smallP]
      · have n3 : vars.any (fun v => !varP v) = true := by
          rw [← List.not_all_eq_any_not]
          simpa using h3
        rw [n3]
        exact ev_pos rfl (ev_eq (J true) (by rw [show vars.all varP = false from by simpa using h3]; simp))
    · exact ev_pos (by omega) (ev_eq (J true) (by simp [h2]))
  · refine ev_neg h1 (Ev.step (fun k => by rw [impl_SystemValid.j0]) ?_)
    exact ev_pos rfl (ev_eq (ev_ret _) (by simp [h1]))
end Go.Proofs.Ytpjmiaooogephaa.PA
end
section
set_option linter.unusedVariables false
set_option linter.unusedSimpArgs false
namespace Go.Proofs.Ytpjmiaooogephaa.PA
open Go.RowKit Go.Proofs.YtpjmiaooogephaaW.PrintWords
theorem valid_tot (l : List ITerm) (n : Int) : Tot (fun k => spec_TermsValid.f k l n) (fun _ => True) := by
  unfold spec_TermsValid.f
  exact tot_bind (R := fun _ => True) (tot_ev (spec_KindsOf_ev l n) trivial) fun _ _ => tot_ret trivial
theorem const_tot (n : Int) : Tot (fun _ => spec_l2Const.f n) (fun _ => True) := tot_fix ⟨_, rfl, trivial⟩
theorem joined_tot (o : Int) (x1 x2 : List ITerm) (n : Int) (h1 : x1.length ≤ 1000) (h2 : x2.length ≤ 1000) : Tot (fun k => spec_Joined.f k o x1 x2 n) (fun _ => True) := by
  have j3 : ∀ x9 : List ITerm, x9.length ≤ 3000 → Tot (fun k => spec_Joined.j3 k o x1 n x9) (fun _ => True) := fun x9 h => by
    refine tot_step (fun k => by rw [spec_Joined.j3]) (tot_pos (by omega) ?_)
    exact tot_bind (R := fun _ => True) (tot_ret trivial) fun y _ => tot_ite (fun _ => tot_ret trivial) fun _ => tot_bind (valid_tot _ _) fun t _ => tot_ite (fun _ => tot_ret trivial) fun _ => tot_ret trivial
  have l1 : ∀ d i : Nat, x2.length - i = d → i ≤ x2.length → ∀ x9 : List ITerm, x9.length ≤ 1000 + i → Tot (fun k => spec_Joined.l1 k o x1 x2 n x9 (i : Int)) (fun _ => True) := by
    intro d
    induction d with
    | zero =>
      intro i g1 g2 x9 h
      refine tot_step (fun k => by rw [spec_Joined.l1]) ?_
      exact tot_neg (by omega) (j3 x9 (by omega))
    | succ d ih =>
      intro i g1 g2 x9 h
      refine tot_step (fun k => by rw [spec_Joined.l1]) ?_
      refine tot_pos (by omega) (tot_bind (R := fun _ => True) (tot_fix ⟨_, rfl, trivial⟩) fun t _ => tot_ite (fun _ => j3 x9 (by omega)) fun _ => tot_pos (by omega) (tot_bind (R := fun _ => True) ?_ fun y _ => tot_pos (by omega) ?_))
      · unfold spec_l1Moved.f
        exact tot_ite (fun _ => tot_ret trivial) fun _ => tot_ret trivial
      · rw [wrap_nat (n := i) (m := x2.length) (by omega) (by omega)]
        exact ih (i + 1) (by omega) (by omega) _ (by simp; omega)
  have l0 : ∀ d i : Nat, x1.length - i = d → i ≤ x1.length → ∀ x9 : List ITerm, x9.length ≤ i → Tot (fun k => spec_Joined.l0 k o x1 x2 n x9 (i : Int)) (fun _ => True) := by
    intro d
    induction d with
    | zero =>
      intro i g1 g2 x9 h
      refine tot_step (fun k => by rw [spec_Joined.l0]) ?_
      exact tot_neg (by omega) (l1 x2.length 0 (by omega) (by omega) x9 (by omega))
    | succ d ih =>
      intro i g1 g2 x9 h
      refine tot_step (fun k => by rw [spec_Joined.l0]) ?_
      refine tot_pos (by omega) (tot_pos (by omega) (tot_pos (by omega) ?_))
      rw [wrap_nat (n := i) (m := x1.length) (by omega) (by omega)]
      exact ih (i + 1) (by omega) (by omega) _ (by simp; omega)
  have j0 : ∀ c, Tot (fun k => spec_Joined.j0 k o x1 x2 n c) (fun _ => True) := fun c => by
    refine tot_step (fun k => by rw [spec_Joined.j0]) ?_
    exact tot_ite (fun _ => tot_ret trivial) fun _ => l0 x1.length 0 (by omega) (by omega) [] (by simp)
  unfold spec_Joined.f
  exact tot_bind (valid_tot _ _) fun t _ => tot_ite (fun _ => tot_bind (valid_tot _ _) fun t2 _ => j0 _) fun _ => j0 _
section
variable {b : List Int} (hb : ByteL b)
include hb
theorem l2Cond_tot {p : Int} (h0 : 0 ≤ p) (h1 : p ≤ 100000000) (x y z a : Int) : Tot (fun k => spec_l2Cond.f k b p x y z a) (fun r => p ≤ r.1 ∧ r.1 ≤ p + 10 ∧ r.2.length ≤ 4) := by
  unfold spec_l2Cond.f
  refine tot_bind (pick_tot hb h0 (by omega) _) fun r1 q1 => ?_
  have e1 := q1.1
  refine tot_bind (num_tot hb (by omega) (by omega) _ (by simp)) fun r2 q2 => ?_
  have e2 := q2.1
  refine tot_bind (R := fun _ => True) (tot_fix ⟨_, rfl, trivial⟩) fun r3 _ => tot_bind (R := fun _ => True) (tot_fix ⟨_, rfl, trivial⟩) fun r4 _ => tot_bind (pick_tot hb (by omega) (by omega) _) fun r5 q5 => ?_
  have e5 := q5.1
  exact tot_ite (fun _ => tot_pos (by omega) (tot_ret ⟨by show p ≤ r5.1; omega, by show r5.1 ≤ _; omega, by simp⟩)) fun _ => tot_ret ⟨by show p ≤ r5.1; omega, by show r5.1 ≤ _; omega, by simp⟩
theorem l2When_tot {p : Int} (h0 : 0 ≤ p) (h1 : p ≤ 10000000) (vars : List IVar) (hv : 0 < vars.length) : Tot (fun k => spec_l2When.f k b p vars) (fun r => p ≤ r.1 ∧ r.1 ≤ p + 30) := by
  unfold spec_l2When.f
  refine tot_bind (pick_tot hb h0 (by omega) _) fun r1 q1 => ?_
  have e1 := q1.1
  refine tot_pos q1.2.1 (tot_pos (q1.2.2.1 (by omega)) (tot_bind (l2Cond_tot hb (by omega) (by omega) _ _ _ _) fun r2 q2 => tot_bind (pick_tot hb (by omega) (by omega) _) fun r3 q3 => ?_))
  have e3 := q3.1
  refine tot_ite (fun _ => tot_bind (pick_tot hb (by omega) (by omega) _) fun r4 q4 => ?_) fun _ => tot_ret ⟨by show p ≤ r3.1; omega, by show r3.1 ≤ _; omega⟩
  have e4 := q4.1
  refine tot_bind (num_tot hb (by omega) (by omega) _ (by simp)) fun r5 q5 => tot_pos q4.2.1 (tot_pos (q4.2.2.1 (by omega)) (tot_bind (l2Cond_tot hb (by omega) (by omega) _ _ _ _) fun r6 q6 => tot_bind (joined_tot _ _ _ _ (by omega) (by omega)) fun r7 _ => tot_ret ?_))
  exact ⟨by show p ≤ r6.1; omega, by show r6.1 ≤ _; omega⟩
theorem l2Value_tot {p : Int} (h0 : 0 ≤ p) (h1 : p ≤ 10000000) (vars : List IVar) (hv : vars.length ≤ 5) (a : Int) (ha : 0 ≤ a ∧ a < (vars.length : Int)) : Tot (fun k => spec_l2Value.f k b p vars a) (fun r => p ≤ r.1 ∧ r.1 ≤ p + 400) := by
  unfold spec_l2Value.f
  refine tot_bind (pick_tot hb h0 (by omega) _) fun r1 q1 => ?_
  have e1 := q1.1
  refine tot_ite (fun _ => tot_bind (R := fun _ => True) (tot_fix ⟨_, rfl, trivial⟩) fun r2 _ => tot_bind (R := fun _ => True) (tot_fix ⟨_, rfl, trivial⟩) fun r3 _ => tot_bind (num_tot hb (by omega) (by omega) _ (by simp)) fun r4 q4 => tot_ret ⟨by show p ≤ r4.1; omega, by show r4.1 ≤ _; omega⟩) fun _ => ?_
  refine tot_ite (fun _ => tot_pos ha.1 (tot_pos ha.2 (tot_pos ha.1 (tot_pos ha.2 (tot_pos ha.1 (tot_pos ha.2 (tot_bind (pick_tot hb (by omega) (by omega) _) fun r5 q5 => tot_bind (R := fun _ => True) (tot_fix ⟨_, rfl, trivial⟩) fun r6 _ => ?_))))))) fun _ => ?_
  · have := q5.1
    exact tot_ret ⟨by show p ≤ r5.1; omega, by show r5.1 ≤ _; omega⟩
  refine tot_ite (fun _ => tot_bind (pick_tot hb (by omega) (by omega) _) fun r7 q7 => tot_bind (R := fun _ => True) (tot_fix ⟨_, rfl, trivial⟩) fun r8 _ => ?_) fun _ => tot_bind (l1Terms_tot hb (by omega) (by omega) (by omega) _ (by omega)) fun r9 q9 => tot_ret ⟨by show p ≤ r9.1; omega, by show r9.1 ≤ _; omega⟩
  have := q7.1
  exact tot_ret ⟨by show p ≤ r7.1; omega, by show r7.1 ≤ _; omega⟩
def FewQ (rs : List IRule) (m : Nat) : Prop := rs.length ≤ m ∧ ∀ r ∈ rs, r.f1.length ≤ 5 ∧ r.f2.length ≤ 5
omit hb in
theorem FewQ.snoc {rs : List IRule} {m : Nat} (h : FewQ rs m) (r : IRule) (hr : r.f1.length ≤ 5 ∧ r.f2.length ≤ 5) : FewQ (rs ++ [r]) (m + 1) := by
  refine ⟨by have := h.1; simp; omega, fun x hx => ?_⟩
  rcases List.mem_append.1 hx with hx | hx
  · exact h.2 x hx
  · rw [List.mem_singleton.1 hx]; exact hr
theorem l2RulesL_tot (vars : List IVar) (hv : 0 < vars.length ∧ vars.length ≤ 5) (many : Int) : ∀ (m i : Nat) (p : Int) (x7 : List IRule), (many - i).toNat = m → i + m ≤ 10 → 0 ≤ p → p + 5000 * m ≤ 1000000 → FewQ x7 i →
    Tot (fun k => spec_l2Rules.l1 k p x7 (i : Int) b vars many) (fun r => p ≤ r.1 ∧ r.1 ≤ p + 5000 * m ∧ FewQ r.2 (i + m))
  | 0, i, p, x7, hm, hi, h0, h1, hf => by
    refine tot_step (fun k => by rw [spec_l2Rules.l1]) ?_
    exact tot_neg (by omega) (tot_ret ⟨Int.le_refl _, by show p ≤ _; omega, hf⟩)
  | m + 1, i, p, x7, hm, hi, h0, h1, hf => by
    have ih := l2RulesL_tot vars hv many m (i + 1)
    refine tot_step (fun k => by rw [spec_l2Rules.l1]) ?_
    refine tot_pos (by omega) (tot_bind (l2When_tot hb h0 (by omega) vars hv.1) fun r1 q1 => ?_)
    have key : ∀ d n : Nat, vars.length - n = d → n ≤ vars.length → ∀ (p' : Int) (y1 : List Int) (y2 : List (List ITerm)), p ≤ p' → p' + 600 * d ≤ p + 4000 → y1.length ≤ n → y2.length ≤ n →
        Tot (fun k => spec_l2Rules.l2 k p' y1 y2 (n : Int) b vars many x7 (i : Int) r1) (fun r => p ≤ r.1 ∧ r.1 ≤ p + 5000 * (m + 1 : Nat) ∧ FewQ r.2 (i + (m + 1))) := by
      intro d
      induction d with
      | zero =>
        intro n g1 g2 p' y1 y2 a1 a2 a3 a4
        refine tot_step (fun k => by rw [spec_l2Rules.l2]) ?_
        refine tot_neg (by omega) (tot_pos (by have := hf.1; omega) ?_)
        rw [wrap_nat (n := i) (m := i + 1) (by omega) (by omega)]
        refine tot_mono (ih p' _ (by omega) (by omega) (by omega) (by omega) (hf.snoc _ ⟨by show y1.length ≤ 5; omega, by show y2.length ≤ 5; omega⟩)) fun r q => ?_
        obtain ⟨c1, c2, c3⟩ := q
        exact ⟨by omega, by omega, by rw [show i + (m + 1) = i + 1 + m by omega]; exact c3⟩
      | succ d ihd =>
        intro n g1 g2 p' y1 y2 a1 a2 a3 a4
        refine tot_step (fun k => by rw [spec_l2Rules.l2]) ?_
        refine tot_pos (by omega) (tot_bind (pick_tot hb (by omega) (by omega) _) fun r2 q2 => ?_)
        have e2 := q2.1
        rw [wrap_nat (n := n) (m := vars.length) (by omega) (by omega)]
        have go : ∀ (p2 : Int), p' ≤ p2 → p2 ≤ p' + 10 → Tot (fun k => if y1.length + 1 ≤ 1099511627776 then ((spec_l2Value.f k b p2 vars (n : Int)).bind fun r3 => if y2.length + 1 ≤ 1099511627776 then (spec_l2Rules.l2 k r3.1 (y1 ++ [(n : Int)]) (y2 ++ [r3.2]) ((n + 1 : Nat) : Int) b vars many x7 (i : Int) r1) else none) else none) (fun r => p ≤ r.1 ∧ r.1 ≤ p + 5000 * (m + 1 : Nat) ∧ FewQ r.2 (i + (m + 1))) := fun p2 b1 b2 => by
          refine tot_pos (by omega) (tot_bind (l2Value_tot hb (by omega) (by omega) vars hv.2 _ (by omega)) fun r3 q3 => tot_pos (by omega) ?_)
          exact ihd (n + 1) (by omega) (by omega) _ _ _ (by omega) (by omega) (by simp; omega) (by simp; omega)
        have sk : ∀ (p2 : Int), p' ≤ p2 → p2 ≤ p' + 10 → Tot (fun k => spec_l2Rules.l2 k p2 y1 y2 ((n + 1 : Nat) : Int) b vars many x7 (i : Int) r1) (fun r => p ≤ r.1 ∧ r.1 ≤ p + 5000 * (m + 1 : Nat) ∧ FewQ r.2 (i + (m + 1))) := fun p2 b1 b2 => ihd (n + 1) (by omega) (by omega) _ _ _ (by omega) (by omega) (by omega) (by omega)
        refine tot_ite (fun _ => go _ (by omega) (by omega)) fun _ => tot_ite (fun _ => tot_ite (fun _ => tot_bind (pick_tot hb (by omega) (by omega) _) fun r4 q4 => ?_) fun _ => sk _ (by omega) (by omega)) fun _ => sk _ (by omega) (by omega)
        have e4 := q4.1
        exact tot_ite (fun _ => go _ (by omega) (by omega)) fun _ => sk _ (by omega) (by omega)
    exact key vars.length 0 (by omega) (by omega) _ [] [] (by omega) (by omega) (by simp) (by simp)
theorem l2Rules_tot (vars : List IVar) (hv : 0 < vars.length ∧ vars.length ≤ 5) {many : Int} (hm : 0 ≤ many ∧ many ≤ 4) {p : Int} (h0 : 0 ≤ p) (h1 : p ≤ 900000) : Tot (fun k => spec_l2Rules.f k b p vars many) (fun r => p ≤ r.1 ∧ r.1 ≤ p + 20000 ∧ FewQ r.2 4) := by
  unfold spec_l2Rules.f
  refine tot_mono (l2RulesL_tot hb vars hv many many.toNat 0 p [] (by omega) (by omega) h0 (by omega) ⟨by simp, fun r h => by cases h⟩) fun r q => ⟨q.1, by omega, ⟨?_, q.2.2.2⟩⟩
  have := q.2.2.1
  omega
def SmallQ (s : List IVar × List IRule) : Prop := (0 < s.1.length ∧ s.1.length ≤ 4) ∧ FewQ s.2 4
theorem l2System_tot (most : Int) {p : Int} (h0 : 0 ≤ p) (h1 : p ≤ 800000) : Tot (fun k => spec_l2System.f k b p most) (fun r => p ≤ r.1 ∧ r.1 ≤ p + 30000 ∧ SmallQ r.2) := by
  have j2 : ∀ (vars : List IVar) (p' : Int), 0 < vars.length → vars.length ≤ 4 → p ≤ p' → p' ≤ p + 1000 → Tot (fun k => spec_l2System.j2 k vars b p') (fun r => p ≤ r.1 ∧ r.1 ≤ p + 30000 ∧ SmallQ r.2) := fun vars p' g1 g2 g3 g4 => by
    refine tot_step (fun k => by rw [spec_l2System.j2]) ?_
    refine tot_bind (num_tot hb (by omega) (by omega) _ (by simp)) fun r5 q5 => ?_
    have hm : 0 ≤ r5.2 ∧ r5.2 ≤ 4 := by
      have := q5.2
      simp only [List.mem_cons, List.not_mem_nil, or_false] at this
      omega
    refine tot_bind (l2Rules_tot hb vars ⟨g1, by omega⟩ hm (by omega) (by omega)) fun r6 q6 => tot_ret ?_
    exact ⟨by show p ≤ r6.1; omega, by show r6.1 ≤ _; omega, ⟨g1, g2⟩, q6.2.2⟩
  have key : ∀ (n : Nat) (p' : Int) (vars : List IVar) (x6 : Int), vars.length + n ≤ 3 → p ≤ p' → p' + 10 * n ≤ p + 100 → Tot (fun k => spec_l2System.l1 k p' vars x6 (n : Int) b most) (fun r => p ≤ r.1 ∧ r.1 ≤ p + 30000 ∧ SmallQ r.2) := by
    intro n
    induction n with
    | zero =>
      intro p' vars x6 g1 g2 g3
      refine tot_step (fun k => by rw [spec_l2System.l1]) ?_
      exact tot_neg (by omega) (tot_ite (fun h => tot_pos (by omega) (j2 _ _ (by simp) (by simp; omega) (by omega) (by omega))) fun h => j2 _ _ (by omega) (by omega) (by omega) (by omega))
    | succ n ih =>
      intro p' vars x6 g1 g2 g3
      have w : wrap64 (((n + 1 : Nat) : Int) - 1) = (n : Int) := by rw [wrap_in (by omega) (by omega)]; omega
      refine tot_step (fun k => by rw [spec_l2System.l1]) ?_
      refine tot_pos (by omega) (tot_bind (num_tot hb (by omega) (by omega) _ (by simp)) fun r2 q2 => ?_)
      have e2 := q2.1
      rw [w]
      refine tot_ite (fun _ => tot_bind (num_tot hb (by omega) (by omega) _ (by simp)) fun r3 q3 => ?_) fun _ => ih _ _ _ (by omega) (by omega) (by omega)
      have e3 := q3.1
      refine tot_bind (pick_tot hb (by omega) (by omega) _) fun r4 q4 => ?_
      have e4 := q4.1
      exact tot_pos (by omega) (ih _ _ _ (by simp; omega) (by omega) (by omega))
  unfold spec_l2System.f
  refine tot_bind (pick_tot hb h0 (by omega) _) fun r1 q1 => ?_
  obtain ⟨e1, e2, e3, e4⟩ := q1
  have e3 := e3 (by omega)
  obtain ⟨n, hn⟩ : ∃ n : Nat, (n : Int) = 1 + r1.2 := ⟨(1 + r1.2).toNat, by omega⟩
  rw [wrap_in (x := 1 + r1.2) (by omega) (by omega), ← hn]
  exact key n _ [] 1 (by simp; omega) (by omega) (by omega)
def AnyQ (s : List IVar × List IRule) : Prop := s.1.length ≤ 4 ∧ s.2.length ≤ 4 ∧ ∀ r ∈ s.2, r.f1.length ≤ 6
omit hb in
theorem any_head {vars : List IVar} {rs : List IRule} (h : FewQ rs 4) (hv : vars.length ≤ 4) (x : IRule) (hx : x.f1.length ≤ 6) (hn : (rs.length : Int) > 0) : AnyQ (vars, x :: rs.tail) := by
  refine ⟨hv, by have := h.1; simp only [List.length_cons, List.length_tail]; omega, fun r hr => ?_⟩
  rcases List.mem_cons.1 hr with rfl | hr
  · exact hx
  · have := h.2 r (List.mem_of_mem_tail hr); omega
omit hb in
theorem head_few {rs : List IRule} (h : FewQ rs 4) (z : IRule) (hn : (rs.length : Int) > 0) : (rs.getD 0 z).f1.length ≤ 5 ∧ (rs.getD 0 z).f2.length ≤ 5 := by
  match rs, hn with
  | r :: rs, _ => exact h.2 r List.mem_cons_self
theorem l2Any_tot (most : Int) {p : Int} (h0 : 0 ≤ p) (h1 : p ≤ 700000) : Tot (fun k => spec_l2Any.f k b p most) (fun r => p ≤ r.1 ∧ r.1 ≤ p + 30100 ∧ AnyQ r.2) := by
  unfold spec_l2Any.f
  refine tot_bind (l2System_tot hb most h0 (by omega)) fun r1 q1 => ?_
  obtain ⟨a1, a2, ⟨v0, v1⟩, f⟩ := q1
  refine tot_bind (pick_tot hb (by omega) (by omega) _) fun r2 q2 => ?_
  have e2 := q2.1
  have any0 : ∀ vars : List IVar, vars.length ≤ 4 → AnyQ (vars, r1.2.2) := fun vars h => ⟨h, f.1, fun r hr => by have := (f.2 r hr).1; omega⟩
  refine tot_ite (fun _ => tot_bind (pick_tot hb (by omega) (by omega) _) fun r3 q3 => ?_) fun _ => tot_ret ⟨by show p ≤ r2.1; omega, by show r2.1 ≤ _; omega, any0 _ v1⟩
  have e3 := q3.1
  by_cases hn : (r1.2.2.length : Int) > 0
  · have hf := head_few f zIRule hn
    repeat' first
      | (with_reducible refine tot_pos ?hc ?_; case hc => first | (with_reducible exact hn) | omega)
      | (with_reducible refine tot_ite (fun _ => ?_) (fun _ => ?_))
      | (refine tot_bind (num_tot hb (by omega) (by omega) _ (by simp)) fun r4 q4 => ?_; have e4 := q4.1)
      | (with_reducible refine tot_bind (const_tot _) fun _ _ => ?_)
      | (with_reducible refine tot_ret ⟨?_, ?_, ?_⟩)
      | (simp only; omega)
      | (with_reducible refine any0 _ ?_; first | exact v1 | (simp <;> omega))
      | (with_reducible refine any_head f v1 _ ?_ hn; simp only [List.length_append, List.length_cons, List.length_nil]; omega)
  · repeat' first
      | (with_reducible refine tot_pos ?hc ?_; case hc => omega)
      | (with_reducible refine tot_neg hn ?_)
      | (with_reducible refine tot_ite (fun _ => ?_) (fun _ => ?_))
      | (refine tot_bind (num_tot hb (by omega) (by omega) _ (by simp)) fun r4 q4 => ?_; have e4 := q4.1)
      | (with_reducible refine tot_ret ⟨?_, ?_, ?_⟩)
      | (simp only; omega)
      | (with_reducible refine any0 _ ?_; first | exact v1 | (simp <;> omega))
theorem l2Some_tot (vars : List IVar) (rules : List IRule) (hv : vars.length ≤ 4) {p : Int} (h0 : 0 ≤ p) (h1 : p ≤ 1000000) : Tot (fun k => spec_l2Some.f k b p vars rules) (fun r => p ≤ r.1 ∧ r.1 ≤ p + 100 ∧ r.2.length ≤ 5) := by
  have key : ∀ d n : Nat, vars.length - n = d → n ≤ vars.length → ∀ (p' : Int) (x5 : List Int), p ≤ p' → p' + 10 * d ≤ p + 50 → x5.length = n → Tot (fun k => spec_l2Some.l1 k p' x5 (n : Int) b vars rules) (fun r => p ≤ r.1 ∧ r.1 ≤ p + 100 ∧ r.2.length ≤ 5) := by
    intro d
    induction d with
    | zero =>
      intro n g1 g2 p' x5 a1 a2 a3
      refine tot_step (fun k => by rw [spec_l2Some.l1]) ?_
      refine tot_neg (by omega) (tot_bind (pick_tot hb (by omega) (by omega) _) fun r2 q2 => ?_)
      have e2 := q2.1
      refine tot_ite (fun _ => tot_bind (pick_tot hb (by omega) (by omega) _) fun r3 q3 => ?_) fun _ => tot_ret ⟨by simp only; omega, by simp only; omega, by simp only; omega⟩
      have e3 := q3.1
      refine tot_ite (fun _ => tot_pos (by omega) (tot_ret ⟨by simp only; omega, by simp only; omega, by simp <;> omega⟩)) fun _ => tot_ite (fun _ => tot_pos (by omega) (tot_ret ⟨by simp only; omega, by simp only; omega, by simp <;> omega⟩)) fun _ => tot_pos (by omega) (tot_pos (by omega) (tot_ret ⟨by simp only; omega, by simp only; omega, by simp <;> omega⟩))
    | succ d ih =>
      intro n g1 g2 p' x5 a1 a2 a3
      have j2 : ∀ (p2 : Int) v, p' ≤ p2 → p2 ≤ p' + 5 → Tot (fun k => spec_l2Some.j2 k p2 v b vars rules x5 (n : Int)) (fun r => p ≤ r.1 ∧ r.1 ≤ p + 100 ∧ r.2.length ≤ 5) := fun p2 v b1 b2 => by
        refine tot_step (fun k => by rw [spec_l2Some.j2]) ?_
        rw [wrap_nat (n := n) (m := vars.length) (by omega) (by omega)]
        exact tot_pos (by omega) (ih (n + 1) (by omega) (by omega) _ _ (by omega) (by omega) (by simp; omega))
      have j3 : ∀ (p2 : Int) v, p' ≤ p2 → p2 ≤ p' + 5 → Tot (fun k => spec_l2Some.j3 k p2 v b vars rules x5 (n : Int)) (fun r => p ≤ r.1 ∧ r.1 ≤ p + 100 ∧ r.2.length ≤ 5) := fun p2 v b1 b2 => tot_step (fun k => by rw [spec_l2Some.j3]) (j2 p2 v b1 b2)
      refine tot_step (fun k => by rw [spec_l2Some.l1]) ?_
      refine tot_pos (by omega) (tot_pos (by omega) (tot_pos (by omega) (tot_pos (by omega) (tot_pos (by omega) (tot_pos (by omega) (tot_pos (by omega) (tot_ite (fun _ => tot_ite (fun _ => tot_bind (pick_tot hb (by omega) (by omega) _) fun r1 q1 => ?_) fun _ => j3 _ _ (by omega) (by omega)) fun _ => j2 _ _ (by omega) (by omega))))))))
      have e1 := q1.1
      exact j3 _ _ (by omega) (by omega)
  unfold spec_l2Some.f
  exact key vars.length 0 (by omega) (by omega) p [] (by omega) (by omega) rfl
end
theorem l40Open_tot {l : List Int} (h : ∀ x ∈ l, 0 ≤ x ∧ x < 256) : Tot (fun k => spec_l40Open.f k l) (fun r => ByteL r.1 ∧ r.2 = 0) := by
  unfold spec_l40Open.f
  refine tot_ite (fun h1 => tot_pos (by omega) (tot_ret ⟨⟨by rw [List.length_take]; omega, fun x hx => h x (List.mem_of_mem_take hx)⟩, rfl⟩)) fun h1 => tot_ret ⟨⟨by show l.length ≤ 2000; omega, h⟩, rfl⟩
theorem bytes_in {l : List Int} (h : l.length ≤ 9223372036854775807 ∧ ∀ x ∈ l, (Lit.int .u8 x).wf = true) : ∀ x ∈ l, 0 ≤ x ∧ x < 256 := fun x hx => by
  have := h.2 x hx
  have e1 : Go.IntKind.u8.min = 0 := by decide
  have e2 : Go.IntKind.u8.max = 255 := by decide
  simp [Lit.wf] at this
  omega
theorem AnyQ.valid {s : List IVar × List IRule} (h : AnyQ s) : Ev (fun k => impl_SystemValid.f k s.1 s.2) (sysP s.1 s.2) := impl_SystemValid_ev _ _ (by have := h.2.1; omega) (fun r hr => by have := h.2.2 r hr; omega)
end Go.Proofs.Ytpjmiaooogephaa.PA
end
section
set_option linter.unusedVariables false
set_option linter.unusedSimpArgs false
namespace Go.Proofs.Ytpjmiaooogephaa.PA
open Go.RowKit Go.Proofs.YtpjmiaooogephaaW.PrintWords
def SzOk (f : Nat → Option Int) (a : Int) (P : Prop) : Prop := ∃ r, Ev f r ∧ (r < 0 ∨ (0 ≤ r ∧ r ≤ a ∧ P))
def stateGo : List IVar → List Int → Bool
  | v :: vs, x :: xs => inR x v.f0 v.f1 && stateGo vs xs
  | _, _ => true
def inRangeP (vars : List IVar) (state : List Int) : Bool := decide (state.length = vars.length) && stateGo vars state
theorem spec_l2In_ev (vars : List IVar) (rules : List IRule) (state : List Int) (hl : vars.length ≤ 9223372036854775807) : Ev (fun k => spec_l2In.f k vars rules state) (inRangeP vars state) := by
  unfold spec_l2In.f inRangeP
  by_cases h : state.length = vars.length
  · refine ev_pos (by omega) ?_
    have key : ∀ d n : Nat, state.length - n = d → n ≤ state.length → Ev (fun k => spec_l2In.l0 k state (n : Int) vars rules) (stateGo (vars.drop n) (state.drop n)) := by
      intro d
      induction d with
      | zero =>
        intro n e1 e2
        have : n = state.length := by omega
        subst this
        rw [List.drop_length, h, List.drop_length]
        refine Ev.step (fun k => by rw [spec_l2In.l0]) ?_
        exact ev_neg (by omega) (ev_ret _)
      | succ d ih =>
        intro n e1 e2
        have hn : n < state.length := by omega
        have hm : n < vars.length := by omega
        have r1 : rd state (n : Int) = state[n] := getD_of (List.getElem?_eq_getElem hn)
        have r2 : rd_IVar vars (n : Int) = vars[n] := getD_of (List.getElem?_eq_getElem hm)
        rw [List.drop_eq_getElem_cons hn, List.drop_eq_getElem_cons hm, stateGo]
        refine Ev.step (fun k => by rw [spec_l2In.l0]) ?_
        refine ev_pos (by omega) (ev_pos (by omega) (ev_pos (by omega) ?_))
        rw [r1, r2, spec_l1In_eq, wrap_nat hn (by omega)]
        simp only [Option.bind_some]
        cases hq : inR state[n] vars[n].f0 vars[n].f1 with
        | true => exact ev_pos rfl (ev_eq (ih (n + 1) (by omega) (by omega)) (by simp))
        | false => exact ev_neg (by simp) (ev_eq (ev_ret _) (by simp))
    have := key state.length 0 (by omega) (by omega)
    simpa [h] using this
  · exact ev_neg (by omega) (ev_eq (ev_ret _) (by simp [h]))
theorem impl_inRange_ev (vars : List IVar) (rules : List IRule) (state : List Int) (hl : vars.length ≤ 9223372036854775807) : Ev (fun k => impl_inRange.f k vars rules state) (inRangeP vars state) := by
  unfold impl_inRange.f inRangeP
  by_cases h : state.length = vars.length
  · refine ev_pos (by omega) ?_
    have key : ∀ d n : Nat, state.length - n = d → n ≤ state.length → Ev (fun k => impl_inRange.l0 k state vars (vars.length : Int) (n : Int)) (stateGo (vars.drop n) (state.drop n)) := by
      intro d
      induction d with
      | zero =>
        intro n e1 e2
        have : n = state.length := by omega
        subst this
        rw [List.drop_length, h, List.drop_length]
        refine Ev.step (fun k => by rw [impl_inRange.l0]) ?_
        exact ev_neg (by omega) (ev_ret _)
      | succ d ih =>
        intro n e1 e2
        have hn : n < state.length := by omega
        have hm : n < vars.length := by omega
        have r1 : rd state (n : Int) = state[n] := getD_of (List.getElem?_eq_getElem hn)
        have r2 : rd_IVar vars (n : Int) = vars[n] := getD_of (List.getElem?_eq_getElem hm)
        rw [List.drop_eq_getElem_cons hn, List.drop_eq_getElem_cons hm, stateGo]
        refine Ev.step (fun k => by rw [impl_inRange.l0]) ?_
        refine ev_pos (by omega) (ev_pos (by omega) (ev_pos (by omega) (ev_pos (by omega) ?_)))
        rw [r1, r2, impl_in_eq, wrap_nat hn (by omega)]
        simp only [Option.bind_some]
        cases hq : inR state[n] vars[n].f0 vars[n].f1 with
        | true => exact ev_pos rfl (ev_eq (ih (n + 1) (by omega) (by omega)) (by simp))
        | false => exact ev_neg (by simp) (ev_eq (ev_ret _) (by simp))
    have := key state.length 0 (by omega) (by omega)
    simpa [h] using this
  · exact ev_neg (by omega) (ev_eq (ev_ret _) (by simp [h]))
theorem sysP_and {vars : List IVar} {rules : List IRule} (h : sysP vars rules = true) :
    (1 ≤ vars.length ∧ vars.length ≤ 5) ∧ rules.length ≤ 8 ∧ vars.all varP = true ∧ rules.all (fun r => ruleP r vars.length) = true ∧ sizeP vars ≤ 400 := by
  simp only [sysP, Bool.and_eq_true, inR_iff, smallP, decide_eq_true_eq] at h
  exact ⟨⟨by omega, by omega⟩, h.2.1, h.2.2.1, h.2.2.2.1, h.2.2.2.2⟩
def foldN {α σ : Type} (step : Nat → σ → α → σ) : Nat → σ → List α → σ
  | _, s, [] => s
  | n, s, x :: r => foldN step (n + 1) (step n s x) r
theorem foldN_push {α β : Type} (g : α → β) : ∀ (xs : List α) (n : Nat) (s : List β), foldN (fun _ s x => s ++ [g x]) n s xs = s ++ xs.map g
  | [], n, s => by simp [foldN]
  | x :: r, n, s => by unfold foldN; rw [foldN_push g r]; simp
theorem ev_fold {α σ ρ : Type} (L : Nat → σ → Int → Option ρ) (xs : List α) (step : Nat → σ → α → σ) (fin : σ → ρ) (I : Nat → σ → Prop)
    (hend : ∀ s, I xs.length s → Ev (fun k => L k s (xs.length : Int)) (fin s))
    (hstep : ∀ (n : Nat) s x R, n < xs.length → xs[n]? = some x → I n s → Ev (fun k => L k (step n s x) ((n + 1 : Nat) : Int)) R → Ev (fun k => L k s (n : Int)) R)
    (hI : ∀ (n : Nat) s x, n < xs.length → xs[n]? = some x → I n s → I (n + 1) (step n s x)) (s0 : σ) (h0 : I 0 s0) :
    Ev (fun k => L k s0 0) (fin (foldN step 0 s0 xs)) := by
  have h : ∀ d n : Nat, xs.length - n = d → n ≤ xs.length → ∀ s, I n s → Ev (fun k => L k s (n : Int)) (fin (foldN step n s (xs.drop n))) := by
    intro d
    induction d with
    | zero =>
      intro n h1 h2 s hs
      have : n = xs.length := by omega
      subst this
      rw [List.drop_length]
      exact hend s hs
    | succ d ih =>
      intro n h1 h2 s hs
      have hn : n < xs.length := by omega
      have hx := List.getElem?_eq_getElem hn
      rw [List.drop_eq_getElem_cons hn]
      exact hstep n s _ _ hn hx hs (ih (n + 1) (by omega) (by omega) _ (hI n s _ hn hx hs))
  have := h xs.length 0 (by omega) (by omega) s0 h0
  simpa using this
def sameGo : List Int → List Int → Bool
  | x :: xs, y :: ys => decide (x = y) && sameGo xs ys
  | _, _ => true
theorem sameGo_iff : ∀ (a b : List Int), a.length = b.length → (sameGo a b = true ↔ a = b)
  | [], [], _ => by simp [sameGo]
  | x :: xs, [], h => by simp at h
  | [], y :: ys, h => by simp at h
  | x :: xs, y :: ys, h => by
    have := sameGo_iff xs ys (by simpa using h)
    simp [sameGo, this]
theorem sameGo_eq (a b : List Int) (h : a.length = b.length) : sameGo a b = decide (a = b) := by
  have := sameGo_iff a b h
  by_cases e : a = b
  · rw [decide_eq_true e]; exact this.2 e
  · rw [decide_eq_false e]
    cases hs : sameGo a b with
    | false => rfl
    | true => exact absurd (this.1 hs) e
theorem ev_cmp (L : Nat → Int → Option Bool) (a b : List Int) (hl : a.length ≤ 9223372036854775807) (hab : a.length = b.length)
    (hL : ∀ k i, L (k + 1) i = if i < (a.length : Int) then (if 0 ≤ i then (if i < (b.length : Int) then (if (rd a i) = (rd b i) then L k (wrap64 (i + 1)) else some false) else none) else none) else some true) :
    Ev (fun k => L k 0) (decide (a = b)) := by
  have h : ∀ d n : Nat, a.length - n = d → n ≤ a.length → Ev (fun k => L k (n : Int)) (sameGo (a.drop n) (b.drop n)) := by
    intro d
    induction d with
    | zero =>
      intro n h1 h2
      have : n = a.length := by omega
      subst this
      rw [List.drop_length]
      refine Ev.step (fun k => hL k _) (ev_neg (by omega) (ev_eq (ev_ret _) ?_))
      simp [sameGo]
    | succ d ih =>
      intro n h1 h2
      have hn : n < a.length := by omega
      have hb : n < b.length := by omega
      rw [List.drop_eq_getElem_cons hn, List.drop_eq_getElem_cons hb]
      refine Ev.step (fun k => hL k _) (ev_pos (by omega) (ev_pos (by omega) (ev_pos (by omega) ?_)))
      rw [show rd a (n : Int) = a[n] from getD_of (List.getElem?_eq_getElem hn), show rd b (n : Int) = b[n] from getD_of (List.getElem?_eq_getElem hb)]
      by_cases e : a[n] = b[n]
      · refine ev_pos e ?_
        rw [wrap_nat hn (by omega)]
        refine ev_eq (ih (n + 1) (by omega) (by omega)) ?_
        conv => rhs; unfold sameGo
        rw [decide_eq_true e, Bool.true_and]
      · refine ev_neg e (ev_eq (ev_ret _) ?_)
        conv => rhs; unfold sameGo
        rw [decide_eq_false e, Bool.false_and]
  have := h a.length 0 (by omega) (by omega)
  rw [← sameGo_eq a b hab]
  simpa using this
theorem spec_InRange_ev (vars : List IVar) (rules : List IRule) (st : List Int) (hl : vars.length ≤ 9223372036854775807) : Ev (fun k => spec_InRange.f k vars rules st) (sysP vars rules && inRangeP vars st) := by
  unfold spec_InRange.f
  refine ev_bind (spec_SystemValid_ev _ _) ?_
  cases hq : sysP vars rules with
  | true => exact ev_pos rfl (ev_bind (spec_l2In_ev _ _ st hl) (ev_eq (ev_ret _) (by simp)))
  | false => exact ev_neg (by simp) (ev_eq (ev_ret _) (by simp))
theorem inRangeP_len {vars : List IVar} {st : List Int} (h : inRangeP vars st = true) : st.length = vars.length := by
  simp only [inRangeP, Bool.and_eq_true, decide_eq_true_eq] at h
  exact h.1
def heldP (n : Int) : Int := if n > 9999 then 9999 else if n < -9999 then -9999 else n
theorem heldP_in (n : Int) : -9999 ≤ heldP n ∧ heldP n ≤ 9999 := by unfold heldP; split <;> (try split) <;> omega
def doP (op a b : Int) : Int :=
  if op = 2 then heldP (a + b) else if op = 3 then heldP (a - b) else if op = 4 then heldP (a * b)
  else if op = 5 then (if a < b then 1 else 0) else if op = 6 then (if a = b then 1 else 0)
  else if op = 7 then 1 - a else if op = 8 then (if a ≤ b then a else b) else (if a ≤ b then b else a)
def termP (t : ITerm) (st vs : List Int) : Int := if t.f0 = 0 then t.f1 else if t.f0 = 1 then rd st t.f1 else doP t.f0 (rd vs t.f2) (rd vs t.f3)
def valsGo (st : List Int) : List ITerm → List Int → List Int
  | [], vs => vs
  | t :: ts, vs => valsGo st ts (vs ++ [termP t st vs])
def valsP (l : List ITerm) (st : List Int) : List Int := valsGo st l []
theorem valsGo_length (st : List Int) : ∀ (l : List ITerm) (vs : List Int), (valsGo st l vs).length = vs.length + l.length
  | [], vs => by simp [valsGo]
  | t :: ts, vs => by unfold valsGo; rw [valsGo_length]; simp; omega
theorem valsP_length (l : List ITerm) (st : List Int) : (valsP l st).length = l.length := by unfold valsP; rw [valsGo_length]; simp
def valOk (k v : Int) : Prop := (k = 1 → -9999 ≤ v ∧ v ≤ 9999) ∧ (k = 2 → 0 ≤ v ∧ v ≤ 1)
structure ValsOk (ks vs : List Int) : Prop where
  len : vs.length = ks.length
  at_ : ∀ i : Nat, i < ks.length → valOk (ks.getD i 0) (vs.getD i 0)
def StateIn (st : List Int) : Prop := ∀ i : Nat, i < st.length → -9999 ≤ st.getD i 0 ∧ st.getD i 0 ≤ 9999
theorem ValsOk.nil : ValsOk [] [] := ⟨rfl, fun i h => absurd h (Nat.not_lt_zero i)⟩
theorem ValsOk.rd {ks vs : List Int} (h : ValsOk ks vs) {i : Int} (h0 : inR i 0 ((ks.length : Int) - 1) = true) : valOk (rd ks i) (rd vs i) := by
  have := inR_iff.1 h0
  have e := h.at_ i.toNat (by omega)
  exact e
theorem kindP_cases {t : ITerm} {ks : List Int} {vars : Int} (h : kindP t ks vars ≠ 0) :
    (t.f0 = 0 ∧ inR t.f1 (-9999) 9999 = true ∧ kindP t ks vars = 1) ∨ (t.f0 = 1 ∧ inR t.f1 0 (vars - 1) = true ∧ kindP t ks vars = 1) ∨
    (inR t.f0 2 9 = true ∧ inR t.f2 0 (ks.length - 1) = true ∧ inR t.f3 0 (ks.length - 1) = true ∧ rd ks t.f2 = wantP t.f0 ∧ rd ks t.f3 = wantP t.f0 ∧ kindP t ks vars = (if t.f0 ≥ 5 then 2 else 1)) := by
  unfold kindP at h ⊢
  split
  · rename_i h1; exact .inl ⟨h1.1, h1.2.1, rfl⟩
  · rename_i h1
    rw [if_neg h1] at h
    split
    · rename_i h2; exact .inr (.inl ⟨h2.1, h2.2.1, rfl⟩)
    · rename_i h2
      rw [if_neg h2] at h
      split
      · rename_i h3; exact .inr (.inr ⟨h3.1.1, h3.1.2.2.1, h3.1.2.2.2, h3.2.1, h3.2.2.1, rfl⟩)
      · rename_i h3; rw [if_neg h3] at h; exact absurd rfl h
theorem rd_app {xs ys : List Int} {i : Int} (h : inR i 0 ((xs.length : Int) - 1) = true) : rd (xs ++ ys) i = rd xs i := by
  have := inR_iff.1 h
  show (xs ++ ys).getD i.toNat 0 = xs.getD i.toNat 0
  rw [List.getD_eq_getElem?_getD, List.getD_eq_getElem?_getD, List.getElem?_append_left (by omega)]
theorem termP_ok {t : ITerm} {ks vs st : List Int} {vars : Int} (hk : kindP t ks vars ≠ 0) (hv : ValsOk ks vs) (hs : StateIn st) (hl : vars = st.length) : valOk (kindP t ks vars) (termP t st vs) := by
  unfold termP
  rcases kindP_cases hk with ⟨h0, h1, h2⟩ | ⟨h0, h1, h2⟩ | ⟨h0, h1, h2, h3, h4, h5⟩
  · rw [if_pos h0, h2]
    have := inR_iff.1 h1
    exact ⟨fun _ => this, fun h => absurd h (by omega)⟩
  · rw [if_neg (by omega), if_pos h0, h2]
    have := inR_iff.1 h1
    have := hs t.f1.toNat (by omega)
    exact ⟨fun _ => this, fun h => absurd h (by omega)⟩
  · have hb := inR_iff.1 h0
    rw [if_neg (by omega), if_neg (by omega), h5]
    have ha := hv.rd h1
    have hc := hv.rd h2
    rw [h3] at ha
    rw [h4] at hc
    unfold wantP at ha hc
    unfold doP
    by_cases e2 : t.f0 = 2
    · rw [if_pos e2, if_neg (by omega)]; exact ⟨fun _ => heldP_in _, fun h => absurd h (by omega)⟩
    rw [if_neg e2]
    by_cases e3 : t.f0 = 3
    · rw [if_pos e3, if_neg (by omega)]; exact ⟨fun _ => heldP_in _, fun h => absurd h (by omega)⟩
    rw [if_neg e3]
    by_cases e4 : t.f0 = 4
    · rw [if_pos e4, if_neg (by omega)]; exact ⟨fun _ => heldP_in _, fun h => absurd h (by omega)⟩
    rw [if_neg e4, if_pos (by omega : t.f0 ≥ 5)]
    refine ⟨fun h => absurd h (by omega), fun _ => ?_⟩
    by_cases e5 : t.f0 = 5
    · rw [if_pos e5]; split <;> omega
    rw [if_neg e5]
    by_cases e6 : t.f0 = 6
    · rw [if_pos e6]; split <;> omega
    rw [if_neg e6]
    rw [if_pos (by omega : t.f0 ≥ 7)] at ha hc
    have ha := ha.2 rfl
    have hc := hc.2 rfl
    split
    · omega
    · split <;> split <;> omega
theorem ValsOk.push {ks vs : List Int} (h : ValsOk ks vs) {k v : Int} (hv : valOk k v) : ValsOk (ks ++ [k]) (vs ++ [v]) := by
  refine ⟨by simp [h.len], fun i hi => ?_⟩
  rw [List.length_append, List.length_singleton] at hi
  by_cases e : i < ks.length
  · have := h.at_ i e
    rw [List.getD_eq_getElem?_getD, List.getD_eq_getElem?_getD] at this ⊢
    rw [List.getElem?_append_left e, List.getElem?_append_left (by rw [h.len]; exact e)]
    exact this
  · have e' : i = ks.length := by omega
    subst e'
    rw [List.getD_eq_getElem?_getD, List.getD_eq_getElem?_getD, List.getElem?_append_right (Nat.le_refl _), List.getElem?_append_right (by rw [h.len]; exact Nat.le_refl _), h.len]
    simpa using hv
def GoOk (vars : Int) : List ITerm → List Int → Prop
  | [], _ => True
  | t :: ts, ks => kindP t ks vars ≠ 0 ∧ GoOk vars ts (ks ++ [kindP t ks vars])
theorem kindsGo_ok {vars : Int} : ∀ (l : List ITerm) (ks : List Int), (ks ≠ [] ∨ l ≠ []) → kindsGo vars l ks ≠ [] → GoOk vars l ks
  | [], ks, _, _ => trivial
  | t :: ts, ks, _, h => by
    unfold kindsGo at h
    by_cases e : kindP t ks vars = 0
    · rw [if_pos e] at h; exact absurd rfl h
    · rw [if_neg e] at h
      exact ⟨e, kindsGo_ok ts _ (.inl (by simp)) h⟩
theorem kindOfP_ok {l : List ITerm} {vars kind : Int} (h : kindOfP l vars = kind) (hk : kind ≠ 0) : GoOk vars l [] ∧ (0 ≤ vars ∧ vars ≤ 5) ∧ 1 ≤ l.length ∧ l.length ≤ 40 := by
  have hne : kindsP l vars ≠ [] := by
    intro e
    apply hk
    rw [← h]
    simp [kindOfP, e]
  obtain ⟨h1, h2⟩ := kindsP_length l vars hne
  have hh := h2
  simp only [kindsOk, Bool.and_eq_true, inR_iff] at hh
  have hl : l ≠ [] := by intro e; subst e; simp at hh
  unfold kindsP at hne
  rw [if_pos h2] at hne
  exact ⟨kindsGo_ok l [] (.inr hl) hne, ⟨by omega, by omega⟩, by omega, by omega⟩
theorem stateGo_in : ∀ (vs : List IVar) (st : List Int), vs.all varP = true → st.length = vs.length → stateGo vs st = true → StateIn st
  | [], st, _, hl, _ => fun i hi => absurd hi (by simp at hl; subst hl; simp)
  | v :: vs, [], _, hl, _ => fun i hi => absurd hi (by simp)
  | v :: vs, x :: xs, h, hl, hg => by
    simp only [List.all_cons, Bool.and_eq_true] at h
    simp only [stateGo, Bool.and_eq_true] at hg
    have hv := varP_span h.1
    have hx := inR_iff.1 hg.1
    have ih := stateGo_in vs xs h.2 (by simpa using hl) hg.2
    intro i hi
    cases i with
    | zero => simp; omega
    | succ i => simpa using ih i (by simpa using hi)
theorem stateIn_of {vars : List IVar} {rules : List IRule} {st : List Int} (h : sysP vars rules = true) (hi : inRangeP vars st = true) : StateIn st ∧ st.length = vars.length := by
  simp only [inRangeP, Bool.and_eq_true, decide_eq_true_eq] at hi
  exact ⟨stateGo_in vars st (sysP_and h).2.2.1 hi.1 hi.2, hi.1⟩
theorem spec_l1Held_eq (n : Int) : spec_l1Held.f n = some (heldP n) := by unfold spec_l1Held.f heldP; split <;> (try split) <;> rfl
theorem impl_held_eq (n : Int) : impl_held.f n = some (heldP n) := by
  unfold impl_held.f heldP mx mn
  congr 1
  split <;> split <;> (try split) <;> (try split) <;> omega
theorem mul_in {a b : Int} (ha : -9999 ≤ a ∧ a ≤ 9999) (hb : -9999 ≤ b ∧ b ≤ 9999) : -99980001 ≤ a * b ∧ a * b ≤ 99980001 := by
  have h : (a * b).natAbs ≤ 9999 * 9999 := by
    rw [Int.natAbs_mul]
    exact Nat.mul_le_mul (by omega) (by omega)
  omega
theorem arg_num {op a : Int} (h : valOk (wantP op) a) (ho : op < 7) : -9999 ≤ a ∧ a ≤ 9999 := by
  unfold wantP at h
  rw [if_neg (by omega)] at h
  exact h.1 rfl
theorem arg_truth {op a : Int} (h : valOk (wantP op) a) (ho : op ≥ 7) : a = 0 ∨ a = 1 := by
  unfold wantP at h
  rw [if_pos ho] at h
  have := h.2 rfl
  omega
theorem ops_cases {op : Int} (h : inR op 2 9 = true) : op = 2 ∨ op = 3 ∨ op = 4 ∨ op = 5 ∨ op = 6 ∨ op = 7 ∨ op = 8 ∨ op = 9 := by
  have := inR_iff.1 h
  omega
theorem spec_l1Do_eq {op a b : Int} (ho : inR op 2 9 = true) (ha : valOk (wantP op) a) (hb : valOk (wantP op) b) : spec_l1Do.f op a b = some (doP op a b) := by
  unfold spec_l1Do.f doP
  rcases ops_cases ho with rfl | rfl | rfl | rfl | rfl | rfl | rfl | rfl
  · have := arg_num ha (by omega); have := arg_num hb (by omega)
    have e : wrap64 (a + b) = a + b := wrap_in (by omega) (by omega)
    simp [e, spec_l1Held_eq]
  · have := arg_num ha (by omega); have := arg_num hb (by omega)
    have e : wrap64 (a - b) = a - b := wrap_in (by omega) (by omega)
    simp [e, spec_l1Held_eq]
  · have := mul_in (arg_num ha (by omega)) (arg_num hb (by omega))
    have e : wrap64 (a * b) = a * b := wrap_in (by omega) (by omega)
    simp [e, spec_l1Held_eq]
  · by_cases h : a < b <;> simp [h, spec_l1Truth.f]
  · by_cases h : a = b <;> simp [h, spec_l1Truth.f]
  · rcases arg_truth ha (by omega) with rfl | rfl <;> simp [wrap64]
  · rcases arg_truth ha (by omega) with rfl | rfl <;> rcases arg_truth hb (by omega) with rfl | rfl <;> simp [wrap64, mn, mx, spec_l1Truth.f]
  · rcases arg_truth ha (by omega) with rfl | rfl <;> rcases arg_truth hb (by omega) with rfl | rfl <;> simp [wrap64, mn, mx, spec_l1Truth.f]
theorem impl_do_eq {op a b : Int} (ho : inR op 2 9 = true) (ha : valOk (wantP op) a) (hb : valOk (wantP op) b) : impl_do.f op a b = some (doP op a b) := by
  unfold impl_do.f doP
  rcases ops_cases ho with rfl | rfl | rfl | rfl | rfl | rfl | rfl | rfl
  · have := arg_num ha (by omega); have := arg_num hb (by omega)
    have e : wrap64 (a + b) = a + b := wrap_in (by omega) (by omega)
    simp [e, impl_held_eq]
  · have := arg_num ha (by omega); have := arg_num hb (by omega)
    have e : wrap64 (a - b) = a - b := wrap_in (by omega) (by omega)
    simp [e, impl_held_eq]
  · have := mul_in (arg_num ha (by omega)) (arg_num hb (by omega))
    have e : wrap64 (a * b) = a * b := wrap_in (by omega) (by omega)
    simp [e, impl_held_eq]
  · by_cases h : a < b <;> simp [h, impl_bit.f]
  · by_cases h : a = b <;> simp [h, impl_bit.f]
  · rcases arg_truth ha (by omega) with rfl | rfl <;> simp [wrap64]
  · rcases arg_truth ha (by omega) with rfl | rfl <;> rcases arg_truth hb (by omega) with rfl | rfl <;> simp [wrap64, mn, mx, impl_bit.f]
  · rcases arg_truth ha (by omega) with rfl | rfl <;> rcases arg_truth hb (by omega) with rfl | rfl <;> simp [wrap64, mn, mx, impl_bit.f]
theorem spec_l1Values_ev {l : List ITerm} {st : List Int} {vars : Int} (hg : GoOk vars l []) (hl : l.length ≤ 40) (hs : StateIn st) (hv : vars = st.length) : Ev (fun k => spec_l1Values.f k l st) (valsP l st) := by
  unfold spec_l1Values.f valsP
  have key : ∀ d n : Nat, l.length - n = d → n ≤ l.length → ∀ ks vs : List Int, ks.length = n → ValsOk ks vs → GoOk vars (l.drop n) ks → Ev (fun k => spec_l1Values.l0 k l st vs (n : Int)) (valsGo st (l.drop n) vs) := by
    intro d
    induction d with
    | zero =>
      intro n e1 e2 ks vs hk ho hg
      have : n = l.length := by omega
      subst this
      rw [List.drop_length]
      refine Ev.step (fun k => by rw [spec_l1Values.l0]) ?_
      exact ev_neg (by omega) (ev_ret _)
    | succ d ih =>
      intro n e1 e2 ks vs hk ho hg
      have hn : n < l.length := by omega
      have hr : rd_ITerm l (n : Int) = l[n] := getD_of (List.getElem?_eq_getElem hn)
      rw [List.drop_eq_getElem_cons hn] at hg ⊢
      obtain ⟨hx, hg'⟩ := hg
      have hvl : vs.length = n := by rw [ho.len, hk]
      have ih' := ih (n + 1) (by omega) (by omega) _ (vs ++ [termP l[n] st vs]) (by rw [List.length_append, hk]; rfl) (ho.push (termP_ok hx ho hs hv)) hg'
      unfold valsGo
      refine Ev.step (fun k => by rw [spec_l1Values.l0]) ?_
      rw [hr, wrap_nat hn (by omega)]
      refine ev_pos (by omega) (ev_pos (by omega) ?_)
      rcases kindP_cases hx with ⟨h0, h1, _⟩ | ⟨h0, h1, _⟩ | ⟨h0, h1, h2, h3, h4, _⟩
      · have et : termP l[n] st vs = l[n].f1 := by unfold termP; rw [if_pos h0]
        rw [et] at ih' ⊢
        exact ev_pos h0 (ev_pos (by omega) ih')
      · have et : termP l[n] st vs = rd st l[n].f1 := by unfold termP; rw [if_neg (by omega), if_pos h0]
        have hb := inR_iff.1 h1
        rw [et] at ih' ⊢
        exact ev_neg (by omega) (ev_pos h0 (ev_pos (by omega) (ev_pos (by omega) (ev_pos (by omega) ih'))))
      · have hb := inR_iff.1 h0
        have hb1 := inR_iff.1 h1
        have hb2 := inR_iff.1 h2
        have et : termP l[n] st vs = doP l[n].f0 (rd vs l[n].f2) (rd vs l[n].f3) := by unfold termP; rw [if_neg (by omega), if_neg (by omega)]
        have ha := ho.rd h1
        have hc := ho.rd h2
        rw [h3] at ha
        rw [h4] at hc
        rw [et] at ih' ⊢
        exact ev_neg (by omega) (ev_neg (by omega) (ev_pos (by omega) (ev_pos (by omega) (ev_pos (by omega) (ev_pos (by omega) (ev_bind (ev_fix (spec_l1Do_eq h0 ha hc)) (ev_pos (by omega) ih')))))))
  have := key l.length 0 (by omega) (by omega) [] [] rfl ValsOk.nil (by simpa using hg)
  simpa using this
def lastP (l : List ITerm) (st : List Int) : Int := rd (valsP l st) ((l.length : Int) - 1)
theorem spec_l2Last_ev {l : List ITerm} {st : List Int} {vars : Int} (hg : GoOk vars l []) (h1 : 1 ≤ l.length) (hl : l.length ≤ 40) (hs : StateIn st) (hv : vars = st.length) : Ev (fun k => spec_l2Last.f k l st) (lastP l st) := by
  unfold spec_l2Last.f
  refine ev_bind (spec_l1Values_ev hg hl hs hv) ?_
  rw [wrap_in (x := (l.length : Int) - 1) (by omega) (by omega)]
  exact ev_pos (by omega) (ev_pos (by rw [valsP_length]; omega) (ev_ret _))
theorem fill_set {vs : List Int} {m n : Nat} {x : Int} (hv : vs.length = n) (hn : n < m) : (vs ++ List.replicate (m - n) 0).set ((n : Int)).toNat x = (vs ++ [x]) ++ List.replicate (m - (n + 1)) 0 := by
  subst hv
  rw [show m - vs.length = (m - (vs.length + 1)) + 1 by omega, List.replicate_succ]
  simp [List.set_append]
theorem impl_eval_ev {l : List ITerm} {st : List Int} {vars : Int} (hg : GoOk vars l []) (h1 : 1 ≤ l.length) (hl : l.length ≤ 40) (hs : StateIn st) (hv : vars = st.length) : Ev (fun k => impl_eval.f k l st) (lastP l st) := by
  unfold impl_eval.f
  refine ev_pos (by omega) (ev_pos (by omega) ?_)
  have key : ∀ d n : Nat, l.length - n = d → n ≤ l.length → ∀ ks vs : List Int, ks.length = n → ValsOk ks vs → GoOk vars (l.drop n) ks → Ev (fun k => impl_eval.l0 k st (vs ++ List.replicate (l.length - n) 0) l (l.length : Int) (n : Int)) (rd (valsGo st (l.drop n) vs) ((l.length : Int) - 1)) := by
    intro d
    induction d with
    | zero =>
      intro n e1 e2 ks vs hk ho hg
      have : n = l.length := by omega
      subst this
      have hvl : vs.length = l.length := by rw [ho.len, hk]
      rw [List.drop_length, Nat.sub_self, List.replicate_zero, List.append_nil]
      refine Ev.step (fun k => by rw [impl_eval.l0]) ?_
      rw [hvl, wrap_in (x := (l.length : Int) - 1) (by omega) (by omega)]
      exact ev_neg (by omega) (ev_pos (by omega) (ev_pos (by omega) (ev_ret _)))
    | succ d ih =>
      intro n e1 e2 ks vs hk ho hg
      have hn : n < l.length := by omega
      have hr : rd_ITerm l (n : Int) = l[n] := getD_of (List.getElem?_eq_getElem hn)
      rw [List.drop_eq_getElem_cons hn] at hg ⊢
      obtain ⟨hx, hg'⟩ := hg
      have hvl : vs.length = n := by rw [ho.len, hk]
      have hall : (vs ++ List.replicate (l.length - n) 0).length = l.length := by simp; omega
      have ih' := ih (n + 1) (by omega) (by omega) _ (vs ++ [termP l[n] st vs]) (by rw [List.length_append, hk]; rfl) (ho.push (termP_ok hx ho hs hv)) hg'
      unfold valsGo
      refine Ev.step (fun k => by rw [impl_eval.l0]) ?_
      rw [hr, hall, wrap_nat hn (by omega)]
      refine ev_pos (by omega) (ev_pos (by omega) (ev_pos (by omega) ?_))
      rw [← fill_set hvl hn] at ih'
      rcases kindP_cases hx with ⟨h0, h1, _⟩ | ⟨h0, h1, _⟩ | ⟨h0, h1, h2, h3, h4, _⟩
      · have et : termP l[n] st vs = l[n].f1 := by unfold termP; rw [if_pos h0]
        rw [et] at ih' ⊢
        exact ev_pos h0 (ev_pos (by omega) ih')
      · have et : termP l[n] st vs = rd st l[n].f1 := by unfold termP; rw [if_neg (by omega), if_pos h0]
        have hb := inR_iff.1 h1
        rw [et] at ih' ⊢
        exact ev_neg (by omega) (ev_pos h0 (ev_pos (by omega) (ev_pos (by omega) (ev_pos (by omega) ih'))))
      · have hb := inR_iff.1 h0
        have hb1 := inR_iff.1 h1
        have hb2 := inR_iff.1 h2
        have et : termP l[n] st vs = doP l[n].f0 (rd vs l[n].f2) (rd vs l[n].f3) := by unfold termP; rw [if_neg (by omega), if_neg (by omega)]
        have ha := ho.rd h1
        have hc := ho.rd h2
        rw [h3] at ha
        rw [h4] at hc
        rw [et] at ih' ⊢
        have h1' : inR l[n].f2 0 ((vs.length : Int) - 1) = true := by rw [ho.len]; exact h1
        have h2' : inR l[n].f3 0 ((vs.length : Int) - 1) = true := by rw [ho.len]; exact h2
        rw [rd_app h1', rd_app h2']
        exact ev_neg (by omega) (ev_neg (by omega) (ev_pos (by omega) (ev_pos (by omega) (ev_pos (by omega) (ev_pos (by omega) (ev_bind (ev_fix (impl_do_eq h0 ha hc)) (ev_pos (by omega) ih')))))))
  have := key l.length 0 (by omega) (by omega) [] [] rfl ValsOk.nil (by simpa using hg)
  simpa [lastP, valsP] using this
theorem impl_clone_int_eq {l : List Int} (h : l.length ≤ 35184372088832) : impl_clone_int.f l = some l := by unfold impl_clone_int.f; rw [if_pos h]
def putP (st : List Int) (terms : List (List ITerm)) (sets out : List Int) : List Int := foldN (fun n o v => o.set v.toNat (lastP (terms.getD n []) st)) 0 out sets
def useP (vars : List IVar) (r : IRule) (st : List Int) : List Int :=
  if lastP r.f0 st = 0 then [] else if inRangeP vars (putP st r.f2 r.f1 st) = true then putP st r.f2 r.f1 st else []
theorem ruleP_and {r : IRule} {vars : Int} (h : ruleP r vars = true) : kindOfP r.f0 vars = 2 ∧ r.f1.length = r.f2.length ∧ setsGo vars r.f1 r.f2 0 r.f1 = true := by
  simp only [ruleP, Bool.and_eq_true, beq_iff_eq, decide_eq_true_eq] at h
  exact h
theorem foldN_length {α : Type} (step : Nat → List Int → α → List Int) (hs : ∀ n s x, (step n s x).length = s.length) : ∀ (xs : List α) (n : Nat) (s : List Int), (foldN step n s xs).length = s.length
  | [], n, s => rfl
  | x :: r, n, s => by unfold foldN; rw [foldN_length step hs r, hs]
theorem rd_LITerm_nat (xs : List (List ITerm)) (n : Nat) : rd_LITerm xs (n : Int) = xs.getD n [] := rfl
theorem spec_l2Use_ev {vars : List IVar} {rules : List IRule} {st : List Int} (h : sysP vars rules = true) (hi : inRangeP vars st = true) {n : Nat} {r : IRule} (hr : rules[n]? = some r) :
    Ev (fun k => spec_l2Use.f k vars rules st (n : Int)) (useP vars r st) := by
  have hn := (List.getElem?_eq_some_iff.1 hr).1
  obtain ⟨h1, h2, h3, h4, h5⟩ := sysP_and h
  obtain ⟨hs, hsl⟩ := stateIn_of h hi
  have hrule : ruleP r vars.length = true := List.all_eq_true.1 h4 r (List.mem_of_getElem? hr)
  obtain ⟨k1, k2, k3⟩ := ruleP_and hrule
  have hb := setsGo_bound r.f1 0 rfl k3
  have hsl5 := setsGo_len k3 (by omega)
  obtain ⟨g1, _, g2, g3⟩ := kindOfP_ok k1 (by decide)
  have hvs : (vars.length : Int) = (st.length : Int) := by omega
  unfold spec_l2Use.f
  rw [show rd_IRule rules (n : Int) = r from getD_of hr]
  refine ev_pos (by omega) (ev_pos (by omega) (ev_bind (spec_l2Last_ev g1 g2 g3 hs hvs) ?_))
  unfold useP
  refine ev_ite_eq (fun _ => ev_ret _) (fun _ => ?_)
  -- the copy
  have copy := ev_fold (fun k s i => spec_l2Use.l0 k st s i vars rules r.f0 r.f1 r.f2) st (fun _ s x => s ++ [x]) (fun s => if inRangeP vars (putP st r.f2 r.f1 s) = true then putP st r.f2 r.f1 s else []) (fun m s => s.length = m)
    (fun s hsm => by
      refine Ev.step (fun k => by rw [spec_l2Use.l0]) (ev_neg (by omega) ?_)
      have put := ev_fold (fun k s i => spec_l2Use.l1 k st s i vars rules r.f0 r.f1 r.f2) r.f1 (fun n o v => o.set v.toNat (lastP (r.f2.getD n []) st)) (fun s => if inRangeP vars s = true then s else []) (fun _ o => o.length = st.length)
        (fun o ho => by
          refine Ev.step (fun k => by rw [spec_l2Use.l1]) (ev_neg (by omega) (ev_bind (spec_l2In_ev vars rules o (by omega)) ?_))
          exact ev_ite_eq (fun _ => ev_ret _) (fun _ => ev_ret _))
        (fun m o x R hm hx ho ih => by
          obtain ⟨b1, _, b3⟩ := hb m (by omega) hm
          have hx' : r.f1.getD m 0 = x := by rw [List.getD_eq_getElem?_getD, hx]; rfl
          rw [hx'] at b1
          have b1 := inR_iff.1 b1
          obtain ⟨t1, _, t2, t3⟩ := kindOfP_ok b3 (by decide)
          refine Ev.step (fun k => by rw [spec_l2Use.l1]) ?_
          rw [rd_LITerm_nat, show rd r.f1 (m : Int) = x from getD_of hx, wrap_nat hm (by omega)]
          exact ev_pos (by omega) (ev_pos (by omega) (ev_pos (by omega) (ev_bind (spec_l2Last_ev t1 t2 t3 hs hvs) (ev_pos (by omega) (ev_pos (by omega) ih))))))
        (fun m o x hm hx ho => by simpa using ho) s hsm
      exact put)
    (fun m s x R hm hx hsm ih => by
      refine Ev.step (fun k => by rw [spec_l2Use.l0]) ?_
      rw [show rd st (m : Int) = x from getD_of hx, wrap_nat hm (by omega)]
      exact ev_pos (by omega) (ev_pos (by omega) (ev_pos (by omega) ih)))
    (fun m s x hm hx hsm => by simp [hsm]) [] rfl
  have e : foldN (fun (_ : Nat) (s : List Int) (x : Int) => s ++ [x]) 0 [] st = st := by
    have := foldN_push (fun x : Int => x) st 0 []
    simpa using this
  rw [e] at copy
  exact copy
theorem impl_use_ev {vars : List IVar} {rules : List IRule} {st : List Int} (h : sysP vars rules = true) (hi : inRangeP vars st = true) {n : Nat} {r : IRule} (hr : rules[n]? = some r) :
    Ev (fun k => impl_use.f k vars rules st (n : Int)) (useP vars r st, decide (0 < (useP vars r st).length)) := by
  have hn := (List.getElem?_eq_some_iff.1 hr).1
  obtain ⟨h1, h2, h3, h4, h5⟩ := sysP_and h
  obtain ⟨hs, hsl⟩ := stateIn_of h hi
  have hrule : ruleP r vars.length = true := List.all_eq_true.1 h4 r (List.mem_of_getElem? hr)
  obtain ⟨k1, k2, k3⟩ := ruleP_and hrule
  have hb := setsGo_bound r.f1 0 rfl k3
  have hsl5 := setsGo_len k3 (by omega)
  obtain ⟨g1, _, g2, g3⟩ := kindOfP_ok k1 (by decide)
  have hvs : (vars.length : Int) = (st.length : Int) := by omega
  unfold impl_use.f
  rw [show rd_IRule rules (n : Int) = r from getD_of hr]
  refine ev_pos (by omega) (ev_pos (by omega) (ev_bind (impl_eval_ev g1 g2 g3 hs hvs) ?_))
  by_cases h0 : lastP r.f0 st = 0
  · have e : useP vars r st = [] := by unfold useP; rw [if_pos h0]
    rw [e]
    exact ev_pos h0 (ev_ret _)
  · refine ev_neg h0 (ev_bind (ev_fix (impl_clone_int_eq (by omega))) ?_)
    have pl : (putP st r.f2 r.f1 st).length = st.length := foldN_length _ (fun n s x => by simp) _ _ _
    have put := ev_fold (fun k s i => impl_use.l0 k st s r.f1 (r.f1.length : Int) i vars rules r.f0 r.f1 r.f2) r.f1 (fun n o v => o.set v.toNat (lastP (r.f2.getD n []) st)) (fun s => if inRangeP vars s = true then (s, true) else ([], false)) (fun _ o => o.length = st.length)
      (fun o ho => by
        refine Ev.step (fun k => by rw [impl_use.l0]) (ev_neg (by omega) (ev_bind (impl_inRange_ev vars rules o (by omega)) ?_))
        exact ev_ite_eq (fun _ => ev_ret _) (fun _ => ev_ret _))
      (fun m o x R hm hx ho ih => by
        obtain ⟨b1, _, b3⟩ := hb m (by omega) hm
        have hx' : r.f1.getD m 0 = x := by rw [List.getD_eq_getElem?_getD, hx]; rfl
        rw [hx'] at b1
        have b1 := inR_iff.1 b1
        obtain ⟨t1, _, t2, t3⟩ := kindOfP_ok b3 (by decide)
        refine Ev.step (fun k => by rw [impl_use.l0]) ?_
        rw [rd_LITerm_nat, show rd r.f1 (m : Int) = x from getD_of hx, wrap_nat hm (by omega)]
        exact ev_pos (by omega) (ev_pos (by omega) (ev_pos (by omega) (ev_pos (by omega) (ev_bind (impl_eval_ev t1 t2 t3 hs hvs) (ev_pos (by omega) (ev_pos (by omega) ih)))))))
      (fun m o x hm hx ho => by simpa using ho) st rfl
    refine ev_eq put ?_
    show (if inRangeP vars (putP st r.f2 r.f1 st) = true then (putP st r.f2 r.f1 st, true) else ([], false)) = _
    unfold useP
    rw [if_neg h0]
    by_cases hp : inRangeP vars (putP st r.f2 r.f1 st) = true
    · rw [if_pos hp, if_pos hp, pl]
      have : (decide (0 < st.length)) = true := by simp; omega
      rw [this]
    · rw [if_neg hp, if_neg hp]; rfl
theorem useP_in {vars : List IVar} {r : IRule} {st : List Int} (h : 0 < (useP vars r st).length) : inRangeP vars (useP vars r st) = true := by
  unfold useP at h ⊢
  split at h
  · simp at h
  · rename_i h0
    rw [if_neg h0]
    split at h
    · rename_i h1; rw [if_pos h1]; exact h1
    · simp at h
theorem spec_l2Same_ev (a b : List Int) (hl : a.length ≤ 9223372036854775807) : Ev (fun k => spec_l2Same.f k a b) (decide (a = b)) := by
  unfold spec_l2Same.f
  by_cases h : a.length = b.length
  · exact ev_pos (by omega) (ev_cmp _ a b hl h (fun k i => by rw [spec_l2Same.l0]))
  · have e : decide (a = b) = false := decide_eq_false (fun e => h (by rw [e]))
    rw [e]
    exact ev_neg (by omega) (ev_ret _)
theorem slices_Equal_ev (a b : List Int) (hl : a.length ≤ 9223372036854775807) : Ev (fun k => slices_Equal_int_int.f k a b) (decide (a = b)) := by
  unfold slices_Equal_int_int.f
  by_cases h : a.length = b.length
  · refine ev_pos (by omega) ?_
    have key : ∀ d n : Nat, a.length - n = d → n ≤ a.length → Ev (fun k => slices_Equal_int_int.l0 k a b (a.length : Int) (n : Int)) (sameGo (a.drop n) (b.drop n)) := by
      intro d
      induction d with
      | zero =>
        intro n h1 h2
        have : n = a.length := by omega
        subst this
        rw [List.drop_length]
        exact Ev.step (fun k => by rw [slices_Equal_int_int.l0]) (ev_neg (by omega) (ev_eq (ev_ret _) (by simp [sameGo])))
      | succ d ih =>
        intro n h1 h2
        have hn : n < a.length := by omega
        have hb : n < b.length := by omega
        rw [List.drop_eq_getElem_cons hn, List.drop_eq_getElem_cons hb]
        refine Ev.step (fun k => by rw [slices_Equal_int_int.l0]) (ev_pos (by omega) (ev_pos (by omega) (ev_pos (by omega) (ev_pos (by omega) ?_))))
        rw [show rd a (n : Int) = a[n] from getD_of (List.getElem?_eq_getElem hn), show rd b (n : Int) = b[n] from getD_of (List.getElem?_eq_getElem hb)]
        by_cases e : a[n] = b[n]
        · refine ev_pos e ?_
          rw [wrap_nat hn (by omega)]
          refine ev_eq (ih (n + 1) (by omega) (by omega)) ?_
          conv => rhs; unfold sameGo
          rw [decide_eq_true e, Bool.true_and]
        · refine ev_neg e (ev_eq (ev_ret _) ?_)
          conv => rhs; unfold sameGo
          rw [decide_eq_false e, Bool.false_and]
    have := key a.length 0 (by omega) (by omega)
    rw [← sameGo_eq a b h]
    simpa using this
  · have e : decide (a = b) = false := decide_eq_false (fun e => h (by rw [e]))
    rw [e]
    exact ev_neg (by omega) (ev_ret _)
theorem useP_len {vars : List IVar} {r : IRule} {st : List Int} (hl : vars.length ≤ 5) : (useP vars r st).length ≤ 5 := by
  by_cases h : 0 < (useP vars r st).length
  · have := inRangeP_len (useP_in h); omega
  · omega
def usableGo (vars : List IVar) (st : List Int) : Nat → List Int → List IRule → List Int
  | _, s, [] => s
  | n, s, r :: rs => usableGo vars st (n + 1) (if 0 < (useP vars r st).length then s ++ [(n : Int)] else s) rs
def usableP (vars : List IVar) (rules : List IRule) (st : List Int) : List Int := usableGo vars st 0 [] rules
def Evp (G : Nat → Prop) : Prop := ∃ n, ∀ k, n ≤ k → G k
theorem Evp.of {P : Prop} (h : P) : Evp fun _ => P := ⟨0, fun _ _ => h⟩
theorem Evp.and {G H : Nat → Prop} (g : Evp G) (h : Evp H) : Evp fun k => G k ∧ H k := by
  obtain ⟨n, g⟩ := g
  obtain ⟨m, h⟩ := h
  exact ⟨max n m, fun k hk => ⟨g k (by omega), h k (by omega)⟩⟩
theorem Evp.fact {α : Type} {f : Nat → Option α} {r : α} {H : Nat → Prop} (g : Ev f r) (h : Evp H) : Evp fun k => f k = some r ∧ H k := Evp.and (G := fun k => f k = some r) g h
theorem Evp.inl {G H : Nat → Prop} (g : Evp G) : Evp fun k => G k ∨ H k := let ⟨n, g⟩ := g; ⟨n, fun k hk => .inl (g k hk)⟩
theorem Evp.inr {G H : Nat → Prop} (g : Evp H) : Evp fun k => G k ∨ H k := let ⟨n, g⟩ := g; ⟨n, fun k hk => .inr (g k hk)⟩
theorem Evp.ex {α : Type} {G : Nat → α → Prop} (a : α) (g : Evp fun k => G k a) : Evp fun k => ∃ x, G k x := let ⟨n, g⟩ := g; ⟨n, fun k hk => ⟨a, g k hk⟩⟩
theorem Evp.sz {f : Nat → Option Int} {a : Int} {P : Prop} (hf : SzOk f a P) {H : Nat → Int → Prop} (h : ∀ r, 0 ≤ r → r ≤ a → P → Evp fun k => H k r) : Evp fun k => ∃ t : Int, f k = some t ∧ (t < 0 ∨ H k t) := by
  obtain ⟨r, h1, h2⟩ := hf
  refine .ex r (.fact h1 ?_)
  rcases h2 with h2 | ⟨h2, h3, h4⟩
  · exact .inl (.of h2)
  · exact .inr (h r h2 h3 h4)
def firstP (vars : List IVar) : List Int := vars.map (·.f2)
theorem impl_first_ev (vars : List IVar) (rules : List IRule) (hl : vars.length ≤ 5) : Ev (fun k => impl_first.f k vars rules) (firstP vars) := by
  unfold impl_first.f firstP
  have := ev_fold (fun k s i => impl_first.l0 k s vars (vars.length : Int) i) vars (fun _ s x => s ++ [x.f2]) (fun s => s) (fun n s => s.length = n)
    (fun s hs => Ev.step (fun k => by rw [impl_first.l0]) (ev_neg (by omega) (ev_bind (ev_fix (impl_clone_int_eq (by omega))) (ev_ret _))))
    (fun n s x R hn hx hs ih => by
      refine Ev.step (fun k => by rw [impl_first.l0]) ?_
      rw [show rd_IVar vars (n : Int) = x from getD_of hx, wrap_nat hn (by omega)]
      exact ev_pos (by omega) (ev_pos (by omega) (ev_pos (by omega) (ev_pos (by omega) ih))))
    (fun n s x hn hx hs => by simp [hs]) [] rfl
  rw [foldN_push] at this
  simpa using this
theorem spec_FirstState_ev (vars : List IVar) (rules : List IRule) : Ev (fun k => spec_FirstState.f k vars rules) (if sysP vars rules = true then firstP vars else []) := by
  unfold spec_FirstState.f
  by_cases h : sysP vars rules = true
  · rw [if_pos h]
    have hl := (sysP_and h).1
    have := ev_fold (fun k s i => spec_FirstState.l0 k s i vars rules) vars (fun _ s x => s ++ [x.f2]) (fun s => s) (fun n s => s.length = n)
      (fun s hs => Ev.step (fun k => by rw [spec_FirstState.l0]) (ev_neg (by omega) (ev_ret _)))
      (fun n s x R hn hx hs ih => by
        refine Ev.step (fun k => by rw [spec_FirstState.l0]) ?_
        rw [show rd_IVar vars (n : Int) = x from getD_of hx, wrap_nat hn (by omega)]
        exact ev_pos (by omega) (ev_bind (ev_eq (spec_SystemValid_ev _ _) h) (ev_pos rfl (ev_pos (by omega) (ev_pos (by omega) ih)))))
      (fun n s x hn hx hs => by simp [hs]) [] rfl
    rw [foldN_push] at this
    simpa [firstP] using this
  · rw [if_neg h]
    have h' : sysP vars rules = false := by simpa using h
    refine Ev.step (fun k => by rw [spec_FirstState.l0]) ?_
    by_cases e : vars = []
    · subst e; exact ev_neg (by simp) (ev_ret _)
    · have : 0 < vars.length := List.length_pos_iff.2 e
      exact ev_pos (by omega) (ev_bind (ev_eq (spec_SystemValid_ev _ _) h') (ev_neg (by simp) (ev_ret _)))
theorem firstP_len {vars : List IVar} : (firstP vars).length = vars.length := by simp [firstP]
theorem spec_l3Copy_ev (l : List Int) (hl : l.length ≤ 1048576) : Ev (fun k => spec_l3Copy.f k l) l := by
  unfold spec_l3Copy.f
  have := ev_fold (fun k s i => spec_l3Copy.l0 k l s i) l (fun _ s x => s ++ [x]) (fun s => s) (fun n s => s.length = n)
    (fun s hs => Ev.step (fun k => by rw [spec_l3Copy.l0]) (ev_neg (by omega) (ev_ret _)))
    (fun n s x R hn hx hs ih => by
      refine Ev.step (fun k => by rw [spec_l3Copy.l0]) ?_
      rw [show rd l (n : Int) = x from getD_of hx, wrap_nat hn (by omega)]
      exact ev_pos (by omega) (ev_pos (by omega) (ev_pos (by omega) ih)))
    (fun n s x hn hx hs => by simp [hs]) [] rfl
  rw [foldN_push (fun x => x)] at this
  simpa using this
theorem stateGo_of : ∀ (vs : List IVar) (st : List Int), (∀ (j : Nat) v x, vs[j]? = some v → st[j]? = some x → inR x v.f0 v.f1 = true) → stateGo vs st = true
  | [], _, _ => by simp [stateGo]
  | _ :: _, [], _ => by simp [stateGo]
  | v :: vs, x :: xs, h => by
    simp only [stateGo, Bool.and_eq_true]
    exact ⟨h 0 v x rfl rfl, stateGo_of vs xs fun j w y h1 h2 => h (j + 1) w y (by simpa using h1) (by simpa using h2)⟩
def traceGo (V : List IVar) (R : List IRule) (ss : List (List Int)) : Nat → List Int → Bool
  | _, [] => true
  | n, k :: ks => inR k 0 ((R.length : Int) - 1) && ((decide (0 < (useP V (R.getD k.toNat zIRule) (ss.getD n [])).length) && decide (useP V (R.getD k.toNat zIRule) (ss.getD n []) = ss.getD (n + 1) [])) && traceGo V R ss (n + 1) ks)
def traceP (V : List IVar) (R : List IRule) (ss : List (List Int)) (ks : List Int) : Bool :=
  (sysP V R && (inR ss.length 1 500 && decide ((ks.length : Int) = (ss.length : Int) - 1))) && (decide (ss.getD 0 [] = firstP V) && traceGo V R ss 0 ks)
theorem firstP_in {V : List IVar} (hv : V.all varP = true) : inRangeP V (firstP V) = true := by
  unfold inRangeP
  rw [Bool.and_eq_true, decide_eq_true_eq]
  refine ⟨firstP_len, stateGo_of _ _ fun j v x h1 h2 => ?_⟩
  unfold firstP at h2
  rw [List.getElem?_map, h1] at h2
  obtain rfl := Option.some.inj h2
  have := varP_span (List.all_eq_true.1 hv v (List.mem_of_getElem? h1))
  exact inR_iff.2 (by show v.f0 ≤ v.f2 ∧ v.f2 ≤ v.f1; omega)
theorem rd_Lint_nat (xs : List (List Int)) (n : Nat) : rd_Lint xs (n : Int) = xs.getD n [] := rfl
theorem rule_at {R : List IRule} {k : Int} (h : inR k 0 ((R.length : Int) - 1) = true) : R[k.toNat]? = some (R.getD k.toNat zIRule) ∧ ((k.toNat : Nat) : Int) = k := by
  have := inR_iff.1 h
  exact ⟨by rw [List.getD_eq_getElem?_getD, List.getElem?_eq_getElem (show k.toNat < R.length by omega)]; rfl, by omega⟩
theorem spec_trace_ev {V : List IVar} {R : List IRule} {ss : List (List Int)} {ks : List Int} (h : sysP V R = true) (hl : ks.length + 1 = ss.length) (hs : ss.length ≤ 500) (h0 : inRangeP V (ss.getD 0 []) = true) :
    Ev (fun k => spec_TraceValid.l0 k 0 V R ss ks) (traceGo V R ss 0 ks) := by
  obtain ⟨s1, s2, _⟩ := sysP_and h
  have key : ∀ d n : Nat, ks.length - n = d → n ≤ ks.length → inRangeP V (ss.getD n []) = true → Ev (fun k => spec_TraceValid.l0 k (n : Int) V R ss ks) (traceGo V R ss n (ks.drop n)) := by
    intro d
    induction d with
    | zero =>
      intro n h1 h2 _
      have : n = ks.length := by omega
      subst this
      rw [List.drop_length]
      refine Ev.step (fun k => by rw [spec_TraceValid.l0]) ?_
      exact ev_neg (by omega) (ev_ret _)
    | succ d ih =>
      intro n h1 h2 hi
      have hn : n < ks.length := by omega
      rw [List.drop_eq_getElem_cons hn]
      unfold traceGo
      refine Ev.step (fun k => by rw [spec_TraceValid.l0]) ?_
      rw [show rd ks (n : Int) = ks[n] from getD_of (List.getElem?_eq_getElem hn), wrap_in (x := (R.length : Int) - 1) (by omega) (by omega), spec_l1In_eq, wrap_nat hn (by omega), rd_Lint_nat, rd_Lint_nat]
      refine ev_pos (by omega) (ev_pos (by omega) (ev_bind (ev_ret _) ?_))
      cases q : inR ks[n] 0 ((R.length : Int) - 1) with
      | false => exact ev_neg (by simp) (ev_eq (ev_ret _) (by simp))
      | true =>
        obtain ⟨r1, r2⟩ := rule_at q
        have hu := spec_l2Use_ev h hi r1
        rw [r2] at hu
        refine ev_pos rfl (ev_pos (by omega) (ev_bind hu ?_))
        generalize hU : useP V (R.getD ks[n].toNat zIRule) (ss.getD n []) = u at *
        have hul : u.length ≤ 5 := hU ▸ useP_len s1.2
        by_cases e1 : 0 < u.length
        · refine ev_neg (by omega) (ev_pos (by omega) (ev_pos (by omega) (ev_bind (spec_l2Same_ev _ _ (by omega)) ?_)))
          by_cases e2 : u = ss.getD (n + 1) []
          · refine ev_pos (by simpa using e2) (ev_eq (ih (n + 1) (by omega) (by omega) ?_) (by simp only [decide_eq_true e1, decide_eq_true e2, Bool.true_and]))
            rw [← e2, ← hU]; exact useP_in (by rw [hU]; exact e1)
          · exact ev_neg (by simpa using e2) (ev_eq (ev_ret _) (by simp only [decide_eq_false e2, Bool.and_false, Bool.false_and]))
        · exact ev_pos (by omega) (ev_eq (ev_ret _) (by simp only [decide_eq_false e1, Bool.and_false, Bool.false_and]))
  have := key ks.length 0 (by omega) (by omega) h0
  simpa using this
theorem impl_trace_ev {V : List IVar} {R : List IRule} {ss : List (List Int)} {ks : List Int} (h : sysP V R = true) (hl : ks.length + 1 = ss.length) (hs : ss.length ≤ 500) (h0 : inRangeP V (ss.getD 0 []) = true) :
    Ev (fun k => impl_TraceValid.l0 k ks (ks.length : Int) 0 V R ss ks) (traceGo V R ss 0 ks) := by
  obtain ⟨s1, s2, _⟩ := sysP_and h
  have key : ∀ d n : Nat, ks.length - n = d → n ≤ ks.length → inRangeP V (ss.getD n []) = true → Ev (fun k => impl_TraceValid.l0 k ks (ks.length : Int) (n : Int) V R ss ks) (traceGo V R ss n (ks.drop n)) := by
    intro d
    induction d with
    | zero =>
      intro n h1 h2 _
      have : n = ks.length := by omega
      subst this
      rw [List.drop_length]
      refine Ev.step (fun k => by rw [impl_TraceValid.l0]) ?_
      exact ev_neg (by omega) (ev_ret _)
    | succ d ih =>
      intro n h1 h2 hi
      have hn : n < ks.length := by omega
      rw [List.drop_eq_getElem_cons hn]
      unfold traceGo
      refine Ev.step (fun k => by rw [impl_TraceValid.l0]) ?_
      rw [show rd ks (n : Int) = ks[n] from getD_of (List.getElem?_eq_getElem hn), wrap_in (x := (R.length : Int) - 1) (by omega) (by omega), impl_in_eq, wrap_nat hn (by omega), rd_Lint_nat, rd_Lint_nat]
      refine ev_pos (by omega) (ev_pos (by omega) (ev_pos (by omega) (ev_bind (ev_ret _) ?_)))
      cases q : inR ks[n] 0 ((R.length : Int) - 1) with
      | false => exact ev_neg (by simp) (ev_eq (ev_ret _) (by simp))
      | true =>
        obtain ⟨r1, r2⟩ := rule_at q
        have hu := impl_use_ev h hi r1
        rw [r2] at hu
        refine ev_pos rfl (ev_pos (by omega) (ev_bind hu ?_))
        generalize hU : useP V (R.getD ks[n].toNat zIRule) (ss.getD n []) = u at *
        have hul : u.length ≤ 5 := hU ▸ useP_len s1.2
        by_cases e1 : 0 < u.length
        · refine ev_pos (by simpa using e1) (ev_pos (by omega) (ev_pos (by omega) (ev_bind (slices_Equal_ev _ _ (by simp only; omega)) ?_)))
          by_cases e2 : u = ss.getD (n + 1) []
          · refine ev_pos (by simpa using e2) (ev_eq (ih (n + 1) (by omega) (by omega) ?_) (by simp only [decide_eq_true e1, decide_eq_true e2, Bool.true_and]))
            rw [← e2, ← hU]; exact useP_in (by rw [hU]; exact e1)
          · exact ev_neg (by simpa using e2) (ev_eq (ev_ret _) (by simp only [decide_eq_false e2, Bool.and_false, Bool.false_and]))
        · exact ev_neg (by simpa using e1) (ev_eq (ev_ret _) (by simp only [decide_eq_false e1, Bool.and_false, Bool.false_and]))
  have := key ks.length 0 (by omega) (by omega) h0
  simpa using this
theorem spec_TraceValid_ev (V : List IVar) (R : List IRule) (ss : List (List Int)) (ks : List Int) (hx : ∀ x ∈ ss, x.length ≤ 1048576) (hl : ss.length ≤ 1048576) : Ev (fun k => spec_TraceValid.f k V R ss ks) (traceP V R ss ks) := by
  unfold spec_TraceValid.f traceP
  refine ev_bind (spec_SystemValid_ev _ _) ?_
  have j (b : Bool) (r : Bool) (h : b = true → r = false) (g : b = false → Ev (fun k => spec_TraceValid.l0 k 0 V R ss ks) r) : Ev (fun k => spec_TraceValid.j0 k b V R ss ks) r := by
    refine Ev.step (fun k => by rw [spec_TraceValid.j0]) ?_
    cases b with
    | true => exact ev_pos rfl (ev_eq (ev_ret _) (h rfl).symm)
    | false => exact ev_neg (by simp) (g rfl)
  cases q : sysP V R with
  | false => exact ev_neg (by simp) (j _ _ (fun _ => by simp) (fun h => by cases h))
  | true =>
    obtain ⟨s1, s2, s3, _⟩ := sysP_and q
    rw [spec_l1In_eq]
    refine ev_pos rfl (ev_bind (ev_ret _) ?_)
    cases q1 : inR (ss.length : Int) 1 500 with
    | false => exact ev_neg (by simp) (j _ _ (fun _ => by simp) (fun h => by cases h))
    | true =>
      have hs := inR_iff.1 q1
      rw [wrap_in (x := (ss.length : Int) - 1) (by omega) (by omega)]
      refine ev_pos rfl ?_
      by_cases q2 : (ks.length : Int) = (ss.length : Int) - 1
      · refine ev_pos q2 (ev_pos (by omega) (ev_bind (ev_eq (spec_FirstState_ev V R) (if_pos q)) ?_))
        rw [show rd_Lint ss 0 = ss.getD 0 [] from rfl]
        have hm : ss.getD 0 [] ∈ ss := by rw [List.getD_eq_getElem?_getD, List.getElem?_eq_getElem (show 0 < ss.length by omega)]; exact List.getElem_mem _
        have hm := hx _ hm
        refine ev_bind (spec_l2Same_ev _ _ (by omega)) ?_
        by_cases e : ss.getD 0 [] = firstP V
        · exact j _ _ (fun h => by rw [decide_eq_true e] at h; cases h) (fun _ => ev_eq (spec_trace_ev q (by omega) (by omega) (by rw [e]; exact firstP_in s3)) (by rw [decide_eq_true q2, decide_eq_true e]; simp))
        · exact j _ _ (fun _ => by rw [decide_eq_false e]; simp) (fun h => by rw [decide_eq_false e] at h; cases h)
      · exact ev_neg q2 (j _ _ (fun _ => by simp [q2]) (fun h => by cases h))
theorem impl_TraceValid_ev {V : List IVar} {R : List IRule} (ss : List (List Int)) (ks : List Int) (hx : ∀ x ∈ ss, x.length ≤ 1048576) (hl : ss.length ≤ 1048576) (hv : Ev (fun k => impl_SystemValid.f k V R) (sysP V R)) : Ev (fun k => impl_TraceValid.f k V R ss ks) (traceP V R ss ks) := by
  unfold impl_TraceValid.f traceP
  refine ev_bind hv ?_
  have j (b : Bool) (r : Bool) (h : b = true → r = false) (g : b = false → Ev (fun k => impl_TraceValid.l0 k ks (ks.length : Int) 0 V R ss ks) r) : Ev (fun k => impl_TraceValid.j0 k b V R ss ks) r := by
    refine Ev.step (fun k => by rw [impl_TraceValid.j0]) ?_
    cases b with
    | true => exact ev_pos rfl (ev_eq (ev_ret _) (h rfl).symm)
    | false => exact ev_neg (by simp) (g rfl)
  cases q : sysP V R with
  | false => exact ev_neg (by simp) (j _ _ (fun _ => by simp) (fun h => by cases h))
  | true =>
    obtain ⟨s1, s2, s3, _⟩ := sysP_and q
    rw [impl_in_eq]
    refine ev_pos rfl (ev_bind (ev_ret _) ?_)
    cases q1 : inR (ss.length : Int) 1 500 with
    | false => exact ev_neg (by simp) (j _ _ (fun _ => by simp) (fun h => by cases h))
    | true =>
      have hs := inR_iff.1 q1
      rw [wrap_in (x := (ss.length : Int) - 1) (by omega) (by omega)]
      refine ev_pos rfl ?_
      by_cases q2 : (ks.length : Int) = (ss.length : Int) - 1
      · refine ev_pos q2 (ev_pos (by omega) (ev_bind (impl_first_ev V R s1.2) ?_))
        rw [show rd_Lint ss 0 = ss.getD 0 [] from rfl]
        have hm : ss.getD 0 [] ∈ ss := by rw [List.getD_eq_getElem?_getD, List.getElem?_eq_getElem (show 0 < ss.length by omega)]; exact List.getElem_mem _
        have hm := hx _ hm
        refine ev_bind (slices_Equal_ev _ _ (by omega)) ?_
        by_cases e : ss.getD 0 [] = firstP V
        · exact j _ _ (fun h => by rw [decide_eq_true e] at h; cases h) (fun _ => ev_eq (impl_trace_ev q (by omega) (by omega) (by rw [e]; exact firstP_in s3)) (by rw [decide_eq_true q2, decide_eq_true e]; simp))
        · exact j _ _ (fun _ => by rw [decide_eq_false e]; simp) (fun h => by rw [decide_eq_false e] at h; cases h)
      · exact ev_neg q2 (j _ _ (fun _ => by simp [q2]) (fun h => by cases h))
theorem trace_and {V : List IVar} {R : List IRule} {ss : List (List Int)} {ks : List Int} (h : traceP V R ss ks = true) : sysP V R = true ∧ (1 ≤ ss.length ∧ ss.length ≤ 500) ∧ ks.length + 1 = ss.length ∧ ss.getD 0 [] = firstP V ∧ traceGo V R ss 0 ks = true := by
  simp only [traceP, Bool.and_eq_true, decide_eq_true_eq] at h
  obtain ⟨⟨a, b, c⟩, d, e⟩ := h
  have := inR_iff.1 b
  exact ⟨a, ⟨by omega, by omega⟩, by omega, d, e⟩
theorem traceGo_at {V : List IVar} {R : List IRule} {ss : List (List Int)} : ∀ (ks : List Int) (n : Nat), traceGo V R ss n ks = true → ∀ (i : Nat) (k : Int), ks[i]? = some k → inR k 0 ((R.length : Int) - 1) = true ∧ 0 < (useP V (R.getD k.toNat zIRule) (ss.getD (n + i) [])).length ∧ useP V (R.getD k.toNat zIRule) (ss.getD (n + i) []) = ss.getD (n + i + 1) []
  | [], n, _, i, k, h => by simp at h
  | q :: ks, n, hg, 0, k, h => by
    obtain rfl : q = k := by simpa using h
    unfold traceGo at hg
    simp only [Bool.and_eq_true, decide_eq_true_eq] at hg
    exact ⟨hg.1, hg.2.1.1, hg.2.1.2⟩
  | q :: ks, n, hg, i + 1, k, h => by
    unfold traceGo at hg
    simp only [Bool.and_eq_true] at hg
    have := traceGo_at ks (n + 1) hg.2.2 i k (by simpa using h)
    rw [show n + (i + 1) = n + 1 + i by omega]
    exact this
theorem traceGo_of {V : List IVar} {R : List IRule} {ss : List (List Int)} : ∀ (ks : List Int) (n : Nat), (∀ (i : Nat) (k : Int), ks[i]? = some k → inR k 0 ((R.length : Int) - 1) = true ∧ 0 < (useP V (R.getD k.toNat zIRule) (ss.getD (n + i) [])).length ∧ useP V (R.getD k.toNat zIRule) (ss.getD (n + i) []) = ss.getD (n + i + 1) []) → traceGo V R ss n ks = true
  | [], n, _ => rfl
  | q :: ks, n, h => by
    unfold traceGo
    simp only [Bool.and_eq_true, decide_eq_true_eq]
    obtain ⟨a, b, c⟩ := h 0 q rfl
    refine ⟨a, ⟨b, c⟩, traceGo_of ks (n + 1) fun i k hk => ?_⟩
    have := h (i + 1) k (by simpa using hk)
    rw [show n + (i + 1) = n + 1 + i by omega] at this
    exact this
theorem trace_in {V : List IVar} {R : List IRule} {ss : List (List Int)} {ks : List Int} (h : traceP V R ss ks = true) : ∀ i : Nat, i < ss.length → inRangeP V (ss.getD i []) = true := by
  obtain ⟨h1, h2, h3, h4, h5⟩ := trace_and h
  intro i hi
  cases i with
  | zero => rw [h4]; exact firstP_in (sysP_and h1).2.2.1
  | succ i =>
    have hn : i < ks.length := by omega
    obtain ⟨a, b, c⟩ := traceGo_at ks 0 h5 i ks[i] (List.getElem?_eq_getElem hn)
    rw [Nat.zero_add] at b c
    rw [← c]
    exact useP_in b
def lastGo (a : List Int) : List (List Int) → Nat → Nat → Nat
  | [], _, m => m
  | x :: r, n, m => lastGo a r (n + 1) (if x = a then n else m)
theorem lastGo_is (a : List Int) : ∀ (l : List (List Int)) (n m : Nat), lastGo a l n m = m ∨ ∃ i, l[i]? = some a ∧ lastGo a l n m = n + i
  | [], n, m => .inl rfl
  | x :: r, n, m => by
    unfold lastGo
    rcases lastGo_is a r (n + 1) (if x = a then n else m) with h | ⟨i, g1, g2⟩
    · by_cases e : x = a
      · rw [if_pos e] at h ⊢
        exact .inr ⟨0, by simp [e], by omega⟩
      · rw [if_neg e] at h ⊢; exact .inl h
    · exact .inr ⟨i + 1, by simpa using g1, by omega⟩
theorem lastGo_ge (a : List Int) : ∀ (l : List (List Int)) (n m i : Nat), l[i]? = some a → n + i ≤ lastGo a l n m
  | [], n, m, i, h => by simp at h
  | x :: r, n, m, 0, h => by
    obtain rfl : x = a := by simpa using h
    unfold lastGo
    rw [if_pos rfl]
    rcases lastGo_is x r (n + 1) n with g | ⟨_, _, g⟩ <;> omega
  | x :: r, n, m, i + 1, h => by
    unfold lastGo
    have := lastGo_ge a r (n + 1) (if x = a then n else m) i (by simpa using h)
    omega
def lastAt (ss : List (List Int)) (a : List Int) : Nat := lastGo a ss 0 0
theorem lastAt_at {ss : List (List Int)} {i : Nat} (hi : i < ss.length) : i ≤ lastAt ss (ss.getD i []) ∧ ss[lastAt ss (ss.getD i [])]? = some (ss.getD i []) ∧ lastAt ss (ss.getD i []) < ss.length := by
  have h0 : ss[i]? = some (ss.getD i []) := by rw [List.getD_eq_getElem?_getD, List.getElem?_eq_getElem hi]; rfl
  have h1 := lastGo_ge _ ss 0 0 i h0
  have h2 : ss[lastAt ss (ss.getD i [])]? = some (ss.getD i []) := by
    unfold lastAt
    rcases lastGo_is (ss.getD i []) ss 0 0 with g | ⟨j, g1, g2⟩
    · rw [g]
      obtain rfl : i = 0 := by omega
      exact h0
    · rw [g2, Nat.zero_add]; exact g1
  exact ⟨by unfold lastAt; omega, h2, (List.getElem?_eq_some_iff.1 h2).1⟩
theorem lastAt_ge {ss : List (List Int)} {i : Nat} {a : List Int} (h : ss[i]? = some a) : i ≤ lastAt ss a := by
  have := lastGo_ge a ss 0 0 i h
  unfold lastAt; omega
def woGo (ss : List (List Int)) (ks : List Int) : Nat → Nat → List (List Int) × List Int
  | 0, _ => ([], [])
  | f + 1, i => if lastAt ss (ss.getD i []) < ks.length then (ss.getD i [] :: (woGo ss ks f (lastAt ss (ss.getD i []) + 1)).1, ks.getD (lastAt ss (ss.getD i [])) 0 :: (woGo ss ks f (lastAt ss (ss.getD i []) + 1)).2) else ([ss.getD i []], [])
def woP (ss : List (List Int)) (ks : List Int) : List (List Int) × List Int := woGo ss ks ss.length 0
theorem woGo_ok {V : List IVar} {R : List IRule} {ss : List (List Int)} {ks : List Int} (h : traceP V R ss ks = true) : ∀ (f i : Nat), i < ss.length → ss.length - i ≤ f →
    (woGo ss ks f i).1.length = (woGo ss ks f i).2.length + 1 ∧ (woGo ss ks f i).1.length ≤ ss.length - i ∧ (woGo ss ks f i).1.getD 0 [] = ss.getD i [] ∧ (woGo ss ks f i).1.getLast? = some (ss.getD (ss.length - 1) []) ∧
    (∀ a ∈ (woGo ss ks f i).1, ∃ j, i ≤ j ∧ ss[j]? = some a) ∧ (woGo ss ks f i).1.Pairwise (· ≠ ·) ∧
    (∀ (j : Nat) (k : Int), (woGo ss ks f i).2[j]? = some k → inR k 0 ((R.length : Int) - 1) = true ∧ 0 < (useP V (R.getD k.toNat zIRule) ((woGo ss ks f i).1.getD j [])).length ∧ useP V (R.getD k.toNat zIRule) ((woGo ss ks f i).1.getD j []) = (woGo ss ks f i).1.getD (j + 1) [])
  | 0, i, hi, hf => by omega
  | f + 1, i, hi, hf => by
    obtain ⟨h1, h2, h3, h4, h5⟩ := trace_and h
    obtain ⟨l1, l2, l3⟩ := lastAt_at hi
    unfold woGo
    generalize hl : lastAt ss (ss.getD i []) = l at *
    have h0 : ss[i]? = some (ss.getD i []) := by rw [List.getD_eq_getElem?_getD, List.getElem?_eq_getElem hi]; rfl
    have hld : ss.getD l [] = ss.getD i [] := by rw [List.getD_eq_getElem?_getD, l2]; rfl
    by_cases e : l < ks.length
    · rw [if_pos e]
      obtain ⟨i1, i2, i3, i4, i5, i6, i7⟩ := woGo_ok h f (l + 1) (by omega) (by omega)
      refine ⟨by simp [i1], by simp; omega, by simp, ?_, ?_, ?_, ?_⟩
      · rw [List.getLast?_cons, i4]; rfl
      · intro a ha
        rcases List.mem_cons.1 ha with rfl | ha
        · exact ⟨i, Nat.le_refl _, h0⟩
        · obtain ⟨j, j1, j2⟩ := i5 a ha
          exact ⟨j, by omega, j2⟩
      · refine List.pairwise_cons.2 ⟨fun a ha hne => ?_, i6⟩
        obtain ⟨j, j1, j2⟩ := i5 a ha
        rw [← hne] at j2
        have := lastAt_ge j2
        omega
      · intro j k hk
        cases j with
        | zero =>
          have hke : ks[l]? = some k := by
            rw [List.getElem?_cons_zero, List.getD_eq_getElem?_getD, List.getElem?_eq_getElem e] at hk
            rw [List.getElem?_eq_getElem e]; exact hk
          obtain ⟨a, b, c⟩ := traceGo_at ks 0 h5 l k hke
          rw [Nat.zero_add, hld] at b c
          refine ⟨a, by simpa using b, ?_⟩
          rw [List.getD_cons_zero, List.getD_cons_succ, c, i3]
        | succ j =>
          have := i7 j k (by simpa using hk)
          simpa using this
    · rw [if_neg e]
      have el : l = ss.length - 1 := by omega
      refine ⟨rfl, by simp; omega, rfl, ?_, ?_, List.pairwise_singleton _ _, fun j k hk => by simp at hk⟩
      · rw [← el, hld]; rfl
      · intro a ha
        rw [List.mem_singleton.1 ha]
        exact ⟨i, Nat.le_refl _, h0⟩
theorem wo_trace {V : List IVar} {R : List IRule} {ss : List (List Int)} {ks : List Int} (h : traceP V R ss ks = true) : traceP V R (woP ss ks).1 (woP ss ks).2 = true := by
  obtain ⟨h1, h2, h3, h4, h5⟩ := trace_and h
  obtain ⟨i1, i2, i3, i4, i5, i6, i7⟩ := woGo_ok h ss.length 0 (by omega) (by omega)
  unfold woP
  simp only [traceP, Bool.and_eq_true, decide_eq_true_eq]
  refine ⟨⟨h1, inR_iff.2 (by omega), by omega⟩, by rw [i3, h4], traceGo_of _ 0 fun j k hk => ?_⟩
  rw [Nat.zero_add]
  exact i7 j k hk
end Go.Proofs.Ytpjmiaooogephaa.PA
end
section
set_option linter.unusedVariables false
set_option linter.unusedSimpArgs false
namespace Go.Proofs.Ytpjmiaooogephaa.PA
open Go.RowKit Go.Proofs.YtpjmiaooogephaaW.PrintWords
theorem usableGo_len (vars : List IVar) (st : List Int) : ∀ (rs : List IRule) (n : Nat) (s : List Int), (usableGo vars st n s rs).length ≤ s.length + rs.length
  | [], n, s => by simp [usableGo]
  | r :: rs, n, s => by
    unfold usableGo
    have := usableGo_len vars st rs (n + 1) (if 0 < (useP vars r st).length then s ++ [(n : Int)] else s)
    split at this <;> rename_i e
    · rw [if_pos e]; simp at this ⊢; omega
    · rw [if_neg e]; simp at this ⊢; omega
theorem usableGo_mem (vars : List IVar) (st : List Int) : ∀ (rs : List IRule) (n : Nat) (s : List Int), ∀ x ∈ usableGo vars st n s rs, x ∈ s ∨ ∃ i r, rs[i]? = some r ∧ x = ((n + i : Nat) : Int) ∧ 0 < (useP vars r st).length
  | [], n, s => fun x hx => .inl hx
  | r :: rs, n, s => fun x hx => by
    unfold usableGo at hx
    rcases usableGo_mem vars st rs (n + 1) _ x hx with h | ⟨i, q, h1, h2, h3⟩
    · split at h
      · rename_i e
        rcases List.mem_append.1 h with h | h
        · exact .inl h
        · exact .inr ⟨0, r, rfl, by rw [List.mem_singleton.1 h]; rfl, e⟩
      · exact .inl h
    · exact .inr ⟨i + 1, q, by simpa using h1, by rw [h2]; congr 1; omega, h3⟩
theorem spec_usable_ev {vars : List IVar} {rules : List IRule} {st : List Int} (h : sysP vars rules = true) (hi : inRangeP vars st = true) : Ev (fun k => spec_UsableIn.l0 k st [] 0 vars rules) (usableP vars rules st) := by
  obtain ⟨s1, s2, _⟩ := sysP_and h
  unfold usableP
  have key : ∀ d n : Nat, rules.length - n = d → n ≤ rules.length → ∀ s : List Int, s.length ≤ n → Ev (fun k => spec_UsableIn.l0 k st s (n : Int) vars rules) (usableGo vars st n s (rules.drop n)) := by
    intro d
    induction d with
    | zero =>
      intro n e1 e2 s hs
      have : n = rules.length := by omega
      subst this
      rw [List.drop_length]
      refine Ev.step (fun k => by rw [spec_UsableIn.l0]) ?_
      exact ev_neg (by omega) (ev_ret _)
    | succ d ih =>
      intro n e1 e2 s hs
      have hn : n < rules.length := by omega
      rw [List.drop_eq_getElem_cons hn]
      unfold usableGo
      refine Ev.step (fun k => by rw [spec_UsableIn.l0]) ?_
      rw [wrap_nat hn (by omega)]
      refine ev_pos (by omega) (ev_bind (spec_l2Use_ev h hi (List.getElem?_eq_getElem hn)) ?_)
      by_cases e : 0 < (useP vars rules[n] st).length
      · rw [if_pos e]
        exact ev_pos (by omega) (ev_pos (by omega) (ih (n + 1) (by omega) (by omega) _ (by simp; omega)))
      · rw [if_neg e]
        exact ev_neg (by omega) (ih (n + 1) (by omega) (by omega) s (by omega))
  have := key rules.length 0 (by omega) (by omega) [] (by simp)
  simpa using this
theorem spec_UsableIn_ev {V : List IVar} {R : List IRule} {st : List Int} (h : sysP V R = true) (hi : inRangeP V st = true) : Ev (fun k => spec_UsableIn.f k V R st) (usableP V R st) := by
  obtain ⟨s1, s2, _⟩ := sysP_and h
  unfold spec_UsableIn.f
  refine ev_bind (ev_ret _) (ev_bind (spec_InRange_ev V R st (by omega)) (ev_pos (by rw [h, hi]; rfl) (spec_usable_ev h hi)))
def WalkQ (V : List IVar) (m : Nat) (r : List (List Int) × List Int) : Prop := (0 < r.1.length ∧ r.1.length ≤ m) ∧ r.2.length ≤ m ∧ ∀ x ∈ r.1, x.length ≤ 5
section
variable {b : List Int} (hb : ByteL b)
include hb
theorem l3Walk_tot {V : List IVar} {R : List IRule} (h : sysP V R = true) {m : Int} (hm : 0 ≤ m ∧ m ≤ 100) {p : Int} (h0 : 0 ≤ p) (h1 : p ≤ 1000000) : Tot (fun k => spec_l3Walk.f k b p V R m) (fun r => (p ≤ r.1 ∧ r.1 ≤ p + 200) ∧ WalkQ V 200 r.2) := by
  obtain ⟨s1, s2, s3, s4, s5⟩ := sysP_and h
  unfold spec_l3Walk.f
  have hf := spec_FirstState_ev V R
  rw [if_pos h] at hf
  refine tot_bind (tot_ev (Q := fun r => inRangeP V r = true) hf (firstP_in s3)) fun r1 q1 => ?_
  rw [show wrap64 (m + 1) = m + 1 from wrap_in (by omega) (by omega)]
  refine tot_bind (pick_tot hb h0 (by omega) (m + 1)) fun r2 ⟨p1, p2, p3, p4⟩ => ?_
  have p3 := p3 (by omega)
  have key : ∀ (d : Nat) (x0 : Int) (ss : List (List Int)) (ks : List Int), d ≤ 100 → 0 ≤ x0 → x0 + d ≤ p + 200 → p ≤ x0 → 0 < ss.length → ss.length + d ≤ 200 → ks.length + d ≤ 200 → (∀ x ∈ ss, inRangeP V x = true) → Tot (fun k => spec_l3Walk.l1 k x0 ss ks (d : Int) b V R) (fun r => (p ≤ r.1 ∧ r.1 ≤ p + 200) ∧ WalkQ V 200 r.2) := by
    intro d
    induction d with
    | zero =>
      intro x0 ss ks g0 g1 g2 g3 g4 g5 g6 g7
      refine tot_step (fun k => by rw [spec_l3Walk.l1]) (tot_neg (by omega) (tot_ret ⟨⟨by omega, by omega⟩, ⟨⟨g4, by show ss.length ≤ 200; omega⟩, by show ks.length ≤ 200; omega, fun x hx => ?_⟩⟩))
      have := inRangeP_len (g7 x hx)
      omega
    | succ d ih =>
      intro x0 ss ks g0 g1 g2 g3 g4 g5 g6 g7
      have w1 : wrap64 ((ss.length : Int) - 1) = ((ss.length - 1 : Nat) : Int) := by rw [wrap_in (by omega) (by omega)]; omega
      have w2 : wrap64 (((d + 1 : Nat) : Int) - 1) = (d : Int) := by rw [wrap_in (by omega) (by omega)]; omega
      obtain ⟨a, ha⟩ : ∃ a, ss[ss.length - 1]? = some a := ⟨_, List.getElem?_eq_getElem (by omega)⟩
      have hrd : rd_Lint ss ((ss.length - 1 : Nat) : Int) = a := getD_of ha
      have hia := g7 a (List.mem_of_getElem? ha)
      have hul : (usableP V R a).length ≤ R.length := by have := usableGo_len V a R 0 []; simpa [usableP] using this
      refine tot_step (fun k => by rw [spec_l3Walk.l1, w1, w2, hrd]) (tot_pos (by omega) (tot_pos (by omega) (tot_pos (by omega) (tot_bind (tot_ev (Q := fun r => r = usableP V R a) (spec_UsableIn_ev h hia) rfl) fun r3 q3 => ?_))))
      subst q3
      refine tot_ite (fun hn => tot_bind (pick_tot hb g1 (by omega) _) fun r4 ⟨t1, t2, t3, t4⟩ => ?_) fun _ => ih x0 ss ks (by omega) g1 (by omega) g3 g4 (by omega) (by omega) g7
      have t3 := t3 (by omega)
      obtain ⟨i, r, u1, u2, u3⟩ : ∃ i r, R[i]? = some r ∧ rd (usableP V R a) r4.2 = ((0 + i : Nat) : Int) ∧ 0 < (useP V r a).length := by
        rcases usableGo_mem V a R 0 [] _ (rd_mem t2 t3) with hh | hh
        · cases hh
        · exact hh
      rw [Nat.zero_add] at u2
      rw [u2]
      refine tot_pos t2 (tot_pos t3 (tot_pos (by omega) (tot_pos (by omega) (tot_bind (tot_ev (Q := fun x => inRangeP V x = true) (spec_l2Use_ev h hia u1) (useP_in u3)) fun r5 q5 => tot_pos (by omega) (tot_pos (by omega) (ih r4.1 _ _ (by omega) (by omega) (by omega) (by omega) (by simp) (by simp; omega) (by simp; omega) ?_))))))
      intro x hx
      rcases List.mem_append.1 hx with hx | hx
      · exact g7 x hx
      · rw [List.mem_singleton.1 hx]; exact q5
  have := key r2.2.toNat r2.1 [r1] [] (by omega) (by omega) (by omega) (by omega) (by simp) (by simp; omega) (by simp; omega) (fun x hx => by rw [List.mem_singleton.1 hx]; exact q1)
  rw [show ((r2.2.toNat : Nat) : Int) = r2.2 by omega] at this
  exact this
end
theorem set_len5 {l : List (List Int)} {i : Nat} {x : List Int} (h : ∀ y ∈ l, y.length ≤ 5) (hx : x.length ≤ 5) : ∀ y ∈ l.set i x, y.length ≤ 5 := fun y hy => by
  rcases List.mem_or_eq_of_mem_set hy with hy | rfl
  · exact h y hy
  · exact hx
theorem l3Trace_tot {l : List Int} (h : ∀ x ∈ l, 0 ≤ x ∧ x < 256) : Tot (fun k => spec_l3Trace.f k l) (fun r => (ByteL r.1.1 ∧ 0 ≤ r.1.2 ∧ r.1.2 ≤ 500000) ∧ AnyQ r.2.1 ∧ (r.2.2.1.length ≤ 201 ∧ r.2.2.2.length ≤ 201) ∧ ∀ x ∈ r.2.2.1, x.length ≤ 5) := by
  unfold spec_l3Trace.f
  refine tot_bind (l40Open_tot h) fun r1 ⟨hb, h0⟩ => ?_
  refine tot_bind (l2Any_tot hb 40 (by omega) (by omega)) fun r2 ⟨a0, a1, hq⟩ => ?_
  have hV := hq.1
  refine tot_bind (tot_ev (Q := fun r => r = sysP r2.2.1 r2.2.2) (spec_SystemValid_ev r2.2.1 r2.2.2) rfl) fun r3 q3 => ?_
  subst q3
  refine tot_ite (fun hs => ?_) fun _ => tot_ret ⟨⟨hb, by show 0 ≤ r2.1; omega, by show r2.1 ≤ _; omega⟩, hq, ⟨by simp, by simp⟩, fun x hx => by rw [List.mem_singleton.1 hx]; simp⟩
  refine tot_bind (l3Walk_tot hb hs (m := 8) (by omega) (by omega) (by omega)) fun r4 ⟨⟨c0, c1⟩, ⟨d0, d1⟩, d2, d3⟩ => ?_
  refine tot_bind (pick_tot hb (by omega) (by omega) _) fun r5 ⟨e1, e2, e3, e4⟩ => ?_
  have j1 : ∀ (p : Int) (ss : List (List Int)) (ks : List Int), 0 ≤ p → p ≤ 500000 → ss.length ≤ 201 → ks.length ≤ 201 → (∀ x ∈ ss, x.length ≤ 5) → Tot (fun k => spec_l3Trace.j1 k p ss ks r1 r2) (fun r => (ByteL r.1.1 ∧ 0 ≤ r.1.2 ∧ r.1.2 ≤ 500000) ∧ AnyQ r.2.1 ∧ (r.2.2.1.length ≤ 201 ∧ r.2.2.2.length ≤ 201) ∧ ∀ x ∈ r.2.2.1, x.length ≤ 5) :=
    fun p ss ks g0 g1 g2 g3 g4 => tot_step (fun k => by rw [spec_l3Trace.j1]) (tot_ret ⟨⟨hb, g0, g1⟩, hq, ⟨g2, g3⟩, g4⟩)
  have j2 : ∀ (p : Int) (ss : List (List Int)) (ks : List Int), 0 ≤ p → p ≤ 500000 → ss.length ≤ 201 → ks.length ≤ 201 → (∀ x ∈ ss, x.length ≤ 5) → Tot (fun k => spec_l3Trace.j2 k p ss ks r1 r2) (fun r => (ByteL r.1.1 ∧ 0 ≤ r.1.2 ∧ r.1.2 ≤ 500000) ∧ AnyQ r.2.1 ∧ (r.2.2.1.length ≤ 201 ∧ r.2.2.2.length ≤ 201) ∧ ∀ x ∈ r.2.2.1, x.length ≤ 5) :=
    fun p ss ks g0 g1 g2 g3 g4 => tot_step (fun k => by rw [spec_l3Trace.j2]) (j1 p ss ks g0 g1 g2 g3 g4)
  have j3 : ∀ (p : Int) (ss : List (List Int)) (ks : List Int), 0 ≤ p → p ≤ 500000 → ss.length ≤ 201 → ks.length ≤ 201 → (∀ x ∈ ss, x.length ≤ 5) → Tot (fun k => spec_l3Trace.j3 k p ss ks r1 r2) (fun r => (ByteL r.1.1 ∧ 0 ≤ r.1.2 ∧ r.1.2 ≤ 500000) ∧ AnyQ r.2.1 ∧ (r.2.2.1.length ≤ 201 ∧ r.2.2.2.length ≤ 201) ∧ ∀ x ∈ r.2.2.1, x.length ≤ 5) :=
    fun p ss ks g0 g1 g2 g3 g4 => tot_step (fun k => by rw [spec_l3Trace.j3]) (j2 p ss ks g0 g1 g2 g3 g4)
  have j4 : ∀ (p : Int) (ss : List (List Int)) (ks : List Int), 0 ≤ p → p ≤ 500000 → ss.length ≤ 201 → ks.length ≤ 201 → (∀ x ∈ ss, x.length ≤ 5) → Tot (fun k => spec_l3Trace.j4 k p ss ks r1 r2) (fun r => (ByteL r.1.1 ∧ 0 ≤ r.1.2 ∧ r.1.2 ≤ 500000) ∧ AnyQ r.2.1 ∧ (r.2.2.1.length ≤ 201 ∧ r.2.2.2.length ≤ 201) ∧ ∀ x ∈ r.2.2.1, x.length ≤ 5) :=
    fun p ss ks g0 g1 g2 g3 g4 => tot_step (fun k => by rw [spec_l3Trace.j4]) (j3 p ss ks g0 g1 g2 g3 g4)
  have j5 : ∀ (p : Int) (ss : List (List Int)) (ks : List Int), 0 ≤ p → p ≤ 500000 → ss.length ≤ 201 → ks.length ≤ 201 → (∀ x ∈ ss, x.length ≤ 5) → Tot (fun k => spec_l3Trace.j5 k p ss ks r1 r2) (fun r => (ByteL r.1.1 ∧ 0 ≤ r.1.2 ∧ r.1.2 ≤ 500000) ∧ AnyQ r.2.1 ∧ (r.2.2.1.length ≤ 201 ∧ r.2.2.2.length ≤ 201) ∧ ∀ x ∈ r.2.2.1, x.length ≤ 5) :=
    fun p ss ks g0 g1 g2 g3 g4 => tot_step (fun k => by rw [spec_l3Trace.j5]) (j4 p ss ks g0 g1 g2 g3 g4)
  have w1 : wrap64 ((r4.2.1.length : Int) - 1) = ((r4.2.1.length - 1 : Nat) : Int) := by rw [wrap_in (by omega) (by omega)]; omega
  refine tot_ite (fun _ => ?_) fun _ => j1 _ _ _ (by omega) (by omega) (by omega) (by omega) d3
  refine tot_bind (pick_tot hb (by omega) (by omega) _) fun r6 ⟨f1, f2, f3, f4⟩ => ?_
  rw [w1]
  refine tot_ite (fun _ => tot_pos (by omega) (j2 _ _ _ (by omega) (by omega) (by omega) (by simp; omega) d3)) fun _ => ?_
  refine tot_ite (fun _ => tot_pos (by omega) (j3 _ _ _ (by omega) (by omega) (by simp; omega) (by omega) fun x hx => d3 x (List.mem_of_mem_drop hx))) fun _ => ?_
  refine tot_ite (fun _ => ?_) fun _ => ?_
  · refine tot_ite (fun _ => ?_) fun _ => ?_
    · exact tot_bind (num_tot hb (by omega) (by omega) _ (by simp)) fun r7 ⟨g1, _⟩ => tot_pos (by omega) (j5 _ _ _ (by omega) (by omega) (by omega) (by simp; omega) d3)
    · exact tot_bind (l2Some_tot hb r2.2.1 r2.2.2 (by omega) (by omega) (by omega)) fun r8 ⟨g1, g2, g3⟩ => tot_pos (by omega) (tot_pos (by omega) (j5 _ _ _ (by omega) (by omega) (by simp; omega) (by omega) (set_len5 d3 g3)))
  · exact tot_bind (l2Some_tot hb r2.2.1 r2.2.2 (by omega) (by omega) (by omega)) fun r9 ⟨g1, g2, g3⟩ => tot_pos (by omega) (tot_pos (by omega) (j4 _ _ _ (by omega) (by omega) (by simp; omega) (by omega) (set_len5 d3 g3)))
end Go.Proofs.Ytpjmiaooogephaa.PA
end
section
set_option linter.unusedVariables false
set_option linter.unusedSimpArgs false
namespace Go.Proofs.Ytpjmiaooogephaa.PA
open Go.RowKit Go.Proofs.YtpjmiaooogephaaW.PrintWords
theorem clone_L_ev {l : List (List Int)} (h : l.length ≤ 1048576) : Ev (fun _ => impl_clone_Lint.f l) l := ev_fix (by unfold impl_clone_Lint.f; rw [if_pos (by omega)])
theorem clone_i_ev {l : List Int} (h : l.length ≤ 1048576) : Ev (fun _ => impl_clone_int.f l) l := ev_fix (by unfold impl_clone_int.f; rw [if_pos (by omega)])
end Go.Proofs.Ytpjmiaooogephaa.PA
end
section
set_option linter.unusedVariables false
set_option linter.unusedSimpArgs false
namespace Go.Proofs.Ytpjmiaooogephaa.PA
open Go.RowKit Go.Proofs.YtpjmiaooogephaaW.PrintWords
theorem lastGo_app (a : List Int) : ∀ (l r : List (List Int)) (n m : Nat), lastGo a (l ++ r) n m = lastGo a r (n + l.length) (lastGo a l n m)
  | [], r, n, m => by simp [lastGo]
  | x :: l, r, n, m => by
    show lastGo a (l ++ r) (n + 1) (if x = a then n else m) = lastGo a r (n + (l.length + 1)) (lastGo a l (n + 1) (if x = a then n else m))
    rw [lastGo_app a l r (n + 1) _, show n + 1 + l.length = n + (l.length + 1) by omega]
theorem last_from {ss : List (List Int)} {i : Nat} (hi : i < ss.length) : lastGo (ss.getD i []) (ss.drop i) i i = lastAt ss (ss.getD i []) := by
  have h0 : ss[i] = ss.getD i [] := by rw [List.getD_eq_getElem?_getD, List.getElem?_eq_getElem hi]; rfl
  unfold lastAt
  conv => rhs; rw [← List.take_append_drop i ss, lastGo_app]
  rw [List.length_take, Nat.min_eq_left (by omega), Nat.zero_add, List.take_append_drop, List.drop_eq_getElem_cons hi, h0]
  unfold lastGo
  rw [if_pos rfl, if_pos rfl]
section
variable {V : List IVar} {R : List IRule} {ss : List (List Int)} {ks : List Int}
theorem trace_len5 (ht : traceP V R ss ks = true) : ∀ i : Nat, i < ss.length → (ss.getD i []).length ≤ 5 := fun i hi => by
  obtain ⟨s1, _⟩ := sysP_and (trace_and ht).1
  have := inRangeP_len (trace_in ht i hi)
  omega
theorem impl_last_ev (ht : traceP V R ss ks = true) {x5 : List (List Int)} {ds : List Int} {a : List Int} (h5 : x5.getLast? = some a) (hl : x5.length ≤ 1048576) (ha : a.length ≤ 5) {r : List (List Int) × List Int}
    (hend : Ev (fun k => impl_WithoutRounds.l2 k (lastAt ss a : Int) (ss.length : Int) ss ks x5 ds) r) : Ev (fun k => impl_WithoutRounds.l2 k 0 0 ss ks x5 ds) r := by
  obtain ⟨h, h2, h3, h4, h5'⟩ := trace_and ht
  have hx := trace_len5 ht
  have hpos : 0 < x5.length := by
    rcases x5 with _ | ⟨y, x5⟩
    · simp at h5
    · simp
  have w1 : wrap64 ((x5.length : Int) - 1) = ((x5.length - 1 : Nat) : Int) := by rw [wrap_in (by omega) (by omega)]; omega
  have hrl : rd_Lint x5 ((x5.length - 1 : Nat) : Int) = a := by
    rw [List.getLast?_eq_getElem?] at h5
    exact getD_of h5
  have key : ∀ d n : Nat, ss.length - n = d → n ≤ ss.length → ∀ m : Nat, lastGo a (ss.drop n) n m = lastAt ss a → Ev (fun k => impl_WithoutRounds.l2 k (m : Int) (n : Int) ss ks x5 ds) r := by
    intro d
    induction d with
    | zero =>
      intro n g1 g2 m hm
      have : n = ss.length := by omega
      subst this
      rw [List.drop_length] at hm
      unfold lastGo at hm
      rw [hm]
      exact hend
    | succ d ih =>
      intro n g1 g2 m hm
      have hn : n < ss.length := by omega
      have hrd : rd_Lint ss (n : Int) = ss.getD n [] := rfl
      have h0 : ss[n] = ss.getD n [] := by rw [List.getD_eq_getElem?_getD, List.getElem?_eq_getElem hn]; rfl
      have hxl := hx n hn
      rw [List.drop_eq_getElem_cons hn, h0] at hm
      unfold lastGo at hm
      refine Ev.step (fun k => by rw [impl_WithoutRounds.l2, w1, hrl, hrd, wrap_nat hn (by omega)]) ?_
      refine ev_pos (by omega) (ev_pos (by omega) (ev_pos (by omega) (ev_bind (slices_Equal_ev (ss.getD n []) a (by omega)) ?_)))
      by_cases e : ss.getD n [] = a
      · rw [if_pos e] at hm
        exact ev_pos (by simpa using e) (ih (n + 1) (by omega) (by omega) n hm)
      · rw [if_neg e] at hm
        exact ev_neg (by simpa using e) (ih (n + 1) (by omega) (by omega) m hm)
  exact key ss.length 0 (by omega) (by omega) 0 rfl
theorem impl_wo_ev (ht : traceP V R ss ks = true) : ∀ (f i : Nat), i < ss.length → ss.length - i ≤ f → ∀ (pre : List (List Int)) (ds : List Int), pre.length ≤ i → ds.length ≤ i →
    Ev (fun k => impl_WithoutRounds.l1 k (pre ++ [ss.getD i []]) ds ss ks) (pre ++ (woGo ss ks f i).1, ds ++ (woGo ss ks f i).2)
  | 0, i, hi, hf, _, _, _, _ => by omega
  | f + 1, i, hi, hf, pre, ds, hp, hd => by
    obtain ⟨h, h2, h3, h4, h5⟩ := trace_and ht
    obtain ⟨l1, l2, l3⟩ := lastAt_at hi
    have hx := trace_len5 ht
    have hxi := hx i hi
    have w1 : wrap64 (((pre ++ [ss.getD i []]).length : Int) - 1) = (pre.length : Int) := by rw [List.length_append, List.length_singleton, wrap_in (by omega) (by omega)]; omega
    unfold woGo
    refine Ev.step (fun k => by rw [impl_WithoutRounds.l1, w1]) ?_
    refine ev_pos (by omega) (ev_pos (by simp; omega) (impl_last_ev ht (a := ss.getD i []) (by simp) (by simp; omega) hxi ?_))
    generalize hL : lastAt ss (ss.getD i []) = L at *
    by_cases e : L < ks.length
    · rw [if_pos e]
      have hrk : rd ks (L : Int) = ks.getD L 0 := rfl
      have hr1 : rd_Lint ss ((L + 1 : Nat) : Int) = ss.getD (L + 1) [] := rfl
      have hx1 := hx (L + 1) (by omega)
      have ih := impl_wo_ev ht f (L + 1) (by omega) (by omega) (pre ++ [ss.getD i []]) (ds ++ [ks.getD L 0]) (by simp; omega) (by simp; omega)
      refine Ev.step (fun k => by rw [impl_WithoutRounds.l2, hrk, wrap_nat e (by omega), hr1]) ?_
      refine ev_neg (by omega) (ev_neg (by omega) (ev_pos (by omega) (ev_pos (by omega) (ev_pos (by omega) (ev_pos (by omega) (ev_pos (by omega) (ev_bind (clone_i_ev (by omega)) (ev_pos (by simp; omega) (ev_eq ih (by simp))))))))))
    · rw [if_neg e]
      refine Ev.step (fun k => by rw [impl_WithoutRounds.l2]) ?_
      exact ev_neg (by omega) (ev_pos (by omega) (ev_bind (clone_L_ev (by simp; omega)) (ev_bind (clone_i_ev (by omega)) (ev_eq (ev_ret _) (by simp)))))
theorem spec_last_ev (ht : traceP V R ss ks = true) {x5 : List (List Int)} {ds : List Int} {i : Nat} (hi : i < ss.length) {r : List (List Int) × List Int}
    (hend : Ev (fun k => spec_WithoutRounds.l2 k (lastAt ss (ss.getD i []) : Int) (ss.length : Int) ss ks x5 ds (i : Int)) r) : Ev (fun k => spec_WithoutRounds.l2 k (i : Int) (i : Int) ss ks x5 ds (i : Int)) r := by
  obtain ⟨h, h2, h3, h4, h5'⟩ := trace_and ht
  have hx := trace_len5 ht
  have hrl : rd_Lint ss (i : Int) = ss.getD i [] := rfl
  have key : ∀ d n : Nat, ss.length - n = d → n ≤ ss.length → ∀ m : Nat, lastGo (ss.getD i []) (ss.drop n) n m = lastAt ss (ss.getD i []) → Ev (fun k => spec_WithoutRounds.l2 k (m : Int) (n : Int) ss ks x5 ds (i : Int)) r := by
    intro d
    induction d with
    | zero =>
      intro n g1 g2 m hm
      have : n = ss.length := by omega
      subst this
      rw [List.drop_length] at hm
      unfold lastGo at hm
      rw [hm]
      exact hend
    | succ d ih =>
      intro n g1 g2 m hm
      have hn : n < ss.length := by omega
      have hrd : rd_Lint ss (n : Int) = ss.getD n [] := rfl
      have h0 : ss[n] = ss.getD n [] := by rw [List.getD_eq_getElem?_getD, List.getElem?_eq_getElem hn]; rfl
      have hxl := hx n hn
      rw [List.drop_eq_getElem_cons hn, h0] at hm
      unfold lastGo at hm
      refine Ev.step (fun k => by rw [spec_WithoutRounds.l2, hrl, hrd, wrap_nat hn (by omega)]) ?_
      refine ev_pos (by omega) (ev_pos (by omega) (ev_pos (by omega) (ev_pos (by omega) (ev_pos (by omega) (ev_bind (spec_l2Same_ev (ss.getD n []) (ss.getD i []) (by omega)) ?_)))))
      by_cases e : ss.getD n [] = ss.getD i []
      · rw [if_pos e] at hm
        exact ev_pos (by simpa using e) (ih (n + 1) (by omega) (by omega) n hm)
      · rw [if_neg e] at hm
        exact ev_neg (by simpa using e) (ih (n + 1) (by omega) (by omega) m hm)
  exact key (ss.length - i) i rfl (by omega) i (last_from hi)
theorem spec_wo_ev (ht : traceP V R ss ks = true) : ∀ (f i : Nat), i < ss.length → ss.length - i ≤ f → ∀ (pre : List (List Int)) (ds : List Int), pre.length ≤ i → ds.length ≤ i →
    Ev (fun k => spec_WithoutRounds.l1 k pre ds (i : Int) ss ks) (pre ++ (woGo ss ks f i).1, ds ++ (woGo ss ks f i).2)
  | 0, i, hi, hf, _, _, _, _ => by omega
  | f + 1, i, hi, hf, pre, ds, hp, hd => by
    obtain ⟨h, h2, h3, h4, h5⟩ := trace_and ht
    obtain ⟨l1, l2, l3⟩ := lastAt_at hi
    have hx := trace_len5 ht
    have hxi := hx i hi
    unfold woGo
    refine Ev.step (fun k => by rw [spec_WithoutRounds.l1]) ?_
    refine ev_pos (by omega) (spec_last_ev ht hi ?_)
    generalize hL : lastAt ss (ss.getD i []) = L at *
    have hrl : rd_Lint ss (i : Int) = ss.getD i [] := rfl
    have hrk : rd ks (L : Int) = ks.getD L 0 := rfl
    refine Ev.step (fun k => by rw [spec_WithoutRounds.l2, hrl, hrk, wrap_nat (n := L) (m := 1000) (by omega) (by omega)]) ?_
    refine ev_neg (by omega) (ev_pos (by omega) (ev_pos (by omega) (ev_bind (spec_l3Copy_ev _ (by omega)) (ev_pos (by omega) ?_))))
    by_cases e : L < ks.length
    · rw [if_pos e]
      have ih := spec_wo_ev ht f (L + 1) (by omega) (by omega) (pre ++ [ss.getD i []]) (ds ++ [ks.getD L 0]) (by simp; omega) (by simp; omega)
      exact ev_pos (by omega) (ev_pos (by omega) (ev_pos (by omega) (ev_pos (by omega) (ev_eq ih (by simp)))))
    · rw [if_neg e]
      refine ev_neg (by omega) ?_
      refine Ev.step (fun k => by rw [spec_WithoutRounds.l1]) ?_
      exact ev_neg (by omega) (ev_eq (ev_ret _) (by simp))
end
def withoutP (V : List IVar) (R : List IRule) (ss : List (List Int)) (ks : List Int) : List (List Int) × List Int := if traceP V R ss ks = true then woP ss ks else ([], [])
theorem impl_WithoutRounds_ev {V : List IVar} {R : List IRule} {ss : List (List Int)} {ks : List Int} (hT : Ev (fun k => impl_TraceValid.f k V R ss ks) (traceP V R ss ks)) : Ev (fun k => impl_WithoutRounds.f k V R ss ks) (withoutP V R ss ks) := by
  unfold impl_WithoutRounds.f withoutP
  refine ev_bind hT ?_
  by_cases ht : traceP V R ss ks = true
  · obtain ⟨h, h2, h3, h4, h5⟩ := trace_and ht
    have hxi := trace_len5 ht 0 (by omega)
    rw [if_pos ht]
    refine ev_pos ht (ev_pos (by omega) (ev_bind (a := ss.getD 0 []) (clone_i_ev (l := ss.getD 0 []) (by omega)) ?_))
    exact ev_eq (impl_wo_ev ht ss.length 0 (by omega) (by omega) [] [] (by simp) (by simp)) (by simp [woP])
  · rw [if_neg ht]; exact ev_neg ht (ev_ret _)
theorem spec_WithoutRounds_ev {V : List IVar} {R : List IRule} {ss : List (List Int)} {ks : List Int} (hT : Ev (fun k => spec_TraceValid.f k V R ss ks) (traceP V R ss ks)) : Ev (fun k => spec_WithoutRounds.f k V R ss ks) (withoutP V R ss ks) := by
  unfold spec_WithoutRounds.f withoutP
  refine ev_bind hT ?_
  by_cases ht : traceP V R ss ks = true
  · obtain ⟨h, h2, h3, h4, h5⟩ := trace_and ht
    rw [if_pos ht]
    exact ev_pos ht (ev_eq (spec_wo_ev ht ss.length 0 (by omega) (by omega) [] [] (by simp) (by simp)) (by simp [woP]))
  · rw [if_neg ht]; exact ev_neg ht (ev_ret _)
end Go.Proofs.Ytpjmiaooogephaa.PA
end
section
set_option linter.unusedVariables false
set_option linter.unusedSimpArgs false
namespace Go.Proofs.Ytpjmiaooogephaa.PA
open Go.RowKit Go.Proofs.YtpjmiaooogephaaW.PrintWords
theorem laws_wcInts_ev (a b : List Int) (h : a.length ≤ 1099511627776) : Ev (fun k => laws_wcInts.f k a b) (decide (a = b)) := by
  unfold laws_wcInts.f
  by_cases e : a.length = b.length
  · refine ev_pos (by omega) ?_
    have key : ∀ d n : Nat, a.length - n = d → n ≤ a.length → Ev (fun k => laws_wcInts.l0 k b a (a.length : Int) (n : Int)) (decide (a.drop n = b.drop n)) := by
      intro d
      induction d with
      | zero =>
        intro n g1 g2
        refine Ev.step (fun k => by rw [laws_wcInts.l0]) (ev_neg (by omega) (ev_eq (ev_ret _) ?_))
        rw [List.drop_eq_nil_of_le (by omega), List.drop_eq_nil_of_le (by omega)]
        rfl
      | succ d ih =>
        intro n g1 g2
        have hn : n < a.length := by omega
        have hm : n < b.length := by omega
        refine Ev.step (fun k => by rw [laws_wcInts.l0]) (ev_pos (by omega) (ev_pos (by omega) (ev_pos (by omega) (ev_pos (by omega) ?_))))
        rw [show rd b (n : Int) = b[n] from getD_of (List.getElem?_eq_getElem hm), show rd a (n : Int) = a[n] from getD_of (List.getElem?_eq_getElem hn), List.drop_eq_getElem_cons hn, List.drop_eq_getElem_cons hm, wrap_nat (n := n) (m := a.length) hn (by omega)]
        by_cases q : b[n] = a[n]
        · exact ev_pos q (ev_eq (ih (n + 1) (by omega) (by omega)) (by simp only [List.cons.injEq, q, true_and]))
        · exact ev_neg q (ev_eq (ev_ret _) (by simp only [List.cons.injEq]; rw [eq_comm, decide_eq_false_iff_not]; exact fun h => q h.1.symm))
    simpa using key a.length 0 (by omega) (by omega)
  · refine ev_neg (by omega) (ev_eq (ev_ret _) ?_)
    rw [eq_comm, decide_eq_false_iff_not]
    exact fun h => e (congrArg List.length h)
end Go.Proofs.Ytpjmiaooogephaa.PA
end
section
namespace Go.Proofs.Ytpjmiaooogephaa.PA
open Go.RowKit Go.Proofs.YtpjmiaooogephaaW.PrintWords
def laws_FnWithoutRounds.PureS : Prop := ∀ (l0 : List Int), (l0.length ≤ 9223372036854775807 ∧ ∀ x0 ∈ l0, (Lit.int .u8 x0).wf = true) → ∃ k, laws_FnWithoutRounds.f k l0 = some true
end Go.Proofs.Ytpjmiaooogephaa.PA
end
section
set_option linter.unusedVariables false
set_option linter.unusedSimpArgs false
namespace Go.Proofs.Ytpjmiaooogephaa.PA
open Go.RowKit Go.Proofs.YtpjmiaooogephaaW.PrintWords
theorem drawWithout_tot {l : List Int} (h : ∀ x ∈ l, 0 ≤ x ∧ x < 256) : Tot (fun k => spec_DrawWithoutRounds.f k l) (fun r => AnyQ r.1 ∧ (r.2.1.length ≤ 201 ∧ r.2.2.length ≤ 201) ∧ ∀ x ∈ r.2.1, x.length ≤ 5) := by
  unfold spec_DrawWithoutRounds.f
  refine tot_bind (l3Trace_tot h) fun r1 ⟨⟨hb, p0, p1⟩, hq, hl, hx⟩ => ?_
  refine tot_bind (tot_ev (Q := fun r => r = sysP r1.2.1.1 r1.2.1.2) (spec_SystemValid_ev r1.2.1.1 r1.2.1.2) rfl) fun r2 q2 => ?_
  subst q2
  refine tot_ite (fun hs => ?_) fun _ => tot_ret ⟨hq, hl, hx⟩
  refine tot_bind (pick_tot hb p0 (by omega) 3) fun r3 ⟨e1, e2, e3, e4⟩ => tot_ite (fun _ => ?_) fun _ => tot_ret ⟨hq, hl, hx⟩
  exact tot_bind (l3Walk_tot hb hs (m := 14) (by omega) (by omega) (by omega)) fun r4 ⟨_, ⟨d0, d1⟩, d2, d3⟩ => tot_ret ⟨hq, ⟨by show r4.2.1.length ≤ 201; omega, by show r4.2.2.length ≤ 201; omega⟩, d3⟩
theorem wrap_pred {n : Nat} (h : 0 < n) (h2 : n ≤ 1048576) : wrap64 ((n : Int) - 1) = ((n - 1 : Nat) : Int) := by rw [wrap_in (by omega) (by omega)]; omega
theorem FnWithoutRounds_pure : laws_FnWithoutRounds.PureS := by
  intro l hl
  suffices h : Ev (fun k => laws_FnWithoutRounds.f k l) true from h.rounds
  unfold laws_FnWithoutRounds.f
  refine ev_ite (fun _ => ev_ret _) fun _ => ?_
  obtain ⟨⟨⟨V, R⟩, ss, ks⟩, hdr, hq, ⟨hx1, hx2⟩, hx3⟩ := drawWithout_tot (bytes_in hl)
  simp only at hx1 hx2 hx3
  have hxs : ∀ x ∈ ss, x.length ≤ 1048576 := fun x hx => by have := hx3 x hx; omega
  have hv : Ev (fun k => impl_SystemValid.f k V R) (sysP V R) := hq.valid
  have hV : V.length ≤ 4 := hq.1
  have hT : Ev (fun k => impl_TraceValid.f k V R ss ks) (traceP V R ss ks) := impl_TraceValid_ev ss ks hxs (by omega) hv
  refine ev_bind hdr (ev_bind (impl_WithoutRounds_ev hT) (ev_bind (spec_WithoutRounds_ev (spec_TraceValid_ev V R ss ks hxs (by omega))) (ev_neg (by simp) ?_)))
  by_cases ht : traceP V R ss ks = true
  case neg =>
    have e : withoutP V R ss ks = ([], []) := by unfold withoutP; rw [if_neg ht]
    rw [e]
    refine ev_pos rfl (ev_pos rfl (ev_bind hT (ev_neg ht (ev_pos rfl (ev_bind hv (ev_bind (spec_SystemValid_ev V R) ?_))))))
    exact Ev.step (fun k => by rw [laws_FnWithoutRounds.j2]) (ev_eq (ev_ret _) (by simp))
  obtain ⟨h, h2, h3, h4, h5⟩ := trace_and ht
  obtain ⟨i1, i2, i3, i4, i5, i6, i7⟩ := woGo_ok ht ss.length 0 (by omega) (by omega)
  have hwt := wo_trace ht
  have e : withoutP V R ss ks = woP ss ks := by unfold withoutP; rw [if_pos ht]
  rw [e]
  rw [show woGo ss ks ss.length 0 = woP ss ks from rfl] at i1 i2 i3 i4 i5 i6 i7
  have hx5 := trace_len5 ht
  have hw5 : ∀ x ∈ (woP ss ks).1, x.length ≤ 5 := fun x hx => by
    obtain ⟨j, _, hj⟩ := i5 x hx
    have hjl := (List.getElem?_eq_some_iff.1 hj).1
    have := hx5 j hjl
    rw [List.getD_eq_getElem?_getD, hj] at this
    exact this
  generalize hW : woP ss ks = W at *
  obtain ⟨ws, wk⟩ := W
  simp only at i1 i2 i3 i4 i5 i6 i7 hw5 hwt
  have hTw : Ev (fun k => impl_TraceValid.f k V R ws wk) true := by
    rw [← hwt]
    exact impl_TraceValid_ev ws wk (fun x hx => by have := hw5 x hx; omega) (by omega) hv
  refine ev_neg (by show ¬ (ws.length : Int) = 0; omega) ?_
  have key : ∀ d n : Nat, ws.length - n = d → n ≤ ws.length → Ev (fun k => laws_FnWithoutRounds.l3 k (n : Int) ((V, R), ss, ks) (ws, wk)) true := by
    intro d
    induction d with
    | zero =>
      intro n g1 g2
      have : n = ws.length := by omega
      subst this
      have r1 : rd_Lint ws ((ws.length - 1 : Nat) : Int) = ss.getD (ss.length - 1) [] := by
        rw [List.getLast?_eq_getElem?] at i4
        exact getD_of i4
      have r2 : rd_Lint ss ((ss.length - 1 : Nat) : Int) = ss.getD (ss.length - 1) [] := rfl
      have hl5 := hx5 (ss.length - 1) (by omega)
      refine Ev.step (fun k => by rw [laws_FnWithoutRounds.l3, wrap_pred (show 0 < ws.length by omega) (by omega), wrap_pred (show 0 < ss.length by omega) (by omega), r1, r2]) ?_
      refine ev_neg (by dsimp only; omega) (ev_bind hTw (ev_pos rfl (ev_pos (by omega) (ev_pos (by dsimp only; omega) (ev_pos (by omega) (ev_pos (by dsimp only; omega) (ev_bind (laws_wcInts_ev _ _ (by omega)) (ev_eq (ev_ret _) (by simp)))))))))
    | succ d ih =>
      intro n g1 g2
      have hn : n < ws.length := by omega
      have r1 : rd_Lint ws (n : Int) = ws[n] := getD_of (List.getElem?_eq_getElem hn)
      have h5n := hw5 ws[n] (List.getElem_mem hn)
      refine Ev.step (fun k => by rw [laws_FnWithoutRounds.l3]) ?_
      refine ev_pos (by dsimp only; omega) (ev_pos (by omega) (ev_pos (by dsimp only; omega) (ev_pos (by omega) (ev_pos (by dsimp only; omega) ?_))))
      have htl : (ws.take n).length = n := by rw [List.length_take]; omega
      have inner : ∀ d j : Nat, n - j = d → j ≤ n → Ev (fun k => laws_FnWithoutRounds.l4 k (j : Int) ((V, R), ss, ks) (ws, wk) (n : Int)) true := by
        intro d
        induction d with
        | zero =>
          intro j f1 f2
          have : j = n := by omega
          subst this
          refine Ev.step (fun k => by rw [laws_FnWithoutRounds.l4, wrap_nat (n := j) (m := 1000) (by omega) (by omega), Int.toNat_natCast]) ?_
          exact ev_neg (by dsimp only; omega) (ih (j + 1) (by omega) (by omega))
        | succ d ih2 =>
          intro j f1 f2
          have hj : j < n := by omega
          have r2 : rd_Lint (ws.take n) (j : Int) = ws[j] := getD_of (by rw [List.getElem?_take, if_pos hj, List.getElem?_eq_getElem (by omega)])
          have hne : ws[j] ≠ ws[n] := List.pairwise_iff_getElem.1 i6 j n (by omega) hn hj
          refine Ev.step (fun k => by rw [laws_FnWithoutRounds.l4, wrap_nat (n := j) (m := 1000) (by omega) (by omega), Int.toNat_natCast]) ?_
          refine ev_pos (by dsimp only; omega) (ev_pos (by omega) (ev_pos (by dsimp only; omega) (ev_bind (a := false) ?_ (ev_neg (by simp) (ih2 (j + 1) (by omega) (by omega))))))
          dsimp only
          rw [r1, r2]
          exact ev_eq (laws_wcInts_ev ws[n] ws[j] (by omega)) (decide_eq_false fun e => hne e.symm)
      exact inner n 0 (by omega) (by omega)
  exact key ws.length 0 (by omega) (by omega)
end Go.Proofs.Ytpjmiaooogephaa.PA
namespace Go.Proofs.Ytpjmiaooogephaa.Pure
theorem FnWithoutRounds : Go.Proofs.Ytpjmiaooogephaa.PA.laws_FnWithoutRounds.PureS := Go.Proofs.Ytpjmiaooogephaa.PA.FnWithoutRounds_pure
end Go.Proofs.Ytpjmiaooogephaa.Pure
end
