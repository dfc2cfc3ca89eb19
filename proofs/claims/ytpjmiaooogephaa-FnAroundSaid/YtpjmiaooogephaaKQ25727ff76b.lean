/- The plain side: what the Lean functions compute, without Go and memory; each theorem under the conditions that it names. -/
import Derived.Test.YtpjmiaooogephaaProg
import Derived.Below
import Derived.Deep.Draws
import Derived.Deep.AppendLies
import Derived.Maps.AppendAt
import Derived.OwnWalk
import Derived.Laws.BytesArg
import Derived.Laws.MakeOwn
import Derived.Laws.OwnMore
import Derived.Deep.OwnRows
import Derived.Tactics
import Derived.Lib.ConvBytes
import Derived.Laws.Slices
import Derived.WalkKit
import Derived.KernelRfl
import Derived.RowKit3
import Derived.Deep.LoopGhost
import Derived.Deep.QuietTactic
import Derived.BigQuiet
import Derived.WideLaws
import Derived.Deep.DeepCutAuto
import Derived.Deep.CutBlock
import Derived.Deep.RegionHeld3
import Derived.Laws.Rows
import Derived.Lib.AppendStr
import Derived.ArgAppend
import Derived.Laws.IdiomCopy
import Derived.OrdersHeld
import Derived.Laws.BitsLemmas
import Derived.RowKit
import Derived.Laws.StructEq
import Derived.Lib.SliceRun
import Derived.WalkSpells
import Derived.ChangeArms
import Derived.ChangeSlices
import Derived.Deep.Slices
import Derived.Test.YtpjmiaooogephaaKD3a71d84838
section
set_option linter.unusedVariables false
set_option linter.unusedSimpArgs false
namespace Go.Proofs.Ytpjmiaooogephaa.PA
open Go.RowKit Go.Proofs.YtpjmiaooogephaaW.PrintWords
theorem ev_ret {α : Type} (r : α) : Ev (fun _ => some r) r := Ev.now r
theorem ev_pos {α : Type} {c : Prop} [Decidable c] {f g : Nat → Option α} {r : α} (h : c) (k : Ev f r) : Ev (fun n => if c then f n else g n) r := by
  simpa [h] using k
theorem ev_neg {α : Type} {c : Prop} [Decidable c] {f g : Nat → Option α} {r : α} (h : ¬ c) (k : Ev g r) : Ev (fun n => if c then f n else g n) r := by
  simpa [h] using k
theorem ev_ite {α : Type} {c : Prop} [Decidable c] {f g : Nat → Option α} {r : α} (h1 : c → Ev f r) (h2 : ¬ c → Ev g r) : Ev (fun n => if c then f n else g n) r := by
  by_cases h : c
  · exact ev_pos h (h1 h)
  · exact ev_neg h (h2 h)
theorem ev_ite_eq {α : Type} {c : Prop} [Decidable c] {f g : Nat → Option α} {r s : α} (h1 : c → Ev f r) (h2 : ¬ c → Ev g s) : Ev (fun n => if c then f n else g n) (if c then r else s) := by
  by_cases h : c
  · rw [if_pos h]; exact ev_pos h (h1 h)
  · rw [if_neg h]; exact ev_neg h (h2 h)
theorem ev_bind {α β : Type} {g : Nat → Option α} {f : Nat → α → Option β} {a : α} {r : β} (h : Ev g a) (k : Ev (fun n => f n a) r) : Ev (fun n => (g n).bind (fun t => f n t)) r := Ev.bind h k
theorem ev_fix {α : Type} {o : Option α} {r : α} (h : o = some r) : Ev (fun _ => o) r := ⟨0, fun _ _ => h⟩
theorem ev_eq {α : Type} {g : Nat → Option α} {r r' : α} (h : Ev g r) (e : r = r') : Ev g r' := e ▸ h
theorem wrap_in {x : Int} (h0 : -9223372036854775808 ≤ x) (h1 : x ≤ 9223372036854775807) : wrap64 x = x := by unfold wrap64; omega
theorem wrap_nat {n m : Nat} (h : n < m) (hm : m ≤ 9223372036854775807) : wrap64 ((n : Int) + 1) = ((n + 1 : Nat) : Int) := by unfold wrap64; omega
theorem getD_of {α : Type} {xs : List α} {n : Nat} {x d : α} (h : xs[n]? = some x) : xs.getD (n : Int).toNat d = x := by
  simp [List.getD_eq_getElem?_getD, h]
end Go.Proofs.Ytpjmiaooogephaa.PA
end
section
set_option linter.unusedVariables false
set_option linter.unusedSimpArgs false
namespace Go.Proofs.Ytpjmiaooogephaa.PA
open Go.RowKit Go.Proofs.YtpjmiaooogephaaW.PrintWords
def Tot {α : Type} (g : Nat → Option α) (Q : α → Prop) : Prop := ∃ r, Ev g r ∧ Q r
section
variable {α β : Type} {Q : α → Prop}
theorem tot_ret {r : α} (h : Q r) : Tot (fun _ => some r) Q := ⟨r, ev_ret r, h⟩
theorem tot_ev {g : Nat → Option α} {r : α} (h : Ev g r) (q : Q r) : Tot g Q := ⟨r, h, q⟩
theorem tot_fix {o : Option α} (h : ∃ r, o = some r ∧ Q r) : Tot (fun _ => o) Q := by obtain ⟨r, h, q⟩ := h; exact ⟨r, ev_fix h, q⟩
theorem tot_pos {c : Prop} [Decidable c] {f g : Nat → Option α} (h : c) (k : Tot f Q) : Tot (fun n => if c then f n else g n) Q := by
  obtain ⟨r, k, q⟩ := k
  exact ⟨r, ev_pos h k, q⟩
theorem tot_neg {c : Prop} [Decidable c] {f g : Nat → Option α} (h : ¬ c) (k : Tot g Q) : Tot (fun n => if c then f n else g n) Q := by
  obtain ⟨r, k, q⟩ := k
  exact ⟨r, ev_neg h k, q⟩
theorem tot_ite {c : Prop} [Decidable c] {f g : Nat → Option α} (h1 : c → Tot f Q) (h2 : ¬ c → Tot g Q) : Tot (fun n => if c then f n else g n) Q := by
  by_cases h : c
  · exact tot_pos h (h1 h)
  · exact tot_neg h (h2 h)
theorem tot_bind {g : Nat → Option β} {f : Nat → β → Option α} {R : β → Prop} (h : Tot g R) (k : ∀ b, R b → Tot (fun n => f n b) Q) : Tot (fun n => (g n).bind (fun t => f n t)) Q := by
  obtain ⟨b, h, q⟩ := h
  obtain ⟨r, k, q⟩ := k b q
  exact ⟨r, ev_bind h k, q⟩
theorem tot_step {g f : Nat → Option α} (h : ∀ k, g (k + 1) = f k) (k : Tot f Q) : Tot g Q := by
  obtain ⟨r, k, q⟩ := k
  exact ⟨r, Ev.step h k, q⟩
theorem tot_mono {g : Nat → Option α} {R : α → Prop} (h : Tot g R) (k : ∀ r, R r → Q r) : Tot g Q := by
  obtain ⟨r, h, q⟩ := h
  exact ⟨r, h, k r q⟩
end
def ByteL (b : List Int) : Prop := b.length ≤ 2000 ∧ ∀ x ∈ b, 0 ≤ x ∧ x < 256
theorem xor_nat (a b : Int) (ha : 0 ≤ a) (hb : 0 ≤ b) (ha' : a < 4611686018427387904) (hb' : b < 4611686018427387904) : ∃ n : Nat, Go.bits .xor .i64 a b = (n : Int) ∧ n < 9223372036854775808 := by
  obtain ⟨a, rfl⟩ := Int.eq_ofNat_of_zero_le ha
  obtain ⟨b, rfl⟩ := Int.eq_ofNat_of_zero_le hb
  refine ⟨a ^^^ b, ?_, Nat.xor_lt_two_pow (n := 63) (by omega) (by omega)⟩
  have h1 : a % 2 ^ 64 = a := Nat.mod_eq_of_lt (by omega)
  have h2 : b % 2 ^ 64 = b := Nat.mod_eq_of_lt (by omega)
  have h3 : a ^^^ b < 2 ^ 63 := Nat.xor_lt_two_pow (by omega) (by omega)
  unfold Go.bits
  simp only [BitVec.ofInt_natCast]
  rw [BitVec.toNat_xor, BitVec.toNat_ofNat, BitVec.toNat_ofNat]
  show Go.IntKind.i64.wrap (((a % 2 ^ 64) ^^^ (b % 2 ^ 64) : Nat) : Int) = _
  rw [h1, h2, Go.IntKind.wrap_i64]
  omega
theorem tmod_in {x n : Int} (hx : 0 ≤ x) (hn : 1 ≤ n) : 0 ≤ x.tmod n ∧ x.tmod n < n := ⟨Int.tmod_nonneg n hx, Int.tmod_lt_of_pos x (by omega)⟩
theorem byte_at {b : List Int} (h : ByteL b) {i : Int} (h0 : 0 ≤ i) (h1 : i < (b.length : Int)) : 0 ≤ rd b i ∧ rd b i < 256 := by
  have : b[i.toNat]? = some b[i.toNat] := List.getElem?_eq_getElem (by omega)
  have e : rd b i = b[i.toNat] := by
    show b.getD i.toNat _ = _
    simp [List.getD_eq_getElem?_getD, this]
  rw [e]
  exact h.2 _ (List.getElem_mem _)
end Go.Proofs.Ytpjmiaooogephaa.PA
end
section
set_option linter.unusedVariables false
set_option linter.unusedSimpArgs false
namespace Go.Proofs.Ytpjmiaooogephaa.PA
open Go.RowKit Go.Proofs.YtpjmiaooogephaaW.PrintWords
def inR (n lo hi : Int) : Bool := decide (lo ≤ n ∧ n ≤ hi)
theorem inR_iff {n lo hi : Int} : inR n lo hi = true ↔ lo ≤ n ∧ n ≤ hi := by simp [inR]
theorem spec_l1In_eq (n lo hi : Int) : spec_l1In.f n lo hi = some (inR n lo hi) := by
  unfold spec_l1In.f inR
  by_cases h : n ≥ lo
  · rw [if_pos h]; congr 1; simp; omega
  · rw [if_neg h]; congr 1; simp; omega
theorem impl_in_eq (n lo hi : Int) : impl_in.f n lo hi = some (inR n lo hi) := by
  unfold impl_in.f inR
  by_cases h : n ≥ lo
  · rw [if_pos h]; congr 1; simp; omega
  · rw [if_neg h]; congr 1; simp; omega
def wantP (op : Int) : Int := if op ≥ 7 then 2 else 1
def kindP (t : ITerm) (ks : List Int) (vars : Int) : Int :=
  if t.f0 = 0 ∧ (inR t.f1 (-9999) 9999 = true ∧ t.f2 = 0 ∧ t.f3 = 0) then 1
  else if t.f0 = 1 ∧ (inR t.f1 0 (vars - 1) = true ∧ t.f2 = 0 ∧ t.f3 = 0) then 1
  else if (inR t.f0 2 9 = true ∧ t.f1 = 0 ∧ inR t.f2 0 (ks.length - 1) = true ∧ inR t.f3 0 (ks.length - 1) = true) ∧ (rd ks t.f2 = wantP t.f0 ∧ rd ks t.f3 = wantP t.f0 ∧ (t.f0 = 7 → t.f3 = t.f2)) then (if t.f0 ≥ 5 then 2 else 1)
  else 0
theorem spec_l1Kind_eq (t : ITerm) (ks : List Int) (vars : Int) (hv : 0 ≤ vars ∧ vars ≤ 5) (hk : ks.length ≤ 40) (m : Nat) : spec_l1Kind.f (m + 6) t.f0 t.f1 t.f2 t.f3 ks vars = some (kindP t ks vars) := by
  have w1 : wrap64 (vars - 1) = vars - 1 := wrap_in (by omega) (by omega)
  have w2 : wrap64 ((ks.length : Int) - 1) = (ks.length : Int) - 1 := wrap_in (by omega) (by omega)
  simp only [spec_l1Kind.f, spec_l1Kind.j0, spec_l1Kind.j1, spec_l1Kind.j2, spec_l1Kind.j3, spec_l1Kind.j4, spec_l1In_eq, spec_l1One.f, Option.bind_some, w1, w2]
  unfold kindP wantP
  cases t with | mk op n a b =>
  dsimp only
  by_cases h0 : op = 0
  · subst h0
    by_cases h : inR n (-9999) 9999 = true ∧ a = 0 ∧ b = 0
    · simp [h.1, h.2.1, h.2.2]
    · have hc : ¬ ((0 : Int) = 0 ∧ (inR n (-9999) 9999 = true ∧ a = 0 ∧ b = 0)) := fun x => h x.2
      rw [if_neg hc]
      have : inR (0 : Int) 2 9 = false := by simp [inR]
      by_cases h1 : inR n (-9999) 9999 = true
      · by_cases h2 : a = 0
        · have h3 : b ≠ 0 := fun e => h ⟨h1, h2, e⟩
          simp [h1, h2, h3, this]
        · simp [h1, h2, this]
      · simp [h1, this]
  · have hc : ¬ (op = 0 ∧ (inR n (-9999) 9999 = true ∧ a = 0 ∧ b = 0)) := fun x => h0 x.1
    rw [if_neg hc, if_neg h0]
    by_cases h1 : op = 1
    · subst h1
      have h29 : inR (1 : Int) 2 9 = false := by simp [inR]
      by_cases h2 : inR n 0 (vars - 1) = true
      · by_cases h3 : a = 0
        · by_cases h4 : b = 0 <;> simp [h2, h3, h4, h29]
        · simp [h2, h3, h29]
      · simp [h2, h29]
    · have hc1 : ¬ (op = 1 ∧ (inR n 0 (vars - 1) = true ∧ a = 0 ∧ b = 0)) := fun x => h1 x.1
      rw [if_neg hc1]
      by_cases g1 : inR op 2 9 = true
      · by_cases g2 : n = 0
        · by_cases g3 : inR a 0 ((ks.length : Int) - 1) = true
          · by_cases g4 : inR b 0 ((ks.length : Int) - 1) = true
            · have ha := inR_iff.1 g3
              have hb := inR_iff.1 g4
              have ha1 : a < (ks.length : Int) := by omega
              have hb1 : b < (ks.length : Int) := by omega
              by_cases g7 : op ≥ 7
              · by_cases r1 : rd ks a = 2
                · by_cases r2 : rd ks b = 2
                  · by_cases o7 : op = 7
                    · subst o7
                      by_cases e : b = a <;> simp [h1, g1, g2, g3, g4, ha.1, hb.1, ha1, hb1, r1, r2, e]
                    · simp [h1, g1, g2, g3, g4, ha.1, hb.1, ha1, hb1, g7, r1, r2, o7]; split <;> rfl
                  · simp [h1, g1, g2, g3, g4, ha.1, hb.1, ha1, hb1, g7, r1, r2]
                · simp [h1, g1, g2, g3, g4, ha.1, hb.1, ha1, hb1, g7, r1]
              · have o7 : op ≠ 7 := by omega
                by_cases r1 : rd ks a = 1
                · by_cases r2 : rd ks b = 1
                  · simp [h1, g1, g2, g3, g4, ha.1, hb.1, ha1, hb1, g7, r1, r2, o7]; split <;> rfl
                  · simp [h1, g1, g2, g3, g4, ha.1, hb.1, ha1, hb1, g7, r1, r2]
                · simp [h1, g1, g2, g3, g4, ha.1, hb.1, ha1, hb1, g7, r1]
            · simp [h1, g1, g2, g3, g4]
          · simp [h1, g1, g2, g3]
        · simp [h1, g1, g2]
      · simp [h1, g1]
def kindsGo (vars : Int) : List ITerm → List Int → List Int
  | [], ks => ks
  | t :: ts, ks => if kindP t ks vars = 0 then [] else kindsGo vars ts (ks ++ [kindP t ks vars])
def kindsOk (l : List ITerm) (vars : Int) : Bool := inR vars 0 5 && inR l.length 1 40
def kindsP (l : List ITerm) (vars : Int) : List Int := if kindsOk l vars = true then kindsGo vars l [] else []
theorem kindsGo_length (vars : Int) : ∀ (l : List ITerm) (ks : List Int), kindsGo vars l ks = [] ∨ (kindsGo vars l ks).length = ks.length + l.length
  | [], ks => .inr (by simp [kindsGo])
  | t :: ts, ks => by
    unfold kindsGo
    split
    · exact .inl rfl
    · rcases kindsGo_length vars ts (ks ++ [kindP t ks vars]) with h | h
      · exact .inl h
      · exact .inr (by rw [h]; simp; omega)
theorem kindsP_length (l : List ITerm) (vars : Int) (h : kindsP l vars ≠ []) : (kindsP l vars).length = l.length ∧ kindsOk l vars = true := by
  unfold kindsP at h ⊢
  split
  · rename_i hk
    rw [if_pos hk] at h
    rcases kindsGo_length vars l [] with h1 | h1
    · exact absurd h1 h
    · exact ⟨by simpa using h1, hk⟩
  · rename_i hk
    rw [if_neg hk] at h
    exact absurd rfl h
theorem spec_KindsOf_ev (l : List ITerm) (vars : Int) : Ev (fun k => spec_KindsOf.f k l vars) (kindsP l vars) := by
  unfold spec_KindsOf.f
  simp only [spec_l1In_eq, Option.bind_some]
  by_cases h1 : inR vars 0 5 = true
  · by_cases h2 : inR (l.length : Int) 1 40 = true
    · have hv := inR_iff.1 h1
      have hl := inR_iff.1 h2
      refine ev_pos h1 (Ev.step (fun k => by rw [spec_KindsOf.j0]) (ev_neg (by simp [h2]) ?_))
      have hP : kindsP l vars = kindsGo vars l [] := by unfold kindsP kindsOk; simp [h1, h2]
      rw [hP]
      have key : ∀ d n : Nat, l.length - n = d → n ≤ l.length → ∀ ks : List Int, ks.length ≤ n → Ev (fun k => spec_KindsOf.l0 k l vars ks (n : Int)) (kindsGo vars (l.drop n) ks) := by
        intro d
        induction d with
        | zero =>
          intro n e1 e2 ks hks
          have : n = l.length := by omega
          subst this
          refine Ev.step (fun k => by rw [spec_KindsOf.l0]) (ev_neg (by omega) ?_)
          rw [List.drop_length]
          exact ev_ret _
        | succ d ih =>
          intro n e1 e2 ks hks
          have hn : n < l.length := by omega
          have hx := List.getElem?_eq_getElem hn
          refine Ev.step (fun k => by rw [spec_KindsOf.l0]) (ev_pos (by omega) (ev_pos (by omega) ?_))
          have hr : rd_ITerm l (n : Int) = l[n] := getD_of hx
          rw [hr]
          have hK : Ev (fun k => spec_l1Kind.f k l[n].f0 l[n].f1 l[n].f2 l[n].f3 ks vars) (kindP l[n] ks vars) :=
            ⟨6, fun k hk => by obtain ⟨m, rfl⟩ : ∃ m, k = m + 6 := ⟨k - 6, by omega⟩; exact spec_l1Kind_eq _ _ _ hv (by omega) m⟩
          refine ev_bind hK ?_
          rw [List.drop_eq_getElem_cons hn]
          unfold kindsGo
          refine ev_ite_eq (fun h => ev_ret _) (fun h => ev_pos (by omega) ?_)
          rw [wrap_nat hn (by omega)]
          exact ih (n + 1) (by omega) (by omega) _ (by simp; omega)
      have := key l.length 0 (by omega) (by omega) [] (by simp)
      simpa using this
    · refine ev_pos h1 (Ev.step (fun k => by rw [spec_KindsOf.j0]) (ev_pos (by simpa using h2) ?_))
      have hP : kindsP l vars = [] := by unfold kindsP kindsOk; simp [h2]
      rw [hP]
      exact ev_ret _
  · refine ev_neg h1 (Ev.step (fun k => by rw [spec_KindsOf.j0]) (ev_pos rfl ?_))
    have hP : kindsP l vars = [] := by unfold kindsP kindsOk; simp [h1]
    rw [hP]
    exact ev_ret _
def partsP (op : Int) : Int × Int × Int :=
  if op = 2 ∨ op = 3 ∨ op = 4 then (2, 1, 1) else if op = 5 ∨ op = 6 then (2, 1, 2) else if op = 7 then (1, 2, 2) else if op = 8 ∨ op = 9 then (2, 2, 2) else (0, 0, 1)
theorem impl_parts_eq (op : Int) (m : Nat) : impl_parts.f (m + 3) op = some (partsP op) := by
  simp only [impl_parts.f, impl_parts.j0, impl_parts.j1, impl_parts.j2]
  unfold partsP
  by_cases h2 : op = 2
  · subst h2; simp
  by_cases h3 : op = 3
  · subst h3; simp
  by_cases h4 : op = 4
  · subst h4; simp
  by_cases h5 : op = 5
  · subst h5; simp
  by_cases h6 : op = 6
  · subst h6; simp
  by_cases h7 : op = 7
  · subst h7; simp
  by_cases h8 : op = 8
  · subst h8; simp
  by_cases h9 : op = 9
  · subst h9; simp
  simp [h2, h3, h4, h5, h6, h7, h8, h9]
theorem impl_parts_ev (op : Int) : Ev (fun k => impl_parts.f k op) (partsP op) := ⟨3, fun k hk => by obtain ⟨m, rfl⟩ : ∃ m, k = m + 3 := ⟨k - 3, by omega⟩; exact impl_parts_eq op m⟩
theorem partsP_low (op : Int) (h : op = 0 ∨ op = 1) : (partsP op).2.2 = 1 := by
  rcases h with rfl | rfl <;> simp [partsP]
theorem partsP_high (op : Int) (h : inR op 2 9 = true) : (partsP op).2.1 = wantP op ∧ (partsP op).2.2 = (if op ≥ 5 then 2 else 1) ∧ ((partsP op).1 = 2 ↔ op ≠ 7) := by
  have := inR_iff.1 h
  obtain ⟨a, b⟩ := this
  have : op = 2 ∨ op = 3 ∨ op = 4 ∨ op = 5 ∨ op = 6 ∨ op = 7 ∨ op = 8 ∨ op = 9 := by omega
  rcases this with rfl | rfl | rfl | rfl | rfl | rfl | rfl | rfl <;> simp [partsP, wantP]
end Go.Proofs.Ytpjmiaooogephaa.PA
end
section
set_option linter.unusedVariables false
set_option linter.unusedSimpArgs false
namespace Go.Proofs.Ytpjmiaooogephaa.PA
open Go.RowKit Go.Proofs.YtpjmiaooogephaaW.PrintWords
theorem mix_in {u v p d : Int} (hu : 0 ≤ u ∧ u < 256) (hv : 0 ≤ v ∧ v < 256) (hp : 0 ≤ p ∧ p ≤ 1000000000000) (hd : 0 ≤ d ∧ d ≤ p) :
    wrap64 (wrap64 (wrap64 (wrap64 (wrap64 u * 131) + wrap64 (wrap64 v * 1117)) + wrap64 (p * 29)) + wrap64 (wrap64 d * 53)) = u * 131 + v * 1117 + p * 29 + d * 53 := by
  rw [wrap_in (x := u) (by omega) (by omega), wrap_in (x := v) (by omega) (by omega), wrap_in (x := d) (by omega) (by omega), wrap_in (x := u * 131) (by omega) (by omega), wrap_in (x := v * 1117) (by omega) (by omega), wrap_in (x := p * 29) (by omega) (by omega),
    wrap_in (x := d * 53) (by omega) (by omega), wrap_in (x := u * 131 + v * 1117) (by omega) (by omega), wrap_in (x := u * 131 + v * 1117 + p * 29) (by omega) (by omega), wrap_in (by omega) (by omega)]
def PickQ (p n : Int) (r : Int × Int) : Prop := r.1 = p + 1 ∧ 0 ≤ r.2 ∧ (1 ≤ n → r.2 < n) ∧ (n < 1 → r.2 = 0)
theorem pick_tot {b : List Int} (hb : ByteL b) {p : Int} (h0 : 0 ≤ p) (h1 : p ≤ 1000000000000) (n : Int) : Tot (fun k => spec_l40Rd_pick.f k b p n) (PickQ p n) := by
  unfold spec_l40Rd_pick.f
  have w1 : wrap64 (p + 1) = p + 1 := wrap_in (by omega) (by omega)
  have w2 : wrap64 (p + 1 - 1) = p := by rw [wrap_in (by omega) (by omega)]; omega
  simp only [w1, w2]
  refine tot_ite (fun h => tot_ret ⟨rfl, Int.le_refl _, fun _ => by omega, fun _ => rfl⟩) fun h => tot_ite (fun h2 => tot_ret ⟨rfl, Int.le_refl _, fun _ => by show (0 : Int) < n; omega, fun _ => rfl⟩) fun h2 => tot_ite (fun h3 => ?_) fun h3 => ?_
  · refine tot_pos h0 (tot_pos h3 (tot_pos (by omega) (tot_ret ?_)))
    have hr := byte_at hb h0 h3
    rw [wrap_in (x := rd b p) (by omega) (by omega)]
    have := tmod_in (x := rd b p) (n := n) hr.1 (by omega)
    exact ⟨rfl, this.1, fun _ => this.2, fun h => by omega⟩
  · have w3 : wrap64 (wrap64 (p * 7) + 3) = p * 7 + 3 := by rw [wrap_in (x := p * 7) (by omega) (by omega), wrap_in (by omega) (by omega)]
    simp only [w3]
    have m1 := tmod_in (x := p) (n := (b.length : Int)) h0 (by omega)
    have m2 := tmod_in (x := p * 7 + 3) (n := (b.length : Int)) (by omega) (by omega)
    refine tot_pos h2 (tot_pos m1.1 (tot_pos m1.2 (tot_pos h2 (tot_pos m2.1 (tot_pos m2.2 (tot_pos h2 (tot_pos (by omega) (tot_ret ?_))))))))
    have d1 : 0 ≤ Int.tdiv p (b.length : Int) := Int.tdiv_nonneg h0 (by omega)
    have d2 : Int.tdiv p (b.length : Int) ≤ p := by rw [Int.tdiv_eq_ediv_of_nonneg h0]; exact Int.ediv_le_self _ h0
    have r1 := byte_at hb m1.1 m1.2
    have r2 := byte_at hb m2.1 m2.2
    rw [mix_in r1 r2 ⟨h0, h1⟩ ⟨d1, d2⟩]
    generalize hX : rd b (Int.tmod p (b.length : Int)) * 131 + rd b (Int.tmod (p * 7 + 3) (b.length : Int)) * 1117 + p * 29 + Int.tdiv p (b.length : Int) * 53 = X
    have x0 : 0 ≤ X ∧ X ≤ 1000000000000000 := by omega
    have e1 : 0 ≤ Int.tdiv X 64 := Int.tdiv_nonneg x0.1 (by omega)
    have e2 : Int.tdiv X 64 ≤ X := by rw [Int.tdiv_eq_ediv_of_nonneg x0.1]; exact Int.ediv_le_self _ x0.1
    rw [wrap_in (x := Int.tdiv X 64) (by omega) (by omega)]
    obtain ⟨m, hm, _⟩ := xor_nat X (Int.tdiv X 64) x0.1 e1 (by omega) (by omega)
    rw [hm]
    have := tmod_in (x := (m : Int)) (n := n) (by omega) (by omega)
    exact ⟨rfl, this.1, fun _ => this.2, fun h => by omega⟩
theorem rd_mem {l : List Int} {i : Int} (h0 : 0 ≤ i) (h1 : i < (l.length : Int)) : rd l i ∈ l := by
  have : l[i.toNat]? = some l[i.toNat] := List.getElem?_eq_getElem (by omega)
  have e : rd l i = l[i.toNat] := by
    show l.getD i.toNat _ = _
    simp [List.getD_eq_getElem?_getD, this]
  rw [e]
  exact List.getElem_mem _
theorem num_tot {b : List Int} (hb : ByteL b) {p : Int} (h0 : 0 ≤ p) (h1 : p ≤ 1000000000000) (l : List Int) (hl : l ≠ []) : Tot (fun k => spec_l40Rd_num.f k b p l) (fun r => r.1 = p + 1 ∧ r.2 ∈ l) := by
  unfold spec_l40Rd_num.f
  have hn : 0 < l.length := List.length_pos_iff.2 hl
  refine tot_bind (pick_tot hb h0 h1 _) fun r q => ?_
  obtain ⟨q1, q2, q3, _⟩ := q
  have q3 := q3 (by omega)
  exact tot_pos q2 (tot_pos q3 (tot_ret ⟨q1, rd_mem q2 q3⟩))
theorem l1Number_tot {b : List Int} (hb : ByteL b) {p : Int} (h0 : 0 ≤ p) (h1 : p ≤ 100000000000) : Tot (fun k => spec_l1Number.f k b p) (fun r => r.1 = p + 6) := by
  unfold spec_l1Number.f
  refine tot_bind (pick_tot hb h0 (by omega) _) fun r1 q1 => tot_bind (pick_tot hb (by have := q1.1; omega) (by have := q1.1; omega) _) fun r2 q2 => ?_
  have e1 := q1.1
  have e2 := q2.1
  refine tot_bind (pick_tot hb (by omega) (by omega) _) fun r3 q3 => ?_
  have e3 := q3.1
  refine tot_bind (pick_tot hb (by omega) (by omega) _) fun r4 q4 => ?_
  have e4 := q4.1
  refine tot_bind (pick_tot hb (by omega) (by omega) _) fun r5 q5 => ?_
  have e5 := q5.1
  refine tot_pos q5.2.1 (tot_pos (q5.2.2.1 (by omega)) ?_)
  refine tot_bind (num_tot hb (by omega) (by omega) _ (by simp)) fun r6 q6 => tot_ret ?_
  have := q6.1
  show r6.1 = _
  omega
theorem l1Pick_tot {b : List Int} (hb : ByteL b) {p : Int} (h0 : 0 ≤ p) (h1 : p ≤ 100000000000) (ks : List Int) (hk : ks.length ≤ 1000) (a : Int) : Tot (fun k => spec_l1Pick.f k b p ks a) (fun r => r.1 = p + 1) := by
  unfold spec_l1Pick.f
  refine tot_bind (pick_tot hb h0 (by omega) _) fun r1 q1 => ?_
  obtain ⟨e1, e2, e3, e4⟩ := q1
  have key : ∀ d n : Nat, ks.length - n = d → n ≤ ks.length → Tot (fun k => spec_l1Pick.l1 k (n : Int) b ks a r1) (fun r => r.1 = p + 1) := by
    intro d
    induction d with
    | zero =>
      intro n g1 g2
      refine tot_step (fun k => by rw [spec_l1Pick.l1]) ?_
      exact tot_neg (by omega) (tot_ret e1)
    | succ d ih =>
      intro n g1 g2
      have e3 := e3 (by omega)
      refine tot_step (fun k => by rw [spec_l1Pick.l1]) (tot_pos (by omega) (tot_pos (by omega) ?_))
      have m := tmod_in (x := wrap64 (r1.2 + (n : Int))) (n := (ks.length : Int)) (by rw [wrap_in (by omega) (by omega)]; omega) (by omega)
      refine tot_pos m.1 (tot_pos m.2 (tot_ite (fun _ => tot_ret e1) fun _ => ?_))
      rw [wrap_nat (n := n) (m := ks.length) (by omega) (by omega)]
      exact ih (n + 1) (by omega) (by omega)
  exact key ks.length 0 (by omega) (by omega)
theorem kind_tot (o n a c : Int) (ks : List Int) (vars : Int) (hv : 0 ≤ vars ∧ vars ≤ 5) (hk : ks.length ≤ 40) : Tot (fun k => spec_l1Kind.f k o n a c ks vars) (fun _ => True) :=
  ⟨_, ⟨6, fun k hk' => by obtain ⟨m, rfl⟩ : ∃ m, k = m + 6 := ⟨k - 6, by omega⟩; exact spec_l1Kind_eq ⟨o, n, a, c⟩ _ _ hv hk m⟩, trivial⟩
section
variable {b : List Int} (hb : ByteL b) {vars kind : Int} (hv : 0 ≤ vars ∧ vars ≤ 5)
def TermsQ (p : Int) (n m : Nat) (r : Int × List ITerm) : Prop := p ≤ r.1 ∧ r.1 ≤ p + 20 * n + 10 ∧ 0 < r.2.length ∧ r.2.length ≤ m
include hb in
theorem j10_tot {p : Int} (h0 : 0 ≤ p) (h1 : p ≤ 10000000000) (x9 : List ITerm) (x10 : List Int) (he : x9.length = x10.length) (hn : 0 < x9.length) (hl : x9.length ≤ 30) :
    Tot (fun k => spec_l1Terms.j10 k x9 x10 b kind p) (fun r => p ≤ r.1 ∧ r.1 ≤ p + 10 ∧ 0 < r.2.length ∧ r.2.length ≤ x9.length + 1) := by
  refine tot_step (fun k => by rw [spec_l1Terms.j10]) ?_
  have w : wrap64 ((x9.length : Int) - 1) = (x9.length : Int) - 1 := wrap_in (by omega) (by omega)
  simp only [w]
  have sm : Tot (fun _ => some (p, x9)) (fun r : Int × List ITerm => p ≤ r.1 ∧ r.1 ≤ p + 10 ∧ 0 < r.2.length ∧ r.2.length ≤ x9.length + 1) := tot_ret ⟨Int.le_refl _, by show p ≤ _; omega, hn, by show x9.length ≤ _; omega⟩
  have n2 : Tot (fun k => (spec_l1Pick.f k b p x10 1).bind fun r16 => (spec_l40Rd_num.f k b r16.1 [2, 3]).bind fun r17 => (spec_l1Pick.f k b r17.1 x10 1).bind fun r18 => if x9.length + 1 ≤ 1099511627776 then (some (r18.1, (x9 ++ [(⟨r17.2, 0, r16.2, r18.2⟩ : ITerm)]))) else none)
      (fun r : Int × List ITerm => p ≤ r.1 ∧ r.1 ≤ p + 10 ∧ 0 < r.2.length ∧ r.2.length ≤ x9.length + 1) := by
    refine tot_bind (l1Pick_tot hb h0 (by omega) _ (by omega) _) fun r1 q1 => tot_bind (num_tot hb (by omega) (by omega) _ (by simp)) fun r2 q2 => tot_bind (l1Pick_tot hb (by omega) (by omega) _ (by omega) _) fun r3 q3 => tot_pos (by omega) (tot_ret ?_)
    refine ⟨by show p ≤ r3.1; omega, by show r3.1 ≤ _; omega, by simp, by simp⟩
  have n1 : Tot (fun k => if kind = 1 then (if 0 ≤ (x9.length : Int) - 1 then (if (x9.length : Int) - 1 < (x10.length : Int) then (if rd x10 ((x9.length : Int) - 1) ≠ kind then ((spec_l1Pick.f k b p x10 1).bind fun r16 => (spec_l40Rd_num.f k b r16.1 [2, 3]).bind fun r17 => (spec_l1Pick.f k b r17.1 x10 1).bind fun r18 => if x9.length + 1 ≤ 1099511627776 then (some (r18.1, (x9 ++ [(⟨r17.2, 0, r16.2, r18.2⟩ : ITerm)]))) else none) else (some (p, x9))) else none) else none) else (some (p, x9)))
      (fun r : Int × List ITerm => p ≤ r.1 ∧ r.1 ≤ p + 10 ∧ 0 < r.2.length ∧ r.2.length ≤ x9.length + 1) := tot_ite (fun _ => tot_pos (by omega) (tot_pos (by omega) (tot_ite (fun _ => n2) fun _ => sm))) fun _ => sm
  refine tot_ite (fun _ => tot_pos (by omega) (tot_pos (by omega) (tot_ite (fun _ => ?_) fun _ => n1))) fun _ => n1
  refine tot_bind (num_tot hb h0 (by omega) _ (by simp)) fun r1 q1 => tot_bind (l1Pick_tot hb (by omega) (by omega) _ (by omega) _) fun r2 q2 => tot_pos (by omega) (tot_ret ?_)
  refine ⟨by show p ≤ r2.1; omega, by show r2.1 ≤ _; omega, by simp, by simp⟩
include hb hv in
theorem l1TermsL_tot : ∀ (n : Nat) (p : Int) (x9 : List ITerm) (x10 : List Int), 0 ≤ p → p + 20 * n ≤ 1000000000 → x9.length = x10.length → x9.length + n ≤ 25 → Tot (fun k => spec_l1Terms.l1 k p x9 x10 (n : Int) b vars kind) (TermsQ p n (x9.length + n + 2))
  | 0, p, x9, x10, h0, h1, he, hl => by
    refine tot_step (fun k => by rw [spec_l1Terms.l1]) ?_
    refine tot_neg (by omega) (tot_ite (fun h => tot_pos (by omega) (tot_pos (by omega) ?_)) fun h => ?_)
    · refine tot_mono (j10_tot hb h0 (by omega) _ _ (by simp; omega) (by simp) (by simp; omega)) fun r q => ?_
      simp only [List.length_append, List.length_cons, List.length_nil] at q
      exact ⟨q.1, by omega, q.2.2.1, by omega⟩
    · refine tot_mono (j10_tot hb h0 (by omega) _ _ he (by omega) (by omega)) fun r q => ?_
      exact ⟨q.1, by omega, q.2.2.1, by omega⟩
  | n + 1, p, x9, x10, h0, h1, he, hl => by
    have ih := l1TermsL_tot n
    have w : wrap64 (((n + 1 : Nat) : Int) - 1) = (n : Int) := by rw [wrap_in (by omega) (by omega)]; omega
    have j2 : ∀ p' o nn a c, p ≤ p' → p' ≤ p + 20 → Tot (fun k => spec_l1Terms.j2 k p' o nn a c b vars kind x9 x10 ((n + 1 : Nat) : Int)) (TermsQ p (n + 1) (x9.length + (n + 1) + 2)) := fun p' o nn a c g1 g2 => by
      refine tot_step (fun k => by rw [spec_l1Terms.j2]) (tot_bind (kind_tot o nn a c x10 vars hv (by omega)) fun r3 _ => ?_)
      rw [w]
      refine tot_ite (fun _ => tot_pos (by omega) (tot_pos (by omega) ?_)) fun _ => ?_
      · refine tot_mono (ih p' _ _ (by omega) (by omega) (by simp; omega) (by simp; omega)) fun r q => ?_
        obtain ⟨q1, q2, q3, q4⟩ := q
        simp only [List.length_append, List.length_cons, List.length_nil] at q4
        exact ⟨by omega, by omega, q3, by omega⟩
      · refine tot_mono (ih p' _ _ (by omega) (by omega) he (by omega)) fun r q => ?_
        obtain ⟨q1, q2, q3, q4⟩ := q
        exact ⟨by omega, by omega, q3, by omega⟩
    have j3 : ∀ p' o nn, p ≤ p' → p' ≤ p + 20 → Tot (fun k => spec_l1Terms.j3 k p' o nn b vars kind x9 x10 ((n + 1 : Nat) : Int)) (TermsQ p (n + 1) (x9.length + (n + 1) + 2)) := fun p' o nn g1 g2 => tot_step (fun k => by rw [spec_l1Terms.j3]) (j2 p' o nn 0 0 g1 g2)
    have j4 : ∀ p' o nn, p ≤ p' → p' ≤ p + 20 → Tot (fun k => spec_l1Terms.j4 k p' o nn b vars kind x9 x10 ((n + 1 : Nat) : Int)) (TermsQ p (n + 1) (x9.length + (n + 1) + 2)) := fun p' o nn g1 g2 => tot_step (fun k => by rw [spec_l1Terms.j4]) (j3 p' o nn g1 g2)
    have j5 : ∀ p' o nn a c, p ≤ p' → p' ≤ p + 20 → Tot (fun k => spec_l1Terms.j5 k p' o nn a c b vars kind x9 x10 ((n + 1 : Nat) : Int)) (TermsQ p (n + 1) (x9.length + (n + 1) + 2)) := fun p' o nn a c g1 g2 => tot_step (fun k => by rw [spec_l1Terms.j5]) (j2 p' o nn a c g1 g2)
    have j6 : ∀ p' o nn, p ≤ p' → p' ≤ p + 20 → Tot (fun k => spec_l1Terms.j6 k p' o nn b vars kind x9 x10 ((n + 1 : Nat) : Int)) (TermsQ p (n + 1) (x9.length + (n + 1) + 2)) := fun p' o nn g1 g2 => tot_step (fun k => by rw [spec_l1Terms.j6]) (j5 p' o nn 0 0 g1 g2)
    have j7 : ∀ p' o nn, p ≤ p' → p' ≤ p + 20 → Tot (fun k => spec_l1Terms.j7 k p' o nn b vars kind x9 x10 ((n + 1 : Nat) : Int)) (TermsQ p (n + 1) (x9.length + (n + 1) + 2)) := fun p' o nn g1 g2 => tot_step (fun k => by rw [spec_l1Terms.j7]) (j6 p' o nn g1 g2)
    have j8 : ∀ wt (r2 : Int × Int), r2.1 = p + 1 → Tot (fun k => spec_l1Terms.j8 k wt b vars kind x9 x10 ((n + 1 : Nat) : Int) r2) (TermsQ p (n + 1) (x9.length + (n + 1) + 2)) := fun wt r2 e => by
      refine tot_step (fun k => by rw [spec_l1Terms.j8]) (tot_bind (l1Pick_tot hb (by omega) (by omega) _ (by omega) _) fun r8 q8 => tot_bind (l1Pick_tot hb (by omega) (by omega) _ (by omega) _) fun r9 q9 => ?_)
      have j9 : ∀ c, Tot (fun k => spec_l1Terms.j9 k c b vars kind x9 x10 ((n + 1 : Nat) : Int) r2 r8 r9) (TermsQ p (n + 1) (x9.length + (n + 1) + 2)) := fun c => tot_step (fun k => by rw [spec_l1Terms.j9]) (j5 _ _ _ _ _ (by omega) (by omega))
      exact tot_bind (R := fun _ => True) (tot_fix ⟨_, rfl, trivial⟩) fun r10 _ => tot_ite (fun _ => j9 _) fun _ => j9 _
    refine tot_step (fun k => by rw [spec_l1Terms.l1]) (tot_pos (by omega) (tot_bind (num_tot hb h0 (by omega) _ (by simp)) fun r2 q2 => ?_))
    obtain ⟨e2, _⟩ := q2
    refine tot_ite (fun _ => tot_bind (l1Number_tot hb (by omega) (by omega)) fun r4 q4 => ?_) fun _ => tot_ite (fun _ => tot_bind (l1Number_tot hb (by omega) (by omega)) fun r4 q4 => ?_) fun _ => tot_ite (fun _ => j8 _ _ e2) fun _ => j8 _ _ e2
    · refine tot_ite (fun _ => tot_ite (fun _ => tot_bind (pick_tot hb (by omega) (by omega) _) fun r5 q5 => ?_) fun _ => j4 _ _ _ (by omega) (by omega)) fun _ => j3 _ _ _ (by omega) (by omega)
      have := q5.1
      exact j4 _ _ _ (by omega) (by omega)
    · refine tot_ite (fun _ => tot_ite (fun _ => tot_bind (pick_tot hb (by omega) (by omega) _) fun r5 q5 => ?_) fun _ => j7 _ _ _ (by omega) (by omega)) fun _ => j6 _ _ _ (by omega) (by omega)
      have := q5.1
      exact j7 _ _ _ (by omega) (by omega)
include hb hv in
theorem l1Terms_tot {p : Int} (h0 : 0 ≤ p) (h1 : p ≤ 100000000) (most : Int) (hm : 1 ≤ most ∧ most ≤ 12) : Tot (fun k => spec_l1Terms.f k b p vars kind most) (fun r => p ≤ r.1 ∧ r.1 ≤ p + 300 ∧ 0 < r.2.length ∧ r.2.length ≤ 20) := by
  unfold spec_l1Terms.f
  refine tot_bind (pick_tot hb h0 (by omega) _) fun r1 q1 => ?_
  obtain ⟨e1, e2, e3, e4⟩ := q1
  have e3 := e3 hm.1
  obtain ⟨n, hn⟩ : ∃ n : Nat, (n : Int) = 2 + r1.2 := ⟨(2 + r1.2).toNat, by omega⟩
  rw [wrap_in (x := 2 + r1.2) (by omega) (by omega), ← hn]
  refine tot_mono (l1TermsL_tot hb hv n r1.1 [] [] (by omega) (by omega) rfl (by simp; omega)) fun r q => ?_
  obtain ⟨q1, q2, q3, q4⟩ := q
  simp only [List.length_nil] at q4
  exact ⟨by omega, by omega, q3, by omega⟩
end
end Go.Proofs.Ytpjmiaooogephaa.PA
end
section
set_option linter.unusedVariables false
set_option linter.unusedSimpArgs false
namespace Go.Proofs.Ytpjmiaooogephaa.PA
open Go.RowKit Go.Proofs.YtpjmiaooogephaaW.PrintWords
theorem kindsGo_step {vars : Int} {t : ITerm} {ts : List ITerm} {ks : List Int} {r : Int} (h : kindP t ks vars = r) (hr : r ≠ 0) : kindsGo vars (t :: ts) ks = kindsGo vars ts (ks ++ [r]) := by
  rw [kindsGo, h, if_neg hr]
theorem kindsGo_none {vars : Int} {t : ITerm} {ts : List ITerm} {ks : List Int} (h : kindP t ks vars = 0) : kindsGo vars (t :: ts) ks = [] := by
  rw [kindsGo, if_pos h]
theorem impl_kindsOf_ev (l : List ITerm) (vars : Int) : Ev (fun k => impl_kindsOf.f k l vars) (kindsP l vars) := by
  unfold impl_kindsOf.f
  simp only [impl_in_eq, Option.bind_some]
  by_cases h1 : inR vars 0 5 = true
  · by_cases h2 : inR (l.length : Int) 1 40 = true
    · have hv := inR_iff.1 h1
      have hl := inR_iff.1 h2
      refine ev_pos h1 (Ev.step (fun k => by rw [impl_kindsOf.j0]) (ev_neg (by simp [h2]) (ev_pos (by omega) (ev_pos (by omega) ?_))))
      have hP : kindsP l vars = kindsGo vars l [] := by unfold kindsP kindsOk; simp [h1, h2]
      rw [hP]
      have w1 : wrap64 (vars - 1) = vars - 1 := wrap_in (by omega) (by omega)
      have key : ∀ d n : Nat, l.length - n = d → n ≤ l.length → ∀ ks : List Int, ks.length = n → Ev (fun k => impl_kindsOf.l0 k vars ks l (l.length : Int) (n : Int)) (kindsGo vars (l.drop n) ks) := by
        intro d
        induction d with
        | zero =>
          intro n e1 e2 ks hks
          have : n = l.length := by omega
          subst this
          refine Ev.step (fun k => by rw [impl_kindsOf.l0]) (ev_neg (by omega) (ev_pos (by omega) ?_))
          rw [List.drop_length]
          exact ev_ret _
        | succ d ih =>
          intro n e1 e2 ks hks
          have hn : n < l.length := by omega
          have hx := List.getElem?_eq_getElem hn
          refine Ev.step (fun k => by rw [impl_kindsOf.l0]) (ev_pos (by omega) (ev_pos (by omega) (ev_pos (by omega) ?_)))
          have hr : rd_ITerm l (n : Int) = l[n] := getD_of hx
          rw [hr, List.drop_eq_getElem_cons hn]
          generalize l[n] = t
          have w2 : wrap64 ((n : Int) - 1) = (ks.length : Int) - 1 := by rw [hks]; exact wrap_in (by omega) (by omega)
          have J : ∀ (r : Int) (b : Bool), (b = true → kindP t ks vars = r ∧ r ≠ 0) → (b = false → kindP t ks vars = 0) → Ev (fun k => impl_kindsOf.j2 k vars ks r b l (l.length : Int) (n : Int)) (kindsGo vars (t :: l.drop (n + 1)) ks) := by
            intro r b h1 h2
            refine Ev.step (fun k => by rw [impl_kindsOf.j2]) ?_
            cases b with
            | true =>
              obtain ⟨h, hr⟩ := h1 rfl
              refine ev_pos rfl (ev_pos (by omega) ?_)
              rw [wrap_nat hn (by omega), kindsGo_step h hr]
              exact ih (n + 1) (by omega) (by omega) _ (by simp; omega)
            | false => exact ev_neg (by simp) (by rw [kindsGo_none (h2 rfl)]; exact ev_ret _)
          refine ev_bind (impl_parts_ev t.f0) ?_
          simp only [impl_in_eq, Option.bind_some, w1, w2]
          cases t with | mk op n' a b =>
          dsimp only at J ⊢
          have stop : ∀ r : Int, kindP ⟨op, n', a, b⟩ ks vars = 0 → Ev (fun k => impl_kindsOf.j2 k vars ks r false l (l.length : Int) (n : Int)) (kindsGo vars (⟨op, n', a, b⟩ :: l.drop (n + 1)) ks) := fun r h => J r false (fun e => by cases e) (fun _ => h)
          by_cases h0 : op = 0
          · refine ev_pos h0 ?_
            have hp := partsP_low op (.inl h0)
            have z : inR op 2 9 = false := by subst h0; simp [inR]
            by_cases g1 : inR n' (-9999) 9999 = true
            · by_cases g2 : a = 0
              · refine ev_pos g1 (ev_pos g2 (J _ _ (fun e => ?_) (fun e => ?_)))
                · rw [hp]
                  exact ⟨by unfold kindP; rw [if_pos ⟨h0, g1, g2, by simpa using e⟩], by decide⟩
                · have g3 : b ≠ 0 := by simpa using e
                  subst h0; simp [kindP, g3, z]
              · exact ev_pos g1 (ev_neg g2 (stop _ (by subst h0; simp [kindP, g2, z])))
            · exact ev_neg g1 (stop _ (by subst h0; simp [kindP, g1, z]))
          · refine ev_neg h0 ?_
            by_cases h1' : op = 1
            · refine ev_pos h1' ?_
              have hp := partsP_low op (.inr h1')
              have z : inR op 2 9 = false := by subst h1'; simp [inR]
              by_cases g1 : inR n' 0 (vars - 1) = true
              · by_cases g2 : a = 0
                · refine ev_pos g1 (ev_pos g2 (J _ _ (fun e => ?_) (fun e => ?_)))
                  · rw [hp]
                    exact ⟨by unfold kindP; rw [if_neg (fun x => h0 x.1), if_pos ⟨h1', g1, g2, by simpa using e⟩], by decide⟩
                  · have g3 : b ≠ 0 := by simpa using e
                    subst h1'; simp [kindP, g3, z]
                · exact ev_pos g1 (ev_neg g2 (stop _ (by subst h1'; simp [kindP, g2, z])))
              · exact ev_neg g1 (stop _ (by subst h1'; simp [kindP, g1, z]))
            · refine ev_neg h1' ?_
              have c0 : ∀ P : Prop, ¬ (op = 0 ∧ P) := fun P x => h0 x.1
              have c1 : ∀ P : Prop, ¬ (op = 1 ∧ P) := fun P x => h1' x.1
              by_cases g0 : inR op 0 9 = true
              · have g29 : inR op 2 9 = true := by have := inR_iff.1 g0; exact inR_iff.2 (by omega)
                obtain ⟨p1, p2, p3⟩ := partsP_high op g29
                refine ev_pos g0 ?_
                rw [p1]
                by_cases g1 : n' = 0
                · refine ev_pos g1 ?_
                  by_cases g2 : inR a 0 ((ks.length : Int) - 1) = true
                  · refine ev_pos g2 ?_
                    by_cases g3 : inR b 0 ((ks.length : Int) - 1) = true
                    · have ha := inR_iff.1 g2
                      have hb := inR_iff.1 g3
                      refine ev_pos g3 (ev_pos ha.1 (ev_pos (by omega) ?_))
                      by_cases g4 : rd ks a = wantP op
                      · refine ev_pos g4 (ev_pos hb.1 (ev_pos (by omega) ?_))
                        by_cases g5 : rd ks b = wantP op
                        · refine ev_pos g5 ?_
                          have hres : (op = 7 → b = a) → kindP ⟨op, n', a, b⟩ ks vars = (partsP op).2.2 := fun e => by
                            unfold kindP
                            dsimp only
                            rw [if_neg (c0 _), if_neg (c1 _), if_pos ⟨⟨g29, g1, g2, g3⟩, g4, g5, e⟩, p2]
                          have hne : (partsP op).2.2 ≠ 0 := by rw [p2]; split <;> decide
                          by_cases g6 : (partsP op).1 = 2
                          · exact ev_pos g6 (J _ _ (fun _ => ⟨hres (fun e => absurd e (p3.1 g6)), hne⟩) (fun e => by cases e))
                          · have e7 : op = 7 := by
                              by_cases e : op = 7
                              · exact e
                              · exact absurd (p3.2 e) g6
                            refine ev_neg g6 (J _ _ (fun e => ⟨hres (fun _ => (beq_iff_eq.1 e).symm), hne⟩) (fun e => ?_))
                            have g7 : a ≠ b := beq_eq_false_iff_ne.1 e
                            unfold kindP
                            dsimp only
                            rw [if_neg (c0 _), if_neg (c1 _), if_neg (fun x => g7 (x.2.2.2 e7).symm)]
                        · refine ev_neg g5 (stop _ ?_)
                          unfold kindP
                          dsimp only
                          rw [if_neg (c0 _), if_neg (c1 _), if_neg (fun x => g5 x.2.2.1)]
                      · refine ev_neg g4 (stop _ ?_)
                        unfold kindP
                        dsimp only
                        rw [if_neg (c0 _), if_neg (c1 _), if_neg (fun x => g4 x.2.1)]
                    · refine ev_neg g3 (stop _ ?_)
                      unfold kindP
                      dsimp only
                      rw [if_neg (c0 _), if_neg (c1 _), if_neg (fun x => g3 x.1.2.2.2)]
                  · refine ev_neg g2 (stop _ ?_)
                    unfold kindP
                    dsimp only
                    rw [if_neg (c0 _), if_neg (c1 _), if_neg (fun x => g2 x.1.2.2.1)]
                · refine ev_neg g1 (stop _ ?_)
                  unfold kindP
                  dsimp only
                  rw [if_neg (c0 _), if_neg (c1 _), if_neg (fun x => g1 x.1.2.1)]
              · have gf : inR op 0 9 = false := by simpa using g0
                refine ev_neg g0 ?_
                rw [gf]
                refine stop _ ?_
                unfold kindP
                dsimp only
                rw [if_neg (c0 _), if_neg (c1 _), if_neg (fun x => g0 (by have := inR_iff.1 x.1.1; exact inR_iff.2 (by omega)))]
      have := key l.length 0 (by omega) (by omega) [] (by simp)
      simpa using this
    · refine ev_pos h1 (Ev.step (fun k => by rw [impl_kindsOf.j0]) (ev_pos (by simpa using h2) ?_))
      have hP : kindsP l vars = [] := by unfold kindsP kindsOk; simp [h2]
      rw [hP]
      exact ev_ret _
  · refine ev_neg h1 (Ev.step (fun k => by rw [impl_kindsOf.j0]) (ev_pos rfl ?_))
    have hP : kindsP l vars = [] := by unfold kindsP kindsOk; simp [h1]
    rw [hP]
    exact ev_ret _
def kindOfP (l : List ITerm) (vars : Int) : Int := if kindsP l vars = [] then 0 else rd (kindsP l vars) (((kindsP l vars).length : Int) - 1)
theorem kindsP_le (l : List ITerm) (vars : Int) : (kindsP l vars).length ≤ 40 := by
  by_cases h : kindsP l vars = []
  · rw [h]; simp
  · obtain ⟨h1, h2⟩ := kindsP_length l vars h
    unfold kindsOk at h2
    have := inR_iff.1 (Bool.and_eq_true_iff.1 h2).2
    omega
theorem impl_kindOf_ev (l : List ITerm) (vars : Int) : Ev (fun k => impl_kindOf.f k l vars) (kindOfP l vars) := by
  unfold impl_kindOf.f kindOfP
  refine ev_bind (impl_kindsOf_ev l vars) ?_
  have hle := kindsP_le l vars
  refine ev_ite_eq (fun h => ev_ret _) (fun h => ?_)
  have hp : 0 < (kindsP l vars).length := List.length_pos_iff.2 h
  have w : wrap64 (((kindsP l vars).length : Int) - 1) = ((kindsP l vars).length : Int) - 1 := wrap_in (by omega) (by omega)
  rw [w]
  exact ev_pos (by omega) (ev_pos (by omega) (ev_ret _))
theorem spec_l2Is_ev (l : List ITerm) (vars kind : Int) (hk : kind ≠ 0) : Ev (fun k => spec_l2Is.f k l vars kind) (kindOfP l vars == kind) := by
  unfold spec_l2Is.f
  refine ev_bind (spec_KindsOf_ev l vars) ?_
  have hle := kindsP_le l vars
  by_cases h : kindsP l vars = []
  · have e : kindOfP l vars = 0 := by unfold kindOfP; rw [if_pos h]
    rw [e, show ((0 : Int) == kind) = false from by simpa using (Ne.symm hk)]
    exact ev_neg (by rw [h]; simp) (ev_ret _)
  · have e : kindOfP l vars = rd (kindsP l vars) (((kindsP l vars).length : Int) - 1) := by unfold kindOfP; rw [if_neg h]
    have hp : 0 < (kindsP l vars).length := List.length_pos_iff.2 h
    have w : wrap64 (((kindsP l vars).length : Int) - 1) = ((kindsP l vars).length : Int) - 1 := wrap_in (by omega) (by omega)
    rw [w, e]
    exact ev_pos (by omega) (ev_pos (by omega) (ev_pos (by omega) (ev_ret _)))
def varP (v : IVar) : Bool := inR v.f0 (-9999) 9999 && (inR v.f1 v.f0 9999 && (decide (v.f1 - v.f0 < 20) && inR v.f2 v.f0 v.f1))
theorem span_wrap {v : IVar} (h0 : inR v.f0 (-9999) 9999 = true) (h1 : inR v.f1 v.f0 9999 = true) : wrap64 (v.f1 - v.f0) = v.f1 - v.f0 := by
  have := inR_iff.1 h0; have := inR_iff.1 h1
  exact wrap_in (by omega) (by omega)
theorem spec_l2Var_eq (v : IVar) : spec_l2Var.f v.f0 v.f1 v.f2 = some (varP v) := by
  unfold spec_l2Var.f varP
  simp only [spec_l1In_eq, Option.bind_some]
  by_cases h0 : inR v.f0 (-9999) 9999 = true
  · by_cases h1 : inR v.f1 v.f0 9999 = true
    · rw [span_wrap h0 h1]
      by_cases h2 : v.f1 - v.f0 < 20 <;> simp [h0, h1, h2]
    · simp [h0, h1]
  · simp [h0]
theorem impl_varOk_eq (v : IVar) : impl_varOk.f v.f0 v.f1 v.f2 = some (varP v) := by
  unfold impl_varOk.f varP
  simp only [impl_in_eq, Option.bind_some]
  by_cases h0 : inR v.f0 (-9999) 9999 = true
  · by_cases h1 : inR v.f1 v.f0 9999 = true
    · rw [span_wrap h0 h1]
      by_cases h2 : v.f1 - v.f0 < 20 <;> simp [h0, h1, h2]
    · simp [h0, h1]
  · simp [h0]
theorem varP_span {v : IVar} (h : varP v = true) : -9999 ≤ v.f0 ∧ v.f0 ≤ v.f2 ∧ v.f2 ≤ v.f1 ∧ v.f1 ≤ 9999 ∧ v.f1 - v.f0 < 20 := by
  unfold varP at h
  simp only [Bool.and_eq_true, inR_iff, decide_eq_true_eq] at h
  omega
def setsGo (vars : Int) (sets : List Int) (terms : List (List ITerm)) (n : Nat) : List Int → Bool
  | [] => true
  | x :: r => inR x 0 (vars - 1) && (!(decide (0 < n) && decide (x ≤ sets.getD (n - 1) 0)) && (kindOfP (terms.getD n []) vars == 1 && setsGo vars sets terms (n + 1) r))
def ruleP (r : IRule) (vars : Int) : Bool := kindOfP r.f0 vars == 2 && (decide (r.f1.length = r.f2.length) && setsGo vars r.f1 r.f2 0 r.f1)
theorem setsGo_bound {vars : Int} {sets : List Int} {terms : List (List ITerm)} : ∀ (r : List Int) (n : Nat), sets.drop n = r → setsGo vars sets terms n r = true →
    ∀ i, n ≤ i → i < sets.length → inR (sets.getD i 0) 0 (vars - 1) = true ∧ (0 < i → sets.getD (i - 1) 0 < sets.getD i 0) ∧ kindOfP (terms.getD i []) vars = 1
  | [], n, h, _, i, h1, h2 => by
    have := congrArg List.length h
    simp at this
    omega
  | x :: r, n, h, hs, i, h1, h2 => by
    unfold setsGo at hs
    simp only [Bool.and_eq_true, Bool.not_eq_true', Bool.and_eq_false_iff, decide_eq_false_iff_not, beq_iff_eq] at hs
    obtain ⟨a, b, c, d⟩ := hs
    have hn : n < sets.length := by omega
    have hx : sets.getD n 0 = x := by
      rw [List.drop_eq_getElem_cons hn] at h
      injection h with h3 h4
      rw [List.getD_eq_getElem?_getD, List.getElem?_eq_getElem hn]
      exact h3
    have hr : sets.drop (n + 1) = r := by
      rw [List.drop_eq_getElem_cons hn] at h
      injection h
    by_cases e : i = n
    · subst e
      rw [hx]
      exact ⟨a, fun hp => by rcases b with b | b <;> omega, c⟩
    · exact setsGo_bound r (n + 1) hr d i (by omega) h2
theorem setsGo_len {vars : Int} {sets : List Int} {terms : List (List ITerm)} (h : setsGo vars sets terms 0 sets = true) (hv : 0 ≤ vars) : (sets.length : Int) ≤ vars := by
  have hb := setsGo_bound sets 0 rfl h
  have up : ∀ i : Nat, i < sets.length → (i : Int) ≤ sets.getD i 0 := by
    intro i
    induction i with
    | zero => intro hi; exact (inR_iff.1 (hb 0 (by omega) hi).1).1
    | succ i ih =>
      intro hi
      have h1 := (hb (i + 1) (by omega) hi).2.1 (by omega)
      have h2 := ih (by omega)
      simp only [Nat.add_sub_cancel] at h1
      omega
  by_cases e : sets.length = 0
  · omega
  · have h1 := up (sets.length - 1) (by omega)
    have h2 := (inR_iff.1 (hb (sets.length - 1) (by omega) (by omega)).1).2
    omega
theorem spec_l2Rule_ev (r : IRule) (vars : Int) (hv : 0 ≤ vars ∧ vars ≤ 5) : Ev (fun k => spec_l2Rule.f k r.f0 r.f1 r.f2 vars) (ruleP r vars) := by
  unfold spec_l2Rule.f ruleP
  refine ev_bind (spec_l2Is_ev r.f0 vars 2 (by decide)) ?_
  by_cases h0 : (kindOfP r.f0 vars == 2) = true
  · rw [h0]
    refine ev_pos rfl ?_
    by_cases h1 : r.f1.length = r.f2.length
    · refine ev_pos (by omega) (Ev.step (fun k => by rw [spec_l2Rule.j0]) ?_)
      by_cases h2 : (r.f1.length : Int) > vars
      · refine ev_pos (by simpa using h2) (ev_eq (ev_ret _) ?_)
        cases hs : setsGo vars r.f1 r.f2 0 r.f1 with
        | true => have := setsGo_len hs hv.1; omega
        | false => simp
      · refine ev_neg (by simpa using h2) ?_
        rw [show (decide (r.f1.length = r.f2.length) && setsGo vars r.f1 r.f2 0 r.f1) = setsGo vars r.f1 r.f2 0 r.f1 from by simp [h1]]
        simp only [Bool.true_and]
        have key : ∀ d n : Nat, r.f1.length - n = d → n ≤ r.f1.length → Ev (fun k => spec_l2Rule.l0 k vars (n : Int) r.f0 r.f1 r.f2) (setsGo vars r.f1 r.f2 n (r.f1.drop n)) := by
          intro d
          induction d with
          | zero =>
            intro n e1 e2
            have : n = r.f1.length := by omega
            subst this
            rw [List.drop_length]
            refine Ev.step (fun k => by rw [spec_l2Rule.l0]) ?_
            exact ev_neg (by omega) (ev_ret _)
          | succ d ih =>
            intro n e1 e2
            have hn : n < r.f1.length := by omega
            have hx := List.getElem?_eq_getElem hn
            have hrd : rd r.f1 (n : Int) = r.f1[n] := getD_of hx
            rw [List.drop_eq_getElem_cons hn]
            unfold setsGo
            refine Ev.step (fun k => by rw [spec_l2Rule.l0]) (ev_pos (by omega) (ev_pos (by omega) ?_))
            have w1 : wrap64 (vars - 1) = vars - 1 := wrap_in (by omega) (by omega)
            simp only [spec_l1In_eq, Option.bind_some, w1, hrd]
            generalize hX : r.f1[n] = x
            have J : ∀ b : Bool, Ev (fun k => spec_l2Rule.j2 k vars (n : Int) b r.f0 r.f1 r.f2) (!b && setsGo vars r.f1 r.f2 (n + 1) (r.f1.drop (n + 1))) := by
              intro b
              refine Ev.step (fun k => by rw [spec_l2Rule.j2]) ?_
              cases b with
              | true => exact ev_pos rfl (ev_eq (ev_ret _) (by simp))
              | false =>
                refine ev_neg (by simp) ?_
                rw [wrap_nat hn (by omega)]
                exact ev_eq (ih (n + 1) (by omega) (by omega)) (by simp)
            have htail : Ev (fun k => if (n : Int) < (r.f2.length : Int) then (spec_l2Is.f k (rd_LITerm r.f2 n) vars 1).bind fun t => spec_l2Rule.j2 k vars (n : Int) (!t) r.f0 r.f1 r.f2 else none)
                (kindOfP (r.f2.getD n []) vars == 1 && setsGo vars r.f1 r.f2 (n + 1) (r.f1.drop (n + 1))) := by
              refine ev_pos (by omega) (ev_bind (spec_l2Is_ev _ vars 1 (by decide)) ?_)
              rw [show rd_LITerm r.f2 (n : Int) = r.f2.getD n [] from rfl]
              exact ev_eq (J _) (by rw [Bool.not_not])
            by_cases g0 : inR x 0 (vars - 1) = true
            · refine ev_pos g0 ?_
              by_cases g1 : 0 < n
              · have w2 : wrap64 ((n : Int) - 1) = ((n - 1 : Nat) : Int) := by rw [wrap_in (by omega) (by omega)]; omega
                refine ev_pos (by omega) ?_
                rw [w2]
                refine ev_pos (by omega) (ev_pos (by omega) ?_)
                rw [show rd r.f1 ((n - 1 : Nat) : Int) = r.f1.getD (n - 1) 0 from rfl]
                generalize r.f1.getD (n - 1) 0 = y
                by_cases g2 : x ≤ y
                · exact ev_pos g2 (ev_eq (J true) (by simp [g0, g1, g2]))
                · exact ev_neg g2 (ev_eq htail (by simp [g0, g1, g2]))
              · exact ev_neg (by omega) (ev_eq htail (by simp [g0, g1]))
            · exact ev_neg g0 (ev_eq (J true) (by simp [g0]))
        have := key r.f1.length 0 (by omega) (by omega)
        simpa using this
    · refine ev_neg (by omega) (Ev.step (fun k => by rw [spec_l2Rule.j0]) ?_)
      exact ev_pos rfl (ev_eq (ev_ret _) (by simp [h1]))
  · rw [show (kindOfP r.f0 vars == 2) = false from by simpa using h0]
    refine ev_neg (by simp) (Ev.step (fun k => by rw [spec_l2Rule.j0]) ?_)
    exact ev_pos rfl (ev_eq (ev_ret _) (by simp))
theorem impl_ruleOk_ev (r : IRule) (vars : Int) (hv : 0 ≤ vars ∧ vars ≤ 5) (hl : r.f1.length ≤ 9223372036854775807) : Ev (fun k => impl_ruleOk.f k r.f0 r.f1 r.f2 vars) (ruleP r vars) := by
  unfold impl_ruleOk.f ruleP
  refine ev_bind (impl_kindOf_ev r.f0 vars) ?_
  by_cases h0 : kindOfP r.f0 vars = 2
  · refine ev_pos h0 ?_
    rw [show (kindOfP r.f0 vars == 2) = true from by simpa using h0]
    by_cases h1 : r.f1.length = r.f2.length
    · refine Ev.step (fun k => by rw [impl_ruleOk.j0]) (ev_neg (by simp [h1]) ?_)
      rw [show (decide (r.f1.length = r.f2.length) && setsGo vars r.f1 r.f2 0 r.f1) = setsGo vars r.f1 r.f2 0 r.f1 from by simp [h1]]
      simp only [Bool.true_and]
      have w1 : wrap64 (vars - 1) = vars - 1 := wrap_in (by omega) (by omega)
      have key : ∀ d n : Nat, r.f1.length - n = d → n ≤ r.f1.length → Ev (fun k => impl_ruleOk.l0 k vars r.f1 (r.f1.length : Int) (n : Int) r.f0 r.f1 r.f2) (setsGo vars r.f1 r.f2 n (r.f1.drop n)) := by
        intro d
        induction d with
        | zero =>
          intro n e1 e2
          have : n = r.f1.length := by omega
          subst this
          rw [List.drop_length]
          refine Ev.step (fun k => by rw [impl_ruleOk.l0]) ?_
          exact ev_neg (by omega) (ev_ret _)
        | succ d ih =>
          intro n e1 e2
          have hn : n < r.f1.length := by omega
          have hx := List.getElem?_eq_getElem hn
          have hrd : rd r.f1 (n : Int) = r.f1[n] := getD_of hx
          rw [List.drop_eq_getElem_cons hn]
          unfold setsGo
          refine Ev.step (fun k => by rw [impl_ruleOk.l0]) (ev_pos (by omega) (ev_pos (by omega) (ev_pos (by omega) ?_)))
          simp only [impl_in_eq, Option.bind_some, w1, hrd]
          generalize hX : r.f1[n] = x
          have J : ∀ b : Bool, Ev (fun k => impl_ruleOk.j2 k vars r.f1 (r.f1.length : Int) (n : Int) b r.f0 r.f1 r.f2) (!b && setsGo vars r.f1 r.f2 (n + 1) (r.f1.drop (n + 1))) := by
            intro b
            refine Ev.step (fun k => by rw [impl_ruleOk.j2]) ?_
            cases b with
            | true => exact ev_pos rfl (ev_eq (ev_ret _) (by simp))
            | false =>
              refine ev_neg (by simp) ?_
              rw [wrap_nat hn (by omega)]
              exact ev_eq (ih (n + 1) (by omega) (by omega)) (by simp)
          have htail : Ev (fun k => if (n : Int) < (r.f2.length : Int) then (impl_kindOf.f k (rd_LITerm r.f2 n) vars).bind fun t => impl_ruleOk.j2 k vars r.f1 (r.f1.length : Int) (n : Int) (t != 1) r.f0 r.f1 r.f2 else none)
              (kindOfP (r.f2.getD n []) vars == 1 && setsGo vars r.f1 r.f2 (n + 1) (r.f1.drop (n + 1))) := by
            refine ev_pos (by omega) (ev_bind (impl_kindOf_ev _ vars) ?_)
            rw [show rd_LITerm r.f2 (n : Int) = r.f2.getD n [] from rfl]
            exact ev_eq (J _) (by simp only [bne, Bool.not_not])
          by_cases g0 : inR x 0 (vars - 1) = true
          · refine ev_pos g0 ?_
            by_cases g1 : 0 < n
            · have w2 : wrap64 ((n : Int) - 1) = ((n - 1 : Nat) : Int) := by rw [wrap_in (by omega) (by omega)]; omega
              refine ev_pos (by omega) ?_
              rw [w2]
              refine ev_pos (by omega) (ev_pos (by omega) ?_)
              rw [show rd r.f1 ((n - 1 : Nat) : Int) = r.f1.getD (n - 1) 0 from rfl]
              generalize r.f1.getD (n - 1) 0 = y
              by_cases g2 : x ≤ y
              · exact ev_pos (by omega) (ev_eq (J true) (by simp [g0, g1, g2]))
              · exact ev_neg (by omega) (ev_eq htail (by simp [g0, g1, g2]))
            · exact ev_neg (by omega) (ev_eq htail (by simp [g0, g1]))
          · exact ev_neg g0 (ev_eq (J true) (by simp [g0]))
      have := key r.f1.length 0 (by omega) (by omega)
      simpa using this
    · refine Ev.step (fun k => by rw [impl_ruleOk.j0]) ?_
      exact ev_pos (by simp; omega) (ev_eq (ev_ret _) (by simp [h1]))
  · rw [show (kindOfP r.f0 vars == 2) = false from by simpa using h0]
    refine ev_neg h0 (Ev.step (fun k => by rw [impl_ruleOk.j0]) ?_)
    exact ev_pos rfl (ev_eq (ev_ret _) (by simp))
def spanP (v : IVar) : Int := v.f1 - v.f0 + 1
def sizeGo : List IVar → Int → Int
  | [], n => n
  | v :: r, n => sizeGo r (wrap64 (n * wrap64 (wrap64 (v.f1 - v.f0) + 1)))
def sizeP (vars : List IVar) : Int := sizeGo vars 1
theorem impl_size_ev (vars : List IVar) (hl : vars.length ≤ 9223372036854775807) : Ev (fun k => impl_size.f k vars) (sizeP vars) := by
  unfold impl_size.f sizeP
  have key : ∀ d n : Nat, vars.length - n = d → n ≤ vars.length → ∀ a : Int, Ev (fun k => impl_size.l0 k a vars (vars.length : Int) (n : Int)) (sizeGo (vars.drop n) a) := by
    intro d
    induction d with
    | zero =>
      intro n e1 e2 a
      have : n = vars.length := by omega
      subst this
      rw [List.drop_length]
      refine Ev.step (fun k => by rw [impl_size.l0]) ?_
      exact ev_neg (by omega) (ev_ret _)
    | succ d ih =>
      intro n e1 e2 a
      have hn : n < vars.length := by omega
      have hr : rd_IVar vars (n : Int) = vars[n] := getD_of (List.getElem?_eq_getElem hn)
      rw [List.drop_eq_getElem_cons hn]
      unfold sizeGo
      refine Ev.step (fun k => by rw [impl_size.l0]) ?_
      refine ev_pos (by omega) (ev_pos (by omega) (ev_pos (by omega) ?_))
      rw [hr, wrap_nat hn (by omega)]
      exact ih (n + 1) (by omega) (by omega) _
  have := key vars.length 0 (by omega) (by omega) 1
  simpa using this
def smallP (n : Int) : Bool := decide (n ≤ 400)
def sysP (vars : List IVar) (rules : List IRule) : Bool :=
  inR vars.length 1 5 && (decide (rules.length ≤ 8) && (vars.all varP && (rules.all (fun r => ruleP r vars.length) && smallP (sizeP vars))))
theorem spec_SystemValid_ev (vars : List IVar) (rules : List IRule) : Ev (fun k => spec_SystemValid.f k vars rules) (sysP vars rules) := by
  unfold spec_SystemValid.f sysP
  simp only [spec_l1In_eq, Option.bind_some]
  by_cases h1 : inR (vars.length : Int) 1 5 = true
  · have hv := inR_iff.1 h1
    refine ev_pos h1 (Ev.step (fun k => by rw [spec_SystemValid.j0]) ?_)
    by_cases h2 : rules.length ≤ 8
    · refine ev_neg (by simp; omega) ?_
      have rulesKey : ∀ (n0 : Int) (d n : Nat), rules.length - n = d → n ≤ rules.length → Ev (fun k => spec_SystemValid.l1 k n0 (n : Int) vars rules) ((rules.drop n).all (fun r => ruleP r vars.length) && smallP n0) := by
        intro n0 d
        induction d with
        | zero =>
          intro n e1 e2
          have : n = rules.length := by omega
          subst this
          rw [List.drop_length]
          refine Ev.step (fun k => by rw [spec_SystemValid.l1]) ?_
          exact ev_neg (by omega) (ev_eq (ev_ret _) (by simp [smallP]))
        | succ d ih =>
          intro n e1 e2
          have hn : n < rules.length := by omega
          have hr : rd_IRule rules (n : Int) = rules[n] := getD_of (List.getElem?_eq_getElem hn)
          rw [List.drop_eq_getElem_cons hn, List.all_cons]
          refine Ev.step (fun k => by rw [spec_SystemValid.l1]) ?_
          refine ev_pos (by omega) (ev_pos (by omega) ?_)
          rw [hr, wrap_nat hn (by omega)]
          refine ev_bind (spec_l2Rule_ev rules[n] (vars.length : Int) (by omega)) ?_
          cases hq : ruleP rules[n] (vars.length : Int) with
          | true => exact ev_pos rfl (ev_eq (ih (n + 1) (by omega) (by omega)) (by simp))
          | false => exact ev_neg (by simp) (ev_eq (ev_ret _) (by simp))
      have varsKey : ∀ d n : Nat, vars.length - n = d → n ≤ vars.length → ∀ a : Int, Ev (fun k => spec_SystemValid.l0 k a (n : Int) vars rules) ((vars.drop n).all varP && (rules.all (fun r => ruleP r vars.length) && smallP (sizeGo (vars.drop n) a))) := by
        intro d
        induction d with
        | zero =>
          intro n e1 e2 a
          have : n = vars.length := by omega
          subst this
          rw [List.drop_length]
          refine Ev.step (fun k => by rw [spec_SystemValid.l0]) ?_
          refine ev_neg (by omega) ?_
          have := rulesKey a rules.length 0 (by omega) (by omega)
          simpa [sizeGo] using this
        | succ d ih =>
          intro n e1 e2 a
          have hn : n < vars.length := by omega
          have hr : rd_IVar vars (n : Int) = vars[n] := getD_of (List.getElem?_eq_getElem hn)
          rw [List.drop_eq_getElem_cons hn, List.all_cons]
          refine Ev.step (fun k => by rw [spec_SystemValid.l0]) ?_
          refine ev_pos (by omega) (ev_pos (by omega) ?_)
          rw [hr, wrap_nat hn (by omega), spec_l2Var_eq]
          simp only [Option.bind_some]
          cases hq : varP vars[n] with
          | true => exact ev_pos rfl (ev_eq (ih (n + 1) (by omega) (by omega) _) (by simp [sizeGo]))
          | false => exact ev_neg (by simp) (ev_eq (ev_ret _) (by simp))
      have := varsKey vars.length 0 (by omega) (by omega) 1
      simpa [h1, h2, sizeP] using this
    · exact ev_pos (by simp; omega) (ev_eq (ev_ret _) (by simp [h2]))
  · refine ev_neg h1 (Ev.step (fun k => by rw [spec_SystemValid.j0]) ?_)
    exact ev_pos rfl (ev_eq (ev_ret _) (by simp [h1]))
theorem find_ev {α : Type} {da : α} (L : Nat → Int → Option Int) (F : Nat → α → Option Bool) (xs : List α) (p : α → Bool) (hl : xs.length ≤ 9223372036854775807)
    (hL : ∀ k i, L (k + 1) i = if i < (xs.length : Int) then (if 0 ≤ i then (if i < (xs.length : Int) then ((F k (xs.getD i.toNat da)).bind fun t => if t = true then some i else L k (wrap64 (i + 1))) else none) else none) else some (-1))
    (hF : ∀ x ∈ xs, Ev (fun k => F k x) (p x)) : Ev (fun k => (L k 0).bind fun t => some (decide (t ≥ 0))) (xs.any p) := by
  have key : ∀ d n : Nat, xs.length - n = d → n ≤ xs.length → Ev (fun k => (L k (n : Int)).bind fun t => some (decide (t ≥ 0))) ((xs.drop n).any p) := by
    intro d
    induction d with
    | zero =>
      intro n e1 e2
      have : n = xs.length := by omega
      subst this
      rw [List.drop_length]
      refine Ev.step (fun k => by rw [hL, if_neg (by omega), Option.bind_some]) ?_
      exact ev_eq (ev_ret _) (by simp)
    | succ d ih =>
      intro n e1 e2
      have hn : n < xs.length := by omega
      rw [List.drop_eq_getElem_cons hn, List.any_cons]
      refine Ev.step (fun k => by rw [hL, if_pos (by omega), if_pos (by omega), if_pos (by omega), getD_of (List.getElem?_eq_getElem hn), wrap_nat hn (by omega), Option.bind_assoc]) ?_
      refine ev_bind (hF _ (List.getElem_mem hn)) ?_
      cases hq : p xs[n] with
      | true => exact ev_eq (Ev.congr (fun k => by rw [if_pos rfl, Option.bind_some]) (ev_ret _)) (by simp)
      | false => exact ev_eq (Ev.congr (fun k => by rw [if_neg (by simp)]) (ih (n + 1) (by omega) (by omega))) (by simp)
  have := key xs.length 0 (by omega) (by omega)
  simpa using this
theorem impl_SystemValid_ev (vars : List IVar) (rules : List IRule) (hl : rules.length ≤ 9223372036854775807) (hr : ∀ r ∈ rules, r.f1.length ≤ 9223372036854775807) : Ev (fun k => impl_SystemValid.f k vars rules) (sysP vars rules) := by
  unfold impl_SystemValid.f sysP
  simp only [impl_in_eq, Option.bind_some]
  by_cases h1 : inR (vars.length : Int) 1 5 = true
  · have hv := inR_iff.1 h1
    have J : ∀ b : Bool, Ev (fun k => impl_SystemValid.j0 k b vars rules) (!b && rules.all (fun r => ruleP r vars.length)) := by
      intro b
      refine Ev.step (fun k => by rw [impl_SystemValid.j0]) ?_
      cases b with
      | true => exact ev_pos rfl (ev_eq (ev_ret _) (by simp))
      | false =>
        refine ev_neg (by simp) ?_
        have e2 : Ev (fun k => slices_ContainsFunc_at_impl_SystemValid_2.f k rules vars rules) (rules.any (fun r => !ruleP r vars.length)) := by
          unfold slices_ContainsFunc_at_impl_SystemValid_2.f slices_IndexFunc_at_impl_SystemValid_2.f
          · refine find_ev (da := zIRule) (fun k i => slices_IndexFunc_at_impl_SystemValid_2.l0 k rules (rules.length : Int) i vars rules) (fun k r => impl_SystemValid_2.f k r.f0 r.f1 r.f2 vars rules) rules _ hl (fun k i => by rw [slices_IndexFunc_at_impl_SystemValid_2.l0]; rfl) ?_
            intro x hx
            unfold impl_SystemValid_2.f
            exact ev_bind (impl_ruleOk_ev x (vars.length : Int) (by omega) (hr x hx)) (ev_ret _)
        refine ev_bind e2 (ev_eq (ev_ret _) ?_)
        have : (!rules.any (fun r => !ruleP r vars.length)) = rules.all (fun r => ruleP r vars.length) := by rw [List.not_any_eq_all_not]; simp
        rw [this]
        simp
    refine ev_pos h1 ?_
    by_cases h2 : rules.length ≤ 8
    · refine ev_neg (by omega) ?_
      have e1 : Ev (fun k => slices_ContainsFunc_at_impl_SystemValid_1.f k vars) (vars.any (fun v => !varP v)) := by
        unfold slices_ContainsFunc_at_impl_SystemValid_1.f slices_IndexFunc_at_impl_SystemValid_1.f
        refine find_ev (da := zIVar) (fun k i => slices_IndexFunc_at_impl_SystemValid_1.l0 k vars (vars.length : Int) i) (fun k v => impl_SystemValid_1.f v.f0 v.f1 v.f2) vars _ (by omega) (fun k i => by rw [slices_IndexFunc_at_impl_SystemValid_1.l0]; rfl) ?_
        intro x hx
        unfold impl_SystemValid_1.f
        rw [impl_varOk_eq]
        exact ev_ret _
      refine ev_bind e1 ?_
      by_cases h3 : vars.all varP = true
      · have n3 : vars.any (fun v => !varP v) = false := by rw [List.any_eq_false]; intro x hx; simp [List.all_eq_true.1 h3 x hx]
        rw [n3]
        refine ev_neg (by simp) (ev_bind (impl_size_ev vars (by omega)) (ev_eq (J _) ?_))
        rw [h1, h3]
        by_cases h4 : sizeP vars ≤ 400 <;> simp [h2, h4, smallP]
      · have n3 : vars.any (fun v => !varP v) = true := by
          rw [← List.not_all_eq_any_not]
          simpa using h3
        rw [n3]
        exact ev_pos rfl (ev_eq (J true) (by rw [show vars.all varP = false from by simpa using h3]; simp))
    · exact ev_pos (by omega) (ev_eq (J true) (by simp [h2]))
  · refine ev_neg h1 (Ev.step (fun k => by rw [impl_SystemValid.j0]) ?_)
    exact ev_pos rfl (ev_eq (ev_ret _) (by simp [h1]))
end Go.Proofs.Ytpjmiaooogephaa.PA
end
section
set_option linter.unusedVariables false
set_option linter.unusedSimpArgs false
namespace Go.Proofs.Ytpjmiaooogephaa.PA
open Go.RowKit Go.Proofs.YtpjmiaooogephaaW.PrintWords
theorem valid_tot (l : List ITerm) (n : Int) : Tot (fun k => spec_TermsValid.f k l n) (fun _ => True) := by
  unfold spec_TermsValid.f
  exact tot_bind (R := fun _ => True) (tot_ev (spec_KindsOf_ev l n) trivial) fun _ _ => tot_ret trivial
theorem const_tot (n : Int) : Tot (fun _ => spec_l2Const.f n) (fun _ => True) := tot_fix ⟨_, rfl, trivial⟩
theorem joined_tot (o : Int) (x1 x2 : List ITerm) (n : Int) (h1 : x1.length ≤ 1000) (h2 : x2.length ≤ 1000) : Tot (fun k => spec_Joined.f k o x1 x2 n) (fun _ => True) := by
  have j3 : ∀ x9 : List ITerm, x9.length ≤ 3000 → Tot (fun k => spec_Joined.j3 k o x1 n x9) (fun _ => True) := fun x9 h => by
    refine tot_step (fun k => by rw [spec_Joined.j3]) (tot_pos (by omega) ?_)
    exact tot_bind (R := fun _ => True) (tot_ret trivial) fun y _ => tot_ite (fun _ => tot_ret trivial) fun _ => tot_bind (valid_tot _ _) fun t _ => tot_ite (fun _ => tot_ret trivial) fun _ => tot_ret trivial
  have l1 : ∀ d i : Nat, x2.length - i = d → i ≤ x2.length → ∀ x9 : List ITerm, x9.length ≤ 1000 + i → Tot (fun k => spec_Joined.l1 k o x1 x2 n x9 (i : Int)) (fun _ => True) := by
    intro d
    induction d with
    | zero =>
      intro i g1 g2 x9 h
      refine tot_step (fun k => by rw [spec_Joined.l1]) ?_
      exact tot_neg (by omega) (j3 x9 (by omega))
    | succ d ih =>
      intro i g1 g2 x9 h
      refine tot_step (fun k => by rw [spec_Joined.l1]) ?_
      refine tot_pos (by omega) (tot_bind (R := fun _ => True) (tot_fix ⟨_, rfl, trivial⟩) fun t _ => tot_ite (fun _ => j3 x9 (by omega)) fun _ => tot_pos (by omega) (tot_bind (R := fun _ => True) ?_ fun y _ => tot_pos (by omega) ?_))
      · unfold spec_l1Moved.f
        exact tot_ite (fun _ => tot_ret trivial) fun _ => tot_ret trivial
      · rw [wrap_nat (n := i) (m := x2.length) (by omega) (by omega)]
        exact ih (i + 1) (by omega) (by omega) _ (by simp; omega)
  have l0 : ∀ d i : Nat, x1.length - i = d → i ≤ x1.length → ∀ x9 : List ITerm, x9.length ≤ i → Tot (fun k => spec_Joined.l0 k o x1 x2 n x9 (i : Int)) (fun _ => True) := by
    intro d
    induction d with
    | zero =>
      intro i g1 g2 x9 h
      refine tot_step (fun k => by rw [spec_Joined.l0]) ?_
      exact tot_neg (by omega) (l1 x2.length 0 (by omega) (by omega) x9 (by omega))
    | succ d ih =>
      intro i g1 g2 x9 h
      refine tot_step (fun k => by rw [spec_Joined.l0]) ?_
      refine tot_pos (by omega) (tot_pos (by omega) (tot_pos (by omega) ?_))
      rw [wrap_nat (n := i) (m := x1.length) (by omega) (by omega)]
      exact ih (i + 1) (by omega) (by omega) _ (by simp; omega)
  have j0 : ∀ c, Tot (fun k => spec_Joined.j0 k o x1 x2 n c) (fun _ => True) := fun c => by
    refine tot_step (fun k => by rw [spec_Joined.j0]) ?_
    exact tot_ite (fun _ => tot_ret trivial) fun _ => l0 x1.length 0 (by omega) (by omega) [] (by simp)
  unfold spec_Joined.f
  exact tot_bind (valid_tot _ _) fun t _ => tot_ite (fun _ => tot_bind (valid_tot _ _) fun t2 _ => j0 _) fun _ => j0 _
section
variable {b : List Int} (hb : ByteL b)
include hb
theorem l2Cond_tot {p : Int} (h0 : 0 ≤ p) (h1 : p ≤ 100000000) (x y z a : Int) : Tot (fun k => spec_l2Cond.f k b p x y z a) (fun r => p ≤ r.1 ∧ r.1 ≤ p + 10 ∧ r.2.length ≤ 4) := by
  unfold spec_l2Cond.f
  refine tot_bind (pick_tot hb h0 (by omega) _) fun r1 q1 => ?_
  have e1 := q1.1
  refine tot_bind (num_tot hb (by omega) (by omega) _ (by simp)) fun r2 q2 => ?_
  have e2 := q2.1
  refine tot_bind (R := fun _ => True) (tot_fix ⟨_, rfl, trivial⟩) fun r3 _ => tot_bind (R := fun _ => True) (tot_fix ⟨_, rfl, trivial⟩) fun r4 _ => tot_bind (pick_tot hb (by omega) (by omega) _) fun r5 q5 => ?_
  have e5 := q5.1
  exact tot_ite (fun _ => tot_pos (by omega) (tot_ret ⟨by show p ≤ r5.1; omega, by show r5.1 ≤ _; omega, by simp⟩)) fun _ => tot_ret ⟨by show p ≤ r5.1; omega, by show r5.1 ≤ _; omega, by simp⟩
theorem l2When_tot {p : Int} (h0 : 0 ≤ p) (h1 : p ≤ 10000000) (vars : List IVar) (hv : 0 < vars.length) : Tot (fun k => spec_l2When.f k b p vars) (fun r => p ≤ r.1 ∧ r.1 ≤ p + 30) := by
  unfold spec_l2When.f
  refine tot_bind (pick_tot hb h0 (by omega) _) fun r1 q1 => ?_
  have e1 := q1.1
  refine tot_pos q1.2.1 (tot_pos (q1.2.2.1 (by omega)) (tot_bind (l2Cond_tot hb (by omega) (by omega) _ _ _ _) fun r2 q2 => tot_bind (pick_tot hb (by omega) (by omega) _) fun r3 q3 => ?_))
  have e3 := q3.1
  refine tot_ite (fun _ => tot_bind (pick_tot hb (by omega) (by omega) _) fun r4 q4 => ?_) fun _ => tot_ret ⟨by show p ≤ r3.1; omega, by show r3.1 ≤ _; omega⟩
  have e4 := q4.1
  refine tot_bind (num_tot hb (by omega) (by omega) _ (by simp)) fun r5 q5 => tot_pos q4.2.1 (tot_pos (q4.2.2.1 (by omega)) (tot_bind (l2Cond_tot hb (by omega) (by omega) _ _ _ _) fun r6 q6 => tot_bind (joined_tot _ _ _ _ (by omega) (by omega)) fun r7 _ => tot_ret ?_))
  exact ⟨by show p ≤ r6.1; omega, by show r6.1 ≤ _; omega⟩
theorem l2Value_tot {p : Int} (h0 : 0 ≤ p) (h1 : p ≤ 10000000) (vars : List IVar) (hv : vars.length ≤ 5) (a : Int) (ha : 0 ≤ a ∧ a < (vars.length : Int)) : Tot (fun k => spec_l2Value.f k b p vars a) (fun r => p ≤ r.1 ∧ r.1 ≤ p + 400) := by
  unfold spec_l2Value.f
  refine tot_bind (pick_tot hb h0 (by omega) _) fun r1 q1 => ?_
  have e1 := q1.1
  refine tot_ite (fun _ => tot_bind (R := fun _ => True) (tot_fix ⟨_, rfl, trivial⟩) fun r2 _ => tot_bind (R := fun _ => True) (tot_fix ⟨_, rfl, trivial⟩) fun r3 _ => tot_bind (num_tot hb (by omega) (by omega) _ (by simp)) fun r4 q4 => tot_ret ⟨by show p ≤ r4.1; omega, by show r4.1 ≤ _; omega⟩) fun _ => ?_
  refine tot_ite (fun _ => tot_pos ha.1 (tot_pos ha.2 (tot_pos ha.1 (tot_pos ha.2 (tot_pos ha.1 (tot_pos ha.2 (tot_bind (pick_tot hb (by omega) (by omega) _) fun r5 q5 => tot_bind (R := fun _ => True) (tot_fix ⟨_, rfl, trivial⟩) fun r6 _ => ?_))))))) fun _ => ?_
  · have := q5.1
    exact tot_ret ⟨by show p ≤ r5.1; omega, by show r5.1 ≤ _; omega⟩
  refine tot_ite (fun _ => tot_bind (pick_tot hb (by omega) (by omega) _) fun r7 q7 => tot_bind (R := fun _ => True) (tot_fix ⟨_, rfl, trivial⟩) fun r8 _ => ?_) fun _ => tot_bind (l1Terms_tot hb (by omega) (by omega) (by omega) _ (by omega)) fun r9 q9 => tot_ret ⟨by show p ≤ r9.1; omega, by show r9.1 ≤ _; omega⟩
  have := q7.1
  exact tot_ret ⟨by show p ≤ r7.1; omega, by show r7.1 ≤ _; omega⟩
def FewQ (rs : List IRule) (m : Nat) : Prop := rs.length ≤ m ∧ ∀ r ∈ rs, r.f1.length ≤ 5 ∧ r.f2.length ≤ 5
omit hb in
theorem FewQ.snoc {rs : List IRule} {m : Nat} (h : FewQ rs m) (r : IRule) (hr : r.f1.length ≤ 5 ∧ r.f2.length ≤ 5) : FewQ (rs ++ [r]) (m + 1) := by
  refine ⟨by have := h.1; simp; omega, fun x hx => ?_⟩
  rcases List.mem_append.1 hx with hx | hx
  · exact h.2 x hx
  · rw [List.mem_singleton.1 hx]; exact hr
theorem l2RulesL_tot (vars : List IVar) (hv : 0 < vars.length ∧ vars.length ≤ 5) (many : Int) : ∀ (m i : Nat) (p : Int) (x7 : List IRule), (many - i).toNat = m → i + m ≤ 10 → 0 ≤ p → p + 5000 * m ≤ 1000000 → FewQ x7 i →
    Tot (fun k => spec_l2Rules.l1 k p x7 (i : Int) b vars many) (fun r => p ≤ r.1 ∧ r.1 ≤ p + 5000 * m ∧ FewQ r.2 (i + m))
  | 0, i, p, x7, hm, hi, h0, h1, hf => by
    refine tot_step (fun k => by rw [spec_l2Rules.l1]) ?_
    exact tot_neg (by omega) (tot_ret ⟨Int.le_refl _, by show p ≤ _; omega, hf⟩)
  | m + 1, i, p, x7, hm, hi, h0, h1, hf => by
    have ih := l2RulesL_tot vars hv many m (i + 1)
    refine tot_step (fun k => by rw [spec_l2Rules.l1]) ?_
    refine tot_pos (by omega) (tot_bind (l2When_tot hb h0 (by omega) vars hv.1) fun r1 q1 => ?_)
    have key : ∀ d n : Nat, vars.length - n = d → n ≤ vars.length → ∀ (p' : Int) (y1 : List Int) (y2 : List (List ITerm)), p ≤ p' → p' + 600 * d ≤ p + 4000 → y1.length ≤ n → y2.length ≤ n →
        Tot (fun k => spec_l2Rules.l2 k p' y1 y2 (n : Int) b vars many x7 (i : Int) r1) (fun r => p ≤ r.1 ∧ r.1 ≤ p + 5000 * (m + 1 : Nat) ∧ FewQ r.2 (i + (m + 1))) := by
      intro d
      induction d with
      | zero =>
        intro n g1 g2 p' y1 y2 a1 a2 a3 a4
        refine tot_step (fun k => by rw [spec_l2Rules.l2]) ?_
        refine tot_neg (by omega) (tot_pos (by have := hf.1; omega) ?_)
        rw [wrap_nat (n := i) (m := i + 1) (by omega) (by omega)]
        refine tot_mono (ih p' _ (by omega) (by omega) (by omega) (by omega) (hf.snoc _ ⟨by show y1.length ≤ 5; omega, by show y2.length ≤ 5; omega⟩)) fun r q => ?_
        obtain ⟨c1, c2, c3⟩ := q
        exact ⟨by omega, by omega, by rw [show i + (m + 1) = i + 1 + m by omega]; exact c3⟩
      | succ d ihd =>
        intro n g1 g2 p' y1 y2 a1 a2 a3 a4
        refine tot_step (fun k => by rw [spec_l2Rules.l2]) ?_
        refine tot_pos (by omega) (tot_bind (pick_tot hb (by omega) (by omega) _) fun r2 q2 => ?_)
        have e2 := q2.1
        rw [wrap_nat (n := n) (m := vars.length) (by omega) (by omega)]
        have go : ∀ (p2 : Int), p' ≤ p2 → p2 ≤ p' + 10 → Tot (fun k => if y1.length + 1 ≤ 1099511627776 then ((spec_l2Value.f k b p2 vars (n : Int)).bind fun r3 => if y2.length + 1 ≤ 1099511627776 then (spec_l2Rules.l2 k r3.1 (y1 ++ [(n : Int)]) (y2 ++ [r3.2]) ((n + 1 : Nat) : Int) b vars many x7 (i : Int) r1) else none) else none) (fun r => p ≤ r.1 ∧ r.1 ≤ p + 5000 * (m + 1 : Nat) ∧ FewQ r.2 (i + (m + 1))) := fun p2 b1 b2 => by
          refine tot_pos (by omega) (tot_bind (l2Value_tot hb (by omega) (by omega) vars hv.2 _ (by omega)) fun r3 q3 => tot_pos (by omega) ?_)
          exact ihd (n + 1) (by omega) (by omega) _ _ _ (by omega) (by omega) (by simp; omega) (by simp; omega)
        have sk : ∀ (p2 : Int), p' ≤ p2 → p2 ≤ p' + 10 → Tot (fun k => spec_l2Rules.l2 k p2 y1 y2 ((n + 1 : Nat) : Int) b vars many x7 (i : Int) r1) (fun r => p ≤ r.1 ∧ r.1 ≤ p + 5000 * (m + 1 : Nat) ∧ FewQ r.2 (i + (m + 1))) := fun p2 b1 b2 => ihd (n + 1) (by omega) (by omega) _ _ _ (by omega) (by omega) (by omega) (by omega)
        refine tot_ite (fun _ => go _ (by omega) (by omega)) fun _ => tot_ite (fun _ => tot_ite (fun _ => tot_bind (pick_tot hb (by omega) (by omega) _) fun r4 q4 => ?_) fun _ => sk _ (by omega) (by omega)) fun _ => sk _ (by omega) (by omega)
        have e4 := q4.1
        exact tot_ite (fun _ => go _ (by omega) (by omega)) fun _ => sk _ (by omega) (by omega)
    exact key vars.length 0 (by omega) (by omega) _ [] [] (by omega) (by omega) (by simp) (by simp)
theorem l2Rules_tot (vars : List IVar) (hv : 0 < vars.length ∧ vars.length ≤ 5) {many : Int} (hm : 0 ≤ many ∧ many ≤ 4) {p : Int} (h0 : 0 ≤ p) (h1 : p ≤ 900000) : Tot (fun k => spec_l2Rules.f k b p vars many) (fun r => p ≤ r.1 ∧ r.1 ≤ p + 20000 ∧ FewQ r.2 4) := by
  unfold spec_l2Rules.f
  refine tot_mono (l2RulesL_tot hb vars hv many many.toNat 0 p [] (by omega) (by omega) h0 (by omega) ⟨by simp, fun r h => by cases h⟩) fun r q => ⟨q.1, by omega, ⟨?_, q.2.2.2⟩⟩
  have := q.2.2.1
  omega
def SmallQ (s : List IVar × List IRule) : Prop := (0 < s.1.length ∧ s.1.length ≤ 4) ∧ FewQ s.2 4
theorem l2System_tot (most : Int) {p : Int} (h0 : 0 ≤ p) (h1 : p ≤ 800000) : Tot (fun k => spec_l2System.f k b p most) (fun r => p ≤ r.1 ∧ r.1 ≤ p + 30000 ∧ SmallQ r.2) := by
  have j2 : ∀ (vars : List IVar) (p' : Int), 0 < vars.length → vars.length ≤ 4 → p ≤ p' → p' ≤ p + 1000 → Tot (fun k => spec_l2System.j2 k vars b p') (fun r => p ≤ r.1 ∧ r.1 ≤ p + 30000 ∧ SmallQ r.2) := fun vars p' g1 g2 g3 g4 => by
    refine tot_step (fun k => by rw [spec_l2System.j2]) ?_
    refine tot_bind (num_tot hb (by omega) (by omega) _ (by simp)) fun r5 q5 => ?_
    have hm : 0 ≤ r5.2 ∧ r5.2 ≤ 4 := by
      have := q5.2
      simp only [List.mem_cons, List.not_mem_nil, or_false] at this
      omega
    refine tot_bind (l2Rules_tot hb vars ⟨g1, by omega⟩ hm (by omega) (by omega)) fun r6 q6 => tot_ret ?_
    exact ⟨by show p ≤ r6.1; omega, by show r6.1 ≤ _; omega, ⟨g1, g2⟩, q6.2.2⟩
  have key : ∀ (n : Nat) (p' : Int) (vars : List IVar) (x6 : Int), vars.length + n ≤ 3 → p ≤ p' → p' + 10 * n ≤ p + 100 → Tot (fun k => spec_l2System.l1 k p' vars x6 (n : Int) b most) (fun r => p ≤ r.1 ∧ r.1 ≤ p + 30000 ∧ SmallQ r.2) := by
    intro n
    induction n with
    | zero =>
      intro p' vars x6 g1 g2 g3
      refine tot_step (fun k => by rw [spec_l2System.l1]) ?_
      exact tot_neg (by omega) (tot_ite (fun h => tot_pos (by omega) (j2 _ _ (by simp) (by simp; omega) (by omega) (by omega))) fun h => j2 _ _ (by omega) (by omega) (by omega) (by omega))
    | succ n ih =>
      intro p' vars x6 g1 g2 g3
      have w : wrap64 (((n + 1 : Nat) : Int) - 1) = (n : Int) := by rw [wrap_in (by omega) (by omega)]; omega
      refine tot_step (fun k => by rw [spec_l2System.l1]) ?_
      refine tot_pos (by omega) (tot_bind (num_tot hb (by omega) (by omega) _ (by simp)) fun r2 q2 => ?_)
      have e2 := q2.1
      rw [w]
      refine tot_ite (fun _ => tot_bind (num_tot hb (by omega) (by omega) _ (by simp)) fun r3 q3 => ?_) fun _ => ih _ _ _ (by omega) (by omega) (by omega)
      have e3 := q3.1
      refine tot_bind (pick_tot hb (by omega) (by omega) _) fun r4 q4 => ?_
      have e4 := q4.1
      exact tot_pos (by omega) (ih _ _ _ (by simp; omega) (by omega) (by omega))
  unfold spec_l2System.f
  refine tot_bind (pick_tot hb h0 (by omega) _) fun r1 q1 => ?_
  obtain ⟨e1, e2, e3, e4⟩ := q1
  have e3 := e3 (by omega)
  obtain ⟨n, hn⟩ : ∃ n : Nat, (n : Int) = 1 + r1.2 := ⟨(1 + r1.2).toNat, by omega⟩
  rw [wrap_in (x := 1 + r1.2) (by omega) (by omega), ← hn]
  exact key n _ [] 1 (by simp; omega) (by omega) (by omega)
def AnyQ (s : List IVar × List IRule) : Prop := s.1.length ≤ 4 ∧ s.2.length ≤ 4 ∧ ∀ r ∈ s.2, r.f1.length ≤ 6
omit hb in
theorem any_head {vars : List IVar} {rs : List IRule} (h : FewQ rs 4) (hv : vars.length ≤ 4) (x : IRule) (hx : x.f1.length ≤ 6) (hn : (rs.length : Int) > 0) : AnyQ (vars, x :: rs.tail) := by
  refine ⟨hv, by have := h.1; simp only [List.length_cons, List.length_tail]; omega, fun r hr => ?_⟩
  rcases List.mem_cons.1 hr with rfl | hr
  · exact hx
  · have := h.2 r (List.mem_of_mem_tail hr); omega
omit hb in
theorem head_few {rs : List IRule} (h : FewQ rs 4) (z : IRule) (hn : (rs.length : Int) > 0) : (rs.getD 0 z).f1.length ≤ 5 ∧ (rs.getD 0 z).f2.length ≤ 5 := by
  match rs, hn with
  | r :: rs, _ => exact h.2 r List.mem_cons_self
theorem l2Any_tot (most : Int) {p : Int} (h0 : 0 ≤ p) (h1 : p ≤ 700000) : Tot (fun k => spec_l2Any.f k b p most) (fun r => p ≤ r.1 ∧ r.1 ≤ p + 30100 ∧ AnyQ r.2) := by
  unfold spec_l2Any.f
  refine tot_bind (l2System_tot hb most h0 (by omega)) fun r1 q1 => ?_
  obtain ⟨a1, a2, ⟨v0, v1⟩, f⟩ := q1
  refine tot_bind (pick_tot hb (by omega) (by omega) _) fun r2 q2 => ?_
  have e2 := q2.1
  have any0 : ∀ vars : List IVar, vars.length ≤ 4 → AnyQ (vars, r1.2.2) := fun vars h => ⟨h, f.1, fun r hr => by have := (f.2 r hr).1; omega⟩
  refine tot_ite (fun _ => tot_bind (pick_tot hb (by omega) (by omega) _) fun r3 q3 => ?_) fun _ => tot_ret ⟨by show p ≤ r2.1; omega, by show r2.1 ≤ _; omega, any0 _ v1⟩
  have e3 := q3.1
  by_cases hn : (r1.2.2.length : Int) > 0
  · have hf := head_few f zIRule hn
    repeat' first
      | (with_reducible refine tot_pos ?hc ?_; case hc => first | (with_reducible exact hn) | omega)
      | (with_reducible refine tot_ite (fun _ => ?_) (fun _ => ?_))
      | (refine tot_bind (num_tot hb (by omega) (by omega) _ (by simp)) fun r4 q4 => ?_; have e4 := q4.1)
      | (with_reducible refine tot_bind (const_tot _) fun _ _ => ?_)
      | (with_reducible refine tot_ret ⟨?_, ?_, ?_⟩)
      | (simp only; omega)
      | (with_reducible refine any0 _ ?_; first | exact v1 | (simp <;> omega))
      | (with_reducible refine any_head f v1 _ ?_ hn; simp only [List.length_append, List.length_cons, List.length_nil]; omega)
  · repeat' first
      | (with_reducible refine tot_pos ?hc ?_; case hc => omega)
      | (with_reducible refine tot_neg hn ?_)
      | (with_reducible refine tot_ite (fun _ => ?_) (fun _ => ?_))
      | (refine tot_bind (num_tot hb (by omega) (by omega) _ (by simp)) fun r4 q4 => ?_; have e4 := q4.1)
      | (with_reducible refine tot_ret ⟨?_, ?_, ?_⟩)
      | (simp only; omega)
      | (with_reducible refine any0 _ ?_; first | exact v1 | (simp <;> omega))
end
theorem l40Open_tot {l : List Int} (h : ∀ x ∈ l, 0 ≤ x ∧ x < 256) : Tot (fun k => spec_l40Open.f k l) (fun r => ByteL r.1 ∧ r.2 = 0) := by
  unfold spec_l40Open.f
  refine tot_ite (fun h1 => tot_pos (by omega) (tot_ret ⟨⟨by rw [List.length_take]; omega, fun x hx => h x (List.mem_of_mem_take hx)⟩, rfl⟩)) fun h1 => tot_ret ⟨⟨by show l.length ≤ 2000; omega, h⟩, rfl⟩
theorem bytes_in {l : List Int} (h : l.length ≤ 9223372036854775807 ∧ ∀ x ∈ l, (Lit.int .u8 x).wf = true) : ∀ x ∈ l, 0 ≤ x ∧ x < 256 := fun x hx => by
  have := h.2 x hx
  have e1 : Go.IntKind.u8.min = 0 := by decide
  have e2 : Go.IntKind.u8.max = 255 := by decide
  simp [Lit.wf] at this
  omega
end Go.Proofs.Ytpjmiaooogephaa.PA
end
section
set_option linter.unusedVariables false
set_option linter.unusedSimpArgs false
namespace Go.Proofs.Ytpjmiaooogephaa.PA
open Go.RowKit Go.Proofs.YtpjmiaooogephaaW.PrintWords
def prodP : List IVar → Int
  | [] => 1
  | v :: r => spanP v * prodP r
theorem spanP_in {v : IVar} (h : varP v = true) : 1 ≤ spanP v ∧ spanP v ≤ 20 := by
  have := varP_span h
  unfold spanP; omega
theorem prodP_pos (vars : List IVar) (h : vars.all varP = true) : 1 ≤ prodP vars := by
  induction vars with
  | nil => simp [prodP]
  | cons v r ih =>
    simp only [List.all_cons, Bool.and_eq_true] at h
    have h1 := spanP_in h.1
    have h2 := ih h.2
    have := Int.mul_le_mul h1.1 h2 (by omega) (by omega)
    simpa [prodP] using this
theorem span_w {v : IVar} (h : varP v = true) : wrap64 (wrap64 (v.f1 - v.f0) + 1) = spanP v := by
  have := varP_span h
  rw [wrap_in (x := v.f1 - v.f0) (by omega) (by omega), wrap_in (by omega) (by omega)]
  rfl
theorem sizeGo_eq (vars : List IVar) : ∀ n : Int, vars.all varP = true → 1 ≤ n → n * 20 ^ vars.length ≤ 3200000 → sizeGo vars n = n * prodP vars := by
  induction vars with
  | nil => intro n _ _ _; simp [sizeGo, prodP]
  | cons v r ih =>
    intro n h hn hb
    simp only [List.all_cons, Bool.and_eq_true] at h
    have h1 := spanP_in h.1
    have hs : n * spanP v ≤ n * 20 := Int.mul_le_mul_of_nonneg_left h1.2 (by omega)
    have hs0 : n * 1 ≤ n * spanP v := Int.mul_le_mul_of_nonneg_left h1.1 (by omega)
    have hp : (1 : Int) ≤ 20 ^ r.length := by
      have := Int.pow_pos (n := (20 : Int)) (m := r.length) (by omega); omega
    have hb' : n * 20 * 20 ^ r.length ≤ 3200000 := by
      have e : n * 20 ^ (v :: r).length = n * 20 * 20 ^ r.length := by
        rw [List.length_cons, Int.pow_succ, Int.mul_comm (20 ^ r.length) 20, Int.mul_assoc]
      omega
    have hb2 : n * 20 * 1 ≤ n * 20 * 20 ^ r.length := Int.mul_le_mul_of_nonneg_left hp (by omega)
    unfold sizeGo
    rw [span_w h.1, wrap_in (by omega) (by omega), ih _ h.2 (by omega) (Int.le_trans (Int.mul_le_mul_of_nonneg_right hs (by omega)) hb'), prodP, Int.mul_assoc]
theorem sysP_and {vars : List IVar} {rules : List IRule} (h : sysP vars rules = true) :
    (1 ≤ vars.length ∧ vars.length ≤ 5) ∧ rules.length ≤ 8 ∧ vars.all varP = true ∧ rules.all (fun r => ruleP r vars.length) = true ∧ sizeP vars ≤ 400 := by
  simp only [sysP, Bool.and_eq_true, inR_iff, smallP, decide_eq_true_eq] at h
  exact ⟨⟨by omega, by omega⟩, h.2.1, h.2.2.1, h.2.2.2.1, h.2.2.2.2⟩
theorem sizeP_eq {vars : List IVar} (hl : vars.length ≤ 5) (h : vars.all varP = true) : sizeP vars = prodP vars := by
  unfold sizeP
  have hp : (20 : Int) ^ vars.length ≤ 20 ^ 5 := by
    have : (20 : Nat) ^ vars.length ≤ 20 ^ 5 := Nat.pow_le_pow_right (by omega) hl
    exact_mod_cast this
  rw [sizeGo_eq vars 1 h (by omega) (by omega), Int.one_mul]
theorem sizeP_in {vars : List IVar} {rules : List IRule} (h : sysP vars rules = true) : 1 ≤ sizeP vars ∧ sizeP vars ≤ 400 := by
  obtain ⟨h1, _, h3, _, h5⟩ := sysP_and h
  rw [sizeP_eq h1.2 h3] at *
  exact ⟨prodP_pos vars h3, h5⟩
theorem spec_SizeOf_ev (vars : List IVar) (rules : List IRule) : Ev (fun k => spec_SizeOf.f k vars rules) (if sysP vars rules = true then sizeP vars else 0) := by
  unfold spec_SizeOf.f
  refine ev_bind (spec_SystemValid_ev vars rules) ?_
  refine ev_ite_eq (fun h => ?_) (fun _ => ev_ret _)
  have hl : vars.length ≤ 9223372036854775807 := by have := (sysP_and h).1; omega
  unfold sizeP
  have key : ∀ d n : Nat, vars.length - n = d → n ≤ vars.length → ∀ a : Int, Ev (fun k => spec_SizeOf.l0 k a (n : Int) vars rules) (sizeGo (vars.drop n) a) := by
    intro d
    induction d with
    | zero =>
      intro n e1 e2 a
      have : n = vars.length := by omega
      subst this
      rw [List.drop_length]
      refine Ev.step (fun k => by rw [spec_SizeOf.l0]) ?_
      exact ev_neg (by omega) (ev_ret _)
    | succ d ih =>
      intro n e1 e2 a
      have hn : n < vars.length := by omega
      have hr : rd_IVar vars (n : Int) = vars[n] := getD_of (List.getElem?_eq_getElem hn)
      rw [List.drop_eq_getElem_cons hn]
      unfold sizeGo
      refine Ev.step (fun k => by rw [spec_SizeOf.l0]) ?_
      refine ev_pos (by omega) (ev_pos (by omega) ?_)
      rw [hr, wrap_nat hn (by omega)]
      exact ih (n + 1) (by omega) (by omega) _
  have := key vars.length 0 (by omega) (by omega) 1
  simpa using this
def stateGo : List IVar → List Int → Bool
  | v :: vs, x :: xs => inR x v.f0 v.f1 && stateGo vs xs
  | _, _ => true
def inRangeP (vars : List IVar) (state : List Int) : Bool := decide (state.length = vars.length) && stateGo vars state
def valOk (k v : Int) : Prop := (k = 1 → -9999 ≤ v ∧ v ≤ 9999) ∧ (k = 2 → 0 ≤ v ∧ v ≤ 1)
structure ValsOk (ks vs : List Int) : Prop where
  len : vs.length = ks.length
  at_ : ∀ i : Nat, i < ks.length → valOk (ks.getD i 0) (vs.getD i 0)
theorem ValsOk.nil : ValsOk [] [] := ⟨rfl, fun i h => absurd h (Nat.not_lt_zero i)⟩
theorem ValsOk.rd {ks vs : List Int} (h : ValsOk ks vs) {i : Int} (h0 : inR i 0 ((ks.length : Int) - 1) = true) : valOk (rd ks i) (rd vs i) := by
  have := inR_iff.1 h0
  have e := h.at_ i.toNat (by omega)
  exact e
def foldN {α σ : Type} (step : Nat → σ → α → σ) : Nat → σ → List α → σ
  | _, s, [] => s
  | n, s, x :: r => foldN step (n + 1) (step n s x) r
theorem foldN_push {α β : Type} (g : α → β) : ∀ (xs : List α) (n : Nat) (s : List β), foldN (fun _ s x => s ++ [g x]) n s xs = s ++ xs.map g
  | [], n, s => by simp [foldN]
  | x :: r, n, s => by unfold foldN; rw [foldN_push g r]; simp
theorem ev_fold {α σ ρ : Type} (L : Nat → σ → Int → Option ρ) (xs : List α) (step : Nat → σ → α → σ) (fin : σ → ρ) (I : Nat → σ → Prop)
    (hend : ∀ s, I xs.length s → Ev (fun k => L k s (xs.length : Int)) (fin s))
    (hstep : ∀ (n : Nat) s x R, n < xs.length → xs[n]? = some x → I n s → Ev (fun k => L k (step n s x) ((n + 1 : Nat) : Int)) R → Ev (fun k => L k s (n : Int)) R)
    (hI : ∀ (n : Nat) s x, n < xs.length → xs[n]? = some x → I n s → I (n + 1) (step n s x)) (s0 : σ) (h0 : I 0 s0) :
    Ev (fun k => L k s0 0) (fin (foldN step 0 s0 xs)) := by
  have h : ∀ d n : Nat, xs.length - n = d → n ≤ xs.length → ∀ s, I n s → Ev (fun k => L k s (n : Int)) (fin (foldN step n s (xs.drop n))) := by
    intro d
    induction d with
    | zero =>
      intro n h1 h2 s hs
      have : n = xs.length := by omega
      subst this
      rw [List.drop_length]
      exact hend s hs
    | succ d ih =>
      intro n h1 h2 s hs
      have hn : n < xs.length := by omega
      have hx := List.getElem?_eq_getElem hn
      rw [List.drop_eq_getElem_cons hn]
      exact hstep n s _ _ hn hx hs (ih (n + 1) (by omega) (by omega) _ (hI n s _ hn hx hs))
  have := h xs.length 0 (by omega) (by omega) s0 h0
  simpa using this
theorem impl_clone_int_eq {l : List Int} (h : l.length ≤ 35184372088832) : impl_clone_int.f l = some l := by unfold impl_clone_int.f; rw [if_pos h]
def bitsP (m : Int) : Int := if 1 < m then (if 2 < m then (if 4 < m then (if 8 < m then (if 16 < m then 5 else 4) else 3) else 2) else 1) else 0
theorem bitsP_in (m : Int) : 0 ≤ bitsP m ∧ bitsP m ≤ 5 := by unfold bitsP; repeat' split <;> omega
theorem spec_l6Many_ev {m : Int} (h : 1 ≤ m ∧ m ≤ 20) : Ev (fun k => spec_l6Many.f k m) (bitsP m) := by
  unfold spec_l6Many.f bitsP
  have w1 : wrap64 (0 + 1) = 1 := by unfold wrap64; omega
  have w2 : wrap64 (1 + 1) = 2 := by unfold wrap64; omega
  have w3 : wrap64 (2 + 1) = 3 := by unfold wrap64; omega
  have w4 : wrap64 (3 + 1) = 4 := by unfold wrap64; omega
  have w5 : wrap64 (4 + 1) = 5 := by unfold wrap64; omega
  have v1 : wrap64 (1 * 2) = 2 := by unfold wrap64; omega
  have v2 : wrap64 (2 * 2) = 4 := by unfold wrap64; omega
  have v3 : wrap64 (4 * 2) = 8 := by unfold wrap64; omega
  have v4 : wrap64 (8 * 2) = 16 := by unfold wrap64; omega
  have v5 : wrap64 (16 * 2) = 32 := by unfold wrap64; omega
  refine Ev.step (fun k => by rw [spec_l6Many.l0]) (ev_ite_eq (fun _ => ?_) (fun _ => ev_ret _))
  rw [w1, v1]
  refine Ev.step (fun k => by rw [spec_l6Many.l0]) (ev_ite_eq (fun _ => ?_) (fun _ => ev_ret _))
  rw [w2, v2]
  refine Ev.step (fun k => by rw [spec_l6Many.l0]) (ev_ite_eq (fun _ => ?_) (fun _ => ev_ret _))
  rw [w3, v3]
  refine Ev.step (fun k => by rw [spec_l6Many.l0]) (ev_ite_eq (fun _ => ?_) (fun _ => ev_ret _))
  rw [w4, v4]
  refine Ev.step (fun k => by rw [spec_l6Many.l0]) (ev_ite_eq (fun _ => ?_) (fun _ => ev_ret _))
  rw [w5, v5]
  exact Ev.step (fun k => by rw [spec_l6Many.l0]) (ev_neg (by omega) (ev_ret _))
theorem impl_bitsFor_ev {m : Int} (h : 1 ≤ m ∧ m ≤ 20) : Ev (fun k => impl_bitsFor.f k m) (bitsP m) := by
  unfold impl_bitsFor.f bitsP
  have w1 : wrap64 (0 + 1) = 1 := by unfold wrap64; omega
  have w2 : wrap64 (1 + 1) = 2 := by unfold wrap64; omega
  have w3 : wrap64 (2 + 1) = 3 := by unfold wrap64; omega
  have w4 : wrap64 (3 + 1) = 4 := by unfold wrap64; omega
  have w5 : wrap64 (4 + 1) = 5 := by unfold wrap64; omega
  have s0 : shl .i64 1 0 = 1 := by decide +kernel
  have s1 : shl .i64 1 1 = 2 := by decide +kernel
  have s2 : shl .i64 1 2 = 4 := by decide +kernel
  have s3 : shl .i64 1 3 = 8 := by decide +kernel
  have s4 : shl .i64 1 4 = 16 := by decide +kernel
  have s5 : shl .i64 1 5 = 32 := by decide +kernel
  refine Ev.step (fun k => by rw [impl_bitsFor.l0]) (ev_pos (by omega) ?_)
  rw [s0]
  refine ev_ite_eq (fun _ => ?_) (fun _ => ev_ret _)
  rw [w1]
  refine Ev.step (fun k => by rw [impl_bitsFor.l0]) (ev_pos (by omega) ?_)
  rw [s1]
  refine ev_ite_eq (fun _ => ?_) (fun _ => ev_ret _)
  rw [w2]
  refine Ev.step (fun k => by rw [impl_bitsFor.l0]) (ev_pos (by omega) ?_)
  rw [s2]
  refine ev_ite_eq (fun _ => ?_) (fun _ => ev_ret _)
  rw [w3]
  refine Ev.step (fun k => by rw [impl_bitsFor.l0]) (ev_pos (by omega) ?_)
  rw [s3]
  refine ev_ite_eq (fun _ => ?_) (fun _ => ev_ret _)
  rw [w4]
  refine Ev.step (fun k => by rw [impl_bitsFor.l0]) (ev_pos (by omega) ?_)
  rw [s4]
  refine ev_ite_eq (fun _ => ?_) (fun _ => ev_ret _)
  rw [w5]
  refine Ev.step (fun k => by rw [impl_bitsFor.l0]) (ev_pos (by omega) ?_)
  rw [s5]
  exact ev_neg (by omega) (ev_ret _)
def widthsP (vars : List IVar) : List Int := vars.map (fun v => bitsP (spanP v))
theorem span_all {vars : List IVar} (h : vars.all varP = true) {n : Nat} {v : IVar} (hv : vars[n]? = some v) : varP v = true := List.all_eq_true.1 h v (List.mem_of_getElem? hv)
theorem spec_l6Widths_ev {vars : List IVar} (rules : List IRule) (hl : vars.length ≤ 5) (h : vars.all varP = true) : Ev (fun k => spec_l6Widths.f k vars rules) (widthsP vars) := by
  unfold spec_l6Widths.f
  have := ev_fold (fun k s i => spec_l6Widths.l0 k s i vars rules) vars (fun _ s v => s ++ [bitsP (spanP v)]) (fun s => s) (fun m s => s.length = m)
    (fun s hs => Ev.step (fun k => by rw [spec_l6Widths.l0]) (ev_neg (by omega) (ev_ret _)))
    (fun n s v R hn hx hs ih => by
      have hp := span_all h hx
      refine Ev.step (fun k => by rw [spec_l6Widths.l0]) ?_
      rw [show rd_IVar vars (n : Int) = v from getD_of hx, wrap_nat hn (by omega), span_w hp]
      exact ev_pos (by omega) (ev_pos (by omega) (ev_bind (spec_l6Many_ev (spanP_in hp)) (ev_pos (by omega) ih))))
    (fun n s v hn hx hs => by simp [hs]) [] rfl
  rw [foldN_push] at this
  simpa [widthsP] using this
theorem impl_bitsOf_ev {vars : List IVar} (rules : List IRule) (hl : vars.length ≤ 5) (h : vars.all varP = true) : Ev (fun k => impl_bitsOf.f k vars rules) (widthsP vars) := by
  unfold impl_bitsOf.f
  have := ev_fold (fun k s i => impl_bitsOf.l0 k s vars (vars.length : Int) i) vars (fun _ s v => s ++ [bitsP (spanP v)]) (fun s => s) (fun m s => s.length = m)
    (fun s hs => Ev.step (fun k => by rw [impl_bitsOf.l0]) (ev_neg (by omega) (ev_bind (ev_fix (impl_clone_int_eq (by omega))) (ev_ret _))))
    (fun n s v R hn hx hs ih => by
      have hp := span_all h hx
      refine Ev.step (fun k => by rw [impl_bitsOf.l0]) ?_
      rw [show rd_IVar vars (n : Int) = v from getD_of hx, wrap_nat hn (by omega), span_w hp]
      exact ev_pos (by omega) (ev_pos (by omega) (ev_pos (by omega) (ev_bind (impl_bitsFor_ev (spanP_in hp)) (ev_pos (by omega) ih)))))
    (fun n s v hn hx hs => by simp [hs]) [] rfl
  rw [foldN_push] at this
  simpa [widthsP] using this
def SzOk (f : Nat → Option Int) (a : Int) (P : Prop) : Prop := ∃ r, Ev f r ∧ (r < 0 ∨ (0 ≤ r ∧ r ≤ a ∧ P))
def numStep (s : Int) (p : IVar × Int) : Int := wrap64 (wrap64 (wrap64 (s * wrap64 (wrap64 (p.1.f1 - p.1.f0) + 1)) + p.2) - p.1.f0)
def numP (vars : List IVar) (st : List Int) : Int := foldN (fun _ s p => numStep s p) 0 0 (vars.zip st)
theorem zip_at {vars : List IVar} {st : List Int} {n : Nat} {p : IVar × Int} (h : (vars.zip st)[n]? = some p) : vars[n]? = some p.1 ∧ st[n]? = some p.2 := by
  rw [List.getElem?_zip_eq_some] at h
  exact h
theorem inRangeP_len {vars : List IVar} {st : List Int} (h : inRangeP vars st = true) : st.length = vars.length := by
  simp only [inRangeP, Bool.and_eq_true, decide_eq_true_eq] at h
  exact h.1
def vbP (n m : Int) : List Int := (spec_l6Value.f 10 n m).getD []
theorem vb_all : ∀ n : Fin 32, ∀ m : Fin 6, spec_l6Value.f 10 (n.val : Int) (m.val : Int) = some (vbP n.val m.val) ∧ impl_valueBits.f 10 (n.val : Int) (m.val : Int) = some (vbP n.val m.val) ∧ (vbP n.val m.val).length = m.val := by decide +kernel
theorem vb_at {n m : Int} (hn : 0 ≤ n ∧ n < 32) (hm : 0 ≤ m ∧ m ≤ 5) : spec_l6Value.f 10 n m = some (vbP n m) ∧ impl_valueBits.f 10 n m = some (vbP n m) ∧ ((vbP n m).length : Int) = m := by
  obtain ⟨a, rfl⟩ := Int.eq_ofNat_of_zero_le hn.1
  obtain ⟨b, rfl⟩ := Int.eq_ofNat_of_zero_le hm.1
  have := vb_all ⟨a, by omega⟩ ⟨b, by omega⟩
  exact ⟨this.1, this.2.1, by rw [this.2.2]⟩
theorem ev_mono {α : Type} {g : Nat → Option α} {r : α} (hm : ∀ k, LeO (g k) (g (k + 1))) {n : Nat} (h : g n = some r) : Ev g r := by
  refine ⟨n, fun k hk => ?_⟩
  induction k with
  | zero => have : n = 0 := by omega
            subst this; exact h
  | succ k ih =>
    by_cases e : n = k + 1
    · subst e; exact h
    · exact hm k _ (ih (by omega))
theorem spec_l6Value_ev {n m : Int} (hn : 0 ≤ n ∧ n < 32) (hm : 0 ≤ m ∧ m ≤ 5) : Ev (fun k => spec_l6Value.f k n m) (vbP n m) := ev_mono (fun k => spec_l6Value.mono _ _ k) (vb_at hn hm).1
theorem impl_valueBits_ev {n m : Int} (hn : 0 ≤ n ∧ n < 32) (hm : 0 ≤ m ∧ m ≤ 5) : Ev (fun k => impl_valueBits.f k n m) (vbP n m) := ev_mono (fun k => impl_valueBits.mono _ _ k) (vb_at hn hm).2.1
def rowP (p : IVar × Int) : List Int := vbP (p.2 - p.1.f0) (bitsP (spanP p.1))
def stBitsP (vars : List IVar) (st : List Int) : List Int := foldN (fun _ s p => s ++ rowP p) 0 [] (vars.zip st)
theorem stateGo_at : ∀ (vs : List IVar) (st : List Int), stateGo vs st = true → ∀ (n : Nat) (p : IVar × Int), (vs.zip st)[n]? = some p → inR p.2 p.1.f0 p.1.f1 = true
  | [], _, _, n, p, h => by simp at h
  | _ :: _, [], _, n, p, h => by simp at h
  | v :: vs, x :: xs, h, 0, p, hp => by
    simp only [stateGo, Bool.and_eq_true] at h
    simp at hp
    subst hp
    exact h.1
  | v :: vs, x :: xs, h, n + 1, p, hp => by
    simp only [stateGo, Bool.and_eq_true] at h
    exact stateGo_at vs xs h.2 n p (by simpa using hp)
theorem pair_in {vars : List IVar} {rules : List IRule} {st : List Int} (h : sysP vars rules = true) (hi : inRangeP vars st = true) {n : Nat} {p : IVar × Int} (hp : (vars.zip st)[n]? = some p) :
    varP p.1 = true ∧ (0 ≤ p.2 - p.1.f0 ∧ p.2 - p.1.f0 < 20) ∧ wrap64 (p.2 - p.1.f0) = p.2 - p.1.f0 := by
  have hv := span_all (sysP_and h).2.2.1 (zip_at hp).1
  have hi' := hi
  simp only [inRangeP, Bool.and_eq_true, decide_eq_true_eq] at hi'
  have hr := inR_iff.1 (stateGo_at vars st hi'.2 n p hp)
  have hs := varP_span hv
  exact ⟨hv, ⟨by omega, by omega⟩, wrap_in (by omega) (by omega)⟩
theorem rowP_len {vars : List IVar} {rules : List IRule} {st : List Int} (h : sysP vars rules = true) (hi : inRangeP vars st = true) {n : Nat} {p : IVar × Int} (hp : (vars.zip st)[n]? = some p) : (rowP p).length ≤ 5 := by
  obtain ⟨h1, h2, h3⟩ := pair_in h hi hp
  have hb := bitsP_in (spanP p.1)
  have := (vb_at (n := p.2 - p.1.f0) (by omega) hb).2.2
  unfold rowP
  omega
theorem widths_at {vars : List IVar} {n : Nat} {v : IVar} (h : vars[n]? = some v) : rd (widthsP vars) (n : Int) = bitsP (spanP v) := getD_of (by simp [widthsP, h])
theorem impl_stateBits_ev {vars : List IVar} {rules : List IRule} {st : List Int} (h : sysP vars rules = true) (hi : inRangeP vars st = true) : Ev (fun k => impl_stateBits.f k vars rules st) (stBitsP vars st) := by
  obtain ⟨h1, _, h3, _⟩ := sysP_and h
  have hsl := inRangeP_len hi
  have hz : (vars.zip st).length = vars.length := by simp [hsl]
  have hw : (widthsP vars).length = vars.length := by simp [widthsP]
  unfold impl_stateBits.f stBitsP
  refine ev_bind (impl_bitsOf_ev rules h1.2 h3) ?_
  exact ev_fold (fun k s i => impl_stateBits.l0 k st s (widthsP vars) ((widthsP vars).length : Int) i vars rules) (vars.zip st) (fun _ s p => s ++ rowP p) (fun s => s) (fun m s => s.length ≤ 5 * m)
    (fun s hs => by
      refine Ev.step (fun k => by rw [impl_stateBits.l0]) ?_
      exact ev_neg (by omega) (ev_bind (ev_fix (impl_clone_int_eq (by omega))) (ev_ret _)))
    (fun n s p R hn hx hs ih => by
      obtain ⟨z1, z2⟩ := zip_at hx
      obtain ⟨p1, p2, p3⟩ := pair_in h hi hx
      have hl := rowP_len h hi hx
      refine Ev.step (fun k => by rw [impl_stateBits.l0]) ?_
      rw [show rd_IVar vars (n : Int) = p.1 from getD_of z1, show rd st (n : Int) = p.2 from getD_of z2, widths_at z1, p3, wrap_nat (m := vars.length) (by omega) (by omega)]
      exact ev_pos (by omega) (ev_pos (by omega) (ev_pos (by omega) (ev_pos (by omega) (ev_pos (by omega) (ev_bind (impl_valueBits_ev (by omega) (bitsP_in _)) (ev_pos (by have : (vbP (p.2 - p.1.f0) (bitsP (spanP p.1))).length ≤ 5 := hl; omega) ih)))))))
    (fun n s p hn hx hs => by have := rowP_len h hi hx; simp; omega) [] (by simp)
theorem spec_l6State_ev {vars : List IVar} {rules : List IRule} {st : List Int} (h : sysP vars rules = true) (hi : inRangeP vars st = true) : Ev (fun k => spec_l6State.f k vars rules st) (stBitsP vars st) := by
  obtain ⟨h1, _, h3, _⟩ := sysP_and h
  have hsl := inRangeP_len hi
  have hz : (vars.zip st).length = vars.length := by simp [hsl]
  have hw : (widthsP vars).length = vars.length := by simp [widthsP]
  unfold spec_l6State.f stBitsP
  refine ev_bind (spec_l6Widths_ev rules h1.2 h3) ?_
  exact ev_fold (fun k s i => spec_l6State.l0 k st s (widthsP vars) i vars rules) (vars.zip st) (fun _ s p => s ++ rowP p) (fun s => s) (fun m s => s.length ≤ 5 * m)
    (fun s hs => by
      refine Ev.step (fun k => by rw [spec_l6State.l0]) ?_
      exact ev_neg (by omega) (ev_ret _))
    (fun n s p R hn hx hs ih => by
      obtain ⟨z1, z2⟩ := zip_at hx
      obtain ⟨p1, p2, p3⟩ := pair_in h hi hx
      have hl := rowP_len h hi hx
      refine Ev.step (fun k => by rw [spec_l6State.l0]) ?_
      rw [show rd_IVar vars (n : Int) = p.1 from getD_of z1, show rd st (n : Int) = p.2 from getD_of z2, widths_at z1, p3]
      refine ev_pos (by omega) (ev_pos (by omega) (ev_pos (by omega) (ev_pos (by omega) (ev_bind (spec_l6Value_ev (by omega) (bitsP_in _)) ?_))))
      have inner := ev_fold (fun k s i => spec_l6State.l1 k st s (widthsP vars) (n : Int) (rowP p) i vars rules) (rowP p) (fun _ s x => s ++ [x]) (fun _ => R) (fun m o => o = s ++ (rowP p).take m)
        (fun o ho => by
          refine Ev.step (fun k => by rw [spec_l6State.l1]) ?_
          rw [ho, List.take_length, wrap_nat (n := n) (m := vars.length) (by omega) (by omega)]
          exact ev_neg (by omega) ih)
        (fun m o x R' hm hx' ho ih' => by
          refine Ev.step (fun k => by rw [spec_l6State.l1]) ?_
          rw [show rd (rowP p) (m : Int) = x from getD_of hx', wrap_nat hm (by omega)]
          have : o.length ≤ 5 * n + 5 := by rw [ho]; simp; omega
          exact ev_pos (by omega) (ev_pos (by omega) (ev_pos (by omega) ih')))
        (fun m o x hm hx' ho => by
          rw [ho, List.append_assoc]
          congr 1
          rw [List.take_add_one, hx']
          rfl) s (by simp)
      exact inner)
    (fun n s p hn hx hs => by have := rowP_len h hi hx; simp; omega) [] (by simp)
def Evp (G : Nat → Prop) : Prop := ∃ n, ∀ k, n ≤ k → G k
theorem Evp.of {P : Prop} (h : P) : Evp fun _ => P := ⟨0, fun _ _ => h⟩
theorem Evp.and {G H : Nat → Prop} (g : Evp G) (h : Evp H) : Evp fun k => G k ∧ H k := by
  obtain ⟨n, g⟩ := g
  obtain ⟨m, h⟩ := h
  exact ⟨max n m, fun k hk => ⟨g k (by omega), h k (by omega)⟩⟩
theorem Evp.fact {α : Type} {f : Nat → Option α} {r : α} {H : Nat → Prop} (g : Ev f r) (h : Evp H) : Evp fun k => f k = some r ∧ H k := Evp.and (G := fun k => f k = some r) g h
theorem Evp.inl {G H : Nat → Prop} (g : Evp G) : Evp fun k => G k ∨ H k := let ⟨n, g⟩ := g; ⟨n, fun k hk => .inl (g k hk)⟩
theorem Evp.inr {G H : Nat → Prop} (g : Evp H) : Evp fun k => G k ∨ H k := let ⟨n, g⟩ := g; ⟨n, fun k hk => .inr (g k hk)⟩
theorem Evp.ex {α : Type} {G : Nat → α → Prop} (a : α) (g : Evp fun k => G k a) : Evp fun k => ∃ x, G k x := let ⟨n, g⟩ := g; ⟨n, fun k hk => ⟨a, g k hk⟩⟩
theorem Evp.sz {f : Nat → Option Int} {a : Int} {P : Prop} (hf : SzOk f a P) {H : Nat → Int → Prop} (h : ∀ r, 0 ≤ r → r ≤ a → P → Evp fun k => H k r) : Evp fun k => ∃ t : Int, f k = some t ∧ (t < 0 ∨ H k t) := by
  obtain ⟨r, h1, h2⟩ := hf
  refine .ex r (.fact h1 ?_)
  rcases h2 with h2 | ⟨h2, h3, h4⟩
  · exact .inl (.of h2)
  · exact .inr (h r h2 h3 h4)
theorem ev_table {β ρ : Type} (L : Nat → List β → Int → Option ρ) (m : Nat) (g : Nat → β) (z : β) (r : ρ) (hend : Ev (fun k => L k ((List.range m).map g) (m : Int)) r)
    (hstep : ∀ (n : Nat) (ys : List β) R, n < m → ys.length = m → Ev (fun k => L k (ys.set n (g n)) ((n + 1 : Nat) : Int)) R → Ev (fun k => L k ys (n : Int)) R) : Ev (fun k => L k (List.replicate m z) 0) r := by
  have key : ∀ d n : Nat, m - n = d → n ≤ m → Ev (fun k => L k ((List.range n).map g ++ List.replicate (m - n) z) (n : Int)) r := by
    intro d
    induction d with
    | zero =>
      intro n h1 h2
      have : n = m := by omega
      subst this
      rw [Nat.sub_self, List.replicate_zero, List.append_nil]
      exact hend
    | succ d ih =>
      intro n h1 h2
      refine hstep n _ r (by omega) (by simp; omega) ?_
      have e : ((List.range n).map g ++ List.replicate (m - n) z).set n (g n) = (List.range (n + 1)).map g ++ List.replicate (m - (n + 1)) z := by
        rw [List.set_append, if_neg (by simp), List.length_map, List.length_range, Nat.sub_self, show m - n = (m - (n + 1)) + 1 by omega, List.replicate_succ, List.set_cons_zero, List.range_succ, List.map_append, List.append_assoc]
        rfl
      rw [e]
      exact ih (n + 1) (by omega) (by omega)
  have := key m 0 (by omega) (by omega)
  simpa using this
theorem ev_index {α : Type} {da : α} (L : Nat → Int → Option Int) (F : Nat → α → Option Bool) (xs : List α) (p : α → Bool) (hl : xs.length ≤ 9223372036854775807)
    (hL : ∀ k i, L (k + 1) i = if i < (xs.length : Int) then (if 0 ≤ i then (if i < (xs.length : Int) then ((F k (xs.getD i.toNat da)).bind fun t => if t = true then some i else L k (wrap64 (i + 1))) else none) else none) else some (-1))
    (hF : ∀ x ∈ xs, Ev (fun k => F k x) (p x)) : ∃ r, Ev (fun k => L k 0) r ∧ decide (r ≥ 0) = xs.any p := by
  have key : ∀ d n : Nat, xs.length - n = d → n ≤ xs.length → ∃ r, Ev (fun k => L k (n : Int)) r ∧ decide (r ≥ 0) = (xs.drop n).any p := by
    intro d
    induction d with
    | zero =>
      intro n h1 h2
      have : n = xs.length := by omega
      subst this
      exact ⟨-1, Ev.step (fun k => hL k _) (ev_neg (by omega) (ev_ret _)), by rw [List.drop_length]; rfl⟩
    | succ d ih =>
      intro n h1 h2
      have hn : n < xs.length := by omega
      have hx := List.getElem?_eq_getElem hn
      rw [List.drop_eq_getElem_cons hn, List.any_cons]
      have hf := hF _ (List.getElem_mem hn)
      cases hp : p xs[n] with
      | true =>
        rw [hp] at hf
        refine ⟨(n : Int), Ev.step (fun k => hL k _) (ev_pos (by omega) (ev_pos (by omega) (ev_pos (by omega) ?_))), by simp⟩
        rw [getD_of hx]
        exact ev_bind hf (ev_pos rfl (ev_ret _))
      | false =>
        rw [hp] at hf
        obtain ⟨r, h3, h4⟩ := ih (n + 1) (by omega) (by omega)
        refine ⟨r, Ev.step (fun k => hL k _) (ev_pos (by omega) (ev_pos (by omega) (ev_pos (by omega) ?_))), by rw [h4]; rfl⟩
        rw [getD_of hx, wrap_nat hn (by omega)]
        exact ev_bind hf (ev_neg (by simp) h3)
  have := key xs.length 0 (by omega) (by omega)
  simpa using this
theorem ev_contains {α : Type} {da : α} (L : Nat → Int → Option Int) (F : Nat → α → Option Bool) (xs : List α) (p : α → Bool) (hl : xs.length ≤ 9223372036854775807)
    (hL : ∀ k i, L (k + 1) i = if i < (xs.length : Int) then (if 0 ≤ i then (if i < (xs.length : Int) then ((F k (xs.getD i.toNat da)).bind fun t => if t = true then some i else L k (wrap64 (i + 1))) else none) else none) else some (-1))
    (hF : ∀ x ∈ xs, Ev (fun k => F k x) (p x)) : Ev (fun k => (L k 0).bind fun t => some (decide (t ≥ 0))) (xs.any p) := by
  obtain ⟨r, h1, h2⟩ := ev_index L F xs p hl hL hF
  exact ev_bind h1 (ev_eq (ev_ret _) h2)
def pickGo (p : Nat → Bool) : Nat → Nat → List Int → List Int
  | 0, _, s => s
  | d + 1, n, s => pickGo p d (n + 1) (if p n = true then s ++ [(n : Int)] else s)
def pickP (p : Nat → Bool) (m : Nat) : List Int := pickGo p m 0 []
theorem pickGo_congr {p q : Nat → Bool} : ∀ (d n : Nat) (s : List Int), (∀ i, n ≤ i → i < n + d → p i = q i) → pickGo p d n s = pickGo q d n s
  | 0, _, _, _ => rfl
  | d + 1, n, s, h => by
    unfold pickGo
    rw [h n (Nat.le_refl _) (by omega)]
    exact pickGo_congr d (n + 1) _ fun i h1 h2 => h i (by omega) (by omega)
theorem pickP_congr {p q : Nat → Bool} {m : Nat} (h : ∀ i, i < m → p i = q i) : pickP p m = pickP q m := pickGo_congr m 0 [] fun i _ h2 => h i (by omega)
theorem pickGo_len (p : Nat → Bool) : ∀ (d n : Nat) (s : List Int), (pickGo p d n s).length ≤ s.length + d
  | 0, _, _ => Nat.le_refl _
  | d + 1, n, s => by
    unfold pickGo
    have h := pickGo_len p d (n + 1) (if p n = true then s ++ [(n : Int)] else s)
    split at h <;> rename_i e
    · rw [if_pos e]; simp at h ⊢; omega
    · rw [if_neg e]; omega
theorem pickP_len (p : Nat → Bool) (m : Nat) : (pickP p m).length ≤ m := by
  have := pickGo_len p m 0 []
  simpa [pickP] using this
theorem ev_pick (L : Nat → List Int → Int → Option (List Int)) (p : Nat → Bool) (m : Nat) (hend : ∀ s, s.length ≤ m → Ev (fun k => L k s (m : Int)) s)
    (hstep : ∀ (n : Nat) s R, n < m → s.length ≤ n → Ev (fun k => L k (if p n = true then s ++ [(n : Int)] else s) ((n + 1 : Nat) : Int)) R → Ev (fun k => L k s (n : Int)) R) : Ev (fun k => L k [] 0) (pickP p m) := by
  have key : ∀ d n : Nat, m - n = d → n ≤ m → ∀ s : List Int, s.length ≤ n → Ev (fun k => L k s (n : Int)) (pickGo p d n s) := by
    intro d
    induction d with
    | zero =>
      intro n h1 h2 s hs
      have : n = m := by omega
      subst this
      exact hend s hs
    | succ d ih =>
      intro n h1 h2 s hs
      refine hstep n s _ (by omega) hs ?_
      unfold pickGo
      exact ih (n + 1) (by omega) (by omega) _ (by split <;> (try simp only [List.length_append, List.length_singleton]) <;> omega)
  exact key m 0 (by omega) (by omega) [] (by simp)
theorem impl_listOf_ev (l : List Bool) (hl : l.length ≤ 1048576) : Ev (fun k => impl_listOf.f k l) (pickP (fun n => l.getD n false) l.length) := by
  unfold impl_listOf.f
  refine ev_pick (fun k s i => impl_listOf.l0 k s l (l.length : Int) i) _ l.length (fun s hs => ?_) (fun n s R hn hs ih => ?_)
  · refine Ev.step (fun k => by rw [impl_listOf.l0]) ?_
    exact ev_neg (by omega) (ev_bind (g := fun _ => impl_clone_int.f s) (ev_fix (by unfold impl_clone_int.f; rw [if_pos (by omega)])) (ev_ret _))
  · refine Ev.step (fun k => by rw [impl_listOf.l0]) ?_
    rw [wrap_nat hn (by omega)]
    refine ev_pos (by omega) (ev_pos (by omega) (ev_pos (by omega) ?_))
    have e : rdOf false l (n : Int) = l.getD n false := rfl
    rw [e]
    by_cases h : l.getD n false = true
    · rw [if_pos h] at ih
      exact ev_pos h (ev_pos (by omega) ih)
    · rw [if_neg h] at ih
      exact ev_neg h ih
theorem listOf_table (g : Nat → Bool) (m : Nat) (hm : m ≤ 1048576) : Ev (fun k => impl_listOf.f k ((List.range m).map g)) (pickP g m) := by
  have := impl_listOf_ev ((List.range m).map g) (by simpa using hm)
  refine ev_eq this ?_
  rw [List.length_map, List.length_range]
  refine pickP_congr fun i hi => ?_
  simp [List.getD_eq_getElem?_getD, hi]
def bitNum (l : List Int) : Int := foldN (fun _ s x => wrap64 (wrap64 (2 * s) + x)) 0 0 l
def areBits (l : List Int) : Bool := l.all fun x => inR x 0 1
def sumN : List IVar → Nat
  | [] => 0
  | v :: vs => (bitsP (spanP v)).toNat + sumN vs
theorem sumN_le : ∀ vs : List IVar, sumN vs ≤ 5 * vs.length
  | [] => by simp [sumN]
  | v :: vs => by
    have := sumN_le vs
    have := bitsP_in (spanP v)
    simp only [sumN, List.length_cons]
    omega
def bstGo : List IVar → List Int → List Int
  | [], _ => []
  | v :: vs, bits => wrap64 (v.f0 + bitNum (bits.take (bitsP (spanP v)).toNat)) :: bstGo vs (bits.drop (bitsP (spanP v)).toNat)
def firstP (vars : List IVar) : List Int := vars.map (·.f2)
theorem spec_FirstState_ev (vars : List IVar) (rules : List IRule) : Ev (fun k => spec_FirstState.f k vars rules) (if sysP vars rules = true then firstP vars else []) := by
  unfold spec_FirstState.f
  by_cases h : sysP vars rules = true
  · rw [if_pos h]
    have hl := (sysP_and h).1
    have := ev_fold (fun k s i => spec_FirstState.l0 k s i vars rules) vars (fun _ s x => s ++ [x.f2]) (fun s => s) (fun n s => s.length = n)
      (fun s hs => Ev.step (fun k => by rw [spec_FirstState.l0]) (ev_neg (by omega) (ev_ret _)))
      (fun n s x R hn hx hs ih => by
        refine Ev.step (fun k => by rw [spec_FirstState.l0]) ?_
        rw [show rd_IVar vars (n : Int) = x from getD_of hx, wrap_nat hn (by omega)]
        exact ev_pos (by omega) (ev_bind (ev_eq (spec_SystemValid_ev _ _) h) (ev_pos rfl (ev_pos (by omega) (ev_pos (by omega) ih)))))
      (fun n s x hn hx hs => by simp [hs]) [] rfl
    rw [foldN_push] at this
    simpa [firstP] using this
  · rw [if_neg h]
    have h' : sysP vars rules = false := by simpa using h
    refine Ev.step (fun k => by rw [spec_FirstState.l0]) ?_
    by_cases e : vars = []
    · subst e; exact ev_neg (by simp) (ev_ret _)
    · have : 0 < vars.length := List.length_pos_iff.2 e
      exact ev_pos (by omega) (ev_bind (ev_eq (spec_SystemValid_ev _ _) h') (ev_neg (by simp) (ev_ret _)))
theorem firstP_len {vars : List IVar} : (firstP vars).length = vars.length := by simp [firstP]
theorem spec_l3Copy_ev (l : List Int) (hl : l.length ≤ 1048576) : Ev (fun k => spec_l3Copy.f k l) l := by
  unfold spec_l3Copy.f
  have := ev_fold (fun k s i => spec_l3Copy.l0 k l s i) l (fun _ s x => s ++ [x]) (fun s => s) (fun n s => s.length = n)
    (fun s hs => Ev.step (fun k => by rw [spec_l3Copy.l0]) (ev_neg (by omega) (ev_ret _)))
    (fun n s x R hn hx hs ih => by
      refine Ev.step (fun k => by rw [spec_l3Copy.l0]) ?_
      rw [show rd l (n : Int) = x from getD_of hx, wrap_nat hn (by omega)]
      exact ev_pos (by omega) (ev_pos (by omega) (ev_pos (by omega) ih)))
    (fun n s x hn hx hs => by simp [hs]) [] rfl
  rw [foldN_push (fun x => x)] at this
  simpa using this
def spanW (v : IVar) : Int := wrap64 (wrap64 (v.f1 - v.f0) + 1)
def atGo (vars : List IVar) : Nat → Int → List Int → List Int
  | 0, _, out => out
  | i + 1, n, out => atGo vars i (wrap64 (Int.tdiv n (spanW (vars.getD i zIVar)))) (out.set i (wrap64 ((vars.getD i zIVar).f0 + Int.tmod n (spanW (vars.getD i zIVar)))))
def atP (vars : List IVar) (n : Int) : List Int := atGo vars vars.length n (List.replicate vars.length 0)
theorem atGo_any (vars : List IVar) : ∀ (i : Nat) (n : Int) (a b : List Int), a.length = b.length → (∀ j, i ≤ j → a[j]? = b[j]?) → atGo vars i n a = atGo vars i n b
  | 0, n, a, b, _, h => List.ext_getElem? fun j => h j (Nat.zero_le j)
  | i + 1, n, a, b, hl, h => by
    unfold atGo
    refine atGo_any vars i _ _ _ (by simp [hl]) fun j hj => ?_
    by_cases e : j = i
    · subst e; simp [List.getElem?_set, hl]
    · rw [List.getElem?_set, List.getElem?_set, if_neg (by omega), if_neg (by omega)]
      exact h j (by omega)
theorem atGo_length (vars : List IVar) : ∀ (i : Nat) (n : Int) (a : List Int), (atGo vars i n a).length = a.length
  | 0, _, _ => rfl
  | i + 1, n, a => by unfold atGo; rw [atGo_length]; simp
theorem atP_length (vars : List IVar) (n : Int) : (atP vars n).length = vars.length := by unfold atP; rw [atGo_length]; simp
theorem rd_IVar_nat (vars : List IVar) (i : Nat) : rd_IVar vars (i : Int) = vars.getD i zIVar := rfl
theorem spanW_eq {v : IVar} (h : varP v = true) : spanW v = spanP v := span_w h
theorem impl_stateAt_ev {vars : List IVar} (rules : List IRule) (hl : vars.length ≤ 5) (hv : vars.all varP = true) (n : Int) : Ev (fun k => impl_stateAt.f k vars rules n) (atP vars n) := by
  unfold impl_stateAt.f
  refine ev_pos (by omega) (ev_pos (by omega) (ev_bind (ev_ret _) ?_))
  have key : ∀ i : Nat, i ≤ vars.length → ∀ (n : Int) (out : List Int), out.length = vars.length → Ev (fun k => impl_stateAt.l0 k n out ((i : Int) - 1) vars rules) (atGo vars i n out) := by
    intro i
    induction i with
    | zero =>
      intro _ n out _
      refine Ev.step (fun k => by rw [impl_stateAt.l0]) ?_
      exact ev_neg (by omega) (ev_ret _)
    | succ i ih =>
      intro hi n out ho
      refine Ev.step (fun k => by rw [impl_stateAt.l0]) ?_
      rw [show ((i + 1 : Nat) : Int) - 1 = (i : Int) by omega, rd_IVar_nat, show wrap64 ((i : Int) - 1) = (i : Int) - 1 from wrap_in (by omega) (by omega)]
      have hx : vars.getD i zIVar ∈ vars := by rw [List.getD_eq_getElem?_getD, List.getElem?_eq_getElem (show i < vars.length by omega)]; exact List.getElem_mem _
      have hs := spanP_in (List.all_eq_true.1 hv _ hx)
      have hw := spanW_eq (List.all_eq_true.1 hv _ hx)
      refine ev_pos (by omega) (ev_pos (by omega) (ev_pos (by omega) (ev_neg (by show ¬ spanW _ = 0; omega) (ev_pos (by omega) ?_))))
      exact ih (by omega) _ _ (by simpa using ho)
  have h0 : wrap64 (((List.replicate ((vars.length : Int)).toNat (0 : Int)).length : Int) - 1) = (vars.length : Int) - 1 := by
    rw [List.length_replicate]
    exact (wrap_in (by omega) (by omega)).trans (by omega)
  rw [h0]
  have := key vars.length (Nat.le_refl _) n (List.replicate ((vars.length : Int)).toNat 0) (by simp)
  simpa [atP] using this
theorem spec_l4State_ev {vars : List IVar} {rules : List IRule} (h : sysP vars rules = true) (n : Int) : Ev (fun k => spec_l4State.f k vars rules n) (atP vars n) := by
  unfold spec_l4State.f
  obtain ⟨h1, _, hv, _⟩ := sysP_and h
  have hF : Ev (fun k => spec_FirstState.f k vars rules) (firstP vars) := by
    have := spec_FirstState_ev vars rules
    rwa [if_pos h] at this
  refine ev_bind hF (ev_bind (spec_l3Copy_ev _ (by rw [firstP_len]; omega)) ?_)
  have key : ∀ i : Nat, i ≤ vars.length → ∀ (n : Int) (out : List Int), out.length = vars.length → Ev (fun k => spec_l4State.l0 k n out ((i : Int) - 1) vars rules) (atGo vars i n out) := by
    intro i
    induction i with
    | zero =>
      intro _ n out _
      refine Ev.step (fun k => by rw [spec_l4State.l0]) ?_
      exact ev_neg (by omega) (ev_ret _)
    | succ i ih =>
      intro hi n out ho
      refine Ev.step (fun k => by rw [spec_l4State.l0]) ?_
      rw [show ((i + 1 : Nat) : Int) - 1 = (i : Int) by omega, rd_IVar_nat, show wrap64 ((i : Int) - 1) = (i : Int) - 1 from wrap_in (by omega) (by omega)]
      have hx : vars.getD i zIVar ∈ vars := by rw [List.getD_eq_getElem?_getD, List.getElem?_eq_getElem (show i < vars.length by omega)]; exact List.getElem_mem _
      have hs := spanP_in (List.all_eq_true.1 hv _ hx)
      have hw := spanW_eq (List.all_eq_true.1 hv _ hx)
      refine ev_pos (by omega) (ev_pos (by omega) (ev_pos (by omega) (ev_neg (by show ¬ spanW _ = 0; omega) (ev_pos (by omega) ?_))))
      exact ih (by omega) _ _ (by simpa using ho)
  rw [show wrap64 ((vars.length : Int) - 1) = (vars.length : Int) - 1 from wrap_in (by omega) (by omega)]
  refine ev_eq (key vars.length (Nat.le_refl _) n (firstP vars) firstP_len) ?_
  exact atGo_any vars _ n _ _ (by simp [firstP_len]) fun j hj => by
    rw [List.getElem?_eq_none (by rw [firstP_len]; exact hj), List.getElem?_eq_none (by simpa using hj)]
def sizeofP (vars : List IVar) (rules : List IRule) : Int := if sysP vars rules = true then sizeP vars else 0
theorem sizeofP_in (vars : List IVar) (rules : List IRule) : 0 ≤ sizeofP vars rules ∧ sizeofP vars rules ≤ 400 := by
  unfold sizeofP
  split
  · rename_i h; have := sizeP_in h; omega
  · omega
theorem stateGo_of : ∀ (vs : List IVar) (st : List Int), (∀ (j : Nat) v x, vs[j]? = some v → st[j]? = some x → inR x v.f0 v.f1 = true) → stateGo vs st = true
  | [], _, _ => by simp [stateGo]
  | _ :: _, [], _ => by simp [stateGo]
  | v :: vs, x :: xs, h => by
    simp only [stateGo, Bool.and_eq_true]
    exact ⟨h 0 v x rfl rfl, stateGo_of vs xs fun j w y h1 h2 => h (j + 1) w y (by simpa using h1) (by simpa using h2)⟩
theorem atGo_in {vars : List IVar} (hv : vars.all varP = true) : ∀ (i : Nat) (n : Int) (out : List Int), i ≤ vars.length → 0 ≤ n → n ≤ 4611686018427387904 → out.length = vars.length →
    (∀ (j : Nat) v x, i ≤ j → vars[j]? = some v → out[j]? = some x → inR x v.f0 v.f1 = true) → ∀ (j : Nat) v x, vars[j]? = some v → (atGo vars i n out)[j]? = some x → inR x v.f0 v.f1 = true
  | 0, n, out, _, _, _, _, h, j, v, x, h1, h2 => h j v x (Nat.zero_le j) h1 h2
  | i + 1, n, out, hi, h0, hn, hl, h, j, v, x, h1, h2 => by
    unfold atGo at h2
    have hx : vars[i]? = some (vars.getD i zIVar) := by rw [List.getD_eq_getElem?_getD, List.getElem?_eq_getElem (show i < vars.length by omega)]; rfl
    generalize vars.getD i zIVar = w at hx h2
    have hw := List.all_eq_true.1 hv w (List.mem_of_getElem? hx)
    have hs := spanP_in hw
    have hsp := varP_span hw
    rw [spanW_eq hw] at h2
    have e1 : 0 ≤ Int.tmod n (spanP w) := Int.tmod_nonneg _ h0
    have e2 : Int.tmod n (spanP w) < spanP w := Int.tmod_lt_of_pos n (by omega)
    have e3 : 0 ≤ Int.tdiv n (spanP w) := Int.tdiv_nonneg h0 (by omega)
    have e4 : Int.tdiv n (spanP w) ≤ n := by rw [Int.tdiv_eq_ediv_of_nonneg h0]; exact Int.ediv_le_self _ h0
    have hspan : spanP w = w.f1 - w.f0 + 1 := rfl
    rw [show wrap64 (Int.tdiv n (spanP w)) = Int.tdiv n (spanP w) from wrap_in (by omega) (by omega), show wrap64 (w.f0 + Int.tmod n (spanP w)) = w.f0 + Int.tmod n (spanP w) from wrap_in (by omega) (by omega)] at h2
    refine atGo_in hv i _ _ (by omega) e3 (by omega) (by simpa using hl) (fun j' v' x' hj k1 k2 => ?_) j v x h1 h2
    rw [List.getElem?_set] at k2
    split at k2
    · rename_i e
      subst e
      rw [if_pos (by omega)] at k2
      obtain rfl := Option.some.inj k2
      obtain rfl := Option.some.inj (hx.symm.trans k1)
      exact inR_iff.2 (by omega)
    · exact h j' v' x' (by omega) k1 k2
theorem atP_in {vars : List IVar} (hv : vars.all varP = true) {n : Int} (h0 : 0 ≤ n) (hn : n ≤ 4611686018427387904) : inRangeP vars (atP vars n) = true := by
  unfold inRangeP
  rw [Bool.and_eq_true, decide_eq_true_eq]
  refine ⟨atP_length vars n, stateGo_of _ _ fun j v x h1 h2 => ?_⟩
  unfold atP at h2
  exact atGo_in hv vars.length n _ (Nat.le_refl _) h0 hn (by simp) (fun j v x hj k1 _ => by
    rw [List.getElem?_eq_none hj] at k1; cases k1) j v x h1 h2
def sizeN (V : List IVar) : Nat := (sizeP V).toNat
theorem sizeN_in {V : List IVar} {R : List IRule} (h : sysP V R = true) : (sizeN V : Int) = sizeP V ∧ sizeN V ≤ 400 := by
  have := sizeP_in h
  unfold sizeN
  omega
def hasGo : List Int → List Int → Bool
  | c :: cs, b :: bs => (c == 2 || c == b) && hasGo cs bs
  | _, _ => true
theorem spec_l16Has_ev (cube bits : List Int) (hl : cube.length ≤ 9223372036854775807) (hb : bits.length = cube.length) : Ev (fun k => spec_l16Has.f k cube bits) (hasGo cube bits) := by
  unfold spec_l16Has.f
  have key : ∀ d n : Nat, cube.length - n = d → n ≤ cube.length → Ev (fun k => spec_l16Has.l0 k cube bits (n : Int)) (hasGo (cube.drop n) (bits.drop n)) := by
    intro d
    induction d with
    | zero =>
      intro n h1 h2
      have : n = cube.length := by omega
      subst this
      rw [List.drop_length]
      refine Ev.step (fun k => by rw [spec_l16Has.l0]) ?_
      exact ev_neg (by omega) (ev_eq (ev_ret _) (by simp [hasGo]))
    | succ d ih =>
      intro n h1 h2
      have hn : n < cube.length := by omega
      have hn' : n < bits.length := by omega
      have ih := ih (n + 1) (by omega) (by omega)
      rw [List.drop_eq_getElem_cons hn, List.drop_eq_getElem_cons hn']
      unfold hasGo
      refine Ev.step (fun k => by rw [spec_l16Has.l0]) ?_
      rw [show rd cube (n : Int) = cube[n] from getD_of (List.getElem?_eq_getElem hn), show rd bits (n : Int) = bits[n] from getD_of (List.getElem?_eq_getElem hn'), wrap_nat hn (by omega)]
      refine ev_pos (by omega) (ev_pos (by omega) ?_)
      by_cases e : cube[n] = 2
      · exact ev_pos e (ev_eq ih (by simp [e]))
      · refine ev_neg e (ev_pos (by omega) ?_)
        by_cases e2 : cube[n] = bits[n]
        · exact ev_pos e2 (ev_eq ih (by simp [e2]))
        · exact ev_neg e2 (ev_eq (ev_ret _) (by simp [e, e2]))
  have := key cube.length 0 (by omega) (by omega)
  simpa using this
theorem impl_cubeHas_ev (cube bits : List Int) (hl : cube.length ≤ 9223372036854775807) (hb : bits.length = cube.length) : Ev (fun k => impl_cubeHas.f k cube bits) (hasGo cube bits) := by
  unfold impl_cubeHas.f
  have key : ∀ d n : Nat, cube.length - n = d → n ≤ cube.length → Ev (fun k => impl_cubeHas.l0 k bits cube (cube.length : Int) (n : Int)) (hasGo (cube.drop n) (bits.drop n)) := by
    intro d
    induction d with
    | zero =>
      intro n h1 h2
      have : n = cube.length := by omega
      subst this
      rw [List.drop_length]
      refine Ev.step (fun k => by rw [impl_cubeHas.l0]) ?_
      exact ev_neg (by omega) (ev_eq (ev_ret _) (by simp [hasGo]))
    | succ d ih =>
      intro n h1 h2
      have hn : n < cube.length := by omega
      have hn' : n < bits.length := by omega
      have ih := ih (n + 1) (by omega) (by omega)
      rw [List.drop_eq_getElem_cons hn, List.drop_eq_getElem_cons hn']
      unfold hasGo
      refine Ev.step (fun k => by rw [impl_cubeHas.l0]) ?_
      rw [show rd cube (n : Int) = cube[n] from getD_of (List.getElem?_eq_getElem hn), show rd bits (n : Int) = bits[n] from getD_of (List.getElem?_eq_getElem hn'), wrap_nat hn (by omega)]
      refine ev_pos (by omega) (ev_pos (by omega) (ev_pos (by omega) ?_))
      by_cases e : cube[n] = 2
      · exact ev_pos e (ev_eq ih (by simp [e]))
      · refine ev_neg e (ev_pos (by omega) ?_)
        by_cases e2 : cube[n] = bits[n]
        · exact ev_pos e2 (ev_eq ih (by simp [e2]))
        · exact ev_neg e2 (ev_eq (ev_ret _) (by simp [e, e2]))
  have := key cube.length 0 (by omega) (by omega)
  simpa using this
theorem foldApp {α : Type} {g : α → List Int} : ∀ (xs : List α) (n : Nat) (s : List Int), (foldN (fun _ s p => s ++ g p) n s xs).length = s.length + (xs.map fun x => (g x).length).sum
  | [], n, s => by simp [foldN]
  | x :: r, n, s => by
    unfold foldN
    rw [foldApp r, List.length_append, List.map_cons, List.sum_cons]
    omega
theorem stBits_sum : ∀ (V : List IVar) (st : List Int), st.length = V.length → (∀ p ∈ V.zip st, (rowP p).length = (bitsP (spanP p.1)).toNat) → ((V.zip st).map fun x => (rowP x).length).sum = sumN V
  | [], [], _, _ => rfl
  | v :: V, x :: st, hl, h => by
    rw [List.zip_cons_cons, List.map_cons, List.sum_cons, h (v, x) (by simp), stBits_sum V st (by simpa using hl) (fun p hp => h p (by simp [hp]))]
    rfl
theorem stBits_length {V : List IVar} {R : List IRule} {st : List Int} (h : sysP V R = true) (hi : inRangeP V st = true) : (stBitsP V st).length = sumN V := by
  unfold stBitsP
  rw [foldApp, List.length_nil, Nat.zero_add]
  refine stBits_sum V st (inRangeP_len hi) fun p hp => ?_
  obtain ⟨n, hn, e⟩ := List.mem_iff_getElem.1 hp
  obtain ⟨p1, p2, p3⟩ := pair_in h hi (n := n) (p := p) (by rw [List.getElem?_eq_getElem hn, e])
  have hb := bitsP_in (spanP p.1)
  have := (vb_at (n := p.2 - p.1.f0) (by omega) hb).2.2
  unfold rowP
  omega
def inCube (V : List IVar) (cube : List Int) (n : Nat) : Bool := hasGo cube (stBitsP V (atP V n))
theorem at_in {V : List IVar} {R : List IRule} (h : sysP V R = true) {n : Nat} (hn : n < sizeN V) : inRangeP V (atP V n) = true := by
  have hs := sizeN_in h
  exact atP_in (sysP_and h).2.2.1 (n := (n : Int)) (by omega) (by omega)
theorem spec_l16States_ev {V : List IVar} {R : List IRule} {cube : List Int} (h : sysP V R = true) (hc : cube.length = sumN V) : Ev (fun k => spec_l16States.f k V R cube) (pickP (inCube V cube) (sizeN V)) := by
  have hs := sizeN_in h
  have hsum := sumN_le V
  have s1 := (sysP_and h).1
  have hz : Ev (fun k => spec_SizeOf.f k V R) (sizeN V : Int) := ev_eq (spec_SizeOf_ev V R) (by rw [if_pos h, hs.1])
  unfold spec_l16States.f
  refine ev_pick (fun k s i => spec_l16States.l0 k cube s i V R) _ _ (fun s hs' => ?_) (fun n s Q hn hs' ih => ?_)
  · refine Ev.step (fun k => by rw [spec_l16States.l0]) ?_
    exact ev_bind hz (ev_neg (by omega) (ev_ret _))
  · refine Ev.step (fun k => by rw [spec_l16States.l0]) ?_
    have hi := at_in h hn
    rw [wrap_nat hn (by omega)]
    refine ev_bind hz (ev_pos (by omega) (ev_bind (spec_l4State_ev h n) (ev_bind (spec_l6State_ev h hi) (ev_bind (spec_l16Has_ev cube _ (by omega) (by rw [stBits_length h hi, hc])) ?_))))
    by_cases e : inCube V cube n = true
    · rw [if_pos e] at ih
      exact ev_pos e (ev_pos (by omega) ih)
    · rw [if_neg e] at ih
      exact ev_neg e ih
theorem impl_cubeStates_ev {V : List IVar} {R : List IRule} {cube : List Int} (h : sysP V R = true) (hc : cube.length = sumN V) : Ev (fun k => impl_cubeStates.f k V R cube) (pickP (inCube V cube) (sizeN V)) := by
  have hs := sizeN_in h
  have hsum := sumN_le V
  obtain ⟨s1, _, s3, _⟩ := sysP_and h
  unfold impl_cubeStates.f
  refine ev_bind (impl_size_ev V (by omega)) (ev_pos (by omega) (ev_pos (by omega) (ev_bind (ev_ret _) ?_)))
  have e : (((List.replicate (sizeP V).toNat false).length : Nat) : Int) = (sizeN V : Int) := by rw [List.length_replicate]; rfl
  rw [e]
  refine ev_table (fun k ys i => impl_cubeStates.l0 k cube ys (sizeN V : Int) i V R) (sizeN V) (inCube V cube) false _ ?_ (fun n ys Q hn hy ih => ?_)
  · refine Ev.step (fun k => by rw [impl_cubeStates.l0]) ?_
    exact ev_neg (by omega) (ev_bind (listOf_table _ _ (by omega)) (ev_ret _))
  · refine Ev.step (fun k => by rw [impl_cubeStates.l0]) ?_
    have hi := at_in h hn
    rw [wrap_nat hn (by omega)]
    exact ev_pos (by omega) (ev_bind (impl_stateAt_ev R s1.2 s3 n) (ev_bind (impl_stateBits_ev h hi) (ev_bind (impl_cubeHas_ev cube _ (by omega) (by rw [stBits_length h hi, hc])) (ev_pos (by omega) (ev_pos (by omega) ih)))))
def setGo (set : List Int) (most : Int) : Nat → List Int → Bool
  | _, [] => true
  | n, x :: r => (inR x 0 (most - 1) && !(decide (0 < n) && decide (x ≤ set.getD (n - 1) 0))) && setGo set most (n + 1) r
def setP (set : List Int) (most : Int) : Bool := setGo set most 0 set
theorem rd_prev {set : List Int} {n : Nat} (h0 : 0 < n) (h : n ≤ 9223372036854775807) : rd set (wrap64 ((n : Int) - 1)) = set.getD (n - 1) 0 := by
  rw [wrap_in (by omega) (by omega), show ((n : Int) - 1) = ((n - 1 : Nat) : Int) by omega]
  rfl
theorem rd_at {set : List Int} {n : Nat} (h : n < set.length) : rd set (n : Int) = set[n] := getD_of (List.getElem?_eq_getElem h)
theorem impl_setOk_ev (set : List Int) (most : Int) (hm : 0 ≤ most ∧ most ≤ 400) (hl : set.length ≤ 9223372036854775807) : Ev (fun k => impl_setOk.f k set most) (setP set most) := by
  unfold impl_setOk.f setP
  have key : ∀ d n : Nat, set.length - n = d → n ≤ set.length → Ev (fun k => impl_setOk.l0 k set most set (set.length : Int) (n : Int)) (setGo set most n (set.drop n)) := by
    intro d
    induction d with
    | zero =>
      intro n e1 e2
      have : n = set.length := by omega
      subst this
      rw [List.drop_length]
      refine Ev.step (fun k => by rw [impl_setOk.l0]) ?_
      exact ev_neg (by omega) (ev_ret _)
    | succ d ih =>
      intro n e1 e2
      have hn : n < set.length := by omega
      rw [List.drop_eq_getElem_cons hn]
      unfold setGo
      refine Ev.step (fun k => by rw [impl_setOk.l0]) ?_
      refine ev_pos (by omega) (ev_pos (by omega) (ev_pos (by omega) ?_))
      rw [impl_in_eq, rd_at hn, wrap_in (x := most - 1) (by omega) (by omega)]
      simp only [Option.bind_some]
      cases h1 : inR set[n] 0 (most - 1) with
      | false => exact ev_neg (by simp) (Ev.step (fun k => by rw [impl_setOk.j1]) (ev_pos rfl (ev_eq (ev_ret _) (by simp))))
      | true =>
        refine ev_pos rfl ?_
        by_cases h0 : 0 < n
        · refine ev_pos (by omega) (ev_pos (by rw [wrap_in] <;> omega) (ev_pos (by rw [wrap_in] <;> omega) ?_))
          rw [rd_prev h0 (by omega)]
          refine Ev.step (fun k => by rw [impl_setOk.j1]) ?_
          by_cases h2 : set[n] ≤ set.getD (n - 1) 0
          · exact ev_pos (by simpa using h2) (ev_eq (ev_ret _) (by simp only [h0, h2, decide_true]; rfl))
          · refine ev_neg (by simpa using h2) ?_
            rw [wrap_nat hn (by omega)]
            exact ev_eq (ih (n + 1) (by omega) (by omega)) (by simp only [h0, h2, decide_true, decide_false]; rfl)
        · refine ev_neg (by omega) (Ev.step (fun k => by rw [impl_setOk.j1]) (ev_neg (by simp) ?_))
          rw [wrap_nat hn (by omega)]
          exact ev_eq (ih (n + 1) (by omega) (by omega)) (by simp only [h0, decide_false]; rfl)
  have := key set.length 0 (by omega) (by omega)
  simpa using this
theorem spec_SetValid_ev (vars : List IVar) (rules : List IRule) (set : List Int) (hl : set.length ≤ 9223372036854775807) :
    Ev (fun k => spec_SetValid.f k vars rules set) (sysP vars rules && setP set (sizeP vars)) := by
  unfold spec_SetValid.f
  refine ev_bind (spec_SizeOf_ev vars rules) ?_
  have key : ∀ most : Int, 0 ≤ most ∧ most ≤ 400 → ∀ d n : Nat, set.length - n = d → n ≤ set.length → Ev (fun k => spec_SetValid.l0 k set most (n : Int)) (setGo set most n (set.drop n) && decide (most > 0)) := by
    intro most hm d
    induction d with
    | zero =>
      intro n e1 e2
      have : n = set.length := by omega
      subst this
      rw [List.drop_length]
      refine Ev.step (fun k => by rw [spec_SetValid.l0]) ?_
      exact ev_neg (by omega) (ev_eq (ev_ret _) (by simp [setGo]))
    | succ d ih =>
      intro n e1 e2
      have hn : n < set.length := by omega
      rw [List.drop_eq_getElem_cons hn]
      unfold setGo
      refine Ev.step (fun k => by rw [spec_SetValid.l0]) ?_
      refine ev_pos (by omega) (ev_pos (by omega) ?_)
      rw [spec_l1In_eq, rd_at hn, wrap_in (x := most - 1) (by omega) (by omega)]
      simp only [Option.bind_some]
      cases h1 : inR set[n] 0 (most - 1) with
      | false => exact ev_neg (by simp) (Ev.step (fun k => by rw [spec_SetValid.j1]) (ev_pos rfl (ev_eq (ev_ret _) (by simp))))
      | true =>
        refine ev_pos rfl ?_
        by_cases h0 : 0 < n
        · refine ev_pos (by omega) (ev_pos (by rw [wrap_in] <;> omega) (ev_pos (by rw [wrap_in] <;> omega) ?_))
          rw [rd_prev h0 (by omega)]
          refine Ev.step (fun k => by rw [spec_SetValid.j1]) ?_
          by_cases h2 : set[n] ≤ set.getD (n - 1) 0
          · exact ev_pos (by simpa using h2) (ev_eq (ev_ret _) (by simp only [h0, h2, decide_true]; rfl))
          · refine ev_neg (by simpa using h2) ?_
            rw [wrap_nat hn (by omega)]
            exact ev_eq (ih (n + 1) (by omega) (by omega)) (by simp only [h0, h2, decide_true, decide_false]; rfl)
        · refine ev_neg (by omega) (Ev.step (fun k => by rw [spec_SetValid.j1]) (ev_neg (by simp) ?_))
          rw [wrap_nat hn (by omega)]
          exact ev_eq (ih (n + 1) (by omega) (by omega)) (by simp only [h0, decide_false]; rfl)
  cases hs : sysP vars rules with
  | false =>
    have := key 0 (by omega) set.length 0 (by omega) (by omega)
    simpa using this
  | true =>
    have hb := sizeP_in hs
    have := key (sizeP vars) (by omega) set.length 0 (by omega) (by omega)
    have hd : decide (sizeP vars > 0) = true := by simp; omega
    rw [hd] at this
    simpa [setP] using this
theorem impl_SetValid_ev (vars : List IVar) (rules : List IRule) (set : List Int) (hl : set.length ≤ 9223372036854775807) (hrl : rules.length ≤ 9223372036854775807) (hr : ∀ r ∈ rules, r.f1.length ≤ 9223372036854775807) :
    Ev (fun k => impl_SetValid.f k vars rules set) (sysP vars rules && setP set (sizeP vars)) := by
  unfold impl_SetValid.f
  refine ev_bind (impl_SystemValid_ev vars rules hrl hr) ?_
  cases hs : sysP vars rules with
  | false => exact ev_neg (by simp) (ev_eq (ev_ret _) (by simp))
  | true =>
    have hb := sizeP_in hs
    have hv := (sysP_and hs).1
    exact ev_pos rfl (ev_bind (impl_size_ev vars (by omega)) (ev_bind (impl_setOk_ev set _ (by omega) hl) (ev_eq (ev_ret _) (by simp))))
theorem setGo_mem {most : Int} (set : List Int) : ∀ (l : List Int) (n : Nat), setGo set most n l = true → ∀ x ∈ l, inR x 0 (most - 1) = true
  | y :: r, n, h, x, hx => by
    simp only [setGo, Bool.and_eq_true] at h
    rcases List.mem_cons.1 hx with rfl | hx
    · exact h.1.1
    · exact setGo_mem set r (n + 1) h.2 x hx
theorem setP_at {V : List IVar} {R : List IRule} {set : List Int} (h : sysP V R = true) (hs : setP set (sizeP V) = true) {x : Int} (hx : x ∈ set) : inRangeP V (atP V x) = true ∧ 0 ≤ x := by
  have h1 := inR_iff.1 (setGo_mem set set 0 hs x hx)
  have h2 := sizeP_in h
  exact ⟨atP_in (sysP_and h).2.2.1 h1.1 (by omega), h1.1⟩
theorem impl_allBits_ev {V : List IVar} {R : List IRule} {set : List Int} (h : sysP V R = true) (hi : ∀ x ∈ set, inRangeP V (atP V x) = true) (hl : set.length ≤ 1048576) : Ev (fun k => impl_allBits.f k V R set) (set.map (fun n => stBitsP V (atP V n))) := by
  unfold impl_allBits.f
  obtain ⟨s1, _, s3, _⟩ := sysP_and h
  have := ev_fold (fun k s i => impl_allBits.l0 k s set (set.length : Int) i V R) set (fun _ s x => s ++ [stBitsP V (atP V x)]) (fun s => s) (fun n s => s.length = n)
    (fun s hs => by
      refine Ev.step (fun k => by rw [impl_allBits.l0]) ?_
      exact ev_neg (by omega) (ev_bind (g := fun _ => impl_clone_Lint.f s) (ev_fix (by unfold impl_clone_Lint.f; rw [if_pos (by omega)])) (ev_ret _)))
    (fun n s x Q hn hx hs ih => by
      refine Ev.step (fun k => by rw [impl_allBits.l0]) ?_
      rw [show rd set (n : Int) = x from getD_of hx, wrap_nat hn (by omega)]
      exact ev_pos (by omega) (ev_pos (by omega) (ev_pos (by omega) (ev_bind (impl_stateAt_ev R s1.2 s3 x) (ev_bind (impl_stateBits_ev h (hi x (List.mem_of_getElem? hx))) (ev_pos (by omega) ih))))))
    (fun n s x hn hx hs => by simp [hs]) [] rfl
  rw [foldN_push] at this
  simpa using this
theorem spec_l4Set_ev (l : List Int) (hl : l.length ≤ 1048576) : Ev (fun k => spec_l4Set.f k l) (setP l 400) := by
  unfold spec_l4Set.f setP
  have key : ∀ d n : Nat, l.length - n = d → n ≤ l.length → Ev (fun k => spec_l4Set.l0 k l (n : Int)) (setGo l 400 n (l.drop n)) := by
    intro d
    induction d with
    | zero =>
      intro n h1 h2
      have : n = l.length := by omega
      subst this
      rw [List.drop_length]
      refine Ev.step (fun k => by rw [spec_l4Set.l0]) ?_
      exact ev_neg (by omega) (ev_ret _)
    | succ d ih =>
      intro n h1 h2
      have hn : n < l.length := by omega
      have ih := ih (n + 1) (by omega) (by omega)
      have j (b : Bool) : Ev (fun k => spec_l4Set.j1 k l (n : Int) b) (!b && setGo l 400 (n + 1) (l.drop (n + 1))) := by
        refine Ev.step (fun k => by rw [spec_l4Set.j1, wrap_nat hn (by omega)]) ?_
        cases b with
        | true => exact ev_pos rfl (ev_eq (ev_ret _) (by simp))
        | false => exact ev_neg (by simp) (ev_eq ih (by simp))
      rw [List.drop_eq_getElem_cons hn]
      simp only [setGo]
      refine Ev.step (fun k => by rw [spec_l4Set.l0, spec_l1In_eq, rd_at hn]) ?_
      refine ev_pos (by omega) (ev_pos (by omega) (ev_bind (ev_ret _) ?_))
      rw [show (400 : Int) - 1 = 399 by decide]
      cases q : inR l[n] 0 399 with
      | false => exact ev_neg (by simp) (ev_eq (j true) (by simp))
      | true =>
        refine ev_pos rfl ?_
        by_cases h0 : 0 < n
        · have w := wrap_in (x := (n : Int) - 1) (by omega) (by omega)
          refine ev_pos (by omega) (ev_pos (by omega) (ev_pos (by omega) ?_))
          rw [rd_prev h0 (by omega)]
          exact ev_eq (j _) (by rw [decide_eq_true h0]; simp)
        · exact ev_neg (by omega) (ev_eq (j false) (by simp [h0]))
  have := key l.length 0 (by omega) (by omega)
  simpa using this
theorem setP_of {l : List Int} {most : Int} (hp : l.Pairwise (· < ·)) (hr : ∀ x ∈ l, 0 ≤ x ∧ x ≤ most - 1) : setP l most = true := by
  have key : ∀ d n : Nat, l.length - n = d → n ≤ l.length → setGo l most n (l.drop n) = true := by
    intro d
    induction d with
    | zero =>
      intro n h1 h2
      rw [show n = l.length by omega, List.drop_length]
      rfl
    | succ d ih =>
      intro n h1 h2
      have hn : n < l.length := by omega
      rw [List.drop_eq_getElem_cons hn]
      simp only [setGo, Bool.and_eq_true]
      refine ⟨⟨inR_iff.2 (hr _ (List.getElem_mem hn)), ?_⟩, ih (n + 1) (by omega) (by omega)⟩
      by_cases h0 : 0 < n
      · have : l[n - 1] < l[n] := List.pairwise_iff_getElem.1 hp (n - 1) n (by omega) hn (by omega)
        rw [List.getD_eq_getElem?_getD, List.getElem?_eq_getElem (show n - 1 < l.length by omega), Option.getD_some, decide_eq_false (show ¬ l[n] ≤ l[n - 1] by omega)]
        simp
      · simp [h0]
  have := key l.length 0 (by omega) (by omega)
  simpa [setP] using this
theorem setGo_mono (set : List Int) {a b : Int} (h : a ≤ b) : ∀ (l : List Int) (n : Nat), setGo set a n l = true → setGo set b n l = true
  | [], _, _ => rfl
  | x :: l, n, k => by
    simp only [setGo, Bool.and_eq_true] at k ⊢
    have := inR_iff.1 k.1.1
    exact ⟨⟨inR_iff.2 (by omega), k.1.2⟩, setGo_mono set h l (n + 1) k.2⟩
theorem pickGo_sorted (p : Nat → Bool) : ∀ (d n : Nat) (s : List Int), s.Pairwise (· < ·) → (∀ x ∈ s, 0 ≤ x ∧ x < (n : Int)) → (pickGo p d n s).Pairwise (· < ·) ∧ ∀ x ∈ pickGo p d n s, 0 ≤ x ∧ x < ((n + d : Nat) : Int)
  | 0, n, s, h, k => ⟨h, fun x hx => k x hx⟩
  | d + 1, n, s, h, k => by
    unfold pickGo
    have step : (if p n = true then s ++ [(n : Int)] else s).Pairwise (· < ·) ∧ ∀ x ∈ (if p n = true then s ++ [(n : Int)] else s), 0 ≤ x ∧ x < ((n + 1 : Nat) : Int) := by
      by_cases e : p n = true
      · rw [if_pos e]
        refine ⟨List.pairwise_append.2 ⟨h, List.pairwise_singleton _ _, fun a ha b hb => by rw [List.mem_singleton.1 hb]; exact (k a ha).2⟩, fun x hx => ?_⟩
        rcases List.mem_append.1 hx with hx | hx
        · have := k x hx; omega
        · rw [List.mem_singleton.1 hx]; omega
      · rw [if_neg e]
        exact ⟨h, fun x hx => by have := k x hx; omega⟩
    obtain ⟨a, b⟩ := pickGo_sorted p d (n + 1) _ step.1 step.2
    exact ⟨a, fun x hx => by have := b x hx; omega⟩
theorem pickP_set (p : Nat → Bool) {m : Nat} (h : m ≤ 400) : setP (pickP p m) 400 = true := by
  obtain ⟨a, b⟩ := pickGo_sorted p m 0 [] List.Pairwise.nil (by simp)
  exact setP_of a fun x hx => by have := b x hx; omega
theorem pickGo_mem (p : Nat → Bool) : ∀ (d n : Nat) (s : List Int) (x : Int), x ∈ pickGo p d n s ↔ (x ∈ s ∨ ∃ i : Nat, n ≤ i ∧ i < n + d ∧ p i = true ∧ x = i)
  | 0, n, s, x => ⟨.inl, fun h => h.elim id fun ⟨i, h1, h2, _⟩ => by omega⟩
  | d + 1, n, s, x => by
    unfold pickGo
    rw [pickGo_mem p d (n + 1)]
    constructor
    · rintro (h | ⟨i, h1, h2, h3, h4⟩)
      · by_cases e : p n = true
        · rw [if_pos e] at h
          rcases List.mem_append.1 h with h | h
          · exact .inl h
          · exact .inr ⟨n, Nat.le_refl _, by omega, e, List.mem_singleton.1 h⟩
        · rw [if_neg e] at h; exact .inl h
      · exact .inr ⟨i, by omega, by omega, h3, h4⟩
    · rintro (h | ⟨i, h1, h2, h3, h4⟩)
      · left
        split
        · exact List.mem_append_left _ h
        · exact h
      · by_cases e : i = n
        · left
          subst e
          rw [if_pos h3, h4]
          exact List.mem_append_right _ List.mem_cons_self
        · exact .inr ⟨i, by omega, by omega, h3, h4⟩
theorem pickP_mem {p : Nat → Bool} {m : Nat} {x : Int} : x ∈ pickP p m ↔ ∃ i : Nat, i < m ∧ p i = true ∧ x = i := by
  unfold pickP
  rw [pickGo_mem]
  simp
theorem pickP_nil {p : Nat → Bool} {m : Nat} : (pickP p m).length = 0 ↔ ∀ i, i < m → p i = false := by
  constructor
  · intro h i hi
    cases e : p i with
    | false => rfl
    | true =>
      have : (i : Int) ∈ pickP p m := pickP_mem.2 ⟨i, hi, e, rfl⟩
      rw [List.eq_nil_of_length_eq_zero h] at this
      cases this
  · intro h
    rcases Nat.eq_zero_or_pos (pickP p m).length with e | e
    · exact e
    · obtain ⟨i, h1, h2, _⟩ := pickP_mem.1 (List.getElem_mem e)
      rw [h i h1] at h2
      cases h2
def marksP (l : List Int) : List Bool := (List.range 400).map fun (i : Nat) => decide ((i : Int) ∈ l)
theorem spec_l4Marks_ev (l : List Int) (hl : l.length ≤ 1048576) (h : setP l 400 = true) : Ev (fun k => spec_l4Marks.f k l 400) (marksP l) := by
  unfold spec_l4Marks.f
  refine ev_pos (by omega) (ev_pos (by decide) ?_)
  have hr : ∀ x ∈ l, 0 ≤ x ∧ x ≤ 399 := fun x hx => by have := inR_iff.1 (setGo_mem l l 0 h x hx); omega
  have key : ∀ d n : Nat, l.length - n = d → n ≤ l.length → Ev (fun k => spec_l4Marks.l0 k l (marksP (l.take n)) (n : Int)) (marksP l) := by
    intro d
    induction d with
    | zero =>
      intro n h1 h2
      have : n = l.length := by omega
      subst this
      rw [List.take_length]
      refine Ev.step (fun k => by rw [spec_l4Marks.l0]) ?_
      exact ev_neg (by omega) (ev_ret _)
    | succ d ih =>
      intro n h1 h2
      have hn : n < l.length := by omega
      have hx := hr _ (List.getElem_mem hn)
      refine Ev.step (fun k => by rw [spec_l4Marks.l0, rd_at hn, wrap_nat hn (by omega)]) ?_
      have hlen : (marksP (l.take n)).length = 400 := by simp [marksP]
      refine ev_pos (by omega) (ev_pos (by omega) (ev_pos (by omega) (ev_pos (by rw [hlen]; omega) ?_)))
      have e : (marksP (l.take n)).set l[n].toNat true = marksP (l.take (n + 1)) := by
        apply List.ext_getElem
        · simp [marksP]
        · intro i h1 h2
          have hi : i < 400 := by simpa [marksP] using h2
          rw [List.getElem_set]
          simp only [marksP, List.getElem_map, List.getElem_range, List.take_succ_eq_append_getElem hn, List.mem_append, List.mem_singleton]
          by_cases e : l[n].toNat = i
          · rw [if_pos e]
            have : (i : Int) = l[n] := by omega
            simp [this]
          · rw [if_neg e]
            have : ¬ (i : Int) = l[n] := by omega
            simp [this]
      rw [e]
      exact ih (n + 1) (by omega) (by omega)
  have := key l.length 0 (by omega) (by omega)
  have e : marksP (l.take 0) = List.replicate (400 : Int).toNat false := by
    unfold marksP
    rw [show (400 : Int).toNat = 400 from rfl, List.eq_replicate_iff]
    refine ⟨by rw [List.length_map, List.length_range], fun b hb => ?_⟩
    obtain ⟨i, _, rfl⟩ := List.mem_map.1 hb
    rw [List.take_zero]
    simp
  rw [e] at this
  exact this
theorem marks_at {l : List Int} {i : Nat} (h : i < 400) : rdOf false (marksP l) (i : Int) = decide ((i : Int) ∈ l) := by
  unfold rdOf
  rw [List.getD_eq_getElem?_getD, show ((i : Int)).toNat = i by omega, List.getElem?_eq_getElem (by simpa [marksP] using h)]
  simp [marksP]
theorem spec_SetBoth_ev (a b : List Int) (ha : a.length ≤ 1048576) (hb : b.length ≤ 1048576) (sa : setP a 400 = true) (sb : setP b 400 = true) : Ev (fun k => spec_SetBoth.f k a b) (pickP (fun i => decide ((i : Int) ∈ a) && decide ((i : Int) ∈ b)) 400) := by
  unfold spec_SetBoth.f spec_l4Mix.f
  refine ev_bind ?_ (ev_ret _)
  refine ev_bind (ev_eq (spec_l4Set_ev a ha) sa) (ev_pos rfl (ev_bind (ev_eq (spec_l4Set_ev b hb) sb) (ev_pos rfl (ev_bind (spec_l4Marks_ev a ha sa) (ev_bind (spec_l4Marks_ev b hb sb) ?_)))))
  have hA : (marksP a).length = 400 := by simp [marksP]
  have hB : (marksP b).length = 400 := by simp [marksP]
  refine ev_pick (fun k s i => spec_l4Mix.l1 k s i 0 (marksP a) (marksP b)) _ 400 (fun s hs => ?_) (fun n s Q hn hs ih => ?_)
  · refine Ev.step (fun k => by rw [spec_l4Mix.l1]) ?_
    exact ev_neg (by omega) (ev_ret _)
  · refine Ev.step (fun k => by rw [spec_l4Mix.l1, wrap_nat (show n < 400 from hn) (by omega), marks_at hn, marks_at hn]) ?_
    refine ev_pos (by omega) (ev_pos rfl (ev_pos (by omega) (ev_pos (by rw [hA]; omega) ?_)))
    by_cases e1 : (n : Int) ∈ a
    · refine ev_pos (by simpa using e1) (ev_pos (by omega) (ev_pos (by rw [hB]; omega) ?_))
      by_cases e2 : (n : Int) ∈ b
      · rw [if_pos (by simp [e1, e2])] at ih
        exact ev_pos (by simpa using e2) (ev_pos (by omega) ih)
      · rw [if_neg (by simp [e2])] at ih
        exact ev_neg (by simpa using e2) (ev_neg (by omega) (ev_neg (by omega) ih))
    · rw [if_neg (by simp [e1])] at ih
      exact ev_neg (by simpa using e1) (ev_neg (by omega) (ev_neg (by omega) ih))
def freeP (V : List IVar) (out cube : List Int) : Bool := !out.any fun n => hasGo cube (stBitsP V (atP V n))
def wideGo (V : List IVar) (out : List Int) : Nat → Nat → List Int → List Int
  | 0, _, s => s
  | d + 1, n, s => wideGo V out d (n + 1) (if freeP V out (s.set n 2) = true then s.set n 2 else s)
theorem wideGo_length (V : List IVar) (out : List Int) : ∀ (d n : Nat) (s : List Int), (wideGo V out d n s).length = s.length
  | 0, _, _ => rfl
  | d + 1, n, s => by
    unfold wideGo
    rw [wideGo_length V out d (n + 1)]
    split <;> simp
theorem free_iff {V : List IVar} {R : List IRule} {out cube : List Int} (h : sysP V R = true) (hs : setP out (sizeP V) = true) : (pickP (fun i => decide ((i : Int) ∈ pickP (inCube V cube) (sizeN V)) && decide ((i : Int) ∈ out)) 400).length = 0 ↔ freeP V out cube = true := by
  have hz := sizeN_in h
  rw [pickP_nil]
  unfold freeP
  rw [Bool.not_eq_true', List.any_eq_false]
  constructor
  · intro k x hx
    have hr := inR_iff.1 (setGo_mem out out 0 hs x hx)
    obtain ⟨i, rfl⟩ : ∃ i : Nat, x = i := ⟨x.toNat, by omega⟩
    have hi : i < sizeN V := by omega
    have := k i (by omega)
    intro hc
    rw [Bool.and_eq_false_iff] at this
    rcases this with this | this
    · rw [decide_eq_false_iff_not] at this
      exact this (pickP_mem.2 ⟨i, hi, hc, rfl⟩)
    · rw [decide_eq_false_iff_not] at this
      exact this hx
  · intro k i hi
    rw [Bool.and_eq_false_iff]
    by_cases e : (i : Int) ∈ out
    · left
      rw [decide_eq_false_iff_not]
      intro hm
      obtain ⟨j, h1, h2, h3⟩ := pickP_mem.1 hm
      obtain rfl : i = j := by omega
      exact k _ e h2
    · right
      rw [decide_eq_false_iff_not]; exact e
theorem impl_hasNone_1_ev {V : List IVar} {R : List IRule} {out cube : List Int} (h : sysP V R = true) (hs : setP out (sizeP V) = true) (ho : out.length ≤ 1048576) (hcl : cube.length ≤ 1048576) (hc : cube.length = sumN V) : Ev (fun k => impl_hasNone_1.f k cube (out.map fun n => stBitsP V (atP V n))) (freeP V out cube) := by
  unfold impl_hasNone_1.f slices_ContainsFunc_int_int_at_impl_hasNone_1_1.f slices_IndexFunc_int_int_at_impl_hasNone_1_1.f
  refine ev_bind (ev_contains (da := ([] : List Int)) (fun k i => slices_IndexFunc_int_int_at_impl_hasNone_1_1.l1 k i (out.map fun n => stBitsP V (atP V n)) cube) (fun k x => impl_hasNone_1_1.f k x cube) (out.map fun n => stBitsP V (atP V n)) (fun x => hasGo cube x) (by rw [List.length_map]; omega)
    (fun k i => by rw [slices_IndexFunc_int_int_at_impl_hasNone_1_1.l1]; rfl) (fun x hx => ?_)) (ev_eq (ev_ret _) ?_)
  · obtain ⟨n, hn, rfl⟩ := List.mem_map.1 hx
    obtain ⟨hi, _⟩ := setP_at h hs hn
    unfold impl_hasNone_1_1.f
    exact ev_bind (impl_cubeHas_ev cube _ (by omega) (by rw [stBits_length h hi, hc])) (ev_ret _)
  · unfold freeP
    rw [List.any_map]
    rfl
theorem impl_marks_ev (l : List Int) (hl : l.length ≤ 1048576) (h : setP l 400 = true) : Ev (fun k => impl_marks.f k l 400) (marksP l) := by
  unfold impl_marks.f
  refine ev_pos (by omega) (ev_pos (by decide) ?_)
  have hr : ∀ x ∈ l, 0 ≤ x ∧ x ≤ 399 := fun x hx => by have := inR_iff.1 (setGo_mem l l 0 h x hx); omega
  have key : ∀ d n : Nat, l.length - n = d → n ≤ l.length → Ev (fun k => impl_marks.l0 k (marksP (l.take n)) l (l.length : Int) (n : Int)) (marksP l) := by
    intro d
    induction d with
    | zero =>
      intro n h1 h2
      have : n = l.length := by omega
      subst this
      rw [List.take_length]
      refine Ev.step (fun k => by rw [impl_marks.l0]) ?_
      exact ev_neg (by omega) (ev_ret _)
    | succ d ih =>
      intro n h1 h2
      have hn : n < l.length := by omega
      have hx := hr _ (List.getElem_mem hn)
      refine Ev.step (fun k => by rw [impl_marks.l0, rd_at hn, wrap_nat hn (by omega)]) ?_
      have hlen : (marksP (l.take n)).length = 400 := by simp [marksP]
      refine ev_pos (by omega) (ev_pos (by omega) (ev_pos (by omega) (ev_pos (by omega) (ev_pos (by rw [hlen]; omega) ?_))))
      have e : (marksP (l.take n)).set l[n].toNat true = marksP (l.take (n + 1)) := by
        apply List.ext_getElem
        · simp [marksP]
        · intro i h1 h2
          have hi : i < 400 := by simpa [marksP] using h2
          rw [List.getElem_set]
          simp only [marksP, List.getElem_map, List.getElem_range, List.take_succ_eq_append_getElem hn, List.mem_append, List.mem_singleton]
          by_cases e : l[n].toNat = i
          · rw [if_pos e]
            have : (i : Int) = l[n] := by omega
            simp [this]
          · rw [if_neg e]
            have : ¬ (i : Int) = l[n] := by omega
            simp [this]
      rw [e]
      exact ih (n + 1) (by omega) (by omega)
  have := key l.length 0 (by omega) (by omega)
  have e : marksP (l.take 0) = List.replicate (400 : Int).toNat false := by
    unfold marksP
    rw [show (400 : Int).toNat = 400 from rfl, List.eq_replicate_iff]
    refine ⟨by rw [List.length_map, List.length_range], fun b hb => ?_⟩
    obtain ⟨i, _, rfl⟩ := List.mem_map.1 hb
    rw [List.take_zero]
    simp
  rw [e] at this
  exact this
theorem impl_SetBoth_ev (a b : List Int) (ha : a.length ≤ 1048576) (hb : b.length ≤ 1048576) (sa : setP a 400 = true) (sb : setP b 400 = true) : Ev (fun k => impl_SetBoth.f k a b) (pickP (fun i => decide ((i : Int) ∈ a) && decide ((i : Int) ∈ b)) 400) := by
  unfold impl_SetBoth.f loop_example_wholecheck_impl_setOf_at_impl_SetBoth_1.f
  refine ev_bind (ev_bind (ev_eq (impl_setOk_ev a 400 (by omega) (by omega)) sa) (ev_pos rfl (ev_bind (ev_eq (impl_setOk_ev b 400 (by omega) (by omega)) sb) ?_))) (ev_ret _)
  refine Ev.step (fun k => by rw [loop_example_wholecheck_impl_setOf_at_impl_SetBoth_1.j0]) ?_
  refine ev_neg (by simp) (ev_bind (impl_marks_ev a ha sa) (ev_bind (impl_marks_ev b hb sb) (ev_pos (by omega) (ev_bind (ev_ret _) ?_))))
  have hA : (marksP a).length = 400 := by simp [marksP]
  have hB : (marksP b).length = 400 := by simp [marksP]
  rw [List.length_replicate]
  refine ev_table (fun k ys i => loop_example_wholecheck_impl_setOf_at_impl_SetBoth_1.l0 k (marksP a) (marksP b) ys ((400 : Nat) : Int) i) 400 (fun i => decide ((i : Int) ∈ a) && decide ((i : Int) ∈ b)) false _ ?_ (fun n ys Q hn hy ih => ?_)
  · refine Ev.step (fun k => by rw [loop_example_wholecheck_impl_setOf_at_impl_SetBoth_1.l0]) ?_
    exact ev_neg (by omega) (ev_bind (listOf_table _ _ (by omega)) (ev_ret _))
  · refine Ev.step (fun k => by rw [loop_example_wholecheck_impl_setOf_at_impl_SetBoth_1.l0]) ?_
    rw [wrap_nat hn (by omega), marks_at hn, marks_at hn]
    refine ev_pos (by omega) (ev_pos (by omega) (ev_pos (by omega) (ev_pos (by omega) (ev_bind (ev_fix (r := decide ((n : Int) ∈ a) && decide ((n : Int) ∈ b)) ?_) (ev_pos (by omega) ih)))))
    unfold impl_SetBoth_1.f
    cases decide ((n : Int) ∈ a) <;> simp
theorem spec_SetWithout_tot (a b : List Int) (ha : a.length ≤ 1048576) (hb : b.length ≤ 1048576) : Tot (fun k => spec_SetWithout.f k a b) (fun r => r.length ≤ 400) := by
  unfold spec_SetWithout.f spec_l4Mix.f
  refine tot_bind (R := fun r => r.length ≤ 400) (tot_bind (tot_ev (Q := fun r => r = setP a 400) (spec_l4Set_ev a ha) rfl) fun r1 q1 => ?_) fun r q => tot_ret q
  subst q1
  refine tot_ite (fun sa => tot_bind (tot_ev (Q := fun r => r = setP b 400) (spec_l4Set_ev b hb) rfl) fun r2 q2 => ?_) fun _ => tot_ret (by simp)
  subst q2
  refine tot_ite (fun sb => ?_) fun _ => tot_ret (by simp)
  refine tot_bind (tot_ev (Q := fun r => r = marksP a) (spec_l4Marks_ev a ha sa) rfl) fun r3 q3 => tot_bind (tot_ev (Q := fun r => r = marksP b) (spec_l4Marks_ev b hb sb) rfl) fun r4 q4 => ?_
  subst q3 q4
  have hA : (marksP a).length = 400 := by simp [marksP]
  have hB : (marksP b).length = 400 := by simp [marksP]
  refine tot_ev (ev_pick (fun k s i => spec_l4Mix.l1 k s i 2 (marksP a) (marksP b)) (fun i => decide ((i : Int) ∈ a) && !decide ((i : Int) ∈ b)) 400 (fun s hs => ?_) (fun n s Q hn hs ih => ?_)) (pickP_len _ _)
  · refine Ev.step (fun k => by rw [spec_l4Mix.l1]) ?_
    exact ev_neg (by omega) (ev_ret _)
  · refine Ev.step (fun k => by rw [spec_l4Mix.l1, wrap_nat (show n < 400 from hn) (by omega), marks_at hn, marks_at hn]) ?_
    refine ev_pos (by omega) (ev_neg (by omega) (ev_neg (by omega) (ev_pos rfl (ev_pos (by omega) (ev_pos (by omega) ?_)))))
    by_cases e1 : (n : Int) ∈ a
    · refine ev_pos (by simpa using e1) (ev_pos (by omega) (ev_pos (by omega) ?_))
      by_cases e2 : (n : Int) ∈ b
      · rw [if_neg (by simp [e2])] at ih
        exact ev_pos (by simpa using e2) ih
      · rw [if_pos (by simp [e1, e2])] at ih
        exact ev_neg (by simpa using e2) (ev_pos (by omega) ih)
    · rw [if_neg (by simp [e1])] at ih
      exact ev_neg (by simpa using e1) ih
theorem l4Some_tot {b : List Int} (hb : ByteL b) (V : List IVar) (R : List IRule) (hV : V.length ≤ 1048576) (hz : 0 ≤ sizeofP V R ∧ sizeofP V R ≤ 400) {p : Int} (h0 : 0 ≤ p) (h1 : p ≤ 1000000) : Tot (fun k => spec_l4Some.f k b p V R) (fun r => p ≤ r.1 ∧ r.1 ≤ p + 500 ∧ r.2.length ≤ 401) := by
  unfold spec_l4Some.f
  refine tot_bind (tot_ev (Q := fun r => r = sizeofP V R) (spec_SizeOf_ev V R) rfl) fun r1 q1 => tot_bind (num_tot hb h0 (by omega) _ (by simp)) fun r2 q2 => ?_
  subst q1
  have e2 := q2.1
  have key : ∀ d n : Nat, (sizeofP V R - n).toNat = d → n ≤ 400 → ∀ (p' : Int) (x5 : List Int), p ≤ p' → p' + d ≤ p + 410 → x5.length ≤ n → Tot (fun k => spec_l4Some.l1 k p' x5 (n : Int) b (sizeofP V R) r2) (fun r => p ≤ r.1 ∧ r.1 ≤ p + 500 ∧ r.2.length ≤ 401) := by
    intro d
    induction d with
    | zero =>
      intro n g1 g2 p' x5 a1 a2 a3
      refine tot_step (fun k => by rw [spec_l4Some.l1]) ?_
      refine tot_neg (by omega) (tot_bind (pick_tot hb (by omega) (by omega) _) fun r4 q4 => ?_)
      have e4 := q4.1
      exact tot_ite (fun _ => tot_bind (num_tot hb (by omega) (by omega) _ (by simp)) fun r5 q5 => tot_pos (by omega) (tot_ret ⟨by simp only; omega, by simp only; omega, by simp <;> omega⟩)) fun _ => tot_ret ⟨by simp only; omega, by simp only; omega, by simp only; omega⟩
    | succ d ih =>
      intro n g1 g2 p' x5 a1 a2 a3
      refine tot_step (fun k => by rw [spec_l4Some.l1]) ?_
      refine tot_pos (by omega) (tot_bind (pick_tot hb (by omega) (by omega) _) fun r3 q3 => ?_)
      have e3 := q3.1
      rw [wrap_nat (n := n) (m := 401) (by omega) (by omega)]
      exact tot_ite (fun _ => tot_pos (by omega) (ih (n + 1) (by omega) (by omega) _ _ (by omega) (by omega) (by simp; omega))) fun _ => ih (n + 1) (by omega) (by omega) _ _ (by omega) (by omega) (by omega)
  exact key (sizeofP V R).toNat 0 (by omega) (by omega) _ [] (by omega) (by omega) (by simp)
theorem rise_ext : ∀ (a b : List Int), a.Pairwise (· < ·) → b.Pairwise (· < ·) → (∀ x, x ∈ a ↔ x ∈ b) → a = b
  | [], [], _, _, _ => rfl
  | [], y :: b, _, _, h => by have := (h y).2 List.mem_cons_self; cases this
  | x :: a, [], _, _, h => by have := (h x).1 List.mem_cons_self; cases this
  | x :: a, y :: b, ha, hb, h => by
    rw [List.pairwise_cons] at ha hb
    have e : x = y := by
      rcases List.mem_cons.1 ((h x).1 List.mem_cons_self) with e | e
      · exact e
      · rcases List.mem_cons.1 ((h y).2 List.mem_cons_self) with e2 | e2
        · exact e2.symm
        · have := hb.1 x e; have := ha.1 y e2; omega
    subst e
    rw [rise_ext a b ha.2 hb.2 fun z => ?_]
    constructor
    · intro hz
      rcases List.mem_cons.1 ((h z).1 (List.mem_cons_of_mem _ hz)) with e | e
      · subst e; have := ha.1 z hz; omega
      · exact e
    · intro hz
      rcases List.mem_cons.1 ((h z).2 (List.mem_cons_of_mem _ hz)) with e | e
      · subst e; have := hb.1 z hz; omega
      · exact e
theorem setGo_rise (set : List Int) (most : Int) : ∀ (l : List Int) (n : Nat), l = set.drop n → setGo set most n l = true → l.Pairwise (· < ·)
  | [], _, _, _ => List.Pairwise.nil
  | x :: l, n, e, h => by
    simp only [setGo, Bool.and_eq_true] at h
    have hl : l = set.drop (n + 1) := by
      have := congrArg List.tail e
      simpa using this
    have ih := setGo_rise set most l (n + 1) hl h.2
    refine List.pairwise_cons.2 ⟨fun y hy => ?_, ih⟩
    match l, hl, h.2, ih, hy with
    | z :: l, hl, h2, ih, hy =>
      simp only [setGo, Bool.and_eq_true] at h2
      have hx : set.getD n 0 = x := by
        have : set[n]? = some x := by rw [← List.head?_drop, ← e]; rfl
        rw [List.getD_eq_getElem?_getD, this]; rfl
      have hz := h2.1.2
      rw [show n + 1 - 1 = n by omega, hx] at hz
      have hxz : x < z := by
        simp at hz
        omega
      rcases List.mem_cons.1 hy with rfl | hy
      · exact hxz
      · have := (List.pairwise_cons.1 ih).1 y hy; omega
theorem setP_rise {l : List Int} {most : Int} (h : setP l most = true) : l.Pairwise (· < ·) := setGo_rise l most l 0 (by simp) h
theorem pickP_rise (p : Nat → Bool) (m : Nat) : (pickP p m).Pairwise (· < ·) := (pickGo_sorted p m 0 [] List.Pairwise.nil (by simp)).1
theorem setP_range {l : List Int} {most x : Int} (h : setP l most = true) (hx : x ∈ l) : 0 ≤ x ∧ x < most := by
  have := inR_iff.1 (setGo_mem l l 0 h x hx)
  omega
def cubeStep (V : List IVar) (out : List Int) (cs : List (List Int)) (n : Int) : List (List Int) :=
  if (cs.any fun c => hasGo c (stBitsP V (atP V n))) = true then cs else cs ++ [wideGo V out (stBitsP V (atP V n)).length 0 (stBitsP V (atP V n))]
def cubesGo (V : List IVar) (out : List Int) : List (List Int) → List Int → List (List Int)
  | cs, [] => cs
  | cs, n :: r => cubesGo V out (cubeStep V out cs n) r
def inSome (V : List IVar) (cs : List (List Int)) (n : Int) : Bool := cs.any fun c => hasGo c (stBitsP V (atP V n))
theorem has_any : ∀ (w c : List Int), w.length = c.length → (∀ i : Nat, w[i]? = some 2 ∨ w[i]? = c[i]?) → hasGo w c = true
  | [], _, _, _ => by simp [hasGo]
  | _ :: _, [], h, _ => by simp at h
  | x :: w, y :: c, h, k => by
    unfold hasGo
    rw [Bool.and_eq_true]
    refine ⟨?_, has_any w c (by simpa using h) fun i => by simpa using k (i + 1)⟩
    rcases k 0 with k | k
    · simp at k; simp [k]
    · simp at k; simp [k]
theorem wide_has (V : List IVar) (out : List Int) (c : List Int) : ∀ (d n : Nat) (s : List Int), s.length = c.length → (∀ i : Nat, s[i]? = some 2 ∨ s[i]? = c[i]?) → ∀ i : Nat, (wideGo V out d n s)[i]? = some 2 ∨ (wideGo V out d n s)[i]? = c[i]?
  | 0, _, s, _, h => h
  | d + 1, n, s, hl, h => by
    unfold wideGo
    refine wide_has V out c d (n + 1) _ (by split <;> simp [hl]) fun i => ?_
    split
    · rw [List.getElem?_set]
      split
      · split
        · exact .inl rfl
        · rename_i e1 e2; right; rw [List.getElem?_eq_none (by omega)]
      · exact h i
    · exact h i
theorem wide_free (V : List IVar) (out : List Int) : ∀ (d n : Nat) (s : List Int), freeP V out s = true → freeP V out (wideGo V out d n s) = true
  | 0, _, s, h => h
  | d + 1, n, s, h => by
    unfold wideGo
    refine wide_free V out d (n + 1) _ ?_
    split
    · assumption
    · exact h
theorem has_mono : ∀ (c w b : List Int), w.length = c.length → (∀ i : Nat, w[i]? = some 2 ∨ w[i]? = c[i]?) → hasGo c b = true → hasGo w b = true
  | [], w, b, hl, _, _ => by
    obtain rfl : w = [] := by simpa using hl
    simp [hasGo]
  | _ :: _, [], _, hl, _, _ => by simp at hl
  | x :: c, y :: w, [], hl, k, h => by simp [hasGo]
  | x :: c, y :: w, z :: b, hl, k, h => by
    unfold hasGo at h ⊢
    rw [Bool.and_eq_true] at h ⊢
    refine ⟨?_, has_mono c w b (by simpa using hl) (fun i => by simpa using k (i + 1)) h.2⟩
    rcases k 0 with k | k
    · simp at k; simp [k]
    · simp at k; rw [k]; exact h.1
theorem wide_most (V : List IVar) (out : List Int) : ∀ (d n : Nat) (s : List Int), n + d = s.length → freeP V out s = true → ∀ i, n ≤ i → i < s.length → (wideGo V out d n s)[i]? ≠ some 2 → freeP V out ((wideGo V out d n s).set i 2) = false
  | 0, n, s, hl, _, i, h1, h2, _ => by omega
  | d + 1, n, s, hl, hf, i, h1, h2, h3 => by
    unfold wideGo at h3 ⊢
    by_cases e : freeP V out (s.set n 2) = true
    · rw [if_pos e] at h3 ⊢
      by_cases hi : i = n
      · subst hi
        exfalso; apply h3
        have := wide_has V out (s.set i 2) d (i + 1) (s.set i 2) rfl (fun _ => .inr rfl) i
        rcases this with h | h
        · exact h
        · rw [h, List.getElem?_set_self (by omega)]
      · exact wide_most V out d (n + 1) (s.set n 2) (by rw [List.length_set]; omega) e i (by omega) (by rw [List.length_set]; omega) h3
    · rw [if_neg e] at h3 ⊢
      by_cases hi : i = n
      · subst hi
        have hw := wide_has V out s d (i + 1) s rfl (fun _ => .inr rfl)
        have hwl := wideGo_length V out d (i + 1) s
        generalize wideGo V out d (i + 1) s = w at *
        -- a state of the others is in the lesser cube
        unfold freeP at e ⊢
        rw [Bool.not_eq_true', Bool.not_eq_false, List.any_eq_true] at e
        obtain ⟨x, hx, hh⟩ := e
        rw [Bool.not_eq_false', List.any_eq_true]
        refine ⟨x, hx, has_mono (s.set i 2) (w.set i 2) _ (by simp [hwl]) (fun j => ?_) hh⟩
        by_cases hj : i = j
        · subst hj; left; rw [List.getElem?_set_self (by omega)]
        · rw [List.getElem?_set_ne hj, List.getElem?_set_ne hj]
          exact hw j
      · exact wide_most V out d (n + 1) s (by omega) hf i (by omega) h2 h3
theorem vb_num_all : ∀ m : Fin 6, ∀ n : Fin 32, n.val < 2 ^ m.val → bitNum (vbP (n.val : Int) (m.val : Int)) = (n.val : Int) ∧ areBits (vbP (n.val : Int) (m.val : Int)) = true := by decide +kernel
theorem vb_num {n m : Int} (h0 : 0 ≤ n) (hm : 0 ≤ m ∧ m ≤ 5) (h1 : n.toNat < 2 ^ m.toNat) : bitNum (vbP n m) = n ∧ areBits (vbP n m) = true := by
  obtain ⟨a, rfl⟩ := Int.eq_ofNat_of_zero_le h0
  obtain ⟨b, rfl⟩ := Int.eq_ofNat_of_zero_le hm.1
  have h2 : a < 2 ^ b := by simpa using h1
  have h3 : 2 ^ b ≤ 2 ^ 5 := Nat.pow_le_pow_right (by omega) (by omega)
  exact vb_num_all ⟨b, by omega⟩ ⟨a, by omega⟩ h2
theorem span_pow {m : Int} (h : 1 ≤ m ∧ m ≤ 20) : m.toNat ≤ 2 ^ (bitsP m).toNat := by
  unfold bitsP
  repeat' split
  all_goals (first | (show m.toNat ≤ 32; omega) | (show m.toNat ≤ 16; omega) | (show m.toNat ≤ 8; omega) | (show m.toNat ≤ 4; omega) | (show m.toNat ≤ 2; omega) | (show m.toNat ≤ 1; omega))
theorem fold_flat {α β : Type} (f : α → List β) : ∀ (l : List α) (n : Nat) (s : List β), foldN (fun _ s p => s ++ f p) n s l = s ++ (l.map f).flatten
  | [], n, s => by simp [foldN]
  | a :: l, n, s => by
    unfold foldN
    rw [fold_flat f l (n + 1)]
    simp
theorem stBitsP_cons (v : IVar) (vs : List IVar) (x : Int) (xs : List Int) : stBitsP (v :: vs) (x :: xs) = vbP (x - v.f0) (bitsP (spanP v)) ++ stBitsP vs xs := by
  unfold stBitsP
  rw [fold_flat, fold_flat]
  simp [rowP]
theorem stBitsP_nil (st : List Int) : stBitsP [] st = [] := by simp [stBitsP, foldN]
theorem trip_state : ∀ (vs : List IVar) (st : List Int), vs.all varP = true → st.length = vs.length → stateGo vs st = true → bstGo vs (stBitsP vs st) = st ∧ (stBitsP vs st).length = sumN vs ∧ areBits (stBitsP vs st) = true
  | [], [], _, _, _ => by simp [stBitsP_nil, bstGo, sumN, areBits]
  | [], _ :: _, _, h, _ => by simp at h
  | _ :: _, [], _, h, _ => by simp at h
  | v :: vs, x :: xs, hv, hl, hg => by
    simp only [List.all_cons, Bool.and_eq_true] at hv
    simp only [stateGo, Bool.and_eq_true] at hg
    have hr := inR_iff.1 hg.1
    have hs := varP_span hv.1
    have hb := bitsP_in (spanP v)
    have hsp := spanP_in hv.1
    have hspan : spanP v = v.f1 - v.f0 + 1 := rfl
    obtain ⟨i1, i2, i3⟩ := trip_state vs xs hv.2 (by simpa using hl) hg.2
    have hp := span_pow hsp
    obtain ⟨n1, n2⟩ := vb_num (n := x - v.f0) (by omega) hb (by omega)
    have hlen := (vb_at (n := x - v.f0) (m := bitsP (spanP v)) (by omega) hb).2.2
    have hln : (vbP (x - v.f0) (bitsP (spanP v))).length = (bitsP (spanP v)).toNat := by omega
    rw [stBitsP_cons]
    refine ⟨?_, by rw [List.length_append, i2, hln]; rfl, by simp only [areBits, List.all_append, Bool.and_eq_true]; exact ⟨n2, i3⟩⟩
    simp only [bstGo]
    rw [← hln, List.take_left, List.drop_left, n1, i1, wrap_in (by omega) (by omega)]
    congr 1
    omega
theorem inRangeP_go {vs : List IVar} {st : List Int} (h : inRangeP vs st = true) : st.length = vs.length ∧ stateGo vs st = true := by
  simp only [inRangeP, Bool.and_eq_true, decide_eq_true_eq] at h
  exact ⟨by omega, h.2⟩
theorem stBits_inj {vs : List IVar} {rs : List IRule} {a b : List Int} (h : sysP vs rs = true) (ha : inRangeP vs a = true) (hb : inRangeP vs b = true) (e : stBitsP vs a = stBitsP vs b) : a = b := by
  obtain ⟨_, _, s3, _⟩ := sysP_and h
  rw [← (trip_state vs a s3 (inRangeP_go ha).1 (inRangeP_go ha).2).1, e, (trip_state vs b s3 (inRangeP_go hb).1 (inRangeP_go hb).2).1]
def spN (v : IVar) : Nat := (spanP v).toNat
def prN : List IVar → Nat
  | [] => 1
  | v :: r => spN v * prN r
theorem spN_eq {v : IVar} (h : varP v = true) : ((spN v : Nat) : Int) = spanP v := by
  have := spanP_in h
  unfold spN; omega
theorem prN_eq : ∀ (vs : List IVar), vs.all varP = true → ((prN vs : Nat) : Int) = prodP vs
  | [], _ => rfl
  | v :: r, h => by
    simp only [List.all_cons, Bool.and_eq_true] at h
    simp only [prN, prodP]
    rw [Int.natCast_mul, spN_eq h.1, prN_eq r h.2]
def digs : List IVar → Nat → List Int
  | [], _ => []
  | v :: vs, n => (v.f0 + ((n / prN vs % spN v : Nat) : Int)) :: digs vs n
theorem digs_length : ∀ (vs : List IVar) (n : Nat), (digs vs n).length = vs.length
  | [], _ => rfl
  | v :: vs, n => by simp [digs, digs_length vs n]
theorem digs_at : ∀ (vs : List IVar) (n i : Nat) (v : IVar), vs[i]? = some v → (digs vs n)[i]? = some (v.f0 + ((n / prN (vs.drop (i + 1)) % spN v : Nat) : Int))
  | [], n, i, v, h => by simp at h
  | w :: vs, n, 0, v, h => by
    obtain rfl : w = v := by simpa using h
    simp [digs]
  | w :: vs, n, i + 1, v, h => by
    have := digs_at vs n i v (by simpa using h)
    simpa [digs] using this
theorem atGo_digs (vs : List IVar) (hv : vs.all varP = true) (n : Nat) (hn : n ≤ 1000000) : ∀ (i : Nat) (out : List Int), i ≤ vs.length → out.length = vs.length → (∀ j, i ≤ j → out[j]? = (digs vs n)[j]?) → atGo vs i ((n / prN (vs.drop i) : Nat) : Int) out = digs vs n
  | 0, out, _, _, h => List.ext_getElem? fun j => h j (Nat.zero_le j)
  | i + 1, out, hi, hl, h => by
    unfold atGo
    have hx : vs[i]? = some (vs.getD i zIVar) := by rw [List.getD_eq_getElem?_getD, List.getElem?_eq_getElem (show i < vs.length by omega)]; rfl
    have hd : vs.drop i = vs.getD i zIVar :: vs.drop (i + 1) := by
      rw [List.drop_eq_getElem_cons (show i < vs.length by omega)]
      congr 1
      rw [List.getElem?_eq_getElem (show i < vs.length by omega)] at hx
      exact Option.some.inj hx
    generalize vs.getD i zIVar = w at hx hd
    have hw := List.all_eq_true.1 hv w (List.mem_of_getElem? hx)
    have hs := spanP_in hw
    have hsp := varP_span hw
    have hN := spN_eq hw
    rw [spanW_eq hw, ← hN]
    have e1 : Int.tdiv ((n / prN (vs.drop (i + 1)) : Nat) : Int) ((spN w : Nat) : Int) = ((n / prN (vs.drop i) : Nat) : Int) := by
      rw [show Int.tdiv ((n / prN (vs.drop (i + 1)) : Nat) : Int) ((spN w : Nat) : Int) = ((n / prN (vs.drop (i + 1)) / spN w : Nat) : Int) from rfl, hd, prN, Nat.div_div_eq_div_mul, Nat.mul_comm]
    have e2 : Int.tmod ((n / prN (vs.drop (i + 1)) : Nat) : Int) ((spN w : Nat) : Int) = ((n / prN (vs.drop (i + 1)) % spN w : Nat) : Int) := rfl
    have b1 : n / prN (vs.drop i) ≤ n := Nat.div_le_self _ _
    have b0 : 0 ≤ ((n / prN (vs.drop i) : Nat) : Int) := Int.natCast_nonneg _
    have b2 : n / prN (vs.drop (i + 1)) % spN w < spN w := Nat.mod_lt _ (by omega)
    rw [e1, e2, wrap_in (x := ((n / prN (vs.drop i) : Nat) : Int)) (by omega) (by omega), wrap_in (by omega) (by omega)]
    refine atGo_digs vs hv n hn i _ (by omega) (by simpa using hl) fun j hj => ?_
    rw [List.getElem?_set]
    split
    · rename_i e
      subst e
      rw [if_pos (by omega), digs_at vs n i w hx]
    · exact h j (by omega)
theorem atP_digs {vs : List IVar} (hv : vs.all varP = true) {n : Nat} (hn : n ≤ 1000000) : atP vs (n : Int) = digs vs n := by
  unfold atP
  have := atGo_digs vs hv n hn vs.length (List.replicate vs.length 0) (Nat.le_refl _) (by simp) fun j hj => by
    rw [List.getElem?_eq_none (by simpa using hj), List.getElem?_eq_none (by rw [digs_length]; exact hj)]
  rw [List.drop_length, prN, Nat.div_one] at this
  exact this
theorem numGo_digs : ∀ (vs : List IVar) (n : Nat) (k s : Nat), vs.all varP = true → n ≤ 1000000 → (s + 1) * prN vs ≤ 1000000 → foldN (fun _ s p => numStep s p) k (s : Int) (vs.zip (digs vs n)) = ((s * prN vs + n % prN vs : Nat) : Int)
  | [], n, k, s, _, _, _ => by simp [foldN, prN, digs, Nat.mod_one]
  | v :: vs, n, k, s, h, hn, hs => by
    simp only [List.all_cons, Bool.and_eq_true] at h
    have hp := spanP_in h.1
    have hvp := varP_span h.1
    have hN := spN_eq h.1
    have hsl : n / prN vs % spN v < spN v := Nat.mod_lt _ (by omega)
    have hpr : 1 ≤ prN vs := by have := prN_eq vs h.2; have := prodP_pos vs h.2; omega
    simp only [prN] at hs ⊢
    have hb : (s + 1) * spN v ≤ 1000000 := Nat.le_trans (Nat.le_mul_of_pos_right _ hpr) (by rw [Nat.mul_assoc]; exact hs)
    have hsb : s * spN v + spN v ≤ 1000000 := by rw [Nat.succ_mul] at hb; exact hb
    have hstep : numStep (s : Int) (v, v.f0 + ((n / prN vs % spN v : Nat) : Int)) = ((s * spN v + n / prN vs % spN v : Nat) : Int) := by
      unfold numStep
      simp only
      rw [show wrap64 (wrap64 (v.f1 - v.f0) + 1) = ((spN v : Nat) : Int) from by rw [hN]; exact span_w h.1, ← Int.natCast_mul, wrap_in (x := ((s * spN v : Nat) : Int)) (by omega) (by omega), wrap_in (x := _ + (v.f0 + _)) (by omega) (by omega), wrap_in (by omega) (by omega)]
      omega
    simp only [digs, List.zip_cons_cons, foldN]
    rw [hstep, numGo_digs vs n (k + 1) _ h.2 hn ?_]
    · have e := @Nat.mod_mul (prN vs) (spN v) n
      rw [Nat.mul_comm (spN v) (prN vs), e]
      congr 1
      rw [Nat.add_mul, Nat.mul_assoc, Nat.mul_comm (spN v) (prN vs), Nat.mul_comm (n / prN vs % spN v) (prN vs)]
      omega
    · have : (s * spN v + n / prN vs % spN v + 1) * prN vs ≤ ((s + 1) * spN v) * prN vs := Nat.mul_le_mul_right _ (by rw [Nat.succ_mul]; omega)
      rw [Nat.mul_assoc] at this
      omega
theorem num_at {V : List IVar} {R : List IRule} (h : sysP V R = true) {n : Int} (hn : inR n 0 (sizeP V - 1) = true) : numP V (atP V n) = n := by
  obtain ⟨h1, _, h3, _, h5⟩ := sysP_and h
  have h0 := inR_iff.1 hn
  obtain ⟨m, rfl⟩ := Int.eq_ofNat_of_zero_le h0.1
  have e := sizeP_eq h1.2 h3
  have e2 := prN_eq V h3
  rw [atP_digs h3 (by omega)]
  unfold numP
  have := numGo_digs V m 0 0 h3 (by omega) (by omega)
  rw [Nat.zero_mul, Nat.zero_add, Nat.mod_eq_of_lt (by omega)] at this
  exact this
theorem has_bits : ∀ (x y : List Int), areBits x = true → x.length = y.length → hasGo x y = true → x = y
  | [], [], _, _, _ => rfl
  | [], _ :: _, _, h, _ => by simp at h
  | _ :: _, [], _, h, _ => by simp at h
  | a :: x, b :: y, hb, hl, h => by
    simp only [areBits, List.all_cons, Bool.and_eq_true] at hb
    unfold hasGo at h
    simp only [Bool.and_eq_true, Bool.or_eq_true, beq_iff_eq] at h
    have := inR_iff.1 hb.1
    rw [has_bits x y (by simpa [areBits] using hb.2) (by simpa using hl) h.2]
    rcases h.1 with e | e
    · omega
    · rw [e]
theorem bits_num {V : List IVar} {R : List IRule} (h : sysP V R = true) {a b : Int} (ha : 0 ≤ a ∧ a < sizeN V) (hb : 0 ≤ b ∧ b < sizeN V) (e : hasGo (stBitsP V (atP V a)) (stBitsP V (atP V b)) = true) : a = b := by
  obtain ⟨i, rfl⟩ := Int.eq_ofNat_of_zero_le ha.1
  obtain ⟨j, rfl⟩ := Int.eq_ofNat_of_zero_le hb.1
  have hz := sizeN_in h
  have hi := at_in (n := i) h (by omega)
  have hj := at_in (n := j) h (by omega)
  have hbits : areBits (stBitsP V (atP V i)) = true := (trip_state V _ (sysP_and h).2.2.1 (inRangeP_go hi).1 (inRangeP_go hi).2).2.2
  have e2 := has_bits _ _ hbits (by rw [stBits_length h hi, stBits_length h hj]) e
  have e3 := stBits_inj h hi hj e2
  have n1 := num_at h (n := (i : Int)) (inR_iff.2 (by omega))
  have n2 := num_at h (n := (j : Int)) (inR_iff.2 (by omega))
  rw [← n1, ← n2, e3]
structure CubeOk (V : List IVar) (out c : List Int) : Prop where
  len : c.length = sumN V
  val : ∀ x ∈ c, inR x 0 2 = true
  free : freeP V out c = true
  most : ∀ i, i < c.length → c[i]? ≠ some 2 → freeP V out (c.set i 2) = false
theorem bit_val {l : List Int} (h : areBits l = true) : ∀ x ∈ l, inR x 0 2 = true := fun x hx => by
  have := inR_iff.1 (List.all_eq_true.1 h x hx)
  exact inR_iff.2 (by omega)
theorem wide_val (V : List IVar) (out : List Int) : ∀ (d n : Nat) (s : List Int), (∀ x ∈ s, inR x 0 2 = true) → ∀ x ∈ wideGo V out d n s, inR x 0 2 = true
  | 0, _, s, h => h
  | d + 1, n, s, h => by
    unfold wideGo
    refine wide_val V out d (n + 1) _ fun x hx => ?_
    split at hx
    · rcases List.mem_or_eq_of_mem_set hx with hx | rfl
      · exact h x hx
      · decide
    · exact h x hx
theorem free_of {V : List IVar} {R : List IRule} {out : List Int} (h : sysP V R = true) (ho : ∀ x ∈ out, 0 ≤ x ∧ x < sizeN V) {n : Int} (hn : 0 ≤ n ∧ n < sizeN V) (hd : n ∉ out) : freeP V out (stBitsP V (atP V n)) = true := by
  unfold freeP
  rw [Bool.not_eq_true', List.any_eq_false]
  intro x hx hh
  exact hd (by rw [bits_num h hn (ho x hx) hh]; exact hx)
theorem wide_ok {V : List IVar} {R : List IRule} {out : List Int} (h : sysP V R = true) (ho : ∀ x ∈ out, 0 ≤ x ∧ x < sizeN V) {n : Int} (hn : 0 ≤ n ∧ n < sizeN V) (hd : n ∉ out) : CubeOk V out (wideGo V out (stBitsP V (atP V n)).length 0 (stBitsP V (atP V n))) := by
  obtain ⟨i, rfl⟩ := Int.eq_ofNat_of_zero_le hn.1
  have hi := at_in (n := i) h (by omega)
  have hf := free_of h ho hn hd
  have hl := stBits_length h hi
  refine ⟨by rw [wideGo_length, hl], wide_val _ _ _ _ _ (bit_val (trip_state V _ (sysP_and h).2.2.1 (inRangeP_go hi).1 (inRangeP_go hi).2).2.2), wide_free _ _ _ _ _ hf, fun k h1 h2 => ?_⟩
  rw [wideGo_length] at h1
  exact wide_most V out _ 0 _ (by omega) hf k (by omega) h1 h2
theorem wide_self (V : List IVar) (out x : List Int) : hasGo (wideGo V out x.length 0 x) x = true := has_any _ _ (wideGo_length _ _ _ _ _) (wide_has V out x _ 0 x rfl fun _ => .inr rfl)
theorem inSome_step {V : List IVar} {out : List Int} {cs : List (List Int)} {n m : Int} (h : inSome V cs m = true) : inSome V (cubeStep V out cs n) m = true := by
  unfold cubeStep
  split
  · exact h
  · unfold inSome at h ⊢
    rw [List.any_append, h, Bool.true_or]
theorem inSome_now (V : List IVar) (out : List Int) (cs : List (List Int)) (n : Int) : inSome V (cubeStep V out cs n) n = true := by
  unfold cubeStep
  split
  · assumption
  · unfold inSome
    rw [List.any_append, Bool.or_eq_true]
    right
    simp only [List.any_cons, List.any_nil, Bool.or_false]
    exact wide_self V out _
theorem inSome_go (V : List IVar) (out : List Int) : ∀ (l : List Int) (cs : List (List Int)) (m : Int), (inSome V cs m = true ∨ m ∈ l) → inSome V (cubesGo V out cs l) m = true
  | [], cs, m, h => h.elim id fun h => by cases h
  | n :: l, cs, m, h => by
    unfold cubesGo
    refine inSome_go V out l _ m ?_
    rcases h with h | h
    · exact .inl (inSome_step h)
    · rcases List.mem_cons.1 h with rfl | h
      · exact .inl (inSome_now V out cs m)
      · exact .inr h
theorem cubesGo_ok {V : List IVar} {R : List IRule} {out : List Int} (h : sysP V R = true) (ho : ∀ x ∈ out, 0 ≤ x ∧ x < sizeN V) : ∀ (l : List Int) (cs : List (List Int)), (∀ n ∈ l, (0 ≤ n ∧ n < sizeN V) ∧ n ∉ out) → (∀ c ∈ cs, CubeOk V out c) → ∀ c ∈ cubesGo V out cs l, CubeOk V out c
  | [], cs, _, hc => hc
  | n :: l, cs, hl, hc => by
    unfold cubesGo
    refine cubesGo_ok h ho l _ (fun m hm => hl m (List.mem_cons_of_mem _ hm)) fun c hcm => ?_
    unfold cubeStep at hcm
    split at hcm
    · exact hc c hcm
    · rcases List.mem_append.1 hcm with hcm | hcm
      · exact hc c hcm
      · rw [List.mem_singleton.1 hcm]
        obtain ⟨h1, h2⟩ := hl n List.mem_cons_self
        exact wide_ok h ho h1 h2
theorem cubesGo_len (V : List IVar) (out : List Int) : ∀ (l : List Int) (cs : List (List Int)), (cubesGo V out cs l).length ≤ cs.length + l.length
  | [], cs => by simp [cubesGo]
  | n :: l, cs => by
    unfold cubesGo
    have h1 := cubesGo_len V out l (cubeStep V out cs n)
    have h2 : (cubeStep V out cs n).length ≤ cs.length + 1 := by unfold cubeStep; split <;> simp
    simp only [List.length_cons]
    omega
theorem free_not {V : List IVar} {out c : List Int} (h : freeP V out c = true) {n : Int} (hn : n ∈ out) : hasGo c (stBitsP V (atP V n)) = false := by
  unfold freeP at h
  rw [Bool.not_eq_true', List.any_eq_false] at h
  exact Bool.eq_false_iff.2 (h n hn)
theorem inSome_out {V : List IVar} {out : List Int} {cs : List (List Int)} (h : ∀ c ∈ cs, CubeOk V out c) {n : Int} (hn : n ∈ out) : inSome V cs n = false := by
  unfold inSome
  rw [List.any_eq_false]
  intro c hc
  rw [free_not (h c hc).free hn]
  simp
theorem impl_SetWithout_ev (a b : List Int) (ha : a.length ≤ 1048576) (hb : b.length ≤ 1048576) (sa : setP a 400 = true) (sb : setP b 400 = true) : Ev (fun k => impl_SetWithout.f k a b) (pickP (fun i => decide ((i : Int) ∈ a) && !decide ((i : Int) ∈ b)) 400) := by
  unfold impl_SetWithout.f loop_example_wholecheck_impl_setOf_at_impl_SetWithout_1.f
  refine ev_bind (ev_bind (ev_eq (impl_setOk_ev a 400 (by omega) (by omega)) sa) (ev_pos rfl (ev_bind (ev_eq (impl_setOk_ev b 400 (by omega) (by omega)) sb) ?_))) (ev_ret _)
  refine Ev.step (fun k => by rw [loop_example_wholecheck_impl_setOf_at_impl_SetWithout_1.j0]) ?_
  refine ev_neg (by simp) (ev_bind (impl_marks_ev a ha sa) (ev_bind (impl_marks_ev b hb sb) (ev_pos (by omega) (ev_bind (ev_ret _) ?_))))
  have hA : (marksP a).length = 400 := by simp [marksP]
  have hB : (marksP b).length = 400 := by simp [marksP]
  rw [List.length_replicate]
  refine ev_table (fun k ys i => loop_example_wholecheck_impl_setOf_at_impl_SetWithout_1.l0 k (marksP a) (marksP b) ys ((400 : Nat) : Int) i) 400 (fun i => decide ((i : Int) ∈ a) && !decide ((i : Int) ∈ b)) false _ ?_ (fun n ys Q hn hy ih => ?_)
  · refine Ev.step (fun k => by rw [loop_example_wholecheck_impl_setOf_at_impl_SetWithout_1.l0]) ?_
    exact ev_neg (by omega) (ev_bind (listOf_table _ _ (by omega)) (ev_ret _))
  · refine Ev.step (fun k => by rw [loop_example_wholecheck_impl_setOf_at_impl_SetWithout_1.l0]) ?_
    rw [wrap_nat hn (by omega), marks_at hn, marks_at hn]
    refine ev_pos (by omega) (ev_pos (by omega) (ev_pos (by omega) (ev_pos (by omega) (ev_bind (ev_fix (r := decide ((n : Int) ∈ a) && !decide ((n : Int) ∈ b)) ?_) (ev_pos (by omega) ih)))))
    unfold impl_SetWithout_1.f
    cases decide ((n : Int) ∈ a) <;> simp
theorem spec_l16Wide_ev {V : List IVar} {R : List IRule} {cube out : List Int} (hh1 : sysP V R = true) (hlen : cube.length = sumN V) (hs : setP out (sizeP V) = true) (ho : out.length ≤ 1048576) (hc : cube.length ≤ 1048576) : Ev (fun k => spec_l16Wide.f k V R cube out) (wideGo V out cube.length 0 cube) := by
  unfold spec_l16Wide.f
  refine ev_bind (spec_l3Copy_ev cube hc) ?_
  have hz := sizeN_in hh1
  have so : setP out 400 = true := setGo_mono out (by omega) out 0 hs
  have key : ∀ d n : Nat, n + d = cube.length → ∀ s : List Int, s.length = cube.length → Ev (fun k => spec_l16Wide.l1 k s (n : Int) V R out) (wideGo V out d n s) := by
    intro d
    induction d with
    | zero =>
      intro n hn s hsl
      refine Ev.step (fun k => by rw [spec_l16Wide.l1]) ?_
      exact ev_neg (by omega) (ev_ret _)
    | succ d ih =>
      intro n hn s hsl
      refine Ev.step (fun k => by rw [spec_l16Wide.l1, wrap_nat (show n < cube.length by omega) (by omega), show ((n : Int)).toNat = n by omega]) ?_
      have hnl : (s.set n 2).length = sumN V := by rw [List.length_set, hsl, hlen]
      refine ev_pos (by omega) (ev_bind (spec_l3Copy_ev s (by omega)) (ev_pos (by omega) (ev_pos (by omega) (ev_bind (spec_l16States_ev hh1 hnl) (ev_bind (spec_SetBoth_ev _ _ (by have := pickP_len (inCube V (s.set n 2)) (sizeN V); omega) ho (pickP_set _ (by omega)) so) ?_)))))
      unfold wideGo
      by_cases e : freeP V out (s.set n 2) = true
      · rw [if_pos e]
        have := (free_iff hh1 hs).2 e
        exact ev_pos (by omega) (ih (n + 1) (by omega) _ (by rw [List.length_set]; exact hsl))
      · rw [if_neg e]
        have : ¬ _ := fun k => e ((free_iff hh1 hs).1 k)
        exact ev_neg (by omega) (ih (n + 1) (by omega) _ hsl)
  exact key cube.length 0 (by omega) cube rfl
theorem impl_widened_ev {V : List IVar} {R : List IRule} {cube out : List Int} (h : sysP V R = true) (hlen : cube.length = sumN V) (hs : setP out (sizeP V) = true) (ho : out.length ≤ 1048576) (hc : cube.length ≤ 1048576) : Ev (fun k => impl_widened_at_impl_hasNone_1.f k cube (out.map fun n => stBitsP V (atP V n))) (wideGo V out cube.length 0 cube) := by
  unfold impl_widened_at_impl_hasNone_1.f
  refine ev_bind (g := fun _ => impl_clone_int.f cube) (ev_fix (by unfold impl_clone_int.f; rw [if_pos (by omega)])) ?_
  have key : ∀ d n : Nat, n + d = cube.length → ∀ s : List Int, s.length = cube.length → (∀ i, n ≤ i → s[i]? = cube[i]?) → Ev (fun k => impl_widened_at_impl_hasNone_1.l1 k s (n : Int) cube (out.map fun n => stBitsP V (atP V n))) (wideGo V out d n s) := by
    intro d
    induction d with
    | zero =>
      intro n hn s hsl _
      refine Ev.step (fun k => by rw [impl_widened_at_impl_hasNone_1.l1]) ?_
      exact ev_neg (by omega) (ev_ret _)
    | succ d ih =>
      intro n hn s hsl hag
      have hn' : n < cube.length := by omega
      refine Ev.step (fun k => by rw [impl_widened_at_impl_hasNone_1.l1, wrap_nat hn' (by omega), show ((n : Int)).toNat = n by omega]) ?_
      have hnl : (s.set n 2).length = sumN V := by rw [List.length_set, hsl, hlen]
      refine ev_pos (by omega) (ev_pos (by omega) (ev_pos (by omega) (ev_pos (by omega) (ev_pos (by omega) (ev_bind (impl_hasNone_1_ev h hs ho (by omega) hnl) ?_)))))
      unfold wideGo
      have later : ∀ v : Int, ∀ i, n + 1 ≤ i → (s.set n v)[i]? = cube[i]? := fun v i hi => by
        rw [List.getElem?_set_ne (by omega)]
        exact hag i (by omega)
      cases e : freeP V out (s.set n 2) with
      | true =>
        rw [if_pos rfl]
        exact ev_pos rfl (ih (n + 1) (by omega) _ (by rw [List.length_set]; exact hsl) (later 2))
      | false =>
        rw [if_neg (by simp)]
        refine ev_neg (by simp) (ev_pos (by omega) (ev_pos (by rw [List.length_set]; omega) ?_))
        have e2 : (s.set n 2).set n (rd cube (n : Int)) = s := by
          rw [List.set_set]
          have hx := hag n (Nat.le_refl _)
          rw [List.getElem?_eq_getElem hn', List.getElem?_eq_getElem (show n < s.length by omega)] at hx
          rw [rd_at hn', ← Option.some.inj hx]
          exact List.set_getElem_self _
        rw [e2]
        exact ih (n + 1) (by omega) s hsl fun i hi => hag i (by omega)
  exact key cube.length 0 (by omega) cube rfl fun _ _ => rfl
theorem spec_SetEither_ev (a b : List Int) (ha : a.length ≤ 1048576) (hb : b.length ≤ 1048576) (sa : setP a 400 = true) (sb : setP b 400 = true) : Ev (fun k => spec_SetEither.f k a b) (pickP (fun i => decide ((i : Int) ∈ a) || decide ((i : Int) ∈ b)) 400) := by
  unfold spec_SetEither.f spec_l4Mix.f
  refine ev_bind ?_ (ev_ret _)
  refine ev_bind (ev_eq (spec_l4Set_ev a ha) sa) (ev_pos rfl (ev_bind (ev_eq (spec_l4Set_ev b hb) sb) (ev_pos rfl (ev_bind (spec_l4Marks_ev a ha sa) (ev_bind (spec_l4Marks_ev b hb sb) ?_)))))
  have hA : (marksP a).length = 400 := by simp [marksP]
  have hB : (marksP b).length = 400 := by simp [marksP]
  refine ev_pick (fun k s i => spec_l4Mix.l1 k s i 1 (marksP a) (marksP b)) _ 400 (fun s hs => ?_) (fun n s Q hn hs ih => ?_)
  · refine Ev.step (fun k => by rw [spec_l4Mix.l1]) ?_
    exact ev_neg (by omega) (ev_ret _)
  · refine Ev.step (fun k => by rw [spec_l4Mix.l1, wrap_nat (show n < 400 from hn) (by omega), marks_at hn, marks_at hn]) ?_
    refine ev_pos (by omega) (ev_neg (by omega) (ev_pos rfl (ev_pos (by omega) (ev_pos (by omega) ?_))))
    by_cases e1 : (n : Int) ∈ a
    · rw [if_pos (by simp [e1])] at ih
      exact ev_pos (by simpa using e1) (ev_pos (by omega) ih)
    · refine ev_neg (by simpa using e1) (ev_pos (by omega) (ev_pos (by omega) ?_))
      by_cases e2 : (n : Int) ∈ b
      · rw [if_pos (by simp [e2])] at ih
        exact ev_pos (by simpa using e2) (ev_pos (by omega) ih)
      · rw [if_neg (by simp [e1, e2])] at ih
        exact ev_neg (by simpa using e2) (ev_neg (by omega) ih)
theorem spec_l2Has_ev (a : List Int) (x : Int) (h : a.length ≤ 1099511627776) : Ev (fun k => spec_l2Has.f k a x) (decide (x ∈ a)) := by
  unfold spec_l2Has.f
  have key : ∀ d n : Nat, a.length - n = d → n ≤ a.length → Ev (fun k => spec_l2Has.l0 k a x (n : Int)) (decide (x ∈ a.drop n)) := by
    intro d
    induction d with
    | zero =>
      intro n g1 g2
      refine Ev.step (fun k => by rw [spec_l2Has.l0]) (ev_neg (by omega) (ev_eq (ev_ret _) ?_))
      rw [List.drop_eq_nil_of_le (by omega)]
      rfl
    | succ d ih =>
      intro n g1 g2
      have hn : n < a.length := by omega
      refine Ev.step (fun k => by rw [spec_l2Has.l0]) (ev_pos (by omega) (ev_pos (by omega) ?_))
      rw [show rd a (n : Int) = a[n] from getD_of (List.getElem?_eq_getElem hn), List.drop_eq_getElem_cons hn, wrap_nat (n := n) (m := a.length) hn (by omega)]
      by_cases q : a[n] = x
      · exact ev_pos q (ev_eq (ev_ret _) (by simp [q]))
      · exact ev_neg q (ev_eq (ih (n + 1) (by omega) (by omega)) (by simp only [List.mem_cons, Ne.symm q, false_or]))
  simpa using key a.length 0 (by omega) (by omega)
theorem slices_Contains_ev (a : List Int) (x : Int) (h : a.length ≤ 1099511627776) : Ev (fun k => slices_Contains_int_int.f k a x) (decide (x ∈ a)) := by
  unfold slices_Contains_int_int.f slices_Index_int_int.f
  refine ev_eq (ev_contains (da := (0 : Int)) (fun k i => slices_Index_int_int.l0 k a x (a.length : Int) i) (fun _ y => some (decide (x = y))) a (fun y => decide (x = y)) (by omega) (fun k i => by rw [slices_Index_int_int.l0]; simp [rd]) (fun y _ => ev_ret _)) ?_
  rw [Bool.eq_iff_iff, List.any_eq_true, decide_eq_true_eq]
  constructor
  · rintro ⟨y, h1, h2⟩; rw [decide_eq_true_eq] at h2; subst h2; exact h1
  · intro h; exact ⟨x, h, by simp⟩
theorem cubes_any_ev (cs : List (List Int)) (x : List Int) (hc : cs.length ≤ 1048576) (hl : ∀ c ∈ cs, c.length = x.length) (hx : x.length ≤ 1048576) : Ev (fun k => slices_ContainsFunc_int_int_at_impl_cubesOf_1.f k cs x) (cs.any fun c => hasGo c x) := by
  unfold slices_ContainsFunc_int_int_at_impl_cubesOf_1.f slices_IndexFunc_int_int_at_impl_cubesOf_1.f
  refine ev_contains (da := ([] : List Int)) (fun k i => slices_IndexFunc_int_int_at_impl_cubesOf_1.l1 k i cs x) (fun k c => impl_cubesOf_1.f k c x) cs (fun c => hasGo c x) (by omega) (fun k i => by rw [slices_IndexFunc_int_int_at_impl_cubesOf_1.l1]; rfl) (fun c hcm => ?_)
  unfold impl_cubesOf_1.f
  have := hl c hcm
  exact ev_bind (impl_cubeHas_ev c x (by omega) this.symm) (ev_ret _)
theorem impl_cubesOf_ev {V : List IVar} {R : List IRule} {set out : List Int} (h : sysP V R = true) (hs : setP set (sizeP V) = true) (ho : setP out (sizeP V) = true) (hl : set.length ≤ 1048576) (hlo : out.length ≤ 1048576) (hd : ∀ x ∈ set, x ∉ out) : Ev (fun k => impl_cubesOf.f k V R set out) (cubesGo V out [] set) := by
  have hz := sizeN_in h
  have s4 := sumN_le V
  have s1 := (sysP_and h).1
  have hin : ∀ x ∈ set, inRangeP V (atP V x) = true := fun x hx => (setP_at h hs hx).1
  unfold impl_cubesOf.f
  refine ev_bind (impl_allBits_ev h (fun x hx => (setP_at h ho hx).1) hlo) (ev_bind (show Ev (fun k => impl_hasNone.f k (out.map fun n => stBitsP V (atP V n))) (out.map fun n => stBitsP V (atP V n)) from ⟨0, fun _ _ => rfl⟩) (ev_bind (impl_allBits_ev h hin hl) ?_))
  generalize hB : (out.map fun n => stBitsP V (atP V n)) = B
  have key : ∀ d n : Nat, set.length - n = d → n ≤ set.length → ∀ cs : List (List Int), cs.length ≤ n → (∀ c ∈ cs, c.length = sumN V) → Ev (fun k => impl_cubesOf.l1 k cs (n : Int) B (set.map fun n => stBitsP V (atP V n))) (cubesGo V out cs (set.drop n)) := by
    intro d
    induction d with
    | zero =>
      intro n g1 g2 cs c1 c2
      have : n = set.length := by omega
      subst this
      rw [List.drop_length]
      refine Ev.step (fun k => by rw [impl_cubesOf.l1]) ?_
      exact ev_neg (by simp) (ev_bind (ev_fix (show impl_clone_Lint.f cs = some cs by unfold impl_clone_Lint.f; rw [if_pos (by omega)])) (ev_ret _))
    | succ d ih =>
      intro n g1 g2 cs c1 c2
      have hn : n < set.length := by omega
      have hx := List.getElem_mem hn
      have hbl := stBits_length h (hin _ hx)
      rw [List.drop_eq_getElem_cons hn]
      unfold cubesGo
      have hrd : rd_Lint (set.map fun n => stBitsP V (atP V n)) (n : Int) = stBitsP V (atP V set[n]) := getD_of (by rw [List.getElem?_map, List.getElem?_eq_getElem hn]; rfl)
      refine Ev.step (fun k => by rw [impl_cubesOf.l1, hrd, wrap_nat hn (by omega)]) ?_
      refine ev_pos (by simp; omega) (ev_pos (by omega) (ev_pos (by simp; omega) (ev_bind (cubes_any_ev cs _ (by omega) (fun c hc => by rw [c2 c hc, hbl]) (by omega)) ?_)))
      unfold cubeStep
      by_cases e : (cs.any fun c => hasGo c (stBitsP V (atP V set[n]))) = true
      · rw [if_pos e]
        exact ev_pos e (ih (n + 1) (by omega) (by omega) cs (by omega) c2)
      · rw [if_neg e]
        refine ev_neg e (ev_bind (by rw [← hB]; exact impl_widened_ev h hbl ho hlo (by omega)) (ev_pos (by omega) (ih (n + 1) (by omega) (by omega) _ (by simp; omega) fun c hc => ?_)))
        rcases List.mem_append.1 hc with hc | hc
        · exact c2 c hc
        · rw [List.mem_singleton.1 hc, wideGo_length, hbl]
  exact key set.length 0 (by omega) (by omega) [] (by simp) (fun c hc => by cases hc)
def unionP (V : List IVar) (cs : List (List Int)) : List Int := pickP (fun i => decide (i < sizeN V) && inSome V cs (i : Int)) 400
theorem unionP_mem {V : List IVar} (hz : sizeN V ≤ 400) {cs : List (List Int)} {x : Int} : x ∈ unionP V cs ↔ (0 ≤ x ∧ x < sizeN V) ∧ inSome V cs x = true := by
  unfold unionP
  rw [pickP_mem]
  constructor
  · rintro ⟨i, h1, h2, rfl⟩
    simp only [Bool.and_eq_true, decide_eq_true_eq] at h2
    exact ⟨by omega, h2.2⟩
  · rintro ⟨h1, h2⟩
    refine ⟨x.toNat, by omega, ?_, by omega⟩
    rw [show ((x.toNat : Nat) : Int) = x by omega, h2]
    simp; omega
theorem cubePick_mem {V : List IVar} {c : List Int} {x : Int} : x ∈ pickP (inCube V c) (sizeN V) ↔ (0 ≤ x ∧ x < sizeN V) ∧ hasGo c (stBitsP V (atP V x)) = true := by
  rw [pickP_mem]
  constructor
  · rintro ⟨i, h1, h2, rfl⟩; exact ⟨by omega, h2⟩
  · rintro ⟨h1, h2⟩
    refine ⟨x.toNat, by omega, ?_, by omega⟩
    unfold inCube
    rw [show ((x.toNat : Nat) : Int) = x by omega]
    exact h2
theorem inSome_snoc (V : List IVar) (cs : List (List Int)) (c : List Int) (x : Int) : inSome V (cs ++ [c]) x = (inSome V cs x || hasGo c (stBitsP V (atP V x))) := by unfold inSome; rw [List.any_append]; simp
theorem union_step {V : List IVar} (hz : sizeN V ≤ 400) (cs : List (List Int)) (c : List Int) : pickP (fun i => decide ((i : Int) ∈ unionP V cs) || decide ((i : Int) ∈ pickP (inCube V c) (sizeN V))) 400 = unionP V (cs ++ [c]) := by
  refine rise_ext _ _ (pickP_rise _ _) (pickP_rise _ _) fun x => ?_
  rw [unionP_mem hz, inSome_snoc, pickP_mem, Bool.or_eq_true]
  constructor
  · rintro ⟨i, h1, h2, rfl⟩
    simp only [Bool.or_eq_true, decide_eq_true_eq] at h2
    rcases h2 with h2 | h2
    · have := (unionP_mem hz).1 h2; exact ⟨this.1, .inl this.2⟩
    · have := cubePick_mem.1 h2; exact ⟨this.1, .inr this.2⟩
  · rintro ⟨h1, h2⟩
    refine ⟨x.toNat, by omega, ?_, by omega⟩
    rw [show ((x.toNat : Nat) : Int) = x by omega]
    simp only [Bool.or_eq_true, decide_eq_true_eq]
    rcases h2 with h2 | h2
    · exact .inl ((unionP_mem hz).2 ⟨h1, h2⟩)
    · exact .inr (cubePick_mem.2 ⟨h1, h2⟩)
theorem setP_400 {V : List IVar} {R : List IRule} {set : List Int} (h : sysP V R = true) (hs : setP set (sizeP V) = true) : setP set 400 = true := by
  have hz := sizeN_in h
  exact setP_of (setP_rise hs) fun x hx => by have := setP_range hs hx; omega
theorem union_nil {V : List IVar} (hz : sizeN V ≤ 400) : unionP V [] = [] := by
  refine List.eq_nil_iff_forall_not_mem.2 fun x hx => ?_
  have := ((unionP_mem hz).1 hx).2
  simp [inSome] at this
theorem unionP_len (V : List IVar) (cs : List (List Int)) : (unionP V cs).length ≤ 400 := by unfold unionP; exact pickP_len _ _
theorem unionP_set (V : List IVar) (cs : List (List Int)) : setP (unionP V cs) 400 = true := by unfold unionP; exact pickP_set _ (Nat.le_refl _)
def markU (V : List IVar) (cs : List (List Int)) (l : List Int) : List Bool := (List.range (sizeN V)).map fun (i : Nat) => inSome V cs (i : Int) || decide ((i : Int) ∈ l)
theorem markU_len (V : List IVar) (cs : List (List Int)) (l : List Int) : (markU V cs l).length = sizeN V := by simp [markU]
theorem markU_set {V : List IVar} {cs : List (List Int)} {l : List Int} {x : Int} (hx : 0 ≤ x ∧ x < sizeN V) : (markU V cs l).set x.toNat true = markU V cs (l ++ [x]) := by
  apply List.ext_getElem
  · simp [markU]
  · intro i h1 h2
    have hi : i < sizeN V := by simpa [markU] using h2
    rw [List.getElem_set]
    simp only [markU, List.getElem_map, List.getElem_range, List.mem_append, List.mem_singleton]
    by_cases e : x.toNat = i
    · rw [if_pos e]
      have : (i : Int) = x := by omega
      simp [this]
    · rw [if_neg e]
      have : ¬ (i : Int) = x := by omega
      simp [this]
theorem markU_next {V : List IVar} {cs : List (List Int)} {c : List Int} : markU V cs (pickP (inCube V c) (sizeN V)) = markU V (cs ++ [c]) [] := by
  unfold markU
  refine List.map_congr_left fun i hi => ?_
  have hi := List.mem_range.1 hi
  rw [inSome_snoc, Bool.eq_iff_iff]
  simp only [Bool.or_eq_true, decide_eq_true_eq, cubePick_mem, List.not_mem_nil, or_false]
  constructor
  · rintro (h | h)
    · exact .inl h
    · exact .inr h.2
  · rintro (h | h)
    · exact .inl h
    · exact .inr ⟨by omega, h⟩
theorem impl_around_ev {V : List IVar} {R : List IRule} {set out : List Int} (h : sysP V R = true) (hs : setP set (sizeP V) = true) (ho : setP out (sizeP V) = true) (hl : set.length ≤ 1048576) (hlo : out.length ≤ 1048576) (hd : ∀ x ∈ set, x ∉ out) : Ev (fun k => impl_around.f k V R set out) (markU V (cubesGo V out [] set) []) := by
  have hz := sizeN_in h
  have s4 := sumN_le V
  have s1 := (sysP_and h).1
  unfold impl_around.f
  refine ev_bind (impl_size_ev V (by omega)) (ev_pos (by omega) (ev_pos (by omega) (ev_bind (impl_cubesOf_ev h hs ho hl hlo hd) ?_)))
  have hcl := cubesGo_len V out set []
  have hok := cubesGo_ok h (fun x hx => by have := setP_range ho hx; omega) set [] (fun n hn => ⟨by have := setP_range hs hn; omega, hd n hn⟩) (fun c hc => by cases hc)
  generalize hC : cubesGo V out [] set = C at *
  simp only [List.length_nil] at hcl
  have key : ∀ d n : Nat, C.length - n = d → n ≤ C.length → Ev (fun k => impl_around.l1 k (markU V (C.take n) []) (n : Int) V R C) (markU V C []) := by
    intro d
    induction d with
    | zero =>
      intro n g1 g2
      have : n = C.length := by omega
      subst this
      rw [List.take_length]
      refine Ev.step (fun k => by rw [impl_around.l1]) ?_
      exact ev_neg (by omega) (ev_ret _)
    | succ d ih =>
      intro n g1 g2
      have hn : n < C.length := by omega
      obtain ⟨c, hgc⟩ : ∃ c, C[n]? = some c := ⟨_, List.getElem?_eq_getElem hn⟩
      have hcm : c ∈ C := List.mem_of_getElem? hgc
      have htk : C.take (n + 1) = C.take n ++ [c] := by rw [List.take_add_one, hgc]; rfl
      have hrd : rd_Lint C (n : Int) = c := getD_of hgc
      refine Ev.step (fun k => by rw [impl_around.l1, hrd]) ?_
      refine ev_pos (by omega) (ev_pos (by omega) (ev_pos (by omega) (ev_bind (impl_cubeStates_ev h (hok c hcm).len) ?_)))
      have hpl := pickP_len (inCube V c) (sizeN V)
      have hpm : ∀ x ∈ pickP (inCube V c) (sizeN V), 0 ≤ x ∧ x < sizeN V := fun x hx => (cubePick_mem.1 hx).1
      have hnx : markU V (C.take n) (pickP (inCube V c) (sizeN V)) = markU V (C.take (n + 1)) [] := by rw [markU_next, htk]
      generalize pickP (inCube V c) (sizeN V) = P at *
      have inner : ∀ d i : Nat, P.length - i = d → i ≤ P.length → Ev (fun k => impl_around.l2 k (markU V (C.take n) (P.take i)) (i : Int) V R C (n : Int) P) (markU V C []) := by
        intro d
        induction d with
        | zero =>
          intro i f1 f2
          have : i = P.length := by omega
          subst this
          refine Ev.step (fun k => by rw [impl_around.l2, wrap_nat hn (by omega)]) ?_
          rw [List.take_length, hnx]
          exact ev_neg (by omega) (ih (n + 1) (by omega) (by omega))
        | succ d ih2 =>
          intro i f1 f2
          have hi : i < P.length := by omega
          have hx := hpm _ (List.getElem_mem hi)
          refine Ev.step (fun k => by rw [impl_around.l2, rd_at hi, wrap_nat hi (by omega)]) ?_
          refine ev_pos (by omega) (ev_pos (by omega) (ev_pos (by omega) (ev_pos (by omega) (ev_pos (by rw [markU_len]; omega) ?_))))
          rw [markU_set hx, ← List.take_succ_eq_append_getElem hi]
          exact ih2 (i + 1) (by omega) (by omega)
      exact inner P.length 0 (by omega) (by omega)
  have := key C.length 0 (by omega) (by omega)
  have e : markU V (C.take 0) [] = List.replicate (sizeP V).toNat false := by
    unfold markU
    rw [List.eq_replicate_iff]
    refine ⟨by rw [List.length_map, List.length_range]; rfl, fun b hb => ?_⟩
    obtain ⟨i, _, rfl⟩ := List.mem_map.1 hb
    simp [inSome]
  rw [e] at this
  exact this
theorem union_list {V : List IVar} (hz : sizeN V ≤ 400) (C : List (List Int)) : Ev (fun k => impl_listOf.f k (markU V C [])) (unionP V C) := by
  refine ev_eq (impl_listOf_ev _ (by rw [markU_len]; omega)) ?_
  rw [markU_len]
  refine rise_ext _ _ (pickP_rise _ _) (pickP_rise _ _) fun x => ?_
  rw [unionP_mem hz, pickP_mem]
  have hg : ∀ i : Nat, i < sizeN V → (markU V C []).getD i false = inSome V C (i : Int) := fun i hi => by
    unfold markU
    rw [List.getD_eq_getElem?_getD, List.getElem?_map, List.getElem?_range hi]
    simp
  constructor
  · rintro ⟨i, h1, h2, rfl⟩
    rw [hg i h1] at h2
    exact ⟨by omega, h2⟩
  · rintro ⟨h1, h2⟩
    refine ⟨x.toNat, by omega, ?_, by omega⟩
    rw [hg _ (by omega), show ((x.toNat : Nat) : Int) = x by omega, h2]
theorem spec_l19Around_ev {V : List IVar} {R : List IRule} {set out : List Int} (h : sysP V R = true) (hs : setP set (sizeP V) = true) (ho : setP out (sizeP V) = true) (hl : set.length ≤ 1048576) (hlo : out.length ≤ 1048576) : Ev (fun k => spec_l19Around.f k V R set out) (unionP V (cubesGo V out [] set)) := by
  have hz := sizeN_in h
  have s4 := sumN_le V
  have s1 := (sysP_and h).1
  unfold spec_l19Around.f
  have key : ∀ d n : Nat, set.length - n = d → n ≤ set.length → ∀ cs : List (List Int), Ev (fun k => spec_l19Around.l1 k (unionP V cs) (n : Int) V R set out) (unionP V (cubesGo V out cs (set.drop n))) := by
    intro d
    induction d with
    | zero =>
      intro n g1 g2 cs
      have : n = set.length := by omega
      subst this
      rw [List.drop_length]
      refine Ev.step (fun k => by rw [spec_l19Around.l1]) ?_
      exact ev_neg (by omega) (ev_ret _)
    | succ d ih =>
      intro n g1 g2 cs
      have hn : n < set.length := by omega
      have hx := setP_range hs (List.getElem_mem hn)
      obtain ⟨m, hm⟩ := Int.eq_ofNat_of_zero_le hx.1
      have hi := at_in (n := m) h (by omega)
      have hbl := stBits_length h hi
      have hu : (unionP V cs).length ≤ 400 := pickP_len _ _
      rw [List.drop_eq_getElem_cons hn]
      unfold cubesGo
      refine Ev.step (fun k => by rw [spec_l19Around.l1, rd_at hn, wrap_nat hn (by omega), hm]) ?_
      rw [hm]
      refine ev_pos (by omega) (ev_pos (by omega) (ev_pos (by omega) (ev_bind (spec_l2Has_ev _ _ (by omega)) ?_)))
      unfold cubeStep
      have hin : (m : Int) ∈ unionP V cs ↔ (cs.any fun c => hasGo c (stBitsP V (atP V (m : Int)))) = true := by
        rw [unionP_mem hz.2]
        exact ⟨fun h => h.2, fun h => ⟨by omega, h⟩⟩
      by_cases e : (cs.any fun c => hasGo c (stBitsP V (atP V (m : Int)))) = true
      · rw [if_pos e]
        exact ev_pos (by simpa using hin.2 e) (ih (n + 1) (by omega) (by omega) cs)
      · rw [if_neg e]
        have hwl := wideGo_length V out (stBitsP V (atP V m)).length 0 (stBitsP V (atP V m))
        have hp := pickP_len (inCube V (wideGo V out (stBitsP V (atP V m)).length 0 (stBitsP V (atP V m)))) (sizeN V)
        refine ev_neg (by simpa using fun hh => e (hin.1 hh)) (ev_pos (by omega) (ev_pos (by omega) (ev_bind (spec_l4State_ev h m) (ev_bind (spec_l6State_ev h hi) (ev_bind (spec_l16Wide_ev h hbl ho hlo (by omega)) (ev_bind (spec_l16States_ev h (by rw [hwl, hbl])) (ev_bind (spec_SetEither_ev _ _ (by omega) (by omega) (pickP_set _ (by omega)) (pickP_set _ hz.2)) ?_)))))))
        rw [union_step hz.2]
        exact ih (n + 1) (by omega) (by omega) _
  have := key set.length 0 (by omega) (by omega) []
  rw [union_nil hz.2] at this
  exact this
theorem laws_wcInts_ev (a b : List Int) (h : a.length ≤ 1099511627776) : Ev (fun k => laws_wcInts.f k a b) (decide (a = b)) := by
  unfold laws_wcInts.f
  by_cases e : a.length = b.length
  · refine ev_pos (by omega) ?_
    have key : ∀ d n : Nat, a.length - n = d → n ≤ a.length → Ev (fun k => laws_wcInts.l0 k b a (a.length : Int) (n : Int)) (decide (a.drop n = b.drop n)) := by
      intro d
      induction d with
      | zero =>
        intro n g1 g2
        refine Ev.step (fun k => by rw [laws_wcInts.l0]) (ev_neg (by omega) (ev_eq (ev_ret _) ?_))
        rw [List.drop_eq_nil_of_le (by omega), List.drop_eq_nil_of_le (by omega)]
        rfl
      | succ d ih =>
        intro n g1 g2
        have hn : n < a.length := by omega
        have hm : n < b.length := by omega
        refine Ev.step (fun k => by rw [laws_wcInts.l0]) (ev_pos (by omega) (ev_pos (by omega) (ev_pos (by omega) (ev_pos (by omega) ?_))))
        rw [show rd b (n : Int) = b[n] from getD_of (List.getElem?_eq_getElem hm), show rd a (n : Int) = a[n] from getD_of (List.getElem?_eq_getElem hn), List.drop_eq_getElem_cons hn, List.drop_eq_getElem_cons hm, wrap_nat (n := n) (m := a.length) hn (by omega)]
        by_cases q : b[n] = a[n]
        · exact ev_pos q (ev_eq (ih (n + 1) (by omega) (by omega)) (by simp only [List.cons.injEq, q, true_and]))
        · exact ev_neg q (ev_eq (ev_ret _) (by simp only [List.cons.injEq]; rw [eq_comm, decide_eq_false_iff_not]; exact fun h => q h.1.symm))
    simpa using key a.length 0 (by omega) (by omega)
  · refine ev_neg (by omega) (ev_eq (ev_ret _) ?_)
    rw [eq_comm, decide_eq_false_iff_not]
    exact fun h => e (congrArg List.length h)
end Go.Proofs.Ytpjmiaooogephaa.PA
end
section
namespace Go.Proofs.Ytpjmiaooogephaa.PA
open Go.RowKit Go.Proofs.YtpjmiaooogephaaW.PrintWords
def laws_FnAround.PureS : Prop := ∀ (l0 : List Int), (l0.length ≤ 9223372036854775807 ∧ ∀ x0 ∈ l0, (Lit.int .u8 x0).wf = true) → ∃ k, laws_FnAround.f k l0 = some true
end Go.Proofs.Ytpjmiaooogephaa.PA
end
section
set_option linter.unusedVariables false
set_option linter.unusedSimpArgs false
namespace Go.Proofs.Ytpjmiaooogephaa.PA
open Go.RowKit Go.Proofs.YtpjmiaooogephaaW.PrintWords
theorem drawAround_tot {l : List Int} (h : ∀ x ∈ l, 0 ≤ x ∧ x < 256) : Tot (fun k => spec_DrawAround.f k l) (fun r => AnyQ r.1 ∧ r.2.1.length ≤ 401 ∧ r.2.2.length ≤ 401) := by
  unfold spec_DrawAround.f
  refine tot_bind (l40Open_tot h) fun r1 ⟨hb, h0⟩ => ?_
  refine tot_bind (l2Any_tot hb 24 (by omega) (by omega)) fun r2 ⟨a0, a1, hq⟩ => ?_
  have hV := hq.1
  refine tot_bind (l4Some_tot hb r2.2.1 r2.2.2 (by omega) (sizeofP_in _ _) (by omega) (by omega)) fun r3 ⟨b0, b1, hl⟩ => ?_
  refine tot_bind (l4Some_tot hb r2.2.1 r2.2.2 (by omega) (sizeofP_in _ _) (by omega) (by omega)) fun r4 ⟨c0, c1, hl4⟩ => ?_
  have j1 : ∀ x : List Int, x.length ≤ 401 → Tot (fun k => spec_DrawAround.j1 k x r2 r3) (fun r => AnyQ r.1 ∧ r.2.1.length ≤ 401 ∧ r.2.2.length ≤ 401) := fun x hx => tot_step (fun k => by rw [spec_DrawAround.j1]) (tot_ret ⟨hq, hl, hx⟩)
  have j2 : ∀ x : List Int, x.length ≤ 401 → Tot (fun k => spec_DrawAround.j2 k x r2 r3) (fun r => AnyQ r.1 ∧ r.2.1.length ≤ 401 ∧ r.2.2.length ≤ 401) := fun x hx => tot_step (fun k => by rw [spec_DrawAround.j2]) (j1 x hx)
  refine tot_bind (R := fun _ => True) (tot_ev (spec_SetValid_ev r2.2.1 r2.2.2 r3.2 (by omega)) trivial) fun r5 _ => tot_ite (fun _ => ?_) fun _ => j1 _ hl4
  refine tot_bind (R := fun _ => True) (tot_ev (spec_SetValid_ev r2.2.1 r2.2.2 r4.2 (by omega)) trivial) fun r6 _ => tot_ite (fun _ => ?_) fun _ => j1 _ hl4
  refine tot_bind (pick_tot hb (by omega) (by omega) _) fun r7 _ => tot_ite (fun _ => ?_) fun _ => j2 _ hl4
  exact tot_bind (spec_SetWithout_tot r4.2 r3.2 (by omega) (by omega)) fun r8 q8 => j2 _ (by omega)
def aroundP (V : List IVar) (R : List IRule) (set out : List Int) : List Int × Bool :=
  if (sysP V R && setP set (sizeP V)) = true then (if setP out (sizeP V) = true then (if (set.any fun x => decide (x ∈ out)) = true then ([], false) else (unionP V (cubesGo V out [] set), true)) else ([], false)) else ([], false)
theorem any_around_ev (set out : List Int) (h1 : set.length ≤ 1048576) (h2 : out.length ≤ 1048576) : Ev (fun k => slices_ContainsFunc_int_int_at_impl_Around_1.f k set out) (set.any fun x => decide (x ∈ out)) := by
  unfold slices_ContainsFunc_int_int_at_impl_Around_1.f slices_IndexFunc_int_int_at_impl_Around_1.f
  refine ev_contains (da := (0 : Int)) (fun k i => slices_IndexFunc_int_int_at_impl_Around_1.l1 k i set out) (fun k c => impl_Around_1.f k c out) set (fun c => decide (c ∈ out)) (by omega) (fun k i => by rw [slices_IndexFunc_int_int_at_impl_Around_1.l1]; rfl) (fun c hcm => ?_)
  unfold impl_Around_1.f
  exact ev_bind (slices_Contains_ev out c (by omega)) (ev_ret _)
theorem none_of {set out : List Int} (h : ¬ (set.any fun x => decide (x ∈ out)) = true) : ∀ x ∈ set, x ∉ out := fun x hx ho => h (List.any_eq_true.2 ⟨x, hx, by simpa using ho⟩)
theorem impl_Around_ev {V : List IVar} {R : List IRule} {set out : List Int} (hl : set.length ≤ 1048576) (hlo : out.length ≤ 1048576) (hS : Ev (fun k => impl_SetValid.f k V R set) (sysP V R && setP set (sizeP V))) : Ev (fun k => impl_Around.f k V R set out) (aroundP V R set out) := by
  unfold impl_Around.f aroundP
  refine ev_bind hS ?_
  by_cases c : (sysP V R && setP set (sizeP V)) = true
  · obtain ⟨h, hs⟩ := Bool.and_eq_true_iff.1 c
    have hz := sizeN_in h
    have s1 := (sysP_and h).1
    rw [if_pos c]
    refine ev_pos c (ev_bind (impl_size_ev V (by omega)) (ev_bind (impl_setOk_ev out _ (by omega) (by omega)) ?_))
    by_cases c2 : setP out (sizeP V) = true
    · rw [if_pos c2]
      refine ev_pos c2 (ev_bind (any_around_ev set out hl hlo) ?_)
      by_cases c3 : (set.any fun x => decide (x ∈ out)) = true
      · rw [if_pos c3]; exact ev_pos c3 (ev_ret _)
      · rw [if_neg c3]
        exact ev_neg c3 (ev_bind (impl_around_ev h hs c2 hl hlo (none_of c3)) (ev_bind (union_list hz.2 _) (ev_ret _)))
    · rw [if_neg c2]; exact ev_neg c2 (ev_ret _)
  · rw [if_neg c]; exact ev_neg c (ev_ret _)
theorem both_any {set out : List Int} (h4 : setP set 400 = true) : ((pickP (fun i => decide ((i : Int) ∈ set) && decide ((i : Int) ∈ out)) 400).length : Int) > 0 ↔ (set.any fun x => decide (x ∈ out)) = true := by
  constructor
  · intro h
    obtain ⟨x, hx⟩ := List.exists_mem_of_length_pos (by omega : 0 < (pickP (fun i => decide ((i : Int) ∈ set) && decide ((i : Int) ∈ out)) 400).length)
    obtain ⟨i, h1, h2, rfl⟩ := pickP_mem.1 hx
    simp only [Bool.and_eq_true, decide_eq_true_eq] at h2
    exact List.any_eq_true.2 ⟨_, h2.1, by simpa using h2.2⟩
  · intro h
    obtain ⟨x, h1, h2⟩ := List.any_eq_true.1 h
    have hr := setP_range h4 h1
    have hm : x ∈ pickP (fun i => decide ((i : Int) ∈ set) && decide ((i : Int) ∈ out)) 400 := by
      refine pickP_mem.2 ⟨x.toNat, by omega, ?_, by omega⟩
      rw [show ((x.toNat : Nat) : Int) = x by omega]
      simp only [Bool.and_eq_true, decide_eq_true_eq]
      exact ⟨h1, by simpa using h2⟩
    have := List.length_pos_of_mem hm
    omega
theorem spec_Around_ev (V : List IVar) (R : List IRule) (set out : List Int) (hl : set.length ≤ 1048576) (hlo : out.length ≤ 1048576) : Ev (fun k => spec_Around.f k V R set out) (aroundP V R set out) := by
  unfold spec_Around.f aroundP
  refine ev_bind (spec_SetValid_ev V R set (by omega)) ?_
  by_cases c : (sysP V R && setP set (sizeP V)) = true
  · obtain ⟨h, hs⟩ := Bool.and_eq_true_iff.1 c
    rw [if_pos c]
    refine ev_pos c (ev_bind (spec_SetValid_ev V R out (by omega)) ?_)
    rw [h, Bool.true_and]
    by_cases c2 : setP out (sizeP V) = true
    · rw [if_pos c2]
      have h4 := setP_400 h hs
      refine ev_pos c2 (ev_bind (spec_SetBoth_ev set out hl hlo h4 (setP_400 h c2)) ?_)
      by_cases c3 : (set.any fun x => decide (x ∈ out)) = true
      · rw [if_pos c3]; exact ev_pos ((both_any h4).2 c3) (ev_ret _)
      · rw [if_neg c3]
        exact ev_neg (fun hh => c3 ((both_any h4).1 hh)) (ev_bind (spec_l19Around_ev h hs c2 hl hlo) (ev_ret _))
    · rw [if_neg c2]; exact ev_neg c2 (ev_ret _)
  · rw [if_neg c]; exact ev_neg c (ev_ret _)
set_option maxRecDepth 8000 in
theorem FnAround_pure : laws_FnAround.PureS := by
  intro l hl
  suffices h : Ev (fun k => laws_FnAround.f k l) true from h.rounds
  unfold laws_FnAround.f
  refine ev_ite (fun _ => ev_ret _) fun _ => ?_
  obtain ⟨⟨⟨V, R⟩, set, out⟩, hd, hq, hx, hy⟩ := drawAround_tot (bytes_in hl)
  simp only at hx hy
  have hV : V.length ≤ 4 := hq.1
  have hR : R.length ≤ 4 := hq.2.1
  have hr : ∀ r ∈ R, r.f1.length ≤ 9223372036854775807 := fun r h => by have := hq.2.2 r h; omega
  have hS : Ev (fun k => impl_SetValid.f k V R set) (sysP V R && setP set (sizeP V)) := impl_SetValid_ev V R set (by omega) (by omega) hr
  have hlen : (aroundP V R set out).1.length ≤ 400 := by
    unfold aroundP
    repeat' split
    · exact Nat.zero_le _
    · exact unionP_len V _
    · exact Nat.zero_le _
    · exact Nat.zero_le _
  refine ev_bind hd (ev_bind (impl_Around_ev (by show set.length ≤ _; omega) (by show out.length ≤ _; omega) hS) (ev_bind (spec_Around_ev V R set out (by omega) (by omega)) (ev_neg (by simp) (ev_bind (laws_wcInts_ev (aroundP V R set out).1 (aroundP V R set out).1 (by omega)) (ev_pos (by simp) (ev_bind hS (ev_bind (spec_SetValid_ev V R set (by omega)) (ev_neg (by simp) ?_))))))))
  by_cases c : (sysP V R && setP set (sizeP V)) = true
  case neg =>
    have e : aroundP V R set out = ([], false) := by unfold aroundP; rw [if_neg c]
    rw [e]
    exact ev_neg (by simp) (ev_pos (by simp) (ev_ret _))
  obtain ⟨h, hs⟩ := Bool.and_eq_true_iff.1 c
  by_cases c2 : setP out (sizeP V) = true
  case neg =>
    have e : aroundP V R set out = ([], false) := by unfold aroundP; rw [if_pos c, if_neg c2]
    rw [e]
    exact ev_neg (by simp) (ev_pos (by simp) (ev_ret _))
  by_cases c3 : (set.any fun x => decide (x ∈ out)) = true
  case pos =>
    have e : aroundP V R set out = ([], false) := by unfold aroundP; rw [if_pos c, if_pos c2, if_pos c3]
    rw [e]
    exact ev_neg (by simp) (ev_pos (by simp) (ev_ret _))
  have e : aroundP V R set out = (unionP V (cubesGo V out [] set), true) := by unfold aroundP; rw [if_pos c, if_pos c2, if_neg c3]
  have hz := sizeN_in h
  have h4 := setP_400 h hs
  have h5 := setP_400 h c2
  have hno := none_of c3
  have hok := cubesGo_ok h (fun x hx => by have := setP_range c2 hx; omega) set [] (fun n hn => ⟨by have := setP_range hs hn; omega, hno n hn⟩) (fun c hc => by cases hc)
  have hin := inSome_go V out set []
  rw [e]
  have hul := unionP_len V (cubesGo V out [] set)
  have hus : setP (unionP V (cubesGo V out [] set)) 400 = true := unionP_set V _
  refine ev_pos rfl (ev_pos rfl (ev_bind (impl_SetWithout_ev set (unionP V (cubesGo V out [] set)) (by omega) (by omega) h4 hus) (ev_pos ?_ (ev_bind (impl_SetBoth_ev (unionP V (cubesGo V out [] set)) out (by omega) (by omega) hus h5) (ev_eq (ev_ret _) ?_)))))
  · have : pickP (fun i => decide ((i : Int) ∈ set) && !decide ((i : Int) ∈ unionP V (cubesGo V out [] set))) 400 = [] := by
      refine List.eq_nil_iff_forall_not_mem.2 fun x hx => ?_
      obtain ⟨i, h1, h2, rfl⟩ := pickP_mem.1 hx
      simp only [Bool.and_eq_true, decide_eq_true_eq, Bool.not_eq_true', decide_eq_false_iff_not] at h2
      exact h2.2 ((unionP_mem hz.2).2 ⟨by have := setP_range hs h2.1; omega, hin _ (.inr h2.1)⟩)
    rw [this]; rfl
  · have : pickP (fun i => decide ((i : Int) ∈ unionP V (cubesGo V out [] set)) && decide ((i : Int) ∈ out)) 400 = [] := by
      refine List.eq_nil_iff_forall_not_mem.2 fun x hx => ?_
      obtain ⟨i, h1, h2, rfl⟩ := pickP_mem.1 hx
      simp only [Bool.and_eq_true, decide_eq_true_eq] at h2
      have := ((unionP_mem hz.2).1 h2.1).2
      rw [inSome_out hok h2.2] at this
      exact absurd this (by simp)
    rw [this]; rfl
end Go.Proofs.Ytpjmiaooogephaa.PA
namespace Go.Proofs.Ytpjmiaooogephaa.Pure
theorem FnAround : Go.Proofs.Ytpjmiaooogephaa.PA.laws_FnAround.PureS := Go.Proofs.Ytpjmiaooogephaa.PA.FnAround_pure
end Go.Proofs.Ytpjmiaooogephaa.Pure
end
