/- Words for walks: plain theorems on memory, rows and numbers, each under the conditions that it names. -/
import Derived.Below
import Derived.Deep.Draws
import Derived.Deep.AppendLies
import Derived.Maps.AppendAt
import Derived.OwnWalk
import Derived.Laws.BytesArg
import Derived.Laws.MakeOwn
import Derived.Laws.OwnMore
import Derived.Deep.OwnRows
import Derived.Tactics
import Derived.Lib.ConvBytes
import Derived.Laws.Slices
import Derived.WalkKit
import Derived.KernelRfl
import Derived.RowKit3
import Derived.Deep.LoopGhost
import Derived.Deep.QuietTactic
import Derived.BigQuiet
import Derived.WideLaws
import Derived.Deep.DeepCutAuto
import Derived.Deep.CutBlock
import Derived.Deep.RegionHeld3
import Derived.Laws.Rows
import Derived.Lib.AppendStr
import Derived.ArgAppend
import Derived.Laws.IdiomCopy
import Derived.RowKit
import Derived.OrdersHeld
import Derived.Laws.BitsLemmas
import Derived.Lib.SliceRun
import Derived.WalkSpells
import Derived.Calls
import Derived.Laws.Sem
import Derived.Laws.Append
import Derived.Laws.AppendOwn
import Derived.Laws.Entries
import Derived.Laws.StructEq
section
set_option linter.unusedVariables false
set_option linter.unusedSimpArgs false
namespace Go.Proofs.YtpbpmfckmgcdfaaDoorW.PrintWords
open Go.RowKit
structure Aside0 (p : Prop) : Prop where mk :: (out : p)
structure Drawn0 (w w' : World) : Prop where mk :: (out : ∃ n, w' = w.drewN n)
theorem Drawn0.refl (w : World) : Drawn0 w w := ⟨⟨0, rfl⟩⟩
theorem Drawn0.step {w w' : World} (h : Drawn0 w w') (n : Nat) : Drawn0 w (w'.drewN n) := by
  obtain ⟨m, rfl⟩ := h
  exact ⟨⟨m + n, World.drewN_drewN ..⟩⟩
theorem Drawn0.grown {w w' : World} (h : Drawn0 w w') : Grown w w' := by
  obtain ⟨n, rfl⟩ := h
  induction n with
  | zero => exact Grown.refl _
  | succ n ih => rw [← World.drew_drewN]; exact Grown.drew ih
theorem Drawn0.below {w w' : World} (h : Drawn0 w w') : Below w.heap.size w w' := by
  obtain ⟨n, rfl⟩ := h
  induction n with
  | zero => exact Below.refl _ _
  | succ n ih => rw [← World.drew_drewN]; exact ih.drew
def rd (xs : List Int) (i : Int) : Int := xs.getD i.toNat 0
def bt (s : ByteArray) (i : Int) : Int := if h : i.toNat < s.size then ((s[i.toNat]'h).toNat : Int) else 0
def bools (xs : List Bool) : List Value := xs.map fun x => .bool x
theorem below_alloc {w W : World} (h : Below w.heap.size w W) (o : Obj) : Below w.heap.size w (W.alloc o) := h.alloc h.size o
theorem grown_of_below {w w1 : World} (h : Below w.heap.size w w1) (row : Option Nat) : w.grownBy w1 row := ⟨h.os, h.tape, h.output, h.size, fun i hi _ => h.block i hi⟩
theorem pw_cell_below {w w1 : World} (h : Below w.heap.size w w1) {a : Addr} {v : Value} (hc : w.cell? a = some v) : w1.cell? a = some v := (h.cell (World.block_lt_of_cell? w a hc)).trans hc
theorem add_plain (g j : Nat) : (⟨g, 0, none⟩ : Addr).add j = ⟨g, j, none⟩ := by unfold Addr.add; split <;> simp_all
def ReadsInt (w : World) (k : IntKind) (A : Option Addr) (n : Nat) (xs : List Int) : Prop :=
  xs.length = n ∧ n ≤ 9223372036854775807 ∧ (0 < n → ∃ ad, A = some ad ∧ ∀ j, j < n → w.cell? (ad.add j) = some (.int k (xs.getD j 0)))
theorem ReadsInt.at_ {w : World} {k : IntKind} {A : Option Addr} {n : Nat} {xs : List Int} (h : ReadsInt w k A n xs) (i : Int) (h0 : 0 ≤ i) (h1 : i < n) : ∃ ad, A = some ad ∧ w.cell? (ad.add i.toNat) = some (.int k (rd xs i)) := by
  obtain ⟨ad, e, hc⟩ := h.2.2 (by omega)
  exact ⟨ad, e, hc _ (by omega)⟩
theorem ReadsInt.below {w w1 : World} {k : IntKind} {A : Option Addr} {n : Nat} {xs : List Int} (h : ReadsInt w k A n xs) (hb : Below w.heap.size w w1) : ReadsInt w1 k A n xs :=
  ⟨h.1, h.2.1, fun hn => by
    obtain ⟨ad, e, hc⟩ := h.2.2 hn
    exact ⟨ad, e, fun j hj => pw_cell_below hb (hc j hj)⟩⟩
theorem own_base {w : World} {base : Nat} {e : TypeId} {size n : Nat} {v : Value} {xs : List Value} (h : w.ownsRow base e size v n xs) (k : Nat) (hk : v.ownBlock = some k) : base ≤ k := by
  rcases h.2 with ⟨rfl, _⟩ | ⟨g, cap, cur, rfl, hb, _⟩
  · simp [Value.ownBlock] at hk
  · have : g = k := by simpa [Value.ownBlock] using hk
    omega
theorem own_lt {w : World} {base : Nat} {e : TypeId} {size n : Nat} {v : Value} {xs : List Value} (h : w.ownsRow base e size v n xs) (k : Nat) (hk : v.ownBlock = some k) : k < w.heap.size := by
  rcases h.2 with ⟨rfl, _⟩ | ⟨g, cap, cur, rfl, hb, hh, _⟩
  · simp [Value.ownBlock] at hk
  · have : g = k := by simpa [Value.ownBlock] using hk
    subst this
    exact (Array.getElem?_eq_some_iff.1 hh).1
theorem pw_own_below {w w1 : World} {base : Nat} {e : TypeId} {size n : Nat} {v : Value} {xs : List Value} (h : w.ownsRow base e size v n xs) (hb : Below w.heap.size w w1) : w1.ownsRow base e size v n xs :=
  h.kept (grown_of_below hb none) (by cases v.ownBlock <;> simp)
theorem own_other {w w1 : World} {base : Nat} {e : TypeId} {size n : Nat} {v : Value} {xs : List Value} (h : w.ownsRow base e size v n xs) {row : Option Nat} (hg : w.grownBy w1 row) (hne : v.ownBlock = none ∨ v.ownBlock ≠ row) : w1.ownsRow base e size v n xs := h.kept hg hne
section
variable {P : Program} {ops : Array Oper} {rest : List Oper} {o : Oper} {a : Act} {Q : Exit → Act → World → Prop}
end
section
variable {P : Program}
end
section
variable {P : Program} {ops : Array Oper} {rest : List Oper} {o : Oper} {a : Act} {Q : Exit → Act → World → Prop}
end
def bytesOf (s : ByteArray) : List Int := s.data.toList.map fun b => (b.toNat : Int)
def LeO {α : Type} (a b : Option α) : Prop := ∀ r, a = some r → b = some r
theorem LeO.refl {α : Type} (a : Option α) : LeO a a := fun _ h => h
theorem LeO.none {α : Type} (b : Option α) : LeO Option.none b := fun _ h => by cases h
theorem LeO.trans {α : Type} {a b c : Option α} (h : LeO a b) (k : LeO b c) : LeO a c := fun r hr => k r (h r hr)
theorem LeO.bind {α β : Type} {a a' : Option α} {f f' : α → Option β} (h : LeO a a') (k : ∀ x, LeO (f x) (f' x)) : LeO (a.bind f) (a'.bind f') := by
  intro r hr
  obtain ⟨x, hx, hf⟩ := Option.bind_eq_some_iff.1 hr
  exact Option.bind_eq_some_iff.2 ⟨x, h x hx, k x r hf⟩
theorem LeO.map {α β : Type} {a a' : Option α} (f : α → β) (h : LeO a a') : LeO (a.map f) (a'.map f) := by
  intro r hr
  obtain ⟨x, hx, hf⟩ := Option.map_eq_some_iff.1 hr
  exact Option.map_eq_some_iff.2 ⟨x, h x hx, hf⟩
theorem more_rounds {α : Type} {g : Nat → Option α} (h : ∀ k, LeO (g k) (g (k + 1))) (k : Nat) : ∀ j, LeO (g k) (g (k + j))
  | 0 => LeO.refl _
  | j + 1 => (more_rounds h k j).trans (h (k + j))
theorem at_rounds {α : Type} {g : Nat → Option α} (h : ∀ k, LeO (g k) (g (k + 1))) {k k' : Nat} (hk : k ≤ k') {r : α} (hr : g k = some r) : g k' = some r := by
  have := more_rounds h k (k' - k) r hr
  rwa [Nat.add_sub_cancel' hk] at this
def Reps {α : Type} (R : α → List Value → Prop) (size : Nat) (ps : List α) (cs : List Value) : Prop :=
  cs.length = ps.length * size ∧ ∀ j p, ps[j]? = some p → R p ((cs.drop (j * size)).take size)
theorem Reps.none {α : Type} (R : α → List Value → Prop) (size : Nat) : Reps R size [] [] := ⟨by simp, fun j p h => by simp at h⟩
theorem Reps.snoc {α : Type} {R : α → List Value → Prop} {size : Nat} {ps : List α} {cs c : List Value} {p : α} (h : Reps R size ps cs) (hp : R p c) (hc : c.length = size) : Reps R size (ps ++ [p]) (cs ++ c) := by
  refine ⟨by rw [List.length_append, h.1, hc, List.length_append, List.length_singleton, Nat.add_mul, Nat.one_mul], fun j q hq => ?_⟩
  rcases Nat.lt_or_ge j ps.length with hj | hj
  · rw [List.getElem?_append_left hj] at hq
    have h1 : j * size + size ≤ cs.length := by rw [h.1, ← Nat.succ_mul]; exact Nat.mul_le_mul_right _ hj
    have h2 := h.2 j q hq
    rw [List.drop_append_of_le_length (by omega), List.take_append_of_le_length (by rw [List.length_drop]; omega)]
    exact h2
  · have hj' : j = ps.length := by
      have := (List.getElem?_eq_some_iff.1 hq).1
      rw [List.length_append, List.length_singleton] at this
      omega
    subst hj'
    have hq' : p = q := by simpa using hq
    subst hq'
    rw [← h.1, List.drop_left, ← hc, List.take_length]
    exact hp
theorem Reps.imp_ {α : Type} {R R' : α → List Value → Prop} {size : Nat} {ps : List α} {cs : List Value} (h : Reps R size ps cs) (hR : ∀ p c, R p c → R' p c) : Reps R' size ps cs := ⟨h.1, fun j p hj => hR _ _ (h.2 j p hj)⟩
def ReadsRow {α : Type} (R : α → List Value → Prop) (size : Nat) (w : World) (A : Option Addr) (n : Nat) (ps : List α) : Prop :=
  ps.length = n ∧ n ≤ 9223372036854775807 ∧ (0 < n → ∃ ad, A = some ad ∧ ∀ j p, ps[j]? = some p → ∃ c, c.length = size ∧ R p c ∧ ∀ i u, c[i]? = some u → w.cell? (ad.add (j * size + i)) = some u)
theorem ReadsRow.imp_ {α : Type} {R R' : α → List Value → Prop} {size : Nat} {w w1 : World} {A : Option Addr} {n : Nat} {ps : List α} (h : ReadsRow R size w A n ps) (hb : Below w.heap.size w w1) (hR : ∀ p c, R p c → R' p c) : ReadsRow R' size w1 A n ps :=
  ⟨h.1, h.2.1, fun hn => by
    obtain ⟨ad, e, hc⟩ := h.2.2 hn
    refine ⟨ad, e, fun j p hj => ?_⟩
    obtain ⟨c, hs, hr, hcell⟩ := hc j p hj
    exact ⟨c, hs, hR _ _ hr, fun i u hu => pw_cell_below hb (hcell i u hu)⟩⟩
theorem own_reads_row {α : Type} {R : α → List Value → Prop} {w : World} {base n size : Nat} {e : TypeId} {v : Value} {ps : List α} {cs : List Value} (h : w.ownsRow base e size v n cs) (hR : Reps R size ps cs) (hn : ps.length = n) :
    ∃ A c, v = .slice A n c ∧ ReadsRow R size w A n ps := by
  rcases Nat.eq_zero_or_pos n with h0 | h0
  · rcases h.2 with ⟨rfl, rfl⟩ | ⟨g, cap, cur, rfl, _⟩
    · exact ⟨none, 0, rfl, hn, by omega, fun hp => absurd hp (by omega)⟩
    · exact ⟨_, cap, rfl, hn, by omega, fun hp => absurd hp (by omega)⟩
  · obtain ⟨g, cap, rfl, _, _⟩ := h.form h0
    have hm : n ≤ 9223372036854775807 := by
      rcases h.2 with ⟨_, h1⟩ | ⟨g', cap', cur, he, _, _, h1, h2, _⟩
      · omega
      · simp only [maxLen] at h2
        omega
    refine ⟨_, cap, rfl, hn, hm, fun _ => ⟨_, rfl, fun j p hj => ⟨(cs.drop (j * size)).take size, ?_, hR.2 j p hj, fun i u hu => ?_⟩⟩⟩
    · have hjl := (List.getElem?_eq_some_iff.1 hj).1
      have h1 : j * size + size ≤ cs.length := by rw [hR.1, ← Nat.succ_mul]; exact Nat.mul_le_mul_right _ hjl
      rw [List.length_take, List.length_drop]
      omega
    · refine h.cells (g := g) rfl _ u ?_
      rw [List.getElem?_take] at hu
      split at hu
      · rw [List.getElem?_drop] at hu
        exact hu
      · cases hu
section
variable {P : Program} {ops : Array Oper} {rest : List Oper} {o : Oper} {a : Act} {Q : Exit → Act → World → Prop}
theorem print_append_cells {w0 W : World} (base : Nat) (hgd : o.guard = none) (s x : Operand) (t e : TypeId) (z : Value) (size bytes : Nat)
    (ho : o.op = .call { callee := .builtin .append, args := #[s, x], argTypes := #[t, t] })
    (ht : P.underlying t = some (.slice e)) (hinfo : (P.info? e).map (fun i => (i.zero, i.size, i.bytes)) = some (some z, size, bytes)) (hz : z.cells.size = size) (hs0 : 0 < size) (hb0 : 0 < bytes)
    (v : Value) (n : Nat) (xs ys : List Value) (hs : a.eval s = v) (hx : a.eval x = .slice (some ⟨W.heap.size, 0, none⟩) 1 1) (hys : ys.length = size) (h1 : ∀ u ∈ ys, u.oneCell' = true)
    (HO : W.ownsRow base e size v n xs) (HB : Below base w0 W) (hbase : base ≤ W.heap.size) (hl : (n + 1) * bytes ≤ 140737488355328)
    (h : ∀ v1 w1, w1.ownsRow base e size v1 (n + 1) (xs ++ ys) → Below base w0 w1 → W.grownBy w1 v.ownBlock → (v1.ownBlock = v.ownBlock ∨ ∃ b, v1.ownBlock = some b ∧ W.heap.size ≤ b) → wpList P ops Q rest (a.put o.dst v1) w1) :
    wpList P ops Q (o :: rest) a (W.alloc (.cells ys.toArray e)) := by
  obtain ⟨i0, hi, hzz⟩ := Option.map_eq_some_iff.1 hinfo
  simp only [Prod.mk.injEq] at hzz
  obtain ⟨hz0, hz1, hz2⟩ := hzz
  have hlen : n + 1 ≤ 140737488355328 := Nat.le_trans (Nat.le_mul_of_pos_right _ hb0) hl
  refine wpList_append_own_at (W.alloc (.cells ys.toArray e)) hgd s x t ho base e i0 z size bytes ht hi hz0 hz1 hz2 hz hs0 v n xs hs (HO.alloc _) ⟨W.heap.size, 0, none⟩ 1 1 ys hx (by rw [hys]; simp)
    (by simpa using World.news_of_block (cs := ys.toArray) (t := e) (fr := (0, 0)) (heap_alloc_new W (.cells ys.toArray e))) h1 (by simp only [maxLen]; omega) hl (by simp; omega) ?_
  intro v1 w1 hown hg _ hat
  refine h v1 w1 hown ((HB.alloc hbase _).grown hg (by simp; omega) (own_base HO)) (World.grownBy.trans (World.grownBy_alloc W _ _) hg) ?_
  rcases hat with hat | hat
  · exact .inl hat
  · exact .inr ⟨_, hat, by simp⟩
end
theorem own_ne {w : World} {base : Nat} {e t : TypeId} {size n g : Nat} {v : Value} {xs : List Value} {cs : Array Value} (h : w.ownsRow base e size v n xs) (hg : w.heap[g]? = some (.cells cs t (0, 0))) (hne : e ≠ t) : some g ≠ v.ownBlock := by
  rcases h.2 with ⟨rfl, _⟩ | ⟨g', cap, cur, rfl, _, hh, _⟩
  · simp [Value.ownBlock]
  · intro he
    have : g = g' := by simpa [Value.ownBlock] using he
    subst this
    rw [hg] at hh
    injection hh with hh
    injection hh with _ ht
    exact hne ht.symm
theorem blk_set {w : World} {g : Nat} {t : TypeId} {cs : Array Value} (h : w.heap[g]? = some (.cells cs t (0, 0))) (i : Nat) (u : Value) : (w.setCell ⟨g, i, none⟩ u).heap[g]? = some (.cells (cs.setIfInBounds i u) t (0, 0)) := by
  simp [World.setCell, Array.getElem?_modify, h]
theorem blk_lt {w : World} {g : Nat} {o : Obj} (h : w.heap[g]? = some o) : g < w.heap.size := (Array.getElem?_eq_some_iff.1 h).1
theorem blk_frozen {w : World} {g : Nat} {t : TypeId} {cs : Array Value} (h : w.heap[g]? = some (.cells cs t (0, 0))) (i : Nat) : w.frozen? ⟨g, i, none⟩ = false := by simp [World.frozen?, h]
def KeepBut (w w' : World) (g : Nat) (row : Option Nat) : Prop := w.heap.size ≤ w'.heap.size ∧ ∀ i, i < w.heap.size → i ≠ g → some i ≠ row → w'.heap[i]? = w.heap[i]?
theorem KeepBut.refl (w : World) (g : Nat) (row : Option Nat) : KeepBut w w g row := ⟨Nat.le_refl _, fun _ _ _ _ => rfl⟩
theorem KeepBut.of_below {w w1 : World} (h : Below w.heap.size w w1) (g : Nat) (row : Option Nat) : KeepBut w w1 g row := ⟨h.size, fun i hi _ _ => h.block i hi⟩
theorem KeepBut.trans {w w1 w2 : World} {g : Nat} {row row1 : Option Nat} (h : KeepBut w w1 g row) (k : KeepBut w1 w2 g row1) (hr : row1 = row ∨ ∃ b, row1 = some b ∧ w.heap.size ≤ b) : KeepBut w w2 g row :=
  ⟨Nat.le_trans h.1 k.1, fun i hi hg hn => by
    refine (k.2 i (Nat.lt_of_lt_of_le hi h.1) hg ?_).trans (h.2 i hi hg hn)
    rcases hr with rfl | ⟨b, rfl, hb⟩
    · exact hn
    · intro e
      injection e with e
      omega⟩
theorem KeepBut.blk {w w1 : World} {g g' : Nat} {row : Option Nat} {o : Obj} (h : KeepBut w w1 g row) (hb : w.heap[g']? = some o) (hg : g' ≠ g) (hr : some g' ≠ row) : w1.heap[g']? = some o := (h.2 g' (blk_lt hb) hg hr).trans hb
theorem KeepBut.own {w w1 : World} {g : Nat} {row : Option Nat} {base : Nat} {e : TypeId} {size n : Nat} {v : Value} {xs : List Value} (h : KeepBut w w1 g row) (ho : w.ownsRow base e size v n xs) (hg : v.ownBlock ≠ some g) (hr : v.ownBlock = none ∨ v.ownBlock ≠ row) : w1.ownsRow base e size v n xs := by
  obtain ⟨h1, h2⟩ := ho
  refine ⟨h1, ?_⟩
  rcases h2 with h2 | ⟨b, cap, cur, rfl, hb, hh, r⟩
  · exact .inl h2
  · refine .inr ⟨b, cap, cur, rfl, hb, h.blk hh ?_ ?_, r⟩
    · intro e
      exact hg (by rw [← e]; rfl)
    · rcases hr with hr | hr
      · simp [Value.ownBlock] at hr
      · exact hr
def Ev {α : Type} (g : Nat → Option α) (r : α) : Prop := ∃ K, ∀ k, K ≤ k → g k = some r
theorem Ev.of {α : Type} {g : Nat → Option α} {r : α} (hg : ∀ k, LeO (g k) (g (k + 1))) {k : Nat} (h : g k = some r) : Ev g r := ⟨k, fun _ hk => at_rounds hg hk h⟩
theorem Ev.now {α : Type} (r : α) : Ev (fun _ => some r) r := ⟨0, fun _ _ => rfl⟩
theorem Ev.rounds {α : Type} {g : Nat → Option α} {r : α} (h : Ev g r) : ∃ k, g k = some r := by
  obtain ⟨K, h⟩ := h
  exact ⟨K, h K (Nat.le_refl _)⟩
theorem Ev.bind {α β : Type} {g : Nat → Option α} {f : Nat → α → Option β} {a : α} {r : β} (h : Ev g a) (k : Ev (fun n => f n a) r) : Ev (fun n => (g n).bind (f n)) r := by
  obtain ⟨K, h⟩ := h
  obtain ⟨K', k⟩ := k
  refine ⟨max K K', fun n hn => ?_⟩
  have h1 := h n (by omega)
  have h2 := k n (by omega)
  simp only [h1, Option.bind_some]
  exact h2
theorem Ev.step {α : Type} {g f : Nat → Option α} {r : α} (h : ∀ k, g (k + 1) = f k) (k : Ev f r) : Ev g r := by
  obtain ⟨K, k⟩ := k
  refine ⟨K + 1, fun n hn => ?_⟩
  obtain ⟨m, rfl⟩ : ∃ m, n = m + 1 := ⟨n - 1, by omega⟩
  rw [h]
  exact k m (by omega)
theorem Ev.congr {α : Type} {g f : Nat → Option α} {r : α} (h : ∀ k, g k = f k) (k : Ev f r) : Ev g r := by
  obtain ⟨K, k⟩ := k
  exact ⟨K, fun n hn => (h n).trans (k n hn)⟩
section
variable {P : Program} {ops : Array Oper} {o : Oper} {a : Act} {Q : Exit → Act → World → Prop} {K : Act → World → Prop}
end
theorem own_weaken {w : World} {base base' : Nat} {e : TypeId} {size n : Nat} {v : Value} {xs : List Value} (h : w.ownsRow base e size v n xs) (hb : base' ≤ base) : w.ownsRow base' e size v n xs := by
  obtain ⟨h1, h2⟩ := h
  refine ⟨h1, ?_⟩
  rcases h2 with h2 | ⟨g, cap, cur, rfl, hg, r⟩
  · exact .inl h2
  · exact .inr ⟨g, cap, cur, rfl, Nat.le_trans hb hg, r⟩
section
variable {α : Type} {enc : α → Value} {d : α}
def rdOf (d : α) (xs : List α) (i : Int) : α := xs.getD i.toNat d
def ReadsOf (enc : α → Value) (d : α) (w : World) (A : Option Addr) (n : Nat) (xs : List α) : Prop :=
  xs.length = n ∧ n ≤ 9223372036854775807 ∧ (0 < n → ∃ ad, A = some ad ∧ ∀ j, j < n → w.cell? (ad.add j) = some (enc (xs.getD j d)))
theorem ReadsOf.at_ {w : World} {A : Option Addr} {n : Nat} {xs : List α} (h : ReadsOf enc d w A n xs) (i : Int) (h0 : 0 ≤ i) (h1 : i < n) : ∃ ad, A = some ad ∧ w.cell? (ad.add i.toNat) = some (enc (rdOf d xs i)) := by
  obtain ⟨ad, e, hc⟩ := h.2.2 (by omega)
  exact ⟨ad, e, hc _ (by omega)⟩
theorem ReadsOf.below {w w1 : World} {A : Option Addr} {n : Nat} {xs : List α} (h : ReadsOf enc d w A n xs) (hb : Below w.heap.size w w1) : ReadsOf enc d w1 A n xs :=
  ⟨h.1, h.2.1, fun hn => by
    obtain ⟨ad, e, hc⟩ := h.2.2 hn
    exact ⟨ad, e, fun j hj => pw_cell_below hb (hc j hj)⟩⟩
end
section
variable {α : Type} {P : Program} {ops : Array Oper} {rest : List Oper} {o : Oper} {a : Act} {Q : Exit → Act → World → Prop}
end
section
variable {P : Program}
end
theorem own_le {w : World} {base n m c size : Nat} {e : TypeId} {A : Option Addr} {xs : List Value} (h : w.ownsRow base e size (.slice A m c) n xs) : m ≤ c := by
  rcases h.2 with ⟨he, _⟩ | ⟨g, cap, cur, he, _, _, hnc, _⟩
  · injection he with _ h2 h3
    omega
  · injection he with _ h2 h3
    omega
def OwnRow {α : Type} (R : α → List Value → Prop) (e : TypeId) (size : Nat) (w : World) (base : Nat) (v : Value) (ps : List α) : Prop :=
  ∃ inner, w.ownsRow base e size v ps.length inner ∧ Reps R size ps inner
section
variable {α : Type} {R R' : α → List Value → Prop} {e : TypeId} {size : Nat} {w w1 : World} {base : Nat} {v : Value} {ps : List α}
theorem OwnRow.imp_ (h : OwnRow R e size w base v ps) (hR : ∀ p c, R p c → R' p c) : OwnRow R' e size w base v ps := by
  obtain ⟨inner, ho, hr⟩ := h
  exact ⟨inner, ho, hr.imp_ hR⟩
theorem OwnRow.below (h : OwnRow R e size w base v ps) (hb : Below w.heap.size w w1) : OwnRow R e size w1 base v ps := by
  obtain ⟨inner, ho, hr⟩ := h
  exact ⟨inner, pw_own_below ho hb, hr⟩
theorem OwnRow.other (h : OwnRow R e size w base v ps) {row : Option Nat} (hg : w.grownBy w1 row) (hne : v.ownBlock = none ∨ v.ownBlock ≠ row) : OwnRow R e size w1 base v ps := by
  obtain ⟨inner, ho, hr⟩ := h
  exact ⟨inner, own_other ho hg hne, hr⟩
theorem OwnRow.keep (h : OwnRow R e size w base v ps) {g : Nat} {t : TypeId} {cells : Array Value} (hb : w.heap[g]? = some (.cells cells t (0, 0))) (ht : e ≠ t) (hk : KeepBut w w1 g none) : OwnRow R e size w1 base v ps := by
  obtain ⟨inner, ho, hr⟩ := h
  exact ⟨inner, hk.own ho (Ne.symm (own_ne ho hb ht)) (by cases v.ownBlock <;> simp), hr⟩
theorem OwnRow.reads (h : OwnRow R e size w base v ps) : ∃ A c, v = .slice A ps.length c ∧ ps.length ≤ c ∧ ReadsRow R size w A ps.length ps := by
  obtain ⟨inner, ho, hr⟩ := h
  obtain ⟨A, c, rfl, hrow⟩ := own_reads_row ho hr rfl
  exact ⟨A, c, rfl, own_le ho, hrow⟩
theorem OwnRow.lit (W : World) (base : Nat) {inner : List Value} (hr : Reps R size ps inner) (hb : base ≤ W.heap.size) (hm : ps.length ≤ 9223372036854775807) :
    OwnRow R e size (W.alloc (.cells inner.toArray e)) base (.slice (some ⟨W.heap.size, 0, none⟩) ps.length ps.length) ps := by
  have h := World.ownsRow_lit (base := base) (e := e) (size := size) W inner.toArray ps.length hb (by simpa [maxLen] using hm) (by simpa using hr.1)
  exact ⟨inner, by simpa using h, hr⟩
end
section
variable {P : Program} {ops : Array Oper} {rest : List Oper} {o : Oper} {a : Act} {Q : Exit → Act → World → Prop} {α : Type} {R : α → List Value → Prop}
theorem OwnRow.append {w0 W : World} (base : Nat) (hgd : o.guard = none) (s x : Operand) (t e : TypeId) (z : Value) (size bytes : Nat)
    (ho : o.op = .call { callee := .builtin .append, args := #[s, x], argTypes := #[t, t] })
    (ht : P.underlying t = some (.slice e)) (hinfo : (P.info? e).map (fun i => (i.zero, i.size, i.bytes)) = some (some z, size, bytes)) (hz : z.cells.size = size) (hs0 : 0 < size) (hb0 : 0 < bytes)
    (v : Value) (ps : List α) (p : α) (cs : List Value) (hs : a.eval s = v) (hx : a.eval x = .slice (some ⟨W.heap.size, 0, none⟩) 1 1) (hp : R p cs) (hcs : cs.length = size) (h1 : ∀ u ∈ cs, u.oneCell' = true)
    (HO : OwnRow R e size W base v ps) (HB : Below base w0 W) (hbase : base ≤ W.heap.size) (hl : (ps.length + 1) * bytes ≤ 140737488355328)
    (h : ∀ v1 w1, OwnRow R e size w1 base v1 (ps ++ [p]) → Below base w0 w1 → W.grownBy w1 v.ownBlock → (v1.ownBlock = v.ownBlock ∨ ∃ b, v1.ownBlock = some b ∧ W.heap.size ≤ b) → wpList P ops Q rest (a.put o.dst v1) w1) :
    wpList P ops Q (o :: rest) a (W.alloc (.cells cs.toArray e)) := by
  obtain ⟨inner, hown, hr⟩ := HO
  refine print_append_cells base hgd s x t e z size bytes ho ht hinfo hz hs0 hb0 v ps.length inner cs hs hx hcs h1 hown HB hbase hl ?_
  intro v1 w1 hown1 hb1 hg1 hat1
  exact h v1 w1 ⟨inner ++ cs, by rw [List.length_append, List.length_singleton]; exact hown1, hr.snoc hp hcs⟩ hb1 hg1 hat1
end
section
variable {P : Program} {ops : Array Oper} {o : Oper} {a : Act} {Q : Exit → Act → World → Prop} {K : Act → World → Prop} {α : Type} {R : α → List Value → Prop}
end
section
variable {α : Type} {P : Program}
theorem ReadsOf.len_ {enc : α → Value} {d : α} {w : World} {A : Option Addr} {n : Nat} {xs : List α} (h : ReadsOf enc d w A n xs) : ReadsOf enc d w A xs.length xs := by rw [h.1]; exact h
end
section
variable {P : Program} {ops : Array Oper} {rest : List Oper} {o : Oper} {a : Act} {Q : Exit → Act → World → Prop}
end
structure Kd (α : Type) where
  sz : Nat
  E : List Nat
  K : World → α → List Value → Prop
  M : World → Nat → (Nat → Prop) → α → List Value → Prop
  K_len : ∀ {w x cs}, K w x cs → cs.length = sz
  K_one : ∀ {w x cs}, K w x cs → ∀ u ∈ cs, u.oneCell' = true
  K_below : ∀ {w w1 : World} {x cs}, Below w.heap.size w w1 → K w x cs → K w1 x cs
  K_of_M : ∀ {w base ok x cs}, M w base ok x cs → K w x cs
  M_mono : ∀ {w base ok ok' x cs}, (∀ k, ok k → ok' k) → M w base ok x cs → M w base ok' x cs
  M_bound : ∀ {w : World} {base ok x cs}, M w base ok x cs → M w base (fun k => ok k ∧ base ≤ k ∧ k < w.heap.size ∧ ∃ q, q ∈ E ∧ ∃ cells, w.heap[k]? = some (.cells cells q (0, 0))) x cs
  M_move : ∀ {w w1 : World} {base ok x cs}, (∀ k, ok k → w1.heap[k]? = w.heap[k]?) → M w base ok x cs → M w1 base ok x cs
  M_lower : ∀ {w base base' ok x cs}, base' ≤ base → M w base ok x cs → M w base' ok x cs
theorem own_move {w w1 : World} {base : Nat} {e : TypeId} {size n : Nat} {v : Value} {xs : List Value} (h : w.ownsRow base e size v n xs) (hm : ∀ k, v.ownBlock = some k → w1.heap[k]? = w.heap[k]?) : w1.ownsRow base e size v n xs := by
  obtain ⟨h1, h2⟩ := h
  refine ⟨h1, ?_⟩
  rcases h2 with h2 | ⟨g, cap, cur, rfl, hg, hh, r⟩
  · exact .inl h2
  · exact .inr ⟨g, cap, cur, rfl, hg, (hm g (by simp [Value.ownBlock])).trans hh, r⟩
theorem own_typed {w : World} {base : Nat} {e : TypeId} {size n : Nat} {v : Value} {xs : List Value} (h : w.ownsRow base e size v n xs) (k : Nat) (hk : v.ownBlock = some k) : ∃ cells, w.heap[k]? = some (.cells cells e (0, 0)) := by
  rcases h.2 with ⟨rfl, _⟩ | ⟨g, cap, cur, rfl, hg, hh, r⟩
  · simp [Value.ownBlock] at hk
  · have : g = k := by simpa [Value.ownBlock] using hk
    subst this
    exact ⟨cur, hh⟩
namespace Kd
def C {α : Type} (d : Kd α) (w : World) (A : Option Addr) (n : Nat) (xs : List α) : Prop := ReadsRow (d.K w) d.sz w A n xs
def R {α : Type} (d : Kd α) (e : Nat) (w : World) (base : Nat) (ok : Nat → Prop) (v : Value) (xs : List α) : Prop :=
  (∀ k, v.ownBlock = some k → ok k) ∧ OwnRow (d.M w base (fun k => ok k ∧ some k ≠ v.ownBlock)) e d.sz w base v xs
section
variable {α : Type} {d : Kd α} {e : Nat} {w w1 : World} {base : Nat} {ok ok' : Nat → Prop} {v : Value} {xs : List α}
theorem C_below {A : Option Addr} {n : Nat} (h : d.C w A n xs) (hb : Below w.heap.size w w1) : d.C w1 A n xs := ReadsRow.imp_ h hb (fun _ _ hp => d.K_below hb hp)
theorem R_mono (h : d.R e w base ok v xs) (hok : ∀ k, ok k → ok' k) : d.R e w base ok' v xs := ⟨fun k hk => hok k (h.1 k hk), h.2.imp_ (fun _ _ hp => d.M_mono (fun k hk => ⟨hok k hk.1, hk.2⟩) hp)⟩
theorem R_bound (h : d.R e w base ok v xs) : d.R e w base (fun k => ok k ∧ base ≤ k ∧ k < w.heap.size ∧ ∃ q, q ∈ e :: d.E ∧ ∃ cells, w.heap[k]? = some (.cells cells q (0, 0))) v xs := by
  obtain ⟨h0, inner, ho, hr⟩ := h
  refine ⟨fun k hk => ?_, inner, ho, hr.imp_ (fun _ _ hp => d.M_mono (fun k hk => ?_) (d.M_bound hp))⟩
  · obtain ⟨cells, hc⟩ := own_typed ho k hk
    exact ⟨h0 k hk, own_base ho k hk, own_lt ho k hk, e, List.mem_cons_self, cells, hc⟩
  · obtain ⟨⟨h1, h2⟩, h3, h4, q, hq, hc⟩ := hk
    exact ⟨⟨h1, h3, h4, q, List.mem_cons_of_mem _ hq, hc⟩, h2⟩
theorem R_move (h : d.R e w base ok v xs) (hm : ∀ k, ok k → w1.heap[k]? = w.heap[k]?) : d.R e w1 base ok v xs := by
  obtain ⟨h0, inner, ho, hr⟩ := h
  exact ⟨h0, inner, own_move ho (fun k hk => hm k (h0 k hk)), hr.imp_ (fun _ _ hp => d.M_move (fun k hk => hm k hk.1) hp)⟩
theorem R_lower {base' : Nat} (h : d.R e w base ok v xs) (hb : base' ≤ base) : d.R e w base' ok v xs := by
  obtain ⟨h0, inner, ho, hr⟩ := h
  exact ⟨h0, inner, own_weaken ho hb, hr.imp_ (fun _ _ hp => d.M_lower hb hp)⟩
theorem R_reads (h : d.R e w base ok v xs) : ∃ A c, v = .slice A xs.length c ∧ xs.length ≤ c ∧ d.C w A xs.length xs := by
  obtain ⟨A, c, he, hl, hr⟩ := OwnRow.reads h.2
  exact ⟨A, c, he, hl, hr.imp_ (Below.refl _ _) (fun _ _ hp => d.K_of_M hp)⟩
end
def scalar {α : Type} (enc : α → Value) (h1 : ∀ x, (enc x).oneCell' = true) : Kd α where
  sz := 1
  E := []
  K := fun _ x cs => cs = [enc x]
  M := fun _ _ _ x cs => cs = [enc x]
  K_len := fun h => by rw [h]; rfl
  K_one := fun h u hu => by
    rw [h] at hu
    rw [List.mem_singleton.1 hu]
    exact h1 _
  K_below := fun _ h => h
  K_of_M := fun h => h
  M_mono := fun _ h => h
  M_bound := fun h => h
  M_move := fun _ h => h
  M_lower := fun _ h => h
def int (k : IntKind) : Kd Int := scalar (Value.int k) (fun _ => rfl)
def bool : Kd Bool := scalar Value.bool (fun _ => rfl)
def string : Kd ByteArray := scalar Value.string (fun _ => rfl)
def slice {α : Type} (e : Nat) (d : Kd α) : Kd (List α) where
  sz := 1
  E := e :: d.E
  K := fun w xs cs => ∃ A c, cs = [.slice A xs.length c] ∧ xs.length ≤ c ∧ d.C w A xs.length xs
  M := fun w base ok xs cs => ∃ v, cs = [v] ∧ d.R e w base ok v xs
  K_len := by
    rintro w x cs ⟨A, c, rfl, _⟩
    rfl
  K_one := by
    rintro w x cs ⟨A, c, rfl, _⟩ u hu
    rw [List.mem_singleton.1 hu]
    rfl
  K_below := by
    rintro w w1 x cs hb ⟨A, c, rfl, hl, hr⟩
    exact ⟨A, c, rfl, hl, C_below hr hb⟩
  K_of_M := by
    rintro w base ok x cs ⟨v, rfl, h⟩
    obtain ⟨A, c, rfl, hl, hr⟩ := R_reads h
    exact ⟨A, c, rfl, hl, hr⟩
  M_mono := by
    rintro w base ok ok' x cs hok ⟨v, rfl, h⟩
    exact ⟨v, rfl, R_mono h hok⟩
  M_bound := by
    rintro w base ok x cs ⟨v, rfl, h⟩
    exact ⟨v, rfl, R_bound h⟩
  M_move := by
    rintro w w1 base ok x cs hm ⟨v, rfl, h⟩
    exact ⟨v, rfl, R_move h hm⟩
  M_lower := by
    rintro w base base' ok x cs hb ⟨v, rfl, h⟩
    exact ⟨v, rfl, R_lower h hb⟩
def bot {α : Type} (sz : Nat) (E : List Nat) : Kd α where
  sz := sz
  E := E
  K := fun _ _ _ => False
  M := fun _ _ _ _ _ => False
  K_len := fun h => h.elim
  K_one := fun h => h.elim
  K_below := fun _ h => h
  K_of_M := fun h => h
  M_mono := fun _ h => h
  M_bound := fun h => h
  M_move := fun _ h => h
  M_lower := fun _ h => h
def upto {α : Type} (F : Kd α → Kd α) (sz : Nat) (E : List Nat) : Nat → Kd α
  | 0 => bot sz E
  | n + 1 => F (upto F sz E n)
section
variable {P : Program} {ops : Array Oper} {rest : List Oper} {o : Oper} {a : Act} {Q : Exit → Act → World → Prop} {α : Type}
end
section
variable {P : Program} {ops : Array Oper} {o : Oper} {a : Act} {Q : Exit → Act → World → Prop} {Kc : Act → World → Prop} {α : Type}
end
end Kd
namespace Kd
section
variable {α : Type} {F : Kd α → Kd α} {sz : Nat} {E : List Nat} {hs : ∀ n, (upto F sz E n).sz = sz} {hE : ∀ n q, q ∈ (upto F sz E n).E → q ∈ E}
end
end Kd
namespace Kd
end Kd
namespace Kd
section
variable {α β : Type} {d : Kd α} {d' : Kd β} {e e' : Nat} {w w1 W : World} {base b b' : Nat} {ok ok' okv oku : Nat → Prop} {v u : Value} {xs : List α} {ys : List β}
end
section
variable {w W : World} {A : Option Addr} {n : Nat}
variable {α : Type} {enc : α → Value} {h1 : ∀ x, (enc x).oneCell' = true} {e base g cap : Nat} {ok : Nat → Prop} {xs : List α}
end
section
variable {P : Program} {ops : Array Oper} {rest : List Oper} {o : Oper} {a : Act} {Q : Exit → Act → World → Prop}
variable {α : Type}
end
end Kd
section
variable {P : Program}
end
def QRow (w : World) (base : Nat) (e : TypeId) (size : Nat) (v : Value) (n : Nat) (xs : List Value) : Prop :=
  xs.length = n * size ∧
  ((n = 0 ∧ ∃ A, v = .slice A 0 0 ∧ ∀ a, A = some a → base ≤ a.block ∧ ∃ cur, w.heap[a.block]? = some (.cells cur e (0, 0))) ∨
   ∃ g off cap cur, v = .slice (some ⟨g, off * size, none⟩) n cap ∧ base ≤ g ∧ w.heap[g]? = some (.cells cur e (0, 0)) ∧ n ≤ cap ∧ off + cap ≤ maxLen ∧ cur.size = (off + cap) * size ∧ (cur.toList.drop (off * size)).take (n * size) = xs)
section
variable {w w1 : World} {base n size : Nat} {e : TypeId} {v : Value} {xs : List Value}
theorem setCells_far {g : Nat} : ∀ (vs : List Value) (o : Nat) {w : World} (k : Nat), k ≠ g → (w.setCells g o vs).heap[k]? = w.heap[k]?
  | [], _, _, _, _ => rfl
  | v :: r, o, w, k, hk => by
    rw [World.setCells, setCells_far r (o + 1) k hk]
    exact Below.heap_setCell w ⟨g, o, none⟩ v k hk
theorem setCells_same (g : Nat) : ∀ (vs : List Value) (o : Nat) (w : World), (w.setCells g o vs).os = w.os ∧ (w.setCells g o vs).tape = w.tape ∧ (w.setCells g o vs).output = w.output ∧ (w.setCells g o vs).heap.size = w.heap.size
  | [], _, _ => ⟨rfl, rfl, rfl, rfl⟩
  | v :: r, o, w => by
    obtain ⟨h1, h2, h3, h4⟩ := setCells_same g r (o + 1) (w.setCell ⟨g, o, none⟩ v)
    rw [World.setCells]
    exact ⟨h1, h2, h3, by rw [h4]; simp [World.setCell]⟩
theorem setCells_row {g : Nat} {e : TypeId} : ∀ (vs : List Value) (o : Nat) (w : World) (cur : Array Value), w.heap[g]? = some (.cells cur e (0, 0)) → o + vs.length ≤ cur.size →
    ∃ cur', (w.setCells g o vs).heap[g]? = some (.cells cur' e (0, 0)) ∧ cur'.size = cur.size ∧ cur'.toList = cur.toList.take o ++ vs ++ cur.toList.drop (o + vs.length)
  | [], o, w, cur, h, _ => ⟨cur, h, rfl, by simp⟩
  | v :: r, o, w, cur, h, hl => by
    have h2 := blk_set h o v
    simp only [List.length_cons] at hl
    obtain ⟨cur', h3, h4, h5⟩ := setCells_row r (o + 1) (w.setCell ⟨g, o, none⟩ v) _ h2 (by simp; omega)
    refine ⟨cur', h3, by rw [h4]; simp, ?_⟩
    rw [h5, Array.toList_setIfInBounds]
    have ho : o < cur.toList.length := by rw [Array.length_toList]; omega
    rw [List.take_set, List.drop_set_of_lt (by omega)]
    simp only [List.length_cons]
    rw [show o + 1 + r.length = o + (r.length + 1) by omega]
    congr 1
    rw [List.take_succ_eq_append_getElem ho, List.set_append_right _ _ (by rw [List.length_take]; omega)]
    have ho' : o < cur.size := by omega
    simp [Nat.min_eq_left (Nat.le_of_lt ho')]
end
section
variable {P : Program}
end
namespace Kd
def Q {α : Type} (d : Kd α) (e : Nat) (w : World) (base : Nat) (ok : Nat → Prop) (v : Value) (xs : List α) : Prop :=
  (∀ k, v.ownBlock = some k → ok k) ∧ ∃ inner, QRow w base e d.sz v xs.length inner ∧ Reps (d.M w base (fun k => ok k ∧ some k ≠ v.ownBlock)) d.sz xs inner
section
variable {α : Type} {d : Kd α} {e : Nat} {w w1 W : World} {base : Nat} {ok ok' : Nat → Prop} {v : Value} {xs : List α}
end
section
variable {P : Program} {ops : Array Oper} {rest : List Oper} {o : Oper} {a : Act} {Q' : Exit → Act → World → Prop} {Kc : Act → World → Prop} {α : Type}
end
end Kd
namespace Kd
section
variable {α : Type} {d : Kd α} {e e' : Nat} {w w1 W : World} {base : Nat} {ok : Nat → Prop} {u v : Value} {xs : List α}
end
end Kd
namespace Kd
section
variable {α : Type} {d : Kd α} {e base g n cap : Nat} {ok okp : Nat → Prop} {W : World} {xs : List α}
end
end Kd
namespace Kd
section
variable {α : Type} {F : Kd α → Kd α} {sz : Nat} {E : List Nat} {hs : ∀ n, (upto F sz E n).sz = sz} {hE : ∀ n q, q ∈ (upto F sz E n).E → q ∈ E}
end
end Kd
namespace Kd
section
variable {P : Program} {ops : Array Oper} {rest : List Oper} {o : Oper} {a : Act} {Q : Exit → Act → World → Prop} {α : Type}
end
end Kd
namespace Kd
section
variable {P : Program} {ops : Array Oper} {rest : List Oper} {o : Oper} {a : Act} {Q : Exit → Act → World → Prop} {α : Type}
end
end Kd
theorem add_add (a : Addr) (i j : Nat) : (a.add i).add j = a.add (i + j) := by
  unfold Addr.add
  by_cases h1 : i = 0 <;> by_cases h2 : j = 0 <;> simp [h1, h2, Nat.add_assoc]
namespace Kd
section
variable {α : Type} {k : Kd α} {w : World} {A : Option Addr} {xs : List α} {m c : Nat}
end
end Kd
section
variable {P : Program}
end
theorem ReadsInt.nil (W : World) (k : IntKind) : ReadsInt W k none ([] : List Int).length [] := ⟨rfl, by simp, fun h => absurd h (Nat.lt_irrefl 0)⟩
theorem ReadsInt.drewN {W : World} {k : IntKind} {A : Option Addr} {n : Nat} {xs : List Int} (h : ReadsInt W k A n xs) (m : Nat) : ReadsInt (W.drewN m) k A n xs := h
theorem keep_cell {w W : World} {g : Nat} (h : KeepBut w W g none) {a : Addr} {v : Value} (hc : w.cell? a = some v) (hne : a.block ≠ g) : W.cell? a = some v := by
  have := h.2 a.block (World.block_lt_of_cell? w a hc) hne (by simp)
  simpa [World.cell?, this] using hc
theorem add_block (a : Addr) (i : Nat) : (a.add i).block = a.block := by unfold Addr.add; split <;> rfl
theorem ReadsOf.nil {α : Type} (enc : α → Value) (d : α) (W : World) : ReadsOf enc d W none ([] : List α).length [] := ⟨rfl, by simp, fun h => absurd h (Nat.lt_irrefl 0)⟩
theorem ReadsOf.drewN {α : Type} {enc : α → Value} {d : α} {W : World} {A : Option Addr} {n : Nat} {xs : List α} (h : ReadsOf enc d W A n xs) (m : Nat) : ReadsOf enc d (W.drewN m) A n xs := h
theorem ReadsInt.keep {w W : World} {k : IntKind} {A : Option Addr} {n g : Nat} {xs : List Int} (h : ReadsInt w k A n xs) (hk : KeepBut w W g none) (hf : ∀ ad, A = some ad → 0 < n → ad.block ≠ g) : ReadsInt W k A n xs :=
  ⟨h.1, h.2.1, fun hn => by
    obtain ⟨ad, e, hc⟩ := h.2.2 hn
    exact ⟨ad, e, fun j hj => keep_cell hk (hc j hj) (by rw [add_block]; exact hf ad e hn)⟩⟩
theorem ReadsOf.keep {α : Type} {enc : α → Value} {d : α} {w W : World} {A : Option Addr} {n g : Nat} {xs : List α} (h : ReadsOf enc d w A n xs) (hk : KeepBut w W g none) (hf : ∀ ad, A = some ad → 0 < n → ad.block ≠ g) : ReadsOf enc d W A n xs :=
  ⟨h.1, h.2.1, fun hn => by
    obtain ⟨ad, e, hc⟩ := h.2.2 hn
    exact ⟨ad, e, fun j hj => keep_cell hk (hc j hj) (by rw [add_block]; exact hf ad e hn)⟩⟩
namespace Kd
section
variable {α β : Type} {d : Kd α} {d' : Kd β} {e e' base base' n : Nat} {ok ok' : Nat → Prop} {w W w1 W1 : World} {v u : Value} {xs : List α} {ys : List β} {A : Option Addr} {c : Nat}
end
section
variable {α : Type} {enc : α → Value} {h1 : ∀ x, (enc x).oneCell' = true} {w W : World} {A : Option Addr} {n g : Nat} {xs : List α}
end
end Kd
namespace Kd
section
variable {α : Type} {d : Kd α} {e base g : Nat} {ok : Nat → Prop} {w w1 : World} {v : Value} {xs : List α} {o : Obj}
end
end Kd
section
variable {P : Program} {ops : Array Oper} {rest : List Oper} {o : Oper} {a : Act} {Q : Exit → Act → World → Prop}
end
namespace Kd
section
variable {α : Type} {enc : α → Value} {h1 : ∀ x, (enc x).oneCell' = true} {e base g n cap : Nat} {ok : Nat → Prop} {W : World} {xs : List α}
end
end Kd
section
variable {P : Program} {ops : Array Oper} {rest : List Oper} {o : Oper} {a : Act} {Q : Exit → Act → World → Prop}
end
namespace Kd
section
variable {α : Type} {enc : α → Value} {h1 : ∀ x, (enc x).oneCell' = true} {e base g n cap : Nat} {ok : Nat → Prop} {W : World} {xs : List α}
end
end Kd
section
variable {P : Program} {ops : Array Oper} {rest : List Oper} {o : Oper} {a : Act} {Q : Exit → Act → World → Prop} {W : World}
end
section
variable {P : Program} {ops : Array Oper} {o : Oper} {a : Act} {Q : Exit → Act → World → Prop} {Kc : Act → World → Prop}
namespace Kd
variable {α : Type}
end Kd
end
section
variable {P : Program} {tmps : Array Value} {w : World}
end
namespace Kd
section
variable {P : Program} {α : Type}
end
section
variable {P : Program} {ops : Array Oper} {rest : List Oper} {o : Oper} {a : Act} {Q : Exit → Act → World → Prop} {Kc : Act → World → Prop} {α : Type}
end
end Kd
end Go.Proofs.YtpbpmfckmgcdfaaDoorW.PrintWords
end
section
namespace Go.Proofs.YtpbpmfckmgcdfaaDoorW.PrintLast
section
variable {P : Program} {ops : Array Oper} {Q : Exit → Act → World → Prop} {md : Region.Mode} {S : World → Prop} {ds : List Nat}
def ListedClosed (md : Region.Mode) (ops : Array Oper) (listed : Array Bool) : Prop :=
  ∀ j oj, ops[j]? = some oj → listed.getD j false = true → ∀ e ∈ oj.after, Region.binds md e = true → listed.getD e.on false = true
theorem ListedClosed.set {listed : Array Bool} {i : Nat} (h : ListedClosed md ops listed) (hi : i ∈ Region.ready md ops listed) : ListedClosed md ops (listed.setIfInBounds i true) := by
  obtain ⟨_, oi, hoi, hall⟩ := mem_ready.1 hi
  intro j oj hj hl e he hb
  by_cases hij : i = j
  · subst hij
    have : oj = oi := Option.some.inj (hj.symm.trans hoi)
    subst this
    exact getD_set_true (hall e he hb)
  · rw [getD_set_ne false hij] at hl
    exact getD_set_true (h j oj hj hl e he hb)
def wpAnyLast (P : Program) (md : Region.Mode) (ops : Array Oper) (Q : Exit → Act → World → Prop) (S : World → Prop) (ds : List Nat) : Nat → Array Bool → Act → World → Prop
  | 0, listed, a, w => Region.ready md ops listed = [] ∧ Q .normal a w
  | fuel + 1, listed, a, w =>
    (Region.ready md ops listed = [] → Q .normal a w) ∧
    ∀ i ∈ Region.ready md ops listed, wpOp P ops Q i (fun a' w' => (i ∉ ds → S w → S w') ∧ wpAnyLast P md ops Q S ds fuel (listed.setIfInBounds i true) a' w') a w
end
section
variable {P : Program} {ops : Array Oper} {Q : Exit → Act → World → Prop} {md : Region.Mode} {S : World → Prop} {ds : List Nat}
def AllReadyL (P : Program) (md : Region.Mode) (ops : Array Oper) (Q : Exit → Act → World → Prop) (S : World → Prop) (ds : List Nat) (fuel : Nat) (listed : Array Bool) (a : Act) (w : World) (rs : List Nat) : Prop :=
  ∀ i ∈ rs, wpOp P ops Q i (fun a' w' => (i ∉ ds → S w → S w') ∧ wpAnyLast P md ops Q S ds fuel (listed.setIfInBounds i true) a' w') a w
theorem AllReadyL.nil {fuel : Nat} {listed : Array Bool} {a : Act} {w : World} : AllReadyL P md ops Q S ds fuel listed a w [] := fun _ h => by cases h
theorem AllReadyL.cons {fuel : Nat} {listed : Array Bool} {a : Act} {w : World} {i : Nat} {o : Oper} {rs : List Nat} (ho : ops[i]? = some o) (hd : i ∉ ds)
    (h : ∀ K' : Act → World → Prop, Shut (∀ a w, S w → (S w → wpAnyLast P md ops Q S ds fuel (listed.setIfInBounds i true) a w) → K' a w) → if Region.wanted o (yielded ops a.tmps) = true then Oper.wp P o a w K' Q else K' (a.put o.dst undef) w)
    (hs : AllReadyL P md ops Q S ds fuel listed a w rs) : AllReadyL P md ops Q S ds fuel listed a w (i :: rs) := fun j hj => by
  rcases List.mem_cons.1 hj with rfl | hj
  · exact wpOp_step ho (fun K' hK => h K' (fun a w hS hW => hK a w ⟨fun _ _ => hS, hW hS⟩))
  · exact hs j hj
end
end Go.Proofs.YtpbpmfckmgcdfaaDoorW.PrintLast
end
section
namespace Go.Proofs.YtpbpmfckmgcdfaaDoorW.PrintWords
open Go.RowKit
namespace Kd
def tag {α : Type} (f : Nat → Nat) (d : Kd α) : Kd (α × Nat) where
  sz := d.sz
  E := d.E
  K := fun w x cs => d.K w x.1 cs
  M := fun w base ok x cs => d.M w base (fun k => ok k ∧ f k = x.2) x.1 cs
  K_len := fun h => d.K_len h
  K_one := fun h => d.K_one h
  K_below := fun hb h => d.K_below hb h
  K_of_M := fun h => d.K_of_M h
  M_mono := fun hok h => d.M_mono (fun k hk => ⟨hok k hk.1, hk.2⟩) h
  M_bound := fun h => d.M_mono (fun _ hk => ⟨⟨hk.1.1, hk.2⟩, hk.1.2⟩) (d.M_bound h)
  M_move := fun hm h => d.M_move (fun k hk => hm k hk.1) h
  M_lower := fun hb h => d.M_lower hb h
def raw (sz : Nat) : Kd (List Value) where
  sz := sz
  E := []
  K := fun _ x cs => cs = x ∧ cs.length = sz ∧ ∀ u ∈ cs, u.oneCell' = true
  M := fun _ _ _ x cs => cs = x ∧ cs.length = sz ∧ ∀ u ∈ cs, u.oneCell' = true
  K_len := fun h => h.2.1
  K_one := fun h => h.2.2
  K_below := fun _ h => h
  K_of_M := fun h => h
  M_mono := fun _ h => h
  M_bound := fun h => h
  M_move := fun _ h => h
  M_lower := fun _ h => h
def S {α : Type} (d : Kd α) (e : Nat) (w : World) (base : Nat) (ok : Nat → Prop) (v : Value) (xs : List α) : Prop := ∃ f, (tag f d).R e w base ok v xs.zipIdx
section
variable {α β : Type} {d : Kd α} {d' : Kd β} {e e' : Nat} {w w1 W : World} {base b : Nat} {ok ok' okv oku : Nat → Prop} {u v : Value} {xs : List α} {ys : List β}
end
section
variable {α β : Type} {d : Kd α} {d' : Kd β} {e e' g : Nat} {w w1 W : World} {base b : Nat} {ok ok' okv oku : Nat → Prop} {u v : Value} {xs : List α} {ys : List β}
end
section
variable {P : Program} {ops : Array Oper} {rest : List Oper} {o : Oper} {a : Act} {Q : Exit → Act → World → Prop} {Kc : Act → World → Prop} {α : Type}
end
def gap {α : Type} (f : Nat → Nat) (d : Kd α) (i : Nat) (c : List Value) : Kd (α × Nat) where
  sz := d.sz
  E := d.E
  K := fun w x cs => (x.2 = i → cs = c ∧ cs.length = d.sz ∧ ∀ u ∈ cs, u.oneCell' = true) ∧ (x.2 ≠ i → d.K w x.1 cs)
  M := fun w base ok x cs => (x.2 = i → cs = c ∧ cs.length = d.sz ∧ ∀ u ∈ cs, u.oneCell' = true) ∧ (x.2 ≠ i → d.M w base (fun k => ok k ∧ f k = x.2) x.1 cs)
  K_len := fun {w x cs} h => by
    by_cases hx : x.2 = i
    · exact (h.1 hx).2.1
    · exact d.K_len (h.2 hx)
  K_one := fun {w x cs} h => by
    by_cases hx : x.2 = i
    · exact (h.1 hx).2.2
    · exact d.K_one (h.2 hx)
  K_below := fun hb h => ⟨h.1, fun hx => d.K_below hb (h.2 hx)⟩
  K_of_M := fun h => ⟨h.1, fun hx => d.K_of_M (h.2 hx)⟩
  M_mono := fun hok h => ⟨h.1, fun hx => d.M_mono (fun k hk => ⟨hok k hk.1, hk.2⟩) (h.2 hx)⟩
  M_bound := fun h => ⟨h.1, fun hx => d.M_mono (fun _ hk => ⟨⟨hk.1.1, hk.2⟩, hk.1.2⟩) (d.M_bound (h.2 hx))⟩
  M_move := fun hm h => ⟨h.1, fun hx => d.M_move (fun k hk => hm k hk.1) (h.2 hx)⟩
  M_lower := fun hb h => ⟨h.1, fun hx => d.M_lower hb (h.2 hx)⟩
def H {α : Type} (d : Kd α) (e : Nat) (w : World) (base : Nat) (ok : Nat → Prop) (v : Value) (xs : List α) (i : Int) (oki : Nat → Prop) (c : List Value) : Prop :=
  (∀ k, oki k → ok k) ∧ ∃ f, (gap f d i.toNat c).R e w base (fun k => ok k ∧ ¬ oki k) v xs.zipIdx
section
variable {α β : Type} {d : Kd α} {e e' g n cap : Nat} {w w1 W : World} {base : Nat} {ok ok' oki okp : Nat → Prop} {u v : Value} {xs : List α} {i : Int} {c : List Value}
end
section
variable {P : Program} {ops : Array Oper} {rest : List Oper} {o : Oper} {a : Act} {Q : Exit → Act → World → Prop} {α : Type}
end
end Kd
end Go.Proofs.YtpbpmfckmgcdfaaDoorW.PrintWords
end
section
namespace Go.Proofs.YtpbpmfckmgcdfaaDoorW.PrintWords
open Go.RowKit
namespace Kd
theorem reps_one {α : Type} {R : α → List Value → Prop} {size : Nat} {ps : List α} {cs : List Value} (h : Reps R size ps cs) (hs0 : 0 < size) (hR : ∀ p c, R p c → ∀ u ∈ c, u.oneCell' = true) : ∀ u ∈ cs, u.oneCell' = true := by
  intro u hu
  obtain ⟨q, hq, rfl⟩ := List.mem_iff_getElem.1 hu
  have hql : q / size < ps.length := by
    rw [Nat.div_lt_iff_lt_mul hs0, ← h.1]
    exact hq
  refine hR _ _ (h.2 (q / size) _ (List.getElem?_eq_getElem hql)) _ ?_
  rw [List.mem_iff_getElem?]
  refine ⟨q % size, ?_⟩
  rw [List.getElem?_take, if_pos (Nat.mod_lt _ hs0), List.getElem?_drop, Nat.mul_comm, Nat.div_add_mod, List.getElem?_eq_getElem hq]
def arr {α : Type} (n : Nat) (d : Kd α) (hs : 0 < d.sz) : Kd (List α) where
  sz := n * d.sz
  E := d.E
  K := fun w xs cs => xs.length = n ∧ Reps (d.K w) d.sz xs cs
  M := fun w base ok xs cs => xs.length = n ∧ Reps (d.M w base ok) d.sz xs cs
  K_len := fun h => by rw [← h.1]; exact h.2.1
  K_one := fun h => reps_one h.2 hs (fun _ _ hk => d.K_one hk)
  K_below := fun hb h => ⟨h.1, h.2.imp_ (fun _ _ hk => d.K_below hb hk)⟩
  K_of_M := fun h => ⟨h.1, h.2.imp_ (fun _ _ hk => d.K_of_M hk)⟩
  M_mono := fun hok h => ⟨h.1, h.2.imp_ (fun _ _ hk => d.M_mono hok hk)⟩
  M_bound := fun h => ⟨h.1, h.2.imp_ (fun _ _ hk => d.M_bound hk)⟩
  M_move := fun hm h => ⟨h.1, h.2.imp_ (fun _ _ hk => d.M_move hm hk)⟩
  M_lower := fun hb h => ⟨h.1, h.2.imp_ (fun _ _ hk => d.M_lower hb hk)⟩
section
variable {α : Type} {n : Nat} {d : Kd α} {hs : 0 < d.sz} {w : World} {base : Nat} {ok : Nat → Prop} {xs : List α} {cs : List Value}
end
section
variable {α : Type} {n : Nat} {enc : α → Value} {h1 : ∀ x, (enc x).oneCell' = true} {hs : 0 < (scalar enc h1).sz} {w : World} {base : Nat} {ok : Nat → Prop} {xs : List α} {cs : List Value}
end
end Kd
end Go.Proofs.YtpbpmfckmgcdfaaDoorW.PrintWords
end
section
namespace Go.Proofs.YtpbpmfckmgcdfaaDoorW.PrintWords
open Go.RowKit
section
variable {P : Program}
theorem run_append_zeros (w : World) (base : Nat) (t ti ty e : TypeId) (i : TypeInfo) (z : Value) (size bytes : Nat) (ht : P.underlying t = some (.slice e)) {k : IntKind} (hti : P.underlying ti = some (.int k)) (hi : P.info? e = some i) (hz : i.zero = some z)
    (hsize : i.size = size) (hby : i.bytes = bytes) (hzs : z.cells.size = size) (hsz : 0 < size) (hb0 : 0 < bytes)
    (v : Value) (n : Nat) (xs : List Value) (hown : w.ownsRow base e size v n xs) (kx : IntKind) (m : Nat) (h1 : ∀ u ∈ (Builtin.zeroCells z.cells m).toList, u.oneCell' = true)
    (hbytes : (n + m) * bytes ≤ 140737488355328) (hbase : base ≤ w.heap.size) :
    ∃ v' w', (Builtin.append_ #[t, ti] ty #[v, .int kx m]).run P w = .ok v' w' ∧ w'.ownsRow base e size v' (n + m) (xs ++ (Builtin.zeroCells z.cells m).toList) ∧ w.grownBy w' v.ownBlock ∧
      (v'.ownBlock = v.ownBlock ∨ v'.ownBlock = some w.heap.size) := by
  subst hsize
  subst hby
  have hle : n + m ≤ 140737488355328 := Nat.le_trans (Nat.le_mul_of_pos_right _ hb0) hbytes
  have h63 : n + m ≤ maxLen := by simp only [maxLen]; omega
  have hw : IntKind.i64.wrap (m : Int) = m := by rw [IntKind.wrap_i64]; omega
  have hw0 : IntKind.i64.wrap 0 = 0 := by rw [IntKind.wrap_i64]; rfl
  have hneg : ¬ ((m : Int) < 0) := by omega
  have hmb : m * i.bytes ≤ 140737488355328 := Nat.le_trans (Nat.mul_le_mul_right _ (Nat.le_add_left m n)) hbytes
  have hbig : ¬ (281474976710656 < (m : Int) * (i.bytes : Int)) := by
    rw [← Int.natCast_mul]
    omega
  have hsn : i.size ≠ 0 := by omega
  obtain ⟨news, hnews⟩ : ∃ news, news = (Builtin.zeroCells z.cells m).toList := ⟨_, rfl⟩
  rw [← hnews] at h1 ⊢
  have hl : news.length = m * i.size := by rw [hnews, Array.length_toList, size_zeroCells, hzs]
  have hna : Builtin.zeroCells z.cells m = news.toArray := by rw [hnews]
  have hlen : (xs ++ news).length = (n + m) * i.size := by rw [List.length_append, hown.1, hl, Nat.add_mul]
  have hnil : m = 0 → news = [] := fun h => List.eq_nil_of_length_eq_zero (by rw [hl, h, Nat.zero_mul])
  have grown : ∀ (old : Nat), old < n + m → ∀ (row : Option Nat),
      (w.drew.alloc (.cells (xs.toArray ++ news.toArray ++ Builtin.zeroCells z.cells (grownCap w (n + m) old e - (n + m))) e)).ownsRow base e i.size
        (.slice (some ⟨w.heap.size, 0, none⟩) (n + m) (grownCap w (n + m) old e)) (n + m) (xs ++ news) ∧
      w.grownBy (w.drew.alloc (.cells (xs.toArray ++ news.toArray ++ Builtin.zeroCells z.cells (grownCap w (n + m) old e - (n + m))) e)) row := by
    intro old ho row
    have hge := grownCap_ge w (n + m) old e
    have hcm : grownCap w (n + m) old e ≤ maxLen := grownCap_le_maxLen w (n + m) old e h63
    refine ⟨⟨hlen, .inr ⟨w.heap.size, _, _, rfl, hbase, heap_alloc_new w.drew _, hge, hcm, ?_, ?_⟩⟩, ⟨rfl, rfl, rfl, by simp, fun k hk _ => heap_alloc_old w.drew _ hk⟩⟩
    · simp only [Array.size_append, List.size_toArray, size_zeroCells, hzs, hown.1, hl, ← Nat.add_mul]
      congr 1
      omega
    · simp only [Array.toList_append, List.append_assoc]
      rw [← List.append_assoc, ← hlen]
      exact List.take_left
  have runs : ∀ (A : Option Addr) (cap : Nat), cap < n + m → (Builtin.firstCells i.size n (.slice A n cap)).run P w.drew = .ok xs.toArray w.drew → (Builtin.append_ #[t, ti] ty #[.slice A n cap, .int kx m]).run P w =
      .ok (.slice (some ⟨w.heap.size, 0, none⟩) (n + m) (grownCap w (n + m) cap e)) (w.drew.alloc (.cells (xs.toArray ++ news.toArray ++ Builtin.zeroCells z.cells (grownCap w (n + m) cap e - (n + m))) e)) := by
    intro A cap hcap hfo
    have hn : ¬ (n + m ≤ cap) := by omega
    have h63' : ¬ (9223372036854775807 < ((n : Int) + (m : Int))) := by omega
    have hfit := growslice_fits hcap hbytes
    have h48' : ¬ (281474976710656 < Builtin.nextslicecap (n + m) cap * i.bytes) := by omega
    by_cases hm : m = 0
    · have hnl := hnil hm
      subst hm
      rw [hnl]
      simp only [Nat.add_zero] at hn h63' h48' ⊢
      have h63'' : ¬ (9223372036854775807 < (n : Int)) := by omega
      simp [Builtin.append_, run_underlying ht, run_underlying hti, sizeOf, typeInfo, zeroValue, hi, hz, asInt, asIntOf, hw0, hn, h63'', h48', Question.forced, hfo, newRow, grownCap]
    · have hmz : ¬ (m * i.size = 0) := Nat.mul_ne_zero hm hsn
      simp [Builtin.append_, run_underlying ht, run_underlying hti, sizeOf, typeInfo, zeroValue, hi, hz, asInt, asIntOf, hw, hneg, hbig, hn, h63', h48', Question.forced, hfo, newRow, grownCap, hmz, hna]
      congr 2
      apply Array.ext'
      simp [List.append_assoc]
  rcases hown.2 with ⟨rfl, rfl⟩ | ⟨g, cap, cur, rfl, hbg, hg, hnc, hcm, hcs, htake⟩
  · have hx : xs = [] := List.eq_nil_of_length_eq_zero (by simpa using hown.1)
    subst hx
    by_cases hm : m = 0
    · have hnl := hnil hm
      subst hm
      rw [hnl]
      refine ⟨.slice none 0 0, w, ?_, World.ownsRow_nil w base e i.size, ⟨rfl, rfl, rfl, Nat.le_refl _, fun _ _ _ => rfl⟩, Or.inl rfl⟩
      simp [Builtin.append_, run_underlying ht, run_underlying hti, sizeOf, typeInfo, hi, asInt, asIntOf, hw0]
    · have hgr := grown 0 (by omega) (Value.ownBlock (.slice none 0 0))
      exact ⟨_, _, runs none 0 (by omega) (by simp [Builtin.firstCells]), hgr.1, hgr.2, Or.inr rfl⟩
  · by_cases hroom : n + m ≤ cap
    · have hfit : n * i.size + news.length ≤ cur.size := by rw [hl, hcs, ← Nat.add_mul]; exact Nat.mul_le_mul_right _ hroom
      obtain ⟨cur', h3, h4, h5⟩ := setCells_row news (n * i.size) w cur hg hfit
      obtain ⟨s1, s2, s3, s4⟩ := setCells_same g news (n * i.size) w
      have hst := run_storeCells_cells (P := P) g (n * i.size) news 0 w (fun j hj => by rw [cell_of_row w g _ cur e (0, 0) hg]; simp; omega) (fun j _ => blk_frozen hg _) h1
      simp only [Nat.add_zero] at hst
      refine ⟨.slice (some ⟨g, 0, none⟩) (n + m) cap, w.setCells g (n * i.size) news, ?_, ⟨hlen, .inr ⟨g, cap, cur', rfl, hbg, h3, hroom, hcm, by rw [h4, hcs], ?_⟩⟩, ⟨s1, s2, s3, by rw [s4]; exact Nat.le_refl _, fun k _ hk => setCells_far news _ k (fun e => hk (by simp [Value.ownBlock, e]))⟩, Or.inl rfl⟩
      · by_cases hm : m = 0
        · have hnl := hnil hm
          subst hm
          rw [hnl] at hst ⊢
          simp [Builtin.append_, run_underlying ht, run_underlying hti, sizeOf, typeInfo, hi, asInt, asIntOf, hw0, hnc, add_plain, hst]
        · have hmz : ¬ (m * i.size = 0) := Nat.mul_ne_zero hm hsn
          simp [Builtin.append_, run_underlying ht, run_underlying hti, sizeOf, typeInfo, zeroValue, hi, hz, asInt, asIntOf, hw, hneg, hbig, hroom, hmz, hna, add_plain, hst]
      · rw [h5]
        have h6 : cur.toList.take (n * i.size) = xs := htake
        rw [h6, ← hlen]
        exact List.take_left
    · have holds : ∀ j u, xs[j]? = some u → w.cell? ((⟨g, 0, none⟩ : Addr).add j) = some u := hown.cells (g := g) rfl
      have hgr := grown cap (by omega) (Value.ownBlock (.slice (some ⟨g, 0, none⟩) n cap))
      exact ⟨_, _, runs (some ⟨g, 0, none⟩) cap (by omega) (run_firstCells_some (P := P) w.drew i.size n _ n cap xs hown.1 (by simpa using holds)), hgr.1, hgr.2, Or.inr rfl⟩
end
namespace Kd
section
variable {P : Program} {ops : Array Oper} {rest : List Oper} {o : Oper} {a : Act} {Q : Exit → Act → World → Prop} {Kc : Act → World → Prop} {α : Type}
end
section
variable {α : Type} {d : Kd α} {e : Nat} {w : World} {base : Nat} {ok : Nat → Prop} {v : Value} {xs : List α}
end
section
variable {P : Program} {ops : Array Oper} {rest : List Oper} {o : Oper} {a : Act} {Q : Exit → Act → World → Prop} {Kc : Act → World → Prop} {α : Type}
end
end Kd
end Go.Proofs.YtpbpmfckmgcdfaaDoorW.PrintWords
end
section
namespace Go.Proofs.YtpbpmfckmgcdfaaDoorW.PrintWords
open Go.RowKit
namespace Kd
structure Heap {α : Type} (d : Kd α) : Prop where
  K : ∀ {w w1 : World} {x : α} {cs : List Value}, (∀ k, k < w.heap.size → w1.heap[k]? = w.heap[k]?) → d.K w x cs → d.K w1 x cs
theorem cell_heap {w w1 : World} (hb : ∀ k, k < w.heap.size → w1.heap[k]? = w.heap[k]?) {a : Addr} {v : Value} (h : w.cell? a = some v) : w1.cell? a = some v := by
  have := hb a.block (World.block_lt_of_cell? w a h)
  simpa [World.cell?, this] using h
theorem Heap.C {α : Type} {d : Kd α} (hd : Heap d) {w w1 : World} {A : Option Addr} {n : Nat} {xs : List α} (hb : ∀ k, k < w.heap.size → w1.heap[k]? = w.heap[k]?) (h : d.C w A n xs) : d.C w1 A n xs :=
  ⟨h.1, h.2.1, fun hn => by
    obtain ⟨ad, e, hc⟩ := h.2.2 hn
    refine ⟨ad, e, fun j p hj => ?_⟩
    obtain ⟨c, hs, hr, hcell⟩ := hc j p hj
    exact ⟨c, hs, hd.K hb hr, fun i u hu => cell_heap hb (hcell i u hu)⟩⟩
section
variable {α : Type} {d : Kd α} {e base g n c : Nat} {ok : Nat → Prop} {w w0 W : World} {A : Option Addr} {xs : List α}
end
end Kd
end Go.Proofs.YtpbpmfckmgcdfaaDoorW.PrintWords
end
section
namespace Go.Proofs.YtpbpmfckmgcdfaaDoorW.PrintWords
open Go.RowKit
def Kept (w W : World) (S : Nat → Prop) : Prop := w.heap.size ≤ W.heap.size ∧ ∀ i, i < w.heap.size → ¬ S i → W.heap[i]? = w.heap[i]?
section
variable {w W W2 : World} {S S2 S' : Nat → Prop}
theorem Kept.refl (w : World) (S : Nat → Prop) : Kept w w S := ⟨Nat.le_refl _, fun _ _ _ => rfl⟩
theorem Kept.of_below (h : Below w.heap.size w W) (S : Nat → Prop) : Kept w W S := ⟨h.size, fun i hi _ => h.block i hi⟩
theorem Kept.mono (h : Kept w W S) (hs : ∀ k, S k → S' k) : Kept w W S' := ⟨h.1, fun i hi hn => h.2 i hi (fun hk => hn (hs i hk))⟩
theorem Kept.then_ (h : Kept w W S) (k : Kept W W2 S2) (hs : ∀ k, S2 k → S k ∨ w.heap.size ≤ k) : Kept w W2 S :=
  ⟨Nat.le_trans h.1 k.1, fun i hi hn => (k.2 i (Nat.lt_of_lt_of_le hi h.1) (fun h2 => (hs i h2).elim hn (fun h3 => by omega))).trans (h.2 i hi hn)⟩
theorem Kept.below (h : Kept w W S) (hb : Below W.heap.size W W2) : Kept w W2 S := h.then_ (Kept.of_below hb (fun _ => False)) (fun _ hk => hk.elim)
theorem Kept.alloc (h : Kept w W S) (o : Obj) : Kept w (W.alloc o) S := h.below (below_alloc (Below.refl _ _) o)
theorem Kept.drew (h : Kept w W S) : Kept w W.drew S := h
theorem Kept.drewN (h : Kept w W S) (m : Nat) : Kept w (W.drewN m) S := h
theorem Kept.setCell (h : Kept w W S) {p : Addr} (hp : S p.block ∨ w.heap.size ≤ p.block) (u : Value) : Kept w (W.setCell p u) S :=
  h.then_ (S2 := fun k => k = p.block) ⟨by simp [World.setCell], fun i _ hn => Below.heap_setCell W p u i hn⟩ (fun k hk => by rw [hk]; exact hp)
theorem Kept.keep {g : Nat} (h : KeepBut w W g none) (k : Kept W W2 S2) (hs : ∀ k, S2 k → w.heap.size ≤ k) : KeepBut w W2 g none :=
  ⟨Nat.le_trans h.1 k.1, fun i hi hg hr => (k.2 i (Nat.lt_of_lt_of_le hi h.1) (fun h2 => by have := hs i h2; omega)).trans (h.2 i hi hg hr)⟩
end
namespace Kd
section
variable {α : Type} {d : Kd α} {e base n c : Nat} {ok oki S S2 : Nat → Prop} {w w0 W W1 W2 : World} {v : Value} {A : Option Addr} {xs : List α} {i : Int} {cs : List Value}
end
end Kd
end Go.Proofs.YtpbpmfckmgcdfaaDoorW.PrintWords
end
section
namespace Go.Proofs.YtpbpmfckmgcdfaaDoorW.PrintWords
open Go.RowKit
def Foot (P : World → Prop) (W : World) (ok : Nat → Prop) : Prop := ∀ W' : World, (∀ k, ok k → k < W.heap.size → W'.heap[k]? = W.heap[k]?) → P W'
theorem heap_lt {W W1 : World} {k : Nat} (h : W1.heap[k]? = W.heap[k]?) (hlt : k < W.heap.size) : k < W1.heap.size := by
  rw [Array.getElem?_eq_getElem hlt] at h
  exact (Array.getElem?_eq_some_iff.1 h).1
namespace Foot
variable {P Q : World → Prop} {W W1 : World} {ok ok' : Nat → Prop}
theorem now (h : Foot P W ok) : P W := h W (fun _ _ _ => rfl)
theorem mono (h : Foot P W ok) (hok : ∀ k, ok k → ok' k) : Foot P W ok' := fun W' hW => h W' (fun k hk hlt => hW k (hok k hk) hlt)
theorem bound (h : Foot P W ok) : Foot P W (fun k => ok k ∧ k < W.heap.size) := fun W' hW => h W' (fun k hk hlt => hW k ⟨hk, hlt⟩ hlt)
theorem step (h : Foot P W ok) (hm : ∀ k, ok k → k < W.heap.size → W1.heap[k]? = W.heap[k]?) : Foot P W1 ok := fun W' hW => h W' (fun k hk hlt => (hW k hk (heap_lt (hm k hk hlt) hlt)).trans (hm k hk hlt))
theorem imp (h : Foot P W ok) (hi : ∀ W', P W' → Q W') : Foot Q W ok := fun W' hW => hi W' (h W' hW)
theorem old (h : Foot P W ok) (hb : Below W.heap.size W W1) : Foot P W1 (fun k => ok k ∧ k < W.heap.size) := (h.bound).step (fun k _ hlt => hb.block k hlt)
end Foot
namespace Kd
def F {α : Type} (d : Kd α) (W : World) (ok : Nat → Prop) (A : Option Addr) (n : Nat) (xs : List α) : Prop := Foot (fun W => d.C W A n xs) W ok
def FK {α : Type} (d : Kd α) (W : World) (ok : Nat → Prop) (x : α) (c : List Value) : Prop := Foot (fun W => d.K W x c) W ok
section
variable {α β : Type} {d : Kd α} {e base n n' cc g N : Nat} {ok ok' okp S : Nat → Prop} {w w0 w1 W W1 : World} {A A' : Option Addr} {u v v1 : Value} {xs : List α} {xs' : List β} {d' : Kd β} {x : α} {c : List Value}
end
end Kd
end Go.Proofs.YtpbpmfckmgcdfaaDoorW.PrintWords
end
section
namespace Go.Proofs.YtpbpmfckmgcdfaaDoorW.PrintWords
open Go.RowKit
namespace Kd
section
variable {α : Type} {d : Kd α} {e base n cc g : Nat} {ok ok' okp S : Nat → Prop} {w w1 W W1 : World} {A : Option Addr} {u v v1 : Value} {xs : List α} {x : α} {c : List Value}
def N {α : Type} (d : Kd α) (e : Nat) (w : World) (base : Nat) (ok : Nat → Prop) (v : Value) (xs : List α) : Prop :=
  (∀ k, v.ownBlock = some k → ok k) ∧ ∃ rows : List (List Value), rows.length = xs.length ∧ (raw d.sz).R e w base (fun k => some k = v.ownBlock) v rows ∧ ∀ (j : Nat) (x : α) (c : List Value), xs[j]? = some x → rows[j]? = some c → FK d w (fun k => ok k ∧ some k ≠ v.ownBlock) x c
end
end Kd
end Go.Proofs.YtpbpmfckmgcdfaaDoorW.PrintWords
end
section
namespace Go.Proofs.YtpbpmfckmgcdfaaDoorW.PrintWords
theorem Reps.one {α : Type} {R : α → List Value → Prop} {ps : List α} {cs : List Value} {p : α} {v : Value} (hp : R p [v]) (h : Reps R 1 ps cs) : Reps R 1 (p :: ps) (v :: cs) := by
  refine ⟨by simp [h.1], fun j q hq => ?_⟩
  cases j with
  | zero =>
    simp only [List.getElem?_cons_zero, Option.some.injEq] at hq
    subst hq
    simpa using hp
  | succ j =>
    simp only [List.getElem?_cons_succ] at hq
    have h1 := h.2 j q hq
    simpa [Nat.mul_one] using h1
theorem Reps.front {α : Type} {R : α → List Value → Prop} {size : Nat} {ps : List α} {cs c all : List Value} {p : α} (hp : R p c) (hc : c.length = size) (h : Reps R size ps cs) (ha : c ++ cs = all) : Reps R size (p :: ps) all := by
  subst ha
  refine ⟨by rw [List.length_append, hc, h.1, List.length_cons, Nat.succ_mul, Nat.add_comm], fun j q hq => ?_⟩
  cases j with
  | zero =>
    simp only [List.getElem?_cons_zero, Option.some.injEq] at hq
    subst hq
    rw [Nat.zero_mul, List.drop_zero, List.take_append_of_le_length (by omega), List.take_of_length_le (by omega)]
    exact hp
  | succ j =>
    simp only [List.getElem?_cons_succ] at hq
    have h1 := h.2 j q hq
    rw [Nat.succ_mul, List.drop_append, List.drop_of_length_le (by rw [hc]; exact Nat.le_add_left _ _), List.nil_append, hc, Nat.add_sub_cancel]
    exact h1
theorem Reps.c2 {α : Type} {R : α → List Value → Prop} {ps : List α} {cs : List Value} {p : α} {va vb : Value} (hp : R p [va, vb]) (h : Reps R 2 ps cs) : Reps R 2 (p :: ps) (va :: vb :: cs) := Reps.front hp rfl h rfl
theorem Reps.c3 {α : Type} {R : α → List Value → Prop} {ps : List α} {cs : List Value} {p : α} {va vb vc : Value} (hp : R p [va, vb, vc]) (h : Reps R 3 ps cs) : Reps R 3 (p :: ps) (va :: vb :: vc :: cs) := Reps.front hp rfl h rfl
theorem Reps.c4 {α : Type} {R : α → List Value → Prop} {ps : List α} {cs : List Value} {p : α} {va vb vc vd : Value} (hp : R p [va, vb, vc, vd]) (h : Reps R 4 ps cs) : Reps R 4 (p :: ps) (va :: vb :: vc :: vd :: cs) := Reps.front hp rfl h rfl
theorem Reps.c5 {α : Type} {R : α → List Value → Prop} {ps : List α} {cs : List Value} {p : α} {va vb vc vd ve : Value} (hp : R p [va, vb, vc, vd, ve]) (h : Reps R 5 ps cs) : Reps R 5 (p :: ps) (va :: vb :: vc :: vd :: ve :: cs) := Reps.front hp rfl h rfl
theorem Reps.c6 {α : Type} {R : α → List Value → Prop} {ps : List α} {cs : List Value} {p : α} {va vb vc vd ve vf : Value} (hp : R p [va, vb, vc, vd, ve, vf]) (h : Reps R 6 ps cs) : Reps R 6 (p :: ps) (va :: vb :: vc :: vd :: ve :: vf :: cs) := Reps.front hp rfl h rfl
theorem Reps.c7 {α : Type} {R : α → List Value → Prop} {ps : List α} {cs : List Value} {p : α} {va vb vc vd ve vf vg : Value} (hp : R p [va, vb, vc, vd, ve, vf, vg]) (h : Reps R 7 ps cs) : Reps R 7 (p :: ps) (va :: vb :: vc :: vd :: ve :: vf :: vg :: cs) := Reps.front hp rfl h rfl
theorem Reps.c8 {α : Type} {R : α → List Value → Prop} {ps : List α} {cs : List Value} {p : α} {va vb vc vd ve vf vg vh : Value} (hp : R p [va, vb, vc, vd, ve, vf, vg, vh]) (h : Reps R 8 ps cs) : Reps R 8 (p :: ps) (va :: vb :: vc :: vd :: ve :: vf :: vg :: vh :: cs) := Reps.front hp rfl h rfl
theorem Reps.c9 {α : Type} {R : α → List Value → Prop} {ps : List α} {cs : List Value} {p : α} {va vb vc vd ve vf vg vh vi : Value} (hp : R p [va, vb, vc, vd, ve, vf, vg, vh, vi]) (h : Reps R 9 ps cs) : Reps R 9 (p :: ps) (va :: vb :: vc :: vd :: ve :: vf :: vg :: vh :: vi :: cs) := Reps.front hp rfl h rfl
theorem Reps.c10 {α : Type} {R : α → List Value → Prop} {ps : List α} {cs : List Value} {p : α} {va vb vc vd ve vf vg vh vi vj : Value} (hp : R p [va, vb, vc, vd, ve, vf, vg, vh, vi, vj]) (h : Reps R 10 ps cs) : Reps R 10 (p :: ps) (va :: vb :: vc :: vd :: ve :: vf :: vg :: vh :: vi :: vj :: cs) := Reps.front hp rfl h rfl
end Go.Proofs.YtpbpmfckmgcdfaaDoorW.PrintWords
end
section
namespace Go.Proofs.YtpbpmfckmgcdfaaDoorW.PrintLast
def up (b : Nat → Bool) (i : Nat) : Nat → Bool := fun j => if j = i then true else b j
section
variable {P : Program} {ops : Array Oper} {Q : Exit → Act → World → Prop} {md : Region.Mode} {T : Bool × List (List Nat × List Nat)} {B : List Nat} {O : List Nat} {b : Nat → Bool} {i j n : Nat}
theorem put_comm {a : Act} {s t : Tmp} {u v : Value} (h : s ≠ t) : (a.put (some s) u).put (some t) v = (a.put (some t) v).put (some s) u := by
  simp only [Act.put]
  rw [Array.setIfInBounds_comm _ _ h]
end
end Go.Proofs.YtpbpmfckmgcdfaaDoorW.PrintLast
end
section
namespace Go.Proofs.YtpbpmfckmgcdfaaDoorW.PrintMore
open Go.RowKit Go.Proofs.YtpbpmfckmgcdfaaDoorW.PrintWords
namespace Kd
open Go.Proofs.YtpbpmfckmgcdfaaDoorW.PrintWords.Kd
end Kd
namespace Kd
open Go.Proofs.YtpbpmfckmgcdfaaDoorW.PrintWords.Kd
section
variable {α : Type} {d : Kd α} {e base g N : Nat} {ok : Nat → Prop} {W w1 : World} {u v : Value} {xs : List α}
end
end Kd
theorem max2_int (k k' : IntKind) (x y : Int) : Builtin.max2 (.int k x) (.int k' y) = pure (.int k (if x < y then y else x)) := by simp only [Builtin.max2, gt_iff_lt]
theorem min2_int (k k' : IntKind) (x y : Int) : Builtin.min2 (.int k x) (.int k' y) = pure (.int k (if y < x then y else x)) := by simp only [Builtin.min2]
theorem max_two (ats : Array TypeId) (ty : TypeId) (a b : Value) : Builtin.max_ ats ty #[a, b] = (Builtin.max2 a b >>= fun s => pure s) := by simp only [Builtin.max_, List.foldlM_cons, List.foldlM_nil]
theorem min_two (ats : Array TypeId) (ty : TypeId) (a b : Value) : Builtin.min_ ats ty #[a, b] = (Builtin.min2 a b >>= fun s => pure s) := by simp only [Builtin.min_, List.foldlM_cons, List.foldlM_nil]
theorem max_three (ats : Array TypeId) (ty : TypeId) (a b c : Value) : Builtin.max_ ats ty #[a, b, c] = (Builtin.max2 a b >>= fun s => Builtin.max2 s c >>= fun s => pure s) := by simp only [Builtin.max_, List.foldlM_cons, List.foldlM_nil]
theorem min_three (ats : Array TypeId) (ty : TypeId) (a b c : Value) : Builtin.min_ ats ty #[a, b, c] = (Builtin.min2 a b >>= fun s => Builtin.min2 s c >>= fun s => pure s) := by simp only [Builtin.min_, List.foldlM_cons, List.foldlM_nil]
theorem max_four (ats : Array TypeId) (ty : TypeId) (a b c d : Value) : Builtin.max_ ats ty #[a, b, c, d] = (Builtin.max2 a b >>= fun s => Builtin.max2 s c >>= fun s => Builtin.max2 s d >>= fun s => pure s) := by simp only [Builtin.max_, List.foldlM_cons, List.foldlM_nil]
theorem min_four (ats : Array TypeId) (ty : TypeId) (a b c d : Value) : Builtin.min_ ats ty #[a, b, c, d] = (Builtin.min2 a b >>= fun s => Builtin.min2 s c >>= fun s => Builtin.min2 s d >>= fun s => pure s) := by simp only [Builtin.min_, List.foldlM_cons, List.foldlM_nil]
end Go.Proofs.YtpbpmfckmgcdfaaDoorW.PrintMore
namespace Go.Proofs.YtpbpmfckmgcdfaaDoorW.PrintWords
open Go.RowKit
section
variable {P : Program} {ops : Array Oper} {rest : List Oper} {o : Oper} {a : Act} {Q : Exit → Act → World → Prop} {W : World}
end
def mx (a b : Int) : Int := if a < b then b else a
def shl (k : IntKind) (x y : Int) : Int := k.wrap (x * 2 ^ min y.toNat k.bits)
def shr (k : IntKind) (x y : Int) : Int := x / 2 ^ min y.toNat k.bits
namespace Kd
section
variable {α : Type} {d : Kd α} {e base : Nat} {ok : Nat → Prop} {W w1 : World} {v : Value} {xs : List α}
end
section
variable {α : Type} {d : Kd α} {e base g n cap : Nat} {ok oki okp : Nat → Prop} {W : World} {xs : List α} {i : Int} {c : List Value}
end
section
variable {α : Type} {d : Kd α} {e base b b' g N : Nat} {ok ok1 : Nat → Prop} {W W2 w1 : World} {u v : Value} {xs ys : List α} {S : Nat → Prop}
end
end Kd
end Go.Proofs.YtpbpmfckmgcdfaaDoorW.PrintWords
namespace Go.Proofs.YtpbpmfckmgcdfaaDoorW.PrintWords
open Go.RowKit
namespace Kd
def V {α : Type} (d : Kd α) (_e : Nat) (W : World) (_base : Nat) (ok : Nat → Prop) (v : Value) (xs : List α) : Prop := ∃ A c, v = .slice A xs.length c ∧ xs.length ≤ c ∧ F d W ok A xs.length xs
section
variable {α β : Type} {d : Kd α} {e base base' n m c g N' lo hi : Nat} {ok ok' S : Nat → Prop} {w W w1 : World} {A : Option Addr} {ad : Addr} {u v v1 : Value} {xs : List α}
end
end Kd
end Go.Proofs.YtpbpmfckmgcdfaaDoorW.PrintWords
end
section
set_option linter.unusedVariables false
set_option linter.unusedSimpArgs false
namespace Go.Proofs.YtpbpmfckmgcdfaaDoorW.PrintWords
open Go.RowKit Go.Proofs.YtpbpmfckmgcdfaaDoorW.PrintLast
section
variable {P : Program} {ops : Array Oper} {rest : List Oper} {o : Oper} {a : Act} {Q : Exit → Act → World → Prop} {W : World}
end
def NilIf (xs : List Int) (v : Value) : Prop := xs = [] → v = .slice none 0 0
theorem NilIf.intro {xs : List Int} {v : Value} (h : xs = [] → v = .slice none 0 0) : NilIf xs v := h
theorem NilIf.out {xs : List Int} {v : Value} (h : NilIf xs v) : xs = [] → v = .slice none 0 0 := h
namespace Kd
section
variable {P : Program} {ops : Array Oper} {rest : List Oper} {o : Oper} {a : Act} {Q : Exit → Act → World → Prop} {α : Type}
end
end Kd
end Go.Proofs.YtpbpmfckmgcdfaaDoorW.PrintWords
end
section
namespace Go.Abs
open Go
structure Id where
  s : Nat
  g : Nat
  deriving DecidableEq
inductive PV where
  | lit (v : Value)
  | sl (cs : List PV) (n : Nat)
  | agg (cs : List PV)
  | tup (vs : List PV)
  | fel (cs : List PV)
  | loc (i : Id) (off n : Nat)
  | ptr (i : Id) (off : Nat)
  | fn (f : FuncId) (cs : List PV)
def PV.undef : PV := .lit Go.undef
def PV.cells : PV → List PV
  | .agg cs => cs
  | .lit v => v.cells.toList.map .lit
  | p => [p]
def PV.one : PV → Bool
  | .lit v => v.oneCell'
  | .agg _ | .tup _ => false
  | _ => true
structure Obj where
  cells : List PV
  es : Nat
  frz : Bool
structure Sto where
  obj : Id → Option Obj
  gen : Nat → Nat
structure Loc where
  b : Nat
  base : Nat
  es : Nat
  sz : Nat
inductive Rel (w : World) (F : Nat → Prop) (L : Id → Option Loc) : PV → Value → Prop
  | lit (v : Value) : Rel w F L (.lit v) v
  | sl {cs : List PV} {n : Nat} (b base cap : Nat) (vs : List Value) (hF : F b) (hn : n ≤ cap) (hs : vs.length = cs.length)
      (hc : ∀ j u, vs[j]? = some u → w.cell? ⟨b, base + j, none⟩ = some u)
      (hr : ∀ (j : Nat) c u, cs[j]? = some c → vs[j]? = some u → Rel w F L c u) : Rel w F L (.sl cs n) (.slice (some ⟨b, base, none⟩) n cap)
  | wild (a : Addr) : Rel w F L (.sl [] 0) (.slice (some a) 0 0)
  | agg {cs : List PV} (vs : Array Value) (hs : vs.toList.length = cs.length)
      (hr : ∀ (j : Nat) c u, cs[j]? = some c → vs.toList[j]? = some u → Rel w F L c u) : Rel w F L (.agg cs) (.agg vs)
  | tup {cs : List PV} (vs : Array Value) (hs : vs.toList.length = cs.length)
      (hr : ∀ (j : Nat) c u, cs[j]? = some c → vs.toList[j]? = some u → Rel w F L c u) : Rel w F L (.tup cs) (.tuple vs)
  | fel {cs : List PV} (b base : Nat) (vs : List Value) (hF : F b) (hs : vs.length = cs.length)
      (hc : ∀ j u, vs[j]? = some u → w.cell? ⟨b, base + j, none⟩ = some u)
      (hr : ∀ (j : Nat) c u, cs[j]? = some c → vs[j]? = some u → Rel w F L c u) : Rel w F L (.fel cs) (.pointer (some ⟨b, base, none⟩))
  | loc {i : Id} {off n : Nat} {ℓ : Loc} (cap o : Nat) (hL : L i = some ℓ) (hn : n ≤ cap) (ho : o = ℓ.base + off ∨ cap = 0)
      (hc : ℓ.base + off + cap * ℓ.es ≤ ℓ.sz) : Rel w F L (.loc i off n) (.slice (some ⟨ℓ.b, o, none⟩) n cap)
  | ptr {i : Id} {off : Nat} {ℓ : Loc} (hL : L i = some ℓ) : Rel w F L (.ptr i off) (.pointer (some ⟨ℓ.b, ℓ.base + off, none⟩))
  | fn {f : FuncId} {cs : List PV} (vs : Array Value) (hs : vs.toList.length = cs.length)
      (hr : ∀ (j : Nat) c u, cs[j]? = some c → vs.toList[j]? = some u → Rel w F L c u) : Rel w F L (.fn f cs) (.func (.func f) #[] vs)
def RelA (w : World) (F : Nat → Prop) (L : Id → Option Loc) (cs : List PV) (vs : List Value) : Prop :=
  vs.length = cs.length ∧ ∀ (j : Nat) c u, cs[j]? = some c → vs[j]? = some u → Rel w F L c u
def HCells (w : World) (b base : Nat) (vs : List Value) : Prop := ∀ j u, vs[j]? = some u → w.cell? ⟨b, base + j, none⟩ = some u
structure Ext (w : World) (F : Nat → Prop) (L : Id → Option Loc) (K : Nat → Prop) (w' : World) (F' : Nat → Prop) (L' : Id → Option Loc) : Prop where
  os : w'.os = w.os
  tape : w'.tape = w.tape
  output : w'.output = w.output
  size : w.heap.size ≤ w'.heap.size
  fz : ∀ b, F b → F' b
  heap : ∀ b, F b ∨ K b → w'.heap[b]? = w.heap[b]?
  loc : ∀ i ℓ, L i = some ℓ → L' i = some ℓ
  new : ∀ b, F' b → F b ∨ w.heap.size ≤ b ∨ ∃ i ℓ, L i = some ℓ ∧ ℓ.b = b
  own : ∀ i ℓ, L' i = some ℓ → w.heap.size ≤ ℓ.b ∨ ∃ j m, L j = some m ∧ m.b = ℓ.b
  drawn : w.drawn ≤ w'.drawn
theorem Ext.refl (w : World) (F : Nat → Prop) (L : Id → Option Loc) (K : Nat → Prop) : Ext w F L K w F L :=
  ⟨rfl, rfl, rfl, Nat.le_refl _, fun _ h => h, fun _ _ => rfl, fun _ _ h => h, fun _ h => .inl h, fun i ℓ h => .inr ⟨i, ℓ, h, rfl⟩, Nat.le_refl _⟩
theorem cell_of_heap {w w' : World} {b o : Nat} (h : w'.heap[b]? = w.heap[b]?) : w'.cell? ⟨b, o, none⟩ = w.cell? ⟨b, o, none⟩ := by
  simp [World.cell?, h]
theorem Rel.mono {w w' : World} {F F' : Nat → Prop} {L L' : Id → Option Loc} {p : PV} {v : Value}
    (hF : ∀ b, F b → F' b) (hh : ∀ b, F b → w'.heap[b]? = w.heap[b]?) (hL : ∀ i ℓ, L i = some ℓ → L' i = some ℓ)
    (h : Rel w F L p v) : Rel w' F' L' p v := by
  induction h with
  | lit v => exact .lit v
  | sl b base cap vs hFb hn hs hc hr ih => exact .sl b base cap vs (hF _ hFb) hn hs (fun j u e => (cell_of_heap (hh _ hFb)).trans (hc j u e)) ih
  | wild a => exact .wild a
  | agg vs hs hr ih => exact .agg vs hs ih
  | tup vs hs hr ih => exact .tup vs hs ih
  | fel b base vs hFb hs hc hr ih => exact .fel b base vs (hF _ hFb) hs (fun j u e => (cell_of_heap (hh _ hFb)).trans (hc j u e)) ih
  | loc cap o h1 h2 h3 h4 => exact .loc cap o (hL _ _ h1) h2 h3 h4
  | ptr h1 => exact .ptr (hL _ _ h1)
  | fn vs hs hr ih => exact .fn vs hs ih
theorem Rel.ext {w w' : World} {F F' : Nat → Prop} {L L' : Id → Option Loc} {K : Nat → Prop} (x : Ext w F L K w' F' L') {p : PV} {v : Value}
    (h : Rel w F L p v) : Rel w' F' L' p v := h.mono x.fz (fun b hb => x.heap b (.inl hb)) x.loc
theorem RelA.one {w : World} {F : Nat → Prop} {L : Id → Option Loc} {p : PV} {v : Value} (h : Rel w F L p v) : RelA w F L [p] [v] := by
  refine ⟨rfl, fun j c u hc hu => ?_⟩
  match j, hc, hu with
  | 0, hc, hu => obtain rfl : p = c := by simpa using hc
                 obtain rfl : v = u := by simpa using hu
                 exact h
  | j + 1, hc, _ => simp at hc
theorem RelA.lits {w : World} {F : Nat → Prop} {L : Id → Option Loc} (vs : List Value) : RelA w F L (vs.map .lit) vs := by
  refine ⟨by simp, fun j c v hc hv => ?_⟩
  simp only [List.getElem?_map, hv, Option.map_some, Option.some.injEq] at hc
  exact hc ▸ .lit v
theorem Rel.cells {w : World} {F : Nat → Prop} {L : Id → Option Loc} {p : PV} {v : Value} (h : Rel w F L p v) : RelA w F L p.cells v.cells.toList := by
  cases h with
  | lit v => exact RelA.lits _
  | agg vs hs hr => exact ⟨hs, hr⟩
  | sl b base cap vs hFb hn hs hc hr => exact .one (.sl b base cap vs hFb hn hs hc hr)
  | wild a => exact .one (.wild a)
  | tup vs hs hr => exact .one (.tup vs hs hr)
  | fel b base vs hFb hs hc hr => exact .one (.fel b base vs hFb hs hc hr)
  | loc cap o h1 h2 h3 h4 => exact .one (.loc cap o h1 h2 h3 h4)
  | ptr h1 => exact .one (.ptr h1)
  | fn vs hs hr => exact .one (.fn vs hs hr)
theorem Rel.one {w : World} {F : Nat → Prop} {L : Id → Option Loc} {p : PV} {v : Value} (h : Rel w F L p v) (ho : p.one = true) : v.oneCell' = true := by
  cases h <;> first | exact ho | rfl | cases ho
structure Inv (w : World) (S : Sto) (L : Id → Option Loc) (F K : Nat → Prop) : Prop where
  live : ∀ i o, S.obj i = some o → ∃ ℓ c e, L i = some ℓ ∧ ℓ.es = o.es ∧ w.heap[ℓ.b]? = some (.cells c e (0, 0)) ∧ c.size = ℓ.sz ∧
    ℓ.base + o.cells.length ≤ ℓ.sz ∧ (∃ vs, RelA w F L o.cells vs ∧ ∀ j u, vs[j]? = some u → c[ℓ.base + j]? = some u) ∧
    (o.frz = true → F ℓ.b) ∧ (o.frz = false → ¬ F ℓ.b ∧ ¬ K ℓ.b)
  apart : ∀ i j o o' ℓ ℓ', S.obj i = some o → S.obj j = some o' → o.frz = false → L i = some ℓ → L j = some ℓ' → i ≠ j → ℓ.b ≠ ℓ'.b
  fresh : ∀ i : Id, S.gen i.s ≤ i.g → L i = none
  fz : ∀ b, F b ∨ K b → b < w.heap.size
def upd {β : Type} (f : Id → Option β) (i : Id) (v : Option β) : Id → Option β := fun j => if j = i then v else f j
theorem upd_same {β : Type} (f : Id → Option β) (i : Id) (v : Option β) : upd f i v i = v := by simp [upd]
theorem upd_ne {β : Type} (f : Id → Option β) {i j : Id} (v : Option β) (h : j ≠ i) : upd f i v j = f j := by simp [upd, h]
def Sto.next (S : Sto) (s : Nat) : Id := ⟨s, S.gen s⟩
def Sto.add (S : Sto) (s : Nat) (o : Obj) : Sto := ⟨upd S.obj (S.next s) (some o), fun t => if t = s then S.gen s + 1 else S.gen t⟩
def Sto.set (S : Sto) (i : Id) (o : Obj) : Sto := ⟨upd S.obj i (some o), S.gen⟩
def Sto.del (S : Sto) (i : Id) : Sto := ⟨upd S.obj i none, S.gen⟩
def Tm := Nat → PV
def Tm.put (tm : Tm) (d : Option Tmp) (v : PV) : Tm :=
  match d with
  | some d => fun t => if t = d then v else tm t
  | none => tm
def Tm.opnd (tm : Tm) : Operand → PV
  | .tmp t => tm t
  | .const v => .lit v
  | .global g => .lit (.pointer (some ⟨g, 0, none⟩))
  | .func f => .lit (.func (.func f) #[] #[])
def TmRel (w : World) (F : Nat → Prop) (L : Id → Option Loc) (tm : Tm) (a : Act) : Prop := ∀ t, Rel w F L (tm t) (a.tmps.getD t Go.undef)
theorem TmRel.opnd {w : World} {F : Nat → Prop} {L : Id → Option Loc} {tm : Tm} {a : Act} (h : TmRel w F L tm a) (x : Operand) : Rel w F L (tm.opnd x) (a.eval x) := by
  cases x with
  | tmp t => exact h t
  | const v => exact .lit v
  | global g => exact .lit _
  | func f => exact .lit _
theorem TmRel.put {w : World} {F : Nat → Prop} {L : Id → Option Loc} {tm : Tm} {a : Act} (h : TmRel w F L tm a) {d : Option Tmp} {p : PV} {v : Value}
    (hd : ∀ t, d = some t → t < a.tmps.size) (hv : Rel w F L p v) : TmRel w F L (tm.put d p) (a.put d v) := by
  intro t
  cases d with
  | none => exact h t
  | some d =>
    have := hd d rfl
    simp only [Tm.put, Act.put, Array.getD_eq_getD_getElem?, Array.getElem?_setIfInBounds]
    by_cases e : t = d
    · subst e; simp [this, hv]
    · simp only [e, if_false]
      rw [if_neg (by omega)]
      have := h t
      simpa only [Array.getD_eq_getD_getElem?] using this
theorem TmRel.ext {w w' : World} {F F' : Nat → Prop} {L L' : Id → Option Loc} {K : Nat → Prop} {tm : Tm} {a : Act} (x : Ext w F L K w' F' L') (h : TmRel w F L tm a) : TmRel w' F' L' tm a :=
  fun t => (h t).ext x
end Go.Abs
end
section
namespace Go.Abs
open Go
section
variable {w : World} {F : Nat → Prop} {L : Id → Option Loc}
theorem RelA.nil : RelA w F L [] [] := ⟨rfl, by simp⟩
theorem RelA.append {cs ds : List PV} {vs us : List Value} (h : RelA w F L cs vs) (k : RelA w F L ds us) : RelA w F L (cs ++ ds) (vs ++ us) := by
  refine ⟨by simp [h.1, k.1], fun j c v hc hv => ?_⟩
  rw [List.getElem?_append] at hc hv
  rw [h.1] at hv
  split at hc
  · rename_i hj; rw [if_pos hj] at hv; exact h.2 j c v hc hv
  · rename_i hj; rw [if_neg hj] at hv; exact k.2 _ c v hc hv
theorem RelA.take {cs : List PV} {vs : List Value} (h : RelA w F L cs vs) (n : Nat) : RelA w F L (cs.take n) (vs.take n) := by
  refine ⟨by simp [h.1], fun j c v hc hv => ?_⟩
  rw [List.getElem?_take] at hc hv
  split at hc
  · rename_i hj; rw [if_pos hj] at hv; exact h.2 j c v hc hv
  · cases hc
theorem RelA.drop {cs : List PV} {vs : List Value} (h : RelA w F L cs vs) (n : Nat) : RelA w F L (cs.drop n) (vs.drop n) := by
  refine ⟨by simp [h.1], fun j c v hc hv => ?_⟩
  rw [List.getElem?_drop] at hc hv
  exact h.2 _ c v hc hv
theorem RelA.mono {w' : World} {F' : Nat → Prop} {L' : Id → Option Loc} {cs : List PV} {vs : List Value} (h : RelA w F L cs vs)
    (f : ∀ p v, Rel w F L p v → Rel w' F' L' p v) : RelA w' F' L' cs vs := ⟨h.1, fun j c v hc hv => f _ _ (h.2 j c v hc hv)⟩
theorem RelA.ext {w' : World} {F' K : Nat → Prop} {L' : Id → Option Loc} {cs : List PV} {vs : List Value} (x : Ext w F L K w' F' L') (h : RelA w F L cs vs) : RelA w' F' L' cs vs :=
  h.mono fun _ _ r => r.ext x
theorem RelA.oneCells {cs : List PV} {vs : List Value} (h : RelA w F L cs vs) (ho : ∀ c ∈ cs, c.one = true) : ∀ v ∈ vs, v.oneCell' = true := by
  intro v hv
  obtain ⟨j, hj, rfl⟩ := List.mem_iff_getElem.1 hv
  have hj' : j < cs.length := h.1 ▸ hj
  exact (h.2 j cs[j] vs[j] (by simp) (by simp)).one (ho _ (List.getElem_mem hj'))
theorem Rel.aggA {cs : List PV} {vs : Array Value} (h : RelA w F L cs vs.toList) : Rel w F L (.agg cs) (.agg vs) := .agg _ h.1 h.2
theorem Rel.aggL {cs : List PV} {vs : List Value} (h : RelA w F L cs vs) : Rel w F L (.agg cs) (.agg vs.toArray) := .aggA (by simpa using h)
theorem Rel.slA {cs : List PV} {vs : List Value} {b base n cap : Nat} (hF : F b) (hn : n ≤ cap) (h : RelA w F L cs vs) (hc : HCells w b base vs) :
    Rel w F L (.sl cs n) (.slice (some ⟨b, base, none⟩) n cap) := .sl b base cap vs hF hn h.1 hc h.2
theorem Rel.felA {cs : List PV} {vs : List Value} {b base : Nat} (hF : F b) (h : RelA w F L cs vs) (hc : HCells w b base vs) :
    Rel w F L (.fel cs) (.pointer (some ⟨b, base, none⟩)) := .fel b base vs hF h.1 hc h.2
theorem HCells.drop {b base : Nat} {vs : List Value} (h : HCells w b base vs) (n : Nat) : HCells w b (base + n) (vs.drop n) := by
  intro j u hu
  rw [List.getElem?_drop] at hu
  have := h _ _ hu
  rwa [← Nat.add_assoc] at this
theorem HCells.take {b base : Nat} {vs : List Value} (h : HCells w b base vs) (n : Nat) : HCells w b base (vs.take n) := by
  intro j u hu
  rw [List.getElem?_take] at hu
  split at hu
  · exact h _ _ hu
  · cases hu
theorem cell?_of {b o : Nat} {c : Array Value} {e : TypeId} {z : Nat × Nat} (h : w.heap[b]? = some (.cells c e z)) : w.cell? ⟨b, o, none⟩ = c[o]? := by
  simp [World.cell?, h]
theorem frozen?_of {b o : Nat} {c : Array Value} {e : TypeId} (h : w.heap[b]? = some (.cells c e (0, 0))) : w.frozen? ⟨b, o, none⟩ = false := by
  simp [World.frozen?, h]
theorem HCells.of {b base : Nat} {c : Array Value} {e : TypeId} {z : Nat × Nat} {vs : List Value} (h : w.heap[b]? = some (.cells c e z)) (hv : ∀ (j : Nat) u, vs[j]? = some u → c[base + j]? = some u) :
    HCells w b base vs := fun j u hu => (cell?_of h).trans (hv j u hu)
end
def Sto.cellsOf (S : Sto) : PV → Option (List PV)
  | .fel cs => some cs
  | .ptr i off => (S.obj i).map fun o => o.cells.drop off
  | _ => none
theorem cells_at {w : World} {S : Sto} {L : Id → Option Loc} {F K : Nat → Prop} (hi : Inv w S L F K) {p : PV} {v : Value} (h : Rel w F L p v) {cs : List PV}
    (hc : S.cellsOf p = some cs) : ∃ b o, v = .pointer (some ⟨b, o, none⟩) ∧ ∃ vs : List Value, RelA w F L cs vs ∧ HCells w b o vs := by
  cases h with
  | fel b base vs hF hs hh hr =>
    simp only [Sto.cellsOf, Option.some.injEq] at hc
    subst hc
    exact ⟨b, base, rfl, vs, ⟨hs, hr⟩, hh⟩
  | @ptr i off ℓ hL =>
    simp only [Sto.cellsOf, Option.map_eq_some_iff] at hc
    obtain ⟨o, ho, rfl⟩ := hc
    obtain ⟨ℓ', c, e, hL', _, hb, _, _, ⟨vs, hvs, hcv⟩, _⟩ := hi.live i o ho
    obtain rfl : ℓ' = ℓ := Option.some.inj (hL'.symm.trans hL)
    refine ⟨_, _, rfl, vs.drop off, hvs.drop off, ?_⟩
    exact (HCells.of hb hcv).drop off
  | lit v => simp [Sto.cellsOf] at hc
  | sl => simp [Sto.cellsOf] at hc
  | wild => simp [Sto.cellsOf] at hc
  | agg => simp [Sto.cellsOf] at hc
  | tup => simp [Sto.cellsOf] at hc
  | loc => simp [Sto.cellsOf] at hc
  | fn => simp [Sto.cellsOf] at hc
theorem Inv.add {w : World} {S : Sto} {L : Id → Option Loc} {F K : Nat → Prop} (hi : Inv w S L F K) (s es : Nat) (cs : List PV) (vs : List Value) (c : Array Value) (e : TypeId)
    {w' : World} (hos : w'.os = w.os) (htape : w'.tape = w.tape) (hout : w'.output = w.output) (hh : w'.heap = w.heap.push (.cells c e (0, 0)))
    (hr : RelA w F L cs vs) (hlen : cs.length ≤ c.size) (hv : ∀ (j : Nat) u, vs[j]? = some u → c[j]? = some u) (hdr : w.drawn ≤ w'.drawn := by first | exact Nat.le_refl _ | exact Nat.le_succ _) :
    let L' := upd L (S.next s) (some ⟨w.heap.size, 0, es, c.size⟩)
    Inv w' (S.add s ⟨cs, es, false⟩) L' F K ∧ Ext w F L K w' F L' := by
  intro L'
  have hfresh : L (S.next s) = none := hi.fresh _ (Nat.le_refl _)
  have hL' : ∀ i ℓ, L i = some ℓ → L' i = some ℓ := fun i ℓ h => by
    have : i ≠ S.next s := fun e => by rw [e, hfresh] at h; cases h
    rw [show L' i = L i from upd_ne L _ this]; exact h
  have hold : ∀ b, b < w.heap.size → w'.heap[b]? = w.heap[b]? := fun b hb => by rw [hh, Array.getElem?_push, if_neg (by omega)]
  have hx : Ext w F L K w' F L' := by
    refine ⟨hos, htape, hout, by rw [hh]; simp, fun _ h => h, fun b hb => hold b (hi.fz b hb), hL', fun _ h => .inl h, fun i ℓ h => ?_, hdr⟩
    by_cases e : i = S.next s
    · subst e
      rw [show L' (S.next s) = some ⟨w.heap.size, 0, es, c.size⟩ from upd_same _ _ _] at h
      obtain rfl := Option.some.inj h
      exact .inl (Nat.le_refl _)
    · exact .inr ⟨i, ℓ, (upd_ne L _ e).symm.trans h, rfl⟩
  have hobj : ∀ i, (S.add s ⟨cs, es, false⟩).obj i = if i = S.next s then some ⟨cs, es, false⟩ else S.obj i := fun i => by simp only [Sto.add, upd]
  have hnone : S.obj (S.next s) = none := by
    cases h : S.obj (S.next s) with
    | none => rfl
    | some o => obtain ⟨ℓ, _, _, hl, _⟩ := hi.live _ _ h; rw [hfresh] at hl; cases hl
  have hlt : ∀ i o ℓ, S.obj i = some o → L i = some ℓ → ℓ.b < w.heap.size := fun i o ℓ ho hl => by
    obtain ⟨ℓ', c', e', hl', _, hb, _⟩ := hi.live i o ho
    obtain rfl := Option.some.inj (hl.symm.trans hl')
    rcases Nat.lt_or_ge ℓ.b w.heap.size with h | h
    · exact h
    · rw [Array.getElem?_eq_none h] at hb; cases hb
  refine ⟨⟨fun i o ho => ?_, fun i j o o' ℓ ℓ' ho ho' hz hl hl' hne => ?_, fun i hg => ?_, fun b hb => by rw [hh]; have := hi.fz b hb; simp; omega⟩, hx⟩
  · rw [hobj] at ho
    split at ho
    · rename_i hie; subst hie
      obtain rfl := Option.some.inj ho
      refine ⟨_, c, e, upd_same _ _ _, rfl, by rw [hh]; simp, rfl, by simpa using hlen, ⟨vs, hr.ext hx, by simpa using hv⟩, by simp, fun _ => ?_⟩
      exact ⟨fun hf => absurd (hi.fz _ (.inl hf)) (by simp), fun hk => absurd (hi.fz _ (.inr hk)) (by simp)⟩
    · obtain ⟨ℓ, c', e', h1, h2, h3, h4, h5, ⟨us, h6, h7⟩, h8, h9⟩ := hi.live i o ho
      exact ⟨ℓ, c', e', hL' _ _ h1, h2, (hold _ (hlt _ _ _ ho h1)).trans h3, h4, h5, ⟨us, h6.ext hx, h7⟩, h8, h9⟩
  · rw [hobj] at ho ho'
    have e1 : ∀ {m : Id} {ℓ : Loc}, L' m = some ℓ → m = S.next s → ℓ.b = w.heap.size := fun hm e => by
      subst e
      rw [show L' (S.next s) = some ⟨w.heap.size, 0, es, c.size⟩ from upd_same _ _ _] at hm
      rw [← Option.some.inj hm]
    have e2 : ∀ {m : Id} {ℓ : Loc}, L' m = some ℓ → m ≠ S.next s → L m = some ℓ := fun hm e => by
      rw [← hm]; exact (upd_ne L _ e).symm
    split at ho <;> split at ho'
    · rename_i h1 h2; exact absurd (h1.trans h2.symm) hne
    · rename_i h1 h2
      have := hlt _ _ _ ho' (e2 hl' h2)
      have := e1 hl h1
      omega
    · rename_i h1 h2
      have := hlt _ _ _ ho (e2 hl h1)
      have := e1 hl' h2
      omega
    · rename_i h1 h2
      exact hi.apart i j o o' ℓ ℓ' ho ho' hz (e2 hl h1) (e2 hl' h2) hne
  · have hne : i ≠ S.next s := fun e => by
      subst e
      simp only [Sto.add, Sto.next] at hg
      simp at hg
      omega
    rw [show L' i = L i from upd_ne L _ hne]
    refine hi.fresh i ?_
    simp only [Sto.add] at hg
    split at hg
    · rename_i h; rw [h]; omega
    · exact hg
theorem Inv.write {w : World} {S : Sto} {L : Id → Option Loc} {F K : Nat → Prop} (hi : Inv w S L F K) {i : Id} {o : Obj} (ho : S.obj i = some o) (hz : o.frz = false) {ℓ : Loc} (hl : L i = some ℓ)
    {c c' : Array Value} {e e' : TypeId} (hb : w.heap[ℓ.b]? = some (.cells c e (0, 0))) (cs : List PV) (vs : List Value)
    {w' : World} (hos : w'.os = w.os) (htape : w'.tape = w.tape) (hout : w'.output = w.output) (hs : w'.heap.size = w.heap.size)
    (hb' : w'.heap[ℓ.b]? = some (.cells c' e' (0, 0))) (hsz : c'.size = c.size) (hrest : ∀ b, b ≠ ℓ.b → w'.heap[b]? = w.heap[b]?)
    (hr : RelA w F L cs vs) (hlen : ℓ.base + cs.length ≤ c.size) (hv : ∀ (j : Nat) u, vs[j]? = some u → c'[ℓ.base + j]? = some u) (hdr : w.drawn ≤ w'.drawn := by first | exact Nat.le_refl _ | exact Nat.le_succ _) :
    Inv w' (S.set i ⟨cs, o.es, false⟩) L F K ∧ Ext w F L K w' F L := by
  obtain ⟨ℓ', c₁, e₁, hl', hes, hb1, hsz1, hlen1, _, _, hown⟩ := hi.live i o ho
  obtain rfl := Option.some.inj (hl'.symm.trans hl)
  rw [hb1] at hb
  obtain ⟨rfl, rfl⟩ : c₁ = c ∧ e₁ = e := by injection hb with hb; injection hb with h1 h2; exact ⟨h1, h2⟩
  obtain ⟨hnF, hnK⟩ := hown hz
  have hx : Ext w F L K w' F L := by
    refine ⟨hos, htape, hout, by omega, fun _ h => h, fun b hb => hrest b (fun e => ?_), fun _ _ h => h, fun _ h => .inl h, fun i ℓ h => .inr ⟨i, ℓ, h, rfl⟩, hdr⟩
    subst e; rcases hb with hb | hb
    · exact hnF hb
    · exact hnK hb
  have hobj : ∀ j, (S.set i ⟨cs, o.es, false⟩).obj j = if j = i then some ⟨cs, o.es, false⟩ else S.obj j := fun j => by simp only [Sto.set, upd]
  refine ⟨⟨fun j q hq => ?_, fun j k q q' m m' hq hq' hqz hm hm' hne => ?_, hi.fresh, fun b hb => by have := hi.fz b hb; omega⟩, hx⟩
  · rw [hobj] at hq
    split at hq
    · rename_i hj; subst hj
      obtain rfl := Option.some.inj hq
      exact ⟨ℓ', c', e', hl, hes, hb', by omega, by simp; omega, ⟨vs, hr.ext hx, hv⟩, by simp, fun _ => ⟨hnF, hnK⟩⟩
    · rename_i hj
      obtain ⟨m, c2, e2, h1, h2, h3, h4, h5, ⟨us, h6, h7⟩, h8, h9⟩ := hi.live j q hq
      have : m.b ≠ ℓ'.b := fun e => hi.apart i j o q ℓ' m ho hq hz hl h1 (fun e => hj e.symm) e.symm
      exact ⟨m, c2, e2, h1, h2, (hrest _ this).trans h3, h4, h5, ⟨us, h6.ext hx, h7⟩, h8, h9⟩
  · rw [hobj] at hq hq'
    have old : ∀ {k : Id} {q : Obj}, (if k = i then some ⟨cs, o.es, false⟩ else S.obj k) = some q → ∃ q0, S.obj k = some q0 ∧ (q.frz = false → q0.frz = false) := fun {k q} h => by
      split at h
      · rename_i hk; subst hk; exact ⟨o, ho, fun _ => hz⟩
      · exact ⟨q, h, fun h => h⟩
    obtain ⟨q0, hq0, hf⟩ := old hq
    obtain ⟨q1, hq1, _⟩ := old hq'
    exact hi.apart j k q0 q1 m m' hq0 hq1 (hf hqz) hm hm' hne
theorem Inv.del {w : World} {S : Sto} {L : Id → Option Loc} {F K : Nat → Prop} (hi : Inv w S L F K) (i : Id) : Inv w (S.del i) L F K := by
  have hobj : ∀ j q, (S.del i).obj j = some q → S.obj j = some q := fun j q h => by
    simp only [Sto.del, upd] at h
    split at h
    · cases h
    · exact h
  exact ⟨fun j q h => hi.live j q (hobj j q h), fun j k q q' m m' h h' => hi.apart j k q q' m m' (hobj _ _ h) (hobj _ _ h'), hi.fresh, hi.fz⟩
end Go.Abs
end
section
namespace Go.Abs
open Go
inductive TK where
  | int (k : IntKind) | bool | str | slice (e : TypeId) | strct | arr (n : Nat) (e : TypeId) | ptr (e : TypeId) | map (k v : TypeId) | func | iface | other
  deriving DecidableEq
def tkOf : TypeDesc → TK
  | .int k => .int k
  | .bool => .bool
  | .string => .str
  | .slice e => .slice e
  | .struct _ => .strct
  | .array n e => .arr n e
  | .pointer e => .ptr e
  | .map k v => .map k v
  | .func _ _ _ => .func
  | .interface _ => .iface
  | _ => .other
def TK.agg : TK → Bool
  | .strct | .arr _ _ => true
  | _ => false
structure FI where
  off : Nat
  sz : Nat
  k : TK
structure TI where
  k : TK
  size : Nat
  bytes : Nat
  zero : List Value
  flds : List FI
def fi1 (P : Program) (f : Field) : Option FI :=
  match P.info? f.type, P.underlying f.type with
  | some i, some d => some ⟨f.offset, i.size, tkOf d⟩
  | _, _ => none
def fldL (P : Program) : List Field → Option (List FI)
  | [] => some []
  | f :: r => match fi1 P f, fldL P r with
    | some x, some y => some (x :: y)
    | _, _ => none
def fldsOf (P : Program) : TypeDesc → Option (List FI)
  | .struct fs => fldL P fs.toList
  | _ => some []
def tiOf (P : Program) (t : TypeId) : Option TI :=
  match P.info? t, P.underlying t with
  | some i, some d => match i.zero, fldsOf P d with
    | some z, some fs => some ⟨tkOf d, i.size, i.bytes, z.cells.toList, fs⟩
    | _, _ => none
  | _, _ => none
def TI.load (ti : TI) (cs : List PV) : Option PV :=
  if ti.k.agg then (if ti.size ≤ cs.length then some (.agg (cs.take ti.size)) else none) else cs.head?
def putAt (cs : List PV) (off : Nat) (vs : List PV) : List PV := cs.take off ++ (vs ++ cs.drop (off + vs.length))
def fillL (place : Nat → Option (Nat × Nat)) (cells : List PV) : List (Nat × PV) → Option (List PV)
  | [] => some cells
  | (i, v) :: rest => match place i with
    | none => none
    | some (off, size) => if v.cells.length ≠ size ∨ cells.length < off + size then none else fillL place (putAt cells off v.cells) rest
def repL {α : Type} (n : Nat) (zs : List α) : List α := (List.replicate n zs).flatten
def intBin (op : BinOp) (k : IntKind) (a : Int) (k' : IntKind) (b : Int) : Option Value :=
  match op with
  | .shl => if b < 0 then none else some (.int k (k.wrap (a * 2 ^ (min b.toNat k.bits))))
  | .shr => if b < 0 then none else some (.int k (a.fdiv (2 ^ (min b.toNat k.bits))))
  | .add => if k = k' then some (.int k (k.wrap (a + b))) else none
  | .sub => if k = k' then some (.int k (k.wrap (a - b))) else none
  | .mul => if k = k' then some (.int k (k.wrap (a * b))) else none
  | .quo => if k = k' then (if b = 0 then none else some (.int k (k.wrap (a.tdiv b)))) else none
  | .rem => if k = k' then (if b = 0 then none else some (.int k (a.tmod b))) else none
  | .and => if k = k' then some (.int k (k.wrap ((BitVec.ofInt k.bits a &&& BitVec.ofInt k.bits b).toNat))) else none
  | .or => if k = k' then some (.int k (k.wrap ((BitVec.ofInt k.bits a ||| BitVec.ofInt k.bits b).toNat))) else none
  | .xor => if k = k' then some (.int k (k.wrap ((BitVec.ofInt k.bits a ^^^ BitVec.ofInt k.bits b).toNat))) else none
  | .andNot => if k = k' then some (.int k (k.wrap ((BitVec.ofInt k.bits a &&& ~~~ BitVec.ofInt k.bits b).toNat))) else none
  | .eql => if k = k' then some (.bool (a == b)) else none
  | .neq => if k = k' then some (.bool (a != b)) else none
  | .lss => if k = k' then some (.bool (decide (a < b))) else none
  | .leq => if k = k' then some (.bool (decide (a ≤ b))) else none
  | .gtr => if k = k' then some (.bool (decide (a > b))) else none
  | .geq => if k = k' then some (.bool (decide (a ≥ b))) else none
def strBin (op : BinOp) (x y : ByteArray) : Option Value :=
  match op with
  | .add => if x.size + y.size ≤ 9223372036854775807 then some (.string (x ++ y)) else none
  | .eql => some (.bool (x.toList == y.toList))
  | .neq => some (.bool !(x.toList == y.toList))
  | .lss => some (.bool (Op.bytesLess x.toList y.toList))
  | .leq => some (.bool (Op.bytesLess x.toList y.toList || x.toList == y.toList))
  | .gtr => some (.bool !(Op.bytesLess x.toList y.toList || x.toList == y.toList))
  | .geq => some (.bool !(Op.bytesLess x.toList y.toList))
  | _ => none
def PV.nil? : PV → Option Bool
  | .lit (.slice none _ _) => some true
  | .sl _ _ => some false
  | .loc _ _ _ => some false
  | _ => none
def tkAt (P : Program) (t : TypeId) : Option TK := (P.underlying t).map tkOf
def szAt (P : Program) (t : TypeId) : Option Nat := (P.info? t).map (·.size)
def litBin (P : Program) (op : BinOp) (t : TypeId) : Value → Value → Option Value
  | .int k a, .int k' b => intBin op k a k' b
  | .string a, .string b => strBin op a b
  | .bool a, .bool b => match op with
    | .eql => if tkAt P t = some .bool then some (.bool (a == b)) else none
    | .neq => if tkAt P t = some .bool then some (.bool (a != b)) else none
    | _ => none
  | _, _ => none
def nilEq (P : Program) (t : TypeId) (x y : PV) : Option Bool :=
  match tkAt P t, x.nil?, y.nil? with
  | some (.slice _), some true, some b => some b
  | some (.slice _), some a, some true => some a
  | _, _, _ => none
def PV.lits : PV → PV → Option (Value × Value)
  | .lit a, .lit b => some (a, b)
  | _, _ => none
def aggCells : PV → Option (List PV)
  | .agg cs => some cs
  | .lit (.agg cs) => some (cs.toList.map .lit)
  | _ => none
def structOffs (P : Program) (t : TypeId) : Option (List Nat) :=
  match P.underlying t with
  | some (.struct fs) => if P.stoodInHeld t = false ∧ P.eqGuardType P.depth t = false ∧ fs.toList.all (fun f => f.name != "_" && match tkAt P f.type with | some (.int _) => true | _ => false) = true then some (fs.toList.map (·.offset)) else none
  | _ => none
def eqOffs : List Nat → List PV → List PV → Option Bool
  | [], _, _ => some true
  | o :: os, cs, ds => match cs[o]?, ds[o]?, eqOffs os cs ds with
    | some (.lit (.int k a)), some (.lit (.int k' b)), some r => if k = k' then some (a == b && r) else none
    | _, _, _ => none
def structEq (P : Program) (t : TypeId) (x y : PV) : Option Bool :=
  match structOffs P t, aggCells x, aggCells y with
  | some os, some cs, some ds => eqOffs os cs ds
  | _, _, _ => none
def binFn (P : Program) (op : BinOp) (t : TypeId) (x y : PV) : Option PV :=
  match tkAt P t with
  | some .strct => match op with
    | .eql => (structEq P t x y).map fun b => .lit (.bool b)
    | .neq => (structEq P t x y).map fun b => .lit (.bool !b)
    | _ => none
  | some (.slice _) => match op with
    | .eql => (nilEq P t x y).map fun b => .lit (.bool b)
    | .neq => (nilEq P t x y).map fun b => .lit (.bool !b)
    | _ => none
  | _ => match x, y with
    | .lit a, .lit b => (litBin P op t a b).map .lit
    | _, _ => none
def unFn (op : UnOp) : PV → Option PV
  | .lit (.int k n) => match op with
    | .neg => some (.lit (.int k (k.wrap (0 - n))))
    | _ => none
  | .lit (.bool b) => match op with
    | .not => some (.lit (.bool !b))
    | _ => none
  | _ => none
def convFn (P : Program) (src dst : TypeId) : PV → Option PV
  | .lit (.int _ n) => match tkAt P src, tkAt P dst with
    | some _, some (.int k) => some (.lit (.int k (k.wrap n)))
    | _, _ => none
  | .lit (.string s) => match tkAt P src, tkAt P dst with
    | some .str, some .str => some (.lit (.string s))
    | _, _ => none
  | _ => none
def PV.int? : PV → Option Int
  | .lit (.int _ n) => some n
  | _ => none
def bytesOf : List PV → Option (List UInt8)
  | [] => some []
  | .lit (.int .u8 n) :: r => (bytesOf r).map fun l => UInt8.ofNat n.toNat :: l
  | _ => none
def PV.len? : PV → Option Nat
  | .lit (.slice none n _) => some n
  | .sl _ n => some n
  | .loc _ _ n => some n
  | _ => none
def PV.elem : PV → Nat → Option PV
  | .sl cs _, j => some (.fel (cs.drop j))
  | .loc i off _, j => some (.ptr i (off + j))
  | _, _ => none
def PV.step : PV → Nat → Option PV
  | .fel cs, j => some (.fel (cs.drop j))
  | .ptr i off, j => some (.ptr i (off + j))
  | _, _ => none
def Sto.part (S : Sto) (p : PV) (es l h : Nat) : Option PV :=
  match p with
  | .lit (.slice none n c) => if h ≤ n ∧ n ≤ c ∧ c = 0 then some (.lit (.slice none 0 0)) else none
  | .sl cs n => if h ≤ n ∧ l ≤ h then some (.sl ((cs.drop (l * es)).take ((h - l) * es)) (h - l)) else none
  | .loc i off n => match S.obj i with
    | some o => if h ≤ n ∧ l ≤ h ∧ o.es = es then some (.loc i (off + l * es) (h - l)) else none
    | none => none
  | _ => none
def Sto.rowOf (S : Sto) (es : Nat) : PV → Option (List PV)
  | .lit (.slice none 0 _) => some []
  | .sl cs n => if n * es ≤ cs.length then some (cs.take (n * es)) else none
  | .loc i off n => match S.obj i with
    | some o => if off + n * es ≤ o.cells.length then some ((o.cells.drop off).take (n * es)) else none
    | none => none
  | _ => none
abbrev OpR := Option (PV × Sto)
def justV (S : Sto) (v : Option PV) : OpR := v.map fun v => (v, S)
def storeFn (S : Sto) (a : PV) (sz : Nat) (vs : List PV) : OpR :=
  match a with
  | .ptr i off => match S.obj i with
    | some o => if o.frz = false ∧ vs.length = sz ∧ off + sz ≤ o.cells.length ∧ vs.all PV.one then some (.undef, S.set i ⟨putAt o.cells off vs, o.es, false⟩) else none
    | none => none
  | _ => none
def maxBytes : Nat := 140737488355328
def maxMake : Nat := 281474976710656
def appendFn (P : Program) (s : Nat) (S : Sto) (t : TypeId) (x y : PV) : OpR :=
  match tkAt P t with
  | some (.slice e) => match tiOf P e, y.len? with
    | some te, some m => match S.rowOf te.size y with
      | some ys => if ys.all PV.one ∧ te.zero.length = te.size then (match x with
        | .lit (.slice none 0 0) => if m = 0 then some (x, S) else
            if m ≤ maxBytes ∧ m * te.bytes ≤ maxBytes then some (.loc (S.next s) 0 m, S.add s ⟨ys, te.size, false⟩) else none
        | .loc i off n => match S.obj i with
          | some o => if o.frz = false ∧ o.es = te.size ∧ o.cells.length = off + n * te.size ∧ n + m ≤ maxBytes ∧ (n + m) * te.bytes ≤ maxBytes then
              some (.loc (S.next s) 0 (n + m), (S.del i).add s ⟨o.cells.drop off ++ ys, te.size, false⟩) else none
          | none => none
        | _ => none) else none
      | none => none
    | _, _ => none
  | _ => none
def appendZ (P : Program) (s : Nat) (S : Sto) (t : TypeId) (x y : PV) : OpR :=
  match tkAt P t, x, y with
  | some (.slice e), .lit (.slice none 0 0), .lit (.int _ m) => match tiOf P e with
    | some te => if 0 ≤ m ∧ m ≤ (maxBytes : Nat) ∧ m.toNat * te.bytes ≤ maxBytes ∧ te.zero.length = te.size then
        (if m = 0 then some (x, S) else some (.loc (S.next s) 0 m.toNat, S.add s ⟨repL m.toNat (te.zero.map .lit), te.size, false⟩)) else none
    | none => none
  | _, _, _ => none
def copyFn (P : Program) (S : Sto) (t : TypeId) (x y : PV) : OpR :=
  match tkAt P t with
  | some (.slice e) => match szAt P e, y.len?, x with
    | some es, some m, .loc i off n => match S.obj i, S.rowOf es y with
      | some o, some ys => if o.frz = false ∧ ys.all PV.one ∧ off + n * es ≤ o.cells.length then
          some (.lit (.int .i64 (min m n : Nat)), S.set i ⟨putAt o.cells off (ys.take (min m n * es)), o.es, false⟩) else none
      | _, _ => none
    | _, _, _ => none
  | _ => none
def clearFn (P : Program) (S : Sto) (t : TypeId) (x : PV) : OpR :=
  match tkAt P t with
  | some (.slice e) => match tiOf P e, x with
    | some te, .loc i off n => match S.obj i with
      | some o => if o.frz = false ∧ (repL n (te.zero.map PV.lit)).all PV.one ∧ off + (repL n (te.zero.map PV.lit)).length ≤ o.cells.length then
          some (.lit (.tuple #[]), S.set i ⟨putAt o.cells off (repL n (te.zero.map .lit)), o.es, false⟩) else none
      | none => none
    | _, _ => none
  | _ => none
def minFn (v : Int) : List PV → Option Int
  | [] => some v
  | .lit (.int _ n) :: r => minFn (if n < v then n else v) r
  | _ :: _ => none
def maxFn (v : Int) : List PV → Option Int
  | [] => some v
  | .lit (.int _ n) :: r => maxFn (if n > v then n else v) r
  | _ :: _ => none
def pureB (P : Program) (b : Builtin) (ts : List TypeId) (xs : List PV) : Option PV :=
  match b, ts, xs with
  | .len, t :: _, x :: _ => match tkAt P t with
    | some .str => match x with
      | .lit (.string s) => some (.lit (.int .i64 (s.size : Nat)))
      | _ => none
    | some (.slice _) => x.len?.map fun n => .lit (.int .i64 (n : Nat))
    | some (.arr n _) => some (.lit (.int .i64 (n : Nat)))
    | _ => none
  | .min, _, .lit (.int k v) :: r => (minFn v r).map fun n => .lit (.int k n)
  | .max, _, .lit (.int k v) :: r => (maxFn v r).map fun n => .lit (.int k n)
  | _, _, _ => none
def builtinFn (P : Program) (s : Nat) (S : Sto) (b : Builtin) (ts : List TypeId) (xs : List PV) : OpR :=
  match b with
  | .append => match ts, xs with
    | t :: t' :: _, x :: y :: _ => if t = t' then appendFn P s S t x y else (match tkAt P t' with
      | some (.int _) => appendZ P s S t x y
      | _ => none)
    | _, _ => none
  | .copy => match ts, xs with
    | t :: t' :: _, x :: y :: _ => if t = t' then copyFn P S t x y else none
    | _, _ => none
  | .clear => match ts, xs with
    | t :: _, x :: _ => clearFn P S t x
    | _, _ => none
  | .cap => match ts, xs with
    | t :: _, .lit (.slice none 0 0) :: _ => (match tkAt P t with
      | some (.slice _) => some (.lit (.int .i64 0), S)
      | _ => none)
    | _, _ => none
  | .len => justV S (pureB P .len ts xs)
  | .min => justV S (pureB P .min ts xs)
  | .max => justV S (pureB P .max ts xs)
  | _ => none
def boundFn (n : Nat) : Option PV → Option Int
  | none => some n
  | some x => x.int?
def opFn (P : Program) (s : Nat) (ρ : Operand → PV) (S : Sto) : Op → OpR
  | .move x | .assign x => some (ρ x, S)
  | .pick c a b => match ρ c with
    | .lit (.bool t) => some (if t then ρ a else ρ b, S)
    | _ => none
  | .alloc e => match tiOf P e with
    | some ti => some (.ptr (S.next s) 0, S.add s ⟨ti.zero.map .lit, 0, false⟩)
    | none => none
  | .box _ x => some (.ptr (S.next s) 0, S.add s ⟨(ρ x).cells, 0, false⟩)
  | .build t parts => match tiOf P t with
    | some ti => match ti.k with
      | .strct => (fillL (fun i => (ti.flds[i]?).map fun f => (f.off, f.sz)) (ti.zero.map .lit) (parts.toList.map fun (i, x) => (i, ρ x))).map fun cs => (.agg cs, S)
      | .arr _ e => match szAt P e with
        | some es => (fillL (fun i => some (i * es, es)) (ti.zero.map .lit) (parts.toList.map fun (i, x) => (i, ρ x))).map fun cs => (.agg cs, S)
        | none => none
      | _ => none
    | none => none
  | .buildSlice t len parts => match tkAt P t with
    | some (.slice e) => match tiOf P e with
      | some te => if len * te.size ≤ 16777216 ∧ te.zero.length = te.size then
          (fillL (fun i => some (i * te.size, te.size)) (repL len (te.zero.map .lit)) (parts.toList.map fun (i, x) => (i, ρ x))).map fun cs => (.loc (S.next s) 0 len, S.add s ⟨cs, te.size, false⟩)
          else none
      | none => none
    | _ => none
  | .load t a => match tiOf P t, S.cellsOf (ρ a) with
    | some ti, some cs => justV S (ti.load cs)
    | _, _ => none
  | .store t a x => match szAt P t with
    | some sz => storeFn S (ρ a) sz (ρ x).cells
    | none => none
  | .nilCheck x => match ρ x with
    | .ptr i off => some (.ptr i off, S)
    | .fel cs => some (.fel cs, S)
    | .fn f cs => some (.fn f cs, S)
    | .lit (.func (.func f) a b) => some (.lit (.func (.func f) a b), S)
    | _ => none
  | .binOp op t x y _ => justV S (binFn P op t (ρ x) (ρ y))
  | .unOp op _ x => justV S (unFn op (ρ x))
  | .convert src dst x => match ρ x with
    | .loc i off n => match tkAt P src, tkAt P dst, S.rowOf 1 (.loc i off n) with
      | some (.slice e), some .str, some ys => match tkAt P e, bytesOf ys with
        | some (.int .u8), some b => some (.lit (.string ⟨b.toArray⟩), S)
        | _, _ => none
      | _, _, _ => none
    | p => justV S (convFn P src dst p)
  | .makeFunc (.func f) first cap => if first.size = 0 then some (.fn f (cap.toList.map ρ), S) else none
  | .makeSlice t l c => match tkAt P t, ρ l, ρ c with
    | some (.slice e), .lit (.int _ n), .lit (.int _ m) => match tiOf P e with
      | some te => if 0 ≤ n ∧ n ≤ m ∧ m ≤ maxMake ∧ m.toNat * te.bytes ≤ maxMake ∧ te.zero.length = te.size then
          some (.loc (S.next s) 0 n.toNat, S.add s ⟨repL n.toNat (te.zero.map .lit), te.size, false⟩) else none
      | none => none
    | _, _, _ => none
  | .slice t x lo hi none => match tkAt P t with
    | some (.slice e) => match szAt P e, (ρ x).len? with
      | some es, some n => match boundFn 0 (lo.map ρ), boundFn n (hi.map ρ) with
        | some l, some h => if 0 ≤ l ∧ l ≤ h ∧ h ≤ n then justV S (S.part (ρ x) es l.toNat h.toNat) else none
        | _, _ => none
      | _, _ => none
    | some .str => match ρ x with
      | .lit (.string b) => match boundFn 0 (lo.map ρ), boundFn b.size (hi.map ρ) with
        | some l, some h => if 0 ≤ l ∧ l ≤ h ∧ h ≤ b.size then some (.lit (.string (b.extract l.toNat h.toNat)), S) else none
        | _, _ => none
      | _ => none
    | _ => none
  | .fieldAddr t x f => match tiOf P t with
    | some ti => match ti.flds[f]? with
      | some fi => if fi.sz ≠ 0 ∧ ti.k = .strct then justV S ((ρ x).step fi.off) else none
      | none => none
    | none => none
  | .field t x f => match tiOf P t with
    | some ti => match ti.flds[f]?, aggCells (ρ x) with
      | some fi, some cs => if ti.k = .strct then justV S (if fi.k.agg then (if fi.off + fi.sz ≤ cs.length then some (.agg ((cs.drop fi.off).take fi.sz)) else none) else cs[fi.off]?) else none
      | _, _ => none
    | none => none
  | .indexAddr t x i => match tkAt P t, (ρ i).int? with
    | some (.slice e), some j => match szAt P e, (ρ x).len? with
      | some es, some n => if 0 ≤ j ∧ j < n then justV S ((ρ x).elem (j.toNat * es)) else none
      | _, _ => none
    | some (.arr n e), some j => match szAt P e with
      | some es => if 0 ≤ j ∧ j < n then justV S ((ρ x).step (j.toNat * es)) else none
      | none => none
    | _, _ => none
  | .index t x i => match tkAt P t, (ρ i).int? with
    | some (.arr n e), some j => match tiOf P e, aggCells (ρ x) with
      | some te, some cs => if 0 ≤ j ∧ j < n then justV S (if te.k.agg then (if j.toNat * te.size + te.size ≤ cs.length then some (.agg ((cs.drop (j.toNat * te.size)).take te.size)) else none) else cs[j.toNat * te.size]?) else none
      | _, _ => none
    | some .str, some j => match ρ x with
      | .lit (.string s) => if 0 ≤ j then (s[j.toNat]?).map fun b => (.lit (.int .u8 (b.toNat : Nat)), S) else none
      | _ => none
    | _, _ => none
  | .extract x ix => match ρ x with
    | .tup vs => (vs[ix]?).map fun v => (v, S)
    | .lit (.tuple vs) => (vs[ix]?).map fun v => (.lit v, S)
    | _ => none
  | .call { callee := .builtin b, args := xs, argTypes := ts } => builtinFn P s S b ts.toList (xs.toList.map ρ)
  | _ => none
end Go.Abs
end
section
namespace Go.Abs
open Go
variable {P : Program} {w : World} {S : Sto} {L : Id → Option Loc} {F K : Nat → Prop}
theorem tiOf_spec {t : TypeId} {ti : TI} (h : tiOf P t = some ti) : ∃ i d z, P.info? t = some i ∧ P.underlying t = some d ∧ i.zero = some z ∧
    ti.k = tkOf d ∧ ti.size = i.size ∧ ti.bytes = i.bytes ∧ ti.zero = z.cells.toList ∧ fldsOf P d = some ti.flds := by
  unfold tiOf at h
  split at h
  · rename_i i d h1 h2
    split at h
    · rename_i z fs h3 h4
      obtain rfl := Option.some.inj h
      exact ⟨i, d, z, h1, h2, h3, rfl, rfl, rfl, rfl, h4⟩
    · cases h
  · cases h
theorem tkAt_spec {t : TypeId} {k : TK} (h : tkAt P t = some k) : ∃ d, P.underlying t = some d ∧ tkOf d = k := by
  simpa [tkAt, Option.map_eq_some_iff] using h
theorem tkAt_slice {t e : TypeId} (h : tkAt P t = some (.slice e)) : P.underlying t = some (.slice e) := by
  obtain ⟨d, h1, h2⟩ := tkAt_spec h
  cases d <;> simp [tkOf] at h2
  subst h2; exact h1
theorem tkAt_arr {t e : TypeId} {n : Nat} (h : tkAt P t = some (.arr n e)) : P.underlying t = some (.array n e) := by
  obtain ⟨d, h1, h2⟩ := tkAt_spec h
  cases d <;> simp [tkOf] at h2
  obtain ⟨rfl, rfl⟩ := h2; exact h1
theorem tkAt_str {t : TypeId} (h : tkAt P t = some .str) : P.underlying t = some .string := by
  obtain ⟨d, h1, h2⟩ := tkAt_spec h
  cases d <;> simp [tkOf] at h2
  exact h1
theorem tkAt_bool {t : TypeId} (h : tkAt P t = some .bool) : P.underlying t = some .bool := by
  obtain ⟨d, h1, h2⟩ := tkAt_spec h
  cases d <;> simp [tkOf] at h2
  exact h1
theorem tkAt_int {t : TypeId} {k : IntKind} (h : tkAt P t = some (.int k)) : P.underlying t = some (.int k) := by
  obtain ⟨d, h1, h2⟩ := tkAt_spec h
  cases d <;> simp [tkOf] at h2
  subst h2; exact h1
theorem szAt_spec {t : TypeId} {n : Nat} (h : szAt P t = some n) : ∃ i, P.info? t = some i ∧ i.size = n := by
  simpa [szAt, Option.map_eq_some_iff] using h
theorem tiOf_szAt {t : TypeId} {ti : TI} (h : tiOf P t = some ti) : szAt P t = some ti.size := by
  obtain ⟨i, d, z, h1, _, _, _, h5, _⟩ := tiOf_spec h
  simp [szAt, h1, h5]
theorem run_sizeOf {t : TypeId} {n : Nat} (h : szAt P t = some n) : (sizeOf t).run P w = .ok n w := by
  obtain ⟨i, hi, rfl⟩ := szAt_spec h
  simp [sizeOf, typeInfo, hi]
theorem run_isAgg {t : TypeId} {d : TypeDesc} (h : P.underlying t = some d) : (isAgg t).run P w = .ok (tkOf d).agg w := by
  simp only [isAgg, Sem.run_bind, run_underlying h, Result.andThen_ok]
  cases d <;> rfl
theorem run_zero {t : TypeId} {i : TypeInfo} {z : Value} (h : P.info? t = some i) (hz : i.zero = some z) : (zeroValue t).run P w = .ok z w := by
  simp [zeroValue, typeInfo, h, hz]
theorem addr_add (b o n : Nat) : (⟨b, o, none⟩ : Addr).add n = ⟨b, o + n, none⟩ := by
  unfold Addr.add
  split
  · rename_i h; subst h; rfl
  · rfl
theorem run_loadN {b o n : Nat} {vs : List Value} (h : HCells w b o vs) (hn : n ≤ vs.length) : (loadCells ⟨b, o, none⟩ n).run P w = .ok (vs.take n).toArray w := by
  have := run_loadCells_list (P := P) (w := w) ⟨b, o, none⟩ (vs.take n) (fun j v hv => by rw [addr_add]; exact (h.take n) j v hv)
  simpa [List.length_take, Nat.min_eq_left hn] using this
theorem run_load1 {a : Addr} {v : Value} (h : w.cell? a = some v) : (load a).run P w = .ok v w := by
  rw [run_load, h]
theorem s_load {t : TypeId} {ti : TI} (hi : Inv w S L F K) (ht : tiOf P t = some ti) {p : PV} {v : Value} (hr : Rel w F L p v) {cs : List PV} (hc : S.cellsOf p = some cs)
    {q : PV} (hq : ti.load cs = some q) : ∃ u, (Instr.loadAt t v).run P w = .ok u w ∧ Rel w F L q u := by
  obtain ⟨b, o, rfl, vs, hvs, hh⟩ := cells_at hi hr hc
  obtain ⟨i, d, z, h1, h2, _, h4, h5, _⟩ := tiOf_spec ht
  have hsz := run_sizeOf (w := w) (tiOf_szAt ht)
  have hag := run_isAgg (w := w) h2
  rw [← h4] at hag
  unfold TI.load at hq
  simp only [Instr.loadAt, Instr.sureAddr, loadVar, Sem.run_bind, Sem.run_pure, Result.andThen_ok, hag]
  split at hq
  · rename_i hg
    split at hq
    · rename_i hl
      obtain rfl := Option.some.inj hq
      refine ⟨.agg (vs.take ti.size).toArray, ?_, .aggL (hvs.take _)⟩
      simp [hg, hsz, run_loadN hh (by rw [hvs.1]; exact hl)]
    · cases hq
  · rename_i hg
    cases cs with
    | nil => cases hq
    | cons c cs =>
      obtain rfl : c = q := by simpa using hq
      have hlen : 0 < vs.length := by rw [hvs.1]; simp
      have h0 : vs[0]? = some vs[0] := by simp
      refine ⟨vs[0], ?_, hvs.2 0 c _ (by simp) h0⟩
      have := hh 0 _ h0
      simp [hg, run_load1 (by simpa using this)]
theorem putAt_get (cs vs : List PV) (off : Nat) (h : off + vs.length ≤ cs.length) : (putAt cs off vs).length = cs.length ∧
    ∀ j, (putAt cs off vs)[j]? = if off ≤ j ∧ j < off + vs.length then vs[j - off]? else cs[j]? := by
  refine ⟨by simp [putAt]; omega, fun j => ?_⟩
  unfold putAt
  rw [List.getElem?_append, List.getElem?_append, List.getElem?_take, List.getElem?_drop]
  have hl : (cs.take off).length = off := by simp; omega
  simp only [hl]
  by_cases h1 : j < off
  · simp [h1, show ¬ off ≤ j by omega]
  · simp only [h1, if_false]
    by_cases h2 : j < off + vs.length
    · simp [show j - off < vs.length by omega, h2, show off ≤ j by omega]
    · simp only [show ¬ (j - off < vs.length) by omega, if_false, h2, and_false]
      congr 1
      omega
def putV (cs : List Value) (off : Nat) (vs : List Value) : List Value := cs.take off ++ (vs ++ cs.drop (off + vs.length))
theorem RelA.put {cs ds : List PV} {vs us : List Value} (h : RelA w F L cs vs) (k : RelA w F L ds us) (off : Nat) : RelA w F L (putAt cs off ds) (putV vs off us) := by
  unfold putAt putV
  rw [k.1]
  exact (h.take off).append (k.append (h.drop _))
def putArr (c : Array Value) (off : Nat) (vs : List Value) : Array Value := vs.zipIdx.foldl (fun c x => c.setIfInBounds (off + x.2) x.1) c
theorem putArr_aux (off : Nat) : ∀ (vs : List Value) (k : Nat) (c : Array Value), (off + k + vs.length ≤ c.size) →
    ((vs.zipIdx k).foldl (fun c x => c.setIfInBounds (off + x.2) x.1) c).size = c.size ∧
    ∀ j, ((vs.zipIdx k).foldl (fun c x => c.setIfInBounds (off + x.2) x.1) c)[j]? = if off + k ≤ j ∧ j < off + k + vs.length then vs[j - (off + k)]? else c[j]?
  | [], k, c, _ => ⟨rfl, fun j => by simp; intro h1 h2; omega⟩
  | v :: vs, k, c, h => by
    simp only [List.length_cons] at h
    obtain ⟨h1, h2⟩ := putArr_aux off vs (k + 1) (c.setIfInBounds (off + k) v) (by simp; omega)
    simp only [List.zipIdx_cons, List.foldl_cons]
    refine ⟨by rw [h1]; simp, fun j => ?_⟩
    rw [h2, Array.getElem?_setIfInBounds]
    simp only [List.length_cons]
    by_cases e : j = off + k
    · subst e
      simp [show ¬ (off + (k + 1) ≤ off + k) by omega, show off + k < c.size by omega]
    · by_cases hj : off + k ≤ j ∧ j < off + k + (vs.length + 1)
      · rw [if_pos (by omega), if_pos (by omega)]
        rw [show j - (off + k) = (j - (off + (k + 1))) + 1 by omega]
        simp
      · rw [if_neg (by omega), if_neg (by omega), if_neg (by omega)]
theorem putArr_get (c : Array Value) (off : Nat) (vs : List Value) (h : off + vs.length ≤ c.size) : (putArr c off vs).size = c.size ∧
    ∀ j, (putArr c off vs)[j]? = if off ≤ j ∧ j < off + vs.length then vs[j - off]? else c[j]? := by
  simpa [putArr] using putArr_aux off vs 0 c (by simpa using h)
theorem setCell_heap_same {b o : Nat} {c : Array Value} {e : TypeId} {z : Nat × Nat} (h : w.heap[b]? = some (.cells c e z)) (v : Value) :
    (w.setCell ⟨b, o, none⟩ v).heap[b]? = some (.cells (c.setIfInBounds o v) e z) := by
  simp [World.setCell, Array.getElem?_modify, h]
theorem setCell_heap_other {b o b' : Nat} (h : b' ≠ b) (v : Value) : (w.setCell ⟨b, o, none⟩ v).heap[b']? = w.heap[b']? := by
  simp only [World.setCell, Array.getElem?_modify]
  rw [if_neg (fun e => h e.symm)]
theorem setCells_drawn (b : Nat) : ∀ (vs : List Value) (o : Nat) (w : World), (w.setCells b o vs).drawn = w.drawn
  | [], _, _ => rfl
  | v :: vs, o, w => (setCells_drawn b vs (o + 1) (w.setCell ⟨b, o, none⟩ v)).trans rfl
theorem setCells_heap (b : Nat) : ∀ (vs : List Value) (o : Nat) (w : World) (c : Array Value) (e : TypeId) (z : Nat × Nat), w.heap[b]? = some (.cells c e z) → o + vs.length ≤ c.size →
    ∃ c', (w.setCells b o vs).heap[b]? = some (.cells c' e z) ∧ c'.size = c.size ∧ (∀ j, c'[j]? = if o ≤ j ∧ j < o + vs.length then vs[j - o]? else c[j]?) ∧
      (∀ b', b' ≠ b → (w.setCells b o vs).heap[b']? = w.heap[b']?) ∧ (w.setCells b o vs).heap.size = w.heap.size ∧
      (w.setCells b o vs).os = w.os ∧ (w.setCells b o vs).tape = w.tape ∧ (w.setCells b o vs).output = w.output
  | [], o, w, c, e, z, h, _ => ⟨c, h, rfl, fun j => by simp; intro h1 h2; omega, fun _ _ => rfl, rfl, rfl, rfl, rfl⟩
  | v :: vs, o, w, c, e, z, h, hl => by
    simp only [List.length_cons] at hl
    obtain ⟨c', h1, h2, h3, h4, h5, h6, h7, h8⟩ := setCells_heap b vs (o + 1) (w.setCell ⟨b, o, none⟩ v) _ e z (setCell_heap_same h v) (by simp; omega)
    refine ⟨c', h1, by rw [h2]; simp, fun j => ?_, fun b' hb => (h4 b' hb).trans (setCell_heap_other hb v), by rw [World.setCells, h5]; simp [World.setCell], h6, h7, h8⟩
    rw [h3, Array.getElem?_setIfInBounds]
    simp only [List.length_cons]
    by_cases e : j = o
    · subst e
      simp [show ¬ (j + 1 ≤ j) by omega, show j < c.size by omega]
    · by_cases hj : o ≤ j ∧ j < o + (vs.length + 1)
      · rw [if_pos (by omega), if_pos (by omega)]
        rw [show j - o = (j - (o + 1)) + 1 by omega]
        simp
      · rw [if_neg (by omega), if_neg (by omega), if_neg (by omega)]
theorem s_write (hi : Inv w S L F K) {i : Id} {o : Obj} (ho : S.obj i = some o) (hz : o.frz = false) {ℓ : Loc} (hl : L i = some ℓ) {off : Nat} {ds : List PV} {us : List Value}
    (hr : RelA w F L ds us) (hlen : off + ds.length ≤ o.cells.length) (h1 : ∀ c ∈ ds, c.one = true) :
    (storeCells ⟨ℓ.b, ℓ.base + off, none⟩ us).run P w = .ok () (w.setCells ℓ.b (ℓ.base + off) us) ∧
    Inv (w.setCells ℓ.b (ℓ.base + off) us) (S.set i ⟨putAt o.cells off ds, o.es, false⟩) L F K ∧ Ext w F L K (w.setCells ℓ.b (ℓ.base + off) us) F L := by
  obtain ⟨ℓ', c, e, hl', hes, hb, hsz, hlen', ⟨vs, hvs, hcv⟩, _, _⟩ := hi.live i o ho
  obtain rfl := Option.some.inj (hl'.symm.trans hl)
  have hus : us.length = ds.length := hr.1
  have hcell : ∀ j, j < us.length → w.cell? ⟨ℓ'.b, ℓ'.base + off + j, none⟩ = some c[ℓ'.base + off + j]! := fun j hj => by
    rw [cell?_of hb]
    have : ℓ'.base + off + j < c.size := by omega
    simp [this]
  have hrun := run_storeCells_cells (P := P) ℓ'.b (ℓ'.base + off) us 0 w (fun j hj => by rw [Nat.add_zero, hcell j hj]; rfl)
    (fun j hj => frozen?_of hb) (hr.oneCells h1)
  rw [Nat.add_zero] at hrun
  obtain ⟨c', g1, g2, g3, g4, g5, g6, g7, g8⟩ := setCells_heap ℓ'.b us (ℓ'.base + off) w c e (0, 0) hb (by omega)
  obtain ⟨hpl, hpg⟩ := putAt_get o.cells ds off hlen
  refine ⟨hrun, hi.write ho hz hl' hb _ (putV vs off us) g6 g7 g8 g5 g1 g2 g4 (hvs.put hr off) (by omega) (fun j u hu => ?_) (by rw [setCells_drawn]; exact Nat.le_refl _)⟩
  rw [g3]
  have hvl : vs.length = o.cells.length := hvs.1
  unfold putV at hu
  rw [List.getElem?_append, List.getElem?_append, List.getElem?_take, List.getElem?_drop] at hu
  have hl2 : (vs.take off).length = off := by simp; omega
  simp only [hl2] at hu
  by_cases a1 : j < off
  · simp only [a1, if_true] at hu
    rw [if_neg (by omega)]; exact hcv j u hu
  · simp only [a1, if_false] at hu
    by_cases a2 : j - off < us.length
    · simp only [a2, if_true] at hu
      rw [if_pos (by omega), show ℓ'.base + j - (ℓ'.base + off) = j - off by omega]; exact hu
    · simp only [a2, if_false] at hu
      rw [if_neg (by omega)]
      refine hcv j u ?_
      rw [← hu]; congr 1; omega
theorem s_store {t : TypeId} {sz : Nat} (hi : Inv w S L F K) (ht : szAt P t = some sz) {p q : PV} {v u : Value} (hp : Rel w F L p v) (hq : Rel w F L q u)
    {x : PV} {S' : Sto} (h : storeFn S p sz q.cells = some (x, S')) :
    ∃ w', (Instr.storeAt t v u).run P w = .ok () w' ∧ x = .undef ∧ Inv w' S' L F K ∧ Ext w F L K w' F L := by
  cases hp with
  | @ptr i off ℓ hl =>
    simp only [storeFn] at h
    split at h
    · rename_i o ho
      split at h
      · rename_i hc
        obtain ⟨h1, h2, h3, h4⟩ := hc
        simp only [Option.some.injEq, Prod.mk.injEq] at h
        obtain ⟨rfl, rfl⟩ := h
        have hqc := hq.cells
        obtain ⟨r1, r2, r3⟩ := s_write (P := P) (off := off) hi ho h1 hl hqc (by omega) (by simpa using h4)
        refine ⟨_, ?_, rfl, r2, r3⟩
        have hsz := run_sizeOf (w := w) ht
        have : ¬ (u.cells.size ≠ sz) := by
          have := hqc.1
          simp at this
          omega
        simp only [Instr.storeAt, Instr.sureAddr, storeVar, Sem.run_bind, Sem.run_pure, Result.andThen_ok, hsz, this, if_false, r1]
      · cases h
    · cases h
  | lit v => simp [storeFn] at h
  | sl => simp [storeFn] at h
  | wild => simp [storeFn] at h
  | agg => simp [storeFn] at h
  | tup => simp [storeFn] at h
  | fel => simp [storeFn] at h
  | loc => simp [storeFn] at h
  | fn => simp [storeFn] at h
theorem s_new (hi : Inv w S L F K) (s es : Nat) {cs : List PV} {vs : List Value} (hr : RelA w F L cs vs) (t : TypeId) :
    ∃ w' L', (newRow t vs.toArray).run P w = .ok ⟨w.heap.size, 0, none⟩ w' ∧ L' (S.next s) = some ⟨w.heap.size, 0, es, cs.length⟩ ∧
      Inv w' (S.add s ⟨cs, es, false⟩) L' F K ∧ Ext w F L K w' F L' := by
  obtain ⟨h1, h2⟩ := hi.add s es cs vs vs.toArray t (w' := { w with heap := w.heap.push (.cells vs.toArray t) }) rfl rfl rfl rfl hr (by simp [hr.1]) (by simp)
  refine ⟨_, _, ?_, ?_, h1, h2⟩
  · simp [newRow]
  · rw [upd_same]; simp [hr.1]
theorem s_alloc {e : TypeId} {ti : TI} (hi : Inv w S L F K) (ht : tiOf P e = some ti) (s : Nat) :
    ∃ w' L' u, (Instr.alloc e true (.tuple #[])).run P w = .ok u w' ∧ Rel w' F L' (.ptr (S.next s) 0) u ∧ Inv w' (S.add s ⟨ti.zero.map .lit, 0, false⟩) L' F K ∧ Ext w F L K w' F L' := by
  obtain ⟨i, d, z, h1, h2, h3, _, _, _, h7, _⟩ := tiOf_spec ht
  obtain ⟨w', L', g1, g2, g3, g4⟩ := s_new (P := P) hi s 0 (RelA.lits ti.zero) e
  refine ⟨w', L', _, ?_, .ptr g2, g3, g4⟩
  rw [h7] at g1
  simp at g1
  simp [Instr.alloc, run_zero h1 h3, newVar, g1]
theorem s_box {e : TypeId} (hi : Inv w S L F K) (s : Nat) {p : PV} {v : Value} (hr : Rel w F L p v) :
    ∃ w' L' u, (Instr.box e v).run P w = .ok u w' ∧ Rel w' F L' (.ptr (S.next s) 0) u ∧ Inv w' (S.add s ⟨p.cells, 0, false⟩) L' F K ∧ Ext w F L K w' F L' := by
  obtain ⟨w', L', g1, g2, g3, g4⟩ := s_new (P := P) hi s 0 hr.cells e
  refine ⟨w', L', _, ?_, .ptr g2, g3, g4⟩
  simp at g1
  simp [Instr.box, newVar, g1]
theorem run_mapM {α β : Type} (f : α → Sem β) (g : α → β) (w : World) : ∀ (l : List α), (∀ x ∈ l, (f x).run P w = .ok (g x) w) → (l.mapM f).run P w = .ok (l.map g) w
  | [], _ => by simp
  | x :: l, h => by
    have h1 := h x (by simp)
    have h2 := run_mapM f g w l (fun y hy => h y (by simp [hy]))
    simp [List.mapM_cons, h1, h2]
theorem run_mapMA {α β : Type} (f : α → Sem β) (g : α → β) (w : World) (l : Array α) (h : ∀ x ∈ l.toList, (f x).run P w = .ok (g x) w) : (l.mapM f).run P w = .ok (l.toList.map g).toArray w := by
  rw [Array.mapM_eq_mapM_toList, Sem.run_map, run_mapM f g w l.toList h]
  simp
theorem fldL_spec : ∀ (l : List Field) (fs : List FI), fldL P l = some fs → fs.length = l.length ∧ ∀ (j : Nat) f, l[j]? = some f → ∃ x, fs[j]? = some x ∧ fi1 P f = some x
  | [], fs, h => by
    simp only [fldL, Option.some.injEq] at h
    subst h; simp
  | f :: l, fs, h => by
    simp only [fldL] at h
    split at h
    · rename_i x y h1 h2
      obtain rfl := Option.some.inj h
      obtain ⟨i1, i2⟩ := fldL_spec l y h2
      refine ⟨by simp [i1], fun j g hj => ?_⟩
      match j, hj with
      | 0, hj => obtain rfl : f = g := by simpa using hj
                 exact ⟨x, by simp, h1⟩
      | j + 1, hj => obtain ⟨z, hz⟩ := i2 j g (by simpa using hj)
                     exact ⟨z, by simpa using hz⟩
    · cases h
theorem fi1_spec {f : Field} {x : FI} (h : fi1 P f = some x) : x.off = f.offset ∧ szAt P f.type = some x.sz ∧ ∃ d, P.underlying f.type = some d ∧ x.k = tkOf d := by
  unfold fi1 at h
  split at h
  · rename_i i d h1 h2
    obtain rfl := Option.some.inj h
    exact ⟨rfl, by simp [szAt, h1], d, h2, rfl⟩
  · cases h
theorem tiOf_struct {t : TypeId} {ti : TI} (h : tiOf P t = some ti) (hk : ti.k = .strct) : ∃ fs, P.underlying t = some (.struct fs) ∧ fldL P fs.toList = some ti.flds := by
  obtain ⟨i, d, z, h1, h2, _, h4, _, _, _, h8⟩ := tiOf_spec h
  rw [hk] at h4
  cases d <;> simp [tkOf] at h4
  exact ⟨_, h2, h8⟩
theorem fill_eq (cells : Array Value) (off : Nat) (v : Value) : v.cells.zipIdx.foldl (fun cs (x : Value × Nat) => cs.setIfInBounds (off + x.2) x.1) cells = putArr cells off v.cells.toList := by
  unfold putArr
  rw [← Array.foldl_toList]
  simp
theorem putArr_toList (c : Array Value) (off : Nat) (vs : List Value) (h : off + vs.length ≤ c.size) : (putArr c off vs).toList = putV c.toList off vs := by
  apply List.ext_getElem?
  intro j
  obtain ⟨h1, h2⟩ := putArr_get c off vs h
  rw [Array.getElem?_toList, h2]
  unfold putV
  rw [List.getElem?_append, List.getElem?_append, List.getElem?_take, List.getElem?_drop]
  have hl : (c.toList.take off).length = off := by simp; omega
  simp only [hl, Array.getElem?_toList]
  by_cases a1 : j < off
  · simp [a1, show ¬ off ≤ j by omega]
  · by_cases a2 : j < off + vs.length
    · simp [a1, a2, show off ≤ j by omega, show j - off < vs.length by omega]
    · simp only [a1, if_false, a2, and_false, show ¬ (j - off < vs.length) by omega]
      congr 1; omega
theorem s_fill {ρ : Operand → PV} {ev : Operand → Value} (hr : ∀ x, Rel w F L (ρ x) (ev x)) (place : Nat → Option (Nat × Nat)) :
    ∀ (l : List (Nat × Operand)) (cs : List PV) (c : Array Value) (cs' : List PV), RelA w F L cs c.toList → fillL place cs (l.map fun (i, x) => (i, ρ x)) = some cs' →
      ∃ c', Instr.fill place c (l.map fun (i, x) => (i, ev x)) = some c' ∧ RelA w F L cs' c'.toList ∧ cs'.length = cs.length
  | [], cs, c, cs', h, hf => by
    simp only [List.map_nil, fillL, Option.some.injEq] at hf
    subst hf
    exact ⟨c, rfl, h, rfl⟩
  | (i, x) :: l, cs, c, cs', h, hf => by
    simp only [List.map_cons, fillL] at hf
    cases hp : place i with
    | none => simp [hp] at hf
    | some os =>
      obtain ⟨off, size⟩ := os
      simp only [hp] at hf
      split at hf
      · cases hf
      · rename_i hc
        have hx := (hr x).cells
        have e1 : (ρ x).cells.length = size := by
          rcases Nat.decEq (ρ x).cells.length size with h' | h'
          · exact absurd (Or.inl h') hc
          · exact h'
        have e2 : off + size ≤ cs.length := by
          rcases Nat.lt_or_ge cs.length (off + size) with h' | h'
          · exact absurd (Or.inr h') hc
          · exact h'
        have e3 : (ev x).cells.size = size := by have := hx.1; simp at this; omega
        have e4 : c.size = cs.length := by simpa using h.1
        have hput : RelA w F L (putAt cs off (ρ x).cells) (putArr c off (ev x).cells.toList).toList := by
          rw [putArr_toList _ _ _ (by simp; omega)]
          exact h.put hx off
        obtain ⟨c', g1, g2, g3⟩ := s_fill hr place l _ _ cs' hput hf
        refine ⟨c', ?_, g2, by rw [g3, (putAt_get cs (ρ x).cells off (by omega)).1]⟩
        simp only [List.map_cons, Instr.fill, hp]
        rw [if_neg (by simp; omega)]
        rw [fill_eq]; exact g1
theorem s_build {t : TypeId} {ti : TI} (ht : tiOf P t = some ti) (hk : ti.k = .strct) {ρ : Operand → PV} {ev : Operand → Value} (hr : ∀ x, Rel w F L (ρ x) (ev x))
    (l : Array (Nat × Operand)) {cs : List PV}
    (hf : fillL (fun i => (ti.flds[i]?).map fun f => (f.off, f.sz)) (ti.zero.map .lit) (l.toList.map fun (i, x) => (i, ρ x)) = some cs) :
    ∃ u, (Instr.build t (l.map fun (i, x) => (i, ev x))).run P w = .ok u w ∧ Rel w F L (.agg cs) u := by
  obtain ⟨i, d, z, h1, h2, h3, h4, h5, _, h7, h8⟩ := tiOf_spec ht
  obtain ⟨fs, g1, g2⟩ := tiOf_struct ht hk
  obtain ⟨g3, g4⟩ := fldL_spec _ _ g2
  have hplaces : (fs.mapM fun f => (do pure (f.offset, ← sizeOf f.type) : Sem (Nat × Nat))).run P w = .ok (fs.toList.map fun f => (f.offset, (szAt P f.type).getD 0)).toArray w := by
    refine run_mapMA _ _ w fs (fun f hf => ?_)
    obtain ⟨j, hj, rfl⟩ := List.mem_iff_getElem.1 hf
    obtain ⟨x, _, hx⟩ := g4 j _ (List.getElem?_eq_getElem hj)
    obtain ⟨_, hs, _⟩ := fi1_spec hx
    simp only [Sem.run_bind, run_sizeOf (w := w) hs, hs, Result.andThen_ok, Sem.run_pure, Option.getD_some]
  have hpl : (fun (i : Nat) => ((fs.toList.map fun f => (f.offset, (szAt P f.type).getD 0)).toArray)[i]?) = fun i => (ti.flds[i]?).map fun (f : FI) => (f.off, f.sz) := by
    funext j
    simp only [List.getElem?_toArray, List.getElem?_map]
    cases hj : fs.toList[j]? with
    | none =>
      have : ti.flds[j]? = none := by
        rw [List.getElem?_eq_none_iff] at hj ⊢
        omega
      simp [this]
    | some f =>
      obtain ⟨x, hx1, hx2⟩ := g4 j f hj
      obtain ⟨hx3, hx4, _⟩ := fi1_spec hx2
      simp [hx1, hx3, hx4]
  have hz0 : RelA w F L (ti.zero.map .lit) z.cells.toList := h7 ▸ RelA.lits _
  obtain ⟨c', e1, e2, _⟩ := s_fill hr _ l.toList _ z.cells cs hz0 hf
  refine ⟨.agg c', ?_, .aggA e2⟩
  have hmap : (l.map fun (i, x) => (i, ev x)).toList = l.toList.map fun (i, x) => (i, ev x) := by simp
  simp only [Instr.build, Sem.run_bind, run_zero h1 h3, Result.andThen_ok, run_underlying g1, hplaces, hmap]
  rw [hpl, e1]
  rfl
theorem s_buildArr {t e : TypeId} {n es : Nat} {ti : TI} (ht : tiOf P t = some ti) (hk : ti.k = .arr n e) (hs : szAt P e = some es) {ρ : Operand → PV} {ev : Operand → Value} (hr : ∀ x, Rel w F L (ρ x) (ev x))
    (l : Array (Nat × Operand)) {cs : List PV}
    (hf : fillL (fun i => some (i * es, es)) (ti.zero.map .lit) (l.toList.map fun (i, x) => (i, ρ x)) = some cs) :
    ∃ u, (Instr.build t (l.map fun (i, x) => (i, ev x))).run P w = .ok u w ∧ Rel w F L (.agg cs) u := by
  obtain ⟨i, d, z, h1, h2, h3, h4, h5, _, h7, h8⟩ := tiOf_spec ht
  have hd : P.underlying t = some (.array n e) := tkAt_arr (by simp [tkAt, h2, ← h4, hk])
  have hz0 : RelA w F L (ti.zero.map .lit) z.cells.toList := h7 ▸ RelA.lits _
  obtain ⟨c', e1, e2, _⟩ := s_fill hr _ l.toList _ z.cells cs hz0 hf
  refine ⟨.agg c', ?_, .aggA e2⟩
  have hmap : (l.map fun (i, x) => (i, ev x)).toList = l.toList.map fun (i, x) => (i, ev x) := by simp
  simp only [Instr.build, Sem.run_bind, run_zero h1 h3, Result.andThen_ok, run_underlying hd, run_sizeOf (w := w) hs, hmap]
  rw [e1]
  rfl
theorem repL_get {α : Type} [Inhabited α] (zs : List α) : ∀ (n j : Nat), (repL n zs)[j]? = if j < n * zs.length then zs[j % zs.length]? else none
  | 0, j => by simp [repL]
  | n + 1, j => by
    have ih := repL_get zs n
    unfold repL at *
    rw [List.replicate_succ, List.flatten_cons, List.getElem?_append]
    by_cases h : j < zs.length
    · have : j < (n + 1) * zs.length := by
        rw [Nat.add_mul]; omega
      simp [h, this, Nat.mod_eq_of_lt h]
    · simp only [h, if_false, ih]
      have hpos : zs.length = 0 ∨ 0 < zs.length := by omega
      rcases hpos with h0 | h0
      · simp [h0]
      · rw [show j % zs.length = (j - zs.length) % zs.length by rw [← Nat.mod_eq_sub_mod (by omega)]]
        have : (j - zs.length < n * zs.length) ↔ (j < (n + 1) * zs.length) := by rw [Nat.add_mul]; omega
        simp [this]
theorem madeCells_toList (z : Array Value) (n : Nat) : (madeCells z (n * z.size)).toList = repL n z.toList := by
  apply List.ext_getElem?
  intro j
  rw [repL_get, Array.getElem?_toList]
  simp only [Array.length_toList]
  by_cases hj : j < n * z.size
  · have hpos : 0 < z.size := by
      rcases Nat.eq_zero_or_pos z.size with h | h
      · rw [h] at hj; simp at hj
      · exact h
    have hm : j % z.size < z.size := Nat.mod_lt _ hpos
    simp [madeCells, hj, hm]
  · simp [madeCells, hj]
theorem repL_map {α β : Type} (f : α → β) (n : Nat) (zs : List α) : repL n (zs.map f) = (repL n zs).map f := by
  induction n with
  | zero => rfl
  | succ n ih => simp only [repL, List.replicate_succ, List.flatten_cons, List.map_append] at *; rw [ih]
theorem repL_length {α : Type} (n : Nat) (zs : List α) : (repL n zs).length = n * zs.length := by simp [repL]
theorem s_buildSlice {t e : TypeId} {te : TI} (hi : Inv w S L F K) (s len : Nat) (hk : tkAt P t = some (.slice e)) (ht : tiOf P e = some te) (hlen : len * te.size ≤ 16777216) (hz : te.zero.length = te.size)
    {ρ : Operand → PV} {ev : Operand → Value} (hr : ∀ x, Rel w F L (ρ x) (ev x)) (l : Array (Nat × Operand)) {cs : List PV}
    (hf : fillL (fun i => some (i * te.size, te.size)) (repL len (te.zero.map .lit)) (l.toList.map fun (i, x) => (i, ρ x)) = some cs) :
    ∃ w' L' u, (Instr.buildSlice t len (l.map fun (i, x) => (i, ev x))).run P w = .ok u w' ∧ Rel w' F L' (.loc (S.next s) 0 len) u ∧ Inv w' (S.add s ⟨cs, te.size, false⟩) L' F K ∧ Ext w F L K w' F L' := by
  obtain ⟨i, d, z, h1, h2, h3, h4, h5, _, h7, h8⟩ := tiOf_spec ht
  have hzs : z.cells.size = te.size := by rw [← hz, h7]; simp
  have hmade : ((if len * te.size = 0 then (pure #[] : Sem (Array Value)) else do pure (← zeroValue e).cells).run P w).andThen
      (fun zero w => (.ok ((Array.range (len * te.size)).map (zero[· % zero.size]!)) w : Result (Array Value))) = .ok (madeCells z.cells (len * te.size)) w := by
    by_cases h0 : len * te.size = 0
    · simp [h0, madeCells, Array.range_zero']
    · simp [h0, run_zero h1 h3, madeCells]
  have hrel : RelA w F L (repL len (te.zero.map .lit)) (madeCells z.cells (len * te.size)).toList := by
    rw [← hzs, madeCells_toList, repL_map, h7]
    exact RelA.lits _
  obtain ⟨c', e1, e2, e3⟩ := s_fill hr _ l.toList _ _ cs hrel hf
  obtain ⟨w', L', g1, g2, g3, g4⟩ := s_new (P := P) hi s te.size e2 e
  have hcl : cs.length = len * te.size := by rw [e3, repL_length]; simp [hz]
  refine ⟨w', L', _, ?_, .loc len 0 g2 (Nat.le_refl _) (.inl rfl) (by simp [hcl]), g3, g4⟩
  have hmap : (l.map fun (i, x) => (i, ev x)).toList = l.toList.map fun (i, x) => (i, ev x) := by simp
  have hbig : ¬ (len * te.size > 2 ^ 24) := by omega
  simp only [Instr.buildSlice, Sem.run_bind, run_underlying (tkAt_slice hk), Result.andThen_ok, run_sizeOf (w := w) (tiOf_szAt ht), hbig, if_false, hmap]
  by_cases h0 : len * te.size = 0
  · simp only [h0, if_true, Sem.run_bind, Sem.run_pure, Result.andThen_ok]
    have : (Array.range 0).map (fun x => (#[] : Array Value)[x % (#[] : Array Value).size]!) = madeCells z.cells (len * te.size) := by simp [h0, madeCells, Array.range_zero']
    rw [this, e1]
    simp only [Array.toArray_toList] at g1
    simp [g1]
  · simp only [h0, if_false, Sem.run_bind, run_zero h1 h3, Result.andThen_ok, Sem.run_pure]
    have : (Array.range (len * te.size)).map (fun x => z.cells[x % z.cells.size]!) = madeCells z.cells (len * te.size) := rfl
    rw [this, e1]
    simp only [Array.toArray_toList] at g1
    simp [g1]
theorem s_makeSlice {t e : TypeId} {te : TI} (hi : Inv w S L F K) (s : Nat) (kl kc : IntKind) {n m : Int} (hk : tkAt P t = some (.slice e)) (ht : tiOf P e = some te)
    (h0 : 0 ≤ n) (hnm : n ≤ m) (hm : m ≤ maxMake) (hb : m.toNat * te.bytes ≤ maxMake) (hz : te.zero.length = te.size) :
    ∃ w' L' u, (Instr.makeSlice t (.int kl n) (.int kc m)).run P w = .ok u w' ∧ Rel w' F L' (.loc (S.next s) 0 n.toNat) u ∧
      Inv w' (S.add s ⟨repL n.toNat (te.zero.map .lit), te.size, false⟩) L' F K ∧ Ext w F L K w' F L' := by
  obtain ⟨i, d, z, h1, h2, h3, h4, h5, h6, h7, h8⟩ := tiOf_spec ht
  have hzs : z.cells.size = te.size := by rw [← hz, h7]; simp
  have hb' : (i.bytes : Int) * m ≤ 281474976710656 := by
    have hm0 : ((m.toNat : Nat) : Int) = m := by omega
    have : ((m.toNat * te.bytes : Nat) : Int) ≤ 281474976710656 := by
      have := hb
      unfold maxMake at this
      omega
    rw [Int.natCast_mul, hm0, h6] at this
    rw [Int.mul_comm]
    omega
  have hr := run_make (P := P) w t e i z (tkAt_slice hk) h1 h3 kl kc n m h0 hnm hb' (by unfold maxMake at hm; omega)
  have hsz : i.size = z.cells.size := by omega
  rw [hsz] at hr
  have hcs : (madeCells z.cells (m.toNat * z.cells.size)).toList = repL m.toNat te.zero := by rw [madeCells_toList, h7]
  have hnm' : n.toNat ≤ m.toNat := by omega
  have hpre : ∀ (j : Nat) u, (repL n.toNat te.zero)[j]? = some u → (madeCells z.cells (m.toNat * z.cells.size))[j]? = some u := by
    intro j u hu
    rw [← Array.getElem?_toList, hcs]
    rw [repL_get] at hu ⊢
    split at hu
    · rename_i hj
      rw [if_pos (Nat.lt_of_lt_of_le hj (Nat.mul_le_mul_right _ hnm'))]; exact hu
    · cases hu
  have hlen : (repL n.toNat (te.zero.map PV.lit)).length ≤ (madeCells z.cells (m.toNat * z.cells.size)).size := by
    rw [repL_length, size_madeCells, List.length_map, hz, ← hzs]
    exact Nat.mul_le_mul_right _ hnm'
  obtain ⟨g1, g2⟩ := hi.add s te.size (repL n.toNat (te.zero.map .lit)) (repL n.toNat te.zero) (madeCells z.cells (m.toNat * z.cells.size)) e
    (w' := w.alloc (.cells (madeCells z.cells (m.toNat * z.cells.size)) e)) rfl rfl rfl rfl (by rw [repL_map]; exact RelA.lits _) hlen hpre
  refine ⟨_, _, _, hr, .loc m.toNat 0 (upd_same _ _ _) hnm' (.inl rfl) ?_, g1, g2⟩
  simp [size_madeCells, hzs]
theorem int?_rel {p : PV} {v : Value} {n : Int} (hr : Rel w F L p v) (h : p.int? = some n) : ∃ k, v = .int k n := by
  cases hr with
  | lit v =>
    cases v <;> simp [PV.int?] at h
    subst h; exact ⟨_, rfl⟩
  | sl => simp [PV.int?] at h
  | wild => simp [PV.int?] at h
  | agg => simp [PV.int?] at h
  | tup => simp [PV.int?] at h
  | fel => simp [PV.int?] at h
  | loc => simp [PV.int?] at h
  | ptr => simp [PV.int?] at h
  | fn => simp [PV.int?] at h
theorem run_lo {ρ : Operand → PV} {ev : Operand → Value} (hr : ∀ x, Rel w F L (ρ x) (ev x)) {lo : Option Operand} {l : Int} (h : boundFn 0 (lo.map ρ) = some l) (h0 : 0 ≤ l) {y : Nat} (hy : l ≤ y) (code : BoundsCode) :
    (match lo.map ev with | some v => Instr.sliceBound v y code | none => pure 0 : Sem Nat).run P w = .ok l.toNat w := by
  cases lo with
  | none => obtain rfl : 0 = l := by simpa [boundFn] using h
            rfl
  | some x =>
    obtain ⟨k, hk⟩ := int?_rel (hr x) (by simpa [boundFn] using h)
    simp only [Option.map_some, hk]
    exact run_sliceBound (P := P) (w := w) k l y code h0 hy
theorem run_hi {ρ : Operand → PV} {ev : Operand → Value} (hr : ∀ x, Rel w F L (ρ x) (ev x)) {hi : Option Operand} {n : Nat} {l : Int} (h : boundFn n (hi.map ρ) = some l) (h0 : 0 ≤ l) {y : Nat} (hy : l ≤ y) (code : BoundsCode) :
    (match hi.map ev with | some v => Instr.sliceBound v y code | none => pure n : Sem Nat).run P w = .ok l.toNat w := by
  cases hi with
  | none => obtain rfl : (n : Int) = l := by simpa [boundFn] using h
            rfl
  | some x =>
    obtain ⟨k, hk⟩ := int?_rel (hr x) (by simpa [boundFn] using h)
    simp only [Option.map_some, hk]
    exact run_sliceBound (P := P) (w := w) k l y code h0 hy
theorem run_bounds (isS : Bool) {ρ : Operand → PV} {ev : Operand → Value} (hr : ∀ x, Rel w F L (ρ x) (ev x)) {lo hi : Option Operand} {n cap : Nat} {l h : Int}
    (h1 : boundFn 0 (lo.map ρ) = some l) (h2 : boundFn n (hi.map ρ) = some h) (h0 : 0 ≤ l) (hlh : l ≤ h) (hn : h ≤ n) (hc : n ≤ cap) :
    (Instr.sliceBounds isS n cap (lo.map ev) (hi.map ev) none).run P w = .ok (l.toNat, h.toNat, cap) w := by
  have e1 := run_hi (P := P) hr h2 (by omega) (y := cap) (by omega) (if isS then .sliceAcap else .sliceAlen)
  have e2 := run_lo (P := P) hr h1 h0 (y := h.toNat) (by omega) .sliceB
  unfold Instr.sliceBounds
  cases hh : hi.map ev with
  | none =>
    simp only [hh] at e1
    cases hl : lo.map ev with
    | none => simp only [hl] at e2; simp_all
    | some v => simp only [hl] at e2; simp_all
  | some u =>
    simp only [hh] at e1
    cases hl : lo.map ev with
    | none => simp only [hl] at e2; simp_all
    | some v => simp only [hl] at e2; simp_all
theorem s_slice {t e : TypeId} {es n : Nat} (hi : Inv w S L F K) (hk : tkAt P t = some (.slice e)) (hs : szAt P e = some es) {ρ : Operand → PV} {ev : Operand → Value} (hr : ∀ x, Rel w F L (ρ x) (ev x))
    {x : Operand} (hn : (ρ x).len? = some n) {lo hi' : Option Operand} {l h : Int} (h1 : boundFn 0 (lo.map ρ) = some l) (h2 : boundFn n (hi'.map ρ) = some h) (h0 : 0 ≤ l) (hlh : l ≤ h) (hhn : h ≤ n)
    {q : PV} (hq : S.part (ρ x) es l.toNat h.toNat = some q) :
    ∃ u, (Instr.sliceAt t (ev x) (lo.map ev) (hi'.map ev) none).run P w = .ok u w ∧ Rel w F L q u := by
  have hu := tkAt_slice hk
  have key : ∀ (a : Option Addr) (cap : Nat), ev x = .slice a n cap → n ≤ cap →
      (Instr.sliceAt t (ev x) (lo.map ev) (hi'.map ev) none).run P w = .ok (.slice (if cap = l.toNat then a else a.map (·.add (l.toNat * es))) (h.toNat - l.toNat) (cap - l.toNat)) w := by
    intro a cap he hc
    have hb := run_bounds (P := P) true hr h1 h2 h0 hlh hhn hc
    rw [he]
    simp only [Instr.sliceAt, Instr.slice, Sem.run_bind, run_underlying hu, Result.andThen_ok, hb, run_sizeOf (w := w) hs, Sem.run_pure]
  have hx := hr x
  generalize hp : ρ x = p at hx hn hq
  generalize hv : ev x = v at hx
  cases hx with
  | lit v =>
    cases v with
    | slice a n' c =>
      cases a with
      | none =>
        obtain rfl : n' = n := by simpa [PV.len?] using hn
        simp only [Sto.part] at hq
        split at hq
        · rename_i hc
          obtain ⟨c1, c2, c3⟩ := hc
          obtain rfl := Option.some.inj hq
          rw [← hv, key none c hv c2]
          have e1 : l.toNat = 0 := by omega
          have e2 : h.toNat = 0 := by omega
          subst c3
          refine ⟨_, rfl, ?_⟩
          rw [e1, e2]
          exact .lit _
        · cases hq
      | some a => simp [PV.len?] at hn
    | _ => simp [PV.len?] at hn
  | @sl cs n' b base cap vs hF hnc hsz hc hrr =>
    obtain rfl : n' = n := by simpa [PV.len?] using hn
    simp only [Sto.part] at hq
    split at hq
    · obtain rfl := Option.some.inj hq
      rw [← hv, key _ cap hv hnc]
      have hA : RelA w F L cs vs := ⟨hsz, hrr⟩
      by_cases hcl : cap = l.toNat
      · refine ⟨_, rfl, ?_⟩
        have e1 : h.toNat - l.toNat = 0 := by omega
        simp only [hcl, if_true, e1, Nat.sub_self, Nat.zero_mul, List.take_zero]
        exact .slA hF (Nat.le_refl _) .nil (fun j u hu => by simp at hu)
      · refine ⟨_, rfl, ?_⟩
        simp only [hcl, if_false, Option.map_some, addr_add]
        exact .slA hF (by omega) ((hA.drop _).take _) ((HCells.drop hc _).take _)
    · cases hq
  | wild a =>
    obtain rfl : 0 = n := by simpa [PV.len?] using hn
    simp only [Sto.part] at hq
    split at hq
    · obtain rfl := Option.some.inj hq
      rw [← hv, key _ 0 hv (Nat.le_refl _)]
      have e1 : l.toNat = 0 := by omega
      have e2 : h.toNat = 0 := by omega
      rw [e1, e2]
      refine ⟨_, rfl, ?_⟩
      simp only [List.drop_nil, List.take_nil, Nat.sub_self, if_true, Nat.zero_mul]
      exact .wild _
    · cases hq
  | @loc i off n' ℓ cap o hL hnc ho hc =>
    obtain rfl : n' = n := by simpa [PV.len?] using hn
    simp only [Sto.part] at hq
    split at hq
    · rename_i ob hob
      split at hq
      · rename_i hcc
        obtain ⟨c1, c2, c3⟩ := hcc
        obtain rfl := Option.some.inj hq
        rw [← hv, key _ cap hv hnc]
        obtain ⟨ℓ', c', e', hL', hes, _⟩ := hi.live i ob hob
        obtain rfl := Option.some.inj (hL'.symm.trans hL)
        have hes' : ℓ'.es = es := by omega
        by_cases hcl : cap = l.toNat
        · refine ⟨_, rfl, ?_⟩
          have e1 : h.toNat - l.toNat = 0 := by omega
          simp only [hcl, if_true, e1, Nat.sub_self]
          refine .loc 0 o hL (Nat.le_refl _) (.inr rfl) ?_
          rw [hes', hcl] at hc
          omega
        · refine ⟨_, rfl, ?_⟩
          simp only [hcl, if_false, Option.map_some, addr_add]
          refine .loc _ _ hL (by omega) ?_ ?_
          · rcases ho with ho | ho
            · left; omega
            · omega
          · rw [hes'] at hc ⊢
            have : cap * es = l.toNat * es + (cap - l.toNat) * es := by rw [← Nat.add_mul]; congr 1; omega
            omega
      · cases hq
    · cases hq
  | agg => simp [PV.len?] at hn
  | tup => simp [PV.len?] at hn
  | fel => simp [PV.len?] at hn
  | ptr => simp [PV.len?] at hn
  | fn => simp [PV.len?] at hn
theorem s_sliceStr {t : TypeId} (hk : tkAt P t = some .str) {ρ : Operand → PV} {ev : Operand → Value} (hr : ∀ x, Rel w F L (ρ x) (ev x)) {b : ByteArray} {v : Value} (hv : v = .string b)
    {lo hi' : Option Operand} {l h : Int} (h1 : boundFn 0 (lo.map ρ) = some l) (h2 : boundFn b.size (hi'.map ρ) = some h) (h0 : 0 ≤ l) (hlh : l ≤ h) (hhn : h ≤ b.size) :
    (Instr.sliceAt t v (lo.map ev) (hi'.map ev) none).run P w = .ok (.string (b.extract l.toNat h.toNat)) w := by
  subst hv
  have hb := run_bounds (P := P) false hr h1 h2 h0 hlh hhn (Nat.le_refl _)
  simp [Instr.sliceAt, Instr.slice, run_underlying (tkAt_str hk), hb]
theorem step_rel {p q : PV} {v : Value} {j : Nat} (hr : Rel w F L p v) (h : p.step j = some q) : ∃ b o, v = .pointer (some ⟨b, o, none⟩) ∧ Rel w F L q (.pointer (some ⟨b, o + j, none⟩)) := by
  cases hr with
  | @fel cs b base vs hF hs hc hrr =>
    obtain rfl : PV.fel (cs.drop j) = q := by simpa [PV.step] using h
    exact ⟨b, base, rfl, .felA hF (RelA.drop ⟨hs, hrr⟩ j) (HCells.drop hc j)⟩
  | @ptr i off ℓ hL =>
    obtain rfl : PV.ptr i (off + j) = q := by simpa [PV.step] using h
    refine ⟨_, _, rfl, ?_⟩
    rw [Nat.add_assoc]
    exact .ptr hL
  | lit => simp [PV.step] at h
  | sl => simp [PV.step] at h
  | wild => simp [PV.step] at h
  | agg => simp [PV.step] at h
  | tup => simp [PV.step] at h
  | loc => simp [PV.step] at h
  | fn => simp [PV.step] at h
theorem elem_rel {p q : PV} {v : Value} {n j es : Nat} (hr : Rel w F L p v) (hn : p.len? = some n) (hj : j < n) (h : p.elem (j * es) = some q) :
    ∃ b o cap, v = .slice (some ⟨b, o, none⟩) n cap ∧ Rel w F L q (.pointer (some ⟨b, o + j * es, none⟩)) := by
  cases hr with
  | @sl cs n' b base cap vs hF hnc hs hc hrr =>
    obtain rfl : n' = n := by simpa [PV.len?] using hn
    obtain rfl : PV.fel (cs.drop (j * es)) = q := by simpa [PV.elem] using h
    exact ⟨b, base, cap, rfl, .felA hF (RelA.drop ⟨hs, hrr⟩ _) (HCells.drop hc _)⟩
  | wild a =>
    obtain rfl : 0 = n := by simpa [PV.len?] using hn
    exact absurd hj (by omega)
  | @loc i off n' ℓ cap o hL hnc ho hc =>
    obtain rfl : n' = n := by simpa [PV.len?] using hn
    obtain rfl : PV.ptr i (off + j * es) = q := by simpa [PV.elem] using h
    have ho' : o = ℓ.base + off := by
      rcases ho with ho | ho
      · exact ho
      · omega
    subst ho'
    refine ⟨_, _, cap, rfl, ?_⟩
    rw [Nat.add_assoc]
    exact .ptr hL
  | lit => simp [PV.elem] at h
  | fel => simp [PV.elem] at h
  | agg => simp [PV.elem] at h
  | tup => simp [PV.elem] at h
  | ptr => simp [PV.elem] at h
  | fn => simp [PV.elem] at h
theorem s_indexAddr {t e : TypeId} {es n : Nat} (hk : tkAt P t = some (.slice e)) (hs : szAt P e = some es) {p q : PV} {v u : Value} (hr : Rel w F L p v) (hn : p.len? = some n)
    {k : IntKind} {j : Int} (hu : u = .int k j) (h0 : 0 ≤ j) (hj : j < n) (h : p.elem (j.toNat * es) = some q) : ∃ x, (Instr.indexAt t v u).run P w = .ok x w ∧ Rel w F L q x := by
  obtain ⟨b, o, cap, rfl, hq⟩ := elem_rel hr hn (by omega) h
  subst hu
  refine ⟨_, ?_, hq⟩
  simp [Instr.indexAt, asIntOf, run_underlying (tkAt_slice hk), h0, hj, run_sizeOf (w := w) hs, addr_add]
theorem s_indexArr {t e : TypeId} {es n : Nat} (hk : tkAt P t = some (.arr n e)) (hs : szAt P e = some es) {p q : PV} {v u : Value} (hr : Rel w F L p v)
    {k : IntKind} {j : Int} (hu : u = .int k j) (h0 : 0 ≤ j) (hj : j < n) (h : p.step (j.toNat * es) = some q) : ∃ x, (Instr.indexAt t v u).run P w = .ok x w ∧ Rel w F L q x := by
  obtain ⟨b, o, rfl, hq⟩ := step_rel hr h
  subst hu
  refine ⟨_, ?_, hq⟩
  simp [Instr.indexAt, Instr.sureAddr, asIntOf, run_underlying (tkAt_arr hk), h0, hj, run_sizeOf (w := w) hs, addr_add]
theorem fld_of {t : TypeId} {ti : TI} (ht : tiOf P t = some ti) (hk : ti.k = .strct) {f : Nat} {fi : FI} (hf : ti.flds[f]? = some fi) :
    ∃ fs fl, P.underlying t = some (.struct fs) ∧ fs[f]? = some fl ∧ fi.off = fl.offset ∧ szAt P fl.type = some fi.sz ∧ ∃ d, P.underlying fl.type = some d ∧ fi.k = tkOf d := by
  obtain ⟨fs, g1, g2⟩ := tiOf_struct ht hk
  obtain ⟨g3, g4⟩ := fldL_spec _ _ g2
  have hlt : f < fs.toList.length := by
    rw [← g3]
    rcases Nat.lt_or_ge f ti.flds.length with h | h
    · exact h
    · rw [List.getElem?_eq_none h] at hf; cases hf
  obtain ⟨x, hx, hy⟩ := g4 f _ (List.getElem?_eq_getElem hlt)
  obtain rfl : x = fi := by rw [hx] at hf; exact Option.some.inj hf
  obtain ⟨a1, a2, a3⟩ := fi1_spec hy
  exact ⟨fs, _, g1, by simp, a1, a2, a3⟩
theorem s_fieldAddr {t : TypeId} {ti : TI} (ht : tiOf P t = some ti) (hk : ti.k = .strct) {f : Nat} {fi : FI} (hf : ti.flds[f]? = some fi) (hz : fi.sz ≠ 0) {p q : PV} {v : Value} (hr : Rel w F L p v)
    (h : p.step fi.off = some q) : ∃ x, (Instr.fieldAt t v f).run P w = .ok x w ∧ Rel w F L q x := by
  obtain ⟨fs, fl, g1, g2, g3, g4, _⟩ := fld_of ht hk hf
  obtain ⟨b, o, rfl, hq⟩ := step_rel hr h
  refine ⟨_, ?_, hq⟩
  simp [Instr.fieldAt, Instr.sureAddr, run_underlying g1, g2, fieldPlace, run_sizeOf (w := w) g4, hz, addr_add, g3]
theorem aggCells_rel {p : PV} {v : Value} {cs : List PV} (hr : Rel w F L p v) (h : aggCells p = some cs) : ∃ vs : Array Value, v = .agg vs ∧ RelA w F L cs vs.toList := by
  cases hr with
  | @agg cs' vs hs hrr =>
    obtain rfl : cs' = cs := by simpa [aggCells] using h
    exact ⟨vs, rfl, hs, hrr⟩
  | lit v =>
    cases v <;> simp [aggCells] at h
    subst h
    exact ⟨_, rfl, RelA.lits _⟩
  | sl => simp [aggCells] at h
  | wild => simp [aggCells] at h
  | tup => simp [aggCells] at h
  | fel => simp [aggCells] at h
  | loc => simp [aggCells] at h
  | ptr => simp [aggCells] at h
  | fn => simp [aggCells] at h
theorem s_part {t : TypeId} {sz : Nat} {d : TypeDesc} (hs : szAt P t = some sz) (hd : P.underlying t = some d) {cs : List PV} {vs : Array Value} (hA : RelA w F L cs vs.toList) (off : Nat) {q : PV}
    (h : (if (tkOf d).agg then (if off + sz ≤ cs.length then some (.agg ((cs.drop off).take sz)) else none) else cs[off]?) = some q) :
    ∃ x, (part t vs off).run P w = .ok x w ∧ Rel w F L q x := by
  simp only [part, Sem.run_bind, run_isAgg (w := w) hd, Result.andThen_ok]
  split at h
  · rename_i hg
    split at h
    · obtain rfl := Option.some.inj h
      refine ⟨.agg (vs.extract off (off + sz)), by simp [hg, run_sizeOf (w := w) hs], .aggA ?_⟩
      have : (vs.extract off (off + sz)).toList = (vs.toList.drop off).take sz := by
        rw [Array.toList_extract]
        simp [List.extract_eq_take_drop]
      rw [this]
      exact (hA.drop _).take _
    · cases h
  · rename_i hg
    have hlt : off < vs.size := by
      have := hA.1
      rcases Nat.lt_or_ge off cs.length with h' | h'
      · simp at this; omega
      · rw [List.getElem?_eq_none h'] at h; cases h
    refine ⟨vs[off], ?_, hA.2 off q _ h (by simp)⟩
    simp [hg, hlt]
theorem s_field {t : TypeId} {ti : TI} (ht : tiOf P t = some ti) (hk : ti.k = .strct) {f : Nat} {fi : FI} (hf : ti.flds[f]? = some fi) {p q : PV} {v : Value} (hr : Rel w F L p v) {cs : List PV} (hc : aggCells p = some cs)
    (h : (if fi.k.agg then (if fi.off + fi.sz ≤ cs.length then some (.agg ((cs.drop fi.off).take fi.sz)) else none) else cs[fi.off]?) = some q) :
    ∃ x, (Instr.field t v f).run P w = .ok x w ∧ Rel w F L q x := by
  obtain ⟨fs, fl, g1, g2, g3, g4, d, g5, g6⟩ := fld_of ht hk hf
  obtain ⟨vs, rfl, hA⟩ := aggCells_rel hr hc
  rw [g6, g3] at h
  obtain ⟨x, e1, e2⟩ := s_part (P := P) g4 g5 hA fl.offset h
  exact ⟨x, by simp [Instr.field, run_underlying g1, g2, asAgg, e1], e2⟩
theorem s_index {t e : TypeId} {n : Nat} {te : TI} (hk : tkAt P t = some (.arr n e)) (ht : tiOf P e = some te) {p q : PV} {v u : Value} (hr : Rel w F L p v) {cs : List PV} (hc : aggCells p = some cs)
    {k : IntKind} {j : Int} (hu : u = .int k j) (h0 : 0 ≤ j) (hj : j < n)
    (h : (if te.k.agg then (if j.toNat * te.size + te.size ≤ cs.length then some (.agg ((cs.drop (j.toNat * te.size)).take te.size)) else none) else cs[j.toNat * te.size]?) = some q) :
    ∃ x, (Instr.index t v u).run P w = .ok x w ∧ Rel w F L q x := by
  obtain ⟨i, d, z, h1, h2, h3, h4, h5, _⟩ := tiOf_spec ht
  obtain ⟨vs, rfl, hA⟩ := aggCells_rel hr hc
  subst hu
  rw [h4] at h
  obtain ⟨x, e1, e2⟩ := s_part (P := P) (tiOf_szAt ht) h2 hA (j.toNat * te.size) h
  exact ⟨x, by simp [Instr.index, asIntOf, run_underlying (tkAt_arr hk), h0, hj, run_sizeOf (w := w) (tiOf_szAt ht), e1], e2⟩
theorem s_intBin {op : BinOp} {k k' : IntKind} {a b : Int} {u : Value} (h : intBin op k a k' b = some u) (t : TypeId) : (binOp op t (.int k a) (.int k' b)).run P w = .ok u w := by
  cases op <;> simp only [intBin] at h <;> (repeat' split at h) <;> first | (cases h; done) | skip
  all_goals (obtain rfl := Option.some.inj h; simp_all [binOp, Op.shift, Op.intArith, Op.intDiv, Op.intBits, Op.intCmp])
  all_goals (intro hneg; omega)
theorem s_strBin {op : BinOp} {a b : ByteArray} {u : Value} (h : strBin op a b = some u) (t : TypeId) : (binOp op t (.string a) (.string b)).run P w = .ok u w := by
  cases op <;> simp only [strBin] at h <;> (repeat' split at h) <;> first | (cases h; done) | skip
  all_goals (obtain rfl := Option.some.inj h)
  all_goals simp only [binOp, Op.stringOp]
  all_goals first
    | rfl
    | (rename_i hc
       rw [if_neg (by
         have : IntKind.i64.max = 9223372036854775807 := by decide
         rw [this]; omega)]
       rfl)
theorem rowOf_rel (hi : Inv w S L F K) {p : PV} {v : Value} (hr : Rel w F L p v) {m es : Nat} {ys : List PV} (hm : p.len? = some m) (hy : S.rowOf es p = some ys) :
    ∃ vs, RelA w F L ys vs ∧ vs.length = m * es ∧ ((∃ a c, v = .slice a m c ∧ m = 0) ∨ ∃ b o cap, v = .slice (some ⟨b, o, none⟩) m cap ∧ HCells w b o vs) := by
  cases hr with
  | lit v =>
    cases v with
    | slice a n c =>
      cases a with
      | none =>
        obtain rfl : n = m := by simpa [PV.len?] using hm
        cases n with
        | zero =>
          obtain rfl : [] = ys := by simpa [Sto.rowOf] using hy
          exact ⟨[], .nil, by simp, .inl ⟨_, c, rfl, rfl⟩⟩
        | succ n => simp [Sto.rowOf] at hy
      | some a => simp [PV.len?] at hm
    | _ => simp [PV.len?] at hm
  | @sl cs n b base cap vs hF hnc hs hc hrr =>
    obtain rfl : n = m := by simpa [PV.len?] using hm
    simp only [Sto.rowOf] at hy
    split at hy
    · rename_i hl
      obtain rfl := Option.some.inj hy
      have hA : RelA w F L cs vs := ⟨hs, hrr⟩
      exact ⟨_, hA.take _, by simp; omega, .inr ⟨b, base, cap, rfl, HCells.take hc _⟩⟩
    · cases hy
  | wild a =>
    obtain rfl : 0 = m := by simpa [PV.len?] using hm
    simp only [Sto.rowOf] at hy
    split at hy
    · obtain rfl := Option.some.inj hy
      exact ⟨[], by simpa using RelA.nil, by simp, .inl ⟨_, 0, rfl, rfl⟩⟩
    · cases hy
  | @loc i off n ℓ cap o hL hnc ho hc =>
    obtain rfl : n = m := by simpa [PV.len?] using hm
    simp only [Sto.rowOf] at hy
    split at hy
    · rename_i ob hob
      split at hy
      · rename_i hl
        obtain rfl := Option.some.inj hy
        obtain ⟨ℓ', c, e, hL', _, hb, _, _, ⟨vs, hvs, hcv⟩, _⟩ := hi.live i ob hob
        obtain rfl := Option.some.inj (hL'.symm.trans hL)
        refine ⟨_, (hvs.drop off).take _, by have := hvs.1; simp; omega, .inr ⟨_, o, cap, rfl, ?_⟩⟩
        rcases ho with rfl | ho
        · exact ((HCells.of hb hcv).drop off).take _
        · obtain rfl : n = 0 := by omega
          intro j u hu
          simp at hu
      · cases hy
    · cases hy
  | agg => simp [PV.len?] at hm
  | tup => simp [PV.len?] at hm
  | fel => simp [PV.len?] at hm
  | ptr => simp [PV.len?] at hm
  | fn => simp [PV.len?] at hm
theorem del_obj {S : Sto} {i j : Id} {q : Obj} (h : (S.del i).obj j = some q) : S.obj j = some q ∧ j ≠ i := by
  simp only [Sto.del, upd] at h
  split at h
  · cases h
  · rename_i hne; exact ⟨h, hne⟩
theorem Inv.rename (hi : Inv w S L F K) {i : Id} {o : Obj} (ho : S.obj i = some o) (hz : o.frz = false) {ℓ : Loc} (hl : L i = some ℓ) (s off : Nat) (hoff : off ≤ o.cells.length) :
    let L' := upd L (S.next s) (some ⟨ℓ.b, ℓ.base + off, ℓ.es, ℓ.sz⟩)
    Inv w ((S.del i).add s ⟨o.cells.drop off, o.es, false⟩) L' F K ∧ Ext w F L K w F L' := by
  intro L'
  have hfresh : L (S.next s) = none := hi.fresh _ (Nat.le_refl _)
  have hL' : ∀ i ℓ, L i = some ℓ → L' i = some ℓ := fun i ℓ h => by
    have : i ≠ S.next s := fun e => by rw [e, hfresh] at h; cases h
    rw [show L' i = L i from upd_ne L _ this]; exact h
  have hx : Ext w F L K w F L' := ⟨rfl, rfl, rfl, Nat.le_refl _, fun _ h => h, fun _ _ => rfl, hL', fun _ h => .inl h, fun j m h => by
    by_cases e : j = S.next s
    · subst e
      rw [show L' (S.next s) = some ⟨ℓ.b, ℓ.base + off, ℓ.es, ℓ.sz⟩ from upd_same _ _ _] at h
      obtain rfl := Option.some.inj h
      exact .inr ⟨i, ℓ, hl, rfl⟩
    · exact .inr ⟨j, m, (upd_ne L _ e).symm.trans h, rfl⟩, Nat.le_refl _⟩
  have hobj : ∀ j, ((S.del i).add s ⟨o.cells.drop off, o.es, false⟩).obj j = if j = S.next s then some ⟨o.cells.drop off, o.es, false⟩ else (S.del i).obj j := fun j => by
    simp only [Sto.add, upd]; rfl
  obtain ⟨ℓ', c, e, hl', hes, hb, hsz, hlen, ⟨vs, hvs, hcv⟩, _, hown⟩ := hi.live i o ho
  obtain rfl := Option.some.inj (hl'.symm.trans hl)
  have hself : L' (S.next s) = some ⟨ℓ'.b, ℓ'.base + off, ℓ'.es, ℓ'.sz⟩ := upd_same _ _ _
  have e2 : ∀ {m : Id} {k : Loc}, L' m = some k → m ≠ S.next s → L m = some k := fun hm e => by
    rw [← hm]; exact (upd_ne L _ e).symm
  refine ⟨⟨fun j q hq => ?_, fun j k q q' m m' hq hq' hqz hm hm' hne => ?_, fun j hg => ?_, hi.fz⟩, hx⟩
  · rw [hobj] at hq
    split at hq
    · rename_i hj; subst hj
      obtain rfl := Option.some.inj hq
      refine ⟨_, c, e, hself, hes, hb, hsz, by simp; omega, ⟨vs.drop off, (hvs.drop off).ext hx, fun j u hu => ?_⟩, by simp, fun _ => hown hz⟩
      rw [List.getElem?_drop] at hu
      have := hcv _ _ hu
      rwa [← Nat.add_assoc] at this
    · obtain ⟨hq1, hq2⟩ := del_obj hq
      obtain ⟨m, c2, e2, h1, h2, h3, h4, h5, ⟨us, h6, h7⟩, h8, h9⟩ := hi.live j q hq1
      exact ⟨m, c2, e2, hL' _ _ h1, h2, h3, h4, h5, ⟨us, h6.ext hx, h7⟩, h8, h9⟩
  · rw [hobj] at hq hq'
    split at hq <;> split at hq'
    · rename_i h1 h2; exact absurd (h1.trans h2.symm) hne
    · rename_i h1 h2
      subst h1
      obtain ⟨hq1, hq2⟩ := del_obj hq'
      obtain rfl := Option.some.inj (hself.symm.trans hm)
      exact hi.apart i k o q' ℓ' m' ho hq1 hz hl (e2 hm' h2) (fun e => hq2 e.symm)
    · rename_i h1 h2
      subst h2
      obtain ⟨hq1, hq2⟩ := del_obj hq
      obtain rfl := Option.some.inj (hself.symm.trans hm')
      exact hi.apart j i q o m ℓ' hq1 ho hqz (e2 hm h1) hl hq2
    · rename_i h1 h2
      exact hi.apart j k q q' m m' (del_obj hq).1 (del_obj hq').1 hqz (e2 hm h1) (e2 hm' h2) hne
  · have hne : j ≠ S.next s := fun e => by
      subst e
      simp only [Sto.add, Sto.next, Sto.del] at hg
      simp at hg
      omega
    rw [show L' j = L j from upd_ne L _ hne]
    refine hi.fresh j ?_
    simp only [Sto.add, Sto.del] at hg
    split at hg
    · rename_i h; rw [h]; omega
    · exact hg
theorem zeroCells_size (z : Array Value) (n : Nat) : (Builtin.zeroCells z n).size = n * z.size := by simp [Builtin.zeroCells]
theorem s_append {t : TypeId} (hi : Inv w S L F K) (s : Nat) {p q r : PV} {v u : Value} (hp : Rel w F L p v) (hq : Rel w F L q u) {S' : Sto} (ty : TypeId)
    (h : appendFn P s S t p q = some (r, S')) :
    ∃ w' L' x, (Builtin.append_ #[t, t] ty #[v, u]).run P w = .ok x w' ∧ Rel w' F L' r x ∧ Inv w' S' L' F K ∧ Ext w F L K w' F L' := by
  unfold appendFn at h
  split at h
  case h_2 => cases h
  rename_i e hk
  split at h
  case h_2 => cases h
  rename_i te m ht hm
  split at h
  case h_2 => cases h
  rename_i ys hy
  split at h
  case isFalse => cases h
  rename_i hcond
  obtain ⟨hone, hzl⟩ := hcond
  obtain ⟨i, d, z, h1, h2, h3, h4, h5, h6, h7, h8⟩ := tiOf_spec ht
  obtain ⟨news, hA, hnl, hu⟩ := rowOf_rel hi hq hm hy
  have hu1 := tkAt_slice hk
  have hone' : ∀ c ∈ ys, c.one = true := by simpa using hone
  have hzs : z.cells.size = te.size := by rw [← hzl, h7]; simp
  have hsz := run_sizeOf (w := w) (tiOf_szAt ht)
  split at h
  · -- nil
    obtain rfl : v = .slice none 0 0 := by cases hp; rfl
    split at h
    · rename_i hm0
      simp only [Option.some.injEq, Prod.mk.injEq] at h
      obtain ⟨rfl, rfl⟩ := h
      subst hm0
      refine ⟨w, L, .slice none 0 0, ?_, .lit _, hi, .refl _ _ _ _⟩
      have hl0 : ∀ (x : Addr), (loadCells x 0).run P w = .ok #[] w := fun x => by simpa using run_loadCells_list (P := P) (w := w) x [] (by simp)
      rcases hu with ⟨a0, c, rfl, _⟩ | ⟨b, o, cap, rfl, _⟩
      · cases a0 <;> simp [hl0, Builtin.append_, run_underlying hu1, hsz, Builtin.lenOf, Builtin.firstCells]
      · simp [Builtin.append_, run_underlying hu1, hsz, Builtin.lenOf, Builtin.firstCells, hl0]
    · rename_i hm0
      split at h
      · rename_i hb
        simp only [Option.some.injEq, Prod.mk.injEq] at h
        obtain ⟨rfl, rfl⟩ := h
        rcases hu with ⟨a0, c, rfl, hm1⟩ | ⟨b, o, cap, rfl, hh⟩
        · exact absurd hm1 hm0
        have hb1 := hb.1
        have hb2 := hb.2
        unfold maxBytes at hb1 hb2
        have hrun := run_append_nil (P := P) (w := w) t ty e i z hu1 h1 h3 ⟨b, o, none⟩ m cap news (by rw [hnl, h5])
          (fun j x hx => by rw [addr_add]; exact hh j x hx) (by omega) (by omega) (by rw [← h6]; omega)
        have hge := grownCap_ge w m 0 e
        have hyl : ys.length = m * te.size := by rw [← hA.1, hnl]
        obtain ⟨g1, g2⟩ := hi.add s te.size ys news (news.toArray ++ Builtin.zeroCells z.cells (grownCap w m 0 e - m)) e
          (w' := w.drew.alloc (.cells (news.toArray ++ Builtin.zeroCells z.cells (grownCap w m 0 e - m)) e)) rfl rfl rfl rfl hA (by simp [hyl, hnl])
          (fun j x hx => by
            rw [Array.getElem?_append_left (by
              have := List.getElem?_eq_some_iff.1 hx
              simpa using this.1)]
            simpa using hx)
        refine ⟨_, _, _, hrun, .loc _ 0 (upd_same _ _ _) hge (.inl rfl) ?_, g1, g2⟩
        simp only [Array.size_append, zeroCells_size, List.size_toArray, hnl, hzs, Nat.zero_add]
        rw [← Nat.add_mul]
        exact Nat.mul_le_mul_right _ (by omega)
      · cases h
  · -- an object of one's own
    rename_i ii off n
    split at h
    case h_2 => cases h
    rename_i o ho
    split at h
    case isFalse => cases h
    rename_i hc
    obtain ⟨c1, c2, c3, c4, c5⟩ := hc
    simp only [Option.some.injEq, Prod.mk.injEq] at h
    obtain ⟨rfl, rfl⟩ := h
    cases hp with
    | @loc _ _ _ ℓ cap a hL hnc ha hcap =>
    obtain ⟨ℓ', c, e', hL', hes, hb, hcs, hlen, ⟨vs, hvs, hcv⟩, _, hown⟩ := hi.live ii o ho
    obtain rfl := Option.some.inj (hL'.symm.trans hL)
    have hyl : ys.length = m * te.size := by rw [← hA.1, hnl]
    have hvl : vs.length = off + n * te.size := by rw [hvs.1, c3]
    unfold maxBytes at c4 c5
    by_cases hroom : n + m ≤ cap
    · -- it fits
      have hfirst : ((Builtin.firstCells te.size m u).run P w) = .ok news.toArray w := by
        rcases hu with ⟨a0, c, rfl, hm1⟩ | ⟨b, o', cap', rfl, hh⟩
        · have : news = [] := by
            apply List.eq_nil_of_length_eq_zero; rw [hnl, hm1]; simp
          have hz : m * te.size = 0 := by rw [hm1, Nat.zero_mul]
          have hl0 : ∀ (x : Addr), (loadCells x 0).run P w = .ok #[] w := fun x => by simpa using run_loadCells_list (P := P) (w := w) x [] (by simp)
          cases a0 <;> simp [Builtin.firstCells, this, hz, hl0]
        · have := run_loadN (P := P) hh (n := m * te.size) (by omega)
          simp only [Builtin.firstCells]
          rw [this, List.take_of_length_le (by omega)]
      have hlenof : (Builtin.lenOf u).run P w = .ok m w := by
        rcases hu with ⟨a0, c, rfl, hm1⟩ | ⟨b, o', cap', rfl, hh⟩ <;> rfl
      have hxty : (P.underlying t matches some (.int _)) = false := by rw [hu1]
      have hrun : ∀ w', (storeCells ((⟨ℓ'.b, a, none⟩ : Addr).add (n * te.size)) news).run P w = .ok () w' →
          (Builtin.append_ #[t, t] ty #[.slice (some ⟨ℓ'.b, a, none⟩) n cap, u]).run P w = .ok (.slice (some ⟨ℓ'.b, a, none⟩) (n + m) cap) w' := by
        intro w' hw'
        simp [Builtin.append_, run_underlying hu1, hsz, hlenof, hroom, hfirst, hw']
      by_cases hm0 : m = 0
      · subst hm0
        have hnews : news = [] := List.eq_nil_of_length_eq_zero (by rw [hnl]; simp)
        have hys : ys = [] := List.eq_nil_of_length_eq_zero (by rw [hyl]; simp)
        subst hnews hys
        obtain ⟨g1, g2⟩ := hi.rename ho c1 hL s off (by omega)
        refine ⟨w, _, _, hrun w rfl, Rel.loc (ℓ := ⟨ℓ'.b, ℓ'.base + off, ℓ'.es, ℓ'.sz⟩) _ _ (upd_same _ _ _) (by omega) ?_ ?_, ?_, g2⟩
        · rcases ha with ha | ha
          · left; simpa using ha
          · right; exact ha
        · simpa using hcap
        · rw [List.append_nil, ← c2]; exact g1
      · have ha' : a = ℓ'.base + off := by
          rcases ha with ha | ha
          · exact ha
          · omega
        have hfit : ℓ'.base + (o.cells ++ ys).length ≤ ℓ'.sz := by
          rw [List.length_append, c3, hyl]
          have : (n + m) * te.size ≤ cap * te.size := Nat.mul_le_mul_right _ hroom
          rw [Nat.add_mul] at this
          rw [hes, c2] at hcap
          omega
        have hpos : (⟨ℓ'.b, a, none⟩ : Addr).add (n * te.size) = ⟨ℓ'.b, ℓ'.base + o.cells.length, none⟩ := by
          rw [addr_add, ha', c3, Nat.add_assoc]
        have hst := run_storeCells_cells (P := P) ℓ'.b (ℓ'.base + o.cells.length) news 0 w
          (fun j hj => by
            rw [Nat.add_zero, cell?_of hb]
            have : ℓ'.base + o.cells.length + j < c.size := by rw [List.length_append] at hfit; omega
            simp [this])
          (fun j hj => frozen?_of hb) (hA.oneCells hone')
        rw [Nat.add_zero] at hst
        obtain ⟨c', g1, g2, g3, g4, g5, g6, g7, g8⟩ := setCells_heap ℓ'.b news (ℓ'.base + o.cells.length) w c e' (0, 0) hb (by
          rw [List.length_append] at hfit; omega)
        obtain ⟨k1, k2⟩ := hi.write ho c1 hL hb (o.cells ++ ys) (vs ++ news) g6 g7 g8 g5 g1 g2 g4 (hvs.append hA) (by omega) (fun j x hx => by
          rw [g3]
          rw [List.getElem?_append, hvs.1] at hx
          split at hx
          · rw [if_neg (by omega)]; exact hcv j x hx
          · rename_i hj
            have hlt := (List.getElem?_eq_some_iff.1 hx).1
            rw [if_pos (by omega), show ℓ'.base + j - (ℓ'.base + o.cells.length) = j - o.cells.length by omega]
            exact hx) (by rw [setCells_drawn]; exact Nat.le_refl _)
        have ho1 : (S.set ii ⟨o.cells ++ ys, o.es, false⟩).obj ii = some ⟨o.cells ++ ys, o.es, false⟩ := upd_same _ _ _
        obtain ⟨m1, m2⟩ := k1.rename ho1 rfl hL s off (by simp; omega)
        have hdel : (S.set ii ⟨o.cells ++ ys, o.es, false⟩).del ii = S.del ii := by
          simp only [Sto.set, Sto.del]
          congr 1
          funext j
          simp only [upd]
          split <;> rfl
        rw [hdel] at m1
        refine ⟨_, _, _, hrun _ (by rw [hpos]; exact hst), Rel.loc (ℓ := ⟨ℓ'.b, ℓ'.base + off, ℓ'.es, ℓ'.sz⟩) _ _ (upd_same L _ _) hroom (.inl (by simp [ha'])) ?_, ?_, ?_⟩
        · simpa using hcap
        · have : (o.cells ++ ys).drop off = o.cells.drop off ++ ys := by rw [List.drop_append_of_le_length (by omega)]
          rw [← c2, ← this]; exact m1
        · exact ⟨k2.os, k2.tape, k2.output, k2.size, fun b hb => hb, k2.heap, m2.loc, fun b hb => .inl hb, fun j m h => by
            rcases m2.own j m h with h | h
            · exact .inl (Nat.le_trans k2.size h)
            · exact .inr h, k2.drawn⟩
    · -- it grows
      have hm0 : m ≠ 0 := by omega
      rcases hu with ⟨a0, c, rfl, hm1⟩ | ⟨b, o', cap', rfl, hh⟩
      · exact absurd hm1 hm0
      have holds : HCells w ℓ'.b a (vs.drop off) := by
        rcases ha with rfl | ha
        · exact (HCells.of hb hcv).drop off
        · have : n = 0 := by omega
          subst this
          have : vs.drop off = [] := List.eq_nil_of_length_eq_zero (by simp; omega)
          rw [this]
          intro j u hu; simp at hu
      have holl : (vs.drop off).length = n * te.size := by simp; omega
      have hrun := run_append_grow (P := P) (w := w) t ty e i z hu1 h1 h3 ⟨ℓ'.b, a, none⟩ n cap (vs.drop off) (by rw [holl, h5]) (fun j x hx => by rw [addr_add]; exact holds j x hx)
        ⟨b, o', none⟩ m cap' news (by rw [hnl, h5]) (fun j x hx => by rw [addr_add]; exact hh j x hx) (by omega) (by omega)
        (growslice_fits (by omega) (by rw [← h6]; omega))
      have hge := grownCap_ge w (n + m) cap e
      have hdl : (o.cells.drop off).length = n * te.size := by simp; omega
      have hi2 := hi.del ii
      obtain ⟨g1, g2⟩ := hi2.add s te.size (o.cells.drop off ++ ys) (vs.drop off ++ news) ((vs.drop off).toArray ++ news.toArray ++ Builtin.zeroCells z.cells (grownCap w (n + m) cap e - (n + m))) e
        (w' := w.drew.alloc (.cells ((vs.drop off).toArray ++ news.toArray ++ Builtin.zeroCells z.cells (grownCap w (n + m) cap e - (n + m))) e)) rfl rfl rfl rfl ((hvs.drop off).append hA)
        (by simp only [List.length_append, hdl, hyl, Array.size_append, List.size_toArray, holl, hnl]; omega)
        (fun j x hx => by
          rw [Array.getElem?_append_left (by
            have := (List.getElem?_eq_some_iff.1 hx).1
            simpa using this)]
          simpa using hx)
      refine ⟨_, _, _, hrun, .loc _ 0 (upd_same _ _ _) hge (.inl rfl) ?_, g1, g2⟩
      simp only [Array.size_append, zeroCells_size, List.size_toArray, holl, hnl, hzs, Nat.zero_add]
      rw [← Nat.add_mul, ← Nat.add_mul]
      exact Nat.mul_le_mul_right _ (by omega)
  · cases h
theorem run_append_zeros (t u ty e : TypeId) (i : TypeInfo) (z : Value) (ku kx : IntKind) (ht : P.underlying t = some (.slice e)) (hu : P.underlying u = some (.int ku)) (hi : P.info? e = some i) (hz : i.zero = some z) (hzs : z.cells.size = i.size)
    (n : Nat) (h0 : 0 < n) (h63 : (n : Int) ≤ 9223372036854775807) (h48 : n * i.bytes ≤ 281474976710656) :
    (Builtin.append_ #[t, u] ty #[.slice none 0 0, .int kx n]).run P w =
      .ok (.slice (some ⟨w.heap.size, 0, none⟩) n (grownCap w n 0 e)) (w.drew.alloc (.cells (Builtin.zeroCells z.cells n ++ Builtin.zeroCells z.cells (grownCap w n 0 e - n)) e)) := by
  have hn : n ≠ 0 := by omega
  have h63' : ¬ (9223372036854775807 < (n : Int)) := by omega
  have h48' : ¬ (281474976710656 < Builtin.nextslicecap n 0 * i.bytes) := by rw [nextslicecap_zero h0]; omega
  have hw : IntKind.i64.wrap (n : Int) = n := by rw [show IntKind.i64.wrap (n : Int) = _ from rfl]; simp only [IntKind.wrap, IntKind.bits, IntKind.signed]; simp; omega
  have h48i : ¬ ((281474976710656 : Int) < (n : Int) * (i.bytes : Int)) := by
    have : ((n * i.bytes : Nat) : Int) ≤ 281474976710656 := by omega
    rw [Int.natCast_mul] at this
    omega
  have hneg : ¬ ((n : Int) < 0) := by omega
  by_cases hs : i.size = 0
  · have hz0 : z.cells.size = 0 := by omega
    have hze : z.cells = #[] := Array.eq_empty_of_size_eq_zero hz0
    simp [Builtin.append_, run_underlying ht, run_underlying hu, sizeOf, typeInfo, zeroValue, hi, hz, asInt, asIntOf, hw, hneg, h48i, hn, h63', h48', Question.forced, run_firstCells_none, newRow, grownCap, hze, Builtin.zeroCells, Array.range_zero']
  · have : n * i.size ≠ 0 := Nat.mul_ne_zero hn hs
    simp [Builtin.append_, run_underlying ht, run_underlying hu, sizeOf, typeInfo, zeroValue, hi, hz, asInt, asIntOf, hw, hneg, h48i, hn, h63', h48', Question.forced, run_firstCells_none, newRow, grownCap]
    exact fun h => absurd h this
theorem zeroCells_toList (z : Array Value) (n : Nat) : (Builtin.zeroCells z n).toList = repL n z.toList := by
  exact madeCells_toList z n
theorem s_appendZ {t u : TypeId} {ku : IntKind} (hi : Inv w S L F K) (s : Nat) {p q r : PV} {v x : Value} (hp : Rel w F L p v) (hq : Rel w F L q x) {S' : Sto} (ty : TypeId) (hu : P.underlying u = some (.int ku))
    (h : appendZ P s S t p q = some (r, S')) :
    ∃ w' L' y, (Builtin.append_ #[t, u] ty #[v, x]).run P w = .ok y w' ∧ Rel w' F L' r y ∧ Inv w' S' L' F K ∧ Ext w F L K w' F L' := by
  unfold appendZ at h
  split at h
  case h_2 => cases h
  rename_i e kx m hk
  obtain rfl : v = .slice none 0 0 := by cases hp; rfl
  obtain rfl : x = .int kx m := by cases hq; rfl
  split at h
  case h_2 => cases h
  rename_i te ht
  split at h
  case isFalse => cases h
  rename_i hc
  obtain ⟨c1, c2, c3, hzl⟩ := hc
  unfold maxBytes at c2 c3
  obtain ⟨i, d, z, h1, h2, h3, h4, h5, h6, h7, h8⟩ := tiOf_spec ht
  have hu1 := tkAt_slice hk
  have hzs : z.cells.size = te.size := by rw [← hzl, h7]; simp
  obtain ⟨n, rfl⟩ : ∃ n : Nat, m = n := ⟨m.toNat, by omega⟩
  rw [Int.toNat_natCast] at c3 h
  split at h
  · rename_i hm0
    obtain rfl : n = 0 := by omega
    simp only [Option.some.injEq, Prod.mk.injEq] at h
    obtain ⟨rfl, rfl⟩ := h
    refine ⟨w, L, .slice none 0 0, ?_, .lit _, hi, .refl _ _ _ _⟩
    have hw0 : IntKind.i64.wrap (0 : Int) = 0 := rfl
    simp [Builtin.append_, run_underlying hu1, run_underlying hu, sizeOf, typeInfo, h1, asInt, asIntOf, hw0]
  · rename_i hm0
    simp only [Option.some.injEq, Prod.mk.injEq] at h
    obtain ⟨rfl, rfl⟩ := h
    have hrun := run_append_zeros (P := P) (w := w) t u ty e i z ku kx hu1 hu h1 h3 (by rw [hzs, h5]) n (by omega) (by omega) (by rw [← h6]; omega)
    have hge := grownCap_ge w n 0 e
    obtain ⟨g1, g2⟩ := hi.add s te.size (repL n (te.zero.map .lit)) (repL n te.zero) (Builtin.zeroCells z.cells n ++ Builtin.zeroCells z.cells (grownCap w n 0 e - n)) e
      (w' := w.drew.alloc (.cells (Builtin.zeroCells z.cells n ++ Builtin.zeroCells z.cells (grownCap w n 0 e - n)) e)) rfl rfl rfl rfl (by rw [repL_map]; exact RelA.lits _)
      (by rw [repL_length, Array.size_append, zeroCells_size, List.length_map, hzl, hzs]; omega)
      (fun j y hy => by
        rw [h7, ← zeroCells_toList] at hy
        rw [Array.getElem?_append_left (by have := (List.getElem?_eq_some_iff.1 hy).1; simpa using this)]
        simpa using hy)
    refine ⟨_, _, _, hrun, .loc _ 0 (upd_same _ _ _) hge (.inl rfl) ?_, g1, g2⟩
    simp only [Array.size_append, zeroCells_size, hzs, Nat.zero_add]
    rw [← Nat.add_mul]
    exact Nat.mul_le_mul_right _ (by omega)
theorem s_copy {t : TypeId} (hi : Inv w S L F K) {p q r : PV} {v u : Value} (hp : Rel w F L p v) (hq : Rel w F L q u) {S' : Sto} (ty : TypeId)
    (h : copyFn P S t p q = some (r, S')) :
    ∃ w' x, (Builtin.copy_ #[t, t] ty #[v, u]).run P w = .ok x w' ∧ Rel w' F L r x ∧ Inv w' S' L F K ∧ Ext w F L K w' F L := by
  unfold copyFn at h
  split at h
  case h_2 => cases h
  rename_i e hk
  split at h
  case h_2 => cases h
  rename_i es m ii off n hs hm
  split at h
  case h_2 => cases h
  rename_i o ys ho hy
  split at h
  case isFalse => cases h
  rename_i hc
  obtain ⟨c1, c2, c3⟩ := hc
  simp only [Option.some.injEq, Prod.mk.injEq] at h
  obtain ⟨rfl, rfl⟩ := h
  obtain ⟨vs, hA, hvl, hu⟩ := rowOf_rel hi hq hm hy
  have hyl : ys.length = m * es := by rw [← hA.1, hvl]
  cases hp with
  | @loc _ _ _ ℓ cap a hL hnc ha hcap =>
  have hmin : Nat.min m n = min m n := rfl
  have hle : min m n * es ≤ m * es := Nat.mul_le_mul_right _ (Nat.min_le_left _ _)
  have hle2 : min m n * es ≤ n * es := Nat.mul_le_mul_right _ (Nat.min_le_right _ _)
  have hlen : (Builtin.lenOf u).run P w = .ok m w := by
    rcases hu with ⟨a0, c, rfl, _⟩ | ⟨b, o', cap', rfl, _⟩ <;> rfl
  have hfirst : (Builtin.firstCells es (Nat.min m n) u).run P w = .ok (vs.take (min m n * es)).toArray w := by
    rcases hu with ⟨a0, c, rfl, hm0⟩ | ⟨b, o', cap', rfl, hh⟩
    · have : vs = [] := List.eq_nil_of_length_eq_zero (by rw [hvl, hm0]; simp)
      have hz : Nat.min m n * es = 0 := by rw [hm0]; simp
      have hl0 : ∀ (x : Addr), (loadCells x 0).run P w = .ok #[] w := fun x => by simpa using run_loadCells_list (P := P) (w := w) x [] (by simp)
      cases a0 <;> simp [Builtin.firstCells, this, hz, hl0]
    · simp only [Builtin.firstCells]
      exact run_loadN hh (by rw [hvl]; exact hle)
  have hone : ∀ c ∈ ys.take (min m n * es), c.one = true := fun c hc => by
    have : ∀ c ∈ ys, c.one = true := by simpa using c2
    exact this c (List.mem_of_mem_take hc)
  have hrun : ∀ w', (storeCells ⟨ℓ.b, a, none⟩ (vs.take (min m n * es))).run P w = .ok () w' →
      (Builtin.copy_ #[t, t] ty #[.slice (some ⟨ℓ.b, a, none⟩) n cap, u]).run P w = .ok (goInt (min m n : Nat)) w' := by
    intro w' hw'
    simp [Builtin.copy_, run_underlying (tkAt_slice hk), hlen, run_sizeOf (w := w) hs, hfirst, hw', hmin]
  have hAt := hA.take (min m n * es)
  have hsub : off + (ys.take (min m n * es)).length ≤ o.cells.length := by
    rw [List.length_take, hyl]
    omega
  have hgood := s_write (P := P) (off := off) hi ho c1 hL hAt hsub hone
  rcases ha with rfl | ha
  · exact ⟨_, _, hrun _ hgood.1, .lit _, hgood.2.1, hgood.2.2⟩
  · have hn0 : n = 0 := by omega
    subst hn0
    have e1 : vs.take (min m 0 * es) = [] := by simp
    have e2 : ys.take (min m 0 * es) = [] := by simp
    rw [e1] at hgood
    refine ⟨_, _, hrun w (by rw [e1]; rfl), .lit _, hgood.2.1, hgood.2.2⟩
theorem s_clear {t : TypeId} (hi : Inv w S L F K) {p r : PV} {v : Value} (hp : Rel w F L p v) {S' : Sto} (ty : TypeId)
    (h : clearFn P S t p = some (r, S')) :
    ∃ w' x, (Builtin.clear_ #[t] ty #[v]).run P w = .ok x w' ∧ Rel w' F L r x ∧ Inv w' S' L F K ∧ Ext w F L K w' F L := by
  unfold clearFn at h
  split at h
  case h_2 => cases h
  rename_i e hk
  split at h
  case h_2 => cases h
  rename_i te ii off n ht
  split at h
  case h_2 => cases h
  rename_i o ho
  split at h
  case isFalse => cases h
  rename_i hc
  obtain ⟨c1, c2, c3⟩ := hc
  simp only [Option.some.injEq, Prod.mk.injEq] at h
  obtain ⟨rfl, rfl⟩ := h
  obtain ⟨i, d, z, h1, h2, h3, h4, h5, h6, h7, h8⟩ := tiOf_spec ht
  cases hp with
  | @loc _ _ _ ℓ cap a hL hnc ha hcap =>
  have hone : ∀ c ∈ repL n (te.zero.map PV.lit), c.one = true := by simpa using c2
  have hA : RelA w F L (repL n (te.zero.map PV.lit)) (repL n te.zero) := by rw [repL_map]; exact RelA.lits _
  have hgood := s_write (P := P) (off := off) hi ho c1 hL hA c3 hone
  have hzc : (Builtin.zeroCells z.cells n).toList = repL n te.zero := by rw [zeroCells_toList, h7]
  by_cases hn : n = 0
  · subst hn
    refine ⟨w, .tuple #[], ?_, .lit _, ?_⟩
    · simp [Builtin.clear_, run_underlying (tkAt_slice hk)]
    · have e0 : repL 0 te.zero = [] := rfl
      rw [e0] at hgood
      exact hgood.2
  · have e1 : a = ℓ.base + off := by rcases ha with ha | ha <;> omega
    subst e1
    refine ⟨_, .tuple #[], ?_, .lit _, hgood.2⟩
    simp [Builtin.clear_, run_underlying (tkAt_slice hk), run_zero h1 h3, hzc, hgood.1]
theorem equal_succ (t : TypeId) (x y : Value) : ∃ d, Op.equal t x y = Op.equalIn (d + 1) t x y := ⟨9999, rfl⟩
theorem eq_bools {t : TypeId} (hk : P.underlying t = some .bool) (a b : Bool) : (Op.equal t (.bool a) (.bool b)).run P w = .ok (a == b) w := by
  obtain ⟨d, hd⟩ := equal_succ t (.bool a) (.bool b)
  rw [hd]
  simp [Op.equalIn, run_underlying hk]
theorem eq_nil1 {t e : TypeId} (hk : P.underlying t = some (.slice e)) (n c : Nat) (a' : Option Addr) (n' c' : Nat) : (Op.equal t (.slice none n c) (.slice a' n' c')).run P w = .ok a'.isNone w := by
  obtain ⟨d, hd⟩ := equal_succ t (.slice none n c) (.slice a' n' c')
  rw [hd]
  simp [Op.equalIn, run_underlying hk]
theorem eq_nil2 {t e : TypeId} (hk : P.underlying t = some (.slice e)) (n c : Nat) (a : Option Addr) (n' c' : Nat) : (Op.equal t (.slice a n' c') (.slice none n c)).run P w = .ok a.isNone w := by
  obtain ⟨d, hd⟩ := equal_succ t (.slice a n' c') (.slice none n c)
  rw [hd]
  cases a <;> simp [Op.equalIn, run_underlying hk]
theorem s_lits {op : BinOp} {t : TypeId} {a b u : Value} (h : litBin P op t a b = some u) : (binOp op t a b).run P w = .ok u w ∧
    ∀ x y, (eqGuard op t x y a b).run P w = .ok () w := by
  cases a <;> cases b <;> simp only [litBin] at h <;> first | (cases h; done) | skip
  · -- bools
    split at h
    · split at h
      · rename_i hk
        obtain rfl := Option.some.inj h
        refine ⟨?_, fun x y => by simp [eqGuard]⟩
        simp only [binOp, Sem.run_bind, eq_bools (tkAt_bool hk), Result.andThen_ok, Sem.run_pure]
      · cases h
    · split at h
      · rename_i hk
        obtain rfl := Option.some.inj h
        refine ⟨?_, fun x y => by simp [eqGuard]⟩
        simp only [binOp, Sem.run_bind, eq_bools (tkAt_bool hk), Result.andThen_ok, Sem.run_pure, bne]
      · cases h
    · cases h
  · exact ⟨s_intBin h t, fun x y => by cases op <;> rfl⟩
  · exact ⟨s_strBin h t, fun x y => by cases op <;> rfl⟩
theorem nil?_rel {p : PV} {v : Value} {b : Bool} (hr : Rel w F L p v) (h : p.nil? = some b) : ∃ a n c, v = .slice a n c ∧ a.isNone = b := by
  cases hr with
  | lit v =>
    cases v with
    | slice a n c =>
      cases a with
      | none => exact ⟨none, n, c, rfl, by simpa [PV.nil?] using h⟩
      | some a => simp [PV.nil?] at h
    | _ => simp [PV.nil?] at h
  | sl b base cap => exact ⟨_, _, _, rfl, by simpa [PV.nil?] using h⟩
  | wild a => exact ⟨_, _, _, rfl, by simpa [PV.nil?] using h⟩
  | loc cap o => exact ⟨_, _, _, rfl, by simpa [PV.nil?] using h⟩
  | agg => simp [PV.nil?] at h
  | tup => simp [PV.nil?] at h
  | fel => simp [PV.nil?] at h
  | ptr => simp [PV.nil?] at h
  | fn => simp [PV.nil?] at h
theorem s_nilEq {t : TypeId} {p q : PV} {v u : Value} (hp : Rel w F L p v) (hq : Rel w F L q u) {b : Bool} (h : nilEq P t p q = some b) :
    (Op.equal t v u).run P w = .ok b w ∧ ∃ a n c a' n' c', v = .slice a n c ∧ u = .slice a' n' c' := by
  unfold nilEq at h
  split at h
  · rename_i e b' hk h1 h2
    obtain rfl := Option.some.inj h
    obtain ⟨a, n, c, rfl, ha⟩ := nil?_rel hp h1
    obtain ⟨a', n', c', rfl, ha'⟩ := nil?_rel hq h2
    refine ⟨?_, _, _, _, _, _, _, rfl, rfl⟩
    obtain rfl : a = none := by simpa using ha
    rw [eq_nil1 (tkAt_slice hk), ha']
  · rename_i e b' hk h1 h2
    obtain rfl := Option.some.inj h
    obtain ⟨a, n, c, rfl, ha⟩ := nil?_rel hp h1
    obtain ⟨a', n', c', rfl, ha'⟩ := nil?_rel hq h2
    refine ⟨?_, _, _, _, _, _, _, rfl, rfl⟩
    obtain rfl : a' = none := by simpa using ha'
    rw [eq_nil2 (tkAt_slice hk), ha]
  · cases h
theorem tkAt_int' {t : TypeId} {k : IntKind} (h : tkAt P t = some (.int k)) : P.underlying t = some (.int k) := by
  unfold tkAt at h
  cases hu : P.underlying t with
  | none => rw [hu] at h; cases h
  | some d =>
    rw [hu] at h
    cases d <;> simp [tkOf] at h
    rw [h]
theorem part_one {t : TypeId} {k : IntKind} (h : P.underlying t = some (.int k)) {xs : Array Value} {o : Nat} {v : Value} (hv : xs[o]? = some v) : (part t xs o).run P w = .ok v w := by
  simp [part, isAgg, run_underlying h, hv]
theorem s_eqOffs (d : Nat) : ∀ (fs : List Field) {cs ds : List PV} {xs ys : Array Value} {b : Bool}, RelA w F L cs xs.toList → RelA w F L ds ys.toList →
    fs.all (fun f => f.name != "_" && match tkAt P f.type with | some (.int _) => true | _ => false) = true → eqOffs (fs.map (·.offset)) cs ds = some b → (Op.eqFields (d + 1) xs ys fs).run P w = .ok b w
  | [], _, _, _, _, b, _, _, _, h => by
    obtain rfl := Option.some.inj h
    simp [Op.eqFields]
  | f :: fs, cs, ds, xs, ys, b, hx, hy, ha, h => by
    rw [List.all_cons, Bool.and_eq_true, Bool.and_eq_true] at ha
    obtain ⟨⟨h1, h2⟩, h3⟩ := ha
    have hn : f.name ≠ "_" := by simpa using h1
    split at h2
    case h_2 => cases h2
    rename_i k0 hk
    have hu := tkAt_int' hk
    rw [List.map_cons] at h
    simp only [eqOffs] at h
    split at h
    case h_2 => cases h
    rename_i k a k' b' r e1 e2 e3
    split at h
    case isFalse => cases h
    rename_i hkk
    subst hkk
    obtain rfl := Option.some.inj h
    have get : ∀ {cs : List PV} {xs : Array Value} {v : Value}, RelA w F L cs xs.toList → cs[f.offset]? = some (.lit v) → xs[f.offset]? = some v := fun {cs xs v} hr e => by
      obtain ⟨hl, _⟩ := List.getElem?_eq_some_iff.1 e
      have hl' : f.offset < xs.toList.length := by rw [hr.1]; exact hl
      have e' := List.getElem?_eq_getElem hl'
      have := hr.2 _ _ _ e e'
      rw [← Array.getElem?_toList, e']
      cases this
      rfl
    have ih := s_eqOffs d fs hx hy h3 e3
    rw [Op.eqFields, if_pos hn]
    simp only [Sem.run_bind, part_one hu (get hx e1), part_one hu (get hy e2), Result.andThen_ok, Op.equalIn, run_underlying hu]
    by_cases e : a = b'
    · subst e; simpa using ih
    · have : (a == b') = false := by simpa using e
      simp [this]
theorem s_structEq {t : TypeId} {p q : PV} {v u : Value} (hp : Rel w F L p v) (hq : Rel w F L q u) {b : Bool} (h : structEq P t p q = some b) :
    (Op.equal t v u).run P w = .ok b w ∧ (∀ op x y, (eqGuard op t x y v u).run P w = .ok () w) ∧ ∃ xs ys, v = .agg xs ∧ u = .agg ys := by
  unfold structEq at h
  split at h
  case h_2 => cases h
  rename_i os cs ds ho hc hd
  unfold structOffs at ho
  split at ho
  case h_2 => cases ho
  rename_i fs hu
  split at ho
  case isFalse => cases ho
  rename_i hcond
  obtain ⟨c1, c2, c3⟩ := hcond
  obtain rfl := Option.some.inj ho
  obtain ⟨xs, rfl, hx⟩ := aggCells_rel hp hc
  obtain ⟨ys, rfl, hy⟩ := aggCells_rel hq hd
  have hf : P.fieldsOf t = fs := by simp [Program.fieldsOf, hu]
  refine ⟨?_, fun op x y => run_eqGuard_agg w op t x y xs ys c2, xs, ys, rfl, rfl⟩
  unfold Op.equal Op.maxDepth
  rw [run_equalIn_struct w 9999 t xs ys (by rw [hf]; exact hu) c1, hf]
  exact s_eqOffs 9998 fs.toList hx hy c3 h
theorem s_binOp {op : BinOp} {t : TypeId} {p q r : PV} {v u : Value} (hp : Rel w F L p v) (hq : Rel w F L q u) (h : binFn P op t p q = some r) (x y : Operand) :
    ∃ z, (do eqGuard op t x y v u; binOp op t v u : Sem Value).run P w = .ok z w ∧ Rel w F L r z := by
  unfold binFn at h
  split at h
  · split at h
    · rw [Option.map_eq_some_iff] at h
      obtain ⟨b, hb, rfl⟩ := h
      obtain ⟨h1, h2, xs, ys, rfl, rfl⟩ := s_structEq (P := P) hp hq hb
      refine ⟨.bool b, ?_, .lit _⟩
      simp only [Sem.run_bind, h2, Result.andThen_ok, binOp, h1, Sem.run_pure]
    · rw [Option.map_eq_some_iff] at h
      obtain ⟨b, hb, rfl⟩ := h
      obtain ⟨h1, h2, xs, ys, rfl, rfl⟩ := s_structEq (P := P) hp hq hb
      refine ⟨.bool !b, ?_, .lit _⟩
      simp only [Sem.run_bind, h2, Result.andThen_ok, binOp, h1, Sem.run_pure]
    · cases h
  · rename_i e hk
    split at h
    · rw [Option.map_eq_some_iff] at h
      obtain ⟨b, hb, rfl⟩ := h
      obtain ⟨h1, a, n, c, a', n', c', rfl, rfl⟩ := s_nilEq (P := P) hp hq hb
      refine ⟨.bool b, ?_, .lit _⟩
      have hg : (eqGuard .eql t x y (.slice a n c) (.slice a' n' c')).run P w = .ok () w := by simp [eqGuard]
      simp [hg, binOp, h1]
    · rw [Option.map_eq_some_iff] at h
      obtain ⟨b, hb, rfl⟩ := h
      obtain ⟨h1, a, n, c, a', n', c', rfl, rfl⟩ := s_nilEq (P := P) hp hq hb
      refine ⟨.bool !b, ?_, .lit _⟩
      have hg : (eqGuard .neq t x y (.slice a n c) (.slice a' n' c')).run P w = .ok () w := by simp [eqGuard]
      simp [hg, binOp, h1]
    · cases h
  · split at h
    · rename_i a b
      rw [Option.map_eq_some_iff] at h
      obtain ⟨z, hz, rfl⟩ := h
      obtain rfl : v = a := by cases hp; rfl
      obtain rfl : u = b := by cases hq; rfl
      obtain ⟨h1, h2⟩ := s_lits (w := w) hz
      exact ⟨z, by simp [h2, h1], .lit _⟩
    · cases h
theorem s_unOp {op : UnOp} {p r : PV} {v : Value} (hp : Rel w F L p v) (h : unFn op p = some r) : ∃ z, (Op.unary op v).run P w = .ok z w ∧ Rel w F L r z := by
  cases hp with
  | lit v =>
    cases v <;> cases op <;> simp [unFn] at h
    · subst h; exact ⟨_, rfl, .lit _⟩
    · subst h; exact ⟨_, by simp [Op.unary, Op.intArith], .lit _⟩
  | sl => simp [unFn] at h
  | wild => simp [unFn] at h
  | agg => simp [unFn] at h
  | tup => simp [unFn] at h
  | fel => simp [unFn] at h
  | loc => simp [unFn] at h
  | ptr => simp [unFn] at h
  | fn => simp [unFn] at h
theorem s_conv {s d : TypeId} {p r : PV} {v : Value} (hp : Rel w F L p v) (h : convFn P s d p = some r) : ∃ z, (convert s d v).run P w = .ok z w ∧ Rel w F L r z := by
  cases hp with
  | lit v =>
    cases v <;> simp only [convFn] at h <;> first | (cases h; done) | skip
    · split at h
      · rename_i k1 k h1 h2
        obtain rfl := Option.some.inj h
        obtain ⟨d1, g1, _⟩ := tkAt_spec h1
        refine ⟨_, ?_, .lit _⟩
        simp [convert, run_underlying g1, run_underlying (tkAt_int h2), Conv.intToInt]
      · cases h
    · split at h
      · rename_i h1 h2
        obtain rfl := Option.some.inj h
        refine ⟨_, ?_, .lit _⟩
        simp [convert, run_underlying (tkAt_str h1), run_underlying (tkAt_str h2)]
      · cases h
  | sl => simp [convFn] at h
  | wild => simp [convFn] at h
  | agg => simp [convFn] at h
  | tup => simp [convFn] at h
  | fel => simp [convFn] at h
  | loc => simp [convFn] at h
  | ptr => simp [convFn] at h
  | fn => simp [convFn] at h
theorem bytesOf_rel : ∀ {ys : List PV} {vs : List Value} {b : List UInt8}, RelA w F L ys vs → bytesOf ys = some b → ∃ ns : List Int, vs = ns.map (fun n => .int .u8 n) ∧ b = ns.map fun n => UInt8.ofNat n.toNat := by
  intro ys
  induction ys with
  | nil =>
    intro vs b hA h
    obtain rfl := Option.some.inj h
    obtain rfl : vs = [] := by cases vs with
      | nil => rfl
      | cons v vs => cases hA.1
    exact ⟨[], rfl, rfl⟩
  | cons p ys ih =>
    intro vs b hA h
    match vs, hA with
    | [], hA => cases hA.1
    | v :: vs, hA =>
      have h0 : Rel w F L p v := hA.2 0 p v rfl rfl
      have hA' : RelA w F L ys vs := ⟨by have := hA.1; simpa using this, fun j c u hc hu => hA.2 (j + 1) c u (by simpa using hc) (by simpa using hu)⟩
      unfold bytesOf at h
      split at h
      · rename_i heq; cases heq
      · rename_i n r heq
        injection heq with e1 e2
        subst e1 e2
        simp only [Option.map_eq_some_iff] at h
        obtain ⟨l, hl, rfl⟩ := h
        obtain ⟨ns, rfl, rfl⟩ := ih hA' hl
        cases h0
        exact ⟨n :: ns, rfl, rfl⟩
      · cases h
theorem s_bytes (hi : Inv w S L F K) {i : Id} {off n : Nat} {v : Value} (hr : Rel w F L (.loc i off n) v) {s d e : TypeId} {ys : List PV} {b : List UInt8} (h1 : tkAt P s = some (.slice e)) (h2 : tkAt P d = some .str) (h3 : S.rowOf 1 (.loc i off n) = some ys) (h4 : tkAt P e = some (.int .u8)) (h5 : bytesOf ys = some b) :
    (convert s d v).run P w = .ok (.string ⟨b.toArray⟩) w := by
  obtain ⟨vs, hA, hl, hu⟩ := rowOf_rel hi hr (m := n) rfl h3
  obtain ⟨ns, rfl, rfl⟩ := bytesOf_rel hA h5
  have hn : ns.length = n := by simpa using hl
  have eS : (⟨(ns.map fun n => UInt8.ofNat n.toNat).toArray⟩ : ByteArray) = strOfNums ns := rfl
  rw [eS]
  have go : ∀ (a : Addr) (c : Nat), (loadCells a n).run P w = .ok (ns.map (Value.int .u8)).toArray w → (convert s d (.slice (some a) n c)).run P w = .ok (.string (strOfNums ns)) w := by
    intro a c hld
    rw [run_convert_bytes_string w s d e _ n c (tkAt_slice h1) (tkAt_int h4) (tkAt_str h2), run_bytesToString w a n c ns hld, foldl_push_bytes]
    simp [strOfNums, ByteArray.empty, ByteArray.emptyWithCapacity]
    rfl
  rcases hu with ⟨a, c, rfl, h0⟩ | ⟨b, o, cap, rfl, hc⟩
  · subst h0
    obtain rfl : ns = [] := List.eq_nil_of_length_eq_zero hn
    cases a with
    | none => exact run_convert_bytes_nil w s e (tkAt_slice h1) (tkAt_int h4) 0 c d (tkAt_str h2)
    | some a => exact go a c (by simpa using run_loadCells_list (P := P) (w := w) a [] (by simp))
  · refine go _ cap ?_
    have := run_loadN (P := P) hc (n := n) (by simp [hn])
    rw [this, List.take_of_length_le (by simp [hn])]
theorem len?_rel {p : PV} {v : Value} {n : Nat} (hp : Rel w F L p v) (h : p.len? = some n) : ∃ a c, v = .slice a n c := by
  cases hp with
  | lit v =>
    cases v with
    | slice a n' c =>
      cases a with
      | none => exact ⟨none, c, by simp [PV.len?] at h; rw [h]⟩
      | some a => simp [PV.len?] at h
    | _ => simp [PV.len?] at h
  | sl b base cap => exact ⟨_, cap, by simp [PV.len?] at h; rw [h]⟩
  | wild a => exact ⟨_, 0, by simp [PV.len?] at h; rw [h]⟩
  | loc cap o => exact ⟨_, cap, by simp [PV.len?] at h; rw [h]⟩
  | agg => simp [PV.len?] at h
  | tup => simp [PV.len?] at h
  | fel => simp [PV.len?] at h
  | ptr => simp [PV.len?] at h
  | fn => simp [PV.len?] at h
theorem s_min {ρ : Operand → PV} {ev : Operand → Value} (hr : ∀ x, Rel w F L (ρ x) (ev x)) (k : IntKind) : ∀ (l : List Operand) (v n : Int), minFn v (l.map ρ) = some n →
    ((l.map ev).foldlM Builtin.min2 (.int k v)).run P w = .ok (.int k n) w
  | [], v, n, h => by
    obtain rfl : v = n := by simpa [minFn] using h
    rfl
  | x :: l, v, n, h => by
    have hx := hr x
    generalize hp : ρ x = p at hx
    simp only [List.map_cons, hp] at h
    cases p with
    | lit u =>
      obtain he : ev x = u := by cases hx; rfl
      cases u with
      | int k' m =>
        simp only [minFn] at h
        have ih := s_min hr k l _ n h
        simp only [List.map_cons, List.foldlM_cons, he, Sem.run_bind, Builtin.min2, Sem.run_pure, Result.andThen_ok]
        exact ih
      | _ => simp [minFn] at h
    | _ => simp [minFn] at h
theorem s_max {ρ : Operand → PV} {ev : Operand → Value} (hr : ∀ x, Rel w F L (ρ x) (ev x)) (k : IntKind) : ∀ (l : List Operand) (v n : Int), maxFn v (l.map ρ) = some n →
    ((l.map ev).foldlM Builtin.max2 (.int k v)).run P w = .ok (.int k n) w
  | [], v, n, h => by
    obtain rfl : v = n := by simpa [maxFn] using h
    rfl
  | x :: l, v, n, h => by
    have hx := hr x
    generalize hp : ρ x = p at hx
    simp only [List.map_cons, hp] at h
    cases p with
    | lit u =>
      obtain he : ev x = u := by cases hx; rfl
      cases u with
      | int k' m =>
        simp only [maxFn] at h
        have ih := s_max hr k l _ n h
        simp only [List.map_cons, List.foldlM_cons, he, Sem.run_bind, Builtin.max2, Sem.run_pure, Result.andThen_ok]
        exact ih
      | _ => simp [maxFn] at h
    | _ => simp [maxFn] at h
theorem Rel.lit_eq {v u : Value} (h : Rel w F L (.lit v) u) : u = v := by cases h; rfl
def Does (P : Program) (w : World) (L : Id → Option Loc) (F K : Nat → Prop) (s : Sem Next) (v : PV) (S' : Sto) : Prop :=
  ∃ w' L' u x, s.run P w = .ok x w' ∧ (x = .value u ∨ (x = .skip ∧ u = Go.undef)) ∧ Rel w' F L' v u ∧ Inv w' S' L' F K ∧ Ext w F L K w' F L'
theorem does_value {s : Sem Value} {v : PV} {S' : Sto} {w' : World} {L' : Id → Option Loc} {u : Value} (h : s.run P w = .ok u w') (hr : Rel w' F L' v u) (hi : Inv w' S' L' F K) (hx : Ext w F L K w' F L') :
    Does P w L F K (do pure (.value (← s))) v S' := ⟨w', L', u, .value u, by simp [h], .inl rfl, hr, hi, hx⟩
theorem does_same {s : Sem Value} {v : PV} {u : Value} (hi : Inv w S L F K) (h : s.run P w = .ok u w) (hr : Rel w F L v u) : Does P w L F K (do pure (.value (← s))) v S :=
  does_value h hr hi (.refl _ _ _ _)
theorem just {q : Option PV} {v : PV} {S S' : Sto} (h : justV S q = some (v, S')) : q = some v ∧ S' = S := by
  cases q with
  | none => cases h
  | some x =>
    simp only [justV, Option.map_some, Option.some.injEq, Prod.mk.injEq] at h
    exact ⟨by rw [h.1], h.2.symm⟩
theorem builtin_does (hi : Inv w S L F K) (s : Nat) {ρ : Operand → PV} {ev : Operand → Value} (hr : ∀ x, Rel w F L (ρ x) (ev x)) (b : Builtin) (ts : Array TypeId) (ty : TypeId) (cs : Array Bool) (xs : Array Operand)
    {v : PV} {S' : Sto} (h : builtinFn P s S b ts.toList (xs.toList.map ρ) = some (v, S')) : Does P w L F K (builtin b ts ty cs (xs.map ev)) v S' := by
  obtain ⟨ts⟩ := ts
  obtain ⟨xs⟩ := xs
  simp only at h
  cases b with
  | append =>
    simp only [builtinFn] at h
    cases ts with
    | nil => cases h
    | cons t ts =>
    cases ts with
    | nil => cases h
    | cons t' ts =>
    cases xs with
    | nil => cases h
    | cons a l =>
    cases l with
    | nil => cases h
    | cons b l =>
    simp only [List.map_cons] at h
    split at h
    · rename_i ht
      subst ht
      obtain ⟨w', L', u, h1, h2, h3, h4⟩ := s_append (P := P) hi s (hr a) (hr b) ty h
      refine does_value (w' := w') (L' := L') (u := u) ?_ h2 h3 h4
      rw [← h1]
      simp [Builtin.append_]
    · split at h
      case h_2 => cases h
      rename_i ku hku
      obtain ⟨w', L', u, h1, h2, h3, h4⟩ := s_appendZ (P := P) hi s (hr a) (hr b) ty (tkAt_int' hku) h
      refine does_value (w' := w') (L' := L') (u := u) ?_ h2 h3 h4
      rw [← h1]
      simp [Builtin.append_]
  | cap =>
    simp only [builtinFn] at h
    cases ts with
    | nil => cases h
    | cons t ts =>
    cases xs with
    | nil => cases h
    | cons a l =>
    simp only [List.map_cons] at h
    split at h
    case h_2 => cases h
    rename_i t0 ts0 l0 e1 e2
    split at h
    case h_2 => cases h
    rename_i e hk
    simp only [Option.some.injEq, Prod.mk.injEq] at h
    obtain ⟨rfl, rfl⟩ := h
    injection e1 with e1 _
    injection e2 with e2 _
    subst e1
    have ha := hr a
    rw [e2] at ha
    have ha' : ev a = .slice none 0 0 := by
      generalize ev a = q at ha
      cases ha; rfl
    refine does_value (w' := w) (L' := L) (u := .int .i64 0) ?_ (.lit _) hi (.refl _ _ _ _)
    simp [Builtin.cap_, run_underlying (tkAt_slice hk), ha', goInt]
  | clear =>
    simp only [builtinFn] at h
    cases ts with
    | nil => cases h
    | cons t ts =>
    cases xs with
    | nil => cases h
    | cons a l =>
    simp only [List.map_cons] at h
    obtain ⟨w', u, h1, h2, h3, h4⟩ := s_clear (P := P) hi (hr a) ty h
    refine does_value (w' := w') (L' := L) (u := u) ?_ h2 h3 h4
    rw [← h1]
    simp [Builtin.clear_]
  | copy =>
    simp only [builtinFn] at h
    cases ts with
    | nil => cases h
    | cons t ts =>
    cases ts with
    | nil => cases h
    | cons t' ts =>
    cases xs with
    | nil => cases h
    | cons a l =>
    cases l with
    | nil => cases h
    | cons b l =>
    simp only [List.map_cons] at h
    split at h
    · rename_i ht
      subst ht
      obtain ⟨w', u, h1, h2, h3, h4⟩ := s_copy (P := P) hi (hr a) (hr b) ty h
      refine does_value (w' := w') (L' := L) (u := u) ?_ h2 h3 h4
      rw [← h1]
      simp [Builtin.copy_]
    · cases h
  | len =>
    simp only [builtinFn] at h
    obtain ⟨h2, h3⟩ := just h
    subst h3
    clear h
    have h := h2
    clear h2
    cases ts with
    | nil => cases h
    | cons t ts =>
    cases xs with
    | nil => cases h
    | cons y l =>
    simp only [List.map_cons, pureB] at h
    split at h
    · rename_i hk
      split at h
      · rename_i b hb
        obtain rfl := Option.some.inj h
        have hy := hr y
        rw [hb] at hy
        have he : ev y = .string b := hy.lit_eq
        exact does_same hi (by simp [Builtin.len_, he, run_underlying (tkAt_str hk)]; rfl) (.lit _)
      · cases h
    · rename_i e hk
      rw [Option.map_eq_some_iff] at h
      obtain ⟨n, hn, rfl⟩ := h
      obtain ⟨a, c, he⟩ := len?_rel (hr y) hn
      exact does_same hi (by simp [Builtin.len_, he, run_underlying (tkAt_slice hk)]; rfl) (.lit _)
    · rename_i n e hk
      obtain rfl := Option.some.inj h
      exact does_same hi (by simp [Builtin.len_, run_underlying (tkAt_arr hk)]; rfl) (.lit _)
    · cases h
  | min =>
    simp only [builtinFn] at h
    obtain ⟨h2, h3⟩ := just h
    subst h3
    clear h
    have h := h2
    clear h2
    cases xs with
    | nil => simp [pureB] at h
    | cons a l =>
    have ha := hr a
    generalize hx : ρ a = p at ha
    simp only [List.map_cons, hx] at h
    cases p with
    | lit u =>
      have he := ha.lit_eq
      cases u with
      | int k v =>
        simp only [pureB] at h
        rw [Option.map_eq_some_iff] at h
        obtain ⟨n, hn, rfl⟩ := h
        refine does_same hi (u := .int k n) ?_ (.lit _)
        have := s_min (P := P) hr k l v n hn
        simpa [Builtin.min_, he] using this
      | _ => simp [pureB] at h
    | _ => simp [pureB] at h
  | max =>
    simp only [builtinFn] at h
    obtain ⟨h2, h3⟩ := just h
    subst h3
    clear h
    have h := h2
    clear h2
    cases xs with
    | nil => simp [pureB] at h
    | cons a l =>
    have ha := hr a
    generalize hx : ρ a = p at ha
    simp only [List.map_cons, hx] at h
    cases p with
    | lit u =>
      have he := ha.lit_eq
      cases u with
      | int k v =>
        simp only [pureB] at h
        rw [Option.map_eq_some_iff] at h
        obtain ⟨n, hn, rfl⟩ := h
        refine does_same hi (u := .int k n) ?_ (.lit _)
        have := s_max (P := P) hr k l v n hn
        simpa [Builtin.max_, he] using this
      | _ => simp [pureB] at h
    | _ => simp [pureB] at h
  | _ => simp [builtinFn] at h
theorem op_sound (o : Oper) (s : Nat) {ρ : Operand → PV} {ev : Operand → Value} (hr : ∀ x, Rel w F L (ρ x) (ev x)) (hi : Inv w S L F K) {v : PV} {S' : Sto}
    (h : opFn P s ρ S o.op = some (v, S')) : Does P w L F K (execOp ev o) v S' := by
  obtain ⟨dst, op, type, pos, after, guard⟩ := o
  simp only at h
  cases op with
  | move x =>
    simp only [opFn, Option.some.injEq, Prod.mk.injEq] at h
    obtain ⟨rfl, rfl⟩ := h
    exact ⟨w, L, ev x, .value (ev x), rfl, .inl rfl, hr x, hi, .refl _ _ _ _⟩
  | assign x =>
    simp only [opFn, Option.some.injEq, Prod.mk.injEq] at h
    obtain ⟨rfl, rfl⟩ := h
    exact ⟨w, L, ev x, .value (ev x), rfl, .inl rfl, hr x, hi, .refl _ _ _ _⟩
  | pick c a b =>
    simp only [opFn] at h
    split at h
    · rename_i t hc
      simp only [Option.some.injEq, Prod.mk.injEq] at h
      obtain ⟨rfl, rfl⟩ := h
      have hcr := hr c
      rw [hc] at hcr
      have hev : ev c = .bool t := hcr.lit_eq
      refine ⟨w, L, if t then ev a else ev b, .value (if t then ev a else ev b), ?_, .inl rfl, ?_, hi, .refl _ _ _ _⟩
      · simp [execOp, hev, asBool]
      · cases t
        · exact hr b
        · exact hr a
    · cases h
  | alloc e =>
    simp only [opFn] at h
    split at h
    · rename_i ti ht
      simp only [Option.some.injEq, Prod.mk.injEq] at h
      obtain ⟨rfl, rfl⟩ := h
      obtain ⟨w', L', u, h1, h2, h3, h4⟩ := s_alloc (P := P) hi ht s
      exact does_value h1 h2 h3 h4
    · cases h
  | box e x =>
    simp only [opFn, Option.some.injEq, Prod.mk.injEq] at h
    obtain ⟨rfl, rfl⟩ := h
    obtain ⟨w', L', u, h1, h2, h3, h4⟩ := s_box (P := P) (e := e) hi s (hr x)
    exact does_value h1 h2 h3 h4
  | build t parts =>
    simp only [opFn] at h
    split at h
    · rename_i ti ht
      split at h
      · rename_i hk
        rw [Option.map_eq_some_iff] at h
        obtain ⟨cs, hcs, h⟩ := h
        simp only [Prod.mk.injEq] at h
        obtain ⟨rfl, rfl⟩ := h
        obtain ⟨u, h1, h2⟩ := s_build (P := P) ht hk hr parts hcs
        exact does_same hi h1 h2
      · rename_i n e hk
        split at h
        · rename_i es hs
          rw [Option.map_eq_some_iff] at h
          obtain ⟨cs, hcs, h⟩ := h
          simp only [Prod.mk.injEq] at h
          obtain ⟨rfl, rfl⟩ := h
          obtain ⟨u, h1, h2⟩ := s_buildArr (P := P) ht hk hs hr parts hcs
          exact does_same hi h1 h2
        · cases h
      · cases h
    · cases h
  | buildSlice t len parts =>
    simp only [opFn] at h
    split at h
    · rename_i e hk
      split at h
      · rename_i te ht
        split at h
        · rename_i hc
          rw [Option.map_eq_some_iff] at h
          obtain ⟨cs, hcs, h⟩ := h
          simp only [Prod.mk.injEq] at h
          obtain ⟨rfl, rfl⟩ := h
          obtain ⟨w', L', u, h1, h2, h3, h4⟩ := s_buildSlice (P := P) hi s len hk ht hc.1 hc.2 hr parts hcs
          exact does_value h1 h2 h3 h4
        · cases h
      · cases h
    · cases h
  | load t a =>
    simp only [opFn] at h
    split at h
    · rename_i ti cs ht hc
      obtain ⟨hq, rfl⟩ := just h
      obtain ⟨u, h1, h2⟩ := s_load (P := P) hi ht (hr a) hc hq
      exact does_same hi h1 h2
    · cases h
  | store t a x =>
    simp only [opFn] at h
    split at h
    · rename_i sz ht
      obtain ⟨w', h1, rfl, h3, h4⟩ := s_store (P := P) hi ht (hr a) (hr x) h
      exact ⟨w', L, Go.undef, .skip, by simp [execOp, h1], .inr ⟨rfl, rfl⟩, .lit _, h3, h4⟩
    · cases h
  | nilCheck x =>
    have hx := hr x
    simp only [opFn] at h
    split at h
    · rename_i i off hp
      simp only [Option.some.injEq, Prod.mk.injEq] at h
      obtain ⟨rfl, rfl⟩ := h
      rw [hp] at hx
      obtain ⟨u, hu⟩ : ∃ u, ev x = u := ⟨_, rfl⟩
      rw [hu] at hx
      cases hx with
      | ptr hL => exact ⟨w, L, _, .value _, by simp [execOp, hu], .inl rfl, .ptr hL, hi, .refl _ _ _ _⟩
    · rename_i cs hp
      simp only [Option.some.injEq, Prod.mk.injEq] at h
      obtain ⟨rfl, rfl⟩ := h
      rw [hp] at hx
      obtain ⟨u, hu⟩ : ∃ u, ev x = u := ⟨_, rfl⟩
      rw [hu] at hx
      have hx' := hx
      cases hx with
      | fel b base vs hF hs hc hrr => exact ⟨w, L, _, .value _, by simp [execOp, hu], .inl rfl, hx', hi, .refl _ _ _ _⟩
    · rename_i f cs hp
      simp only [Option.some.injEq, Prod.mk.injEq] at h
      obtain ⟨rfl, rfl⟩ := h
      rw [hp] at hx
      obtain ⟨u, hu⟩ : ∃ u, ev x = u := ⟨_, rfl⟩
      rw [hu] at hx
      have hx' := hx
      cases hx with
      | fn vs hs hrr => exact ⟨w, L, _, .value _, by simp [execOp, hu], .inl rfl, hx', hi, .refl _ _ _ _⟩
    · rename_i f a b hp
      simp only [Option.some.injEq, Prod.mk.injEq] at h
      obtain ⟨rfl, rfl⟩ := h
      rw [hp] at hx
      have hu : ev x = .func (.func f) a b := hx.lit_eq
      exact ⟨w, L, _, .value _, by simp [execOp, hu], .inl rfl, .lit _, hi, .refl _ _ _ _⟩
    · cases h
  | binOp op t x y yt =>
    simp only [opFn] at h
    obtain ⟨hq, rfl⟩ := just h
    obtain ⟨u, h1, h2⟩ := s_binOp (P := P) (hr x) (hr y) hq x y
    exact does_same hi h1 h2
  | unOp op t x =>
    simp only [opFn] at h
    obtain ⟨hq, rfl⟩ := just h
    obtain ⟨u, h1, h2⟩ := s_unOp (P := P) (hr x) hq
    exact does_same hi h1 h2
  | convert src d x =>
    simp only [opFn] at h
    split at h
    · rename_i i off n hx
      split at h
      · rename_i e ys h1 h2 h3
        split at h
        · rename_i b h4 h5
          simp only [Option.some.injEq, Prod.mk.injEq] at h
          obtain ⟨rfl, rfl⟩ := h
          have hq := hr x
          rw [hx] at hq
          exact does_same hi (s_bytes hi hq h1 h2 h3 h4 h5) (.lit _)
        · cases h
      · cases h
    · obtain ⟨hq, rfl⟩ := just h
      obtain ⟨u, h1, h2⟩ := s_conv (P := P) (hr x) hq
      exact does_same hi h1 h2
  | makeFunc fn first cap =>
    cases fn <;> simp only [opFn] at h <;> first | (cases h; done) | skip
    split at h
    · rename_i f hf
      simp only [Option.some.injEq, Prod.mk.injEq] at h
      obtain ⟨rfl, rfl⟩ := h
      have hfe : first = #[] := Array.eq_empty_of_size_eq_zero hf
      subst hfe
      refine does_same hi (u := .func (.func f) #[] (cap.map ev)) (by simp [Instr.makeFunc]) (.fn _ (by simp) (fun j c u hc hu => ?_))
      simp only [List.getElem?_map, Array.toList_map, Option.map_eq_some_iff] at hc hu
      obtain ⟨x, hx, rfl⟩ := hc
      obtain ⟨y, hy, rfl⟩ := hu
      obtain rfl : x = y := by rw [hx] at hy; exact Option.some.inj hy
      exact hr x
    · cases h
  | makeSlice t l c =>
    simp only [opFn] at h
    split at h
    · rename_i e k n k' m hk hl hc
      split at h
      · rename_i te ht
        split at h
        · rename_i hb
          simp only [Option.some.injEq, Prod.mk.injEq] at h
          obtain ⟨rfl, rfl⟩ := h
          have e1 : ev l = .int k n := by have := hr l; rw [hl] at this; exact this.lit_eq
          have e2 : ev c = .int k' m := by have := hr c; rw [hc] at this; exact this.lit_eq
          obtain ⟨w', L', u, h1, h2, h3, h4⟩ := s_makeSlice (P := P) hi s k k' hk ht hb.1 hb.2.1 hb.2.2.1 hb.2.2.2.1 hb.2.2.2.2
          rw [← e1, ← e2] at h1
          exact does_value h1 h2 h3 h4
        · cases h
      · cases h
    · cases h
  | slice t x lo hi' mx =>
    cases mx with
    | some m => simp [opFn] at h
    | none =>
    simp only [opFn] at h
    split at h
    · rename_i e hk
      split at h
      · rename_i es n hs hn
        split at h
        · rename_i l hh h1 h2
          split at h
          · rename_i hb
            obtain ⟨hq, rfl⟩ := just h
            obtain ⟨u, g1, g2⟩ := s_slice (P := P) hi hk hs hr hn h1 h2 hb.1 hb.2.1 hb.2.2 hq
            exact does_same hi g1 g2
          · cases h
        · cases h
      · cases h
    · rename_i hk
      split at h
      · rename_i b hx
        split at h
        · rename_i l hh h1 h2
          split at h
          · rename_i hb
            simp only [Option.some.injEq, Prod.mk.injEq] at h
            obtain ⟨rfl, rfl⟩ := h
            have he : ev x = .string b := by have := hr x; rw [hx] at this; exact this.lit_eq
            exact does_same hi (s_sliceStr (P := P) hk hr he h1 h2 hb.1 hb.2.1 hb.2.2) (.lit _)
          · cases h
        · cases h
      · cases h
    · cases h
  | fieldAddr t x f =>
    simp only [opFn] at h
    split at h
    · rename_i ti ht
      split at h
      · rename_i fi hf
        split at h
        · rename_i hc
          obtain ⟨hq, rfl⟩ := just h
          obtain ⟨u, h1, h2⟩ := s_fieldAddr (P := P) ht hc.2 hf hc.1 (hr x) hq
          exact does_same hi h1 h2
        · cases h
      · cases h
    · cases h
  | field t x f =>
    simp only [opFn] at h
    split at h
    · rename_i ti ht
      split at h
      · rename_i fi cs hf hc
        split at h
        · rename_i hk
          obtain ⟨hq, rfl⟩ := just h
          obtain ⟨u, h1, h2⟩ := s_field (P := P) ht hk hf (hr x) hc hq
          exact does_same hi h1 h2
        · cases h
      · cases h
    · cases h
  | indexAddr t x i =>
    simp only [opFn] at h
    split at h
    · rename_i e j hk hj
      split at h
      · rename_i es n hs hn
        split at h
        · rename_i hb
          obtain ⟨hq, rfl⟩ := just h
          obtain ⟨k, hu⟩ := int?_rel (hr i) hj
          obtain ⟨u, h1, h2⟩ := s_indexAddr (P := P) hk hs (hr x) hn hu hb.1 hb.2 hq
          exact does_same hi h1 h2
        · cases h
      · cases h
    · rename_i n e j hk hj
      split at h
      · rename_i es hs
        split at h
        · rename_i hb
          obtain ⟨hq, rfl⟩ := just h
          obtain ⟨k, hu⟩ := int?_rel (hr i) hj
          obtain ⟨u, h1, h2⟩ := s_indexArr (P := P) hk hs (hr x) hu hb.1 hb.2 hq
          exact does_same hi h1 h2
        · cases h
      · cases h
    · cases h
  | index t x i =>
    simp only [opFn] at h
    split at h
    · rename_i n e j hk hj
      split at h
      · rename_i te cs ht hc
        split at h
        · rename_i hb
          obtain ⟨hq, rfl⟩ := just h
          obtain ⟨k, hu⟩ := int?_rel (hr i) hj
          obtain ⟨u, h1, h2⟩ := s_index (P := P) hk ht (hr x) hc hu hb.1 hb.2 hq
          exact does_same hi h1 h2
        · cases h
      · cases h
    · rename_i j hk hj
      split at h
      · rename_i b hx
        split at h
        · rename_i h0
          rw [Option.map_eq_some_iff] at h
          obtain ⟨c, hc, h⟩ := h
          simp only [Prod.mk.injEq] at h
          obtain ⟨rfl, rfl⟩ := h
          obtain ⟨k, hu⟩ := int?_rel (hr i) hj
          have he : ev x = .string b := by have := hr x; rw [hx] at this; exact this.lit_eq
          refine does_same hi (u := .int .u8 (c.toNat : Nat)) ?_ (.lit _)
          rw [he, hu]
          simp [Instr.index, asIntOf, run_underlying (tkAt_str hk), h0, hc]
        · cases h
      · cases h
    · cases h
  | extract x ix =>
    have hx := hr x
    simp only [opFn] at h
    split at h
    · rename_i vs hp
      rw [Option.map_eq_some_iff] at h
      obtain ⟨c, hc, h⟩ := h
      simp only [Prod.mk.injEq] at h
      obtain ⟨rfl, rfl⟩ := h
      rw [hp] at hx
      obtain ⟨u, hu⟩ : ∃ u, ev x = u := ⟨_, rfl⟩
      rw [hu] at hx
      cases hx with
      | tup us hs hrr =>
        have hlt : ix < us.size := by
          have := (List.getElem?_eq_some_iff.1 hc).1
          simp at hs; omega
        refine does_same hi (u := us[ix]) ?_ (hrr ix _ _ hc (by simp))
        rw [hu]
        simp [Instr.extract, hlt]
    · rename_i vs hp
      rw [Option.map_eq_some_iff] at h
      obtain ⟨c, hc, h⟩ := h
      simp only [Prod.mk.injEq] at h
      obtain ⟨rfl, rfl⟩ := h
      have he : ev x = .tuple vs := by rw [hp] at hx; exact hx.lit_eq
      refine does_same hi (u := c) ?_ (.lit _)
      rw [he]
      simp [Instr.extract, hc]
    · cases h
  | call c =>
    obtain ⟨callee, xs, ts⟩ := c
    cases callee with
    | builtin b =>
      simp only [opFn] at h
      exact builtin_does (P := P) hi s hr b ts type _ xs h
    | value f => simp [opFn] at h
    | invoke r m => simp [opFn] at h
  | _ => simp [opFn] at h
end Go.Abs
end
section
namespace Go.Abs
open Go
inductive Plain : PV → Prop
  | lit (v : Value) : Plain (.lit v)
  | sl {cs : List PV} (n : Nat) (h : ∀ c ∈ cs, Plain c) : Plain (.sl cs n)
  | agg {cs : List PV} (h : ∀ c ∈ cs, Plain c) : Plain (.agg cs)
  | tup {cs : List PV} (h : ∀ c ∈ cs, Plain c) : Plain (.tup cs)
  | fel {cs : List PV} (h : ∀ c ∈ cs, Plain c) : Plain (.fel cs)
  | fn (f : FuncId) {cs : List PV} (h : ∀ c ∈ cs, Plain c) : Plain (.fn f cs)
inductive Scal : PV → Prop
  | lit (v : Value) : Scal (.lit v)
  | agg {cs : List PV} (h : ∀ c ∈ cs, Scal c) : Scal (.agg cs)
  | tup {cs : List PV} (h : ∀ c ∈ cs, Scal c) : Scal (.tup cs)
inductive View (S : Sto) (z : Bool) : PV → PV → Prop
  | refl (p : PV) : View S z p p
  | loc {i : Id} {o : Obj} {off n : Nat} {cs : List PV} (ho : S.obj i = some o) (hz : z = true → o.frz = true) (hl : cs.length = ((o.cells.drop off).take (n * o.es)).length)
      (h : ∀ (j : Nat) c d, ((o.cells.drop off).take (n * o.es))[j]? = some c → cs[j]? = some d → View S z c d) : View S z (.loc i off n) (.sl cs n)
  | ptr {i : Id} {o : Obj} {off : Nat} {cs : List PV} (ho : S.obj i = some o) (hz : z = true → o.frz = true) (hl : cs.length = (o.cells.drop off).length)
      (h : ∀ (j : Nat) c d, (o.cells.drop off)[j]? = some c → cs[j]? = some d → View S z c d) : View S z (.ptr i off) (.fel cs)
  | sl {cs ds : List PV} {n : Nat} (hl : ds.length = cs.length) (h : ∀ (j : Nat) c d, cs[j]? = some c → ds[j]? = some d → View S z c d) : View S z (.sl cs n) (.sl ds n)
  | agg {cs ds : List PV} (hl : ds.length = cs.length) (h : ∀ (j : Nat) c d, cs[j]? = some c → ds[j]? = some d → View S z c d) : View S z (.agg cs) (.agg ds)
  | tup {cs ds : List PV} (hl : ds.length = cs.length) (h : ∀ (j : Nat) c d, cs[j]? = some c → ds[j]? = some d → View S z c d) : View S z (.tup cs) (.tup ds)
  | fn {f : FuncId} {cs ds : List PV} (hl : ds.length = cs.length) (h : ∀ (j : Nat) c d, cs[j]? = some c → ds[j]? = some d → View S z c d) : View S z (.fn f cs) (.fn f ds)
def ViewL (S : Sto) (z : Bool) (cs ds : List PV) : Prop := ds.length = cs.length ∧ ∀ (j : Nat) c d, cs[j]? = some c → ds[j]? = some d → View S z c d
inductive Own : PV → Prop
  | lit (v : Value) : Own (.lit v)
  | loc (i : Id) (off n : Nat) : Own (.loc i off n)
  | ptr (i : Id) (off : Nat) : Own (.ptr i off)
  | agg {cs : List PV} (h : ∀ c ∈ cs, Own c) : Own (.agg cs)
  | tup {cs : List PV} (h : ∀ c ∈ cs, Own c) : Own (.tup cs)
def Id.up (g : Nat → Nat) (i : Id) : Id := ⟨i.s, g i.s + i.g⟩
mutual
def PV.ren (g : Nat → Nat) : PV → PV
  | .loc i off n => .loc (Id.up g i) off n
  | .ptr i off => .ptr (Id.up g i) off
  | .agg cs => .agg (renL g cs)
  | .tup cs => .tup (renL g cs)
  | .lit v => .lit v
  | .sl cs n => .sl cs n
  | .fel cs => .fel cs
  | .fn f cs => .fn f cs
def renL (g : Nat → Nat) : List PV → List PV
  | [] => []
  | c :: cs => PV.ren g c :: renL g cs
end
theorem renL_eq (g : Nat → Nat) : ∀ cs : List PV, renL g cs = cs.map (PV.ren g)
  | [] => by simp only [renL, List.map_nil]
  | c :: cs => by simp only [renL, List.map_cons, renL_eq g cs]
def Sto.merge (S S' : Sto) (keep : Id → Bool) : Sto :=
  ⟨fun i => if i.g < S.gen i.s then S.obj i else if keep ⟨i.s, i.g - S.gen i.s⟩ = true then (S'.obj ⟨i.s, i.g - S.gen i.s⟩).map fun o => { o with cells := renL S.gen o.cells } else none, fun s => S.gen s + S'.gen s⟩
def calleeOf : PV → Option (FuncId × List PV)
  | .fn f cs => some (f, cs)
  | .lit (.func (.func f) a b) => if a.size = 0 then some (f, b.toList.map .lit) else none
  | _ => none
def Sto.empty : Sto := ⟨fun _ => none, fun _ => 0⟩
def Tm.of (ps : List PV) : Tm := fun t => (ps[t]?).getD .undef
inductive Cls where
  | p | r | n
  /-- a row of one's own is read; and a call that writes no row -/
  | q | m
  deriving DecidableEq
def clsOf : Op → Cls
  | .move _ | .assign _ | .pick _ _ _ | .build _ _ | .binOp _ _ _ _ _ | .unOp _ _ _ | .makeFunc _ _ _ | .fieldAddr _ _ _ | .field _ _ _ | .indexAddr _ _ _ | .index _ _ _
  | .extract _ _ | .nilCheck _ => .p
  | .load _ _ | .slice _ _ _ _ _ | .convert _ _ _ => .r
  | .call { callee := .builtin .len, .. } | .call { callee := .builtin .min, .. } | .call { callee := .builtin .max, .. } => .p
  | .call { callee := .value _, .. } => .r
  | _ => .n
def Cls.le : Cls → Cls → Bool
  | .p, _ => true
  | _, .n => true
  | .r, .r => true
  | _, _ => false
def Obj.rd (o : Obj) : Bool := match o.es, o.cells with
  | 0, [_, .lit (.int _ _)] => true
  | 1, _ => true
  | _, _ => false
def Cls.rn : Cls → Bool
  | .r | .n => true
  | _ => false
def Sto.back (S S' : Sto) : Sto := ⟨fun j => if (S.obj j).isSome ∧ j.g < S.gen j.s then S'.obj j else none, S'.gen⟩
def wantFn (os : Array Oper) (tm : Tm) (o : Oper) : Option Bool :=
  match o.guard with
  | none => some true
  | some (j, want) => match (os[j]?).bind (·.dst) with
    | some d => match tm d with
      | .lit (.bool b) => some (b == want)
      | .lit (.tuple _) => some false
      | _ => none
    | none => none
abbrev CallP := FuncId → List PV → Sto → PV → Sto → Prop
inductive Step (C : CallP) (P : Program) (os : Array Oper) (κ : Cls) (o : Oper) : Tm → Sto → PV → Sto → Prop
  | skp {tm : Tm} {S : Sto} (h : wantFn os tm o = some false) : Step C P os κ o tm S .undef S
  | one {tm : Tm} {S S' : Sto} {v : PV} (hw : wantFn os tm o = some true) (hk : (clsOf o.op).le κ = true) (h : opFn P (o.dst.getD 0) tm.opnd S o.op = some (v, S')) : Step C P os κ o tm S v S'
  /-- an operation that does not look at the store as it stands here -/
  | oneP {tm : Tm} {S : Sto} {v : PV} (hw : wantFn os tm o = some true) (h : ∀ S', opFn P (o.dst.getD 0) tm.opnd S' o.op = some (v, S')) : Step C P os κ o tm S v S
  /-- a row is made that is written no more, whatever stands in the store -/
  | oneI {tm : Tm} {S : Sto} {q : PV} (hw : wantFn os tm o = some true) (hq : Plain q)
      (h : ∀ S : Sto, ∃ v S' i ob, opFn P (o.dst.getD 0) tm.opnd S o.op = some (v, S') ∧ S'.obj i = some ob ∧ View (S'.set i { ob with frz := true }) true v q ∧ S.gen i.s ≤ i.g ∧ ∀ j o', S.obj j = some o' → j.g < S.gen j.s → S'.obj j = some o') : Step C P os κ o tm S q S
  /-- an operation that makes an object that is written no more -/
  | oneF {tm : Tm} {S S' : Sto} {v q : PV} {i : Id} {ob : Obj} (hw : wantFn os tm o = some true) (hk : κ = .n) (h : opFn P (o.dst.getD 0) tm.opnd S o.op = some (v, S')) (hob : S'.obj i = some ob)
      (hv : View (S'.set i { ob with frz := true }) true v q) : Step C P os κ o tm S q (S'.set i { ob with frz := true })
  /-- a call that sees frozen things alone -/
  | callP {tm : Tm} {S S' : Sto} {x : Operand} {xs : Array Operand} {ts : Array TypeId} {f : FuncId} {cs ps : List PV} {r q : PV} (hw : wantFn os tm o = some true) (hk : κ.rn = true)
      (ho : o.op = .call ⟨.value x, xs, ts⟩) (hc : calleeOf (tm.opnd x) = some (f, cs)) (hv : ViewL S true (xs.toList.map tm.opnd ++ cs) ps) (hp : ∀ p ∈ ps, Plain p)
      (h : C f ps .empty r S') (hr : View S' false r q) (hq : Plain q) : Step C P os κ o tm S q S
  /-- a call that sees objects of one's own, and answers with numbers -/
  | callB {tm : Tm} {S S' : Sto} {x : Operand} {xs : Array Operand} {ts : Array TypeId} {f : FuncId} {cs ps : List PV} {r : PV} (hw : wantFn os tm o = some true) (hk : κ.rn = true)
      (ho : o.op = .call ⟨.value x, xs, ts⟩) (hc : calleeOf (tm.opnd x) = some (f, cs)) (hv : ViewL S false (xs.toList.map tm.opnd ++ cs) ps) (hp : ∀ p ∈ ps, Plain p)
      (h : C f ps .empty r S') (hr : Scal r) : Step C P os κ o tm S r S
  /-- a call that sees objects of one's own, and answers with a row of numbers -/
  | callV {tm : Tm} {S S' : Sto} {x : Operand} {xs : Array Operand} {ts : Array TypeId} {f : FuncId} {cs ps : List PV} {i : Id} {ob : Obj} {off n : Nat} (hw : wantFn os tm o = some true) (hk : κ.rn = true)
      (ho : o.op = .call ⟨.value x, xs, ts⟩) (hc : calleeOf (tm.opnd x) = some (f, cs)) (hv : ViewL S false (xs.toList.map tm.opnd ++ cs) ps) (hp : ∀ p ∈ ps, Plain p)
      (h : C f ps .empty (.loc i off n) S') (hob : S'.obj i = some ob) (hoff : ob.cells.length = off + n * ob.es) (hs : ∀ c ∈ ob.cells, Scal c) : Step C P os κ o tm S (.sl (ob.cells.drop off) n) S
  /-- a call whose answer is an object that becomes one's own -/
  | callA {tm : Tm} {S S' : Sto} {x : Operand} {xs : Array Operand} {ts : Array TypeId} {f : FuncId} {cs ps ds : List PV} {i : Id} {ob : Obj} {off n : Nat} {z : Bool} (hw : wantFn os tm o = some true) (hk : κ = .n)
      (ho : o.op = .call ⟨.value x, xs, ts⟩) (hc : calleeOf (tm.opnd x) = some (f, cs)) (hv : ViewL S z (xs.toList.map tm.opnd ++ cs) ps) (hp : ∀ p ∈ ps, Plain p)
      (h : C f ps .empty (.loc i off n) S') (hob : S'.obj i = some ob) (hz : ob.frz = false) (hoff : off ≤ ob.cells.length) (hd : ViewL (S'.del i) false (ob.cells.drop off) ds) (hpl : ∀ d ∈ ds, Plain d)
      (hs : z = false → ∀ c ∈ ob.cells, Scal c) :
      Step C P os κ o tm S (.loc (S.next (o.dst.getD 0)) 0 n) (S.add (o.dst.getD 0) ⟨ds, ob.es, false⟩)
  /-- a call whose answer, and the objects that it leads to, become one's own -/
  | callG {tm : Tm} {S S' : Sto} {x : Operand} {xs : Array Operand} {ts : Array TypeId} {f : FuncId} {cs ps : List PV} {r : PV} {keep : Id → Bool} (hw : wantFn os tm o = some true) (hk : κ = .n)
      (ho : o.op = .call ⟨.value x, xs, ts⟩) (hc : calleeOf (tm.opnd x) = some (f, cs)) (hv : ViewL S false (xs.toList.map tm.opnd ++ cs) ps) (hp : ∀ p ∈ ps, Plain p)
      (h : C f ps .empty r S') (hkeep : ∀ i, keep i = true → ∃ ob, S'.obj i = some ob ∧ ob.frz = false ∧ ∀ c ∈ ob.cells, Own c) (hr : Own r) :
      Step C P os κ o tm S (r.ren S.gen) (S.merge S' keep)
  /-- a call in one's own store -/
  | callS {tm : Tm} {S S' : Sto} {x : Operand} {xs : Array Operand} {ts : Array TypeId} {f : FuncId} {cs : List PV} {r : PV} (hw : wantFn os tm o = some true) (hk : κ = .n)
      (ho : o.op = .call ⟨.value x, xs, ts⟩) (hc : calleeOf (tm.opnd x) = some (f, cs))
      (h : C f (xs.toList.map tm.opnd ++ cs) S r S') : Step C P os κ o tm S r S'
  /-- a row of one's own is read -/
  | oneK {tm : Tm} {S : Sto} {v : PV} {d : Id} {ob : Obj} (hw : wantFn os tm o = some true) (hk : κ = .q) (hob : S.obj d = some ob) (hg : d.g < S.gen d.s) (hes : ob.rd = false)
      (h : ∀ S' : Sto, S'.obj d = some ob → opFn P (o.dst.getD 0) tm.opnd S' o.op = some (v, S')) : Step C P os κ o tm S v S
  /-- an operation that writes and makes no other things than those -/
  | oneW {tm : Tm} {S S' : Sto} {v : PV} (hw : wantFn os tm o = some true) (hk : κ = .m) (h : opFn P (o.dst.getD 0) tm.opnd S o.op = some (v, S'))
      (hkeep : ∀ j ob, S.obj j = some ob → j.g < S.gen j.s → ob.rd = false → S'.obj j = some ob ∧ j.g < S'.gen j.s) (hback : ∀ j ob, S'.obj j = some ob → j.g < S'.gen j.s → ob.rd = false → S.obj j = some ob ∧ j.g < S.gen j.s) : Step C P os κ o tm S v S'
  /-- a row is made that is written no more -/
  | oneM {tm : Tm} {S S' : Sto} {v q : PV} {i : Id} {ob : Obj} (hw : wantFn os tm o = some true) (hk : κ = .m) (h : opFn P (o.dst.getD 0) tm.opnd S o.op = some (v, S')) (hob : S'.obj i = some ob)
      (hv : View (S'.set i { ob with frz := true }) true v q) (hgen : ∀ s, S.gen s ≤ S'.gen s) (hkeep : ∀ j ob', S.obj j = some ob' → j.g < S.gen j.s → j ≠ i ∧ S'.obj j = some ob') : Step C P os κ o tm S q (S.back S')
  /-- a call in one's own store that writes no row, and hands back nothing that it made and may write -/
  | callM {tm : Tm} {S S' : Sto} {x : Operand} {xs : Array Operand} {ts : Array TypeId} {f : FuncId} {cs : List PV} {r : PV} (hw : wantFn os tm o = some true) (hk : κ = .m)
      (ho : o.op = .call ⟨.value x, xs, ts⟩) (hc : calleeOf (tm.opnd x) = some (f, cs))
      (h : C f (xs.toList.map tm.opnd ++ cs) S r S') (hgen : ∀ s, S.gen s ≤ S'.gen s)
      (hkeep : ∀ j ob, S.obj j = some ob → j.g < S.gen j.s → ∃ ob', S'.obj j = some ob' ∧ (ob.rd = false → ob' = ob) ∧ (ob.rd = true → ob'.rd = true)) : Step C P os κ o tm S r (S.back S')
inductive Ops (C : CallP) (P : Program) (os : Array Oper) (κ : Nat → Cls) : List Nat → Tm → Sto → Tm → Sto → Prop
  | nil {tm : Tm} {S : Sto} : Ops C P os κ [] tm S tm S
  | cons {i : Nat} {is : List Nat} {o : Oper} {tm tm' : Tm} {S S1 S' : Sto} {v : PV} (ho : os[i]? = some o) (h : Step C P os (κ i) o tm S v S1)
      (hr : Ops C P os κ is (tm.put o.dst v) S1 tm' S') : Ops C P os κ (i :: is) tm S tm' S'
def tmpsOf (l : List Operand) : List Tmp := l.filterMap fun | .tmp t => some t | _ => none
def readsOf (os : Array Oper) (o : Oper) : List Tmp :=
  tmpsOf o.op.operands.toList ++ (match o.guard with | some (j, _) => ((os[j]?).bind (·.dst)).toList | none => [])
def apart (os : Array Oper) (a b : Oper) : Bool :=
  a.dst.toList.all (fun d => !(readsOf os b).contains d && b.dst != some d) && b.dst.toList.all (fun d => !(readsOf os a).contains d)
def clsFree : Cls → Cls → Bool
  | .p, _ | _, .p | .r, .r | .q, .q | .q, .r | .r, .q | .q, .m | .m, .q => true
  | _, _ => false
def indep (os : Array Oper) (κ : Nat → Cls) : Bool :=
  let m := Region.before os
  (List.range os.size).all fun i => ((os.getD i default).after.toList.all fun e => !Region.binds .any e || decide (e.on < i)) && (List.range i).all fun j =>
    (m.getD i 0).testBit j || (clsFree (κ j) (κ i) && apart os (os.getD j default) (os.getD i default))
def ntOf (P : Program) (f : FuncId) : Nat := ((P.funcs[f]?).map (·.ntmps)).getD 0
def dstsOk (n : Nat) (os : Array Oper) : Bool := os.toList.all fun o => o.dst.toList.all fun d => decide (d < n)
def resFn (P : Program) (tm : Tm) (S : Sto) : ResultVar → Option PV
  | .tmp t => some (tm t)
  | .cell a t => match tiOf P t, S.cellsOf (tm a) with
    | some ti, some cs => ti.load cs
    | _, _ => none
def resL (P : Program) (tm : Tm) (S : Sto) : List ResultVar → Option (List PV)
  | [] => some []
  | r :: l => match resFn P tm S r, resL P tm S l with
    | some p, some ps => some (p :: ps)
    | _, _ => none
def resOf (P : Program) (f : FuncId) (tm : Tm) (S : Sto) : Option PV :=
  match P.funcs[f]? with
  | some fn => match resL P tm S fn.results.toList with
    | some [p] => some p
    | some ps => some (.tup ps)
    | none => none
  | none => none
inductive Ev (C : CallP) (P : Program) (f : FuncId) : List Item → Tm → Sto → PV → Sto → Prop
  | fin {tm : Tm} {S : Sto} {v : PV} (h : resOf P f tm S = some v) : Ev C P f [] tm S v S
  | ret {k : List Item} {tm : Tm} {S : Sto} {v : PV} (h : resOf P f tm S = some v) : Ev C P f (.code .ret :: k) tm S v S
  | skip {k : List Item} {tm : Tm} {S S' : Sto} {v : PV} (h : Ev C P f k tm S v S') : Ev C P f (.code .skip :: k) tm S v S'
  | label {l : Nat} {k : List Item} {tm : Tm} {S S' : Sto} {v : PV} (h : Ev C P f k tm S v S') : Ev C P f (.code (.label l) :: k) tm S v S'
  | inBlock {l : Nat} {k : List Item} {tm : Tm} {S S' : Sto} {v : PV} (h : Ev C P f k tm S v S') : Ev C P f (.inBlock l :: k) tm S v S'
  | inScope {c : Code} {k : List Item} {tm : Tm} {S S' : Sto} {v : PV} (h : Ev C P f k tm S v S') : Ev C P f (.inScope c :: k) tm S v S'
  | seq {a b : Code} {k : List Item} {tm : Tm} {S S' : Sto} {v : PV} (h : Ev C P f (.code a :: .code b :: k) tm S v S') : Ev C P f (.code (.seq a b) :: k) tm S v S'
  | cond {c : Operand} {a b : Code} {t : Bool} {k : List Item} {tm : Tm} {S S' : Sto} {v : PV} (hc : tm.opnd c = .lit (.bool t)) (h : Ev C P f (.code (if t then a else b) :: k) tm S v S') :
      Ev C P f (.code (.cond c a b) :: k) tm S v S'
  | block {l : Nat} {a : Code} {k : List Item} {tm : Tm} {S S' : Sto} {v : PV} (h : Ev C P f (.code a :: .inBlock l :: k) tm S v S') : Ev C P f (.code (.block l a) :: k) tm S v S'
  | scope {a : Code} {k : List Item} {tm : Tm} {S S' : Sto} {v : PV} (h : Ev C P f (.code a :: .inScope a :: k) tm S v S') : Ev C P f (.code (.scope a) :: k) tm S v S'
  | loop {a : Code} {k : List Item} {tm : Tm} {S S' : Sto} {v : PV} (h : Ev C P f (.code a :: .inLoop a :: k) tm S v S') : Ev C P f (.code (.loop a) :: k) tm S v S'
  | inLoop {a : Code} {k : List Item} {tm : Tm} {S S' : Sto} {v : PV} (h : Ev C P f (.code a :: .inLoop a :: k) tm S v S') : Ev C P f (.inLoop a :: k) tm S v S'
  | exit {l : Nat} {k k' : List Item} {tm : Tm} {S S' : Sto} {v : PV} (hk : exitTo l k = some k') (h : Ev C P f k' tm S v S') : Ev C P f (.code (.exit l) :: k) tm S v S'
  | goto {l : Nat} {k k' : List Item} {tm : Tm} {S S' : Sto} {v : PV} (hk : gotoIn l k = some k') (h : Ev C P f k' tm S v S') : Ev C P f (.code (.goto l) :: k) tm S v S'
  | region {id : Nat} {os : Array Oper} {draw : Bool} {k : List Item} {tm tm1 : Tm} {S S1 S' : Sto} {v : PV} (κ : Nat → Cls) (hd : dstsOk (ntOf P f) os = true) (hi : draw = true → indep os κ = true)
      (ho : Ops C P os κ (List.range os.size) tm S tm1 S1) (h : Ev C P f k tm1 S1 v S') : Ev C P f (.code (.region id os draw) :: k) tm S v S'
  /-- an object is written no more -/
  | freeze {k : List Item} {tm : Tm} {S S' : Sto} {v : PV} (i : Id) {o : Obj} (ho : S.obj i = some o) (h : Ev C P f k tm (S.set i { o with frz := true }) v S') : Ev C P f k tm S v S'
  /-- an object's first cells alone -/
  | trim {k : List Item} {tm : Tm} {S S' : Sto} {v : PV} (i : Id) {o : Obj} (m : Nat) (ho : S.obj i = some o) (h : Ev C P f k tm (S.set i { o with cells := o.cells.take m }) v S') : Ev C P f k tm S v S'
  /-- an object's cells as one sees them -/
  | seeC {k : List Item} {tm : Tm} {S S' : Sto} {v : PV} (i : Id) {o : Obj} {ds : List PV} (ho : S.obj i = some o) (hv : ViewL S true o.cells ds) (h : Ev C P f k tm (S.set i { o with cells := ds }) v S') : Ev C P f k tm S v S'
  /-- a temporary's value as one sees it -/
  | see {k : List Item} {tm : Tm} {S S' : Sto} {v : PV} (t : Tmp) {q : PV} (hv : View S true (tm t) q) (h : Ev C P f k (tm.put (some t) q) S v S') : Ev C P f k tm S v S'
def Enters (P : Program) (f : FuncId) (n : Nat) (c : Code) : Prop :=
  ∃ fn, P.funcs[f]? = some fn ∧ fn.body = some c ∧ n ≤ fn.ntmps ∧ (fn.name == "runtime.NumGoroutine") = false
def Ent (P : Program) (f : FuncId) : Prop := ∃ fn c, P.funcs[f]? = some fn ∧ fn.body = some c ∧ (fn.name == "runtime.NumGoroutine") = false
def Gives (P : Program) : CallP := fun f ps S r S' => Ent P f ∧ ∀ (vals : Array Value) w L F K, RelA w F L ps vals.toList → Inv w S L F K →
  Calls P f vals w fun e w' => ∃ val L' F', e = .returned val ∧ Rel w' F' L' r val ∧ Inv w' S' L' F' K ∧ Ext w F L K w' F' L'
def CallD (P : Program) : Nat → CallP
  | 0 => fun _ _ _ _ _ => False
  | d + 1 => fun f ps S r S' => (∃ c, Enters P f ps.length c ∧ Ev (CallD P d) P f [.code c] (Tm.of ps) S r S') ∨ Gives P f ps S r S'
def Call (P : Program) : CallP := fun f ps S r S' => ∃ d, CallD P d f ps S r S'
end Go.Abs
end
section
namespace Go.Abs
open Go
variable {P : Program} {w : World} {S : Sto} {L : Id → Option Loc} {F K : Nat → Prop}
def Blk (S : Sto) (L : Id → Option Loc) (b : Nat) : Prop := ∃ i o ℓ, S.obj i = some o ∧ L i = some ℓ ∧ ℓ.b = b
theorem Rel.grow {F' : Nat → Prop} {p : PV} {v : Value} (h : Rel w F L p v) (hF : ∀ b, F b → F' b) : Rel w F' L p v := h.mono hF (fun _ _ => rfl) (fun _ _ h => h)
theorem RelA.grow {F' : Nat → Prop} {cs : List PV} {vs : List Value} (h : RelA w F L cs vs) (hF : ∀ b, F b → F' b) : RelA w F' L cs vs := h.mono fun _ _ r => r.grow hF
theorem Rel.plain {L' : Id → Option Loc} {p : PV} {v : Value} (h : Rel w F L p v) (hp : Plain p) : Rel w F L' p v := by
  induction h with
  | lit v => exact .lit v
  | sl b base cap vs hF hn hs hc hr ih =>
    cases hp with
    | sl n h => exact .sl b base cap vs hF hn hs hc (fun j c u e1 e2 => ih j c u e1 e2 (h c (List.mem_of_getElem? e1)))
  | wild a => exact .wild a
  | agg vs hs hr ih =>
    cases hp with
    | agg h => exact .agg vs hs (fun j c u e1 e2 => ih j c u e1 e2 (h c (List.mem_of_getElem? e1)))
  | tup vs hs hr ih =>
    cases hp with
    | tup h => exact .tup vs hs (fun j c u e1 e2 => ih j c u e1 e2 (h c (List.mem_of_getElem? e1)))
  | fel b base vs hF hs hc hr ih =>
    cases hp with
    | fel h => exact .fel b base vs hF hs hc (fun j c u e1 e2 => ih j c u e1 e2 (h c (List.mem_of_getElem? e1)))
  | loc => cases hp
  | ptr => cases hp
  | fn vs hs hr ih =>
    cases hp with
    | fn f h => exact .fn vs hs (fun j c u e1 e2 => ih j c u e1 e2 (h c (List.mem_of_getElem? e1)))
theorem Rel.cut {w2 : World} {F2 : Nat → Prop} {L2 L3 : Id → Option Loc} {p : PV} {v : Value} (h : Rel w F L p v) (hL : ∀ i ℓ ℓ', L i = some ℓ → L2 i = some ℓ' → L3 i = some ℓ') : ∀ {u : Value}, Rel w2 F2 L2 p u → Rel w2 F2 L3 p u := by
  have at_ : ∀ {cs : List PV} {vs : List Value} {j : Nat} {c : PV}, vs.length = cs.length → cs[j]? = some c → ∃ x, vs[j]? = some x := fun {cs vs j c} hs e => by
    have := (List.getElem?_eq_some_iff.1 e).1
    exact ⟨_, List.getElem?_eq_getElem (by omega)⟩
  induction h with
  | lit v => intro u h2; cases h2; exact .lit _
  | sl b base cap vs hF hn hs hc hr ih =>
    intro u h2
    cases h2 with
    | sl b' base' cap' vs' hF' hn' hs' hc' hr' => exact .sl b' base' cap' vs' hF' hn' hs' hc' fun j c u e1 e2 => (at_ hs e1).elim fun x hx => ih j c x e1 hx (hr' j c u e1 e2)
    | wild a => exact .wild a
  | wild a =>
    intro u h2
    cases h2 with
    | sl b' base' cap' vs' hF' hn' hs' hc' hr' => exact .sl b' base' cap' vs' hF' hn' hs' hc' fun j c u e1 e2 => by simp at e1
    | wild a => exact .wild a
  | agg vs hs hr ih =>
    intro u h2
    cases h2 with
    | agg vs' hs' hr' => exact .agg vs' hs' fun j c u e1 e2 => (at_ hs e1).elim fun x hx => ih j c x e1 hx (hr' j c u e1 e2)
  | tup vs hs hr ih =>
    intro u h2
    cases h2 with
    | tup vs' hs' hr' => exact .tup vs' hs' fun j c u e1 e2 => (at_ hs e1).elim fun x hx => ih j c x e1 hx (hr' j c u e1 e2)
  | fel b base vs hF hs hc hr ih =>
    intro u h2
    cases h2 with
    | fel b' base' vs' hF' hs' hc' hr' => exact .fel b' base' vs' hF' hs' hc' fun j c u e1 e2 => (at_ hs e1).elim fun x hx => ih j c x e1 hx (hr' j c u e1 e2)
  | loc cap o hl hn ho hc =>
    intro u h2
    cases h2 with
    | loc cap' o' hl' hn' ho' hc' => exact .loc cap' o' (hL _ _ _ hl hl') hn' ho' hc'
  | ptr hl =>
    intro u h2
    cases h2 with
    | ptr hl' => exact .ptr (hL _ _ _ hl hl')
  | fn vs hs hr ih =>
    intro u h2
    cases h2 with
    | fn vs' hs' hr' => exact .fn vs' hs' fun j c u e1 e2 => (at_ hs e1).elim fun x hx => ih j c x e1 hx (hr' j c u e1 e2)
theorem Rel.scal {w' : World} {F' : Nat → Prop} {L' : Id → Option Loc} {p : PV} {v : Value} (h : Rel w F L p v) (hp : Scal p) : Rel w' F' L' p v := by
  induction h with
  | lit v => exact .lit v
  | agg vs hs hr ih =>
    cases hp with
    | agg h => exact .agg vs hs (fun j c u e1 e2 => ih j c u e1 e2 (h c (List.mem_of_getElem? e1)))
  | tup vs hs hr ih =>
    cases hp with
    | tup h => exact .tup vs hs (fun j c u e1 e2 => ih j c u e1 e2 (h c (List.mem_of_getElem? e1)))
  | sl => cases hp
  | wild => cases hp
  | fel => cases hp
  | loc => cases hp
  | ptr => cases hp
  | fn => cases hp
theorem View.scal {z : Bool} {p q : PV} (h : View S z p q) : Scal p → Scal q := by
  induction h with
  | refl p => exact id
  | @agg cs ds hl h ih =>
    intro hp
    cases hp with
    | agg hs =>
      refine .agg fun d hd => ?_
      obtain ⟨j, hj, rfl⟩ := List.mem_iff_getElem.1 hd
      have hj' : j < cs.length := by omega
      exact ih j cs[j] ds[j] (by simp) (by simp) (hs _ (List.getElem_mem hj'))
  | @tup cs ds hl h ih =>
    intro hp
    cases hp with
    | tup hs =>
      refine .tup fun d hd => ?_
      obtain ⟨j, hj, rfl⟩ := List.mem_iff_getElem.1 hd
      have hj' : j < cs.length := by omega
      exact ih j cs[j] ds[j] (by simp) (by simp) (hs _ (List.getElem_mem hj'))
  | loc => intro hp; cases hp
  | ptr => intro hp; cases hp
  | sl => intro hp; cases hp
  | fn => intro hp; cases hp
def Fv (S : Sto) (L : Id → Option Loc) (F : Nat → Prop) (z : Bool) (b : Nat) : Prop := F b ∨ (z = false ∧ Blk S L b)
theorem pw {G : Nat → Prop} {cs ds : List PV} {vs : List Value} (hA : RelA w F L cs vs) (hl : ds.length = cs.length)
    (h : ∀ (j : Nat) c d u, cs[j]? = some c → ds[j]? = some d → Rel w F L c u → Rel w G L d u) : RelA w G L ds vs := by
  refine ⟨by rw [hl]; exact hA.1, fun j d u hd hu => ?_⟩
  have hj : j < cs.length := by have := (List.getElem?_eq_some_iff.1 hd).1; omega
  exact h j cs[j] d u (by simp) hd (hA.2 j cs[j] u (by simp) hu)
theorem view_rel (hi : Inv w S L F K) {z : Bool} {p q : PV} (h : View S z p q) : ∀ {v : Value}, Rel w F L p v → Rel w (Fv S L F z) L q v := by
  induction h with
  | refl p => exact fun hr => hr.grow fun b hb => .inl hb
  | @loc i o off n cs ho hz hl h ih =>
    intro v hr
    cases hr with
    | @loc _ _ _ ℓ cap a hL hn ha hc =>
      obtain ⟨ℓ', c, e, hL', _, hb, _, _, ⟨vs, hvs, hcv⟩, hfz, _⟩ := hi.live i o ho
      obtain rfl := Option.some.inj (hL'.symm.trans hL)
      have hA := (hvs.drop off).take (n * o.es)
      have hds := pw (G := Fv S L F z) hA hl (fun j c d u e1 e2 r => ih j c d e1 e2 r)
      have hF : Fv S L F z ℓ'.b := by
        cases z with
        | true => exact .inl (hfz (hz rfl))
        | false => exact .inr ⟨rfl, i, o, _, ho, hL', rfl⟩
      rcases ha with rfl | ha
      · exact .slA hF hn hds (((HCells.of hb hcv).drop off).take _)
      · obtain rfl : n = 0 := by omega
        have hcs : cs = [] := List.eq_nil_of_length_eq_zero (by simpa using hl)
        subst hcs
        exact .slA hF hn (vs := []) .nil (fun j u hu => by simp at hu)
  | @ptr i o off cs ho hz hl h ih =>
    intro v hr
    cases hr with
    | @ptr _ _ ℓ hL =>
      obtain ⟨ℓ', c, e, hL', _, hb, _, _, ⟨vs, hvs, hcv⟩, hfz, _⟩ := hi.live i o ho
      obtain rfl := Option.some.inj (hL'.symm.trans hL)
      have hds := pw (G := Fv S L F z) (hvs.drop off) hl (fun j c d u e1 e2 r => ih j c d e1 e2 r)
      have hF : Fv S L F z ℓ'.b := by
        cases z with
        | true => exact .inl (hfz (hz rfl))
        | false => exact .inr ⟨rfl, i, o, _, ho, hL', rfl⟩
      exact .felA hF hds ((HCells.of hb hcv).drop off)
  | @sl cs ds n hl h ih =>
    intro v hr
    cases hr with
    | sl b base cap vs hF hn hs hc hrr =>
      exact .slA (.inl hF) hn (pw (G := Fv S L F z) ⟨hs, hrr⟩ hl (fun j c d u e1 e2 r => ih j c d e1 e2 r)) hc
    | wild a =>
      obtain rfl : ds = [] := List.eq_nil_of_length_eq_zero (by simpa using hl)
      exact .wild a
  | @agg cs ds hl h ih =>
    intro v hr
    cases hr with
    | agg vs hs hrr => exact .aggA (pw (G := Fv S L F z) ⟨hs, hrr⟩ hl (fun j c d u e1 e2 r => ih j c d e1 e2 r))
  | @tup cs ds hl h ih =>
    intro v hr
    cases hr with
    | tup vs hs hrr =>
      have := pw (G := Fv S L F z) ⟨hs, hrr⟩ hl (fun j c d u e1 e2 r => ih j c d e1 e2 r)
      exact .tup vs this.1 this.2
  | @fn f cs ds hl h ih =>
    intro v hr
    cases hr with
    | fn vs hs hrr =>
      have := pw (G := Fv S L F z) ⟨hs, hrr⟩ hl (fun j c d u e1 e2 r => ih j c d e1 e2 r)
      exact .fn vs this.1 this.2
theorem viewL_rel (hi : Inv w S L F K) {z : Bool} {cs ds : List PV} (h : ViewL S z cs ds) {vs : List Value} (hA : RelA w F L cs vs) : RelA w (Fv S L F z) L ds vs :=
  pw hA h.1 fun j c d _ e1 e2 r => view_rel hi (h.2 j c d e1 e2) r
theorem RelA.plain {L' : Id → Option Loc} {cs : List PV} {vs : List Value} (h : RelA w F L cs vs) (hp : ∀ p ∈ cs, Plain p) : RelA w F L' cs vs :=
  ⟨h.1, fun j c u e1 e2 => (h.2 j c u e1 e2).plain (hp c (List.mem_of_getElem? e1))⟩
theorem obj_lt (hi : Inv w S L F K) {i : Id} {o : Obj} {ℓ : Loc} (ho : S.obj i = some o) (hl : L i = some ℓ) : ℓ.b < w.heap.size := by
  obtain ⟨ℓ', c', e', hl', _, hb, _⟩ := hi.live i o ho
  obtain rfl := Option.some.inj (hl.symm.trans hl')
  rcases Nat.lt_or_ge ℓ.b w.heap.size with h | h
  · exact h
  · rw [Array.getElem?_eq_none h] at hb; cases hb
theorem blk_lt (hi : Inv w S L F K) {b : Nat} (h : Blk S L b) : b < w.heap.size := by
  obtain ⟨i, o, ℓ, ho, hl, rfl⟩ := h
  exact obj_lt hi ho hl
theorem Inv.after (hi : Inv w S L F K) {w' : World} (hos : w'.os = w.os) (htape : w'.tape = w.tape) (hout : w'.output = w.output) (hs : w.heap.size ≤ w'.heap.size)
    (hh : ∀ b, b < w.heap.size → w'.heap[b]? = w.heap[b]?) (G : Nat → Prop) (hG : ∀ b, G b → w.heap.size ≤ b ∧ b < w'.heap.size) (hdr : w.drawn ≤ w'.drawn) :
    Inv w' S L (fun b => F b ∨ G b) K ∧ Ext w F L K w' (fun b => F b ∨ G b) L := by
  have hx : Ext w F L K w' (fun b => F b ∨ G b) L :=
    ⟨hos, htape, hout, hs, fun b hb => .inl hb, fun b hb => hh b (hi.fz b hb), fun _ _ h => h, fun b hb => hb.elim .inl fun hg => .inr (.inl (hG b hg).1), fun i ℓ h => .inr ⟨i, ℓ, h, rfl⟩, hdr⟩
  refine ⟨⟨fun i o ho => ?_, hi.apart, hi.fresh, fun b hb => ?_⟩, hx⟩
  · obtain ⟨ℓ, c, e, h1, h2, h3, h4, h5, ⟨vs, h6, h7⟩, h8, h9⟩ := hi.live i o ho
    have hlt := obj_lt hi ho h1
    refine ⟨ℓ, c, e, h1, h2, (hh _ hlt).trans h3, h4, h5, ⟨vs, h6.ext hx, h7⟩, fun hz => .inl (h8 hz), fun hz => ⟨fun hf => ?_, (h9 hz).2⟩⟩
    rcases hf with hf | hf
    · exact (h9 hz).1 hf
    · have := (hG _ hf).1; omega
  · rcases hb with (hb | hb) | hb
    · have := hi.fz b (.inl hb); omega
    · exact (hG b hb).2
    · have := hi.fz b (.inr hb); omega
theorem Inv.empty (hF : ∀ b, F b ∨ K b → b < w.heap.size) : Inv w .empty (fun _ => none) F K :=
  ⟨fun i o h => (by cases h), fun i j o o' ℓ ℓ' h => (by cases h), fun _ _ => rfl, hF⟩
theorem Inv.grow (hi : Inv w S L F K) {i : Id} {o : Obj} (ho : S.obj i = some o) {ℓ : Loc} (hl : L i = some ℓ) :
    Inv w (S.set i { o with frz := true }) L (fun b => F b ∨ b = ℓ.b) K ∧ Ext w F L K w (fun b => F b ∨ b = ℓ.b) L := by
  have hx : Ext w F L K w (fun b => F b ∨ b = ℓ.b) L :=
    ⟨rfl, rfl, rfl, Nat.le_refl _, fun b hb => .inl hb, fun _ _ => rfl, fun _ _ h => h, fun b hb => hb.elim .inl fun e => .inr (.inr ⟨i, ℓ, hl, e.symm⟩), fun i ℓ h => .inr ⟨i, ℓ, h, rfl⟩, Nat.le_refl _⟩
  have hobj : ∀ j, (S.set i { o with frz := true }).obj j = if j = i then some { o with frz := true } else S.obj j := fun j => by simp only [Sto.set, upd]
  refine ⟨⟨fun j q hq => ?_, fun j k q q' m m' hq hq' hz hm hm' hne => ?_, hi.fresh, fun b hb => ?_⟩, hx⟩
  · rw [hobj] at hq
    split at hq
    · rename_i hj; subst hj
      obtain rfl := Option.some.inj hq
      obtain ⟨ℓ', c, e, h1, h2, h3, h4, h5, ⟨vs, h6, h7⟩, h8, h9⟩ := hi.live j o ho
      obtain rfl := Option.some.inj (h1.symm.trans hl)
      exact ⟨ℓ', c, e, h1, h2, h3, h4, h5, ⟨vs, h6.ext hx, h7⟩, fun _ => .inr rfl, fun h => by cases h⟩
    · rename_i hj
      obtain ⟨m, c, e, h1, h2, h3, h4, h5, ⟨vs, h6, h7⟩, h8, h9⟩ := hi.live j q hq
      refine ⟨m, c, e, h1, h2, h3, h4, h5, ⟨vs, h6.ext hx, h7⟩, fun hz => .inl (h8 hz), fun hz => ⟨fun hf => ?_, (h9 hz).2⟩⟩
      rcases hf with hf | hf
      · exact (h9 hz).1 hf
      · exact hi.apart j i q o m ℓ hq ho hz h1 hl hj hf
  · rw [hobj] at hq hq'
    have old : ∀ {k : Id} {q : Obj}, (if k = i then some { o with frz := true } else S.obj k) = some q → ∃ q0, S.obj k = some q0 ∧ (q.frz = false → q0.frz = false) := fun {k q} h => by
      split at h
      · rename_i hk; subst hk
        obtain rfl := Option.some.inj h
        exact ⟨o, ho, fun h => by cases h⟩
      · exact ⟨q, h, fun h => h⟩
    obtain ⟨q0, hq0, hf⟩ := old hq
    obtain ⟨q1, hq1, _⟩ := old hq'
    exact hi.apart j k q0 q1 m m' hq0 hq1 (hf hz) hm hm' hne
  · rcases hb with (hb | hb) | hb
    · exact hi.fz b (.inl hb)
    · subst hb; exact obj_lt hi ho hl
    · exact hi.fz b (.inr hb)
theorem Inv.recell (hi : Inv w S L F K) {i : Id} {o : Obj} (ho : S.obj i = some o) {ds : List PV} (hl : ds.length = o.cells.length)
    (h : ∀ vs, RelA w F L o.cells vs → RelA w F L ds vs) : Inv w (S.set i { o with cells := ds }) L F K := by
  have hobj : ∀ j, (S.set i { o with cells := ds }).obj j = if j = i then some { o with cells := ds } else S.obj j := fun j => by simp only [Sto.set, upd]
  refine ⟨fun j q hq => ?_, fun j k q q' m m' hq hq' hz hm hm' hne => ?_, hi.fresh, hi.fz⟩
  · rw [hobj] at hq
    split at hq
    · rename_i hj; subst hj
      obtain rfl := Option.some.inj hq
      obtain ⟨ℓ', c, e, h1, h2, h3, h4, h5, ⟨vs, h6, h7⟩, h8, h9⟩ := hi.live j o ho
      exact ⟨ℓ', c, e, h1, h2, h3, h4, by simpa [hl] using h5, ⟨vs, h vs h6, h7⟩, h8, h9⟩
    · exact hi.live j q hq
  · rw [hobj] at hq hq'
    have old : ∀ {k : Id} {q : Obj}, (if k = i then some { o with cells := ds } else S.obj k) = some q → ∃ q0, S.obj k = some q0 ∧ (q.frz = false → q0.frz = false) := fun {k q} h => by
      split at h
      · rename_i hk; subst hk
        obtain rfl := Option.some.inj h
        exact ⟨o, ho, fun h => h⟩
      · exact ⟨q, h, fun h => h⟩
    obtain ⟨q0, hq0, hf⟩ := old hq
    obtain ⟨q1, hq1, _⟩ := old hq'
    exact hi.apart j k q0 q1 m m' hq0 hq1 (hf hz) hm hm' hne
theorem Inv.trim (hi : Inv w S L F K) {i : Id} {o : Obj} (ho : S.obj i = some o) (m : Nat) : Inv w (S.set i { o with cells := o.cells.take m }) L F K := by
  have hobj : ∀ j, (S.set i { o with cells := o.cells.take m }).obj j = if j = i then some { o with cells := o.cells.take m } else S.obj j := fun j => by simp only [Sto.set, upd]
  refine ⟨fun j q hq => ?_, fun j k q q' ℓ1 ℓ2 hq hq' hz hm hm' hne => ?_, hi.fresh, hi.fz⟩
  · rw [hobj] at hq
    split at hq
    · rename_i hj; subst hj
      obtain rfl := Option.some.inj hq
      obtain ⟨ℓ', c, e, h1, h2, h3, h4, h5, ⟨vs, h6, h7⟩, h8, h9⟩ := hi.live j o ho
      refine ⟨ℓ', c, e, h1, h2, h3, h4, ?_, ⟨vs.take m, h6.take m, fun k u hu => ?_⟩, h8, h9⟩
      · have : (o.cells.take m).length ≤ o.cells.length := by rw [List.length_take]; omega
        show ℓ'.base + (o.cells.take m).length ≤ _
        omega
      · rw [List.getElem?_take] at hu
        split at hu
        · exact h7 _ _ hu
        · cases hu
    · exact hi.live j q hq
  · rw [hobj] at hq hq'
    have old : ∀ {k : Id} {q : Obj}, (if k = i then some { o with cells := o.cells.take m } else S.obj k) = some q → ∃ q0, S.obj k = some q0 ∧ (q.frz = false → q0.frz = false) := fun {k q} h => by
      split at h
      · rename_i hk; subst hk
        obtain rfl := Option.some.inj h
        exact ⟨o, ho, fun h => h⟩
      · exact ⟨q, h, fun h => h⟩
    obtain ⟨q0, hq0, hf⟩ := old hq
    obtain ⟨q1, hq1, _⟩ := old hq'
    exact hi.apart j k q0 q1 _ _ hq0 hq1 (hf hz) hm hm' hne
theorem Ext.trans {w w1 w2 : World} {F F1 F2 K : Nat → Prop} {L L1 L2 : Id → Option Loc} (h1 : Ext w F L K w1 F1 L1) (h2 : Ext w1 F1 L1 K w2 F2 L2) : Ext w F L K w2 F2 L2 := by
  have own1 : ∀ i ℓ, L1 i = some ℓ → w.heap.size ≤ ℓ.b ∨ ∃ j m, L j = some m ∧ m.b = ℓ.b := h1.own
  refine ⟨h2.os.trans h1.os, h2.tape.trans h1.tape, h2.output.trans h1.output, Nat.le_trans h1.size h2.size, fun b hb => h2.fz b (h1.fz b hb),
    fun b hb => (h2.heap b (hb.imp (h1.fz b) id)).trans (h1.heap b hb), fun i ℓ h => h2.loc i ℓ (h1.loc i ℓ h), fun b hb => ?_, fun i ℓ h => ?_, Nat.le_trans h1.drawn h2.drawn⟩
  · rcases h2.new b hb with h | h | ⟨i, ℓ, h, e⟩
    · exact h1.new b h
    · exact .inr (.inl (Nat.le_trans h1.size h))
    · rcases own1 i ℓ h with h' | ⟨j, m, h', e'⟩
      · exact .inr (.inl (e ▸ h'))
      · exact .inr (.inr ⟨j, m, h', e'.trans e⟩)
  · rcases h2.own i ℓ h with h | ⟨j, m, h, e⟩
    · exact .inl (Nat.le_trans h1.size h)
    · rcases own1 j m h with h' | ⟨j', m', h', e'⟩
      · exact .inl (e ▸ h')
      · exact .inr ⟨j', m', h', e'.trans e⟩
end Go.Abs
end
