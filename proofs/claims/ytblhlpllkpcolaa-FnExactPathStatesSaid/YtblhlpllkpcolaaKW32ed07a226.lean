/- Words for walks: plain theorems on memory, rows and numbers, each under the conditions that it names. -/
import Derived.Below
import Derived.Deep.Draws
import Derived.Deep.AppendLies
import Derived.Maps.AppendAt
import Derived.OwnWalk
import Derived.Laws.BytesArg
import Derived.Laws.MakeOwn
import Derived.Laws.OwnMore
import Derived.Deep.OwnRows
import Derived.Tactics
import Derived.Lib.ConvBytes
import Derived.Laws.Slices
import Derived.WalkKit
import Derived.KernelRfl
import Derived.RowKit3
import Derived.Deep.LoopGhost
import Derived.Deep.QuietTactic
import Derived.BigQuiet
import Derived.WideLaws
import Derived.Deep.DeepCutAuto
import Derived.Deep.CutBlock
import Derived.Deep.RegionHeld3
import Derived.Laws.Rows
import Derived.Lib.AppendStr
import Derived.ArgAppend
import Derived.Laws.IdiomCopy
import Derived.RowKit
import Derived.OrdersHeld
import Derived.Laws.BitsLemmas
import Derived.Calls
import Derived.Laws.Sem
import Derived.Laws.Append
import Derived.Laws.AppendOwn
import Derived.Laws.Entries
import Derived.Test.YtblhlpllkpcolaaKWd61a12c19e
section
set_option linter.unusedVariables false
set_option linter.unusedSimpArgs false
namespace Go.Proofs.YtblhlpllkpcolaaW.PrintWords
open Go.RowKit
def bt (s : ByteArray) (i : Int) : Int := if h : i.toNat < s.size then ((s[i.toNat]'h).toNat : Int) else 0
def bools (xs : List Bool) : List Value := xs.map fun x => .bool x
theorem ReadsInt.at_ {w : World} {k : IntKind} {A : Option Addr} {n : Nat} {xs : List Int} (h : ReadsInt w k A n xs) (i : Int) (h0 : 0 ≤ i) (h1 : i < n) : ∃ ad, A = some ad ∧ w.cell? (ad.add i.toNat) = some (.int k (rd xs i)) := by
  obtain ⟨ad, e, hc⟩ := h.2.2 (by omega)
  exact ⟨ad, e, hc _ (by omega)⟩
theorem own_other {w w1 : World} {base : Nat} {e : TypeId} {size n : Nat} {v : Value} {xs : List Value} (h : w.ownsRow base e size v n xs) {row : Option Nat} (hg : w.grownBy w1 row) (hne : v.ownBlock = none ∨ v.ownBlock ≠ row) : w1.ownsRow base e size v n xs := h.kept hg hne
section
variable {P : Program} {ops : Array Oper} {rest : List Oper} {o : Oper} {a : Act} {Q : Exit → Act → World → Prop}
end
section
variable {P : Program}
end
section
variable {P : Program} {ops : Array Oper} {rest : List Oper} {o : Oper} {a : Act} {Q : Exit → Act → World → Prop}
end
theorem more_rounds {α : Type} {g : Nat → Option α} (h : ∀ k, LeO (g k) (g (k + 1))) (k : Nat) : ∀ j, LeO (g k) (g (k + j))
  | 0 => LeO.refl _
  | j + 1 => (more_rounds h k j).trans (h (k + j))
theorem at_rounds {α : Type} {g : Nat → Option α} (h : ∀ k, LeO (g k) (g (k + 1))) {k k' : Nat} (hk : k ≤ k') {r : α} (hr : g k = some r) : g k' = some r := by
  have := more_rounds h k (k' - k) r hr
  rwa [Nat.add_sub_cancel' hk] at this
section
variable {P : Program} {ops : Array Oper} {rest : List Oper} {o : Oper} {a : Act} {Q : Exit → Act → World → Prop}
end
theorem Ev.of {α : Type} {g : Nat → Option α} {r : α} (hg : ∀ k, LeO (g k) (g (k + 1))) {k : Nat} (h : g k = some r) : Ev g r := ⟨k, fun _ hk => at_rounds hg hk h⟩
theorem Ev.now {α : Type} (r : α) : Ev (fun _ => some r) r := ⟨0, fun _ _ => rfl⟩
theorem Ev.rounds {α : Type} {g : Nat → Option α} {r : α} (h : Ev g r) : ∃ k, g k = some r := by
  obtain ⟨K, h⟩ := h
  exact ⟨K, h K (Nat.le_refl _)⟩
section
variable {P : Program} {ops : Array Oper} {o : Oper} {a : Act} {Q : Exit → Act → World → Prop} {K : Act → World → Prop}
end
section
variable {α : Type} {enc : α → Value} {d : α}
def rdOf (d : α) (xs : List α) (i : Int) : α := xs.getD i.toNat d
theorem ReadsOf.at_ {w : World} {A : Option Addr} {n : Nat} {xs : List α} (h : ReadsOf enc d w A n xs) (i : Int) (h0 : 0 ≤ i) (h1 : i < n) : ∃ ad, A = some ad ∧ w.cell? (ad.add i.toNat) = some (enc (rdOf d xs i)) := by
  obtain ⟨ad, e, hc⟩ := h.2.2 (by omega)
  exact ⟨ad, e, hc _ (by omega)⟩
end
section
variable {α : Type} {P : Program} {ops : Array Oper} {rest : List Oper} {o : Oper} {a : Act} {Q : Exit → Act → World → Prop}
end
section
variable {P : Program}
end
section
variable {α : Type} {R R' : α → List Value → Prop} {e : TypeId} {size : Nat} {w w1 : World} {base : Nat} {v : Value} {ps : List α}
theorem OwnRow.other (h : OwnRow R e size w base v ps) {row : Option Nat} (hg : w.grownBy w1 row) (hne : v.ownBlock = none ∨ v.ownBlock ≠ row) : OwnRow R e size w1 base v ps := by
  obtain ⟨inner, ho, hr⟩ := h
  exact ⟨inner, own_other ho hg hne, hr⟩
theorem OwnRow.keep (h : OwnRow R e size w base v ps) {g : Nat} {t : TypeId} {cells : Array Value} (hb : w.heap[g]? = some (.cells cells t (0, 0))) (ht : e ≠ t) (hk : KeepBut w w1 g none) : OwnRow R e size w1 base v ps := by
  obtain ⟨inner, ho, hr⟩ := h
  exact ⟨inner, hk.own ho (Ne.symm (own_ne ho hb ht)) (by cases v.ownBlock <;> simp), hr⟩
theorem OwnRow.lit (W : World) (base : Nat) {inner : List Value} (hr : Reps R size ps inner) (hb : base ≤ W.heap.size) (hm : ps.length ≤ 9223372036854775807) :
    OwnRow R e size (W.alloc (.cells inner.toArray e)) base (.slice (some ⟨W.heap.size, 0, none⟩) ps.length ps.length) ps := by
  have h := World.ownsRow_lit (base := base) (e := e) (size := size) W inner.toArray ps.length hb (by simpa [maxLen] using hm) (by simpa using hr.1)
  exact ⟨inner, by simpa using h, hr⟩
end
section
variable {P : Program} {ops : Array Oper} {rest : List Oper} {o : Oper} {a : Act} {Q : Exit → Act → World → Prop} {α : Type} {R : α → List Value → Prop}
end
section
variable {P : Program} {ops : Array Oper} {o : Oper} {a : Act} {Q : Exit → Act → World → Prop} {K : Act → World → Prop} {α : Type} {R : α → List Value → Prop}
end
section
variable {α : Type} {P : Program}
theorem ReadsOf.len_ {enc : α → Value} {d : α} {w : World} {A : Option Addr} {n : Nat} {xs : List α} (h : ReadsOf enc d w A n xs) : ReadsOf enc d w A xs.length xs := by rw [h.1]; exact h
end
section
variable {P : Program} {ops : Array Oper} {rest : List Oper} {o : Oper} {a : Act} {Q : Exit → Act → World → Prop}
end
namespace Kd
section
variable {α : Type} {d : Kd α} {e : Nat} {w w1 : World} {base : Nat} {ok ok' : Nat → Prop} {v : Value} {xs : List α}
end
def string : Kd ByteArray := scalar Value.string (fun _ => rfl)
section
variable {P : Program} {ops : Array Oper} {rest : List Oper} {o : Oper} {a : Act} {Q : Exit → Act → World → Prop} {α : Type}
end
section
variable {P : Program} {ops : Array Oper} {o : Oper} {a : Act} {Q : Exit → Act → World → Prop} {Kc : Act → World → Prop} {α : Type}
end
end Kd
namespace Kd
section
variable {α : Type} {F : Kd α → Kd α} {sz : Nat} {E : List Nat} {hs : ∀ n, (upto F sz E n).sz = sz} {hE : ∀ n q, q ∈ (upto F sz E n).E → q ∈ E}
end
end Kd
namespace Kd
end Kd
namespace Kd
section
variable {α β : Type} {d : Kd α} {d' : Kd β} {e e' : Nat} {w w1 W : World} {base b b' : Nat} {ok ok' okv oku : Nat → Prop} {v u : Value} {xs : List α} {ys : List β}
end
section
variable {w W : World} {A : Option Addr} {n : Nat}
variable {α : Type} {enc : α → Value} {h1 : ∀ x, (enc x).oneCell' = true} {e base g cap : Nat} {ok : Nat → Prop} {xs : List α}
end
section
variable {P : Program} {ops : Array Oper} {rest : List Oper} {o : Oper} {a : Act} {Q : Exit → Act → World → Prop}
variable {α : Type}
end
end Kd
section
variable {P : Program}
end
section
variable {w w1 : World} {base n size : Nat} {e : TypeId} {v : Value} {xs : List Value}
end
section
variable {P : Program}
end
namespace Kd
section
variable {α : Type} {d : Kd α} {e : Nat} {w w1 W : World} {base : Nat} {ok ok' : Nat → Prop} {v : Value} {xs : List α}
end
section
variable {P : Program} {ops : Array Oper} {rest : List Oper} {o : Oper} {a : Act} {Q' : Exit → Act → World → Prop} {Kc : Act → World → Prop} {α : Type}
end
end Kd
namespace Kd
section
variable {α : Type} {d : Kd α} {e e' : Nat} {w w1 W : World} {base : Nat} {ok : Nat → Prop} {u v : Value} {xs : List α}
end
end Kd
namespace Kd
section
variable {α : Type} {d : Kd α} {e base g n cap : Nat} {ok okp : Nat → Prop} {W : World} {xs : List α}
end
end Kd
namespace Kd
section
variable {α : Type} {F : Kd α → Kd α} {sz : Nat} {E : List Nat} {hs : ∀ n, (upto F sz E n).sz = sz} {hE : ∀ n q, q ∈ (upto F sz E n).E → q ∈ E}
end
end Kd
namespace Kd
section
variable {P : Program} {ops : Array Oper} {rest : List Oper} {o : Oper} {a : Act} {Q : Exit → Act → World → Prop} {α : Type}
end
end Kd
namespace Kd
section
variable {P : Program} {ops : Array Oper} {rest : List Oper} {o : Oper} {a : Act} {Q : Exit → Act → World → Prop} {α : Type}
end
end Kd
namespace Kd
section
variable {α : Type} {k : Kd α} {w : World} {A : Option Addr} {xs : List α} {m c : Nat}
end
end Kd
section
variable {P : Program}
end
theorem keep_cell {w W : World} {g : Nat} (h : KeepBut w W g none) {a : Addr} {v : Value} (hc : w.cell? a = some v) (hne : a.block ≠ g) : W.cell? a = some v := by
  have := h.2 a.block (World.block_lt_of_cell? w a hc) hne (by simp)
  simpa [World.cell?, this] using hc
theorem ReadsInt.keep {w W : World} {k : IntKind} {A : Option Addr} {n g : Nat} {xs : List Int} (h : ReadsInt w k A n xs) (hk : KeepBut w W g none) (hf : ∀ ad, A = some ad → 0 < n → ad.block ≠ g) : ReadsInt W k A n xs :=
  ⟨h.1, h.2.1, fun hn => by
    obtain ⟨ad, e, hc⟩ := h.2.2 hn
    exact ⟨ad, e, fun j hj => keep_cell hk (hc j hj) (by rw [add_block]; exact hf ad e hn)⟩⟩
theorem ReadsOf.keep {α : Type} {enc : α → Value} {d : α} {w W : World} {A : Option Addr} {n g : Nat} {xs : List α} (h : ReadsOf enc d w A n xs) (hk : KeepBut w W g none) (hf : ∀ ad, A = some ad → 0 < n → ad.block ≠ g) : ReadsOf enc d W A n xs :=
  ⟨h.1, h.2.1, fun hn => by
    obtain ⟨ad, e, hc⟩ := h.2.2 hn
    exact ⟨ad, e, fun j hj => keep_cell hk (hc j hj) (by rw [add_block]; exact hf ad e hn)⟩⟩
namespace Kd
section
variable {α β : Type} {d : Kd α} {d' : Kd β} {e e' base base' n : Nat} {ok ok' : Nat → Prop} {w W w1 W1 : World} {v u : Value} {xs : List α} {ys : List β} {A : Option Addr} {c : Nat}
end
section
variable {α : Type} {enc : α → Value} {h1 : ∀ x, (enc x).oneCell' = true} {w W : World} {A : Option Addr} {n g : Nat} {xs : List α}
end
end Kd
namespace Kd
section
variable {α : Type} {d : Kd α} {e base g : Nat} {ok : Nat → Prop} {w w1 : World} {v : Value} {xs : List α} {o : Obj}
end
end Kd
section
variable {P : Program} {ops : Array Oper} {rest : List Oper} {o : Oper} {a : Act} {Q : Exit → Act → World → Prop}
end
namespace Kd
section
variable {α : Type} {enc : α → Value} {h1 : ∀ x, (enc x).oneCell' = true} {e base g n cap : Nat} {ok : Nat → Prop} {W : World} {xs : List α}
end
end Kd
section
variable {P : Program} {ops : Array Oper} {rest : List Oper} {o : Oper} {a : Act} {Q : Exit → Act → World → Prop}
end
namespace Kd
section
variable {α : Type} {enc : α → Value} {h1 : ∀ x, (enc x).oneCell' = true} {e base g n cap : Nat} {ok : Nat → Prop} {W : World} {xs : List α}
end
end Kd
section
variable {P : Program} {ops : Array Oper} {rest : List Oper} {o : Oper} {a : Act} {Q : Exit → Act → World → Prop} {W : World}
end
section
variable {P : Program} {ops : Array Oper} {o : Oper} {a : Act} {Q : Exit → Act → World → Prop} {Kc : Act → World → Prop}
namespace Kd
variable {α : Type}
end Kd
end
section
variable {P : Program} {tmps : Array Value} {w : World}
end
namespace Kd
section
variable {P : Program} {α : Type}
end
section
variable {P : Program} {ops : Array Oper} {rest : List Oper} {o : Oper} {a : Act} {Q : Exit → Act → World → Prop} {Kc : Act → World → Prop} {α : Type}
end
end Kd
end Go.Proofs.YtblhlpllkpcolaaW.PrintWords
end
section
namespace Go.Proofs.YtblhlpllkpcolaaW.PrintLast
open Go.Proofs.YtblhlpllkpcolaaW.PrintWords (Aside0)
section
variable {md : Region.Mode} {ops : Array Oper} {T : Bool × List (List Nat × List Nat)} {l l' li lj lk : Array Bool} {ds : List Nat} {i j k : Nat}
theorem two_of (hT : rtab md ops = T) (h : (readyT T.2 l.toList == [i, j] && l.toList.set i true == li.toList && l.toList.set j true == lj.toList) = true) : (Region.ready md ops l == [i, j] && l.setIfInBounds i true == li && l.setIfInBounds j true == lj) = true := by
  simp only [Bool.and_eq_true] at h ⊢
  obtain ⟨⟨h1, h2⟩, h3⟩ := h
  subst hT
  exact ⟨⟨by rw [ready_eq]; exact h1, set_of h2⟩, set_of h3⟩
end
end Go.Proofs.YtblhlpllkpcolaaW.PrintLast
end
section
namespace Go.Proofs.YtblhlpllkpcolaaW.PrintWords
open Go.RowKit
namespace Kd
theorem reps_one {α : Type} {R : α → List Value → Prop} {size : Nat} {ps : List α} {cs : List Value} (h : Reps R size ps cs) (hs0 : 0 < size) (hR : ∀ p c, R p c → ∀ u ∈ c, u.oneCell' = true) : ∀ u ∈ cs, u.oneCell' = true := by
  intro u hu
  obtain ⟨q, hq, rfl⟩ := List.mem_iff_getElem.1 hu
  have hql : q / size < ps.length := by
    rw [Nat.div_lt_iff_lt_mul hs0, ← h.1]
    exact hq
  refine hR _ _ (h.2 (q / size) _ (List.getElem?_eq_getElem hql)) _ ?_
  rw [List.mem_iff_getElem?]
  refine ⟨q % size, ?_⟩
  rw [List.getElem?_take, if_pos (Nat.mod_lt _ hs0), List.getElem?_drop, Nat.mul_comm, Nat.div_add_mod, List.getElem?_eq_getElem hq]
def arr {α : Type} (n : Nat) (d : Kd α) (hs : 0 < d.sz) : Kd (List α) where
  sz := n * d.sz
  E := d.E
  K := fun w xs cs => xs.length = n ∧ Reps (d.K w) d.sz xs cs
  M := fun w base ok xs cs => xs.length = n ∧ Reps (d.M w base ok) d.sz xs cs
  K_len := fun h => by rw [← h.1]; exact h.2.1
  K_one := fun h => reps_one h.2 hs (fun _ _ hk => d.K_one hk)
  K_below := fun hb h => ⟨h.1, h.2.imp_ (fun _ _ hk => d.K_below hb hk)⟩
  K_of_M := fun h => ⟨h.1, h.2.imp_ (fun _ _ hk => d.K_of_M hk)⟩
  M_mono := fun hok h => ⟨h.1, h.2.imp_ (fun _ _ hk => d.M_mono hok hk)⟩
  M_bound := fun h => ⟨h.1, h.2.imp_ (fun _ _ hk => d.M_bound hk)⟩
  M_move := fun hm h => ⟨h.1, h.2.imp_ (fun _ _ hk => d.M_move hm hk)⟩
  M_lower := fun hb h => ⟨h.1, h.2.imp_ (fun _ _ hk => d.M_lower hb hk)⟩
section
variable {α : Type} {n : Nat} {d : Kd α} {hs : 0 < d.sz} {w : World} {base : Nat} {ok : Nat → Prop} {xs : List α} {cs : List Value}
end
section
variable {α : Type} {n : Nat} {enc : α → Value} {h1 : ∀ x, (enc x).oneCell' = true} {hs : 0 < (scalar enc h1).sz} {w : World} {base : Nat} {ok : Nat → Prop} {xs : List α} {cs : List Value}
end
end Kd
end Go.Proofs.YtblhlpllkpcolaaW.PrintWords
end
section
namespace Go.Proofs.YtblhlpllkpcolaaW.PrintWords
open Go.RowKit
section
variable {w W W2 : World} {S S2 S' : Nat → Prop}
theorem Kept.keep {g : Nat} (h : KeepBut w W g none) (k : Kept W W2 S2) (hs : ∀ k, S2 k → w.heap.size ≤ k) : KeepBut w W2 g none :=
  ⟨Nat.le_trans h.1 k.1, fun i hi hg hr => (k.2 i (Nat.lt_of_lt_of_le hi h.1) (fun h2 => by have := hs i h2; omega)).trans (h.2 i hi hg hr)⟩
end
namespace Kd
section
variable {α : Type} {d : Kd α} {e base n c : Nat} {ok oki S S2 : Nat → Prop} {w w0 W W1 W2 : World} {v : Value} {A : Option Addr} {xs : List α} {i : Int} {cs : List Value}
end
end Kd
end Go.Proofs.YtblhlpllkpcolaaW.PrintWords
end
section
namespace Go.Proofs.YtblhlpllkpcolaaW.PrintWords
open Go.RowKit
namespace Foot
variable {P Q : World → Prop} {W W1 : World} {ok ok' : Nat → Prop}
theorem now (h : Foot P W ok) : P W := h W (fun _ _ _ => rfl)
theorem bound (h : Foot P W ok) : Foot P W (fun k => ok k ∧ k < W.heap.size) := fun W' hW => h W' (fun k hk hlt => hW k ⟨hk, hlt⟩ hlt)
theorem imp (h : Foot P W ok) (hi : ∀ W', P W' → Q W') : Foot Q W ok := fun W' hW => hi W' (h W' hW)
theorem old (h : Foot P W ok) (hb : Below W.heap.size W W1) : Foot P W1 (fun k => ok k ∧ k < W.heap.size) := (h.bound).step (fun k _ hlt => hb.block k hlt)
end Foot
namespace Kd
section
variable {α β : Type} {d : Kd α} {e base n n' cc g N : Nat} {ok ok' okp S : Nat → Prop} {w w0 w1 W W1 : World} {A A' : Option Addr} {u v v1 : Value} {xs : List α} {xs' : List β} {d' : Kd β} {x : α} {c : List Value}
end
end Kd
end Go.Proofs.YtblhlpllkpcolaaW.PrintWords
end
section
namespace Go.Proofs.YtblhlpllkpcolaaW.PrintWords
theorem Reps.one {α : Type} {R : α → List Value → Prop} {ps : List α} {cs : List Value} {p : α} {v : Value} (hp : R p [v]) (h : Reps R 1 ps cs) : Reps R 1 (p :: ps) (v :: cs) := by
  refine ⟨by simp [h.1], fun j q hq => ?_⟩
  cases j with
  | zero =>
    simp only [List.getElem?_cons_zero, Option.some.injEq] at hq
    subst hq
    simpa using hp
  | succ j =>
    simp only [List.getElem?_cons_succ] at hq
    have h1 := h.2 j q hq
    simpa [Nat.mul_one] using h1
end Go.Proofs.YtblhlpllkpcolaaW.PrintWords
end
section
namespace Go.Proofs.YtblhlpllkpcolaaW.PrintLast
def up (b : Nat → Bool) (i : Nat) : Nat → Bool := fun j => if j = i then true else b j
section
variable {P : Program} {ops : Array Oper} {Q : Exit → Act → World → Prop} {md : Region.Mode} {T : Bool × List (List Nat × List Nat)} {B : List Nat} {O : List Nat} {b : Nat → Bool} {i j n : Nat}
theorem put_comm {a : Act} {s t : Tmp} {u v : Value} (h : s ≠ t) : (a.put (some s) u).put (some t) v = (a.put (some t) v).put (some s) u := by
  simp only [Act.put]
  rw [Array.setIfInBounds_comm _ _ h]
end
end Go.Proofs.YtblhlpllkpcolaaW.PrintLast
end
section
namespace Go.Proofs.YtblhlpllkpcolaaW.PrintMore
open Go.RowKit Go.Proofs.YtblhlpllkpcolaaW.PrintWords
namespace Kd
open Go.Proofs.YtblhlpllkpcolaaW.PrintWords.Kd
end Kd
namespace Kd
open Go.Proofs.YtblhlpllkpcolaaW.PrintWords.Kd
section
variable {α : Type} {d : Kd α} {e base g N : Nat} {ok : Nat → Prop} {W w1 : World} {u v : Value} {xs : List α}
end
end Kd
end Go.Proofs.YtblhlpllkpcolaaW.PrintMore
namespace Go.Proofs.YtblhlpllkpcolaaW.PrintWords
open Go.RowKit
section
variable {P : Program} {ops : Array Oper} {rest : List Oper} {o : Oper} {a : Act} {Q : Exit → Act → World → Prop} {W : World}
end
def shl (k : IntKind) (x y : Int) : Int := k.wrap (x * 2 ^ min y.toNat k.bits)
def shr (k : IntKind) (x y : Int) : Int := x / 2 ^ min y.toNat k.bits
namespace Kd
section
variable {α : Type} {d : Kd α} {e base : Nat} {ok : Nat → Prop} {W w1 : World} {v : Value} {xs : List α}
end
section
variable {α : Type} {d : Kd α} {e base g n cap : Nat} {ok oki okp : Nat → Prop} {W : World} {xs : List α} {i : Int} {c : List Value}
end
section
variable {α : Type} {d : Kd α} {e base b b' g N : Nat} {ok ok1 : Nat → Prop} {W W2 w1 : World} {u v : Value} {xs ys : List α} {S : Nat → Prop}
end
end Kd
end Go.Proofs.YtblhlpllkpcolaaW.PrintWords
namespace Go.Proofs.YtblhlpllkpcolaaW.PrintWords
open Go.RowKit
namespace Kd
def V {α : Type} (d : Kd α) (_e : Nat) (W : World) (_base : Nat) (ok : Nat → Prop) (v : Value) (xs : List α) : Prop := ∃ A c, v = .slice A xs.length c ∧ xs.length ≤ c ∧ F d W ok A xs.length xs
section
variable {α β : Type} {d : Kd α} {e base base' n m c g N' lo hi : Nat} {ok ok' S : Nat → Prop} {w W w1 : World} {A : Option Addr} {ad : Addr} {u v v1 : Value} {xs : List α}
end
end Kd
end Go.Proofs.YtblhlpllkpcolaaW.PrintWords
end
section
namespace Go.Abs
open Go
structure Id where
  s : Nat
  g : Nat
  deriving DecidableEq
inductive PV where
  | lit (v : Value)
  | sl (cs : List PV) (n : Nat)
  | agg (cs : List PV)
  | tup (vs : List PV)
  | fel (cs : List PV)
  | loc (i : Id) (off n : Nat)
  | ptr (i : Id) (off : Nat)
  | fn (f : FuncId) (cs : List PV)
def PV.undef : PV := .lit Go.undef
def PV.cells : PV → List PV
  | .agg cs => cs
  | .lit v => v.cells.toList.map .lit
  | p => [p]
def PV.one : PV → Bool
  | .lit v => v.oneCell'
  | .agg _ | .tup _ => false
  | _ => true
structure Obj where
  cells : List PV
  es : Nat
  frz : Bool
structure Sto where
  obj : Id → Option Obj
  gen : Nat → Nat
structure Loc where
  b : Nat
  base : Nat
  es : Nat
  sz : Nat
inductive Rel (w : World) (F : Nat → Prop) (L : Id → Option Loc) : PV → Value → Prop
  | lit (v : Value) : Rel w F L (.lit v) v
  | sl {cs : List PV} {n : Nat} (b base cap : Nat) (vs : List Value) (hF : F b) (hn : n ≤ cap) (hs : vs.length = cs.length)
      (hc : ∀ j u, vs[j]? = some u → w.cell? ⟨b, base + j, none⟩ = some u)
      (hr : ∀ (j : Nat) c u, cs[j]? = some c → vs[j]? = some u → Rel w F L c u) : Rel w F L (.sl cs n) (.slice (some ⟨b, base, none⟩) n cap)
  | wild (a : Addr) : Rel w F L (.sl [] 0) (.slice (some a) 0 0)
  | agg {cs : List PV} (vs : Array Value) (hs : vs.toList.length = cs.length)
      (hr : ∀ (j : Nat) c u, cs[j]? = some c → vs.toList[j]? = some u → Rel w F L c u) : Rel w F L (.agg cs) (.agg vs)
  | tup {cs : List PV} (vs : Array Value) (hs : vs.toList.length = cs.length)
      (hr : ∀ (j : Nat) c u, cs[j]? = some c → vs.toList[j]? = some u → Rel w F L c u) : Rel w F L (.tup cs) (.tuple vs)
  | fel {cs : List PV} (b base : Nat) (vs : List Value) (hF : F b) (hs : vs.length = cs.length)
      (hc : ∀ j u, vs[j]? = some u → w.cell? ⟨b, base + j, none⟩ = some u)
      (hr : ∀ (j : Nat) c u, cs[j]? = some c → vs[j]? = some u → Rel w F L c u) : Rel w F L (.fel cs) (.pointer (some ⟨b, base, none⟩))
  | loc {i : Id} {off n : Nat} {ℓ : Loc} (cap o : Nat) (hL : L i = some ℓ) (hn : n ≤ cap) (ho : o = ℓ.base + off ∨ cap = 0)
      (hc : ℓ.base + off + cap * ℓ.es ≤ ℓ.sz) : Rel w F L (.loc i off n) (.slice (some ⟨ℓ.b, o, none⟩) n cap)
  | ptr {i : Id} {off : Nat} {ℓ : Loc} (hL : L i = some ℓ) : Rel w F L (.ptr i off) (.pointer (some ⟨ℓ.b, ℓ.base + off, none⟩))
  | fn {f : FuncId} {cs : List PV} (vs : Array Value) (hs : vs.toList.length = cs.length)
      (hr : ∀ (j : Nat) c u, cs[j]? = some c → vs.toList[j]? = some u → Rel w F L c u) : Rel w F L (.fn f cs) (.func (.func f) #[] vs)
def RelA (w : World) (F : Nat → Prop) (L : Id → Option Loc) (cs : List PV) (vs : List Value) : Prop :=
  vs.length = cs.length ∧ ∀ (j : Nat) c u, cs[j]? = some c → vs[j]? = some u → Rel w F L c u
def HCells (w : World) (b base : Nat) (vs : List Value) : Prop := ∀ j u, vs[j]? = some u → w.cell? ⟨b, base + j, none⟩ = some u
structure Ext (w : World) (F : Nat → Prop) (L : Id → Option Loc) (K : Nat → Prop) (w' : World) (F' : Nat → Prop) (L' : Id → Option Loc) : Prop where
  os : w'.os = w.os
  tape : w'.tape = w.tape
  output : w'.output = w.output
  size : w.heap.size ≤ w'.heap.size
  fz : ∀ b, F b → F' b
  heap : ∀ b, F b ∨ K b → w'.heap[b]? = w.heap[b]?
  loc : ∀ i ℓ, L i = some ℓ → L' i = some ℓ
  new : ∀ b, F' b → F b ∨ w.heap.size ≤ b ∨ ∃ i ℓ, L i = some ℓ ∧ ℓ.b = b
  own : ∀ i ℓ, L' i = some ℓ → w.heap.size ≤ ℓ.b ∨ ∃ j m, L j = some m ∧ m.b = ℓ.b
theorem Ext.refl (w : World) (F : Nat → Prop) (L : Id → Option Loc) (K : Nat → Prop) : Ext w F L K w F L :=
  ⟨rfl, rfl, rfl, Nat.le_refl _, fun _ h => h, fun _ _ => rfl, fun _ _ h => h, fun _ h => .inl h, fun i ℓ h => .inr ⟨i, ℓ, h, rfl⟩⟩
theorem cell_of_heap {w w' : World} {b o : Nat} (h : w'.heap[b]? = w.heap[b]?) : w'.cell? ⟨b, o, none⟩ = w.cell? ⟨b, o, none⟩ := by
  simp [World.cell?, h]
theorem Rel.mono {w w' : World} {F F' : Nat → Prop} {L L' : Id → Option Loc} {p : PV} {v : Value}
    (hF : ∀ b, F b → F' b) (hh : ∀ b, F b → w'.heap[b]? = w.heap[b]?) (hL : ∀ i ℓ, L i = some ℓ → L' i = some ℓ)
    (h : Rel w F L p v) : Rel w' F' L' p v := by
  induction h with
  | lit v => exact .lit v
  | sl b base cap vs hFb hn hs hc hr ih => exact .sl b base cap vs (hF _ hFb) hn hs (fun j u e => (cell_of_heap (hh _ hFb)).trans (hc j u e)) ih
  | wild a => exact .wild a
  | agg vs hs hr ih => exact .agg vs hs ih
  | tup vs hs hr ih => exact .tup vs hs ih
  | fel b base vs hFb hs hc hr ih => exact .fel b base vs (hF _ hFb) hs (fun j u e => (cell_of_heap (hh _ hFb)).trans (hc j u e)) ih
  | loc cap o h1 h2 h3 h4 => exact .loc cap o (hL _ _ h1) h2 h3 h4
  | ptr h1 => exact .ptr (hL _ _ h1)
  | fn vs hs hr ih => exact .fn vs hs ih
theorem Rel.ext {w w' : World} {F F' : Nat → Prop} {L L' : Id → Option Loc} {K : Nat → Prop} (x : Ext w F L K w' F' L') {p : PV} {v : Value}
    (h : Rel w F L p v) : Rel w' F' L' p v := h.mono x.fz (fun b hb => x.heap b (.inl hb)) x.loc
theorem RelA.one {w : World} {F : Nat → Prop} {L : Id → Option Loc} {p : PV} {v : Value} (h : Rel w F L p v) : RelA w F L [p] [v] := by
  refine ⟨rfl, fun j c u hc hu => ?_⟩
  match j, hc, hu with
  | 0, hc, hu => obtain rfl : p = c := by simpa using hc
                 obtain rfl : v = u := by simpa using hu
                 exact h
  | j + 1, hc, _ => simp at hc
theorem RelA.lits {w : World} {F : Nat → Prop} {L : Id → Option Loc} (vs : List Value) : RelA w F L (vs.map .lit) vs := by
  refine ⟨by simp, fun j c v hc hv => ?_⟩
  simp only [List.getElem?_map, hv, Option.map_some, Option.some.injEq] at hc
  exact hc ▸ .lit v
theorem Rel.cells {w : World} {F : Nat → Prop} {L : Id → Option Loc} {p : PV} {v : Value} (h : Rel w F L p v) : RelA w F L p.cells v.cells.toList := by
  cases h with
  | lit v => exact RelA.lits _
  | agg vs hs hr => exact ⟨hs, hr⟩
  | sl b base cap vs hFb hn hs hc hr => exact .one (.sl b base cap vs hFb hn hs hc hr)
  | wild a => exact .one (.wild a)
  | tup vs hs hr => exact .one (.tup vs hs hr)
  | fel b base vs hFb hs hc hr => exact .one (.fel b base vs hFb hs hc hr)
  | loc cap o h1 h2 h3 h4 => exact .one (.loc cap o h1 h2 h3 h4)
  | ptr h1 => exact .one (.ptr h1)
  | fn vs hs hr => exact .one (.fn vs hs hr)
theorem Rel.one {w : World} {F : Nat → Prop} {L : Id → Option Loc} {p : PV} {v : Value} (h : Rel w F L p v) (ho : p.one = true) : v.oneCell' = true := by
  cases h <;> first | exact ho | rfl | cases ho
structure Inv (w : World) (S : Sto) (L : Id → Option Loc) (F K : Nat → Prop) : Prop where
  live : ∀ i o, S.obj i = some o → ∃ ℓ c e, L i = some ℓ ∧ ℓ.es = o.es ∧ w.heap[ℓ.b]? = some (.cells c e (0, 0)) ∧ c.size = ℓ.sz ∧
    ℓ.base + o.cells.length ≤ ℓ.sz ∧ (∃ vs, RelA w F L o.cells vs ∧ ∀ j u, vs[j]? = some u → c[ℓ.base + j]? = some u) ∧
    (o.frz = true → F ℓ.b) ∧ (o.frz = false → ¬ F ℓ.b ∧ ¬ K ℓ.b)
  apart : ∀ i j o o' ℓ ℓ', S.obj i = some o → S.obj j = some o' → o.frz = false → L i = some ℓ → L j = some ℓ' → i ≠ j → ℓ.b ≠ ℓ'.b
  fresh : ∀ i : Id, S.gen i.s ≤ i.g → L i = none
  fz : ∀ b, F b ∨ K b → b < w.heap.size
def upd {β : Type} (f : Id → Option β) (i : Id) (v : Option β) : Id → Option β := fun j => if j = i then v else f j
theorem upd_same {β : Type} (f : Id → Option β) (i : Id) (v : Option β) : upd f i v i = v := by simp [upd]
theorem upd_ne {β : Type} (f : Id → Option β) {i j : Id} (v : Option β) (h : j ≠ i) : upd f i v j = f j := by simp [upd, h]
def Sto.next (S : Sto) (s : Nat) : Id := ⟨s, S.gen s⟩
def Sto.add (S : Sto) (s : Nat) (o : Obj) : Sto := ⟨upd S.obj (S.next s) (some o), fun t => if t = s then S.gen s + 1 else S.gen t⟩
def Sto.set (S : Sto) (i : Id) (o : Obj) : Sto := ⟨upd S.obj i (some o), S.gen⟩
def Sto.del (S : Sto) (i : Id) : Sto := ⟨upd S.obj i none, S.gen⟩
def Tm := Nat → PV
def Tm.put (tm : Tm) (d : Option Tmp) (v : PV) : Tm :=
  match d with
  | some d => fun t => if t = d then v else tm t
  | none => tm
def Tm.opnd (tm : Tm) : Operand → PV
  | .tmp t => tm t
  | .const v => .lit v
  | .global g => .lit (.pointer (some ⟨g, 0, none⟩))
  | .func f => .lit (.func (.func f) #[] #[])
def TmRel (w : World) (F : Nat → Prop) (L : Id → Option Loc) (tm : Tm) (a : Act) : Prop := ∀ t, Rel w F L (tm t) (a.tmps.getD t Go.undef)
theorem TmRel.opnd {w : World} {F : Nat → Prop} {L : Id → Option Loc} {tm : Tm} {a : Act} (h : TmRel w F L tm a) (x : Operand) : Rel w F L (tm.opnd x) (a.eval x) := by
  cases x with
  | tmp t => exact h t
  | const v => exact .lit v
  | global g => exact .lit _
  | func f => exact .lit _
theorem TmRel.put {w : World} {F : Nat → Prop} {L : Id → Option Loc} {tm : Tm} {a : Act} (h : TmRel w F L tm a) {d : Option Tmp} {p : PV} {v : Value}
    (hd : ∀ t, d = some t → t < a.tmps.size) (hv : Rel w F L p v) : TmRel w F L (tm.put d p) (a.put d v) := by
  intro t
  cases d with
  | none => exact h t
  | some d =>
    have := hd d rfl
    simp only [Tm.put, Act.put, Array.getD_eq_getD_getElem?, Array.getElem?_setIfInBounds]
    by_cases e : t = d
    · subst e; simp [this, hv]
    · simp only [e, if_false]
      rw [if_neg (by omega)]
      have := h t
      simpa only [Array.getD_eq_getD_getElem?] using this
theorem TmRel.ext {w w' : World} {F F' : Nat → Prop} {L L' : Id → Option Loc} {K : Nat → Prop} {tm : Tm} {a : Act} (x : Ext w F L K w' F' L') (h : TmRel w F L tm a) : TmRel w' F' L' tm a :=
  fun t => (h t).ext x
end Go.Abs
end
section
namespace Go.Abs
open Go
section
variable {w : World} {F : Nat → Prop} {L : Id → Option Loc}
theorem RelA.nil : RelA w F L [] [] := ⟨rfl, by simp⟩
theorem RelA.append {cs ds : List PV} {vs us : List Value} (h : RelA w F L cs vs) (k : RelA w F L ds us) : RelA w F L (cs ++ ds) (vs ++ us) := by
  refine ⟨by simp [h.1, k.1], fun j c v hc hv => ?_⟩
  rw [List.getElem?_append] at hc hv
  rw [h.1] at hv
  split at hc
  · rename_i hj; rw [if_pos hj] at hv; exact h.2 j c v hc hv
  · rename_i hj; rw [if_neg hj] at hv; exact k.2 _ c v hc hv
theorem RelA.take {cs : List PV} {vs : List Value} (h : RelA w F L cs vs) (n : Nat) : RelA w F L (cs.take n) (vs.take n) := by
  refine ⟨by simp [h.1], fun j c v hc hv => ?_⟩
  rw [List.getElem?_take] at hc hv
  split at hc
  · rename_i hj; rw [if_pos hj] at hv; exact h.2 j c v hc hv
  · cases hc
theorem RelA.drop {cs : List PV} {vs : List Value} (h : RelA w F L cs vs) (n : Nat) : RelA w F L (cs.drop n) (vs.drop n) := by
  refine ⟨by simp [h.1], fun j c v hc hv => ?_⟩
  rw [List.getElem?_drop] at hc hv
  exact h.2 _ c v hc hv
theorem RelA.mono {w' : World} {F' : Nat → Prop} {L' : Id → Option Loc} {cs : List PV} {vs : List Value} (h : RelA w F L cs vs)
    (f : ∀ p v, Rel w F L p v → Rel w' F' L' p v) : RelA w' F' L' cs vs := ⟨h.1, fun j c v hc hv => f _ _ (h.2 j c v hc hv)⟩
theorem RelA.ext {w' : World} {F' K : Nat → Prop} {L' : Id → Option Loc} {cs : List PV} {vs : List Value} (x : Ext w F L K w' F' L') (h : RelA w F L cs vs) : RelA w' F' L' cs vs :=
  h.mono fun _ _ r => r.ext x
theorem RelA.oneCells {cs : List PV} {vs : List Value} (h : RelA w F L cs vs) (ho : ∀ c ∈ cs, c.one = true) : ∀ v ∈ vs, v.oneCell' = true := by
  intro v hv
  obtain ⟨j, hj, rfl⟩ := List.mem_iff_getElem.1 hv
  have hj' : j < cs.length := h.1 ▸ hj
  exact (h.2 j cs[j] vs[j] (by simp) (by simp)).one (ho _ (List.getElem_mem hj'))
theorem Rel.aggA {cs : List PV} {vs : Array Value} (h : RelA w F L cs vs.toList) : Rel w F L (.agg cs) (.agg vs) := .agg _ h.1 h.2
theorem Rel.aggL {cs : List PV} {vs : List Value} (h : RelA w F L cs vs) : Rel w F L (.agg cs) (.agg vs.toArray) := .aggA (by simpa using h)
theorem Rel.slA {cs : List PV} {vs : List Value} {b base n cap : Nat} (hF : F b) (hn : n ≤ cap) (h : RelA w F L cs vs) (hc : HCells w b base vs) :
    Rel w F L (.sl cs n) (.slice (some ⟨b, base, none⟩) n cap) := .sl b base cap vs hF hn h.1 hc h.2
theorem Rel.felA {cs : List PV} {vs : List Value} {b base : Nat} (hF : F b) (h : RelA w F L cs vs) (hc : HCells w b base vs) :
    Rel w F L (.fel cs) (.pointer (some ⟨b, base, none⟩)) := .fel b base vs hF h.1 hc h.2
theorem HCells.drop {b base : Nat} {vs : List Value} (h : HCells w b base vs) (n : Nat) : HCells w b (base + n) (vs.drop n) := by
  intro j u hu
  rw [List.getElem?_drop] at hu
  have := h _ _ hu
  rwa [← Nat.add_assoc] at this
theorem HCells.take {b base : Nat} {vs : List Value} (h : HCells w b base vs) (n : Nat) : HCells w b base (vs.take n) := by
  intro j u hu
  rw [List.getElem?_take] at hu
  split at hu
  · exact h _ _ hu
  · cases hu
theorem cell?_of {b o : Nat} {c : Array Value} {e : TypeId} {z : Nat × Nat} (h : w.heap[b]? = some (.cells c e z)) : w.cell? ⟨b, o, none⟩ = c[o]? := by
  simp [World.cell?, h]
theorem frozen?_of {b o : Nat} {c : Array Value} {e : TypeId} (h : w.heap[b]? = some (.cells c e (0, 0))) : w.frozen? ⟨b, o, none⟩ = false := by
  simp [World.frozen?, h]
theorem HCells.of {b base : Nat} {c : Array Value} {e : TypeId} {z : Nat × Nat} {vs : List Value} (h : w.heap[b]? = some (.cells c e z)) (hv : ∀ (j : Nat) u, vs[j]? = some u → c[base + j]? = some u) :
    HCells w b base vs := fun j u hu => (cell?_of h).trans (hv j u hu)
end
def Sto.cellsOf (S : Sto) : PV → Option (List PV)
  | .fel cs => some cs
  | .ptr i off => (S.obj i).map fun o => o.cells.drop off
  | _ => none
theorem cells_at {w : World} {S : Sto} {L : Id → Option Loc} {F K : Nat → Prop} (hi : Inv w S L F K) {p : PV} {v : Value} (h : Rel w F L p v) {cs : List PV}
    (hc : S.cellsOf p = some cs) : ∃ b o, v = .pointer (some ⟨b, o, none⟩) ∧ ∃ vs : List Value, RelA w F L cs vs ∧ HCells w b o vs := by
  cases h with
  | fel b base vs hF hs hh hr =>
    simp only [Sto.cellsOf, Option.some.injEq] at hc
    subst hc
    exact ⟨b, base, rfl, vs, ⟨hs, hr⟩, hh⟩
  | @ptr i off ℓ hL =>
    simp only [Sto.cellsOf, Option.map_eq_some_iff] at hc
    obtain ⟨o, ho, rfl⟩ := hc
    obtain ⟨ℓ', c, e, hL', _, hb, _, _, ⟨vs, hvs, hcv⟩, _⟩ := hi.live i o ho
    obtain rfl : ℓ' = ℓ := Option.some.inj (hL'.symm.trans hL)
    refine ⟨_, _, rfl, vs.drop off, hvs.drop off, ?_⟩
    exact (HCells.of hb hcv).drop off
  | lit v => simp [Sto.cellsOf] at hc
  | sl => simp [Sto.cellsOf] at hc
  | wild => simp [Sto.cellsOf] at hc
  | agg => simp [Sto.cellsOf] at hc
  | tup => simp [Sto.cellsOf] at hc
  | loc => simp [Sto.cellsOf] at hc
  | fn => simp [Sto.cellsOf] at hc
theorem Inv.add {w : World} {S : Sto} {L : Id → Option Loc} {F K : Nat → Prop} (hi : Inv w S L F K) (s es : Nat) (cs : List PV) (vs : List Value) (c : Array Value) (e : TypeId)
    {w' : World} (hos : w'.os = w.os) (htape : w'.tape = w.tape) (hout : w'.output = w.output) (hh : w'.heap = w.heap.push (.cells c e (0, 0)))
    (hr : RelA w F L cs vs) (hlen : cs.length ≤ c.size) (hv : ∀ (j : Nat) u, vs[j]? = some u → c[j]? = some u) :
    let L' := upd L (S.next s) (some ⟨w.heap.size, 0, es, c.size⟩)
    Inv w' (S.add s ⟨cs, es, false⟩) L' F K ∧ Ext w F L K w' F L' := by
  intro L'
  have hfresh : L (S.next s) = none := hi.fresh _ (Nat.le_refl _)
  have hL' : ∀ i ℓ, L i = some ℓ → L' i = some ℓ := fun i ℓ h => by
    have : i ≠ S.next s := fun e => by rw [e, hfresh] at h; cases h
    rw [show L' i = L i from upd_ne L _ this]; exact h
  have hold : ∀ b, b < w.heap.size → w'.heap[b]? = w.heap[b]? := fun b hb => by rw [hh, Array.getElem?_push, if_neg (by omega)]
  have hx : Ext w F L K w' F L' := by
    refine ⟨hos, htape, hout, by rw [hh]; simp, fun _ h => h, fun b hb => hold b (hi.fz b hb), hL', fun _ h => .inl h, fun i ℓ h => ?_⟩
    by_cases e : i = S.next s
    · subst e
      rw [show L' (S.next s) = some ⟨w.heap.size, 0, es, c.size⟩ from upd_same _ _ _] at h
      obtain rfl := Option.some.inj h
      exact .inl (Nat.le_refl _)
    · exact .inr ⟨i, ℓ, (upd_ne L _ e).symm.trans h, rfl⟩
  have hobj : ∀ i, (S.add s ⟨cs, es, false⟩).obj i = if i = S.next s then some ⟨cs, es, false⟩ else S.obj i := fun i => by simp only [Sto.add, upd]
  have hnone : S.obj (S.next s) = none := by
    cases h : S.obj (S.next s) with
    | none => rfl
    | some o => obtain ⟨ℓ, _, _, hl, _⟩ := hi.live _ _ h; rw [hfresh] at hl; cases hl
  have hlt : ∀ i o ℓ, S.obj i = some o → L i = some ℓ → ℓ.b < w.heap.size := fun i o ℓ ho hl => by
    obtain ⟨ℓ', c', e', hl', _, hb, _⟩ := hi.live i o ho
    obtain rfl := Option.some.inj (hl.symm.trans hl')
    rcases Nat.lt_or_ge ℓ.b w.heap.size with h | h
    · exact h
    · rw [Array.getElem?_eq_none h] at hb; cases hb
  refine ⟨⟨fun i o ho => ?_, fun i j o o' ℓ ℓ' ho ho' hz hl hl' hne => ?_, fun i hg => ?_, fun b hb => by rw [hh]; have := hi.fz b hb; simp; omega⟩, hx⟩
  · rw [hobj] at ho
    split at ho
    · rename_i hie; subst hie
      obtain rfl := Option.some.inj ho
      refine ⟨_, c, e, upd_same _ _ _, rfl, by rw [hh]; simp, rfl, by simpa using hlen, ⟨vs, hr.ext hx, by simpa using hv⟩, by simp, fun _ => ?_⟩
      exact ⟨fun hf => absurd (hi.fz _ (.inl hf)) (by simp), fun hk => absurd (hi.fz _ (.inr hk)) (by simp)⟩
    · obtain ⟨ℓ, c', e', h1, h2, h3, h4, h5, ⟨us, h6, h7⟩, h8, h9⟩ := hi.live i o ho
      exact ⟨ℓ, c', e', hL' _ _ h1, h2, (hold _ (hlt _ _ _ ho h1)).trans h3, h4, h5, ⟨us, h6.ext hx, h7⟩, h8, h9⟩
  · rw [hobj] at ho ho'
    have e1 : ∀ {m : Id} {ℓ : Loc}, L' m = some ℓ → m = S.next s → ℓ.b = w.heap.size := fun hm e => by
      subst e
      rw [show L' (S.next s) = some ⟨w.heap.size, 0, es, c.size⟩ from upd_same _ _ _] at hm
      rw [← Option.some.inj hm]
    have e2 : ∀ {m : Id} {ℓ : Loc}, L' m = some ℓ → m ≠ S.next s → L m = some ℓ := fun hm e => by
      rw [← hm]; exact (upd_ne L _ e).symm
    split at ho <;> split at ho'
    · rename_i h1 h2; exact absurd (h1.trans h2.symm) hne
    · rename_i h1 h2
      have := hlt _ _ _ ho' (e2 hl' h2)
      have := e1 hl h1
      omega
    · rename_i h1 h2
      have := hlt _ _ _ ho (e2 hl h1)
      have := e1 hl' h2
      omega
    · rename_i h1 h2
      exact hi.apart i j o o' ℓ ℓ' ho ho' hz (e2 hl h1) (e2 hl' h2) hne
  · have hne : i ≠ S.next s := fun e => by
      subst e
      simp only [Sto.add, Sto.next] at hg
      simp at hg
      omega
    rw [show L' i = L i from upd_ne L _ hne]
    refine hi.fresh i ?_
    simp only [Sto.add] at hg
    split at hg
    · rename_i h; rw [h]; omega
    · exact hg
theorem Inv.write {w : World} {S : Sto} {L : Id → Option Loc} {F K : Nat → Prop} (hi : Inv w S L F K) {i : Id} {o : Obj} (ho : S.obj i = some o) (hz : o.frz = false) {ℓ : Loc} (hl : L i = some ℓ)
    {c c' : Array Value} {e e' : TypeId} (hb : w.heap[ℓ.b]? = some (.cells c e (0, 0))) (cs : List PV) (vs : List Value)
    {w' : World} (hos : w'.os = w.os) (htape : w'.tape = w.tape) (hout : w'.output = w.output) (hs : w'.heap.size = w.heap.size)
    (hb' : w'.heap[ℓ.b]? = some (.cells c' e' (0, 0))) (hsz : c'.size = c.size) (hrest : ∀ b, b ≠ ℓ.b → w'.heap[b]? = w.heap[b]?)
    (hr : RelA w F L cs vs) (hlen : ℓ.base + cs.length ≤ c.size) (hv : ∀ (j : Nat) u, vs[j]? = some u → c'[ℓ.base + j]? = some u) :
    Inv w' (S.set i ⟨cs, o.es, false⟩) L F K ∧ Ext w F L K w' F L := by
  obtain ⟨ℓ', c₁, e₁, hl', hes, hb1, hsz1, hlen1, _, _, hown⟩ := hi.live i o ho
  obtain rfl := Option.some.inj (hl'.symm.trans hl)
  rw [hb1] at hb
  obtain ⟨rfl, rfl⟩ : c₁ = c ∧ e₁ = e := by injection hb with hb; injection hb with h1 h2; exact ⟨h1, h2⟩
  obtain ⟨hnF, hnK⟩ := hown hz
  have hx : Ext w F L K w' F L := by
    refine ⟨hos, htape, hout, by omega, fun _ h => h, fun b hb => hrest b (fun e => ?_), fun _ _ h => h, fun _ h => .inl h, fun i ℓ h => .inr ⟨i, ℓ, h, rfl⟩⟩
    subst e; rcases hb with hb | hb
    · exact hnF hb
    · exact hnK hb
  have hobj : ∀ j, (S.set i ⟨cs, o.es, false⟩).obj j = if j = i then some ⟨cs, o.es, false⟩ else S.obj j := fun j => by simp only [Sto.set, upd]
  refine ⟨⟨fun j q hq => ?_, fun j k q q' m m' hq hq' hqz hm hm' hne => ?_, hi.fresh, fun b hb => by have := hi.fz b hb; omega⟩, hx⟩
  · rw [hobj] at hq
    split at hq
    · rename_i hj; subst hj
      obtain rfl := Option.some.inj hq
      exact ⟨ℓ', c', e', hl, hes, hb', by omega, by simp; omega, ⟨vs, hr.ext hx, hv⟩, by simp, fun _ => ⟨hnF, hnK⟩⟩
    · rename_i hj
      obtain ⟨m, c2, e2, h1, h2, h3, h4, h5, ⟨us, h6, h7⟩, h8, h9⟩ := hi.live j q hq
      have : m.b ≠ ℓ'.b := fun e => hi.apart i j o q ℓ' m ho hq hz hl h1 (fun e => hj e.symm) e.symm
      exact ⟨m, c2, e2, h1, h2, (hrest _ this).trans h3, h4, h5, ⟨us, h6.ext hx, h7⟩, h8, h9⟩
  · rw [hobj] at hq hq'
    have old : ∀ {k : Id} {q : Obj}, (if k = i then some ⟨cs, o.es, false⟩ else S.obj k) = some q → ∃ q0, S.obj k = some q0 ∧ (q.frz = false → q0.frz = false) := fun {k q} h => by
      split at h
      · rename_i hk; subst hk; exact ⟨o, ho, fun _ => hz⟩
      · exact ⟨q, h, fun h => h⟩
    obtain ⟨q0, hq0, hf⟩ := old hq
    obtain ⟨q1, hq1, _⟩ := old hq'
    exact hi.apart j k q0 q1 m m' hq0 hq1 (hf hqz) hm hm' hne
theorem Inv.del {w : World} {S : Sto} {L : Id → Option Loc} {F K : Nat → Prop} (hi : Inv w S L F K) (i : Id) : Inv w (S.del i) L F K := by
  have hobj : ∀ j q, (S.del i).obj j = some q → S.obj j = some q := fun j q h => by
    simp only [Sto.del, upd] at h
    split at h
    · cases h
    · exact h
  exact ⟨fun j q h => hi.live j q (hobj j q h), fun j k q q' m m' h h' => hi.apart j k q q' m m' (hobj _ _ h) (hobj _ _ h'), hi.fresh, hi.fz⟩
end Go.Abs
end
section
namespace Go.Abs
open Go
inductive TK where
  | int (k : IntKind) | bool | str | slice (e : TypeId) | strct | arr (n : Nat) (e : TypeId) | ptr (e : TypeId) | map (k v : TypeId) | func | iface | other
  deriving DecidableEq
def tkOf : TypeDesc → TK
  | .int k => .int k
  | .bool => .bool
  | .string => .str
  | .slice e => .slice e
  | .struct _ => .strct
  | .array n e => .arr n e
  | .pointer e => .ptr e
  | .map k v => .map k v
  | .func _ _ _ => .func
  | .interface _ => .iface
  | _ => .other
def TK.agg : TK → Bool
  | .strct | .arr _ _ => true
  | _ => false
structure FI where
  off : Nat
  sz : Nat
  k : TK
structure TI where
  k : TK
  size : Nat
  bytes : Nat
  zero : List Value
  flds : List FI
def fi1 (P : Program) (f : Field) : Option FI :=
  match P.info? f.type, P.underlying f.type with
  | some i, some d => some ⟨f.offset, i.size, tkOf d⟩
  | _, _ => none
def fldL (P : Program) : List Field → Option (List FI)
  | [] => some []
  | f :: r => match fi1 P f, fldL P r with
    | some x, some y => some (x :: y)
    | _, _ => none
def fldsOf (P : Program) : TypeDesc → Option (List FI)
  | .struct fs => fldL P fs.toList
  | _ => some []
def tiOf (P : Program) (t : TypeId) : Option TI :=
  match P.info? t, P.underlying t with
  | some i, some d => match i.zero, fldsOf P d with
    | some z, some fs => some ⟨tkOf d, i.size, i.bytes, z.cells.toList, fs⟩
    | _, _ => none
  | _, _ => none
def TI.load (ti : TI) (cs : List PV) : Option PV :=
  if ti.k.agg then (if ti.size ≤ cs.length then some (.agg (cs.take ti.size)) else none) else cs.head?
def putAt (cs : List PV) (off : Nat) (vs : List PV) : List PV := cs.take off ++ (vs ++ cs.drop (off + vs.length))
def fillL (place : Nat → Option (Nat × Nat)) (cells : List PV) : List (Nat × PV) → Option (List PV)
  | [] => some cells
  | (i, v) :: rest => match place i with
    | none => none
    | some (off, size) => if v.cells.length ≠ size ∨ cells.length < off + size then none else fillL place (putAt cells off v.cells) rest
def repL {α : Type} (n : Nat) (zs : List α) : List α := (List.replicate n zs).flatten
def intBin (op : BinOp) (k : IntKind) (a : Int) (k' : IntKind) (b : Int) : Option Value :=
  match op with
  | .shl => if b < 0 then none else some (.int k (k.wrap (a * 2 ^ (min b.toNat k.bits))))
  | .shr => if b < 0 then none else some (.int k (a.fdiv (2 ^ (min b.toNat k.bits))))
  | .add => if k = k' then some (.int k (k.wrap (a + b))) else none
  | .sub => if k = k' then some (.int k (k.wrap (a - b))) else none
  | .mul => if k = k' then some (.int k (k.wrap (a * b))) else none
  | .quo => if k = k' then (if b = 0 then none else some (.int k (k.wrap (a.tdiv b)))) else none
  | .rem => if k = k' then (if b = 0 then none else some (.int k (a.tmod b))) else none
  | .and => if k = k' then some (.int k (k.wrap ((BitVec.ofInt k.bits a &&& BitVec.ofInt k.bits b).toNat))) else none
  | .or => if k = k' then some (.int k (k.wrap ((BitVec.ofInt k.bits a ||| BitVec.ofInt k.bits b).toNat))) else none
  | .xor => if k = k' then some (.int k (k.wrap ((BitVec.ofInt k.bits a ^^^ BitVec.ofInt k.bits b).toNat))) else none
  | .andNot => if k = k' then some (.int k (k.wrap ((BitVec.ofInt k.bits a &&& ~~~ BitVec.ofInt k.bits b).toNat))) else none
  | .eql => if k = k' then some (.bool (a == b)) else none
  | .neq => if k = k' then some (.bool (a != b)) else none
  | .lss => if k = k' then some (.bool (decide (a < b))) else none
  | .leq => if k = k' then some (.bool (decide (a ≤ b))) else none
  | .gtr => if k = k' then some (.bool (decide (a > b))) else none
  | .geq => if k = k' then some (.bool (decide (a ≥ b))) else none
def strBin (op : BinOp) (x y : ByteArray) : Option Value :=
  match op with
  | .add => if x.size + y.size ≤ 9223372036854775807 then some (.string (x ++ y)) else none
  | .eql => some (.bool (x.toList == y.toList))
  | .neq => some (.bool !(x.toList == y.toList))
  | .lss => some (.bool (Op.bytesLess x.toList y.toList))
  | .leq => some (.bool (Op.bytesLess x.toList y.toList || x.toList == y.toList))
  | .gtr => some (.bool !(Op.bytesLess x.toList y.toList || x.toList == y.toList))
  | .geq => some (.bool !(Op.bytesLess x.toList y.toList))
  | _ => none
def PV.nil? : PV → Option Bool
  | .lit (.slice none _ _) => some true
  | .sl _ _ => some false
  | .loc _ _ _ => some false
  | _ => none
def tkAt (P : Program) (t : TypeId) : Option TK := (P.underlying t).map tkOf
def szAt (P : Program) (t : TypeId) : Option Nat := (P.info? t).map (·.size)
def litBin (P : Program) (op : BinOp) (t : TypeId) : Value → Value → Option Value
  | .int k a, .int k' b => intBin op k a k' b
  | .string a, .string b => strBin op a b
  | .bool a, .bool b => match op with
    | .eql => if tkAt P t = some .bool then some (.bool (a == b)) else none
    | .neq => if tkAt P t = some .bool then some (.bool (a != b)) else none
    | _ => none
  | _, _ => none
def nilEq (P : Program) (t : TypeId) (x y : PV) : Option Bool :=
  match tkAt P t, x.nil?, y.nil? with
  | some (.slice _), some true, some b => some b
  | some (.slice _), some a, some true => some a
  | _, _, _ => none
def PV.lits : PV → PV → Option (Value × Value)
  | .lit a, .lit b => some (a, b)
  | _, _ => none
def binFn (P : Program) (op : BinOp) (t : TypeId) (x y : PV) : Option PV :=
  match tkAt P t with
  | some (.slice _) => match op with
    | .eql => (nilEq P t x y).map fun b => .lit (.bool b)
    | .neq => (nilEq P t x y).map fun b => .lit (.bool !b)
    | _ => none
  | _ => match x, y with
    | .lit a, .lit b => (litBin P op t a b).map .lit
    | _, _ => none
def unFn (op : UnOp) : PV → Option PV
  | .lit (.int k n) => match op with
    | .neg => some (.lit (.int k (k.wrap (0 - n))))
    | _ => none
  | .lit (.bool b) => match op with
    | .not => some (.lit (.bool !b))
    | _ => none
  | _ => none
def convFn (P : Program) (src dst : TypeId) : PV → Option PV
  | .lit (.int _ n) => match tkAt P src, tkAt P dst with
    | some _, some (.int k) => some (.lit (.int k (k.wrap n)))
    | _, _ => none
  | .lit (.string s) => match tkAt P src, tkAt P dst with
    | some .str, some .str => some (.lit (.string s))
    | _, _ => none
  | _ => none
def PV.int? : PV → Option Int
  | .lit (.int _ n) => some n
  | _ => none
def PV.len? : PV → Option Nat
  | .lit (.slice none n _) => some n
  | .sl _ n => some n
  | .loc _ _ n => some n
  | _ => none
def PV.elem : PV → Nat → Option PV
  | .sl cs _, j => some (.fel (cs.drop j))
  | .loc i off _, j => some (.ptr i (off + j))
  | _, _ => none
def PV.step : PV → Nat → Option PV
  | .fel cs, j => some (.fel (cs.drop j))
  | .ptr i off, j => some (.ptr i (off + j))
  | _, _ => none
def Sto.part (S : Sto) (p : PV) (es l h : Nat) : Option PV :=
  match p with
  | .lit (.slice none n c) => if h ≤ n ∧ n ≤ c ∧ c = 0 then some (.lit (.slice none 0 0)) else none
  | .sl cs n => if h ≤ n ∧ l ≤ h then some (.sl ((cs.drop (l * es)).take ((h - l) * es)) (h - l)) else none
  | .loc i off n => match S.obj i with
    | some o => if h ≤ n ∧ l ≤ h ∧ o.es = es then some (.loc i (off + l * es) (h - l)) else none
    | none => none
  | _ => none
def Sto.rowOf (S : Sto) (es : Nat) : PV → Option (List PV)
  | .lit (.slice none 0 _) => some []
  | .sl cs n => if n * es ≤ cs.length then some (cs.take (n * es)) else none
  | .loc i off n => match S.obj i with
    | some o => if off + n * es ≤ o.cells.length then some ((o.cells.drop off).take (n * es)) else none
    | none => none
  | _ => none
abbrev OpR := Option (PV × Sto)
def justV (S : Sto) (v : Option PV) : OpR := v.map fun v => (v, S)
def storeFn (S : Sto) (a : PV) (sz : Nat) (vs : List PV) : OpR :=
  match a with
  | .ptr i off => match S.obj i with
    | some o => if o.frz = false ∧ vs.length = sz ∧ off + sz ≤ o.cells.length ∧ vs.all PV.one then some (.undef, S.set i ⟨putAt o.cells off vs, o.es, false⟩) else none
    | none => none
  | _ => none
def maxBytes : Nat := 140737488355328
def maxMake : Nat := 281474976710656
def appendFn (P : Program) (s : Nat) (S : Sto) (t : TypeId) (x y : PV) : OpR :=
  match tkAt P t with
  | some (.slice e) => match tiOf P e, y.len? with
    | some te, some m => match S.rowOf te.size y with
      | some ys => if ys.all PV.one ∧ te.zero.length = te.size then (match x with
        | .lit (.slice none 0 0) => if m = 0 then some (x, S) else
            if m ≤ maxBytes ∧ m * te.bytes ≤ maxBytes then some (.loc (S.next s) 0 m, S.add s ⟨ys, te.size, false⟩) else none
        | .loc i off n => match S.obj i with
          | some o => if o.frz = false ∧ o.es = te.size ∧ o.cells.length = off + n * te.size ∧ n + m ≤ maxBytes ∧ (n + m) * te.bytes ≤ maxBytes then
              some (.loc (S.next s) 0 (n + m), (S.del i).add s ⟨o.cells.drop off ++ ys, te.size, false⟩) else none
          | none => none
        | _ => none) else none
      | none => none
    | _, _ => none
  | _ => none
def copyFn (P : Program) (S : Sto) (t : TypeId) (x y : PV) : OpR :=
  match tkAt P t with
  | some (.slice e) => match szAt P e, y.len?, x with
    | some es, some m, .loc i off n => match S.obj i, S.rowOf es y with
      | some o, some ys => if o.frz = false ∧ ys.all PV.one ∧ off + n * es ≤ o.cells.length then
          some (.lit (.int .i64 (min m n : Nat)), S.set i ⟨putAt o.cells off (ys.take (min m n * es)), o.es, false⟩) else none
      | _, _ => none
    | _, _, _ => none
  | _ => none
def minFn (v : Int) : List PV → Option Int
  | [] => some v
  | .lit (.int _ n) :: r => minFn (if n < v then n else v) r
  | _ :: _ => none
def maxFn (v : Int) : List PV → Option Int
  | [] => some v
  | .lit (.int _ n) :: r => maxFn (if n > v then n else v) r
  | _ :: _ => none
def pureB (P : Program) (b : Builtin) (ts : List TypeId) (xs : List PV) : Option PV :=
  match b, ts, xs with
  | .len, t :: _, x :: _ => match tkAt P t with
    | some .str => match x with
      | .lit (.string s) => some (.lit (.int .i64 (s.size : Nat)))
      | _ => none
    | some (.slice _) => x.len?.map fun n => .lit (.int .i64 (n : Nat))
    | some (.arr n _) => some (.lit (.int .i64 (n : Nat)))
    | _ => none
  | .min, _, .lit (.int k v) :: r => (minFn v r).map fun n => .lit (.int k n)
  | .max, _, .lit (.int k v) :: r => (maxFn v r).map fun n => .lit (.int k n)
  | _, _, _ => none
def builtinFn (P : Program) (s : Nat) (S : Sto) (b : Builtin) (ts : List TypeId) (xs : List PV) : OpR :=
  match b with
  | .append => match ts, xs with
    | t :: t' :: _, x :: y :: _ => if t = t' then appendFn P s S t x y else none
    | _, _ => none
  | .copy => match ts, xs with
    | t :: t' :: _, x :: y :: _ => if t = t' then copyFn P S t x y else none
    | _, _ => none
  | .len => justV S (pureB P .len ts xs)
  | .min => justV S (pureB P .min ts xs)
  | .max => justV S (pureB P .max ts xs)
  | _ => none
def aggCells : PV → Option (List PV)
  | .agg cs => some cs
  | .lit (.agg cs) => some (cs.toList.map .lit)
  | _ => none
def boundFn (n : Nat) : Option PV → Option Int
  | none => some n
  | some x => x.int?
def opFn (P : Program) (s : Nat) (ρ : Operand → PV) (S : Sto) : Op → OpR
  | .move x | .assign x => some (ρ x, S)
  | .pick c a b => match ρ c with
    | .lit (.bool t) => some (if t then ρ a else ρ b, S)
    | _ => none
  | .alloc e => match tiOf P e with
    | some ti => some (.ptr (S.next s) 0, S.add s ⟨ti.zero.map .lit, 0, false⟩)
    | none => none
  | .box _ x => some (.ptr (S.next s) 0, S.add s ⟨(ρ x).cells, 0, false⟩)
  | .build t parts => match tiOf P t with
    | some ti => match ti.k with
      | .strct => (fillL (fun i => (ti.flds[i]?).map fun f => (f.off, f.sz)) (ti.zero.map .lit) (parts.toList.map fun (i, x) => (i, ρ x))).map fun cs => (.agg cs, S)
      | .arr _ e => match szAt P e with
        | some es => (fillL (fun i => some (i * es, es)) (ti.zero.map .lit) (parts.toList.map fun (i, x) => (i, ρ x))).map fun cs => (.agg cs, S)
        | none => none
      | _ => none
    | none => none
  | .buildSlice t len parts => match tkAt P t with
    | some (.slice e) => match tiOf P e with
      | some te => if len * te.size ≤ 16777216 ∧ te.zero.length = te.size then
          (fillL (fun i => some (i * te.size, te.size)) (repL len (te.zero.map .lit)) (parts.toList.map fun (i, x) => (i, ρ x))).map fun cs => (.loc (S.next s) 0 len, S.add s ⟨cs, te.size, false⟩)
          else none
      | none => none
    | _ => none
  | .load t a => match tiOf P t, S.cellsOf (ρ a) with
    | some ti, some cs => justV S (ti.load cs)
    | _, _ => none
  | .store t a x => match szAt P t with
    | some sz => storeFn S (ρ a) sz (ρ x).cells
    | none => none
  | .nilCheck x => match ρ x with
    | .ptr i off => some (.ptr i off, S)
    | .fel cs => some (.fel cs, S)
    | .fn f cs => some (.fn f cs, S)
    | .lit (.func (.func f) a b) => some (.lit (.func (.func f) a b), S)
    | _ => none
  | .binOp op t x y _ => justV S (binFn P op t (ρ x) (ρ y))
  | .unOp op _ x => justV S (unFn op (ρ x))
  | .convert src dst x => justV S (convFn P src dst (ρ x))
  | .makeFunc (.func f) first cap => if first.size = 0 then some (.fn f (cap.toList.map ρ), S) else none
  | .makeSlice t l c => match tkAt P t, ρ l, ρ c with
    | some (.slice e), .lit (.int _ n), .lit (.int _ m) => match tiOf P e with
      | some te => if 0 ≤ n ∧ n ≤ m ∧ m ≤ maxMake ∧ m.toNat * te.bytes ≤ maxMake ∧ te.zero.length = te.size then
          some (.loc (S.next s) 0 n.toNat, S.add s ⟨repL n.toNat (te.zero.map .lit), te.size, false⟩) else none
      | none => none
    | _, _, _ => none
  | .slice t x lo hi none => match tkAt P t with
    | some (.slice e) => match szAt P e, (ρ x).len? with
      | some es, some n => match boundFn 0 (lo.map ρ), boundFn n (hi.map ρ) with
        | some l, some h => if 0 ≤ l ∧ l ≤ h ∧ h ≤ n then justV S (S.part (ρ x) es l.toNat h.toNat) else none
        | _, _ => none
      | _, _ => none
    | some .str => match ρ x with
      | .lit (.string b) => match boundFn 0 (lo.map ρ), boundFn b.size (hi.map ρ) with
        | some l, some h => if 0 ≤ l ∧ l ≤ h ∧ h ≤ b.size then some (.lit (.string (b.extract l.toNat h.toNat)), S) else none
        | _, _ => none
      | _ => none
    | _ => none
  | .fieldAddr t x f => match tiOf P t with
    | some ti => match ti.flds[f]? with
      | some fi => if fi.sz ≠ 0 ∧ ti.k = .strct then justV S ((ρ x).step fi.off) else none
      | none => none
    | none => none
  | .field t x f => match tiOf P t with
    | some ti => match ti.flds[f]?, aggCells (ρ x) with
      | some fi, some cs => if ti.k = .strct then justV S (if fi.k.agg then (if fi.off + fi.sz ≤ cs.length then some (.agg ((cs.drop fi.off).take fi.sz)) else none) else cs[fi.off]?) else none
      | _, _ => none
    | none => none
  | .indexAddr t x i => match tkAt P t, (ρ i).int? with
    | some (.slice e), some j => match szAt P e, (ρ x).len? with
      | some es, some n => if 0 ≤ j ∧ j < n then justV S ((ρ x).elem (j.toNat * es)) else none
      | _, _ => none
    | some (.arr n e), some j => match szAt P e with
      | some es => if 0 ≤ j ∧ j < n then justV S ((ρ x).step (j.toNat * es)) else none
      | none => none
    | _, _ => none
  | .index t x i => match tkAt P t, (ρ i).int? with
    | some (.arr n e), some j => match tiOf P e, aggCells (ρ x) with
      | some te, some cs => if 0 ≤ j ∧ j < n then justV S (if te.k.agg then (if j.toNat * te.size + te.size ≤ cs.length then some (.agg ((cs.drop (j.toNat * te.size)).take te.size)) else none) else cs[j.toNat * te.size]?) else none
      | _, _ => none
    | some .str, some j => match ρ x with
      | .lit (.string s) => if 0 ≤ j then (s[j.toNat]?).map fun b => (.lit (.int .u8 (b.toNat : Nat)), S) else none
      | _ => none
    | _, _ => none
  | .extract x ix => match ρ x with
    | .tup vs => (vs[ix]?).map fun v => (v, S)
    | .lit (.tuple vs) => (vs[ix]?).map fun v => (.lit v, S)
    | _ => none
  | .call { callee := .builtin b, args := xs, argTypes := ts } => builtinFn P s S b ts.toList (xs.toList.map ρ)
  | _ => none
end Go.Abs
end
section
namespace Go.Abs
open Go
variable {P : Program} {w : World} {S : Sto} {L : Id → Option Loc} {F K : Nat → Prop}
theorem tiOf_spec {t : TypeId} {ti : TI} (h : tiOf P t = some ti) : ∃ i d z, P.info? t = some i ∧ P.underlying t = some d ∧ i.zero = some z ∧
    ti.k = tkOf d ∧ ti.size = i.size ∧ ti.bytes = i.bytes ∧ ti.zero = z.cells.toList ∧ fldsOf P d = some ti.flds := by
  unfold tiOf at h
  split at h
  · rename_i i d h1 h2
    split at h
    · rename_i z fs h3 h4
      obtain rfl := Option.some.inj h
      exact ⟨i, d, z, h1, h2, h3, rfl, rfl, rfl, rfl, h4⟩
    · cases h
  · cases h
theorem tkAt_spec {t : TypeId} {k : TK} (h : tkAt P t = some k) : ∃ d, P.underlying t = some d ∧ tkOf d = k := by
  simpa [tkAt, Option.map_eq_some_iff] using h
theorem tkAt_slice {t e : TypeId} (h : tkAt P t = some (.slice e)) : P.underlying t = some (.slice e) := by
  obtain ⟨d, h1, h2⟩ := tkAt_spec h
  cases d <;> simp [tkOf] at h2
  subst h2; exact h1
theorem tkAt_arr {t e : TypeId} {n : Nat} (h : tkAt P t = some (.arr n e)) : P.underlying t = some (.array n e) := by
  obtain ⟨d, h1, h2⟩ := tkAt_spec h
  cases d <;> simp [tkOf] at h2
  obtain ⟨rfl, rfl⟩ := h2; exact h1
theorem tkAt_str {t : TypeId} (h : tkAt P t = some .str) : P.underlying t = some .string := by
  obtain ⟨d, h1, h2⟩ := tkAt_spec h
  cases d <;> simp [tkOf] at h2
  exact h1
theorem tkAt_bool {t : TypeId} (h : tkAt P t = some .bool) : P.underlying t = some .bool := by
  obtain ⟨d, h1, h2⟩ := tkAt_spec h
  cases d <;> simp [tkOf] at h2
  exact h1
theorem tkAt_int {t : TypeId} {k : IntKind} (h : tkAt P t = some (.int k)) : P.underlying t = some (.int k) := by
  obtain ⟨d, h1, h2⟩ := tkAt_spec h
  cases d <;> simp [tkOf] at h2
  subst h2; exact h1
theorem szAt_spec {t : TypeId} {n : Nat} (h : szAt P t = some n) : ∃ i, P.info? t = some i ∧ i.size = n := by
  simpa [szAt, Option.map_eq_some_iff] using h
theorem tiOf_szAt {t : TypeId} {ti : TI} (h : tiOf P t = some ti) : szAt P t = some ti.size := by
  obtain ⟨i, d, z, h1, _, _, _, h5, _⟩ := tiOf_spec h
  simp [szAt, h1, h5]
theorem run_sizeOf {t : TypeId} {n : Nat} (h : szAt P t = some n) : (sizeOf t).run P w = .ok n w := by
  obtain ⟨i, hi, rfl⟩ := szAt_spec h
  simp [sizeOf, typeInfo, hi]
theorem run_isAgg {t : TypeId} {d : TypeDesc} (h : P.underlying t = some d) : (isAgg t).run P w = .ok (tkOf d).agg w := by
  simp only [isAgg, Sem.run_bind, run_underlying h, Result.andThen_ok]
  cases d <;> rfl
theorem run_zero {t : TypeId} {i : TypeInfo} {z : Value} (h : P.info? t = some i) (hz : i.zero = some z) : (zeroValue t).run P w = .ok z w := by
  simp [zeroValue, typeInfo, h, hz]
theorem addr_add (b o n : Nat) : (⟨b, o, none⟩ : Addr).add n = ⟨b, o + n, none⟩ := by
  unfold Addr.add
  split
  · rename_i h; subst h; rfl
  · rfl
theorem run_loadN {b o n : Nat} {vs : List Value} (h : HCells w b o vs) (hn : n ≤ vs.length) : (loadCells ⟨b, o, none⟩ n).run P w = .ok (vs.take n).toArray w := by
  have := run_loadCells_list (P := P) (w := w) ⟨b, o, none⟩ (vs.take n) (fun j v hv => by rw [addr_add]; exact (h.take n) j v hv)
  simpa [List.length_take, Nat.min_eq_left hn] using this
theorem run_load1 {a : Addr} {v : Value} (h : w.cell? a = some v) : (load a).run P w = .ok v w := by
  rw [run_load, h]
theorem s_load {t : TypeId} {ti : TI} (hi : Inv w S L F K) (ht : tiOf P t = some ti) {p : PV} {v : Value} (hr : Rel w F L p v) {cs : List PV} (hc : S.cellsOf p = some cs)
    {q : PV} (hq : ti.load cs = some q) : ∃ u, (Instr.loadAt t v).run P w = .ok u w ∧ Rel w F L q u := by
  obtain ⟨b, o, rfl, vs, hvs, hh⟩ := cells_at hi hr hc
  obtain ⟨i, d, z, h1, h2, _, h4, h5, _⟩ := tiOf_spec ht
  have hsz := run_sizeOf (w := w) (tiOf_szAt ht)
  have hag := run_isAgg (w := w) h2
  rw [← h4] at hag
  unfold TI.load at hq
  simp only [Instr.loadAt, Instr.sureAddr, loadVar, Sem.run_bind, Sem.run_pure, Result.andThen_ok, hag]
  split at hq
  · rename_i hg
    split at hq
    · rename_i hl
      obtain rfl := Option.some.inj hq
      refine ⟨.agg (vs.take ti.size).toArray, ?_, .aggL (hvs.take _)⟩
      simp [hg, hsz, run_loadN hh (by rw [hvs.1]; exact hl)]
    · cases hq
  · rename_i hg
    cases cs with
    | nil => cases hq
    | cons c cs =>
      obtain rfl : c = q := by simpa using hq
      have hlen : 0 < vs.length := by rw [hvs.1]; simp
      have h0 : vs[0]? = some vs[0] := by simp
      refine ⟨vs[0], ?_, hvs.2 0 c _ (by simp) h0⟩
      have := hh 0 _ h0
      simp [hg, run_load1 (by simpa using this)]
theorem putAt_get (cs vs : List PV) (off : Nat) (h : off + vs.length ≤ cs.length) : (putAt cs off vs).length = cs.length ∧
    ∀ j, (putAt cs off vs)[j]? = if off ≤ j ∧ j < off + vs.length then vs[j - off]? else cs[j]? := by
  refine ⟨by simp [putAt]; omega, fun j => ?_⟩
  unfold putAt
  rw [List.getElem?_append, List.getElem?_append, List.getElem?_take, List.getElem?_drop]
  have hl : (cs.take off).length = off := by simp; omega
  simp only [hl]
  by_cases h1 : j < off
  · simp [h1, show ¬ off ≤ j by omega]
  · simp only [h1, if_false]
    by_cases h2 : j < off + vs.length
    · simp [show j - off < vs.length by omega, h2, show off ≤ j by omega]
    · simp only [show ¬ (j - off < vs.length) by omega, if_false, h2, and_false]
      congr 1
      omega
def putV (cs : List Value) (off : Nat) (vs : List Value) : List Value := cs.take off ++ (vs ++ cs.drop (off + vs.length))
theorem RelA.put {cs ds : List PV} {vs us : List Value} (h : RelA w F L cs vs) (k : RelA w F L ds us) (off : Nat) : RelA w F L (putAt cs off ds) (putV vs off us) := by
  unfold putAt putV
  rw [k.1]
  exact (h.take off).append (k.append (h.drop _))
def putArr (c : Array Value) (off : Nat) (vs : List Value) : Array Value := vs.zipIdx.foldl (fun c x => c.setIfInBounds (off + x.2) x.1) c
theorem putArr_aux (off : Nat) : ∀ (vs : List Value) (k : Nat) (c : Array Value), (off + k + vs.length ≤ c.size) →
    ((vs.zipIdx k).foldl (fun c x => c.setIfInBounds (off + x.2) x.1) c).size = c.size ∧
    ∀ j, ((vs.zipIdx k).foldl (fun c x => c.setIfInBounds (off + x.2) x.1) c)[j]? = if off + k ≤ j ∧ j < off + k + vs.length then vs[j - (off + k)]? else c[j]?
  | [], k, c, _ => ⟨rfl, fun j => by simp; intro h1 h2; omega⟩
  | v :: vs, k, c, h => by
    simp only [List.length_cons] at h
    obtain ⟨h1, h2⟩ := putArr_aux off vs (k + 1) (c.setIfInBounds (off + k) v) (by simp; omega)
    simp only [List.zipIdx_cons, List.foldl_cons]
    refine ⟨by rw [h1]; simp, fun j => ?_⟩
    rw [h2, Array.getElem?_setIfInBounds]
    simp only [List.length_cons]
    by_cases e : j = off + k
    · subst e
      simp [show ¬ (off + (k + 1) ≤ off + k) by omega, show off + k < c.size by omega]
    · by_cases hj : off + k ≤ j ∧ j < off + k + (vs.length + 1)
      · rw [if_pos (by omega), if_pos (by omega)]
        rw [show j - (off + k) = (j - (off + (k + 1))) + 1 by omega]
        simp
      · rw [if_neg (by omega), if_neg (by omega), if_neg (by omega)]
theorem putArr_get (c : Array Value) (off : Nat) (vs : List Value) (h : off + vs.length ≤ c.size) : (putArr c off vs).size = c.size ∧
    ∀ j, (putArr c off vs)[j]? = if off ≤ j ∧ j < off + vs.length then vs[j - off]? else c[j]? := by
  simpa [putArr] using putArr_aux off vs 0 c (by simpa using h)
theorem setCell_heap_same {b o : Nat} {c : Array Value} {e : TypeId} {z : Nat × Nat} (h : w.heap[b]? = some (.cells c e z)) (v : Value) :
    (w.setCell ⟨b, o, none⟩ v).heap[b]? = some (.cells (c.setIfInBounds o v) e z) := by
  simp [World.setCell, Array.getElem?_modify, h]
theorem setCell_heap_other {b o b' : Nat} (h : b' ≠ b) (v : Value) : (w.setCell ⟨b, o, none⟩ v).heap[b']? = w.heap[b']? := by
  simp only [World.setCell, Array.getElem?_modify]
  rw [if_neg (fun e => h e.symm)]
theorem setCells_heap (b : Nat) : ∀ (vs : List Value) (o : Nat) (w : World) (c : Array Value) (e : TypeId) (z : Nat × Nat), w.heap[b]? = some (.cells c e z) → o + vs.length ≤ c.size →
    ∃ c', (w.setCells b o vs).heap[b]? = some (.cells c' e z) ∧ c'.size = c.size ∧ (∀ j, c'[j]? = if o ≤ j ∧ j < o + vs.length then vs[j - o]? else c[j]?) ∧
      (∀ b', b' ≠ b → (w.setCells b o vs).heap[b']? = w.heap[b']?) ∧ (w.setCells b o vs).heap.size = w.heap.size ∧
      (w.setCells b o vs).os = w.os ∧ (w.setCells b o vs).tape = w.tape ∧ (w.setCells b o vs).output = w.output
  | [], o, w, c, e, z, h, _ => ⟨c, h, rfl, fun j => by simp; intro h1 h2; omega, fun _ _ => rfl, rfl, rfl, rfl, rfl⟩
  | v :: vs, o, w, c, e, z, h, hl => by
    simp only [List.length_cons] at hl
    obtain ⟨c', h1, h2, h3, h4, h5, h6, h7, h8⟩ := setCells_heap b vs (o + 1) (w.setCell ⟨b, o, none⟩ v) _ e z (setCell_heap_same h v) (by simp; omega)
    refine ⟨c', h1, by rw [h2]; simp, fun j => ?_, fun b' hb => (h4 b' hb).trans (setCell_heap_other hb v), by rw [World.setCells, h5]; simp [World.setCell], h6, h7, h8⟩
    rw [h3, Array.getElem?_setIfInBounds]
    simp only [List.length_cons]
    by_cases e : j = o
    · subst e
      simp [show ¬ (j + 1 ≤ j) by omega, show j < c.size by omega]
    · by_cases hj : o ≤ j ∧ j < o + (vs.length + 1)
      · rw [if_pos (by omega), if_pos (by omega)]
        rw [show j - o = (j - (o + 1)) + 1 by omega]
        simp
      · rw [if_neg (by omega), if_neg (by omega), if_neg (by omega)]
theorem s_write (hi : Inv w S L F K) {i : Id} {o : Obj} (ho : S.obj i = some o) (hz : o.frz = false) {ℓ : Loc} (hl : L i = some ℓ) {off : Nat} {ds : List PV} {us : List Value}
    (hr : RelA w F L ds us) (hlen : off + ds.length ≤ o.cells.length) (h1 : ∀ c ∈ ds, c.one = true) :
    (storeCells ⟨ℓ.b, ℓ.base + off, none⟩ us).run P w = .ok () (w.setCells ℓ.b (ℓ.base + off) us) ∧
    Inv (w.setCells ℓ.b (ℓ.base + off) us) (S.set i ⟨putAt o.cells off ds, o.es, false⟩) L F K ∧ Ext w F L K (w.setCells ℓ.b (ℓ.base + off) us) F L := by
  obtain ⟨ℓ', c, e, hl', hes, hb, hsz, hlen', ⟨vs, hvs, hcv⟩, _, _⟩ := hi.live i o ho
  obtain rfl := Option.some.inj (hl'.symm.trans hl)
  have hus : us.length = ds.length := hr.1
  have hcell : ∀ j, j < us.length → w.cell? ⟨ℓ'.b, ℓ'.base + off + j, none⟩ = some c[ℓ'.base + off + j]! := fun j hj => by
    rw [cell?_of hb]
    have : ℓ'.base + off + j < c.size := by omega
    simp [this]
  have hrun := run_storeCells_cells (P := P) ℓ'.b (ℓ'.base + off) us 0 w (fun j hj => by rw [Nat.add_zero, hcell j hj]; rfl)
    (fun j hj => frozen?_of hb) (hr.oneCells h1)
  rw [Nat.add_zero] at hrun
  obtain ⟨c', g1, g2, g3, g4, g5, g6, g7, g8⟩ := setCells_heap ℓ'.b us (ℓ'.base + off) w c e (0, 0) hb (by omega)
  obtain ⟨hpl, hpg⟩ := putAt_get o.cells ds off hlen
  refine ⟨hrun, hi.write ho hz hl' hb _ (putV vs off us) g6 g7 g8 g5 g1 g2 g4 (hvs.put hr off) (by omega) (fun j u hu => ?_)⟩
  rw [g3]
  have hvl : vs.length = o.cells.length := hvs.1
  unfold putV at hu
  rw [List.getElem?_append, List.getElem?_append, List.getElem?_take, List.getElem?_drop] at hu
  have hl2 : (vs.take off).length = off := by simp; omega
  simp only [hl2] at hu
  by_cases a1 : j < off
  · simp only [a1, if_true] at hu
    rw [if_neg (by omega)]; exact hcv j u hu
  · simp only [a1, if_false] at hu
    by_cases a2 : j - off < us.length
    · simp only [a2, if_true] at hu
      rw [if_pos (by omega), show ℓ'.base + j - (ℓ'.base + off) = j - off by omega]; exact hu
    · simp only [a2, if_false] at hu
      rw [if_neg (by omega)]
      refine hcv j u ?_
      rw [← hu]; congr 1; omega
theorem s_store {t : TypeId} {sz : Nat} (hi : Inv w S L F K) (ht : szAt P t = some sz) {p q : PV} {v u : Value} (hp : Rel w F L p v) (hq : Rel w F L q u)
    {x : PV} {S' : Sto} (h : storeFn S p sz q.cells = some (x, S')) :
    ∃ w', (Instr.storeAt t v u).run P w = .ok () w' ∧ x = .undef ∧ Inv w' S' L F K ∧ Ext w F L K w' F L := by
  cases hp with
  | @ptr i off ℓ hl =>
    simp only [storeFn] at h
    split at h
    · rename_i o ho
      split at h
      · rename_i hc
        obtain ⟨h1, h2, h3, h4⟩ := hc
        simp only [Option.some.injEq, Prod.mk.injEq] at h
        obtain ⟨rfl, rfl⟩ := h
        have hqc := hq.cells
        obtain ⟨r1, r2, r3⟩ := s_write (P := P) (off := off) hi ho h1 hl hqc (by omega) (by simpa using h4)
        refine ⟨_, ?_, rfl, r2, r3⟩
        have hsz := run_sizeOf (w := w) ht
        have : ¬ (u.cells.size ≠ sz) := by
          have := hqc.1
          simp at this
          omega
        simp only [Instr.storeAt, Instr.sureAddr, storeVar, Sem.run_bind, Sem.run_pure, Result.andThen_ok, hsz, this, if_false, r1]
      · cases h
    · cases h
  | lit v => simp [storeFn] at h
  | sl => simp [storeFn] at h
  | wild => simp [storeFn] at h
  | agg => simp [storeFn] at h
  | tup => simp [storeFn] at h
  | fel => simp [storeFn] at h
  | loc => simp [storeFn] at h
  | fn => simp [storeFn] at h
theorem s_new (hi : Inv w S L F K) (s es : Nat) {cs : List PV} {vs : List Value} (hr : RelA w F L cs vs) (t : TypeId) :
    ∃ w' L', (newRow t vs.toArray).run P w = .ok ⟨w.heap.size, 0, none⟩ w' ∧ L' (S.next s) = some ⟨w.heap.size, 0, es, cs.length⟩ ∧
      Inv w' (S.add s ⟨cs, es, false⟩) L' F K ∧ Ext w F L K w' F L' := by
  obtain ⟨h1, h2⟩ := hi.add s es cs vs vs.toArray t (w' := { w with heap := w.heap.push (.cells vs.toArray t) }) rfl rfl rfl rfl hr (by simp [hr.1]) (by simp)
  refine ⟨_, _, ?_, ?_, h1, h2⟩
  · simp [newRow]
  · rw [upd_same]; simp [hr.1]
theorem s_alloc {e : TypeId} {ti : TI} (hi : Inv w S L F K) (ht : tiOf P e = some ti) (s : Nat) :
    ∃ w' L' u, (Instr.alloc e true (.tuple #[])).run P w = .ok u w' ∧ Rel w' F L' (.ptr (S.next s) 0) u ∧ Inv w' (S.add s ⟨ti.zero.map .lit, 0, false⟩) L' F K ∧ Ext w F L K w' F L' := by
  obtain ⟨i, d, z, h1, h2, h3, _, _, _, h7, _⟩ := tiOf_spec ht
  obtain ⟨w', L', g1, g2, g3, g4⟩ := s_new (P := P) hi s 0 (RelA.lits ti.zero) e
  refine ⟨w', L', _, ?_, .ptr g2, g3, g4⟩
  rw [h7] at g1
  simp at g1
  simp [Instr.alloc, run_zero h1 h3, newVar, g1]
theorem s_box {e : TypeId} (hi : Inv w S L F K) (s : Nat) {p : PV} {v : Value} (hr : Rel w F L p v) :
    ∃ w' L' u, (Instr.box e v).run P w = .ok u w' ∧ Rel w' F L' (.ptr (S.next s) 0) u ∧ Inv w' (S.add s ⟨p.cells, 0, false⟩) L' F K ∧ Ext w F L K w' F L' := by
  obtain ⟨w', L', g1, g2, g3, g4⟩ := s_new (P := P) hi s 0 hr.cells e
  refine ⟨w', L', _, ?_, .ptr g2, g3, g4⟩
  simp at g1
  simp [Instr.box, newVar, g1]
theorem run_mapM {α β : Type} (f : α → Sem β) (g : α → β) (w : World) : ∀ (l : List α), (∀ x ∈ l, (f x).run P w = .ok (g x) w) → (l.mapM f).run P w = .ok (l.map g) w
  | [], _ => by simp
  | x :: l, h => by
    have h1 := h x (by simp)
    have h2 := run_mapM f g w l (fun y hy => h y (by simp [hy]))
    simp [List.mapM_cons, h1, h2]
theorem run_mapMA {α β : Type} (f : α → Sem β) (g : α → β) (w : World) (l : Array α) (h : ∀ x ∈ l.toList, (f x).run P w = .ok (g x) w) : (l.mapM f).run P w = .ok (l.toList.map g).toArray w := by
  rw [Array.mapM_eq_mapM_toList, Sem.run_map, run_mapM f g w l.toList h]
  simp
theorem fldL_spec : ∀ (l : List Field) (fs : List FI), fldL P l = some fs → fs.length = l.length ∧ ∀ (j : Nat) f, l[j]? = some f → ∃ x, fs[j]? = some x ∧ fi1 P f = some x
  | [], fs, h => by
    simp only [fldL, Option.some.injEq] at h
    subst h; simp
  | f :: l, fs, h => by
    simp only [fldL] at h
    split at h
    · rename_i x y h1 h2
      obtain rfl := Option.some.inj h
      obtain ⟨i1, i2⟩ := fldL_spec l y h2
      refine ⟨by simp [i1], fun j g hj => ?_⟩
      match j, hj with
      | 0, hj => obtain rfl : f = g := by simpa using hj
                 exact ⟨x, by simp, h1⟩
      | j + 1, hj => obtain ⟨z, hz⟩ := i2 j g (by simpa using hj)
                     exact ⟨z, by simpa using hz⟩
    · cases h
theorem fi1_spec {f : Field} {x : FI} (h : fi1 P f = some x) : x.off = f.offset ∧ szAt P f.type = some x.sz ∧ ∃ d, P.underlying f.type = some d ∧ x.k = tkOf d := by
  unfold fi1 at h
  split at h
  · rename_i i d h1 h2
    obtain rfl := Option.some.inj h
    exact ⟨rfl, by simp [szAt, h1], d, h2, rfl⟩
  · cases h
theorem tiOf_struct {t : TypeId} {ti : TI} (h : tiOf P t = some ti) (hk : ti.k = .strct) : ∃ fs, P.underlying t = some (.struct fs) ∧ fldL P fs.toList = some ti.flds := by
  obtain ⟨i, d, z, h1, h2, _, h4, _, _, _, h8⟩ := tiOf_spec h
  rw [hk] at h4
  cases d <;> simp [tkOf] at h4
  exact ⟨_, h2, h8⟩
theorem fill_eq (cells : Array Value) (off : Nat) (v : Value) : v.cells.zipIdx.foldl (fun cs (x : Value × Nat) => cs.setIfInBounds (off + x.2) x.1) cells = putArr cells off v.cells.toList := by
  unfold putArr
  rw [← Array.foldl_toList]
  simp
theorem putArr_toList (c : Array Value) (off : Nat) (vs : List Value) (h : off + vs.length ≤ c.size) : (putArr c off vs).toList = putV c.toList off vs := by
  apply List.ext_getElem?
  intro j
  obtain ⟨h1, h2⟩ := putArr_get c off vs h
  rw [Array.getElem?_toList, h2]
  unfold putV
  rw [List.getElem?_append, List.getElem?_append, List.getElem?_take, List.getElem?_drop]
  have hl : (c.toList.take off).length = off := by simp; omega
  simp only [hl, Array.getElem?_toList]
  by_cases a1 : j < off
  · simp [a1, show ¬ off ≤ j by omega]
  · by_cases a2 : j < off + vs.length
    · simp [a1, a2, show off ≤ j by omega, show j - off < vs.length by omega]
    · simp only [a1, if_false, a2, and_false, show ¬ (j - off < vs.length) by omega]
      congr 1; omega
theorem s_fill {ρ : Operand → PV} {ev : Operand → Value} (hr : ∀ x, Rel w F L (ρ x) (ev x)) (place : Nat → Option (Nat × Nat)) :
    ∀ (l : List (Nat × Operand)) (cs : List PV) (c : Array Value) (cs' : List PV), RelA w F L cs c.toList → fillL place cs (l.map fun (i, x) => (i, ρ x)) = some cs' →
      ∃ c', Instr.fill place c (l.map fun (i, x) => (i, ev x)) = some c' ∧ RelA w F L cs' c'.toList ∧ cs'.length = cs.length
  | [], cs, c, cs', h, hf => by
    simp only [List.map_nil, fillL, Option.some.injEq] at hf
    subst hf
    exact ⟨c, rfl, h, rfl⟩
  | (i, x) :: l, cs, c, cs', h, hf => by
    simp only [List.map_cons, fillL] at hf
    cases hp : place i with
    | none => simp [hp] at hf
    | some os =>
      obtain ⟨off, size⟩ := os
      simp only [hp] at hf
      split at hf
      · cases hf
      · rename_i hc
        have hx := (hr x).cells
        have e1 : (ρ x).cells.length = size := by
          rcases Nat.decEq (ρ x).cells.length size with h' | h'
          · exact absurd (Or.inl h') hc
          · exact h'
        have e2 : off + size ≤ cs.length := by
          rcases Nat.lt_or_ge cs.length (off + size) with h' | h'
          · exact absurd (Or.inr h') hc
          · exact h'
        have e3 : (ev x).cells.size = size := by have := hx.1; simp at this; omega
        have e4 : c.size = cs.length := by simpa using h.1
        have hput : RelA w F L (putAt cs off (ρ x).cells) (putArr c off (ev x).cells.toList).toList := by
          rw [putArr_toList _ _ _ (by simp; omega)]
          exact h.put hx off
        obtain ⟨c', g1, g2, g3⟩ := s_fill hr place l _ _ cs' hput hf
        refine ⟨c', ?_, g2, by rw [g3, (putAt_get cs (ρ x).cells off (by omega)).1]⟩
        simp only [List.map_cons, Instr.fill, hp]
        rw [if_neg (by simp; omega)]
        rw [fill_eq]; exact g1
theorem s_build {t : TypeId} {ti : TI} (ht : tiOf P t = some ti) (hk : ti.k = .strct) {ρ : Operand → PV} {ev : Operand → Value} (hr : ∀ x, Rel w F L (ρ x) (ev x))
    (l : Array (Nat × Operand)) {cs : List PV}
    (hf : fillL (fun i => (ti.flds[i]?).map fun f => (f.off, f.sz)) (ti.zero.map .lit) (l.toList.map fun (i, x) => (i, ρ x)) = some cs) :
    ∃ u, (Instr.build t (l.map fun (i, x) => (i, ev x))).run P w = .ok u w ∧ Rel w F L (.agg cs) u := by
  obtain ⟨i, d, z, h1, h2, h3, h4, h5, _, h7, h8⟩ := tiOf_spec ht
  obtain ⟨fs, g1, g2⟩ := tiOf_struct ht hk
  obtain ⟨g3, g4⟩ := fldL_spec _ _ g2
  have hplaces : (fs.mapM fun f => (do pure (f.offset, ← sizeOf f.type) : Sem (Nat × Nat))).run P w = .ok (fs.toList.map fun f => (f.offset, (szAt P f.type).getD 0)).toArray w := by
    refine run_mapMA _ _ w fs (fun f hf => ?_)
    obtain ⟨j, hj, rfl⟩ := List.mem_iff_getElem.1 hf
    obtain ⟨x, _, hx⟩ := g4 j _ (List.getElem?_eq_getElem hj)
    obtain ⟨_, hs, _⟩ := fi1_spec hx
    simp only [Sem.run_bind, run_sizeOf (w := w) hs, hs, Result.andThen_ok, Sem.run_pure, Option.getD_some]
  have hpl : (fun (i : Nat) => ((fs.toList.map fun f => (f.offset, (szAt P f.type).getD 0)).toArray)[i]?) = fun i => (ti.flds[i]?).map fun (f : FI) => (f.off, f.sz) := by
    funext j
    simp only [List.getElem?_toArray, List.getElem?_map]
    cases hj : fs.toList[j]? with
    | none =>
      have : ti.flds[j]? = none := by
        rw [List.getElem?_eq_none_iff] at hj ⊢
        omega
      simp [this]
    | some f =>
      obtain ⟨x, hx1, hx2⟩ := g4 j f hj
      obtain ⟨hx3, hx4, _⟩ := fi1_spec hx2
      simp [hx1, hx3, hx4]
  have hz0 : RelA w F L (ti.zero.map .lit) z.cells.toList := h7 ▸ RelA.lits _
  obtain ⟨c', e1, e2, _⟩ := s_fill hr _ l.toList _ z.cells cs hz0 hf
  refine ⟨.agg c', ?_, .aggA e2⟩
  have hmap : (l.map fun (i, x) => (i, ev x)).toList = l.toList.map fun (i, x) => (i, ev x) := by simp
  simp only [Instr.build, Sem.run_bind, run_zero h1 h3, Result.andThen_ok, run_underlying g1, hplaces, hmap]
  rw [hpl, e1]
  rfl
theorem s_buildArr {t e : TypeId} {n es : Nat} {ti : TI} (ht : tiOf P t = some ti) (hk : ti.k = .arr n e) (hs : szAt P e = some es) {ρ : Operand → PV} {ev : Operand → Value} (hr : ∀ x, Rel w F L (ρ x) (ev x))
    (l : Array (Nat × Operand)) {cs : List PV}
    (hf : fillL (fun i => some (i * es, es)) (ti.zero.map .lit) (l.toList.map fun (i, x) => (i, ρ x)) = some cs) :
    ∃ u, (Instr.build t (l.map fun (i, x) => (i, ev x))).run P w = .ok u w ∧ Rel w F L (.agg cs) u := by
  obtain ⟨i, d, z, h1, h2, h3, h4, h5, _, h7, h8⟩ := tiOf_spec ht
  have hd : P.underlying t = some (.array n e) := tkAt_arr (by simp [tkAt, h2, ← h4, hk])
  have hz0 : RelA w F L (ti.zero.map .lit) z.cells.toList := h7 ▸ RelA.lits _
  obtain ⟨c', e1, e2, _⟩ := s_fill hr _ l.toList _ z.cells cs hz0 hf
  refine ⟨.agg c', ?_, .aggA e2⟩
  have hmap : (l.map fun (i, x) => (i, ev x)).toList = l.toList.map fun (i, x) => (i, ev x) := by simp
  simp only [Instr.build, Sem.run_bind, run_zero h1 h3, Result.andThen_ok, run_underlying hd, run_sizeOf (w := w) hs, hmap]
  rw [e1]
  rfl
theorem repL_get {α : Type} [Inhabited α] (zs : List α) : ∀ (n j : Nat), (repL n zs)[j]? = if j < n * zs.length then zs[j % zs.length]? else none
  | 0, j => by simp [repL]
  | n + 1, j => by
    have ih := repL_get zs n
    unfold repL at *
    rw [List.replicate_succ, List.flatten_cons, List.getElem?_append]
    by_cases h : j < zs.length
    · have : j < (n + 1) * zs.length := by
        rw [Nat.add_mul]; omega
      simp [h, this, Nat.mod_eq_of_lt h]
    · simp only [h, if_false, ih]
      have hpos : zs.length = 0 ∨ 0 < zs.length := by omega
      rcases hpos with h0 | h0
      · simp [h0]
      · rw [show j % zs.length = (j - zs.length) % zs.length by rw [← Nat.mod_eq_sub_mod (by omega)]]
        have : (j - zs.length < n * zs.length) ↔ (j < (n + 1) * zs.length) := by rw [Nat.add_mul]; omega
        simp [this]
theorem madeCells_toList (z : Array Value) (n : Nat) : (madeCells z (n * z.size)).toList = repL n z.toList := by
  apply List.ext_getElem?
  intro j
  rw [repL_get, Array.getElem?_toList]
  simp only [Array.length_toList]
  by_cases hj : j < n * z.size
  · have hpos : 0 < z.size := by
      rcases Nat.eq_zero_or_pos z.size with h | h
      · rw [h] at hj; simp at hj
      · exact h
    have hm : j % z.size < z.size := Nat.mod_lt _ hpos
    simp [madeCells, hj, hm]
  · simp [madeCells, hj]
theorem repL_map {α β : Type} (f : α → β) (n : Nat) (zs : List α) : repL n (zs.map f) = (repL n zs).map f := by
  induction n with
  | zero => rfl
  | succ n ih => simp only [repL, List.replicate_succ, List.flatten_cons, List.map_append] at *; rw [ih]
theorem repL_length {α : Type} (n : Nat) (zs : List α) : (repL n zs).length = n * zs.length := by simp [repL]
theorem s_buildSlice {t e : TypeId} {te : TI} (hi : Inv w S L F K) (s len : Nat) (hk : tkAt P t = some (.slice e)) (ht : tiOf P e = some te) (hlen : len * te.size ≤ 16777216) (hz : te.zero.length = te.size)
    {ρ : Operand → PV} {ev : Operand → Value} (hr : ∀ x, Rel w F L (ρ x) (ev x)) (l : Array (Nat × Operand)) {cs : List PV}
    (hf : fillL (fun i => some (i * te.size, te.size)) (repL len (te.zero.map .lit)) (l.toList.map fun (i, x) => (i, ρ x)) = some cs) :
    ∃ w' L' u, (Instr.buildSlice t len (l.map fun (i, x) => (i, ev x))).run P w = .ok u w' ∧ Rel w' F L' (.loc (S.next s) 0 len) u ∧ Inv w' (S.add s ⟨cs, te.size, false⟩) L' F K ∧ Ext w F L K w' F L' := by
  obtain ⟨i, d, z, h1, h2, h3, h4, h5, _, h7, h8⟩ := tiOf_spec ht
  have hzs : z.cells.size = te.size := by rw [← hz, h7]; simp
  have hmade : ((if len * te.size = 0 then (pure #[] : Sem (Array Value)) else do pure (← zeroValue e).cells).run P w).andThen
      (fun zero w => (.ok ((Array.range (len * te.size)).map (zero[· % zero.size]!)) w : Result (Array Value))) = .ok (madeCells z.cells (len * te.size)) w := by
    by_cases h0 : len * te.size = 0
    · simp [h0, madeCells, Array.range_zero']
    · simp [h0, run_zero h1 h3, madeCells]
  have hrel : RelA w F L (repL len (te.zero.map .lit)) (madeCells z.cells (len * te.size)).toList := by
    rw [← hzs, madeCells_toList, repL_map, h7]
    exact RelA.lits _
  obtain ⟨c', e1, e2, e3⟩ := s_fill hr _ l.toList _ _ cs hrel hf
  obtain ⟨w', L', g1, g2, g3, g4⟩ := s_new (P := P) hi s te.size e2 e
  have hcl : cs.length = len * te.size := by rw [e3, repL_length]; simp [hz]
  refine ⟨w', L', _, ?_, .loc len 0 g2 (Nat.le_refl _) (.inl rfl) (by simp [hcl]), g3, g4⟩
  have hmap : (l.map fun (i, x) => (i, ev x)).toList = l.toList.map fun (i, x) => (i, ev x) := by simp
  have hbig : ¬ (len * te.size > 2 ^ 24) := by omega
  simp only [Instr.buildSlice, Sem.run_bind, run_underlying (tkAt_slice hk), Result.andThen_ok, run_sizeOf (w := w) (tiOf_szAt ht), hbig, if_false, hmap]
  by_cases h0 : len * te.size = 0
  · simp only [h0, if_true, Sem.run_bind, Sem.run_pure, Result.andThen_ok]
    have : (Array.range 0).map (fun x => (#[] : Array Value)[x % (#[] : Array Value).size]!) = madeCells z.cells (len * te.size) := by simp [h0, madeCells, Array.range_zero']
    rw [this, e1]
    simp only [Array.toArray_toList] at g1
    simp [g1]
  · simp only [h0, if_false, Sem.run_bind, run_zero h1 h3, Result.andThen_ok, Sem.run_pure]
    have : (Array.range (len * te.size)).map (fun x => z.cells[x % z.cells.size]!) = madeCells z.cells (len * te.size) := rfl
    rw [this, e1]
    simp only [Array.toArray_toList] at g1
    simp [g1]
theorem s_makeSlice {t e : TypeId} {te : TI} (hi : Inv w S L F K) (s : Nat) (kl kc : IntKind) {n m : Int} (hk : tkAt P t = some (.slice e)) (ht : tiOf P e = some te)
    (h0 : 0 ≤ n) (hnm : n ≤ m) (hm : m ≤ maxMake) (hb : m.toNat * te.bytes ≤ maxMake) (hz : te.zero.length = te.size) :
    ∃ w' L' u, (Instr.makeSlice t (.int kl n) (.int kc m)).run P w = .ok u w' ∧ Rel w' F L' (.loc (S.next s) 0 n.toNat) u ∧
      Inv w' (S.add s ⟨repL n.toNat (te.zero.map .lit), te.size, false⟩) L' F K ∧ Ext w F L K w' F L' := by
  obtain ⟨i, d, z, h1, h2, h3, h4, h5, h6, h7, h8⟩ := tiOf_spec ht
  have hzs : z.cells.size = te.size := by rw [← hz, h7]; simp
  have hb' : (i.bytes : Int) * m ≤ 281474976710656 := by
    have hm0 : ((m.toNat : Nat) : Int) = m := by omega
    have : ((m.toNat * te.bytes : Nat) : Int) ≤ 281474976710656 := by
      have := hb
      unfold maxMake at this
      omega
    rw [Int.natCast_mul, hm0, h6] at this
    rw [Int.mul_comm]
    omega
  have hr := run_make (P := P) w t e i z (tkAt_slice hk) h1 h3 kl kc n m h0 hnm hb' (by unfold maxMake at hm; omega)
  have hsz : i.size = z.cells.size := by omega
  rw [hsz] at hr
  have hcs : (madeCells z.cells (m.toNat * z.cells.size)).toList = repL m.toNat te.zero := by rw [madeCells_toList, h7]
  have hnm' : n.toNat ≤ m.toNat := by omega
  have hpre : ∀ (j : Nat) u, (repL n.toNat te.zero)[j]? = some u → (madeCells z.cells (m.toNat * z.cells.size))[j]? = some u := by
    intro j u hu
    rw [← Array.getElem?_toList, hcs]
    rw [repL_get] at hu ⊢
    split at hu
    · rename_i hj
      rw [if_pos (Nat.lt_of_lt_of_le hj (Nat.mul_le_mul_right _ hnm'))]; exact hu
    · cases hu
  have hlen : (repL n.toNat (te.zero.map PV.lit)).length ≤ (madeCells z.cells (m.toNat * z.cells.size)).size := by
    rw [repL_length, size_madeCells, List.length_map, hz, ← hzs]
    exact Nat.mul_le_mul_right _ hnm'
  obtain ⟨g1, g2⟩ := hi.add s te.size (repL n.toNat (te.zero.map .lit)) (repL n.toNat te.zero) (madeCells z.cells (m.toNat * z.cells.size)) e
    (w' := w.alloc (.cells (madeCells z.cells (m.toNat * z.cells.size)) e)) rfl rfl rfl rfl (by rw [repL_map]; exact RelA.lits _) hlen hpre
  refine ⟨_, _, _, hr, .loc m.toNat 0 (upd_same _ _ _) hnm' (.inl rfl) ?_, g1, g2⟩
  simp [size_madeCells, hzs]
theorem int?_rel {p : PV} {v : Value} {n : Int} (hr : Rel w F L p v) (h : p.int? = some n) : ∃ k, v = .int k n := by
  cases hr with
  | lit v =>
    cases v <;> simp [PV.int?] at h
    subst h; exact ⟨_, rfl⟩
  | sl => simp [PV.int?] at h
  | wild => simp [PV.int?] at h
  | agg => simp [PV.int?] at h
  | tup => simp [PV.int?] at h
  | fel => simp [PV.int?] at h
  | loc => simp [PV.int?] at h
  | ptr => simp [PV.int?] at h
  | fn => simp [PV.int?] at h
theorem run_lo {ρ : Operand → PV} {ev : Operand → Value} (hr : ∀ x, Rel w F L (ρ x) (ev x)) {lo : Option Operand} {l : Int} (h : boundFn 0 (lo.map ρ) = some l) (h0 : 0 ≤ l) {y : Nat} (hy : l ≤ y) (code : BoundsCode) :
    (match lo.map ev with | some v => Instr.sliceBound v y code | none => pure 0 : Sem Nat).run P w = .ok l.toNat w := by
  cases lo with
  | none => obtain rfl : 0 = l := by simpa [boundFn] using h
            rfl
  | some x =>
    obtain ⟨k, hk⟩ := int?_rel (hr x) (by simpa [boundFn] using h)
    simp only [Option.map_some, hk]
    exact run_sliceBound (P := P) (w := w) k l y code h0 hy
theorem run_hi {ρ : Operand → PV} {ev : Operand → Value} (hr : ∀ x, Rel w F L (ρ x) (ev x)) {hi : Option Operand} {n : Nat} {l : Int} (h : boundFn n (hi.map ρ) = some l) (h0 : 0 ≤ l) {y : Nat} (hy : l ≤ y) (code : BoundsCode) :
    (match hi.map ev with | some v => Instr.sliceBound v y code | none => pure n : Sem Nat).run P w = .ok l.toNat w := by
  cases hi with
  | none => obtain rfl : (n : Int) = l := by simpa [boundFn] using h
            rfl
  | some x =>
    obtain ⟨k, hk⟩ := int?_rel (hr x) (by simpa [boundFn] using h)
    simp only [Option.map_some, hk]
    exact run_sliceBound (P := P) (w := w) k l y code h0 hy
theorem run_bounds (isS : Bool) {ρ : Operand → PV} {ev : Operand → Value} (hr : ∀ x, Rel w F L (ρ x) (ev x)) {lo hi : Option Operand} {n cap : Nat} {l h : Int}
    (h1 : boundFn 0 (lo.map ρ) = some l) (h2 : boundFn n (hi.map ρ) = some h) (h0 : 0 ≤ l) (hlh : l ≤ h) (hn : h ≤ n) (hc : n ≤ cap) :
    (Instr.sliceBounds isS n cap (lo.map ev) (hi.map ev) none).run P w = .ok (l.toNat, h.toNat, cap) w := by
  have e1 := run_hi (P := P) hr h2 (by omega) (y := cap) (by omega) (if isS then .sliceAcap else .sliceAlen)
  have e2 := run_lo (P := P) hr h1 h0 (y := h.toNat) (by omega) .sliceB
  unfold Instr.sliceBounds
  cases hh : hi.map ev with
  | none =>
    simp only [hh] at e1
    cases hl : lo.map ev with
    | none => simp only [hl] at e2; simp_all
    | some v => simp only [hl] at e2; simp_all
  | some u =>
    simp only [hh] at e1
    cases hl : lo.map ev with
    | none => simp only [hl] at e2; simp_all
    | some v => simp only [hl] at e2; simp_all
theorem s_slice {t e : TypeId} {es n : Nat} (hi : Inv w S L F K) (hk : tkAt P t = some (.slice e)) (hs : szAt P e = some es) {ρ : Operand → PV} {ev : Operand → Value} (hr : ∀ x, Rel w F L (ρ x) (ev x))
    {x : Operand} (hn : (ρ x).len? = some n) {lo hi' : Option Operand} {l h : Int} (h1 : boundFn 0 (lo.map ρ) = some l) (h2 : boundFn n (hi'.map ρ) = some h) (h0 : 0 ≤ l) (hlh : l ≤ h) (hhn : h ≤ n)
    {q : PV} (hq : S.part (ρ x) es l.toNat h.toNat = some q) :
    ∃ u, (Instr.sliceAt t (ev x) (lo.map ev) (hi'.map ev) none).run P w = .ok u w ∧ Rel w F L q u := by
  have hu := tkAt_slice hk
  have key : ∀ (a : Option Addr) (cap : Nat), ev x = .slice a n cap → n ≤ cap →
      (Instr.sliceAt t (ev x) (lo.map ev) (hi'.map ev) none).run P w = .ok (.slice (if cap = l.toNat then a else a.map (·.add (l.toNat * es))) (h.toNat - l.toNat) (cap - l.toNat)) w := by
    intro a cap he hc
    have hb := run_bounds (P := P) true hr h1 h2 h0 hlh hhn hc
    rw [he]
    simp only [Instr.sliceAt, Instr.slice, Sem.run_bind, run_underlying hu, Result.andThen_ok, hb, run_sizeOf (w := w) hs, Sem.run_pure]
  have hx := hr x
  generalize hp : ρ x = p at hx hn hq
  generalize hv : ev x = v at hx
  cases hx with
  | lit v =>
    cases v with
    | slice a n' c =>
      cases a with
      | none =>
        obtain rfl : n' = n := by simpa [PV.len?] using hn
        simp only [Sto.part] at hq
        split at hq
        · rename_i hc
          obtain ⟨c1, c2, c3⟩ := hc
          obtain rfl := Option.some.inj hq
          rw [← hv, key none c hv c2]
          have e1 : l.toNat = 0 := by omega
          have e2 : h.toNat = 0 := by omega
          subst c3
          refine ⟨_, rfl, ?_⟩
          rw [e1, e2]
          exact .lit _
        · cases hq
      | some a => simp [PV.len?] at hn
    | _ => simp [PV.len?] at hn
  | @sl cs n' b base cap vs hF hnc hsz hc hrr =>
    obtain rfl : n' = n := by simpa [PV.len?] using hn
    simp only [Sto.part] at hq
    split at hq
    · obtain rfl := Option.some.inj hq
      rw [← hv, key _ cap hv hnc]
      have hA : RelA w F L cs vs := ⟨hsz, hrr⟩
      by_cases hcl : cap = l.toNat
      · refine ⟨_, rfl, ?_⟩
        have e1 : h.toNat - l.toNat = 0 := by omega
        simp only [hcl, if_true, e1, Nat.sub_self, Nat.zero_mul, List.take_zero]
        exact .slA hF (Nat.le_refl _) .nil (fun j u hu => by simp at hu)
      · refine ⟨_, rfl, ?_⟩
        simp only [hcl, if_false, Option.map_some, addr_add]
        exact .slA hF (by omega) ((hA.drop _).take _) ((HCells.drop hc _).take _)
    · cases hq
  | wild a =>
    obtain rfl : 0 = n := by simpa [PV.len?] using hn
    simp only [Sto.part] at hq
    split at hq
    · obtain rfl := Option.some.inj hq
      rw [← hv, key _ 0 hv (Nat.le_refl _)]
      have e1 : l.toNat = 0 := by omega
      have e2 : h.toNat = 0 := by omega
      rw [e1, e2]
      refine ⟨_, rfl, ?_⟩
      simp only [List.drop_nil, List.take_nil, Nat.sub_self, if_true, Nat.zero_mul]
      exact .wild _
    · cases hq
  | @loc i off n' ℓ cap o hL hnc ho hc =>
    obtain rfl : n' = n := by simpa [PV.len?] using hn
    simp only [Sto.part] at hq
    split at hq
    · rename_i ob hob
      split at hq
      · rename_i hcc
        obtain ⟨c1, c2, c3⟩ := hcc
        obtain rfl := Option.some.inj hq
        rw [← hv, key _ cap hv hnc]
        obtain ⟨ℓ', c', e', hL', hes, _⟩ := hi.live i ob hob
        obtain rfl := Option.some.inj (hL'.symm.trans hL)
        have hes' : ℓ'.es = es := by omega
        by_cases hcl : cap = l.toNat
        · refine ⟨_, rfl, ?_⟩
          have e1 : h.toNat - l.toNat = 0 := by omega
          simp only [hcl, if_true, e1, Nat.sub_self]
          refine .loc 0 o hL (Nat.le_refl _) (.inr rfl) ?_
          rw [hes', hcl] at hc
          omega
        · refine ⟨_, rfl, ?_⟩
          simp only [hcl, if_false, Option.map_some, addr_add]
          refine .loc _ _ hL (by omega) ?_ ?_
          · rcases ho with ho | ho
            · left; omega
            · omega
          · rw [hes'] at hc ⊢
            have : cap * es = l.toNat * es + (cap - l.toNat) * es := by rw [← Nat.add_mul]; congr 1; omega
            omega
      · cases hq
    · cases hq
  | agg => simp [PV.len?] at hn
  | tup => simp [PV.len?] at hn
  | fel => simp [PV.len?] at hn
  | ptr => simp [PV.len?] at hn
  | fn => simp [PV.len?] at hn
theorem s_sliceStr {t : TypeId} (hk : tkAt P t = some .str) {ρ : Operand → PV} {ev : Operand → Value} (hr : ∀ x, Rel w F L (ρ x) (ev x)) {b : ByteArray} {v : Value} (hv : v = .string b)
    {lo hi' : Option Operand} {l h : Int} (h1 : boundFn 0 (lo.map ρ) = some l) (h2 : boundFn b.size (hi'.map ρ) = some h) (h0 : 0 ≤ l) (hlh : l ≤ h) (hhn : h ≤ b.size) :
    (Instr.sliceAt t v (lo.map ev) (hi'.map ev) none).run P w = .ok (.string (b.extract l.toNat h.toNat)) w := by
  subst hv
  have hb := run_bounds (P := P) false hr h1 h2 h0 hlh hhn (Nat.le_refl _)
  simp [Instr.sliceAt, Instr.slice, run_underlying (tkAt_str hk), hb]
theorem step_rel {p q : PV} {v : Value} {j : Nat} (hr : Rel w F L p v) (h : p.step j = some q) : ∃ b o, v = .pointer (some ⟨b, o, none⟩) ∧ Rel w F L q (.pointer (some ⟨b, o + j, none⟩)) := by
  cases hr with
  | @fel cs b base vs hF hs hc hrr =>
    obtain rfl : PV.fel (cs.drop j) = q := by simpa [PV.step] using h
    exact ⟨b, base, rfl, .felA hF (RelA.drop ⟨hs, hrr⟩ j) (HCells.drop hc j)⟩
  | @ptr i off ℓ hL =>
    obtain rfl : PV.ptr i (off + j) = q := by simpa [PV.step] using h
    refine ⟨_, _, rfl, ?_⟩
    rw [Nat.add_assoc]
    exact .ptr hL
  | lit => simp [PV.step] at h
  | sl => simp [PV.step] at h
  | wild => simp [PV.step] at h
  | agg => simp [PV.step] at h
  | tup => simp [PV.step] at h
  | loc => simp [PV.step] at h
  | fn => simp [PV.step] at h
theorem elem_rel {p q : PV} {v : Value} {n j es : Nat} (hr : Rel w F L p v) (hn : p.len? = some n) (hj : j < n) (h : p.elem (j * es) = some q) :
    ∃ b o cap, v = .slice (some ⟨b, o, none⟩) n cap ∧ Rel w F L q (.pointer (some ⟨b, o + j * es, none⟩)) := by
  cases hr with
  | @sl cs n' b base cap vs hF hnc hs hc hrr =>
    obtain rfl : n' = n := by simpa [PV.len?] using hn
    obtain rfl : PV.fel (cs.drop (j * es)) = q := by simpa [PV.elem] using h
    exact ⟨b, base, cap, rfl, .felA hF (RelA.drop ⟨hs, hrr⟩ _) (HCells.drop hc _)⟩
  | wild a =>
    obtain rfl : 0 = n := by simpa [PV.len?] using hn
    exact absurd hj (by omega)
  | @loc i off n' ℓ cap o hL hnc ho hc =>
    obtain rfl : n' = n := by simpa [PV.len?] using hn
    obtain rfl : PV.ptr i (off + j * es) = q := by simpa [PV.elem] using h
    have ho' : o = ℓ.base + off := by
      rcases ho with ho | ho
      · exact ho
      · omega
    subst ho'
    refine ⟨_, _, cap, rfl, ?_⟩
    rw [Nat.add_assoc]
    exact .ptr hL
  | lit => simp [PV.elem] at h
  | fel => simp [PV.elem] at h
  | agg => simp [PV.elem] at h
  | tup => simp [PV.elem] at h
  | ptr => simp [PV.elem] at h
  | fn => simp [PV.elem] at h
theorem s_indexAddr {t e : TypeId} {es n : Nat} (hk : tkAt P t = some (.slice e)) (hs : szAt P e = some es) {p q : PV} {v u : Value} (hr : Rel w F L p v) (hn : p.len? = some n)
    {k : IntKind} {j : Int} (hu : u = .int k j) (h0 : 0 ≤ j) (hj : j < n) (h : p.elem (j.toNat * es) = some q) : ∃ x, (Instr.indexAt t v u).run P w = .ok x w ∧ Rel w F L q x := by
  obtain ⟨b, o, cap, rfl, hq⟩ := elem_rel hr hn (by omega) h
  subst hu
  refine ⟨_, ?_, hq⟩
  simp [Instr.indexAt, asIntOf, run_underlying (tkAt_slice hk), h0, hj, run_sizeOf (w := w) hs, addr_add]
theorem s_indexArr {t e : TypeId} {es n : Nat} (hk : tkAt P t = some (.arr n e)) (hs : szAt P e = some es) {p q : PV} {v u : Value} (hr : Rel w F L p v)
    {k : IntKind} {j : Int} (hu : u = .int k j) (h0 : 0 ≤ j) (hj : j < n) (h : p.step (j.toNat * es) = some q) : ∃ x, (Instr.indexAt t v u).run P w = .ok x w ∧ Rel w F L q x := by
  obtain ⟨b, o, rfl, hq⟩ := step_rel hr h
  subst hu
  refine ⟨_, ?_, hq⟩
  simp [Instr.indexAt, Instr.sureAddr, asIntOf, run_underlying (tkAt_arr hk), h0, hj, run_sizeOf (w := w) hs, addr_add]
theorem fld_of {t : TypeId} {ti : TI} (ht : tiOf P t = some ti) (hk : ti.k = .strct) {f : Nat} {fi : FI} (hf : ti.flds[f]? = some fi) :
    ∃ fs fl, P.underlying t = some (.struct fs) ∧ fs[f]? = some fl ∧ fi.off = fl.offset ∧ szAt P fl.type = some fi.sz ∧ ∃ d, P.underlying fl.type = some d ∧ fi.k = tkOf d := by
  obtain ⟨fs, g1, g2⟩ := tiOf_struct ht hk
  obtain ⟨g3, g4⟩ := fldL_spec _ _ g2
  have hlt : f < fs.toList.length := by
    rw [← g3]
    rcases Nat.lt_or_ge f ti.flds.length with h | h
    · exact h
    · rw [List.getElem?_eq_none h] at hf; cases hf
  obtain ⟨x, hx, hy⟩ := g4 f _ (List.getElem?_eq_getElem hlt)
  obtain rfl : x = fi := by rw [hx] at hf; exact Option.some.inj hf
  obtain ⟨a1, a2, a3⟩ := fi1_spec hy
  exact ⟨fs, _, g1, by simp, a1, a2, a3⟩
theorem s_fieldAddr {t : TypeId} {ti : TI} (ht : tiOf P t = some ti) (hk : ti.k = .strct) {f : Nat} {fi : FI} (hf : ti.flds[f]? = some fi) (hz : fi.sz ≠ 0) {p q : PV} {v : Value} (hr : Rel w F L p v)
    (h : p.step fi.off = some q) : ∃ x, (Instr.fieldAt t v f).run P w = .ok x w ∧ Rel w F L q x := by
  obtain ⟨fs, fl, g1, g2, g3, g4, _⟩ := fld_of ht hk hf
  obtain ⟨b, o, rfl, hq⟩ := step_rel hr h
  refine ⟨_, ?_, hq⟩
  simp [Instr.fieldAt, Instr.sureAddr, run_underlying g1, g2, fieldPlace, run_sizeOf (w := w) g4, hz, addr_add, g3]
theorem aggCells_rel {p : PV} {v : Value} {cs : List PV} (hr : Rel w F L p v) (h : aggCells p = some cs) : ∃ vs : Array Value, v = .agg vs ∧ RelA w F L cs vs.toList := by
  cases hr with
  | @agg cs' vs hs hrr =>
    obtain rfl : cs' = cs := by simpa [aggCells] using h
    exact ⟨vs, rfl, hs, hrr⟩
  | lit v =>
    cases v <;> simp [aggCells] at h
    subst h
    exact ⟨_, rfl, RelA.lits _⟩
  | sl => simp [aggCells] at h
  | wild => simp [aggCells] at h
  | tup => simp [aggCells] at h
  | fel => simp [aggCells] at h
  | loc => simp [aggCells] at h
  | ptr => simp [aggCells] at h
  | fn => simp [aggCells] at h
theorem s_part {t : TypeId} {sz : Nat} {d : TypeDesc} (hs : szAt P t = some sz) (hd : P.underlying t = some d) {cs : List PV} {vs : Array Value} (hA : RelA w F L cs vs.toList) (off : Nat) {q : PV}
    (h : (if (tkOf d).agg then (if off + sz ≤ cs.length then some (.agg ((cs.drop off).take sz)) else none) else cs[off]?) = some q) :
    ∃ x, (part t vs off).run P w = .ok x w ∧ Rel w F L q x := by
  simp only [part, Sem.run_bind, run_isAgg (w := w) hd, Result.andThen_ok]
  split at h
  · rename_i hg
    split at h
    · obtain rfl := Option.some.inj h
      refine ⟨.agg (vs.extract off (off + sz)), by simp [hg, run_sizeOf (w := w) hs], .aggA ?_⟩
      have : (vs.extract off (off + sz)).toList = (vs.toList.drop off).take sz := by
        rw [Array.toList_extract]
        simp [List.extract_eq_take_drop]
      rw [this]
      exact (hA.drop _).take _
    · cases h
  · rename_i hg
    have hlt : off < vs.size := by
      have := hA.1
      rcases Nat.lt_or_ge off cs.length with h' | h'
      · simp at this; omega
      · rw [List.getElem?_eq_none h'] at h; cases h
    refine ⟨vs[off], ?_, hA.2 off q _ h (by simp)⟩
    simp [hg, hlt]
theorem s_field {t : TypeId} {ti : TI} (ht : tiOf P t = some ti) (hk : ti.k = .strct) {f : Nat} {fi : FI} (hf : ti.flds[f]? = some fi) {p q : PV} {v : Value} (hr : Rel w F L p v) {cs : List PV} (hc : aggCells p = some cs)
    (h : (if fi.k.agg then (if fi.off + fi.sz ≤ cs.length then some (.agg ((cs.drop fi.off).take fi.sz)) else none) else cs[fi.off]?) = some q) :
    ∃ x, (Instr.field t v f).run P w = .ok x w ∧ Rel w F L q x := by
  obtain ⟨fs, fl, g1, g2, g3, g4, d, g5, g6⟩ := fld_of ht hk hf
  obtain ⟨vs, rfl, hA⟩ := aggCells_rel hr hc
  rw [g6, g3] at h
  obtain ⟨x, e1, e2⟩ := s_part (P := P) g4 g5 hA fl.offset h
  exact ⟨x, by simp [Instr.field, run_underlying g1, g2, asAgg, e1], e2⟩
theorem s_index {t e : TypeId} {n : Nat} {te : TI} (hk : tkAt P t = some (.arr n e)) (ht : tiOf P e = some te) {p q : PV} {v u : Value} (hr : Rel w F L p v) {cs : List PV} (hc : aggCells p = some cs)
    {k : IntKind} {j : Int} (hu : u = .int k j) (h0 : 0 ≤ j) (hj : j < n)
    (h : (if te.k.agg then (if j.toNat * te.size + te.size ≤ cs.length then some (.agg ((cs.drop (j.toNat * te.size)).take te.size)) else none) else cs[j.toNat * te.size]?) = some q) :
    ∃ x, (Instr.index t v u).run P w = .ok x w ∧ Rel w F L q x := by
  obtain ⟨i, d, z, h1, h2, h3, h4, h5, _⟩ := tiOf_spec ht
  obtain ⟨vs, rfl, hA⟩ := aggCells_rel hr hc
  subst hu
  rw [h4] at h
  obtain ⟨x, e1, e2⟩ := s_part (P := P) (tiOf_szAt ht) h2 hA (j.toNat * te.size) h
  exact ⟨x, by simp [Instr.index, asIntOf, run_underlying (tkAt_arr hk), h0, hj, run_sizeOf (w := w) (tiOf_szAt ht), e1], e2⟩
theorem s_intBin {op : BinOp} {k k' : IntKind} {a b : Int} {u : Value} (h : intBin op k a k' b = some u) (t : TypeId) : (binOp op t (.int k a) (.int k' b)).run P w = .ok u w := by
  cases op <;> simp only [intBin] at h <;> (repeat' split at h) <;> first | (cases h; done) | skip
  all_goals (obtain rfl := Option.some.inj h; simp_all [binOp, Op.shift, Op.intArith, Op.intDiv, Op.intBits, Op.intCmp])
  all_goals (intro hneg; omega)
theorem s_strBin {op : BinOp} {a b : ByteArray} {u : Value} (h : strBin op a b = some u) (t : TypeId) : (binOp op t (.string a) (.string b)).run P w = .ok u w := by
  cases op <;> simp only [strBin] at h <;> (repeat' split at h) <;> first | (cases h; done) | skip
  all_goals (obtain rfl := Option.some.inj h)
  all_goals simp only [binOp, Op.stringOp]
  all_goals first
    | rfl
    | (rename_i hc
       rw [if_neg (by
         have : IntKind.i64.max = 9223372036854775807 := by decide
         rw [this]; omega)]
       rfl)
theorem rowOf_rel (hi : Inv w S L F K) {p : PV} {v : Value} (hr : Rel w F L p v) {m es : Nat} {ys : List PV} (hm : p.len? = some m) (hy : S.rowOf es p = some ys) :
    ∃ vs, RelA w F L ys vs ∧ vs.length = m * es ∧ ((∃ a c, v = .slice a m c ∧ m = 0) ∨ ∃ b o cap, v = .slice (some ⟨b, o, none⟩) m cap ∧ HCells w b o vs) := by
  cases hr with
  | lit v =>
    cases v with
    | slice a n c =>
      cases a with
      | none =>
        obtain rfl : n = m := by simpa [PV.len?] using hm
        cases n with
        | zero =>
          obtain rfl : [] = ys := by simpa [Sto.rowOf] using hy
          exact ⟨[], .nil, by simp, .inl ⟨_, c, rfl, rfl⟩⟩
        | succ n => simp [Sto.rowOf] at hy
      | some a => simp [PV.len?] at hm
    | _ => simp [PV.len?] at hm
  | @sl cs n b base cap vs hF hnc hs hc hrr =>
    obtain rfl : n = m := by simpa [PV.len?] using hm
    simp only [Sto.rowOf] at hy
    split at hy
    · rename_i hl
      obtain rfl := Option.some.inj hy
      have hA : RelA w F L cs vs := ⟨hs, hrr⟩
      exact ⟨_, hA.take _, by simp; omega, .inr ⟨b, base, cap, rfl, HCells.take hc _⟩⟩
    · cases hy
  | wild a =>
    obtain rfl : 0 = m := by simpa [PV.len?] using hm
    simp only [Sto.rowOf] at hy
    split at hy
    · obtain rfl := Option.some.inj hy
      exact ⟨[], by simpa using RelA.nil, by simp, .inl ⟨_, 0, rfl, rfl⟩⟩
    · cases hy
  | @loc i off n ℓ cap o hL hnc ho hc =>
    obtain rfl : n = m := by simpa [PV.len?] using hm
    simp only [Sto.rowOf] at hy
    split at hy
    · rename_i ob hob
      split at hy
      · rename_i hl
        obtain rfl := Option.some.inj hy
        obtain ⟨ℓ', c, e, hL', _, hb, _, _, ⟨vs, hvs, hcv⟩, _⟩ := hi.live i ob hob
        obtain rfl := Option.some.inj (hL'.symm.trans hL)
        refine ⟨_, (hvs.drop off).take _, by have := hvs.1; simp; omega, .inr ⟨_, o, cap, rfl, ?_⟩⟩
        rcases ho with rfl | ho
        · exact ((HCells.of hb hcv).drop off).take _
        · obtain rfl : n = 0 := by omega
          intro j u hu
          simp at hu
      · cases hy
    · cases hy
  | agg => simp [PV.len?] at hm
  | tup => simp [PV.len?] at hm
  | fel => simp [PV.len?] at hm
  | ptr => simp [PV.len?] at hm
  | fn => simp [PV.len?] at hm
theorem del_obj {S : Sto} {i j : Id} {q : Obj} (h : (S.del i).obj j = some q) : S.obj j = some q ∧ j ≠ i := by
  simp only [Sto.del, upd] at h
  split at h
  · cases h
  · rename_i hne; exact ⟨h, hne⟩
theorem Inv.rename (hi : Inv w S L F K) {i : Id} {o : Obj} (ho : S.obj i = some o) (hz : o.frz = false) {ℓ : Loc} (hl : L i = some ℓ) (s off : Nat) (hoff : off ≤ o.cells.length) :
    let L' := upd L (S.next s) (some ⟨ℓ.b, ℓ.base + off, ℓ.es, ℓ.sz⟩)
    Inv w ((S.del i).add s ⟨o.cells.drop off, o.es, false⟩) L' F K ∧ Ext w F L K w F L' := by
  intro L'
  have hfresh : L (S.next s) = none := hi.fresh _ (Nat.le_refl _)
  have hL' : ∀ i ℓ, L i = some ℓ → L' i = some ℓ := fun i ℓ h => by
    have : i ≠ S.next s := fun e => by rw [e, hfresh] at h; cases h
    rw [show L' i = L i from upd_ne L _ this]; exact h
  have hx : Ext w F L K w F L' := ⟨rfl, rfl, rfl, Nat.le_refl _, fun _ h => h, fun _ _ => rfl, hL', fun _ h => .inl h, fun j m h => by
    by_cases e : j = S.next s
    · subst e
      rw [show L' (S.next s) = some ⟨ℓ.b, ℓ.base + off, ℓ.es, ℓ.sz⟩ from upd_same _ _ _] at h
      obtain rfl := Option.some.inj h
      exact .inr ⟨i, ℓ, hl, rfl⟩
    · exact .inr ⟨j, m, (upd_ne L _ e).symm.trans h, rfl⟩⟩
  have hobj : ∀ j, ((S.del i).add s ⟨o.cells.drop off, o.es, false⟩).obj j = if j = S.next s then some ⟨o.cells.drop off, o.es, false⟩ else (S.del i).obj j := fun j => by
    simp only [Sto.add, upd]; rfl
  obtain ⟨ℓ', c, e, hl', hes, hb, hsz, hlen, ⟨vs, hvs, hcv⟩, _, hown⟩ := hi.live i o ho
  obtain rfl := Option.some.inj (hl'.symm.trans hl)
  have hself : L' (S.next s) = some ⟨ℓ'.b, ℓ'.base + off, ℓ'.es, ℓ'.sz⟩ := upd_same _ _ _
  have e2 : ∀ {m : Id} {k : Loc}, L' m = some k → m ≠ S.next s → L m = some k := fun hm e => by
    rw [← hm]; exact (upd_ne L _ e).symm
  refine ⟨⟨fun j q hq => ?_, fun j k q q' m m' hq hq' hqz hm hm' hne => ?_, fun j hg => ?_, hi.fz⟩, hx⟩
  · rw [hobj] at hq
    split at hq
    · rename_i hj; subst hj
      obtain rfl := Option.some.inj hq
      refine ⟨_, c, e, hself, hes, hb, hsz, by simp; omega, ⟨vs.drop off, (hvs.drop off).ext hx, fun j u hu => ?_⟩, by simp, fun _ => hown hz⟩
      rw [List.getElem?_drop] at hu
      have := hcv _ _ hu
      rwa [← Nat.add_assoc] at this
    · obtain ⟨hq1, hq2⟩ := del_obj hq
      obtain ⟨m, c2, e2, h1, h2, h3, h4, h5, ⟨us, h6, h7⟩, h8, h9⟩ := hi.live j q hq1
      exact ⟨m, c2, e2, hL' _ _ h1, h2, h3, h4, h5, ⟨us, h6.ext hx, h7⟩, h8, h9⟩
  · rw [hobj] at hq hq'
    split at hq <;> split at hq'
    · rename_i h1 h2; exact absurd (h1.trans h2.symm) hne
    · rename_i h1 h2
      subst h1
      obtain ⟨hq1, hq2⟩ := del_obj hq'
      obtain rfl := Option.some.inj (hself.symm.trans hm)
      exact hi.apart i k o q' ℓ' m' ho hq1 hz hl (e2 hm' h2) (fun e => hq2 e.symm)
    · rename_i h1 h2
      subst h2
      obtain ⟨hq1, hq2⟩ := del_obj hq
      obtain rfl := Option.some.inj (hself.symm.trans hm')
      exact hi.apart j i q o m ℓ' hq1 ho hqz (e2 hm h1) hl hq2
    · rename_i h1 h2
      exact hi.apart j k q q' m m' (del_obj hq).1 (del_obj hq').1 hqz (e2 hm h1) (e2 hm' h2) hne
  · have hne : j ≠ S.next s := fun e => by
      subst e
      simp only [Sto.add, Sto.next, Sto.del] at hg
      simp at hg
      omega
    rw [show L' j = L j from upd_ne L _ hne]
    refine hi.fresh j ?_
    simp only [Sto.add, Sto.del] at hg
    split at hg
    · rename_i h; rw [h]; omega
    · exact hg
theorem zeroCells_size (z : Array Value) (n : Nat) : (Builtin.zeroCells z n).size = n * z.size := by simp [Builtin.zeroCells]
theorem s_append {t : TypeId} (hi : Inv w S L F K) (s : Nat) {p q r : PV} {v u : Value} (hp : Rel w F L p v) (hq : Rel w F L q u) {S' : Sto} (ty : TypeId)
    (h : appendFn P s S t p q = some (r, S')) :
    ∃ w' L' x, (Builtin.append_ #[t, t] ty #[v, u]).run P w = .ok x w' ∧ Rel w' F L' r x ∧ Inv w' S' L' F K ∧ Ext w F L K w' F L' := by
  unfold appendFn at h
  split at h
  case h_2 => cases h
  rename_i e hk
  split at h
  case h_2 => cases h
  rename_i te m ht hm
  split at h
  case h_2 => cases h
  rename_i ys hy
  split at h
  case isFalse => cases h
  rename_i hcond
  obtain ⟨hone, hzl⟩ := hcond
  obtain ⟨i, d, z, h1, h2, h3, h4, h5, h6, h7, h8⟩ := tiOf_spec ht
  obtain ⟨news, hA, hnl, hu⟩ := rowOf_rel hi hq hm hy
  have hu1 := tkAt_slice hk
  have hone' : ∀ c ∈ ys, c.one = true := by simpa using hone
  have hzs : z.cells.size = te.size := by rw [← hzl, h7]; simp
  have hsz := run_sizeOf (w := w) (tiOf_szAt ht)
  split at h
  · -- nil
    obtain rfl : v = .slice none 0 0 := by cases hp; rfl
    split at h
    · rename_i hm0
      simp only [Option.some.injEq, Prod.mk.injEq] at h
      obtain ⟨rfl, rfl⟩ := h
      subst hm0
      refine ⟨w, L, .slice none 0 0, ?_, .lit _, hi, .refl _ _ _ _⟩
      have hl0 : ∀ (x : Addr), (loadCells x 0).run P w = .ok #[] w := fun x => by simpa using run_loadCells_list (P := P) (w := w) x [] (by simp)
      rcases hu with ⟨a0, c, rfl, _⟩ | ⟨b, o, cap, rfl, _⟩
      · cases a0 <;> simp [hl0, Builtin.append_, run_underlying hu1, hsz, Builtin.lenOf, Builtin.firstCells]
      · simp [Builtin.append_, run_underlying hu1, hsz, Builtin.lenOf, Builtin.firstCells, hl0]
    · rename_i hm0
      split at h
      · rename_i hb
        simp only [Option.some.injEq, Prod.mk.injEq] at h
        obtain ⟨rfl, rfl⟩ := h
        rcases hu with ⟨a0, c, rfl, hm1⟩ | ⟨b, o, cap, rfl, hh⟩
        · exact absurd hm1 hm0
        have hb1 := hb.1
        have hb2 := hb.2
        unfold maxBytes at hb1 hb2
        have hrun := run_append_nil (P := P) (w := w) t ty e i z hu1 h1 h3 ⟨b, o, none⟩ m cap news (by rw [hnl, h5])
          (fun j x hx => by rw [addr_add]; exact hh j x hx) (by omega) (by omega) (by rw [← h6]; omega)
        have hge := grownCap_ge w m 0 e
        have hyl : ys.length = m * te.size := by rw [← hA.1, hnl]
        obtain ⟨g1, g2⟩ := hi.add s te.size ys news (news.toArray ++ Builtin.zeroCells z.cells (grownCap w m 0 e - m)) e
          (w' := w.drew.alloc (.cells (news.toArray ++ Builtin.zeroCells z.cells (grownCap w m 0 e - m)) e)) rfl rfl rfl rfl hA (by simp [hyl, hnl])
          (fun j x hx => by
            rw [Array.getElem?_append_left (by
              have := List.getElem?_eq_some_iff.1 hx
              simpa using this.1)]
            simpa using hx)
        refine ⟨_, _, _, hrun, .loc _ 0 (upd_same _ _ _) hge (.inl rfl) ?_, g1, g2⟩
        simp only [Array.size_append, zeroCells_size, List.size_toArray, hnl, hzs, Nat.zero_add]
        rw [← Nat.add_mul]
        exact Nat.mul_le_mul_right _ (by omega)
      · cases h
  · -- an object of one's own
    rename_i ii off n
    split at h
    case h_2 => cases h
    rename_i o ho
    split at h
    case isFalse => cases h
    rename_i hc
    obtain ⟨c1, c2, c3, c4, c5⟩ := hc
    simp only [Option.some.injEq, Prod.mk.injEq] at h
    obtain ⟨rfl, rfl⟩ := h
    cases hp with
    | @loc _ _ _ ℓ cap a hL hnc ha hcap =>
    obtain ⟨ℓ', c, e', hL', hes, hb, hcs, hlen, ⟨vs, hvs, hcv⟩, _, hown⟩ := hi.live ii o ho
    obtain rfl := Option.some.inj (hL'.symm.trans hL)
    have hyl : ys.length = m * te.size := by rw [← hA.1, hnl]
    have hvl : vs.length = off + n * te.size := by rw [hvs.1, c3]
    unfold maxBytes at c4 c5
    by_cases hroom : n + m ≤ cap
    · -- it fits
      have hfirst : ((Builtin.firstCells te.size m u).run P w) = .ok news.toArray w := by
        rcases hu with ⟨a0, c, rfl, hm1⟩ | ⟨b, o', cap', rfl, hh⟩
        · have : news = [] := by
            apply List.eq_nil_of_length_eq_zero; rw [hnl, hm1]; simp
          have hz : m * te.size = 0 := by rw [hm1, Nat.zero_mul]
          have hl0 : ∀ (x : Addr), (loadCells x 0).run P w = .ok #[] w := fun x => by simpa using run_loadCells_list (P := P) (w := w) x [] (by simp)
          cases a0 <;> simp [Builtin.firstCells, this, hz, hl0]
        · have := run_loadN (P := P) hh (n := m * te.size) (by omega)
          simp only [Builtin.firstCells]
          rw [this, List.take_of_length_le (by omega)]
      have hlenof : (Builtin.lenOf u).run P w = .ok m w := by
        rcases hu with ⟨a0, c, rfl, hm1⟩ | ⟨b, o', cap', rfl, hh⟩ <;> rfl
      have hxty : (P.underlying t matches some (.int _)) = false := by rw [hu1]
      have hrun : ∀ w', (storeCells ((⟨ℓ'.b, a, none⟩ : Addr).add (n * te.size)) news).run P w = .ok () w' →
          (Builtin.append_ #[t, t] ty #[.slice (some ⟨ℓ'.b, a, none⟩) n cap, u]).run P w = .ok (.slice (some ⟨ℓ'.b, a, none⟩) (n + m) cap) w' := by
        intro w' hw'
        simp [Builtin.append_, run_underlying hu1, hsz, hlenof, hroom, hfirst, hw']
      by_cases hm0 : m = 0
      · subst hm0
        have hnews : news = [] := List.eq_nil_of_length_eq_zero (by rw [hnl]; simp)
        have hys : ys = [] := List.eq_nil_of_length_eq_zero (by rw [hyl]; simp)
        subst hnews hys
        obtain ⟨g1, g2⟩ := hi.rename ho c1 hL s off (by omega)
        refine ⟨w, _, _, hrun w rfl, Rel.loc (ℓ := ⟨ℓ'.b, ℓ'.base + off, ℓ'.es, ℓ'.sz⟩) _ _ (upd_same _ _ _) (by omega) ?_ ?_, ?_, g2⟩
        · rcases ha with ha | ha
          · left; simpa using ha
          · right; exact ha
        · simpa using hcap
        · rw [List.append_nil, ← c2]; exact g1
      · have ha' : a = ℓ'.base + off := by
          rcases ha with ha | ha
          · exact ha
          · omega
        have hfit : ℓ'.base + (o.cells ++ ys).length ≤ ℓ'.sz := by
          rw [List.length_append, c3, hyl]
          have : (n + m) * te.size ≤ cap * te.size := Nat.mul_le_mul_right _ hroom
          rw [Nat.add_mul] at this
          rw [hes, c2] at hcap
          omega
        have hpos : (⟨ℓ'.b, a, none⟩ : Addr).add (n * te.size) = ⟨ℓ'.b, ℓ'.base + o.cells.length, none⟩ := by
          rw [addr_add, ha', c3, Nat.add_assoc]
        have hst := run_storeCells_cells (P := P) ℓ'.b (ℓ'.base + o.cells.length) news 0 w
          (fun j hj => by
            rw [Nat.add_zero, cell?_of hb]
            have : ℓ'.base + o.cells.length + j < c.size := by rw [List.length_append] at hfit; omega
            simp [this])
          (fun j hj => frozen?_of hb) (hA.oneCells hone')
        rw [Nat.add_zero] at hst
        obtain ⟨c', g1, g2, g3, g4, g5, g6, g7, g8⟩ := setCells_heap ℓ'.b news (ℓ'.base + o.cells.length) w c e' (0, 0) hb (by
          rw [List.length_append] at hfit; omega)
        obtain ⟨k1, k2⟩ := hi.write ho c1 hL hb (o.cells ++ ys) (vs ++ news) g6 g7 g8 g5 g1 g2 g4 (hvs.append hA) (by omega) (fun j x hx => by
          rw [g3]
          rw [List.getElem?_append, hvs.1] at hx
          split at hx
          · rw [if_neg (by omega)]; exact hcv j x hx
          · rename_i hj
            have hlt := (List.getElem?_eq_some_iff.1 hx).1
            rw [if_pos (by omega), show ℓ'.base + j - (ℓ'.base + o.cells.length) = j - o.cells.length by omega]
            exact hx)
        have ho1 : (S.set ii ⟨o.cells ++ ys, o.es, false⟩).obj ii = some ⟨o.cells ++ ys, o.es, false⟩ := upd_same _ _ _
        obtain ⟨m1, m2⟩ := k1.rename ho1 rfl hL s off (by simp; omega)
        have hdel : (S.set ii ⟨o.cells ++ ys, o.es, false⟩).del ii = S.del ii := by
          simp only [Sto.set, Sto.del]
          congr 1
          funext j
          simp only [upd]
          split <;> rfl
        rw [hdel] at m1
        refine ⟨_, _, _, hrun _ (by rw [hpos]; exact hst), Rel.loc (ℓ := ⟨ℓ'.b, ℓ'.base + off, ℓ'.es, ℓ'.sz⟩) _ _ (upd_same L _ _) hroom (.inl (by simp [ha'])) ?_, ?_, ?_⟩
        · simpa using hcap
        · have : (o.cells ++ ys).drop off = o.cells.drop off ++ ys := by rw [List.drop_append_of_le_length (by omega)]
          rw [← c2, ← this]; exact m1
        · exact ⟨k2.os, k2.tape, k2.output, k2.size, fun b hb => hb, k2.heap, m2.loc, fun b hb => .inl hb, fun j m h => by
            rcases m2.own j m h with h | h
            · exact .inl (Nat.le_trans k2.size h)
            · exact .inr h⟩
    · -- it grows
      have hm0 : m ≠ 0 := by omega
      rcases hu with ⟨a0, c, rfl, hm1⟩ | ⟨b, o', cap', rfl, hh⟩
      · exact absurd hm1 hm0
      have holds : HCells w ℓ'.b a (vs.drop off) := by
        rcases ha with rfl | ha
        · exact (HCells.of hb hcv).drop off
        · have : n = 0 := by omega
          subst this
          have : vs.drop off = [] := List.eq_nil_of_length_eq_zero (by simp; omega)
          rw [this]
          intro j u hu; simp at hu
      have holl : (vs.drop off).length = n * te.size := by simp; omega
      have hrun := run_append_grow (P := P) (w := w) t ty e i z hu1 h1 h3 ⟨ℓ'.b, a, none⟩ n cap (vs.drop off) (by rw [holl, h5]) (fun j x hx => by rw [addr_add]; exact holds j x hx)
        ⟨b, o', none⟩ m cap' news (by rw [hnl, h5]) (fun j x hx => by rw [addr_add]; exact hh j x hx) (by omega) (by omega)
        (growslice_fits (by omega) (by rw [← h6]; omega))
      have hge := grownCap_ge w (n + m) cap e
      have hdl : (o.cells.drop off).length = n * te.size := by simp; omega
      have hi2 := hi.del ii
      obtain ⟨g1, g2⟩ := hi2.add s te.size (o.cells.drop off ++ ys) (vs.drop off ++ news) ((vs.drop off).toArray ++ news.toArray ++ Builtin.zeroCells z.cells (grownCap w (n + m) cap e - (n + m))) e
        (w' := w.drew.alloc (.cells ((vs.drop off).toArray ++ news.toArray ++ Builtin.zeroCells z.cells (grownCap w (n + m) cap e - (n + m))) e)) rfl rfl rfl rfl ((hvs.drop off).append hA)
        (by simp only [List.length_append, hdl, hyl, Array.size_append, List.size_toArray, holl, hnl]; omega)
        (fun j x hx => by
          rw [Array.getElem?_append_left (by
            have := (List.getElem?_eq_some_iff.1 hx).1
            simpa using this)]
          simpa using hx)
      refine ⟨_, _, _, hrun, .loc _ 0 (upd_same _ _ _) hge (.inl rfl) ?_, g1, g2⟩
      simp only [Array.size_append, zeroCells_size, List.size_toArray, holl, hnl, hzs, Nat.zero_add]
      rw [← Nat.add_mul, ← Nat.add_mul]
      exact Nat.mul_le_mul_right _ (by omega)
  · cases h
theorem s_copy {t : TypeId} (hi : Inv w S L F K) {p q r : PV} {v u : Value} (hp : Rel w F L p v) (hq : Rel w F L q u) {S' : Sto} (ty : TypeId)
    (h : copyFn P S t p q = some (r, S')) :
    ∃ w' x, (Builtin.copy_ #[t, t] ty #[v, u]).run P w = .ok x w' ∧ Rel w' F L r x ∧ Inv w' S' L F K ∧ Ext w F L K w' F L := by
  unfold copyFn at h
  split at h
  case h_2 => cases h
  rename_i e hk
  split at h
  case h_2 => cases h
  rename_i es m ii off n hs hm
  split at h
  case h_2 => cases h
  rename_i o ys ho hy
  split at h
  case isFalse => cases h
  rename_i hc
  obtain ⟨c1, c2, c3⟩ := hc
  simp only [Option.some.injEq, Prod.mk.injEq] at h
  obtain ⟨rfl, rfl⟩ := h
  obtain ⟨vs, hA, hvl, hu⟩ := rowOf_rel hi hq hm hy
  have hyl : ys.length = m * es := by rw [← hA.1, hvl]
  cases hp with
  | @loc _ _ _ ℓ cap a hL hnc ha hcap =>
  have hmin : Nat.min m n = min m n := rfl
  have hle : min m n * es ≤ m * es := Nat.mul_le_mul_right _ (Nat.min_le_left _ _)
  have hle2 : min m n * es ≤ n * es := Nat.mul_le_mul_right _ (Nat.min_le_right _ _)
  have hlen : (Builtin.lenOf u).run P w = .ok m w := by
    rcases hu with ⟨a0, c, rfl, _⟩ | ⟨b, o', cap', rfl, _⟩ <;> rfl
  have hfirst : (Builtin.firstCells es (Nat.min m n) u).run P w = .ok (vs.take (min m n * es)).toArray w := by
    rcases hu with ⟨a0, c, rfl, hm0⟩ | ⟨b, o', cap', rfl, hh⟩
    · have : vs = [] := List.eq_nil_of_length_eq_zero (by rw [hvl, hm0]; simp)
      have hz : Nat.min m n * es = 0 := by rw [hm0]; simp
      have hl0 : ∀ (x : Addr), (loadCells x 0).run P w = .ok #[] w := fun x => by simpa using run_loadCells_list (P := P) (w := w) x [] (by simp)
      cases a0 <;> simp [Builtin.firstCells, this, hz, hl0]
    · simp only [Builtin.firstCells]
      exact run_loadN hh (by rw [hvl]; exact hle)
  have hone : ∀ c ∈ ys.take (min m n * es), c.one = true := fun c hc => by
    have : ∀ c ∈ ys, c.one = true := by simpa using c2
    exact this c (List.mem_of_mem_take hc)
  have hrun : ∀ w', (storeCells ⟨ℓ.b, a, none⟩ (vs.take (min m n * es))).run P w = .ok () w' →
      (Builtin.copy_ #[t, t] ty #[.slice (some ⟨ℓ.b, a, none⟩) n cap, u]).run P w = .ok (goInt (min m n : Nat)) w' := by
    intro w' hw'
    simp [Builtin.copy_, run_underlying (tkAt_slice hk), hlen, run_sizeOf (w := w) hs, hfirst, hw', hmin]
  have hAt := hA.take (min m n * es)
  have hsub : off + (ys.take (min m n * es)).length ≤ o.cells.length := by
    rw [List.length_take, hyl]
    omega
  have hgood := s_write (P := P) (off := off) hi ho c1 hL hAt hsub hone
  rcases ha with rfl | ha
  · exact ⟨_, _, hrun _ hgood.1, .lit _, hgood.2.1, hgood.2.2⟩
  · have hn0 : n = 0 := by omega
    subst hn0
    have e1 : vs.take (min m 0 * es) = [] := by simp
    have e2 : ys.take (min m 0 * es) = [] := by simp
    rw [e1] at hgood
    refine ⟨_, _, hrun w (by rw [e1]; rfl), .lit _, hgood.2.1, hgood.2.2⟩
theorem equal_succ (t : TypeId) (x y : Value) : ∃ d, Op.equal t x y = Op.equalIn (d + 1) t x y := ⟨9999, rfl⟩
theorem eq_bools {t : TypeId} (hk : P.underlying t = some .bool) (a b : Bool) : (Op.equal t (.bool a) (.bool b)).run P w = .ok (a == b) w := by
  obtain ⟨d, hd⟩ := equal_succ t (.bool a) (.bool b)
  rw [hd]
  simp [Op.equalIn, run_underlying hk]
theorem eq_nil1 {t e : TypeId} (hk : P.underlying t = some (.slice e)) (n c : Nat) (a' : Option Addr) (n' c' : Nat) : (Op.equal t (.slice none n c) (.slice a' n' c')).run P w = .ok a'.isNone w := by
  obtain ⟨d, hd⟩ := equal_succ t (.slice none n c) (.slice a' n' c')
  rw [hd]
  simp [Op.equalIn, run_underlying hk]
theorem eq_nil2 {t e : TypeId} (hk : P.underlying t = some (.slice e)) (n c : Nat) (a : Option Addr) (n' c' : Nat) : (Op.equal t (.slice a n' c') (.slice none n c)).run P w = .ok a.isNone w := by
  obtain ⟨d, hd⟩ := equal_succ t (.slice a n' c') (.slice none n c)
  rw [hd]
  cases a <;> simp [Op.equalIn, run_underlying hk]
theorem s_lits {op : BinOp} {t : TypeId} {a b u : Value} (h : litBin P op t a b = some u) : (binOp op t a b).run P w = .ok u w ∧
    ∀ x y, (eqGuard op t x y a b).run P w = .ok () w := by
  cases a <;> cases b <;> simp only [litBin] at h <;> first | (cases h; done) | skip
  · -- bools
    split at h
    · split at h
      · rename_i hk
        obtain rfl := Option.some.inj h
        refine ⟨?_, fun x y => by simp [eqGuard]⟩
        simp only [binOp, Sem.run_bind, eq_bools (tkAt_bool hk), Result.andThen_ok, Sem.run_pure]
      · cases h
    · split at h
      · rename_i hk
        obtain rfl := Option.some.inj h
        refine ⟨?_, fun x y => by simp [eqGuard]⟩
        simp only [binOp, Sem.run_bind, eq_bools (tkAt_bool hk), Result.andThen_ok, Sem.run_pure, bne]
      · cases h
    · cases h
  · exact ⟨s_intBin h t, fun x y => by cases op <;> rfl⟩
  · exact ⟨s_strBin h t, fun x y => by cases op <;> rfl⟩
theorem nil?_rel {p : PV} {v : Value} {b : Bool} (hr : Rel w F L p v) (h : p.nil? = some b) : ∃ a n c, v = .slice a n c ∧ a.isNone = b := by
  cases hr with
  | lit v =>
    cases v with
    | slice a n c =>
      cases a with
      | none => exact ⟨none, n, c, rfl, by simpa [PV.nil?] using h⟩
      | some a => simp [PV.nil?] at h
    | _ => simp [PV.nil?] at h
  | sl b base cap => exact ⟨_, _, _, rfl, by simpa [PV.nil?] using h⟩
  | wild a => exact ⟨_, _, _, rfl, by simpa [PV.nil?] using h⟩
  | loc cap o => exact ⟨_, _, _, rfl, by simpa [PV.nil?] using h⟩
  | agg => simp [PV.nil?] at h
  | tup => simp [PV.nil?] at h
  | fel => simp [PV.nil?] at h
  | ptr => simp [PV.nil?] at h
  | fn => simp [PV.nil?] at h
theorem s_nilEq {t : TypeId} {p q : PV} {v u : Value} (hp : Rel w F L p v) (hq : Rel w F L q u) {b : Bool} (h : nilEq P t p q = some b) :
    (Op.equal t v u).run P w = .ok b w ∧ ∃ a n c a' n' c', v = .slice a n c ∧ u = .slice a' n' c' := by
  unfold nilEq at h
  split at h
  · rename_i e b' hk h1 h2
    obtain rfl := Option.some.inj h
    obtain ⟨a, n, c, rfl, ha⟩ := nil?_rel hp h1
    obtain ⟨a', n', c', rfl, ha'⟩ := nil?_rel hq h2
    refine ⟨?_, _, _, _, _, _, _, rfl, rfl⟩
    obtain rfl : a = none := by simpa using ha
    rw [eq_nil1 (tkAt_slice hk), ha']
  · rename_i e b' hk h1 h2
    obtain rfl := Option.some.inj h
    obtain ⟨a, n, c, rfl, ha⟩ := nil?_rel hp h1
    obtain ⟨a', n', c', rfl, ha'⟩ := nil?_rel hq h2
    refine ⟨?_, _, _, _, _, _, _, rfl, rfl⟩
    obtain rfl : a' = none := by simpa using ha'
    rw [eq_nil2 (tkAt_slice hk), ha]
  · cases h
theorem s_binOp {op : BinOp} {t : TypeId} {p q r : PV} {v u : Value} (hp : Rel w F L p v) (hq : Rel w F L q u) (h : binFn P op t p q = some r) (x y : Operand) :
    ∃ z, (do eqGuard op t x y v u; binOp op t v u : Sem Value).run P w = .ok z w ∧ Rel w F L r z := by
  unfold binFn at h
  split at h
  · rename_i e hk
    split at h
    · rw [Option.map_eq_some_iff] at h
      obtain ⟨b, hb, rfl⟩ := h
      obtain ⟨h1, a, n, c, a', n', c', rfl, rfl⟩ := s_nilEq (P := P) hp hq hb
      refine ⟨.bool b, ?_, .lit _⟩
      have hg : (eqGuard .eql t x y (.slice a n c) (.slice a' n' c')).run P w = .ok () w := by simp [eqGuard]
      simp [hg, binOp, h1]
    · rw [Option.map_eq_some_iff] at h
      obtain ⟨b, hb, rfl⟩ := h
      obtain ⟨h1, a, n, c, a', n', c', rfl, rfl⟩ := s_nilEq (P := P) hp hq hb
      refine ⟨.bool !b, ?_, .lit _⟩
      have hg : (eqGuard .neq t x y (.slice a n c) (.slice a' n' c')).run P w = .ok () w := by simp [eqGuard]
      simp [hg, binOp, h1]
    · cases h
  · split at h
    · rename_i a b
      rw [Option.map_eq_some_iff] at h
      obtain ⟨z, hz, rfl⟩ := h
      obtain rfl : v = a := by cases hp; rfl
      obtain rfl : u = b := by cases hq; rfl
      obtain ⟨h1, h2⟩ := s_lits (w := w) hz
      exact ⟨z, by simp [h2, h1], .lit _⟩
    · cases h
theorem s_unOp {op : UnOp} {p r : PV} {v : Value} (hp : Rel w F L p v) (h : unFn op p = some r) : ∃ z, (Op.unary op v).run P w = .ok z w ∧ Rel w F L r z := by
  cases hp with
  | lit v =>
    cases v <;> cases op <;> simp [unFn] at h
    · subst h; exact ⟨_, rfl, .lit _⟩
    · subst h; exact ⟨_, by simp [Op.unary, Op.intArith], .lit _⟩
  | sl => simp [unFn] at h
  | wild => simp [unFn] at h
  | agg => simp [unFn] at h
  | tup => simp [unFn] at h
  | fel => simp [unFn] at h
  | loc => simp [unFn] at h
  | ptr => simp [unFn] at h
  | fn => simp [unFn] at h
theorem s_conv {s d : TypeId} {p r : PV} {v : Value} (hp : Rel w F L p v) (h : convFn P s d p = some r) : ∃ z, (convert s d v).run P w = .ok z w ∧ Rel w F L r z := by
  cases hp with
  | lit v =>
    cases v <;> simp only [convFn] at h <;> first | (cases h; done) | skip
    · split at h
      · rename_i k1 k h1 h2
        obtain rfl := Option.some.inj h
        obtain ⟨d1, g1, _⟩ := tkAt_spec h1
        refine ⟨_, ?_, .lit _⟩
        simp [convert, run_underlying g1, run_underlying (tkAt_int h2), Conv.intToInt]
      · cases h
    · split at h
      · rename_i h1 h2
        obtain rfl := Option.some.inj h
        refine ⟨_, ?_, .lit _⟩
        simp [convert, run_underlying (tkAt_str h1), run_underlying (tkAt_str h2)]
      · cases h
  | sl => simp [convFn] at h
  | wild => simp [convFn] at h
  | agg => simp [convFn] at h
  | tup => simp [convFn] at h
  | fel => simp [convFn] at h
  | loc => simp [convFn] at h
  | ptr => simp [convFn] at h
  | fn => simp [convFn] at h
theorem len?_rel {p : PV} {v : Value} {n : Nat} (hp : Rel w F L p v) (h : p.len? = some n) : ∃ a c, v = .slice a n c := by
  cases hp with
  | lit v =>
    cases v with
    | slice a n' c =>
      cases a with
      | none => exact ⟨none, c, by simp [PV.len?] at h; rw [h]⟩
      | some a => simp [PV.len?] at h
    | _ => simp [PV.len?] at h
  | sl b base cap => exact ⟨_, cap, by simp [PV.len?] at h; rw [h]⟩
  | wild a => exact ⟨_, 0, by simp [PV.len?] at h; rw [h]⟩
  | loc cap o => exact ⟨_, cap, by simp [PV.len?] at h; rw [h]⟩
  | agg => simp [PV.len?] at h
  | tup => simp [PV.len?] at h
  | fel => simp [PV.len?] at h
  | ptr => simp [PV.len?] at h
  | fn => simp [PV.len?] at h
theorem s_min {ρ : Operand → PV} {ev : Operand → Value} (hr : ∀ x, Rel w F L (ρ x) (ev x)) (k : IntKind) : ∀ (l : List Operand) (v n : Int), minFn v (l.map ρ) = some n →
    ((l.map ev).foldlM Builtin.min2 (.int k v)).run P w = .ok (.int k n) w
  | [], v, n, h => by
    obtain rfl : v = n := by simpa [minFn] using h
    rfl
  | x :: l, v, n, h => by
    have hx := hr x
    generalize hp : ρ x = p at hx
    simp only [List.map_cons, hp] at h
    cases p with
    | lit u =>
      obtain he : ev x = u := by cases hx; rfl
      cases u with
      | int k' m =>
        simp only [minFn] at h
        have ih := s_min hr k l _ n h
        simp only [List.map_cons, List.foldlM_cons, he, Sem.run_bind, Builtin.min2, Sem.run_pure, Result.andThen_ok]
        exact ih
      | _ => simp [minFn] at h
    | _ => simp [minFn] at h
theorem s_max {ρ : Operand → PV} {ev : Operand → Value} (hr : ∀ x, Rel w F L (ρ x) (ev x)) (k : IntKind) : ∀ (l : List Operand) (v n : Int), maxFn v (l.map ρ) = some n →
    ((l.map ev).foldlM Builtin.max2 (.int k v)).run P w = .ok (.int k n) w
  | [], v, n, h => by
    obtain rfl : v = n := by simpa [maxFn] using h
    rfl
  | x :: l, v, n, h => by
    have hx := hr x
    generalize hp : ρ x = p at hx
    simp only [List.map_cons, hp] at h
    cases p with
    | lit u =>
      obtain he : ev x = u := by cases hx; rfl
      cases u with
      | int k' m =>
        simp only [maxFn] at h
        have ih := s_max hr k l _ n h
        simp only [List.map_cons, List.foldlM_cons, he, Sem.run_bind, Builtin.max2, Sem.run_pure, Result.andThen_ok]
        exact ih
      | _ => simp [maxFn] at h
    | _ => simp [maxFn] at h
theorem Rel.lit_eq {v u : Value} (h : Rel w F L (.lit v) u) : u = v := by cases h; rfl
def Does (P : Program) (w : World) (L : Id → Option Loc) (F K : Nat → Prop) (s : Sem Next) (v : PV) (S' : Sto) : Prop :=
  ∃ w' L' u x, s.run P w = .ok x w' ∧ (x = .value u ∨ (x = .skip ∧ u = Go.undef)) ∧ Rel w' F L' v u ∧ Inv w' S' L' F K ∧ Ext w F L K w' F L'
theorem does_value {s : Sem Value} {v : PV} {S' : Sto} {w' : World} {L' : Id → Option Loc} {u : Value} (h : s.run P w = .ok u w') (hr : Rel w' F L' v u) (hi : Inv w' S' L' F K) (hx : Ext w F L K w' F L') :
    Does P w L F K (do pure (.value (← s))) v S' := ⟨w', L', u, .value u, by simp [h], .inl rfl, hr, hi, hx⟩
theorem does_same {s : Sem Value} {v : PV} {u : Value} (hi : Inv w S L F K) (h : s.run P w = .ok u w) (hr : Rel w F L v u) : Does P w L F K (do pure (.value (← s))) v S :=
  does_value h hr hi (.refl _ _ _ _)
theorem just {q : Option PV} {v : PV} {S S' : Sto} (h : justV S q = some (v, S')) : q = some v ∧ S' = S := by
  cases q with
  | none => cases h
  | some x =>
    simp only [justV, Option.map_some, Option.some.injEq, Prod.mk.injEq] at h
    exact ⟨by rw [h.1], h.2.symm⟩
theorem builtin_does (hi : Inv w S L F K) (s : Nat) {ρ : Operand → PV} {ev : Operand → Value} (hr : ∀ x, Rel w F L (ρ x) (ev x)) (b : Builtin) (ts : Array TypeId) (ty : TypeId) (cs : Array Bool) (xs : Array Operand)
    {v : PV} {S' : Sto} (h : builtinFn P s S b ts.toList (xs.toList.map ρ) = some (v, S')) : Does P w L F K (builtin b ts ty cs (xs.map ev)) v S' := by
  obtain ⟨ts⟩ := ts
  obtain ⟨xs⟩ := xs
  simp only at h
  cases b with
  | append =>
    simp only [builtinFn] at h
    cases ts with
    | nil => cases h
    | cons t ts =>
    cases ts with
    | nil => cases h
    | cons t' ts =>
    cases xs with
    | nil => cases h
    | cons a l =>
    cases l with
    | nil => cases h
    | cons b l =>
    simp only [List.map_cons] at h
    split at h
    · rename_i ht
      subst ht
      obtain ⟨w', L', u, h1, h2, h3, h4⟩ := s_append (P := P) hi s (hr a) (hr b) ty h
      refine does_value (w' := w') (L' := L') (u := u) ?_ h2 h3 h4
      rw [← h1]
      simp [Builtin.append_]
    · cases h
  | copy =>
    simp only [builtinFn] at h
    cases ts with
    | nil => cases h
    | cons t ts =>
    cases ts with
    | nil => cases h
    | cons t' ts =>
    cases xs with
    | nil => cases h
    | cons a l =>
    cases l with
    | nil => cases h
    | cons b l =>
    simp only [List.map_cons] at h
    split at h
    · rename_i ht
      subst ht
      obtain ⟨w', u, h1, h2, h3, h4⟩ := s_copy (P := P) hi (hr a) (hr b) ty h
      refine does_value (w' := w') (L' := L) (u := u) ?_ h2 h3 h4
      rw [← h1]
      simp [Builtin.copy_]
    · cases h
  | len =>
    simp only [builtinFn] at h
    obtain ⟨h2, h3⟩ := just h
    subst h3
    clear h
    have h := h2
    clear h2
    cases ts with
    | nil => cases h
    | cons t ts =>
    cases xs with
    | nil => cases h
    | cons y l =>
    simp only [List.map_cons, pureB] at h
    split at h
    · rename_i hk
      split at h
      · rename_i b hb
        obtain rfl := Option.some.inj h
        have hy := hr y
        rw [hb] at hy
        have he : ev y = .string b := hy.lit_eq
        exact does_same hi (by simp [Builtin.len_, he, run_underlying (tkAt_str hk)]; rfl) (.lit _)
      · cases h
    · rename_i e hk
      rw [Option.map_eq_some_iff] at h
      obtain ⟨n, hn, rfl⟩ := h
      obtain ⟨a, c, he⟩ := len?_rel (hr y) hn
      exact does_same hi (by simp [Builtin.len_, he, run_underlying (tkAt_slice hk)]; rfl) (.lit _)
    · rename_i n e hk
      obtain rfl := Option.some.inj h
      exact does_same hi (by simp [Builtin.len_, run_underlying (tkAt_arr hk)]; rfl) (.lit _)
    · cases h
  | min =>
    simp only [builtinFn] at h
    obtain ⟨h2, h3⟩ := just h
    subst h3
    clear h
    have h := h2
    clear h2
    cases xs with
    | nil => simp [pureB] at h
    | cons a l =>
    have ha := hr a
    generalize hx : ρ a = p at ha
    simp only [List.map_cons, hx] at h
    cases p with
    | lit u =>
      have he := ha.lit_eq
      cases u with
      | int k v =>
        simp only [pureB] at h
        rw [Option.map_eq_some_iff] at h
        obtain ⟨n, hn, rfl⟩ := h
        refine does_same hi (u := .int k n) ?_ (.lit _)
        have := s_min (P := P) hr k l v n hn
        simpa [Builtin.min_, he] using this
      | _ => simp [pureB] at h
    | _ => simp [pureB] at h
  | max =>
    simp only [builtinFn] at h
    obtain ⟨h2, h3⟩ := just h
    subst h3
    clear h
    have h := h2
    clear h2
    cases xs with
    | nil => simp [pureB] at h
    | cons a l =>
    have ha := hr a
    generalize hx : ρ a = p at ha
    simp only [List.map_cons, hx] at h
    cases p with
    | lit u =>
      have he := ha.lit_eq
      cases u with
      | int k v =>
        simp only [pureB] at h
        rw [Option.map_eq_some_iff] at h
        obtain ⟨n, hn, rfl⟩ := h
        refine does_same hi (u := .int k n) ?_ (.lit _)
        have := s_max (P := P) hr k l v n hn
        simpa [Builtin.max_, he] using this
      | _ => simp [pureB] at h
    | _ => simp [pureB] at h
  | _ => simp [builtinFn] at h
theorem op_sound (o : Oper) (s : Nat) {ρ : Operand → PV} {ev : Operand → Value} (hr : ∀ x, Rel w F L (ρ x) (ev x)) (hi : Inv w S L F K) {v : PV} {S' : Sto}
    (h : opFn P s ρ S o.op = some (v, S')) : Does P w L F K (execOp ev o) v S' := by
  obtain ⟨dst, op, type, pos, after, guard⟩ := o
  simp only at h
  cases op with
  | move x =>
    simp only [opFn, Option.some.injEq, Prod.mk.injEq] at h
    obtain ⟨rfl, rfl⟩ := h
    exact ⟨w, L, ev x, .value (ev x), rfl, .inl rfl, hr x, hi, .refl _ _ _ _⟩
  | assign x =>
    simp only [opFn, Option.some.injEq, Prod.mk.injEq] at h
    obtain ⟨rfl, rfl⟩ := h
    exact ⟨w, L, ev x, .value (ev x), rfl, .inl rfl, hr x, hi, .refl _ _ _ _⟩
  | pick c a b =>
    simp only [opFn] at h
    split at h
    · rename_i t hc
      simp only [Option.some.injEq, Prod.mk.injEq] at h
      obtain ⟨rfl, rfl⟩ := h
      have hcr := hr c
      rw [hc] at hcr
      have hev : ev c = .bool t := hcr.lit_eq
      refine ⟨w, L, if t then ev a else ev b, .value (if t then ev a else ev b), ?_, .inl rfl, ?_, hi, .refl _ _ _ _⟩
      · simp [execOp, hev, asBool]
      · cases t
        · exact hr b
        · exact hr a
    · cases h
  | alloc e =>
    simp only [opFn] at h
    split at h
    · rename_i ti ht
      simp only [Option.some.injEq, Prod.mk.injEq] at h
      obtain ⟨rfl, rfl⟩ := h
      obtain ⟨w', L', u, h1, h2, h3, h4⟩ := s_alloc (P := P) hi ht s
      exact does_value h1 h2 h3 h4
    · cases h
  | box e x =>
    simp only [opFn, Option.some.injEq, Prod.mk.injEq] at h
    obtain ⟨rfl, rfl⟩ := h
    obtain ⟨w', L', u, h1, h2, h3, h4⟩ := s_box (P := P) (e := e) hi s (hr x)
    exact does_value h1 h2 h3 h4
  | build t parts =>
    simp only [opFn] at h
    split at h
    · rename_i ti ht
      split at h
      · rename_i hk
        rw [Option.map_eq_some_iff] at h
        obtain ⟨cs, hcs, h⟩ := h
        simp only [Prod.mk.injEq] at h
        obtain ⟨rfl, rfl⟩ := h
        obtain ⟨u, h1, h2⟩ := s_build (P := P) ht hk hr parts hcs
        exact does_same hi h1 h2
      · rename_i n e hk
        split at h
        · rename_i es hs
          rw [Option.map_eq_some_iff] at h
          obtain ⟨cs, hcs, h⟩ := h
          simp only [Prod.mk.injEq] at h
          obtain ⟨rfl, rfl⟩ := h
          obtain ⟨u, h1, h2⟩ := s_buildArr (P := P) ht hk hs hr parts hcs
          exact does_same hi h1 h2
        · cases h
      · cases h
    · cases h
  | buildSlice t len parts =>
    simp only [opFn] at h
    split at h
    · rename_i e hk
      split at h
      · rename_i te ht
        split at h
        · rename_i hc
          rw [Option.map_eq_some_iff] at h
          obtain ⟨cs, hcs, h⟩ := h
          simp only [Prod.mk.injEq] at h
          obtain ⟨rfl, rfl⟩ := h
          obtain ⟨w', L', u, h1, h2, h3, h4⟩ := s_buildSlice (P := P) hi s len hk ht hc.1 hc.2 hr parts hcs
          exact does_value h1 h2 h3 h4
        · cases h
      · cases h
    · cases h
  | load t a =>
    simp only [opFn] at h
    split at h
    · rename_i ti cs ht hc
      obtain ⟨hq, rfl⟩ := just h
      obtain ⟨u, h1, h2⟩ := s_load (P := P) hi ht (hr a) hc hq
      exact does_same hi h1 h2
    · cases h
  | store t a x =>
    simp only [opFn] at h
    split at h
    · rename_i sz ht
      obtain ⟨w', h1, rfl, h3, h4⟩ := s_store (P := P) hi ht (hr a) (hr x) h
      exact ⟨w', L, Go.undef, .skip, by simp [execOp, h1], .inr ⟨rfl, rfl⟩, .lit _, h3, h4⟩
    · cases h
  | nilCheck x =>
    have hx := hr x
    simp only [opFn] at h
    split at h
    · rename_i i off hp
      simp only [Option.some.injEq, Prod.mk.injEq] at h
      obtain ⟨rfl, rfl⟩ := h
      rw [hp] at hx
      obtain ⟨u, hu⟩ : ∃ u, ev x = u := ⟨_, rfl⟩
      rw [hu] at hx
      cases hx with
      | ptr hL => exact ⟨w, L, _, .value _, by simp [execOp, hu], .inl rfl, .ptr hL, hi, .refl _ _ _ _⟩
    · rename_i cs hp
      simp only [Option.some.injEq, Prod.mk.injEq] at h
      obtain ⟨rfl, rfl⟩ := h
      rw [hp] at hx
      obtain ⟨u, hu⟩ : ∃ u, ev x = u := ⟨_, rfl⟩
      rw [hu] at hx
      have hx' := hx
      cases hx with
      | fel b base vs hF hs hc hrr => exact ⟨w, L, _, .value _, by simp [execOp, hu], .inl rfl, hx', hi, .refl _ _ _ _⟩
    · rename_i f cs hp
      simp only [Option.some.injEq, Prod.mk.injEq] at h
      obtain ⟨rfl, rfl⟩ := h
      rw [hp] at hx
      obtain ⟨u, hu⟩ : ∃ u, ev x = u := ⟨_, rfl⟩
      rw [hu] at hx
      have hx' := hx
      cases hx with
      | fn vs hs hrr => exact ⟨w, L, _, .value _, by simp [execOp, hu], .inl rfl, hx', hi, .refl _ _ _ _⟩
    · rename_i f a b hp
      simp only [Option.some.injEq, Prod.mk.injEq] at h
      obtain ⟨rfl, rfl⟩ := h
      rw [hp] at hx
      have hu : ev x = .func (.func f) a b := hx.lit_eq
      exact ⟨w, L, _, .value _, by simp [execOp, hu], .inl rfl, .lit _, hi, .refl _ _ _ _⟩
    · cases h
  | binOp op t x y yt =>
    simp only [opFn] at h
    obtain ⟨hq, rfl⟩ := just h
    obtain ⟨u, h1, h2⟩ := s_binOp (P := P) (hr x) (hr y) hq x y
    exact does_same hi h1 h2
  | unOp op t x =>
    simp only [opFn] at h
    obtain ⟨hq, rfl⟩ := just h
    obtain ⟨u, h1, h2⟩ := s_unOp (P := P) (hr x) hq
    exact does_same hi h1 h2
  | convert src d x =>
    simp only [opFn] at h
    obtain ⟨hq, rfl⟩ := just h
    obtain ⟨u, h1, h2⟩ := s_conv (P := P) (hr x) hq
    exact does_same hi h1 h2
  | makeFunc fn first cap =>
    cases fn <;> simp only [opFn] at h <;> first | (cases h; done) | skip
    split at h
    · rename_i f hf
      simp only [Option.some.injEq, Prod.mk.injEq] at h
      obtain ⟨rfl, rfl⟩ := h
      have hfe : first = #[] := Array.eq_empty_of_size_eq_zero hf
      subst hfe
      refine does_same hi (u := .func (.func f) #[] (cap.map ev)) (by simp [Instr.makeFunc]) (.fn _ (by simp) (fun j c u hc hu => ?_))
      simp only [List.getElem?_map, Array.toList_map, Option.map_eq_some_iff] at hc hu
      obtain ⟨x, hx, rfl⟩ := hc
      obtain ⟨y, hy, rfl⟩ := hu
      obtain rfl : x = y := by rw [hx] at hy; exact Option.some.inj hy
      exact hr x
    · cases h
  | makeSlice t l c =>
    simp only [opFn] at h
    split at h
    · rename_i e k n k' m hk hl hc
      split at h
      · rename_i te ht
        split at h
        · rename_i hb
          simp only [Option.some.injEq, Prod.mk.injEq] at h
          obtain ⟨rfl, rfl⟩ := h
          have e1 : ev l = .int k n := by have := hr l; rw [hl] at this; exact this.lit_eq
          have e2 : ev c = .int k' m := by have := hr c; rw [hc] at this; exact this.lit_eq
          obtain ⟨w', L', u, h1, h2, h3, h4⟩ := s_makeSlice (P := P) hi s k k' hk ht hb.1 hb.2.1 hb.2.2.1 hb.2.2.2.1 hb.2.2.2.2
          rw [← e1, ← e2] at h1
          exact does_value h1 h2 h3 h4
        · cases h
      · cases h
    · cases h
  | slice t x lo hi' mx =>
    cases mx with
    | some m => simp [opFn] at h
    | none =>
    simp only [opFn] at h
    split at h
    · rename_i e hk
      split at h
      · rename_i es n hs hn
        split at h
        · rename_i l hh h1 h2
          split at h
          · rename_i hb
            obtain ⟨hq, rfl⟩ := just h
            obtain ⟨u, g1, g2⟩ := s_slice (P := P) hi hk hs hr hn h1 h2 hb.1 hb.2.1 hb.2.2 hq
            exact does_same hi g1 g2
          · cases h
        · cases h
      · cases h
    · rename_i hk
      split at h
      · rename_i b hx
        split at h
        · rename_i l hh h1 h2
          split at h
          · rename_i hb
            simp only [Option.some.injEq, Prod.mk.injEq] at h
            obtain ⟨rfl, rfl⟩ := h
            have he : ev x = .string b := by have := hr x; rw [hx] at this; exact this.lit_eq
            exact does_same hi (s_sliceStr (P := P) hk hr he h1 h2 hb.1 hb.2.1 hb.2.2) (.lit _)
          · cases h
        · cases h
      · cases h
    · cases h
  | fieldAddr t x f =>
    simp only [opFn] at h
    split at h
    · rename_i ti ht
      split at h
      · rename_i fi hf
        split at h
        · rename_i hc
          obtain ⟨hq, rfl⟩ := just h
          obtain ⟨u, h1, h2⟩ := s_fieldAddr (P := P) ht hc.2 hf hc.1 (hr x) hq
          exact does_same hi h1 h2
        · cases h
      · cases h
    · cases h
  | field t x f =>
    simp only [opFn] at h
    split at h
    · rename_i ti ht
      split at h
      · rename_i fi cs hf hc
        split at h
        · rename_i hk
          obtain ⟨hq, rfl⟩ := just h
          obtain ⟨u, h1, h2⟩ := s_field (P := P) ht hk hf (hr x) hc hq
          exact does_same hi h1 h2
        · cases h
      · cases h
    · cases h
  | indexAddr t x i =>
    simp only [opFn] at h
    split at h
    · rename_i e j hk hj
      split at h
      · rename_i es n hs hn
        split at h
        · rename_i hb
          obtain ⟨hq, rfl⟩ := just h
          obtain ⟨k, hu⟩ := int?_rel (hr i) hj
          obtain ⟨u, h1, h2⟩ := s_indexAddr (P := P) hk hs (hr x) hn hu hb.1 hb.2 hq
          exact does_same hi h1 h2
        · cases h
      · cases h
    · rename_i n e j hk hj
      split at h
      · rename_i es hs
        split at h
        · rename_i hb
          obtain ⟨hq, rfl⟩ := just h
          obtain ⟨k, hu⟩ := int?_rel (hr i) hj
          obtain ⟨u, h1, h2⟩ := s_indexArr (P := P) hk hs (hr x) hu hb.1 hb.2 hq
          exact does_same hi h1 h2
        · cases h
      · cases h
    · cases h
  | index t x i =>
    simp only [opFn] at h
    split at h
    · rename_i n e j hk hj
      split at h
      · rename_i te cs ht hc
        split at h
        · rename_i hb
          obtain ⟨hq, rfl⟩ := just h
          obtain ⟨k, hu⟩ := int?_rel (hr i) hj
          obtain ⟨u, h1, h2⟩ := s_index (P := P) hk ht (hr x) hc hu hb.1 hb.2 hq
          exact does_same hi h1 h2
        · cases h
      · cases h
    · rename_i j hk hj
      split at h
      · rename_i b hx
        split at h
        · rename_i h0
          rw [Option.map_eq_some_iff] at h
          obtain ⟨c, hc, h⟩ := h
          simp only [Prod.mk.injEq] at h
          obtain ⟨rfl, rfl⟩ := h
          obtain ⟨k, hu⟩ := int?_rel (hr i) hj
          have he : ev x = .string b := by have := hr x; rw [hx] at this; exact this.lit_eq
          refine does_same hi (u := .int .u8 (c.toNat : Nat)) ?_ (.lit _)
          rw [he, hu]
          simp [Instr.index, asIntOf, run_underlying (tkAt_str hk), h0, hc]
        · cases h
      · cases h
    · cases h
  | extract x ix =>
    have hx := hr x
    simp only [opFn] at h
    split at h
    · rename_i vs hp
      rw [Option.map_eq_some_iff] at h
      obtain ⟨c, hc, h⟩ := h
      simp only [Prod.mk.injEq] at h
      obtain ⟨rfl, rfl⟩ := h
      rw [hp] at hx
      obtain ⟨u, hu⟩ : ∃ u, ev x = u := ⟨_, rfl⟩
      rw [hu] at hx
      cases hx with
      | tup us hs hrr =>
        have hlt : ix < us.size := by
          have := (List.getElem?_eq_some_iff.1 hc).1
          simp at hs; omega
        refine does_same hi (u := us[ix]) ?_ (hrr ix _ _ hc (by simp))
        rw [hu]
        simp [Instr.extract, hlt]
    · rename_i vs hp
      rw [Option.map_eq_some_iff] at h
      obtain ⟨c, hc, h⟩ := h
      simp only [Prod.mk.injEq] at h
      obtain ⟨rfl, rfl⟩ := h
      have he : ev x = .tuple vs := by rw [hp] at hx; exact hx.lit_eq
      refine does_same hi (u := c) ?_ (.lit _)
      rw [he]
      simp [Instr.extract, hc]
    · cases h
  | call c =>
    obtain ⟨callee, xs, ts⟩ := c
    cases callee with
    | builtin b =>
      simp only [opFn] at h
      exact builtin_does (P := P) hi s hr b ts type _ xs h
    | value f => simp [opFn] at h
    | invoke r m => simp [opFn] at h
  | _ => simp [opFn] at h
end Go.Abs
end
section
namespace Go.Abs
open Go
inductive Plain : PV → Prop
  | lit (v : Value) : Plain (.lit v)
  | sl {cs : List PV} (n : Nat) (h : ∀ c ∈ cs, Plain c) : Plain (.sl cs n)
  | agg {cs : List PV} (h : ∀ c ∈ cs, Plain c) : Plain (.agg cs)
  | tup {cs : List PV} (h : ∀ c ∈ cs, Plain c) : Plain (.tup cs)
  | fel {cs : List PV} (h : ∀ c ∈ cs, Plain c) : Plain (.fel cs)
  | fn (f : FuncId) {cs : List PV} (h : ∀ c ∈ cs, Plain c) : Plain (.fn f cs)
inductive Scal : PV → Prop
  | lit (v : Value) : Scal (.lit v)
  | agg {cs : List PV} (h : ∀ c ∈ cs, Scal c) : Scal (.agg cs)
  | tup {cs : List PV} (h : ∀ c ∈ cs, Scal c) : Scal (.tup cs)
inductive View (S : Sto) (z : Bool) : PV → PV → Prop
  | refl (p : PV) : View S z p p
  | loc {i : Id} {o : Obj} {off n : Nat} {cs : List PV} (ho : S.obj i = some o) (hz : z = true → o.frz = true) (hl : cs.length = ((o.cells.drop off).take (n * o.es)).length)
      (h : ∀ (j : Nat) c d, ((o.cells.drop off).take (n * o.es))[j]? = some c → cs[j]? = some d → View S z c d) : View S z (.loc i off n) (.sl cs n)
  | ptr {i : Id} {o : Obj} {off : Nat} {cs : List PV} (ho : S.obj i = some o) (hz : z = true → o.frz = true) (hl : cs.length = (o.cells.drop off).length)
      (h : ∀ (j : Nat) c d, (o.cells.drop off)[j]? = some c → cs[j]? = some d → View S z c d) : View S z (.ptr i off) (.fel cs)
  | sl {cs ds : List PV} {n : Nat} (hl : ds.length = cs.length) (h : ∀ (j : Nat) c d, cs[j]? = some c → ds[j]? = some d → View S z c d) : View S z (.sl cs n) (.sl ds n)
  | agg {cs ds : List PV} (hl : ds.length = cs.length) (h : ∀ (j : Nat) c d, cs[j]? = some c → ds[j]? = some d → View S z c d) : View S z (.agg cs) (.agg ds)
  | tup {cs ds : List PV} (hl : ds.length = cs.length) (h : ∀ (j : Nat) c d, cs[j]? = some c → ds[j]? = some d → View S z c d) : View S z (.tup cs) (.tup ds)
  | fn {f : FuncId} {cs ds : List PV} (hl : ds.length = cs.length) (h : ∀ (j : Nat) c d, cs[j]? = some c → ds[j]? = some d → View S z c d) : View S z (.fn f cs) (.fn f ds)
def ViewL (S : Sto) (z : Bool) (cs ds : List PV) : Prop := ds.length = cs.length ∧ ∀ (j : Nat) c d, cs[j]? = some c → ds[j]? = some d → View S z c d
inductive Own : PV → Prop
  | lit (v : Value) : Own (.lit v)
  | loc (i : Id) (off n : Nat) : Own (.loc i off n)
  | ptr (i : Id) (off : Nat) : Own (.ptr i off)
  | agg {cs : List PV} (h : ∀ c ∈ cs, Own c) : Own (.agg cs)
  | tup {cs : List PV} (h : ∀ c ∈ cs, Own c) : Own (.tup cs)
def Id.up (g : Nat → Nat) (i : Id) : Id := ⟨i.s, g i.s + i.g⟩
mutual
def PV.ren (g : Nat → Nat) : PV → PV
  | .loc i off n => .loc (Id.up g i) off n
  | .ptr i off => .ptr (Id.up g i) off
  | .agg cs => .agg (renL g cs)
  | .tup cs => .tup (renL g cs)
  | .lit v => .lit v
  | .sl cs n => .sl cs n
  | .fel cs => .fel cs
  | .fn f cs => .fn f cs
def renL (g : Nat → Nat) : List PV → List PV
  | [] => []
  | c :: cs => PV.ren g c :: renL g cs
end
theorem renL_eq (g : Nat → Nat) : ∀ cs : List PV, renL g cs = cs.map (PV.ren g)
  | [] => by simp only [renL, List.map_nil]
  | c :: cs => by simp only [renL, List.map_cons, renL_eq g cs]
def Sto.merge (S S' : Sto) (keep : Id → Bool) : Sto :=
  ⟨fun i => if i.g < S.gen i.s then S.obj i else if keep ⟨i.s, i.g - S.gen i.s⟩ = true then (S'.obj ⟨i.s, i.g - S.gen i.s⟩).map fun o => { o with cells := renL S.gen o.cells } else none, fun s => S.gen s + S'.gen s⟩
def calleeOf : PV → Option (FuncId × List PV)
  | .fn f cs => some (f, cs)
  | .lit (.func (.func f) a b) => if a.size = 0 then some (f, b.toList.map .lit) else none
  | _ => none
def Sto.empty : Sto := ⟨fun _ => none, fun _ => 0⟩
def Tm.of (ps : List PV) : Tm := fun t => (ps[t]?).getD .undef
inductive Cls where
  | p | r | n
  deriving DecidableEq
def clsOf : Op → Cls
  | .move _ | .assign _ | .pick _ _ _ | .build _ _ | .binOp _ _ _ _ _ | .unOp _ _ _ | .convert _ _ _ | .makeFunc _ _ _ | .fieldAddr _ _ _ | .field _ _ _ | .indexAddr _ _ _ | .index _ _ _
  | .extract _ _ | .nilCheck _ => .p
  | .load _ _ | .slice _ _ _ _ _ => .r
  | .call { callee := .builtin .len, .. } | .call { callee := .builtin .min, .. } | .call { callee := .builtin .max, .. } => .p
  | .call { callee := .value _, .. } => .r
  | _ => .n
def Cls.le : Cls → Cls → Bool
  | .p, _ => true
  | .r, .p => false
  | .r, _ => true
  | .n, .n => true
  | .n, _ => false
def wantFn (os : Array Oper) (tm : Tm) (o : Oper) : Option Bool :=
  match o.guard with
  | none => some true
  | some (j, want) => match (os[j]?).bind (·.dst) with
    | some d => match tm d with
      | .lit (.bool b) => some (b == want)
      | .lit (.tuple _) => some false
      | _ => none
    | none => none
abbrev CallP := FuncId → List PV → Sto → PV → Sto → Prop
inductive Step (C : CallP) (P : Program) (os : Array Oper) (κ : Cls) (o : Oper) : Tm → Sto → PV → Sto → Prop
  | skp {tm : Tm} {S : Sto} (h : wantFn os tm o = some false) : Step C P os κ o tm S .undef S
  | one {tm : Tm} {S S' : Sto} {v : PV} (hw : wantFn os tm o = some true) (hk : (clsOf o.op).le κ = true) (h : opFn P (o.dst.getD 0) tm.opnd S o.op = some (v, S')) : Step C P os κ o tm S v S'
  /-- an operation that does not look at the store as it stands here -/
  | oneP {tm : Tm} {S : Sto} {v : PV} (hw : wantFn os tm o = some true) (h : ∀ S', opFn P (o.dst.getD 0) tm.opnd S' o.op = some (v, S')) : Step C P os κ o tm S v S
  /-- a call that sees frozen things alone -/
  | callP {tm : Tm} {S S' : Sto} {x : Operand} {xs : Array Operand} {ts : Array TypeId} {f : FuncId} {cs ps : List PV} {r q : PV} (hw : wantFn os tm o = some true) (hk : κ ≠ .p)
      (ho : o.op = .call ⟨.value x, xs, ts⟩) (hc : calleeOf (tm.opnd x) = some (f, cs)) (hv : ViewL S true (xs.toList.map tm.opnd ++ cs) ps) (hp : ∀ p ∈ ps, Plain p)
      (h : C f ps .empty r S') (hr : View S' false r q) (hq : Plain q) : Step C P os κ o tm S q S
  /-- a call that sees objects of one's own, and answers with numbers -/
  | callB {tm : Tm} {S S' : Sto} {x : Operand} {xs : Array Operand} {ts : Array TypeId} {f : FuncId} {cs ps : List PV} {r : PV} (hw : wantFn os tm o = some true) (hk : κ ≠ .p)
      (ho : o.op = .call ⟨.value x, xs, ts⟩) (hc : calleeOf (tm.opnd x) = some (f, cs)) (hv : ViewL S false (xs.toList.map tm.opnd ++ cs) ps) (hp : ∀ p ∈ ps, Plain p)
      (h : C f ps .empty r S') (hr : Scal r) : Step C P os κ o tm S r S
  /-- a call whose answer is an object that becomes one's own -/
  | callA {tm : Tm} {S S' : Sto} {x : Operand} {xs : Array Operand} {ts : Array TypeId} {f : FuncId} {cs ps ds : List PV} {i : Id} {ob : Obj} {off n : Nat} {z : Bool} (hw : wantFn os tm o = some true) (hk : κ = .n)
      (ho : o.op = .call ⟨.value x, xs, ts⟩) (hc : calleeOf (tm.opnd x) = some (f, cs)) (hv : ViewL S z (xs.toList.map tm.opnd ++ cs) ps) (hp : ∀ p ∈ ps, Plain p)
      (h : C f ps .empty (.loc i off n) S') (hob : S'.obj i = some ob) (hz : ob.frz = false) (hoff : off ≤ ob.cells.length) (hd : ViewL (S'.del i) false (ob.cells.drop off) ds) (hpl : ∀ d ∈ ds, Plain d)
      (hs : z = false → ∀ c ∈ ob.cells, Scal c) :
      Step C P os κ o tm S (.loc (S.next (o.dst.getD 0)) 0 n) (S.add (o.dst.getD 0) ⟨ds, ob.es, false⟩)
  /-- a call whose answer, and the objects that it leads to, become one's own -/
  | callG {tm : Tm} {S S' : Sto} {x : Operand} {xs : Array Operand} {ts : Array TypeId} {f : FuncId} {cs ps : List PV} {r : PV} {keep : Id → Bool} (hw : wantFn os tm o = some true) (hk : κ = .n)
      (ho : o.op = .call ⟨.value x, xs, ts⟩) (hc : calleeOf (tm.opnd x) = some (f, cs)) (hv : ViewL S false (xs.toList.map tm.opnd ++ cs) ps) (hp : ∀ p ∈ ps, Plain p)
      (h : C f ps .empty r S') (hkeep : ∀ i, keep i = true → ∃ ob, S'.obj i = some ob ∧ ob.frz = false ∧ ∀ c ∈ ob.cells, Own c) (hr : Own r) :
      Step C P os κ o tm S (r.ren S.gen) (S.merge S' keep)
  /-- a call in one's own store -/
  | callS {tm : Tm} {S S' : Sto} {x : Operand} {xs : Array Operand} {ts : Array TypeId} {f : FuncId} {cs : List PV} {r : PV} (hw : wantFn os tm o = some true) (hk : κ = .n)
      (ho : o.op = .call ⟨.value x, xs, ts⟩) (hc : calleeOf (tm.opnd x) = some (f, cs))
      (h : C f (xs.toList.map tm.opnd ++ cs) S r S') : Step C P os κ o tm S r S'
inductive Ops (C : CallP) (P : Program) (os : Array Oper) (κ : Nat → Cls) : List Nat → Tm → Sto → Tm → Sto → Prop
  | nil {tm : Tm} {S : Sto} : Ops C P os κ [] tm S tm S
  | cons {i : Nat} {is : List Nat} {o : Oper} {tm tm' : Tm} {S S1 S' : Sto} {v : PV} (ho : os[i]? = some o) (h : Step C P os (κ i) o tm S v S1)
      (hr : Ops C P os κ is (tm.put o.dst v) S1 tm' S') : Ops C P os κ (i :: is) tm S tm' S'
def tmpsOf (l : List Operand) : List Tmp := l.filterMap fun | .tmp t => some t | _ => none
def readsOf (os : Array Oper) (o : Oper) : List Tmp :=
  tmpsOf o.op.operands.toList ++ (match o.guard with | some (j, _) => ((os[j]?).bind (·.dst)).toList | none => [])
def apart (os : Array Oper) (a b : Oper) : Bool :=
  a.dst.toList.all (fun d => !(readsOf os b).contains d && b.dst != some d) && b.dst.toList.all (fun d => !(readsOf os a).contains d)
def clsFree : Cls → Cls → Bool
  | .p, _ | _, .p | .r, .r => true
  | _, _ => false
def indep (os : Array Oper) (κ : Nat → Cls) : Bool :=
  let m := Region.before os
  (List.range os.size).all fun i => ((os.getD i default).after.toList.all fun e => !Region.binds .any e || decide (e.on < i)) && (List.range i).all fun j =>
    (m.getD i 0).testBit j || (clsFree (κ j) (κ i) && apart os (os.getD j default) (os.getD i default))
def ntOf (P : Program) (f : FuncId) : Nat := ((P.funcs[f]?).map (·.ntmps)).getD 0
def dstsOk (n : Nat) (os : Array Oper) : Bool := os.toList.all fun o => o.dst.toList.all fun d => decide (d < n)
def resFn (P : Program) (tm : Tm) (S : Sto) : ResultVar → Option PV
  | .tmp t => some (tm t)
  | .cell a t => match tiOf P t, S.cellsOf (tm a) with
    | some ti, some cs => ti.load cs
    | _, _ => none
def resL (P : Program) (tm : Tm) (S : Sto) : List ResultVar → Option (List PV)
  | [] => some []
  | r :: l => match resFn P tm S r, resL P tm S l with
    | some p, some ps => some (p :: ps)
    | _, _ => none
def resOf (P : Program) (f : FuncId) (tm : Tm) (S : Sto) : Option PV :=
  match P.funcs[f]? with
  | some fn => match resL P tm S fn.results.toList with
    | some [p] => some p
    | some ps => some (.tup ps)
    | none => none
  | none => none
inductive Ev (C : CallP) (P : Program) (f : FuncId) : List Item → Tm → Sto → PV → Sto → Prop
  | fin {tm : Tm} {S : Sto} {v : PV} (h : resOf P f tm S = some v) : Ev C P f [] tm S v S
  | ret {k : List Item} {tm : Tm} {S : Sto} {v : PV} (h : resOf P f tm S = some v) : Ev C P f (.code .ret :: k) tm S v S
  | skip {k : List Item} {tm : Tm} {S S' : Sto} {v : PV} (h : Ev C P f k tm S v S') : Ev C P f (.code .skip :: k) tm S v S'
  | label {l : Nat} {k : List Item} {tm : Tm} {S S' : Sto} {v : PV} (h : Ev C P f k tm S v S') : Ev C P f (.code (.label l) :: k) tm S v S'
  | inBlock {l : Nat} {k : List Item} {tm : Tm} {S S' : Sto} {v : PV} (h : Ev C P f k tm S v S') : Ev C P f (.inBlock l :: k) tm S v S'
  | inScope {c : Code} {k : List Item} {tm : Tm} {S S' : Sto} {v : PV} (h : Ev C P f k tm S v S') : Ev C P f (.inScope c :: k) tm S v S'
  | seq {a b : Code} {k : List Item} {tm : Tm} {S S' : Sto} {v : PV} (h : Ev C P f (.code a :: .code b :: k) tm S v S') : Ev C P f (.code (.seq a b) :: k) tm S v S'
  | cond {c : Operand} {a b : Code} {t : Bool} {k : List Item} {tm : Tm} {S S' : Sto} {v : PV} (hc : tm.opnd c = .lit (.bool t)) (h : Ev C P f (.code (if t then a else b) :: k) tm S v S') :
      Ev C P f (.code (.cond c a b) :: k) tm S v S'
  | block {l : Nat} {a : Code} {k : List Item} {tm : Tm} {S S' : Sto} {v : PV} (h : Ev C P f (.code a :: .inBlock l :: k) tm S v S') : Ev C P f (.code (.block l a) :: k) tm S v S'
  | scope {a : Code} {k : List Item} {tm : Tm} {S S' : Sto} {v : PV} (h : Ev C P f (.code a :: .inScope a :: k) tm S v S') : Ev C P f (.code (.scope a) :: k) tm S v S'
  | loop {a : Code} {k : List Item} {tm : Tm} {S S' : Sto} {v : PV} (h : Ev C P f (.code a :: .inLoop a :: k) tm S v S') : Ev C P f (.code (.loop a) :: k) tm S v S'
  | inLoop {a : Code} {k : List Item} {tm : Tm} {S S' : Sto} {v : PV} (h : Ev C P f (.code a :: .inLoop a :: k) tm S v S') : Ev C P f (.inLoop a :: k) tm S v S'
  | exit {l : Nat} {k k' : List Item} {tm : Tm} {S S' : Sto} {v : PV} (hk : exitTo l k = some k') (h : Ev C P f k' tm S v S') : Ev C P f (.code (.exit l) :: k) tm S v S'
  | goto {l : Nat} {k k' : List Item} {tm : Tm} {S S' : Sto} {v : PV} (hk : gotoIn l k = some k') (h : Ev C P f k' tm S v S') : Ev C P f (.code (.goto l) :: k) tm S v S'
  | region {id : Nat} {os : Array Oper} {draw : Bool} {k : List Item} {tm tm1 : Tm} {S S1 S' : Sto} {v : PV} (κ : Nat → Cls) (hd : dstsOk (ntOf P f) os = true) (hi : draw = true → indep os κ = true)
      (ho : Ops C P os κ (List.range os.size) tm S tm1 S1) (h : Ev C P f k tm1 S1 v S') : Ev C P f (.code (.region id os draw) :: k) tm S v S'
  /-- an object is written no more -/
  | freeze {k : List Item} {tm : Tm} {S S' : Sto} {v : PV} (i : Id) {o : Obj} (ho : S.obj i = some o) (h : Ev C P f k tm (S.set i { o with frz := true }) v S') : Ev C P f k tm S v S'
  /-- an object's cells as one sees them -/
  | seeC {k : List Item} {tm : Tm} {S S' : Sto} {v : PV} (i : Id) {o : Obj} {ds : List PV} (ho : S.obj i = some o) (hv : ViewL S true o.cells ds) (h : Ev C P f k tm (S.set i { o with cells := ds }) v S') : Ev C P f k tm S v S'
  /-- a temporary's value as one sees it -/
  | see {k : List Item} {tm : Tm} {S S' : Sto} {v : PV} (t : Tmp) {q : PV} (hv : View S true (tm t) q) (h : Ev C P f k (tm.put (some t) q) S v S') : Ev C P f k tm S v S'
def Enters (P : Program) (f : FuncId) (n : Nat) (c : Code) : Prop :=
  ∃ fn, P.funcs[f]? = some fn ∧ fn.body = some c ∧ n ≤ fn.ntmps ∧ (fn.name == "runtime.NumGoroutine") = false
def CallD (P : Program) : Nat → CallP
  | 0 => fun _ _ _ _ _ => False
  | d + 1 => fun f ps S r S' => ∃ c, Enters P f ps.length c ∧ Ev (CallD P d) P f [.code c] (Tm.of ps) S r S'
def Call (P : Program) : CallP := fun f ps S r S' => ∃ d, CallD P d f ps S r S'
end Go.Abs
end
section
namespace Go.Abs
open Go
variable {P : Program} {w : World} {S : Sto} {L : Id → Option Loc} {F K : Nat → Prop}
def Blk (S : Sto) (L : Id → Option Loc) (b : Nat) : Prop := ∃ i o ℓ, S.obj i = some o ∧ L i = some ℓ ∧ ℓ.b = b
theorem Rel.grow {F' : Nat → Prop} {p : PV} {v : Value} (h : Rel w F L p v) (hF : ∀ b, F b → F' b) : Rel w F' L p v := h.mono hF (fun _ _ => rfl) (fun _ _ h => h)
theorem RelA.grow {F' : Nat → Prop} {cs : List PV} {vs : List Value} (h : RelA w F L cs vs) (hF : ∀ b, F b → F' b) : RelA w F' L cs vs := h.mono fun _ _ r => r.grow hF
theorem Rel.plain {L' : Id → Option Loc} {p : PV} {v : Value} (h : Rel w F L p v) (hp : Plain p) : Rel w F L' p v := by
  induction h with
  | lit v => exact .lit v
  | sl b base cap vs hF hn hs hc hr ih =>
    cases hp with
    | sl n h => exact .sl b base cap vs hF hn hs hc (fun j c u e1 e2 => ih j c u e1 e2 (h c (List.mem_of_getElem? e1)))
  | wild a => exact .wild a
  | agg vs hs hr ih =>
    cases hp with
    | agg h => exact .agg vs hs (fun j c u e1 e2 => ih j c u e1 e2 (h c (List.mem_of_getElem? e1)))
  | tup vs hs hr ih =>
    cases hp with
    | tup h => exact .tup vs hs (fun j c u e1 e2 => ih j c u e1 e2 (h c (List.mem_of_getElem? e1)))
  | fel b base vs hF hs hc hr ih =>
    cases hp with
    | fel h => exact .fel b base vs hF hs hc (fun j c u e1 e2 => ih j c u e1 e2 (h c (List.mem_of_getElem? e1)))
  | loc => cases hp
  | ptr => cases hp
  | fn vs hs hr ih =>
    cases hp with
    | fn f h => exact .fn vs hs (fun j c u e1 e2 => ih j c u e1 e2 (h c (List.mem_of_getElem? e1)))
theorem Rel.scal {w' : World} {F' : Nat → Prop} {L' : Id → Option Loc} {p : PV} {v : Value} (h : Rel w F L p v) (hp : Scal p) : Rel w' F' L' p v := by
  induction h with
  | lit v => exact .lit v
  | agg vs hs hr ih =>
    cases hp with
    | agg h => exact .agg vs hs (fun j c u e1 e2 => ih j c u e1 e2 (h c (List.mem_of_getElem? e1)))
  | tup vs hs hr ih =>
    cases hp with
    | tup h => exact .tup vs hs (fun j c u e1 e2 => ih j c u e1 e2 (h c (List.mem_of_getElem? e1)))
  | sl => cases hp
  | wild => cases hp
  | fel => cases hp
  | loc => cases hp
  | ptr => cases hp
  | fn => cases hp
theorem View.scal {z : Bool} {p q : PV} (h : View S z p q) : Scal p → Scal q := by
  induction h with
  | refl p => exact id
  | @agg cs ds hl h ih =>
    intro hp
    cases hp with
    | agg hs =>
      refine .agg fun d hd => ?_
      obtain ⟨j, hj, rfl⟩ := List.mem_iff_getElem.1 hd
      have hj' : j < cs.length := by omega
      exact ih j cs[j] ds[j] (by simp) (by simp) (hs _ (List.getElem_mem hj'))
  | @tup cs ds hl h ih =>
    intro hp
    cases hp with
    | tup hs =>
      refine .tup fun d hd => ?_
      obtain ⟨j, hj, rfl⟩ := List.mem_iff_getElem.1 hd
      have hj' : j < cs.length := by omega
      exact ih j cs[j] ds[j] (by simp) (by simp) (hs _ (List.getElem_mem hj'))
  | loc => intro hp; cases hp
  | ptr => intro hp; cases hp
  | sl => intro hp; cases hp
  | fn => intro hp; cases hp
def Fv (S : Sto) (L : Id → Option Loc) (F : Nat → Prop) (z : Bool) (b : Nat) : Prop := F b ∨ (z = false ∧ Blk S L b)
theorem pw {G : Nat → Prop} {cs ds : List PV} {vs : List Value} (hA : RelA w F L cs vs) (hl : ds.length = cs.length)
    (h : ∀ (j : Nat) c d u, cs[j]? = some c → ds[j]? = some d → Rel w F L c u → Rel w G L d u) : RelA w G L ds vs := by
  refine ⟨by rw [hl]; exact hA.1, fun j d u hd hu => ?_⟩
  have hj : j < cs.length := by have := (List.getElem?_eq_some_iff.1 hd).1; omega
  exact h j cs[j] d u (by simp) hd (hA.2 j cs[j] u (by simp) hu)
theorem view_rel (hi : Inv w S L F K) {z : Bool} {p q : PV} (h : View S z p q) : ∀ {v : Value}, Rel w F L p v → Rel w (Fv S L F z) L q v := by
  induction h with
  | refl p => exact fun hr => hr.grow fun b hb => .inl hb
  | @loc i o off n cs ho hz hl h ih =>
    intro v hr
    cases hr with
    | @loc _ _ _ ℓ cap a hL hn ha hc =>
      obtain ⟨ℓ', c, e, hL', _, hb, _, _, ⟨vs, hvs, hcv⟩, hfz, _⟩ := hi.live i o ho
      obtain rfl := Option.some.inj (hL'.symm.trans hL)
      have hA := (hvs.drop off).take (n * o.es)
      have hds := pw (G := Fv S L F z) hA hl (fun j c d u e1 e2 r => ih j c d e1 e2 r)
      have hF : Fv S L F z ℓ'.b := by
        cases z with
        | true => exact .inl (hfz (hz rfl))
        | false => exact .inr ⟨rfl, i, o, _, ho, hL', rfl⟩
      rcases ha with rfl | ha
      · exact .slA hF hn hds (((HCells.of hb hcv).drop off).take _)
      · obtain rfl : n = 0 := by omega
        have hcs : cs = [] := List.eq_nil_of_length_eq_zero (by simpa using hl)
        subst hcs
        exact .slA hF hn (vs := []) .nil (fun j u hu => by simp at hu)
  | @ptr i o off cs ho hz hl h ih =>
    intro v hr
    cases hr with
    | @ptr _ _ ℓ hL =>
      obtain ⟨ℓ', c, e, hL', _, hb, _, _, ⟨vs, hvs, hcv⟩, hfz, _⟩ := hi.live i o ho
      obtain rfl := Option.some.inj (hL'.symm.trans hL)
      have hds := pw (G := Fv S L F z) (hvs.drop off) hl (fun j c d u e1 e2 r => ih j c d e1 e2 r)
      have hF : Fv S L F z ℓ'.b := by
        cases z with
        | true => exact .inl (hfz (hz rfl))
        | false => exact .inr ⟨rfl, i, o, _, ho, hL', rfl⟩
      exact .felA hF hds ((HCells.of hb hcv).drop off)
  | @sl cs ds n hl h ih =>
    intro v hr
    cases hr with
    | sl b base cap vs hF hn hs hc hrr =>
      exact .slA (.inl hF) hn (pw (G := Fv S L F z) ⟨hs, hrr⟩ hl (fun j c d u e1 e2 r => ih j c d e1 e2 r)) hc
    | wild a =>
      obtain rfl : ds = [] := List.eq_nil_of_length_eq_zero (by simpa using hl)
      exact .wild a
  | @agg cs ds hl h ih =>
    intro v hr
    cases hr with
    | agg vs hs hrr => exact .aggA (pw (G := Fv S L F z) ⟨hs, hrr⟩ hl (fun j c d u e1 e2 r => ih j c d e1 e2 r))
  | @tup cs ds hl h ih =>
    intro v hr
    cases hr with
    | tup vs hs hrr =>
      have := pw (G := Fv S L F z) ⟨hs, hrr⟩ hl (fun j c d u e1 e2 r => ih j c d e1 e2 r)
      exact .tup vs this.1 this.2
  | @fn f cs ds hl h ih =>
    intro v hr
    cases hr with
    | fn vs hs hrr =>
      have := pw (G := Fv S L F z) ⟨hs, hrr⟩ hl (fun j c d u e1 e2 r => ih j c d e1 e2 r)
      exact .fn vs this.1 this.2
theorem viewL_rel (hi : Inv w S L F K) {z : Bool} {cs ds : List PV} (h : ViewL S z cs ds) {vs : List Value} (hA : RelA w F L cs vs) : RelA w (Fv S L F z) L ds vs :=
  pw hA h.1 fun j c d _ e1 e2 r => view_rel hi (h.2 j c d e1 e2) r
theorem RelA.plain {L' : Id → Option Loc} {cs : List PV} {vs : List Value} (h : RelA w F L cs vs) (hp : ∀ p ∈ cs, Plain p) : RelA w F L' cs vs :=
  ⟨h.1, fun j c u e1 e2 => (h.2 j c u e1 e2).plain (hp c (List.mem_of_getElem? e1))⟩
theorem obj_lt (hi : Inv w S L F K) {i : Id} {o : Obj} {ℓ : Loc} (ho : S.obj i = some o) (hl : L i = some ℓ) : ℓ.b < w.heap.size := by
  obtain ⟨ℓ', c', e', hl', _, hb, _⟩ := hi.live i o ho
  obtain rfl := Option.some.inj (hl.symm.trans hl')
  rcases Nat.lt_or_ge ℓ.b w.heap.size with h | h
  · exact h
  · rw [Array.getElem?_eq_none h] at hb; cases hb
theorem blk_lt (hi : Inv w S L F K) {b : Nat} (h : Blk S L b) : b < w.heap.size := by
  obtain ⟨i, o, ℓ, ho, hl, rfl⟩ := h
  exact obj_lt hi ho hl
theorem Inv.after (hi : Inv w S L F K) {w' : World} (hos : w'.os = w.os) (htape : w'.tape = w.tape) (hout : w'.output = w.output) (hs : w.heap.size ≤ w'.heap.size)
    (hh : ∀ b, b < w.heap.size → w'.heap[b]? = w.heap[b]?) (G : Nat → Prop) (hG : ∀ b, G b → w.heap.size ≤ b ∧ b < w'.heap.size) :
    Inv w' S L (fun b => F b ∨ G b) K ∧ Ext w F L K w' (fun b => F b ∨ G b) L := by
  have hx : Ext w F L K w' (fun b => F b ∨ G b) L :=
    ⟨hos, htape, hout, hs, fun b hb => .inl hb, fun b hb => hh b (hi.fz b hb), fun _ _ h => h, fun b hb => hb.elim .inl fun hg => .inr (.inl (hG b hg).1), fun i ℓ h => .inr ⟨i, ℓ, h, rfl⟩⟩
  refine ⟨⟨fun i o ho => ?_, hi.apart, hi.fresh, fun b hb => ?_⟩, hx⟩
  · obtain ⟨ℓ, c, e, h1, h2, h3, h4, h5, ⟨vs, h6, h7⟩, h8, h9⟩ := hi.live i o ho
    have hlt := obj_lt hi ho h1
    refine ⟨ℓ, c, e, h1, h2, (hh _ hlt).trans h3, h4, h5, ⟨vs, h6.ext hx, h7⟩, fun hz => .inl (h8 hz), fun hz => ⟨fun hf => ?_, (h9 hz).2⟩⟩
    rcases hf with hf | hf
    · exact (h9 hz).1 hf
    · have := (hG _ hf).1; omega
  · rcases hb with (hb | hb) | hb
    · have := hi.fz b (.inl hb); omega
    · exact (hG b hb).2
    · have := hi.fz b (.inr hb); omega
theorem Inv.empty (hF : ∀ b, F b ∨ K b → b < w.heap.size) : Inv w .empty (fun _ => none) F K :=
  ⟨fun i o h => (by cases h), fun i j o o' ℓ ℓ' h => (by cases h), fun _ _ => rfl, hF⟩
theorem Inv.grow (hi : Inv w S L F K) {i : Id} {o : Obj} (ho : S.obj i = some o) {ℓ : Loc} (hl : L i = some ℓ) :
    Inv w (S.set i { o with frz := true }) L (fun b => F b ∨ b = ℓ.b) K ∧ Ext w F L K w (fun b => F b ∨ b = ℓ.b) L := by
  have hx : Ext w F L K w (fun b => F b ∨ b = ℓ.b) L :=
    ⟨rfl, rfl, rfl, Nat.le_refl _, fun b hb => .inl hb, fun _ _ => rfl, fun _ _ h => h, fun b hb => hb.elim .inl fun e => .inr (.inr ⟨i, ℓ, hl, e.symm⟩), fun i ℓ h => .inr ⟨i, ℓ, h, rfl⟩⟩
  have hobj : ∀ j, (S.set i { o with frz := true }).obj j = if j = i then some { o with frz := true } else S.obj j := fun j => by simp only [Sto.set, upd]
  refine ⟨⟨fun j q hq => ?_, fun j k q q' m m' hq hq' hz hm hm' hne => ?_, hi.fresh, fun b hb => ?_⟩, hx⟩
  · rw [hobj] at hq
    split at hq
    · rename_i hj; subst hj
      obtain rfl := Option.some.inj hq
      obtain ⟨ℓ', c, e, h1, h2, h3, h4, h5, ⟨vs, h6, h7⟩, h8, h9⟩ := hi.live j o ho
      obtain rfl := Option.some.inj (h1.symm.trans hl)
      exact ⟨ℓ', c, e, h1, h2, h3, h4, h5, ⟨vs, h6.ext hx, h7⟩, fun _ => .inr rfl, fun h => by cases h⟩
    · rename_i hj
      obtain ⟨m, c, e, h1, h2, h3, h4, h5, ⟨vs, h6, h7⟩, h8, h9⟩ := hi.live j q hq
      refine ⟨m, c, e, h1, h2, h3, h4, h5, ⟨vs, h6.ext hx, h7⟩, fun hz => .inl (h8 hz), fun hz => ⟨fun hf => ?_, (h9 hz).2⟩⟩
      rcases hf with hf | hf
      · exact (h9 hz).1 hf
      · exact hi.apart j i q o m ℓ hq ho hz h1 hl hj hf
  · rw [hobj] at hq hq'
    have old : ∀ {k : Id} {q : Obj}, (if k = i then some { o with frz := true } else S.obj k) = some q → ∃ q0, S.obj k = some q0 ∧ (q.frz = false → q0.frz = false) := fun {k q} h => by
      split at h
      · rename_i hk; subst hk
        obtain rfl := Option.some.inj h
        exact ⟨o, ho, fun h => by cases h⟩
      · exact ⟨q, h, fun h => h⟩
    obtain ⟨q0, hq0, hf⟩ := old hq
    obtain ⟨q1, hq1, _⟩ := old hq'
    exact hi.apart j k q0 q1 m m' hq0 hq1 (hf hz) hm hm' hne
  · rcases hb with (hb | hb) | hb
    · exact hi.fz b (.inl hb)
    · subst hb; exact obj_lt hi ho hl
    · exact hi.fz b (.inr hb)
theorem Inv.recell (hi : Inv w S L F K) {i : Id} {o : Obj} (ho : S.obj i = some o) {ds : List PV} (hl : ds.length = o.cells.length)
    (h : ∀ vs, RelA w F L o.cells vs → RelA w F L ds vs) : Inv w (S.set i { o with cells := ds }) L F K := by
  have hobj : ∀ j, (S.set i { o with cells := ds }).obj j = if j = i then some { o with cells := ds } else S.obj j := fun j => by simp only [Sto.set, upd]
  refine ⟨fun j q hq => ?_, fun j k q q' m m' hq hq' hz hm hm' hne => ?_, hi.fresh, hi.fz⟩
  · rw [hobj] at hq
    split at hq
    · rename_i hj; subst hj
      obtain rfl := Option.some.inj hq
      obtain ⟨ℓ', c, e, h1, h2, h3, h4, h5, ⟨vs, h6, h7⟩, h8, h9⟩ := hi.live j o ho
      exact ⟨ℓ', c, e, h1, h2, h3, h4, by simpa [hl] using h5, ⟨vs, h vs h6, h7⟩, h8, h9⟩
    · exact hi.live j q hq
  · rw [hobj] at hq hq'
    have old : ∀ {k : Id} {q : Obj}, (if k = i then some { o with cells := ds } else S.obj k) = some q → ∃ q0, S.obj k = some q0 ∧ (q.frz = false → q0.frz = false) := fun {k q} h => by
      split at h
      · rename_i hk; subst hk
        obtain rfl := Option.some.inj h
        exact ⟨o, ho, fun h => h⟩
      · exact ⟨q, h, fun h => h⟩
    obtain ⟨q0, hq0, hf⟩ := old hq
    obtain ⟨q1, hq1, _⟩ := old hq'
    exact hi.apart j k q0 q1 m m' hq0 hq1 (hf hz) hm hm' hne
end Go.Abs
end
section
namespace Go.Abs
open Go
variable {P : Program} {w : World} {S : Sto} {L : Id → Option Loc} {F K : Nat → Prop}
def Ent (P : Program) (f : FuncId) : Prop := ∃ fn c, P.funcs[f]? = some fn ∧ fn.body = some c ∧ (fn.name == "runtime.NumGoroutine") = false
def SoundC (P : Program) (C : CallP) : Prop := ∀ f ps S r S', C f ps S r S' → Ent P f ∧ ∀ (vals : Array Value) w L F K, RelA w F L ps vals.toList → Inv w S L F K →
  Calls P f vals w fun e w' => ∃ val L' F', e = .returned val ∧ Rel w' F' L' r val ∧ Inv w' S' L' F' K ∧ Ext w F L K w' F' L'
theorem want_sound {os : Array Oper} {tm : Tm} {a : Act} {o : Oper} {b : Bool} (ht : TmRel w F L tm a) (h : wantFn os tm o = some b) : Region.wanted o (yielded os a.tmps) = b := by
  unfold wantFn at h
  unfold Region.wanted
  split at h
  · rename_i hg
    simp only [hg]
    simpa using h
  · rename_i j want hg
    simp only [hg]
    split at h
    · rename_i d hd
      have hr := ht d
      simp only [yielded, hd, Option.bind_some]
      split at h
      · rename_i b' hb
        rw [hb] at hr
        have he := hr.lit_eq
        rw [Array.getD_eq_getD_getElem?] at he
        cases hx : a.tmps[d]? with
        | none => rw [hx] at he; cases he
        | some u =>
          rw [hx] at he
          obtain rfl : u = .bool b' := he
          obtain rfl := Option.some.inj h
          cases b' <;> cases want <;> rfl
      · rename_i vs hb
        rw [hb] at hr
        have he := hr.lit_eq
        rw [Array.getD_eq_getD_getElem?] at he
        obtain rfl := Option.some.inj h
        cases hx : a.tmps[d]? with
        | none => rfl
        | some u =>
          rw [hx] at he
          obtain rfl : u = .tuple vs := he
          rfl
      · cases h
    · cases h
theorem calleeOf_rel {p : PV} {v : Value} {f : FuncId} {cs : List PV} (hr : Rel w F L p v) (h : calleeOf p = some (f, cs)) : ∃ vs : Array Value, v = .func (.func f) #[] vs ∧ RelA w F L cs vs.toList := by
  cases hr with
  | fn vs hs hrr =>
    simp only [calleeOf, Option.some.injEq, Prod.mk.injEq] at h
    obtain ⟨rfl, rfl⟩ := h
    exact ⟨vs, rfl, hs, hrr⟩
  | lit v =>
    unfold calleeOf at h
    split at h
    · rename_i hq; cases hq
    · rename_i f' a b hq
      obtain rfl : v = .func (.func f') a b := by injection hq
      split at h
      · rename_i ha
        simp only [Option.some.injEq, Prod.mk.injEq] at h
        obtain ⟨rfl, rfl⟩ := h
        obtain rfl : a = #[] := Array.eq_empty_of_size_eq_zero ha
        exact ⟨b, rfl, RelA.lits _⟩
      · cases h
    · cases h
  | sl => simp [calleeOf] at h
  | wild => simp [calleeOf] at h
  | agg => simp [calleeOf] at h
  | tup => simp [calleeOf] at h
  | fel => simp [calleeOf] at h
  | loc => simp [calleeOf] at h
  | ptr => simp [calleeOf] at h
theorem run_call {ev : Operand → Value} {o : Oper} {x : Operand} {xs : Array Operand} {ts : Array TypeId} {f : FuncId} {vs : Array Value} (ho : o.op = .call ⟨.value x, xs, ts⟩) (hx : ev x = .func (.func f) #[] vs) (he : Ent P f) :
    (execOp ev o).run P w = .ok (.enter f (xs.map ev ++ vs)) w := by
  obtain ⟨fn, c, h1, h2, h3⟩ := he
  obtain ⟨dst, op, type, pos, after, guard⟩ := o
  obtain rfl : op = _ := ho
  have h4 : ¬ fn.body = none := by rw [h2]; simp
  have h5 : ¬ fn.name = "runtime.NumGoroutine" := by simpa using h3
  simp [execOp, resolve, hx, Deferred.ofValue, invoke, callFunc, h1, h5, h4]
theorem RelA.maps {ρ : Operand → PV} {ev : Operand → Value} (hr : ∀ x, Rel w F L (ρ x) (ev x)) (l : List Operand) : RelA w F L (l.map ρ) (l.map ev) := by
  refine ⟨by simp, fun j c u hc hu => ?_⟩
  simp only [List.getElem?_map, Option.map_eq_some_iff] at hc hu
  obtain ⟨x, hx, rfl⟩ := hc
  obtain ⟨y, hy, rfl⟩ := hu
  obtain rfl : x = y := by rw [hx] at hy; exact Option.some.inj hy
  exact hr x
def After (P : Program) (os : Array Oper) (Q : Exit → Act → World → Prop) (rest : List Nat) (o : Oper) (a : Act) (w : World) (L : Id → Option Loc) (F K : Nat → Prop) (v : PV) (S1 : Sto) : Prop :=
  ∀ w' L' F' u, Rel w' F' L' v u → Inv w' S1 L' F' K → Ext w F L K w' F' L' → wpOps P os Q rest (a.put o.dst u) w'
section
variable {os : Array Oper} {Q : Exit → Act → World → Prop} {rest : List Nat} {i : Nat} {o : Oper} {a : Act}
theorem wp_cons_value (ho : os[i]? = some o) (hw : Region.wanted o (yielded os a.tmps) = true) {u : Value} {w' : World} (h : (execOp a.eval o).run P w = .ok (.value u) w') (hn : wpOps P os Q rest (a.put o.dst u) w') :
    wpOps P os Q (i :: rest) a w := by
  simp only [wpOps, ho, hw, if_true]
  exact .inl (by simp only [Oper.wp, h, Oper.upon]; exact hn)
theorem wp_cons_skip (ho : os[i]? = some o) (hw : Region.wanted o (yielded os a.tmps) = true) {w' : World} (h : (execOp a.eval o).run P w = .ok .skip w') (hn : wpOps P os Q rest (a.put o.dst Go.undef) w') :
    wpOps P os Q (i :: rest) a w := by
  simp only [wpOps, ho, hw, if_true]
  exact .inl (by simp only [Oper.wp, h, Oper.upon]; exact hn)
theorem wp_cons_not (ho : os[i]? = some o) (hw : Region.wanted o (yielded os a.tmps) = false) (hn : wpOps P os Q rest (a.put o.dst Go.undef) w) :
    wpOps P os Q (i :: rest) a w := by
  simp only [wpOps, ho, hw]
  exact hn
theorem wp_cons_call (ho : os[i]? = some o) (hw : Region.wanted o (yielded os a.tmps) = true) {f : FuncId} {args : Array Value} (h : (execOp a.eval o).run P w = .ok (.enter f args) w)
    (hn : Calls P f args w fun e w' => ∃ u, e = .returned u ∧ wpOps P os Q rest (a.put o.dst u) w') : wpOps P os Q (i :: rest) a w := by
  simp only [wpOps, ho, hw, if_true]
  refine .inl ?_
  simp only [Oper.wp, h, Oper.upon]
  refine hn.mono fun e w' he => ?_
  obtain ⟨u, rfl, hq⟩ := he
  exact hq
theorem up_ge (g : Nat → Nat) (i : Id) : ¬ (Id.up g i).g < g (Id.up g i).s := by simp only [Id.up]; omega
theorem up_sub (g : Nat → Nat) (i : Id) : (⟨(Id.up g i).s, (Id.up g i).g - g (Id.up g i).s⟩ : Id) = i := by
  cases i; simp only [Id.up, Id.mk.injEq, true_and]; omega
theorem up_of (g : Nat → Nat) {i : Id} (h : ¬ i.g < g i.s) : Id.up g ⟨i.s, i.g - g i.s⟩ = i := by
  cases i; simp only [Id.up, Id.mk.injEq, true_and] at h ⊢; omega
theorem renL_get {g : Nat → Nat} {cs : List PV} {j : Nat} {c : PV} (h : (renL g cs)[j]? = some c) : ∃ d, cs[j]? = some d ∧ c = d.ren g := by
  rw [renL_eq, List.getElem?_map, Option.map_eq_some_iff] at h
  obtain ⟨d, h1, h2⟩ := h
  exact ⟨d, h1, h2.symm⟩
theorem renL_length (g : Nat → Nat) (cs : List PV) : (renL g cs).length = cs.length := by rw [renL_eq, List.length_map]
theorem Rel.ren {w' : World} {F F' : Nat → Prop} {L2 L' : Id → Option Loc} {g : Nat → Nat} (hL : ∀ i ℓ, L2 i = some ℓ → L' (Id.up g i) = some ℓ) {p : PV} {v : Value} (h : Rel w' F L2 p v) : Own p → Rel w' F' L' (p.ren g) v := by
  induction h with
  | lit v => intro _; exact .lit v
  | sl => intro h; cases h
  | wild => intro h; cases h
  | fel => intro h; cases h
  | fn => intro h; cases h
  | agg vs hs hr ih =>
    intro h; cases h with
    | agg h =>
      simp only [PV.ren]
      refine .agg vs (by rw [renL_length]; exact hs) fun j c u e1 e2 => ?_
      obtain ⟨d, h1, rfl⟩ := renL_get e1
      exact ih j d u h1 e2 (h d (List.mem_of_getElem? h1))
  | tup vs hs hr ih =>
    intro h; cases h with
    | tup h =>
      simp only [PV.ren]
      refine .tup vs (by rw [renL_length]; exact hs) fun j c u e1 e2 => ?_
      obtain ⟨d, h1, rfl⟩ := renL_get e1
      exact ih j d u h1 e2 (h d (List.mem_of_getElem? h1))
  | loc cap o h1 h2 h3 h4 => intro _; simp only [PV.ren]; exact .loc cap o (hL _ _ h1) h2 h3 h4
  | ptr h1 => intro _; simp only [PV.ren]; exact .ptr (hL _ _ h1)
theorem step_sound {C : CallP} (hC : SoundC P C) {κ : Cls} {tm : Tm} {v : PV} {S1 : Sto} (ho : os[i]? = some o) (h : Step C P os κ o tm S v S1) (ht : TmRel w F L tm a) (hi : Inv w S L F K)
    (hn : After P os Q rest o a w L F K v S1) : wpOps P os Q (i :: rest) a w := by
  have hops := ht.opnd
  cases h with
  | skp h => exact wp_cons_not ho (want_sound ht h) (hn w L F _ (.lit _) hi (.refl _ _ _ _))
  | oneP hw h =>
    obtain ⟨w', L', u, x, h1, h2, h3, h4, h5⟩ := op_sound (P := P) o _ hops hi (h _)
    rcases h2 with rfl | ⟨rfl, rfl⟩
    · exact wp_cons_value ho (want_sound ht hw) h1 (hn w' L' F u h3 h4 h5)
    · exact wp_cons_skip ho (want_sound ht hw) h1 (hn w' L' F _ h3 h4 h5)
  | one hw hk h =>
    obtain ⟨w', L', u, x, h1, h2, h3, h4, h5⟩ := op_sound (P := P) o _ hops hi h
    rcases h2 with rfl | ⟨rfl, rfl⟩
    · exact wp_cons_value ho (want_sound ht hw) h1 (hn w' L' F u h3 h4 h5)
    · exact wp_cons_skip ho (want_sound ht hw) h1 (hn w' L' F _ h3 h4 h5)
  | @callP S' x xs ts f cs ps r q hw hk hop hc hv hp h hr hq =>
    obtain ⟨hE, hS⟩ := hC _ _ _ _ _ h
    obtain ⟨vs, hx, hcs⟩ := calleeOf_rel (hops x) hc
    have hargs : RelA w F L (xs.toList.map tm.opnd ++ cs) (xs.map a.eval ++ vs).toList := by
      rw [Array.toList_append, Array.toList_map]
      exact (RelA.maps hops _).append hcs
    have hps : RelA w F (fun _ => none) ps (xs.map a.eval ++ vs).toList :=
      ((viewL_rel hi hv hargs).grow fun b hb => hb.elim id fun h => by cases h.1).plain hp
    have h0 : Inv w .empty (fun _ => none) F (fun b => b < w.heap.size) := Inv.empty fun b hb => hb.elim (fun hb => hi.fz b (.inl hb)) id
    refine wp_cons_call ho (want_sound ht hw) (run_call hop hx hE) ((hS _ w _ F _ hps h0).mono fun e w' he => ?_)
    obtain ⟨val, L2, F2, rfl, hrv, hi2, hx2⟩ := he
    refine ⟨val, rfl, ?_⟩
    obtain ⟨g1, g2⟩ := hi.after hx2.os hx2.tape hx2.output hx2.size (fun b hb => hx2.heap b (.inr hb)) (fun b => w.heap.size ≤ b ∧ b < w'.heap.size) (fun b hb => hb)
    refine hn w' L _ val ?_ g1 g2
    refine ((view_rel hi2 hr hrv).grow fun b hb => ?_).plain hq
    rcases hb with hb | ⟨_, hb⟩
    · rcases hx2.new b hb with h | h | ⟨i, ℓ, h, _⟩
      · exact .inl h
      · exact .inr ⟨h, hi2.fz b (.inl hb)⟩
      · cases h
    · have hlt := blk_lt hi2 hb
      obtain ⟨j, ob, ℓ, hob, hl, rfl⟩ := hb
      obtain ⟨ℓ', _, _, hl', _, _, _, _, _, k1, k2⟩ := hi2.live j ob hob
      obtain rfl := Option.some.inj (hl.symm.trans hl')
      cases hz : ob.frz with
      | true =>
        rcases hx2.new _ (k1 hz) with h | h | ⟨i, ℓ, h, _⟩
        · exact .inl h
        · exact .inr ⟨h, hlt⟩
        · cases h
      | false => exact .inr ⟨Nat.le_of_not_lt (k2 hz).2, hlt⟩
  | @callB S' x xs ts f cs ps r hw hk hop hc hv hp h hr =>
    obtain ⟨hE, hS⟩ := hC _ _ _ _ _ h
    obtain ⟨vs, hx, hcs⟩ := calleeOf_rel (hops x) hc
    have hargs : RelA w F L (xs.toList.map tm.opnd ++ cs) (xs.map a.eval ++ vs).toList := by
      rw [Array.toList_append, Array.toList_map]
      exact (RelA.maps hops _).append hcs
    have hps : RelA w (Fv S L F false) (fun _ => none) ps (xs.map a.eval ++ vs).toList := (viewL_rel hi hv hargs).plain hp
    have h0 : Inv w .empty (fun _ => none) (Fv S L F false) (fun b => b < w.heap.size) := Inv.empty fun b hb => by
      rcases hb with (hb | hb) | hb
      · exact hi.fz b (.inl hb)
      · exact blk_lt hi hb.2
      · exact hb
    refine wp_cons_call ho (want_sound ht hw) (run_call hop hx hE) ((hS _ w _ _ _ hps h0).mono fun e w' he => ?_)
    obtain ⟨val, L2, F2, rfl, hrv, hi2, hx2⟩ := he
    refine ⟨val, rfl, ?_⟩
    obtain ⟨g1, g2⟩ := hi.after hx2.os hx2.tape hx2.output hx2.size (fun b hb => hx2.heap b (.inr hb)) (fun _ => False) (fun b hb => hb.elim)
    exact hn w' L _ val (hrv.scal hr) g1 g2
  | @callA S' x xs ts f cs ps ds j ob off n z hw hk hop hc hv hp h hob hz hoff hd hpl hs =>
    obtain ⟨hE, hS⟩ := hC _ _ _ _ _ h
    obtain ⟨vs, hx, hcs⟩ := calleeOf_rel (hops x) hc
    have hargs : RelA w F L (xs.toList.map tm.opnd ++ cs) (xs.map a.eval ++ vs).toList := by
      rw [Array.toList_append, Array.toList_map]
      exact (RelA.maps hops _).append hcs
    have hps : RelA w (Fv S L F z) (fun _ => none) ps (xs.map a.eval ++ vs).toList := (viewL_rel hi hv hargs).plain hp
    have h0 : Inv w .empty (fun _ => none) (Fv S L F z) (fun b => b < w.heap.size) := Inv.empty fun b hb => by
      rcases hb with (hb | hb) | hb
      · exact hi.fz b (.inl hb)
      · exact blk_lt hi hb.2
      · exact hb
    refine wp_cons_call ho (want_sound ht hw) (run_call hop hx hE) ((hS _ w _ _ _ hps h0).mono fun e w' he => ?_)
    obtain ⟨val, L2, F2, rfl, hrv, hi2, hx2⟩ := he
    refine ⟨val, rfl, ?_⟩
    cases hrv with
    | @loc _ _ _ ℓ cap ad hL hnc ha hcap =>
    obtain ⟨ℓ', c, e, hL', hes, hb, hcs', hlen, ⟨us, hus, hcu⟩, _, hown⟩ := hi2.live j ob hob
    obtain rfl := Option.some.inj (hL'.symm.trans hL)
    obtain ⟨n1, n2⟩ := hown hz
    have hbl := obj_lt hi2 hob hL
    have hbg : w.heap.size ≤ ℓ'.b := Nat.le_of_not_lt n2
    -- the caller's objects, the new blocks but this one frozen
    obtain ⟨g1, g2⟩ := hi.after hx2.os hx2.tape hx2.output hx2.size (fun b hb => hx2.heap b (.inr hb)) (fun b => (w.heap.size ≤ b ∧ b < w'.heap.size) ∧ b ≠ ℓ'.b) (fun b hb => hb.1)
    let s := o.dst.getD 0
    let F' : Nat → Prop := fun b => F b ∨ ((w.heap.size ≤ b ∧ b < w'.heap.size) ∧ b ≠ ℓ'.b)
    let L' := upd L (S.next s) (some ⟨ℓ'.b, ℓ'.base + off, ℓ'.es, ℓ'.sz⟩)
    have hfresh : L (S.next s) = none := hi.fresh _ (Nat.le_refl _)
    have hLL : ∀ i ℓ, L i = some ℓ → L' i = some ℓ := fun i ℓ h => by
      have : i ≠ S.next s := fun e => by rw [e, hfresh] at h; cases h
      rw [show L' i = L i from upd_ne L _ this]; exact h
    have hself : L' (S.next s) = some ⟨ℓ'.b, ℓ'.base + off, ℓ'.es, ℓ'.sz⟩ := upd_same _ _ _
    have hcells : RelA w' F' L' ds (us.drop off) := by
      have hdel := hi2.del j
      have hA := viewL_rel hdel hd (hus.drop off)
      cases z with
      | true =>
        refine (hA.grow fun b hb => ?_).plain hpl
        rcases hb with hb | ⟨_, hb⟩
        · have hne : b ≠ ℓ'.b := fun e => n1 (e ▸ hb)
          rcases hx2.new b hb with h | h | ⟨i, ℓ, h, _⟩
          · rcases h with h | h
            · exact .inl h
            · cases h.1
          · exact .inr ⟨⟨h, hi2.fz b (.inl hb)⟩, hne⟩
          · cases h
        · have hlt := blk_lt hdel hb
          obtain ⟨j', ob', ℓ2, hob', hl2, rfl⟩ := hb
          obtain ⟨q1, q2⟩ := del_obj hob'
          have hne : ℓ2.b ≠ ℓ'.b := fun e => hi2.apart j j' ob ob' ℓ' ℓ2 hob q1 hz hL hl2 (fun e => q2 e.symm) e.symm
          obtain ⟨ℓ3, _, _, hl3, _, _, _, _, _, k1, k2⟩ := hi2.live j' ob' q1
          obtain rfl := Option.some.inj (hl2.symm.trans hl3)
          cases hz' : ob'.frz with
          | true =>
            rcases hx2.new _ (k1 hz') with h | h | ⟨i, ℓ, h, _⟩
            · rcases h with h | h
              · exact .inl h
              · cases h.1
            · exact .inr ⟨⟨h, hlt⟩, hne⟩
            · cases h
          | false => exact .inr ⟨⟨Nat.le_of_not_lt (k2 hz').2, hlt⟩, hne⟩
      | false =>
        refine ⟨hA.1, fun k d u e1 e2 => (hA.2 k d u e1 e2).scal ?_⟩
        have hk : k < (ob.cells.drop off).length := by have := (List.getElem?_eq_some_iff.1 e1).1; have := hd.1; omega
        exact (hd.2 k _ d (List.getElem?_eq_getElem hk) e1).scal (hs rfl _ (List.mem_of_mem_drop (List.getElem_mem hk)))
    have hxx : Ext w F L K w' F' L' := ⟨g2.os, g2.tape, g2.output, g2.size, g2.fz, g2.heap, hLL, fun b hb => g2.new b hb |>.imp id (fun h => h.imp id fun ⟨i, ℓ, h1, h2⟩ => ⟨i, ℓ, h1, h2⟩), fun m k hm => by
      by_cases e : m = S.next s
      · subst e
        obtain rfl := Option.some.inj (hself.symm.trans hm)
        exact .inl hbg
      · exact .inr ⟨m, k, (upd_ne L _ e).symm.trans hm, rfl⟩⟩
    have hobj : ∀ j, (S.add s ⟨ds, ob.es, false⟩).obj j = if j = S.next s then some ⟨ds, ob.es, false⟩ else S.obj j := fun j => by simp only [Sto.add, upd]
    have e2 : ∀ {m : Id} {k : Loc}, L' m = some k → m ≠ S.next s → L m = some k := fun hm e => by
      rw [← hm]; exact (upd_ne L _ e).symm
    have hK : ¬ K ℓ'.b := fun hk => by have := hi.fz _ (.inr hk); omega
    have hF : ¬ F' ℓ'.b := fun hf => by
      rcases hf with hf | hf
      · have := hi.fz _ (.inl hf); omega
      · exact hf.2 rfl
    refine hn w' L' F' _ (Rel.loc (ℓ := ⟨ℓ'.b, ℓ'.base + off, ℓ'.es, ℓ'.sz⟩) cap ad hself hnc ?_ ?_) ⟨fun m q hq => ?_, fun m k q q' ℓ1 ℓ2 hq hq' hqz hm hm' hne => ?_, fun m hg => ?_, g1.fz⟩ hxx
    · rcases ha with ha | ha
      · left; simpa using ha
      · exact .inr ha
    · simpa using hcap
    · rw [hobj] at hq
      split at hq
      · rename_i hm; subst hm
        obtain rfl := Option.some.inj hq
        refine ⟨_, c, e, hself, hes, hb, hcs', by have := hd.1; simp at this ⊢; omega, ⟨us.drop off, hcells, fun k u hu => ?_⟩, by simp, fun _ => ⟨hF, hK⟩⟩
        rw [List.getElem?_drop] at hu
        have := hcu _ _ hu
        rwa [← Nat.add_assoc] at this
      · obtain ⟨m', c2, e2, h1, h2, h3, h4, h5, ⟨us', h6, h7⟩, h8, h9⟩ := g1.live m q hq
        exact ⟨m', c2, e2, hLL _ _ h1, h2, h3, h4, h5, ⟨us', h6.mono fun _ _ r => r.mono (fun _ h => h) (fun _ _ => rfl) hLL, h7⟩, h8, h9⟩
    · rw [hobj] at hq hq'
      split at hq <;> split at hq'
      · rename_i h1 h2; exact absurd (h1.trans h2.symm) hne
      · rename_i h1 h2
        subst h1
        obtain rfl := Option.some.inj (hself.symm.trans hm)
        have := obj_lt hi hq' (e2 hm' h2)
        show ℓ'.b ≠ ℓ2.b
        omega
      · rename_i h1 h2
        subst h2
        obtain rfl := Option.some.inj (hself.symm.trans hm')
        have := obj_lt hi hq (e2 hm h1)
        show ℓ1.b ≠ ℓ'.b
        omega
      · rename_i h1 h2
        exact hi.apart m k q q' ℓ1 ℓ2 hq hq' hqz (e2 hm h1) (e2 hm' h2) hne
    · have hne : m ≠ S.next s := fun e => by
        subst e
        have e1 : (S.add s ⟨ds, ob.es, false⟩).gen s = S.gen s + 1 := by simp [Sto.add]
        have e3 : (S.add s ⟨ds, ob.es, false⟩).gen s ≤ S.gen s := hg
        omega
      rw [show L' m = L m from upd_ne L _ hne]
      refine hi.fresh m ?_
      simp only [Sto.add] at hg
      split at hg
      · rename_i h; rw [h]; omega
      · exact hg
  | @callG S' x xs ts f cs ps r keep hw hk hop hc hv hp h hkeep hr =>
    obtain ⟨hE, hS⟩ := hC _ _ _ _ _ h
    obtain ⟨vs, hx, hcs⟩ := calleeOf_rel (hops x) hc
    have hargs : RelA w F L (xs.toList.map tm.opnd ++ cs) (xs.map a.eval ++ vs).toList := by
      rw [Array.toList_append, Array.toList_map]
      exact (RelA.maps hops _).append hcs
    have hps : RelA w (Fv S L F false) (fun _ => none) ps (xs.map a.eval ++ vs).toList := (viewL_rel hi hv hargs).plain hp
    have h0 : Inv w .empty (fun _ => none) (Fv S L F false) (fun b => b < w.heap.size) := Inv.empty fun b hb => by
      rcases hb with (hb | hb) | hb
      · exact hi.fz b (.inl hb)
      · exact blk_lt hi hb.2
      · exact hb
    refine wp_cons_call ho (want_sound ht hw) (run_call hop hx hE) ((hS _ w _ _ _ hps h0).mono fun e w' he => ?_)
    obtain ⟨val, L2, F2, rfl, hrv, hi2, hx2⟩ := he
    refine ⟨val, rfl, ?_⟩
    obtain ⟨g1, g2⟩ := hi.after hx2.os hx2.tape hx2.output hx2.size (fun b hb => hx2.heap b (.inr hb)) (fun _ => False) (fun b hb => hb.elim)
    let L' : Id → Option Loc := fun i => if i.g < S.gen i.s then L i else L2 ⟨i.s, i.g - S.gen i.s⟩
    have hup : ∀ i ℓ, L2 i = some ℓ → L' (Id.up S.gen i) = some ℓ := fun i ℓ h => by
      show (if _ then _ else _) = _
      rw [if_neg (up_ge S.gen i), up_sub]; exact h
    have hLL : ∀ i ℓ, L i = some ℓ → L' i = some ℓ := fun i ℓ h => by
      show (if _ then _ else _) = _
      by_cases e : i.g < S.gen i.s
      · rw [if_pos e]; exact h
      · rw [hi.fresh i (by omega)] at h; cases h
    have hnew : ∀ i ℓ, L2 i = some ℓ → w.heap.size ≤ ℓ.b := fun i ℓ h => by
      rcases hx2.own i ℓ h with h | ⟨j, m, h, _⟩
      · exact h
      · cases h
    have hxx : Ext w F L K w' (fun b => F b ∨ False) L' := ⟨g2.os, g2.tape, g2.output, g2.size, g2.fz, g2.heap, hLL, g2.new, fun m k hm => by
      have hm : (if m.g < S.gen m.s then L m else L2 ⟨m.s, m.g - S.gen m.s⟩) = some k := hm
      by_cases e : m.g < S.gen m.s
      · rw [if_pos e] at hm; exact .inr ⟨m, k, hm, rfl⟩
      · rw [if_neg e] at hm; exact .inl (hnew _ _ hm)⟩
    have hobj : ∀ i o, (S.merge S' keep).obj i = some o → (i.g < S.gen i.s ∧ S.obj i = some o) ∨ (¬ i.g < S.gen i.s ∧ ∃ ob, S'.obj ⟨i.s, i.g - S.gen i.s⟩ = some ob ∧ ob.frz = false ∧ (∀ c ∈ ob.cells, Own c) ∧ o = { ob with cells := renL S.gen ob.cells }) := fun i o h => by
      simp only [Sto.merge] at h
      by_cases e : i.g < S.gen i.s
      · rw [if_pos e] at h; exact .inl ⟨e, h⟩
      · rw [if_neg e] at h
        split at h
        · rename_i hk
          obtain ⟨ob, h1, h2, h3⟩ := hkeep _ hk
          rw [h1, Option.map_some, Option.some.injEq] at h
          exact .inr ⟨e, ob, h1, h2, h3, h.symm⟩
        · cases h
    have hLo : ∀ {i : Id} {ℓ : Loc}, L' i = some ℓ → i.g < S.gen i.s → L i = some ℓ := fun {i ℓ} h e => by
      have h : (if i.g < S.gen i.s then L i else L2 ⟨i.s, i.g - S.gen i.s⟩) = some ℓ := h
      rwa [if_pos e] at h
    have hLn : ∀ {i : Id} {ℓ : Loc}, L' i = some ℓ → ¬ i.g < S.gen i.s → L2 ⟨i.s, i.g - S.gen i.s⟩ = some ℓ := fun {i ℓ} h e => by
      have h : (if i.g < S.gen i.s then L i else L2 ⟨i.s, i.g - S.gen i.s⟩) = some ℓ := h
      rwa [if_neg e] at h
    refine hn w' L' _ val (hrv.ren hup hr) ⟨fun m q hq => ?_, fun m k q q' ℓ1 ℓ2 hq hq' hqz hm hm' hne => ?_, fun m hg => ?_, g1.fz⟩ hxx
    · rcases hobj m q hq with ⟨e, hq⟩ | ⟨e, ob, h1, h2, h3, rfl⟩
      · obtain ⟨m', c2, e2, h1, h2, h3, h4, h5, ⟨us', h6, h7⟩, h8, h9⟩ := g1.live m q hq
        exact ⟨m', c2, e2, hLL _ _ h1, h2, h3, h4, h5, ⟨us', h6.mono fun _ _ r => r.mono (fun _ h => h) (fun _ _ => rfl) hLL, h7⟩, h8, h9⟩
      · obtain ⟨m', c2, e2, k1, k2, k3, k4, k5, ⟨us', k6, k7⟩, _, k9⟩ := hi2.live _ _ h1
        have hlm : L' m = some m' := by rw [← up_of S.gen e]; exact hup _ _ k1
        refine ⟨m', c2, e2, hlm, k2, k3, k4, by simp only [renL_length]; exact k5, ⟨us', ⟨by simp only [renL_length]; exact k6.1, fun j c u e1 e3 => ?_⟩, k7⟩, fun h => (by rw [show ob.frz = true from h] at h2; cases h2), fun _ => ⟨fun hf => ?_, fun hk => ?_⟩⟩
        · obtain ⟨d, h4, rfl⟩ := renL_get e1
          exact (k6.2 j d u h4 e3).ren hup (h3 d (List.mem_of_getElem? h4))
        · have := hi.fz _ (.inl (hf.elim id False.elim)); have := hnew _ _ k1; omega
        · have := hi.fz _ (.inr hk); have := hnew _ _ k1; omega
    · rcases hobj m q hq with ⟨e, hq⟩ | ⟨e, ob, h1, h2, h3, rfl⟩ <;> rcases hobj k q' hq' with ⟨e', hq'⟩ | ⟨e', ob', h1', h2', h3', rfl⟩
      · exact hi.apart m k q q' ℓ1 ℓ2 hq hq' hqz (hLo hm e) (hLo hm' e') hne
      · have := obj_lt hi hq (hLo hm e); have := hnew _ _ (hLn hm' e'); omega
      · have := obj_lt hi hq' (hLo hm' e'); have := hnew _ _ (hLn hm e); omega
      · refine hi2.apart _ _ ob ob' ℓ1 ℓ2 h1 h1' h2 (hLn hm e) (hLn hm' e') fun h => hne ?_
        rw [← up_of S.gen e, ← up_of S.gen e', h]
    · simp only [Sto.merge] at hg
      show (if _ then _ else _) = _
      rw [if_neg (by omega)]
      exact hi2.fresh _ (by simp only; omega)
  | callS hw hk hop hc h =>
    rename_i xo xs ts f cs
    obtain ⟨hE, hS⟩ := hC _ _ _ _ _ h
    obtain ⟨vs, hx, hcs⟩ := calleeOf_rel (hops xo) hc
    have hargs : RelA w F L (xs.toList.map tm.opnd ++ cs) (xs.map a.eval ++ vs).toList := by
      rw [Array.toList_append, Array.toList_map]
      exact (RelA.maps hops _).append hcs
    refine wp_cons_call ho (want_sound ht hw) (run_call hop hx hE) ((hS _ w _ _ _ hargs hi).mono fun e w' he => ?_)
    obtain ⟨val, L2, F2, rfl, hrv, hi2, hx2⟩ := he
    exact ⟨val, rfl, hn w' L2 F2 val hrv hi2 hx2⟩
end
end Go.Abs
end
section
namespace Go.Abs
open Go
variable {C : CallP} {P : Program} {os : Array Oper}
theorem opnd_congr {tm tm' : Tm} {l : List Operand} (h : ∀ t ∈ tmpsOf l, tm' t = tm t) : ∀ x ∈ l, tm'.opnd x = tm.opnd x := by
  intro x hx
  cases x with
  | tmp t => exact h t (List.mem_filterMap.2 ⟨_, hx, rfl⟩)
  | _ => rfl
theorem opFn_congr {s : Nat} {ρ ρ' : Operand → PV} {S : Sto} {op : Op} (h : ∀ x ∈ op.operands.toList, ρ' x = ρ x) : opFn P s ρ' S op = opFn P s ρ S op := by
  have optL : ∀ (o : Option Operand), (∀ x ∈ o.toArray.toList, ρ' x = ρ x) → o.map ρ' = o.map ρ := fun o ho => by
    cases o with
    | none => rfl
    | some x => simp [ho x (by simp)]
  have parts : ∀ (ps : Array (Nat × Operand)), (∀ x ∈ ps.toList.map (·.2), ρ' x = ρ x) → (ps.toList.map fun (i, x) => (i, ρ' x)) = (ps.toList.map fun (i, x) => (i, ρ x)) := fun ps hp => by
    refine List.map_congr_left fun y hy => ?_
    have := hp y.2 (List.mem_map.2 ⟨y, hy, rfl⟩)
    simp [this]
  have lists : ∀ (xs : List Operand), (∀ x ∈ xs, ρ' x = ρ x) → xs.map ρ' = xs.map ρ := fun xs hx => List.map_congr_left hx
  cases op with
  | move x => simp only [opFn, h x (by simp [Op.operands])]
  | assign x => simp only [opFn, h x (by simp [Op.operands])]
  | pick c a b => simp only [opFn, h c (by simp [Op.operands]), h a (by simp [Op.operands]), h b (by simp [Op.operands])]
  | alloc e => rfl
  | box e x => simp only [opFn, h x (by simp [Op.operands])]
  | build t ps =>
    have := parts ps (fun x hx => h x (by simpa [Op.operands] using hx))
    simp only [opFn, this]
  | buildSlice t n ps =>
    have := parts ps (fun x hx => h x (by simpa [Op.operands] using hx))
    simp only [opFn, this]
  | load t a => simp only [opFn, h a (by simp [Op.operands])]
  | store t a x => simp only [opFn, h a (by simp [Op.operands]), h x (by simp [Op.operands])]
  | nilCheck x => simp only [opFn, h x (by simp [Op.operands])]
  | binOp op t x y yt => simp only [opFn, h x (by simp [Op.operands]), h y (by simp [Op.operands])]
  | unOp op t x => simp only [opFn, h x (by simp [Op.operands])]
  | convert a b x => simp only [opFn, h x (by simp [Op.operands])]
  | makeFunc fn a b =>
    cases fn with
    | func f =>
      have := lists b.toList (fun x hx => h x (by simp [Op.operands] at hx ⊢; exact .inr hx))
      simp only [opFn, this]
    | _ => rfl
  | makeSlice t l c => simp only [opFn, h l (by simp [Op.operands]), h c (by simp [Op.operands])]
  | slice t x lo hi mx =>
    have h1 := h x (by simp [Op.operands])
    have h2 := optL lo (fun y hy => h y (by simp [Op.operands] at hy ⊢; simp [hy]))
    have h3 := optL hi (fun y hy => h y (by simp [Op.operands] at hy ⊢; simp [hy]))
    cases mx with
    | none => simp only [opFn, h1, h2, h3]
    | some m => rfl
  | fieldAddr t x f => simp only [opFn, h x (by simp [Op.operands])]
  | field t x f => simp only [opFn, h x (by simp [Op.operands])]
  | indexAddr t x i => simp only [opFn, h x (by simp [Op.operands]), h i (by simp [Op.operands])]
  | index t x i => simp only [opFn, h x (by simp [Op.operands]), h i (by simp [Op.operands])]
  | extract x i => simp only [opFn, h x (by simp [Op.operands])]
  | call c =>
    obtain ⟨callee, xs, ts⟩ := c
    cases callee with
    | builtin b =>
      have := lists xs.toList (fun x hx => h x (by simpa [Op.operands, Call.operands] using hx))
      simp only [opFn, this]
    | _ => rfl
  | _ => rfl
theorem want_congr {tm tm' : Tm} {o : Oper} (h : ∀ t ∈ readsOf os o, tm' t = tm t) : wantFn os tm' o = wantFn os tm o := by
  unfold wantFn
  cases hg : o.guard with
  | none => rfl
  | some jw =>
    obtain ⟨j, want⟩ := jw
    simp only
    cases hd : (os[j]?).bind (·.dst) with
    | none => rfl
    | some d =>
      have : tm' d = tm d := h d (by simp [readsOf, hg, hd])
      simp only [this]
theorem Step.port {κ : Cls} {o : Oper} {tm tm' : Tm} {S S1 : Sto} {v : PV} (h : Step C P os κ o tm S v S1) (hag : ∀ t ∈ readsOf os o, tm' t = tm t) : Step C P os κ o tm' S v S1 := by
  have hw := want_congr hag
  have hop : ∀ x ∈ o.op.operands.toList, tm'.opnd x = tm.opnd x := opnd_congr fun t ht => hag t (by simp [readsOf, ht])
  have hcall : ∀ {x : Operand} {xs : Array Operand} {ts : Array TypeId}, o.op = .call ⟨.value x, xs, ts⟩ → tm'.opnd x = tm.opnd x ∧ xs.toList.map tm'.opnd = xs.toList.map tm.opnd := fun {x xs ts} ho => by
    rw [ho] at hop
    refine ⟨hop x (by simp [Op.operands, Call.operands]), List.map_congr_left fun y hy => hop y (by simp [Op.operands, Call.operands] at hy ⊢; exact .inr hy)⟩
  cases h with
  | skp h => exact .skp (hw.trans h)
  | one h1 h2 h3 => exact .one (hw.trans h1) h2 ((opFn_congr hop).trans h3)
  | oneP h1 h2 => exact .oneP (hw.trans h1) fun S' => (opFn_congr hop).trans (h2 S')
  | callP h1 h2 ho hc hv hp h hr hq =>
    obtain ⟨e1, e2⟩ := hcall ho
    exact .callP (hw.trans h1) h2 ho (by rw [e1]; exact hc) (by rw [e2]; exact hv) hp h hr hq
  | callB h1 h2 ho hc hv hp h hr =>
    obtain ⟨e1, e2⟩ := hcall ho
    exact .callB (hw.trans h1) h2 ho (by rw [e1]; exact hc) (by rw [e2]; exact hv) hp h hr
  | callA h1 h2 ho hc hv hp h hob hz hoff hd hpl hs =>
    obtain ⟨e1, e2⟩ := hcall ho
    exact .callA (hw.trans h1) h2 ho (by rw [e1]; exact hc) (by rw [e2]; exact hv) hp h hob hz hoff hd hpl hs
  | callG h1 h2 ho hc hv hp h hkeep hr =>
    obtain ⟨e1, e2⟩ := hcall ho
    exact .callG (hw.trans h1) h2 ho (by rw [e1]; exact hc) (by rw [e2]; exact hv) hp h hkeep hr
  | callS h1 h2 ho hc h =>
    obtain ⟨e1, e2⟩ := hcall ho
    exact .callS (hw.trans h1) h2 ho (by rw [e1]; exact hc) (by rw [e2]; exact h)
theorem justV_any {q : Option PV} {v : PV} {S S' : Sto} (h : justV S q = some (v, S')) : S' = S ∧ ∀ S2 : Sto, justV S2 q = some (v, S2) := by
  cases q with
  | none => cases h
  | some x =>
    simp only [justV, Option.map_some, Option.some.injEq, Prod.mk.injEq] at h
    obtain ⟨rfl, rfl⟩ := h
    exact ⟨rfl, fun _ => rfl⟩
theorem map_any {α : Type} {q : Option α} {g : α → PV} {v : PV} {S S' : Sto} (h : (q.map fun n => (g n, S)) = some (v, S')) : S' = S ∧ ∀ S2 : Sto, (q.map fun n => (g n, S2)) = some (v, S2) := by
  cases q with
  | none => cases h
  | some x =>
    simp only [Option.map_some, Option.some.injEq, Prod.mk.injEq] at h
    obtain ⟨rfl, rfl⟩ := h
    exact ⟨rfl, fun _ => rfl⟩
theorem some_any {p v : PV} {S S' : Sto} (h : some (p, S) = some (v, S')) : S' = S ∧ ∀ S2 : Sto, some (p, S2) = some (v, S2) := by
  simp only [Option.some.injEq, Prod.mk.injEq] at h
  obtain ⟨rfl, rfl⟩ := h
  exact ⟨rfl, fun _ => rfl⟩
theorem cls_p {s : Nat} {ρ : Operand → PV} {op : Op} {S S' : Sto} {v : PV} (hc : clsOf op = .p) (h : opFn P s ρ S op = some (v, S')) : S' = S ∧ ∀ S2 : Sto, opFn P s ρ S2 op = some (v, S2) := by
  cases op with
  | move x => exact some_any h
  | assign x => exact some_any h
  | pick c a b =>
    simp only [opFn] at h ⊢
    split at h
    · exact some_any h
    · cases h
  | build t ps =>
    simp only [opFn] at h ⊢
    split at h
    · split at h
      · exact map_any h
      · split at h
        · exact map_any h
        · cases h
      · cases h
    · cases h
  | binOp op t x y yt => exact justV_any h
  | unOp op t x => exact justV_any h
  | convert a b x => exact justV_any h
  | makeFunc fn a b =>
    cases fn <;> simp only [opFn] at h ⊢ <;> first | (cases h; done) | skip
    split at h
    · rename_i hf
      simp only [hf, if_true]
      exact some_any h
    · cases h
  | fieldAddr t x f =>
    simp only [opFn] at h ⊢
    split at h
    · split at h
      · split at h
        · rename_i hc
          simp only [if_pos hc]
          exact justV_any h
        · cases h
      · cases h
    · cases h
  | field t x f =>
    simp only [opFn] at h ⊢
    split at h
    · split at h
      · split at h
        · rename_i hc
          simp only [if_pos hc]
          exact justV_any h
        · cases h
      · cases h
    · cases h
  | indexAddr t x i =>
    simp only [opFn] at h ⊢
    split at h
    · split at h
      · split at h
        · rename_i hc
          simp only [if_pos hc]
          exact justV_any h
        · cases h
      · cases h
    · split at h
      · split at h
        · rename_i hc
          simp only [if_pos hc]
          exact justV_any h
        · cases h
      · cases h
    · cases h
  | index t x i =>
    simp only [opFn] at h ⊢
    split at h
    · split at h
      · split at h
        · rename_i hc
          simp only [if_pos hc]
          exact justV_any h
        · cases h
      · cases h
    · split at h
      · split at h
        · rename_i hc
          simp only [if_pos hc]
          exact map_any (g := fun b : UInt8 => PV.lit (.int .u8 (b.toNat : Nat))) h
        · cases h
      · cases h
    · cases h
  | extract x i =>
    simp only [opFn] at h ⊢
    split at h
    · exact map_any (g := id) h
    · exact map_any (g := PV.lit) h
    · cases h
  | nilCheck x =>
    simp only [opFn] at h ⊢
    split at h
    · exact some_any h
    · exact some_any h
    · exact some_any h
    · exact some_any h
    · cases h
  | call c =>
    obtain ⟨callee, xs, ts⟩ := c
    cases callee with
    | builtin b => cases b <;> first | (simp [clsOf] at hc; done) | exact justV_any h
    | _ => simp [clsOf] at hc
  | _ => simp [clsOf] at hc
theorem cls_r {s : Nat} {ρ : Operand → PV} {op : Op} {S S' : Sto} {v : PV} (hc : clsOf op = .r) (h : opFn P s ρ S op = some (v, S')) : S' = S := by
  cases op with
  | load t a =>
    simp only [opFn] at h
    split at h
    · exact (justV_any h).1
    · cases h
  | slice t x lo hi mx =>
    cases mx with
    | some m => cases h
    | none =>
    simp only [opFn] at h
    split at h
    · split at h
      · split at h
        · split at h
          · exact (justV_any h).1
          · cases h
        · cases h
      · cases h
    · split at h
      · split at h
        · split at h
          · exact (some_any h).1
          · cases h
        · cases h
      · cases h
    · cases h
  | call c =>
    obtain ⟨callee, xs, ts⟩ := c
    cases callee with
    | builtin b => cases b <;> simp [clsOf] at hc
    | _ => cases h
  | _ => simp [clsOf] at hc
theorem Cls.le_p {c : Cls} (h : c.le .p = true) : c = .p := by cases c <;> first | rfl | cases h
theorem Cls.le_r {c : Cls} (h : c.le .r = true) : c = .p ∨ c = .r := by cases c <;> first | exact .inl rfl | exact .inr rfl | cases h
theorem Step.p {o : Oper} {tm : Tm} {S S1 : Sto} {v : PV} (h : Step C P os .p o tm S v S1) : S1 = S ∧ ∀ S2, Step C P os .p o tm S2 v S2 := by
  cases h with
  | skp h => exact ⟨rfl, fun _ => .skp h⟩
  | oneP h1 h2 => exact ⟨rfl, fun _ => .oneP h1 h2⟩
  | one h1 h2 h3 =>
    obtain ⟨e, f⟩ := cls_p (Cls.le_p h2) h3
    exact ⟨e, fun S2 => .one h1 h2 (f S2)⟩
  | callP _ hk => exact absurd rfl hk
  | callB _ hk => exact absurd rfl hk
  | callA _ hk => cases hk
  | callG _ hk => cases hk
  | callS _ hk => cases hk
theorem Step.r {o : Oper} {tm : Tm} {S S1 : Sto} {v : PV} (h : Step C P os .r o tm S v S1) : S1 = S := by
  cases h with
  | skp h => rfl
  | oneP => rfl
  | one h1 h2 h3 =>
    rcases Cls.le_r h2 with h | h
    · exact (cls_p h h3).1
    · exact cls_r h h3
  | callP => rfl
  | callB => rfl
  | callA _ hk => cases hk
  | callG _ hk => cases hk
  | callS _ hk => cases hk
theorem put_ne {tm : Tm} {d : Option Tmp} {v : PV} {t : Tmp} (h : d ≠ some t) : tm.put d v t = tm t := by
  cases d with
  | none => rfl
  | some d => simp only [Tm.put]; rw [if_neg (fun e => h (by rw [e]))]
theorem put_comm {tm : Tm} {d e : Option Tmp} {u v : PV} (h : ∀ t, d = some t → e ≠ some t) : (tm.put d u).put e v = (tm.put e v).put d u := by
  cases d with
  | none => rfl
  | some d =>
    cases e with
    | none => rfl
    | some e =>
      funext t
      have : d ≠ e := fun he => h d rfl (by rw [he])
      simp only [Tm.put]
      by_cases h1 : t = d
      · subst h1; simp [this]
      · simp [h1]
theorem apart_spec {a b : Oper} (h : apart os a b = true) : (∀ t ∈ readsOf os b, a.dst ≠ some t) ∧ (∀ t ∈ readsOf os a, b.dst ≠ some t) ∧ (∀ t, a.dst = some t → b.dst ≠ some t) := by
  simp only [apart, Bool.and_eq_true, List.all_eq_true, Option.mem_toList] at h
  obtain ⟨h1, h2⟩ := h
  refine ⟨fun t ht e => ?_, fun t ht e => ?_, fun t e1 e2 => ?_⟩
  · have := h1 t e
    simp [ht] at this
  · have := h2 t e
    simp [ht] at this
  · have := h1 t e1
    simp [e2] at this
theorem Step.swap {κ κ' : Cls} {a b : Oper} {tm : Tm} {S S1 S2 : Sto} {u v : PV} (hc : clsFree κ κ' = true) (ha : apart os a b = true) (h1 : Step C P os κ a tm S u S1) (h2 : Step C P os κ' b (tm.put a.dst u) S1 v S2) :
    ∃ S3, Step C P os κ' b tm S v S3 ∧ Step C P os κ a (tm.put b.dst v) S3 u S2 ∧ (tm.put a.dst u).put b.dst v = (tm.put b.dst v).put a.dst u := by
  obtain ⟨r1, r2, r3⟩ := apart_spec ha
  have p1 : Step C P os κ' b tm S1 v S2 := h2.port fun t ht => (put_ne (r1 t ht)).symm
  have p2 : Step C P os κ a (tm.put b.dst v) S u S1 := h1.port fun t ht => put_ne (r2 t ht)
  have p3 := put_comm (tm := tm) (u := u) (v := v) r3
  cases κ with
  | p =>
    obtain ⟨rfl, f⟩ := h1.p
    exact ⟨S2, p1, (p2.p).2 S2, p3⟩
  | r =>
    obtain rfl := h1.r
    cases κ' with
    | p =>
      obtain ⟨rfl, f⟩ := p1.p
      exact ⟨_, p1, p2, p3⟩
    | r =>
      obtain rfl := p1.r
      exact ⟨_, p1, p2, p3⟩
    | n => cases hc
  | n =>
    cases κ' with
    | p =>
      obtain ⟨rfl, f⟩ := p1.p
      exact ⟨S, f S, p2, p3⟩
    | r => cases hc
    | n => cases hc
def Free (os : Array Oper) (κ : Nat → Cls) (j i : Nat) : Prop := ∀ a b, os[j]? = some a → os[i]? = some b → clsFree (κ j) (κ i) = true ∧ apart os a b = true
theorem Ops.bring {κ : Nat → Cls} {i : Nat} {l2 : List Nat} : ∀ (l1 : List Nat) {tm tm' : Tm} {S S' : Sto}, (∀ j ∈ l1, Free os κ j i) → Ops C P os κ (l1 ++ i :: l2) tm S tm' S' → Ops C P os κ (i :: (l1 ++ l2)) tm S tm' S'
  | [], _, _, _, _, _, h => h
  | j :: l1, tm, tm', S, S', hf, h => by
    cases h with
    | cons ho hs hr =>
      have ih := Ops.bring l1 (fun k hk => hf k (by simp [hk])) hr
      cases ih with
      | cons ho' hs' hr' =>
        obtain ⟨c1, c2⟩ := hf j (by simp) _ _ ho ho'
        obtain ⟨S3, g1, g2, g3⟩ := Step.swap c1 c2 hs hs'
        rw [g3] at hr'
        exact .cons ho' g1 (.cons ho g2 hr')
def maskOf (acc : Array Nat) (o : Oper) : Nat := o.after.foldl (fun s e => if Region.binds .any e then s ||| 2 ^ e.on ||| acc.getD e.on 0 else s) 0
def masks : List Oper → Array Nat → Array Nat
  | [], acc => acc
  | o :: l, acc => masks l (acc.push (maskOf acc o))
theorem before_eq (os : Array Oper) : Region.before os = masks os.toList #[] := by
  have : ∀ (l : List Oper) (acc : Array Nat), l.foldl (fun acc o => acc.push (maskOf acc o)) acc = masks l acc := by
    intro l
    induction l with
    | nil => intro acc; rfl
    | cons o l ih => intro acc; exact ih _
  unfold Region.before
  rw [← Array.foldl_toList]
  exact this _ _
theorem masks_old : ∀ (l : List Oper) (acc : Array Nat) (j : Nat), j < acc.size → (masks l acc).getD j 0 = acc.getD j 0
  | [], _, _, _ => rfl
  | o :: l, acc, j, h => by
    rw [masks, masks_old l _ j (by simp; omega)]
    simp only [Array.getD_eq_getD_getElem?, Array.getElem?_push]
    rw [if_neg (by omega)]
theorem foldl_bits (acc : Array Nat) (T : Nat → Prop) (j : Nat) : ∀ (l : List Edge) (s : Nat), (s.testBit j = true → T j) →
    (∀ e ∈ l, Region.binds .any e = true → T e.on ∧ ((acc.getD e.on 0).testBit j = true → T j)) →
    (l.foldl (fun s e => if Region.binds .any e then s ||| 2 ^ e.on ||| acc.getD e.on 0 else s) s).testBit j = true → T j
  | [], s, hs, _, h => hs h
  | e :: l, s, hs, he, h => by
    refine foldl_bits acc T j l _ ?_ (fun e' h' => he e' (by simp [h'])) h
    intro hb
    dsimp only at hb
    split at hb
    · rename_i hbi
      obtain ⟨h1, h2⟩ := he e (by simp) hbi
      rw [Nat.testBit_or, Nat.testBit_or, Bool.or_eq_true, Bool.or_eq_true] at hb
      rcases hb with (hb | hb) | hb
      · exact hs hb
      · rw [Nat.testBit_two_pow] at hb
        have : e.on = j := by simpa using hb
        exact this ▸ h1
      · exact h2 hb
    · exact hs hb
theorem masks_closed (T : Nat → Prop) (j : Nat) : ∀ (l : List Oper) (acc : Array Nat) (pre : List Oper), acc.size = pre.length →
    (∀ k, k < pre.length → (∀ o, pre[k]? = some o → (∀ e ∈ o.after.toList, Region.binds .any e = true → e.on < k ∧ T e.on)) → True) →
    (∀ k, k < acc.size → T k → (acc.getD k 0).testBit j = true → T j) →
    (∀ k o, (pre ++ l)[k]? = some o → ∀ e ∈ o.after.toList, Region.binds .any e = true → e.on < k) →
    (∀ k o, (pre ++ l)[k]? = some o → T k → ∀ e ∈ o.after.toList, Region.binds .any e = true → T e.on) →
    ∀ k o, (pre ++ l)[k]? = some o → acc.size ≤ k → (∀ e ∈ o.after.toList, Region.binds .any e = true → T e.on) → ((masks l acc).getD k 0).testBit j = true → T j
  | [], acc, pre, hs, _, _, _, _, k, o, hk, hle, _, _ => by
    have := (List.getElem?_eq_some_iff.1 hk).1
    simp at this
    omega
  | x :: l, acc, pre, hs, h0, hacc, hfw, hcl, k, o, hk, hle, hdep, hbit => by
    have hx : (pre ++ x :: l)[acc.size]? = some x := by rw [hs]; simp
    have hmask : ∀ (hd : ∀ e ∈ x.after.toList, Region.binds .any e = true → T e.on), (maskOf acc x).testBit j = true → T j := fun hd hb => by
      unfold maskOf at hb
      rw [← Array.foldl_toList] at hb
      refine foldl_bits acc T j _ 0 (by simp) (fun e he hbi => ⟨hd e he hbi, fun hb2 => ?_⟩) hb
      exact hacc e.on (hfw _ _ hx e he hbi) (hd e he hbi) hb2
    by_cases hke : k = acc.size
    · subst hke
      rw [hx] at hk
      obtain rfl := Option.some.inj hk
      rw [masks, masks_old _ _ _ (by simp)] at hbit
      refine hmask hdep ?_
      simpa [Array.getD_eq_getD_getElem?] using hbit
    · have happ : pre ++ x :: l = (pre ++ [x]) ++ l := by simp
      rw [happ] at hk hfw hcl
      refine masks_closed T j l (acc.push (maskOf acc x)) (pre ++ [x]) (by simp [hs]) (fun _ _ _ => trivial) ?_ hfw hcl k o hk (by simp; omega) hdep hbit
      intro m hm hT hb
      simp only [Array.size_push] at hm
      by_cases hme : m = acc.size
      · subst hme
        have hx' : ((pre ++ [x]) ++ l)[acc.size]? = some x := by rw [← happ]; exact hx
        refine hmask (hcl _ _ hx' hT) ?_
        simpa [Array.getD_eq_getD_getElem?] using hb
      · refine hacc m (by omega) hT ?_
        simp only [Array.getD_eq_getD_getElem?, Array.getElem?_push] at hb
        rw [if_neg (by omega)] at hb
        simpa [Array.getD_eq_getD_getElem?] using hb
theorem before_closed {T : Nat → Prop} (hfw : ∀ k o, os[k]? = some o → ∀ e ∈ o.after.toList, Region.binds .any e = true → e.on < k)
    (hcl : ∀ k o, os[k]? = some o → T k → ∀ e ∈ o.after.toList, Region.binds .any e = true → T e.on) {i : Nat} {o : Oper} (hi : os[i]? = some o)
    (hd : ∀ e ∈ o.after.toList, Region.binds .any e = true → T e.on) {j : Nat} (hb : ((Region.before os).getD i 0).testBit j = true) : T j := by
  rw [before_eq] at hb
  refine masks_closed T j os.toList #[] [] rfl (fun _ _ _ => trivial) (fun k hk => by simp at hk) ?_ ?_ i o ?_ (by simp) hd hb
  · intro k o hk; rw [List.nil_append, Array.getElem?_toList] at hk; exact hfw k o hk
  · intro k o hk; rw [List.nil_append, Array.getElem?_toList] at hk; exact hcl k o hk
  · rw [List.nil_append, Array.getElem?_toList]; exact hi
theorem indep_spec {κ : Nat → Cls} (h : indep os κ = true) : (∀ k o, os[k]? = some o → ∀ e ∈ o.after.toList, Region.binds .any e = true → e.on < k) ∧
    ∀ i j, i < os.size → j < i → ((Region.before os).getD i 0).testBit j = true ∨ Free os κ j i := by
  simp only [indep, List.all_eq_true, List.mem_range, Bool.and_eq_true, Bool.or_eq_true] at h
  refine ⟨fun k o hk e he hb => ?_, fun i j hi hj => ?_⟩
  · obtain ⟨hlt, rfl⟩ := Array.getElem?_eq_some_iff.1 hk
    have hd : os.getD k default = os[k] := by simp [Array.getD_eq_getD_getElem?, hlt]
    have := (h k hlt).1 e (by rw [hd]; exact he)
    simpa [hb] using this
  · rcases (h i hi).2 j hj with h1 | h1
    · exact .inl h1
    · refine .inr fun a b ha hb => ?_
      obtain ⟨_, rfl⟩ := Array.getElem?_eq_some_iff.1 ha
      obtain ⟨_, rfl⟩ := Array.getElem?_eq_some_iff.1 hb
      have e1 : os.getD j default = os[j] := by simp [Array.getD_eq_getD_getElem?, show j < os.size by omega]
      have e2 : os.getD i default = os[i] := by simp [Array.getD_eq_getD_getElem?, hi]
      rw [e1, e2] at h1
      simpa using h1
def remain (n : Nat) (listed : Array Bool) : List Nat := (List.range n).filter fun i => !listed.getD i true
theorem remain_split {n : Nat} {listed : Array Bool} (hs : listed.size = n) {i : Nat} (hi : i ∈ remain n listed) :
    ∃ l1 l2, remain n listed = l1 ++ i :: l2 ∧ (∀ j ∈ l1, j < i ∧ listed.getD j true = false) ∧ remain n (listed.setIfInBounds i true) = l1 ++ l2 := by
  obtain ⟨l1, l2, hl⟩ := List.append_of_mem hi
  have hpw : (remain n listed).Pairwise (· < ·) := List.Pairwise.filter _ List.pairwise_lt_range
  have hin : i < n := by simpa using (List.mem_filter.1 hi).1
  rw [hl] at hpw
  have hlt : ∀ j ∈ l1, j < i := fun j hj => (List.pairwise_append.1 hpw).2.2 j hj i (by simp)
  have hgt : ∀ j ∈ l2, i < j := fun j hj => (List.pairwise_cons.1 (List.pairwise_append.1 hpw).2.1).1 j hj
  refine ⟨l1, l2, hl, fun j hj => ⟨hlt j hj, ?_⟩, ?_⟩
  · have : j ∈ remain n listed := by rw [hl]; simp [hj]
    simpa using (List.mem_filter.1 this).2
  · have e1 : remain n (listed.setIfInBounds i true) = (remain n listed).filter (fun j => j != i) := by
      unfold remain
      rw [List.filter_filter]
      refine List.filter_congr fun j hj => ?_
      have hjn : j < n := by simpa using hj
      simp only [Array.getD_eq_getD_getElem?, Array.getElem?_setIfInBounds]
      by_cases e : i = j
      · subst e; simp [show i < listed.size by omega]
      · have : (j != i) = true := by simp; omega
        simp [e, this]
    rw [e1, hl, List.filter_append, List.filter_cons]
    have f1 : l1.filter (fun j => j != i) = l1 := List.filter_eq_self.2 fun j hj => by have := hlt j hj; simp; omega
    have f2 : l2.filter (fun j => j != i) = l2 := List.filter_eq_self.2 fun j hj => by have := hgt j hj; simp; omega
    simp [f1, f2]
theorem lin_go {κ : Nat → Cls} (hind : indep os κ = true) : ∀ (fuel t : Nat) (listed : Array Bool) (acc : List Nat) (tm tm' : Tm) (S S' : Sto), listed.size = os.size →
    (∀ k o, os[k]? = some o → listed.getD k true = true → ∀ e ∈ o.after.toList, Region.binds .any e = true → listed.getD e.on true = true) →
    (remain os.size listed).length ≤ fuel → Ops C P os κ (remain os.size listed) tm S tm' S' →
    ∃ ord, Region.linearise.go .any os fuel t listed acc = acc.reverse ++ ord ∧ Ops C P os κ ord tm S tm' S'
  | 0, t, listed, acc, tm, tm', S, S', hs, hc, hf, h => by
    have : remain os.size listed = [] := List.eq_nil_of_length_eq_zero (by omega)
    rw [this] at h
    exact ⟨[], by simp [Region.linearise.go], h⟩
  | fuel + 1, t, listed, acc, tm, tm', S, S', hs, hc, hf, h => by
    obtain ⟨hfw, hfree⟩ := indep_spec hind
    simp only [Region.linearise.go]
    generalize hrs : (List.range os.size).filter (fun i => !listed.getD i true && ((os[i]?).map (·.after.all fun e => !Region.binds .any e || listed.getD e.on false)).getD false) = rs
    have hmem : ∀ i, i ∈ rs ↔ i ∈ remain os.size listed ∧ ∃ o, os[i]? = some o ∧ ∀ e ∈ o.after.toList, Region.binds .any e = true → listed.getD e.on false = true := by
      intro i
      rw [← hrs]
      simp only [remain, List.mem_filter, Bool.and_eq_true]
      constructor
      · rintro ⟨h1, h2, h3⟩
        have hi : i < os.size := by simpa using h1
        refine ⟨⟨h1, h2⟩, os[i], by simp [hi], fun e he hb => ?_⟩
        simp [hi] at h3
        have he' : e ∈ os[i].after := by simpa using he
        obtain ⟨k, hk, rfl⟩ := Array.mem_iff_getElem.1 he'
        rcases h3 k hk with h4 | h4
        · rw [h4] at hb; cases hb
        · simpa using h4
      · rintro ⟨⟨h1, h2⟩, o, h3, h4⟩
        refine ⟨h1, h2, ?_⟩
        rw [h3]
        simp only [Option.map_some, Option.getD_some, Array.all_eq_true]
        intro k hk
        cases hb : Region.binds .any o.after[k] with
        | false => simp
        | true => simp [h4 _ (by simp) hb]
    cases hrem : remain os.size listed with
    | nil =>
      have hnil : rs = [] := by
        cases hr : rs with
        | nil => rfl
        | cons x l =>
          have := (hmem x).1 (by rw [hr]; simp)
          rw [hrem] at this
          simp at this
      rw [hnil]
      rw [hrem] at h
      exact ⟨[], by simp, h⟩
    | cons m l =>
      -- the least that remains is ready
      have hm : m ∈ remain os.size listed := by rw [hrem]; simp
      have hready : m ∈ rs := by
        rw [hmem]
        have hml : m < os.size := by simpa using (List.mem_filter.1 hm).1
        refine ⟨hm, os[m], by simp [hml], fun e he hb => ?_⟩
        have hlt := hfw m os[m] (by simp [hml]) e he hb
        have hel : e.on < os.size := by omega
        cases hle : listed.getD e.on true with
        | true =>
          have hsz : e.on < listed.size := by omega
          simp [Array.getD_eq_getD_getElem?, hsz] at hle ⊢
          exact hle
        | false =>
          have hin : e.on ∈ remain os.size listed := List.mem_filter.2 ⟨by simp [hel], by simp [hle]⟩
          have hpw : (remain os.size listed).Pairwise (· < ·) := List.Pairwise.filter _ List.pairwise_lt_range
          rw [hrem] at hin hpw
          rcases List.mem_cons.1 hin with h1 | h1
          · omega
          · have := (List.pairwise_cons.1 hpw).1 _ h1; omega
      have hpos : 0 < rs.length := List.length_pos_of_mem hready
      have hlt : t % rs.length < rs.length := Nat.mod_lt _ hpos
      have hget : rs[t % rs.length]? = some rs[t % rs.length] := by simp [hlt]
      simp only [hget]
      generalize hi : rs[t % rs.length] = i
      have hirs : i ∈ rs := hi ▸ List.getElem_mem hlt
      obtain ⟨hirem, o, ho, hdeps⟩ := (hmem i).1 hirs
      obtain ⟨l1, l2, e1, e2, e3⟩ := remain_split hs hirem
      have hil : i < os.size := (Array.getElem?_eq_some_iff.1 ho).1
      have hdeps' : ∀ e ∈ o.after.toList, Region.binds .any e = true → listed.getD e.on true = true := fun e he hb => by
        have := hdeps e he hb
        rw [Array.getD_eq_getD_getElem?] at this ⊢
        cases hx : listed[e.on]? with
        | none => rfl
        | some b => rw [hx] at this; exact this
      have hfr : ∀ j ∈ l1, Free os κ j i := fun j hj => by
        obtain ⟨q1, q2⟩ := e2 j hj
        rcases hfree i j hil q1 with hb | hb
        · have : listed.getD j true = true := before_closed (T := fun k => listed.getD k true = true) hfw hc ho hdeps' hb
          rw [this] at q2; cases q2
        · exact hb
      rw [e1] at h
      have hb := Ops.bring l1 hfr h
      cases hb with
      | cons ho' hst hr =>
        obtain rfl := Option.some.inj (ho.symm.trans ho')
        have hlen : (remain os.size (listed.setIfInBounds i true)).length ≤ fuel := by
          have h1 : (remain os.size listed).length = l1.length + (l2.length + 1) := by rw [e1]; simp
          have h2 : (remain os.size (listed.setIfInBounds i true)).length = l1.length + l2.length := by rw [e3]; simp
          omega
        rw [← e3] at hr
        have hc' : ∀ k o, os[k]? = some o → (listed.setIfInBounds i true).getD k true = true → ∀ e ∈ o.after.toList, Region.binds .any e = true → (listed.setIfInBounds i true).getD e.on true = true := by
          intro k ok hk hlk e he hbd
          have grow : ∀ m, listed.getD m true = true → (listed.setIfInBounds i true).getD m true = true := fun m hm => by
            simp only [Array.getD_eq_getD_getElem?, Array.getElem?_setIfInBounds] at hm ⊢
            split
            · split <;> rfl
            · exact hm
          by_cases hki : k = i
          · subst hki
            obtain rfl := Option.some.inj (ho.symm.trans hk)
            exact grow _ (hdeps' e he hbd)
          · refine grow _ (hc k ok hk ?_ e he hbd)
            simp only [Array.getD_eq_getD_getElem?, Array.getElem?_setIfInBounds] at hlk ⊢
            rwa [if_neg (fun e => hki e.symm)] at hlk
        obtain ⟨ord, g1, g2⟩ := lin_go hind fuel (t / rs.length) (listed.setIfInBounds i true) (i :: acc) _ tm' _ S' (by simp [hs]) hc' hlen hr
        exact ⟨i :: ord, by rw [g1]; simp, .cons ho hst g2⟩
theorem ops_perm {κ : Nat → Cls} (hind : indep os κ = true) {tm tm' : Tm} {S S' : Sto} (h : Ops C P os κ (List.range os.size) tm S tm' S') (t : Nat) :
    Ops C P os κ (Region.linearise .any os t) tm S tm' S' := by
  have hrem : remain os.size (Array.replicate os.size false) = List.range os.size := by
    unfold remain
    refine List.filter_eq_self.2 fun i hi => ?_
    have : i < os.size := by simpa using hi
    simp [Array.getD_eq_getD_getElem?, this]
  obtain ⟨ord, g1, g2⟩ := lin_go hind os.size t (Array.replicate os.size false) [] tm tm' S S' (by simp) (fun k o hk hl => by
    have : k < os.size := (Array.getElem?_eq_some_iff.1 hk).1
    simp [Array.getD_eq_getD_getElem?, this] at hl) (by rw [hrem]; simp) (by rw [hrem]; exact h)
  unfold Region.linearise
  rw [g1]
  simpa using g2
end Go.Abs
end
section
namespace Go.Abs
open Go
variable {P : Program} {C : CallP}
theorem put_size (a : Act) (d : Option Tmp) (u : Value) : (a.put d u).tmps.size = a.tmps.size := by cases d <;> simp [Act.put]
theorem put_defers (a : Act) (d : Option Tmp) (u : Value) : (a.put d u).defers = a.defers := by cases d <;> rfl
theorem Ext.trans {w w1 w2 : World} {F F1 F2 K : Nat → Prop} {L L1 L2 : Id → Option Loc} (h1 : Ext w F L K w1 F1 L1) (h2 : Ext w1 F1 L1 K w2 F2 L2) : Ext w F L K w2 F2 L2 := by
  have own1 : ∀ i ℓ, L1 i = some ℓ → w.heap.size ≤ ℓ.b ∨ ∃ j m, L j = some m ∧ m.b = ℓ.b := h1.own
  refine ⟨h2.os.trans h1.os, h2.tape.trans h1.tape, h2.output.trans h1.output, Nat.le_trans h1.size h2.size, fun b hb => h2.fz b (h1.fz b hb),
    fun b hb => (h2.heap b (hb.imp (h1.fz b) id)).trans (h1.heap b hb), fun i ℓ h => h2.loc i ℓ (h1.loc i ℓ h), fun b hb => ?_, fun i ℓ h => ?_⟩
  · rcases h2.new b hb with h | h | ⟨i, ℓ, h, e⟩
    · exact h1.new b h
    · exact .inr (.inl (Nat.le_trans h1.size h))
    · rcases own1 i ℓ h with h' | ⟨j, m, h', e'⟩
      · exact .inr (.inl (e ▸ h'))
      · exact .inr (.inr ⟨j, m, h', e'.trans e⟩)
  · rcases h2.own i ℓ h with h | ⟨j, m, h, e⟩
    · exact .inl (Nat.le_trans h1.size h)
    · rcases own1 j m h with h' | ⟨j', m', h', e'⟩
      · exact .inl (e ▸ h')
      · exact .inr ⟨j', m', h', e'.trans e⟩
def OpsAfter (w : World) (L : Id → Option Loc) (F K : Nat → Prop) (n : Nat) (tm' : Tm) (S' : Sto) (Q : Exit → Act → World → Prop) : Prop :=
  ∀ a' w' L' F', a'.defers = [] → a'.tmps.size = n → TmRel w' F' L' tm' a' → Inv w' S' L' F' K → Ext w F L K w' F' L' → Q .normal a' w'
theorem dstsOk_spec {n : Nat} {os : Array Oper} (h : dstsOk n os = true) {i : Nat} {o : Oper} (ho : os[i]? = some o) {t : Tmp} (ht : o.dst = some t) : t < n := by
  simp only [dstsOk, List.all_eq_true] at h
  obtain ⟨hi, rfl⟩ := Array.getElem?_eq_some_iff.1 ho
  have := h os[i] (by simp) t (by simp [ht])
  simpa using this
theorem ops_sound (hC : SoundC P C) {os : Array Oper} {κ : Nat → Cls} {n : Nat} (hd : dstsOk n os = true) {is : List Nat} {tm tm' : Tm} {S S' : Sto} (h : Ops C P os κ is tm S tm' S') :
    ∀ (a : Act) (w : World) (L : Id → Option Loc) (F K : Nat → Prop) (Q : Exit → Act → World → Prop), a.defers = [] → a.tmps.size = n → TmRel w F L tm a → Inv w S L F K → OpsAfter w L F K n tm' S' Q → wpOps P os Q is a w := by
  induction h with
  | nil =>
    intro a w L F K Q h1 h2 h3 h4 h5
    exact h5 a w L F h1 h2 h3 h4 (.refl _ _ _ _)
  | @cons i is o tm tm' S S1 S' v ho hs hr ih =>
    intro a w L F K Q h1 h2 h3 h4 h5
    refine step_sound hC ho hs h3 h4 fun w1 L1 F1 u hu hi1 hx1 => ?_
    refine ih (a.put o.dst u) w1 L1 F1 K Q ((put_defers _ _ _).trans h1) ((put_size _ _ _).trans h2) ?_ hi1 ?_
    · exact TmRel.put (d := o.dst) (h3.ext hx1) (fun t ht => by rw [h2]; exact dstsOk_spec hd ho ht) hu
    · intro a' w' L' F' k1 k2 k3 k4 k5
      exact h5 a' w' L' F' k1 k2 k3 k4 (hx1.trans k5)
def resSem (tmps : Array Value) : ResultVar → Sem Value
  | .tmp t => pure (tmps.getD t Go.undef)
  | .cell a t => do loadVar t (← asAddr (tmps.getD a Go.undef))
theorem results_eq (fn : Func) (tmps : Array Value) : results fn tmps = (do
    let vs ← fn.results.mapM (resSem tmps)
    pure (if h : vs.size = 1 then vs[0] else .tuple vs)) := by
  unfold results
  congr 1
theorem res1_sound {w : World} {S : Sto} {L : Id → Option Loc} {F K : Nat → Prop} {tm : Tm} {a : Act} (ht : TmRel w F L tm a) (hi : Inv w S L F K) {r : ResultVar} {p : PV} (h : resFn P tm S r = some p) :
    ∃ u, (resSem a.tmps r).run P w = .ok u w ∧ Rel w F L p u := by
  cases r with
  | tmp t =>
    obtain rfl := Option.some.inj h
    exact ⟨_, rfl, ht t⟩
  | cell x t =>
    simp only [resFn] at h
    split at h
    · rename_i ti cs h1 h2
      obtain ⟨u, g1, g2⟩ := s_load (P := P) hi h1 (ht x) h2 h
      obtain ⟨b, o, he, _⟩ := cells_at hi (ht x) h2
      refine ⟨u, ?_, g2⟩
      rw [he] at g1
      rw [Array.getD_eq_getD_getElem?] at he
      simpa [resSem, he, asAddr, Instr.loadAt, Instr.sureAddr] using g1
    · cases h
theorem resL_sound {w : World} {S : Sto} {L : Id → Option Loc} {F K : Nat → Prop} {tm : Tm} {a : Act} (ht : TmRel w F L tm a) (hi : Inv w S L F K) : ∀ (l : List ResultVar) {ps : List PV}, resL P tm S l = some ps →
    ∃ us, (l.mapM (resSem a.tmps)).run P w = .ok us w ∧ RelA w F L ps us
  | [], ps, h => by
    obtain rfl := Option.some.inj h
    exact ⟨[], rfl, .nil⟩
  | r :: l, ps, h => by
    simp only [resL] at h
    split at h
    · rename_i p qs h1 h2
      obtain rfl := Option.some.inj h
      obtain ⟨u, g1, g2⟩ := res1_sound (P := P) ht hi h1
      obtain ⟨us, g3, g4⟩ := resL_sound ht hi l h2
      refine ⟨u :: us, ?_, (RelA.one g2).append g4⟩
      rw [List.mapM_cons]
      simp only [Sem.run_bind, g1, Result.andThen_ok, g3, Sem.run_pure]
    · cases h
theorem res_sound {w : World} {S : Sto} {L : Id → Option Loc} {F K : Nat → Prop} {tm : Tm} {a : Act} (ht : TmRel w F L tm a) (hi : Inv w S L F K) {f : FuncId} {v : PV} (h : resOf P f tm S = some v) :
    ∃ fn u, P.funcs[f]? = some fn ∧ (results fn a.tmps).run P w = .ok u w ∧ Rel w F L v u := by
  unfold resOf at h
  split at h
  case h_2 => cases h
  rename_i fn hf
  have key : ∀ ps, resL P tm S fn.results.toList = some ps → ∃ us : List Value, (fn.results.mapM (resSem a.tmps)).run P w = .ok us.toArray w ∧ RelA w F L ps us := by
    intro ps hps
    obtain ⟨us, g1, g2⟩ := resL_sound (P := P) ht hi _ hps
    refine ⟨us, ?_, g2⟩
    rw [Array.mapM_eq_mapM_toList, Sem.run_map, g1]
    simp
  split at h
  · rename_i p hp
    obtain rfl := Option.some.inj h
    obtain ⟨us, g1, g2⟩ := key _ hp
    obtain ⟨u, rfl⟩ : ∃ u, us = [u] := List.length_eq_one_iff.1 (by have := g2.1; simpa using this)
    refine ⟨fn, u, hf, ?_, g2.2 0 _ _ rfl rfl⟩
    simp only [results_eq, Sem.run_bind]
    rw [g1]
    rfl
  · rename_i ps hne hp
    obtain rfl := Option.some.inj h
    obtain ⟨us, g1, g2⟩ := key _ hp
    have hl : us.length ≠ 1 := fun e => by
      obtain ⟨u, rfl⟩ := List.length_eq_one_iff.1 e
      have hl := g2.1
      obtain ⟨p, rfl⟩ := List.length_eq_one_iff.1 (by simpa using hl.symm : ps.length = 1)
      exact hne p rfl
    refine ⟨fn, .tuple us.toArray, hf, ?_, .tup _ (by simpa using g2.1) (by simpa using g2.2)⟩
    simp only [results_eq, Sem.run_bind]
    rw [g1]
    simp [hl]
  · cases h
def EvGood (P : Program) (f : FuncId) (k : List Item) (tm : Tm) (S : Sto) (v : PV) (S' : Sto) : Prop :=
  ∀ (b : Frame) (a : Act) (w : World) (L : Id → Option Loc) (F K : Nat → Prop) (cs : List Frame), b.fn = f → b.kind = .normal → a.defers = [] → a.tmps.size = ntOf P f → TmRel w F L tm a → Inv w S L F K →
    ∃ w' fr val L' F', Steps P (lone (b.at a k) cs w) (lone fr cs w') ∧ fr.fn = f ∧ fr.leaving P w' (.returned val) ∧ Rel w' F' L' v val ∧ Inv w' S' L' F' K ∧ Ext w F L K w' F' L'
theorem EvGood.after {f : FuncId} {k k' : List Item} {tm : Tm} {S S' : Sto} {v : PV} (h : EvGood P f k' tm S v S')
    (hs : ∀ (b : Frame) (a : Act) (w : World) (cs : List Frame), (∃ F L, TmRel w F L tm a) → step P (lone (b.at a k) cs w) = .next (lone (b.at a k') cs w)) : EvGood P f k tm S v S' := by
  intro b a w L F K cs h1 h2 h3 h4 h5 h6
  obtain ⟨w', fr, val, L', F', g1, g2⟩ := h b a w L F K cs h1 h2 h3 h4 h5 h6
  exact ⟨w', fr, val, L', F', .head (hs b a w cs ⟨F, L, h5⟩) g1, g2⟩
theorem EvGood.ends {f : FuncId} {k : List Item} {tm : Tm} {S : Sto} {v : PV} (h : resOf P f tm S = some v)
    (hs : ∀ (b : Frame) (a : Act) (w : World) (cs : List Frame), ∃ k', step P (lone (b.at a k) cs w) = .next (lone { b.at a k' with mode := .returning } cs w)) : EvGood P f k tm S v S := by
  intro b a w L F K cs h1 h2 h3 h4 h5 h6
  obtain ⟨fn, u, g1, g2, g3⟩ := res_sound (P := P) h5 h6 h
  obtain ⟨k', hk⟩ := hs b a w cs
  refine ⟨w, { b.at a k' with mode := .returning }, u, L, F, .one hk, h1, ⟨rfl, h3, h2, fn, by rw [← h1] at g1; exact g1, g2⟩, g3, h6, .refl _ _ _ _⟩
theorem ev_sound (hC : SoundC P C) (hm : P.follows .mixedOrders = true) {f : FuncId} {k : List Item} {tm : Tm} {S S' : Sto} {v : PV} (h : Ev C P f k tm S v S') : EvGood P f k tm S v S' := by
  induction h with
  | fin h => exact .ends h fun b a w cs => ⟨[], step_end⟩
  | @ret k _ _ _ h => exact .ends h fun b a w cs => ⟨_, step_ret⟩
  | skip _ ih => exact ih.after fun b a w cs _ => step_skip
  | label _ ih => exact ih.after fun b a w cs _ => step_label
  | inBlock _ ih => exact ih.after fun b a w cs _ => step_inBlock
  | inScope _ ih => exact ih.after fun b a w cs _ => step_lone_go (by simp [stepG, stepG.exec, Frame.at])
  | seq _ ih => exact ih.after fun b a w cs _ => step_seq
  | @cond c x y t k tm S S' v hc _ ih =>
    refine ih.after fun b a w cs ht => ?_
    obtain ⟨F, L, ht⟩ := ht
    have := ht.opnd c
    rw [hc] at this
    exact step_cond this.lit_eq
  | block _ ih => exact ih.after fun b a w cs _ => step_block
  | scope _ ih => exact ih.after fun b a w cs _ => step_lone_go (by simp [stepG, stepG.exec, Frame.at])
  | loop _ ih => exact ih.after fun b a w cs _ => step_loop
  | inLoop _ ih => exact ih.after fun b a w cs _ => step_inLoop
  | exit hk _ ih => exact ih.after fun b a w cs _ => step_exit hk
  | goto hk _ ih => exact ih.after fun b a w cs _ => step_goto hk
  | @region id os draw k tm tm1 S S1 S' v κ hd hi ho _ ih =>
    intro b a w L F K cs h1 h2 h3 h4 h5 h6
    let Q : Exit → Act → World → Prop := fun e a' w' => e = .normal ∧ ∃ L' F', a'.defers = [] ∧ a'.tmps.size = ntOf P f ∧ TmRel w' F' L' tm1 a' ∧ Inv w' S1 L' F' K ∧ Ext w F L K w' F' L'
    have fin : ∀ e a' w', Q e a' w' → Arrives P (lone (b.at a (.code (.region id os draw) :: k)) cs w) b k cs e a' w' →
        ∃ w' fr val L' F', Steps P (lone (b.at a (.code (.region id os draw) :: k)) cs w) (lone fr cs w') ∧ fr.fn = f ∧ fr.leaving P w' (.returned val) ∧ Rel w' F' L' v val ∧ Inv w' S' L' F' K ∧ Ext w F L K w' F' L' := by
      rintro e a' w' ⟨rfl, L', F', q1, q2, q3, q4, q5⟩ harr
      obtain ⟨w2, fr, val, L2, F2, g1, g2, g3, g4, g5, g6⟩ := ih b a' w' L' F' K cs h1 h2 q1 q2 q3 q4
      exact ⟨w2, fr, val, L2, F2, Steps.trans harr g1, g2, g3, g4, g5, q5.trans g6⟩
    cases draw with
    | false =>
      obtain ⟨e, a', w', q, r⟩ := wp_ops _ a w (ops_sound hC hd ho a w L F K Q h3 h4 h5 h6 fun a' w' L' F' k1 k2 k3 k4 k5 => ⟨rfl, L', F', k1, k2, k3, k4, k5⟩) b k cs
      exact fin e a' w' q (.of_steps (.one step_region) r)
    | true =>
      have hp := ops_perm (hi rfl) ho (w.tape w.drawn (.order b.fn id))
      have hsch : Region.schedule (P.follows .mixedOrders) os (w.tape w.drawn (.order b.fn id)) = Region.linearise .any os (w.tape w.drawn (.order b.fn id)) := by
        simp [Region.schedule, hm]
      have hx : Ext w F L K { w with drawn := w.drawn + 1 } F L := ⟨rfl, rfl, rfl, Nat.le_refl _, fun _ h => h, fun _ _ => rfl, fun _ _ h => h, fun _ h => .inl h, fun i ℓ h => .inr ⟨i, ℓ, h, rfl⟩⟩
      have h6' : Inv { w with drawn := w.drawn + 1 } S L F K := by
        refine ⟨fun i o ho => ?_, h6.apart, h6.fresh, h6.fz⟩
        obtain ⟨ℓ, c, e, g1, g2, g3, g4, g5, ⟨vs, g6, g7⟩, g8⟩ := h6.live i o ho
        exact ⟨ℓ, c, e, g1, g2, g3, g4, g5, ⟨vs, g6.ext hx, g7⟩, g8⟩
      obtain ⟨e, a', w', q, r⟩ := wp_ops _ a { w with drawn := w.drawn + 1 } (ops_sound hC hd hp a _ L F K Q h3 h4 (h5.ext hx) h6' fun a' w' L' F' k1 k2 k3 k4 k5 => ⟨rfl, L', F', k1, k2, k3, k4, hx.trans k5⟩) b k cs
      refine fin e a' w' q (.of_steps (.one ?_) r)
      rw [step_region_draw, hsch]
  | @freeze k tm S S' v i o ho _ ih =>
    intro b a w L F K cs h1 h2 h3 h4 h5 h6
    obtain ⟨ℓ, _, _, hl, _⟩ := h6.live i o ho
    obtain ⟨g1, g2⟩ := h6.grow ho hl
    obtain ⟨w', fr, val, L', F', q1, q2, q3, q4, q5, q6⟩ := ih b a w L _ K cs h1 h2 h3 h4 (h5.ext g2) g1
    exact ⟨w', fr, val, L', F', q1, q2, q3, q4, q5, g2.trans q6⟩
  | @seeC k tm S S' v i o ds ho hv _ ih =>
    intro b a w L F K cs h1 h2 h3 h4 h5 h6
    refine ih b a w L F K cs h1 h2 h3 h4 h5 (h6.recell ho hv.1 fun vs hvs => ?_)
    exact (viewL_rel h6 hv hvs).grow fun b hb => hb.elim id fun h => by cases h.1
  | @see k tm S S' v t q hv _ ih =>
    intro b a w L F K cs h1 h2 h3 h4 h5 h6
    have hq : Rel w F L q (a.tmps.getD t Go.undef) := (view_rel h6 hv (h5 t)).grow fun b hb => hb.elim id fun h => by cases h.1
    refine ih b a w L F K cs h1 h2 h3 h4 (fun t' => ?_) h6
    simp only [Tm.put]
    split
    · rename_i e; subst e; exact hq
    · exact h5 t'
theorem enters_ent {f : FuncId} {n : Nat} {c : Code} (h : Enters P f n c) : Ent P f := by
  obtain ⟨fn, h1, h2, _, h4⟩ := h
  exact ⟨fn, c, h1, h2, h4⟩
theorem of_rel {w : World} {F : Nat → Prop} {L : Id → Option Loc} {ps : List PV} {vals : Array Value} {n : Nat} (h : RelA w F L ps vals.toList) :
    TmRel w F L (Tm.of ps) { tmps := vals ++ Array.replicate n Go.undef, defers := [] } := by
  intro t
  simp only [Tm.of, Array.getD_eq_getD_getElem?, Array.getElem?_append]
  have hl : vals.size = ps.length := by simpa using h.1
  by_cases ht : t < ps.length
  · have h1 : ps[t]? = some ps[t] := by simp
    have h2 : vals.toList[t]? = some vals[t] := by simp
    rw [h1, if_pos (by omega)]
    have := h.2 t _ _ h1 h2
    simpa [show t < vals.size by omega] using this
  · have h1 : ps[t]? = none := List.getElem?_eq_none (by omega)
    rw [h1, if_neg (by omega)]
    have : ((Array.replicate n Go.undef)[t - vals.size]?).getD Go.undef = Go.undef := by
      rw [Array.getElem?_replicate]
      split <;> rfl
    rw [this]
    exact .lit _
theorem callD_sound (hm : P.follows .mixedOrders = true) : ∀ d, SoundC P (CallD P d)
  | 0 => fun _ _ _ _ _ h => h.elim
  | d + 1 => by
    intro f ps S r S' h
    obtain ⟨c, hE, hev⟩ := h
    have hg := ev_sound (callD_sound hm d) hm hev
    refine ⟨enters_ent hE, fun vals w L F K hA hi cs => ?_⟩
    obtain ⟨fn, e1, e2, e3, e4⟩ := hE
    have hl : vals.size = ps.length := by simpa using hA.1
    let b : Frame := { (default : Frame) with fn := f, kind := .normal }
    have hnt : ntOf P f = fn.ntmps := by simp [ntOf, e1]
    have henter : Frame.enter P f vals .normal = b.at { tmps := vals ++ Array.replicate (fn.ntmps - vals.size) Go.undef, defers := [] } [.code c] := by
      simp [Frame.enter, Frame.at, e1, e2, b]
    obtain ⟨w', fr, val, L', F', g1, g2, g3, g4, g5, g6⟩ := hg b { tmps := vals ++ Array.replicate (fn.ntmps - vals.size) Go.undef, defers := [] } w L F K cs rfl rfl rfl
      (by simp [hnt]; omega) (of_rel hA) hi
    exact ⟨.returned val, w', fr, ⟨val, L', F', rfl, g4, g5, g6⟩, by rw [henter]; exact g1, g2, g3⟩
theorem call_sound (hm : P.follows .mixedOrders = true) : SoundC P (Call P) := fun f ps S r S' h => by
  obtain ⟨d, h⟩ := h
  exact callD_sound hm d f ps S r S' h
end Go.Abs
end
section
namespace Go.Abs
open Go
variable {P : Program} {f : FuncId} {os : Array Oper} {κ : Nat → Cls}
def Evr (P : Program) (f : FuncId) (k : List Item) (tm : Tm) (S : Sto) (R : PV → Sto → Prop) : Prop := ∃ v S', Ev (Call P) P f k tm S v S' ∧ R v S'
def Opl (P : Program) (os : Array Oper) (κ : Nat → Cls) (i : Nat) (l : List Oper) (tm : Tm) (S : Sto) (K : Tm → Sto → Prop) : Prop :=
  os.toList.drop i = l → ∃ tm1 S1, Ops (Call P) P os κ ((List.range l.length).map (i + ·)) tm S tm1 S1 ∧ K tm1 S1
theorem Opl.nil {i : Nat} {tm : Tm} {S : Sto} {K : Tm → Sto → Prop} (h : K tm S) : Opl P os κ i [] tm S K := fun _ => ⟨tm, S, .nil, h⟩
theorem Opl.cons {i : Nat} {o : Oper} {l : List Oper} {tm : Tm} {S S1 : Sto} {v : PV} {K : Tm → Sto → Prop} (h : Step (Call P) P os (κ i) o tm S v S1) (n : Opl P os κ (i + 1) l (tm.put o.dst v) S1 K) :
    Opl P os κ i (o :: l) tm S K := by
  intro hd
  have ho : os[i]? = some o := by
    have : (os.toList.drop i)[0]? = some o := by rw [hd]; rfl
    rw [List.getElem?_drop] at this
    simpa using this
  have hl : os.toList.drop (i + 1) = l := by rw [← List.drop_drop, hd]; rfl
  obtain ⟨tm1, S2, h1, h2⟩ := n hl
  refine ⟨tm1, S2, ?_, h2⟩
  have : (List.range (o :: l).length).map (i + ·) = i :: (List.range l.length).map (i + 1 + ·) := by
    rw [List.length_cons, List.range_succ_eq_map, List.map_cons, List.map_map]
    simp only [Nat.add_zero, List.cons.injEq, true_and]
    refine List.map_congr_left fun x _ => ?_
    simp only [Function.comp]
    omega
  rw [this]
  exact .cons ho h h1
theorem Evr.region {id : Nat} {draw : Bool} {k : List Item} {tm : Tm} {S : Sto} {R : PV → Sto → Prop} (κ : Nat → Cls) (hd : dstsOk (ntOf P f) os = true) (hi : draw = true → indep os κ = true)
    (h : Opl P os κ 0 os.toList tm S fun tm1 S1 => Evr P f k tm1 S1 R) : Evr P f (.code (.region id os draw) :: k) tm S R := by
  obtain ⟨tm1, S1, h1, v, S', h2, h3⟩ := h rfl
  refine ⟨v, S', .region κ hd hi ?_ h2, h3⟩
  have : (List.range os.toList.length).map (0 + ·) = List.range os.size := by simp
  rw [this] at h1
  exact h1
section
variable {i : Nat} {o : Oper} {l : List Oper} {tm : Tm} {S S1 : Sto} {v : PV} {K : Tm → Sto → Prop}
theorem Opl.skp (h : wantFn os tm o = some false) (n : Opl P os κ (i + 1) l (tm.put o.dst .undef) S K) : Opl P os κ i (o :: l) tm S K := .cons (.skp h) n
theorem Opl.one (hw : wantFn os tm o = some true) (hk : (clsOf o.op).le (κ i) = true) (h : opFn P (o.dst.getD 0) tm.opnd S o.op = some (v, S1)) (n : Opl P os κ (i + 1) l (tm.put o.dst v) S1 K) :
    Opl P os κ i (o :: l) tm S K := .cons (.one hw hk h) n
end
section
variable {k : List Item} {tm : Tm} {S : Sto} {R : PV → Sto → Prop} {a b c : Code}
theorem Evr.fin {v : PV} (h : resOf P f tm S = some v) (hr : R v S) : Evr P f [] tm S R := ⟨v, S, .fin h, hr⟩
theorem Evr.ret {v : PV} (h : resOf P f tm S = some v) (hr : R v S) : Evr P f (.code .ret :: k) tm S R := ⟨v, S, .ret h, hr⟩
theorem Evr.skip (h : Evr P f k tm S R) : Evr P f (.code .skip :: k) tm S R := let ⟨v, S', h1, h2⟩ := h; ⟨v, S', .skip h1, h2⟩
theorem Evr.label {n : Nat} (h : Evr P f k tm S R) : Evr P f (.code (.label n) :: k) tm S R := let ⟨v, S', h1, h2⟩ := h; ⟨v, S', .label h1, h2⟩
theorem Evr.inBlock {n : Nat} (h : Evr P f k tm S R) : Evr P f (.inBlock n :: k) tm S R := let ⟨v, S', h1, h2⟩ := h; ⟨v, S', .inBlock h1, h2⟩
theorem Evr.inScope (h : Evr P f k tm S R) : Evr P f (.inScope c :: k) tm S R := let ⟨v, S', h1, h2⟩ := h; ⟨v, S', .inScope h1, h2⟩
theorem Evr.seq (h : Evr P f (.code a :: .code b :: k) tm S R) : Evr P f (.code (.seq a b) :: k) tm S R := let ⟨v, S', h1, h2⟩ := h; ⟨v, S', .seq h1, h2⟩
theorem Evr.block {n : Nat} (h : Evr P f (.code a :: .inBlock n :: k) tm S R) : Evr P f (.code (.block n a) :: k) tm S R := let ⟨v, S', h1, h2⟩ := h; ⟨v, S', .block h1, h2⟩
theorem Evr.scope (h : Evr P f (.code a :: .inScope a :: k) tm S R) : Evr P f (.code (.scope a) :: k) tm S R := let ⟨v, S', h1, h2⟩ := h; ⟨v, S', .scope h1, h2⟩
theorem Evr.exit {n : Nat} {k' : List Item} (hk : exitTo n k = some k') (h : Evr P f k' tm S R) : Evr P f (.code (.exit n) :: k) tm S R := let ⟨v, S', h1, h2⟩ := h; ⟨v, S', .exit hk h1, h2⟩
theorem Evr.goto {n : Nat} {k' : List Item} (hk : gotoIn n k = some k') (h : Evr P f k' tm S R) : Evr P f (.code (.goto n) :: k) tm S R := let ⟨v, S', h1, h2⟩ := h; ⟨v, S', .goto hk h1, h2⟩
theorem Evr.cond {x : Operand} {t : Bool} (hc : tm.opnd x = .lit (.bool t)) (ht : t = true → Evr P f (.code a :: k) tm S R) (hf : t = false → Evr P f (.code b :: k) tm S R) : Evr P f (.code (.cond x a b) :: k) tm S R := by
  cases t with
  | true => obtain ⟨v, S', h1, h2⟩ := ht rfl; exact ⟨v, S', .cond hc h1, h2⟩
  | false => obtain ⟨v, S', h1, h2⟩ := hf rfl; exact ⟨v, S', .cond hc h1, h2⟩
theorem Evr.loop (h : Evr P f (.inLoop a :: k) tm S R) : Evr P f (.code (.loop a) :: k) tm S R := by
  obtain ⟨v, S', h1, h2⟩ := h
  generalize hk : Item.inLoop a :: k = k' at h1
  suffices ∀ k' tm S v S', Ev (Call P) P f k' tm S v S' → k' = Item.inLoop a :: k → Ev (Call P) P f (.code (.loop a) :: k) tm S v S' from ⟨v, S', this _ _ _ _ _ h1 hk.symm, h2⟩
  intro k' tm S v S' h
  induction h with
  | inLoop h ih => intro e; injection e with e1 e2; injection e1 with e1; subst e1 e2; exact .loop h
  | freeze i ho h ih => intro e; exact .freeze i ho (ih e)
  | seeC i ho hv h ih => intro e; exact .seeC i ho hv (ih e)
  | see t hv h ih => intro e; exact .see t hv (ih e)
  | fin => intro e; cases e
  | _ => intro e; injection e with e1 e2; first | cases e1 | (injection e1)
theorem Evr.round (h : Evr P f (.code a :: .inLoop a :: k) tm S R) : Evr P f (.inLoop a :: k) tm S R := let ⟨v, S', h1, h2⟩ := h; ⟨v, S', .inLoop h1, h2⟩
theorem Evr.rounds {Inv : Nat → Tm → Sto → Prop} {n : Nat} (h : Inv n tm S) (h0 : ∀ tm S, Inv 0 tm S → False)
    (hs : ∀ n, (∀ m, m ≤ n → ∀ tm S, Inv m tm S → Evr P f (.inLoop a :: k) tm S R) → ∀ tm S, Inv (n + 1) tm S → Evr P f (.code a :: .inLoop a :: k) tm S R) : Evr P f (.inLoop a :: k) tm S R := by
  have : ∀ n m, m ≤ n → ∀ tm S, Inv m tm S → Evr P f (.inLoop a :: k) tm S R := by
    intro n
    induction n with
    | zero => intro m hm tm S h; obtain rfl : m = 0 := by omega
              exact (h0 tm S h).elim
    | succ n ih =>
      intro m hm tm S h
      cases m with
      | zero => exact (h0 tm S h).elim
      | succ m => exact .round (hs m (fun m' hm' => ih m' (by omega)) tm S h)
  exact this n n (Nat.le_refl _) tm S h
theorem Evr.condT {x : Operand} (hc : tm.opnd x = .lit (.bool true)) (h : Evr P f (.code a :: k) tm S R) : Evr P f (.code (.cond x a b) :: k) tm S R := .cond hc (fun _ => h) (fun h => by cases h)
theorem Evr.condF {x : Operand} (hc : tm.opnd x = .lit (.bool false)) (h : Evr P f (.code b :: k) tm S R) : Evr P f (.code (.cond x a b) :: k) tm S R := .cond hc (fun h => by cases h) (fun _ => h)
theorem Evr.join (J : Tm → Sto → Prop) (n : ∀ tm S, J tm S → Evr P f k tm S R) (h : (∀ tm S, J tm S → Evr P f k tm S R) → Evr P f (.code c :: k) tm S R) : Evr P f (.code c :: k) tm S R := h n
theorem Evr.ret1 {fn : Func} {t : Tmp} (h1 : P.funcs[f]? = some fn) (h2 : fn.results.toList = [.tmp t]) (hr : R (tm t) S) : Evr P f (.code .ret :: k) tm S R :=
  .ret (v := tm t) (by simp only [resOf, h1, h2]; rfl) hr
theorem Evr.ret2 {fn : Func} {t u : Tmp} (h1 : P.funcs[f]? = some fn) (h2 : fn.results.toList = [.tmp t, .tmp u]) (hr : R (.tup [tm t, tm u]) S) : Evr P f (.code .ret :: k) tm S R :=
  .ret (v := .tup [tm t, tm u]) (by simp only [resOf, h1, h2]; rfl) hr
theorem Evr.ret3 {fn : Func} {t u w : Tmp} (h1 : P.funcs[f]? = some fn) (h2 : fn.results.toList = [.tmp t, .tmp u, .tmp w]) (hr : R (.tup [tm t, tm u, tm w]) S) : Evr P f (.code .ret :: k) tm S R :=
  .ret (v := .tup [tm t, tm u, tm w]) (by simp only [resOf, h1, h2]; rfl) hr
end
def Ret (P : Program) (f : FuncId) (ps : List PV) (R : PV → Sto → Prop) : Prop := ∃ r S, Call P f ps .empty r S ∧ R r S
theorem ops_up {C C' : CallP} (hC : ∀ f ps S r S', C f ps S r S' → C' f ps S r S') {is : List Nat} {tm tm' : Tm} {S S' : Sto} (h : Ops C P os κ is tm S tm' S') : Ops C' P os κ is tm S tm' S' := by
  induction h with
  | nil => exact .nil
  | cons ho hs hr ih =>
    refine .cons ho ?_ ih
    cases hs with
    | skp h => exact .skp h
    | one h1 h2 h3 => exact .one h1 h2 h3
    | oneP h1 h2 => exact .oneP h1 h2
    | callP h1 h2 ho hc hv hp h hw hq => exact .callP h1 h2 ho hc hv hp (hC _ _ _ _ _ h) hw hq
    | callB h1 h2 ho hc hv hp h hw => exact .callB h1 h2 ho hc hv hp (hC _ _ _ _ _ h) hw
    | callA h1 h2 ho hc hv hp h hob hz hoff hd hpl hs => exact .callA h1 h2 ho hc hv hp (hC _ _ _ _ _ h) hob hz hoff hd hpl hs
    | callG h1 h2 ho hc hv hp h hkeep hw => exact .callG h1 h2 ho hc hv hp (hC _ _ _ _ _ h) hkeep hw
    | callS h1 h2 ho hc h => exact .callS h1 h2 ho hc (hC _ _ _ _ _ h)
theorem ev_up {C C' : CallP} (hC : ∀ f ps S r S', C f ps S r S' → C' f ps S r S') {k : List Item} {tm : Tm} {S S' : Sto} {v : PV} (h : Ev C P f k tm S v S') : Ev C' P f k tm S v S' := by
  induction h with
  | fin h => exact .fin h
  | ret h => exact .ret h
  | skip _ ih => exact .skip ih
  | label _ ih => exact .label ih
  | inBlock _ ih => exact .inBlock ih
  | inScope _ ih => exact .inScope ih
  | seq _ ih => exact .seq ih
  | cond hc _ ih => exact .cond hc ih
  | block _ ih => exact .block ih
  | scope _ ih => exact .scope ih
  | loop _ ih => exact .loop ih
  | inLoop _ ih => exact .inLoop ih
  | exit hk _ ih => exact .exit hk ih
  | goto hk _ ih => exact .goto hk ih
  | region κ hd hi ho _ ih => exact .region κ hd hi (ops_up hC ho) ih
  | freeze i ho _ ih => exact .freeze i ho ih
  | seeC i ho hv _ ih => exact .seeC i ho hv ih
  | see t hv _ ih => exact .see t hv ih
theorem callD_mono : ∀ {d e : Nat}, d ≤ e → ∀ f ps S r S', CallD P d f ps S r S' → CallD P e f ps S r S'
  | 0, _, _, _, _, _, _, _, h => h.elim
  | d + 1, 0, h, _, _, _, _, _, _ => by omega
  | d + 1, e + 1, h, f, ps, S, r, S', ⟨c, h1, h2⟩ => ⟨c, h1, ev_up (fun _ _ _ _ _ h => callD_mono (Nat.le_of_succ_le_succ ‹_›) _ _ _ _ _ h) h2⟩
theorem ops_bound {is : List Nat} {tm tm' : Tm} {S S' : Sto} (h : Ops (Call P) P os κ is tm S tm' S') : ∃ d, Ops (CallD P d) P os κ is tm S tm' S' := by
  induction h with
  | nil => exact ⟨0, .nil⟩
  | cons ho hs hr ih =>
    obtain ⟨d, ih⟩ := ih
    have up : ∀ {e}, d ≤ e → _ := fun {e} he => ops_up (callD_mono (P := P) he) ih
    cases hs with
    | skp h => exact ⟨d, .cons ho (.skp h) ih⟩
    | one h1 h2 h3 => exact ⟨d, .cons ho (.one h1 h2 h3) ih⟩
    | oneP h1 h2 => exact ⟨d, .cons ho (.oneP h1 h2) ih⟩
    | callP h1 h2 ho' hc hv hp h hw hq =>
      obtain ⟨e, h⟩ := h
      exact ⟨max d e, .cons ho (.callP h1 h2 ho' hc hv hp (callD_mono (Nat.le_max_right _ _) _ _ _ _ _ h) hw hq) (up (Nat.le_max_left _ _))⟩
    | callB h1 h2 ho' hc hv hp h hw =>
      obtain ⟨e, h⟩ := h
      exact ⟨max d e, .cons ho (.callB h1 h2 ho' hc hv hp (callD_mono (Nat.le_max_right _ _) _ _ _ _ _ h) hw) (up (Nat.le_max_left _ _))⟩
    | callA h1 h2 ho' hc hv hp h hob hz hoff hd hpl hs =>
      obtain ⟨e, h⟩ := h
      exact ⟨max d e, .cons ho (.callA h1 h2 ho' hc hv hp (callD_mono (Nat.le_max_right _ _) _ _ _ _ _ h) hob hz hoff hd hpl hs) (up (Nat.le_max_left _ _))⟩
    | callG h1 h2 ho' hc hv hp h hkeep hw =>
      obtain ⟨e, h⟩ := h
      exact ⟨max d e, .cons ho (.callG h1 h2 ho' hc hv hp (callD_mono (Nat.le_max_right _ _) _ _ _ _ _ h) hkeep hw) (up (Nat.le_max_left _ _))⟩
    | callS h1 h2 ho' hc h =>
      obtain ⟨e, h⟩ := h
      exact ⟨max d e, .cons ho (.callS h1 h2 ho' hc (callD_mono (Nat.le_max_right _ _) _ _ _ _ _ h)) (up (Nat.le_max_left _ _))⟩
theorem ev_bound {k : List Item} {tm : Tm} {S S' : Sto} {v : PV} (h : Ev (Call P) P f k tm S v S') : ∃ d, Ev (CallD P d) P f k tm S v S' := by
  induction h with
  | fin h => exact ⟨0, .fin h⟩
  | ret h => exact ⟨0, .ret h⟩
  | skip _ ih => exact ih.imp fun _ => .skip
  | label _ ih => exact ih.imp fun _ => .label
  | inBlock _ ih => exact ih.imp fun _ => .inBlock
  | inScope _ ih => exact ih.imp fun _ => .inScope
  | seq _ ih => exact ih.imp fun _ => .seq
  | cond hc _ ih => exact ih.imp fun _ => .cond hc
  | block _ ih => exact ih.imp fun _ => .block
  | scope _ ih => exact ih.imp fun _ => .scope
  | loop _ ih => exact ih.imp fun _ => .loop
  | inLoop _ ih => exact ih.imp fun _ => .inLoop
  | exit hk _ ih => exact ih.imp fun _ => .exit hk
  | goto hk _ ih => exact ih.imp fun _ => .goto hk
  | region κ hd hi ho _ ih =>
    obtain ⟨d, ih⟩ := ih
    obtain ⟨e, ho⟩ := ops_bound ho
    exact ⟨max d e, .region κ hd hi (ops_up (callD_mono (Nat.le_max_right _ _)) ho) (ev_up (callD_mono (Nat.le_max_left _ _)) ih)⟩
  | freeze i ho _ ih => exact ih.imp fun _ => .freeze i ho
  | seeC i ho hv _ ih => exact ih.imp fun _ => .seeC i ho hv
  | see t hv _ ih => exact ih.imp fun _ => .see t hv
theorem Ret.intro {fn : Func} {c : Code} {ps : List PV} {R : PV → Sto → Prop} (h1 : P.funcs[f]? = some fn) (h2 : fn.body = some c) (h3 : ps.length ≤ fn.ntmps) (h4 : (fn.name == "runtime.NumGoroutine") = false)
    (h : Evr P f [.code c] (Tm.of ps) .empty R) : Ret P f ps R := by
  obtain ⟨r, S, h5, h6⟩ := h
  obtain ⟨d, h5⟩ := ev_bound h5
  exact ⟨r, S, ⟨d + 1, c, ⟨fn, h1, h2, h3, h4⟩, h5⟩, h6⟩
def puts (b : Tm) : List (Nat × PV) → Tm
  | [] => b
  | (t, v) :: l => (puts b l).put (some t) v
def Has (tm : Tm) : List (Nat × PV) → Prop
  | [] => True
  | (t, v) :: l => tm t = v ∧ Has tm l
theorem Has.eq {tm : Tm} : ∀ {l : List (Nat × PV)}, Has tm l → tm = puts tm l
  | [], _ => rfl
  | (t, v) :: l, ⟨h1, h2⟩ => by
    rw [puts, ← h2.eq]
    funext u
    simp only [Tm.put]
    split
    · rename_i e; rw [e]; exact h1
    · rfl
theorem tm1 (a : PV) : Tm.of [a] = Tm.put (fun _ => .undef) (some 0) a := by
  funext t; match t with
  | 0 => rfl
  | t + 1 => rfl
theorem tm2 (a b : PV) : Tm.of [a, b] = Tm.put (Tm.put (fun _ => .undef) (some 0) a) (some 1) b := by
  funext t; match t with
  | 0 => rfl
  | 1 => rfl
  | t + 2 => rfl
theorem tm3 (a b c : PV) : Tm.of [a, b, c] = Tm.put (Tm.put (Tm.put (fun _ => .undef) (some 0) a) (some 1) b) (some 2) c := by
  funext t; match t with
  | 0 => rfl
  | 1 => rfl
  | 2 => rfl
  | t + 3 => rfl
def stdκ (os : Array Oper) (i : Nat) : Cls := match os[i]? with | some o => clsOf o.op | none => .n
theorem Evr.regionD {id : Nat} {k : List Item} {tm : Tm} {S : Sto} {R : PV → Sto → Prop} (hd : dstsOk (ntOf P f) os = true) (hi : indep os (stdκ os) = true)
    (h : Opl P os (stdκ os) 0 os.toList tm S fun tm1 S1 => Evr P f k tm1 S1 R) : Evr P f (.code (.region id os true) :: k) tm S R := .region _ hd (fun _ => hi) h
theorem Evr.regionN {id : Nat} {k : List Item} {tm : Tm} {S : Sto} {R : PV → Sto → Prop} (hd : dstsOk (ntOf P f) os = true)
    (h : Opl P os (fun _ => .n) 0 os.toList tm S fun tm1 S1 => Evr P f k tm1 S1 R) : Evr P f (.code (.region id os false) :: k) tm S R := .region _ hd (fun h => by cases h) h
end Go.Abs
end
section
namespace Go.Abs
open Go Go.RowKit
structure Cd (α : Type) where
  n : Nat
  R : α → List PV → Prop
  len : ∀ {a c}, R a c → c.length = n
  plain : ∀ {a c}, R a c → ∀ p ∈ c, Plain p
def Rows {α : Type} (K : Cd α) : List α → List PV → Prop
  | [], cs => cs = []
  | a :: l, cs => ∃ c r, cs = c ++ r ∧ K.R a c ∧ Rows K l r
def Sl {α : Type} (K : Cd α) (l : List α) (v : PV) : Prop := (v = .lit (.slice none 0 0) ∧ l = []) ∨ ∃ cs, v = .sl cs l.length ∧ Rows K l cs
section
variable {α : Type} {K : Cd α}
theorem Rows.length : ∀ {l : List α} {cs : List PV}, Rows K l cs → cs.length = l.length * K.n
  | [], cs, h => by rw [show cs = [] from h]; simp
  | a :: l, cs, ⟨c, r, h1, h2, h3⟩ => by rw [h1, List.length_append, K.len h2, h3.length, List.length_cons, Nat.add_mul]; omega
theorem Rows.plain : ∀ {l : List α} {cs : List PV}, Rows K l cs → ∀ p ∈ cs, Plain p
  | [], cs, h, p, hp => by rw [show cs = [] from h] at hp; cases hp
  | a :: l, cs, ⟨c, r, h1, h2, h3⟩, p, hp => by
    rw [h1, List.mem_append] at hp
    exact hp.elim (K.plain h2 p) (h3.plain p)
theorem Rows.append : ∀ {l m : List α} {cs ds : List PV}, Rows K l cs → Rows K m ds → Rows K (l ++ m) (cs ++ ds)
  | [], m, cs, ds, h, k => by rw [show cs = [] from h]; exact k
  | a :: l, m, cs, ds, ⟨c, r, h1, h2, h3⟩, k => ⟨c, r ++ ds, by rw [h1, List.append_assoc], h2, h3.append k⟩
theorem Rows.one {a : α} {c : List PV} (h : K.R a c) : Rows K [a] c := ⟨c, [], by simp, h, rfl⟩
theorem Rows.get : ∀ {l : List α} {cs : List PV}, Rows K l cs → ∀ (j : Nat) (hj : j < l.length), ∃ c r, cs.drop (j * K.n) = c ++ r ∧ K.R l[j] c
  | a :: l, cs, ⟨c, r, h1, h2, h3⟩, 0, _ => ⟨c, r, by simp [h1], h2⟩
  | a :: l, cs, ⟨c, r, h1, h2, h3⟩, j + 1, hj => by
    obtain ⟨c', r', g1, g2⟩ := h3.get j (by simpa using hj)
    refine ⟨c', r', ?_, g2⟩
    rw [h1, ← g1, show (j + 1) * K.n = c.length + j * K.n by rw [K.len h2, Nat.add_mul]; omega, ← List.drop_drop]
    simp
theorem Rows.set : ∀ {l : List α} {cs : List PV}, Rows K l cs → ∀ (j : Nat), j < l.length → ∀ {a : α} {c : List PV}, K.R a c → Rows K (l.set j a) (putAt cs (j * K.n) c)
  | x :: l, cs, ⟨c, r, h1, h2, h3⟩, 0, _, a, d, hd => by
    refine ⟨d, r, ?_, hd, h3⟩
    subst h1
    unfold putAt
    rw [Nat.zero_mul, List.take_zero, List.nil_append, Nat.zero_add, K.len hd, ← K.len h2]
    simp
  | x :: l, cs, ⟨c, r, h1, h2, h3⟩, j + 1, hj, a, d, hd => by
    refine ⟨c, putAt r (j * K.n) d, ?_, h2, h3.set j (by simpa using hj) hd⟩
    subst h1
    unfold putAt
    have e : (j + 1) * K.n = c.length + j * K.n := by rw [K.len h2, Nat.add_mul]; omega
    rw [e, List.take_append, List.take_of_length_le (by omega), Nat.add_sub_cancel_left, Nat.add_assoc, ← List.drop_drop]
    simp
theorem Rows.rep {z : α} {c : List PV} (h : K.R z c) : ∀ n, Rows K (List.replicate n z) (repL n c)
  | 0 => rfl
  | n + 1 => ⟨c, repL n c, by simp [repL, List.replicate_succ], h, Rows.rep h n⟩
theorem Rows.take : ∀ {l : List α} {cs : List PV}, Rows K l cs → ∀ j, Rows K (l.take j) (cs.take (j * K.n))
  | _, _, _, 0 => by simp [Rows]
  | [], cs, h, j + 1 => by rw [show cs = [] from h]; simp [Rows]
  | a :: l, cs, ⟨c, r, h1, h2, h3⟩, j + 1 => by
    refine ⟨c, r.take (j * K.n), ?_, h2, h3.take j⟩
    rw [h1, List.take_append, Nat.add_mul, List.take_of_length_le (by rw [K.len h2]; omega), K.len h2]
    congr 2; omega
theorem Rows.drop : ∀ {l : List α} {cs : List PV}, Rows K l cs → ∀ j, Rows K (l.drop j) (cs.drop (j * K.n))
  | _, _, h, 0 => by simpa using h
  | [], cs, h, j + 1 => by rw [show cs = [] from h]; simp [Rows]
  | a :: l, cs, ⟨c, r, h1, h2, h3⟩, j + 1 => by
    have := h3.drop j
    rw [h1, show (j + 1) * K.n = c.length + j * K.n by rw [K.len h2, Nat.add_mul]; omega, ← List.drop_drop]
    simpa using this
theorem Sl.nil : Sl K [] (.lit (.slice none 0 0)) := .inl ⟨rfl, rfl⟩
theorem Sl.rows {l : List α} {cs : List PV} (h : Rows K l cs) : Sl K l (.sl cs l.length) := .inr ⟨cs, rfl, h⟩
theorem Sl.plain {l : List α} {v : PV} (h : Sl K l v) : Plain v := by
  rcases h with ⟨rfl, _⟩ | ⟨cs, rfl, h⟩
  · exact .lit _
  · exact .sl _ h.plain
theorem Sl.len {l : List α} {v : PV} (h : Sl K l v) : v.len? = some l.length := by
  rcases h with ⟨rfl, rfl⟩ | ⟨cs, rfl, h⟩ <;> rfl
theorem Sl.row {l : List α} {v : PV} (h : Sl K l v) (S : Sto) : ∃ cs, S.rowOf K.n v = some cs ∧ Rows K l cs := by
  rcases h with ⟨rfl, rfl⟩ | ⟨cs, rfl, h⟩
  · exact ⟨[], rfl, rfl⟩
  · refine ⟨cs, ?_, h⟩
    have := h.length
    simp only [Sto.rowOf]
    rw [if_pos (by omega), List.take_of_length_le (by omega)]
theorem Sl.at {l : List α} {v : PV} (h : Sl K l v) {j : Nat} (hj : j < l.length) : ∃ c r, v.elem (j * K.n) = some (.fel (c ++ r)) ∧ K.R l[j] c := by
  rcases h with ⟨rfl, rfl⟩ | ⟨cs, rfl, h⟩
  · simp at hj
  · obtain ⟨c, r, h1, h2⟩ := h.get j hj
    exact ⟨c, r, by simp [PV.elem, h1], h2⟩
theorem Sl.part {l : List α} {v : PV} (h : Sl K l v) (S : Sto) {a b : Nat} (h1 : a ≤ b) (h2 : b ≤ l.length) : ∃ q, S.part v K.n a b = some q ∧ Sl K ((l.drop a).take (b - a)) q := by
  rcases h with ⟨rfl, rfl⟩ | ⟨cs, rfl, h⟩
  · simp at h2
    exact ⟨.lit (.slice none 0 0), by simp [Sto.part, h2], .inl ⟨rfl, by simp⟩⟩
  · refine ⟨.sl ((cs.drop (a * K.n)).take ((b - a) * K.n)) (b - a), by simp [Sto.part, h1, h2], ?_⟩
    have := Sl.rows ((h.drop a).take (b - a))
    rwa [show ((l.drop a).take (b - a)).length = b - a by simp; omega] at this
end
def cInt (k : IntKind) : Cd Int := ⟨1, fun a c => c = [.lit (.int k a)], fun h => by rw [h]; rfl, fun h p hp => by rw [h] at hp; obtain rfl := List.mem_singleton.1 hp; exact .lit _⟩
def cBool : Cd Bool := ⟨1, fun a c => c = [.lit (.bool a)], fun h => by rw [h]; rfl, fun h p hp => by rw [h] at hp; obtain rfl := List.mem_singleton.1 hp; exact .lit _⟩
def cSl {α : Type} (K : Cd α) : Cd (List α) := ⟨1, fun a c => ∃ v, c = [v] ∧ Sl K a v, fun ⟨v, h, _⟩ => by rw [h]; rfl, fun ⟨v, h, hs⟩ p hp => by rw [h] at hp; obtain rfl := List.mem_singleton.1 hp; exact hs.plain⟩
def cPair {α β : Type} (K : Cd α) (M : Cd β) : Cd (α × β) := ⟨K.n + M.n, fun a c => ∃ c1 c2, c = c1 ++ c2 ∧ K.R a.1 c1 ∧ M.R a.2 c2,
  fun ⟨c1, c2, h, h1, h2⟩ => by rw [h, List.length_append, K.len h1, M.len h2],
  fun ⟨c1, c2, h, h1, h2⟩ p hp => by rw [h, List.mem_append] at hp; exact hp.elim (K.plain h1 p) (M.plain h2 p)⟩
def cIso {α β : Type} (K : Cd β) (g : α → β) : Cd α := ⟨K.n, fun a c => K.R (g a) c, fun h => K.len h, fun h => K.plain h⟩
def Live (S : Sto) (i : Id) (o : Obj) : Prop := S.obj i = some o ∧ i.g < S.gen i.s
def Vec {α : Type} (K : Cd α) (l : List α) (v : PV) (S : Sto) : Prop :=
  (v = .lit (.slice none 0 0) ∧ l = []) ∨ ∃ i cs, v = .loc i 0 l.length ∧ Live S i ⟨cs, K.n, false⟩ ∧ Rows K l cs
theorem obj_add (S : Sto) (s : Nat) (o : Obj) (i : Id) : (S.add s o).obj i = if i = S.next s then some o else S.obj i := rfl
theorem obj_set (S : Sto) (j : Id) (o : Obj) (i : Id) : (S.set j o).obj i = if i = j then some o else S.obj i := rfl
theorem obj_del (S : Sto) (j : Id) (i : Id) : (S.del j).obj i = if i = j then none else S.obj i := rfl
section
variable {S : Sto} {i j : Id} {o o' : Obj} {s : Nat}
theorem Live.new : Live (S.add s o) (S.next s) o := ⟨by rw [obj_add, if_pos rfl], by simp [Sto.next, Sto.add]⟩
theorem Live.ne_next (h : Live S i o) : i ≠ S.next s := fun e => by
  have := h.2
  rw [e] at this
  exact absurd this (Nat.lt_irrefl _)
theorem Live.add (h : Live S i o) : Live (S.add s o') i o :=
  ⟨by rw [obj_add, if_neg h.ne_next]; exact h.1, by have := h.2; simp only [Sto.add]; split <;> first | (rename_i e; rw [← e]; omega) | exact this⟩
theorem Live.set (h : Live S i o) (hn : i ≠ j) : Live (S.set j o') i o := ⟨by rw [obj_set, if_neg hn]; exact h.1, h.2⟩
theorem Live.set_same (h : Live S i o) : Live (S.set i o') i o' := ⟨by rw [obj_set, if_pos rfl], h.2⟩
theorem Live.del (h : Live S i o) (hn : i ≠ j) : Live (S.del j) i o := ⟨by rw [obj_del, if_neg hn]; exact h.1, h.2⟩
end
def Out (R : PV → Prop) (v : PV) (S : Sto) : Prop := ∃ q, View S false v q ∧ Plain q ∧ R q
theorem Out.sl {α : Type} {K : Cd α} {l : List α} {v : PV} {S : Sto} (h : Sl K l v) : Out (Sl K l) v S := ⟨v, .refl v, h.plain, h⟩
theorem View.row {S : Sto} {z : Bool} {i : Id} {o : Obj} {n : Nat} (h : S.obj i = some o) (hz : z = true → o.frz = true) (hl : o.cells.length = n * o.es) : View S z (.loc i 0 n) (.sl o.cells n) := by
  have e : (o.cells.drop 0).take (n * o.es) = o.cells := by rw [List.drop_zero, ← hl, List.take_length]
  refine .loc h hz (by rw [e]) (fun j c d h1 h2 => ?_)
  rw [e] at h1
  rw [h1] at h2
  obtain rfl := Option.some.inj h2
  exact .refl c
theorem Out.vec {α : Type} {K : Cd α} {l : List α} {v : PV} {S : Sto} (h : Vec K l v S) : Out (Sl K l) v S := by
  rcases h with ⟨rfl, rfl⟩ | ⟨i, cs, rfl, h1, h2⟩
  · exact ⟨_, .refl _, .lit _, .nil⟩
  · exact ⟨.sl cs l.length, View.row h1.1 (fun h => by cases h) h2.length, .sl _ h2.plain, .rows h2⟩
end Go.Abs
end
