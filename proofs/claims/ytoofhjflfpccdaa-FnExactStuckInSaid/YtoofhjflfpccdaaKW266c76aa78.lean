/- Words for walks: plain theorems on memory, rows and numbers, each under the conditions that it names. -/
import Derived.Attr
import Derived.RowKit
import Derived.Laws.Slices
import Derived.Laws.MakeOwn
import Derived.Laws.Append
import Derived.Laws.AppendOwn
import Derived.Laws.IdiomCopy
import Derived.Laws.Entries
import Derived.Calls
import Derived.Laws.Sem
import Derived.Below
import Derived.ChangeArms
import Derived.ChangeSlices
import Derived.Deep.Slices
import Derived.Test.YtoofhjflfpccdaaKW10df1d32e9
section
namespace Go.Abs
open Go Go.RowKit
def PL : List PV → Prop
  | [] => True
  | p :: ps => Plain p ∧ PL ps
theorem PL.all : ∀ {ps : List PV}, PL ps → ∀ p ∈ ps, Plain p
  | _ :: _, ⟨h, _⟩, _, hp => by
    rcases List.mem_cons.1 hp with rfl | hp
    · exact h
    · exact PL.all (by assumption) _ hp
theorem Plain.aggL {cs : List PV} (h : PL cs) : Plain (.agg cs) := .agg h.all
theorem Plain.tupL {cs : List PV} (h : PL cs) : Plain (.tup cs) := .tup h.all
theorem Plain.felL {cs : List PV} (h : PL cs) : Plain (.fel cs) := .fel h.all
def Row {α : Type} (K : Cd α) (l : List α) (v : PV) (S : Sto) : Prop := ∃ ds, S.rowOf K.n v = some ds ∧ Rows K l ds ∧ v.len? = some l.length
section
variable {α : Type} {M : Cd α}
theorem Row.sl {l : List α} {v : PV} {S : Sto} (h : Sl M l v) : Row M l v S := by
  obtain ⟨ds, h1, h2⟩ := h.row S
  exact ⟨ds, h1, h2, h.len⟩
theorem Row.vec {l : List α} {v : PV} {S : Sto} (h : Vec M l v S) : Row M l v S := by
  rcases h with ⟨rfl, rfl⟩ | ⟨i, cs, rfl, h1, h2⟩
  · exact ⟨[], rfl, rfl, rfl⟩
  · refine ⟨cs, ?_, h2, rfl⟩
    have := h2.length
    simp only [Sto.rowOf, h1.1, Nat.zero_add, List.drop_zero]
    rw [if_pos (by omega), List.take_of_length_le (by omega)]
theorem Vec.len {l : List α} {v : PV} {S : Sto} (h : Vec M l v S) : v.len? = some l.length := by
  rcases h with ⟨rfl, rfl⟩ | ⟨i, cs, rfl, h1, h2⟩ <;> rfl
theorem Vec.nil {S : Sto} : Vec M [] (.lit (.slice none 0 0)) S := .inl ⟨rfl, rfl⟩
def Cd.Ones (M : Cd α) : Prop := ∀ a c, M.R a c → ∀ p ∈ c, p.one = true
theorem Rows.ones (h1 : M.Ones) : ∀ {l : List α} {cs : List PV}, Rows M l cs → ∀ p ∈ cs, p.one = true
  | [], cs, h, p, hp => by rw [show cs = [] from h] at hp; cases hp
  | a :: l, cs, ⟨c, r, e, h2, h3⟩, p, hp => by
    rw [e, List.mem_append] at hp
    exact hp.elim (h1 a c h2 p) (Rows.ones h1 h3 p)
end
theorem oInt (k : IntKind) : (cInt k).Ones := fun a c h p hp => by rw [show c = _ from h] at hp; obtain rfl := List.mem_singleton.1 hp; rfl
theorem oSl {α : Type} (M : Cd α) : (cSl M).Ones := fun a c ⟨v, h, hs⟩ p hp => by
  rw [h] at hp; obtain rfl := List.mem_singleton.1 hp
  rcases hs with ⟨rfl, _⟩ | ⟨cs, rfl, _⟩ <;> rfl
theorem fill_row {es : Nat} : ∀ (xs : List PV) (pre rest : List PV) (k : Nat), (∀ x ∈ xs, x.cells.length = es) → pre.length = k * es → rest.length = xs.length * es →
    fillL (fun i => some (i * es, es)) (pre ++ rest) ((xs.zipIdx k).map fun x => (x.2, x.1)) = some (pre ++ (xs.map PV.cells).flatten)
  | [], pre, rest, k, _, _, h3 => by
    have : rest = [] := List.eq_nil_of_length_eq_zero (by simpa using h3)
    simp [fillL, this]
  | x :: xs, pre, rest, k, h1, h2, h3 => by
    have hx := h1 x (by simp)
    have hr : es ≤ rest.length := by rw [h3, List.length_cons, Nat.add_mul]; omega
    simp only [List.zipIdx_cons, List.map_cons, fillL]
    rw [if_neg (by simp [hx, h2]; omega)]
    have hput : putAt (pre ++ rest) (k * es) x.cells = (pre ++ x.cells) ++ rest.drop es := by
      unfold putAt
      rw [← h2, List.take_left', List.drop_append, hx]
      · simp [List.drop_eq_nil_of_le]
      · rfl
    rw [hput, fill_row xs (pre ++ x.cells) (rest.drop es) (k + 1) (fun y hy => h1 y (by simp [hy])) (by simp [h2, hx, Nat.add_mul]) (by simp [h3, Nat.add_mul])]
    simp
def RowsL {α : Type} (M : Cd α) : List α → List PV → Prop
  | [], [] => True
  | a :: l, x :: xs => M.R a x.cells ∧ RowsL M l xs
  | _, _ => False
theorem RowsL.rows {α : Type} {M : Cd α} : ∀ {l : List α} {xs : List PV}, RowsL M l xs → Rows M l (xs.map PV.cells).flatten ∧ xs.length = l.length ∧ ∀ x ∈ xs, x.cells.length = M.n
  | [], [], _ => ⟨rfl, rfl, by simp⟩
  | a :: l, x :: xs, ⟨h1, h2⟩ => by
    obtain ⟨g1, g2, g3⟩ := RowsL.rows h2
    refine ⟨⟨x.cells, _, by simp, h1, g1⟩, by simp [g2], fun y hy => ?_⟩
    rcases List.mem_cons.1 hy with rfl | hy
    · exact M.len h1
    · exact g3 y hy
  | [], _ :: _, h => h.elim
  | _ :: _, [], h => h.elim
section
variable {P : Program} {f : FuncId} {os : Array Oper} {κ : Nat → Cls} {i : Nat} {o : Oper} {l : List Oper} {tm : Tm} {S : Sto} {K : Tm → Sto → Prop}
theorem Opl.lenv {α : Type} {M : Cd α} {xs : List α} {t e : TypeId} {x : Operand} {xs' : Array Operand} {ts : Array TypeId} (hv : Vec M xs (tm.opnd x) S) (hk : tkAt P t = some (.slice e)) (hw : wantFn os tm o = some true)
    (ho : o.op = .call ⟨.builtin .len, xs', ts⟩) (h1 : xs'.toList = [x]) (h2 : ts.toList = [t])
    (n : Opl P os κ (i + 1) l (tm.put o.dst (.lit (.int .i64 (xs.length : Nat)))) S K) : Opl P os κ i (o :: l) tm S K := by
  refine Opl.one hw (by rw [ho]; rfl) ?_ n
  rw [ho]
  simp only [opFn, builtinFn, h1, h2, List.map_cons, List.map_nil, pureB, hk, hv.len, Option.map_some, justV]
theorem Opl.lits {α : Type} {M : Cd α} {ys : List α} {t e : TypeId} {te : TI} {len : Nat} {parts : Array (Nat × Operand)} (xs : List Operand) (hk : tkAt P t = some (.slice e)) (ht : tiOf P e = some te) (hs : te.size = M.n) (hzl : te.zero.length = te.size)
    (hp : parts.toList = (xs.zipIdx.map fun x => (x.2, x.1))) (hy : RowsL M ys (xs.map tm.opnd)) (hlen : len = xs.length) (hbig : len * te.size ≤ 16777216)
    (hw : wantFn os tm o = some true) (ho : o.op = .buildSlice t len parts) (hκ : κ i = .n)
    (n : ∀ v S1, Vec M ys v S1 → Up S S1 v → New S v → Opl P os κ (i + 1) l (tm.put o.dst v) S1 K) : Opl P os κ i (o :: l) tm S K := by
  obtain ⟨g1, g2, g3⟩ := hy.rows
  have hl : len = ys.length := by rw [hlen, ← g2]; simp
  have hv : Vec M ys (.loc (S.next (o.dst.getD 0)) 0 len) (S.add (o.dst.getD 0) ⟨((xs.map tm.opnd).map PV.cells).flatten, te.size, false⟩) :=
    .inr ⟨S.next (o.dst.getD 0), _, by rw [hl], by rw [← hs]; exact .new, g1⟩
  refine Opl.one hw (by rw [hκ]; cases clsOf o.op <;> rfl) ?_ (n _ _ hv (.add _) (.next rfl))
  rw [ho]
  simp only [opFn, hk, ht]
  rw [if_pos ⟨hbig, hzl⟩]
  have hpp : (parts.toList.map fun (x : Nat × Operand) => (x.1, tm.opnd x.2)) = ((xs.map tm.opnd).zipIdx 0).map fun x => (x.2, x.1) := by
    rw [hp, List.zipIdx_map, List.map_map, List.map_map]
    rfl
  have := fill_row (es := te.size) (xs.map tm.opnd) [] (repL len (te.zero.map .lit)) 0 (by rw [hs]; exact g3) (by simp) (by rw [repL_length, List.length_map, hzl, g2, hl])
  rw [List.nil_append, List.nil_append] at this
  show Option.map _ (fillL _ _ (parts.toList.map fun (x : Nat × Operand) => (x.1, tm.opnd x.2))) = _
  rw [hpp, this]
  rfl
theorem Opl.app {α : Type} {M : Cd α} {xs ys : List α} {t e : TypeId} {te : TI} {x y : Operand} {v u : PV} {as : Array Operand} {ts : Array TypeId} (hv : Vec M xs v S) (hu : Row M ys u S) (h1 : M.Ones) (hx : tm.opnd x = v) (hy : tm.opnd y = u)
    (hk : tkAt P t = some (.slice e)) (ht : tiOf P e = some te) (hs : te.size = M.n) (hzl : te.zero.length = te.size) (hb1 : xs.length + ys.length ≤ 140737488355328) (hb2 : (xs.length + ys.length) * te.bytes ≤ 140737488355328)
    (hw : wantFn os tm o = some true) (ho : o.op = .call ⟨.builtin .append, as, ts⟩) (ha : as.toList = [x, y]) (hts : ts.toList = [t, t]) (hκ : κ i = .n)
    (n : ∀ v' S1, Vec M (xs ++ ys) v' S1 → Up S S1 v → New S v' → Opl P os κ (i + 1) l (tm.put o.dst v') S1 K) : Opl P os κ i (o :: l) tm S K := by
  obtain ⟨ds, hd1, hd2, hd3⟩ := hu
  have hall : ds.all PV.one = true := by simpa using hd2.ones h1
  rw [← hs] at hd1
  have hop : ∀ r, appendFn P (o.dst.getD 0) S t v u = r → opFn P (o.dst.getD 0) tm.opnd S o.op = r := fun r hr => by
    rw [ho]
    simp only [opFn, builtinFn, ha, hts, List.map_cons, List.map_nil, if_true, hx, hy]
    exact hr
  have hκ' : (clsOf o.op).le (κ i) = true := by rw [hκ]; cases clsOf o.op <;> rfl
  rcases hv with ⟨rfl, rfl⟩ | ⟨d, cs, rfl, h2, h3⟩
  · by_cases hm : ys.length = 0
    · have hys : ys = [] := List.eq_nil_of_length_eq_zero hm
      subst hys
      refine Opl.one hw hκ' (hop (some (.lit (.slice none 0 0), S)) ?_) (n _ S .nil ⟨fun _ _ h _ => h, fun _ => Nat.le_refl _⟩ (fun i o h e => by cases e))
      simp only [appendFn, hk, ht, hd3, hd1, hall, hzl, true_and, if_true, List.length_nil]
    · refine Opl.one hw hκ' (hop (some (.loc (S.next (o.dst.getD 0)) 0 ys.length, S.add (o.dst.getD 0) ⟨ds, te.size, false⟩)) ?_)
        (n (.loc (S.next (o.dst.getD 0)) 0 ys.length) _ (.inr ⟨S.next (o.dst.getD 0), ds, by simp, by rw [← hs]; exact .new, by simpa using hd2⟩) (.add _) (.next rfl))
      simp only [appendFn, hk, ht, hd3, hd1, hall, hzl, true_and, if_true, hm, if_false]
      rw [if_pos]
      simp only [List.length_nil, Nat.zero_add] at hb1 hb2
      exact ⟨hb1, hb2⟩
  · have hcl := h3.length
    refine Opl.one hw hκ' (hop (some (.loc (S.next (o.dst.getD 0)) 0 (xs.length + ys.length), (S.del d).add (o.dst.getD 0) ⟨cs ++ ds, te.size, false⟩)) ?_)
      (n (.loc (S.next (o.dst.getD 0)) 0 (xs.length + ys.length)) _ (.inr ⟨S.next (o.dst.getD 0), cs ++ ds, by simp, ?_, h3.append hd2⟩) ⟨fun k q hk hne => (hk.del (fun e => hne (by rw [e]; rfl))).add, (Up.add (S := S.del d) .undef).gen⟩ (.next rfl))
    · simp only [appendFn, hk, ht, hd3, hd1, hall, hzl, true_and, if_true, h2.1]
      rw [if_pos ⟨hs.symm, by rw [hcl, hs, Nat.zero_add], hb1, hb2⟩]
      rfl
    · rw [← hs]; exact Live.new (S := S.del d)
theorem Opl.call {g : FuncId} {x : Operand} {cs : List PV} {as : Array Operand} {ts : Array TypeId} {ps : List PV} {R : PV → Prop} (h : Ret P g ps (Out R)) (hw : wantFn os tm o = some true) (ho : o.op = .call ⟨.value x, as, ts⟩)
    (hc : calleeOf (tm.opnd x) = some (g, cs)) (hp : as.toList.map tm.opnd ++ cs = ps) (hpl : PL ps) (hκ : κ i ≠ .p) (n : ∀ q, R q → Opl P os κ (i + 1) l (tm.put o.dst q) S K) : Opl P os κ i (o :: l) tm S K := by
  obtain ⟨r, S', h1, q, h2, h3, h4⟩ := h
  refine Opl.cons (.callP hw hκ ho (f := g) (cs := cs) hc ⟨by rw [hp], fun j c d e1 e2 => ?_⟩ hpl.all h1 h2 h3) (n q h4)
  rw [hp] at e1
  rw [e1] at e2
  obtain rfl := Option.some.inj e2
  exact .refl c
theorem Opl.callc {g : FuncId} {x : Operand} {cs : List PV} {as : Array Operand} {ts : Array TypeId} {ps : List PV} {c : Value} (h : Ret P g ps fun v _ => v = .lit c) (hw : wantFn os tm o = some true) (ho : o.op = .call ⟨.value x, as, ts⟩)
    (hc : calleeOf (tm.opnd x) = some (g, cs)) (hp : as.toList.map tm.opnd ++ cs = ps) (hpl : PL ps) (hκ : κ i ≠ .p) (n : Opl P os κ (i + 1) l (tm.put o.dst (.lit c)) S K) : Opl P os κ i (o :: l) tm S K :=
  Opl.call (R := fun q => q = .lit c) (let ⟨r, S', h1, h2⟩ := h; ⟨r, S', h1, r, .refl r, h2 ▸ .lit c, h2⟩) hw ho hc hp hpl hκ (fun _ hq => hq ▸ n)
theorem Opl.callw {g : FuncId} {x : Operand} {cs : List PV} {as : Array Operand} {ts : Array TypeId} {ps : List PV} {c : Value} (h : Ret P g ps fun v _ => v = .lit c) (hw : wantFn os tm o = some true) (ho : o.op = .call ⟨.value x, as, ts⟩)
    (hc : calleeOf (tm.opnd x) = some (g, cs)) (hp : ViewL S false (as.toList.map tm.opnd ++ cs) ps) (hpl : PL ps) (hκ : κ i ≠ .p) (n : Opl P os κ (i + 1) l (tm.put o.dst (.lit c)) S K) : Opl P os κ i (o :: l) tm S K := by
  obtain ⟨r, S', h1, rfl⟩ := h
  exact Opl.cons (.callB hw hκ ho (f := g) (cs := cs) hc hp hpl.all h1 (.lit c)) n
theorem Opl.calla {α : Type} {M : Cd α} {xs : List α} {g : FuncId} {x : Operand} {cs : List PV} {as : Array Operand} {ts : Array TypeId} {ps : List PV} (h : Ret P g ps fun v S => Vec M xs v S) (hw : wantFn os tm o = some true) (ho : o.op = .call ⟨.value x, as, ts⟩)
    (hc : calleeOf (tm.opnd x) = some (g, cs)) (hp : as.toList.map tm.opnd ++ cs = ps) (hpl : PL ps) (hκ : κ i = .n) (n : ∀ v S1, Vec M xs v S1 → Up S S1 v → New S v → Opl P os κ (i + 1) l (tm.put o.dst v) S1 K) : Opl P os κ i (o :: l) tm S K := by
  have hview : ViewL S true (as.toList.map tm.opnd ++ cs) ps := ⟨by rw [hp], fun j c d e1 e2 => by
    rw [hp] at e1
    rw [e1] at e2
    obtain rfl := Option.some.inj e2
    exact .refl c⟩
  obtain ⟨r, S', h1, h2⟩ := h
  rcases h2 with ⟨rfl, rfl⟩ | ⟨d, ds, rfl, h3, h4⟩
  · exact Opl.cons (.callP hw (by rw [hκ]; decide) ho (f := g) (cs := cs) hc hview hpl.all h1 (.refl _) (.lit _)) (n _ S .nil ⟨fun _ _ h _ => h, fun _ => Nat.le_refl _⟩ (fun i o h e => by cases e))
  · refine Opl.cons (.callA (z := true) (ds := ds) hw hκ ho (f := g) (cs := cs) hc hview hpl.all h1 h3.1 rfl (Nat.zero_le _) ⟨by rw [List.drop_zero], fun j c d e1 e2 => ?_⟩ h4.plain (fun h => by cases h))
      (n _ _ (.inr ⟨S.next (o.dst.getD 0), ds, rfl, .new, h4⟩) (.add _) (.next rfl))
    rw [List.drop_zero] at e1
    rw [e1] at e2
    obtain rfl := Option.some.inj e2
    exact .refl c
end
theorem ViewL.nil {S : Sto} {z : Bool} : ViewL S z [] [] := ⟨rfl, fun j c d e => by simp at e⟩
theorem ViewL.cons {S : Sto} {z : Bool} {a b : PV} {cs ds : List PV} (h : View S z a b) (t : ViewL S z cs ds) : ViewL S z (a :: cs) (b :: ds) :=
  ⟨by simp [t.1], fun j c d e1 e2 => match j, e1, e2 with
    | 0, e1, e2 => by simp at e1 e2; subst e1 e2; exact h
    | j + 1, e1, e2 => t.2 j c d (by simpa using e1) (by simpa using e2)⟩
theorem View.fnBox {S : Sto} {f : FuncId} {i : Abs.Id} {cs : List PV} (h : Box (.ptr i 0) cs S) : View S false (.fn f [.ptr i 0]) (.fn f [.fel cs]) := by
  obtain ⟨j, e, h⟩ := h
  injection e with e1 e2; subst e1
  have hv : View S false (.ptr i 0) (.fel cs) := .ptr h.1 (fun h => by cases h) rfl (fun j c d e1 e2 => by
    rw [List.drop_zero] at e1
    rw [e1] at e2
    obtain rfl := Option.some.inj e2
    exact .refl c)
  exact .fn rfl (ViewL.cons hv .nil).2
theorem Plain.fnL {f : FuncId} {cs : List PV} (h : PL cs) : Plain (.fn f cs) := .fn f h.all
theorem Out.lit {c : Value} {S : Sto} : Out (fun q => q = .lit c) (.lit c) S := ⟨_, .refl _, .lit _, rfl⟩
theorem pw2 {R : PV → PV → Prop} {a b c d : PV} (h1 : R a c) (h2 : R b d) : ∀ (j : Nat) x y, [a, b][j]? = some x → [c, d][j]? = some y → R x y
  | 0, x, y, e1, e2 => by simp at e1 e2; subst e1 e2; exact h1
  | 1, x, y, e1, e2 => by simp at e1 e2; subst e1 e2; exact h2
  | j + 2, x, y, e1, _ => by simp at e1
theorem pw3 {R : PV → PV → Prop} {a b e c d f : PV} (h1 : R a c) (h2 : R b d) (h3 : R e f) : ∀ (j : Nat) x y, [a, b, e][j]? = some x → [c, d, f][j]? = some y → R x y
  | 0, x, y, e1, e2 => by simp at e1 e2; subst e1 e2; exact h1
  | 1, x, y, e1, e2 => by simp at e1 e2; subst e1 e2; exact h2
  | 2, x, y, e1, e2 => by simp at e1 e2; subst e1 e2; exact h3
  | j + 3, x, y, e1, _ => by simp at e1
theorem Out.tup2 {R1 R2 : PV → Prop} {a b : PV} {S : Sto} (h1 : Out R1 a S) (h2 : Out R2 b S) : Out (fun q => ∃ q1 q2, q = .tup [q1, q2] ∧ R1 q1 ∧ R2 q2) (.tup [a, b]) S := by
  obtain ⟨c, v1, p1, r1⟩ := h1
  obtain ⟨d, v2, p2, r2⟩ := h2
  exact ⟨.tup [c, d], .tup rfl (pw2 v1 v2), .tupL ⟨p1, p2, trivial⟩, c, d, rfl, r1, r2⟩
theorem Out.tup3 {R1 R2 R3 : PV → Prop} {a b e : PV} {S : Sto} (h1 : Out R1 a S) (h2 : Out R2 b S) (h3 : Out R3 e S) : Out (fun q => ∃ q1 q2 q3, q = .tup [q1, q2, q3] ∧ R1 q1 ∧ R2 q2 ∧ R3 q3) (.tup [a, b, e]) S := by
  obtain ⟨c, v1, p1, r1⟩ := h1
  obtain ⟨d, v2, p2, r2⟩ := h2
  obtain ⟨f, v3, p3, r3⟩ := h3
  exact ⟨.tup [c, d, f], .tup rfl (pw3 v1 v2 v3), .tupL ⟨p1, p2, p3, trivial⟩, c, d, f, rfl, r1, r2, r3⟩
theorem Out.agg2 {R1 R2 : PV → Prop} {a b : PV} {S : Sto} (h1 : Out R1 a S) (h2 : Out R2 b S) : Out (fun q => ∃ q1 q2, q = .agg [q1, q2] ∧ R1 q1 ∧ R2 q2) (.agg [a, b]) S := by
  obtain ⟨c, v1, p1, r1⟩ := h1
  obtain ⟨d, v2, p2, r2⟩ := h2
  exact ⟨.agg [c, d], .agg rfl (pw2 v1 v2), .aggL ⟨p1, p2, trivial⟩, c, d, rfl, r1, r2⟩
theorem Out.agg3 {R1 R2 R3 : PV → Prop} {a b e : PV} {S : Sto} (h1 : Out R1 a S) (h2 : Out R2 b S) (h3 : Out R3 e S) : Out (fun q => ∃ q1 q2 q3, q = .agg [q1, q2, q3] ∧ R1 q1 ∧ R2 q2 ∧ R3 q3) (.agg [a, b, e]) S := by
  obtain ⟨c, v1, p1, r1⟩ := h1
  obtain ⟨d, v2, p2, r2⟩ := h2
  obtain ⟨f, v3, p3, r3⟩ := h3
  exact ⟨.agg [c, d, f], .agg rfl (pw3 v1 v2 v3), .aggL ⟨p1, p2, p3, trivial⟩, c, d, f, rfl, r1, r2, r3⟩
theorem pw4 {R : PV → PV → Prop} {a b e g c d f h : PV} (h1 : R a c) (h2 : R b d) (h3 : R e f) (h4 : R g h) : ∀ (j : Nat) x y, [a, b, e, g][j]? = some x → [c, d, f, h][j]? = some y → R x y
  | 0, x, y, e1, e2 => by simp at e1 e2; subst e1 e2; exact h1
  | 1, x, y, e1, e2 => by simp at e1 e2; subst e1 e2; exact h2
  | 2, x, y, e1, e2 => by simp at e1 e2; subst e1 e2; exact h3
  | 3, x, y, e1, e2 => by simp at e1 e2; subst e1 e2; exact h4
  | j + 4, x, y, e1, _ => by simp at e1
theorem Out.agg4 {R1 R2 R3 R4 : PV → Prop} {a b e g : PV} {S : Sto} (h1 : Out R1 a S) (h2 : Out R2 b S) (h3 : Out R3 e S) (h4 : Out R4 g S) : Out (fun q => ∃ q1 q2 q3 q4, q = .agg [q1, q2, q3, q4] ∧ R1 q1 ∧ R2 q2 ∧ R3 q3 ∧ R4 q4) (.agg [a, b, e, g]) S := by
  obtain ⟨c, v1, p1, r1⟩ := h1
  obtain ⟨d, v2, p2, r2⟩ := h2
  obtain ⟨f, v3, p3, r3⟩ := h3
  obtain ⟨h, v4, p4, r4⟩ := h4
  exact ⟨.agg [c, d, f, h], .agg rfl (pw4 v1 v2 v3 v4), .aggL ⟨p1, p2, p3, p4, trivial⟩, c, d, f, h, rfl, r1, r2, r3, r4⟩
theorem Out.plain {R : PV → Prop} {v : PV} {S : Sto} (hp : Plain v) (hr : R v) : Out R v S := ⟨v, .refl v, hp, hr⟩
theorem Ret.mono {P : Program} {f : FuncId} {ps : List PV} {R R' : PV → Sto → Prop} (h : Ret P f ps R) (n : ∀ v S, R v S → R' v S) : Ret P f ps R' :=
  let ⟨r, S, h1, h2⟩ := h; ⟨r, S, h1, n r S h2⟩
end Go.Abs
end
section
namespace Go.Abs
open Go Go.RowKit
section
variable {P : Program} {f : FuncId} {os : Array Oper} {κ : Nat → Cls} {i : Nat} {o : Oper} {l : List Oper} {tm : Tm} {S S1 : Sto} {K : Tm → Sto → Prop}
theorem Out.vecn {α : Type} {K : Cd α} {l : List α} {v : PV} {S : Sto} (h : Vec K l v S ∧ (l = [] → v = .lit (.slice none 0 0))) : Out (fun q => Sl K l q ∧ (l = [] → q = .lit (.slice none 0 0))) v S := by
  obtain ⟨h, hn⟩ := h
  rcases h with ⟨rfl, rfl⟩ | ⟨i, cs, rfl, h1, h2⟩
  · exact ⟨_, .refl _, .lit _, .nil, fun _ => rfl⟩
  · exact ⟨.sl cs l.length, View.row h1.1 (fun h => by cases h) h2.length, .sl _ h2.plain, .rows h2, fun e => by cases hn e⟩
theorem Opl.copy {α : Type} {M : Cd α} {xs ys : List α} {t e : TypeId} {x y : Operand} {v : PV} {as : Array Operand} {ts : Array TypeId} (hv : Vec M xs v S) (hs : Sl M ys (tm.opnd y)) (h1 : M.Ones) (hx : tm.opnd x = v)
    (hl : ys.length = xs.length) (h0 : 0 < xs.length) (hk : tkAt P t = some (.slice e)) (hz : szAt P e = some M.n)
    (hw : wantFn os tm o = some true) (ho : o.op = .call ⟨.builtin .copy, as, ts⟩) (ha : as.toList = [x, y]) (hts : ts.toList = [t, t]) (hκ : κ i = .n)
    (n : ∀ S1, Vec M ys v S1 → Up S S1 v → Opl P os κ (i + 1) l (tm.put o.dst (.lit (.int .i64 (xs.length : Nat)))) S1 K) : Opl P os κ i (o :: l) tm S K := by
  rcases hv with ⟨rfl, rfl⟩ | ⟨d, cs, rfl, h2, h3⟩
  · cases h0
  obtain ⟨ds, hd1, hd2⟩ := hs.row S
  have hall : ds.all PV.one = true := by simpa using hd2.ones h1
  have hcl := h3.length
  have hdl := hd2.length
  have hput : putAt cs 0 (ds.take (min ys.length xs.length * M.n)) = ds := by
    have e1 : min ys.length xs.length * M.n = ds.length := by rw [hdl, hl, Nat.min_self]
    have e2 : cs.length = ds.length := by rw [hcl, hdl, hl]
    rw [e1, List.take_length]; simp [putAt, ← e2]
  refine Opl.one hw (by rw [hκ]; cases clsOf o.op <;> rfl) (S1 := S.set d ⟨ds, M.n, false⟩) ?_ (n _ (.inr ⟨d, ds, by rw [hl], h2.set_same, hd2⟩)
    ⟨fun k q hk hne => hk.set (fun e => hne (by rw [e]; rfl)), fun _ => Nat.le_refl _⟩)
  rw [ho]
  simp only [opFn, builtinFn, ha, hts, List.map_cons, List.map_nil, if_true, hx, copyFn, hk, hz, hs.len, h2.1, hd1]
  rw [if_pos ⟨trivial, hall, by rw [hcl, Nat.zero_add]; exact Nat.le_refl _⟩, hput, hl, Nat.min_self]
theorem Opl.eqnil {t : TypeId} {e : TypeId} {x : Operand} {rt : TypeId} (hv : tm.opnd x = .lit (.slice none 0 0)) (hk : tkAt P t = some (.slice e)) (hw : wantFn os tm o = some true)
    (ho : o.op = .binOp .eql t x (.const (.slice none 0 0)) rt) (n : Opl P os κ (i + 1) l (tm.put o.dst (.lit (.bool true))) S K) : Opl P os κ i (o :: l) tm S K := by
  refine Opl.one hw (by rw [ho]; rfl) ?_ n
  rw [ho]
  simp only [opFn, Tm.opnd, binFn, nilEq, hk, PV.nil?] at hv ⊢
  rw [hv]
  rfl
theorem Opl.eqsome {α : Type} {M : Cd α} {xs : List α} {t : TypeId} {e : TypeId} {x : Operand} {rt : TypeId} (hv : Sl M xs (tm.opnd x)) (hne : ¬ xs = []) (hk : tkAt P t = some (.slice e)) (hw : wantFn os tm o = some true)
    (ho : o.op = .binOp .eql t x (.const (.slice none 0 0)) rt) (n : Opl P os κ (i + 1) l (tm.put o.dst (.lit (.bool false))) S K) : Opl P os κ i (o :: l) tm S K := by
  refine Opl.one hw (by rw [ho]; rfl) ?_ n
  rw [ho]
  rcases hv with ⟨_, h⟩ | ⟨cs, h, _⟩
  · exact absurd h hne
  simp only [opFn, Tm.opnd, binFn, nilEq, hk, PV.nil?] at h ⊢
  rw [h]
  rfl
end
end Go.Abs
end
section
set_option linter.unusedVariables false
set_option linter.unusedSimpArgs false
namespace Go.Abs
open Go Go.RowKit
def All (w : World) (b : Nat) : Prop := b < w.heap.size
def None (_ : Id) : Option Loc := none
theorem Ret.calls {P : Program} (hm : P.follows .mixedOrders = true) {f : FuncId} {ps : List PV} {c : Value} (h : Ret P f ps fun v _ => v = .lit c) {w : World} {vals : Array Value} (ha : RelA w (All w) None ps vals.toList) :
    Calls P f vals w fun e w' => e = .returned c ∧ Below w.heap.size w w' := by
  obtain ⟨r, S', h1, rfl⟩ := h
  refine ((call_sound hm f ps .empty _ S' h1).2 vals w None (All w) (fun _ => False) ha (Inv.empty fun b hb => hb.elim id False.elim)).mono fun e w' ⟨val, L', F', he, hr, _, hx⟩ => ?_
  obtain rfl : val = c := by cases hr; rfl
  exact ⟨he, hx.os, hx.tape, hx.output, hx.size, fun k hk => hx.heap k (.inl hk)⟩
def OpensP (P : Program) (t : TypeId) {α : Type} (M : Cd α) (φ : α → Prop) : Prop :=
  P.cellsOf t = M.n ∧ ∀ {H : Type} (enc : TypeId × Value → H) (w : World) (fuel : Nat) (cs : List Value) (x : DataW H × List MemPlace),
    DataW.trod enc P w 0 (fun _ => true) true fuel t cs = some x → ∃ y c, M.R y c ∧ RelA w (All w) None c cs ∧ φ y
section
variable {P : Program}
theorem opensP_int {t : TypeId} {k : IntKind} (ht : P.underlying t = some (.int k)) (hc : P.cellsOf t = 1) : OpensP P t (cInt k) (fun y => (Lit.int k y).wf = true) := by
  refine ⟨hc, fun enc w fuel cs x h => ?_⟩
  obtain ⟨n, rfl, _, hw⟩ := DataW.trod_int ht h
  exact ⟨n, _, rfl, .one (.lit _), hw⟩
theorem opensP_iso {t : TypeId} {α β : Type} {M : Cd α} {φ : α → Prop} {f : β → α} (g : α → β) (hg : ∀ x, f (g x) = x) (h : OpensP P t M φ) : OpensP P t (cIso M f) (fun y => φ (f y)) := by
  refine ⟨h.1, fun enc w fuel cs x hx => ?_⟩
  obtain ⟨y, c, hR, hr, hφ⟩ := h.2 enc w fuel cs x hx
  exact ⟨g y, c, by show M.R (f (g y)) c; rw [hg]; exact hR, hr, by show φ (f (g y)); rw [hg]; exact hφ⟩
theorem opensP_slice {t e : TypeId} {α : Type} {M : Cd α} {φ : α → Prop} (ht : P.underlying t = some (.slice e)) (hc : P.cellsOf t = 1) (hp : 0 < M.n) (he : OpensP P e M φ) :
    OpensP P t (cSl M) (fun xs => xs.length ≤ 9223372036854775807 ∧ ∀ x ∈ xs, φ x) := by
  refine ⟨hc, fun {H} enc w fuel cs x h => ?_⟩
  rcases DataW.trod_slice ht h with ⟨rfl, _⟩ | ⟨a, len, cap, elems, rest, n, _, rfl, _, _, hl, hm, hlen, hel, hsp, _⟩
  · exact ⟨[], _, ⟨_, rfl, .nil⟩, .one (.lit _), by simp, fun x hx => by simp at hx⟩
  by_cases hcap : cap = 0
  · obtain rfl : len = 0 := by omega
    subst hcap
    exact ⟨[], _, ⟨_, rfl, Sl.rows (cs := []) rfl⟩, .one (.wild a), by simp, fun x hx => by simp at hx⟩
  have hmx : len ≤ 9223372036854775807 := by simp only [maxLen] at hm; omega
  -- its address is a plain one, in a block that is there
  have hplace : a.spot = none ∧ a.block < w.heap.size := by
    have hfirst : ∃ u, w.cell? a = some u := by
      have key : ∀ (l : List (DataW H × List MemPlace)) (m : Nat), m = 0 → 0 < l.length → (w.cells? 0 (a.add (m * P.cellsOf e)) (P.cellsOf e)).bind (DataW.trod enc P w 0 (fun _ => true) true n e) = l[0]? → ∃ u, w.cell? a = some u := by
        intro l m hm hl hx
        rw [List.getElem?_eq_getElem hl] at hx
        obtain ⟨cs', hcs, _⟩ := Option.bind_eq_some_iff.1 hx
        obtain ⟨_, hcl, hcell⟩ := World.cells?_some hcs
        have h0 := hcell 0 (by rw [he.1]; exact hp)
        rw [List.getElem?_eq_getElem (by rw [hcl, he.1]; exact hp)] at h0
        rw [hm, Nat.zero_mul] at h0
        exact ⟨_, h0⟩
      by_cases hl0 : len = 0
      · obtain ⟨h1, h2⟩ := hsp rfl
        exact key rest (len + 0) (by omega) (by omega) (h2 0 (by omega))
      · exact key elems 0 rfl (by omega) (hel 0 (by omega))
    obtain ⟨u, hu⟩ := hfirst
    refine ⟨World.cell?_spot hu, ?_⟩
    unfold World.cell? at hu
    split at hu
    · rename_i hb
      obtain ⟨hlt, _⟩ := Array.getElem?_eq_some_iff.1 hb
      exact hlt
    · cases hu
  obtain ⟨b, off, sp⟩ := a
  obtain ⟨rfl, hb⟩ := hplace
  have hrow : ∀ m, m ≤ len → ∃ (l : List α) (c : List PV) (vs : List Value), l.length = m ∧ Rows M l c ∧ RelA w (All w) None c vs ∧ vs.length = m * M.n ∧ HCells w b off vs ∧ ∀ x ∈ l, φ x := by
    intro m
    induction m with
    | zero => exact fun _ => ⟨[], [], [], rfl, rfl, .nil, by simp, fun j u hu => by simp at hu, fun x hx => by cases hx⟩
    | succ m ih =>
      intro hle
      obtain ⟨l, c, vs, g1, g2, g3, g4, g5, g6⟩ := ih (by omega)
      have h1 := hel m (by omega)
      rw [List.getElem?_eq_getElem (show m < elems.length by omega)] at h1
      obtain ⟨cs', hcs, htr⟩ := Option.bind_eq_some_iff.1 h1
      obtain ⟨y, d, hR, hr, hφ⟩ := he.2 enc w n cs' _ htr
      obtain ⟨_, hcl, hcell⟩ := World.cells?_some hcs
      rw [he.1] at hcl hcell
      refine ⟨l ++ [y], c ++ d, vs ++ cs', by simp [g1], g2.append (Rows.one hR), g3.append hr, by rw [List.length_append, g4, hcl, Nat.add_mul, Nat.one_mul], fun j u hu => ?_, fun x hx => ?_⟩
      · rw [List.getElem?_append] at hu
        split at hu
        · exact g5 j u hu
        · rename_i hj
          rw [g4] at hu hj
          have hj2 : j - m * M.n < M.n := by have := (List.getElem?_eq_some_iff.1 hu).1; omega
          have h2 := hcell (j - m * M.n) hj2
          rw [Go.Deep.add_add, hu] at h2
          rw [← h2, show m * M.n + (j - m * M.n) = j by omega, Go.WideShapes.add_plain]
      · rcases List.mem_append.1 hx with hx | hx
        · exact g6 x hx
        · obtain rfl := List.mem_singleton.1 hx
          exact hφ
  obtain ⟨l, c, vs, g1, g2, g3, g4, g5, g6⟩ := hrow len (Nat.le_refl _)
  refine ⟨l, _, ⟨_, rfl, Sl.rows g2⟩, .one ?_, by omega, g6⟩
  rw [g1]
  exact .slA hb hl g3 g5
structure FieldsP (P : Program) (fs : List Field) (off : Nat) {α : Type} (M : Cd α) (φ : α → Prop) : Prop where
  run : ∀ {H : Type} (enc : TypeId × Value → H) (w : World) (cs : List Value), cs.length = off + M.n →
    (∀ f ∈ fs, ∃ n x, DataW.trod enc P w 0 (fun _ => true) true n f.type ((cs.drop f.offset).take (P.cellsOf f.type)) = some x) → ∃ y c, M.R y c ∧ RelA w (All w) None c (cs.drop off) ∧ φ y
theorem fields_last {f : Field} {off : Nat} {α : Type} {M : Cd α} {φ : α → Prop} (ho : f.offset = off) (h : OpensP P f.type M φ) : FieldsP P [f] off M φ := .mk fun enc w cs hl hf => by
  obtain ⟨n, x, hx⟩ := hf f (List.mem_singleton.2 rfl)
  obtain ⟨y, c, h1, h2, h3⟩ := h.2 enc w n _ x hx
  rw [ho, List.take_of_length_le (by rw [List.length_drop, hl, h.1]; omega)] at h2
  exact ⟨y, c, h1, h2, h3⟩
theorem fields_cons {f : Field} {fs : List Field} {off : Nat} {α β : Type} {M : Cd α} {N : Cd β} {φ : α → Prop} {ψ : β → Prop} (ho : f.offset = off) (h : OpensP P f.type M φ) (hr : FieldsP P fs (off + M.n) N ψ) :
    FieldsP P (f :: fs) off (cPair M N) (fun x => φ x.1 ∧ ψ x.2) := .mk fun enc w cs hl hf => by
  obtain ⟨n, x, hx⟩ := hf f List.mem_cons_self
  obtain ⟨y, c, h1, h2, h3⟩ := h.2 enc w n _ x hx
  obtain ⟨z, d, k1, k2, k3⟩ := hr.run enc w cs (by rw [hl]; show off + (M.n + N.n) = _; omega) (fun g hg => hf g (List.mem_cons_of_mem _ hg))
  rw [ho, h.1] at h2
  refine ⟨(y, z), c ++ d, ⟨c, d, rfl, h1, k1⟩, ?_, h3, k3⟩
  have := h2.append k2
  rwa [← List.drop_drop, List.take_append_drop] at this
theorem opensP_struct {t : TypeId} {fs : Array Field} {α : Type} {M : Cd α} {φ : α → Prop} (ht : P.underlying t = some (.struct fs)) (hc : P.cellsOf t = M.n) (h : FieldsP P fs.toList 0 M φ) : OpensP P t M φ := by
  refine ⟨hc, fun enc w fuel cs x hx => ?_⟩
  obtain ⟨xs, n, _, _, hl, hlen, hf⟩ := DataW.trod_struct ht hx
  have := h.run enc w cs (by rw [hl, hc]; omega) (fun f hm => ?_)
  · simpa using this
  · obtain ⟨i, hi, rfl⟩ := List.mem_iff_getElem.1 hm
    have hlt : i < fs.size := by simpa using hi
    have := hf i fs[i] (by simp [hlt])
    rw [List.getElem?_eq_getElem (by omega)] at this
    exact ⟨n, _, by simpa using this⟩
theorem openP_arg {t : TypeId} {α : Type} {M : Cd α} {φ : α → Prop} {H : Type} {enc : TypeId × Value → H} {w : World} {v : Value} {x : DataW H} {ps : List MemPlace} (ho : OpensP P t M φ)
    (h : DataW.Trod enc P w 0 (fun _ => true) true t v x ps) : ∃ y c, M.R y c ∧ RelA w (All w) None c v.cells.toList ∧ φ y := by
  obtain ⟨fuel, hf⟩ := h
  exact ho.2 enc w fuel _ _ hf
theorem openP_slice {t : TypeId} {α : Type} {M : Cd α} {φ : List α → Prop} {H : Type} {enc : TypeId × Value → H} {w : World} {A : Option Addr} {n c : Nat} {x : DataW H} {ps : List MemPlace} (ho : OpensP P t (cSl M) φ)
    (h : DataW.Trod enc P w 0 (fun _ => true) true t (.slice A n c) x ps) : ∃ (l : List α) (p : PV), Sl M l p ∧ Rel w (All w) None p (.slice A n c) ∧ φ l := by
  obtain ⟨y, c', ⟨p, rfl, hs⟩, hr, hφ⟩ := openP_arg ho h
  exact ⟨y, p, hs, hr.2 0 p _ rfl rfl, hφ⟩
theorem openP_agg {t : TypeId} {α : Type} {M : Cd α} {φ : α → Prop} {H : Type} {enc : TypeId × Value → H} {w : World} {cs : Array Value} {x : DataW H} {ps : List MemPlace} (ho : OpensP P t M φ)
    (h : DataW.Trod enc P w 0 (fun _ => true) true t (.agg cs) x ps) : ∃ y c, M.R y c ∧ Rel w (All w) None (.agg c) (.agg cs) ∧ φ y := by
  obtain ⟨y, c, h1, h2, h3⟩ := openP_arg ho h
  exact ⟨y, c, h1, .aggA h2, h3⟩
theorem relA_nil {w : World} : RelA w (All w) None [] [] := .nil
theorem relA_cons {w : World} {p : PV} {v : Value} {ps : List PV} {vs : List Value} (h : Rel w (All w) None p v) (k : RelA w (All w) None ps vs) : RelA w (All w) None (p :: ps) (v :: vs) := (RelA.one h).append k
end
end Go.Abs
end
