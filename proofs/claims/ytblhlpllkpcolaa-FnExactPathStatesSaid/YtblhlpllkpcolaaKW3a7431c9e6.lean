/- Words for walks: plain theorems on memory, rows and numbers, each under the conditions that it names. -/
import Derived.Attr
import Derived.RowKit
import Derived.Laws.Slices
import Derived.Laws.MakeOwn
import Derived.Laws.Append
import Derived.Laws.AppendOwn
import Derived.Laws.IdiomCopy
import Derived.Laws.Entries
import Derived.Calls
import Derived.Laws.Sem
import Derived.Below
import Derived.ChangeArms
import Derived.ChangeSlices
import Derived.Deep.Slices
import Derived.Test.YtblhlpllkpcolaaKW32ed07a226
section
namespace Go.Abs
open Go Go.RowKit
attribute [go_sem] opFn Tm.opnd Tm.put justV unFn convFn PV.int? boundFn aggCells storeFn builtinFn pureB PV.undef
attribute [go_sem] Nat.reduceEqDiff Option.map_some Option.map_none Option.getD_some Option.getD_none if_true if_false List.map_cons List.map_nil Option.some.injEq reduceCtorEq
theorem w64 (x : Int) : IntKind.i64.wrap x = wrap64 x := by
  rw [IntKind.wrap_i64]
  unfold wrap64
  rfl
attribute [go_sem] w64 puts Sto.cellsOf TI.load TK.agg binFn litBin intBin PV.step List.cons_append List.nil_append
theorem Sl.one {α : Type} {K : Cd α} {l : List α} {v : PV} (h : Sl K l v) : v.one = true := by
  rcases h with ⟨rfl, _⟩ | ⟨cs, rfl, _⟩ <;> rfl
theorem Sl.cells {α : Type} {K : Cd α} {l : List α} {v : PV} (h : Sl K l v) : v.cells = [v] := by
  rcases h with ⟨rfl, _⟩ | ⟨cs, rfl, _⟩ <;> rfl
section
variable {P : Program} {f : FuncId} {os : Array Oper} {κ : Nat → Cls} {i : Nat} {o : Oper} {l : List Oper} {tm : Tm} {S S1 : Sto} {K : Tm → Sto → Prop}
theorem Opl.idx {α : Type} {M : Cd α} {xs : List α} {t e : TypeId} {x ix : Operand} {j : Int} {k : IntKind} (z : α) (hv : Sl M xs (tm.opnd x)) (hj : tm.opnd ix = .lit (.int k j)) (h0 : 0 ≤ j) (h1 : j < (xs.length : Int))
    (hk : tkAt P t = some (.slice e)) (hz : szAt P e = some M.n) (hw : wantFn os tm o = some true) (ho : o.op = .indexAddr t x ix)
    (n : ∀ c r, M.R (xs.getD j.toNat z) c → Opl P os κ (i + 1) l (tm.put o.dst (.fel (c ++ r))) S K) : Opl P os κ i (o :: l) tm S K := by
  have hj' : j.toNat < xs.length := by omega
  obtain ⟨c, r, h2, h3⟩ := hv.at hj'
  refine Opl.one hw (by rw [ho]; rfl) ?_ (n c r (by simpa [List.getD_eq_getElem?_getD, hj'] using h3))
  rw [ho]
  simp only [opFn, hk, hj, PV.int?, hz, hv.len]
  rw [if_pos ⟨h0, h1⟩, h2]
  rfl
theorem Opl.len {α : Type} {M : Cd α} {xs : List α} {t e : TypeId} {x : Operand} {xs' : Array Operand} {ts : Array TypeId} (hv : Sl M xs (tm.opnd x)) (hk : tkAt P t = some (.slice e)) (hw : wantFn os tm o = some true)
    (ho : o.op = .call ⟨.builtin .len, xs', ts⟩) (h1 : xs'.toList = [x]) (h2 : ts.toList = [t])
    (n : Opl P os κ (i + 1) l (tm.put o.dst (.lit (.int .i64 (xs.length : Nat)))) S K) : Opl P os κ i (o :: l) tm S K := by
  refine Opl.one hw (by rw [ho]; rfl) ?_ n
  rw [ho]
  simp only [opFn, builtinFn, h1, h2, List.map_cons, List.map_nil, pureB, hk, hv.len, Option.map_some, justV]
theorem Opl.lda {t : TypeId} {ti : TI} {x : Operand} {cs : List PV} (v : PV) (hx : tm.opnd x = .fel cs) (ht : tiOf P t = some ti) (hv : ti.load cs = some v) (hw : wantFn os tm o = some true) (ho : o.op = .load t x) (hκ : Cls.le .r (κ i) = true)
    (n : Opl P os κ (i + 1) l (tm.put o.dst v) S K) : Opl P os κ i (o :: l) tm S K := by
  refine Opl.one hw (by rw [ho]; exact hκ) ?_ n
  rw [ho]
  simp only [opFn, ht, hx, Sto.cellsOf, hv, justV, Option.map_some]
theorem peel {p : Prop} [Decidable p] {β : Type} {a : Option β} {r : β} (h : (if p then a else none) = some r) : p ∧ a = some r := by
  split at h
  · exact ⟨‹_›, h⟩
  · cases h
end
end Go.Abs
end
section
namespace Go.Abs
open Go Go.RowKit
def Box (p : PV) (cs : List PV) (S : Sto) : Prop := ∃ i, p = .ptr i 0 ∧ Live S i ⟨cs, 0, false⟩
def PV.id? : PV → Option Id
  | .ptr i _ => some i
  | .loc i _ _ => some i
  | _ => none
def Ap (p q : PV) : Prop := ∀ i, p.id? = some i → q.id? ≠ some i
theorem Ap.symm {p q : PV} (h : Ap p q) : Ap q p := fun i h1 h2 => h i h2 h1
theorem Ap.nil {q : PV} {v : Value} : Ap (.lit v) q := fun i h => by cases h
structure Up (S S1 : Sto) (p : PV) : Prop where
  live : ∀ i o, Live S i o → p.id? ≠ some i → Live S1 i o
  gen : ∀ s, S.gen s ≤ S1.gen s
theorem Up.box {S S1 : Sto} {p q : PV} {cs : List PV} (u : Up S S1 p) (h : Box q cs S) (a : Ap q p) : Box q cs S1 := by
  obtain ⟨i, rfl, h⟩ := h
  exact ⟨i, rfl, u.live i _ h (a i rfl)⟩
theorem Up.vec {α : Type} {K : Cd α} {l : List α} {S S1 : Sto} {p v : PV} (u : Up S S1 p) (h : Vec K l v S) (a : Ap v p) : Vec K l v S1 := by
  rcases h with h | ⟨i, cs, rfl, h1, h2⟩
  · exact .inl h
  · exact .inr ⟨i, cs, rfl, u.live i _ h1 (a i rfl), h2⟩
def New (S : Sto) (p : PV) : Prop := ∀ i o, Live S i o → p.id? ≠ some i
theorem New.box {S : Sto} {p q : PV} {cs : List PV} (n : New S p) (h : Box q cs S) : Ap q p := by
  obtain ⟨i, rfl, h⟩ := h
  intro j hj
  obtain rfl := Option.some.inj hj
  exact n i _ h
theorem New.vec {α : Type} {K : Cd α} {l : List α} {S : Sto} {p v : PV} (n : New S p) (h : Vec K l v S) : Ap v p := by
  rcases h with ⟨rfl, _⟩ | ⟨i, cs, rfl, h1, h2⟩
  · exact .nil
  · intro j hj
    obtain rfl := Option.some.inj hj
    exact n i _ h1
theorem Up.add {S : Sto} {s : Nat} {o : Obj} (p : PV) : Up S (S.add s o) p :=
  ⟨fun i q h _ => h.add, fun t => by simp only [Sto.add]; split <;> first | (rename_i e; rw [e]; omega) | exact Nat.le_refl _⟩
theorem New.next {S : Sto} {s : Nat} {p : PV} (h : p.id? = some (S.next s)) : New S p := fun i o hl e => by
  rw [h] at e
  exact hl.ne_next (Option.some.inj e).symm
section
variable {P : Program} {f : FuncId} {os : Array Oper} {κ : Nat → Cls} {i : Nat} {o : Oper} {l : List Oper} {tm : Tm} {S : Sto} {K : Tm → Sto → Prop}
theorem Opl.alloc {e : TypeId} {ti : TI} (ht : tiOf P e = some ti) (hw : wantFn os tm o = some true) (ho : o.op = .alloc e) (hκ : κ i = .n)
    (n : ∀ d S1, Box (.ptr d 0) (ti.zero.map .lit) S1 → Up S S1 (.ptr d 0) → New S (.ptr d 0) → Opl P os κ (i + 1) l (tm.put o.dst (.ptr d 0)) S1 K) : Opl P os κ i (o :: l) tm S K := by
  refine Opl.one hw (by rw [hκ]; cases clsOf o.op <;> rfl) ?_ (n (S.next (o.dst.getD 0)) _ ⟨_, rfl, .new⟩ (.add _) (.next rfl))
  rw [ho]; simp only [opFn, ht]
theorem Opl.box {e : TypeId} {x : Operand} {cs : List PV} (hx : (tm.opnd x).cells = cs) (hw : wantFn os tm o = some true) (ho : o.op = .box e x) (hκ : κ i = .n)
    (n : ∀ d S1, Box (.ptr d 0) cs S1 → Up S S1 (.ptr d 0) → New S (.ptr d 0) → Opl P os κ (i + 1) l (tm.put o.dst (.ptr d 0)) S1 K) : Opl P os κ i (o :: l) tm S K := by
  refine Opl.one hw (by rw [hκ]; cases clsOf o.op <;> rfl) ?_ (n (S.next (o.dst.getD 0)) _ ⟨_, rfl, .new⟩ (.add _) (.next rfl))
  rw [ho]; simp only [opFn, hx]
theorem Opl.ldb {t : TypeId} {ti : TI} {x : Operand} {j : Id} {off : Nat} {cs : List PV} {v : PV} (hb : Box (.ptr j 0) cs S) (hx : tm.opnd x = .ptr j off) (ht : tiOf P t = some ti) (hv : ti.load (cs.drop off) = some v)
    (hw : wantFn os tm o = some true) (ho : o.op = .load t x) (hκ : Cls.le .r (κ i) = true) (n : Opl P os κ (i + 1) l (tm.put o.dst v) S K) : Opl P os κ i (o :: l) tm S K := by
  refine Opl.one hw (by rw [ho]; exact hκ) ?_ n
  obtain ⟨j', e, h⟩ := hb
  injection e with e1 e2; subst e1
  rw [ho]
  simp only [opFn, ht, hx, Sto.cellsOf, h.1, Option.map_some, hv, justV]
theorem Opl.stb {t : TypeId} {sz : Nat} {a x : Operand} {j : Id} {off : Nat} {cs vs : List PV} (hb : Box (.ptr j 0) cs S) (ha : tm.opnd a = .ptr j off) (hx : (tm.opnd x).cells = vs) (ht : szAt P t = some sz)
    (hl : vs.length = sz) (hfit : off + sz ≤ cs.length) (h1 : vs.all PV.one = true)
    (hw : wantFn os tm o = some true) (ho : o.op = .store t a x) (hκ : κ i = .n)
    (n : ∀ S1, Box (.ptr j 0) (putAt cs off vs) S1 → Up S S1 (.ptr j 0) → Opl P os κ (i + 1) l (tm.put o.dst .undef) S1 K) : Opl P os κ i (o :: l) tm S K := by
  obtain ⟨j', e, h⟩ := hb
  injection e with e1 e2; subst e1
  refine Opl.one hw (by rw [hκ]; cases clsOf o.op <;> rfl) ?_ (n (S.set j ⟨putAt cs off vs, 0, false⟩) ⟨j, rfl, h.set_same⟩ ⟨fun k q hk hne => hk.set (fun e => hne (by rw [e]; rfl)), fun _ => Nat.le_refl _⟩)
  rw [ho]
  simp only [opFn, ht, ha, storeFn, h.1, hx]
  rw [if_pos ⟨trivial, hl, hfit, h1⟩]
theorem Opl.idv {α : Type} {M : Cd α} {xs : List α} {t e : TypeId} {x ix : Operand} {j : Int} {k : IntKind} {v : PV} (hv : Vec M xs v S) (hx : tm.opnd x = v) (hj : tm.opnd ix = .lit (.int k j)) (h0 : 0 ≤ j) (h1 : j < (xs.length : Int))
    (hk : tkAt P t = some (.slice e)) (hz : szAt P e = some M.n) (hw : wantFn os tm o = some true) (ho : o.op = .indexAddr t x ix)
    (n : ∀ d cs, v = .loc d 0 xs.length → Live S d ⟨cs, M.n, false⟩ → Rows M xs cs → Opl P os κ (i + 1) l (tm.put o.dst (.ptr d (j.toNat * M.n))) S K) : Opl P os κ i (o :: l) tm S K := by
  rcases hv with ⟨rfl, rfl⟩ | ⟨d, cs, rfl, h2, h3⟩
  · simp at h1; omega
  · refine Opl.one hw (by rw [ho]; rfl) ?_ (n d cs rfl h2 h3)
    rw [ho]
    simp only [opFn, hk, hj, PV.int?, hz, hx, PV.len?]
    rw [if_pos ⟨h0, h1⟩]
    simp [PV.elem, justV]
theorem Rows.getD {α : Type} {M : Cd α} {xs : List α} {cs : List PV} (h : Rows M xs cs) (z : α) {j : Int} (h0 : 0 ≤ j) (h1 : j < (xs.length : Int)) : ∃ c r, cs.drop (j.toNat * M.n) = c ++ r ∧ M.R (xs.getD j.toNat z) c := by
  have hj : j.toNat < xs.length := by omega
  obtain ⟨c, r, h2, h3⟩ := h.get j.toNat hj
  exact ⟨c, r, h2, by simpa [List.getD_eq_getElem?_getD, hj] using h3⟩
theorem Opl.ldv {α : Type} {M : Cd α} {xs : List α} {t : TypeId} {ti : TI} {x : Operand} {j : Int} {d : Id} {cs : List PV} (z : α) (hl : Live S d ⟨cs, M.n, false⟩) (hr : Rows M xs cs) (h0 : 0 ≤ j) (h1 : j < (xs.length : Int))
    (hx : tm.opnd x = .ptr d (j.toNat * M.n)) (ht : tiOf P t = some ti) (hw : wantFn os tm o = some true) (ho : o.op = .load t x) (hκ : Cls.le .r (κ i) = true)
    (n : ∀ c r, M.R (xs.getD j.toNat z) c → ∃ v, ti.load (c ++ r) = some v ∧ Opl P os κ (i + 1) l (tm.put o.dst v) S K) : Opl P os κ i (o :: l) tm S K := by
  obtain ⟨c, r, h2, h3⟩ := hr.getD z h0 h1
  obtain ⟨v, h4, h5⟩ := n c r h3
  refine Opl.one hw (by rw [ho]; exact hκ) ?_ h5
  rw [ho]
  simp only [opFn, ht, hx, Sto.cellsOf, hl.1, Option.map_some, h2, h4, justV]
theorem Opl.stv {α : Type} {M : Cd α} {xs : List α} {t : TypeId} {a x : Operand} {j : Int} {d : Id} {cs vs : List PV} {y : α} (hl : Live S d ⟨cs, M.n, false⟩) (hr : Rows M xs cs) (h0 : 0 ≤ j) (h1 : j < (xs.length : Int))
    (ha : tm.opnd a = .ptr d (j.toNat * M.n)) (hx : (tm.opnd x).cells = vs) (hy : M.R y vs) (ht : szAt P t = some M.n) (h2 : vs.all PV.one = true)
    (hw : wantFn os tm o = some true) (ho : o.op = .store t a x) (hκ : κ i = .n)
    (n : ∀ S1, Vec M (xs.set j.toNat y) (.loc d 0 xs.length) S1 → Up S S1 (.loc d 0 xs.length) → Opl P os κ (i + 1) l (tm.put o.dst .undef) S1 K) : Opl P os κ i (o :: l) tm S K := by
  have hj : j.toNat < xs.length := by omega
  have hrs := hr.set j.toNat hj hy
  refine Opl.one hw (by rw [hκ]; cases clsOf o.op <;> rfl) ?_ (n (S.set d ⟨putAt cs (j.toNat * M.n) vs, M.n, false⟩) (.inr ⟨d, _, by simp, hl.set_same, hrs⟩)
    ⟨fun k q hk hne => hk.set (fun e => hne (by rw [e]; rfl)), fun _ => Nat.le_refl _⟩)
  rw [ho]
  have hlen := hr.length
  have hfit : j.toNat * M.n + M.n ≤ cs.length := by
    rw [hlen, ← Nat.succ_mul]
    exact Nat.mul_le_mul_right _ hj
  simp only [opFn, ht, ha, storeFn, hl.1, hx]
  rw [if_pos ⟨trivial, M.len hy, hfit, h2⟩]
theorem Opl.make {α : Type} {M : Cd α} {t e : TypeId} {te : TI} {x y : Operand} {m : Int} {k k' : IntKind} (z : α) (hz : M.R z (te.zero.map .lit)) (hx : tm.opnd x = .lit (.int k m)) (hy : tm.opnd y = .lit (.int k' m))
    (hk : tkAt P t = some (.slice e)) (ht : tiOf P e = some te) (hs : te.size = M.n) (h0 : 0 ≤ m) (h1 : m.toNat * te.bytes ≤ 281474976710656) (h2 : m ≤ 281474976710656) (hw : wantFn os tm o = some true) (ho : o.op = .makeSlice t x y) (hκ : κ i = .n)
    (n : ∀ v S1, Vec M (List.replicate m.toNat z) v S1 → Up S S1 v → New S v → Opl P os κ (i + 1) l (tm.put o.dst v) S1 K) : Opl P os κ i (o :: l) tm S K := by
  have hzl : te.zero.length = te.size := by have := M.len hz; simp at this; omega
  have hv : Vec M (List.replicate m.toNat z) (.loc (S.next (o.dst.getD 0)) 0 m.toNat) (S.add (o.dst.getD 0) ⟨repL m.toNat (te.zero.map .lit), te.size, false⟩) :=
    .inr ⟨S.next (o.dst.getD 0), repL m.toNat (te.zero.map .lit), by simp, by rw [← hs]; exact .new, Rows.rep hz m.toNat⟩
  refine Opl.one hw (by rw [hκ]; cases clsOf o.op <;> rfl) ?_ (n (.loc (S.next (o.dst.getD 0)) 0 m.toNat) _ hv (.add _) (.next rfl))
  rw [ho]
  simp only [opFn, hk, hx, hy, ht]
  rw [if_pos ⟨h0, Int.le_refl _, by unfold maxMake; omega, by unfold maxMake; exact h1, hzl⟩]
theorem Opl.make0 {α : Type} {M : Cd α} {t e : TypeId} {te : TI} {x y : Operand} {m : Int} {k k' : IntKind} (hx : tm.opnd x = .lit (.int k 0)) (hy : tm.opnd y = .lit (.int k' m))
    (hk : tkAt P t = some (.slice e)) (ht : tiOf P e = some te) (hs : te.size = M.n) (hzl : te.zero.length = te.size) (h0 : 0 ≤ m) (h1 : m.toNat * te.bytes ≤ 281474976710656) (h2 : m ≤ 281474976710656) (hw : wantFn os tm o = some true) (ho : o.op = .makeSlice t x y) (hκ : κ i = .n)
    (n : ∀ v S1, Vec M [] v S1 → Up S S1 v → New S v → Opl P os κ (i + 1) l (tm.put o.dst v) S1 K) : Opl P os κ i (o :: l) tm S K := by
  have hv : Vec M [] (.loc (S.next (o.dst.getD 0)) 0 0) (S.add (o.dst.getD 0) ⟨repL (Int.toNat 0) (te.zero.map .lit), te.size, false⟩) :=
    .inr ⟨S.next (o.dst.getD 0), repL (Int.toNat 0) (te.zero.map .lit), rfl, by rw [← hs]; exact .new, rfl⟩
  refine Opl.one hw (by rw [hκ]; cases clsOf o.op <;> rfl) ?_ (n (.loc (S.next (o.dst.getD 0)) 0 0) _ hv (.add _) (.next rfl))
  rw [ho]
  simp only [opFn, hk, hx, hy, ht]
  rw [if_pos ⟨Int.le_refl _, h0, by unfold maxMake; omega, by unfold maxMake; exact h1, hzl⟩]
  rfl
end
theorem Evr.frz {P : Program} {f : FuncId} {k : List Item} {tm : Tm} {S : Sto} {R : PV → Sto → Prop} {α : Type} {M : Cd α} {xs : List α} {v : PV} (t : Tmp) (hv : Vec M xs v S) (ht : tm t = v)
    (n : ∀ q S1, Sl M xs q → Up S S1 v → Evr P f k (tm.put (some t) q) S1 R) : Evr P f k tm S R := by
  rcases hv with ⟨rfl, rfl⟩ | ⟨i, cs, rfl, h1, h2⟩
  · obtain ⟨w, S', g1, g2⟩ := n _ S .nil ⟨fun _ _ h _ => h, fun _ => Nat.le_refl _⟩
    refine ⟨w, S', ?_, g2⟩
    have : tm.put (some t) (.lit (.slice none 0 0)) = tm := by
      funext u
      simp only [Tm.put]
      split
      · rename_i e; rw [e, ht]
      · rfl
    rw [this] at g1; exact g1
  · obtain ⟨w, S', g1, g2⟩ := n (.sl cs xs.length) (S.set i ⟨cs, M.n, true⟩) (.rows h2) ⟨fun k q hk hne => hk.set (fun e => hne (by rw [e]; rfl)), fun _ => Nat.le_refl _⟩
    refine ⟨w, S', .freeze i h1.1 (.see t (q := .sl cs xs.length) ?_ g1), g2⟩
    rw [ht]
    have hl := h2.length
    have e : ((cs.drop 0).take (xs.length * M.n)) = cs := by rw [List.drop_zero, ← hl, List.take_length]
    refine .loc (o := ⟨cs, M.n, true⟩) (by rw [obj_set, if_pos rfl]) (fun _ => rfl) (by rw [e]) (fun j c d e1 e2 => ?_)
    rw [e] at e1
    rw [e1] at e2
    obtain rfl := Option.some.inj e2
    exact .refl c
theorem Evr.retb {P : Program} {f : FuncId} {k : List Item} {tm : Tm} {S : Sto} {R : PV → Sto → Prop} {fn : Func} {a : Tmp} {t : TypeId} {ti : TI} {j : Id} {cs : List PV} {v : PV} (h1 : P.funcs[f]? = some fn) (h2 : fn.results.toList = [.cell a t])
    (hb : Box (.ptr j 0) cs S) (hx : tm a = .ptr j 0) (ht : tiOf P t = some ti) (hv : ti.load cs = some v) (hr : R v S) : Evr P f (.code .ret :: k) tm S R := by
  refine .ret (v := v) ?_ hr
  obtain ⟨j', e, h⟩ := hb
  injection e with e1 e2; subst e1
  simp only [resOf, h1, h2, resL, resFn, ht, hx, Sto.cellsOf, h.1, Option.map_some, List.drop_zero, hv]
end Go.Abs
end
section
namespace Go.Abs
open Go Go.RowKit
def PL : List PV → Prop
  | [] => True
  | p :: ps => Plain p ∧ PL ps
theorem PL.all : ∀ {ps : List PV}, PL ps → ∀ p ∈ ps, Plain p
  | _ :: _, ⟨h, _⟩, _, hp => by
    rcases List.mem_cons.1 hp with rfl | hp
    · exact h
    · exact PL.all (by assumption) _ hp
theorem Plain.aggL {cs : List PV} (h : PL cs) : Plain (.agg cs) := .agg h.all
theorem Plain.tupL {cs : List PV} (h : PL cs) : Plain (.tup cs) := .tup h.all
theorem Plain.felL {cs : List PV} (h : PL cs) : Plain (.fel cs) := .fel h.all
def Row {α : Type} (K : Cd α) (l : List α) (v : PV) (S : Sto) : Prop := ∃ ds, S.rowOf K.n v = some ds ∧ Rows K l ds ∧ v.len? = some l.length
section
variable {α : Type} {M : Cd α}
theorem Row.sl {l : List α} {v : PV} {S : Sto} (h : Sl M l v) : Row M l v S := by
  obtain ⟨ds, h1, h2⟩ := h.row S
  exact ⟨ds, h1, h2, h.len⟩
theorem Row.vec {l : List α} {v : PV} {S : Sto} (h : Vec M l v S) : Row M l v S := by
  rcases h with ⟨rfl, rfl⟩ | ⟨i, cs, rfl, h1, h2⟩
  · exact ⟨[], rfl, rfl, rfl⟩
  · refine ⟨cs, ?_, h2, rfl⟩
    have := h2.length
    simp only [Sto.rowOf, h1.1, Nat.zero_add, List.drop_zero]
    rw [if_pos (by omega), List.take_of_length_le (by omega)]
theorem Vec.len {l : List α} {v : PV} {S : Sto} (h : Vec M l v S) : v.len? = some l.length := by
  rcases h with ⟨rfl, rfl⟩ | ⟨i, cs, rfl, h1, h2⟩ <;> rfl
theorem Vec.nil {S : Sto} : Vec M [] (.lit (.slice none 0 0)) S := .inl ⟨rfl, rfl⟩
def Cd.Ones (M : Cd α) : Prop := ∀ a c, M.R a c → ∀ p ∈ c, p.one = true
theorem Rows.ones (h1 : M.Ones) : ∀ {l : List α} {cs : List PV}, Rows M l cs → ∀ p ∈ cs, p.one = true
  | [], cs, h, p, hp => by rw [show cs = [] from h] at hp; cases hp
  | a :: l, cs, ⟨c, r, e, h2, h3⟩, p, hp => by
    rw [e, List.mem_append] at hp
    exact hp.elim (h1 a c h2 p) (Rows.ones h1 h3 p)
end
theorem oInt (k : IntKind) : (cInt k).Ones := fun a c h p hp => by rw [show c = _ from h] at hp; obtain rfl := List.mem_singleton.1 hp; rfl
theorem oBool : cBool.Ones := fun a c h p hp => by rw [show c = _ from h] at hp; obtain rfl := List.mem_singleton.1 hp; rfl
theorem oSl {α : Type} (M : Cd α) : (cSl M).Ones := fun a c ⟨v, h, hs⟩ p hp => by
  rw [h] at hp; obtain rfl := List.mem_singleton.1 hp
  rcases hs with ⟨rfl, _⟩ | ⟨cs, rfl, _⟩ <;> rfl
theorem oPair {α β : Type} {M : Cd α} {N : Cd β} (h1 : M.Ones) (h2 : N.Ones) : (cPair M N).Ones := fun a c ⟨c1, c2, h, g1, g2⟩ p hp => by
  rw [h, List.mem_append] at hp
  exact hp.elim (h1 _ _ g1 p) (h2 _ _ g2 p)
theorem oIso {α β : Type} {M : Cd β} {g : α → β} (h : M.Ones) : (cIso M g).Ones := fun a c hc => h (g a) c hc
theorem fill_row {es : Nat} : ∀ (xs : List PV) (pre rest : List PV) (k : Nat), (∀ x ∈ xs, x.cells.length = es) → pre.length = k * es → rest.length = xs.length * es →
    fillL (fun i => some (i * es, es)) (pre ++ rest) ((xs.zipIdx k).map fun x => (x.2, x.1)) = some (pre ++ (xs.map PV.cells).flatten)
  | [], pre, rest, k, _, _, h3 => by
    have : rest = [] := List.eq_nil_of_length_eq_zero (by simpa using h3)
    simp [fillL, this]
  | x :: xs, pre, rest, k, h1, h2, h3 => by
    have hx := h1 x (by simp)
    have hr : es ≤ rest.length := by rw [h3, List.length_cons, Nat.add_mul]; omega
    simp only [List.zipIdx_cons, List.map_cons, fillL]
    rw [if_neg (by simp [hx, h2]; omega)]
    have hput : putAt (pre ++ rest) (k * es) x.cells = (pre ++ x.cells) ++ rest.drop es := by
      unfold putAt
      rw [← h2, List.take_left', List.drop_append, hx]
      · simp [List.drop_eq_nil_of_le]
      · rfl
    rw [hput, fill_row xs (pre ++ x.cells) (rest.drop es) (k + 1) (fun y hy => h1 y (by simp [hy])) (by simp [h2, hx, Nat.add_mul]) (by simp [h3, Nat.add_mul])]
    simp
def RowsL {α : Type} (M : Cd α) : List α → List PV → Prop
  | [], [] => True
  | a :: l, x :: xs => M.R a x.cells ∧ RowsL M l xs
  | _, _ => False
theorem RowsL.rows {α : Type} {M : Cd α} : ∀ {l : List α} {xs : List PV}, RowsL M l xs → Rows M l (xs.map PV.cells).flatten ∧ xs.length = l.length ∧ ∀ x ∈ xs, x.cells.length = M.n
  | [], [], _ => ⟨rfl, rfl, by simp⟩
  | a :: l, x :: xs, ⟨h1, h2⟩ => by
    obtain ⟨g1, g2, g3⟩ := RowsL.rows h2
    refine ⟨⟨x.cells, _, by simp, h1, g1⟩, by simp [g2], fun y hy => ?_⟩
    rcases List.mem_cons.1 hy with rfl | hy
    · exact M.len h1
    · exact g3 y hy
  | [], _ :: _, h => h.elim
  | _ :: _, [], h => h.elim
section
variable {P : Program} {f : FuncId} {os : Array Oper} {κ : Nat → Cls} {i : Nat} {o : Oper} {l : List Oper} {tm : Tm} {S : Sto} {K : Tm → Sto → Prop}
theorem Opl.lenv {α : Type} {M : Cd α} {xs : List α} {t e : TypeId} {x : Operand} {xs' : Array Operand} {ts : Array TypeId} (hv : Vec M xs (tm.opnd x) S) (hk : tkAt P t = some (.slice e)) (hw : wantFn os tm o = some true)
    (ho : o.op = .call ⟨.builtin .len, xs', ts⟩) (h1 : xs'.toList = [x]) (h2 : ts.toList = [t])
    (n : Opl P os κ (i + 1) l (tm.put o.dst (.lit (.int .i64 (xs.length : Nat)))) S K) : Opl P os κ i (o :: l) tm S K := by
  refine Opl.one hw (by rw [ho]; rfl) ?_ n
  rw [ho]
  simp only [opFn, builtinFn, h1, h2, List.map_cons, List.map_nil, pureB, hk, hv.len, Option.map_some, justV]
theorem Opl.lits {α : Type} {M : Cd α} {ys : List α} {t e : TypeId} {te : TI} {len : Nat} {parts : Array (Nat × Operand)} (xs : List Operand) (hk : tkAt P t = some (.slice e)) (ht : tiOf P e = some te) (hs : te.size = M.n) (hzl : te.zero.length = te.size)
    (hp : parts.toList = (xs.zipIdx.map fun x => (x.2, x.1))) (hy : RowsL M ys (xs.map tm.opnd)) (hlen : len = xs.length) (hbig : len * te.size ≤ 16777216)
    (hw : wantFn os tm o = some true) (ho : o.op = .buildSlice t len parts) (hκ : κ i = .n)
    (n : ∀ v S1, Vec M ys v S1 → Up S S1 v → New S v → Opl P os κ (i + 1) l (tm.put o.dst v) S1 K) : Opl P os κ i (o :: l) tm S K := by
  obtain ⟨g1, g2, g3⟩ := hy.rows
  have hl : len = ys.length := by rw [hlen, ← g2]; simp
  have hv : Vec M ys (.loc (S.next (o.dst.getD 0)) 0 len) (S.add (o.dst.getD 0) ⟨((xs.map tm.opnd).map PV.cells).flatten, te.size, false⟩) :=
    .inr ⟨S.next (o.dst.getD 0), _, by rw [hl], by rw [← hs]; exact .new, g1⟩
  refine Opl.one hw (by rw [hκ]; cases clsOf o.op <;> rfl) ?_ (n _ _ hv (.add _) (.next rfl))
  rw [ho]
  simp only [opFn, hk, ht]
  rw [if_pos ⟨hbig, hzl⟩]
  have hpp : (parts.toList.map fun (x : Nat × Operand) => (x.1, tm.opnd x.2)) = ((xs.map tm.opnd).zipIdx 0).map fun x => (x.2, x.1) := by
    rw [hp, List.zipIdx_map, List.map_map, List.map_map]
    rfl
  have := fill_row (es := te.size) (xs.map tm.opnd) [] (repL len (te.zero.map .lit)) 0 (by rw [hs]; exact g3) (by simp) (by rw [repL_length, List.length_map, hzl, g2, hl])
  rw [List.nil_append, List.nil_append] at this
  show Option.map _ (fillL _ _ (parts.toList.map fun (x : Nat × Operand) => (x.1, tm.opnd x.2))) = _
  rw [hpp, this]
  rfl
theorem Opl.app {α : Type} {M : Cd α} {xs ys : List α} {t e : TypeId} {te : TI} {x y : Operand} {v u : PV} {as : Array Operand} {ts : Array TypeId} (hv : Vec M xs v S) (hu : Row M ys u S) (h1 : M.Ones) (hx : tm.opnd x = v) (hy : tm.opnd y = u)
    (hk : tkAt P t = some (.slice e)) (ht : tiOf P e = some te) (hs : te.size = M.n) (hzl : te.zero.length = te.size) (hb1 : xs.length + ys.length ≤ 140737488355328) (hb2 : (xs.length + ys.length) * te.bytes ≤ 140737488355328)
    (hw : wantFn os tm o = some true) (ho : o.op = .call ⟨.builtin .append, as, ts⟩) (ha : as.toList = [x, y]) (hts : ts.toList = [t, t]) (hκ : κ i = .n)
    (n : ∀ v' S1, Vec M (xs ++ ys) v' S1 → Up S S1 v → New S v' → Opl P os κ (i + 1) l (tm.put o.dst v') S1 K) : Opl P os κ i (o :: l) tm S K := by
  obtain ⟨ds, hd1, hd2, hd3⟩ := hu
  have hall : ds.all PV.one = true := by simpa using hd2.ones h1
  rw [← hs] at hd1
  have hop : ∀ r, appendFn P (o.dst.getD 0) S t v u = r → opFn P (o.dst.getD 0) tm.opnd S o.op = r := fun r hr => by
    rw [ho]
    simp only [opFn, builtinFn, ha, hts, List.map_cons, List.map_nil, if_true, hx, hy]
    exact hr
  have hκ' : (clsOf o.op).le (κ i) = true := by rw [hκ]; cases clsOf o.op <;> rfl
  rcases hv with ⟨rfl, rfl⟩ | ⟨d, cs, rfl, h2, h3⟩
  · by_cases hm : ys.length = 0
    · have hys : ys = [] := List.eq_nil_of_length_eq_zero hm
      subst hys
      refine Opl.one hw hκ' (hop (some (.lit (.slice none 0 0), S)) ?_) (n _ S .nil ⟨fun _ _ h _ => h, fun _ => Nat.le_refl _⟩ (fun i o h e => by cases e))
      simp only [appendFn, hk, ht, hd3, hd1, hall, hzl, true_and, if_true, List.length_nil]
    · refine Opl.one hw hκ' (hop (some (.loc (S.next (o.dst.getD 0)) 0 ys.length, S.add (o.dst.getD 0) ⟨ds, te.size, false⟩)) ?_)
        (n (.loc (S.next (o.dst.getD 0)) 0 ys.length) _ (.inr ⟨S.next (o.dst.getD 0), ds, by simp, by rw [← hs]; exact .new, by simpa using hd2⟩) (.add _) (.next rfl))
      simp only [appendFn, hk, ht, hd3, hd1, hall, hzl, true_and, if_true, hm, if_false]
      rw [if_pos]
      simp only [List.length_nil, Nat.zero_add] at hb1 hb2
      exact ⟨hb1, hb2⟩
  · have hcl := h3.length
    refine Opl.one hw hκ' (hop (some (.loc (S.next (o.dst.getD 0)) 0 (xs.length + ys.length), (S.del d).add (o.dst.getD 0) ⟨cs ++ ds, te.size, false⟩)) ?_)
      (n (.loc (S.next (o.dst.getD 0)) 0 (xs.length + ys.length)) _ (.inr ⟨S.next (o.dst.getD 0), cs ++ ds, by simp, ?_, h3.append hd2⟩) ⟨fun k q hk hne => (hk.del (fun e => hne (by rw [e]; rfl))).add, (Up.add (S := S.del d) .undef).gen⟩ (.next rfl))
    · simp only [appendFn, hk, ht, hd3, hd1, hall, hzl, true_and, if_true, h2.1]
      rw [if_pos ⟨hs.symm, by rw [hcl, hs, Nat.zero_add], hb1, hb2⟩]
      rfl
    · rw [← hs]; exact Live.new (S := S.del d)
theorem Opl.call {g : FuncId} {x : Operand} {cs : List PV} {as : Array Operand} {ts : Array TypeId} {ps : List PV} {R : PV → Prop} (h : Ret P g ps (Out R)) (hw : wantFn os tm o = some true) (ho : o.op = .call ⟨.value x, as, ts⟩)
    (hc : calleeOf (tm.opnd x) = some (g, cs)) (hp : as.toList.map tm.opnd ++ cs = ps) (hpl : PL ps) (hκ : κ i ≠ .p) (n : ∀ q, R q → Opl P os κ (i + 1) l (tm.put o.dst q) S K) : Opl P os κ i (o :: l) tm S K := by
  obtain ⟨r, S', h1, q, h2, h3, h4⟩ := h
  refine Opl.cons (.callP hw hκ ho (f := g) (cs := cs) hc ⟨by rw [hp], fun j c d e1 e2 => ?_⟩ hpl.all h1 h2 h3) (n q h4)
  rw [hp] at e1
  rw [e1] at e2
  obtain rfl := Option.some.inj e2
  exact .refl c
theorem Opl.callc {g : FuncId} {x : Operand} {cs : List PV} {as : Array Operand} {ts : Array TypeId} {ps : List PV} {c : Value} (h : Ret P g ps fun v _ => v = .lit c) (hw : wantFn os tm o = some true) (ho : o.op = .call ⟨.value x, as, ts⟩)
    (hc : calleeOf (tm.opnd x) = some (g, cs)) (hp : as.toList.map tm.opnd ++ cs = ps) (hpl : PL ps) (hκ : κ i ≠ .p) (n : Opl P os κ (i + 1) l (tm.put o.dst (.lit c)) S K) : Opl P os κ i (o :: l) tm S K :=
  Opl.call (R := fun q => q = .lit c) (let ⟨r, S', h1, h2⟩ := h; ⟨r, S', h1, r, .refl r, h2 ▸ .lit c, h2⟩) hw ho hc hp hpl hκ (fun _ hq => hq ▸ n)
theorem Opl.callw {g : FuncId} {x : Operand} {cs : List PV} {as : Array Operand} {ts : Array TypeId} {ps : List PV} {c : Value} (h : Ret P g ps fun v _ => v = .lit c) (hw : wantFn os tm o = some true) (ho : o.op = .call ⟨.value x, as, ts⟩)
    (hc : calleeOf (tm.opnd x) = some (g, cs)) (hp : ViewL S false (as.toList.map tm.opnd ++ cs) ps) (hpl : PL ps) (hκ : κ i ≠ .p) (n : Opl P os κ (i + 1) l (tm.put o.dst (.lit c)) S K) : Opl P os κ i (o :: l) tm S K := by
  obtain ⟨r, S', h1, rfl⟩ := h
  exact Opl.cons (.callB hw hκ ho (f := g) (cs := cs) hc hp hpl.all h1 (.lit c)) n
theorem Opl.calla {α : Type} {M : Cd α} {xs : List α} {g : FuncId} {x : Operand} {cs : List PV} {as : Array Operand} {ts : Array TypeId} {ps : List PV} (h : Ret P g ps fun v S => Vec M xs v S) (hw : wantFn os tm o = some true) (ho : o.op = .call ⟨.value x, as, ts⟩)
    (hc : calleeOf (tm.opnd x) = some (g, cs)) (hp : as.toList.map tm.opnd ++ cs = ps) (hpl : PL ps) (hκ : κ i = .n) (n : ∀ v S1, Vec M xs v S1 → Up S S1 v → New S v → Opl P os κ (i + 1) l (tm.put o.dst v) S1 K) : Opl P os κ i (o :: l) tm S K := by
  have hview : ViewL S true (as.toList.map tm.opnd ++ cs) ps := ⟨by rw [hp], fun j c d e1 e2 => by
    rw [hp] at e1
    rw [e1] at e2
    obtain rfl := Option.some.inj e2
    exact .refl c⟩
  obtain ⟨r, S', h1, h2⟩ := h
  rcases h2 with ⟨rfl, rfl⟩ | ⟨d, ds, rfl, h3, h4⟩
  · exact Opl.cons (.callP hw (by rw [hκ]; decide) ho (f := g) (cs := cs) hc hview hpl.all h1 (.refl _) (.lit _)) (n _ S .nil ⟨fun _ _ h _ => h, fun _ => Nat.le_refl _⟩ (fun i o h e => by cases e))
  · refine Opl.cons (.callA (z := true) (ds := ds) hw hκ ho (f := g) (cs := cs) hc hview hpl.all h1 h3.1 rfl (Nat.zero_le _) ⟨by rw [List.drop_zero], fun j c d e1 e2 => ?_⟩ h4.plain (fun h => by cases h))
      (n _ _ (.inr ⟨S.next (o.dst.getD 0), ds, rfl, .new, h4⟩) (.add _) (.next rfl))
    rw [List.drop_zero] at e1
    rw [e1] at e2
    obtain rfl := Option.some.inj e2
    exact .refl c
end
theorem ViewL.nil {S : Sto} {z : Bool} : ViewL S z [] [] := ⟨rfl, fun j c d e => by simp at e⟩
theorem ViewL.cons {S : Sto} {z : Bool} {a b : PV} {cs ds : List PV} (h : View S z a b) (t : ViewL S z cs ds) : ViewL S z (a :: cs) (b :: ds) :=
  ⟨by simp [t.1], fun j c d e1 e2 => match j, e1, e2 with
    | 0, e1, e2 => by simp at e1 e2; subst e1 e2; exact h
    | j + 1, e1, e2 => t.2 j c d (by simpa using e1) (by simpa using e2)⟩
theorem View.fnBox {S : Sto} {f : FuncId} {i : Abs.Id} {cs : List PV} (h : Box (.ptr i 0) cs S) : View S false (.fn f [.ptr i 0]) (.fn f [.fel cs]) := by
  obtain ⟨j, e, h⟩ := h
  injection e with e1 e2; subst e1
  have hv : View S false (.ptr i 0) (.fel cs) := .ptr h.1 (fun h => by cases h) rfl (fun j c d e1 e2 => by
    rw [List.drop_zero] at e1
    rw [e1] at e2
    obtain rfl := Option.some.inj e2
    exact .refl c)
  exact .fn rfl (ViewL.cons hv .nil).2
theorem Plain.fnL {f : FuncId} {cs : List PV} (h : PL cs) : Plain (.fn f cs) := .fn f h.all
theorem Out.lit {c : Value} {S : Sto} : Out (fun q => q = .lit c) (.lit c) S := ⟨_, .refl _, .lit _, rfl⟩
theorem pw2 {R : PV → PV → Prop} {a b c d : PV} (h1 : R a c) (h2 : R b d) : ∀ (j : Nat) x y, [a, b][j]? = some x → [c, d][j]? = some y → R x y
  | 0, x, y, e1, e2 => by simp at e1 e2; subst e1 e2; exact h1
  | 1, x, y, e1, e2 => by simp at e1 e2; subst e1 e2; exact h2
  | j + 2, x, y, e1, _ => by simp at e1
theorem pw3 {R : PV → PV → Prop} {a b e c d f : PV} (h1 : R a c) (h2 : R b d) (h3 : R e f) : ∀ (j : Nat) x y, [a, b, e][j]? = some x → [c, d, f][j]? = some y → R x y
  | 0, x, y, e1, e2 => by simp at e1 e2; subst e1 e2; exact h1
  | 1, x, y, e1, e2 => by simp at e1 e2; subst e1 e2; exact h2
  | 2, x, y, e1, e2 => by simp at e1 e2; subst e1 e2; exact h3
  | j + 3, x, y, e1, _ => by simp at e1
theorem Out.tup2 {R1 R2 : PV → Prop} {a b : PV} {S : Sto} (h1 : Out R1 a S) (h2 : Out R2 b S) : Out (fun q => ∃ q1 q2, q = .tup [q1, q2] ∧ R1 q1 ∧ R2 q2) (.tup [a, b]) S := by
  obtain ⟨c, v1, p1, r1⟩ := h1
  obtain ⟨d, v2, p2, r2⟩ := h2
  exact ⟨.tup [c, d], .tup rfl (pw2 v1 v2), .tupL ⟨p1, p2, trivial⟩, c, d, rfl, r1, r2⟩
theorem Out.tup3 {R1 R2 R3 : PV → Prop} {a b e : PV} {S : Sto} (h1 : Out R1 a S) (h2 : Out R2 b S) (h3 : Out R3 e S) : Out (fun q => ∃ q1 q2 q3, q = .tup [q1, q2, q3] ∧ R1 q1 ∧ R2 q2 ∧ R3 q3) (.tup [a, b, e]) S := by
  obtain ⟨c, v1, p1, r1⟩ := h1
  obtain ⟨d, v2, p2, r2⟩ := h2
  obtain ⟨f, v3, p3, r3⟩ := h3
  exact ⟨.tup [c, d, f], .tup rfl (pw3 v1 v2 v3), .tupL ⟨p1, p2, p3, trivial⟩, c, d, f, rfl, r1, r2, r3⟩
theorem Out.agg2 {R1 R2 : PV → Prop} {a b : PV} {S : Sto} (h1 : Out R1 a S) (h2 : Out R2 b S) : Out (fun q => ∃ q1 q2, q = .agg [q1, q2] ∧ R1 q1 ∧ R2 q2) (.agg [a, b]) S := by
  obtain ⟨c, v1, p1, r1⟩ := h1
  obtain ⟨d, v2, p2, r2⟩ := h2
  exact ⟨.agg [c, d], .agg rfl (pw2 v1 v2), .aggL ⟨p1, p2, trivial⟩, c, d, rfl, r1, r2⟩
theorem Out.agg3 {R1 R2 R3 : PV → Prop} {a b e : PV} {S : Sto} (h1 : Out R1 a S) (h2 : Out R2 b S) (h3 : Out R3 e S) : Out (fun q => ∃ q1 q2 q3, q = .agg [q1, q2, q3] ∧ R1 q1 ∧ R2 q2 ∧ R3 q3) (.agg [a, b, e]) S := by
  obtain ⟨c, v1, p1, r1⟩ := h1
  obtain ⟨d, v2, p2, r2⟩ := h2
  obtain ⟨f, v3, p3, r3⟩ := h3
  exact ⟨.agg [c, d, f], .agg rfl (pw3 v1 v2 v3), .aggL ⟨p1, p2, p3, trivial⟩, c, d, f, rfl, r1, r2, r3⟩
theorem pw4 {R : PV → PV → Prop} {a b e g c d f h : PV} (h1 : R a c) (h2 : R b d) (h3 : R e f) (h4 : R g h) : ∀ (j : Nat) x y, [a, b, e, g][j]? = some x → [c, d, f, h][j]? = some y → R x y
  | 0, x, y, e1, e2 => by simp at e1 e2; subst e1 e2; exact h1
  | 1, x, y, e1, e2 => by simp at e1 e2; subst e1 e2; exact h2
  | 2, x, y, e1, e2 => by simp at e1 e2; subst e1 e2; exact h3
  | 3, x, y, e1, e2 => by simp at e1 e2; subst e1 e2; exact h4
  | j + 4, x, y, e1, _ => by simp at e1
theorem Out.agg4 {R1 R2 R3 R4 : PV → Prop} {a b e g : PV} {S : Sto} (h1 : Out R1 a S) (h2 : Out R2 b S) (h3 : Out R3 e S) (h4 : Out R4 g S) : Out (fun q => ∃ q1 q2 q3 q4, q = .agg [q1, q2, q3, q4] ∧ R1 q1 ∧ R2 q2 ∧ R3 q3 ∧ R4 q4) (.agg [a, b, e, g]) S := by
  obtain ⟨c, v1, p1, r1⟩ := h1
  obtain ⟨d, v2, p2, r2⟩ := h2
  obtain ⟨f, v3, p3, r3⟩ := h3
  obtain ⟨h, v4, p4, r4⟩ := h4
  exact ⟨.agg [c, d, f, h], .agg rfl (pw4 v1 v2 v3 v4), .aggL ⟨p1, p2, p3, p4, trivial⟩, c, d, f, h, rfl, r1, r2, r3, r4⟩
theorem Out.plain {R : PV → Prop} {v : PV} {S : Sto} (hp : Plain v) (hr : R v) : Out R v S := ⟨v, .refl v, hp, hr⟩
theorem Ret.mono {P : Program} {f : FuncId} {ps : List PV} {R R' : PV → Sto → Prop} (h : Ret P f ps R) (n : ∀ v S, R v S → R' v S) : Ret P f ps R' :=
  let ⟨r, S, h1, h2⟩ := h; ⟨r, S, h1, n r S h2⟩
end Go.Abs
end
section
namespace Go.Abs
open Go Go.RowKit
section
variable {P : Program} {f : FuncId} {os : Array Oper} {κ : Nat → Cls} {i : Nat} {o : Oper} {l : List Oper} {tm : Tm} {S S1 : Sto} {K : Tm → Sto → Prop}
theorem Out.vecn {α : Type} {K : Cd α} {l : List α} {v : PV} {S : Sto} (h : Vec K l v S ∧ (l = [] → v = .lit (.slice none 0 0))) : Out (fun q => Sl K l q ∧ (l = [] → q = .lit (.slice none 0 0))) v S := by
  obtain ⟨h, hn⟩ := h
  rcases h with ⟨rfl, rfl⟩ | ⟨i, cs, rfl, h1, h2⟩
  · exact ⟨_, .refl _, .lit _, .nil, fun _ => rfl⟩
  · exact ⟨.sl cs l.length, View.row h1.1 (fun h => by cases h) h2.length, .sl _ h2.plain, .rows h2, fun e => by cases hn e⟩
theorem Opl.copy {α : Type} {M : Cd α} {xs ys : List α} {t e : TypeId} {x y : Operand} {v : PV} {as : Array Operand} {ts : Array TypeId} (hv : Vec M xs v S) (hs : Sl M ys (tm.opnd y)) (h1 : M.Ones) (hx : tm.opnd x = v)
    (hl : ys.length = xs.length) (h0 : 0 < xs.length) (hk : tkAt P t = some (.slice e)) (hz : szAt P e = some M.n)
    (hw : wantFn os tm o = some true) (ho : o.op = .call ⟨.builtin .copy, as, ts⟩) (ha : as.toList = [x, y]) (hts : ts.toList = [t, t]) (hκ : κ i = .n)
    (n : ∀ S1, Vec M ys v S1 → Up S S1 v → Opl P os κ (i + 1) l (tm.put o.dst (.lit (.int .i64 (xs.length : Nat)))) S1 K) : Opl P os κ i (o :: l) tm S K := by
  rcases hv with ⟨rfl, rfl⟩ | ⟨d, cs, rfl, h2, h3⟩
  · cases h0
  obtain ⟨ds, hd1, hd2⟩ := hs.row S
  have hall : ds.all PV.one = true := by simpa using hd2.ones h1
  have hcl := h3.length
  have hdl := hd2.length
  have hput : putAt cs 0 (ds.take (min ys.length xs.length * M.n)) = ds := by
    have e1 : min ys.length xs.length * M.n = ds.length := by rw [hdl, hl, Nat.min_self]
    have e2 : cs.length = ds.length := by rw [hcl, hdl, hl]
    rw [e1, List.take_length]; simp [putAt, ← e2]
  refine Opl.one hw (by rw [hκ]; cases clsOf o.op <;> rfl) (S1 := S.set d ⟨ds, M.n, false⟩) ?_ (n _ (.inr ⟨d, ds, by rw [hl], h2.set_same, hd2⟩)
    ⟨fun k q hk hne => hk.set (fun e => hne (by rw [e]; rfl)), fun _ => Nat.le_refl _⟩)
  rw [ho]
  simp only [opFn, builtinFn, ha, hts, List.map_cons, List.map_nil, if_true, hx, copyFn, hk, hz, hs.len, h2.1, hd1]
  rw [if_pos ⟨trivial, hall, by rw [hcl, Nat.zero_add]; exact Nat.le_refl _⟩, hput, hl, Nat.min_self]
theorem Opl.eqnil {t : TypeId} {e : TypeId} {x : Operand} {rt : TypeId} (hv : tm.opnd x = .lit (.slice none 0 0)) (hk : tkAt P t = some (.slice e)) (hw : wantFn os tm o = some true)
    (ho : o.op = .binOp .eql t x (.const (.slice none 0 0)) rt) (n : Opl P os κ (i + 1) l (tm.put o.dst (.lit (.bool true))) S K) : Opl P os κ i (o :: l) tm S K := by
  refine Opl.one hw (by rw [ho]; rfl) ?_ n
  rw [ho]
  simp only [opFn, Tm.opnd, binFn, nilEq, hk, PV.nil?] at hv ⊢
  rw [hv]
  rfl
theorem Opl.eqsome {α : Type} {M : Cd α} {xs : List α} {t : TypeId} {e : TypeId} {x : Operand} {rt : TypeId} (hv : Sl M xs (tm.opnd x)) (hne : ¬ xs = []) (hk : tkAt P t = some (.slice e)) (hw : wantFn os tm o = some true)
    (ho : o.op = .binOp .eql t x (.const (.slice none 0 0)) rt) (n : Opl P os κ (i + 1) l (tm.put o.dst (.lit (.bool false))) S K) : Opl P os κ i (o :: l) tm S K := by
  refine Opl.one hw (by rw [ho]; rfl) ?_ n
  rw [ho]
  rcases hv with ⟨_, h⟩ | ⟨cs, h, _⟩
  · exact absurd h hne
  simp only [opFn, Tm.opnd, binFn, nilEq, hk, PV.nil?] at h ⊢
  rw [h]
  rfl
end
end Go.Abs
end
section
namespace Go.Abs
open Go Go.RowKit
def Apt (a b : List Id) : Prop := ∀ i ∈ a, i ∉ b
theorem Apt.symm {a b : List Id} (h : Apt a b) : Apt b a := fun i h1 h2 => h i h2 h1
theorem Apt.nil {a : List Id} : Apt [] a := fun _ h => by cases h
def Kept (S S1 : Sto) (ids : List Id) : Prop := ∀ i ∈ ids, ∀ o, Live S i o → Live S1 i o
theorem Kept.sub {S S1 : Sto} {a b : List Id} (h : Kept S S1 b) (hs : ∀ i ∈ a, i ∈ b) : Kept S S1 a := fun i hi => h i (hs i hi)
structure Od (α : Type) where
  n : Nat
  cd : Cd α
  R : Sto → List Id → α → List PV → Prop
  len : ∀ {S ids a c}, R S ids a c → c.length = n
  ones : ∀ {S ids a c}, R S ids a c → ∀ p ∈ c, p.one = true
  live : ∀ {S ids a c}, R S ids a c → ∀ i ∈ ids, ∃ o, Live S i o ∧ o.frz = false
  up : ∀ {S S1 ids a c}, R S ids a c → Kept S S1 ids → R S1 ids a c
  view : ∀ {S ids a c}, R S ids a c → ∃ d, ViewL S false c d ∧ cd.R a d
  hn : cd.n = n
theorem ViewL.refl {S : Sto} {z : Bool} (c : List PV) : ViewL S z c c := ⟨rfl, fun j a b h1 h2 => by
  rw [h1] at h2
  obtain rfl := Option.some.inj h2
  exact .refl a⟩
theorem ViewL.append {S : Sto} {z : Bool} {c d c' d' : List PV} (h : ViewL S z c d) (k : ViewL S z c' d') : ViewL S z (c ++ c') (d ++ d') := ⟨by simp [h.1, k.1], fun j a b h1 h2 => by
  rw [List.getElem?_append] at h1 h2
  rw [h.1] at h2
  split at h1
  · rename_i hj
    rw [if_pos hj] at h2
    exact h.2 j a b h1 h2
  · rename_i hj
    rw [if_neg hj] at h2
    exact k.2 _ a b h1 h2⟩
def oPl {α : Type} (M : Cd α) (h1 : M.Ones) : Od α where
  n := M.n
  cd := M
  R _ ids a c := ids = [] ∧ M.R a c
  len h := M.len h.2
  ones h := h1 _ _ h.2
  live h i hi := by rw [h.1] at hi; cases hi
  up h _ := h
  view {S ids a c} h := ⟨c, .refl c, h.2⟩
  hn := rfl
def oPr {α β : Type} (M : Od α) (N : Od β) : Od (α × β) where
  n := M.n + N.n
  cd := cPair M.cd N.cd
  R S ids x c := ∃ c1 c2 i1 i2, c = c1 ++ c2 ∧ ids = i1 ++ i2 ∧ Apt i1 i2 ∧ M.R S i1 x.1 c1 ∧ N.R S i2 x.2 c2
  len := fun ⟨c1, c2, i1, i2, h, _, _, h1, h2⟩ => by rw [h, List.length_append, M.len h1, N.len h2]
  ones := fun ⟨c1, c2, i1, i2, h, _, _, h1, h2⟩ p hp => by rw [h, List.mem_append] at hp; exact hp.elim (M.ones h1 p) (N.ones h2 p)
  live := fun ⟨c1, c2, i1, i2, _, h, _, h1, h2⟩ i hi => by rw [h, List.mem_append] at hi; exact hi.elim (M.live h1 i) (N.live h2 i)
  up := fun ⟨c1, c2, i1, i2, h, hi, ha, h1, h2⟩ hk => ⟨c1, c2, i1, i2, h, hi, ha, M.up h1 (hk.sub fun i hm => by rw [hi]; exact List.mem_append_left _ hm), N.up h2 (hk.sub fun i hm => by rw [hi]; exact List.mem_append_right _ hm)⟩
  view := fun ⟨c1, c2, i1, i2, h, _, _, h1, h2⟩ => by
    obtain ⟨d1, v1, r1⟩ := M.view h1
    obtain ⟨d2, v2, r2⟩ := N.view h2
    exact ⟨d1 ++ d2, by rw [h]; exact v1.append v2, d1, d2, rfl, r1, r2⟩
  hn := by show M.cd.n + N.cd.n = _; rw [M.hn, N.hn]
def oIs {α β : Type} (M : Od β) (g : α → β) : Od α where
  n := M.n
  cd := cIso M.cd g
  R S ids a c := M.R S ids (g a) c
  len := M.len
  ones := M.ones
  live := M.live
  up := M.up
  view := M.view
  hn := M.hn
def RowsO {α : Type} (N : Od α) (S : Sto) : List α → List Id → List PV → Prop
  | [], ids, cs => ids = [] ∧ cs = []
  | a :: l, ids, cs => ∃ c r i1 i2, cs = c ++ r ∧ ids = i1 ++ i2 ∧ Apt i1 i2 ∧ N.R S i1 a c ∧ RowsO N S l i2 r
section
variable {α : Type} {N : Od α} {S S1 : Sto}
theorem RowsO.length : ∀ {l : List α} {ids : List Id} {cs : List PV}, RowsO N S l ids cs → cs.length = l.length * N.n
  | [], _, cs, h => by rw [h.2]; simp
  | a :: l, _, cs, ⟨c, r, i1, i2, h, _, _, h1, h2⟩ => by rw [h, List.length_append, N.len h1, h2.length, List.length_cons, Nat.add_mul]; omega
theorem RowsO.ones : ∀ {l : List α} {ids : List Id} {cs : List PV}, RowsO N S l ids cs → ∀ p ∈ cs, p.one = true
  | [], _, cs, h, p, hp => by rw [h.2] at hp; cases hp
  | a :: l, _, cs, ⟨c, r, i1, i2, h, _, _, h1, h2⟩, p, hp => by rw [h, List.mem_append] at hp; exact hp.elim (N.ones h1 p) (h2.ones p)
theorem RowsO.live : ∀ {l : List α} {ids : List Id} {cs : List PV}, RowsO N S l ids cs → ∀ i ∈ ids, ∃ o, Live S i o ∧ o.frz = false
  | [], _, cs, h, p, hp => by rw [h.1] at hp; cases hp
  | a :: l, _, cs, ⟨c, r, i1, i2, _, h, _, h1, h2⟩, p, hp => by rw [h, List.mem_append] at hp; exact hp.elim (N.live h1 p) (h2.live p)
theorem RowsO.up : ∀ {l : List α} {ids : List Id} {cs : List PV}, RowsO N S l ids cs → Kept S S1 ids → RowsO N S1 l ids cs
  | [], _, cs, h, _ => h
  | a :: l, _, cs, ⟨c, r, i1, i2, h, hi, ha, h1, h2⟩, hk => ⟨c, r, i1, i2, h, hi, ha, N.up h1 (hk.sub fun i hm => by rw [hi]; exact List.mem_append_left _ hm), h2.up (hk.sub fun i hm => by rw [hi]; exact List.mem_append_right _ hm)⟩
theorem RowsO.view : ∀ {l : List α} {ids : List Id} {cs : List PV}, RowsO N S l ids cs → ∃ ds, ViewL S false cs ds ∧ Rows N.cd l ds
  | [], _, cs, h => ⟨[], by rw [h.2]; exact .refl [], rfl⟩
  | a :: l, _, cs, ⟨c, r, i1, i2, h, _, _, h1, h2⟩ => by
    obtain ⟨d1, v1, r1⟩ := N.view h1
    obtain ⟨d2, v2, r2⟩ := h2.view
    exact ⟨d1 ++ d2, by rw [h]; exact v1.append v2, d1, d2, rfl, r1, r2⟩
theorem RowsO.rep {z : α} {c : List PV} (h : N.R S [] z c) : ∀ n, RowsO N S (List.replicate n z) [] (repL n c)
  | 0 => ⟨rfl, rfl⟩
  | n + 1 => ⟨c, repL n c, [], [], by simp [repL, List.replicate_succ], rfl, .nil, h, RowsO.rep h n⟩
theorem RowsO.at : ∀ {l : List α} {ids : List Id} {cs : List PV}, RowsO N S l ids cs → ∀ (j : Nat) (hj : j < l.length), ∃ c ij rest, N.R S ij l[j] c ∧ (∃ r, cs.drop (j * N.n) = c ++ r) ∧ Apt ij rest ∧
    (∀ i, i ∈ ids ↔ i ∈ ij ∨ i ∈ rest) ∧ ∀ (S1 : Sto) a' c' ij', N.R S1 ij' a' c' → Kept S S1 rest → Apt ij' rest → ∃ ids', RowsO N S1 (l.set j a') ids' (putAt cs (j * N.n) c') ∧ ∀ i, i ∈ ids' ↔ i ∈ ij' ∨ i ∈ rest
  | a :: l, ids, cs, ⟨c, r, i1, i2, h, hi, ha, h1, h2⟩, 0, _ => by
    subst h hi
    refine ⟨c, i1, i2, h1, ⟨r, by simp⟩, ha, fun i => List.mem_append, fun S1 a' c' ij' g1 g2 g3 => ⟨ij' ++ i2, ⟨c', r, ij', i2, ?_, rfl, g3, g1, h2.up g2⟩, fun i => List.mem_append⟩⟩
    simp [putAt, N.len g1, ← N.len h1]
  | a :: l, ids, cs, ⟨c, r, i1, i2, h, hi, ha, h1, h2⟩, j + 1, hj => by
    subst h hi
    obtain ⟨d, ij, rest, g1, ⟨t, g2⟩, g3, g4, g5⟩ := h2.at j (by simpa using hj)
    have hcl := N.len h1
    have e1 : (j + 1) * N.n = c.length + j * N.n := by rw [Nat.add_mul, hcl]; omega
    refine ⟨d, ij, i1 ++ rest, g1, ⟨t, by rw [e1, ← List.drop_drop, List.drop_left]; exact g2⟩, fun i hm hn => ?_, fun i => ?_, fun S1 a' c' ij' k1 k2 k3 => ?_⟩
    · rcases List.mem_append.1 hn with hn | hn
      · exact ha i hn ((g4 i).2 (.inl hm))
      · exact g3 i hm hn
    · rw [List.mem_append, List.mem_append, g4]
      constructor
      · rintro (h | h | h)
        · exact .inr (.inl h)
        · exact .inl h
        · exact .inr (.inr h)
      · rintro (h | h | h)
        · exact .inr (.inl h)
        · exact .inl h
        · exact .inr (.inr h)
    · obtain ⟨ids', m1, m2⟩ := g5 S1 a' c' ij' k1 (k2.sub fun i hm => List.mem_append_right _ hm) (fun i hm hn => k3 i hm (List.mem_append_right _ hn))
      refine ⟨i1 ++ ids', ⟨c, putAt r (j * N.n) c', i1, ids', ?_, rfl, fun i hm hn => ?_, N.up h1 (k2.sub fun i hm => List.mem_append_left _ hm), m1⟩, fun i => ?_⟩
      · have g1 : c.take (c.length + j * N.n) = c := List.take_of_length_le (by omega)
        have g2 : c.drop (c.length + (j * N.n + c'.length)) = [] := List.drop_of_length_le (by omega)
        rw [e1]; simp [putAt, List.take_append, List.drop_append, Nat.add_assoc, g1, g2]
      · rcases (m2 i).1 hn with hn | hn
        · exact k3 i hn (List.mem_append_left _ hm)
        · exact ha i hm ((g4 i).2 (.inr hn))
      · rw [List.mem_append, List.mem_append, m2]
        constructor
        · rintro (h | h | h)
          · exact .inr (.inl h)
          · exact .inl h
          · exact .inr (.inr h)
        · rintro (h | h | h)
          · exact .inr (.inl h)
          · exact .inl h
          · exact .inr (.inr h)
end
def oRow {α : Type} (N : Od α) : Od (List α) where
  n := 1
  cd := cSl N.cd
  R S ids l c := (c = [.lit (.slice none 0 0)] ∧ l = [] ∧ ids = []) ∨ ∃ i cs is, c = [.loc i 0 l.length] ∧ ids = i :: is ∧ i ∉ is ∧ Live S i ⟨cs, N.n, false⟩ ∧ RowsO N S l is cs
  len := by rintro S ids a c (⟨rfl, _⟩ | ⟨i, cs, is, rfl, _⟩) <;> rfl
  ones := by rintro S ids a c (⟨rfl, _⟩ | ⟨i, cs, is, rfl, _⟩) p hp <;> (obtain rfl := List.mem_singleton.1 hp; rfl)
  live := by
    rintro S ids a c (⟨_, _, rfl⟩ | ⟨i, cs, is, _, rfl, _, h1, h2⟩) j hj
    · cases hj
    · rcases List.mem_cons.1 hj with rfl | hj
      · exact ⟨_, h1, rfl⟩
      · exact h2.live j hj
  up := by
    rintro S S1 ids a c (h | ⟨i, cs, is, h0, rfl, hn, h1, h2⟩) hk
    · exact .inl h
    · exact .inr ⟨i, cs, is, h0, rfl, hn, hk i List.mem_cons_self _ h1, h2.up (hk.sub fun j hj => List.mem_cons_of_mem _ hj)⟩
  view := by
    rintro S ids a c (⟨rfl, rfl, _⟩ | ⟨i, cs, is, rfl, _, _, h1, h2⟩)
    · exact ⟨_, .refl _, _, rfl, .nil⟩
    · obtain ⟨ds, v, r⟩ := h2.view
      have e : (cs.drop 0).take (a.length * N.n) = cs := by rw [List.drop_zero, ← h2.length, List.take_length]
      refine ⟨[.sl ds a.length], ⟨rfl, fun j p q g1 g2 => ?_⟩, _, rfl, .rows r⟩
      match j, g1, g2 with
      | 0, g1, g2 =>
        obtain rfl := Option.some.inj g1
        obtain rfl := Option.some.inj g2
        exact .loc h1.1 (fun h => by cases h) (by rw [e]; exact v.1) (fun k p q e1 e2 => v.2 k p q (by rw [e] at e1; exact e1) e2)
      | j + 1, g1, _ => simp at g1
  hn := rfl
theorem Vec.tree {α : Type} {M : Cd α} (h1 : M.Ones) {l : List α} {v : PV} {S : Sto} (h : Vec M l v S) : (oRow (oPl M h1)).R S v.id?.toList l [v] := by
  have rows : ∀ {l : List α} {cs : List PV}, Rows M l cs → RowsO (oPl M h1) S l [] cs := by
    intro l
    induction l with
    | nil => exact fun h => ⟨rfl, h⟩
    | cons a l ih => exact fun ⟨c, r, g1, g2, g3⟩ => ⟨c, r, [], [], g1, rfl, .nil, ⟨rfl, g2⟩, ih g3⟩
  rcases h with ⟨rfl, rfl⟩ | ⟨i, cs, rfl, g1, g2⟩
  · exact .inl ⟨rfl, rfl, rfl⟩
  · exact .inr ⟨i, cs, [], rfl, rfl, List.not_mem_nil, g1, rows g2⟩
structure Grow (S S1 : Sto) : Prop where
  live : ∀ i o, Live S i o → Live S1 i o
  gen : ∀ s, S.gen s ≤ S1.gen s
theorem Grow.refl (S : Sto) : Grow S S := ⟨fun _ _ h => h, fun _ => Nat.le_refl _⟩
theorem Grow.trans {S S1 S2 : Sto} (h : Grow S S1) (k : Grow S1 S2) : Grow S S2 := ⟨fun i o h1 => k.live i o (h.live i o h1), fun s => Nat.le_trans (h.gen s) (k.gen s)⟩
theorem Grow.kept {S S1 : Sto} (h : Grow S S1) (ids : List Id) : Kept S S1 ids := fun i _ o => h.live i o
def Fresh (S : Sto) (ids : List Id) : Prop := ∀ i ∈ ids, ∀ o, ¬ Live S i o
theorem Fresh.mono {S S1 : Sto} {ids : List Id} (h : Fresh S1 ids) (k : Grow S S1) : Fresh S ids := fun i hi o ho => h i hi o (k.live i o ho)
theorem Fresh.apt {S : Sto} {a b : List Id} (h : Fresh S a) (k : ∀ i ∈ b, ∃ o, Live S i o ∧ o.frz = false) : Apt a b := fun i h1 h2 => by
  obtain ⟨o, h3, _⟩ := k i h2
  exact h i h1 o h3
theorem Fresh.append {S : Sto} {a b : List Id} (h : Fresh S a) (k : Fresh S b) : Fresh S (a ++ b) := fun i hi => (List.mem_append.1 hi).elim (h i) (k i)
theorem Fresh.nil {S : Sto} : Fresh S [] := fun _ h => by cases h
def ApT (p : PV) (ids : List Id) : Prop := ∀ i ∈ ids, p.id? ≠ some i
theorem New.fresh {S : Sto} {p : PV} (h : New S p) : Fresh S p.id?.toList := fun i hi o ho => h i o ho (by simpa using hi)
theorem New.mono {S S1 : Sto} {p : PV} (h : New S1 p) (k : Grow S S1) : New S p := fun i o ho => h i o (k.live i o ho)
theorem Grow.of {S S1 : Sto} {p : PV} (u : Up S S1 p) (n : New S p) : Grow S S1 := ⟨fun i o h => u.live i o h (n i o h), u.gen⟩
theorem Grow.up {S0 S S1 : Sto} {p : PV} (g : Grow S0 S) (u : Up S S1 p) (n : New S0 p) : Grow S0 S1 := ⟨fun i o h => u.live i o (g.live i o h) (n i o h), fun s => Nat.le_trans (g.gen s) (u.gen s)⟩
theorem Grow.box {S S1 : Sto} {p : PV} {cs : List PV} (g : Grow S S1) (h : Box p cs S) : Box p cs S1 := by
  obtain ⟨i, rfl, h⟩ := h
  exact ⟨i, rfl, g.live i _ h⟩
theorem Grow.vec {α : Type} {K : Cd α} {l : List α} {S S1 : Sto} {v : PV} (g : Grow S S1) (h : Vec K l v S) : Vec K l v S1 := by
  rcases h with h | ⟨i, cs, rfl, h1, h2⟩
  · exact .inl h
  · exact .inr ⟨i, cs, rfl, g.live i _ h1, h2⟩
section
variable {α : Type} {N : Od α} {S S1 : Sto} {ids : List Id} {a : α} {c : List PV} {p : PV}
theorem Grow.tree (g : Grow S S1) (h : N.R S ids a c) : N.R S1 ids a c := N.up h (g.kept ids)
theorem Up.tree (u : Up S S1 p) (h : N.R S ids a c) (ha : ApT p ids) : N.R S1 ids a c := N.up h fun i hi o ho => u.live i o ho (ha i hi)
theorem New.tree (n : New S p) (h : N.R S ids a c) : ApT p ids := fun i hi e => by
  obtain ⟨o, ho, _⟩ := N.live h i hi
  exact n i o ho e
theorem Fresh.box {cs : List PV} (f : Fresh S ids) (h : Box p cs S) : ApT p ids := fun i hi e => by
  obtain ⟨j, rfl, hl⟩ := h
  obtain rfl := Option.some.inj e
  exact f _ hi _ hl
theorem Fresh.vec {β : Type} {K : Cd β} {l : List β} (f : Fresh S ids) (h : Vec K l p S) : ApT p ids := fun i hi e => by
  rcases h with ⟨rfl, _⟩ | ⟨j, cs, rfl, hl, _⟩
  · cases e
  · obtain rfl := Option.some.inj e
    exact f _ hi _ hl
theorem Fresh.tree (f : Fresh S ids) {β : Type} {M : Od β} {js : List Id} {b : β} {d : List PV} (h : M.R S js b d) : Apt js ids := (f.apt (M.live h)).symm
end
def Makes (P : Program) (g : FuncId) (ps : List PV) {α : Type} (N : Od α) (a : α) (val : List PV → PV) : Prop :=
  ∀ S, ∃ c S' ids, Call P g ps S (val c) S' ∧ N.R S' ids a c ∧ Fresh S ids ∧ Grow S S'
def Made (S0 : Sto) {α : Type} (N : Od α) (a : α) (val : List PV → PV) (v : PV) (S : Sto) : Prop := ∃ c ids, v = val c ∧ N.R S ids a c ∧ Fresh S0 ids ∧ Grow S0 S
def first (c : List PV) : PV := c.headD .undef
end Go.Abs
end
section
namespace Go.Abs
open Go Go.RowKit
theorem Makes.intro {P : Program} {f : FuncId} {fn : Func} {c : Code} {ps : List PV} {α : Type} {N : Od α} {a : α} {val : List PV → PV} (h1 : P.funcs[f]? = some fn) (h2 : fn.body = some c) (h3 : ps.length ≤ fn.ntmps) (h4 : (fn.name == "runtime.NumGoroutine") = false)
    (h : ∀ S0, Evr P f [.code c] (Tm.of ps) S0 (Made S0 N a val)) : Makes P f ps N a val := fun S0 => by
  obtain ⟨r, S, h5, d, ids, rfl, h6, h7, h8⟩ := h S0
  obtain ⟨k, h5⟩ := ev_bound h5
  exact ⟨d, S, ids, ⟨k + 1, c, ⟨fn, h1, h2, h3, h4⟩, h5⟩, h6, h7, h8⟩
section
variable {P : Program} {f : FuncId} {os : Array Oper} {κ : Nat → Cls} {i : Nat} {o : Oper} {l : List Oper} {tm : Tm} {S S1 : Sto} {K : Tm → Sto → Prop} {α : Type} {N : Od α} {a : α}
theorem Opl.callm {g : FuncId} {x : Operand} {cs : List PV} {as : Array Operand} {ts : Array TypeId} {ps : List PV} {val : List PV → PV} (h : Makes P g ps N a val) (hw : wantFn os tm o = some true) (ho : o.op = .call ⟨.value x, as, ts⟩)
    (hc : calleeOf (tm.opnd x) = some (g, cs)) (hp : as.toList.map tm.opnd ++ cs = ps) (hκ : κ i = .n) (n : ∀ c S1 ids, N.R S1 ids a c → Fresh S ids → Grow S S1 → Opl P os κ (i + 1) l (tm.put o.dst (val c)) S1 K) : Opl P os κ i (o :: l) tm S K := by
  obtain ⟨c, S', ids, h1, h2, h3, h4⟩ := h S
  exact Opl.cons (.callS hw hκ ho (f := g) (cs := cs) hc (by rw [hp]; exact h1)) (n c S' ids h2 h3 h4)
theorem oRow_one {S : Sto} {ids : List Id} {l : List α} {c : List PV} (h : (oRow N).R S ids l c) : ∃ p, c = [p] := by
  rcases h with ⟨rfl, _⟩ | ⟨i, cs, is, rfl, _⟩ <;> exact ⟨_, rfl⟩
theorem Opl.callr {g : FuncId} {x : Operand} {cs : List PV} {as : Array Operand} {ts : Array TypeId} {ps : List PV} {xs : List α} (h : Makes P g ps (oRow N) xs first) (hw : wantFn os tm o = some true) (ho : o.op = .call ⟨.value x, as, ts⟩)
    (hc : calleeOf (tm.opnd x) = some (g, cs)) (hp : as.toList.map tm.opnd ++ cs = ps) (hκ : κ i = .n) (n : ∀ p S1 ids, (oRow N).R S1 ids xs [p] → Fresh S ids → Grow S S1 → Opl P os κ (i + 1) l (tm.put o.dst p) S1 K) : Opl P os κ i (o :: l) tm S K := by
  refine Opl.callm h hw ho hc hp hκ fun c S1 ids h1 h2 h3 => ?_
  obtain ⟨p, rfl⟩ := oRow_one h1
  exact n p S1 ids h1 h2 h3
theorem Opl.maket {t e : TypeId} {te : TI} {x y : Operand} {m : Int} {k k' : IntKind} (z : α) (hz : ∀ S, N.R S [] z (te.zero.map .lit)) (hx : tm.opnd x = .lit (.int k m)) (hy : tm.opnd y = .lit (.int k' m))
    (hk : tkAt P t = some (.slice e)) (ht : tiOf P e = some te) (hs : te.size = N.n) (h0 : 0 ≤ m) (h1 : m.toNat * te.bytes ≤ 281474976710656) (h2 : m ≤ 281474976710656) (hw : wantFn os tm o = some true) (ho : o.op = .makeSlice t x y) (hκ : κ i = .n)
    (n : ∀ p S1 ids, (oRow N).R S1 ids (List.replicate m.toNat z) [p] → Fresh S ids → Grow S S1 → Opl P os κ (i + 1) l (tm.put o.dst p) S1 K) : Opl P os κ i (o :: l) tm S K := by
  have hzl : te.zero.length = te.size := by have := N.len (hz S); simp at this; omega
  have hu := Up.add (S := S) (s := o.dst.getD 0) (o := ⟨repL m.toNat (te.zero.map .lit), te.size, false⟩) (.loc (S.next (o.dst.getD 0)) 0 m.toNat)
  have hnew : New S (.loc (S.next (o.dst.getD 0)) 0 m.toNat) := .next rfl
  refine Opl.one hw (by rw [hκ]; cases clsOf o.op <;> rfl) ?_ (n (.loc (S.next (o.dst.getD 0)) 0 m.toNat) _ [S.next (o.dst.getD 0)]
    (.inr ⟨S.next (o.dst.getD 0), repL m.toNat (te.zero.map .lit), [], by simp, rfl, List.not_mem_nil, by rw [← hs]; exact .new, RowsO.rep (hz _) m.toNat⟩) hnew.fresh (.of hu hnew))
  rw [ho]
  simp only [opFn, hk, hx, hy, ht]
  rw [if_pos ⟨h0, Int.le_refl _, by unfold maxMake; omega, by unfold maxMake; exact h1, hzl⟩]
theorem Opl.idt {xs : List α} {ids : List Id} {t e : TypeId} {x ix : Operand} {j : Int} {k : IntKind} {v : PV} (hv : (oRow N).R S ids xs [v]) (hx : tm.opnd x = v) (hj : tm.opnd ix = .lit (.int k j)) (h0 : 0 ≤ j) (h1 : j < (xs.length : Int))
    (hk : tkAt P t = some (.slice e)) (hz : szAt P e = some N.n) (hw : wantFn os tm o = some true) (ho : o.op = .indexAddr t x ix)
    (n : ∀ d, v = .loc d 0 xs.length → Opl P os κ (i + 1) l (tm.put o.dst (.ptr d (j.toNat * N.n))) S K) : Opl P os κ i (o :: l) tm S K := by
  rcases hv with ⟨_, rfl, _⟩ | ⟨d, cs, is, hd, rfl, hni, h2, h3⟩
  · simp at h1; omega
  · obtain rfl := (List.cons.inj hd).1
    refine Opl.one hw (by rw [ho]; rfl) ?_ (n d rfl)
    rw [ho]
    simp only [opFn, hk, hj, PV.int?, hz, hx, PV.len?]
    rw [if_pos ⟨h0, h1⟩]
    simp [PV.elem, justV]
theorem Opl.stt {xs : List α} {ids ij : List Id} {t : TypeId} {b x : Operand} {j : Int} {d : Id} {vs : List PV} {y : α} (hv : (oRow N).R S ids xs [.loc d 0 xs.length]) (h0 : 0 ≤ j) (h1 : j < (xs.length : Int))
    (ha : tm.opnd b = .ptr d (j.toNat * N.n)) (hx : (tm.opnd x).cells = vs) (hy : N.R S ij y vs) (hap : Apt ids ij) (ht : szAt P t = some N.n)
    (hw : wantFn os tm o = some true) (ho : o.op = .store t b x) (hκ : κ i = .n)
    (n : ∀ S1 ids', (oRow N).R S1 ids' (xs.set j.toNat y) [.loc d 0 xs.length] → (∀ i ∈ ids', i ∈ ids ∨ i ∈ ij) → Up S S1 (.loc d 0 xs.length) → Opl P os κ (i + 1) l (tm.put o.dst .undef) S1 K) : Opl P os κ i (o :: l) tm S K := by
  have hj : j.toNat < xs.length := by omega
  rcases hv with ⟨_, rfl, _⟩ | ⟨d', cs, is, hd, rfl, hni, hl, h3⟩
  · simp at h1; omega
  injection hd with hd _
  injection hd with hd _ _
  subst hd
  obtain ⟨c, ii, rest, g1, _, g3, g4, g5⟩ := h3.at j.toNat hj
  have hup : Up S (S.set d ⟨putAt cs (j.toNat * N.n) vs, N.n, false⟩) (.loc d 0 xs.length) := ⟨fun k q hk hne => hk.set (fun e => hne (by rw [e]; rfl)), fun _ => Nat.le_refl _⟩
  have hrest : Kept S (S.set d ⟨putAt cs (j.toNat * N.n) vs, N.n, false⟩) rest := fun k hk o ho => hup.live k o ho (fun e => by
    obtain rfl := Option.some.inj e
    exact hni ((g4 _).2 (.inr hk)))
  have hyn : d ∉ ij := hap d List.mem_cons_self
  have hy' := N.up (S1 := S.set d ⟨putAt cs (j.toNat * N.n) vs, N.n, false⟩) hy fun k hk o ho => hup.live k o ho (fun e => by
    obtain rfl := Option.some.inj e
    exact hyn hk)
  obtain ⟨is', m1, m2⟩ := g5 _ y vs ij hy' hrest (fun k hk hr => hap k (List.mem_cons_of_mem _ ((g4 k).2 (.inr hr))) hk)
  refine Opl.one hw (by rw [hκ]; cases clsOf o.op <;> rfl) ?_ (n (S.set d ⟨putAt cs (j.toNat * N.n) vs, N.n, false⟩) (d :: is') (.inr ⟨d, _, is', by simp, rfl, fun hm => ?_, hl.set_same, m1⟩) (fun k hk => ?_) hup)
  · rw [ho]
    have hlen := h3.length
    have hfit : j.toNat * N.n + N.n ≤ cs.length := by
      rw [hlen, ← Nat.succ_mul]
      exact Nat.mul_le_mul_right _ hj
    simp only [opFn, ht, ha, storeFn, hl.1, hx]
    rw [if_pos ⟨trivial, N.len hy, hfit, by simpa using N.ones hy⟩]
  · rcases (m2 d).1 hm with hm | hm
    · exact hyn hm
    · exact hni ((g4 d).2 (.inr hm))
  · rcases List.mem_cons.1 hk with rfl | hk
    · exact .inl List.mem_cons_self
    · rcases (m2 k).1 hk with hk | hk
      · exact .inr hk
      · exact .inl (List.mem_cons_of_mem _ ((g4 k).2 (.inr hk)))
theorem oRow_cells {S : Sto} {ids : List Id} {xs : List α} {p : PV} (h : (oRow N).R S ids xs [p]) : p.cells = [p] := by
  rcases h with ⟨h, _⟩ | ⟨i, cs, is, h, _⟩ <;> (obtain rfl := (List.cons.inj h).1; rfl)
theorem oRow_p1 {S : Sto} {ids : List Id} {xs : List α} {p : PV} (h : (oRow N).R S ids xs [p]) : p.one = true := (oRow N).ones h p List.mem_cons_self
theorem oRow_new {S S0 : Sto} {ids : List Id} {xs : List α} {p : PV} (h : (oRow N).R S ids xs [p]) (f : Fresh S0 ids) : New S0 p := by
  rcases h with ⟨h, _⟩ | ⟨i, cs, is, h, rfl, _⟩
  · obtain rfl := (List.cons.inj h).1
    exact fun i o _ e => by cases e
  · obtain rfl := (List.cons.inj h).1
    exact fun j o hl e => by
      obtain rfl := Option.some.inj e
      exact f i List.mem_cons_self o hl
theorem Fresh.or {S : Sto} {a b c : List Id} (h : ∀ i ∈ c, i ∈ a ∨ i ∈ b) (f : Fresh S a) (g : Fresh S b) : Fresh S c := fun i hi => (h i hi).elim (f i) (g i)
end
end Go.Abs
end
section
namespace Go.Abs
open Go Go.RowKit
def RetS (P : Program) (f : FuncId) (ps : List PV) (S : Sto) (R : PV → Sto → Prop) : Prop := ∃ r S', Call P f ps S r S' ∧ R r S'
theorem RetS.intro {P : Program} {f : FuncId} {fn : Func} {c : Code} {ps : List PV} {S : Sto} {R : PV → Sto → Prop} (h1 : P.funcs[f]? = some fn) (h2 : fn.body = some c) (h3 : ps.length ≤ fn.ntmps) (h4 : (fn.name == "runtime.NumGoroutine") = false)
    (h : Evr P f [.code c] (Tm.of ps) S R) : RetS P f ps S R := by
  obtain ⟨r, S', h5, h6⟩ := h
  obtain ⟨k, h5⟩ := ev_bound h5
  exact ⟨r, S', ⟨k + 1, c, ⟨fn, h1, h2, h3, h4⟩, h5⟩, h6⟩
structure Same (S S1 : Sto) (ids : List Id) : Prop where
  live : ∀ i o, i ∉ ids → Live S i o → Live S1 i o
  gen : ∀ s, S.gen s ≤ S1.gen s
theorem Same.refl (S : Sto) (ids : List Id) : Same S S ids := ⟨fun _ _ _ h => h, fun _ => Nat.le_refl _⟩
theorem Same.trans {S S1 S2 : Sto} {a b : List Id} (h : Same S S1 a) (k : Same S1 S2 b) (hs : ∀ i ∈ b, i ∈ a) : Same S S2 a := ⟨fun i o hn hl => k.live i o (fun hi => hn (hs i hi)) (h.live i o hn hl), fun s => Nat.le_trans (h.gen s) (k.gen s)⟩
theorem Same.sub {S S1 : Sto} {a b : List Id} (h : Same S S1 a) (hs : ∀ i ∈ a, i ∈ b) : Same S S1 b := ⟨fun i o hn hl => h.live i o (fun hi => hn (hs i hi)) hl, h.gen⟩
theorem Same.kept {S S1 : Sto} {a b : List Id} (h : Same S S1 a) (ha : Apt b a) : Kept S S1 b := fun i hi o ho => h.live i o (ha i hi) ho
theorem Same.box {S S1 : Sto} {a : List Id} {p : PV} {cs : List PV} (h : Same S S1 a) (k : Box p cs S) (ha : ApT p a) : Box p cs S1 := by
  obtain ⟨i, rfl, hl⟩ := k
  exact ⟨i, rfl, h.live i _ (fun hi => ha i hi rfl) hl⟩
theorem Same.vec {α : Type} {K : Cd α} {S S1 : Sto} {a : List Id} {p : PV} {l : List α} (h : Same S S1 a) (k : Vec K l p S) (ha : ApT p a) : Vec K l p S1 := by
  rcases k with k | ⟨i, cs, rfl, hl, hr⟩
  · exact .inl k
  · exact .inr ⟨i, cs, rfl, h.live i _ (fun hi => ha i hi rfl) hl, hr⟩
theorem Same.tree {α : Type} {N : Od α} {S S1 : Sto} {a b : List Id} {x : α} {c : List PV} (h : Same S S1 a) (k : N.R S b x c) (ha : Apt b a) : N.R S1 b x c := N.up k (h.kept ha)
def Mks (P : Program) (g : FuncId) {α : Type} (N : Od α) (leaf : α → Nat) (ok : α → Prop) (val : List PV → PV) : Prop :=
  ∀ S ids a c (k : Int), N.R S ids a c → ok a → 0 ≤ k → k + leaf a ≤ 9223372036854775807 → RetS P g [val c, .lit (.int .i64 k)] S fun v S' => v = .lit (.int .i64 (k + leaf a)) ∧ ∃ ids' a', N.R S' ids' a' c ∧ (∀ i ∈ ids', i ∈ ids) ∧ leaf a' = leaf a ∧ ok a' ∧ Same S S' ids
def okRow {α : Type} (ok : α → Prop) (l : List α) : Prop := l.length ≤ 4611686018427387904 ∧ ∀ x ∈ l, ok x
def okAny {α : Type} (_ : α) : Prop := True
def leaves {α : Type} (leaf : α → Nat) (l : List α) : Nat := (l.map leaf).sum
section
variable {P : Program} {f : FuncId} {os : Array Oper} {κ : Nat → Cls} {i : Nat} {o : Oper} {l : List Oper} {tm : Tm} {S S1 : Sto} {K : Tm → Sto → Prop} {α : Type} {N : Od α}
theorem Opl.calls {g : FuncId} {x : Operand} {cs : List PV} {as : Array Operand} {ts : Array TypeId} {ps : List PV} {R : PV → Sto → Prop} (h : RetS P g ps S R) (hw : wantFn os tm o = some true) (ho : o.op = .call ⟨.value x, as, ts⟩)
    (hc : calleeOf (tm.opnd x) = some (g, cs)) (hp : as.toList.map tm.opnd ++ cs = ps) (hκ : κ i = .n) (n : ∀ v S1, R v S1 → Opl P os κ (i + 1) l (tm.put o.dst v) S1 K) : Opl P os κ i (o :: l) tm S K := by
  obtain ⟨r, S', h1, h2⟩ := h
  exact Opl.cons (.callS hw hκ ho (f := g) (cs := cs) hc (by rw [hp]; exact h1)) (n r S' h2)
theorem Opl.ldo {t : TypeId} {ti : TI} {x : Operand} {d : Id} {off es : Nat} {cs : List PV} {v : PV} (hl : Live S d ⟨cs, es, false⟩) (hx : tm.opnd x = .ptr d off) (ht : tiOf P t = some ti) (hv : ti.load (cs.drop off) = some v)
    (hw : wantFn os tm o = some true) (ho : o.op = .load t x) (hκ : Cls.le .r (κ i) = true) (n : Opl P os κ (i + 1) l (tm.put o.dst v) S K) : Opl P os κ i (o :: l) tm S K := by
  refine Opl.one hw (by rw [ho]; exact hκ) ?_ n
  rw [ho]
  simp only [opFn, ht, hx, Sto.cellsOf, hl.1, Option.map_some, hv, justV]
theorem Opl.sto {t : TypeId} {b x : Operand} {d : Id} {off es sz : Nat} {cs vs : List PV} (hl : Live S d ⟨cs, es, false⟩) (ha : tm.opnd b = .ptr d off) (hx : (tm.opnd x).cells = vs) (ht : szAt P t = some sz) (hn : vs.length = sz) (hf : off + sz ≤ cs.length)
    (h2 : vs.all PV.one = true) (hw : wantFn os tm o = some true) (ho : o.op = .store t b x) (hκ : κ i = .n)
    (n : Live (S.set d ⟨putAt cs off vs, es, false⟩) d ⟨putAt cs off vs, es, false⟩ → Same S (S.set d ⟨putAt cs off vs, es, false⟩) [d] → Opl P os κ (i + 1) l (tm.put o.dst .undef) (S.set d ⟨putAt cs off vs, es, false⟩) K) : Opl P os κ i (o :: l) tm S K := by
  refine Opl.one hw (by rw [hκ]; cases clsOf o.op <;> rfl) ?_ (n hl.set_same ⟨fun j q hj hq => hq.set (fun e => hj (by rw [e]; exact List.mem_cons_self)), fun _ => Nat.le_refl _⟩)
  rw [ho]
  simp only [opFn, ht, ha, storeFn, hl.1, hx]
  rw [if_pos ⟨trivial, hn, hf, h2⟩]
theorem Opl.ido {t e : TypeId} {x ix : Operand} {j : Int} {k : IntKind} {d : Id} {m es : Nat} (hx : tm.opnd x = .loc d 0 m) (hj : tm.opnd ix = .lit (.int k j)) (h0 : 0 ≤ j) (h1 : j < (m : Int))
    (hk : tkAt P t = some (.slice e)) (hz : szAt P e = some es) (hw : wantFn os tm o = some true) (ho : o.op = .indexAddr t x ix)
    (n : Opl P os κ (i + 1) l (tm.put o.dst (.ptr d (j.toNat * es))) S K) : Opl P os κ i (o :: l) tm S K := by
  refine Opl.one hw (by rw [ho]; rfl) ?_ n
  rw [ho]
  simp only [opFn, hk, hj, PV.int?, hz, hx, PV.len?]
  rw [if_pos ⟨h0, h1⟩]
  simp [PV.elem, justV]
theorem Opl.leno {t e : TypeId} {x : Operand} {xs' : Array Operand} {ts : Array TypeId} {m : Nat} (hv : (tm.opnd x).len? = some m) (hk : tkAt P t = some (.slice e)) (hw : wantFn os tm o = some true)
    (ho : o.op = .call ⟨.builtin .len, xs', ts⟩) (h1 : xs'.toList = [x]) (h2 : ts.toList = [t])
    (n : Opl P os κ (i + 1) l (tm.put o.dst (.lit (.int .i64 (m : Nat)))) S K) : Opl P os κ i (o :: l) tm S K := by
  refine Opl.one hw (by rw [ho]; rfl) ?_ n
  rw [ho]
  simp only [opFn, builtinFn, h1, h2, List.map_cons, List.map_nil, pureB, hk, hv, Option.map_some, justV]
end
structure Ints {α : Type} (M : Cd α) : Prop where
  out : ∀ {a c}, M.R a c → ∀ p ∈ c, ∃ x : Int, p = .lit (.int .i64 x)
  inn : ∀ {c}, c.length = M.n → (∀ p ∈ c, ∃ x : Int, p = .lit (.int .i64 x)) → ∃ a, M.R a c
def AllInts (cs : List PV) : Prop := ∀ p ∈ cs, ∃ x : Int, p = .lit (.int .i64 x)
theorem AllInts.put {cs : List PV} (h : AllInts cs) (off : Nat) (x : Int) : AllInts (putAt cs off [.lit (.int .i64 x)]) := fun p hp => by
  simp only [putAt, List.mem_append] at hp
  rcases hp with hp | hp | hp
  · exact h p (List.mem_of_mem_take hp)
  · exact ⟨x, List.mem_singleton.1 hp⟩
  · exact h p (List.mem_of_mem_drop hp)
theorem Ints.rows {α : Type} {M : Cd α} (h : Ints M) : ∀ {l : List α} {cs : List PV}, Rows M l cs → AllInts cs
  | [], cs, h0, p, hp => by rw [show cs = [] from h0] at hp; cases hp
  | a :: l, cs, ⟨c, r, h1, h2, h3⟩, p, hp => by
    rw [h1, List.mem_append] at hp
    exact hp.elim (h.out h2 p) (h.rows h3 p)
theorem Ints.back {α : Type} {M : Cd α} (h : Ints M) : ∀ (n : Nat) {cs : List PV}, cs.length = n * M.n → AllInts cs → ∃ l : List α, l.length = n ∧ Rows M l cs
  | 0, cs, hl, _ => ⟨[], rfl, List.eq_nil_of_length_eq_zero (by simpa using hl)⟩
  | n + 1, cs, hl, ha => by
    obtain ⟨a, h1⟩ := h.inn (c := cs.take M.n) (by rw [List.length_take, hl, Nat.add_mul]; omega) (fun p hp => ha p (List.mem_of_mem_take hp))
    obtain ⟨l, h2, h3⟩ := h.back n (cs := cs.drop M.n) (by rw [List.length_drop, hl, Nat.add_mul]; omega) (fun p hp => ha p (List.mem_of_mem_drop hp))
    exact ⟨a :: l, by simp [h2], cs.take M.n, cs.drop M.n, (List.take_append_drop _ _).symm, h1, h3⟩
theorem rows_pl {α : Type} {M : Cd α} {h1 : M.Ones} {S : Sto} : ∀ {l : List α} {ids : List Id} {cs : List PV}, RowsO (oPl M h1) S l ids cs → ids = [] ∧ Rows M l cs
  | [], _, _, h => h
  | a :: l, _, _, ⟨c, r, i1, i2, e1, e2, _, g1, g2⟩ => by
    obtain ⟨rfl, g3⟩ := rows_pl g2
    exact ⟨by rw [e2, g1.1]; rfl, c, r, e1, g1.2, g3⟩
theorem tree_vec {α : Type} {M : Cd α} {h1 : M.Ones} {S : Sto} {l : List α} {ids : List Id} {p : PV} (h : (oRow (oPl M h1)).R S ids l [p]) : Vec M l p S ∧ ids = p.id?.toList := by
  rcases h with ⟨h, rfl, rfl⟩ | ⟨i, cs, is, h, rfl, _, h2, h3⟩
  · obtain rfl := (List.cons.inj h).1
    exact ⟨.nil, rfl⟩
  · obtain rfl := (List.cons.inj h).1
    obtain ⟨rfl, h4⟩ := rows_pl h3
    exact ⟨.inr ⟨i, cs, rfl, h2, h4⟩, rfl⟩
theorem ints_int : Ints (cInt .i64) := ⟨fun h p hp => by rw [show _ = _ from h] at hp; exact ⟨_, List.mem_singleton.1 hp⟩, fun {c} hl ha => by
  match c, hl, ha with
  | [p], _, ha => obtain ⟨x, rfl⟩ := ha p List.mem_cons_self; exact ⟨x, rfl⟩⟩
theorem ints_pair {α β : Type} {M : Cd α} {N : Cd β} (h : Ints M) (k : Ints N) : Ints (cPair M N) := ⟨fun ⟨c1, c2, e, g1, g2⟩ p hp => by
  rw [e, List.mem_append] at hp
  exact hp.elim (h.out g1 p) (k.out g2 p), fun {c} hl ha => by
  obtain ⟨a, h1⟩ := h.inn (c := c.take M.n) (by rw [List.length_take, hl]; show min M.n (M.n + N.n) = _; omega) (fun p hp => ha p (List.mem_of_mem_take hp))
  obtain ⟨b, h2⟩ := k.inn (c := c.drop M.n) (by rw [List.length_drop, hl]; show M.n + N.n - M.n = _; omega) (fun p hp => ha p (List.mem_of_mem_drop hp))
  exact ⟨(a, b), _, _, (List.take_append_drop _ _).symm, h1, h2⟩⟩
theorem ints_iso {α β : Type} {M : Cd β} {g : α → β} (h : Ints M) (b : β → α) (hb : ∀ x, g (b x) = x) : Ints (cIso M g) := ⟨fun hc => h.out hc, fun hl ha => by
  obtain ⟨a, h1⟩ := h.inn hl ha
  exact ⟨b a, by show M.R (g (b a)) _; rw [hb]; exact h1⟩⟩
theorem wrap_of {x : Int} (h0 : 0 ≤ x) (h1 : x ≤ 9223372036854775807) : wrap64 x = x := by
  unfold wrap64
  omega
theorem putAt_len {cs vs : List PV} {off : Nat} (h : off + vs.length ≤ cs.length) : (putAt cs off vs).length = cs.length := (putAt_get cs vs off h).1
theorem leaves_const {α : Type} (m : Nat) : ∀ (l : List α), leaves (fun _ => m) l = l.length * m
  | [] => by simp [leaves]
  | a :: l => by
    have := leaves_const m l
    unfold leaves at this ⊢
    rw [List.map_cons, List.sum_cons, this, List.length_cons, Nat.add_mul]
    omega
def Flat (S0 S : Sto) (p : PV) (len es : Nat) : Prop := p.len? = some len ∧ (len = 0 ∧ S = S0 ∨ ∃ d cs, p = .loc d 0 len ∧ Live S d ⟨cs, es, false⟩ ∧ cs.length = len * es ∧ AllInts cs ∧ Same S0 S [d])
theorem Flat.of {α : Type} {M : Cd α} (h : Ints M) {l : List α} {p : PV} {S : Sto} (hv : Vec M l p S) : Flat S S p l.length M.n := by
  refine ⟨hv.len, ?_⟩
  rcases hv with ⟨_, rfl⟩ | ⟨d, cs, rfl, h1, h2⟩
  · exact .inl ⟨rfl, rfl⟩
  · exact .inr ⟨d, cs, rfl, h1, h2.length, h.rows h2, .refl _ _⟩
theorem Flat.done {α : Type} {M : Cd α} (h : Ints M) (h1 : M.Ones) {l : List α} {p : PV} {S0 S : Sto} (hv : Vec M l p S0) (hf : Flat S0 S p l.length M.n) :
    ∃ ids' a', (oRow (oPl M h1)).R S ids' a' [p] ∧ (∀ i ∈ ids', i ∈ p.id?.toList) ∧ a'.length = l.length ∧ Same S0 S p.id?.toList := by
  obtain ⟨_, ⟨h0, rfl⟩ | ⟨d, cs, rfl, g1, g2, g3, g4⟩⟩ := hf
  · exact ⟨_, l, hv.tree h1, fun _ h => h, rfl, .refl _ _⟩
  · obtain ⟨l', g5, g6⟩ := h.back l.length g2 g3
    exact ⟨_, l', Vec.tree h1 (.inr ⟨d, cs, by rw [g5], g1, g6⟩), fun _ h => h, g5, g4⟩
theorem Opl.stoi {P : Program} {os : Array Oper} {κ : Nat → Cls} {i : Nat} {o : Oper} {l : List Oper} {tm : Tm} {S : Sto} {K : Tm → Sto → Prop} {t : TypeId} {b x : Operand} {d : Id} {off es : Nat} {cs : List PV} {z : Int} (hl : Live S d ⟨cs, es, false⟩) (hi : AllInts cs)
    (ha : tm.opnd b = .ptr d off) (hx : tm.opnd x = .lit (.int .i64 z)) (ht : szAt P t = some 1) (hf : off + 1 ≤ cs.length) (hw : wantFn os tm o = some true) (ho : o.op = .store t b x) (hκ : κ i = .n)
    (n : ∀ cs' S1, Live S1 d ⟨cs', es, false⟩ → cs'.length = cs.length → AllInts cs' → Same S S1 [d] → Opl P os κ (i + 1) l (tm.put o.dst .undef) S1 K) : Opl P os κ i (o :: l) tm S K :=
  Opl.sto (vs := [.lit (.int .i64 z)]) hl ha (by rw [hx]; rfl) ht rfl hf rfl hw ho hκ fun h1 h2 => n _ _ h1 (putAt_len hf) (hi.put off z) h2
end Go.Abs
end
section
namespace Go.Abs
open Go Go.RowKit
theorem putAt_same {cs c r : List PV} {off : Nat} (h : cs.drop off = c ++ r) : putAt cs off c = cs := by
  unfold putAt
  have e : cs.drop (off + c.length) = r := by rw [← List.drop_drop, h, List.drop_left]
  rw [e, ← h, List.take_append_drop]
theorem sum_take : ∀ (W : List Nat) (i : Nat) (h : i < W.length), (W.take (i + 1)).sum = (W.take i).sum + W[i]
  | w :: W, 0, _ => by simp
  | w :: W, i + 1, h => by
    have := sum_take W i (by simpa using h)
    simp only [List.take_succ_cons, List.sum_cons, List.getElem_cons_succ]
    omega
theorem sum_le : ∀ (W : List Nat) (i : Nat), (W.take i).sum ≤ W.sum
  | [], i => by simp
  | w :: W, 0 => by simp
  | w :: W, i + 1 => by
    have := sum_le W i
    simp only [List.take_succ_cons, List.sum_cons]
    omega
theorem oRow_mark {α : Type} {N : Od α} {S : Sto} {ids : List Id} {l : List α} {p : PV} (h : (oRow N).R S ids l [p]) (j : Nat) (hj : j < l.length) : ∃ d cs ij ce r, p = .loc d 0 l.length ∧ Live S d ⟨cs, N.n, false⟩ ∧ cs.drop (j * N.n) = ce ++ r ∧ N.R S ij l[j] ce ∧
    (∀ i ∈ ij, i ∈ ids) ∧ (∀ S1, Same S S1 ij → Live S1 d ⟨cs, N.n, false⟩) ∧ ∀ S1 ij' a', Same S S1 ij → N.R S1 ij' a' ce → (∀ i ∈ ij', i ∈ ij) → ∃ ids', (oRow N).R S1 ids' (l.set j a') [p] ∧ ∀ i ∈ ids', i ∈ ids := by
  rcases h with ⟨_, rfl, _⟩ | ⟨d, cs, is, hd, rfl, hni, hl, h3⟩
  · cases hj
  obtain rfl := (List.cons.inj hd).1
  obtain ⟨ce, ij, rest, g1, ⟨r, g2⟩, g3, g4, g5⟩ := h3.at j hj
  have hdi : d ∉ ij := fun hm => hni ((g4 d).2 (.inl hm))
  refine ⟨d, cs, ij, ce, r, rfl, hl, g2, g1, fun i hi => List.mem_cons_of_mem _ ((g4 i).2 (.inl hi)), fun S1 hs => hs.live d _ hdi hl, fun S1 ij' a' hs ha hsub => ?_⟩
  obtain ⟨is', m1, m2⟩ := g5 S1 a' ce ij' ha (hs.kept g3.symm) (fun i hi hr => g3 i (hsub i hi) hr)
  rw [putAt_same g2] at m1
  refine ⟨d :: is', .inr ⟨d, cs, is', by simp, rfl, fun hm => ?_, hs.live d _ hdi hl, m1⟩, fun i hi => ?_⟩
  · rcases (m2 d).1 hm with hm | hm
    · exact hdi (hsub d hm)
    · exact hni ((g4 d).2 (.inr hm))
  · rcases List.mem_cons.1 hi with rfl | hi
    · exact List.mem_cons_self
    · rcases (m2 i).1 hi with hi | hi
      · exact List.mem_cons_of_mem _ ((g4 i).2 (.inl (hsub i hi)))
      · exact List.mem_cons_of_mem _ ((g4 i).2 (.inr hi))
def Deep {α : Type} (N : Od α) (leaf : α → Nat) (ok : α → Prop) (S0 S : Sto) (ids : List Id) (l : List α) (p : PV) : Prop :=
  ∃ ids1 l1, (oRow N).R S ids1 l1 [p] ∧ (∀ i ∈ ids1, i ∈ ids) ∧ l1.map leaf = l.map leaf ∧ (∀ x ∈ l1, ok x) ∧ Same S0 S ids
section
variable {α : Type} {N : Od α} {leaf : α → Nat} {ok : α → Prop} {S0 S : Sto} {ids : List Id} {l : List α} {p : PV}
theorem Deep.of (h : (oRow N).R S ids l [p]) (ho : ∀ x ∈ l, ok x) : Deep N leaf ok S S ids l p := ⟨ids, l, h, fun _ h => h, rfl, ho, .refl _ _⟩
theorem oRow_len {S : Sto} {ids : List Id} {l : List α} {p : PV} (h : (oRow N).R S ids l [p]) : p.len? = some l.length := by
  rcases h with ⟨h, rfl, _⟩ | ⟨d, cs, is, hd, _⟩
  · obtain rfl := (List.cons.inj h).1; rfl
  · obtain rfl := (List.cons.inj hd).1; rfl
theorem Deep.at (h : Deep N leaf ok S0 S ids l p) {i k : Int} (h0 : 0 ≤ i) (h1 : i < (l.length : Int)) (hk : 0 ≤ k) (hb : k + leaves leaf l ≤ 9223372036854775807) :
    ∃ d cs ij ce r a, p = .loc d 0 l.length ∧ Live S d ⟨cs, N.n, false⟩ ∧ cs.drop (i.toNat * N.n) = ce ++ r ∧ N.R S ij a ce ∧ ok a ∧ 0 ≤ k + (((l.map leaf).take i.toNat).sum : Nat) ∧ k + (((l.map leaf).take i.toNat).sum : Nat) + leaf a ≤ 9223372036854775807 ∧
      k + (((l.map leaf).take (i + 1).toNat).sum : Nat) = k + (((l.map leaf).take i.toNat).sum : Nat) + leaf a ∧ (∀ S1, Same S S1 ij → Live S1 d ⟨cs, N.n, false⟩) ∧
      ∀ S1 ij' a', Same S S1 ij → N.R S1 ij' a' ce → (∀ i ∈ ij', i ∈ ij) → leaf a' = leaf a → ok a' → Deep N leaf ok S0 S1 ids l p := by
  obtain ⟨ids1, l1, g1, g2, g3, go, g4⟩ := h
  have hlen : l1.length = l.length := by have := congrArg List.length g3; simpa using this
  have hj : i.toNat < l1.length := by omega
  obtain ⟨d, cs, ij, ce, r, e1, e2, e3, e4, e5, e6, e7⟩ := oRow_mark g1 i.toNat hj
  have hw : (l.map leaf)[i.toNat]'(by simp; omega) = leaf l1[i.toNat] := by
    have : (l.map leaf)[i.toNat]? = (l1.map leaf)[i.toNat]? := by rw [g3]
    rw [List.getElem?_eq_getElem (by simp; omega), List.getElem?_eq_getElem (by simp; omega)] at this
    simpa using this
  have hs := sum_take (l.map leaf) i.toNat (by simp; omega)
  have hle := sum_le (l.map leaf) (i.toNat + 1)
  have e9 : (i + 1).toNat = i.toNat + 1 := by omega
  unfold leaves at hb
  rw [hw] at hs
  refine ⟨d, cs, ij, ce, r, l1[i.toNat], by rw [e1, hlen], e2, e3, e4, go _ (List.getElem_mem hj), by omega, by omega, by rw [e9]; omega, e6, fun S1 ij' a' m1 m2 m3 m4 m5 => ?_⟩
  obtain ⟨ids', n1, n2⟩ := e7 S1 ij' a' m1 m2 m3
  refine ⟨ids', _, n1, fun i hi => g2 i (n2 i hi), ?_, fun x hx => (List.mem_or_eq_of_mem_set hx).elim (go x) (fun e => e ▸ m5), g4.trans m1 fun i hi => g2 i (e5 i hi)⟩
  rw [← g3, List.map_set, m4]
  exact List.ext_getElem (by simp) fun n a b => by
    rw [List.getElem_set]
    split
    · rename_i hn; subst hn; simp
    · rfl
theorem Deep.done (h : Deep N leaf ok S0 S ids l p) : ∃ ids' a', (oRow N).R S ids' a' [p] ∧ (∀ i ∈ ids', i ∈ ids) ∧ leaves leaf a' = leaves leaf l ∧ (l.length ≤ 4611686018427387904 → okRow ok a') ∧ Same S0 S ids := by
  obtain ⟨ids1, l1, g1, g2, g3, go, g4⟩ := h
  have hlen : l1.length = l.length := by have := congrArg List.length g3; simpa using this
  exact ⟨ids1, l1, g1, g2, by unfold leaves; rw [g3], fun h => ⟨by omega, go⟩, g4⟩
theorem sum_all (leaf : α → Nat) (l : List α) : (((l.map leaf).take l.length).sum : Nat) = leaves leaf l := by
  unfold leaves
  rw [List.take_of_length_le (by simp)]
end
theorem Grow.same {S S1 : Sto} {ids : List Id} (g : Grow S S1) : Same S S1 ids := ⟨fun i o _ h => g.live i o h, g.gen⟩
theorem Up.same {S S1 : Sto} {p : PV} (u : Up S S1 p) : Same S S1 p.id?.toList := ⟨fun i o hn h => u.live i o h (fun e => hn (by rw [e]; exact List.mem_singleton.2 rfl)), u.gen⟩
end Go.Abs
end
section
namespace Go.Abs
open Go Go.RowKit
section
variable {P : Program} {f : FuncId} {os : Array Oper} {κ : Nat → Cls} {i : Nat} {o : Oper} {l : List Oper} {tm : Tm} {S : Sto} {K : Tm → Sto → Prop}
def Cd.Scals {α : Type} (M : Cd α) : Prop := ∀ a c, M.R a c → ∀ p ∈ c, Scal p
theorem sInt (k : IntKind) : (cInt k).Scals := fun a c h p hp => by rw [show c = _ from h] at hp; obtain rfl := List.mem_singleton.1 hp; exact .lit _
end
theorem ViewL.agg {S : Sto} {z : Bool} {c d : List PV} (h : ViewL S z c d) : View S z (.agg c) (.agg d) := .agg h.1 h.2
theorem ViewL.one {S : Sto} {z : Bool} {p : PV} {d : List PV} (h : ViewL S z [p] d) : ∃ q, d = [q] ∧ View S z p q := by
  obtain ⟨h1, h2⟩ := h
  match d, h1 with
  | [q], _ => exact ⟨q, rfl, h2 0 p q rfl rfl⟩
end Go.Abs
end
section
namespace Go.Abs
open Go Go.RowKit
theorem Scal.own {p : PV} (h : Scal p) : Own p := by
  induction h with
  | lit v => exact .lit v
  | agg h ih => exact .agg ih
  | tup h ih => exact .tup ih
theorem Scal.ren {p : PV} (h : Scal p) (g : Nat → Nat) : p.ren g = p := by
  induction h with
  | lit v => simp only [PV.ren]
  | @agg cs h ih => simp only [PV.ren, renL_eq, PV.agg.injEq]; exact (List.map_congr_left ih).trans (List.map_id _)
  | @tup cs h ih => simp only [PV.ren, renL_eq, PV.tup.injEq]; exact (List.map_congr_left ih).trans (List.map_id _)
theorem renL_scal {c : List PV} (h : ∀ p ∈ c, Scal p) (g : Nat → Nat) : renL g c = c := by
  rw [renL_eq]
  exact (List.map_congr_left fun p hp => (h p hp).ren g).trans (List.map_id _)
theorem renL_append (g : Nat → Nat) (c d : List PV) : renL g (c ++ d) = renL g c ++ renL g d := by simp only [renL_eq, List.map_append]
theorem up_inj {g : Nat → Nat} {i j : Id} (h : Id.up g i = Id.up g j) : i = j := by
  cases i; cases j
  simp only [Id.up, Id.mk.injEq] at h ⊢
  obtain ⟨rfl, h⟩ := h
  exact ⟨rfl, by omega⟩
theorem Apt.map {g : Nat → Nat} {a b : List Id} (h : Apt a b) : Apt (a.map (Id.up g)) (b.map (Id.up g)) := fun i h1 h2 => by
  obtain ⟨x, hx, rfl⟩ := List.mem_map.1 h1
  obtain ⟨y, hy, e⟩ := List.mem_map.1 h2
  exact h x hx (up_inj e ▸ hy)
theorem Live.merge {S S' : Sto} {keep : Id → Bool} {i : Id} {o : Obj} (h : Live S' i o) (hk : keep i = true) : Live (S.merge S' keep) (Id.up S.gen i) { o with cells := renL S.gen o.cells } := by
  refine ⟨?_, ?_⟩
  · simp only [Sto.merge]
    rw [if_neg (up_ge S.gen i), up_sub, if_pos hk, h.1, Option.map_some]
  · have := h.2
    simp only [Sto.merge, Id.up]; omega
theorem Grow.merge (S S' : Sto) (keep : Id → Bool) : Grow S (S.merge S' keep) :=
  ⟨fun i o h => ⟨by simp only [Sto.merge]; rw [if_pos h.2]; exact h.1, by have := h.2; simp only [Sto.merge]; omega⟩, fun s => by simp only [Sto.merge]; omega⟩
theorem Fresh.up {S : Sto} (ids : List Id) : Fresh S (ids.map (Id.up S.gen)) := fun i hi o ho => by
  obtain ⟨x, _, rfl⟩ := List.mem_map.1 hi
  exact up_ge S.gen x ho.2
structure OdR {α : Type} (N : Od α) : Prop where
  own : ∀ {S : Sto} {ids a c}, N.R S ids a c → ∀ p ∈ c, Own p
  obj : ∀ {S : Sto} {ids a c}, N.R S ids a c → ∀ i ∈ ids, ∃ o, S.obj i = some o ∧ o.frz = false ∧ ∀ p ∈ o.cells, Own p
  ren : ∀ {S S' : Sto} {ids a c} {keep : Id → Bool}, N.R S' ids a c → (∀ i ∈ ids, keep i = true) → N.R (S.merge S' keep) (ids.map (Id.up S.gen)) a (renL S.gen c)
theorem OdR.pl {α : Type} {M : Cd α} {h1 : M.Ones} (h : M.Scals) : OdR (oPl M h1) where
  own k p hp := (h _ _ k.2 p hp).own
  obj k i hi := by rw [k.1] at hi; cases hi
  ren k _ := by
    obtain ⟨rfl, k⟩ := k
    refine ⟨rfl, ?_⟩
    rw [renL_scal (h _ _ k)]; exact k
theorem OdR.pr {α β : Type} {M : Od α} {N : Od β} (hM : OdR M) (hN : OdR N) : OdR (oPr M N) where
  own := fun ⟨c1, c2, i1, i2, h, _, _, h1, h2⟩ p hp => by rw [h, List.mem_append] at hp; exact hp.elim (hM.own h1 p) (hN.own h2 p)
  obj := fun ⟨c1, c2, i1, i2, _, h, _, h1, h2⟩ i hi => by rw [h, List.mem_append] at hi; exact hi.elim (hM.obj h1 i) (hN.obj h2 i)
  ren := fun {S S' ids a c keep} ⟨c1, c2, i1, i2, h, hi, ha, h1, h2⟩ hk => ⟨renL S.gen c1, renL S.gen c2, i1.map (Id.up S.gen), i2.map (Id.up S.gen), by rw [h, renL_append], by rw [hi, List.map_append], ha.map,
    hM.ren h1 fun i hm => hk i (by rw [hi]; exact List.mem_append_left _ hm), hN.ren h2 fun i hm => hk i (by rw [hi]; exact List.mem_append_right _ hm)⟩
theorem OdR.is {α β : Type} {M : Od β} {g : α → β} (hM : OdR M) : OdR (oIs M g) where
  own := hM.own
  obj := hM.obj
  ren := hM.ren
section
variable {α : Type} {N : Od α} (hN : OdR N)
include hN
theorem RowsO.own {S : Sto} : ∀ {l : List α} {ids : List Id} {cs : List PV}, RowsO N S l ids cs → ∀ p ∈ cs, Own p
  | [], _, cs, h, p, hp => by rw [h.2] at hp; cases hp
  | a :: l, _, cs, ⟨c, r, i1, i2, h, _, _, h1, h2⟩, p, hp => by rw [h, List.mem_append] at hp; exact hp.elim (hN.own h1 p) (h2.own p)
theorem RowsO.obj {S : Sto} : ∀ {l : List α} {ids : List Id} {cs : List PV}, RowsO N S l ids cs → ∀ i ∈ ids, ∃ o, S.obj i = some o ∧ o.frz = false ∧ ∀ p ∈ o.cells, Own p
  | [], _, cs, h, p, hp => by rw [h.1] at hp; cases hp
  | a :: l, _, cs, ⟨c, r, i1, i2, _, h, _, h1, h2⟩, p, hp => by rw [h, List.mem_append] at hp; exact hp.elim (hN.obj h1 p) (h2.obj p)
theorem RowsO.ren {S S' : Sto} {keep : Id → Bool} : ∀ {l : List α} {ids : List Id} {cs : List PV}, RowsO N S' l ids cs → (∀ i ∈ ids, keep i = true) → RowsO N (S.merge S' keep) l (ids.map (Id.up S.gen)) (renL S.gen cs)
  | [], _, cs, h, _ => ⟨by rw [h.1]; rfl, by rw [h.2, renL_eq]; rfl⟩
  | a :: l, _, cs, ⟨c, r, i1, i2, h, hi, ha, h1, h2⟩, hk => ⟨renL S.gen c, renL S.gen r, i1.map (Id.up S.gen), i2.map (Id.up S.gen), by rw [h, renL_append], by rw [hi, List.map_append], ha.map,
    hN.ren h1 fun i hm => hk i (by rw [hi]; exact List.mem_append_left _ hm), h2.ren fun i hm => hk i (by rw [hi]; exact List.mem_append_right _ hm)⟩
theorem OdR.row : OdR (oRow N) where
  own := by rintro S ids a c (⟨rfl, _⟩ | ⟨i, cs, is, rfl, _⟩) p hp <;> (obtain rfl := List.mem_singleton.1 hp) <;> constructor
  obj := by
    rintro S ids a c (⟨_, _, rfl⟩ | ⟨i, cs, is, _, rfl, _, h1, h2⟩) j hj
    · cases hj
    · rcases List.mem_cons.1 hj with rfl | hj
      · exact ⟨_, h1.1, rfl, h2.own hN⟩
      · exact h2.obj hN j hj
  ren := by
    rintro S S' ids a c keep (⟨rfl, rfl, rfl⟩ | ⟨i, cs, is, rfl, rfl, hn, h1, h2⟩) hk
    · exact .inl ⟨by simp only [renL_eq, List.map_cons, List.map_nil, PV.ren], rfl, rfl⟩
    · refine .inr ⟨Id.up S.gen i, renL S.gen cs, is.map (Id.up S.gen), by simp only [renL_eq, List.map_cons, List.map_nil, PV.ren], rfl, fun hm => ?_, h1.merge (hk i List.mem_cons_self), h2.ren hN fun j hj => hk j (List.mem_cons_of_mem _ hj)⟩
      obtain ⟨x, hx, e⟩ := List.mem_map.1 hm
      exact hn (up_inj e ▸ hx)
end
structure ValW (val : List PV → PV) : Prop where
  own : ∀ {c}, (∀ p ∈ c, Own p) → Own (val c)
  ren : ∀ g c, (val c).ren g = val (renL g c)
theorem ValW.first : ValW first where
  own {c} h := by
    cases c with
    | nil => exact .lit _
    | cons p c => exact h p List.mem_cons_self
  ren g c := by
    cases c with
    | nil => simp only [Abs.first, List.headD_nil, PV.undef, renL, PV.ren]
    | cons p c => simp only [Abs.first, List.headD_cons, renL]
theorem ValW.agg : ValW .agg := ⟨.agg, fun g c => by simp only [PV.ren]⟩
theorem ValW.tup : ValW .tup := ⟨.tup, fun g c => by simp only [PV.ren]⟩
def Own1 {α : Type} (N : Od α) (a : α) (val : List PV → PV) (v : PV) (S : Sto) : Prop := ∃ c ids, v = val c ∧ N.R S ids a c
section
variable {P : Program} {f : FuncId} {os : Array Oper} {κ : Nat → Cls} {i : Nat} {o : Oper} {l : List Oper} {tm : Tm} {S : Sto} {K : Tm → Sto → Prop}
theorem Opl.callg {α : Type} {N : Od α} (hN : OdR N) {a : α} {val : List PV → PV} (hval : ValW val) {g : FuncId} {x : Operand} {cs : List PV} {as : Array Operand} {ts : Array TypeId} {ps : List PV} (h : Ret P g ps (Own1 N a val)) (hw : wantFn os tm o = some true) (ho : o.op = .call ⟨.value x, as, ts⟩)
    (hc : calleeOf (tm.opnd x) = some (g, cs)) (hp : ViewL S false (as.toList.map tm.opnd ++ cs) ps) (hpl : PL ps) (hκ : κ i = .n) (n : ∀ c S1 ids, N.R S1 ids a c → Fresh S ids → Grow S S1 → Opl P os κ (i + 1) l (tm.put o.dst (val c)) S1 K) : Opl P os κ i (o :: l) tm S K := by
  obtain ⟨r, S', h1, c, ids, rfl, h2⟩ := h
  refine Opl.cons (.callG (keep := fun i => decide (i ∈ ids)) hw hκ ho (f := g) (cs := cs) hc hp hpl.all h1 (fun i hi => hN.obj h2 i (of_decide_eq_true hi)) (hval.own (hN.own h2))) ?_
  rw [hval.ren]
  exact n _ _ (ids.map (Id.up S.gen)) (hN.ren h2 fun i hi => decide_eq_true hi) (Fresh.up ids) (.merge ..)
theorem Vec.own1 {α : Type} {M : Cd α} (h1 : M.Ones) {l : List α} {v : PV} {S : Sto} (h : Vec M l v S) : Own1 (oRow (oPl M h1)) l first v S := ⟨[v], _, rfl, h.tree h1⟩
theorem sBool : cBool.Scals := fun a c h p hp => by rw [show c = _ from h] at hp; obtain rfl := List.mem_singleton.1 hp; exact .lit _
end
end Go.Abs
end
section
namespace Go.Abs
open Go Go.RowKit
theorem leaves_le {α : Type} {leaf : α → Nat} {B n : Nat} {l : List α} (hl : l.length ≤ n) (h : ∀ x ∈ l, leaf x ≤ B) : leaves leaf l ≤ n * B := by
  have : leaves leaf l ≤ l.length * B := by
    clear hl
    induction l with
    | nil => simp [leaves]
    | cons a l ih =>
      have h1 := h a List.mem_cons_self
      have h2 := ih fun x hx => h x (List.mem_cons_of_mem _ hx)
      unfold leaves at h2 ⊢
      rw [List.map_cons, List.sum_cons, List.length_cons, Nat.add_mul]
      omega
  exact Nat.le_trans this (Nat.mul_le_mul_right B hl)
theorem two_of {α : Type} {c : List α} (h : c.length = 2) : ∃ p0 p1, c = [p0, p1] := by
  match c, h with
  | [p0, p1], _ => exact ⟨p0, p1, rfl⟩
theorem Same.grow {S S1 : Sto} {ids : List Id} (h : Same S S1 ids) (hf : ∀ i ∈ ids, ∀ o, ¬ Live S i o) : Grow S S1 := ⟨fun i o hl => h.live i o (fun hi => hf i hi o hl) hl, h.gen⟩
theorem ApT.ap {p q : PV} (h : ApT q p.id?.toList) : Ap q p := fun i h1 h2 => h i (by rw [h2]; exact List.mem_singleton.2 rfl) h1
theorem Apt.apT {p : PV} {js : List Id} (h : Apt js p.id?.toList) : ApT p js := fun i hi e => h i hi (by rw [e]; exact List.mem_singleton.2 rfl)
section
variable {P : Program} {f : FuncId} {os : Array Oper} {κ : Nat → Cls} {i : Nat} {o : Oper} {l : List Oper} {tm : Tm} {S : Sto} {K : Tm → Sto → Prop} {α β : Type}
theorem Opl.mark {N : Od α} {leaf : α → Nat} {ok : α → Prop} {val : List PV → PV} {g : FuncId} (h : Mks P g N leaf ok val) {ids : List Id} {a : α} {c : List PV} {k : Int} {B : Nat} (hr : N.R S ids a c) (hok : ok a) (hB : leaf a ≤ B) (h0 : 0 ≤ k) (hb : k + B ≤ 9223372036854775807)
    {x : Operand} {cs : List PV} {as : Array Operand} {ts : Array TypeId} (hw : wantFn os tm o = some true) (ho : o.op = .call ⟨.value x, as, ts⟩) (hc : calleeOf (tm.opnd x) = some (g, cs)) (hp : as.toList.map tm.opnd ++ cs = [val c, .lit (.int .i64 k)]) (hκ : κ i = .n)
    (n : ∀ (k' : Int) S1, k ≤ k' → k' ≤ k + B → Same S S1 ids → Opl P os κ (i + 1) l (tm.put o.dst (.lit (.int .i64 k'))) S1 K) : Opl P os κ i (o :: l) tm S K :=
  Opl.calls (h S ids a c k hr hok h0 (by omega)) hw ho hc hp hκ fun v S1 ⟨hv, ids', a', _, _, _, _, hs⟩ => by
    subst hv
    exact n _ S1 (by omega) (by omega) hs
theorem Opl.callg1 {N : Od α} (hN : OdR N) {a : List α} {g : FuncId} {x : Operand} {cs : List PV} {as : Array Operand} {ts : Array TypeId} {ps : List PV} (h : Ret P g ps (Own1 (oRow N) a first)) (hw : wantFn os tm o = some true) (ho : o.op = .call ⟨.value x, as, ts⟩)
    (hc : calleeOf (tm.opnd x) = some (g, cs)) (hp : ViewL S false (as.toList.map tm.opnd ++ cs) ps) (hpl : PL ps) (hκ : κ i = .n) (n : ∀ p S1 ids, (oRow N).R S1 ids a [p] → Fresh S ids → Grow S S1 → Opl P os κ (i + 1) l (tm.put o.dst p) S1 K) : Opl P os κ i (o :: l) tm S K :=
  Opl.callg hN.row .first h hw ho hc hp hpl hκ fun c S1 ids h1 h2 h3 => by
    obtain ⟨p, rfl⟩ := oRow_one h1
    exact n p S1 ids h1 h2 h3
theorem Opl.callg2 {N : Od α} (hN : OdR N) {M : Cd β} {h1 : M.Ones} (hM : M.Scals) {a : List α × β} {c0 : Value} (hc0 : ∀ c, M.R a.2 c → c = [.lit c0]) {g : FuncId} {x : Operand} {cs : List PV} {as : Array Operand} {ts : Array TypeId} {ps : List PV} (h : Ret P g ps (Own1 (oPr (oRow N) (oPl M h1)) a .tup)) (hw : wantFn os tm o = some true) (ho : o.op = .call ⟨.value x, as, ts⟩)
    (hc : calleeOf (tm.opnd x) = some (g, cs)) (hp : ViewL S false (as.toList.map tm.opnd ++ cs) ps) (hpl : PL ps) (hκ : κ i = .n) (n : ∀ p S1 ids, (oRow N).R S1 ids a.1 [p] → Fresh S ids → Grow S S1 → Opl P os κ (i + 1) l (tm.put o.dst (.tup [p, .lit c0])) S1 K) : Opl P os κ i (o :: l) tm S K :=
  Opl.callg (.pr hN.row (.pl hM)) .tup h hw ho hc hp hpl hκ fun c S1 ids ⟨c1, c2, i1, i2, e1, e2, _, g1, g2⟩ h2 h3 => by
    obtain ⟨p, rfl⟩ := oRow_one g1
    obtain rfl := hc0 _ g2.2
    subst e1 e2
    exact n p S1 i1 g1 (fun i hi => h2 i (List.mem_append_left _ hi)) h3
end
end Go.Abs
end
section
namespace Go.Abs
open Go Go.RowKit
section
variable {P : Program} {os : Array Oper} {κ : Nat → Cls} {i : Nat} {o : Oper} {l : List Oper} {tm : Tm} {S : Sto} {K : Tm → Sto → Prop} {α : Type} {M : Cd α} {xs : List α} {t e : TypeId} {x : Operand}
theorem Opl.slc {lo hi : Option Operand} {a b : Int} (hv : Sl M xs (tm.opnd x)) (hlo : boundFn 0 (lo.map tm.opnd) = some a) (hhi : boundFn xs.length (hi.map tm.opnd) = some b) (h0 : 0 ≤ a) (h1 : a ≤ b) (h2 : b ≤ (xs.length : Int)) (hk : tkAt P t = some (.slice e)) (hz : szAt P e = some M.n)
    (hw : wantFn os tm o = some true) (ho : o.op = .slice t x lo hi none) (hκ : Cls.le .r (κ i) = true) (n : ∀ q, Sl M ((xs.take b.toNat).drop a.toNat) q → Opl P os κ (i + 1) l (tm.put o.dst q) S K) : Opl P os κ i (o :: l) tm S K := by
  obtain ⟨q, h3, h4⟩ := hv.part S (a := a.toNat) (b := b.toNat) (by omega) (by omega)
  rw [← List.drop_take] at h4
  refine Opl.one hw (by rw [ho]; exact hκ) ?_ (n q h4)
  rw [ho]
  simp only [opFn, hk, hz, hv.len, hlo, hhi]
  rw [if_pos ⟨h0, h1, h2⟩, h3]
  rfl
theorem Opl.slcT {hi : Operand} {b : Int} {k : IntKind} (hv : Sl M xs (tm.opnd x)) (hhi : tm.opnd hi = .lit (.int k b)) (h1 : 0 ≤ b) (h2 : b ≤ (xs.length : Int)) (hk : tkAt P t = some (.slice e)) (hz : szAt P e = some M.n)
    (hw : wantFn os tm o = some true) (ho : o.op = .slice t x none (some hi) none) (hκ : Cls.le .r (κ i) = true) (n : ∀ q, Sl M (xs.take b.toNat) q → Opl P os κ (i + 1) l (tm.put o.dst q) S K) : Opl P os κ i (o :: l) tm S K :=
  Opl.slc (a := 0) (b := b) hv rfl (by simp only [Option.map_some, hhi]; rfl) (Int.le_refl _) h1 h2 hk hz hw ho hκ fun q hq => n q (by simpa using hq)
theorem Opl.slcD {lo : Operand} {a : Int} {k : IntKind} (hv : Sl M xs (tm.opnd x)) (hlo : tm.opnd lo = .lit (.int k a)) (h0 : 0 ≤ a) (h1 : a ≤ (xs.length : Int)) (hk : tkAt P t = some (.slice e)) (hz : szAt P e = some M.n)
    (hw : wantFn os tm o = some true) (ho : o.op = .slice t x (some lo) none none) (hκ : Cls.le .r (κ i) = true) (n : ∀ q, Sl M (xs.drop a.toNat) q → Opl P os κ (i + 1) l (tm.put o.dst q) S K) : Opl P os κ i (o :: l) tm S K :=
  Opl.slc (a := a) (b := xs.length) hv (by simp only [Option.map_some, hlo]; rfl) rfl h0 h1 (Int.le_refl _) hk hz hw ho hκ fun q hq => n q (by simpa using hq)
theorem Opl.slcB {lo hi : Operand} {a b : Int} {k k' : IntKind} (hv : Sl M xs (tm.opnd x)) (hlo : tm.opnd lo = .lit (.int k a)) (hhi : tm.opnd hi = .lit (.int k' b)) (h0 : 0 ≤ a) (h1 : a ≤ b) (h2 : b ≤ (xs.length : Int)) (hk : tkAt P t = some (.slice e)) (hz : szAt P e = some M.n)
    (hw : wantFn os tm o = some true) (ho : o.op = .slice t x (some lo) (some hi) none) (hκ : Cls.le .r (κ i) = true) (n : ∀ q, Sl M ((xs.take b.toNat).drop a.toNat) q → Opl P os κ (i + 1) l (tm.put o.dst q) S K) : Opl P os κ i (o :: l) tm S K :=
  Opl.slc (a := a) (b := b) hv (by simp only [Option.map_some, hlo]; rfl) (by simp only [Option.map_some, hhi]; rfl) h0 h1 h2 hk hz hw ho hκ n
theorem Opl.ldp {ti : TI} {cs : List PV} (v : PV) (hx : tm.opnd x = .fel cs) (ht : tiOf P t = some ti) (hv : ti.load cs = some v) (hw : wantFn os tm o = some true) (ho : o.op = .load t x)
    (n : Opl P os κ (i + 1) l (tm.put o.dst v) S K) : Opl P os κ i (o :: l) tm S K :=
  Opl.cons (.oneP hw fun S' => by
    rw [ho]
    simp only [opFn, ht, hx, Sto.cellsOf, hv, justV, Option.map_some]) n
end
def lκ (os : Array Oper) : List (Nat × Cls) → Nat → Cls
  | [], i => stdκ os i
  | (j, c) :: r, i => if i = j then c else lκ os r i
theorem Evr.regionL {P : Program} {f : FuncId} {os : Array Oper} (js : List (Nat × Cls)) {id : Nat} {k : List Item} {tm : Tm} {S : Sto} {R : PV → Sto → Prop} (hd : dstsOk (ntOf P f) os = true) (hi : indep os (lκ os js) = true)
    (h : Opl P os (lκ os js) 0 os.toList tm S fun tm1 S1 => Evr P f k tm1 S1 R) : Evr P f (.code (.region id os true) :: k) tm S R := .region _ hd (fun _ => hi) h
theorem Evr.frzb {P : Program} {f : FuncId} {k : List Item} {tm : Tm} {S : Sto} {R : PV → Sto → Prop} {i : Abs.Id} {cs : List PV} (t : Tmp) (hb : Box (.ptr i 0) cs S) (ht : tm t = .ptr i 0)
    (n : ∀ S1, Up S S1 (.ptr i 0) → Evr P f k (tm.put (some t) (.fel cs)) S1 R) : Evr P f k tm S R := by
  obtain ⟨j, e, hl⟩ := hb
  injection e with e1 _
  subst e1
  obtain ⟨w, S', g1, g2⟩ := n (S.set i ⟨cs, 0, true⟩) ⟨fun k q hk hne => hk.set (fun e => hne (by rw [e]; rfl)), fun _ => Nat.le_refl _⟩
  refine ⟨w, S', .freeze i hl.1 (.see t (q := .fel cs) ?_ g1), g2⟩
  rw [ht]
  refine .ptr (o := ⟨cs, 0, true⟩) (by rw [obj_set, if_pos rfl]) (fun _ => rfl) (by rw [List.drop_zero]) (fun j c d e1 e2 => ?_)
  rw [List.drop_zero] at e1
  rw [e1] at e2
  obtain rfl := Option.some.inj e2
  exact .refl c
end Go.Abs
end
section
namespace Go.Abs
open Go Go.RowKit
def Fr (S : Sto) (olds ids : List Id) : Prop := ∀ i ∈ ids, i ∈ olds ∨ ∀ o, ¬ Live S i o
theorem Fr.box {S : Sto} {olds ids : List Id} {p : PV} {cs : List PV} (f : Fr S olds ids) (a : ApT p olds) (h : Box p cs S) : ApT p ids := fun i hi e => by
  obtain ⟨j, rfl, hl⟩ := h
  rcases f i hi with h | h
  · exact a i h e
  · obtain rfl := Option.some.inj e
    exact h _ hl
theorem Fr.vec {α : Type} {M : Cd α} {l : List α} {S : Sto} {olds ids : List Id} {p : PV} (f : Fr S olds ids) (a : ApT p olds) (h : Vec M l p S) : ApT p ids := fun i hi e => by
  rcases h with ⟨rfl, _⟩ | ⟨j, cs, rfl, hl, _⟩
  · cases e
  · rcases f i hi with h | h
    · exact a i h e
    · obtain rfl := Option.some.inj e
      exact h _ hl
theorem Fr.tree {α : Type} {N : Od α} {S : Sto} {olds ids js : List Id} {b : α} {c : List PV} (f : Fr S olds ids) (a : Apt js olds) (h : N.R S js b c) : Apt js ids := fun i hj hi => by
  obtain ⟨o, ho, _⟩ := N.live h i hj
  rcases f i hi with k | k
  · exact a i hj k
  · exact k o ho
theorem ApT.app {p : PV} {a b : List Id} (h : ApT p a) (k : ApT p b) : ApT p (a ++ b) := fun i hi => (List.mem_append.1 hi).elim (h i) (k i)
theorem Apt.app {js a b : List Id} (h : Apt js a) (k : Apt js b) : Apt js (a ++ b) := fun i hj hi => (List.mem_append.1 hi).elim (h i hj) (k i hj)
theorem ApT.nil {p : PV} : ApT p [] := fun _ h => by cases h
theorem ApT.lit {v : Value} {ids : List Id} : ApT (.lit v) ids := fun _ _ e => by cases e
theorem Apt.nil' {a : List Id} : Apt a [] := fun _ _ h => by cases h
theorem ApT.apt {p : PV} {js : List Id} (h : ApT p js) : Apt js p.id?.toList := fun i hj hi => h i hj (by simpa using hi)
theorem Ap.apt {p q : PV} (h : Ap p q) : Apt p.id?.toList q.id?.toList := fun i h1 h2 => h i (by simpa using h1) (by simpa using h2)
theorem New.fr {S : Sto} {p : PV} (h : New S p) {olds : List Id} {ids : List Id} (k : ∀ i ∈ ids, p.id? = some i ∨ i ∈ olds) : Fr S olds ids := fun i hi => (k i hi).elim (fun e => .inr fun o ho => h i o ho e) .inl
section
variable {α : Type} {N : Od α} {S : Sto}
theorem RowsO.append : ∀ {l m : List α} {i1 i2 : List Id} {cs ds : List PV}, RowsO N S l i1 cs → RowsO N S m i2 ds → Apt i1 i2 → RowsO N S (l ++ m) (i1 ++ i2) (cs ++ ds)
  | [], m, i1, i2, cs, ds, h, k, _ => by rw [h.1, h.2]; exact k
  | a :: l, m, _, i2, _, ds, ⟨c, r, j1, j2, h, hi, ha, h1, h2⟩, k, hap => ⟨c, r ++ ds, j1, j2 ++ i2, by rw [h, List.append_assoc], by rw [hi, List.append_assoc],
    fun i hm hn => (List.mem_append.1 hn).elim (ha i hm) (hap i (by rw [hi]; exact List.mem_append_left _ hm)), h1, h2.append k fun i hm => hap i (by rw [hi]; exact List.mem_append_right _ hm)⟩
theorem RowsO.one {a : α} {ids : List Id} {c : List PV} (h : N.R S ids a c) : RowsO N S [a] ids c := ⟨c, [], ids, [], by simp, by simp, Apt.nil', h, rfl, rfl⟩
theorem oRow_data {ids : List Id} {l : List α} {p : PV} (h : (oRow N).R S ids l [p]) : (p = .lit (.slice none 0 0) ∧ l = [] ∧ ids = []) ∨ ∃ i cs is, p = .loc i 0 l.length ∧ ids = i :: is ∧ i ∉ is ∧ Live S i ⟨cs, N.n, false⟩ ∧ RowsO N S l is cs := by
  rcases h with ⟨h, h1, h2⟩ | ⟨i, cs, is, h, h1⟩
  · exact .inl ⟨(List.cons.inj h).1, h1, h2⟩
  · exact .inr ⟨i, cs, is, (List.cons.inj h).1, h1⟩
theorem oRow_nil : (oRow N).R S [] [] [.lit (.slice none 0 0)] := .inl ⟨rfl, rfl, rfl⟩
end
theorem Ap.apT {p q : PV} (a : Ap q p) : ApT q p.id?.toList := fun i hi e => a i e (by simpa using hi)
theorem Vec.one {α : Type} {M : Cd α} {l : List α} {v : PV} {S : Sto} (h : Vec M l v S) : v.one = true := by
  rcases h with ⟨rfl, _⟩ | ⟨i, cs, rfl, _⟩ <;> rfl
theorem Vec.cells {α : Type} {M : Cd α} {l : List α} {v : PV} {S : Sto} (h : Vec M l v S) : v.cells = [v] := by
  rcases h with ⟨rfl, _⟩ | ⟨i, cs, rfl, _⟩ <;> rfl
section
variable {P : Program} {f : FuncId} {os : Array Oper} {κ : Nat → Cls} {i : Nat} {o : Oper} {l : List Oper} {tm : Tm} {S : Sto} {K : Tm → Sto → Prop} {α : Type} {N : Od α}
theorem Opl.litt {ys : List α} {idy : List Id} {t e : TypeId} {te : TI} {len : Nat} {parts : Array (Nat × Operand)} (xs : List Operand) (hk : tkAt P t = some (.slice e)) (ht : tiOf P e = some te) (hs : te.size = N.n) (hzl : te.zero.length = te.size)
    (hp : parts.toList = (xs.zipIdx.map fun x => (x.2, x.1))) (hc : ∀ x ∈ xs.map tm.opnd, x.cells.length = N.n) (hy : RowsO N S ys idy ((xs.map tm.opnd).map PV.cells).flatten) (hyl : ys.length = xs.length) (hlen : len = xs.length) (hbig : len * te.size ≤ 16777216)
    (hw : wantFn os tm o = some true) (ho : o.op = .buildSlice t len parts) (hκ : κ i = .n)
    (n : ∀ v S1 ids', (oRow N).R S1 ids' ys [v] → Fr S idy ids' → Up S S1 v → New S v → Opl P os κ (i + 1) l (tm.put o.dst v) S1 K) : Opl P os κ i (o :: l) tm S K := by
  have hl : len = ys.length := by rw [hlen, hyl]
  have hnew : New S (.loc (S.next (o.dst.getD 0)) 0 len) := .next rfl
  have hni : S.next (o.dst.getD 0) ∉ idy := fun hm => by
    obtain ⟨q, hq, _⟩ := hy.live _ hm
    exact hq.ne_next rfl
  have hv : (oRow N).R (S.add (o.dst.getD 0) ⟨((xs.map tm.opnd).map PV.cells).flatten, te.size, false⟩) (S.next (o.dst.getD 0) :: idy) ys [.loc (S.next (o.dst.getD 0)) 0 len] :=
    .inr ⟨S.next (o.dst.getD 0), _, idy, by rw [hl], rfl, hni, by rw [← hs]; exact .new, hy.up fun j _ q hq => hq.add⟩
  refine Opl.one hw (by rw [hκ]; cases clsOf o.op <;> rfl) ?_ (n _ _ _ hv (hnew.fr fun j hj => (List.mem_cons.1 hj).imp (fun e => by rw [e]; rfl) id) (.add _) hnew)
  rw [ho]
  simp only [opFn, hk, ht]
  rw [if_pos ⟨hbig, hzl⟩]
  have hpp : (parts.toList.map fun (x : Nat × Operand) => (x.1, tm.opnd x.2)) = ((xs.map tm.opnd).zipIdx 0).map fun x => (x.2, x.1) := by
    rw [hp, List.zipIdx_map, List.map_map, List.map_map]
    rfl
  have := fill_row (es := te.size) (xs.map tm.opnd) [] (repL len (te.zero.map .lit)) 0 (by rw [hs]; exact hc) (by simp) (by rw [repL_length, List.length_map, hzl, hlen]; simp)
  rw [List.nil_append, List.nil_append] at this
  show Option.map _ (fillL _ _ (parts.toList.map fun (x : Nat × Operand) => (x.1, tm.opnd x.2))) = _
  rw [hpp, this]
  rfl
theorem Opl.appt {xs ys : List α} {ids idy : List Id} {t e : TypeId} {te : TI} {x y : Operand} {v u : PV} {as : Array Operand} {ts : Array TypeId} (hv : (oRow N).R S ids xs [v]) (hu : (oRow N).R S idy ys [u]) (hap : Apt ids idy) (hx : tm.opnd x = v) (hy : tm.opnd y = u)
    (hk : tkAt P t = some (.slice e)) (ht : tiOf P e = some te) (hs : te.size = N.n) (hzl : te.zero.length = te.size) (hb1 : xs.length + ys.length ≤ 140737488355328) (hb2 : (xs.length + ys.length) * te.bytes ≤ 140737488355328)
    (hw : wantFn os tm o = some true) (ho : o.op = .call ⟨.builtin .append, as, ts⟩) (ha : as.toList = [x, y]) (hts : ts.toList = [t, t]) (hκ : κ i = .n)
    (n : ∀ v' S1 ids', (oRow N).R S1 ids' (xs ++ ys) [v'] → Fr S (ids ++ idy) ids' → Up S S1 v → New S v' → Opl P os κ (i + 1) l (tm.put o.dst v') S1 K) : Opl P os κ i (o :: l) tm S K := by
  have hop : ∀ r, appendFn P (o.dst.getD 0) S t v u = r → opFn P (o.dst.getD 0) tm.opnd S o.op = r := fun r hr => by
    rw [ho]
    simp only [opFn, builtinFn, ha, hts, List.map_cons, List.map_nil, if_true, hx, hy]
    exact hr
  have hκ' : (clsOf o.op).le (κ i) = true := by rw [hκ]; cases clsOf o.op <;> rfl
  obtain ⟨ds, isy, hd1, hd2, hd3, hsub⟩ : ∃ ds isy, S.rowOf te.size u = some ds ∧ RowsO N S ys isy ds ∧ u.len? = some ys.length ∧ ∀ i ∈ isy, i ∈ idy := by
    rcases oRow_data hu with ⟨rfl, rfl, rfl⟩ | ⟨j, cs, is, rfl, rfl, _, h2, h3⟩
    · exact ⟨[], [], rfl, ⟨rfl, rfl⟩, rfl, fun _ h => h⟩
    · refine ⟨cs, is, ?_, h3, rfl, fun k hk => List.mem_cons_of_mem _ hk⟩
      have := h3.length
      simp only [Sto.rowOf, h2.1, Nat.zero_add, List.drop_zero]
      rw [hs, if_pos (by omega), List.take_of_length_le (by omega)]
  have hall : ds.all PV.one = true := by simpa using hd2.ones
  rcases oRow_data hv with ⟨rfl, rfl, rfl⟩ | ⟨d, cs, is, rfl, rfl, hni, h2, h3⟩
  · by_cases hm : ys.length = 0
    · have hys : ys = [] := List.eq_nil_of_length_eq_zero hm
      subst hys
      refine Opl.one hw hκ' (hop (some (.lit (.slice none 0 0), S)) ?_) (n _ S [] oRow_nil (fun _ h => by cases h) ⟨fun _ _ h _ => h, fun _ => Nat.le_refl _⟩ (fun i o h e => by cases e))
      simp only [appendFn, hk, ht, hd3, hd1, hall, hzl, true_and, if_true, List.length_nil]
    · have hnew : New S (.loc (S.next (o.dst.getD 0)) 0 ys.length) := .next rfl
      have hnn : S.next (o.dst.getD 0) ∉ isy := fun hm => by
        obtain ⟨q, hq, _⟩ := hd2.live _ hm
        exact hq.ne_next rfl
      refine Opl.one hw hκ' (hop (some (.loc (S.next (o.dst.getD 0)) 0 ys.length, S.add (o.dst.getD 0) ⟨ds, te.size, false⟩)) ?_)
        (n (.loc (S.next (o.dst.getD 0)) 0 ys.length) _ (S.next (o.dst.getD 0) :: isy) (.inr ⟨S.next (o.dst.getD 0), ds, isy, by simp, rfl, hnn, by rw [← hs]; exact .new, by simpa using hd2.up fun j _ q hq => hq.add⟩)
          (hnew.fr fun j hj => (List.mem_cons.1 hj).imp (fun e => by rw [e]; rfl) fun h => by simpa using hsub j h) (.add _) hnew)
      simp only [appendFn, hk, ht, hd3, hd1, hall, hzl, true_and, if_true, hm, if_false]
      rw [if_pos]
      simp only [List.length_nil, Nat.zero_add] at hb1 hb2
      exact ⟨hb1, hb2⟩
  · have hcl := h3.length
    have hup : Up S ((S.del d).add (o.dst.getD 0) ⟨cs ++ ds, te.size, false⟩) (.loc d 0 xs.length) := ⟨fun k q hk hne => (hk.del (fun e => hne (by rw [e]; rfl))).add, (Up.add (S := S.del d) .undef).gen⟩
    have hnew : New S (.loc (S.next (o.dst.getD 0)) 0 (xs.length + ys.length)) := .next rfl
    have hk1 : Kept S ((S.del d).add (o.dst.getD 0) ⟨cs ++ ds, te.size, false⟩) is := fun k hk q hq => hup.live k q hq fun e => by
      obtain rfl := Option.some.inj e
      exact hni hk
    have hk2 : Kept S ((S.del d).add (o.dst.getD 0) ⟨cs ++ ds, te.size, false⟩) isy := fun k hk q hq => hup.live k q hq fun e => by
      obtain rfl := Option.some.inj e
      exact hap _ List.mem_cons_self (hsub _ hk)
    have hnn : S.next (o.dst.getD 0) ∉ is ++ isy := fun hm => by
      rcases List.mem_append.1 hm with hm | hm
      · obtain ⟨q, hq, _⟩ := h3.live _ hm
        exact hq.ne_next rfl
      · obtain ⟨q, hq, _⟩ := hd2.live _ hm
        exact hq.ne_next rfl
    refine Opl.one hw hκ' (hop (some (.loc (S.next (o.dst.getD 0)) 0 (xs.length + ys.length), (S.del d).add (o.dst.getD 0) ⟨cs ++ ds, te.size, false⟩)) ?_)
      (n (.loc (S.next (o.dst.getD 0)) 0 (xs.length + ys.length)) _ (S.next (o.dst.getD 0) :: (is ++ isy)) (.inr ⟨S.next (o.dst.getD 0), cs ++ ds, is ++ isy, by simp, rfl, hnn, ?_, (h3.up hk1).append (hd2.up hk2) fun k h1 h2 => hap k (List.mem_cons_of_mem _ h1) (hsub k h2)⟩)
        (hnew.fr fun j hj => (List.mem_cons.1 hj).imp (fun e => by rw [e]; rfl) fun h => by
          rcases List.mem_append.1 h with h | h
          · exact List.mem_append_left _ (List.mem_cons_of_mem _ h)
          · exact List.mem_append_right _ (hsub j h)) hup hnew)
    · simp only [appendFn, hk, ht, hd3, hd1, hall, hzl, true_and, if_true, h2.1]
      rw [if_pos ⟨hs.symm, by rw [hcl, hs, Nat.zero_add], hb1, hb2⟩]
      rfl
    · rw [← hs]; exact Live.new (S := S.del d)
theorem Opl.copyt {xs : List α} {zs : List PV} {ids : List Id} {t e : TypeId} {x y : Operand} {u : PV} {d : Abs.Id} {as : Array Operand} {ts : Array TypeId} (hd : Live S d ⟨zs, N.n, false⟩) (hz : zs.length = xs.length * N.n) (hu : (oRow N).R S ids xs [u]) (hdn : d ∉ ids) (h0 : 0 < xs.length)
    (hx : tm.opnd x = .loc d 0 xs.length) (hy : tm.opnd y = u) (hk : tkAt P t = some (.slice e)) (hzz : szAt P e = some N.n)
    (hw : wantFn os tm o = some true) (ho : o.op = .call ⟨.builtin .copy, as, ts⟩) (ha : as.toList = [x, y]) (hts : ts.toList = [t, t]) (hκ : κ i = .n)
    (n : ∀ S1 ids', (oRow N).R S1 ids' xs [.loc d 0 xs.length] → (∀ i ∈ ids', i = d ∨ i ∈ ids) → Up S S1 (.loc d 0 xs.length) → Opl P os κ (i + 1) l (tm.put o.dst (.lit (.int .i64 (xs.length : Nat)))) S1 K) : Opl P os κ i (o :: l) tm S K := by
  rcases oRow_data hu with ⟨_, rfl, _⟩ | ⟨b, cs, is, rfl, rfl, hni, hl, h3⟩
  · cases h0
  have hcl := h3.length
  have hdi : d ∉ is := fun h => hdn (List.mem_cons_of_mem _ h)
  have hup : Up S (S.set d ⟨cs, N.n, false⟩) (.loc d 0 xs.length) := ⟨fun k q hk hne => hk.set (fun e => hne (by rw [e]; rfl)), fun _ => Nat.le_refl _⟩
  have hkp : Kept S (S.set d ⟨cs, N.n, false⟩) is := fun k hk q hq => hup.live k q hq fun e => by
    obtain rfl := Option.some.inj e
    exact hdi hk
  refine Opl.one hw (by rw [hκ]; cases clsOf o.op <;> rfl) ?_ (n (S.set d ⟨cs, N.n, false⟩) (d :: is) (.inr ⟨d, cs, is, rfl, rfl, hdi, hd.set_same, h3.up hkp⟩) (fun j hj => (List.mem_cons.1 hj).imp id fun h => List.mem_cons_of_mem _ h) hup)
  rw [ho]
  have e2 : zs.length = cs.length := by rw [hz, hcl]
  have e1 : min xs.length xs.length * N.n = cs.length := by rw [Nat.min_self, hcl]
  have hall : cs.all PV.one = true := by simpa using h3.ones
  simp only [opFn, builtinFn, ha, hts, List.map_cons, List.map_nil, hx, hy, if_true, copyFn, hk, hzz, PV.len?, hd.1, Sto.rowOf, hl.1, Nat.zero_add, List.drop_zero]
  have e3 : List.take (xs.length * N.n) cs = cs := List.take_of_length_le (by omega)
  rw [if_pos (by omega), e3]
  simp only
  rw [if_pos ⟨trivial, hall, by omega⟩, Nat.min_self, e3]
  simp [putAt, ← e2]
end
end Go.Abs
end
section
set_option linter.unusedVariables false
set_option linter.unusedSimpArgs false
namespace Go.Abs
open Go Go.RowKit
def All (w : World) (b : Nat) : Prop := b < w.heap.size
def None (_ : Id) : Option Loc := none
theorem Ret.calls {P : Program} (hm : P.follows .mixedOrders = true) {f : FuncId} {ps : List PV} {c : Value} (h : Ret P f ps fun v _ => v = .lit c) {w : World} {vals : Array Value} (ha : RelA w (All w) None ps vals.toList) :
    Calls P f vals w fun e w' => e = .returned c ∧ Below w.heap.size w w' := by
  obtain ⟨r, S', h1, rfl⟩ := h
  refine ((call_sound hm f ps .empty _ S' h1).2 vals w None (All w) (fun _ => False) ha (Inv.empty fun b hb => hb.elim id False.elim)).mono fun e w' ⟨val, L', F', he, hr, _, hx⟩ => ?_
  obtain rfl : val = c := by cases hr; rfl
  exact ⟨he, hx.os, hx.tape, hx.output, hx.size, fun k hk => hx.heap k (.inl hk)⟩
def OpensP (P : Program) (t : TypeId) {α : Type} (M : Cd α) (φ : α → Prop) : Prop :=
  P.cellsOf t = M.n ∧ ∀ {H : Type} (enc : TypeId × Value → H) (w : World) (fuel : Nat) (cs : List Value) (x : DataW H × List MemPlace),
    DataW.trod enc P w 0 (fun _ => true) true fuel t cs = some x → ∃ y c, M.R y c ∧ RelA w (All w) None c cs ∧ φ y
section
variable {P : Program}
theorem opensP_int {t : TypeId} {k : IntKind} (ht : P.underlying t = some (.int k)) (hc : P.cellsOf t = 1) : OpensP P t (cInt k) (fun y => (Lit.int k y).wf = true) := by
  refine ⟨hc, fun enc w fuel cs x h => ?_⟩
  obtain ⟨n, rfl, _, hw⟩ := DataW.trod_int ht h
  exact ⟨n, _, rfl, .one (.lit _), hw⟩
theorem opensP_iso {t : TypeId} {α β : Type} {M : Cd α} {φ : α → Prop} {f : β → α} (g : α → β) (hg : ∀ x, f (g x) = x) (h : OpensP P t M φ) : OpensP P t (cIso M f) (fun y => φ (f y)) := by
  refine ⟨h.1, fun enc w fuel cs x hx => ?_⟩
  obtain ⟨y, c, hR, hr, hφ⟩ := h.2 enc w fuel cs x hx
  exact ⟨g y, c, by show M.R (f (g y)) c; rw [hg]; exact hR, hr, by show φ (f (g y)); rw [hg]; exact hφ⟩
theorem opensP_slice {t e : TypeId} {α : Type} {M : Cd α} {φ : α → Prop} (ht : P.underlying t = some (.slice e)) (hc : P.cellsOf t = 1) (hp : 0 < M.n) (he : OpensP P e M φ) :
    OpensP P t (cSl M) (fun xs => xs.length ≤ 9223372036854775807 ∧ ∀ x ∈ xs, φ x) := by
  refine ⟨hc, fun {H} enc w fuel cs x h => ?_⟩
  rcases DataW.trod_slice ht h with ⟨rfl, _⟩ | ⟨a, len, cap, elems, rest, n, _, rfl, _, _, hl, hm, hlen, hel, hsp, _⟩
  · exact ⟨[], _, ⟨_, rfl, .nil⟩, .one (.lit _), by simp, fun x hx => by simp at hx⟩
  by_cases hcap : cap = 0
  · obtain rfl : len = 0 := by omega
    subst hcap
    exact ⟨[], _, ⟨_, rfl, Sl.rows (cs := []) rfl⟩, .one (.wild a), by simp, fun x hx => by simp at hx⟩
  have hmx : len ≤ 9223372036854775807 := by simp only [maxLen] at hm; omega
  -- its address is a plain one, in a block that is there
  have hplace : a.spot = none ∧ a.block < w.heap.size := by
    have hfirst : ∃ u, w.cell? a = some u := by
      have key : ∀ (l : List (DataW H × List MemPlace)) (m : Nat), m = 0 → 0 < l.length → (w.cells? 0 (a.add (m * P.cellsOf e)) (P.cellsOf e)).bind (DataW.trod enc P w 0 (fun _ => true) true n e) = l[0]? → ∃ u, w.cell? a = some u := by
        intro l m hm hl hx
        rw [List.getElem?_eq_getElem hl] at hx
        obtain ⟨cs', hcs, _⟩ := Option.bind_eq_some_iff.1 hx
        obtain ⟨_, hcl, hcell⟩ := World.cells?_some hcs
        have h0 := hcell 0 (by rw [he.1]; exact hp)
        rw [List.getElem?_eq_getElem (by rw [hcl, he.1]; exact hp)] at h0
        rw [hm, Nat.zero_mul] at h0
        exact ⟨_, h0⟩
      by_cases hl0 : len = 0
      · obtain ⟨h1, h2⟩ := hsp rfl
        exact key rest (len + 0) (by omega) (by omega) (h2 0 (by omega))
      · exact key elems 0 rfl (by omega) (hel 0 (by omega))
    obtain ⟨u, hu⟩ := hfirst
    refine ⟨World.cell?_spot hu, ?_⟩
    unfold World.cell? at hu
    split at hu
    · rename_i hb
      obtain ⟨hlt, _⟩ := Array.getElem?_eq_some_iff.1 hb
      exact hlt
    · cases hu
  obtain ⟨b, off, sp⟩ := a
  obtain ⟨rfl, hb⟩ := hplace
  have hrow : ∀ m, m ≤ len → ∃ (l : List α) (c : List PV) (vs : List Value), l.length = m ∧ Rows M l c ∧ RelA w (All w) None c vs ∧ vs.length = m * M.n ∧ HCells w b off vs ∧ ∀ x ∈ l, φ x := by
    intro m
    induction m with
    | zero => exact fun _ => ⟨[], [], [], rfl, rfl, .nil, by simp, fun j u hu => by simp at hu, fun x hx => by cases hx⟩
    | succ m ih =>
      intro hle
      obtain ⟨l, c, vs, g1, g2, g3, g4, g5, g6⟩ := ih (by omega)
      have h1 := hel m (by omega)
      rw [List.getElem?_eq_getElem (show m < elems.length by omega)] at h1
      obtain ⟨cs', hcs, htr⟩ := Option.bind_eq_some_iff.1 h1
      obtain ⟨y, d, hR, hr, hφ⟩ := he.2 enc w n cs' _ htr
      obtain ⟨_, hcl, hcell⟩ := World.cells?_some hcs
      rw [he.1] at hcl hcell
      refine ⟨l ++ [y], c ++ d, vs ++ cs', by simp [g1], g2.append (Rows.one hR), g3.append hr, by rw [List.length_append, g4, hcl, Nat.add_mul, Nat.one_mul], fun j u hu => ?_, fun x hx => ?_⟩
      · rw [List.getElem?_append] at hu
        split at hu
        · exact g5 j u hu
        · rename_i hj
          rw [g4] at hu hj
          have hj2 : j - m * M.n < M.n := by have := (List.getElem?_eq_some_iff.1 hu).1; omega
          have h2 := hcell (j - m * M.n) hj2
          rw [Go.Deep.add_add, hu] at h2
          rw [← h2, show m * M.n + (j - m * M.n) = j by omega, Go.WideShapes.add_plain]
      · rcases List.mem_append.1 hx with hx | hx
        · exact g6 x hx
        · obtain rfl := List.mem_singleton.1 hx
          exact hφ
  obtain ⟨l, c, vs, g1, g2, g3, g4, g5, g6⟩ := hrow len (Nat.le_refl _)
  refine ⟨l, _, ⟨_, rfl, Sl.rows g2⟩, .one ?_, by omega, g6⟩
  rw [g1]
  exact .slA hb hl g3 g5
structure FieldsP (P : Program) (fs : List Field) (off : Nat) {α : Type} (M : Cd α) (φ : α → Prop) : Prop where
  run : ∀ {H : Type} (enc : TypeId × Value → H) (w : World) (cs : List Value), cs.length = off + M.n →
    (∀ f ∈ fs, ∃ n x, DataW.trod enc P w 0 (fun _ => true) true n f.type ((cs.drop f.offset).take (P.cellsOf f.type)) = some x) → ∃ y c, M.R y c ∧ RelA w (All w) None c (cs.drop off) ∧ φ y
theorem fields_last {f : Field} {off : Nat} {α : Type} {M : Cd α} {φ : α → Prop} (ho : f.offset = off) (h : OpensP P f.type M φ) : FieldsP P [f] off M φ := .mk fun enc w cs hl hf => by
  obtain ⟨n, x, hx⟩ := hf f (List.mem_singleton.2 rfl)
  obtain ⟨y, c, h1, h2, h3⟩ := h.2 enc w n _ x hx
  rw [ho, List.take_of_length_le (by rw [List.length_drop, hl, h.1]; omega)] at h2
  exact ⟨y, c, h1, h2, h3⟩
theorem fields_cons {f : Field} {fs : List Field} {off : Nat} {α β : Type} {M : Cd α} {N : Cd β} {φ : α → Prop} {ψ : β → Prop} (ho : f.offset = off) (h : OpensP P f.type M φ) (hr : FieldsP P fs (off + M.n) N ψ) :
    FieldsP P (f :: fs) off (cPair M N) (fun x => φ x.1 ∧ ψ x.2) := .mk fun enc w cs hl hf => by
  obtain ⟨n, x, hx⟩ := hf f List.mem_cons_self
  obtain ⟨y, c, h1, h2, h3⟩ := h.2 enc w n _ x hx
  obtain ⟨z, d, k1, k2, k3⟩ := hr.run enc w cs (by rw [hl]; show off + (M.n + N.n) = _; omega) (fun g hg => hf g (List.mem_cons_of_mem _ hg))
  rw [ho, h.1] at h2
  refine ⟨(y, z), c ++ d, ⟨c, d, rfl, h1, k1⟩, ?_, h3, k3⟩
  have := h2.append k2
  rwa [← List.drop_drop, List.take_append_drop] at this
theorem opensP_struct {t : TypeId} {fs : Array Field} {α : Type} {M : Cd α} {φ : α → Prop} (ht : P.underlying t = some (.struct fs)) (hc : P.cellsOf t = M.n) (h : FieldsP P fs.toList 0 M φ) : OpensP P t M φ := by
  refine ⟨hc, fun enc w fuel cs x hx => ?_⟩
  obtain ⟨xs, n, _, _, hl, hlen, hf⟩ := DataW.trod_struct ht hx
  have := h.run enc w cs (by rw [hl, hc]; omega) (fun f hm => ?_)
  · simpa using this
  · obtain ⟨i, hi, rfl⟩ := List.mem_iff_getElem.1 hm
    have hlt : i < fs.size := by simpa using hi
    have := hf i fs[i] (by simp [hlt])
    rw [List.getElem?_eq_getElem (by omega)] at this
    exact ⟨n, _, by simpa using this⟩
theorem openP_arg {t : TypeId} {α : Type} {M : Cd α} {φ : α → Prop} {H : Type} {enc : TypeId × Value → H} {w : World} {v : Value} {x : DataW H} {ps : List MemPlace} (ho : OpensP P t M φ)
    (h : DataW.Trod enc P w 0 (fun _ => true) true t v x ps) : ∃ y c, M.R y c ∧ RelA w (All w) None c v.cells.toList ∧ φ y := by
  obtain ⟨fuel, hf⟩ := h
  exact ho.2 enc w fuel _ _ hf
theorem openP_slice {t : TypeId} {α : Type} {M : Cd α} {φ : List α → Prop} {H : Type} {enc : TypeId × Value → H} {w : World} {A : Option Addr} {n c : Nat} {x : DataW H} {ps : List MemPlace} (ho : OpensP P t (cSl M) φ)
    (h : DataW.Trod enc P w 0 (fun _ => true) true t (.slice A n c) x ps) : ∃ (l : List α) (p : PV), Sl M l p ∧ Rel w (All w) None p (.slice A n c) ∧ φ l := by
  obtain ⟨y, c', ⟨p, rfl, hs⟩, hr, hφ⟩ := openP_arg ho h
  exact ⟨y, p, hs, hr.2 0 p _ rfl rfl, hφ⟩
theorem openP_agg {t : TypeId} {α : Type} {M : Cd α} {φ : α → Prop} {H : Type} {enc : TypeId × Value → H} {w : World} {cs : Array Value} {x : DataW H} {ps : List MemPlace} (ho : OpensP P t M φ)
    (h : DataW.Trod enc P w 0 (fun _ => true) true t (.agg cs) x ps) : ∃ y c, M.R y c ∧ Rel w (All w) None (.agg c) (.agg cs) ∧ φ y := by
  obtain ⟨y, c, h1, h2, h3⟩ := openP_arg ho h
  exact ⟨y, c, h1, .aggA h2, h3⟩
theorem relA_nil {w : World} : RelA w (All w) None [] [] := .nil
theorem relA_cons {w : World} {p : PV} {v : Value} {ps : List PV} {vs : List Value} (h : Rel w (All w) None p v) (k : RelA w (All w) None ps vs) : RelA w (All w) None (p :: ps) (v :: vs) := (RelA.one h).append k
end
end Go.Abs
end
