import Derived.Test.YtnpenchciinmmaaGreatG1
import Derived.Maps.AppendAt
import Derived.RangeFuncNested
import Derived.RangeFuncLeaves
import Derived.Laws.Tables
import Derived.Laws.MakeOwn
import Derived.Laws.Closers25b
import Derived.Great.BuildSlice
import Derived.OrdersIn
import Derived.RangeFuncCalls
/-
  An abstract machine for Go functions that compute data: values, objects, what they stand for in memory. Data ('C') is read by value and never changes; objects are the call's own.
-/
namespace Go.Proofs.YtnpenchciinmmaaGreat
open Go.RowKit

/-- one cell of data -/
inductive C where
  | int (k : IntKind) (n : Int)
  | bool (b : Bool)
  | str (s : ByteArray)
  | nilp
  | nilf
  | fnc (f : FuncId)
  | mref (m : Nat)
  | sl (rows : List (List C))

/-- where data lies: cells that nobody writes any more -/
abbrev Area := Nat → Nat → Prop

mutual
def RdC (S : Area) (w : World) : C → Value → Prop
  | .int k n, v => v = .int k n ∧ (Lit.int k n).wf = true
  | .bool b, v => v = .bool b
  | .str s, v => v = .string s ∧ s.size ≤ maxLen
  | .nilp, v => v = .pointer none
  | .nilf, v => v = .nilFunc
  | .fnc f, v => v = .func (.func f) #[] #[]
  | .mref m, v => v = .map (some m)
  | .sl rows, v => ∃ A c, v = .slice A rows.length c ∧ rows.length ≤ c ∧ c ≤ maxLen ∧ (rows ≠ [] → ∃ b off es, A = some ⟨b, off, none⟩ ∧ (∀ r ∈ rows, r.length = es) ∧ RdRs S w rows b off)
/-- the cells from (b, off) on read so -/
def RdR (S : Area) (w : World) : List C → Nat → Nat → Prop
  | [], _, _ => True
  | c :: r, b, off => (∃ v, w.cell? ⟨b, off, none⟩ = some v ∧ RdC S w c v) ∧ S b off ∧ RdR S w r b (off + 1)
def RdRs (S : Area) (w : World) : List (List C) → Nat → Nat → Prop
  | [], _, _ => True
  | r :: rs, b, off => RdR S w r b off ∧ RdRs S w rs b (off + r.length)
end

/-- values read so -/
def RdL (S : Area) (w : World) : List C → List Value → Prop
  | [], vs => vs = []
  | c :: r, vs => ∃ v vr, vs = v :: vr ∧ RdC S w c v ∧ RdL S w r vr

/-- the area's cells are as they were, and the area has grown -/
structure Ar (S S' : Area) (w w' : World) : Prop where
  sub : ∀ b j, S b j → S' b j
  cell : ∀ b j v, S b j → w.cell? ⟨b, j, none⟩ = some v → w'.cell? ⟨b, j, none⟩ = some v
theorem Ar.refl (S : Area) (w : World) : Ar S S w w := ⟨fun _ _ h => h, fun _ _ _ _ h => h⟩
theorem Ar.trans {S S' S'' : Area} {w w' w'' : World} (h : Ar S S' w w') (k : Ar S' S'' w' w'') : Ar S S'' w w'' := ⟨fun b j x => k.sub b j (h.sub b j x), fun b j v x y => k.cell b j v (h.sub b j x) (h.cell b j v x y)⟩

mutual
theorem RdC.mono {S S' : Area} {w w' : World} (h : Ar S S' w w') : ∀ (c : C) (v : Value), RdC S w c v → RdC S' w' c v
  | .int _ _, v, r => by simpa only [RdC] using r
  | .bool _, v, r => by simpa only [RdC] using r
  | .str _, v, r => by simpa only [RdC] using r
  | .nilp, v, r => by simpa only [RdC] using r
  | .nilf, v, r => by simpa only [RdC] using r
  | .fnc _, v, r => by simpa only [RdC] using r
  | .mref _, v, r => by simpa only [RdC] using r
  | .sl rows, v, r => by
    simp only [RdC] at r ⊢
    obtain ⟨A, c, e, h1, h2, h3⟩ := r
    refine ⟨A, c, e, h1, h2, fun hl => ?_⟩
    obtain ⟨b, off, es, hA, he, hs⟩ := h3 hl
    exact ⟨b, off, es, hA, he, RdRs.mono h rows b off hs⟩
theorem RdR.mono {S S' : Area} {w w' : World} (h : Ar S S' w w') : ∀ (l : List C) (b off : Nat), RdR S w l b off → RdR S' w' l b off
  | [], _, _, _ => by simp only [RdR]
  | c :: r, b, off, x => by
    simp only [RdR] at x ⊢
    obtain ⟨⟨v, h1, h2⟩, h3, h4⟩ := x
    exact ⟨⟨v, h.cell _ _ _ h3 h1, RdC.mono h c v h2⟩, h.sub _ _ h3, RdR.mono h r b _ h4⟩
theorem RdRs.mono {S S' : Area} {w w' : World} (h : Ar S S' w w') : ∀ (l : List (List C)) (b off : Nat), RdRs S w l b off → RdRs S' w' l b off
  | [], _, _, _ => by simp only [RdRs]
  | r :: rs, b, off, x => by
    simp only [RdRs] at x ⊢
    exact ⟨RdR.mono h r b off x.1, RdRs.mono h rs b _ x.2⟩
end
theorem RdL.mono {S S' : Area} {w w' : World} (h : Ar S S' w w') : ∀ (l : List C) (vs : List Value), RdL S w l vs → RdL S' w' l vs
  | [], _, x => x
  | c :: r, vs, x => by
    simp only [RdL] at x ⊢
    obtain ⟨v, vr, e, h1, h2⟩ := x
    exact ⟨v, vr, e, RdC.mono h c v h1, RdL.mono h r vr h2⟩

theorem RdL.len {S : Area} {w : World} : ∀ {l : List C} {vs : List Value}, RdL S w l vs → vs.length = l.length
  | [], _, x => by simp only [RdL] at x; subst x; rfl
  | c :: r, vs, x => by
    simp only [RdL] at x
    obtain ⟨v, vr, rfl, _, h2⟩ := x
    simp [RdL.len h2]
theorem RdC.one {S : Area} {w : World} : ∀ {c : C} {v : Value}, RdC S w c v → v.oneCell' = true
  | .int _ _, v, r => by simp only [RdC] at r; simp [r.1, Value.oneCell']
  | .bool _, v, r => by simp only [RdC] at r; simp [r, Value.oneCell']
  | .str _, v, r => by simp only [RdC] at r; simp [r.1, Value.oneCell']
  | .nilp, v, r => by simp only [RdC] at r; simp [r, Value.oneCell']
  | .nilf, v, r => by simp only [RdC] at r; simp [r, Value.oneCell']
  | .fnc _, v, r => by simp only [RdC] at r; simp [r, Value.oneCell']
  | .mref _, v, r => by simp only [RdC] at r; simp [r, Value.oneCell']
  | .sl _, v, r => by simp only [RdC] at r; obtain ⟨A, c, rfl, _⟩ := r; simp [Value.oneCell']
theorem RdL.ones {S : Area} {w : World} : ∀ {l : List C} {vs : List Value}, RdL S w l vs → ∀ u ∈ vs, u.oneCell' = true
  | [], _, x => by simp only [RdL] at x; subst x; simp
  | c :: r, vs, x => by
    simp only [RdL] at x
    obtain ⟨v, vr, rfl, h1, h2⟩ := x
    intro u hu
    rcases List.mem_cons.1 hu with rfl | hu
    · exact h1.one
    · exact RdL.ones h2 u hu
theorem RdL.append {S : Area} {w : World} : ∀ {l m : List C} {xs ys : List Value}, RdL S w l xs → RdL S w m ys → RdL S w (l ++ m) (xs ++ ys)
  | [], m, xs, ys, h, h' => by simp only [RdL] at h; subst h; simpa using h'
  | c :: l, m, xs, ys, h, h' => by
    simp only [RdL] at h
    obtain ⟨v, vr, rfl, h1, h2⟩ := h
    simp only [List.cons_append, RdL]
    exact ⟨v, vr ++ ys, rfl, h1, RdL.append h2 h'⟩
theorem RdL.split {S : Area} {w : World} : ∀ {l m : List C} {xs : List Value}, RdL S w (l ++ m) xs → ∃ ys zs, xs = ys ++ zs ∧ RdL S w l ys ∧ RdL S w m zs
  | [], m, xs, h => ⟨[], xs, rfl, by simp only [RdL], h⟩
  | c :: l, m, xs, h => by
    simp only [List.cons_append, RdL] at h
    obtain ⟨v, vr, rfl, h1, h2⟩ := h
    obtain ⟨ys, zs, rfl, h3, h4⟩ := RdL.split h2
    exact ⟨v :: ys, zs, rfl, by simp only [RdL]; exact ⟨v, ys, rfl, h1, h3⟩, h4⟩
theorem RdL.get {S : Area} {w : World} : ∀ {l : List C} {vs : List Value}, RdL S w l vs → ∀ (i : Nat) (c : C), l[i]? = some c → ∃ v, vs[i]? = some v ∧ RdC S w c v
  | [], _, _, i, c, h => by simp at h
  | x :: r, vs, h, i, c, hi => by
    simp only [RdL] at h
    obtain ⟨v, vr, rfl, h1, h2⟩ := h
    match i, hi with
    | 0, hi => simp only [List.getElem?_cons_zero, Option.some.injEq] at hi; subst hi; exact ⟨v, rfl, h1⟩
    | i + 1, hi => simpa using RdL.get h2 i c (by simpa using hi)

/-- cells in a row, as values -/
theorem RdR.vals {S : Area} {w : World} : ∀ (l : List C) (b off : Nat), RdR S w l b off → ∃ vs, RdL S w l vs ∧ (∀ j u, vs[j]? = some u → w.cell? ⟨b, off + j, none⟩ = some u) ∧ ∀ j, j < l.length → S b (off + j)
  | [], b, off, _ => ⟨[], by simp only [RdL], fun j u h => by simp at h, fun j h => by simp at h⟩
  | c :: r, b, off, x => by
    simp only [RdR] at x
    obtain ⟨⟨v, h1, h2⟩, h3, h4⟩ := x
    obtain ⟨vs, k1, k2, k3⟩ := RdR.vals r b _ h4
    refine ⟨v :: vs, by simp only [RdL]; exact ⟨v, vs, rfl, h2, k1⟩, fun j u hu => ?_, fun j hj => ?_⟩
    · match j, hu with
      | 0, hu => simp only [List.getElem?_cons_zero, Option.some.injEq] at hu; subst hu; exact h1
      | j + 1, hu => rw [show off + (j + 1) = off + 1 + j by omega]; exact k2 j u (by simpa using hu)
    · match j, hj with
      | 0, _ => exact h3
      | j + 1, hj => rw [show off + (j + 1) = off + 1 + j by omega]; exact k3 j (by simpa using hj)
theorem RdR.of_vals {S : Area} {w : World} : ∀ {l : List C} {vs : List Value} {b off : Nat}, RdL S w l vs → (∀ j u, vs[j]? = some u → w.cell? ⟨b, off + j, none⟩ = some u) → (∀ j, j < l.length → S b (off + j)) → RdR S w l b off
  | [], _, _, _, _, _, _ => by simp only [RdR]
  | c :: r, vs, b, off, h, hc, hS => by
    simp only [RdL] at h
    obtain ⟨v, vr, rfl, h1, h2⟩ := h
    simp only [RdR]
    refine ⟨⟨v, hc 0 v rfl, h1⟩, hS 0 (by simp), RdR.of_vals h2 (fun j u hu => ?_) (fun j hj => ?_)⟩
    · have := hc (j + 1) u (by simpa using hu); rw [show off + (j + 1) = off + 1 + j by omega] at this; exact this
    · have := hS (j + 1) (by simpa using hj); rw [show off + (j + 1) = off + 1 + j by omega] at this; exact this
theorem RdR.append {S : Area} {w : World} : ∀ {l m : List C} {b off : Nat}, RdR S w (l ++ m) b off ↔ RdR S w l b off ∧ RdR S w m b (off + l.length)
  | [], m, b, off => by simp [RdR]
  | c :: l, m, b, off => by
    simp only [List.cons_append, RdR, RdR.append (l := l), List.length_cons]
    rw [show off + 1 + l.length = off + (l.length + 1) by omega]
    simp only [and_assoc]
theorem RdRs.flat {S : Area} {w : World} : ∀ {rows : List (List C)} {b off : Nat}, RdRs S w rows b off ↔ RdR S w rows.flatten b off
  | [], b, off => by simp [RdRs, RdR]
  | r :: rs, b, off => by simp only [RdRs, List.flatten_cons, RdR.append, RdRs.flat]
theorem RdRs.at_ {S : Area} {w : World} {es : Nat} : ∀ {rows : List (List C)} {b off : Nat}, RdRs S w rows b off → (∀ r ∈ rows, r.length = es) → ∀ (i : Nat) (r : List C), rows[i]? = some r → RdR S w r b (off + i * es)
  | [], _, _, _, _, i, r, h => by simp at h
  | x :: rs, b, off, h, hs, i, r, hi => by
    simp only [RdRs] at h
    match i, hi with
    | 0, hi => simp only [List.getElem?_cons_zero, Option.some.injEq] at hi; subst hi; simpa using h.1
    | i + 1, hi =>
      have := RdRs.at_ h.2 (fun r hr => hs r (by simp [hr])) i r (by simpa using hi)
      rw [hs x (by simp)] at this
      rw [show off + (i + 1) * es = off + es + i * es by rw [Nat.add_mul]; omega]
      exact this
theorem RdR.get {S : Area} {w : World} {l : List C} {b off : Nat} (h : RdR S w l b off) {i : Nat} {c : C} (hi : l[i]? = some c) : ∃ v, w.cell? ⟨b, off + i, none⟩ = some v ∧ RdC S w c v := by
  obtain ⟨vs, k1, k2, _⟩ := RdR.vals l b off h
  obtain ⟨v, h1, h2⟩ := k1.get i c hi
  exact ⟨v, k2 i v h1, h2⟩
theorem RdRs.drop {S : Area} {w : World} {es : Nat} : ∀ (n : Nat) {rows : List (List C)} {b off : Nat}, RdRs S w rows b off → (∀ r ∈ rows, r.length = es) → n ≤ rows.length → RdRs S w (rows.drop n) b (off + n * es)
  | 0, rows, b, off, h, _, _ => by simpa using h
  | n + 1, [], b, off, _, _, h => by simp at h
  | n + 1, r :: rs, b, off, h, hs, hn => by
    simp only [RdRs] at h
    have := RdRs.drop n h.2 (fun r hr => hs r (by simp [hr])) (by simpa using hn)
    rw [hs r (by simp)] at this
    rw [show off + (n + 1) * es = off + es + n * es by rw [Nat.add_mul]; omega]
    simpa using this
theorem RdRs.take {S : Area} {w : World} : ∀ (n : Nat) {rows : List (List C)} {b off : Nat}, RdRs S w rows b off → RdRs S w (rows.take n) b off
  | 0, rows, b, off, _ => by simp [RdRs]
  | n + 1, [], b, off, _ => by simp [RdRs]
  | n + 1, r :: rs, b, off, h => by
    simp only [RdRs, List.take_succ_cons] at h ⊢
    exact ⟨h.1, RdRs.take n h.2⟩

/-- a value of the abstract machine -/
inductive V where
  | any
  | c (c : C)
  | agg (l : List V)
  | tup (l : List V)
  | ptr (k off : Nat)
  | own (k off len es : Nat)
  | cp (row : List C) (off : Nat)
  | full (rows : List (List C))
  | gr (k es : Nat) (rows : List (List C))
  | fn (f : FuncId) (caps : List V)
  | hot (k es : Nat) (rows : List (List C))
  | hp (k n pos : Nat)
  | yl (l : Nat)
  | mp (k : Nat)

/-- an object of the call's own: a box (or an array), or the room behind a slice that grows -/
inductive O where
  | box (ty : TypeId) (cells : List V) (frozen : Bool)
  | tok (ty : TypeId) (es cur : Nat)
  | hot (ty : TypeId) (es cur : Nat) (cells : List V)
  | mp (R : Nat → Obj → Prop)

/-- where an object lies: block, cells; a token: its elements so far, whether there is a block at all -/
structure Loc where
  b : Nat
  n : Nat
  tok : Bool
  cur : Nat
  void : Bool

structure Cx where
  dom : Nat → Prop
  loc : Nat → Loc
  S : Area

mutual
def CV (x : Cx) (w : World) : V → Value → Prop
  | .any, _ => True
  | .c c, v => RdC x.S w c v
  | .agg l, v => ∃ vs : Array Value, v = .agg vs ∧ CVs x w l vs.toList
  | .tup l, v => ∃ vs : Array Value, v = .tuple vs ∧ CVs x w l vs.toList
  | .ptr k off, v => x.dom k ∧ (x.loc k).tok = false ∧ v = .pointer (some ⟨(x.loc k).b, off, none⟩)
  | .own k off len es, v => x.dom k ∧ (x.loc k).tok = false ∧ ∃ cap, v = .slice (some ⟨(x.loc k).b, off, none⟩) len cap ∧ len ≤ cap ∧ cap ≤ maxLen ∧ off + cap * es ≤ (x.loc k).n
  | .cp row off, v => ∃ b o, v = .pointer (some ⟨b, o + off, none⟩) ∧ RdR x.S w row b o
  | .full rows, v => ∃ A, v = .slice A rows.length rows.length ∧ RdC x.S w (.sl rows) v
  | .gr k es rows, v => x.dom k ∧ (x.loc k).tok = true ∧ RdC x.S w (.sl rows) v ∧ (∀ r ∈ rows, r.length = es) ∧ rows.length ≤ (x.loc k).cur ∧ (rows.length = (x.loc k).cur →
      if (x.loc k).void then ∃ A, v = .slice A rows.length rows.length else ∃ cap, v = .slice (some ⟨(x.loc k).b, 0, none⟩) rows.length cap ∧ cap * es = (x.loc k).n)
  | .fn f caps, v => ∃ vs : Array Value, v = .func (.func f) #[] vs ∧ CVs x w caps vs.toList
  | .hot k es rows, v => x.dom k ∧ (x.loc k).tok = true ∧ (∀ r ∈ rows, r.length = es) ∧ rows.length + 1 ≤ (x.loc k).cur ∧ ∃ A cap, v = .slice A (rows.length + 1) cap ∧ (rows.length + 1 = (x.loc k).cur →
      (x.loc k).void = false ∧ A = some ⟨(x.loc k).b, 0, none⟩ ∧ rows.length + 1 ≤ cap ∧ cap ≤ maxLen ∧ cap * es = (x.loc k).n ∧ RdR x.S w rows.flatten (x.loc k).b 0)
  | .hp k n pos, v => x.dom k ∧ (x.loc k).tok = true ∧ n ≤ (x.loc k).cur ∧ ∃ A, v = .pointer A ∧ (n = (x.loc k).cur → A = some ⟨(x.loc k).b, pos, none⟩)
  | .yl l, v => v = .func (.yield l) #[] #[]
  | .mp k, v => x.dom k ∧ (x.loc k).tok = false ∧ v = .map (some (x.loc k).b)
def CVs (x : Cx) (w : World) : List V → List Value → Prop
  | [], vs => vs = []
  | v :: r, vs => ∃ u ur, vs = u :: ur ∧ CV x w v u ∧ CVs x w r ur
end

/-- how the places of objects may turn -/
def LocLe (l l' : Loc) : Prop := l'.tok = l.tok ∧ (l = l' ∨ (l.tok = true ∧ l.cur < l'.cur))
structure Ext (x x' : Cx) (w w' : World) : Prop where
  ar : Ar x.S x'.S w w'
  dom : ∀ k, x.dom k → x'.dom k
  loc : ∀ k, x.dom k → LocLe (x.loc k) (x'.loc k)
theorem LocLe.refl (l : Loc) : LocLe l l := ⟨rfl, .inl rfl⟩
theorem LocLe.trans {a b c : Loc} (h : LocLe a b) (k : LocLe b c) : LocLe a c := by
  refine ⟨k.1.trans h.1, ?_⟩
  rcases h.2 with rfl | h2
  · exact k.2
  · rcases k.2 with rfl | k2
    · exact .inr h2
    · exact .inr ⟨h2.1, Nat.lt_trans h2.2 k2.2⟩
theorem Ext.refl (x : Cx) (w : World) : Ext x x w w := ⟨Ar.refl _ _, fun _ h => h, fun _ _ => LocLe.refl _⟩
theorem Ext.trans {x y z : Cx} {a b c : World} (h : Ext x y a b) (k : Ext y z b c) : Ext x z a c := ⟨h.ar.trans k.ar, fun i hi => k.dom i (h.dom i hi), fun i hi => (h.loc i hi).trans (k.loc i (h.dom i hi))⟩

mutual
theorem CV.mono {x x' : Cx} {w w' : World} (h : Ext x x' w w') : ∀ (v : V) (u : Value), CV x w v u → CV x' w' v u
  | .any, _, _ => by simp only [CV]
  | .c c, u, r => by simp only [CV] at r ⊢; exact RdC.mono h.ar c u r
  | .agg l, u, r => by simp only [CV] at r ⊢; obtain ⟨vs, e, r⟩ := r; exact ⟨vs, e, CVs.mono h l _ r⟩
  | .tup l, u, r => by simp only [CV] at r ⊢; obtain ⟨vs, e, r⟩ := r; exact ⟨vs, e, CVs.mono h l _ r⟩
  | .ptr k off, u, r => by
    simp only [CV] at r ⊢
    obtain ⟨h1, h2, rfl⟩ := r
    obtain ⟨e, l⟩ := h.loc k h1
    rcases l with l | l
    · exact ⟨h.dom k h1, by rw [e, h2], by rw [l]⟩
    · rw [h2] at l; cases l.1
  | .own k off len es, u, r => by
    simp only [CV] at r ⊢
    obtain ⟨h1, h2, cap, rfl, h3, h4, h5⟩ := r
    obtain ⟨e, l⟩ := h.loc k h1
    rcases l with l | l
    · rw [l] at h5; exact ⟨h.dom k h1, by rw [e, h2], cap, by rw [l], h3, h4, h5⟩
    · rw [h2] at l; cases l.1
  | .cp row off, u, r => by simp only [CV] at r ⊢; obtain ⟨b, o, rfl, r⟩ := r; exact ⟨b, o, rfl, RdR.mono h.ar row b o r⟩
  | .full rows, u, r => by simp only [CV] at r ⊢; obtain ⟨A, e, r⟩ := r; exact ⟨A, e, RdC.mono h.ar _ u r⟩
  | .gr k es rows, u, r => by
    simp only [CV] at r ⊢
    obtain ⟨h1, h2, h3, h4, h5, h6⟩ := r
    obtain ⟨e, l⟩ := h.loc k h1
    refine ⟨h.dom k h1, by rw [e, h2], RdC.mono h.ar _ u h3, h4, ?_⟩
    rcases l with l | l
    · rw [← l]; exact ⟨h5, h6⟩
    · exact ⟨by omega, fun e => absurd e (by omega)⟩
  | .fn f caps, u, r => by simp only [CV] at r ⊢; obtain ⟨vs, e, r⟩ := r; exact ⟨vs, e, CVs.mono h caps _ r⟩
  | .hot k es rows, u, r => by
    simp only [CV] at r ⊢
    obtain ⟨h1, h2, h3, h4, A, cap, h5, h6⟩ := r
    obtain ⟨e, l⟩ := h.loc k h1
    refine ⟨h.dom k h1, by rw [e, h2], h3, ?_⟩
    rcases l with l | l
    · rw [← l]; exact ⟨h4, A, cap, h5, fun e => let ⟨k1, k2, k3, k4, k5, k6⟩ := h6 e; ⟨k1, k2, k3, k4, k5, RdR.mono h.ar _ _ _ k6⟩⟩
    · exact ⟨by omega, A, cap, h5, fun e => absurd e (by omega)⟩
  | .hp k n pos, u, r => by
    simp only [CV] at r ⊢
    obtain ⟨h1, h2, h3, A, h4, h5⟩ := r
    obtain ⟨e, l⟩ := h.loc k h1
    refine ⟨h.dom k h1, by rw [e, h2], ?_⟩
    rcases l with l | l
    · rw [← l]; exact ⟨h3, A, h4, h5⟩
    · exact ⟨by omega, A, h4, fun e => absurd e (by omega)⟩
  | .yl l, u, r => by simpa only [CV] using r
  | .mp k, u, r => by
    simp only [CV] at r ⊢
    obtain ⟨h1, h2, rfl⟩ := r
    obtain ⟨e, l⟩ := h.loc k h1
    rcases l with l | l
    · exact ⟨h.dom k h1, by rw [e, h2], by rw [l]⟩
    · rw [h2] at l; cases l.1
theorem CVs.mono {x x' : Cx} {w w' : World} (h : Ext x x' w w') : ∀ (l : List V) (us : List Value), CVs x w l us → CVs x' w' l us
  | [], _, r => by simpa only [CVs] using r
  | v :: l, us, r => by
    simp only [CVs] at r ⊢
    obtain ⟨u, ur, e, r1, r2⟩ := r
    exact ⟨u, ur, e, CV.mono h v u r1, CVs.mono h l ur r2⟩
end

theorem CVs.len {x : Cx} {w : World} : ∀ {l : List V} {us : List Value}, CVs x w l us → us.length = l.length
  | [], _, r => by simp only [CVs] at r; subst r; rfl
  | v :: l, us, r => by
    simp only [CVs] at r
    obtain ⟨u, ur, rfl, _, r2⟩ := r
    simp [CVs.len r2]
theorem CVs.get {x : Cx} {w : World} : ∀ {l : List V} {us : List Value}, CVs x w l us → ∀ (i : Nat) (v : V), l[i]? = some v → ∃ u, us[i]? = some u ∧ CV x w v u
  | [], _, _, i, v, h => by simp at h
  | y :: l, us, r, i, v, hi => by
    simp only [CVs] at r
    obtain ⟨u, ur, rfl, r1, r2⟩ := r
    match i, hi with
    | 0, hi => simp only [List.getElem?_cons_zero, Option.some.injEq] at hi; subst hi; exact ⟨u, rfl, r1⟩
    | i + 1, hi => simpa using CVs.get r2 i v (by simpa using hi)
theorem CVs.of_get {x : Cx} {w : World} : ∀ {l : List V} {us : List Value}, us.length = l.length → (∀ (i : Nat) (v : V) (u : Value), l[i]? = some v → us[i]? = some u → CV x w v u) → CVs x w l us
  | [], us, h, _ => by simp only [CVs]; exact List.eq_nil_of_length_eq_zero (by simpa using h)
  | y :: l, us, h, hg => by
    match us, h with
    | u :: ur, h =>
      simp only [CVs]
      exact ⟨u, ur, rfl, hg 0 y u rfl rfl, CVs.of_get (by simpa using h) fun i v u' hi hu => hg (i + 1) v u' (by simpa using hi) (by simpa using hu)⟩
theorem CVs.append {x : Cx} {w : World} : ∀ {l m : List V} {xs ys : List Value}, CVs x w l xs → CVs x w m ys → CVs x w (l ++ m) (xs ++ ys)
  | [], m, xs, ys, h, h' => by simp only [CVs] at h; subst h; simpa using h'
  | c :: l, m, xs, ys, h, h' => by
    simp only [CVs] at h
    obtain ⟨v, vr, rfl, h1, h2⟩ := h
    simp only [List.cons_append, CVs]
    exact ⟨v, vr ++ ys, rfl, h1, CVs.append h2 h'⟩
theorem CVs.set {x : Cx} {w : World} {l : List V} {us : List Value} (h : CVs x w l us) (i : Nat) {v : V} {u : Value} (hv : CV x w v u) : CVs x w (l.set i v) (us.set i u) := by
  refine CVs.of_get (by simp [h.len]) fun j v' u' hj hu => ?_
  rw [List.getElem?_set] at hj hu
  by_cases e : i = j
  · subst e
    by_cases hl : i < l.length
    · have hl' : i < us.length := by rw [h.len]; exact hl
      simp [hl] at hj
      simp [hl'] at hu
      subst hj hu
      exact hv
    · simp [hl] at hj
  · simp only [e, if_false] at hj hu
    obtain ⟨u2, h1, h2⟩ := h.get j v' hj
    rw [h1] at hu
    cases hu
    exact h2
theorem CVs.take {x : Cx} {w : World} {l : List V} {us : List Value} (h : CVs x w l us) (n : Nat) : CVs x w (l.take n) (us.take n) := by
  refine CVs.of_get (by simp [h.len]) fun j v' u' hj hu => ?_
  rw [List.getElem?_take] at hj hu
  split at hj
  · rename_i hl
    rw [if_pos hl] at hu
    obtain ⟨u2, h1, h2⟩ := h.get j v' hj
    rw [h1] at hu; cases hu; exact h2
  · cases hj
theorem CVs.drop {x : Cx} {w : World} {l : List V} {us : List Value} (h : CVs x w l us) (n : Nat) : CVs x w (l.drop n) (us.drop n) := by
  refine CVs.of_get (by simp [h.len]) fun j v' u' hj hu => ?_
  rw [List.getElem?_drop] at hj hu
  obtain ⟨u2, h1, h2⟩ := h.get _ v' hj
  rw [h1] at hu; cases hu; exact h2
theorem CVs.getD {x : Cx} {w : World} {l : List V} {us : List Value} (h : CVs x w l us) (i : Nat) (d : Value) : CV x w (l.getD i .any) (us.getD i d) := by
  rw [List.getD_eq_getElem?_getD, List.getD_eq_getElem?_getD]
  cases hi : l[i]? with
  | none => simp only [Option.getD_none, CV]
  | some v => obtain ⟨u, h1, h2⟩ := h.get i v hi; rw [h1]; exact h2
theorem CVs.ofC {x : Cx} {w : World} : ∀ {l : List C} {vs : List Value}, RdL x.S w l vs → CVs x w (l.map V.c) vs
  | [], _, h => by simp only [RdL] at h; simpa only [List.map_nil, CVs] using h
  | c :: l, vs, h => by
    simp only [RdL] at h
    obtain ⟨v, vr, rfl, h1, h2⟩ := h
    simp only [List.map_cons, CVs, CV]
    exact ⟨v, vr, rfl, h1, CVs.ofC h2⟩
theorem CV.pub {x : Cx} {w : World} {v : V} {u : Value} (h : CV x w v u) {S : Area} {w' : World} (ha : Ar x.S S w w') : CV { x with S := S } w' v u := by
  have he : Ext x { x with S := S } w w' := ⟨ha, fun _ h => h, fun _ _ => LocLe.refl _⟩
  exact CV.mono he v u h
end Go.Proofs.YtnpenchciinmmaaGreat

/-
  The abstract machine: what holds between its state and memory ('Good'), and how one step turns it.
-/
namespace Go.Proofs.YtnpenchciinmmaaGreat
open Go.RowKit

/-- all blocks but those of B lie as they lay -/
structure KB (B : Nat → Prop) (w w' : World) : Prop where
  os : w'.os = w.os
  tape : w'.tape = w.tape
  output : w'.output = w.output
  size : w.heap.size ≤ w'.heap.size
  block : ∀ k, k < w.heap.size → ¬ B k → w'.heap[k]? = w.heap[k]?
theorem KB.of_keep {B : Nat → Prop} {W W' : World} (h : Keep W W') : KB B W W' := ⟨h.os, h.tape, h.output, h.size, fun k hk _ => h.block k hk⟩
theorem KB.after {B : Nat → Prop} {w W W' : World} (h : KB B W W') (hk : Keep w W) (hS : ∀ k, B k → w.heap.size ≤ k) : Keep w W' :=
  ⟨h.os.trans hk.os, h.tape.trans hk.tape, h.output.trans hk.output, Nat.le_trans hk.size h.size, fun k hlt => (h.block k (Nat.lt_of_lt_of_le hlt hk.size) fun e => by have := hS k e; omega).trans (hk.block k hlt)⟩
theorem KB.cell {B : Nat → Prop} {w w' : World} (h : KB B w w') {b j : Nat} (hb : ¬ B b) {v : Value} (hc : w.cell? ⟨b, j, none⟩ = some v) : w'.cell? ⟨b, j, none⟩ = some v :=
  (World.cell?_of_block (h.block b (block_lt_of_cell hc) hb)).trans hc

theorem KB.trans {B : Nat → Prop} {w w' w'' : World} (h : KB B w w') (k : KB B w' w'') : KB B w w'' :=
  ⟨k.os.trans h.os, k.tape.trans h.tape, k.output.trans h.output, Nat.le_trans h.size k.size, fun i hi hn => (k.block i (Nat.lt_of_lt_of_le hi h.size) hn).trans (h.block i hi hn)⟩
theorem KB.wide {B C : Nat → Prop} {w w' : World} (h : KB B w w') (hS : ∀ k, B k → C k) : KB C w w' := ⟨h.os, h.tape, h.output, h.size, fun k hk hn => h.block k hk fun e => hn (hS k e)⟩
/-- a world, the blocks that must lie as they lay there, the objects that must stay -/
structure Bs where
  w : World
  F : Nat → Prop
  lt : ∀ b, F b → b < w.heap.size
  x0 : Cx
  n0 : Nat
  dl : ∀ k, x0.dom k → k < n0
def Cx.none : Cx := { dom := fun _ => False, loc := fun _ => ⟨0, 0, false, 0, false⟩, S := fun _ _ => False }
theorem Ext.none (x : Cx) (w w' : World) : Ext Cx.none x w w' := ⟨⟨fun _ _ h => h.elim, fun _ _ _ h => h.elim⟩, fun _ h => h.elim, fun _ h => h.elim⟩
def Bs.of (w : World) : Bs := ⟨w, fun b => b < w.heap.size, fun _ h => h, Cx.none, 0, fun _ h => h.elim⟩
theorem KB.all {w w' : World} (h : KB (fun b => ¬ (Bs.of w).F b) (Bs.of w).w w') : Keep w w' := ⟨h.os, h.tape, h.output, h.size, fun k hk => h.block k hk fun hn => hn hk⟩

/-- neither cells nor a map: such a block stays as it is -/
def still : Obj → Bool
  | .cells _ _ _ => false
  | .map _ _ => false
  | _ => true
def OOk (x : Cx) (w : World) (k : Nat) : O → Prop
  | .box ty cells _ => (x.loc k).tok = false ∧ (x.loc k).void = false ∧ ∃ vs : Array Value, w.heap[(x.loc k).b]? = some (.cells vs ty (0, 0)) ∧ vs.size = (x.loc k).n ∧ CVs x w cells vs.toList
  | .tok ty _ cur => (x.loc k).tok = true ∧ (x.loc k).cur = cur ∧ ((x.loc k).void = false → ∃ vs : Array Value, w.heap[(x.loc k).b]? = some (.cells vs ty (0, 0)) ∧ vs.size = (x.loc k).n)
  | .hot ty es cur cells => (x.loc k).tok = true ∧ (x.loc k).void = false ∧ (x.loc k).cur = cur ∧ 0 < cur ∧ cells.length = es ∧ ∃ vs : Array Value, w.heap[(x.loc k).b]? = some (.cells vs ty (0, 0)) ∧ vs.size = (x.loc k).n ∧ cur * es ≤ vs.size ∧ CVs x w cells ((vs.toList.drop ((cur - 1) * es)).take es)
  | .mp R => (x.loc k).tok = false ∧ (x.loc k).void = false ∧ ∃ ob : Obj, w.heap[(x.loc k).b]? = some ob ∧ still ob = false ∧ R (x.loc k).b ob
/-- the cells that an object has for itself -/
def Ex (x : Cx) (k : Nat) : O → Nat → Prop
  | .box _ _ fr, j => fr = false ∧ j < (x.loc k).n
  | .tok _ es cur, j => (x.loc k).void = false ∧ cur * es ≤ j ∧ j < (x.loc k).n
  | .hot _ es cur _, j => (cur - 1) * es ≤ j ∧ j < (x.loc k).n
  | .mp _, _ => False

abbrev Heap := Nat → Option O
def Heap.set (H : Heap) (k : Nat) (o : O) : Heap := fun i => if i = k then some o else H i

structure Good (S0 : Area) (w0 : Bs) (x : Cx) (w : World) (H : Heap) : Prop where
  ok : ∀ k o, H k = some o → x.dom k ∧ OOk x w k o
  dom : ∀ k, x.dom k → ∃ o, H k = some o
  inj : ∀ k k' o o', H k = some o → H k' = some o' → k ≠ k' → (x.loc k).void = false → (x.loc k').void = false → (x.loc k).b ≠ (x.loc k').b
  excl : ∀ k o j, H k = some o → Ex x k o j → ¬ x.S (x.loc k).b j
  ex : ∀ b j, x.S b j → b < w.heap.size
  own : ∀ k o, H k = some o → (x.loc k).void = false → ¬ w0.F (x.loc k).b
  new : ∀ b j, x.S b j → S0 b j ∨ ¬ w0.F b
  sub : ∀ b j, S0 b j → x.S b j
  keep : KB (fun b => ¬ w0.F b) w0.w w
  ext : Ext w0.x0 x w0.w w

theorem Good.fresh {S0 : Area} {w0 : Bs} {x : Cx} {w : World} {H : Heap} (g : Good S0 w0 x w H) {b : Nat} (h : w.heap.size ≤ b) : ¬ w0.F b := fun hF => by have := w0.lt b hF; have := g.keep.size; omega

theorem OOk.lt {x : Cx} {w : World} {k : Nat} {o : O} (h : OOk x w k o) (hv : (x.loc k).void = false) : (x.loc k).b < w.heap.size := by
  cases o with
  | box ty cells fr => obtain ⟨_, _, vs, h, _⟩ := h; exact (Array.getElem?_eq_some_iff.1 h).1
  | tok ty es cur => obtain ⟨_, _, h⟩ := h; obtain ⟨vs, h, _⟩ := h hv; exact (Array.getElem?_eq_some_iff.1 h).1
  | hot ty es cur cells => obtain ⟨_, _, _, _, _, vs, h, _⟩ := h; exact (Array.getElem?_eq_some_iff.1 h).1
  | mp R => obtain ⟨_, _, ob, h, _⟩ := h; exact (Array.getElem?_eq_some_iff.1 h).1
theorem OOk.mono {x x' : Cx} {w w' : World} {k : Nat} {o : O} (h : OOk x w k o) (he : Ext x x' w w') (hl : x'.loc k = x.loc k) (hb : (x.loc k).void = false → w'.heap[(x.loc k).b]? = w.heap[(x.loc k).b]?) : OOk x' w' k o := by
  cases o with
  | box ty cells fr =>
    obtain ⟨h1, h2, vs, h3, h4, h5⟩ := h
    exact ⟨by rw [hl, h1], by rw [hl, h2], vs, by rw [hl, hb h2, h3], by rw [hl, h4], CVs.mono he _ _ h5⟩
  | tok ty es cur =>
    obtain ⟨h1, h2, h3⟩ := h
    refine ⟨by rw [hl, h1], by rw [hl, h2], fun hv => ?_⟩
    rw [hl] at hv ⊢
    obtain ⟨vs, h4, h5⟩ := h3 hv
    exact ⟨vs, by rw [hb hv, h4], h5⟩
  | hot ty es cur cells =>
    obtain ⟨h1, h2, h3, h4, h5, vs, h6, h7, h8, h9⟩ := h
    exact ⟨by rw [hl, h1], by rw [hl, h2], by rw [hl, h3], h4, h5, vs, by rw [hl, hb h2, h6], by rw [hl, h7], h8, CVs.mono he _ _ h9⟩
  | mp R =>
    obtain ⟨h1, h2, ob, h3, h4⟩ := h
    exact ⟨by rw [hl, h1], by rw [hl, h2], ob, by rw [hl, hb h2, h3], by rw [hl]; exact h4⟩
theorem Ex.loc {x x' : Cx} {k : Nat} {o : O} {j : Nat} (hl : x'.loc k = x.loc k) (h : Ex x' k o j) : Ex x k o j := by
  cases o with
  | mp R => exact h
  | _ => simpa only [Ex, hl] using h

variable {S0 : Area} {w0 : Bs} {x x' : Cx} {w w' : World} {H : Heap}

/-- no object is touched -/
theorem Good.stepA (g : Good S0 w0 x w H) (hk : Keep w w') (ar : Ar x.S x'.S w w') (hd : x'.dom = x.dom) (hl : x'.loc = x.loc) (hS : ∀ b j, x'.S b j → x.S b j ∨ (w.heap.size ≤ b ∧ b < w'.heap.size)) : Good S0 w0 x' w' H ∧ Ext x x' w w' := by
  have he : Ext x x' w w' := ⟨ar, fun k h => by rw [hd]; exact h, fun k _ => by rw [hl]; exact LocLe.refl _⟩
  refine ⟨⟨fun k o h => ?_, fun k h => g.dom k (by rw [hd] at h; exact h), fun k k' o o' h h' => by rw [hl]; exact g.inj k k' o o' h h', fun k o j h hx => ?_, fun b j h => ?_, fun k o h => by rw [hl]; exact g.own k o h, fun b j h => ?_, fun b j h => ar.sub b j (g.sub b j h), g.keep.trans (.of_keep hk), g.ext.trans he⟩, he⟩
  · obtain ⟨h1, h2⟩ := g.ok k o h
    exact ⟨by rw [hd]; exact h1, h2.mono he (by rw [hl]) fun hv => hk.block _ (h2.lt hv)⟩
  · have hx' : Ex x k o j := Ex.loc (by rw [hl]) hx
    intro hs
    rw [hl] at hs
    rcases hS _ _ hs with hs | hs
    · exact g.excl k o j h hx' hs
    · have h2 := (g.ok k o h).2
      have hv : (x.loc k).void = false := by
        cases o with
        | box ty cells fr => exact h2.2.1
        | tok ty es cur => exact hx'.1
        | hot ty es cur cells => exact h2.2.1
        | mp R => exact h2.2.1
      have := h2.lt hv
      omega
  · rcases hS _ _ h with h | h
    · exact Nat.lt_of_lt_of_le (g.ex b j h) hk.size
    · exact h.2
  · rcases hS _ _ h with h | h
    · exact g.new b j h
    · exact .inr (g.fresh h.1)

/-- one object is written, or made -/
theorem Good.stepB (g : Good S0 w0 x w H) (k : Nat) (o' : O) (he : Ext x x' w w') (hkb : KB (fun b => x.dom k ∧ (x.loc k).void = false ∧ (x.loc k).b = b) w w') (hd : ∀ i, x'.dom i ↔ x.dom i ∨ i = k) (hl : ∀ i, i ≠ k → x'.loc i = x.loc i)
    (hpl : (x'.loc k).void = false → (x.dom k ∧ (x.loc k).void = false ∧ (x'.loc k).b = (x.loc k).b) ∨ w.heap.size ≤ (x'.loc k).b)
    (hok : OOk x' w' k o') (hS : ∀ b j, x'.S b j → x.S b j ∨ (b < w'.heap.size ∧ (w.heap.size ≤ b ∨ (x.dom k ∧ (x.loc k).void = false ∧ (x.loc k).b = b)) ∧ ((x'.loc k).b = b → ¬ Ex x' k o' j)))
    (hex : ∀ j, Ex x' k o' j → ¬ x.S (x'.loc k).b j) : Good S0 w0 x' w' (H.set k o') := by
  have hbk : ∀ i o, H i = some o → i ≠ k → (x.loc i).void = false → ¬ (x.dom k ∧ (x.loc k).void = false ∧ (x.loc k).b = (x.loc i).b) := by
    rintro i o hi hne hv ⟨h1, h2, h3⟩
    obtain ⟨ok, hok⟩ := g.dom k h1
    exact g.inj k i ok o hok hi (fun e => hne e.symm) h2 hv h3
  have hkb' : ∀ b, (x.dom k ∧ (x.loc k).void = false ∧ (x.loc k).b = b) → ¬ w0.F b := by
    rintro b ⟨h1, h2, rfl⟩
    obtain ⟨ok, hok⟩ := g.dom k h1
    exact g.own k ok hok h2
  refine ⟨fun i o h => ?_, fun i h => ?_, fun i i' o o2 h h' hne hv hv' => ?_, fun i o j h hx => ?_, fun b j h => ?_, fun i o h hv => ?_, fun b j h => ?_, fun b j h => he.ar.sub b j (g.sub b j h), g.keep.trans (hkb.wide hkb'), g.ext.trans he⟩
  · by_cases e : i = k
    · subst e; simp [Heap.set] at h; subst h; exact ⟨(hd i).2 (.inr rfl), hok⟩
    · simp only [Heap.set, e, if_false] at h
      obtain ⟨h1, h2⟩ := g.ok i o h
      exact ⟨(hd i).2 (.inl h1), h2.mono he (hl i e) fun hv => hkb.block _ (h2.lt hv) (hbk i o h e hv)⟩
  · by_cases e : i = k
    · subst e; exact ⟨o', by simp [Heap.set]⟩
    · rcases (hd i).1 h with h | h
      · obtain ⟨o, ho⟩ := g.dom i h; exact ⟨o, by simp [Heap.set, e, ho]⟩
      · exact absurd h e
  · -- blocks of two objects
    have far : ∀ i o, H i = some o → i ≠ k → (x'.loc i).void = false → (x'.loc k).void = false → (x'.loc i).b ≠ (x'.loc k).b := by
      intro i o hi hne hv hvk e
      rw [hl i hne] at hv e
      rcases hpl hvk with h | h
      · exact hbk i o hi hne hv ⟨h.1, h.2.1, by rw [← h.2.2, e]⟩
      · have := ((g.ok i o hi).2).lt hv; omega
    by_cases e : i = k
    · subst e
      have hne' : i' ≠ i := fun e => hne e.symm
      simp only [Heap.set, hne', if_false] at h'
      exact fun e => far i' o2 h' hne' hv' hv e.symm
    · simp only [Heap.set, e, if_false] at h
      by_cases e' : i' = k
      · subst e'; exact far i o h e hv hv'
      · simp only [Heap.set, e', if_false] at h'
        rw [hl i e] at hv ⊢
        rw [hl i' e'] at hv' ⊢
        exact g.inj i i' o o2 h h' hne hv hv'
  · by_cases e : i = k
    · subst e
      simp [Heap.set] at h; subst h
      intro hs
      rcases hS _ _ hs with hs | hs
      · exact hex j hx hs
      · exact hs.2.2 rfl hx
    · simp only [Heap.set, e, if_false] at h
      have hx' : Ex x i o j := Ex.loc (hl i e) hx
      have h2 := (g.ok i o h).2
      have hv : (x.loc i).void = false := by
        cases o with
        | box ty cells fr => exact h2.2.1
        | tok ty es cur => exact hx'.1
        | hot ty es cur cells => exact h2.2.1
        | mp R => exact h2.2.1
      intro hs
      rw [hl i e] at hs
      rcases hS _ _ hs with hs | hs
      · exact g.excl i o j h hx' hs
      · rcases hs.2.1 with hs | hs
        · have := h2.lt hv; omega
        · exact hbk i o h e hv hs
  · rcases hS _ _ h with h | h
    · exact Nat.lt_of_lt_of_le (g.ex b j h) hkb.size
    · exact h.1
  · by_cases e : i = k
    · subst e
      rcases hpl hv with h | h
      · obtain ⟨ok, hok⟩ := g.dom i h.1; rw [h.2.2]; exact g.own i ok hok h.2.1
      · exact g.fresh h
    · simp only [Heap.set, e, if_false] at h
      rw [hl i e] at hv ⊢
      exact g.own i o h hv
  · rcases hS _ _ h with h | h
    · exact g.new b j h
    · rcases h.2.1 with h | h
      · exact .inr (g.fresh h)
      · exact .inr (hkb' b h)

/-- a block is made for a new object -/
def Cx.mk1 (x : Cx) (k : Nat) (l : Loc) : Cx := { dom := fun i => x.dom i ∨ i = k, loc := fun i => if i = k then l else x.loc i, S := x.S }
theorem Good.ext1 (k : Nat) (l : Loc) (hk : ¬ x.dom k) (hw : ∀ b j v, x.S b j → w.cell? ⟨b, j, none⟩ = some v → w'.cell? ⟨b, j, none⟩ = some v) : Ext x (x.mk1 k l) w w' :=
  ⟨⟨fun _ _ h => h, hw⟩, fun _ h => .inl h, fun i hi => by
    have : i ≠ k := fun e => hk (e ▸ hi)
    simp [Cx.mk1, this, LocLe.refl]⟩
theorem Good.newBox (g : Good S0 w0 x w H) (k : Nat) (hk : ¬ x.dom k) (ty : TypeId) (cells : List V) (vs : Array Value) (hv : CVs x w cells vs.toList) :
    Good S0 w0 (x.mk1 k ⟨w.heap.size, vs.size, false, 0, false⟩) (w.alloc (.cells vs ty)) (H.set k (.box ty cells false)) ∧ Ext x (x.mk1 k ⟨w.heap.size, vs.size, false, 0, false⟩) w (w.alloc (.cells vs ty)) := by
  have hal : Keep w (w.alloc (.cells vs ty)) := (Keep.refl w).alloc _
  have he : Ext x (x.mk1 k ⟨w.heap.size, vs.size, false, 0, false⟩) w (w.alloc (.cells vs ty)) := Good.ext1 k _ hk fun b j v _ hc => hal.cell hc
  refine ⟨g.stepB k _ he (.of_keep hal) (fun i => Iff.rfl) (fun i hi => by simp [Cx.mk1, hi]) (fun _ => .inr (by simp [Cx.mk1])) ?_ (fun b j h => .inl h) (fun j hx hs => ?_), he⟩
  · refine ⟨by simp [Cx.mk1], by simp [Cx.mk1], vs, ?_, by simp [Cx.mk1], CVs.mono he _ _ hv⟩
    simp only [Cx.mk1, if_true]
    exact heap_alloc_new w _
  · simp only [Cx.mk1, if_true] at hs
    have := g.ex _ _ hs
    omega

/-- a box is written -/
theorem Good.writeBox (g : Good S0 w0 x w H) (k : Nat) (ty : TypeId) (cells cells' : List V) (hH : H k = some (.box ty cells false)) (vs vs' : Array Value) (hb : w.heap[(x.loc k).b]? = some (.cells vs ty (0, 0))) (hs : vs'.size = vs.size) (hv : CVs x w cells' vs'.toList) :
    Good S0 w0 x (w.setRow (x.loc k).b vs') (H.set k (.box ty cells' false)) ∧ Ext x x w (w.setRow (x.loc k).b vs') := by
  obtain ⟨hd, hok⟩ := g.ok k _ hH
  obtain ⟨h1, h2, us, h3, h4, h5⟩ := hok
  rw [hb] at h3
  cases h3
  have hne : ∀ b j, x.S b j → (∃ v, w.cell? ⟨b, j, none⟩ = some v) → b ≠ (x.loc k).b := by
    rintro b j hS ⟨v, hc⟩ rfl
    have hj : j < (x.loc k).n := by
      rw [cell_of_row w _ j vs ty (0, 0) hb] at hc
      have := (Array.getElem?_eq_some_iff.1 hc).1
      omega
    exact g.excl k _ j hH ⟨rfl, hj⟩ hS
  have he : Ext x x w (w.setRow (x.loc k).b vs') := ⟨⟨fun _ _ h => h, fun b j v hS hc => by
    have hb' := hne b j hS ⟨v, hc⟩
    rw [World.cell?_of_block (w := w) (a := ⟨b, j, none⟩) (setRow_other w _ b vs' hb')]
    exact hc⟩, fun _ h => h, fun _ _ => LocLe.refl _⟩
  refine ⟨g.stepB k _ he ⟨rfl, rfl, rfl, by simp, fun i _ hn => setRow_other w _ i vs' (fun e => hn ⟨hd, h2, e.symm⟩)⟩ (fun i => ⟨.inl, fun h => h.elim id (fun e => e ▸ hd)⟩) (fun _ _ => rfl) (fun _ => .inl ⟨hd, h2, rfl⟩) ?_ (fun b j h => .inl h) (fun j hx => g.excl k _ j hH hx), he⟩
  exact ⟨h1, h2, vs', setRow_heap w _ vs vs' ty (0, 0) hb, by rw [hs, h4], CVs.mono he _ _ hv⟩

/-! the baseline may be laid anew -/
/-- what is no cells lies as it lay -/
structure NC (w w' : World) : Prop where
  size : w.heap.size ≤ w'.heap.size
  same : ∀ (b : Nat) (o : Obj), w.heap[b]? = some o → still o = true → w'.heap[b]? = some o
theorem NC.refl (w : World) : NC w w := ⟨Nat.le_refl _, fun _ _ h _ => h⟩
theorem NC.trans {a b c : World} (h : NC a b) (k : NC b c) : NC a c := ⟨Nat.le_trans h.size k.size, fun i o hi ho => k.same i o (h.same i o hi ho) ho⟩
theorem NC.of_keep {w w' : World} (h : Keep w w') : NC w w' := ⟨h.size, fun b _ hb _ => (h.block b (Array.getElem?_eq_some_iff.1 hb).1).trans hb⟩
def Bs.re (w0 : Bs) (w : World) (h : w0.w.heap.size ≤ w.heap.size) : Bs :=
  ⟨w, fun b => w0.F b ∨ ∃ o : Obj, w.heap[b]? = some o ∧ still o = true, fun b hb => by
    rcases hb with hb | ⟨o, hb, _⟩
    · exact Nat.lt_of_lt_of_le (w0.lt b hb) h
    · exact (Array.getElem?_eq_some_iff.1 hb).1, Cx.none, 0, fun _ h => h.elim⟩
theorem OOk.cells {k : Nat} {o : O} (h : OOk x w k o) (hv : (x.loc k).void = false) : ∃ ob : Obj, w.heap[(x.loc k).b]? = some ob ∧ still ob = false := by
  cases o with
  | box ty cells fr => obtain ⟨_, _, vs, h, _⟩ := h; exact ⟨_, h, rfl⟩
  | tok ty es cur => obtain ⟨_, _, h⟩ := h; obtain ⟨vs, h, _⟩ := h hv; exact ⟨_, h, rfl⟩
  | hot ty es cur cells => obtain ⟨_, _, _, _, _, vs, h, _⟩ := h; exact ⟨_, h, rfl⟩
  | mp R => obtain ⟨_, _, ob, h, hs, _⟩ := h; exact ⟨ob, h, hs⟩
theorem Good.rebase (g : Good S0 w0 x w H) : Good x.S (w0.re w g.keep.size) x w H := by
  refine ⟨g.ok, g.dom, g.inj, g.excl, g.ex, fun k o h hv hF => ?_, fun b j h => .inl h, fun _ _ h => h, .of_keep (Keep.refl w), Ext.none _ _ _⟩
  rcases hF with hF | ⟨ob, h1, h2⟩
  · exact g.own k o h hv hF
  · obtain ⟨o2, h3, h4⟩ := (g.ok k o h).2.cells hv
    rw [h3] at h1; cases h1; rw [h4] at h2; cases h2
theorem Good.unbase {H' : Heap} (g : Good S0 w0 x w H) (he : Ext x x' w w') (g' : Good x.S (w0.re w g.keep.size) x' w' H') : Good S0 w0 x' w' H' ∧ NC w w' := by
  refine ⟨⟨g'.ok, g'.dom, g'.inj, g'.excl, g'.ex, fun k o h hv hF => g'.own k o h hv (.inl hF), fun b j h => ?_, fun b j h => g'.sub b j (g.sub b j h), g.keep.trans (g'.keep.wide fun b hb hF => hb (.inl hF)), g.ext.trans he⟩, g'.keep.size, fun b o hb ho => ?_⟩
  · rcases g'.new b j h with h | h
    · exact g.new b j h
    · exact .inr fun hF => h (.inl hF)
  · exact (g'.keep.block b (Array.getElem?_eq_some_iff.1 hb).1 fun hn => hn (.inr ⟨o, hb, ho⟩)).trans hb
/-- memory grows, and a block that is no cells turns -/
theorem Good.grown {row : Option Nat} (g : Good S0 w0 x w H) (hg : w.grownBy w' row) (hr : ∀ r, row = some r → ¬ w0.F r ∧ ∃ o : Obj, w.heap[r]? = some o ∧ still o = true) : Good S0 w0 x w' H ∧ Ext x x w w' := by
  have hb : ∀ (b : Nat) (ob : Obj), w.heap[b]? = some ob → still ob = false → w'.heap[b]? = w.heap[b]? := fun b ob h hs => hg.block b (Array.getElem?_eq_some_iff.1 h).1 fun e => by
    obtain ⟨_, o, h1, h2⟩ := hr b e.symm
    rw [h] at h1; cases h1; rw [hs] at h2; cases h2
  have he : Ext x x w w' := ⟨⟨fun _ _ h => h, fun b j v _ hc => by
    have hh : ∃ vs ty fl, w.heap[b]? = some (.cells vs ty fl) := by
      unfold World.cell? at hc
      cases hx : w.heap[b]? with
      | none => simp [hx] at hc
      | some o => cases o <;> first | exact ⟨_, _, _, rfl⟩ | simp [hx] at hc
    obtain ⟨vs, ty, fl, hh⟩ := hh
    exact (World.cell?_of_block (hb b _ hh rfl)).trans hc⟩, fun _ h => h, fun _ _ => LocLe.refl _⟩
  refine ⟨⟨fun k o h => ?_, g.dom, g.inj, g.excl, fun b j h => Nat.lt_of_lt_of_le (g.ex b j h) hg.size, g.own, g.new, g.sub, g.keep.trans ⟨hg.os, hg.tape, hg.output, hg.size, fun k hk hn => hg.block k hk fun e => hn (hr k e.symm).1⟩, g.ext.trans he⟩, he⟩
  obtain ⟨h1, h2⟩ := g.ok k o h
  exact ⟨h1, h2.mono he rfl fun hv => by obtain ⟨o2, h3, h4⟩ := h2.cells hv; exact hb _ _ h3 h4⟩

/-- the marks of loops that are done -/
def Marks (w0 : Bs) (ds : List Deferred) (w : World) : Prop := ∃ Ds : List Nat, ds = Ds.map (fun D => { target := .collected D, args := #[] }) ∧ Ds.Nodup ∧ ∀ D ∈ Ds, ¬ w0.F D ∧ w.heap[D]? = some (.deferred (some []))
theorem Marks.nil (w0 : Bs) (w : World) : Marks w0 [] w := ⟨[], rfl, List.nodup_nil, fun _ h => nomatch h⟩
theorem Marks.mono {ds : List Deferred} (h : Marks w0 ds w) (hn : NC w w') : Marks w0 ds w' := by
  obtain ⟨Ds, h1, h2, h3⟩ := h
  exact ⟨Ds, h1, h2, fun D hD => ⟨(h3 D hD).1, hn.same D _ (h3 D hD).2 rfl⟩⟩
end Go.Proofs.YtnpenchciinmmaaGreat

/-
  The abstract machine: operations that look at values and types alone, and what they do in memory.
-/
namespace Go.Proofs.YtnpenchciinmmaaGreat
open Go.RowKit
set_option linter.unusedSimpArgs false

def V.one : V → Bool
  | .c _ | .ptr _ _ | .own _ _ _ _ | .cp _ _ | .full _ | .gr _ _ _ | .fn _ _ | .hot _ _ _ | .hp _ _ _ | .yl _ | .mp _ => true
  | .any | .agg _ | .tup _ => false
def V.cells : V → List V
  | .agg l => l
  | v => [v]
/-- a struct of cells, or a cell -/
def V.flat : V → Bool
  | .agg l => l.all V.one
  | v => v.one
theorem CV.one {x : Cx} {w : World} {v : V} {u : Value} (h : CV x w v u) (h1 : v.one = true) : u.oneCell' = true := by
  cases v with
  | any => cases h1
  | agg l => cases h1
  | tup l => cases h1
  | c c => simp only [CV] at h; exact h.one
  | ptr k off => simp only [CV] at h; obtain ⟨_, _, rfl⟩ := h; rfl
  | own k off len es => simp only [CV] at h; obtain ⟨_, _, cap, rfl, _⟩ := h; rfl
  | cp row off => simp only [CV] at h; obtain ⟨_, _, rfl, _⟩ := h; rfl
  | full rows => simp only [CV] at h; obtain ⟨_, rfl, _⟩ := h; rfl
  | gr k es rows => simp only [CV] at h; exact h.2.2.1.one
  | fn f caps => simp only [CV] at h; obtain ⟨_, rfl, _⟩ := h; rfl
  | hot k es rows => simp only [CV] at h; obtain ⟨_, _, _, _, A, cap, rfl, _⟩ := h; rfl
  | hp k n pos => simp only [CV] at h; obtain ⟨_, _, _, A, rfl, _⟩ := h; rfl
  | yl l => simp only [CV] at h; subst h; rfl
  | mp k => simp only [CV] at h; obtain ⟨_, _, rfl⟩ := h; rfl
theorem cells_one {u : Value} (h : u.oneCell' = true) : u.cells = #[u] := by cases u <;> first | rfl | cases h
theorem CV.cells {x : Cx} {w : World} {v : V} {u : Value} (h : CV x w v u) (h1 : v.flat = true) : CVs x w v.cells u.cells.toList ∧ ∀ y ∈ u.cells.toList, y.oneCell' = true := by
  by_cases hv : v.one = true
  · have := h.one hv
    rw [cells_one this]
    have e : v.cells = [v] := by cases v <;> first | rfl | cases hv
    rw [e]
    simp only [CVs]
    exact ⟨⟨u, [], rfl, h, rfl⟩, by simpa using this⟩
  · cases v with
    | agg l =>
      simp only [CV] at h
      obtain ⟨vs, rfl, h⟩ := h
      refine ⟨h, fun y hy => ?_⟩
      obtain ⟨i, hi⟩ := List.mem_iff_getElem?.1 hy
      have hil : i < l.length := by rw [← h.len]; exact (List.getElem?_eq_some_iff.1 hi).1
      obtain ⟨u, h2, h3⟩ := h.get i l[i] (List.getElem?_eq_getElem hil)
      have : u = y := by
        have h4 : vs.toList[i]? = some y := hi
        rw [h4] at h2; cases h2; rfl
      subst this
      refine h3.one ?_
      simp only [V.flat, List.all_eq_true] at h1
      exact h1 _ (List.getElem_mem hil)
    | _ => first | exact absurd rfl hv | cases h1

/-- constants -/
def v1 : Value → V
  | .int k n => if (Lit.int k n).wf then .c (.int k n) else .any
  | .bool b => .c (.bool b)
  | .string s => if s.size ≤ maxLen then .c (.str s) else .any
  | .pointer none => .c .nilp
  | .nilFunc => .c .nilf
  | .slice none 0 0 => .full []
  | _ => .any
def vOf : Value → V
  | .agg cs => .agg (cs.toList.map v1)
  | v => v1 v
theorem v1_ok (x : Cx) (w : World) (u : Value) : CV x w (v1 u) u := by
  unfold v1
  split
  · split
    · simp only [CV, RdC]; exact ⟨trivial, by assumption⟩
    · simp only [CV]
  · simp only [CV, RdC]
  · split
    · simp only [CV, RdC]; exact ⟨trivial, by assumption⟩
    · simp only [CV]
  · simp only [CV, RdC]
  · simp only [CV, RdC]
  · simp only [CV, RdC]; exact ⟨none, rfl, none, 0, rfl, by simp, by simp [maxLen], fun h => absurd rfl h⟩
  · simp only [CV]
theorem v1s_ok (x : Cx) (w : World) : ∀ l : List Value, CVs x w (l.map v1) l
  | [] => by simp only [List.map_nil, CVs]
  | u :: l => by simp only [List.map_cons, CVs]; exact ⟨u, l, rfl, v1_ok x w u, v1s_ok x w l⟩
theorem vOf_ok (x : Cx) (w : World) (u : Value) : CV x w (vOf u) u := by
  unfold vOf
  split
  · simp only [CV]; exact ⟨_, rfl, v1s_ok x w _⟩
  · exact v1_ok x w _

def ev (t : List V) : Operand → V
  | .tmp i => t.getD i .any
  | .const v => vOf v
  | .func f => .fn f []
  | .global _ => .any
theorem ev_ok {x : Cx} {w : World} {t : List V} {a : Act} (h : CVs x w t a.tmps.toList) (y : Operand) : CV x w (ev t y) (a.eval y) := by
  cases y with
  | tmp i =>
    have := h.getD i undef
    simpa [ev, Act.eval, Array.getD_eq_getD_getElem?, List.getD_eq_getElem?_getD] using this
  | const v => exact vOf_ok x w v
  | func f => simp only [ev, Act.eval, CV]; exact ⟨#[], rfl, by simp only [CVs]⟩
  | global g => simp only [ev, CV]

/-- the program's table of types -/
def tOne (P : Program) (t : TypeId) : Option (Bool × Nat) :=
  match P.underlying t, P.info? t with
  | some d, some i => some (aggDesc d, i.size)
  | _, _ => none
def tZero (P : Program) (t : TypeId) : Option (List V) :=
  match P.info? t with
  | some i => i.zero.map fun z => z.cells.toList.map v1
  | none => none
def tPlaces (P : Program) (t : TypeId) : Option (Nat → Option (Nat × Nat)) :=
  match P.underlying t with
  | some (.struct fields) => (fields.toList.mapM (fun f => (P.info? f.type).map fun i => (f.offset, i.size))).map fun l i => l[i]?
  | some (.array _ e) => (P.info? e).map fun ie i => some (i * ie.size, ie.size)
  | _ => none
def tField (P : Program) (s : TypeId) (f : Nat) : Option (Nat × Nat × Bool) :=
  match P.underlying s with
  | some (.struct fields) => match fields[f]? with
    | some fd => match tOne P fd.type with
      | some (ag, n) => some (fd.offset, n, ag)
      | none => none
    | none => none
  | _ => none
/-- a slice's elements: type, cells, bytes -/
def tElem (P : Program) (t : TypeId) : Option (TypeId × Nat × Nat) :=
  match P.underlying t with
  | some (.slice e) => match P.info? e with
    | some i => match i.zero with
      | some z => if z.cells.size = i.size then some (e, i.size, i.bytes) else none
      | none => none
    | none => none
  | _ => none
/-- an array's length, its elements' cells -/
def tArr (P : Program) (t : TypeId) : Option (Nat × Nat × Bool) :=
  match P.underlying t with
  | some (.array n e) => match tOne P e with
    | some (ag, s) => some (n, s, ag)
    | none => none
  | _ => none
def tStr (P : Program) (t : TypeId) : Bool :=
  match P.underlying t with
  | some .string => true
  | _ => false
def tInt (P : Program) (t : TypeId) : Option IntKind :=
  match P.underlying t with
  | some (.int k) => some k
  | _ => none
def tSl (P : Program) (t : TypeId) : Bool :=
  match P.underlying t with
  | some (.slice _) => true
  | _ => false

variable {P : Program} {x : Cx} {w : World}

theorem tOne_run {t : TypeId} {ag : Bool} {n : Nat} (h : tOne P t = some (ag, n)) : (isAgg t).run P w = .ok ag w ∧ (sizeOf t).run P w = .ok n w ∧ ∃ i, P.info? t = some i ∧ i.size = n := by
  unfold tOne at h
  cases hu : P.underlying t with
  | none => simp [hu] at h
  | some d =>
    cases hi : P.info? t with
    | none => simp [hu, hi] at h
    | some i =>
      simp only [hu, hi, Option.some.injEq, Prod.mk.injEq] at h
      obtain ⟨rfl, rfl⟩ := h
      refine ⟨?_, by simp [sizeOf, typeInfo, hi], i, rfl, rfl⟩
      unfold isAgg
      rw [Sem.run_bind, run_underlying hu w]
      cases d <;> simp [aggDesc]

/-- write a list into a list -/
def putL : List V → Nat → List V → List V
  | cs, _, [] => cs
  | cs, off, v :: r => putL (cs.set off v) (off + 1) r
theorem putL_len : ∀ (r cs : List V) (off : Nat), (putL cs off r).length = cs.length
  | [], _, _ => rfl
  | v :: r, cs, off => by simp [putL, putL_len r]

theorem fold_set (x : Cx) (w : World) : ∀ (r : List V) (us : List Value) (i off : Nat) (cs : List V) (vs : Array Value), CVs x w r us → CVs x w cs vs.toList →
    CVs x w (putL cs (off + i) r) ((us.zipIdx i).foldl (fun (c : Array Value) (p : Value × Nat) => c.setIfInBounds (off + p.2) p.1) vs).toList ∧ ((us.zipIdx i).foldl (fun (c : Array Value) (p : Value × Nat) => c.setIfInBounds (off + p.2) p.1) vs).size = vs.size
  | [], us, i, off, cs, vs, h, hc => by simp only [CVs] at h; subst h; exact ⟨by simpa [putL] using hc, by simp⟩
  | v :: r, us, i, off, cs, vs, h, hc => by
    simp only [CVs] at h
    obtain ⟨u, ur, rfl, h1, h2⟩ := h
    simp only [List.zipIdx_cons, List.foldl_cons, putL]
    have := fold_set x w r ur (i + 1) off (cs.set (off + i) v) (vs.setIfInBounds (off + i) u) h2 (by simpa using hc.set (off + i) h1)
    rw [show off + i + 1 = off + (i + 1) by omega]
    exact ⟨this.1, by rw [this.2]; simp⟩

def fillV (place : Nat → Option (Nat × Nat)) : List V → List (Nat × V) → Option (List V)
  | cs, [] => some cs
  | cs, (i, v) :: r => match place i with
    | none => none
    | some (off, size) => if v.flat = true ∧ v.cells.length = size ∧ off + size ≤ cs.length then fillV place (putL cs off v.cells) r else none
theorem fill_ok (x : Cx) (w : World) (place : Nat → Option (Nat × Nat)) : ∀ (ps : List (Nat × V)) (us : List (Nat × Value)) (cs cs' : List V) (vs : Array Value), ps.map (·.1) = us.map (·.1) → CVs x w (ps.map (·.2)) (us.map (·.2)) → CVs x w cs vs.toList → fillV place cs ps = some cs' →
    ∃ vs', Instr.fill place vs us = some vs' ∧ CVs x w cs' vs'.toList ∧ vs'.size = vs.size
  | [], us, cs, cs', vs, he, h, hc, hf => by
    simp only [List.map_nil] at he
    have : us = [] := by cases us <;> simp at he ⊢
    subst this
    simp only [fillV, Option.some.injEq] at hf
    subst hf
    exact ⟨vs, rfl, hc, rfl⟩
  | (i, v) :: ps, us, cs, cs', vs, he, h, hc, hf => by
    match us, he, h with
    | (j, u) :: us, he, h =>
      simp only [List.map_cons, List.cons.injEq] at he
      obtain ⟨rfl, he⟩ := he
      simp only [List.map_cons, CVs, List.cons.injEq] at h
      obtain ⟨u', ur, ⟨rfl, rfl⟩, h1, h2⟩ := h
      simp only [fillV] at hf
      cases hp : place i with
      | none => rw [hp] at hf; cases hf
      | some q =>
        obtain ⟨off, size⟩ := q
        rw [hp] at hf
        simp only at hf
        split at hf
        · rename_i hc'
          obtain ⟨c1, c2, c3⟩ := hc'
          obtain ⟨k1, _⟩ := h1.cells c1
          have hl : u.cells.size = size := by have := k1.len; simp only [Array.length_toList] at this; omega
          have hcl : vs.size = cs.length := by have := hc.len; simpa using this
          have hfs := fold_set x w v.cells u.cells.toList 0 off cs vs k1 hc
          obtain ⟨vs', e1, e2, e3⟩ := fill_ok x w place ps us _ cs' _ he h2 (by simpa using hfs.1) hf
          refine ⟨vs', ?_, e2, by rw [e3]; exact hfs.2⟩
          simp only [Instr.fill, hp]
          rw [if_neg (by simp; omega)]
          rw [← e1]
          congr 1
          rw [← Array.foldl_toList]
          simp [Array.toList_zipIdx]
        · cases hf

/-- what a cell of an aggregate is -/
def ldV (q : Bool × Nat) (cs : List V) (off : Nat) : Option V :=
  if q.1 then (if off + q.2 ≤ cs.length then some (.agg ((cs.drop off).take q.2)) else none) else cs[off]?
theorem load_ok {t : TypeId} {q : Bool × Nat} {b o : Nat} {cs : List V} {off : Nat} {v : V} (hq : tOne P t = some q) (hc : ∀ j v, cs[j]? = some v → ∃ u, w.cell? ⟨b, o + j, none⟩ = some u ∧ CV x w v u) (hv : ldV q cs off = some v) :
    ∃ u, (loadVar t ⟨b, o + off, none⟩).run P w = .ok u w ∧ CV x w v u := by
  obtain ⟨ag, n⟩ := q
  obtain ⟨h1, h2, _⟩ := tOne_run (w := w) hq
  unfold ldV at hv
  cases ag with
  | false =>
    simp only [Bool.false_eq_true, if_false] at hv
    obtain ⟨u, k1, k2⟩ := hc off v hv
    refine ⟨u, ?_, k2⟩
    simp [loadVar, h1, load, Sem.run, k1]
  | true =>
    simp only [if_true] at hv
    split at hv
    · rename_i hle
      cases hv
      have hex : ∀ j, ∃ u, j < n → w.cell? ⟨b, o + off + j, none⟩ = some u ∧ CV x w (cs.getD (off + j) .any) u := by
        intro j
        by_cases hj : j < n
        · obtain ⟨u, k1, k2⟩ := hc (off + j) (cs.getD (off + j) .any) (by simp [List.getD, show off + j < cs.length by omega])
          exact ⟨u, fun _ => ⟨by rw [Nat.add_assoc]; exact k1, k2⟩⟩
        · exact ⟨undef, fun h => absurd h hj⟩
      let f : Nat → Value := fun j => (hex j).choose
      have hf : ∀ j, j < n → w.cell? ⟨b, o + off + j, none⟩ = some (f j) ∧ CV x w (cs.getD (off + j) .any) (f j) := fun j hj => (hex j).choose_spec hj
      have hl := run_loadCells_list (P := P) w ⟨b, o + off, none⟩ ((List.range n).map f) (fun j u hu => by
        rw [add_mk]
        have hj : j < n := by have := (List.getElem?_eq_some_iff.1 hu).1; simpa using this
        rw [(hf j hj).1]
        simp [hj] at hu
        rw [hu])
      refine ⟨.agg ((List.range n).map f).toArray, ?_, ?_⟩
      · simp only [List.length_map, List.length_range] at hl
        simp [loadVar, h1, h2, hl]
      · simp only [CV]
        refine ⟨_, rfl, CVs.of_get (by simp; omega) fun i v' u' hi hu => ?_⟩
        simp only [List.getElem?_map] at hu
        have hin : i < n := by
          rcases Nat.lt_or_ge i n with h | h
          · exact h
          · simp [List.getElem?_eq_none (by simpa using h : (List.range n).length ≤ i)] at hu
        simp [hin] at hu
        subst hu
        have := (hf i hin).2
        rw [List.getElem?_take, if_pos hin, List.getElem?_drop] at hi
        simpa [List.getD, hi] using this
    · cases hv
end Go.Proofs.YtnpenchciinmmaaGreat

/-
  The abstract machine: its operations, but for calls and append; each does in memory what it says.
-/
namespace Go.Proofs.YtnpenchciinmmaaGreat
open Go.RowKit
set_option linter.unusedSimpArgs false
set_option linter.unusedVariables false

inductive Pl where
  | fail
  | val (v : V)
  | rd (k : Nat) (g : O → Option V)
  | wr (k : Nat) (g : O → Option (O × V))
  | new (o : O) (mk : Nat → V)
def Pl.ap (H : Heap) (k0 : Nat) : Pl → Option (V × Option (Nat × O))
  | .fail => none
  | .val v => some (v, none)
  | .rd k g => match H k with
    | some o => match g o with
      | some v => some (v, none)
      | none => none
    | none => none
  | .wr k g => match H k with
    | some o => match g o with
      | some (o', v) => some (v, some (k, o'))
      | none => none
    | none => none
  | .new o mk => some (mk k0, some (k0, o))
def Heap.upd (H : Heap) : Option (Nat × O) → Heap
  | none => H
  | some (k, o) => H.set k o

def ofOpt : Option V → Pl
  | some v => .val v
  | none => .fail

def vRows : V → Option (List (List C))
  | .c (.sl r) => some r
  | .full r => some r
  | .gr _ _ r => some r
  | _ => none
def toC : V → Option C
  | .c c => some c
  | .full r => some (.sl r)
  | .gr _ _ r => some (.sl r)
  | .fn f [] => some (.fnc f)
  | _ => none
def toCs : List V → Option (List C)
  | [] => some []
  | v :: r => match toC v, toCs r with
    | some c, some l => some (c :: l)
    | _, _ => none

/-- bits of both -/
def orI (k : IntKind) (a b : Int) : Int := k.wrap (BitVec.ofInt k.bits a ||| BitVec.ofInt k.bits b).toNat
def tBool (P : Program) (t : TypeId) : Bool :=
  match P.underlying t with
  | some .bool => true
  | _ => false
def abin (tb : Bool) (op : BinOp) : V → V → Option V
  | .c (.int k a), .c (.int k' b) => if k = k' then match op with
      | .add => some (.c (.int k (k.wrap (a + b))))
      | .sub => some (.c (.int k (k.wrap (a - b))))
      | .mul => some (.c (.int k (k.wrap (a * b))))
      | .quo => if b = 0 then none else some (.c (.int k (k.wrap (a.tdiv b))))
      | .rem => if b = 0 then none else some (.c (.int k (k.wrap (a.tmod b))))
      | .eql => some (.c (.bool (decide (a = b))))
      | .neq => some (.c (.bool (!decide (a = b))))
      | .lss => some (.c (.bool (decide (a < b))))
      | .leq => some (.c (.bool (decide (a ≤ b))))
      | .gtr => some (.c (.bool (decide (b < a))))
      | .geq => some (.c (.bool (decide (b ≤ a))))
      | .or => some (.c (.int k (orI k a b)))
      | _ => none
      else none
  | .c (.str a), .c (.str b) => match op with
      | .eql => some (.c (.bool (decide (a = b))))
      | .neq => some (.c (.bool (!decide (a = b))))
      | .add => if a.size + b.size ≤ maxLen then some (.c (.str (a ++ b))) else none
      | _ => none
  | .c (.bool a), .c (.bool b) => match op with
      | .eql => if tb then some (.c (.bool (a == b))) else none
      | .neq => if tb then some (.c (.bool (!(a == b)))) else none
      | _ => none
  | _, _ => none
def aun (op : UnOp) : V → Option V
  | .c (.int k n) => match op with
    | .neg => some (.c (.int k (k.wrap (0 - n))))
    | _ => none
  | .c (.bool b) => match op with
    | .not => some (.c (.bool !b))
    | _ => none
  | _ => none
def aconv (P : Program) (dst : TypeId) : V → Option V
  | .c (.int _ n) => match tInt P dst with
    | some k => some (.c (.int k (k.wrap n)))
    | none => none
  | _ => none
def aidx (P : Program) (t : TypeId) : V → V → Option V
  | .c (.str s), .c (.int _ i) => if tStr P t then (if 0 ≤ i then (s.data.toList[i.toNat]?).map fun b => .c (.int .u8 b.toNat) else none) else none
  | .agg l, .c (.int _ i) => match tArr P t with
    | some (n, s, ag) => if 0 ≤ i ∧ i < n then ldV (ag, s) l (i.toNat * s) else none
    | none => none
  | _, _ => none
def aidxA (P : Program) (t : TypeId) (x : V) : V → Option V
  | .c (.int _ i) => match x with
    | .own k off len es => match tElem P t with
      | some (_, es', _) => if es' = es ∧ 0 ≤ i ∧ i < len then some (.ptr k (off + i.toNat * es)) else none
      | none => none
    | .ptr k off => match tArr P t with
      | some (n, s, _) => if 0 ≤ i ∧ i < n then some (.ptr k (off + i.toNat * s)) else none
      | none => none
    | .cp row off => match tArr P t with
      | some (n, s, _) => if 0 ≤ i ∧ i < n then some (.cp row (off + i.toNat * s)) else none
      | none => none
    | x => match vRows x, tElem P t with
      | some rows, some (_, es, _) => if 0 ≤ i ∧ i < rows.length then match rows[i.toNat]? with
          | some r => if r.length = es then some (.cp r 0) else none
          | none => none
        else none
      | _, _ => none
  | _ => none
def afldA (P : Program) (s : TypeId) (f : Nat) : V → Option V
  | .ptr k off => match tField P s f with
    | some (o, n, _) => if n = 0 then none else some (.ptr k (off + o))
    | none => none
  | .cp row off => match tField P s f with
    | some (o, n, _) => if n = 0 then none else some (.cp row (off + o))
    | none => none
  | _ => none
def alen (P : Program) (t : TypeId) : V → Option V
  | .c (.str s) => if tStr P t then some (.c (.int .i64 s.size)) else none
  | .own _ _ len _ => if tSl P t then some (.c (.int .i64 len)) else none
  | x => match vRows x with
    | some rows => if tSl P t then some (.c (.int .i64 rows.length)) else none
    | none => none
def amx (mx : Bool) : Int → IntKind → List V → Option V
  | a, k, [] => some (.c (.int k a))
  | a, k, .c (.int k' b) :: r => if k = k' then amx mx (if mx then (if a < b then b else a) else (if b < a then b else a)) k r else none
  | _, _, _ => none
def amax (mx : Bool) : List V → Option V
  | .c (.int k a) :: r => amx mx a k r
  | _ => none
def asl (P : Program) (t : TypeId) (x : V) (lo hi : Option V) : Option V :=
  match lo.getD (.c (.int .i64 0)), x with
  | .c (.int _ l), .c (.str s) => match hi.getD (.c (.int .i64 s.size)) with
    | .c (.int _ h) => if tStr P t = true ∧ 0 ≤ l ∧ l ≤ h ∧ h ≤ s.size then some (.c (.str (s.extract l.toNat h.toNat))) else none
    | _ => none
  | .c (.int _ l), x => match vRows x with
    | some rows => match hi.getD (.c (.int .i64 rows.length)), tElem P t with
      | .c (.int _ h), some (_, es, _) => if (rows.all fun r => r.length == es) = true ∧ 0 ≤ l ∧ l ≤ h ∧ h ≤ rows.length then some (.c (.sl ((rows.take h.toNat).drop l.toNat))) else none
      | _, _ => none
    | none => none
  | _, _ => none
/-- a slice literal, every place written in order -/
def aparts (e : Operand → V) (es : Nat) : Nat → List (Nat × Operand) → Option (List (List C))
  | _, [] => some []
  | i, (j, x) :: r => if j = i ∧ (e x).flat = true ∧ (e x).cells.length = es then match toCs (e x).cells, aparts e es (i + 1) r with
      | some row, some rows => some (row :: rows)
      | _, _ => none
    else none

def aop (P : Program) (e : Operand → V) : Op → Pl
  | .move x => .val (e x)
  | .assign x => .val (e x)
  | .pick c a b => match e c with
    | .c (.bool t) => .val (if t then e a else e b)
    | _ => .fail
  | .alloc ty => match tZero P ty with
    | some z => .new (.box ty z false) fun k => .ptr k 0
    | none => .fail
  | .box ty x => if (e x).flat then .new (.box ty (e x).cells false) fun k => .ptr k 0 else .fail
  | .build t parts => match tZero P t, tPlaces P t with
    | some z, some pl => match fillV pl z (parts.toList.map fun p => (p.1, e p.2)) with
      | some cs => .val (.agg cs)
      | none => .fail
    | _, _ => .fail
  | .buildSlice t len parts => match tElem P t with
    | some (_, es, _) => if 0 < len * es ∧ len * es ≤ 2 ^ 24 ∧ parts.toList.length = len then match aparts e es 0 parts.toList with
        | some rows => .val (.full rows)
        | none => .fail
      else .fail
    | none => .fail
  | .load t a => match tOne P t, e a with
    | some q, .ptr k off => .rd k fun
      | .box _ cs _ => ldV q cs off
      | _ => none
    | some q, .cp row off => ofOpt (ldV q (row.map V.c) off)
    | _, _ => .fail
  | .store t a y => match tOne P t, e a with
    | some q, .ptr k off => .wr k fun
      | .box ty cs false => if (e y).flat = true ∧ (e y).cells.length = q.2 ∧ off + q.2 ≤ cs.length then some (.box ty (putL cs off (e y).cells) false, .any) else none
      | _ => none
    | _, _ => .fail
  | .nilCheck x => match e x with
    | .ptr k off => .val (.ptr k off)
    | .cp row off => .val (.cp row off)
    | _ => .fail
  | .binOp op t a b _ => ofOpt (abin (tBool P t) op (e a) (e b))
  | .unOp op _ a => ofOpt (aun op (e a))
  | .convert s d a => match tOne P s with
    | some _ => ofOpt (aconv P d (e a))
    | none => .fail
  | .makeFunc (.func f) first caps => if first.size = 0 then .val (.fn f (caps.toList.map e)) else .fail
  | .makeSlice t l c => match tElem P t, e l, e c with
    | some (ty, es, by_), .c (.int _ l), .c (.int _ c) => match tZero P ty with
      | some z => if l = c ∧ 0 ≤ l ∧ (by_ : Int) * l ≤ 281474976710656 ∧ l ≤ 9223372036854775807 then .new (.box ty (List.replicate l.toNat z).flatten false) fun k => .own k 0 l.toNat es else .fail
      | none => .fail
    | _, _, _ => .fail
  | .slice t y lo hi none => ofOpt (asl P t (e y) (lo.map e) (hi.map e))
  | .fieldAddr s y f => ofOpt (afldA P s f (e y))
  | .field s y f => match tField P s f, e y with
    | some (o, n, ag), .agg l => ofOpt (ldV (ag, n) l o)
    | _, _ => .fail
  | .indexAddr t y i => ofOpt (aidxA P t (e y) (e i))
  | .index t y i => ofOpt (aidx P t (e y) (e i))
  | .extract y i => match e y with
    | .tup l => ofOpt l[i]?
    | _ => .fail
  | .call ⟨.builtin .len, args, tys⟩ => match args.toList, tys.toList with
    | [y], [t] => ofOpt (alen P t (e y))
    | _, _ => .fail
  | .call ⟨.builtin .max, args, _⟩ => ofOpt (amax true (args.toList.map e))
  | .call ⟨.builtin .min, args, _⟩ => ofOpt (amax false (args.toList.map e))
  | _ => .fail

def isBS : Op → Bool
  | .buildSlice _ _ _ => true
  | .call ⟨.builtin .append, _, _⟩ => true
  | _ => false
/-- the operation runs, and does what the abstract machine says -/
def RunOk (P : Program) (o : Oper) (a : Act) (S0 : Area) (w0 : Bs) (x : Cx) (w : World) (H : Heap) (v : V) (t : Option (Nat × O)) : Prop :=
  ∃ nx w' x' u, (execOp a.eval o).run P w = .ok nx w' ∧ (nx = .value u ∨ (nx = .skip ∧ u = undef)) ∧ CV x' w' v u ∧ Good S0 w0 x' w' (H.upd t) ∧ Ext x x' w w' ∧ (∀ k, x'.dom k → x.dom k ∨ ∃ o, t = some (k, o)) ∧ (isBS o.op = false → x'.S = x.S)

variable {P : Program} {S0 : Area} {w0 : Bs} {x : Cx} {w : World} {H : Heap} {a : Act} {o : Oper} {e : Operand → V} {v : V}

theorem RunOk.pure (g : Good S0 w0 x w H) {u : Value} (hr : (execOp a.eval o).run P w = .ok (.value u) w) (hv : CV x w v u) : RunOk P o a S0 w0 x w H v none :=
  ⟨_, w, x, u, hr, .inl rfl, hv, g, Ext.refl x w, fun _ h => .inl h, fun _ => rfl⟩

theorem wf_wrap' (k : IntKind) (n : Int) : (Lit.int k (k.wrap n)).wf = true := by
  have := wrap_within k n
  simp [Lit.wf, this.1, this.2]
theorem wf_len {n : Nat} (h : n ≤ maxLen) : (Lit.int .i64 (n : Int)).wf = true := by
  have h1 : IntKind.i64.min = -9223372036854775808 := by decide +kernel
  have h2 : IntKind.i64.max = 9223372036854775807 := by decide +kernel
  unfold maxLen at h
  simp [Lit.wf, h1, h2]
  omega
theorem wrap_of_wf {k : IntKind} {n : Int} (h : (Lit.int k n).wf = true) : k.wrap n = n := by
  simp only [Lit.wf, Bool.and_eq_true, decide_eq_true_eq] at h
  cases k <;> simp [IntKind.wrap, IntKind.min, IntKind.max, IntKind.bits, IntKind.signed] at h ⊢ <;> omega
theorem tmod_wf {k : IntKind} {a b : Int} (ha : (Lit.int k a).wf = true) : (Lit.int k (a.tmod b)).wf = true := by
  simp only [Lit.wf, Bool.and_eq_true, decide_eq_true_eq] at ha ⊢
  have h0 : k.min ≤ 0 ∧ 0 ≤ k.max := by cases k <;> decide +kernel
  have h2 : (a.tmod b).natAbs ≤ a.natAbs := by rw [Int.natAbs_tmod]; exact Nat.mod_le _ _
  rcases Int.lt_or_le a 0 with h | h
  · have h1 := Int.tmod_nonneg (a := -a) b (by omega)
    rw [Int.neg_tmod] at h1
    omega
  · have h1 := Int.tmod_nonneg (a := a) b h
    omega
theorem bytes_eq {a b : ByteArray} : (a.toList == b.toList) = decide (a = b) := by
  rw [ByteArray.toList_eq, ByteArray.toList_eq]
  by_cases h : a = b
  · subst h; simp
  · have : ¬ a.data = b.data := fun e => h (by cases a; cases b; simpa using e)
    simp [h, this]

theorem run_or (k : IntKind) (ty : TypeId) (n m : Int) (w : World) : (binOp .or ty (.int k n) (.int k m)).run P w = .ok (.int k (orI k n m)) w := by
  have e : binOp .or ty (.int k n) (.int k m) = if k ≠ k then stuck "BinOp: operands of different kinds" else pure (.int k (orI k n m)) := rfl
  rw [e, if_neg (by simp)]
  rfl
theorem run_beq {ty : TypeId} (s t : Bool) (w : World) (h : P.underlying ty = some .bool) : (binOp .eql ty (.bool s) (.bool t)).run P w = .ok (.bool (s == t)) w ∧ (binOp .neq ty (.bool s) (.bool t)).run P w = .ok (.bool (!(s == t))) w := by
  have e : (Op.equal ty (.bool s) (.bool t)).run P w = .ok (s == t) w := by
    unfold Op.equal
    show (Op.equalIn (9999 + 1) ty _ _).run P w = _
    unfold Op.equalIn
    have hu : (underlying ty).run P w = .ok .bool w := by simp [Go.underlying, program, Sem.run, h]
    simp [hu]
  have e1 : binOp .eql ty (.bool s) (.bool t) = (do let b ← Op.equal ty (.bool s) (.bool t); pure (.bool b)) := rfl
  have e2 : binOp .neq ty (.bool s) (.bool t) = (do let b ← Op.equal ty (.bool s) (.bool t); pure (.bool (!b))) := rfl
  rw [e1, e2]
  simp [e]
theorem ok_binOp (g : Good S0 w0 x w H) {op : BinOp} {ty ty' : TypeId} {y z : Operand} (ho : o.op = .binOp op ty y z ty') (hy : CV x w (e y) (a.eval y)) (hz : CV x w (e z) (a.eval z)) (h : abin (tBool P ty) op (e y) (e z) = some v) : RunOk P o a S0 w0 x w H v none := by
  generalize e y = Y at *
  generalize e z = Z at *
  unfold abin at h
  split at h
  · rename_i k n k' m
    simp only [CV, RdC] at hy hz
    obtain ⟨hy, wy⟩ := hy
    obtain ⟨hz, wz⟩ := hz
    split at h
    · rename_i hk
      subst hk
      cases op <;> simp only at h <;> first
        | (cases h; refine RunOk.pure g (u := .int k (orI k n m)) (by simp [execOp, ho, eqGuard, run_or, hy, hz]) ?_; simp only [CV, RdC]; exact ⟨trivial, wf_wrap' _ _⟩; done)
        | (cases h; refine RunOk.pure g (u := .bool (decide (n = m))) (by simp [execOp, ho, eqGuard, binOp, Op.intCmp, hy, hz, BEq.beq]) ?_; simp only [CV, RdC]; done)
        | (cases h; refine RunOk.pure g (u := .bool (!decide (n = m))) (by simp [execOp, ho, eqGuard, binOp, Op.intCmp, hy, hz, bne, BEq.beq]) ?_; simp only [CV, RdC]; done)
        | (cases h; refine RunOk.pure g (u := _) (by simp [execOp, ho, eqGuard, binOp, Op.intArith, Op.intCmp, hy, hz]; rfl) ?_; first | (simp only [CV, RdC]; exact ⟨trivial, wf_wrap' _ _⟩) | (simp only [CV, RdC]; done) | (simp only [CV, RdC]; congr 1; simp [bne]))
        | (split at h
           · cases h
           · rename_i hb
             cases h
             refine RunOk.pure g (u := _) (by simp [execOp, ho, eqGuard, binOp, Op.intDiv, hy, hz, hb]; rfl) ?_
             first | (simp only [CV, RdC]; exact ⟨trivial, wf_wrap' _ _⟩) | (simp only [CV, RdC, wrap_of_wf (tmod_wf wy)]; exact ⟨trivial, tmod_wf wy⟩))
        | cases h
    · cases h
  · rename_i s t
    simp only [CV, RdC] at hy hz
    obtain ⟨hy, wy⟩ := hy
    obtain ⟨hz, wz⟩ := hz
    cases op <;> simp only at h <;> first
      | (cases h; refine RunOk.pure g (u := _) (by simp [execOp, ho, eqGuard, binOp, Op.stringOp, hy, hz, bytes_eq]; rfl) ?_; simp only [CV, RdC]; done)
      | (split at h
         · rename_i hl
           cases h
           have hi : IntKind.i64.max = 9223372036854775807 := by decide +kernel
           unfold maxLen at hl
           refine RunOk.pure g (u := .string (s ++ t)) (by simp [execOp, ho, eqGuard, binOp, Op.stringOp, hy, hz, hi]; omega) ?_
           simp only [CV, RdC]
           exact ⟨trivial, by rw [ByteArray.size_append]; unfold maxLen; omega⟩
         · cases h)
      | cases h
  · rename_i s t
    simp only [CV, RdC] at hy hz
    have hb : ∀ {r : Bool}, (if tBool P ty = true then some (V.c (.bool r)) else none) = some v → P.underlying ty = some .bool ∧ v = .c (.bool r) := fun hr => by
      split at hr
      · rename_i e
        cases hr
        unfold tBool at e
        split at e
        · rename_i e2; exact ⟨e2, rfl⟩
        · cases e
      · cases hr
    cases op <;> simp only at h <;> first
      | (obtain ⟨e, rfl⟩ := hb h
         refine RunOk.pure g (u := _) (by simp [execOp, ho, eqGuard, run_beq _ _ _ e, hy, hz]; rfl) ?_; simp only [CV, RdC]; done)
      | cases h
  · cases h

theorem ok_unOp (g : Good S0 w0 x w H) {op : UnOp} {ty : TypeId} {y : Operand} (ho : o.op = .unOp op ty y) (hy : CV x w (e y) (a.eval y)) (h : aun op (e y) = some v) : RunOk P o a S0 w0 x w H v none := by
  generalize e y = Y at *
  unfold aun at h
  split at h
  · rename_i k n
    simp only [CV, RdC] at hy
    split at h
    · cases h
      refine RunOk.pure g (u := .int k (k.wrap (0 - n))) (by simp [execOp, ho, Op.unary, Op.intArith, hy.1]) ?_
      simp only [CV, RdC]
      exact ⟨trivial, wf_wrap' _ _⟩
    · cases h
  · simp only [CV, RdC] at hy
    split at h
    · cases h
      refine RunOk.pure g (u := _) (by simp [execOp, ho, Op.unary, hy]; rfl) ?_
      simp only [CV, RdC]
    · cases h
  · cases h

theorem ok_convert (g : Good S0 w0 x w H) {s d : TypeId} {y : Operand} (hs : ∃ ds, P.underlying s = some ds) (ho : o.op = .convert s d y) (hy : CV x w (e y) (a.eval y)) (h : aconv P d (e y) = some v) : RunOk P o a S0 w0 x w H v none := by
  generalize e y = Y at *
  unfold aconv at h
  split at h
  · simp only [CV, RdC] at hy
    obtain ⟨ds, hs⟩ := hs
    unfold tInt at h
    cases hu : P.underlying d with
    | none => rw [hu] at h; cases h
    | some dd =>
      rw [hu] at h
      cases dd <;> simp only at h <;> try (cases h; done)
      cases h
      refine RunOk.pure g (u := _) (by simp [execOp, ho, convert, run_underlying hs, run_underlying hu, Conv.intToInt, hy.1]; rfl) ?_
      simp only [CV, RdC]
      exact ⟨trivial, wf_wrap' _ _⟩
  · cases h
end Go.Proofs.YtnpenchciinmmaaGreat

/-
  The abstract machine: loads, stores, boxes, aggregates, slices: each does in memory what it says.
-/
namespace Go.Proofs.YtnpenchciinmmaaGreat
open Go.RowKit
set_option linter.unusedSimpArgs false
set_option linter.unusedVariables false

variable {P : Program} {S0 : Area} {w0 : Bs} {x : Cx} {w : World} {H : Heap} {a : Act} {o : Oper} {e : Operand → V} {v : V}

theorem ok_load_ptr (g : Good S0 w0 x w H) {t : TypeId} {y : Operand} (ho : o.op = .load t y) {q : Bool × Nat} (hq : tOne P t = some q) {k off : Nat} (hy : CV x w (.ptr k off) (a.eval y)) {ty : TypeId} {cs : List V} {fr : Bool} (hH : H k = some (.box ty cs fr)) (h : ldV q cs off = some v) : RunOk P o a S0 w0 x w H v none := by
  obtain ⟨_, hok⟩ := g.ok k _ hH
  obtain ⟨_, _, vs, hb, hn, hcs⟩ := hok
  simp only [CV] at hy
  obtain ⟨_, _, hy⟩ := hy
  obtain ⟨u, hr, hv⟩ := load_ok (x := x) (w := w) (b := (x.loc k).b) (o := 0) hq (fun j v hj => by
    obtain ⟨u, h1, h2⟩ := hcs.get j v hj
    refine ⟨u, ?_, h2⟩
    rw [Nat.zero_add, cell_of_row w _ j vs ty (0, 0) hb]
    simpa using h1) h
  refine RunOk.pure g (u := u) ?_ hv
  rw [Nat.zero_add] at hr
  simp [execOp, ho, Instr.loadAt, hy, Instr.sureAddr, hr]
theorem ok_load_cp (g : Good S0 w0 x w H) {t : TypeId} {y : Operand} (ho : o.op = .load t y) {q : Bool × Nat} (hq : tOne P t = some q) {row : List C} {off : Nat} (hy : CV x w (.cp row off) (a.eval y)) (h : ldV q (row.map V.c) off = some v) : RunOk P o a S0 w0 x w H v none := by
  simp only [CV] at hy
  obtain ⟨b, ofs, hy, hr⟩ := hy
  obtain ⟨u, hr, hv⟩ := load_ok (x := x) (w := w) (b := b) (o := ofs) hq (fun j v hj => by
    rw [List.getElem?_map, Option.map_eq_some_iff] at hj
    obtain ⟨c, hc, rfl⟩ := hj
    obtain ⟨u, h1, h2⟩ := hr.get hc
    exact ⟨u, h1, by simpa only [CV] using h2⟩) h
  refine RunOk.pure g (u := u) ?_ hv
  simp [execOp, ho, Instr.loadAt, hy, Instr.sureAddr, hr]

theorem run_storeCells_at {g : Nat} {t : TypeId} {off : Nat} : ∀ (vs : List Value) (i : Nat) (w : World) (old : Array Value), Blk w g t old → off + i + vs.length ≤ old.size → (∀ v ∈ vs, v.oneCell' = true) →
    (storeCells ⟨g, off, none⟩ vs i).run P w = .ok () (w.setRow g ((vs.zipIdx i).foldl (fun (c : Array Value) (p : Value × Nat) => c.setIfInBounds (off + p.2) p.1) old)) := by
  intro vs
  induction vs with
  | nil => intro i w old hb _ _; simp [storeCells, setRow_self w g old t (0, 0) hb]
  | cons v r ih =>
    intro i w old hb hi hv
    have hlt : off + i < old.size := by simp at hi; omega
    have hc : w.cell? ⟨g, off + i, none⟩ = some (old[off + i]) := by rw [hb.cell]; simp [hlt]
    have hst : (store ⟨g, off + i, none⟩ v .plain).run P w = .ok () (w.setRow g (old.setIfInBounds (off + i) v)) := by
      rw [run_store P _ _ v .plain (hv v (by simp)), setCell_eq_setRow w g (off + i) old t (0, 0) v hb]
      simp [hc, hb.frozen]
    unfold storeCells
    rw [Sem.run_bind, add_mk, hst]
    simp only [Result.andThen_ok]
    rw [ih (i + 1) _ (old.setIfInBounds (off + i) v) (hb.set_ _) (by simp at hi ⊢; omega) (fun u hu => hv u (by simp [hu])), setRow_setRow]
    simp [List.zipIdx_cons]
theorem ok_store (g : Good S0 w0 x w H) {t : TypeId} {y z : Operand} (ho : o.op = .store t y z) {q : Bool × Nat} (hq : tOne P t = some q) {k off : Nat} (hy : CV x w (.ptr k off) (a.eval y)) (hz : CV x w (e z) (a.eval z)) {ty : TypeId} {cs : List V} (hH : H k = some (.box ty cs false))
    (h1 : (e z).flat = true) (h2 : (e z).cells.length = q.2) (h3 : off + q.2 ≤ cs.length) : RunOk P o a S0 w0 x w H .any (some (k, .box ty (putL cs off (e z).cells) false)) := by
  obtain ⟨hd, hok⟩ := g.ok k _ hH
  obtain ⟨_, _, vs, hb, hn, hcs⟩ := hok
  simp only [CV] at hy
  obtain ⟨_, _, hy⟩ := hy
  obtain ⟨c1, c2⟩ := hz.cells h1
  obtain ⟨_, hs, _⟩ := tOne_run (w := w) (P := P) (ag := q.1) (n := q.2) hq
  have hvl : vs.size = cs.length := by have := hcs.len; simpa using this
  have hul : (a.eval z).cells.size = q.2 := by have := c1.len; simp only [Array.length_toList] at this; omega
  have hf := fold_set x w (e z).cells (a.eval z).cells.toList 0 off cs vs c1 hcs
  have hr := run_storeCells_at (P := P) (t := ty) (off := off) (a.eval z).cells.toList 0 w vs hb (by simp; omega) c2
  obtain ⟨g', he⟩ := g.writeBox k ty cs (putL cs off (e z).cells) hH vs _ hb hf.2 hf.1
  refine ⟨.skip, _, x, undef, ?_, .inr ⟨rfl, rfl⟩, by simp only [CV], g', he, fun _ h => .inl h, fun _ => rfl⟩
  simp [execOp, ho, Instr.storeAt, hy, Instr.sureAddr, storeVar, hs, hul, hr]

theorem ok_new (g : Good S0 w0 x w H) {ty : TypeId} {cs : List V} {vs : Array Value} (hv : CVs x w cs vs.toList) (k0 : Nat) (hk : ¬ x.dom k0) (hr : (execOp a.eval o).run P w = .ok (.value (.pointer (some ⟨w.heap.size, 0, none⟩))) (w.alloc (.cells vs ty))) :
    RunOk P o a S0 w0 x w H (.ptr k0 0) (some (k0, .box ty cs false)) := by
  obtain ⟨g', he⟩ := g.newBox k0 hk ty cs vs hv
  refine ⟨_, _, _, _, hr, .inl rfl, ?_, g', he, fun k h => h.elim .inl fun e => .inr ⟨.box ty cs false, by rw [e]⟩, fun _ => rfl⟩
  simp only [CV, Cx.mk1, if_true]
  exact ⟨.inr trivial, trivial, trivial⟩
theorem ok_box (g : Good S0 w0 x w H) {ty : TypeId} {y : Operand} (ho : o.op = .box ty y) (hy : CV x w (e y) (a.eval y)) (hf : (e y).flat = true) (k0 : Nat) (hk : ¬ x.dom k0) : RunOk P o a S0 w0 x w H (.ptr k0 0) (some (k0, .box ty (e y).cells false)) := by
  refine ok_new g (hy.cells hf).1 k0 hk ?_
  simp [execOp, ho, Instr.box, newVar, newRow]
theorem tZero_run {t : TypeId} {z : List V} (h : tZero P t = some z) : ∃ zv, (zeroValue t).run P w = .ok zv w ∧ CVs x w z zv.cells.toList ∧ ∃ i, P.info? t = some i ∧ i.zero = some zv := by
  unfold tZero at h
  cases hi : P.info? t with
  | none => simp [hi] at h
  | some i =>
    simp only [hi, Option.map_eq_some_iff] at h
    obtain ⟨zv, hz, rfl⟩ := h
    exact ⟨zv, by simp [zeroValue, typeInfo, hi, hz], v1s_ok x w _, i, rfl, hz⟩
theorem ok_alloc (g : Good S0 w0 x w H) {ty : TypeId} (ho : o.op = .alloc ty) {z : List V} (hz : tZero P ty = some z) (k0 : Nat) (hk : ¬ x.dom k0) : RunOk P o a S0 w0 x w H (.ptr k0 0) (some (k0, .box ty z false)) := by
  obtain ⟨zv, h1, h2, _⟩ := tZero_run (x := x) (w := w) hz
  refine ok_new g h2 k0 hk ?_
  simp [execOp, ho, Instr.alloc, h1, newVar, newRow]

theorem parts_map (a : Act) (parts : Array (Nat × Operand)) : (parts.map fun (i, y) => (i, a.eval y)).toList = parts.toList.map fun p => (p.1, a.eval p.2) := by simp
theorem CVs.of_map {x : Cx} {w : World} {e : Operand → V} {a : Act} : ∀ {l : List Operand}, (∀ y ∈ l, CV x w (e y) (a.eval y)) → CVs x w (l.map e) (l.map a.eval)
  | [], _ => by simp only [List.map_nil, CVs]
  | y :: l, h => by simp only [List.map_cons, CVs]; exact ⟨_, _, rfl, h y (by simp), CVs.of_map fun y hy => h y (by simp [hy])⟩
theorem ok_build (g : Good S0 w0 x w H) {t : TypeId} {parts : Array (Nat × Operand)} (ho : o.op = .build t parts) (hp : ∀ p ∈ parts.toList, CV x w (e p.2) (a.eval p.2)) {z : List V} {pl : Nat → Option (Nat × Nat)} {cs : List V} (hz : tZero P t = some z) (hpl : tPlaces P t = some pl)
    (h : fillV pl z (parts.toList.map fun p => (p.1, e p.2)) = some cs) : RunOk P o a S0 w0 x w H (.agg cs) none := by
  obtain ⟨zv, h1, h2, i, hi, hzi⟩ := tZero_run (x := x) (w := w) hz
  obtain ⟨vs, k1, k2, _⟩ := fill_ok x w pl (parts.toList.map fun p => (p.1, e p.2)) (parts.toList.map fun p => (p.1, a.eval p.2)) z cs zv.cells (by simp) (by
    simp only [List.map_map]
    have := CVs.of_map (x := x) (w := w) (e := e) (a := a) (l := parts.toList.map (·.2)) (by
      intro y hy
      obtain ⟨p, hp1, rfl⟩ := List.mem_map.1 hy
      exact hp p hp1)
    simp only [List.map_map] at this
    exact this) h2 h
  have hb : P.built t (parts.map fun (i, y) => (i, a.eval y)).toList = some vs := by
    rw [parts_map]
    unfold Program.built
    unfold tPlaces at hpl
    cases hu : P.underlying t with
    | none => simp [hu] at hpl
    | some d =>
      simp only [hi, hzi]
      cases d <;> simp only [hu] at hpl <;> try (cases hpl; done)
      · simp only [Option.map_eq_some_iff] at hpl
        obtain ⟨ie, hie, rfl⟩ := hpl
        simp only [hie, hzi]
        exact k1
      · simp only [Option.map_eq_some_iff] at hpl
        obtain ⟨pls, hpls, rfl⟩ := hpl
        simp only [hpls, hzi, List.getElem?_toArray]
        exact k1
  refine RunOk.pure g (u := .agg vs) ?_ (by simp only [CV]; exact ⟨vs, rfl, k2⟩)
  simp only [execOp, ho]
  simp only [Sem.run_bind, run_build w t _ vs hb, Result.andThen_ok]
  rfl

theorem fieldAt_ok {s : TypeId} {f off n : Nat} {ag : Bool} (h : tField P s f = some (off, n, ag)) : ∃ fields fd, P.underlying s = some (.struct fields) ∧ fields[f]? = some fd ∧ fd.offset = off ∧ tOne P fd.type = some (ag, n) := by
  unfold tField at h
  cases hu : P.underlying s with
  | none => simp [hu] at h
  | some d =>
    rw [hu] at h
    cases d <;> simp only at h <;> try (cases h; done)
    rename_i fields
    cases hf : fields[f]? with
    | none => simp [hf] at h
    | some fd =>
      rw [hf] at h
      simp only at h
      cases ht : tOne P fd.type with
      | none => simp [ht] at h
      | some q =>
        rw [ht] at h
        simp only [Option.some.injEq, Prod.mk.injEq] at h
        obtain ⟨rfl, rfl, rfl⟩ := h
        exact ⟨fields, fd, rfl, hf, rfl, ht⟩
theorem run_fieldAt {s : TypeId} {f off n : Nat} {ag : Bool} (h : tField P s f = some (off, n, ag)) (hn : n ≠ 0) (b ofs : Nat) : (Instr.fieldAt s (.pointer (some ⟨b, ofs, none⟩)) f).run P w = .ok (.pointer (some ⟨b, ofs + off, none⟩)) w := by
  obtain ⟨fields, fd, hu, hf, rfl, ht⟩ := fieldAt_ok h
  obtain ⟨_, hs, _⟩ := tOne_run (w := w) ht
  simp [Instr.fieldAt, run_underlying hu, hf, Instr.sureAddr, fieldPlace, hs, hn, add_mk]
theorem ok_fieldAddr (g : Good S0 w0 x w H) {s : TypeId} {y : Operand} {f : Nat} (ho : o.op = .fieldAddr s y f) (hy : CV x w (e y) (a.eval y)) (h : afldA P s f (e y) = some v) : RunOk P o a S0 w0 x w H v none := by
  generalize e y = Y at *
  unfold afldA at h
  split at h
  · split at h
    · rename_i off n ag ht
      split at h
      · cases h
      · rename_i hn
        cases h
        simp only [CV] at hy
        obtain ⟨h1, h2, hy⟩ := hy
        refine RunOk.pure g (u := _) (by simp [execOp, ho, hy, run_fieldAt ht hn]; rfl) ?_
        simp only [CV]
        exact ⟨h1, h2, trivial⟩
    · cases h
  · split at h
    · rename_i off n ag ht
      split at h
      · cases h
      · rename_i hn
        cases h
        simp only [CV] at hy
        obtain ⟨b, ofs, hy, hr⟩ := hy
        refine RunOk.pure g (u := _) (by simp [execOp, ho, hy, run_fieldAt ht hn]; rfl) ?_
        simp only [CV]
        exact ⟨b, ofs, by rw [Nat.add_assoc], hr⟩
    · cases h
  · cases h
theorem part_ok {t : TypeId} {q : Bool × Nat} (hq : tOne P t = some q) {l : List V} {vs : Array Value} (hl : CVs x w l vs.toList) {off : Nat} (h : ldV q l off = some v) : ∃ u, (part t vs off).run P w = .ok u w ∧ CV x w v u := by
  obtain ⟨ag, n⟩ := q
  obtain ⟨h1, h2, _⟩ := tOne_run (w := w) hq
  unfold ldV at h
  cases ag with
  | false =>
    simp only [Bool.false_eq_true, if_false] at h
    obtain ⟨u, k1, k2⟩ := hl.get off v h
    refine ⟨u, ?_, k2⟩
    have : vs[off]? = some u := by simpa using k1
    simp [part, h1, this]
  | true =>
    simp only [if_true] at h
    split at h
    · cases h
      refine ⟨.agg (vs.extract off (off + n)), by simp [part, h1, h2], ?_⟩
      simp only [CV]
      refine ⟨_, rfl, ?_⟩
      have := (hl.drop off).take n
      rw [Array.toList_extract]
      simpa [List.extract] using this
    · cases h
theorem ok_field (g : Good S0 w0 x w H) {s : TypeId} {y : Operand} {f : Nat} (ho : o.op = .field s y f) {off n : Nat} {ag : Bool} (ht : tField P s f = some (off, n, ag)) {l : List V} (hy : CV x w (.agg l) (a.eval y)) (h : ldV (ag, n) l off = some v) : RunOk P o a S0 w0 x w H v none := by
  obtain ⟨fields, fd, hu, hf, rfl, ht2⟩ := fieldAt_ok ht
  simp only [CV] at hy
  obtain ⟨vs, hy, hl⟩ := hy
  obtain ⟨u, k1, k2⟩ := part_ok ht2 hl h
  refine RunOk.pure g (u := u) ?_ k2
  simp [execOp, ho, hy, Instr.field, run_underlying hu, hf, asAgg, k1]

theorem vRows_ok {Y : V} {rows : List (List C)} {u : Value} (h : vRows Y = some rows) (hy : CV x w Y u) : RdC x.S w (.sl rows) u := by
  unfold vRows at h
  split at h <;> first | cases h | skip
  · simpa only [CV] using hy
  · simp only [CV] at hy; obtain ⟨_, _, hy⟩ := hy; exact hy
  · simp only [CV] at hy; exact hy.2.2.1
end Go.Proofs.YtnpenchciinmmaaGreat

/-
  The abstract machine: indices, lengths, slices, literals of slices; and all operations together.
-/
namespace Go.Proofs.YtnpenchciinmmaaGreat
open Go.RowKit
set_option linter.unusedSimpArgs false
set_option linter.unusedVariables false

variable {P : Program} {S0 : Area} {w0 : Bs} {x : Cx} {w : World} {H : Heap} {a : Act} {o : Oper} {e : Operand → V} {v : V}

theorem tElem_ok {t : TypeId} {ty : TypeId} {es by_ : Nat} (h : tElem P t = some (ty, es, by_)) : P.underlying t = some (.slice ty) ∧ ∃ i z, P.info? ty = some i ∧ i.zero = some z ∧ i.size = es ∧ i.bytes = by_ ∧ z.cells.size = es := by
  unfold tElem at h
  cases hu : P.underlying t with
  | none => simp [hu] at h
  | some d =>
    rw [hu] at h
    cases d <;> simp only at h <;> try (cases h; done)
    rename_i el
    cases hi : P.info? el with
    | none => simp [hi] at h
    | some i =>
      rw [hi] at h
      simp only at h
      cases hz : i.zero with
      | none => simp [hz] at h
      | some z =>
        rw [hz] at h
        simp only at h
        split at h
        · rename_i hzs
          simp only [Option.some.injEq, Prod.mk.injEq] at h
          obtain ⟨rfl, rfl, rfl⟩ := h
          exact ⟨rfl, i, z, hi, hz, rfl, rfl, hzs⟩
        · cases h
theorem tArr_ok {t : TypeId} {n s : Nat} {ag : Bool} (h : tArr P t = some (n, s, ag)) : ∃ el, P.underlying t = some (.array n el) ∧ tOne P el = some (ag, s) := by
  unfold tArr at h
  cases hu : P.underlying t with
  | none => simp [hu] at h
  | some d =>
    rw [hu] at h
    cases d <;> simp only at h <;> try (cases h; done)
    rename_i m el
    cases ht : tOne P el with
    | none => simp [ht] at h
    | some q =>
      rw [ht] at h
      simp only [Option.some.injEq, Prod.mk.injEq] at h
      obtain ⟨rfl, rfl, rfl⟩ := h
      exact ⟨el, rfl, ht⟩
theorem tStr_ok {t : TypeId} (h : tStr P t = true) : P.underlying t = some .string := by
  unfold tStr at h
  split at h
  · assumption
  · cases h
theorem tSl_ok {t : TypeId} (h : tSl P t = true) : ∃ el, P.underlying t = some (.slice el) := by
  unfold tSl at h
  split at h
  · exact ⟨_, by assumption⟩
  · cases h

theorem ok_indexAddr (g : Good S0 w0 x w H) {t : TypeId} {y z : Operand} (ho : o.op = .indexAddr t y z) (hy : CV x w (e y) (a.eval y)) (hz : CV x w (e z) (a.eval z)) (h : aidxA P t (e y) (e z) = some v) : RunOk P o a S0 w0 x w H v none := by
  generalize e y = Y at *
  generalize e z = Z at *
  unfold aidxA at h
  split at h
  case h_2 => cases h
  rename_i k i
  simp only [CV, RdC] at hz
  obtain ⟨hz, _⟩ := hz
  split at h
  · rename_i kk off len es
    split at h
    · rename_i ety es' by_ ht
      obtain ⟨hu, inf, zv, hi, _, hsz, _, _⟩ := tElem_ok ht
      split at h
      · rename_i hc
        obtain ⟨rfl, h0, h1⟩ := hc
        cases h
        simp only [CV] at hy
        obtain ⟨d1, d2, cap, hy, _, _, _⟩ := hy
        refine RunOk.pure g (u := .pointer (some ⟨(x.loc kk).b, off + i.toNat * es', none⟩)) ?_ (by simp only [CV]; exact ⟨d1, d2, trivial⟩)
        simp [execOp, ho, hy, hz, Instr.indexAt, asIntOf, run_underlying hu, h0, h1, sizeOf, typeInfo, hi, hsz, add_mk]
      · cases h
    · cases h
  · rename_i kk off
    split at h
    · rename_i n s ag ht
      obtain ⟨el, hu, hel⟩ := tArr_ok ht
      obtain ⟨_, hs, _⟩ := tOne_run (w := w) hel
      split at h
      · rename_i hc
        obtain ⟨h0, h1⟩ := hc
        cases h
        simp only [CV] at hy
        obtain ⟨d1, d2, hy⟩ := hy
        refine RunOk.pure g (u := .pointer (some ⟨(x.loc kk).b, off + i.toNat * s, none⟩)) ?_ (by simp only [CV]; exact ⟨d1, d2, trivial⟩)
        simp [execOp, ho, hy, hz, Instr.indexAt, asIntOf, Instr.sureAddr, run_underlying hu, h0, h1, hs, add_mk]
      · cases h
    · cases h
  · rename_i row off
    split at h
    · rename_i n s ag ht
      obtain ⟨el, hu, hel⟩ := tArr_ok ht
      obtain ⟨_, hs, _⟩ := tOne_run (w := w) hel
      split at h
      · rename_i hc
        obtain ⟨h0, h1⟩ := hc
        cases h
        simp only [CV] at hy
        obtain ⟨b, ofs, hy, hr⟩ := hy
        refine RunOk.pure g (u := .pointer (some ⟨b, ofs + off + i.toNat * s, none⟩)) ?_ (by simp only [CV]; exact ⟨b, ofs, by rw [Nat.add_assoc], hr⟩)
        simp [execOp, ho, hy, hz, Instr.indexAt, asIntOf, Instr.sureAddr, run_underlying hu, h0, h1, hs, add_mk]
      · cases h
    · cases h
  · split at h
    · rename_i rows ety es by_ hrows ht
      obtain ⟨hu, inf, zv, hi, _, hsz, _, _⟩ := tElem_ok ht
      split at h
      · rename_i hc
        obtain ⟨h0, h1⟩ := hc
        split at h
        · rename_i r hr
          split at h
          · rename_i hl
            cases h
            have hd := vRows_ok hrows hy
            simp only [RdC] at hd
            obtain ⟨A, c, hv, _, _, hrs⟩ := hd
            obtain ⟨b, off, es', rfl, hes, hrs⟩ := hrs (fun e => by subst e; simp at hr)
            have : es' = es := by rw [← hes r (List.mem_of_getElem? hr), hl]
            subst this
            have hrd := hrs.at_ hes _ r hr
            refine RunOk.pure g (u := .pointer (some ⟨b, off + i.toNat * es', none⟩)) ?_ (by simp only [CV]; exact ⟨b, off + i.toNat * es', rfl, hrd⟩)
            simp [execOp, ho, hv, hz, Instr.indexAt, asIntOf, run_underlying hu, h0, h1, sizeOf, typeInfo, hi, hsz, add_mk]
          · cases h
        · cases h
      · cases h
    · cases h

theorem ok_index (g : Good S0 w0 x w H) {t : TypeId} {y z : Operand} (ho : o.op = .index t y z) (hy : CV x w (e y) (a.eval y)) (hz : CV x w (e z) (a.eval z)) (h : aidx P t (e y) (e z) = some v) : RunOk P o a S0 w0 x w H v none := by
  generalize e y = Y at *
  generalize e z = Z at *
  unfold aidx at h
  split at h
  · rename_i s k i
    simp only [CV, RdC] at hy hz
    obtain ⟨hy, _⟩ := hy
    obtain ⟨hz, _⟩ := hz
    split at h
    · rename_i hs
      have hu := tStr_ok hs
      split at h
      · rename_i h0
        simp only [Option.map_eq_some_iff] at h
        obtain ⟨bt, hb, rfl⟩ := h
        have hlt : i.toNat < s.size := by have := (List.getElem?_eq_some_iff.1 hb).1; simpa using this
        have hb' : s[i.toNat]? = some bt := by
          rw [getElem?_pos s i.toNat hlt]
          simp only [Array.getElem?_toList] at hb
          rw [Array.getElem?_eq_getElem (by simpa using hlt)] at hb
          exact hb
        refine RunOk.pure g (u := .int .u8 bt.toNat) ?_ ?_
        · simp [execOp, ho, hy, hz, Instr.index, asIntOf, run_underlying hu, h0, hb']
        · simp only [CV, RdC]
          refine ⟨trivial, ?_⟩
          have h1 : IntKind.u8.min = 0 := by decide +kernel
          have h2 : IntKind.u8.max = 255 := by decide +kernel
          have := bt.toNat_lt
          simp [Lit.wf, h1, h2]
          omega
      · cases h
    · cases h
  · rename_i l k i
    simp only [CV, RdC] at hy hz
    obtain ⟨vs, hy, hl⟩ := hy
    obtain ⟨hz, _⟩ := hz
    split at h
    · rename_i n s ag ht
      obtain ⟨el, hu, hel⟩ := tArr_ok ht
      obtain ⟨_, hs, _⟩ := tOne_run (w := w) hel
      split at h
      · rename_i hc
        obtain ⟨h0, h1⟩ := hc
        obtain ⟨u, k1, k2⟩ := part_ok hel hl h
        refine RunOk.pure g (u := u) ?_ k2
        simp [execOp, ho, hy, hz, Instr.index, asIntOf, run_underlying hu, h0, h1, hs, k1]
      · cases h
    · cases h
  · cases h

theorem RdC.sl_len {S : Area} {rows : List (List C)} {u : Value} (h : RdC S w (.sl rows) u) : ∃ A c, u = .slice A rows.length c ∧ rows.length ≤ maxLen := by
  simp only [RdC] at h
  obtain ⟨A, c, e, h1, h2, _⟩ := h
  exact ⟨A, c, e, by omega⟩
theorem ok_len (g : Good S0 w0 x w H) {t : TypeId} {y : Operand} (ho : o.op = .call ⟨.builtin .len, #[y], #[t]⟩) (hy : CV x w (e y) (a.eval y)) (h : alen P t (e y) = some v) : RunOk P o a S0 w0 x w H v none := by
  generalize e y = Y at *
  unfold alen at h
  split at h
  · simp only [CV, RdC] at hy
    obtain ⟨hy, hl⟩ := hy
    split at h
    · rename_i hs
      cases h
      refine RunOk.pure g (u := _) (by simp [execOp, ho, resolve, invoke, builtin, hy, Builtin.len_, run_underlying (tStr_ok hs), goInt]; rfl) ?_
      simp only [CV, RdC]
      exact ⟨trivial, wf_len hl⟩
    · cases h
  · simp only [CV] at hy
    obtain ⟨_, _, cap, hy, h1, h2, _⟩ := hy
    split at h
    · rename_i hs
      obtain ⟨el, hu⟩ := tSl_ok hs
      cases h
      refine RunOk.pure g (u := _) (by simp [execOp, ho, resolve, invoke, builtin, hy, Builtin.len_, run_underlying hu, goInt]; rfl) ?_
      simp only [CV, RdC]
      exact ⟨trivial, wf_len (by omega)⟩
    · cases h
  · split at h
    · rename_i rows hrows
      split at h
      · rename_i hs
        obtain ⟨el, hu⟩ := tSl_ok hs
        cases h
        obtain ⟨A, c, hv, hl⟩ := (vRows_ok hrows hy).sl_len
        refine RunOk.pure g (u := _) (by simp [execOp, ho, resolve, invoke, builtin, hv, Builtin.len_, run_underlying hu, goInt]; rfl) ?_
        simp only [CV, RdC]
        exact ⟨trivial, wf_len hl⟩
      · cases h
    · cases h

theorem amx_ok : ∀ (l : List V) (us : List Value) (mx : Bool) (n : Int) (k : IntKind) (v : V), CVs x w l us → (Lit.int k n).wf = true → amx mx n k l = some v →
    ∃ u, (us.foldlM (if mx then Builtin.max2 else Builtin.min2) (Value.int k n)).run P w = .ok u w ∧ CV x w v u
  | [], us, mx, n, k, v, h, hw, hv => by
    simp only [CVs] at h
    subst h
    simp only [amx, Option.some.injEq] at hv
    subst hv
    exact ⟨.int k n, by simp, by simp only [CV, RdC]; exact ⟨trivial, hw⟩⟩
  | y :: l, us, mx, n, k, v, h, hw, hv => by
    simp only [CVs] at h
    obtain ⟨u, ur, rfl, h1, h2⟩ := h
    cases y with
    | c c =>
      cases c with
      | int k' m =>
        simp only [amx] at hv
        simp only [CV, RdC] at h1
        obtain ⟨rfl, hm⟩ := h1
        split at hv
        · rename_i hk
          subst hk
          have hw' : (Lit.int k (if mx then (if n < m then m else n) else (if m < n then m else n))).wf = true := by cases mx <;> simp only [Bool.false_eq_true, if_false, if_true] <;> split <;> assumption
          obtain ⟨u, hr, hu⟩ := amx_ok l ur mx _ k v h2 hw' hv
          refine ⟨u, ?_, hu⟩
          cases mx <;> simp [Builtin.max2, Builtin.min2] at hr ⊢ <;> exact hr
        · cases hv
      | _ => simp [amx] at hv
    | _ => simp [amx] at hv
theorem ok_max (g : Good S0 w0 x w H) {b : Builtin} {mx : Bool} {args : Array Operand} {tys : Array TypeId} (hb : (b = .max ∧ mx = true) ∨ (b = .min ∧ mx = false)) (ho : o.op = .call ⟨.builtin b, args, tys⟩) (hy : ∀ y ∈ args.toList, CV x w (e y) (a.eval y)) (h : amax mx (args.toList.map e) = some v) : RunOk P o a S0 w0 x w H v none := by
  have hvs := CVs.of_map hy
  obtain ⟨args⟩ := args
  simp only at *
  match args, h, hvs with
  | [], h, _ => simp [amax] at h
  | y :: l, h, hvs =>
    simp only [List.map_cons, CVs, List.cons.injEq] at hvs
    obtain ⟨u, ur, ⟨rfl, rfl⟩, h1, h2⟩ := hvs
    simp only [List.map_cons] at h
    unfold amax at h
    split at h
    · rename_i k n r heq
      simp only [List.cons.injEq] at heq
      obtain ⟨e1, e2⟩ := heq
      rw [e1] at h1
      simp only [CV, RdC] at h1
      obtain ⟨u, hr, hu⟩ := amx_ok (P := P) r _ mx n k v (e2 ▸ h2) h1.2 h
      refine RunOk.pure g (u := u) ?_ hu
      rcases hb with ⟨rfl, rfl⟩ | ⟨rfl, rfl⟩
      · simp only [if_true] at hr
        simp [execOp, ho, resolve, invoke, builtin, Builtin.max_, h1.1, hr]
      · simp only [Bool.false_eq_true, if_false] at hr
        simp [execOp, ho, resolve, invoke, builtin, Builtin.min_, h1.1, hr]
    · cases h

theorem bound_ok (lo : Option Operand) (d : Nat) {l : Int} {k : IntKind} (h : (lo.map e).getD (.c (.int .i64 d)) = .c (.int k l)) (hl : ∀ y, lo = some y → CV x w (e y) (a.eval y)) : (lo = none ∧ l = d) ∨ ∃ y k', lo = some y ∧ a.eval y = .int k' l := by
  cases lo with
  | none => simp only [Option.map_none, Option.getD_none, V.c.injEq, C.int.injEq] at h; exact .inl ⟨rfl, h.2.symm⟩
  | some y =>
    simp only [Option.map_some, Option.getD_some] at h
    have := hl y rfl
    rw [h] at this
    simp only [CV, RdC] at this
    exact .inr ⟨y, k, rfl, this.1⟩
theorem ok_slice (g : Good S0 w0 x w H) {t : TypeId} {y : Operand} {lo hi : Option Operand} (ho : o.op = .slice t y lo hi none) (hy : CV x w (e y) (a.eval y)) (hlo : ∀ z, lo = some z → CV x w (e z) (a.eval z)) (hhi : ∀ z, hi = some z → CV x w (e z) (a.eval z)) (h : asl P t (e y) (lo.map e) (hi.map e) = some v) : RunOk P o a S0 w0 x w H v none := by
  unfold asl at h
  split at h
  · rename_i k l s hl hs
    rw [hs] at hy
    simp only [CV, RdC] at hy
    obtain ⟨hy, hsl⟩ := hy
    split at h
    · rename_i k' hh heq
      split at h
      · rename_i hc
        obtain ⟨ht, h0, h1, h2⟩ := hc
        cases h
        have hu := tStr_ok ht
        have b1 := bound_ok lo 0 hl hlo
        have b2 := bound_ok hi s.size heq hhi
        have h3 : l ≤ (hh.toNat : Int) := by omega
        have h4 : 0 ≤ hh := by omega
        refine RunOk.pure g (u := .string (s.extract l.toNat hh.toNat)) ?_ ?_
        · rcases b1 with ⟨rfl, rfl⟩ | ⟨z, k1, rfl, e1⟩ <;> rcases b2 with ⟨rfl, rfl⟩ | ⟨z2, k2, rfl, e2⟩ <;>
            simp [execOp, ho, hy, Instr.sliceAt, Instr.slice, run_underlying hu, Instr.sliceBounds, Instr.sliceBound, asIntOf, *] <;> omega
        · simp only [CV, RdC]
          refine ⟨trivial, ?_⟩
          rw [ByteArray.size_extract]
          omega
      · cases h
    · cases h
  · rename_i k l hl hns
    split at h
    · rename_i rows hrows
      split at h
      · rename_i k' hh ety es by_ heq ht
        split at h
        · rename_i hc
          obtain ⟨hall, h0, h1, h2⟩ := hc
          cases h
          obtain ⟨hu, ie, zv, hie, _, hsz, _, _⟩ := tElem_ok ht
          have hd := vRows_ok hrows hy
          simp only [RdC] at hd
          obtain ⟨A, c, hv, hc1, hc2, hrs⟩ := hd
          have b1 := bound_ok lo 0 hl hlo
          have b2 := bound_ok hi rows.length heq hhi
          have h3 : l ≤ (hh.toNat : Int) := by omega
          have h4 : 0 ≤ hh := by omega
          have h5 : hh ≤ (c : Int) := by omega
          have h6 : (hh.toNat : Int) = hh := by omega
          refine RunOk.pure g (u := .slice (if c = l.toNat then A else A.map (·.add (l.toNat * es))) (hh.toNat - l.toNat) (c - l.toNat)) ?_ ?_
          · rcases b1 with ⟨rfl, rfl⟩ | ⟨z, k1, rfl, e1⟩ <;> rcases b2 with ⟨rfl, rfl⟩ | ⟨z2, k2, rfl, e2⟩ <;>
              simp [execOp, ho, hv, Instr.sliceAt, Instr.slice, run_underlying hu, Instr.sliceBounds, Instr.sliceBound, asIntOf, sizeOf, typeInfo, *]
          · simp only [CV, RdC]
            have hlen : ((rows.take hh.toNat).drop l.toNat).length = hh.toNat - l.toNat := by simp; omega
            refine ⟨_, c - l.toNat, by rw [hlen], by omega, by omega, fun hne => ?_⟩
            have hne' : rows ≠ [] := fun e => hne (by rw [e]; simp)
            obtain ⟨b, off, es', rfl, hes, hr⟩ := hrs hne'
            have hlt : l.toNat < hh.toNat := by
              rcases Nat.lt_or_ge l.toNat hh.toNat with h | h
              · exact h
              · exact absurd (List.eq_nil_of_length_eq_zero (by rw [hlen]; omega)) hne
            have hee : es' = es := by
              obtain ⟨r, rs, rfl⟩ := List.exists_cons_of_ne_nil hne'
              rw [List.all_eq_true] at hall
              have := hall r (by simp)
              simp only [beq_iff_eq] at this
              rw [← hes r (by simp), this]
            subst hee
            rw [if_neg (by omega)]
            refine ⟨b, off + l.toNat * es', es', by simp [add_mk], fun r hr' => hes r (List.mem_of_mem_take (List.mem_of_mem_drop hr')), ?_⟩
            have := (hr.take hh.toNat)
            exact this.drop l.toNat (fun r hr' => hes r (List.mem_of_mem_take hr')) (by simp; omega)
        · cases h
      · cases h
    · cases h
  · cases h
end Go.Proofs.YtnpenchciinmmaaGreat

/-
  The abstract machine: literals of slices, make, append.
-/
namespace Go.Proofs.YtnpenchciinmmaaGreat
open Go.RowKit
set_option linter.unusedSimpArgs false
set_option linter.unusedVariables false

variable {P : Program} {S0 : Area} {w0 : Bs} {x : Cx} {w : World} {H : Heap} {a : Act} {o : Oper} {e : Operand → V} {v : V}

theorem flat_len {α : Type} {es : Nat} : ∀ {rows : List (List α)}, (∀ r ∈ rows, r.length = es) → rows.flatten.length = rows.length * es
  | [], _ => by simp
  | r :: rs, h => by
    have ih := flat_len (rows := rs) fun r hr => h r (by simp [hr])
    simp only [List.flatten_cons, List.length_append, List.length_cons, h r (by simp), ih, Nat.add_mul]
    omega
theorem toC_ok {v : V} {c : C} {u : Value} (h : toC v = some c) (hv : CV x w v u) : RdC x.S w c u := by
  unfold toC at h
  split at h <;> first | cases h | skip
  · simpa only [CV] using hv
  · simp only [CV] at hv; obtain ⟨_, _, hv⟩ := hv; exact hv
  · simp only [CV] at hv; exact hv.2.2.1
  · simp only [CV, CVs] at hv
    obtain ⟨vs, rfl, hvs⟩ := hv
    have e : vs = #[] := Array.toList_inj.1 hvs
    subst e
    simp only [RdC]
theorem toCs_ok : ∀ {l : List V} {cs : List C} {us : List Value}, toCs l = some cs → CVs x w l us → RdL x.S w cs us
  | [], cs, us, h, hv => by simp only [toCs, Option.some.injEq] at h; subst h; simpa only [CVs, RdL] using hv
  | v :: l, cs, us, h, hv => by
    simp only [CVs] at hv
    obtain ⟨u, ur, rfl, h1, h2⟩ := hv
    unfold toCs at h
    split at h
    · rename_i c r hc hr
      cases h
      simp only [RdL]
      exact ⟨u, ur, rfl, toC_ok hc h1, toCs_ok hr h2⟩
    · cases h
theorem toCs_len : ∀ {l : List V} {cs : List C}, toCs l = some cs → cs.length = l.length
  | [], cs, h => by simp only [toCs, Option.some.injEq] at h; subst h; rfl
  | v :: l, cs, h => by
    unfold toCs at h
    split at h
    · rename_i c r hc hr
      cases h
      simp [toCs_len hr]
    · cases h

/-- a new block of data -/
theorem Good.newData (g : Good S0 w0 x w H) (ty : TypeId) (arr : Array Value) (m : Nat) (hm : m ≤ arr.size) (W : World) (hW : Keep w W) (hs : W.heap.size = w.heap.size) {l : List C} (hl : RdL x.S w l (arr.toList.take m)) :
    ∃ S', Good S0 w0 { x with S := S' } (W.alloc (.cells arr ty)) H ∧ Ext x { x with S := S' } w (W.alloc (.cells arr ty)) ∧ RdR S' (W.alloc (.cells arr ty)) l w.heap.size 0 := by
  have hk : Keep w (W.alloc (.cells arr ty)) := hW.alloc _
  have ar : Ar x.S (fun b j => x.S b j ∨ (b = w.heap.size ∧ j < m)) w (W.alloc (.cells arr ty)) := ⟨fun _ _ h => .inl h, fun b j v _ hc => hk.cell hc⟩
  obtain ⟨g', he⟩ := g.stepA (x' := { x with S := fun b j => x.S b j ∨ (b = w.heap.size ∧ j < m) }) hk ar rfl rfl (fun b j h => h.imp id fun h => ⟨by omega, by simp; omega⟩)
  refine ⟨_, g', he, RdR.of_vals (RdL.mono ar _ _ hl) (fun j u hu => ?_) (fun j hj => .inr ⟨rfl, ?_⟩)⟩
  · rw [Nat.zero_add, cell_of_row _ _ j arr ty (0, 0) (by rw [← hs]; exact heap_alloc_new W _)]
    rw [List.getElem?_take] at hu
    split at hu
    · simpa using hu
    · cases hu
  · have := hl.len
    simp at this
    omega
theorem fold_list : ∀ (cs : List Value) (i off : Nat) (old : Array Value), off + i + cs.length ≤ old.size →
    ((cs.zipIdx i).foldl (fun (c : Array Value) (p : Value × Nat) => c.setIfInBounds (off + p.2) p.1) old).toList = old.toList.take (off + i) ++ cs ++ old.toList.drop (off + i + cs.length)
  | [], i, off, old, h => by simp
  | v :: r, i, off, old, h => by
    simp only [List.zipIdx_cons, List.foldl_cons]
    have hlt : off + i < old.size := by simp at h; omega
    rw [fold_list r (i + 1) off _ (by simp at h ⊢; omega)]
    simp only [Array.toList_setIfInBounds]
    rw [show off + (i + 1) = off + i + 1 by omega, List.take_succ_eq_append_getElem (by simpa using hlt), List.take_set_of_le (Nat.le_refl _)]
    rw [List.drop_set_of_lt (by omega)]
    simp [Nat.add_assoc, Nat.add_comm 1]
theorem fill_rows {es : Nat} (e : Operand → V) (a : Act) : ∀ (ps : List (Nat × Operand)) (i : Nat) (rows : List (List C)) (arr : Array Value), aparts e es i ps = some rows → (∀ p ∈ ps, CV x w (e p.2) (a.eval p.2)) → (i + ps.length) * es ≤ arr.size →
    ∃ arr' xs, Instr.fill (fun i => some (i * es, es)) arr (ps.map fun p => (p.1, a.eval p.2)) = some arr' ∧ arr'.toList = arr.toList.take (i * es) ++ xs ++ arr.toList.drop ((i + ps.length) * es) ∧ RdL x.S w rows.flatten xs ∧ (∀ r ∈ rows, r.length = es) ∧ rows.length = ps.length
  | [], i, rows, arr, h, _, hle => by
    simp only [aparts, Option.some.injEq] at h
    subst h
    exact ⟨arr, [], rfl, by simp, by simp [RdL], by simp, rfl⟩
  | (j, y) :: ps, i, rows, arr, h, hv, hle => by
    unfold aparts at h
    split at h
    · rename_i hc
      obtain ⟨rfl, hf, hl⟩ := hc
      split at h
      · rename_i row rest hrow hrest
        cases h
        have hy := hv (j, y) (by simp)
        obtain ⟨k1, k2⟩ := hy.cells hf
        have hul : (a.eval y).cells.size = es := by have := k1.len; simp only [Array.length_toList] at this; omega
        have hle' : j * es + es ≤ arr.size := by
          have : (j + 1) * es ≤ (j + ((j, y) :: ps).length) * es := Nat.mul_le_mul_right _ (by simp)
          rw [Nat.add_mul] at this
          omega
        have hfl := fold_list (a.eval y).cells.toList 0 (j * es) arr (by simp; omega)
        have hsz : ((((a.eval y).cells.toList.zipIdx 0).foldl (fun (c : Array Value) (p : Value × Nat) => c.setIfInBounds (j * es + p.2) p.1) arr)).size = arr.size := by
          have := congrArg List.length hfl
          simp only [Array.length_toList, List.length_append, List.length_take, List.length_drop] at this
          omega
        obtain ⟨arr', xs, e1, e2, e3, e4, e5⟩ := fill_rows e a ps (j + 1) rest _ hrest (fun p hp => hv p (by simp [hp])) (by rw [hsz]; simp at hle; rw [show j + 1 + ps.length = j + (ps.length + 1) by omega]; exact hle)
        refine ⟨arr', (a.eval y).cells.toList ++ xs, ?_, ?_, ?_, ?_, by simp [e5]⟩
        · simp only [List.map_cons, Instr.fill]
          rw [if_neg (by simp; omega), ← e1]
          congr 1
          rw [← Array.foldl_toList]
          simp [Array.toList_zipIdx]
        · rw [e2, hfl]
          have h1 : (j + 1) * es = j * es + es := by rw [Nat.add_mul]; omega
          have h2 : (a.eval y).cells.toList.length = es := by simpa using hul
          have h3 : (j + ((j, y) :: ps).length) * es = (j + 1 + ps.length) * es := by congr 1; simp; omega
          rw [h3, h1]
          simp only [Nat.add_zero]
          rw [List.take_append_of_le_length (by simp; omega), List.take_of_length_le (by simp; omega)]
          rw [List.drop_append, List.drop_of_length_le (l := List.take (j * es) arr.toList ++ (a.eval y).cells.toList) (by rw [Nat.add_mul, h1]; simp only [List.length_append, List.length_take, Array.length_toList]; omega)]
          simp only [List.nil_append, List.append_assoc, List.length_append, List.length_take, Array.length_toList, List.drop_drop]
          congr 4
          rw [hul, Nat.min_eq_left (by omega)]
          rw [Nat.add_mul, h1]
          omega
        · simp only [List.flatten_cons]
          exact (toCs_ok hrow k1).append e3
        · intro r hr
          rcases List.mem_cons.1 hr with rfl | hr
          · rw [toCs_len hrow, hl]
          · exact e4 r hr
      · cases h
    · cases h

theorem ok_buildSlice (g : Good S0 w0 x w H) {t : TypeId} {len : Nat} {parts : Array (Nat × Operand)} (ho : o.op = .buildSlice t len parts) (hp : ∀ p ∈ parts.toList, CV x w (e p.2) (a.eval p.2)) {ety : TypeId} {es by_ : Nat} (ht : tElem P t = some (ety, es, by_))
    (h0 : 0 < len * es) (h1 : len * es ≤ 2 ^ 24) (h2 : parts.toList.length = len) {rows : List (List C)} (h : aparts e es 0 parts.toList = some rows) : RunOk P o a S0 w0 x w H (.full rows) none := by
  obtain ⟨hu, ie, zv, hie, hz, hsz, _, _⟩ := tElem_ok ht
  obtain ⟨arr, xs, e1, e2, e3, e4, e5⟩ := fill_rows (x := x) (w := w) e a parts.toList 0 rows ((Array.range (len * es)).map (zv.cells[· % zv.cells.size]!)) h hp (by simp [← h2])
  have hxs : xs.length = len * es := by rw [e3.len, flat_len e4, e5, h2]
  have harr : arr.toList = xs := by
    rw [e2, h2]
    simp
  have hasz : arr.size = len * es := by rw [← Array.length_toList, harr, hxs]
  have hr := run_buildSlice (P := P) w t ety len (parts.map fun (i, y) => (i, a.eval y)) arr ie zv hu hie hz (by rw [hsz]; omega) (by rw [hsz]; omega) (by rw [parts_map, hsz]; exact e1)
  obtain ⟨S', g', he, hrd⟩ := g.newData ety arr (len * es) (by omega) w (Keep.refl w) rfl (l := rows.flatten) (by rw [harr, List.take_of_length_le (by omega)]; exact e3)
  have hl : rows.length = len := by rw [e5, h2]
  refine ⟨_, _, _, .slice (some ⟨w.heap.size, 0, none⟩) len len, by simp only [execOp, ho, Sem.run_bind, hr, Result.andThen_ok]; rfl, .inl rfl, ?_, g', he, fun _ h => .inl h, fun hb => by rw [ho] at hb; cases hb⟩
  have hml : len ≤ maxLen := by
    have : len ≤ len * es := Nat.le_mul_of_pos_right _ (Nat.pos_of_mul_pos_left h0)
    unfold maxLen
    omega
  simp only [CV, RdC]
  refine ⟨some ⟨w.heap.size, 0, none⟩, by rw [hl], some ⟨w.heap.size, 0, none⟩, len, by rw [hl], by omega, hml, fun _ => ⟨w.heap.size, 0, es, rfl, e4, RdRs.flat.2 hrd⟩⟩

theorem made_list {es : Nat} (z : Array Value) (hz : z.size = es) : ∀ n : Nat, (madeCells z (n * es)).toList = (List.replicate n z.toList).flatten
  | 0 => by simp [madeCells]
  | n + 1 => by
    have ih := made_list z hz n
    unfold madeCells at ih ⊢
    simp only [Array.toList_map, Array.toList_range] at ih ⊢
    rw [show (n + 1) * es = n * es + es by rw [Nat.add_mul]; omega, List.range_add, List.map_append, ih, List.replicate_succ', List.flatten_append]
    congr 1
    simp only [List.map_map, List.flatten_cons, List.flatten_nil, List.append_nil]
    apply List.ext_getElem
    · simp [hz]
    · intro i h1 h2
      have hi : i < es := by simpa using h1
      have hi' : i < z.size := by omega
      simp [hz, Nat.add_mod, Nat.mod_eq_of_lt hi]
      exact getElem!_pos z i hi'
theorem CVs.flat_rep {l : List V} {us : List Value} (h : CVs x w l us) : ∀ n : Nat, CVs x w (List.replicate n l).flatten (List.replicate n us).flatten
  | 0 => by simp [CVs]
  | n + 1 => by simp only [List.replicate_succ, List.flatten_cons]; exact h.append (h.flat_rep n)
theorem ok_makeSlice (g : Good S0 w0 x w H) {t : TypeId} {y z : Operand} (ho : o.op = .makeSlice t y z) {ety : TypeId} {es by_ : Nat} (ht : tElem P t = some (ety, es, by_)) {k k' : IntKind} {l : Int} (hy : CV x w (.c (.int k l)) (a.eval y)) (hz : CV x w (.c (.int k' l)) (a.eval z)) {zl : List V} (hzl : tZero P ety = some zl)
    (h0 : 0 ≤ l) (h1 : (by_ : Int) * l ≤ 281474976710656) (h2 : l ≤ 9223372036854775807) (k0 : Nat) (hk : ¬ x.dom k0) : RunOk P o a S0 w0 x w H (.own k0 0 l.toNat es) (some (k0, .box ety (List.replicate l.toNat zl).flatten false)) := by
  obtain ⟨hu, ie, zv, hie, hzi, hsz, hby, hzs⟩ := tElem_ok ht
  obtain ⟨zv', hz1, hz2, i2, hi2, hzi2⟩ := tZero_run (x := x) (w := w) hzl
  rw [hie] at hi2; cases hi2
  rw [hzi] at hzi2; cases hzi2
  simp only [CV, RdC] at hy hz
  have hr := run_make (P := P) w t ety ie zv hu hie hzi k k' l l h0 (Int.le_refl _) (by rw [hby]; exact h1) h2
  rw [hsz] at hr
  have hcv : CVs x w (List.replicate l.toNat zl).flatten (madeCells zv.cells (l.toNat * es)).toList := by rw [made_list zv.cells hzs]; exact hz2.flat_rep _
  obtain ⟨g', he⟩ := g.newBox k0 hk ety _ _ hcv
  refine ⟨_, _, _, .slice (some ⟨w.heap.size, 0, none⟩) l.toNat l.toNat, by simp only [execOp, ho, hy.1, hz.1, Sem.run_bind, hr, Result.andThen_ok]; rfl, .inl rfl, ?_, g', he, fun k h => h.elim .inl fun e => .inr ⟨.box ety (List.replicate l.toNat zl).flatten false, by rw [e]⟩, fun _ => rfl⟩
  simp only [CV, Cx.mk1, if_true]
  exact ⟨.inr trivial, trivial, l.toNat, rfl, Nat.le_refl _, by unfold maxLen; omega, by simp [size_madeCells]⟩
end Go.Proofs.YtnpenchciinmmaaGreat

/-
  The abstract machine: append.
-/
namespace Go.Proofs.YtnpenchciinmmaaGreat
open Go.RowKit
set_option linter.unusedSimpArgs false
set_option linter.unusedVariables false

variable {P : Program} {S0 : Area} {w0 : Bs} {x : Cx} {w : World} {H : Heap} {a : Act} {o : Oper} {e : Operand → V} {v : V}

def aapp (P : Program) (t : TypeId) (X Y : V) : Pl :=
  match vRows Y, tElem P t with
  | some ys, some (ety, es, by_) => if 0 < es ∧ (ys.all fun r => r.length == es) = true then
      match X with
      | .full rows => if (rows.all fun r => r.length == es) = true ∧ rows.length + ys.length ≤ maxLen ∧ (rows.length + ys.length) * by_ ≤ 140737488355328 then .new (.tok ety es (rows.length + ys.length)) fun k => .gr k es (rows ++ ys) else .fail
      | .gr k es' rows => if es' = es ∧ rows.length + ys.length ≤ maxLen ∧ (rows.length + ys.length) * by_ ≤ 140737488355328 then .wr k fun
          | .tok ty e2 cur => if ty = ety ∧ e2 = es ∧ cur = rows.length then some (.tok ety es (rows.length + ys.length), .gr k es (rows ++ ys)) else none
          | _ => none
        else .fail
      | _ => .fail
    else .fail
  | _, _ => .fail

theorem all_len {es : Nat} {rows : List (List C)} (h : (rows.all fun r => r.length == es) = true) : ∀ r ∈ rows, r.length = es := by
  intro r hr
  rw [List.all_eq_true] at h
  simpa using h r hr
theorem sl_vals {S : Area} {es : Nat} {rows : List (List C)} {u : Value} (h : RdC S w (.sl rows) u) (hes : ∀ r ∈ rows, r.length = es) :
    ∃ A c xs, u = .slice A rows.length c ∧ rows.length ≤ c ∧ c ≤ maxLen ∧ RdL S w rows.flatten xs ∧ xs.length = rows.length * es ∧ (∀ ad, A = some ad → ∀ j v, xs[j]? = some v → w.cell? (ad.add j) = some v) ∧ (rows ≠ [] → ∃ b off, A = some ⟨b, off, none⟩ ∧ ∀ j, j < rows.length * es → S b (off + j)) := by
  simp only [RdC] at h
  obtain ⟨A, c, hu, h1, h2, h3⟩ := h
  by_cases hr : rows = []
  · subst hr
    exact ⟨A, c, [], hu, h1, h2, by simp [RdL], by simp, fun ad _ j v hj => by simp at hj, fun h => absurd rfl h⟩
  · obtain ⟨b, off, es', rfl, _, hrd⟩ := h3 hr
    obtain ⟨xs, k1, k2, k3⟩ := RdR.vals _ _ _ (RdRs.flat.1 hrd)
    refine ⟨_, c, xs, hu, h1, h2, k1, by rw [k1.len, flat_len hes], fun ad he j v hj => ?_, fun _ => ⟨b, off, rfl, fun j hj => k3 j (by rw [flat_len hes]; exact hj)⟩⟩
    cases he
    rw [add_mk]
    exact k2 j v hj

/-- append makes a new block -/
theorem app_grow {t ty ety : TypeId} {es by_ : Nat} (hT : tElem P t = some (ety, es, by_)) {rows ys : List (List C)} {u us : Value} (hd : RdC x.S w (.sl rows) u) (hr : ∀ r ∈ rows, r.length = es) (hs : RdC x.S w (.sl ys) us) (hy : ∀ r ∈ ys, r.length = es) (hne : ys ≠ [])
    (hcap : ∀ A n c, u = .slice A n c → c < n + ys.length ∧ (A = none → c = 0)) (h63 : rows.length + ys.length ≤ maxLen) (hb : (rows.length + ys.length) * by_ ≤ 140737488355328) :
    ∃ vs cap, (Builtin.append_ #[t, t] ty #[u, us]).run P w = .ok (.slice (some ⟨w.heap.size, 0, none⟩) (rows.length + ys.length) cap) (w.drew.alloc (.cells vs ety)) ∧ vs.size = cap * es ∧ rows.length + ys.length ≤ cap ∧ cap ≤ maxLen ∧
      RdL x.S w (rows ++ ys).flatten (vs.toList.take ((rows.length + ys.length) * es)) := by
  obtain ⟨hu, ie, zv, hie, hz, hsz, hby, hzs⟩ := tElem_ok hT
  obtain ⟨A, c, xs, rfl, h1, h2, h3, h4, h5, h6⟩ := sl_vals hd hr
  obtain ⟨B, c', zs, rfl, k1, k2, k3, k4, k5, k6⟩ := sl_vals hs hy
  obtain ⟨b, off, rfl, _⟩ := k6 hne
  have hpos : 0 < ys.length := List.length_pos_iff.2 hne
  have hsm : ((rows.length + ys.length : Nat) : Int) ≤ 9223372036854775807 := by unfold maxLen at h63; omega
  obtain ⟨hc1, hc2⟩ := hcap _ _ _ rfl
  have hge : ∀ old, rows.length + ys.length ≤ grownCap w (rows.length + ys.length) old ety := fun old => grownCap_ge w _ old ety
  have hle : ∀ old, grownCap w (rows.length + ys.length) old ety ≤ maxLen := fun old => grownCap_le_maxLen w _ old ety h63
  have key : ∀ old, ∃ vs, vs = xs.toArray ++ zs.toArray ++ Builtin.zeroCells zv.cells (grownCap w (rows.length + ys.length) old ety - (rows.length + ys.length)) ∧ vs.size = grownCap w (rows.length + ys.length) old ety * es ∧ RdL x.S w (rows ++ ys).flatten (vs.toList.take ((rows.length + ys.length) * es)) := by
    intro old
    refine ⟨_, rfl, ?_, ?_⟩
    · simp only [Array.size_append, List.size_toArray, size_zeroCells, hzs, h4, k4, ← Nat.add_mul]
      congr 1
      have := hge old
      omega
    · have : (rows.length + ys.length) * es = (xs ++ zs).length := by rw [List.length_append, h4, k4, Nat.add_mul]
      simp only [Array.toList_append, List.flatten_append]
      rw [this, List.take_left']
      · exact h3.append k3
      · rfl
  cases A with
  | none =>
    have hr0 : rows = [] := by
      by_cases h : rows = []
      · exact h
      · obtain ⟨_, _, h, _⟩ := h6 h; cases h
    subst hr0
    obtain rfl := hc2 rfl
    have hx : xs = [] := List.eq_nil_of_length_eq_zero (by simpa using h4)
    subst hx
    obtain ⟨vs, e1, e2, e3⟩ := key 0
    have hrun := run_append_nil (P := P) w t ty ety ie zv hu hie hz ⟨b, off, none⟩ ys.length c' zs (by rw [k4, hsz]) (k5 _ rfl) hpos (by simpa using hsm) (by rw [hby]; simp only [List.length_nil, Nat.zero_add] at hb; omega)
    refine ⟨vs, grownCap w ys.length 0 ety, ?_, by simpa using e2, by simpa using hge 0, by simpa using hle 0, e3⟩
    simp only [List.length_nil, Nat.zero_add] at e1 ⊢
    rw [hrun, e1]
    simp
  | some ad =>
    obtain ⟨vs, e1, e2, e3⟩ := key c
    have hrun := run_append_grow (P := P) w t ty ety ie zv hu hie hz ad rows.length c xs (by rw [h4, hsz]) (h5 _ rfl) ⟨b, off, none⟩ ys.length c' zs (by rw [k4, hsz]) (k5 _ rfl) hc1 hsm (growslice_fits hc1 (by rw [hby]; exact hb))
    exact ⟨vs, _, by rw [hrun, e1], e2, hge c, hle c, e3⟩

/-- nothing is appended -/
theorem app_nothing {t ty ety : TypeId} {es by_ : Nat} (hT : tElem P t = some (ety, es, by_)) {A : Option Addr} {n c : Nat} (hnc : n ≤ c) {us : Value} (hs : RdC x.S w (.sl []) us) : (Builtin.append_ #[t, t] ty #[.slice A n c, us]).run P w = .ok (.slice A n c) w := by
  obtain ⟨hu, ie, zv, hie, hz, hsz, hby, hzs⟩ := tElem_ok hT
  simp only [RdC] at hs
  obtain ⟨B, c', rfl, _⟩ := hs
  cases A <;> cases B <;> simp [Builtin.append_, run_underlying hu, sizeOf, typeInfo, hie, Builtin.lenOf, hnc, Builtin.firstCells, loadCells, loadCellsFrom, storeCells]

def Cx.grow (x : Cx) (k : Nat) (l : Loc) (m : Nat) : Cx := { dom := fun i => x.dom i ∨ i = k, loc := fun i => if i = k then l else x.loc i, S := fun b j => x.S b j ∨ (b = l.b ∧ j < m) }

theorem RdC.of_flat {S : Area} {W : World} {rows : List (List C)} {es b cap : Nat} (hr : ∀ r ∈ rows, r.length = es) (h1 : rows.length ≤ cap) (h2 : cap ≤ maxLen) (h : RdR S W rows.flatten b 0) : RdC S W (.sl rows) (.slice (some ⟨b, 0, none⟩) rows.length cap) := by
  simp only [RdC]
  exact ⟨_, cap, rfl, h1, h2, fun _ => ⟨b, 0, es, rfl, hr, RdRs.flat.2 h⟩⟩

/-- the room behind a slice is a new block -/
theorem Good.growTok (g : Good S0 w0 x w H) (k : Nat) {ety : TypeId} {es m : Nat} (hk : ∀ o, H k = some o → ∃ ty es cur, o = .tok ty es cur ∧ cur < m) {vs : Array Value} {cap : Nat} (hsz : vs.size = cap * es) {l : List C} (hl : RdL x.S w l (vs.toList.take (m * es))) (hll : l.length = m * es) (hm : m ≤ cap) :
    let x' := x.grow k ⟨w.heap.size, cap * es, true, m, false⟩ (m * es)
    Good S0 w0 x' (w.drew.alloc (.cells vs ety)) (H.set k (.tok ety es m)) ∧ Ext x x' w (w.drew.alloc (.cells vs ety)) ∧ RdR x'.S (w.drew.alloc (.cells vs ety)) l w.heap.size 0 := by
  intro x'
  have hkp : Keep w (w.drew.alloc (.cells vs ety)) := (Keep.refl w).drew.alloc _
  have hblk : (w.drew.alloc (.cells vs ety)).heap[w.heap.size]? = some (.cells vs ety (0, 0)) := heap_alloc_new w.drew _
  have ar : Ar x.S x'.S w (w.drew.alloc (.cells vs ety)) := ⟨fun _ _ h => .inl h, fun b j v _ hc => hkp.cell hc⟩
  have he : Ext x x' w (w.drew.alloc (.cells vs ety)) := by
    refine ⟨ar, fun _ h => .inl h, fun i hi => ?_⟩
    by_cases e : i = k
    · subst e
      obtain ⟨o, ho⟩ := g.dom i hi
      obtain ⟨ty, es', cur, rfl, hlt⟩ := hk o ho
      obtain ⟨_, h1, h2, _⟩ := g.ok i _ ho
      simp only [x', Cx.grow, if_true]
      exact ⟨h1.symm, .inr ⟨h1, by rw [h2]; exact hlt⟩⟩
    · simp only [x', Cx.grow, e, if_false]; exact LocLe.refl _
  refine ⟨g.stepB k _ he (.of_keep hkp) (fun i => Iff.rfl) (fun i hi => by simp [x', Cx.grow, hi]) (fun _ => .inr (by simp [x', Cx.grow])) ?_ (fun b j h => ?_) (fun j hx hs => ?_), he, ?_⟩
  · exact ⟨by simp [x', Cx.grow], by simp [x', Cx.grow], fun _ => ⟨vs, by simp only [x', Cx.grow, if_true]; exact hblk, by simp [x', Cx.grow, hsz]⟩⟩
  · rcases h with h | ⟨rfl, h⟩
    · exact .inl h
    · refine .inr ⟨by simp, .inl (Nat.le_refl _), fun _ hx => ?_⟩
      have := hx.2.1
      omega
  · simp only [x', Cx.grow, if_true] at hs
    have := g.ex _ _ hs
    omega
  · refine RdR.of_vals (RdL.mono ar _ _ hl) (fun j u hu => ?_) (fun j hj => .inr ⟨rfl, by rw [hll] at hj; omega⟩)
    rw [Nat.zero_add, cell_of_row _ _ j vs ety (0, 0) hblk]
    rw [List.getElem?_take] at hu
    split at hu
    · simpa using hu
    · cases hu

/-- in the room behind a slice -/
theorem Good.roomTok (g : Good S0 w0 x w H) (k : Nat) {ety : TypeId} {es n m : Nat} (hH : H k = some (.tok ety es n)) (hv : (x.loc k).void = false) {cur : Array Value} (hb : w.heap[(x.loc k).b]? = some (.cells cur ety (0, 0))) (hpos : 0 < m) {news : List Value} {l : List C} (hnl : news.length = m * es) (hfit : n * es + m * es ≤ cur.size)
    (hl : RdL x.S w l (cur.toList.take (n * es) ++ news)) :
    let x' := x.grow k ⟨(x.loc k).b, (x.loc k).n, true, n + m, false⟩ ((n + m) * es)
    let w' := w.setRow (x.loc k).b (cur.toList.take (n * es) ++ news ++ cur.toList.drop (n * es + news.length)).toArray
    Good S0 w0 x' w' (H.set k (.tok ety es (n + m))) ∧ Ext x x' w w' ∧ RdR x'.S w' l (x.loc k).b 0 := by
  intro x' w'
  obtain ⟨hd, h1, h2, h3⟩ := g.ok k _ hH
  obtain ⟨vs, hb', hn⟩ := h3 hv
  rw [hb] at hb'
  cases hb'
  have hblk : w'.heap[(x.loc k).b]? = some (.cells (cur.toList.take (n * es) ++ news ++ cur.toList.drop (n * es + news.length)).toArray ety (0, 0)) := setRow_heap w _ cur _ ety (0, 0) hb
  have hsz : (cur.toList.take (n * es) ++ news ++ cur.toList.drop (n * es + news.length)).toArray.size = cur.size := by
    simp only [List.size_toArray, List.length_append, List.length_take, List.length_drop, Array.length_toList]
    omega
  have ar : Ar x.S x'.S w w' := by
    refine ⟨fun _ _ h => .inl h, fun b j v hS hc => ?_⟩
    by_cases hbk : b = (x.loc k).b
    · subst hbk
      rw [cell_of_row w _ j cur ety (0, 0) hb] at hc
      rw [cell_of_row w' _ j _ ety (0, 0) hblk]
      have hj : j < cur.size := (Array.getElem?_eq_some_iff.1 hc).1
      have hjn : j < n * es := by
        rcases Nat.lt_or_ge j (n * es) with h | h
        · exact h
        · exact absurd hS (g.excl k _ j hH ⟨hv, h, by omega⟩)
      rw [List.getElem?_toArray, List.append_assoc, List.getElem?_append_left (by simp; omega), List.getElem?_take, if_pos hjn]
      simpa using hc
    · rw [World.cell?_of_block (w := w) (a := ⟨b, j, none⟩) (setRow_other w _ b _ hbk)]
      exact hc
  have he : Ext x x' w w' := by
    refine ⟨ar, fun _ h => .inl h, fun i hi => ?_⟩
    by_cases e : i = k
    · subst e
      simp only [x', Cx.grow, if_true]
      exact ⟨h1.symm, .inr ⟨h1, by rw [h2]; simp only; omega⟩⟩
    · simp only [x', Cx.grow, e, if_false]; exact LocLe.refl _
  refine ⟨g.stepB k _ he ⟨rfl, rfl, rfl, by simp [w'], fun i _ hn => setRow_other w _ i _ (fun e => hn ⟨hd, hv, e.symm⟩)⟩ (fun i => Iff.rfl) (fun i hi => by simp [x', Cx.grow, hi]) (fun _ => .inl ⟨hd, hv, by simp [x', Cx.grow]⟩) ?_ (fun b j h => ?_) (fun j hx hs => ?_), he, ?_⟩
  · exact ⟨by simp [x', Cx.grow], by simp [x', Cx.grow], fun _ => ⟨_, by simp only [x', Cx.grow, if_true]; exact hblk, by simp only [x', Cx.grow, if_true]; rw [hsz, hn]⟩⟩
  · rcases h with h | ⟨rfl, h⟩
    · exact .inl h
    · refine .inr ⟨by simp [w']; exact (Array.getElem?_eq_some_iff.1 hb).1, .inr ⟨hd, hv, rfl⟩, fun _ hx => ?_⟩
      have := hx.2.1
      omega
  · simp only [x', Cx.grow, if_true] at hs
    refine g.excl k _ j hH ⟨hv, ?_, ?_⟩ hs
    · have := hx.2.1; rw [Nat.add_mul] at this; omega
    · have := hx.2.2; simpa [x', Cx.grow] using this
  · have hll : l.length = (n + m) * es := by
      have := hl.len
      rw [List.length_append, List.length_take, Array.length_toList, hnl, Nat.min_eq_left (by omega), ← Nat.add_mul] at this
      exact this.symm
    refine RdR.of_vals (RdL.mono ar _ _ hl) (fun j u hu => ?_) (fun j hj => .inr ⟨rfl, by rw [hll] at hj; omega⟩)
    rw [Nat.zero_add, cell_of_row w' _ j _ ety (0, 0) hblk, List.getElem?_toArray, List.getElem?_append_left ((List.getElem?_eq_some_iff.1 hu).1)]
    exact hu

theorem Heap.set_self {k : Nat} {ob : O} (h : H k = some ob) : H.set k ob = H := by
  funext i
  unfold Heap.set
  split
  · rename_i e; rw [e, h]
  · rfl
theorem rows_flat {rows ys : List (List C)} {es : Nat} (hr : ∀ r ∈ rows, r.length = es) (hy : ∀ r ∈ ys, r.length = es) : ∀ r ∈ rows ++ ys, r.length = es := by
  intro r h
  rcases List.mem_append.1 h with h | h
  · exact hr r h
  · exact hy r h
theorem ok_append_full (g : Good S0 w0 x w H) {t : TypeId} {y z : Operand} (ho : o.op = .call ⟨.builtin .append, #[y, z], #[t, t]⟩) {ety : TypeId} {es by_ : Nat} (hT : tElem P t = some (ety, es, by_)) {rows ys : List (List C)} (hY : CV x w (.full rows) (a.eval y)) (hZ : RdC x.S w (.sl ys) (a.eval z))
    (hr : ∀ r ∈ rows, r.length = es) (hy : ∀ r ∈ ys, r.length = es) (h63 : rows.length + ys.length ≤ maxLen) (hb : (rows.length + ys.length) * by_ ≤ 140737488355328) (k0 : Nat) (hk : ¬ x.dom k0) :
    RunOk P o a S0 w0 x w H (.gr k0 es (rows ++ ys)) (some (k0, .tok ety es (rows.length + ys.length))) := by
  have hH : ∀ ob, H k0 = some ob → False := fun ob h => hk (g.ok k0 ob h).1
  simp only [CV] at hY
  obtain ⟨A, hA, hd⟩ := hY
  by_cases hne : ys = []
  · subst hne
    have hrun := app_nothing (x := x) (w := w) (ty := o.type) hT (A := A) (Nat.le_refl rows.length) hZ
    have he : Ext x (x.grow k0 ⟨0, 0, true, rows.length, true⟩ 0) w w := ⟨⟨fun _ _ h => .inl h, fun _ _ _ _ h => h⟩, fun _ h => .inl h, fun i hi => by
      have : i ≠ k0 := fun e => hk (e ▸ hi)
      simp [Cx.grow, this, LocLe.refl]⟩
    have g' := g.stepB k0 (.tok ety es rows.length) he (.of_keep (Keep.refl w)) (fun i => Iff.rfl) (fun i hi => by simp [Cx.grow, hi]) (fun h => by simp [Cx.grow] at h) ⟨by simp [Cx.grow], by simp [Cx.grow], fun h => by simp [Cx.grow] at h⟩ (fun b j h => h.elim .inl fun h => by omega) (fun j hx => by have := hx.1; simp [Cx.grow] at this)
    refine ⟨_, w, _, .slice A rows.length rows.length, by simp [execOp, ho, resolve, invoke, builtin, hA, hrun], .inl rfl, ?_, by simpa [Heap.upd] using g', he, fun k h => h.elim .inl fun e => .inr ⟨.tok ety es rows.length, by rw [e]; rfl⟩, fun hb => by rw [ho] at hb; cases hb⟩
    simp only [CV, List.append_nil]
    refine ⟨.inr rfl, by simp [Cx.grow], ?_, hr, by simp [Cx.grow], fun _ => by simp [Cx.grow]⟩
    rw [hA] at hd
    exact RdC.mono he.ar _ _ hd
  · have hpos : 0 < ys.length := List.length_pos_iff.2 hne
    obtain ⟨vs, cap, hrun, hsz, h1, h2, hl⟩ := app_grow (ty := o.type) hT hd hr hZ hy hne (fun A' n c e => by rw [hA] at e; cases e; exact ⟨by omega, fun hn => by
      by_cases h : rows = []
      · rw [h]; rfl
      · obtain ⟨_, _, _, _, _, _, _, _, _, h6⟩ := sl_vals hd hr
        obtain ⟨b, off, hb, _⟩ := h6 h
        rename_i e1 e2 e3 _ _
        rw [hA] at *
        cases ‹Value.slice A rows.length rows.length = _›
        rw [hn] at hb
        cases hb⟩) h63 hb
    obtain ⟨g', he, hrd⟩ := g.growTok k0 (fun ob h => (hH ob h).elim) hsz hl (by rw [flat_len (rows_flat hr hy), List.length_append]) h1
    refine ⟨_, _, _, _, by simp [execOp, ho, resolve, invoke, builtin, hrun]; rfl, .inl rfl, ?_, g', he, fun k h => h.elim .inl fun e => .inr ⟨.tok ety es (rows.length + ys.length), by rw [e]⟩, fun hb => by rw [ho] at hb; cases hb⟩
    have hfl := RdC.of_flat (cap := cap) (rows_flat hr hy) (by rw [List.length_append]; exact h1) h2 hrd
    simp only [CV]
    rw [List.length_append] at hfl
    refine ⟨.inr rfl, by simp [Cx.grow], hfl, rows_flat hr hy, by simp [Cx.grow], fun _ => ?_⟩
    simp only [Cx.grow, if_true, Bool.false_eq_true, if_false, List.length_append]
    exact ⟨cap, rfl, rfl⟩
theorem ok_append_gr (g : Good S0 w0 x w H) {t : TypeId} {y z : Operand} (ho : o.op = .call ⟨.builtin .append, #[y, z], #[t, t]⟩) {ety : TypeId} {es by_ : Nat} (hT : tElem P t = some (ety, es, by_)) {rows ys : List (List C)} {k : Nat} (hY : CV x w (.gr k es rows) (a.eval y)) (hZ : RdC x.S w (.sl ys) (a.eval z))
    (hes : 0 < es) (hy : ∀ r ∈ ys, r.length = es) (h63 : rows.length + ys.length ≤ maxLen) (hb : (rows.length + ys.length) * by_ ≤ 140737488355328) (hH : H k = some (.tok ety es rows.length)) :
    RunOk P o a S0 w0 x w H (.gr k es (rows ++ ys)) (some (k, .tok ety es (rows.length + ys.length))) := by
  have hY' := hY
  simp only [CV] at hY
  obtain ⟨hdom, htok, hd, hr, hle, hcur⟩ := hY
  obtain ⟨_, _, hc2, hc3⟩ := g.ok k _ hH
  have hcur := hcur hc2.symm
  obtain ⟨A, c, xs, hu, q1, q2, q3, q4, q5, q6⟩ := sl_vals hd hr
  by_cases hne : ys = []
  · subst hne
    have hrun := app_nothing (x := x) (w := w) (ty := o.type) hT (A := A) q1 hZ
    refine ⟨_, w, x, .slice A rows.length c, by simp [execOp, ho, resolve, invoke, builtin, hu, hrun], .inl rfl, ?_, by simpa [Heap.upd, Heap.set_self hH] using g, Ext.refl _ _, fun _ h => .inl h, fun _ => rfl⟩
    rw [List.append_nil, ← hu]
    exact hY'
  · have hpos : 0 < ys.length := List.length_pos_iff.2 hne
    have fin : (∀ A n c, a.eval y = .slice A n c → c < n + ys.length ∧ (A = none → c = 0)) → RunOk P o a S0 w0 x w H (.gr k es (rows ++ ys)) (some (k, .tok ety es (rows.length + ys.length))) := by
      intro hcap
      obtain ⟨vs, cap, hrun, hsz, h1, h2, hl⟩ := app_grow (ty := o.type) hT hd hr hZ hy hne hcap h63 hb
      obtain ⟨g', he, hrd⟩ := g.growTok k (ety := ety) (m := rows.length + ys.length) (fun ob h => by rw [hH] at h; cases h; exact ⟨_, _, _, rfl, by omega⟩) hsz hl (by rw [flat_len (rows_flat hr hy), List.length_append]) h1
      refine ⟨_, _, _, _, by simp [execOp, ho, resolve, invoke, builtin, hrun]; rfl, .inl rfl, ?_, g', he, fun k h => h.elim .inl fun e => .inr ⟨.tok ety es (rows.length + ys.length), by rw [e]⟩, fun hb => by rw [ho] at hb; cases hb⟩
      have hfl := RdC.of_flat (cap := cap) (rows_flat hr hy) (by rw [List.length_append]; exact h1) h2 hrd
      simp only [CV]
      rw [List.length_append] at hfl
      refine ⟨.inr rfl, by simp [Cx.grow], hfl, rows_flat hr hy, by simp [Cx.grow], fun _ => ?_⟩
      simp only [Cx.grow, if_true, Bool.false_eq_true, if_false, List.length_append]
      exact ⟨cap, rfl, rfl⟩
    cases hv : (x.loc k).void with
    | true =>
      rw [hv] at hcur
      simp only [if_true] at hcur
      obtain ⟨A', hA'⟩ := hcur
      refine fin fun A2 n c2 e => ?_
      rw [hA'] at e
      cases e
      refine ⟨by omega, fun hn => ?_⟩
      by_cases h : rows = []
      · rw [h]; rfl
      · obtain ⟨b, off, hb', _⟩ := q6 h
        rw [hA'] at hu
        cases hu
        rw [hn] at hb'
        cases hb'
    | false =>
      rw [hv] at hcur
      simp only [Bool.false_eq_true, if_false] at hcur
      obtain ⟨cap, hA', hcn⟩ := hcur
      by_cases hroom : rows.length + ys.length ≤ cap
      · obtain ⟨hu', ie, zv, hie, hz, hsz, hby, hzs⟩ := tElem_ok hT
        obtain ⟨cur, hblk, hcsz⟩ := hc3 hv
        obtain ⟨B, c', zs, hzu, k1, k2, k3, k4, k5, k6⟩ := sl_vals hZ hy
        obtain ⟨b, off, rfl, _⟩ := k6 hne
        have hmul : (rows.length + ys.length) * es ≤ cap * es := Nat.mul_le_mul_right _ hroom
        rw [Nat.add_mul] at hmul
        have hrun := run_append_room (P := P) w t o.type ety ie hu' hie (x.loc k).b rows.length cap cur hblk ⟨b, off, none⟩ ys.length c' zs (by rw [k4, hsz]) (k5 _ rfl) k3.ones hroom (by rw [hsz, k4]; omega)
        rw [hsz] at hrun
        have htake : cur.toList.take (rows.length * es) = xs := by
          apply List.ext_getElem?
          intro j
          rw [List.getElem?_take]
          rw [hA'] at hu
          cases hu
          split
          · rename_i hj
            have hjx : j < xs.length := by omega
            have := q5 _ rfl j xs[j] (List.getElem?_eq_getElem hjx)
            rw [add_mk, Nat.zero_add, cell_of_row w _ j cur ety (0, 0) hblk] at this
            rw [List.getElem?_eq_getElem hjx]
            simpa using this
          · rw [List.getElem?_eq_none (by omega)]
        obtain ⟨g', he, hrd⟩ := g.roomTok k hH hv hblk hpos (news := zs) (l := (rows ++ ys).flatten) k4 (by omega) (by rw [htake, List.flatten_append]; exact q3.append k3)
        refine ⟨_, _, _, _, by simp [execOp, ho, resolve, invoke, builtin, hA', hzu, hrun]; rfl, .inl rfl, ?_, g', he, fun k h => h.elim .inl fun e => .inr ⟨.tok ety es (rows.length + ys.length), by rw [e]⟩, fun hb => by rw [ho] at hb; cases hb⟩
        have hcm : cap ≤ maxLen := by rw [hA'] at hu; cases hu; exact q2
        have hfl := RdC.of_flat (cap := cap) (rows_flat hr hy) (by rw [List.length_append]; exact hroom) hcm hrd
        simp only [CV]
        rw [List.length_append] at hfl
        refine ⟨.inr rfl, by simp [Cx.grow], hfl, rows_flat hr hy, by simp [Cx.grow], fun _ => ?_⟩
        simp only [Cx.grow, if_true, Bool.false_eq_true, if_false, List.length_append]
        exact ⟨cap, rfl, hcn⟩
      · refine fin fun A2 n c2 e => ?_
        rw [hA'] at e
        cases e
        exact ⟨by omega, fun hn => by cases hn⟩
end Go.Proofs.YtnpenchciinmmaaGreat

/-
  The abstract machine: all operations are sound; regions in one order; calls; the flow of control; contracts.
-/
namespace Go.Proofs.YtnpenchciinmmaaGreat
open Go.RowKit
set_option linter.unusedSimpArgs false
set_option linter.unusedVariables false

variable {P : Program} {S0 : Area} {w0 : Bs} {x : Cx} {w : World} {H : Heap} {a : Act} {o : Oper} {e : Operand → V} {v : V}

def aopF (P : Program) (e : Operand → V) (op : Op) : Pl :=
  match op with
  | .call ⟨.builtin .append, args, tys⟩ => match args.toList, tys.toList with
    | [y, z], [t, t'] => if t = t' then aapp P t (e y) (e z) else .fail
    | _, _ => .fail
  | op => aop P e op

theorem ap_ofOpt {q : Option V} {k0 : Nat} {t : Option (Nat × O)} (h : (ofOpt q).ap H k0 = some (v, t)) : q = some v ∧ t = none := by
  cases q with
  | none => cases h
  | some y => simp only [ofOpt, Pl.ap, Option.some.injEq, Prod.mk.injEq] at h; exact ⟨by rw [h.1], h.2.symm⟩
theorem toList_one {α : Type} {l : Array α} {y : α} (h : l.toList = [y]) : l = #[y] := by apply Array.toList_inj.1; simpa using h
theorem toList_two {α : Type} {l : Array α} {y z : α} (h : l.toList = [y, z]) : l = #[y, z] := by apply Array.toList_inj.1; simpa using h

theorem aop_sound (g : Good S0 w0 x w H) (hop : ∀ y ∈ o.op.operands.toList, CV x w (e y) (a.eval y)) {k0 : Nat} {t : Option (Nat × O)} (hk : ∀ ob, t = some (k0, ob) → ¬ x.dom k0) (h : (aopF P e o.op).ap H k0 = some (v, t)) : RunOk P o a S0 w0 x w H v t := by
  have pure1 : ∀ {y : Operand}, o.op.operands.toList = [y] → (execOp a.eval o).run P w = .ok (.value (a.eval y)) w → RunOk P o a S0 w0 x w H (e y) none := fun h1 hr => RunOk.pure g hr (hop _ (by rw [h1]; simp))
  unfold aopF at h
  split at h
  · -- append
    rename_i args tys ho
    split at h
    · rename_i y z t1 t2 ha ht
      have ha' := toList_two ha
      have ht' := toList_two ht
      subst ha' ht'
      split at h
      · rename_i heq
        subst heq
        have hy := hop y (by simp [ho, Op.operands, Call.operands])
        have hz := hop z (by simp [ho, Op.operands, Call.operands])
        unfold aapp at h
        split at h
        · rename_i ys ety es by_ hys hT
          have hZ := vRows_ok hys hz
          split at h
          · rename_i hc
            obtain ⟨hes, hall⟩ := hc
            split at h
            · rename_i rows hX
              rw [hX] at hy
              split at h
              · rename_i hc
                simp only [Pl.ap, Option.some.injEq, Prod.mk.injEq] at h
                obtain ⟨rfl, rfl⟩ := h
                exact ok_append_full g ho hT hy hZ (all_len hc.1) (all_len hall) hc.2.1 hc.2.2 k0 (hk _ rfl)
              · cases h
            · rename_i k es' rows hX
              rw [hX] at hy
              split at h
              · rename_i hc
                obtain ⟨rfl, hc1, hc2⟩ := hc
                simp only [Pl.ap] at h
                split at h
                · rename_i ob hH
                  split at h
                  · rename_i o' v' hg
                    simp only [Option.some.injEq, Prod.mk.injEq] at h
                    obtain ⟨rfl, rfl⟩ := h
                    split at hg
                    · split at hg
                      · rename_i hcc
                        obtain ⟨rfl, rfl, rfl⟩ := hcc
                        simp only [Option.some.injEq, Prod.mk.injEq] at hg
                        obtain ⟨rfl, rfl⟩ := hg
                        exact ok_append_gr g ho hT hy hZ hes (all_len hall) hc1 hc2 hH
                      · cases hg
                    · cases hg
                  · cases h
                · cases h
              · cases h
            · cases h
          · cases h
        · cases h
      · cases h
    · cases h
  · -- the rest
    rename_i op hna
    unfold aop at h
    split at h
    · rename_i y ho; simp only [Pl.ap, Option.some.injEq, Prod.mk.injEq] at h; obtain ⟨rfl, rfl⟩ := h; exact pure1 (by simp [ho, Op.operands]) (by simp [execOp, ho])
    · rename_i y ho; simp only [Pl.ap, Option.some.injEq, Prod.mk.injEq] at h; obtain ⟨rfl, rfl⟩ := h; exact pure1 (by simp [ho, Op.operands]) (by simp [execOp, ho])
    · rename_i c y z ho
      split at h
      · rename_i b hb
        simp only [Pl.ap, Option.some.injEq, Prod.mk.injEq] at h
        obtain ⟨rfl, rfl⟩ := h
        have hc := hop c (by simp [ho, Op.operands])
        rw [hb] at hc
        simp only [CV, RdC] at hc
        have hy := hop y (by simp [ho, Op.operands])
        have hz := hop z (by simp [ho, Op.operands])
        refine RunOk.pure g (u := if b then a.eval y else a.eval z) (by simp [execOp, ho, hc, asBool]) ?_
        cases b
        · simpa using hz
        · simpa using hy
      · cases h
    · rename_i ty ho
      split at h
      · rename_i z hz
        simp only [Pl.ap, Option.some.injEq, Prod.mk.injEq] at h
        obtain ⟨rfl, rfl⟩ := h
        exact ok_alloc g ho hz k0 (hk _ rfl)
      · cases h
    · rename_i ty y ho
      split at h
      · rename_i hf
        simp only [Pl.ap, Option.some.injEq, Prod.mk.injEq] at h
        obtain ⟨rfl, rfl⟩ := h
        exact ok_box g ho (hop y (by simp [ho, Op.operands])) hf k0 (hk _ rfl)
      · cases h
    · rename_i t' parts ho
      split at h
      · rename_i z pl hz hpl
        split at h
        · rename_i cs hcs
          simp only [Pl.ap, Option.some.injEq, Prod.mk.injEq] at h
          obtain ⟨rfl, rfl⟩ := h
          exact ok_build g ho (fun p hp => hop p.2 (by simp only [ho, Op.operands]; exact List.mem_map.2 ⟨p, hp, rfl⟩)) hz hpl hcs
        · cases h
      · cases h
    · rename_i t' len parts ho
      split at h
      · rename_i ety es by_ hT
        split at h
        · rename_i hc
          split at h
          · rename_i rows hrows
            simp only [Pl.ap, Option.some.injEq, Prod.mk.injEq] at h
            obtain ⟨rfl, rfl⟩ := h
            exact ok_buildSlice g ho (fun p hp => hop p.2 (by simp only [ho, Op.operands]; exact List.mem_map.2 ⟨p, hp, rfl⟩)) hT hc.1 hc.2.1 hc.2.2 hrows
          · cases h
        · cases h
      · cases h
    · rename_i t' y ho
      have hy := hop y (by simp [ho, Op.operands])
      split at h
      · rename_i q k off hq hp
        rw [hp] at hy
        simp only [Pl.ap] at h
        split at h
        · rename_i ob hH
          split at h
          · rename_i v' hg
            simp only [Option.some.injEq, Prod.mk.injEq] at h
            obtain ⟨rfl, rfl⟩ := h
            split at hg
            · exact ok_load_ptr g ho hq hy hH hg
            · cases hg
          · cases h
        · cases h
      · rename_i q row off hq hp
        rw [hp] at hy
        obtain ⟨h1, rfl⟩ := ap_ofOpt h
        exact ok_load_cp g ho hq hy h1
      · cases h
    · rename_i t' y z ho
      have hy := hop y (by simp [ho, Op.operands])
      have hz := hop z (by simp [ho, Op.operands])
      split at h
      · rename_i q k off hq hp
        rw [hp] at hy
        simp only [Pl.ap] at h
        split at h
        · rename_i ob hH
          split at h
          · rename_i o' v' hg
            simp only [Option.some.injEq, Prod.mk.injEq] at h
            obtain ⟨rfl, rfl⟩ := h
            split at hg
            · split at hg
              · rename_i hc
                simp only [Option.some.injEq, Prod.mk.injEq] at hg
                obtain ⟨rfl, rfl⟩ := hg
                exact ok_store g ho hq hy hz hH hc.1 hc.2.1 hc.2.2
              · cases hg
            · cases hg
          · cases h
        · cases h
      · cases h
    · rename_i y ho
      have hy := hop y (by simp [ho, Op.operands])
      split at h
      · rename_i k off hp
        rw [hp] at hy
        simp only [Pl.ap, Option.some.injEq, Prod.mk.injEq] at h
        obtain ⟨rfl, rfl⟩ := h
        have hy' := hy
        simp only [CV] at hy
        exact RunOk.pure g (u := a.eval y) (by simp [execOp, ho, hy.2.2]) hy'
      · rename_i row off hp
        rw [hp] at hy
        simp only [Pl.ap, Option.some.injEq, Prod.mk.injEq] at h
        obtain ⟨rfl, rfl⟩ := h
        have hy' := hy
        simp only [CV] at hy
        obtain ⟨b, ofs, hy, _⟩ := hy
        exact RunOk.pure g (u := a.eval y) (by simp [execOp, ho, hy]) hy'
      · cases h
    · rename_i bop ty y z ty' ho
      obtain ⟨h1, rfl⟩ := ap_ofOpt h
      exact ok_binOp g ho (hop y (by simp [ho, Op.operands])) (hop z (by simp [ho, Op.operands])) h1
    · rename_i uop ty y ho
      obtain ⟨h1, rfl⟩ := ap_ofOpt h
      exact ok_unOp g ho (hop y (by simp [ho, Op.operands])) h1
    · rename_i s d y ho
      split at h
      · rename_i q hq
        obtain ⟨h1, rfl⟩ := ap_ofOpt h
        refine ok_convert g ?_ ho (hop y (by simp [ho, Op.operands])) h1
        unfold tOne at hq
        cases hu : P.underlying s with
        | none => simp [hu] at hq
        | some ds => exact ⟨ds, rfl⟩
      · cases h
    · rename_i f first caps ho
      split at h
      · rename_i hf
        simp only [Pl.ap, Option.some.injEq, Prod.mk.injEq] at h
        obtain ⟨rfl, rfl⟩ := h
        have hf' : first = #[] := Array.eq_empty_of_size_eq_zero hf
        subst hf'
        refine RunOk.pure g (u := .func (.func f) #[] (caps.map a.eval)) (by simp [execOp, ho, Instr.makeFunc]) ?_
        simp only [CV]
        refine ⟨_, rfl, ?_⟩
        have := CVs.of_map (x := x) (w := w) (e := e) (a := a) (l := caps.toList) (fun y hy => hop y (by simp [ho, Op.operands]; simpa using hy))
        simpa using this
      · cases h
    · rename_i t' y z ho
      have hy := hop y (by simp [ho, Op.operands])
      have hz := hop z (by simp [ho, Op.operands])
      split at h
      · rename_i ety es by_ k l k' c hT hl hc
        split at h
        · rename_i zl hzl
          split at h
          · rename_i hcc
            obtain ⟨rfl, h0, h1, h2⟩ := hcc
            simp only [Pl.ap, Option.some.injEq, Prod.mk.injEq] at h
            obtain ⟨rfl, rfl⟩ := h
            rw [hl] at hy
            rw [hc] at hz
            exact ok_makeSlice g ho hT hy hz hzl h0 h1 h2 k0 (hk _ rfl)
          · cases h
        · cases h
      · cases h
    · rename_i t' y lo hi ho
      obtain ⟨h1, rfl⟩ := ap_ofOpt h
      exact ok_slice g ho (hop y (by simp [ho, Op.operands])) (fun z hz => hop z (by simp [ho, Op.operands, hz])) (fun z hz => hop z (by simp [ho, Op.operands, hz])) h1
    · rename_i s y f ho
      obtain ⟨h1, rfl⟩ := ap_ofOpt h
      exact ok_fieldAddr g ho (hop y (by simp [ho, Op.operands])) h1
    · rename_i s y f ho
      have hy := hop y (by simp [ho, Op.operands])
      split at h
      · rename_i off n ag l hf hl
        obtain ⟨h1, rfl⟩ := ap_ofOpt h
        rw [hl] at hy
        exact ok_field g ho hf hy h1
      · cases h
    · rename_i t' y z ho
      obtain ⟨h1, rfl⟩ := ap_ofOpt h
      exact ok_indexAddr g ho (hop y (by simp [ho, Op.operands])) (hop z (by simp [ho, Op.operands])) h1
    · rename_i t' y z ho
      obtain ⟨h1, rfl⟩ := ap_ofOpt h
      exact ok_index g ho (hop y (by simp [ho, Op.operands])) (hop z (by simp [ho, Op.operands])) h1
    · rename_i y i ho
      have hy := hop y (by simp [ho, Op.operands])
      split at h
      · rename_i l hl
        obtain ⟨h1, rfl⟩ := ap_ofOpt h
        rw [hl] at hy
        simp only [CV] at hy
        obtain ⟨vs, hy, hl⟩ := hy
        obtain ⟨u, k1, k2⟩ := hl.get i v h1
        have : vs[i]? = some u := by simpa using k1
        exact RunOk.pure g (u := u) (by simp [execOp, ho, hy, Instr.extract, this]) k2
      · cases h
    · rename_i args tys ho
      split at h
      · rename_i y t1 ha ht
        have ha' := toList_one ha
        have ht' := toList_one ht
        subst ha' ht'
        obtain ⟨h1, rfl⟩ := ap_ofOpt h
        exact ok_len g ho (hop y (by simp [ho, Op.operands, Call.operands])) h1
      · cases h
    · rename_i args tys ho
      obtain ⟨h1, rfl⟩ := ap_ofOpt h
      exact ok_max g (.inl ⟨rfl, rfl⟩) ho (fun y hy => hop y (by simp [ho, Op.operands, Call.operands]; simpa using hy)) h1
    · rename_i args tys ho
      obtain ⟨h1, rfl⟩ := ap_ofOpt h
      exact ok_max g (.inr ⟨rfl, rfl⟩) ho (fun y hy => hop y (by simp [ho, Op.operands, Call.operands]; simpa using hy)) h1
    · cases h
end Go.Proofs.YtnpenchciinmmaaGreat

/-
  Operations in a round of a range over a function.
-/
namespace Go.Proofs.YtnpenchciinmmaaGreat
open Go.RowKit

/-- no operation is a 'defer' -/
def noDefer (l : List Oper) : Bool := l.all fun o => match o.op with | .defer _ => false | _ => true
theorem noDefer_of {l : List Oper} (h : noDefer l = true) {o : Oper} (ho : o ∈ l) (c : Call) : o.op ≠ .defer c := by
  intro e
  unfold noDefer at h
  rw [List.all_eq_true] at h
  have := h o ho
  rw [e] at this
  cases this

/-- the way on alone -/
def OnlyN (K : Act → World → Prop) : Exit → Act → World → Prop
  | .normal, a, w => K a w
  | _, _, _ => False
theorem onlyN_out (K : Act → World → Prop) : ¬ LetsOut (OnlyN K) := fun ⟨_, _, h⟩ => h

section
variable {P : Program} {Q : Exit → Act → World → Prop} {lp n : Nat}

theorem rowsIn_of {row : String} {args : Array Value} {w : World} {R : Value → World → Prop} (h : Rows P row args w R) : RowsIn (Fence.wide.inRound lp) n P row args w R := fun c cs _ =>
  let ⟨v, w', r, s⟩ := h c cs
  ⟨v, w', r, stepsIn_wide.2 s⟩

theorem opIn_of {o : Oper} {a : Act} {w : World} {K : Act → World → Prop} (hd : ∀ c, o.op ≠ .defer c) (h : o.wp P a w K Q) : o.wpIn (Fence.wide.inRound lp) n P a w K Q := by
  refine ⟨fun _ _ => trivial, ?_⟩
  rw [show (Fence.wide.inRound lp).round = some lp from rfl, Oper.semAt_some lp _ _ hd]
  unfold Oper.wp at h
  generalize (execOp a.eval o).run P w = r at h ⊢
  cases r with
  | ok x w' =>
    cases x <;> simp only [Oper.upon, Oper.uponIn] at h ⊢ <;>
      first
        | exact h
        | exact h.elim
        | exact ⟨fun e => (by cases e), CallsIn.inRound lp (callsIn_wide.2 h)⟩
        | exact ⟨fun e => (by cases e), rowsIn_of h⟩
  | halt x w' => cases x <;> simp only [Oper.upon, Oper.uponIn] at h ⊢ <;> exact h

theorem anyIn_of {l : List Oper} (hQ : ¬ LetsOut Q) (hd : noDefer l = true) : ∀ (fuel : Nat) (listed : Array Bool) (a : Act) (w : World), wpAny P .any l.toArray Q fuel listed a w → wpAnyIn (Fence.wide.inRound lp) n P .any l.toArray Q fuel listed a w := by
  intro fuel
  induction fuel with
  | zero => intro listed a w h; exact h
  | succ fuel ih =>
    intro listed a w h
    refine ⟨h.1, fun i hi => ?_⟩
    have h := h.2 i hi
    unfold wpOp at h
    unfold wpOpIn
    cases ho : l.toArray[i]? with
    | none => rw [ho] at h; exact ih _ _ _ h
    | some o =>
      rw [ho] at h
      simp only at h ⊢
      have hm : o ∈ l := List.mem_of_getElem? (i := i) (by simpa using ho)
      split
      · rename_i hw
        rw [if_pos hw] at h
        exact opIn_of (noDefer_of hd hm) (Oper.wp_mono (fun a w => ih _ a w) (h.resolve_right fun h => hQ h.2))
      · rename_i hw
        rw [if_neg hw] at h
        exact ⟨fun _ _ => trivial, ih _ _ _ h⟩

end
end Go.Proofs.YtnpenchciinmmaaGreat

/-
  The abstract machine: its state, regions in one order, calls, the flow of control, contracts.
-/
namespace Go.Proofs.YtnpenchciinmmaaGreat
open Go.RowKit
set_option linter.unusedSimpArgs false
set_option linter.unusedVariables false

structure St where
  t : List V
  h : List O
def St.put (s : St) (d : Option Tmp) (v : V) : St :=
  match d with
  | some d => { s with t := s.t.set d v }
  | none => s
def updH (h : List O) : Option (Nat × O) → List O
  | none => h
  | some (k, o) => if k < h.length then h.set k o else h ++ [o]
structure Abs (S0 : Area) (w0 : Bs) (x : Cx) (s : St) (a : Act) (w : World) : Prop where
  good : Good S0 w0 x w (fun k => s.h[k]?)
  tm : CVs x w s.t a.tmps.toList
  df : Marks w0 a.defers w

variable {P : Program} {S0 : Area} {w0 : Bs} {x : Cx} {w : World} {a : Act} {o : Oper} {v : V} {s : St}

theorem Abs.fresh (h : Abs S0 w0 x s a w) : ¬ x.dom s.h.length := fun hd => by
  obtain ⟨o, ho⟩ := h.good.dom _ hd
  simp at ho
theorem updH_eq (h : List O) (t : Option (Nat × O)) (ht : ∀ k o, t = some (k, o) → k ≤ h.length) : (fun k => (updH h t)[k]?) = Heap.upd (fun k => h[k]?) t := by
  cases t with
  | none => rfl
  | some p =>
    obtain ⟨k, o⟩ := p
    have hk := ht k o rfl
    funext i
    simp only [updH, Heap.upd, Heap.set]
    by_cases hlt : k < h.length
    · rw [if_pos hlt, List.getElem?_set]
      by_cases e : k = i
      · subst e; simp [hlt]
      · have e' : ¬ i = k := fun h => e h.symm
        simp [e, e']
    · rw [if_neg hlt]
      have hk' : k = h.length := by omega
      subst hk'
      by_cases e : i = h.length
      · subst e; simp
      · simp only [e, if_false]
        rcases Nat.lt_or_ge i h.length with hl | hl
        · rw [List.getElem?_append_left hl]
        · rw [List.getElem?_eq_none (by simp; omega), List.getElem?_eq_none hl]
theorem put_list (a : Act) (d : Option Tmp) (u : Value) : (a.put d u).tmps.toList = match d with | some d => a.tmps.toList.set d u | none => a.tmps.toList := by
  cases d <;> simp [Act.put]
theorem Abs.put {H' : List O} {x' : Cx} {w' : World} (h : CVs x w s.t a.tmps.toList) (hd : Marks w0 a.defers w') (he : Ext x x' w w') (g : Good S0 w0 x' w' (fun k => H'[k]?)) {u : Value} (hv : CV x' w' v u) (d : Option Tmp) : Abs S0 w0 x' (St.put { s with h := H' } d v) (a.put d u) w' := by
  have h' := CVs.mono he _ _ h
  cases d with
  | none => exact ⟨g, h', hd⟩
  | some d => exact ⟨g, by rw [put_list]; exact h'.set d hv, hd⟩
theorem ap_le {H : List O} {p : Pl} {t : Option (Nat × O)} (h : p.ap (fun k => H[k]?) H.length = some (v, t)) : ∀ k o, t = some (k, o) → k ≤ H.length := by
  intro k o ht
  subst ht
  cases p with
  | fail => cases h
  | val v => simp [Pl.ap] at h
  | rd k g => simp only [Pl.ap] at h; split at h <;> (try split at h) <;> simp at h
  | wr i g =>
    simp only [Pl.ap] at h
    split at h
    · rename_i ob hH
      split at h
      · simp only [Option.some.injEq, Prod.mk.injEq] at h
        obtain ⟨_, rfl, _⟩ := h
        exact Nat.le_of_lt (List.getElem?_eq_some_iff.1 hH).1
      · cases h
    · cases h
  | new o mk => simp only [Pl.ap, Option.some.injEq, Prod.mk.injEq] at h; omega

/-! contracts -/
def Cx.bare (S : Area) : Cx := { dom := fun _ => False, loc := fun _ => ⟨0, 0, false, 0, false⟩, S := S }
/-- function f, called with such data, returns such data; memory is kept -/
def AC (P : Program) (f : FuncId) (args : List V) (res : V) : Prop :=
  ∀ (S : Area) (w : World) (us : List Value), (∀ b j, S b j → b < w.heap.size) → CVs (Cx.bare S) w args us →
    Calls P f us.toArray w fun r w' => ∃ u S', r = .returned u ∧ Keep w w' ∧ Ar S S' w w' ∧ (∀ b j, S' b j → S b j ∨ (w.heap.size ≤ b ∧ b < w'.heap.size)) ∧ CV (Cx.bare S') w' res u

mutual
/-- what is left of a value where the call's own objects are not known -/
def V.pub : V → Option V
  | .c d => some (.c d)
  | .full r => some (.c (.sl r))
  | .gr _ _ r => some (.c (.sl r))
  | .cp row off => some (.cp row off)
  | .agg l => (V.pubs l).map V.agg
  | .tup l => (V.pubs l).map V.tup
  | .fn f caps => (V.pubs caps).map (V.fn f)
  | .any => some .any
  | .ptr _ _ => none
  | .own _ _ _ _ => none
  | .hot _ _ _ => none
  | .hp _ _ _ => none
  | .yl l => some (.yl l)
  | .mp _ => none
def V.pubs : List V → Option (List V)
  | [] => some []
  | v :: l => match V.pub v, V.pubs l with
    | some y, some r => some (y :: r)
    | _, _ => none
end
mutual
theorem pub_ok {x : Cx} {w : World} : ∀ (v v' : V) (u : Value), V.pub v = some v' → CV x w v u → CV (Cx.bare x.S) w v' u
  | .c c, v', u, h, hv => by simp only [V.pub, Option.some.injEq] at h; subst h; simpa only [CV, Cx.bare] using hv
  | .full r, v', u, h, hv => by simp only [V.pub, Option.some.injEq] at h; subst h; simp only [CV] at hv ⊢; obtain ⟨_, _, hv⟩ := hv; exact hv
  | .gr k es r, v', u, h, hv => by simp only [V.pub, Option.some.injEq] at h; subst h; simp only [CV] at hv ⊢; exact hv.2.2.1
  | .cp row off, v', u, h, hv => by simp only [V.pub, Option.some.injEq] at h; subst h; simpa only [CV, Cx.bare] using hv
  | .agg l, v', u, h, hv => by
    simp only [V.pub, Option.map_eq_some_iff] at h
    obtain ⟨r, h, rfl⟩ := h
    simp only [CV] at hv ⊢
    obtain ⟨vs, e, hv⟩ := hv
    exact ⟨vs, e, pubs_ok l r _ h hv⟩
  | .tup l, v', u, h, hv => by
    simp only [V.pub, Option.map_eq_some_iff] at h
    obtain ⟨r, h, rfl⟩ := h
    simp only [CV] at hv ⊢
    obtain ⟨vs, e, hv⟩ := hv
    exact ⟨vs, e, pubs_ok l r _ h hv⟩
  | .fn f caps, v', u, h, hv => by
    simp only [V.pub, Option.map_eq_some_iff] at h
    obtain ⟨r, h, rfl⟩ := h
    simp only [CV] at hv ⊢
    obtain ⟨vs, e, hv⟩ := hv
    exact ⟨vs, e, pubs_ok caps r _ h hv⟩
  | .any, v', u, h, _ => by simp only [V.pub, Option.some.injEq] at h; subst h; simp only [CV]
  | .ptr _ _, _, _, h, _ => by simp [V.pub] at h
  | .own _ _ _ _, _, _, h, _ => by simp [V.pub] at h
  | .hot _ _ _, _, _, h, _ => by simp [V.pub] at h
  | .hp _ _ _, _, _, h, _ => by simp [V.pub] at h
  | .yl l, v', u, h, hv => by simp only [V.pub, Option.some.injEq] at h; subst h; simpa only [CV] using hv
  | .mp _, _, _, h, _ => by simp [V.pub] at h
theorem pubs_ok {x : Cx} {w : World} : ∀ (l l' : List V) (us : List Value), V.pubs l = some l' → CVs x w l us → CVs (Cx.bare x.S) w l' us
  | [], l', us, h, hv => by simp only [V.pubs, Option.some.injEq] at h; subst h; simpa only [CVs] using hv
  | v :: l, l', us, h, hv => by
    simp only [CVs] at hv
    obtain ⟨u, ur, rfl, h1, h2⟩ := hv
    unfold V.pubs at h
    split at h
    · rename_i y r hy hr
      cases h
      simp only [CVs]
      exact ⟨u, ur, rfl, pub_ok v y u hy h1, pubs_ok l r ur hr h2⟩
    · cases h
end

/-- a function that is data, as a function -/
def V.unc : V → V
  | .c (.fnc f) => .fn f []
  | v => v
theorem unc_ok {x : Cx} {w : World} {v : V} {u : Value} (h : CV x w v u) : CV x w v.unc u := by
  unfold V.unc
  split
  · simp only [CV, RdC] at h
    simp only [CV, CVs]
    exact ⟨#[], h, rfl⟩
  · exact h
def callOf (e : Operand → V) : Op → Option (FuncId × List V)
  | .call ⟨.value f, args, _⟩ => match (e f).unc with
    | .fn f caps => some (f, args.toList.map e ++ caps)
    | _ => none
  | _ => none
def ACall (P : Program) (f : FuncId) (args : List V) (K : V → Prop) : Prop := ∃ args' res, V.pubs args = some args' ∧ AC P f args' res ∧ (∃ fn, P.funcs[f]? = some fn ∧ fn.body.isSome = true ∧ fn.name ≠ "runtime.NumGoroutine") ∧ K res

def awant (ops : List Oper) (t : List V) (o : Oper) (K1 K2 : Prop) : Prop :=
  match o.guard with
  | none => K1
  | some (j, want) => match (ops[j]?).bind (·.dst) with
    | some d => match t.getD d .any with
      | .c (.bool b) => (b = want → K1) ∧ (b = (!want) → K2)
      | .tup [] => K2
      | _ => False
    | none => False
def aoper (P : Program) (o : Oper) (s : St) (K : V → Option (Nat × O) → Prop) : Prop :=
  match callOf (ev s.t) o.op with
  | some (f, args) => ACall P f args fun v => K v none
  | none => match (aopF P (ev s.t) o.op).ap (fun k => s.h[k]?) s.h.length with
    | some (v, t) => K v t
    | none => False
def St.step (s : St) (d : Option Tmp) (v : V) (t : Option (Nat × O)) : St := St.put { s with h := updH s.h t } d v
def aops (P : Program) (ops : List Oper) (K : St → Prop) : List Oper → St → Prop
  | [], s => K s
  | o :: r, s => awant ops s.t o (aoper P o s fun v t => aops P ops K r (s.step o.dst v t)) (aops P ops K r (s.put o.dst (.tup [])))

theorem awant_ok {ops : List Oper} {K1 K2 : Prop} (ht : CVs x w s.t a.tmps.toList) (h : awant ops s.t o K1 K2) : (Region.wanted o (yielded ops.toArray a.tmps) = true → K1) ∧ (Region.wanted o (yielded ops.toArray a.tmps) ≠ true → K2) := by
  unfold awant at h
  unfold Region.wanted
  cases hg : o.guard with
  | none => rw [hg] at h; simp only at h ⊢; exact ⟨fun _ => h, fun h => absurd rfl h⟩
  | some p =>
    obtain ⟨j, want⟩ := p
    rw [hg] at h
    simp only at h ⊢
    split at h
    · rename_i d hd
      split at h
      · rename_i b hb
        have hv := ht.getD d undef
        rw [hb] at hv
        simp only [CV, RdC] at hv
        have hy : yielded ops.toArray a.tmps j = some b := by
          unfold yielded
          have : (ops.toArray[j]?).bind (·.dst) = some d := by simpa using hd
          rw [this]
          have hx : a.tmps[d]? = some (.bool b) := by
            rw [List.getD_eq_getElem?_getD] at hv
            cases hq : a.tmps.toList[d]? with
            | none => rw [hq] at hv; cases hv
            | some y => rw [hq] at hv; simp only [Option.getD_some] at hv; subst hv; simpa using hq
          simp [hx]
        rw [hy]
        refine ⟨fun he => h.1 (by simpa using he), fun he => h.2 ?_⟩
        have : b ≠ want := fun e => he (by rw [e]; simp)
        cases b <;> cases want <;> simp_all
      · rename_i hb
        have hv := ht.getD d undef
        rw [hb] at hv
        simp only [CV] at hv
        obtain ⟨vs, hv, _⟩ := hv
        have hy : yielded ops.toArray a.tmps j = none := by
          unfold yielded
          have : (ops.toArray[j]?).bind (·.dst) = some d := by simpa using hd
          rw [this]
          have hx : a.tmps[d]? = none ∨ a.tmps[d]? = some (.tuple vs) := by
            rw [List.getD_eq_getElem?_getD] at hv
            cases hq : a.tmps.toList[d]? with
            | none => left; simpa using hq
            | some y => rw [hq] at hv; simp only [Option.getD_some] at hv; subst hv; right; simpa using hq
          rcases hx with hx | hx <;> simp [hx]
        rw [hy]
        exact ⟨fun he => by simp at he, fun _ => h⟩
      · exact h.elim
    · exact h.elim

theorem undef_ok (x : Cx) (w : World) : CV x w (.tup []) undef := by
  simp only [CV]
  exact ⟨#[], rfl, by simp only [CVs]⟩
theorem bare_ext (S : Area) (x : Cx) (w : World) : Ext (Cx.bare S) { x with S := S } w w := ⟨Ar.refl _ _, fun _ h => h.elim, fun _ h => h.elim⟩

theorem call_ok (hA : Abs S0 w0 x s a w) {f : FuncId} {args : List V} (hc : callOf (ev s.t) o.op = some (f, args)) {K : V → Prop} (h : ACall P f args K) {next : Act → World → Prop} {Q : Exit → Act → World → Prop}
    (hn : ∀ v u x' w', K v → Good S0 w0 x' w' (fun k => s.h[k]?) → Ext x x' w w' → NC w w' → CV x' w' v u → next (a.put o.dst u) w') : o.wp P a w next Q := by
  obtain ⟨args', res, hp, hac, ⟨fn, hfn, hbody, hname⟩, hK⟩ := h
  unfold callOf at hc
  split at hc
  case h_2 => cases hc
  rename_i fo ar tys ho
  split at hc
  case h_2 => cases hc
  rename_i f' caps hf
  simp only [Option.some.injEq, Prod.mk.injEq] at hc
  obtain ⟨rfl, rfl⟩ := hc
  have hfo := unc_ok (ev_ok hA.tm fo)
  rw [hf] at hfo
  simp only [CV] at hfo
  obtain ⟨vs, hfo, hcaps⟩ := hfo
  have hargs : CVs x w (ar.toList.map (ev s.t) ++ caps) (ar.toList.map a.eval ++ vs.toList) := (CVs.of_map fun y _ => ev_ok hA.tm y).append hcaps
  have := hac x.S w _ hA.good.ex (pubs_ok _ _ _ hp hargs)
  have hb : fn.body ≠ none := by intro e; rw [e] at hbody; cases hbody
  have hrun : (execOp a.eval o).run P w = .ok (.enter f' (ar.toList.map a.eval ++ vs.toList).toArray) w := by
    have e1 : (ar.map a.eval ++ vs) = (ar.toList.map a.eval ++ vs.toList).toArray := by apply Array.toList_inj.1; simp
    simp [execOp, ho, resolve, hfo, Deferred.ofValue, invoke, callFunc, program, Sem.run, hfn, hname, hb, e1]
  unfold Oper.wp
  rw [hrun]
  refine this.mono ?_
  rintro r w' ⟨u, S', rfl, hkeep, har, hnew, hcv⟩
  obtain ⟨g', he⟩ := hA.good.stepA (x' := { x with S := S' }) hkeep har rfl rfl hnew
  exact hn res u _ w' hK g' he (.of_keep hkeep) (CV.mono (bare_ext S' x w') _ _ hcv)

theorem aoper_ok (hA : Abs S0 w0 x s a w) {K : V → Option (Nat × O) → Prop} (h : aoper P o s K) {next : Act → World → Prop} {Q : Exit → Act → World → Prop}
    (hn : ∀ v t u x' w', K v t → Good S0 w0 x' w' (fun k => (updH s.h t)[k]?) → Ext x x' w w' → NC w w' → CV x' w' v u → next (a.put o.dst u) w') : o.wp P a w next Q := by
  unfold aoper at h
  split at h
  · rename_i f args hc
    exact call_ok hA hc h fun v u x' w' hK g he hnc hv => hn v none u x' w' hK g he hnc hv
  · split at h
    · rename_i v t hap
      obtain ⟨nx, w', x', u, hr, hnx, hcv, g', he, _⟩ := aop_sound hA.good.rebase (fun y _ => ev_ok hA.tm y) (fun _ _ => hA.fresh) hap
      rw [← updH_eq _ _ (ap_le hap)] at g'
      obtain ⟨g', hnc⟩ := hA.good.unbase he g'
      unfold Oper.wp
      rw [hr]
      rcases hnx with rfl | ⟨rfl, rfl⟩
      · exact hn v t u x' w' h g' he hnc hcv
      · exact hn v t undef x' w' h g' he hnc hcv
    · exact h.elim

theorem aops_ok {ops : List Oper} {K : St → Prop} {Q : Exit → Act → World → Prop} (hQ : ∀ x s a w, K s → Abs S0 w0 x s a w → Q .normal a w) : ∀ (l : List Oper) (x : Cx) (s : St) (a : Act) (w : World), aops P ops K l s → Abs S0 w0 x s a w → wpList P ops.toArray Q l a w
  | [], x, s, a, w, h, hA => hQ x s a w h hA
  | o :: r, x, s, a, w, h, hA => by
    unfold aops at h
    obtain ⟨h1, h2⟩ := awant_ok hA.tm h
    unfold wpList
    split
    · rename_i hw
      refine .inl (aoper_ok hA (h1 hw) fun v t u x' w' hK g he hnc hv => ?_)
      exact aops_ok hQ r x' _ _ w' hK (Abs.put hA.tm (hA.df.mono hnc) he g hv o.dst)
    · rename_i hw
      refine aops_ok hQ r x _ _ w (h2 hw) ?_
      exact Abs.put (v := .tup []) (u := undef) hA.tm hA.df (Ext.refl x w) hA.good (undef_ok x w) o.dst

theorem aoper_nodefer {K : V → Option (Nat × O) → Prop} (h : aoper P o s K) (c : Call) : o.op ≠ .defer c := by
  intro e
  unfold aoper at h
  rw [e] at h
  simp [callOf, aopF, aop, Pl.ap] at h
theorem aops_okIn {lp n : Nat} {ops : List Oper} {K : St → Prop} {Q : Exit → Act → World → Prop} (hQ : ∀ x s a w, K s → Abs S0 w0 x s a w → Q .normal a w) : ∀ (l : List Oper) (x : Cx) (s : St) (a : Act) (w : World), aops P ops K l s → Abs S0 w0 x s a w → wpListIn (Fence.wide.inRound lp) n P ops.toArray Q l a w
  | [], x, s, a, w, h, hA => hQ x s a w h hA
  | o :: r, x, s, a, w, h, hA => by
    unfold aops at h
    obtain ⟨h1, h2⟩ := awant_ok hA.tm h
    unfold wpListIn
    split
    · rename_i hw
      refine opIn_of (aoper_nodefer (h1 hw)) (aoper_ok hA (h1 hw) fun v t u x' w' hK g he hnc hv => ?_)
      exact aops_okIn hQ r x' _ _ w' hK (Abs.put hA.tm (hA.df.mono hnc) he g hv o.dst)
    · rename_i hw
      refine ⟨fun _ _ => trivial, aops_okIn hQ r x _ _ w (h2 hw) ?_⟩
      exact Abs.put (v := .tup []) (u := undef) hA.tm hA.df (Ext.refl x w) hA.good (undef_ok x w) o.dst

/-! the flow of control -/
/-- in a round of a range over a function, or not -/
structure Mo where
  rd : Option Nat
  n0 : Nat
def fz (m : Mo) : Fence := match m.rd with
  | none => Fence.wide
  | some l => Fence.wide.inRound l
variable {m : Mo}
/-- what is to be shown of a piece of code, in memory -/
def AW (m : Mo) (P : Program) (c : Code) (K : Exit → St → Prop) (s : St) : Prop :=
  ∀ (n : Nat) (S0 : Area) (w0 : Bs) (x : Cx) (a : Act) (w : World), w0.n0 ≤ m.n0 → Abs S0 w0 x s a w → c.wpIn (fz m) n P (fun e a w => ∃ x s, Abs S0 w0 x s a w ∧ K e s) a w
def aThen (n : St → Prop) (K : Exit → St → Prop) : Exit → St → Prop
  | .normal, s => n s
  | e, s => K e s
def aBlk (id : Nat) (K : Exit → St → Prop) : Exit → St → Prop
  | .exit i, s => if i = id then K .normal s else K (.exit i) s
  | e, s => K e s
def acond (P : Prop) (Q : Prop) : V → Prop
  | .c (.bool b) => (b = true → P) ∧ (b = false → Q)
  | _ => False
theorem AW.mono {c : Code} {K K' : Exit → St → Prop} (h : AW m P c K s) (hk : ∀ e s, K e s → K' e s) : AW m P c K' s := fun n S0 w0 x a w hm hA => wpIn_mono (h n S0 w0 x a w hm hA) fun e a w ⟨x, s, h1, h2⟩ => ⟨x, s, h1, hk e s h2⟩
theorem AW.skip {K : Exit → St → Prop} (h : K .normal s) : AW m P .skip K s := fun n S0 w0 x a w hm hA => wpIn_skip ⟨x, s, hA, h⟩
theorem AW.label {l : Nat} {K : Exit → St → Prop} (h : K .normal s) : AW m P (.label l) K s := fun n S0 w0 x a w hm hA => wpIn_label ⟨x, s, hA, h⟩
theorem AW.ret {K : Exit → St → Prop} (h : K .ret s) : AW m P .ret K s := fun n S0 w0 x a w hm hA => wpIn_ret ⟨x, s, hA, h⟩
theorem AW.exit {id : Nat} {K : Exit → St → Prop} (h : K (.exit id) s) : AW m P (.exit id) K s := fun n S0 w0 x a w hm hA => wpIn_exit ⟨x, s, hA, h⟩
theorem AW.goto {id : Nat} {K : Exit → St → Prop} (h : K (.goto id) s) : AW m P (.goto id) K s := fun n S0 w0 x a w hm hA => wpIn_goto ⟨x, s, hA, h⟩
theorem AW.seq {c d : Code} {K : Exit → St → Prop} (h : AW m P c (aThen (AW m P d K) K) s) : AW m P (.seq c d) K s := fun n S0 w0 x a w hm hA => wpIn_seq (wpIn_mono (h n S0 w0 x a w hm hA) fun e a w ⟨x, s, h1, h2⟩ => by
  cases e with
  | normal => exact h2 n S0 w0 x a w hm h1
  | _ => exact ⟨x, s, h1, h2⟩)
theorem AW.block {id : Nat} {c : Code} {K : Exit → St → Prop} (h : AW m P c (aBlk id K) s) : AW m P (.block id c) K s := fun n S0 w0 x a w hm hA => wpIn_block (wpIn_mono (h n S0 w0 x a w hm hA) fun e a w ⟨x, s, h1, h2⟩ => by
  cases e with
  | exit i =>
    simp only [aBlk, Exit.inBlock] at h2 ⊢
    split
    · rename_i e; rw [if_pos e] at h2; exact ⟨x, s, h1, h2⟩
    · rename_i e; rw [if_neg e] at h2; exact ⟨x, s, h1, h2⟩
  | _ => exact ⟨x, s, h1, h2⟩)
theorem AW.cond {c : Operand} {d d' : Code} {K : Exit → St → Prop} (h : acond (AW m P d K s) (AW m P d' K s) (ev s.t c)) : AW m P (.cond c d d') K s := fun n S0 w0 x a w hm hA => by
  have hc := ev_ok hA.tm c
  cases hv : ev s.t c with
  | c cc =>
    cases cc with
    | bool b =>
      rw [hv] at h hc
      simp only [CV, RdC] at hc
      exact wpIn_cond_split hc (fun e => h.1 e n S0 w0 x a w hm hA) (fun e => h.2 e n S0 w0 x a w hm hA)
    | _ => rw [hv] at h; exact h.elim
  | _ => rw [hv] at h; exact h.elim
theorem AW.region {id : Nat} {ops : List Oper} {K : Exit → St → Prop} (h : aops P ops (K .normal) ops s) : AW m P (.region id ops.toArray false) K s := fun n S0 w0 x a w hm hA => by
  obtain ⟨rd, n0⟩ := m
  cases rd with
  | none => exact wpIn_wide.2 (wp_region_lit (aops_ok (fun x s a w h hA => ⟨x, s, hA, h⟩) ops x s a w h hA))
  | some l => exact wpIn_region_lit (aops_okIn (fun x s a w h hA => ⟨x, s, hA, h⟩) ops x s a w h hA)
theorem wpIn_loop_ix {F : Fence} {n : Nat} {c : Code} {ι : Type} {Q : Exit → Act → World → Prop} (I : ι → Act → World → Prop) (μ : ι → Nat) (i0 : ι) (h₀ : I i0 a w)
    (round : ∀ i a w, I i a w → c.wpIn F n P (Exit.then (fun a' w' => ∃ j, I j a' w' ∧ μ j < μ i) Q) a w) : (Code.loop c).wpIn F n P Q a w := by
  intro b k cs hro hb hr
  have key : ∀ q i a w, μ i = q → I i a w →
      ∃ e a' w', Q e a' w' ∧ ArrivesIn (Machine.fenced P F) P (lone (b.atR a (.code c :: .inLoop c :: k)) cs w) b k cs e a' w' := by
    intro q
    induction q using Nat.strongRecOn with
    | _ q ih =>
      intro i a w hn hI
      obtain ⟨e, a₁, w₁, hq, harr⟩ := round i a w hI b (.inLoop c :: k) cs hro hb hr
      cases e with
      | normal =>
        obtain ⟨j, hI₁, hlt⟩ := hq
        obtain ⟨e₂, a₂, w₂, hq₂, harr₂⟩ := ih (μ j) (hn ▸ hlt) j a₁ w₁ rfl hI₁
        exact ⟨e₂, a₂, w₂, hq₂, .of_steps (StepsIn.trans harr (.one (fenced_calm hb hr rfl) stepR_inLoop)) harr₂⟩
      | exit id => exact ⟨_, a₁, w₁, hq, .pass (x := .inLoop c) rfl (fun _ _ => .inl (by simp)) harr⟩
      | goto l => exact ⟨_, a₁, w₁, hq, .pass (x := .inLoop c) rfl (fun _ _ => .inl (by simp)) harr⟩
      | ret => exact ⟨_, a₁, w₁, hq, .pass (x := .inLoop c) rfl (fun _ _ => .inl (by simp)) harr⟩
      | panic ch => exact ⟨_, a₁, w₁, hq, .pass (x := .inLoop c) rfl (fun _ _ => .inl (by simp)) harr⟩
      | outgrown => exact ⟨_, a₁, w₁, hq, .pass (x := .inLoop c) rfl (fun _ _ => .inl (by simp)) harr⟩
  obtain ⟨e, a', w', hq, harr⟩ := key _ i0 a w rfl h₀
  exact ⟨e, a', w', hq, .of_steps (.one (fenced_calm hb hr rfl) stepR_loop) harr⟩
/-- every memory of the state s is one of the state s' -/
def Le (m : Mo) (s s' : St) : Prop := ∀ (S0 : Area) (w0 : Bs) (x : Cx) (a : Act) (w : World), w0.n0 ≤ m.n0 → Abs S0 w0 x s a w → ∃ x', Abs S0 w0 x' s' a w
theorem Le.refl (s : St) : Le m s s := fun _ _ x _ _ _ h => ⟨x, h⟩
theorem Le.trans {s s' s'' : St} (h : Le m s s') (k : Le m s' s'') : Le m s s'' := fun S0 w0 x a w hm hA => let ⟨x', h'⟩ := h S0 w0 x a w hm hA; k S0 w0 x' a w hm h'
theorem AW.le {c : Code} {K : Exit → St → Prop} {s' : St} (hl : Le m s s') (h : AW m P c K s') : AW m P c K s := fun n S0 w0 x a w hm hA => let ⟨x', h'⟩ := hl S0 w0 x a w hm hA; h n S0 w0 x' a w hm h'
/-- a loop: an invariant and a measure -/
theorem AW.loop {c : Code} {K : Exit → St → Prop} {ι : Type} (I : ι → St) (μ : ι → Nat) (i0 : ι) (h0 : Le m s (I i0))
    (h : ∀ i, AW m P c (aThen (fun s' => ∃ j, μ j < μ i ∧ Le m s' (I j)) K) (I i)) : AW m P (.loop c) K s := fun n S0 w0 x a w hm hA => by
  obtain ⟨x', hA'⟩ := h0 S0 w0 x a w hm hA
  refine wpIn_loop_ix (fun i a w => ∃ x, Abs S0 w0 x (I i) a w) μ i0 ⟨x', hA'⟩ fun i a w hi => ?_
  obtain ⟨x1, hA1⟩ := hi
  refine wpIn_mono (h i n S0 w0 x1 a w hm hA1) fun e a w ⟨x, s, h1, h2⟩ => ?_
  cases e with
  | normal =>
    obtain ⟨j, hj, hl⟩ := h2
    obtain ⟨x2, h2⟩ := hl S0 w0 x a w hm h1
    exact ⟨j, ⟨x2, h2⟩, hj⟩
  | _ => exact ⟨x, s, h1, h2⟩

/-! contracts out of bodies -/
def ares1 (P : Program) (s : St) : ResultVar → Option V
  | .tmp t => some (s.t.getD t .any)
  | .cell p ty => match tOne P ty, s.t.getD p .any with
    | some q, .ptr k off => match s.h[k]? with
      | some (.box _ cs _) => ldV q cs off
      | _ => none
    | _, _ => none
def aresL (P : Program) (s : St) : List ResultVar → Option (List V)
  | [] => some []
  | r :: l => match ares1 P s r, aresL P s l with
    | some v, some vs => some (v :: vs)
    | _, _ => none
def ares (P : Program) (s : St) (l : List ResultVar) : Option V :=
  match aresL P s l with
  | some [v] => v.pub
  | some vs => (V.tup vs).pub
  | none => none
def aRet (P : Program) (l : List ResultVar) (res : V) : Exit → St → Prop
  | .normal, s => ares P s l = some res
  | .ret, s => ares P s l = some res
  | _, _ => False
def resSem (tmps : Array Value) (r : ResultVar) : Sem Value :=
  match r with
  | .tmp t => pure (tmps.getD t undef)
  | .cell p t => do loadVar t (← asAddr (tmps.getD p undef))
theorem ares1_ok (hA : Abs S0 w0 x s a w) {r : ResultVar} (h : ares1 P s r = some v) : ∃ u, (resSem a.tmps r).run P w = .ok u w ∧ CV x w v u := by
  cases r with
  | tmp t =>
    simp only [ares1, Option.some.injEq] at h
    subst h
    exact ⟨_, rfl, by have := hA.tm.getD t undef; simpa [Array.getD_eq_getD_getElem?, List.getD_eq_getElem?_getD] using this⟩
  | cell p ty =>
    simp only [ares1] at h
    split at h
    · rename_i q k off hq hp
      split at h
      · rename_i ty' cs fr hH
        have hv : CV x w (.ptr k off) (a.tmps.getD p undef) := by
          have := hA.tm.getD p undef
          rw [hp] at this
          simpa [Array.getD_eq_getD_getElem?, List.getD_eq_getElem?_getD] using this
        simp only [CV] at hv
        obtain ⟨_, _, vs, hb, hn, hcs⟩ := (hA.good.ok k _ hH).2
        obtain ⟨u, hr, hu⟩ := load_ok (x := x) (w := w) (b := (x.loc k).b) (o := 0) hq (fun j v hj => by
          obtain ⟨u, h1, h2⟩ := hcs.get j v hj
          refine ⟨u, ?_, h2⟩
          rw [Nat.zero_add, cell_of_row w _ j vs ty' (0, 0) hb]
          simpa using h1) h
        rw [Nat.zero_add] at hr
        exact ⟨u, by simp only [resSem, hv.2.2, asAddr, Sem.run_bind, Sem.run_pure, Result.andThen_ok]; exact hr, hu⟩
      · cases h
    · cases h
theorem aresL_ok (hA : Abs S0 w0 x s a w) : ∀ {l : List ResultVar} {vs : List V}, aresL P s l = some vs → ∃ us, (l.mapM (resSem a.tmps)).run P w = .ok us w ∧ CVs x w vs us
  | [], vs, h => by simp only [aresL, Option.some.injEq] at h; subst h; exact ⟨[], by simp, by simp only [CVs]⟩
  | r :: l, vs, h => by
    unfold aresL at h
    split at h
    · rename_i v vs' h1 h2
      cases h
      obtain ⟨u, r1, c1⟩ := ares1_ok hA h1
      obtain ⟨us, r2, c2⟩ := aresL_ok hA h2
      refine ⟨u :: us, ?_, by simp only [CVs]; exact ⟨u, us, rfl, c1, c2⟩⟩
      simp only [List.mapM_cons, Sem.run_bind, r1, Result.andThen_ok, r2, Sem.run_pure]
    · cases h
theorem ares_ok (hA : Abs S0 w0 x s a w) {fn : Func} {res : V} (h : ares P s fn.results.toList = some res) : ∃ u, (results fn a.tmps).run P w = .ok u w ∧ CV (Cx.bare x.S) w res u := by
  unfold ares at h
  cases hl : aresL P s fn.results.toList with
  | none => rw [hl] at h; cases h
  | some vs =>
    rw [hl] at h
    obtain ⟨us, hr, hc⟩ := aresL_ok hA hl
    have hr' : (results fn a.tmps).run P w = .ok (if h : us.toArray.size = 1 then us.toArray[0] else .tuple us.toArray) w := by
      have e : results fn a.tmps = (fn.results.mapM (resSem a.tmps) >>= fun vs => pure (if h : vs.size = 1 then vs[0] else .tuple vs)) := rfl
      rw [e, Array.mapM_eq_mapM_toList]
      simp [hr]
    refine ⟨_, hr', ?_⟩
    match vs, h, hc with
    | [v], h, hc =>
      simp only [CVs] at hc
      obtain ⟨u, ur, rfl, hc2, rfl⟩ := hc
      exact pub_ok v res u h hc2
    | [], h, hc =>
      simp only [CVs] at hc
      subst hc
      refine pub_ok (.tup []) res _ h ?_
      simp only [CV]
      exact ⟨#[], rfl, by simp only [CVs]⟩
    | v :: v' :: r, h, hc =>
      have hlen := hc.len
      rw [dif_neg (by simp [hlen])]
      refine pub_ok (.tup (v :: v' :: r)) res _ h ?_
      simp only [CV]
      exact ⟨_, rfl, hc⟩
theorem rep_any (x : Cx) (w : World) (n : Nat) (u : Value) : CVs x w (List.replicate n .any) (List.replicate n u) := CVs.of_get (by simp) fun i v u' h1 h2 => by
  rw [List.getElem?_replicate] at h1
  split at h1
  · cases h1; simp only [CV]
  · cases h1
/-- a frame on its way out, with the marks of its loops -/
theorem leaves_marks {fn : Func} {R : Ending → World → Prop} {res : V} (hr : ares P s fn.results.toList = some res) {tmps : Array Value} : ∀ (Ds : List Nat) (w : World), Ds.Nodup → (∀ D ∈ Ds, ¬ w0.F D ∧ w.heap[D]? = some (.deferred (some []))) → Good S0 w0 x w (fun k => s.h[k]?) → CVs x w s.t tmps.toList →
    (∀ w u, Good S0 w0 x w (fun k => s.h[k]?) → CV (Cx.bare x.S) w res u → R (.returned u) w) → LeavesInM Fence.wide 0 P fn tmps R (Ds.map fun D => { target := .collected D, args := #[] }) .returning w
  | [], w, _, _, g, ht, hR => by
    obtain ⟨u, h1, h2⟩ := ares_ok (fn := fn) (a := { tmps := tmps, defers := [] }) ⟨g, ht, Marks.nil _ _⟩ hr
    exact ⟨u, h1, hR w u g h2⟩
  | D :: Ds, w, hn, hD, g, ht, hR => by
    obtain ⟨h1, h2⟩ := hD D (by simp)
    have hg : w.grownBy (w.putObj D (.deferred none)) (some D) := grownBy_putObj' w D _
    obtain ⟨g', he⟩ := g.grown hg fun r e => by cases e; exact ⟨h1, _, h2, rfl⟩
    rw [List.nodup_cons] at hn
    refine ⟨by simp, .inl ⟨D, _, rfl, run_takeDeferred h2, leaves_marks hr Ds _ hn.2 (fun D' hD' => ?_) g' (CVs.mono he _ _ ht) hR⟩⟩
    obtain ⟨k1, k2⟩ := hD D' (by simp [hD'])
    have hne : D' ≠ D := fun e => hn.1 (by rw [← e]; exact hD')
    exact ⟨k1, by rw [World.putObj_heap_other hne]; exact k2⟩
/-- A FUNCTION'S CONTRACT, out of its body -/
theorem AC.intro {f : FuncId} {fn : Func} {c : Code} {args : List V} {res : V} (hf : P.funcs[f]? = some fn) (hb : fn.body = some c) (h : AW ⟨none, 0⟩ P c (aRet P fn.results.toList res) ⟨args ++ List.replicate (fn.ntmps - args.length) .any, []⟩) : AC P f args res := by
  intro S w us hS hus
  refine callsIn_wide.1 (callsIn_of_wp_marks (F := Fence.wide) (n := 0) hf hb trivial ?_)
  have hA : Abs S (Bs.of w) (Cx.bare S) ⟨args ++ List.replicate (fn.ntmps - args.length) .any, []⟩ { tmps := us.toArray ++ Array.replicate (fn.ntmps - us.toArray.size) undef, defers := [] } w := by
    refine ⟨⟨fun k o h => by simp at h, fun k h => h.elim, fun k k' o o' h => by simp at h, fun k o j h => by simp at h, hS, fun k o h => by simp at h, fun b j h => .inl h, fun b j h => h, .of_keep (Keep.refl w), Ext.none _ _ _⟩, ?_, Marks.nil _ _⟩
    simp only [Array.toList_append, Array.toList_replicate]
    have hl : us.toArray.size = args.length := by simpa using hus.len
    rw [hl]
    exact hus.append (rep_any _ _ _ _)
  refine wpIn_mono (h 0 S (Bs.of w) _ _ w (Nat.le_refl _) hA) fun e a' w' ⟨x, s, hA', hK⟩ => ?_
  have fin : ∀ {R : Ending → World → Prop}, (∀ u w' S', Keep w w' → Ar S S' w w' → (∀ b j, S' b j → S b j ∨ (w.heap.size ≤ b ∧ b < w'.heap.size)) → CV (Cx.bare S') w' res u → R (.returned u) w') → ares P s fn.results.toList = some res → LeavesInM Fence.wide 0 P fn a'.tmps R a'.defers .returning w' := by
    intro R hR hr
    obtain ⟨Ds, e, h1, h2⟩ := hA'.df
    rw [e]
    refine leaves_marks hr Ds w' h1 h2 hA'.good hA'.tm fun w2 u g hu => hR u w2 x.S g.keep.all ⟨g.sub, fun b j v hs hc => g.keep.all.cell hc⟩ (fun b j hs => ?_) hu
    rcases g.new b j hs with h | h
    · exact .inl h
    · exact .inr ⟨Nat.le_of_not_lt h, g.ex b j hs⟩
  cases e with
  | normal => exact fin (fun u w' S' h1 h2 h3 h4 => ⟨u, S', rfl, h1, h2, h3, h4⟩) hK
  | ret => exact fin (fun u w' S' h1 h2 h3 h4 => ⟨u, S', rfl, h1, h2, h3, h4⟩) hK
  | _ => exact hK.elim
end Go.Proofs.YtnpenchciinmmaaGreat
