import Derived.WalkKit
import Derived.Laws.Rows
import Derived.Laws.ResultCell
import Derived.Deep.Draws
import Derived.Lib.Hide
import GoSem.Core.Value
import Derived.Test.YtnpenchciinmmaaGreatProg
import Derived.OpenShut
import Derived.Orders
import Derived.KernelRfl
import Derived.Maps.OwnSet
import Derived.Maps.OwnOps
import Derived.Maps.Views
import Derived.StringKeys
import Derived.Outline
import Derived.Deep.Light
/-
  Laws of the walk for aggregates that are kept whole: a struct value is '.agg cs' with cs a variable; loads, stores and boxes of it are one step each.
-/
namespace Go.Proofs.YtnpenchciinmmaaGreat
open Go.RowKit

/-- the cells cs lie from offset off of block b on -/
def RowAt (w : World) (b off : Nat) (cs : Array Value) : Prop := ∀ j, j < cs.size → w.cell? ⟨b, off + j, none⟩ = cs[j]?

def aggDesc : TypeDesc → Bool
  | .struct _ | .array _ _ => true
  | _ => false

/-- ty is a struct or an array of n cells -/
def AggTy (P : Program) (ty : TypeId) (n : Nat) : Prop :=
  ∃ d, P.underlying ty = some d ∧ aggDesc d = true ∧ (P.info? ty).map (·.size) = some n

theorem AggTy.mk' {P : Program} {ty : TypeId} {n : Nat} {d : TypeDesc} (h : P.underlying ty = some d) (h1 : aggDesc d = true) (h2 : (P.info? ty).map (·.size) = some n) : AggTy P ty n := ⟨d, h, h1, h2⟩

/-- each value is one cell -/
def Ones (cs : Array Value) : Prop := ∀ v ∈ cs.toList, v.oneCell' = true

theorem add_mk (b off n : Nat) : (⟨b, off, none⟩ : Addr).add n = ⟨b, off + n, none⟩ := by
  unfold Addr.add
  split
  · rename_i h; subst h; rfl
  · rfl

/-- a block that is known whole -/
def Blk (w : World) (g : Nat) (t : TypeId) (cs : Array Value) : Prop := w.heap[g]? = some (.cells cs t (0, 0))

theorem Blk.lt {w : World} {g : Nat} {t : TypeId} {cs : Array Value} (h : Blk w g t cs) : g < w.heap.size := (Array.getElem?_eq_some_iff.1 h).1
theorem Blk.cell {w : World} {g : Nat} {t : TypeId} {cs : Array Value} (h : Blk w g t cs) (i : Nat) : w.cell? ⟨g, i, none⟩ = cs[i]? := cell_of_row w g i cs t (0, 0) h
theorem Blk.frozen {w : World} {g : Nat} {t : TypeId} {cs : Array Value} (h : Blk w g t cs) (i : Nat) : w.frozen? ⟨g, i, none⟩ = false := frozen_of_row w g i cs t h
theorem Blk.new (w : World) (t : TypeId) (cs : Array Value) : Blk (w.alloc (.cells cs t)) w.heap.size t cs := heap_alloc_new w _
theorem Blk.at_ (w : World) (t : TypeId) (cs : Array Value) {g : Nat} (h : g = w.heap.size) : Blk (w.alloc (.cells cs t)) g t cs := by subst h; exact Blk.new w t cs
theorem Blk.alloc {w : World} {g : Nat} {t : TypeId} {cs : Array Value} (h : Blk w g t cs) (o : Obj) : Blk (w.alloc o) g t cs := (Below.heap_alloc w o g h.lt).trans h
theorem Blk.below {w w' : World} {g B : Nat} {t : TypeId} {cs : Array Value} (h : Blk w g t cs) (hb : Below B w w') (hg : g < B) : Blk w' g t cs := (hb.block g hg).trans h
theorem Blk.row {w : World} {g : Nat} {t : TypeId} {cs : Array Value} (h : Blk w g t cs) : RowAt w g 0 cs := fun j _ => by rw [Nat.zero_add]; exact h.cell j
theorem Blk.set_ {w : World} {g : Nat} {t : TypeId} {old : Array Value} (h : Blk w g t old) (cs : Array Value) : Blk (w.setRow g cs) g t cs := setRow_heap w g old cs t (0, 0) h
theorem Blk.far {w : World} {g k : Nat} {t : TypeId} {old : Array Value} (h : Blk w k t old) (cs : Array Value) (hk : k ≠ g) : Blk (w.setRow g cs) k t old := (setRow_other w g k cs hk).trans h

theorem setRow_alloc_at (w : World) (old cs : Array Value) (t : TypeId) (fr : Nat × Nat) (g : Nat) (h : g = w.heap.size) : (w.alloc (.cells old t fr)).setRow g cs = w.alloc (.cells cs t fr) := by
  subst h
  show ({ w with heap := (w.heap.push _).modify _ _ } : World) = { w with heap := w.heap.push _ }
  congr 1
  apply Array.ext
  · simp
  · intro i h1 h2
    simp only [Array.size_modify, Array.size_push] at h1
    rw [Array.getElem_modify]
    by_cases hi : w.heap.size = i
    · subst hi; simp
    · have : i < w.heap.size := by omega
      simp [hi, Array.getElem_push, this]
section
variable {P : Program} {ops : Array Oper} {rest : List Oper} {a : Act} {w : World} {Q : Exit → Act → World → Prop} {dst : Option Tmp} {tyo : TypeId} {pos : String} {after : Array Edge}

theorem run_loadVar_at {ty : TypeId} {b off : Nat} {cs : Array Value} (hr : RowAt w b off cs) (ht : AggTy P ty cs.size) : (loadVar ty ⟨b, off, none⟩).run P w = .ok (.agg cs) w := by
  obtain ⟨d, hu, hd, hi⟩ := ht
  have hl : (loadCells ⟨b, off, none⟩ cs.toList.length).run P w = .ok cs.toList.toArray w :=
    run_loadCells_list (P := P) w ⟨b, off, none⟩ cs.toList (fun j v hv => by
      rw [add_mk]
      have hj : j < cs.size := by
        have := (List.getElem?_eq_some_iff.1 hv).1
        simpa using this
      rw [hr j hj]
      simpa using hv)
  cases hq : P.info? ty with
  | none => simp [hq] at hi
  | some i =>
    have hs : i.size = cs.size := by simpa [hq] using hi
    have hagg : (isAgg ty).run P w = .ok true w := by
      unfold isAgg
      rw [Sem.run_bind, run_underlying hu w]
      cases d <;> simp_all [aggDesc]
    simp only [Array.length_toList, Array.toArray_toList] at hl
    simp [loadVar, Sem.run_bind, hagg, sizeOf, typeInfo, hq, hs, hl]

/-- a struct is loaded whole -/
theorem wl_load {gd : Option (Nat × Bool)} {ty : TypeId} {x : Operand} (b off : Nat) (cs : Array Value) (hx : a.eval x = .pointer (some ⟨b, off, none⟩)) (hr : RowAt w b off cs) (ht : AggTy P ty cs.size)
    (hw : Region.wanted ⟨dst, .load ty x, tyo, pos, after, gd⟩ (yielded ops a.tmps) = true)
    (h : wpList P ops Q rest (a.put dst (.agg cs)) w) : wpList P ops Q (⟨dst, .load ty x, tyo, pos, after, gd⟩ :: rest) a w :=
  wpList_step fun _ hK => by
    rw [if_pos hw]
    unfold Oper.wp execOp
    simp only [hx, Instr.loadAt, Instr.sureAddr, Sem.run_bind, Sem.run_pure, Result.andThen_ok, run_loadVar_at hr ht]
    exact hK _ _ h

theorem set_all (cs : List Value) : ∀ (i : Nat) (old : Array Value), old.size = i + cs.length → (cs.zipIdx i).foldl (fun c p => c.setIfInBounds p.2 p.1) old = (old.toList.take i ++ cs).toArray := by
  induction cs with
  | nil => intro i old h; simp at h; subst h; simp [List.take_of_length_le]
  | cons v r ih =>
    intro i old h
    simp only [List.zipIdx_cons, List.foldl_cons]
    rw [ih (i + 1) _ (by simp at h ⊢; omega)]
    congr 1
    have hi : i < old.toList.length := by simp at h ⊢; omega
    simp only [Array.toList_setIfInBounds]
    rw [List.take_succ_eq_append_getElem (by simpa using hi), List.take_set_of_le (Nat.le_refl _)]
    simp

theorem run_storeCells_blk {g : Nat} {t : TypeId} : ∀ (vs : List Value) (i : Nat) (w : World) (old : Array Value), Blk w g t old → i + vs.length ≤ old.size → (∀ v ∈ vs, v.oneCell' = true) →
    (storeCells ⟨g, 0, none⟩ vs i).run P w = .ok () (w.setRow g ((vs.zipIdx i).foldl (fun c p => c.setIfInBounds p.2 p.1) old)) := by
  intro vs
  induction vs with
  | nil => intro i w old hb _ _; simp [storeCells, setRow_self w g old t (0, 0) hb]
  | cons v r ih =>
    intro i w old hb hi hv
    have hlt : i < old.size := by simp at hi; omega
    have hc : w.cell? ⟨g, i, none⟩ = some (old[i]) := by rw [hb.cell]; simp [hlt]
    have hst : (store ⟨g, i, none⟩ v .plain).run P w = .ok () (w.setRow g (old.setIfInBounds i v)) := by
      rw [run_store P _ _ v .plain (hv v (by simp)), setCell_eq_setRow w g i old t (0, 0) v hb]
      simp [hc, hb.frozen]
    unfold storeCells
    rw [Sem.run_bind, add_mk, Nat.zero_add, hst]
    simp only [Result.andThen_ok]
    rw [ih (i + 1) _ (old.setIfInBounds i v) (hb.set_ _) (by simp at hi ⊢; omega) (fun u hu => hv u (by simp [hu])), setRow_setRow]
    simp [List.zipIdx_cons]

theorem run_storeVar_blk {ty : TypeId} {g : Nat} {t : TypeId} {old cs : Array Value} (hb : Blk w g t old) (hs : old.size = cs.size) (h1 : Ones cs) (ht : AggTy P ty cs.size) :
    (storeVar ty ⟨g, 0, none⟩ (.agg cs)).run P w = .ok () (w.setRow g cs) := by
  obtain ⟨d, hu, hd, hi⟩ := ht
  cases hq : P.info? ty with
  | none => simp [hq] at hi
  | some i =>
    have hz : i.size = cs.size := by simpa [hq] using hi
    have h := run_storeCells_blk (P := P) (g := g) (t := t) cs.toList 0 w old hb (by simp [hs]) h1
    rw [set_all cs.toList 0 old (by simp [hs])] at h
    simp only [List.take_zero, List.nil_append, Array.toArray_toList] at h
    simp [storeVar, Value.cells, Sem.run_bind, sizeOf, typeInfo, hq, hz, h]

/-- a struct is stored whole into a block of the call's own -/
theorem wl_store {gd : Option (Nat × Bool)} {ty : TypeId} {x y : Operand} (g : Nat) (t : TypeId) (old cs : Array Value) (hx : a.eval x = .pointer (some ⟨g, 0, none⟩)) (hy : a.eval y = .agg cs) (hb : Blk w g t old) (hs : old.size = cs.size) (h1 : Ones cs) (ht : AggTy P ty cs.size)
    (hw : Region.wanted ⟨dst, .store ty x y, tyo, pos, after, gd⟩ (yielded ops a.tmps) = true)
    (h : wpList P ops Q rest (a.put dst undef) (w.setRow g cs)) : wpList P ops Q (⟨dst, .store ty x y, tyo, pos, after, gd⟩ :: rest) a w :=
  wpList_step fun _ hK => by
    rw [if_pos hw]
    unfold Oper.wp execOp
    simp only [hx, hy, Instr.storeAt, Instr.sureAddr, Sem.run_bind, Sem.run_pure, Result.andThen_ok, run_storeVar_blk hb hs h1 ht]
    exact hK _ _ h
/-- the same where the block is the newest one -/
theorem wl_store_last {gd : Option (Nat × Bool)} {ty : TypeId} {x y : Operand} {W : World} {t : TypeId} {old : Array Value} (g : Nat) (cs : Array Value) (hx : a.eval x = .pointer (some ⟨g, 0, none⟩)) (hy : a.eval y = .agg cs) (hg : g = W.heap.size) (hs : old.size = cs.size) (h1 : Ones cs) (ht : AggTy P ty cs.size)
    (hw : Region.wanted ⟨dst, .store ty x y, tyo, pos, after, gd⟩ (yielded ops a.tmps) = true)
    (h : wpList P ops Q rest (a.put dst undef) (W.alloc (.cells cs t))) : wpList P ops Q (⟨dst, .store ty x y, tyo, pos, after, gd⟩ :: rest) a (W.alloc (.cells old t)) :=
  wl_store g t old cs hx hy (Blk.at_ _ _ _ hg) hs h1 ht hw (by rw [setRow_alloc_at _ _ _ _ _ _ hg]; exact h)
theorem wl_store_in {gd : Option (Nat × Bool)} {ty : TypeId} {x y : Operand} (g : Nat) (cs : Array Value) (hx : a.eval x = .pointer (some ⟨g, 0, none⟩)) (hy : a.eval y = .agg cs) (hb : ∃ t old, Blk w g t old ∧ old.size = cs.size) (h1 : Ones cs) (ht : AggTy P ty cs.size)
    (hw : Region.wanted ⟨dst, .store ty x y, tyo, pos, after, gd⟩ (yielded ops a.tmps) = true)
    (h : wpList P ops Q rest (a.put dst undef) (w.setRow g cs)) : wpList P ops Q (⟨dst, .store ty x y, tyo, pos, after, gd⟩ :: rest) a w := by
  obtain ⟨t, old, hb, hs⟩ := hb
  exact wl_store g t old cs hx hy hb hs h1 ht hw h
end
end Go.Proofs.YtnpenchciinmmaaGreat

/-
  Data in memory: 'D' (numbers, bools, strings, slices, structs), 'Rd w d cs': the cells cs read as d in the world w; kept while old memory is kept ('Keep').
-/
namespace Go.Proofs.YtnpenchciinmmaaGreat
open Go.RowKit

/-- all memory of w is in w' as it was -/
def Keep (w w' : World) : Prop := Below w.heap.size w w'
theorem Keep.refl (w : World) : Keep w w := Below.refl _ _
theorem Keep.size {w w' : World} (h : Keep w w') : w.heap.size ≤ w'.heap.size := Below.size h
theorem Keep.trans {a b c : World} (h : Keep a b) (k : Keep b c) : Keep a c := Below.trans h (Below.mono k h.size)
theorem Keep.alloc {w W : World} (h : Keep w W) (o : Obj) : Keep w (W.alloc o) := Below.alloc h h.size o
theorem Keep.drew {w W : World} (h : Keep w W) : Keep w W.drew := Below.drew h
theorem Keep.drewN {w W : World} (h : Keep w W) (n : Nat) : Keep w (W.drewN n) := Below.trans h ⟨rfl, rfl, rfl, Nat.le_refl _, fun _ _ => rfl⟩
theorem Keep.setRow {w W : World} (h : Keep w W) {g : Nat} (hg : w.heap.size ≤ g) (cs : Array Value) : Keep w (W.setRow g cs) :=
  Below.trans h ⟨rfl, rfl, rfl, by simp, fun k hk => setRow_other W g k cs (by omega)⟩
theorem Keep.blk {W w1 : World} (h : Keep W w1) {g : Nat} {t : TypeId} {cs : Array Value} (hb : Blk W g t cs) : Blk w1 g t cs := hb.below h hb.lt
theorem Keep.cell {W w1 : World} (h : Keep W w1) {p : Addr} {v : Value} (hc : W.cell? p = some v) : w1.cell? p = some v := (Below.cell h (block_lt_of_cell hc)).trans hc
theorem Keep.row {W w1 : World} (h : Keep W w1) {b off : Nat} {cs : Array Value} (hr : RowAt W b off cs) : RowAt w1 b off cs := fun j hj => by
  have h1 := hr j hj
  rw [Array.getElem?_eq_getElem hj] at h1 ⊢
  exact h.cell h1
theorem Keep.heap {W w1 : World} (h : Keep W w1) {k : Nat} (hk : k < W.heap.size) : w1.heap[k]? = W.heap[k]? := h.block k hk
theorem Keep.of_grown {w W w' : World} {row : Option Nat} (h : Keep w W) (hg : W.grownBy w' row) (hr : ∀ k, row = some k → w.heap.size ≤ k) : Keep w w' := Below.grown h hg h.size hr

inductive D where
  | int (k : IntKind) (n : Int)
  | bool (b : Bool)
  | str (s : ByteArray)
  | sl (l : List D)
  | ag (l : List D)

mutual
/-- how many cells -/
def D.wd : D → Nat
  | .ag l => D.wds l
  | .int _ _ | .bool _ | .str _ | .sl _ => 1
def D.wds : List D → Nat
  | [] => 0
  | d :: r => d.wd + D.wds r
end

mutual
def Rd (w : World) : D → List Value → Prop
  | .int k n, cs => cs = [.int k n] ∧ (Lit.int k n).wf = true
  | .bool b, cs => cs = [.bool b]
  | .str s, cs => cs = [.string s] ∧ s.size ≤ maxLen
  | .sl l, cs => ∃ A c, cs = [.slice A l.length c] ∧ l.length ≤ c ∧ c ≤ maxLen ∧ (l ≠ [] → ∃ b off, A = some ⟨b, off, none⟩ ∧ RdS w l b off)
  | .ag l, cs => RdA w l cs
def RdA (w : World) : List D → List Value → Prop
  | [], cs => cs = []
  | d :: r, cs => ∃ c1 c2, cs = c1 ++ c2 ∧ Rd w d c1 ∧ RdA w r c2
def RdS (w : World) : List D → Nat → Nat → Prop
  | [], _, _ => True
  | d :: r, b, off => ∃ row : Array Value, RowAt w b off row ∧ Rd w d row.toList ∧ RdS w r b (off + row.size)
end

mutual
theorem Rd.len {w : World} : ∀ (d : D) (cs : List Value), Rd w d cs → cs.length = d.wd
  | .int _ _, cs, h => by simp only [Rd] at h; simp [h.1, D.wd]
  | .bool _, cs, h => by simp only [Rd] at h; simp [h, D.wd]
  | .str _, cs, h => by simp only [Rd] at h; simp [h.1, D.wd]
  | .sl _, cs, h => by simp only [Rd] at h; obtain ⟨A, c, rfl, _⟩ := h; simp [D.wd]
  | .ag l, cs, h => by simp only [Rd] at h; simpa [D.wd] using RdA.len l cs h
theorem RdA.len {w : World} : ∀ (l : List D) (cs : List Value), RdA w l cs → cs.length = D.wds l
  | [], cs, h => by simp only [RdA] at h; simp [h, D.wds]
  | d :: r, cs, h => by
    simp only [RdA] at h
    obtain ⟨c1, c2, rfl, h1, h2⟩ := h
    simp [D.wds, Rd.len d c1 h1, RdA.len r c2 h2]
end

mutual
theorem Rd.keep {w w' : World} (hk : Keep w w') : ∀ (d : D) (cs : List Value), Rd w d cs → Rd w' d cs
  | .int _ _, cs, h => by simpa only [Rd] using h
  | .bool _, cs, h => by simpa only [Rd] using h
  | .str _, cs, h => by simpa only [Rd] using h
  | .sl l, cs, h => by
    simp only [Rd] at h ⊢
    obtain ⟨A, c, e, h1, h2, h3⟩ := h
    refine ⟨A, c, e, h1, h2, fun hl => ?_⟩
    obtain ⟨b, off, hA, hs⟩ := h3 hl
    exact ⟨b, off, hA, RdS.keep hk l b off hs⟩
  | .ag l, cs, h => by simp only [Rd] at h ⊢; exact RdA.keep hk l cs h
theorem RdA.keep {w w' : World} (hk : Keep w w') : ∀ (l : List D) (cs : List Value), RdA w l cs → RdA w' l cs
  | [], cs, h => by simpa only [RdA] using h
  | d :: r, cs, h => by
    simp only [RdA] at h ⊢
    obtain ⟨c1, c2, e, h1, h2⟩ := h
    exact ⟨c1, c2, e, Rd.keep hk d c1 h1, RdA.keep hk r c2 h2⟩
theorem RdS.keep {w w' : World} (hk : Keep w w') : ∀ (l : List D) (b off : Nat), RdS w l b off → RdS w' l b off
  | [], _, _, _ => by simp only [RdS]
  | d :: r, b, off, h => by
    simp only [RdS] at h ⊢
    obtain ⟨row, h1, h2, h3⟩ := h
    exact ⟨row, hk.row h1, Rd.keep hk d _ h2, RdS.keep hk r b _ h3⟩
end

mutual
theorem Rd.ones {w : World} : ∀ (d : D) (cs : List Value), Rd w d cs → ∀ v ∈ cs, v.oneCell' = true
  | .int _ _, cs, h => by simp only [Rd] at h; simp [h.1, Value.oneCell']
  | .bool _, cs, h => by simp only [Rd] at h; simp [h, Value.oneCell']
  | .str _, cs, h => by simp only [Rd] at h; simp [h.1, Value.oneCell']
  | .sl _, cs, h => by simp only [Rd] at h; obtain ⟨A, c, rfl, _⟩ := h; simp [Value.oneCell']
  | .ag l, cs, h => by simp only [Rd] at h; exact RdA.ones l cs h
theorem RdA.ones {w : World} : ∀ (l : List D) (cs : List Value), RdA w l cs → ∀ v ∈ cs, v.oneCell' = true
  | [], cs, h => by simp only [RdA] at h; simp [h]
  | d :: r, cs, h => by
    simp only [RdA] at h
    obtain ⟨c1, c2, rfl, h1, h2⟩ := h
    intro v hv
    rcases List.mem_append.1 hv with hv | hv
    · exact Rd.ones d c1 h1 v hv
    · exact RdA.ones r c2 h2 v hv
end

/-- an element of a slice -/
theorem RdS.at_ {w : World} {s : Nat} : ∀ (l : List D) (b off : Nat), RdS w l b off → (∀ d ∈ l, d.wd = s) → ∀ i (h : i < l.length),
    ∃ row : Array Value, row.size = s ∧ RowAt w b (off + i * s) row ∧ Rd w l[i] row.toList := by
  intro l
  induction l with
  | nil => intro b off _ _ i h; simp at h
  | cons d r ih =>
    intro b off h hs i hi
    simp only [RdS] at h
    obtain ⟨row, h1, h2, h3⟩ := h
    have hz : row.size = s := by
      have := Rd.len d _ h2
      rw [hs d (by simp)] at this
      simpa using this
    match i, hi with
    | 0, _ => exact ⟨row, hz, by simpa using h1, by simpa using h2⟩
    | i + 1, hi =>
      obtain ⟨row', k1, k2, k3⟩ := ih b (off + row.size) h3 (fun d hd => hs d (by simp [hd])) i (by simpa using hi)
      refine ⟨row', k1, ?_, by simpa using k3⟩
      rw [hz] at k2
      rw [show off + (i + 1) * s = off + s + i * s by rw [Nat.add_mul]; omega]
      exact k2

/-- a slice, element by element: what a walk asks -/
theorem Rd.slice {w : World} {s : Nat} {l : List D} {v : Value} (h : Rd w (.sl l) [v]) (hs : ∀ d ∈ l, d.wd = s) :
    ∃ A c, v = .slice A l.length c ∧ l.length ≤ c ∧ c ≤ maxLen ∧ ∀ i (h : i < l.length), ∃ b off row, A = some ⟨b, off, none⟩ ∧ row.size = s ∧ RowAt w b (off + i * s) row ∧ Rd w l[i] row.toList := by
  simp only [Rd] at h
  obtain ⟨A, c, e, h1, h2, h3⟩ := h
  simp only [List.cons.injEq, and_true] at e
  subst e
  refine ⟨A, c, rfl, h1, h2, fun i hi => ?_⟩
  obtain ⟨b, off, hA, hr⟩ := h3 (fun e => by subst e; simp at hi)
  obtain ⟨row, k1, k2, k3⟩ := RdS.at_ l b off hr hs i hi
  exact ⟨b, off, row, hA, k1, k2, k3⟩

theorem RdS.of_at {w : World} {s : Nat} : ∀ (l : List D) (b off : Nat), (∀ i (h : i < l.length), ∃ row : Array Value, row.size = s ∧ RowAt w b (off + i * s) row ∧ Rd w l[i] row.toList) → RdS w l b off := by
  intro l
  induction l with
  | nil => intro b off _; simp only [RdS]
  | cons d r ih =>
    intro b off h
    simp only [RdS]
    obtain ⟨row, k1, k2, k3⟩ := h 0 (by simp)
    refine ⟨row, by simpa using k2, by simpa using k3, ih b _ fun i hi => ?_⟩
    obtain ⟨row', m1, m2, m3⟩ := h (i + 1) (by simpa using hi)
    refine ⟨row', m1, ?_, by simpa using m3⟩
    rw [k1]
    rw [show off + (i + 1) * s = off + s + i * s by rw [Nat.add_mul]; omega] at m2
    exact m2

theorem RowAt.lt {w : World} {b off : Nat} {cs : Array Value} (h : RowAt w b off cs) (hs : 0 < cs.size) : b < w.heap.size := by
  have := h 0 hs
  rw [Array.getElem?_eq_getElem hs] at this
  exact block_lt_of_cell this
theorem RowAt.at_ {w : World} {b off : Nat} {cs : Array Value} (h : RowAt w b off cs) {j : Nat} {v : Value} (hj : cs[j]? = some v) : w.cell? ⟨b, off + j, none⟩ = some v := by
  rw [h j (Array.getElem?_eq_some_iff.1 hj).1, hj]
theorem RowAt.sub {w : World} {b off : Nat} {cs : Array Value} (h : RowAt w b off cs) (i n : Nat) (hn : i + n ≤ cs.size) : RowAt w b (off + i) (cs.extract i (i + n)) := fun j hj => by
  have hj' : i + j < cs.size := by simp at hj; omega
  rw [Nat.add_assoc, h (i + j) hj']
  rw [Array.getElem?_extract, if_pos (by simp at hj; omega)]
end Go.Proofs.YtnpenchciinmmaaGreat

/-
  Plain Lean: fonts, glyphs, boxes, and what the functions of layers 1, 5 and 6 compute. No program in sight.
-/
namespace Go.Proofs.YtnpenchciinmmaaGreat

structure Glyph where
  name : ByteArray
  w : Int
  h : Int
  d : Int
  italic : Int
  attach : Int
structure Part where
  name : ByteArray
  ext : Bool
structure Stretch where
  name : ByteArray
  sizes : List ByteArray
  parts : List Part
  overlap : Int
structure Params where
  quad : Int
  xHeight : Int
  axis : Int
  rule : Int
  num1 : Int
  num2 : Int
  denom1 : Int
  denom2 : Int
  sup1 : Int
  sup2 : Int
  sup3 : Int
  sub1 : Int
  sub2 : Int
  supDrop : Int
  subDrop : Int
  script : Int
  scriptScript : Int
  delimPercent : Int
  delimShort : Int
  accentHeight : Int
structure Font where
  glyphs : List Glyph
  stretches : List Stretch
  params : Params

def lenValid (n : Int) : Bool := decide (-1073741824 ≤ n) && decide (n ≤ 1073741824)
/-- a / b, rounded, halves away from zero (b positive) -/
def rnd (a b : Int) : Int := if 0 ≤ a then (2 * a + b) / (2 * b) else -((2 * (-a) + b) / (2 * b))
/-- length.quotient as its text has it -/
def quot (a b : Int) : Int :=
  if 0 ≤ a.tmod b ∧ b - a.tmod b ≤ a.tmod b then a.tdiv b + 1 else if a.tmod b < 0 ∧ b + a.tmod b ≤ -a.tmod b then a.tdiv b - 1 else a.tdiv b
theorem quot_100 (a : Int) : quot a 100 = rnd a 100 := by
  unfold quot rnd
  have h1 := Int.mul_tdiv_add_tmod a 100
  rcases Int.lt_or_le a 0 with h | h
  · have h2 : a.tmod 100 ≤ 0 := by have := Int.tmod_nonneg (a := -a) 100 (by omega); rw [Int.neg_tmod] at this; omega
    have h3 : -100 < a.tmod 100 := by have := Int.lt_tmod_of_pos a (b := 100) (by omega); omega
    generalize a.tmod 100 = r at *
    generalize a.tdiv 100 = q at *
    repeat' split
    all_goals omega
  · have h2 : 0 ≤ a.tmod 100 := Int.tmod_nonneg 100 h
    have h3 : a.tmod 100 < 100 := Int.tmod_lt_of_pos a (by omega)
    generalize a.tmod 100 = r at *
    generalize a.tdiv 100 = q at *
    repeat' split
    all_goals omega
theorem quot_2 (a : Int) : quot a 2 = rnd a 2 := by
  unfold quot rnd
  have h1 := Int.mul_tdiv_add_tmod a 2
  rcases Int.lt_or_le a 0 with h | h
  · have h2 : a.tmod 2 ≤ 0 := by have := Int.tmod_nonneg (a := -a) 2 (by omega); rw [Int.neg_tmod] at this; omega
    have h3 : -2 < a.tmod 2 := by have := Int.lt_tmod_of_pos a (b := 2) (by omega); omega
    generalize a.tmod 2 = r at *
    generalize a.tdiv 2 = q at *
    repeat' split
    all_goals omega
  · have h2 : 0 ≤ a.tmod 2 := Int.tmod_nonneg 2 h
    have h3 : a.tmod 2 < 2 := Int.tmod_lt_of_pos a (by omega)
    generalize a.tmod 2 = r at *
    generalize a.tdiv 2 = q at *
    repeat' split
    all_goals omega

def scale (n p : Int) : Int := if lenValid n = true ∧ 0 ≤ p ∧ p ≤ 10000 then rnd (n * p) 100 else 0
def half (n : Int) : Int := if lenValid n = true then rnd n 2 else 0

def byteOk (c : UInt8) : Bool := decide (32 ≤ c.toNat) && decide (c.toNat ≤ 126)
def nameB (s : ByteArray) : Bool := s.data.toList.all byteOk && (decide (1 ≤ s.size) && decide (s.size ≤ 16))
def inB (lo hi : Int) (l : List Int) : Bool := l.all fun n => decide (lo ≤ n) && decide (n ≤ hi)

def findO (name : ByteArray) : List Glyph → Option Glyph
  | [] => none
  | g :: r => if g.name = name then some g else findO name r
def Font.find (f : Font) (name : ByteArray) : Option Glyph := findO name f.glyphs
def Glyph.zero : Glyph := ⟨⟨#[]⟩, 0, 0, 0, 0, 0⟩
def Glyph.height (g : Glyph) : Int := g.h + g.d
def Font.pick (f : Font) (name : ByteArray) : Glyph :=
  match f.find name with
  | some g => g
  | none => match f.find ⟨#[63]⟩ with
    | some g => g
    | none => { Glyph.zero with name := name }
def stretchO (name : ByteArray) : List Stretch → Option Stretch
  | [] => none
  | s :: r => if s.name = name then some s else stretchO name r
def Font.stretch (f : Font) (name : ByteArray) : Option Stretch := stretchO name f.stretches

def Glyph.mets (g : Glyph) : List Int := [g.w, g.h, g.d, g.italic, g.attach]
def Glyph.scaled (g : Glyph) (p : Int) : Glyph := ⟨g.name, scale g.w p, scale g.h p, scale g.d p, scale g.italic p, scale g.attach p⟩
/-- what Scaled returns -/
def scaledR (g : Glyph) (p : Int) : Glyph × Int :=
  if inB 1 1000 [p] = false then (Glyph.zero, 2) else if inB (-20000) 20000 g.mets = false then (Glyph.zero, 1) else (g.scaled p, 0)

def Params.perc (p : Params) : List Int := [p.script, p.scriptScript, p.delimPercent]
def Params.lens (p : Params) : List Int := [p.quad, p.xHeight, p.axis, p.rule, p.num1, p.num2, p.denom1, p.denom2, p.sup1, p.sup2, p.sup3, p.sub1, p.sub2, p.supDrop, p.subDrop, p.delimShort, p.accentHeight]
def paramsOk (p : Params) : Bool := inB 1 100 p.perc && inB 0 20000 p.lens

/-- the checks of a stretch, heights by names -/
def sizesOk (ht : ByteArray → Option Int) : Int → List ByteArray → Bool
  | _, [] => true
  | last, n :: r => match ht n with
    | none => false
    | some h => decide (last < h) && sizesOk ht h r
def partsFold (ht : ByteArray → Option Int) : Int → Bool → List Part → Option (Int × Bool)
  | l, e, [] => some (l, e)
  | l, e, p :: r => match ht p.name with
    | none => none
    | some h => partsFold ht (if h < l then h else l) (e || p.ext) r
def partsOk (ht : ByteArray → Option Int) (s : Stretch) : Bool :=
  match partsFold ht 60000 false s.parts with
  | none => false
  | some (l, e) => e && inB 0 (l - 1) [s.overlap]
def stretchOk (ht : ByteArray → Option Int) (s : Stretch) : Bool :=
  (nameB s.name && (inB 1 16 [(s.sizes.length : Int)] && decide (s.parts.length ≤ 8))) && (sizesOk ht (-60000) s.sizes && (if s.parts = [] then decide (s.overlap = 0) else partsOk ht s))

def glyphOk (g : Glyph) : Bool := nameB g.name && (inB 0 20000 [g.w] && inB (-20000) 20000 [g.h, g.d, g.italic, g.attach])
def hasName (name : ByteArray) : List Glyph → Bool
  | [] => false
  | g :: r => decide (g.name = name) || hasName name r
def glyphsOk : List Glyph → List Glyph → Bool
  | _, [] => true
  | seen, g :: r => (glyphOk g && !hasName g.name seen) && glyphsOk (seen ++ [g]) r
def hasStretch (name : ByteArray) : List Stretch → Bool
  | [] => false
  | s :: r => decide (s.name = name) || hasStretch name r
def stretchesOk (ht : ByteArray → Option Int) : List Stretch → List Stretch → Bool
  | _, [] => true
  | seen, s :: r => (stretchOk ht s && !hasStretch s.name seen) && stretchesOk ht (seen ++ [s]) r
def Font.ht (f : Font) (name : ByteArray) : Option Int := (f.find name).map Glyph.height
def Font.valid (f : Font) : Bool :=
  (decide (f.glyphs.length ≤ 400) && (decide (f.stretches.length ≤ 40) && paramsOk f.params)) && (glyphsOk [] f.glyphs && stretchesOk f.ht [] f.stretches)

/-- Go's max of two -/
def mx (a b : Int) : Int := if a < b then b else a
def mn (a b : Int) : Int := if b < a then b else a
theorem mx_eq (a b : Int) : mx a b = max a b := by unfold mx; omega
theorem rnd_bound (a : Int) (m : Int) (h1 : -(100 * m) ≤ a) (h2 : a ≤ 100 * m) : -m ≤ rnd a 100 ∧ rnd a 100 ≤ m := by
  unfold rnd
  split <;> omega
theorem mul_bound (n p A B : Int) (h1 : -A ≤ n) (h2 : n ≤ A) (h3 : 0 ≤ p) (h4 : p ≤ B) : -(A * B) ≤ n * p ∧ n * p ≤ A * B := by
  have hA : 0 ≤ A := by omega
  have hB : 0 ≤ B := by omega
  have e := Int.mul_le_mul (show p ≤ B by omega) (Int.le_refl A) hA hB
  rcases Int.lt_or_le n 0 with hn | hn
  · have h5 := Int.mul_le_mul_of_nonneg_left h4 (show 0 ≤ -n by omega)
    have h6 := Int.mul_le_mul_of_nonneg_right (show -n ≤ A by omega) hB
    have h7 := Int.mul_nonneg (show 0 ≤ -n by omega) h3
    rw [Int.neg_mul] at h5 h7
    have h8 := Int.mul_nonneg hA hB
    omega
  · have h5 := Int.mul_le_mul_of_nonneg_left h4 hn
    have h6 := Int.mul_le_mul_of_nonneg_right h2 hB
    have h7 := Int.mul_nonneg hn h3
    have h8 := Int.mul_nonneg hA hB
    omega
theorem scale_small (n p : Int) (h1 : -20000 ≤ n) (h2 : n ≤ 20000) (h3 : 1 ≤ p) (h4 : p ≤ 1000) : -200000 ≤ scale n p ∧ scale n p ≤ 200000 := by
  unfold scale
  have := mul_bound n p 20000 1000 h1 h2 (by omega) h4
  split
  · exact rnd_bound _ _ (by omega) (by omega)
  · omega
theorem scaledR_ok (g : Glyph) (p : Int) (h : (scaledR g p).2 = 0) : inB 1 1000 [p] = true ∧ inB (-20000) 20000 g.mets = true ∧ scaledR g p = (g.scaled p, 0) := by
  unfold scaledR at h ⊢
  cases h1 : inB 1 1000 [p]
  · rw [h1] at h; simp at h
  · cases h2 : inB (-20000) 20000 g.mets
    · rw [h1, h2] at h; simp at h
    · simp
theorem scaled_small (g : Glyph) (p : Int) (h1 : inB 1 1000 [p] = true) (h2 : inB (-20000) 20000 g.mets = true) :
    (-200000 ≤ (g.scaled p).w ∧ (g.scaled p).w ≤ 200000) ∧ (-200000 ≤ (g.scaled p).h ∧ (g.scaled p).h ≤ 200000) ∧ (-200000 ≤ (g.scaled p).d ∧ (g.scaled p).d ≤ 200000) ∧ (-200000 ≤ (g.scaled p).italic ∧ (g.scaled p).italic ≤ 200000) := by
  simp [inB, Glyph.mets] at h1 h2
  simp only [Glyph.scaled]
  exact ⟨scale_small _ _ (by omega) (by omega) (by omega) (by omega), scale_small _ _ (by omega) (by omega) (by omega) (by omega), scale_small _ _ (by omega) (by omega) (by omega) (by omega), scale_small _ _ (by omega) (by omega) (by omega) (by omega)⟩
end Go.Proofs.YtnpenchciinmmaaGreat

/-
  How fonts, glyphs, stretches and their parts read in memory.
-/
namespace Go.Proofs.YtnpenchciinmmaaGreat
open Go.RowKit

theorem mixed : Tryz.prog.follows .mixedOrders = true := by kernel_rfl

def Glyph.ds (g : Glyph) : D := .ag [.str g.name, .int .i64 g.w, .int .i64 g.h, .int .i64 g.d, .int .i64 g.italic, .int .i64 g.attach]
def Part.ds (p : Part) : D := .ag [.str p.name, .bool p.ext]
def Stretch.ds (s : Stretch) : D := .ag [.str s.name, .sl (s.sizes.map D.str), .sl (s.parts.map Part.ds), .int .i64 s.overlap]
def Params.ints (p : Params) : List Int := [p.quad, p.xHeight, p.axis, p.rule, p.num1, p.num2, p.denom1, p.denom2, p.sup1, p.sup2, p.sup3, p.sub1, p.sub2, p.supDrop, p.subDrop, p.script, p.scriptScript, p.delimPercent, p.delimShort, p.accentHeight]
def Params.ds (p : Params) : D := .ag (p.ints.map (D.int .i64))
def Font.ds (f : Font) : D := .ag [.sl (f.glyphs.map Glyph.ds), .sl (f.stretches.map Stretch.ds), f.params.ds]

def Glyph.cells (g : Glyph) : Array Value := #[.string g.name, .int .i64 g.w, .int .i64 g.h, .int .i64 g.d, .int .i64 g.italic, .int .i64 g.attach]
def Part.cells (p : Part) : Array Value := #[.string p.name, .bool p.ext]
def Params.cells (p : Params) : Array Value := (p.ints.map (Value.int .i64)).toArray

theorem str_eq {a b : ByteArray} : (a.toList == b.toList) = decide (a = b) := by
  rw [ByteArray.toList_eq, ByteArray.toList_eq]
  by_cases h : a = b
  · subst h; simp
  · have : ¬ a.data = b.data := fun e => h (by cases a; cases b; simpa using e)
    simp [h, this]
theorem str_ne {a b : ByteArray} (h : ¬ a = b) : (a.toList == b.toList) = false := by rw [str_eq]; simp [h]
/-- an int's range -/
def I64 (n : Int) : Prop := -9223372036854775808 ≤ n ∧ n ≤ 9223372036854775807
theorem i64_wf {n : Int} : (Lit.int .i64 n).wf = true ↔ I64 n := by
  unfold I64
  constructor
  · intro h; exact bounds_i64 h
  · intro h
    have h1 : IntKind.i64.min = -9223372036854775808 := by decide +kernel
    have h2 : IntKind.i64.max = 9223372036854775807 := by decide +kernel
    simp [Lit.wf, h1, h2, h]

def Glyph.Ok (g : Glyph) : Prop := g.name.size ≤ maxLen ∧ I64 g.w ∧ I64 g.h ∧ I64 g.d ∧ I64 g.italic ∧ I64 g.attach

theorem rd_int {w : World} {n : Int} {cs : List Value} : Rd w (.int .i64 n) cs ↔ cs = [.int .i64 n] ∧ I64 n := by simp only [Rd, i64_wf]
theorem rd_str {w : World} {s : ByteArray} {cs : List Value} : Rd w (.str s) cs ↔ cs = [.string s] ∧ s.size ≤ maxLen := by simp only [Rd]
theorem rd_bool {w : World} {b : Bool} {cs : List Value} : Rd w (.bool b) cs ↔ cs = [.bool b] := by simp only [Rd]
theorem rd_ag {w : World} {l : List D} {cs : List Value} : Rd w (.ag l) cs ↔ RdA w l cs := by simp only [Rd]
theorem rda_nil {w : World} {cs : List Value} : RdA w [] cs ↔ cs = [] := by simp only [RdA]
theorem rda_int {w : World} {n : Int} {r : List D} {cs : List Value} : RdA w (.int .i64 n :: r) cs ↔ ∃ c2, cs = .int .i64 n :: c2 ∧ I64 n ∧ RdA w r c2 := by
  simp only [RdA, rd_int]
  constructor
  · rintro ⟨c1, c2, rfl, ⟨rfl, h⟩, h2⟩; exact ⟨c2, rfl, h, h2⟩
  · rintro ⟨c2, rfl, h, h2⟩; exact ⟨_, c2, rfl, ⟨rfl, h⟩, h2⟩
theorem rda_str {w : World} {s : ByteArray} {r : List D} {cs : List Value} : RdA w (.str s :: r) cs ↔ ∃ c2, cs = .string s :: c2 ∧ s.size ≤ maxLen ∧ RdA w r c2 := by
  simp only [RdA, rd_str]
  constructor
  · rintro ⟨c1, c2, rfl, ⟨rfl, h⟩, h2⟩; exact ⟨c2, rfl, h, h2⟩
  · rintro ⟨c2, rfl, h, h2⟩; exact ⟨_, c2, rfl, ⟨rfl, h⟩, h2⟩
theorem rda_bool {w : World} {b : Bool} {r : List D} {cs : List Value} : RdA w (.bool b :: r) cs ↔ ∃ c2, cs = .bool b :: c2 ∧ RdA w r c2 := by
  simp only [RdA, rd_bool]
  constructor
  · rintro ⟨c1, c2, rfl, rfl, h2⟩; exact ⟨c2, rfl, h2⟩
  · rintro ⟨c2, rfl, h2⟩; exact ⟨_, c2, rfl, rfl, h2⟩
theorem rda_sl {w : World} {l : List D} {r : List D} {cs : List Value} : RdA w (.sl l :: r) cs ↔ ∃ v c2, cs = v :: c2 ∧ Rd w (.sl l) [v] ∧ RdA w r c2 := by
  simp only [RdA]
  constructor
  · rintro ⟨c1, c2, rfl, h, h2⟩
    have hl := Rd.len _ _ h
    match c1, hl with
    | [v], _ => exact ⟨v, c2, rfl, h, h2⟩
  · rintro ⟨v, c2, rfl, h, h2⟩; exact ⟨[v], c2, rfl, h, h2⟩
theorem rda_ag1 {w : World} {l : List D} {cs : List Value} : RdA w [.ag l] cs ↔ RdA w l cs := by
  simp only [RdA, Rd]
  constructor
  · rintro ⟨c1, c2, rfl, h, rfl⟩; simpa using h
  · intro h; exact ⟨cs, [], by simp, h, rfl⟩

theorem rd_glyph {w : World} {g : Glyph} {cs : List Value} : Rd w g.ds cs ↔ cs = g.cells.toList ∧ g.Ok := by
  simp only [Glyph.ds, rd_ag, rda_str, rda_int, rda_nil, Glyph.cells, Glyph.Ok]
  constructor
  · rintro ⟨c1, rfl, h0, c2, rfl, h1, c3, rfl, h2, c4, rfl, h3, c5, rfl, h4, c6, rfl, h5, rfl⟩
    exact ⟨rfl, h0, h1, h2, h3, h4, h5⟩
  · rintro ⟨rfl, h0, h1, h2, h3, h4, h5⟩
    exact ⟨_, rfl, h0, _, rfl, h1, _, rfl, h2, _, rfl, h3, _, rfl, h4, _, rfl, h5, rfl⟩
theorem rd_part {w : World} {p : Part} {cs : List Value} : Rd w p.ds cs ↔ cs = p.cells.toList ∧ p.name.size ≤ maxLen := by
  simp only [Part.ds, rd_ag, rda_str, rda_bool, rda_nil, Part.cells]
  constructor
  · rintro ⟨c1, rfl, h0, c2, rfl, rfl⟩; exact ⟨rfl, h0⟩
  · rintro ⟨rfl, h0⟩; exact ⟨_, rfl, h0, _, rfl, rfl⟩
theorem rd_stretch {w : World} {s : Stretch} {cs : List Value} : Rd w s.ds cs ↔ ∃ zv pv, cs = [.string s.name, zv, pv, .int .i64 s.overlap] ∧ s.name.size ≤ maxLen ∧ Rd w (.sl (s.sizes.map D.str)) [zv] ∧ Rd w (.sl (s.parts.map Part.ds)) [pv] ∧ I64 s.overlap := by
  simp only [Stretch.ds, rd_ag, rda_str, rda_int, rda_nil, rda_sl]
  constructor
  · rintro ⟨c1, rfl, h0, zv, c2, rfl, h1, pv, c3, rfl, h2, c4, rfl, h3, rfl⟩; exact ⟨zv, pv, rfl, h0, h1, h2, h3⟩
  · rintro ⟨zv, pv, rfl, h0, h1, h2, h3⟩; exact ⟨_, rfl, h0, zv, _, rfl, h1, pv, _, rfl, h2, _, rfl, h3, rfl⟩
theorem rda_ints {w : World} : ∀ (l : List Int) (cs : List Value), RdA w (l.map (D.int .i64)) cs ↔ cs = l.map (Value.int .i64) ∧ ∀ n ∈ l, I64 n
  | [], cs => by simp [rda_nil]
  | n :: r, cs => by
    simp only [List.map_cons, rda_int, rda_ints r]
    constructor
    · rintro ⟨c2, rfl, h, rfl, h2⟩; exact ⟨rfl, by intro m hm; rcases List.mem_cons.1 hm with rfl | hm; exact h; exact h2 m hm⟩
    · rintro ⟨rfl, h⟩; exact ⟨_, rfl, h n (by simp), rfl, fun m hm => h m (by simp [hm])⟩
theorem rd_font {w : World} {f : Font} {cs : List Value} : Rd w f.ds cs ↔ ∃ gv sv, cs = gv :: sv :: f.params.cells.toList ∧ Rd w (.sl (f.glyphs.map Glyph.ds)) [gv] ∧ Rd w (.sl (f.stretches.map Stretch.ds)) [sv] ∧ ∀ n ∈ f.params.ints, I64 n := by
  simp only [Font.ds, rd_ag, rda_sl]
  constructor
  · rintro ⟨gv, c1, rfl, h0, sv, c2, rfl, h1, h2⟩
    simp only [Params.ds, rda_ag1, rda_ints] at h2
    exact ⟨gv, sv, by rw [h2.1]; rfl, h0, h1, h2.2⟩
  · rintro ⟨gv, sv, rfl, h0, h1, h2⟩
    refine ⟨gv, _, rfl, h0, sv, _, rfl, h1, ?_⟩
    simp only [Params.ds, rda_ag1, rda_ints]
    exact ⟨rfl, h2⟩

theorem wd_glyph (g : Glyph) : g.ds.wd = 6 := rfl
theorem wd_part (p : Part) : p.ds.wd = 2 := rfl
theorem wd_stretch (s : Stretch) : s.ds.wd = 4 := rfl

/-- a slice of glyphs, parts, strings, stretches: what a walk asks -/
theorem sl_glyphs {w : World} {l : List Glyph} {v : Value} (h : Rd w (.sl (l.map Glyph.ds)) [v]) :
    ∃ A c, v = .slice A l.length c ∧ l.length ≤ c ∧ c ≤ maxLen ∧ ∀ i (h : i < l.length), l[i].Ok ∧ ∃ b off, A = some ⟨b, off, none⟩ ∧ b < w.heap.size ∧ RowAt w b (off + i * 6) l[i].cells := by
  obtain ⟨A, c, e, h1, h2, h3⟩ := Rd.slice (s := 6) h (by intro d hd; obtain ⟨g, _, rfl⟩ := List.mem_map.1 hd; exact wd_glyph g)
  simp only [List.length_map] at e h1 h3
  refine ⟨A, c, e, h1, h2, fun i hi => ?_⟩
  obtain ⟨b, off, row, hA, hs, hr, hd⟩ := h3 i hi
  simp only [List.getElem_map, rd_glyph] at hd
  obtain ⟨hd, hok⟩ := hd
  have e' : row = l[i].cells := by apply Array.toList_inj.1; exact hd
  subst e'
  exact ⟨hok, b, off, hA, hr.lt (by rw [hs]; decide), hr⟩
theorem sl_parts {w : World} {l : List Part} {v : Value} (h : Rd w (.sl (l.map Part.ds)) [v]) :
    ∃ A c, v = .slice A l.length c ∧ l.length ≤ c ∧ c ≤ maxLen ∧ ∀ i (h : i < l.length), l[i].name.size ≤ maxLen ∧ ∃ b off, A = some ⟨b, off, none⟩ ∧ b < w.heap.size ∧ RowAt w b (off + i * 2) l[i].cells := by
  obtain ⟨A, c, e, h1, h2, h3⟩ := Rd.slice (s := 2) h (by intro d hd; obtain ⟨g, _, rfl⟩ := List.mem_map.1 hd; exact wd_part g)
  simp only [List.length_map] at e h1 h3
  refine ⟨A, c, e, h1, h2, fun i hi => ?_⟩
  obtain ⟨b, off, row, hA, hs, hr, hd⟩ := h3 i hi
  simp only [List.getElem_map, rd_part] at hd
  obtain ⟨hd, hok⟩ := hd
  have e' : row = l[i].cells := by apply Array.toList_inj.1; exact hd
  subst e'
  exact ⟨hok, b, off, hA, hr.lt (by rw [hs]; decide), hr⟩
theorem sl_strs {w : World} {l : List ByteArray} {v : Value} (h : Rd w (.sl (l.map D.str)) [v]) :
    ∃ A c, v = .slice A l.length c ∧ l.length ≤ c ∧ c ≤ maxLen ∧ ∀ i (h : i < l.length), l[i].size ≤ maxLen ∧ ∃ b off, A = some ⟨b, off, none⟩ ∧ b < w.heap.size ∧ w.cell? ⟨b, off + i, none⟩ = some (.string l[i]) := by
  obtain ⟨A, c, e, h1, h2, h3⟩ := Rd.slice (s := 1) h (by intro d hd; obtain ⟨g, _, rfl⟩ := List.mem_map.1 hd; rfl)
  simp only [List.length_map] at e h1 h3
  refine ⟨A, c, e, h1, h2, fun i hi => ?_⟩
  obtain ⟨b, off, row, hA, hs, hr, hd⟩ := h3 i hi
  simp only [List.getElem_map, rd_str] at hd
  obtain ⟨hd, hok⟩ := hd
  have e' : row = #[.string l[i]] := by apply Array.toList_inj.1; exact hd
  subst e'
  refine ⟨hok, b, off, hA, hr.lt (by simp), ?_⟩
  have := hr.at_ (j := 0) (v := .string l[i]) rfl
  simpa using this
theorem sl_stretches {w : World} {l : List Stretch} {v : Value} (h : Rd w (.sl (l.map Stretch.ds)) [v]) :
    ∃ A c, v = .slice A l.length c ∧ l.length ≤ c ∧ c ≤ maxLen ∧ ∀ i (h : i < l.length), ∃ b off row, A = some ⟨b, off, none⟩ ∧ b < w.heap.size ∧ row.size = 4 ∧ RowAt w b (off + i * 4) row ∧ Rd w l[i].ds row.toList := by
  obtain ⟨A, c, e, h1, h2, h3⟩ := Rd.slice (s := 4) h (by intro d hd; obtain ⟨g, _, rfl⟩ := List.mem_map.1 hd; exact wd_stretch g)
  simp only [List.length_map] at e h1 h3
  refine ⟨A, c, e, h1, h2, fun i hi => ?_⟩
  obtain ⟨b, off, row, hA, hs, hr, hd⟩ := h3 i hi
  simp only [List.getElem_map] at hd
  exact ⟨b, off, row, hA, hr.lt (by rw [hs]; decide), hs, hr, hd⟩

theorem ones_of {w : World} {d : D} {cs : Array Value} (h : Rd w d cs.toList) : Ones cs := Rd.ones d _ h
theorem size_of {w : World} {d : D} {cs : Array Value} (h : Rd w d cs.toList) : cs.size = d.wd := by have := Rd.len d _ h; simpa using this

theorem extract_two (a b : Value) (l : List Value) (n : Nat) (hn : l.length = n) : (a :: b :: l).toArray.extract 2 (n + 2) = l.toArray := by
  subst hn
  simp
theorem wd_font (f : Font) : f.ds.wd = 22 := by simp [Font.ds, Params.ds, Params.ints, D.wd, D.wds]
/-- a font's cells -/
theorem font_cells {w : World} {f : Font} {cs : Array Value} (h : Rd w f.ds cs.toList) : ∃ gv sv, cs.size = 22 ∧ cs[0]? = some gv ∧ cs[1]? = some sv ∧ cs.extract 2 22 = f.params.cells ∧
    Rd w (.sl (f.glyphs.map Glyph.ds)) [gv] ∧ Rd w (.sl (f.stretches.map Stretch.ds)) [sv] ∧ ∀ n ∈ f.params.ints, I64 n := by
  have hz : cs.size = 22 := by rw [size_of h, wd_font]
  obtain ⟨gv, sv, e, h1, h2, h3⟩ := rd_font.1 h
  have e' : cs = (gv :: sv :: f.params.cells.toList).toArray := by apply Array.toList_inj.1; simpa using e
  refine ⟨gv, sv, hz, by rw [e']; rfl, by rw [e']; rfl, ?_, h1, h2, h3⟩
  rw [e', extract_two gv sv f.params.cells.toList 20 rfl]
theorem stretch_cells {w : World} {s : Stretch} {cs : Array Value} (h : Rd w s.ds cs.toList) : ∃ zv pv, cs.size = 4 ∧ cs[0]? = some (.string s.name) ∧ cs[1]? = some zv ∧ cs[2]? = some pv ∧ cs[3]? = some (.int .i64 s.overlap) ∧ s.name.size ≤ maxLen ∧
    Rd w (.sl (s.sizes.map D.str)) [zv] ∧ Rd w (.sl (s.parts.map Part.ds)) [pv] ∧ I64 s.overlap := by
  obtain ⟨zv, pv, e, h0, h1, h2, h3⟩ := rd_stretch.1 h
  have e' : cs = #[.string s.name, zv, pv, .int .i64 s.overlap] := by apply Array.toList_inj.1; simpa using e
  refine ⟨zv, pv, size_of h, ?_, ?_, ?_, ?_, h0, h1, h2, h3⟩ <;> rw [e'] <;> rfl
end Go.Proofs.YtnpenchciinmmaaGreat

/-
  A region that draws its order, walked once, in the order of the text: each operation gets a post that every later growth of memory keeps; whatever order is drawn, at the end all posts hold.
-/
namespace Go.Proofs.YtnpenchciinmmaaGreat
open Go.RowKit

/-- what an operation waits for -/
def edgesOf (o : Oper) : List Nat := (o.after.toList.filter (Region.binds .any)).map (·.on)
/-- the slots that an operation looks at -/
def looks (ops : Array Oper) (o : Oper) : List Tmp := o.looksAt ops

abbrev Post := Value → World → Prop

/-- what is known of slot t's value v, from the posts of the operations ahead (the latest first), or from the frame as it was -/
def know (a0 : Act) : List (Option Tmp × Post) → Tmp → Value → World → Prop
  | [], t, v, _ => v = a0.tmps.getD t undef
  | (d, p) :: r, t, v, W => if d = some t then p v W else know a0 r t v W

/-- how memory may turn while the operations run -/
class Grow (K : World → World → Prop) : Prop where
  of_keep : ∀ {W W' : World}, Keep W W' → K W W'
  trans : ∀ {A B C : World}, K A B → K B C → K A C
instance : Grow Keep := ⟨id, Keep.trans⟩
theorem Grow.refl {K : World → World → Prop} [Grow K] (W : World) : K W W := Grow.of_keep (Keep.refl W)

def Prem (P : Program) (ops : Array Oper) (Q : Exit → Act → World → Prop) (K : World → World → Prop) (a0 : Act) (w0 : World) (acc : List (Option Tmp × Post)) (o : Oper) (p : Post) : Prop :=
  ∀ (a : Act) (W : World), K w0 W → (∀ t ∈ looks ops o, know a0 acc t (a.tmps.getD t undef) W) →
    if Region.wanted o (yielded ops a.tmps) then o.wp P a W (fun a' W' => ∃ v, a' = a.put o.dst v ∧ K W W' ∧ p v W') Q else p undef W

def StableK (K : World → World → Prop) (p : Post) : Prop := ∀ v W W', K W W' → p v W → p v W'
abbrev Stable (p : Post) : Prop := StableK Keep p

def RG (P : Program) (ops : Array Oper) (Q : Exit → Act → World → Prop) (K : World → World → Prop) (a0 : Act) (w0 : World) : List Oper → List (Option Tmp × Post) → (List (Option Tmp × Post) → Prop) → Prop
  | [], acc, fin => fin acc
  | o :: r, acc, fin => ∃ p : Post, StableK K p ∧ Prem P ops Q K a0 w0 acc o p ∧ RG P ops Q K a0 w0 r ((o.dst, p) :: acc) fin

/-- the frame behind the region: the posts' values, in the order of the text -/
def Fin' (K : Act → World → Prop) : List (Option Tmp × Post) → Act → World → Prop
  | [], a, W => K a W
  | (d, p) :: r, a, W => ∀ v, p v W → Fin' K r (a.put d v) W

def rgRow (l : List Oper) (m n i : Nat) : Bool :=
  match l[i]? with
  | none => false
  | some o => (edgesOf o).all (fun j => decide (j < i)) && (List.range n).all fun k => decide (k < m) ||
      match (l[k]?).bind (·.dst) with
      | none => true
      | some t => (k == i || o.dst != some t) && (k == i || !(looks l.toArray o).contains t || (decide (k < i) && (edgesOf o).contains k) || (decide (i < k) && ((l[k]?).map (fun q => (edgesOf q).contains i)).getD false))

/-- the operations from the m-th to the n-th in whatever order, those behind them behind them all -/
def rgChk (l : List Oper) (m n : Nat) : Bool :=
  decide (m ≤ n) && decide (n ≤ l.length) && (List.range n).all (fun i => decide (i < m) || rgRow l m n i) && (List.range (l.length - n)).all fun k => ((l[n + k]?).map fun o => (List.range n).all (fun i => decide (i < m) || (edgesOf o).contains i)).getD false
/-- the operations from the m-th to the n-th in one forced order -/
def sgChk (l : List Oper) (m n : Nat) : Bool :=
  decide (n ≤ l.length) && (List.range n).all fun k => decide (k < m) || ((l[k]?).map (fun o => (edgesOf o).all (fun j => decide (j < k)))).getD false && (List.range l.length).all fun j => decide (j ≤ k) || ((l[j]?).map (fun o => (edgesOf o).contains k)).getD false

/-- what is left to run from the m-th operation on -/
def wpFrom (P : Program) (l : List Oper) (Q : Exit → Act → World → Prop) (m : Nat) (a : Act) (W : World) : Prop :=
  ∀ (fuel : Nat) (listed : Array Bool), l.length - m ≤ fuel → listed.size = l.length → (∀ i, i < m → listed.getD i false = true) → (∀ i, m ≤ i → listed.getD i false = false) → wpAny P .any l.toArray Q fuel listed a W

def dummy : Option Tmp × Post := (none, fun _ _ => True)
theorem know_dummies (a0 : Act) (m : Nat) (acc : List (Option Tmp × Post)) (t : Tmp) (v : Value) (W : World) : know a0 (acc ++ List.replicate m dummy) t v W ↔ know a0 acc t v W := by
  induction acc with
  | nil =>
    induction m with
    | zero => rfl
    | succ m ih =>
      simp only [List.nil_append, List.replicate_succ] at ih ⊢
      unfold dummy at ih ⊢
      simp only [know] at ih ⊢
      simpa using ih
  | cons x r ih =>
    obtain ⟨d, p⟩ := x
    simp only [List.cons_append, know, ih]

section
variable {P : Program} {Q : Exit → Act → World → Prop} {K : World → World → Prop} {a0 : Act} {w0 : World} {l : List Oper} {m n : Nat}

theorem mem_edges {o : Oper} {j : Nat} : j ∈ edgesOf o ↔ ∃ e ∈ o.after, Region.binds .any e = true ∧ e.on = j := by
  simp [edgesOf, and_assoc]

theorem RG.posts {ops : Array Oper} {fin : List (Option Tmp × Post) → Prop} : ∀ (r : List Oper) (acc : List (Option Tmp × Post)), RG P ops Q K a0 w0 r acc fin →
    ∃ qs : List (Option Tmp × Post), qs.length = r.length ∧ (∀ i o q, r[i]? = some o → qs[i]? = some q → q.1 = o.dst ∧ StableK K q.2 ∧ Prem P ops Q K a0 w0 ((qs.take i).reverse ++ acc) o q.2) ∧ fin (qs.reverse ++ acc) := by
  intro r
  induction r with
  | nil => intro acc h; simp only [RG] at h; exact ⟨[], rfl, fun i o q h => by simp at h, by simpa using h⟩
  | cons o r ih =>
    intro acc h
    obtain ⟨p, hs, hp, hr⟩ := h
    obtain ⟨qs, hl, hall, hf⟩ := ih _ hr
    refine ⟨(o.dst, p) :: qs, by simp [hl], fun i o' q hi hq => ?_, by simpa using hf⟩
    match i, hi, hq with
    | 0, hi, hq =>
      simp only [List.getElem?_cons_zero, Option.some.injEq] at hi hq
      subst hi hq
      exact ⟨rfl, hs, by simpa using hp⟩
    | i + 1, hi, hq =>
      simp only [List.getElem?_cons_succ] at hi hq
      simpa using hall i o' q hi hq

theorem know_acc (t : Tmp) (v : Value) (W : World) (qs : List (Option Tmp × Post)) : ∀ i, i ≤ qs.length →
    (∀ j q, j < i → qs[j]? = some q → q.1 = some t → (∀ k q', j < k → k < i → qs[k]? = some q' → q'.1 ≠ some t) → q.2 v W) →
    ((∀ j q, j < i → qs[j]? = some q → q.1 ≠ some t) → v = a0.tmps.getD t undef) → know a0 ((qs.take i).reverse) t v W := by
  intro i
  induction i with
  | zero => intro _ _ h; simpa [know] using h (fun j q hj => by omega)
  | succ i ih =>
    intro hi h1 h2
    have hiq : i < qs.length := by omega
    have hq : qs[i]? = some qs[i] := List.getElem?_eq_getElem hiq
    rw [List.take_succ_eq_append_getElem hiq, List.reverse_append]
    simp only [List.reverse_cons, List.reverse_nil, List.nil_append, List.singleton_append]
    generalize qs[i] = q at hq ⊢
    obtain ⟨d, p⟩ := q
    simp only [know]
    split
    · rename_i hd
      exact h1 i (d, p) (by omega) hq hd (fun k q' hk hk' => by omega)
    · rename_i hd
      refine ih (by omega) (fun j q hj hqj hdj hlast => h1 j q (by omega) hqj hdj fun k q' hk hk' hqk => ?_) (fun hno => h2 fun j q hj hqj => ?_)
      · by_cases hki : k = i
        · subst hki; rw [hq] at hqk; cases hqk; exact hd
        · exact hlast k q' hk (by omega) hqk
      · by_cases hji : j = i
        · subst hji; rw [hq] at hqj; cases hqj; exact hd
        · exact hno j q (by omega) hqj

/-- before the tail: what holds of the frame and of the world when the operations 'listed' have been run -/
structure RInv (K : World → World → Prop) (l : List Oper) (m n : Nat) (a0 : Act) (w0 : World) (qs : List (Option Tmp × Post)) (listed : Array Bool) (a : Act) (W : World) : Prop where
  size : listed.size = l.length
  keep : K w0 W
  closed : ∀ (i : Nat) (o : Oper), l[i]? = some o → m ≤ i → listed.getD i false = true → ∀ j ∈ edgesOf o, listed.getD j false = true
  pre : ∀ i, i < m → listed.getD i false = true
  tail : ∀ i, n ≤ i → listed.getD i false = false
  defers : a.defers = a0.defers
  tsize : a.tmps.size = a0.tmps.size
  old : ∀ t, (∀ (i : Nat) (o : Oper), l[i]? = some o → m ≤ i → i < n → listed.getD i false = true → o.dst ≠ some t) → a.tmps.getD t undef = a0.tmps.getD t undef
  post : ∀ (i : Nat) (o : Oper) (q : Option Tmp × Post), l[i]? = some o → qs[i]? = some q → m ≤ i → i < n → listed.getD i false = true →
    ∃ v, q.2 v W ∧ ∀ t, o.dst = some t → a.tmps.getD t undef = v

theorem getD_put (a : Act) (d t : Tmp) (v : Value) : (a.put (some d) v).tmps.getD t undef = if d = t then (if t < a.tmps.size then v else undef) else a.tmps.getD t undef := by
  simp only [Act.put, Array.getD_eq_getD_getElem?, Array.getElem?_setIfInBounds]
  by_cases h : d = t
  · subst h
    by_cases hl : d < a.tmps.size
    · simp [hl]
    · simp [hl]
  · simp [h]

theorem put_defers' (a : Act) (d : Option Tmp) (v : Value) : (a.put d v).defers = a.defers := by cases d <;> rfl
theorem put_size (a : Act) (d : Option Tmp) (v : Value) : (a.put d v).tmps.size = a.tmps.size := by cases d <;> simp [Act.put]

theorem rgRow_of (hc : rgChk l m n = true) (i : Nat) (hm : m ≤ i) (hi : i < n) : rgRow l m n i = true := by
  unfold rgChk at hc
  simp only [Bool.and_eq_true, List.all_eq_true, List.mem_range, Bool.or_eq_true, decide_eq_true_eq] at hc
  exact (hc.1.2 i hi).resolve_left (by omega)
theorem rg_le (hc : rgChk l m n = true) : n ≤ l.length := by
  unfold rgChk at hc
  simp only [Bool.and_eq_true, decide_eq_true_eq] at hc
  exact hc.1.1.2
theorem rg_mn (hc : rgChk l m n = true) : m ≤ n := by
  unfold rgChk at hc
  simp only [Bool.and_eq_true, decide_eq_true_eq] at hc
  exact hc.1.1.1
theorem rg_tail (hc : rgChk l m n = true) (k : Nat) (hk : n ≤ k) (o : Oper) (ho : l[k]? = some o) (i : Nat) (hm : m ≤ i) (hi : i < n) : i ∈ edgesOf o := by
  unfold rgChk at hc
  simp only [Bool.and_eq_true, List.all_eq_true, List.mem_range] at hc
  have hl : k < l.length := (List.getElem?_eq_some_iff.1 ho).1
  have := hc.2 (k - n) (by omega)
  rw [show n + (k - n) = k by omega, ho] at this
  simp only [Option.map_some, Option.getD_some, List.all_eq_true, List.mem_range, List.contains_iff_mem, Bool.or_eq_true, decide_eq_true_eq] at this
  exact (this i hi).resolve_left (by omega)
theorem rg_edge (hc : rgChk l m n = true) (i : Nat) (hm : m ≤ i) (hi : i < n) (o : Oper) (ho : l[i]? = some o) (j : Nat) (hj : j ∈ edgesOf o) : j < i := by
  have := rgRow_of hc i hm hi
  unfold rgRow at this
  rw [ho] at this
  simp only [Bool.and_eq_true, List.all_eq_true, decide_eq_true_eq] at this
  exact this.1 j hj
theorem rg_pair (hc : rgChk l m n = true) (i k : Nat) (hmi : m ≤ i) (hi : i < n) (hmk : m ≤ k) (hk : k < n) (hne : k ≠ i) (o o' : Oper) (ho : l[i]? = some o) (ho' : l[k]? = some o') (t : Tmp) (hd : o'.dst = some t) :
    o.dst ≠ some t ∧ (t ∈ looks l.toArray o → (k < i ∧ k ∈ edgesOf o) ∨ (i < k ∧ i ∈ edgesOf o')) := by
  have := rgRow_of hc i hmi hi
  unfold rgRow at this
  rw [ho] at this
  simp only [Bool.and_eq_true, List.all_eq_true, List.mem_range] at this
  have := this.2 k hk
  rw [ho'] at this
  simp only [Option.bind_some, hd, Bool.and_eq_true, Bool.or_eq_true, beq_iff_eq, decide_eq_true_eq, List.contains_iff_mem, Option.map_some, Option.getD_some] at this
  have := this.resolve_left (by omega)
  refine ⟨fun e => ?_, fun ht => ?_⟩
  · have h := this.1.resolve_left hne
    simp [e] at h
  · rcases this.2 with ((h | h) | h) | h
    · exact absurd h hne
    · simp [ht] at h
    · exact .inl h
    · exact .inr h

theorem getD_set (listed : Array Bool) (i j : Nat) (hi : i < listed.size) : (listed.setIfInBounds i true).getD j false = if i = j then true else listed.getD j false := by
  by_cases h : i = j
  · subst h; simp [hi]
  · simp [h, Array.getElem?_setIfInBounds_ne h]

theorem getD_tf (listed : Array Bool) (j : Nat) (hj : j < listed.size) : listed.getD j true = listed.getD j false := by
  simp [Array.getElem?_eq_getElem hj]

theorem sg_of (hc : sgChk l m n = true) : n ≤ l.length ∧ ∀ k, m ≤ k → k < n → ∀ o, l[k]? = some o → (∀ j ∈ edgesOf o, j < k) ∧ ∀ j o', k < j → l[j]? = some o' → k ∈ edgesOf o' := by
  unfold sgChk at hc
  simp only [Bool.and_eq_true, List.all_eq_true, List.mem_range, Bool.or_eq_true, decide_eq_true_eq] at hc
  refine ⟨hc.1, fun k hm hk o ho => ?_⟩
  have h := (hc.2 k hk).resolve_left (by omega)
  rw [ho] at h
  simp only [Option.map_some, Option.getD_some, List.all_eq_true, decide_eq_true_eq] at h
  refine ⟨h.1, fun j o' hj ho' => ?_⟩
  have h2 := (h.2 j (List.getElem?_eq_some_iff.1 ho').1).resolve_left (by omega)
  rw [ho'] at h2
  simpa using h2

theorem wpFrom_end (h : Q .normal a0 w0) : wpFrom P l Q l.length a0 w0 := by
  intro fuel listed _ hsz h1 h2
  have hnil : Region.ready .any l.toArray listed = [] := by
    rw [List.eq_nil_iff_forall_not_mem]
    intro j hj
    rw [mem_ready] at hj
    obtain ⟨h0, o, ho, _⟩ := hj
    have hlt : j < l.length := (List.getElem?_eq_some_iff.1 (show l[j]? = some o by simpa using ho)).1
    rw [getD_tf _ _ (by omega), h1 j hlt] at h0
    cases h0
  cases fuel with
  | zero => exact ⟨hnil, h⟩
  | succ fuel => exact ⟨fun _ => h, fun j hj => by rw [hnil] at hj; cases hj⟩

theorem wpList_then {ops : Array Oper} : ∀ {r : List Oper} {a : Act} {W : World}, wpList P ops Q r a W → wpList P ops (Exit.then (wpFrom P l Q l.length) Q) r a W
  | [], a, W, h => wpFrom_end h
  | o :: r, a, W, h => by
    simp only [wpList] at h ⊢
    split
    · rename_i hw
      rw [if_pos hw] at h
      refine h.imp (fun h => ?_) (fun h => ⟨h.1, h.2⟩)
      have h' := Oper.wp_mono (fun a w => wpList_then (r := r)) h
      unfold Oper.wp at h' ⊢
      generalize (execOp a.eval o).run P W = x at h' ⊢
      cases x with
      | ok x w' => cases x <;> exact h'
      | halt x w' => cases x <;> exact h'
    · rename_i hw
      rw [if_neg hw] at h
      exact wpList_then h

/-- operations in their forced order -/
theorem wpFrom_seg (hc : sgChk l m n = true) (hmn : m ≤ n) : ∀ (d k : Nat) (a : Act) (W : World), k + d = n → m ≤ k → wpList P l.toArray (Exit.then (wpFrom P l Q n) Q) ((l.drop k).take d) a W → wpFrom P l Q k a W := by
  obtain ⟨hn, hs⟩ := sg_of hc
  intro d
  induction d with
  | zero =>
    intro k a W hk hm h
    obtain rfl : k = n := by omega
    simpa [wpList, Exit.then] using h
  | succ d ih =>
    intro k a W hk hm h fuel listed hf hsz h1 h2
    have hlt : k < l.length := by omega
    obtain ⟨s1, s2⟩ := hs k hm (by omega) l[k] (List.getElem?_eq_getElem hlt)
    have rdy : ∀ j, j ∈ Region.ready .any l.toArray listed ↔ j = k := by
      intro j
      rw [mem_ready]
      constructor
      · rintro ⟨h0, o, ho, hall⟩
        have ho' : l[j]? = some o := by simpa using ho
        have hjl : j < l.length := (List.getElem?_eq_some_iff.1 ho').1
        rw [getD_tf _ _ (by omega)] at h0
        rcases Nat.lt_trichotomy j k with hlt' | rfl | hgt
        · rw [h1 j hlt'] at h0; cases h0
        · rfl
        · have he := s2 j o hgt ho'
          rw [mem_edges] at he
          obtain ⟨e, he1, he2, he3⟩ := he
          have := hall e he1 he2
          rw [he3, h2 k (Nat.le_refl _)] at this
          cases this
      · rintro rfl
        refine ⟨by rw [getD_tf _ _ (by omega)]; exact h2 j (Nat.le_refl _), l[j], by simp [hlt], fun e he hb => ?_⟩
        exact h1 _ (s1 e.on (mem_edges.2 ⟨e, he, hb, rfl⟩))
    match fuel, hf with
    | 0, hf => omega
    | fuel + 1, hf =>
      refine ⟨fun hnil => ?_, fun j hj => ?_⟩
      · have := (rdy k).2 rfl
        rw [hnil] at this
        cases this
      · obtain rfl := (rdy j).1 hj
        have next : ∀ a' W', wpList P l.toArray (Exit.then (wpFrom P l Q n) Q) ((l.drop (j + 1)).take d) a' W' → wpAny P .any l.toArray Q fuel (listed.setIfInBounds j true) a' W' := fun a' W' h' =>
          ih (j + 1) a' W' (by omega) (by omega) h' _ _ (by omega) (by simpa using hsz) (fun i hi => by rw [getD_set _ _ _ (by omega)]; split; rfl; exact h1 i (by omega)) (fun i hi => by rw [getD_set _ _ _ (by omega), if_neg (by omega)]; exact h2 i (by omega))
        have ho : l.toArray[j]? = some l[j] := by simp [hlt]
        rw [List.drop_eq_getElem_cons hlt, List.take_succ_cons] at h
        unfold wpOp
        simp only [ho]
        simp only [wpList] at h
        split
        · rename_i hw
          rw [if_pos hw] at h
          refine h.imp (fun h => ?_) (fun h => ⟨h.1, h.2⟩)
          have h' := Oper.wp_mono next h
          unfold Oper.wp at h' ⊢
          generalize (execOp a.eval l[j]).run P W = r at h' ⊢
          cases r with
          | ok x w' => cases x <;> exact h'
          | halt x w' => cases x <;> exact h'
        · rename_i hw
          rw [if_neg hw] at h
          exact next _ _ h

/-- the frame behind all n operations is the frame with their values put in the order of the text -/
theorem Fin'.of {K : Act → World → Prop} : ∀ (r : List (Option Tmp × Post)) (a : Act) (W : World), Fin' K r a W → ∀ vs : List Value, vs.length = r.length → (∀ (i : Nat) (q : Option Tmp × Post) (v : Value), r[i]? = some q → vs[i]? = some v → q.2 v W) →
    K ((r.zip vs).foldl (fun b x => b.put x.1.1 x.2) a) W := by
  intro r
  induction r with
  | nil => intro a W h vs _ _; simpa [Fin'] using h
  | cons q r ih =>
    intro a W h vs hl hv
    match vs, hl with
    | v :: vs, hl =>
      obtain ⟨d, p⟩ := q
      simp only [Fin'] at h
      have := ih _ W (h v (hv 0 (d, p) v rfl rfl)) vs (by simpa using hl) (fun i q' v' h1 h2 => hv (i + 1) q' v' (by simpa using h1) (by simpa using h2))
      simpa using this

theorem foldl_put_get (t : Tmp) : ∀ (r : List (Option Tmp × Post)) (vs : List Value) (a : Act), vs.length = r.length →
    (∀ (i k : Nat) (q q' : Option Tmp × Post), i ≠ k → r[i]? = some q → r[k]? = some q' → q.1 = some t → q'.1 ≠ some t) →
    let b := (r.zip vs).foldl (fun b x => b.put x.1.1 x.2) a
    b.defers = a.defers ∧ b.tmps.size = a.tmps.size ∧
    (∀ (i : Nat) (q : Option Tmp × Post) (v : Value), r[i]? = some q → vs[i]? = some v → q.1 = some t → b.tmps.getD t undef = if t < a.tmps.size then v else undef) ∧
    ((∀ (i : Nat) (q : Option Tmp × Post), r[i]? = some q → q.1 ≠ some t) → b.tmps.getD t undef = a.tmps.getD t undef) := by
  intro r
  induction r with
  | nil => intro vs a _ _; exact ⟨by simp, by simp, fun i q v h => by simp at h, fun _ => by simp⟩
  | cons q r ih =>
    intro vs a hl hd
    match vs, hl with
    | v :: vs, hl =>
      obtain ⟨k1, k2, k3, k4⟩ := ih vs (a.put q.1 v) (by simpa using hl) (fun i k q1 q2 hne h1 h2 => hd (i + 1) (k + 1) q1 q2 (by omega) (by simpa using h1) (by simpa using h2))
      simp only [List.zip_cons_cons, List.foldl_cons]
      rw [put_defers'] at k1
      rw [put_size] at k2 k3
      refine ⟨k1, k2, fun i q' v' h1 h2 h3 => ?_, fun hno => ?_⟩
      · match i, h1, h2 with
        | 0, h1, h2 =>
          simp only [List.getElem?_cons_zero, Option.some.injEq] at h1 h2
          subst h1 h2
          rw [k4 (fun i q'' h => hd 0 (i + 1) q q'' (by omega) rfl (by simpa using h) h3), h3, getD_put, if_pos rfl]
        | i + 1, h1, h2 => exact k3 i q' v' (by simpa using h1) (by simpa using h2) h3
      · rw [k4 (fun i q' h => hno (i + 1) q' (by simpa using h))]
        have := hno 0 q rfl
        cases hq : q.1 with
        | none => rfl
        | some d =>
          rw [getD_put, if_neg]
          intro e
          exact this (by rw [hq, e])

theorem act_ext {a b : Act} (h1 : a.defers = b.defers) (h2 : a.tmps.size = b.tmps.size) (h3 : ∀ t, a.tmps.getD t undef = b.tmps.getD t undef) : a = b := by
  obtain ⟨ta, da⟩ := a
  obtain ⟨tb, db⟩ := b
  simp only at h1 h2 h3
  subst h1
  congr 1
  apply Array.ext h2
  intro i hi hj
  have := h3 i
  simpa [Array.getElem?_eq_getElem hi, Array.getElem?_eq_getElem hj] using this

theorem countP_lt {p p' : Nat → Bool} : ∀ (r : List Nat), (∀ j ∈ r, p' j = true → p j = true) → ∀ i ∈ r, p i = true → p' i = false → r.countP p' < r.countP p := by
  intro r
  induction r with
  | nil => intro _ i hi; cases hi
  | cons x r ih =>
    intro hm i hi hp hp'
    have hle : r.countP p' ≤ r.countP p := List.countP_mono_left (fun j hj => hm j (by simp [hj]))
    rw [List.countP_cons, List.countP_cons]
    rcases List.mem_cons.1 hi with rfl | hi
    · simp [hp, hp']; omega
    · have := ih (fun j hj => hm j (by simp [hj])) i hi hp hp'
      have hx := hm x (by simp)
      by_cases h1 : p' x = true
      · simp [h1, hx h1]; omega
      · simp [h1]; omega

theorem any_of_inv [Grow K] (hc : rgChk l m n = true) (hz : ∀ (i : Nat) (o : Oper), l[i]? = some o → i < n → ∀ d, o.dst = some d → d < a0.tmps.size) (qs : List (Option Tmp × Post)) (hq : qs.length = n)
    (hdum : ∀ (i : Nat) (q : Option Tmp × Post), i < m → qs[i]? = some q → q = dummy)
    (hall : ∀ (i : Nat) (o : Oper) (q : Option Tmp × Post), m ≤ i → (l.take n)[i]? = some o → qs[i]? = some q → q.1 = o.dst ∧ StableK K q.2 ∧ Prem P l.toArray Q K a0 w0 ((qs.take i).reverse) o q.2)
    (hfin : ∀ W, K w0 W → Fin' (wpFrom P l Q n) qs a0 W) :
    ∀ (fuel : Nat) (listed : Array Bool) (a : Act) (W : World), (List.range l.length).countP (fun i => !listed.getD i false) ≤ fuel → RInv K l m n a0 w0 qs listed a W → wpAny P .any l.toArray Q fuel listed a W := by
  have hmn := rg_mn hc
  have hn := rg_le hc
  -- all n are run
  have full : ∀ (fuel : Nat) (listed : Array Bool) (a : Act) (W : World), l.length - n ≤ fuel → RInv K l m n a0 w0 qs listed a W → (∀ i, i < n → listed.getD i false = true) → wpAny P .any l.toArray Q fuel listed a W := by
    intro fuel listed a W hf I hfull
    suffices hsuf : wpFrom P l Q n a W from hsuf fuel listed hf I.size hfull I.tail
    have hvs : ∃ vs : List Value, vs.length = qs.length ∧ (∀ (i : Nat) (q : Option Tmp × Post) (v : Value), qs[i]? = some q → vs[i]? = some v → q.2 v W) ∧ ∀ (i : Nat) (q : Option Tmp × Post) (v : Value) (t : Tmp), qs[i]? = some q → vs[i]? = some v → q.1 = some t → a.tmps.getD t undef = v ∧ t < a.tmps.size := by
      have hex : ∀ i : Fin n, ∃ v : Value, ∀ q, qs[i.1]? = some q → q.2 v W ∧ ∀ t, q.1 = some t → a.tmps.getD t undef = v ∧ t < a.tmps.size := by
        intro i
        have hil : i.1 < l.length := by omega
        have hiq : i.1 < qs.length := by omega
        by_cases hmi : i.1 < m
        · refine ⟨undef, fun q hq' => ?_⟩
          have := hdum i.1 q hmi hq'
          subst this
          exact ⟨trivial, fun t ht => by cases ht⟩
        obtain ⟨v, h1, h2⟩ := I.post i.1 l[i.1] qs[i.1] (List.getElem?_eq_getElem hil) (List.getElem?_eq_getElem hiq) (by omega) i.2 (hfull i.1 i.2)
        refine ⟨v, fun q hq' => ?_⟩
        rw [List.getElem?_eq_getElem hiq, Option.some.injEq] at hq'
        subst hq'
        refine ⟨h1, fun t ht => ?_⟩
        suffices hd : l[i.1].dst = some t from ⟨h2 t hd, by rw [I.tsize]; exact hz i.1 _ (List.getElem?_eq_getElem hil) i.2 t hd⟩
        rw [← (hall i.1 l[i.1] qs[i.1] (by omega) (by rw [List.getElem?_take_of_lt i.2]; exact List.getElem?_eq_getElem hil) (List.getElem?_eq_getElem hiq)).1, ht]
      obtain ⟨f, hf'⟩ := Classical.axiomOfChoice hex
      refine ⟨List.ofFn f, by simp [hq], fun i q v h1 h2 => ?_, fun i q v t h1 h2 h3 => ?_⟩
      all_goals
        have hin : i < n := by have := (List.getElem?_eq_some_iff.1 h1).1; omega
        have e : v = f ⟨i, hin⟩ := by simpa [List.getElem?_ofFn, hin] using h2.symm
        subst e
        have := hf' ⟨i, hin⟩ q h1
      · exact this.1
      · exact this.2 t h3
    obtain ⟨vs, hlen, hp, hg⟩ := hvs
    have hk := Fin'.of qs a0 W (hfin W I.keep) vs hlen hp
    have hdist : ∀ (t : Tmp) (i k : Nat) (q q' : Option Tmp × Post), i ≠ k → qs[i]? = some q → qs[k]? = some q' → q.1 = some t → q'.1 ≠ some t := by
      intro t i k q q' hne h1 h2 h3 h4
      have hin : i < n := by have := (List.getElem?_eq_some_iff.1 h1).1; omega
      have hkn : k < n := by have := (List.getElem?_eq_some_iff.1 h2).1; omega
      have hmi : m ≤ i := by
        rcases Nat.lt_or_ge i m with h | h
        · have := hdum i q h h1; subst this; cases h3
        · exact h
      have hmk : m ≤ k := by
        rcases Nat.lt_or_ge k m with h | h
        · have := hdum k q' h h2; subst this; cases h4
        · exact h
      have oi := List.getElem?_eq_getElem (l := l) (i := i) (by omega)
      have ok := List.getElem?_eq_getElem (l := l) (i := k) (by omega)
      have e1 := (hall i _ q hmi (by rw [List.getElem?_take_of_lt hin]; exact oi) h1).1
      have e2 := (hall k _ q' hmk (by rw [List.getElem?_take_of_lt hkn]; exact ok) h2).1
      exact (rg_pair hc k i hmk hkn hmi hin hne _ _ ok oi t (by rw [← e1, h3])).1 (by rw [← e2, h4])
    have e : a = (qs.zip vs).foldl (fun b x => b.put x.1.1 x.2) a0 := by
      have base := fun t => foldl_put_get t qs vs a0 hlen (hdist t)
      refine act_ext (by rw [I.defers, (base 0).1]) (by rw [I.tsize, (base 0).2.1]) fun t => ?_
      by_cases hex : ∃ (i : Nat) (q : Option Tmp × Post), qs[i]? = some q ∧ q.1 = some t
      · obtain ⟨i, q, h1, h2⟩ := hex
        have hiv : i < vs.length := by have := (List.getElem?_eq_some_iff.1 h1).1; omega
        have hgi := hg i q vs[i] t h1 (List.getElem?_eq_getElem hiv) h2
        rw [hgi.1, (base t).2.2.1 i q vs[i] h1 (List.getElem?_eq_getElem hiv) h2, ← I.tsize, if_pos hgi.2]
      · rw [(base t).2.2.2 (fun i q h1 h2 => hex ⟨i, q, h1, h2⟩)]
        refine I.old t fun i o ho hmi hin _ hd => hex ?_
        have hiq : i < qs.length := by omega
        refine ⟨i, qs[i], List.getElem?_eq_getElem hiq, ?_⟩
        rw [(hall i o qs[i] hmi (by rw [List.getElem?_take_of_lt hin]; exact ho) (List.getElem?_eq_getElem hiq)).1, hd]
    rw [e]
    exact hk
  have count_lt : ∀ (listed : Array Bool) (i : Nat), i < l.length → listed.size = l.length → listed.getD i false = false →
      (List.range l.length).countP (fun j => !(listed.setIfInBounds i true).getD j false) < (List.range l.length).countP (fun j => !listed.getD j false) := by
    intro listed i hi hsz hfalse
    refine countP_lt (p := fun j => !listed.getD j false) (p' := fun j => !(listed.setIfInBounds i true).getD j false) _ (fun j _ h => ?_) i (List.mem_range.2 hi) (by simp only [hfalse]; rfl) ?_
    · simp only [getD_set _ _ _ (show i < listed.size by omega)] at h
      split at h
      · cases h
      · exact h
    · simp only [getD_set _ _ _ (show i < listed.size by omega), if_true, Bool.not_true]
  have left : ∀ (listed : Array Bool), (∀ i, n ≤ i → listed.getD i false = false) → l.length - n ≤ (List.range l.length).countP (fun j => !listed.getD j false) := by
    intro listed ht
    have e : List.range l.length = List.range n ++ List.range' n (l.length - n) := by
      have := List.range'_append_1 (s := 0) (m := n) (n := l.length - n)
      rw [Nat.zero_add, show n + (l.length - n) = l.length by omega] at this
      rw [List.range_eq_range', List.range_eq_range', this]
    have h2 : (List.range' n (l.length - n)).countP (fun j => !listed.getD j false) = l.length - n := by
      rw [List.countP_eq_length.2]
      · simp
      · intro j hj
        have : n ≤ j := by rw [List.mem_range'_1] at hj; exact hj.1
        simp [ht j this]
    rw [e, List.countP_append, h2]
    omega
  intro fuel
  induction fuel with
  | zero =>
    intro listed a W hf I
    have h := left listed I.tail
    refine full 0 listed a W (by omega) I fun i hi => ?_
    have hz : (List.range l.length).countP (fun j => !listed.getD j false) = 0 := by omega
    rw [List.countP_eq_zero] at hz
    have := hz i (List.mem_range.2 (by omega))
    simpa using this
  | succ fuel ih =>
    intro listed a W hf I
    by_cases hfull : ∀ i, i < n → listed.getD i false = true
    · exact full _ listed a W (by have := left listed I.tail; omega) I hfull
    · -- the least one that is not run is ready
      have hex : ∃ i, i < n ∧ listed.getD i false = false ∧ ∀ j, j < i → listed.getD j false = true := by
        have hex1 : ∃ i, i < n ∧ listed.getD i false = false := by
          refine Classical.byContradiction fun hno => hfull fun i hi => ?_
          cases hb : listed.getD i false
          · exact absurd ⟨i, hi, hb⟩ hno
          · rfl
        obtain ⟨i, hi, hb⟩ := hex1
        induction i using Nat.strongRecOn with
        | ind i ihi =>
          by_cases hall' : ∀ j, j < i → listed.getD j false = true
          · exact ⟨i, hi, hb, hall'⟩
          · have : ∃ j, j < i ∧ listed.getD j false = false := by
              refine Classical.byContradiction fun hno => hall' fun j hj => ?_
              cases hb' : listed.getD j false
              · exact absurd ⟨j, hj, hb'⟩ hno
              · rfl
            obtain ⟨j, hj, hb'⟩ := this
            exact ihi j hj (by omega) hb'
      refine ⟨fun hnil => ?_, fun j hj => ?_⟩
      · exfalso
        obtain ⟨i, hi, hb, hlow⟩ := hex
        have hil : i < l.length := by omega
        have : i ∈ Region.ready .any l.toArray listed := by
          rw [mem_ready]
          refine ⟨by rw [getD_tf _ _ (by rw [I.size]; exact hil)]; exact hb, l[i], by simp [hil], fun e he hbd => ?_⟩
          exact hlow _ (rg_edge hc i (by rcases Nat.lt_or_ge i m with h | h; (rw [I.pre i h] at hb; cases hb); exact h) hi l[i] (List.getElem?_eq_getElem hil) e.on (mem_edges.2 ⟨e, he, hbd, rfl⟩))
        rw [hnil] at this
        cases this
      · rw [mem_ready] at hj
        obtain ⟨h0, o, ho, hall'⟩ := hj
        have hol : l[j]? = some o := by simpa using ho
        have hjl : j < l.length := (List.getElem?_eq_some_iff.1 hol).1
        rw [getD_tf _ _ (by rw [I.size]; exact hjl)] at h0
        have hedges : ∀ k ∈ edgesOf o, listed.getD k false = true := fun k hk => by
          obtain ⟨e, he, hb, rfl⟩ := mem_edges.1 hk
          exact hall' e he hb
        have hjn : j < n := by
          rcases Nat.lt_or_ge j n with h | h
          · exact h
          · exfalso
            obtain ⟨i, hi, hb, _⟩ := hex
            have := hedges i (rg_tail hc j h o hol i (by rcases Nat.lt_or_ge i m with h | h; (rw [I.pre i h] at hb; cases hb); exact h) hi)
            rw [hb] at this
            cases this
        have hjm : m ≤ j := by
          rcases Nat.lt_or_ge j m with h | h
          · rw [I.pre j h] at h0; cases h0
          · exact h
        have hjq : j < qs.length := by omega
        have hqj : qs[j]? = some qs[j] := List.getElem?_eq_getElem hjq
        generalize hqe : qs[j] = q at hqj
        obtain ⟨hd, hst, hprem⟩ := hall j o q hjm (by rw [List.getElem?_take_of_lt hjn]; exact hol) hqj
        have hknow : ∀ t ∈ looks l.toArray o, know a0 ((qs.take j).reverse) t (a.tmps.getD t undef) W := by
          intro t ht
          refine know_acc t _ W qs j (by omega) (fun k q' hk hqk hdk _ => ?_) (fun hno => ?_)
          · have hmk : m ≤ k := by
              rcases Nat.lt_or_ge k m with h | h
              · have := hdum k q' h hqk; subst this; cases hdk
              · exact h
            have hkl : k < l.length := by omega
            have okl : l[k]? = some l[k] := List.getElem?_eq_getElem hkl
            have ek := (hall k l[k] q' hmk (by rw [List.getElem?_take_of_lt (by omega)]; exact okl) hqk).1
            have hdk' : l[k].dst = some t := by rw [← ek, hdk]
            rcases (rg_pair hc j k hjm hjn hmk (by omega) (by omega) o l[k] hol okl t hdk').2 ht with h | h
            · obtain ⟨v, hv, hg⟩ := I.post k l[k] q' okl hqk hmk (by omega) (hedges k h.2)
              rw [hg t hdk']
              exact hv
            · omega
          · refine I.old t fun k o' hk hmk hkn hlist hdk => ?_
            have hqk : qs[k]? = some qs[k] := List.getElem?_eq_getElem (by omega)
            have ek := (hall k o' qs[k] hmk (by rw [List.getElem?_take_of_lt hkn]; exact hk) hqk).1
            rcases Nat.lt_trichotomy k j with hlt | rfl | hgt
            · exact hno k qs[k] hlt hqk (by rw [ek, hdk])
            · rw [h0] at hlist; cases hlist
            · rcases (rg_pair hc j k hjm hjn hmk hkn (by omega) o o' hol hk t hdk).2 ht with h | h
              · omega
              · have := I.closed k o' hk hmk hlist j h.2
                rw [h0] at this
                cases this
        have hp := hprem a W I.keep hknow
        -- the state behind operation j
        have next : ∀ v W', K W W' → q.2 v W' → wpAny P .any l.toArray Q fuel (listed.setIfInBounds j true) (a.put o.dst v) W' := by
          intro v W' hk hv
          have hjs : j < listed.size := by rw [I.size]; exact hjl
          refine ih _ _ W' (by have := count_lt listed j hjl I.size h0; omega) ⟨by simpa using I.size, Grow.trans I.keep hk, ?_, ?_, ?_, by rw [put_defers', I.defers], by rw [put_size, I.tsize], ?_, ?_⟩
          · intro i o' hi hmi hl k hk'
            rw [getD_set _ _ _ hjs] at hl ⊢
            split
            · rfl
            · split at hl
              · rename_i e; subst e; rw [hol] at hi; cases hi; exact hedges k hk'
              · exact I.closed i o' hi hmi hl k hk'
          · intro i hi
            rw [getD_set _ _ _ hjs]
            split
            · rfl
            · exact I.pre i hi
          · intro i hi
            rw [getD_set _ _ _ hjs, if_neg (by omega)]
            exact I.tail i hi
          · intro t hno
            have hjd : o.dst ≠ some t := hno j o hol hjm hjn (by rw [getD_set _ _ _ hjs, if_pos rfl])
            have hold := I.old t fun i o' hi hmi hin hl => hno i o' hi hmi hin (by rw [getD_set _ _ _ hjs]; split; rfl; exact hl)
            cases hod : o.dst with
            | none => exact hold
            | some d => rw [getD_put, if_neg (fun e => hjd (by rw [hod, e]))]; exact hold
          · intro i o' q' hi hqi hmi hin hl
            by_cases hij : j = i
            · subst hij
              rw [hol] at hi; cases hi
              rw [hqj] at hqi; cases hqi
              refine ⟨v, hv, fun t ht => ?_⟩
              rw [ht, getD_put, if_pos rfl, if_pos (by rw [I.tsize]; exact hz j o hol hjn t ht)]
            · rw [getD_set _ _ _ hjs, if_neg hij] at hl
              obtain ⟨u, hu, hg⟩ := I.post i o' q' hi hqi hmi hin hl
              have hst' := (hall i o' q' hmi (by rw [List.getElem?_take_of_lt hin]; exact hi) hqi).2.1
              refine ⟨u, hst' u W W' hk hu, fun t ht => ?_⟩
              have hne := (rg_pair hc j i hjm hjn hmi hin (fun e => hij e.symm) o o' hol hi t ht).1
              cases hod : o.dst with
              | none => exact hg t ht
              | some d => rw [getD_put, if_neg (fun e => hne (by rw [hod, e]))]; exact hg t ht
        have ho' : l.toArray[j]? = some o := ho
        unfold wpOp
        simp only [ho']
        split
        · rename_i hw
          rw [if_pos hw] at hp
          refine .inl (Oper.wp_mono (fun a' W' h' => ?_) hp)
          obtain ⟨v, rfl, hk, hv⟩ := h'
          exact next v W' hk hv
        · rename_i hw
          rw [if_neg hw] at hp
          exact next undef W (Grow.refl _) hp

theorem none_yet (m i : Nat) : (Array.replicate m false).getD i false = false := by
  by_cases h : i < m <;> simp [h]

theorem fin_dummies {Kk : Act → World → Prop} {r : List (Option Tmp × Post)} {a : Act} {W : World} (h : Fin' Kk r a W) : ∀ m, Fin' Kk (List.replicate m dummy ++ r) a W
  | 0 => by simpa using h
  | m + 1 => by
    rw [List.replicate_succ, List.cons_append]
    exact fun _ _ => fin_dummies h m

/-- THE LAW OF A STAGE. -/
theorem wpFrom_rg [Grow K] (hc : rgChk l m n = true) (hz : ((l.take n).all fun o => match o.dst with | some d => decide (d < a0.tmps.size) | none => true) = true)
    (h : RG P l.toArray Q K a0 w0 ((l.take n).drop m) [] fun acc => ∀ W, K w0 W → Fin' (wpFrom P l Q n) acc.reverse a0 W) : wpFrom P l Q m a0 w0 := by
  intro fuel listed hf hsz h1 h2
  obtain ⟨qs, hl, hall, hfn⟩ := RG.posts _ _ h
  have hn := rg_le hc
  have hmn := rg_mn hc
  have hq : qs.length = n - m := by rw [hl]; simp; omega
  simp only [List.append_nil, List.reverse_reverse] at hall hfn
  have hleft : (List.range l.length).countP (fun i => !listed.getD i false) ≤ l.length - m := by
    have e : List.range l.length = List.range m ++ List.range' m (l.length - m) := by
      have := List.range'_append_1 (s := 0) (m := m) (n := l.length - m)
      rw [Nat.zero_add, show m + (l.length - m) = l.length by omega] at this
      rw [List.range_eq_range', List.range_eq_range', this]
    have e0 : (List.range m).countP (fun j => !listed.getD j false) = 0 := by
      rw [List.countP_eq_zero]
      intro j hj
      simp [h1 j (List.mem_range.1 hj)]
    have e1 := List.countP_le_length (p := fun i => !listed.getD i false) (l := List.range' m (l.length - m))
    rw [e, List.countP_append, e0]
    simpa using e1
  refine any_of_inv (w0 := w0) hc (fun i o ho hi d hd => ?_) (List.replicate m dummy ++ qs) (by simp [hq]; omega) (fun i q hi hqi => ?_) (fun i o q hmi ho hqi => ?_) (fun W hW => fin_dummies (hfn W hW) m) fuel listed a0 w0 (Nat.le_trans hleft hf) ?_
  · rw [List.all_eq_true] at hz
    have := hz o (List.mem_of_getElem? (i := i) (by rw [List.getElem?_take_of_lt hi]; exact ho))
    rw [hd] at this
    simpa using this
  · rw [List.getElem?_append_left (by simpa using hi)] at hqi
    simp [hi] at hqi
    exact hqi.symm
  · rw [List.getElem?_append_right (by simpa using hmi)] at hqi
    simp only [List.length_replicate] at hqi
    obtain ⟨k1, k2, k3⟩ := hall (i - m) o q (by rw [List.getElem?_drop, show m + (i - m) = i by omega]; exact ho) hqi
    refine ⟨k1, k2, fun a W hk hf => k3 a W hk fun t ht => ?_⟩
    have := hf t ht
    rw [List.take_append, List.reverse_append, List.length_replicate, List.take_of_length_le (l := List.replicate m dummy) (by simpa using hmi), List.reverse_replicate, know_dummies] at this
    exact this
  · refine ⟨hsz, Grow.refl _, fun i o _ hmi hli => ?_, h1, fun i hi => h2 i (by omega), rfl, rfl, fun t _ => rfl, fun i o q _ _ hmi _ hli => ?_⟩
    · rw [h2 i hmi] at hli; cases hli
    · rw [h2 i hmi] at hli; cases hli

/-- a region that draws its order -/
theorem region_from {id : Nat} (hm : P.follows .mixedOrders = true) (h : wpFrom P l Q 0 a0 w0.drew) : (Code.region id l.toArray true).wp P Q a0 w0 := by
  refine wp_region_any hm ?_
  have e : ({ w0 with drawn := w0.drawn + 1 } : World) = w0.drew := rfl
  rw [e]
  exact h _ _ (by simp) (by simp) (fun i hi => by omega) (fun i _ => none_yet _ _)

/-- the first n operations in any order, the rest in its forced order -/
theorem wp_region_rg {id : Nat} (n : Nat) (hm : P.follows .mixedOrders = true) (hc : (rgChk l 0 n && sgChk l n l.length) = true) (hz : ((l.take n).all fun o => match o.dst with | some d => decide (d < a0.tmps.size) | none => true) = true)
    (h : ∀ w1, Keep w0 w1 → RG P l.toArray Q Keep a0 w1 (l.take n) [] fun acc => ∀ W, Keep w1 W → Fin' (wpList P l.toArray Q (l.drop n)) acc.reverse a0 W) : (Code.region id l.toArray true).wp P Q a0 w0 := by
  rw [Bool.and_eq_true] at hc
  refine region_from hm (wpFrom_rg (K := Keep) hc.1 hz ?_)
  have := h w0.drew (Keep.refl _).drew
  have hn := rg_le hc.1
  have mono : ∀ (r : List (Option Tmp × Post)) (a : Act) (W : World), Fin' (wpList P l.toArray Q (l.drop n)) r a W → Fin' (wpFrom P l Q n) r a W := by
    intro r
    induction r with
    | nil =>
      intro a W h
      simp only [Fin'] at h ⊢
      refine wpFrom_seg hc.2 hn (l.length - n) n a W (by omega) (Nat.le_refl _) ?_
      rw [List.take_of_length_le (by simp)]
      exact wpList_then h
    | cons q r ih => obtain ⟨d, p⟩ := q; intro a W h v hv; exact ih _ _ (h v hv)
  have rgm : ∀ (r : List Oper) (acc : List (Option Tmp × Post)) (f g : List (Option Tmp × Post) → Prop), (∀ x, f x → g x) → RG P l.toArray Q Keep a0 w0.drew r acc f → RG P l.toArray Q Keep a0 w0.drew r acc g := by
    intro r
    induction r with
    | nil => intro acc f g hfg h; exact hfg _ h
    | cons o r ih => intro acc f g hfg h; obtain ⟨p, h1, h2, h3⟩ := h; exact ⟨p, h1, h2, ih _ _ _ hfg h3⟩
  exact rgm _ _ (fun acc => ∀ W, Keep w0.drew W → Fin' (wpList P l.toArray Q (l.drop n)) acc.reverse a0 W) _ (fun acc h W hW => mono _ _ _ (h W hW)) (by simpa using this)

/-- an operation whose value is one and the same in every world that keeps w0 -/
theorem rg_det [Grow K] {ops : Array Oper} {o : Oper} {r : List Oper} {acc : List (Option Tmp × Post)} {fin : List (Option Tmp × Post) → Prop} {E : Value} (hg : o.guard = none)
    (h : ∀ (a : Act) (W : World), K w0 W → (∀ t ∈ looks ops o, know a0 acc t (a.tmps.getD t undef) W) → (execOp a.eval o).run P W = .ok (.value E) W)
    (hr : RG P ops Q K a0 w0 r ((o.dst, fun v _ => v = E) :: acc) fin) : RG P ops Q K a0 w0 (o :: r) acc fin := by
  refine ⟨fun v _ => v = E, fun _ _ _ _ h => h, fun a W hk hf => ?_, hr⟩
  have hw : Region.wanted o (yielded ops a.tmps) = true := by simp [Region.wanted, hg]
  rw [if_pos hw]
  unfold Oper.wp
  rw [h a W hk hf]
  exact ⟨E, rfl, Grow.refl _, rfl⟩
/-- a call whose value is one and the same in every world that keeps w0 -/
theorem rg_call [Grow K] {ops : Array Oper} {o : Oper} {r : List Oper} {acc : List (Option Tmp × Post)} {fin : List (Option Tmp × Post) → Prop} {E : Value} {f : FuncId} {args : Array Value} (hg : o.guard = none)
    (h : ∀ (a : Act) (W : World), K w0 W → (∀ t ∈ looks ops o, know a0 acc t (a.tmps.getD t undef) W) → (execOp a.eval o).run P W = .ok (.enter f args) W)
    (hc : ∀ W, K w0 W → Calls P f args W fun e W' => e = .returned E ∧ Keep W W')
    (hr : RG P ops Q K a0 w0 r ((o.dst, fun v _ => v = E) :: acc) fin) : RG P ops Q K a0 w0 (o :: r) acc fin := by
  refine ⟨fun v _ => v = E, fun _ _ _ _ h => h, fun a W hk hf => ?_, hr⟩
  have hw : Region.wanted o (yielded ops a.tmps) = true := by simp [Region.wanted, hg]
  rw [if_pos hw]
  unfold Oper.wp
  rw [h a W hk hf]
  refine (hc W hk).mono ?_
  rintro e W' ⟨rfl, hk'⟩
  exact ⟨E, rfl, Grow.of_keep hk', rfl⟩

/-- guarded operations: what is known of them is known where the guard lets them run -/
theorem yields_of {ops : Array Oper} {o : Oper} {acc : List (Option Tmp × Post)} {gi : Nat} {want B : Bool} {d : Tmp} {a : Act} {W : World} (hg : o.guard = some (gi, want)) (hd : (ops[gi]?).bind (·.dst) = some d)
    (hB : ∀ v W, know a0 acc d v W → v = .bool B) (hf : ∀ t ∈ looks ops o, know a0 acc t (a.tmps.getD t undef) W) : yielded ops a.tmps gi = some B := by
  have hm : d ∈ looks ops o := by
    unfold looks Oper.looksAt
    refine List.mem_append_right _ ?_
    rw [hg]
    simp [hd]
  have h := hB _ _ (hf d hm)
  unfold yielded
  rw [hd]
  have e : a.tmps[d]? = some (.bool B) := by
    rw [Array.getD_eq_getD_getElem?] at h
    cases hx : a.tmps[d]? with
    | none => rw [hx] at h; cases h
    | some x => rw [hx] at h; simp only [Option.getD_some] at h; rw [h]
  simp [e]
theorem rg_gop [Grow K] {ops : Array Oper} {o : Oper} {r : List Oper} {acc : List (Option Tmp × Post)} {fin : List (Option Tmp × Post) → Prop} {gi : Nat} {want B : Bool} {d : Tmp} (p : Post) (hst : StableK K p) (hg : o.guard = some (gi, want)) (hd : (ops[gi]?).bind (·.dst) = some d)
    (hB : ∀ v W, know a0 acc d v W → v = .bool B)
    (h : B = want → ∀ (a : Act) (W : World), K w0 W → (∀ t ∈ looks ops o, know a0 acc t (a.tmps.getD t undef) W) → ∃ v W', (execOp a.eval o).run P W = .ok (.value v) W' ∧ p v W' ∧ K W W')
    (hr : RG P ops Q K a0 w0 r ((o.dst, fun v W => B = want → p v W) :: acc) fin) : RG P ops Q K a0 w0 (o :: r) acc fin := by
  refine ⟨fun v W => B = want → p v W, fun v W W' hk hp e => hst v W W' hk (hp e), fun a W hk hf => ?_, hr⟩
  have hy := yields_of hg hd hB hf
  by_cases e : B = want
  · have hw : Region.wanted o (yielded ops a.tmps) = true := by simp [Region.wanted, hg, hy, e]
    rw [if_pos hw]
    unfold Oper.wp
    obtain ⟨v, W', h1, h2, h3⟩ := h e a W hk hf
    rw [h1]
    exact ⟨v, rfl, h3, fun _ => h2⟩
  · have hw : ¬ Region.wanted o (yielded ops a.tmps) = true := by simp [Region.wanted, hg, hy, e]
    rw [if_neg hw]
    exact fun e' => absurd e' e
theorem rg_gdet [Grow K] {ops : Array Oper} {o : Oper} {r : List Oper} {acc : List (Option Tmp × Post)} {fin : List (Option Tmp × Post) → Prop} {gi : Nat} {want B : Bool} {E : Value} {d : Tmp} (hg : o.guard = some (gi, want)) (hd : (ops[gi]?).bind (·.dst) = some d)
    (hB : ∀ v W, know a0 acc d v W → v = .bool B)
    (h : B = want → ∀ (a : Act) (W : World), K w0 W → (∀ t ∈ looks ops o, know a0 acc t (a.tmps.getD t undef) W) → (execOp a.eval o).run P W = .ok (.value E) W)
    (hr : RG P ops Q K a0 w0 r ((o.dst, fun v _ => B = want → v = E) :: acc) fin) : RG P ops Q K a0 w0 (o :: r) acc fin :=
  rg_gop (fun v _ => v = E) (fun _ _ _ _ h => h) hg hd hB (fun e a W hk hf => ⟨E, W, h e a W hk hf, rfl, Grow.refl _⟩) hr
theorem rg_gcall [Grow K] {ops : Array Oper} {o : Oper} {r : List Oper} {acc : List (Option Tmp × Post)} {fin : List (Option Tmp × Post) → Prop} {gi : Nat} {want B : Bool} {d : Tmp} (p : Post) (hst : StableK K p) (hg : o.guard = some (gi, want)) (hd : (ops[gi]?).bind (·.dst) = some d)
    (hB : ∀ v W, know a0 acc d v W → v = .bool B)
    (h : B = want → ∀ (a : Act) (W : World), K w0 W → (∀ t ∈ looks ops o, know a0 acc t (a.tmps.getD t undef) W) → ∃ f args, (execOp a.eval o).run P W = .ok (.enter f args) W ∧
      Calls P f args W fun e W' => ∃ v, e = .returned v ∧ p v W' ∧ K W W')
    (hr : RG P ops Q K a0 w0 r ((o.dst, fun v W => B = want → p v W) :: acc) fin) : RG P ops Q K a0 w0 (o :: r) acc fin := by
  refine ⟨fun v W => B = want → p v W, fun v W W' hk hp e => hst v W W' hk (hp e), fun a W hk hf => ?_, hr⟩
  have hy := yields_of hg hd hB hf
  by_cases e : B = want
  · have hw : Region.wanted o (yielded ops a.tmps) = true := by simp [Region.wanted, hg, hy, e]
    rw [if_pos hw]
    unfold Oper.wp
    obtain ⟨f, args, h1, h2⟩ := h e a W hk hf
    rw [h1]
    refine h2.mono ?_
    rintro e' W' ⟨v, rfl, hv, hk'⟩
    exact ⟨v, rfl, hk', fun _ => hv⟩
  · have hw : ¬ Region.wanted o (yielded ops a.tmps) = true := by simp [Region.wanted, hg, hy, e]
    rw [if_neg hw]
    exact fun e' => absurd e' e
/-- what '||' leaves -/
theorem rg_or [Grow K] {ops : Array Oper} {r : List Oper} {acc : List (Option Tmp × Post)} {fin : List (Option Tmp × Post) → Prop} {B X : Bool} {dst : Option Tmp} {tyo : TypeId} {pos : String} {after : Array Edge} {c y : Tmp}
    (h1 : ∀ v W, know a0 acc c v W → v = .bool B) (h2 : ∀ v W, know a0 acc y v W → B = false → v = .bool X)
    (hr : RG P ops Q K a0 w0 r ((dst, fun v _ => v = .bool (B || X)) :: acc) fin) : RG P ops Q K a0 w0 (⟨dst, .pick (.tmp c) (.const (.bool true)) (.tmp y), tyo, pos, after, none⟩ :: r) acc fin := by
  refine rg_det rfl (fun a W hk hf => ?_) hr
  have e1 := h1 _ _ (hf c (by simp [looks, Oper.looksAt, Op.operands]))
  have e2 := h2 _ _ (hf y (by simp [looks, Oper.looksAt, Op.operands]))
  have e3 : a.eval (.tmp c) = .bool B := e1
  have e4 : B = false → a.eval (.tmp y) = .bool X := e2
  simp only [execOp, e3]
  cases B with
  | true => simp [asBool, Act.eval]
  | false => simp [asBool, Act.eval] at e4 ⊢; exact e4
/-- what '&&' leaves -/
theorem rg_and [Grow K] {ops : Array Oper} {r : List Oper} {acc : List (Option Tmp × Post)} {fin : List (Option Tmp × Post) → Prop} {B X : Bool} {dst : Option Tmp} {tyo : TypeId} {pos : String} {after : Array Edge} {c y : Tmp}
    (h1 : ∀ v W, know a0 acc c v W → v = .bool B) (h2 : ∀ v W, know a0 acc y v W → B = true → v = .bool X)
    (hr : RG P ops Q K a0 w0 r ((dst, fun v _ => v = .bool (B && X)) :: acc) fin) : RG P ops Q K a0 w0 (⟨dst, .pick (.tmp c) (.tmp y) (.const (.bool false)), tyo, pos, after, none⟩ :: r) acc fin := by
  refine rg_det rfl (fun a W hk hf => ?_) hr
  have e1 := h1 _ _ (hf c (by simp [looks, Oper.looksAt, Op.operands]))
  have e2 := h2 _ _ (hf y (by simp [looks, Oper.looksAt, Op.operands]))
  have e3 : a.eval (.tmp c) = .bool B := e1
  have e4 : B = true → a.eval (.tmp y) = .bool X := e2
  simp only [execOp, e3]
  cases B with
  | false => simp [asBool, Act.eval]
  | true => simp [asBool, Act.eval] at e4 ⊢; exact e4

theorem rg_nil {ops : Array Oper} {acc : List (Option Tmp × Post)} {fin : List (Option Tmp × Post) → Prop} (h : fin acc) : RG P ops Q K a0 w0 [] acc fin := h
theorem fin_det {Kk : Act → World → Prop} {d : Option Tmp} {E : Value} {r : List (Option Tmp × Post)} {a : Act} {W : World} (h : Fin' Kk r (a.put d E) W) : Fin' Kk ((d, fun v _ => v = E) :: r) a W := fun v hv => by subst hv; exact h
theorem fin_dyn {Kk : Act → World → Prop} {d : Option Tmp} {p : Post} {r : List (Option Tmp × Post)} {a : Act} {W : World} (h : ∀ v, p v W → Fin' Kk r (a.put d v) W) : Fin' Kk ((d, p) :: r) a W := h
theorem fin_nil {Kk : Act → World → Prop} {a : Act} {W : World} (h : Kk a W) : Fin' Kk [] a W := h
end
end Go.Proofs.YtnpenchciinmmaaGreat

/-
  A map from strings to ints that the call has made: 'MapH w b M'; its look-up and its store as run equations.
-/
namespace Go.Proofs.YtnpenchciinmmaaGreat
open Go.RowKit

theorem zero_int (w : World) : (zeroValue 3).run Tryz.prog w = .ok (.int .i64 0) w := by kernel_rfl

def upd (M : ByteArray → Option Int) (s : ByteArray) (v : Int) : ByteArray → Option Int := fun x => if x = s then some v else M x

/-- block b is a map that holds M, behind n stores -/
def MapN (w : World) (b n : Nat) (M : ByteArray → Option Int) : Prop :=
  ∃ D : DataW Unit, w.ownsMap Tryz.prog 9 (plainElem Tryz.prog 3) b n D ∧ Maps.IsMap D ∧
    ∀ s : ByteArray, s.size ≤ maxLen → D.atKey (.string s.data.toList) (.lit (.int .i64 0)) = .lit (.int .i64 ((M s).getD 0)) ∧ Maps.has D (.string s.data.toList) = (M s).isSome
theorem MapN.made (w : World) : MapN (w.alloc (.map #[] 0)) w.heap.size 0 (fun _ => none) :=
  ⟨.map [], World.ownsMap_made w _ _ _, Maps.isMap_empty, fun _ _ => ⟨rfl, rfl⟩⟩
theorem MapN.look {w : World} {b n : Nat} {M : ByteArray → Option Int} (h : MapN w b n M) {s : ByteArray} (hs : s.size ≤ maxLen) :
    (Instr.lookup 152 (.map (some b)) (.string s) true).run Tryz.prog w = .ok (.tuple #[.int .i64 ((M s).getD 0), .bool (M s).isSome]) w := by
  obtain ⟨D, ho, _, hM⟩ := h
  obtain ⟨h1, h2⟩ := hM s hs
  obtain ⟨v, ps, hrun, hv⟩ := ho.look_ok (t := 152) (Maps.string_keyed Tryz.underlying9) Tryz.underlying152 (zero_int w) (plainElem_int Tryz.underlying3 (by decide)) (WideMaps.keyOf_string_mk Tryz.underlying9 hs)
  obtain ⟨c, rfl, hc, _⟩ := plainElem_int_inv Tryz.underlying3 hv
  rw [hrun, h2]
  have e := (congrArg Prod.fst hc).symm.trans h1
  simp only [DataW.lit.injEq, Lit.int.injEq, true_and] at e
  rw [e]
theorem MapN.store {w : World} {b n : Nat} {M : ByteArray → Option Int} (h : MapN w b n M) (hn : n < maxLen) {s : ByteArray} (hs : s.size ≤ maxLen) {v : Int} (hv : (Lit.int .i64 v).wf = true) :
    ∃ w', (Instr.mapUpdate 152 (.map (some b)) (.string s) (.int .i64 v)).run Tryz.prog w = .ok () w' ∧ w.grownBy w' (some b) ∧ MapN w' b (n + 1) (upd M s v) := by
  obtain ⟨D, ho, hm, hM⟩ := h
  obtain ⟨w', hrun, ho', hg⟩ := ho.update (t := 152) (Maps.string_keyed Tryz.underlying9) Tryz.underlying152 hn (WideMaps.keyOf_string_mk Tryz.underlying9 hs) (plainElem_int Tryz.underlying3 hv)
  refine ⟨w', hrun, hg, _, ho', hm.put _ _, fun x hx => ?_⟩
  by_cases e : x = s
  · subst e
    have hk : WideAt.IsKeyLit (Lit.string x.data.toList) := trivial
    rw [Maps.atKey_put_same hm hk, Maps.has_put_same hm hk]
    simp [upd]
  · have hne : Lit.string x.data.toList ≠ Lit.string s.data.toList := fun h => e (by cases x; cases s; simpa using h)
    rw [Maps.atKey_put_other hne, Maps.has_put_other hne]
    simp only [upd, if_neg e]
    exact hM x hx
theorem MapN.keep {w w' : World} {b n : Nat} {M : ByteArray → Option Int} (h : MapN w b n M) (hk : Keep w w') : MapN w' b n M := by
  obtain ⟨D, ho, hm, hM⟩ := h
  have hlt := ho.lt
  obtain ⟨es, clock, hb, F, hs, hD⟩ := ho
  exact ⟨D, ⟨es, clock, (hk.heap hlt).trans hb, F, hs, hD⟩, hm, hM⟩
theorem MapN.lt {w : World} {b n : Nat} {M : ByteArray → Option Int} (h : MapN w b n M) : b < w.heap.size := by
  obtain ⟨D, ho, _⟩ := h
  exact ho.lt
theorem MapN.congr {w : World} {b n : Nat} {M M' : ByteArray → Option Int} (h : MapN w b n M) (e : ∀ s, M s = M' s) : MapN w b n M' := by
  have : M = M' := funext e
  exact this ▸ h
end Go.Proofs.YtnpenchciinmmaaGreat

/-
  What the functions of package length return.
-/
namespace Go.Proofs.YtnpenchciinmmaaGreat
open Go.RowKit
set_option linter.unusedSimpArgs false
set_option linter.unusedVariables false

theorem lenValid_c (n : Int) (w : World) :
    Calls Tryz.prog 117 #[.int .i64 n] w fun r w' => r = .returned (.bool (lenValid n)) ∧ w = w' := by
  go_enter Tryz.func117, Tryz.ntmps117
  go_wp2
  all_goals go_ret
  all_goals refine ⟨?_, rfl⟩
  all_goals (simp [lenValid, *]; try omega)

theorem wrap_id {n : Int} (h : -9223372036854775808 ≤ n) (h' : n ≤ 9223372036854775807) : IntKind.i64.wrap n = n := IntWalk.i64_in n ⟨h, h'⟩

set_option maxHeartbeats 800000 in
theorem quotient_c (a b : Int) (w : World) (hb : 0 < b) (hb2 : b ≤ 1000000) (ha : -1000000000000000 ≤ a) (ha2 : a ≤ 1000000000000000) :
    Calls Tryz.prog 118 #[.int .i64 a, .int .i64 b] w fun r w' => r = .returned (.int .i64 (quot a b)) ∧ Keep w w' := by
  have hb0 : ¬ b = 0 := by omega
  have m1 := Int.tmod_lt_of_pos a hb
  have m2 := Int.lt_tmod_of_pos a hb
  have m3 := Int.mul_tdiv_add_tmod a b
  have d1 : -1000000000000000 ≤ a.tdiv b ∧ a.tdiv b ≤ 1000000000000000 := by
    have h1 := Int.natAbs_tdiv_le_natAbs a b
    omega
  have e1 := wrap_id (n := a.tdiv b) (by omega) (by omega)
  have e2 := wrap_id (n := a.tmod b) (by omega) (by omega)
  obtain ⟨d1, d2⟩ := d1
  have HF : Hid (quot a b = if 0 ≤ a.tmod b ∧ b - a.tmod b ≤ a.tmod b then a.tdiv b + 1 else if a.tmod b < 0 ∧ b + a.tmod b ≤ -a.tmod b then a.tdiv b - 1 else a.tdiv b) := rfl
  clear m3
  go_enter Tryz.func118, Tryz.ntmps118
  go_wp2
  refine wp_region_rg 8 mixed (by kernel_rfl) rfl ?_
  intro w1 hk1
  simp only [List.take_succ_cons, List.take_zero, List.take_nil]
  repeat (with_reducible apply rg_det rfl; · (intro a W hk hf; (try simp [looks, Oper.looksAt, Op.operands, Call.operands, know] at hf); go_simp; rfl))
  with_reducible apply rg_nil
  intro W hkW
  simp only [List.reverse_cons, List.reverse_nil, List.nil_append, List.cons_append, List.drop_succ_cons, List.drop_zero, List.drop_nil]
  repeat (with_reducible apply fin_det)
  with_reducible apply fin_nil
  simp only [Act.put, List.setIfInBounds_toArray, List.set_cons_succ, List.set_cons_zero]
  clear e1 e2
  go_wp2
  all_goals go_ret
  all_goals refine ⟨?_, (by repeat (with_reducible first | exact Keep.refl _ | assumption | apply Keep.alloc | apply Keep.drew | apply Keep.drewN | (refine Keep.setRow ?_ (by omega) _) | refine Keep.trans ?_ (by assumption)))⟩
  all_goals rw [HF.out]
  all_goals go_light
  · rw [if_pos ⟨by assumption, by assumption⟩]; rfl
  · rw [if_neg (by omega), if_neg (by omega)]; rfl
  · rw [if_neg (by omega), if_pos (by omega)]; rfl
  · rw [if_neg (by omega), if_neg (by omega)]; rfl

theorem half_c (n : Int) (w : World) :
    Calls Tryz.prog 139 #[.int .i64 n] w fun r w' => r = .returned (.int .i64 (half n)) ∧ Keep w w' := by
  cases h1 : lenValid n
  · have HS : Hid (half n = 0) := by unfold Hid half; rw [h1]; rfl
    go_enter Tryz.func139, Tryz.ntmps139
    go_wp2_with fail
    refine (lenValid_c _ _).mono ?_
    rintro e w' ⟨rfl, rfl⟩
    go_wp2_with fail
    go_ret
    exact ⟨by rw [HS.out]; rfl, Keep.refl _⟩
  · have HS : Hid (half n = rnd n 2) := by unfold Hid half; rw [h1]; rfl
    have hb : -1073741824 ≤ n ∧ n ≤ 1073741824 := by simpa [lenValid] using h1
    obtain ⟨hb1, hb2⟩ := hb
    go_enter Tryz.func139, Tryz.ntmps139
    go_wp2_with fail
    refine (lenValid_c _ _).mono ?_
    rintro e w' ⟨rfl, rfl⟩
    go_wp2_with fail
    refine (quotient_c _ _ _ (by omega) (by omega) (by omega) (by omega)).mono ?_
    rintro e w' ⟨rfl, hk⟩
    go_wp2_with fail
    go_ret
    exact ⟨by rw [HS.out, ← quot_2]; rfl, hk⟩
end Go.Proofs.YtnpenchciinmmaaGreat
