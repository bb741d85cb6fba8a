/-
  Laws of the walk for aggregates that are kept whole: a struct value is '.agg cs' with cs a variable; loads, stores and boxes of it are one step each.
-/
import Derived.WalkKit
import Derived.Laws.Rows
import Derived.Laws.ResultCell
namespace Go.Proofs.Ytjojmejmbdjdcaa
open Go.RowKit

/-- the cells cs lie from offset off of block b on -/
def RowAt (w : World) (b off : Nat) (cs : Array Value) : Prop := ∀ j, j < cs.size → w.cell? ⟨b, off + j, none⟩ = cs[j]?

def aggDesc : TypeDesc → Bool
  | .struct _ | .array _ _ => true
  | _ => false

/-- ty is a struct or an array of n cells -/
def AggTy (P : Program) (ty : TypeId) (n : Nat) : Prop :=
  ∃ d, P.underlying ty = some d ∧ aggDesc d = true ∧ (P.info? ty).map (·.size) = some n

theorem AggTy.mk' {P : Program} {ty : TypeId} {n : Nat} {d : TypeDesc} (h : P.underlying ty = some d) (h1 : aggDesc d = true) (h2 : (P.info? ty).map (·.size) = some n) : AggTy P ty n := ⟨d, h, h1, h2⟩

/-- each value is one cell -/
def Ones (cs : Array Value) : Prop := ∀ v ∈ cs.toList, v.oneCell' = true

theorem add_mk (b off n : Nat) : (⟨b, off, none⟩ : Addr).add n = ⟨b, off + n, none⟩ := by
  unfold Addr.add
  split
  · rename_i h; subst h; rfl
  · rfl

/-- a block that is known whole -/
def Blk (w : World) (g : Nat) (t : TypeId) (cs : Array Value) : Prop := w.heap[g]? = some (.cells cs t (0, 0))

theorem Blk.lt {w : World} {g : Nat} {t : TypeId} {cs : Array Value} (h : Blk w g t cs) : g < w.heap.size := (Array.getElem?_eq_some_iff.1 h).1
theorem Blk.cell {w : World} {g : Nat} {t : TypeId} {cs : Array Value} (h : Blk w g t cs) (i : Nat) : w.cell? ⟨g, i, none⟩ = cs[i]? := cell_of_row w g i cs t (0, 0) h
theorem Blk.frozen {w : World} {g : Nat} {t : TypeId} {cs : Array Value} (h : Blk w g t cs) (i : Nat) : w.frozen? ⟨g, i, none⟩ = false := frozen_of_row w g i cs t h
theorem Blk.new (w : World) (t : TypeId) (cs : Array Value) : Blk (w.alloc (.cells cs t)) w.heap.size t cs := heap_alloc_new w _
theorem Blk.alloc {w : World} {g : Nat} {t : TypeId} {cs : Array Value} (h : Blk w g t cs) (o : Obj) : Blk (w.alloc o) g t cs := (Below.heap_alloc w o g h.lt).trans h
theorem Blk.below {w w' : World} {g B : Nat} {t : TypeId} {cs : Array Value} (h : Blk w g t cs) (hb : Below B w w') (hg : g < B) : Blk w' g t cs := (hb.block g hg).trans h
theorem Blk.row {w : World} {g : Nat} {t : TypeId} {cs : Array Value} (h : Blk w g t cs) : RowAt w g 0 cs := fun j _ => by rw [Nat.zero_add]; exact h.cell j
theorem Blk.set_ {w : World} {g : Nat} {t : TypeId} {old : Array Value} (h : Blk w g t old) (cs : Array Value) : Blk (w.setRow g cs) g t cs := setRow_heap w g old cs t (0, 0) h
theorem Blk.far {w : World} {g k : Nat} {t : TypeId} {old : Array Value} (h : Blk w k t old) (cs : Array Value) (hk : k ≠ g) : Blk (w.setRow g cs) k t old := (setRow_other w g k cs hk).trans h

theorem setRow_alloc_at (w : World) (old cs : Array Value) (t : TypeId) (fr : Nat × Nat) (g : Nat) (h : g = w.heap.size) : (w.alloc (.cells old t fr)).setRow g cs = w.alloc (.cells cs t fr) := by
  subst h
  show ({ w with heap := (w.heap.push _).modify _ _ } : World) = { w with heap := w.heap.push _ }
  congr 1
  apply Array.ext
  · simp
  · intro i h1 h2
    simp only [Array.size_modify, Array.size_push] at h1
    rw [Array.getElem_modify]
    by_cases hi : w.heap.size = i
    · subst hi; simp
    · have : i < w.heap.size := by omega
      simp [hi, Array.getElem_push, this]
theorem setRow_alloc_past (w : World) (o : Obj) (cs : Array Value) (g : Nat) (h : g < w.heap.size) : (w.alloc o).setRow g cs = (w.setRow g cs).alloc o := by
  show ({ w with heap := (w.heap.push _).modify _ _ } : World) = { w with heap := (w.heap.modify _ _).push _ }
  congr 1
  apply Array.ext
  · simp
  · intro i h1 h2
    simp only [Array.size_modify, Array.size_push] at h1
    rw [Array.getElem_modify]
    by_cases hi : g = i
    · subst hi; simp [Array.getElem_push, h, Array.getElem_modify]
    · by_cases hl : i < w.heap.size
      · simp [hi, Array.getElem_push, hl, Array.getElem_modify]
      · simp [hi, Array.getElem_push, hl]

section
variable {P : Program} {ops : Array Oper} {rest : List Oper} {a : Act} {w : World} {Q : Exit → Act → World → Prop} {dst : Option Tmp} {tyo : TypeId} {pos : String} {after : Array Edge}

theorem run_loadVar_at {ty : TypeId} {b off : Nat} {cs : Array Value} (hr : RowAt w b off cs) (ht : AggTy P ty cs.size) : (loadVar ty ⟨b, off, none⟩).run P w = .ok (.agg cs) w := by
  obtain ⟨d, hu, hd, hi⟩ := ht
  have hl : (loadCells ⟨b, off, none⟩ cs.toList.length).run P w = .ok cs.toList.toArray w :=
    run_loadCells_list (P := P) w ⟨b, off, none⟩ cs.toList (fun j v hv => by
      rw [add_mk]
      have hj : j < cs.size := by
        have := (List.getElem?_eq_some_iff.1 hv).1
        simpa using this
      rw [hr j hj]
      simpa using hv)
  cases hq : P.info? ty with
  | none => simp [hq] at hi
  | some i =>
    have hs : i.size = cs.size := by simpa [hq] using hi
    have hagg : (isAgg ty).run P w = .ok true w := by
      unfold isAgg
      rw [Sem.run_bind, run_underlying hu w]
      cases d <;> simp_all [aggDesc]
    simp only [Array.length_toList, Array.toArray_toList] at hl
    simp [loadVar, Sem.run_bind, hagg, sizeOf, typeInfo, hq, hs, hl]

/-- a struct is loaded whole -/
theorem wl_load {ty : TypeId} {x : Operand} (b off : Nat) (cs : Array Value) (hx : a.eval x = .pointer (some ⟨b, off, none⟩)) (hr : RowAt w b off cs) (ht : AggTy P ty cs.size)
    (h : wpList P ops Q rest (a.put dst (.agg cs)) w) : wpList P ops Q (⟨dst, .load ty x, tyo, pos, after, none⟩ :: rest) a w :=
  wpList_plain rfl fun _ hK => by
    unfold Oper.wp execOp
    simp only [hx, Instr.loadAt, Instr.sureAddr, Sem.run_bind, Sem.run_pure, Result.andThen_ok, run_loadVar_at hr ht]
    exact hK _ _ h

theorem set_all (cs : List Value) : ∀ (i : Nat) (old : Array Value), old.size = i + cs.length → (cs.zipIdx i).foldl (fun c p => c.setIfInBounds p.2 p.1) old = (old.toList.take i ++ cs).toArray := by
  induction cs with
  | nil => intro i old h; simp at h; subst h; simp [List.take_of_length_le]
  | cons v r ih =>
    intro i old h
    simp only [List.zipIdx_cons, List.foldl_cons]
    rw [ih (i + 1) _ (by simp at h ⊢; omega)]
    congr 1
    have hi : i < old.toList.length := by simp at h ⊢; omega
    simp only [Array.toList_setIfInBounds]
    rw [List.take_succ_eq_append_getElem (by simpa using hi), List.take_set_of_le (Nat.le_refl _)]
    simp

theorem run_storeCells_blk {g : Nat} {t : TypeId} : ∀ (vs : List Value) (i : Nat) (w : World) (old : Array Value), Blk w g t old → i + vs.length ≤ old.size → (∀ v ∈ vs, v.oneCell' = true) →
    (storeCells ⟨g, 0, none⟩ vs i).run P w = .ok () (w.setRow g ((vs.zipIdx i).foldl (fun c p => c.setIfInBounds p.2 p.1) old)) := by
  intro vs
  induction vs with
  | nil => intro i w old hb _ _; simp [storeCells, setRow_self w g old t (0, 0) hb]
  | cons v r ih =>
    intro i w old hb hi hv
    have hlt : i < old.size := by simp at hi; omega
    have hc : w.cell? ⟨g, i, none⟩ = some (old[i]) := by rw [hb.cell]; simp [hlt]
    have hst : (store ⟨g, i, none⟩ v .plain).run P w = .ok () (w.setRow g (old.setIfInBounds i v)) := by
      rw [run_store P _ _ v .plain (hv v (by simp)), setCell_eq_setRow w g i old t (0, 0) v hb]
      simp [hc, hb.frozen]
    unfold storeCells
    rw [Sem.run_bind, add_mk, Nat.zero_add, hst]
    simp only [Result.andThen_ok]
    rw [ih (i + 1) _ (old.setIfInBounds i v) (hb.set_ _) (by simp at hi ⊢; omega) (fun u hu => hv u (by simp [hu])), setRow_setRow]
    simp [List.zipIdx_cons]

theorem run_storeVar_blk {ty : TypeId} {g : Nat} {t : TypeId} {old cs : Array Value} (hb : Blk w g t old) (hs : old.size = cs.size) (h1 : Ones cs) (ht : AggTy P ty cs.size) :
    (storeVar ty ⟨g, 0, none⟩ (.agg cs)).run P w = .ok () (w.setRow g cs) := by
  obtain ⟨d, hu, hd, hi⟩ := ht
  cases hq : P.info? ty with
  | none => simp [hq] at hi
  | some i =>
    have hz : i.size = cs.size := by simpa [hq] using hi
    have h := run_storeCells_blk (P := P) (g := g) (t := t) cs.toList 0 w old hb (by simp [hs]) h1
    rw [set_all cs.toList 0 old (by simp [hs])] at h
    simp only [List.take_zero, List.nil_append, Array.toArray_toList] at h
    simp [storeVar, Value.cells, Sem.run_bind, sizeOf, typeInfo, hq, hz, h]

/-- a struct is stored whole into a block of the call's own -/
theorem wl_store {ty : TypeId} {x y : Operand} (g : Nat) (t : TypeId) (old cs : Array Value) (hx : a.eval x = .pointer (some ⟨g, 0, none⟩)) (hy : a.eval y = .agg cs) (hb : Blk w g t old) (hs : old.size = cs.size) (h1 : Ones cs) (ht : AggTy P ty cs.size)
    (h : wpList P ops Q rest (a.put dst undef) (w.setRow g cs)) : wpList P ops Q (⟨dst, .store ty x y, tyo, pos, after, none⟩ :: rest) a w :=
  wpList_plain rfl fun _ hK => by
    unfold Oper.wp execOp
    simp only [hx, hy, Instr.storeAt, Instr.sureAddr, Sem.run_bind, Sem.run_pure, Result.andThen_ok, run_storeVar_blk hb hs h1 ht]
    exact hK _ _ h
end
end Go.Proofs.Ytjojmejmbdjdcaa
