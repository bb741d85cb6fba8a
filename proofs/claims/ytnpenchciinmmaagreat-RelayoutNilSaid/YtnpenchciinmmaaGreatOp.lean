/-
  A row's input as data of the abstract machine: what is read along the types ('DataW.trod') is data in memory.
-/
import Derived.Test.YtnpenchciinmmaaGreatG4
import Derived.WalkKit
import Derived.ProofKit
import Derived.OpenShut
import Derived.Carry
namespace Go.Proofs.YtnpenchciinmmaaGreat
open Go.RowKit
set_option linter.unusedSimpArgs false
set_option linter.unusedVariables false

def allS (w : World) : Area := fun b _ => b < w.heap.size
section
variable {H α β : Type} {enc : TypeId × Value → H} {P : Program} {w : World} {fuel : Nat} {t e : TypeId}
def OpAt (enc : TypeId × Value → H) (P : Program) (w : World) (fuel : Nat) (t : TypeId) (R : α → List C) (Q : α → Prop) : Prop :=
  ∀ (sp : Nat → Bool) (base : Nat) (held : Bool) (cs : List Value) (x : DataW H × List MemPlace), DataW.trod enc P w base sp held fuel t cs = some x → ∃ a, RdL (allS w) w (R a) cs ∧ Q a
theorem OpAt.zero {R : α → List C} {Q : α → Prop} : OpAt enc P w 0 t R Q := by intro sp base held cs x h; simp [DataW.trod] at h
theorem OpAt.conv {R : α → List C} {Q : α → Prop} {R' : β → List C} {Q' : β → Prop} (h : OpAt enc P w fuel t R Q) (f : α → β) (hR : ∀ a, R a = R' (f a)) (hQ : ∀ a, Q a → Q' (f a)) : OpAt enc P w fuel t R' Q' := by
  intro sp base held cs x hx
  obtain ⟨a, h1, h2⟩ := h sp base held cs x hx
  exact ⟨f a, by rw [← hR]; exact h1, hQ a h2⟩
theorem op_int {k : IntKind} (hu : P.underlying t = some (.int k)) : OpAt enc P w fuel t (fun n : Int => [.int k n]) (fun _ => True) := by
  cases fuel with
  | zero => exact OpAt.zero
  | succ fuel =>
    intro sp base held cs x h
    unfold DataW.trod at h
    rw [hu] at h
    split at h <;> try (exfalso; simp_all; done)
    rename_i k1 k2 n he
    cases he
    split at h
    · rename_i hc
      obtain ⟨rfl, hw⟩ := hc
      simp only [RdL, RdC]
      exact ⟨n, ⟨_, _, rfl, ⟨rfl, hw⟩, rfl⟩, trivial⟩
    · cases h
theorem op_bool (hu : P.underlying t = some .bool) : OpAt enc P w fuel t (fun b : Bool => [.bool b]) (fun _ => True) := by
  cases fuel with
  | zero => exact OpAt.zero
  | succ fuel =>
    intro sp base held cs x h
    unfold DataW.trod at h
    rw [hu] at h
    split at h <;> try (exfalso; simp_all; done)
    rename_i b he
    simp only [RdL, RdC]
    exact ⟨b, ⟨_, _, rfl, rfl, rfl⟩, trivial⟩
theorem op_str (hu : P.underlying t = some .string) : OpAt enc P w fuel t (fun s : ByteArray => [.str s]) (fun s => s.size ≤ maxLen) := by
  cases fuel with
  | zero => exact OpAt.zero
  | succ fuel =>
    intro sp base held cs x h
    unfold DataW.trod at h
    rw [hu] at h
    split at h <;> try (exfalso; simp_all; done)
    rename_i s he
    split at h
    · rename_i hs
      simp only [RdL, RdC]
      exact ⟨s, ⟨_, _, rfl, ⟨rfl, hs⟩, rfl⟩, hs⟩
    · cases h

theorem RdRs.of_at {S : Area} {es : Nat} : ∀ {rows : List (List C)} {b off : Nat}, (∀ r ∈ rows, r.length = es) → (∀ (i : Nat) (r : List C), rows[i]? = some r → RdR S w r b (off + i * es)) → RdRs S w rows b off
  | [], _, _, _, _ => by simp only [RdRs]
  | r :: rs, b, off, hl, h => by
    simp only [RdRs]
    refine ⟨by simpa using h 0 r rfl, RdRs.of_at (fun r hr => hl r (by simp [hr])) fun i r' hi => ?_⟩
    have := h (i + 1) r' (by simpa using hi)
    rw [hl r (by simp)]
    rw [show off + es + i * es = off + (i + 1) * es by rw [Nat.add_mul]; omega]
    exact this
theorem mapM_get {γ δ : Type} {f : γ → Option δ} : ∀ {l : List γ} {xs : List δ}, l.mapM f = some xs → ∀ y ∈ l, ∃ x, f y = some x
  | [], _, _, y, hy => by cases hy
  | a :: l, xs, h, y, hy => by
    rw [List.mapM_cons] at h
    cases ha : f a with
    | none => rw [ha] at h; simp at h
    | some z =>
      rw [ha] at h
      cases hl : l.mapM f with
      | none => rw [hl] at h; simp at h
      | some zs =>
        rcases List.mem_cons.1 hy with rfl | hy
        · exact ⟨z, ha⟩
        · exact mapM_get hl y hy
theorem mapM_idx {γ δ : Type} {f : γ → Option δ} : ∀ {l : List γ} {xs : List δ}, l.mapM f = some xs → xs.length = l.length ∧ ∀ (i : Nat) (y : γ), l[i]? = some y → f y = xs[i]?
  | [], xs, h => by simp at h; subst h; exact ⟨rfl, fun i y h => by simp at h⟩
  | a :: l, xs, h => by
    rw [List.mapM_cons] at h
    cases ha : f a with
    | none => rw [ha] at h; simp at h
    | some z =>
      rw [ha] at h
      cases hl : l.mapM f with
      | none => rw [hl] at h; simp at h
      | some zs =>
        rw [hl] at h
        simp at h
        subst h
        obtain ⟨h1, h2⟩ := mapM_idx hl
        refine ⟨by simp [h1], fun i y hi => ?_⟩
        match i, hi with
        | 0, hi => simp at hi; subst hi; simpa using ha
        | i + 1, hi => simpa using h2 i y (by simpa using hi)
theorem cells_get {base n : Nat} {a : Addr} {cs : List Value} (h : w.cells? base a n = some cs) : cs.length = n ∧ ∀ j v, cs[j]? = some v → w.cell? (a.add j) = some v := by
  unfold World.cells? at h
  split at h
  · obtain ⟨h1, h2⟩ := mapM_idx h
    refine ⟨by simpa using h1, fun j v hj => ?_⟩
    have hlt : j < n := by have := (List.getElem?_eq_some_iff.1 hj).1; rw [h1] at this; simpa using this
    have := h2 j j (by simp [hlt])
    rw [this, hj]
  · cases h
theorem op_sl {n : Nat} {R : α → List C} {Q : α → Prop} (hu : P.underlying t = some (.slice e)) (hc : P.cellsOf e = n) (hn : 0 < n) (h : OpAt enc P w fuel e R Q) : OpAt enc P w (fuel + 1) t (fun l : List α => [.sl (l.map R)]) (fun l => l.length ≤ maxLen ∧ ∀ a ∈ l, Q a) := by
  intro sp base held cs x hx
  unfold DataW.trod at hx
  rw [hu] at hx
  split at hx <;> try (exfalso; simp_all; done)
  · refine ⟨[], ?_, by simp, by simp⟩
    simp only [RdL, RdC, List.map_nil]
    exact ⟨_, _, rfl, ⟨none, 0, rfl, by simp, by simp [maxLen], fun h => absurd rfl h⟩, rfl⟩
  · rename_i e' a len cap he
    cases he
    split at hx
    · rename_i hcond
      obtain ⟨hb, hlc, hcm⟩ := hcond
      cases hm : (List.range len).mapM (fun i => (w.cells? base (a.add (i * P.cellsOf e)) (P.cellsOf e)).bind (DataW.trod enc P w base sp held fuel e)) with
      | none => simp only [hm] at hx; cases hx
      | some elems =>
        have hel : ∀ i, i < len → ∃ ai, ∃ ci, w.cells? base (a.add (i * n)) n = some ci ∧ RdL (allS w) w (R ai) ci ∧ Q ai := by
          intro i hi
          obtain ⟨y, hy⟩ := mapM_get hm i (by simpa using hi)
          rw [hc] at hy
          cases hcs : w.cells? base (a.add (i * n)) n with
          | none => rw [hcs] at hy; simp at hy
          | some ci =>
            rw [hcs] at hy
            simp only [Option.bind_some] at hy
            obtain ⟨ai, h1, h2⟩ := h sp base held ci y hy
            exact ⟨ai, ci, rfl, h1, h2⟩
        by_cases h0 : len = 0
        · subst h0
          refine ⟨[], ?_, by simp, by simp⟩
          simp only [RdL, RdC, List.map_nil]
          exact ⟨_, _, rfl, ⟨some a, cap, rfl, by simp, hcm, fun h => absurd rfl h⟩, rfl⟩
        · have hsp : a.spot = none := by
            obtain ⟨a0, c0, h1, h2, _⟩ := hel 0 (by omega)
            obtain ⟨l1, l2⟩ := cells_get h1
            have hlt : 0 < c0.length := by omega
            have := l2 0 c0[0] (List.getElem?_eq_getElem hlt)
            simp only [Nat.zero_mul, Addr.add, if_true] at this
            unfold World.cell? at this
            split at this
            · split at this
              · cases this
              · rename_i hs; simpa using hs
            · cases this
          obtain ⟨b, off, sp'⟩ := a
          simp only at hsp
          subst hsp
          have hch : ∃ g : Nat → α, ∀ i, i < len → ∃ ci, w.cells? base ((⟨b, off, none⟩ : Addr).add (i * n)) n = some ci ∧ RdL (allS w) w (R (g i)) ci ∧ Q (g i) := by
            have hin : Nonempty α := ⟨(hel 0 (by omega)).choose⟩
            refine ⟨fun i => if hi : i < len then (hel i hi).choose else Classical.choice hin, fun i hi => ?_⟩
            simp only [hi, dif_pos]
            exact (hel i hi).choose_spec
          obtain ⟨g, hg⟩ := hch
          have hrow : ∀ i, i < len → (R (g i)).length = n := by
            intro i hi
            obtain ⟨ci, h1, h2, _⟩ := hg i hi
            rw [← h2.len, (cells_get h1).1]
          refine ⟨(List.range len).map g, ?_, by simp; omega, ?_⟩
          · simp only [RdL, RdC]
            refine ⟨_, _, rfl, ⟨some ⟨b, off, none⟩, cap, by simp, by simpa using hlc, hcm, fun _ => ⟨b, off, n, rfl, ?_, ?_⟩⟩, rfl⟩
            · intro r hr
              simp only [List.map_map, List.mem_map, List.mem_range, Function.comp] at hr
              obtain ⟨i, hi, rfl⟩ := hr
              exact hrow i hi
            · refine RdRs.of_at (es := n) ?_ ?_
              · intro r hr
                simp only [List.map_map, List.mem_map, List.mem_range, Function.comp] at hr
                obtain ⟨i, hi, rfl⟩ := hr
                exact hrow i hi
              · intro i r hr
                simp only [List.map_map, List.getElem?_map, Option.map_eq_some_iff, Function.comp] at hr
                obtain ⟨j, hj, rfl⟩ := hr
                obtain ⟨hlt, rfl⟩ := List.getElem?_eq_some_iff.1 hj
                simp only [List.length_range] at hlt
                simp only [List.getElem_range]
                obtain ⟨ci, h1, h2, _⟩ := hg i hlt
                obtain ⟨l1, l2⟩ := cells_get h1
                refine RdR.of_vals h2 (fun j u hu => ?_) (fun j hj => ?_)
                · have := l2 j u hu
                  rw [add_mk, add_mk] at this
                  exact this
                · have hlt2 : j < ci.length := by rw [h2.len]; exact hj
                  have := l2 j ci[j] (List.getElem?_eq_getElem hlt2)
                  rw [add_mk, add_mk] at this
                  exact block_lt_of_cell this
          · intro y hy
            simp only [List.mem_map, List.mem_range] at hy
            obtain ⟨i, hi, rfl⟩ := hy
            obtain ⟨ci, _, _, h3⟩ := hg i hi
            exact h3
    · cases hx

/-- fields of a struct, from offset o on, to offset z -/
def OpF {φ : Type} (ty : φ → TypeId) (ofs : φ → Nat) (enc : TypeId × Value → H) (P : Program) (w : World) (fuel : Nat) (l : List φ) (o z : Nat) (R : β → List C) (Q : β → Prop) : Prop :=
  ∀ (sp : Nat → Bool) (base : Nat) (held : Bool) (cs : List Value) (xs : List (DataW H × List MemPlace)), l.mapM (fun f => DataW.trod enc P w base sp held fuel (ty f) ((cs.drop (ofs f)).take (P.cellsOf (ty f)))) = some xs → ∃ b, RdL (allS w) w (R b) ((cs.drop o).take (z - o)) ∧ Q b
theorem OpF.nil {φ : Type} {ty : φ → TypeId} {ofs : φ → Nat} {z : Nat} : OpF ty ofs enc P w fuel [] z z (fun _ : Unit => []) (fun _ => True) := by
  intro sp base held cs xs h
  exact ⟨(), by simp [RdL], trivial⟩
theorem OpF.cons {φ : Type} {ty : φ → TypeId} {ofs : φ → Nat} {f : φ} {l : List φ} {o o' z : Nat} {R1 : α → List C} {Q1 : α → Prop} {R2 : β → List C} {Q2 : β → Prop} (ho : ofs f = o) (hz : o + P.cellsOf (ty f) = o') (hle : o' ≤ z) (h1 : OpAt enc P w fuel (ty f) R1 Q1) (h2 : OpF ty ofs enc P w fuel l o' z R2 Q2) :
    OpF ty ofs enc P w fuel (f :: l) o z (fun q : α × β => R1 q.1 ++ R2 q.2) (fun q => Q1 q.1 ∧ Q2 q.2) := by
  intro sp base held cs xs h
  rw [List.mapM_cons] at h
  cases ha : DataW.trod enc P w base sp held fuel (ty f) ((cs.drop (ofs f)).take (P.cellsOf (ty f))) with
  | none => rw [ha] at h; simp at h
  | some y =>
    rw [ha] at h
    cases hl : l.mapM (fun f => DataW.trod enc P w base sp held fuel (ty f) ((cs.drop (ofs f)).take (P.cellsOf (ty f)))) with
    | none => simp only [hl] at h; simp at h
    | some ys =>
      obtain ⟨a, k1, k2⟩ := h1 sp base held _ y ha
      obtain ⟨b, k3, k4⟩ := h2 sp base held cs ys hl
      refine ⟨(a, b), ?_, k2, k4⟩
      have e : (cs.drop o).take (z - o) = (cs.drop (ofs f)).take (P.cellsOf (ty f)) ++ (cs.drop o').take (z - o') := by
        rw [ho, show z - o = P.cellsOf (ty f) + (z - o') by omega, List.take_add, List.drop_drop, hz]
      rw [e]
      exact k1.append k3
theorem op_struct {fs : Array Field} {z : Nat} {R : β → List C} {Q : β → Prop} (hu : P.underlying t = some (.struct fs)) (hc : P.cellsOf t = z) (h : OpF Field.type Field.offset enc P w fuel fs.toList 0 z R Q) : OpAt enc P w (fuel + 1) t R Q := by
  intro sp base held cs x hx
  unfold DataW.trod at hx
  rw [hu] at hx
  change (if cs.length = P.cellsOf t then (fs.toList.mapM fun f => DataW.trod enc P w base sp held fuel f.type ((cs.drop f.offset).take (P.cellsOf f.type))).map (fun xs => (DataW.agg (xs.map (·.1)), xs.flatMap (·.2))) else none) = some x at hx
  split at hx
  · rename_i hl
    cases hm : fs.toList.mapM (fun f => DataW.trod enc P w base sp held fuel f.type ((cs.drop f.offset).take (P.cellsOf f.type))) with
    | none => simp only [hm] at hx; cases hx
    | some xs =>
      obtain ⟨b, k1, k2⟩ := h sp base held cs xs hm
      refine ⟨b, ?_, k2⟩
      simpa [← hc, ← hl] using k1
  · cases hx
/-- an array of ints -/
theorem op_ints {n : Nat} {k : IntKind} (hu : P.underlying t = some (.array n e)) (he : P.underlying e = some (.int k)) (hc : P.cellsOf t = n) (hc1 : P.cellsOf e = 1) : OpAt enc P w (fuel + 1) t (fun l : List Int => l.map (C.int k)) (fun l => l.length = n) := by
  intro sp base held cs x hx
  unfold DataW.trod at hx
  rw [hu] at hx
  change (if cs.length = P.cellsOf t then ((List.range n).mapM fun i => DataW.trod enc P w base sp held fuel e ((cs.drop (i * P.cellsOf e)).take (P.cellsOf e))).map (fun xs => (DataW.agg (xs.map (·.1)), xs.flatMap (·.2))) else none) = some x at hx
  split at hx
  · rename_i hl
    rw [hc] at hl
    cases hm : (List.range n).mapM (fun i => DataW.trod enc P w base sp held fuel e ((cs.drop (i * P.cellsOf e)).take (P.cellsOf e))) with
    | none => simp only [hm] at hx; cases hx
    | some xs =>
      have key : ∀ i, i < n → ∃ q : Int, RdL (allS w) w [.int k q] ((cs.drop i).take 1) := by
        intro i hi
        obtain ⟨y, hy⟩ := mapM_get hm i (by simpa using hi)
        rw [hc1, Nat.mul_one] at hy
        obtain ⟨q, h1, _⟩ := op_int (enc := enc) (w := w) (fuel := fuel) he sp base held _ y hy
        exact ⟨q, h1⟩
      have : ∀ (m : Nat) (cs : List Value), cs.length = m → (∀ i, i < m → ∃ q : Int, RdL (allS w) w [.int k q] ((cs.drop i).take 1)) → ∃ l : List Int, RdL (allS w) w (l.map (C.int k)) cs ∧ l.length = m := by
        intro m
        induction m with
        | zero => intro cs hcs _; have : cs = [] := List.eq_nil_of_length_eq_zero hcs; subst this; exact ⟨[], by simp [RdL], rfl⟩
        | succ m ih =>
          intro cs hcs hk
          obtain ⟨v, r, rfl⟩ : ∃ v r, cs = v :: r := by
            cases cs with
            | nil => simp at hcs
            | cons v r => exact ⟨v, r, rfl⟩
          obtain ⟨q, hq⟩ := hk 0 (by omega)
          obtain ⟨l, h1, h2⟩ := ih r (by simpa using hcs) fun i hi => by simpa using hk (i + 1) (by omega)
          refine ⟨q :: l, ?_, by simp [h2]⟩
          simp only [List.drop_zero, List.take_succ_cons, List.take_zero, RdL] at hq
          obtain ⟨v', r', e', h3, _⟩ := hq
          simp only [List.cons.injEq] at e'
          obtain ⟨rfl, rfl⟩ := e'
          simp only [List.map_cons, RdL]
          exact ⟨v, r, rfl, h3, h1⟩
      exact this n cs hl key
  · cases hx
end
end Go.Proofs.YtnpenchciinmmaaGreat
