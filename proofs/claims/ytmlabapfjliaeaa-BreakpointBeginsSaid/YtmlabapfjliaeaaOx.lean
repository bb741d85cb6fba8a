/-
  A dictionary, items, a byte as inputs of a law.
-/
import Derived.Test.YtmlabapfjliaeaaOr
import Derived.Test.YtmlabapfjliaeaaPh
import Derived.Test.YtmlabapfjliaeaaPi
namespace Go.Proofs.Ytmlabapfjliaeaa
open Go.RowKit
set_option linter.unusedSimpArgs false
set_option linter.unusedVariables false
set_option maxRecDepth 100000
section
variable {H : Type} {enc : TypeId × Value → H}
theorem opened_slice {P : Program} {α : Type} {t e : TypeId} {W : World} {base b0 : Nat} {sp : Nat → Bool} {held : Bool} {r : Reach} {v : Value} {d : DataW H} {ps : List MemPlace} {R : α → C} {Q : α → Prop} (hu : P.underlying t = some (.slice e)) (hval : Value.okWide P W r b0 t v) (hd : DataW.Trod enc P W base sp held t v d ps) (ho : ∀ fuel, OpAt enc P W fuel t (fun a => [R a]) Q) : ∃ a, Q a ∧ CV (Cx.bare (allS W)) W (.c (R a)) v := by
  unfold Value.okWide at hval
  rw [hu] at hval
  simp only at hval
  obtain ⟨fuel, hf⟩ := hd
  have hc : v.cells = #[v] := by
    unfold Cell.okWide Cell.ok at hval
    rw [hu] at hval
    cases v <;> first | rfl | (simp at hval; done) | (exfalso; simp_all; done)
  obtain ⟨a, h1, h2⟩ := ho fuel sp base held _ _ hf
  refine ⟨a, h2, ?_⟩
  rw [hc] at h1
  simp only [RdL] at h1
  obtain ⟨v', vr, e, h3, _⟩ := h1
  simp at e
  simp only [CV]
  rw [e.1]
  exact h3
theorem opened_byte {P : Program} {t : TypeId} {W : World} {base b0 : Nat} {sp : Nat → Bool} {held : Bool} {r : Reach} {v : Value} {d : DataW H} {ps : List MemPlace} (hu : P.underlying t = some (.int .u8)) (hval : Value.okWide P W r b0 t v) (hd : DataW.Trod enc P W base sp held t v d ps) : ∃ n : Int, (0 ≤ n ∧ n ≤ 255) ∧ CV (Cx.bare (allS W)) W (.c (.int .u8 n)) v := by
  unfold Value.okWide at hval
  rw [hu] at hval
  simp only at hval
  unfold Cell.okWide Cell.ok at hval
  rw [hu] at hval
  obtain ⟨k', n, rfl⟩ : ∃ k' n, v = .int k' n := by
    cases v <;> simp_all
  obtain ⟨fuel, hf⟩ := hd
  obtain ⟨a, h1, h2⟩ := op_int (enc := enc) (w := W) (fuel := fuel) hu sp base held _ _ hf
  simp only [RdL, RdC] at h1
  obtain ⟨v', vr, e, ⟨h3, h4⟩, _⟩ := h1
  simp [Value.cells] at e
  refine ⟨a, ?_, ?_⟩
  · have e1 : IntKind.u8.min = 0 := by decide +kernel
    have e2 : IntKind.u8.max = 255 := by decide +kernel
    simpa [Lit.wf, e1, e2] using h4
  · simp only [CV, RdC]
    exact ⟨e.1.trans h3, h4⟩
variable {w : World}
theorem op_entry {fuel : Nat} : OpAt enc Try.prog w fuel 36 En.row (fun e => e.text.size ≤ maxLen) := by
  cases fuel with
  | zero => exact OpAt.zero
  | succ fuel => exact (op_struct Try.underlying36 (by kernel_rfl) (OpF.cons (o := 0) (o' := 1) rfl (by kernel_rfl) (by decide) (op_str Try.underlying9) (OpF.cons (o := 1) (o' := 2) rfl (by kernel_rfl) (by decide) (op_int Try.underlying3) (OpF.cons (o := 2) (o' := 3) rfl (by kernel_rfl) (by decide) (op_bool Try.underlying4) (OpF.cons (o := 3) (o' := 4) rfl (by kernel_rfl) (by decide) (op_bool Try.underlying4) (OpF.nil)))))).conv (fun q => ⟨q.1, q.2.1, q.2.2.1, q.2.2.2.1⟩) (fun q => rfl) (fun q h => h.1)
theorem op_dict {fuel : Nat} : OpAt enc Try.prog w fuel 22 (fun l : List En => [ensC l]) (fun l => l.length ≤ maxLen ∧ ∀ a ∈ l, a.text.size ≤ maxLen) := by
  cases fuel with
  | zero => exact OpAt.zero
  | succ fuel => exact op_sl (n := 4) Try.underlying22 (by kernel_rfl) (by decide) op_entry
theorem nokks_of : ∀ {l : List Nd}, (∀ a ∈ l, a.okk) → Nd.okks l
  | [], _ => trivial
  | b :: l, h => ⟨h b List.mem_cons_self, nokks_of fun a ha => h a (List.mem_cons_of_mem _ ha)⟩
theorem items_ok {l : List Nd} (h : l.length ≤ maxLen ∧ ∀ a ∈ l, a.okk) : (rowN l).okk := ⟨Nat.zero_le _, h.1, nokks_of h.2⟩
theorem op_nd_s {fuel : Nat} (hk : OpAt enc Try.prog w fuel 23 (fun l : List Nd => [.sl (l.map Nd.row)]) (fun l => l.length ≤ maxLen ∧ ∀ a ∈ l, a.okk)) : OpAt enc Try.prog w (fuel + 1) 38 Nd.row (fun b => b.okk) :=
  (op_struct Try.underlying38 (by kernel_rfl) (OpF.cons (o := 0) (o' := 1) rfl (by kernel_rfl) (by decide) (op_int Try.underlying3) (OpF.cons (o := 1) (o' := 2) rfl (by kernel_rfl) (by decide) (op_str Try.underlying9) (OpF.cons (o := 2) (o' := 3) rfl (by kernel_rfl) (by decide) (op_int Try.underlying3) (OpF.cons (o := 3) (o' := 4) rfl (by kernel_rfl) (by decide) hk (OpF.nil)))))).conv (fun q => ⟨q.1, q.2.1, q.2.2.1, q.2.2.2.1⟩) (fun q => by simp [Nd.row, nrows_map, -Nd.row_map]) (fun q h => ⟨h.2.1, h.2.2.2.1.1, nokks_of h.2.2.2.1.2⟩)
theorem op_nds {fuel : Nat} (h : OpAt enc Try.prog w fuel 38 Nd.row (fun b => b.okk)) : OpAt enc Try.prog w (fuel + 1) 23 (fun l : List Nd => [.sl (l.map Nd.row)]) (fun l => l.length ≤ maxLen ∧ ∀ a ∈ l, a.okk) :=
  op_sl (n := 4) Try.underlying23 (by kernel_rfl) (by decide) h
theorem op_nd : ∀ fuel, OpAt enc Try.prog w fuel 38 Nd.row (fun b => b.okk)
  | 0 => OpAt.zero
  | 1 => op_nd_s OpAt.zero
  | k + 2 => op_nd_s (op_nds (op_nd k))
theorem op_ndl0 : ∀ fuel, OpAt enc Try.prog w fuel 23 (fun l : List Nd => [.sl (l.map Nd.row)]) (fun l => l.length ≤ maxLen ∧ ∀ a ∈ l, a.okk)
  | 0 => OpAt.zero
  | k + 1 => op_nds (op_nd k)
theorem op_ndl (fuel : Nat) : OpAt enc Try.prog w fuel 23 (fun l : List Nd => [.sl (Nd.rows l)]) (fun l => l.length ≤ maxLen ∧ ∀ a ∈ l, a.okk) := by
  have h := op_ndl0 (enc := enc) (w := w) fuel
  have e : (fun l : List Nd => [C.sl (Nd.rows l)]) = fun l : List Nd => [.sl (l.map Nd.row)] := funext fun l => by rw [nrows_map]
  rw [e]; exact h
end
end Go.Proofs.Ytmlabapfjliaeaa
