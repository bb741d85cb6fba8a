/-
 A box, a style as inputs of a law.
-/
import Derived.Test.YthbcljjpmdfflaaGreatOr
import Derived.Test.YthbcljjpmdfflaaGreatDz
namespace Go.Proofs.YthbcljjpmdfflaaGreat
open Go.RowKit
set_option linter.unusedSimpArgs false
set_option linter.unusedVariables false
set_option maxRecDepth 100000
section
variable {H : Type} {enc : TypeId × Value → H} {w : World}
theorem op_src {fuel : Nat} : OpAt enc Tryz.prog w fuel 31 (fun l : List Int => [.sl (l.map fun n => [.int .i64 n])]) (fun l => l.length ≤ maxLen ∧ ∀ a ∈ l, True) := by
 cases fuel with
 | zero => exact OpAt.zero
 | succ fuel => exact op_sl (n := 1) Tryz.underlying31 (by kernel_rfl) (by decide) (op_int Tryz.underlying3)
theorem fits_of : ∀ {l : List Box}, (∀ a ∈ l, a.fit ∧ a.okk) → Box.fits l ∧ Box.okks l
 | [], _ => ⟨trivial, trivial⟩
 | b :: l, h => ⟨⟨(h b List.mem_cons_self).1, (fits_of fun a ha => h a (List.mem_cons_of_mem _ ha)).1⟩, ⟨(h b List.mem_cons_self).2, (fits_of fun a ha => h a (List.mem_cons_of_mem _ ha)).2⟩⟩
theorem op_box_s {fuel : Nat} (hk : OpAt enc Tryz.prog w fuel 30 (fun l : List Box => [.sl (l.map Box.row)]) (fun l => l.length ≤ maxLen ∧ ∀ a ∈ l, a.fit ∧ a.okk)) : OpAt enc Tryz.prog w (fuel + 1) 33 Box.row (fun b => b.fit ∧ b.okk) :=
 (op_struct Tryz.underlying33 (by kernel_rfl) (OpF.cons (o := 0) (o' := 1) rfl (by kernel_rfl) (by decide) (op_int Tryz.underlying3) (OpF.cons (o := 1) (o' := 2) rfl (by kernel_rfl) (by decide) (op_str Tryz.underlying9) (OpF.cons (o := 2) (o' := 3) rfl (by kernel_rfl) (by decide) (op_int Tryz.underlying3) (OpF.cons (o := 3) (o' := 4) rfl (by kernel_rfl) (by decide) (op_int Tryz.underlying3) (OpF.cons (o := 4) (o' := 5) rfl (by kernel_rfl) (by decide) (op_int Tryz.underlying3) (OpF.cons (o := 5) (o' := 6) rfl (by kernel_rfl) (by decide) (op_int Tryz.underlying3) (OpF.cons (o := 6) (o' := 7) rfl (by kernel_rfl) (by decide) (op_int Tryz.underlying3) (OpF.cons (o := 7) (o' := 8) rfl (by kernel_rfl) (by decide) (op_int Tryz.underlying3) (OpF.cons (o := 8) (o' := 9) rfl (by kernel_rfl) (by decide) (hk) (OpF.cons (o := 9) (o' := 10) rfl (by kernel_rfl) (by decide) (op_int Tryz.underlying3) (OpF.cons (o := 10) (o' := 11) rfl (by kernel_rfl) (by decide) (op_src) (OpF.nil))))))))))))).conv (fun q => ⟨q.1, q.2.1, q.2.2.1, q.2.2.2.1, q.2.2.2.2.1, q.2.2.2.2.2.1, q.2.2.2.2.2.2.1, q.2.2.2.2.2.2.2.1, q.2.2.2.2.2.2.2.2.1, q.2.2.2.2.2.2.2.2.2.1, q.2.2.2.2.2.2.2.2.2.2.1⟩) (fun q => by simp [Box.row, intsC, rows_map, -Box.row_map]) (fun q h => by
   obtain ⟨h1, h2, h3, h4, h5, h6, h7, h8, ⟨h9, h10⟩, h11, ⟨h12, h13⟩, h14⟩ := h
   have := fits_of h10
   exact ⟨⟨h9, h12, this.1⟩, ⟨h2, h12, this.2⟩⟩)
theorem op_boxes {fuel : Nat} (h : OpAt enc Tryz.prog w fuel 33 Box.row (fun b => b.fit ∧ b.okk)) : OpAt enc Tryz.prog w (fuel + 1) 30 (fun l : List Box => [.sl (l.map Box.row)]) (fun l => l.length ≤ maxLen ∧ ∀ a ∈ l, a.fit ∧ a.okk) :=
 op_sl (n := 11) Tryz.underlying30 (by kernel_rfl) (by decide) h
theorem op_box : ∀ fuel, OpAt enc Tryz.prog w fuel 33 Box.row (fun b => b.fit ∧ b.okk)
 | 0 => OpAt.zero
 | 1 => op_box_s OpAt.zero
 | k + 2 => op_box_s (op_boxes (op_box k))
theorem op_boxl : ∀ fuel, OpAt enc Tryz.prog w fuel 30 (fun l : List Box => [.sl (l.map Box.row)]) (fun l => l.length ≤ maxLen ∧ ∀ a ∈ l, a.fit ∧ a.okk)
 | 0 => OpAt.zero
 | k + 1 => op_boxes (op_box k)
end
end Go.Proofs.YthbcljjpmdfflaaGreat
