/-
 Layer 31's inputs: a font with a percentage, an integer.
-/
import Derived.Test.YthbcljjpmdfflaaGreatOv
import Derived.Test.YthbcljjpmdfflaaGreatEn
namespace Go.Proofs.YthbcljjpmdfflaaGreat
open Go.RowKit
set_option linter.unusedSimpArgs false
set_option linter.unusedVariables false
set_option maxRecDepth 100000
section
variable {H : Type} {enc : TypeId × Value → H} {w : World}
theorem op_case31 {fuel : Nat} : OpAt enc Tryz.prog w fuel 29 (fun q : Font × Int => q.1.row ++ [.int .i64 q.2]) (fun q => q.1.Fit) := by
 cases fuel with
 | zero => exact OpAt.zero
 | succ fuel => exact (op_struct Tryz.underlying29 (by kernel_rfl) (OpF.cons (o := 0) (o' := 22) rfl (by kernel_rfl) (by decide) (op_font) (OpF.cons (o := 22) (o' := 23) rfl (by kernel_rfl) (by decide) (op_int Tryz.underlying3) (OpF.nil)))).conv (fun q => (q.1, q.2.1)) (fun q => by simp) (fun q h => h.1)
theorem cdRow_vs (f : Font) (p : Int) : (f.row ++ [C.int .i64 p]).map V.c = cdVs f p := by simp [cdVs, Font.vs]
theorem opened_int {P : Program} {t : TypeId} {k : IntKind} {W : World} {base b0 : Nat} {sp : Nat → Bool} {held : Bool} {r : Reach} {v : Value} {d : DataW H} {ps : List MemPlace} (hu : P.underlying t = some (.int k)) (hval : Value.okWide P W r b0 t v) (hd : DataW.Trod enc P W base sp held t v d ps) : ∃ n : Int, CV (Cx.bare (allS W)) W (.c (.int k n)) v := by
 unfold Value.okWide at hval
 rw [hu] at hval
 simp only at hval
 unfold Cell.okWide Cell.ok at hval
 rw [hu] at hval
 obtain ⟨k', n, rfl⟩ : ∃ k' n, v = .int k' n := by
  cases v <;> simp_all
 obtain ⟨fuel, hf⟩ := hd
 obtain ⟨a, h1, h2⟩ := op_int (enc := enc) (w := W) (fuel := fuel) hu sp base held _ _ hf
 refine ⟨a, ?_⟩
 simp only [RdL] at h1
 obtain ⟨v', vr, e, h3, _⟩ := h1
 simp [Value.cells] at e
 simp only [CV]
 rw [e.1]
 exact h3
end
end Go.Proofs.YthbcljjpmdfflaaGreat
