/-
  An operation on a tree as an input of a law.
-/
import Derived.Test.YtnpenchciinmmaaGreatOy
import Derived.Test.YtnpenchciinmmaaGreatKr
namespace Go.Proofs.YtnpenchciinmmaaGreat
open Go.RowKit
set_option linter.unusedSimpArgs false
set_option linter.unusedVariables false
set_option maxRecDepth 100000
section
variable {H : Type} {enc : TypeId × Value → H} {w : World}
theorem op_opI {fuel : Nat} : OpAt enc Tryz.prog w fuel 25 OpI.row_ (fun q => q.nodes.length ≤ maxLen ∧ Nd.okks q.nodes) := by
  cases fuel with
  | zero => exact OpAt.zero
  | succ fuel => exact (op_struct Tryz.underlying25 (by kernel_rfl) (OpF.cons (o := 0) (o' := 1) rfl (by kernel_rfl) (by decide) (op_int Tryz.underlying3) (OpF.cons (o := 1) (o' := 2) rfl (by kernel_rfl) (by decide) op_src (OpF.cons (o := 2) (o' := 3) rfl (by kernel_rfl) (by decide) (op_int Tryz.underlying3) (OpF.cons (o := 3) (o' := 4) rfl (by kernel_rfl) (by decide) (op_int Tryz.underlying3) (OpF.cons (o := 4) (o' := 5) rfl (by kernel_rfl) (by decide) (op_ndl0 _) (OpF.cons (o := 5) (o' := 6) rfl (by kernel_rfl) (by decide) (op_int Tryz.underlying3) (OpF.cons (o := 6) (o' := 7) rfl (by kernel_rfl) (by decide) (op_str Tryz.underlying9) (OpF.cons (o := 7) (o' := 8) rfl (by kernel_rfl) (by decide) (op_str Tryz.underlying9) (OpF.nil)))))))))).conv (fun q => ⟨q.1, q.2.1, q.2.2.1, q.2.2.2.1, q.2.2.2.2.1, q.2.2.2.2.2.1, q.2.2.2.2.2.2.1, q.2.2.2.2.2.2.2.1⟩) (fun q => by simp [OpI.row_, intsC, nrows_map, -Nd.row_map]) (fun q h => ⟨h.2.2.2.2.1.1, nokks_of h.2.2.2.2.1.2⟩)
end
end Go.Proofs.YtnpenchciinmmaaGreat
