/-
  Grows: the row's closed cells, part 0.
-/
import Derived.Test.YthbcljjpmdfflaaRows
import Derived.WalkKit
import Derived.ProofKit
import Derived.OpenShut
namespace Go.Proofs.Ythbcljjpmdfflaa.variantGrows
open Go.ChangeShapes Go.WideShapes Go.ChangeAt Go.RowKit
set_option linter.unusedVariables false
set_option maxRecDepth 100000
theorem j0 : Rows.variantGrowsRow.wf (OpenSpec.ofChange Rows.variantGrowsSpec) = true := by kernel_rfl
theorem j3 : Try.f8.params.all (Try.prog.readableRec ·) = true := by kernel_rfl
theorem j4 : namedTie Try.prog Rows.variantGrowsRow.named Rows.variantGrowsSpec.vars = true := by kernel_rfl
theorem j5 : (Rows.variantGrowsRow.stops == []) = true := by kernel_rfl
theorem j7 : (Rows.variantGrowsRow.knobs == []) = true := by kernel_rfl
theorem j9 : (Rows.variantGrowsRow.inPlace == Try.prog.inPlace 8) = true := by kernel_rfl
theorem j10 : (Rows.variantGrowsRow.unfollowed == Try.prog.unfollowed 8) = true := by kernel_rfl
theorem j11 : (Rows.variantGrowsRow.recurses == Try.prog.recurses 8) = true := by kernel_rfl
end Go.Proofs.Ythbcljjpmdfflaa.variantGrows
