/-
  Covers: the row's closed cells, part 0.
-/
import Derived.Test.YthbcljjpmdfflaaRows
import Derived.WalkKit
import Derived.ProofKit
import Derived.OpenShut
namespace Go.Proofs.Ythbcljjpmdfflaa.variantCovers
open Go.ChangeShapes Go.WideShapes Go.ChangeAt Go.RowKit
set_option linter.unusedVariables false
set_option maxRecDepth 100000
theorem j0 : Rows.variantCoversRow.wf (OpenSpec.ofChange Rows.variantCoversSpec) = true := by kernel_rfl
theorem j3 : Try.f6.params.all (Try.prog.readableRec ·) = true := by kernel_rfl
theorem j4 : namedTie Try.prog Rows.variantCoversRow.named Rows.variantCoversSpec.vars = true := by kernel_rfl
theorem j5 : (Rows.variantCoversRow.stops == []) = true := by kernel_rfl
theorem j7 : (Rows.variantCoversRow.knobs == []) = true := by kernel_rfl
theorem j9 : (Rows.variantCoversRow.inPlace == Try.prog.inPlace 6) = true := by kernel_rfl
theorem j10 : (Rows.variantCoversRow.unfollowed == Try.prog.unfollowed 6) = true := by kernel_rfl
theorem j11 : (Rows.variantCoversRow.recurses == Try.prog.recurses 6) = true := by kernel_rfl
end Go.Proofs.Ythbcljjpmdfflaa.variantCovers
