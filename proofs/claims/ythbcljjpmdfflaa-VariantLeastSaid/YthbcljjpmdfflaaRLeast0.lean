/-
  Least: the row's closed cells, part 0.
-/
import Derived.Test.YthbcljjpmdfflaaRows
import Derived.WalkKit
import Derived.ProofKit
import Derived.OpenShut
namespace Go.Proofs.Ythbcljjpmdfflaa.variantLeast
open Go.ChangeShapes Go.WideShapes Go.ChangeAt Go.RowKit
set_option linter.unusedVariables false
set_option maxRecDepth 100000
theorem j0 : Rows.variantLeastRow.wf (OpenSpec.ofChange Rows.variantLeastSpec) = true := by kernel_rfl
theorem j3 : Try.f7.params.all (Try.prog.readableRec ·) = true := by kernel_rfl
theorem j4 : namedTie Try.prog Rows.variantLeastRow.named Rows.variantLeastSpec.vars = true := by kernel_rfl
theorem j5 : (Rows.variantLeastRow.stops == []) = true := by kernel_rfl
theorem j7 : (Rows.variantLeastRow.knobs == []) = true := by kernel_rfl
theorem j9 : (Rows.variantLeastRow.inPlace == Try.prog.inPlace 7) = true := by kernel_rfl
theorem j10 : (Rows.variantLeastRow.unfollowed == Try.prog.unfollowed 7) = true := by kernel_rfl
theorem j11 : (Rows.variantLeastRow.recurses == Try.prog.recurses 7) = true := by kernel_rfl
end Go.Proofs.Ythbcljjpmdfflaa.variantLeast
