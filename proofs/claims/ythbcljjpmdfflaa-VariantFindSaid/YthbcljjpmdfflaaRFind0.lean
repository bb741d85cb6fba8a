/-
  Find: the row's closed cells, part 0.
-/
import Derived.Test.YthbcljjpmdfflaaRows
import Derived.WalkKit
import Derived.ProofKit
import Derived.OpenShut
namespace Go.Proofs.Ythbcljjpmdfflaa.variantFind
open Go.ChangeShapes Go.WideShapes Go.ChangeAt Go.RowKit
set_option linter.unusedVariables false
set_option maxRecDepth 100000
theorem j0 : Rows.variantFindRow.wf (OpenSpec.ofChange Rows.variantFindSpec) = true := by kernel_rfl
theorem j3 : Try.f5.params.all (Try.prog.readableRec ·) = true := by kernel_rfl
theorem j4 : namedTie Try.prog Rows.variantFindRow.named Rows.variantFindSpec.vars = true := by kernel_rfl
theorem j5 : (Rows.variantFindRow.stops == []) = true := by kernel_rfl
theorem j7 : (Rows.variantFindRow.knobs == []) = true := by kernel_rfl
theorem j9 : (Rows.variantFindRow.inPlace == Try.prog.inPlace 5) = true := by kernel_rfl
theorem j10 : (Rows.variantFindRow.unfollowed == Try.prog.unfollowed 5) = true := by kernel_rfl
theorem j11 : (Rows.variantFindRow.recurses == Try.prog.recurses 5) = true := by kernel_rfl
end Go.Proofs.Ythbcljjpmdfflaa.variantFind
