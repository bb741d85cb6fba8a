/-
  Box: the row's closed cells, part 0.
-/
import Derived.Test.YthbcljjpmdfflaaRows
import Derived.WalkKit
import Derived.ProofKit
import Derived.OpenShut
namespace Go.Proofs.Ythbcljjpmdfflaa.variantBox
open Go.ChangeShapes Go.WideShapes Go.ChangeAt Go.RowKit
set_option linter.unusedVariables false
set_option maxRecDepth 100000
theorem j0 : Rows.variantBoxRow.wf (OpenSpec.ofChange Rows.variantBoxSpec) = true := by kernel_rfl
theorem j3 : Try.f4.params.all (Try.prog.readableRec ·) = true := by kernel_rfl
theorem j4 : namedTie Try.prog Rows.variantBoxRow.named Rows.variantBoxSpec.vars = true := by kernel_rfl
theorem j5 : (Rows.variantBoxRow.stops == []) = true := by kernel_rfl
theorem j7 : (Rows.variantBoxRow.knobs == []) = true := by kernel_rfl
theorem j9 : (Rows.variantBoxRow.inPlace == Try.prog.inPlace 4) = true := by kernel_rfl
theorem j10 : (Rows.variantBoxRow.unfollowed == Try.prog.unfollowed 4) = true := by kernel_rfl
theorem j11 : (Rows.variantBoxRow.recurses == Try.prog.recurses 4) = true := by kernel_rfl
end Go.Proofs.Ythbcljjpmdfflaa.variantBox
