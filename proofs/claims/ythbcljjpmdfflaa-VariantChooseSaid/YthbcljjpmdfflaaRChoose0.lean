/-
  Choose: the row's closed cells, part 0.
-/
import Derived.Test.YthbcljjpmdfflaaRows
import Derived.WalkKit
import Derived.ProofKit
import Derived.OpenShut
namespace Go.Proofs.Ythbcljjpmdfflaa.variantChoose
open Go.ChangeShapes Go.WideShapes Go.ChangeAt Go.RowKit
set_option linter.unusedVariables false
set_option maxRecDepth 100000
theorem j0 : Rows.variantChooseRow.wf (OpenSpec.ofChange Rows.variantChooseSpec) = true := by kernel_rfl
theorem j3 : Try.f3.params.all (Try.prog.readableRec ·) = true := by kernel_rfl
theorem j4 : namedTie Try.prog Rows.variantChooseRow.named Rows.variantChooseSpec.vars = true := by kernel_rfl
theorem j5 : (Rows.variantChooseRow.stops == []) = true := by kernel_rfl
theorem j7 : (Rows.variantChooseRow.knobs == []) = true := by kernel_rfl
theorem j9 : (Rows.variantChooseRow.inPlace == Try.prog.inPlace 3) = true := by kernel_rfl
theorem j10 : (Rows.variantChooseRow.unfollowed == Try.prog.unfollowed 3) = true := by kernel_rfl
theorem j11 : (Rows.variantChooseRow.recurses == Try.prog.recurses 3) = true := by kernel_rfl
end Go.Proofs.Ythbcljjpmdfflaa.variantChoose
