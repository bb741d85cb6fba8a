/-
 RInside: the row's closed cells, part 0.
-/
import Derived.Test.YthbcljjpmdfflaaRows
import Derived.WalkKit
import Derived.ProofKit
import Derived.OpenShut
namespace Go.Proofs.Ythbcljjpmdfflaa.radicalInside
open Go.ChangeShapes Go.WideShapes Go.ChangeAt Go.RowKit
set_option linter.unusedVariables false
set_option maxRecDepth 100000
theorem j0 : Rows.radicalInsideRow.wf (OpenSpec.ofChange Rows.radicalInsideSpec) = true := by kernel_rfl
theorem j3 : Try.f14.params.all (Try.prog.readableRec ·) = true := by kernel_rfl
theorem j4 : namedTie Try.prog Rows.radicalInsideRow.named Rows.radicalInsideSpec.vars = true := by kernel_rfl
theorem j5 : (Rows.radicalInsideRow.stops == []) = true := by kernel_rfl
theorem j7 : (Rows.radicalInsideRow.knobs == []) = true := by kernel_rfl
theorem j9 : (Rows.radicalInsideRow.inPlace == Try.prog.inPlace 14) = true := by kernel_rfl
theorem j10 : (Rows.radicalInsideRow.unfollowed == Try.prog.unfollowed 14) = true := by kernel_rfl
theorem j11 : (Rows.radicalInsideRow.recurses == Try.prog.recurses 14) = true := by kernel_rfl
end Go.Proofs.Ythbcljjpmdfflaa.radicalInside
