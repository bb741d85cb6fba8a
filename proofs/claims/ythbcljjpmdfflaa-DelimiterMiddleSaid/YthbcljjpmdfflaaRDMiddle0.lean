/-
 DMiddle: the row's closed cells, part 0.
-/
import Derived.Test.YthbcljjpmdfflaaRows
import Derived.WalkKit
import Derived.ProofKit
import Derived.OpenShut
namespace Go.Proofs.Ythbcljjpmdfflaa.delimiterMiddle
open Go.ChangeShapes Go.WideShapes Go.ChangeAt Go.RowKit
set_option linter.unusedVariables false
set_option maxRecDepth 100000
theorem j0 : Rows.delimiterMiddleRow.wf (OpenSpec.ofChange Rows.delimiterMiddleSpec) = true := by kernel_rfl
theorem j3 : Try.f18.params.all (Try.prog.readableRec ·) = true := by kernel_rfl
theorem j4 : namedTie Try.prog Rows.delimiterMiddleRow.named Rows.delimiterMiddleSpec.vars = true := by kernel_rfl
theorem j5 : (Rows.delimiterMiddleRow.stops == []) = true := by kernel_rfl
theorem j7 : (Rows.delimiterMiddleRow.knobs == []) = true := by kernel_rfl
theorem j9 : (Rows.delimiterMiddleRow.inPlace == Try.prog.inPlace 18) = true := by kernel_rfl
theorem j10 : (Rows.delimiterMiddleRow.unfollowed == Try.prog.unfollowed 18) = true := by kernel_rfl
theorem j11 : (Rows.delimiterMiddleRow.recurses == Try.prog.recurses 18) = true := by kernel_rfl
end Go.Proofs.Ythbcljjpmdfflaa.delimiterMiddle
