/-
 DNeed: the row's closed cells, part 0.
-/
import Derived.Test.YthbcljjpmdfflaaRows
import Derived.WalkKit
import Derived.ProofKit
import Derived.OpenShut
namespace Go.Proofs.Ythbcljjpmdfflaa.delimiterNeed
open Go.ChangeShapes Go.WideShapes Go.ChangeAt Go.RowKit
set_option linter.unusedVariables false
set_option maxRecDepth 100000
theorem j0 : Rows.delimiterNeedRow.wf (OpenSpec.ofChange Rows.delimiterNeedSpec) = true := by kernel_rfl
theorem j3 : Try.f16.params.all (Try.prog.readableRec ·) = true := by kernel_rfl
theorem j4 : namedTie Try.prog Rows.delimiterNeedRow.named Rows.delimiterNeedSpec.vars = true := by kernel_rfl
theorem j5 : (Rows.delimiterNeedRow.stops == []) = true := by kernel_rfl
theorem j7 : (Rows.delimiterNeedRow.knobs == []) = true := by kernel_rfl
theorem j9 : (Rows.delimiterNeedRow.inPlace == Try.prog.inPlace 16) = true := by kernel_rfl
theorem j10 : (Rows.delimiterNeedRow.unfollowed == Try.prog.unfollowed 16) = true := by kernel_rfl
theorem j11 : (Rows.delimiterNeedRow.recurses == Try.prog.recurses 16) = true := by kernel_rfl
end Go.Proofs.Ythbcljjpmdfflaa.delimiterNeed
