/-
 DFence: the row's closed cells, part 0.
-/
import Derived.Test.YthbcljjpmdfflaaGreatRows
import Derived.WalkKit
import Derived.ProofKit
import Derived.OpenShut
namespace Go.Proofs.YthbcljjpmdfflaaGreat.delimiterFence
open Go.ChangeShapes Go.WideShapes Go.ChangeAt Go.RowKit
set_option linter.unusedVariables false
set_option maxRecDepth 100000
theorem j0 : Rows.delimiterFenceRow.wf (OpenSpec.ofChange Rows.delimiterFenceSpec) = true := by kernel_rfl
theorem j3 : Tryz.f3.params.all (Tryz.prog.readableRec ·) = true := by kernel_rfl
theorem j4 : namedTie Tryz.prog Rows.delimiterFenceRow.named Rows.delimiterFenceSpec.vars = true := by kernel_rfl
theorem j5 : (Rows.delimiterFenceRow.stops == []) = true := by kernel_rfl
theorem j7 : (Rows.delimiterFenceRow.knobs == []) = true := by kernel_rfl
theorem j9 : (Rows.delimiterFenceRow.inPlace == Tryz.prog.inPlace 3) = true := by kernel_rfl
theorem j10 : (Rows.delimiterFenceRow.unfollowed == Tryz.prog.unfollowed 3) = true := by kernel_rfl
theorem j11 : (Rows.delimiterFenceRow.recurses == Tryz.prog.recurses 3) = true := by kernel_rfl
end Go.Proofs.YthbcljjpmdfflaaGreat.delimiterFence
