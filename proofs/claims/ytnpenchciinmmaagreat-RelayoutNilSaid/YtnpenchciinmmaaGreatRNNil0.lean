/-
  NNil: the row's closed cells, part 0.
-/
import Derived.Test.YtnpenchciinmmaaGreatRows
import Derived.WalkKit
import Derived.ProofKit
import Derived.OpenShut
namespace Go.Proofs.YtnpenchciinmmaaGreat.relayoutNil
open Go.ChangeShapes Go.WideShapes Go.ChangeAt Go.RowKit
set_option linter.unusedVariables false
set_option maxRecDepth 100000
theorem j0 : Rows.relayoutNilRow.wf (OpenSpec.ofChange Rows.relayoutNilSpec) = true := by kernel_rfl
theorem j3 : Tryz.f3.params.all (Tryz.prog.readableRec ·) = true := by kernel_rfl
theorem j4 : namedTie Tryz.prog Rows.relayoutNilRow.named Rows.relayoutNilSpec.vars = true := by kernel_rfl
theorem j5 : (Rows.relayoutNilRow.stops == []) = true := by kernel_rfl
theorem j7 : (Rows.relayoutNilRow.knobs == []) = true := by kernel_rfl
theorem j9 : (Rows.relayoutNilRow.inPlace == Tryz.prog.inPlace 3) = true := by kernel_rfl
theorem j10 : (Rows.relayoutNilRow.unfollowed == Tryz.prog.unfollowed 3) = true := by kernel_rfl
theorem j11 : (Rows.relayoutNilRow.recurses == Tryz.prog.recurses 3) = true := by kernel_rfl
end Go.Proofs.YtnpenchciinmmaaGreat.relayoutNil
