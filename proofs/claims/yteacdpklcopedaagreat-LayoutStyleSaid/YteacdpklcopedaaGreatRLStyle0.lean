/-
  LStyle: the row's closed cells, part 0.
-/
import Derived.Test.YteacdpklcopedaaGreatRows
import Derived.WalkKit
import Derived.ProofKit
import Derived.OpenShut
namespace Go.Proofs.YteacdpklcopedaaGreat.layoutStyle
open Go.ChangeShapes Go.WideShapes Go.ChangeAt Go.RowKit
set_option linter.unusedVariables false
set_option maxRecDepth 100000
theorem j0 : Rows.layoutStyleRow.wf (OpenSpec.ofChange Rows.layoutStyleSpec) = true := by kernel_rfl
theorem j3 : Tryz.f3.params.all (Tryz.prog.readableRec ·) = true := by kernel_rfl
theorem j4 : namedTie Tryz.prog Rows.layoutStyleRow.named Rows.layoutStyleSpec.vars = true := by kernel_rfl
theorem j5 : (Rows.layoutStyleRow.stops == []) = true := by kernel_rfl
theorem j7 : (Rows.layoutStyleRow.knobs == []) = true := by kernel_rfl
theorem j9 : (Rows.layoutStyleRow.inPlace == Tryz.prog.inPlace 3) = true := by kernel_rfl
theorem j10 : (Rows.layoutStyleRow.unfollowed == Tryz.prog.unfollowed 3) = true := by kernel_rfl
theorem j11 : (Rows.layoutStyleRow.recurses == Tryz.prog.recurses 3) = true := by kernel_rfl
end Go.Proofs.YteacdpklcopedaaGreat.layoutStyle
