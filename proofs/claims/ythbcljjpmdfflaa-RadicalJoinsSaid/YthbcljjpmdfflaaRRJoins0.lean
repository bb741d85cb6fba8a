/-
 RJoins: the row's closed cells, part 0.
-/
import Derived.Test.YthbcljjpmdfflaaRows
import Derived.WalkKit
import Derived.ProofKit
import Derived.OpenShut
namespace Go.Proofs.Ythbcljjpmdfflaa.radicalJoins
open Go.ChangeShapes Go.WideShapes Go.ChangeAt Go.RowKit
set_option linter.unusedVariables false
set_option maxRecDepth 100000
theorem j0 : Rows.radicalJoinsRow.wf (OpenSpec.ofChange Rows.radicalJoinsSpec) = true := by kernel_rfl
theorem j3 : Try.f12.params.all (Try.prog.readableRec ·) = true := by kernel_rfl
theorem j4 : namedTie Try.prog Rows.radicalJoinsRow.named Rows.radicalJoinsSpec.vars = true := by kernel_rfl
theorem j5 : (Rows.radicalJoinsRow.stops == []) = true := by kernel_rfl
theorem j7 : (Rows.radicalJoinsRow.knobs == []) = true := by kernel_rfl
theorem j9 : (Rows.radicalJoinsRow.inPlace == Try.prog.inPlace 12) = true := by kernel_rfl
theorem j10 : (Rows.radicalJoinsRow.unfollowed == Try.prog.unfollowed 12) = true := by kernel_rfl
theorem j11 : (Rows.radicalJoinsRow.recurses == Try.prog.recurses 12) = true := by kernel_rfl
end Go.Proofs.Ythbcljjpmdfflaa.radicalJoins
