/-
 RDegree: the row's closed cells, part 0.
-/
import Derived.Test.YthbcljjpmdfflaaRows
import Derived.WalkKit
import Derived.ProofKit
import Derived.OpenShut
namespace Go.Proofs.Ythbcljjpmdfflaa.radicalDegree
open Go.ChangeShapes Go.WideShapes Go.ChangeAt Go.RowKit
set_option linter.unusedVariables false
set_option maxRecDepth 100000
theorem j0 : Rows.radicalDegreeRow.wf (OpenSpec.ofChange Rows.radicalDegreeSpec) = true := by kernel_rfl
theorem j3 : Try.f13.params.all (Try.prog.readableRec ·) = true := by kernel_rfl
theorem j4 : namedTie Try.prog Rows.radicalDegreeRow.named Rows.radicalDegreeSpec.vars = true := by kernel_rfl
theorem j5 : (Rows.radicalDegreeRow.stops == []) = true := by kernel_rfl
theorem j7 : (Rows.radicalDegreeRow.knobs == []) = true := by kernel_rfl
theorem j9 : (Rows.radicalDegreeRow.inPlace == Try.prog.inPlace 13) = true := by kernel_rfl
theorem j10 : (Rows.radicalDegreeRow.unfollowed == Try.prog.unfollowed 13) = true := by kernel_rfl
theorem j11 : (Rows.radicalDegreeRow.recurses == Try.prog.recurses 13) = true := by kernel_rfl
end Go.Proofs.Ythbcljjpmdfflaa.radicalDegree
