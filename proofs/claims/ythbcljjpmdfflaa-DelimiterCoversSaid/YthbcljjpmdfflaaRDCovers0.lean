/-
 DCovers: the row's closed cells, part 0.
-/
import Derived.Test.YthbcljjpmdfflaaRows
import Derived.WalkKit
import Derived.ProofKit
import Derived.OpenShut
namespace Go.Proofs.Ythbcljjpmdfflaa.delimiterCovers
open Go.ChangeShapes Go.WideShapes Go.ChangeAt Go.RowKit
set_option linter.unusedVariables false
set_option maxRecDepth 100000
theorem j0 : Rows.delimiterCoversRow.wf (OpenSpec.ofChange Rows.delimiterCoversSpec) = true := by kernel_rfl
theorem j3 : Try.f19.params.all (Try.prog.readableRec ·) = true := by kernel_rfl
theorem j4 : namedTie Try.prog Rows.delimiterCoversRow.named Rows.delimiterCoversSpec.vars = true := by kernel_rfl
theorem j5 : (Rows.delimiterCoversRow.stops == []) = true := by kernel_rfl
theorem j7 : (Rows.delimiterCoversRow.knobs == []) = true := by kernel_rfl
theorem j9 : (Rows.delimiterCoversRow.inPlace == Try.prog.inPlace 19) = true := by kernel_rfl
theorem j10 : (Rows.delimiterCoversRow.unfollowed == Try.prog.unfollowed 19) = true := by kernel_rfl
theorem j11 : (Rows.delimiterCoversRow.recurses == Try.prog.recurses 19) = true := by kernel_rfl
end Go.Proofs.Ythbcljjpmdfflaa.delimiterCovers
