/-
  RGap: the row's closed cells, part 0.
-/
import Derived.Test.YthbcljjpmdfflaaRows
import Derived.WalkKit
import Derived.ProofKit
import Derived.OpenShut
namespace Go.Proofs.Ythbcljjpmdfflaa.radicalGap
open Go.ChangeShapes Go.WideShapes Go.ChangeAt Go.RowKit
set_option linter.unusedVariables false
set_option maxRecDepth 100000
theorem j0 : Rows.radicalGapRow.wf (OpenSpec.ofChange Rows.radicalGapSpec) = true := by kernel_rfl
theorem j3 : Try.f11.params.all (Try.prog.readableRec ·) = true := by kernel_rfl
theorem j4 : namedTie Try.prog Rows.radicalGapRow.named Rows.radicalGapSpec.vars = true := by kernel_rfl
theorem j5 : (Rows.radicalGapRow.stops == []) = true := by kernel_rfl
theorem j7 : (Rows.radicalGapRow.knobs == []) = true := by kernel_rfl
theorem j9 : (Rows.radicalGapRow.inPlace == Try.prog.inPlace 11) = true := by kernel_rfl
theorem j10 : (Rows.radicalGapRow.unfollowed == Try.prog.unfollowed 11) = true := by kernel_rfl
theorem j11 : (Rows.radicalGapRow.recurses == Try.prog.recurses 11) = true := by kernel_rfl
end Go.Proofs.Ythbcljjpmdfflaa.radicalGap
