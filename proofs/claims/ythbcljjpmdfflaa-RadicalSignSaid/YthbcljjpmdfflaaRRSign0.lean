/-
 RSign: the row's closed cells, part 0.
-/
import Derived.Test.YthbcljjpmdfflaaRows
import Derived.WalkKit
import Derived.ProofKit
import Derived.OpenShut
namespace Go.Proofs.Ythbcljjpmdfflaa.radicalSign
open Go.ChangeShapes Go.WideShapes Go.ChangeAt Go.RowKit
set_option linter.unusedVariables false
set_option maxRecDepth 100000
theorem j0 : Rows.radicalSignRow.wf (OpenSpec.ofChange Rows.radicalSignSpec) = true := by kernel_rfl
theorem j3 : Try.f15.params.all (Try.prog.readableRec ·) = true := by kernel_rfl
theorem j4 : namedTie Try.prog Rows.radicalSignRow.named Rows.radicalSignSpec.vars = true := by kernel_rfl
theorem j5 : (Rows.radicalSignRow.stops == []) = true := by kernel_rfl
theorem j7 : (Rows.radicalSignRow.knobs == []) = true := by kernel_rfl
theorem j9 : (Rows.radicalSignRow.inPlace == Try.prog.inPlace 15) = true := by kernel_rfl
theorem j10 : (Rows.radicalSignRow.unfollowed == Try.prog.unfollowed 15) = true := by kernel_rfl
theorem j11 : (Rows.radicalSignRow.recurses == Try.prog.recurses 15) = true := by kernel_rfl
end Go.Proofs.Ythbcljjpmdfflaa.radicalSign
