/-
 DEncloses: the row's closed cells, part 0.
-/
import Derived.Test.YthbcljjpmdfflaaRows
import Derived.WalkKit
import Derived.ProofKit
import Derived.OpenShut
namespace Go.Proofs.Ythbcljjpmdfflaa.delimiterEncloses
open Go.ChangeShapes Go.WideShapes Go.ChangeAt Go.RowKit
set_option linter.unusedVariables false
set_option maxRecDepth 100000
theorem j0 : Rows.delimiterEnclosesRow.wf (OpenSpec.ofChange Rows.delimiterEnclosesSpec) = true := by kernel_rfl
theorem j3 : Try.f20.params.all (Try.prog.readableRec ·) = true := by kernel_rfl
theorem j4 : namedTie Try.prog Rows.delimiterEnclosesRow.named Rows.delimiterEnclosesSpec.vars = true := by kernel_rfl
theorem j5 : (Rows.delimiterEnclosesRow.stops == []) = true := by kernel_rfl
theorem j7 : (Rows.delimiterEnclosesRow.knobs == []) = true := by kernel_rfl
theorem j9 : (Rows.delimiterEnclosesRow.inPlace == Try.prog.inPlace 20) = true := by kernel_rfl
theorem j10 : (Rows.delimiterEnclosesRow.unfollowed == Try.prog.unfollowed 20) = true := by kernel_rfl
theorem j11 : (Rows.delimiterEnclosesRow.recurses == Try.prog.recurses 20) = true := by kernel_rfl
end Go.Proofs.Ythbcljjpmdfflaa.delimiterEncloses
