/-
 DMake: the row's closed cells, part 0.
-/
import Derived.Test.YthbcljjpmdfflaaRows
import Derived.WalkKit
import Derived.ProofKit
import Derived.OpenShut
namespace Go.Proofs.Ythbcljjpmdfflaa.delimiterMake
open Go.ChangeShapes Go.WideShapes Go.ChangeAt Go.RowKit
set_option linter.unusedVariables false
set_option maxRecDepth 100000
theorem j0 : Rows.delimiterMakeRow.wf (OpenSpec.ofChange Rows.delimiterMakeSpec) = true := by kernel_rfl
theorem j3 : Try.f17.params.all (Try.prog.readableRec ·) = true := by kernel_rfl
theorem j4 : namedTie Try.prog Rows.delimiterMakeRow.named Rows.delimiterMakeSpec.vars = true := by kernel_rfl
theorem j5 : (Rows.delimiterMakeRow.stops == []) = true := by kernel_rfl
theorem j7 : (Rows.delimiterMakeRow.knobs == []) = true := by kernel_rfl
theorem j9 : (Rows.delimiterMakeRow.inPlace == Try.prog.inPlace 17) = true := by kernel_rfl
theorem j10 : (Rows.delimiterMakeRow.unfollowed == Try.prog.unfollowed 17) = true := by kernel_rfl
theorem j11 : (Rows.delimiterMakeRow.recurses == Try.prog.recurses 17) = true := by kernel_rfl
end Go.Proofs.Ythbcljjpmdfflaa.delimiterMake
