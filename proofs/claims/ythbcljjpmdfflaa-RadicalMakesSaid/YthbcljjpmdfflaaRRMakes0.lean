/-
  RMakes: the row's closed cells, part 0.
-/
import Derived.Test.YthbcljjpmdfflaaRows
import Derived.WalkKit
import Derived.ProofKit
import Derived.OpenShut
namespace Go.Proofs.Ythbcljjpmdfflaa.radicalMakes
open Go.ChangeShapes Go.WideShapes Go.ChangeAt Go.RowKit
set_option linter.unusedVariables false
set_option maxRecDepth 100000
theorem j0 : Rows.radicalMakesRow.wf (OpenSpec.ofChange Rows.radicalMakesSpec) = true := by kernel_rfl
theorem j3 : Try.f10.params.all (Try.prog.readableRec ·) = true := by kernel_rfl
theorem j4 : namedTie Try.prog Rows.radicalMakesRow.named Rows.radicalMakesSpec.vars = true := by kernel_rfl
theorem j5 : (Rows.radicalMakesRow.stops == []) = true := by kernel_rfl
theorem j7 : (Rows.radicalMakesRow.knobs == []) = true := by kernel_rfl
theorem j9 : (Rows.radicalMakesRow.inPlace == Try.prog.inPlace 10) = true := by kernel_rfl
theorem j10 : (Rows.radicalMakesRow.unfollowed == Try.prog.unfollowed 10) = true := by kernel_rfl
theorem j11 : (Rows.radicalMakesRow.recurses == Try.prog.recurses 10) = true := by kernel_rfl
end Go.Proofs.Ythbcljjpmdfflaa.radicalMakes
