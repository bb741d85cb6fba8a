/-
  Pieces: the row's closed cells, part 0.
-/
import Derived.Test.YthbcljjpmdfflaaRows
import Derived.WalkKit
import Derived.ProofKit
import Derived.OpenShut
namespace Go.Proofs.Ythbcljjpmdfflaa.variantPieces
open Go.ChangeShapes Go.WideShapes Go.ChangeAt Go.RowKit
set_option linter.unusedVariables false
set_option maxRecDepth 100000
theorem j0 : Rows.variantPiecesRow.wf (OpenSpec.ofChange Rows.variantPiecesSpec) = true := by kernel_rfl
theorem j3 : Try.f9.params.all (Try.prog.readableRec ·) = true := by kernel_rfl
theorem j4 : namedTie Try.prog Rows.variantPiecesRow.named Rows.variantPiecesSpec.vars = true := by kernel_rfl
theorem j5 : (Rows.variantPiecesRow.stops == []) = true := by kernel_rfl
theorem j7 : (Rows.variantPiecesRow.knobs == []) = true := by kernel_rfl
theorem j9 : (Rows.variantPiecesRow.inPlace == Try.prog.inPlace 9) = true := by kernel_rfl
theorem j10 : (Rows.variantPiecesRow.unfollowed == Try.prog.unfollowed 9) = true := by kernel_rfl
theorem j11 : (Rows.variantPiecesRow.recurses == Try.prog.recurses 9) = true := by kernel_rfl
end Go.Proofs.Ythbcljjpmdfflaa.variantPieces
