/-
  Pieces: the row's closed cells, part 1.
-/
import Derived.Test.YthbcljjpmdfflaaRows
import Derived.WalkKit
import Derived.ProofKit
import Derived.OpenShut
namespace Go.Proofs.Ythbcljjpmdfflaa.variantPieces
open Go.ChangeShapes Go.WideShapes Go.ChangeAt Go.RowKit
set_option linter.unusedVariables false
set_option maxRecDepth 100000
theorem j12 : (Rows.variantPiecesRow.named == Try.prog.varsNamed 9) = true := by kernel_rfl
theorem j13 : (Rows.variantPiecesRow.maps == (Try.f9.params.toList ++ Rows.variantPiecesSpec.plain.varTypes Try.prog).any (Try.prog.mapsRec ·)) = true := by kernel_rfl
theorem j14 : (Rows.variantPiecesRow.ifaces == (Try.f9.params.toList ++ Rows.variantPiecesSpec.plain.varTypes Try.prog).any (Try.prog.ifacesRec ·)) = true := by kernel_rfl
theorem j15 : (Rows.variantPiecesRow.mapsOut == Try.prog.mapsAmong Try.f9.resultTypes.toList) = true := by kernel_rfl
theorem j16 : (Rows.variantPiecesRow.loops == (Try.f9.params.toList ++ Rows.variantPiecesSpec.plain.varTypes Try.prog).any (Try.prog.loopsFrom ·)) = true := by kernel_rfl
theorem j17 : (Rows.variantPiecesRow.wideKeys == (Try.f9.params.toList ++ Rows.variantPiecesSpec.plain.varTypes Try.prog ++ Try.f9.resultTypes.toList).any (Try.prog.wideKeysFrom ·)) = true := by kernel_rfl
theorem j18 : Rows.variantPiecesSpec.vars.all (Try.prog.varReadable ·) = true := by kernel_rfl
theorem j19 : Try.f9.resultTypes.all (fun t => Try.prog.readableRec t && decide (t < Try.prog.types.size)) = true := by kernel_rfl
theorem j20 : (Rows.variantPiecesRow.ifacesOut == Try.f9.resultTypes.toList.any (Try.prog.ifacesRec ·)) = true := by kernel_rfl
theorem j21 : (Rows.variantPiecesRow.loopsOut == Try.f9.resultTypes.toList.any (Try.prog.loopsFrom ·)) = true := by kernel_rfl
theorem j29 : (Rows.variantPiecesRow.pinned == Rows.variantPiecesRow.pinnedBy) = true := by kernel_rfl
theorem j30 : (Rows.variantPiecesRow.veiled == (Try.f9.params.toList ++ Rows.variantPiecesSpec.plain.varTypes Try.prog ++ Try.f9.resultTypes.toList).any (Try.prog.veiledRec ·)) = true := by kernel_rfl
theorem j31 : Rows.variantPiecesRow.veiledFits Try.prog Try.f9.params.toList (Try.f9.params.toList ++ Rows.variantPiecesSpec.plain.varTypes Try.prog ++ Try.f9.resultTypes.toList) = true := by kernel_rfl
end Go.Proofs.Ythbcljjpmdfflaa.variantPieces
