/-
  Least: the row's closed cells, part 1.
-/
import Derived.Test.YthbcljjpmdfflaaRows
import Derived.WalkKit
import Derived.ProofKit
import Derived.OpenShut
namespace Go.Proofs.Ythbcljjpmdfflaa.variantLeast
open Go.ChangeShapes Go.WideShapes Go.ChangeAt Go.RowKit
set_option linter.unusedVariables false
set_option maxRecDepth 100000
theorem j12 : (Rows.variantLeastRow.named == Try.prog.varsNamed 7) = true := by kernel_rfl
theorem j13 : (Rows.variantLeastRow.maps == (Try.f7.params.toList ++ Rows.variantLeastSpec.plain.varTypes Try.prog).any (Try.prog.mapsRec ·)) = true := by kernel_rfl
theorem j14 : (Rows.variantLeastRow.ifaces == (Try.f7.params.toList ++ Rows.variantLeastSpec.plain.varTypes Try.prog).any (Try.prog.ifacesRec ·)) = true := by kernel_rfl
theorem j15 : (Rows.variantLeastRow.mapsOut == Try.prog.mapsAmong Try.f7.resultTypes.toList) = true := by kernel_rfl
theorem j16 : (Rows.variantLeastRow.loops == (Try.f7.params.toList ++ Rows.variantLeastSpec.plain.varTypes Try.prog).any (Try.prog.loopsFrom ·)) = true := by kernel_rfl
theorem j17 : (Rows.variantLeastRow.wideKeys == (Try.f7.params.toList ++ Rows.variantLeastSpec.plain.varTypes Try.prog ++ Try.f7.resultTypes.toList).any (Try.prog.wideKeysFrom ·)) = true := by kernel_rfl
theorem j18 : Rows.variantLeastSpec.vars.all (Try.prog.varReadable ·) = true := by kernel_rfl
theorem j19 : Try.f7.resultTypes.all (fun t => Try.prog.readableRec t && decide (t < Try.prog.types.size)) = true := by kernel_rfl
theorem j20 : (Rows.variantLeastRow.ifacesOut == Try.f7.resultTypes.toList.any (Try.prog.ifacesRec ·)) = true := by kernel_rfl
theorem j21 : (Rows.variantLeastRow.loopsOut == Try.f7.resultTypes.toList.any (Try.prog.loopsFrom ·)) = true := by kernel_rfl
theorem j29 : (Rows.variantLeastRow.pinned == Rows.variantLeastRow.pinnedBy) = true := by kernel_rfl
theorem j30 : (Rows.variantLeastRow.veiled == (Try.f7.params.toList ++ Rows.variantLeastSpec.plain.varTypes Try.prog ++ Try.f7.resultTypes.toList).any (Try.prog.veiledRec ·)) = true := by kernel_rfl
theorem j31 : Rows.variantLeastRow.veiledFits Try.prog Try.f7.params.toList (Try.f7.params.toList ++ Rows.variantLeastSpec.plain.varTypes Try.prog ++ Try.f7.resultTypes.toList) = true := by kernel_rfl
end Go.Proofs.Ythbcljjpmdfflaa.variantLeast
