/-
 RInside: the row's closed cells, part 1.
-/
import Derived.Test.YthbcljjpmdfflaaRows
import Derived.WalkKit
import Derived.ProofKit
import Derived.OpenShut
namespace Go.Proofs.Ythbcljjpmdfflaa.radicalInside
open Go.ChangeShapes Go.WideShapes Go.ChangeAt Go.RowKit
set_option linter.unusedVariables false
set_option maxRecDepth 100000
theorem j12 : (Rows.radicalInsideRow.named == Try.prog.varsNamed 14) = true := by kernel_rfl
theorem j13 : (Rows.radicalInsideRow.maps == (Try.f14.params.toList ++ Rows.radicalInsideSpec.plain.varTypes Try.prog).any (Try.prog.mapsRec ·)) = true := by kernel_rfl
theorem j14 : (Rows.radicalInsideRow.ifaces == (Try.f14.params.toList ++ Rows.radicalInsideSpec.plain.varTypes Try.prog).any (Try.prog.ifacesRec ·)) = true := by kernel_rfl
theorem j15 : (Rows.radicalInsideRow.mapsOut == Try.prog.mapsAmong Try.f14.resultTypes.toList) = true := by kernel_rfl
theorem j16 : (Rows.radicalInsideRow.loops == (Try.f14.params.toList ++ Rows.radicalInsideSpec.plain.varTypes Try.prog).any (Try.prog.loopsFrom ·)) = true := by kernel_rfl
theorem j17 : (Rows.radicalInsideRow.wideKeys == (Try.f14.params.toList ++ Rows.radicalInsideSpec.plain.varTypes Try.prog ++ Try.f14.resultTypes.toList).any (Try.prog.wideKeysFrom ·)) = true := by kernel_rfl
theorem j18 : Rows.radicalInsideSpec.vars.all (Try.prog.varReadable ·) = true := by kernel_rfl
theorem j19 : Try.f14.resultTypes.all (fun t => Try.prog.readableRec t && decide (t < Try.prog.types.size)) = true := by kernel_rfl
theorem j20 : (Rows.radicalInsideRow.ifacesOut == Try.f14.resultTypes.toList.any (Try.prog.ifacesRec ·)) = true := by kernel_rfl
theorem j21 : (Rows.radicalInsideRow.loopsOut == Try.f14.resultTypes.toList.any (Try.prog.loopsFrom ·)) = true := by kernel_rfl
theorem j29 : (Rows.radicalInsideRow.pinned == Rows.radicalInsideRow.pinnedBy) = true := by kernel_rfl
theorem j30 : (Rows.radicalInsideRow.veiled == (Try.f14.params.toList ++ Rows.radicalInsideSpec.plain.varTypes Try.prog ++ Try.f14.resultTypes.toList).any (Try.prog.veiledRec ·)) = true := by kernel_rfl
theorem j31 : Rows.radicalInsideRow.veiledFits Try.prog Try.f14.params.toList (Try.f14.params.toList ++ Rows.radicalInsideSpec.plain.varTypes Try.prog ++ Try.f14.resultTypes.toList) = true := by kernel_rfl
end Go.Proofs.Ythbcljjpmdfflaa.radicalInside
