/-
  Choose: the row's closed cells, part 1.
-/
import Derived.Test.YthbcljjpmdfflaaRows
import Derived.WalkKit
import Derived.ProofKit
import Derived.OpenShut
namespace Go.Proofs.Ythbcljjpmdfflaa.variantChoose
open Go.ChangeShapes Go.WideShapes Go.ChangeAt Go.RowKit
set_option linter.unusedVariables false
set_option maxRecDepth 100000
theorem j12 : (Rows.variantChooseRow.named == Try.prog.varsNamed 3) = true := by kernel_rfl
theorem j13 : (Rows.variantChooseRow.maps == (Try.f3.params.toList ++ Rows.variantChooseSpec.plain.varTypes Try.prog).any (Try.prog.mapsRec ·)) = true := by kernel_rfl
theorem j14 : (Rows.variantChooseRow.ifaces == (Try.f3.params.toList ++ Rows.variantChooseSpec.plain.varTypes Try.prog).any (Try.prog.ifacesRec ·)) = true := by kernel_rfl
theorem j15 : (Rows.variantChooseRow.mapsOut == Try.prog.mapsAmong Try.f3.resultTypes.toList) = true := by kernel_rfl
theorem j16 : (Rows.variantChooseRow.loops == (Try.f3.params.toList ++ Rows.variantChooseSpec.plain.varTypes Try.prog).any (Try.prog.loopsFrom ·)) = true := by kernel_rfl
theorem j17 : (Rows.variantChooseRow.wideKeys == (Try.f3.params.toList ++ Rows.variantChooseSpec.plain.varTypes Try.prog ++ Try.f3.resultTypes.toList).any (Try.prog.wideKeysFrom ·)) = true := by kernel_rfl
theorem j18 : Rows.variantChooseSpec.vars.all (Try.prog.varReadable ·) = true := by kernel_rfl
theorem j19 : Try.f3.resultTypes.all (fun t => Try.prog.readableRec t && decide (t < Try.prog.types.size)) = true := by kernel_rfl
theorem j20 : (Rows.variantChooseRow.ifacesOut == Try.f3.resultTypes.toList.any (Try.prog.ifacesRec ·)) = true := by kernel_rfl
theorem j21 : (Rows.variantChooseRow.loopsOut == Try.f3.resultTypes.toList.any (Try.prog.loopsFrom ·)) = true := by kernel_rfl
theorem j29 : (Rows.variantChooseRow.pinned == Rows.variantChooseRow.pinnedBy) = true := by kernel_rfl
theorem j30 : (Rows.variantChooseRow.veiled == (Try.f3.params.toList ++ Rows.variantChooseSpec.plain.varTypes Try.prog ++ Try.f3.resultTypes.toList).any (Try.prog.veiledRec ·)) = true := by kernel_rfl
theorem j31 : Rows.variantChooseRow.veiledFits Try.prog Try.f3.params.toList (Try.f3.params.toList ++ Rows.variantChooseSpec.plain.varTypes Try.prog ++ Try.f3.resultTypes.toList) = true := by kernel_rfl
end Go.Proofs.Ythbcljjpmdfflaa.variantChoose
