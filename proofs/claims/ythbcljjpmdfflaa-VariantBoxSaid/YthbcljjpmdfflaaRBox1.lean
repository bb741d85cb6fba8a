/-
  Box: the row's closed cells, part 1.
-/
import Derived.Test.YthbcljjpmdfflaaRows
import Derived.WalkKit
import Derived.ProofKit
import Derived.OpenShut
namespace Go.Proofs.Ythbcljjpmdfflaa.variantBox
open Go.ChangeShapes Go.WideShapes Go.ChangeAt Go.RowKit
set_option linter.unusedVariables false
set_option maxRecDepth 100000
theorem j12 : (Rows.variantBoxRow.named == Try.prog.varsNamed 4) = true := by kernel_rfl
theorem j13 : (Rows.variantBoxRow.maps == (Try.f4.params.toList ++ Rows.variantBoxSpec.plain.varTypes Try.prog).any (Try.prog.mapsRec ·)) = true := by kernel_rfl
theorem j14 : (Rows.variantBoxRow.ifaces == (Try.f4.params.toList ++ Rows.variantBoxSpec.plain.varTypes Try.prog).any (Try.prog.ifacesRec ·)) = true := by kernel_rfl
theorem j15 : (Rows.variantBoxRow.mapsOut == Try.prog.mapsAmong Try.f4.resultTypes.toList) = true := by kernel_rfl
theorem j16 : (Rows.variantBoxRow.loops == (Try.f4.params.toList ++ Rows.variantBoxSpec.plain.varTypes Try.prog).any (Try.prog.loopsFrom ·)) = true := by kernel_rfl
theorem j17 : (Rows.variantBoxRow.wideKeys == (Try.f4.params.toList ++ Rows.variantBoxSpec.plain.varTypes Try.prog ++ Try.f4.resultTypes.toList).any (Try.prog.wideKeysFrom ·)) = true := by kernel_rfl
theorem j18 : Rows.variantBoxSpec.vars.all (Try.prog.varReadable ·) = true := by kernel_rfl
theorem j19 : Try.f4.resultTypes.all (fun t => Try.prog.readableRec t && decide (t < Try.prog.types.size)) = true := by kernel_rfl
theorem j20 : (Rows.variantBoxRow.ifacesOut == Try.f4.resultTypes.toList.any (Try.prog.ifacesRec ·)) = true := by kernel_rfl
theorem j21 : (Rows.variantBoxRow.loopsOut == Try.f4.resultTypes.toList.any (Try.prog.loopsFrom ·)) = true := by kernel_rfl
theorem j29 : (Rows.variantBoxRow.pinned == Rows.variantBoxRow.pinnedBy) = true := by kernel_rfl
theorem j30 : (Rows.variantBoxRow.veiled == (Try.f4.params.toList ++ Rows.variantBoxSpec.plain.varTypes Try.prog ++ Try.f4.resultTypes.toList).any (Try.prog.veiledRec ·)) = true := by kernel_rfl
theorem j31 : Rows.variantBoxRow.veiledFits Try.prog Try.f4.params.toList (Try.f4.params.toList ++ Rows.variantBoxSpec.plain.varTypes Try.prog ++ Try.f4.resultTypes.toList) = true := by kernel_rfl
end Go.Proofs.Ythbcljjpmdfflaa.variantBox
