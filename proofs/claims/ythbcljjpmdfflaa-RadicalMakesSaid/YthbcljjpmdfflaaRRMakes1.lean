/-
  RMakes: the row's closed cells, part 1.
-/
import Derived.Test.YthbcljjpmdfflaaRows
import Derived.WalkKit
import Derived.ProofKit
import Derived.OpenShut
namespace Go.Proofs.Ythbcljjpmdfflaa.radicalMakes
open Go.ChangeShapes Go.WideShapes Go.ChangeAt Go.RowKit
set_option linter.unusedVariables false
set_option maxRecDepth 100000
theorem j12 : (Rows.radicalMakesRow.named == Try.prog.varsNamed 10) = true := by kernel_rfl
theorem j13 : (Rows.radicalMakesRow.maps == (Try.f10.params.toList ++ Rows.radicalMakesSpec.plain.varTypes Try.prog).any (Try.prog.mapsRec ·)) = true := by kernel_rfl
theorem j14 : (Rows.radicalMakesRow.ifaces == (Try.f10.params.toList ++ Rows.radicalMakesSpec.plain.varTypes Try.prog).any (Try.prog.ifacesRec ·)) = true := by kernel_rfl
theorem j15 : (Rows.radicalMakesRow.mapsOut == Try.prog.mapsAmong Try.f10.resultTypes.toList) = true := by kernel_rfl
theorem j16 : (Rows.radicalMakesRow.loops == (Try.f10.params.toList ++ Rows.radicalMakesSpec.plain.varTypes Try.prog).any (Try.prog.loopsFrom ·)) = true := by kernel_rfl
theorem j17 : (Rows.radicalMakesRow.wideKeys == (Try.f10.params.toList ++ Rows.radicalMakesSpec.plain.varTypes Try.prog ++ Try.f10.resultTypes.toList).any (Try.prog.wideKeysFrom ·)) = true := by kernel_rfl
theorem j18 : Rows.radicalMakesSpec.vars.all (Try.prog.varReadable ·) = true := by kernel_rfl
theorem j19 : Try.f10.resultTypes.all (fun t => Try.prog.readableRec t && decide (t < Try.prog.types.size)) = true := by kernel_rfl
theorem j20 : (Rows.radicalMakesRow.ifacesOut == Try.f10.resultTypes.toList.any (Try.prog.ifacesRec ·)) = true := by kernel_rfl
theorem j21 : (Rows.radicalMakesRow.loopsOut == Try.f10.resultTypes.toList.any (Try.prog.loopsFrom ·)) = true := by kernel_rfl
theorem j29 : (Rows.radicalMakesRow.pinned == Rows.radicalMakesRow.pinnedBy) = true := by kernel_rfl
theorem j30 : (Rows.radicalMakesRow.veiled == (Try.f10.params.toList ++ Rows.radicalMakesSpec.plain.varTypes Try.prog ++ Try.f10.resultTypes.toList).any (Try.prog.veiledRec ·)) = true := by kernel_rfl
theorem j31 : Rows.radicalMakesRow.veiledFits Try.prog Try.f10.params.toList (Try.f10.params.toList ++ Rows.radicalMakesSpec.plain.varTypes Try.prog ++ Try.f10.resultTypes.toList) = true := by kernel_rfl
end Go.Proofs.Ythbcljjpmdfflaa.radicalMakes
