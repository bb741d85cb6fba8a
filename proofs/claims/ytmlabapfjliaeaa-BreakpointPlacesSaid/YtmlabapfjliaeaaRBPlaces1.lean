/-
  BPlaces: the row's closed cells, part 1.
-/
import Derived.Test.YtmlabapfjliaeaaRows
import Derived.WalkKit
import Derived.ProofKit
import Derived.OpenShut
namespace Go.Proofs.Ytmlabapfjliaeaa.breakpointPlaces
open Go.ChangeShapes Go.WideShapes Go.ChangeAt Go.RowKit
set_option linter.unusedVariables false
set_option maxRecDepth 100000
theorem j12 : (Rows.breakpointPlacesRow.named == Try.prog.varsNamed 3) = true := by kernel_rfl
theorem j13 : (Rows.breakpointPlacesRow.maps == (Try.f3.params.toList ++ Rows.breakpointPlacesSpec.plain.varTypes Try.prog).any (Try.prog.mapsRec ·)) = true := by kernel_rfl
theorem j14 : (Rows.breakpointPlacesRow.ifaces == (Try.f3.params.toList ++ Rows.breakpointPlacesSpec.plain.varTypes Try.prog).any (Try.prog.ifacesRec ·)) = true := by kernel_rfl
theorem j15 : (Rows.breakpointPlacesRow.mapsOut == Try.prog.mapsAmong Try.f3.resultTypes.toList) = true := by kernel_rfl
theorem j16 : (Rows.breakpointPlacesRow.loops == (Try.f3.params.toList ++ Rows.breakpointPlacesSpec.plain.varTypes Try.prog).any (Try.prog.loopsFrom ·)) = true := by kernel_rfl
theorem j17 : (Rows.breakpointPlacesRow.wideKeys == (Try.f3.params.toList ++ Rows.breakpointPlacesSpec.plain.varTypes Try.prog ++ Try.f3.resultTypes.toList).any (Try.prog.wideKeysFrom ·)) = true := by kernel_rfl
theorem j18 : Rows.breakpointPlacesSpec.vars.all (Try.prog.varReadable ·) = true := by kernel_rfl
theorem j19 : Try.f3.resultTypes.all (fun t => Try.prog.readableRec t && decide (t < Try.prog.types.size)) = true := by kernel_rfl
theorem j20 : (Rows.breakpointPlacesRow.ifacesOut == Try.f3.resultTypes.toList.any (Try.prog.ifacesRec ·)) = true := by kernel_rfl
theorem j21 : (Rows.breakpointPlacesRow.loopsOut == Try.f3.resultTypes.toList.any (Try.prog.loopsFrom ·)) = true := by kernel_rfl
theorem j29 : (Rows.breakpointPlacesRow.pinned == Rows.breakpointPlacesRow.pinnedBy) = true := by kernel_rfl
theorem j30 : (Rows.breakpointPlacesRow.veiled == (Try.f3.params.toList ++ Rows.breakpointPlacesSpec.plain.varTypes Try.prog ++ Try.f3.resultTypes.toList).any (Try.prog.veiledRec ·)) = true := by kernel_rfl
theorem j31 : Rows.breakpointPlacesRow.veiledFits Try.prog Try.f3.params.toList (Try.f3.params.toList ++ Rows.breakpointPlacesSpec.plain.varTypes Try.prog ++ Try.f3.resultTypes.toList) = true := by kernel_rfl
end Go.Proofs.Ytmlabapfjliaeaa.breakpointPlaces
