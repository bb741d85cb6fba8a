/-
  BClasses: the row's closed cells, part 1.
-/
import Derived.Test.YtmlabapfjliaeaaRows
import Derived.WalkKit
import Derived.ProofKit
import Derived.OpenShut
namespace Go.Proofs.Ytmlabapfjliaeaa.breakpointClasses
open Go.ChangeShapes Go.WideShapes Go.ChangeAt Go.RowKit
set_option linter.unusedVariables false
set_option maxRecDepth 100000
theorem j12 : (Rows.breakpointClassesRow.named == Try.prog.varsNamed 4) = true := by kernel_rfl
theorem j13 : (Rows.breakpointClassesRow.maps == (Try.f4.params.toList ++ Rows.breakpointClassesSpec.plain.varTypes Try.prog).any (Try.prog.mapsRec ·)) = true := by kernel_rfl
theorem j14 : (Rows.breakpointClassesRow.ifaces == (Try.f4.params.toList ++ Rows.breakpointClassesSpec.plain.varTypes Try.prog).any (Try.prog.ifacesRec ·)) = true := by kernel_rfl
theorem j15 : (Rows.breakpointClassesRow.mapsOut == Try.prog.mapsAmong Try.f4.resultTypes.toList) = true := by kernel_rfl
theorem j16 : (Rows.breakpointClassesRow.loops == (Try.f4.params.toList ++ Rows.breakpointClassesSpec.plain.varTypes Try.prog).any (Try.prog.loopsFrom ·)) = true := by kernel_rfl
theorem j17 : (Rows.breakpointClassesRow.wideKeys == (Try.f4.params.toList ++ Rows.breakpointClassesSpec.plain.varTypes Try.prog ++ Try.f4.resultTypes.toList).any (Try.prog.wideKeysFrom ·)) = true := by kernel_rfl
theorem j18 : Rows.breakpointClassesSpec.vars.all (Try.prog.varReadable ·) = true := by kernel_rfl
theorem j19 : Try.f4.resultTypes.all (fun t => Try.prog.readableRec t && decide (t < Try.prog.types.size)) = true := by kernel_rfl
theorem j20 : (Rows.breakpointClassesRow.ifacesOut == Try.f4.resultTypes.toList.any (Try.prog.ifacesRec ·)) = true := by kernel_rfl
theorem j21 : (Rows.breakpointClassesRow.loopsOut == Try.f4.resultTypes.toList.any (Try.prog.loopsFrom ·)) = true := by kernel_rfl
theorem j29 : (Rows.breakpointClassesRow.pinned == Rows.breakpointClassesRow.pinnedBy) = true := by kernel_rfl
theorem j30 : (Rows.breakpointClassesRow.veiled == (Try.f4.params.toList ++ Rows.breakpointClassesSpec.plain.varTypes Try.prog ++ Try.f4.resultTypes.toList).any (Try.prog.veiledRec ·)) = true := by kernel_rfl
theorem j31 : Rows.breakpointClassesRow.veiledFits Try.prog Try.f4.params.toList (Try.f4.params.toList ++ Rows.breakpointClassesSpec.plain.varTypes Try.prog ++ Try.f4.resultTypes.toList) = true := by kernel_rfl
end Go.Proofs.Ytmlabapfjliaeaa.breakpointClasses
