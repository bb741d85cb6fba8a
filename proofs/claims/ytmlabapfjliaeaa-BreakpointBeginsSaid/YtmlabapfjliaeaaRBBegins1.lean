/-
  BBegins: the row's closed cells, part 1.
-/
import Derived.Test.YtmlabapfjliaeaaRows
import Derived.WalkKit
import Derived.ProofKit
import Derived.OpenShut
namespace Go.Proofs.Ytmlabapfjliaeaa.breakpointBegins
open Go.ChangeShapes Go.WideShapes Go.ChangeAt Go.RowKit
set_option linter.unusedVariables false
set_option maxRecDepth 100000
theorem j12 : (Rows.breakpointBeginsRow.named == Try.prog.varsNamed 5) = true := by kernel_rfl
theorem j13 : (Rows.breakpointBeginsRow.maps == (Try.f5.params.toList ++ Rows.breakpointBeginsSpec.plain.varTypes Try.prog).any (Try.prog.mapsRec ·)) = true := by kernel_rfl
theorem j14 : (Rows.breakpointBeginsRow.ifaces == (Try.f5.params.toList ++ Rows.breakpointBeginsSpec.plain.varTypes Try.prog).any (Try.prog.ifacesRec ·)) = true := by kernel_rfl
theorem j15 : (Rows.breakpointBeginsRow.mapsOut == Try.prog.mapsAmong Try.f5.resultTypes.toList) = true := by kernel_rfl
theorem j16 : (Rows.breakpointBeginsRow.loops == (Try.f5.params.toList ++ Rows.breakpointBeginsSpec.plain.varTypes Try.prog).any (Try.prog.loopsFrom ·)) = true := by kernel_rfl
theorem j17 : (Rows.breakpointBeginsRow.wideKeys == (Try.f5.params.toList ++ Rows.breakpointBeginsSpec.plain.varTypes Try.prog ++ Try.f5.resultTypes.toList).any (Try.prog.wideKeysFrom ·)) = true := by kernel_rfl
theorem j18 : Rows.breakpointBeginsSpec.vars.all (Try.prog.varReadable ·) = true := by kernel_rfl
theorem j19 : Try.f5.resultTypes.all (fun t => Try.prog.readableRec t && decide (t < Try.prog.types.size)) = true := by kernel_rfl
theorem j20 : (Rows.breakpointBeginsRow.ifacesOut == Try.f5.resultTypes.toList.any (Try.prog.ifacesRec ·)) = true := by kernel_rfl
theorem j21 : (Rows.breakpointBeginsRow.loopsOut == Try.f5.resultTypes.toList.any (Try.prog.loopsFrom ·)) = true := by kernel_rfl
theorem j29 : (Rows.breakpointBeginsRow.pinned == Rows.breakpointBeginsRow.pinnedBy) = true := by kernel_rfl
theorem j30 : (Rows.breakpointBeginsRow.veiled == (Try.f5.params.toList ++ Rows.breakpointBeginsSpec.plain.varTypes Try.prog ++ Try.f5.resultTypes.toList).any (Try.prog.veiledRec ·)) = true := by kernel_rfl
theorem j31 : Rows.breakpointBeginsRow.veiledFits Try.prog Try.f5.params.toList (Try.f5.params.toList ++ Rows.breakpointBeginsSpec.plain.varTypes Try.prog ++ Try.f5.resultTypes.toList) = true := by kernel_rfl
end Go.Proofs.Ytmlabapfjliaeaa.breakpointBegins
