/-
 RDegree: the row's closed cells, part 1.
-/
import Derived.Test.YthbcljjpmdfflaaRows
import Derived.WalkKit
import Derived.ProofKit
import Derived.OpenShut
namespace Go.Proofs.Ythbcljjpmdfflaa.radicalDegree
open Go.ChangeShapes Go.WideShapes Go.ChangeAt Go.RowKit
set_option linter.unusedVariables false
set_option maxRecDepth 100000
theorem j12 : (Rows.radicalDegreeRow.named == Try.prog.varsNamed 13) = true := by kernel_rfl
theorem j13 : (Rows.radicalDegreeRow.maps == (Try.f13.params.toList ++ Rows.radicalDegreeSpec.plain.varTypes Try.prog).any (Try.prog.mapsRec ·)) = true := by kernel_rfl
theorem j14 : (Rows.radicalDegreeRow.ifaces == (Try.f13.params.toList ++ Rows.radicalDegreeSpec.plain.varTypes Try.prog).any (Try.prog.ifacesRec ·)) = true := by kernel_rfl
theorem j15 : (Rows.radicalDegreeRow.mapsOut == Try.prog.mapsAmong Try.f13.resultTypes.toList) = true := by kernel_rfl
theorem j16 : (Rows.radicalDegreeRow.loops == (Try.f13.params.toList ++ Rows.radicalDegreeSpec.plain.varTypes Try.prog).any (Try.prog.loopsFrom ·)) = true := by kernel_rfl
theorem j17 : (Rows.radicalDegreeRow.wideKeys == (Try.f13.params.toList ++ Rows.radicalDegreeSpec.plain.varTypes Try.prog ++ Try.f13.resultTypes.toList).any (Try.prog.wideKeysFrom ·)) = true := by kernel_rfl
theorem j18 : Rows.radicalDegreeSpec.vars.all (Try.prog.varReadable ·) = true := by kernel_rfl
theorem j19 : Try.f13.resultTypes.all (fun t => Try.prog.readableRec t && decide (t < Try.prog.types.size)) = true := by kernel_rfl
theorem j20 : (Rows.radicalDegreeRow.ifacesOut == Try.f13.resultTypes.toList.any (Try.prog.ifacesRec ·)) = true := by kernel_rfl
theorem j21 : (Rows.radicalDegreeRow.loopsOut == Try.f13.resultTypes.toList.any (Try.prog.loopsFrom ·)) = true := by kernel_rfl
theorem j29 : (Rows.radicalDegreeRow.pinned == Rows.radicalDegreeRow.pinnedBy) = true := by kernel_rfl
theorem j30 : (Rows.radicalDegreeRow.veiled == (Try.f13.params.toList ++ Rows.radicalDegreeSpec.plain.varTypes Try.prog ++ Try.f13.resultTypes.toList).any (Try.prog.veiledRec ·)) = true := by kernel_rfl
theorem j31 : Rows.radicalDegreeRow.veiledFits Try.prog Try.f13.params.toList (Try.f13.params.toList ++ Rows.radicalDegreeSpec.plain.varTypes Try.prog ++ Try.f13.resultTypes.toList) = true := by kernel_rfl
end Go.Proofs.Ythbcljjpmdfflaa.radicalDegree
