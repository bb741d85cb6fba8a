/-
 RJoins: the row's closed cells, part 1.
-/
import Derived.Test.YthbcljjpmdfflaaRows
import Derived.WalkKit
import Derived.ProofKit
import Derived.OpenShut
namespace Go.Proofs.Ythbcljjpmdfflaa.radicalJoins
open Go.ChangeShapes Go.WideShapes Go.ChangeAt Go.RowKit
set_option linter.unusedVariables false
set_option maxRecDepth 100000
theorem j12 : (Rows.radicalJoinsRow.named == Try.prog.varsNamed 12) = true := by kernel_rfl
theorem j13 : (Rows.radicalJoinsRow.maps == (Try.f12.params.toList ++ Rows.radicalJoinsSpec.plain.varTypes Try.prog).any (Try.prog.mapsRec ·)) = true := by kernel_rfl
theorem j14 : (Rows.radicalJoinsRow.ifaces == (Try.f12.params.toList ++ Rows.radicalJoinsSpec.plain.varTypes Try.prog).any (Try.prog.ifacesRec ·)) = true := by kernel_rfl
theorem j15 : (Rows.radicalJoinsRow.mapsOut == Try.prog.mapsAmong Try.f12.resultTypes.toList) = true := by kernel_rfl
theorem j16 : (Rows.radicalJoinsRow.loops == (Try.f12.params.toList ++ Rows.radicalJoinsSpec.plain.varTypes Try.prog).any (Try.prog.loopsFrom ·)) = true := by kernel_rfl
theorem j17 : (Rows.radicalJoinsRow.wideKeys == (Try.f12.params.toList ++ Rows.radicalJoinsSpec.plain.varTypes Try.prog ++ Try.f12.resultTypes.toList).any (Try.prog.wideKeysFrom ·)) = true := by kernel_rfl
theorem j18 : Rows.radicalJoinsSpec.vars.all (Try.prog.varReadable ·) = true := by kernel_rfl
theorem j19 : Try.f12.resultTypes.all (fun t => Try.prog.readableRec t && decide (t < Try.prog.types.size)) = true := by kernel_rfl
theorem j20 : (Rows.radicalJoinsRow.ifacesOut == Try.f12.resultTypes.toList.any (Try.prog.ifacesRec ·)) = true := by kernel_rfl
theorem j21 : (Rows.radicalJoinsRow.loopsOut == Try.f12.resultTypes.toList.any (Try.prog.loopsFrom ·)) = true := by kernel_rfl
theorem j29 : (Rows.radicalJoinsRow.pinned == Rows.radicalJoinsRow.pinnedBy) = true := by kernel_rfl
theorem j30 : (Rows.radicalJoinsRow.veiled == (Try.f12.params.toList ++ Rows.radicalJoinsSpec.plain.varTypes Try.prog ++ Try.f12.resultTypes.toList).any (Try.prog.veiledRec ·)) = true := by kernel_rfl
theorem j31 : Rows.radicalJoinsRow.veiledFits Try.prog Try.f12.params.toList (Try.f12.params.toList ++ Rows.radicalJoinsSpec.plain.varTypes Try.prog ++ Try.f12.resultTypes.toList) = true := by kernel_rfl
end Go.Proofs.Ythbcljjpmdfflaa.radicalJoins
