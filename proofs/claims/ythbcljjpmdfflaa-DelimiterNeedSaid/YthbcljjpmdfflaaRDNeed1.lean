/-
 DNeed: the row's closed cells, part 1.
-/
import Derived.Test.YthbcljjpmdfflaaRows
import Derived.WalkKit
import Derived.ProofKit
import Derived.OpenShut
namespace Go.Proofs.Ythbcljjpmdfflaa.delimiterNeed
open Go.ChangeShapes Go.WideShapes Go.ChangeAt Go.RowKit
set_option linter.unusedVariables false
set_option maxRecDepth 100000
theorem j12 : (Rows.delimiterNeedRow.named == Try.prog.varsNamed 16) = true := by kernel_rfl
theorem j13 : (Rows.delimiterNeedRow.maps == (Try.f16.params.toList ++ Rows.delimiterNeedSpec.plain.varTypes Try.prog).any (Try.prog.mapsRec ·)) = true := by kernel_rfl
theorem j14 : (Rows.delimiterNeedRow.ifaces == (Try.f16.params.toList ++ Rows.delimiterNeedSpec.plain.varTypes Try.prog).any (Try.prog.ifacesRec ·)) = true := by kernel_rfl
theorem j15 : (Rows.delimiterNeedRow.mapsOut == Try.prog.mapsAmong Try.f16.resultTypes.toList) = true := by kernel_rfl
theorem j16 : (Rows.delimiterNeedRow.loops == (Try.f16.params.toList ++ Rows.delimiterNeedSpec.plain.varTypes Try.prog).any (Try.prog.loopsFrom ·)) = true := by kernel_rfl
theorem j17 : (Rows.delimiterNeedRow.wideKeys == (Try.f16.params.toList ++ Rows.delimiterNeedSpec.plain.varTypes Try.prog ++ Try.f16.resultTypes.toList).any (Try.prog.wideKeysFrom ·)) = true := by kernel_rfl
theorem j18 : Rows.delimiterNeedSpec.vars.all (Try.prog.varReadable ·) = true := by kernel_rfl
theorem j19 : Try.f16.resultTypes.all (fun t => Try.prog.readableRec t && decide (t < Try.prog.types.size)) = true := by kernel_rfl
theorem j20 : (Rows.delimiterNeedRow.ifacesOut == Try.f16.resultTypes.toList.any (Try.prog.ifacesRec ·)) = true := by kernel_rfl
theorem j21 : (Rows.delimiterNeedRow.loopsOut == Try.f16.resultTypes.toList.any (Try.prog.loopsFrom ·)) = true := by kernel_rfl
theorem j29 : (Rows.delimiterNeedRow.pinned == Rows.delimiterNeedRow.pinnedBy) = true := by kernel_rfl
theorem j30 : (Rows.delimiterNeedRow.veiled == (Try.f16.params.toList ++ Rows.delimiterNeedSpec.plain.varTypes Try.prog ++ Try.f16.resultTypes.toList).any (Try.prog.veiledRec ·)) = true := by kernel_rfl
theorem j31 : Rows.delimiterNeedRow.veiledFits Try.prog Try.f16.params.toList (Try.f16.params.toList ++ Rows.delimiterNeedSpec.plain.varTypes Try.prog ++ Try.f16.resultTypes.toList) = true := by kernel_rfl
end Go.Proofs.Ythbcljjpmdfflaa.delimiterNeed
