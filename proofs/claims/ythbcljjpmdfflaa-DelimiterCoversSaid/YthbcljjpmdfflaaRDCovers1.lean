/-
 DCovers: the row's closed cells, part 1.
-/
import Derived.Test.YthbcljjpmdfflaaRows
import Derived.WalkKit
import Derived.ProofKit
import Derived.OpenShut
namespace Go.Proofs.Ythbcljjpmdfflaa.delimiterCovers
open Go.ChangeShapes Go.WideShapes Go.ChangeAt Go.RowKit
set_option linter.unusedVariables false
set_option maxRecDepth 100000
theorem j12 : (Rows.delimiterCoversRow.named == Try.prog.varsNamed 19) = true := by kernel_rfl
theorem j13 : (Rows.delimiterCoversRow.maps == (Try.f19.params.toList ++ Rows.delimiterCoversSpec.plain.varTypes Try.prog).any (Try.prog.mapsRec ·)) = true := by kernel_rfl
theorem j14 : (Rows.delimiterCoversRow.ifaces == (Try.f19.params.toList ++ Rows.delimiterCoversSpec.plain.varTypes Try.prog).any (Try.prog.ifacesRec ·)) = true := by kernel_rfl
theorem j15 : (Rows.delimiterCoversRow.mapsOut == Try.prog.mapsAmong Try.f19.resultTypes.toList) = true := by kernel_rfl
theorem j16 : (Rows.delimiterCoversRow.loops == (Try.f19.params.toList ++ Rows.delimiterCoversSpec.plain.varTypes Try.prog).any (Try.prog.loopsFrom ·)) = true := by kernel_rfl
theorem j17 : (Rows.delimiterCoversRow.wideKeys == (Try.f19.params.toList ++ Rows.delimiterCoversSpec.plain.varTypes Try.prog ++ Try.f19.resultTypes.toList).any (Try.prog.wideKeysFrom ·)) = true := by kernel_rfl
theorem j18 : Rows.delimiterCoversSpec.vars.all (Try.prog.varReadable ·) = true := by kernel_rfl
theorem j19 : Try.f19.resultTypes.all (fun t => Try.prog.readableRec t && decide (t < Try.prog.types.size)) = true := by kernel_rfl
theorem j20 : (Rows.delimiterCoversRow.ifacesOut == Try.f19.resultTypes.toList.any (Try.prog.ifacesRec ·)) = true := by kernel_rfl
theorem j21 : (Rows.delimiterCoversRow.loopsOut == Try.f19.resultTypes.toList.any (Try.prog.loopsFrom ·)) = true := by kernel_rfl
theorem j29 : (Rows.delimiterCoversRow.pinned == Rows.delimiterCoversRow.pinnedBy) = true := by kernel_rfl
theorem j30 : (Rows.delimiterCoversRow.veiled == (Try.f19.params.toList ++ Rows.delimiterCoversSpec.plain.varTypes Try.prog ++ Try.f19.resultTypes.toList).any (Try.prog.veiledRec ·)) = true := by kernel_rfl
theorem j31 : Rows.delimiterCoversRow.veiledFits Try.prog Try.f19.params.toList (Try.f19.params.toList ++ Rows.delimiterCoversSpec.plain.varTypes Try.prog ++ Try.f19.resultTypes.toList) = true := by kernel_rfl
end Go.Proofs.Ythbcljjpmdfflaa.delimiterCovers
