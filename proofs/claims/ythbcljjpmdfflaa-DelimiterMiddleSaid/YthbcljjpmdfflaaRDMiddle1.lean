/-
 DMiddle: the row's closed cells, part 1.
-/
import Derived.Test.YthbcljjpmdfflaaRows
import Derived.WalkKit
import Derived.ProofKit
import Derived.OpenShut
namespace Go.Proofs.Ythbcljjpmdfflaa.delimiterMiddle
open Go.ChangeShapes Go.WideShapes Go.ChangeAt Go.RowKit
set_option linter.unusedVariables false
set_option maxRecDepth 100000
theorem j12 : (Rows.delimiterMiddleRow.named == Try.prog.varsNamed 18) = true := by kernel_rfl
theorem j13 : (Rows.delimiterMiddleRow.maps == (Try.f18.params.toList ++ Rows.delimiterMiddleSpec.plain.varTypes Try.prog).any (Try.prog.mapsRec ·)) = true := by kernel_rfl
theorem j14 : (Rows.delimiterMiddleRow.ifaces == (Try.f18.params.toList ++ Rows.delimiterMiddleSpec.plain.varTypes Try.prog).any (Try.prog.ifacesRec ·)) = true := by kernel_rfl
theorem j15 : (Rows.delimiterMiddleRow.mapsOut == Try.prog.mapsAmong Try.f18.resultTypes.toList) = true := by kernel_rfl
theorem j16 : (Rows.delimiterMiddleRow.loops == (Try.f18.params.toList ++ Rows.delimiterMiddleSpec.plain.varTypes Try.prog).any (Try.prog.loopsFrom ·)) = true := by kernel_rfl
theorem j17 : (Rows.delimiterMiddleRow.wideKeys == (Try.f18.params.toList ++ Rows.delimiterMiddleSpec.plain.varTypes Try.prog ++ Try.f18.resultTypes.toList).any (Try.prog.wideKeysFrom ·)) = true := by kernel_rfl
theorem j18 : Rows.delimiterMiddleSpec.vars.all (Try.prog.varReadable ·) = true := by kernel_rfl
theorem j19 : Try.f18.resultTypes.all (fun t => Try.prog.readableRec t && decide (t < Try.prog.types.size)) = true := by kernel_rfl
theorem j20 : (Rows.delimiterMiddleRow.ifacesOut == Try.f18.resultTypes.toList.any (Try.prog.ifacesRec ·)) = true := by kernel_rfl
theorem j21 : (Rows.delimiterMiddleRow.loopsOut == Try.f18.resultTypes.toList.any (Try.prog.loopsFrom ·)) = true := by kernel_rfl
theorem j29 : (Rows.delimiterMiddleRow.pinned == Rows.delimiterMiddleRow.pinnedBy) = true := by kernel_rfl
theorem j30 : (Rows.delimiterMiddleRow.veiled == (Try.f18.params.toList ++ Rows.delimiterMiddleSpec.plain.varTypes Try.prog ++ Try.f18.resultTypes.toList).any (Try.prog.veiledRec ·)) = true := by kernel_rfl
theorem j31 : Rows.delimiterMiddleRow.veiledFits Try.prog Try.f18.params.toList (Try.f18.params.toList ++ Rows.delimiterMiddleSpec.plain.varTypes Try.prog ++ Try.f18.resultTypes.toList) = true := by kernel_rfl
end Go.Proofs.Ythbcljjpmdfflaa.delimiterMiddle
