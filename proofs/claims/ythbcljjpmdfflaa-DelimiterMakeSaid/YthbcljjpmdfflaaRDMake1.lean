/-
 DMake: the row's closed cells, part 1.
-/
import Derived.Test.YthbcljjpmdfflaaRows
import Derived.WalkKit
import Derived.ProofKit
import Derived.OpenShut
namespace Go.Proofs.Ythbcljjpmdfflaa.delimiterMake
open Go.ChangeShapes Go.WideShapes Go.ChangeAt Go.RowKit
set_option linter.unusedVariables false
set_option maxRecDepth 100000
theorem j12 : (Rows.delimiterMakeRow.named == Try.prog.varsNamed 17) = true := by kernel_rfl
theorem j13 : (Rows.delimiterMakeRow.maps == (Try.f17.params.toList ++ Rows.delimiterMakeSpec.plain.varTypes Try.prog).any (Try.prog.mapsRec ·)) = true := by kernel_rfl
theorem j14 : (Rows.delimiterMakeRow.ifaces == (Try.f17.params.toList ++ Rows.delimiterMakeSpec.plain.varTypes Try.prog).any (Try.prog.ifacesRec ·)) = true := by kernel_rfl
theorem j15 : (Rows.delimiterMakeRow.mapsOut == Try.prog.mapsAmong Try.f17.resultTypes.toList) = true := by kernel_rfl
theorem j16 : (Rows.delimiterMakeRow.loops == (Try.f17.params.toList ++ Rows.delimiterMakeSpec.plain.varTypes Try.prog).any (Try.prog.loopsFrom ·)) = true := by kernel_rfl
theorem j17 : (Rows.delimiterMakeRow.wideKeys == (Try.f17.params.toList ++ Rows.delimiterMakeSpec.plain.varTypes Try.prog ++ Try.f17.resultTypes.toList).any (Try.prog.wideKeysFrom ·)) = true := by kernel_rfl
theorem j18 : Rows.delimiterMakeSpec.vars.all (Try.prog.varReadable ·) = true := by kernel_rfl
theorem j19 : Try.f17.resultTypes.all (fun t => Try.prog.readableRec t && decide (t < Try.prog.types.size)) = true := by kernel_rfl
theorem j20 : (Rows.delimiterMakeRow.ifacesOut == Try.f17.resultTypes.toList.any (Try.prog.ifacesRec ·)) = true := by kernel_rfl
theorem j21 : (Rows.delimiterMakeRow.loopsOut == Try.f17.resultTypes.toList.any (Try.prog.loopsFrom ·)) = true := by kernel_rfl
theorem j29 : (Rows.delimiterMakeRow.pinned == Rows.delimiterMakeRow.pinnedBy) = true := by kernel_rfl
theorem j30 : (Rows.delimiterMakeRow.veiled == (Try.f17.params.toList ++ Rows.delimiterMakeSpec.plain.varTypes Try.prog ++ Try.f17.resultTypes.toList).any (Try.prog.veiledRec ·)) = true := by kernel_rfl
theorem j31 : Rows.delimiterMakeRow.veiledFits Try.prog Try.f17.params.toList (Try.f17.params.toList ++ Rows.delimiterMakeSpec.plain.varTypes Try.prog ++ Try.f17.resultTypes.toList) = true := by kernel_rfl
end Go.Proofs.Ythbcljjpmdfflaa.delimiterMake
