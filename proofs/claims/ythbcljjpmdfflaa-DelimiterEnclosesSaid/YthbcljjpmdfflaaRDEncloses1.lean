/-
 DEncloses: the row's closed cells, part 1.
-/
import Derived.Test.YthbcljjpmdfflaaRows
import Derived.WalkKit
import Derived.ProofKit
import Derived.OpenShut
namespace Go.Proofs.Ythbcljjpmdfflaa.delimiterEncloses
open Go.ChangeShapes Go.WideShapes Go.ChangeAt Go.RowKit
set_option linter.unusedVariables false
set_option maxRecDepth 100000
theorem j12 : (Rows.delimiterEnclosesRow.named == Try.prog.varsNamed 20) = true := by kernel_rfl
theorem j13 : (Rows.delimiterEnclosesRow.maps == (Try.f20.params.toList ++ Rows.delimiterEnclosesSpec.plain.varTypes Try.prog).any (Try.prog.mapsRec ·)) = true := by kernel_rfl
theorem j14 : (Rows.delimiterEnclosesRow.ifaces == (Try.f20.params.toList ++ Rows.delimiterEnclosesSpec.plain.varTypes Try.prog).any (Try.prog.ifacesRec ·)) = true := by kernel_rfl
theorem j15 : (Rows.delimiterEnclosesRow.mapsOut == Try.prog.mapsAmong Try.f20.resultTypes.toList) = true := by kernel_rfl
theorem j16 : (Rows.delimiterEnclosesRow.loops == (Try.f20.params.toList ++ Rows.delimiterEnclosesSpec.plain.varTypes Try.prog).any (Try.prog.loopsFrom ·)) = true := by kernel_rfl
theorem j17 : (Rows.delimiterEnclosesRow.wideKeys == (Try.f20.params.toList ++ Rows.delimiterEnclosesSpec.plain.varTypes Try.prog ++ Try.f20.resultTypes.toList).any (Try.prog.wideKeysFrom ·)) = true := by kernel_rfl
theorem j18 : Rows.delimiterEnclosesSpec.vars.all (Try.prog.varReadable ·) = true := by kernel_rfl
theorem j19 : Try.f20.resultTypes.all (fun t => Try.prog.readableRec t && decide (t < Try.prog.types.size)) = true := by kernel_rfl
theorem j20 : (Rows.delimiterEnclosesRow.ifacesOut == Try.f20.resultTypes.toList.any (Try.prog.ifacesRec ·)) = true := by kernel_rfl
theorem j21 : (Rows.delimiterEnclosesRow.loopsOut == Try.f20.resultTypes.toList.any (Try.prog.loopsFrom ·)) = true := by kernel_rfl
theorem j29 : (Rows.delimiterEnclosesRow.pinned == Rows.delimiterEnclosesRow.pinnedBy) = true := by kernel_rfl
theorem j30 : (Rows.delimiterEnclosesRow.veiled == (Try.f20.params.toList ++ Rows.delimiterEnclosesSpec.plain.varTypes Try.prog ++ Try.f20.resultTypes.toList).any (Try.prog.veiledRec ·)) = true := by kernel_rfl
theorem j31 : Rows.delimiterEnclosesRow.veiledFits Try.prog Try.f20.params.toList (Try.f20.params.toList ++ Rows.delimiterEnclosesSpec.plain.varTypes Try.prog ++ Try.f20.resultTypes.toList) = true := by kernel_rfl
end Go.Proofs.Ythbcljjpmdfflaa.delimiterEncloses
