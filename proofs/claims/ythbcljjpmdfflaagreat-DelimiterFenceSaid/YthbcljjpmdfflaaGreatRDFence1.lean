/-
 DFence: the row's closed cells, part 1.
-/
import Derived.Test.YthbcljjpmdfflaaGreatRows
import Derived.WalkKit
import Derived.ProofKit
import Derived.OpenShut
namespace Go.Proofs.YthbcljjpmdfflaaGreat.delimiterFence
open Go.ChangeShapes Go.WideShapes Go.ChangeAt Go.RowKit
set_option linter.unusedVariables false
set_option maxRecDepth 100000
theorem j12 : (Rows.delimiterFenceRow.named == Tryz.prog.varsNamed 3) = true := by kernel_rfl
theorem j13 : (Rows.delimiterFenceRow.maps == (Tryz.f3.params.toList ++ Rows.delimiterFenceSpec.plain.varTypes Tryz.prog).any (Tryz.prog.mapsRec ·)) = true := by kernel_rfl
theorem j14 : (Rows.delimiterFenceRow.ifaces == (Tryz.f3.params.toList ++ Rows.delimiterFenceSpec.plain.varTypes Tryz.prog).any (Tryz.prog.ifacesRec ·)) = true := by kernel_rfl
theorem j15 : (Rows.delimiterFenceRow.mapsOut == Tryz.prog.mapsAmong Tryz.f3.resultTypes.toList) = true := by kernel_rfl
theorem j16 : (Rows.delimiterFenceRow.loops == (Tryz.f3.params.toList ++ Rows.delimiterFenceSpec.plain.varTypes Tryz.prog).any (Tryz.prog.loopsFrom ·)) = true := by kernel_rfl
theorem j17 : (Rows.delimiterFenceRow.wideKeys == (Tryz.f3.params.toList ++ Rows.delimiterFenceSpec.plain.varTypes Tryz.prog ++ Tryz.f3.resultTypes.toList).any (Tryz.prog.wideKeysFrom ·)) = true := by kernel_rfl
theorem j18 : Rows.delimiterFenceSpec.vars.all (Tryz.prog.varReadable ·) = true := by kernel_rfl
theorem j19 : Tryz.f3.resultTypes.all (fun t => Tryz.prog.readableRec t && decide (t < Tryz.prog.types.size)) = true := by kernel_rfl
theorem j20 : (Rows.delimiterFenceRow.ifacesOut == Tryz.f3.resultTypes.toList.any (Tryz.prog.ifacesRec ·)) = true := by kernel_rfl
theorem j21 : (Rows.delimiterFenceRow.loopsOut == Tryz.f3.resultTypes.toList.any (Tryz.prog.loopsFrom ·)) = true := by kernel_rfl
theorem j29 : (Rows.delimiterFenceRow.pinned == Rows.delimiterFenceRow.pinnedBy) = true := by kernel_rfl
theorem j30 : (Rows.delimiterFenceRow.veiled == (Tryz.f3.params.toList ++ Rows.delimiterFenceSpec.plain.varTypes Tryz.prog ++ Tryz.f3.resultTypes.toList).any (Tryz.prog.veiledRec ·)) = true := by kernel_rfl
theorem j31 : Rows.delimiterFenceRow.veiledFits Tryz.prog Tryz.f3.params.toList (Tryz.f3.params.toList ++ Rows.delimiterFenceSpec.plain.varTypes Tryz.prog ++ Tryz.f3.resultTypes.toList) = true := by kernel_rfl
end Go.Proofs.YthbcljjpmdfflaaGreat.delimiterFence
