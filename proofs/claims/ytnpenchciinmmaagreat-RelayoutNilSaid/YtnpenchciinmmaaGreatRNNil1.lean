/-
  NNil: the row's closed cells, part 1.
-/
import Derived.Test.YtnpenchciinmmaaGreatRows
import Derived.WalkKit
import Derived.ProofKit
import Derived.OpenShut
namespace Go.Proofs.YtnpenchciinmmaaGreat.relayoutNil
open Go.ChangeShapes Go.WideShapes Go.ChangeAt Go.RowKit
set_option linter.unusedVariables false
set_option maxRecDepth 100000
theorem j12 : (Rows.relayoutNilRow.named == Tryz.prog.varsNamed 3) = true := by kernel_rfl
theorem j13 : (Rows.relayoutNilRow.maps == (Tryz.f3.params.toList ++ Rows.relayoutNilSpec.plain.varTypes Tryz.prog).any (Tryz.prog.mapsRec ·)) = true := by kernel_rfl
theorem j14 : (Rows.relayoutNilRow.ifaces == (Tryz.f3.params.toList ++ Rows.relayoutNilSpec.plain.varTypes Tryz.prog).any (Tryz.prog.ifacesRec ·)) = true := by kernel_rfl
theorem j15 : (Rows.relayoutNilRow.mapsOut == Tryz.prog.mapsAmong Tryz.f3.resultTypes.toList) = true := by kernel_rfl
theorem j16 : (Rows.relayoutNilRow.loops == (Tryz.f3.params.toList ++ Rows.relayoutNilSpec.plain.varTypes Tryz.prog).any (Tryz.prog.loopsFrom ·)) = true := by kernel_rfl
theorem j17 : (Rows.relayoutNilRow.wideKeys == (Tryz.f3.params.toList ++ Rows.relayoutNilSpec.plain.varTypes Tryz.prog ++ Tryz.f3.resultTypes.toList).any (Tryz.prog.wideKeysFrom ·)) = true := by kernel_rfl
theorem j18 : Rows.relayoutNilSpec.vars.all (Tryz.prog.varReadable ·) = true := by kernel_rfl
theorem j19 : Tryz.f3.resultTypes.all (fun t => Tryz.prog.readableRec t && decide (t < Tryz.prog.types.size)) = true := by kernel_rfl
theorem j20 : (Rows.relayoutNilRow.ifacesOut == Tryz.f3.resultTypes.toList.any (Tryz.prog.ifacesRec ·)) = true := by kernel_rfl
theorem j21 : (Rows.relayoutNilRow.loopsOut == Tryz.f3.resultTypes.toList.any (Tryz.prog.loopsFrom ·)) = true := by kernel_rfl
theorem j29 : (Rows.relayoutNilRow.pinned == Rows.relayoutNilRow.pinnedBy) = true := by kernel_rfl
theorem j30 : (Rows.relayoutNilRow.veiled == (Tryz.f3.params.toList ++ Rows.relayoutNilSpec.plain.varTypes Tryz.prog ++ Tryz.f3.resultTypes.toList).any (Tryz.prog.veiledRec ·)) = true := by kernel_rfl
theorem j31 : Rows.relayoutNilRow.veiledFits Tryz.prog Tryz.f3.params.toList (Tryz.f3.params.toList ++ Rows.relayoutNilSpec.plain.varTypes Tryz.prog ++ Tryz.f3.resultTypes.toList) = true := by kernel_rfl
end Go.Proofs.YtnpenchciinmmaaGreat.relayoutNil
