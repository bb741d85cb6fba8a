/-
  What the rows ask of the program alone, part 0.
-/
import Derived.Test.YtnpenchciinmmaaGreatRows
import Derived.WalkKit
import Derived.ProofKit
import Derived.OpenShut
namespace Go.Proofs.YtnpenchciinmmaaGreat
open Go.ChangeShapes Go.WideShapes Go.ChangeAt Go.RowKit
set_option linter.unusedVariables false
set_option maxRecDepth 100000
theorem q1 : laidOutB Tryz.prog = true := by kernel_rfl
theorem q2 : mapsRowed Tryz.prog = true := by kernel_rfl
theorem q6 : (Tryz.prog.stops == []) = true := by kernel_rfl
theorem q8 : (Tryz.prog.stopKnobs == []) = true := by kernel_rfl
theorem q22 : (Rows.relayoutNilRow.plainKeys == Tryz.prog.plainKeys) = true := by kernel_rfl
theorem q23 : Rows.relayoutNilRow.shortTexts.isNone = true := by kernel_rfl
end Go.Proofs.YtnpenchciinmmaaGreat
