/-
  What the rows ask of the program alone, part 2.
-/
import Derived.Test.YtnpenchciinmmaaGreatRows
import Derived.WalkKit
import Derived.ProofKit
import Derived.OpenShut
namespace Go.Proofs.YtnpenchciinmmaaGreat
open Go.ChangeShapes Go.WideShapes Go.ChangeAt Go.RowKit
set_option linter.unusedVariables false
set_option maxRecDepth 100000
theorem q26 : (Rows.relayoutNilRow.lifted == Tryz.prog.liftsFinal) = true := by kernel_rfl
theorem q27 : (Tryz.prog.make == some Rows.relayoutNilRow.make) = true := by kernel_rfl
end Go.Proofs.YtnpenchciinmmaaGreat
