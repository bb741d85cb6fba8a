/-
  What the rows ask of the program alone, part 1.
-/
import Derived.Test.YtnpenchciinmmaaGreatRows
import Derived.WalkKit
import Derived.ProofKit
import Derived.OpenShut
namespace Go.Proofs.YtnpenchciinmmaaGreat
open Go.ChangeShapes Go.WideShapes Go.ChangeAt Go.RowKit
set_option linter.unusedVariables false
set_option maxRecDepth 100000
theorem q24 : Tryz.prog.stopsHeard = true := by kernel_rfl
theorem q25 : Tryz.prog.mayEnter = true := by kernel_rfl
end Go.Proofs.YtnpenchciinmmaaGreat
