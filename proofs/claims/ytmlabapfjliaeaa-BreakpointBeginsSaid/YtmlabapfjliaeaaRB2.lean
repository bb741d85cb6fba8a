/-
  What the rows ask of the program alone, part 2.
-/
import Derived.Test.YtmlabapfjliaeaaRows
import Derived.WalkKit
import Derived.ProofKit
import Derived.OpenShut
namespace Go.Proofs.Ytmlabapfjliaeaa
open Go.ChangeShapes Go.WideShapes Go.ChangeAt Go.RowKit
set_option linter.unusedVariables false
set_option maxRecDepth 100000
theorem q26 : (Rows.breakpointPlacesRow.lifted == Try.prog.liftsFinal) = true := by kernel_rfl
theorem q27 : (Try.prog.make == some Rows.breakpointPlacesRow.make) = true := by kernel_rfl
end Go.Proofs.Ytmlabapfjliaeaa
