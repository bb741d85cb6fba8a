/-
  What the rows ask of the program alone, part 0.
-/
import Derived.Test.YtmlabapfjliaeaaRows
import Derived.WalkKit
import Derived.ProofKit
import Derived.OpenShut
namespace Go.Proofs.Ytmlabapfjliaeaa
open Go.ChangeShapes Go.WideShapes Go.ChangeAt Go.RowKit
set_option linter.unusedVariables false
set_option maxRecDepth 100000
theorem q1 : laidOutB Try.prog = true := by kernel_rfl
theorem q2 : mapsRowed Try.prog = true := by kernel_rfl
theorem q6 : (Try.prog.stops == []) = true := by kernel_rfl
theorem q8 : (Try.prog.stopKnobs == []) = true := by kernel_rfl
theorem q22 : (Rows.breakpointPlacesRow.plainKeys == Try.prog.plainKeys) = true := by kernel_rfl
theorem q23 : Rows.breakpointPlacesRow.shortTexts.isNone = true := by kernel_rfl
end Go.Proofs.Ytmlabapfjliaeaa
