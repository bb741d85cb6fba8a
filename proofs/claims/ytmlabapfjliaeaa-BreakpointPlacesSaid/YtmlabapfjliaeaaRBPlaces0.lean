/-
  BPlaces: the row's closed cells, part 0.
-/
import Derived.Test.YtmlabapfjliaeaaRows
import Derived.WalkKit
import Derived.ProofKit
import Derived.OpenShut
namespace Go.Proofs.Ytmlabapfjliaeaa.breakpointPlaces
open Go.ChangeShapes Go.WideShapes Go.ChangeAt Go.RowKit
set_option linter.unusedVariables false
set_option maxRecDepth 100000
theorem j0 : Rows.breakpointPlacesRow.wf (OpenSpec.ofChange Rows.breakpointPlacesSpec) = true := by kernel_rfl
theorem j3 : Try.f3.params.all (Try.prog.readableRec ·) = true := by kernel_rfl
theorem j4 : namedTie Try.prog Rows.breakpointPlacesRow.named Rows.breakpointPlacesSpec.vars = true := by kernel_rfl
theorem j5 : (Rows.breakpointPlacesRow.stops == []) = true := by kernel_rfl
theorem j7 : (Rows.breakpointPlacesRow.knobs == []) = true := by kernel_rfl
theorem j9 : (Rows.breakpointPlacesRow.inPlace == Try.prog.inPlace 3) = true := by kernel_rfl
theorem j10 : (Rows.breakpointPlacesRow.unfollowed == Try.prog.unfollowed 3) = true := by kernel_rfl
theorem j11 : (Rows.breakpointPlacesRow.recurses == Try.prog.recurses 3) = true := by kernel_rfl
end Go.Proofs.Ytmlabapfjliaeaa.breakpointPlaces
