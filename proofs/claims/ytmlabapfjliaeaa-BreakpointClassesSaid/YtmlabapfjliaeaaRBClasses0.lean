/-
  BClasses: the row's closed cells, part 0.
-/
import Derived.Test.YtmlabapfjliaeaaRows
import Derived.WalkKit
import Derived.ProofKit
import Derived.OpenShut
namespace Go.Proofs.Ytmlabapfjliaeaa.breakpointClasses
open Go.ChangeShapes Go.WideShapes Go.ChangeAt Go.RowKit
set_option linter.unusedVariables false
set_option maxRecDepth 100000
theorem j0 : Rows.breakpointClassesRow.wf (OpenSpec.ofChange Rows.breakpointClassesSpec) = true := by kernel_rfl
theorem j3 : Try.f4.params.all (Try.prog.readableRec ·) = true := by kernel_rfl
theorem j4 : namedTie Try.prog Rows.breakpointClassesRow.named Rows.breakpointClassesSpec.vars = true := by kernel_rfl
theorem j5 : (Rows.breakpointClassesRow.stops == []) = true := by kernel_rfl
theorem j7 : (Rows.breakpointClassesRow.knobs == []) = true := by kernel_rfl
theorem j9 : (Rows.breakpointClassesRow.inPlace == Try.prog.inPlace 4) = true := by kernel_rfl
theorem j10 : (Rows.breakpointClassesRow.unfollowed == Try.prog.unfollowed 4) = true := by kernel_rfl
theorem j11 : (Rows.breakpointClassesRow.recurses == Try.prog.recurses 4) = true := by kernel_rfl
end Go.Proofs.Ytmlabapfjliaeaa.breakpointClasses
