/-
  BBegins: the row's closed cells, part 0.
-/
import Derived.Test.YtmlabapfjliaeaaRows
import Derived.WalkKit
import Derived.ProofKit
import Derived.OpenShut
namespace Go.Proofs.Ytmlabapfjliaeaa.breakpointBegins
open Go.ChangeShapes Go.WideShapes Go.ChangeAt Go.RowKit
set_option linter.unusedVariables false
set_option maxRecDepth 100000
theorem j0 : Rows.breakpointBeginsRow.wf (OpenSpec.ofChange Rows.breakpointBeginsSpec) = true := by kernel_rfl
theorem j3 : Try.f5.params.all (Try.prog.readableRec ·) = true := by kernel_rfl
theorem j4 : namedTie Try.prog Rows.breakpointBeginsRow.named Rows.breakpointBeginsSpec.vars = true := by kernel_rfl
theorem j5 : (Rows.breakpointBeginsRow.stops == []) = true := by kernel_rfl
theorem j7 : (Rows.breakpointBeginsRow.knobs == []) = true := by kernel_rfl
theorem j9 : (Rows.breakpointBeginsRow.inPlace == Try.prog.inPlace 5) = true := by kernel_rfl
theorem j10 : (Rows.breakpointBeginsRow.unfollowed == Try.prog.unfollowed 5) = true := by kernel_rfl
theorem j11 : (Rows.breakpointBeginsRow.recurses == Try.prog.recurses 5) = true := by kernel_rfl
end Go.Proofs.Ytmlabapfjliaeaa.breakpointBegins
