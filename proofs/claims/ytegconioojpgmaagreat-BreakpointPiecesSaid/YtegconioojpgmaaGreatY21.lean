/- Part of the proof of breakpointPieces.proved. Conditions: none. -/
import Derived.Test.YtegconioojpgmaaGreatRows
import Derived.WalkKit
import Derived.ProofKit
import Derived.OpenShut
set_option linter.unusedVariables false
set_option linter.unusedSimpArgs false
set_option maxRecDepth 100000
set_option maxHeartbeats 16000000
open Go.Proofs.Tryz renaming prog->AF
open Go.Proofs.YtegconioojpgmaaGreat.Rows renaming breakpointPiecesRow->GG
open Option renaming some->J
namespace Go.Proofs.YtegconioojpgmaaGreat
open Go.RowKit Proofs.Tryz
section
open Go.ChangeShapes Go.WideShapes Go.ChangeAt Go.RowKit
theorem q1:laidOutB AF=true:=by kernel_rfl
theorem q2:mapsRowed AF=true:=by kernel_rfl
theorem q6:(AF.stops ==[])=true:=by kernel_rfl
theorem q8:(AF.stopKnobs ==[])=true:=by kernel_rfl
theorem sO:(GG.plainKeys==AF.plainKeys)=true:=by kernel_rfl
theorem sP:GG.shortTexts.isNone=true:=by kernel_rfl
end
section
open Go.ChangeShapes Go.WideShapes Go.ChangeAt Go.RowKit
theorem sQ:AF.stopsHeard=true:=by kernel_rfl
theorem sR:AF.mayEnter=true:=by kernel_rfl
end
section
open Go.ChangeShapes Go.WideShapes Go.ChangeAt Go.RowKit
theorem sS:(GG.lifted==AF.liftsFinal)=true:=by kernel_rfl
theorem sT:(AF.make==J GG.make)=true:=by kernel_rfl
end
end Go.Proofs.YtegconioojpgmaaGreat
