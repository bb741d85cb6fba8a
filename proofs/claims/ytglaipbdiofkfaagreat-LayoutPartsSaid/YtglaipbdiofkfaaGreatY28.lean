/- Part of the proof of some laws. Conditions: none. -/
import Derived.Test.YtglaipbdiofkfaaGreatRows
import Derived.WalkKit
import Derived.ProofKit
import Derived.OpenShut
set_option linter.unusedVariables false
set_option linter.unusedSimpArgs false
set_option maxRecDepth 100000
set_option maxHeartbeats 16000000
open Go.Proofs.Tryz renaming prog→AF
open Go.Proofs.YtglaipbdiofkfaaGreat.Rows renaming layoutTreeRow→CL
open Option renaming some→J
namespace Go.Proofs.YtglaipbdiofkfaaGreat
open Go.RowKit Proofs.Tryz
section
open Go.ChangeShapes Go.WideShapes Go.ChangeAt Go.RowKit
theorem q1:laidOutB AF=true:=by kernel_rfl
theorem q2:mapsRowed AF=true:=by kernel_rfl
theorem q6:(AF.stops ==[])=true:=by kernel_rfl
theorem q8:(AF.stopKnobs ==[])=true:=by kernel_rfl
theorem sO:(CL.plainKeys==AF.plainKeys)=true:=by kernel_rfl
theorem sP:CL.shortTexts.isNone=true:=by kernel_rfl
end
section
open Go.ChangeShapes Go.WideShapes Go.ChangeAt Go.RowKit
theorem sQ:AF.stopsHeard=true:=by kernel_rfl
theorem sR:AF.mayEnter=true:=by kernel_rfl
end
section
open Go.ChangeShapes Go.WideShapes Go.ChangeAt Go.RowKit
theorem sS:(CL.lifted==AF.liftsFinal)=true:=by kernel_rfl
theorem sT:(AF.make==J CL.make)=true:=by kernel_rfl
end
end Go.Proofs.YtglaipbdiofkfaaGreat
