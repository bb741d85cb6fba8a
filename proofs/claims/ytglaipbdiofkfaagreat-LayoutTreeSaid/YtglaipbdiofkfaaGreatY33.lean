/- Part of the proof of layoutTree.proved. Conditions: none. -/
import Derived.Test.YtglaipbdiofkfaaGreatRows
import Derived.WalkKit
import Derived.ProofKit
import Derived.OpenShut
set_option linter.unusedVariables false
set_option linter.unusedSimpArgs false
set_option maxRecDepth 100000
set_option maxHeartbeats 16000000
open Go.Proofs.YtglaipbdiofkfaaGreat.Rows renaming layoutTreeRow→CL,layoutTreeSpec→Pv
open Go.Proofs.Tryz renaming f3→Ip,prog→AF
namespace Go.Proofs.YtglaipbdiofkfaaGreat.layoutTree
open Go.ChangeShapes Go.WideShapes Go.ChangeAt Go.RowKit
theorem j0:CL.wf (OpenSpec.ofChange Pv)=true:=by kernel_rfl
theorem j3:Ip.params.all (AF.readableRec ·)=true:=by kernel_rfl
theorem j4:namedTie AF CL.named Pv.vars=true:=by kernel_rfl
theorem j5:(CL.stops ==[])=true:=by kernel_rfl
theorem j7:(CL.knobs ==[])=true:=by kernel_rfl
theorem j9:(CL.inPlace==AF.inPlace 3)=true:=by kernel_rfl
theorem ZA:(CL.unfollowed==AF.unfollowed 3)=true:=by kernel_rfl
theorem ZB:(CL.recurses==AF.recurses 3)=true:=by kernel_rfl
end Go.Proofs.YtglaipbdiofkfaaGreat.layoutTree
namespace Go.Proofs.YtglaipbdiofkfaaGreat.layoutTree
open Go.ChangeShapes Go.WideShapes Go.ChangeAt Go.RowKit
theorem ZC:(CL.named==AF.varsNamed 3)=true:=by kernel_rfl
theorem ZD:(CL.maps==(Ip.params.toList++Pv.plain.varTypes AF).any (AF.mapsRec ·))=true:=by kernel_rfl
theorem ZE:(CL.ifaces==(Ip.params.toList++Pv.plain.varTypes AF).any (AF.ifacesRec ·))=true:=by kernel_rfl
theorem ZF:(CL.mapsOut==AF.mapsAmong Ip.resultTypes.toList)=true:=by kernel_rfl
theorem ZG:(CL.loops==(Ip.params.toList++Pv.plain.varTypes AF).any (AF.loopsFrom ·))=true:=by kernel_rfl
theorem ZH:(CL.wideKeys==(Ip.params.toList++Pv.plain.varTypes AF++Ip.resultTypes.toList).any (AF.wideKeysFrom ·))=true:=by kernel_rfl
theorem ZI:Pv.vars.all (AF.varReadable ·)=true:=by kernel_rfl
theorem ZJ:Ip.resultTypes.all (λt=>AF.readableRec t && decide (t<AF.types.size))=true:=by kernel_rfl
theorem ZK:(CL.ifacesOut==Ip.resultTypes.toList.any (AF.ifacesRec ·))=true:=by kernel_rfl
theorem ZL:(CL.loopsOut==Ip.resultTypes.toList.any (AF.loopsFrom ·))=true:=by kernel_rfl
theorem ZM:(CL.pinned==CL.pinnedBy)=true:=by kernel_rfl
theorem ZN:(CL.veiled==(Ip.params.toList++Pv.plain.varTypes AF++Ip.resultTypes.toList).any (AF.veiledRec ·))=true:=by kernel_rfl
theorem ZO:CL.veiledFits AF Ip.params.toList (Ip.params.toList++Pv.plain.varTypes AF++Ip.resultTypes.toList)=true:=by kernel_rfl
end Go.Proofs.YtglaipbdiofkfaaGreat.layoutTree
