/- Part of the proof of layoutParts.proved. Conditions: none. -/
import Derived.Test.YtglaipbdiofkfaaGreatRows
import Derived.WalkKit
import Derived.ProofKit
import Derived.OpenShut
set_option linter.unusedVariables false
set_option linter.unusedSimpArgs false
set_option maxRecDepth 100000
set_option maxHeartbeats 16000000
open Go.Proofs.YtglaipbdiofkfaaGreat.Rows renaming layoutPartsRow→CX,layoutPartsSpec→Pu
open Go.Proofs.Tryz renaming f4→It,prog→AF
namespace Go.Proofs.YtglaipbdiofkfaaGreat.layoutParts
open Go.ChangeShapes Go.WideShapes Go.ChangeAt Go.RowKit
theorem j0:CX.wf (OpenSpec.ofChange Pu)=true:=by kernel_rfl
theorem j3:It.params.all (AF.readableRec ·)=true:=by kernel_rfl
theorem j4:namedTie AF CX.named Pu.vars=true:=by kernel_rfl
theorem j5:(CX.stops ==[])=true:=by kernel_rfl
theorem j7:(CX.knobs ==[])=true:=by kernel_rfl
theorem j9:(CX.inPlace==AF.inPlace 4)=true:=by kernel_rfl
theorem ZA:(CX.unfollowed==AF.unfollowed 4)=true:=by kernel_rfl
theorem ZB:(CX.recurses==AF.recurses 4)=true:=by kernel_rfl
end Go.Proofs.YtglaipbdiofkfaaGreat.layoutParts
namespace Go.Proofs.YtglaipbdiofkfaaGreat.layoutParts
open Go.ChangeShapes Go.WideShapes Go.ChangeAt Go.RowKit
theorem ZC:(CX.named==AF.varsNamed 4)=true:=by kernel_rfl
theorem ZD:(CX.maps==(It.params.toList++Pu.plain.varTypes AF).any (AF.mapsRec ·))=true:=by kernel_rfl
theorem ZE:(CX.ifaces==(It.params.toList++Pu.plain.varTypes AF).any (AF.ifacesRec ·))=true:=by kernel_rfl
theorem ZF:(CX.mapsOut==AF.mapsAmong It.resultTypes.toList)=true:=by kernel_rfl
theorem ZG:(CX.loops==(It.params.toList++Pu.plain.varTypes AF).any (AF.loopsFrom ·))=true:=by kernel_rfl
theorem ZH:(CX.wideKeys==(It.params.toList++Pu.plain.varTypes AF++It.resultTypes.toList).any (AF.wideKeysFrom ·))=true:=by kernel_rfl
theorem ZI:Pu.vars.all (AF.varReadable ·)=true:=by kernel_rfl
theorem ZJ:It.resultTypes.all (λt=>AF.readableRec t && decide (t<AF.types.size))=true:=by kernel_rfl
theorem ZK:(CX.ifacesOut==It.resultTypes.toList.any (AF.ifacesRec ·))=true:=by kernel_rfl
theorem ZL:(CX.loopsOut==It.resultTypes.toList.any (AF.loopsFrom ·))=true:=by kernel_rfl
theorem ZM:(CX.pinned==CX.pinnedBy)=true:=by kernel_rfl
theorem ZN:(CX.veiled==(It.params.toList++Pu.plain.varTypes AF++It.resultTypes.toList).any (AF.veiledRec ·))=true:=by kernel_rfl
theorem ZO:CX.veiledFits AF It.params.toList (It.params.toList++Pu.plain.varTypes AF++It.resultTypes.toList)=true:=by kernel_rfl
end Go.Proofs.YtglaipbdiofkfaaGreat.layoutParts
