/- Part of the proof of breakpointPieces.proved. Conditions: none. -/
import Derived.Test.YtegconioojpgmaaGreatRows
import Derived.WalkKit
import Derived.ProofKit
import Derived.OpenShut
set_option linter.unusedVariables false
set_option linter.unusedSimpArgs false
set_option maxRecDepth 100000
set_option maxHeartbeats 16000000
open Go.Proofs.YtegconioojpgmaaGreat.Rows renaming breakpointPiecesRow->GG,breakpointPiecesSpec->gN
open Go.Proofs.Tryz renaming f3->Ip,prog->AF
namespace Go.Proofs.YtegconioojpgmaaGreat.breakpointPieces
open Go.ChangeShapes Go.WideShapes Go.ChangeAt Go.RowKit
theorem j0:GG.wf (OpenSpec.ofChange gN)=true:=by kernel_rfl
theorem j3:Ip.params.all (AF.readableRec ·)=true:=by kernel_rfl
theorem j4:namedTie AF GG.named gN.vars=true:=by kernel_rfl
theorem j5:(GG.stops ==[])=true:=by kernel_rfl
theorem j7:(GG.knobs ==[])=true:=by kernel_rfl
theorem j9:(GG.inPlace==AF.inPlace 3)=true:=by kernel_rfl
theorem Ato:(GG.unfollowed==AF.unfollowed 3)=true:=by kernel_rfl
theorem Atp:(GG.recurses==AF.recurses 3)=true:=by kernel_rfl
end Go.Proofs.YtegconioojpgmaaGreat.breakpointPieces
namespace Go.Proofs.YtegconioojpgmaaGreat.breakpointPieces
open Go.ChangeShapes Go.WideShapes Go.ChangeAt Go.RowKit
theorem Atq:(GG.named==AF.varsNamed 3)=true:=by kernel_rfl
theorem ZD:(GG.maps==(Ip.params.toList++gN.plain.varTypes AF).any (AF.mapsRec ·))=true:=by kernel_rfl
theorem ZE:(GG.ifaces==(Ip.params.toList++gN.plain.varTypes AF).any (AF.ifacesRec ·))=true:=by kernel_rfl
theorem ZF:(GG.mapsOut==AF.mapsAmong Ip.resultTypes.toList)=true:=by kernel_rfl
theorem ZG:(GG.loops==(Ip.params.toList++gN.plain.varTypes AF).any (AF.loopsFrom ·))=true:=by kernel_rfl
theorem ZH:(GG.wideKeys==(Ip.params.toList++gN.plain.varTypes AF++Ip.resultTypes.toList).any (AF.wideKeysFrom ·))=true:=by kernel_rfl
theorem ZI:gN.vars.all (AF.varReadable ·)=true:=by kernel_rfl
theorem ZJ:Ip.resultTypes.all (λt=>AF.readableRec t && decide (t<AF.types.size))=true:=by kernel_rfl
theorem ZK:(GG.ifacesOut==Ip.resultTypes.toList.any (AF.ifacesRec ·))=true:=by kernel_rfl
theorem ZL:(GG.loopsOut==Ip.resultTypes.toList.any (AF.loopsFrom ·))=true:=by kernel_rfl
theorem ZM:(GG.pinned==GG.pinnedBy)=true:=by kernel_rfl
theorem ZN:(GG.veiled==(Ip.params.toList++gN.plain.varTypes AF++Ip.resultTypes.toList).any (AF.veiledRec ·))=true:=by kernel_rfl
theorem ZO:GG.veiledFits AF Ip.params.toList (Ip.params.toList++gN.plain.varTypes AF++Ip.resultTypes.toList)=true:=by kernel_rfl
end Go.Proofs.YtegconioojpgmaaGreat.breakpointPieces
