/- Part of the proof of layoutSources.proved. Conditions: none. (Joined and shortened by a program.) -/
import Derived.Test.YtpodcjcajanldaaGreatRows
import Derived.WalkKit
import Derived.ProofKit
import Derived.OpenShut
set_option linter.unusedVariables false
set_option linter.unusedSimpArgs false
set_option maxRecDepth 100000
set_option maxHeartbeats 16000000
open Go.Proofs.Tryz renaming f6→IU,prog→AD
namespace Go.Proofs.YtpodcjcajanldaaGreat.layoutSources
open Go.ChangeShapes Go.WideShapes Go.ChangeAt Go.RowKit
theorem j0:Rows.layoutSourcesRow.wf (OpenSpec.ofChange Rows.layoutSourcesSpec)=true:=by kernel_rfl
theorem j3:IU.params.all (AD.readableRec ·)=true:=by kernel_rfl
theorem j4:namedTie AD Rows.layoutSourcesRow.named Rows.layoutSourcesSpec.vars=true:=by kernel_rfl
theorem j5:(Rows.layoutSourcesRow.stops ==[])=true:=by kernel_rfl
theorem j7:(Rows.layoutSourcesRow.knobs ==[])=true:=by kernel_rfl
theorem j9:(Rows.layoutSourcesRow.inPlace==AD.inPlace 6)=true:=by kernel_rfl
theorem Wv:(Rows.layoutSourcesRow.unfollowed==AD.unfollowed 6)=true:=by kernel_rfl
theorem Ww:(Rows.layoutSourcesRow.recurses==AD.recurses 6)=true:=by kernel_rfl
end Go.Proofs.YtpodcjcajanldaaGreat.layoutSources
namespace Go.Proofs.YtpodcjcajanldaaGreat.layoutSources
open Go.ChangeShapes Go.WideShapes Go.ChangeAt Go.RowKit
theorem Wx:(Rows.layoutSourcesRow.named==AD.varsNamed 6)=true:=by kernel_rfl
theorem Wy:(Rows.layoutSourcesRow.maps==(IU.params.toList++Rows.layoutSourcesSpec.plain.varTypes AD).any (AD.mapsRec ·))=true:=by kernel_rfl
theorem Wz:(Rows.layoutSourcesRow.ifaces==(IU.params.toList++Rows.layoutSourcesSpec.plain.varTypes AD).any (AD.ifacesRec ·))=true:=by kernel_rfl
theorem W4:(Rows.layoutSourcesRow.mapsOut==AD.mapsAmong IU.resultTypes.toList)=true:=by kernel_rfl
theorem W6:(Rows.layoutSourcesRow.loops==(IU.params.toList++Rows.layoutSourcesSpec.plain.varTypes AD).any (AD.loopsFrom ·))=true:=by kernel_rfl
theorem W8:(Rows.layoutSourcesRow.wideKeys==(IU.params.toList++Rows.layoutSourcesSpec.plain.varTypes AD++IU.resultTypes.toList).any (AD.wideKeysFrom ·))=true:=by kernel_rfl
theorem XA:Rows.layoutSourcesSpec.vars.all (AD.varReadable ·)=true:=by kernel_rfl
theorem XB:IU.resultTypes.all (fun t=>AD.readableRec t && decide (t<AD.types.size))=true:=by kernel_rfl
theorem XC:(Rows.layoutSourcesRow.ifacesOut==IU.resultTypes.toList.any (AD.ifacesRec ·))=true:=by kernel_rfl
theorem XD:(Rows.layoutSourcesRow.loopsOut==IU.resultTypes.toList.any (AD.loopsFrom ·))=true:=by kernel_rfl
theorem XE:(Rows.layoutSourcesRow.pinned==Rows.layoutSourcesRow.pinnedBy)=true:=by kernel_rfl
theorem XF:(Rows.layoutSourcesRow.veiled==(IU.params.toList++Rows.layoutSourcesSpec.plain.varTypes AD++IU.resultTypes.toList).any (AD.veiledRec ·))=true:=by kernel_rfl
theorem XG:Rows.layoutSourcesRow.veiledFits AD IU.params.toList (IU.params.toList++Rows.layoutSourcesSpec.plain.varTypes AD++IU.resultTypes.toList)=true:=by kernel_rfl
end Go.Proofs.YtpodcjcajanldaaGreat.layoutSources
