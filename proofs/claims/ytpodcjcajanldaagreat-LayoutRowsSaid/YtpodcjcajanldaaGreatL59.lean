/- Part of the proof of layoutRows.proved. Conditions: none. (Joined and shortened by a program.) -/
import Derived.Test.YtpodcjcajanldaaGreatRows
import Derived.WalkKit
import Derived.ProofKit
import Derived.OpenShut
set_option linter.unusedVariables false
set_option linter.unusedSimpArgs false
set_option maxRecDepth 100000
set_option maxHeartbeats 16000000
open Go.Proofs.Tryz renaming f10→IQ,prog→AD
namespace Go.Proofs.YtpodcjcajanldaaGreat.layoutRows
open Go.ChangeShapes Go.WideShapes Go.ChangeAt Go.RowKit
theorem j0:Rows.layoutRowsRow.wf (OpenSpec.ofChange Rows.layoutRowsSpec)=true:=by kernel_rfl
theorem j3:IQ.params.all (AD.readableRec ·)=true:=by kernel_rfl
theorem j4:namedTie AD Rows.layoutRowsRow.named Rows.layoutRowsSpec.vars=true:=by kernel_rfl
theorem j5:(Rows.layoutRowsRow.stops ==[])=true:=by kernel_rfl
theorem j7:(Rows.layoutRowsRow.knobs ==[])=true:=by kernel_rfl
theorem j9:(Rows.layoutRowsRow.inPlace==AD.inPlace 10)=true:=by kernel_rfl
theorem Wv:(Rows.layoutRowsRow.unfollowed==AD.unfollowed 10)=true:=by kernel_rfl
theorem Ww:(Rows.layoutRowsRow.recurses==AD.recurses 10)=true:=by kernel_rfl
end Go.Proofs.YtpodcjcajanldaaGreat.layoutRows
namespace Go.Proofs.YtpodcjcajanldaaGreat.layoutRows
open Go.ChangeShapes Go.WideShapes Go.ChangeAt Go.RowKit
theorem Wx:(Rows.layoutRowsRow.named==AD.varsNamed 10)=true:=by kernel_rfl
theorem Wy:(Rows.layoutRowsRow.maps==(IQ.params.toList++Rows.layoutRowsSpec.plain.varTypes AD).any (AD.mapsRec ·))=true:=by kernel_rfl
theorem Wz:(Rows.layoutRowsRow.ifaces==(IQ.params.toList++Rows.layoutRowsSpec.plain.varTypes AD).any (AD.ifacesRec ·))=true:=by kernel_rfl
theorem W4:(Rows.layoutRowsRow.mapsOut==AD.mapsAmong IQ.resultTypes.toList)=true:=by kernel_rfl
theorem W6:(Rows.layoutRowsRow.loops==(IQ.params.toList++Rows.layoutRowsSpec.plain.varTypes AD).any (AD.loopsFrom ·))=true:=by kernel_rfl
theorem W8:(Rows.layoutRowsRow.wideKeys==(IQ.params.toList++Rows.layoutRowsSpec.plain.varTypes AD++IQ.resultTypes.toList).any (AD.wideKeysFrom ·))=true:=by kernel_rfl
theorem XA:Rows.layoutRowsSpec.vars.all (AD.varReadable ·)=true:=by kernel_rfl
theorem XB:IQ.resultTypes.all (fun t=>AD.readableRec t && decide (t<AD.types.size))=true:=by kernel_rfl
theorem XC:(Rows.layoutRowsRow.ifacesOut==IQ.resultTypes.toList.any (AD.ifacesRec ·))=true:=by kernel_rfl
theorem XD:(Rows.layoutRowsRow.loopsOut==IQ.resultTypes.toList.any (AD.loopsFrom ·))=true:=by kernel_rfl
theorem XE:(Rows.layoutRowsRow.pinned==Rows.layoutRowsRow.pinnedBy)=true:=by kernel_rfl
theorem XF:(Rows.layoutRowsRow.veiled==(IQ.params.toList++Rows.layoutRowsSpec.plain.varTypes AD++IQ.resultTypes.toList).any (AD.veiledRec ·))=true:=by kernel_rfl
theorem XG:Rows.layoutRowsRow.veiledFits AD IQ.params.toList (IQ.params.toList++Rows.layoutRowsSpec.plain.varTypes AD++IQ.resultTypes.toList)=true:=by kernel_rfl
end Go.Proofs.YtpodcjcajanldaaGreat.layoutRows
