/- Part of the proof of layoutAdvance.proved. Conditions: none. (Joined and shortened by a program.) -/
import Derived.Test.YtpodcjcajanldaaGreatRows
import Derived.WalkKit
import Derived.ProofKit
import Derived.OpenShut
set_option linter.unusedVariables false
set_option linter.unusedSimpArgs false
set_option maxRecDepth 100000
set_option maxHeartbeats 16000000
open Go.Proofs.Tryz renaming f5→IT,prog→AD
namespace Go.Proofs.YtpodcjcajanldaaGreat.layoutAdvance
open Go.ChangeShapes Go.WideShapes Go.ChangeAt Go.RowKit
theorem j0:Rows.layoutAdvanceRow.wf (OpenSpec.ofChange Rows.layoutAdvanceSpec)=true:=by kernel_rfl
theorem j3:IT.params.all (AD.readableRec ·)=true:=by kernel_rfl
theorem j4:namedTie AD Rows.layoutAdvanceRow.named Rows.layoutAdvanceSpec.vars=true:=by kernel_rfl
theorem j5:(Rows.layoutAdvanceRow.stops ==[])=true:=by kernel_rfl
theorem j7:(Rows.layoutAdvanceRow.knobs ==[])=true:=by kernel_rfl
theorem j9:(Rows.layoutAdvanceRow.inPlace==AD.inPlace 5)=true:=by kernel_rfl
theorem Wv:(Rows.layoutAdvanceRow.unfollowed==AD.unfollowed 5)=true:=by kernel_rfl
theorem Ww:(Rows.layoutAdvanceRow.recurses==AD.recurses 5)=true:=by kernel_rfl
end Go.Proofs.YtpodcjcajanldaaGreat.layoutAdvance
namespace Go.Proofs.YtpodcjcajanldaaGreat.layoutAdvance
open Go.ChangeShapes Go.WideShapes Go.ChangeAt Go.RowKit
theorem Wx:(Rows.layoutAdvanceRow.named==AD.varsNamed 5)=true:=by kernel_rfl
theorem Wy:(Rows.layoutAdvanceRow.maps==(IT.params.toList++Rows.layoutAdvanceSpec.plain.varTypes AD).any (AD.mapsRec ·))=true:=by kernel_rfl
theorem Wz:(Rows.layoutAdvanceRow.ifaces==(IT.params.toList++Rows.layoutAdvanceSpec.plain.varTypes AD).any (AD.ifacesRec ·))=true:=by kernel_rfl
theorem W4:(Rows.layoutAdvanceRow.mapsOut==AD.mapsAmong IT.resultTypes.toList)=true:=by kernel_rfl
theorem W6:(Rows.layoutAdvanceRow.loops==(IT.params.toList++Rows.layoutAdvanceSpec.plain.varTypes AD).any (AD.loopsFrom ·))=true:=by kernel_rfl
theorem W8:(Rows.layoutAdvanceRow.wideKeys==(IT.params.toList++Rows.layoutAdvanceSpec.plain.varTypes AD++IT.resultTypes.toList).any (AD.wideKeysFrom ·))=true:=by kernel_rfl
theorem XA:Rows.layoutAdvanceSpec.vars.all (AD.varReadable ·)=true:=by kernel_rfl
theorem XB:IT.resultTypes.all (fun t=>AD.readableRec t && decide (t<AD.types.size))=true:=by kernel_rfl
theorem XC:(Rows.layoutAdvanceRow.ifacesOut==IT.resultTypes.toList.any (AD.ifacesRec ·))=true:=by kernel_rfl
theorem XD:(Rows.layoutAdvanceRow.loopsOut==IT.resultTypes.toList.any (AD.loopsFrom ·))=true:=by kernel_rfl
theorem XE:(Rows.layoutAdvanceRow.pinned==Rows.layoutAdvanceRow.pinnedBy)=true:=by kernel_rfl
theorem XF:(Rows.layoutAdvanceRow.veiled==(IT.params.toList++Rows.layoutAdvanceSpec.plain.varTypes AD++IT.resultTypes.toList).any (AD.veiledRec ·))=true:=by kernel_rfl
theorem XG:Rows.layoutAdvanceRow.veiledFits AD IT.params.toList (IT.params.toList++Rows.layoutAdvanceSpec.plain.varTypes AD++IT.resultTypes.toList)=true:=by kernel_rfl
end Go.Proofs.YtpodcjcajanldaaGreat.layoutAdvance
