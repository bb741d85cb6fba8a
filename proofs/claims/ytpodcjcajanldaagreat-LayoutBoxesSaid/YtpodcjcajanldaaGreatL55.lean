/- Part of the proof of layoutBoxes.proved. Conditions: none. (Joined and shortened by a program.) -/
import Derived.Test.YtpodcjcajanldaaGreatRows
import Derived.WalkKit
import Derived.ProofKit
import Derived.OpenShut
set_option linter.unusedVariables false
set_option linter.unusedSimpArgs false
set_option maxRecDepth 100000
set_option maxHeartbeats 16000000
open Go.Proofs.Tryz renaming f4→IS,prog→AD
namespace Go.Proofs.YtpodcjcajanldaaGreat.layoutBoxes
open Go.ChangeShapes Go.WideShapes Go.ChangeAt Go.RowKit
theorem j0:Rows.layoutBoxesRow.wf (OpenSpec.ofChange Rows.layoutBoxesSpec)=true:=by kernel_rfl
theorem j3:IS.params.all (AD.readableRec ·)=true:=by kernel_rfl
theorem j4:namedTie AD Rows.layoutBoxesRow.named Rows.layoutBoxesSpec.vars=true:=by kernel_rfl
theorem j5:(Rows.layoutBoxesRow.stops ==[])=true:=by kernel_rfl
theorem j7:(Rows.layoutBoxesRow.knobs ==[])=true:=by kernel_rfl
theorem j9:(Rows.layoutBoxesRow.inPlace==AD.inPlace 4)=true:=by kernel_rfl
theorem Wv:(Rows.layoutBoxesRow.unfollowed==AD.unfollowed 4)=true:=by kernel_rfl
theorem Ww:(Rows.layoutBoxesRow.recurses==AD.recurses 4)=true:=by kernel_rfl
end Go.Proofs.YtpodcjcajanldaaGreat.layoutBoxes
namespace Go.Proofs.YtpodcjcajanldaaGreat.layoutBoxes
open Go.ChangeShapes Go.WideShapes Go.ChangeAt Go.RowKit
theorem Wx:(Rows.layoutBoxesRow.named==AD.varsNamed 4)=true:=by kernel_rfl
theorem Wy:(Rows.layoutBoxesRow.maps==(IS.params.toList++Rows.layoutBoxesSpec.plain.varTypes AD).any (AD.mapsRec ·))=true:=by kernel_rfl
theorem Wz:(Rows.layoutBoxesRow.ifaces==(IS.params.toList++Rows.layoutBoxesSpec.plain.varTypes AD).any (AD.ifacesRec ·))=true:=by kernel_rfl
theorem W4:(Rows.layoutBoxesRow.mapsOut==AD.mapsAmong IS.resultTypes.toList)=true:=by kernel_rfl
theorem W6:(Rows.layoutBoxesRow.loops==(IS.params.toList++Rows.layoutBoxesSpec.plain.varTypes AD).any (AD.loopsFrom ·))=true:=by kernel_rfl
theorem W8:(Rows.layoutBoxesRow.wideKeys==(IS.params.toList++Rows.layoutBoxesSpec.plain.varTypes AD++IS.resultTypes.toList).any (AD.wideKeysFrom ·))=true:=by kernel_rfl
theorem XA:Rows.layoutBoxesSpec.vars.all (AD.varReadable ·)=true:=by kernel_rfl
theorem XB:IS.resultTypes.all (fun t=>AD.readableRec t && decide (t<AD.types.size))=true:=by kernel_rfl
theorem XC:(Rows.layoutBoxesRow.ifacesOut==IS.resultTypes.toList.any (AD.ifacesRec ·))=true:=by kernel_rfl
theorem XD:(Rows.layoutBoxesRow.loopsOut==IS.resultTypes.toList.any (AD.loopsFrom ·))=true:=by kernel_rfl
theorem XE:(Rows.layoutBoxesRow.pinned==Rows.layoutBoxesRow.pinnedBy)=true:=by kernel_rfl
theorem XF:(Rows.layoutBoxesRow.veiled==(IS.params.toList++Rows.layoutBoxesSpec.plain.varTypes AD++IS.resultTypes.toList).any (AD.veiledRec ·))=true:=by kernel_rfl
theorem XG:Rows.layoutBoxesRow.veiledFits AD IS.params.toList (IS.params.toList++Rows.layoutBoxesSpec.plain.varTypes AD++IS.resultTypes.toList)=true:=by kernel_rfl
end Go.Proofs.YtpodcjcajanldaaGreat.layoutBoxes
