/- Part of the proof of breakpointLength.proved. Conditions: none. (Joined and shortened by a program.) -/
import Derived.Test.YtpodcjcajanldaaGreatRows
import Derived.WalkKit
import Derived.ProofKit
import Derived.OpenShut
set_option linter.unusedVariables false
set_option linter.unusedSimpArgs false
set_option maxRecDepth 100000
set_option maxHeartbeats 16000000
open Go.Proofs.YtpodcjcajanldaaGreat.Rows renaming breakpointLengthRow→OR,breakpointLengthSpec→ck
open Go.Proofs.Tryz renaming f12→PS,prog→AD
namespace Go.Proofs.YtpodcjcajanldaaGreat.breakpointLength
open Go.ChangeShapes Go.WideShapes Go.ChangeAt Go.RowKit
theorem j0:OR.wf (OpenSpec.ofChange ck)=true:=by kernel_rfl
theorem j3:PS.params.all (AD.readableRec ·)=true:=by kernel_rfl
theorem j4:namedTie AD OR.named ck.vars=true:=by kernel_rfl
theorem j5:(OR.stops ==[])=true:=by kernel_rfl
theorem j7:(OR.knobs ==[])=true:=by kernel_rfl
theorem j9:(OR.inPlace==AD.inPlace 12)=true:=by kernel_rfl
theorem Wv:(OR.unfollowed==AD.unfollowed 12)=true:=by kernel_rfl
theorem Ww:(OR.recurses==AD.recurses 12)=true:=by kernel_rfl
end Go.Proofs.YtpodcjcajanldaaGreat.breakpointLength
namespace Go.Proofs.YtpodcjcajanldaaGreat.breakpointLength
open Go.ChangeShapes Go.WideShapes Go.ChangeAt Go.RowKit
theorem Wx:(OR.named==AD.varsNamed 12)=true:=by kernel_rfl
theorem Wy:(OR.maps==(PS.params.toList++ck.plain.varTypes AD).any (AD.mapsRec ·))=true:=by kernel_rfl
theorem Wz:(OR.ifaces==(PS.params.toList++ck.plain.varTypes AD).any (AD.ifacesRec ·))=true:=by kernel_rfl
theorem W4:(OR.mapsOut==AD.mapsAmong PS.resultTypes.toList)=true:=by kernel_rfl
theorem W6:(OR.loops==(PS.params.toList++ck.plain.varTypes AD).any (AD.loopsFrom ·))=true:=by kernel_rfl
theorem W8:(OR.wideKeys==(PS.params.toList++ck.plain.varTypes AD++PS.resultTypes.toList).any (AD.wideKeysFrom ·))=true:=by kernel_rfl
theorem XA:ck.vars.all (AD.varReadable ·)=true:=by kernel_rfl
theorem XB:PS.resultTypes.all (fun t=>AD.readableRec t && decide (t<AD.types.size))=true:=by kernel_rfl
theorem XC:(OR.ifacesOut==PS.resultTypes.toList.any (AD.ifacesRec ·))=true:=by kernel_rfl
theorem XD:(OR.loopsOut==PS.resultTypes.toList.any (AD.loopsFrom ·))=true:=by kernel_rfl
theorem XE:(OR.pinned==OR.pinnedBy)=true:=by kernel_rfl
theorem XF:(OR.veiled==(PS.params.toList++ck.plain.varTypes AD++PS.resultTypes.toList).any (AD.veiledRec ·))=true:=by kernel_rfl
theorem XG:OR.veiledFits AD PS.params.toList (PS.params.toList++ck.plain.varTypes AD++PS.resultTypes.toList)=true:=by kernel_rfl
end Go.Proofs.YtpodcjcajanldaaGreat.breakpointLength
