/- Part of the proof of layoutSources.proved. Conditions: none. (Joined and shortened by a program.) -/
import Derived.Test.YtpodcjcajanldaaGreatL2
set_option linter.unusedVariables false
set_option linter.unusedSimpArgs false
set_option maxRecDepth 100000
set_option maxHeartbeats 16000000
open Go.Proofs.Tryz renaming prog→AD
namespace Go.Proofs.YtpodcjcajanldaaGreat
open Go.RowKit
@[simp] theorem Aaj : CE AD 61 0=some (0,1,false) :=by kernel_rfl
@[simp] theorem Aak : CE AD 61 1=some (1,2,true) :=by kernel_rfl
end Go.Proofs.YtpodcjcajanldaaGreat
