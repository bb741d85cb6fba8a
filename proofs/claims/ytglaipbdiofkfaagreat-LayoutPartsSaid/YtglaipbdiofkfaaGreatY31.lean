/- Part of the proof of layoutParts.proved. Conditions: none. -/
import Derived.Test.YtglaipbdiofkfaaGreatY29
set_option linter.unusedVariables false
set_option linter.unusedSimpArgs false
set_option maxRecDepth 100000
set_option maxHeartbeats 16000000
open Go.Proofs.Tryz renaming prog→AF
open List renaming length→G
namespace Go.Proofs.YtglaipbdiofkfaaGreat
open Go.RowKit Tryz
variable {fuel:Nat}
section
variable {H:Type} {enc:TypeId×Value->H} {w:World}
theorem AmL :Dq enc AF w fuel 39 (λl:List Int=>[.sl (l.map λn=>[.int .i64 n])]) (λl=>G l<=maxLen/\∀a∈l,True):=by
 cases fuel with
 | zero=>exact Dq.zero
 | succ fuel=>exact dq (n:=1) underlying39 (by kernel_rfl) (by decide) (Ge underlying3)
theorem AmK :Dq enc AF w fuel 49 (λq:List Int×Aa=>[AV q.1,.int .i64 q.2.By,.bool q.2.Hd]) (λq=>q.1.length<=maxLen):=by
 cases fuel with
 | zero=>exact Dq.zero
 | succ fuel=>exact(VJ underlying49 (by kernel_rfl) (C6.cons (o:=0) (o':=1) rfl (by kernel_rfl) (by decide) AmL (C6.cons (o:=1) (o':=3) rfl (by kernel_rfl) (by decide) AjP (C6.nil)))).conv (λq=>⟨q.1,q.2.1⟩) (λq=>rfl) (λq h=>h.1.1)
end
end Go.Proofs.YtglaipbdiofkfaaGreat
