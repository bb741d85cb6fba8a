/- Part of the proof of breakpointLength.proved. Conditions: none. (Joined and shortened by a program.) -/
import Derived.Test.YtpodcjcajanldaaGreatP11
set_option linter.unusedVariables false
set_option linter.unusedSimpArgs false
set_option maxRecDepth 100000
set_option maxHeartbeats 16000000
namespace Go.Proofs.YtpodcjcajanldaaGreat
open Go.RowKit
mutual
def AA.Bc:AA->Prop
 | ⟨_,n,_,_,_,_,_,_,kids,_,src⟩=>n.size<=maxLen/\src.length<=maxLen/\AA.GB kids
def AA.GB:List AA->Prop
 | []=>True
 | b::l=>b.Bc/\AA.GB l
end
theorem vI : ∀ {l:List AA},AA.GB l->∀b∈l,b.Bc
 | [],_,b,h=>by cases h
 | x::l,hl,b,h=>by
   simp only[AA.GB]at hl;rcases List.mem_cons.1 h with rfl|h
   . exact hl.1
   . exact vI hl.2 b h
end Go.Proofs.YtpodcjcajanldaaGreat
