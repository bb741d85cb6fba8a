/- Part of the proof of layoutSources.proved and layoutRows.proved. Conditions: none. (Joined and shortened by a program.) -/
import Derived.Test.YtpodcjcajanldaaGreatL47
set_option linter.unusedVariables false
set_option linter.unusedSimpArgs false
set_option maxRecDepth 100000
set_option maxHeartbeats 16000000
open Bool renaming and_eq_true→An
namespace Go.Proofs.YtpodcjcajanldaaGreat
open Go.RowKit
section
variable {g:Int->List Int->List Int} {p q:Int->List Int->Bool}
theorem lz : ∀l:List AA,AA.GN g l=l.map (AA.A7 g)
 | []=>rfl
 | b::l=>by simp only[AA.GN,List.map_cons,lz l]
mutual
theorem lx : ∀b:AA,b.A7 (fun _ s=>s)=b
 | ⟨_,_,_,_,_,_,_,_,kids,o,src⟩=>by simp only[AA.A7,ADY kids]
theorem ADY : ∀l:List AA,AA.GN (fun _ s=>s) l=l
 | []=>rfl
 | b::l=>by simp only[AA.GN,lx b,ADY l]
end
theorem ug (l:List AA):(AA.GN g l).length=l.length:=by rw[lz,List.length_map]
end
section
variable {g:Int->List Int->List Int}
mutual
theorem et : ∀b:AA,b.cnt<=20000->b.CM (fun o s=>decide ((g o s).length<=1000))=true->(b.A7 g).fit
 | ⟨_,_,_,_,_,_,_,_,kids,o,src⟩,hc,h=>by
   simp only[AA.CM,An,decide_eq_true_eq]at h;simp only[AA.cnt]at hc;have hl:=OY kids;simp only[AA.A7,AA.fit,ug];exact⟨by unfold maxLen;omega,by have:=h.1;unfold maxLen;omega,ADX kids (by omega) h.2⟩
theorem ADX : ∀l:List AA,AA.A9 l<=20000->AA.Ca (fun o s=>decide ((g o s).length<=1000)) l=true->AA.fits (AA.GN g l)
 | [],hc,h=>trivial
 | b::l,hc,h=>by
   simp only[AA.Ca,An]at h;simp only[AA.A9]at hc;exact⟨et b (by omega) h.1,ADX l (by omega) h.2⟩
end
end
end Go.Proofs.YtpodcjcajanldaaGreat
