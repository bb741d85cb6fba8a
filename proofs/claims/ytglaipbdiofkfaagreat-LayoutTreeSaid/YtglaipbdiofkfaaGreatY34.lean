/- Part of the proof of layoutTree.proved. Conditions: none. -/
import Derived.Test.YtglaipbdiofkfaaGreatY27
set_option linter.unusedVariables false
set_option linter.unusedSimpArgs false
set_option maxRecDepth 100000
set_option maxHeartbeats 16000000
open Go.Proofs.Tryz renaming prog→AF
open Bool renaming true→I
open List renaming length→G
namespace Go.Proofs.YtglaipbdiofkfaaGreat
open Go.RowKit Tryz
variable (x:Af)(n:Nd)(s:Aa)
theorem AmU (K:x.f.Fit)(M:G x.d<=300)(B : ∀e∈x.d,e.text.size<=maxLen)(Q:n.BX)(H:n.cnt<=80):AC AF 8 [.agg (HD x),Am n,Aj s] (Ob x s [] n):=by
 have h:=AjT x n [] s K M B Q H (Nat.zero_le _);obtain⟨b,e,R⟩:=AKU x s [] n;rw[R]at h ⊢;simp only[AV,List.map_nil,As,AR]at h ⊢;unfold Aj Am at *
 refine en func8 ntmps8 ?_;exact wz results8 (cj h<|trivial)
theorem Anu (K:x.f.Fit)(hl:G x.d<=maxLen)(S : ∀e∈x.d,e.text.size<=maxLen)(R:n.BX):AC AF 3 [.agg (HD x),Am n,Aj s] (.c (.bool I)):=by
 have o:=AcQ;have H:=APU x n 40 K hl R (by omega) (by omega);cases B:jA x n 40 with
 | false =>
   rw[B]at H;unfold Aj Am at *
   refine en func3 ntmps3 ?_;exact wz results3 (cj2 o H W)
 | true =>
   rw[B]at H;unfold jA at B;simp only[Bool.and_eq_true,decide_eq_true_eq]at B;have M:=AAc x n s K B.2.1 S R (by omega);have Q:=AmU x n s K B.2.1 S R (by omega);obtain⟨b,e,z,hr⟩:=Ajk (s:=s) (n:=n) (src:=[]) K B.2.1;have q:=AKO b z;rw[hr]at M Q;simp only[As,AR]at M Q q;unfold Aj Am at *
   refine en func3 ntmps3 ?_;exact wz results3 (cj5 o H M Q q W)
end Go.Proofs.YtglaipbdiofkfaaGreat
