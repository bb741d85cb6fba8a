/- For every input the law breakpointPieces returns true, and its input reads behind the call as it read before. Conditions: none. (The texts of this claim were joined and shortened by a program.) -/
import Derived.Test.YtegconioojpgmaaGreatY20
import Derived.Test.YtegconioojpgmaaGreatY21
import Derived.Test.YtegconioojpgmaaGreatY22
set_option linter.unusedVariables false
set_option linter.unusedSimpArgs false
set_option maxRecDepth 100000
set_option maxHeartbeats 16000000
open Go.Proofs.Tryz renaming checked->RF,prog->AF,f3->Ip
open Go.Proofs.YtegconioojpgmaaGreat.Rows renaming breakpointPiecesSpec->gN,breakpointPiecesRow->GG
open Go.ChangeSpec renaming witness6->uD
open Option renaming some->J,none->E
open Bool renaming false->U,true->I
namespace Go.Proofs.YtegconioojpgmaaGreat.breakpointPieces
open Go.ChangeShapes Go.WideShapes Go.ChangeAt Go.RowKit
theorem lifted (os:Os)(K:os.Started)(H:Type)(enc:TypeId×Value->H) :
 ReturnsInHanded {} RF os 3 .any (gN.pre6 enc AF Ip GG.domain U) (gN.post enc AF Ip U I U U):=by
 refine returnsInHanded_of_change (C:=RF) own K (by kernel_rfl) Tryz.func3
  (uD (enc:=enc) (C:=RF) U ⟨#[],#[.agg #[.slice E 0 0,.slice E 0 0,.int .i64 0,.int .i64 0,.int .i64 0,.int .i64 0,.int .i64 0,.int .i64 0,.int .i64 0,.int .i64 0,.int .i64 0,.int .i64 0,.int .i64 0,.int .i64 0,.int .i64 0,.int .i64 0,.int .i64 0,.int .i64 0,.int .i64 0,.int .i64 0,.int .i64 0,.int .i64 0,.slice E 0 0],.agg #[.int .i64 0,.string ⟨#[]⟩,.int .i64 0,.slice E 0 0],.agg #[.int .i64 0,.bool U]],[]⟩ 8 (by kernel_rfl) (by kernel_rfl) (by kernel_rfl) (by kernel_rfl)) ?_
 intro W R args ds gs before R6 hW A0 _;have B : ∀(j:Nat) t v,Ip.params[j]?=J t->args[j]?=J v->Value.okWide AF W .any R t v:=R6;have QJ:=hW;obtain⟨p,q,z,hV,rfl,cm,TV⟩:=hW;have hA:DataW.TrodAll enc AF W 0 (λ_=>I) I Ip.params.toList args.toList ds p:=z;rw[Tryz.params3]at hA B;obtain⟨S,v1,M,d0,d1,d2,p0,p1,p2,rfl,rfl,rfl,h0,h1,h2⟩:=trodAll_three hA;clear z R6;obtain⟨x,o,c0⟩:=Qi Tryz.underlying30 (B 0 30 S rfl F) h0 (λ_=>sA);obtain⟨b,hb,c1⟩:=Qi Tryz.underlying33 (B 1 33 v1 rfl F) h1 (λ_=>km _);obtain⟨s,hs,c2⟩:=Qi Tryz.underlying35 (B 2 35 M rfl F) h2 (λ_=>AjP);exact rW (args:=#[S,v1,M]) (As6 x b s o.1 o.2.1 o.2.2 hb) (by
  simp only[AO];exact⟨S,[v1,M],F,c0,v1,[M],F,c1,M,[],F,c2,F⟩) (Q:=λv W'=>gN.post enc AF Ip U I U U W #[S,v1,M] v W') (λW' hk=>rX QJ rfl rfl Tryz.underlying4 laid hk (by
  rw[Tryz.params3];intro t ht;simp only[Cf,List.not_mem_nil,Awj]at ht;rcases ht with rfl|rfl|rfl<;>exact⟨by kernel_rfl,of_decide_eq_true (by kernel_rfl)⟩) rfl rfl rfl)
theorem closed:joinedFacts AF 3 Ip gN GG=true:=by
 have S:laidOutB AF=true:=q1;have o:mapsRowed AF=true:=q2;have q:(AF.stops ==[])=true:=q6;have z:(AF.stopKnobs ==[])=true:=q8;have B:(GG.plainKeys==AF.plainKeys)=true:=sO;have H:GG.shortTexts.isNone=true:=sP;have K:AF.stopsHeard=true:=sQ;have M:AF.mayEnter=true:=sR;have Q:(GG.lifted==AF.liftsFinal)=true:=sS;have R:(AF.make==J GG.make)=true:=sT;unfold joinedFacts;simp only[j0,S,o,j3,j4,j5,q,j7,z,j9,Ato,Atp,Atq,ZD,ZE,ZF,ZG,ZH,ZI,ZJ,ZK,ZL,B,H,K,M,Q,R,ZM,ZN,ZO,LW,Cd,Km];rfl
theorem over:GG.holds Tryz.pinned (OpenSpec.ofChange gN):=
 OpenClaim.holds_of_wide 3 Ip rfl rfl rfl rfl rfl rfl rfl ⟨rfl,rfl,rfl,rfl,rfl⟩ rfl rfl rfl rfl rfl (by kernel_rfl) Tryz.func3 closed
  (of_decide_eq_true (by kernel_rfl)) (by unfold Func.isWrapper;first|(rw[Awd (by decide +kernel)];kernel_rfl)|(rw[Awf (by decide +kernel)];exact⟨F,F⟩))
  (λos B H K _=>lifted os B H K)
theorem proved:Rows.BreakpointPiecesSaid:=
 over
#print axioms proved
end Go.Proofs.YtegconioojpgmaaGreat.breakpointPieces
