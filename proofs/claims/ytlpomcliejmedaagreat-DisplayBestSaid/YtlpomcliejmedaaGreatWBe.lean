/- For every input the law displayBest returns true, and its input reads behind the call as it read before. Conditions: none. -/
import Derived.Test.YtlpomcliejmedaaGreatRows
import Derived.WalkKit
import Derived.ProofKit
import Derived.OpenShut
import Derived.Test.YtlpomcliejmedaaGreatW14
set_option linter.unusedVariables false
set_option linter.unusedSimpArgs false
set_option maxRecDepth 100000
set_option maxHeartbeats 16000000
open Go.Proofs.Tryz renaming prog→AF,f9→IP,checked→RF
open Go.Proofs.YtlpomcliejmedaaGreat.Rows renaming displayApartRow→G0,displayBestRow→GG,displayBestSpec→KK
open Go.ChangeSpec renaming witness6→uD
namespace Go.Proofs.YtlpomcliejmedaaGreat
open Go.RowKit Proofs.Tryz
section
open Go.ChangeShapes Go.WideShapes Go.ChangeAt Go.RowKit
theorem q1:laidOutB AF=true:=by kernel_rfl
theorem q2:mapsRowed AF=true:=by kernel_rfl
theorem q6:(AF.stops ==[])=true:=by kernel_rfl
theorem q8:(AF.stopKnobs ==[])=true:=by kernel_rfl
theorem sO:(G0.plainKeys==AF.plainKeys)=true:=by kernel_rfl
theorem sP:G0.shortTexts.isNone=true:=by kernel_rfl
end
section
open Go.ChangeShapes Go.WideShapes Go.ChangeAt Go.RowKit
theorem sQ:AF.stopsHeard=true:=by kernel_rfl
theorem sR:AF.mayEnter=true:=by kernel_rfl
end
section
open Go.ChangeShapes Go.WideShapes Go.ChangeAt Go.RowKit
theorem sS:(G0.lifted==AF.liftsFinal)=true:=by kernel_rfl
theorem sT:(AF.make==some G0.make)=true:=by kernel_rfl
end
end Go.Proofs.YtlpomcliejmedaaGreat
namespace Go.Proofs.YtlpomcliejmedaaGreat.displayBest
open Go.ChangeShapes Go.WideShapes Go.ChangeAt Go.RowKit
theorem j0:GG.wf (OpenSpec.ofChange KK)=true:=by kernel_rfl
theorem j3:IP.params.all (AF.readableRec ·)=true:=by kernel_rfl
theorem j4:namedTie AF GG.named KK.vars=true:=by kernel_rfl
theorem j5:(GG.stops ==[])=true:=by kernel_rfl
theorem j7:(GG.knobs ==[])=true:=by kernel_rfl
theorem j9:(GG.inPlace==AF.inPlace 9)=true:=by kernel_rfl
theorem ZA:(GG.unfollowed==AF.unfollowed 9)=true:=by kernel_rfl
theorem ZB:(GG.recurses==AF.recurses 9)=true:=by kernel_rfl
theorem ZC:(GG.named==AF.varsNamed 9)=true:=by kernel_rfl
theorem ZD:(GG.maps==(IP.params.toList++KK.plain.varTypes AF).any (AF.mapsRec ·))=true:=by kernel_rfl
theorem ZE:(GG.ifaces==(IP.params.toList++KK.plain.varTypes AF).any (AF.ifacesRec ·))=true:=by kernel_rfl
theorem ZF:(GG.mapsOut==AF.mapsAmong IP.resultTypes.toList)=true:=by kernel_rfl
theorem ZG:(GG.loops==(IP.params.toList++KK.plain.varTypes AF).any (AF.loopsFrom ·))=true:=by kernel_rfl
theorem ZH:(GG.wideKeys==(IP.params.toList++KK.plain.varTypes AF++IP.resultTypes.toList).any (AF.wideKeysFrom ·))=true:=by kernel_rfl
theorem ZI:KK.vars.all (AF.varReadable ·)=true:=by kernel_rfl
theorem ZJ:IP.resultTypes.all (λt=>AF.readableRec t && decide (t<AF.types.size))=true:=by kernel_rfl
theorem ZK:(GG.ifacesOut==IP.resultTypes.toList.any (AF.ifacesRec ·))=true:=by kernel_rfl
theorem ZL:(GG.loopsOut==IP.resultTypes.toList.any (AF.loopsFrom ·))=true:=by kernel_rfl
theorem ZM:(GG.pinned==GG.pinnedBy)=true:=by kernel_rfl
theorem ZN:(GG.veiled==(IP.params.toList++KK.plain.varTypes AF++IP.resultTypes.toList).any (AF.veiledRec ·))=true:=by kernel_rfl
theorem ZO:GG.veiledFits AF IP.params.toList (IP.params.toList++KK.plain.varTypes AF++IP.resultTypes.toList)=true:=by kernel_rfl
theorem lifted (os:Os)(E:os.Started)(H:Type)(enc:TypeId×Value->H) :
 ReturnsInHanded {} RF os 9 .any (KK.pre6 enc AF IP GG.domain false) (KK.post enc AF IP false true false false):=by
 refine returnsInHanded_of_change (C:=RF) own E (by kernel_rfl) Tryz.func9
  (uD (enc:=enc) (C:=RF) false ⟨#[],#[.agg (#[.slice none 0 0,.slice none 0 0]++Array.replicate 20 (.int .i64 0)++#[.slice none 0 0]),.agg #[.int .i64 0,.string ⟨#[]⟩,.int .i64 0,.slice none 0 0],.agg #[.int .i64 0,.string ⟨#[]⟩]],[]⟩ 8 (by kernel_rfl) (by kernel_rfl) (by kernel_rfl) (by kernel_rfl)) ?_
 intro W G args ds gs before M U o _;have B : ∀(j:Nat) t v,IP.params[j]?=some t->args[j]?=some v->Value.okWide AF W .any G t v:=M;have QJ:=U;obtain⟨p,q,K,hV,rfl,cm,TV⟩:=U;have S:DataW.TrodAll enc AF W 0 (λ_=>true) true IP.params.toList args.toList ds p:=K;rw[Tryz.params9]at S B;obtain⟨I,v1,F,d0,d1,d2,p0,p1,p2,rfl,rfl,rfl,h0,h1,h2⟩:=trodAll_three S;clear K M;obtain⟨x,J,c0⟩:=Qi Tryz.underlying30 (B 0 30 I rfl rfl) h0 (λ_=>sA);obtain⟨b,hb,c1⟩:=Qi Tryz.underlying33 (B 1 33 v1 rfl rfl) h1 (λ_=>km _);obtain⟨m,hm,c2⟩:=Qi Tryz.underlying35 (B 2 35 F rfl rfl) h2 (λ_=>r9);exact rW (args:=#[I,v1,F]) (AKr x b m.1 m.2 J.1 J.2.1 J.2.2 hb hm) (by
  simp only[AO];exact⟨I,[v1,F],rfl,c0,v1,[F],rfl,c1,F,[],rfl,c2,rfl⟩) (Q:=λv R=>KK.post enc AF IP false true false false W #[I,v1,F] v R) (λR hk=>rX QJ rfl rfl Tryz.underlying4 laid hk (by
  rw[Tryz.params9];intro t z;simp only[List.mem_cons,List.not_mem_nil,or_false]at z;rcases z with rfl|rfl|rfl<;>exact⟨by kernel_rfl,of_decide_eq_true (by kernel_rfl)⟩) rfl rfl rfl)
theorem closed:joinedFacts AF 9 IP KK GG=true:=by
 have J:laidOutB AF=true:=q1;have K:mapsRowed AF=true:=q2;have M:(AF.stops ==[])=true:=q6;have Q:(AF.stopKnobs ==[])=true:=q8;have B:(GG.plainKeys==AF.plainKeys)=true:=sO;have E:GG.shortTexts.isNone=true:=sP;have F:AF.stopsHeard=true:=sQ;have G:AF.mayEnter=true:=sR;have H:(GG.lifted==AF.liftsFinal)=true:=sS;have I:(AF.make==some GG.make)=true:=sT;unfold joinedFacts;simp only[j0,J,K,j3,j4,j5,M,j7,Q,j9,ZA,ZB,ZC,ZD,ZE,ZF,ZG,ZH,ZI,ZJ,ZK,ZL,B,E,F,G,H,I,ZM,ZN,ZO,Bool.and_self,Bool.true_and,Bool.and_true];rfl
theorem over:GG.holds Tryz.pinned (OpenSpec.ofChange KK):=
 OpenClaim.holds_of_wide 9 IP rfl rfl rfl rfl rfl rfl rfl ⟨rfl,rfl,rfl,rfl,rfl⟩ rfl rfl rfl rfl rfl (by kernel_rfl) Tryz.func9 closed
  (of_decide_eq_true (by kernel_rfl)) (by unfold Func.isWrapper;first|(rw[if_pos (by decide +kernel)];kernel_rfl)|(rw[if_neg (by decide +kernel)];exact⟨rfl,rfl⟩))
  (λos B H E _=>lifted os B H E)
theorem proved:Rows.DisplayBestSaid:=
 over
#print axioms proved
end Go.Proofs.YtlpomcliejmedaaGreat.displayBest
