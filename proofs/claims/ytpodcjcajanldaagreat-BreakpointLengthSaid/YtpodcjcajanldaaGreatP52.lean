/- For every input the law breakpointLength returns true, and its input reads behind the call as it read before. Conditions: none. (The texts of this claim were joined and shortened by a program.) -/
import Derived.Test.YtpodcjcajanldaaGreatP50
import Derived.Test.YtpodcjcajanldaaGreatP51
set_option linter.unusedVariables false
set_option linter.unusedSimpArgs false
set_option maxRecDepth 100000
set_option maxHeartbeats 16000000
open Go.Proofs.YtpodcjcajanldaaGreat.Rows renaming breakpointLengthSpec→ck,breakpointLengthRow→OR
open Go.Proofs.Tryz renaming prog→AD,f12→PS,func12→AAj
open Go.ChangeSpec renaming witness6→oD
namespace Go.Proofs.YtpodcjcajanldaaGreat.breakpointLength
open Go.ChangeShapes Go.WideShapes Go.ChangeAt Go.RowKit
theorem lifted (os:Os)(started:os.Started)(H:Type)(enc:TypeId×Value->H) :
 ReturnsInHanded {} Tryz.checked os 12 .any (ck.pre6 enc AD PS OR.domain false) (ck.post enc AD PS false true false false):=by
 refine returnsInHanded_of_change (C:=Tryz.checked) own started (by kernel_rfl) AAj
  (oD (enc:=enc) (C:=Tryz.checked) false ⟨#[],#[.agg #[.slice none 0 0,.slice none 0 0,.int .i64 0,.int .i64 0,.int .i64 0,.int .i64 0,.int .i64 0,.int .i64 0,.int .i64 0,.int .i64 0,.int .i64 0,.int .i64 0,.int .i64 0,.int .i64 0,.int .i64 0,.int .i64 0,.int .i64 0,.int .i64 0,.int .i64 0,.int .i64 0,.int .i64 0,.int .i64 0,.slice none 0 0],.agg #[.int .i64 0,.string ⟨#[]⟩,.int .i64 0,.slice none 0 0],.agg #[.int .i64 0,.bool false]],[]⟩ 8 (by kernel_rfl) (by kernel_rfl) (by kernel_rfl) (by kernel_rfl)) ?_
 intro W base args ds gs before QO hW hcnd _;have hval : ∀(j:Nat) t v,PS.params[j]?=some t->args[j]?=some v->Value.okWide AD W .any base t v:=QO;have Oi:=hW;obtain⟨p,q,FD,hV,rfl,lJ,ZB⟩:=hW;have hA:DataW.TrodAll enc AD W 0 (fun _=>true) true PS.params.toList args.toList ds p:=FD;rw[Tryz.params12]at hA hval;obtain⟨v0,v1,v2,d0,d1,d2,p0,p1,p2,rfl,rfl,rfl,h0,h1,h2⟩:=trodAll_three hA;clear FD QO;obtain⟨x,hx,c0⟩:=ABg Tryz.underlying30 (hval 0 30 v0 rfl rfl) h0 (fun _=>mT);obtain⟨b,hb,c1⟩:=ABg Tryz.underlying33 (hval 1 33 v1 rfl rfl) h1 (fun _=>fO _);obtain⟨s,hs,c2⟩:=ABg Tryz.underlying35 (hval 2 35 v2 rfl rfl) h2 (fun _=>mV);exact l9 (args:=#[v0,v1,v2]) (length43_a x b s hx.1 hx.2.1 hx.2.2 hb) (by
  simp only[AL];exact⟨v0,[v1,v2],rfl,c0,v1,[v2],rfl,c1,v2,[],rfl,c2,rfl⟩) (Q:=fun v W'=>ck.post enc AD PS false true false false W #[v0,v1,v2] v W') (fun W' hk=>mA Oi rfl rfl Tryz.underlying4 laid hk (by
  rw[Tryz.params12];intro t ht;simp only[List.mem_cons,List.not_mem_nil,or_false]at ht;rcases ht with rfl|rfl|rfl<;>exact⟨by kernel_rfl,of_decide_eq_true (by kernel_rfl)⟩) rfl rfl rfl)
theorem closed:joinedFacts AD 12 PS ck OR=true:=by
 have k1:laidOutB AD=true:=q1;have k2:mapsRowed AD=true:=q2;have k6:(AD.stops ==[])=true:=q6;have k8:(AD.stopKnobs ==[])=true:=q8;have XH:(OR.plainKeys==AD.plainKeys)=true:=mv;have XI:OR.shortTexts.isNone=true:=mw;have XJ:AD.stopsHeard=true:=my;have XK:AD.mayEnter=true:=m5;have XL:(OR.lifted==AD.liftsFinal)=true:=m6;have XM:(AD.make==some OR.make)=true:=m7;unfold joinedFacts;simp only[j0,k1,k2,j3,j4,j5,k6,j7,k8,j9,Wv,Ww,Wx,Wy,Wz,W4,W6,W8,XA,XB,XC,XD,XH,XI,XJ,XK,XL,XM,XE,XF,XG,Bool.and_self,Bool.true_and,Bool.and_true];rfl
theorem over:OR.holds Tryz.pinned (OpenSpec.ofChange ck):=
 OpenClaim.holds_of_wide 12 PS rfl rfl rfl rfl rfl rfl rfl ⟨rfl,rfl,rfl,rfl,rfl⟩ rfl rfl rfl rfl rfl (by kernel_rfl) AAj closed
  (of_decide_eq_true (by kernel_rfl)) (by unfold Func.isWrapper;first|(rw[if_pos (by decide +kernel)];kernel_rfl)|(rw[if_neg (by decide +kernel)];exact⟨rfl,rfl⟩))
  (fun os started H enc _=>lifted os started H enc)
theorem proved:Rows.BreakpointLengthSaid:=
 over
#print axioms proved
end Go.Proofs.YtpodcjcajanldaaGreat.breakpointLength
