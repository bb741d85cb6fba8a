/- For every input the law displayApart returns true, and its input reads behind the call as it read before. Conditions: none. -/
import Derived.Test.YtlpomcliejmedaaGreatU14
import Derived.Test.YtlpomcliejmedaaGreatRows
import Derived.WalkKit
import Derived.ProofKit
import Derived.OpenShut
set_option linter.unusedVariables false
set_option linter.unusedSimpArgs false
set_option maxRecDepth 100000
set_option maxHeartbeats 16000000
open Go.Proofs.Tryz renaming prog→AF,func84→gS,func174→Xn,func58→uy,ntmps58→vE,results58→vY,results7→aY,f7→Jw,checked→RF
open Go.IntKind renaming i64→AZ
open List renaming length_pos_iff→Kr,getElem?_eq_getElem→BE,mem_of_getElem?→Cj
open Go.Proofs.YtlpomcliejmedaaGreat.Rows renaming displayApartRow→G0,displayApartSpec→Pu
open Go.ChangeSpec renaming witness6→uD
namespace Go.Proofs.YtlpomcliejmedaaGreat
open Go.RowKit Proofs.Tryz
theorem oo (q:Int){K A6:List AA}(W:Int)(B:K≠[])(E:A6.length<=1):(Gq q K A6 W).length=K.length+A6.length:=by
 rcases iR q W B E with ⟨rfl,h⟩|⟨F,y,rfl,h,_⟩
 rw[h,Za];rfl;rw[h,List.length_append,Za];rfl
theorem iQ (q:Int){K A6:List AA}(W:Int)(E:K≠[])(F:A6.length<=1){k:Nat}(B:k<K.length):(Gq q K A6 W)[k]?=some ((A4 K k).AS (A4 K k).x (Mr q K k)):=by
 rcases iR q W E F with ⟨rfl,h⟩|⟨G,y,rfl,h,_⟩
 rw[h,ZY B];rw[h,List.getElem?_append_left (by rw[Za];exact B),ZY B]
theorem sb (n:Int):AC AF 84 [.c (.int .i64 n)] (.c (.bool (An n))):=by
 by_cases h : -1073741824<=n;have e:An n=decide (n<=1073741824):=by unfold An;rw[decide_eq_true h,Bool.true_and]
 refine en gS ntmps84 ?_;refine go @h ?_;exact At (cj results84<| @e);have e:An n=false:=by unfold An;rw[decide_eq_false h,Bool.false_and]
 refine en gS ntmps84 ?_;refine go @h ?_;exact At (cj results84<| @e)
def Vw (n:Int):Int:=if n<0 then -n else n
theorem AKH (n:Int)(h : -9000000000000000000<=n)(E:n<=9000000000000000000):AC AF 174 [.c (.int .i64 n)] (.c (.int .i64 (Vw n))):=by
 by_cases B:n<0;have w:AZ.wrap (-n)= -n:=Ac;have e:Vw n= -n:=if_pos B;refine en Xn ntmps174 ?_;refine go (cj @B<|@w) ?_;exact At (cj results174<| @e);have e:Vw n=n:=if_neg B;refine en Xn ntmps174 ?_;refine go @B ?_;exact At (cj results174<| @e)
theorem AX8 (a b:Int)(ha : -4000000000000000000<=a)(z:a<=4000000000000000000)(hb:b=100\/b=2\/b=18):AC AF 109 [.c (.int .i64 a),.c (.int .i64 b)] (.c (.int .i64 (Ea a b))):=by
 have I:=AKH a (by omega) (by omega);have B:=AKH b (by omega) (by omega);have q:Vw b=b:=if_neg (by omega);rw[q]at B;obtain⟨A,E⟩:=AI (Vw a);rw[E]at I;have Gr:0<=A/\A<=4000000000000000000:=by unfold Vw at E;split at E<;>omega
 have S:AZ.wrap (2*A)=2*A:=Ac;have U:AZ.wrap (2*A+b)=2*A+b:=Ac;have W:AZ.wrap (2*b)=2*b:=Ac;have hq:(2*A+b).tdiv (2*b)=(2*A+b) / (2*b):=Int.tdiv_eq_ediv_of_nonneg (by omega);have K:0<=(2*A+b) / (2*b)/\(2*A+b) / (2*b)<=9000000000000000000:=by rcases hb with rfl|rfl|rfl<;>omega
 obtain⟨Q,F⟩:=AI ((2*A+b) / (2*b));have o:AZ.wrap ((2*A+b).tdiv (2*b))=Q:=by rw[hq,F];rw[F]at K;exact Ac
 have R : ¬2*b=0:=by omega
 have G : ¬b=0:=by omega
 have M : ¬b<0:=by omega
 by_cases H:a<0;have J:Ea a b= -Q:=by
  unfold Ea;rw[if_neg (by omega),<-F,<-E];simp only[Vw,if_pos H]
 have w5:AZ.wrap (-Q)= -Q:=by rw[F]at K;exact Ac
 refine en func109 ntmps109 ?_;refine Ah ?_;refine gc @S (I) Xn ?_;refine gc @U (B) Xn ?_;refine gc (cj3 @W @o @R @G) (B) Xn ?_;refine go (cj2 @H @M @w5) ?_;exact At (cj results109<| @J);have J:Ea a b=Q:=by
  unfold Ea;rw[if_pos (by omega),<-F,<-E];simp only[Vw,if_neg H]
 refine en func109 ntmps109 ?_;refine Ah ?_;refine gc @S (I) Xn ?_;refine gc @U (B) Xn ?_;refine gc (cj3 @W @o @R @G) (B) Xn ?_;refine go (cj @H<|@M) ?_;exact At (cj results109<| @J)
theorem AYA (n p:Int):AC AF 58 [.c (.int .i64 n),.c (.int .i64 p)] (.c (.int .i64 (AU n p))):=by
 cases B:An n with
 | false =>
   have E:AU n p=0:=by simp[AU,B]
   refine en uy vE ?_;refine Ah ?_;refine gc @B (sb n) gS ?_;refine go @B ?_;exact At (cj vY<| @E)
 | true =>
   have G:=B;simp[An]at G;by_cases F:p<0;have E:AU n p=0:=by unfold AU;rw[if_neg];omega
   refine en uy vE ?_;refine Ah ?_;refine gc (cj @B<|@F) (sb n) gS ?_;refine go @B ?_;exact At (cj vY<| @E);by_cases H:10000<p;have E:AU n p=0:=by unfold AU;rw[if_neg];omega
   refine en uy vE ?_;refine Ah ?_;refine gc (cj2 @B @F @H) (sb n) gS ?_;refine go @B ?_;exact At (cj vY<| @E);have E:AU n p=Ea (n*p) 100:=by unfold AU;rw[if_pos ⟨B,by omega,by omega⟩]
   have J:=Qh n p 1073741824 10000 (by omega) (by omega) (by omega) (by omega);have I:AZ.wrap (n*p)=n*p:=Ac;refine en uy vE ?_;refine Ah ?_;refine gc (cj2 @B @F @H) (sb n) gS ?_;refine go (cj @B<|@I) ?_;refine BZ (AX8 (n*p) 100 (by omega) (by omega) (.inl rfl)) func109 ?_;refine Ah ?_;exact At (cj vY<| @E)
theorem AIN {q:Int}{K:List AA}{k:Nat}(h:k+1<K.length):Mr q K (k+1)=Mr q K k - ((A4 K k).d+AU q 30+(A4 K (k+1)).h):=by
 show E9 K _ k - (((A4 K k).d+_)+_)=_;rw[pz (by omega) h];rfl
theorem AFs (f:AP):AC AF 24 [.agg f.vs] (.c (.int .i64 (AU f.params.Al 30))):=by
 have h:=AYA f.params.Al 30;obtain⟨q,B⟩:=AI f.params.Al;rw[B]at h ⊢;refine en func24 ntmps24 ?_;exact wz (cj @B<|results24) (cj h<|trivial)
theorem ANh (q:Int){K A6:List AA}{W:Int}(B:K≠[])(G:A6.length<=1)(M : ∀c∈A6,c.x=mx 0 (W - c.w)){k:Nat}{a b:AA}(F:(Gq q K A6 W)[k]?=some a)(hb:(Gq q K A6 W)[k+1]?=some b) :
 (k+1=K.length/\b.y=a.y/\a.x+a.w+q<=b.x)\/a.y - a.d - AU q 30=b.y+b.h:=by
 by_cases J:k+1<K.length;right;rw[iQ q W B G (by omega)]at F hb;cases F;cases hb;show Mr q K k - (A4 K k).d - _=Mr q K (k+1)+(A4 K (k+1)).h;rw[AIN J];omega;have E:=(List.getElem?_eq_some_iff.1 hb).1;rw[oo q W B G]at E;obtain rfl:K.length - 1=k:=by omega
 rw[iQ q W B G (by omega)]at F;cases F;have S:=Kr.2 B;rcases iR q W B G with ⟨rfl,h⟩|⟨H,y,rfl,h,R⟩
 simp at E;omega;rw[h,show K.length - 1+1=(HS q K).length by rw[Za];omega,List.getElem?_append_right (Nat.le_refl _),Nat.sub_self]at hb;cases hb;have Q:=M H (by simp);rw[DU]at Q;rcases R with ⟨_,I,rfl⟩|⟨_,rfl⟩
 left;unfold V8 at I;rw[decide_eq_true_eq]at I;refine⟨by omega,rfl,?_⟩;show (A4 K (K.length - 1)).x+(A4 K (K.length - 1)).w+q<=H.x;omega;right;show Mr q K (K.length - 1) - (A4 K (K.length - 1)).d - AU q 30=Mr q K (K.length - 1) - ((A4 K (K.length - 1)).d+AU q 30+H.h)+H.h;omega
theorem AOk (x:Af)(n:Nd)(W:Int)(sn:ByteArray)(hf:x.f.Fit)(hl:x.d.length<=maxLen)(DS : ∀e∈x.d,e.text.size<=maxLen)(hn:n.BX)(hs:sn.size<=maxLen):AC Tryz.prog 7 [.agg (HD x),Am n,Ms W sn] (.c (.bool true)):=by
 have h0:=ou;rcases rm x n W sn hf hl DS hn hs with ⟨B,T,R,G⟩|⟨b,L,P,A6,hc,hD,G⟩
 unfold Ms at *
 simp only[Am,As]at G ⊢;refine en func7 ntmps7 ?_;exact wz aY (cj2 h0 G trivial);obtain⟨d1,d2,d3,d4,d6⟩:=hD.facts;have Yt:=hD.Qd.XS;obtain⟨K,hK⟩:=AI (Ii x n b (DF x L P W) W);have hq:=eK hD.hx.val;have Av:=eZ (DF x L P W) (n.AE.length:Int) (DF x L P W).length;obtain⟨R,hR⟩:=AI (Jr (DF x L P W) (n.AE.length:Int) (DF x L P W).length);have hg:=AFs x.f;rw[hK]at d1 d2 d6 G;rw[hR]at G Av;clear hD hR hK;obtain⟨q,Iy⟩:=AI x.f.params.Al;rw[Iy]at d6 G hq hg;have QM:=DM (p:=30) q (by decide) (by decide);have I:=λ(k:Nat) (a c:AA)=>ANh q (W:=W) d1 d3 (λc h=>(d4 c h).x) (k:=k) (a:=a) (b:=c)
 have H:=oo q W d1 d3;have Gs:=Kr.2 d1;have E:=iQ q W d1 d3 Gs;have kK:Mr q K 0=0:=rfl;rw[kK]at E;obtain⟨N,hN⟩:=AI (Gq q K A6 W);obtain⟨w,hw⟩:=AI (mx W (DQ N).2.1);obtain⟨h,hh⟩:=AI ((DQ N).2.2.1);obtain⟨d,hd⟩:=AI ((DQ N).2.2.2);have eB:GZ q K A6 W=Bf w h d N:=by unfold GZ;rw[hN,hw,hh,hd]
 rw[eB]at G;rw[hN]at I H E d6;obtain⟨g,JL⟩:=AI (AU q 30);rw[JL]at I hg QM;obtain⟨m,hm⟩:=AI R.length;have jO:K.length=m:=by omega
 obtain⟨M,hM⟩:=AI N.length;obtain⟨Q,Fg⟩:=AI (AA.AG N);have J:Q.length=M:=by rw[<-Fg,GA,hM]
 have row : ∀k (c:AA),N[k]?=some c->Q[k]?=some c.row:=λk c hk=>by rw[<-Fg,Dt,List.getElem?_map,hk];rfl
 obtain⟨⟨z0,z1,z2,z3,z4,z5,z6,z7,z8,z9,A5⟩,hz⟩:=AI (A4 K 0);rw[hz]at E;have r0:=row 0 _ E;simp only[AA.AS,AA.row]at r0;have A1:=gx r0;rw[hM]at H;have f0:0<Q.length:=by omega
 have f1:m<=M:=by omega
 have f2 : ¬(M:Int)<(m:Int):=by omega
 have w1:AZ.wrap ((m:Int)+1)=(m:Int)+1:=Ac;have f3 : ¬(m:Int)+1<(M:Int):=by omega
 have s2:(HD x)[2]?=some (.c (.int .i64 q)):=by rw[<-Iy];rfl
 have A0:=gx s2;clear eB hw hh hd JL hz E kK;unfold Ms at *
 simp only[Am,As,Bf]at G ⊢;simp only[AA.vs,AA.row,List.map_cons,List.map_nil,AV,Fg]at G;refine en func7 ntmps7 ?_;refine wy (cj8 @hm @J @r0 @A1 @f0 @f2 @f3 @w1 aY) (cj2 h0 G trivial) ⟨?_⟩;refine lp (ι:={ k:Nat // 1<=k/\k<=M }) (λk=>[(11,.c (.int .i64 (k.1:Int)))]) (λ_=>[O.box 30 (HD x) false,O.box 33 n.vs false,O.box 35 [.c (.int .i64 W),.c (.str sn)] false,O.box 41 [.c (.int .i64 3),.c (.str ⟨#[]⟩),.c (.int .i64 0),.c (.int .i64 w),.c (.int .i64 h),.c (.int .i64 d),.c (.int .i64 0),.c (.int .i64 0),.c (.sl Q),.c (.int .i64 0),.c (.sl [])] false,O.box 41 b.vs false]) (λk=>M - k.1) ⟨1,by omega⟩ ?_ ?_;all_goals simp only[CG,List.foldl_cons,List.foldl_nil,List.set_cons_zero,List.set_cons_succ]
 exact DH;rintro ⟨k,FJ,hk⟩;simp only;by_cases F:k<M;obtain⟨j,hj⟩:∃j,k=j+1:=⟨k - 1,by omega⟩
 obtain⟨a,ha⟩:∃a,N[j]?=some a:=⟨_,BE (by omega)⟩
 obtain⟨c,hc⟩:∃c,N[k]?=some c:=⟨_,BE (by omega)⟩
 have hA:=I j a c ha (by rw[<-hj];exact hc);rw[<-hj,jO]at hA;have pa:=Tt d6 a (Cj ha);have pc:=Tt d6 c (Cj hc);have a1:=Mq pa;have a2:=kU pa;have c1:=Mq pc;have c2:=kU pc;have S:=row j a ha;have U:=row k c hc;clear pa pc ha hc;obtain⟨x0,x1,x2,o,x4,x5,z,x7,x8,x9,A2⟩:=a;obtain⟨y0,y1,y2,y3,y4,y5,y6,y7,y8,y9,A3⟩:=c;simp only[AA.row]at hA a1 a2 c1 c2 S U;have sV:=gx S;have Ph:=gx U;have l1:j<Q.length:=by omega
 have l2:k<Q.length:=by omega
 have u1:AZ.wrap ((k:Int) - 1)=(j:Int):=by rw[Ac];omega
 have u2:AZ.wrap (z+o)=z+o:=Ac;have u3:AZ.wrap (z+o+q)=z+o+q:=Ac;have u4:AZ.wrap (x7 - x5)=x7 - x5:=Ac;have u6:AZ.wrap (y7+y4)=y7+y4:=Ac;have u7:AZ.wrap ((k:Int)+1)=((k+1:Nat):Int):=by rw[Ac];simp
 clear hj;by_cases Ec:(k=m/\y7=x7/\z+o+q<=y6);obtain⟨rfl,rfl,g3⟩:=Ec;refine wy (cj9 @F @hm @J @S @sV @U @Ph @l1 @l2<|cj7 @u1 @u2 @u3 @u7 @g3 @s2 @A0 aY) trivial ⟨?_⟩;exact⟨⟨k+1,by omega⟩,by simp only;omega,wd 5⟩;have hE:=hA.resolve_left Ec;have u5:AZ.wrap (x7 - x5 - g)=y7+y4:=by rw[Ac];exact hE
 clear hE hA;by_cases g1:(k:Int)=(m:Int)
 obtain rfl:k=m:=by omega
 by_cases g2:y7=x7;subst g2;have g3 : ¬z+o+q<=y6:=λh=>Ec ⟨rfl,rfl,h⟩
 refine wy (cj9 @F @hm @J @S @sV @U @Ph @l1 @l2<|cj9 @u1 @u2 @u3 @u4 @u5 @u6 @u7 @g3 @s2<|cj @A0 aY) (cj hg<|trivial) ⟨?_⟩;exact⟨⟨k+1,by omega⟩,by simp only;omega,wd 5⟩;refine wy (cj9 @F @hm @J @S @sV @U @Ph @l1 @l2<|cj6 @u1 @u4 @u5 @u6 @u7 @g2 aY) (cj hg<|trivial) ⟨?_⟩;exact⟨⟨k+1,by omega⟩,by simp only;omega,wd 5⟩;refine wy (cj9 @F @hm @J @S @sV @U @Ph @l1 @l2<|cj6 @u1 @u4 @u5 @u6 @u7 @g1 aY) (cj hg<|trivial) ⟨?_⟩;exact⟨⟨k+1,by omega⟩,by simp only;omega,wd 5⟩;obtain rfl:k=M:=by omega
 exact wz (cj2 @F @J aY) trivial
end Go.Proofs.YtlpomcliejmedaaGreat
namespace Go.Proofs.YtlpomcliejmedaaGreat.displayApart
open Go.ChangeShapes Go.WideShapes Go.ChangeAt Go.RowKit
theorem j0:G0.wf (OpenSpec.ofChange Pu)=true:=by kernel_rfl
theorem j3:Jw.params.all (AF.readableRec ·)=true:=by kernel_rfl
theorem j4:namedTie AF G0.named Pu.vars=true:=by kernel_rfl
theorem j5:(G0.stops ==[])=true:=by kernel_rfl
theorem j7:(G0.knobs ==[])=true:=by kernel_rfl
theorem j9:(G0.inPlace==AF.inPlace 7)=true:=by kernel_rfl
theorem ZA:(G0.unfollowed==AF.unfollowed 7)=true:=by kernel_rfl
theorem ZB:(G0.recurses==AF.recurses 7)=true:=by kernel_rfl
theorem ZC:(G0.named==AF.varsNamed 7)=true:=by kernel_rfl
theorem ZD:(G0.maps==(Jw.params.toList++Pu.plain.varTypes AF).any (AF.mapsRec ·))=true:=by kernel_rfl
theorem ZE:(G0.ifaces==(Jw.params.toList++Pu.plain.varTypes AF).any (AF.ifacesRec ·))=true:=by kernel_rfl
theorem ZF:(G0.mapsOut==AF.mapsAmong Jw.resultTypes.toList)=true:=by kernel_rfl
theorem ZG:(G0.loops==(Jw.params.toList++Pu.plain.varTypes AF).any (AF.loopsFrom ·))=true:=by kernel_rfl
theorem ZH:(G0.wideKeys==(Jw.params.toList++Pu.plain.varTypes AF++Jw.resultTypes.toList).any (AF.wideKeysFrom ·))=true:=by kernel_rfl
theorem ZI:Pu.vars.all (AF.varReadable ·)=true:=by kernel_rfl
theorem ZJ:Jw.resultTypes.all (λt=>AF.readableRec t && decide (t<AF.types.size))=true:=by kernel_rfl
theorem ZK:(G0.ifacesOut==Jw.resultTypes.toList.any (AF.ifacesRec ·))=true:=by kernel_rfl
theorem ZL:(G0.loopsOut==Jw.resultTypes.toList.any (AF.loopsFrom ·))=true:=by kernel_rfl
theorem ZM:(G0.pinned==G0.pinnedBy)=true:=by kernel_rfl
theorem ZN:(G0.veiled==(Jw.params.toList++Pu.plain.varTypes AF++Jw.resultTypes.toList).any (AF.veiledRec ·))=true:=by kernel_rfl
theorem ZO:G0.veiledFits AF Jw.params.toList (Jw.params.toList++Pu.plain.varTypes AF++Jw.resultTypes.toList)=true:=by kernel_rfl
theorem lifted (os:Os)(E:os.Started)(H:Type)(enc:TypeId×Value->H) :
 ReturnsInHanded {} RF os 7 .any (Pu.pre6 enc AF Jw G0.domain false) (Pu.post enc AF Jw false true false false):=by
 refine returnsInHanded_of_change (C:=RF) own E (by kernel_rfl) Tryz.func7
  (uD (enc:=enc) (C:=RF) false ⟨#[],#[.agg (#[.slice none 0 0,.slice none 0 0]++Array.replicate 20 (.int .i64 0)++#[.slice none 0 0]),.agg #[.int .i64 0,.string ⟨#[]⟩,.int .i64 0,.slice none 0 0],.agg #[.int .i64 0,.string ⟨#[]⟩]],[]⟩ 8 (by kernel_rfl) (by kernel_rfl) (by kernel_rfl) (by kernel_rfl)) ?_
 intro W G args ds gs before M U o _;have B : ∀(j:Nat) t v,Jw.params[j]?=some t->args[j]?=some v->Value.okWide AF W .any G t v:=M;have QJ:=U;obtain⟨p,q,K,hV,rfl,cm,TV⟩:=U;have S:DataW.TrodAll enc AF W 0 (λ_=>true) true Jw.params.toList args.toList ds p:=K;rw[Tryz.params7]at S B;obtain⟨I,v1,F,d0,d1,d2,p0,p1,p2,rfl,rfl,rfl,h0,h1,h2⟩:=trodAll_three S;clear K M;obtain⟨x,J,c0⟩:=Qi Tryz.underlying30 (B 0 30 I rfl rfl) h0 (λ_=>sA);obtain⟨b,hb,c1⟩:=Qi Tryz.underlying33 (B 1 33 v1 rfl rfl) h1 (λ_=>km _);obtain⟨m,hm,c2⟩:=Qi Tryz.underlying35 (B 2 35 F rfl rfl) h2 (λ_=>r9);exact rW (args:=#[I,v1,F]) (AOk x b m.1 m.2 J.1 J.2.1 J.2.2 hb hm) (by
  simp only[AO];exact⟨I,[v1,F],rfl,c0,v1,[F],rfl,c1,F,[],rfl,c2,rfl⟩) (Q:=λv R=>Pu.post enc AF Jw false true false false W #[I,v1,F] v R) (λR hk=>rX QJ rfl rfl Tryz.underlying4 laid hk (by
  rw[Tryz.params7];intro t z;simp only[List.mem_cons,List.not_mem_nil,or_false]at z;rcases z with rfl|rfl|rfl<;>exact⟨by kernel_rfl,of_decide_eq_true (by kernel_rfl)⟩) rfl rfl rfl)
theorem closed:joinedFacts AF 7 Jw Pu G0=true:=by
 have J:laidOutB AF=true:=q1;have K:mapsRowed AF=true:=q2;have M:(AF.stops ==[])=true:=q6;have Q:(AF.stopKnobs ==[])=true:=q8;have B:(G0.plainKeys==AF.plainKeys)=true:=sO;have E:G0.shortTexts.isNone=true:=sP;have F:AF.stopsHeard=true:=sQ;have G:AF.mayEnter=true:=sR;have H:(G0.lifted==AF.liftsFinal)=true:=sS;have I:(AF.make==some G0.make)=true:=sT;unfold joinedFacts;simp only[j0,J,K,j3,j4,j5,M,j7,Q,j9,ZA,ZB,ZC,ZD,ZE,ZF,ZG,ZH,ZI,ZJ,ZK,ZL,B,E,F,G,H,I,ZM,ZN,ZO,Bool.and_self,Bool.true_and,Bool.and_true];rfl
theorem over:G0.holds Tryz.pinned (OpenSpec.ofChange Pu):=
 OpenClaim.holds_of_wide 7 Jw rfl rfl rfl rfl rfl rfl rfl ⟨rfl,rfl,rfl,rfl,rfl⟩ rfl rfl rfl rfl rfl (by kernel_rfl) Tryz.func7 closed
  (of_decide_eq_true (by kernel_rfl)) (by unfold Func.isWrapper;first|(rw[if_pos (by decide +kernel)];kernel_rfl)|(rw[if_neg (by decide +kernel)];exact⟨rfl,rfl⟩))
  (λos B H E _=>lifted os B H E)
theorem proved:Rows.DisplayApartSaid:=
 over
#print axioms proved
end Go.Proofs.YtlpomcliejmedaaGreat.displayApart
