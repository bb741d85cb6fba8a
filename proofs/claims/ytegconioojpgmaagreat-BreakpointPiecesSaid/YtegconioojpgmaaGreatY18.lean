/- Part of the proof of breakpointPieces.proved. Conditions: none. -/
import Derived.Test.YtegconioojpgmaaGreatY16
import Derived.Test.YtegconioojpgmaaGreatY17
set_option linter.unusedVariables false
set_option linter.unusedSimpArgs false
set_option maxRecDepth 100000
set_option maxHeartbeats 16000000
open UInt8 renaming toNat_inj->ADb
open Go.Proofs.Tryz renaming prog->AF,func86->AQl,ntmps86->ARY,results86->We,results89->APB,results90->AGa,func87->AQB,ntmps87->ASi,results87->gQ,func88->gF,ntmps88->gJ,results88->gM,results91->ACV,func95->AQp,ntmps95->ARf,results95->vg,func52->ID,ntmps52->ARU,results52->gy,results51->Abu,results48->L9,func26->APh,ntmps26->AQE,results26->gj,func6->AP8,ntmps6->ASf,results6->Xo,results226->ASC,results195->HY,func224->AcO,ntmps224->Aia,results224->AR9,results194->Abf,func250->SC,ntmps250->ARG,results250->IC
open Option renaming isSome_none->H8
open List renaming length_nil->BO,replicate->Aq,setIfInBounds_toArray->uV
open Nat renaming dvd_of_mod_eq_zero->AMw
open Go.IntKind renaming i64->AZ
open Classical renaming not_not->uE
open Go.Fence renaming wide->Cg
open Go.Oper renaming looksAt->Gm
open Go.Op renaming operands->Bl
open Go.Call renaming operands->Df
open Go.Act renaming eval->JT,put->Q9
open And renaming intro->tu
open Int renaming le_refl->IV
open Option renaming some->J,none->E
open Bool renaming false->U,true->I
open List renaming length->G
namespace Go.Proofs.YtegconioojpgmaaGreat
open Go.RowKit Tryz
variable {b:AA}(x:Af)(S:BF)(m:Nat)(n:Nd)(src:List Int)(s:Aa)
theorem bF (h:b.Ad=I)(x y:Int):(b.AS x y).Ad=(An x && An y):=by
 obtain⟨R,o,z,bw,Q,M,bx,Bq,B,q,K⟩:=b;simp only[AA.Ad,Ak,Awe]at h;obtain⟨h1,h2,h3⟩:=h;simp only[AA.D8,AA.Cl,AA.lens,Ak,Ep,Nq]at h1;obtain⟨⟨⟨l1,l2,l3,l4,l5,_⟩,k1,k2⟩,h4⟩:=h1;have nE:AA.Fi ⟨R,o,z,bw,Q,M,x,y,B,q,K⟩=true:=k1;have kP:AA.Js ⟨R,o,z,bw,Q,M,x,y,B,q,K⟩=true:=k2;have J3:AA.cnt ⟨R,o,z,bw,Q,M,x,y,B,q,K⟩<=20000:=h2;have Jd:AA.nest ⟨R,o,z,bw,Q,M,x,y,B,q,K⟩<=100:=h3;have ho:AA.Cl ⟨R,o,z,bw,Q,M,x,y,B,q,K⟩=(An x && An y):=by
  unfold AA.Cl;rw[nE,kP];simp only[AA.lens,Ep,Nq,l1,l2,l3,Cd,Km]
 have hp:AA.D8 ⟨R,o,z,bw,Q,M,x,y,B,q,K⟩=(An x && An y):=by
  show (AA.Cl ⟨R,o,z,bw,Q,M,x,y,B,q,K⟩ && AA.FU B)=_;rw[ho,h4,Km]
 show (AA.D8 ⟨R,o,z,bw,Q,M,x,y,B,q,K⟩ && (decide (AA.cnt ⟨R,o,z,bw,Q,M,x,y,B,q,K⟩<=20000) && decide (AA.nest ⟨R,o,z,bw,Q,M,x,y,B,q,K⟩<=100)))=_;rw[hp,Awk J3,Awk Jd,LW,Km]
theorem AJK {t:ByteArray}(h:(decide (t.size=2) && FC (Lq RX) t)=I):Nh t=true:=by
 rw[Ak]at h;have key : ∀b:UInt8,Lq RX b.toNat=I->Qj b=true:=by
  intro b B;unfold Lq at B;obtain⟨c,K,M⟩:=List.any_eq_true.1 B;have e:c=b:=ADb.1 (by have:=of_decide_eq_true M;omega);subst e;have : ∀d∈RX.data.toList,Qj d=true:=ZB;exact this c K
 unfold Nh;rw[h.1,Km,ES];intro b B;exact key b (ES.1 h.2 b B)
theorem AYv {f:AP}(K:f.valid=I):∀s∈f.C5,G s.sizes<=1000:=λs B=>by
 have h:=Z9 K s B;simp only[Oh,DX,Ep,Nq,Ak,Awe]at h;omega
theorem APT {x:Af}(B:x.Ok){s:Aa}(hs:s.ok=I){t:ByteArray}(M:Nh t=I)(hb:b.Ad=I):O5 x.f t b (x.sz s)=((Bj (O5 x.f t b (x.sz s))).getD AA.zero,if (Bj (O5 x.f t b (x.sz s))).isSome=I then 0 else 6):=by
 obtain⟨p1,p2⟩:=HE B.val hs;have q:x.sz s=BS x.f.params s:=F;have o : ∀R K,Ck R=I->(MX x.f R K (x.sz s)).1.Ad=true:=λR K hn=>by
  rw[q];rcases xJ B.val p1 p2 hn K with ⟨_,e⟩|⟨_,S,_,Q,_,hl,_,e⟩
  rw[e];decide;have B:=bF Q S.x S.y;rw[show (S.AS S.x S.y).Ad=I by cases S;exact Q]at B;rw[e,bF Q,hl,Km];cases hq:An S.x with
  | true=>rfl
  | false=>rw[hq]at B;cases B
 have e:O5 x.f t b (x.sz s)=F9 [(MX x.f (Kg t 0) (P9 x.f b (x.sz s)) (x.sz s)).1,b.AS 0 0,(MX x.f (Kg t 1) (P9 x.f b (x.sz s)) (x.sz s)).1] [0,0,0]:=by
  unfold O5;rw[Awf (by simp[B.val,hb,M]),Awf (by rw[q];omega)]
 rw[e];refine sm ?_ rfl ZB;have z:(b.AS 0 0).Ad=true:=by rw[bF hb];decide
 simp[o _ _ (sB M 0 Ux),o _ _ (sB M 1 Ux),z]
theorem AYc {x:Af}{m:Nat}{n:Nd}{src:List Int}{s:Aa}(h:RL x m n src s)(hk:n.kind=5):AQ AF 86 [Bb x m,Am n,.c (AV src),Aj s] m (BM x.f) (BM x.f) (BP (Dr x s src n)):=by
 obtain⟨ss,z⟩:=AI (AV src);rcases h.parts with ⟨q,R⟩|⟨L,hl,hb,q,R⟩
 rw[q];simp only[BP];rw[z]at R ⊢;unfold Bb Aj Am at *
 refine CH AQl ARY ?_;exact qz We (cj R<|trivial);have Q:=R.data VR;have Ej:=Qa h.own;have Mj:=Z3 h.own;rw[hk]at Ej Mj;obtain⟨a,b,rfl⟩:=rZ (L:=L) (by simp[FL]at Ej;omega);obtain⟨a1,a2,a3,a4⟩:=hb.one (b:=a) ZA;obtain⟨b1,b2,b3,b4⟩:=hb.one (b:=b) ZA;have Je:Dr x s src n=Bj (C8 (WO x.f s a b)):=by rw[q,hk];simp[Ji]
 have K:=AWA x.f s a b a2 Ux b2 Ux;rw[show cE x.f s a b=C8 (WO x.f s a b)from Awf (by simp[h.hx.val,h.hs,a1,b1]),Uh]at K;rw[Je];generalize ho:Bj (C8 (WO x.f s a b))=o at K ⊢;rw[z]at Q ⊢;have hr:AA.AG [a,b]=[a.row,b.row]:=F;rw[hr]at Q;unfold Bb Aj Am at *
 cases o with
 | some B=>have M:=Jl B;simp only[Dm,IZ,Awg,Ba,AR,As]at K M;simp only[BP,As];refine CH AQl ARY ?_;exact qz We (cj3 Q K M W)
 | none=>have M:=LG AA.zero m (BM x.f);simp only[Hr,H8,GW,Awh,Ba,AR,As]at K M;simp only[BP,As];refine CH AQl ARY ?_;exact qz We (cj3 Q K M W)
theorem AYU {x:Af}{m:Nat}{n:Nd}{src:List Int}{s:Aa}(h:RL x m n src s)(hk:n.kind=10):AQ AF 89 [Bb x m,Am n,.c (AV src),Aj s] m (BM x.f) (BM x.f) (BP (Dr x s src n)):=by
 obtain⟨ss,z⟩:=AI (AV src);rcases h.parts with ⟨q,R⟩|⟨L,hl,hb,q,R⟩
 rw[q];simp only[BP];rw[z]at R ⊢;unfold Bb Aj Am at *
 refine CH func89 ntmps89 ?_;exact qz APB (cj R<|trivial);have Q:=R.data VR;have Ej:=Qa h.own;have Mj:=Z3 h.own;rw[hk]at Ej Mj;obtain⟨a,rfl⟩:=AIF (L:=L) (by simp[FL]at Ej;omega);obtain⟨a1,a2,a3,a4⟩:=hb.one (b:=a) ZA;have Je:Dr x s src n=Bj (C8 (al x.f s n.text a (x.gl s n.text))):=by rw[q,hk];simp[Ji]
 have K:=AVx x.f s n.text a h.hx.fit h.hx.val h.hs a1 a2 (by simpa [Ki]using Mj);rw[show (DB x.f n.text (BS x.f.params s)).1=x.gl s n.text from rfl,Uh]at K;rw[Je];generalize ho:Bj (C8 (al x.f s n.text a (x.gl s n.text)))=o at K ⊢;rw[z]at Q ⊢;have hr:AA.AG [a]=[a.row]:=F;rw[hr]at Q;unfold Bb Aj Am at *
 cases o with
 | some B=>have M:=Jl B;simp only[Dm,IZ,Awg,Ba,AR,As]at K M;simp only[BP,As];refine CH func89 ntmps89 ?_;exact qz APB (cj3 Q K M W)
 | none=>have M:=LG AA.zero m (BM x.f);simp only[Hr,H8,GW,Awh,Ba,AR,As]at K M;simp only[BP,As];refine CH func89 ntmps89 ?_;exact qz APB (cj3 Q K M W)
theorem AYb {x:Af}{m:Nat}{n:Nd}{src:List Int}{s:Aa}(h:RL x m n src s)(hk:n.kind=11):AQ AF 90 [Bb x m,Am n,.c (AV src),Aj s] m (BM x.f) (BM x.f) (BP (Dr x s src n)):=by
 obtain⟨ss,Cu⟩:=AI (AV src);have hz:=tE x m h.hs;have G7:=kW h.hs;have k0:0<=s.By:=Ux;have k1:s.By<4:=Ux;rcases h.parts with ⟨q,R⟩|⟨L,hl,hb,q,R⟩
 rw[q];simp only[BP];rw[Cu]at R ⊢;unfold Bb Aj Am at *
 refine CH func90 ntmps90 ?_;exact qz (cj3 @hz @k0 @k1 AGa) (cj R<|trivial);have Q:=R.data VR;have Ej:=Qa h.own;have z:=Z3 h.own;rw[hk]at Ej z;obtain⟨a,rfl⟩:=AIF (L:=L) (by simp[FL]at Ej;omega);obtain⟨a1,a2,a3,a4⟩:=hb.one (b:=a) ZA;have Je:Dr x s src n=Bj (O5 x.f n.text a (x.sz s)):=by rw[q,hk];simp[Ji]
 have K:=AV9 x.f n.text a (x.sz s) h.hx.fit (AYv h.hx.val) a2 Ux (by have:=sC (AJK (by simpa [Ki]using z));unfold maxLen;omega);rw[APT h.hx h.hs (AJK (by simpa [Ki]using z)) a1]at K;rw[Je];generalize ho:Bj (O5 x.f n.text a (x.sz s))=o at K ⊢;rw[Cu]at Q ⊢;have hr:AA.AG [a]=[a.row]:=F;rw[hr]at Q;unfold Bb Aj Am at *
 cases o with
 | some B=>have M:=Jl B;simp only[Dm,IZ,Awg,Ba,AR,As]at K M;simp only[BP,As];refine CH func90 ntmps90 ?_;exact qz (cj3 @hz @k0 @k1 AGa) (cj3 Q K M W)
 | none=>have M:=LG AA.zero m (BM x.f);simp only[Hr,H8,GW,Awh,Ba,AR,As]at K M;simp only[BP,As];refine CH func90 ntmps90 ?_;exact qz (cj3 @hz @k0 @k1 AGa) (cj3 Q K M W)
theorem wi (l:List C):Hc 11 2 l=[l.take 11,(l.drop 11).take 11]:=F
theorem AOt {AE:List Nd}(h:b.Ad=I):(Ue AE b).Ad=true:=by
 unfold Ue;split;obtain⟨o,q,bs,bw,R,Q,bx,B,K,z,M⟩:=b;have e1:(AA.cB ⟨o,q,bs,bw,R,Q,bx,B,K,z,M⟩).cnt=(⟨o,q,bs,bw,R,Q,bx,B,K,z,M⟩:AA).cnt:=F;have e2:(AA.cB ⟨o,q,bs,bw,R,Q,bx,B,K,z,M⟩).nest=(⟨o,q,bs,bw,R,Q,bx,B,K,z,M⟩:AA).nest:=F;unfold AA.Ad at h ⊢;rw[e1,e2];rw[Ak]at h ⊢;refine⟨?_,h.2⟩;have h3:=h.1;simp only[AA.D8,AA.Cl,AA.cB,AA.lens,AA.Fi,AA.Js,Ak,Ep,Nq]at h3 ⊢;obtain⟨⟨⟨l1,l2,l3,l4,l5,l6⟩,k1,k2⟩,h4⟩:=h3;have l0:An 0=true:=ZB;exact⟨⟨⟨l0,l0,l0,l4,l5,l6⟩,k1,k2⟩,h4⟩;exact h
theorem AZG {x:Af}{m:Nat}{n:Nd}{src:List Int}{s:Aa}(h:RL x m n src s)(hk:n.kind=6)(k0:Nd)(kr:List Nd)(EC:n.AE=k0::kr):AQ AF 87 [Bb x m,Am n,.c (AV src),Aj s] m (BM x.f) (BM x.f) (BP (Dr x s src n)):=by
 obtain⟨ss,Cu⟩:=AI (AV src);rcases h.parts with ⟨Ca,Q⟩|⟨L,hl,hb,Ca,Q⟩
 rw[Ca];simp only[BP];rw[Cu]at Q ⊢;unfold Bb Aj Am at *
 refine CH AQB ASi ?_;exact qz gQ (cj Q<|trivial);have R:=Qa h.own;rw[hk]at R;obtain⟨a,b,rfl⟩:=rZ (L:=L) (by simp[FL]at R;omega);obtain⟨a1,a2,a3,a4⟩:=hb.one (b:=a) ZA;obtain⟨b1,b2,b3,b4⟩:=hb.one (b:=b) ZA;have IH:=AOt (AE:=n.AE) a1;have Je:Dr x s src n=Bj (C8 (Qp x.f s b [Ue n.AE a])):=by rw[Ca,hk];simp[Ji]
 have K:=AWf x.f s b [Ue n.AE a] h.hx.fit b2 Ux (λg hg=>by rw[LY]at hg;subst hg;exact⟨kj IH,by have:=ik IH;omega⟩);rw[show VP x.f s b [Ue n.AE a]=C8 (Qp x.f s b [Ue n.AE a])from Awf (by simp[h.hx.val,h.hs,b1,IH]),Uh]at K;rw[Je];obtain⟨o,ho⟩:=AI (Bj (C8 (Qp x.f s b [Ue n.AE a])));have KA:Nd.AG n.AE=k0.row::Nd.AG kr:=by rw[EC];rfl
 have A0:Ue n.AE a=if k0.AE=[]then a.cB else a:=by rw[EC];rfl
 rw[ho]at K ⊢;rw[A0]at K;rw[Cu]at Q ⊢;obtain⟨q0,q1,q2,z⟩:=k0;have hr:AA.AG [a,b]=[a.row,b.row]:=F;simp only at K A0;simp only[Nd.row]at KA;have Ce:G (Nd.AG z)=G z:=Pc z;obtain⟨ak,an,A3,aw,ah,ad,ax,ay,A1,ao,A2⟩:=a;obtain⟨bk,bn,bs,bw,bh,bd,bx,Bq,EU,bo,Et⟩:=b;simp only[AA.AG,AA.row,Hp,List.flatten_nil,E5,BK,BU,BA,BO,Nat.reduceAdd]at Q;unfold Bb Aj Am at *
 by_cases q:G z=0;have R:z=[]:=List.length_eq_zero_iff.1 q;rw[Awd R]at K;simp only[As,AA.vs,AA.cB,AA.AG,AA.row,Ap,BB]at K;cases o with
 | some B=>have M:=Jl B;simp only[Dm,IZ,Awg,Ba,AR,As]at K M;simp only[BP,As];refine CH AQB ASi ?_;refine qu (.mk 1) gQ trivial ⟨?_⟩;refine AW.DA ?_;refine CY (.mk 4) trivial ?_;refine SW.pI 0 Q ZC (by simp[BQ]) (by simp[C7];first|exact rfl|exact⟨F,F⟩) (by simp[V.CF,V.CP]) rfl ?_;simp only[St.step,St.put,Bk,BA,BO,Nat.reduceAdd,Nat.reduceLT,IY,Awg,Awh,Ai,Ag,BK,BU,Ap,BB];refine CY (.mk 1) trivial ?_;refine SW.nil ?_;refine qu (.mk 4) (cj3 @KA @Ce @q gQ) trivial ⟨?_⟩;refine Cn 4 ?_;simp only[wi,DP,ET,CU,B9];exact qz gQ (cj2 K M W)
 | none=>have M:=LG AA.zero m (BM x.f);simp only[Hr,H8,GW,Awh,Ba,AR,As]at K M;simp only[BP,As];refine CH AQB ASi ?_;refine qu (.mk 1) gQ trivial ⟨?_⟩;refine AW.DA ?_;refine CY (.mk 4) trivial ?_;refine SW.pI 0 Q ZC (by simp[BQ]) (by simp[C7];first|exact rfl|exact⟨F,F⟩) (by simp[V.CF,V.CP]) rfl ?_;simp only[St.step,St.put,Bk,BA,BO,Nat.reduceAdd,Nat.reduceLT,IY,Awg,Awh,Ai,Ag,BK,BU,Ap,BB];refine CY (.mk 1) trivial ?_;refine SW.nil ?_;refine qu (.mk 4) (cj3 @KA @Ce @q gQ) trivial ⟨?_⟩;refine Cn 4 ?_;simp only[wi,DP,ET,CU,B9];exact qz gQ (cj2 K M W)
 have R : ¬z=[]:=λe=>q (by rw[e];rfl)
 rw[Awf R]at K;simp only[As,AA.vs,AA.AG,AA.row,Ap,BB]at K;cases o with
 | some B=>have M:=Jl B;simp only[Dm,IZ,Awg,Ba,AR,As]at K M;simp only[BP,As];refine CH AQB ASi ?_;refine qu (.mk 1) gQ trivial ⟨?_⟩;refine AW.DA ?_;refine CY (.mk 4) trivial ?_;refine SW.pI 0 Q ZC (by simp[BQ]) (by simp[C7];first|exact rfl|exact⟨F,F⟩) (by simp[V.CF,V.CP]) rfl ?_;simp only[St.step,St.put,Bk,BA,BO,Nat.reduceAdd,Nat.reduceLT,IY,Awg,Awh,Ai,Ag,BK,BU,Ap,BB];refine CY (.mk 1) trivial ?_;refine SW.nil ?_;refine qu (.mk 4) (cj3 @KA @Ce @q gQ) trivial ⟨?_⟩;refine Cn 4 ?_;simp only[wi,DP,ET,CU,B9];exact qz gQ (cj2 K M W)
 | none=>have M:=LG AA.zero m (BM x.f);simp only[Hr,H8,GW,Awh,Ba,AR,As]at K M;simp only[BP,As];refine CH AQB ASi ?_;refine qu (.mk 1) gQ trivial ⟨?_⟩;refine AW.DA ?_;refine CY (.mk 4) trivial ?_;refine SW.pI 0 Q ZC (by simp[BQ]) (by simp[C7];first|exact rfl|exact⟨F,F⟩) (by simp[V.CF,V.CP]) rfl ?_;simp only[St.step,St.put,Bk,BA,BO,Nat.reduceAdd,Nat.reduceLT,IY,Awg,Awh,Ai,Ag,BK,BU,Ap,BB];refine CY (.mk 1) trivial ?_;refine SW.nil ?_;refine qu (.mk 4) (cj3 @KA @Ce @q gQ) trivial ⟨?_⟩;refine Cn 4 ?_;simp only[wi,DP,ET,CU,B9];exact qz gQ (cj2 K M W)
theorem AZK {x:Af}{m:Nat}{n:Nd}{src:List Int}{s:Aa}(h:RL x m n src s)(Q:n.kind=7)(k0:Nd)(kr:List Nd)(EC:n.AE=k0::kr):AQ AF 88 [Bb x m,Am n,.c (AV src),Aj s] m (BM x.f) (BM x.f) (BP (Dr x s src n)):=by
 obtain⟨ss,Cu⟩:=AI (AV src);rcases h.parts with ⟨z,hq⟩|⟨L,hl,hb,z,hq⟩
 rw[z];simp only[BP];rw[Cu]at hq ⊢;unfold Bb Aj Am at *
 refine CH gF gJ ?_;exact qz gM (cj hq<|trivial);have R:=hq.data VR;have Ej:=Qa h.own;have Mj:=Z3 h.own;rw[Q]at Ej Mj;obtain⟨a,b,rfl⟩:=rZ (L:=L) (by simp[FL]at Ej;omega);obtain⟨a1,a2,a3,a4⟩:=hb.one (b:=a) ZA;obtain⟨b1,b2,b3,b4⟩:=hb.one (b:=b) ZA;have q:=ABr x m k0 s h.hx;have KA:Nd.AG n.AE=k0.row::Nd.AG kr:=by rw[EC];rfl
 rw[Cu]at R ⊢;have hr:AA.AG [a,b]=[a.row,b.row]:=F;rw[hr]at R;cases JN:PZ x s k0 with
 | true =>
   have Je:Dr x s src n=Bj (C8 (OP x.f s a [b] [])):=by rw[z,Q];simp[Ji,EC,JN,Xb,Xc]
   have K:=v5 x.f s a [b] [] h.hx.fit h.hx.val h.hs a1 a2 ZA ZA (by simpa using ⟨b1,b2⟩) ZA;rw[Uh]at K;rw[Je];obtain⟨o,ho⟩:=AI (Bj (C8 (OP x.f s a [b] [])));rw[ho]at K ⊢;rw[JN]at q;unfold Bb Aj Am at *
   simp only[AA.AG]at K;cases o with
   | some B=>have M:=Jl B;simp only[Dm,IZ,Awg,Ba,AR,As]at K M;simp only[BP,As];refine CH gF gJ ?_;exact qz (cj2 @Q @KA gM) (cj4 R K q M W)
   | none=>have M:=LG AA.zero m (BM x.f);simp only[Hr,H8,GW,Awh,Ba,AR,As]at K M;simp only[BP,As];refine CH gF gJ ?_;exact qz (cj2 @Q @KA gM) (cj4 R K q M W)
 | false =>
   have Je:Dr x s src n=Bj (C8 (Oc x.f s a [b] [])):=by rw[z,Q];simp[Ji,EC,JN,Xb,Xc]
   have K:=AWD x.f s a [b] [] h.hx.fit h.hx.val h.hs a1 a2 ZA ZA (by simpa using ⟨b1,b2⟩) ZA;rw[Uh]at K;rw[Je];generalize ho:Bj (C8 (Oc x.f s a [b] []))=o at K ⊢;rw[JN]at q;unfold Bb Aj Am at *
   simp only[AA.AG]at K;cases o with
   | some B=>have M:=Jl B;simp only[Dm,IZ,Awg,Ba,AR,As]at K M;simp only[BP,As];refine CH gF gJ ?_;exact qz (cj2 @Q @KA gM) (cj4 R K q M W)
   | none=>have M:=LG AA.zero m (BM x.f);simp only[Hr,H8,GW,Awh,Ba,AR,As]at K M;simp only[BP,As];refine CH gF gJ ?_;exact qz (cj2 @Q @KA gM) (cj4 R K q M W)
theorem AZL {x:Af}{m:Nat}{n:Nd}{src:List Int}{s:Aa}(h:RL x m n src s)(Q:n.kind=8)(k0:Nd)(kr:List Nd)(EC:n.AE=k0::kr):AQ AF 88 [Bb x m,Am n,.c (AV src),Aj s] m (BM x.f) (BM x.f) (BP (Dr x s src n)):=by
 obtain⟨ss,Cu⟩:=AI (AV src);rcases h.parts with ⟨z,hq⟩|⟨L,hl,hb,z,hq⟩
 rw[z];simp only[BP];rw[Cu]at hq ⊢;unfold Bb Aj Am at *
 refine CH gF gJ ?_;exact qz gM (cj hq<|trivial);have R:=hq.data VR;have Ej:=Qa h.own;have Mj:=Z3 h.own;rw[Q]at Ej Mj;obtain⟨a,b,rfl⟩:=rZ (L:=L) (by simp[FL]at Ej;omega);obtain⟨a1,a2,a3,a4⟩:=hb.one (b:=a) ZA;obtain⟨b1,b2,b3,b4⟩:=hb.one (b:=b) ZA;have q:=ABr x m k0 s h.hx;have KA:Nd.AG n.AE=k0.row::Nd.AG kr:=by rw[EC];rfl
 rw[Cu]at R ⊢;have hr:AA.AG [a,b]=[a.row,b.row]:=F;rw[hr]at R;cases JN:PZ x s k0 with
 | true =>
   have Je:Dr x s src n=Bj (C8 (OP x.f s a [] [b])):=by rw[z,Q];simp[Ji,EC,JN,Xb,Xc]
   have K:=v5 x.f s a [] [b] h.hx.fit h.hx.val h.hs a1 a2 ZA ZA ZA (by simpa using ⟨b1,b2⟩);rw[Uh]at K;rw[Je];obtain⟨o,ho⟩:=AI (Bj (C8 (OP x.f s a [] [b])));rw[ho]at K ⊢;rw[JN]at q;unfold Bb Aj Am at *
   simp only[AA.AG]at K;cases o with
   | some B=>have M:=Jl B;simp only[Dm,IZ,Awg,Ba,AR,As]at K M;simp only[BP,As];refine CH gF gJ ?_;exact qz (cj2 @Q @KA gM) (cj4 R K q M W)
   | none=>have M:=LG AA.zero m (BM x.f);simp only[Hr,H8,GW,Awh,Ba,AR,As]at K M;simp only[BP,As];refine CH gF gJ ?_;exact qz (cj2 @Q @KA gM) (cj4 R K q M W)
 | false =>
   have Je:Dr x s src n=Bj (C8 (Oc x.f s a [] [b])):=by rw[z,Q];simp[Ji,EC,JN,Xb,Xc]
   have K:=AWD x.f s a [] [b] h.hx.fit h.hx.val h.hs a1 a2 ZA ZA ZA (by simpa using ⟨b1,b2⟩);rw[Uh]at K;rw[Je];generalize ho:Bj (C8 (Oc x.f s a [] [b]))=o at K ⊢;rw[JN]at q;unfold Bb Aj Am at *
   simp only[AA.AG]at K;cases o with
   | some B=>have M:=Jl B;simp only[Dm,IZ,Awg,Ba,AR,As]at K M;simp only[BP,As];refine CH gF gJ ?_;exact qz (cj2 @Q @KA gM) (cj4 R K q M W)
   | none=>have M:=LG AA.zero m (BM x.f);simp only[Hr,H8,GW,Awh,Ba,AR,As]at K M;simp only[BP,As];refine CH gF gJ ?_;exact qz (cj2 @Q @KA gM) (cj4 R K q M W)
theorem AZM {x:Af}{m:Nat}{n:Nd}{src:List Int}{s:Aa}(h:RL x m n src s)(Q:n.kind=9)(k0:Nd)(kr:List Nd)(EC:n.AE=k0::kr):AQ AF 88 [Bb x m,Am n,.c (AV src),Aj s] m (BM x.f) (BM x.f) (BP (Dr x s src n)):=by
 obtain⟨ss,Cu⟩:=AI (AV src);rcases h.parts with ⟨z,hq⟩|⟨L,hl,hb,z,hq⟩
 rw[z];simp only[BP];rw[Cu]at hq ⊢;unfold Bb Aj Am at *
 refine CH gF gJ ?_;exact qz gM (cj hq<|trivial);have R:=hq.data VR;have Ej:=Qa h.own;have Mj:=Z3 h.own;rw[Q]at Ej Mj;obtain⟨a,b,c,rfl⟩:=AT9 (L:=L) (by simp[FL]at Ej;omega);obtain⟨a1,a2,a3,a4⟩:=hb.one (b:=a) ZA;obtain⟨b1,b2,b3,b4⟩:=hb.one (b:=b) ZA;obtain⟨c1,c2,c3,c4⟩:=hb.one (b:=c) ZA;have q:=ABr x m k0 s h.hx;have KA:Nd.AG n.AE=k0.row::Nd.AG kr:=by rw[EC];rfl
 rw[Cu]at R ⊢;have hr:AA.AG [a,b,c]=[a.row,b.row,c.row]:=F;rw[hr]at R;cases JN:PZ x s k0 with
 | true =>
   have Je:Dr x s src n=Bj (C8 (OP x.f s a [b] [c])):=by rw[z,Q];simp[Ji,EC,JN,Xb,Xc]
   have K:=v5 x.f s a [b] [c] h.hx.fit h.hx.val h.hs a1 a2 ZA ZA (by simpa using ⟨b1,b2⟩) (by simpa using ⟨c1,c2⟩);rw[Uh]at K;rw[Je];obtain⟨o,ho⟩:=AI (Bj (C8 (OP x.f s a [b] [c])));rw[ho]at K ⊢;rw[JN]at q;unfold Bb Aj Am at *
   simp only[AA.AG]at K;cases o with
   | some B=>have M:=Jl B;simp only[Dm,IZ,Awg,Ba,AR,As]at K M;simp only[BP,As];refine CH gF gJ ?_;exact qz (cj2 @Q @KA gM) (cj4 R K q M W)
   | none=>have M:=LG AA.zero m (BM x.f);simp only[Hr,H8,GW,Awh,Ba,AR,As]at K M;simp only[BP,As];refine CH gF gJ ?_;exact qz (cj2 @Q @KA gM) (cj4 R K q M W)
 | false =>
   have Je:Dr x s src n=Bj (C8 (Oc x.f s a [b] [c])):=by rw[z,Q];simp[Ji,EC,JN,Xb,Xc]
   have K:=AWD x.f s a [b] [c] h.hx.fit h.hx.val h.hs a1 a2 ZA ZA (by simpa using ⟨b1,b2⟩) (by simpa using ⟨c1,c2⟩);rw[Uh]at K;rw[Je];generalize ho:Bj (C8 (Oc x.f s a [b] [c]))=o at K ⊢;rw[JN]at q;unfold Bb Aj Am at *
   simp only[AA.AG]at K;cases o with
   | some B=>have M:=Jl B;simp only[Dm,IZ,Awg,Ba,AR,As]at K M;simp only[BP,As];refine CH gF gJ ?_;exact qz (cj2 @Q @KA gM) (cj4 R K q M W)
   | none=>have M:=LG AA.zero m (BM x.f);simp only[Hr,H8,GW,Awh,Ba,AR,As]at K M;simp only[BP,As];refine CH gF gJ ?_;exact qz (cj2 @Q @KA gM) (cj4 R K q M W)
theorem ANX (f:AP)(s:Aa)(B:Nat)(cells:List AA):N2 f s B cells=((Bj (N2 f s B cells)).getD AA.zero,if (Bj (N2 f s B cells)).isSome=I then 0 else 6):=by
 apply AIr;unfold N2;split;exact .inr F;unfold C8;split;exact .inl F;exact .inr F
theorem AUT {c:Int}{n:Nat}(h:FL 12 c n=I):∃B AG:Nat,c=(B:Int)/\n=AG*B/\1<=B/\B<=16/\1<=AG/\n<=256:=by
 simp only[FL,Awg,Ak,Awe]at h;obtain⟨o,q,z,Q,K⟩:=h;refine⟨c.toNat,n / c.toNat,Ux,?_,Ux,Ux,?_,Q⟩;have e:c=(c.toNat:Int):=Ux;rw[e]at K;have M:n % c.toNat=0:=by
  have:((n:Int).tmod (c.toNat:Int))=((n % c.toNat:Nat):Int):=F;rw[this]at K;omega
 exact(Nat.div_mul_cancel (AMw M)).symm;have e:c=(c.toNat:Int):=Ux;rw[e]at K;have M:n % c.toNat=0:=by
  have:((n:Int).tmod (c.toNat:Int))=((n % c.toNat:Nat):Int):=F;rw[this]at K;omega
 have R:c.toNat<=n:=Nat.le_of_dvd Ux (AMw M);exact Nat.div_pos R Ux
theorem AY2 {x:Af}{m:Nat}{n:Nd}{src:List Int}{s:Aa}(h:RL x m n src s)(hk:n.kind=12):AQ AF 91 [Bb x m,Am n,.c (AV src),Aj s] m (BM x.f) (BM x.f) (BP (Dr x s src n)):=by
 obtain⟨ss,Cu⟩:=AI (AV src);rcases h.parts with ⟨Ca,z⟩|⟨L,hl,q,Ca,z⟩
 rw[Ca];simp only[BP];rw[Cu]at z ⊢;unfold Bb Aj Am at *
 refine CH func91 ntmps91 ?_;exact qz ACV (cj z<|trivial);have R:=z.data VR;have Ej:=Qa h.own;rw[hk]at Ej;obtain⟨Q,AG,yx,kA,c1,c2,r1,n2⟩:=AUT Ej;have hC:Cells x s Q AG L:=⟨⟨by rw[hl,kA],c1,c2,r1,Ux,VN h.hx h.hs,ABT h.hx h.hs,λb CT=>⟨q.w b CT,(D3 (q.v b CT)).1.2⟩⟩,q.v,by have:=q.c;omega⟩
 have Je:Dr x s src n=Bj (N2 x.f s Q L):=by rw[Ca,hk];simp[Ji,yx]
 have K:=AWe x s Q AG L h.hx h.hs hC;rw[ANX]at K;rw[Je];generalize ho:Bj (N2 x.f s Q L)=o at K ⊢;rw[Cu]at R ⊢;generalize Aw:AA.AG L=rs at R K;unfold Bb Aj Am at *
 cases o with
 | some B=>have M:=Jl B;simp only[Dm,IZ,Awg,Ba,AR,As]at K M;simp only[BP,As];refine CH func91 ntmps91 ?_;exact qz (cj @yx<|ACV) (cj3 R K M W)
 | none=>have M:=LG AA.zero m (BM x.f);simp only[Hr,H8,GW,Awh,Ba,AR,As]at K M;simp only[BP,As];refine CH func91 ntmps91 ?_;exact qz (cj @yx<|ACV) (cj3 R K M W)
theorem AUi {n:Nd}(K:n.Cl=I)(B:n.kind=2\/n.kind=3\/n.kind=4):n.AE=[]:=by
 have:=Qa K;rcases B with h|h|h
 rw[h]at this;simp[FL]at this;exact this.2;rw[h]at this;simp[FL]at this;exact this.2;rw[h]at this;simp[FL]at this;exact this.2
theorem AAJ (src:List Int){n:Nd}(K:n.Cl=I)(B:n.kind=2\/n.kind=3\/n.kind=4):Dr x s src n=if n.kind=2 then x.sym s n.text else x.Po s n.text:=by
 have h:=AUi K B;unfold Dr;rw[h];simp only[Kh,Ji];rcases B with h|h|h<;>simp[h]
theorem AYl (o:G src<=100)(Q:n.kind=2)(B:AQ AF 84 [Bb x m,Am n,.c (AV src),Aj s] m (BM x.f) (BM x.f) (BP (Dr x s src n))):AQ AF 95 [Bb x m,Am n,.c (AV src),Aj s] m (BM x.f) (BM x.f) (BP (Fw x s src n)):=by
 rw[SD];have K:=λb=>OZ b 2 src Ux
 generalize R:AV src=q at B K ⊢;unfold Bb Aj Am at *
 cases M:Dr x s src n with
 | none=>rw[M]at B;simp only[BP]at B ⊢;refine CH AQp ARf ?_;exact qz (cj @Q<|vg) (cj B<|trivial)
 | some b=>rw[M]at B;have K:=K b;simp only[BP,As]at B K ⊢;refine CH AQp ARf ?_;exact qz (cj @Q<|vg) (cj2 B K W)
theorem AYm (o:G src<=100)(Q:n.kind=3)(B:AQ AF 85 [Bb x m,Am n,.c (AV src),Aj s] m (BM x.f) (BM x.f) (BP (Dr x s src n))):AQ AF 95 [Bb x m,Am n,.c (AV src),Aj s] m (BM x.f) (BM x.f) (BP (Fw x s src n)):=by
 rw[SD];have K:=λb=>OZ b 2 src Ux
 generalize R:AV src=q at B K ⊢;unfold Bb Aj Am at *
 cases M:Dr x s src n with
 | none=>rw[M]at B;simp only[BP]at B ⊢;refine CH AQp ARf ?_;exact qz (cj @Q<|vg) (cj B<|trivial)
 | some b=>rw[M]at B;have K:=K b;simp only[BP,As]at B K ⊢;refine CH AQp ARf ?_;exact qz (cj @Q<|vg) (cj2 B K W)
theorem AYn (o:G src<=100)(Q:n.kind=4)(B:AQ AF 85 [Bb x m,Am n,.c (AV src),Aj s] m (BM x.f) (BM x.f) (BP (Dr x s src n))):AQ AF 95 [Bb x m,Am n,.c (AV src),Aj s] m (BM x.f) (BM x.f) (BP (Fw x s src n)):=by
 rw[SD];have K:=λb=>OZ b 2 src Ux
 generalize R:AV src=q at B K ⊢;unfold Bb Aj Am at *
 cases M:Dr x s src n with
 | none=>rw[M]at B;simp only[BP]at B ⊢;refine CH AQp ARf ?_;exact qz (cj @Q<|vg) (cj B<|trivial)
 | some b=>rw[M]at B;have K:=K b;simp only[BP,As]at B K ⊢;refine CH AQp ARf ?_;exact qz (cj @Q<|vg) (cj2 B K W)
theorem AYo (o:G src<=100)(Q:n.kind=5)(B:AQ AF 86 [Bb x m,Am n,.c (AV src),Aj s] m (BM x.f) (BM x.f) (BP (Dr x s src n))):AQ AF 95 [Bb x m,Am n,.c (AV src),Aj s] m (BM x.f) (BM x.f) (BP (Fw x s src n)):=by
 rw[SD];have K:=λb=>OZ b 2 src Ux
 generalize R:AV src=q at B K ⊢;unfold Bb Aj Am at *
 cases M:Dr x s src n with
 | none=>rw[M]at B;simp only[BP]at B ⊢;refine CH AQp ARf ?_;exact qz (cj @Q<|vg) (cj B<|trivial)
 | some b=>rw[M]at B;have K:=K b;simp only[BP,As]at B K ⊢;refine CH AQp ARf ?_;exact qz (cj @Q<|vg) (cj2 B K W)
theorem AYp (o:G src<=100)(Q:n.kind=6)(B:AQ AF 87 [Bb x m,Am n,.c (AV src),Aj s] m (BM x.f) (BM x.f) (BP (Dr x s src n))):AQ AF 95 [Bb x m,Am n,.c (AV src),Aj s] m (BM x.f) (BM x.f) (BP (Fw x s src n)):=by
 rw[SD];have K:=λb=>OZ b 2 src Ux
 generalize R:AV src=q at B K ⊢;unfold Bb Aj Am at *
 cases M:Dr x s src n with
 | none=>rw[M]at B;simp only[BP]at B ⊢;refine CH AQp ARf ?_;exact qz (cj @Q<|vg) (cj B<|trivial)
 | some b=>rw[M]at B;have K:=K b;simp only[BP,As]at B K ⊢;refine CH AQp ARf ?_;exact qz (cj @Q<|vg) (cj2 B K W)
theorem AYq (o:G src<=100)(Q:n.kind=7)(B:AQ AF 88 [Bb x m,Am n,.c (AV src),Aj s] m (BM x.f) (BM x.f) (BP (Dr x s src n))):AQ AF 95 [Bb x m,Am n,.c (AV src),Aj s] m (BM x.f) (BM x.f) (BP (Fw x s src n)):=by
 rw[SD];have K:=λb=>OZ b 2 src Ux
 generalize R:AV src=q at B K ⊢;unfold Bb Aj Am at *
 cases M:Dr x s src n with
 | none=>rw[M]at B;simp only[BP]at B ⊢;refine CH AQp ARf ?_;exact qz (cj @Q<|vg) (cj B<|trivial)
 | some b=>rw[M]at B;have K:=K b;simp only[BP,As]at B K ⊢;refine CH AQp ARf ?_;exact qz (cj @Q<|vg) (cj2 B K W)
theorem AYr (o:G src<=100)(Q:n.kind=8)(B:AQ AF 88 [Bb x m,Am n,.c (AV src),Aj s] m (BM x.f) (BM x.f) (BP (Dr x s src n))):AQ AF 95 [Bb x m,Am n,.c (AV src),Aj s] m (BM x.f) (BM x.f) (BP (Fw x s src n)):=by
 rw[SD];have K:=λb=>OZ b 2 src Ux
 generalize R:AV src=q at B K ⊢;unfold Bb Aj Am at *
 cases M:Dr x s src n with
 | none=>rw[M]at B;simp only[BP]at B ⊢;refine CH AQp ARf ?_;exact qz (cj @Q<|vg) (cj B<|trivial)
 | some b=>rw[M]at B;have K:=K b;simp only[BP,As]at B K ⊢;refine CH AQp ARf ?_;exact qz (cj @Q<|vg) (cj2 B K W)
theorem AYs (o:G src<=100)(Q:n.kind=9)(B:AQ AF 88 [Bb x m,Am n,.c (AV src),Aj s] m (BM x.f) (BM x.f) (BP (Dr x s src n))):AQ AF 95 [Bb x m,Am n,.c (AV src),Aj s] m (BM x.f) (BM x.f) (BP (Fw x s src n)):=by
 rw[SD];have K:=λb=>OZ b 2 src Ux
 generalize R:AV src=q at B K ⊢;unfold Bb Aj Am at *
 cases M:Dr x s src n with
 | none=>rw[M]at B;simp only[BP]at B ⊢;refine CH AQp ARf ?_;exact qz (cj @Q<|vg) (cj B<|trivial)
 | some b=>rw[M]at B;have K:=K b;simp only[BP,As]at B K ⊢;refine CH AQp ARf ?_;exact qz (cj @Q<|vg) (cj2 B K W)
theorem AYi (o:G src<=100)(Q:n.kind=10)(B:AQ AF 89 [Bb x m,Am n,.c (AV src),Aj s] m (BM x.f) (BM x.f) (BP (Dr x s src n))):AQ AF 95 [Bb x m,Am n,.c (AV src),Aj s] m (BM x.f) (BM x.f) (BP (Fw x s src n)):=by
 rw[SD];have K:=λb=>OZ b 2 src Ux
 generalize R:AV src=q at B K ⊢;unfold Bb Aj Am at *
 cases M:Dr x s src n with
 | none=>rw[M]at B;simp only[BP]at B ⊢;refine CH AQp ARf ?_;exact qz (cj @Q<|vg) (cj B<|trivial)
 | some b=>rw[M]at B;have K:=K b;simp only[BP,As]at B K ⊢;refine CH AQp ARf ?_;exact qz (cj @Q<|vg) (cj2 B K W)
theorem AYj (o:G src<=100)(Q:n.kind=11)(B:AQ AF 90 [Bb x m,Am n,.c (AV src),Aj s] m (BM x.f) (BM x.f) (BP (Dr x s src n))):AQ AF 95 [Bb x m,Am n,.c (AV src),Aj s] m (BM x.f) (BM x.f) (BP (Fw x s src n)):=by
 rw[SD];have K:=λb=>OZ b 2 src Ux
 generalize R:AV src=q at B K ⊢;unfold Bb Aj Am at *
 cases M:Dr x s src n with
 | none=>rw[M]at B;simp only[BP]at B ⊢;refine CH AQp ARf ?_;exact qz (cj @Q<|vg) (cj B<|trivial)
 | some b=>rw[M]at B;have K:=K b;simp only[BP,As]at B K ⊢;refine CH AQp ARf ?_;exact qz (cj @Q<|vg) (cj2 B K W)
theorem AYk (o:G src<=100)(Q:n.kind=12)(B:AQ AF 91 [Bb x m,Am n,.c (AV src),Aj s] m (BM x.f) (BM x.f) (BP (Dr x s src n))):AQ AF 95 [Bb x m,Am n,.c (AV src),Aj s] m (BM x.f) (BM x.f) (BP (Fw x s src n)):=by
 rw[SD];have K:=λb=>OZ b 2 src Ux
 generalize R:AV src=q at B K ⊢;unfold Bb Aj Am at *
 cases M:Dr x s src n with
 | none=>rw[M]at B;simp only[BP]at B ⊢;refine CH AQp ARf ?_;exact qz (cj @Q<|vg) (cj B<|trivial)
 | some b=>rw[M]at B;have K:=K b;simp only[BP,As]at B K ⊢;refine CH AQp ARf ?_;exact qz (cj @Q<|vg) (cj2 B K W)
theorem AY5 {q:Int}(B:0<=q)(z:q<=1073741824){l r:Nat}(R:l<8)(o:r<8)(v:Int):0<=Qt q l r v/\Qt q l r v<=1073741824:=by
 refine⟨AK8 B l r v,?_⟩;have M:0<=VX l r v/\VX l r v<=3:=by
  have:=AK7 l r R o;unfold VX;split;split<;>omega;omega
 unfold Qt;generalize hK:VX l r v=K at M ⊢;split;omega;unfold ka;split;have Q:0<=q*(K+2):=Int.mul_nonneg B Ux;have h4:q*(K+2)<=q*5:=aF Ux B;unfold Ea;rw[Awd Q];omega;omega
theorem ALA {q:Int}(K:0<=q)(M:q<=1073741824)(v:Int):∀(l:List Int) (p:Int),(0<=p/\p<=7)->(∀k∈l,0<=k/\k<=7)->∀k∈T1 q v p l,An k=I
 | [],_,_,_,k,B=>by cases B
 | c::l,p,z,Q,k,B=>by
   have R:=Q c GH;simp only[T1]at B;rcases Cf.1 B with rfl|B
   have:=AY5 K M (l:=p.toNat) (r:=c.toNat) Ux Ux v;unfold An;simp;omega;exact ALA K M v l c R (λj o=>Q j (Gk _ o)) k B
theorem ALD {x:Af}(M:x.Ok){s:Aa}(hs:s.ok=I)(AE:List Nd):(x.CC s AE).all An=true:=by
 rw[ES];intro k B;have K:=AAx M.dv AE;unfold Af.CC at B;cases Q:I6 (JP x.d AE)with
 | nil=>rw[Q]at B;cases B
 | cons c l =>
   rw[Q]at B K;simp only[CC]at B;rcases Cf.1 B with rfl|B
   decide;exact ALA (VN M hs) (ABT M hs) _ l c (K c GH) (λj R=>K j (Gk _ R)) k B
theorem AY9 (AE:List Nd):G (x.CC s AE)=G AE:=by
 unfold Af.CC;rw[fF,ef,Zh]
def oB (x:Af)(m:Nat)(n:Nd)(src:List Int)(s:Aa):Prop:=∀(j:Nat) (k:Nd),n.AE[j]?=J k->AQ AF 95 [Bb x m,Am k,.c (AV (src++[(j:Int)])),Aj s] m (BM x.f) (BM x.f) (BP (NZ x s src j k))
structure oF (x:Af)(n:Nd)(src:List Int)(s:Aa):Prop where
 hx:x.Ok
 hs:s.ok=I
 k1:n.kind=1
 form:n.Jb=I
 ok:n.BX
 cn:n.cnt<=80
 dp:n.BR<=24
 sr:Src src 0 n.BR
theorem AH6 {x:Af}(R:x.Ok){s:Aa}(hs:s.ok=I){src:List Int}{d:Nat}(Q:Src src 0 (d+1)):∀(l:List Nd) (i:Nat) (L:List AA),Nd.deps l<=d->Nd.MY 1 l=I->Kb x s src i l=J L->(∀b∈L,b.Ad=I)/\AA.Az L<=10000*Nd.Az l/\(G L)=G l
 | [],i,L,_,_,h=>by
   simp only[Kb,BL]at h;subst h;exact⟨λb K=>(by cases K),by simp[AA.Az],rfl⟩
 | n::l,i,L,hd,B,h=>by
   simp only[Nd.deps]at hd;simp only[Nd.MY,Ak]at B;simp only[Kb]at h;split at h;cases h;rename_i b K;split at h;cases h;rename_i r hr;simp only[BL]at h;subst h;obtain⟨z,h2,h3⟩:=AH6 R hs Q l (i+1) r Ux B.2 hr;have o:=B.1.2;rw[dg,Ak]at o;have q:n.kind≠1:=by intro e;have:=B.1.1;rw[e]at this;simp[Pa]at this
   obtain⟨h4,h5⟩:=AH0 R hs o.1 q (Q.add i Ux) K;refine⟨λc M=>?_,?_,by simp[h3]⟩;rcases Cf.1 M with rfl|M
   exact h4;exact z c M;simp only[AA.Az,Nd.Az];omega
theorem ABc {n:Nd}(h:n.Jb=I)(M:n.kind=1):n=Dd n.AE:=by
 obtain⟨k,t,c,AE⟩:=n;simp only at M;subst M;simp only[Nd.Jb,Ak]at h;have B:=h.1.1;have K:=h.1.2;simp[Ki]at B;simp[FL]at K;rw[B,K.1];rfl
theorem AZH (h:oF x n src s)(z:n.AE=[]):AQ AF 52 [Bb x m,Am n,.c (AV src),Aj s] m (BM x.f) (BM x.f) (BP (GU x s src n)):=by
 have DJ:=h.sr.len;have Av:GU x s src n=J (x.empty s src):=by
  obtain⟨k,t,c,AE⟩:=n;simp only at z;subst z;simp[GU]
 rw[Av];have NT:=tC x m x.f.params.Al s h.hs;have Ta:=EI (x.Al s) 50;have zn:=tC x m x.f.params.Gj s h.hs;have zo:AU x.f.params.Al (x.sz s)=x.Al s:=F;rw[zo]at NT;obtain⟨H,hH⟩:=AI (AU x.f.params.Gj (x.sz s));rw[hH]at zn;have K:=λw=>My w H 0 [] trivial (by simp[AA.Az])
 have B:=λw=>OZ (Bf w H 0 []) 1 src Ux
 have Fg:Nd.AG n.AE=[]:=by rw[z];rfl
 simp only[AA.AG]at K;obtain⟨ss,Cu⟩:=AI (src.map (λn=>[C.int .i64 n]));have Rp:AV src=.sl ss:=by rw[<-Cu];rfl
 have rH:G ss=G src:=by rw[<-Cu];simp
 unfold Af.empty;rw[hH];rw[Rp]at B ⊢;by_cases M:src=[]
 have o:G src=0:=by rw[M];rfl
 rw[Awd M];have K:=K 0;have B:=B 0;obtain⟨Q,q⟩:=AI (Bf 0 H 0 []);obtain⟨B1,R⟩:=AI (Q.mark 1 src);rw[q]at K B ⊢;rw[R]at B ⊢;rw[o]at rH;simp only[BP,As]at *
 unfold Bb Aj Am at *
 refine CH ID ARU ?_;exact qz (cj2 @Fg @rH gy) (cj3 zn K B trivial);have o:0<G src:=Kr.2 M;rw[Awf M];generalize hW:AU (x.Al s) 50=W at Ta ⊢;have K:=K W;have B:=B W;obtain⟨Q,q⟩:=AI (Bf W H 0 []);obtain⟨B1,R⟩:=AI (Q.mark 1 src);rw[q]at K B ⊢;rw[R]at B ⊢;simp only[BP,As]at *
 unfold Bb Aj Am at *
 refine CH ID ARU ?_;exact qz (cj3 @Fg @rH @o gy) (cj5 NT Ta zn K B trivial)
theorem AKu (J:Nat)(R:oB x m n src s)(hJ:J<=G n.AE)(q : ∀j k,j<J->n.AE[j]?=some k->NZ x s src j k≠E)(L:List AA)(o:QY x s src 0 n.AE=L)(j:Nat)(z:j<J):
 ∃k B,n.AE[j]?=some k/\L[j]?=some B/\AQ AF 95 [Bb x m,Am k,.c (AV (src++[(j:Int)])),Aj s] m (BM x.f) (BM x.f) (.ret (Ao B)):=by
 obtain⟨k,K⟩:∃k,n.AE[j]?=some k:=⟨_,BE Ux⟩
 have Q:=R j k K;cases M:NZ x s src j k with
 | none=>exact absurd M (q j k z K)
 | some B=>rw[M]at Q;refine⟨k,B,K,?_,Q⟩;rw[<-o,AH2 x s src 0 n.AE j k K,Cz,M];rfl
theorem AZI (h:oF x n src s)(hn:n.AE≠[])(Bn:oB x m n src s)(ha : ∀j k,n.AE[j]?=J k->NZ x s src j k≠E):AQ AF 52 [Bb x m,Am n,.c (AV src),Aj s] m (BM x.f) (BM x.f) (BP (GU x s src n)):=by
 have DJ:=h.sr.len;have OI:=ABc h.form h.k1;have A5:=h.ok;have FX:=h.cn;have zJ:=h.form;have qX:=h.dp;have D2:=h.sr;have Ur:Kb x s src 0 n.AE=J (QY x s src 0 n.AE):=AH4 x s src 0 n.AE λj k hj=>by rw[Cz];exact ha j k hj
 have K:=AAK x s src 0 n.AE;obtain⟨L,hL⟩:=AI (QY x s src 0 n.AE);have hR:=AKu x m n src s (G n.AE) Bn (BN _) (λj k _ h=>ha j k h) L hL;rw[hL]at K Ur;have Av:GU x s src n=match Bj (F9 L (x.CC s n.AE))with|none=>E|some b=>J (b.mark 1 src):=by
  obtain⟨k,t,c,AE⟩:=n;simp only at hn Ur;unfold GU;rw[Awf hn,Ur];simp only;cases Bj (F9 L (x.CC s AE))<;>rfl
 rw[OI]at A5 FX zJ qX D2;have j6:=zJ;rw[dg,Ak]at j6;have rK:(Dd n.AE).Ad=true:=by
  unfold Nd.Ad;rw[zJ,Awk (show (Dd n.AE).kind=1 from rfl),Awk (by omega:(Dd n.AE).cnt<=1000),Awk qX];rfl
 have M:=ABJ x s n.AE h.hx h.hs A5 Ux rK;have A1:=ke (Dd n.AE);rw[A1]at D2;obtain⟨Fv,IK,_⟩:=AH6 h.hx h.hs D2 n.AE 0 L (BN _) j6.2 Ur;have zA:=Tm (Dd n.AE);have A3:Nd.Az n.AE<=80:=by have:(Dd n.AE).AE=n.AE:=F;rw[this]at zA;omega
 have Ce:=SH n.AE;obtain⟨ze,kB⟩:=AVT Fv;have A6:=AY9 x s n.AE;have z:=kx L (x.CC s n.AE) ze Ux Ux Ux;rw[sm kB Ux (ALD h.hx h.hs n.AE)]at z;obtain⟨o,ho⟩:=AI (Bj (F9 L (x.CC s n.AE)));rw[ho]at z Av;rw[Av];have B8:=λb=>OZ b 1 src Ux
 generalize yQ:AV (x.CC s n.AE)=SP at M z;obtain⟨rs,Aw⟩:=AI (Nd.AG n.AE);have Rz:G rs=G n.AE:=by rw[<-Aw,Pc]
 have Yw : ∀(j:Nat) (k:Nd),n.AE[j]?=J k->rs[j]?=J k.row:=λj k hj=>by rw[<-Aw];exact XG hj
 obtain⟨ss,Cu⟩:=AI (AV src);obtain⟨N,hN⟩:=AI (G n.AE);have cL:0<N:=by rw[<-hN];exact Kr.2 hn
 have Ew:(N:Int)<=9223372036854775807:=Ux;have FP:128*(N:Int)<=281474976710656:=Ux;rw[Aw]at M;rw[Cu]at B8 ⊢;rw[hN]at hR K Rz Ce;obtain⟨kd,t,c,AE⟩:=n;simp only at hR Yw Aw;simp only[Am,Nd.vs,Nd.row,Ap,BB,Aw];simp only[AR]at M;unfold Bb Aj at *
 clear Ur Av ha Bn Fv IK ho;have yG : ¬N=0:=Ux;have e0:=iY L K.symm;simp only[BT]at e0;refine CH ID ARU ?_;refine qy (cj4 @Rz @Ew @FP @yG gy) trivial ⟨?_⟩;rw[e0];refine CX (ι:={ k:Nat // k<=N }) (λk=>[(52,(k.1:Int))]) (λk=>[O.mp (Ci m (BM x.f)),O.box 33 [kd,.c (.str t),c,.c (.sl rs)] U,O.box 35 [s.By,.c (.bool s.Hd)] U,O.box 56 BT U,O.box 56 (Ht L k.1) U]) (λk=>N - k.1) ⟨0,CI _⟩ ?_ ?_;exact ER @BT.eq_1;rintro ⟨k,Yq⟩;simp only at Yq ⊢;by_cases R:k<N;obtain⟨q,B,hq,hB,hc⟩:=hR k R;have A9:=Yw k q hq;have Bu:=gx A9;have Dh:k<G rs:=Ux;have Q:=pR src [(k:Int)] Ux ZA ZA;have hw:AZ.wrap ((k:Int)+1)=((k+1:Nat):Int):=by rw[Ac];simp
 have OC:k<G L:=Ux;have A0:=ia L k OC;have Yo:L[k]=B:=by rw[BE OC]at hB;exact ML hB
 have Dz:k*11+11<=G (Ht L k):=by rw[iZ _ _ Ux];omega
 rw[Yo]at A0;unfold Am at hc;simp only[As]at hc;have Rp:AV [(k:Int)]=.sl [[.int .i64 (k:Int)]]:=F;rw[Rp,Cu]at Q;obtain⟨sk,A2⟩:=AI (AV (src++[(k:Int)]));rw[A2]at Q hc;clear z B8 M;refine qy (cj8 @R @hw @Rz @A9 @Bu @Dh @Dz @A0 gy) (cj2 Q hc W) ⟨?_⟩;refine⟨⟨k+1,R⟩,by simp only;omega,?_⟩;refine Le.MI 5 (F2 F) (by simp[DG,P4,BT]) (by simp[P4,BT]) (by simp[V.BI,V.A8]) (by simp[O.A8,V.BI,V.A8,P4,BT]);obtain rfl:k=N:=Ux;clear hR Yw;refine qu (.mk 12) (cj2 @R @Rz gy) trivial ⟨?_⟩;rw[<-K];refine AW.Bi 4 rfl (AEL L) (by simp[V.Cs,V.Bi,ox];exact rfl) (by simp[O.Bi,V.Cs,V.Bi,ox,AEM,BT];exact rfl) ?_;cases o with
 | some B=>have CD:=Jl B;have B8:=B8 B;simp only[Dm,IZ,Awg,Ba,AR,As]at z CD B8;simp only[BP,As];exact qz (cj @Rz<|gy) (cj4 M z CD B8 W)
 | none=>have CD:=LG AA.zero m (BM x.f);simp only[Hr,H8,GW,Awh,Ba,AR,As]at z CD;simp only[BP,As];exact qz (cj @Rz<|gy) (cj3 M z CD W)
theorem AZJ (h:oF x n src s)(Bn:oB x m n src s)(J:Nat)(q0:Nd)(z:n.AE[J]?=some q0)(qL:NZ x s src J q0=E)(ha : ∀j k,j<J->n.AE[j]?=some k->NZ x s src j k≠E):AQ AF 52 [Bb x m,Am n,.c (AV src),Aj s] m (BM x.f) (BM x.f) (BP (GU x s src n)):=by
 have DJ:=h.sr.len;have YT:J<G n.AE:=(Br.1 z).1;have FX:=h.cn;have zA:=Tm n;have Ce:=SH n.AE;have Ur:Kb x s src 0 n.AE=none:=AH5 x s src 0 n.AE J q0 z (by rw[Cz];exact qL);have M:=AAK x s src 0 n.AE;obtain⟨L,hL⟩:=AI (QY x s src 0 n.AE);have hR:=AKu x m n src s J Bn Ux ha L hL;have R:=Bn J q0 z;rw[qL]at R;rw[hL]at M;have Av:GU x s src n=none:=by
  obtain⟨k,t,c,AE⟩:=n;simp only at Ur YT;unfold GU;rw[Awf (by intro e;rw[e]at YT;exact absurd YT (UE _)),Ur]
 rw[Av];obtain⟨rs,Aw⟩:=AI (Nd.AG n.AE);have Rz:G rs=G n.AE:=by rw[<-Aw,Pc]
 have Yw : ∀(j:Nat) (k:Nd),n.AE[j]?=some k->rs[j]?=some k.row:=λj k hj=>by rw[<-Aw];exact XG hj
 obtain⟨ss,Cu⟩:=AI (AV src);obtain⟨N,hN⟩:=AI (G n.AE);have Ew:(N:Int)<=9223372036854775807:=Ux;have FP:128*(N:Int)<=281474976710656:=Ux;rw[Cu];rw[hN]at M Rz Ce YT;obtain⟨kd,t,c,AE⟩:=n;simp only at hR Yw Aw z;simp only[Am,Nd.vs,Nd.row,Ap,BB,Aw];simp only[BP]at R ⊢;unfold Bb Aj at *
 clear Ur Av ha Bn;have yG : ¬N=0:=Ux;have e0:=iY L M.symm;simp only[BT]at e0;refine CH ID ARU ?_;refine qy (cj4 @Rz @Ew @FP @yG gy) trivial ⟨?_⟩;rw[e0];refine CX (ι:={ k:Nat // k<=J }) (λk=>[(52,(k.1:Int))]) (λk=>[O.mp (Ci m (BM x.f)),O.box 33 [kd,.c (.str t),c,.c (.sl rs)] U,O.box 35 [s.By,.c (.bool s.Hd)] U,O.box 56 BT U,O.box 56 (Ht L k.1) U]) (λk=>J - k.1) ⟨0,CI _⟩ ?_ ?_;exact ER @BT.eq_1;rintro ⟨k,Yq⟩;simp only at Yq ⊢;have dB:k<N:=Ux;have Dh:k<G rs:=Ux;have K:=pR src [(k:Int)] Ux ZA ZA;have hw:AZ.wrap ((k:Int)+1)=((k+1:Nat):Int):=by rw[Ac];simp
 have OC:k<G L:=Ux;have Q:=ia L k OC;have Dz:k*11+11<=G (Ht L k):=by rw[iZ _ _ Ux];omega
 have Rp:AV [(k:Int)]=.sl [[.int .i64 (k:Int)]]:=F;rw[Rp,Cu]at K;obtain⟨sk,A1⟩:=AI (AV (src++[(k:Int)]));by_cases A0:k<J;obtain⟨q,B,hq,hB,hc⟩:=hR k A0;have o:=Yw k q hq;have Bu:=gx o;have Yo:L[k]=B:=by rw[BE OC]at hB;exact ML hB
 rw[Yo]at Q;unfold Am at hc;simp only[As]at hc;rw[A1]at K hc;clear R;refine qy (cj8 @dB @hw @Rz @o @Bu @Dh @Dz @Q gy) (cj2 K hc W) ⟨?_⟩;refine⟨⟨k+1,A0⟩,by simp only;omega,?_⟩;refine Le.MI 5 (F2 F) (by simp[DG,P4,BT]) (by simp[P4,BT]) (by simp[V.BI,V.A8]) (by simp[O.A8,V.BI,V.A8,P4,BT]);obtain rfl:k=J:=Ux;have o:=Yw k q0 z;have Bu:=gx o;unfold Am at R;rw[A1]at K R;exact qz (cj7 @dB @hw @Rz @o @Bu @Dh @Dz gy) (cj2 K R W)
structure ADg (x:Af)(n:Nd)(src:List Int)(s:Aa):Prop where
 hx:x.Ok
 hs:s.ok=I
 k1:n.kind≠1
 form:n.Jb=I
 ok:n.BX
 cn:n.cnt<=80
 dp:n.BR<=24
 sr:Src src 1 n.BR
theorem AAP {n k:Nd}(q:n.Jb=I)(ho:n.BX)(K:k∈n.AE):k.Jb=I/\Pa n.kind k.kind=U/\k.BX/\k.cnt<n.cnt/\k.BR<n.BR:=by
 obtain⟨M,t,c,AE⟩:=n;simp only at K;rw[dg,Ak]at q;have B:=q.2;simp only at B ⊢;have key : ∀l:List Nd,Nd.MY M l=I->k∈l->k.Jb=I/\Pa M k.kind=U/\k.cnt<=Nd.Az l:=by
  intro l;induction l with
  | nil=>intro _ h;cases h
  | cons a l ih =>
    intro h o;simp only[Nd.MY,Ak]at h;simp only[Nd.Az];rcases Cf.1 o with rfl|o
    exact⟨h.1.2,by simpa using h.1.1,Ux⟩;obtain⟨Q,R,z⟩:=ih h.2 o;exact⟨Q,R,Ux⟩
 obtain⟨Q,R,z⟩:=key AE B K;have h4:=AIh AE k K;have h5:=Tm ⟨M,t,c,AE⟩;have h6:=ke ⟨M,t,c,AE⟩;simp only at h5 h6;exact⟨Q,R,di ho.2.2 k K,Ux,Ux⟩
theorem get_mem {l:List Nd}{j:Nat}{k:Nd}(h:l[j]?=J k):k∈l:=Cj h
theorem ATt {n:Nd}(B:n.Cl=I)(K:n.kind≠1):n.kind=2\/n.kind=3\/n.kind=4\/n.kind=5\/n.kind=6\/n.kind=7\/n.kind=8\/n.kind=9\/n.kind=10\/n.kind=11\/n.kind=12:=by
 have h:=Qa B;unfold FL at h;repeat' split at h
 all_goals first
  | (exact absurd rfl (by simpa using h))
  | omega
  | (cases h)
theorem rT {n:Nd}(K:n.Cl=I)(B:n.kind=6\/n.kind=7\/n.kind=8\/n.kind=9):∃a r,n.AE=a::r:=by
 have h:=Qa K;cases M:n.AE with
 | cons a r=>exact⟨a,r,F⟩
 | nil =>
   rw[M]at h;rcases B with e|e|e|e<;>rw[e]at h<;>simp[FL]at h
theorem AYt (h:ADg x n src s)(o:ADo x m n src s):AQ AF 95 [Bb x m,Am n,.c (AV src),Aj s] m (BM x.f) (BM x.f) (BP (Fw x s src n)):=by
 have B:=h.form;rw[dg,Ak]at B;have M:RL x m n src s:=⟨h.hx,h.hs,B.1,h.k1,B.2,h.sr,h.cn,o⟩
 have K:G src<=100:=by have:=h.sr.len;omega
 have R:=Z3 B.1;rcases ATt B.1 h.k1 with e|e|e|e|e|e|e|e|e|e|e
 refine AYl x m n src s K e ?_;rw[AAJ x s src B.1 (.inl e),Awd e];exact AZP x m n src s h.hx h.hs (by rw[e]at R;simpa [Ki]using R);refine AYm x m n src s K e ?_;rw[AAJ x s src B.1 (.inr (.inl e)),Awf Ux];obtain⟨t1,t2⟩:=AIm (t:=n.text) (by rw[e]at R;simpa [Ki]using R);exact ALK x m n src s h.hx h.hs t1 t2;refine AYn x m n src s K e ?_;rw[AAJ x s src B.1 (.inr (.inr e)),Awf Ux];obtain⟨t1,t2⟩:=AJx (t:=n.text) (by rw[e]at R;simpa [Ki]using R);exact ALK x m n src s h.hx h.hs t1 t2;exact AYo x m n src s K e (AYc M e);obtain⟨a,r,Q⟩:=rT B.1 (.inl e);exact AYp x m n src s K e (AZG M e a r Q);obtain⟨a,r,Q⟩:=rT B.1 (.inr (.inl e));exact AYq x m n src s K e (AZK M e a r Q);obtain⟨a,r,Q⟩:=rT B.1 (.inr (.inr (.inl e)));exact AYr x m n src s K e (AZL M e a r Q);obtain⟨a,r,Q⟩:=rT B.1 (.inr (.inr (.inr e)));exact AYs x m n src s K e (AZM M e a r Q);exact AYi x m n src s K e (AYU M e);exact AYj x m n src s K e (AYb M e);exact AYk x m n src s K e (AY2 M e)
theorem AKX :∀n:Nd,(∀src s,oF x n src s->AQ AF 52 [Bb x m,Am n,.c (AV src),Aj s] m (BM x.f) (BM x.f) (BP (GU x s src n)))/\(∀src s,ADg x n src s->AQ AF 95 [Bb x m,Am n,.c (AV src),Aj s] m (BM x.f) (BM x.f) (BP (Fw x s src n))):=AAi λn ih=>by
 refine⟨λsrc s h=>?_,λsrc s h=>?_⟩;by_cases hn:n.AE=[]
 exact AZH x m n src s h hn;have qK:oB x m n src s:=λj k B=>by
  obtain⟨f1,f2,f3,f4,f5⟩:=AAP h.form h.ok (get_mem B);have o:k.kind≠1:=by intro e;rw[h.k1,e]at f2;simp[Pa]at f2
  have M:=h.sr;have FX:=h.cn;have qX:=h.dp;obtain⟨d,hd⟩:∃d,n.BR=d+1:=⟨n.BR - 1,Ux⟩
  rw[hd]at M;exact(ih k (get_mem B)).2 _ _ ⟨h.hx,h.hs,o,f1,f3,Ux,Ux,M.add j Ux⟩
 by_cases K : ∀j k,n.AE[j]?=J k->NZ x s src j k≠E;exact AZI x m n src s h hn qK K;obtain⟨j,k,B,R,z⟩:=AFd (p:=λj k=>NZ x s src j k≠E) n.AE K;exact AZJ x m n src s h qK j k B (uE.1 R) λi q hi hq=>z i q hi hq
 have hf:=h.form;rw[dg,Ak]at hf;have Q:oG x m n src s:=λj k B=>by
  obtain⟨f1,f2,f3,f4,f5⟩:=AAP h.form h.ok (get_mem B);have o:k.kind=1:=by
   have hk:=h.k1;by_cases e:k.kind=1;exact e;simp[Pa,hk,e]at f2
  have M:=h.sr;have FX:=h.cn;have qX:=h.dp;obtain⟨d,hd⟩:∃d,n.BR=d+1:=⟨n.BR - 1,Ux⟩
  rw[hd]at M;exact(ih k (get_mem B)).1 _ _ ⟨h.hx,ABs h.hs,o,f1,f3,Ux,Ux,M.add j Ux⟩
 refine AYt x m n src s h ?_;have Ej:=Qa hf.1;have zA:=Tm n;have Ce:=SH n.AE;have FX:=h.cn;have zT:=h.sr.len;by_cases K : ∀j k,n.AE[j]?=J k->M2 x s src n.kind j k≠E;refine .inl ⟨Oe x s src n.kind 0 n.AE,AK2 x s src n.kind 0 n.AE λj k B=>by rw[Cz];exact K j k B,?_⟩;have:=AZN x m n src s h.hs Ej h.k1 Ux Ux Q K;rwa [show G n.AE=G (AA.AG (Oe x s src n.kind 0 n.AE)) by rw[GA,tB]]at this
 obtain⟨j,k,B,R,z⟩:=AFd (p:=λj k=>M2 x s src n.kind j k≠E) n.AE K;exact .inr ⟨AK3 x s src n.kind 0 n.AE j k B (by rw[Cz];exact uE.1 R),AZO x m n src s h.hs Ej h.k1 Ux Ux Q j k B (uE.1 R) λi q hi hq=>z i q hi hq⟩
def toCm1 (j m:Nat):V->Option C
 | .c c=>J c
 | .mp i=>if i=j then J (.MA m)else E
 | .fn f []=>J (.EV f)
 | .Bg r=>J (.sl r)
 | _=>E
def toCm (j m:Nat):List V->Option (List C)
 | []=>J []
 | v::l=>match toCm1 j m v,toCm j m l with
   | some c,J r=>J (c::r)
   | _,_=>E
theorem toCm1_ok {x:Cx}{w:World}{j:Nat} : ∀ {v:V} {c:C} {u:Value},toCm1 j (x.loc j).b v=J c->CV x w v u->Ab x.S w c u:=by
 intro v c u h B;unfold toCm1 at h;split at h;cases h;simpa only[CV]using B;split at h;rename_i i e;cases h;subst e;simp only[CV,Ab]at B ⊢;exact B.2.2;cases h;cases h;simp only[CV,AO,Ab]at B ⊢;obtain⟨vs,e,B⟩:=B;have:vs=#[]:=Gx.1 B;rw[e,this];cases h;simp only[CV]at B;obtain⟨_,_,B⟩:=B;exact B;cases h
theorem toCm_ok {x:Cx}{w:World}{j:Nat} : ∀ {l:List V} {cs:List C} {us:List Value},toCm j (x.loc j).b l=J cs->AO x w l us->B4 x.S w cs us
 | [],cs,us,h,B=>by simp only[toCm,BL]at h;subst h;simpa only[AO,B4]using B
 | v::l,cs,us,h,B=>by
   simp only[AO]at B;obtain⟨u,o,rfl,K,M⟩:=B;unfold toCm at h;split at h;rename_i c r Q R;cases h;exact⟨u,o,F,toCm1_ok Q K,toCm_ok R M⟩;cases h
def AN (P:Program)(f:FuncId)(args:List V)(R:Obj->Prop)(row:Nat->List C):Prop:=
 ∀(S:BF) (w:World) (us:List Value),(∀b j,S b j->b<w.heap.size)->AO (Cx.bare S) w args us->
  Calls P f us.toArray w λr w'=>∃(S':BF) (b m:Nat) (ob:Obj),r=.returned (.pointer (J ⟨b,0,E⟩))/\Ay w w'/\Ar S S' w w'/\(∀b' j,S' b' j->S b' j\/(w.heap.size<=b'/\b'<w'.heap.size))/\w.heap.size<=m/\w'.heap[m]?=J ob/\still ob=U/\R ob/\B5 S' w' (row m) b 0
def ANA (P:Program)(l:List ResultVar)(R:Obj->Prop)(row:Nat->List C):Exit->St->Prop
 | .ret,s=>∃(k j:Nat) (ty:TypeId) (cells:List V),GJ P s l=J (.ptr k 0)/\s.h[k]?=J (.box ty cells U)/\s.h[j]?=J (.mp (λ_=>R))/\∀m,toCm j m cells=J (row m)
 | _,_=>False
theorem AN.intro {P:Program}{f:FuncId}{fn:Func}{c:Code}{args:List V}{R:Obj->Prop}{row:Nat->List C}(hf:P.funcs[f]?=J fn)(hb:fn.body=J c)(h:AW ⟨E,0⟩ P c (ANA P fn.results.toList R row) ⟨args++Aq (fn.ntmps - G args) .any,[]⟩):AN P f args R row:=by
 intro S w us hS B7;refine callsIn_wide.1 (callsIn_of_wp_marks (F:=Cg) (n:=0) hf hb trivial ?_);have hA:Bo S (Bs.of w) (Cx.bare S) ⟨args++Aq (fn.ntmps - G args) .any,[]⟩ { tmps:=us.toArray++Array.replicate (fn.ntmps - us.toArray.size) undef,defers:=[] } w:=by
  refine⟨⟨λk o h=>by simp at h,λk h=>h.elim,λk k' o o' h=>by simp at h,λk o j h=>by simp at h,hS,λk o h=>by simp at h,λb j h=>.inl h,λb j h=>h,.FR (Ay.refl w),Ext.none _ _ _⟩,?_,Marks.nil _ _⟩;simp only[Pq,Array.toList_replicate];have hl:us.toArray.size=G args:=by simpa using B7.len
  rw[hl];exact B7.append (SQ _ _ _ _)
 refine wpIn_mono (h 0 S (Bs.of w) _ _ w (BN _) hA) λe a' w' ⟨x,s,z,hK⟩=>?_
 cases e with
 | ret =>
   obtain⟨k,j,ty,cells,hr,hk,hj,Bn⟩:=hK;obtain⟨Ds,e,h1,h2⟩:=z.df;show LeavesInM Cg 0 P fn a'.tmps _ a'.defers .returning w';rw[e];refine dR hr Ds w' h1 h2 z.good z.tm λq u g Q=>?_
   obtain⟨q1,q2,q3,vs,q4,q5,q6⟩:=g.ok k _ hk;obtain⟨_,k1,k2,ob,k3,k4,k5⟩:=g.ok j _ hj;simp only[CV]at Q;obtain⟨_,_,rfl⟩:=Q;have Fh:=toCm_ok (Bn (x.loc j).b) q6;have CZ:Ar x.S (λi B=>x.S i B\/(i=(x.loc k).b/\B<vs.size)) q q:=⟨λ_ _ h=>.inl h,λ_ _ _ _ h=>h⟩
   have A0:(x.loc k).b<q.heap.size:=(DO.1 q4).1;refine⟨λi B=>x.S i B\/(i=(x.loc k).b/\B<vs.size),(x.loc k).b,(x.loc j).b,ob,rfl,g.keep.all,⟨λb' B K=>.inl (g.sub b' B K),λb' B v K hc=>g.keep.all.cell hc⟩,λi B K=>?_,Hq λOG=>g.own j _ hj k2 OG,k3,k4,k5,?_⟩;rcases K with K|⟨rfl,_⟩
   rcases g.new i B K with h|h
   exact .inl h;exact .inr ⟨Hq h,g.ex i B K⟩;exact .inr ⟨Hq λOG=>g.own k _ hk q3 OG,A0⟩;have M:=Fh.len;refine B5.Pe (B4.mono CZ _ _ Fh) (λB u Q=>?_) λB Rq=>.inr ⟨rfl,by rw[<-M]at Rq;simpa using Rq⟩
   rw[cell_of_row q _ _ vs ty (0,0) q4];simpa using Q
 | _=>exact hK.elim
theorem BM.empty (f:AP):BM f (.map #[] 0):=⟨λ_ _=>U,#[],0,rfl,λe B=>by simp at B,λs n=>by simp⟩
theorem AIg (hx:x.Ok):AN AF 51 [.agg x.f.vs,.c (Cc x.d)] (BM x.f) (Cm x):=by
 have B : ∀l:Int,0<=l->l<=3->AC AF 32 [.agg x.f.vs,.agg [l,.c (.bool U)]] (.A7 [(BS x.f.params ⟨l,U⟩:Int),(0:Int)]):=λl h0 h3=>by
  have h:=LI x.f ⟨l,U⟩;have ho:(⟨l,U⟩:Aa).ok=true:=by simp[Aa.ok];omega
  rw[show IT x.f ⟨l,U⟩=(BS x.f.params ⟨l,U⟩,0)from Awf (by simp[ho,hx.val])]at h;simp only[AR]at h;exact h
 have q:=B 0 Ux Ux;have M:=B 1 Ux Ux;have Q:=B 2 Ux Ux;have z:=B 3 Ux Ux;rw[show BS x.f.params ⟨0,U⟩=100 from rfl]at q;rw[show BS x.f.params ⟨1,U⟩=100 from rfl]at M;rw[show BS x.f.params ⟨2,U⟩=x.f.params.script from rfl]at Q;rw[show BS x.f.params ⟨3,U⟩=x.f.params.Qr from rfl]at z;refine AN.intro func51 rfl ?_;simp only[ntmps51,Ap,BB,BA,BO,Nat.reduceAdd,Nat.reduceSub,BY,Cy,BK,BU];have K:x.f.vs=[.c (O8 x.f.DR),.c (MG x.f.C5)]++x.f.params.list.map λn=>.c (.int .i64 n):=by
  simp[AP.vs,AP.row]
 simp only[Params.list,Ap,BB,BK,BU]at K;rw[K]at q M Q z ⊢;clear K;refine Ah ?_;refine AW.DA ?_;refine CY (.mk 2) trivial ?_;refine SW.Tq (.mp 1) (J (1,.mp (λ_=>BM x.f))) (by intro k ob h;cases h;simp) rfl (λS0 w0 y a w g ht=>AVM g (R:=λ_=>BM x.f) (λ_=>BM.empty _) rfl (AYE _ w) 1 (λhd=>by obtain⟨o,ho⟩:=g.dom 1 hd;simp at ho)) ?_;simp only[St.step,St.put,Bk,BA,BO,Nat.reduceAdd,IY,Awh,Ai,Ag,BK,BU];refine CY (.mk 1) trivial ?_;refine CY (.mk 1) trivial ?_;refine CY (.mk 1) trivial ?_;refine SW.nil ?_;have ff:=(Abu)
 have cc:=(cj4 q M Q z W)
 repeat any_goals (first|refine Du ff cc ⟨?_⟩|exact Bt ff|(with_reducible refine LA.loop (LA.round ?_))|(with_reducible refine LA.round ?_)|(refine Dv ff ?_ ?_<;>intro h<;>try exact Dw))
 refine⟨2,1,133,_,by simp[GJ,C0,DE,CJ,Abu],rfl,rfl,λm=>by simp[toCm,toCm1,Cm,AP.row,Params.list]⟩
theorem Ay.JI {W B:World}(h:Ay W B)(S:BF):Ar S S W B:=⟨λ_ _ q=>q,λ_ _ _ _ K=>h.cell K⟩
theorem APP {S:BF}{W B:World}(K:Ay W B):Ext (Cx.bare S) (Cx.bare S) W B:=⟨K.JI S,λ_ h=>h.elim,λ_ h=>h.elim⟩
theorem LD (v:V):Vu Ay (λu W=>CV (Cx.bare S) W v u):=λu W K B h=>CV.mono (APP B) v u h
theorem TA {P:Program}{S:BF}{W:World}{a:Act}{o:Oper}{t:TypeId}{y:Operand}(ho:o.op=.load t y){q:Bool×Nat}(hq:B6 P t=J q){row:List C}{off:Nat}(B:CV (Cx.bare S) W (.cp row off) (a.eval y)){v:V}(h:CJ q (row.map V.c) off=J v):∃u K,(execOp a.eval o).run P W=.ok (.value u) K/\CV (Cx.bare S) K v u/\Ay W K:=by
 simp only[CV]at B;obtain⟨b,R,B,M⟩:=B;obtain⟨u,M,hv⟩:=dY (x:=Cx.bare S) (w:=W) (b:=b) (o:=R) hq (λj v Q=>by
  rw[CM,Ia]at Q;obtain⟨c,hc,rfl⟩:=Q;obtain⟨u,z,h2⟩:=M.get hc;exact⟨u,z,by simpa only[CV]using h2⟩) h
 exact⟨u,W,by simp[execOp,ho,Instr.loadAt,B,Instr.sureAddr,M],hv,Ay.refl W⟩
def vn (P:Program)(g:FuncId)(caps:List V)(out:Out):Prop:=
 ∀(S:BF) (w:World) (us:List Value),(∀b j,S b j->b<w.heap.size)->AO (Cx.bare S) w caps us->
  Calls P g us.toArray w λr w'=>∃S':BF,Ay w w'/\Ar S S' w w'/\(∀b j,S' b j->S b j\/(w.heap.size<=b/\b<w'.heap.size))/\Lf (Cx.bare S') w' out r
theorem ACZ {P:Program}{ops:Array Oper}{Q:Exit->Act->World->Prop}{a:Act}{w:World}{B:List Oper}{o:Oper}{f:FuncId}{args:Array Value}{R:Ending->World->Prop}(hg:o.guard=E)(q:(execOp a.eval o).run P w=.ok (.enter f args) w)(hc:Calls P f args w R)(M : ∀e K,R e K->(∃v,e=.returned v/\wpList P ops Q B (a.put o.dst v) K)\/∃z,e=.panicked z/\Q (.panic z) a K):wpList P ops Q (o::B) a w:=by
 unfold wpList;rw[Awd (by simp[Region.wanted,hg])];refine .inl ?_;unfold Oper.wp;rw[q,Oper.upon_enter];refine hc.mono λe K h=>?_
 rcases M e K h with ⟨v,rfl,h2⟩|⟨z,rfl,h2⟩
 exact h2;exact h2
def pN (S:BF)(B:Nat)(x:Af):Post:=λv W=>∃(S':BF) (b m:Nat) (ob:Obj),v=.pointer (J ⟨b,0,E⟩)/\(∀b j,S b j->S' b j)/\(∀b' j,S' b' j->S b' j\/(B<=b'/\b'<W.heap.size))/\B<=m/\W.heap[m]?=J ob/\still ob=U/\BM x.f ob/\B5 S' W (Cm x m) b 0
theorem AJE (B:Nat)(x:Af):Vu Ay (pN S B x):=λv W W' K ⟨M,b,m,ob,q,z,h3,h4,Q,h6,h7,h8⟩ =>
 ⟨M,b,m,ob,q,z,λo j R=>(h3 o j R).imp id λh=>⟨h.1,H7 h.2 K.size⟩,h4,(K.heap (DO.1 Q).1).trans Q,h6,h7,B5.mono (K.JI M) _ _ _ h8⟩
theorem AOQ (o:Option AA)(hx:x.Ok)(hq : ∀m,AQ AF 52 [Bb x m,Am n,.c (AV src),Aj s] m (BM x.f) (BM x.f) (BP o)):
 vn AF 50 [.cp x.f.row 0,.cp [Cc x.d] 0,.cp n.row 0,.cp [AV src] 0,.cp [.int .i64 s.By,.bool s.Hd] 0] (BP o):=by
 intro S w us hS B7;simp only[AO,CV,Nat.add_zero]at B7;obtain⟨_,_,rfl,⟨b0,o0,rfl,r0⟩,_,_,rfl,⟨b1,o1,rfl,r1⟩,_,_,rfl,⟨b2,o2,rfl,r2⟩,_,_,rfl,⟨b3,o3,rfl,r3⟩,_,_,rfl,⟨b4,o4,rfl,r4⟩,rfl⟩:=B7;go_enter func50,ntmps50;go_wp2;obtain⟨R,z⟩:=AI (w.alloc (.cells DZ 56));change Code.wp _ _ _ _ (w.alloc (.cells DZ 56));have Iu:Ay w R:=by rw[<-z];exact(Ay.refl w).alloc _
 have YR:Cb R w.heap.size 56 DZ:=by rw[<-z];exact Cb.new _ _ _
 have R7:R.heap.size=w.heap.size+1:=by rw[<-z];simp
 rw[z];obtain⟨B0,OA⟩:=AI R.heap.size;refine ABW (K:=Ay) 6 Fz ZC rfl ?_;intro w1 FJ;simp only[DP,ET];have hk:Ay w w1:=Iu.trans FJ;have Y9:B0<=w1.heap.size:=by rw[<-OA];exact FJ.size
 with_reducible refine LK (λu W=>CV (Cx.bare S) W (.agg x.f.vs) u) (LD S _) rfl ?_ ?_
 intro a W B hf;have ht:=hf 0 (by simp[looks,Gm,Bl,Df]);simp[know]at ht;exact TA (t:=27) (y:=.tmp 0) (row:=x.f.row) (off:=0) rfl tN (by simp only[CV];exact⟨b0,o0,by simpa [JT]using ht,B5.mono (B.JI S) _ _ _ (B5.mono (hk.JI S) _ _ _ r0)⟩) (by simp[CJ,AP.row,Params.list,AP.vs]);with_reducible refine LK (λu W=>CV (Cx.bare S) W (.c (Cc x.d)) u) (LD S _) rfl ?_ ?_
 intro a W B hf;have ht:=hf 1 (by simp[looks,Gm,Bl,Df]);simp[know]at ht;exact TA (t:=28) (y:=.tmp 1) (row:=[Cc x.d]) (off:=0) rfl ALh (by simp only[CV];exact⟨b1,o1,by simpa [JT]using ht,B5.mono (B.JI S) _ _ _ (B5.mono (hk.JI S) _ _ _ r1)⟩) (by simp[CJ]);with_reducible refine ABX (pN S B0 x) (AJE S _ x) rfl ?_ ?_
 . intro a W B hf;have h6:=hf 6 (by simp[looks,Gm,Bl,Df]);have h7:=hf 7 (by simp[looks,Gm,Bl,Df]);simp[know]at h6 h7;have mc:=B.size;refine⟨51,#[a.tmps.getD 6 undef,a.tmps.getD 7 undef],by go_simp,?_⟩;refine(AIg x hx S W [a.tmps.getD 6 undef,a.tmps.getD 7 undef] (λb j h=>by have:=hS b j h;have:=hk.size;omega) ?_).mono ?_;simp only[AO];exact⟨_,_,F,by simpa using h6,_,_,rfl,by simpa using h7,rfl⟩;rintro r W' ⟨Q,b,m,ob,rfl,e1,e2,e3,e4,e5,e6,e7,e8⟩;refine⟨_,F,⟨Q,b,m,ob,F,e2.sub,λb' j hs=>(e3 b' j hs).imp id λh=>⟨Ux,h.2⟩,Ux,e5,e6,e7,e8⟩,e1⟩
 with_reducible refine LK (λu W=>CV (Cx.bare S) W (.agg n.vs) u) (LD S _) rfl ?_ ?_
 intro a W B hf;have ht:=hf 2 (by simp[looks,Gm,Bl,Df]);simp[know]at ht;exact TA (t:=33) (y:=.tmp 2) (row:=n.row) (off:=0) rfl AB8 (by simp only[CV];exact⟨b2,o2,by simpa [JT]using ht,B5.mono (B.JI S) _ _ _ (B5.mono (hk.JI S) _ _ _ r2)⟩) (by cases n;simp[CJ,Nd.row,Nd.vs]);with_reducible refine LK (λu W=>CV (Cx.bare S) W (.c (AV src)) u) (LD S _) rfl ?_ ?_
 intro a W B hf;have ht:=hf 3 (by simp[looks,Gm,Bl,Df]);simp[know]at ht;exact TA (t:=39) (y:=.tmp 3) (row:=[AV src]) (off:=0) rfl ALj (by simp only[CV];exact⟨b3,o3,by simpa [JT]using ht,B5.mono (B.JI S) _ _ _ (B5.mono (hk.JI S) _ _ _ r3)⟩) (by simp[CJ]);with_reducible refine LK (λu W=>CV (Cx.bare S) W (.agg [.c (.int .i64 s.By),.c (.bool s.Hd)]) u) (LD S _) rfl ?_ ?_
 intro a W B hf;have ht:=hf 4 (by simp[looks,Gm,Bl,Df]);simp[know]at ht;exact TA (t:=35) (y:=.tmp 4) (row:=[.int .i64 s.By,.bool s.Hd]) (off:=0) rfl AeC (by simp only[CV];exact⟨b4,o4,by simpa [JT]using ht,B5.mono (B.JI S) _ _ _ (B5.mono (hk.JI S) _ _ _ r4)⟩) (by simp[CJ]);with_reducible refine ABZ ?_
 intro W B;intro v6 h6 v7 h7 v8 h8 v9 h9 v10 A0 v11 A1;obtain⟨Q,b,m,ob,rfl,e1,e2,e3,e4,e5,e6,e7⟩:=h8;simp only[CU,B9];with_reducible apply xW
 simp only[Q9,uV,Ai,Ag];have mc:=B.size;have hex:Ext (Cx.bare S) (Cx.bare Q) W W:=⟨⟨e1,λ_ _ _ _ h=>h⟩,λ_ h=>h.elim,λ_ h=>h.elim⟩
 have PD : ∀b j,Q b j->b<W.heap.size:=λb j h=>(e2 b j h).elim (λh=>by have:=hS b j h;have:=hk.size;omega) λh=>h.2
 have Co:=hq m Q W [.pointer (J ⟨b,0,E⟩),v9,v10,v11] ob PD e4 e5 e6 (by
  simp only[AO,Bb];exact⟨_,_,F,by simp only[CV];exact⟨b,0,F,e7⟩,_,_,rfl,CV.mono hex _ _ h9,_,_,rfl,CV.mono hex _ _ A0,_,_,rfl,CV.mono hex _ _ A1,rfl⟩)
 with_reducible refine ACZ rfl (f:=52) (args:=#[.pointer (J ⟨b,0,E⟩),v9,v10,v11]) (by go_simp) Co ?_
 rintro e W' ⟨M,Cw,f1,f2,f3,f4,f5,f6,f7⟩;have Yr:Ay w W':=f1.after (hk.trans B) λk e=>Ux
 have Il:Cb W' w.heap.size 56 DZ:=by
  have hb:=B.blk (FJ.blk YR);exact(f1.block w.heap.size hb.lt (λe=>by omega)).trans hb
 have YH : ∀b j,M b j->S b j\/(R.heap.size<=b/\b<W'.heap.size):=λb j h=>by
  have F7:=f1.size;have hm:=(DO.1 f4).1;rcases f3 b j h with h|h|h
  rcases e2 b j h with h|h
  exact .inl h;exact .inr Ux;exact .inr Ux;exact .inr Ux
 have jZ:Ar S M w W':=⟨λb j h=>f2.sub b j (e1 b j h),λb j v _ hc=>Yr.cell hc⟩
 cases o with
 | none=>right;simp only[BP,Lf]at f7;refine⟨_,f7,?_⟩;refine tu rfl ?_;refine⟨M,Yr,jZ,λb j h=>(YH b j h).imp id λh=>by omega,?_⟩;simp only[BP,Lf]
 | some bx =>
   left;simp only[BP,Lf]at f7;obtain⟨u,rfl,hu⟩:=f7;refine⟨u,F,?_⟩;simp only[Q9,uV,Ai,Ag];obtain⟨l,hl⟩:∃l,Ao bx=.agg l:=⟨_,rfl⟩
   have zO:G l=11:=by cases bx;simp[Ao]at hl;rw[<-hl];simp
   have FO:l.all V.one=true:=by cases bx;simp[Ao]at hl;rw[<-hl];simp[V.one]
   have q:=hu;rw[hl]at q;have Yk:=CV.cells (v:=.agg l) q (by simpa [V.flat]using FO);simp only[CV]at q;obtain⟨cs,rfl,hcs⟩:=q;have hs:cs.size=11:=by have:=hcs.len;simpa [zO]using this
   have h1:Xw cs:=λy hy=>Yk.2 y (by simpa [Value.cells]using hy)
   have Me:ND AF 56 cs.size:=by rw[hs];exact X2
   have B1:=Lib.hid Il;go_wp2_with (((with_reducible refine ll (ty:=56) (w.heap.size) (cs) ?_ ?_ ?_ ?_ ?_ ?_ ?_);(focus rfl);(focus rfl);(focus exact⟨_,_,B1.out,Eq.symm (hs)⟩);(focus exact h1);(focus exact Me);(focus rfl)))
   have Fc:Cb (W'.setRow w.heap.size cs) w.heap.size 56 cs:=B1.out.Tz cs;obtain⟨W2,WX⟩:=AI (W'.setRow w.heap.size cs);have hkb:KB (λb=>b=w.heap.size) W' W2:=by
    rw[<-WX];exact⟨F,F,F,ZA,λk _ hn=>setRow_other _ _ _ _ hn⟩
   rw[WX]at Fc ⊢;have Lu:(loadVar 56 ⟨w.heap.size,0,E⟩).run AF W2=.ok (.agg cs) W2:=lI Fc.row Me;have EG:Ay w W2:=hkb.after Yr λk e=>Ux
   have IN:=hkb.size;refine tu rfl ?_;refine⟨.agg cs,by simp[results,results50,asAddr,Lu,Q9],M,EG,⟨jZ.sub,λb j v _ hc=>EG.cell hc⟩,λb j h=>(YH b j h).imp id λh=>by omega,?_⟩;simp only[BP,Lf];refine⟨_,F,?_⟩;refine CV.mono (x:=Cx.bare M) (x':=Cx.bare M) (w:=W') ⟨⟨λ_ _ h=>h,λb j v hs hc=>hkb.cell (by
    rcases YH b j hs with h|h
    have:=hS b j h;omega;omega) hc⟩,λ_ h=>h.elim,λ_ h=>h.elim⟩ _ _ hu
def outT:Option AA->V
 | some b=>.A7 [Ao b,AR 0]
 | none=>.A7 [Ao AA.zero,AR 6]
theorem AEg (g:FuncId)(caps:List V)(o:Option AA)(h:vn AF g caps (BP o))(R:Fp AF g=I):AC AF 49 [.fn g caps] (outT o):=by
 cases o with
 | some b =>
   refine AOC g caps (b.row.map V.c) (λS w us M K=>(h S w us M K).mono ?_) R (by cases b;simp[AA.row]) (by cases b;simp[AA.row,V.one]);rintro r w' ⟨z,h1,h2,h3,u,h4,h5⟩;exact⟨u,z,h4,h1,h2,h3,h5⟩
 | none =>
   intro S w us M K;simp only[AO,CV]at K;obtain⟨u,r,rfl,⟨vs,rfl,EP⟩,rfl⟩:=K;obtain⟨fn,hf,hb,hn⟩:=P7 R;refine(AOF g vs w 6 (λw1 q A0=>?_) ⟨fn,hf,(by intro e;rw[e]at hb;cases hb),by simpa using hn⟩).mono ?_;have yt:=AO.mono (x':=Cx.bare S) (w':=w1) ⟨⟨λ_ _ h=>h,λb j v _ Q=>q.cell Q⟩,λ_ h=>h.elim,λ_ h=>h.elim⟩ _ _ EP;refine(h S w1 vs.toList (λb j h=>H7 (M b j h) q.size) yt).mono ?_;rintro r w2 ⟨z,EG,CZ,Gc,B⟩;exact⟨B,EG⟩
   . rintro r w' ⟨rfl,hk⟩;refine⟨_,S,F,hk,⟨λ_ _ h=>h,λb j v _ Q=>hk.cell Q⟩,λb j h=>.inl h,?_⟩;simp only[outT,Ao,AR,AA.zero,AA.row,AA.AG,AV,Ap,BB,CV,AO];refine⟨_,F,_,_,F,⟨_,F,?_⟩,_,_,F,(by unfold Ab;exact⟨F,by decide +kernel⟩),F⟩;refine⟨_,_,F,(by unfold Ab;exact⟨F,by decide +kernel⟩),_,_,F,(by unfold Ab;exact⟨F,by decide +kernel⟩),?_⟩;iterate 6 refine⟨_,_,F,(by unfold Ab;exact⟨F,by decide +kernel⟩),?_⟩
     refine⟨_,_,F,?_,_,_,F,(by unfold Ab;exact⟨F,by decide +kernel⟩),_,_,F,?_,F⟩;all_goals
      unfold Ab;exact⟨E,0,F,BN _,CI _,λh=>absurd rfl h⟩
def Sd (src:List Int)(p:Nat):Bool:=HT src && (decide (G src<=25) && decide (G src % 2=p))
theorem AIP (hs:G src<=maxLen)(p:Nat)(hp:p=0\/p=1):AC AF 48 [.c (AV src),p] (.c (.bool (Sd src p))):=by
 unfold maxLen at hs;have q:=AIb (G src) hs;unfold Sd;refine en func48 ntmps48 ?_;refine go @AV.eq_1 ?_;refine CX (ι:={ k:Nat // k<=G src/\HT src=HT (src.drop k) }) (λk=>[(9,(k.1:Int)),(4,.c (.bool U))]) (λ_=>[]) (λk=>G src - k.1) ⟨0,ZA⟩ ?_ ?_;exact DH;rintro ⟨k,hk,R⟩;by_cases B:k<G src;rw[D5 B]at R;obtain⟨z,hz⟩:=AI (src[k]);rw[hz]at R;have hw:AZ.wrap ((k:Int)+1)=((k+1:Nat):Int):=by rw[Ac];simp
 by_cases h1:z<0;have e:HT src=false:=by rw[R];simp[HT];omega
 refine go (cj2 @B @hz @h1) ?_;exact At (cj L9<| @e);have e:HT src=HT (src.drop (k+1)):=by rw[R];simp[HT];intro;omega
 refine go (cj3 @B @hz @h1 @hw) ?_;refine⟨⟨k+1,Ux,e⟩,by simp only;omega,?_⟩;exact DH;have e:HT src=true:=by rw[R,FA Ux];rfl
 by_cases K:G src<=25;rcases hp with rfl|rfl
 by_cases o:G src % 2=0;have M:(G src:Int)<=25:=Ux;refine go (cj4 @B @AV.eq_1 @q @o @M) ?_;exact At (cj3 L9 @e @K @o);have Q:G src % 2=1:=Ux;have M:(G src:Int)<=25:=Ux;refine go (cj4 @B @AV.eq_1 @q @Q @M) ?_;exact At (cj3 L9 @e @K @Q);by_cases o:G src % 2=0;have M:(G src:Int)<=25:=Ux;refine go (cj4 @B @AV.eq_1 @q @o @M) ?_;exact At (cj3 L9 @e @K @o);have Q:G src % 2=1:=Ux;have M:(G src:Int)<=25:=Ux;refine go (cj4 @B @AV.eq_1 @q @Q @M) ?_;exact At (cj3 L9 @e @K @Q);have M : ¬(G src:Int)<=25:=Ux;refine go (cj2 @B @AV.eq_1 @M) ?_;exact At (cj2 L9 @e @K)
theorem AIR (o:G x.d<=300)(hs : ∀e∈x.d,e.text.size<=maxLen):AC AF 46 [.agg x.f.vs,.c (Cc x.d),Aj s] (.c (.bool (x.f.valid && (Ll x.d && s.ok)))):=by
 have B:=Ma x.f;have K:=sM x.d Ux hs;have M:=fI s;unfold Aj at M ⊢;refine en func46 ntmps46 ?_;cases R:x.f.valid<;>cases Q:Ll x.d<;>rw[R]at B<;>rw[Q]at K;all_goals
  exact wz (cj @B<|results46) (cj3 B K M W)
def O1 (e:Int):V:=.A7 [Ao AA.zero,AR e]
def Af.Bj (x:Af)(s:Aa):Bool:=x.f.valid && (Ll x.d && s.ok)
def Ob (x:Af)(s:Aa)(src:List Int)(n:Nd):V:=if (x.Bj s && n.Ad)=U then O1 1 else if Sd src 0=U then O1 2 else outT (GU x s src n)
theorem AUP (hf:x.f.Fit)(hl:G x.d<=300)(DS : ∀e∈x.d,e.text.size<=maxLen)(hn:n.BX)(hc:n.cnt<=80)(DJ:G src<=maxLen):AC AF 26 [.agg x.f.vs,.c (Cc x.d),Am n,.c (AV src),Aj s] (Ob x s src n):=by
 have B:=AIR x s hl DS;have R:=ABQ n hn Ux;have K:=AIP src DJ 0 (.inl F);have Q:x.Bj s=I->n.Ad=I->Sd src 0=I->AC AF 49 [.fn 50 [.cp x.f.row 0,.cp [Cc x.d] 0,.cp n.row 0,.cp [AV src] 0,.cp [.int .i64 s.By,.bool s.Hd] 0]] (outT (GU x s src n)):=λhv z M=>by
  unfold Af.Bj at hv;simp only[Ak]at hv;unfold Nd.Ad at z;simp only[Ak,Awe]at z;unfold Sd at M;simp only[Ak,Awe]at M;have hx:x.Ok:=⟨hf,hv.1,hl,hv.2.1⟩
  exact AEg _ _ _ (AOQ x n src s _ hx λm=>(AKX x m n).1 src s ⟨hx,hv.2.2,z.1,z.2.1,hn,hc,z.2.2.2,⟨M.1,M.2.2,Ux⟩⟩) ZB
 change AC _ _ _ (.c (.bool (x.Bj s)))at B;obtain⟨OV,jR⟩:=AI (x.Bj s);obtain⟨NV,jQ⟩:=AI n.Ad;obtain⟨SV,jX⟩:=AI (Sd src 0);obtain⟨o,ho⟩:=AI (GU x s src n);unfold Ob;rw[jR]at B Q ⊢;rw[jQ]at R Q ⊢;rw[jX]at K Q ⊢;rw[ho]at Q ⊢;clear jR jQ jX ho;obtain⟨f,d⟩:=x;obtain⟨kd,t,c,AE⟩:=n;obtain⟨lv,cr⟩:=s;simp only[Am,Nd.vs,Aj,Nd.row]at B R K Q ⊢;cases OV with
 | false=>refine en APh AQE ?_;refine wy gj (cj3 B R K W) ⟨?_⟩;exact At (cj8 gj @O1.eq_1 @Ao.eq_1 @AR.eq_1 @AA.zero.eq_1 @AA.row.eq_1 @AA.AG.eq_1 @AA.AG.eq_2 @AV.eq_1)
 | true =>
   cases NV with
   | false=>refine en APh AQE ?_;refine wy gj (cj3 B R K W) ⟨?_⟩;exact At (cj8 gj @O1.eq_1 @Ao.eq_1 @AR.eq_1 @AA.zero.eq_1 @AA.row.eq_1 @AA.AG.eq_1 @AA.AG.eq_2 @AV.eq_1)
   | true =>
     cases SV with
     | false=>refine en APh AQE ?_;refine wy gj (cj3 B R K W) ⟨?_⟩;exact At (cj8 gj @O1.eq_1 @Ao.eq_1 @AR.eq_1 @AA.zero.eq_1 @AA.row.eq_1 @AA.AG.eq_1 @AA.AG.eq_2 @AV.eq_1)
     | true =>
       have q:=Q rfl rfl F;obtain⟨sr,M⟩:=AI (AV src);rw[M]at q K ⊢;clear Q M;cases o with
       | none=>refine en APh AQE ?_;refine wu (.mk 5) gj (cj3 B R K W) ⟨?_⟩;refine Cn 0 ?_;refine Cn 1 ?_;refine Cn 2 ?_;refine Cn 3 ?_;refine Cn 4 ?_;simp only[outT,Ao,AR,AA.zero,AA.row,AA.AG,AV,Ap,BB]at q;refine wy gj (cj q<|trivial) ⟨?_⟩;exact At (cj9 gj @outT.eq_1 @outT.eq_2 @Ao.eq_1 @AR.eq_1 @AA.zero.eq_1 @AA.row.eq_1 @AA.AG.eq_1 @AA.AG.eq_2 @AV.eq_1)
       | some bx=>obtain⟨b0,b1,b2,b3,b4,b5,b6,b7,bk,bo,bs⟩:=bx;simp only[outT,Ao,AR,AA.row,Ap,BB]at q;obtain⟨A0,Ga⟩:=AI (AA.AG bk);obtain⟨A1,OD⟩:=AI (AV bs);rw[Ga,OD]at q;refine en APh AQE ?_;refine wu (.mk 5) gj (cj3 B R K W) ⟨?_⟩;refine Cn 0 ?_;refine Cn 1 ?_;refine Cn 2 ?_;refine Cn 3 ?_;refine Cn 4 ?_;refine wy gj (cj q<|trivial) ⟨?_⟩;exact At (cj7 gj @outT.eq_1 @outT.eq_2 @Ao.eq_1 @AR.eq_1 @AA.row.eq_1 @Ga @OD)
def HD (x:Af):List V:=x.f.vs++[.c (Cc x.d)]
@[simp] theorem Ach :G (HD x)=23:=by simp[HD]
@[simp] theorem Acf :(HD x).all V.one=true:=by simp[HD,V.one]
@[simp] theorem Ack :(HD x).take 23=HD x:=Gl ZA
@[simp] theorem Ace :(HD x).take 22=x.f.vs:=by rfl
@[simp] theorem Acd :(HD x)[22]?=J (.c (Cc x.d)):=by rfl
@[simp] theorem Acg (h:22<G (HD x)):(HD x)[22]=.c (Cc x.d):=F
@[simp] theorem Aci :V.CF (HD x)=J (HD x):=by
 have:HD x=(x.f.row++[Cc x.d]).map V.c:=by rfl
 rw[this];exact Zq _
@[simp] theorem Acj (cs:List V)(h:G cs=23):E8 cs 0 (HD x)=HD x:=kz (by simp[h])
@[simp] theorem Acb (n:Nat):V.BI n (HD x)=true:=by simp[HD,AP.vs,AP.row,Params.list,V.BI,V.A8]
theorem AKU (src:List Int)(n:Nd):∃b e,Ob x s src n=.A7 [Ao b,AR e]:=by
 unfold Ob O1 outT;split;exact⟨_,_,F⟩;split;exact⟨_,_,F⟩;split;exact⟨_,_,F⟩;exact⟨_,_,F⟩
theorem AAc (hf:x.f.Fit)(hl:G x.d<=300)(Q : ∀e∈x.d,e.text.size<=maxLen)(hn:n.BX)(hc:n.cnt<=80):AC AF 12 [.agg x.f.vs,.c (Cc x.d),Am n,Aj s] (Ob x s [] n):=by
 have h:=AUP x n [] s hf hl Q hn hc (CI _);obtain⟨b,e,M⟩:=AKU x s [] n;rw[M]at h ⊢;obtain⟨b0,b1,b2,b3,b4,b5,b6,b7,R,bo,q⟩:=b;simp only[Ao,AR,AA.row,Ap,BB]at h ⊢;obtain⟨o,B⟩:=AI (AA.AG R);obtain⟨z,K⟩:=AI (AV q);rw[B,K]at h ⊢;clear B K M;obtain⟨kd,t,c,AE⟩:=n;obtain⟨lv,cr⟩:=s;simp only[Am,Nd.vs,Aj,Nd.row,AV,BB]at h ⊢;refine en func12 ntmps12 ?_;exact wz results12 (cj h<|trivial)
def jA (x:Af)(n:Nd)(m:Int):Bool:=O6 x.f && (decide (G x.d<=300) && decide ((n.cnt:Int)<=m))
theorem APU (m:Int)(hf:x.f.Fit)(hl:G x.d<=maxLen)(hn:n.BX)(hm:0<=m)(FP:m<=100000):AC AF 5 [.agg (HD x),Am n,m] (.c (.bool (jA x n m))):=by
 have K:=APV x.f hf.gl;have B:=AXo n m hn hm FP;unfold jA;obtain⟨z,R⟩:=AI (O6 x.f);obtain⟨B2,q⟩:=AI (decide ((n.cnt:Int)<=m));rw[R]at K ⊢;rw[q]at B ⊢;clear R q;have Q:decide (G x.d<=300)=decide ((G x.d:Int)<=300):=by simp;omega
 rw[Q];have o:(Cc x.d)=.sl (x.d.map En.row):=F;obtain⟨kd,t,c,AE⟩:=n;simp only[Am,Nd.vs,Nd.row]at B ⊢;cases z with
 | false=>refine en func5 ntmps5 ?_;exact wz results5 (cj2 K B W)
 | true =>
   by_cases M:(G x.d:Int)<=300;rw[Awk M];refine en func5 ntmps5 ?_;exact wz (cj2 @o @M results5) (cj2 K B W);rw[Awl M];refine en func5 ntmps5 ?_;exact wz (cj2 @o @M results5) (cj2 K B W)
section
variable {H:Type} {enc:TypeId×Value->H} {w:World}
theorem AjP {B:Nat}:Dq enc AF w B 35 (λs:Aa=>[.int .i64 s.By,.bool s.Hd]) (λ_=>True):=by
 cases B with
 | zero=>exact Dq.zero
 | succ B=>exact(VJ underlying35 ZC (C6.cons (o:=0) (o':=1) rfl ZC ZB (Ge underlying3) (C6.cons (o:=1) (o':=2) rfl ZC ZB (AAw underlying4) (C6.nil)))).conv (λq=>⟨q.1,q.2.1⟩) (λq=>rfl) (λq h=>trivial)
theorem sA {B:Nat}:Dq enc AF w B 30 (λx:Af=>x.f.row++[Cc x.d]) (λx=>x.f.Fit/\(G x.d)<=maxLen/\∀a∈x.d,a.text.size<=maxLen):=by
 cases B with
 | zero=>exact Dq.zero
 | succ B=>exact(VJ underlying30 ZC (C6.cons (o:=0) (o':=22) rfl ZC ZB (AVa) (C6.cons (o:=22) (o':=23) rfl ZC ZB (AVY) (C6.nil)))).conv (λq=>⟨q.1,q.2.1⟩) (λq=>by simp) (λq h=>⟨h.1,h.2.1.1,h.2.1.2⟩)
end
theorem sj {AE:List AA}{sp:List Int}{c:AA}(h:Bj (F9 AE sp)=J c):c.y=0:=by
 rw[(sh h).1];rfl
theorem APr (t:ByteArray):(x.gl s t).y=0:=by
 unfold Af.gl DB;split<;>rfl
theorem AZh {x:Af}{s:Aa}{t:ByteArray}(h:x.sym s t=J b):b.y=0:=by
 unfold Af.sym at h;split at h;unfold Af.VI at h;split at h;cases h;exact sj h;split at h;cases h;exact APr x s t;exact sj h
theorem ATa {x:Af}{s:Aa}{k:Int}{t:ByteArray}{c:Int}{AE:List Nd}{L:List AA}(h:Ji x s k t c AE L=J b):b.y=0:=by
 unfold Ji at h;split at h;exact AZh h;split at h;exact sj h;split at h;rw[(OT h).1];rfl;split at h;rw[(OT h).1];rfl;split at h;rw[(OT h).1];rfl;split at h;unfold O5 at h;split at h;simp[Bj]at h;split at h;simp[Bj]at h;exact sj h;split at h;unfold N2 at h;split at h;simp[Bj]at h;rw[(OT h).1];rfl;split at h;rw[(OT h).1];rfl;rw[(OT h).1];rfl
theorem ATb {x:Af} : ∀(n:Nd) {s:Aa} {src:List Int} {b:AA},Fw x s src n=J b->b.y=0
 | ⟨k,t,c,Q⟩,s,src,b,h=>by
   unfold Fw at h;split at h;cases h;split at h;cases h;rename_i B M;cases h;have K:=ATa M;show B.y=0;exact K
theorem AH7 {x:Af}{s:Aa}{src:List Int} : ∀(l:List Nd) (i:Nat) (L:List AA),Kb x s src i l=J L->(∀b∈L,b.y=0)/\(G L)=G l
 | [],i,L,h=>by
   simp only[Kb,BL]at h;subst h;exact⟨λb B=>(by cases B),F⟩
 | n::l,i,L,h=>by
   unfold Kb at h;split at h;cases h;rename_i a Q;split at h;cases h;rename_i r R;cases h;obtain⟨K,M⟩:=AH7 l (i+1) r R;refine⟨λb B=>?_,by simp[M]⟩;rcases Cf.1 B with rfl|B
   exact ATb n Q;exact K b B
theorem tM : ∀(l:List AA) (h:Int),h<=KL l h/\∀b∈l,b.y+b.h<=KL l h
 | [],h=>⟨IV _,λb B=>by cases B⟩
 | c::l,h=>by
   obtain⟨R,K⟩:=tM l (mx h (c.y+c.h));have M:=Mt h (c.y+c.h);have Q:=rq h (c.y+c.h);simp only[KL];refine⟨Ux,λb B=>?_⟩;rcases Cf.1 B with rfl|B
   omega;exact K b B
theorem oz : ∀(l:List AA) (h:Int),h<=J1 l h/\∀b∈l,b.d - b.y<=J1 l h
 | [],h=>⟨IV _,λb B=>by cases B⟩
 | c::l,h=>by
   obtain⟨R,K⟩:=oz l (mx h (c.d - c.y));have M:=Mt h (c.d - c.y);have Q:=rq h (c.d - c.y);simp only[J1];refine⟨Ux,λb B=>?_⟩;rcases Cf.1 B with rfl|B
   omega;exact K b B
theorem AJk : ∀ {l:List AA} {t:List Int} {k:Nat} {b:AA} {s:Int} (e:Int),l[k]?=J b->t[k]?=J s->(FT l t e)[k]?=J (Eh (l.take k) (t.take k) e+s)
 | b'::l,M::t,0,b,s,e,B,K=>by simp at B K;subst B K;rfl
 | b'::l,M::t,k+1,b,s,e,B,K=>by
   simp only[JU]at B K;simp only[FT,JU,DP,Eh];exact AJk _ B K
 | [],_,_,_,_,_,h,_=>by simp at h
 | _::_,[],_,_,_,_,_,h=>by simp at h
theorem Tt : ∀ {l:List AA},AA.FU l=I->∀c∈l,c.D8=I
 | b::l,h,c,B=>by
   simp only[AA.FU,Ak]at h;rcases Cf.1 B with rfl|B
   exact h.1;exact Tt h.2 c B
theorem Mq (h:b.D8=I):(-1073741824<=b.w/\b.w<=1073741824)/\(-1073741824<=b.h/\b.h<=1073741824)/\(-1073741824<=b.d/\b.d<=1073741824)/\(-1073741824<=b.x/\b.x<=1073741824):=by
 obtain⟨k,n,s,w,B,d,x,y,K,o,src⟩:=b;simp only[AA.D8,Ak,AA.Cl,AA.lens,Ep,An,Awe]at h;show (-1073741824<=w/\w<=1073741824)/\(-1073741824<=B/\B<=1073741824)/\(-1073741824<=d/\d<=1073741824)/\(-1073741824<=x/\x<=1073741824)
 omega
structure Vs (B:AA)(sp:List Int)(A:Nat->Int):Prop where
 len:G sp=G B.AE
 k9:G B.AE<=20000
 a0:A 0=0
 ae:A (G B.AE)=B.w
 Ea : ∀k,k<G B.AE->∃c v,B.AE[k]?=J c/\sp[k]?=J v/\c.x=A k+v/\c.y=0/\c.h<=B.h/\c.d<=B.d/\A (k+1)=c.x+c.w/\c.D8=I
theorem ANG {x:Af}{s:Aa}{n:Nd}(h:GU x s [] n=J b):∃A,Vs b (x.CC s n.AE) A:=by
 obtain⟨k,t,c,AE⟩:=n;unfold GU at h;split at h;rename_i K;cases h;subst K;exact⟨λ_=>0,F,CI _,F,F,λk K=>absurd K (UE _)⟩;split at h;cases h;rename_i L hL;split at h;cases h;rename_i C hC;cases h;obtain⟨h1,h2⟩:=AH7 _ _ _ hL;obtain⟨Q,r2,z⟩:=sh hC;obtain⟨v1,v2,v3,v4⟩:=D3 z;have o:=VK (l:=L) 0 r2;have R:G (EY L (FT L (x.CC s AE) 0))=G L:=kv o;have M:(C.mark 1 []).AE=EY L (FT L (x.CC s AE) 0):=by rw[Q];rfl
 have Wm:AA.FU C.AE=true:=by
  have:C.D8=true:=by
   simp only[AA.Ad,Ak]at z;exact z.1
  cases C;simp only[AA.D8,Ak]at this;exact this.2
 have Yl:C.AE=EY L (FT L (x.CC s AE) 0):=M;have FX:(C.mark 1 []).AE.length<=20000:=by
  have e:C.cnt=1+AA.Az C.AE:=by cases C;rfl
  have:=Ud C.AE;show G C.AE<=20000;omega
 refine⟨λk=>Eh (L.take k) ((x.CC s AE).take k) 0,by rw[M,R];exact r2,FX,by simp[Eh],?_,λk K=>?_⟩;rw[M,R,Gl (BN _),Gl Ux];show _=C.w;rw[Q];rfl;rw[M,R]at K;obtain⟨c,B⟩:∃c,L[k]?=J c:=⟨_,BE K⟩
 obtain⟨v,q⟩:∃v,(x.CC s AE)[k]?=J v:=⟨_,BE Ux⟩
 have hy:=h1 c (Cj B);have hg:=ABB B (AJk 0 B q);refine⟨c.AS (Eh (L.take k) ((x.CC s AE).take k) 0+v) c.y,v,by rw[M];exact hg,q,rfl,hy,?_,?_,(by have e:=xV 0 B q;exact e),Tt Wm _ (by rw[Yl];exact Cj hg)⟩;have:=(tM L 0).2 c (Cj B);show c.h<=C.h;rw[Q];show c.h<=KL L 0;omega;have:=(oz L 0).2 c (Cj B);show c.d<=C.d;rw[Q];show c.d<=J1 L 0;omega
theorem AJR (cls W sp:List Int):∀k,G (Ni cls W sp k)=G (FZ cls (k+1))
 | 0=>by simp[Ni,E7,FZ,AJW]
 | k+1=>by
   have h:=AJR cls W sp k;unfold Ni at h ⊢;simp only[E7];rw[FZ];cases B:OX cls (k+1)with
   | true=>simp at h ⊢;omega
   | false=>simp at h ⊢;omega
def Sf:List (Int×Int×Int)->Int
 | []=>0
 | q::l=>q.1+q.2.1+Sf l
theorem ABz : ∀a b,Sf (a++b)=Sf a+Sf b
 | [],b=>by simp[Sf]
 | q::a,b=>by simp only[BK,Sf,ABz a b];omega
theorem AJS {cls W sp:List Int}{A:Nat->Int}{N:Nat}(M:A 0=0)(hs:sp.getD 0 0=0)(K : ∀k,k<N->A (k+1)=A k+sp.getD k 0+W.getD k 0):∀k,k<N->Sf (Ni cls W sp k)=A (k+1)
 | 0,h=>by
   have:=K 0 h;simp only[Ni,E7,BU,Sf];omega
 | k+1,h=>by
   have B:=AJS (cls:=cls) M hs K k Ux;have Q:=K (k+1) h;unfold Ni at B ⊢;simp only[E7];split;simp only[ABz,Sf]at B ⊢;omega;simp only[ABz,Sf]at B ⊢;omega
theorem AJQ (cls W sp:List Int):∀k,((E7 cls W sp k).1=[]->(E7 cls W sp k).2.2.1=0)/\∀q r,(E7 cls W sp k).1=q::r->q.2.1=0
 | 0=>⟨λ_=>rfl,λq r h=>by simp[E7]at h⟩
 | k+1=>by
   obtain⟨K,M⟩:=AJQ cls W sp k;simp only[E7];split;refine⟨λh=>by simp at h,λq r h=>?_⟩;simp only at h;cases B:(E7 cls W sp k).1 with
   | nil=>rw[B,BU]at h;cases h;exact K B
   | cons a l=>rw[B,BK]at h;cases h;exact M _ _ B
   exact⟨K,M⟩
theorem AV3 (cls W sp:List Int)(k:Nat):∀q r,Ni cls W sp k=q::r->q.2.1=0:=λq r h=>by
 obtain⟨K,M⟩:=AJQ cls W sp k;unfold Ni at h;cases B:(E7 cls W sp k).1 with
 | nil=>rw[B,BU]at h;cases h;exact K B
 | cons a l=>rw[B,BK]at h;cases h;exact M _ _ B
theorem AZA (q v:Int)(l:List Int):(CC q v l).getD 0 0=0:=by cases l<;>rfl
structure oC (b:AA)(L:List (Int×Int×Int))(P:List Int):Prop where
 len:G L=G P
 ra:G L<=64
 ok:L.all SJ=I
 sum:Sf L=b.w
 first : ∀q r,L=q::r->q.2.1=0
theorem AJh (cls:List Int):∀k,∃r,FZ cls k=0::r
 | 0=>⟨[],rfl⟩
 | k+1=>by
   obtain⟨r,h⟩:=AJh cls k;exact⟨r++(if OX cls k=I then [(k:Int)]else []),by rw[FZ,h];rfl⟩
def dx (x:Af)(n:Nd)(s:Aa)(b:AA):List (Int×Int×Int):=Ni (I6 (JP x.d n.AE)) (b.AE.map AA.w) (x.CC s n.AE) (G n.AE - 1)
structure af (x:Af)(s:Aa)(n:Nd)(b:AA)(L:List (Int×Int×Int))(P:List Int):Prop where
 ok:x.Bj s=I
 nv:n.Ad=I
 row:GU x s [] n=J b
 val:b.Ad=I
 au : ∃A,Vs b (x.CC s n.AE) A/\Sy (x.CC s n.AE) A L P (G n.AE)
 p0:P.getD 0 0=0
 eq:L=dx x n s b
 eqP:P=FZ (I6 (JP x.d n.AE)) (G n.AE)
def z3 (x:Af)(n:Nd)(s:Aa):Prop:=∀b,x.Bj s=I->n.Ad=I->GU x s [] n=J b->n.AE≠[]->Zk (dx x n s b)=U
def gW (x:Af)(s:Aa)(n:Nd):Int:=if (x.Bj s && n.Ad)=U then 1 else if (XL x.d n.AE).2≠0 then(XL x.d n.AE).2 else 6
theorem AtJ (n:Nd):(∃e:Int,e≠0/\Ob x s [] n=.A7 [Ao AA.zero,AR e]/\((e=1/\(x.Bj s && n.Ad)=U)\/(e=6/\(x.Bj s && n.Ad)=I)))\/(∃b,x.Bj s=I/\n.Ad=I/\GU x s [] n=J b/\Ob x s [] n=.A7 [Ao b,AR 0]):=by
 unfold Ob O1;split;rename_i h;exact .inl ⟨1,ZB,rfl,.inl ⟨rfl,h⟩⟩;rename_i h;have B:Sd [] 0=true:=F;simp only[Bool.not_eq_false]at h;rw[B,Awf ZA];cases K:GU x s [] n with
 | none=>exact .inl ⟨6,ZB,rfl,.inr ⟨rfl,h⟩⟩
 | some b=>simp only[Ak]at h;exact .inr ⟨b,h.1,h.2,rfl,rfl⟩
theorem As7 (hf:x.f.Fit)(hl:G x.d<=300)(DS : ∀e∈x.d,e.text.size<=maxLen)(hn:n.BX)(hc:n.cnt<=80):
 (∃e:Int,e≠0/\z3 x n s/\e=gW x s n/\AC AF 6 [.agg x.f.vs,.c (Cc x.d),Am n,Aj s] (.A7 [.c (.sl []),.c (.sl []),AR e]))\/
 (∃b L P,Ob x s [] n=.A7 [Ao b,AR 0]/\oC b L P/\af x s n b L P/\AC AF 6 [.agg x.f.vs,.c (Cc x.d),Am n,Aj s] (.A7 [.c (.sl (L.map El)),.c (AV P),AR 0])):=by
 have Q:=AAc x n s hf hl DS hn hc;have A5:(Dd n.AE).BX:=by cases n;exact⟨ZB,hn.2⟩
 have FX:(Dd n.AE).cnt=n.cnt:=by cases n;rfl
 have K:=AVp x.d n.AE Ux DS A5 Ux;rcases AtJ x s n with ⟨e,he,hr,hE⟩|⟨b,R,hv,Av,hr⟩
 have hN:z3 x n s:=λb k1 k2 k3 _=>by
  have q:Ob x s [] n=.A7 [Ao b,AR 0]:=by unfold Ob;rw[k1,k2,k3];rfl
  rw[hr]at q;simp[AR]at q;exact absurd q.2 he
 rw[hr]at Q;left;obtain⟨⟨PL,q⟩,A3⟩:=AI (XL x.d n.AE);have A0:e=1->e=gW x s n:=λh=>by
  unfold gW;rcases hE with ⟨_,k⟩|⟨k,_⟩
  rw[Awd k,h];omega
 have A1:e≠1->q=0->e=gW x s n:=λh z=>by
  unfold gW;rcases hE with ⟨k,_⟩|⟨k,k2⟩
  exact absurd k h;rw[Awf (by simp[k2]),A3,Awf (by simp[z]),k]
 have A2:e≠1->q≠0->q=gW x s n:=λh z=>by
  unfold gW;rcases hE with ⟨k,_⟩|⟨k,k2⟩
  exact absurd k h;rw[Awf (by simp[k2]),A3,Awd z]
 rw[A3]at K;unfold W4 at K;simp only at K;obtain⟨PC,Ut⟩:=AI (AV PL);rw[Ut]at K;clear Ut A3 FX A5 hr hE;obtain⟨kd,t,c,B⟩:=n;obtain⟨lv,cr⟩:=s;simp only[Am,Nd.vs,Aj,Nd.row,Ap,BB,Ao,AR,AA.zero,AA.row,AA.AG]at Q K ⊢;rw[show AV []=.sl []from rfl]at Q;generalize Aw:Nd.AG B=rs at Q K ⊢;by_cases Mg:e=1;subst Mg;refine⟨1,ZB,hN,A0 F,?_⟩;clear A0 A1 A2;refine en AP8 ASf ?_;exact wz Xo (cj Q<|trivial);by_cases z:q=0;subst z;refine⟨e,he,hN,A1 Mg F,?_⟩;clear A0 A1 A2;refine en AP8 ASf ?_;exact wz (cj2 @he @Mg Xo) (cj2 Q K W);refine⟨q,z,hN,A2 Mg z,?_⟩;clear A0 A1 A2;refine en AP8 ASf ?_;exact wz (cj2 @Mg @z Xo) (cj2 Q K W);rw[hr]at Q;have PV:=hv;have A6:=R;unfold Nd.Ad at PV;simp only[Ak,Awe]at PV;unfold Af.Bj at R;simp only[Ak]at R;have hx:x.Ok:=⟨hf,R.1,hl,R.2.1⟩
 obtain⟨B,j8⟩:∃B,n=Dd B:=⟨n.AE,ABc PV.2.1 PV.1⟩
 subst j8;have K:AC AF 9 [.c (Cc x.d),.c (.sl (Nd.AG B))] (W4 (XL x.d B)):=K;have A5:(Dd B).BX:=A5;by_cases h0:G B=0;left;obtain rfl:B=[]:=Nr h0;have e8:XL x.d []=([],8):=by
  have c1:O2 x.d []=(I6 (JP x.d []),0):=by unfold O2;rw[Awf (by rw[R.2.1,hv];simp)]
  unfold XL;rw[c1,Awf ZA];rfl
 rw[e8]at K;unfold W4 at K;refine⟨8,ZB,λ_ _ _ _ h=>absurd rfl h,by unfold gW;rw[A6,hv,Awf ZA];show _=if (XL x.d []).2≠0 then(XL x.d []).2 else 6;rw[e8];rfl,?_⟩;obtain⟨lv,cr⟩:=s;clear hr Av;simp only[Am,Nd.vs,Aj,Nd.row,Dd,Ap,BB,As,AR,Nd.AG]at Q K ⊢;rw[show AV []=.sl []from rfl]at K;refine en AP8 ASf ?_;exact wz Xo (cj2 Q K W);obtain⟨A,hA⟩:=ANG Av;have hC:=AJD x.d B Ux DS A5 Ux;have hS:=ABJ x s B hx R.2.2 A5 Ux hv;have c1:O2 x.d B=(I6 (JP x.d B),0):=by unfold O2;rw[Awf (by rw[R.2.1,hv];simp)]
 have c2:XL x.d B=(FZ (I6 (JP x.d B)) (G B),0):=by
  unfold XL;rw[c1,Awf ZA,Awf h0]
 have A9:(6:Int)=gW x s (Dd B):=by
  unfold gW;rw[A6,hv,Awf ZA];show _=if (XL x.d B).2≠0 then(XL x.d B).2 else 6
  rw[c2];rfl
 rw[c1]at hC;rw[c2]at K;unfold W4 at hC K;simp only at hC K;have DJ:G (x.CC s B)=G B:=by unfold Af.CC;rw[fF,ef,Zh]
 have Ce:G b.AE=G B:=by rw[<-hA.len];exact DJ
 have DK:G (I6 (JP x.d B))=G B:=by rw[ef,Zh]
 have Ws : ∀c∈b.AE,-1073741824<=c.w/\c.w<=1073741824:=λc B0=>by
  obtain⟨k,hk⟩:=List.getElem?_of_mem B0;have B1:=(Br.1 hk).1;obtain⟨c',v,h3,_,_,_,_,_,_,h4⟩:=hA.Ea k B1;rw[hk]at h3;cases h3;exact(Mq h4).1
 have Y2 : ∀v∈x.CC s B,-1073741824<=v/\v<=1073741824:=λv zx=>by
  have:=ES.1 (ALD hx R.2.2 B) v zx;simpa [An]using this
 have Yi : ∀v∈I6 (JP x.d B),-1073741824<=v/\v<=1073741824:=λv zx=>by
  have:=AAx R.2.1 B v zx;omega
 have B2:G B<=80:=by
  have:=SH B;have z:=rY B;omega
 have zX:=AW4 x.f (Cc x.d) B s b (AV (FZ (I6 (JP x.d B)) (G B))) (I6 (JP x.d B)) (x.CC s B) (G B) Q K hC hS Ws Yi Y2 Ux Ux Ce DK DJ;split at zX;right;rename_i hg;unfold Zk at hg;simp only[Ak,Awe]at hg;obtain⟨M,hM⟩:∃M,G B=M+1:=⟨G B - 1,Ux⟩
 have A8:(x.CC s B).getD 0 0=0:=AZA _ _ _;have o : ∀k,k<G B->A (k+1)=A k+(x.CC s B).getD k 0+(b.AE.map AA.w).getD k 0:=λk hk=>by
  obtain⟨c',v,h3,h4,h5,_,_,_,h6,_⟩:=hA.Ea k Ux;have h4:(x.CC s B)[k]?=J v:=h4;rw[Bv,h4,Bv,CM,h3];simp only[Nu,Dm];omega
 refine⟨b,_,FZ (I6 (JP x.d B)) (G B),hr,⟨?_,hg.1,hg.2,?_,AV3 _ _ _ _⟩,⟨A6,hv,Av,?_,⟨A,hA,?_⟩,by obtain⟨r,PS⟩:=AJh (I6 (JP x.d B)) (G B);rw[PS];rfl,rfl,rfl⟩,zX⟩;rw[AJR,hM];rfl;rw[AJS (A:=A) (N:=G B) hA.a0 A8 o _ Ux,<-hA.ae,Ce,hM];rfl;have hd:(Dd B).BR<=24:=PV.2.2.2;exact(AKW hx R.2.2 (src:=[]) ⟨F,F,by simp;omega⟩ Av).1;have:=AJV (cls:=I6 (JP x.d B)) hA.a0 A8 o M Ux;rw[<-hM]at this;rwa [show G B - 1=M by omega]
 rename_i hg;exact .inl ⟨6,ZB,λb' _ _ h3 _=>by rw[Av]at h3;cases h3;exact eq_false_of_ne_true hg,A9,zX⟩
def oE (o:Option AA):AA×Int:=(o.getD AA.zero,if o.isSome=I then 0 else 6)
@[simp] theorem AoQ :(HD x)[2]?=J (.c (.int .i64 x.f.params.Al)):=by rfl
@[simp] theorem AoR (h:2<G (HD x)):(HD x)[2]=.c (.int .i64 x.f.params.Al):=F
theorem Aj2 {x:Af}{s:Aa}(B:x.f.valid=I)(K:1<=BS x.f.params s)(M:BS x.f.params s<=100)(n:ByteArray):DB x.f n (x.sz s)=(x.gl s n,0):=by
 have e:=(Pk B K M n).1;unfold Af.gl Af.sz;rw[e]
theorem AHP :AC AF 112 [.agg (HD x),Aj s] (x.sz s:Int):=by
 have h:AC AF 80 [.agg x.f.vs,Aj s] (x.sz s:Int):=x7 x.f s;generalize B:x.sz s=z at h ⊢;unfold Aj at *
 refine en func112 ntmps112 ?_;exact wz results112 (cj h<|trivial)
theorem AjV (L:List AA)(ho:AA.FY L)(hc:AA.Az L<=900000)(o:G L<=10000):AC AF 226 [.c (.sl (AA.AG L))] (Ba (F9 L (Aq (G L) 0))):=by
 have B:=AXX L (Aq (G L) 0) ho hc o (by rw[H6];exact o);obtain⟨⟨b,e⟩,z⟩:=AI (F9 L (Aq (G L) 0));rw[z]at B ⊢;have M:=GA L;generalize Aw:AA.AG L=rs at B M ⊢;simp only[Ba,AR,As,AV,List.map_replicate]at B ⊢;refine en func226 ntmps226 ?_;refine wu (.mk 1) (cj @M<|ASC) trivial ⟨?_⟩;refine AW.DA ?_;refine CY (.mk 3) @M ?_;refine SW.ub (.Bg (Aq (G L) [.int .i64 0])) rfl ?_ ?_;intro S0 w0 y w a g ht;have R:=CW ht (.tmp 6);have q:Dk AF 39=J (3,1,8):=ZA;have Q:C2 AF 3=J [.c (.int .i64 0)]:=ZA;exact AIy g rfl q R R Q rfl Ux Ux Ux;simp only[St.step,St.put,Z7,Ai,Ag];refine SW.take 5 (AH.out ?_);simp only[DP,ET];have K:=(ASC)
 repeat any_goals (first|refine Eo ?_|exact Bt K|refine De K ?_|refine BV K (B) ?_|refine DI K ?_)
 simp only[CU,B9];refine SW.nil ?_;exact wz ASC W
theorem AXY (t:ByteArray)(s:Aa)(hx:x.Ok)(hs:s.ok=I)(ht:t.data.toList.all Dx=I)(hn:t.size<=1000):AC AF 195 [.agg (HD x),.c (.str t),Aj s] (Ba (oE (x.Po s t))):=by
 have A5:=AEr hx hs ht;obtain⟨o1,o2⟩:=AI7 λb hb=>(A5 b hb).1
 have M:=AEq x s t;have FX:AA.Az (x.Uc s t)<=900000:=by
  have:=wx (n:=1) λb hb=>Nat.le_of_eq (A5 b hb).2
  omega
 have R:=AjV (x.Uc s t) o1 FX Ux;rw[M]at R;have Tb:F9 (x.Uc s t) (Aq t.size 0)=oE (x.Po s t):=sm (sp:=Aq t.size 0) o2 (by rw[H6,M]) (by rw[ES];intro i hi;rw[List.eq_of_mem_replicate hi];decide);rw[Tb]at R;have A1:=AHP x s;obtain⟨p1,p2⟩:=HE hx.val hs;have hq:=AYA x.f.params.Al (x.sz s);have o:=AYA (x.Al s) 25;change AC _ _ _ (.c (.int .i64 (x.Al s)))at hq;have TQ : ∀c:UInt8,AC AF 225 [.agg x.f.vs,.c (.str ⟨#[c]⟩),(x.sz s:Int)] (.A7 [Ao (x.gl s ⟨#[c]⟩),AR 0]):=λc=>by
  have h:=AQA x.f ⟨#[c]⟩ (x.sz s) hx.fit.1;rw[Aj2 hx.val p1 p2]at h;exact h
 have HL : ∀c:UInt8,c≠32->x.RW s c=x.gl s ⟨#[c]⟩:=λc h=>Awf h
 have GM:x.RW s 32=Bf (AU (x.Al s) 25) 0 0 []:=F;obtain⟨⟨b,e⟩,hR⟩:=AI (oE (x.Po s t));rw[hR]at R ⊢;obtain⟨L,hL⟩:=AI (x.Uc s t);have Ir : ∀k (h:k<t.size) (h':k<G L),L[k]=x.RW s (t.data.toList[k]'(by rw[FW];exact h)):=by intro k h h';subst hL;simp[Af.Uc]
 rw[hL]at M R;obtain⟨Q,hQ⟩:=AI (AU (x.Al s) 25);rw[hQ]at o GM;obtain⟨q,zo⟩:=AI (x.Al s);rw[zo]at hq o;obtain⟨z,hz⟩:=AI (x.sz s);rw[hz]at hq A1 TQ;clear hR hL zo hz hQ FX o1 o2 A5 Tb;unfold Aj at *
 simp only[Ba,AR,As]at R ⊢;refine en func195 ntmps195 ?_;refine wy HY trivial ⟨?_⟩;refine AW.le (Le.tL 8 56 11 F) ?_;simp only[BA,BO,Nat.reduceAdd,Ag,Ai,BK,BU];refine CX (ι:={ k:Nat // k<=t.size }) (λk=>[(9,(k.1:Int)),(8,.gr 3 11 (AA.AG (L.take k.1)))]) (λk=>[O.box 30 (HD x) U,O.box 35 [s.By,.c (.bool s.Hd)] U,O.box 56 BT U,.tok 56 11 k.1]) (λk=>t.size - k.1) ⟨0,CI _⟩ ?_ ?_;exact ER (cj2 @BT.eq_1 @AA.AG.eq_1 @AA.AG.eq_2);rintro ⟨k,hk⟩;simp only;by_cases K:k<t.size;obtain⟨c,hb,CT,hd,Dn,_⟩:=o5 K;have OC:k<G L:=Ux;have hw:AZ.wrap ((k:Int)+1)=((k+1:Nat):Int):=by rw[Ac];simp
 have A3:t.extract k (k+1)=⟨#[t.data.toList[k]'(by rw[FW];exact K)]⟩:=AFU t k K;have hg:=Ir k K OC;have B0:t.data.toList[k]'(by rw[FW];exact K)=c:=by
  have h1:t.data.toList.drop k=c::t.data.toList.drop (k+1):=hd;have h2:=congrArg List.head? h1;rw[List.head?_drop,BE (by rw[FW];exact K)]at h2;exact ML h2
 rw[B0]at A3 hg;have FK:=AKZ L k OC;rw[hg]at FK;have Md:G (AA.AG (L.take k))=k:=by rw[GA,Fa];omega
 have A2:((AA.AG (L.take k)).all λr=>G r==11)=true:=by rw[ES];intro r hr;simpa using lE _ r hr
 obtain⟨RR,YW⟩:=AI (AA.AG (L.take k));rw[YW]at FK Md A2 ⊢;have FO:k+1<=maxLen:=by unfold maxLen;omega
 have EX:(k+1)*128<=140737488355328:=Ux;have A6:k<=k+1:=Nat.le_succ k;have A8:k+1<=t.size:=K;by_cases A0:c=32;subst A0;rw[GM]at FK;have x4:=FK.symm;simp only[Bf,AA.row,AA.AG,AV,BB]at x4;clear FK;refine wy (cj9 @K @Dn @hb @CT @hw @Md @FO @EX @x4 HY) (cj3 A1 hq o W) ⟨?_⟩;exact⟨⟨k+1,Ux⟩,by simp only;omega,wd 4⟩;have A9 : ¬(c.toNat:Int)=32:=λh=>A0 (by
  apply ADb.1;have:c.toNat=32:=Ux;rw[this];rfl)
 have kF:=TQ c;rw[HL c A0]at FK;have x4:=FK.symm;generalize hB:x.gl s ⟨#[c]⟩=B at kF x4;simp only[As,AR]at kF;clear FK;refine wy (cj9 @K @Dn @hb @CT @hw @A3 @A6 @A8 @A9<|cj4 @Md @FO @EX @x4 HY) (cj2 A1 kF W) ⟨?_⟩;exact⟨⟨k+1,Ux⟩,by simp only;omega,wd 4⟩;obtain rfl:k=t.size:=Ux;rw[Gl Ux];have Dn : ¬(t.size:Int)<(t.size:Int):=Ux;have Av:=GA L;generalize YW:AA.AG L=RR at R Av ⊢;exact wz (cj2 @K @BT.eq_1 HY) (cj R<|trivial)
theorem AmY (t:ByteArray)(s:Aa)(R:x.Ok)(hs:s.ok=I)(hn:Ck t=I):AC AF 224 [.agg (HD x),.c (.str t),Aj s] (Ba (oE (x.VI s t))):=by
 obtain⟨h1,h2,h3⟩:=AAu R s hn;have hl:=kW hs;have M:=ae x.f t R.fit.sl;have Ct:=AjZ x.f t (x.Mw s t) (x.sz s) R.fit (λg hg=>by have:=(QG R.val hg).AKx;omega);rw[AVX R hs hn]at Ct;have Q:=AHP x s;have K9:=AXd x.f (x.sz s);obtain⟨g1,g2⟩:=qA R hs h2;obtain⟨d1,d2⟩:=APq R hs (x.Mw s t).Ln;obtain⟨p1,p2⟩:=HE R.val hs;have ab:0<=AU x.f.params.FD (x.sz s)/\AU x.f.params.FD (x.sz s)<=20001:=AEI R.val p1 p2;obtain⟨c,e1,e2,e3⟩:=AOI g1 d1 d2 (a:=AU x.f.params.FD (x.sz s)) Ux;have B:=Aja (x.gl s (x.Mw s t).Ln) (AU x.f.params.FD (x.sz s)) g1.o Ux;rw[e1]at B;have hR:x.VI s t=Bj (F9 [c] [0]):=by unfold Af.VI;rw[e1];rfl
 have FH:=AjV [c] ⟨e2.o,trivial⟩ (by simp only[AA.Az];omega) ZA;have Tb:F9 [c] [0]=oE (x.VI s t):=by rw[hR];exact sm (AE:=[c]) (sp:=[0]) (by simp[e2.v]) rfl ZB
 rw[show Aq [c].length (0:Int)=[0]from rfl,Tb]at FH;change AC _ _ _ (.c (.int .i64 (AU x.f.params.FD (x.sz s))))at K9;obtain⟨G,hG⟩:=AI (x.gl s (x.Mw s t).Ln);rw[hG]at Ct B;obtain⟨⟨ob,oe⟩,ho⟩:=AI (oE (x.VI s t));rw[ho]at FH ⊢;have A0:(x.Mw s t)=⟨(x.Mw s t).Ln,0⟩:=by rw[<-h3]
 obtain⟨gn,Ro⟩:=AI ((x.Mw s t).Ln);rw[Ro]at A0;rw[A0]at Ct;have K:gn=match x.f.I8 t with
  | none=>t
  | some st=>st.sizes.getD (if s.By=0/\2<=st.sizes.length then 1 else 0) ⟨#[]⟩:=by
  rw[<-Ro];unfold Af.Mw;cases x.f.I8 t<;>rfl
 obtain⟨z,hz⟩:=AI (x.sz s);rw[hz]at Q Ct K9 B;obtain⟨ax,A1⟩:=AI (AU x.f.params.FD z);rw[A1]at K9 B;clear A0 Ro h1 h2 h3 hG hR Tb e1 g1 g2 d1 d2 hz A1 ho ab p1 p2;simp only[N4,Ba,AR,As,AA.AG,Ap,BB]at Ct B FH ⊢;unfold Aj at *
 cases VB:x.f.I8 t with
 | none=>rw[VB]at M K;simp only at K;subst K;simp only[NK,IU,Bc.row,Bc.zero,Hr,H8,Ap,BB]at M;refine en AcO Aia ?_;exact wz AR9 (cj6 M Q Ct K9 B FH W)
 | some st =>
   have A2:=(Se VB).1;have z1:=(QG R.val A2).AKw;rw[VB]at M K;simp only at K;simp only[NK,IU,Bc.row,Dm,IZ,Ap,BB]at M;have DJ:Gv st.sizes=.sl (st.sizes.map λn=>[.str n]):=F;obtain⟨rs,Aw⟩:=AI ((st.sizes.map λn=>[C.str n]));have Av:rs.length=st.sizes.length:=by rw[<-Aw,Ch]
   rw[DJ,Aw]at M;have Jh:0<rs.length:=Ux;have Ir : ∀i (h:i<st.sizes.length),rs[i]?=J [.str (st.sizes.getD i ⟨#[]⟩)]:=by
    intro i h;rw[<-Aw];simp[List.getD,h]
   have Wc:=Ir 0 Ux;have q:=gx Wc;by_cases c1:s.By=0/\2<=st.sizes.length;rw[Awd c1]at K;obtain⟨c1,c2⟩:=c1;have Lt:=Ir 1 Ux;rw[<-K]at Lt;have jo:=gx Lt;have pC:=Awn c1;have c3:1<rs.length:=Ux;have c4:(1:Int)<(rs.length:Int):=Ux;refine en AcO Aia ?_;exact wz (cj8 @pC @c3 @c4 @Jh @Wc @q @Lt @jo AR9) (cj6 M Q Ct K9 B FH W);rw[Awf c1]at K;rw[<-K]at Wc q;by_cases c2:s.By=0;have pC:=Awn c2;have c4 : ¬(1:Int)<(rs.length:Int):=Ux;refine en AcO Aia ?_;exact wz (cj5 @pC @c4 @Jh @Wc @q AR9) (cj6 M Q Ct K9 B FH W);refine en AcO Aia ?_;exact wz (cj4 @c2 @Jh @Wc @q AR9) (cj6 M Q Ct K9 B FH W)
theorem Amb (t:ByteArray)(s:Aa)(hx:x.Ok)(hs:s.ok=true)(hn:Z1 t=true):AC AF 194 [.agg (HD x),.c (.str t),Aj s] (Ba (oE (x.sym s t))):=by
 obtain⟨n1,n2,_⟩:=ALQ hn;have hf:=AXe x.d t (by have:=hx.dl;omega);have A0:t.size<=1000:=by simp only[Ck,Ak,Awe]at n1;omega
 have R:=L5 x.f t hx.fit.1;have q:=AmY x t s hx hs n1;have o:=AXY x t s hx hs n2 A0;have hz:=AHP x s;obtain⟨p1,p2⟩:=HE hx.val hs;have TQ:=AQA x.f t (x.sz s) hx.fit.1;rw[Aj2 hx.val p1 p2]at TQ;obtain⟨z,Q⟩:=AI (x.sz s);rw[Q]at hz TQ;unfold YK at R;obtain⟨g,hg⟩:=AI ((x.f.find t).getD BG.zero);rw[hg]at R;simp only[BG.row,Ap,BB]at R;unfold Af.sym;unfold WH at hf;obtain⟨⟨ob,oe⟩,ho⟩:=AI (oE (x.VI s t));obtain⟨⟨tb,te⟩,Mj⟩:=AI (oE (x.Po s t));rw[ho]at q;rw[Mj]at o;obtain⟨GL,M⟩:=AI (x.gl s t);rw[M]at TQ ⊢;obtain⟨E,hE⟩:=AI (He x.d t);rw[hE]at hf ⊢;obtain⟨I,hI⟩:=AI ((x.f.find t).isSome);rw[hI]at R ⊢;by_cases B:E.cls=1/\E.str=true;rw[Awd B,ho];obtain⟨B,K⟩:=B;clear Q hg M hE hI ho Mj;simp only[Ba,AR,As]at q ⊢;unfold Aj at *
 refine en func194 ntmps194 ?_;exact wz (cj2 @B @K Abf) (cj3 hf R q W);rw[Awf B];have P6:(E.cls=1/\E.str=U)\/(¬E.cls=1/\True):=by
  by_cases h:E.cls=1;refine .inl ⟨h,?_⟩;cases h2:E.str with
  | true=>exact absurd ⟨h,h2⟩ B
  | false=>rfl
  exact .inr ⟨h,trivial⟩
 clear B;by_cases K:t.size=1\/I=true
 . rw[Awd K,show oE (J GL)=(GL,0)from rfl];have c3:I=true\/(I=U/\t.size=1):=by
    cases I with
    | true=>exact .inl F
    | false=>exact .inr ⟨rfl,K.resolve_right ZB⟩
   clear Q hg M hE hI ho Mj K;simp only[Ba,AR,As]at TQ ⊢;unfold Aj at *
   rcases P6 with ⟨B,c4⟩|⟨B,c4⟩<;>rcases c3 with rfl|⟨rfl,c5⟩
   all_goals
    refine en func194 ntmps194 ?_;exact wz (cj2 @B @c4 Abf) (cj4 hf R hz TQ W)
 . rw[Awf K,Mj];have c3 : ¬t.size=1:=λh=>K (.inl h)
   have c5:I=false:=by
    cases I with
    | true=>exact absurd (.inr F) K
    | false=>rfl
   subst c5;clear Q hg M hE hI ho Mj K;simp only[Ba,AR,As]at o ⊢;unfold Aj at *
   rcases P6 with ⟨B,c4⟩|⟨B,c4⟩
   all_goals
    refine en func194 ntmps194 ?_;exact wz (cj3 @B @c4 @c3 Abf) (cj3 hf R o W)
theorem AmX (hx:x.Ok):AC AF 250 [.agg (HD x),Am n,Aj s] (.c (.bool (PZ x s n))):=by
 have hd:G x.d<=1000000:=by have:=hx.dl;omega
 obtain⟨k,t,c,B⟩:=n;unfold Aj;simp only[Am,Nd.vs,Nd.row,Ap,BB];by_cases K:s.By=0;by_cases Q:G B=1;match B,Q with
 | [⟨k',R,q,M⟩],_ =>
   simp only[Nd.AG,Nd.row];by_cases o:k'=2;subst o;have z:=AXe x.d R hd;have e:PZ x s ⟨k,t,c,[⟨2,R,q,M⟩]⟩=(He x.d R).dW:=by simp[PZ,K]
   rw[e];unfold WH at z;refine en SC ARG ?_;exact wz (cj @K<|IC) (cj z<|trivial);have e:PZ x s ⟨k,t,c,[⟨k',R,q,M⟩]⟩=false:=by simp[PZ,o]
   rw[e];refine en SC ARG ?_;exact wz (cj2 @K @o IC) W
 have e:PZ x s ⟨k,t,c,B⟩=false:=by
  unfold PZ;split;rename_i hk;simp only at hk;rw[hk]at Q;exact absurd rfl Q;rfl
 rw[e];have hl:=Pc B;generalize Aw:Nd.AG B=rs at hl ⊢;rw[<-hl]at Q;refine en SC ARG ?_;exact wz (cj2 @K @Q IC) W;have e:PZ x s ⟨k,t,c,B⟩=false:=by
  unfold PZ;split<;>simp[K]
 rw[e];refine en SC ARG ?_;exact wz (cj @K<|IC) W
end Go.Proofs.YtegconioojpgmaaGreat
