/- Part of the proof of some laws. Conditions: none. -/
import Derived.Test.YtglaipbdiofkfaaGreatY17
import Derived.Test.YtglaipbdiofkfaaGreatY20
import Derived.Test.YtglaipbdiofkfaaGreatY21
import Derived.Test.YtglaipbdiofkfaaGreatY22
set_option linter.unusedVariables false
set_option linter.unusedSimpArgs false
set_option maxRecDepth 100000
set_option maxHeartbeats 16000000
open Bool renaming and_eq_true→Ak,and_true→Km,false_eq_true→GW
open List renaming all_cons→Ep,all_nil→Nq,all_eq_true→ES,cons_append→BK,nil_append→BU,length_cons→BA,length_nil→BO,map_cons→Ap,map_nil→BB,set_cons_succ→Ai,set_cons_zero→Ag,take_succ_cons→DP,take_zero→ET,drop_succ_cons→CU,drop_zero→B9,mem_cons_self→GH,mem_cons→Cf,mem_cons_of_mem→Gk,length_pos_iff→Kr,getElem?_eq_getElem→BE,foldl_cons→Bw,foldl_nil→CO,replicate→Aq,setIfInBounds_toArray→uV
open Go.Proofs.Tryz renaming prog→AF,results46→Abn,func49→Hs,ntmps49→vD,results49→Jz,results50→Abt,func47→ALI,ntmps47→AMh,results47→Th,func48→L7,ntmps48→L8,results48→L9,results51→Abu,func33→nI,ntmps33→nU,results33→UQ,func25→AQb,ntmps25→ARD,results25→Yc,results21→AGR
open Option renaming getD_some→Dm,isSome_some→IZ,getD_none→Hr,isSome_none→H8
open Nat renaming lt_irrefl→IY,dvd_of_mod_eq_zero→AMw,zero_add→Cz,le_refl→BN,zero_le→CI,le_of_ble_eq_true→F2,le_of_not_lt→Hq,lt_of_lt_of_le→H7
open Option.some renaming injEq→BL,inj→ML
open Go.IntKind renaming i64→AZ
open Classical renaming not_not→uE
open Go.Fence renaming wide→Cg
open Array renaming getElem?_eq_some_iff→DO
open Go.Oper renaming looksAt→Gm
open Go.Op renaming operands→Bl
open Go.Call renaming operands→Df
open Go.Act renaming eval→JT,put→Q9
open And renaming intro→tu
open Option renaming some→J,none→E
open Bool renaming false→U,true→I
open List renaming length→G
namespace Go.Proofs.YtglaipbdiofkfaaGreat
open Go.RowKit Tryz
variable {b:AA}(x:Af)(S:BF)(m:Nat)(n:Nd)(src:List Int)(s:Aa)
theorem bF (h:b.Ad=I)(x y:Int):(b.AS x y).Ad=(An x && An y):=by
 obtain⟨Q,R,q,z,M,K,bx,Bq,B,o,H⟩:=b;simp only[AA.Ad,Ak,decide_eq_true_eq]at h;obtain⟨h1,h2,h3⟩:=h;simp only[AA.D8,AA.Cl,AA.lens,Ak,Ep,Nq]at h1;obtain⟨⟨⟨l1,l2,l3,l4,l5,_⟩,k1,k2⟩,h4⟩:=h1;have nE:AA.Fi ⟨Q,R,q,z,M,K,x,y,B,o,H⟩=true:=k1;have kP:AA.Js ⟨Q,R,q,z,M,K,x,y,B,o,H⟩=true:=k2;have J3:AA.cnt ⟨Q,R,q,z,M,K,x,y,B,o,H⟩<=20000:=h2;have Jd:AA.nest ⟨Q,R,q,z,M,K,x,y,B,o,H⟩<=100:=h3;have ho:AA.Cl ⟨Q,R,q,z,M,K,x,y,B,o,H⟩=(An x && An y):=by
  unfold AA.Cl;rw[nE,kP];simp only[AA.lens,Ep,Nq,l1,l2,l3,Bool.true_and,Km]
 have hp:AA.D8 ⟨Q,R,q,z,M,K,x,y,B,o,H⟩=(An x && An y):=by
  show (AA.Cl ⟨Q,R,q,z,M,K,x,y,B,o,H⟩ && AA.FU B)=_;rw[ho,h4,Km]
 show (AA.D8 ⟨Q,R,q,z,M,K,x,y,B,o,H⟩ && (decide (AA.cnt ⟨Q,R,q,z,M,K,x,y,B,o,H⟩<=20000) && decide (AA.nest ⟨Q,R,q,z,M,K,x,y,B,o,H⟩<=100)))=_;rw[hp,decide_eq_true J3,decide_eq_true Jd,Bool.and_self,Km]
theorem AJK {t:ByteArray}(h:(decide (t.size=2) && FC (Lq RX) t)=I):Nh t=true:=by
 rw[Ak]at h;have key : ∀b:UInt8,Lq RX b.toNat=I->Qj b=true:=by
  intro b B;unfold Lq at B;obtain⟨c,H,K⟩:=List.any_eq_true.1 B;have e:c=b:=UInt8.toNat_inj.1 (by have:=of_decide_eq_true K;omega);subst e;have : ∀d∈RX.data.toList,Qj d=true:=by decide
  exact this c H
 unfold Nh;rw[h.1,Km,ES];intro b B;exact key b (ES.1 h.2 b B)
theorem AYv {f:AP}(H:f.valid=I):∀s∈f.C5,G s.sizes<=1000:=λs B=>by
 have h:=Z9 H s B;simp only[Oh,DX,Ep,Nq,Ak,decide_eq_true_eq]at h;omega
theorem APT {x:Af}(B:x.Ok){s:Aa}(hs:s.ok=I){t:ByteArray}(K:Nh t=I)(hb:b.Ad=I):O5 x.f t b (x.sz s)=((Bj (O5 x.f t b (x.sz s))).getD AA.zero,if (Bj (O5 x.f t b (x.sz s))).isSome=I then 0 else 6):=by
 obtain⟨p1,p2⟩:=HE B.val hs;have o:x.sz s=BS x.f.params s:=F;have R : ∀Q H,Ck Q=I->(MX x.f Q H (x.sz s)).1.Ad=true:=λQ H hn=>by
  rw[o];rcases xJ B.val p1 p2 hn H with ⟨_,e⟩|⟨_,S,_,M,_,z,_,e⟩
  rw[e];decide;have B:=bF M S.x S.y;rw[show (S.AS S.x S.y).Ad=I by cases S;exact M]at B;rw[e,bF M,z,Km];cases hq:An S.x with
  | true=>rfl
  | false=>rw[hq]at B;cases B
 have e:O5 x.f t b (x.sz s)=F9 [(MX x.f (Kg t 0) (P9 x.f b (x.sz s)) (x.sz s)).1,b.AS 0 0,(MX x.f (Kg t 1) (P9 x.f b (x.sz s)) (x.sz s)).1] [0,0,0]:=by
  unfold O5;rw[if_neg (by simp[B.val,hb,K]),if_neg (by rw[o];omega)]
 rw[e];refine sm ?_ rfl (by decide);have q:(b.AS 0 0).Ad=true:=by rw[bF hb];decide
 simp[R _ _ (sB K 0 (by omega)),R _ _ (sB K 1 (by omega)),q]
theorem AYc {x:Af}{m:Nat}{n:Nd}{src:List Int}{s:Aa}(h:RL x m n src s)(hk:n.kind=5):AQ AF 46 [Bb x m,Am n,.c (AV src),Aj s] m (BM x.f) (BM x.f) (BP (Dr x s src n)):=by
 obtain⟨ss,q⟩:=AI (AV src);rcases h.parts with ⟨R,Q⟩|⟨L,hl,hb,R,Q⟩
 rw[R];simp only[BP];rw[q]at Q ⊢;unfold Bb Aj Am at *
 refine CH func46 ntmps46 ?_;exact qz Abn (cj Q<|trivial);have M:=Q.data VR;have z:=Qa h.own;have Mj:=Z3 h.own;rw[hk]at z Mj;obtain⟨a,b,rfl⟩:=rZ (L:=L) (by simp[FL]at z;omega);obtain⟨a1,a2,a3,a4⟩:=hb.one (b:=a) (by simp);obtain⟨b1,b2,b3,b4⟩:=hb.one (b:=b) (by simp);have Je:Dr x s src n=Bj (C8 (WO x.f s a b)):=by rw[R,hk];simp[Ji]
 have H:=AWA x.f s a b a2 (by omega) b2 (by omega);rw[show cE x.f s a b=C8 (WO x.f s a b)from if_neg (by simp[h.hx.val,h.hs,a1,b1]),Uh]at H;rw[Je];generalize ho:Bj (C8 (WO x.f s a b))=o at H ⊢;rw[q]at M ⊢;have hr:AA.AG [a,b]=[a.row,b.row]:=F;rw[hr]at M;unfold Bb Aj Am at *
 cases o with
 | some B=>have K:=Jl B;simp only[Dm,IZ,if_true,Ba,AR,As]at H K;simp only[BP,As];refine CH func46 ntmps46 ?_;exact qz Abn (cj3 M H K W)
 | none=>have K:=LG AA.zero m (BM x.f);simp only[Hr,H8,GW,if_false,Ba,AR,As]at H K;simp only[BP,As];refine CH func46 ntmps46 ?_;exact qz Abn (cj3 M H K W)
theorem AYU {x:Af}{m:Nat}{n:Nd}{src:List Int}{s:Aa}(h:RL x m n src s)(hk:n.kind=10):AQ AF 49 [Bb x m,Am n,.c (AV src),Aj s] m (BM x.f) (BM x.f) (BP (Dr x s src n)):=by
 obtain⟨ss,q⟩:=AI (AV src);rcases h.parts with ⟨R,Q⟩|⟨L,hl,hb,R,Q⟩
 rw[R];simp only[BP];rw[q]at Q ⊢;unfold Bb Aj Am at *
 refine CH Hs vD ?_;exact qz Jz (cj Q<|trivial);have M:=Q.data VR;have z:=Qa h.own;have Mj:=Z3 h.own;rw[hk]at z Mj;obtain⟨a,rfl⟩:=AIF (L:=L) (by simp[FL]at z;omega);obtain⟨a1,a2,a3,a4⟩:=hb.one (b:=a) (by simp);have Je:Dr x s src n=Bj (C8 (al x.f s n.text a (x.gl s n.text))):=by rw[R,hk];simp[Ji]
 have H:=AVx x.f s n.text a h.hx.fit h.hx.val h.hs a1 a2 (by simpa [Ki]using Mj);rw[show (DB x.f n.text (BS x.f.params s)).1=x.gl s n.text from rfl,Uh]at H;rw[Je];generalize ho:Bj (C8 (al x.f s n.text a (x.gl s n.text)))=o at H ⊢;rw[q]at M ⊢;have hr:AA.AG [a]=[a.row]:=F;rw[hr]at M;unfold Bb Aj Am at *
 cases o with
 | some B=>have K:=Jl B;simp only[Dm,IZ,if_true,Ba,AR,As]at H K;simp only[BP,As];refine CH Hs vD ?_;exact qz Jz (cj3 M H K W)
 | none=>have K:=LG AA.zero m (BM x.f);simp only[Hr,H8,GW,if_false,Ba,AR,As]at H K;simp only[BP,As];refine CH Hs vD ?_;exact qz Jz (cj3 M H K W)
theorem AYb {x:Af}{m:Nat}{n:Nd}{src:List Int}{s:Aa}(h:RL x m n src s)(hk:n.kind=11):AQ AF 50 [Bb x m,Am n,.c (AV src),Aj s] m (BM x.f) (BM x.f) (BP (Dr x s src n)):=by
 obtain⟨ss,Cu⟩:=AI (AV src);have z:=tE x m h.hs;have G7:=kW h.hs;have k0:0<=s.By:=by omega
 have k1:s.By<4:=by omega
 rcases h.parts with ⟨R,Q⟩|⟨L,hl,hb,R,Q⟩
 rw[R];simp only[BP];rw[Cu]at Q ⊢;unfold Bb Aj Am at *
 refine CH func50 ntmps50 ?_;exact qz (cj3 @z @k0 @k1 Abt) (cj Q<|trivial);have M:=Q.data VR;have Ej:=Qa h.own;have q:=Z3 h.own;rw[hk]at Ej q;obtain⟨a,rfl⟩:=AIF (L:=L) (by simp[FL]at Ej;omega);obtain⟨a1,a2,a3,a4⟩:=hb.one (b:=a) (by simp);have Je:Dr x s src n=Bj (O5 x.f n.text a (x.sz s)):=by rw[R,hk];simp[Ji]
 have H:=AV9 x.f n.text a (x.sz s) h.hx.fit (AYv h.hx.val) a2 (by omega) (by have:=sC (AJK (by simpa [Ki]using q));unfold maxLen;omega);rw[APT h.hx h.hs (AJK (by simpa [Ki]using q)) a1]at H;rw[Je];generalize ho:Bj (O5 x.f n.text a (x.sz s))=o at H ⊢;rw[Cu]at M ⊢;have hr:AA.AG [a]=[a.row]:=F;rw[hr]at M;unfold Bb Aj Am at *
 cases o with
 | some B=>have K:=Jl B;simp only[Dm,IZ,if_true,Ba,AR,As]at H K;simp only[BP,As];refine CH func50 ntmps50 ?_;exact qz (cj3 @z @k0 @k1 Abt) (cj3 M H K W)
 | none=>have K:=LG AA.zero m (BM x.f);simp only[Hr,H8,GW,if_false,Ba,AR,As]at H K;simp only[BP,As];refine CH func50 ntmps50 ?_;exact qz (cj3 @z @k0 @k1 Abt) (cj3 M H K W)
theorem wi (l:List C):Hc 11 2 l=[l.take 11,(l.drop 11).take 11]:=F
theorem AOt {AE:List Nd}(h:b.Ad=I):(Ue AE b).Ad=true:=by
 unfold Ue;split;obtain⟨R,o,z,bw,Q,M,bx,B,H,q,K⟩:=b;have e1:(AA.cB ⟨R,o,z,bw,Q,M,bx,B,H,q,K⟩).cnt=(⟨R,o,z,bw,Q,M,bx,B,H,q,K⟩:AA).cnt:=F;have e2:(AA.cB ⟨R,o,z,bw,Q,M,bx,B,H,q,K⟩).nest=(⟨R,o,z,bw,Q,M,bx,B,H,q,K⟩:AA).nest:=F;unfold AA.Ad at h ⊢;rw[e1,e2];rw[Ak]at h ⊢;refine⟨?_,h.2⟩;have h3:=h.1;simp only[AA.D8,AA.Cl,AA.cB,AA.lens,AA.Fi,AA.Js,Ak,Ep,Nq]at h3 ⊢;obtain⟨⟨⟨l1,l2,l3,l4,l5,l6⟩,k1,k2⟩,h4⟩:=h3;have l0:An 0=true:=by decide
 exact⟨⟨⟨l0,l0,l0,l4,l5,l6⟩,k1,k2⟩,h4⟩;exact h
theorem AZG {x:Af}{m:Nat}{n:Nd}{src:List Int}{s:Aa}(h:RL x m n src s)(hk:n.kind=6)(k0:Nd)(kr:List Nd)(EC:n.AE=k0::kr):AQ AF 47 [Bb x m,Am n,.c (AV src),Aj s] m (BM x.f) (BM x.f) (BP (Dr x s src n)):=by
 obtain⟨ss,Cu⟩:=AI (AV src);rcases h.parts with ⟨Ca,M⟩|⟨L,hl,hb,Ca,M⟩
 rw[Ca];simp only[BP];rw[Cu]at M ⊢;unfold Bb Aj Am at *
 refine CH ALI AMh ?_;exact qz Th (cj M<|trivial);have Q:=Qa h.own;rw[hk]at Q;obtain⟨a,b,rfl⟩:=rZ (L:=L) (by simp[FL]at Q;omega);obtain⟨a1,a2,a3,a4⟩:=hb.one (b:=a) (by simp);obtain⟨b1,b2,b3,b4⟩:=hb.one (b:=b) (by simp);have IH:=AOt (AE:=n.AE) a1;have Je:Dr x s src n=Bj (C8 (Qp x.f s b [Ue n.AE a])):=by rw[Ca,hk];simp[Ji]
 have H:=AWf x.f s b [Ue n.AE a] h.hx.fit b2 (by omega) (λg hg=>by rw[List.mem_singleton]at hg;subst hg;exact⟨kj IH,by have:=ik IH;omega⟩);rw[show VP x.f s b [Ue n.AE a]=C8 (Qp x.f s b [Ue n.AE a])from if_neg (by simp[h.hx.val,h.hs,b1,IH]),Uh]at H;rw[Je];obtain⟨o,ho⟩:=AI (Bj (C8 (Qp x.f s b [Ue n.AE a])));have KA:Nd.AG n.AE=k0.row::Nd.AG kr:=by rw[EC];rfl
 have z:Ue n.AE a=if k0.AE=[]then a.cB else a:=by rw[EC];rfl
 rw[ho]at H ⊢;rw[z]at H;rw[Cu]at M ⊢;obtain⟨q0,q1,q2,q⟩:=k0;have hr:AA.AG [a,b]=[a.row,b.row]:=F;simp only at H z;simp only[Nd.row]at KA;have Ce:G (Nd.AG q)=G q:=Pc q;obtain⟨ak,an,A2,aw,ah,ad,ax,ay,A0,ao,A1⟩:=a;obtain⟨bk,bn,bs,bw,bh,bd,bx,Bq,EU,bo,Et⟩:=b;simp only[AA.AG,AA.row,List.flatten_cons,List.flatten_nil,List.append_nil,BK,BU,BA,BO,Nat.reduceAdd]at M;unfold Bb Aj Am at *
 by_cases R:G q=0;have Q:q=[]:=List.length_eq_zero_iff.1 R;rw[if_pos Q]at H;simp only[As,AA.vs,AA.cB,AA.AG,AA.row,Ap,BB]at H;cases o with
 | some B=>have K:=Jl B;simp only[Dm,IZ,if_true,Ba,AR,As]at H K;simp only[BP,As];refine CH ALI AMh ?_;refine qu (.mk 1) Th trivial ⟨?_⟩;refine AW.DA ?_;refine CY (.mk 4) trivial ?_;refine SW.pI 0 M (by kernel_rfl) (by simp[BQ]) (by simp[C7];first|exact rfl|exact⟨F,F⟩) (by simp[V.CF,V.CP]) rfl ?_;simp only[St.step,St.put,Bk,BA,BO,Nat.reduceAdd,Nat.reduceLT,IY,if_true,if_false,Ai,Ag,BK,BU,Ap,BB];refine CY (.mk 1) trivial ?_;refine SW.nil ?_;refine qu (.mk 4) (cj3 @KA @Ce @R Th) trivial ⟨?_⟩;refine Cn 4 ?_;simp only[wi,DP,ET,CU,B9];exact qz Th (cj2 H K W)
 | none=>have K:=LG AA.zero m (BM x.f);simp only[Hr,H8,GW,if_false,Ba,AR,As]at H K;simp only[BP,As];refine CH ALI AMh ?_;refine qu (.mk 1) Th trivial ⟨?_⟩;refine AW.DA ?_;refine CY (.mk 4) trivial ?_;refine SW.pI 0 M (by kernel_rfl) (by simp[BQ]) (by simp[C7];first|exact rfl|exact⟨F,F⟩) (by simp[V.CF,V.CP]) rfl ?_;simp only[St.step,St.put,Bk,BA,BO,Nat.reduceAdd,Nat.reduceLT,IY,if_true,if_false,Ai,Ag,BK,BU,Ap,BB];refine CY (.mk 1) trivial ?_;refine SW.nil ?_;refine qu (.mk 4) (cj3 @KA @Ce @R Th) trivial ⟨?_⟩;refine Cn 4 ?_;simp only[wi,DP,ET,CU,B9];exact qz Th (cj2 H K W)
 have Q : ¬q=[]:=λe=>R (by rw[e];rfl)
 rw[if_neg Q]at H;simp only[As,AA.vs,AA.AG,AA.row,Ap,BB]at H;cases o with
 | some B=>have K:=Jl B;simp only[Dm,IZ,if_true,Ba,AR,As]at H K;simp only[BP,As];refine CH ALI AMh ?_;refine qu (.mk 1) Th trivial ⟨?_⟩;refine AW.DA ?_;refine CY (.mk 4) trivial ?_;refine SW.pI 0 M (by kernel_rfl) (by simp[BQ]) (by simp[C7];first|exact rfl|exact⟨F,F⟩) (by simp[V.CF,V.CP]) rfl ?_;simp only[St.step,St.put,Bk,BA,BO,Nat.reduceAdd,Nat.reduceLT,IY,if_true,if_false,Ai,Ag,BK,BU,Ap,BB];refine CY (.mk 1) trivial ?_;refine SW.nil ?_;refine qu (.mk 4) (cj3 @KA @Ce @R Th) trivial ⟨?_⟩;refine Cn 4 ?_;simp only[wi,DP,ET,CU,B9];exact qz Th (cj2 H K W)
 | none=>have K:=LG AA.zero m (BM x.f);simp only[Hr,H8,GW,if_false,Ba,AR,As]at H K;simp only[BP,As];refine CH ALI AMh ?_;refine qu (.mk 1) Th trivial ⟨?_⟩;refine AW.DA ?_;refine CY (.mk 4) trivial ?_;refine SW.pI 0 M (by kernel_rfl) (by simp[BQ]) (by simp[C7];first|exact rfl|exact⟨F,F⟩) (by simp[V.CF,V.CP]) rfl ?_;simp only[St.step,St.put,Bk,BA,BO,Nat.reduceAdd,Nat.reduceLT,IY,if_true,if_false,Ai,Ag,BK,BU,Ap,BB];refine CY (.mk 1) trivial ?_;refine SW.nil ?_;refine qu (.mk 4) (cj3 @KA @Ce @R Th) trivial ⟨?_⟩;refine Cn 4 ?_;simp only[wi,DP,ET,CU,B9];exact qz Th (cj2 H K W)
theorem AZK {x:Af}{m:Nat}{n:Nd}{src:List Int}{s:Aa}(h:RL x m n src s)(M:n.kind=7)(k0:Nd)(kr:List Nd)(EC:n.AE=k0::kr):AQ AF 48 [Bb x m,Am n,.c (AV src),Aj s] m (BM x.f) (BM x.f) (BP (Dr x s src n)):=by
 obtain⟨ss,Cu⟩:=AI (AV src);rcases h.parts with ⟨q,hq⟩|⟨L,hl,hb,q,hq⟩
 rw[q];simp only[BP];rw[Cu]at hq ⊢;unfold Bb Aj Am at *
 refine CH L7 L8 ?_;exact qz L9 (cj hq<|trivial);have Q:=hq.data VR;have Ej:=Qa h.own;have Mj:=Z3 h.own;rw[M]at Ej Mj;obtain⟨a,b,rfl⟩:=rZ (L:=L) (by simp[FL]at Ej;omega);obtain⟨a1,a2,a3,a4⟩:=hb.one (b:=a) (by simp);obtain⟨b1,b2,b3,b4⟩:=hb.one (b:=b) (by simp);have R:=ABr x m k0 s h.hx;have KA:Nd.AG n.AE=k0.row::Nd.AG kr:=by rw[EC];rfl
 rw[Cu]at Q ⊢;have hr:AA.AG [a,b]=[a.row,b.row]:=F;rw[hr]at Q;cases z:PZ x s k0 with
 | true =>
   have Je:Dr x s src n=Bj (C8 (OP x.f s a [b] [])):=by rw[q,M];simp[Ji,EC,z,Xb,Xc]
   have H:=v5 x.f s a [b] [] h.hx.fit h.hx.val h.hs a1 a2 (by simp) (by simp) (by simpa using ⟨b1,b2⟩) (by simp);rw[Uh]at H;rw[Je];obtain⟨o,ho⟩:=AI (Bj (C8 (OP x.f s a [b] [])));rw[ho]at H ⊢;rw[z]at R;unfold Bb Aj Am at *
   simp only[AA.AG]at H;cases o with
   | some B=>have K:=Jl B;simp only[Dm,IZ,if_true,Ba,AR,As]at H K;simp only[BP,As];refine CH L7 L8 ?_;exact qz (cj2 @M @KA L9) (cj4 Q H R K W)
   | none=>have K:=LG AA.zero m (BM x.f);simp only[Hr,H8,GW,if_false,Ba,AR,As]at H K;simp only[BP,As];refine CH L7 L8 ?_;exact qz (cj2 @M @KA L9) (cj4 Q H R K W)
 | false =>
   have Je:Dr x s src n=Bj (C8 (Oc x.f s a [b] [])):=by rw[q,M];simp[Ji,EC,z,Xb,Xc]
   have H:=AWD x.f s a [b] [] h.hx.fit h.hx.val h.hs a1 a2 (by simp) (by simp) (by simpa using ⟨b1,b2⟩) (by simp);rw[Uh]at H;rw[Je];generalize ho:Bj (C8 (Oc x.f s a [b] []))=o at H ⊢;rw[z]at R;unfold Bb Aj Am at *
   simp only[AA.AG]at H;cases o with
   | some B=>have K:=Jl B;simp only[Dm,IZ,if_true,Ba,AR,As]at H K;simp only[BP,As];refine CH L7 L8 ?_;exact qz (cj2 @M @KA L9) (cj4 Q H R K W)
   | none=>have K:=LG AA.zero m (BM x.f);simp only[Hr,H8,GW,if_false,Ba,AR,As]at H K;simp only[BP,As];refine CH L7 L8 ?_;exact qz (cj2 @M @KA L9) (cj4 Q H R K W)
theorem AZL {x:Af}{m:Nat}{n:Nd}{src:List Int}{s:Aa}(h:RL x m n src s)(M:n.kind=8)(k0:Nd)(kr:List Nd)(EC:n.AE=k0::kr):AQ AF 48 [Bb x m,Am n,.c (AV src),Aj s] m (BM x.f) (BM x.f) (BP (Dr x s src n)):=by
 obtain⟨ss,Cu⟩:=AI (AV src);rcases h.parts with ⟨q,hq⟩|⟨L,hl,hb,q,hq⟩
 rw[q];simp only[BP];rw[Cu]at hq ⊢;unfold Bb Aj Am at *
 refine CH L7 L8 ?_;exact qz L9 (cj hq<|trivial);have Q:=hq.data VR;have Ej:=Qa h.own;have Mj:=Z3 h.own;rw[M]at Ej Mj;obtain⟨a,b,rfl⟩:=rZ (L:=L) (by simp[FL]at Ej;omega);obtain⟨a1,a2,a3,a4⟩:=hb.one (b:=a) (by simp);obtain⟨b1,b2,b3,b4⟩:=hb.one (b:=b) (by simp);have R:=ABr x m k0 s h.hx;have KA:Nd.AG n.AE=k0.row::Nd.AG kr:=by rw[EC];rfl
 rw[Cu]at Q ⊢;have hr:AA.AG [a,b]=[a.row,b.row]:=F;rw[hr]at Q;cases z:PZ x s k0 with
 | true =>
   have Je:Dr x s src n=Bj (C8 (OP x.f s a [] [b])):=by rw[q,M];simp[Ji,EC,z,Xb,Xc]
   have H:=v5 x.f s a [] [b] h.hx.fit h.hx.val h.hs a1 a2 (by simp) (by simp) (by simp) (by simpa using ⟨b1,b2⟩);rw[Uh]at H;rw[Je];obtain⟨o,ho⟩:=AI (Bj (C8 (OP x.f s a [] [b])));rw[ho]at H ⊢;rw[z]at R;unfold Bb Aj Am at *
   simp only[AA.AG]at H;cases o with
   | some B=>have K:=Jl B;simp only[Dm,IZ,if_true,Ba,AR,As]at H K;simp only[BP,As];refine CH L7 L8 ?_;exact qz (cj2 @M @KA L9) (cj4 Q H R K W)
   | none=>have K:=LG AA.zero m (BM x.f);simp only[Hr,H8,GW,if_false,Ba,AR,As]at H K;simp only[BP,As];refine CH L7 L8 ?_;exact qz (cj2 @M @KA L9) (cj4 Q H R K W)
 | false =>
   have Je:Dr x s src n=Bj (C8 (Oc x.f s a [] [b])):=by rw[q,M];simp[Ji,EC,z,Xb,Xc]
   have H:=AWD x.f s a [] [b] h.hx.fit h.hx.val h.hs a1 a2 (by simp) (by simp) (by simp) (by simpa using ⟨b1,b2⟩);rw[Uh]at H;rw[Je];generalize ho:Bj (C8 (Oc x.f s a [] [b]))=o at H ⊢;rw[z]at R;unfold Bb Aj Am at *
   simp only[AA.AG]at H;cases o with
   | some B=>have K:=Jl B;simp only[Dm,IZ,if_true,Ba,AR,As]at H K;simp only[BP,As];refine CH L7 L8 ?_;exact qz (cj2 @M @KA L9) (cj4 Q H R K W)
   | none=>have K:=LG AA.zero m (BM x.f);simp only[Hr,H8,GW,if_false,Ba,AR,As]at H K;simp only[BP,As];refine CH L7 L8 ?_;exact qz (cj2 @M @KA L9) (cj4 Q H R K W)
theorem AZM {x:Af}{m:Nat}{n:Nd}{src:List Int}{s:Aa}(h:RL x m n src s)(M:n.kind=9)(k0:Nd)(kr:List Nd)(EC:n.AE=k0::kr):AQ AF 48 [Bb x m,Am n,.c (AV src),Aj s] m (BM x.f) (BM x.f) (BP (Dr x s src n)):=by
 obtain⟨ss,Cu⟩:=AI (AV src);rcases h.parts with ⟨q,hq⟩|⟨L,hl,hb,q,hq⟩
 rw[q];simp only[BP];rw[Cu]at hq ⊢;unfold Bb Aj Am at *
 refine CH L7 L8 ?_;exact qz L9 (cj hq<|trivial);have Q:=hq.data VR;have Ej:=Qa h.own;have Mj:=Z3 h.own;rw[M]at Ej Mj;obtain⟨a,b,c,rfl⟩:=AT9 (L:=L) (by simp[FL]at Ej;omega);obtain⟨a1,a2,a3,a4⟩:=hb.one (b:=a) (by simp);obtain⟨b1,b2,b3,b4⟩:=hb.one (b:=b) (by simp);obtain⟨c1,c2,c3,c4⟩:=hb.one (b:=c) (by simp);have R:=ABr x m k0 s h.hx;have KA:Nd.AG n.AE=k0.row::Nd.AG kr:=by rw[EC];rfl
 rw[Cu]at Q ⊢;have hr:AA.AG [a,b,c]=[a.row,b.row,c.row]:=F;rw[hr]at Q;cases z:PZ x s k0 with
 | true =>
   have Je:Dr x s src n=Bj (C8 (OP x.f s a [b] [c])):=by rw[q,M];simp[Ji,EC,z,Xb,Xc]
   have H:=v5 x.f s a [b] [c] h.hx.fit h.hx.val h.hs a1 a2 (by simp) (by simp) (by simpa using ⟨b1,b2⟩) (by simpa using ⟨c1,c2⟩);rw[Uh]at H;rw[Je];obtain⟨o,ho⟩:=AI (Bj (C8 (OP x.f s a [b] [c])));rw[ho]at H ⊢;rw[z]at R;unfold Bb Aj Am at *
   simp only[AA.AG]at H;cases o with
   | some B=>have K:=Jl B;simp only[Dm,IZ,if_true,Ba,AR,As]at H K;simp only[BP,As];refine CH L7 L8 ?_;exact qz (cj2 @M @KA L9) (cj4 Q H R K W)
   | none=>have K:=LG AA.zero m (BM x.f);simp only[Hr,H8,GW,if_false,Ba,AR,As]at H K;simp only[BP,As];refine CH L7 L8 ?_;exact qz (cj2 @M @KA L9) (cj4 Q H R K W)
 | false =>
   have Je:Dr x s src n=Bj (C8 (Oc x.f s a [b] [c])):=by rw[q,M];simp[Ji,EC,z,Xb,Xc]
   have H:=AWD x.f s a [b] [c] h.hx.fit h.hx.val h.hs a1 a2 (by simp) (by simp) (by simpa using ⟨b1,b2⟩) (by simpa using ⟨c1,c2⟩);rw[Uh]at H;rw[Je];generalize ho:Bj (C8 (Oc x.f s a [b] [c]))=o at H ⊢;rw[z]at R;unfold Bb Aj Am at *
   simp only[AA.AG]at H;cases o with
   | some B=>have K:=Jl B;simp only[Dm,IZ,if_true,Ba,AR,As]at H K;simp only[BP,As];refine CH L7 L8 ?_;exact qz (cj2 @M @KA L9) (cj4 Q H R K W)
   | none=>have K:=LG AA.zero m (BM x.f);simp only[Hr,H8,GW,if_false,Ba,AR,As]at H K;simp only[BP,As];refine CH L7 L8 ?_;exact qz (cj2 @M @KA L9) (cj4 Q H R K W)
theorem ANX (f:AP)(s:Aa)(B:Nat)(cells:List AA):N2 f s B cells=((Bj (N2 f s B cells)).getD AA.zero,if (Bj (N2 f s B cells)).isSome=I then 0 else 6):=by
 apply AIr;unfold N2;split;exact .inr F;unfold C8;split;exact .inl F;exact .inr F
theorem AUT {c:Int}{n:Nat}(h:FL 12 c n=I):∃B AG:Nat,c=(B:Int)/\n=AG*B/\1<=B/\B<=16/\1<=AG/\n<=256:=by
 simp only[FL,if_true,Ak,decide_eq_true_eq]at h;obtain⟨R,o,q,M,H⟩:=h;refine⟨c.toNat,n / c.toNat,by omega,?_,by omega,by omega,?_,M⟩;have e:c=(c.toNat:Int):=by omega
 rw[e]at H;have K:n % c.toNat=0:=by
  have:((n:Int).tmod (c.toNat:Int))=((n % c.toNat:Nat):Int):=F;rw[this]at H;omega
 exact(Nat.div_mul_cancel (AMw K)).symm;have e:c=(c.toNat:Int):=by omega
 rw[e]at H;have K:n % c.toNat=0:=by
  have:((n:Int).tmod (c.toNat:Int))=((n % c.toNat:Nat):Int):=F;rw[this]at H;omega
 have Q:c.toNat<=n:=Nat.le_of_dvd (by omega) (AMw K);exact Nat.div_pos Q (by omega)
theorem AY2 {x:Af}{m:Nat}{n:Nd}{src:List Int}{s:Aa}(h:RL x m n src s)(hk:n.kind=12):AQ AF 51 [Bb x m,Am n,.c (AV src),Aj s] m (BM x.f) (BM x.f) (BP (Dr x s src n)):=by
 obtain⟨ss,Cu⟩:=AI (AV src);rcases h.parts with ⟨z,q⟩|⟨L,hl,R,z,q⟩
 rw[z];simp only[BP];rw[Cu]at q ⊢;unfold Bb Aj Am at *
 refine CH func51 ntmps51 ?_;exact qz Abu (cj q<|trivial);have Q:=q.data VR;have Ej:=Qa h.own;rw[hk]at Ej;obtain⟨M,AG,yx,kA,c1,c2,r1,n2⟩:=AUT Ej;have hC:Cells x s M AG L:=⟨⟨by rw[hl,kA],c1,c2,r1,by omega,VN h.hx h.hs,ABT h.hx h.hs,λb CT=>⟨R.w b CT,(D3 (R.v b CT)).1.2⟩⟩,R.v,by have:=R.c;omega⟩
 have Je:Dr x s src n=Bj (N2 x.f s M L):=by rw[z,hk];simp[Ji,yx]
 have H:=AWe x s M AG L h.hx h.hs hC;rw[ANX]at H;rw[Je];generalize ho:Bj (N2 x.f s M L)=o at H ⊢;rw[Cu]at Q ⊢;generalize Aw:AA.AG L=rs at Q H;unfold Bb Aj Am at *
 cases o with
 | some B=>have K:=Jl B;simp only[Dm,IZ,if_true,Ba,AR,As]at H K;simp only[BP,As];refine CH func51 ntmps51 ?_;exact qz (cj @yx<|Abu) (cj3 Q H K W)
 | none=>have K:=LG AA.zero m (BM x.f);simp only[Hr,H8,GW,if_false,Ba,AR,As]at H K;simp only[BP,As];refine CH func51 ntmps51 ?_;exact qz (cj @yx<|Abu) (cj3 Q H K W)
theorem AUi {n:Nd}(H:n.Cl=I)(B:n.kind=2\/n.kind=3\/n.kind=4):n.AE=[]:=by
 have:=Qa H;rcases B with h|h|h
 rw[h]at this;simp[FL]at this;exact this.2;rw[h]at this;simp[FL]at this;exact this.2;rw[h]at this;simp[FL]at this;exact this.2
theorem AAJ (src:List Int){n:Nd}(H:n.Cl=I)(B:n.kind=2\/n.kind=3\/n.kind=4):Dr x s src n=if n.kind=2 then x.sym s n.text else x.Po s n.text:=by
 have h:=AUi H B;unfold Dr;rw[h];simp only[Kh,Ji];rcases B with h|h|h<;>simp[h]
theorem AYl (R:G src<=100)(M:n.kind=2)(B:AQ AF 44 [Bb x m,Am n,.c (AV src),Aj s] m (BM x.f) (BM x.f) (BP (Dr x s src n))):AQ AF 33 [Bb x m,Am n,.c (AV src),Aj s] m (BM x.f) (BM x.f) (BP (Fw x s src n)):=by
 rw[SD];have H:=λb=>OZ b 2 src (by omega)
 generalize Q:AV src=o at B H ⊢;unfold Bb Aj Am at *
 cases K:Dr x s src n with
 | none=>rw[K]at B;simp only[BP]at B ⊢;refine CH nI nU ?_;exact qz (cj @M<|UQ) (cj B<|trivial)
 | some b=>rw[K]at B;have H:=H b;simp only[BP,As]at B H ⊢;refine CH nI nU ?_;exact qz (cj @M<|UQ) (cj2 B H W)
theorem AYm (R:G src<=100)(M:n.kind=3)(B:AQ AF 45 [Bb x m,Am n,.c (AV src),Aj s] m (BM x.f) (BM x.f) (BP (Dr x s src n))):AQ AF 33 [Bb x m,Am n,.c (AV src),Aj s] m (BM x.f) (BM x.f) (BP (Fw x s src n)):=by
 rw[SD];have H:=λb=>OZ b 2 src (by omega)
 generalize Q:AV src=o at B H ⊢;unfold Bb Aj Am at *
 cases K:Dr x s src n with
 | none=>rw[K]at B;simp only[BP]at B ⊢;refine CH nI nU ?_;exact qz (cj @M<|UQ) (cj B<|trivial)
 | some b=>rw[K]at B;have H:=H b;simp only[BP,As]at B H ⊢;refine CH nI nU ?_;exact qz (cj @M<|UQ) (cj2 B H W)
theorem AYn (R:G src<=100)(M:n.kind=4)(B:AQ AF 45 [Bb x m,Am n,.c (AV src),Aj s] m (BM x.f) (BM x.f) (BP (Dr x s src n))):AQ AF 33 [Bb x m,Am n,.c (AV src),Aj s] m (BM x.f) (BM x.f) (BP (Fw x s src n)):=by
 rw[SD];have H:=λb=>OZ b 2 src (by omega)
 generalize Q:AV src=o at B H ⊢;unfold Bb Aj Am at *
 cases K:Dr x s src n with
 | none=>rw[K]at B;simp only[BP]at B ⊢;refine CH nI nU ?_;exact qz (cj @M<|UQ) (cj B<|trivial)
 | some b=>rw[K]at B;have H:=H b;simp only[BP,As]at B H ⊢;refine CH nI nU ?_;exact qz (cj @M<|UQ) (cj2 B H W)
theorem AYo (R:G src<=100)(M:n.kind=5)(B:AQ AF 46 [Bb x m,Am n,.c (AV src),Aj s] m (BM x.f) (BM x.f) (BP (Dr x s src n))):AQ AF 33 [Bb x m,Am n,.c (AV src),Aj s] m (BM x.f) (BM x.f) (BP (Fw x s src n)):=by
 rw[SD];have H:=λb=>OZ b 2 src (by omega)
 generalize Q:AV src=o at B H ⊢;unfold Bb Aj Am at *
 cases K:Dr x s src n with
 | none=>rw[K]at B;simp only[BP]at B ⊢;refine CH nI nU ?_;exact qz (cj @M<|UQ) (cj B<|trivial)
 | some b=>rw[K]at B;have H:=H b;simp only[BP,As]at B H ⊢;refine CH nI nU ?_;exact qz (cj @M<|UQ) (cj2 B H W)
theorem AYp (R:G src<=100)(M:n.kind=6)(B:AQ AF 47 [Bb x m,Am n,.c (AV src),Aj s] m (BM x.f) (BM x.f) (BP (Dr x s src n))):AQ AF 33 [Bb x m,Am n,.c (AV src),Aj s] m (BM x.f) (BM x.f) (BP (Fw x s src n)):=by
 rw[SD];have H:=λb=>OZ b 2 src (by omega)
 generalize Q:AV src=o at B H ⊢;unfold Bb Aj Am at *
 cases K:Dr x s src n with
 | none=>rw[K]at B;simp only[BP]at B ⊢;refine CH nI nU ?_;exact qz (cj @M<|UQ) (cj B<|trivial)
 | some b=>rw[K]at B;have H:=H b;simp only[BP,As]at B H ⊢;refine CH nI nU ?_;exact qz (cj @M<|UQ) (cj2 B H W)
theorem AYq (R:G src<=100)(M:n.kind=7)(B:AQ AF 48 [Bb x m,Am n,.c (AV src),Aj s] m (BM x.f) (BM x.f) (BP (Dr x s src n))):AQ AF 33 [Bb x m,Am n,.c (AV src),Aj s] m (BM x.f) (BM x.f) (BP (Fw x s src n)):=by
 rw[SD];have H:=λb=>OZ b 2 src (by omega)
 generalize Q:AV src=o at B H ⊢;unfold Bb Aj Am at *
 cases K:Dr x s src n with
 | none=>rw[K]at B;simp only[BP]at B ⊢;refine CH nI nU ?_;exact qz (cj @M<|UQ) (cj B<|trivial)
 | some b=>rw[K]at B;have H:=H b;simp only[BP,As]at B H ⊢;refine CH nI nU ?_;exact qz (cj @M<|UQ) (cj2 B H W)
theorem AYr (R:G src<=100)(M:n.kind=8)(B:AQ AF 48 [Bb x m,Am n,.c (AV src),Aj s] m (BM x.f) (BM x.f) (BP (Dr x s src n))):AQ AF 33 [Bb x m,Am n,.c (AV src),Aj s] m (BM x.f) (BM x.f) (BP (Fw x s src n)):=by
 rw[SD];have H:=λb=>OZ b 2 src (by omega)
 generalize Q:AV src=o at B H ⊢;unfold Bb Aj Am at *
 cases K:Dr x s src n with
 | none=>rw[K]at B;simp only[BP]at B ⊢;refine CH nI nU ?_;exact qz (cj @M<|UQ) (cj B<|trivial)
 | some b=>rw[K]at B;have H:=H b;simp only[BP,As]at B H ⊢;refine CH nI nU ?_;exact qz (cj @M<|UQ) (cj2 B H W)
theorem AYs (R:G src<=100)(M:n.kind=9)(B:AQ AF 48 [Bb x m,Am n,.c (AV src),Aj s] m (BM x.f) (BM x.f) (BP (Dr x s src n))):AQ AF 33 [Bb x m,Am n,.c (AV src),Aj s] m (BM x.f) (BM x.f) (BP (Fw x s src n)):=by
 rw[SD];have H:=λb=>OZ b 2 src (by omega)
 generalize Q:AV src=o at B H ⊢;unfold Bb Aj Am at *
 cases K:Dr x s src n with
 | none=>rw[K]at B;simp only[BP]at B ⊢;refine CH nI nU ?_;exact qz (cj @M<|UQ) (cj B<|trivial)
 | some b=>rw[K]at B;have H:=H b;simp only[BP,As]at B H ⊢;refine CH nI nU ?_;exact qz (cj @M<|UQ) (cj2 B H W)
theorem AYi (R:G src<=100)(M:n.kind=10)(B:AQ AF 49 [Bb x m,Am n,.c (AV src),Aj s] m (BM x.f) (BM x.f) (BP (Dr x s src n))):AQ AF 33 [Bb x m,Am n,.c (AV src),Aj s] m (BM x.f) (BM x.f) (BP (Fw x s src n)):=by
 rw[SD];have H:=λb=>OZ b 2 src (by omega)
 generalize Q:AV src=o at B H ⊢;unfold Bb Aj Am at *
 cases K:Dr x s src n with
 | none=>rw[K]at B;simp only[BP]at B ⊢;refine CH nI nU ?_;exact qz (cj @M<|UQ) (cj B<|trivial)
 | some b=>rw[K]at B;have H:=H b;simp only[BP,As]at B H ⊢;refine CH nI nU ?_;exact qz (cj @M<|UQ) (cj2 B H W)
theorem AYj (R:G src<=100)(M:n.kind=11)(B:AQ AF 50 [Bb x m,Am n,.c (AV src),Aj s] m (BM x.f) (BM x.f) (BP (Dr x s src n))):AQ AF 33 [Bb x m,Am n,.c (AV src),Aj s] m (BM x.f) (BM x.f) (BP (Fw x s src n)):=by
 rw[SD];have H:=λb=>OZ b 2 src (by omega)
 generalize Q:AV src=o at B H ⊢;unfold Bb Aj Am at *
 cases K:Dr x s src n with
 | none=>rw[K]at B;simp only[BP]at B ⊢;refine CH nI nU ?_;exact qz (cj @M<|UQ) (cj B<|trivial)
 | some b=>rw[K]at B;have H:=H b;simp only[BP,As]at B H ⊢;refine CH nI nU ?_;exact qz (cj @M<|UQ) (cj2 B H W)
theorem AYk (R:G src<=100)(M:n.kind=12)(B:AQ AF 51 [Bb x m,Am n,.c (AV src),Aj s] m (BM x.f) (BM x.f) (BP (Dr x s src n))):AQ AF 33 [Bb x m,Am n,.c (AV src),Aj s] m (BM x.f) (BM x.f) (BP (Fw x s src n)):=by
 rw[SD];have H:=λb=>OZ b 2 src (by omega)
 generalize Q:AV src=o at B H ⊢;unfold Bb Aj Am at *
 cases K:Dr x s src n with
 | none=>rw[K]at B;simp only[BP]at B ⊢;refine CH nI nU ?_;exact qz (cj @M<|UQ) (cj B<|trivial)
 | some b=>rw[K]at B;have H:=H b;simp only[BP,As]at B H ⊢;refine CH nI nU ?_;exact qz (cj @M<|UQ) (cj2 B H W)
theorem AY5 {q:Int}(B:0<=q)(o:q<=1073741824){l r:Nat}(Q:l<8)(R:r<8)(v:Int):0<=Qt q l r v/\Qt q l r v<=1073741824:=by
 refine⟨AK8 B l r v,?_⟩;have H:0<=VX l r v/\VX l r v<=3:=by
  have:=AK7 l r Q R;unfold VX;split;split<;>omega;omega
 unfold Qt;generalize hK:VX l r v=K at H ⊢;split;omega;unfold ka;split;have M:0<=q*(K+2):=Int.mul_nonneg B (by omega);have z:q*(K+2)<=q*5:=Int.mul_le_mul_of_nonneg_left (by omega) B;unfold Ea;rw[if_pos M];omega;omega
theorem ALA {q:Int}(H:0<=q)(K:q<=1073741824)(v:Int):∀(l:List Int) (p:Int),(0<=p/\p<=7)->(∀k∈l,0<=k/\k<=7)->∀k∈T1 q v p l,An k=I
 | [],_,_,_,k,B=>by cases B
 | c::l,p,o,M,k,B=>by
   have Q:=M c GH;simp only[T1]at B;rcases Cf.1 B with rfl|B
   have:=AY5 H K (l:=p.toNat) (r:=c.toNat) (by omega) (by omega) v;unfold An;simp;omega;exact ALA H K v l c Q (λj R=>M j (Gk _ R)) k B
theorem ALD {x:Af}(K:x.Ok){s:Aa}(Q:s.ok=I)(AE:List Nd):(x.CC s AE).all An=true:=by
 rw[ES];intro k B;have H:=AAx K.dv AE;unfold Af.CC at B;cases M:I6 (JP x.d AE)with
 | nil=>rw[M]at B;cases B
 | cons c l =>
   rw[M]at B H;simp only[CC]at B;rcases Cf.1 B with rfl|B
   decide;exact ALA (VN K Q) (ABT K Q) _ l c (H c GH) (λj R=>H j (Gk _ R)) k B
theorem AY9 (AE:List Nd):G (x.CC s AE)=G AE:=by
 unfold Af.CC;rw[fF,ef,Zh]
def oB (x:Af)(m:Nat)(n:Nd)(src:List Int)(s:Aa):Prop:=∀(j:Nat) (k:Nd),n.AE[j]?=J k->AQ AF 33 [Bb x m,Am k,.c (AV (src++[(j:Int)])),Aj s] m (BM x.f) (BM x.f) (BP (NZ x s src j k))
structure oF (x:Af)(n:Nd)(src:List Int)(s:Aa):Prop where
 hx:x.Ok
 hs:s.ok=I
 k1:n.kind=1
 form:n.Jb=I
 ok:n.BX
 cn:n.cnt<=80
 dp:n.BR<=24
 sr:Src src 0 n.BR
theorem AH6 {x:Af}(R:x.Ok){s:Aa}(Q:s.ok=I){src:List Int}{d:Nat}(M:Src src 0 (d+1)):∀(l:List Nd) (i:Nat) (L:List AA),Nd.deps l<=d->Nd.MY 1 l=I->Kb x s src i l=J L->(∀b∈L,b.Ad=I)/\AA.Az L<=10000*Nd.Az l/\(G L)=G l
 | [],i,L,_,_,h=>by
   simp only[Kb,BL]at h;subst h;exact⟨λb H=>(by cases H),by simp[AA.Az],rfl⟩
 | n::l,i,L,hd,B,h=>by
   simp only[Nd.deps]at hd;simp only[Nd.MY,Ak]at B;simp only[Kb]at h;split at h;cases h;rename_i b H;split at h;cases h;rename_i r hr;simp only[BL]at h;subst h;obtain⟨z,h2,h3⟩:=AH6 R Q M l (i+1) r (by omega) B.2 hr;have o:=B.1.2;rw[dg,Ak]at o;have q:n.kind≠1:=by intro e;have:=B.1.1;rw[e]at this;simp[Pa]at this
   obtain⟨h4,h5⟩:=AH0 R Q o.1 q (M.add i (by omega)) H;refine⟨λc K=>?_,?_,by simp[h3]⟩;rcases Cf.1 K with rfl|K
   exact h4;exact z c K;simp only[AA.Az,Nd.Az];omega
theorem ABc {n:Nd}(h:n.Jb=I)(K:n.kind=1):n=Dd n.AE:=by
 obtain⟨k,t,c,AE⟩:=n;simp only at K;subst K;simp only[Nd.Jb,Ak]at h;have B:=h.1.1;have H:=h.1.2;simp[Ki]at B;simp[FL]at H;rw[B,H.1];rfl
theorem AZH (h:oF x n src s)(z:n.AE=[]):AQ AF 25 [Bb x m,Am n,.c (AV src),Aj s] m (BM x.f) (BM x.f) (BP (GU x s src n)):=by
 have DJ:=h.sr.len;have Av:GU x s src n=J (x.empty s src):=by
  obtain⟨k,t,c,AE⟩:=n;simp only at z;subst z;simp[GU]
 rw[Av];have NT:=tC x m x.f.params.Al s h.hs;have Ta:=EI (x.Al s) 50;have zn:=tC x m x.f.params.Gj s h.hs;have zo:AU x.f.params.Al (x.sz s)=x.Al s:=F;rw[zo]at NT;obtain⟨H,hH⟩:=AI (AU x.f.params.Gj (x.sz s));rw[hH]at zn;have K:=λw=>My w H 0 [] trivial (by simp[AA.Az])
 have B:=λw=>OZ (Bf w H 0 []) 1 src (by omega)
 have Fg:Nd.AG n.AE=[]:=by rw[z];rfl
 simp only[AA.AG]at K;obtain⟨ss,Cu⟩:=AI (src.map (λn=>[C.int .i64 n]));have Rp:AV src=.sl ss:=by rw[<-Cu];rfl
 have rH:G ss=G src:=by rw[<-Cu];simp
 unfold Af.empty;rw[hH];rw[Rp]at B ⊢;by_cases M:src=[]
 have o:G src=0:=by rw[M];rfl
 rw[if_pos M];have K:=K 0;have B:=B 0;obtain⟨Q,q⟩:=AI (Bf 0 H 0 []);obtain⟨B1,R⟩:=AI (Q.mark 1 src);rw[q]at K B ⊢;rw[R]at B ⊢;rw[o]at rH;simp only[BP,As]at *
 unfold Bb Aj Am at *
 refine CH AQb ARD ?_;exact qz (cj2 @Fg @rH Yc) (cj3 zn K B trivial);have o:0<G src:=Kr.2 M;rw[if_neg M];generalize hW:AU (x.Al s) 50=W at Ta ⊢;have K:=K W;have B:=B W;obtain⟨Q,q⟩:=AI (Bf W H 0 []);obtain⟨B1,R⟩:=AI (Q.mark 1 src);rw[q]at K B ⊢;rw[R]at B ⊢;simp only[BP,As]at *
 unfold Bb Aj Am at *
 refine CH AQb ARD ?_;exact qz (cj3 @Fg @rH @o Yc) (cj5 NT Ta zn K B trivial)
theorem AKu (J:Nat)(Q:oB x m n src s)(z:J<=G n.AE)(o : ∀j k,j<J->n.AE[j]?=some k->NZ x s src j k≠E)(L:List AA)(R:QY x s src 0 n.AE=L)(j:Nat)(q:j<J):
 ∃k B,n.AE[j]?=some k/\L[j]?=some B/\AQ AF 33 [Bb x m,Am k,.c (AV (src++[(j:Int)])),Aj s] m (BM x.f) (BM x.f) (.ret (Ao B)):=by
 obtain⟨k,H⟩:∃k,n.AE[j]?=some k:=⟨_,BE (by omega)⟩
 have M:=Q j k H;cases K:NZ x s src j k with
 | none=>exact absurd K (o j k q H)
 | some B=>rw[K]at M;refine⟨k,B,H,?_,M⟩;rw[<-R,AH2 x s src 0 n.AE j k H,Cz,K];rfl
theorem AZI (h:oF x n src s)(hn:n.AE≠[])(Bn:oB x m n src s)(ha : ∀j k,n.AE[j]?=J k->NZ x s src j k≠E):AQ AF 25 [Bb x m,Am n,.c (AV src),Aj s] m (BM x.f) (BM x.f) (BP (GU x s src n)):=by
 have DJ:=h.sr.len;have OI:=ABc h.form h.k1;have A5:=h.ok;have FX:=h.cn;have zJ:=h.form;have qX:=h.dp;have D2:=h.sr;have Ur:Kb x s src 0 n.AE=J (QY x s src 0 n.AE):=AH4 x s src 0 n.AE λj k hj=>by rw[Cz];exact ha j k hj
 have H:=AAK x s src 0 n.AE;obtain⟨L,hL⟩:=AI (QY x s src 0 n.AE);have hR:=AKu x m n src s (G n.AE) Bn (BN _) (λj k _ h=>ha j k h) L hL;rw[hL]at H Ur;have Av:GU x s src n=match Bj (F9 L (x.CC s n.AE))with|none=>E|some b=>J (b.mark 1 src):=by
  obtain⟨k,t,c,AE⟩:=n;simp only at hn Ur;unfold GU;rw[if_neg hn,Ur];simp only;cases Bj (F9 L (x.CC s AE))<;>rfl
 rw[OI]at A5 FX zJ qX D2;have j6:=zJ;rw[dg,Ak]at j6;have rK:(Dd n.AE).Ad=true:=by
  unfold Nd.Ad;rw[zJ,decide_eq_true (show (Dd n.AE).kind=1 from rfl),decide_eq_true (by omega:(Dd n.AE).cnt<=1000),decide_eq_true qX];rfl
 have K:=ABJ x s n.AE h.hx h.hs A5 (by omega) rK;have A0:=ke (Dd n.AE);rw[A0]at D2;obtain⟨Fv,IK,_⟩:=AH6 h.hx h.hs D2 n.AE 0 L (BN _) j6.2 Ur;have zA:=Tm (Dd n.AE);have A2:Nd.Az n.AE<=80:=by have:(Dd n.AE).AE=n.AE:=F;rw[this]at zA;omega
 have Ce:=SH n.AE;obtain⟨ze,kB⟩:=AVT Fv;have A3:=AY9 x s n.AE;have R:=kx L (x.CC s n.AE) ze (by omega) (by omega) (by omega);rw[sm kB (by omega) (ALD h.hx h.hs n.AE)]at R;obtain⟨o,ho⟩:=AI (Bj (F9 L (x.CC s n.AE)));rw[ho]at R Av;rw[Av];have B8:=λb=>OZ b 1 src (by omega)
 generalize yQ:AV (x.CC s n.AE)=SP at K R;obtain⟨rs,Aw⟩:=AI (Nd.AG n.AE);have Rz:G rs=G n.AE:=by rw[<-Aw,Pc]
 have Yw : ∀(j:Nat) (k:Nd),n.AE[j]?=J k->rs[j]?=J k.row:=λj k hj=>by rw[<-Aw];exact XG hj
 obtain⟨ss,Cu⟩:=AI (AV src);obtain⟨N,hN⟩:=AI (G n.AE);have cL:0<N:=by rw[<-hN];exact Kr.2 hn
 have Ew:(N:Int)<=9223372036854775807:=by omega
 have FP:128*(N:Int)<=281474976710656:=by omega
 rw[Aw]at K;rw[Cu]at B8 ⊢;rw[hN]at hR H Rz Ce;obtain⟨kd,t,c,AE⟩:=n;simp only at hR Yw Aw;simp only[Am,Nd.vs,Nd.row,Ap,BB,Aw];simp only[AR]at K;unfold Bb Aj at *
 clear Ur Av ha Bn Fv IK ho;have yG : ¬N=0:=by omega
 have e0:=iY L H.symm;simp only[BT]at e0;refine CH AQb ARD ?_;refine qy (cj4 @Rz @Ew @FP @yG Yc) trivial ⟨?_⟩;rw[e0];refine lp (ι:={ k:Nat // k<=N }) (λk=>[(52,.c (.int .i64 (k.1:Int)))]) (λk=>[O.mp (Ci m (BM x.f)),O.box 33 [.c (.int .i64 kd),.c (.str t),.c (.int .i64 c),.c (.sl rs)] U,O.box 35 [.c (.int .i64 s.By),.c (.bool s.Hd)] U,O.box 41 BT U,O.box 41 (Ht L k.1) U]) (λk=>N - k.1) ⟨0,CI _⟩ ?_ ?_;all_goals simp only[CG,Bw,CO,Ag,Ai]
 exact ER @BT.eq_1;rintro ⟨k,Yq⟩;simp only at Yq ⊢;by_cases Q:k<N;obtain⟨q,B,hq,hB,hc⟩:=hR k Q;have A9:=Yw k q hq;have Bu:=gx A9;have Dh:k<G rs:=by omega
 have M:=pR src [(k:Int)] (by omega) (by simp) (by simp);have hw:AZ.wrap ((k:Int)+1)=((k+1:Nat):Int):=by rw[Ac];simp
 have OC:k<G L:=by omega
 have z:=ia L k OC;have Yo:L[k]=B:=by rw[BE OC]at hB;exact ML hB
 have Dz:k*11+11<=G (Ht L k):=by rw[iZ _ _ (by omega)];omega
 rw[Yo]at z;unfold Am at hc;simp only[As]at hc;have Rp:AV [(k:Int)]=.sl [[.int .i64 (k:Int)]]:=F;rw[Rp,Cu]at M;obtain⟨sk,A1⟩:=AI (AV (src++[(k:Int)]));rw[A1]at M hc;clear R B8 K;refine qy (cj8 @Q @hw @Rz @A9 @Bu @Dh @Dz @z Yc) (cj2 M hc W) ⟨?_⟩;refine⟨⟨k+1,Q⟩,by simp only;omega,?_⟩;refine Le.MI 5 (F2 F) (by simp[DG,P4,BT]) (by simp[P4,BT]) (by simp[V.BI,V.A8]) (by simp[O.A8,V.BI,V.A8,P4,BT]);obtain rfl:k=N:=by omega
 clear hR Yw;refine qu (.mk 12) (cj2 @Q @Rz Yc) trivial ⟨?_⟩;rw[<-H];refine AW.Bi 4 rfl (AEL L) (by simp[V.Cs,V.Bi,ox];exact rfl) (by simp[O.Bi,V.Cs,V.Bi,ox,AEM,BT];exact rfl) ?_;cases o with
 | some B=>have CD:=Jl B;have B8:=B8 B;simp only[Dm,IZ,if_true,Ba,AR,As]at R CD B8;simp only[BP,As];exact qz (cj @Rz<|Yc) (cj4 K R CD B8 W)
 | none=>have CD:=LG AA.zero m (BM x.f);simp only[Hr,H8,GW,if_false,Ba,AR,As]at R CD;simp only[BP,As];exact qz (cj @Rz<|Yc) (cj3 K R CD W)
theorem AZJ (h:oF x n src s)(Bn:oB x m n src s)(J:Nat)(q0:Nd)(o:n.AE[J]?=some q0)(qL:NZ x s src J q0=E)(ha : ∀j k,j<J->n.AE[j]?=some k->NZ x s src j k≠E):AQ AF 25 [Bb x m,Am n,.c (AV src),Aj s] m (BM x.f) (BM x.f) (BP (GU x s src n)):=by
 have DJ:=h.sr.len;have YT:J<G n.AE:=(List.getElem?_eq_some_iff.1 o).1;have FX:=h.cn;have zA:=Tm n;have Ce:=SH n.AE;have Ur:Kb x s src 0 n.AE=none:=AH5 x s src 0 n.AE J q0 o (by rw[Cz];exact qL);have K:=AAK x s src 0 n.AE;obtain⟨L,hL⟩:=AI (QY x s src 0 n.AE);have hR:=AKu x m n src s J Bn (by omega) ha L hL;have Q:=Bn J q0 o;rw[qL]at Q;rw[hL]at K;have Av:GU x s src n=none:=by
  obtain⟨k,t,c,AE⟩:=n;simp only at Ur YT;unfold GU;rw[if_neg (by intro e;rw[e]at YT;exact absurd YT (Nat.not_lt_zero _)),Ur]
 rw[Av];obtain⟨rs,Aw⟩:=AI (Nd.AG n.AE);have Rz:G rs=G n.AE:=by rw[<-Aw,Pc]
 have Yw : ∀(j:Nat) (k:Nd),n.AE[j]?=some k->rs[j]?=some k.row:=λj k hj=>by rw[<-Aw];exact XG hj
 obtain⟨ss,Cu⟩:=AI (AV src);obtain⟨N,hN⟩:=AI (G n.AE);have Ew:(N:Int)<=9223372036854775807:=by omega
 have FP:128*(N:Int)<=281474976710656:=by omega
 rw[Cu];rw[hN]at K Rz Ce YT;obtain⟨kd,t,c,AE⟩:=n;simp only at hR Yw Aw o;simp only[Am,Nd.vs,Nd.row,Ap,BB,Aw];simp only[BP]at Q ⊢;unfold Bb Aj at *
 clear Ur Av ha Bn;have yG : ¬N=0:=by omega
 have e0:=iY L K.symm;simp only[BT]at e0;refine CH AQb ARD ?_;refine qy (cj4 @Rz @Ew @FP @yG Yc) trivial ⟨?_⟩;rw[e0];refine lp (ι:={ k:Nat // k<=J }) (λk=>[(52,.c (.int .i64 (k.1:Int)))]) (λk=>[O.mp (Ci m (BM x.f)),O.box 33 [.c (.int .i64 kd),.c (.str t),.c (.int .i64 c),.c (.sl rs)] U,O.box 35 [.c (.int .i64 s.By),.c (.bool s.Hd)] U,O.box 41 BT U,O.box 41 (Ht L k.1) U]) (λk=>J - k.1) ⟨0,CI _⟩ ?_ ?_;all_goals simp only[CG,Bw,CO,Ag,Ai]
 exact ER @BT.eq_1;rintro ⟨k,Yq⟩;simp only at Yq ⊢;have dB:k<N:=by omega
 have Dh:k<G rs:=by omega
 have H:=pR src [(k:Int)] (by omega) (by simp) (by simp);have hw:AZ.wrap ((k:Int)+1)=((k+1:Nat):Int):=by rw[Ac];simp
 have OC:k<G L:=by omega
 have M:=ia L k OC;have Dz:k*11+11<=G (Ht L k):=by rw[iZ _ _ (by omega)];omega
 have Rp:AV [(k:Int)]=.sl [[.int .i64 (k:Int)]]:=F;rw[Rp,Cu]at H;obtain⟨sk,A0⟩:=AI (AV (src++[(k:Int)]));by_cases z:k<J;obtain⟨q,B,hq,hB,hc⟩:=hR k z;have R:=Yw k q hq;have Bu:=gx R;have Yo:L[k]=B:=by rw[BE OC]at hB;exact ML hB
 rw[Yo]at M;unfold Am at hc;simp only[As]at hc;rw[A0]at H hc;clear Q;refine qy (cj8 @dB @hw @Rz @R @Bu @Dh @Dz @M Yc) (cj2 H hc W) ⟨?_⟩;refine⟨⟨k+1,z⟩,by simp only;omega,?_⟩;refine Le.MI 5 (F2 F) (by simp[DG,P4,BT]) (by simp[P4,BT]) (by simp[V.BI,V.A8]) (by simp[O.A8,V.BI,V.A8,P4,BT]);obtain rfl:k=J:=by omega
 have R:=Yw k q0 o;have Bu:=gx R;unfold Am at Q;rw[A0]at H Q;exact qz (cj7 @dB @hw @Rz @R @Bu @Dh @Dz Yc) (cj2 H Q W)
structure ADg (x:Af)(n:Nd)(src:List Int)(s:Aa):Prop where
 hx:x.Ok
 hs:s.ok=I
 k1:n.kind≠1
 form:n.Jb=I
 ok:n.BX
 cn:n.cnt<=80
 dp:n.BR<=24
 sr:Src src 1 n.BR
theorem AAP {n k:Nd}(o:n.Jb=I)(ho:n.BX)(H:k∈n.AE):k.Jb=I/\Pa n.kind k.kind=U/\k.BX/\k.cnt<n.cnt/\k.BR<n.BR:=by
 obtain⟨K,t,c,AE⟩:=n;simp only at H;rw[dg,Ak]at o;have B:=o.2;simp only at B ⊢;have key : ∀l:List Nd,Nd.MY K l=I->k∈l->k.Jb=I/\Pa K k.kind=U/\k.cnt<=Nd.Az l:=by
  intro l;induction l with
  | nil=>intro _ h;cases h
  | cons a l ih =>
    intro h R;simp only[Nd.MY,Ak]at h;simp only[Nd.Az];rcases Cf.1 R with rfl|R
    exact⟨h.1.2,by simpa using h.1.1,by omega⟩;obtain⟨M,Q,q⟩:=ih h.2 R;exact⟨M,Q,by omega⟩
 obtain⟨M,Q,q⟩:=key AE B H;have h4:=AIh AE k H;have z:=Tm ⟨K,t,c,AE⟩;have h6:=ke ⟨K,t,c,AE⟩;simp only at z h6;exact⟨M,Q,di ho.2.2 k H,by omega,by omega⟩
theorem get_mem {l:List Nd}{j:Nat}{k:Nd}(h:l[j]?=J k):k∈l:=List.mem_of_getElem? h
theorem ATt {n:Nd}(B:n.Cl=I)(H:n.kind≠1):n.kind=2\/n.kind=3\/n.kind=4\/n.kind=5\/n.kind=6\/n.kind=7\/n.kind=8\/n.kind=9\/n.kind=10\/n.kind=11\/n.kind=12:=by
 have h:=Qa B;unfold FL at h;repeat' split at h
 all_goals first
  | (exact absurd rfl (by simpa using h))
  | omega
  | (cases h)
theorem rT {n:Nd}(H:n.Cl=I)(B:n.kind=6\/n.kind=7\/n.kind=8\/n.kind=9):∃a r,n.AE=a::r:=by
 have h:=Qa H;cases K:n.AE with
 | cons a r=>exact⟨a,r,F⟩
 | nil =>
   rw[K]at h;rcases B with e|e|e|e<;>rw[e]at h<;>simp[FL]at h
theorem AYt (h:ADg x n src s)(R:ADo x m n src s):AQ AF 33 [Bb x m,Am n,.c (AV src),Aj s] m (BM x.f) (BM x.f) (BP (Fw x s src n)):=by
 have B:=h.form;rw[dg,Ak]at B;have K:RL x m n src s:=⟨h.hx,h.hs,B.1,h.k1,B.2,h.sr,h.cn,R⟩
 have H:G src<=100:=by have:=h.sr.len;omega
 have Q:=Z3 B.1;rcases ATt B.1 h.k1 with e|e|e|e|e|e|e|e|e|e|e
 refine AYl x m n src s H e ?_;rw[AAJ x s src B.1 (.inl e),if_pos e];exact AZP x m n src s h.hx h.hs (by rw[e]at Q;simpa [Ki]using Q);refine AYm x m n src s H e ?_;rw[AAJ x s src B.1 (.inr (.inl e)),if_neg (by omega)];obtain⟨t1,t2⟩:=AIm (t:=n.text) (by rw[e]at Q;simpa [Ki]using Q);exact ALK x m n src s h.hx h.hs t1 t2;refine AYn x m n src s H e ?_;rw[AAJ x s src B.1 (.inr (.inr e)),if_neg (by omega)];obtain⟨t1,t2⟩:=AJx (t:=n.text) (by rw[e]at Q;simpa [Ki]using Q);exact ALK x m n src s h.hx h.hs t1 t2;exact AYo x m n src s H e (AYc K e);obtain⟨a,r,M⟩:=rT B.1 (.inl e);exact AYp x m n src s H e (AZG K e a r M);obtain⟨a,r,M⟩:=rT B.1 (.inr (.inl e));exact AYq x m n src s H e (AZK K e a r M);obtain⟨a,r,M⟩:=rT B.1 (.inr (.inr (.inl e)));exact AYr x m n src s H e (AZL K e a r M);obtain⟨a,r,M⟩:=rT B.1 (.inr (.inr (.inr e)));exact AYs x m n src s H e (AZM K e a r M);exact AYi x m n src s H e (AYU K e);exact AYj x m n src s H e (AYb K e);exact AYk x m n src s H e (AY2 K e)
theorem AKX :∀n:Nd,(∀src s,oF x n src s->AQ AF 25 [Bb x m,Am n,.c (AV src),Aj s] m (BM x.f) (BM x.f) (BP (GU x s src n)))/\(∀src s,ADg x n src s->AQ AF 33 [Bb x m,Am n,.c (AV src),Aj s] m (BM x.f) (BM x.f) (BP (Fw x s src n))):=AAi λn ih=>by
 refine⟨λsrc s h=>?_,λsrc s h=>?_⟩;by_cases hn:n.AE=[]
 exact AZH x m n src s h hn;have qK:oB x m n src s:=λj k B=>by
  obtain⟨f1,f2,f3,f4,f5⟩:=AAP h.form h.ok (get_mem B);have R:k.kind≠1:=by intro e;rw[h.k1,e]at f2;simp[Pa]at f2
  have K:=h.sr;have FX:=h.cn;have qX:=h.dp;obtain⟨d,z⟩:∃d,n.BR=d+1:=⟨n.BR - 1,by omega⟩
  rw[z]at K;exact(ih k (get_mem B)).2 _ _ ⟨h.hx,h.hs,R,f1,f3,by omega,by omega,K.add j (by omega)⟩
 by_cases H : ∀j k,n.AE[j]?=J k->NZ x s src j k≠E;exact AZI x m n src s h hn qK H;obtain⟨j,k,B,Q,o⟩:=AFd (p:=λj k=>NZ x s src j k≠E) n.AE H;exact AZJ x m n src s h qK j k B (uE.1 Q) λi q hi hq=>o i q hi hq
 have hf:=h.form;rw[dg,Ak]at hf;have M:oG x m n src s:=λj k B=>by
  obtain⟨f1,f2,f3,f4,f5⟩:=AAP h.form h.ok (get_mem B);have R:k.kind=1:=by
   have hk:=h.k1;by_cases e:k.kind=1;exact e;simp[Pa,hk,e]at f2
  have K:=h.sr;have FX:=h.cn;have qX:=h.dp;obtain⟨d,z⟩:∃d,n.BR=d+1:=⟨n.BR - 1,by omega⟩
  rw[z]at K;exact(ih k (get_mem B)).1 _ _ ⟨h.hx,ABs h.hs,R,f1,f3,by omega,by omega,K.add j (by omega)⟩
 refine AYt x m n src s h ?_;have Ej:=Qa hf.1;have zA:=Tm n;have Ce:=SH n.AE;have FX:=h.cn;have zT:=h.sr.len;by_cases H : ∀j k,n.AE[j]?=J k->M2 x s src n.kind j k≠E;refine .inl ⟨Oe x s src n.kind 0 n.AE,AK2 x s src n.kind 0 n.AE λj k B=>by rw[Cz];exact H j k B,?_⟩;have:=AZN x m n src s h.hs Ej h.k1 (by omega) (by omega) M H;rwa [show G n.AE=G (AA.AG (Oe x s src n.kind 0 n.AE)) by rw[GA,tB]]at this
 obtain⟨j,k,B,Q,o⟩:=AFd (p:=λj k=>M2 x s src n.kind j k≠E) n.AE H;exact .inr ⟨AK3 x s src n.kind 0 n.AE j k B (by rw[Cz];exact uE.1 Q),AZO x m n src s h.hs Ej h.k1 (by omega) (by omega) M j k B (uE.1 Q) λi q hi hq=>o i q hi hq⟩
def toCm1 (j m:Nat):V->Option C
 | .c c=>J c
 | .mp i=>if i=j then J (.MA m)else E
 | .fn f []=>J (.EV f)
 | .Bg r=>J (.sl r)
 | _=>E
def toCm (j m:Nat):List V->Option (List C)
 | []=>J []
 | v::l=>match toCm1 j m v,toCm j m l with
   | some c,J r=>J (c::r)
   | _,_=>E
theorem toCm1_ok {x:Cx}{w:World}{j:Nat} : ∀ {v:V} {c:C} {u:Value},toCm1 j (x.loc j).b v=J c->CV x w v u->Ab x.S w c u:=by
 intro v c u h B;unfold toCm1 at h;split at h;cases h;simpa only[CV]using B;split at h;rename_i i e;cases h;subst e;simp only[CV,Ab]at B ⊢;exact B.2.2;cases h;cases h;simp only[CV,AO,Ab]at B ⊢;obtain⟨vs,e,B⟩:=B;have:vs=#[]:=Array.toList_inj.1 B;rw[e,this];cases h;simp only[CV]at B;obtain⟨_,_,B⟩:=B;exact B;cases h
theorem toCm_ok {x:Cx}{w:World}{j:Nat} : ∀ {l:List V} {cs:List C} {us:List Value},toCm j (x.loc j).b l=J cs->AO x w l us->B4 x.S w cs us
 | [],cs,us,h,B=>by simp only[toCm,BL]at h;subst h;simpa only[AO,B4]using B
 | v::l,cs,us,h,B=>by
   simp only[AO]at B;obtain⟨u,R,rfl,H,K⟩:=B;unfold toCm at h;split at h;rename_i c r M Q;cases h;exact⟨u,R,F,toCm1_ok M H,toCm_ok Q K⟩;cases h
def AN (P:Program)(f:FuncId)(args:List V)(R:Obj->Prop)(row:Nat->List C):Prop:=
 ∀(S:BF) (w:World) (us:List Value),(∀b j,S b j->b<w.heap.size)->AO (Cx.bare S) w args us->
  Calls P f us.toArray w λr w'=>∃(S':BF) (b m:Nat) (ob:Obj),r=.returned (.pointer (J ⟨b,0,E⟩))/\Ay w w'/\Ar S S' w w'/\(∀b' j,S' b' j->S b' j\/(w.heap.size<=b'/\b'<w'.heap.size))/\w.heap.size<=m/\w'.heap[m]?=J ob/\still ob=U/\R ob/\B5 S' w' (row m) b 0
def ANA (P:Program)(l:List ResultVar)(R:Obj->Prop)(row:Nat->List C):Exit->St->Prop
 | .ret,s=>∃(k j:Nat) (ty:TypeId) (cells:List V),GJ P s l=J (.ptr k 0)/\s.h[k]?=J (.box ty cells U)/\s.h[j]?=J (.mp (λ_=>R))/\∀m,toCm j m cells=J (row m)
 | _,_=>False
theorem AN.intro {P:Program}{f:FuncId}{fn:Func}{c:Code}{args:List V}{R:Obj->Prop}{row:Nat->List C}(hf:P.funcs[f]?=J fn)(hb:fn.body=J c)(h:AW ⟨E,0⟩ P c (ANA P fn.results.toList R row) ⟨args++Aq (fn.ntmps - G args) .any,[]⟩):AN P f args R row:=by
 intro S w us hS B7;refine callsIn_wide.1 (callsIn_of_wp_marks (F:=Cg) (n:=0) hf hb trivial ?_);have hA:Bo S (Bs.of w) (Cx.bare S) ⟨args++Aq (fn.ntmps - G args) .any,[]⟩ { tmps:=us.toArray++Array.replicate (fn.ntmps - us.toArray.size) undef,defers:=[] } w:=by
  refine⟨⟨λk o h=>by simp at h,λk h=>h.elim,λk k' o o' h=>by simp at h,λk o j h=>by simp at h,hS,λk o h=>by simp at h,λb j h=>.inl h,λb j h=>h,.FR (Ay.refl w),Ext.none _ _ _⟩,?_,Marks.nil _ _⟩;simp only[Array.toList_append,Array.toList_replicate];have hl:us.toArray.size=G args:=by simpa using B7.len
  rw[hl];exact B7.append (SQ _ _ _ _)
 refine wpIn_mono (h 0 S (Bs.of w) _ _ w (BN _) hA) λe a' w' ⟨x,s,q,hK⟩=>?_
 cases e with
 | ret =>
   obtain⟨k,j,ty,cells,hr,hk,hj,Bn⟩:=hK;obtain⟨Ds,e,h1,h2⟩:=q.df;show LeavesInM Cg 0 P fn a'.tmps _ a'.defers .returning w';rw[e];refine dR hr Ds w' h1 h2 q.good q.tm λQ u g M=>?_
   obtain⟨q1,q2,q3,vs,q4,q5,q6⟩:=g.ok k _ hk;obtain⟨_,k1,k2,ob,k3,k4,k5⟩:=g.ok j _ hj;simp only[CV]at M;obtain⟨_,_,rfl⟩:=M;have Fh:=toCm_ok (Bn (x.loc j).b) q6;have CZ:Ar x.S (λi B=>x.S i B\/(i=(x.loc k).b/\B<vs.size)) Q Q:=⟨λ_ _ h=>.inl h,λ_ _ _ _ h=>h⟩
   have A0:(x.loc k).b<Q.heap.size:=(DO.1 q4).1;refine⟨λi B=>x.S i B\/(i=(x.loc k).b/\B<vs.size),(x.loc k).b,(x.loc j).b,ob,rfl,g.keep.all,⟨λb' B H=>.inl (g.sub b' B H),λb' B v H hc=>g.keep.all.cell hc⟩,λi B H=>?_,Hq λz=>g.own j _ hj k2 z,k3,k4,k5,?_⟩;rcases H with H|⟨rfl,_⟩
   rcases g.new i B H with h|h
   exact .inl h;exact .inr ⟨Hq h,g.ex i B H⟩;exact .inr ⟨Hq λz=>g.own k _ hk q3 z,A0⟩;have K:=Fh.len;refine B5.Pe (B4.mono CZ _ _ Fh) (λB u M=>?_) λB Rq=>.inr ⟨rfl,by rw[<-K]at Rq;simpa using Rq⟩
   rw[cell_of_row Q _ _ vs ty (0,0) q4];simpa using M
 | _=>exact hK.elim
theorem BM.empty (f:AP):BM f (.map #[] 0):=⟨λ_ _=>U,#[],0,rfl,λe B=>by simp at B,λs n=>by simp⟩
theorem AIg (hx:x.Ok):AN AF 24 [.agg x.f.vs,.c (Cc x.d)] (BM x.f) (Cm x):=by
 have B : ∀l:Int,0<=l->l<=3->AC AF 43 [.agg x.f.vs,.agg [.c (.int .i64 l),.c (.bool U)]] (.A7 [.c (.int .i64 (BS x.f.params ⟨l,U⟩)),.c (.int .i64 0)]):=λl h0 h3=>by
  have h:=LI x.f ⟨l,U⟩;have ho:(⟨l,U⟩:Aa).ok=true:=by simp[Aa.ok];omega
  rw[show IT x.f ⟨l,U⟩=(BS x.f.params ⟨l,U⟩,0)from if_neg (by simp[ho,hx.val])]at h;simp only[AR]at h;exact h
 have Q:=B 0 (by omega) (by omega);have K:=B 1 (by omega) (by omega);have M:=B 2 (by omega) (by omega);have q:=B 3 (by omega) (by omega);rw[show BS x.f.params ⟨0,U⟩=100 from rfl]at Q;rw[show BS x.f.params ⟨1,U⟩=100 from rfl]at K;rw[show BS x.f.params ⟨2,U⟩=x.f.params.script from rfl]at M;rw[show BS x.f.params ⟨3,U⟩=x.f.params.Qr from rfl]at q;refine AN.intro func24 rfl ?_;simp only[ntmps24,Ap,BB,BA,BO,Nat.reduceAdd,Nat.reduceSub,List.replicate_succ,List.replicate_zero,BK,BU];have H:x.f.vs=[.c (O8 x.f.DR),.c (MG x.f.C5)]++x.f.params.list.map λn=>.c (.int .i64 n):=by
  simp[AP.vs,AP.row]
 simp only[Params.list,Ap,BB,BK,BU]at H;rw[H]at Q K M q ⊢;clear H;refine Ah ?_;refine AW.DA ?_;refine CY (.mk 2) trivial ?_;refine SW.Tq (.mp 1) (J (1,.mp (λ_=>BM x.f))) (by intro k ob h;cases h;simp) rfl (λS0 w0 y a w g ht=>AVM g (R:=λ_=>BM x.f) (λ_=>BM.empty _) rfl (AYE _ w) 1 (λhd=>by obtain⟨o,ho⟩:=g.dom 1 hd;simp at ho)) ?_;simp only[St.step,St.put,Bk,BA,BO,Nat.reduceAdd,IY,if_false,Ai,Ag,BK,BU];refine CY (.mk 1) trivial ?_;refine CY (.mk 1) trivial ?_;refine CY (.mk 1) trivial ?_;refine SW.nil ?_;have z:=(results24)
 have cc:=(cj4 Q K M q W)
 repeat any_goals (first|refine Du z cc ⟨?_⟩|exact Bt z|(with_reducible refine LA.loop (LA.round ?_))|(with_reducible refine LA.round ?_)|(refine Dv z ?_ ?_<;>intro h<;>try exact Dw))
 refine⟨2,1,93,_,by simp[GJ,C0,DE,CJ,results24],rfl,rfl,λm=>by simp[toCm,toCm1,Cm,AP.row,Params.list]⟩
theorem Ay.JI {W B:World}(h:Ay W B)(S:BF):Ar S S W B:=⟨λ_ _ q=>q,λ_ _ _ _ H=>h.cell H⟩
theorem APP {S:BF}{W B:World}(H:Ay W B):Ext (Cx.bare S) (Cx.bare S) W B:=⟨H.JI S,λ_ h=>h.elim,λ_ h=>h.elim⟩
theorem LD (v:V):Vu Ay (λu W=>CV (Cx.bare S) W v u):=λu W H B h=>CV.mono (APP B) v u h
theorem TA {P:Program}{S:BF}{W:World}{a:Act}{o:Oper}{t:TypeId}{y:Operand}(ho:o.op=.load t y){q:Bool×Nat}(hq:B6 P t=J q){row:List C}{off:Nat}(B:CV (Cx.bare S) W (.cp row off) (a.eval y)){v:V}(h:CJ q (row.map V.c) off=J v):∃u H,(execOp a.eval o).run P W=.ok (.value u) H/\CV (Cx.bare S) H v u/\Ay W H:=by
 simp only[CV]at B;obtain⟨b,Q,B,K⟩:=B;obtain⟨u,K,hv⟩:=dY (x:=Cx.bare S) (w:=W) (b:=b) (o:=Q) hq (λj v M=>by
  rw[List.getElem?_map,Option.map_eq_some_iff]at M;obtain⟨c,hc,rfl⟩:=M;obtain⟨u,R,z⟩:=K.get hc;exact⟨u,R,by simpa only[CV]using z⟩) h
 exact⟨u,W,by simp[execOp,ho,Instr.loadAt,B,Instr.sureAddr,K],hv,Ay.refl W⟩
def vn (P:Program)(g:FuncId)(caps:List V)(out:Out):Prop:=
 ∀(S:BF) (w:World) (us:List Value),(∀b j,S b j->b<w.heap.size)->AO (Cx.bare S) w caps us->
  Calls P g us.toArray w λr w'=>∃S':BF,Ay w w'/\Ar S S' w w'/\(∀b j,S' b j->S b j\/(w.heap.size<=b/\b<w'.heap.size))/\Lf (Cx.bare S') w' out r
theorem ACZ {P:Program}{ops:Array Oper}{Q:Exit->Act->World->Prop}{a:Act}{w:World}{B:List Oper}{o:Oper}{f:FuncId}{args:Array Value}{R:Ending->World->Prop}(hg:o.guard=E)(M:(execOp a.eval o).run P w=.ok (.enter f args) w)(hc:Calls P f args w R)(K : ∀e H,R e H->(∃v,e=.returned v/\wpList P ops Q B (a.put o.dst v) H)\/∃q,e=.panicked q/\Q (.panic q) a H):wpList P ops Q (o::B) a w:=by
 unfold wpList;rw[if_pos (by simp[Region.wanted,hg])];refine .inl ?_;unfold Oper.wp;rw[M,Oper.upon_enter];refine hc.mono λe H h=>?_
 rcases K e H h with ⟨v,rfl,z⟩|⟨q,rfl,z⟩
 exact z;exact z
def pN (S:BF)(B:Nat)(x:Af):Post:=λv W=>∃(S':BF) (b m:Nat) (ob:Obj),v=.pointer (J ⟨b,0,E⟩)/\(∀b j,S b j->S' b j)/\(∀b' j,S' b' j->S b' j\/(B<=b'/\b'<W.heap.size))/\B<=m/\W.heap[m]?=J ob/\still ob=U/\BM x.f ob/\B5 S' W (Cm x m) b 0
theorem AJE (B:Nat)(x:Af):Vu Ay (pN S B x):=λv W W' H ⟨K,b,m,ob,o,q,z,h4,M,h6,h7,h8⟩ =>
 ⟨K,b,m,ob,o,q,λR j Q=>(z R j Q).imp id λh=>⟨h.1,H7 h.2 H.size⟩,h4,(H.heap (DO.1 M).1).trans M,h6,h7,B5.mono (H.JI K) _ _ _ h8⟩
theorem AOQ (o:Option AA)(hx:x.Ok)(hq : ∀m,AQ AF 25 [Bb x m,Am n,.c (AV src),Aj s] m (BM x.f) (BM x.f) (BP o)):
 vn AF 23 [.cp x.f.row 0,.cp [Cc x.d] 0,.cp n.row 0,.cp [AV src] 0,.cp [.int .i64 s.By,.bool s.Hd] 0] (BP o):=by
 intro S w us hS B7;simp only[AO,CV,Nat.add_zero]at B7;obtain⟨_,_,rfl,⟨b0,o0,rfl,r0⟩,_,_,rfl,⟨b1,o1,rfl,r1⟩,_,_,rfl,⟨b2,o2,rfl,r2⟩,_,_,rfl,⟨b3,o3,rfl,r3⟩,_,_,rfl,⟨b4,o4,rfl,r4⟩,rfl⟩:=B7;go_enter func23,ntmps23;go_wp2;obtain⟨Q,q⟩:=AI (w.alloc (.cells DZ 41));change Code.wp _ _ _ _ (w.alloc (.cells DZ 41));have Iu:Ay w Q:=by rw[<-q];exact(Ay.refl w).alloc _
 have YR:Cb Q w.heap.size 41 DZ:=by rw[<-q];exact Cb.new _ _ _
 have R7:Q.heap.size=w.heap.size+1:=by rw[<-q];simp
 rw[q];obtain⟨B0,OA⟩:=AI Q.heap.size;refine ABW (K:=Ay) 6 Fz (by kernel_rfl) rfl ?_;intro w1 FJ;simp only[DP,ET];have hk:Ay w w1:=Iu.trans FJ;have Y9:B0<=w1.heap.size:=by rw[<-OA];exact FJ.size
 with_reducible refine LK (λu W=>CV (Cx.bare S) W (.agg x.f.vs) u) (LD S _) rfl ?_ ?_
 intro a W B hf;have ht:=hf 0 (by simp[looks,Gm,Bl,Df]);simp[know]at ht;exact TA (t:=27) (y:=.tmp 0) (row:=x.f.row) (off:=0) rfl tN (by simp only[CV];exact⟨b0,o0,by simpa [JT]using ht,B5.mono (B.JI S) _ _ _ (B5.mono (hk.JI S) _ _ _ r0)⟩) (by simp[CJ,AP.row,Params.list,AP.vs]);with_reducible refine LK (λu W=>CV (Cx.bare S) W (.c (Cc x.d)) u) (LD S _) rfl ?_ ?_
 intro a W B hf;have ht:=hf 1 (by simp[looks,Gm,Bl,Df]);simp[know]at ht;exact TA (t:=28) (y:=.tmp 1) (row:=[Cc x.d]) (off:=0) rfl ALh (by simp only[CV];exact⟨b1,o1,by simpa [JT]using ht,B5.mono (B.JI S) _ _ _ (B5.mono (hk.JI S) _ _ _ r1)⟩) (by simp[CJ]);with_reducible refine ABX (pN S B0 x) (AJE S _ x) rfl ?_ ?_
 . intro a W B hf;have h6:=hf 6 (by simp[looks,Gm,Bl,Df]);have h7:=hf 7 (by simp[looks,Gm,Bl,Df]);simp[know]at h6 h7;have mc:=B.size;refine⟨24,#[a.tmps.getD 6 undef,a.tmps.getD 7 undef],by go_simp,?_⟩;refine(AIg x hx S W [a.tmps.getD 6 undef,a.tmps.getD 7 undef] (λb j h=>by have:=hS b j h;have:=hk.size;omega) ?_).mono ?_;simp only[AO];exact⟨_,_,F,by simpa using h6,_,_,rfl,by simpa using h7,rfl⟩;rintro r W' ⟨M,b,m,ob,rfl,e1,e2,e3,e4,e5,e6,e7,e8⟩;refine⟨_,F,⟨M,b,m,ob,F,e2.sub,λb' j hs=>(e3 b' j hs).imp id λh=>⟨by omega,h.2⟩,by omega,e5,e6,e7,e8⟩,e1⟩
 with_reducible refine LK (λu W=>CV (Cx.bare S) W (.agg n.vs) u) (LD S _) rfl ?_ ?_
 intro a W B hf;have ht:=hf 2 (by simp[looks,Gm,Bl,Df]);simp[know]at ht;exact TA (t:=33) (y:=.tmp 2) (row:=n.row) (off:=0) rfl AB8 (by simp only[CV];exact⟨b2,o2,by simpa [JT]using ht,B5.mono (B.JI S) _ _ _ (B5.mono (hk.JI S) _ _ _ r2)⟩) (by cases n;simp[CJ,Nd.row,Nd.vs]);with_reducible refine LK (λu W=>CV (Cx.bare S) W (.c (AV src)) u) (LD S _) rfl ?_ ?_
 intro a W B hf;have ht:=hf 3 (by simp[looks,Gm,Bl,Df]);simp[know]at ht;exact TA (t:=39) (y:=.tmp 3) (row:=[AV src]) (off:=0) rfl ALj (by simp only[CV];exact⟨b3,o3,by simpa [JT]using ht,B5.mono (B.JI S) _ _ _ (B5.mono (hk.JI S) _ _ _ r3)⟩) (by simp[CJ]);with_reducible refine LK (λu W=>CV (Cx.bare S) W (.agg [.c (.int .i64 s.By),.c (.bool s.Hd)]) u) (LD S _) rfl ?_ ?_
 intro a W B hf;have ht:=hf 4 (by simp[looks,Gm,Bl,Df]);simp[know]at ht;exact TA (t:=35) (y:=.tmp 4) (row:=[.int .i64 s.By,.bool s.Hd]) (off:=0) rfl AeC (by simp only[CV];exact⟨b4,o4,by simpa [JT]using ht,B5.mono (B.JI S) _ _ _ (B5.mono (hk.JI S) _ _ _ r4)⟩) (by simp[CJ]);with_reducible refine ABZ ?_
 intro W B;intro v6 h6 v7 h7 v8 h8 v9 h9 v10 A0 v11 A1;obtain⟨M,b,m,ob,rfl,e1,e2,e3,e4,e5,e6,e7⟩:=h8;simp only[CU,B9];with_reducible apply xW
 simp only[Q9,uV,Ai,Ag];have mc:=B.size;have hex:Ext (Cx.bare S) (Cx.bare M) W W:=⟨⟨e1,λ_ _ _ _ h=>h⟩,λ_ h=>h.elim,λ_ h=>h.elim⟩
 have PD : ∀b j,M b j->b<W.heap.size:=λb j h=>(e2 b j h).elim (λh=>by have:=hS b j h;have:=hk.size;omega) λh=>h.2
 have Co:=hq m M W [.pointer (J ⟨b,0,E⟩),v9,v10,v11] ob PD e4 e5 e6 (by
  simp only[AO,Bb];exact⟨_,_,F,by simp only[CV];exact⟨b,0,F,e7⟩,_,_,rfl,CV.mono hex _ _ h9,_,_,rfl,CV.mono hex _ _ A0,_,_,rfl,CV.mono hex _ _ A1,rfl⟩)
 with_reducible refine ACZ rfl (f:=25) (args:=#[.pointer (J ⟨b,0,E⟩),v9,v10,v11]) (by go_simp) Co ?_
 rintro e W' ⟨H,Cw,f1,f2,f3,f4,f5,f6,f7⟩;have Yr:Ay w W':=f1.after (hk.trans B) λk e=>by omega
 have Il:Cb W' w.heap.size 41 DZ:=by
  have hb:=B.blk (FJ.blk YR);exact(f1.block w.heap.size hb.lt (λe=>by omega)).trans hb
 have YH : ∀b j,H b j->S b j\/(Q.heap.size<=b/\b<W'.heap.size):=λb j h=>by
  have F7:=f1.size;have hm:=(DO.1 f4).1;rcases f3 b j h with h|h|h
  rcases e2 b j h with h|h
  exact .inl h;exact .inr (by omega);exact .inr (by omega);exact .inr (by omega)
 have jZ:Ar S H w W':=⟨λb j h=>f2.sub b j (e1 b j h),λb j v _ hc=>Yr.cell hc⟩
 cases o with
 | none=>right;simp only[BP,Lf]at f7;refine⟨_,f7,?_⟩;refine tu rfl ?_;refine⟨H,Yr,jZ,λb j h=>(YH b j h).imp id λh=>by omega,?_⟩;simp only[BP,Lf]
 | some bx =>
   left;simp only[BP,Lf]at f7;obtain⟨u,rfl,hu⟩:=f7;refine⟨u,F,?_⟩;simp only[Q9,uV,Ai,Ag];obtain⟨l,hl⟩:∃l,Ao bx=.agg l:=⟨_,rfl⟩
   have zO:G l=11:=by cases bx;simp[Ao]at hl;rw[<-hl];simp
   have FO:l.all V.one=true:=by cases bx;simp[Ao]at hl;rw[<-hl];simp[V.one]
   have R:=hu;rw[hl]at R;have Yk:=CV.cells (v:=.agg l) R (by simpa [V.flat]using FO);simp only[CV]at R;obtain⟨cs,rfl,hcs⟩:=R;have hs:cs.size=11:=by have:=hcs.len;simpa [zO]using this
   have h1:Xw cs:=λy hy=>Yk.2 y (by simpa [Value.cells]using hy)
   have Me:ND AF 41 cs.size:=by rw[hs];exact X2
   have B1:=Lib.hid Il;go_wp2_with (((with_reducible refine ll (ty:=41) (w.heap.size) (cs) ?_ ?_ ?_ ?_ ?_ ?_ ?_);(focus rfl);(focus rfl);(focus exact⟨_,_,B1.out,Eq.symm (hs)⟩);(focus exact h1);(focus exact Me);(focus rfl)))
   have Fc:Cb (W'.setRow w.heap.size cs) w.heap.size 41 cs:=B1.out.Tz cs;obtain⟨z,WX⟩:=AI (W'.setRow w.heap.size cs);have hkb:KB (λb=>b=w.heap.size) W' z:=by
    rw[<-WX];exact⟨F,F,F,by simp,λk _ hn=>setRow_other _ _ _ _ hn⟩
   rw[WX]at Fc ⊢;have Lu:(loadVar 41 ⟨w.heap.size,0,E⟩).run AF z=.ok (.agg cs) z:=lI Fc.row Me;have EG:Ay w z:=hkb.after Yr λk e=>by omega
   have IN:=hkb.size;refine tu rfl ?_;refine⟨.agg cs,by simp[results,results23,asAddr,Lu,Q9],H,EG,⟨jZ.sub,λb j v _ hc=>EG.cell hc⟩,λb j h=>(YH b j h).imp id λh=>by omega,?_⟩;simp only[BP,Lf];refine⟨_,F,?_⟩;refine CV.mono (x:=Cx.bare H) (x':=Cx.bare H) (w:=W') ⟨⟨λ_ _ h=>h,λb j v hs hc=>hkb.cell (by
    rcases YH b j hs with h|h
    have:=hS b j h;omega;omega) hc⟩,λ_ h=>h.elim,λ_ h=>h.elim⟩ _ _ hu
def outT:Option AA->V
 | some b=>.A7 [Ao b,AR 0]
 | none=>.A7 [Ao AA.zero,AR 6]
theorem AEg (g:FuncId)(caps:List V)(o:Option AA)(h:vn AF g caps (BP o))(Q:Fp AF g=I):AC AF 22 [.fn g caps] (outT o):=by
 cases o with
 | some b =>
   refine AOC g caps (b.row.map V.c) (λS w us K H=>(h S w us K H).mono ?_) Q (by cases b;simp[AA.row]) (by cases b;simp[AA.row,V.one]);rintro r w' ⟨q,h1,h2,h3,u,h4,h5⟩;exact⟨u,q,h4,h1,h2,h3,h5⟩
 | none =>
   intro S w us K H;simp only[AO,CV]at H;obtain⟨u,r,rfl,⟨vs,rfl,EP⟩,rfl⟩:=H;obtain⟨fn,hf,z,hn⟩:=P7 Q;refine(AOF g vs w 6 (λw1 R A0=>?_) ⟨fn,hf,(by intro e;rw[e]at z;cases z),by simpa using hn⟩).mono ?_;have yt:=AO.mono (x':=Cx.bare S) (w':=w1) ⟨⟨λ_ _ h=>h,λb j v _ M=>R.cell M⟩,λ_ h=>h.elim,λ_ h=>h.elim⟩ _ _ EP;refine(h S w1 vs.toList (λb j h=>H7 (K b j h) R.size) yt).mono ?_;rintro r w2 ⟨q,EG,CZ,Gc,B⟩;exact⟨B,EG⟩
   . rintro r w' ⟨rfl,hk⟩;refine⟨_,S,F,hk,⟨λ_ _ h=>h,λb j v _ M=>hk.cell M⟩,λb j h=>.inl h,?_⟩;simp only[outT,Ao,AR,AA.zero,AA.row,AA.AG,AV,Ap,BB,CV,AO];refine⟨_,F,_,_,F,⟨_,F,?_⟩,_,_,F,(by unfold Ab;exact⟨F,by decide +kernel⟩),F⟩;refine⟨_,_,F,(by unfold Ab;exact⟨F,by decide +kernel⟩),_,_,F,(by unfold Ab;exact⟨F,by decide +kernel⟩),?_⟩;iterate 6 refine⟨_,_,F,(by unfold Ab;exact⟨F,by decide +kernel⟩),?_⟩
     refine⟨_,_,F,?_,_,_,F,(by unfold Ab;exact⟨F,by decide +kernel⟩),_,_,F,?_,F⟩;all_goals
      unfold Ab;exact⟨E,0,F,BN _,CI _,λh=>absurd rfl h⟩
def Sd (src:List Int)(p:Nat):Bool:=HT src && (decide (G src<=25) && decide (G src % 2=p))
theorem AIP (hs:G src<=maxLen)(p:Nat)(hp:p=0\/p=1):AC AF 21 [.c (AV src),.c (.int .i64 p)] (.c (.bool (Sd src p))):=by
 unfold maxLen at hs;have o:=AIb (G src) hs;unfold Sd;refine en func21 ntmps21 ?_;refine go @AV.eq_1 ?_;refine lp (ι:={ k:Nat // k<=G src/\HT src=HT (src.drop k) }) (λk=>[(9,.c (.int .i64 (k.1:Int))),(4,.c (.bool U))]) (λ_=>[]) (λk=>G src - k.1) ⟨0,by simp⟩ ?_ ?_;all_goals simp only[CG,Bw,CO,Ag,Ai]
 exact DH;rintro ⟨k,hk,Q⟩;by_cases B:k<G src;rw[List.drop_eq_getElem_cons B]at Q;obtain⟨z,q⟩:=AI (src[k]);rw[q]at Q;have hw:AZ.wrap ((k:Int)+1)=((k+1:Nat):Int):=by rw[Ac];simp
 by_cases h1:z<0;have e:HT src=false:=by rw[Q];simp[HT];omega
 refine go (cj2 @B @q @h1) ?_;exact At (cj AGR<| @e);have e:HT src=HT (src.drop (k+1)):=by rw[Q];simp[HT];intro;omega
 refine go (cj3 @B @q @h1 @hw) ?_;refine⟨⟨k+1,by omega,e⟩,by simp only;omega,?_⟩;exact DH;have e:HT src=true:=by rw[Q,List.drop_of_length_le (by omega)];rfl
 by_cases H:G src<=25;rcases hp with rfl|rfl
 by_cases R:G src % 2=0;have K:(G src:Int)<=25:=by omega
 refine go (cj4 @B @AV.eq_1 @o @R @K) ?_;exact At (cj3 AGR @e @H @R);have M:G src % 2=1:=by omega
 have K:(G src:Int)<=25:=by omega
 refine go (cj4 @B @AV.eq_1 @o @M @K) ?_;exact At (cj3 AGR @e @H @M);by_cases R:G src % 2=0;have K:(G src:Int)<=25:=by omega
 refine go (cj4 @B @AV.eq_1 @o @R @K) ?_;exact At (cj3 AGR @e @H @R);have M:G src % 2=1:=by omega
 have K:(G src:Int)<=25:=by omega
 refine go (cj4 @B @AV.eq_1 @o @M @K) ?_;exact At (cj3 AGR @e @H @M);have K : ¬(G src:Int)<=25:=by omega
 refine go (cj2 @B @AV.eq_1 @K) ?_;exact At (cj2 AGR @e @H)
theorem AIR (o:G x.d<=300)(Q : ∀e∈x.d,e.text.size<=maxLen):AC AF 19 [.agg x.f.vs,.c (Cc x.d),Aj s] (.c (.bool (x.f.valid && (Ll x.d && s.ok)))):=by
 have B:=Ma x.f;have H:=sM x.d (by omega) Q;have K:=fI s;unfold Aj at K ⊢;refine en func19 ntmps19 ?_;cases R:x.f.valid<;>cases M:Ll x.d<;>rw[R]at B<;>rw[M]at H;all_goals
  exact wz (cj @B<|results19) (cj3 B H K W)
end Go.Proofs.YtglaipbdiofkfaaGreat
