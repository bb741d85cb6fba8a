/- Part of the proof of some laws. Conditions: none. -/
import Derived.Test.YtglaipbdiofkfaaGreatY15
set_option linter.unusedVariables false
set_option linter.unusedSimpArgs false
set_option maxRecDepth 100000
set_option maxHeartbeats 16000000
open Go.Proofs.Tryz renaming prog→AF,func203→AQS,func196→AAg,func65→Su,func93→AGB,ntmps93→AGL,func43→eS,func145→H9,func52→ID,func151→AHg,func152→AHi,func149→AAS,func148→m9,func55→AQk,results93→vE,results158→Abd,results238→AGV
open Go.IntKind renaming i64→AZ
open ByteArray renaming size→mA
open Nat renaming zero_le→CI
open List renaming foldl_cons→Bw,foldl_nil→CO,set_cons_zero→Ag,set_cons_succ→Ai,length_cons→BA,length_nil→BO,cons_append→BK,nil_append→BU,any_cons→mP,any_nil→mQ,map_cons→Ap,map_nil→BB
open Bool renaming or_false→lz,or_eq_true→T9
open Option renaming getD_none→Hr,isSome_none→H8,getD_some→Dm,isSome_some→IZ
open Option renaming some→J,none→E
open Bool renaming false→U,true→I
open List renaming length→G
namespace Go.Proofs.YtglaipbdiofkfaaGreat
open Go.RowKit Tryz
theorem Aje (f:AP)(s:Aa)(hv:f.valid=I)(ho:s.ok=I):AC AF 203 [.agg f.vs,Aj s] (.c (.int .i64 (LJ f s))):=by
 have B:=Jp f s f.params.rule;have H:=Jp f s f.params.Gj;have o:=AKM (b:=AA.zero) hv ho;obtain⟨p1,p2,r1,r2,_,_,_,_,_⟩:=o;have M:LJ f s=if s.By=0 then Hl f s+AU (AU f.params.Gj (F1 f s)) 25 else Hl f s+AU (Hl f s) 25:=F
 have z:AU f.params.rule (BS f.params s)=Hl f s:=F;have e2:AU f.params.Gj (BS f.params s)=AU f.params.Gj (F1 f s):=F;rw[z]at B;rw[e2]at H;obtain⟨X,S⟩:=AI (AU f.params.Gj (F1 f s));obtain⟨R,Q⟩:=AI (Hl f s);rw[S]at H;rw[Q]at B r1 r2;rw[S,Q]at M;rw[M];have h3:=AYA X 25;have h4:=AYA R 25;have b3:=DM (p:=25) X (by omega) (by omega);have b4:=DM (p:=25) R (by omega) (by omega);have w3:AZ.wrap (R+AU X 25)=R+AU X 25:=Ac;have w4:AZ.wrap (R+AU R 25)=R+AU R 25:=Ac;unfold Aj at B H ⊢;by_cases K:s.By=0;rw[if_pos K];have q:s.By=0↔True:=iff_true_intro K;refine en AQS ntmps203 ?_;refine Ah ?_;refine BZ (B) AAg ?_;refine go @q ?_;refine BZ (H) AAg ?_;refine gc @w3 (h3) Su ?_;refine Ah ?_;exact At results203;rw[if_neg K];refine en AQS ntmps203 ?_;refine Ah ?_;refine BZ (B) AAg ?_;refine go @K ?_;refine gc @w4 (h4) Su ?_;refine Ah ?_;exact At results203
theorem Aji (f:AP)(s:Aa)(b:AA)(M:f.valid=I)(K:s.ok=I)(hb:b.Ad=I):AC AF 205 [.agg f.vs,Aj s,Ao b] (.c (.int .i64 (Jm f s b))):=by
 have B:=Jp f s f.params.rule;have H:=Aje f s M K;obtain⟨p1,p2,r1,r2,z,l2,_,_,_⟩:=AKM (b:=b) M K;obtain⟨b1,b2,b3,_⟩:=D3 hb;have o:Jm f s b=b.h+b.d+LJ f s+Hl f s:=F;have Q:AU f.params.rule (BS f.params s)=Hl f s:=F;rw[Q]at B;rw[o];obtain⟨R,q⟩:=AI (Hl f s);obtain⟨L,S⟩:=AI (LJ f s);rw[q]at B r1 r2 ⊢;rw[S]at H z l2 ⊢;have w1:AZ.wrap (b.h+b.d)=b.h+b.d:=Ac;have w2:AZ.wrap (b.h+b.d+L)=b.h+b.d+L:=Ac;have w3:AZ.wrap (b.h+b.d+L+R)=b.h+b.d+L+R:=Ac;unfold Aj at B H ⊢;rw[As];refine en func205 ntmps205 ?_;refine go @w1 ?_;refine gc @w2 (H) AQS ?_;refine gc @w3 (B) AAg ?_;refine Ah ?_;exact At results205
theorem AnY (f:AP)(s:Aa)(b:AA)(Q:f.Fit)(z : ∀s∈f.C5,G s.sizes<=1000)(o:f.valid=I)(R:s.ok=I)(hb:b.Ad=I):AC AF 204 [.agg f.vs,Aj s,Ao b] (Ao (EZ f s b)):=by
 have H:=Aji f s b o R hb;have K:=x7 f s;have B:=Ajd f Nj (Jm f s b) (F1 f s) Q z;have e:BS f.params s=F1 f s:=F;rw[e]at K;have M:(Hv f Nj (Jm f s b) (F1 f s)).1=EZ f s b:=F;generalize hq:Hv f Nj (Jm f s b) (F1 f s)=q at B M;rw[<-M];obtain⟨S,e⟩:=q;simp only[Ba,As,AR]at B H ⊢;unfold Aj at H K ⊢;unfold Nj at B;refine en func204 ntmps204 ?_;refine Ah ?_;refine BZ (H) func205 ?_;refine BZ (K) func118 ?_;refine BZ (B) func261 ?_;refine Ah ?_;exact At results204
theorem AWj (f:AP)(s:Aa)(b:AA)(hf:f.Fit)(hv:f.valid=I)(ho:s.ok=I)(hb:b.Ad=I)(D7:b.BX):AC AF 93 [.agg f.vs,Aj s,Ao b,.c (.sl [])] (Ba (C8 (Qp f s b []))):=by
 obtain⟨p1,p2,r1,r2,l1,l2,sg,g1,g2⟩:=AKM (b:=b) hv ho;obtain⟨bw,bh,bd,bc⟩:=D3 hb;have Gt:b.src.length<=1000000:=by have:=GD hb;cases b;simp only[AA.Fq]at this;exact this.1
 have C3:=LI f s;have e0:IT f s=(F1 f s,0):=if_neg (by simp[ho,hv]);rw[e0]at C3;have CA:=EL b D7 (by omega);rw[hb]at CA;have hL:LJ f s=if s.By=0 then Hl f s+AU (AU f.params.Gj (F1 f s)) 25 else Hl f s+AU (Hl f s) 25:=F
 have hN:Jm f s b=b.h+b.d+LJ f s+Hl f s:=F;have z:=ACC tU f Nj (Jm f s b) (F1 f s) hf;have CN:=(find_ok hv p1 p2 (name:=Nj) (by simp[Nj,mA]) (Jm f s b)).1;have FG:Hv f Nj (Jm f s b) (F1 f s)=(EZ f s b,0):=Prod.ext rfl CN;rw[FG]at z;have hG:Tw f s b=if Jm f s b<(EZ f s b).h+(EZ f s b).d then LJ f s+Bm ((EZ f s b).h+(EZ f s b).d - Jm f s b)else LJ f s:=F
 have hY:Tx f s b=b.h+Tw f s b:=F;have hT:M0 f s b=Tx f s b+Hl f s:=F;have hB:Qo f s b=M0 f s b - (EZ f s b).h - (EZ f s b).d:=F;have hX:Qp f s b []=Bf (0+(EZ f s b).w+mx 0 b.w) (mx (M0 f s b) b.h) (mx (-(Qo f s b)) b.d) [(EZ f s b).AS 0 (M0 f s b - (EZ f s b).h),(FV (mx 0 b.w) (Hl f s) 0).AS (0+(EZ f s b).w) (Tx f s b),b.AS (0+(EZ f s b).w) 0]:=F;have D2:=EI f.params.rule (F1 f s);have eR:AU f.params.rule (F1 f s)=Hl f s:=F;rw[eR]at D2;have kJ:=sD f.params.Gj (F1 f s) 25;rw[hX];obtain⟨P,hP⟩:=AI (F1 f s);obtain⟨R,Q⟩:=AI (Hl f s);obtain⟨L,q⟩:=AI (LJ f s);obtain⟨N,Rf⟩:=AI (Jm f s b);obtain⟨S,o⟩:=AI (EZ f s b);obtain⟨G,Uo⟩:=AI (Tw f s b);obtain⟨Y,Uv⟩:=AI (Tx f s b);obtain⟨T,PG⟩:=AI (M0 f s b);obtain⟨B,OA⟩:=AI (Qo f s b);rw[hP,Q,q]at hL;rw[Rf,q,Q]at hN;rw[Uo,Rf,o,q]at hG;rw[Uv,Uo]at hY;rw[PG,Uv,Q]at hT;rw[OA,PG,o]at hB;rw[Rf,hP,o]at z;rw[hP]at C3 D2 kJ p1 p2;rw[Q]at D2 r1 r2;rw[q]at l1 l2;rw[o]at sg;rw[Uo]at g1 g2;rw[PG,OA,Uv,Q,o];clear hP Q q Rf o Uo Uv PG OA hX e0 CN FG eR;obtain⟨sd,sk,sf,sc,uv,uw,nk,nl,ux,vB⟩:=sg;have WZ:=Gu S 0 (T - S.h) (by cases S;simp only[AA.Fq]at sd;exact sd.1);have PT:=ABF (mx 0 b.w) R 0;have M:=Gu (FV (mx 0 b.w) R 0) (0+S.w) Y (by simp[FV]);have Wa:=Gu b (0+S.w) 0 Gt;have Ew:mx 0 b.w=if 0<b.w then b.w else 0:=F
 obtain⟨W,hW⟩:=AI (mx 0 b.w);have bW:0<=W/\W<=1073741824:=by rw[hW]at Ew;omega
 rw[hW]at PT M ⊢;have H:=My (0+S.w+W) (mx T b.h) (mx (-B) b.d) [S.AS 0 (T - S.h),(FV W R 0).AS (0+S.w) Y,b.AS (0+S.w) 0] ⟨HJ _ _ sd,HJ _ _ (ABd _ _ _),HJ _ _ (GD hb),trivial⟩ (by simp only[AA.Az,Hb,lH];omega);have K:=EL (Bf (0+S.w+W) (mx T b.h) (mx (-B) b.d) [S.AS 0 (T - S.h),(FV W R 0).AS (0+S.w) Y,b.AS (0+S.w) 0]) ⟨(CI _:0<=maxLen),(CI _:0<=maxLen),F4 _ _ sk,F4 _ _ (ABe _ _ _),F4 _ _ D7,trivial⟩ (by simp only[Bf,AA.cnt,AA.Az,Hb,lH];omega);generalize Bf (0+S.w+W) (mx T b.h) (mx (-B) b.d) [S.AS 0 (T - S.h),(FV W R 0).AS (0+S.w) Y,b.AS (0+S.w) 0]=Z at H K ⊢;simp only[AA.AG,As]at H K WZ M Wa PT CA ⊢;obtain⟨A1,Ec⟩:=AI (S.AS 0 (T - S.h));obtain⟨U,hU⟩:=AI (FV W R 0);rw[hU]at H M PT;obtain⟨A2,Fb⟩:=AI (U.AS (0+S.w) Y);obtain⟨A3,Ik⟩:=AI (b.AS (0+S.w) 0);rw[Ec]at H WZ;rw[Fb]at H M;rw[Ik]at H Wa;clear Ec Fb Ik hU;have iX:=DM (p:=25) R (by omega) (by omega);have A0:=DM (p:=25) (AU f.params.Gj P) (by omega) (by omega);have hh:=J6 (S.h+S.d - N);have w1:AZ.wrap (R+AU R 25)=R+AU R 25:=Ac;have w2:AZ.wrap (R+AU (AU f.params.Gj P) 25)=R+AU (AU f.params.Gj P) 25:=Ac;have w3:AZ.wrap (b.h+b.d)=b.h+b.d:=Ac;have w4:AZ.wrap (b.h+b.d+L)=b.h+b.d+L:=Ac;have w5:AZ.wrap (b.h+b.d+L+R)=N:=by rw[hN];exact Ac
 have w6:AZ.wrap (S.h+S.d)=S.h+S.d:=Ac;have w7:AZ.wrap (S.h+S.d - N)=S.h+S.d - N:=Ac;have w8:AZ.wrap (L+Bm (S.h+S.d - N))=L+Bm (S.h+S.d - N):=Ac;have w9:AZ.wrap (b.h+G)=Y:=by rw[hY];exact Ac
 have lj:AZ.wrap (Y+R)=T:=by rw[hT];exact Ac
 have aB:AZ.wrap (T - S.h)=T - S.h:=Ac;have y7:AZ.wrap (T - S.h - S.d)=B:=by rw[hB];exact Ac
 have tY:AZ.wrap (0+S.w)=0+S.w:=Ac;have tZ:AZ.wrap (0+S.w+W)=0+S.w+W:=Ac;have y8:AZ.wrap (-B)= -B:=Ac;have zW:(if 0<b.w then b.w else 0)=W:=by rw[<-Ew];exact hW
 unfold Aj AR Ba at *
 simp only[As,AR]at z ⊢;unfold Nj at z;clear Ew;simp only[Int.zero_add]at H WZ M Wa tY tZ;refine en AGB AGL ?_;refine Ah ?_;refine BZ (C3) eS ?_;refine Ah ?_;refine BZ (CA) H9 ?_;refine Ah ?_;refine BZ (D2) ID ?_;refine Ah ?_;refine gc @w1 (EI R 25) ID ?_;refine Ah ?_;refine Cn 4 ?_;refine jn (λ_:Unit=>[(14,.c (.int .i64 L))]) ?_ ?_;all_goals simp only[CG,Bw,CO,Ag,Ai]
 by_cases h0:s.By=0;have JJ:s.By=0↔True:=iff_true_intro h0;rw[if_pos h0]at hL;refine go @JJ ?_;refine gc @w2 (kJ) AHg ?_;refine Ah ?_;refine⟨(),?_⟩;exact ER (cj @hL<|@JJ);rw[if_neg h0]at hL;refine go @h0 ?_;refine⟨(),?_⟩;exact ER (cj @hL<|@h0)
 . intro _;have Yv:(if T<b.h then b.h else T)=mx T b.h:=F;have Yu:(if -B<b.d then b.d else -B)=mx (-B) b.d:=F;refine go (cj2 @w3 @w4 @w5) ?_;refine BZ (z) AHi ?_;refine go @w6 ?_;refine jn (λ_:Unit=>[(14,.c (.int .i64 G))]) ?_ ?_;all_goals simp only[CG,Bw,CO,Ag,Ai]
   by_cases h1:N<S.h+S.d;have Jc:N<S.h+S.d↔True:=iff_true_intro h1;rw[if_pos h1]at hG;refine go (cj @Jc<|@w7) ?_;refine gc @w8 (Ke (S.h+S.d - N)) AAS ?_;refine Ah ?_;refine⟨(),?_⟩;exact ER (cj @hG<|@Jc);rw[if_neg h1]at hG;refine go @h1 ?_;refine⟨(),?_⟩;exact ER (cj @hG<|@h1);intro _;refine go (cj6 @w9 @lj @aB @y7 @y8 @Yv @Yu) ?_;refine AW.le (Le.tL 21 41 11 F) ?_;simp only[BA,BO,Nat.reduceAdd,Ag,Ai,BK,BU];refine LA.loop (LA.round ?_);refine go (cj2 @tY @zW @aB) ?_;refine BZ (WZ) m9 ?_;refine BZ (PT) func150 ?_;refine BZ (M) m9 ?_;have Y8:3<=maxLen:=by unfold maxLen;omega
   refine gc @Y8 (Wa) m9 ?_;refine go @tZ ?_;refine BZ (H) AQk ?_;refine Ah ?_;cases hz:Z.Ad with
   | false=>rw[hz]at K;have e:C8 Z=(AA.zero,6):=if_neg (by simp[hz]);rw[e];refine BZ (K) H9 ?_;refine Ah ?_;exact At (cj vE<| @Fl)
   | true=>rw[hz]at K;have e:C8 Z=(Z,0):=if_pos hz;rw[e];refine BZ (K) H9 ?_;refine Ah ?_;exact At vE
theorem AWk (f:AP)(s:Aa)(b g:AA)(hf:f.Fit)(hv:f.valid=I)(ho:s.ok=I)(hb:b.Ad=I)(D7:b.BX)(hg:g.Ad=I)(A7:g.BX):AC AF 93 [.agg f.vs,Aj s,Ao b,.c (.sl [g.row])] (Ba (C8 (Qp f s b [g]))):=by
 obtain⟨p1,p2,r1,r2,l1,l2,sg,g1,g2⟩:=AKM (b:=b) hv ho;obtain⟨bw,bh,bd,bc⟩:=D3 hb;obtain⟨gw,gh,gd,G0⟩:=D3 hg;have Gt:b.src.length<=1000000:=by have:=GD hb;cases b;simp only[AA.Fq]at this;exact this.1
 have B3:g.src.length<=1000000:=by have:=GD hg;cases g;simp only[AA.Fq]at this;exact this.1
 have C3:=LI f s;have e0:IT f s=(F1 f s,0):=if_neg (by simp[ho,hv]);rw[e0]at C3;have CA:=EL b D7 (by omega);rw[hb]at CA;have FI:=EL g A7 (by omega);rw[hg]at FI;have hL:LJ f s=if s.By=0 then Hl f s+AU (AU f.params.Gj (F1 f s)) 25 else Hl f s+AU (Hl f s) 25:=F
 have hN:Jm f s b=b.h+b.d+LJ f s+Hl f s:=F;have Rn:=ACC tU f Nj (Jm f s b) (F1 f s) hf;have CN:=(find_ok hv p1 p2 (name:=Nj) (by simp[Nj,mA]) (Jm f s b)).1;have FG:Hv f Nj (Jm f s b) (F1 f s)=(EZ f s b,0):=Prod.ext rfl CN;rw[FG]at Rn;have hG:Tw f s b=if Jm f s b<(EZ f s b).h+(EZ f s b).d then LJ f s+Bm ((EZ f s b).h+(EZ f s b).d - Jm f s b)else LJ f s:=F
 have hY:Tx f s b=b.h+Tw f s b:=F;have hT:M0 f s b=Tx f s b+Hl f s:=F;have hB:Qo f s b=M0 f s b - (EZ f s b).h - (EZ f s b).d:=F;have hV:XP f s b g=Qo f s b+AU (M0 f s b - Qo f s b) 60+mx 0 g.d:=F;have hA:VO f s g=mx 0 (AU (AU f.params.Al (F1 f s)) 28+g.w - AU (AU f.params.Al (F1 f s)) 56):=F;have hX:Qp f s b [g]=Bf (VO f s g+(EZ f s b).w+mx 0 b.w) (mx (mx (M0 f s b) b.h) (XP f s b g+g.h)) (mx (mx (-(Qo f s b)) b.d) (g.d - XP f s b g)) [g.AS (VO f s g+AU (AU f.params.Al (F1 f s)) 56 - g.w) (XP f s b g),(EZ f s b).AS (VO f s g) (M0 f s b - (EZ f s b).h),(FV (mx 0 b.w) (Hl f s) 0).AS (VO f s g+(EZ f s b).w) (Tx f s b),b.AS (VO f s g+(EZ f s b).w) 0]:=F;have D2:=EI f.params.rule (F1 f s);have eR:AU f.params.rule (F1 f s)=Hl f s:=F;rw[eR]at D2;have kJ:=sD f.params.Gj (F1 f s) 25;have NT:=sD f.params.Al (F1 f s) 56;have Ta:=sD f.params.Al (F1 f s) 28;rw[hX];obtain⟨P,hP⟩:=AI (F1 f s);obtain⟨R,q⟩:=AI (Hl f s);obtain⟨L,Re⟩:=AI (LJ f s);obtain⟨N,Rf⟩:=AI (Jm f s b);obtain⟨S,z⟩:=AI (EZ f s b);obtain⟨G,Uo⟩:=AI (Tw f s b);obtain⟨Y,Uv⟩:=AI (Tx f s b);obtain⟨T,PG⟩:=AI (M0 f s b);obtain⟨B,OA⟩:=AI (Qo f s b);obtain⟨H,yV⟩:=AI (XP f s b g);obtain⟨A,jK⟩:=AI (VO f s g);rw[hP,q,Re]at hL;rw[Rf,Re,q]at hN;rw[Uo,Rf,z,Re]at hG;rw[Uv,Uo]at hY;rw[PG,Uv,q]at hT;rw[OA,PG,z]at hB;rw[yV,OA,PG]at hV;rw[jK,hP]at hA;rw[Rf,hP,z]at Rn;rw[hP]at C3 D2 kJ NT Ta p1 p2 ⊢;rw[q]at D2 r1 r2;rw[Re]at l1 l2;rw[z]at sg;rw[Uo]at g1 g2;rw[PG,OA,Uv,q,z,yV,jK];clear hP q Re Rf z Uo Uv PG OA hX e0 CN FG eR yV jK;obtain⟨sd,sk,sf,sc,uv,uw,nk,nl,ux,vB⟩:=sg;obtain⟨Q,A8⟩:=AI (AU (AU f.params.Al P) 28);obtain⟨K,A9⟩:=AI (AU (AU f.params.Al P) 56);have B7:=DM (p:=28) (AU f.params.Al P) (by omega) (by omega);have nz:=DM (p:=56) (AU f.params.Al P) (by omega) (by omega);rw[A8]at B7 Ta hA;rw[A9]at nz NT hA ⊢;obtain⟨vz,B0⟩:=AI (AU (T - B) 60);have F6:=DM (p:=60) (T - B) (by omega) (by omega);have A6:=EI (T - B) 60;rw[B0]at F6 hV A6;have Au:(if 0<Q+g.w - K then Q+g.w - K else 0)=A:=hA.symm;have Fb:(if K<Q+g.w then Q+g.w - K else 0)=A:=by rw[<-Au];split<;>split<;>omega
 have jM:(if 0<g.d then g.d else 0)=mx 0 g.d:=F;generalize xr:mx 0 g.d=D0 at hV jM;have bD:0<=D0/\D0<=1073741824:=by rw[<-jM];omega
 have bA:0<=A/\A<=4294967296:=by rw[<-Au];omega
 have yn:=Gu g (A+K - g.w) H B3;have WZ:=Gu S A (T - S.h) (by cases S;simp only[AA.Fq]at sd;exact sd.1);have PT:=ABF (mx 0 b.w) R 0;have QK:=Gu (FV (mx 0 b.w) R 0) (A+S.w) Y (by simp[FV]);have Wa:=Gu b (A+S.w) 0 Gt;have Ew:mx 0 b.w=if 0<b.w then b.w else 0:=F
 obtain⟨W,hW⟩:=AI (mx 0 b.w);have bW:0<=W/\W<=1073741824:=by rw[hW]at Ew;omega
 rw[hW]at PT QK ⊢;have M:=My (A+S.w+W) (mx (mx T b.h) (H+g.h)) (mx (mx (-B) b.d) (g.d - H)) [g.AS (A+K - g.w) H,S.AS A (T - S.h),(FV W R 0).AS (A+S.w) Y,b.AS (A+S.w) 0] ⟨HJ _ _ (GD hg),HJ _ _ sd,HJ _ _ (ABd _ _ _),HJ _ _ (GD hb),trivial⟩ (by simp only[AA.Az,Hb,lH];omega);have o:=EL (Bf (A+S.w+W) (mx (mx T b.h) (H+g.h)) (mx (mx (-B) b.d) (g.d - H)) [g.AS (A+K - g.w) H,S.AS A (T - S.h),(FV W R 0).AS (A+S.w) Y,b.AS (A+S.w) 0]) ⟨(CI _:0<=maxLen),(CI _:0<=maxLen),F4 _ _ A7,F4 _ _ sk,F4 _ _ (ABe _ _ _),F4 _ _ D7,trivial⟩ (by simp only[Bf,AA.cnt,AA.Az,Hb,lH];omega);generalize Bf (A+S.w+W) (mx (mx T b.h) (H+g.h)) (mx (mx (-B) b.d) (g.d - H)) [g.AS (A+K - g.w) H,S.AS A (T - S.h),(FV W R 0).AS (A+S.w) Y,b.AS (A+S.w) 0]=Z at M o ⊢;simp only[AA.AG,As]at M o yn WZ QK Wa PT CA FI ⊢;obtain⟨A0,Gr⟩:=AI (g.AS (A+K - g.w) H);obtain⟨A1,Ec⟩:=AI (S.AS A (T - S.h));obtain⟨U,hU⟩:=AI (FV W R 0);rw[hU]at M QK PT;obtain⟨A2,A5⟩:=AI (U.AS (A+S.w) Y);obtain⟨A3,Ik⟩:=AI (b.AS (A+S.w) 0);rw[Gr]at M yn;rw[Ec]at M WZ;rw[A5]at M QK;rw[Ik]at M Wa;clear Gr Ec A5 Ik hU;have iX:=DM (p:=25) R (by omega) (by omega);have F7:=DM (p:=25) (AU f.params.Gj P) (by omega) (by omega);have hh:=J6 (S.h+S.d - N);have w1:AZ.wrap (R+AU R 25)=R+AU R 25:=Ac;have w2:AZ.wrap (R+AU (AU f.params.Gj P) 25)=R+AU (AU f.params.Gj P) 25:=Ac;have w3:AZ.wrap (b.h+b.d)=b.h+b.d:=Ac;have w4:AZ.wrap (b.h+b.d+L)=b.h+b.d+L:=Ac;have w5:AZ.wrap (b.h+b.d+L+R)=N:=by rw[hN];exact Ac
 have w6:AZ.wrap (S.h+S.d)=S.h+S.d:=Ac;have w7:AZ.wrap (S.h+S.d - N)=S.h+S.d - N:=Ac;have w8:AZ.wrap (L+Bm (S.h+S.d - N))=L+Bm (S.h+S.d - N):=Ac;have w9:AZ.wrap (b.h+G)=Y:=by rw[hY];exact Ac
 have lj:AZ.wrap (Y+R)=T:=by rw[hT];exact Ac
 have aB:AZ.wrap (T - S.h)=T - S.h:=Ac;have y7:AZ.wrap (T - S.h - S.d)=B:=by rw[hB];exact Ac
 have tY:AZ.wrap (A+S.w)=A+S.w:=Ac;have tZ:AZ.wrap (A+S.w+W)=A+S.w+W:=Ac;have y8:AZ.wrap (-B)= -B:=Ac;have B8:AZ.wrap (Q+g.w)=Q+g.w:=Ac;have D1:AZ.wrap (Q+g.w - K)=Q+g.w - K:=Ac;have D8:AZ.wrap (T - B)=T - B:=Ac;have E0:AZ.wrap (B+vz)=B+vz:=Ac;have E1:AZ.wrap (B+vz+D0)=H:=by rw[hV];exact Ac
 have E2:AZ.wrap (A+K)=A+K:=Ac;have E3:AZ.wrap (A+K - g.w)=A+K - g.w:=Ac;have E4:AZ.wrap (H+g.h)=H+g.h:=Ac;have E7:AZ.wrap (g.d - H)=g.d - H:=Ac;have E9:AZ.wrap 1=1:=Ac;have zW:(if 0<b.w then b.w else 0)=W:=by rw[<-Ew];exact hW
 unfold Aj AR Ba at *
 simp only[As,AR]at Rn ⊢;unfold Nj at Rn;clear Ew;refine en AGB AGL ?_;refine Ah ?_;refine BZ (C3) eS ?_;refine Ah ?_;refine BZ (CA) H9 ?_;refine BZ (FI) H9 ?_;refine Ah ?_;refine BZ (D2) ID ?_;refine Ah ?_;refine gc @w1 (EI R 25) ID ?_;refine Ah ?_;refine Cn 4 ?_;refine jn (λ_:Unit=>[(14,.c (.int .i64 L))]) ?_ ?_;all_goals simp only[CG,Bw,CO,Ag,Ai]
 by_cases h0:s.By=0;have JJ:s.By=0↔True:=iff_true_intro h0;rw[if_pos h0]at hL;refine go @JJ ?_;refine gc @w2 (kJ) AHg ?_;refine Ah ?_;refine⟨(),?_⟩;exact ER (cj @hL<|@JJ);rw[if_neg h0]at hL;refine go @h0 ?_;refine⟨(),?_⟩;exact ER (cj @hL<|@h0)
 . intro _;have Yv:(if T<b.h then b.h else T)=mx T b.h:=F;have Yu:(if -B<b.d then b.d else -B)=mx (-B) b.d:=F;obtain⟨MT,qP⟩:=AI (mx T b.h);obtain⟨MB,qO⟩:=AI (mx (-B) b.d);rw[qP]at Yv M;rw[qO]at Yu M;have B2:(if MT<H+g.h then H+g.h else MT)=mx MT (H+g.h):=F;have B1:(if MB<g.d - H then g.d - H else MB)=mx MB (g.d - H):=F;refine go (cj2 @w3 @w4 @w5) ?_;refine BZ (Rn) AHi ?_;refine go @w6 ?_;refine jn (λ_:Unit=>[(14,.c (.int .i64 G))]) ?_ ?_;all_goals simp only[CG,Bw,CO,Ag,Ai]
   by_cases h1:N<S.h+S.d;have Jc:N<S.h+S.d↔True:=iff_true_intro h1;rw[if_pos h1]at hG;refine go (cj @Jc<|@w7) ?_;refine gc @w8 (Ke (S.h+S.d - N)) AAS ?_;refine Ah ?_;refine⟨(),?_⟩;exact ER (cj @hG<|@Jc);rw[if_neg h1]at hG;refine go @h1 ?_;refine⟨(),?_⟩;exact ER (cj @hG<|@h1);intro _;refine go (cj6 @w9 @lj @aB @y7 @y8 @Yv @Yu) ?_;refine AW.le (Le.tL 21 41 11 F) ?_;simp only[BA,BO,Nat.reduceAdd,Ag,Ai,BK,BU];refine LA.loop (LA.round ?_);have kI:1<=maxLen:=by unfold maxLen;omega
   have Y8:4<=maxLen:=by unfold maxLen;omega
   refine Ah ?_;refine BZ (NT) AHg ?_;refine Ah ?_;refine gc (cj2 @B8 @D1 @Fb) (Ta) AHg ?_;refine go @D8 ?_;refine gc (cj2 @E0 @jM @E1) (A6) ID ?_;refine go (cj @E2<|@E3) ?_;refine gc @kI (yn) m9 ?_;refine go (cj4 @E4 @E7 @B2 @B1 @E9) ?_;refine LA.round ?_;refine go (cj2 @tY @zW @aB) ?_;refine BZ (WZ) m9 ?_;refine BZ (PT) func150 ?_;refine BZ (QK) m9 ?_;refine gc @Y8 (Wa) m9 ?_;refine go @tZ ?_;refine BZ (M) AQk ?_;refine Ah ?_;cases hz:Z.Ad with
   | false=>rw[hz]at o;have e:C8 Z=(AA.zero,6):=if_neg (by simp[hz]);rw[e];refine BZ (o) H9 ?_;refine Ah ?_;exact At (cj vE<| @Fl)
   | true=>rw[hz]at o;have e:C8 Z=(Z,0):=if_pos hz;rw[e];refine BZ (o) H9 ?_;refine Ah ?_;exact At vE
theorem AJm (f:AP)(s:Aa)(b:AA)(M:List (List C))(K:s.ok=U\/f.valid=U):AC AF 93 [.agg f.vs,Aj s,Ao b,.c (.sl M)] (Ba (AA.zero,1)):=by
 have B:=LI f s;have H:IT f s=(0,1):=if_pos K;rw[H]at B;unfold Aj AR Ba at *
 simp only[As,AR]at B ⊢;refine en AGB AGL ?_;refine Ah ?_;refine BZ (B) eS ?_;refine Ah ?_;exact At (cj vE<| @Fl)
theorem AWg (f:AP)(s:Aa)(b:AA)(o:List (List C))(S:f.valid=I)(R:s.ok=I)(hb:b.Ad=U)(K:b.BX)(M:b.cnt<=1000000):AC AF 93 [.agg f.vs,Aj s,Ao b,.c (.sl o)] (Ba (AA.zero,1)):=by
 have B:=LI f s;have Q:IT f s=(F1 f s,0):=if_neg (by simp[R,S]);rw[Q]at B;have H:=EL b K M;rw[hb]at H;unfold Aj AR Ba at *
 simp only[As,AR]at B H ⊢;refine en AGB AGL ?_;refine Ah ?_;refine BZ (B) eS ?_;refine Ah ?_;refine BZ (H) H9 ?_;refine Ah ?_;exact At (cj vE<| @Fl)
theorem AWh (f:AP)(s:Aa)(b:AA)(M:List (List C))(z:f.valid=I)(q:s.ok=I)(hb:b.Ad=I)(Q:b.BX)(R:b.cnt<=1000000)(o:1<G M):AC AF 93 [.agg f.vs,Aj s,Ao b,.c (.sl M)] (Ba (AA.zero,1)):=by
 have B:=LI f s;have S:IT f s=(F1 f s,0):=if_neg (by simp[q,z]);rw[S]at B;have H:=EL b Q R;rw[hb]at H;have K:(1:Int)<(G M:Int):=by omega
 unfold Aj AR Ba at *
 simp only[As,AR]at B H ⊢;refine en AGB AGL ?_;refine Ah ?_;refine BZ (B) eS ?_;refine Ah ?_;refine gc (cj @K<|@o) (H) H9 ?_;refine Ah ?_;exact At (cj vE<| @Fl)
theorem AWi (f:AP)(s:Aa)(b g:AA)(hv:f.valid=I)(z:s.ok=I)(hb:b.Ad=I)(Q:b.BX)(S:b.cnt<=1000000)(q:g.Ad=U)(M:g.BX)(R:g.cnt<=1000000):AC AF 93 [.agg f.vs,Aj s,Ao b,.c (.sl [g.row])] (Ba (AA.zero,1)):=by
 have B:=LI f s;have o:IT f s=(F1 f s,0):=if_neg (by simp[z,hv]);rw[o]at B;have H:=EL b Q S;rw[hb]at H;have K:=EL g M R;rw[q]at K;unfold Aj AR Ba at *
 simp only[As,AR]at B H K ⊢;refine en AGB AGL ?_;refine Ah ?_;refine BZ (B) eS ?_;refine Ah ?_;refine BZ (H) H9 ?_;refine BZ (K) H9 ?_;refine Ah ?_;exact At (cj vE<| @Fl)
theorem AWf (f:AP)(s:Aa)(b:AA)(M:List AA)(z:f.Fit)(Q:b.BX)(S:b.cnt<=1000000)(o : ∀g∈M,g.BX/\g.cnt<=1000000):AC AF 93 [.agg f.vs,Aj s,Ao b,.c (.sl (AA.AG M))] (Ba (VP f s b M)):=by
 cases H:f.valid with
 | false=>have e:VP f s b M=(AA.zero,1):=if_pos (.inl H);rw[e];exact AJm f s b _ (.inr H)
 | true =>
   cases B:s.ok with
   | false=>have e:VP f s b M=(AA.zero,1):=if_pos (.inr (.inl B));rw[e];exact AJm f s b _ (.inl B)
   | true =>
     cases K:b.Ad with
     | false=>have e:VP f s b M=(AA.zero,1):=if_pos (.inr (.inr (.inl K)));rw[e];exact AWg f s b _ H B K Q S
     | true =>
       match M,o with
       | [],_=>have e:VP f s b []=C8 (Qp f s b []):=if_neg (by simp[H,B,K]);rw[e];exact AWj f s b z H B K Q
       | [g],o =>
         obtain⟨q,g2⟩:=o g List.mem_cons_self;cases R:g.Ad with
         | false=>have e:VP f s b [g]=(AA.zero,1):=if_pos (.inr (.inr (.inr (.inl (by simp[R])))));rw[e];exact AWi f s b g H B K Q S R q g2
         | true=>have e:VP f s b [g]=C8 (Qp f s b [g]):=if_neg (by simp[H,B,K,R]);rw[e];exact AWk f s b g z H B K Q R q
       | g::g'::l,_=>have e:VP f s b (g::g'::l)=(AA.zero,1):=if_pos (.inr (.inr (.inr (.inr (by simp)))));rw[e];exact AWh f s b _ H B K Q S (by simp[AA.AG])
theorem AVO {P:Program}{Q:BF}{w0:Bs}{x:Cx}{w:World}{H:Bx}{a:Act}{o:Oper}(g:Good Q w0 x w H){t te:TypeId}{n sz:Nat}{y:Operand}(ho:o.op=.slice t y E E E)(q:P.underlying t=J (.array n te))(M : ∀w:World,(sizeOf te).run P w=.ok sz w){AG:List (List C)}{es:Nat}(K : ∀r∈AG,G r=es)(z:G AG=n)(S:n<=maxLen)(hp:0<n)(B:CV x w (.cp AG.flatten 0) (a.eval y)):BW P o a Q w0 x w H (.c (.sl AG)) none:=by
 simp only[CV]at B;obtain⟨b,R,B,hr⟩:=B;refine BW.pure g (u:=.slice (J ⟨b,R,E⟩) n n) ?_ ?_;have : ¬n=0:=by omega
 simp[execOp,ho,B,Instr.sliceAt,Instr.sureAddr,run_underlying q,Instr.sliceBounds,M,Addr.add,this];simp only[CV,Ab];exact⟨_,n,by rw[z],by omega,S,λ_=>⟨b,R,es,rfl,K,D9.flat.2 hr⟩⟩
theorem AVq (name:ByteArray)(h:NY N0 name=I):AC AF 158 [.c (.str name)] (.c (.bool I)):=by
 have H:=AE1 N0 name (by decide);have e:KX name N0=true:=by
  simp only[NY,N0,mP,mQ,lz,T9,decide_eq_true_eq]at h;unfold N0;rcases h with h|h|h|h|h|h<;>(subst h;decide +kernel)
 rw[e]at H;unfold Gv N0 at H;simp only[Ap,BB]at H;refine en func158 ntmps158 ?_;refine wu (.mk 2) (cj @AR.eq_1<|Abd) trivial ⟨?_⟩;refine Cn 0 ?_;refine AW.DA ?_;refine SW.op (.c (.sl [[.str ⟨#[104,97,116]⟩],[.str ⟨#[98,97,114]⟩],[.str ⟨#[118,101,99]⟩],[.str ⟨#[100,111,116]⟩],[.str ⟨#[116,105,108,100,101]⟩],[.str ⟨#[99,104,101,99,107]⟩]])) rfl rfl ?_ ?_;intro M Q x a w K;exact AVO (n:=6) (sz:=1) (te:=9) (es:=1) K.1 rfl (by kernel_rfl) (λw=>by kernel_rfl) (by simp) rfl (by unfold maxLen;omega) (by omega) (O4 K.2 F);simp only[St.step,St.put,Bk,Ai,Ag];refine SW.take 3 (AH.out ?_);simp only[List.take_succ_cons,List.take_zero];have B:=(cj @AR.eq_1<|Abd)
 repeat any_goals (first|refine Eo ?_|exact Bt B|refine De B ?_|refine BV B (H) ?_|refine DI B ?_)
 simp only[List.drop_succ_cons,List.drop_zero];refine SW.nil ?_;exact wz (cj @AR.eq_1<|Abd) W
theorem AEF (f:AP)(name:ByteArray)(p:Int)(Q:f.Fit)(R:f.valid=I)(K:1<=p)(M:p<=1000):AC AF 160 [.agg f.vs,.c (.str name),.c (.int .i64 p)] (.c (.int .i64 (AU (f.pick name).attach p))):=by
 have H:=dy f name Q.1;have B:=sw (f.pick name) p;rw[AKf R K M name]at B;generalize S:f.pick name=G at H B ⊢;simp only[XT,Hg,BG.row,BG.scaled,AR,Ap,BB]at H B;refine en func160 ntmps160 ?_;exact wz (cj @AR.eq_1<|results160) (cj2 H B W)
def ABn (o:Option AA):V:=.A7 [.agg (o.getD AA.zero).vs,.c (.bool o.isSome)]
theorem AYg : ∀(b g:AA),b.D8=I->b.simp=J g->g.Fq:=λb g h B=>ABD g (ABo b g h B).1
mutual
theorem AKt : ∀(b g:AA),b.simp=J g->g.cnt<=b.cnt
 | ⟨k,n,s,w,h,d,x,y,H,o,src⟩,g,B=>by
   simp only[AA.simp]at B;split at B;cases B;exact Nat.le_refl _;split at B;have:=AYf H g B;simp only[AA.cnt];omega;cases B
theorem AYf : ∀(l:List AA) (g:AA),AA.VW l=J g->g.cnt<=AA.Az l
 | [],g,B=>by cases B
 | c::l,g,B=>by
   match l,B with
   | [],B =>
     simp only[AA.VW]at B;split at B;have:=AKt c g B;simp only[AA.Az];omega;cases B
   | _::_,B=>cases B
end
theorem AXB (b:AA)(hb:b.Ad=I):AC AF 238 [Ao b] (ABn b.simp):=by
 have B:=ABA b;rw[As];unfold ABn;have K:=hb;simp only[AA.Ad,Bool.and_eq_true,decide_eq_true_eq]at K;cases H:b.simp with
 | none=>rw[H]at B;simp only[Pf]at B;simp only[Hr,H8];refine en func238 ntmps238 ?_;refine wu (.mk 1) (cj @AR.eq_1<|AGV) trivial ⟨?_⟩;refine Cn 0 ?_;refine wu (.mk 2) AGV (cj B<|trivial) ⟨?_⟩;refine Og (.mk 1) trivial ?_;refine SW.eF (b:=I) (res:=U) rfl (.inr ⟨rfl,rfl⟩) (by kernel_rfl) rfl rfl rfl (.inl ⟨rfl,rfl⟩) ?_;simp only[St.step,St.put,Bk,Ai,Ag];refine SW.nil ?_;exact wz (cj2 @AR.eq_1 @Fl AGV) W
 | some g=>have M:=pW g (AYg b g K.1 H) (by have:=AKt b g H;omega);rw[H]at B;simp only[Pf]at B;rw[As]at M;simp only[Dm,IZ];refine en func238 ntmps238 ?_;refine wu (.mk 1) (cj @AR.eq_1<|AGV) trivial ⟨?_⟩;refine Cn 0 ?_;refine wu (.mk 2) AGV (cj B<|trivial) ⟨?_⟩;refine Og (.mk 1) trivial ?_;refine SW.eF (b:=I) (res:=I) rfl (.inr ⟨rfl,rfl⟩) (by kernel_rfl) rfl rfl rfl (.inr ⟨⟨_,_,rfl⟩,rfl⟩) ?_;simp only[St.step,St.put,Bk,Ai,Ag];refine SW.nil ?_;exact wz (cj @AR.eq_1<|AGV) (cj M<|trivial)
theorem AVn (f:AP)(b:AA)(S:f.Fit)(R:f.valid=I)(hb:b.Ad=I)(q:b.BX):AC AF 159 [.agg f.vs,Ao b] (.c (.int .i64 (atR f b))):=by
 have M:=Ma f;rw[R]at M;have K:=EL b q (by have:=(D3 hb).2.2.2;omega);rw[hb]at K;have B:=AXB b hb;have e:atR f b=match b.simp with|some g=>AU (f.pick g.name).attach g.size|none=>Bm b.w:=F
 rw[e];rw[As]at *
 unfold ABn at B;cases Q:b.simp with
 | none=>rw[Q]at B;simp only[Hr,H8]at B;refine en func159 ntmps159 ?_;exact wz (cj2 @AR.eq_1 @Fl results159) (cj M<|cj K<|cj B<|cj (Ke b.w)<|trivial)
 | some g=>obtain⟨z,z2⟩:=tA hb Q;rw[Q]at B;simp only[Dm,IZ]at B;have H:=AEF f g.name g.size S R z z2;obtain⟨k,n,sz,w,h,d,x,y,AE,o,src⟩:=g;simp only[AA.vs,AA.row,Ap,BB]at B H ⊢;refine en func159 ntmps159 ?_;exact wz (cj @AR.eq_1<|results159) (cj4 M K B H W)
theorem AVx (f:AP)(s:Aa)(name:ByteArray)(b:AA)(hf:f.Fit)(Q:f.valid=I)(ho:s.ok=I)(hb:b.Ad=I)(ob:b.BX)(hn:NY N0 name=I):AC AF 97 [.agg f.vs,Aj s,.c (.str name),Ao b] (Ba (C8 (al f s name b (DB f name (BS f.params s)).1))):=by
 obtain⟨bw,bh,bd,bn⟩:=D3 hb;obtain⟨p1,p2⟩:=HE Q ho;have CA:=EL b ob (by omega);rw[hb]at CA;have C3:=LI f s;rw[show IT f s=(BS f.params s,0)from if_neg (by simp[Q,ho])]at C3;have C9:=AVq name hn;have o:=pn f name (BS f.params s) hf.1;rw[show QC f name (BS f.params s)=DB f name (BS f.params s)from if_pos Q]at o;have Fg:name.size<=16:=by
  simp only[NY,N0,mP,mQ,lz,T9,decide_eq_true_eq]at hn;rcases hn with h|h|h|h|h|h<;>(subst h;decide)
 obtain⟨sg,sk,sc⟩:=lQ Q p1 p2 Fg;have gj:=(Pk Q p1 p2 name).1;have IN:(DB f name (BS f.params s))=((DB f name (BS f.params s)).1,0):=by rw[gj]
 rw[IN]at o;have Yf:=EI f.params.RO (BS f.params s);have bA:=DM (p:=BS f.params s) f.params.RO (by omega) p2;have cG:=AVn f b hf Q hb ob;have A4 : -1073741824<=atR f b/\atR f b<=1073741824:=by
  unfold atR;split;rename_i g hs;obtain⟨z1,z2⟩:=tA hb hs;unfold AU;split;rename_i hh;have QV:=Ql Q g.name;unfold BG.Small at QV;have:=Qh (f.pick g.name).attach g.size 20000 1000 (by omega) (by omega) (by omega) (by omega);unfold Ea;split<;>omega;omega;exact J6 _
 have R:=AEF f name (BS f.params s) hf Q p1 (by omega);have z8:=DM (p:=BS f.params s) (f.pick name).attach (by omega) p2;obtain⟨S,hS⟩:=AI ((DB f name (BS f.params s)).1);rw[hS]at o sg ⊢;have eB:al f s name b S=Bf (mx (mx 0 (Vy f s name b+S8 f s name b+S.w)) (S8 f s name b+b.w)) (mx b.h (Vx f s b+S.h)) (mx b.d (S.d - Vx f s b)) [S.AS (Vy f s name b+S8 f s name b) (Vx f s b),b.AS (S8 f s name b) 0]:=F;have z:Vy f s name b=atR f b - AU (f.pick name).attach (BS f.params s):=F;have eM:S8 f s name b=mx 0 (-(Vy f s name b)):=F;have q:Vx f s b=b.h - mn b.h (AU f.params.RO (BS f.params s)):=F;rw[eB];clear eB;obtain⟨X,hX⟩:=AI (Vy f s name b);obtain⟨M,hM⟩:=AI (S8 f s name b);obtain⟨U,hU⟩:=AI (Vx f s b);rw[hX]at z eM ⊢;rw[hM]at eM ⊢;rw[hU]at q ⊢;obtain⟨P,hP⟩:=AI (BS f.params s);rw[hP]at C3 o Yf bA R z8 z q p1 p2;obtain⟨K,A2⟩:=AI (AU f.params.RO P);obtain⟨AT,gJ⟩:=AI (AU (f.pick name).attach P);obtain⟨AB,gF⟩:=AI (atR f b);rw[A2]at Yf bA q;rw[gJ]at R z8 z;rw[gF]at cG A4 z;have fm:(if K<b.h then K else b.h)=mn b.h K:=F;have bm : -1073741824<=mn b.h K/\mn b.h K<=1073741824:=by rw[show mn b.h K=min b.h K by unfold mn;omega];omega
 obtain⟨MN,mY⟩:=AI (mn b.h K);rw[mY]at fm bm q;have fU:b.h - MN=U:=q.symm;have fX:AB - AT=X:=z.symm;have fM:(if X<0 then -X else 0)=M:=by rw[eM,DU];split<;>omega
 have bX : -2147483648<=X/\X<=2147483648:=by omega
 have bU : -2147483648<=U/\U<=2147483648:=by omega
 have bM:0<=M/\M<=2147483648:=by rw[eM,DU];omega
 clear hX hM hU hP A2 gJ gF mY hS IN gj;obtain⟨sd,so,sf,A3,uv,uw,nk,nl,ux,vB⟩:=sg;have a0:=Gu S (X+M) U (by cases S;simp only[AA.Fq]at sd;exact sd.1);have a1:=Gu b M 0 (Nn hb);have H:=kq [S.AS (X+M) U,b.AS M 0] (by simp) (by
  intro c hc;simp only[List.mem_cons,List.not_mem_nil,or_false]at hc;rcases hc with rfl|rfl
  constructor<;>(unfold Oi;simp only[iU,iT,iS,iV,iW];omega);constructor<;>(unfold Oi;simp only[iU,iT,iS,iV,iW];omega))
 have eE:DQ [S.AS (X+M) U,b.AS M 0]=(mn (X+M) M,mx (X+M+S.w) (M+b.w),mx (U+S.h) (0+b.h),mx (S.d - U) (b.d - 0)):=F;rw[eE,Int.zero_add,Int.sub_zero]at H;unfold YG at H;have eW:mx (mx 0 (X+M+S.w)) (M+b.w)=mx 0 (mx (X+M+S.w) (M+b.w)):=by simp only[DU];omega
 have eH:mx b.h (U+S.h)=mx (U+S.h) b.h:=by simp only[DU];omega
 have eD:mx b.d (S.d - U)=mx (S.d - U) b.d:=by simp only[DU];omega
 rw[eW,eH,eD];have fW:(if 0<mx (X+M+S.w) (M+b.w)then mx (X+M+S.w) (M+b.w)else 0)=mx 0 (mx (X+M+S.w) (M+b.w)):=F;obtain⟨E0,h0⟩:=AI (mn (X+M) M);obtain⟨E1,h1⟩:=AI (mx (X+M+S.w) (M+b.w));obtain⟨E2,h2⟩:=AI (mx (U+S.h) b.h);obtain⟨E3,h3⟩:=AI (mx (S.d - U) b.d);rw[h0,h1,h2,h3]at H;rw[h1]at fW ⊢;rw[h2,h3];obtain⟨E4,h4⟩:=AI (mx 0 E1);rw[h4]at fW ⊢;clear h0 h1 h2 h3 h4 eE eW eH eD z eM q;have BD:=My E4 E2 E3 [S.AS (X+M) U,b.AS M 0] ⟨HJ _ _ sd,HJ _ _ (GD hb),trivial⟩ (by simp only[AA.Az,Hb];omega);have Ct:=EL (Bf E4 E2 E3 [S.AS (X+M) U,b.AS M 0]) ⟨(CI _:0<=maxLen),(CI _:0<=maxLen),F4 _ _ so,F4 _ _ ob,trivial⟩ (by simp only[Bf,AA.cnt,AA.Az,Hb];omega);generalize Bf E4 E2 E3 [S.AS (X+M) U,b.AS M 0]=Z at BD Ct ⊢;obtain⟨A0,m0⟩:=AI (S.AS (X+M) U);obtain⟨A1,m1⟩:=AI (b.AS M 0);rw[m0]at a0 BD H;rw[m1]at a1 BD H;clear m0 m1;unfold Aj at *
 simp only[AA.AG,As,AR,Ba]at C3 o BD Ct CA cG a0 a1 H ⊢;unfold C8;refine en func97 ntmps97 ?_;have B:=(cj9 @fm @fU @fX @fM @fW @Ba.eq_1 @As @AR.eq_1 @Fl results97)
 repeat any_goals (first|refine Eo ?_|exact Bt B|refine De B ?_|refine BV B (C3) ?_|refine BV B (CA) ?_|refine BV B (C9) ?_|refine BV B (o) ?_|refine BV B (Yf) ?_|refine BV B (cG) ?_|refine BV B (R) ?_|refine BV B (a0) ?_|refine BV B (a1) ?_|refine BV B (H) ?_|refine BV B (BD) ?_|refine BV B (Ct) ?_|refine DI B ?_|((first|refine JC B ?_ ?_|refine JE B ?_ ?_|refine JD B ?_ ?_|refine JY B ?_ ?_)<;>intro h<;>try (exfalso;first|omega|contradiction)))
end Go.Proofs.YtglaipbdiofkfaaGreat
