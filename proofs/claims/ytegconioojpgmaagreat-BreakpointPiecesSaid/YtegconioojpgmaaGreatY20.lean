/- Part of the proof of breakpointPieces.proved. Conditions: none. -/
import Derived.Test.YtegconioojpgmaaGreatY18
import Derived.Test.YtegconioojpgmaaGreatY19
set_option linter.unusedVariables false
set_option linter.unusedSimpArgs false
set_option maxRecDepth 100000
set_option maxHeartbeats 16000000
open List renaming any_cons->mP,any_nil->mQ,length_nil->BO,not_mem_nil->RE,take_add_one->UC
open Go.Proofs.Tryz renaming prog->AF,results193->ADJ,func252->AcR,ntmps252->Aib,results252->Aiu,results201->Akt,func151->AHg,ntmps151->gX,results151->gY,func114->m8,ntmps114->nv,results114->n4,func72->JA,ntmps72->vF,results72->va,results71->VV,func41->AK6,results41->L1,results24->ACs,func7->AiN,ntmps7->Aih,results7->ux,func3->AQj,results3->HH
open Option renaming isSome_none->H8
open Go.IntKind renaming i64->AZ
open Bool renaming true_eq_false->AQF
open Nat renaming succ_ne_zero->AM1
open Go.Op renaming operands->Bl
open Option renaming some->J,none->E
open Bool renaming false->U,true->I
open List renaming length->G
namespace Go.Proofs.YtegconioojpgmaaGreat
open Go.RowKit Tryz
variable (x:Af)(n:Nd)(src:List Int)(s:Aa)
theorem AkN {name:ByteArray}(B:NY N0 name=I):name.size<=16:=by
 simp only[NY,N0,mP,mQ,lz,T9,Awe]at B;rcases B with h|h|h|h|h|h<;>(subst h;decide)
theorem Amd (name:ByteArray)(h:NY N0 name=I):AC AF 238 [.c (.str name)] (.c (.bool I)):=by
 simp only[NY,N0,mP,mQ,lz,T9,Awe]at h;rcases h with h|h|h|h|h|h
 all_goals
  subst h;refine en func238 ntmps238 ?_;have B:=(cj @AR.eq_1<|results238)
  have H:=W;repeat any_goals (first|refine Du B H ⟨?_⟩|exact Bt B|(with_reducible refine LA.loop (LA.round ?_))|(with_reducible refine LA.round ?_)|(refine Dv B ?_ ?_<;>intro h<;>try exact Dw))
theorem Amg (f:AP)(b:AA)(R:f.Fit)(q:f.valid=I)(hb:b.Ad=I):AC AF 239 [.agg f.vs,Ao b] (atR f b:Int):=by
 have B:=AYO b;have S:=x6 b.w;have e:atR f b=match b.simp with|some g=>AU (f.pick g.name).attach g.size|none=>Bm b.w:=F
 rw[e];rw[As]at *
 unfold AAB at B;cases M:b.simp with
 | none=>rw[M]at B;simp only[Hr,H8]at B;refine en func239 ntmps239 ?_;exact wz (cj2 @AR.eq_1 @Fl results239) (cj2 B S W)
 | some g=>obtain⟨z1,z2⟩:=tA hb M;rw[M]at B;simp only[Dm,IZ]at B;have K:=AP2 f g.name R.1;have Q:=Ql q g.name;unfold BG.Small at Q;have H:=ee (n:=(f.pick g.name).attach) (p:=g.size) Ux Ux Ux Ux;simp only;obtain⟨k,n,sz,w,h,d,x,y,z,o,src⟩:=g;simp only at K H ⊢;generalize hG:f.pick n=G at K H ⊢;simp only[AA.vs,AA.row,Ap,BB]at B;simp only[Hg,BG.row,Ap,BB]at K;refine en func239 ntmps239 ?_;exact wz (cj @AR.eq_1<|results239) (cj3 B K H W)
theorem AnD (f:AP)(s:Aa)(name:ByteArray)(R:f.Fit)(Q:f.valid=I)(S:s.ok=I):AC AF 240 [.agg f.vs,Aj s,.c (.str name)] (AU (f.pick name).attach (BS f.params s):Int):=by
 obtain⟨z,p2⟩:=HE Q S;have H:=x7 f s;have K:=AP2 f name R.1;have M:=Ql Q name;unfold BG.Small at M;have B:=ee (n:=(f.pick name).attach) (p:=BS f.params s) Ux Ux Ux Ux;generalize q:BS f.params s=P at H B ⊢;generalize o:f.pick name=G at K B ⊢;simp only[Hg,BG.row,Ap,BB]at K;unfold Aj at H ⊢;refine en func240 ntmps240 ?_;exact wz (cj @AR.eq_1<|results240) (cj3 K H B W)
theorem AkR {f:AP}{b:AA}(K:f.valid=I)(hb:b.Ad=I): -1073741824<=atR f b/\atR f b<=1073741824:=by
 unfold atR;split;rename_i g H;obtain⟨Q,R⟩:=tA hb H;unfold AU;split;rename_i M;have B:=Ql K g.name;unfold BG.Small at B;have:=Qh (f.pick g.name).attach g.size 20000 1000 Ux Ux Ux Ux;unfold Ea;split<;>omega;omega;exact J6 _
theorem AnM (f:AP)(s:Aa)(b:AA)(z:f.valid=I)(q:s.ok=I)(hb:b.Ad=I):AC AF 241 [.agg f.vs,Aj s,Ao b] (Vx f s b:Int):=by
 obtain⟨bw,bh,bd,bn⟩:=D3 hb;obtain⟨p1,p2⟩:=HE z q;have B:=Jp f s f.params.RO;have M:=DM (p:=BS f.params s) f.params.RO Ux p2;have R:Vx f s b=b.h - mn b.h (AU f.params.RO (BS f.params s)):=F;rw[R];generalize hA:AU f.params.RO (BS f.params s)=A at B M ⊢;have K:(if A<b.h then A else b.h)=mn b.h A:=F;have Q : -1073741824<=mn b.h A/\mn b.h A<=1073741824:=by rw[show mn b.h A=min b.h A by unfold mn;omega];omega
 generalize o:mn b.h A=H at K Q ⊢;have S:AZ.wrap (b.h - H)=b.h - H:=Ac;unfold Aj at *
 rw[As];refine en func241 ntmps241 ?_;exact wz (cj2 @K @S results241) (cj B<|trivial)
theorem Ame (f:AP)(s:Aa)(name:ByteArray)(b:AA)(hf:f.Fit)(H:f.valid=I)(ho:s.ok=I)(hb:b.Ad=I)(ob:b.BX)(hn:NY N0 name=I):AC AF 198 [.agg f.vs,Aj s,.c (.str name),Ao b] (Ba (C8 (al f s name b (DB f name (BS f.params s)).1))):=by
 obtain⟨bw,bh,bd,bn⟩:=D3 hb;obtain⟨p1,p2⟩:=HE H ho;have Yl:=pe f s [b] hf (by intro x hx;rw[LY]at hx;subst hx;exact⟨ob,Ux⟩) ZA;rw[vh H ho (by simp[hb])]at Yl;have C9:=Amd name hn;have z:=AQA f name (BS f.params s) hf.1;obtain⟨sg,sk,sc⟩:=lQ H p1 p2 (AkN hn);have A5:=(Pk H p1 p2 name).1;have IN:(DB f name (BS f.params s))=((DB f name (BS f.params s)).1,0):=by rw[A5]
 rw[IN]at z;have A3:=x7 f s;have cG:=Amg f b hf H hb;have A4 : -1073741824<=atR f b/\atR f b<=1073741824:=AkR H hb;have K:=AnD f s name hf H ho;have z8:=DM (p:=BS f.params s) (f.pick name).attach Ux p2;have Yz:=AnM f s b H ho hb;obtain⟨S,hS⟩:=AI ((DB f name (BS f.params s)).1);rw[hS]at z sg ⊢;have eB:al f s name b S=Bf (mx (mx 0 (Vy f s name b+S8 f s name b+S.w)) (S8 f s name b+b.w)) (mx b.h (Vx f s b+S.h)) (mx b.d (S.d - Vx f s b)) [S.AS (Vy f s name b+S8 f s name b) (Vx f s b),b.AS (S8 f s name b) 0]:=F;have Q:Vy f s name b=atR f b - AU (f.pick name).attach (BS f.params s):=F;have eM:S8 f s name b=mx 0 (-(Vy f s name b)):=F;have bU : -2147483648<=Vx f s b/\Vx f s b<=2147483648:=by
  have bA:=DM (p:=BS f.params s) f.params.RO Ux p2;unfold Vx;rw[show ∀a b:Int,mn a b=min a b from λa b=>by unfold mn;omega];omega
 rw[eB];clear eB;obtain⟨X,hX⟩:=AI (Vy f s name b);obtain⟨M,hM⟩:=AI (S8 f s name b);obtain⟨U,hU⟩:=AI (Vx f s b);rw[hX]at Q eM ⊢;rw[hM]at eM ⊢;rw[hU]at Yz bU ⊢;obtain⟨P,hP⟩:=AI (BS f.params s);rw[hP]at z A3 K z8 Q p1 p2;obtain⟨AT,R⟩:=AI (AU (f.pick name).attach P);obtain⟨AB,o⟩:=AI (atR f b);rw[R]at K z8 Q;rw[o]at cG A4 Q;have fX:AB - AT=X:=Q.symm;have fM:(if X<0 then -X else 0)=M:=by rw[eM];unfold mx;split<;>split<;>omega
 have bX : -2147483648<=X/\X<=2147483648:=Ux;have bM:0<=M/\M<=2147483648:=by rw[eM,DU];omega
 clear hX hM hU hP R o hS IN A5 Q eM;obtain⟨sd,so,sf,A6,A9,B0,A7,A8,B1,B2⟩:=sg;have a0:=AKJ S (X+M) U;have a1:=AKJ b M 0;have fW:(if mx 0 (X+M+S.w)<M+b.w then M+b.w else mx 0 (X+M+S.w))=mx (mx 0 (X+M+S.w)) (M+b.w):=F;have WM:(if 0<X+M+S.w then X+M+S.w else 0)=mx 0 (X+M+S.w):=F;have A2:(if b.h<U+S.h then U+S.h else b.h)=mx b.h (U+S.h):=F;have fD:(if b.d<S.d - U then S.d - U else b.d)=mx b.d (S.d - U):=F;obtain⟨E0,h0⟩:=AI (mx 0 (X+M+S.w));rw[h0]at fW WM ⊢;obtain⟨E1,h1⟩:=AI (mx E0 (M+b.w));obtain⟨E2,h2⟩:=AI (mx b.h (U+S.h));obtain⟨E3,h3⟩:=AI (mx b.d (S.d - U));rw[h1]at fW ⊢;rw[h2]at A2 ⊢;rw[h3]at fD ⊢;clear h0 h1 h2 h3;have q:=aY E1 E2 E3 [S.AS (X+M) U,b.AS M 0] ZA;have Ct:=Xn (Bf E1 E2 E3 [S.AS (X+M) U,b.AS M 0]) ⟨(CI _:0<=maxLen),(CI _:0<=maxLen),F4 _ _ so,F4 _ _ ob,trivial⟩ (by simp only[Bf,AA.cnt,AA.Az,Hb];omega);obtain⟨Z,hZ⟩:=AI (Bf E1 E2 E3 [S.AS (X+M) U,b.AS M 0]);rw[hZ]at q Ct ⊢;obtain⟨A0,m0⟩:=AI (S.AS (X+M) U);obtain⟨A1,m1⟩:=AI (b.AS M 0);rw[m0]at a0 q;rw[m1]at a1 q;obtain⟨DZ,Kx⟩:=AI (C8 Z);rw[Kx]at Ct ⊢;clear Kx m0 m1 hZ;unfold Aj at *
 simp only[AA.AG,As,AR,Ba]at z q Ct Yl cG Yz a0 a1 ⊢;refine en func198 ntmps198 ?_;have B:=(cj9 @fX @fM @fW @WM @A2 @fD @Ba.eq_1 @As @AR.eq_1<|cj @Fl results198)
 repeat any_goals (first|refine Eo ?_|exact Bt B|refine De B ?_|refine BV B (Yl) ?_|refine BV B (C9) ?_|refine BV B (A3) ?_|refine BV B (z) ?_|refine BV B (cG) ?_|refine BV B (K) ?_|refine BV B (Yz) ?_|refine BV B (a0) ?_|refine BV B (a1) ?_|refine BV B (q) ?_|refine BV B (Ct) ?_|refine DI B ?_|((first|refine JC B ?_ ?_|refine JE B ?_ ?_|refine JD B ?_ ?_|refine JY B ?_ ?_)<;>intro h<;>try (exfalso;first|omega|contradiction)))
def Kv (k:Int)(AE:List Nd)(L:List AA):List AA:=if k=6 then(match L with | []=>[]|b::l=>Ue AE b::l)else L
theorem Akd (k:Int)(AE:List Nd)(L:List AA)(j:Nat):(Kv k AE L)[j]?=L[j]?.map λb=>if k=6/\j=0 then Ue AE b else b:=by
 unfold Kv;by_cases h:k=6;rw[Awd h];cases L with
 | nil=>simp
 | cons b l=>cases j<;>simp[h]
 rw[Awf h];simp[h]
theorem Ake (k:Int)(AE:List Nd)(L:List AA):G (Kv k AE L)=G L:=by
 unfold Kv;split;cases L<;>rfl;rfl
def Ko (k:Int)(AE:List Nd):Option (List AA)->V
 | none=>.A7 [.c (.sl []),AR 6]
 | some L=>.A7 [.c (.sl (AA.AG (Kv k AE L))),AR 0]
def AcK (x:Af)(n:Nd)(src:List Int)(s:Aa):Prop:=∀(j:Nat) (k:Nd),n.AE[j]?=J k->AC AF 72 [.agg (HD x),Am k,.c (AV (src++[(j:Int)])),Aj (GB n.kind j s)] (Ba (oE (M2 x s src n.kind j k)))
def AcJ (x:Af)(n:Nd)(src:List Int)(s:Aa):Prop:=∀(j:Nat) (k:Nd),n.AE[j]?=J k->AC AF 114 [.agg (HD x),Am k,.c (AV (src++[(j:Int)])),Aj s] (Ba (oE (NZ x s src j k)))
theorem Ama (hs:s.ok=I)(hk:FL n.kind n.AL (G n.AE)=I)(h1:n.kind≠1)(DJ:G src<=100)(Ce:G n.AE<=300)(Bn:AcK x n src s):AC AF 193 [.agg (HD x),Am n,.c (AV src),Aj s] (Ko n.kind n.AE (Kh x s src n.kind 0 n.AE)):=by
 have A3:=tB x s src n.kind 0 n.AE;have Ir:=λj q hj=>AK1 x s src n.kind 0 n.AE j q hj
 have v3:=AK2 x s src n.kind 0 n.AE;have M:=λj q hj=>AK3 x s src n.kind 0 n.AE j q hj
 have A0:=λ(i:Nat) (hi:i<G n.AE)=>Ajt n.kind (i:Int) s
 have rF:=λ(i:Nat) (hi:i<G n.AE)=>AK0 (s:=s) hs hk h1 hi
 have m5:=λ(i:Nat)=>Ajz src (i:Int) Ux
 have Yw : ∀(j:Nat) (k:Nd),n.AE[j]?=J k->(Nd.AG n.AE)[j]?=J k.row:=λj k hj=>XG hj
 have Rz:=Pc n.AE;obtain⟨L,hL⟩:=AI (Oe x s src n.kind 0 n.AE);rw[hL]at A3 Ir v3;have Ls:=Ake n.kind n.AE L;have A2:=Akd n.kind n.AE L;obtain⟨DL,A8⟩:=AI (Kv n.kind n.AE L);rw[A8]at Ls A2;have cb:Kh x s src n.kind 0 n.AE=J L->Ko n.kind n.AE (Kh x s src n.kind 0 n.AE)=.A7 [.c (.sl (AA.AG DL)),AR 0]:=λh=>by rw[h];unfold Ko;simp only;rw[A8]
 have jc:Kh x s src n.kind 0 n.AE=E->Ko n.kind n.AE (Kh x s src n.kind 0 n.AE)=.A7 [.c (.sl []),AR 6]:=λh=>by rw[h];rfl
 obtain⟨res,Rw⟩:=AI (Ko n.kind n.AE (Kh x s src n.kind 0 n.AE));rw[Rw]at cb jc ⊢;obtain⟨ss,Cu⟩:=AI (AV src);rw[Cu]at m5 ⊢;obtain⟨rs,Aw⟩:=AI (Nd.AG n.AE);rw[Aw]at Yw Rz;obtain⟨N,hN⟩:=AI (G n.AE);rw[hN]at A3 Rz Ce A0 rF;unfold AcK at Bn;obtain⟨kd,t,c,AE⟩:=n;simp only at Aw hN Ir v3 M Yw A2 cb jc Bn A0 rF;simp only[Am,Nd.vs,Nd.row,Ap,BB,Aw];clear Rw hL A8 Cu hk;unfold Aj AR at *
 have D1:G DL=N:=Ux;refine en func193 ntmps193 ?_;refine wy (cj @Rz<|ADJ) trivial ⟨?_⟩;refine AW.le (Le.tL 10 56 11 F) ?_;simp only[BA,BO,Nat.reduceAdd,Ag,Ai,BK,BU];refine CX (ι:={ k:Nat // k<=N/\∀j q,j<k->AE[j]?=J q->M2 x s src kd j q≠E }) (λk=>[(11,(k.1:Int)),(10,.gr 3 11 (AA.AG (DL.take k.1)))]) (λk=>[O.box 30 (HD x) U,O.box 33 [kd,.c (.str t),c,.c (.sl rs)] U,O.box 35 [s.By,.c (.bool s.Hd)] U,.tok 56 11 k.1]) (λk=>N - k.1) ⟨0,CI _,λ_ _ h=>absurd h (UE _)⟩ ?_ ?_;exact ER (cj @AA.AG.eq_1<|@AA.AG.eq_2);rintro ⟨j,hj,hI⟩;simp only;by_cases H:j<N
 . obtain⟨q,hq⟩:∃q,AE[j]?=J q:=⟨_,BE Ux⟩
   have A9:=Yw j q hq;have Bu:=gx A9;have Dh:j<G rs:=Ux;have S:=Bn j q hq;have pG:=Ir j q hq;rw[Cz]at pG;have K:=A0 j H;rw[rF j H]at K;have PC:=m5 j;have Pv:=A2 j;have hw:AZ.wrap ((j:Int)+1)=((j+1:Nat):Int):=by rw[Ac];simp
   obtain⟨⟨l',c'⟩,D0⟩:=AI (GB kd (j:Int) s);rw[D0]at S K;obtain⟨sk,B8⟩:=AI (AV (src++[(j:Int)]));rw[B8]at S PC;have kA:=M j q hq;rw[Cz]at kA;obtain⟨o,ho⟩:=AI (M2 x s src kd j q);rw[ho]at S pG kA;simp only[Zx,Aj,AR]at K S;have B3:j=0->AE.getD 0 ⟨0,⟨#[]⟩,0,[]⟩=q:=λe=>by subst e;rw[Bv,hq];rfl
   clear Yw Ir A0 rF m5 M A2 Bn;obtain⟨qk,qt,qc,A5⟩:=q;simp only[Am,Nd.vs,Nd.row,Ap,BB]at A9 Bu S;have B0:=Pc A5;generalize D2:Nd.AG A5=qr at A9 Bu S B0;cases o with
   | none=>rw[jc (kA F)];simp only[oE,Ba,Hr,H8,GW,Awh,As,AR,Fl]at S;exact wz (cj5 @H @Rz @A9 @Bu @Dh ADJ) (cj3 K PC S W)
   | some B =>
     rw[pG,Nu,Dm]at Pv;simp only[oE,Ba,Dm,IZ,Awg,As,AR]at S;have A1 : ∀i q,i<j+1->AE[i]?=J q->M2 x s src kd i q≠none:=λi q' hi DT=>by
      by_cases e:i=j;subst e;rw[hq]at DT;cases DT;rw[ho];exact λh=>nomatch h
      exact hI i q' Ux DT
     obtain⟨B',Q⟩:=AI ((if kd=6/\j=0 then Ue AE B else B));rw[Q]at Pv;have Wr:=AKZ DL j Ux;rw[(Br.1 Pv).2]at Wr;have Md:G (AA.AG (DL.take j))=j:=by rw[GA,Fa];omega
     have B1:((AA.AG (DL.take j)).all λr=>G r==11)=true:=by rw[ES];intro r hr;simpa using lE _ r hr
     obtain⟨RR,YW⟩:=AI (AA.AG (DL.take j));rw[YW]at Wr Md B1 ⊢;have FO:j+1<=maxLen:=by unfold maxLen;omega
     have EX:(j+1)*128<=140737488355328:=Ux;have B2:(kd=6/\j=0/\qr=[]/\B'=B.cB)\/(kd=6/\j=0/\¬qr=[]/\B'=B)\/(kd=6/\¬j=0/\True/\B'=B)\/(¬kd=6/\True/\True/\B'=B):=by
      by_cases R:kd=6;by_cases z:j=0;rw[Awd ⟨R,z⟩]at Q;unfold Ue at Q;rw[B3 z]at Q;simp only at Q;by_cases e3:A5=[]
      rw[Awd e3]at Q;exact .inl ⟨R,z,Nr (by rw[B0,e3];rfl),Q.symm⟩;rw[Awf e3]at Q;exact .inr (.inl ⟨R,z,λh=>e3 (Nr (by rw[<-B0,h];rfl)),Q.symm⟩);rw[Awf λh=>z h.2]at Q;exact .inr (.inr (.inl ⟨R,z,trivial,Q.symm⟩));rw[Awf λh=>R h.1]at Q;exact .inr (.inr (.inr ⟨R,trivial,trivial,Q.symm⟩))
     clear Q Pv jc cb kA hI;obtain⟨b0,b1,b2,b3,b4,b5,b6,b7,b8,b9,Oz⟩:=B;simp only[AA.vs,AA.row,Ap,BB]at S;rcases B2 with ⟨R,z,e3,rfl⟩|⟨R,z,e3,rfl⟩|⟨R,z,e3,rfl⟩|⟨R,z,e3,rfl⟩
     all_goals
      have cM:=Wr.symm;simp only[AA.cB,AA.row]at cM;clear Wr
     have xM:=Awn R;have A6:=Awn z;have B7:=Awn e3;refine wy (cj9 @H @Rz @A9 @Bu @Dh @hw @Md @FO @EX<|cj4 @cM @xM @A6 @B7 ADJ) (cj3 K PC S W) ⟨?_⟩;exact⟨⟨j+1,Ux,A1⟩,by simp only;omega,wd 4⟩;have xM:=Awn R;have A6:=Awn z;refine wy (cj9 @H @Rz @A9 @Bu @Dh @hw @Md @FO @EX<|cj4 @cM @xM @A6 @e3 ADJ) (cj3 K PC S W) ⟨?_⟩;exact⟨⟨j+1,Ux,A1⟩,by simp only;omega,wd 4⟩;have xM:=Awn R;refine wy (cj9 @H @Rz @A9 @Bu @Dh @hw @Md @FO @EX<|cj3 @cM @xM @z ADJ) (cj3 K PC S W) ⟨?_⟩;exact⟨⟨j+1,Ux,A1⟩,by simp only;omega,wd 4⟩;refine wy (cj9 @H @Rz @A9 @Bu @Dh @hw @Md @FO @EX<|cj2 @cM @R ADJ) (cj3 K PC S W) ⟨?_⟩;exact⟨⟨j+1,Ux,A1⟩,by simp only;omega,wd 4⟩
 obtain rfl:j=N:=Ux;rw[cb (v3 λi q hq=>by rw[Cz];exact hI i q (by have:=(Br.1 hq).1;omega) hq),Gl Ux];generalize YW:AA.AG DL=RR;exact wz (cj2 @H @Rz ADJ) W
theorem AnT (f:AP)(s:Aa)(b:AA)(hf:f.Fit)(R:f.valid=I)(Q:s.ok=I)(hb:b.Ad=I)(ob:b.BX):AC AF 252 [.agg f.vs,Aj s,Ao b,.c (.sl (AA.AG [])),.c (.sl (AA.AG []))] (Ba (C8 (Oc f s b [] []))):=by
 obtain⟨bw,bh,bd,bn⟩:=D3 hb;obtain⟨p1,p2⟩:=HE R Q;have o:=pe f s [b] hf (by intro x K;simp only[Cf,RE,Awj]at K;rcases K with rfl<;>exact⟨Awa,Ux⟩) ZA;rw[vh R Q (by simp[hb])]at o;have S:=AP3 f s b [] [] R Q hb ZA ZA ZA ZA;have ig:=ABm (f:=f) (s:=s) (b:=b) (sub:=[]) (sup:=[]) R Q hb ZA ZA ZA ZA;have eB:Oc f s b [] []=Bf (DQ [b.AS 0 0]).2.1 (DQ [b.AS 0 0]).2.2.1 (DQ [b.AS 0 0]).2.2.2 [b.AS 0 0]:=F;rw[eB];clear eB;obtain⟨u,hu⟩:=AI ((Ez f s b [] []).1);obtain⟨v,FQ⟩:=AI ((Ez f s b [] []).2);rw[hu,FQ]at S ig;clear hu FQ;have q:=AKJ b 0 0;have B:=AP0 [b.AS 0 0] ZA ZA (by
  intro x K;simp only[Cf,RE,Awj]at K;rcases K with rfl
  all_goals (constructor<;>(unfold Oi;simp only[iU,iT,iS,iV,iW];omega)))
 generalize DQ [b.AS 0 0]=E at B ⊢;unfold YG at B;have H:=aY E.2.1 E.2.2.1 E.2.2.2 [b.AS 0 0] ZA;have M:=Xn (Bf E.2.1 E.2.2.1 E.2.2.2 [b.AS 0 0]) ⟨(CI _:0<=maxLen),(CI _:0<=maxLen),F4 _ _ ob,trivial⟩ (by simp only[Bf,AA.cnt,AA.Az,Hb];omega);generalize (Bf E.2.1 E.2.2.1 E.2.2.2 [b.AS 0 0])=Z at H M ⊢;obtain⟨E1,g1⟩:=AI E.2.1;obtain⟨E2,g2⟩:=AI E.2.2.1;obtain⟨E3,g3⟩:=AI E.2.2.2;obtain⟨E0,g0⟩:=AI E.1;rw[g0,g1,g2,g3]at B;rw[g1,g2,g3]at H;clear g0 g1 g2 g3;generalize b.AS 0 0=A0 at q H B;generalize C8 Z=DZ at M ⊢;unfold Aj at *
 simp only[AA.AG,As,AR,Ba,Ap,BB]at S H M B q o ⊢;have SF:(2:Nat)<=maxLen:=by unfold maxLen;omega
 have SG:(3:Nat)<=maxLen:=by unfold maxLen;omega
 refine en AcR Aib ?_;have z:=(cj6 @SF @SG @Ba.eq_1 @As @AR.eq_1 @Fl Aiu)
 have cc:=(cj6 o S q B H M W)
 repeat any_goals (first|refine Du z cc ⟨?_⟩|exact Bt z|(with_reducible refine LA.loop (LA.round ?_))|(with_reducible refine LA.round ?_)|(refine Dv z ?_ ?_<;>intro h<;>try exact Dw))
theorem AnU (f:AP)(s:Aa)(b d:AA)(hf:f.Fit)(S:f.valid=I)(R:s.ok=I)(hb:b.Ad=I)(ob:b.BX)(Q:d.Ad=I)(od:d.BX):AC AF 252 [.agg f.vs,Aj s,Ao b,.c (.sl (AA.AG [])),.c (.sl (AA.AG [d]))] (Ba (C8 (Oc f s b [] [d]))):=by
 obtain⟨bw,bh,bd,bn⟩:=D3 hb;obtain⟨dw,dh,dd,dn⟩:=D3 Q;obtain⟨p1,p2⟩:=HE S R;have q:=pe f s [b,d] hf (by intro x K;simp only[Cf,RE,Awj]at K;rcases K with rfl|rfl<;>exact⟨Awa,Ux⟩) ZA;rw[vh S R (by simp[hb,Q])]at q;have o:=AP3 f s b [] [d] S R hb ZA ZA ZA (by simpa using Q);have ig:=ABm (f:=f) (s:=s) (b:=b) (sub:=[]) (sup:=[d]) S R hb ZA ZA ZA (by simpa using Q);have eB:Oc f s b [] [d]=Bf (DQ [b.AS 0 0,d.AS b.w (Ez f s b [] [d]).1]).2.1 (DQ [b.AS 0 0,d.AS b.w (Ez f s b [] [d]).1]).2.2.1 (DQ [b.AS 0 0,d.AS b.w (Ez f s b [] [d]).1]).2.2.2 [b.AS 0 0,d.AS b.w (Ez f s b [] [d]).1]:=F;rw[eB];clear eB;obtain⟨u,hu⟩:=AI ((Ez f s b [] [d]).1);obtain⟨v,FQ⟩:=AI ((Ez f s b [] [d]).2);rw[hu,FQ]at o ig;rw[hu];clear hu FQ;have z:=AKJ b 0 0;have a2:=AKJ d b.w u;have B:=AP0 [b.AS 0 0,d.AS b.w u] ZA ZA (by
  intro x K;simp only[Cf,RE,Awj]at K;rcases K with rfl|rfl
  all_goals (constructor<;>(unfold Oi;simp only[iU,iT,iS,iV,iW];omega)))
 generalize DQ [b.AS 0 0,d.AS b.w u]=E at B ⊢;unfold YG at B;have H:=aY E.2.1 E.2.2.1 E.2.2.2 [b.AS 0 0,d.AS b.w u] ZA;have M:=Xn (Bf E.2.1 E.2.2.1 E.2.2.2 [b.AS 0 0,d.AS b.w u]) ⟨(CI _:0<=maxLen),(CI _:0<=maxLen),F4 _ _ ob,F4 _ _ od,trivial⟩ (by simp only[Bf,AA.cnt,AA.Az,Hb];omega);generalize (Bf E.2.1 E.2.2.1 E.2.2.2 [b.AS 0 0,d.AS b.w u])=Z at H M ⊢;obtain⟨E1,g1⟩:=AI E.2.1;obtain⟨E2,g2⟩:=AI E.2.2.1;obtain⟨E3,g3⟩:=AI E.2.2.2;obtain⟨E0,g0⟩:=AI E.1;rw[g0,g1,g2,g3]at B;rw[g1,g2,g3]at H;clear g0 g1 g2 g3;generalize b.AS 0 0=A0 at z H B;generalize d.AS b.w u=A1 at a2 H B;generalize C8 Z=DZ at M ⊢;unfold Aj at *
 simp only[AA.AG,As,AR,Ba,Ap,BB]at o H M B z a2 q ⊢;have SF:(2:Nat)<=maxLen:=by unfold maxLen;omega
 have SG:(3:Nat)<=maxLen:=by unfold maxLen;omega
 refine en AcR Aib ?_;have ff:=(cj6 @SF @SG @Ba.eq_1 @As @AR.eq_1 @Fl Aiu)
 have cc:=(cj7 q o z a2 B H M W)
 repeat any_goals (first|refine Du ff cc ⟨?_⟩|exact Bt ff|(with_reducible refine LA.loop (LA.round ?_))|(with_reducible refine LA.round ?_)|(refine Dv ff ?_ ?_<;>intro h<;>try exact Dw))
theorem AnV (f:AP)(s:Aa)(b c:AA)(hf:f.Fit)(M:f.valid=true)(o:s.ok=true)(hb:b.Ad=true)(ob:b.BX)(S:c.Ad=true)(oc:c.BX):AC AF 252 [.agg f.vs,Aj s,Ao b,.c (.sl (AA.AG [c])),.c (.sl (AA.AG []))] (Ba (C8 (Oc f s b [c] []))):=by
 obtain⟨bw,bh,bd,bn⟩:=D3 hb;obtain⟨cw,ch,cd,cn⟩:=D3 S;obtain⟨p1,p2⟩:=HE M o;have Yl:=pe f s [b,c] hf (by intro x Q;simp only[Cf,RE,Awj]at Q;rcases Q with rfl|rfl<;>exact⟨Awa,Ux⟩) ZA;rw[vh M o (by simp[hb,S])]at Yl;have z:=AP3 f s b [c] [] M o hb ZA ZA (by simpa using S) ZA;have H:=AYM f b hf M hb;have ig:=ABm (f:=f) (s:=s) (b:=b) (sub:=[c]) (sup:=[]) M o hb ZA ZA (by simpa using S) ZA;have bit:=AHz (f:=f) (b:=b) M hb;have eB:Oc f s b [c] []=Bf (DQ [b.AS 0 0,c.AS (b.w - F8 f b) (-(Ez f s b [c] []).2)]).2.1 (DQ [b.AS 0 0,c.AS (b.w - F8 f b) (-(Ez f s b [c] []).2)]).2.2.1 (DQ [b.AS 0 0,c.AS (b.w - F8 f b) (-(Ez f s b [c] []).2)]).2.2.2 [b.AS 0 0,c.AS (b.w - F8 f b) (-(Ez f s b [c] []).2)]:=F;rw[eB];clear eB;obtain⟨u,hu⟩:=AI ((Ez f s b [c] []).1);obtain⟨v,q⟩:=AI ((Ez f s b [c] []).2);rw[hu,q]at z ig;rw[q];clear hu q;generalize F8 f b=I at H bit ⊢;have a0:=AKJ b 0 0;have a1:=AKJ c (b.w - I) (-v);have B:=AP0 [b.AS 0 0,c.AS (b.w - I) (-v)] ZA ZA (by
  intro x Q;simp only[Cf,RE,Awj]at Q;rcases Q with rfl|rfl
  all_goals (constructor<;>(unfold Oi;simp only[iU,iT,iS,iV,iW];omega)))
 generalize DQ [b.AS 0 0,c.AS (b.w - I) (-v)]=E at B ⊢;unfold YG at B;have K:=aY E.2.1 E.2.2.1 E.2.2.2 [b.AS 0 0,c.AS (b.w - I) (-v)] ZA;have R:=Xn (Bf E.2.1 E.2.2.1 E.2.2.2 [b.AS 0 0,c.AS (b.w - I) (-v)]) ⟨(CI _:0<=maxLen),(CI _:0<=maxLen),F4 _ _ ob,F4 _ _ oc,trivial⟩ (by simp only[Bf,AA.cnt,AA.Az,Hb];omega);generalize (Bf E.2.1 E.2.2.1 E.2.2.2 [b.AS 0 0,c.AS (b.w - I) (-v)])=Z at K R ⊢;obtain⟨E1,g1⟩:=AI E.2.1;obtain⟨E2,g2⟩:=AI E.2.2.1;obtain⟨E3,g3⟩:=AI E.2.2.2;obtain⟨E0,g0⟩:=AI E.1;rw[g0,g1,g2,g3]at B;rw[g1,g2,g3]at K;clear g0 g1 g2 g3;generalize b.AS 0 0=A0 at a0 K B;generalize c.AS (b.w - I) (-v)=A1 at a1 K B;generalize C8 Z=DZ at R ⊢;unfold Aj at *
 simp only[AA.AG,As,AR,Ba,Ap,BB]at z K R B a0 a1 Yl H ⊢;have SF:(2:Nat)<=maxLen:=by unfold maxLen;omega
 have SG:(3:Nat)<=maxLen:=by unfold maxLen;omega
 refine en AcR Aib ?_;have ff:=(cj6 @SF @SG @Ba.eq_1 @As @AR.eq_1 @Fl Aiu)
 have cc:=(cj8 Yl z H a0 a1 B K R W)
 repeat any_goals (first|refine Du ff cc ⟨?_⟩|exact Bt ff|(with_reducible refine LA.loop (LA.round ?_))|(with_reducible refine LA.round ?_)|(refine Dv ff ?_ ?_<;>intro h<;>try exact Dw))
theorem AnW (f:AP)(s:Aa)(b c d:AA)(hf:f.Fit)(Q:f.valid=true)(z:s.ok=true)(hb:b.Ad=true)(ob:b.BX)(o:c.Ad=true)(oc:c.BX)(q:d.Ad=true)(od:d.BX):AC AF 252 [.agg f.vs,Aj s,Ao b,.c (.sl (AA.AG [c])),.c (.sl (AA.AG [d]))] (Ba (C8 (Oc f s b [c] [d]))):=by
 obtain⟨bw,bh,bd,bn⟩:=D3 hb;obtain⟨cw,ch,cd,cn⟩:=D3 o;obtain⟨dw,dh,dd,dn⟩:=D3 q;obtain⟨p1,p2⟩:=HE Q z;have Yl:=pe f s [b,c,d] hf (by intro x R;simp only[Cf,RE,Awj]at R;rcases R with rfl|rfl|rfl<;>exact⟨Awa,Ux⟩) ZA;rw[vh Q z (by simp[hb,o,q])]at Yl;have R0:=AP3 f s b [c] [d] Q z hb ZA ZA (by simpa using o) (by simpa using q);have M:=AYM f b hf Q hb;have ig:=ABm (f:=f) (s:=s) (b:=b) (sub:=[c]) (sup:=[d]) Q z hb ZA ZA (by simpa using o) (by simpa using q);have bit:=AHz (f:=f) (b:=b) Q hb;have eB:Oc f s b [c] [d]=Bf (DQ [b.AS 0 0,c.AS (b.w - F8 f b) (-(Ez f s b [c] [d]).2),d.AS b.w (Ez f s b [c] [d]).1]).2.1 (DQ [b.AS 0 0,c.AS (b.w - F8 f b) (-(Ez f s b [c] [d]).2),d.AS b.w (Ez f s b [c] [d]).1]).2.2.1 (DQ [b.AS 0 0,c.AS (b.w - F8 f b) (-(Ez f s b [c] [d]).2),d.AS b.w (Ez f s b [c] [d]).1]).2.2.2 [b.AS 0 0,c.AS (b.w - F8 f b) (-(Ez f s b [c] [d]).2),d.AS b.w (Ez f s b [c] [d]).1]:=F;rw[eB];clear eB;obtain⟨u,hu⟩:=AI ((Ez f s b [c] [d]).1);obtain⟨v,FQ⟩:=AI ((Ez f s b [c] [d]).2);rw[hu,FQ]at R0 ig;rw[FQ];rw[hu];clear hu FQ;generalize F8 f b=I at M bit ⊢;have a0:=AKJ b 0 0;have a1:=AKJ c (b.w - I) (-v);have a2:=AKJ d b.w u;have B:=AP0 [b.AS 0 0,c.AS (b.w - I) (-v),d.AS b.w u] ZA ZA (by
  intro x R;simp only[Cf,RE,Awj]at R;rcases R with rfl|rfl|rfl
  all_goals (constructor<;>(unfold Oi;simp only[iU,iT,iS,iV,iW];omega)))
 generalize DQ [b.AS 0 0,c.AS (b.w - I) (-v),d.AS b.w u]=E at B ⊢;unfold YG at B;have K:=aY E.2.1 E.2.2.1 E.2.2.2 [b.AS 0 0,c.AS (b.w - I) (-v),d.AS b.w u] ZA;have S:=Xn (Bf E.2.1 E.2.2.1 E.2.2.2 [b.AS 0 0,c.AS (b.w - I) (-v),d.AS b.w u]) ⟨(CI _:0<=maxLen),(CI _:0<=maxLen),F4 _ _ ob,F4 _ _ oc,F4 _ _ od,trivial⟩ (by simp only[Bf,AA.cnt,AA.Az,Hb];omega);generalize (Bf E.2.1 E.2.2.1 E.2.2.2 [b.AS 0 0,c.AS (b.w - I) (-v),d.AS b.w u])=Z at K S ⊢;obtain⟨E1,g1⟩:=AI E.2.1;obtain⟨E2,g2⟩:=AI E.2.2.1;obtain⟨E3,g3⟩:=AI E.2.2.2;obtain⟨E0,g0⟩:=AI E.1;rw[g0,g1,g2,g3]at B;rw[g1,g2,g3]at K;clear g0 g1 g2 g3;generalize b.AS 0 0=A0 at a0 K B;generalize c.AS (b.w - I) (-v)=A1 at a1 K B;generalize d.AS b.w u=A2 at a2 K B;generalize C8 Z=DZ at S ⊢;unfold Aj at *
 simp only[AA.AG,As,AR,Ba,Ap,BB]at R0 K S B a0 a1 a2 Yl M ⊢;have SF:(2:Nat)<=maxLen:=by unfold maxLen;omega
 have SG:(3:Nat)<=maxLen:=by unfold maxLen;omega
 refine en AcR Aib ?_;have H:=(cj6 @SF @SG @Ba.eq_1 @As @AR.eq_1 @Fl Aiu)
 repeat any_goals (first|refine Eo ?_|exact Bt H|(with_reducible refine LA.loop (LA.round ?_))|(with_reducible refine LA.round ?_)|refine De H ?_|refine BV H (Yl) ?_|refine BV H (R0) ?_|refine BV H (M) ?_|refine BV H (a0) ?_|refine BV H (a1) ?_|refine BV H (a2) ?_|refine BV H (B) ?_|refine BV H (K) ?_|refine BV H (S) ?_|refine DI H ?_|((first|refine JC H ?_ ?_|refine JE H ?_ ?_|refine JD H ?_ ?_|refine JY H ?_ ?_)<;>intro h<;>try (exfalso;first|omega|contradiction)))
@[simp] theorem AoS :(HD x)[3]?=J (.c (.int .i64 x.f.params.Gj)):=by rfl
@[simp] theorem AoT (h:3<G (HD x)):(HD x)[3]=.c (.int .i64 x.f.params.Gj):=F
theorem AnS (f:AP)(s:Aa)(b:AA)(sub sup:List AA)(K:f.Fit)(Q:f.valid=I)(M:s.ok=I)(hb:b.Ad=I)(S:G sub<=1)(o:G sup<=1)(B : ∀c∈sub,c.Ad=I)(H : ∀c∈sup,c.Ad=I):AC AF 252 [.agg f.vs,Aj s,Ao b,.c (.sl (AA.AG sub)),.c (.sl (AA.AG sup))] (Ba (C8 (Oc f s b sub sup))):=by
 have R:=kj hb;match sub,sup,S,o with
 | [],[],_,_=>exact AnT f s b K Q M hb R
 | [],[d],_,_=>exact AnU f s b d K Q M hb R (H d ZA) (kj (H d ZA))
 | [c],[],_,_=>exact AnV f s b c K Q M hb R (B c ZA) (kj (B c ZA))
 | [c],[d],_,_=>exact AnW f s b c d K Q M hb R (B c ZA) (kj (B c ZA)) (H d ZA) (kj (H d ZA))
theorem AXZ (R:Nd)(kr:List Nd)(L:List AA)(s:Aa)(z:x.Ok)(hs:s.ok=I)(hk:(n.kind=7/\(G L)=2)\/(n.kind=8/\(G L)=2)\/(n.kind=9/\(G L)=3))(EC:n.AE=R::kr)(hb:vm L):AC AF 201 [.agg (HD x),Am n,.c (.sl (AA.AG L)),Aj s] (Ba (oE (Ji x s n.kind n.text n.AL n.AE L))):=by
 have M:=AmX x R s z;have KA:Nd.AG n.AE=R.row::Nd.AG kr:=by rw[EC];rfl
 have key : ∀(b:AA) (sub B:List AA),b∈L->G sub<=1->G B<=1->(∀c∈sub,c∈L)->(∀c∈B,c∈L)->Ji x s n.kind n.text n.AL n.AE L=(if PZ x s R=I then Bj (C8 (OP x.f s b sub B))else Bj (C8 (Oc x.f s b sub B)))->
  (PZ x s R=I/\AC AF 251 [.agg x.f.vs,Aj s,Ao b,.c (.sl (AA.AG sub)),.c (.sl (AA.AG B))] (Ba (oE (Ji x s n.kind n.text n.AL n.AE L))))\/
  (PZ x s R=U/\AC AF 252 [.agg x.f.vs,Aj s,Ao b,.c (.sl (AA.AG sub)),.c (.sl (AA.AG B))] (Ba (oE (Ji x s n.kind n.text n.AL n.AE L)))):=λb sub B o l1 l2 m1 m2 e=>by
  cases JN:PZ x s R with
  | true=>refine .inl ⟨rfl,?_⟩;rw[e,Awd JN,<-show C8 (OP x.f s b sub B)=oE _ from Uh _];exact Am2 x.f s b sub B z.fit z.val hs (hb.v _ o) l1 l2 (λc S=>hb.v c (m1 c S)) λc S=>hb.v c (m2 c S)
  | false=>refine .inr ⟨rfl,?_⟩;rw[e,Awf (by rw[JN];decide),<-show C8 (Oc x.f s b sub B)=oE _ from Uh _];exact AnS x.f s b sub B z.fit z.val hs (hb.v _ o) l1 l2 (λc S=>hb.v c (m1 c S)) λc S=>hb.v c (m2 c S)
 have K:n.kind=7\/n.kind=8\/n.kind=9->Ji x s n.kind n.text n.AL n.AE L=(if PZ x s R=I then Bj (C8 (OP x.f s (L.getD 0 AA.zero) (Xb n.kind L) (Xc n.kind L)))else Bj (C8 (Oc x.f s (L.getD 0 AA.zero) (Xb n.kind L) (Xc n.kind L)))):=λh=>by
  unfold Ji;rw[EC];rcases h with e|e|e<;>rw[e]<;>simp
 have e1:(1:Nat)<=2:=ZB;rcases hk with ⟨e,q⟩|⟨e,q⟩|⟨e,q⟩
 . obtain⟨a,b,rfl⟩:=rZ q;have K:=K (.inl e);rw[show Xb n.kind [a,b]=[b]by rw[e];rfl,show Xc n.kind [a,b]=[]by rw[e];rfl]at K;have H:=key a [b] [] ZA ZA ZA ZA ZA K;obtain⟨⟨rb,re⟩,Q⟩:=AI (oE (Ji x s n.kind n.text n.AL n.AE [a,b]));rw[Q]at H ⊢;clear key K Q hb;simp only[AA.AG,Ba,AR,As,Am]at H M ⊢;unfold Aj at *
   rcases H with ⟨g,H⟩|⟨g,H⟩
   all_goals
    rw[g]at M;refine en func201 ntmps201 ?_;exact wz (cj2 @e @KA Akt) (cj2 M H W)
 . obtain⟨a,b,rfl⟩:=rZ q;have K:=K (.inr (.inl e));rw[show Xb n.kind [a,b]=[]by rw[e];rfl,show Xc n.kind [a,b]=[b]by rw[e];rfl]at K;have H:=key a [] [b] ZA ZA ZA ZA ZA K;obtain⟨⟨rb,re⟩,Q⟩:=AI (oE (Ji x s n.kind n.text n.AL n.AE [a,b]));rw[Q]at H ⊢;clear key K Q hb;simp only[AA.AG,Ba,AR,As,Am]at H M ⊢;unfold Aj at *
   rcases H with ⟨g,H⟩|⟨g,H⟩
   all_goals
    rw[g]at M;refine en func201 ntmps201 ?_;exact wz (cj2 @e @KA Akt) (cj2 M H W)
 . obtain⟨a,b,c,rfl⟩:=AT9 q;have K:=K (.inr (.inr e));rw[show Xb n.kind [a,b,c]=[b]by rw[e];rfl,show Xc n.kind [a,b,c]=[c]by rw[e];rfl]at K;have H:=key a [b] [c] ZA ZA ZA ZA ZA K;obtain⟨⟨rb,re⟩,Q⟩:=AI (oE (Ji x s n.kind n.text n.AL n.AE [a,b,c]));rw[Q]at H ⊢;clear key K Q hb;simp only[AA.AG,Ba,AR,As,Am]at H M ⊢;unfold Aj at *
   rcases H with ⟨g,H⟩|⟨g,H⟩
   all_goals
    rw[g]at M;refine en func201 ntmps201 ?_;exact wz (cj2 @e @KA Akt) (cj2 M H W)
theorem AmV (h:ADg x n src s)(H:AC AF 193 [.agg (HD x),Am n,.c (AV src),Aj s] (Ko n.kind n.AE (Kh x s src n.kind 0 n.AE))):AC AF 151 [.agg (HD x),Am n,.c (AV src),Aj s] (Ba (oE (Dr x s src n))):=by
 have hf:=h.form;rw[dg,Ak]at hf;have K:=h.hx;have S:=h.hs;generalize Cu:AV src=ss at H ⊢;cases hL:Kh x s src n.kind 0 n.AE with
 | none =>
   rw[hL]at H;have e:Dr x s src n=none:=by unfold Dr;rw[hL]
   rw[e];simp only[Ko,AR]at H;simp only[oE,Ba,Hr,H8,GW,Awh,As,AR,Fl];unfold Aj Am at *
   refine en AHg gX ?_;exact wz gY (cj H<|trivial)
 | some L =>
 have Ca:Dr x s src n=Ji x s n.kind n.text n.AL n.AE L:=by unfold Dr;rw[hL]
 rw[hL]at H;have R:vm L/\(G L)=G n.AE:=by
  have D2:=h.sr;rw[ke n]at D2;obtain⟨h1,h2,h3⟩:=AK4 K S D2 n.kind n.AE 0 L (BN _) hL;have hc:=Tm n;have:=h.cn;exact⟨⟨h1,ABt K n.AE n.kind n.kind s src 0 L S hf.2 hL,Ux⟩,h3⟩
 obtain⟨R,Mi⟩:=R;have hz:=AHP x s;have M:=Qa hf.1;have q:=Z3 hf.1;rw[Ca];have A0 : ∀(F:FuncId) (args:List V) (Z:AA),Ji x s n.kind n.text n.AL n.AE L=Bj (C8 Z)->AC AF F args (Ba (C8 Z))->AC AF F args (Ba (oE (Ji x s n.kind n.text n.AL n.AE L))):=λF args Z e h=>by
  rw[e,<-show C8 Z=oE _ from Uh Z];exact h
 obtain⟨⟨rb,re⟩,Q⟩:=AI (oE (Ji x s n.kind n.text n.AL n.AE L));rcases ATt hf.1 h.k1 with e|e|e|e|e|e|e|e|e|e|e
 have B:=Amb x n.text s K S (by rw[e]at q;simpa [Ki]using q);rw[show x.sym s n.text=Ji x s n.kind n.text n.AL n.AE L by rw[e];rfl,Q]at B;rw[Q];obtain⟨DR,o⟩:=AI (AA.AG (Kv n.kind n.AE L));simp only[Ko,AR,Ba,As,o]at H B ⊢;unfold Aj Am at *
 refine en AHg gX ?_;exact wz (cj @e<|gY) (cj2 H B W);obtain⟨t1,t2⟩:=AIm (t:=n.text) (by rw[e]at q;simpa [Ki]using q);have B:=AXY x n.text s K S t1 t2;rw[show x.Po s n.text=Ji x s n.kind n.text n.AL n.AE L by rw[e];rfl,Q]at B;rw[Q];obtain⟨DR,o⟩:=AI (AA.AG (Kv n.kind n.AE L));simp only[Ko,AR,Ba,As,o]at H B ⊢;unfold Aj Am at *
 refine en AHg gX ?_;exact wz (cj @e<|gY) (cj2 H B W);obtain⟨t1,t2⟩:=AJx (t:=n.text) (by rw[e]at q;simpa [Ki]using q);have B:=AXY x n.text s K S t1 t2;rw[show x.Po s n.text=Ji x s n.kind n.text n.AL n.AE L by rw[e];rfl,Q]at B;rw[Q];obtain⟨DR,o⟩:=AI (AA.AG (Kv n.kind n.AE L));simp only[Ko,AR,Ba,As,o]at H B ⊢;unfold Aj Am at *
 refine en AHg gX ?_;exact wz (cj @e<|gY) (cj2 H B W);rw[e]at M;obtain⟨a,b,rfl⟩:=rZ (L:=L) (by simp[FL]at M;omega);obtain⟨a1,a2,a3,a4⟩:=R.one (b:=a) ZA;obtain⟨b1,b2,b3,b4⟩:=R.one (b:=b) ZA;have B:=Amw x.f s a b K.fit a2 Ux b2 Ux;rw[show cE x.f s a b=C8 (WO x.f s a b)from Awf (by simp[K.val,S,a1,b1])]at B;have B:=A0 _ _ (WO x.f s a b) (by rw[e];rfl) B;rw[Q]at B ⊢;simp only[Ko,AR,Ba,As,show Kv n.kind n.AE [a,b]=[a,b]by rw[e];rfl,AA.AG]at H B ⊢;unfold Aj Am at *
 refine en AHg gX ?_;exact wz (cj @e<|gY) (cj2 H B W);rw[e]at M;obtain⟨a,b,rfl⟩:=rZ (L:=L) (by simp[FL]at M;omega);obtain⟨a1,a2,a3,a4⟩:=R.one (b:=a) ZA;obtain⟨b1,b2,b3,b4⟩:=R.one (b:=b) ZA;have g1:(Ue n.AE a).Ad=true:=AOt a1;have B:=Am4 x.f s b (Ue n.AE a) K.fit (AYv K.val) K.val S b1 b2 g1 (kj g1);have B:=A0 _ _ (Qp x.f s b [Ue n.AE a]) (by rw[e];rfl) B;rw[Q]at B ⊢;simp only[Ko,AR,Ba,As,show Kv n.kind n.AE [a,b]=[Ue n.AE a,b]by rw[e];rfl,AA.AG]at H B ⊢;unfold Aj Am at *
 refine en AHg gX ?_;exact wz (cj @e<|gY) (cj2 H B W);obtain⟨k0,kr,hk⟩:=rT hf.1 (.inr (.inl e));rw[e]at M;have B:=AXZ x n k0 kr L s K S (.inl ⟨e,by simp[FL]at M;omega⟩) hk R;rw[Q]at B ⊢;obtain⟨DR,o⟩:=AI (AA.AG L);simp only[Ko,AR,Ba,As,show Kv n.kind n.AE L=L by rw[e];rfl,o]at H B ⊢;unfold Aj Am at *
 refine en AHg gX ?_;exact wz (cj @e<|gY) (cj2 H B W);obtain⟨k0,kr,hk⟩:=rT hf.1 (.inr (.inr (.inl e)));rw[e]at M;have B:=AXZ x n k0 kr L s K S (.inr (.inl ⟨e,by simp[FL]at M;omega⟩)) hk R;rw[Q]at B ⊢;obtain⟨DR,o⟩:=AI (AA.AG L);simp only[Ko,AR,Ba,As,show Kv n.kind n.AE L=L by rw[e];rfl,o]at H B ⊢;unfold Aj Am at *
 refine en AHg gX ?_;exact wz (cj @e<|gY) (cj2 H B W);obtain⟨k0,kr,hk⟩:=rT hf.1 (.inr (.inr (.inr e)));rw[e]at M;have B:=AXZ x n k0 kr L s K S (.inr (.inr ⟨e,by simp[FL]at M;omega⟩)) hk R;rw[Q]at B ⊢;obtain⟨DR,o⟩:=AI (AA.AG L);simp only[Ko,AR,Ba,As,show Kv n.kind n.AE L=L by rw[e];rfl,o]at H B ⊢;unfold Aj Am at *
 refine en AHg gX ?_;exact wz (cj @e<|gY) (cj2 H B W);rw[e]at M q;obtain⟨a,rfl⟩:=AIF (L:=L) (by simp[FL]at M;omega);obtain⟨a1,a2,a3,a4⟩:=R.one (b:=a) ZA;have B:=Ame x.f s n.text a K.fit K.val S a1 a2 (by simpa [Ki]using q);have B:=A0 _ _ (al x.f s n.text a (x.gl s n.text)) (by rw[e];rfl) B;rw[Q]at B ⊢;simp only[Ko,AR,Ba,As,show Kv n.kind n.AE [a]=[a]by rw[e];rfl,AA.AG]at H B ⊢;unfold Aj Am at *
 refine en AHg gX ?_;exact wz (cj @e<|gY) (cj2 H B W);rw[e]at M q;obtain⟨a,rfl⟩:=AIF (L:=L) (by simp[FL]at M;omega);obtain⟨a1,a2,a3,a4⟩:=R.one (b:=a) ZA;have B:=Amu x.f n.text a (x.sz s) K.fit (AYv K.val) a2 Ux (by have:=(kf n h.ok).1;exact this);have hi:Ji x s n.kind n.text n.AL n.AE [a]=Bj (O5 x.f n.text a (x.sz s)):=by rw[e];rfl
 rw[show O5 x.f n.text a (x.sz s)=oE (Bj (O5 x.f n.text a (x.sz s)))from APT K S (AJK (by simpa [Ki]using q)) a1,<-hi,Q]at B;rw[Q];generalize A1:x.sz s=z at hz B;simp only[Ko,AR,Ba,As,show Kv n.kind n.AE [a]=[a]by rw[e];rfl,AA.AG]at H B ⊢;unfold Aj Am at *
 refine en AHg gX ?_;exact wz (cj @e<|gY) (cj3 H hz B W);rw[e]at M;obtain⟨AL,AG,yx,kA,c1,c2,r1,n2⟩:=AUT M;have hC:Cells x s AL AG L:=⟨⟨by rw[Mi,kA],c1,c2,r1,Ux,VN K S,ABT K S,λb CT=>⟨R.w b CT,(D3 (R.v b CT)).1.2⟩⟩,R.v,by have:=R.c;omega⟩
 have hi:Ji x s n.kind n.text n.AL n.AE L=Bj (N2 x.f s AL L):=by rw[e,yx];rfl
 have B:=Am3 x s AL AG L K S hC;rw[show N2 x.f s AL L=oE (Bj (N2 x.f s AL L))from ANX x.f s AL L,<-hi,Q]at B;rw[Q];obtain⟨DR,o⟩:=AI (AA.AG L);simp only[Ko,AR,Ba,As,show Kv n.kind n.AE L=L by rw[e];rfl,o]at H B ⊢;unfold Aj Am at *
 refine en AHg gX ?_;exact wz (cj2 @e @yx gY) (cj2 H B W)
theorem AmW (Q:G src<=100)(B:AC AF 151 [.agg (HD x),Am n,.c (AV src),Aj s] (Ba (oE (Dr x s src n)))):AC AF 114 [.agg (HD x),Am n,.c (AV src),Aj s] (Ba (oE (Fw x s src n))):=by
 rw[SD];have H:=λb=>Ajg b 2 src Ux
 generalize M:AV src=R at B H ⊢;cases K:Dr x s src n with
 | none =>
   rw[K]at B;simp only[oE,Ba,Hr,H8,GW,Awh,As,AR,Fl]at B ⊢;unfold Aj Am at *
   refine en m8 nv ?_;exact wz n4 (cj B<|trivial)
 | some b =>
   rw[K]at B;have H:=H b;simp only[oE,Ba,Dm,IZ,Awg,As,AR]at B H ⊢;unfold Aj Am at *
   refine en m8 nv ?_;exact wz n4 (cj2 B H W)
theorem AmZ (h:oF x n src s)(A0:AcJ x n src s):AC AF 72 [.agg (HD x),Am n,.c (AV src),Aj s] (Ba (oE (GU x s src n))):=by
 have DJ:=h.sr.len;have hx:=h.hx;have hs:=h.hs;have hz:=AHP x s;have H:=λb=>Ajg b 1 src Ux
 have OI:=ABc h.form h.k1;have A5:=h.ok;have FX:=h.cn;have zJ:=h.form;have qX:=h.dp;have D2:=h.sr;by_cases hn:n.AE=[]
 have e:GU x s src n=J (x.empty s src):=by
  obtain⟨k,t,c,AE⟩:=n;simp only at hn;unfold GU;rw[Awd hn]
 rw[e];have S:=AYA x.f.params.Al (x.sz s);change AC _ _ _ (.c (.int .i64 (x.Al s)))at S;have A8:=AYA (x.Al s) 50;have A2:=AYA x.f.params.Gj (x.sz s);have H:=H (Bf (if src=[]then 0 else AU (x.Al s) 50) (AU x.f.params.Gj (x.sz s)) 0 []);rw[show (Bf (if src=[]then 0 else AU (x.Al s) 50) (AU x.f.params.Gj (x.sz s)) 0 []).mark 1 src=x.empty s src from rfl]at H;have uq:Nd.AG n.AE=[]:=by rw[hn];rfl
 obtain⟨E,hE⟩:=AI (x.empty s src);rw[hE]at H ⊢;have A6:G (src.map λn=>[C.int .i64 n])=G src:=Ch _;have K:src=[]↔G src=0:=List.length_eq_zero_iff.symm;obtain⟨ss,Cu⟩:=AI ((src.map λn=>[C.int .i64 n]));obtain⟨z,B2⟩:=AI (x.sz s);rw[B2]at hz S A2 H;obtain⟨q,zo⟩:=AI (x.Al s);rw[zo]at S A8 H;obtain⟨Q,hQ⟩:=AI (AU q 50);rw[hQ]at A8 H;obtain⟨X,hX⟩:=AI (AU x.f.params.Gj z);rw[hX]at A2 H;unfold AV at H ⊢;rw[Cu]at H A6 ⊢;clear hE hQ hX zo B2 OI e;by_cases h0:src=[]
 rw[Awd h0]at H;have g : ¬(0:Int)<(G ss:Int):=by rw[A6,K.1 h0];omega
 simp only[oE,Ba,Dm,IZ,Awg,As,AR,Bf,AA.AG,AA.vs,AA.row,Ap,BB,AV]at H ⊢;unfold Aj Am at *
 refine en JA vF ?_;exact wz (cj2 @uq @g va) (cj3 hz A2 H W);rw[Awf h0]at H;have g:(0:Int)<(G ss:Int):=by rw[A6];have:=Kr.2 h0;omega
 simp only[oE,Ba,Dm,IZ,Awg,As,AR,Bf,AA.AG,AA.vs,AA.row,Ap,BB,AV]at H ⊢;unfold Aj Am at *
 refine en JA vF ?_;exact wz (cj2 @uq @g va) (cj5 hz A2 S A8 H W);have A3:=AAK x s src 0 n.AE;have Ir:=λj q hj=>AH2 x s src 0 n.AE j q hj
 have v3:=AH4 x s src 0 n.AE;have M:=λj q hj=>AH5 x s src 0 n.AE j q hj
 obtain⟨L,hL⟩:=AI (QY x s src 0 n.AE);rw[hL]at A3 Ir v3;have jc:Kb x s src 0 n.AE=none->GU x s src n=none:=λhI=>by
  obtain⟨k,t,c,AE⟩:=n;simp only at hn hI;unfold GU;rw[Awf hn,hI]
 have R:Kb x s src 0 n.AE=J L->(GU x s src n=match Bj (F9 L (x.CC s n.AE))with|none=>none|some b=>J (b.mark 1 src))/\AC AF 116 [.c (.sl (AA.AG L)),.c (AV (x.CC s n.AE))] (Ba (oE (Bj (F9 L (x.CC s n.AE))))):=λhI=>by
  refine⟨?_,?_⟩;obtain⟨k,t,c,AE⟩:=n;simp only at hn hI;unfold GU;rw[Awf hn,hI];rfl;rw[OI]at zJ D2 FX;rw[dg,Ak]at zJ;rw[ke (Dd n.AE)]at D2;obtain⟨Fv,IK,_⟩:=AH6 hx hs D2 n.AE 0 L (BN _) zJ.2 hI;have zA:=Tm (Dd n.AE);have D0:Nd.Az n.AE<=80:=by have:(Dd n.AE).AE=n.AE:=F;rw[this]at zA;omega
  have Ce:=SH n.AE;obtain⟨ze,kB⟩:=AVT Fv;have D1:=AY9 x s n.AE;have:=AXX L (x.CC s n.AE) ze Ux Ux Ux;rwa [sm kB Ux (ALD hx hs n.AE)]at this
 have K:AC AF 23 [.agg x.f.vs,.c (Cc x.d),.c (.sl (Nd.AG n.AE)),Aj s] (.A7 [.c (AV (x.CC s n.AE)),AR 0]):=by
  rw[OI]at A5 FX zJ qX;refine Ank x s n.AE hx hs A5 Ux ?_;unfold Nd.Ad;rw[zJ,Awk (show (Dd n.AE).kind=1 from rfl),Awk (by omega:(Dd n.AE).cnt<=1000),Awk qX];rfl
 have m5:=λ(i:Nat)=>Ajz src (i:Int) Ux
 have Yw : ∀(j:Nat) (k:Nd),n.AE[j]?=J k->(Nd.AG n.AE)[j]?=J k.row:=λj k hj=>XG hj
 have Rz:=Pc n.AE;have Ce:G n.AE<=300:=by have h1:=SH n.AE;have h2:=Tm n;omega
 obtain⟨SP,yQ⟩:=AI (AV (x.CC s n.AE));rw[yQ]at K R;obtain⟨o,ho⟩:=AI (Bj (F9 L (x.CC s n.AE)));rw[ho]at R;obtain⟨ss,Cu⟩:=AI (AV src);rw[Cu]at m5 H ⊢;obtain⟨rs,Aw⟩:=AI (Nd.AG n.AE);rw[Aw]at Yw Rz K;obtain⟨N,hN⟩:=AI (G n.AE);have cL:0<N:=by rw[<-hN];exact Kr.2 hn
 rw[hN]at A3 Rz Ce;obtain⟨RL,B0⟩:=AI (GU x s src n);rw[B0]at jc R ⊢;unfold AcJ at A0;obtain⟨kd,t,c,AE⟩:=n;simp only at Aw hN Ir v3 M Yw jc R A0;simp only[Am,Nd.vs,Nd.row,Ap,BB,Aw];have B7 : ¬(N:Int)=0:=Ux;clear B0 hL Cu D2 qX zJ FX A5 OI hz h hx ho yQ hn;simp only[AR]at K;unfold Aj at *
 refine en JA vF ?_;refine wy (cj2 @Rz @B7 va) trivial ⟨?_⟩;refine AW.le (Le.tL 11 56 11 F) ?_;simp only[BA,BO,Nat.reduceAdd,Ag,Ai,BK,BU];refine CX (ι:={ k:Nat // k<=N/\∀j q,j<k->AE[j]?=J q->NZ x s src j q≠none }) (λk=>[(12,(k.1:Int)),(11,.gr 4 11 (AA.AG (L.take k.1)))]) (λk=>[O.box 30 (HD x) U,O.box 33 [kd,.c (.str t),c,.c (.sl rs)] U,O.box 35 [s.By,.c (.bool s.Hd)] U,O.box 56 BT U,.tok 56 11 k.1]) (λk=>N - k.1) ⟨0,CI _,λ_ _ h=>absurd h (UE _)⟩ ?_ ?_;exact ER (cj2 @AA.AG.eq_1 @AA.AG.eq_2 @BT.eq_1);rintro ⟨j,hj,hI⟩;simp only;by_cases A1:j<N;obtain⟨q,S⟩:∃q,AE[j]?=J q:=⟨_,BE Ux⟩
 have A9:=Yw j q S;have Bu:=gx A9;have Dh:j<G rs:=Ux;have zZ:=A0 j q S;have pG:=Ir j q S;rw[Cz]at pG;have PC:=m5 j;have hw:AZ.wrap ((j:Int)+1)=((j+1:Nat):Int):=by rw[Ac];simp
 obtain⟨sk,B8⟩:=AI (AV (src++[(j:Int)]));rw[B8]at zZ PC;have kA:=M j q S;rw[Cz]at kA;obtain⟨ob,ho⟩:=AI (NZ x s src j q);rw[ho]at zZ pG kA;unfold Am at zZ;clear Yw Ir m5 M A0 K;cases ob with
 | none=>rw[jc (kA F)];simp only[oE,Ba,Hr,H8,GW,Awh,As,AR,Fl]at zZ ⊢;exact wz (cj6 @A1 @Rz @A9 @Bu @Dh @BT.eq_1 va) (cj2 PC zZ W)
 | some B =>
   rw[Dm]at pG;simp only[oE,Ba,Dm,IZ,Awg,As,AR]at zZ;have B3 : ∀i q,i<j+1->AE[i]?=J q->NZ x s src i q≠none:=λi q' hi DT=>by
    by_cases e:i=j;subst e;rw[S]at DT;cases DT;rw[ho];exact λh=>nomatch h
    exact hI i q' Ux DT
   have Wr:=AKZ L j Ux;rw[(Br.1 pG).2]at Wr;have Md:G (AA.AG (L.take j))=j:=by rw[GA,Fa];omega
   have B1:((AA.AG (L.take j)).all λr=>G r==11)=true:=by rw[ES];intro r hr;simpa using lE _ r hr
   obtain⟨RR,YW⟩:=AI (AA.AG (L.take j));rw[YW]at Wr Md B1 ⊢;have FO:j+1<=maxLen:=by unfold maxLen;omega
   have EX:(j+1)*128<=140737488355328:=Ux;have cM:=Wr.symm;clear jc R kA hI Wr;refine wy (cj9 @A1 @Rz @A9 @Bu @Dh @hw @Md @FO @EX<|cj @cM va) (cj2 PC zZ W) ⟨?_⟩;exact⟨⟨j+1,Ux,B3⟩,by simp only;omega,wd 5⟩
 obtain rfl:j=N:=Ux;obtain⟨Lt,zK⟩:=R (v3 λi q S=>by rw[Cz];exact hI i q (by have:=(Br.1 S).1;omega) S);rw[Lt,Gl Ux];generalize YW:AA.AG L=RR at zK ⊢;cases o with
 | none=>simp only[oE,Ba,Hr,H8,GW,Awh,As,AR,Fl]at zK ⊢;exact wz (cj3 @A1 @Rz @BT.eq_1 va) (cj2 K zK W)
 | some B=>have H:=H B;simp only[oE,Ba,Dm,IZ,Awg,As,AR]at zK H ⊢;exact wz (cj3 @A1 @Rz @BT.eq_1 va) (cj3 K zK H W)
theorem AjU :∀n:Nd,(∀src s,oF x n src s->AC AF 72 [.agg (HD x),Am n,.c (AV src),Aj s] (Ba (oE (GU x s src n))))/\(∀src s,ADg x n src s->AC AF 114 [.agg (HD x),Am n,.c (AV src),Aj s] (Ba (oE (Fw x s src n)))):=AAi λn ih=>by
 refine⟨λsrc s h=>AmZ x n src s h λj k H=>?_,λsrc s h=>?_⟩;obtain⟨f1,f2,f3,f4,f5⟩:=AAP h.form h.ok (get_mem H);have K:k.kind≠1:=by intro e;rw[h.k1,e]at f2;simp[Pa]at f2
 have B:=h.sr;have o:=h.cn;have z:=h.dp;obtain⟨d,M⟩:∃d,n.BR=d+1:=⟨n.BR - 1,Ux⟩
 rw[M]at B;exact(ih k (get_mem H)).2 _ _ ⟨h.hx,h.hs,K,f1,f3,Ux,Ux,B.add j Ux⟩;have Q:=h.form;rw[dg,Ak]at Q;have R:G src<=100:=by have:=h.sr.len;omega
 have o:=h.cn;have S:G n.AE<=300:=by have h1:=SH n.AE;have h2:=Tm n;omega
 refine AmW x n src s R (AmV x n src s h (Ama x n src s h.hs (Qa Q.1) h.k1 R S λj k H=>?_));obtain⟨f1,f2,f3,f4,f5⟩:=AAP h.form h.ok (get_mem H);have K:k.kind=1:=by
  have q:=h.k1;by_cases e:k.kind=1;exact e;simp[Pa,q,e]at f2
 have B:=h.sr;have z:=h.dp;obtain⟨d,M⟩:∃d,n.BR=d+1:=⟨n.BR - 1,Ux⟩
 rw[M]at B;exact(ih k (get_mem H)).1 _ _ ⟨h.hx,ABs h.hs,K,f1,f3,Ux,Ux,B.add j Ux⟩
theorem AjX (R:x.f.Fit)(S:G x.d<=1000000)(Q : ∀e∈x.d,e.text.size<=maxLen):AC AF 17 [.agg (HD x)] (.c (.bool (x.f.valid && Ll x.d))):=by
 have B:=ba x.f R;have H:=Ajw x.d S Q;obtain⟨a,K⟩:=AI x.f.valid;obtain⟨b,M⟩:=AI (Ll x.d);rw[K]at B ⊢;rw[M]at H ⊢;clear K M;cases a;all_goals
  refine en func17 ntmps17 ?_;exact wz results17 (cj2 B H W)
theorem AjW (hs:G src<=maxLen)(p:Nat)(hp:p=0\/p=1):AC AF 71 [.c (AV src),p] (.c (.bool (Sd src p))):=by
 unfold maxLen at hs;have q:=AIb (G src) hs;unfold Sd;have row : ∀(i:Nat) (v:Int),src[i]?=J v->(src.map λn=>[C.int .i64 n])[i]?=J [.int .i64 v]:=λi v hi=>by rw[CM,hi];rfl
 have H:G (src.map λn=>[C.int .i64 n])=G src:=Ch _;unfold AV;obtain⟨R,hR⟩:=AI ((src.map λn=>[C.int .i64 n]));rw[hR]at row H ⊢;obtain⟨N,hN⟩:=AI (G src);rw[hN]at q H;refine en func71 ntmps71 ?_;refine wy (cj @H<|VV) trivial ⟨?_⟩;refine CX (ι:={ k:Nat // k<=N/\HT src=HT (src.drop k) }) (λk=>[(5,(k.1:Int))]) (λ_=>[]) (λk=>N - k.1) ⟨0,CI _,rfl⟩ ?_ ?_;exact DH;rintro ⟨k,hk,S⟩;simp only;by_cases B:k<N;obtain⟨z,hz⟩:∃z,src[k]?=J z:=⟨_,BE Ux⟩
 have rk:=row k z hz;have eQ:=gx rk;have M:k<G R:=Ux;rw[D5 Ux,(Br.1 hz).2]at S;have hw:AZ.wrap ((k:Int)+1)=((k+1:Nat):Int):=by rw[Ac];simp
 by_cases h1:z<0;have e:HT src=false:=by rw[S];simp[HT];omega
 rw[e,D4];exact wz (cj6 @H @B @rk @eQ @M @h1 VV) W;have e:HT src=HT (src.drop (k+1)):=by rw[S];simp[HT];intro;omega
 refine wy (cj7 @H @B @rk @eQ @M @h1 @hw VV) trivial ⟨?_⟩;exact⟨⟨k+1,Ux,e⟩,by simp only;omega,wd 0⟩;obtain rfl:k=N:=Ux;have e:HT src=true:=by rw[S,FA Ux];rfl
 have Q:k % 2=0\/k % 2=1:=Ux;rw[e,hN,Cd];by_cases K:k<=25
 . have o:(k:Int)<=25:=Ux;rw[Awk K,Cd];rcases hp with rfl|rfl<;>rcases Q with Q|Q
   all_goals
    rw[Q]at q ⊢;exact wz (cj4 @H @B @q @o VV) W
 have o : ¬(k:Int)<=25:=Ux;rw[Awl K,D4];exact wz (cj3 @H @B @o VV) W
theorem APx (o:Option AA):outT o=Ba (oE o):=by cases o<;>rfl
theorem AjT (hf:x.f.Fit)(hl:G x.d<=300)(DS : ∀e∈x.d,e.text.size<=maxLen)(hn:n.BX)(hc:n.cnt<=80)(DJ:G src<=maxLen):AC AF 41 [.agg (HD x),Am n,.c (AV src),Aj s] (Ob x s src n):=by
 have o:=AjX x hf Ux DS;have q:=Ajx n hn Ux;have z:=AAA s;have R:=AjW src DJ 0 (.inl F);have B:x.Bj s=I->n.Ad=I->Sd src 0=I->AC AF 72 [.agg (HD x),Am n,.c (AV src),Aj s] (outT (GU x s src n)):=λQ K H=>by
  unfold Af.Bj at Q;simp only[Ak]at Q;unfold Nd.Ad at K;simp only[Ak,Awe]at K;unfold Sd at H;simp only[Ak,Awe]at H;rw[APx];exact(AjU x n).1 src s ⟨⟨hf,Q.1,hl,Q.2.1⟩,Q.2.2,K.1,K.2.1,hn,hc,K.2.2.2,⟨H.1,H.2.2,Ux⟩⟩
 unfold Ob;have ho:x.Bj s=((x.f.valid && Ll x.d) && s.ok):=by unfold Af.Bj;rw[Bool.and_assoc]
 rw[ho]at B ⊢;obtain⟨DV,gR⟩:=AI ((x.f.valid && Ll x.d));obtain⟨TV,M⟩:=AI s.ok;obtain⟨NV,jQ⟩:=AI n.Ad;obtain⟨SV,jX⟩:=AI (Sd src 0);rw[gR]at o B ⊢;rw[M]at z B ⊢;rw[jQ]at q B ⊢;rw[jX]at R B ⊢;obtain⟨sr,H⟩:=AI (AV src);rw[H]at R B ⊢;clear gR M jQ jX ho H;unfold O1;by_cases S:((DV && TV) && NV)=I;simp only[Ak]at S;obtain⟨⟨rfl,rfl⟩,rfl⟩:=S;cases SV with
 | false =>
   simp only[As,AR,Fl,LW,AQF,Awh,Awg];unfold Aj Am at *
   refine en AK6 ntmps41 ?_;exact wz L1 (cj4 o q z R W)
 | true =>
   have h4:=B rfl rfl F;obtain⟨⟨rb,re⟩,hR⟩:=AI (oE (GU x s src n));rw[APx,hR]at h4 ⊢;simp only[Ba,As,AR,LW,AQF,Awh]at h4 ⊢;unfold Aj Am at *
   refine en AK6 ntmps41 ?_;exact wz L1 (cj5 o q z R h4 W)
 . rw[Awd (by simpa using S)];clear B;simp only[As,AR,Fl];unfold Aj Am at *
   cases DV<;>cases NV<;>cases TV;all_goals first
    | exact absurd rfl S
    | skip
   all_goals
    refine en AK6 ntmps41 ?_;exact wz L1 (cj4 o q z R W)
theorem AmU (K:x.f.Fit)(M:G x.d<=300)(B : ∀e∈x.d,e.text.size<=maxLen)(Q:n.BX)(H:n.cnt<=80):AC AF 21 [.agg (HD x),Am n,Aj s] (Ob x s [] n):=by
 have h:=AjT x n [] s K M B Q H (CI _);obtain⟨b,e,R⟩:=AKU x s [] n;rw[R]at h ⊢;simp only[AV,BB,As,AR]at h ⊢;unfold Aj Am at *
 refine en func21 ntmps21 ?_;exact wz results21 (cj h<|trivial)
def ATx (cls:List Int)(p:Nat):Int:=if p=0 then 0 else if cls.getD p 0=3 then 50 else 150
theorem AmN (cls W sp:List Int):∀k,(Ni cls W sp k).map (λq=>q.2.2)=(FZ cls (k+1)).map (λp=>ATx cls p.toNat)
 | 0=>by
   have e:FZ cls (0+1)=[0]:=by simp[FZ,AJW]
   rw[e];rfl
 | k+1=>by
   have h:=AmN cls W sp k;unfold Ni at h ⊢;simp only[E7];rw[FZ];cases B:OX cls (k+1)with
   | true=>rw[Awd rfl,Awd F,Fm,h,Fm];have e:((k+1:Nat):Int).toNat=k+1:=Ux;simp only[Ap,BB,e,ATx,Awf (AM1 k)]
   | false=>rw[Awf ZA,Awf ZA,E5,<-h];simp
def ADn (W sp:List Int)(a:Nat):Nat->Int
 | 0=>0
 | m+1=>ADn W sp a m+W.getD (a+m) 0+if m=0 then 0 else sp.getD (a+m) 0
theorem AmA {W sp:List Int}(B : ∀k,-1073741824<=W.getD k 0/\W.getD k 0<=1073741824)(hs : ∀k,-1073741824<=sp.getD k 0/\sp.getD k 0<=1073741824)(a:Nat):∀m:Nat,-(m:Int)*2147483648<=ADn W sp a m/\ADn W sp a m<=(m:Int)*2147483648
 | 0=>by simp[ADn]
 | m+1=>by
   have h:=AmA B hs a m;have H:=B (a+m);have K:=hs (a+m);simp only[ADn];split<;>omega
theorem Amq {W sp:List Int}{A:Nat->Int}{N:Nat}(B : ∀k,k<N->A (k+1)=A k+sp.getD k 0+W.getD k 0)(a:Nat):∀m:Nat,a+(m+1)<=N->ADn W sp a (m+1)=A (a+(m+1)) - A a - sp.getD a 0
 | 0,h=>by
   have:=B a Ux;simp only[ADn,Awg,Nat.add_zero,Cz];omega
 | m+1,h=>by
   have H:=Amq (W:=W) B a m Ux;have K:=B (a+(m+1)) Ux;rw[ADn,H,Awf (AM1 m)];rw[show a+(m+1+1)=a+(m+1)+1 by omega];omega
theorem AtE {W sp:List Int}{p j:Nat}(h:p<=j):ADn W sp p (j+1 - p)=ADn W sp p (j - p)+W.getD j 0+if j=p then 0 else sp.getD j 0:=by
 obtain⟨i,rfl⟩:∃i,j=p+i:=⟨j - p,Ux⟩
 rw[show p+i+1 - p=i+1 by omega,show p+i - p=i by omega,ADn];by_cases B:i=0;subst B;simp;rw[Awf B,Awf Ux]
theorem As5 {cls W sp:List Int}{A:Nat->Int}{N M:Nat}(hM:N=M+1)(hA : ∀k,k<N->A (k+1)=A k+sp.getD k 0+W.getD k 0)(h:Sy sp A (Ni cls W sp M) (FZ cls N) N)(j:Nat)(q:Int×Int×Int)(R:(Ni cls W sp M)[j]?=J q):∃p m:Nat,(FZ cls N)[j]?=J (p:Int)/\(FZ cls N++[(N:Int)])[j+1]?=J ((p+(m+1):Nat):Int)/\p+(m+1)<=N/\(j=0->p=0)/\(0<j->0<p)/\q=(ADn W sp p (m+1),sp.getD p 0,ATx cls p):=by
 obtain⟨p,p',H,S,k3,o,k5⟩:=AA3 h j q R;have hb : ∀(i:Nat) (v:Int),(FZ cls N++[(N:Int)])[i]?=J v->v<=N:=by
  have hp : ∀n:Nat,∀v∈FZ cls n,v=0\/v<n:=λn=>by
   induction n with
   | zero=>simp[FZ]
   | succ n ih =>
     intro v B;rw[FZ,MJ]at B;rcases B with B|B
     have:=ih v B;omega;split at B<;>simp at B;omega
  intro i v B;have:=Cj B;rw[MJ,LY]at this;rcases this with h'|h'
  have:=hp N v h';omega;omega
 have k6:=hb _ _ S;obtain⟨m,hm⟩:∃m,p'=p+(m+1):=⟨p' - p - 1,Ux⟩
 subst hm;have h0 : ∃r,FZ cls N=0::r:=by
  clear h H S hb hM hA k6;induction N with
  | zero=>exact⟨[],F⟩
  | succ n ih=>obtain⟨r,h⟩:=ih;exact⟨r++_,by rw[FZ,h];rfl⟩
 refine⟨p,m,H,S,Ux,?_,?_,?_⟩;rintro rfl;obtain⟨r,hr⟩:=h0;rw[hr]at H;simp at H;omega;intro hj;obtain⟨i,rfl⟩:∃i,j=i+1:=⟨j - 1,Ux⟩
 have A0:=(Br.1 R).1;obtain⟨z,DT⟩:∃z,(Ni cls W sp M)[i]?=J z:=⟨_,BE Ux⟩
 obtain⟨a,a',t1,t2,t3,_⟩:=AA3 h i z DT;have hl:=(Br.1 H).1;rw[EJ hl,H]at t2;simp at t2;omega;have K:=AmN cls W sp M;rw[<-hM]at K;have Q:((Ni cls W sp M).map (λq=>q.2.2))[j]?=J q.2.2:=by rw[CM,R];rfl
 rw[K,CM,H]at Q;simp at Q;rw[Amq hA p m Ux,<-o,Q];obtain⟨q1,q2,q3⟩:=q;simp only at k5 o ⊢;rw[k5,o]
def gO (e:Int):V:=.A7 [.c (.sl []),.c (.sl []),AR e]
def gm (x:Af)(s:Aa)(n:Nd):V:=if (x.Bj s && n.Ad)=U then gO 1 else if (XL x.d n.AE).2≠0 then gO (XL x.d n.AE).2 else match GU x s [] n with
 | none=>gO 6
 | some b=>if Zk (dx x n s b)=I then .A7 [.c (.sl ((dx x n s b).map El)),.c (AV (XL x.d n.AE).1),AR 0]else gO 6
theorem AmO {d:List En}{l:List Nd}(h : ¬(XL d l).2≠0):l≠[]:=by
 rintro rfl;apply h;unfold XL;split;rename_i B;exact B;simp
theorem As8 {x:Af}{s:Aa}{n:Nd}(h:z3 x n s):gm x s n=gO (gW x s n):=by
 unfold gm gW;split;rfl;rename_i B;split;rfl;rename_i H;simp only[Bool.not_eq_false,Ak]at B;cases K:GU x s [] n with
 | none=>rfl
 | some b=>simp only;rw[h b B.1 B.2 K (AmO H),Awf ZA]
theorem As9 {x:Af}{s:Aa}{n:Nd}{b:AA}{L:List (Int×Int×Int)}{P:List Int}(B:af x s n b L P)(S:oC b L P):gm x s n=.A7 [.c (.sl (L.map El)),.c (AV P),AR 0]:=by
 have R:=B.nv;have Q:=B.ok;have K:=R;unfold Nd.Ad at K;simp only[Ak,Awe]at K;unfold Af.Bj at Q;simp only[Ak]at Q;have hn:n=Dd n.AE:=ABc K.2.1 K.1;have M:G n.AE≠0:=λM=>by
  obtain⟨A,hA,H⟩:=B.au;rw[B.eqP,M,B.eq]at H;unfold dx Ni at H;cases o:(E7 (I6 (JP x.d n.AE)) (b.AE.map AA.w) (x.CC s n.AE) (G n.AE - 1)).1 with
  | nil=>rw[o]at H;obtain⟨a,_,h,_⟩:=H;omega
  | cons q l =>
    rw[o]at H;cases l<;>exact H.elim
 have c2:XL x.d n.AE=(FZ (I6 (JP x.d n.AE)) (G n.AE),0):=by
  have z:O2 x.d n.AE=(I6 (JP x.d n.AE),0):=by
   unfold O2;rw[Awf];rintro (h|h);rw[Q.2.1]at h;cases h;rw[<-hn,R]at h;cases h
  unfold XL;rw[z,Awf ZA,Awf M]
 have hg:Zk (dx x n s b)=true:=by
  rw[<-B.eq];unfold Zk;rw[S.ok,Km,Awe];exact S.ra
 unfold gm;rw[B.ok,R,Awf ZA,c2,Awf ZA,B.row];simp only;rw[Awd hg,<-B.eq,<-B.eqP]
theorem AtH (L:List (Int×Int×Int))(hl:G L<=1000000):AC AF 24 [.c (.sl (L.map El))] (.c (.bool (Zk L))):=by
 obtain⟨rs,Aw⟩:=AI (L.map El);have M:G rs=G L:=by rw[<-Aw,Ch]
 rw[Aw];obtain⟨N,hN⟩:=AI (G L);rw[hN]at M;refine en func24 ntmps24 ?_;refine wy (cj @M<|ACs) trivial ⟨?_⟩;refine CX (ι:={ k:Nat // k<=N/\(L.take k).all SJ=I }) (λk=>[(3,(k.1:Int))]) (λ_=>[]) (λk=>N - k.1) ⟨0,CI _,rfl⟩ ?_ ?_;exact DH;rintro ⟨k,hk,B⟩;simp only;by_cases H:k<N;obtain⟨⟨q1,q2,q3⟩,hq⟩:∃q,L[k]?=J q:=⟨_,BE Ux⟩
 have R:rs[k]?=J [.int .i64 q1,.int .i64 q2,.int .i64 q3]:=by rw[<-Aw,CM,hq];rfl
 have S:=gx R;have o:k<G rs:=Ux;have K:SJ (q1,q2,q3)=U->Zk L=false:=λh=>by
  unfold Zk;cases hA:L.all SJ with
  | false=>simp
  | true =>
    rw[ES]at hA;rw[hA _ (Cj hq)]at h;cases h
 have Q:SJ (q1,q2,q3)=I->(L.take (k+1)).all SJ=true:=λh=>by
  rw[UC,hq,List.all_append,B];simp[h]
 have hw:AZ.wrap ((k:Int)+1)=((k+1:Nat):Int):=by rw[Ac];simp
 simp only[SJ,Bool.and_eq_false_iff,Ak,decide_eq_false_iff_not,Awe]at K Q;clear B hq hN Aw;by_cases z:q1<0;rw[K Ux];clear K Q;exact wz (cj6 @M @H @o @R @S @z ACs) W;by_cases a2:10000000<q1;rw[K Ux];clear K Q;exact wz (cj7 @M @H @o @R @S @z @a2 ACs) W;by_cases a3:q2 < -20000;rw[K Ux];clear K Q;exact wz (cj8 @M @H @o @R @S @z @a2 @a3 ACs) W;by_cases a4:20000<q2;rw[K Ux];clear K Q;exact wz (cj9 @M @H @o @R @S @z @a2 @a3 @a4 ACs) W;have Q:=Q Ux;clear K;refine wy (cj9 @M @H @o @R @S @hw @z @a2 @a3<|cj @a4 ACs) trivial ⟨?_⟩;exact⟨⟨k+1,Ux,Q⟩,by simp only;omega,wd 0⟩;obtain rfl:k=N:=Ux;have hg:Zk L=decide ((k:Int)<=64):=by
  rw[Gl Ux]at B;unfold Zk;rw[B,hN,Km];simp only[Awi];omega
 rw[hg];exact wz (cj2 @M @H ACs) W
theorem AtL (AE:List Nd)(b:AA)(P cls sp:List Int)(L:List (Int×Int×Int))(N M:Nat)(k1:AC AF 17 [.agg (HD x)] (.c (.bool I)))(k2:AC AF 18 [Am (Dd AE)] (.c (.bool I)))(k3:AC AF 19 [Aj s] (.c (.bool I)))(hP:AC AF 20 [.c (Cc x.d),.c (.sl (Nd.AG AE))] (.A7 [.c (AV P),AR 0]))(hT:AC AF 21 [.agg (HD x),Am (Dd AE),Aj s] (.A7 [Ao b,AR 0]))(hC:AC AF 22 [.c (Cc x.d),.c (.sl (Nd.AG AE))] (.A7 [.c (AV cls),AR 0]))(hS:AC AF 23 [.agg x.f.vs,.c (Cc x.d),.c (.sl (Nd.AG AE)),Aj s] (.A7 [.c (AV sp),AR 0]))(hF:AC AF 24 [.c (.sl (L.map El))] (.c (.bool (Zk L))))(Ws : ∀c∈b.AE,-1073741824<=c.w/\c.w<=1073741824)(Y2 : ∀v∈sp,-1073741824<=v/\v<=1073741824)(h1:N<=100)(Yq:G AE=N)(hk:G b.AE=N)(hc:G cls=N)(hs:G sp=N)(D2:G L=M)(B8:G P=M)(hM:M<=101)(B2:sp.getD 0 0=0)(Jg : ∀j q,L[j]?=J q->∃p m:Nat,P[j]?=J (p:Int)/\(P++[(N:Int)])[j+1]?=J ((p+(m+1):Nat):Int)/\p+(m+1)<=N/\(j=0->p=0)/\(0<j->0<p)/\q=(ADn (b.AE.map AA.w) sp p (m+1),sp.getD p 0,ATx cls p)):
 AC AF 7 [.agg (HD x),Am (Dd AE),Aj s] (if Zk L=I then .A7 [.c (.sl (L.map El)),.c (AV P),AR 0]else .A7 [.c (.sl []),.c (.sl []),AR 6]):=by
 obtain⟨W,hW⟩:=AI (b.AE.map AA.w);rw[hW]at Jg;have yW : ∀v∈W,-1073741824<=v/\v<=1073741824:=λv z=>by
  rw[<-hW]at z;obtain⟨c,h1,rfl⟩:=Da.1 z;exact Ws c h1
 have bW:=jH yW;have bS:=jH Y2;obtain⟨rs,Aw⟩:=AI (AA.AG b.AE);have Av:G rs=N:=by rw[<-Aw,GA,hk]
 have Bn : ∀j,j<N->∃c:AA,rs[j]?=J c.row/\W.getD j 0=c.w:=λj hj=>by
  obtain⟨c,A9⟩:∃c,b.AE[j]?=J c:=⟨_,BE Ux⟩
  exact⟨c,by rw[<-Aw,Dt,CM,A9];rfl,by rw[<-hW,Bv,CM,A9];rfl⟩
 obtain⟨ns,Fg⟩:=AI (Nd.AG AE);have IJ:G ns=N:=by rw[<-Fg,Zd,Ch,Yq]
 obtain⟨PR,EO⟩:=AI (P.map PX);have K:G PR=M:=by rw[<-EO,Ch,B8]
 obtain⟨CR,Q⟩:=AI (cls.map PX);obtain⟨SR,PE⟩:=AI (sp.map PX);have A0:G CR=N:=by rw[<-Q,Ch,hc]
 have PF:G SR=N:=by rw[<-PE,Ch,hs]
 have B7 : ∀j,j<N->CR[j]?=J [.int .i64 (cls.getD j 0)]:=λj hj=>by
  rw[<-Q,CM,Bv,BE Ux];rfl
 have mH : ∀j,j<N->SR[j]?=J [.int .i64 (sp.getD j 0)]:=λj hj=>by
  rw[<-PE,CM,Bv,BE Ux];rfl
 obtain⟨lv,cr⟩:=s;rw[rS,EO]at hP ⊢;rw[rS,Q]at hC;rw[rS,PE]at hS;simp only[Am,Nd.vs,Aj,Nd.row,Dd,Ap,BB,As,AR,Fg]at k2 k3 hT hP hC hS ⊢;clear hW Fg Q PE Ws Y2 yW hk Yq;refine en AiN Aih ?_;refine wy (cj4 @Av @K @A0 @PF ux) (cj7 k1 k2 k3 hP hT hC hS trivial) ⟨?_⟩;refine AW.le (Le.tL 16 46 3 F) ?_;simp only[BA,BO,Nat.reduceAdd,Ag,Ai,BK,BU];refine CX (ι:={ k:Nat // k<=M }) (λk=>[(16,.gr 4 3 ((L.take k.1).map El)),(17,(k.1:Int))]) (λk=>[O.box 30 (HD x) U,O.box 33 [(1:Int),.c (.str ⟨#[]⟩),(0:Int),.c (.sl ns)] U,O.box 35 [lv,.c (.bool cr)] U,O.box 56 b.vs U,O.tok 46 3 k.1]) (λk=>M - k.1) ⟨0,CI _⟩ ?_ ?_;exact DH;rintro ⟨k,D8⟩;simp only;by_cases S:k<M
 . obtain⟨q,hq⟩:∃q,L[k]?=J q:=⟨_,BE Ux⟩
   obtain⟨p,m,e1,e2,e3,e4,e5,e6⟩:=Jg k q hq;obtain⟨E,hE⟩:=AI (p+(m+1));rw[hE]at e2 e3;have D0:p<E:=Ux;have B0:p<N:=Ux;have G8:PR[k]?=J [.int .i64 (p:Int)]:=by rw[<-EO,CM,e1];rfl
   have H:=gx G8;have ni:k<G PR:=Ux;have hw:AZ.wrap ((k:Int)+1)=((k+1:Nat):Int):=by rw[Ac];simp
   have Im:G ((L.take k).map El)=k:=by rw[Ch,Fa];omega
   have GP:(L.take (k+1)).map El=(L.take k).map El++[El q]:=by rw[UC,hq,Fm];rfl
   have zG:(k+1<M/\PR[k+1]?=J [.int .i64 (E:Int)])\/(¬(k+1<M)/\N=E):=by
    by_cases h:k+1<M;left;rw[EJ Ux]at e2;exact⟨h,by rw[<-EO,CM,e2];rfl⟩;right;rw[Gy Ux,show k+1 - G P=0 by omega]at e2;simp at e2;exact⟨h,Ux⟩
   have hm:m+1=E - p:=Ux;rw[hm]at e6;obtain⟨D,hD⟩:=AI ((L.take k).map El);rw[hD]at Im GP ⊢;have FO:k+1<=maxLen:=by unfold maxLen;omega
   have EX:(k+1)*24<=140737488355328:=Ux;clear Jg EO e1 e2 hE hm hq hD;rcases zG with ⟨g1,g2⟩|⟨g1,g2⟩
   have xe:=gx g2;have g3:k+1<G PR:=Ux;have ff:=(cj9 @S @Av @K @IJ @G8 @H @ni @hw @g1<|cj3 @g2 @xe @g3 ux)
   have cc:=trivial;repeat any_goals (first|refine Du ff cc ⟨?_⟩|exact Bt ff|(refine Dv ff ?_ ?_<;>intro h<;>try exact Dw))
   rotate_left
   have ff:=(cj9 @S @Av @K @IJ @G8 @H @ni @hw @g1<|cj @g2 ux)
   have cc:=trivial;repeat any_goals (first|refine Du ff cc ⟨?_⟩|exact Bt ff|(refine Dv ff ?_ ?_<;>intro h<;>try exact Dw))
   all_goals
    clear g1 g2;refine CX (ι:={ j:Nat // p<=j/\j<=E }) (λj=>[(20,(j.1:Int))]) (λj=>[O.box 30 (HD x) U,O.box 33 [(1:Int),.c (.str ⟨#[]⟩),(0:Int),.c (.sl ns)] U,O.box 35 [lv,.c (.bool cr)] U,O.box 56 b.vs U,O.tok 46 3 k,O.box 46 [(ADn W sp p (j.1 - p):Int),(0:Int),(0:Int)] U]) (λj=>E - j.1) ⟨p,BN _,LZ D0⟩ ?_ ?_;simp only[Nat.sub_self,ADn];exact DH;rintro ⟨j,D1,D7⟩;simp only;by_cases hj:j<E;obtain⟨⟨b0,b1,b2,b3,b4,b5,b6,b7,bk,bo,bs⟩,hr,PC⟩:=Bn j Ux;simp only[AA.row]at hr PC;have PS:=gx hr;have qi:j<G rs:=Ux;have A1:=mH j Ux;have Wh:j<G SR:=Ux;have B:=AtE (W:=W) (sp:=sp) D1;have hb:=AmA bW bS p (j - p);have G5:=bW j;have Fc:=bS j;rw[PC]at B G5;obtain⟨T,hT⟩:=AI (ADn W sp p (j - p));obtain⟨v,z⟩:=AI (sp.getD j 0);rw[hT]at B hb ⊢;rw[z]at B Fc A1;have B3:=gx A1;have w1:AZ.wrap (T+b3)=T+b3:=Ac;have w3:AZ.wrap ((j:Int)+1)=((j+1:Nat):Int):=by rw[Ac];simp
    have w2:AZ.wrap (T+b3+v)=T+b3+v:=Ac;clear hb G5 Fc hT z PC;by_cases h0:j=p;have n1 : ¬(p:Int)<(j:Int):=Ux;rw[Awd h0,Int.add_zero]at B;clear h0;refine wy (cj9 @hj @hr @PS @qi @Av @G8 @H @ni @K<|cj4 @w1 @w3 @n1 @Aw ux) trivial ⟨?_⟩;refine⟨⟨j+1,Ux,Ux⟩,by simp only;omega,?_⟩;simp only[B];exact wd 6;have n1:(p:Int)<(j:Int):=Ux;rw[Awf h0]at B;clear h0;refine wy (cj9 @hj @hr @PS @qi @Av @G8 @H @ni @K<|cj9 @A1 @B3 @Wh @PF @w1 @w2 @w3 @n1 @Aw ux) trivial ⟨?_⟩;refine⟨⟨j+1,Ux,Ux⟩,by simp only;omega,?_⟩;simp only[B];exact wd 6;obtain rfl:j=E:=Ux;have R:=B7 p B0;have o:=mH p B0;have A5:p<G CR:=Ux;have A6:p<G SR:=Ux;generalize hT:ADn W sp p (j - p)=T at e6 ⊢;subst e6;simp only[El]at GP;rcases k with _|k
    have p0:=e4 F;subst p0;rw[B2,show ATx cls 0=0 from rfl]at GP;refine wy (cj5 @hj @Im @FO @EX @hw ux) trivial ⟨?_⟩;refine⟨⟨0+1,Ux⟩,by simp only;omega,?_⟩;simp only[GP];exact wd 5;have p1:=e5 Ux;have k0:(0:Int)<((k+1:Nat):Int):=Ux;have B1 : ¬p=0:=Ux;obtain⟨v,z⟩:=AI (sp.getD p 0);obtain⟨c,NP⟩:=AI (cls.getD p 0);have A2:ATx cls p=if c=3 then 50 else 150:=by unfold ATx;rw[Awf B1,NP]
    rw[z,A2]at GP;rw[z]at o;rw[NP]at R;have A8:=gx o;have A3:=gx R;clear z NP A2 B1;by_cases c3:c=3;rw[Awd c3]at GP;refine wy (cj9 @hj @Im @FO @EX @hw @k0 @G8 @H @ni<|cj9 @K @o @A8 @A6 @PF @R @A3 @A5 @A0<|cj @c3 ux) trivial ⟨?_⟩;refine⟨⟨k+1+1,Ux⟩,by simp only;omega,?_⟩;simp only[GP];exact wd 5;rw[Awf c3]at GP;refine wy (cj9 @hj @Im @FO @EX @hw @k0 @G8 @H @ni<|cj9 @K @o @A8 @A6 @PF @R @A3 @A5 @A0<|cj @c3 ux) trivial ⟨?_⟩;refine⟨⟨k+1+1,Ux⟩,by simp only;omega,?_⟩;simp only[GP];exact wd 5
 obtain rfl:k=M:=Ux;rw[Gl Ux];cases hg:Zk L with
 | false=>rw[hg]at hF;rw[Awf ZA];exact wz (cj2 @S @K ux) (cj hF<|trivial)
 | true=>rw[hg]at hF;rw[Awd rfl];exact wz (cj2 @S @K ux) (cj hF<|trivial)
theorem AtK (hf:x.f.Fit)(hl:G x.d<=300)(DS : ∀e∈x.d,e.text.size<=maxLen)(hn:n.BX)(hc:n.cnt<=80):AC AF 7 [.agg (HD x),Am n,Aj s] (gm x s n):=by
 have k1:=AjX x hf Ux DS;have R:=Ajx n hn Ux;have k3:=AAA s;have K:=AmU x n s hf hl DS hn hc;have A5:(Dd n.AE).BX:=by cases n;exact⟨ZB,hn.2⟩
 have FX:(Dd n.AE).cnt=n.cnt:=by cases n;rfl
 have H:=AtD x.d n.AE Ux DS A5 Ux;have hg:(x.Bj s && n.Ad)=((x.f.valid && Ll x.d) && (s.ok && n.Ad)):=by unfold Af.Bj;cases x.f.valid<;>cases Ll x.d<;>simp
 cases S:(x.f.valid && Ll x.d) && (s.ok && n.Ad)with
 | false =>
   have hV:gm x s n=gO 1:=by unfold gm;rw[hg,S,Awd rfl]
   rw[hV];unfold gO;obtain⟨DV,o⟩:=AI ((x.f.valid && Ll x.d));obtain⟨NV,z⟩:=AI n.Ad;obtain⟨SV,jX⟩:=AI s.ok;rw[o]at k1 S;rw[z]at R S;rw[jX]at k3 S;clear o z jX K H A5 FX hg hV;obtain⟨kd,t,c,B⟩:=n;obtain⟨lv,cr⟩:=s;simp only[Am,Nd.vs,Aj,Nd.row,Ap,BB,AR]at R k3 ⊢;cases DV<;>cases NV<;>cases SV;all_goals try exact absurd S ZB
   all_goals
    clear S;refine en AiN Aih ?_;exact wz ux (cj3 k1 R k3 W)
 | true =>
   have hb:=S;rw[S]at hg;simp only[Ak]at hb;obtain⟨o,jX,z⟩:=hb;have PV:=z;unfold Nd.Ad at PV;simp only[Ak,Awe]at PV;obtain⟨B,j8⟩:∃B,n=Dd B:=⟨n.AE,ABc PV.2.1 PV.1⟩
   subst j8;have H:AC AF 20 [.c (Cc x.d),.c (.sl (Nd.AG B))] (W4 (XL x.d B)):=H;have A5:(Dd B).BX:=A5;rw[show (x.f.valid && Ll x.d)=I by simp[o]]at k1;rw[z]at R;rw[jX]at k3;by_cases hp:(XL x.d B).2=0;have h0:B≠[]:=AmO (d:=x.d) Ux;have JJ : ¬G B=0:=λh=>h0 (Nr h)
   have c1:O2 x.d B=(I6 (JP x.d B),0):=by unfold O2;rw[Awf (by rw[o.2,z];simp)]
   have c2:XL x.d B=(FZ (I6 (JP x.d B)) (G B),0):=by
    unfold XL;rw[c1,Awf ZA,Awf JJ]
   have A2:Ob x s [] (Dd B)=outT (GU x s [] (Dd B)):=by
    unfold Ob;rw[hg,Awf ZA,show Sd [] 0=I from rfl,Awf ZA]
   have hV:gm x s (Dd B)=match GU x s [] (Dd B)with
    | none=>gO 6
    | some b=>if Zk (dx x (Dd B) s b)=I then .A7 [.c (.sl ((dx x (Dd B) s b).map El)),.c (AV (FZ (I6 (JP x.d B)) (G B))),AR 0]else gO 6:=by
    have wX:XL x.d (Dd B).AE=(FZ (I6 (JP x.d B)) (G B),0):=c2;unfold gm;rw[hg,Awf ZA,wX,Awf ZA];try (cases GU x s [] (Dd B)<;>rfl)
   rw[hV];rw[A2]at K;rw[c2]at H;unfold W4 at H;simp only at H;clear hV A2 c2 hp S;cases Av:GU x s [] (Dd B)with
   | none=>rw[Av]at K;unfold gO;unfold outT at K;clear c1 Av;obtain⟨PC,Ut⟩:=AI (AV (FZ (I6 (JP x.d B)) (G B)));rw[Ut]at H;clear Ut;obtain⟨lv,cr⟩:=s;simp only[Am,Nd.vs,Aj,Nd.row,Dd,Ap,BB,Ao,AR,AA.zero,AA.row,AA.AG]at R k3 K H ⊢;rw[show AV []=.sl []from rfl]at K;obtain⟨ns,Fg⟩:=AI (Nd.AG B);rw[Fg]at R K H ⊢;clear Fg A5 h0 JJ PV z jX o hg FX;refine en AiN Aih ?_;exact wz ux (cj5 k1 R k3 H K W)
   | some b =>
     rw[Av]at K;have hx:x.Ok:=⟨hf,o.1,hl,o.2⟩
     have hC:=Amc x.d B Ux DS A5 Ux;have hS:=Ank x s B hx jX A5 Ux z;rw[c1]at hC;unfold W4 at hC;simp only at hC;obtain⟨A,hA⟩:=ANG Av;have DJ:G (x.CC s B)=G B:=by unfold Af.CC;rw[fF,ef,Zh]
     have Ce:G b.AE=G B:=by rw[<-hA.len];exact DJ
     have DK:G (I6 (JP x.d B))=G B:=by rw[ef,Zh]
     have Ws : ∀c∈b.AE,-1073741824<=c.w/\c.w<=1073741824:=λc A3=>by
      obtain⟨k,hk⟩:=List.getElem?_of_mem A3;have A6:=(Br.1 hk).1;obtain⟨c',v,h3,_,_,_,_,_,_,h4⟩:=hA.Ea k A6;rw[hk]at h3;cases h3;exact(Mq h4).1
     have Y2 : ∀v∈x.CC s B,-1073741824<=v/\v<=1073741824:=λv zx=>by
      have:=ES.1 (ALD hx jX B) v zx;simpa [An]using this
     have A8:G B<=80:=by
      have:=SH B;have h2:=rY B;omega
     obtain⟨M,hM⟩:∃M,G B=M+1:=⟨G B - 1,Ux⟩
     have A0:(x.CC s B).getD 0 0=0:=AZA _ _ _;have Q : ∀k,k<G B->A (k+1)=A k+(x.CC s B).getD k 0+(b.AE.map AA.w).getD k 0:=λk hk=>by
      obtain⟨c',v,h3,h4,h5,_,_,_,h6,_⟩:=hA.Ea k Ux;have h4:(x.CC s B)[k]?=J v:=h4;rw[Bv,h4,Bv,CM,h3];simp only[Nu,Dm];omega
     have cG:=AJV (cls:=I6 (JP x.d B)) hA.a0 A0 Q M Ux;have Io:G (dx x (Dd B) s b)=G (FZ (I6 (JP x.d B)) (G B)):=by
      show G (Ni _ _ _ (G B - 1))=_;rw[AJR,hM];rfl
     have Ed:=AJi (I6 (JP x.d B)) (G B);refine AtL x s B b (FZ (I6 (JP x.d B)) (G B)) (I6 (JP x.d B)) (x.CC s B) (dx x (Dd B) s b) (G B) _ k1 R k3 H K hC hS (AtH _ Ux) Ws Y2 Ux rfl Ce DK DJ rfl Io.symm Ux A0 λj q hq=>?_
     have e:dx x (Dd B) s b=Ni (I6 (JP x.d B)) (b.AE.map AA.w) (x.CC s B) M:=by
      show Ni _ _ _ (G B - 1)=_;rw[hM];rfl
     rw[e]at hq;rw[<-hM]at cG;exact As5 hM Q cG j q hq
   have hV:gm x s (Dd B)=gO (XL x.d B).2:=by
    have U7:(XL x.d (Dd B).AE).2≠0:=hp;unfold gm;rw[hg,Awf ZA,Awd U7];rfl
   rw[hV];unfold gO;obtain⟨⟨PL,e⟩,A1⟩:=AI (XL x.d B);rw[A1]at H hp ⊢;unfold W4 at H;simp only at H hp ⊢;obtain⟨PC,Ut⟩:=AI (AV PL);rw[Ut]at H;obtain⟨lv,cr⟩:=s;simp only[Am,Nd.vs,Aj,Nd.row,Dd,Ap,BB,AR]at R k3 H ⊢;obtain⟨ns,Fg⟩:=AI (Nd.AG B);rw[Fg]at R H ⊢;clear Fg Ut A1 hV A5 PV z jX o hg FX K S;refine en AiN Aih ?_;exact wz (cj @hp<|ux) (cj4 k1 R k3 H W)
theorem As6 (hf:x.f.Fit)(hl:G x.d<=maxLen)(DS : ∀e∈x.d,e.text.size<=maxLen)(hn:n.BX):AC AF 3 [.agg (HD x),Am n,Aj s] (.c (.bool I)):=by
 have h0:=As2;have h1:=APU x n 40 hf hl hn Ux Ux;cases hfw:jA x n 40 with
 | false=>rw[hfw]at h1;obtain⟨z,t,c,Q⟩:=n;obtain⟨lv,o⟩:=s;simp only[Am,Nd.vs,Aj,Nd.row,Ap,BB]at h1 ⊢;refine en AQj ntmps3 ?_;exact wz HH (cj2 h0 h1 W)
 | true =>
   rw[hfw]at h1;unfold jA at hfw;simp only[Ak,Awe]at hfw;have h2:=AtK x n s hf hfw.2.1 DS hn Ux;rcases As7 x n s hf hfw.2.1 DS hn (by omega)with ⟨e,he,K,hE,h3⟩|⟨b,L,P,hr,hH,hD,h3⟩
   rw[As8 K,<-hE]at h2;clear hE K;have h5:=AkY [] ZA;rw[show AV []=.sl []from rfl]at h5;unfold gO at h2;obtain⟨z,t,c,Q⟩:=n;obtain⟨lv,o⟩:=s;simp only[Am,Nd.vs,Aj,Nd.row,Ap,BB,AR]at h1 h2 h3 ⊢;refine en AQj ntmps3 ?_;refine wy (cj @he<|HH) (cj5 h0 h1 h2 h3 h5 W) ⟨?_⟩;with_reducible refine LA.loop (LA.round ?_)
   exact wz (cj @he<|HH) W
   . rw[As9 hD hH]at h2;clear hr hD;obtain⟨k1,k2,k3,k4,k5⟩:=hH;have h5:=AkY P Ux;clear k3 k4 k5;obtain⟨N,K⟩:=AI (G L);obtain⟨PC,Ut⟩:=AI (AV P);obtain⟨R,S⟩:=AI (L.map El);have B:G R=N:=by rw[<-S,Ch,K]
     rw[Ut]at h2 h3 h5;rw[S]at h2 h3;clear Ut k1;obtain⟨lv,o⟩:=s;obtain⟨z,t,c,Q⟩:=n;simp only[Am,Nd.vs,Aj,Nd.row,Ap,BB,AR]at h1 h2 h3 ⊢;generalize Fg:Nd.AG Q=ns at h1 h2 h3 ⊢;refine en AQj ntmps3 ?_;refine wy (cj @B<|HH) (cj5 h0 h1 h2 h3 h5 W) ⟨?_⟩;refine CX (ι:={ k:Nat // k<=N }) (λk=>[(13,(k.1:Int))]) (λ_=>[O.box 30 (HD x) U,O.box 33 [z,.c (.str t),c,.c (.sl ns)] U,O.box 35 [lv,.c (.bool o)] U]) (λk=>N - k.1) ⟨0,CI _⟩ ?_ ?_;exact DH;rintro ⟨k,hk⟩;simp only;by_cases hlt:k<N
     . obtain⟨⟨q1,q2,q3⟩,hq⟩:∃q,L[k]?=J q:=⟨_,BE Ux⟩
       have M:R[k]?=J [.int .i64 q1,.int .i64 q2,.int .i64 q3]:=by rw[<-S,CM,hq];rfl
       have Bu:=gx M;have Ce:k<G R:=Ux;have hw:AZ.wrap ((k:Int)+1)=((k+1:Nat):Int):=by rw[Ac];simp
       refine wu (.mk 12) (cj2 @hlt @B HH) trivial ⟨?_⟩;refine AW.Lm Fz (.inl F) ?_;refine TW.take 8 (Es (by simp[M,Bu,Ce,hlt,B];first|exact rfl|exact⟨F,F⟩|exact⟨F,F,F⟩) (HI ?_));simp only[CU,B9];refine TW.op ⟨.c (.bool U),E,E⟩ rfl (by intro k ob h;cases h) (λS0 w0 x a w' H g hop M=>?_) ?_
       . have hY:=hop (.tmp 64) (by simp[Bl]);have hZ:=hop (.tmp 68) (by simp[Bl]);simp only[ev,List.getD_cons_succ,List.getD_cons_zero,CV,AO,Ab]at hY hZ;obtain⟨vs,v1,_,_,Ml,⟨rfl,_⟩,_,_,rfl,⟨rfl,_⟩,_,_,rfl,⟨rfl,_⟩,rfl⟩:=hY;obtain⟨Bz,v2,_,_,dM,⟨rfl,_⟩,_,_,rfl,⟨rfl,_⟩,_,_,rfl,⟨rfl,_⟩,rfl⟩:=hZ;have u1:vs=#[.int .i64 q1,.int .i64 q2,.int .i64 q3]:=Gx.1 Ml;have u2:Bz=#[.int .i64 q1,.int .i64 q2,.int .i64 q3]:=Gx.1 dM;subst u1 u2;refine BW.pure g (u:=.bool U) ?_ (by simp only[CV,Ab]);simp only[execOp,v1,v2];go_simp
       simp only[St.step,St.put,Bk,BA,BO,Nat.reduceAdd,Nat.reduceLT,Awg,Ag,Ai,BU,BK,CU,B9];refine TW.nil ⟨ZC,?_⟩;refine wy (cj @hw<|HH) trivial ⟨?_⟩;exact⟨⟨k+1,Ux⟩,by simp only;omega,wd 3⟩
     obtain rfl:k=N:=Ux;exact wz (cj2 @hlt @B HH) W
end Go.Proofs.YtegconioojpgmaaGreat
