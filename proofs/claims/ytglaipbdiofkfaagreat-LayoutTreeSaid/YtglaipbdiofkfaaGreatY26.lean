/- Part of the proof of some laws. Conditions: none. -/
import Derived.Test.YtglaipbdiofkfaaGreatY23
import Derived.Test.YtglaipbdiofkfaaGreatY24
set_option linter.unusedVariables false
set_option linter.unusedSimpArgs false
set_option maxRecDepth 100000
set_option maxHeartbeats 16000000
open Go.Proofs.Tryz renaming prog→AF,func10→AHZ,ntmps10→ALO,results10→US,results131→nY,results194→Abf,results126→Xq,func192→AQR,ntmps192→AQ0,results192→ADI,func125→M9,results125→AbS,func218→AQV,ntmps218→AQ4,results218→AR7,func196→AAg,func65→Su,func198→AHu
open Bool renaming and_eq_true→Ak,or_false→lz,or_eq_true→T9
open List renaming map_cons→Ap,map_nil→BB,take_of_length_le→Gl,any_cons→mP,any_nil→mQ,getElem?_eq_getElem→BE,getElem?_eq_none→M6,foldl_cons→Bw,foldl_nil→CO,set_cons_zero→Ag,set_cons_succ→Ai,length_cons→BA,length_nil→BO,cons_append→BK,nil_append→BU,take_zero→ET,length_take→Fa,all_eq_true→ES,replicate→Aq,length_replicate→H6
open Nat renaming zero_le→CI,le_of_not_lt→Hq,le_refl→BN,le_of_ble_eq_true→F2,succ_mul→uc
open Option renaming getD_none→Hr,isSome_none→H8,getD_some→Dm,isSome_some→IZ
open Go.IntKind renaming i64→AZ
open Int renaming mul_le_mul_of_nonneg_left→aF
open Array renaming length_toList→FW
open Option.some renaming inj→ML
open Option renaming some→J
open Bool renaming false→U,true→I
open List renaming length→G
namespace Go.Proofs.YtglaipbdiofkfaaGreat
open Go.RowKit Tryz
variable (x:Af)(n:Nd)(s:Aa)
def O1 (e:Int):V:=.A7 [Ao AA.zero,AR e]
def Af.Bj (x:Af)(s:Aa):Bool:=x.f.valid && (Ll x.d && s.ok)
def Ob (x:Af)(s:Aa)(src:List Int)(n:Nd):V:=if (x.Bj s && n.Ad)=U then O1 1 else if Sd src 0=U then O1 2 else outT (GU x s src n)
theorem AUP (src:List Int)(s:Aa)(hf:x.f.Fit)(hl:G x.d<=300)(DS : ∀e∈x.d,e.text.size<=maxLen)(hn:n.BX)(hc:n.cnt<=80)(DJ:G src<=maxLen):AC AF 10 [.agg x.f.vs,.c (Cc x.d),Am n,.c (AV src),Aj s] (Ob x s src n):=by
 have B:=AIR x s hl DS;have Q:=ABQ n hn (by omega);have H:=AIP src DJ 0 (.inl F);have M:x.Bj s=I->n.Ad=I->Sd src 0=I->AC AF 22 [.fn 23 [.cp x.f.row 0,.cp [Cc x.d] 0,.cp n.row 0,.cp [AV src] 0,.cp [.int .i64 s.By,.bool s.Hd] 0]] (outT (GU x s src n)):=λq S K=>by
  unfold Af.Bj at q;simp only[Ak]at q;unfold Nd.Ad at S;simp only[Ak,decide_eq_true_eq]at S;unfold Sd at K;simp only[Ak,decide_eq_true_eq]at K;have hx:x.Ok:=⟨hf,q.1,hl,q.2.1⟩
  exact AEg _ _ _ (AOQ x n src s _ hx λm=>(AKX x m n).1 src s ⟨hx,q.2.2,S.1,S.2.1,hn,hc,S.2.2.2,⟨K.1,K.2.2,by omega⟩⟩) (by decide)
 change AC _ _ _ (.c (.bool (x.Bj s)))at B;obtain⟨OV,jR⟩:=AI (x.Bj s);obtain⟨NV,jQ⟩:=AI n.Ad;obtain⟨SV,jX⟩:=AI (Sd src 0);obtain⟨o,ho⟩:=AI (GU x s src n);unfold Ob;rw[jR]at B M ⊢;rw[jQ]at Q M ⊢;rw[jX]at H M ⊢;rw[ho]at M ⊢;clear jR jQ jX ho;obtain⟨f,d⟩:=x;obtain⟨kd,t,c,AE⟩:=n;obtain⟨lv,cr⟩:=s;simp only[Am,Nd.vs,Aj,Nd.row]at B Q H M ⊢;cases OV with
 | false=>refine en AHZ ALO ?_;refine wy US (cj3 B Q H W) ⟨?_⟩;exact At (cj8 US @O1.eq_1 @Ao.eq_1 @AR.eq_1 @AA.zero.eq_1 @AA.row.eq_1 @AA.AG.eq_1 @AA.AG.eq_2 @AV.eq_1)
 | true =>
   cases NV with
   | false=>refine en AHZ ALO ?_;refine wy US (cj3 B Q H W) ⟨?_⟩;exact At (cj8 US @O1.eq_1 @Ao.eq_1 @AR.eq_1 @AA.zero.eq_1 @AA.row.eq_1 @AA.AG.eq_1 @AA.AG.eq_2 @AV.eq_1)
   | true =>
     cases SV with
     | false=>refine en AHZ ALO ?_;refine wy US (cj3 B Q H W) ⟨?_⟩;exact At (cj8 US @O1.eq_1 @Ao.eq_1 @AR.eq_1 @AA.zero.eq_1 @AA.row.eq_1 @AA.AG.eq_1 @AA.AG.eq_2 @AV.eq_1)
     | true =>
       have R:=M rfl rfl F;obtain⟨sr,K⟩:=AI (AV src);rw[K]at R H ⊢;clear M K;cases o with
       | none=>refine en AHZ ALO ?_;refine wu (.mk 5) US (cj3 B Q H W) ⟨?_⟩;refine Cn 0 ?_;refine Cn 1 ?_;refine Cn 2 ?_;refine Cn 3 ?_;refine Cn 4 ?_;simp only[outT,Ao,AR,AA.zero,AA.row,AA.AG,AV,Ap,BB]at R;refine wy US (cj R<|trivial) ⟨?_⟩;exact At (cj9 US @outT.eq_1 @outT.eq_2 @Ao.eq_1 @AR.eq_1 @AA.zero.eq_1 @AA.row.eq_1 @AA.AG.eq_1 @AA.AG.eq_2 @AV.eq_1)
       | some bx=>obtain⟨b0,b1,b2,b3,b4,b5,b6,b7,bk,bo,bs⟩:=bx;simp only[outT,Ao,AR,AA.row,Ap,BB]at R;obtain⟨A0,z⟩:=AI (AA.AG bk);obtain⟨A1,OD⟩:=AI (AV bs);rw[z,OD]at R;refine en AHZ ALO ?_;refine wu (.mk 5) US (cj3 B Q H W) ⟨?_⟩;refine Cn 0 ?_;refine Cn 1 ?_;refine Cn 2 ?_;refine Cn 3 ?_;refine Cn 4 ?_;refine wy US (cj R<|trivial) ⟨?_⟩;exact At (cj7 US @outT.eq_1 @outT.eq_2 @Ao.eq_1 @AR.eq_1 @AA.row.eq_1 @z @OD)
def HD (x:Af):List V:=x.f.vs++[.c (Cc x.d)]
@[simp] theorem Ach :G (HD x)=23:=by simp[HD]
@[simp] theorem Acf :(HD x).all V.one=true:=by simp[HD,V.one]
@[simp] theorem Ack :(HD x).take 23=HD x:=Gl (by simp)
@[simp] theorem Ace :(HD x).take 22=x.f.vs:=by rfl
@[simp] theorem Acd :(HD x)[22]?=J (.c (Cc x.d)):=by rfl
@[simp] theorem Acg (h:22<G (HD x)):(HD x)[22]=.c (Cc x.d):=F
@[simp] theorem Aci :V.CF (HD x)=J (HD x):=by
 have:HD x=(x.f.row++[Cc x.d]).map V.c:=by rfl
 rw[this];exact Zq _
@[simp] theorem Acj (cs:List V)(h:G cs=23):E8 cs 0 (HD x)=HD x:=kz (by simp[h])
@[simp] theorem Acb (n:Nat):V.BI n (HD x)=true:=by simp[HD,AP.vs,AP.row,Params.list,V.BI,V.A8]
theorem AKU (src:List Int)(n:Nd):∃b e,Ob x s src n=.A7 [Ao b,AR e]:=by
 unfold Ob O1 outT;split;exact⟨_,_,F⟩;split;exact⟨_,_,F⟩;split;exact⟨_,_,F⟩;exact⟨_,_,F⟩
theorem AAc (z:x.f.Fit)(hl:G x.d<=300)(M : ∀e∈x.d,e.text.size<=maxLen)(hn:n.BX)(q:n.cnt<=80):AC AF 7 [.agg x.f.vs,.c (Cc x.d),Am n,Aj s] (Ob x s [] n):=by
 have h:=AUP x n [] s z hl M hn q (CI _);obtain⟨b,e,K⟩:=AKU x s [] n;rw[K]at h ⊢;obtain⟨b0,b1,b2,b3,b4,b5,b6,b7,Q,bo,S⟩:=b;simp only[Ao,AR,AA.row,Ap,BB]at h ⊢;obtain⟨R,B⟩:=AI (AA.AG Q);obtain⟨o,H⟩:=AI (AV S);rw[B,H]at h ⊢;clear B H K;obtain⟨kd,t,c,AE⟩:=n;obtain⟨lv,cr⟩:=s;simp only[Am,Nd.vs,Aj,Nd.row,AV,BB]at h ⊢;refine en func7 ntmps7 ?_;exact wz results7 (cj h<|trivial)
def jA (x:Af)(n:Nd)(m:Int):Bool:=O6 x.f && (decide (G x.d<=300) && decide ((n.cnt:Int)<=m))
theorem APU (m:Int)(z:x.f.Fit)(hl:G x.d<=maxLen)(hn:n.BX)(hm:0<=m)(q:m<=100000):AC AF 6 [.agg (HD x),Am n,.c (.int .i64 m)] (.c (.bool (jA x n m))):=by
 have H:=APV x.f z.gl;have B:=AXo n m hn hm q;unfold jA;obtain⟨o,Q⟩:=AI (O6 x.f);obtain⟨B2,S⟩:=AI (decide ((n.cnt:Int)<=m));rw[Q]at H ⊢;rw[S]at B ⊢;clear Q S;have M:decide (G x.d<=300)=decide ((G x.d:Int)<=300):=by simp;omega
 rw[M];have R:(Cc x.d)=.sl (x.d.map En.row):=F;obtain⟨kd,t,c,AE⟩:=n;simp only[Am,Nd.vs,Nd.row]at B ⊢;cases o with
 | false=>refine en func6 ntmps6 ?_;exact wz results6 (cj2 H B W)
 | true =>
   by_cases K:(G x.d:Int)<=300;rw[decide_eq_true K];refine en func6 ntmps6 ?_;exact wz (cj2 @R @K results6) (cj2 H B W);rw[decide_eq_false K];refine en func6 ntmps6 ?_;exact wz (cj2 @R @K results6) (cj2 H B W)
theorem AkN {name:ByteArray}(B:NY N0 name=I):name.size<=16:=by
 simp only[NY,N0,mP,mQ,lz,T9,decide_eq_true_eq]at B;rcases B with h|h|h|h|h|h<;>(subst h;decide)
theorem Amd (name:ByteArray)(h:NY N0 name=I):AC AF 206 [.c (.str name)] (.c (.bool I)):=by
 simp only[NY,N0,mP,mQ,lz,T9,decide_eq_true_eq]at h;rcases h with h|h|h|h|h|h
 all_goals
  subst h;refine en func206 ntmps206 ?_;have B:=(cj @AR.eq_1<|results206)
  have H:=W;repeat any_goals (first|refine Du B H ⟨?_⟩|exact Bt B|(with_reducible refine LA.loop (LA.round ?_))|(with_reducible refine LA.round ?_)|(refine Dv B ?_ ?_<;>intro h<;>try exact Dw))
theorem Amg (f:AP)(b:AA)(R:f.Fit)(q:f.valid=I)(hb:b.Ad=I):AC AF 207 [.agg f.vs,Ao b] (.c (.int .i64 (atR f b))):=by
 have B:=AYO b;have S:=x6 b.w;have e:atR f b=match b.simp with|some g=>AU (f.pick g.name).attach g.size|none=>Bm b.w:=F
 rw[e];rw[As]at *
 unfold AAB at B;cases M:b.simp with
 | none=>rw[M]at B;simp only[Hr,H8]at B;refine en func207 ntmps207 ?_;exact wz (cj2 @AR.eq_1 @Fl results207) (cj2 B S W)
 | some g=>obtain⟨z1,z2⟩:=tA hb M;rw[M]at B;simp only[Dm,IZ]at B;have K:=AP2 f g.name R.1;have Q:=Ql q g.name;unfold BG.Small at Q;have H:=ee (n:=(f.pick g.name).attach) (p:=g.size) (by omega) (by omega) (by omega) (by omega);simp only;obtain⟨k,n,sz,w,h,d,x,y,z,o,src⟩:=g;simp only at K H ⊢;generalize hG:f.pick n=G at K H ⊢;simp only[AA.vs,AA.row,Ap,BB]at B;simp only[Hg,BG.row,Ap,BB]at K;refine en func207 ntmps207 ?_;exact wz (cj @AR.eq_1<|results207) (cj3 B K H W)
theorem AnD (f:AP)(s:Aa)(name:ByteArray)(R:f.Fit)(Q:f.valid=I)(S:s.ok=I):AC AF 208 [.agg f.vs,Aj s,.c (.str name)] (.c (.int .i64 (AU (f.pick name).attach (BS f.params s)))):=by
 obtain⟨z,p2⟩:=HE Q S;have H:=x7 f s;have K:=AP2 f name R.1;have M:=Ql Q name;unfold BG.Small at M;have B:=ee (n:=(f.pick name).attach) (p:=BS f.params s) (by omega) (by omega) (by omega) (by omega);generalize q:BS f.params s=P at H B ⊢;generalize o:f.pick name=G at K B ⊢;simp only[Hg,BG.row,Ap,BB]at K;unfold Aj at H ⊢;refine en func208 ntmps208 ?_;exact wz (cj @AR.eq_1<|results208) (cj3 K H B W)
theorem AkR {f:AP}{b:AA}(K:f.valid=I)(hb:b.Ad=I): -1073741824<=atR f b/\atR f b<=1073741824:=by
 unfold atR;split;rename_i g H;obtain⟨Q,R⟩:=tA hb H;unfold AU;split;rename_i M;have B:=Ql K g.name;unfold BG.Small at B;have:=Qh (f.pick g.name).attach g.size 20000 1000 (by omega) (by omega) (by omega) (by omega);unfold Ea;split<;>omega;omega;exact J6 _
theorem AnM (f:AP)(s:Aa)(b:AA)(q:f.valid=I)(o:s.ok=I)(hb:b.Ad=I):AC AF 209 [.agg f.vs,Aj s,Ao b] (.c (.int .i64 (Vx f s b))):=by
 obtain⟨bw,bh,bd,bn⟩:=D3 hb;obtain⟨p1,z⟩:=HE q o;have B:=Jp f s f.params.RO;have M:=DM (p:=BS f.params s) f.params.RO (by omega) z;have R:Vx f s b=b.h - mn b.h (AU f.params.RO (BS f.params s)):=F;rw[R];generalize hA:AU f.params.RO (BS f.params s)=A at B M ⊢;have K:(if A<b.h then A else b.h)=mn b.h A:=F;have Q : -1073741824<=mn b.h A/\mn b.h A<=1073741824:=by rw[show mn b.h A=min b.h A by unfold mn;omega];omega
 generalize mY:mn b.h A=H at K Q ⊢;have S:AZ.wrap (b.h - H)=b.h - H:=Ac;unfold Aj at *
 rw[As];refine en func209 ntmps209 ?_;exact wz (cj2 @K @S results209) (cj B<|trivial)
theorem Ame (f:AP)(s:Aa)(name:ByteArray)(b:AA)(hf:f.Fit)(H:f.valid=I)(ho:s.ok=I)(hb:b.Ad=I)(ob:b.BX)(hn:NY N0 name=I):AC AF 129 [.agg f.vs,Aj s,.c (.str name),Ao b] (Ba (C8 (al f s name b (DB f name (BS f.params s)).1))):=by
 obtain⟨bw,bh,bd,bn⟩:=D3 hb;obtain⟨p1,p2⟩:=HE H ho;have Yl:=pe f s [b] hf (by intro x hx;rw[List.mem_singleton]at hx;subst hx;exact⟨ob,by omega⟩) (by simp);rw[vh H ho (by simp[hb])]at Yl;have C9:=Amd name hn;have o:=AQA f name (BS f.params s) hf.1;obtain⟨sg,sk,sc⟩:=lQ H p1 p2 (AkN hn);have gj:=(Pk H p1 p2 name).1;have IN:(DB f name (BS f.params s))=((DB f name (BS f.params s)).1,0):=by rw[gj]
 rw[IN]at o;have A2:=x7 f s;have cG:=Amg f b hf H hb;have A4 : -1073741824<=atR f b/\atR f b<=1073741824:=AkR H hb;have K:=AnD f s name hf H ho;have z8:=DM (p:=BS f.params s) (f.pick name).attach (by omega) p2;have Yz:=AnM f s b H ho hb;obtain⟨S,hS⟩:=AI ((DB f name (BS f.params s)).1);rw[hS]at o sg ⊢;have eB:al f s name b S=Bf (mx (mx 0 (Vy f s name b+S8 f s name b+S.w)) (S8 f s name b+b.w)) (mx b.h (Vx f s b+S.h)) (mx b.d (S.d - Vx f s b)) [S.AS (Vy f s name b+S8 f s name b) (Vx f s b),b.AS (S8 f s name b) 0]:=F;have Q:Vy f s name b=atR f b - AU (f.pick name).attach (BS f.params s):=F;have q:S8 f s name b=mx 0 (-(Vy f s name b)):=F;have bU : -2147483648<=Vx f s b/\Vx f s b<=2147483648:=by
  have bA:=DM (p:=BS f.params s) f.params.RO (by omega) p2;unfold Vx;rw[show ∀a b:Int,mn a b=min a b from λa b=>by unfold mn;omega];omega
 rw[eB];clear eB;obtain⟨X,hX⟩:=AI (Vy f s name b);obtain⟨M,hM⟩:=AI (S8 f s name b);obtain⟨U,hU⟩:=AI (Vx f s b);rw[hX]at Q q ⊢;rw[hM]at q ⊢;rw[hU]at Yz bU ⊢;obtain⟨P,hP⟩:=AI (BS f.params s);rw[hP]at o A2 K z8 Q p1 p2;obtain⟨AT,gJ⟩:=AI (AU (f.pick name).attach P);obtain⟨AB,gF⟩:=AI (atR f b);rw[gJ]at K z8 Q;rw[gF]at cG A4 Q;have fX:AB - AT=X:=Q.symm;have fM:(if X<0 then -X else 0)=M:=by rw[q];unfold mx;split<;>split<;>omega
 have bX : -2147483648<=X/\X<=2147483648:=by omega
 have bM:0<=M/\M<=2147483648:=by rw[q,DU];omega
 clear hX hM hU hP gJ gF hS IN gj Q q;obtain⟨sd,so,sf,A3,uv,uw,nk,nl,ux,vB⟩:=sg;have a0:=AKJ S (X+M) U;have a1:=AKJ b M 0;have fW:(if mx 0 (X+M+S.w)<M+b.w then M+b.w else mx 0 (X+M+S.w))=mx (mx 0 (X+M+S.w)) (M+b.w):=F;have WM:(if 0<X+M+S.w then X+M+S.w else 0)=mx 0 (X+M+S.w):=F;have z:(if b.h<U+S.h then U+S.h else b.h)=mx b.h (U+S.h):=F;have fD:(if b.d<S.d - U then S.d - U else b.d)=mx b.d (S.d - U):=F;obtain⟨E0,h0⟩:=AI (mx 0 (X+M+S.w));rw[h0]at fW WM ⊢;obtain⟨E1,h1⟩:=AI (mx E0 (M+b.w));obtain⟨E2,h2⟩:=AI (mx b.h (U+S.h));obtain⟨E3,h3⟩:=AI (mx b.d (S.d - U));rw[h1]at fW ⊢;rw[h2]at z ⊢;rw[h3]at fD ⊢;clear h0 h1 h2 h3;have R:=aY E1 E2 E3 [S.AS (X+M) U,b.AS M 0] (by simp);have Ct:=Xn (Bf E1 E2 E3 [S.AS (X+M) U,b.AS M 0]) ⟨(CI _:0<=maxLen),(CI _:0<=maxLen),F4 _ _ so,F4 _ _ ob,trivial⟩ (by simp only[Bf,AA.cnt,AA.Az,Hb];omega);obtain⟨Z,hZ⟩:=AI (Bf E1 E2 E3 [S.AS (X+M) U,b.AS M 0]);rw[hZ]at R Ct ⊢;obtain⟨A0,m0⟩:=AI (S.AS (X+M) U);obtain⟨A1,m1⟩:=AI (b.AS M 0);rw[m0]at a0 R;rw[m1]at a1 R;obtain⟨DZ,Kx⟩:=AI (C8 Z);rw[Kx]at Ct ⊢;clear Kx m0 m1 hZ;unfold Aj at *
 simp only[AA.AG,As,AR,Ba]at o R Ct Yl cG Yz a0 a1 ⊢;refine en func129 ntmps129 ?_;have B:=(cj9 @fX @fM @fW @WM @z @fD @Ba.eq_1 @As @AR.eq_1<|cj @Fl results129)
 repeat any_goals (first|refine Eo ?_|exact Bt B|refine De B ?_|refine BV B (Yl) ?_|refine BV B (C9) ?_|refine BV B (A2) ?_|refine BV B (o) ?_|refine BV B (cG) ?_|refine BV B (K) ?_|refine BV B (Yz) ?_|refine BV B (a0) ?_|refine BV B (a1) ?_|refine BV B (R) ?_|refine BV B (Ct) ?_|refine DI B ?_|((first|refine JC B ?_ ?_|refine JE B ?_ ?_|refine JD B ?_ ?_|refine JY B ?_ ?_)<;>intro h<;>try (exfalso;first|omega|contradiction)))
def W3 (q:Int)(AL:Nat)(cells:List AA)(r c:Nat):Int:=if r=0 then X6 q AL cells c else if c=0 then X6 q AL cells AL else X6 q AL cells c
theorem Am3 (B AG:Nat)(cells:List AA)(hx:x.Ok)(hs:s.ok=true)(h:Cells x s B AG cells):AC AF 131 [.agg x.f.vs,Aj s,.c (.int .i64 (B:Int)),.c (.sl (AA.AG cells))] (Ba (N2 x.f s B cells)):=by
 obtain⟨hn,HL,GM,HP,KY,rC,NT,Ws⟩:=h.ar;have zR:=h.line hx hs;have yg:=h.NI hx hs;obtain⟨p1,p2⟩:=HE hx.val hs;have Yl:=Ami x.f s cells B AG hx.fit hx.val hs hn HL GM HP KY λb hb=>⟨h.v b hb,kj (h.v b hb),by have:=ik (h.v b hb);omega⟩
 have dG:=Ajq x.f s x.f.params.Al;have Xk:=Ajq x.f s x.f.params.FD;rw[show AU x.f.params.Al (BS x.f.params s)=x.Al s from rfl]at dG;have Bn:=λ(r:Nat) (hr:r<AG)=>AnO cells B AG r (x.Al s) hn hr HL GM KY
 have A1:=λ(c:Nat) (hc:c<B)=>Amm cells B AG c hn hc GM KY
 have yW:=λc=>AD5 h.ar c
 have mw:=λc=>AD6 h.ar c
 have JL:=λi hi=>ANZ h.ar (i:=i) hi
 have E2:=DM x.f.params.FD (by omega:0<=BS x.f.params s) p2;have QM:=DM (x.Al s) (by omega:(0:Int)<=20) (by omega);have cL:1<=cells.length:=by rw[hn];exact Nat.le_trans HP (Nat.le_mul_of_pos_right _ HL)
 have R:cells.length / B=AG:=by rw[hn];exact Nat.mul_div_cancel _ HL
 have Bh:N2 x.f s B cells=if An (Oy (x.Al s) B cells AG)=U then(AA.zero,6)else C8 (oe (x.Al s) (AU x.f.params.FD (x.sz s)) B cells):=by
  unfold N2;rw[R];rfl
 have A6:oe (x.Al s) (AU x.f.params.FD (x.sz s)) B cells=Bf (Ig (x.Al s) B cells (B - 1)+Lh B cells (B - 1)) (AU x.f.params.FD (x.sz s)+Bm (Oy (x.Al s) B cells AG)) (Oy (x.Al s) B cells AG - (AU x.f.params.FD (x.sz s)+Bm (Oy (x.Al s) B cells AG))) (Ox (x.Al s) B cells (AU x.f.params.FD (x.sz s)+Bm (Oy (x.Al s) B cells AG)) 0 cells):=by
  unfold oe;rw[R]
 rw[Bh,A6];clear Bh A6 R;obtain⟨q,hq⟩:=AI (x.Al s);obtain⟨AX,GG⟩:=AI (AU x.f.params.FD (x.sz s));have E9 : -1073741824<=AX/\AX<=1073741824:=by rw[<-GG];exact E2
 rw[show AU x.f.params.FD (BS x.f.params s)=AX from GG]at Xk;rw[hq]at dG zR yg QM Bn mw rC NT ⊢;rw[GG];have LB:=λH=>AD3 q B cells H cells 0 h.v
 have F7:=h.c;obtain⟨N,hN⟩:=AI cells.length;obtain⟨rs,Aw⟩:=AI (AA.AG cells);have Av:rs.length=N:=by rw[<-Aw,GA,hN]
 have B3 : ∀k,k<N->rs[k]?=J (A4 cells k).row:=λk hk=>by rw[<-Aw,lF,List.getElem?_map,wQ (by omega)];rfl
 have EC : ∀H k,k<N->(Ox q B cells H 0 cells)[k]?=J (wN q B cells H k (A4 cells k)):=λH k hk=>by rw[AD4,wQ (by omega),Nat.zero_add];rfl
 have Ce : ∀H,(Ox q B cells H 0 cells).length=N:=λH=>by
  rw[<-hN];refine Nat.le_antisymm (Hq λh=>?_) (Hq λh=>?_);have:=AD4 q B cells H cells 0 cells.length;rw[BE h,M6 (BN _)]at this;cases this;have:=AD4 q B cells H cells 0 (Ox q B cells H 0 cells).length;rw[M6 (BN _),BE h]at this;cases this
 rw[hN]at hn KY cL JL;have G9:AG<=256:=by have:AG*1<=AG*B:=Nat.mul_le_mul_left _ HL;omega
 obtain⟨G,hG⟩:=AI (AU q 20);have Vm:=AYA q 20;rw[hG]at QM Vm;have xw : ∀k:Nat,k<=256-> -274877906944<=(k:Int)*G/\(k:Int)*G<=274877906944:=λk hk=>by
  have h1:(k:Int)*G<=(k:Int)*1073741824:=aF QM.2 (by omega);have h2:(k:Int)*(-1073741824)<=(k:Int)*G:=aF QM.1 (by omega);omega
 have Lt:=xw (AG - 1) (by omega);rw[show ((AG - 1:Nat):Int)=(AG:Int) - 1 by omega]at Lt;have kq:AZ.wrap ((N:Int) / (B:Int))=(AG:Int):=by
  have e:(N:Int) / (B:Int)=(AG:Int):=by
   rw[hn,Int.natCast_mul];exact Int.mul_ediv_cancel _ (by omega)
  rw[e];exact Ac
 have kc : ¬(B:Int)=0:=by omega
 obtain⟨T,hT⟩:∃T:Nat->Int,T=λr=>((AG:Int) - 1)*G+NI q B cells r:=⟨_,rfl⟩
 have qT:((AG:Int) - 1)*G=T 0:=by rw[hT];simp[NI]
 have vi : ∀r,T (r+1)=T r+(MW q (Ha B cells r)+N1 q (Ha B cells r)):=λr=>by rw[hT];simp only[NI,oh];omega
 have gP : ∀r:Nat,r<=256-> -1099511627776<=T r/\T r<=1099511627776:=λr hr=>by
  have h1:=yg r;rw[hT];simp only;omega
 have mZ:Oy q B cells AG=T AG:=by rw[hT];unfold Oy;rw[hG]
 have D7 : ∀n:Nat,n<=AG-> -1099511627776<=N3 q B cells n/\N3 q B cells n<=1099511627776:=λn hn=>by
  have h1:=yg n;have h2:=xw n (by omega);unfold N3;rw[hG];omega
 have D8 : ∀n,N3 q B cells (n+1)=N3 q B cells n+(MW q (Ha B cells n)+N1 q (Ha B cells n))+G:=λn=>by
  unfold N3;simp only[NI,oh,hG];push_cast
  rw[Int.add_mul];omega
 rw[mZ,Aw];simp only[Aw]at Yl A1 Bn;have w1:AZ.wrap ((AG:Int) - 1)=(AG:Int) - 1:=Ac;have w2:AZ.wrap (G*((AG:Int) - 1))=T 0:=by rw[Int.mul_comm,<-qT];exact Ac
 unfold Aj at Yl dG Xk ⊢;unfold Aj at *
 refine en func131 ntmps131 ?_;refine wy (cj5 @Av @kq @kc @w1 @w2 nY) (cj3 Yl dG Vm trivial) ⟨?_⟩;refine lp (ι:={ r:Nat // r<=AG }) (λr=>[(14,.c (.int .i64 (T r.1))),(15,.c (.int .i64 (r.1:Int)))]) (λ_=>[O.box 27 x.f.vs U,O.box 35 [.c (.int .i64 s.By),.c (.bool s.Hd)] U,O.box 41 BT U]) (λr=>AG - r.1) ⟨0,CI _⟩ ?_ ?_;all_goals simp only[CG,Bw,CO,Ag,Ai]
 exact ER @BT.eq_1;rintro ⟨r,hr⟩;simp only;by_cases Dp:r<AG;have S:=Bn r Dp;have JN:=zR r;have Td:=gP r (by omega);have FK:=vi r;obtain⟨M,Yp⟩:=AI (MW q (Ha B cells r));obtain⟨dd,IH⟩:=AI (N1 q (Ha B cells r));rw[Yp,IH]at S JN FK;generalize G2:T r=tr at FK Td ⊢;have w3:AZ.wrap (M+dd)=M+dd:=Ac;have w4:AZ.wrap (tr+(M+dd))=tr+(M+dd):=Ac;have w5:AZ.wrap ((r:Int)+1)=((r+1:Nat):Int):=by rw[Ac];push_cast;rfl
 refine wy (cj4 @Dp @w3 @w4 @w5 nY) (cj S<|trivial) ⟨?_⟩;refine⟨⟨r+1,by omega⟩,by first|omega|(simp only;omega),?_⟩;simp only[FK];refine Le.MI 3 (F2 F) (by simp[DG,BT]) (by simp[BT]) (by simp[V.BI,V.A8]) (by simp[O.A8,V.BI,V.A8,BT]);obtain rfl:r=AG:=by omega
 have E0:=gP r (by omega);generalize PG:T r=z at E0 ⊢;have G7:=sb z;cases A0:An z with
 | false=>rw[A0]at G7;rw[if_pos rfl];have hz:=Fl;unfold Ba;simp only[As,AR,hz];refine wy (cj2 @Dp @BT.eq_1 nY) (cj G7<|trivial) ⟨?_⟩;exact At nY
 | true =>
   rw[A0]at G7;rw[if_neg (by simp)];have qh:=AP1 z;have G0:=J6 z;have w6:AZ.wrap (AX+Bm z)=AX+Bm z:=Ac;obtain⟨H,gN⟩:=AI (AX+Bm z);have E7 : -2147483648<=H/\H<=2147483648:=by omega
   have w7:AZ.wrap (z - H)=z - H:=Ac;obtain⟨D,hD⟩:=AI (z - H);have w6:=w6.trans gN;have w7:=w7.trans hD;rw[gN,hD];have LB:=LB H;have EC:=EC H;have Ce:=Ce H;generalize F6:Ox q B cells H 0 cells=K at LB EC Ce ⊢;have CA : ∀W,AC AF 189 [Ao (Bf W H D K)] (.c (.bool (Bf W H D K).Ad)):=λW=>m7 (Bf W H D K) ⟨(CI _:0<=maxLen),(CI _:0<=maxLen),LB.2.1⟩ (by simp only[Bf,AA.cnt,LB.2.2];omega)
   refine wy (cj3 @Dp @w6 @w7 nY) (cj3 G7 Xk qh trivial) ⟨?_⟩;refine AW.le (Le.T4 3 8 41 11 rfl F) ?_;simp only[BA,BO,Nat.reduceAdd,Ag,Ai,BK,BU];have y0:H - N3 q B cells 0=H:=by simp[N3,NI]
   have v0:W3 q B cells 0 0=0:=F;have m0:0*B=0:=Nat.zero_mul _;refine lp (ι:={ n:Nat // n<=r }) (λn=>[(20,.c (.int .i64 (H - N3 q B cells n.1))),(21,.c (.int .i64 (n.1:Int)))]) (λn=>[O.box 27 x.f.vs U,O.box 35 [.c (.int .i64 s.By),.c (.bool s.Hd)] U,O.box 41 BT U,O.box 41 (Ix (W3 q B cells n.1 0) H D (.gr 4 11 (AA.AG (K.take (n.1*B))))) U,.tok 41 11 (n.1*B)]) (λn=>r - n.1) ⟨0,CI _⟩ ?_ ?_;all_goals simp only[CG,Bw,CO,Ag,Ai]
   simp only[m0,v0,y0,ET,AA.AG];exact ER (cj @BT.eq_1<|@Ix.eq_1);rintro ⟨n,zd⟩;simp only;by_cases qm:n<r
   . have S:=Bn n qm;have JN:=zR n;have rO:=D7 n (by omega);have rP:=D8 n;obtain⟨M,Yp⟩:=AI (MW q (Ha B cells n));obtain⟨dd,IH⟩:=AI (N1 q (Ha B cells n));rw[Yp,IH]at S JN rP;have CB:n*B+B<=r*B:=by rw[<-uc];exact Nat.mul_le_mul_right _ qm
     obtain⟨I,hI⟩:=AI (n*B);have gM:(n+1)*B=I+B:=by rw[uc,hI]
     rw[hI]at CB ⊢;have A3 : ∀c,c<B->(I+c) % B=c:=λc hc=>by rw[<-hI,Nat.mul_add_mod_self_right];exact Nat.mod_eq_of_lt hc
     have A5 : ∀c,c<B->(I+c) / B=n:=λc hc=>by rw[<-hI,Nat.mul_comm,Nat.mul_add_div HL,Nat.div_eq_of_lt hc,Nat.add_zero]
     have Ew:AZ.wrap ((n:Int)*(B:Int))=(I:Int):=by
      have:(n:Int)*(B:Int)=(I:Int):=by rw[<-hI];push_cast;rfl
      rw[this];exact Ac
     obtain⟨Y,hY⟩:=AI (H - N3 q B cells n);rw[hY];refine wy (cj @qm<|nY) (cj S<|trivial) ⟨?_⟩;have e0:I+0=I:=F;have x0:Ig q B cells 0=0:=F;refine lp (ι:={ c:Nat // c<=B }) (λc=>[(24,.c (.int .i64 (Ig q B cells c.1))),(25,.c (.int .i64 (c.1:Int)))]) (λc=>[O.box 27 x.f.vs U,O.box 35 [.c (.int .i64 s.By),.c (.bool s.Hd)] U,O.box 41 BT U,O.box 41 (Ix (W3 q B cells n c.1) H D (.gr 4 11 (AA.AG (K.take (I+c.1))))) U,.tok 41 11 (I+c.1)]) (λc=>B - c.1) ⟨0,CI _⟩ ?_ ?_;all_goals simp only[CG,Bw,CO,Ag,Ai]
     exact ER (cj3 @BT.eq_1 @Ix.eq_1 @e0 @x0);rintro ⟨c,DK⟩;simp only;by_cases Q:c<B;obtain⟨i,hi⟩:=AI (I+c);have A2:i<N:=by omega
     have Iv:=A3 c Q;have B0:=A5 c Q;rw[hi]at Iv B0;have hg:=B3 i A2;have jv:=EC i A2;have we:=JL i A2;have A9:=A1 c Q;have E1:=yW c;have E3:=mw c;have B7:=D3 (h.v _ (bK (cells:=cells) (i:=i) (by omega)));obtain⟨B8,D0⟩:=Ws _ (bK (cells:=cells) (i:=i) (by omega));have NW:Ig q B cells (c+1)=Ig q B cells c+Lh B cells c+q:=F;have Ml:W3 q B cells n (c+1)=Ig q B cells c+Lh B cells c:=by unfold W3 X6;simp
     unfold wN at jv;rw[Iv,B0,Yp]at jv;rw[Iv]at we;obtain⟨b,hb⟩:=AI (A4 cells i);obtain⟨o,rN⟩:=AI (Lh B cells c);obtain⟨xc,E4⟩:=AI (Ig q B cells c);rw[hb]at hg jv we B7 B8 D0;rw[rN]at A9 E1 we NW Ml jv;rw[E4]at E3 NW Ml jv ⊢;rw[hY]at jv;have Wr:=AKZ K i (by omega);rw[(List.getElem?_eq_some_iff.1 jv).2]at Wr;have Md:(AA.AG (K.take i)).length=i:=by rw[GA,Fa];omega
     have A7:((AA.AG (K.take i)).all λr=>r.length==11)=true:=by rw[ES];intro r hr;simpa using lE _ r hr
     rw[hi];have AM:I+(c+1)=i+1:=by omega
     obtain⟨RR,YW⟩:=AI (AA.AG (K.take i));rw[YW]at Wr Md A7 ⊢;have FO:i+1<=maxLen:=by unfold maxLen;omega
     have EX:(i+1)*128<=140737488355328:=by omega
     have gR:i<rs.length:=by omega
     have Ei:=gx hg;have FP:AZ.wrap ((I:Int)+(c:Int))=(i:Int):=by rw[Ac];omega
     obtain⟨b0,b1,b2,b3,b4,b5,b6,b7,b8,b9,Oz⟩:=b;simp only[AA.row]at hg Ei;simp only at we B7 B8 D0;simp only[AA.AS,AA.row]at Wr;have B2:=sb (o - b3);have D2:An (o - b3)=true:=by unfold An;simp only[Ak,decide_eq_true_eq];omega
     rw[D2]at B2;have B1:=AP1 (o - b3);have D1:=J6 (o - b3);generalize EW:Bm (o - b3)=hf at B1 D1 Wr;have k1:AZ.wrap (o - b3)=o - b3:=Ac;have k2:AZ.wrap (xc+hf)=xc+hf:=Ac;have k3:AZ.wrap (Y - M)=Y - M:=Ac;have k4:AZ.wrap (xc+o)=W3 q B cells n (c+1):=by rw[Ml];exact Ac
     have k5:AZ.wrap (o+q)=o+q:=Ac;have k6:AZ.wrap (xc+(o+q))=Ig q B cells (c+1):=by rw[NW,Int.add_assoc];exact Ac
     have k7:AZ.wrap ((c:Int)+1)=((c+1:Nat):Int):=by rw[Ac];push_cast;rfl
     have x4:=Wr.symm;clear Wr jv EC B3 Bn A1 A3 A5;refine wy (cj9 @Q @Ew @FP @gR @Av @hg @Ei @k1 @k2<|cj9 @k3 @k4 @k5 @k6 @k7 @Md @FO @EX @x4<|cj @Ix.eq_1 nY) (cj3 A9 B2 B1 trivial) ⟨?_⟩;refine⟨⟨c+1,by omega⟩,by simp only;omega,?_⟩;simp only[AM];refine Le.MI 5 (F2 F) (by simp[DG,BT,Ix]) (by simp[BT,Ix]) (by simp[V.BI,V.A8]) (by simp[O.A8,V.BI,V.A8,BT,Ix]);obtain rfl:c=B:=by omega
     have Fv:W3 q c cells n c=W3 q c cells (n+1) 0:=by
      unfold W3;rw[if_neg (Nat.succ_ne_zero n),if_pos rfl];split;rfl;rw[if_neg (by omega)]
     have k1:AZ.wrap (M+dd)=M+dd:=Ac;have k2:AZ.wrap (M+dd+G)=M+dd+G:=Ac;have k3:AZ.wrap (Y - (M+dd+G))=H - N3 q c cells (n+1):=by rw[rP,Ac];omega
     have k4:AZ.wrap ((n:Int)+1)=((n+1:Nat):Int):=by rw[Ac];push_cast;rfl
     refine wy (cj5 @Q @k1 @k2 @k3 @k4 nY) trivial ⟨?_⟩;refine⟨⟨n+1,by omega⟩,by simp only;omega,?_⟩;simp only[gM,<-Fv];refine Le.MI 5 (F2 F) (by simp[DG,BT,Ix]) (by simp[BT,Ix]) (by simp[V.BI,V.A8]) (by simp[O.A8,V.BI,V.A8,BT,Ix])
   obtain rfl:n=r:=by omega
   have ht:K.take (n*B)=K:=Gl (by omega);have Fv:W3 q B cells n 0=Ig q B cells (B - 1)+Lh B cells (B - 1):=by
    unfold W3 X6;rw[if_neg (by omega),if_pos F,if_neg (by omega)]
   rw[ht,Fv];generalize vk:Ig q B cells (B - 1)+Lh B cells (B - 1)=W9;have CA:=CA W9;unfold C8;generalize G4:(Bf W9 H D K).Ad=vb at CA ⊢;obtain⟨RR,YW⟩:=AI (AA.AG K);simp only[Bf,Ao,AA.row,AV,Ap,BB,YW]at CA ⊢;cases vb with
   | false=>rw[if_neg (by decide)];simp only[Ba,As,AR,Fl];refine wu (.mk 99) (cj3 @qm @Ix.eq_1 @BT.eq_1 nY) (cj CA<|trivial) ⟨?_⟩;simp[iK,DV,C0,DE,V.CP,V.CF,CJ,nY]
   | true=>rw[if_pos rfl];simp only[Ba,Ao,AR,AA.row,AV,Ap,BB,YW];refine wu (.mk 99) (cj3 @qm @Ix.eq_1 @BT.eq_1 nY) (cj CA<|trivial) ⟨?_⟩;simp[iK,DV,C0,DE,V.CP,V.CF,CJ,nY]
def oE (o:Option AA):AA×Int:=(o.getD AA.zero,if o.isSome=I then 0 else 6)
@[simp] theorem AoQ :(HD x)[2]?=J (.c (.int .i64 x.f.params.Al)):=by rfl
@[simp] theorem AoR (h:2<G (HD x)):(HD x)[2]=.c (.int .i64 x.f.params.Al):=F
theorem Aj2 {x:Af}{s:Aa}(B:x.f.valid=I)(H:1<=BS x.f.params s)(K:BS x.f.params s<=100)(n:ByteArray):DB x.f n (x.sz s)=(x.gl s n,0):=by
 have e:=(Pk B H K n).1;unfold Af.gl Af.sz;rw[e]
theorem AHP :AC AF 66 [.agg (HD x),Aj s] (.c (.int .i64 (x.sz s))):=by
 have h:AC AF 118 [.agg x.f.vs,Aj s] (.c (.int .i64 (x.sz s))):=x7 x.f s;generalize B:x.sz s=z at h ⊢;unfold Aj at *
 refine en func66 ntmps66 ?_;exact wz results66 (cj h<|trivial)
theorem AjV (L:List AA)(z:AA.FY L)(q:AA.Az L<=900000)(R:G L<=10000):AC AF 194 [.c (.sl (AA.AG L))] (Ba (F9 L (Aq (G L) 0))):=by
 have B:=AXX L (Aq (G L) 0) z q R (by rw[H6];exact R);obtain⟨⟨b,e⟩,o⟩:=AI (F9 L (Aq (G L) 0));rw[o]at B ⊢;have K:=GA L;generalize Aw:AA.AG L=rs at B K ⊢;simp only[Ba,AR,As,AV,List.map_replicate]at B ⊢;refine en func194 ntmps194 ?_;refine wu (.mk 1) (cj @K<|Abf) trivial ⟨?_⟩;refine AW.DA ?_;refine CY (.mk 3) @K ?_;refine SW.ub (.Bg (Aq (G L) [.int .i64 0])) rfl ?_ ?_;intro S0 w0 y w a g ht;have Q:=CW ht (.tmp 6);have S:Dk AF 39=J (3,1,8):=by simp
 have M:C2 AF 3=J [.c (.int .i64 0)]:=by simp
 exact AIy g rfl S Q Q M rfl (by omega) (by omega) (by omega);simp only[St.step,St.put,Z7,Ai,Ag];refine SW.take 5 (AH.out ?_);simp only[List.take_succ_cons,ET];have H:=(Abf)
 repeat any_goals (first|refine Eo ?_|exact Bt H|refine De H ?_|refine BV H (B) ?_|refine DI H ?_)
 simp only[List.drop_succ_cons,List.drop_zero];refine SW.nil ?_;exact wz Abf W
theorem AXY (t:ByteArray)(s:Aa)(hx:x.Ok)(hs:s.ok=I)(ht:t.data.toList.all Dx=I)(hn:t.size<=1000):AC AF 126 [.agg (HD x),.c (.str t),Aj s] (Ba (oE (x.Po s t))):=by
 have A5:=AEr hx hs ht;obtain⟨o1,o2⟩:=AI7 λb hb=>(A5 b hb).1
 have K:=AEq x s t;have FX:AA.Az (x.Uc s t)<=900000:=by
  have:=wx (n:=1) λb hb=>Nat.le_of_eq (A5 b hb).2
  omega
 have M:=AjV (x.Uc s t) o1 FX (by omega);rw[K]at M;have Tb:F9 (x.Uc s t) (Aq t.size 0)=oE (x.Po s t):=sm (sp:=Aq t.size 0) o2 (by rw[H6,K]) (by rw[ES];intro i hi;rw[List.eq_of_mem_replicate hi];decide);rw[Tb]at M;have o:=AHP x s;obtain⟨p1,p2⟩:=HE hx.val hs;have hq:=AYA x.f.params.Al (x.sz s);have R:=AYA (x.Al s) 25;change AC _ _ _ (.c (.int .i64 (x.Al s)))at hq;have TQ : ∀c:UInt8,AC AF 193 [.agg x.f.vs,.c (.str ⟨#[c]⟩),.c (.int .i64 (x.sz s))] (.A7 [Ao (x.gl s ⟨#[c]⟩),AR 0]):=λc=>by
  have h:=AQA x.f ⟨#[c]⟩ (x.sz s) hx.fit.1;rw[Aj2 hx.val p1 p2]at h;exact h
 have HL : ∀c:UInt8,c≠32->x.RW s c=x.gl s ⟨#[c]⟩:=λc h=>if_neg h
 have GM:x.RW s 32=Bf (AU (x.Al s) 25) 0 0 []:=F;obtain⟨⟨b,e⟩,hR⟩:=AI (oE (x.Po s t));rw[hR]at M ⊢;obtain⟨L,hL⟩:=AI (x.Uc s t);have Ir : ∀k (h:k<t.size) (h':k<G L),L[k]=x.RW s (t.data.toList[k]'(by rw[FW];exact h)):=by intro k h h';subst hL;simp[Af.Uc]
 rw[hL]at K M;obtain⟨Q,hQ⟩:=AI (AU (x.Al s) 25);rw[hQ]at R GM;obtain⟨q,zo⟩:=AI (x.Al s);rw[zo]at hq R;obtain⟨z,hz⟩:=AI (x.sz s);rw[hz]at hq o TQ;clear hR hL zo hz hQ FX o1 o2 A5 Tb;unfold Aj at *
 simp only[Ba,AR,As]at M ⊢;refine en func126 ntmps126 ?_;refine wy Xq trivial ⟨?_⟩;refine AW.le (Le.tL 8 41 11 F) ?_;simp only[BA,BO,Nat.reduceAdd,Ag,Ai,BK,BU];refine lp (ι:={ k:Nat // k<=t.size }) (λk=>[(9,.c (.int .i64 (k.1:Int))),(8,.gr 3 11 (AA.AG (L.take k.1)))]) (λk=>[O.box 30 (HD x) U,O.box 35 [.c (.int .i64 s.By),.c (.bool s.Hd)] U,O.box 41 BT U,.tok 41 11 k.1]) (λk=>t.size - k.1) ⟨0,CI _⟩ ?_ ?_;all_goals simp only[CG,Bw,CO,Ag,Ai]
 exact ER (cj2 @BT.eq_1 @AA.AG.eq_1 @AA.AG.eq_2);rintro ⟨k,hk⟩;simp only;by_cases H:k<t.size;obtain⟨c,hb,CT,hd,Dn,_⟩:=o5 H;have OC:k<G L:=by omega
 have hw:AZ.wrap ((k:Int)+1)=((k+1:Nat):Int):=by rw[Ac];simp
 have A1:t.extract k (k+1)=⟨#[t.data.toList[k]'(by rw[FW];exact H)]⟩:=AFU t k H;have hg:=Ir k H OC;have A8:t.data.toList[k]'(by rw[FW];exact H)=c:=by
  have h1:t.data.toList.drop k=c::t.data.toList.drop (k+1):=hd;have h2:=congrArg List.head? h1;rw[List.head?_drop,BE (by rw[FW];exact H)]at h2;exact ML h2
 rw[A8]at A1 hg;have FK:=AKZ L k OC;rw[hg]at FK;have Md:G (AA.AG (L.take k))=k:=by rw[GA,Fa];omega
 have A0:((AA.AG (L.take k)).all λr=>G r==11)=true:=by rw[ES];intro r hr;simpa using lE _ r hr
 obtain⟨RR,YW⟩:=AI (AA.AG (L.take k));rw[YW]at FK Md A0 ⊢;have FO:k+1<=maxLen:=by unfold maxLen;omega
 have EX:(k+1)*128<=140737488355328:=by omega
 have A2:k<=k+1:=Nat.le_succ k;have A3:k+1<=t.size:=H;by_cases S:c=32;subst S;rw[GM]at FK;have x4:=FK.symm;simp only[Bf,AA.row,AA.AG,AV,BB]at x4;clear FK;refine wy (cj9 @H @Dn @hb @CT @hw @Md @FO @EX @x4 Xq) (cj3 o hq R W) ⟨?_⟩;exact⟨⟨k+1,by omega⟩,by simp only;omega,wd 4⟩;have A6 : ¬(c.toNat:Int)=32:=λh=>S (by
  apply UInt8.toNat_inj.1;have:c.toNat=32:=by omega
  rw[this];rfl)
 have kF:=TQ c;rw[HL c S]at FK;have x4:=FK.symm;generalize hB:x.gl s ⟨#[c]⟩=B at kF x4;simp only[As,AR]at kF;clear FK;refine wy (cj9 @H @Dn @hb @CT @hw @A1 @A2 @A3 @A6<|cj4 @Md @FO @EX @x4 Xq) (cj2 o kF W) ⟨?_⟩;exact⟨⟨k+1,by omega⟩,by simp only;omega,wd 4⟩;obtain rfl:k=t.size:=by omega
 rw[Gl (by omega)];have Dn : ¬(t.size:Int)<(t.size:Int):=by omega
 have Av:=GA L;generalize YW:AA.AG L=RR at M Av ⊢;exact wz (cj2 @H @BT.eq_1 Xq) (cj M<|trivial)
theorem AmY (t:ByteArray)(s:Aa)(Q:x.Ok)(hs:s.ok=I)(hn:Ck t=I):AC AF 192 [.agg (HD x),.c (.str t),Aj s] (Ba (oE (x.VI s t))):=by
 obtain⟨h1,h2,h3⟩:=AAu Q s hn;have hl:=kW hs;have K:=ae x.f t Q.fit.sl;have S:=AjZ x.f t (x.Mw s t) (x.sz s) Q.fit (λg hg=>by have:=(QG Q.val hg).AKx;omega);rw[AVX Q hs hn]at S;have M:=AHP x s;have K9:=AXd x.f (x.sz s);obtain⟨g1,g2⟩:=qA Q hs h2;obtain⟨d1,d2⟩:=APq Q hs (x.Mw s t).Ln;obtain⟨p1,p2⟩:=HE Q.val hs;have ab:0<=AU x.f.params.FD (x.sz s)/\AU x.f.params.FD (x.sz s)<=20001:=AEI Q.val p1 p2;obtain⟨c,e1,e2,e3⟩:=AOI g1 d1 d2 (a:=AU x.f.params.FD (x.sz s)) (by omega);have B:=Aja (x.gl s (x.Mw s t).Ln) (AU x.f.params.FD (x.sz s)) g1.o (by omega);rw[e1]at B;have hR:x.VI s t=Bj (F9 [c] [0]):=by unfold Af.VI;rw[e1];rfl
 have q:=AjV [c] ⟨e2.o,trivial⟩ (by simp only[AA.Az];omega) (by simp);have Tb:F9 [c] [0]=oE (x.VI s t):=by rw[hR];exact sm (AE:=[c]) (sp:=[0]) (by simp[e2.v]) rfl (by decide)
 rw[show Aq [c].length (0:Int)=[0]from rfl,Tb]at q;change AC _ _ _ (.c (.int .i64 (AU x.f.params.FD (x.sz s))))at K9;obtain⟨G,hG⟩:=AI (x.gl s (x.Mw s t).Ln);rw[hG]at S B;obtain⟨⟨ob,oe⟩,ho⟩:=AI (oE (x.VI s t));rw[ho]at q ⊢;have A0:(x.Mw s t)=⟨(x.Mw s t).Ln,0⟩:=by rw[<-h3]
 obtain⟨gn,Ro⟩:=AI ((x.Mw s t).Ln);rw[Ro]at A0;rw[A0]at S;have H:gn=match x.f.I8 t with
  | none=>t
  | some st=>st.sizes.getD (if s.By=0/\2<=st.sizes.length then 1 else 0) ⟨#[]⟩:=by
  rw[<-Ro];unfold Af.Mw;cases x.f.I8 t<;>rfl
 obtain⟨z,hz⟩:=AI (x.sz s);rw[hz]at M S K9 B;obtain⟨ax,A1⟩:=AI (AU x.f.params.FD z);rw[A1]at K9 B;clear A0 Ro h1 h2 h3 hG hR Tb e1 g1 g2 d1 d2 hz A1 ho ab p1 p2;simp only[N4,Ba,AR,As,AA.AG,Ap,BB]at S B q ⊢;unfold Aj at *
 cases VB:x.f.I8 t with
 | none=>rw[VB]at K H;simp only at H;subst H;simp only[NK,IU,Bc.row,Bc.zero,Hr,H8,Ap,BB]at K;refine en AQR AQ0 ?_;exact wz ADI (cj6 K M S K9 B q W)
 | some st =>
   have A2:=(Se VB).1;have z1:=(QG Q.val A2).AKw;rw[VB]at K H;simp only at H;simp only[NK,IU,Bc.row,Dm,IZ,Ap,BB]at K;have DJ:Gv st.sizes=.sl (st.sizes.map λn=>[.str n]):=F;obtain⟨rs,Aw⟩:=AI ((st.sizes.map λn=>[C.str n]));have Av:rs.length=st.sizes.length:=by rw[<-Aw,List.length_map]
   rw[DJ,Aw]at K;have Jh:0<rs.length:=by omega
   have Ir : ∀i (h:i<st.sizes.length),rs[i]?=J [.str (st.sizes.getD i ⟨#[]⟩)]:=by
    intro i h;rw[<-Aw];simp[List.getD,h]
   have Wc:=Ir 0 (by omega);have R:=gx Wc;by_cases c1:s.By=0/\2<=st.sizes.length;rw[if_pos c1]at H;obtain⟨c1,c2⟩:=c1;have Lt:=Ir 1 (by omega);rw[<-H]at Lt;have jo:=gx Lt;have pC:=iff_true_intro c1;have c3:1<rs.length:=by omega
   have c4:(1:Int)<(rs.length:Int):=by omega
   refine en AQR AQ0 ?_;exact wz (cj8 @pC @c3 @c4 @Jh @Wc @R @Lt @jo ADI) (cj6 K M S K9 B q W);rw[if_neg c1]at H;rw[<-H]at Wc R;by_cases c2:s.By=0;have pC:=iff_true_intro c2;have c4 : ¬(1:Int)<(rs.length:Int):=by omega
   refine en AQR AQ0 ?_;exact wz (cj5 @pC @c4 @Jh @Wc @R ADI) (cj6 K M S K9 B q W);refine en AQR AQ0 ?_;exact wz (cj4 @c2 @Jh @Wc @R ADI) (cj6 K M S K9 B q W)
theorem Amb (t:ByteArray)(s:Aa)(S:x.Ok)(hs:s.ok=true)(hn:Z1 t=true):AC AF 125 [.agg (HD x),.c (.str t),Aj s] (Ba (oE (x.sym s t))):=by
 obtain⟨n1,n2,_⟩:=ALQ hn;have hf:=AXe x.d t (by have:=S.dl;omega);have A0:t.size<=1000:=by simp only[Ck,Ak,decide_eq_true_eq]at n1;omega
 have M:=L5 x.f t S.fit.1;have R:=AmY x t s S hs n1;have Q:=AXY x t s S hs n2 A0;have hz:=AHP x s;obtain⟨p1,p2⟩:=HE S.val hs;have q:=AQA x.f t (x.sz s) S.fit.1;rw[Aj2 S.val p1 p2]at q;obtain⟨z,K⟩:=AI (x.sz s);rw[K]at hz q;unfold YK at M;obtain⟨g,hg⟩:=AI ((x.f.find t).getD BG.zero);rw[hg]at M;simp only[BG.row,Ap,BB]at M;unfold Af.sym;unfold WH at hf;obtain⟨⟨ob,oe⟩,ho⟩:=AI (oE (x.VI s t));obtain⟨⟨tb,te⟩,o⟩:=AI (oE (x.Po s t));rw[ho]at R;rw[o]at Q;obtain⟨GL,gu⟩:=AI (x.gl s t);rw[gu]at q ⊢;obtain⟨E,hE⟩:=AI (He x.d t);rw[hE]at hf ⊢;obtain⟨I,hI⟩:=AI ((x.f.find t).isSome);rw[hI]at M ⊢;by_cases B:E.cls=1/\E.str=true;rw[if_pos B,ho];obtain⟨B,H⟩:=B;clear K hg gu hE hI ho o;simp only[Ba,AR,As]at R ⊢;unfold Aj at *
 refine en M9 ntmps125 ?_;exact wz (cj2 @B @H AbS) (cj3 hf M R W);rw[if_neg B];have P6:(E.cls=1/\E.str=U)\/(¬E.cls=1/\True):=by
  by_cases h:E.cls=1;refine .inl ⟨h,?_⟩;cases h2:E.str with
  | true=>exact absurd ⟨h,h2⟩ B
  | false=>rfl
  exact .inr ⟨h,trivial⟩
 clear B;by_cases H:t.size=1\/I=true
 . rw[if_pos H,show oE (J GL)=(GL,0)from rfl];have c3:I=true\/(I=U/\t.size=1):=by
    cases I with
    | true=>exact .inl F
    | false=>exact .inr ⟨rfl,H.resolve_right (by decide)⟩
   clear K hg gu hE hI ho o H;simp only[Ba,AR,As]at q ⊢;unfold Aj at *
   rcases P6 with ⟨B,c4⟩|⟨B,c4⟩<;>rcases c3 with rfl|⟨rfl,c5⟩
   all_goals
    refine en M9 ntmps125 ?_;exact wz (cj2 @B @c4 AbS) (cj4 hf M hz q W)
 . rw[if_neg H,o];have c3 : ¬t.size=1:=λh=>H (.inl h)
   have c5:I=false:=by
    cases I with
    | true=>exact absurd (.inr F) H
    | false=>rfl
   subst c5;clear K hg gu hE hI ho o H;simp only[Ba,AR,As]at Q ⊢;unfold Aj at *
   rcases P6 with ⟨B,c4⟩|⟨B,c4⟩
   all_goals
    refine en M9 ntmps125 ?_;exact wz (cj3 @B @c4 @c3 AbS) (cj3 hf M Q W)
theorem AmX (hx:x.Ok):AC AF 218 [.agg (HD x),Am n,Aj s] (.c (.bool (PZ x s n))):=by
 have hd:G x.d<=1000000:=by have:=hx.dl;omega
 obtain⟨k,t,c,B⟩:=n;unfold Aj;simp only[Am,Nd.vs,Nd.row,Ap,BB];by_cases H:s.By=0;by_cases M:G B=1;match B,M with
 | [⟨k',Q,S,K⟩],_ =>
   simp only[Nd.AG,Nd.row];by_cases R:k'=2;subst R;have o:=AXe x.d Q hd;have e:PZ x s ⟨k,t,c,[⟨2,Q,S,K⟩]⟩=(He x.d Q).dW:=by simp[PZ,H]
   rw[e];unfold WH at o;refine en AQV AQ4 ?_;exact wz (cj @H<|AR7) (cj o<|trivial);have e:PZ x s ⟨k,t,c,[⟨k',Q,S,K⟩]⟩=false:=by simp[PZ,R]
   rw[e];refine en AQV AQ4 ?_;exact wz (cj2 @H @R AR7) W
 have e:PZ x s ⟨k,t,c,B⟩=false:=by
  unfold PZ;split;rename_i q;simp only at q;rw[q]at M;exact absurd rfl M;rfl
 rw[e];have z:=Pc B;generalize Aw:Nd.AG B=rs at z ⊢;rw[<-z]at M;refine en AQV AQ4 ?_;exact wz (cj2 @H @M AR7) W;have e:PZ x s ⟨k,t,c,B⟩=false:=by
  unfold PZ;split<;>simp[H]
 rw[e];refine en AQV AQ4 ?_;exact wz (cj @H<|AR7) W
theorem Am4 (f:AP)(s:Aa)(b g:AA)(hf:f.Fit)(hz : ∀s∈f.C5,s.sizes.length<=1000)(hv:f.valid=I)(ho:s.ok=I)(hb:b.Ad=I)(D7:b.BX)(hg:g.Ad=I)(A7:g.BX):AC AF 128 [.agg f.vs,Aj s,Ao b,.c (.sl [g.row])] (Ba (C8 (Qp f s b [g]))):=by
 obtain⟨p1,p2,r1,r2,l1,l2,sg,g1,g2⟩:=AKM (b:=b) hv ho;obtain⟨bw,bh,bd,bc⟩:=D3 hb;obtain⟨gw,gh,gd,F7⟩:=D3 hg;have Gt:b.src.length<=1000000:=by have:=GD hb;cases b;simp only[AA.Fq]at this;exact this.1
 have F6:g.src.length<=1000000:=by have:=GD hg;cases g;simp only[AA.Fq]at this;exact this.1
 have Yl:=pe f s [b,g] hf (by intro c hc;simp only[List.mem_cons,List.not_mem_nil,or_false]at hc;rcases hc with rfl|rfl<;>first|exact⟨D7,by omega⟩|exact⟨A7,by omega⟩) (by simp);have eC:eb f s [b,g]=0:=if_neg (by simp[hv,ho,hb,hg]);rw[eC]at Yl;simp only[AA.AG]at Yl;clear eC;have hL:LJ f s=if s.By=0 then Hl f s+AU (AU f.params.Gj (F1 f s)) 25 else Hl f s+AU (Hl f s) 25:=F
 have hN:Jm f s b=b.h+b.d+LJ f s+Hl f s:=F;have Vm:=AnY f s b hf hz hv ho hb;have TV:=Aji f s b hv ho hb;have A8:=Aje f s hv ho;have o:=Jp f s f.params.Al;have hG:Tw f s b=if Jm f s b<(EZ f s b).h+(EZ f s b).d then LJ f s+Bm ((EZ f s b).h+(EZ f s b).d - Jm f s b)else LJ f s:=F
 have hY:Tx f s b=b.h+Tw f s b:=F;have hT:M0 f s b=Tx f s b+Hl f s:=F;have hB:Qo f s b=M0 f s b - (EZ f s b).h - (EZ f s b).d:=F;have hV:XP f s b g=Qo f s b+AU (M0 f s b - Qo f s b) 60+mx 0 g.d:=F;have hA:VO f s g=mx 0 (AU (AU f.params.Al (F1 f s)) 28+g.w - AU (AU f.params.Al (F1 f s)) 56):=F;have hX:Qp f s b [g]=Bf (VO f s g+(EZ f s b).w+mx 0 b.w) (mx (mx (M0 f s b) b.h) (XP f s b g+g.h)) (mx (mx (-(Qo f s b)) b.d) (g.d - XP f s b g)) [g.AS (VO f s g+AU (AU f.params.Al (F1 f s)) 56 - g.w) (XP f s b g),(EZ f s b).AS (VO f s g) (M0 f s b - (EZ f s b).h),(FV (mx 0 b.w) (Hl f s) 0).AS (VO f s g+(EZ f s b).w) (Tx f s b),b.AS (VO f s g+(EZ f s b).w) 0]:=F;have D2:=Jp f s f.params.rule;have eR:AU f.params.rule (BS f.params s)=Hl f s:=F;rw[eR]at D2;have eQ:AU f.params.Al (BS f.params s)=AU f.params.Al (F1 f s):=F;rw[eQ]at o;have NT:=AYA (AU f.params.Al (F1 f s)) 56;have Ta:=AYA (AU f.params.Al (F1 f s)) 28;rw[hX];obtain⟨P,hP⟩:=AI (F1 f s);obtain⟨R,z⟩:=AI (Hl f s);obtain⟨L,q⟩:=AI (LJ f s);obtain⟨N,Rf⟩:=AI (Jm f s b);obtain⟨S,hS⟩:=AI (EZ f s b);obtain⟨G,Uo⟩:=AI (Tw f s b);obtain⟨Y,Uv⟩:=AI (Tx f s b);obtain⟨T,PG⟩:=AI (M0 f s b);obtain⟨B,OA⟩:=AI (Qo f s b);obtain⟨H,yV⟩:=AI (XP f s b g);obtain⟨A,jK⟩:=AI (VO f s g);rw[hP,z,q]at hL;rw[Rf,q,z]at hN;rw[Uo,Rf,hS,q]at hG;rw[Uv,Uo]at hY;rw[PG,Uv,z]at hT;rw[OA,PG,hS]at hB;rw[yV,OA,PG]at hV;rw[jK,hP]at hA;rw[Rf]at TV;rw[q]at A8;rw[hS]at Vm;rw[hP]at o NT Ta p1 p2 ⊢;rw[z]at D2 r1 r2;rw[q]at l1 l2;rw[hS]at sg;rw[Uo]at g1 g2;rw[PG,OA,Uv,z,hS,yV,jK];clear hP z q Rf hS Uo Uv PG OA hX eR eQ yV jK;obtain⟨sd,sk,sf,sc,uv,uw,nk,nl,ux,vB⟩:=sg;obtain⟨Q,A9⟩:=AI (AU (AU f.params.Al P) 28);obtain⟨K,B0⟩:=AI (AU (AU f.params.Al P) 56);have B7:=DM (p:=28) (AU f.params.Al P) (by omega) (by omega);have nz:=DM (p:=56) (AU f.params.Al P) (by omega) (by omega);rw[A9]at B7 Ta hA;rw[B0]at nz NT hA ⊢;obtain⟨vz,B1⟩:=AI (AU (T - B) 60);have E9:=DM (p:=60) (T - B) (by omega) (by omega);have A6:=AYA (T - B) 60;rw[B1]at E9 hV A6;have Au:(if 0<Q+g.w - K then Q+g.w - K else 0)=A:=hA.symm;have Fb:(if K<Q+g.w then Q+g.w - K else 0)=A:=by rw[<-Au];split<;>split<;>omega
 have jM:(if 0<g.d then g.d else 0)=mx 0 g.d:=F;generalize xr:mx 0 g.d=D0 at hV jM;have bD:0<=D0/\D0<=1073741824:=by rw[<-jM];omega
 have bA:0<=A/\A<=4294967296:=by rw[<-Au];omega
 have yn:=AKJ g (A+K - g.w) H;have WZ:=AKJ S A (T - S.h);have PT:=Ajn (mx 0 b.w) R 0;have QK:=AKJ (FV (mx 0 b.w) R 0) (A+S.w) Y;have Wa:=AKJ b (A+S.w) 0;have Ew:mx 0 b.w=if 0<b.w then b.w else 0:=F
 obtain⟨W,hW⟩:=AI (mx 0 b.w);have bW:0<=W/\W<=1073741824:=by rw[hW]at Ew;omega
 rw[hW]at PT QK ⊢;have M:=aY (A+S.w+W) (mx (mx T b.h) (H+g.h)) (mx (mx (-B) b.d) (g.d - H)) [g.AS (A+K - g.w) H,S.AS A (T - S.h),(FV W R 0).AS (A+S.w) Y,b.AS (A+S.w) 0] (by simp);have Ct:=Xn (Bf (A+S.w+W) (mx (mx T b.h) (H+g.h)) (mx (mx (-B) b.d) (g.d - H)) [g.AS (A+K - g.w) H,S.AS A (T - S.h),(FV W R 0).AS (A+S.w) Y,b.AS (A+S.w) 0]) ⟨(CI _:0<=maxLen),(CI _:0<=maxLen),F4 _ _ A7,F4 _ _ sk,F4 _ _ (ABe _ _ _),F4 _ _ D7,trivial⟩ (by simp only[Bf,AA.cnt,AA.Az,Hb,lH];omega);generalize Bf (A+S.w+W) (mx (mx T b.h) (H+g.h)) (mx (mx (-B) b.d) (g.d - H)) [g.AS (A+K - g.w) H,S.AS A (T - S.h),(FV W R 0).AS (A+S.w) Y,b.AS (A+S.w) 0]=Z at M Ct ⊢;simp only[AA.AG,As]at M Ct yn WZ QK Wa PT Vm TV ⊢;obtain⟨A0,Gr⟩:=AI (g.AS (A+K - g.w) H);obtain⟨A1,Ec⟩:=AI (S.AS A (T - S.h));obtain⟨U,hU⟩:=AI (FV W R 0);rw[hU]at M QK PT;obtain⟨A2,A5⟩:=AI (U.AS (A+S.w) Y);obtain⟨A3,Ik⟩:=AI (b.AS (A+S.w) 0);rw[Gr]at M yn;rw[Ec]at M WZ;rw[A5]at M QK;rw[Ik]at M Wa;clear Gr Ec A5 Ik hU;have hh:=J6 (S.h+S.d - N);have w4:AZ.wrap (b.h+b.d+L)=b.h+b.d+L:=Ac;have w6:AZ.wrap (S.h+S.d)=S.h+S.d:=Ac;have w7:AZ.wrap (S.h+S.d - N)=S.h+S.d - N:=Ac;have w8:AZ.wrap (L+Bm (S.h+S.d - N))=L+Bm (S.h+S.d - N):=Ac;have w9:AZ.wrap (b.h+G)=Y:=by rw[hY];exact Ac
 have lj:AZ.wrap (Y+R)=T:=by rw[hT];exact Ac
 have aB:AZ.wrap (T - S.h)=T - S.h:=Ac;have y7:AZ.wrap (T - S.h - S.d)=B:=by rw[hB];exact Ac
 have tY:AZ.wrap (A+S.w)=A+S.w:=Ac;have tZ:AZ.wrap (A+S.w+W)=A+S.w+W:=Ac;have y8:AZ.wrap (-B)= -B:=Ac;have B8:AZ.wrap (Q+g.w)=Q+g.w:=Ac;have D1:AZ.wrap (Q+g.w - K)=Q+g.w - K:=Ac;have D8:AZ.wrap (T - B)=T - B:=Ac;have E0:AZ.wrap (B+vz)=B+vz:=Ac;have E1:AZ.wrap (B+vz+D0)=H:=by rw[hV];exact Ac
 have E2:AZ.wrap (A+K)=A+K:=Ac;have E3:AZ.wrap (A+K - g.w)=A+K - g.w:=Ac;have E4:AZ.wrap (H+g.h)=H+g.h:=Ac;have E7:AZ.wrap (g.d - H)=g.d - H:=Ac;have G0:AZ.wrap 1=1:=Ac;have zW:(if 0<b.w then b.w else 0)=W:=by rw[<-Ew];exact hW
 unfold Aj at *
 simp only[Ba,As,AR]at Ct ⊢;clear Ew;have HL:1<=maxLen:=by unfold maxLen;omega
 have GM:2<=maxLen:=by unfold maxLen;omega
 refine en func128 ntmps128 ?_;refine go (cj @HL<|@GM) ?_;refine BZ (Yl) func195 ?_;refine Ah ?_;refine BZ (D2) AAg ?_;refine Ah ?_;refine BZ (A8) func203 ?_;refine Ah ?_;refine BZ (Vm) func204 ?_;refine go @w6 ?_;refine gc @w7 (TV) func205 ?_;refine Ah ?_;refine jn (λ_:Unit=>[(12,.c (.int .i64 G))]) ?_ ?_;all_goals simp only[CG,Bw,CO,Ag,Ai]
 by_cases h1:N<S.h+S.d;have Jc:N<S.h+S.d↔True:=iff_true_intro h1;rw[if_pos h1]at hG;refine go @Jc ?_;refine gc @w8 (x6 (S.h+S.d - N)) func200 ?_;refine Ah ?_;refine⟨(),?_⟩;exact ER (cj @hG<|@Jc);rw[if_neg h1]at hG;refine go @h1 ?_;refine⟨(),?_⟩;exact ER (cj @hG<|@h1);intro _;have Yv:(if T<b.h then b.h else T)=mx T b.h:=F;have Yu:(if -B<b.d then b.d else -B)=mx (-B) b.d:=F;obtain⟨MT,qP⟩:=AI (mx T b.h);obtain⟨MB,qO⟩:=AI (mx (-B) b.d);rw[qP]at Yv M;rw[qO]at Yu M;have B3:(if MT<H+g.h then H+g.h else MT)=mx MT (H+g.h):=F;have B2:(if MB<g.d - H then g.d - H else MB)=mx MB (g.d - H):=F;have kI:1<=maxLen:=by unfold maxLen;omega
 have Y8:4<=maxLen:=by unfold maxLen;omega
 refine go (cj3 @w9 @lj @aB @y7) ?_;refine BZ (o) AAg ?_;refine Ah ?_;refine BZ (Ta) Su ?_;refine BZ (NT) Su ?_;refine go (cj7 @lj @y8 @Yv @Yu @B8 @D1 @Fb @D8) ?_;refine gc (cj2 @E0 @jM @E1) (A6) Su ?_;refine go (cj @E2<|@E3) ?_;refine gc @kI (yn) AHu ?_;refine go (cj7 @E4 @E7 @B3 @B2 @tY @zW @lj @aB) ?_;refine BZ (WZ) AHu ?_;refine BZ (PT) func199 ?_;refine BZ (QK) AHu ?_;refine gc @Y8 (Wa) AHu ?_;refine go @tZ ?_;refine BZ (M) func202 ?_;refine BZ (Ct) func201 ?_;refine Ah ?_;exact At results128
end Go.Proofs.YtglaipbdiofkfaaGreat
