/- Part of the proof of breakpointPieces.proved. Conditions: none. -/
import Derived.Test.YtegconioojpgmaaGreatY9
import Derived.Test.YtegconioojpgmaaGreatY10
import Derived.Test.YtegconioojpgmaaGreatY24
set_option linter.unusedVariables false
set_option linter.unusedSimpArgs false
set_option maxRecDepth 100000
set_option maxHeartbeats 16000000
open Go.Proofs.Tryz renaming prog->AF,underlying9->Lb,underlying3->Fo,underlying4->Vq,results180->AR3,func218->AQV,ntmps218->AQ4,results218->AR7,results181->ADF,results6->Xo,results9->Yd,func20->nD,ntmps20->nR,results20->nf,results242->AHA
open List renaming any_cons->mP,any_nil->mQ,not_mem_nil->RE,length_nil->BO,getD_cons_succ->Om,getD_cons_zero->On,contains_iff_mem->mR
open Option renaming isSome_none->H8
open Go.IntKind renaming i64->AZ
open Go.Op renaming operands->Bl
open Go.Call renaming operands->Df
open Nat renaming add_sub_cancel->aM
open Bool renaming not_false->ly,false_or->tf
open Option renaming some->J,none->E
open Bool renaming false->U,true->I
open List renaming length->G
namespace Go.Proofs.YtegconioojpgmaaGreat
open Go.RowKit Tryz
variable {fuel:Nat}
section
variable {H:Type} {enc:TypeId×Value->H}
variable {w:World}
theorem AVZ :Dq enc AF w fuel 49 En.row (λe=>e.text.size<=maxLen):=by
 cases fuel with
 | zero=>exact Dq.zero
 | succ fuel=>exact(VJ underlying49 ZC (C6.cons (o:=0) (o':=1) rfl ZC ZB (Zf Lb) (C6.cons (o:=1) (o':=2) rfl ZC ZB (Ge Fo) (C6.cons (o:=2) (o':=3) rfl ZC ZB (AAw Vq) (C6.cons (o:=3) (o':=4) rfl ZC ZB (AAw Vq) (C6.nil)))))).conv (λq=>⟨q.1,q.2.1,q.2.2.1,q.2.2.2.1⟩) (λq=>rfl) (λq h=>h.1)
theorem AVY :Dq enc AF w fuel 28 (λl:List En=>[Cc l]) (λl=>G l<=maxLen/\∀a∈l,a.text.size<=maxLen):=by
 cases fuel with
 | zero=>exact Dq.zero
 | succ fuel=>exact dq (n:=4) underlying28 ZC ZB AVZ
theorem AIj : ∀ {l:List Nd},(∀a∈l,a.BX)->Nd.FY l
 | [],_=>trivial
 | b::l,h=>⟨h b GH,AIj λa B=>h a (Gk _ B)⟩
theorem AJA (B:Dq enc AF w fuel 31 (λl:List Nd=>[.sl (l.map Nd.row)]) (λl=>G l<=maxLen/\∀a∈l,a.BX)):Dq enc AF w (fuel+1) 33 Nd.row (λb=>b.BX):=
 (VJ underlying33 ZC (C6.cons (o:=0) (o':=1) rfl ZC ZB (Ge Fo) (C6.cons (o:=1) (o':=2) rfl ZC ZB (Zf Lb) (C6.cons (o:=2) (o':=3) rfl ZC ZB (Ge Fo) (C6.cons (o:=3) (o':=4) rfl ZC ZB B (C6.nil)))))).conv (λq=>⟨q.1,q.2.1,q.2.2.1,q.2.2.2.1⟩) (λq=>by simp[Nd.row,Zd,-Nd.ABb]) (λq h=>⟨h.2.1,h.2.2.2.1.1,AIj h.2.2.2.1.2⟩)
theorem AVd (h:Dq enc AF w fuel 33 Nd.row (λb=>b.BX)):Dq enc AF w (fuel+1) 31 (λl:List Nd=>[.sl (l.map Nd.row)]) (λl=>G l<=maxLen/\∀a∈l,a.BX):=
 dq (n:=4) underlying31 ZC ZB h
theorem km : ∀fuel,Dq enc AF w fuel 33 Nd.row (λb=>b.BX)
 | 0=>Dq.zero
 | 1=>AJA Dq.zero
 | k+2=>AJA (AVd (km k))
end
theorem AVO {P:Program}{Q:BF}{w0:Bs}{x:Cx}{w:World}{H:Bx}{a:Act}{o:Oper}(g:Good Q w0 x w H){t te:TypeId}{n sz:Nat}{y:Operand}(ho:o.op=.slice t y E E E)(q:P.underlying t=J (.array n te))(M : ∀w:World,(sizeOf te).run P w=.ok sz w){AG:List (List C)}{es:Nat}(K : ∀r∈AG,G r=es)(z:G AG=n)(S:n<=maxLen)(hp:0<n)(B:CV x w (.cp AG.flatten 0) (a.eval y)):BW P o a Q w0 x w H (.c (.sl AG)) none:=by
 simp only[CV]at B;obtain⟨b,R,B,hr⟩:=B;refine BW.pure g (u:=.slice (J ⟨b,R,E⟩) n n) ?_ ?_;have : ¬n=0:=Ux;simp[execOp,ho,B,Instr.sliceAt,Instr.sureAddr,run_underlying q,Instr.sliceBounds,M,Addr.add,this];simp only[CV,Ab];exact⟨_,n,by rw[z],Ux,S,λ_=>⟨b,R,es,rfl,K,D9.flat.2 hr⟩⟩
theorem AVq (name:ByteArray)(h:NY N0 name=I):AC AF 180 [.c (.str name)] (.c (.bool I)):=by
 have K:=AE1 N0 name ZB;have e:KX name N0=true:=by
  simp only[NY,N0,mP,mQ,lz,T9,Awe]at h;unfold N0;rcases h with h|h|h|h|h|h<;>(subst h;decide +kernel)
 rw[e]at K;unfold Gv N0 at K;simp only[Ap,BB]at K;refine en func180 ntmps180 ?_;refine wu (.mk 2) (cj @AR.eq_1<|AR3) trivial ⟨?_⟩;refine Cn 0 ?_;refine AW.DA ?_;refine SW.op (.c (.sl [[.str ⟨#[104,97,116]⟩],[.str ⟨#[98,97,114]⟩],[.str ⟨#[118,101,99]⟩],[.str ⟨#[100,111,116]⟩],[.str ⟨#[116,105,108,100,101]⟩],[.str ⟨#[99,104,101,99,107]⟩]])) rfl rfl ?_ ?_;intro Q R x a w M;exact AVO (n:=6) (sz:=1) (te:=9) (es:=1) M.1 rfl ZC (λw=>by kernel_rfl) ZA rfl (by unfold maxLen;omega) Ux (O4 M.2 F);simp only[St.step,St.put,Bk,Ai,Ag];refine SW.take 3 (AH.out ?_);simp only[DP,ET];have B:=(cj @AR.eq_1<|AR3)
 repeat any_goals (first|refine Eo ?_|exact Bt B|refine De B ?_|refine BV B (K) ?_|refine DI B ?_)
 simp only[CU,B9];refine SW.nil ?_;exact wz (cj @AR.eq_1<|AR3) W
theorem AEF (f:AP)(name:ByteArray)(p:Int)(R:f.Fit)(S:f.valid=I)(M:1<=p)(Q:p<=1000):AC AF 182 [.agg f.vs,.c (.str name),p] (AU (f.pick name).attach p:Int):=by
 have K:=dy f name R.1;have B:=sw (f.pick name) p;rw[AKf S M Q name]at B;generalize o:f.pick name=G at K B ⊢;simp only[XT,Hg,BG.row,BG.scaled,AR,Ap,BB]at K B;refine en func182 ntmps182 ?_;exact wz (cj @AR.eq_1<|results182) (cj2 K B W)
def ABn (o:Option AA):V:=.A7 [.agg (o.getD AA.zero).vs,.c (.bool o.isSome)]
theorem AYg : ∀(b g:AA),b.D8=I->b.simp=J g->g.Fq:=λb g h B=>ABD g (ABo b g h B).1
mutual
theorem AKt : ∀(b g:AA),b.simp=J g->g.cnt<=b.cnt
 | ⟨k,n,s,w,h,d,x,y,K,o,src⟩,g,B=>by
   simp only[AA.simp]at B;split at B;cases B;exact BN _;split at B;have:=AYf K g B;simp only[AA.cnt];omega;cases B
theorem AYf : ∀(l:List AA) (g:AA),AA.VW l=J g->g.cnt<=AA.Az l
 | [],g,B=>by cases B
 | c::l,g,B=>by
   match l,B with
   | [],B =>
     simp only[AA.VW]at B;split at B;have:=AKt c g B;simp only[AA.Az];omega;cases B
   | _::_,B=>cases B
end
theorem AXB (b:AA)(hb:b.Ad=I):AC AF 218 [Ao b] (ABn b.simp):=by
 have B:=ABA b;rw[As];unfold ABn;have M:=hb;simp only[AA.Ad,Ak,Awe]at M;cases K:b.simp with
 | none=>rw[K]at B;simp only[Pf]at B;simp only[Hr,H8];refine en AQV AQ4 ?_;refine wu (.mk 1) (cj @AR.eq_1<|AR7) trivial ⟨?_⟩;refine Cn 0 ?_;refine wu (.mk 2) AR7 (cj B<|trivial) ⟨?_⟩;refine Og (.mk 1) trivial ?_;refine SW.eF (b:=I) (res:=U) rfl (.inr ⟨rfl,rfl⟩) ZC rfl rfl rfl (.inl ⟨rfl,rfl⟩) ?_;simp only[St.step,St.put,Bk,Ai,Ag];refine SW.nil ?_;exact wz (cj2 @AR.eq_1 @Fl AR7) W
 | some g=>have Q:=pW g (AYg b g M.1 K) (by have:=AKt b g K;omega);rw[K]at B;simp only[Pf]at B;rw[As]at Q;simp only[Dm,IZ];refine en AQV AQ4 ?_;refine wu (.mk 1) (cj @AR.eq_1<|AR7) trivial ⟨?_⟩;refine Cn 0 ?_;refine wu (.mk 2) AR7 (cj B<|trivial) ⟨?_⟩;refine Og (.mk 1) trivial ?_;refine SW.eF (b:=I) (res:=I) rfl (.inr ⟨rfl,rfl⟩) ZC rfl rfl rfl (.inr ⟨⟨_,_,rfl⟩,rfl⟩) ?_;simp only[St.step,St.put,Bk,Ai,Ag];refine SW.nil ?_;exact wz (cj @AR.eq_1<|AR7) (cj Q<|trivial)
theorem AVn (f:AP)(b:AA)(q:f.Fit)(S:f.valid=I)(hb:b.Ad=I)(z:b.BX):AC AF 181 [.agg f.vs,Ao b] (atR f b:Int):=by
 have Q:=Ma f;rw[S]at Q;have M:=EL b z (by have:=(D3 hb).2.2.2;omega);rw[hb]at M;have B:=AXB b hb;have e:atR f b=match b.simp with|some g=>AU (f.pick g.name).attach g.size|none=>Bm b.w:=F
 rw[e];rw[As]at *
 unfold ABn at B;cases R:b.simp with
 | none=>rw[R]at B;simp only[Hr,H8]at B;refine en func181 ntmps181 ?_;exact wz (cj2 @AR.eq_1 @Fl ADF) (cj Q<|cj M<|cj B<|cj (Ke b.w)<|trivial)
 | some g=>obtain⟨z1,z2⟩:=tA hb R;rw[R]at B;simp only[Dm,IZ]at B;have K:=AEF f g.name g.size q S z1 z2;obtain⟨k,n,sz,w,h,d,x,y,AE,o,src⟩:=g;simp only[AA.vs,AA.row,Ap,BB]at B K ⊢;refine en func181 ntmps181 ?_;exact wz (cj @AR.eq_1<|ADF) (cj4 Q M B K W)
theorem AVx (f:AP)(s:Aa)(name:ByteArray)(b:AA)(hf:f.Fit)(R:f.valid=I)(ho:s.ok=I)(hb:b.Ad=I)(ob:b.BX)(hn:NY N0 name=I):AC AF 137 [.agg f.vs,Aj s,.c (.str name),Ao b] (Ba (C8 (al f s name b (DB f name (BS f.params s)).1))):=by
 obtain⟨bw,bh,bd,bn⟩:=D3 hb;obtain⟨p1,p2⟩:=HE R ho;have CA:=EL b ob Ux;rw[hb]at CA;have C3:=LI f s;rw[show IT f s=(BS f.params s,0)from Awf (by simp[R,ho])]at C3;have C9:=AVq name hn;have q:=pn f name (BS f.params s) hf.1;rw[show QC f name (BS f.params s)=DB f name (BS f.params s)from Awd R]at q;have Fg:name.size<=16:=by
  simp only[NY,N0,mP,mQ,lz,T9,Awe]at hn;rcases hn with h|h|h|h|h|h<;>(subst h;decide)
 obtain⟨sg,sk,sc⟩:=lQ R p1 p2 Fg;have A7:=(Pk R p1 p2 name).1;have IN:(DB f name (BS f.params s))=((DB f name (BS f.params s)).1,0):=by rw[A7]
 rw[IN]at q;have Yf:=EI f.params.RO (BS f.params s);have bA:=DM (p:=BS f.params s) f.params.RO Ux p2;have cG:=AVn f b hf R hb ob;have A4 : -1073741824<=atR f b/\atR f b<=1073741824:=by
  unfold atR;split;rename_i g hs;obtain⟨z1,z2⟩:=tA hb hs;unfold AU;split;rename_i hh;have QV:=Ql R g.name;unfold BG.Small at QV;have:=Qh (f.pick g.name).attach g.size 20000 1000 Ux Ux Ux Ux;unfold Ea;split<;>omega;omega;exact J6 _
 have o:=AEF f name (BS f.params s) hf R p1 Ux;have z8:=DM (p:=BS f.params s) (f.pick name).attach Ux p2;obtain⟨S,hS⟩:=AI ((DB f name (BS f.params s)).1);rw[hS]at q sg ⊢;have eB:al f s name b S=Bf (mx (mx 0 (Vy f s name b+S8 f s name b+S.w)) (S8 f s name b+b.w)) (mx b.h (Vx f s b+S.h)) (mx b.d (S.d - Vx f s b)) [S.AS (Vy f s name b+S8 f s name b) (Vx f s b),b.AS (S8 f s name b) 0]:=F;have eX:Vy f s name b=atR f b - AU (f.pick name).attach (BS f.params s):=F;have eM:S8 f s name b=mx 0 (-(Vy f s name b)):=F;have z:Vx f s b=b.h - mn b.h (AU f.params.RO (BS f.params s)):=F;rw[eB];clear eB;obtain⟨X,hX⟩:=AI (Vy f s name b);obtain⟨M,hM⟩:=AI (S8 f s name b);obtain⟨U,hU⟩:=AI (Vx f s b);rw[hX]at eX eM ⊢;rw[hM]at eM ⊢;rw[hU]at z ⊢;obtain⟨P,hP⟩:=AI (BS f.params s);rw[hP]at C3 q Yf bA o z8 eX z p1 p2;obtain⟨Q,A2⟩:=AI (AU f.params.RO P);obtain⟨AT,A3⟩:=AI (AU (f.pick name).attach P);obtain⟨AB,A5⟩:=AI (atR f b);rw[A2]at Yf bA z;rw[A3]at o z8 eX;rw[A5]at cG A4 eX;have fm:(if Q<b.h then Q else b.h)=mn b.h Q:=F;have bm : -1073741824<=mn b.h Q/\mn b.h Q<=1073741824:=by rw[show mn b.h Q=min b.h Q by unfold mn;omega];omega
 obtain⟨MN,A6⟩:=AI (mn b.h Q);rw[A6]at fm bm z;have fU:b.h - MN=U:=z.symm;have fX:AB - AT=X:=eX.symm;have fM:(if X<0 then -X else 0)=M:=by rw[eM,DU];split<;>omega
 have bX : -2147483648<=X/\X<=2147483648:=Ux;have bU : -2147483648<=U/\U<=2147483648:=Ux;have bM:0<=M/\M<=2147483648:=by rw[eM,DU];omega
 clear hX hM hU hP A2 A3 A5 A6 hS IN A7;obtain⟨sd,so,sf,A8,B1,B2,A9,B0,B3,B7⟩:=sg;have a0:=Gu S (X+M) U (by cases S;simp only[AA.Fq]at sd;exact sd.1);have a1:=Gu b M 0 (Nn hb);have K:=kq [S.AS (X+M) U,b.AS M 0] ZA (by
  intro c hc;simp only[Cf,RE,Awj]at hc;rcases hc with rfl|rfl
  constructor<;>(unfold Oi;simp only[iU,iT,iS,iV,iW];omega);constructor<;>(unfold Oi;simp only[iU,iT,iS,iV,iW];omega))
 have eE:DQ [S.AS (X+M) U,b.AS M 0]=(mn (X+M) M,mx (X+M+S.w) (M+b.w),mx (U+S.h) (0+b.h),mx (S.d - U) (b.d - 0)):=F;rw[eE,Int.zero_add,Int.sub_zero]at K;unfold YG at K;have eW:mx (mx 0 (X+M+S.w)) (M+b.w)=mx 0 (mx (X+M+S.w) (M+b.w)):=by simp only[DU];omega
 have eH:mx b.h (U+S.h)=mx (U+S.h) b.h:=by simp only[DU];omega
 have eD:mx b.d (S.d - U)=mx (S.d - U) b.d:=by simp only[DU];omega
 rw[eW,eH,eD];have fW:(if 0<mx (X+M+S.w) (M+b.w)then mx (X+M+S.w) (M+b.w)else 0)=mx 0 (mx (X+M+S.w) (M+b.w)):=F;obtain⟨E0,h0⟩:=AI (mn (X+M) M);obtain⟨E1,h1⟩:=AI (mx (X+M+S.w) (M+b.w));obtain⟨E2,h2⟩:=AI (mx (U+S.h) b.h);obtain⟨E3,h3⟩:=AI (mx (S.d - U) b.d);rw[h0,h1,h2,h3]at K;rw[h1]at fW ⊢;rw[h2,h3];obtain⟨E4,h4⟩:=AI (mx 0 E1);rw[h4]at fW ⊢;clear h0 h1 h2 h3 h4 eE eW eH eD eX eM z;have BD:=My E4 E2 E3 [S.AS (X+M) U,b.AS M 0] ⟨HJ _ _ sd,HJ _ _ (GD hb),trivial⟩ (by simp only[AA.Az,Hb];omega);have Ct:=EL (Bf E4 E2 E3 [S.AS (X+M) U,b.AS M 0]) ⟨(CI _:0<=maxLen),(CI _:0<=maxLen),F4 _ _ so,F4 _ _ ob,trivial⟩ (by simp only[Bf,AA.cnt,AA.Az,Hb];omega);generalize Bf E4 E2 E3 [S.AS (X+M) U,b.AS M 0]=Z at BD Ct ⊢;obtain⟨A0,m0⟩:=AI (S.AS (X+M) U);obtain⟨A1,m1⟩:=AI (b.AS M 0);rw[m0]at a0 BD K;rw[m1]at a1 BD K;clear m0 m1;unfold Aj at *
 simp only[AA.AG,As,AR,Ba]at C3 q BD Ct CA cG a0 a1 K ⊢;unfold C8;refine en func137 ntmps137 ?_;have B:=(cj9 @fm @fU @fX @fM @fW @Ba.eq_1 @As @AR.eq_1 @Fl results137)
 repeat any_goals (first|refine Eo ?_|exact Bt B|refine De B ?_|refine BV B (C3) ?_|refine BV B (CA) ?_|refine BV B (C9) ?_|refine BV B (q) ?_|refine BV B (Yf) ?_|refine BV B (cG) ?_|refine BV B (o) ?_|refine BV B (a0) ?_|refine BV B (a1) ?_|refine BV B (K) ?_|refine BV B (BD) ?_|refine BV B (Ct) ?_|refine DI B ?_|((first|refine JC B ?_ ?_|refine JE B ?_ ?_|refine JD B ?_ ?_|refine JY B ?_ ?_)<;>intro h<;>try (exfalso;first|omega|contradiction)))
def Ui (y:Nat)(b e d:Int)(k:Nat):List V:=[.yl y,.cp [.int .i64 b] 0,.cp [.int .i64 e] 0,.cp [.int .i64 d] 0,.any,.c (.int .i64 (b+d*k)),.any,.any,.any,.any,.any,.any,.any,.any,.any,.any,.any]
theorem pk {α:Type}(val:α->Int)(l:List α)(b e d:Int)(hb:0<=b)(Fc:b<=1000000)(z:0<=d)(QL:d<=1000000)(TO:e<=1000000)(hv : ∀(k:Nat) (y:α),l[k]?=J y->val y=b+d*(k:Int))(R : ∀y∈l,val y<e)(JL:e<=b+d*(G l:Int)) :
 UU AF 222 [.cp [.int .i64 b] 0,.cp [.int .i64 e] 0,.cp [.int .i64 d] 0] (λy=>#[.int .i64 (val y)]) (λxs=>xs=l) (G l):=by
 refine UU.intro func222 rfl rfl λY=>?_
 simp only[ntmps222,BA,BO,Nat.reduceAdd,Nat.reduceSub,BY,Cy,BK,BU];refine ED trivial ?_;refine IW.loop (ι:={ k:Nat // k<=G l }) (λk=>(⟨l.take k.1,U⟩,⟨Ui Y.l b e d k.1,[]⟩)) (λk=>G l - k.1) ⟨0,Ux⟩ ZA ?_ ?_;refine G1.drop (by simp[DG,Ui]) (by simp[V.BI,V.A8,Ui]);rintro ⟨k,hk⟩;simp only[Ui];by_cases K:k<G l
 . obtain⟨y,S⟩:=AI (l[k]);have B:l[k]?=J y:=by rw[BE K,S]
   have M:=hv k y B;have Q:=R y (Cj B);rw[M]at Q;have Iu:0<=d*(k:Int):=Int.mul_nonneg z Ux;have q:b+d*(k:Int)+d=b+d*((k+1:Nat):Int):=by push_cast;rw[Int.mul_add];omega
   have hw:AZ.wrap (b+d*(k:Int)+d)=b+d*((k+1:Nat):Int):=by rw[Ac,q]
   refine ED @Q ?_;refine IL.yield y (Ui Y.l b e d k) rfl rfl (by simp[ev]) (by first|(simp[ev];exact⟨F,F⟩)|(simp[ev];done)) (by rw[M]) (by rw[Fa];omega) (by simp[DG,Ui]) (by simp[V.BI,V.A8,Ui]) ?_ ?_;simp only[St.put,Ui,Ag,Ai,BA,BO,Nat.reduceAdd,BY,Cy];refine ED @hw ?_;refine⟨⟨k+1,Ux⟩,by simp only;omega,?_,?_⟩;simp only[UD K,S];exact G1.drop (by simp[DG]) (by simp[V.BI,V.A8]);simp only[St.put,Ui,Ag,Ai,BA,BO,Nat.reduceAdd,BY,Cy];refine ED trivial ?_;exact⟨.inr F,λh=>nomatch h⟩
 have o:k=G l:=Ux;subst o;have Q : ¬(b+d*(G l:Int)<e):=Ux;refine ED @Q ?_;refine⟨.inl F,λ_=>?_⟩;simp
theorem iw (b e d:Int):AC AF 189 [b,e,d] (.fn 222 [.cp [.int .i64 b] 0,.cp [.int .i64 e] 0,.cp [.int .i64 d] 0]):=by
 refine en func189 ntmps189 ?_;with_reducible refine AW.seq ?_
 with_reducible refine AW.region ?_
 with_reducible refine If (by simp[BY];first|exact rfl|exact⟨F,F⟩) ?_
 with_reducible refine Kz ?_
 with_reducible refine G3 ?_
 refine Cn 0 ?_;refine Cn 1 ?_;refine Cn 2 ?_;refine Ah ?_;exact At results189
theorem xh (a:Int)(l:List Int)(hl:G l<=1000000):AC AF 221 [a,.c (AV l)] (l.foldl mx a:Int):=by
 obtain⟨K,R⟩:=AI (l.map (λn=>[C.int .i64 n]));have Q:G K=G l:=by rw[<-R];simp
 have Wd:AV l=.sl K:=by rw[<-R];rfl
 rw[Wd];refine en func221 ntmps221 ?_;refine go @Q ?_;refine CX (ι:={ k:Nat // k<=G l }) (λk=>[(0,((l.take k.1).foldl mx a:Int)),(9,(k.1:Int))]) (λ_=>[]) (λk=>G l - k.1) ⟨0,Ux⟩ ?_ ?_;exact DH;rintro ⟨k,hk⟩;simp only;by_cases B:k<G l;obtain⟨y,z⟩:=AI (l[k]);have q:K[k]?=J [.int .i64 y]:=by rw[<-R,CM,BE B,z];rfl
 have Ei:=gx q;have Dp:k<G K:=Ux;have hw:AZ.wrap ((k:Int)+1)=((k+1:Nat):Int):=by rw[Ac];simp
 have o:(l.take (k+1)).foldl mx a=mx ((l.take k).foldl mx a) y:=by rw[UD B,z,List.foldl_append];rfl
 obtain⟨M,S⟩:=AI ((l.take k).foldl mx a);rw[S]at o;simp only[S];refine wy (cj6 @B @Q @Dp @q @Ei @hw results221) trivial ⟨?_⟩;refine⟨⟨k+1,Ux⟩,by simp only;omega,?_⟩;simp only[o,mx];exact DH;obtain rfl:k=G l:=Ux;exact wz (cj2 @B @Q results221) W
def ACJ (cls CC:List Int)(k:Nat):List C:=[.int .i64 (k:Int),.int .i64 (cls.getD k 0),.int .i64 (CC.getD k 0)]
def fS (cls CC:List Int)(k:Nat):List Value:=[.int .i64 (k:Int),.int .i64 (cls.getD k 0),.int .i64 (CC.getD k 0)]
def Sh (y:Nat)(cls CC:List Int)(k:Nat):List V:=[.yl y,.cp [AV cls] 0,.cp [AV CC] 0,.any,.any,.any,.c (AV cls),.c (.int .i64 (G cls:Int)),.c (.int .i64 (k:Int)),.any,.any,.any,.any,.any,.any,.any,.any,.any,.any,.any,.any,.any,.any,.any]
theorem Aaa (cls CC:List Int)(h:G CC=G cls)(hl:G cls<=1000000):MS AF 35 [.cp [AV cls] 0,.cp [AV CC] 0] (λ(pre:List Unit) (_:Unit)=>#[.agg (fS cls CC (G pre)).toArray]) (λxs=>G xs=G cls) (G cls):=by
 refine MS.intro func35 rfl rfl λY=>?_
 simp only[ntmps35,BA,BO,Nat.reduceAdd,Nat.reduceSub,BY,Cy,BK,BU];refine ED @AV.eq_1 ?_;refine IW.loop (ι:={ k:Nat // k<=G cls }) (λk=>(⟨List.replicate k.1 (),U⟩,⟨Sh Y.l cls CC k.1,[]⟩)) (λk=>G cls - k.1) ⟨0,Ux⟩ rfl ?_ ?_;refine G1.drop (by simp[DG,Sh,AV]) (by simp[V.BI,V.A8,Sh]);rintro ⟨k,hk⟩;simp only[Sh];by_cases B:k<G cls;have z:AZ.wrap ((k:Int)+1)=((k+1:Nat):Int):=by rw[Ac];simp
 have K:k<G CC:=Ux;have o:cls.getD k 0=cls[k]:=by simp[Bv,BE B]
 have q:CC.getD k 0=CC[k]:=by simp[Bv,BE K]
 obtain⟨c,M⟩:=AI (cls[k]);obtain⟨v,R⟩:=AI (CC[k]);refine ED (cj4 @B @K @M @R @AV.eq_1) ?_;refine IL.AMF () (Sh Y.l cls CC k) rfl rfl (by simp[ev]) ?_ (by simpa using B) (by simp[DG,Sh,AV]) (by simp[V.BI,V.A8,Sh]) ?_ ?_;intro x w u Q;simp[ev,CV,AO,Ab]at Q;obtain⟨vs,rfl,_,_,S,⟨rfl,_⟩,_,_,rfl,⟨rfl,_⟩,_,rfl,rfl,_⟩:=Q;rw[H6,show vs=(fS cls CC k).toArray from Gx.1 (by rw[S];simp only[fS,o,q,M,R])];simp only[St.put,Sh,Ag,Ai,BA,BO,Nat.reduceAdd,BY,Cy];refine ED @z ?_;refine⟨⟨k+1,Ux⟩,by simp only;omega,?_,?_⟩;simp[List.replicate_succ'];exact G1.drop (by simp[DG,Sh,AV]) (by simp[V.BI,V.A8,Sh]);simp only[St.put,Sh,Ag,Ai,BA,BO,Nat.reduceAdd,BY,Cy];refine ED trivial ?_;exact⟨.inr F,λh=>nomatch h⟩;refine ED @B ?_;exact⟨.inl F,λ_=>by simp;omega⟩
theorem Aab (cls CC:List Int):AC AF 15 [.c (AV cls),.c (AV CC)] (.fn 35 [.cp [AV cls] 0,.cp [AV CC] 0]):=by
 unfold AV;refine en func15 ntmps15 ?_;with_reducible refine AW.seq ?_
 with_reducible refine AW.region ?_
 with_reducible refine If (by simp[BY];first|exact rfl|exact⟨F,F⟩) ?_
 with_reducible refine Kz ?_
 with_reducible refine G3 ?_
 refine Cn 0 ?_;refine Cn 1 ?_;refine Ah ?_;exact At results15
def El (q:Int×Int×Int):List C:=[.int .i64 q.1,.int .i64 q.2.1,.int .i64 q.2.2]
def E7 (cls W sp:List Int):Nat->List (Int×Int×Int)×(Int×Int×Int)
 | 0=>([],(W.getD 0 0,0,0))
 | k+1=>if OX cls (k+1)=I then((E7 cls W sp k).1++[(E7 cls W sp k).2],(W.getD (k+1) 0,sp.getD (k+1) 0,if cls.getD (k+1) 0=3 then 50 else 150))else((E7 cls W sp k).1,((E7 cls W sp k).2.1+(sp.getD (k+1) 0+W.getD (k+1) 0),(E7 cls W sp k).2.2))
def Ni (cls W sp:List Int)(k:Nat):List (Int×Int×Int):=(E7 cls W sp k).1++[(E7 cls W sp k).2]
def sF (cls W sp:List Int):Nat->V
 | 0=>.gr 6 3 []
 | k+1=>.Be 6 3 ((E7 cls W sp k).1.map El)
def sE (cls W sp:List Int):Nat->O
 | 0=>.tok 46 3 0
 | k+1=>.Be 46 3 ((E7 cls W sp k).1.length+1) ((El (E7 cls W sp k).2).map V.c)
theorem Q7 {n:Int}(B : -9223372036854775808<=n)(K:n<=9223372036854775807):(Lit.int .i64 n).wf=true:=by
 have:=fV .i64 n;rwa [wrap_i64 B K]at this
theorem o8 (k es n:Nat)(row:List C)(b:AA):b.vs.map (V.Db k es n row)=b.vs:=pT k es n row b.row
theorem AJP (cls W sp:List Int)(B : ∀k,-1073741824<=W.getD k 0/\W.getD k 0<=1073741824)(hs : ∀k,-1073741824<=sp.getD k 0/\sp.getD k 0<=1073741824):∀k:Nat,-((k:Int)+1)*2147483648<=(E7 cls W sp k).2.1/\(E7 cls W sp k).2.1<=((k:Int)+1)*2147483648
 | 0=>by have:=B 0;simp only[E7];omega
 | k+1=>by
   have K:=AJP cls W sp B hs k;have M:=B (k+1);have Q:=hs (k+1);simp only[E7];split;simp only;omega;simp only;omega
theorem AA1 (cls W sp:List Int):∀k,(E7 cls W sp k).1.length<=k
 | 0=>BN _
 | k+1=>by
   have:=AA1 cls W sp k;simp only[E7];split;simp;omega;simp only;omega
theorem jH {l:List Int}(h : ∀v∈l,-1073741824<=v/\v<=1073741824)(k:Nat): -1073741824<=l.getD k 0/\l.getD k 0<=1073741824:=by
 rw[Bv];cases B:l[k]? with
 | none=>simp
 | some v=>exact h v (Cj B)
def SJ (q:Int×Int×Int):Bool:=decide (0<=q.1) && (decide (q.1<=10000000) && (decide (-20000<=q.2.1) && decide (q.2.1<=20000)))
def Zk (L:List (Int×Int×Int)):Bool:=decide (G L<=64) && L.all SJ
theorem AW4 (f:AP)(D:C)(AE:List Nd)(s:Aa)(b:AA)(PL:C)(cls sp:List Int)(N:Nat)(hT:AC AF 12 [.agg f.vs,.c D,Am (Dd AE),Aj s] (.A7 [Ao b,AR 0]))(hP:AC AF 9 [.c D,.c (.sl (Nd.AG AE))] (.A7 [.c PL,AR 0]))(hC:AC AF 13 [.c D,.c (.sl (Nd.AG AE))] (.A7 [.c (AV cls),AR 0]))(hS:AC AF 14 [.agg f.vs,.c D,.c (.sl (Nd.AG AE)),Aj s] (.A7 [.c (AV sp),AR 0]))(Ws : ∀c∈b.AE,-1073741824<=c.w/\c.w<=1073741824)(Yi : ∀v∈cls,-1073741824<=v/\v<=1073741824)(Y2 : ∀v∈sp,-1073741824<=v/\v<=1073741824)(h0:0<N)(h1:N<=100)(hk:G b.AE=N)(hc:G cls=N)(hs:G sp=N) :
 AC AF 6 [.agg f.vs,.c D,Am (Dd AE),Aj s] (if Zk (Ni cls (b.AE.map AA.w) sp (N - 1))=I then .A7 [.c (.sl ((Ni cls (b.AE.map AA.w) sp (N - 1)).map El)),.c PL,AR 0]else .A7 [.c (.sl []),.c (.sl []),AR 6]):=by
 have hV:=Aab cls sp;have hI:=Aaa cls sp Ux Ux;obtain⟨rs,Aw⟩:=AI (AA.AG b.AE);have Av:G rs=N:=by rw[<-Aw,GA,hk]
 obtain⟨ns,Fg⟩:=AI (Nd.AG AE);obtain⟨CL,A6⟩:=AI (AV cls);obtain⟨SP,yQ⟩:=AI (AV sp);obtain⟨lv,cr⟩:=s;rw[Fg]at hP hC hS;rw[A6]at hC hV hI;rw[yQ]at hS hV hI;simp only[Am,Nd.vs,Aj,Nd.row,Dd,Ap,BB,As,AR,Fg]at hT hP hC hS ⊢;refine en func6 ntmps6 ?_;refine wy (cj2 @Aw @Av Xo) (cj5 hT hP hC hS hV trivial) ⟨?_⟩;obtain⟨W,hW⟩:=AI (b.AE.map AA.w);rw[hW];simp only[hc]at hI;have yW : ∀v∈W,-1073741824<=v/\v<=1073741824:=λv hv=>by
  rw[<-hW]at hv;obtain⟨c,h1,rfl⟩:=Da.1 hv;exact Ws c h1
 refine AW.le (Le.T4 5 0 46 3 rfl F) ?_;simp only[BA,BO,Nat.reduceAdd,Ag,Ai,BK,BU];refine AW.AXb (α:=Unit) rfl rfl rfl rfl rfl rfl (caps:=[.cp [CL] 0,.cp [SP] 0]) (by simp[ev]) rfl func35 ZC ZC (λpre _=>fS cls sp (G pre)) (λpre _=>ACJ cls sp (G pre)) N ?_ ?_ ArH (λ_ _=>rfl) Aox _ hI
  (λpre=>[O.box 27 f.vs U,O.box 33 [.c (.int .i64 1),.c (.str ⟨#[]⟩),.c (.int .i64 0),.c (.sl ns)] U,O.box 35 [.c (.int .i64 lv),.c (.bool cr)] U,O.box 56 b.vs U,O.box 39 [.c CL] U,O.box 38 [sF cls W sp (G pre)] U,sE cls W sp (G pre)]) ?_ 7 (λ_=>rfl) ZA ZA ZB ?_ ?_ ?_ ?_
 intro pre y S w hN;have b1:=jH Yi (G pre);have b2:=jH Y2 (G pre);simp only[ACJ,fS,B4,Ab];exact⟨_,_,F,⟨F,Q7 Ux Ux⟩,_,_,F,⟨F,Q7 Ux Ux⟩,_,_,F,⟨F,Q7 Ux Ux⟩,F⟩;intro pre y v hv;simp only[fS,Cf,RE,Awj]at hv;rcases hv with rfl|rfl|rfl<;>rfl
 rfl
 . rintro lp pre ⟨⟩ hN;simp only[Cp,BA,BO,Cz,Ag,Ai];obtain⟨k,Hh⟩:=AI (G pre);simp only[Hh]at hN ⊢;clear Hh pre;obtain⟨c,Yl⟩:∃c,b.AE[k]?=J c:=⟨_,BE Ux⟩
   have Q:rs[k]?=J c.row:=by rw[<-Aw,Dt,CM,Yl];rfl
   have Bu:=gx Q;have Dh:k<G rs:=Ux;have OM:W.getD k 0=c.w:=by rw[<-hW,Bv,CM,Yl];rfl
   have A8:=Ws c (Cj Yl);have B1:=Y2 (sp.getD k 0) (by rw[Bv,BE Ux];exact Kq _);simp only[ACJ,Ap,BB];obtain⟨cv,A2⟩:=AI (cls.getD k 0);obtain⟨sv,QW⟩:=AI (sp.getD k 0);rw[QW]at B1;simp only[A2,QW];obtain⟨b0,b1,b2,b3,b4,b5,b6,b7,bk,bo,bs⟩:=c;simp only[AA.row]at Q Bu OM A8;rcases k with _|j
   simp only[sF,sE,E7,OM,El,Ap,BB];refine wu (.mk 23) (cj5 @Aw @Av @Q @Bu @Dh Xo) trivial ⟨?_⟩;refine AW.lC rfl ?_;refine CY (.mk 3) trivial ?_;refine SW.Tq (.Be 6 3 []) (J (6,.Be 46 3 1 [.c (.int .i64 b3),.c (.int .i64 0),.c (.int .i64 0)])) (λk ob e=>by cases e;simp) rfl (λS0 w0 x a w g ht=>?_) ?_;have z:=CW ht (.tmp 115);have o:=CW ht (.tmp 117);simp only[ev,Om,On,CV]at z o;obtain⟨_,_,o⟩:=o;exact dk g rfl lX (by simp only[CV];exact z) o ZB rfl ZB ZB F;simp only[St.step,St.put,Bk,BA,BO,Nat.reduceAdd,Nat.reduceLT,Awg,Ag,Ai];refine CY (.mk 1) trivial ?_;refine SW.nil ⟨rfl,?_⟩;refine MV ?_;exact⟨F,_,wd 7 (hs:=Q0 _) (hh:=F) (hb:=P5 7 _)⟩
   . have qV:=AJP cls W sp (jH yW) (jH Y2) j;obtain⟨⟨R,w,u,p⟩,hq⟩:=AI (E7 cls W sp j);have Rt:=AJq cls (j+1) Ux Ux;rw[A6]at Rt;have Ec:OX cls (j+1)=I->E7 cls W sp (j+1)=(R++[(w,u,p)],(b3,sv,if cv=3 then 50 else 150)):=λh=>by simp only[E7];rw[Awd h,hq,OM,QW,A2]
     have Fb:OX cls (j+1)=U->E7 cls W sp (j+1)=(R,(w+(sv+b3),u,p)):=λh=>by simp only[E7];rw[Awf (by rw[h];simp),hq,OM,QW]
     have Md:G R<=j:=by rw[<-show (E7 cls W sp j).1=R by rw[hq]];exact AA1 cls W sp j
     rw[hq]at qV;simp only at qV;simp only[sF,sE,hq];cases B8:OX cls (j+1)with
     | false =>
       rw[B8]at Rt;rw[Fb B8];clear Ec Fb B8;obtain⟨K,hK⟩:=AI (j+1);rw[hK]at hN Yl Q Dh OM A2 QW Rt ⊢;have Bu:=gx Q;have qM:0<(K:Int):=Ux;obtain⟨M,hM⟩:=AI (G R);obtain⟨RR,YW⟩:=AI (R.map El);have WW:G RR=M:=by rw[<-YW,Ch,hM]
       rw[hM,YW];simp only[El,Ap,BB];refine wu (.mk 16) (cj6 @Aw @Av @Q @Bu @Dh @qM Xo) (cj Rt<|trivial) ⟨?_⟩;have e1:AZ.wrap (((M+1:Nat):Int) - 1)=(M:Int):=by rw[Ac];omega
       have xM:AZ.wrap (M:Int)=(M:Int):=Ac;have e2:AZ.wrap (sv+b3)=sv+b3:=Ac;have e3:AZ.wrap (w+(sv+b3))=w+(sv+b3):=Ac;refine AW.Lm Fz (.inr ZB) ?_;refine TW.take 2 (Es (by simp;first|exact rfl|exact⟨F,F⟩|exact⟨F,F,F⟩) (HI ?_));simp only[CU,B9];refine TW.op ⟨.c (.int .i64 ((M+1:Nat):Int)),E,E⟩ rfl (by intro k ob h;cases h) (λS0 w0 x a w' H g B Q=>?_) ?_;have z:CV x w' (.Be 6 3 RR) (a.eval (.tmp 87)):=B (.tmp 87) (by simp[Bl,Df]);rw[<-WW];exact AVB g rfl AgZ z (by unfold maxLen;omega);simp only[St.step,St.put,Bk,BA,BO,Nat.reduceAdd,Nat.reduceLT,Awg,Ag,Ai,BU,BK,CU,B9];refine TW.take 1 (Es (by simp[e1,xM];first|exact rfl|exact⟨F,F⟩|exact⟨F,F,F⟩) (HI ?_));simp only[CU,B9];refine TW.op ⟨.hp 6 (M+1) (M*3),E,J 6⟩ rfl (by intro k ob h;cases h) (λS0 w0 x a w' H g B Q=>?_) ?_;have z:CV x w' (.Be 6 3 RR) (a.eval (.tmp 86)):=B (.tmp 86) (by simp[Bl,Df]);have o:CV x w' (.c (.int .i64 (M:Int))) (a.eval (.tmp 89)):=B (.tmp 89) (by simp[Bl]);have hH:=Q 6 F;rw[<-WW]at o hH ⊢;exact r7 g rfl z o lX hH;simp only[St.step,St.put,Bk,BA,BO,Nat.reduceAdd,Nat.reduceLT,Awg,Ag,Ai,BU,BK,CU,B9];refine TW.op ⟨.hp 6 (M+1) (M*3),E,J 6⟩ rfl (by intro k ob h;cases h) (λS0 w0 x a w' H g B Q=>?_) ?_;have z:CV x w' (.hp 6 (M+1) (M*3)) (a.eval (.tmp 90)):=B (.tmp 90) (by simp[Bl]);exact AIx g rfl Anp ZB z (Q 6 F);simp only[St.step,St.put,Bk,BA,BO,Nat.reduceAdd,Nat.reduceLT,Awg,Ag,Ai,BU,BK,CU,B9];refine TW.op ⟨.c (.int .i64 w),E,J 6⟩ rfl (by intro k ob h;cases h) (λS0 w0 x a w' H g B Q=>?_) ?_;have z:CV x w' (.hp 6 (M+1) ((M+1 - 1)*3+0)) (a.eval (.tmp 91)):=B (.tmp 91) (by simp[Bl]);exact AVD g rfl ALi z (Q 6 F) F;simp only[St.step,St.put,Bk,BA,BO,Nat.reduceAdd,Nat.reduceLT,Awg,Ag,Ai,BU,BK,CU,B9];refine TW.take 5 (Es (by simp[e2,e3];first|exact rfl|exact⟨F,F⟩|exact⟨F,F,F⟩) (HI ?_));simp only[CU,B9];refine TW.op ⟨.hp 6 (M+1) (M*3),E,J 6⟩ rfl (by intro k ob h;cases h) (λS0 w0 x a w' H g B Q=>?_) ?_;have z:CV x w' (.Be 6 3 RR) (a.eval (.tmp 86)):=B (.tmp 86) (by simp[Bl,Df]);have o:CV x w' (.c (.int .i64 (M:Int))) (a.eval (.tmp 89)):=B (.tmp 89) (by simp[Bl]);have hH:=Q 6 F;rw[<-WW]at o hH ⊢;exact r7 g rfl z o lX hH;simp only[St.step,St.put,Bk,BA,BO,Nat.reduceAdd,Nat.reduceLT,Awg,Ag,Ai,BU,BK,CU,B9];refine TW.op ⟨.hp 6 (M+1) (M*3),E,J 6⟩ rfl (by intro k ob h;cases h) (λS0 w0 x a w' H g B Q=>?_) ?_;have z:CV x w' (.hp 6 (M+1) (M*3)) (a.eval (.tmp 98)):=B (.tmp 98) (by simp[Bl]);exact AIx g rfl Anp ZB z (Q 6 F);simp only[St.step,St.put,Bk,BA,BO,Nat.reduceAdd,Nat.reduceLT,Awg,Ag,Ai,BU,BK,CU,B9];refine TW.op ⟨.any,J (6,.Be 46 3 (M+1) [.c (.int .i64 (w+(sv+b3))),.c (.int .i64 u),.c (.int .i64 p)]),J 6⟩ rfl (by intro k ob h;cases h;simp) (λS0 w0 x a w' H g B Q=>?_) ?_;have z:CV x w' (.hp 6 (M+1) (M*3)) (a.eval (.tmp 99)):=B (.tmp 99) (by simp[Bl]);have o:=B (.tmp 97) (by simp[Bl]);exact AVQ g (e:=ev _) rfl ALi z o (Q 6 F) rfl rfl F;simp only[St.step,St.put,Bk,BA,BO,Nat.reduceAdd,Nat.reduceLT,Awg,Ag,Ai,BU,BK,CU,B9];refine TW.nil ⟨ZC,?_⟩;refine Ah ?_;exact⟨F,_,wd 7 (hs:=Q0 _) (hh:=F) (hb:=P5 7 _)⟩
     | true =>
       rw[B8]at Rt;rw[Ec B8];clear Ec Fb B8;generalize hK:j+1=K at hN Yl Q Dh OM A2 QW Rt ⊢;have Bu:=gx Q;have qM:0<(K:Int):=Ux;have vB : ¬(K:Int)=0:=Ux;obtain⟨M,hM⟩:=AI (G R);obtain⟨RR,YW⟩:=AI (R.map El);have WW:G RR=M:=by rw[<-YW,Ch,hM]
       simp only[Fm,Cp,BA,BO,Cz,hM,YW,El,Ap,BB];by_cases NP:cv=3
       . rw[Awd NP];refine wu (.mk 23) (cj8 @Aw @Av @Q @Bu @Dh @qM @vB @NP Xo) (cj Rt<|trivial) ⟨?_⟩;refine AW.le (Le.Db 6 (ty:=46) (es:=3) (n:=M) (cs:=[.c (.int .i64 w),.c (.int .i64 u),.c (.int .i64 p)]) (row:=[.int .i64 w,.int .i64 u,.int .i64 p]) rfl rfl ?_) ?_
         . intro j ty es A3 cs h;iterate 6 (rcases j with _|j;· simp at h)
           rcases j with _|j
           rfl;rcases j with _|j
           simp at h;simp at h
         simp only[Ap,BB,V.Db,O.Db,WW,and_self,Awg,lh,o8];obtain⟨R2,YU⟩:=AI (RR++[[C.int .i64 w,.int .i64 u,.int .i64 p]]);have e4:M+1=G R2:=by rw[<-YU];simp[WW]
         rw[YU,e4];refine AW.lC rfl ?_;refine CY (.mk 3) trivial ?_;refine SW.Tq (.Be 6 3 R2) (J (6,.Be 46 3 (G R2+1) [.c (.int .i64 b3),.c (.int .i64 sv),.c (.int .i64 50)])) (λk ob e=>by cases e;simp) rfl (λS0 w0 x a w' g ht=>?_) ?_;have z:=CW ht (.tmp 115);have o:=CW ht (.tmp 117);simp only[ev,Om,On]at z o;simp only[CV]at o;obtain⟨_,_,o⟩:=o;exact dk g rfl lX z o ZB rfl (by rw[<-e4];unfold maxLen;omega) (by rw[<-e4];omega) F;simp only[St.step,St.put,Bk,BA,BO,Nat.reduceAdd,Nat.reduceLT,Awg,Ag,Ai];refine CY (.mk 1) trivial ?_;refine SW.nil ⟨rfl,?_⟩;refine MV ?_;exact⟨F,_,wd 7 (hs:=Q0 _) (hh:=F) (hb:=P5 7 _)⟩
       . rw[Awf NP];refine wu (.mk 23) (cj8 @Aw @Av @Q @Bu @Dh @qM @vB @NP Xo) (cj Rt<|trivial) ⟨?_⟩;refine AW.le (Le.Db 6 (ty:=46) (es:=3) (n:=M) (cs:=[.c (.int .i64 w),.c (.int .i64 u),.c (.int .i64 p)]) (row:=[.int .i64 w,.int .i64 u,.int .i64 p]) rfl rfl ?_) ?_
         . intro j ty es A3 cs h;iterate 6 (rcases j with _|j;· simp at h)
           rcases j with _|j
           rfl;rcases j with _|j
           simp at h;simp at h
         simp only[Ap,BB,V.Db,O.Db,WW,and_self,Awg,lh,o8];obtain⟨R2,YU⟩:=AI (RR++[[C.int .i64 w,.int .i64 u,.int .i64 p]]);have e4:M+1=G R2:=by rw[<-YU];simp[WW]
         rw[YU,e4];refine AW.lC rfl ?_;refine CY (.mk 3) trivial ?_;refine SW.Tq (.Be 6 3 R2) (J (6,.Be 46 3 (G R2+1) [.c (.int .i64 b3),.c (.int .i64 sv),.c (.int .i64 150)])) (λk ob e=>by cases e;simp) rfl (λS0 w0 x a w' g ht=>?_) ?_;have z:=CW ht (.tmp 115);have o:=CW ht (.tmp 117);simp only[ev,Om,On]at z o;simp only[CV]at o;obtain⟨_,_,o⟩:=o;exact dk g rfl lX z o ZB rfl (by rw[<-e4];unfold maxLen;omega) (by rw[<-e4];omega) F;simp only[St.step,St.put,Bk,BA,BO,Nat.reduceAdd,Nat.reduceLT,Awg,Ag,Ai];refine CY (.mk 1) trivial ?_;refine SW.nil ⟨rfl,?_⟩;refine MV ?_;exact⟨F,_,wd 7 (hs:=Q0 _) (hh:=F) (hb:=P5 7 _)⟩
 . rintro xs hx;simp only[hx];obtain⟨M,hM⟩:∃M,N=M+1:=⟨N - 1,Ux⟩
   subst hM;simp only[aM];obtain⟨⟨R,w,u,p⟩,hq⟩:=AI (E7 cls W sp M);have Md:G R<=M:=by rw[<-show (E7 cls W sp M).1=R by rw[hq]];exact AA1 cls W sp M
   unfold Ni;simp only[sF,sE,hq,El,Ap,BB];refine MV ?_;refine G3 ?_;refine AW.le (Le.Db 6 (ty:=46) (es:=3) (n:=G R) (cs:=[.c (.int .i64 w),.c (.int .i64 u),.c (.int .i64 p)]) (row:=[.int .i64 w,.int .i64 u,.int .i64 p]) rfl rfl ?_) ?_
   . intro j ty es A3 cs h;iterate 6 (rcases j with _|j;· simp at h)
     rcases j with _|j
     rfl;simp at h
   simp only[Ap,BB,V.Db,O.Db,and_self,Awg,Ch,lh,o8];obtain⟨L,hL⟩:=AI (R++[(w,u,p)]);have cI:R.map El++[[.int .i64 w,.int .i64 u,.int .i64 p]]=L.map El:=by rw[<-hL];simp[El]
   have Io:G R+1=G L:=by rw[<-hL];simp
   rw[cI,Io];simp only[hL];obtain⟨n,hn⟩:=AI (G L);obtain⟨LR,yF⟩:=AI (L.map El);have WU:G LR=n:=by rw[<-yF,Ch,hn]
   unfold Zk;rw[hn,yF];by_cases B3:(n:Int)<=64;have xn:n<=64:=Ux;have B0 : ¬64<(n:Int):=Ux;rw[Awk xn,Cd];refine wy (cj2 @WU @B0 Xo) trivial ⟨?_⟩;refine CX (ι:={ k:Nat // k<=n/\(L.take k).all SJ=I }) (λk=>[(124,(k.1:Int))]) (λ_=>[O.box 27 f.vs U,O.box 33 [(1:Int),.c (.str ⟨#[]⟩),(0:Int),.c (.sl ns)] U,O.box 35 [lv,.c (.bool cr)] U,O.box 56 b.vs U,O.box 39 [.c CL] U,O.box 38 [.gr 6 3 LR] U,O.tok 46 3 n]) (λk=>n - k.1) ⟨0,ZA⟩ ?_ ?_;exact DH;rintro ⟨k,hk,A0⟩;simp only at hk ⊢;by_cases A1:k<n;obtain⟨⟨q1,q2,q3⟩,OH⟩:∃q,L[k]?=J q:=⟨_,BE Ux⟩
   have Q:LR[k]?=J [.int .i64 q1,.int .i64 q2,.int .i64 q3]:=by rw[<-yF,CM,OH];rfl
   have Bu:=gx Q;have Dh:k<G LR:=Ux;have hw:AZ.wrap ((k:Int)+1)=((k+1:Nat):Int):=by rw[Ac];simp
   cases A5:SJ (q1,q2,q3)with
   | false =>
     rw[Awf (by
      intro ha;have:=ES.1 ha _ (Cj OH);rw[A5]at this;cases this)]
     have B2:q1<0\/10000000<q1\/q2 < -20000\/20000<q2:=by
      simp only[SJ,Bool.and_eq_false_iff,decide_eq_false_iff_not]at A5;omega
     clear A5 A0;by_cases g1:q1<0;exact wz (cj6 @A1 @WU @Q @Bu @Dh @g1 Xo) trivial;by_cases g2:10000000<q1;exact wz (cj7 @A1 @WU @Q @Bu @Dh @g1 @g2 Xo) trivial;by_cases g3:q2 < -20000;exact wz (cj8 @A1 @WU @Q @Bu @Dh @g1 @g2 @g3 Xo) trivial;have g4:20000<q2:=Ux;exact wz (cj9 @A1 @WU @Q @Bu @Dh @g1 @g2 @g3 @g4 Xo) trivial
   | true =>
     have cU:(L.take (k+1)).all SJ=true:=by
      rw[List.take_add_one,OH,List.all_append,A0];simp[A5]
     simp only[SJ,Ak,Awe]at A5;obtain⟨o1,o2,o3,o4⟩:=A5;have g1 : ¬q1<0:=Ux;have g2 : ¬10000000<q1:=Ux;have g3 : ¬q2 < -20000:=Ux;have g4 : ¬20000<q2:=Ux;clear A0;refine wy (cj9 @A1 @WU @Q @Bu @Dh @g1 @g2 @g3 @g4<|cj @hw Xo) trivial ⟨?_⟩;exact⟨⟨k+1,Ux,cU⟩,by simp only;omega,wd 7⟩
   have ek:k=n:=Ux;subst ek;rw[<-hn,List.take_length]at A0;rw[Awd A0];clear A0;exact wz (cj2 @A1 @WU Xo) trivial;rw[Awl Ux,D4,Awf ZA];have xn:64<(n:Int):=Ux;exact wz (cj2 @WU @xn Xo) trivial
 rintro (_|⟨_,_⟩)<;>rfl;rintro (_|⟨_,_⟩)<;>rfl
def vu (sp:List Int)(A:Nat->Int)(q:Int×Int×Int)(p p':Nat):Prop:=q.2.1=sp.getD p 0/\q.1=A p' - A p - sp.getD p 0
def Sy (sp:List Int)(A:Nat->Int):List (Int×Int×Int)->List Int->Nat->Prop
 | [],[],_=>True
 | [q],[p],n=>∃a:Nat,p=(a:Int)/\a<n/\vu sp A q a n
 | q::q'::l,p::p'::r,n=>(∃a b:Nat,p=(a:Int)/\p'=(b:Int)/\a<b/\vu sp A q a b)/\Sy sp A (q'::l) (p'::r) n
 | _,_,_=>False
theorem AA4 {sp:List Int}{A:Nat->Int}{n:Nat}{w:Int}(K:A (n+1)=A n+sp.getD n 0+w):∀(L:List (Int×Int×Int)) (q:Int×Int×Int) (P:List Int),Sy sp A (L++[q]) P n->Sy sp A (L++[(q.1+(sp.getD n 0+w),q.2)]) P (n+1)
 | [],q,[p],h=>by
   obtain⟨a,e,Q,M,R⟩:=h;exact⟨a,e,Ux,M,by simp only;omega⟩
 | [],q,[],h=>by cases h
 | [],q,_::_::_,h=>by cases h
 | [x],q,p::B::r,h=>⟨h.1,AA4 K [] q (B::r) h.2⟩
 | x::y::L,q,p::B::r,h=>⟨h.1,AA4 K (y::L) q (B::r) h.2⟩
 | x::y::L,q,[],h=>by cases h
 | x::y::L,q,[p],h=>by cases h
 | [x],q,[],h=>by cases h
 | [x],q,[p],h=>by cases h
theorem AA5 {sp:List Int}{A:Nat->Int}{n:Nat}{w:Int}(K:A (n+1)=A n+sp.getD n 0+w)(c:Int):∀(L:List (Int×Int×Int)) (q:Int×Int×Int) (P:List Int),Sy sp A (L++[q]) P n->Sy sp A (L++[q]++[(w,sp.getD n 0,c)]) (P++[(n:Int)]) (n+1)
 | [],q,[p],h=>by
   obtain⟨a,e,M,Q⟩:=h;exact⟨⟨a,n,e,F,M,Q⟩,n,F,Ux,F,by simp only;omega⟩
 | [],q,[],h=>by cases h
 | [],q,_::_::_,h=>by cases h
 | [x],q,p::B::r,h=>⟨h.1,AA5 K c [] q (B::r) h.2⟩
 | x::y::L,q,p::B::r,h=>⟨h.1,AA5 K c (y::L) q (B::r) h.2⟩
 | x::y::L,q,[],h=>by cases h
 | x::y::L,q,[p],h=>by cases h
 | [x],q,[],h=>by cases h
 | [x],q,[p],h=>by cases h
theorem AJV {cls W sp:List Int}{A:Nat->Int}{N:Nat}(Q:A 0=0)(hs:sp.getD 0 0=0)(K : ∀k,k<N->A (k+1)=A k+sp.getD k 0+W.getD k 0):∀k,k<N->Sy sp A (Ni cls W sp k) (FZ cls (k+1)) (k+1)
 | 0,h=>by
   have:=K 0 h;have e:FZ cls (0+1)=[0]:=by simp[FZ,AJW]
   rw[e];unfold Ni E7;exact⟨0,F,Ux,by rw[hs],by simp only;omega⟩
 | k+1,h=>by
   have B:=AJV (cls:=cls) Q hs K k Ux;have M:=K (k+1) h;unfold Ni at B ⊢;simp only[E7];rw[FZ];cases R:OX cls (k+1)with
   | true=>have:=AA5 M (if cls.getD (k+1) 0=3 then 50 else 150) _ _ _ B;simpa using this
   | false=>have:=AA4 M _ _ _ B;simpa using this
theorem AA3 {sp:List Int}{A:Nat->Int}{n:Nat} : ∀ {L:List (Int×Int×Int)} {P:List Int},Sy sp A L P n->∀(j:Nat) (q:Int×Int×Int),L[j]?=J q->∃p p':Nat,P[j]?=J (p:Int)/\(P++[(n:Int)])[j+1]?=J (p':Int)/\p<p'/\vu sp A q p p'
 | [],_,_,j,q,B=>by simp at B
 | [x],[p],h,0,q,B=>by
   simp at B;subst B;obtain⟨a,e,K,M⟩:=h;exact⟨a,n,by rw[e];rfl,rfl,K,M⟩
 | [x],[p],h,j+1,q,B=>by simp at B
 | [x],[],h,_,_,_=>by cases h
 | [x],_::_::_,h,_,_,_=>by cases h
 | x::y::L,[],h,_,_,_=>by cases h
 | x::y::L,[p],h,_,_,_=>by cases h
 | x::y::L,p::p'::r,h,0,q,B=>by
   simp at B;subst B;obtain⟨⟨a,b,Q,R,K,M⟩,_⟩:=h;exact⟨a,b,by rw[Q];rfl,by rw[R];rfl,K,M⟩
 | x::y::L,p::p'::r,h,j+1,q,B=>by
   obtain⟨a,b,S,o,z⟩:=AA3 h.2 j q (by simpa using B);exact⟨a,b,by simpa using S,by simpa using o,z⟩
theorem AWY (cls:List Int)(k:Nat)(h:OX cls k=I):(FZ cls (k+1)).map PX=(FZ cls k).map PX++[PX (k:Int)]:=by simp only[FZ,Awd h,Fm];rfl
theorem AJj (cls:List Int)(k:Nat)(h:OX cls k=U):FZ cls (k+1)=FZ cls k:=by simp only[FZ];rw[Awf (by rw[h];simp),E5]
theorem AVp (d:List En)(l:List Nd)(hd:G d<=1000000)(hs : ∀e∈d,e.text.size<=maxLen)(A5:(Dd l).BX)(hc:(Dd l).cnt<=100000):AC AF 9 [.c (Cc d),.c (.sl (Nd.AG l))] (W4 (XL d l)):=by
 have Q:=AJD d l hd hs A5 Ux;have Mi:=SH l;have jf:=rY l;have K:=@AOU d l;unfold XL;obtain⟨⟨B,e⟩,hR⟩:=AI (O2 d l);rw[hR]at Q K ⊢;unfold W4 AR at *
 simp only at Q K ⊢;have hz:AV []=.sl []:=F;obtain⟨rs,Aw⟩:=AI (Nd.AG l);have Av:G rs=G l:=by rw[<-Aw];exact Pc l
 rw[Aw]at Q ⊢;generalize hn:G l=n at Av Mi K ⊢;by_cases z:e=0;rw[Awf Ux];have DK:=K z;subst z;by_cases h0:n=0;rw[Awd h0];simp only;rw[hz];have JJ:(G rs:Int)=0:=Ux;subst h0;refine en func9 ntmps9 ?_;exact wz (cj2 @Av @JJ Yd) (cj Q<|trivial);rw[Awf h0];simp only;have JJ : ¬(n:Int)=0:=Ux;have Rt:=λk hk=>AJq B k hk Ux
 generalize hC:AV B=CL at Q Rt;refine en func9 ntmps9 ?_;refine wy (cj2 @Av @JJ Yd) (cj Q<|trivial) ⟨?_⟩;refine AW.le (Le.AZr 8 3 1 [[.int .i64 0]] rfl ZA) ?_;simp only[BO,BA,Nat.reduceAdd,Ag,Ai,BU];refine CX (ι:={ k:Nat // k<=n }) (λk=>[(8,.gr 0 1 ((FZ B k.1).map PX)),(25,(k.1:Int))]) (λk=>[.tok 3 1 (G (FZ B k.1))]) (λk=>n - k.1) ⟨0,ZA⟩ ?_ ?_;exact ER (cj2 @FZ.eq_1 @FZ.eq_2 @PX.eq_1);rintro ⟨k,hk⟩;simp only;by_cases R:k<n;have hp:=Rt k Ux;have A0:=AJi B k;obtain⟨M,q⟩:=AI (G (FZ B k));cases S:OX B k with
 | false =>
   rw[S]at hp;rw[<-AJj B k S];have Pu:M=G (FZ B (k+1)):=by rw[AJj B k S,q]
   refine wy (cj @R<|Yd) (cj hp<|trivial) ⟨?_⟩;exact⟨⟨k+1,Ux⟩,by simp only;omega,wd 1⟩
 | true =>
   rw[S]at hp;have GP:=AWY B k S;have Pu:M+1=G (FZ B (k+1)):=by simp only[FZ,Awd S,Cp,q];rfl
   have Md:G ((FZ B k).map PX)=M:=by rw[Ch,q]
   have o:=ATN (FZ B k);generalize YW:(FZ B k).map PX=RR at GP Md o ⊢;have FO:M+1<=maxLen:=by unfold maxLen;omega
   have EX:(M+1)*8<=140737488355328:=Ux;have Y4:RR++[[C.int .i64 (k:Int)]]=(FZ B (k+1)).map PX:=GP.symm;clear GP;rw[q];refine wy (cj6 @R @Md @FO @EX @Y4 @Pu Yd) (cj hp<|trivial) ⟨?_⟩;exact⟨⟨k+1,Ux⟩,by simp only;omega,wd 1⟩
 have ek:k=n:=Ux;subst ek;rw[rS (FZ B k)];exact wz (cj @R<|Yd) W;rw[Awd z];simp only;rw[hz];refine en func9 ntmps9 ?_;exact wz (cj @z<|Yd) (cj Q<|trivial)
theorem AtD (d:List En)(l:List Nd)(hd:G d<=1000000)(hs : ∀e∈d,e.text.size<=maxLen)(A5:(Dd l).BX)(hc:(Dd l).cnt<=100000):AC AF 20 [.c (Cc d),.c (.sl (Nd.AG l))] (W4 (XL d l)):=by
 have h1:=Amc d l hd hs A5 Ux;have Mi:=SH l;have jf:=rY l;have K:=@AOU d l;unfold XL;obtain⟨⟨B,e⟩,hR⟩:=AI (O2 d l);rw[hR]at h1 K ⊢;unfold W4 AR at *
 simp only at h1 K ⊢;have hz:AV []=.sl []:=F;obtain⟨rs,Aw⟩:=AI (Nd.AG l);have z:G rs=G l:=by rw[<-Aw];exact Pc l
 rw[Aw]at h1 ⊢;generalize hn:G l=n at z Mi K ⊢;by_cases he:e=0
 . rw[Awf Ux];have DK:=K he;subst he;by_cases h0:n=0;rw[Awd h0];simp only;rw[hz];have JJ:(G rs:Int)=0:=Ux;subst h0;refine en nD nR ?_;exact wz (cj2 @z @JJ nf) (cj h1<|trivial)
   . rw[Awf h0];simp only;have JJ : ¬(n:Int)=0:=Ux;obtain⟨cs,q⟩:=AI (B.map PX);have o:G cs=n:=by rw[<-q,Ch,DK]
     rw[rS B,q]at h1;refine en nD nR ?_;refine wy (cj2 @z @JJ nf) (cj h1<|trivial) ⟨?_⟩;refine AW.le (Le.AZr 8 3 1 [[.int .i64 0]] rfl ZA) ?_;simp only[BO,BA,Nat.reduceAdd,Ag,Ai,BU];refine CX (ι:={ k:Nat // k+1<=n }) (λk=>[(8,.gr 0 1 ((FZ B (k.1+1)).map PX)),(9,((k.1:Int)+1:Int))]) (λk=>[.tok 3 1 (G (FZ B (k.1+1)))]) (λk=>n - k.1) ⟨0,Ux⟩ ?_ ?_;exact ER (cj3 @FZ.eq_1 @FZ.eq_2 @PX.eq_1 @AJW)
     . rintro ⟨j,hj⟩;simp only;obtain⟨k,EC⟩:=AI (j+1);by_cases Q:k<n
       . obtain⟨c,HL⟩:∃c,B[k]?=J c:=⟨_,BE Ux⟩
         obtain⟨p,G8⟩:∃c,B[j]?=J c:=⟨_,BE Ux⟩
         have A9:cs[k]?=J [.int .i64 c]:=by rw[<-q,CM,HL];rfl
         have Bu:=gx A9;have Rx:cs[j]?=J [.int .i64 p]:=by rw[<-q,CM,G8];rfl
         have S:=gx Rx;have GN:j<n:=Ux;have A2:=AJi B k;have R:OX B k=(!decide (p=3) && (decide (c=3) || decide (c=2))):=by
          unfold OX;have g1:B.getD (k - 1) 0=p:=by rw[<-EC,aM,Bv,G8];rfl
          have g2:B.getD k 0=c:=by rw[Bv,HL];rfl
          have g3 : ¬k=0:=Ux;rw[g1,g2,Awl g3,ly,Cd]
         obtain⟨M,hM⟩:=AI (G (FZ B k));have hK:(j:Int)+1=(k:Int):=Ux;have vB:(k:Int) - 1=(j:Int):=Ux;rw[hK,EC];cases hb:OX B k with
         | false =>
           rw[hb]at R;have Pu:G (FZ B (k+1))=G (FZ B k):=by rw[AJj B k hb]
           by_cases p3:p=3
           . have ff:=(cj9 @z @o @Q @A9 @Bu @Rx @S @GN @vB<|cj @p3 nf)
             have cc:=W;repeat any_goals (first|refine Du ff cc ⟨?_⟩|exact Bt ff|(refine Dv ff ?_ ?_<;>intro h<;>try exact Dw))
             all_goals (rw[<-AJj B k hb];exact⟨⟨k,Ux⟩,by simp only;omega,wd 1⟩)
           . rw[Awl p3,ly,Cd]at R;have c3 : ¬c=3:=λe=>by rw[e]at R;simp at R
             have c2 : ¬c=2:=λe=>by rw[e]at R;simp at R
             have ff:=(cj9 @z @o @Q @A9 @Bu @Rx @S @GN @vB<|cj2 @c3 @c2 nf)
             have cc:=W;repeat any_goals (first|refine Du ff cc ⟨?_⟩|exact Bt ff|(refine Dv ff ?_ ?_<;>intro h<;>try exact Dw))
             all_goals (rw[<-AJj B k hb];exact⟨⟨k,Ux⟩,by simp only;omega,wd 1⟩)
         | true =>
           rw[hb]at R;have p3 : ¬p=3:=λe=>by rw[e]at R;simp at R
           have A1:c=3\/c=2:=by simpa [p3]using R.symm
           have GP:=AWY B k hb;have Pu:M+1=G (FZ B (k+1)):=by simp only[FZ,Awd hb,Cp,hM];rfl
           have Md:G ((FZ B k).map PX)=M:=by rw[Ch,hM]
           have A0:=ATN (FZ B k);generalize YW:(FZ B k).map PX=RR at GP Md A0 ⊢;have FO:M+1<=maxLen:=by unfold maxLen;omega
           have EX:(M+1)*8<=140737488355328:=Ux;have Y4:RR++[[C.int .i64 (k:Int)]]=(FZ B (k+1)).map PX:=GP.symm;clear GP;rw[hM];by_cases c3:c=3;refine wy (cj9 @z @o @Q @A9 @Bu @Rx @S @GN @vB<|cj7 @p3 @c3 @Md @FO @EX @Y4 @Pu nf) trivial ⟨?_⟩;exact⟨⟨k,Ux⟩,by simp only;omega,wd 1⟩;have c2:c=2:=Ux;refine wy (cj9 @z @o @Q @A9 @Bu @Rx @S @GN @vB<|cj8 @p3 @c3 @c2 @Md @FO @EX @Y4 @Pu nf) trivial ⟨?_⟩;exact⟨⟨k,Ux⟩,by simp only;omega,wd 1⟩
       have ek:k=n:=Ux;have hK:(j:Int)+1=(k:Int):=Ux;rw[hK,EC];subst ek;rw[rS (FZ B k)];exact wz (cj2 @z @Q nf) W
 rw[Awd he];simp only;rw[hz];refine en nD nR ?_;exact wz (cj @he<|nf) (cj h1<|trivial)
theorem AkY (L:List Int)(hl:G L<=1000000):AC AF 8 [.c (AV L),.c (AV L)] (.c (.bool I)):=by
 obtain⟨Q,M⟩:=AI (L.map PX);have K:G Q=G L:=by rw[<-M,Ch]
 rw[rS,M];refine en func8 ntmps8 ?_;refine wy (cj @K<|results8) trivial ⟨?_⟩;refine CX (ι:={ k:Nat // k<=G L }) (λk=>[(4,.c (.bool U)),(5,(k.1:Int))]) (λ_=>[]) (λk=>G L - k.1) ⟨0,ZA⟩ ?_ ?_;exact DH;rintro ⟨k,z⟩;simp only;by_cases B:k<G L;obtain⟨c,q⟩:∃c,L[k]?=J c:=⟨_,BE B⟩
 have R:Q[k]?=J [.int .i64 c]:=by rw[<-M,CM,q];rfl
 have o:k<G Q:=Ux;have S:=gx R;refine wy (cj5 @K @B @o @R @S results8) trivial ⟨?_⟩;exact⟨⟨k+1,Ux⟩,by simp only;omega,wd 0⟩;exact wz (cj2 @K @B results8) W
def gP:Nd:=⟨2,⟨#[97]⟩,0,[]⟩
def vC:Nd:=⟨2,⟨#[43]⟩,0,[]⟩
def nT:List En:=[⟨⟨#[43]⟩,2,U,U⟩]
theorem An8:XL nT [gP,vC,gP]=([0,1],0):=by
 have M:Ll nT=true:=by decide +kernel
 have Q:(Dd [gP,vC,gP]).Ad=true:=by decide +kernel
 have B:N5 nT gP=0:=by rw[AEu];decide +kernel
 have K:N5 nT vC=2:=by rw[AEu];decide +kernel
 have e:JP nT [gP,vC,gP]=[0,2,0]:=by simp[JP,B,K]
 have ec:O2 nT [gP,vC,gP]=(I6 [0,2,0],0):=by unfold O2;rw[Awf (by rw[M,Q];simp),e]
 unfold XL;rw[ec];decide +kernel
theorem As2:AC AF 4 [] (.c (.bool I)):=by
 have B:=AVp nT [gP,vC,gP] ZB (by decide +kernel) ⟨ZB,ZB,⟨ZB,ZB,trivial⟩,⟨ZB,ZB,trivial⟩,⟨ZB,ZB,trivial⟩,trivial⟩ (by decide +kernel);rw[An8]at B;have R:=AkY [0,1] ZB;have M:Cc nT=.sl [[.str ⟨#[43]⟩,.int .i64 2,.bool U,.bool U]]:=F;have Q:Nd.AG [gP,vC,gP]=[[.int .i64 2,.str ⟨#[97]⟩,.int .i64 0,.sl []],[.int .i64 2,.str ⟨#[43]⟩,.int .i64 0,.sl []],[.int .i64 2,.str ⟨#[97]⟩,.int .i64 0,.sl []]]:=F;have K:AV [0,1]=.sl [[.int .i64 0],[.int .i64 1]]:=F;unfold W4 AR at B;rw[M,Q,K]at B;rw[K]at R;clear M Q K;refine en func4 ntmps4 ?_;exact wz results4 (cj2 B R W)
theorem gx1 {α:Type}{l:List α}{k:Nat}{x:α}(h:l[k]?=J x):∀B:k<G l,l[k]'B=x:=λB=>by rw[BE B]at h;exact ML h
def vY:List UInt8:=[40,41,91,93,123,125,124,60,62,47,46]
theorem AkO (b:UInt8):vY.contains b=Qj b:=by
 unfold Qj;rw[Oj,mR,mR];simp[vY,Gf];constructor<;>(intro h;rcases h with h|h|h|h|h|h|h|h|h|h|h<;>simp[h])
theorem Al6 {a b:UInt8}:decide ((a.toNat:Int)=(b.toNat:Int))=(a==b):=by
 rw[Oj,decide_eq_true_iff,beq_iff_eq];constructor;intro h;exact UInt8.toNat_inj.1 Ux;intro h;rw[h]
theorem AmF (s:ByteArray)(hs:s.size<=maxLen):AC AF 242 [.c (.str s)] (.c (.bool (Nh s))):=by
 have A1:(s.size:Int)<=9223372036854775807:=by have hm:maxLen=9223372036854775807:=F;omega
 have A2 : ∀k:Nat,k<s.size->AZ.wrap ((k:Int)+1)=(k:Int)+1:=λk hk=>Ac
 clear hs A1;refine en func242 ntmps242 ?_;refine wy AHA trivial ⟨?_⟩;refine CX (ι:={ k:Nat // k<=s.size/\SU s k=SU s 0 }) (λk=>[(2,.c (.bool U)),(3,(k.1:Int))]) (λ_=>[]) (λk=>s.size - k.1) ⟨0,ZA⟩ ?_ ?_;exact DH
 . rintro ⟨k,hk,hI⟩;simp only;by_cases B:k<s.size
   . obtain⟨b,hb⟩:=AI ((s[k]'B));have K:=AXn B;rw[hb]at K;have Ga:s.data.toList[k]?=J b:=by rw[BE (by simpa using B)];exact congrArg J hb
     have OM:=A2 k B;refine wy (cj @B<|AHA) trivial ⟨?_⟩;refine CX (ι:={ x:Nat×Bool // x.1<=11/\(x.2 || (vY.drop x.1).contains b)=Qj b }) (λx=>[(4,.c (.bool x.1.2)),(5,(x.1.1:Int))]) (λ_=>[]) (λx=>11 - x.1.1) ⟨(0,U),CI _,by rw[B9,tf,AkO]⟩ ?_ ?_;exact DH
     . rintro ⟨⟨j,fd⟩,hj,Q⟩;simp only at hj Q ⊢;by_cases q:j<11
       . obtain⟨x,hx⟩:=AI (vY[j]'q);have R:([40,41,91,93,123,125,124,60,62,47,46]:List UInt8)[j]?=J x:=by rw[<-hx];exact BE (l:=vY) q
         have S:=gx1 R;rw[D5 (l:=vY) q,hx,List.contains_cons]at Q;have A0:decide ((x.toNat:Int)=(b.toNat:Int))=(x==b):=Al6;have o:(j:Int)<11:=Ux;have M:=(cj7 @B @o @Ga @R @S @A0 @OM AHA)
         have z:=W;repeat any_goals (first|refine Du M z ⟨?_⟩|exact Bt M|(refine Dv M ?_ ?_<;>intro h<;>try exact Dw))
         exact⟨⟨(j+1,I),Ux,by rw[<-Q,h];rfl⟩,by simp only;omega,wd 0⟩;exact⟨⟨(j+1,x==b),Ux,by rw[<-Q,h,tf,show (x==b)=(b==x)from BEq.comm]⟩,by simp only;omega,wd 0⟩
       . have NR:vY.drop j=[]:=FA (by show 11<=j;omega);rw[NR,List.contains_nil,lz]at Q;have o : ¬(j:Int)<11:=Ux;rw[<-Q]at K;have M:=(cj3 @B @o @OM AHA)
         have z:=W;repeat any_goals (first|refine Du M z ⟨?_⟩|exact Bt M|(refine Dv M ?_ ?_<;>intro h<;>try exact Dw))
         rw[h,D4]at K;have e:=AJG (hI.symm.trans K);exact wz (cj @e<|AHA) W;rw[h,Cd]at K;exact⟨⟨k+1,Ux,K.symm.trans hI⟩,by simp only;omega,wd 0⟩
   have e:=AVr (hI.symm.trans (AXm B));have e2:decide ((s.size:Int)=2)=decide (s.size=2):=by rw[Awi];omega
   exact wz (cj3 @B @e @e2 AHA) W
end Go.Proofs.YtegconioojpgmaaGreat
