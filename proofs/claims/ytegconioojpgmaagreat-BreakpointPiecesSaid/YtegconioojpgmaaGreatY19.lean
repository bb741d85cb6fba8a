/- Part of the proof of breakpointPieces.proved. Conditions: none. -/
import Derived.Test.YtegconioojpgmaaGreatY14
import Derived.Test.YtegconioojpgmaaGreatY15
import Derived.Test.YtegconioojpgmaaGreatY16
set_option linter.unusedVariables false
set_option linter.unusedSimpArgs false
set_option maxRecDepth 100000
set_option maxHeartbeats 16000000
open Go.Proofs.Tryz renaming prog->AF,results286->u3,func251->uj,ntmps251->u7,results251->RI
open List renaming take_left'->fZ,replicate->Aq,length_nil->BO
open Option renaming some->J
open Bool renaming false->U,true->I
open List renaming length->G
namespace Go.Proofs.YtegconioojpgmaaGreat
open Go.RowKit Tryz
variable (a:AA)
theorem AP0 (l:List AA)(hl:G l<=1000000)(A1:l≠[])(ht : ∀b∈l,oI b):AC AF 286 [.c (.sl (AA.AG l))] (.agg (YG (DQ l))):=by
 obtain⟨rs,q⟩:=AI (AA.AG l);have M:G rs=G l:=by rw[<-q,Dt];simp
 have Lu : ¬G l=0:=λh=>A1 (Nr h)
 have S : ¬(G l:Int)=0:=Ux;rw[q];refine en func286 ntmps286 ?_;refine wy (cj3 @M @S @Lu u3) trivial ⟨?_⟩;refine CX (ι:={ k:Nat // k<=G l }) (λk=>[(4,(k.1:Int))]) (λk=>[.box 128 [(0:Int),(0:Int),(0:Int),(0:Int)] U,.box 128 (YG (DQ (l.take k.1))) U]) (λk=>G l - k.1) ⟨0,ZA⟩ ?_ ?_;exact ER (cj2 @DQ.eq_1 @DQ.eq_2 @YG.eq_1);rintro ⟨k,hk⟩;simp only;by_cases B:k<G l;obtain⟨c,A0⟩:=AI (l[k]);have z:l[k]?=J c:=by rw[BE B,A0]
 have Q:rs[k]?=J c.row:=by rw[<-q,Dt,CM,z];rfl
 have Dp:k<G rs:=Ux;have Bu:=gx Q;obtain⟨cx,cy,cw,ch,cd⟩:=ht c (Cj z);unfold Oi at cx cy cw ch cd;have K:=APO z;obtain⟨E,cH⟩:=AI (DQ (l.take k));obtain⟨E',xu⟩:=AI (DQ (l.take (k+1)));rw[cH,xu]at K;rw[cH];unfold YG;by_cases h0:k=0;rw[Awd h0]at K;have jw:(k:Int)=0↔True:=Awn Ux;refine wy (cj6 @M @B @Dp @Q @Bu @jw u3) trivial ⟨?_⟩;refine⟨⟨k+1,Ux⟩,by simp only;omega,?_⟩;simp only[xu,K];exact wd 2;rw[Awf h0]at K;have jw : ¬(k:Int)=0:=Ux;simp only[mx,mn]at K;refine wy (cj6 @M @B @Dp @Q @Bu @jw u3) trivial ⟨?_⟩;refine⟨⟨k+1,Ux⟩,by simp only;omega,?_⟩;simp only[xu,K];exact wd 2;have e:l.take k=l:=Gl Ux;rw[e];unfold YG;exact wz (cj2 @M @B u3) W
theorem AYN (f:AP)(s:Aa)(p:Int)(q:f.valid=I)(Q:s.ok=I)(M:0<=p)(z:p<=100):AC AF 284 [.agg f.vs,Aj s,p] (Gd f s p:Int):=by
 obtain⟨p1,p2⟩:=HE q Q;have h:=Jp f s f.params.Al;obtain⟨B,K⟩:=DM (p:=BS f.params s) f.params.Al Ux Ux;have S:=ee B K M (show p<=10000 by omega);unfold Gd;unfold Aj at h ⊢;refine en func284 ntmps284 ?_;exact wz results284 (cj2 h S W)
section
variable (a b c:AA) (R:List V)
theorem pw:(a.vs++R)[3]?=J (.c (.int .i64 a.w)):=by cases a;rfl
theorem p7:(a.vs++R)[6]?=J (.c (.int .i64 a.x)):=by cases a;rfl
theorem p9:(a.vs++(b.vs++R))[14]?=J (.c (.int .i64 b.w)):=by cases a;cases b;rfl
theorem s5:(a.vs++(b.vs++R))[17]?=J (.c (.int .i64 b.x)):=by cases a;cases b;rfl
theorem s7:(a.vs++(b.vs++(c.vs++R)))[25]?=J (.c (.int .i64 c.w)):=by cases a;cases b;cases c;rfl
theorem td:(a.vs++(b.vs++(c.vs++R)))[28]?=J (.c (.int .i64 c.x)):=by cases a;cases b;cases c;rfl
theorem pf (x:Int):(a.vs++R).set 6 (.c (.int .i64 x))=(a.AS x a.y).vs++R:=by cases a;rfl
theorem p8 (x:Int):(a.vs++(b.vs++R)).set 17 (.c (.int .i64 x))=a.vs++((b.AS x b.y).vs++R):=by cases a;cases b;rfl
theorem s6 (x:Int):(a.vs++(b.vs++(c.vs++R))).set 28 (.c (.int .i64 x))=a.vs++(b.vs++((c.AS x c.y).vs++R)):=by cases a;cases b;cases c;rfl
end
theorem APz (r:List C):(a.row++r).take 11=a.row:=fZ (AA.Nk a)
theorem APy (r:List C):(a.row++r).drop 11=r:=List.drop_left' (AA.Nk a)
theorem toCs_vs {R:List V}{r:List C}(h:toCs R=J r):toCs (a.vs++R)=J (a.row++r):=by
 cases a;simp only[AA.vs,AA.row,Ap,BB,BK,BU,toCs,toC,h]
theorem Anw (b:AA)(x:Int):b.vs.set 6 (.c (.int .i64 x))=(b.AS x b.y).vs:=by cases b;rfl
theorem AiP {x:Cx}{w:World}{AG:List (List C)}{v:Value}(h:CV x w (.Bg AG) v):Ab x.S w (.sl AG) v:=by simp only[CV]at h;exact h.choose_spec.2
section
variable {S0:BF} {w0:Bs} {x:Cx} {w:World} {H:Bx} {a:Act} {o:Oper}
theorem ASW (g:Good S0 w0 x w H){k n:Nat}{y z:Operand}{b c:AA}(ho:o.op=.call ⟨.builtin .append,#[y,z],#[54,54]⟩)(hy:CV x w (.own k 0 1 11) (a.eval y))(hz:CV x w (.Bg [c.row]) (a.eval z))(hk:H k=J (.box 56 b.vs U))(hn : ¬x.dom n)(M:k<=n) :
 ∃K B,(∀k ob,B=J (k,ob)->k<=n)/\(∃r:List C,K=.own n 0 2 11/\B=J (n,.box 56 (b.vs++(c.vs++r.map V.c)) U))/\BW AF o a S0 w0 x w H K B:=by
 obtain⟨K,B,Q,S,q⟩:=AjO (P:=AF) (t:=54) (Ae:=56) (es:=11) (Bq:=128) (zs:=BT) (zc:=AA.zero.row) (cs:=b.row) (row:=c.row) (len:=1) g n ho ZA (by simp[BT]) (by rfl) Ux hy (AiP hz) ZA hk (by unfold maxLen;omega) Ux ZA hn M;rcases S with ⟨h4,_⟩|⟨j,rfl,rfl⟩
 simp at h4;refine⟨_,_,Q,⟨(Aq j AA.zero.row).flatten,F,?_⟩,q⟩;simp
theorem AkP (g:Good S0 w0 x w H){k n:Nat}{y z:Operand}{b c d:AA}{R:List C}(ho:o.op=.call ⟨.builtin .append,#[y,z],#[54,54]⟩)(hy:CV x w (.own k 0 2 11) (a.eval y))(hz:CV x w (.Bg [d.row]) (a.eval z))(hk:H k=J (.box 56 (b.vs++(c.vs++R.map V.c)) U))(hn : ¬x.dom n)(q:k<=n) :
 ∃K B,(∀k ob,B=J (k,ob)->k<=n)/\(∃r:List C,(K=.own k 0 3 11/\B=J (k,.box 56 (b.vs++(c.vs++(d.vs++r.map V.c))) U))\/(K=.own n 0 3 11/\B=J (n,.box 56 (b.vs++(c.vs++(d.vs++r.map V.c))) U)))/\BW AF o a S0 w0 x w H K B:=by
 have e:(b.row++(c.row++R)).take 22=b.row++c.row:=by
  rw[<-GX];exact fZ ZA
 obtain⟨K,B,M,Q,S⟩:=AjO (P:=AF) (t:=54) (Ae:=56) (es:=11) (Bq:=128) (zs:=BT) (zc:=AA.zero.row) (cs:=b.row++(c.row++R)) (row:=d.row) (len:=2) g n ho ZA (by simp[BT]) (by rfl) Ux hy (AiP hz) ZA (by rw[hk];simp) (by unfold maxLen;omega) Ux (by simp;omega) hn q;simp only[Nat.reduceMul,e]at Q;rcases Q with ⟨_,rfl,rfl⟩|⟨j,rfl,rfl⟩
 refine⟨_,_,M,⟨(b.row++(c.row++R)).drop (22+11),.inl ⟨F,?_⟩⟩,S⟩;simp only[Fm,GX,AA.ABb];refine⟨_,_,M,⟨(Aq j AA.zero.row).flatten,.inr ⟨F,?_⟩⟩,S⟩;simp only[Fm,GX,AA.ABb]
end
theorem Am2 (f:AP)(s:Aa)(b:AA)(sub sup:List AA)(hf:f.Fit)(hv:f.valid=I)(ho:s.ok=I)(hb:b.Ad=I)(l1:G sub<=1)(l2:G sup<=1)(h1 : ∀c∈sub,c.Ad=I)(h2 : ∀c∈sup,c.Ad=I):AC AF 251 [.agg f.vs,Aj s,Ao b,.c (.sl (AA.AG sub)),.c (.sl (AA.AG sup))] (Ba (C8 (OP f s b sub sup))):=by
 have ob:=kj hb;obtain⟨bw,bh,bd,bn⟩:=D3 hb;have M : ∀x∈b::(sub++sup),x.Ad=true:=λx hx=>by
  rcases Cf.1 hx with rfl|hx
  exact hb;exact(MJ.1 hx).elim (h1 x) (h2 x)
 have Yl:=pe f s (b::(sub++sup)) hf (λx hx=>⟨kj (M x hx),by have:=ik (M x hx);omega⟩) (by simp only[BA,Cp];omega);rw[vh hv ho (ES.2 M)]at Yl;have A0:=AYM f b hf hv hb;have J8:=x6 (F8 f b);rw[show Bm (F8 f b)=Jk f b from rfl]at J8;have bH : -1073741824<=Jk f b/\Jk f b<=1073741824:=J6 (F8 f b);have A1 : ∀c:AA,c.Ad=I-> -1073741824<=c.w/\c.w<=1073741824:=λc h=>(D3 h).1
 have hW:0<=I4 b sub sup/\I4 b sub sup<=1073741824:=by
  match sub,sup,l1,l2 with
  | [],[],_,_=>simp only[I4,IS,DU];omega
  | [],[d],_,_=>have:=A1 d (h2 d ZA);simp only[I4,IS,DU];omega
  | [c],[],_,_=>have:=A1 c (h1 c ZA);simp only[I4,IS,DU];omega
  | [c],[d],_,_=>have:=A1 c (h1 c ZA);have:=A1 d (h2 d ZA);simp only[I4,IS,DU];omega
 obtain⟨W,q⟩:=AI (I4 b sub sup);have ph:=λ(c:AA)=>x6 (W - c.w)
 have qh:=λ(c:AA)=>J6 (W - c.w)
 have pb:=ph b;have qb:=qh b;have A2:=AYN f s 10 hv ho Ux Ux;have A6:=AYN f s 17 hv ho Ux Ux;have A5:=AYN f s 11 hv ho Ux Ux;have bQ:=λp h=>DM (p:=p) (AU f.params.Al (BS f.params s)) h
 have Oz : -1073741824<=Gd f s 10/\Gd f s 10<=1073741824:=bQ 10 Ux Ux;have V7 : -1073741824<=Gd f s 17/\Gd f s 17<=1073741824:=bQ 17 Ux Ux;have V6 : -1073741824<=Gd f s 11/\Gd f s 11<=1073741824:=bQ 11 Ux Ux;clear bQ;unfold OP ri DY HR Kd Kc Ti Tj;rw[q]at hW ⊢;obtain⟨H,hH⟩:=AI (Jk f b);rw[hH]at bH J8 ⊢;obtain⟨X,hX⟩:=AI (Bm (W - b.w));rw[hX]at pb qb ⊢;obtain⟨Ku,Qg⟩:=AI (Gd f s 10);obtain⟨oE,W8⟩:=AI (Gd f s 17);obtain⟨oD,W7⟩:=AI (Gd f s 11);rw[Qg]at A2 Oz ⊢;rw[W8]at A6 V7 ⊢;rw[W7]at A5 V6 ⊢;have z:(2:Nat)<=maxLen:=by unfold maxLen;omega
 have SG:(3:Nat)<=maxLen:=by unfold maxLen;omega
 have z0:(0:Nat)<=maxLen:=CI _;match sub,sup,l1,l2 with
 | [],[],_,_ =>
   have hL : -4294967296<=mn 0 X/\mn 0 X<=0:=by rw[Zb];omega
   have a0:=AKJ b X 0;have BD:=aY (mx W (X - mn 0 X+b.w)) b.h b.d [b.AS (X - mn 0 X) 0] ZA;have Q:=Xn (Bf (mx W (X - mn 0 X+b.w)) b.h b.d [b.AS (X - mn 0 X) 0]) ⟨z0,z0,F4 _ _ ob,trivial⟩ (by simp only[Bf,AA.cnt,AA.Az,Hb];omega);simp only[I4,IS]at q;simp only[kV,BU,iU,iV]at Yl ⊢;obtain⟨Z,hZ⟩:=AI ((Bf (mx W (X - mn 0 X+b.w)) b.h b.d [b.AS (X - mn 0 X) 0]));rw[hZ]at BD Q ⊢;obtain⟨DZ,Kx⟩:=AI (C8 Z);rw[Kx]at Q ⊢;clear hZ Kx hH hX Qg W8 W7 ph qh A1 h1 h2 M;unfold Aj at *
   simp only[AA.AG,As,AR,Ba]at Yl A0 a0 BD Q ⊢;refine en uj u7 ?_;have K:=(cj7 @z @SG @Yb @et @AR.eq_1 @As @q RI)
   repeat any_goals (first|refine Qu (.mk 10) ?_|exact Bt K|(with_reducible refine LA.loop (LA.round ?_))|(with_reducible refine LA.round ?_)|refine De K ?_|refine BV K (Yl) ?_|refine BV K (A0) ?_|refine BV K (J8) ?_|refine DI K ?_|((first|refine JC K ?_ ?_|refine JE K ?_ ?_|refine JD K ?_ ?_|refine JY K ?_ ?_)<;>intro h<;>try (exfalso;first|omega|contradiction)))
   refine AW.o6 7 Fz ZC (AJ.out ?_);simp only[DP,ET,CU,B9];have K:=(RI)
   repeat any_goals (first|refine Eo ?_|exact Bt K|refine De K ?_|refine BV K (pb) ?_|refine BV K (a0) ?_|refine DI K ?_)
   simp only[Ai,Ag];refine SW.OU (λv t=>v=.own 5 0 1 11/\t=J (5,.box 56 (b.AS X 0).vs U)) rfl (λS0 w0 x a w g S hk=>?_) ?_;exact⟨_,_,λ_ _ h=>(by cases h;exact BN _),⟨F,F⟩,APs (P:=AF) (t:=54) (len:=1) (parts:=#[(0,.tmp 71)]) g (e:=ev _) rfl (λp hp=>CW S p.2) (Ae:=56) (es:=11) (Bq:=128) ZA ZB ZB rfl (AG:=[(b.AS X 0).row]) (by simp[X4,ev]) ZA _ hk⟩;rintro v t ⟨rfl,rfl⟩;simp only[St.step,St.put,Bk,BA,BO,Nat.reduceAdd,IY,Awh,Ai,Ag,BK,BU];refine CY (.mk 1) trivial ?_;refine SW.nil ?_;have K:=(cj9 @z @SG @Yb @et @AR.eq_1 @As @q @Anw @at_at<|cj3 @iV @iU @iW RI)
   repeat any_goals (first|refine Qu (.mk 32) ?_|exact Bt K|(with_reducible refine LA.loop (LA.round ?_))|(with_reducible refine LA.round ?_)|refine De K ?_|refine DI K ?_|((first|refine JC K ?_ ?_|refine JE K ?_ ?_|refine JD K ?_ ?_|refine JY K ?_ ?_)<;>intro h<;>try (exfalso;first|omega|contradiction)))
   refine AW.Bi 5 rfl (row:=(b.AS (X - mn 0 X) 0).row) ZA (by simp[V.Cs,V.Bi,Hc];exact rfl) (by simp[O.Bi,V.Cs,V.Bi];exact rfl) ?_;have K:=(cj7 @z @SG @Yb @et @AR.eq_1 @As @Fl RI)
   have cc:=(cj2 BD Q trivial)
   repeat any_goals (first|refine Du K cc ⟨?_⟩|exact Bt K|(with_reducible refine LA.loop (LA.round ?_))|(with_reducible refine LA.round ?_)|(refine Dv K ?_ ?_<;>intro h<;>try exact Dw))
 | [],[d],_,_ =>
   have vd:=h2 d ZA;obtain⟨dw,dh,dd,dn⟩:=D3 vd;have pd:=ph d;have qd:=qh d;obtain⟨Z,eZ⟩:=AI (Bm (W - d.w));rw[eZ]at pd qd;obtain⟨L,hL⟩:=AI (mn (mn 0 X) (Z+H));have bL : -4294967296<=L/\L<=0:=by rw[<-hL];simp only[Zb];omega
   obtain⟨E,hE⟩:=AI (mx (mx W (X - L+b.w)) (Z+H - L+d.w));have a0:=AKJ b X 0;have a2:=AKJ d (Z+H) (b.h+oD+d.d);have BD:=aY E (mx b.h (b.h+oD+d.d+d.h+Ku)) b.d [b.AS (X - L) 0,d.AS (Z+H - L) (b.h+oD+d.d)] ZA;have Q:=Xn (Bf E (mx b.h (b.h+oD+d.d+d.h+Ku)) b.d [b.AS (X - L) 0,d.AS (Z+H - L) (b.h+oD+d.d)]) ⟨z0,z0,F4 _ _ ob,F4 _ _ (kj vd),trivial⟩ (by simp only[Bf,AA.cnt,AA.Az,Hb];omega);simp only[I4,IS]at q;simp only[kV,BU,BK,iU,iV,eZ,hL,hE]at Yl ⊢;obtain⟨B,hB⟩:=AI ((Bf E (mx b.h (b.h+oD+d.d+d.h+Ku)) b.d [b.AS (X - L) 0,d.AS (Z+H - L) (b.h+oD+d.d)]));rw[hB]at BD Q ⊢;obtain⟨DB,pD⟩:=AI (C8 B);rw[pD]at Q ⊢;clear hB pD hH hX Qg W8 W7 ph qh A1 h1 h2 M eZ;unfold Aj at *
   simp only[AA.AG,As,AR,Ba]at Yl A0 a0 a2 BD Q ⊢;refine en uj u7 ?_;have K:=(cj7 @z @SG @Yb @et @AR.eq_1 @As @q RI)
   repeat any_goals (first|refine Qu (.mk 10) ?_|exact Bt K|(with_reducible refine LA.loop (LA.round ?_))|(with_reducible refine LA.round ?_)|refine De K ?_|refine BV K (Yl) ?_|refine BV K (A0) ?_|refine BV K (J8) ?_|refine DI K ?_|((first|refine JC K ?_ ?_|refine JE K ?_ ?_|refine JD K ?_ ?_|refine JY K ?_ ?_)<;>intro h<;>try (exfalso;first|omega|contradiction)))
   refine AW.o6 7 Fz ZC (AJ.out ?_);simp only[DP,ET,CU,B9];have K:=(RI)
   repeat any_goals (first|refine Eo ?_|exact Bt K|refine De K ?_|refine BV K (pb) ?_|refine BV K (a0) ?_|refine DI K ?_)
   simp only[Ai,Ag];refine SW.OU (λv t=>v=.own 5 0 1 11/\t=J (5,.box 56 (b.AS X 0).vs U)) rfl (λS0 w0 x a w g S hk=>?_) ?_;exact⟨_,_,λ_ _ h=>(by cases h;exact BN _),⟨F,F⟩,APs (P:=AF) (t:=54) (len:=1) (parts:=#[(0,.tmp 71)]) g (e:=ev _) rfl (λp hp=>CW S p.2) (Ae:=56) (es:=11) (Bq:=128) ZA ZB ZB rfl (AG:=[(b.AS X 0).row]) (by simp[X4,ev]) ZA _ hk⟩;rintro v t ⟨rfl,rfl⟩;simp only[St.step,St.put,Bk,BA,BO,Nat.reduceAdd,IY,Awh,Ai,Ag,BK,BU];refine CY (.mk 1) trivial ?_;refine SW.nil ?_;have K:=(cj9 @z @SG @Yb @et @AR.eq_1 @As @q @hL @hE<|cj9 @pw @p7 @p9 @s5 @s7 @td @pf @p8 @s6<|cj4 @at_at @iV @iU @iW RI)
   repeat any_goals (first|refine Qu (.mk 20) ?_|exact Bt K|(with_reducible refine LA.loop (LA.round ?_))|(with_reducible refine LA.round ?_)|refine De K ?_|refine BV K (A5) ?_|refine DI K ?_|((first|refine JC K ?_ ?_|refine JE K ?_ ?_|refine JD K ?_ ?_|refine JY K ?_ ?_)<;>intro h<;>try (exfalso;first|omega|contradiction)))
   refine AW.o6 12 Fz ZC (AJ.out ?_);simp only[DP,ET,CU,B9];have K:=(cj @iU<|RI)
   repeat any_goals (first|refine Eo ?_|exact Bt K|refine De K ?_|refine BV K (pd) ?_|refine BV K (a2) ?_|refine DI K ?_)
   refine SW.OU (λv t=>∃r:List C,v=.own 7 0 2 11/\t=J (7,.box 56 ((b.AS X 0).vs++((d.AS (Z+H) (b.h+oD+d.d)).vs++r.map V.c)) U)) rfl (λS0 w0 x a w g S hk=>ASW g rfl (CW S (.tmp 131)) (CW S (.tmp 142)) rfl hk (F2 F)) ?_;rintro v t ⟨r,rfl,rfl⟩;obtain⟨R,hR⟩:=AI (r.map V.c);have hr:toCs R=J r:=by rw[<-hR];exact toCs_mapC r
   rw[hR];simp only[St.step,St.put,Bk,BA,BO,Nat.reduceAdd,Nat.reduceLT,↓reduceIte,Ai,Ag,BK,BU];refine CY (.mk 1) trivial ?_;refine SW.nil ?_;have K:=(cj9 @z @SG @Yb @et @AR.eq_1 @As @q @hL @hE<|cj9 @pw @p7 @p9 @s5 @s7 @td @pf @p8 @s6<|cj4 @at_at @iV @iU @iW RI)
   repeat any_goals (first|refine Qu (.mk 32) ?_|exact Bt K|(with_reducible refine LA.loop (LA.round ?_))|(with_reducible refine LA.round ?_)|refine De K ?_|refine BV K (A2) ?_|refine DI K ?_|((first|refine JC K ?_ ?_|refine JE K ?_ ?_|refine JD K ?_ ?_|refine JY K ?_ ?_)<;>intro h<;>try (exfalso;first|omega|contradiction)))
   refine AW.Bi 7 rfl (toCs_vs _ (toCs_vs _ hr)) (by simp[V.Cs,V.Bi,Hc,APz,APy];exact rfl) (by simp[O.Bi,V.Cs,V.Bi];exact rfl) ?_;have K:=(cj7 @z @SG @Yb @et @AR.eq_1 @As @Fl RI)
   have cc:=(cj2 BD Q trivial)
   repeat any_goals (first|refine Du K cc ⟨?_⟩|exact Bt K|(with_reducible refine LA.loop (LA.round ?_))|(with_reducible refine LA.round ?_)|(refine Dv K ?_ ?_<;>intro h<;>try exact Dw))
 | [c],[],_,_ =>
   have vc:=h1 c ZA;obtain⟨cw,ch,cd,cn⟩:=D3 vc;have pc:=ph c;have qc:=qh c;obtain⟨Y,eY⟩:=AI (Bm (W - c.w));rw[eY]at pc qc;obtain⟨L,hL⟩:=AI (mn (mn 0 X) (Y - H));have bL : -4294967296<=L/\L<=0:=by rw[<-hL];simp only[Zb];omega
   obtain⟨E,hE⟩:=AI (mx (mx W (X - L+b.w)) (Y - H - L+c.w));have a0:=AKJ b X 0;have a1:=AKJ c (Y - H) (-(b.d+oE+c.h));have A3:c.d+(b.d+oE+c.h)=b.d+oE+c.h+c.d:=Ux;have BD:=aY E b.h (mx b.d (b.d+oE+c.h+c.d+Ku)) [b.AS (X - L) 0,c.AS (Y - H - L) (-(b.d+oE+c.h))] ZA;have Q:=Xn (Bf E b.h (mx b.d (b.d+oE+c.h+c.d+Ku)) [b.AS (X - L) 0,c.AS (Y - H - L) (-(b.d+oE+c.h))]) ⟨z0,z0,F4 _ _ ob,F4 _ _ (kj vc),trivial⟩ (by simp only[Bf,AA.cnt,AA.Az,Hb];omega);simp only[I4,IS]at q;simp only[kV,BU,BK,iU,iV,eY,hL,hE]at Yl ⊢;obtain⟨B,hB⟩:=AI ((Bf E b.h (mx b.d (b.d+oE+c.h+c.d+Ku)) [b.AS (X - L) 0,c.AS (Y - H - L) (-(b.d+oE+c.h))]));rw[hB]at BD Q ⊢;obtain⟨DB,pD⟩:=AI (C8 B);rw[pD]at Q ⊢;clear hB pD hH hX Qg W8 W7 ph qh A1 h1 h2 M eY;unfold Aj at *
   simp only[AA.AG,As,AR,Ba]at Yl A0 a0 a1 BD Q ⊢;refine en uj u7 ?_;have K:=(cj7 @z @SG @Yb @et @AR.eq_1 @As @q RI)
   repeat any_goals (first|refine Qu (.mk 10) ?_|exact Bt K|(with_reducible refine LA.loop (LA.round ?_))|(with_reducible refine LA.round ?_)|refine De K ?_|refine BV K (Yl) ?_|refine BV K (A0) ?_|refine BV K (J8) ?_|refine DI K ?_|((first|refine JC K ?_ ?_|refine JE K ?_ ?_|refine JD K ?_ ?_|refine JY K ?_ ?_)<;>intro h<;>try (exfalso;first|omega|contradiction)))
   refine AW.o6 7 Fz ZC (AJ.out ?_);simp only[DP,ET,CU,B9];have K:=(RI)
   repeat any_goals (first|refine Eo ?_|exact Bt K|refine De K ?_|refine BV K (pb) ?_|refine BV K (a0) ?_|refine DI K ?_)
   simp only[Ai,Ag];refine SW.OU (λv t=>v=.own 5 0 1 11/\t=J (5,.box 56 (b.AS X 0).vs U)) rfl (λS0 w0 x a w g S hk=>?_) ?_;exact⟨_,_,λ_ _ h=>(by cases h;exact BN _),⟨F,F⟩,APs (P:=AF) (t:=54) (len:=1) (parts:=#[(0,.tmp 71)]) g (e:=ev _) rfl (λp hp=>CW S p.2) (Ae:=56) (es:=11) (Bq:=128) ZA ZB ZB rfl (AG:=[(b.AS X 0).row]) (by simp[X4,ev]) ZA _ hk⟩;rintro v t ⟨rfl,rfl⟩;simp only[St.step,St.put,Bk,BA,BO,Nat.reduceAdd,IY,Awh,Ai,Ag,BK,BU];refine CY (.mk 1) trivial ?_;refine SW.nil ?_;have K:=(cj9 @z @SG @Yb @et @AR.eq_1 @As @q @hL @hE<|cj9 @pw @p7 @p9 @s5 @s7 @td @pf @p8 @s6<|cj4 @at_at @iV @iU @iW RI)
   repeat any_goals (first|refine Qu (.mk 15) ?_|exact Bt K|(with_reducible refine LA.loop (LA.round ?_))|(with_reducible refine LA.round ?_)|refine De K ?_|refine BV K (A6) ?_|refine DI K ?_|((first|refine JC K ?_ ?_|refine JE K ?_ ?_|refine JD K ?_ ?_|refine JY K ?_ ?_)<;>intro h<;>try (exfalso;first|omega|contradiction)))
   refine AW.o6 12 Fz ZC (AJ.out ?_);simp only[DP,ET,CU,B9];have K:=(cj @iU<|RI)
   repeat any_goals (first|refine Eo ?_|exact Bt K|refine De K ?_|refine BV K (pc) ?_|refine BV K (a1) ?_|refine DI K ?_)
   refine SW.OU (λv t=>∃r:List C,v=.own 7 0 2 11/\t=J (7,.box 56 ((b.AS X 0).vs++((c.AS (Y - H) (-(b.d+oE+c.h))).vs++r.map V.c)) U)) rfl (λS0 w0 x a w g S hk=>ASW g rfl (CW S (.tmp 93)) (CW S (.tmp 104)) rfl hk (F2 F)) ?_;rintro v t ⟨r,rfl,rfl⟩;obtain⟨R,hR⟩:=AI (r.map V.c);have hr:toCs R=J r:=by rw[<-hR];exact toCs_mapC r
   rw[hR];simp only[St.step,St.put,Bk,BA,BO,Nat.reduceAdd,Nat.reduceLT,↓reduceIte,Ai,Ag,BK,BU];refine CY (.mk 1) trivial ?_;refine SW.nil ?_;have K:=(cj9 @z @SG @Yb @et @AR.eq_1 @As @q @hL @hE<|cj9 @pw @p7 @p9 @s5 @s7 @td @pf @p8 @s6<|cj5 @at_at @iV @iU @iW @A3 RI)
   repeat any_goals (first|refine Qu (.mk 32) ?_|exact Bt K|(with_reducible refine LA.loop (LA.round ?_))|(with_reducible refine LA.round ?_)|refine De K ?_|refine BV K (A2) ?_|refine DI K ?_|((first|refine JC K ?_ ?_|refine JE K ?_ ?_|refine JD K ?_ ?_|refine JY K ?_ ?_)<;>intro h<;>try (exfalso;first|omega|contradiction)))
   refine AW.Bi 7 rfl (toCs_vs _ (toCs_vs _ hr)) (by simp[V.Cs,V.Bi,Hc,APz,APy];exact rfl) (by simp[O.Bi,V.Cs,V.Bi];exact rfl) ?_;have K:=(cj7 @z @SG @Yb @et @AR.eq_1 @As @Fl RI)
   have cc:=(cj2 BD Q trivial)
   repeat any_goals (first|refine Du K cc ⟨?_⟩|exact Bt K|(with_reducible refine LA.loop (LA.round ?_))|(with_reducible refine LA.round ?_)|(refine Dv K ?_ ?_<;>intro h<;>try exact Dw))
 | [c],[d],_,_ =>
   have vc:=h1 c ZA;obtain⟨cw,ch,cd,cn⟩:=D3 vc;have pc:=ph c;have qc:=qh c;obtain⟨Y,eY⟩:=AI (Bm (W - c.w));rw[eY]at pc qc;have vd:=h2 d ZA;obtain⟨dw,dh,dd,dn⟩:=D3 vd;have pd:=ph d;have qd:=qh d;obtain⟨Z,eZ⟩:=AI (Bm (W - d.w));rw[eZ]at pd qd;obtain⟨L,hL⟩:=AI (mn (mn (mn 0 X) (Y - H)) (Z+H));have bL : -4294967296<=L/\L<=0:=by rw[<-hL];simp only[Zb];omega
   obtain⟨E,hE⟩:=AI (mx (mx (mx W (X - L+b.w)) (Y - H - L+c.w)) (Z+H - L+d.w));have a0:=AKJ b X 0;have a1:=AKJ c (Y - H) (-(b.d+oE+c.h));have A3:c.d+(b.d+oE+c.h)=b.d+oE+c.h+c.d:=Ux;have a2:=AKJ d (Z+H) (b.h+oD+d.d);have BD:=aY E (mx b.h (b.h+oD+d.d+d.h+Ku)) (mx b.d (b.d+oE+c.h+c.d+Ku)) [b.AS (X - L) 0,c.AS (Y - H - L) (-(b.d+oE+c.h)),d.AS (Z+H - L) (b.h+oD+d.d)] ZA;have Q:=Xn (Bf E (mx b.h (b.h+oD+d.d+d.h+Ku)) (mx b.d (b.d+oE+c.h+c.d+Ku)) [b.AS (X - L) 0,c.AS (Y - H - L) (-(b.d+oE+c.h)),d.AS (Z+H - L) (b.h+oD+d.d)]) ⟨z0,z0,F4 _ _ ob,F4 _ _ (kj vc),F4 _ _ (kj vd),trivial⟩ (by simp only[Bf,AA.cnt,AA.Az,Hb];omega);simp only[I4,IS]at q;simp only[kV,BU,BK,iU,iV,eY,eZ,hL,hE]at Yl ⊢;obtain⟨B,hB⟩:=AI ((Bf E (mx b.h (b.h+oD+d.d+d.h+Ku)) (mx b.d (b.d+oE+c.h+c.d+Ku)) [b.AS (X - L) 0,c.AS (Y - H - L) (-(b.d+oE+c.h)),d.AS (Z+H - L) (b.h+oD+d.d)]));rw[hB]at BD Q ⊢;obtain⟨DB,pD⟩:=AI (C8 B);rw[pD]at Q ⊢;clear hB pD hH hX Qg W8 W7 ph qh A1 h1 h2 M eY eZ;unfold Aj at *
   simp only[AA.AG,As,AR,Ba]at Yl A0 a0 a1 a2 BD Q ⊢;refine en uj u7 ?_;have K:=(cj7 @z @SG @Yb @et @AR.eq_1 @As @q RI)
   repeat any_goals (first|refine Qu (.mk 10) ?_|exact Bt K|(with_reducible refine LA.loop (LA.round ?_))|(with_reducible refine LA.round ?_)|refine De K ?_|refine BV K (Yl) ?_|refine BV K (A0) ?_|refine BV K (J8) ?_|refine DI K ?_|((first|refine JC K ?_ ?_|refine JE K ?_ ?_|refine JD K ?_ ?_|refine JY K ?_ ?_)<;>intro h<;>try (exfalso;first|omega|contradiction)))
   refine AW.o6 7 Fz ZC (AJ.out ?_);simp only[DP,ET,CU,B9];have K:=(RI)
   repeat any_goals (first|refine Eo ?_|exact Bt K|refine De K ?_|refine BV K (pb) ?_|refine BV K (a0) ?_|refine DI K ?_)
   simp only[Ai,Ag];refine SW.OU (λv t=>v=.own 5 0 1 11/\t=J (5,.box 56 (b.AS X 0).vs U)) rfl (λS0 w0 x a w g S hk=>?_) ?_;exact⟨_,_,λ_ _ h=>(by cases h;exact BN _),⟨F,F⟩,APs (P:=AF) (t:=54) (len:=1) (parts:=#[(0,.tmp 71)]) g (e:=ev _) rfl (λp hp=>CW S p.2) (Ae:=56) (es:=11) (Bq:=128) ZA ZB ZB rfl (AG:=[(b.AS X 0).row]) (by simp[X4,ev]) ZA _ hk⟩;rintro v t ⟨rfl,rfl⟩;simp only[St.step,St.put,Bk,BA,BO,Nat.reduceAdd,IY,Awh,Ai,Ag,BK,BU];refine CY (.mk 1) trivial ?_;refine SW.nil ?_;have K:=(cj9 @z @SG @Yb @et @AR.eq_1 @As @q @hL @hE<|cj9 @pw @p7 @p9 @s5 @s7 @td @pf @p8 @s6<|cj4 @at_at @iV @iU @iW RI)
   repeat any_goals (first|refine Qu (.mk 15) ?_|exact Bt K|(with_reducible refine LA.loop (LA.round ?_))|(with_reducible refine LA.round ?_)|refine De K ?_|refine BV K (A6) ?_|refine DI K ?_|((first|refine JC K ?_ ?_|refine JE K ?_ ?_|refine JD K ?_ ?_|refine JY K ?_ ?_)<;>intro h<;>try (exfalso;first|omega|contradiction)))
   refine AW.o6 12 Fz ZC (AJ.out ?_);simp only[DP,ET,CU,B9];have K:=(cj @iU<|RI)
   repeat any_goals (first|refine Eo ?_|exact Bt K|refine De K ?_|refine BV K (pc) ?_|refine BV K (a1) ?_|refine DI K ?_)
   refine SW.OU (λv t=>∃r:List C,v=.own 7 0 2 11/\t=J (7,.box 56 ((b.AS X 0).vs++((c.AS (Y - H) (-(b.d+oE+c.h))).vs++r.map V.c)) U)) rfl (λS0 w0 x a w g S hk=>ASW g rfl (CW S (.tmp 93)) (CW S (.tmp 104)) rfl hk (F2 F)) ?_;rintro v t ⟨r,rfl,rfl⟩;simp only[St.step,St.put,Bk,BA,BO,Nat.reduceAdd,Nat.reduceLT,↓reduceIte,Ai,Ag,BK,BU];refine CY (.mk 1) trivial ?_;refine SW.nil ?_;have K:=(cj9 @z @SG @Yb @et @AR.eq_1 @As @q @hL @hE<|cj9 @pw @p7 @p9 @s5 @s7 @td @pf @p8 @s6<|cj5 @at_at @iV @iU @iW @A3 RI)
   repeat any_goals (first|refine Qu (.mk 20) ?_|exact Bt K|(with_reducible refine LA.loop (LA.round ?_))|(with_reducible refine LA.round ?_)|refine De K ?_|refine BV K (A2) ?_|refine BV K (A5) ?_|refine DI K ?_|((first|refine JC K ?_ ?_|refine JE K ?_ ?_|refine JD K ?_ ?_|refine JY K ?_ ?_)<;>intro h<;>try (exfalso;first|omega|contradiction)))
   refine AW.o6 12 Fz ZC (AJ.out ?_);simp only[DP,ET,CU,B9];have K:=(cj @iU<|RI)
   repeat any_goals (first|refine Eo ?_|exact Bt K|refine De K ?_|refine BV K (pd) ?_|refine BV K (a2) ?_|refine DI K ?_)
   refine SW.OU (λv t=>∃r:List C,(v=.own 7 0 3 11/\t=J (7,.box 56 ((b.AS X 0).vs++((c.AS (Y - H) (-(b.d+oE+c.h))).vs++((d.AS (Z+H) (b.h+oD+d.d)).vs++r.map V.c))) U))\/(v=.own 9 0 3 11/\t=J (9,.box 56 ((b.AS X 0).vs++((c.AS (Y - H) (-(b.d+oE+c.h))).vs++((d.AS (Z+H) (b.h+oD+d.d)).vs++r.map V.c))) U))) rfl (λS0 w0 x a w g S hk=>AkP g rfl (CW S (.tmp 131)) (CW S (.tmp 142)) rfl hk (F2 F)) ?_;rintro v t ⟨r,⟨rfl,rfl⟩|⟨rfl,rfl⟩⟩
   . obtain⟨R,hR⟩:=AI (r.map V.c);have hr:toCs R=J r:=by rw[<-hR];exact toCs_mapC r
     rw[hR];simp only[St.step,St.put,Bk,BA,BO,Nat.reduceAdd,Nat.reduceLT,↓reduceIte,Ai,Ag,BK,BU];refine CY (.mk 1) trivial ?_;refine SW.nil ?_;have K:=(cj9 @z @SG @Yb @et @AR.eq_1 @As @q @hL @hE<|cj9 @pw @p7 @p9 @s5 @s7 @td @pf @p8 @s6<|cj5 @at_at @iV @iU @iW @A3 RI)
     repeat any_goals (first|refine Qu (.mk 32) ?_|exact Bt K|(with_reducible refine LA.loop (LA.round ?_))|(with_reducible refine LA.round ?_)|refine De K ?_|refine BV K (A2) ?_|refine DI K ?_|((first|refine JC K ?_ ?_|refine JE K ?_ ?_|refine JD K ?_ ?_|refine JY K ?_ ?_)<;>intro h<;>try (exfalso;first|omega|contradiction)))
     refine AW.Bi 7 rfl (toCs_vs _ (toCs_vs _ (toCs_vs _ hr))) (by simp[V.Cs,V.Bi,Hc,APz,APy];exact rfl) (by simp[O.Bi,V.Cs,V.Bi];exact rfl) ?_;have K:=(cj7 @z @SG @Yb @et @AR.eq_1 @As @Fl RI)
     have cc:=(cj2 BD Q trivial)
     repeat any_goals (first|refine Du K cc ⟨?_⟩|exact Bt K|(with_reducible refine LA.loop (LA.round ?_))|(with_reducible refine LA.round ?_)|(refine Dv K ?_ ?_<;>intro h<;>try exact Dw))
   . obtain⟨R,hR⟩:=AI (r.map V.c);have hr:toCs R=J r:=by rw[<-hR];exact toCs_mapC r
     rw[hR];simp only[St.step,St.put,Bk,BA,BO,Nat.reduceAdd,Nat.reduceLT,↓reduceIte,Ai,Ag,BK,BU];refine CY (.mk 1) trivial ?_;refine SW.nil ?_;have K:=(cj9 @z @SG @Yb @et @AR.eq_1 @As @q @hL @hE<|cj9 @pw @p7 @p9 @s5 @s7 @td @pf @p8 @s6<|cj5 @at_at @iV @iU @iW @A3 RI)
     repeat any_goals (first|refine Qu (.mk 32) ?_|exact Bt K|(with_reducible refine LA.loop (LA.round ?_))|(with_reducible refine LA.round ?_)|refine De K ?_|refine BV K (A2) ?_|refine DI K ?_|((first|refine JC K ?_ ?_|refine JE K ?_ ?_|refine JD K ?_ ?_|refine JY K ?_ ?_)<;>intro h<;>try (exfalso;first|omega|contradiction)))
     refine AW.Bi 9 rfl (toCs_vs _ (toCs_vs _ (toCs_vs _ hr))) (by simp[V.Cs,V.Bi,Hc,APz,APy];exact rfl) (by simp[O.Bi,V.Cs,V.Bi];exact rfl) ?_;have K:=(cj7 @z @SG @Yb @et @AR.eq_1 @As @Fl RI)
     have cc:=(cj2 BD Q trivial)
     repeat any_goals (first|refine Du K cc ⟨?_⟩|exact Bt K|(with_reducible refine LA.loop (LA.round ?_))|(with_reducible refine LA.round ?_)|(refine Dv K ?_ ?_<;>intro h<;>try exact Dw))
end Go.Proofs.YtegconioojpgmaaGreat
