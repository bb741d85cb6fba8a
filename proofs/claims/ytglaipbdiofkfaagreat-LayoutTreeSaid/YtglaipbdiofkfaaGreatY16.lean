/- Part of the proof of some laws. Conditions: none. -/
import Derived.Test.YtglaipbdiofkfaaGreatY11
import Derived.Test.YtglaipbdiofkfaaGreatY15
set_option linter.unusedVariables false
set_option linter.unusedSimpArgs false
set_option maxRecDepth 100000
set_option maxHeartbeats 16000000
open Int renaming mul_tdiv_add_tmod→mN,lt_or_le→fq,tmod_nonneg→Sl,neg_tmod→mO,lt_tmod_of_pos→ft,tmod_lt_of_pos→aG
open Go.Proofs.Tryz renaming prog→AF,func101→ey,ntmps101→tt,results101→tz,results188→ADG,results187→AR6,results170→ADE,results107→vH,results109→AbG,results59→AGY,func257→uk,ntmps257→u9,func189→nC,results257→ni,func116→LR,func216→AIB,func258→gH,func65→Su,func162→AFG,ntmps162→AGC,func37→DC,results162→AGP,func145→H9,func52→ID,func211→AFX,ntmps211→AGF,func60→IB,results211→AGT,func164→AFH,ntmps164→AGD,results164→AGQ,func240→AF2,func212→AFq,ntmps212→AGG,results212→AGU,func174→Jy,results98→Ot
open Go.IntKind renaming i64→AZ
open List renaming getElem?_map→CM,set_cons_succ→Ai,set_cons_zero→Ag,take_of_length_le→Gl,length_cons→BA,getElem?_cons_succ→JU,take_succ_cons→DP,cons_append→BK,all_cons→Ep,all_nil→Nq,length_append→Cp,length_nil→BO,append_assoc→GX,replicate→Aq,flatten_cons→Hp,replicate_succ→BY,length_map→Ch,map_cons→Ap,set_append_right→Vg,map_append→Fm,foldl_cons→Bw,foldl_nil→CO,getElem?_eq_getElem→BE,drop_eq_getElem_cons→D5,mem_of_getElem?→Cj,drop_of_length_le→FA,length_take→Fa,all_eq_true→ES,mem_cons_self→GH,mem_cons_of_mem→Gk,drop_succ_cons→CU,drop_zero→B9,map_nil→BB
open Bool renaming and_eq_true→Ak,and_self→LW
open Option.some renaming inj→ML
open Nat renaming zero_le→CI
open ByteArray renaming size_extract→fg
open Option renaming some→J,none→E
open Bool renaming false→U,true→I
open List renaming length→G
namespace Go.Proofs.YtglaipbdiofkfaaGreat
open Go.RowKit Tryz
variable {name:ByteArray}(m:Nat)(AE:List AA)(l:List Int)(a:Int)(n:Nat)
theorem AXU :quot a 18=Ea a 18:=by
 unfold quot Ea;have K:=mN a 18;rcases fq a 0 with h|h
 . have B:a.tmod 18<=0:=by have:=Sl (a:= -a) 18 (by omega);rw[mO]at this;omega
   have H : -18<a.tmod 18:=by have:=ft a (b:=18) (by omega);omega
   generalize a.tmod 18=r at *
   generalize a.tdiv 18=q at *
   repeat' split
   all_goals omega
 . have B:0<=a.tmod 18:=Sl 18 h;have H:a.tmod 18<18:=aG a (by omega);generalize a.tmod 18=r at *
   generalize a.tdiv 18=q at *
   repeat' split
   all_goals omega
theorem AXW (ha : -9000000000000000000<=a)(A1:a<=9000000000000000000):AC AF 101 [.c (.int .i64 a),.c (.int .i64 18)] (.c (.int .i64 (quot a 18))):=by
 have h1:=mN a 18;have hr : -18<a.tmod 18/\a.tmod 18<18:=by
  rcases fq a 0 with h|h
  have h2:a.tmod 18<=0:=by have:=Sl (a:= -a) 18 (by omega);rw[mO]at this;omega
  have h3 : -18<a.tmod 18:=by have:=ft a (b:=18) (by omega);omega
  omega;have h2:0<=a.tmod 18:=Sl 18 h;have h3:a.tmod 18<18:=aG a (by omega);omega
 have e:quot a 18=if 0<=a.tmod 18/\18 - a.tmod 18<=a.tmod 18 then a.tdiv 18+1 else if a.tmod 18<0/\18+a.tmod 18<= -a.tmod 18 then a.tdiv 18 - 1 else a.tdiv 18:=F
 rw[e];have K:AZ.wrap (a.tdiv 18)=a.tdiv 18:=Ac;have B:AZ.wrap (a.tmod 18)=a.tmod 18:=Ac;obtain⟨R,S⟩:=AI (a.tmod 18);obtain⟨D,Q⟩:=AI (a.tdiv 18);rw[S]at hr B h1 ⊢;rw[Q]at K h1 ⊢;have bD : -9000000000000000000<=D/\D<=9000000000000000000:=by omega
 clear h1 e;by_cases H:0<=R;by_cases o:18 - R<=R;rw[if_pos ⟨H,o⟩];have P6:=iff_true_intro H;have wX:=iff_true_intro o;refine en ey tt ?_;exact wz (cj6 @S @Q @K @B @P6 @wX tz) W;rw[if_neg (λh=>o h.2),if_neg (λh=>by omega)];have P6:=iff_true_intro H;have q : ¬R<0:=by omega
 refine en ey tt ?_;exact wz (cj7 @S @Q @K @B @P6 @o @q tz) W;have q:R<0:=by omega
 have M:=iff_true_intro q;by_cases z:18+R<= -R;rw[if_neg (λh=>H h.1),if_pos ⟨q,z⟩];have A0:=iff_true_intro z;refine en ey tt ?_;exact wz (cj7 @S @Q @K @B @H @M @A0 tz) W;rw[if_neg (λh=>H h.1),if_neg (λh=>z h.2)];refine en ey tt ?_;exact wz (cj7 @S @Q @K @B @H @M @z tz) W
def ka (n a:Int):Int:=if An n=I then Ea (n*a) 18 else 0
theorem AUb {n a:Int}(H : -1073741824<=n/\n<=1073741824)(B:1<=a/\a<=10): -10737418240<=n*a/\n*a<=10737418240:=by
 have:=Qh n a 1073741824 10 (by omega) (by omega) (by omega) (by omega);omega
theorem AJn (n a:Int)(q:1<=a/\a<=10):AC AF 171 [.c (.int .i64 n),.c (.int .i64 a),.c (.int .i64 18)] (.c (.int .i64 (ka n a))):=by
 have B:=Ng n;have K:=Ng a;have Q:=Ng 18;rw[show An a=I by simp[An];omega]at K;rw[show An 18=I by decide +kernel]at Q;unfold ka;cases H:An n with
 | false=>rw[H]at B;rw[if_neg (by simp)];refine en func171 ntmps171 ?_;exact wz (cj @AR.eq_1<|results171) (cj3 B K Q W)
 | true=>rw[H]at B;rw[if_pos rfl];simp[An]at H;have z:=AUb H q;have R:=AXW (n*a) (by omega) (by omega);rw[AXU]at R;have o:AZ.wrap (n*a)=n*a:=Ac;obtain⟨M,S⟩:=AI (n*a);rw[S]at R o ⊢;refine en func171 ntmps171 ?_;exact wz (cj3 @AR.eq_1 @S @o results171) (cj4 B K Q R W)
theorem Am5 (n a:Int)(q:1<=a/\a<=10):AC AF 188 [.c (.int .i64 n),.c (.int .i64 a),.c (.int .i64 18)] (.c (.int .i64 (ka n a))):=by
 have B:=sb n;have K:=sb a;have Q:=sb 18;rw[show An a=I by simp[An];omega]at K;rw[show An 18=I by decide +kernel]at Q;unfold ka;cases H:An n with
 | false=>rw[H]at B;rw[if_neg (by simp)];refine en func188 ntmps188 ?_;exact wz (cj @AR.eq_1<|ADG) (cj3 B K Q W)
 | true=>rw[H]at B;rw[if_pos rfl];simp[An]at H;have z:=AUb H q;have R:=AX8 (n*a) 18 (by omega) (by omega) (.inr (.inr F));have o:AZ.wrap (n*a)=n*a:=Ac;obtain⟨M,S⟩:=AI (n*a);rw[S]at R o ⊢;refine en func188 ntmps188 ?_;exact wz (cj3 @AR.eq_1 @S @o ADG) (cj4 B K Q R W)
def fE:List (List Int):=[[0,1,-2,-3,0,0,0,-1],[1,1,0,-3,0,0,0,-1],[-2,-2,0,0,-2,0,0,-2],[-3,-3,0,0,-3,0,0,-3],[0,0,0,0,0,0,0,0],[0,1,-2,-3,0,0,0,-1],[-1,-1,0,-1,-1,-1,-1,-1],[-1,1,-2,-3,-1,0,-1,-1]]
def XY (l r:Nat):Int:=(fE.getD l []).getD r 0
def VX (l r:Nat)(v:Int):Int:=if XY l r<0 then(if v > 1 then 0 else -(XY l r))else XY l r
def Qt (q:Int)(l r:Nat)(v:Int):Int:=if VX l r v=0 then 0 else ka q (VX l r v+2)
def ABu:V:=.agg (fE.flatten.map λn=>.c (.int .i64 n))
theorem Ant : ∀l<8,∀r<8,fE.flatten[l*8+r]?=J (XY l r):=by decide +kernel
theorem Ans : ∀l<8,∀r<8,-3<=XY l r/\XY l r<=1:=by decide +kernel
theorem Anj (l r v:Nat)(S:l<8)(q:r<8)(hv:v<4):AC AF 187 [.c (.int .i64 (l:Int)),.c (.int .i64 (r:Int)),.c (.int .i64 (v:Int))] (.c (.int .i64 (VX l r v))):=by
 have hg:=Ant l S r q;obtain⟨b1,b2⟩:=Ans l S r q;unfold VX;generalize hE:XY l r=E at hg b1 b2 ⊢;obtain⟨H,z⟩:=AI ((fE.flatten.map λn=>V.c (.int .i64 n)));have B:H[l*8+r]?=J (.c (.int .i64 E)):=by rw[<-z,CM,hg];rfl
 have Q:G H=64:=by rw[<-z];rfl
 have hw:AZ.wrap (-E)= -E:=Ac;have Mi:(l:Int)<8:=by omega
 have ml:(r:Int)<8:=by omega
 have K:=gx B;have M:l*8+r<G H:=by omega
 have Dn:l*8+r<64:=by omega
 have o : ∀cs:List V,G cs=64->E8 cs 0 H=H:=λcs h=>kz (by rw[Q,h])
 have FH:H.all V.one=true:=by rw[<-z];rfl
 refine en func187 ntmps187 ?_;refine wu (.mk 1) AR6 trivial ⟨?_⟩;refine AW.DA ?_;refine CY (.mk 8) trivial ?_;refine SW.op (.agg H) (by simp[BQ]) rfl (λS0 w0 x a w hA=>AIu hA.1 rfl (λp _=>CW hA.2 p.2) Aj7 Aj6 (by rw[<-z];kernel_rfl)) ?_;simp only[St.step,St.put,Bk,Ai,Ag];refine CY (.mk 2) (cj2 @o @Q @FH) ?_;refine SW.nil ?_;by_cases R:E<0;rw[if_pos R];by_cases h1:(1:Int)<v;have Jc:(2:Int)<=v:=by omega
 rw[if_pos h1];exact wz (cj9 @Q @B @K @M @Dn @Mi @ml @S @q<|cj3 @hw @R @Jc AR6) W;have Jc : ¬(2:Int)<=v:=by omega
 rw[if_neg h1];exact wz (cj9 @Q @B @K @M @Dn @Mi @ml @S @q<|cj3 @hw @R @Jc AR6) W;rw[if_neg R];exact wz (cj9 @Q @B @K @M @Dn @Mi @ml @S @q<|cj2 @hw @R AR6) W
theorem AXG:AC AF 170 [] ABu:=by
 unfold ABu;obtain⟨B,K⟩:=AI ((fE.flatten.map λn=>V.c (.int .i64 n)));have M:G B=64:=by rw[<-K];rfl
 have H : ∀Q:List V,G Q=64->E8 Q 0 B=B:=λQ h=>kz (by rw[M,h])
 have R:B.all V.one=true:=by rw[<-K];rfl
 have GP:B.take 64=B:=Gl (by omega);have o:V.CF B=J B:=by rw[<-K];rfl
 rw[K];refine en func170 ntmps170 ?_;refine wu (.mk 1) ADE trivial ⟨?_⟩;refine AW.DA ?_;refine CY (.mk 8) trivial ?_;refine SW.op (.agg B) (by simp[BQ]) rfl (λq z x a w S=>AIu S.1 rfl (λp _=>CW S.2 p.2) Aj7 Aj6 (by rw[<-K];kernel_rfl)) ?_;simp only[St.step,St.put,Bk,Ai,Ag];refine CY (.mk 1) (cj2 @H @M @R) ?_;refine SW.nil ?_;exact wz (cj4 @M @R @o @GP ADE) W
def KL:List AA->Int->Int
 | [],h=>h
 | b::l,h=>KL l (mx h (b.y+b.h))
def J1:List AA->Int->Int
 | [],d=>d
 | b::l,d=>J1 l (mx d (b.d - b.y))
def EY:List AA->List Int->List AA
 | b::l,p::q=>b.AS p b.y::EY l q
 | _,_=>[]
def Qf (AE:List AA)(places:List Int)(w:Int):AA:=Bf w (KL AE 0) (J1 AE 0) (EY AE places)
def Tk (AE:List AA)(places:List Int)(w:Int):AA×Int:=if (Qf AE places w).Ad=U then(AA.zero,6)else(Qf AE places w,0)
theorem dz : ∀ {AE:List AA} {pl:List Int},G pl=G AE->AA.Az (EY AE pl)=AA.Az AE
 | [],_,_=>by cases ‹List Int›<;>rfl
 | b::l,p::q,h=>by simp only[EY,AA.Az,Hb,dz (AE:=l) (pl:=q) (by simpa using h)]
 | b::l,[],h=>by simp at h
theorem AJb : ∀ {AE:List AA} {pl:List Int},AA.JH AE->AA.JH (EY AE pl)
 | [],[],_=>trivial
 | [],_::_,_=>trivial
 | b::l,[],_=>trivial
 | b::l,p::q,h=>by simp only[EY,AA.JH]at h ⊢;exact⟨HJ _ _ h.1,AJb h.2⟩
theorem AJd : ∀ {AE:List AA} {pl:List Int},AA.FY AE->AA.FY (EY AE pl)
 | [],[],_=>trivial
 | [],_::_,_=>trivial
 | b::l,[],_=>trivial
 | b::l,p::q,h=>by simp only[EY,AA.FY]at h ⊢;exact⟨F4 _ _ h.1,AJd h.2⟩
theorem kv : ∀ {AE:List AA} {pl:List Int},G pl=G AE->G (EY AE pl)=G AE
 | [],_,_=>by cases ‹List Int›<;>rfl
 | b::l,p::q,h=>by simp only[EY,BA,kv (AE:=l) (pl:=q) (by simpa using h)]
 | b::l,[],h=>by simp at h
theorem AJf : ∀ {AE:List AA} {pl:List Int} {k:Nat} {b:AA} {p:Int},AE[k]?=J b->pl[k]?=J p->EY (AE.take (k+1)) (pl.take (k+1))=EY (AE.take k) (pl.take k)++[b.AS p b.y]
 | b'::l,K::q,0,b,p,B,H=>by simp at B H;subst B H;rfl
 | b'::l,K::q,k+1,b,p,B,H=>by
   simp only[JU]at B H;have:=AJf B H;simp only[DP,EY,BK]at this ⊢;rw[this]
 | [],_,_,_,_,h,_=>by simp at h
 | _::_,[],_,_,_,_,h=>by simp at h
theorem ALc : ∀(l:List AA) (k:Nat) (b:AA) (h:Int),l[k]?=J b->KL (l.take (k+1)) h=mx (KL (l.take k) h) (b.y+b.h)
 | [],_,_,_,h=>by simp at h
 | x::l,0,b,h,B=>by simp at B;subst B;rfl
 | x::l,k+1,b,h,B=>by simp only[DP,KL];exact ALc l k b _ (by simpa using B)
theorem AEP : ∀(l:List AA) (k:Nat) (b:AA) (h:Int),l[k]?=J b->J1 (l.take (k+1)) h=mx (J1 (l.take k) h) (b.d - b.y)
 | [],_,_,_,h=>by simp at h
 | x::l,0,b,h,B=>by simp at B;subst B;rfl
 | x::l,k+1,b,h,B=>by simp only[DP,J1];exact AEP l k b _ (by simpa using B)
theorem AaP {b:AA}(h:b.Ad=I):(-1073741824<=b.x/\b.x<=1073741824)/\(-1073741824<=b.y/\b.y<=1073741824):=by
 obtain⟨q,z,bs,bw,o,S,bx,M,Q,bo,R⟩:=b;simp only[AA.Ad,Ak,decide_eq_true_eq]at h;obtain⟨B,h2,h3⟩:=h;simp only[AA.D8,AA.Cl,AA.lens,Ak,Ep,Nq]at B;obtain⟨⟨⟨l1,l2,l3,H,K,_⟩,k1,k2⟩,h4⟩:=B;simp[An]at H K;exact⟨H,K⟩
theorem ABN : ∀(vs cs pre post:List V),G cs=G vs->E8 (pre++(cs++post)) (G pre) vs=pre++(vs++post)
 | [],cs,pre,post,h=>by
   have:cs=[]:=List.eq_nil_of_length_eq_zero (by simpa using h);subst this;simp[E8]
 | v::vs,c::cs,pre,post,h=>by
   simp only[E8,BK];have:=ABN vs cs (pre++[v]) post (by simpa using h);simp only[Cp,BA,BO,Nat.zero_add,GX,BK,List.nil_append]at this;rw[<-this];congr 1
   simp
def arr (l:List AA)(n:Nat):List V:=(AA.AG l).flatten.map V.c++(Aq n BT).flatten
theorem AKY (l:List AA):(AA.AG l).flatten.length=G l*11:=by
 induction l with
 | nil=>rfl
 | cons b l ih=>simp only[AA.AG,Hp,Cp,ih,BA,AA.Nk];omega
theorem ANd (l:List AA)(n:Nat):G (arr l n)=(G l+n)*11:=by
 have B:(Aq n BT).flatten.length=n*11:=by
  induction n with
  | zero=>rfl
  | succ n ih=>rw[BY,Hp,Cp,ih];simp[BT];omega
 unfold arr;rw[Cp,Ch,AKY,B];omega
theorem ib {n:Nat} : ∀ {a b:List V},V.BI n (a++b)=(V.BI n a && V.BI n b)
 | [],b=>by simp[V.BI]
 | v::a,b=>by simp only[BK,V.BI,ib (a:=a),Bool.and_assoc]
@[simp] theorem Aa5 :V.BI m BT=true:=by simp[BT,V.BI,V.A8]
@[simp] theorem AbJ (l:List AA)(n:Nat):V.BI m (arr l n)=true:=by
 have B : ∀r:List C,V.BI m (r.map V.c)=true:=by
  intro r;induction r with
  | nil=>rfl
  | cons c r ih=>simp only[Ap,V.BI,V.A8,ih,LW]
 have H:V.BI m (Aq n BT).flatten=true:=by
  induction n with
  | zero=>rfl
  | succ n ih=>rw[BY,Hp,ib,ih,Aa5];rfl
 unfold arr;rw[ib,B,H];rfl
theorem ANe (l:List AA)(n:Nat)(b:AA)(p:Int):(E8 (arr l (n+1)) (G l*11) b.vs).set (G l*11+6) (.c (.int .i64 p))=arr (l++[b.AS p b.y]) n:=by
 have M:G ((AA.AG l).flatten.map V.c)=G l*11:=by rw[Ch,AKY]
 have B:arr l (n+1)=(AA.AG l).flatten.map V.c++(BT++(Aq n BT).flatten):=by
  unfold arr;rw[BY,Hp]
 rw[B,<-M,ABN _ _ _ _ (by rw[AA.Xf];rfl),Vg _ _ (by omega),show G ((AA.AG l).flatten.map V.c)+6 - G ((AA.AG l).flatten.map V.c)=6 by omega];have H:(b.vs++(Aq n BT).flatten).set 6 (.c (.int .i64 p))=(b.AS p b.y).vs++(Aq n BT).flatten:=by cases b;rfl
 rw[H];unfold arr;have K:AA.AG (l++[b.AS p b.y])=AA.AG l++[(b.AS p b.y).row]:=by rw[Dt,Dt,Fm];rfl
 rw[K,List.flatten_append,Fm,GX];simp only[Hp,List.flatten_nil,List.append_nil];rfl
theorem AS7 (ho:AA.FY AE)(hc:AA.Az AE<=1000000):AC AF 107 [.c (.sl (AA.AG AE))] (.c (.bool (AE.all AA.Ad))):=by
 obtain⟨K,R⟩:=AI (AA.AG AE);have Q:G K=G AE:=by rw[<-R,Dt];simp
 have Ce:=Ud AE;rw[R];refine en func107 ntmps107 ?_;refine wy (cj @Q<|vH) trivial ⟨?_⟩;refine lp (ι:={ k:Nat // k<=G AE/\AE.all AA.Ad=(AE.drop k).all AA.Ad }) (λk=>[(2,.c (.bool U)),(6,.c (.int .i64 (k.1:Int)))]) (λ_=>[]) (λk=>G AE - k.1) ⟨0,by simp⟩ ?_ ?_;all_goals simp only[CG,Bw,CO,Ag,Ai]
 exact DH
 . rintro ⟨k,hk,q⟩;simp only;by_cases B:k<G AE
   . obtain⟨c,H⟩:=AI (AE[k]);have S:AE[k]?=J c:=by rw[BE B,H]
     rw[D5 B,H,Ep]at q;have M:K[k]?=J c.row:=by rw[<-R,Dt,CM,S];rfl
     have Dp:k<G K:=by omega
     have Bu : ∀z:k<G K,K[k]'z=c.row:=by intro z;rw[BE z]at M;exact ML M
     have FX:=bj AE k c S;have hv:=EL c (kl ho c (Cj S)) (by omega);rw[As]at hv;have o:=(cj5 @Q @B @Dp @M @Bu vH)
     have cc:=(cj hv<|trivial)
     repeat any_goals (first|refine Du o cc ⟨?_⟩|exact Bt o|(refine Dv o ?_ ?_<;>intro h<;>try exact Dw))
     all_goals exact⟨⟨k+1,by omega,by rw[q,h,Bool.true_and]⟩,by simp only;omega,wd 0⟩
   rw[FA (by omega),Nq]at q;exact wz (cj2 @Q @B vH) W
theorem ARw (pl:List Int)(w:Int)(hv : ∀b∈AE,b.Ad=I)(ho:AA.FY AE)(hd:AA.JH AE)(o:G pl=G AE)(hc:AA.Az AE<=900000)(A3:G AE<=10000):AC AF 109 [.c (.sl (AA.AG AE)),.c (AV pl),.c (.int .i64 w)] (Ba (Tk AE pl w)):=by
 obtain⟨q,Aw⟩:=AI (AA.AG AE);have Av:G q=G AE:=by rw[<-Aw,Dt];simp
 obtain⟨Q,Ru⟩:=AI (pl.map (λn=>[C.int .i64 n]));have A2:G Q=G AE:=by rw[<-Ru,Ch,o]
 have z:=My w (KL AE 0) (J1 AE 0) (EY AE pl) (AJb hd) (by rw[dz o];omega);have CA:=EL (Qf AE pl w) (show AA.BX (Bf _ _ _ _)from⟨(CI _:0<=maxLen),(CI _:0<=maxLen),AJd ho⟩) (by show AA.cnt (Bf _ _ _ _)<=_;simp only[Bf,AA.cnt,dz o];omega);have A0:Bf w (KL AE 0) (J1 AE 0) (EY AE pl)=Qf AE pl w:=F;rw[A0]at z;obtain⟨B,hB⟩:=AI (Qf AE pl w);unfold Tk;rw[hB]at z CA ⊢;have Wd:AV pl=.sl Q:=by rw[<-Ru];rfl
 rw[Aw,Wd];simp only[As]at z CA;have dC:128*(G AE:Int)<=281474976710656:=by omega
 have za:(G AE:Int)<=9223372036854775807:=by omega
 have KY : ¬(20000:Int)<=(G AE:Int):=by omega
 refine en func109 ntmps109 ?_;refine wy (cj3 @Av @dC @za AbG) trivial ⟨?_⟩;refine lp (ι:={ k:Nat // k<=G AE/\KL (AE.take k) 0<=3000000000/\0<=KL (AE.take k) 0/\J1 (AE.take k) 0<=3000000000/\0<=J1 (AE.take k) 0 }) (λk=>[(9,.c (.int .i64 (KL (AE.take k.1) 0))),(10,.c (.int .i64 (J1 (AE.take k.1) 0))),(18,.c (.int .i64 (k.1:Int)))]) (λk=>[.box 41 BT U,.box 41 (arr (EY (AE.take k.1) (pl.take k.1)) (G AE - k.1)) U]) (λk=>G AE - k.1) ⟨0,by simp[KL,J1]⟩ ?_ ?_;all_goals simp only[CG,Bw,CO,Ag,Ai]
 exact ER (cj3 @KL.eq_1 @KL.eq_2 @J1.eq_1 @J1.eq_2);rintro ⟨k,hk,t1,t2,b1,b2⟩;simp only;by_cases K:k<G AE;obtain⟨c,A1⟩:=AI (AE[k]);have R:AE[k]?=J c:=by rw[BE K,A1]
 have A9:q[k]?=J c.row:=by rw[<-Aw,Dt,CM,R];rfl
 have Dp:k<G q:=by omega
 have qo:k<G Q:=by omega
 have Bu : ∀M:k<G q,q[k]'M=c.row:=by intro M;rw[BE M]at A9;exact ML A9
 obtain⟨p,hp⟩:∃p,pl[k]?=J p:=⟨_,BE (by omega)⟩
 have KZ:Q[k]?=J [.int .i64 p]:=by rw[<-Ru,CM,hp];rfl
 have rB : ∀M:k<G Q,Q[k]'M=[.int .i64 p]:=by intro M;rw[BE M]at KZ;exact ML KZ
 have S:=hv c (Cj R);obtain⟨cw,ch,cd,_⟩:=D3 S;obtain⟨cx,cy⟩:=AaP S;have hA:arr (EY (AE.take k) (pl.take k)) (G AE - k)=arr (EY (AE.take k) (pl.take k)) (G AE - (k+1)+1):=by rw[show G AE - (k+1)+1=G AE - k by omega]
 have HO:G (EY (AE.take k) (pl.take k))=k:=by rw[kv (by simp[o]),Fa];omega
 have H:=ANe (EY (AE.take k) (pl.take k)) (G AE - (k+1)) c p;have FE:=ANd (EY (AE.take k) (pl.take k)) (G AE - k);rw[<-hA,HO,<-AJf R hp]at H;rw[HO,show k+(G AE - k)=G AE by omega]at FE;have Td:=ALc AE k c 0 R;have G5:=AEP AE k c 0 R;generalize Rg:arr (EY (AE.take k) (pl.take k)) (G AE - k)=X0 at H FE ⊢;obtain⟨X1,yX⟩:=AI (E8 X0 (k*11) c.vs);have cT:G X1=G AE*11:=by rw[<-yX,AJ5,FE]
 rw[yX]at H;obtain⟨T,hT⟩:=AI (KL (AE.take k) 0);obtain⟨D,hD⟩:=AI (J1 (AE.take k) 0);rw[hT]at Td t1 t2 ⊢;rw[hD]at G5 b1 b2 ⊢;have Ew:(if T<c.y+c.h then c.y+c.h else T)=KL (AE.take (k+1)) 0:=Td.symm;have FP:(if D<c.d - c.y then c.d - c.y else D)=J1 (AE.take (k+1)) 0:=G5.symm;have NT:k*11+11<=G AE*11:=by omega
 have Ta:k*11+6<G AE*11:=by omega
 refine wy (cj9 @Av @A2 @K @Dp @qo @A9 @Bu @KZ @rB<|cj8 @FE @yX @cT @H @NT @Ta @Ew @FP AbG) trivial ⟨?_⟩;exact⟨⟨k+1,by omega,by rw[Td,DU];omega,by rw[Td,DU];omega,by rw[G5,DU];omega,by rw[G5,DU];omega⟩,by simp only;omega,wd 2⟩;have e1:AE.take k=AE:=Gl (by omega);have e2:pl.take k=pl:=Gl (by omega);rw[e1]at t1 t2 b1 b2 ⊢;rw[e2];have hz:G AE - k=0:=by omega
 rw[hz];have e3:arr (EY AE pl) 0=(AA.AG (EY AE pl)).flatten.map V.c:=by simp[arr]
 have e4:Hc 11 (G AE) (AA.AG (EY AE pl)).flatten=AA.AG (EY AE pl):=by
  have:=bZ (AA.AG (EY AE pl)) (lE _);rwa [show G (AA.AG (EY AE pl))=G AE by rw[Dt,Ch,kv o]]at this
 rw[e3];refine AW.Bi 1 rfl (toCs_map _) (by simp[V.Cs,V.Bi,e4];exact rfl) (by simp[O.Bi,V.Cs,V.Bi,BT];exact rfl) ?_;exact wz (cj8 @Av @K @KY @Ba.eq_1 @As @AR.eq_1 @Fl @BT.eq_1 AbG) (cj2 z CA W)
def Eh:List AA->List Int->Int->Int
 | b::l,s::t,e=>Eh l t (e+s+b.w)
 | _,_,e=>e
def FT:List AA->List Int->Int->List Int
 | b::l,s::t,e=>(e+s)::FT l t (e+s+b.w)
 | _,_,_=>[]
def F9 (AE:List AA)(sp:List Int):AA×Int:=
 if AE.all AA.Ad=U then(AA.zero,1)
 else if G sp≠G AE\/sp.all An=U then(AA.zero,2)
 else Tk AE (FT AE sp 0) (Eh AE sp 0)
theorem xV : ∀ {l:List AA} {t:List Int} {k:Nat} {b:AA} {s:Int} (e:Int),l[k]?=J b->t[k]?=J s->Eh (l.take (k+1)) (t.take (k+1)) e=Eh (l.take k) (t.take k) e+s+b.w
 | b'::l,K::t,0,b,s,e,B,H=>by simp at B H;subst B H;rfl
 | b'::l,K::t,k+1,b,s,e,B,H=>by
   simp only[JU]at B H;simp only[DP,Eh];exact xV _ B H
 | [],_,_,_,_,_,h,_=>by simp at h
 | _::_,[],_,_,_,_,_,h=>by simp at h
theorem AJl : ∀ {l:List AA} {t:List Int} {k:Nat} {b:AA} {s:Int} (e:Int),l[k]?=J b->t[k]?=J s->FT (l.take (k+1)) (t.take (k+1)) e=FT (l.take k) (t.take k) e++[Eh (l.take k) (t.take k) e+s]
 | b'::l,K::t,0,b,s,e,B,H=>by simp at B H;subst B H;rfl
 | b'::l,K::t,k+1,b,s,e,B,H=>by
   simp only[JU]at B H;simp only[DP,FT,Eh,BK];rw[AJl _ B H]
 | [],_,_,_,_,_,h,_=>by simp at h
 | _::_,[],_,_,_,_,_,h=>by simp at h
theorem VK : ∀ {l:List AA} {t:List Int} (e:Int),G t=G l->G (FT l t e)=G l
 | [],[],_,_=>rfl
 | b::l,s::t,e,h=>by simp only[FT,BA];rw[VK _ (by simpa using h)]
 | b::l,[],_,h=>by simp at h
 | [],_::_,_,h=>by simp at h
def NX (l:List Int)(n:Nat):List V:=l.map (λn=>V.c (.int .i64 n))++Aq n (.c (.int .i64 0))
theorem AHp :G (NX l n)=G l+n:=by simp[NX]
theorem ATP (v:Int):(NX l (n+1)).set (G l) (.c (.int .i64 v))=NX (l++[v]) n:=by
 unfold NX;rw[Vg _ _ (by simp)];simp[BY]
theorem ATO (v:Int):(NX (l++[v]) n)[G l]?=J (.c (.int .i64 v)):=by
 unfold NX;rw[List.getElem?_append_left (by simp)];simp
@[simp] theorem AcN :V.BI m (NX l n)=true:=by
 unfold NX;rw[ib];have B:V.BI m (l.map λn=>V.c (.int .i64 n))=true:=by
  induction l with
  | nil=>rfl
  | cons c r ih=>simp only[Ap,V.BI,V.A8,ih,LW]
 have H:V.BI m (Aq n (.c (.int .i64 0)))=true:=by
  induction n with
  | zero=>rfl
  | succ n ih=>simp only[BY,V.BI,V.A8,ih,LW]
 rw[B,H];rfl
theorem ATQ :toCs (NX l 0)=J (l.map (C.int .i64)):=by
 have e:NX l 0=(l.map (C.int .i64)).map V.c:=by simp[NX]
 rw[e];exact toCs_c _
theorem AEo : ∀l:List Int,Hc 1 (G l) (l.map (C.int .i64))=l.map λn=>[C.int .i64 n]
 | []=>rfl
 | n::l=>by simp only[BA,Ap,Hc];rw[show (C.int AZ n::List.map (C.int AZ) l).drop 1=l.map (C.int .i64)from rfl,AEo l];rfl
theorem ANN {l:List AA}(h:l.all AA.Ad=I):∀b∈l,b.Ad=true:=λb B=>ES.1 h b B
theorem ADw : ∀ {l:List AA},(∀b∈l,b.Ad=I)->AA.JH l
 | [],_=>trivial
 | b::l,h=>⟨GD (h b GH),ADw λc B=>h c (Gk _ B)⟩
theorem kx (sp:List Int)(ho:AA.FY AE)(hc:AA.Az AE<=900000)(A3:G AE<=10000)(A6:G sp<=1000000):AC AF 59 [.c (.sl (AA.AG AE)),.c (AV sp)] (Ba (F9 AE sp)):=by
 obtain⟨rs,Aw⟩:=AI (AA.AG AE);have o:G rs=G AE:=by rw[<-Aw,Dt];simp
 obtain⟨ps,Ru⟩:=AI (sp.map (λn=>[C.int .i64 n]));have M:G ps=G sp:=by rw[<-Ru,Ch]
 have Wd:AV sp=.sl ps:=by rw[<-Ru];rfl
 have Q:=AS7 AE ho (by omega);rw[Aw]at Q;unfold F9;rw[Aw,Wd];have dC:8*(G AE:Int)<=281474976710656:=by omega
 have za:(G AE:Int)<=9223372036854775807:=by omega
 refine en func59 ntmps59 ?_;have B:=(cj8 @o @M @dC @za @Ba.eq_1 @As @AR.eq_1 @Fl AGY)
 repeat any_goals (first|refine Qu (.mk 6) ?_|exact Bt B|refine De B ?_|refine BV B (Q) ?_|refine DI B ?_|((first|refine JC B ?_ ?_|refine JE B ?_ ?_|refine JD B ?_ ?_|refine JY B ?_ ?_)<;>intro h<;>try (exfalso;first|omega|contradiction)))
 have A5:G sp≠G AE:=by omega
 exact wz (cj6 @o @M @Ba.eq_1 @As @AR.eq_1 @Fl AGY) W
 . have hl:G sp=G AE:=by omega
   have dJ:AE.all AA.Ad=true:=‹_›;have Mk:=ANN dJ;rw[if_neg (by simp[dJ])];rw[show Aq (G AE) (V.c (C.int AZ 0))=NX [] (G AE) from rfl];refine AW.DA ?_;refine SW.AOB AUa (cs:=[.int .i64 0]) (λS w=>by simp only[B4,Ab];exact⟨_,_,F,⟨F,by decide +kernel⟩,F⟩) func108 rfl rfl rfl rfl ?_;refine CY (.mk 1) trivial ?_;refine SW.nil ?_;have B:=(cj3 @o @M @dC AGY)
   have cc:=W;repeat any_goals (first|refine Du B cc ⟨?_⟩|exact Bt B|(refine Dv B ?_ ?_<;>intro h<;>try exact Dw))
   refine lp (ι:={ k:Nat // k<=G AE/\sp.all An=(sp.drop k).all An/\ -(k:Int)*2147483648<=Eh (AE.take k) (sp.take k) 0/\Eh (AE.take k) (sp.take k) 0<=(k:Int)*2147483648 }) (λk=>[(5,.c (.int .i64 0)),(8,.c (.int .i64 (Eh (AE.take k.1) (sp.take k.1) 0))),(26,.c (.int .i64 (k.1:Int)))]) (λk=>[.box 41 BT U,.box 3 (NX (FT (AE.take k.1) (sp.take k.1) 0) (G AE - k.1)) U,.box 3 [.c (.int .i64 (Eh (AE.take k.1) (sp.take k.1) 0))] U]) (λk=>G AE - k.1) ⟨0,by simp[Eh]⟩ ?_ ?_;all_goals simp only[CG,Bw,CO,Ag,Ai]
   exact ER (cj @Eh.eq_1<|@Eh.eq_2)
   . rintro ⟨k,hk,hI,b1,b2⟩;simp only;by_cases K:k<G AE
     . obtain⟨c,A2⟩:=AI (AE[k]);have Ev:AE[k]?=J c:=by rw[BE K,A2]
       have A0:k<G sp:=by omega
       obtain⟨s,Cu⟩:=AI (sp[k]);have OE:sp[k]?=J s:=by rw[BE A0,Cu]
       rw[D5 A0,Cu,Ep]at hI;have A9:rs[k]?=J c.row:=by rw[<-Aw,Dt,CM,Ev];rfl
       have Dp:k<G rs:=by omega
       have qo:k<G ps:=by omega
       have Bu : ∀z:k<G rs,rs[k]'z=c.row:=by intro z;rw[BE z]at A9;exact ML A9
       have KZ:ps[k]?=J [.int .i64 s]:=by rw[<-Ru,CM,OE];rfl
       have rB : ∀z:k<G ps,ps[k]'z=[.int .i64 s]:=by intro z;rw[BE z]at KZ;exact ML KZ
       obtain⟨cw,ch,cd,_⟩:=D3 (Mk c (Cj Ev));have hE:=xV 0 Ev OE;have kE:=AJl 0 Ev OE;have HO:G (FT (AE.take k) (sp.take k) 0)=k:=by rw[VK _ (by simp[hl]),Fa];omega
       have H:=ATP (FT (AE.take k) (sp.take k) 0) (G AE - (k+1)) (Eh (AE.take k) (sp.take k) 0+s);have Ir:=ATO (FT (AE.take k) (sp.take k) 0) (G AE - (k+1)) (Eh (AE.take k) (sp.take k) 0+s);have FE:=AHp (FT (AE.take k) (sp.take k) 0) (G AE - k);have cT:=AHp (FT (AE.take (k+1)) (sp.take (k+1)) 0) (G AE - (k+1));rw[<-kE,HO]at H Ir;rw[HO,show k+(G AE - k)=G AE by omega]at FE;rw[kE,Cp,HO,List.length_singleton,<-kE,show k+1+(G AE - (k+1))=G AE by omega]at cT;rw[show G AE - (k+1)+1=G AE - k by omega]at H;obtain⟨X0,Rg⟩:=AI (NX (FT (AE.take k) (sp.take k) 0) (G AE - k));obtain⟨E,cH⟩:=AI (Eh (AE.take k) (sp.take k) 0);rw[Rg]at H FE ⊢;rw[cH]at H Ir hE b1 b2 ⊢;have G7:=Ng s;have B:=(cj9 @o @M @K @Dp @qo @A9 @Bu @KZ @rB<|cj5 @Ba.eq_1 @As @AR.eq_1 @Fl @BT.eq_1 AGY)
       repeat any_goals (first|refine Qu (.mk 13) ?_|exact Bt B|refine De B ?_|refine BV B (G7) ?_|refine DI B ?_|((first|refine JC B ?_ ?_|refine JE B ?_ ?_|refine JD B ?_ ?_|refine JY B ?_ ?_)<;>intro h<;>try (exfalso;first|omega|contradiction)))
       have hs:An s=true:=‹_›;simp[An]at hs;have FJ:k+1<=G AE:=by omega
       refine AW.Lm Fz (.inl F) ?_;refine TW.take 12 (Es (by simp[o,K,Dp,qo,A9,Bu,KZ,rB];first|exact rfl|exact⟨F,F⟩|exact⟨F,F,F⟩) (HI ?_));simp only[CU,B9];refine TW.pJ 2 (AUZ E s c.w (by omega) (by omega) (by omega) (by omega)) func172 rfl rfl rfl rfl rfl rfl rfl ?_;simp only[St.step,St.put,Bk,BA,BO,Nat.reduceAdd,Nat.reduceLT,if_true,Ai,Ag,Ap,BB];refine TW.take 2 (Es (by simp[K,FJ,FE,H];first|exact rfl|exact⟨F,F⟩|exact⟨F,F,F⟩) (HI (TW.nil ⟨by kernel_rfl,?_⟩)));have A1:=gx Ir;refine wy (cj9 @o @K @Dp @A9 @Bu @Ir @A1 @cT @hE.symm AGY) trivial ⟨?_⟩;refine⟨⟨k+1,by omega,by rw[hI];simp[h],by rw[hE];omega,by rw[hE];omega⟩,by simp only;omega,?_⟩;refine Le.MI 3 (Nat.le_of_ble_eq_true F) (by simp[DG,BT]) (by simp[BT]) (by simp[V.BI,V.A8]) (by simp[O.A8,V.BI,V.A8,BT])
     have hz:G AE - k=0:=by omega
     have e1:AE.take k=AE:=Gl (by omega);have e2:sp.take k=sp:=Gl (by omega);rw[FA (by omega),Nq]at hI;rw[e1,e2]at b1 b2 ⊢;rw[hz,if_neg (by simp[hI,hl])];have BD:=ARw AE (FT AE sp 0) (Eh AE sp 0) Mk ho (ADw Mk) (VK 0 hl) hc A3;have q:=AEo (FT AE sp 0);rw[VK 0 hl]at q;rw[Aw]at BD;obtain⟨E,cH⟩:=AI (Eh AE sp 0);obtain⟨L,hL⟩:=AI (FT AE sp 0);obtain⟨R,hR⟩:=AI (Tk AE L E);rw[cH,hL]at BD ⊢;rw[hL]at q;rw[hR]at BD ⊢;simp only[Ba,As,AR,AV]at BD ⊢;refine AW.Bi 1 rfl (ATQ L) (by simp[V.Cs,V.Bi,q];exact rfl) (by simp[O.Bi,V.Cs,V.Bi,BT];exact rfl) ?_;exact wz (cj3 @o @K @BT.eq_1 AGY) (cj BD<|trivial)
theorem Aja (b:AA)(a:Int)(ho:b.BX)(hc:b.cnt<=900000):AC AF 257 [Ao b,.c (.int .i64 a)] (Ba (KS b a)):=by
 have B:=m7 b ho (by omega);cases H:b.Ad with
 | false=>have e:KS b a=(AA.zero,1):=if_pos H;rw[e];rw[H]at B;simp only[Ba,As,AR]at B ⊢;refine en uk u9 ?_;refine Ah ?_;refine BZ (B) nC ?_;refine Ah ?_;exact At (cj ni<| @Fl)
 | true =>
   rw[H]at B;obtain⟨bw,bh,bd,bc⟩:=D3 H;have K:=sb a;have M:=sb (b.h - b.d);have Q:AZ.wrap (b.h - b.d)=b.h - b.d:=Ac;cases S:An a with
   | false =>
     have e:KS b a=(AA.zero,2):=by unfold KS;rw[if_neg (by simp[H]),if_pos (.inl S)]
     rw[e];rw[S]at K;simp only[Ba,As,AR]at B ⊢;refine en uk u9 ?_;refine Ah ?_;refine BZ (B) nC ?_;refine Ah ?_;refine BZ (K) LR ?_;refine Ah ?_;exact At (cj ni<| @Fl)
   | true =>
     rw[S]at K;cases o:An (b.h - b.d)with
     | false =>
       have e:KS b a=(AA.zero,2):=by unfold KS;rw[if_neg (by simp[H]),if_pos (.inr o)]
       rw[e];rw[o]at M;simp only[Ba,As,AR]at B ⊢;refine en uk u9 ?_;refine Ah ?_;refine BZ (B) nC ?_;refine Ah ?_;refine gc @Q (K) LR ?_;refine BZ (M) LR ?_;refine Ah ?_;exact At (cj ni<| @Fl)
     | true =>
       rw[o]at M;have Fc:=J6 (b.h - b.d);have z:=AP1 (b.h - b.d);simp[An]at S;have A0:An a=true:=by simp[An];omega
       have e:KS b a=if An (a - Bm (b.h - b.d))=U then(AA.zero,6)else(b.AS b.x (a - Bm (b.h - b.d)),0):=by unfold KS;rw[if_neg (by simp[H]),if_neg (by simp[A0,o])]
       rw[e];generalize A1:Bm (b.h - b.d)=R at Fc z ⊢;have w2:AZ.wrap (a - R)=a - R:=Ac;have q:=sb (a - R);cases hy:An (a - R)with
       | false=>rw[if_pos rfl];rw[hy]at q;simp only[Ba,As,AR]at B ⊢;refine en uk u9 ?_;refine Ah ?_;refine BZ (B) nC ?_;refine Ah ?_;refine gc @Q (K) LR ?_;refine BZ (M) LR ?_;refine go @Q ?_;refine gc @w2 (z) AIB ?_;refine Ah ?_;refine BZ (q) LR ?_;refine Ah ?_;exact At (cj ni<| @Fl)
       | true=>rw[if_neg (by simp)];rw[hy]at q;simp only[Ba,As,AR]at B ⊢;refine en uk u9 ?_;refine Ah ?_;refine BZ (B) nC ?_;refine Ah ?_;refine gc @Q (K) LR ?_;refine BZ (M) LR ?_;refine go @Q ?_;refine gc @w2 (z) AIB ?_;refine Ah ?_;refine BZ (q) LR ?_;refine Ah ?_;exact At ni
theorem AXd (f:AP)(p:Int):AC AF 258 [.agg f.vs,.c (.int .i64 p)] (.c (.int .i64 (Hu f p))):=by
 have h:=AYA f.params.FD p;unfold Hu;refine en gH ntmps258 ?_;refine Ah ?_;refine BZ (h) Su ?_;refine Ah ?_;exact At results258
theorem AXg (f:AP)(b:AA)(p:Int)(hb:b.Ad=I)(z:1<=p)(Q:p<=100):(-1073741824<=Hu f p/\Hu f p<=1073741824)/\∃M,(if Hu f p<b.h then b.h - Hu f p else 0)=M/\0<=M/\M<=2147483648/\(if M<b.d+Hu f p then b.d+Hu f p else M)=Ra f b p/\0<=Ra f b p/\Ra f b p<=2147483648:=by
 obtain⟨q,o,S,R⟩:=D3 hb;have K:=DM (p:=p) f.params.FD (by omega) Q;refine⟨K,?_⟩;have B:Ra f b p=mx (mx 0 (b.h - Hu f p)) (b.d+Hu f p):=F;unfold Hu at *
 generalize hA:AU f.params.FD p=A at K B ⊢;have H:mx 0 (b.h - A)=if A<b.h then b.h - A else 0:=by unfold mx;split<;>split<;>omega
 refine⟨_,F,?_,?_,?_,?_,?_⟩;split<;>omega;split<;>omega;rw[B,H];rfl;rw[B,H];unfold mx;split<;>split<;>omega;rw[B,H];unfold mx;split<;>split<;>omega
theorem AnN (f:AP)(b:AA)(p:Int)(hb:b.Ad=I)(Q:1<=p)(R:p<=100):AC AF 264 [.agg f.vs,Ao b,.c (.int .i64 p)] (.c (.int .i64 (Ra f b p))):=by
 obtain⟨bw,bh,bd,z⟩:=D3 hb;obtain⟨S,M,K,m1,m2,H,d1,d2⟩:=AXg f b p hb Q R;have B:=AXd f p;generalize hA:Hu f p=A at S K H B;have o:AZ.wrap (b.h - A)=b.h - A:=Ac;have q:AZ.wrap (b.d+A)=b.d+A:=Ac;rw[As];refine en func264 ntmps264 ?_;refine Ah ?_;refine BZ (B) gH ?_;refine go (cj3 @o @q @K @H) ?_;exact At results264
theorem AWp (f:AP)(b:AA)(p:Int)(hf:f.Fit)(ho:b.BX)(hc:b.cnt<=1000000):AC AF 162 [.agg f.vs,Ao b,.c (.int .i64 p)] (.c (.int .i64 (P9 f b p))):=by
 have H:=Ma f;have B:=EL b ho hc;rw[As]at B ⊢;cases hv:f.valid with
 | false=>have e:P9 f b p=0:=if_pos (.inl hv);rw[e];rw[hv]at H;refine en AFG AGC ?_;refine Ah ?_;refine BZ (H) DC ?_;refine Ah ?_;exact At AGP
 | true =>
   rw[hv]at H;cases K:b.Ad with
   | false=>have e:P9 f b p=0:=if_pos (.inr (.inl K));rw[e];rw[K]at B;refine en AFG AGC ?_;refine Ah ?_;refine BZ (H) DC ?_;refine BZ (B) H9 ?_;refine Ah ?_;exact At AGP
   | true =>
     rw[K]at B;by_cases R:p<1;have e:P9 f b p=0:=if_pos (.inr (.inr (.inl R)));rw[e];refine en AFG AGC ?_;refine Ah ?_;refine BZ (H) DC ?_;refine gc @R (B) H9 ?_;refine Ah ?_;exact At AGP;by_cases q:100<p;have e:P9 f b p=0:=if_pos (.inr (.inr (.inr q)));rw[e];refine en AFG AGC ?_;refine Ah ?_;refine BZ (H) DC ?_;refine gc (cj @R<|@q) (B) H9 ?_;refine Ah ?_;exact At AGP;have e:P9 f b p=if 536870912<Ra f b p then 0 else mx (AU (2*Ra f b p) f.params.TD) (2*Ra f b p - AU f.params.RY p):=by unfold P9;rw[if_neg];rintro (h|h|h|h)<;>first|omega|(rw[hv]at h;cases h)|(rw[K]at h;cases h)
     rw[e];obtain⟨bw,bh,bd,bc⟩:=D3 K;obtain⟨ha,M,hM,m1,m2,hD,d1,d2⟩:=AXg f b p K (by omega) (by omega);have o:=EI f.params.FD p;have eA:AU f.params.FD p=Hu f p:=F;rw[eA]at o;generalize hA:Hu f p=A at ha hM hD o;have w1:AZ.wrap (b.h - A)=b.h - A:=Ac;have w2:AZ.wrap (b.d+A)=b.d+A:=Ac;generalize xr:Ra f b p=D at hD d1 d2 ⊢;have S:=EI (2*D) f.params.TD;have rE:=EI f.params.RY p;have k2:=DM (p:=p) f.params.RY (by omega) (by omega);obtain⟨S1,cO⟩:=AI (AU (2*D) f.params.TD);obtain⟨Q,YX⟩:=AI (AU f.params.RY p);rw[cO]at S ⊢;rw[YX]at rE k2 ⊢;have w3:AZ.wrap (2*D)=2*D:=Ac;have w4:AZ.wrap (2*D - Q)=2*D - Q:=Ac;have A0:(if S1<2*D - Q then 2*D - Q else S1)=mx S1 (2*D - Q):=F;by_cases z:536870912<D;rw[if_pos z];refine en AFG AGC ?_;refine Ah ?_;refine BZ (H) DC ?_;refine gc (cj @R<|@q) (B) H9 ?_;refine Ah ?_;refine BZ (o) ID ?_;refine go (cj4 @w1 @w2 @hM @hD @z) ?_;exact At AGP;rw[if_neg z];refine en AFG AGC ?_;refine Ah ?_;refine BZ (H) DC ?_;refine gc (cj @R<|@q) (B) H9 ?_;refine Ah ?_;refine BZ (o) ID ?_;refine go (cj5 @w1 @w2 @hM @hD @z @w3) ?_;refine gc @w3 (S) ID ?_;refine gc (cj @w4<|@A0) (rE) ID ?_;refine Ah ?_;exact At AGP
theorem Am7 (f:AP)(b:AA)(p:Int)(hf:f.Fit)(ho:b.BX)(hc:b.cnt<=1000000):AC AF 211 [.agg f.vs,Ao b,.c (.int .i64 p)] (.c (.int .i64 (P9 f b p))):=by
 have H:=ba f hf;have B:=m7 b ho hc;rw[As]at B ⊢;cases hv:f.valid with
 | false=>have e:P9 f b p=0:=if_pos (.inl hv);rw[e];rw[hv]at H;refine en AFX AGF ?_;refine Ah ?_;refine BZ (H) IB ?_;refine Ah ?_;exact At AGT
 | true =>
   rw[hv]at H;cases K:b.Ad with
   | false=>have e:P9 f b p=0:=if_pos (.inr (.inl K));rw[e];rw[K]at B;refine en AFX AGF ?_;refine Ah ?_;refine BZ (H) IB ?_;refine BZ (B) nC ?_;refine Ah ?_;exact At AGT
   | true =>
     rw[K]at B;by_cases R:p<1;have e:P9 f b p=0:=if_pos (.inr (.inr (.inl R)));rw[e];refine en AFX AGF ?_;refine Ah ?_;refine BZ (H) IB ?_;refine gc @R (B) nC ?_;refine Ah ?_;exact At AGT;by_cases q:100<p;have e:P9 f b p=0:=if_pos (.inr (.inr (.inr q)));rw[e];refine en AFX AGF ?_;refine Ah ?_;refine BZ (H) IB ?_;refine gc (cj @R<|@q) (B) nC ?_;refine Ah ?_;exact At AGT;have e:P9 f b p=if 536870912<Ra f b p then 0 else mx (AU (2*Ra f b p) f.params.TD) (2*Ra f b p - AU f.params.RY p):=by unfold P9;rw[if_neg];rintro (h|h|h|h)<;>first|omega|(rw[hv]at h;cases h)|(rw[K]at h;cases h)
     rw[e];obtain⟨bw,bh,bd,bc⟩:=D3 K;have o:=AnN f b p K (by omega) (by omega);rw[As]at o;obtain⟨ha,M,hM,m1,m2,hD,d1,d2⟩:=AXg f b p K (by omega) (by omega);generalize xr:Ra f b p=D at hD d1 d2 o ⊢;have S:=AYA (2*D) f.params.TD;have rE:=AYA f.params.RY p;have k2:=DM (p:=p) f.params.RY (by omega) (by omega);obtain⟨S1,cO⟩:=AI (AU (2*D) f.params.TD);obtain⟨Q,YX⟩:=AI (AU f.params.RY p);rw[cO]at S ⊢;rw[YX]at rE k2 ⊢;have w3:AZ.wrap (2*D)=2*D:=Ac;have w4:AZ.wrap (2*D - Q)=2*D - Q:=Ac;have A0:(if S1<2*D - Q then 2*D - Q else S1)=mx S1 (2*D - Q):=F;by_cases z:536870912<D;rw[if_pos z];refine en AFX AGF ?_;refine Ah ?_;refine BZ (H) IB ?_;refine gc (cj @R<|@q) (B) nC ?_;refine Ah ?_;refine BZ (o) func264 ?_;refine go @z ?_;exact At AGT;rw[if_neg z];refine en AFX AGF ?_;refine Ah ?_;refine BZ (H) IB ?_;refine gc (cj @R<|@q) (B) nC ?_;refine Ah ?_;refine BZ (o) func264 ?_;refine go (cj @z<|@w3) ?_;refine gc @w3 (S) Su ?_;refine gc (cj @w4<|@A0) (rE) Su ?_;refine Ah ?_;exact At AGT
def bp:ByteArray:=⟨#[46]⟩
def MX (f:AP)(name:ByteArray)(AD p:Int):AA×Int:=
 if f.valid=U\/Ck name=U then(AA.zero,1)
 else if p<1\/100<p then(AA.zero,2)
 else if name=bp then(Bf 0 0 0 [],0)
 else KS (Hv f name AD p).1 (Hu f p)
theorem kc {s:ByteArray}(h:Ck s=I):s.size<=16:=by simp[Ck]at h;omega
theorem AWl (f:AP)(name:ByteArray)(B p:Int)(hf:f.Fit)(hn:name.size<=maxLen)(hz : ∀s∈f.C5,G s.sizes<=1000):AC AF 164 [.agg f.vs,.c (.str name),.c (.int .i64 B),.c (.int .i64 p)] (Ba (MX f name B p)):=by
 have K:=Ma f;have M:=AO6 name;cases o:f.valid with
 | false=>have e:MX f name B p=(AA.zero,1):=if_pos (.inl o);rw[e];rw[o]at K;simp only[Ba,As,AR];refine en AFH AGD ?_;refine Ah ?_;refine BZ (K) DC ?_;refine Ah ?_;exact At (cj AGQ<| @Fl)
 | true =>
   rw[o]at K;cases R:Ck name with
   | false=>have e:MX f name B p=(AA.zero,1):=if_pos (.inr R);rw[e];rw[R]at M;simp only[Ba,As,AR];refine en AFH AGD ?_;refine Ah ?_;refine BZ (K) DC ?_;refine BZ (M) AF2 ?_;refine Ah ?_;exact At (cj AGQ<| @Fl)
   | true =>
     rw[R]at M;have e1:MX f name B p=if p<1\/100<p then(AA.zero,2)else if name=bp then(Bf 0 0 0 [],0)else KS (Hv f name B p).1 (Hu f p):=if_neg (by simp[o,R])
     rw[e1];by_cases Q:p<1;rw[if_pos (.inl Q)];simp only[Ba,As,AR];refine en AFH AGD ?_;refine Ah ?_;refine BZ (K) DC ?_;refine BZ (M) AF2 ?_;refine go @Q ?_;exact At (cj AGQ<| @Fl);by_cases z:100<p;rw[if_pos (.inr z)];simp only[Ba,As,AR];refine en AFH AGD ?_;refine Ah ?_;refine BZ (K) DC ?_;refine BZ (M) AF2 ?_;refine go (cj @Q<|@z) ?_;exact At (cj AGQ<| @Fl);rw[if_neg (by omega)];by_cases h3:name=bp;rw[if_pos h3];have Jd:name=⟨#[46]⟩↔True:=iff_true_intro h3;have hl:=My 0 0 0 [] trivial (by simp[AA.Az]);simp only[Ba,As,AR,AA.AG]at hl ⊢;refine en AFH AGD ?_;refine Ah ?_;refine BZ (K) DC ?_;refine BZ (M) AF2 ?_;refine go (cj2 @Q @z @Jd) ?_;refine BZ (hl) func55 ?_;refine Ah ?_;exact At AGQ;rw[if_neg h3];have Jd : ¬name=⟨#[46]⟩:=h3;have q:=ACC tU f name B p hf;obtain⟨q1,q2⟩:=find_ok o (by omega) (by omega) (kc R) B (p:=p);have FG:Hv f name B p=((Hv f name B p).1,0):=Prod.ext rfl q1;rw[FG]at q;generalize hS:(Hv f name B p).1=S at q q2 ⊢;have K9:=EI f.params.FD p;have eA:AU f.params.FD p=Hu f p:=F;rw[eA]at K9;have H:=AJT S (Hu f p) q2.BX (by have:=q2.cnt;omega);generalize hA:Hu f p=A at K9 H ⊢;generalize hY:KS S A=Y at H ⊢;simp only[Ba,As,AR]at q H ⊢;refine en AFH AGD ?_;refine Ah ?_;refine BZ (K) DC ?_;refine BZ (M) AF2 ?_;refine go (cj2 @Q @z @Jd) ?_;refine BZ (q) func152 ?_;refine Ah ?_;refine BZ (K9) ID ?_;refine BZ (H) func142 ?_;refine Ah ?_;exact At AGQ
theorem Ajh (f:AP)(name:ByteArray)(B p:Int)(hf:f.Fit)(hn:name.size<=maxLen)(hz : ∀s∈f.C5,G s.sizes<=1000):AC AF 212 [.agg f.vs,.c (.str name),.c (.int .i64 B),.c (.int .i64 p)] (Ba (MX f name B p)):=by
 have K:=ba f hf;have M:=XN name hn;cases o:f.valid with
 | false=>have e:MX f name B p=(AA.zero,1):=if_pos (.inl o);rw[e];rw[o]at K;simp only[Ba,As,AR];refine en AFq AGG ?_;refine Ah ?_;refine BZ (K) IB ?_;refine Ah ?_;exact At (cj AGU<| @Fl)
 | true =>
   rw[o]at K;cases R:Ck name with
   | false=>have e:MX f name B p=(AA.zero,1):=if_pos (.inr R);rw[e];rw[R]at M;simp only[Ba,As,AR];refine en AFq AGG ?_;refine Ah ?_;refine BZ (K) IB ?_;refine BZ (M) Jy ?_;refine Ah ?_;exact At (cj AGU<| @Fl)
   | true =>
     rw[R]at M;have e1:MX f name B p=if p<1\/100<p then(AA.zero,2)else if name=bp then(Bf 0 0 0 [],0)else KS (Hv f name B p).1 (Hu f p):=if_neg (by simp[o,R])
     rw[e1];by_cases Q:p<1;rw[if_pos (.inl Q)];simp only[Ba,As,AR];refine en AFq AGG ?_;refine Ah ?_;refine BZ (K) IB ?_;refine BZ (M) Jy ?_;refine go @Q ?_;exact At (cj AGU<| @Fl);by_cases z:100<p;rw[if_pos (.inr z)];simp only[Ba,As,AR];refine en AFq AGG ?_;refine Ah ?_;refine BZ (K) IB ?_;refine BZ (M) Jy ?_;refine go (cj @Q<|@z) ?_;exact At (cj AGU<| @Fl);rw[if_neg (by omega)];by_cases h3:name=bp;rw[if_pos h3];have Jd:name=⟨#[46]⟩↔True:=iff_true_intro h3;have hl:(Bf 0 0 0 []).vs=[.c (.int .i64 3),.c (.str ⟨#[]⟩),.c (.int .i64 0),.c (.int .i64 0),.c (.int .i64 0),.c (.int .i64 0),.c (.int .i64 0),.c (.int .i64 0),.c (.sl []),.c (.int .i64 0),.c (.sl [])]:=F;simp only[Ba,As,AR,hl];refine en AFq AGG ?_;refine Ah ?_;refine BZ (K) IB ?_;refine BZ (M) Jy ?_;refine go (cj2 @Q @z @Jd) ?_;exact At AGU;rw[if_neg h3];have Jd : ¬name=⟨#[46]⟩:=h3;have q:=Ajd f name B p hf hz;obtain⟨q1,q2⟩:=find_ok o (by omega) (by omega) (kc R) B (p:=p);have FG:Hv f name B p=((Hv f name B p).1,0):=Prod.ext rfl q1;rw[FG]at q;generalize hS:(Hv f name B p).1=S at q q2 ⊢;have K9:=AXd f p;have H:=Aja S (Hu f p) q2.BX (by have:=q2.cnt;omega);generalize hA:Hu f p=A at K9 H ⊢;generalize hY:KS S A=Y at H ⊢;simp only[Ba,As,AR]at q H ⊢;refine en AFq AGG ?_;refine Ah ?_;refine BZ (K) IB ?_;refine BZ (M) Jy ?_;refine go (cj2 @Q @z @Jd) ?_;refine BZ (q) func261 ?_;refine Ah ?_;refine BZ (K9) gH ?_;refine BZ (H) uk ?_;refine Ah ?_;exact At AGU
theorem Mp {n:Int}(B : -1073741824<=n)(H:n<=1073741824):An n=true:=by simp[An,B,H]
theorem AWC {f:AP}(M:f.valid=I)(name:ByteArray)(K:Ck name=I):Ck (f.pick name).name=true:=by
 have H : ∀g∈f.DR,Ck g.name=true:=by
  intro g B;have:=Z8 M g B;simp only[Lo,Ak]at this;exact this.1
 unfold AP.pick;split;rename_i g B;exact H g (YJ B).1;split;rename_i g B;exact H g (YJ B).1;exact K
theorem AHY {f:AP}(H:f.valid=I){h:Int}(e:f.ht name=J h):Ck name=true:=by
 simp only[AP.ht,Option.map_eq_some_iff]at e;obtain⟨g,B,_⟩:=e;obtain⟨m,rfl⟩:=YJ B;have:=Z8 H g m;simp only[Lo,Ak]at this;exact this.1
theorem ABp {f:AP}(H:f.valid=I){p:Int}(B:1<=p)(M:p<=100)(S:Ck name=I){y:Int}(o:An y=I):({ (DB f name p).1 with y:=y }:AA).D8=I/\({ (DB f name p).1 with y:=y }:AA).nest=1:=by
 obtain⟨e,_⟩:=Pk H B M name;have Q:=Zv H B M name;have R:=AWC H name S;rw[e];have K:Ck ((f.pick name).scaled p).name=true:=R;generalize hG:(f.pick name).scaled p=G at Q K ⊢;have hm:0<=mx 0 G.Ey/\mx 0 G.Ey<=200000:=by rw[DU];omega
 refine⟨?_,F⟩;have q:An (G.w+mx 0 G.Ey)=true:=Mp (by omega) (by omega);have z:An G.h=true:=Mp (by omega) (by omega);have k3:An G.d=true:=Mp (by omega) (by omega);have k4:An 0=true:=Mp (by omega) (by omega);simp[N7,AA.D8,AA.FU,AA.Cl,AA.lens,AA.Fi,AA.Js,q,z,k3,k4,o,K,B,show p<=1000 by omega,HT,I7]
theorem AKv {f:AP}(K:f.valid=I){p:Int}(B:1<=p)(H:p<=100)(name:ByteArray):({ (DB f name p).1 with y:=0 }:AA)=(DB f name p).1:=by
 obtain⟨e,_⟩:=Pk K B H name;rw[e];rfl
theorem AEC {f:AP}(H:f.valid=I){p:Int}(K:1<=p)(M:p<=100)(B:Int)(z:0<=B):∀(l:List CR) (b:Int),0<=b->b+40000*(G l:Int)<=400000000->(∀q∈l,Ck q.name=I/\B<(f.pick q.name).Dy)->AA.FU (Gp f B p b l)=I/\AA.Hk (Gp f B p b l)<=1
 | [],b,_,_,_=>⟨rfl,CI _⟩
 | q::l,b,hb,o,Q=>by
   obtain⟨R,A0⟩:=Q q GH;have hs:=Ql H q.name;unfold BG.Small at hs;have S:(f.pick q.name).Dy=(f.pick q.name).h+(f.pick q.name).d:=F;simp only[BA]at o;obtain⟨i1,i2⟩:=AEC H K M B z l (b+((f.pick q.name).Dy - B)) (by omega) (by omega) λx hx=>Q x (Gk _ hx)
   have Y2:=AKe (n:=b) (p:=p) (by omega) (by omega) (by omega) (by omega);have kF : -200000<=(DB f q.name p).1.d/\(DB f q.name p).1.d<=200000:=by
    rw[(Pk H K M q.name).1];have:=Zv H K M q.name;simp only[N7];omega
   obtain⟨j1,j2⟩:=ABp H K M R (y:=AU b p+(DB f q.name p).1.d) (Mp (by omega) (by omega));simp only[Gp,kt,AA.FU,AA.Hk];rw[j1,i1,j2];exact⟨F,Nat.max_le.2 ⟨Nat.le_refl _,i2⟩⟩
theorem ABq {f:AP}(K:f.valid=I):∀(l:List ByteArray) (a:Int),Sc f.ht a l=I->∀n∈l,Ck n=I
 | [],a,_,n,B=>by cases B
 | x::l,a,h,n,B=>by
   simp only[Sc]at h;cases H:f.ht x with
   | none=>rw[H]at h;cases h
   | some y =>
     rw[H]at h;simp only[Ak]at h;rcases List.mem_cons.1 B with rfl|B
     exact AHY K H;exact ABq K l _ h.2 n B
theorem AV0 {f:AP}(M:f.valid=I){s:Bc}(Q:s∈f.C5):∀q∈s.parts,Ck q.name=true:=by
 intro q H;have h:=Z9 M s Q;simp only[Oh,Ak]at h;obtain⟨_,_,B⟩:=h;rw[if_neg (by intro e;rw[e]at H;cases H)]at B;unfold du at B;cases K:OW f.ht 60000 U s.parts with
 | none=>rw[K]at B;cases B
 | some x=>obtain⟨y,R⟩:=AA0 _ _ _ _ _ K q H;exact AHY M R
theorem ic {b:AA}(B:b.D8=I)(H:b.cnt<=20000)(K:b.nest<=100):b.Ad=true:=by
 unfold AA.Ad;rw[B,decide_eq_true H,decide_eq_true K];rfl
theorem AFc {f:AP}(B:f.valid=I){p:Int}(R:1<=p)(M:p<=100)(z:Ck name=I)(Q:Int):(Hv f name Q p).1.Ad=I/\ -1000400000<=(Hv f name Q p).1.h - (Hv f name Q p).1.d/\(Hv f name Q p).1.h - (Hv f name Q p).1.d<=1000400000:=by
 have hk:JF f p=0:=by unfold JF;rw[if_neg (by simp[B]),if_neg (by omega)]
 have K:=AEm B name Q p;obtain⟨c,hc⟩:=AI (J2 f name Q p);unfold Hv;rw[if_neg (by simp[hk]),hc];rw[hc]at K;unfold K5;rw[if_neg (by simp[hk]),if_neg (by simp[K])];have sv : ∀n,Ck n=I->(DB f n p).1.Ad=I/\ -1000400000<=(DB f n p).1.h - (DB f n p).1.d/\(DB f n p).1.h - (DB f n p).1.d<=1000400000:=λn z=>by
  have hb:=Zv B R M n;have hE : -1000400000<=(DB f n p).1.h - (DB f n p).1.d/\(DB f n p).1.h - (DB f n p).1.d<=1000400000:=by rw[(Pk B R M n).1];simp only[N7];omega
  refine⟨?_,hE⟩;obtain⟨j1,j2⟩:=ABp B R M z (y:=0) (Mp (by omega) (by omega));rw[AKv B R M]at j1 j2;have:=(lQ B R M (kc z)).2.2;exact ic j1 (by omega) (by omega)
 by_cases S:c.Jo=0;rw[if_pos S];refine sv _ ?_;unfold KH at K;cases H:f.I8 name with
 | none=>rw[H]at K;simp[S]at K;rw[K];exact z
 | some s=>rw[H]at K;simp[S]at K;have o:=(Se H).1;have h:=Z9 B s o;simp only[Oh,Ak]at h;exact ABq B _ _ h.2.1 _ (yj K)
 rw[if_neg S];obtain⟨s,H,HO,r1,r2,_⟩:=AAI (cg:=c.Ln) (cr:=c.Jo) S K;have o:=(Se H).1;obtain⟨_,_,g3,g4,g5,g6⟩:=QG B o;have hl:=sH r1 r2 s.parts;have Hy : ∀q∈JR c.Jo s.parts,Ck q.name=I/\s.Dc<(f.pick q.name).Dy:=λq hq=>⟨AV0 B o q (sG hq),g6 q (sG hq)⟩
 obtain⟨i1,i2⟩:=AEC B R M s.Dc g4 (JR c.Jo s.parts) 0 (by omega) (by omega) Hy;obtain⟨k1,k2,k3,k4,k5⟩:=AA9 B R M s.Dc (JR c.Jo s.parts) 0 λq hq=>kc (Hy q hq).1
 have hw:=k5 0 (by omega) (by omega);obtain⟨t1,t2⟩:=AB3 B o r1 r2;have hh:=AKd (n:=LO f s c.Jo) (p:=p) t1 t2 (by omega) M;rw[H];simp only[Option.getD_some,V4];refine⟨ic ?_ ?_ ?_,by omega,by omega⟩;have q1:An (IS 0 (Gp f s.Dc p 0 (JR c.Jo s.parts)))=true:=Mp (by omega) (by omega);have q2:An (AU (LO f s c.Jo) p)=true:=Mp (by omega) (by omega);have q3:An 0=true:=Mp (by omega) (by omega);simp[AA.D8,AA.Cl,AA.lens,AA.Fi,AA.Js,q1,q2,q3,i1,HT,I7];simp only[AA.cnt];omega;simp only[AA.nest];omega
theorem AQq {n:Int}(B : -1000400000<=n)(H:n<=1000400000): -500200001<=Bm n/\Bm n<=500200001/\ -1<=n - 2*Bm n/\n - 2*Bm n<=1:=by
 unfold Bm;rw[if_pos (Mp (by omega) (by omega))];unfold Ea;split<;>omega
theorem AEI {f:AP}(B:f.valid=I){p:Int}(Q:1<=p)(H:p<=100):0<=Hu f p/\Hu f p<=20001:=by
 have K:Qk f.params=true:=by simp only[AP.valid,Ak]at B;exact B.1.2.2
 simp[Qk,DX,Params.lens]at K;unfold Hu;have M:0<=f.params.FD*p:=Int.mul_nonneg (by omega) (by omega);have R:=Int.mul_le_mul_of_nonneg_left H (show 0<=f.params.FD by omega);rw[<-ABa (by omega) (by omega) (by omega) (by omega)];unfold Ea;rw[if_pos M];omega
theorem xJ {f:AP}(H:f.valid=I){p:Int}(K:1<=p)(M:p<=100)(Q:Ck name=I)(B:Int):(name=bp/\MX f name B p=(Bf 0 0 0 [],0))\/(name≠bp/\∃S,oH S/\S.Ad=I/\(Hv f name B p).1=S/\An (Hu f p - Bm (S.h - S.d))=I/\An (S.h - S.d)=I/\MX f name B p=(S.AS S.x (Hu f p - Bm (S.h - S.d)),0)):=by
 unfold MX;rw[if_neg (by simp[H,Q]),if_neg (by omega)];by_cases R:name=bp;rw[if_pos R];exact .inl ⟨R,rfl⟩;rw[if_neg R];refine .inr ⟨R,_,(find_ok H K M (kc Q) B).2,(AFc H K M Q B).1,rfl,?_⟩;have hs:=(find_ok H K M (kc Q) B).2;obtain⟨z,o,q⟩:=AFc H K M Q B;generalize hS:(Hv f name B p).1=S at hs z o q ⊢;obtain⟨a1,a2⟩:=AEI H K M;obtain⟨c1,c2,_⟩:=AQq o q;have q1:An (Hu f p)=true:=Mp (by omega) (by omega);have q2:An (S.h - S.d)=true:=Mp (by omega) (by omega);have q3:An (Hu f p - Bm (S.h - S.d))=true:=Mp (by omega) (by omega);refine⟨q3,q2,?_⟩;unfold KS;rw[if_neg (by simp[z]),if_neg (by simp[q1,q2]),if_neg (by simp[q3])]
def Kg (s:ByteArray)(i:Nat):ByteArray:=s.extract i (i+1)
def O5 (f:AP)(names:ByteArray)(b:AA)(p:Int):AA×Int:=
 if f.valid=U\/b.Ad=U\/Nh names=U then(AA.zero,1)
 else if p<1\/100<p then(AA.zero,2)
 else F9 [(MX f (Kg names 0) (P9 f b p) p).1,b.AS 0 0,(MX f (Kg names 1) (P9 f b p) p).1] [0,0,0]
theorem sC {s:ByteArray}(h:Nh s=I):s.size=2:=by
 unfold Nh at h;simp only[Ak,decide_eq_true_eq]at h;exact h.2
theorem sB {s:ByteArray}(h:Nh s=I)(i:Nat)(S:i<2):Ck (Kg s i)=true:=by
 have o:=sC h;unfold Nh at h;simp only[Ak,decide_eq_true_eq]at h;have Q : ∀b∈(Kg s i).data.toList,b∈s.data.toList:=λb H=>mem_extract H
 have K:(Kg s i).size=1:=by unfold Kg;rw[fg];omega
 have B:(Kg s i).data.toList.all Dx=true:=by
  rw[ES];intro b H;have:=ES.1 h.1 b (Q b H);have R : ∀b:UInt8,Qj b=I->Dx b=true:=by
   intro b H;have M:b∈Gf.data.toList:=by simpa [Qj]using H
   have : ∀c∈Gf.data.toList,Dx c=true:=by decide
   exact this b M
  exact R b this
 unfold Ck;rw[B,K];rfl
theorem AKs (f:AP)(B:ByteArray)(H p:Int)(i:Nat)(hi:i<2)(Q:B.size=2)(o:f.Fit)(z : ∀s∈f.C5,G s.sizes<=1000):AC AF 163 [.c (.int .i64 i),.cp f.row 0,.cp [.str B] 0,.cp [.int .i64 H] 0,.cp [.int .i64 p] 0] (Ba (MX f (Kg B i) H p)):=by
 have M:(Kg B i).size<=maxLen:=by unfold Kg;rw[fg,Q];unfold maxLen;omega
 have K:=AWl f (Kg B i) H p o M z;have q:G f.row=22:=by simp[AP.row,Params.list]
 have R:f.row.map V.c=f.vs:=F;generalize hY:MX f (Kg B i) H p=Y at K ⊢;unfold Kg at K;have S:i<=1:=by omega
 simp only[Ba,As,AR]at K ⊢;refine en func163 ntmps163 ?_;exact wz (cj3 @Q @R @S results163) (cj K<|trivial)
theorem AE7 {f:AP}(R:f.valid=I){p:Int}(K:1<=p)(M:p<=100)(Q:Ck name=I)(B:Int):∃L,MX f name B p=(L,0)/\L.BX/\L.cnt<=8001:=by
 rcases xJ R K M Q B with ⟨_,e⟩|⟨_,S,H,_,_,_,_,e⟩
 exact⟨_,e,⟨(CI _:0<=maxLen),(CI _:0<=maxLen),W⟩,by simp[Bf,AA.cnt,AA.Az]⟩;exact⟨_,e,F4 _ _ H.BX,by rw[Hb];exact H.cnt⟩
theorem AV9 (f:AP)(B:ByteArray)(b:AA)(p:Int)(hf:f.Fit)(z : ∀s∈f.C5,G s.sizes<=1000)(ho:b.BX)(hc:b.cnt<=800000)(hn:B.size<=maxLen):AC AF 98 [.agg f.vs,.c (.str B),Ao b,.c (.int .i64 p)] (Ba (O5 f B b p)):=by
 have EW:=Ma f;have CA:=EL b ho (by omega);have Wm:=AVt B;have Q:=AWp f b p hf ho (by omega);obtain⟨N,hN⟩:=AI (P9 f b p);unfold O5;rw[hN]at Q ⊢;simp only[Ba,As,AR]at CA Q ⊢;refine en func98 ntmps98 ?_;have K:=(cj4 @Ba.eq_1 @As @AR.eq_1 @Fl Ot)
 repeat any_goals (first|refine Qu (.mk 6) ?_|exact Bt K|refine De K ?_|refine BV K (EW) ?_|refine BV K (CA) ?_|refine BV K (Wm) ?_|refine BV K (Q) ?_|refine DI K ?_|((first|refine JC K ?_ ?_|refine JE K ?_ ?_|refine JD K ?_ ?_|refine JY K ?_ ?_)<;>intro h<;>try (exfalso;first|omega|contradiction)))
 have hv:f.valid=true:=‹_›;have D7:b.Ad=true:=‹_›;have o:Nh B=true:=‹_›;have p1:1<=p:=by omega
 have p2:p<=100:=by omega
 rw[if_neg (by simp[hv,D7,o]),if_neg (by omega)];obtain⟨L,hL,l1,l2⟩:=AE7 hv p1 p2 (sB o 0 (by omega)) N;obtain⟨R,hR,r1,r2⟩:=AE7 hv p1 p2 (sB o 1 (by omega)) N;have KF:=AKs f B N p 0 (by omega) (sC o) hf z;have S:=AKs f B N p 1 (by omega) (sC o) hf z;have q:=kx [L,b.AS 0 0,R] [0,0,0] ⟨l1,F4 _ _ ho,r1,trivial⟩ (by simp only[AA.Az,Hb];omega) (by simp) (by simp);have M:=Gu b 0 0 (by have:=GD D7;cases b;simp only[AA.Fq]at this;exact this.1);rw[hL]at KF ⊢;rw[hR]at S ⊢;obtain⟨Y,hY⟩:=AI (F9 [L,b.AS 0 0,R] [0,0,0]);simp only[hY]at q ⊢;generalize hA:b.AS 0 0=A at q M;simp only[Ba,As,AR,AA.AG,AV,Ap,BB]at KF S q M ⊢;refine Cn 0 ?_;refine Cn 1 ?_;refine Cn 3 ?_;refine Cn 5 ?_;refine wu (.mk 13) Ot (cj2 KF S W) ⟨?_⟩;refine AW.Lm Fz (.inl F) ?_;refine TW.take 5 (Es (by simp;first|exact rfl|exact⟨F,F⟩|exact⟨F,F,F⟩) ?_);refine BZ (M) func148 ?_;refine HI ?_;simp only[CU,B9];refine TW.ub ⟨.Bg [[.int .i64 0],[.int .i64 0],[.int .i64 0]],E,E⟩ rfl (λ_ _ h=>by cases h) ?_ ?_;intro S0 w0 x a w H g A0 _;have h3:CV x w (.c (.int .i64 3)) (a.eval (.const (.int .i64 3))):=by
  have:=A0 (.const (.int .i64 3)) (by simp[Op.operands]);simpa [ev]using this
 have ht:Dk AF 39=J (3,1,8):=by simp
 have z:C2 AF 3=J [.c (.int .i64 0)]:=by simp
 exact AIy g rfl ht h3 h3 z rfl (by omega) (by omega) (by omega);simp only[St.step,St.put,Bk,Ai,Ag];refine TW.take 6 ?_;simp only[DP,List.take_nil,List.take_zero];refine BZ (q) func59 ?_;refine HI (TW.nil ⟨by kernel_rfl,?_⟩);exact wz (cj @Ba.eq_1<|Ot) W
def T1 (q v:Int):Int->List Int->List Int
 | _,[]=>[]
 | p,c::l=>Qt q p.toNat c.toNat v::T1 q v c l
def CC (q v:Int):List Int->List Int
 | []=>[]
 | c::l=>0::T1 q v c l
def K6 (AL:Nat):Nat->Int->List AA->Int
 | _,w,[]=>w
 | i,w,b::l=>K6 AL (i+1) (if i % AL=0 then mx w b.w else w) l
def Lh (AL:Nat)(cells:List AA)(c:Nat):Int:=K6 AL 0 0 (cells.drop c)
def MW (q:Int)(row:List AA):Int:=row.foldl (λh b=>mx h b.h) (AU q 70)
def N1 (q:Int)(row:List AA):Int:=row.foldl (λh b=>mx h b.d) (AU q 30)
def Ha (AL:Nat)(cells:List AA)(r:Nat):List AA:=(cells.drop (r*AL)).take AL
def Ig (q:Int)(AL:Nat)(cells:List AA):Nat->Int
 | 0=>0
 | c+1=>Ig q AL cells c+Lh AL cells c+q
def oh (q:Int)(AL:Nat)(cells:List AA)(r:Nat):Int:=MW q (Ha AL cells r)+N1 q (Ha AL cells r)
def NI (q:Int)(AL:Nat)(cells:List AA):Nat->Int
 | 0=>0
 | r+1=>NI q AL cells r+oh q AL cells r
def N3 (q:Int)(AL:Nat)(cells:List AA)(r:Nat):Int:=NI q AL cells r+(r:Int)*AU q 20
def Oy (q:Int)(AL:Nat)(cells:List AA)(AG:Nat):Int:=((AG:Int) - 1)*AU q 20+NI q AL cells AG
def wN (q:Int)(AL:Nat)(cells:List AA)(top:Int)(i:Nat)(b:AA):AA:=
 b.AS (Ig q AL cells (i % AL)+Bm (Lh AL cells (i % AL) - b.w)) (top - N3 q AL cells (i / AL) - MW q (Ha AL cells (i / AL)))
def Ox (q:Int)(AL:Nat)(cells:List AA)(top:Int):Nat->List AA->List AA
 | _,[]=>[]
 | i,b::l=>wN q AL cells top i b::Ox q AL cells top (i+1) l
def oe (q ax:Int)(AL:Nat)(cells:List AA):AA:=
 Bf (Ig q AL cells (AL - 1)+Lh AL cells (AL - 1)) (ax+Bm (Oy q AL cells (G cells / AL))) (Oy q AL cells (G cells / AL) - (ax+Bm (Oy q AL cells (G cells / AL))))
  (Ox q AL cells (ax+Bm (Oy q AL cells (G cells / AL))) 0 cells)
def N2 (f:AP)(s:Aa)(AL:Nat)(cells:List AA):AA×Int:=
 if An (Oy (AU f.params.Al (BS f.params s)) AL cells (G cells / AL))=U then(AA.zero,6)
 else C8 (oe (AU f.params.Al (BS f.params s)) (AU f.params.FD (BS f.params s)) AL cells)
structure Af where
 f:AP
 d:List En
def Bj (r:AA×Int):Option AA:=if r.2=0 then J r.1 else E
def Af.sz (x:Af)(s:Aa):Int:=BS x.f.params s
def Af.Al (x:Af)(s:Aa):Int:=AU x.f.params.Al (x.sz s)
def Af.gl (x:Af)(s:Aa)(name:ByteArray):AA:=(DB x.f name (x.sz s)).1
def Af.RW (x:Af)(s:Aa)(c:UInt8):AA:=if c=32 then Bf (AU (x.Al s) 25) 0 0 []else x.gl s ⟨#[c]⟩
def Af.Uc (x:Af)(s:Aa)(t:ByteArray):List AA:=t.data.toList.map (x.RW s)
def Af.Po (x:Af)(s:Aa)(t:ByteArray):Option AA:=Bj (F9 (x.Uc s t) (Aq t.size 0))
def Af.Mw (x:Af)(s:Aa)(t:ByteArray):Choice:=
 match x.f.I8 t with
 | none=>⟨t,0⟩
 | some st=>⟨st.sizes.getD (if s.By=0/\2<=G st.sizes then 1 else 0) ⟨#[]⟩,0⟩
def Af.VI (x:Af)(s:Aa)(t:ByteArray):Option AA:=
 match Bj (KS (x.gl s (x.Mw s t).Ln) (AU x.f.params.FD (x.sz s)))with
 | none=>E
 | some b=>Bj (F9 [b] [0])
def Af.sym (x:Af)(s:Aa)(t:ByteArray):Option AA:=
 if (He x.d t).cls=1/\(He x.d t).str=I then x.VI s t
 else if t.size=1\/(x.f.find t).isSome=I then J (x.gl s t)
 else x.Po s t
def PZ (x:Af)(s:Aa)(base:Nd):Bool:=
 match base.AE with
 | [i]=>decide (s.By=0) && (decide (i.kind=2) && (He x.d i.text).dW)
 | _=>U
def AA.cB (b:AA):AA:={ b with w:=0,h:=0,d:=0 }
def Ue (AE:List Nd)(b:AA):AA:=if (AE.getD 0 ⟨0,⟨#[]⟩,0,[]⟩).AE=[]then b.cB else b
def Xb (k:Int)(l:List AA):List AA:=if k=8 then []else [l.getD 1 AA.zero]
def Xc (k:Int)(l:List AA):List AA:=if k=7 then []else [l.getD (G l - 1) AA.zero]
def Ji (x:Af)(s:Aa)(k:Int)(t:ByteArray)(c:Int)(AE:List Nd)(l:List AA):Option AA:=
 if k=2 then x.sym s t
 else if k=3\/k=4 then x.Po s t
 else if k=5 then Bj (C8 (WO x.f s (l.getD 0 AA.zero) (l.getD 1 AA.zero)))
 else if k=6 then Bj (C8 (Qp x.f s (l.getD 1 AA.zero) [Ue AE (l.getD 0 AA.zero)]))
 else if k=10 then Bj (C8 (al x.f s t (l.getD 0 AA.zero) (x.gl s t)))
 else if k=11 then Bj (O5 x.f t (l.getD 0 AA.zero) (x.sz s))
 else if k=12 then Bj (N2 x.f s c.toNat l)
 else if PZ x s (AE.getD 0 ⟨0,⟨#[]⟩,0,[]⟩)=I then Bj (C8 (OP x.f s (l.getD 0 AA.zero) (Xb k l) (Xc k l)))
 else Bj (C8 (Oc x.f s (l.getD 0 AA.zero) (Xb k l) (Xc k l)))
def Af.CC (x:Af)(s:Aa)(AE:List Nd):List Int:=Go.Proofs.YtglaipbdiofkfaaGreat.CC (x.Al s) s.By (I6 (JP x.d AE))
def Af.empty (x:Af)(s:Aa)(src:List Int):AA:=(Bf (if src=[]then 0 else AU (x.Al s) 50) (AU x.f.params.Gj (x.sz s)) 0 []).mark 1 src
mutual
def GU (x:Af)(s:Aa)(src:List Int):Nd->Option AA
 | ⟨_,_,_,AE⟩ =>
   if AE=[]then J (x.empty s src)
   else match Kb x s src 0 AE with
    | none=>E
    | some l=>match Bj (F9 l (x.CC s AE))with
      | none=>E
      | some b=>J (b.mark 1 src)
def Kb (x:Af)(s:Aa)(src:List Int)(i:Nat):List Nd->Option (List AA)
 | []=>J []
 | n::l=>match Fw x s (src++[(i:Int)]) n with
   | none=>E
   | some b=>match Kb x s src (i+1) l with
     | none=>E
     | some r=>J (b::r)
def Fw (x:Af)(s:Aa)(src:List Int):Nd->Option AA
 | ⟨k,t,c,AE⟩=>match Kh x s src k 0 AE with
   | none=>E
   | some l=>match Ji x s k t c AE l with
     | none=>E
     | some b=>J (b.mark 2 src)
def Kh (x:Af)(s:Aa)(src:List Int)(k:Int)(i:Nat):List Nd->Option (List AA)
 | []=>J []
 | n::l=>match GU x (GB k i s) (src++[(i:Int)]) n with
   | none=>E
   | some b=>match Kh x s src k (i+1) l with
     | none=>E
     | some r=>J (b::r)
end
end Go.Proofs.YtglaipbdiofkfaaGreat
