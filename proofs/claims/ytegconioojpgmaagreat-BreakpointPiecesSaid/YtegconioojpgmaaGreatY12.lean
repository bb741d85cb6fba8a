/- Part of the proof of breakpointPieces.proved. Conditions: none. -/
import Derived.Test.YtegconioojpgmaaGreatY9
import Derived.Test.YtegconioojpgmaaGreatY10
import Derived.Test.YtegconioojpgmaaGreatY24
set_option linter.unusedVariables false
set_option linter.unusedSimpArgs false
set_option maxRecDepth 100000
set_option maxHeartbeats 16000000
open Int renaming mul_tdiv_add_tmod->mN,lt_or_le->fq,neg_tmod->mO,lt_tmod_of_pos->ft
open Go.Proofs.Tryz renaming prog->AF,func62->mY,ntmps62->uv,results62->c8,results64->vZ,results78->vf,results77->g8,results63->ki,results143->Abc,results145->Akq,func98->u4,results98->Ot,func275->AGi,ntmps275->ASX,func202->Xk,results275->AS1,func117->AQN,func248->APg,func79->ALN,func184->Vk,ntmps184->Vn,func30->IP,results184->Vo,func167->AFL,func33->nI,func243->fp,ntmps243->AGH,func36->Sr,results243->vM,func186->UH,ntmps186->UL,results186->UN,func220->AQX,func244->AGh,ntmps244->AGw,results244->vN,func102->my,func279->ns,results138->Akp,func134->Aal,ntmps134->AiT,results134->ADD,results129->ASz,results127->eV,results130->AG7,func126->UG,ntmps126->Xp,results126->Xq,func235->AcP,func228->vT,func280->vU,ntmps280->ACm,results280->ADK,func283->AQg,ntmps283->ARO,results283->ABj,results285->ASH,results115->NA
open Go.IntKind renaming i64->AZ
open List renaming length_nil->BO,replicate->Aq,set_append_right->Vg,flatten_append->Vd,flatten_nil->RC,map->Vf,eq_of_mem_replicate->UA,mem_flatten->gA,map_replicate->uR,getD->mS
open ByteArray renaming size_extract->fg
open Go.Op renaming operands->Bl
open Go.Region renaming wanted->FB
open Go.Oper renaming wp->Er
open Option renaming isSome_none->H8
open SizeOf renaming sizeOf->UF
open Option renaming some->J,none->E
open Bool renaming false->U,true->I
open List renaming length->G
namespace Go.Proofs.YtegconioojpgmaaGreat
open Go.RowKit Tryz
variable (AE:List AA)(a:Int)(l:List AA)(m:Nat)(b:AA)(k:Nat)(n:Nat)
theorem AXU :quot a 18=Ea a 18:=by
 unfold quot Ea;have Q:=mN a 18;rcases fq a 0 with h|h
 . have B:a.tmod 18<=0:=by have:=Sl (a:= -a) 18 Ux;rw[mO]at this;omega
   have M : -18<a.tmod 18:=by have:=ft a (b:=18) Ux;omega
   generalize a.tmod 18=r at *
   generalize a.tdiv 18=q at *
   repeat' split
   all_goals omega
 . have B:0<=a.tmod 18:=Sl 18 h;have M:a.tmod 18<18:=aG a Ux;generalize a.tmod 18=r at *
   generalize a.tdiv 18=q at *
   repeat' split
   all_goals omega
theorem AXW (ha : -9000000000000000000<=a)(A1:a<=9000000000000000000):AC AF 62 [a,(18:Int)] (quot a 18:Int):=by
 have h1:=mN a 18;have hr : -18<a.tmod 18/\a.tmod 18<18:=by
  rcases fq a 0 with h|h
  have h2:a.tmod 18<=0:=by have:=Sl (a:= -a) 18 Ux;rw[mO]at this;omega
  have h3 : -18<a.tmod 18:=by have:=ft a (b:=18) Ux;omega
  omega;have h2:0<=a.tmod 18:=Sl 18 h;have h3:a.tmod 18<18:=aG a Ux;omega
 have e:quot a 18=if 0<=a.tmod 18/\18 - a.tmod 18<=a.tmod 18 then a.tdiv 18+1 else if a.tmod 18<0/\18+a.tmod 18<= -a.tmod 18 then a.tdiv 18 - 1 else a.tdiv 18:=F
 rw[e];have Q:AZ.wrap (a.tdiv 18)=a.tdiv 18:=Ac;have B:AZ.wrap (a.tmod 18)=a.tmod 18:=Ac;obtain⟨R,z⟩:=AI (a.tmod 18);obtain⟨D,q⟩:=AI (a.tdiv 18);rw[z]at hr B h1 ⊢;rw[q]at Q h1 ⊢;have bD : -9000000000000000000<=D/\D<=9000000000000000000:=Ux;clear h1 e;by_cases M:0<=R;by_cases c2:18 - R<=R;rw[Awd ⟨M,c2⟩];have P6:=Awn M;have wX:=Awn c2;refine en mY uv ?_;exact wz (cj6 @z @q @Q @B @P6 @wX c8) W;rw[Awf (λh=>c2 h.2),Awf (λh=>by omega)];have P6:=Awn M;have c3 : ¬R<0:=Ux;refine en mY uv ?_;exact wz (cj7 @z @q @Q @B @P6 @c2 @c3 c8) W;have c3:R<0:=Ux;have S:=Awn c3;by_cases c4:18+R<= -R;rw[Awf (λh=>M h.1),Awd ⟨c3,c4⟩];have A0:=Awn c4;refine en mY uv ?_;exact wz (cj7 @z @q @Q @B @M @S @A0 c8) W;rw[Awf (λh=>M h.1),Awf (λh=>c4 h.2)];refine en mY uv ?_;exact wz (cj7 @z @q @Q @B @M @S @c4 c8) W
def ka (n a:Int):Int:=if An n=I then Ea (n*a) 18 else 0
theorem AUb {n a:Int}(M : -1073741824<=n/\n<=1073741824)(B:1<=a/\a<=10): -10737418240<=n*a/\n*a<=10737418240:=by
 have:=Qh n a 1073741824 10 Ux Ux Ux Ux;omega
theorem AJn (n a:Int)(ha:1<=a/\a<=10):AC AF 64 [n,a,(18:Int)] (ka n a:Int):=by
 have B:=Ng n;have R:=Ng a;have S:=Ng 18;rw[show An a=I by simp[An];omega]at R;rw[show An 18=I by decide +kernel]at S;unfold ka;cases Q:An n with
 | false=>rw[Q]at B;rw[Awf ZA];refine en func64 ntmps64 ?_;exact wz (cj @AR.eq_1<|vZ) (cj3 B R S W)
 | true=>rw[Q]at B;rw[Awd rfl];simp[An]at Q;have hb:=AUb Q ha;have q:=AXW (n*a) Ux Ux;rw[AXU]at q;have hw:AZ.wrap (n*a)=n*a:=Ac;obtain⟨M,z⟩:=AI (n*a);rw[z]at q hw ⊢;refine en func64 ntmps64 ?_;exact wz (cj3 @AR.eq_1 @z @hw vZ) (cj4 B R S q W)
theorem Am5 (n a:Int)(ha:1<=a/\a<=10):AC AF 78 [n,a,(18:Int)] (ka n a:Int):=by
 have B:=sb n;have R:=sb a;have S:=sb 18;rw[show An a=I by simp[An];omega]at R;rw[show An 18=I by decide +kernel]at S;unfold ka;cases Q:An n with
 | false=>rw[Q]at B;rw[Awf ZA];refine en func78 ntmps78 ?_;exact wz (cj @AR.eq_1<|vf) (cj3 B R S W)
 | true=>rw[Q]at B;rw[Awd rfl];simp[An]at Q;have hb:=AUb Q ha;have q:=AX8 (n*a) 18 Ux Ux (.inr (.inr F));have hw:AZ.wrap (n*a)=n*a:=Ac;obtain⟨M,z⟩:=AI (n*a);rw[z]at q hw ⊢;refine en func78 ntmps78 ?_;exact wz (cj3 @AR.eq_1 @z @hw vf) (cj4 B R S q W)
def fE:List (List Int):=[[0,1,-2,-3,0,0,0,-1],[1,1,0,-3,0,0,0,-1],[-2,-2,0,0,-2,0,0,-2],[-3,-3,0,0,-3,0,0,-3],[0,0,0,0,0,0,0,0],[0,1,-2,-3,0,0,0,-1],[-1,-1,0,-1,-1,-1,-1,-1],[-1,1,-2,-3,-1,0,-1,-1]]
def XY (l r:Nat):Int:=(fE.getD l []).getD r 0
def VX (l r:Nat)(v:Int):Int:=if XY l r<0 then(if v > 1 then 0 else -(XY l r))else XY l r
def Qt (q:Int)(l r:Nat)(v:Int):Int:=if VX l r v=0 then 0 else ka q (VX l r v+2)
def ABu:V:=.agg (fE.flatten.map λn=>.c (.int .i64 n))
theorem Ant : ∀l<8,∀r<8,fE.flatten[l*8+r]?=J (XY l r):=by decide +kernel
theorem Ans : ∀l<8,∀r<8,-3<=XY l r/\XY l r<=1:=by decide +kernel
theorem Anj (l r v:Nat)(z:l<8)(hr:r<8)(hv:v<4):AC AF 77 [(l:Int),(r:Int),(v:Int)] (VX l r v:Int):=by
 have hg:=Ant l z r hr;obtain⟨b1,b2⟩:=Ans l z r hr;unfold VX;generalize hE:XY l r=E at hg b1 b2 ⊢;obtain⟨M,jL⟩:=AI ((fE.flatten.map λn=>V.c (.int .i64 n)));have B:M[l*8+r]?=J (.c (.int .i64 E)):=by rw[<-jL,CM,hg];rfl
 have S:G M=64:=by rw[<-jL];rfl
 have hw:AZ.wrap (-E)= -E:=Ac;have Mi:(l:Int)<8:=Ux;have ml:(r:Int)<8:=Ux;have Q:=gx B;have R:l*8+r<G M:=Ux;have Dn:l*8+r<64:=Ux;have A0 : ∀cs:List V,G cs=64->E8 cs 0 M=M:=λcs h=>kz (by rw[S,h])
 have FH:M.all V.one=true:=by rw[<-jL];rfl
 refine en func77 ntmps77 ?_;refine wu (.mk 1) g8 trivial ⟨?_⟩;refine AW.DA ?_;refine CY (.mk 8) trivial ?_;refine SW.op (.agg M) (by simp[BQ]) rfl (λS0 w0 x a w hA=>AIu hA.1 rfl (λp _=>CW hA.2 p.2) An0 Anv (by rw[<-jL];kernel_rfl)) ?_;simp only[St.step,St.put,Bk,Ai,Ag];refine CY (.mk 2) (cj2 @A0 @S @FH) ?_;refine SW.nil ?_;by_cases q:E<0;rw[Awd q];by_cases h1:(1:Int)<v;have Jc:(2:Int)<=v:=Ux;rw[Awd h1];exact wz (cj9 @S @B @Q @R @Dn @Mi @ml @z @hr<|cj3 @hw @q @Jc g8) W;have Jc : ¬(2:Int)<=v:=Ux;rw[Awf h1];exact wz (cj9 @S @B @Q @R @Dn @Mi @ml @z @hr<|cj3 @hw @q @Jc g8) W;rw[Awf q];exact wz (cj9 @S @B @Q @R @Dn @Mi @ml @z @hr<|cj2 @hw @q g8) W
theorem AXG:AC AF 63 [] ABu:=by
 unfold ABu;obtain⟨B,Q⟩:=AI ((fE.flatten.map λn=>V.c (.int .i64 n)));have R:G B=64:=by rw[<-Q];rfl
 have M : ∀S:List V,G S=64->E8 S 0 B=B:=λS h=>kz (by rw[R,h])
 have q:B.all V.one=true:=by rw[<-Q];rfl
 have GP:B.take 64=B:=Gl Ux;have KE:V.CF B=J B:=by rw[<-Q];rfl
 rw[Q];refine en func63 ntmps63 ?_;refine wu (.mk 1) ki trivial ⟨?_⟩;refine AW.DA ?_;refine CY (.mk 8) trivial ?_;refine SW.op (.agg B) (by simp[BQ]) rfl (λS0 w0 x a w z=>AIu z.1 rfl (λp _=>CW z.2 p.2) An0 Anv (by rw[<-Q];kernel_rfl)) ?_;simp only[St.step,St.put,Bk,Ai,Ag];refine CY (.mk 1) (cj2 @M @R @q) ?_;refine SW.nil ?_;exact wz (cj4 @R @q @KE @GP ki) W
def KL:List AA->Int->Int
 | [],h=>h
 | b::l,h=>KL l (mx h (b.y+b.h))
def J1:List AA->Int->Int
 | [],d=>d
 | b::l,d=>J1 l (mx d (b.d - b.y))
def EY:List AA->List Int->List AA
 | b::l,p::q=>b.AS p b.y::EY l q
 | _,_=>[]
def Qf (AE:List AA)(places:List Int)(w:Int):AA:=Bf w (KL AE 0) (J1 AE 0) (EY AE places)
def Tk (AE:List AA)(places:List Int)(w:Int):AA×Int:=if (Qf AE places w).Ad=U then(AA.zero,6)else(Qf AE places w,0)
theorem dz : ∀ {AE:List AA} {pl:List Int},G pl=G AE->AA.Az (EY AE pl)=AA.Az AE
 | [],_,_=>by cases ‹List Int›<;>rfl
 | b::l,p::q,h=>by simp only[EY,AA.Az,Hb,dz (AE:=l) (pl:=q) (by simpa using h)]
 | b::l,[],h=>by simp at h
theorem AJb : ∀ {AE:List AA} {pl:List Int},AA.JH AE->AA.JH (EY AE pl)
 | [],[],_=>trivial
 | [],_::_,_=>trivial
 | b::l,[],_=>trivial
 | b::l,p::q,h=>by simp only[EY,AA.JH]at h ⊢;exact⟨HJ _ _ h.1,AJb h.2⟩
theorem AJd : ∀ {AE:List AA} {pl:List Int},AA.FY AE->AA.FY (EY AE pl)
 | [],[],_=>trivial
 | [],_::_,_=>trivial
 | b::l,[],_=>trivial
 | b::l,p::q,h=>by simp only[EY,AA.FY]at h ⊢;exact⟨F4 _ _ h.1,AJd h.2⟩
theorem kv : ∀ {AE:List AA} {pl:List Int},G pl=G AE->G (EY AE pl)=G AE
 | [],_,_=>by cases ‹List Int›<;>rfl
 | b::l,p::q,h=>by simp only[EY,BA,kv (AE:=l) (pl:=q) (by simpa using h)]
 | b::l,[],h=>by simp at h
theorem ABB : ∀ {AE:List AA} {pl:List Int} {k:Nat} {b:AA} {p:Int},AE[k]?=J b->pl[k]?=J p->(EY AE pl)[k]?=J (b.AS p b.y)
 | b'::l,Q::q,0,b,p,B,M=>by simp at B M;subst B M;rfl
 | b'::l,Q::q,k+1,b,p,B,M=>by simp only[EY,JU]at *;exact ABB B M
 | [],_,_,_,_,h,_=>by simp at h
 | _::_,[],_,_,_,_,h=>by simp at h
theorem AJf : ∀ {AE:List AA} {pl:List Int} {k:Nat} {b:AA} {p:Int},AE[k]?=J b->pl[k]?=J p->EY (AE.take (k+1)) (pl.take (k+1))=EY (AE.take k) (pl.take k)++[b.AS p b.y]
 | b'::l,Q::q,0,b,p,B,M=>by simp at B M;subst B M;rfl
 | b'::l,Q::q,k+1,b,p,B,M=>by
   simp only[JU]at B M;have:=AJf B M;simp only[DP,EY,BK]at this ⊢;rw[this]
 | [],_,_,_,_,h,_=>by simp at h
 | _::_,[],_,_,_,_,h=>by simp at h
theorem ALc : ∀(l:List AA) (k:Nat) (b:AA) (h:Int),l[k]?=J b->KL (l.take (k+1)) h=mx (KL (l.take k) h) (b.y+b.h)
 | [],_,_,_,h=>by simp at h
 | x::l,0,b,h,B=>by simp at B;subst B;rfl
 | x::l,k+1,b,h,B=>by simp only[DP,KL];exact ALc l k b _ (by simpa using B)
theorem AEP : ∀(l:List AA) (k:Nat) (b:AA) (h:Int),l[k]?=J b->J1 (l.take (k+1)) h=mx (J1 (l.take k) h) (b.d - b.y)
 | [],_,_,_,h=>by simp at h
 | x::l,0,b,h,B=>by simp at B;subst B;rfl
 | x::l,k+1,b,h,B=>by simp only[DP,J1];exact AEP l k b _ (by simpa using B)
theorem AaP {b:AA}(h:b.Ad=I):(-1073741824<=b.x/\b.x<=1073741824)/\(-1073741824<=b.y/\b.y<=1073741824):=by
 obtain⟨bk,bn,bs,bw,bh,z,bx,R,S,bo,q⟩:=b;simp only[AA.Ad,Ak,Awe]at h;obtain⟨B,h2,h3⟩:=h;simp only[AA.D8,AA.Cl,AA.lens,Ak,Ep,Nq]at B;obtain⟨⟨⟨l1,l2,l3,M,Q,_⟩,k1,k2⟩,h4⟩:=B;simp[An]at M Q;exact⟨M,Q⟩
theorem ABN : ∀(vs cs pre post:List V),G cs=G vs->E8 (pre++(cs++post)) (G pre) vs=pre++(vs++post)
 | [],cs,pre,post,h=>by
   have:cs=[]:=Nr (by simpa using h);subst this;simp[E8]
 | v::vs,c::cs,pre,post,h=>by
   simp only[E8,BK];have:=ABN vs cs (pre++[v]) post (by simpa using h);simp only[Cp,BA,BO,Cz,GX,BK,BU]at this;rw[<-this];congr 1
   simp
def arr (l:List AA)(n:Nat):List V:=(AA.AG l).flatten.map V.c++(Aq n BT).flatten
theorem AKY :(AA.AG l).flatten.length=G l*11:=by
 induction l with
 | nil=>rfl
 | cons b l ih=>simp only[AA.AG,Hp,Cp,ih,BA,AA.Nk];omega
theorem ANd :G (arr l n)=(G l+n)*11:=by
 have B:(Aq n BT).flatten.length=n*11:=by
  induction n with
  | zero=>rfl
  | succ n ih=>rw[BY,Hp,Cp,ih];simp[BT];omega
 unfold arr;rw[Cp,Ch,AKY,B];omega
theorem ib {n:Nat} : ∀ {a b:List V},V.BI n (a++b)=(V.BI n a && V.BI n b)
 | [],b=>by simp[V.BI]
 | v::a,b=>by simp only[BK,V.BI,ib (a:=a),Bool.and_assoc]
@[simp] theorem Aa5 :V.BI m BT=true:=by simp[BT,V.BI,V.A8]
@[simp] theorem AbJ (l:List AA)(n:Nat):V.BI m (arr l n)=true:=by
 have B : ∀r:List C,V.BI m (r.map V.c)=true:=by
  intro r;induction r with
  | nil=>rfl
  | cons c r ih=>simp only[Ap,V.BI,V.A8,ih,LW]
 have M:V.BI m (Aq n BT).flatten=true:=by
  induction n with
  | zero=>rfl
  | succ n ih=>rw[BY,Hp,ib,ih,Aa5];rfl
 unfold arr;rw[ib,B,M];rfl
theorem ANe (b:AA)(p:Int):(E8 (arr l (n+1)) (G l*11) b.vs).set (G l*11+6) (.c (.int .i64 p))=arr (l++[b.AS p b.y]) n:=by
 have R:G ((AA.AG l).flatten.map V.c)=G l*11:=by rw[Ch,AKY]
 have B:arr l (n+1)=(AA.AG l).flatten.map V.c++(BT++(Aq n BT).flatten):=by
  unfold arr;rw[BY,Hp]
 rw[B,<-R,ABN _ _ _ _ (by rw[AA.Xf];rfl),Vg _ _ Ux,show G ((AA.AG l).flatten.map V.c)+6 - G ((AA.AG l).flatten.map V.c)=6 by omega];have M:(b.vs++(Aq n BT).flatten).set 6 (.c (.int .i64 p))=(b.AS p b.y).vs++(Aq n BT).flatten:=by cases b;rfl
 rw[M];unfold arr;have Q:AA.AG (l++[b.AS p b.y])=AA.AG l++[(b.AS p b.y).row]:=by rw[Dt,Dt,Fm];rfl
 rw[Q,Vd,Fm,GX];simp only[Hp,RC,E5];rfl
theorem AS7 (ho:AA.FY AE)(hc:AA.Az AE<=1000000):AC AF 143 [.c (.sl (AA.AG AE))] (.c (.bool (AE.all AA.Ad))):=by
 obtain⟨Q,q⟩:=AI (AA.AG AE);have S:G Q=G AE:=by rw[<-q,Dt];simp
 have Ce:=Ud AE;rw[q];refine en func143 ntmps143 ?_;refine wy (cj @S<|Abc) trivial ⟨?_⟩;refine CX (ι:={ k:Nat // k<=G AE/\AE.all AA.Ad=(AE.drop k).all AA.Ad }) (λk=>[(2,.c (.bool U)),(6,(k.1:Int))]) (λ_=>[]) (λk=>G AE - k.1) ⟨0,ZA⟩ ?_ ?_;exact DH
 . rintro ⟨k,hk,hI⟩;simp only;by_cases B:k<G AE
   . obtain⟨c,M⟩:=AI (AE[k]);have z:AE[k]?=J c:=by rw[BE B,M]
     rw[D5 B,M,Ep]at hI;have R:Q[k]?=J c.row:=by rw[<-q,Dt,CM,z];rfl
     have Dp:k<G Q:=Ux;have Bu : ∀hx:k<G Q,Q[k]'hx=c.row:=by intro hx;rw[BE hx]at R;exact ML R
     have FX:=bj AE k c z;have hv:=EL c (kl ho c (Cj z)) Ux;rw[As]at hv;have ff:=(cj5 @S @B @Dp @R @Bu Abc)
     have cc:=(cj hv<|trivial)
     repeat any_goals (first|refine Du ff cc ⟨?_⟩|exact Bt ff|(refine Dv ff ?_ ?_<;>intro h<;>try exact Dw))
     all_goals exact⟨⟨k+1,Ux,by rw[hI,h,Cd]⟩,by simp only;omega,wd 0⟩
   rw[FA Ux,Nq]at hI;exact wz (cj2 @S @B Abc) W
theorem ARw (pl:List Int)(w:Int)(hv : ∀b∈AE,b.Ad=I)(ho:AA.FY AE)(hd:AA.JH AE)(hl:G pl=G AE)(hc:AA.Az AE<=900000)(ea:G AE<=10000):AC AF 145 [.c (.sl (AA.AG AE)),.c (AV pl),w] (Ba (Tk AE pl w)):=by
 obtain⟨rs,Aw⟩:=AI (AA.AG AE);have Av:G rs=G AE:=by rw[<-Aw,Dt];simp
 obtain⟨S,Ru⟩:=AI (pl.map (λn=>[C.int .i64 n]));have A2:G S=G AE:=by rw[<-Ru,Ch,hl]
 have BD:=My w (KL AE 0) (J1 AE 0) (EY AE pl) (AJb hd) (by rw[dz hl];omega);have CA:=EL (Qf AE pl w) (show AA.BX (Bf _ _ _ _)from⟨(CI _:0<=maxLen),(CI _:0<=maxLen),AJd ho⟩) (by show AA.cnt (Bf _ _ _ _)<=_;simp only[Bf,AA.cnt,dz hl];omega);have A0:Bf w (KL AE 0) (J1 AE 0) (EY AE pl)=Qf AE pl w:=F;rw[A0]at BD;obtain⟨B,hB⟩:=AI (Qf AE pl w);unfold Tk;rw[hB]at BD CA ⊢;have Wd:AV pl=.sl S:=by rw[<-Ru];rfl
 rw[Aw,Wd];simp only[As]at BD CA;have dC:128*(G AE:Int)<=281474976710656:=Ux;have za:(G AE:Int)<=9223372036854775807:=Ux;have KY : ¬(20000:Int)<=(G AE:Int):=Ux;refine en func145 ntmps145 ?_;refine wy (cj3 @Av @dC @za Akq) trivial ⟨?_⟩;refine CX (ι:={ k:Nat // k<=G AE/\KL (AE.take k) 0<=3000000000/\0<=KL (AE.take k) 0/\J1 (AE.take k) 0<=3000000000/\0<=J1 (AE.take k) 0 }) (λk=>[(9,(KL (AE.take k.1) 0:Int)),(10,(J1 (AE.take k.1) 0:Int)),(18,(k.1:Int))]) (λk=>[.box 56 BT U,.box 56 (arr (EY (AE.take k.1) (pl.take k.1)) (G AE - k.1)) U]) (λk=>G AE - k.1) ⟨0,by simp[KL,J1]⟩ ?_ ?_;exact ER (cj3 @KL.eq_1 @KL.eq_2 @J1.eq_1 @J1.eq_2);rintro ⟨k,hk,t1,t2,b1,b2⟩;simp only;by_cases Q:k<G AE;obtain⟨c,A1⟩:=AI (AE[k]);have q:AE[k]?=J c:=by rw[BE Q,A1]
 have A9:rs[k]?=J c.row:=by rw[<-Aw,Dt,CM,q];rfl
 have Dp:k<G rs:=Ux;have qo:k<G S:=Ux;have Bu : ∀R:k<G rs,rs[k]'R=c.row:=by intro R;rw[BE R]at A9;exact ML A9
 obtain⟨p,hp⟩:∃p,pl[k]?=J p:=⟨_,BE Ux⟩
 have KZ:S[k]?=J [.int .i64 p]:=by rw[<-Ru,CM,hp];rfl
 have rB : ∀R:k<G S,S[k]'R=[.int .i64 p]:=by intro R;rw[BE R]at KZ;exact ML KZ
 have z:=hv c (Cj q);obtain⟨cw,ch,cd,_⟩:=D3 z;obtain⟨cx,cy⟩:=AaP z;have hA:arr (EY (AE.take k) (pl.take k)) (G AE - k)=arr (EY (AE.take k) (pl.take k)) (G AE - (k+1)+1):=by rw[show G AE - (k+1)+1=G AE - k by omega]
 have HO:G (EY (AE.take k) (pl.take k))=k:=by rw[kv (by simp[hl]),Fa];omega
 have M:=ANe (EY (AE.take k) (pl.take k)) (G AE - (k+1)) c p;have FE:=ANd (EY (AE.take k) (pl.take k)) (G AE - k);rw[<-hA,HO,<-AJf q hp]at M;rw[HO,show k+(G AE - k)=G AE by omega]at FE;have Td:=ALc AE k c 0 q;have G5:=AEP AE k c 0 q;generalize Rg:arr (EY (AE.take k) (pl.take k)) (G AE - k)=X0 at M FE ⊢;obtain⟨X1,yX⟩:=AI (E8 X0 (k*11) c.vs);have cT:G X1=G AE*11:=by rw[<-yX,AJ5,FE]
 rw[yX]at M;obtain⟨T,hT⟩:=AI (KL (AE.take k) 0);obtain⟨D,hD⟩:=AI (J1 (AE.take k) 0);rw[hT]at Td t1 t2 ⊢;rw[hD]at G5 b1 b2 ⊢;have Ew:(if T<c.y+c.h then c.y+c.h else T)=KL (AE.take (k+1)) 0:=Td.symm;have FP:(if D<c.d - c.y then c.d - c.y else D)=J1 (AE.take (k+1)) 0:=G5.symm;have NT:k*11+11<=G AE*11:=Ux;have Ta:k*11+6<G AE*11:=Ux;refine wy (cj9 @Av @A2 @Q @Dp @qo @A9 @Bu @KZ @rB<|cj8 @FE @yX @cT @M @NT @Ta @Ew @FP Akq) trivial ⟨?_⟩;exact⟨⟨k+1,Ux,by rw[Td,DU];omega,by rw[Td,DU];omega,by rw[G5,DU];omega,by rw[G5,DU];omega⟩,by simp only;omega,wd 2⟩;have e1:AE.take k=AE:=Gl Ux;have e2:pl.take k=pl:=Gl Ux;rw[e1]at t1 t2 b1 b2 ⊢;rw[e2];have hz:G AE - k=0:=Ux;rw[hz];have e3:arr (EY AE pl) 0=(AA.AG (EY AE pl)).flatten.map V.c:=by simp[arr]
 have e4:Hc 11 (G AE) (AA.AG (EY AE pl)).flatten=AA.AG (EY AE pl):=by
  have:=bZ (AA.AG (EY AE pl)) (lE _);rwa [show G (AA.AG (EY AE pl))=G AE by rw[Dt,Ch,kv hl]]at this
 rw[e3];refine AW.Bi 1 rfl (toCs_map _) (by simp[V.Cs,V.Bi,e4];exact rfl) (by simp[O.Bi,V.Cs,V.Bi,BT];exact rfl) ?_;exact wz (cj8 @Av @Q @KY @Ba.eq_1 @As @AR.eq_1 @Fl @BT.eq_1 Akq) (cj2 BD CA W)
def Eh:List AA->List Int->Int->Int
 | b::l,s::t,e=>Eh l t (e+s+b.w)
 | _,_,e=>e
def FT:List AA->List Int->Int->List Int
 | b::l,s::t,e=>(e+s)::FT l t (e+s+b.w)
 | _,_,_=>[]
def F9 (AE:List AA)(sp:List Int):AA×Int:=
 if AE.all AA.Ad=U then(AA.zero,1)
 else if G sp≠G AE\/sp.all An=U then(AA.zero,2)
 else Tk AE (FT AE sp 0) (Eh AE sp 0)
theorem xV : ∀ {l:List AA} {t:List Int} {k:Nat} {b:AA} {s:Int} (e:Int),l[k]?=J b->t[k]?=J s->Eh (l.take (k+1)) (t.take (k+1)) e=Eh (l.take k) (t.take k) e+s+b.w
 | b'::l,Q::t,0,b,s,e,B,M=>by simp at B M;subst B M;rfl
 | b'::l,Q::t,k+1,b,s,e,B,M=>by
   simp only[JU]at B M;simp only[DP,Eh];exact xV _ B M
 | [],_,_,_,_,_,h,_=>by simp at h
 | _::_,[],_,_,_,_,_,h=>by simp at h
theorem AJl : ∀ {l:List AA} {t:List Int} {k:Nat} {b:AA} {s:Int} (e:Int),l[k]?=J b->t[k]?=J s->FT (l.take (k+1)) (t.take (k+1)) e=FT (l.take k) (t.take k) e++[Eh (l.take k) (t.take k) e+s]
 | b'::l,Q::t,0,b,s,e,B,M=>by simp at B M;subst B M;rfl
 | b'::l,Q::t,k+1,b,s,e,B,M=>by
   simp only[JU]at B M;simp only[DP,FT,Eh,BK];rw[AJl _ B M]
 | [],_,_,_,_,_,h,_=>by simp at h
 | _::_,[],_,_,_,_,_,h=>by simp at h
theorem VK : ∀ {l:List AA} {t:List Int} (e:Int),G t=G l->G (FT l t e)=G l
 | [],[],_,_=>rfl
 | b::l,s::t,e,h=>by simp only[FT,BA];rw[VK _ (by simpa using h)]
 | b::l,[],_,h=>by simp at h
 | [],_::_,_,h=>by simp at h
def NX (l:List Int)(n:Nat):List V:=l.map (λn=>V.c (.int .i64 n))++Aq n (.c (.int .i64 0))
theorem AHp (l:List Int)(n:Nat):G (NX l n)=G l+n:=by simp[NX]
theorem ATP (l:List Int)(n:Nat)(v:Int):(NX l (n+1)).set (G l) (.c (.int .i64 v))=NX (l++[v]) n:=by
 unfold NX;rw[Vg _ _ ZA];simp[BY]
theorem ATO (l:List Int)(n:Nat)(v:Int):(NX (l++[v]) n)[G l]?=J (.c (.int .i64 v)):=by
 unfold NX;rw[EJ ZA];simp
@[simp] theorem AcN (l:List Int)(n:Nat):V.BI m (NX l n)=true:=by
 unfold NX;rw[ib];have B:V.BI m (l.map λn=>V.c (.int .i64 n))=true:=by
  induction l with
  | nil=>rfl
  | cons c r ih=>simp only[Ap,V.BI,V.A8,ih,LW]
 have M:V.BI m (Aq n (.c (.int .i64 0)))=true:=by
  induction n with
  | zero=>rfl
  | succ n ih=>simp only[BY,V.BI,V.A8,ih,LW]
 rw[B,M];rfl
theorem ATQ (l:List Int):toCs (NX l 0)=J (l.map (C.int .i64)):=by
 have e:NX l 0=(l.map (C.int .i64)).map V.c:=by simp[NX]
 rw[e];exact toCs_c _
theorem AEo : ∀l:List Int,Hc 1 (G l) (l.map (C.int .i64))=l.map λn=>[C.int .i64 n]
 | []=>rfl
 | n::l=>by simp only[BA,Ap,Hc];rw[show (C.int AZ n::Vf (C.int AZ) l).drop 1=l.map (C.int .i64)from rfl,AEo l];rfl
theorem ANN {l:List AA}(h:l.all AA.Ad=I):∀b∈l,b.Ad=true:=λb B=>ES.1 h b B
theorem ADw : ∀ {l:List AA},(∀b∈l,b.Ad=I)->AA.JH l
 | [],_=>trivial
 | b::l,h=>⟨GD (h b GH),ADw λc B=>h c (Gk _ B)⟩
theorem kx (sp:List Int)(ho:AA.FY AE)(hc:AA.Az AE<=900000)(ea:G AE<=10000)(A6:G sp<=1000000):AC AF 98 [.c (.sl (AA.AG AE)),.c (AV sp)] (Ba (F9 AE sp)):=by
 obtain⟨rs,Aw⟩:=AI (AA.AG AE);have Av:G rs=G AE:=by rw[<-Aw,Dt];simp
 obtain⟨ps,Ru⟩:=AI (sp.map (λn=>[C.int .i64 n]));have q:G ps=G sp:=by rw[<-Ru,Ch]
 have Wd:AV sp=.sl ps:=by rw[<-Ru];rfl
 have z:=AS7 AE ho Ux;rw[Aw]at z;unfold F9;rw[Aw,Wd];have dC:8*(G AE:Int)<=281474976710656:=Ux;have za:(G AE:Int)<=9223372036854775807:=Ux;refine en u4 ntmps98 ?_;have B:=(cj8 @Av @q @dC @za @Ba.eq_1 @As @AR.eq_1 @Fl Ot)
 repeat any_goals (first|refine Qu (.mk 6) ?_|exact Bt B|refine De B ?_|refine BV B (z) ?_|refine DI B ?_|((first|refine JC B ?_ ?_|refine JE B ?_ ?_|refine JD B ?_ ?_|refine JY B ?_ ?_)<;>intro h<;>try (exfalso;first|omega|contradiction)))
 have A5:G sp≠G AE:=Ux;exact wz (cj6 @Av @q @Ba.eq_1 @As @AR.eq_1 @Fl Ot) W
 . have hl:G sp=G AE:=Ux;have dJ:AE.all AA.Ad=true:=‹_›;have Mk:=ANN dJ;rw[Awf (by simp[dJ])];rw[show Aq (G AE) (V.c (C.int AZ 0))=NX [] (G AE) from rfl];refine AW.DA ?_;refine SW.AOB AUa (cs:=[.int .i64 0]) (λS w=>by simp only[B4,Ab];exact⟨_,_,F,⟨F,by decide +kernel⟩,F⟩) func144 rfl rfl rfl rfl ?_;refine CY (.mk 1) trivial ?_;refine SW.nil ?_;have B:=(cj3 @Av @q @dC Ot)
   have cc:=W;repeat any_goals (first|refine Du B cc ⟨?_⟩|exact Bt B|(refine Dv B ?_ ?_<;>intro h<;>try exact Dw))
   refine CX (ι:={ k:Nat // k<=G AE/\sp.all An=(sp.drop k).all An/\ -(k:Int)*2147483648<=Eh (AE.take k) (sp.take k) 0/\Eh (AE.take k) (sp.take k) 0<=(k:Int)*2147483648 }) (λk=>[(5,(0:Int)),(8,(Eh (AE.take k.1) (sp.take k.1) 0:Int)),(26,(k.1:Int))]) (λk=>[.box 56 BT U,.box 3 (NX (FT (AE.take k.1) (sp.take k.1) 0) (G AE - k.1)) U,.box 3 [(Eh (AE.take k.1) (sp.take k.1) 0:Int)] U]) (λk=>G AE - k.1) ⟨0,by simp[Eh]⟩ ?_ ?_;exact ER (cj @Eh.eq_1<|@Eh.eq_2)
   . rintro ⟨k,hk,hI,b1,b2⟩;simp only;by_cases Q:k<G AE
     . obtain⟨c,A3⟩:=AI (AE[k]);have Ev:AE[k]?=J c:=by rw[BE Q,A3]
       have A1:k<G sp:=Ux;obtain⟨s,Cu⟩:=AI (sp[k]);have OE:sp[k]?=J s:=by rw[BE A1,Cu]
       rw[D5 A1,Cu,Ep]at hI;have A9:rs[k]?=J c.row:=by rw[<-Aw,Dt,CM,Ev];rfl
       have Dp:k<G rs:=Ux;have qo:k<G ps:=Ux;have Bu : ∀hx:k<G rs,rs[k]'hx=c.row:=by intro hx;rw[BE hx]at A9;exact ML A9
       have KZ:ps[k]?=J [.int .i64 s]:=by rw[<-Ru,CM,OE];rfl
       have rB : ∀hx:k<G ps,ps[k]'hx=[.int .i64 s]:=by intro hx;rw[BE hx]at KZ;exact ML KZ
       obtain⟨cw,ch,cd,_⟩:=D3 (Mk c (Cj Ev));have hE:=xV 0 Ev OE;have kE:=AJl 0 Ev OE;have HO:G (FT (AE.take k) (sp.take k) 0)=k:=by rw[VK _ (by simp[hl]),Fa];omega
       have M:=ATP (FT (AE.take k) (sp.take k) 0) (G AE - (k+1)) (Eh (AE.take k) (sp.take k) 0+s);have Ir:=ATO (FT (AE.take k) (sp.take k) 0) (G AE - (k+1)) (Eh (AE.take k) (sp.take k) 0+s);have FE:=AHp (FT (AE.take k) (sp.take k) 0) (G AE - k);have cT:=AHp (FT (AE.take (k+1)) (sp.take (k+1)) 0) (G AE - (k+1));rw[<-kE,HO]at M Ir;rw[HO,show k+(G AE - k)=G AE by omega]at FE;rw[kE,Cp,HO,List.length_singleton,<-kE,show k+1+(G AE - (k+1))=G AE by omega]at cT;rw[show G AE - (k+1)+1=G AE - k by omega]at M;obtain⟨X0,Rg⟩:=AI (NX (FT (AE.take k) (sp.take k) 0) (G AE - k));obtain⟨E,cH⟩:=AI (Eh (AE.take k) (sp.take k) 0);rw[Rg]at M FE ⊢;rw[cH]at M Ir hE b1 b2 ⊢;have G7:=Ng s;have B:=(cj9 @Av @q @Q @Dp @qo @A9 @Bu @KZ @rB<|cj5 @Ba.eq_1 @As @AR.eq_1 @Fl @BT.eq_1 Ot)
       repeat any_goals (first|refine Qu (.mk 13) ?_|exact Bt B|refine De B ?_|refine BV B (G7) ?_|refine DI B ?_|((first|refine JC B ?_ ?_|refine JE B ?_ ?_|refine JD B ?_ ?_|refine JY B ?_ ?_)<;>intro h<;>try (exfalso;first|omega|contradiction)))
       have hs:An s=true:=‹_›;simp[An]at hs;have FJ:k+1<=G AE:=Ux;refine AW.Lm Fz (.inl F) ?_;refine TW.take 12 (Es (by simp[Av,Q,Dp,qo,A9,Bu,KZ,rB];first|exact rfl|exact⟨F,F⟩|exact⟨F,F,F⟩) (HI ?_));simp only[CU,B9];refine TW.pJ 2 (AUZ E s c.w Ux Ux Ux Ux) func190 rfl rfl rfl rfl rfl rfl rfl ?_;simp only[St.step,St.put,Bk,BA,BO,Nat.reduceAdd,Nat.reduceLT,Awg,Ai,Ag,Ap,BB];refine TW.take 2 (Es (by simp[Q,FJ,FE,M];first|exact rfl|exact⟨F,F⟩|exact⟨F,F,F⟩) (HI (TW.nil ⟨ZC,?_⟩)));have A2:=gx Ir;refine wy (cj9 @Av @Q @Dp @A9 @Bu @Ir @A2 @cT @hE.symm Ot) trivial ⟨?_⟩;refine⟨⟨k+1,Ux,by rw[hI];simp[h],by rw[hE];omega,by rw[hE];omega⟩,by simp only;omega,?_⟩;refine Le.MI 3 (F2 F) (by simp[DG,BT]) (by simp[BT]) (by simp[V.BI,V.A8]) (by simp[O.A8,V.BI,V.A8,BT])
     have hz:G AE - k=0:=Ux;have e1:AE.take k=AE:=Gl Ux;have e2:sp.take k=sp:=Gl Ux;rw[FA Ux,Nq]at hI;rw[e1,e2]at b1 b2 ⊢;rw[hz,Awf (by simp[hI,hl])];have BD:=ARw AE (FT AE sp 0) (Eh AE sp 0) Mk ho (ADw Mk) (VK 0 hl) hc ea;have A0:=AEo (FT AE sp 0);rw[VK 0 hl]at A0;rw[Aw]at BD;obtain⟨E,cH⟩:=AI (Eh AE sp 0);obtain⟨L,hL⟩:=AI (FT AE sp 0);obtain⟨R,hR⟩:=AI (Tk AE L E);rw[cH,hL]at BD ⊢;rw[hL]at A0;rw[hR]at BD ⊢;simp only[Ba,As,AR,AV]at BD ⊢;refine AW.Bi 1 rfl (ATQ L) (by simp[V.Cs,V.Bi,A0];exact rfl) (by simp[O.Bi,V.Cs,V.Bi,BT];exact rfl) ?_;exact wz (cj3 @Av @Q @BT.eq_1 Ot) (cj BD<|trivial)
theorem Aja (a:Int)(ho:b.BX)(hc:b.cnt<=900000):AC AF 275 [Ao b,a] (Ba (KS b a)):=by
 have B:=m7 b ho Ux;cases M:b.Ad with
 | false=>have e:KS b a=(AA.zero,1):=Awd M;rw[e];rw[M]at B;simp only[Ba,As,AR]at B ⊢;refine en AGi ASX ?_;refine Ah ?_;refine BZ (B) Xk ?_;refine Ah ?_;exact At (cj AS1<| @Fl)
 | true =>
   rw[M]at B;obtain⟨bw,bh,bd,bc⟩:=D3 M;have Q:=sb a;have R:=sb (b.h - b.d);have S:AZ.wrap (b.h - b.d)=b.h - b.d:=Ac;cases z:An a with
   | false =>
     have e:KS b a=(AA.zero,2):=by unfold KS;rw[Awf (by simp[M]),Awd (.inl z)]
     rw[e];rw[z]at Q;simp only[Ba,As,AR]at B ⊢;refine en AGi ASX ?_;refine Ah ?_;refine BZ (B) Xk ?_;refine Ah ?_;refine BZ (Q) AQN ?_;refine Ah ?_;exact At (cj AS1<| @Fl)
   | true =>
     rw[z]at Q;cases hd:An (b.h - b.d)with
     | false =>
       have e:KS b a=(AA.zero,2):=by unfold KS;rw[Awf (by simp[M]),Awd (.inr hd)]
       rw[e];rw[hd]at R;simp only[Ba,As,AR]at B ⊢;refine en AGi ASX ?_;refine Ah ?_;refine BZ (B) Xk ?_;refine Ah ?_;refine gc @S (Q) AQN ?_;refine BZ (R) AQN ?_;refine Ah ?_;exact At (cj AS1<| @Fl)
     | true =>
       rw[hd]at R;have Fc:=J6 (b.h - b.d);have J8:=AP1 (b.h - b.d);simp[An]at z;have A0:An a=true:=by simp[An];omega
       have e:KS b a=if An (a - Bm (b.h - b.d))=U then(AA.zero,6)else(b.AS b.x (a - Bm (b.h - b.d)),0):=by unfold KS;rw[Awf (by simp[M]),Awf (by simp[A0,hd])]
       rw[e];generalize A1:Bm (b.h - b.d)=q at Fc J8 ⊢;have w2:AZ.wrap (a - q)=a - q:=Ac;have ql:=sb (a - q);cases hy:An (a - q)with
       | false=>rw[Awd rfl];rw[hy]at ql;simp only[Ba,As,AR]at B ⊢;refine en AGi ASX ?_;refine Ah ?_;refine BZ (B) Xk ?_;refine Ah ?_;refine gc @S (Q) AQN ?_;refine BZ (R) AQN ?_;refine go @S ?_;refine gc @w2 (J8) APg ?_;refine Ah ?_;refine BZ (ql) AQN ?_;refine Ah ?_;exact At (cj AS1<| @Fl)
       | true=>rw[Awf ZA];rw[hy]at ql;simp only[Ba,As,AR]at B ⊢;refine en AGi ASX ?_;refine Ah ?_;refine BZ (B) Xk ?_;refine Ah ?_;refine gc @S (Q) AQN ?_;refine BZ (R) AQN ?_;refine go @S ?_;refine gc @w2 (J8) APg ?_;refine Ah ?_;refine BZ (ql) AQN ?_;refine Ah ?_;exact At AS1
theorem AXd (f:AP)(p:Int):AC AF 276 [.agg f.vs,p] (Hu f p:Int):=by
 have h:=AYA f.params.FD p;unfold Hu;refine en func276 ntmps276 ?_;refine Ah ?_;refine BZ (h) ALN ?_;refine Ah ?_;exact At results276
theorem AXg (f:AP)(b:AA)(p:Int)(hb:b.Ad=I)(h1:1<=p)(S:p<=100):(-1073741824<=Hu f p/\Hu f p<=1073741824)/\∃M,(if Hu f p<b.h then b.h - Hu f p else 0)=M/\0<=M/\M<=2147483648/\(if M<b.d+Hu f p then b.d+Hu f p else M)=Ra f b p/\0<=Ra f b p/\Ra f b p<=2147483648:=by
 obtain⟨bw,bh,z,q⟩:=D3 hb;have R:=DM (p:=p) f.params.FD Ux S;refine⟨R,?_⟩;have B:Ra f b p=mx (mx 0 (b.h - Hu f p)) (b.d+Hu f p):=F;unfold Hu at *
 generalize hA:AU f.params.FD p=A at R B ⊢;have Q:mx 0 (b.h - A)=if A<b.h then b.h - A else 0:=by unfold mx;split<;>split<;>omega
 refine⟨_,F,?_,?_,?_,?_,?_⟩;split<;>omega;split<;>omega;rw[B,Q];rfl;rw[B,Q];unfold mx;split<;>split<;>omega;rw[B,Q];unfold mx;split<;>split<;>omega
theorem AnN (f:AP)(b:AA)(p:Int)(hb:b.Ad=I)(S:1<=p)(q:p<=100):AC AF 282 [.agg f.vs,Ao b,p] (Ra f b p:Int):=by
 obtain⟨bw,bh,bd,bc⟩:=D3 hb;obtain⟨z,M,R,m1,m2,Q,d1,d2⟩:=AXg f b p hb S q;have B:=AXd f p;generalize hA:Hu f p=A at z R Q B;have w1:AZ.wrap (b.h - A)=b.h - A:=Ac;have w2:AZ.wrap (b.d+A)=b.d+A:=Ac;rw[As];refine en func282 ntmps282 ?_;refine Ah ?_;refine BZ (B) func276 ?_;refine go (cj3 @w1 @w2 @R @Q) ?_;exact At results282
theorem AWp (f:AP)(b:AA)(p:Int)(hf:f.Fit)(ho:b.BX)(hc:b.cnt<=1000000):AC AF 184 [.agg f.vs,Ao b,p] (P9 f b p:Int):=by
 have Q:=Ma f;have B:=EL b ho hc;rw[As]at B ⊢;cases hv:f.valid with
 | false=>have e:P9 f b p=0:=Awd (.inl hv);rw[e];rw[hv]at Q;refine en Vk Vn ?_;refine Ah ?_;refine BZ (Q) IP ?_;refine Ah ?_;exact At Vo
 | true =>
   rw[hv]at Q;cases R:b.Ad with
   | false=>have e:P9 f b p=0:=Awd (.inr (.inl R));rw[e];rw[R]at B;refine en Vk Vn ?_;refine Ah ?_;refine BZ (Q) IP ?_;refine BZ (B) AFL ?_;refine Ah ?_;exact At Vo
   | true =>
     rw[R]at B;by_cases q:p<1;have e:P9 f b p=0:=Awd (.inr (.inr (.inl q)));rw[e];refine en Vk Vn ?_;refine Ah ?_;refine BZ (Q) IP ?_;refine gc @q (B) AFL ?_;refine Ah ?_;exact At Vo;by_cases h2:100<p;have e:P9 f b p=0:=Awd (.inr (.inr (.inr h2)));rw[e];refine en Vk Vn ?_;refine Ah ?_;refine BZ (Q) IP ?_;refine gc (cj @q<|@h2) (B) AFL ?_;refine Ah ?_;exact At Vo;have e:P9 f b p=if 536870912<Ra f b p then 0 else mx (AU (2*Ra f b p) f.params.TD) (2*Ra f b p - AU f.params.RY p):=by unfold P9;rw[Awf];rintro (h|h|h|h)<;>first|omega|(rw[hv]at h;cases h)|(rw[R]at h;cases h)
     rw[e];obtain⟨bw,bh,bd,bc⟩:=D3 R;obtain⟨ha,M,hM,m1,m2,hD,d1,d2⟩:=AXg f b p R Ux Ux;have K9:=EI f.params.FD p;have eA:AU f.params.FD p=Hu f p:=F;rw[eA]at K9;generalize hA:Hu f p=A at ha hM hD K9;have w1:AZ.wrap (b.h - A)=b.h - A:=Ac;have w2:AZ.wrap (b.d+A)=b.d+A:=Ac;generalize xr:Ra f b p=D at hD d1 d2 ⊢;have z:=EI (2*D) f.params.TD;have rE:=EI f.params.RY p;have k2:=DM (p:=p) f.params.RY Ux Ux;obtain⟨S1,cO⟩:=AI (AU (2*D) f.params.TD);obtain⟨S,YX⟩:=AI (AU f.params.RY p);rw[cO]at z ⊢;rw[YX]at rE k2 ⊢;have w3:AZ.wrap (2*D)=2*D:=Ac;have w4:AZ.wrap (2*D - S)=2*D - S:=Ac;have A0:(if S1<2*D - S then 2*D - S else S1)=mx S1 (2*D - S):=F;by_cases h3:536870912<D;rw[Awd h3];refine en Vk Vn ?_;refine Ah ?_;refine BZ (Q) IP ?_;refine gc (cj @q<|@h2) (B) AFL ?_;refine Ah ?_;refine BZ (K9) nI ?_;refine go (cj4 @w1 @w2 @hM @hD @h3) ?_;exact At Vo;rw[Awf h3];refine en Vk Vn ?_;refine Ah ?_;refine BZ (Q) IP ?_;refine gc (cj @q<|@h2) (B) AFL ?_;refine Ah ?_;refine BZ (K9) nI ?_;refine go (cj5 @w1 @w2 @hM @hD @h3 @w3) ?_;refine gc @w3 (z) nI ?_;refine gc (cj @w4<|@A0) (rE) nI ?_;refine Ah ?_;exact At Vo
theorem Am7 (f:AP)(b:AA)(p:Int)(hf:f.Fit)(ho:b.BX)(hc:b.cnt<=1000000):AC AF 243 [.agg f.vs,Ao b,p] (P9 f b p:Int):=by
 have Q:=ba f hf;have B:=m7 b ho hc;rw[As]at B ⊢;cases hv:f.valid with
 | false=>have e:P9 f b p=0:=Awd (.inl hv);rw[e];rw[hv]at Q;refine en fp AGH ?_;refine Ah ?_;refine BZ (Q) Sr ?_;refine Ah ?_;exact At vM
 | true =>
   rw[hv]at Q;cases R:b.Ad with
   | false=>have e:P9 f b p=0:=Awd (.inr (.inl R));rw[e];rw[R]at B;refine en fp AGH ?_;refine Ah ?_;refine BZ (Q) Sr ?_;refine BZ (B) Xk ?_;refine Ah ?_;exact At vM
   | true =>
     rw[R]at B;by_cases q:p<1;have e:P9 f b p=0:=Awd (.inr (.inr (.inl q)));rw[e];refine en fp AGH ?_;refine Ah ?_;refine BZ (Q) Sr ?_;refine gc @q (B) Xk ?_;refine Ah ?_;exact At vM;by_cases h2:100<p;have e:P9 f b p=0:=Awd (.inr (.inr (.inr h2)));rw[e];refine en fp AGH ?_;refine Ah ?_;refine BZ (Q) Sr ?_;refine gc (cj @q<|@h2) (B) Xk ?_;refine Ah ?_;exact At vM;have e:P9 f b p=if 536870912<Ra f b p then 0 else mx (AU (2*Ra f b p) f.params.TD) (2*Ra f b p - AU f.params.RY p):=by unfold P9;rw[Awf];rintro (h|h|h|h)<;>first|omega|(rw[hv]at h;cases h)|(rw[R]at h;cases h)
     rw[e];obtain⟨bw,bh,bd,bc⟩:=D3 R;have Tb:=AnN f b p R Ux Ux;rw[As]at Tb;obtain⟨ha,M,hM,m1,m2,hD,d1,d2⟩:=AXg f b p R Ux Ux;generalize xr:Ra f b p=D at hD d1 d2 Tb ⊢;have z:=AYA (2*D) f.params.TD;have rE:=AYA f.params.RY p;have k2:=DM (p:=p) f.params.RY Ux Ux;obtain⟨S1,cO⟩:=AI (AU (2*D) f.params.TD);obtain⟨S,YX⟩:=AI (AU f.params.RY p);rw[cO]at z ⊢;rw[YX]at rE k2 ⊢;have w3:AZ.wrap (2*D)=2*D:=Ac;have w4:AZ.wrap (2*D - S)=2*D - S:=Ac;have A0:(if S1<2*D - S then 2*D - S else S1)=mx S1 (2*D - S):=F;by_cases h3:536870912<D;rw[Awd h3];refine en fp AGH ?_;refine Ah ?_;refine BZ (Q) Sr ?_;refine gc (cj @q<|@h2) (B) Xk ?_;refine Ah ?_;refine BZ (Tb) func282 ?_;refine go @h3 ?_;exact At vM;rw[Awf h3];refine en fp AGH ?_;refine Ah ?_;refine BZ (Q) Sr ?_;refine gc (cj @q<|@h2) (B) Xk ?_;refine Ah ?_;refine BZ (Tb) func282 ?_;refine go (cj @h3<|@w3) ?_;refine gc @w3 (z) ALN ?_;refine gc (cj @w4<|@A0) (rE) ALN ?_;refine Ah ?_;exact At vM
def bp:ByteArray:=⟨#[46]⟩
def MX (f:AP)(name:ByteArray)(AD p:Int):AA×Int:=
 if f.valid=U\/Ck name=U then(AA.zero,1)
 else if p<1\/100<p then(AA.zero,2)
 else if name=bp then(Bf 0 0 0 [],0)
 else KS (Hv f name AD p).1 (Hu f p)
theorem kc {s:ByteArray}(h:Ck s=I):s.size<=16:=by simp[Ck]at h;omega
theorem AWl (f:AP)(name:ByteArray)(B p:Int)(hf:f.Fit)(hn:name.size<=maxLen)(hz : ∀s∈f.C5,G s.sizes<=1000):AC AF 186 [.agg f.vs,.c (.str name),B,p] (Ba (MX f name B p)):=by
 have Q:=Ma f;have R:=AO6 name;cases hv:f.valid with
 | false=>have e:MX f name B p=(AA.zero,1):=Awd (.inl hv);rw[e];rw[hv]at Q;simp only[Ba,As,AR];refine en UH UL ?_;refine Ah ?_;refine BZ (Q) IP ?_;refine Ah ?_;exact At (cj UN<| @Fl)
 | true =>
   rw[hv]at Q;cases z:Ck name with
   | false=>have e:MX f name B p=(AA.zero,1):=Awd (.inr z);rw[e];rw[z]at R;simp only[Ba,As,AR];refine en UH UL ?_;refine Ah ?_;refine BZ (Q) IP ?_;refine BZ (R) AQX ?_;refine Ah ?_;exact At (cj UN<| @Fl)
   | true =>
     rw[z]at R;have e1:MX f name B p=if p<1\/100<p then(AA.zero,2)else if name=bp then(Bf 0 0 0 [],0)else KS (Hv f name B p).1 (Hu f p):=Awf (by simp[hv,z])
     rw[e1];by_cases q:p<1;rw[Awd (.inl q)];simp only[Ba,As,AR];refine en UH UL ?_;refine Ah ?_;refine BZ (Q) IP ?_;refine BZ (R) AQX ?_;refine go @q ?_;exact At (cj UN<| @Fl);by_cases h2:100<p;rw[Awd (.inr h2)];simp only[Ba,As,AR];refine en UH UL ?_;refine Ah ?_;refine BZ (Q) IP ?_;refine BZ (R) AQX ?_;refine go (cj @q<|@h2) ?_;exact At (cj UN<| @Fl);rw[Awf Ux];by_cases h3:name=bp;rw[Awd h3];have Jd:name=⟨#[46]⟩↔True:=Awn h3;have hl:=My 0 0 0 [] trivial (by simp[AA.Az]);simp only[Ba,As,AR,AA.AG]at hl ⊢;refine en UH UL ?_;refine Ah ?_;refine BZ (Q) IP ?_;refine BZ (R) AQX ?_;refine go (cj2 @q @h2 @Jd) ?_;refine BZ (hl) func94 ?_;refine Ah ?_;exact At UN;rw[Awf h3];have Jd : ¬name=⟨#[46]⟩:=h3;have HM:=ACC tU f name B p hf;obtain⟨q1,q2⟩:=find_ok hv Ux Ux (kc z) B (p:=p);have FG:Hv f name B p=((Hv f name B p).1,0):=Prod.ext rfl q1;rw[FG]at HM;generalize hS:(Hv f name B p).1=S at HM q2 ⊢;have K9:=EI f.params.FD p;have eA:AU f.params.FD p=Hu f p:=F;rw[eA]at K9;have M:=AJT S (Hu f p) q2.BX (by have:=q2.cnt;omega);generalize hA:Hu f p=A at K9 M ⊢;generalize hY:KS S A=Y at M ⊢;simp only[Ba,As,AR]at HM M ⊢;refine en UH UL ?_;refine Ah ?_;refine BZ (Q) IP ?_;refine BZ (R) AQX ?_;refine go (cj2 @q @h2 @Jd) ?_;refine BZ (HM) func174 ?_;refine Ah ?_;refine BZ (K9) nI ?_;refine BZ (M) func164 ?_;refine Ah ?_;exact At UN
theorem Ajh (f:AP)(name:ByteArray)(B p:Int)(hf:f.Fit)(hn:name.size<=maxLen)(hz : ∀s∈f.C5,G s.sizes<=1000):AC AF 244 [.agg f.vs,.c (.str name),B,p] (Ba (MX f name B p)):=by
 have Q:=ba f hf;have R:=XN name hn;cases hv:f.valid with
 | false=>have e:MX f name B p=(AA.zero,1):=Awd (.inl hv);rw[e];rw[hv]at Q;simp only[Ba,As,AR];refine en AGh AGw ?_;refine Ah ?_;refine BZ (Q) Sr ?_;refine Ah ?_;exact At (cj vN<| @Fl)
 | true =>
   rw[hv]at Q;cases z:Ck name with
   | false=>have e:MX f name B p=(AA.zero,1):=Awd (.inr z);rw[e];rw[z]at R;simp only[Ba,As,AR];refine en AGh AGw ?_;refine Ah ?_;refine BZ (Q) Sr ?_;refine BZ (R) my ?_;refine Ah ?_;exact At (cj vN<| @Fl)
   | true =>
     rw[z]at R;have e1:MX f name B p=if p<1\/100<p then(AA.zero,2)else if name=bp then(Bf 0 0 0 [],0)else KS (Hv f name B p).1 (Hu f p):=Awf (by simp[hv,z])
     rw[e1];by_cases q:p<1;rw[Awd (.inl q)];simp only[Ba,As,AR];refine en AGh AGw ?_;refine Ah ?_;refine BZ (Q) Sr ?_;refine BZ (R) my ?_;refine go @q ?_;exact At (cj vN<| @Fl);by_cases h2:100<p;rw[Awd (.inr h2)];simp only[Ba,As,AR];refine en AGh AGw ?_;refine Ah ?_;refine BZ (Q) Sr ?_;refine BZ (R) my ?_;refine go (cj @q<|@h2) ?_;exact At (cj vN<| @Fl);rw[Awf Ux];by_cases h3:name=bp;rw[Awd h3];have Jd:name=⟨#[46]⟩↔True:=Awn h3;have hl:(Bf 0 0 0 []).vs=[.c (.int .i64 3),.c (.str ⟨#[]⟩),.c (.int .i64 0),.c (.int .i64 0),.c (.int .i64 0),.c (.int .i64 0),.c (.int .i64 0),.c (.int .i64 0),.c (.sl []),.c (.int .i64 0),.c (.sl [])]:=F;simp only[Ba,As,AR,hl];refine en AGh AGw ?_;refine Ah ?_;refine BZ (Q) Sr ?_;refine BZ (R) my ?_;refine go (cj2 @q @h2 @Jd) ?_;exact At vN;rw[Awf h3];have Jd : ¬name=⟨#[46]⟩:=h3;have HM:=Ajd f name B p hf hz;obtain⟨q1,q2⟩:=find_ok hv Ux Ux (kc z) B (p:=p);have FG:Hv f name B p=((Hv f name B p).1,0):=Prod.ext rfl q1;rw[FG]at HM;generalize hS:(Hv f name B p).1=S at HM q2 ⊢;have K9:=AXd f p;have M:=Aja S (Hu f p) q2.BX (by have:=q2.cnt;omega);generalize hA:Hu f p=A at K9 M ⊢;generalize hY:KS S A=Y at M ⊢;simp only[Ba,As,AR]at HM M ⊢;refine en AGh AGw ?_;refine Ah ?_;refine BZ (Q) Sr ?_;refine BZ (R) my ?_;refine go (cj2 @q @h2 @Jd) ?_;refine BZ (HM) ns ?_;refine Ah ?_;refine BZ (K9) func276 ?_;refine BZ (M) AGi ?_;refine Ah ?_;exact At vN
theorem Mp {n:Int}(B : -1073741824<=n)(M:n<=1073741824):An n=true:=by simp[An,B,M]
theorem AWC {f:AP}(R:f.valid=I)(name:ByteArray)(Q:Ck name=I):Ck (f.pick name).name=true:=by
 have M : ∀g∈f.DR,Ck g.name=true:=by
  intro g B;have:=Z8 R g B;simp only[Lo,Ak]at this;exact this.1
 unfold AP.pick;split;rename_i g B;exact M g (YJ B).1;split;rename_i g B;exact M g (YJ B).1;exact Q
theorem AHY {f:AP}(M:f.valid=I){name:ByteArray}{h:Int}(e:f.ht name=J h):Ck name=true:=by
 simp only[AP.ht,Ia]at e;obtain⟨g,B,_⟩:=e;obtain⟨m,rfl⟩:=YJ B;have:=Z8 M g m;simp only[Lo,Ak]at this;exact this.1
theorem ABp {f:AP}(M:f.valid=I){p:Int}(B:1<=p)(R:p<=100){name:ByteArray}(z:Ck name=I){y:Int}(hy:An y=I):({ (DB f name p).1 with y:=y }:AA).D8=I/\({ (DB f name p).1 with y:=y }:AA).nest=1:=by
 obtain⟨e,_⟩:=Pk M B R name;have S:=Zv M B R name;have q:=AWC M name z;rw[e];have Q:Ck ((f.pick name).scaled p).name=true:=q;generalize hG:(f.pick name).scaled p=G at S Q ⊢;have hm:0<=mx 0 G.Ey/\mx 0 G.Ey<=200000:=by rw[DU];omega
 refine⟨?_,F⟩;have k1:An (G.w+mx 0 G.Ey)=true:=Mp Ux Ux;have k2:An G.h=true:=Mp Ux Ux;have k3:An G.d=true:=Mp Ux Ux;have k4:An 0=true:=Mp Ux Ux;simp[N7,AA.D8,AA.FU,AA.Cl,AA.lens,AA.Fi,AA.Js,k1,k2,k3,k4,hy,Q,B,show p<=1000 by omega,HT,I7]
theorem AKv {f:AP}(Q:f.valid=I){p:Int}(B:1<=p)(M:p<=100)(name:ByteArray):({ (DB f name p).1 with y:=0 }:AA)=(DB f name p).1:=by
 obtain⟨e,_⟩:=Pk Q B M name;rw[e];rfl
theorem AEC {f:AP}(M:f.valid=I){p:Int}(Q:1<=p)(R:p<=100)(B:Int)(ho:0<=B):∀(l:List CR) (b:Int),0<=b->b+40000*(G l:Int)<=400000000->(∀q∈l,Ck q.name=I/\B<(f.pick q.name).Dy)->AA.FU (Gp f B p b l)=I/\AA.Hk (Gp f B p b l)<=1
 | [],b,_,_,_=>⟨rfl,CI _⟩
 | q::l,b,hb,hl,S=>by
   obtain⟨z,A1⟩:=S q GH;have hs:=Ql M q.name;unfold BG.Small at hs;have A0:(f.pick q.name).Dy=(f.pick q.name).h+(f.pick q.name).d:=F;simp only[BA]at hl;obtain⟨i1,i2⟩:=AEC M Q R B ho l (b+((f.pick q.name).Dy - B)) Ux Ux λx hx=>S x (Gk _ hx)
   have Y2:=AKe (n:=b) (p:=p) Ux Ux Ux Ux;have kF : -200000<=(DB f q.name p).1.d/\(DB f q.name p).1.d<=200000:=by
    rw[(Pk M Q R q.name).1];have:=Zv M Q R q.name;simp only[N7];omega
   obtain⟨j1,j2⟩:=ABp M Q R z (y:=AU b p+(DB f q.name p).1.d) (Mp Ux Ux);simp only[Gp,kt,AA.FU,AA.Hk];rw[j1,i1,j2];exact⟨F,Nat.max_le.2 ⟨BN _,i2⟩⟩
theorem ABq {f:AP}(Q:f.valid=I):∀(l:List ByteArray) (a:Int),Sc f.ht a l=I->∀n∈l,Ck n=I
 | [],a,_,n,B=>by cases B
 | x::l,a,h,n,B=>by
   simp only[Sc]at h;cases M:f.ht x with
   | none=>rw[M]at h;cases h
   | some y =>
     rw[M]at h;simp only[Ak]at h;rcases Cf.1 B with rfl|B
     exact AHY Q M;exact ABq Q l _ h.2 n B
theorem AV0 {f:AP}(R:f.valid=I){s:Bc}(hs:s∈f.C5):∀q∈s.parts,Ck q.name=true:=by
 intro q M;have h:=Z9 R s hs;simp only[Oh,Ak]at h;obtain⟨_,_,B⟩:=h;rw[Awf (by intro e;rw[e]at M;cases M)]at B;unfold du at B;cases Q:OW f.ht 60000 U s.parts with
 | none=>rw[Q]at B;cases B
 | some x=>obtain⟨y,S⟩:=AA0 _ _ _ _ _ Q q M;exact AHY R S
theorem ic {b:AA}(B:b.D8=I)(M:b.cnt<=20000)(Q:b.nest<=100):b.Ad=true:=by
 unfold AA.Ad;rw[B,Awk M,Awk Q];rfl
theorem AFc {f:AP}(B:f.valid=I){p:Int}(z:1<=p)(R:p<=100){name:ByteArray}(hn:Ck name=I)(S:Int):(Hv f name S p).1.Ad=I/\ -1000400000<=(Hv f name S p).1.h - (Hv f name S p).1.d/\(Hv f name S p).1.h - (Hv f name S p).1.d<=1000400000:=by
 have hk:JF f p=0:=by unfold JF;rw[Awf (by simp[B]),Awf Ux]
 have Q:=AEm B name S p;obtain⟨c,hc⟩:=AI (J2 f name S p);unfold Hv;rw[Awf (by simp[hk]),hc];rw[hc]at Q;unfold K5;rw[Awf (by simp[hk]),Awf (by simp[Q])];have sv : ∀n,Ck n=I->(DB f n p).1.Ad=I/\ -1000400000<=(DB f n p).1.h - (DB f n p).1.d/\(DB f n p).1.h - (DB f n p).1.d<=1000400000:=λn hn=>by
  have hb:=Zv B z R n;have hE : -1000400000<=(DB f n p).1.h - (DB f n p).1.d/\(DB f n p).1.h - (DB f n p).1.d<=1000400000:=by rw[(Pk B z R n).1];simp only[N7];omega
  refine⟨?_,hE⟩;obtain⟨j1,j2⟩:=ABp B z R hn (y:=0) (Mp Ux Ux);rw[AKv B z R]at j1 j2;have:=(lQ B z R (kc hn)).2.2;exact ic j1 Ux Ux
 by_cases h0:c.Jo=0;rw[Awd h0];refine sv _ ?_;unfold KH at Q;cases M:f.I8 name with
 | none=>rw[M]at Q;simp[h0]at Q;rw[Q];exact hn
 | some s=>rw[M]at Q;simp[h0]at Q;have hs:=(Se M).1;have h:=Z9 B s hs;simp only[Oh,Ak]at h;exact ABq B _ _ h.2.1 _ (yj Q)
 rw[Awf h0];obtain⟨s,M,HO,r1,r2,_⟩:=AAI (cg:=c.Ln) (cr:=c.Jo) h0 Q;have hs:=(Se M).1;obtain⟨_,_,g3,g4,g5,g6⟩:=QG B hs;have hl:=sH r1 r2 s.parts;have Hy : ∀q∈JR c.Jo s.parts,Ck q.name=I/\s.Dc<(f.pick q.name).Dy:=λq hq=>⟨AV0 B hs q (sG hq),g6 q (sG hq)⟩
 obtain⟨i1,i2⟩:=AEC B z R s.Dc g4 (JR c.Jo s.parts) 0 Ux Ux Hy;obtain⟨k1,k2,k3,k4,k5⟩:=AA9 B z R s.Dc (JR c.Jo s.parts) 0 λq hq=>kc (Hy q hq).1
 have hw:=k5 0 Ux Ux;obtain⟨t1,t2⟩:=AB3 B hs r1 r2;have hh:=AKd (n:=LO f s c.Jo) (p:=p) t1 t2 Ux R;rw[M];simp only[Dm,V4];refine⟨ic ?_ ?_ ?_,Ux,Ux⟩;have q1:An (IS 0 (Gp f s.Dc p 0 (JR c.Jo s.parts)))=true:=Mp Ux Ux;have q2:An (AU (LO f s c.Jo) p)=true:=Mp Ux Ux;have q3:An 0=true:=Mp Ux Ux;simp[AA.D8,AA.Cl,AA.lens,AA.Fi,AA.Js,q1,q2,q3,i1,HT,I7];simp only[AA.cnt];omega;simp only[AA.nest];omega
theorem AQq {n:Int}(B : -1000400000<=n)(M:n<=1000400000): -500200001<=Bm n/\Bm n<=500200001/\ -1<=n - 2*Bm n/\n - 2*Bm n<=1:=by
 unfold Bm;rw[Awd (Mp Ux Ux)];unfold Ea;split<;>omega
theorem AEI {f:AP}(B:f.valid=I){p:Int}(S:1<=p)(M:p<=100):0<=Hu f p/\Hu f p<=20001:=by
 have Q:Qk f.params=true:=by simp only[AP.valid,Ak]at B;exact B.1.2.2
 simp[Qk,DX,Params.lens]at Q;unfold Hu;have R:0<=f.params.FD*p:=Int.mul_nonneg Ux Ux;have q:=aF M (show 0<=f.params.FD by omega);rw[<-ABa Ux Ux Ux Ux];unfold Ea;rw[Awd R];omega
theorem xJ {f:AP}(M:f.valid=I){p:Int}(Q:1<=p)(R:p<=100){name:ByteArray}(q:Ck name=I)(B:Int):(name=bp/\MX f name B p=(Bf 0 0 0 [],0))\/(name≠bp/\∃S,oH S/\S.Ad=I/\(Hv f name B p).1=S/\An (Hu f p - Bm (S.h - S.d))=I/\An (S.h - S.d)=I/\MX f name B p=(S.AS S.x (Hu f p - Bm (S.h - S.d)),0)):=by
 unfold MX;rw[Awf (by simp[M,q]),Awf Ux];by_cases z:name=bp;rw[Awd z];exact .inl ⟨z,rfl⟩;rw[Awf z];refine .inr ⟨z,_,(find_ok M Q R (kc q) B).2,(AFc M Q R q B).1,rfl,?_⟩;have hs:=(find_ok M Q R (kc q) B).2;obtain⟨hb,b1,b2⟩:=AFc M Q R q B;generalize hS:(Hv f name B p).1=S at hs hb b1 b2 ⊢;obtain⟨a1,a2⟩:=AEI M Q R;obtain⟨c1,c2,_⟩:=AQq b1 b2;have q1:An (Hu f p)=true:=Mp Ux Ux;have q2:An (S.h - S.d)=true:=Mp Ux Ux;have q3:An (Hu f p - Bm (S.h - S.d))=true:=Mp Ux Ux;refine⟨q3,q2,?_⟩;unfold KS;rw[Awf (by simp[hb]),Awf (by simp[q1,q2]),Awf (by simp[q3])]
def Kg (s:ByteArray)(i:Nat):ByteArray:=s.extract i (i+1)
def O5 (f:AP)(names:ByteArray)(b:AA)(p:Int):AA×Int:=
 if f.valid=U\/b.Ad=U\/Nh names=U then(AA.zero,1)
 else if p<1\/100<p then(AA.zero,2)
 else F9 [(MX f (Kg names 0) (P9 f b p) p).1,b.AS 0 0,(MX f (Kg names 1) (P9 f b p) p).1] [0,0,0]
theorem sC {s:ByteArray}(h:Nh s=I):s.size=2:=by
 unfold Nh at h;simp only[Ak,Awe]at h;exact h.2
theorem sB {s:ByteArray}(h:Nh s=I)(i:Nat)(z:i<2):Ck (Kg s i)=true:=by
 have hs:=sC h;unfold Nh at h;simp only[Ak,Awe]at h;have S : ∀b∈(Kg s i).data.toList,b∈s.data.toList:=λb M=>mem_extract M
 have Q:(Kg s i).size=1:=by unfold Kg;rw[fg];omega
 have B:(Kg s i).data.toList.all Dx=true:=by
  rw[ES];intro b M;have:=ES.1 h.1 b (S b M);have q : ∀b:UInt8,Qj b=I->Dx b=true:=by
   intro b M;have R:b∈Gf.data.toList:=by simpa [Qj]using M
   have : ∀c∈Gf.data.toList,Dx c=true:=ZB;exact this b R
  exact q b this
 unfold Ck;rw[B,Q];rfl
theorem AKs (f:AP)(B:ByteArray)(M p:Int)(i:Nat)(hi:i<2)(hs:B.size=2)(z:f.Fit)(hz : ∀s∈f.C5,G s.sizes<=1000):AC AF 185 [i,.cp f.row 0,.cp [.str B] 0,.cp [.int .i64 M] 0,.cp [.int .i64 p] 0] (Ba (MX f (Kg B i) M p)):=by
 have R:(Kg B i).size<=maxLen:=by unfold Kg;rw[fg,hs];unfold maxLen;omega
 have Q:=AWl f (Kg B i) M p z R hz;have A0:G f.row=22:=by simp[AP.row,Params.list]
 have S:f.row.map V.c=f.vs:=F;generalize hY:MX f (Kg B i) M p=Y at Q ⊢;unfold Kg at Q;have q:i<=1:=Ux;simp only[Ba,As,AR]at Q ⊢;refine en func185 ntmps185 ?_;exact wz (cj3 @hs @S @q results185) (cj Q<|trivial)
theorem AE7 {f:AP}(z:f.valid=I){p:Int}(Q:1<=p)(R:p<=100){name:ByteArray}(q:Ck name=I)(B:Int):∃L,MX f name B p=(L,0)/\L.BX/\L.cnt<=8001:=by
 rcases xJ z Q R q B with ⟨_,e⟩|⟨_,S,M,_,_,_,_,e⟩
 exact⟨_,e,⟨(CI _:0<=maxLen),(CI _:0<=maxLen),W⟩,by simp[Bf,AA.cnt,AA.Az]⟩;exact⟨_,e,F4 _ _ M.BX,by rw[Hb];exact M.cnt⟩
theorem AV9 (f:AP)(B:ByteArray)(b:AA)(p:Int)(hf:f.Fit)(hz : ∀s∈f.C5,G s.sizes<=1000)(ho:b.BX)(hc:b.cnt<=800000)(hn:B.size<=maxLen):AC AF 138 [.agg f.vs,.c (.str B),Ao b,p] (Ba (O5 f B b p)):=by
 have EW:=Ma f;have CA:=EL b ho Ux;have Wm:=AVt B;have S:=AWp f b p hf ho Ux;obtain⟨N,hN⟩:=AI (P9 f b p);unfold O5;rw[hN]at S ⊢;simp only[Ba,As,AR]at CA S ⊢;refine en func138 ntmps138 ?_;have M:=(cj4 @Ba.eq_1 @As @AR.eq_1 @Fl Akp)
 repeat any_goals (first|refine Qu (.mk 6) ?_|exact Bt M|refine De M ?_|refine BV M (EW) ?_|refine BV M (CA) ?_|refine BV M (Wm) ?_|refine BV M (S) ?_|refine DI M ?_|((first|refine JC M ?_ ?_|refine JE M ?_ ?_|refine JD M ?_ ?_|refine JY M ?_ ?_)<;>intro h<;>try (exfalso;first|omega|contradiction)))
 have hv:f.valid=true:=‹_›;have D7:b.Ad=true:=‹_›;have z:Nh B=true:=‹_›;have p1:1<=p:=Ux;have p2:p<=100:=Ux;rw[Awf (by simp[hv,D7,z]),Awf Ux];obtain⟨L,hL,l1,l2⟩:=AE7 hv p1 p2 (sB z 0 Ux) N;obtain⟨R,hR,r1,r2⟩:=AE7 hv p1 p2 (sB z 1 Ux) N;have KF:=AKs f B N p 0 Ux (sC z) hf hz;have q:=AKs f B N p 1 Ux (sC z) hf hz;have Bn:=kx [L,b.AS 0 0,R] [0,0,0] ⟨l1,F4 _ _ ho,r1,trivial⟩ (by simp only[AA.Az,Hb];omega) ZA ZA;have Q:=Gu b 0 0 (by have:=GD D7;cases b;simp only[AA.Fq]at this;exact this.1);rw[hL]at KF ⊢;rw[hR]at q ⊢;obtain⟨Y,hY⟩:=AI (F9 [L,b.AS 0 0,R] [0,0,0]);simp only[hY]at Bn ⊢;generalize hA:b.AS 0 0=A at Bn Q;simp only[Ba,As,AR,AA.AG,AV,Ap,BB]at KF q Bn Q ⊢;refine Cn 0 ?_;refine Cn 1 ?_;refine Cn 3 ?_;refine Cn 5 ?_;refine wu (.mk 13) Akp (cj2 KF q W) ⟨?_⟩;refine AW.Lm Fz (.inl F) ?_;refine TW.take 5 (Es (by simp;first|exact rfl|exact⟨F,F⟩|exact⟨F,F,F⟩) ?_);refine BZ (Q) func170 ?_;refine HI ?_;simp only[CU,B9];refine TW.ub ⟨.Bg [[.int .i64 0],[.int .i64 0],[.int .i64 0]],E,E⟩ rfl (λ_ _ h=>by cases h) ?_ ?_;intro S0 w0 x a w H g A0 _;have h3:CV x w (.c (.int .i64 3)) (a.eval (.const (.int .i64 3))):=by
  have:=A0 (.const (.int .i64 3)) (by simp[Bl]);simpa [ev]using this
 have ht:Dk AF 39=J (3,1,8):=ZA;have hz:C2 AF 3=J [.c (.int .i64 0)]:=ZA;exact AIy g rfl ht h3 h3 hz rfl Ux Ux Ux;simp only[St.step,St.put,Bk,Ai,Ag];refine TW.take 6 ?_;simp only[DP,List.take_nil,ET];refine BZ (Bn) u4 ?_;refine HI (TW.nil ⟨ZC,?_⟩);exact wz (cj @Ba.eq_1<|Akp) W
def T1 (q v:Int):Int->List Int->List Int
 | _,[]=>[]
 | p,c::l=>Qt q p.toNat c.toNat v::T1 q v c l
def CC (q v:Int):List Int->List Int
 | []=>[]
 | c::l=>0::T1 q v c l
def K6 (AL:Nat):Nat->Int->List AA->Int
 | _,w,[]=>w
 | i,w,b::l=>K6 AL (i+1) (if i % AL=0 then mx w b.w else w) l
def Lh (AL:Nat)(cells:List AA)(c:Nat):Int:=K6 AL 0 0 (cells.drop c)
def MW (q:Int)(row:List AA):Int:=row.foldl (λh b=>mx h b.h) (AU q 70)
def N1 (q:Int)(row:List AA):Int:=row.foldl (λh b=>mx h b.d) (AU q 30)
def Ha (AL:Nat)(cells:List AA)(r:Nat):List AA:=(cells.drop (r*AL)).take AL
def Ig (q:Int)(AL:Nat)(cells:List AA):Nat->Int
 | 0=>0
 | c+1=>Ig q AL cells c+Lh AL cells c+q
def oh (q:Int)(AL:Nat)(cells:List AA)(r:Nat):Int:=MW q (Ha AL cells r)+N1 q (Ha AL cells r)
def NI (q:Int)(AL:Nat)(cells:List AA):Nat->Int
 | 0=>0
 | r+1=>NI q AL cells r+oh q AL cells r
def N3 (q:Int)(AL:Nat)(cells:List AA)(r:Nat):Int:=NI q AL cells r+(r:Int)*AU q 20
def Oy (q:Int)(AL:Nat)(cells:List AA)(AG:Nat):Int:=((AG:Int) - 1)*AU q 20+NI q AL cells AG
def wN (q:Int)(AL:Nat)(cells:List AA)(top:Int)(i:Nat)(b:AA):AA:=
 b.AS (Ig q AL cells (i % AL)+Bm (Lh AL cells (i % AL) - b.w)) (top - N3 q AL cells (i / AL) - MW q (Ha AL cells (i / AL)))
def Ox (q:Int)(AL:Nat)(cells:List AA)(top:Int):Nat->List AA->List AA
 | _,[]=>[]
 | i,b::l=>wN q AL cells top i b::Ox q AL cells top (i+1) l
def oe (q ax:Int)(AL:Nat)(cells:List AA):AA:=
 Bf (Ig q AL cells (AL - 1)+Lh AL cells (AL - 1)) (ax+Bm (Oy q AL cells (G cells / AL))) (Oy q AL cells (G cells / AL) - (ax+Bm (Oy q AL cells (G cells / AL))))
  (Ox q AL cells (ax+Bm (Oy q AL cells (G cells / AL))) 0 cells)
def N2 (f:AP)(s:Aa)(AL:Nat)(cells:List AA):AA×Int:=
 if An (Oy (AU f.params.Al (BS f.params s)) AL cells (G cells / AL))=U then(AA.zero,6)
 else C8 (oe (AU f.params.Al (BS f.params s)) (AU f.params.FD (BS f.params s)) AL cells)
structure Af where
 f:AP
 d:List En
def Bj (r:AA×Int):Option AA:=if r.2=0 then J r.1 else E
def Af.sz (x:Af)(s:Aa):Int:=BS x.f.params s
def Af.Al (x:Af)(s:Aa):Int:=AU x.f.params.Al (x.sz s)
def Af.gl (x:Af)(s:Aa)(name:ByteArray):AA:=(DB x.f name (x.sz s)).1
def Af.RW (x:Af)(s:Aa)(c:UInt8):AA:=if c=32 then Bf (AU (x.Al s) 25) 0 0 []else x.gl s ⟨#[c]⟩
def Af.Uc (x:Af)(s:Aa)(t:ByteArray):List AA:=t.data.toList.map (x.RW s)
def Af.Po (x:Af)(s:Aa)(t:ByteArray):Option AA:=Bj (F9 (x.Uc s t) (Aq t.size 0))
def Af.Mw (x:Af)(s:Aa)(t:ByteArray):Choice:=
 match x.f.I8 t with
 | none=>⟨t,0⟩
 | some st=>⟨st.sizes.getD (if s.By=0/\2<=G st.sizes then 1 else 0) ⟨#[]⟩,0⟩
def Af.VI (x:Af)(s:Aa)(t:ByteArray):Option AA:=
 match Bj (KS (x.gl s (x.Mw s t).Ln) (AU x.f.params.FD (x.sz s)))with
 | none=>E
 | some b=>Bj (F9 [b] [0])
def Af.sym (x:Af)(s:Aa)(t:ByteArray):Option AA:=
 if (He x.d t).cls=1/\(He x.d t).str=I then x.VI s t
 else if t.size=1\/(x.f.find t).isSome=I then J (x.gl s t)
 else x.Po s t
def PZ (x:Af)(s:Aa)(base:Nd):Bool:=
 match base.AE with
 | [i]=>decide (s.By=0) && (decide (i.kind=2) && (He x.d i.text).dW)
 | _=>U
def AA.cB (b:AA):AA:={ b with w:=0,h:=0,d:=0 }
def Ue (AE:List Nd)(b:AA):AA:=if (AE.getD 0 ⟨0,⟨#[]⟩,0,[]⟩).AE=[]then b.cB else b
def Xb (k:Int)(l:List AA):List AA:=if k=8 then []else [l.getD 1 AA.zero]
def Xc (k:Int)(l:List AA):List AA:=if k=7 then []else [l.getD (G l - 1) AA.zero]
def Ji (x:Af)(s:Aa)(k:Int)(t:ByteArray)(c:Int)(AE:List Nd)(l:List AA):Option AA:=
 if k=2 then x.sym s t
 else if k=3\/k=4 then x.Po s t
 else if k=5 then Bj (C8 (WO x.f s (l.getD 0 AA.zero) (l.getD 1 AA.zero)))
 else if k=6 then Bj (C8 (Qp x.f s (l.getD 1 AA.zero) [Ue AE (l.getD 0 AA.zero)]))
 else if k=10 then Bj (C8 (al x.f s t (l.getD 0 AA.zero) (x.gl s t)))
 else if k=11 then Bj (O5 x.f t (l.getD 0 AA.zero) (x.sz s))
 else if k=12 then Bj (N2 x.f s c.toNat l)
 else if PZ x s (AE.getD 0 ⟨0,⟨#[]⟩,0,[]⟩)=I then Bj (C8 (OP x.f s (l.getD 0 AA.zero) (Xb k l) (Xc k l)))
 else Bj (C8 (Oc x.f s (l.getD 0 AA.zero) (Xb k l) (Xc k l)))
def Af.CC (x:Af)(s:Aa)(AE:List Nd):List Int:=Go.Proofs.YtegconioojpgmaaGreat.CC (x.Al s) s.By (I6 (JP x.d AE))
def Af.empty (x:Af)(s:Aa)(src:List Int):AA:=(Bf (if src=[]then 0 else AU (x.Al s) 50) (AU x.f.params.Gj (x.sz s)) 0 []).mark 1 src
mutual
def GU (x:Af)(s:Aa)(src:List Int):Nd->Option AA
 | ⟨_,_,_,AE⟩ =>
   if AE=[]then J (x.empty s src)
   else match Kb x s src 0 AE with
    | none=>E
    | some l=>match Bj (F9 l (x.CC s AE))with
      | none=>E
      | some b=>J (b.mark 1 src)
def Kb (x:Af)(s:Aa)(src:List Int)(i:Nat):List Nd->Option (List AA)
 | []=>J []
 | n::l=>match Fw x s (src++[(i:Int)]) n with
   | none=>E
   | some b=>match Kb x s src (i+1) l with
     | none=>E
     | some r=>J (b::r)
def Fw (x:Af)(s:Aa)(src:List Int):Nd->Option AA
 | ⟨k,t,c,AE⟩=>match Kh x s src k 0 AE with
   | none=>E
   | some l=>match Ji x s k t c AE l with
     | none=>E
     | some b=>J (b.mark 2 src)
def Kh (x:Af)(s:Aa)(src:List Int)(k:Int)(i:Nat):List Nd->Option (List AA)
 | []=>J []
 | n::l=>match GU x (GB k i s) (src++[(i:Int)]) n with
   | none=>E
   | some b=>match Kh x s src k (i+1) l with
     | none=>E
     | some r=>J (b::r)
end
@[simp] theorem En.AL8 (b:En):b.vs[2]?=J (.c (.bool b.dW)):=F
@[simp] theorem En.AL6 (b:En)(h:2<G b.vs):b.vs[2]'h=.c (.bool b.dW):=F
@[simp] theorem En.ACO (b:En):b.vs[3]?=J (.c (.bool b.str)):=F
@[simp] theorem En.ACI (b:En)(h:3<G b.vs):b.vs[3]'h=.c (.bool b.str):=F
@[simp] theorem En.AX1 (b:En):b.row[2]?=J (.bool b.dW):=F
@[simp] theorem En.AX2 (b:En):b.row[3]?=J (.bool b.str):=F
def Cm (x:Af)(m:Nat):List C:=x.f.row++[Cc x.d,.int .i64 100,.int .i64 100,.int .i64 x.f.params.script,.int .i64 x.f.params.Qr,.MA m,.Cv,.Cv,.EV 84,.EV 85,.EV 85,.EV 86,.EV 87,.EV 88,.EV 88,.EV 88,.EV 89,.EV 90,.EV 91]
def Bb (x:Af)(m:Nat):V:=.cp (Cm x m) 0
section
variable (x:Af) (m:Nat)
@[simp] theorem AdT:G (Cm x m)=41:=F
@[simp] theorem AdR:(Vf V.c (Cm x m)).take 22=x.f.vs:=F
@[simp] theorem AdS:Vf V.c ((Cm x m).take 22)=x.f.vs:=F
@[simp] theorem Ac7:(Cm x m)[2]?=J (.int .i64 x.f.params.Al):=F
@[simp] theorem Acl (h:2<G (Cm x m)):(Cm x m)[2]'h=.int .i64 x.f.params.Al:=F
@[simp] theorem AdE:(Cm x m)[3]?=J (.int .i64 x.f.params.Gj):=F
@[simp] theorem Acs (h:3<G (Cm x m)):(Cm x m)[3]'h=.int .i64 x.f.params.Gj:=F
@[simp] theorem AdP:(Cm x m)[4]?=J (.int .i64 x.f.params.FD):=F
@[simp] theorem Ac4 (h:4<G (Cm x m)):(Cm x m)[4]'h=.int .i64 x.f.params.FD:=F
@[simp] theorem Ac8:(Cm x m)[22]?=J (Cc x.d):=F
@[simp] theorem Acm (h:22<G (Cm x m)):(Cm x m)[22]'h=Cc x.d:=F
@[simp] theorem Ac9:(Cm x m)[23]?=J (.int .i64 100):=F
@[simp] theorem Acn (h:23<G (Cm x m)):(Cm x m)[23]'h=.int .i64 100:=F
@[simp] theorem AdA:(Cm x m)[24]?=J (.int .i64 100):=F
@[simp] theorem Aco (h:24<G (Cm x m)):(Cm x m)[24]'h=.int .i64 100:=F
@[simp] theorem AdB:(Cm x m)[25]?=J (.int .i64 x.f.params.script):=F
@[simp] theorem Acp (h:25<G (Cm x m)):(Cm x m)[25]'h=.int .i64 x.f.params.script:=F
@[simp] theorem AdC:(Cm x m)[26]?=J (.int .i64 x.f.params.Qr):=F
@[simp] theorem Acq (h:26<G (Cm x m)):(Cm x m)[26]'h=.int .i64 x.f.params.Qr:=F
@[simp] theorem AdD:(Cm x m)[27]?=J (.MA m):=F
@[simp] theorem Acr (h:27<G (Cm x m)):(Cm x m)[27]'h=.MA m:=F
@[simp] theorem AdF:(Cm x m)[30]?=J (.EV 84):=F
@[simp] theorem Acu (h:30<G (Cm x m)):(Cm x m)[30]'h=.EV 84:=F
@[simp] theorem AdG:(Cm x m)[31]?=J (.EV 85):=F
@[simp] theorem Acv (h:31<G (Cm x m)):(Cm x m)[31]'h=.EV 85:=F
@[simp] theorem AdH:(Cm x m)[32]?=J (.EV 85):=F
@[simp] theorem Acw (h:32<G (Cm x m)):(Cm x m)[32]'h=.EV 85:=F
@[simp] theorem AdI:(Cm x m)[33]?=J (.EV 86):=F
@[simp] theorem Acx (h:33<G (Cm x m)):(Cm x m)[33]'h=.EV 86:=F
@[simp] theorem AdJ:(Cm x m)[34]?=J (.EV 87):=F
@[simp] theorem Acy (h:34<G (Cm x m)):(Cm x m)[34]'h=.EV 87:=F
@[simp] theorem AdK:(Cm x m)[35]?=J (.EV 88):=F
@[simp] theorem Acz (h:35<G (Cm x m)):(Cm x m)[35]'h=.EV 88:=F
@[simp] theorem AdL:(Cm x m)[36]?=J (.EV 88):=F
@[simp] theorem Ac0 (h:36<G (Cm x m)):(Cm x m)[36]'h=.EV 88:=F
@[simp] theorem AdM:(Cm x m)[37]?=J (.EV 88):=F
@[simp] theorem Ac1 (h:37<G (Cm x m)):(Cm x m)[37]'h=.EV 88:=F
@[simp] theorem AdN:(Cm x m)[38]?=J (.EV 89):=F
@[simp] theorem Ac2 (h:38<G (Cm x m)):(Cm x m)[38]'h=.EV 89:=F
@[simp] theorem AdO:(Cm x m)[39]?=J (.EV 90):=F
@[simp] theorem Ac3 (h:39<G (Cm x m)):(Cm x m)[39]'h=.EV 90:=F
@[simp] theorem AdQ:(Cm x m)[40]?=J (.EV 91):=F
@[simp] theorem Ac5 (h:40<G (Cm x m)):(Cm x m)[40]'h=.EV 91:=F
end
theorem kW {s:Aa}(h:s.ok=I):s.By=0\/s.By=1\/s.By=2\/s.By=3:=by
 simp only[Aa.ok,Ak,Awe]at h;omega
theorem tE (x:Af)(m:Nat){s:Aa}(h:s.ok=I):(Cm x m)[23+s.By.toNat]?=J (.int .i64 (x.sz s)):=by
 obtain⟨l,c⟩:=s;rcases kW h with B|B|B|B
 all_goals
  simp only at B;subst B;simp[Af.sz,BS,h]
structure Af.Ok (x:Af):Prop where
 fit:x.f.Fit
 val:x.f.valid=I
 dl:G x.d<=300
 dv:Ll x.d=I
theorem tC (x:Af)(m:Nat)(n:Int)(s:Aa)(hs:s.ok=I):AC AF 92 [Bb x m,n,Aj s] (AU n (x.sz s):Int):=by
 have B:=tE x m hs;have R:=kW hs;have M:0<=s.By:=Ux;have Q:s.By<4:=Ux;unfold Bb Aj;refine en func92 ntmps92 ?_;exact wz (cj3 @B @M @Q results92) (cj (EI n (x.sz s))<|trivial)
def ko:List PanicEntry:=[⟨.iface 40 (.int .i64 6),U,U⟩]
def BP:Option AA->Out
 | some b=>.ret (Ao b)
 | none=>.HB ko
section
variable {P:Program} {K:Exit->St->Prop} {ops:List Oper} {s:St}
theorem SW.rp {B Q:Oper}{r:List Oper}{ty:TypeId}{y:Operand}{d:Nat}{k k0:IntKind}{n:Int}(Y5:P.underlying ty=J (.int k0))(h1:B.op=.makeInterface ty y)(hd:B.dst=J d)(h2:Q.op=.panic (.tmp d))(hg:BQ ops s.t B.guard=J I)(zK:Q.guard=E)(hy:ev s.t y=.c (.int k n))(Ls:d<G s.t)(h:K (.panic [⟨.iface ty (.int k n),U,U⟩]) (s.put (J d) .any)):SW P ops K (B::Q::r) s:=λS0 w0 x a w M=>by
 have hw:FB B (yielded ops.toArray a.tmps)=true:=by
  have:=KR (o:=B) M.tm (IF (ops:=ops) (K1:=True) (K2:=False) hg W);exact Kn λh=>this.2 h
 have q:=CW M.tm y;rw[hy]at q;simp only[CV,Ab]at q;have R:(execOp a.eval B).run P w=.ok (.value (.iface ty (.int k n))) w:=by simp[execOp,h1,q.1,Instr.makeInterface,run_underlying Y5]
 have Fb:Bo S0 w0 x (s.put (J d) .any) (a.put (J d) (.iface ty (.int k n))) w:=by
  have:=Bo.put M.tm M.df (Ext.refl x w) M.good (v:=.any) (u:=.iface ty (.int k n)) (by simp only[CV]) (J d);exact this
 have z:(a.put (J d) (.iface ty (.int k n))).eval (.tmp d)=.iface ty (.int k n):=by
  have hl:d<a.tmps.size:=by have:=M.tm.len;simp at this;omega
  simp[Act.put,Act.eval,hl]
 have S:(execOp (a.put (J d) (.iface ty (.int k n))).eval Q).run P w=.halt (.panic (.iface ty (.int k n))) w:=by simp[execOp,h2,z,Instr.panic,goPanic,Sem.run,Result.andThen]
 have A0:FB Q (yielded ops.toArray (a.put (J d) (.iface ty (.int k n))).tmps)=true:=by simp[FB,zK]
 unfold wpList;rw[Awd hw];refine .inl ?_;unfold Er;rw[R];show wpList P ops.toArray _ (Q::r) (a.put B.dst _) w;rw[hd];unfold wpList;rw[Awd A0];refine .inl ?_;unfold Er;rw[S];exact⟨x,_,Fb,h⟩
end
theorem Jl :AC AF 97 [Ao b,AR 0] (Ao b):=by
 unfold AR;simp only[As];refine en func97 ntmps97 ?_;exact wz results97 W
theorem LG (m:Nat)(R:Obj->Prop):AQ AF 97 [Ao b,AR 6] m R R (.HB ko):=by
 unfold AR;simp only[As];refine CH func97 ntmps97 ?_;refine qu (.mk 2) results97 trivial ⟨?_⟩;refine AW.DA ?_;refine CY (.mk 1) trivial ?_;exact SW.rp (Y5:=underlying40) rfl rfl rfl rfl rfl rfl (F2 F) ⟨rfl,rfl⟩
theorem ABr (x:Af)(m:Nat)(n:Nd)(s:Aa)(hx:x.Ok):AC AF 134 [Bb x m,Am n,Aj s] (.c (.bool (PZ x s n))):=by
 have hd:G x.d<=1000000:=by have:=hx.dl;omega
 obtain⟨k,t,c,AE⟩:=n;unfold Bb Aj;simp only[Am,Nd.vs,Nd.row,Ap,BB];by_cases B:s.By=0;by_cases Q:G AE=1;match AE,Q with
 | [⟨k',R,q,M⟩],_ =>
   simp only[Nd.AG,Nd.row];by_cases S:k'=2;subst S;have z:=AA8 x.d R hd;have e:PZ x s ⟨k,t,c,[⟨2,R,q,M⟩]⟩=(He x.d R).dW:=by simp[PZ,B]
   rw[e];unfold WH at z;refine en Aal AiT ?_;exact wz (cj @B<|ADD) (cj z<|trivial);have e:PZ x s ⟨k,t,c,[⟨k',R,q,M⟩]⟩=false:=by simp[PZ,S]
   rw[e];refine en Aal AiT ?_;exact wz (cj2 @B @S ADD) W
 have e:PZ x s ⟨k,t,c,AE⟩=false:=by
  unfold PZ;split;rename_i hk;simp only at hk;rw[hk]at Q;exact absurd rfl Q;rfl
 rw[e];have hl:=Pc AE;generalize Aw:Nd.AG AE=rs at hl ⊢;rw[<-hl]at Q;refine en Aal AiT ?_;exact wz (cj2 @B @Q ADD) W;have e:PZ x s ⟨k,t,c,AE⟩=false:=by
  unfold PZ;split<;>simp[B]
 rw[e];refine en Aal AiT ?_;exact wz (cj @B<|ADD) W
theorem APp (x:Af)(s:Aa)(name:ByteArray):(x.gl s name).AE=[]/\(x.gl s name).src=[]:=by
 unfold Af.gl DB;split<;>exact⟨F,F⟩
theorem AI0 {S0:BF}{w0:Bs}{x:Cx}{w:World}{H:Bx}{a:Act}{o:Oper}(g:Good S0 w0 x w H){y z:Operand}(Q:o.op=.lookup 127 y z I){k m:Nat}{s:ByteArray}{n:Int}{f:AP}{M:ByteArray->Int->Bool}{v:V}(R : .A7 [Ao (if M s n=I then(DB f s n).1 else AA.zero),.c (.bool (M s n))]=v)(S:CV x w (.c (.MA m)) (a.eval y))(q:CV x w (.agg [.c (.str s),.c (.int .i64 n)]) (a.eval z))(B:H k=J (.mp (Ci m (P0 f M)))) :
 BW AF o a S0 w0 x w H v none:=R ▸ AVK g Q S q B
theorem AKp (x:Af)(m:Nat)(name:ByteArray)(s:Aa)(z:x.Ok)(hs:s.ok=I):AQ AF 129 [Bb x m,.c (.str name),Aj s] m (BM x.f) (BM x.f) (.ret (Ao (x.gl s name))):=by
 have hz:=tE x m hs;have hl:=kW hs;have k0:0<=s.By:=Ux;have k1:s.By<4:=Ux;obtain⟨p1,p2⟩:=HE z.val hs;have q:=pn x.f name (x.sz s) z.fit.1;rw[show QC x.f name (x.sz s)=(x.gl s name,0)from by
  have:=(Pk z.val p1 p2 name).1;unfold QC Af.gl Af.sz;rw[Awd z.val,this]]at q
 have CD:=Jl (x.gl s name);obtain⟨gk,gs⟩:=APp x s name;have TQ:(DB x.f name (x.sz s)).1=x.gl s name:=F;generalize hB:x.gl s name=B at gk gs q CD TQ ⊢;simp only[Ba,AR,As]at q CD ⊢;refine AQ.AVk λM=>?_
 cases hM:M name (x.sz s)with
 | true =>
   refine AQ.mono (R:=P0 x.f M) (R':=P0 x.f M) ?_ (λ_ h=>h) λob h=>⟨M,h⟩
   unfold Bb Aj;refine CH func129 ntmps129 ?_;refine qu (.mk 2) (cj3 @hz @k0 @k1 ASz) trivial ⟨?_⟩;refine AW.Lm Fz (.inl F) ?_;refine TW.take 5 (Es (by simp;first|exact rfl|exact⟨F,F⟩|exact⟨F,F,F⟩) (HI ?_));simp only[CU,B9];refine TW.op ⟨.A7 [.agg B.vs,.c (.bool I)],E,J 0⟩ rfl (λ_ _ h=>by cases h) ?_ ?_;intro S0 w0 y w a H g Q S;exact AI0 (M:=M) (s:=name) (n:=x.sz s) (f:=x.f) g rfl (by rw[hM,Awd F,TQ];rfl) (Q (.tmp 23) (by simp[Bl])) (Q (.tmp 24) (by simp[Bl])) (S 0 F);simp only[St.step,St.put,Z7,Ai,Ag];refine TW.take 6 (Es (by simp;first|exact rfl|exact⟨F,F⟩|exact⟨F,F,F⟩) (HI (TW.nil ⟨ZC,?_⟩)));exact qz ASz W
 | false =>
   refine AQ.mono (R:=P0 x.f M) (R':=P0 x.f (fP M name (x.sz s))) ?_ (λ_ h=>h) λob h=>⟨_,h⟩
   unfold Bb Aj;refine CH func129 ntmps129 ?_;refine qu (.mk 2) (cj3 @hz @k0 @k1 ASz) trivial ⟨?_⟩;refine AW.Lm Fz (.inl F) ?_;refine TW.take 5 (Es (by simp;first|exact rfl|exact⟨F,F⟩|exact⟨F,F,F⟩) (HI ?_));simp only[CU,B9];refine TW.op ⟨.A7 [.agg AA.zero.vs,.c (.bool U)],E,J 0⟩ rfl (λ_ _ h=>by cases h) ?_ ?_;intro S0 w0 y w a H g Q S;exact AI0 (M:=M) (s:=name) (n:=x.sz s) (f:=x.f) g rfl (by rw[hM,Awf ZA];rfl) (Q (.tmp 23) (by simp[Bl])) (Q (.tmp 24) (by simp[Bl])) (S 0 F);simp only[St.step,St.put,Z7,Ai,Ag];refine TW.take 6 (Es (by simp;first|exact rfl|exact⟨F,F⟩|exact⟨F,F,F⟩) (HI (TW.nil ⟨ZC,?_⟩)));refine qu (.mk 5) ASz (cj2 q CD W) ⟨?_⟩;refine AW.Lm Fz (.inl F) ?_;refine TW.take 6 (Es (by simp;first|exact rfl|exact⟨F,F⟩|exact⟨F,F,F⟩) (HI ?_));simp only[CU,B9];refine TW.op ⟨.any,J (0,.mp (Ci m (P0 x.f (fP M name (x.sz s))))),J 0⟩ rfl (λk ob e=>by cases e;exact CI _) ?_ ?_;intro S0 w0 y w a H g Q S;have hb:=Q (.tmp 46) (by simp[Bl]);refine AVL (M:=M) (s:=name) (n:=x.sz s) (f:=x.f) g rfl (Q (.tmp 44) (by simp[Bl])) (Q (.tmp 45) (by simp[Bl])) ?_ hM (S 0 F);intro y' w';rw[TQ];exact AOg gk gs (b:=B) hb y' w';simp only[St.step,St.put,Ai,Ag,ALo];refine TW.nil ⟨ZC,?_⟩;exact qz ASz W
structure Xt (b:AA):Prop where
 v:b.Ad=I
 o:b.BX
 w:0<=b.w
theorem qA {x:Af}(B:x.Ok){s:Aa}(hs:s.ok=I){name:ByteArray}(Q:Ck name=I):Xt (x.gl s name)/\(x.gl s name).cnt=1:=by
 obtain⟨R,S⟩:=HE B.val hs;have M:name.size<=16:=by simp only[Ck,Ak,Awe]at Q;exact Q.2.2
 obtain⟨q,a2,a3⟩:=lQ B.val R S M;obtain⟨z,b2⟩:=ABp B.val R S Q (y:=0) ZB;rw[AKv B.val R S name]at z b2;have e:x.gl s name=(DB x.f name (BS x.f.params s)).1:=F;rw[e];exact⟨⟨ic z Ux Ux,q.BX,q.w1⟩,a3⟩
theorem AUQ {w h:Int}(Q:An w=I)(hh:An h=I)(M:0<=w):Xt (Bf w h 0 [])/\(Bf w h 0 []).cnt=1:=by
 refine⟨⟨ic ?_ (by simp[Bf,AA.cnt,AA.Az]) (by simp[Bf,AA.nest,AA.Hk]),⟨(CI _:0<=maxLen),(CI _:0<=maxLen),W⟩,M⟩,F⟩;have B:An 0=true:=ZB;simp[AA.D8,AA.FU,AA.Cl,AA.lens,AA.Fi,AA.Js,Bf,Q,hh,B,HT,I7]
theorem VN {x:Af}(B:x.Ok){s:Aa}(hs:s.ok=I):0<=x.Al s:=by
 obtain⟨M,Q⟩:=HE B.val hs;refine ew ?_ (by unfold Af.sz;omega);have:=B.val;simp[AP.valid,Qk,Params.lens,Params.SK,DX]at this;omega
theorem AOL {x:Af}(B:x.Ok){s:Aa}(hs:s.ok=I){c:UInt8}(Q:Dx c=I):Xt (x.RW s c)/\(x.RW s c).cnt=1:=by
 unfold Af.RW;split;have M:=VN B hs;have R:=DM (p:=25) (x.Al s) Ux Ux;refine AUQ ?_ ZB (ew M Ux);simp[An];omega;refine qA B hs ?_;simp[Ck,Q,ByteArray.size]
def Ht (l:List AA)(k:Nat):List V:=((l.take k).map AA.vs).flatten++(Aq (G l - k) BT).flatten
theorem iY {n:Nat}(h:n=G l):(Aq n BT).flatten=Ht l 0:=by subst h;simp[Ht]
theorem Xf :G b.vs=11:=by unfold AA.vs;rw[Ch,Nk]
theorem iZ (h:k<=G l):G (Ht l k)=G l*11:=by
 unfold Ht;rw[Cp,K7 (es:=11),K7 (es:=11)];simp only[Ch,Fa,H6,Vi h,<-Gz];congr 1
 omega;intro r B;rw[UA B];rfl;intro r B;obtain⟨q,_,rfl⟩:=Da.1 B;exact Xf q
theorem ia (h:k<G l):E8 (Ht l k) (k*11) (l[k]).vs=Ht l (k+1):=by
 have B:G (((l.take k).map AA.vs).flatten)=k*11:=by
  rw[K7 (es:=11)];simp only[Ch,Fa,Vi (LZ h)];intro r M;obtain⟨q,_,rfl⟩:=Da.1 M;exact Xf q
 have e:G l - k=(G l - (k+1))+1:=Ux;unfold Ht;rw[e,BY,Hp,<-GX,<-B,sK _ _ _ _ (by rw[Xf];rfl),UD h,Fm,Vd];simp
theorem P4 (l:List AA)(k:Nat):V.BI n (Ht l k)=true:=by
 rw[oy];intro v B;unfold Ht at B;rcases MJ.1 B with h|h
 obtain⟨r,M,B⟩:=gA.1 h;obtain⟨q,_,rfl⟩:=Da.1 M;obtain⟨c,_,rfl⟩:=Da.1 B;rfl;obtain⟨r,M,B⟩:=gA.1 h;rw[UA M]at B;simp only[BT,Cf,List.not_mem_nil,Awj]at B;rcases B with rfl|rfl|rfl|rfl|rfl|rfl|rfl|rfl|rfl|rfl|rfl<;>rfl
theorem lF : ∀l:List AA,AA.AG l=l.map AA.row
 | []=>rfl
 | b::l=>by simp only[AA.AG,Ap,lF l]
theorem wU :Ht l (G l)=(AA.AG l).flatten.map V.c:=by
 unfold Ht;rw[List.take_length,Nat.sub_self,Cy,RC,E5,<-WN,lF,List.map_map];rfl
theorem AEL :toCs (Ht l (G l))=J (AA.AG l).flatten:=by rw[wU,toCs_mapV]
theorem ox :Hc 11 (G l) (AA.AG l).flatten=AA.AG l:=by
 have:=bZ (es:=11) (AA.AG l) (by intro r B;rw[lF]at B;obtain⟨q,_,rfl⟩:=Da.1 B;exact Nk _);rwa [show G (AA.AG l)=G l by rw[lF,Ch]]at this
theorem AEM (row:List C)(l:List AA):V.Cs k row (Ht l (G l))=Ht l (G l):=by rw[wU,YN]
theorem SW.ub {P:Program}{K:Exit->St->Prop}{ops:List Oper}{s:St}{o:Oper}{r:List Oper}(v:V)(hg:BQ ops s.t o.guard=J I)(hR : ∀(S0:BF) (w0:Bs) (x:Cx) (a:Act) (w:World),Good S0 w0 x w (λk=>s.h[k]?)->AO x w s.t a.tmps.toList->vx P o a S0 w0 x w (λk=>s.h[k]?) v E)(h:SW P ops K r (s.step o.dst v E)):SW P ops K (o::r) s:=λS0 w0 x a w B=>by
 have hw:FB o (yielded ops.toArray a.tmps)=true:=by
  have:=KR (o:=o) B.tm (IF (ops:=ops) (K1:=True) (K2:=False) hg W);exact Kn λh=>this.2 h
 unfold wpList;rw[Awd hw];refine .inl ?_;obtain⟨nx,z,x',u,hr,EH,M,Q,R⟩:=hR x.S (w0.re w B.good.keep.size) x a w B.good.XR B.tm;obtain⟨Q,q⟩:=B.good.Sg R Q;unfold Er;rw[hr];rcases EH with rfl|⟨rfl,rfl⟩
 exact h S0 w0 x' _ z (Bo.put B.tm (B.df.mono q) R Q M o.dst);exact h S0 w0 x' _ z (Bo.put B.tm (B.df.mono q) R Q M o.dst)
theorem AKh (x:Af)(m:Nat)(c:UInt8)(s:Aa)(hx:x.Ok)(hs:s.ok=I):AQ AF 127 [Bb x m,.c (.str ⟨#[c]⟩),Aj s] m (BM x.f) (BM x.f) (.ret (Ao (x.RW s c))):=by
 by_cases M:c=32;subst M;have q:=tC x m x.f.params.Al s hs;have hS:=EI (AU x.f.params.Al (x.sz s)) 25;have R:=My (AU (AU x.f.params.Al (x.sz s)) 25) 0 0 [] trivial (by simp[AA.Az]);have e:x.RW s 32=Bf (AU (AU x.f.params.Al (x.sz s)) 25) 0 0 []:=F;rw[e];obtain⟨B,z⟩:=AI (Bf (AU (AU x.f.params.Al (x.sz s)) 25) 0 0 []);rw[z]at R ⊢;simp only[As,AA.AG]at R ⊢;unfold Bb Aj at *
 refine CH func127 ntmps127 ?_;exact qz eV (cj3 q hS R W);have e:x.RW s c=x.gl s ⟨#[c]⟩:=Awf M;have Q:=AKp x m ⟨#[c]⟩ s hx hs;rw[e];generalize z:x.gl s ⟨#[c]⟩=B at Q ⊢;simp only[As]at Q ⊢;have S : ¬(⟨#[c]⟩:ByteArray)=⟨#[32]⟩:=by
  intro h;injection h with h
  simp only[Array.mk.injEq,List.cons.injEq,and_true]at h;exact M h
 unfold Bb Aj at *
 refine CH func127 ntmps127 ?_;exact qz (cj @S<|eV) (cj Q<|trivial)
theorem AFU (t:ByteArray)(k:Nat)(h:k<t.size):t.extract k (k+1)=⟨#[t.data.toList[k]'(by rw[FW];exact h)]⟩:=by
 have B:k<G t.data.toList:=by rw[FW];exact h
 have e:(t.extract k (k+1)).data.toList=[t.data.toList[k]]:=by
  rw[ByteArray.data_extract,Array.toList_extract];simp only[List.extract_eq_take_drop];rw[D5 B];simp
 apply ByteArray.ext;apply Gx.1;rw[e]
theorem AEq (x:Af)(s:Aa)(t:ByteArray):G (x.Uc s t)=t.size:=by
 unfold Af.Uc;rw[Ch,FW];rfl
theorem AEr {x:Af}(R:x.Ok){s:Aa}(hs:s.ok=I){t:ByteArray}(Q:t.data.toList.all Dx=I):∀b∈x.Uc s t,Xt b/\b.cnt=1:=by
 intro b B;obtain⟨c,M,rfl⟩:=Da.1 B;exact AOL R hs (ES.1 Q c M)
theorem AI7 : ∀ {l:List AA},(∀b∈l,Xt b)->AA.FY l/\l.all AA.Ad=I
 | [],_=>⟨trivial,rfl⟩
 | b::l,h=>by
   obtain⟨M,Q⟩:=AI7 λc R=>h c (Gk _ R)
   have B:=h b GH;exact⟨⟨B.o,M⟩,by simp[B.v,Q]⟩
theorem wx {n:Nat} : ∀ {l:List AA},(∀b∈l,b.cnt<=n)->AA.Az l<=G l*n
 | [],_=>by simp[AA.Az]
 | b::l,h=>by
   have M:=wx λc B=>h c (Gk _ B)
   have Q:=h b GH;simp only[AA.Az,BA,Gz];omega
theorem sm {AE:List AA}{sp:List Int}(B:AE.all AA.Ad=I)(M:G sp=G AE)(hs:sp.all An=I):F9 AE sp=((Bj (F9 AE sp)).getD AA.zero,if (Bj (F9 AE sp)).isSome=I then 0 else 6):=by
 unfold F9;rw[Awf (by rw[B];simp),Awf (by rw[hs];simp[M])];unfold Tk;split;simp[Bj];simp[Bj]
theorem AKi (x:Af)(m:Nat)(t:ByteArray)(s:Aa)(hx:x.Ok)(hs:s.ok=I)(ht:t.data.toList.all Dx=I)(hn:t.size<=1000):AQ AF 130 [Bb x m,.c (.str t),Aj s] m (BM x.f) (BM x.f) (BP (x.Po s t)):=by
 have A5:=AEr hx hs ht;obtain⟨o1,o2⟩:=AI7 λb hb=>(A5 b hb).1
 have M:=AEq x s t;have FX:AA.Az (x.Uc s t)<=900000:=by
  have:=wx (n:=1) λb hb=>Nat.le_of_eq (A5 b hb).2
  omega
 have q:=kx (x.Uc s t) (Aq t.size 0) o1 FX Ux (by rw[H6];omega);have Tb:=sm (sp:=Aq t.size 0) o2 (by rw[H6,M]) (by rw[ES];intro i hi;rw[UA hi];decide);have Mj:x.Po s t=Bj (F9 (x.Uc s t) (Aq t.size 0)):=F;rw[<-Mj]at Tb;rw[Tb]at q;obtain⟨L,hL⟩:=AI (x.Uc s t);have Ir : ∀k (h:k<t.size) (h':k<G L),L[k]=x.RW s (t.data.toList[k]'(by rw[FW];exact h)):=by intro k h h';subst hL;simp[Af.Uc]
 rw[hL]at M q;unfold Bb Aj;refine CH func130 ntmps130 ?_;refine qy (cj @M<|AG7) trivial ⟨?_⟩;have e0:=iY L M.symm;simp only[BT]at e0;rw[e0];refine CX (ι:={ k:Nat // k<=t.size }) (λk=>[(14,(k.1:Int))]) (λk=>[O.mp (Ci m (BM x.f)),O.box 35 [s.By,.c (.bool s.Hd)] U,O.box 56 BT U,O.box 56 (Ht L k.1) U]) (λk=>t.size - k.1) ⟨0,CI _⟩ ?_ ?_;exact ER @BT.eq_1
 . rintro ⟨k,hk⟩;simp only at hk ⊢;by_cases Q:k<t.size;have hw:AZ.wrap ((k:Int)+1)=((k+1:Nat):Int):=by rw[Ac];simp
   have OC:k<G L:=Ux;have hc:=AKh x m (t.data.toList[k]'(by rw[FW];exact Q)) s hx hs;have A0:t.extract k (k+1)=⟨#[t.data.toList[k]'(by rw[FW];exact Q)]⟩:=AFU t k Q;have R:=ia L k OC;have Dz:k*11+11<=G (Ht L k):=by rw[iZ _ _ Ux];omega
   rw[Ir k Q OC]at R;obtain⟨c,hcc⟩:∃c,t.data.toList[k]'(by rw[FW];exact Q)=c:=⟨_,rfl⟩
   rw[hcc]at hc A0 R;generalize hB:x.RW s c=B at hc R;unfold Bb Aj at hc;simp only[As]at hc;have A1:k<=k+1:=Nat.le_succ k;have A2:k+1<=t.size:=Q;refine qy (cj7 @Q @hw @A0 @Dz @R @A1 @A2 AG7) (cj hc<|trivial) ⟨?_⟩;refine⟨⟨k+1,Ux⟩,by simp only;omega,?_⟩;exact ER @BT.eq_1
   . obtain rfl:k=t.size:=Ux;refine qu (.mk 7) AG7 trivial ⟨?_⟩;rw[<-M]at q ⊢;refine AW.Bi 3 rfl (AEL L) (by simp[V.Cs,V.Bi,ox];exact rfl) (by simp[O.Bi,V.Cs,V.Bi,ox,AEM,BT];exact rfl) ?_;refine AW.DA ?_;refine CY (.mk 3) trivial ?_;refine SW.ub (.Bg (Aq (G L) [.int .i64 0])) rfl ?_ ?_;intro S0 w0 y w a g ht;have h1:=CW ht (.tmp 31);have dI:Dk AF 39=J (3,1,8):=ZA;have A3:C2 AF 3=J [.c (.int .i64 0)]:=ZA;exact AIy g rfl dI h1 h1 A3 rfl Ux Ux Ux;simp only[St.step,St.put,Z7,Ai,Ag];cases hq:x.Po s t with
     | some b =>
       have z:=Jl b;rw[hq]at q;simp only[Dm,IZ,Awg,Ba,AR,As,AV,uR]at q z;simp only[BP,As];refine SW.take 5 (AH.out ?_);simp only[DP,ET];have S:=(AG7)
       repeat any_goals (first|refine Eo ?_|exact Bt S|refine De S ?_|refine BV S (q) ?_|refine BV S (z) ?_|refine DI S ?_)
       simp only[CU,B9];refine SW.nil ?_;exact qz (cj2 @BP.eq_1 @BP.eq_2 AG7) W
     | none =>
       have z:=LG AA.zero m (BM x.f);rw[hq]at q;simp only[Hr,H8,GW,Awh,Ba,AR,As,AV,uR]at q z;simp only[BP,As];refine SW.take 3 (AH.out ?_);simp only[DP,ET];have S:=(AG7)
       repeat any_goals (first|refine Eo ?_|exact Bt S|refine De S ?_|refine BV S (q) ?_|refine DI S ?_)
       simp only[CU,B9];refine SW.AEd 0 z ZC (by simp[BQ]) (by simp[C7];first|exact rfl|exact⟨F,F⟩) (by simp[V.CF,V.CP]) rfl ⟨rfl,rfl⟩
theorem AGf {y:ByteArray} : ∀ {l:List ByteArray},y∈l->KX y l=I
 | z::l,h=>by
   simp only[KX];split;rfl;rename_i B;rcases Cf.1 h with rfl|h
   exact absurd rfl B;exact AGf h
theorem AAu {x:Af}(Q:x.Ok)(s:Aa){t:ByteArray}(hn:Ck t=I):KH x.f t (x.Mw s t)=I/\Ck (x.Mw s t).Ln=I/\(x.Mw s t).Jo=0:=by
 unfold KH Af.Mw;cases M:x.f.I8 t with
 | none=>simp[hn]
 | some st =>
   have q:=(Se M).1;have g1:=(QG Q.val q).AKw;have h:=Z9 Q.val st q;simp only[Oh,Ak]at h;have B:(if s.By=0/\2<=G st.sizes then 1 else 0)<G st.sizes:=by split<;>omega
   obtain⟨i,R⟩:=AI ((if s.By=0/\2<=G st.sizes then 1 else 0));rw[R]at B;have z:st.sizes.getD i ⟨#[]⟩=st.sizes[i]:=by simp[mS,B]
   have S:st.sizes[i]∈st.sizes:=Kq B;simp only[R,z];refine⟨?_,ABq Q.val _ _ h.2.1 _ S,W⟩;simp only[Awg];exact AGf S
theorem AVX {x:Af}(B:x.Ok){s:Aa}(hs:s.ok=I){t:ByteArray}(S:Ck t=I):K5 x.f t (x.Mw s t) (x.sz s)=(x.gl s (x.Mw s t).Ln,0):=by
 obtain⟨z,p2⟩:=HE B.val hs;obtain⟨M,q,Q⟩:=AAu B s S;have R:JF x.f (x.sz s)=0:=by unfold JF Af.sz;rw[Awf (by simp[B.val]),Awf Ux]
 unfold K5;rw[Awf (by simp[R]),Awf (by simp[M]),Awd Q];rfl
theorem AOI {b:AA}{a:Int}(hb:Xt b)(S : -200000<=b.h/\b.h<=200000)(q : -200000<=b.d/\b.d<=200000)(z : -1000000<=a/\a<=1000000):∃c,KS b a=(c,0)/\Xt c/\c.cnt=b.cnt:=by
 have hh:=J6 (b.h - b.d);have R : -200001<=Bm (b.h - b.d)/\Bm (b.h - b.d)<=200001:=by
  unfold Bm Ea;repeat' split
  all_goals omega
 have M:An a=true:=Mp Ux Ux;have Q:An (b.h - b.d)=true:=Mp Ux Ux;have B:An (a - Bm (b.h - b.d))=true:=Mp Ux Ux;refine⟨b.AS b.x (a - Bm (b.h - b.d)),?_,⟨?_,F4 _ _ hb.o,hb.w⟩,Hb _ _ _⟩;unfold KS;rw[Awf (by simp[hb.v]),Awf (by simp[M,Q]),Awf (by simp[B])];rw[AEE hb.v];exact B
theorem APq {x:Af}(B:x.Ok){s:Aa}(hs:s.ok=I)(name:ByteArray):(-200000<=(x.gl s name).h/\(x.gl s name).h<=200000)/\(-200000<=(x.gl s name).d/\(x.gl s name).d<=200000):=by
 obtain⟨M,Q⟩:=HE B.val hs;have R:=Zv B.val M Q name;have e:x.gl s name=(DB x.f name (BS x.f.params s)).1:=F;rw[e,(Pk B.val M Q name).1];simp only[N7];omega
theorem AY3 (x:Af)(m:Nat)(t:ByteArray)(s:Aa)(z:x.Ok)(hs:s.ok=I)(hn:Ck t=I):AQ AF 126 [Bb x m,.c (.str t),Aj s] m (BM x.f) (BM x.f) (BP (x.VI s t)):=by
 obtain⟨h1,h2,h3⟩:=AAu z s hn;have hz:=tE x m hs;have hl:=kW hs;have k0:0<=s.By:=Ux;have k1:s.By<4:=Ux;have R:=T7 x.f t z.fit z.val;have Ct:=AaE tU x.f t (x.Mw s t) (x.sz s) z.fit;rw[AVX z hs hn]at Ct;have A0:=tC x m x.f.params.FD s hs;obtain⟨g1,g2⟩:=qA z hs h2;obtain⟨d1,d2⟩:=APq z hs (x.Mw s t).Ln;obtain⟨p1,p2⟩:=HE z.val hs;have ab:0<=AU x.f.params.FD (x.sz s)/\AU x.f.params.FD (x.sz s)<=20001:=AEI z.val p1 p2;obtain⟨c,e1,e2,e3⟩:=AOI g1 d1 d2 (a:=AU x.f.params.FD (x.sz s)) Ux;have S:=AJT (x.gl s (x.Mw s t).Ln) (AU x.f.params.FD (x.sz s)) g1.o Ux;rw[e1]at S;have hR:x.VI s t=Bj (F9 [c] [0]):=by unfold Af.VI;rw[e1];rfl
 have Q:=kx [c] [0] ⟨e2.o,trivial⟩ (by simp only[AA.Az];omega) ZA ZA;have Tb:=sm (AE:=[c]) (sp:=[0]) (by simp[e2.v]) rfl ZB;rw[<-hR]at Tb;rw[Tb]at Q;have Ew:=Jl (x.gl s (x.Mw s t).Ln);have FP:=Jl c;obtain⟨G,hG⟩:=AI (x.gl s (x.Mw s t).Ln);rw[hG]at Ct S Ew;generalize ho:x.VI s t=o at Q ⊢;have A1:(x.Mw s t)=⟨(x.Mw s t).Ln,0⟩:=by rw[<-h3]
 obtain⟨gn,Ro⟩:=AI ((x.Mw s t).Ln);rw[Ro]at A1;rw[A1]at Ct;have M:gn=match x.f.I8 t with
  | none=>t
  | some st=>st.sizes.getD (if s.By=0/\2<=st.sizes.length then 1 else 0) ⟨#[]⟩:=by
  rw[<-Ro];unfold Af.Mw;cases x.f.I8 t<;>rfl
 clear A1 Ro h1 h2 h3 hG hR Tb e1 g1 g2 d1 d2;simp only[N4,Ba,AR,As,AA.AG,AV,Ap,BB]at Ct S Q Ew FP;unfold Bb Aj at *
 cases VB:x.f.I8 t with
 | none =>
   rw[VB]at R M;simp only at M;subst M;simp only[NK,IU,Bc.row,Bc.zero,Hr,H8,Ap,BB]at R;refine CH UG Xp ?_;have B:=(cj3 @hz @k0 @k1 Xq)
   repeat any_goals (first|refine lT (.mk 10) ?_|exact ZX B|refine Zs B ?_|refine F5 B (R) ?_|refine F5 B (Ct) ?_|refine F5 B (Ew) ?_|refine F5 B (A0) ?_|refine F5 B (S) ?_|refine F5 B (FP) ?_|refine DI B ?_|((first|refine X9 B ?_ ?_|refine bQ B ?_ ?_|refine bO B ?_ ?_|refine bP B ?_ ?_)<;>intro h<;>try (exfalso;first|omega|contradiction)))
   cases o with
   | some b=>have GO:=Jl b;simp only[Dm,IZ,Awg,AR,As]at Q GO;simp only[BP,As];exact qz Xq (cj2 Q GO W)
   | none=>have GO:=LG AA.zero m (BM x.f);simp only[Hr,H8,GW,Awh,AR,As]at Q GO;simp only[BP];exact qz Xq (cj2 Q GO W)
 | some st =>
   have A2:=(Se VB).1;have z1:=(QG z.val A2).AKw;rw[VB]at R M;simp only at M;simp only[NK,IU,Bc.row,Dm,IZ,Ap,BB]at R;have DJ:Gv st.sizes=.sl (st.sizes.map λn=>[.str n]):=F;obtain⟨rs,Aw⟩:=AI ((st.sizes.map λn=>[C.str n]));have Av:rs.length=st.sizes.length:=by rw[<-Aw,Ch]
   rw[DJ,Aw]at R;have Jh:0<rs.length:=Ux;have Ir : ∀i (h:i<st.sizes.length),rs[i]?=J [.str (st.sizes.getD i ⟨#[]⟩)]:=by
    intro i h;rw[<-Aw];simp[mS,h]
   by_cases c1:s.By=0
   . have pC:=Awn c1;by_cases c2:2<=st.sizes.length
     . rw[Awd ⟨c1,c2⟩]at M;have q:=Ir 1 Ux;rw[<-M]at q;have jo:=gx q;have c3:1<rs.length:=Ux;have c4:(2:Int)<=(rs.length:Int):=Ux;refine CH UG Xp ?_;have B:=(cj8 @hz @k0 @k1 @pC @c3 @c4 @q @jo Xq)
       repeat any_goals (first|refine lT (.mk 10) ?_|exact ZX B|refine Zs B ?_|refine F5 B (R) ?_|refine F5 B (Ct) ?_|refine F5 B (Ew) ?_|refine F5 B (A0) ?_|refine F5 B (S) ?_|refine F5 B (FP) ?_|refine DI B ?_|((first|refine X9 B ?_ ?_|refine bQ B ?_ ?_|refine bO B ?_ ?_|refine bP B ?_ ?_)<;>intro h<;>try (exfalso;first|omega|contradiction)))
       cases o with
       | some b=>have GO:=Jl b;simp only[Dm,IZ,Awg,AR,As]at Q GO;simp only[BP,As];exact qz Xq (cj2 Q GO W)
       | none=>have GO:=LG AA.zero m (BM x.f);simp only[Hr,H8,GW,Awh,AR,As]at Q GO;simp only[BP];exact qz Xq (cj2 Q GO W)
     . rw[Awf (λh=>c2 h.2)]at M;have q:=Ir 0 Ux;rw[<-M]at q;have jo:=gx q;have c4 : ¬(2:Int)<=(rs.length:Int):=Ux;refine CH UG Xp ?_;have B:=(cj8 @hz @k0 @k1 @pC @Jh @c4 @q @jo Xq)
       repeat any_goals (first|refine lT (.mk 10) ?_|exact ZX B|refine Zs B ?_|refine F5 B (R) ?_|refine F5 B (Ct) ?_|refine F5 B (Ew) ?_|refine F5 B (A0) ?_|refine F5 B (S) ?_|refine F5 B (FP) ?_|refine DI B ?_|((first|refine X9 B ?_ ?_|refine bQ B ?_ ?_|refine bO B ?_ ?_|refine bP B ?_ ?_)<;>intro h<;>try (exfalso;first|omega|contradiction)))
       cases o with
       | some b=>have GO:=Jl b;simp only[Dm,IZ,Awg,AR,As]at Q GO;simp only[BP,As];exact qz Xq (cj2 Q GO W)
       | none=>have GO:=LG AA.zero m (BM x.f);simp only[Hr,H8,GW,Awh,AR,As]at Q GO;simp only[BP];exact qz Xq (cj2 Q GO W)
   . have pC:=c1;rw[Awf (λh=>c1 h.1)]at M;have q:=Ir 0 Ux;rw[<-M]at q;have jo:=gx q;refine CH UG Xp ?_;have B:=(cj7 @hz @k0 @k1 @pC @Jh @q @jo Xq)
     repeat any_goals (first|refine lT (.mk 10) ?_|exact ZX B|refine Zs B ?_|refine F5 B (R) ?_|refine F5 B (Ct) ?_|refine F5 B (Ew) ?_|refine F5 B (A0) ?_|refine F5 B (S) ?_|refine F5 B (FP) ?_|refine DI B ?_|((first|refine X9 B ?_ ?_|refine bQ B ?_ ?_|refine bO B ?_ ?_|refine bP B ?_ ?_)<;>intro h<;>try (exfalso;first|omega|contradiction)))
     cases o with
     | some b=>have GO:=Jl b;simp only[Dm,IZ,Awg,AR,As]at Q GO;simp only[BP,As];exact qz Xq (cj2 Q GO W)
     | none=>have GO:=LG AA.zero m (BM x.f);simp only[Hr,H8,GW,Awh,AR,As]at Q GO;simp only[BP];exact qz Xq (cj2 Q GO W)
theorem Aje (f:AP)(s:Aa)(hv:f.valid=I)(ho:s.ok=I):AC AF 235 [.agg f.vs,Aj s] (LJ f s:Int):=by
 have B:=Jp f s f.params.rule;have M:=Jp f s f.params.Gj;have A5:=AKM (b:=AA.zero) hv ho;obtain⟨p1,p2,r1,r2,_,_,_,_,_⟩:=A5;have S:LJ f s=if s.By=0 then Hl f s+AU (AU f.params.Gj (F1 f s)) 25 else Hl f s+AU (Hl f s) 25:=F
 have e1:AU f.params.rule (BS f.params s)=Hl f s:=F;have e2:AU f.params.Gj (BS f.params s)=AU f.params.Gj (F1 f s):=F;rw[e1]at B;rw[e2]at M;obtain⟨X,z⟩:=AI (AU f.params.Gj (F1 f s));obtain⟨R,q⟩:=AI (Hl f s);rw[z]at M;rw[q]at B r1 r2;rw[z,q]at S;rw[S];have h3:=AYA X 25;have h4:=AYA R 25;have b3:=DM (p:=25) X Ux Ux;have b4:=DM (p:=25) R Ux Ux;have w3:AZ.wrap (R+AU X 25)=R+AU X 25:=Ac;have w4:AZ.wrap (R+AU R 25)=R+AU R 25:=Ac;unfold Aj at B M ⊢;by_cases Q:s.By=0;rw[Awd Q];have JJ:s.By=0↔True:=Awn Q;refine en AcP ntmps235 ?_;refine Ah ?_;refine BZ (B) vT ?_;refine go @JJ ?_;refine BZ (M) vT ?_;refine gc @w3 (h3) ALN ?_;refine Ah ?_;exact At results235;rw[Awf Q];refine en AcP ntmps235 ?_;refine Ah ?_;refine BZ (B) vT ?_;refine go @Q ?_;refine gc @w4 (h4) ALN ?_;refine Ah ?_;exact At results235
theorem Aji (f:AP)(s:Aa)(b:AA)(S:f.valid=I)(Q:s.ok=I)(hb:b.Ad=I):AC AF 237 [.agg f.vs,Aj s,Ao b] (Jm f s b:Int):=by
 have B:=Jp f s f.params.rule;have M:=Aje f s S Q;obtain⟨p1,p2,r1,r2,l1,l2,_,_,_⟩:=AKM (b:=b) S Q;obtain⟨b1,b2,b3,_⟩:=D3 hb;have hN:Jm f s b=b.h+b.d+LJ f s+Hl f s:=F;have q:AU f.params.rule (BS f.params s)=Hl f s:=F;rw[q]at B;rw[hN];obtain⟨R,hR⟩:=AI (Hl f s);obtain⟨L,z⟩:=AI (LJ f s);rw[hR]at B r1 r2 ⊢;rw[z]at M l1 l2 ⊢;have w1:AZ.wrap (b.h+b.d)=b.h+b.d:=Ac;have w2:AZ.wrap (b.h+b.d+L)=b.h+b.d+L:=Ac;have w3:AZ.wrap (b.h+b.d+L+R)=b.h+b.d+L+R:=Ac;unfold Aj at B M ⊢;rw[As];refine en func237 ntmps237 ?_;refine go @w1 ?_;refine gc @w2 (M) AcP ?_;refine gc @w3 (B) vT ?_;refine Ah ?_;exact At results237
theorem AnY (f:AP)(s:Aa)(b:AA)(z:f.Fit)(hz : ∀s∈f.C5,G s.sizes<=1000)(hv:f.valid=I)(ho:s.ok=I)(hb:b.Ad=I):AC AF 236 [.agg f.vs,Aj s,Ao b] (Ao (EZ f s b)):=by
 have M:=Aji f s b hv ho hb;have Q:=x7 f s;have B:=Ajd f Nj (Jm f s b) (F1 f s) z hz;have e:BS f.params s=F1 f s:=F;rw[e]at Q;have R:(Hv f Nj (Jm f s b) (F1 f s)).1=EZ f s b:=F;generalize hq:Hv f Nj (Jm f s b) (F1 f s)=q at B R;rw[<-R];obtain⟨S,e⟩:=q;simp only[Ba,As,AR]at B M ⊢;unfold Aj at M Q ⊢;unfold Nj at B;refine en func236 ntmps236 ?_;refine Ah ?_;refine BZ (M) func237 ?_;refine BZ (Q) func80 ?_;refine BZ (B) ns ?_;refine Ah ?_;exact At results236
def AAB (o:Option AA):V:=.A7 [.agg (o.getD AA.zero).vs,.c (.bool o.isSome)]
theorem Ajr : ∀(m:Nat) (b:AA),UF b<m->AC AF 280 [Ao b] (AAB b.simp)
 | 0,b,h=>absurd h Ux
 | m+1,⟨k,n,s,w,h,d,x,y,AE,o,src⟩,hm=>by
   rw[AYe];unfold AAB;simp only[Ao,AA.row,Ap,BB];by_cases B:k=1;have Jc:k=1↔True:=Awn B;rw[Awd B];simp only[Dm,IZ,AA.vs,AA.row,Ap,BB];refine en vU ACm ?_;exact wz (cj2 @Jc @AR.eq_1 ADK) W;rw[Awf B];by_cases q:k=3;have S:k=3↔True:=Awn q;rw[Awd q];match AE,hm with
   | [],_=>simp only[AA.VW,AA.AG,Hr,H8];refine en vU ACm ?_;exact wz (cj4 @B @S @Fl @AR.eq_1 ADK) W
   | [⟨k2,n2,s2,w2,h2,d2,x2,y2,M,o2,R⟩],hm =>
     simp only[AA.VW,AA.AG];by_cases z:x2=0;have ON:x2=0↔True:=Awn z;by_cases hy:y2=0;have Wu:y2=0↔True:=Awn hy;rw[Awd ⟨z,hy⟩];have ih:=Ajr m ⟨k2,n2,s2,w2,h2,d2,x2,y2,M,o2,R⟩ (by simp only[AA.mk.sizeOf_spec,List.cons.sizeOf_spec]at hm ⊢;omega);generalize hQ:AA.simp ⟨k2,n2,s2,w2,h2,d2,x2,y2,M,o2,R⟩=Q at ih ⊢;unfold AAB at ih;generalize hG:Q.getD AA.zero=G at ih ⊢;simp only[Ao,AA.row,Ap,BB]at ih ⊢;refine en vU ACm ?_;exact wz (cj5 @B @S @ON @Wu @AR.eq_1 ADK) (cj ih<|trivial);rw[Awf (λh=>hy h.2)];simp only[AA.row,Hr,H8];refine en vU ACm ?_;exact wz (cj6 @B @S @ON @hy @Fl @AR.eq_1 ADK) W;rw[Awf (λh=>z h.1)];simp only[AA.row,Hr,H8];refine en vU ACm ?_;exact wz (cj5 @B @S @z @Fl @AR.eq_1 ADK) W
   | c::c2::l,_=>have hl : ¬(AA.AG l).length+1+1=1:=Ux;have A0 : ¬((AA.AG l).length:Int)+1+1=1:=Ux;simp only[AA.VW,AA.AG,Hr,H8];refine en vU ACm ?_;exact wz (cj6 @B @S @hl @A0 @Fl @AR.eq_1 ADK) W
   rw[Awf q];simp only[Hr,H8];refine en vU ACm ?_;exact wz (cj4 @B @q @Fl @AR.eq_1 ADK) W
theorem AYO :AC AF 280 [Ao b] (AAB b.simp):=Ajr (UF b+1) b Ux
theorem Aj0 (f:AP)(s:Aa)(p:Int)(S:0<=p/\p<=100)(q:f.valid=I)(R:s.ok=I):AC AF 301 [.agg f.vs,Aj s,p] (AU (M1 f s) p:Int):=by
 obtain⟨p1,z⟩:=HE q R;have M:=Jp f s f.params.Gj;have B:=DM (p:=BS f.params s) f.params.Gj Ux z;rw[show AU f.params.Gj (BS f.params s)=M1 f s from rfl]at M B;have Q:=ee (p:=p) B.1 B.2 S.1 Ux;unfold Aj at *
 refine en func301 ntmps301 ?_;exact wz (cj @AR.eq_1<|results301) (cj2 M Q W)
theorem AYM (f:AP)(b:AA)(hf:f.Fit)(hv:f.valid=I)(hb:b.Ad=I):AC AF 283 [.agg f.vs,Ao b] (F8 f b:Int):=by
 have B:=AYO b;have q:F8 f b=match b.simp with|some g=>mx 0 (AU (f.pick g.name).Ey g.size)|none=>0:=F
 rw[q];rw[As]at *
 unfold AAB at B;cases z:b.simp with
 | none=>rw[z]at B;simp only[Hr,H8]at B;refine en AQg ARO ?_;exact wz (cj2 @AR.eq_1 @Fl ABj) (cj B<|trivial)
 | some g=>obtain⟨z1,z2⟩:=tA hb z;rw[z]at B;simp only[Dm,IZ]at B;have R:=AP2 f g.name hf.1;have A0:=Ql hv g.name;unfold BG.Small at A0;have Q:=ee (n:=(f.pick g.name).Ey) (p:=g.size) Ux Ux Ux Ux;have S:(if 0<AU (f.pick g.name).Ey g.size then AU (f.pick g.name).Ey g.size else 0)=mx 0 (AU (f.pick g.name).Ey g.size):=F;simp only;generalize hM:mx 0 (AU (f.pick g.name).Ey g.size)=M at S ⊢;obtain⟨k,n,sz,w,h,d,x,y,AE,o,src⟩:=g;simp only at R Q S;generalize hG:f.pick n=G at R Q S;simp only[AA.vs,AA.row,Ap,BB]at B;simp only[Hg,BG.row,Ap,BB]at R;refine en AQg ARO ?_;exact wz (cj2 @AR.eq_1 @S ABj) (cj3 B R Q W)
theorem Anr {s:Aa}(M:s.ok=I):XW 8 1 s=(Kf s,0)/\(Kf s).ok=true:=by
 have B:s.By=0\/s.By=1\/s.By=2\/s.By=3:=by simp[Aa.ok]at M;omega
 refine⟨?_,?_⟩;unfold XW;rw[Awf (by simp[M,H2]),Awf (by simp[H2])];rfl;unfold Kf GB;obtain⟨l,c⟩:=s;simp only at B;rcases B with rfl|rfl|rfl|rfl<;>simp[Aa.ok,VU]
theorem AP3 (f:AP)(s:Aa)(b:AA)(sub sup:List AA)(hv:f.valid=I)(ho:s.ok=I)(hb:b.Ad=I)(l1:G sub<=1)(l2:G sup<=1)(h1 : ∀c∈sub,c.Ad=I)(h2 : ∀c∈sup,c.Ad=I) :
 AC AF 285 [.agg f.vs,Aj s,Ao b,.c (.sl (AA.AG sub)),.c (.sl (AA.AG sup))] (.A7 [.c (.int .i64 (Ez f s b sub sup).1),.c (.int .i64 (Ez f s b sub sup).2)]):=by
 obtain⟨p1,p2⟩:=HE hv ho;obtain⟨bw,bh,bd,bc⟩:=D3 hb;obtain⟨e8,rz⟩:=Anr ho;obtain⟨q1,q2⟩:=HE hv rz;have Tc:=AYO b;have DJ:=Ajt 8 1 s;rw[e8]at DJ;have cQ:Qs f s b=if b.simp.isSome then 0 else b.h - AU f.params.Q5 (BS f.params (Kf s)):=F
 have cR:Od f s b=if b.simp.isSome then 0 else b.d+AU f.params.Qz (BS f.params (Kf s)):=F
 have wV:=DM (p:=BS f.params (Kf s)) f.params.Q5 Ux q2;have wW:=DM (p:=BS f.params (Kf s)) f.params.Qz Ux q2;have bU : -2147483648<=Qs f s b/\Qs f s b<=2147483648:=by rw[cQ];split<;>omega
 have bV : -2147483648<=Od f s b/\Od f s b<=2147483648:=by rw[cR];split<;>omega
 have bR:=DM (p:=BS f.params s) (XO f.params s) Ux p2;have wS:=DM (p:=BS f.params s) f.params.Qx Ux p2;have wT:=DM (p:=BS f.params s) f.params.Qy Ux p2;have wR:=DM (p:=BS f.params s) f.params.rule Ux p2;have iX:=DM (p:=25) (M1 f s) Ux Ux;have wP:=DM (p:=80) (M1 f s) Ux Ux;have z:=Aj0 f s 25 Ux hv ho;have A0:=Aj0 f s 80 Ux hv ho;have kF:=Jp f (Kf s) f.params.Q5;have Iq:=Jp f (Kf s) f.params.Qz;have cM:=Jp f s (XO f.params s);have cO:=Jp f s f.params.Qx;have YX:=Jp f s f.params.Qy;have jV:=Jp f s f.params.rule;have dU : ∀c l,H0 f s b (c::l)=mx (mx (Qs f s b) (AU (XO f.params s) (BS f.params s))) (c.d+AU (M1 f s) 25):=λ_ _=>rfl
 have YF:Nm f s b=mx (Od f s b) (AU f.params.Qy (BS f.params s)):=F;have dL:Sb f s=4*AU f.params.rule (BS f.params s):=F;have iq : ∀c l,Ez f s b (c::l) []=(Qs f s b,mx (mx (Od f s b) (AU f.params.Qx (BS f.params s))) (c.h - AU (M1 f s) 80)):=λ_ _=>rfl
 have pU:Ez f s b [] []=(Qs f s b,Od f s b):=F;have xG : ∀c l,Ez f s b [] (c::l)=(H0 f s b (c::l),Od f s b):=λ_ _=>rfl
 have pV : ∀c d,Ez f s b [c] [d]=if H0 f s b [d] - d.d - (c.h - Nm f s b)<Sb f s then(if 0<AU (M1 f s) 80 - (H0 f s b [d] - d.d)then(H0 f s b [d]+(AU (M1 f s) 80 - (H0 f s b [d] - d.d)),Nm f s b+(Sb f s - (H0 f s b [d] - d.d - (c.h - Nm f s b))) - (AU (M1 f s) 80 - (H0 f s b [d] - d.d)))else(H0 f s b [d],Nm f s b+(Sb f s - (H0 f s b [d] - d.d - (c.h - Nm f s b)))))else(H0 f s b [d],Nm f s b):=λ_ _=>rfl
 have mi:XO f.params s=if s.Hd=I then f.params.Z0 else if s.By=0 then f.params.Zy else f.params.Zz:=F
 obtain⟨A8,B⟩:=AI (Ez f s b sub sup);rw[B];obtain⟨T,hT⟩:=AI (Kf s);rw[hT]at DJ cQ cR wV wW kF Iq q1 q2;obtain⟨iJ,xN⟩:=AI (AU (M1 f s) 25);obtain⟨oK,pg⟩:=AI (AU (M1 f s) 80);obtain⟨R,xR⟩:=AI (Qs f s b);obtain⟨q,ph⟩:=AI (Od f s b);obtain⟨S,xP⟩:=AI (AU (XO f.params s) (BS f.params s));obtain⟨S1,xQ⟩:=AI (AU f.params.Qx (BS f.params s));obtain⟨S2,A3⟩:=AI (AU f.params.Qy (BS f.params s));obtain⟨RU,A2⟩:=AI (AU f.params.rule (BS f.params s));obtain⟨V2,xS⟩:=AI (Nm f s b);obtain⟨LS,xO⟩:=AI (Sb f s);rw[xN]at iX z;rw[pg]at wP A0;rw[xR]at cQ bU pU;rw[ph]at cR bV pU YF;rw[xP]at bR cM;rw[xQ]at wS cO;rw[A3]at wT YX YF;rw[A2]at wR jV dL;rw[xS]at YF;rw[xO]at dL;simp only[xR,xN,xP,ph,xQ,pg]at dU iq;simp only[pg,xS,xO]at pV;simp only[ph]at xG;obtain⟨K3,A5⟩:=AI (XO f.params s);rw[A5]at cM mi;have B0 : -2147483648<=V2/\V2<=2147483648:=by rw[YF,DU];omega
 have bL : -4294967296<=LS/\LS<=4294967296:=Ux;clear hT xN pg xR ph xP xQ A3 A2 xS xO hb ho hv e8 rz A5;rw[As]at *
 unfold Aj Zx AAB at *
 simp only[Aj,AR]at DJ;obtain⟨B1,HP⟩:=AI (AA.AG sub);obtain⟨ei,G9⟩:=AI (AA.AG sup);rw[HP,G9];generalize b.simp=Q at Tc cQ cR;refine en func285 ntmps285 ?_;refine wu (.mk 3) (cj @AR.eq_1<|ASH) (cj Tc<|trivial) ⟨?_⟩;refine Ah ?_;refine jn (λ_:Unit=>[(12,.c (.int .i64 R)),(13,.c (.int .i64 q))]) ?_ ?_;all_goals simp only[CG,Bw,CO,Ag,Ai]
 cases Q with
 | some g =>
   have e1:R=0:=by rw[cQ];rfl
   have e2:q=0:=by rw[cR];rfl
   refine go @e1 ?_;refine⟨(),?_⟩;exact ER (cj @e1<|@e2)
 | none =>
   have e1:b.h - AU f.params.Q5 (BS f.params T)=R:=by rw[cQ];rfl
   have e2:b.d+AU f.params.Qz (BS f.params T)=q:=by rw[cR];rfl
   refine wy (cj3 @AR.eq_1 @e1 @e2 ASH) (cj3 DJ kF Iq W) ⟨?_⟩;refine⟨(),?_⟩;exact wd 4
 . intro _;have mid:sup≠[]->True:=λ_=>trivial
   match sub,sup,l1,l2 with
   | [],[],_,_=>simp only[AA.AG]at HP G9;subst HP G9;rw[pU]at B;subst B;exact wz (cj @AR.eq_1<|ASH) W
   | [c],[],_,_ =>
     simp only[AA.AG]at HP G9;subst HP G9;obtain⟨cw,ch,cd,_⟩:=D3 (h1 c ZA);rw[iq]at B;subst B;have m1:(if q<S1 then S1 else q)=mx q S1:=F;have bM : -2147483648<=mx q S1/\mx q S1<=2147483648:=by rw[DU];omega
     obtain⟨M,hM⟩:=AI (mx q S1);rw[hM]at m1 bM ⊢;have m2:(if M<c.h - oK then c.h - oK else M)=mx M (c.h - oK):=F;exact wz (cj3 @AR.eq_1 @m1 @m2 ASH) (cj2 cO A0 W)
   | [],[d],_,_ =>
     simp only[AA.AG]at HP G9;subst HP G9;obtain⟨dw,dh,dd,_⟩:=D3 (h2 d ZA);rw[xG,dU]at B;subst B;have m1:(if R<S then S else R)=mx R S:=F;have bM : -2147483648<=mx R S/\mx R S<=2147483648:=by rw[DU];omega
     obtain⟨M,hM⟩:=AI (mx R S);rw[hM]at m1 bM ⊢;have m2:(if M<d.d+iJ then d.d+iJ else M)=mx M (d.d+iJ):=F;refine Ah ?_;refine jn (λ_:Unit=>[(18,.c (.int .i64 (if s.By=0 then f.params.Zy else f.params.Zz)))]) ?_ ?_;all_goals simp only[CG,Bw,CO,Ag,Ai]
     by_cases h0:s.By=0;have JJ:s.By=0↔True:=Awn h0;refine go @JJ ?_;refine⟨(),?_⟩;exact ER @JJ;refine go @h0 ?_;refine⟨(),?_⟩;exact ER @h0
     . intro _;refine Ah ?_;refine jn (λ_:Unit=>[(18,.c (.int .i64 K3))]) ?_ ?_;all_goals simp only[CG,Bw,CO,Ag,Ai]
       by_cases hc:s.Hd=I;rw[Awd hc]at mi;have A1:=Awn hc;refine go @A1 ?_;refine⟨(),?_⟩;exact ER @mi;rw[Awf hc]at mi;refine go @hc ?_;refine⟨(),?_⟩;exact ER @mi;intro _;exact wz (cj3 @AR.eq_1 @m1 @m2 ASH) (cj2 cM z W)
   | [c],[d],_,_ =>
     simp only[AA.AG]at HP G9;subst HP G9;obtain⟨cw,ch,cd,_⟩:=D3 (h1 c ZA);obtain⟨dw,dh,dd,_⟩:=D3 (h2 d ZA);rw[pV]at B;have iu:=dU d [];obtain⟨U1,A6⟩:=AI (H0 f s b [d]);rw[A6]at B iu;have m1:(if R<S then S else R)=mx R S:=F;have bM : -2147483648<=mx R S/\mx R S<=2147483648:=by rw[DU];omega
     obtain⟨M,hM⟩:=AI (mx R S);rw[hM]at m1 bM iu;have m2:(if M<d.d+iJ then d.d+iJ else M)=U1:=iu.symm;have A9 : -2147483648<=U1/\U1<=2147483648:=by rw[iu,DU];omega
     have m3:(if q<S2 then S2 else q)=V2:=YF.symm;have m4:4*RU=LS:=dL.symm;clear iu hM A6 dU pU xG iq pV YF dL;refine Ah ?_;refine jn (λ_:Unit=>[(18,.c (.int .i64 (if s.By=0 then f.params.Zy else f.params.Zz)))]) ?_ ?_;all_goals simp only[CG,Bw,CO,Ag,Ai]
     by_cases h0:s.By=0;have JJ:s.By=0↔True:=Awn h0;refine go @JJ ?_;refine⟨(),?_⟩;exact ER @JJ;refine go @h0 ?_;refine⟨(),?_⟩;exact ER @h0
     . intro _;refine Ah ?_;refine jn (λ_:Unit=>[(18,.c (.int .i64 K3))]) ?_ ?_;all_goals simp only[CG,Bw,CO,Ag,Ai]
       by_cases hc:s.Hd=I;rw[Awd hc]at mi;have A1:=Awn hc;refine go @A1 ?_;refine⟨(),?_⟩;exact ER @mi;rw[Awf hc]at mi;refine go @hc ?_;refine⟨(),?_⟩;exact ER @mi;intro _;have w1:V2+LS - (U1 - d.d - (c.h - V2))=V2+(LS - (U1 - d.d - (c.h - V2))):=Ux;by_cases c1:U1 - d.d - (c.h - V2)<LS;rw[Awd c1]at B;have P6:=Awn c1;by_cases c2:0<oK - (U1 - d.d)
       rw[Awd c2]at B;subst B;have wX:=Awn c2;exact wz (cj8 @AR.eq_1 @m1 @m2 @m3 @m4 @P6 @wX @w1 ASH) (cj5 cM z YX jV A0 W);rw[Awf c2]at B;subst B;exact wz (cj8 @AR.eq_1 @m1 @m2 @m3 @m4 @P6 @c2 @w1 ASH) (cj5 cM z YX jV A0 W);rw[Awf c1]at B;subst B;exact wz (cj6 @AR.eq_1 @m1 @m2 @m3 @m4 @c1 ASH) (cj4 cM z YX jV W)
theorem Ajz (l:List Int)(i:Int)(z:G l<=1000000):AC AF 115 [.c (AV l),i] (.c (AV (l++[i]))):=by
 unfold AV;rw[Fm];obtain⟨R,M⟩:=AI (l.map (λn=>[C.int .i64 n]));have S:G R=G l:=by rw[<-M,Ch]
 have B:(∀x:List C,x∈R->G x=1)↔True:=⟨λ_=>trivial,λ_ x Q=>by rw[<-M]at Q;obtain⟨n,_,rfl⟩:=Da.1 Q;rfl⟩
 rw[M,Ap,BB];have f1:G l<=maxLen:=by unfold maxLen;omega
 have f2:G l*8<=140737488355328:=Ux;have f3:G l+1<=maxLen:=by unfold maxLen;omega
 have f4:(G l+1)*8<=140737488355328:=Ux;refine en func115 ntmps115 ?_;refine wu (.mk 1) NA trivial ⟨?_⟩;refine AW.DA ?_;refine SW.OU (λv t=>t=E/\v=.Bg []) (by simp[BQ]) ?_ ?_;intro S0 w0 x a w g ht q;exact⟨_,_,λ_ _ h=>(by cases h),⟨F,F⟩,AIv g rfl (Ae:=3) (es:=1) (Bq:=8) ZA⟩;rintro v t ⟨rfl,rfl⟩;refine CY (.mk 6) (cj5 @f1 @f2 @f3 @f4 @S @B) ?_;refine SW.nil ?_;exact wz NA W
section
variable {P:Program} {S0:BF} {w0:Bs} {x:Cx} {w:World} {H:Bx} {a:Act} {o:Oper}
theorem APs (g:Good S0 w0 x w H){e:Operand->V}{t:TypeId}{len:Nat}{parts:Array (Nat×Operand)}(ho:o.op=.buildSlice t len parts)(hp : ∀p∈parts.toList,CV x w (e p.2) (a.eval p.2)){Ae:TypeId}{es Bq:Nat}(ht:Dk P t=J (Ae,es,Bq))(h0:0<len*es)(h1:len*es<=2 ^ 24)(R:G parts.toList=len){AG:List (List C)}(h:X4 e es 0 parts.toList=J AG){cs:List V}(S:AG.flatten.map V.c=cs)(M:Nat)(hk : ¬x.dom M):BW P o a S0 w0 x w H (.own M 0 len es) (J (M,.box Ae cs U)):=by
 subst S;obtain⟨hu,ie,q,EB,hz,B,_,_⟩:=JS ht;obtain⟨arr,xs,e1,e2,e3,e4,e5⟩:=AFa (x:=x) (w:=w) e a parts.toList 0 AG ((Array.range (len*es)).map (q.cells[· % q.cells.size]!)) h hp (by simp[<-R]);have NW:G xs=len*es:=by rw[e3.len,K7 e4,e5,R]
 have z:arr.toList=xs:=by
  rw[e2,R];simp
 have Q:arr.size=len*es:=by rw[<-FW,z,NW]
 have hr:=run_buildSlice (P:=P) w t Ae len (parts.map λ(i,y)=>(i,a.eval y)) arr ie q hu EB hz (by rw[B];omega) (by rw[B];omega) (by rw[AJN,B];exact e1);obtain⟨g',he⟩:=g.Zc M hk Ae (AG.flatten.map V.c) arr (by rw[z];exact AO.OS e3);have Wi:len<=maxLen:=by
  have:len<=len*es:=Nat.le_mul_of_pos_right _ (Nat.pos_of_mul_pos_left h0);unfold maxLen;omega
 refine⟨_,_,_,.slice (J ⟨w.heap.size,0,E⟩) len len,by simp only[execOp,ho,Sem.run_bind,hr,Result.andThen_ok];rfl,.inl F,?_,g',he,λk h=>h.elim .inl λe=>.inr ⟨.box Ae (AG.flatten.map V.c) U,by rw[e]⟩,λhb=>by rw[ho]at hb;cases hb⟩;simp only[CV,Cx.C4,Awg];exact⟨.inr W,W,len,F,BN _,Wi,by rw[Q];omega⟩
theorem AjO (g:Good S0 w0 x w H)(n:Nat){t:TypeId}{y z:Operand}(ho:o.op=.call ⟨.builtin .append,#[y,z],#[t,t]⟩){Ae:TypeId}{es Bq:Nat}(hT:Dk P t=J (Ae,es,Bq)){zs:List V}(R7:C2 P Ae=J zs){zc:List C}(Ww:V.CF zs=J (zc.map V.c))(h0:0<es){k len:Nat}(hy:CV x w (.own k 0 len es) (a.eval y)){row:List C}(hZ:Ab x.S w (.sl [row]) (a.eval z))(Av:row.length=es){cs:List C}(hk:H k=J (.box Ae (cs.map V.c) U))(hm:len+1<=maxLen)(hb:(len+1)*Bq<=140737488355328)(hl:len*es<=cs.length)(hn : ¬x.dom n)(Ej:k<=n) :
 ∃v' t',(∀k ob,t'=J (k,ob)->k<=n)/\((len*es+es<=cs.length/\v'=.own k 0 (len+1) es/\t'=J (k,.box Ae ((cs.take (len*es)++(row++cs.drop (len*es+es))).map V.c) U))\/∃j:Nat,v'=.own n 0 (len+1) es/\t'=J (n,.box Ae ((cs.take (len*es)++(row++(Aq j zc).flatten)).map V.c) U))/\BW P o a S0 w0 x w H v' t':=by
 obtain⟨hu,ie,zv,EB,hz,R,A6,A3⟩:=JS hT;obtain⟨zk,Y9,IN,i2,J9,R8⟩:=Z2 (x:=x) (w:=w) R7;rw[EB]at J9;cases J9;rw[hz]at R8;cases R8;have A8:=MC _ _ _ Ww IN;obtain⟨hd,b1,b2,vs,cW,za,A0⟩:=g.ok k _ hk;simp only[CV]at hy;obtain⟨_,_,cap,hy,h3,h4,h5⟩:=hy;have dK:vs.size=cs.length:=by have:=A0.len;simpa using this
 obtain⟨B,c',us,VE,k1,k2,k3,k4,k5,k6⟩:=T0 hZ (es:=es) (by simpa using Av);obtain⟨b,A5,rfl,_⟩:=k6 ZA;simp only[BA,BO,Cz,gE]at VE k1 k4;simp only[Hp,RC,E5]at k3;have B0:(len+1)*es=len*es+es:=by rw[Gz,gE]
 by_cases Q:len+1<=cap;have A9:(len+1)*es<=cap*es:=Vj _ Q;have Dz:len*es+es<=cs.length:=Ux;refine⟨_,_,λ_ _ h=>(by cases h;exact Ej),.inl ⟨Dz,F,F⟩,?_⟩;have M:=run_append_room (P:=P) w t o.type Ae ie hu EB (x.loc k).b len cap vs cW ⟨b,A5,E⟩ 1 c' us (by rw[k4,R];omega) (k5 _ F) k3.r8 Q (by rw[R,k4];omega);rw[R]at M;have e1:(vs.toList.take (len*es)).length=len*es:=by simp;omega
 obtain⟨g',he⟩:=g.ACa k Ae _ ((cs.take (len*es)++(row++cs.drop (len*es+es))).map V.c) hk vs (vs.toList.take (len*es)++us++vs.toList.drop (len*es+us.length)).toArray cW (by simp;omega) (by
  simp only[Fm,List.map_take,List.map_drop,GX];rw[k4];exact(A0.take _).append ((AO.OS k3).append (A0.drop _)))
 refine⟨_,_,x,.slice (J ⟨(x.loc k).b,0,E⟩) (len+1) cap,by simp[execOp,ho,resolve,invoke,builtin,hy,VE,M],.inl F,?_,g',he,λ_ h=>.inl h,λ_=>rfl⟩;simp only[CV];exact⟨hd,b1,cap,F,Q,h4,h5⟩;have DK:cap=len:=Ux;subst DK;have A2 : ∀(j:Nat) (q:Value),(vs.toList.take (cap*es))[j]?=J q->w.cell? (Addr.add ⟨(x.loc k).b,0,E⟩ j)=J q:=by
  intro j q hq;rw[J0,Cz,cell_of_row w _ j vs Ae (0,0) cW,<-VZ];rw[KO]at hq;split at hq;exact hq;cases hq
 have M:=run_append_grow (P:=P) w t o.type Ae ie zv hu EB hz ⟨(x.loc k).b,0,E⟩ cap cap (vs.toList.take (cap*es)) (by rw[Fa,R];simp;omega) A2 ⟨b,A5,E⟩ 1 c' us (by rw[k4,R];omega) (k5 _ F) Ux (by unfold maxLen at hm;omega) (growslice_fits Ux (by rw[A6];exact hb));have JL:=grownCap_ge w (cap+1) cap Ae;have A1:=grownCap_le_maxLen w (cap+1) cap Ae hm;generalize hG:grownCap w (cap+1) cap Ae=G at M JL A1;refine⟨_,_,λ_ _ h=>(by cases h;exact BN _),.inr ⟨G - (cap+1),F,F⟩,?_⟩;have mf:=Aa8 (z:=zv.cells) (by rw[A3];exact h0) (G - (cap+1));have LB:Ay w w.drew:=(Ay.refl w).drew;obtain⟨gd,ca⟩:=g.MF (x':=x) LB ⟨λ_ _ h=>h,λb j v _ hc=>LB.cell hc⟩ rfl rfl (λb j h=>.inl h);have A7:AO x w.drew ((cs.take (cap*es)++(row++(Aq (G - (cap+1)) zc).flatten)).map V.c) ((vs.toList.take (cap*es)).toArray++us.toArray++Builtin.zeroCells zv.cells (G - (cap+1))).toList:=by
  simp only[Pq,mf,Fm,List.map_take,GX];refine AO.mono ca _ _ ((A0.take _).append ((AO.OS k3).append ?_));have hr:=toCs_ok (toCs_mapC zc) A8;have h4:AO x w (zc.map V.c) zv.cells.toList:=AO.OS hr;have h5:=h4.px (G - (cap+1));rwa [show (Aq (G - (cap+1)) (zc.map V.c)).flatten=((Aq (G - (cap+1)) zc).flatten).map V.c by rw[List.map_flatten,uR]]at h5
 obtain⟨g',he⟩:=gd.Zc n hn Ae _ _ A7;refine⟨_,_,_,.slice (J ⟨w.heap.size,0,E⟩) (cap+1) G,by simp[execOp,ho,resolve,invoke,builtin,hy,VE,M],.inl F,?_,g',ca.trans he,λk h=>h.elim .inl λe=>.inr ⟨.box Ae ((cs.take (cap*es)++(row++(Aq (G - (cap+1)) zc).flatten)).map V.c) U,by rw[e]⟩,λOD=>by rw[ho]at OD;cases OD⟩;simp only[CV,Cx.C4,Awg];refine⟨.inr W,W,G,F,JL,A1,?_⟩;have h6:0+G*es=cap*es+(es+(G - (cap+1))*es):=by
  obtain⟨q,rfl⟩:∃q,G=cap+1+q:=⟨G - (cap+1),Ux⟩
  rw[show cap+1+q - (cap+1)=q by omega,Gz,Gz];omega
 rw[h6];simp only[Array.size_append,List.size_toArray,size_zeroCells,A3,k4,Fa,FW];omega
end
end Go.Proofs.YtegconioojpgmaaGreat
