/- Part of the proof of breakpointPieces.proved. Conditions: none. -/
import Derived.Test.YtegconioojpgmaaGreatY14
set_option linter.unusedVariables false
set_option linter.unusedSimpArgs false
set_option maxRecDepth 100000
set_option maxHeartbeats 16000000
open Go.Proofs.Tryz renaming prog->AF,results139->gK,results249->Ak0,results247->Akz,results245->Aky,results152->Akr,results153->ARo,results154->AGN,results200->gZ,results116->AG5,func228->vT,func79->ALN,func230->APR
open Nat renaming le_mul_of_pos_right->AMy,mul_div_cancel->AM0,mul_le_mul_left->mj,succ_mul->uc,mul_comm->aO,mul_add_div->AkK,div_eq_of_lt->AkI,add_zero->M8,mul_succ->AQH
open Int renaming mul_tmod_left->AkD
open Go.IntKind renaming i64->AZ
open List renaming replicate->Aq,length_nil->BO,range->E6,getElem_range->ACv,length_range->AMk
open ByteArray renaming size_extract->fg
open Option renaming some->J,none->E
open Bool renaming false->U,true->I
open List renaming length->G
namespace Go.Proofs.YtegconioojpgmaaGreat
open Go.RowKit Tryz
variable (AE:List AA)(b:AA)
theorem ABT {x:Af}(B:x.Ok){s:Aa}(hs:s.ok=I):x.Al s<=1073741824:=by
 obtain⟨K,H⟩:=HE B.val hs;exact(DM x.f.params.Al (by omega:0<=BS x.f.params s) H).2
theorem wk : ∀(AG:List (List C)) (Z:List C) (es:Nat),(∀r∈AG,G r=es)->Hc es (G AG) (AG.flatten++Z)=AG
 | [],_,_,_=>rfl
 | r::AG,Z,es,h=>by
   have H:=h r GH;rw[BA,Hp,GX];unfold Hc;rw[List.take_append_of_le_length Ux,List.drop_append_of_le_length Ux,Gl Ux,FA Ux,BU,wk AG Z es λq B=>h q (Gk _ B)]
theorem AD2 (l:List AA)(Z:List C):toCs (EN l Z)=J ((AA.AG l).flatten++Z):=toCs_mapC _
theorem wM (k:Nat)(row:List C)(l:List AA)(Z:List C):V.Cs k row (EN l Z)=EN l Z:=YN k row _
theorem ANU {q:Int}(rC:0<=q)(NT:q<=1073741824){l:List AA}(z : ∀b∈l,b.Ad=I):(-1073741824<=MW q l/\MW q l<=1073741824)/\ -1073741824<=N1 q l/\N1 q l<=1073741824:=by
 have key : ∀(g:AA->Int) (l:List AA) (a:Int),-1073741824<=a->a<=1073741824->(∀b∈l,-1073741824<=g b/\g b<=1073741824)-> -1073741824<=l.foldl (λh b=>mx h (g b)) a/\l.foldl (λh b=>mx h (g b)) a<=1073741824:=by
  intro g l;induction l with
  | nil=>intro a K H _;exact⟨K,H⟩
  | cons b l ih =>
    intro a K H B;have NO:=B b GH;rw[Bw];refine ih _ ?_ ?_ λc o=>B c (Gk _ o)
    unfold mx;split<;>omega;unfold mx;split<;>omega
 have Q:=DM q (by omega:(0:Int)<=70) Ux;have R:=DM q (by omega:(0:Int)<=30) Ux;have M : ∀b∈l,(-1073741824<=b.h/\b.h<=1073741824)/\ -1073741824<=b.d/\b.d<=1073741824:=λb B=>by
  obtain⟨_,H,S,_⟩:=D3 (z b B);exact⟨H,S⟩
 exact⟨key AA.h l _ Q.1 Q.2 λb B=>(M b B).1,key AA.d l _ R.1 R.2 λb B=>(M b B).2⟩
structure Cells (x:Af)(s:Aa)(AL AG:Nat)(cells:List AA):Prop where
 ar:aZ (x.Al s) AL AG cells
 v : ∀b∈cells,b.Ad=I
 c:AA.Az cells<=900000
section
variable {x:Af} {s:Aa} {AL AG:Nat} {cells:List AA}
theorem Cells.line (B:x.Ok)(hs:s.ok=I)(h:Cells x s AL AG cells)(r:Nat):(-1073741824<=MW (x.Al s) (Ha AL cells r)/\MW (x.Al s) (Ha AL cells r)<=1073741824)/\ -1073741824<=N1 (x.Al s) (Ha AL cells r)/\N1 (x.Al s) (Ha AL cells r)<=1073741824:=
 ANU (VN B hs) (ABT B hs) λb H=>h.v b (List.mem_of_mem_drop (List.mem_of_mem_take H))
theorem Cells.NI (B:x.Ok)(hs:s.ok=I)(h:Cells x s AL AG cells):∀r:Nat,-2147483648*(r:Int)<=NI (x.Al s) AL cells r/\NI (x.Al s) AL cells r<=2147483648*(r:Int)
 | 0=>by simp[Go.Proofs.YtegconioojpgmaaGreat.NI]
 | r+1=>by
   have H:=h.NI B hs r;have K:=h.line B hs r;simp only[Go.Proofs.YtegconioojpgmaaGreat.NI,oh];push_cast
   omega
end
theorem ANT (q:Int)(AL:Nat)(cells:List AA)(c:Nat)(i:Nat):(A4 (Gn q AL cells c) i).h=(A4 cells i).h/\(A4 (Gn q AL cells c) i).d=(A4 cells i).d:=by
 unfold A4 Gn;rw[Bv,Bv,fQ];cases cells[i]? with
 | none=>exact⟨F,F⟩
 | some b=>simp only[Nu,Dm];split<;>exact⟨F,F⟩
theorem AXN (y:Int):({ b with y:=y }:AA).row=b.row.set 7 (.int .i64 y):=by cases b;rfl
theorem AUG {q:Int}{AL:Nat}{cells:List AA}{AG k:Nat}(h:k<AG):(W5 q AL cells AG)[k]?=J [.int .i64 (MW q (Ha AL cells k)),.int .i64 (N1 q (Ha AL cells k))]:=by
 unfold W5;rw[CM,List.getElem?_range h];rfl
theorem AD3 (q:Int)(AL:Nat)(cells:List AA)(B:Int):∀(l:List AA) (i:Nat),(∀b∈l,b.Ad=I)->AA.JH (Ox q AL cells B i l)/\AA.FY (Ox q AL cells B i l)/\AA.Az (Ox q AL cells B i l)=AA.Az l
 | [],_,_=>⟨trivial,trivial,rfl⟩
 | b::l,i,h=>by
   obtain⟨K,M,Q⟩:=AD3 q AL cells B l (i+1) λc R=>h c (Gk _ R)
   have H:=h b GH;have S:=GD H;have o:=kj H;simp only[Ox];refine⟨⟨?_,K⟩,⟨F4 _ _ o,M⟩,?_⟩;unfold wN;cases b;exact S;simp only[AA.Az,Q];congr 1
   exact Hb _ _ _
theorem AWe (x:Af)(s:Aa)(AL AG:Nat)(cells:List AA)(hx:x.Ok)(hs:s.ok=true)(h:Cells x s AL AG cells):AC AF 139 [.agg x.f.vs,Aj s,(AL:Int),.c (.sl (AA.AG cells))] (Ba (N2 x.f s AL cells)):=by
 obtain⟨hn,HL,GM,HP,KY,rC,NT,Ws⟩:=h.ar;have zR:=h.line hx hs;have yg:=h.NI hx hs;have Jg:=LI x.f s;rw[show IT x.f s=(x.sz s,0)from Awf (by simp[hs,hx.val])]at Jg;obtain⟨p1,p2⟩:=HE hx.val hs;have A5:=EI x.f.params.Al (x.sz s);have vL:=EI x.f.params.FD (x.sz s);have zo:AU x.f.params.Al (x.sz s)=x.Al s:=F;have I2:=DM x.f.params.FD (by omega:0<=BS x.f.params s) p2;have QM:=DM (x.Al s) (by omega:(0:Int)<=20) Ux;have J9:=AE0 cells;have A9:=AUH cells (Gn (x.Al s) AL cells AL);have cL:1<=cells.length:=by rw[hn];exact Ps HP (AMy _ HL)
 have A1:cells.length / AL=AG:=by rw[hn];exact AM0 _ HL
 have Bh:N2 x.f s AL cells=if An (Oy (x.Al s) AL cells AG)=U then(AA.zero,6)else C8 (oe (x.Al s) (AU x.f.params.FD (x.sz s)) AL cells):=by
  unfold N2;rw[A1];rfl
 have B8:oe (x.Al s) (AU x.f.params.FD (x.sz s)) AL cells=Bf (Ig (x.Al s) AL cells (AL - 1)+Lh AL cells (AL - 1)) (AU x.f.params.FD (x.sz s)+Bm (Oy (x.Al s) AL cells AG)) (Oy (x.Al s) AL cells AG - (AU x.f.params.FD (x.sz s)+Bm (Oy (x.Al s) AL cells AG))) (Ox (x.Al s) AL cells (AU x.f.params.FD (x.sz s)+Bm (Oy (x.Al s) AL cells AG)) 0 cells):=by
  unfold oe;rw[A1]
 rw[zo]at A5;rw[Bh,B8];obtain⟨q,hq⟩:=AI (x.Al s);obtain⟨AX,It⟩:=AI (AU x.f.params.FD (x.sz s));have K1 : -1073741824<=AX/\AX<=1073741824:=by rw[<-It];exact I2
 have CZ:=h.ar;rw[hq]at A5 zR yg QM A9 CZ rC NT ⊢;rw[It]at vL ⊢;have G2:=AE0 cells;have hv : ∀k,k<cells.length->(A4 cells k).Ad=true:=λk hk=>h.v _ (bK hk)
 have LB:=AD3 q AL cells (AX+Bm (Oy q AL cells AG)) cells 0 h.v;have K4:=h.c;obtain⟨N,hN⟩:=AI cells.length;have DK : ∀c,(Gn q AL cells c).length=N:=λc=>by unfold Gn;rw[Xd,hN]
 obtain⟨rs,Aw⟩:=AI (AA.AG cells);have Av:rs.length=N:=by rw[<-Aw,GA,hN]
 have Tb : ∀r∈rs,r.length=11:=by rw[<-Aw];exact VR
 have D2 : ∀k,k<N->rs[k]?=J (A4 cells k).row:=λk hk=>by rw[<-Aw,lF,CM,wQ Ux];rfl
 have H1:rs≠[]:=by intro e;rw[e]at Av;simp at Av;omega
 rw[hN]at hn KY cL A1 hv;have G9:AG<=256:=by have:AG*1<=AG*AL:=mj _ HL;omega
 have I3 : ¬(AL:Int)<1:=Ux;have I5 : ¬16<(AL:Int):=Ux;have I8 : ¬(N:Int)<1:=Ux;have J3 : ¬256<(N:Int):=Ux;have J4 : ¬(AL:Int)=0:=Ux;have J5:(N:Int).tmod (AL:Int)=0:=by
  rw[hn];push_cast
  exact AkD _ _
 rw[Aw];unfold Aj at Jg ⊢;simp only[AR]at Jg;refine en func139 ntmps139 ?_;refine wy (cj @Av<|gK) (cj Jg<|trivial) ⟨?_⟩;refine CX (ι:={ k:Nat // k<=N }) (λk=>[(40,(k.1:Int))]) (λ_=>[O.box 27 x.f.vs U,O.box 35 [s.By,.c (.bool s.Hd)] U,O.box 56 BT U]) (λk=>N - k.1) ⟨0,CI _⟩ ?_ ?_;exact ER @BT.eq_1;rintro ⟨k,hk⟩;simp only;by_cases o:k<N;have uq:k<rs.length:=Ux;have hg:=D2 k o;have Ei:=gx hg;have CA:=EL _ (kj (hv k o)) (by have:=ik (hv k o);omega);rw[hv k o]at CA;have hw:AZ.wrap ((k:Int)+1)=((k+1:Nat):Int):=by rw[Ac];push_cast;rfl
 generalize CT:A4 cells k=b at hg Ei CA;simp only[As]at CA;refine wy (cj6 @Av @o @uq @hg @Ei @hw gK) (cj CA<|trivial) ⟨?_⟩;refine⟨⟨k+1,Ux⟩,by first|omega|(simp only;omega),?_⟩;refine Le.MI 3 (F2 F) (by simp[DG,BT]) (by simp[BT]) (by simp[V.BI,V.A8]) (by simp[O.A8,V.BI,V.A8,BT]);obtain rfl:k=N:=Ux;clear D2 hv;refine wu (.mk 14) (cj8 @Av @o @I3 @I5 @I8 @J3 @J4 @J5 gK) (cj A5<|cj (EI q 20)<|trivial) ⟨?_⟩;refine AW.DA ?_;refine CY (.mk 1) trivial ?_;refine SW.OU (λv t=>∃m:Nat,v=.own 3 0 rs.length 11/\t=J (3,.box 56 ((rs.flatten++(Aq m AA.zero.row).flatten).map V.c) U)) rfl (λS0 w0 y w a g ht hd=>?_) ?_;exact AIt (t:=54) (Ae:=56) (Bq:=128) (zs:=BT) g rfl ZA (by simp[BT]) (by rfl) Ux Tb (CW ht (.const (.slice E 0 0))) (CW ht (.tmp 80)) H1 Ux ZB 3 hd;rintro v t ⟨mz,rfl,rfl⟩;obtain⟨Z,hZ⟩:=AI ((Aq mz AA.zero.row).flatten);have Yk:(rs.flatten++Z).map V.c=EN cells Z:=by rw[<-Aw];rfl
 rw[hZ,Yk,Av];simp only[St.step,St.put,Bk,BA,BO,Nat.reduceAdd,IY,Awh,Ai,Ag,BK,BU];refine CY (.mk 2) trivial ?_;refine SW.nil ?_;have B2:=G2 Z AL AG q CZ;have B3:=A9 Z AL AG q CZ (by rw[DK,hN]) (λi=>ANT q AL cells AL i);rw[hN]at B2 B3;refine wu (.mk 15) gK trivial ⟨?_⟩;refine AW.DA ?_;refine CY (.mk 3) trivial ?_;refine SW.AEf 3 B2 func187 ZC ZC (by simp[BQ]) (by simp[C7];first|exact rfl|exact⟨F,F⟩) (by simp[V.Zp,V.ky,V.Di]) rfl (bE 3 _ _) (bE 3 _ _) (AD1 _ _) ?_;simp only[St.step,St.put,Bk,BA,BO,Nat.reduceAdd,Nat.reduceLT,Awg,Ai,Ag];refine CY (.mk 5) trivial ?_;refine SW.nil ?_;refine wu (.mk 16) gK trivial ⟨?_⟩;refine AW.DA ?_;refine CY (.mk 3) trivial ?_;refine SW.AEf 3 B3 func188 ZC ZC (by simp[BQ]) (by simp[C7];first|exact rfl|exact⟨F,F⟩) (by simp[V.Zp,V.ky,V.Di]) rfl (bE 3 _ _) (bE 3 _ _) (AD1 _ _) ?_;simp only[St.step,St.put,Bk,BA,BO,Nat.reduceAdd,Nat.reduceLT,Awg,Ai,Ag];refine CY (.mk 1) trivial ?_;refine SW.nil ?_;have zQ : ∀k,k<AG->(W5 q AL cells AG)[k]?=J [.int .i64 (MW q (Ha AL cells k)),.int .i64 (N1 q (Ha AL cells k))]:=λk hk=>AUG hk
 obtain⟨LC,jP⟩:=AI (W5 q AL cells AG);have Io:LC.length=AG:=by rw[<-jP];simp[W5]
 rw[jP]at zQ ⊢;obtain⟨G,hG⟩:=AI (AU q 20);rw[hG]at QM ⊢;have xw : ∀k:Nat,k<=256-> -274877906944<=(k:Int)*G/\(k:Int)*G<=274877906944:=λk hk=>by
  have h1:(k:Int)*G<=(k:Int)*1073741824:=aF QM.2 Ux;have h2:(k:Int)*(-1073741824)<=(k:Int)*G:=aF QM.1 Ux;omega
 have EK:AZ.wrap ((AG:Int) - 1)=(AG:Int) - 1:=Ac;have H5:AZ.wrap (((AG:Int) - 1)*G)=((AG:Int) - 1)*G:=by
  have:=xw (AG - 1) Ux;rw[show ((AG - 1:Nat):Int)=(AG:Int) - 1 by omega]at this;exact Ac
 refine wy (cj3 @Io @EK @H5 gK) trivial ⟨?_⟩;generalize K2:Ig q AL cells (AL - 1)+Lh AL cells (AL - 1)=W9;clear Bh B8;obtain⟨T,hT⟩:∃T:Nat->Int,T=λr=>((AG:Int) - 1)*G+NI q AL cells r:=⟨_,rfl⟩
 have qT:((AG:Int) - 1)*G=T 0:=by rw[hT];simp[NI]
 have G5 : ∀r,T (r+1)=T r+(MW q (Ha AL cells r)+N1 q (Ha AL cells r)):=λr=>by rw[hT];simp only[NI,oh];omega
 have B1 : ∀r:Nat,r<=256-> -1099511627776<=T r/\T r<=1099511627776:=λr hr=>by
  have h1:=yg r;have h2:=xw (AG - 1) Ux;rw[show ((AG - 1:Nat):Int)=(AG:Int) - 1 by omega]at h2;rw[hT];simp only;omega
 have B7:Oy q AL cells AG=T AG:=by rw[hT];unfold Oy;rw[hG]
 rw[B7];rw[qT];refine CX (ι:={ r:Nat // r<=AG }) (λr=>[(20,(T r.1:Int)),(100,(r.1:Int))]) (λ_=>[O.box 27 x.f.vs U,O.box 35 [s.By,.c (.bool s.Hd)] U,O.box 56 BT U,O.box 56 (EN (Gn q AL cells AL) Z) U,O.box 54 [.own 3 0 k 11] U]) (λr=>AG - r.1) ⟨0,CI _⟩ ?_ ?_;exact ER @BT.eq_1;rintro ⟨r,hr⟩;simp only;by_cases Dp:r<AG;have hg:=zQ r Dp;have Ei:=gx hg;have H3:r<LC.length:=Ux;have JN:=zR r;have Td:=B1 r Ux;have FK:=G5 r;obtain⟨M,Yp⟩:=AI (MW q (Ha AL cells r));obtain⟨S,IH⟩:=AI (N1 q (Ha AL cells r));rw[Yp,IH]at hg Ei JN FK;have A6:AZ.wrap (M+S)=M+S:=Ac;have dN:AZ.wrap (T r+(M+S))=T r+(M+S):=Ac;have zy:AZ.wrap ((r:Int)+1)=((r+1:Nat):Int):=by rw[Ac];push_cast;rfl
 generalize L3:T r=tr at dN FK ⊢;refine wy (cj8 @Io @Dp @H3 @hg @Ei @A6 @dN @zy gK) trivial ⟨?_⟩;refine⟨⟨r+1,Ux⟩,by first|omega|(simp only;omega),?_⟩;simp only[FK];refine Le.MI 5 (F2 F) (by simp[DG,BT,RQ]) (by simp[BT,RQ]) (by simp[V.BI,V.A8]) (by simp[O.A8,V.BI,V.A8,BT,RQ]);obtain rfl:r=AG:=Ux;have H4:=B1 r Ux;have E3 : ∀n:Nat,n<=r-> -1099511627776<=N3 q AL cells n/\N3 q AL cells n<=1099511627776:=λn hn=>by
  have h1:=yg n;have h2:=xw n Ux;unfold N3;rw[hG];omega
 obtain⟨R,PG⟩:=AI (T r);rw[B7,PG]at LB;rw[PG]at H4 ⊢;have G7:=Ng R;cases A3:An R with
 | false=>rw[A3]at G7;rw[Awd rfl];have hz:=Fl;unfold Ba;simp only[As,AR,hz];refine wy (cj2 @Io @BT.eq_1 gK) (cj G7<|trivial) ⟨?_⟩;exact At gK
 | true =>
   rw[A3]at G7;rw[Awf ZA];have qh:=Ke R;have K9:=J6 R;have D8:AZ.wrap (AX+Bm R)=AX+Bm R:=Ac;obtain⟨H,B0⟩:=AI (AX+Bm R);have K0 : -2147483648<=H/\H<=2147483648:=Ux;rw[B0]at D8 LB ⊢;refine wy (cj2 @Io @D8 gK) (cj3 G7 vL qh trivial) ⟨?_⟩;simp only[B0];have kK:H=H - N3 q AL cells 0:=by simp[N3,NI]
   have E1:Gn q AL cells AL=P3 q AL cells H 0:=by
    unfold P3;rw[ALq];intro i _;simp
   rw[E1];have e5:O.box 3 [.c (.int .i64 H)] U=O.box 3 [.c (.int .i64 (H - N3 q AL cells 0))] false:=by rw[<-kK]
   rw[e5];clear e5 kK;have E2 : ∀n,(P3 q AL cells H n).length=k:=λn=>by unfold P3;rw[Xd,DK]
   refine CX (ι:={ n:Nat // n<=r }) (λn=>[(131,(n.1:Int))]) (λn=>[O.box 27 x.f.vs U,O.box 35 [s.By,.c (.bool s.Hd)] U,O.box 56 BT U,O.box 56 (EN (P3 q AL cells H n.1) Z) U,O.box 54 [.own 3 0 k 11] U,O.box 3 [(H - N3 q AL cells n.1:Int)] U]) (λn=>r - n.1) ⟨0,CI _⟩ ?_ ?_;exact ER @BT.eq_1;rintro ⟨n,zd⟩;simp only;by_cases qm:n<r;have hg:=zQ n qm;have Ei:=gx hg;have G8:n<LC.length:=Ux;have JN:=zR n;have rO:=E3 n Ux;have rP:N3 q AL cells (n+1)=N3 q AL cells n+(MW q (Ha AL cells n)+N1 q (Ha AL cells n))+G:=by
    unfold N3;simp only[NI,oh,hG];push_cast
    rw[Int.add_mul];omega
   have CB:n*AL+AL<=r*AL:=by rw[<-uc];exact Vj _ qm
   obtain⟨I,hI⟩:=AI (n*AL);have F7:(n+1)*AL=I+AL:=by rw[uc,hI]
   rw[hI]at CB;have Ew:AZ.wrap ((n:Int)*(AL:Int))=(I:Int):=by
    have:(n:Int)*(AL:Int)=(I:Int):=by rw[<-hI];push_cast;rfl
    rw[this];exact Ac
   have FP:AZ.wrap ((n:Int)+1)=(n:Int)+1:=Ac;have GO:AZ.wrap (((n:Int)+1)*(AL:Int))=(I:Int)+(AL:Int):=by
    have:((n:Int)+1)*(AL:Int)=(I:Int)+(AL:Int):=by have:=congrArg (λn:Nat=>(n:Int)) F7;push_cast at this;exact this
    rw[this];exact Ac
   have IH : ∀j,j<AL->(I+j) / AL=n:=λj hj=>by rw[<-hI,aO,AkK HL,AkI hj,M8]
   obtain⟨l,hl,hv⟩:=kO (p:=λj=>j<k/\j / AL=n) I 1 AL λj hj=>by rw[gE];exact⟨Ux,IH j hj⟩
   have dG:=pk (λy : { j:Nat // j<k/\j / AL=n }=>((y.val:Nat):Int)) l (I:Int) ((I:Int)+(AL:Int)) 1 Ux Ux Ux Ux Ux (λj y hy=>by have:=hv j y hy;rw[this];push_cast;rfl) (λy hy=>by
    obtain⟨j,hj⟩:=List.getElem?_of_mem hy;have h1:=hv j y hj;have h2:=(Br.1 hj).1;omega) (by rw[hl];omega)
   have yJ:P3 q AL cells H n=Ho (λj=>decide (j / AL<n) || ([]:List { j:Nat // j<k/\j / AL=n }).any λz=>decide (j=z.val)) (V1 q AL cells H) (Gn q AL cells AL):=by
    unfold P3;simp
   have yz:Ho (λj=>decide (j / AL<n) || l.any λz=>decide (j=z.val)) (V1 q AL cells H) (Gn q AL cells AL)=P3 q AL cells H (n+1):=by
    unfold P3;refine ALp λi hi=>?_
    rw[DK]at hi;have key:(l.any λz=>decide (i=z.val))=decide (i / AL=n):=by
     rw[Oj,List.any_eq_true,Awe];constructor;rintro ⟨z,_,hz⟩;rw[Awe]at hz;rw[hz];exact z.2.2;intro hm;have EG:i % AL<l.length:=by rw[hl];exact Nat.mod_lt _ HL
     refine⟨l[i % AL],Kq EG,?_⟩;rw[Awe,hv _ _ (BE EG),gE,<-hI,<-hm];exact(Nat.div_add_mod' i AL).symm
    rw[key,Oj];simp only[T9,Awe];omega
   obtain⟨M,Yp⟩:=AI (MW q (Ha AL cells n));obtain⟨S,E4⟩:=AI (N1 q (Ha AL cells n));rw[Yp,E4]at hg Ei JN rP;obtain⟨Y,hY⟩:=AI (H - N3 q AL cells n);have G6:H - N3 q AL cells (n+1)=Y - (M+S+G):=by rw[rP];omega
   have K3 : -1200000000000<=Y/\Y<=1200000000000:=Ux;have A6:AZ.wrap (M+S)=M+S:=Ac;have dN:AZ.wrap (M+S+G)=M+S+G:=Ac;have zy:AZ.wrap (Y - (M+S+G))=Y - (M+S+G):=Ac;have H9:AZ.wrap (Y - M)=Y - M:=Ac;obtain⟨A0,Gr⟩:=AI (EN (P3 q AL cells H n) Z);rw[hY,Gr];refine go (cj7 @Io @qm @G8 @hg @Ei @Ew @FP @GO) ?_;refine BZ (iw (I:Int) ((I:Int)+(AL:Int)) 1) func189 ?_;refine Ah ?_;refine AW.range (α:={ j:Nat // j<k/\j / AL=n }) rfl rfl rfl (caps:=[.cp [.int .i64 (I:Int)] 0,.cp [.int .i64 ((I:Int)+(AL:Int))] 0,.cp [.int .i64 1] 0]) rfl rfl func222 ZC ZC (λy=>.int .i64 ((y.val:Nat):Int)) (λy=>.c (.int .i64 ((y.val:Nat):Int))) ?_ (λxs=>xs=l) l.length dG
    (λpre=>[O.box 27 x.f.vs U,O.box 35 [.c (.int .i64 s.By),.c (.bool s.Hd)] U,O.box 56 BT U,O.box 56 (EN (Ho (λj=>decide (j / AL<n) || pre.any λz=>decide (j=z.val)) (V1 q AL cells H) (Gn q AL cells AL)) Z) U,O.box 54 [.own 3 0 k 11] U,O.box 3 [.c (.int .i64 Y)] U,O.box 212 [.c (.int .i64 M),.c (.int .i64 S)] U]) ?_ 7 (λ_=>rfl) ZA ?_ ?_
   intro x' W y;simp only[CV,Ab];exact⟨trivial,Q8 (by have:=y.2.1;unfold maxLen;omega)⟩;rw[<-Gr,yJ];rintro lp pre y kD;have Lv:=y.2.1;have Wv:y.val<(Gn q AL cells AL).length:=by rw[DK];exact Lv
   have A2:=ALr (λy : { j:Nat // j<k/\j / AL=n }=>y.val) (λj=>decide (j / AL<n)) (V1 q AL cells H) (Gn q AL cells AL) pre y Wv;obtain⟨Q,hQ⟩:=AI (Ho (λj=>decide (j / AL<n) || pre.any λz=>decide (j=z.val)) (V1 q AL cells H) (Gn q AL cells AL));have yO:Q.length=k:=by rw[<-hQ,Xd,DK]
   have yN : ∃B,Q[y.val]?=J B/\V1 q AL cells H y.val (Gn q AL cells AL)[y.val]={ B with y:=Y - M }:=by
    rw[<-hQ,fQ,BE Wv,Nu];refine⟨_,F,?_⟩;unfold V1;rw[y.2.2,Yp,hY];split<;>rfl
   obtain⟨B,Il,TK⟩:=yN;rw[hQ]at A2 ⊢;rw[<-A2];clear A2;rw[TK];have KG:=og (Z:=Z) (v:=.int .i64 (Y - M)) Il (by omega:7<11) (AXN B _);obtain⟨Q',jS⟩:∃Q',EN (Q.set y.val { B with y:=Y - M }) Z=Q':=⟨_,rfl⟩
   rw[jS]at KG ⊢;have yM : ∀n,V.BI n Q'=true:=λn=>by rw[<-jS];exact RQ n _ _
   obtain⟨A',Au⟩:∃A',EN Q Z=A':=⟨_,rfl⟩
   have J7:k*11<=A'.length:=by rw[<-Au,bC,yO];omega
   rw[Au]at KG ⊢;have A7:y.val*11+7+1<=A'.length:=Ux;generalize PW:y.val=yv at Lv A7 KG ⊢;refine go (cj3 @Lv @A7 @KG @H9) ?_;refine⟨F,_,Le.ct 7 (F2 F) ?_ ?_⟩;simp;simp[O.A8,V.BI,V.A8,yM,BT];rintro xs NW;rw[NW,yz];clear NW xs;have I1:AZ.wrap ((n:Int)+1)=((n+1:Nat):Int):=by rw[Ac];push_cast;rfl
   refine go (cj3 @A6 @dN @zy @I1) ?_;refine⟨⟨n+1,Ux⟩,by first|omega|(simp only;omega),?_⟩;simp only[G6];refine Le.MI 6 (F2 F) (by simp[DG,BT,RQ]) (by simp[BT,RQ]) (by simp[V.BI,V.A8]) (by simp[O.A8,V.BI,V.A8,BT,RQ]);obtain rfl:n=r:=Ux;have D0:=ANW q HL cells (by rw[hN,hn]) H;rw[D0];obtain⟨K,hK⟩:=AI (Ox q AL cells H 0 cells);rw[hK]at LB ⊢;have G4:K.length=k:=by rw[<-hK,<-D0,E2]
   have D1:Hc 11 k ((AA.AG K).flatten++Z)=AA.AG K:=by
    have:=wk (AA.AG K) Z 11 VR;rwa [GA,G4]at this
   obtain⟨E9,F6,J8⟩:=LB;have BD:=My W9 H (R - H) K E9 Ux;have E0:AZ.wrap (R - H)=R - H:=Ac;have D7:(Bf W9 H (R - H) K).BX:=⟨ZB,by show (0:Nat)<=maxLen;omega,F6⟩
   have Ri:(Bf W9 H (R - H) K).cnt<=1000000:=by show 1+AA.Az K<=1000000;omega
   have Mk:=EL _ D7 Ri;generalize hB:Bf W9 H (R - H) K=B at BD Mk ⊢;simp only[As]at BD Mk;refine wu (.mk 35) (cj2 @Io @qm gK) trivial ⟨?_⟩;refine AW.Bi 3 rfl (AD2 K Z) (by simp only[V.Cs,V.Bi,B9,D1,Awg];exact rfl) (by simp only[Ai,Ag,Ap,BB,O.Bi,wM,V.Cs,V.Bi,B9,D1,Awg,BT];exact rfl) ?_;have hz:=Fl;unfold C8 Ba;cases CA:B.Ad with
   | true=>rw[CA]at Mk;rw[Awd rfl];simp only[As,AR];refine wy (cj2 @Io @E0 gK) (cj2 BD Mk trivial) ⟨?_⟩;exact At gK
   | false=>rw[CA]at Mk;rw[Awf ZA];simp only[As,AR,hz];refine wy (cj2 @Io @E0 gK) (cj2 BD Mk trivial) ⟨?_⟩;exact At gK
theorem Ajq (f:AP)(s:Aa)(n:Int):AC AF 246 [.agg f.vs,Aj s,n] (AU n (BS f.params s):Int):=by
 have B:=x7 f s;have H:=AYA n (BS f.params s);unfold Aj at B ⊢;refine en func246 ntmps246 ?_;exact wz results246 (cj2 B H W)
theorem ASY (g:Nat->Int)(a:Int)(k:Nat):((E6 (k+1)).map g).foldl mx a=mx (((E6 k).map g).foldl mx a) (g k):=by
 rw[List.range_succ,Fm,List.foldl_append];rfl
theorem Amm (cells:List AA)(AL AG c:Nat)(Q:G cells=AG*AL)(hc:c<AL)(GM:AL<=16)(KY:G cells<=256):AC AF 249 [(AL:Int),.c (.sl (AA.AG cells)),(c:Int)] (Lh AL cells c:Int):=by
 obtain⟨rs,S⟩:=AI (AA.AG cells);have R:G rs=G cells:=by rw[<-S,GA]
 obtain⟨M,q⟩:∃M:Nat->Int,M=λj=>((E6 j).map λk=>(A4 cells (c+AL*k)).w).foldl mx 0:=⟨_,rfl⟩
 have z:M 0=0:=by rw[q];rfl
 have qQ : ∀j,M (j+1)=mx (M j) (A4 cells (c+AL*j)).w:=λj=>by rw[q];exact ASY _ _ _
 have A0:M AG=Lh AL cells c:=by
  have hb : ∀k,k<AG->c+AL*k<G cells:=λk hk=>by
   rw[Q];have:AL*k+AL<=AG*AL:=by rw[aO AG AL,<-AQH];exact mj _ hk
   omega
  have:=xA (λk:Nat=>c+AL*k) (c:=c) (show 0<AL by omega) cells (E6 AG) 0 0 (λy hy=>hb y (KP.1 hy)) (λk y hy=>by
   obtain⟨hk,e⟩:=Br.1 hy;rw[ACv]at e;rw[<-e,Cz]) (by rw[AMk,Cz,Q,aO AG AL];omega)
  rw[q];rw[Nat.mul_zero,M8]at this;exact this
 rw[S];rw[<-A0];refine en func249 ntmps249 ?_;refine wy (cj @R<|Ak0) trivial ⟨?_⟩;have e0:(c:Int)=((c+AL*0:Nat):Int):=ZA;rw[e0];refine CX (ι:={ j:Nat // j<=AG }) (λj=>[(7,(M j.1:Int)),(8,((c+AL*j.1:Nat):Int))]) (λ_=>[]) (λj=>AG - j.1) ⟨0,CI _⟩ ?_ ?_;exact ER @z;rintro ⟨j,hj⟩;simp only;obtain⟨i,H⟩:=AI (c+AL*j);rw[H];by_cases A2:j<AG;have OF:i<G cells:=by
  rw[Q,<-H];have:AL*j+AL<=AG*AL:=by rw[aO AG AL,<-AQH];exact mj _ A2
  omega
 have A1:i<G rs:=Ux;have K:rs[i]?=J (A4 cells i).row:=by rw[<-S,lF,CM,wQ OF];rfl
 have o:=gx K;have hw:AZ.wrap ((i:Int)+(AL:Int))=((c+AL*(j+1):Nat):Int):=by
  rw[Ac,Nat.mul_add,<-Nat.add_assoc,H];push_cast;omega
 have B:=qQ j;rw[H]at B;generalize hb:A4 cells i=b at K o B;obtain⟨b0,b1,b2,b3,b4,b5,b6,b7,b8,b9,Oz⟩:=b;simp only[AA.row]at K o B;generalize hm:M j=m at B ⊢;refine wy (cj6 @R @OF @A1 @K @o @hw Ak0) trivial ⟨?_⟩;refine⟨⟨j+1,Ux⟩,by simp only;omega,?_⟩;simp only[B,mx];exact DH;obtain rfl:j=AG:=Ux;have OF : ¬i<G cells:=by rw[Q,<-H,aO AL j];omega
 exact wz (cj2 @R @OF Ak0) W
theorem AnO (cells:List AA)(AL AG r:Nat)(q:Int)(hn:G cells=AG*AL)(hr:r<AG)(HL:1<=AL)(GM:AL<=16)(KY:G cells<=256):AC AF 247 [(AL:Int),.c (.sl (AA.AG cells)),(r:Int),q] (.A7 [(MW q (Ha AL cells r):Int),(N1 q (Ha AL cells r):Int)]):=by
 obtain⟨rs,Aw⟩:=AI (AA.AG cells);have Av:G rs=G cells:=by rw[<-Aw,GA]
 obtain⟨A,z⟩:∃A:Nat->Int,A=λj=>((E6 j).map λk=>(A4 cells (r*AL+k)).h).foldl mx (AU q 70):=⟨_,rfl⟩
 obtain⟨D,hD⟩:∃D:Nat->Int,D=λj=>((E6 j).map λk=>(A4 cells (r*AL+k)).d).foldl mx (AU q 30):=⟨_,rfl⟩
 have Gr:A 0=AU q 70:=by rw[z];rfl
 have jM:D 0=AU q 30:=by rw[hD];rfl
 have M : ∀j,A (j+1)=mx (A j) (A4 cells (r*AL+j)).h:=λj=>by rw[z];exact ASY _ _ _
 have Q : ∀j,D (j+1)=mx (D j) (A4 cells (r*AL+j)).d:=λj=>by rw[hD];exact ASY _ _ _
 have A2:r*AL+AL<=AG*AL:=by rw[<-uc];exact Vj _ hr
 have OI:r<=256:=by have:r*1<=r*AL:=mj _ HL;omega
 have hE:A AL=MW q (Ha AL cells r)/\D AL=N1 q (Ha AL cells r):=by
  have:=ANV (λk:Nat=>r*AL+k) (r:=r) q cells (E6 AL) (λy hy=>by have:=KP.1 hy;omega) AMk (λk y hy=>by
   obtain⟨hk,e⟩:=Br.1 hy;rw[ACv]at e;rw[<-e])
  rw[z,hD];exact this
 rw[Aw,<-hE.1,<-hE.2];have B:=AYA q 70;have o:=AYA q 30;rw[<-Gr]at B;rw[<-jM]at o;obtain⟨I,hI⟩:=AI (r*AL);have A0:(r+1)*AL=I+AL:=by rw[uc,hI]
 have EK:AZ.wrap ((r:Int)*(AL:Int))=(I:Int):=by
  have:(r:Int)*(AL:Int)=(I:Int):=by rw[<-hI];push_cast;rfl
  rw[this];exact Ac
 have R:AZ.wrap ((r:Int)+1)=(r:Int)+1:=Ac;have S:AZ.wrap (((r:Int)+1)*(AL:Int))=(I:Int)+(AL:Int):=by
  have:((r:Int)+1)*(AL:Int)=(I:Int)+(AL:Int):=by have:=congrArg (λn:Nat=>(n:Int)) A0;push_cast at this;exact this
  rw[this];exact Ac
 rw[hI]at M Q A2;clear hE z hD B o;have B:=AYA q 70;have o:=AYA q 30;rw[<-Gr]at B;rw[<-jM]at o;refine en func247 ntmps247 ?_;refine wy (cj2 @Av @EK Akz) (cj2 B o W) ⟨?_⟩;have e0:(I:Int)=((I+0:Nat):Int):=ZA;rw[e0];refine CX (ι:={ k:Nat // k<=AL }) (λk=>[(10,(A k.1:Int)),(11,(D k.1:Int)),(12,((I+k.1:Nat):Int))]) (λ_=>[]) (λk=>AL - k.1) ⟨0,CI _⟩ ?_ ?_;exact DH;rintro ⟨k,hk⟩;simp only;obtain⟨i,hi⟩:=AI (I+k);rw[hi];by_cases A3:k<AL;have OF:i<G cells:=Ux;have A1:i<G rs:=Ux;have Dn:(i:Int)<(I:Int)+(AL:Int):=Ux;have hg:rs[i]?=J (A4 cells i).row:=by rw[<-Aw,lF,CM,wQ OF];rfl
 have Ei:=gx hg;have hw:AZ.wrap ((i:Int)+1)=((I+(k+1):Nat):Int):=by rw[Ac];omega
 have H:=M k;have K:=Q k;rw[hi]at H K;generalize hb:A4 cells i=b at hg Ei H K;obtain⟨b0,b1,b2,b3,b4,b5,b6,b7,b8,b9,Oz⟩:=b;simp only[AA.row]at hg Ei H K;obtain⟨m,hm⟩:=AI (A k);obtain⟨m',qq⟩:=AI (D k);rw[hm]at H;rw[qq]at K;rw[hm,qq];refine wy (cj9 @Av @OF @A1 @hg @Ei @hw @R @S @Dn Akz) trivial ⟨?_⟩;refine⟨⟨k+1,Ux⟩,by simp only;omega,?_⟩;simp only[H,K,mx];exact DH;obtain rfl:k=AL:=Ux;have Dn : ¬(i:Int)<(I:Int)+(k:Int):=Ux;exact wz (cj4 @Av @R @S @Dn Akz) W
theorem Ami (f:AP)(s:Aa)(cells:List AA)(AL AG:Nat)(hf:f.Fit)(hv:f.valid=I)(ho:s.ok=I)(z:G cells=AG*AL)(HL:1<=AL)(GM:AL<=16)(HP:1<=AG)(KY:G cells<=256)(hb : ∀b∈cells,b.Ad=I/\b.BX/\b.cnt<=1000000):AC AF 245 [.agg f.vs,Aj s,(AL:Int),.c (.sl (AA.AG cells))] (0:Int):=by
 have o:=ba f hf;rw[hv]at o;have M:=AAA s;rw[ho]at M;obtain⟨S,K⟩:=AI (AA.AG cells);have B:G S=G cells:=by rw[<-K,GA]
 have Jh:1<=G cells:=by rw[z];exact Ps HP (AMy _ HL)
 have k1 : ¬(AL:Int)<1:=Ux;have k2 : ¬16<(AL:Int):=Ux;have k3 : ¬(G cells:Int)=0:=Ux;have k4 : ¬256<(G cells:Int):=Ux;have k5 : ¬(AL:Int)=0:=Ux;have k6:(G cells:Int).tmod (AL:Int)=0:=by
  rw[z];push_cast
  exact AkD _ _
 generalize kA:G cells=n at B k3 k4 k6 KY;rw[K];unfold Aj at M ⊢;refine en func245 ntmps245 ?_;refine wy (cj @B<|Aky) (cj2 o M W) ⟨?_⟩;refine CX (ι:={ k:Nat // k<=n }) (λk=>[(8,(0:Int)),(9,(k.1:Int))]) (λk=>[.box 27 f.vs U,.box 35 [s.By,.c (.bool s.Hd)] U]) (λk=>n - k.1) ⟨0,CI _⟩ ?_ ?_;exact DH;rintro ⟨k,hk⟩;simp only;by_cases R:k<n;have nu:k<G cells:=Ux;have uq:k<G S:=Ux;have Q:S[k]?=J (A4 cells k).row:=by rw[<-K,lF,CM,wQ nu];rfl
 have q:=gx Q;obtain⟨h1,h2,h3⟩:=hb _ (bK nu);have H:=m7 _ h2 h3;rw[h1]at H;have hw:AZ.wrap ((k:Int)+1)=((k+1:Nat):Int):=by rw[Ac];push_cast;rfl
 generalize CT:A4 cells k=b at Q q H;unfold Ao at H;refine wy (cj6 @B @R @uq @Q @q @hw Aky) (cj H<|trivial) ⟨?_⟩;refine⟨⟨k+1,Ux⟩,by simp only;omega,?_⟩;exact DH;obtain rfl:k=n:=Ux;exact wz (cj7 @B @k1 @k2 @k3 @k4 @k5 @k6 Aky) W
theorem AmR (ho:AA.FY AE)(hc:AA.Az AE<=1000000):AC AF 152 [.c (.sl (AA.AG AE))] (.c (.bool (AE.all AA.Ad))):=by
 obtain⟨o,M⟩:=AI (AA.AG AE);have K:G o=G AE:=by rw[<-M,Dt];simp
 have Ce:=Ud AE;rw[M];refine en func152 ntmps152 ?_;refine wy (cj @K<|Akr) trivial ⟨?_⟩;refine CX (ι:={ k:Nat // k<=G AE/\AE.all AA.Ad=(AE.drop k).all AA.Ad }) (λk=>[(2,.c (.bool U)),(3,(k.1:Int))]) (λ_=>[]) (λk=>G AE - k.1) ⟨0,ZA⟩ ?_ ?_;exact DH
 . rintro ⟨k,hk,S⟩;simp only;by_cases B:k<G AE
   . obtain⟨c,H⟩:=AI (AE[k]);have Q:AE[k]?=J c:=by rw[BE B,H]
     rw[D5 B,H,Ep]at S;have q:o[k]?=J c.row:=by rw[<-M,Dt,CM,Q];rfl
     have Dp:k<G o:=Ux;have Bu:=gx q;have FX:=bj AE k c Q;have z:=m7 c (kl ho c (Cj Q)) Ux;rw[As]at z;have R:=(cj5 @K @B @Dp @q @Bu Akr)
     have cc:=(cj z<|trivial)
     repeat any_goals (first|refine Du R cc ⟨?_⟩|exact Bt R|(refine Dv R ?_ ?_<;>intro h<;>try exact Dw))
     all_goals exact⟨⟨k+1,Ux,by rw[S,h,Cd]⟩,by simp only;omega,wd 0⟩
   rw[FA Ux,Nq]at S;exact wz (cj2 @K @B Akr) W
def HX:List AA->Int->Int
 | [],w=>w
 | b::l,w=>HX l (w+b.w)
theorem AkC : ∀(l:List AA) (k:Nat) (b:AA) (w:Int),l[k]?=J b->HX (l.take (k+1)) w=HX (l.take k) w+b.w
 | [],_,_,_,h=>by simp at h
 | x::l,0,b,w,h=>by simp at h;subst h;rfl
 | x::l,k+1,b,w,h=>by simp only[DP,HX];exact AkC l k b _ (by simpa using h)
theorem AmS (hv : ∀b∈AE,b.Ad=I)(ea:G AE<=1000000):AC AF 153 [.c (.sl (AA.AG AE))] (HX AE 0:Int):=by
 obtain⟨S,M⟩:=AI (AA.AG AE);have K:G S=G AE:=by rw[<-M,Dt];simp
 rw[M];refine en func153 ntmps153 ?_;refine wy (cj @K<|ARo) trivial ⟨?_⟩;refine CX (ι:={ k:Nat // k<=G AE/\ -(k:Int)*1073741824<=HX (AE.take k) 0/\HX (AE.take k) 0<=(k:Int)*1073741824 }) (λk=>[(2,(0:Int)),(3,(HX (AE.take k.1) 0:Int)),(4,(k.1:Int))]) (λ_=>[]) (λk=>G AE - k.1) ⟨0,by simp[HX]⟩ ?_ ?_;exact ER (cj @HX.eq_1<|@HX.eq_2);rintro ⟨k,hk,b1,b2⟩;simp only;by_cases B:k<G AE;obtain⟨c,R⟩:=AI (AE[k]);have Q:AE[k]?=J c:=by rw[BE B,R]
 have o:S[k]?=J c.row:=by rw[<-M,Dt,CM,Q];rfl
 have z:k<G S:=Ux;have q:=gx o;have H:=AkC AE k c 0 Q;obtain⟨cw,_⟩:=D3 (hv c (Cj Q));generalize hE:HX (AE.take k) 0=E at b1 b2 H ⊢;refine wy (cj6 @K @B @z @o @q @H.symm ARo) trivial ⟨?_⟩;exact⟨⟨k+1,Ux,by rw[H];omega,by rw[H];omega⟩,by simp only;omega,wd 0⟩;have e1:AE.take k=AE:=Gl Ux;rw[e1];exact wz (cj2 @K @B ARo) W
@[simp] theorem AA.ArY (x:Int):b.vs.set 6 (.c (.int .i64 x))=(b.AS x b.y).vs:=by cases b;rfl
theorem AjS : ∀ {a:List AA} {p:List Int} (b:AA) (x:Int),G a=G p->EY (a++[b]) (p++[x])=EY a p++[b.AS x b.y]
 | [],[],b,x,_=>rfl
 | c::a,q::p,b,x,h=>by simp only[BK,EY];rw[AjS b x (by simpa using h)]
 | [],_::_,_,_,h=>by simp at h
 | _::_,[],_,_,h=>by simp at h
def Ix (w h d:Int)(AE:V):List V:=[.c (.int .i64 3),.c (.str ⟨#[]⟩),.c (.int .i64 0),.c (.int .i64 w),.c (.int .i64 h),.c (.int .i64 d),.c (.int .i64 0),.c (.int .i64 0),AE,.c (.int .i64 0),.Bg []]
theorem AmQ (sp:List Int)(w:Int)(hv : ∀b∈AE,b.Ad=I)(hs : ∀s∈sp,An s=I)(ho:AA.FY AE)(hl:G sp=G AE)(hc:AA.Az AE<=900000)(ea:G AE<=10000):AC AF 154 [.c (.sl (AA.AG AE)),.c (AV sp),w] (Ba (Tk AE (FT AE sp 0) w)):=by
 obtain⟨rs,Aw⟩:=AI (AA.AG AE);have q:G rs=G AE:=by rw[<-Aw,Dt];simp
 obtain⟨ps,Ru⟩:=AI (sp.map (λn=>[C.int .i64 n]));have o:G ps=G AE:=by rw[<-Ru,Ch,hl]
 have Wd:AV sp=.sl ps:=by rw[<-Ru];rfl
 have A1:=VK 0 hl;have K:=m7 (Qf AE (FT AE sp 0) w) (show AA.BX (Bf _ _ _ _)from⟨(CI _:0<=maxLen),(CI _:0<=maxLen),AJd ho⟩) (by show AA.cnt (Bf _ _ _ _)<=_;simp only[Bf,AA.cnt,dz A1];omega);rw[Aw,Wd];refine en func154 ntmps154 ?_;refine wy (cj2 @q @o AGN) trivial ⟨?_⟩;refine AW.le (Le.T4 1 8 56 11 rfl F) ?_;simp only[BA,BO,Nat.reduceAdd,Ag,Ai,BK,BU];refine CX (ι:={ k:Nat // k<=G AE/\KL (AE.take k) 0<=3000000000/\0<=KL (AE.take k) 0/\J1 (AE.take k) 0<=3000000000/\0<=J1 (AE.take k) 0/\ -(k:Int)*2147483648<=Eh (AE.take k) (sp.take k) 0/\Eh (AE.take k) (sp.take k) 0<=(k:Int)*2147483648 }) (λk=>[(9,(Eh (AE.take k.1) (sp.take k.1) 0:Int)),(10,(k.1:Int))]) (λk=>[.box 56 BT U,.box 56 (Ix w (KL (AE.take k.1) 0) (J1 (AE.take k.1) 0) (.gr 2 11 (AA.AG (EY (AE.take k.1) (FT (AE.take k.1) (sp.take k.1) 0))))) U,.tok 56 11 k.1]) (λk=>G AE - k.1) ⟨0,by simp[KL,J1,Eh]⟩ ?_ ?_;exact ER (cj9 @KL.eq_1 @KL.eq_2 @J1.eq_1 @J1.eq_2 @Eh.eq_1 @Eh.eq_2 @BT.eq_1 @Ix.eq_1 @EY.eq_1<|cj4 @EY.eq_2 @FT.eq_1 @FT.eq_2 @AA.AG.eq_1 @AA.AG.eq_2);rintro ⟨k,hk,t1,t2,b1,b2,e1,e2⟩;simp only;by_cases B:k<G AE;obtain⟨c,A2⟩:=AI (AE[k]);have H:AE[k]?=J c:=by rw[BE B,A2]
 have A0:k<G sp:=Ux;obtain⟨s,Cu⟩:=AI (sp[k]);have z:sp[k]?=J s:=by rw[BE A0,Cu]
 have A9:rs[k]?=J c.row:=by rw[<-Aw,Dt,CM,H];rfl
 have Dp:k<G rs:=Ux;have qo:k<G ps:=Ux;have Bu:=gx A9;have KZ:ps[k]?=J [.int .i64 s]:=by rw[<-Ru,CM,z];rfl
 have rB:=gx KZ;have S:=hv c (Cj H);obtain⟨cw,ch,cd,_⟩:=D3 S;obtain⟨cx,cy⟩:=AaP S;have QW:=hs s (Cj z);simp[An]at QW;have hE:=xV 0 H z;have kE:=AJl 0 H z;have Q:=ALc AE k c 0 H;have M:=AEP AE k c 0 H;have GP:AE.take (k+1)=AE.take k++[c]:=by rw[List.take_add_one,H];rfl
 have HO:G (FT (AE.take k) (sp.take k) 0)=k:=by rw[VK _ (by simp[hl]),Fa];omega
 have Jg:=AjS c (Eh (AE.take k) (sp.take k) 0+s) (show G (AE.take k)=G (FT (AE.take k) (sp.take k) 0) by rw[HO,Fa];omega);rw[<-GP,<-kE]at Jg;have ml:AA.AG (EY (AE.take (k+1)) (FT (AE.take (k+1)) (sp.take (k+1)) 0))=AA.AG (EY (AE.take k) (FT (AE.take k) (sp.take k) 0))++[(c.AS (Eh (AE.take k) (sp.take k) 0+s) c.y).row]:=by rw[Jg,Dt,Dt,Fm];rfl
 have Md:G (AA.AG (EY (AE.take k) (FT (AE.take k) (sp.take k) 0)))=k:=by rw[Dt,Ch,kv (by rw[HO,Fa];omega),Fa];omega
 obtain⟨RR,R⟩:=AI (AA.AG (EY (AE.take k) (FT (AE.take k) (sp.take k) 0)));rw[R]at ml Md ⊢;generalize cH:Eh (AE.take k) (sp.take k) 0=E at hE ml e1 e2 ⊢;obtain⟨T,hT⟩:=AI (KL (AE.take k) 0);obtain⟨D,hD⟩:=AI (J1 (AE.take k) 0);rw[hT]at Q t1 t2 ⊢;rw[hD]at M b1 b2 ⊢;have Ew:(if T<c.y+c.h then c.y+c.h else T)=KL (AE.take (k+1)) 0:=Q.symm;have FP:(if D<c.d - c.y then c.d - c.y else D)=J1 (AE.take (k+1)) 0:=M.symm;have FO:k+1<=maxLen:=by unfold maxLen;omega
 have EX:(k+1)*128<=140737488355328:=Ux;have A3:(RR.all λr=>G r==11)=true:=by rw[<-R];rw[ES];intro r hr;simpa using lE _ r hr
 have w1:AZ.wrap (E+s)=E+s:=Ac;have w2:AZ.wrap (E+s+c.w)=Eh (AE.take (k+1)) (sp.take (k+1)) 0:=by rw[hE];exact Ac
 have w3:AZ.wrap (c.y+c.h)=c.y+c.h:=Ac;have w4:AZ.wrap (c.d - c.y)=c.d - c.y:=Ac;clear Ew FP;have Ew:(if T<c.y+c.h then c.y+c.h else T)=KL (AE.take (k+1)) 0:=Q.symm;have FP:(if D<c.d - c.y then c.d - c.y else D)=J1 (AE.take (k+1)) 0:=M.symm;refine wy (cj9 @q @o @B @Dp @qo @A9 @Bu @KZ @rB<|cj9 @w1 @w2 @w3 @w4 @Ew @FP @FO @EX @Md<|cj2 @ml.symm @Ix.eq_1 AGN) trivial ⟨?_⟩;refine⟨⟨k+1,Ux,by rw[Q,DU];omega,by rw[Q,DU];omega,by rw[M,DU];omega,by rw[M,DU];omega,by rw[hE];omega,by rw[hE];omega⟩,by simp only;omega,?_⟩;refine Le.MI 3 (F2 F) (by simp[DG,BT,Ix]) (by simp[BT,Ix]) (by simp[V.BI,V.A8]) (by simp[O.A8,V.BI,V.A8,BT,Ix]);have x1:AE.take k=AE:=Gl Ux;have x2:sp.take k=sp:=Gl Ux;rw[x1,x2];unfold Tk;have eL:Qf AE (FT AE sp 0) w=⟨3,⟨#[]⟩,0,w,KL AE 0,J1 AE 0,0,0,EY AE (FT AE sp 0),0,[]⟩:=F;generalize A5:(Qf AE (FT AE sp 0) w).Ad=vb at K ⊢;rw[eL]at K ⊢;obtain⟨T,hT⟩:=AI (KL AE 0);obtain⟨D,hD⟩:=AI (J1 AE 0);obtain⟨RR,R⟩:=AI (AA.AG (EY AE (FT AE sp 0)));simp only[Ao,AA.row,AV,Ap,BB,hT,hD,R]at K ⊢;cases vb with
 | false=>rw[Awd rfl];simp only[Ba,As,AR,Fl];exact wz (cj4 @q @B @Ix.eq_1 @BT.eq_1 AGN) (cj K<|trivial)
 | true=>rw[Awf ZA];simp only[Ba,Ao,AR,AA.row,AV,Ap,BB,R];exact wz (cj4 @q @B @Ix.eq_1 @BT.eq_1 AGN) (cj K<|trivial)
def W3 (q:Int)(AL:Nat)(cells:List AA)(r c:Nat):Int:=if r=0 then X6 q AL cells c else if c=0 then X6 q AL cells AL else X6 q AL cells c
theorem Am3 (x:Af)(s:Aa)(AL AG:Nat)(cells:List AA)(hx:x.Ok)(hs:s.ok=true)(h:Cells x s AL AG cells):AC AF 200 [.agg x.f.vs,Aj s,(AL:Int),.c (.sl (AA.AG cells))] (Ba (N2 x.f s AL cells)):=by
 obtain⟨hn,HL,GM,HP,KY,rC,NT,Ws⟩:=h.ar;have zR:=h.line hx hs;have yg:=h.NI hx hs;obtain⟨p1,p2⟩:=HE hx.val hs;have Yl:=Ami x.f s cells AL AG hx.fit hx.val hs hn HL GM HP KY λb hb=>⟨h.v b hb,kj (h.v b hb),by have:=ik (h.v b hb);omega⟩
 have dG:=Ajq x.f s x.f.params.Al;have vL:=Ajq x.f s x.f.params.FD;rw[show AU x.f.params.Al (BS x.f.params s)=x.Al s from rfl]at dG;have Bn:=λ(r:Nat) (hr:r<AG)=>AnO cells AL AG r (x.Al s) hn hr HL GM KY
 have A1:=λ(c:Nat) (hc:c<AL)=>Amm cells AL AG c hn hc GM KY
 have yW:=λc=>AD5 h.ar c
 have A9:=λc=>AD6 h.ar c
 have JL:=λi hi=>ANZ h.ar (i:=i) hi
 have G4:=DM x.f.params.FD (by omega:0<=BS x.f.params s) p2;have QM:=DM (x.Al s) (by omega:(0:Int)<=20) Ux;have cL:1<=cells.length:=by rw[hn];exact Ps HP (AMy _ HL)
 have Q:cells.length / AL=AG:=by rw[hn];exact AM0 _ HL
 have Bh:N2 x.f s AL cells=if An (Oy (x.Al s) AL cells AG)=U then(AA.zero,6)else C8 (oe (x.Al s) (AU x.f.params.FD (x.sz s)) AL cells):=by
  unfold N2;rw[Q];rfl
 have B0:oe (x.Al s) (AU x.f.params.FD (x.sz s)) AL cells=Bf (Ig (x.Al s) AL cells (AL - 1)+Lh AL cells (AL - 1)) (AU x.f.params.FD (x.sz s)+Bm (Oy (x.Al s) AL cells AG)) (Oy (x.Al s) AL cells AG - (AU x.f.params.FD (x.sz s)+Bm (Oy (x.Al s) AL cells AG))) (Ox (x.Al s) AL cells (AU x.f.params.FD (x.sz s)+Bm (Oy (x.Al s) AL cells AG)) 0 cells):=by
  unfold oe;rw[Q]
 rw[Bh,B0];clear Bh B0 Q;obtain⟨q,hq⟩:=AI (x.Al s);obtain⟨AX,It⟩:=AI (AU x.f.params.FD (x.sz s));have H1 : -1073741824<=AX/\AX<=1073741824:=by rw[<-It];exact G4
 rw[show AU x.f.params.FD (BS x.f.params s)=AX from It]at vL;rw[hq]at dG zR yg QM Bn A9 rC NT ⊢;rw[It];have LB:=λB=>AD3 q AL cells B cells 0 h.v
 have H5:=h.c;obtain⟨N,hN⟩:=AI cells.length;obtain⟨rs,Aw⟩:=AI (AA.AG cells);have Av:rs.length=N:=by rw[<-Aw,GA,hN]
 have D0 : ∀k,k<N->rs[k]?=J (A4 cells k).row:=λk hk=>by rw[<-Aw,lF,CM,wQ Ux];rfl
 have EC : ∀B k,k<N->(Ox q AL cells B 0 cells)[k]?=J (wN q AL cells B k (A4 cells k)):=λB k hk=>by rw[AD4,wQ Ux,Cz];rfl
 have Ce : ∀B,(Ox q AL cells B 0 cells).length=N:=λB=>by
  rw[<-hN];refine Nat.le_antisymm (Hq λh=>?_) (Hq λh=>?_);have:=AD4 q AL cells B cells 0 cells.length;rw[BE h,M6 (BN _)]at this;cases this;have:=AD4 q AL cells B cells 0 (Ox q AL cells B 0 cells).length;rw[M6 (BN _),BE h]at this;cases this
 rw[hN]at hn KY cL JL;have G9:AG<=256:=by have:AG*1<=AG*AL:=mj _ HL;omega
 obtain⟨G,hG⟩:=AI (AU q 20);have u9:=AYA q 20;rw[hG]at QM u9;have xw : ∀k:Nat,k<=256-> -274877906944<=(k:Int)*G/\(k:Int)*G<=274877906944:=λk hk=>by
  have h1:(k:Int)*G<=(k:Int)*1073741824:=aF QM.2 Ux;have h2:(k:Int)*(-1073741824)<=(k:Int)*G:=aF QM.1 Ux;omega
 have Lt:=xw (AG - 1) Ux;rw[show ((AG - 1:Nat):Int)=(AG:Int) - 1 by omega]at Lt;have kq:AZ.wrap ((N:Int) / (AL:Int))=(AG:Int):=by
  have e:(N:Int) / (AL:Int)=(AG:Int):=by
   rw[hn,Int.natCast_mul];exact Int.mul_ediv_cancel _ Ux
  rw[e];exact Ac
 have kc : ¬(AL:Int)=0:=Ux;obtain⟨T,hT⟩:∃T:Nat->Int,T=λr=>((AG:Int) - 1)*G+NI q AL cells r:=⟨_,rfl⟩
 have qT:((AG:Int) - 1)*G=T 0:=by rw[hT];simp[NI]
 have E3 : ∀r,T (r+1)=T r+(MW q (Ha AL cells r)+N1 q (Ha AL cells r)):=λr=>by rw[hT];simp only[NI,oh];omega
 have A7 : ∀r:Nat,r<=256-> -1099511627776<=T r/\T r<=1099511627776:=λr hr=>by
  have h1:=yg r;rw[hT];simp only;omega
 have E2:Oy q AL cells AG=T AG:=by rw[hT];unfold Oy;rw[hG]
 have E4 : ∀n:Nat,n<=AG-> -1099511627776<=N3 q AL cells n/\N3 q AL cells n<=1099511627776:=λn hn=>by
  have h1:=yg n;have h2:=xw n Ux;unfold N3;rw[hG];omega
 have E9 : ∀n,N3 q AL cells (n+1)=N3 q AL cells n+(MW q (Ha AL cells n)+N1 q (Ha AL cells n))+G:=λn=>by
  unfold N3;simp only[NI,oh,hG];push_cast
  rw[Int.add_mul];omega
 rw[E2,Aw];simp only[Aw]at Yl A1 Bn;have w1:AZ.wrap ((AG:Int) - 1)=(AG:Int) - 1:=Ac;have w2:AZ.wrap (G*((AG:Int) - 1))=T 0:=by rw[Int.mul_comm,<-qT];exact Ac
 unfold Aj at Yl dG vL ⊢;unfold Aj at *
 refine en func200 ntmps200 ?_;refine wy (cj5 @Av @kq @kc @w1 @w2 gZ) (cj3 Yl dG u9 trivial) ⟨?_⟩;refine CX (ι:={ r:Nat // r<=AG }) (λr=>[(14,(T r.1:Int)),(15,(r.1:Int))]) (λ_=>[O.box 27 x.f.vs U,O.box 35 [s.By,.c (.bool s.Hd)] U,O.box 56 BT U]) (λr=>AG - r.1) ⟨0,CI _⟩ ?_ ?_;exact ER @BT.eq_1;rintro ⟨r,hr⟩;simp only;by_cases Dp:r<AG;have R:=Bn r Dp;have JN:=zR r;have Td:=A7 r Ux;have FK:=E3 r;obtain⟨K,Yp⟩:=AI (MW q (Ha AL cells r));obtain⟨z,IH⟩:=AI (N1 q (Ha AL cells r));rw[Yp,IH]at R JN FK;generalize I1:T r=tr at FK Td ⊢;have w3:AZ.wrap (K+z)=K+z:=Ac;have w4:AZ.wrap (tr+(K+z))=tr+(K+z):=Ac;have w5:AZ.wrap ((r:Int)+1)=((r+1:Nat):Int):=by rw[Ac];push_cast;rfl
 refine wy (cj4 @Dp @w3 @w4 @w5 gZ) (cj R<|trivial) ⟨?_⟩;refine⟨⟨r+1,Ux⟩,by first|omega|(simp only;omega),?_⟩;simp only[FK];refine Le.MI 3 (F2 F) (by simp[DG,BT]) (by simp[BT]) (by simp[V.BI,V.A8]) (by simp[O.A8,V.BI,V.A8,BT]);obtain rfl:r=AG:=Ux;have F7:=A7 r Ux;generalize PG:T r=o at F7 ⊢;have G7:=sb o;cases A0:An o with
 | false=>rw[A0]at G7;rw[Awd rfl];have hz:=Fl;unfold Ba;simp only[As,AR,hz];refine wy (cj2 @Dp @BT.eq_1 gZ) (cj G7<|trivial) ⟨?_⟩;exact At gZ
 | true =>
   rw[A0]at G7;rw[Awf ZA];have qh:=AP1 o;have H9:=J6 o;have w6:AZ.wrap (AX+Bm o)=AX+Bm o:=Ac;obtain⟨B,A6⟩:=AI (AX+Bm o);have G8 : -2147483648<=B/\B<=2147483648:=Ux;have w7:AZ.wrap (o - B)=o - B:=Ac;obtain⟨D,hD⟩:=AI (o - B);have w6:=w6.trans A6;have w7:=w7.trans hD;rw[A6,hD];have LB:=LB B;have EC:=EC B;have Ce:=Ce B;generalize H3:Ox q AL cells B 0 cells=H at LB EC Ce ⊢;have CA : ∀W,AC AF 202 [Ao (Bf W B D H)] (.c (.bool (Bf W B D H).Ad)):=λW=>m7 (Bf W B D H) ⟨(CI _:0<=maxLen),(CI _:0<=maxLen),LB.2.1⟩ (by simp only[Bf,AA.cnt,LB.2.2];omega)
   refine wy (cj3 @Dp @w6 @w7 gZ) (cj3 G7 vL qh trivial) ⟨?_⟩;refine AW.le (Le.T4 3 8 56 11 rfl F) ?_;simp only[BA,BO,Nat.reduceAdd,Ag,Ai,BK,BU];have y0:B - N3 q AL cells 0=B:=by simp[N3,NI]
   have v0:W3 q AL cells 0 0=0:=F;have m0:0*AL=0:=Nat.zero_mul _;refine CX (ι:={ n:Nat // n<=r }) (λn=>[(20,(B - N3 q AL cells n.1:Int)),(21,(n.1:Int))]) (λn=>[O.box 27 x.f.vs U,O.box 35 [s.By,.c (.bool s.Hd)] U,O.box 56 BT U,O.box 56 (Ix (W3 q AL cells n.1 0) B D (.gr 4 11 (AA.AG (H.take (n.1*AL))))) U,.tok 56 11 (n.1*AL)]) (λn=>r - n.1) ⟨0,CI _⟩ ?_ ?_;simp only[m0,v0,y0,ET,AA.AG];exact ER (cj @BT.eq_1<|@Ix.eq_1);rintro ⟨n,zd⟩;simp only;by_cases qm:n<r;have R:=Bn n qm;have JN:=zR n;have rO:=E4 n Ux;have rP:=E9 n;obtain⟨K,Yp⟩:=AI (MW q (Ha AL cells n));obtain⟨z,IH⟩:=AI (N1 q (Ha AL cells n));rw[Yp,IH]at R JN rP;have CB:n*AL+AL<=r*AL:=by rw[<-uc];exact Vj _ qm
   obtain⟨I,hI⟩:=AI (n*AL);have E1:(n+1)*AL=I+AL:=by rw[uc,hI]
   rw[hI]at CB ⊢;have A3 : ∀c,c<AL->(I+c) % AL=c:=λc hc=>by rw[<-hI,Nat.mul_add_mod_self_right];exact Nat.mod_eq_of_lt hc
   have A5 : ∀c,c<AL->(I+c) / AL=n:=λc hc=>by rw[<-hI,aO,AkK HL,AkI hc,M8]
   have Ew:AZ.wrap ((n:Int)*(AL:Int))=(I:Int):=by
    have:(n:Int)*(AL:Int)=(I:Int):=by rw[<-hI];push_cast;rfl
    rw[this];exact Ac
   obtain⟨Y,hY⟩:=AI (B - N3 q AL cells n);rw[hY];refine wy (cj @qm<|gZ) (cj R<|trivial) ⟨?_⟩;have e0:I+0=I:=F;have x0:Ig q AL cells 0=0:=F;refine CX (ι:={ c:Nat // c<=AL }) (λc=>[(24,(Ig q AL cells c.1:Int)),(25,(c.1:Int))]) (λc=>[O.box 27 x.f.vs U,O.box 35 [s.By,.c (.bool s.Hd)] U,O.box 56 BT U,O.box 56 (Ix (W3 q AL cells n c.1) B D (.gr 4 11 (AA.AG (H.take (I+c.1))))) U,.tok 56 11 (I+c.1)]) (λc=>AL - c.1) ⟨0,CI _⟩ ?_ ?_;exact ER (cj3 @BT.eq_1 @Ix.eq_1 @e0 @x0);rintro ⟨c,DK⟩;simp only;by_cases M:c<AL;obtain⟨i,hi⟩:=AI (I+c);have A2:i<N:=Ux;have Iv:=A3 c M;have B3:=A5 c M;rw[hi]at Iv B3;have hg:=D0 i A2;have jv:=EC i A2;have we:=JL i A2;have B2:=A1 c M;have G2:=yW c;have G5:=A9 c;have D1:=D3 (h.v _ (bK (cells:=cells) (i:=i) Ux));obtain⟨D2,D7⟩:=Ws _ (bK (cells:=cells) (i:=i) Ux);have NW:Ig q AL cells (c+1)=Ig q AL cells c+Lh AL cells c+q:=F;have Ml:W3 q AL cells n (c+1)=Ig q AL cells c+Lh AL cells c:=by unfold W3 X6;simp
   unfold wN at jv;rw[Iv,B3,Yp]at jv;rw[Iv]at we;obtain⟨b,hb⟩:=AI (A4 cells i);obtain⟨S,rN⟩:=AI (Lh AL cells c);obtain⟨xc,G6⟩:=AI (Ig q AL cells c);rw[hb]at hg jv we D1 D2 D7;rw[rN]at B2 G2 we NW Ml jv;rw[G6]at G5 NW Ml jv ⊢;rw[hY]at jv;have Wr:=AKZ H i Ux;rw[(Br.1 jv).2]at Wr;have Md:(AA.AG (H.take i)).length=i:=by rw[GA,Fa];omega
   have B1:((AA.AG (H.take i)).all λr=>r.length==11)=true:=by rw[ES];intro r hr;simpa using lE _ r hr
   rw[hi];have AM:I+(c+1)=i+1:=Ux;obtain⟨RR,YW⟩:=AI (AA.AG (H.take i));rw[YW]at Wr Md B1 ⊢;have FO:i+1<=maxLen:=by unfold maxLen;omega
   have EX:(i+1)*128<=140737488355328:=Ux;have F6:i<rs.length:=Ux;have Ei:=gx hg;have FP:AZ.wrap ((I:Int)+(c:Int))=(i:Int):=by rw[Ac];omega
   obtain⟨b0,b1,b2,b3,b4,b5,b6,b7,b8,b9,Oz⟩:=b;simp only[AA.row]at hg Ei;simp only at we D1 D2 D7;simp only[AA.AS,AA.row]at Wr;have B8:=sb (S - b3);have E0:An (S - b3)=true:=by unfold An;simp only[Ak,Awe];omega
   rw[E0]at B8;have B7:=AP1 (S - b3);have D8:=J6 (S - b3);generalize EW:Bm (S - b3)=hf at B7 D8 Wr;have k1:AZ.wrap (S - b3)=S - b3:=Ac;have k2:AZ.wrap (xc+hf)=xc+hf:=Ac;have k3:AZ.wrap (Y - K)=Y - K:=Ac;have k4:AZ.wrap (xc+S)=W3 q AL cells n (c+1):=by rw[Ml];exact Ac
   have k5:AZ.wrap (S+q)=S+q:=Ac;have k6:AZ.wrap (xc+(S+q))=Ig q AL cells (c+1):=by rw[NW,Int.add_assoc];exact Ac
   have k7:AZ.wrap ((c:Int)+1)=((c+1:Nat):Int):=by rw[Ac];push_cast;rfl
   have x4:=Wr.symm;clear Wr jv EC D0 Bn A1 A3 A5;refine wy (cj9 @M @Ew @FP @F6 @Av @hg @Ei @k1 @k2<|cj9 @k3 @k4 @k5 @k6 @k7 @Md @FO @EX @x4<|cj @Ix.eq_1 gZ) (cj3 B2 B8 B7 trivial) ⟨?_⟩;refine⟨⟨c+1,Ux⟩,by simp only;omega,?_⟩;simp only[AM];refine Le.MI 5 (F2 F) (by simp[DG,BT,Ix]) (by simp[BT,Ix]) (by simp[V.BI,V.A8]) (by simp[O.A8,V.BI,V.A8,BT,Ix]);obtain rfl:c=AL:=Ux;have Fv:W3 q c cells n c=W3 q c cells (n+1) 0:=by
    unfold W3;rw[Awf (Nat.succ_ne_zero n),Awd rfl];split;rfl;rw[Awf Ux]
   have k1:AZ.wrap (K+z)=K+z:=Ac;have k2:AZ.wrap (K+z+G)=K+z+G:=Ac;have k3:AZ.wrap (Y - (K+z+G))=B - N3 q c cells (n+1):=by rw[rP,Ac];omega
   have k4:AZ.wrap ((n:Int)+1)=((n+1:Nat):Int):=by rw[Ac];push_cast;rfl
   refine wy (cj5 @M @k1 @k2 @k3 @k4 gZ) trivial ⟨?_⟩;refine⟨⟨n+1,Ux⟩,by simp only;omega,?_⟩;simp only[E1,<-Fv];refine Le.MI 5 (F2 F) (by simp[DG,BT,Ix]) (by simp[BT,Ix]) (by simp[V.BI,V.A8]) (by simp[O.A8,V.BI,V.A8,BT,Ix]);obtain rfl:n=r:=Ux;have ht:H.take (n*AL)=H:=Gl Ux;have Fv:W3 q AL cells n 0=Ig q AL cells (AL - 1)+Lh AL cells (AL - 1):=by
    unfold W3 X6;rw[Awf Ux,Awd F,Awf Ux]
   rw[ht,Fv];generalize H4:Ig q AL cells (AL - 1)+Lh AL cells (AL - 1)=W9;have CA:=CA W9;unfold C8;generalize I2:(Bf W9 B D H).Ad=vb at CA ⊢;obtain⟨RR,YW⟩:=AI (AA.AG H);simp only[Bf,Ao,AA.row,AV,Ap,BB,YW]at CA ⊢;cases vb with
   | false=>rw[Awf ZB];simp only[Ba,As,AR,Fl];refine wu (.mk 99) (cj3 @qm @Ix.eq_1 @BT.eq_1 gZ) (cj CA<|trivial) ⟨?_⟩;simp[iK,DV,C0,DE,V.CP,V.CF,CJ,gZ]
   | true=>rw[Awd rfl];simp only[Ba,Ao,AR,AA.row,AV,Ap,BB,YW];refine wu (.mk 99) (cj3 @qm @Ix.eq_1 @BT.eq_1 gZ) (cj CA<|trivial) ⟨?_⟩;simp[iK,DV,C0,DE,V.CP,V.CF,CJ,gZ]
def Jw:List Int->Int->Int
 | [],w=>w
 | s::l,w=>Jw l (w+s)
theorem Aj5 : ∀(l:List Int) (k:Nat) (b:Int) (w:Int),l[k]?=J b->Jw (l.take (k+1)) w=Jw (l.take k) w+b
 | [],_,_,_,h=>by simp at h
 | x::l,0,b,w,h=>by simp at h;subst h;rfl
 | x::l,k+1,b,w,h=>by simp only[DP,Jw];exact Aj5 l k b _ (by simpa using h)
theorem AQD : ∀(l:List Int) (w:Int),Jw l w=w+Jw l 0
 | [],w=>by simp[Jw]
 | s::l,w=>by simp only[Jw];rw[AQD l (w+s),AQD l (0+s)];omega
theorem Aaq : ∀(l:List AA) (w:Int),HX l w=w+HX l 0
 | [],w=>by simp[HX]
 | b::l,w=>by simp only[HX];rw[Aaq l (w+b.w),Aaq l (0+b.w)];omega
theorem AiM : ∀(l:List AA) (t:List Int) (e:Int),G t=G l->Eh l t e=e+HX l 0+Jw t 0
 | [],[],e,_=>by simp[Eh,HX,Jw]
 | b::l,s::t,e,h=>by
   simp only[Eh,HX,Jw];rw[AiM l t _ (by simpa using h),Aaq l (0+b.w),AQD t (0+s)];omega
 | [],_::_,_,h=>by simp at h
 | _::_,[],_,h=>by simp at h
theorem AkB : ∀(l:List AA) (w:Int),(∀b∈l,b.Ad=I)->w - (G l:Int)*1073741824<=HX l w/\HX l w<=w+(G l:Int)*1073741824
 | [],w,_=>by simp[HX]
 | b::l,w,h=>by
   obtain⟨H,_⟩:=D3 (h b GH);have:=AkB l (w+b.w) λc B=>h c (Gk _ B)
   simp only[HX,BA];omega
theorem AXX (sp:List Int)(ho:AA.FY AE)(hc:AA.Az AE<=900000)(ea:G AE<=10000)(A0:G sp<=10000):AC AF 116 [.c (.sl (AA.AG AE)),.c (AV sp)] (Ba (F9 AE sp)):=by
 have K:=AmR AE ho Ux;obtain⟨rs,q⟩:=AI (AA.AG AE);have o:G rs=G AE:=by rw[<-q,Dt];simp
 obtain⟨ps,Ru⟩:=AI (sp.map (λn=>[C.int .i64 n]));have H:G ps=G sp:=by rw[<-Ru,Ch]
 have Wd:AV sp=.sl ps:=by rw[<-Ru];rfl
 rw[q]at K;unfold F9;rw[q,Wd];refine en func116 ntmps116 ?_;have ff:=(cj6 @o @H @Ba.eq_1 @As @AR.eq_1 @Fl AG5)
 have cc:=(cj K<|trivial)
 repeat any_goals (first|refine Du ff cc ⟨?_⟩|exact Bt ff|(refine Dv ff ?_ ?_<;>intro h<;>try exact Dw))
 have dJ:AE.all AA.Ad=true:=‹_›;have Mk:=ANN dJ;rw[Awf (by simp[dJ])];have S:=AmS AE Mk Ux;have Ws:=AkB AE 0 Mk;rw[q]at S;obtain⟨M,Mc⟩:=AI ((if G sp≠G AE\/sp.all An=U then(AA.zero,2)else Tk AE (FT AE sp 0) (Eh AE sp 0)));rw[Mc];obtain⟨W,hW⟩:=AI (HX AE 0);rw[hW]at S Ws;refine wy (cj2 @o @H AG5) (cj S<|trivial) ⟨?_⟩;refine CX (ι:={ k:Nat // k<=G sp/\sp.all An=(sp.drop k).all An/\W - (k:Int)*1073741824<=Jw (sp.take k) W/\Jw (sp.take k) W<=W+(k:Int)*1073741824 }) (λk=>[(5,(0:Int)),(6,(Jw (sp.take k.1) W:Int)),(7,(k.1:Int))]) (λk=>[.box 56 BT U]) (λk=>G sp - k.1) ⟨0,by simp[Jw]⟩ ?_ ?_;exact ER (cj2 @Jw.eq_1 @Jw.eq_2 @BT.eq_1);rintro ⟨k,hk,Q,b1,b2⟩;simp only;by_cases B:k<G sp;obtain⟨s,Cu⟩:=AI (sp[k]);have OE:sp[k]?=J s:=by rw[BE B,Cu]
 rw[D5 B,Cu,Ep]at Q;have qo:k<G ps:=Ux;have KZ:ps[k]?=J [.int .i64 s]:=by rw[<-Ru,CM,OE];rfl
 have rB:=gx KZ;have z:=sb s;have hw:=Aj5 sp k s W OE;generalize hE:Jw (sp.take k) W=E at b1 b2 hw ⊢;cases R:An s with
 | false =>
   have e:M=(AA.zero,2):=by rw[<-Mc,Awd (.inr (by rw[Q,R];rfl))]
   rw[e];rw[R]at z;exact wz (cj9 @o @H @B @qo @KZ @rB @Ba.eq_1 @As @AR.eq_1<|cj2 @Fl @BT.eq_1 AG5) (cj z<|trivial)
 | true =>
   rw[R]at z;rw[R,Cd]at Q;simp[An]at R;have w1:AZ.wrap (E+s)=Jw (sp.take (k+1)) W:=by rw[hw];exact Ac
   refine wy (cj7 @o @H @B @qo @KZ @rB @w1 AG5) (cj z<|trivial) ⟨?_⟩;exact⟨⟨k+1,Ux,Q,by rw[hw];omega,by rw[hw];omega⟩,by simp only;omega,wd 1⟩
 have e1:sp.take k=sp:=Gl Ux;rw[FA Ux,Nq]at Q;rw[e1];by_cases hl:G sp=G AE;have zG:Jw sp W=Eh AE sp 0:=by rw[AiM AE sp 0 hl,AQD,hW];omega
 have e:M=Tk AE (FT AE sp 0) (Eh AE sp 0):=by rw[<-Mc,Awf (by simp[Q,hl])]
 have hp:=AmQ AE sp (Eh AE sp 0) Mk (λs R=>ES.1 Q s R) ho hl hc ea;have BD:(G sp:Int)=(G AE:Int):=Ux;rw[q,Wd]at hp;rw[e,zG];generalize hY:Tk AE (FT AE sp 0) (Eh AE sp 0)=Y at hp ⊢;simp only[Ba,As,AR]at hp ⊢;exact wz (cj5 @o @H @B @BD @BT.eq_1 AG5) (cj hp<|trivial);have e:M=(AA.zero,2):=by rw[<-Mc,Awd (.inl hl)]
 have BD : ¬(G sp:Int)=(G AE:Int):=Ux;rw[e];exact wz (cj9 @o @H @B @BD @Ba.eq_1 @As @AR.eq_1 @Fl @BT.eq_1 AG5) trivial
theorem AcM {b:AA}(h:b.Ad=I)(x y:Int):(b.AS x y).Ad=(An x && An y):=by
 obtain⟨Q,R,o,q,M,K,bx,Bq,B,S,H⟩:=b;simp only[AA.Ad,Ak,Awe]at h;obtain⟨z,h2,h3⟩:=h;simp only[AA.D8,AA.Cl,AA.lens,Ak,Ep,Nq]at z;obtain⟨⟨⟨l1,l2,l3,l4,l5,_⟩,k1,k2⟩,h4⟩:=z;have nE:AA.Fi ⟨Q,R,o,q,M,K,x,y,B,S,H⟩=true:=k1;have kP:AA.Js ⟨Q,R,o,q,M,K,x,y,B,S,H⟩=true:=k2;have J3:AA.cnt ⟨Q,R,o,q,M,K,x,y,B,S,H⟩<=20000:=h2;have Jd:AA.nest ⟨Q,R,o,q,M,K,x,y,B,S,H⟩<=100:=h3;have ho:AA.Cl ⟨Q,R,o,q,M,K,x,y,B,S,H⟩=(An x && An y):=by
  unfold AA.Cl;rw[nE,kP];simp only[AA.lens,Ep,Nq,l1,l2,l3,Cd,Km]
 have hp:AA.D8 ⟨Q,R,o,q,M,K,x,y,B,S,H⟩=(An x && An y):=by
  show (AA.Cl ⟨Q,R,o,q,M,K,x,y,B,S,H⟩ && AA.FU B)=_;rw[ho,h4,Km]
 show (AA.D8 ⟨Q,R,o,q,M,K,x,y,B,S,H⟩ && (decide (AA.cnt ⟨Q,R,o,q,M,K,x,y,B,S,H⟩<=20000) && decide (AA.nest ⟨Q,R,o,q,M,K,x,y,B,S,H⟩<=100)))=_;rw[hp,Awk J3,Awk Jd,LW,Km]
theorem AnC {b:AA}(hb:b.Ad=I)(L R:AA):F9 [L,b.AS b.x 0,R] [0,0,0]=F9 [L,b.AS 0 0,R] [0,0,0]:=by
 obtain⟨H,_⟩:=AaP hb;have B:An 0=true:=Mp Ux Ux;have K:(b.AS b.x 0).Ad=true:=by rw[AcM hb,Mp H.1 H.2,B];rfl
 have M:(b.AS 0 0).Ad=true:=by rw[AcM hb,B];rfl
 have q1:([L,b.AS b.x 0,R].all AA.Ad)=([L,b.AS 0 0,R].all AA.Ad):=by simp only[Ep,K,M]
 have q2:G ([0,0,0]:List Int)≠[L,b.AS b.x 0,R].length↔G ([0,0,0]:List Int)≠[L,b.AS 0 0,R].length:=Iff.rfl;have Q:Tk [L,b.AS b.x 0,R] (FT [L,b.AS b.x 0,R] [0,0,0] 0) (Eh [L,b.AS b.x 0,R] [0,0,0] 0)=Tk [L,b.AS 0 0,R] (FT [L,b.AS 0 0,R] [0,0,0] 0) (Eh [L,b.AS 0 0,R] [0,0,0] 0):=F;unfold F9;rw[q1,Q];rfl
theorem Amu (f:AP)(B:ByteArray)(b:AA)(p:Int)(q:f.Fit)(hz : ∀s∈f.C5,G s.sizes<=1000)(z:b.BX)(hc:b.cnt<=800000)(hn:B.size<=maxLen):AC AF 199 [.agg f.vs,.c (.str B),Ao b,p] (Ba (O5 f B b p)):=by
 have EW:=ba f q;have CA:=m7 b z Ux;have Wm:=AmF B hn;have M:=Am7 f b p q z Ux;obtain⟨N,hN⟩:=AI (P9 f b p);unfold O5;rw[hN]at M ⊢;simp only[Ba,As,AR]at CA M ⊢;refine en func199 ntmps199 ?_;have H:=(cj4 @Ba.eq_1 @As @AR.eq_1 @Fl results199)
 repeat any_goals (first|refine Qu (.mk 6) ?_|exact Bt H|refine De H ?_|refine BV H (EW) ?_|refine BV H (CA) ?_|refine BV H (Wm) ?_|refine BV H (M) ?_|refine DI H ?_|((first|refine JC H ?_ ?_|refine JE H ?_ ?_|refine JD H ?_ ?_|refine JY H ?_ ?_)<;>intro h<;>try (exfalso;first|omega|contradiction)))
 have hv:f.valid=true:=‹_›;have D7:b.Ad=true:=‹_›;have S:Nh B=true:=‹_›;have p1:1<=p:=Ux;have p2:p<=100:=Ux;rw[Awf (by simp[hv,D7,S]),Awf Ux];obtain⟨L,hL,l1,l2⟩:=AE7 hv p1 p2 (sB S 0 Ux) N;obtain⟨R,hR,r1,r2⟩:=AE7 hv p1 p2 (sB S 1 Ux) N;have rE:=sC S;have o:=Ajh f (Kg B 0) N p q (by unfold Kg;rw[fg,rE];unfold maxLen;omega) hz;have K:=Ajh f (Kg B 1) N p q (by unfold Kg;rw[fg,rE];unfold maxLen;omega) hz;have Q:=AXX [L,b.AS b.x 0,R] [0,0,0] ⟨l1,F4 _ _ z,r1,trivial⟩ (by simp only[AA.Az,Hb];omega) ZA ZA;rw[AnC D7]at Q;rw[hL]at o ⊢;rw[hR]at K ⊢;obtain⟨Y,hY⟩:=AI (F9 [L,b.AS 0 0,R] [0,0,0]);simp only[hY]at Q ⊢;obtain⟨A,hA⟩:=AI (b.AS b.x 0);rw[hA]at Q;unfold Kg at o K;simp only[Ba,As,AR,AA.AG,AV,Ap,BB,Cz,Nat.reduceAdd]at o K Q ⊢;exact wz (cj2 @rE @hA results199) (cj3 o K Q W)
theorem Am4 (f:AP)(s:Aa)(b g:AA)(hf:f.Fit)(hz : ∀s∈f.C5,s.sizes.length<=1000)(hv:f.valid=I)(ho:s.ok=I)(hb:b.Ad=I)(D7:b.BX)(hg:g.Ad=I)(A7:g.BX):AC AF 197 [.agg f.vs,Aj s,Ao b,.c (.sl [g.row])] (Ba (C8 (Qp f s b [g]))):=by
 obtain⟨p1,p2,r1,r2,l1,l2,sg,g1,g2⟩:=AKM (b:=b) hv ho;obtain⟨bw,bh,bd,bc⟩:=D3 hb;obtain⟨gw,gh,gd,G2⟩:=D3 hg;have Gt:b.src.length<=1000000:=by have:=GD hb;cases b;simp only[AA.Fq]at this;exact this.1
 have F7:g.src.length<=1000000:=by have:=GD hg;cases g;simp only[AA.Fq]at this;exact this.1
 have Yl:=pe f s [b,g] hf (by intro c hc;simp only[Cf,List.not_mem_nil,Awj]at hc;rcases hc with rfl|rfl<;>first|exact⟨D7,Ux⟩|exact⟨A7,Ux⟩) ZA;have eC:eb f s [b,g]=0:=Awf (by simp[hv,ho,hb,hg]);rw[eC]at Yl;simp only[AA.AG]at Yl;clear eC;have hL:LJ f s=if s.By=0 then Hl f s+AU (AU f.params.Gj (F1 f s)) 25 else Hl f s+AU (Hl f s) 25:=F
 have hN:Jm f s b=b.h+b.d+LJ f s+Hl f s:=F;have u9:=AnY f s b hf hz hv ho hb;have TV:=Aji f s b hv ho hb;have A8:=Aje f s hv ho;have o:=Jp f s f.params.Al;have hG:Tw f s b=if Jm f s b<(EZ f s b).h+(EZ f s b).d then LJ f s+Bm ((EZ f s b).h+(EZ f s b).d - Jm f s b)else LJ f s:=F
 have hY:Tx f s b=b.h+Tw f s b:=F;have hT:M0 f s b=Tx f s b+Hl f s:=F;have hB:Qo f s b=M0 f s b - (EZ f s b).h - (EZ f s b).d:=F;have hV:XP f s b g=Qo f s b+AU (M0 f s b - Qo f s b) 60+mx 0 g.d:=F;have hA:VO f s g=mx 0 (AU (AU f.params.Al (F1 f s)) 28+g.w - AU (AU f.params.Al (F1 f s)) 56):=F;have hX:Qp f s b [g]=Bf (VO f s g+(EZ f s b).w+mx 0 b.w) (mx (mx (M0 f s b) b.h) (XP f s b g+g.h)) (mx (mx (-(Qo f s b)) b.d) (g.d - XP f s b g)) [g.AS (VO f s g+AU (AU f.params.Al (F1 f s)) 56 - g.w) (XP f s b g),(EZ f s b).AS (VO f s g) (M0 f s b - (EZ f s b).h),(FV (mx 0 b.w) (Hl f s) 0).AS (VO f s g+(EZ f s b).w) (Tx f s b),b.AS (VO f s g+(EZ f s b).w) 0]:=F;have D2:=Jp f s f.params.rule;have eR:AU f.params.rule (BS f.params s)=Hl f s:=F;rw[eR]at D2;have eQ:AU f.params.Al (BS f.params s)=AU f.params.Al (F1 f s):=F;rw[eQ]at o;have NT:=AYA (AU f.params.Al (F1 f s)) 56;have Ta:=AYA (AU f.params.Al (F1 f s)) 28;rw[hX];obtain⟨P,hP⟩:=AI (F1 f s);obtain⟨R,z⟩:=AI (Hl f s);obtain⟨L,q⟩:=AI (LJ f s);obtain⟨N,Rf⟩:=AI (Jm f s b);obtain⟨S,hS⟩:=AI (EZ f s b);obtain⟨G,Uo⟩:=AI (Tw f s b);obtain⟨Y,Uv⟩:=AI (Tx f s b);obtain⟨T,PG⟩:=AI (M0 f s b);obtain⟨B,OA⟩:=AI (Qo f s b);obtain⟨H,yV⟩:=AI (XP f s b g);obtain⟨A,jK⟩:=AI (VO f s g);rw[hP,z,q]at hL;rw[Rf,q,z]at hN;rw[Uo,Rf,hS,q]at hG;rw[Uv,Uo]at hY;rw[PG,Uv,z]at hT;rw[OA,PG,hS]at hB;rw[yV,OA,PG]at hV;rw[jK,hP]at hA;rw[Rf]at TV;rw[q]at A8;rw[hS]at u9;rw[hP]at o NT Ta p1 p2 ⊢;rw[z]at D2 r1 r2;rw[q]at l1 l2;rw[hS]at sg;rw[Uo]at g1 g2;rw[PG,OA,Uv,z,hS,yV,jK];clear hP z q Rf hS Uo Uv PG OA hX eR eQ yV jK;obtain⟨sd,sk,sf,sc,G6,G7,G4,G5,G8,G9⟩:=sg;obtain⟨Q,A9⟩:=AI (AU (AU f.params.Al P) 28);obtain⟨K,B0⟩:=AI (AU (AU f.params.Al P) 56);have B7:=DM (p:=28) (AU f.params.Al P) Ux Ux;have nz:=DM (p:=56) (AU f.params.Al P) Ux Ux;rw[A9]at B7 Ta hA;rw[B0]at nz NT hA ⊢;obtain⟨vz,B1⟩:=AI (AU (T - B) 60);have F6:=DM (p:=60) (T - B) Ux Ux;have A6:=AYA (T - B) 60;rw[B1]at F6 hV A6;have Au:(if 0<Q+g.w - K then Q+g.w - K else 0)=A:=hA.symm;have Fb:(if K<Q+g.w then Q+g.w - K else 0)=A:=by rw[<-Au];split<;>split<;>omega
 have jM:(if 0<g.d then g.d else 0)=mx 0 g.d:=F;generalize xr:mx 0 g.d=D0 at hV jM;have bD:0<=D0/\D0<=1073741824:=by rw[<-jM];omega
 have bA:0<=A/\A<=4294967296:=by rw[<-Au];omega
 have yn:=AKJ g (A+K - g.w) H;have WZ:=AKJ S A (T - S.h);have PT:=Ajn (mx 0 b.w) R 0;have QK:=AKJ (FV (mx 0 b.w) R 0) (A+S.w) Y;have Wa:=AKJ b (A+S.w) 0;have Ew:mx 0 b.w=if 0<b.w then b.w else 0:=F
 obtain⟨W,hW⟩:=AI (mx 0 b.w);have bW:0<=W/\W<=1073741824:=by rw[hW]at Ew;omega
 rw[hW]at PT QK ⊢;have M:=aY (A+S.w+W) (mx (mx T b.h) (H+g.h)) (mx (mx (-B) b.d) (g.d - H)) [g.AS (A+K - g.w) H,S.AS A (T - S.h),(FV W R 0).AS (A+S.w) Y,b.AS (A+S.w) 0] ZA;have Ct:=Xn (Bf (A+S.w+W) (mx (mx T b.h) (H+g.h)) (mx (mx (-B) b.d) (g.d - H)) [g.AS (A+K - g.w) H,S.AS A (T - S.h),(FV W R 0).AS (A+S.w) Y,b.AS (A+S.w) 0]) ⟨(CI _:0<=maxLen),(CI _:0<=maxLen),F4 _ _ A7,F4 _ _ sk,F4 _ _ (ABe _ _ _),F4 _ _ D7,trivial⟩ (by simp only[Bf,AA.cnt,AA.Az,Hb,lH];omega);generalize Bf (A+S.w+W) (mx (mx T b.h) (H+g.h)) (mx (mx (-B) b.d) (g.d - H)) [g.AS (A+K - g.w) H,S.AS A (T - S.h),(FV W R 0).AS (A+S.w) Y,b.AS (A+S.w) 0]=Z at M Ct ⊢;simp only[AA.AG,As]at M Ct yn WZ QK Wa PT u9 TV ⊢;obtain⟨A0,Gr⟩:=AI (g.AS (A+K - g.w) H);obtain⟨A1,Ec⟩:=AI (S.AS A (T - S.h));obtain⟨U,hU⟩:=AI (FV W R 0);rw[hU]at M QK PT;obtain⟨A2,A5⟩:=AI (U.AS (A+S.w) Y);obtain⟨A3,Ik⟩:=AI (b.AS (A+S.w) 0);rw[Gr]at M yn;rw[Ec]at M WZ;rw[A5]at M QK;rw[Ik]at M Wa;clear Gr Ec A5 Ik hU;have hh:=J6 (S.h+S.d - N);have w4:AZ.wrap (b.h+b.d+L)=b.h+b.d+L:=Ac;have w6:AZ.wrap (S.h+S.d)=S.h+S.d:=Ac;have w7:AZ.wrap (S.h+S.d - N)=S.h+S.d - N:=Ac;have w8:AZ.wrap (L+Bm (S.h+S.d - N))=L+Bm (S.h+S.d - N):=Ac;have w9:AZ.wrap (b.h+G)=Y:=by rw[hY];exact Ac
 have lj:AZ.wrap (Y+R)=T:=by rw[hT];exact Ac
 have aB:AZ.wrap (T - S.h)=T - S.h:=Ac;have y7:AZ.wrap (T - S.h - S.d)=B:=by rw[hB];exact Ac
 have tY:AZ.wrap (A+S.w)=A+S.w:=Ac;have tZ:AZ.wrap (A+S.w+W)=A+S.w+W:=Ac;have y8:AZ.wrap (-B)= -B:=Ac;have B8:AZ.wrap (Q+g.w)=Q+g.w:=Ac;have D1:AZ.wrap (Q+g.w - K)=Q+g.w - K:=Ac;have D8:AZ.wrap (T - B)=T - B:=Ac;have E0:AZ.wrap (B+vz)=B+vz:=Ac;have E1:AZ.wrap (B+vz+D0)=H:=by rw[hV];exact Ac
 have E2:AZ.wrap (A+K)=A+K:=Ac;have E3:AZ.wrap (A+K - g.w)=A+K - g.w:=Ac;have E4:AZ.wrap (H+g.h)=H+g.h:=Ac;have E9:AZ.wrap (g.d - H)=g.d - H:=Ac;have H1:AZ.wrap 1=1:=Ac;have zW:(if 0<b.w then b.w else 0)=W:=by rw[<-Ew];exact hW
 unfold Aj at *
 simp only[Ba,As,AR]at Ct ⊢;clear Ew;have HL:1<=maxLen:=by unfold maxLen;omega
 have GM:2<=maxLen:=by unfold maxLen;omega
 refine en func197 ntmps197 ?_;refine go (cj @HL<|@GM) ?_;refine BZ (Yl) func227 ?_;refine Ah ?_;refine BZ (D2) vT ?_;refine Ah ?_;refine BZ (A8) func235 ?_;refine Ah ?_;refine BZ (u9) func236 ?_;refine go @w6 ?_;refine gc @w7 (TV) func237 ?_;refine Ah ?_;refine jn (λ_:Unit=>[(12,.c (.int .i64 G))]) ?_ ?_;all_goals simp only[CG,Bw,CO,Ag,Ai]
 by_cases h1:N<S.h+S.d;have Jc:N<S.h+S.d↔True:=Awn h1;rw[Awd h1]at hG;refine go @Jc ?_;refine gc @w8 (x6 (S.h+S.d - N)) func232 ?_;refine Ah ?_;refine⟨(),?_⟩;exact ER (cj @hG<|@Jc);rw[Awf h1]at hG;refine go @h1 ?_;refine⟨(),?_⟩;exact ER (cj @hG<|@h1);intro _;have Yv:(if T<b.h then b.h else T)=mx T b.h:=F;have Yu:(if -B<b.d then b.d else -B)=mx (-B) b.d:=F;obtain⟨MT,qP⟩:=AI (mx T b.h);obtain⟨MB,qO⟩:=AI (mx (-B) b.d);rw[qP]at Yv M;rw[qO]at Yu M;have B3:(if MT<H+g.h then H+g.h else MT)=mx MT (H+g.h):=F;have B2:(if MB<g.d - H then g.d - H else MB)=mx MB (g.d - H):=F;have kI:1<=maxLen:=by unfold maxLen;omega
 have Y8:4<=maxLen:=by unfold maxLen;omega
 refine go (cj3 @w9 @lj @aB @y7) ?_;refine BZ (o) vT ?_;refine Ah ?_;refine BZ (Ta) ALN ?_;refine BZ (NT) ALN ?_;refine go (cj7 @lj @y8 @Yv @Yu @B8 @D1 @Fb @D8) ?_;refine gc (cj2 @E0 @jM @E1) (A6) ALN ?_;refine go (cj @E2<|@E3) ?_;refine gc @kI (yn) APR ?_;refine go (cj7 @E4 @E9 @B3 @B2 @tY @zW @lj @aB) ?_;refine BZ (WZ) APR ?_;refine BZ (PT) func231 ?_;refine BZ (QK) APR ?_;refine gc @Y8 (Wa) APR ?_;refine go @tZ ?_;refine BZ (M) func234 ?_;refine BZ (Ct) func233 ?_;refine Ah ?_;exact At results197
end Go.Proofs.YtegconioojpgmaaGreat
