/- Part of the proof of some laws. Conditions: none. -/
import Derived.Test.YtglaipbdiofkfaaGreatY25
import Derived.Test.YtglaipbdiofkfaaGreatY26
set_option linter.unusedVariables false
set_option linter.unusedSimpArgs false
set_option maxRecDepth 100000
set_option maxHeartbeats 16000000
open Go.Proofs.Tryz renaming prog→AF,results124→JX,results132→ADC,func71→UK,ntmps71→T2,results71→VV,results30→ACA,results29→AN9,results11→ADB
open List renaming map_cons→Ap,map_nil→BB,length_cons→BA,length_nil→BO,set_cons_zero→Ag,set_cons_succ→Ai,cons_append→BK,nil_append→BU,foldl_cons→Bw,foldl_nil→CO,getElem?_eq_getElem→BE,getElem?_eq_some_iff→Br,length_take→Fa,all_eq_true→ES,eq_nil_of_length_eq_zero→Nr,take_of_length_le→Gl,length_map→Ch,length_pos_iff→Kr
open Nat renaming zero_le→CI,not_lt_zero→UE,zero_add→Cz,le_refl→BN
open Go.IntKind renaming i64→AZ
open Option renaming getD_none→Hr,isSome_none→H8,getD_some→Dm,isSome_some→IZ
open Bool renaming false_eq_true→GW,and_eq_true→Ak,false_and→D4,true_and→Cd,and_self→LW,true_eq_false→AQF,not_eq_false→ACg
open Option renaming some→J,none→E
open Bool renaming false→U,true→I
open List renaming length→G
namespace Go.Proofs.YtglaipbdiofkfaaGreat
open Go.RowKit Tryz
variable (x:Af)(n:Nd)(src:List Int)(s:Aa)
section
variable {H:Type} {enc:TypeId×Value->H} {w:World}
theorem AjP {B:Nat}:Dq enc AF w B 35 (λs:Aa=>[.int .i64 s.By,.bool s.Hd]) (λ_=>True):=by
 cases B with
 | zero=>exact Dq.zero
 | succ B=>exact(VJ underlying35 (by kernel_rfl) (C6.cons (o:=0) (o':=1) rfl (by kernel_rfl) (by decide) (Ge underlying3) (C6.cons (o:=1) (o':=2) rfl (by kernel_rfl) (by decide) (AAw underlying4) (C6.nil)))).conv (λq=>⟨q.1,q.2.1⟩) (λq=>rfl) (λq h=>trivial)
theorem sA {B:Nat}:Dq enc AF w B 30 (λx:Af=>x.f.row++[Cc x.d]) (λx=>x.f.Fit/\(G x.d)<=maxLen/\∀a∈x.d,a.text.size<=maxLen):=by
 cases B with
 | zero=>exact Dq.zero
 | succ B=>exact(VJ underlying30 (by kernel_rfl) (C6.cons (o:=0) (o':=22) rfl (by kernel_rfl) (by decide) (AVa) (C6.cons (o:=22) (o':=23) rfl (by kernel_rfl) (by decide) (AVY) (C6.nil)))).conv (λq=>⟨q.1,q.2.1⟩) (λq=>by simp) (λq h=>⟨h.1,h.2.1.1,h.2.1.2⟩)
end
def Kv (k:Int)(AE:List Nd)(L:List AA):List AA:=if k=6 then(match L with | []=>[]|b::l=>Ue AE b::l)else L
theorem Akd (k:Int)(AE:List Nd)(L:List AA)(j:Nat):(Kv k AE L)[j]?=L[j]?.map λb=>if k=6/\j=0 then Ue AE b else b:=by
 unfold Kv;by_cases h:k=6;rw[if_pos h];cases L with
 | nil=>simp
 | cons b l=>cases j<;>simp[h]
 rw[if_neg h];simp[h]
theorem Ake (k:Int)(AE:List Nd)(L:List AA):G (Kv k AE L)=G L:=by
 unfold Kv;split;cases L<;>rfl;rfl
def Ko (k:Int)(AE:List Nd):Option (List AA)->V
 | none=>.A7 [.c (.sl []),AR 6]
 | some L=>.A7 [.c (.sl (AA.AG (Kv k AE L))),AR 0]
def AcK (x:Af)(n:Nd)(src:List Int)(s:Aa):Prop:=∀(j:Nat) (k:Nd),n.AE[j]?=J k->AC AF 30 [.agg (HD x),Am k,.c (AV (src++[(j:Int)])),Aj (GB n.kind j s)] (Ba (oE (M2 x s src n.kind j k)))
def AcJ (x:Af)(n:Nd)(src:List Int)(s:Aa):Prop:=∀(j:Nat) (k:Nd),n.AE[j]?=J k->AC AF 35 [.agg (HD x),Am k,.c (AV (src++[(j:Int)])),Aj s] (Ba (oE (NZ x s src j k)))
theorem Ama (hs:s.ok=I)(hk:FL n.kind n.AL (G n.AE)=I)(h1:n.kind≠1)(DJ:G src<=100)(Ce:G n.AE<=300)(Bn:AcK x n src s):AC AF 124 [.agg (HD x),Am n,.c (AV src),Aj s] (Ko n.kind n.AE (Kh x s src n.kind 0 n.AE)):=by
 have A2:=tB x s src n.kind 0 n.AE;have Ir:=λj q hj=>AK1 x s src n.kind 0 n.AE j q hj
 have v3:=AK2 x s src n.kind 0 n.AE;have Q:=λj q hj=>AK3 x s src n.kind 0 n.AE j q hj
 have A0:=λ(i:Nat) (hi:i<G n.AE)=>Ajt n.kind (i:Int) s
 have rF:=λ(i:Nat) (hi:i<G n.AE)=>AK0 (s:=s) hs hk h1 hi
 have m5:=λ(i:Nat)=>Ajz src (i:Int) (by omega)
 have Yw : ∀(j:Nat) (k:Nd),n.AE[j]?=J k->(Nd.AG n.AE)[j]?=J k.row:=λj k hj=>XG hj
 have Rz:=Pc n.AE;obtain⟨L,hL⟩:=AI (Oe x s src n.kind 0 n.AE);rw[hL]at A2 Ir v3;have Ls:=Ake n.kind n.AE L;have nG:=Akd n.kind n.AE L;obtain⟨DL,vT⟩:=AI (Kv n.kind n.AE L);rw[vT]at Ls nG;have cb:Kh x s src n.kind 0 n.AE=J L->Ko n.kind n.AE (Kh x s src n.kind 0 n.AE)=.A7 [.c (.sl (AA.AG DL)),AR 0]:=λh=>by rw[h];unfold Ko;simp only;rw[vT]
 have jc:Kh x s src n.kind 0 n.AE=E->Ko n.kind n.AE (Kh x s src n.kind 0 n.AE)=.A7 [.c (.sl []),AR 6]:=λh=>by rw[h];rfl
 obtain⟨res,Rw⟩:=AI (Ko n.kind n.AE (Kh x s src n.kind 0 n.AE));rw[Rw]at cb jc ⊢;obtain⟨ss,Cu⟩:=AI (AV src);rw[Cu]at m5 ⊢;obtain⟨rs,Aw⟩:=AI (Nd.AG n.AE);rw[Aw]at Yw Rz;obtain⟨N,hN⟩:=AI (G n.AE);rw[hN]at A2 Rz Ce A0 rF;unfold AcK at Bn;obtain⟨kd,t,c,AE⟩:=n;simp only at Aw hN Ir v3 Q Yw nG cb jc Bn A0 rF;simp only[Am,Nd.vs,Nd.row,Ap,BB,Aw];clear Rw hL vT Cu hk;unfold Aj AR at *
 have B7:G DL=N:=by omega
 refine en func124 ntmps124 ?_;refine wy (cj @Rz<|JX) trivial ⟨?_⟩;refine AW.le (Le.tL 10 41 11 F) ?_;simp only[BA,BO,Nat.reduceAdd,Ag,Ai,BK,BU];refine lp (ι:={ k:Nat // k<=N/\∀j q,j<k->AE[j]?=J q->M2 x s src kd j q≠E }) (λk=>[(11,.c (.int .i64 (k.1:Int))),(10,.gr 3 11 (AA.AG (DL.take k.1)))]) (λk=>[O.box 30 (HD x) U,O.box 33 [.c (.int .i64 kd),.c (.str t),.c (.int .i64 c),.c (.sl rs)] U,O.box 35 [.c (.int .i64 s.By),.c (.bool s.Hd)] U,.tok 41 11 k.1]) (λk=>N - k.1) ⟨0,CI _,λ_ _ h=>absurd h (UE _)⟩ ?_ ?_;all_goals simp only[CG,Bw,CO,Ag,Ai]
 exact ER (cj @AA.AG.eq_1<|@AA.AG.eq_2);rintro ⟨j,hj,hI⟩;simp only;by_cases K:j<N
 . obtain⟨q,hq⟩:∃q,AE[j]?=J q:=⟨_,BE (by omega)⟩
   have A9:=Yw j q hq;have Bu:=gx A9;have Dh:j<G rs:=by omega
   have z:=Bn j q hq;have pG:=Ir j q hq;rw[Cz]at pG;have M:=A0 j K;rw[rF j K]at M;have PC:=m5 j;have G0:=nG j;have hw:AZ.wrap ((j:Int)+1)=((j+1:Nat):Int):=by rw[Ac];simp
   obtain⟨⟨l',c'⟩,B3⟩:=AI (GB kd (j:Int) s);rw[B3]at z M;obtain⟨sk,B2⟩:=AI (AV (src++[(j:Int)]));rw[B2]at z PC;have kA:=Q j q hq;rw[Cz]at kA;obtain⟨o,ho⟩:=AI (M2 x s src kd j q);rw[ho]at z pG kA;simp only[Zx,Aj,AR]at M z;have B0:j=0->AE.getD 0 ⟨0,⟨#[]⟩,0,[]⟩=q:=λe=>by subst e;rw[List.getD_eq_getElem?_getD,hq];rfl
   clear Yw Ir A0 rF m5 Q nG Bn;obtain⟨qk,qt,qc,A3⟩:=q;simp only[Am,Nd.vs,Nd.row,Ap,BB]at A9 Bu z;have A5:=Pc A3;generalize B8:Nd.AG A3=qr at A9 Bu z A5;cases o with
   | none=>rw[jc (kA F)];simp only[oE,Ba,Hr,H8,GW,if_false,As,AR,Fl]at z;exact wz (cj5 @K @Rz @A9 @Bu @Dh JX) (cj3 M PC z W)
   | some B =>
     rw[pG,Option.map_some,Dm]at G0;simp only[oE,Ba,Dm,IZ,if_true,As,AR]at z;have A1 : ∀i q,i<j+1->AE[i]?=J q->M2 x s src kd i q≠none:=λi q' hi DT=>by
      by_cases e:i=j;subst e;rw[hq]at DT;cases DT;rw[ho];exact λh=>nomatch h
      exact hI i q' (by omega) DT
     obtain⟨B',R⟩:=AI ((if kd=6/\j=0 then Ue AE B else B));rw[R]at G0;have Wr:=AKZ DL j (by omega);rw[(Br.1 G0).2]at Wr;have Md:G (AA.AG (DL.take j))=j:=by rw[GA,Fa];omega
     have A6:((AA.AG (DL.take j)).all λr=>G r==11)=true:=by rw[ES];intro r hr;simpa using lE _ r hr
     obtain⟨RR,YW⟩:=AI (AA.AG (DL.take j));rw[YW]at Wr Md A6 ⊢;have FO:j+1<=maxLen:=by unfold maxLen;omega
     have EX:(j+1)*128<=140737488355328:=by omega
     have A8:(kd=6/\j=0/\qr=[]/\B'=B.cB)\/(kd=6/\j=0/\¬qr=[]/\B'=B)\/(kd=6/\¬j=0/\True/\B'=B)\/(¬kd=6/\True/\True/\B'=B):=by
      by_cases S:kd=6;by_cases e2:j=0;rw[if_pos ⟨S,e2⟩]at R;unfold Ue at R;rw[B0 e2]at R;simp only at R;by_cases e3:A3=[]
      rw[if_pos e3]at R;exact .inl ⟨S,e2,Nr (by rw[A5,e3];rfl),R.symm⟩;rw[if_neg e3]at R;exact .inr (.inl ⟨S,e2,λh=>e3 (Nr (by rw[<-A5,h];rfl)),R.symm⟩);rw[if_neg λh=>e2 h.2]at R;exact .inr (.inr (.inl ⟨S,e2,trivial,R.symm⟩));rw[if_neg λh=>S h.1]at R;exact .inr (.inr (.inr ⟨S,trivial,trivial,R.symm⟩))
     clear R G0 jc cb kA hI;obtain⟨b0,b1,b2,b3,b4,b5,b6,b7,b8,b9,Oz⟩:=B;simp only[AA.vs,AA.row,Ap,BB]at z;rcases A8 with ⟨S,e2,e3,rfl⟩|⟨S,e2,e3,rfl⟩|⟨S,e2,e3,rfl⟩|⟨S,e2,e3,rfl⟩
     all_goals
      have cM:=Wr.symm;simp only[AA.cB,AA.row]at cM;clear Wr
     have xM:=iff_true_intro S;have vR:=iff_true_intro e2;have B1:=iff_true_intro e3;refine wy (cj9 @K @Rz @A9 @Bu @Dh @hw @Md @FO @EX<|cj4 @cM @xM @vR @B1 JX) (cj3 M PC z W) ⟨?_⟩;exact⟨⟨j+1,by omega,A1⟩,by simp only;omega,wd 4⟩;have xM:=iff_true_intro S;have vR:=iff_true_intro e2;refine wy (cj9 @K @Rz @A9 @Bu @Dh @hw @Md @FO @EX<|cj4 @cM @xM @vR @e3 JX) (cj3 M PC z W) ⟨?_⟩;exact⟨⟨j+1,by omega,A1⟩,by simp only;omega,wd 4⟩;have xM:=iff_true_intro S;refine wy (cj9 @K @Rz @A9 @Bu @Dh @hw @Md @FO @EX<|cj3 @cM @xM @e2 JX) (cj3 M PC z W) ⟨?_⟩;exact⟨⟨j+1,by omega,A1⟩,by simp only;omega,wd 4⟩;refine wy (cj9 @K @Rz @A9 @Bu @Dh @hw @Md @FO @EX<|cj2 @cM @S JX) (cj3 M PC z W) ⟨?_⟩;exact⟨⟨j+1,by omega,A1⟩,by simp only;omega,wd 4⟩
 obtain rfl:j=N:=by omega
 rw[cb (v3 λi q hq=>by rw[Cz];exact hI i q (by have:=(Br.1 hq).1;omega) hq),Gl (by omega)];generalize YW:AA.AG DL=RR;exact wz (cj2 @K @Rz JX) W
@[simp] theorem AoS :(HD x)[3]?=J (.c (.int .i64 x.f.params.Gj)):=by rfl
@[simp] theorem AoT (h:3<G (HD x)):(HD x)[3]=.c (.int .i64 x.f.params.Gj):=F
theorem AnS (f:AP)(s:Aa)(b:AA)(sub sup:List AA)(M:f.Fit)(R:f.valid=I)(Q:s.ok=I)(hb:b.Ad=I)(o:G sub<=1)(q:G sup<=1)(B : ∀c∈sub,c.Ad=I)(K : ∀c∈sup,c.Ad=I):AC AF 220 [.agg f.vs,Aj s,Ao b,.c (.sl (AA.AG sub)),.c (.sl (AA.AG sup))] (Ba (C8 (Oc f s b sub sup))):=by
 have S:=kj hb;match sub,sup,o,q with
 | [],[],_,_=>exact AnT f s b M R Q hb S
 | [],[d],_,_=>exact AnU f s b d M R Q hb S (K d (by simp)) (kj (K d (by simp)))
 | [c],[],_,_=>exact AnV f s b c M R Q hb S (B c (by simp)) (kj (B c (by simp)))
 | [c],[d],_,_=>exact AnW f s b c d M R Q hb S (B c (by simp)) (kj (B c (by simp))) (K d (by simp)) (kj (K d (by simp)))
theorem AXZ (S:Nd)(kr:List Nd)(L:List AA)(s:Aa)(hx:x.Ok)(hs:s.ok=I)(hk:(n.kind=7/\(G L)=2)\/(n.kind=8/\(G L)=2)\/(n.kind=9/\(G L)=3))(EC:n.AE=S::kr)(hb:vm L):AC AF 132 [.agg (HD x),Am n,.c (.sl (AA.AG L)),Aj s] (Ba (oE (Ji x s n.kind n.text n.AL n.AE L))):=by
 have Q:=AmX x S s hx;have KA:Nd.AG n.AE=S.row::Nd.AG kr:=by rw[EC];rfl
 have key : ∀(b:AA) (sub B:List AA),b∈L->G sub<=1->G B<=1->(∀c∈sub,c∈L)->(∀c∈B,c∈L)->Ji x s n.kind n.text n.AL n.AE L=(if PZ x s S=I then Bj (C8 (OP x.f s b sub B))else Bj (C8 (Oc x.f s b sub B)))->
  (PZ x s S=I/\AC AF 219 [.agg x.f.vs,Aj s,Ao b,.c (.sl (AA.AG sub)),.c (.sl (AA.AG B))] (Ba (oE (Ji x s n.kind n.text n.AL n.AE L))))\/
  (PZ x s S=U/\AC AF 220 [.agg x.f.vs,Aj s,Ao b,.c (.sl (AA.AG sub)),.c (.sl (AA.AG B))] (Ba (oE (Ji x s n.kind n.text n.AL n.AE L)))):=λb sub B q l1 l2 m1 m2 e=>by
  cases JN:PZ x s S with
  | true=>refine .inl ⟨rfl,?_⟩;rw[e,if_pos JN,<-show C8 (OP x.f s b sub B)=oE _ from Uh _];exact Am2 x.f s b sub B hx.fit hx.val hs (hb.v _ q) l1 l2 (λc o=>hb.v c (m1 c o)) λc o=>hb.v c (m2 c o)
  | false=>refine .inr ⟨rfl,?_⟩;rw[e,if_neg (by rw[JN];decide),<-show C8 (Oc x.f s b sub B)=oE _ from Uh _];exact AnS x.f s b sub B hx.fit hx.val hs (hb.v _ q) l1 l2 (λc o=>hb.v c (m1 c o)) λc o=>hb.v c (m2 c o)
 have M:n.kind=7\/n.kind=8\/n.kind=9->Ji x s n.kind n.text n.AL n.AE L=(if PZ x s S=I then Bj (C8 (OP x.f s (L.getD 0 AA.zero) (Xb n.kind L) (Xc n.kind L)))else Bj (C8 (Oc x.f s (L.getD 0 AA.zero) (Xb n.kind L) (Xc n.kind L)))):=λh=>by
  unfold Ji;rw[EC];rcases h with e|e|e<;>rw[e]<;>simp
 have e1:(1:Nat)<=2:=by decide
 rcases hk with ⟨e,z⟩|⟨e,z⟩|⟨e,z⟩
 . obtain⟨a,b,rfl⟩:=rZ z;have M:=M (.inl e);rw[show Xb n.kind [a,b]=[b]by rw[e];rfl,show Xc n.kind [a,b]=[]by rw[e];rfl]at M;have K:=key a [b] [] (by simp) (by simp) (by simp) (by simp) (by simp) M;obtain⟨⟨rb,re⟩,R⟩:=AI (oE (Ji x s n.kind n.text n.AL n.AE [a,b]));rw[R]at K ⊢;clear key M R hb;simp only[AA.AG,Ba,AR,As,Am]at K Q ⊢;unfold Aj at *
   rcases K with ⟨g,K⟩|⟨g,K⟩
   all_goals
    rw[g]at Q;refine en func132 ntmps132 ?_;exact wz (cj2 @e @KA ADC) (cj2 Q K W)
 . obtain⟨a,b,rfl⟩:=rZ z;have M:=M (.inr (.inl e));rw[show Xb n.kind [a,b]=[]by rw[e];rfl,show Xc n.kind [a,b]=[b]by rw[e];rfl]at M;have K:=key a [] [b] (by simp) (by simp) (by simp) (by simp) (by simp) M;obtain⟨⟨rb,re⟩,R⟩:=AI (oE (Ji x s n.kind n.text n.AL n.AE [a,b]));rw[R]at K ⊢;clear key M R hb;simp only[AA.AG,Ba,AR,As,Am]at K Q ⊢;unfold Aj at *
   rcases K with ⟨g,K⟩|⟨g,K⟩
   all_goals
    rw[g]at Q;refine en func132 ntmps132 ?_;exact wz (cj2 @e @KA ADC) (cj2 Q K W)
 . obtain⟨a,b,c,rfl⟩:=AT9 z;have M:=M (.inr (.inr e));rw[show Xb n.kind [a,b,c]=[b]by rw[e];rfl,show Xc n.kind [a,b,c]=[c]by rw[e];rfl]at M;have K:=key a [b] [c] (by simp) (by simp) (by simp) (by simp) (by simp) M;obtain⟨⟨rb,re⟩,R⟩:=AI (oE (Ji x s n.kind n.text n.AL n.AE [a,b,c]));rw[R]at K ⊢;clear key M R hb;simp only[AA.AG,Ba,AR,As,Am]at K Q ⊢;unfold Aj at *
   rcases K with ⟨g,K⟩|⟨g,K⟩
   all_goals
    rw[g]at Q;refine en func132 ntmps132 ?_;exact wz (cj2 @e @KA ADC) (cj2 Q K W)
theorem AmV (h:ADg x n src s)(K:AC AF 124 [.agg (HD x),Am n,.c (AV src),Aj s] (Ko n.kind n.AE (Kh x s src n.kind 0 n.AE))):AC AF 71 [.agg (HD x),Am n,.c (AV src),Aj s] (Ba (oE (Dr x s src n))):=by
 have hf:=h.form;rw[dg,Ak]at hf;have M:=h.hx;have o:=h.hs;generalize Cu:AV src=ss at K ⊢;cases hL:Kh x s src n.kind 0 n.AE with
 | none =>
   rw[hL]at K;have e:Dr x s src n=none:=by unfold Dr;rw[hL]
   rw[e];simp only[Ko,AR]at K;simp only[oE,Ba,Hr,H8,GW,if_false,As,AR,Fl];unfold Aj Am at *
   refine en UK T2 ?_;exact wz VV (cj K<|trivial)
 | some L =>
 have Ca:Dr x s src n=Ji x s n.kind n.text n.AL n.AE L:=by unfold Dr;rw[hL]
 rw[hL]at K;have S:vm L/\(G L)=G n.AE:=by
  have D2:=h.sr;rw[ke n]at D2;obtain⟨h1,h2,h3⟩:=AK4 M o D2 n.kind n.AE 0 L (BN _) hL;have hc:=Tm n;have:=h.cn;exact⟨⟨h1,ABt M n.AE n.kind n.kind s src 0 L o hf.2 hL,by omega⟩,h3⟩
 obtain⟨S,Mi⟩:=S;have hz:=AHP x s;have Q:=Qa hf.1;have Mj:=Z3 hf.1;rw[Ca];have A0 : ∀(F:FuncId) (args:List V) (Z:AA),Ji x s n.kind n.text n.AL n.AE L=Bj (C8 Z)->AC AF F args (Ba (C8 Z))->AC AF F args (Ba (oE (Ji x s n.kind n.text n.AL n.AE L))):=λF args Z e h=>by
  rw[e,<-show C8 Z=oE _ from Uh Z];exact h
 obtain⟨⟨rb,re⟩,R⟩:=AI (oE (Ji x s n.kind n.text n.AL n.AE L));rcases ATt hf.1 h.k1 with e|e|e|e|e|e|e|e|e|e|e
 have B:=Amb x n.text s M o (by rw[e]at Mj;simpa [Ki]using Mj);rw[show x.sym s n.text=Ji x s n.kind n.text n.AL n.AE L by rw[e];rfl,R]at B;rw[R];obtain⟨DR,q⟩:=AI (AA.AG (Kv n.kind n.AE L));simp only[Ko,AR,Ba,As,q]at K B ⊢;unfold Aj Am at *
 refine en UK T2 ?_;exact wz (cj @e<|VV) (cj2 K B W);obtain⟨t1,t2⟩:=AIm (t:=n.text) (by rw[e]at Mj;simpa [Ki]using Mj);have B:=AXY x n.text s M o t1 t2;rw[show x.Po s n.text=Ji x s n.kind n.text n.AL n.AE L by rw[e];rfl,R]at B;rw[R];obtain⟨DR,q⟩:=AI (AA.AG (Kv n.kind n.AE L));simp only[Ko,AR,Ba,As,q]at K B ⊢;unfold Aj Am at *
 refine en UK T2 ?_;exact wz (cj @e<|VV) (cj2 K B W);obtain⟨t1,t2⟩:=AJx (t:=n.text) (by rw[e]at Mj;simpa [Ki]using Mj);have B:=AXY x n.text s M o t1 t2;rw[show x.Po s n.text=Ji x s n.kind n.text n.AL n.AE L by rw[e];rfl,R]at B;rw[R];obtain⟨DR,q⟩:=AI (AA.AG (Kv n.kind n.AE L));simp only[Ko,AR,Ba,As,q]at K B ⊢;unfold Aj Am at *
 refine en UK T2 ?_;exact wz (cj @e<|VV) (cj2 K B W);rw[e]at Q;obtain⟨a,b,rfl⟩:=rZ (L:=L) (by simp[FL]at Q;omega);obtain⟨a1,a2,a3,a4⟩:=S.one (b:=a) (by simp);obtain⟨b1,b2,b3,b4⟩:=S.one (b:=b) (by simp);have B:=Amw x.f s a b M.fit a2 (by omega) b2 (by omega);rw[show cE x.f s a b=C8 (WO x.f s a b)from if_neg (by simp[M.val,o,a1,b1])]at B;have B:=A0 _ _ (WO x.f s a b) (by rw[e];rfl) B;rw[R]at B ⊢;simp only[Ko,AR,Ba,As,show Kv n.kind n.AE [a,b]=[a,b]by rw[e];rfl,AA.AG]at K B ⊢;unfold Aj Am at *
 refine en UK T2 ?_;exact wz (cj @e<|VV) (cj2 K B W);rw[e]at Q;obtain⟨a,b,rfl⟩:=rZ (L:=L) (by simp[FL]at Q;omega);obtain⟨a1,a2,a3,a4⟩:=S.one (b:=a) (by simp);obtain⟨b1,b2,b3,b4⟩:=S.one (b:=b) (by simp);have g1:(Ue n.AE a).Ad=true:=AOt a1;have B:=Am4 x.f s b (Ue n.AE a) M.fit (AYv M.val) M.val o b1 b2 g1 (kj g1);have B:=A0 _ _ (Qp x.f s b [Ue n.AE a]) (by rw[e];rfl) B;rw[R]at B ⊢;simp only[Ko,AR,Ba,As,show Kv n.kind n.AE [a,b]=[Ue n.AE a,b]by rw[e];rfl,AA.AG]at K B ⊢;unfold Aj Am at *
 refine en UK T2 ?_;exact wz (cj @e<|VV) (cj2 K B W);obtain⟨k0,kr,hk⟩:=rT hf.1 (.inr (.inl e));rw[e]at Q;have B:=AXZ x n k0 kr L s M o (.inl ⟨e,by simp[FL]at Q;omega⟩) hk S;rw[R]at B ⊢;obtain⟨DR,q⟩:=AI (AA.AG L);simp only[Ko,AR,Ba,As,show Kv n.kind n.AE L=L by rw[e];rfl,q]at K B ⊢;unfold Aj Am at *
 refine en UK T2 ?_;exact wz (cj @e<|VV) (cj2 K B W);obtain⟨k0,kr,hk⟩:=rT hf.1 (.inr (.inr (.inl e)));rw[e]at Q;have B:=AXZ x n k0 kr L s M o (.inr (.inl ⟨e,by simp[FL]at Q;omega⟩)) hk S;rw[R]at B ⊢;obtain⟨DR,q⟩:=AI (AA.AG L);simp only[Ko,AR,Ba,As,show Kv n.kind n.AE L=L by rw[e];rfl,q]at K B ⊢;unfold Aj Am at *
 refine en UK T2 ?_;exact wz (cj @e<|VV) (cj2 K B W);obtain⟨k0,kr,hk⟩:=rT hf.1 (.inr (.inr (.inr e)));rw[e]at Q;have B:=AXZ x n k0 kr L s M o (.inr (.inr ⟨e,by simp[FL]at Q;omega⟩)) hk S;rw[R]at B ⊢;obtain⟨DR,q⟩:=AI (AA.AG L);simp only[Ko,AR,Ba,As,show Kv n.kind n.AE L=L by rw[e];rfl,q]at K B ⊢;unfold Aj Am at *
 refine en UK T2 ?_;exact wz (cj @e<|VV) (cj2 K B W);rw[e]at Q Mj;obtain⟨a,rfl⟩:=AIF (L:=L) (by simp[FL]at Q;omega);obtain⟨a1,a2,a3,a4⟩:=S.one (b:=a) (by simp);have B:=Ame x.f s n.text a M.fit M.val o a1 a2 (by simpa [Ki]using Mj);have B:=A0 _ _ (al x.f s n.text a (x.gl s n.text)) (by rw[e];rfl) B;rw[R]at B ⊢;simp only[Ko,AR,Ba,As,show Kv n.kind n.AE [a]=[a]by rw[e];rfl,AA.AG]at K B ⊢;unfold Aj Am at *
 refine en UK T2 ?_;exact wz (cj @e<|VV) (cj2 K B W);rw[e]at Q Mj;obtain⟨a,rfl⟩:=AIF (L:=L) (by simp[FL]at Q;omega);obtain⟨a1,a2,a3,a4⟩:=S.one (b:=a) (by simp);have B:=Amu x.f n.text a (x.sz s) M.fit (AYv M.val) a2 (by omega) (by have:=(kf n h.ok).1;exact this);have hi:Ji x s n.kind n.text n.AL n.AE [a]=Bj (O5 x.f n.text a (x.sz s)):=by rw[e];rfl
 rw[show O5 x.f n.text a (x.sz s)=oE (Bj (O5 x.f n.text a (x.sz s)))from APT M o (AJK (by simpa [Ki]using Mj)) a1,<-hi,R]at B;rw[R];generalize A1:x.sz s=z at hz B;simp only[Ko,AR,Ba,As,show Kv n.kind n.AE [a]=[a]by rw[e];rfl,AA.AG]at K B ⊢;unfold Aj Am at *
 refine en UK T2 ?_;exact wz (cj @e<|VV) (cj3 K hz B W);rw[e]at Q;obtain⟨AL,AG,yx,kA,c1,c2,r1,n2⟩:=AUT Q;have hC:Cells x s AL AG L:=⟨⟨by rw[Mi,kA],c1,c2,r1,by omega,VN M o,ABT M o,λb CT=>⟨S.w b CT,(D3 (S.v b CT)).1.2⟩⟩,S.v,by have:=S.c;omega⟩
 have hi:Ji x s n.kind n.text n.AL n.AE L=Bj (N2 x.f s AL L):=by rw[e,yx];rfl
 have B:=Am3 x s AL AG L M o hC;rw[show N2 x.f s AL L=oE (Bj (N2 x.f s AL L))from ANX x.f s AL L,<-hi,R]at B;rw[R];obtain⟨DR,q⟩:=AI (AA.AG L);simp only[Ko,AR,Ba,As,show Kv n.kind n.AE L=L by rw[e];rfl,q]at K B ⊢;unfold Aj Am at *
 refine en UK T2 ?_;exact wz (cj2 @e @yx VV) (cj2 K B W)
theorem AmW (R:G src<=100)(B:AC AF 71 [.agg (HD x),Am n,.c (AV src),Aj s] (Ba (oE (Dr x s src n)))):AC AF 35 [.agg (HD x),Am n,.c (AV src),Aj s] (Ba (oE (Fw x s src n))):=by
 rw[SD];have K:=λb=>Ajg b 2 src (by omega)
 generalize Q:AV src=S at B K ⊢;cases M:Dr x s src n with
 | none =>
   rw[M]at B;simp only[oE,Ba,Hr,H8,GW,if_false,As,AR,Fl]at B ⊢;unfold Aj Am at *
   refine en func35 ntmps35 ?_;exact wz results35 (cj B<|trivial)
 | some b =>
   rw[M]at B;have K:=K b;simp only[oE,Ba,Dm,IZ,if_true,As,AR]at B K ⊢;unfold Aj Am at *
   refine en func35 ntmps35 ?_;exact wz results35 (cj2 B K W)
theorem AmZ (h:oF x n src s)(A0:AcJ x n src s):AC AF 30 [.agg (HD x),Am n,.c (AV src),Aj s] (Ba (oE (GU x s src n))):=by
 have DJ:=h.sr.len;have hx:=h.hx;have hs:=h.hs;have hz:=AHP x s;have K:=λb=>Ajg b 1 src (by omega)
 have OI:=ABc h.form h.k1;have A5:=h.ok;have FX:=h.cn;have zJ:=h.form;have qX:=h.dp;have D2:=h.sr;by_cases hn:n.AE=[]
 have e:GU x s src n=J (x.empty s src):=by
  obtain⟨k,t,c,AE⟩:=n;simp only at hn;unfold GU;rw[if_pos hn]
 rw[e];have hq:=AYA x.f.params.Al (x.sz s);change AC _ _ _ (.c (.int .i64 (x.Al s)))at hq;have A6:=AYA (x.Al s) 50;have nK:=AYA x.f.params.Gj (x.sz s);have K:=K (Bf (if src=[]then 0 else AU (x.Al s) 50) (AU x.f.params.Gj (x.sz s)) 0 []);rw[show (Bf (if src=[]then 0 else AU (x.Al s) 50) (AU x.f.params.Gj (x.sz s)) 0 []).mark 1 src=x.empty s src from rfl]at K;have UO:Nd.AG n.AE=[]:=by rw[hn];rfl
 obtain⟨E,hE⟩:=AI (x.empty s src);rw[hE]at K ⊢;have A3:G (src.map λn=>[C.int .i64 n])=G src:=Ch _;have M:src=[]↔G src=0:=List.length_eq_zero_iff.symm;obtain⟨ss,Cu⟩:=AI ((src.map λn=>[C.int .i64 n]));obtain⟨z,B1⟩:=AI (x.sz s);rw[B1]at hz hq nK K;obtain⟨q,zo⟩:=AI (x.Al s);rw[zo]at hq A6 K;obtain⟨Q,hQ⟩:=AI (AU q 50);rw[hQ]at A6 K;obtain⟨X,hX⟩:=AI (AU x.f.params.Gj z);rw[hX]at nK K;unfold AV at K ⊢;rw[Cu]at K A3 ⊢;clear hE hQ hX zo B1 OI e;by_cases h0:src=[]
 rw[if_pos h0]at K;have g : ¬(0:Int)<(G ss:Int):=by rw[A3,M.1 h0];omega
 simp only[oE,Ba,Dm,IZ,if_true,As,AR,Bf,AA.AG,AA.vs,AA.row,Ap,BB,AV]at K ⊢;unfold Aj Am at *
 refine en func30 ntmps30 ?_;exact wz (cj2 @UO @g ACA) (cj3 hz nK K W);rw[if_neg h0]at K;have g:(0:Int)<(G ss:Int):=by rw[A3];have:=Kr.2 h0;omega
 simp only[oE,Ba,Dm,IZ,if_true,As,AR,Bf,AA.AG,AA.vs,AA.row,Ap,BB,AV]at K ⊢;unfold Aj Am at *
 refine en func30 ntmps30 ?_;exact wz (cj2 @UO @g ACA) (cj5 hz nK hq A6 K W);have A2:=AAK x s src 0 n.AE;have Ir:=λj q hj=>AH2 x s src 0 n.AE j q hj
 have v3:=AH4 x s src 0 n.AE;have R:=λj q hj=>AH5 x s src 0 n.AE j q hj
 obtain⟨L,hL⟩:=AI (QY x s src 0 n.AE);rw[hL]at A2 Ir v3;have jc:Kb x s src 0 n.AE=none->GU x s src n=none:=λhI=>by
  obtain⟨k,t,c,AE⟩:=n;simp only at hn hI;unfold GU;rw[if_neg hn,hI]
 have S:Kb x s src 0 n.AE=J L->(GU x s src n=match Bj (F9 L (x.CC s n.AE))with|none=>none|some b=>J (b.mark 1 src))/\AC AF 70 [.c (.sl (AA.AG L)),.c (AV (x.CC s n.AE))] (Ba (oE (Bj (F9 L (x.CC s n.AE))))):=λhI=>by
  refine⟨?_,?_⟩;obtain⟨k,t,c,AE⟩:=n;simp only at hn hI;unfold GU;rw[if_neg hn,hI];rfl;rw[OI]at zJ D2 FX;rw[dg,Ak]at zJ;rw[ke (Dd n.AE)]at D2;obtain⟨Fv,IK,_⟩:=AH6 hx hs D2 n.AE 0 L (BN _) zJ.2 hI;have zA:=Tm (Dd n.AE);have B8:Nd.Az n.AE<=80:=by have:(Dd n.AE).AE=n.AE:=F;rw[this]at zA;omega
  have Ce:=SH n.AE;obtain⟨ze,kB⟩:=AVT Fv;have D0:=AY9 x s n.AE;have:=AXX L (x.CC s n.AE) ze (by omega) (by omega) (by omega);rwa [sm kB (by omega) (ALD hx hs n.AE)]at this
 have M:AC AF 69 [.agg x.f.vs,.c (Cc x.d),.c (.sl (Nd.AG n.AE)),Aj s] (.A7 [.c (AV (x.CC s n.AE)),AR 0]):=by
  rw[OI]at A5 FX zJ qX;refine Ank x s n.AE hx hs A5 (by omega) ?_;unfold Nd.Ad;rw[zJ,decide_eq_true (show (Dd n.AE).kind=1 from rfl),decide_eq_true (by omega:(Dd n.AE).cnt<=1000),decide_eq_true qX];rfl
 have m5:=λ(i:Nat)=>Ajz src (i:Int) (by omega)
 have Yw : ∀(j:Nat) (k:Nd),n.AE[j]?=J k->(Nd.AG n.AE)[j]?=J k.row:=λj k hj=>XG hj
 have Rz:=Pc n.AE;have Ce:G n.AE<=300:=by have h1:=SH n.AE;have h2:=Tm n;omega
 obtain⟨SP,yQ⟩:=AI (AV (x.CC s n.AE));rw[yQ]at M S;obtain⟨o,ho⟩:=AI (Bj (F9 L (x.CC s n.AE)));rw[ho]at S;obtain⟨ss,Cu⟩:=AI (AV src);rw[Cu]at m5 K ⊢;obtain⟨rs,Aw⟩:=AI (Nd.AG n.AE);rw[Aw]at Yw Rz M;obtain⟨N,hN⟩:=AI (G n.AE);have cL:0<N:=by rw[<-hN];exact Kr.2 hn
 rw[hN]at A2 Rz Ce;obtain⟨RL,A8⟩:=AI (GU x s src n);rw[A8]at jc S ⊢;unfold AcJ at A0;obtain⟨kd,t,c,AE⟩:=n;simp only at Aw hN Ir v3 R Yw jc S A0;simp only[Am,Nd.vs,Nd.row,Ap,BB,Aw];have B3 : ¬(N:Int)=0:=by omega
 clear A8 hL Cu D2 qX zJ FX A5 OI hz h hx ho yQ hn;simp only[AR]at M;unfold Aj at *
 refine en func30 ntmps30 ?_;refine wy (cj2 @Rz @B3 ACA) trivial ⟨?_⟩;refine AW.le (Le.tL 11 41 11 F) ?_;simp only[BA,BO,Nat.reduceAdd,Ag,Ai,BK,BU];refine lp (ι:={ k:Nat // k<=N/\∀j q,j<k->AE[j]?=J q->NZ x s src j q≠none }) (λk=>[(12,.c (.int .i64 (k.1:Int))),(11,.gr 4 11 (AA.AG (L.take k.1)))]) (λk=>[O.box 30 (HD x) U,O.box 33 [.c (.int .i64 kd),.c (.str t),.c (.int .i64 c),.c (.sl rs)] U,O.box 35 [.c (.int .i64 s.By),.c (.bool s.Hd)] U,O.box 41 BT U,.tok 41 11 k.1]) (λk=>N - k.1) ⟨0,CI _,λ_ _ h=>absurd h (UE _)⟩ ?_ ?_;all_goals simp only[CG,Bw,CO,Ag,Ai]
 exact ER (cj2 @AA.AG.eq_1 @AA.AG.eq_2 @BT.eq_1);rintro ⟨j,hj,hI⟩;simp only;by_cases A1:j<N;obtain⟨q,hq⟩:∃q,AE[j]?=J q:=⟨_,BE (by omega)⟩
 have A9:=Yw j q hq;have Bu:=gx A9;have Dh:j<G rs:=by omega
 have zZ:=A0 j q hq;have pG:=Ir j q hq;rw[Cz]at pG;have PC:=m5 j;have hw:AZ.wrap ((j:Int)+1)=((j+1:Nat):Int):=by rw[Ac];simp
 obtain⟨sk,B7⟩:=AI (AV (src++[(j:Int)]));rw[B7]at zZ PC;have kA:=R j q hq;rw[Cz]at kA;obtain⟨ob,ho⟩:=AI (NZ x s src j q);rw[ho]at zZ pG kA;unfold Am at zZ;clear Yw Ir m5 R A0 M;cases ob with
 | none=>rw[jc (kA F)];simp only[oE,Ba,Hr,H8,GW,if_false,As,AR,Fl]at zZ ⊢;exact wz (cj6 @A1 @Rz @A9 @Bu @Dh @BT.eq_1 ACA) (cj2 PC zZ W)
 | some B =>
   rw[Dm]at pG;simp only[oE,Ba,Dm,IZ,if_true,As,AR]at zZ;have B2 : ∀i q,i<j+1->AE[i]?=J q->NZ x s src i q≠none:=λi q' hi DT=>by
    by_cases e:i=j;subst e;rw[hq]at DT;cases DT;rw[ho];exact λh=>nomatch h
    exact hI i q' (by omega) DT
   have Wr:=AKZ L j (by omega);rw[(Br.1 pG).2]at Wr;have Md:G (AA.AG (L.take j))=j:=by rw[GA,Fa];omega
   have B0:((AA.AG (L.take j)).all λr=>G r==11)=true:=by rw[ES];intro r hr;simpa using lE _ r hr
   obtain⟨RR,YW⟩:=AI (AA.AG (L.take j));rw[YW]at Wr Md B0 ⊢;have FO:j+1<=maxLen:=by unfold maxLen;omega
   have EX:(j+1)*128<=140737488355328:=by omega
   have cM:=Wr.symm;clear jc S kA hI Wr;refine wy (cj9 @A1 @Rz @A9 @Bu @Dh @hw @Md @FO @EX<|cj @cM ACA) (cj2 PC zZ W) ⟨?_⟩;exact⟨⟨j+1,by omega,B2⟩,by simp only;omega,wd 5⟩
 obtain rfl:j=N:=by omega
 obtain⟨Lt,zK⟩:=S (v3 λi q hq=>by rw[Cz];exact hI i q (by have:=(Br.1 hq).1;omega) hq);rw[Lt,Gl (by omega)];generalize YW:AA.AG L=RR at zK ⊢;cases o with
 | none=>simp only[oE,Ba,Hr,H8,GW,if_false,As,AR,Fl]at zK ⊢;exact wz (cj3 @A1 @Rz @BT.eq_1 ACA) (cj2 M zK W)
 | some B=>have K:=K B;simp only[oE,Ba,Dm,IZ,if_true,As,AR]at zK K ⊢;exact wz (cj3 @A1 @Rz @BT.eq_1 ACA) (cj3 M zK K W)
def Xs:AP:=⟨[⟨⟨#[120]⟩,430,431,0,30,0⟩],[],{ script:=70,Qr:=50,TD:=90,FD:=0,rule:=0,Gj:=0,Al:=0,VH:=0,Tp:=0,Uf:=0,TE:=0,Zy:=0,Zz:=0,Z0:=0,Qx:=0,Qy:=0,Q5:=0,Qz:=0,RY:=0,RO:=0 }⟩
def awC:AA:=⟨1,⟨#[120]⟩,100,460,431,0,0,0,[],2,[0]⟩
def awB:AA:=⟨3,⟨#[]⟩,0,460,431,0,0,0,[awC],1,[]⟩
theorem AkS:Ob ⟨Xs,[]⟩ ⟨1,U⟩ [] (Dd [⟨2,⟨#[120]⟩,0,[]⟩])=.A7 [Ao awB,AR 0]:=by kernel_rfl
theorem AkT:AC AF 15 [.c (.str ⟨#[120]⟩)] (.agg [.c (.int .i64 2),.c (.str ⟨#[120]⟩),.c (.int .i64 0),.c (.sl [])]):=by
 refine en func15 ntmps15 ?_;exact wz results15 W
theorem AcQ:AC AF 5 [] (.c (.bool I)):=by
 have S:=AkT;have R:=AYC [⟨2,⟨#[120]⟩,0,[]⟩];have Q:(0:Nat)<=maxLen:=CI _;have K:(1:Nat)<=maxLen:=by unfold maxLen;omega
 have B : ∀g∈Xs.DR,g.name.size<=maxLen:=λg B=>by
  rcases List.mem_cons.1 B with rfl|B
  exact K;cases B
 have q:Xs.Fit:=⟨K,Q,B,λs hs=>(by cases hs)⟩
 have z:(Dd [⟨2,⟨#[120]⟩,0,[]⟩]).BX:=⟨Q,K,⟨K,Q,trivial⟩,trivial⟩
 have M:=AAc ⟨Xs,[]⟩ (Dd [⟨2,⟨#[120]⟩,0,[]⟩]) ⟨1,U⟩ q (CI _) (λe o=>by cases o) z (Nat.le_of_ble_eq_true F);rw[AkS]at M;simp only[Am,Nd.vs,Nd.AG,Dd,Nd.row,Aj,AR,Ao,awB,awC,AA.row,AA.AG,AV,Cc,Xs,AP.vs,AP.row,O8,MG,Params.list,BG.row,Ap,BB]at R M;refine en func5 ntmps5 ?_;exact wz results5 (cj3 S R M W)
theorem AjU :∀n:Nd,(∀src s,oF x n src s->AC AF 30 [.agg (HD x),Am n,.c (AV src),Aj s] (Ba (oE (GU x s src n))))/\(∀src s,ADg x n src s->AC AF 35 [.agg (HD x),Am n,.c (AV src),Aj s] (Ba (oE (Fw x s src n)))):=AAi λn ih=>by
 refine⟨λsrc s h=>AmZ x n src s h λj k K=>?_,λsrc s h=>?_⟩;obtain⟨f1,f2,f3,f4,f5⟩:=AAP h.form h.ok (get_mem K);have M:k.kind≠1:=by intro e;rw[h.k1,e]at f2;simp[Pa]at f2
 have B:=h.sr;have q:=h.cn;have qX:=h.dp;obtain⟨d,Q⟩:∃d,n.BR=d+1:=⟨n.BR - 1,by omega⟩
 rw[Q]at B;exact(ih k (get_mem K)).2 _ _ ⟨h.hx,h.hs,M,f1,f3,by omega,by omega,B.add j (by omega)⟩;have R:=h.form;rw[dg,Ak]at R;have S:G src<=100:=by have:=h.sr.len;omega
 have q:=h.cn;have o:G n.AE<=300:=by have h1:=SH n.AE;have h2:=Tm n;omega
 refine AmW x n src s S (AmV x n src s h (Ama x n src s h.hs (Qa R.1) h.k1 S o λj k K=>?_));obtain⟨f1,f2,f3,f4,f5⟩:=AAP h.form h.ok (get_mem K);have M:k.kind=1:=by
  have z:=h.k1;by_cases e:k.kind=1;exact e;simp[Pa,z,e]at f2
 have B:=h.sr;have qX:=h.dp;obtain⟨d,Q⟩:∃d,n.BR=d+1:=⟨n.BR - 1,by omega⟩
 rw[Q]at B;exact(ih k (get_mem K)).1 _ _ ⟨h.hx,ABs h.hs,M,f1,f3,by omega,by omega,B.add j (by omega)⟩
theorem AjX (S:x.f.Fit)(o:G x.d<=1000000)(R : ∀e∈x.d,e.text.size<=maxLen):AC AF 26 [.agg (HD x)] (.c (.bool (x.f.valid && Ll x.d))):=by
 have B:=ba x.f S;have K:=Ajw x.d o R;obtain⟨a,M⟩:=AI x.f.valid;obtain⟨b,Q⟩:=AI (Ll x.d);rw[M]at B ⊢;rw[Q]at K ⊢;clear M Q;cases a;all_goals
  refine en func26 ntmps26 ?_;exact wz results26 (cj2 B K W)
theorem AjW (hs:G src<=maxLen)(p:Nat)(hp:p=0\/p=1):AC AF 29 [.c (AV src),.c (.int .i64 p)] (.c (.bool (Sd src p))):=by
 unfold maxLen at hs;have hm:=AIb (G src) hs;unfold Sd;have row : ∀(i:Nat) (v:Int),src[i]?=J v->(src.map λn=>[C.int .i64 n])[i]?=J [.int .i64 v]:=λi v hi=>by rw[List.getElem?_map,hi];rfl
 have K:G (src.map λn=>[C.int .i64 n])=G src:=Ch _;unfold AV;obtain⟨R,hR⟩:=AI ((src.map λn=>[C.int .i64 n]));rw[hR]at row K ⊢;obtain⟨N,hN⟩:=AI (G src);rw[hN]at hm K;refine en func29 ntmps29 ?_;refine wy (cj @K<|AN9) trivial ⟨?_⟩;refine lp (ι:={ k:Nat // k<=N/\HT src=HT (src.drop k) }) (λk=>[(5,.c (.int .i64 (k.1:Int)))]) (λ_=>[]) (λk=>N - k.1) ⟨0,CI _,rfl⟩ ?_ ?_;all_goals simp only[CG,Bw,CO,Ag,Ai]
 exact DH;rintro ⟨k,hk,o⟩;simp only;by_cases B:k<N;obtain⟨z,hz⟩:∃z,src[k]?=J z:=⟨_,BE (by omega)⟩
 have rk:=row k z hz;have eQ:=gx rk;have Q:k<G R:=by omega
 rw[List.drop_eq_getElem_cons (by omega),(Br.1 hz).2]at o;have hw:AZ.wrap ((k:Int)+1)=((k+1:Nat):Int):=by rw[Ac];simp
 by_cases h1:z<0;have e:HT src=false:=by rw[o];simp[HT];omega
 rw[e,D4];exact wz (cj6 @K @B @rk @eQ @Q @h1 AN9) W;have e:HT src=HT (src.drop (k+1)):=by rw[o];simp[HT];intro;omega
 refine wy (cj7 @K @B @rk @eQ @Q @h1 @hw AN9) trivial ⟨?_⟩;exact⟨⟨k+1,by omega,e⟩,by simp only;omega,wd 0⟩;obtain rfl:k=N:=by omega
 have e:HT src=true:=by rw[o,List.drop_of_length_le (by omega)];rfl
 have S:k % 2=0\/k % 2=1:=by omega
 rw[e,hN,Cd];by_cases M:k<=25
 . have q:(k:Int)<=25:=by omega
   rw[decide_eq_true M,Cd];rcases hp with rfl|rfl<;>rcases S with S|S
   all_goals
    rw[S]at hm ⊢;exact wz (cj4 @K @B @hm @q AN9) W
 have q : ¬(k:Int)<=25:=by omega
 rw[decide_eq_false M,D4];exact wz (cj3 @K @B @q AN9) W
theorem APx (o:Option AA):outT o=Ba (oE o):=by cases o<;>rfl
theorem AjT (hf:x.f.Fit)(hl:G x.d<=300)(DS : ∀e∈x.d,e.text.size<=maxLen)(hn:n.BX)(hc:n.cnt<=80)(DJ:G src<=maxLen):AC AF 11 [.agg (HD x),Am n,.c (AV src),Aj s] (Ob x s src n):=by
 have o:=AjX x hf (by omega) DS;have q:=Ajx n hn (by omega);have z:=AAA s;have R:=AjW src DJ 0 (.inl F);have B:x.Bj s=I->n.Ad=I->Sd src 0=I->AC AF 30 [.agg (HD x),Am n,.c (AV src),Aj s] (outT (GU x s src n)):=λQ M K=>by
  unfold Af.Bj at Q;simp only[Ak]at Q;unfold Nd.Ad at M;simp only[Ak,decide_eq_true_eq]at M;unfold Sd at K;simp only[Ak,decide_eq_true_eq]at K;rw[APx];exact(AjU x n).1 src s ⟨⟨hf,Q.1,hl,Q.2.1⟩,Q.2.2,M.1,M.2.1,hn,hc,M.2.2.2,⟨K.1,K.2.2,by omega⟩⟩
 unfold Ob;have ho:x.Bj s=((x.f.valid && Ll x.d) && s.ok):=by unfold Af.Bj;rw[Bool.and_assoc]
 rw[ho]at B ⊢;obtain⟨DV,gK⟩:=AI ((x.f.valid && Ll x.d));obtain⟨TV,gO⟩:=AI s.ok;obtain⟨NV,jQ⟩:=AI n.Ad;obtain⟨SV,jX⟩:=AI (Sd src 0);rw[gK]at o B ⊢;rw[gO]at z B ⊢;rw[jQ]at q B ⊢;rw[jX]at R B ⊢;obtain⟨sr,K⟩:=AI (AV src);rw[K]at R B ⊢;clear gK gO jQ jX ho K;unfold O1;by_cases S:((DV && TV) && NV)=I;simp only[Ak]at S;obtain⟨⟨rfl,rfl⟩,rfl⟩:=S;cases SV with
 | false =>
   simp only[As,AR,Fl,LW,AQF,if_false,if_true];unfold Aj Am at *
   refine en func11 ntmps11 ?_;exact wz ADB (cj4 o q z R W)
 | true =>
   have h4:=B rfl rfl F;obtain⟨⟨rb,re⟩,hR⟩:=AI (oE (GU x s src n));rw[APx,hR]at h4 ⊢;simp only[Ba,As,AR,LW,AQF,if_false]at h4 ⊢;unfold Aj Am at *
   refine en func11 ntmps11 ?_;exact wz ADB (cj5 o q z R h4 W)
 . rw[if_pos (by simpa using S)];clear B;simp only[As,AR,Fl];unfold Aj Am at *
   cases DV<;>cases NV<;>cases TV;all_goals first
    | exact absurd rfl S
    | skip
   all_goals
    refine en func11 ntmps11 ?_;exact wz ADB (cj4 o q z R W)
theorem ACb:AA.zero.fit:=by simp[AA.zero,AA.fit,AA.fits]
theorem Ajk {x:Af}{s:Aa}{n:Nd}{src:List Int}(R:x.f.Fit)(S:G x.d<=300):∃b e,b.fit/\Ob x s src n=.A7 [Ao b,AR e]:=by
 unfold Ob O1;split;exact⟨_,_,ACb,F⟩;rename_i M;split;exact⟨_,_,ACb,F⟩;rename_i K;cases h:GU x s src n with
 | none=>exact⟨_,_,ACb,F⟩
 | some b=>refine⟨b,_,AaO ?_,F⟩;simp only[ACg,Ak]at M;have B:=M.1;unfold Af.Bj at B;simp only[Ak]at B;have Q:=M.2;unfold Nd.Ad at Q;simp only[Ak,decide_eq_true_eq]at Q;simp only[ACg]at K;unfold Sd at K;simp only[Ak,decide_eq_true_eq]at K;exact(AKW ⟨R,B.1,S,B.2.1⟩ B.2.2 ⟨K.1,K.2.2,by omega⟩ h).1
end Go.Proofs.YtglaipbdiofkfaaGreat
