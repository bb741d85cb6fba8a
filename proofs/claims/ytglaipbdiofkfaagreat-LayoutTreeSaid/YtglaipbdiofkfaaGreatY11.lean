/- Part of the proof of some laws. Conditions: none. -/
import Derived.Test.YtglaipbdiofkfaaGreatY8
import Derived.Test.YtglaipbdiofkfaaGreatY9
set_option linter.unusedVariables false
set_option linter.unusedSimpArgs false
set_option maxRecDepth 100000
set_option maxHeartbeats 16000000
open Go.Proofs.Tryz renaming prog→AF,underlying9→Lb,underlying3→Fo,underlying4→Vq,results105→Pw,results119→ANn,results210→AGS
open List renaming replicate→Aq,foldl_cons→Bw,foldl_nil→CO,set_cons_zero→Ag,set_cons_succ→Ai,getElem?_eq_getElem→BE,mem_of_getElem?→Cj,getElem?_map→CM,length_take→Fa,replicate_succ→BY,getElem?_set_ne→HF,take_of_length_le→Gl,append_nil→E5,drop_zero→B9,map_cons→Ap,map_nil→BB,all_eq_true→ES,length_nil→BO,nil_append→BU,map_append→Fm,getElem?_eq_some_iff→Br,flatten_cons→Hp,getElem?_append_left→EJ,getElem?_eq_none→M6,map_flatten→AkH,map_replicate→uR,size_toArray→uW,contains_iff_mem→mR,range→E6,countP_le_length→AMZ,length_append→Cp,mem_range→KP,append_assoc→GX
open Option.some renaming injEq→BL,inj→ML
open Go.Region renaming wanted→FB,ready→mr
open Nat renaming add_mul→Gz,one_mul→gE,mul_le_mul→ua,zero_add→Cz,le_refl→BN,strongRecOn→AC7,lt_of_not_le→AkJ
open Go.Builtin renaming zeroCells→KN
open Array renaming toList_append→Pq,size_append→AMM,length_toList→FW
open Bool renaming true_and→Cd,eq_iff_iff→Oj,false_or→tf
open Go.Oper renaming upon→Nt
open Option renaming some→J,none→E
open Bool renaming false→U,true→I
open List renaming length→G
namespace Go.Proofs.YtglaipbdiofkfaaGreat
open Go.RowKit Tryz
variable {fuel:Nat}{Ae:TypeId}{zs:List V}{zc:List C}{P:Program}{R:Act->World->Prop}{Q:Exit->Act->World->Prop}
section
variable {H:Type} {enc:TypeId×Value->H}
variable {w:World}
theorem AVZ :Dq enc AF w fuel 117 En.row (λe=>e.text.size<=maxLen):=by
 cases fuel with
 | zero=>exact Dq.zero
 | succ fuel=>exact(VJ underlying117 (by kernel_rfl) (C6.cons (o:=0) (o':=1) rfl (by kernel_rfl) (by decide) (Zf Lb) (C6.cons (o:=1) (o':=2) rfl (by kernel_rfl) (by decide) (Ge Fo) (C6.cons (o:=2) (o':=3) rfl (by kernel_rfl) (by decide) (AAw Vq) (C6.cons (o:=3) (o':=4) rfl (by kernel_rfl) (by decide) (AAw Vq) (C6.nil)))))).conv (λq=>⟨q.1,q.2.1,q.2.2.1,q.2.2.2.1⟩) (λq=>rfl) (λq h=>h.1)
theorem AVY :Dq enc AF w fuel 28 (λl:List En=>[Cc l]) (λl=>G l<=maxLen/\∀a∈l,a.text.size<=maxLen):=by
 cases fuel with
 | zero=>exact Dq.zero
 | succ fuel=>exact dq (n:=4) underlying28 (by kernel_rfl) (by decide) AVZ
theorem AIj : ∀ {l:List Nd},(∀a∈l,a.BX)->Nd.FY l
 | [],_=>trivial
 | b::l,h=>⟨h b List.mem_cons_self,AIj λa B=>h a (List.mem_cons_of_mem _ B)⟩
theorem AJA (B:Dq enc AF w fuel 31 (λl:List Nd=>[.sl (l.map Nd.row)]) (λl=>G l<=maxLen/\∀a∈l,a.BX)):Dq enc AF w (fuel+1) 33 Nd.row (λb=>b.BX):=
 (VJ underlying33 (by kernel_rfl) (C6.cons (o:=0) (o':=1) rfl (by kernel_rfl) (by decide) (Ge Fo) (C6.cons (o:=1) (o':=2) rfl (by kernel_rfl) (by decide) (Zf Lb) (C6.cons (o:=2) (o':=3) rfl (by kernel_rfl) (by decide) (Ge Fo) (C6.cons (o:=3) (o':=4) rfl (by kernel_rfl) (by decide) B (C6.nil)))))).conv (λq=>⟨q.1,q.2.1,q.2.2.1,q.2.2.2.1⟩) (λq=>by simp[Nd.row,Zd,-Nd.ABb]) (λq h=>⟨h.2.1,h.2.2.2.1.1,AIj h.2.2.2.1.2⟩)
theorem AVd (h:Dq enc AF w fuel 33 Nd.row (λb=>b.BX)):Dq enc AF w (fuel+1) 31 (λl:List Nd=>[.sl (l.map Nd.row)]) (λl=>G l<=maxLen/\∀a∈l,a.BX):=
 dq (n:=4) underlying31 (by kernel_rfl) (by decide) h
theorem km : ∀fuel,Dq enc AF w fuel 33 Nd.row (λb=>b.BX)
 | 0=>Dq.zero
 | 1=>AJA Dq.zero
 | k+2=>AJA (AVd (km k))
end
def JP (d:List En)(l:List Nd):List Int:=l.map (N5 d)
theorem Zh (d:List En)(l:List Nd):G (JP d l)=G l:=by simp[JP]
theorem AJU (d:List En)(l:List Nd)(hd:G d<=1000000)(hl:G l<=1000000)(A5:Nd.FY l):AC AF 105 [.c (Cc d),.c (.sl (Nd.AG l))] (.c (AV (I6 (JP d l)))):=by
 obtain⟨rs,Aw⟩:=AI (Nd.AG l);have Av:G rs=G l:=by rw[<-Aw];exact Pc l
 obtain⟨own,A0⟩:=AI (JP d l);obtain⟨n,hn⟩:=AI (G l);have B0:G own=n:=by rw[<-A0,Zh,hn]
 have A2:=AV6 d hd;rw[Aw,A0];rw[hn]at Av hl;refine en func105 ntmps105 ?_;refine wy (cj @Av<|Pw) trivial ⟨?_⟩;rw[show Aq n (V.c (C.int .i64 0))=CK (Aq n 0)by simp[CK]];refine lp (ι:={ k:Nat // k<=n }) (λk=>[(14,.c (.int .i64 (k.1:Int)))]) (λk=>[.box 3 (CK (K8 (own.take k.1)++Aq (n - k.1) 0)) U]) (λk=>n - k.1) ⟨0,by simp⟩ ?_ ?_;all_goals simp only[CG,Bw,CO,Ag,Ai]
 exact ER @K8.eq_1
 . rintro ⟨k,hk⟩;simp only;by_cases B:k<n
   . obtain⟨b,hb⟩:∃b,l[k]?=J b:=⟨_,BE (by omega)⟩
     have A9:rs[k]?=J b.row:=by rw[<-Aw];exact XG hb
     have Dp:k<G rs:=by omega
     have Bu:=gx A9;have FN:=A2 b (di A5 b (Cj hb));unfold Am at FN;obtain⟨c,hc⟩:=AI (N5 d b);rw[hc]at FN;have A8:own[k]?=J c:=by rw[<-A0];unfold JP;rw[CM,hb,<-hc];rfl
     have S:=APb A8;have M:G (K8 (own.take k))=k:=by rw[xZ,Fa];omega
     obtain⟨r,hr⟩:=AI (n - (k+1));have j8:n - k=r+1:=by omega
     obtain⟨D,hD⟩:=AI (K8 (own.take k));rw[hD]at S M ⊢;rw[j8,BY];obtain⟨Z,hZ⟩:=AI (CK (D++0::Aq r 0));have G4:G Z=n:=by rw[<-hZ,Ts];simp;omega
     obtain⟨X,q⟩:=AI (CK (D++c::Aq r 0));have Rh:G X=n:=by rw[<-q,Ts];simp;omega
     have z0:Z.set k (.c (.int .i64 c))=X:=by rw[<-hZ,ABG M c,q]
     have g0:X[k]?=J (.c (.int .i64 c)):=by rw[<-q];exact AWB M
     have YO:=gx g0;have s0:X.set k (.c (.int .i64 0))=CK ((D++[0])++Aq r 0):=by rw[<-q,ABG M 0,bB]
     have Ys:k+1<=n:=by omega
     have Rg:=q.symm;have Lt : ∀j,G D=j+1->Z[j]?=J (.c (.int .i64 (Lx D))):=λj h=>by rw[<-hZ,AIC h];exact AJX h
     rw[hZ];clear q hZ A2;by_cases GM:c=2;subst GM;cases k with
     | zero=>rw[ALJ rfl (.inl M)]at S;rw[<-S,<-hr]at s0;refine wy (cj9 @Av @B @Dp @A9 @Bu @G4 @Rh @z0 @g0<|cj3 @YO @s0 @Ys Pw) (cj FN<|trivial) ⟨?_⟩;exact⟨⟨0+1,by omega⟩,by simp only;omega,wd 1⟩
     | succ j =>
       have g1:X[j]?=J (.c (.int .i64 (Lx D))):=by rw[<-z0,HF (by omega)];exact Lt j M
       have O7:=gx g1;have A1:=AV2 (Lx D);have hj:j<n:=by omega
       have TS:(j:Int)+1<(n:Int):=by omega
       have Wg : ¬(j:Int)+1=0:=by omega
       have Rq:(0:Int)<=(j:Int)+1:=by omega
       cases ho:dr (Lx D)with
       | true=>rw[ALJ rfl (.inr ho)]at S;rw[<-S,<-hr]at s0;rw[ho]at A1;refine wy (cj9 @Av @B @Dp @A9 @Bu @G4 @Rh @z0 @g0<|cj9 @YO @s0 @Ys @g1 @O7 @hj @TS @Wg @Rq Pw) (cj2 FN A1 W) ⟨?_⟩;exact⟨⟨j+1+1,by omega⟩,by simp only;omega,wd 1⟩
       | false =>
         rw[tF (λe=>by rcases e.2 with e|e;omega;rw[ho]at e;cases e) (λe=>by rw[AOP]at e;cases e.1)]at S;rw[ho]at A1;have Ye:X=CK (K8 (own.take (j+1+1))++Aq (n - (j+1+1)) 0):=by rw[Rg,S,bB,hr]
         refine wy (cj9 @Av @B @Dp @A9 @Bu @G4 @Rh @z0 @g0<|cj8 @YO @Ys @g1 @O7 @hj @TS @Wg @Rq Pw) (cj2 FN A1 W) ⟨?_⟩;rw[Ye];exact⟨⟨j+1+1,by omega⟩,by simp only;omega,wd 1⟩
     . cases Yj:YD c with
       | false =>
         rw[tF (λe=>GM e.1) (λe=>by rw[Yj]at e;cases e.1)]at S;simp[YD]at Yj;have Ye:X=CK (K8 (own.take (k+1))++Aq (n - (k+1)) 0):=by rw[Rg,S,bB,hr]
         refine wy (cj @Av<|cj @B<|cj @Dp<|cj @A9<|cj @Bu<|cj @G4<|cj @Rh<|cj @z0<|cj @g0<|cj @YO<|cj @Ys<|cj @GM<|cj (Yj.1)<|cj (Yj.2.1)<|cj (Yj.2.2)<|Pw) (cj FN<|trivial) ⟨?_⟩;rw[Ye];exact⟨⟨k+1,by omega⟩,by simp only;omega,wd 1⟩
       | true =>
         have NP:c=3\/c=5\/c=6:=by simpa [YD]using Yj
         cases k with
         | zero =>
           rw[tF (λe=>GM e.1) (λe=>by have:=e.2.1;omega)]at S;have Ye:X=CK (K8 (own.take (0+1))++Aq (n - (0+1)) 0):=by rw[Rg,S,bB,hr]
           have ff:=(cj9 @Av @B @Dp @A9 @Bu @G4 @Rh @z0 @g0<|cj3 @YO @Ys @GM Pw)
           have cc:=(cj FN<|trivial)
           repeat any_goals (first|refine Du ff cc ⟨?_⟩|exact Bt ff|(refine Dv ff ?_ ?_<;>intro h<;>try exact Dw))
           all_goals (rw[Ye];exact⟨⟨0+1,by omega⟩,by simp only;omega,wd 1⟩)
         | succ j =>
           have g1:X[j]?=J (.c (.int .i64 (Lx D))):=by rw[<-z0,HF (by omega)];exact Lt j M
           have O7:=gx g1;have hj:j<n:=by omega
           have TS:(j:Int)+1<(n:Int):=by omega
           have Wg:(0:Int)<(j:Int)+1:=by omega
           have Rq:(0:Int)<=(j:Int)+1:=by omega
           have A7:j+1<=n:=by omega
           by_cases PK:Lx D=2
           . rw[AZS GM Yj (by omega) PK,M,show j+1 - 1=j by omega]at S;have s1:X.set j (.c (.int .i64 0))=CK (K8 (own.take (j+1+1))++Aq (n - (j+1+1)) 0):=by rw[Rg,AJz M 0,S,bB,hr]
             have ff:=(cj9 @Av @B @Dp @A9 @Bu @G4 @Rh @z0 @g0<|cj9 @YO @Ys @GM @g1 @O7 @hj @TS @Wg @Rq<|cj3 @A7 @PK @s1 Pw)
             have cc:=(cj FN<|trivial)
             repeat any_goals (first|refine Du ff cc ⟨?_⟩|exact Bt ff|(refine Dv ff ?_ ?_<;>intro h<;>try exact Dw))
             all_goals exact⟨⟨j+1+1,by omega⟩,by simp only;omega,wd 1⟩
           . rw[tF (λe=>GM e.1) (λe=>PK e.2.2)]at S;have Ye:X=CK (K8 (own.take (j+1+1))++Aq (n - (j+1+1)) 0):=by rw[Rg,S,bB,hr]
             have ff:=(cj9 @Av @B @Dp @A9 @Bu @G4 @Rh @z0 @g0<|cj9 @YO @Ys @GM @g1 @O7 @hj @TS @Wg @Rq<|cj @PK Pw)
             have cc:=(cj FN<|trivial)
             repeat any_goals (first|refine Du ff cc ⟨?_⟩|exact Bt ff|(refine Dv ff ?_ ?_<;>intro h<;>try exact Dw))
             all_goals (rw[Ye];exact⟨⟨j+1+1,by omega⟩,by simp only;omega,wd 1⟩)
   have e1:own.take k=own:=Gl (by omega);have ek:k=n:=by omega
   have e2:n - k=0:=by omega
   rw[e1,e2];have M:G (K8 own)=n:=by rw[xZ,B0]
   unfold I6;generalize hD:K8 own=D at M ⊢;rw[show Aq 0 (0:Int)=[]from rfl,E5];subst ek;cases k with
   | zero=>have jM:D=[]:=List.eq_nil_of_length_eq_zero M;subst jM;have z:=Zl [] [];refine wu (.mk 19) (cj2 @Av @B Pw) trivial ⟨?_⟩;refine AW.Bi 0 rfl (XK _) (by simp only[V.Cs,V.Bi,B9,if_true];exact rfl) (by simp only[Ag,Ap,BB,O.Bi,Zm];exact rfl) ?_;have hz:AV (Uj [])=.sl []:=F;rw[hz];exact wz (cj2 @Hc.eq_1 @Hc.eq_2 Pw) W
   | succ p =>
     obtain⟨X,q⟩:=AI (CK D);have Rh:G X=p+1:=by rw[<-q,Ts,M]
     have g1:X[p]?=J (.c (.int .i64 (Lx D))):=by rw[<-q,AIC M];have h:=AJX (r:=[]) M;rwa [E5]at h
     have O7:=gx g1;have A3:p<p+1:=by omega
     have A6:(p:Int)<(p:Int)+1:=by omega
     by_cases PK:Lx D=2;have hF:Uj D=D.set p 0:=by unfold Uj;rw[if_pos ⟨by omega,PK⟩,M];rfl
     have s1:X.set p (.c (.int .i64 0))=CK (D.set p 0):=by have h:=AJz (r:=[]) M 0;rw[E5,E5]at h;rw[<-q,h]
     have z:=Zl (D.set p 0) [];rw[E5,List.length_set,M]at z;rw[hF,q];refine wu (.mk 19) (cj9 @Av @B @Rh @g1 @O7 @A3 @A6 @PK @s1 Pw) trivial ⟨?_⟩;refine AW.Bi 0 rfl (XK _) (by simp only[V.Cs,V.Bi,B9,z,if_true];exact rfl) (by simp only[Ag,Ap,BB,O.Bi,Zm];exact rfl) ?_;unfold AV;exact wz Pw W;have hF:Uj D=D:=by unfold Uj;rw[if_neg (λe=>PK e.2)]
     have z:=Zl D [];rw[E5,M]at z;rw[hF,q];refine wu (.mk 19) (cj8 @Av @B @Rh @g1 @O7 @A3 @A6 @PK Pw) trivial ⟨?_⟩;rw[<-q];refine AW.Bi 0 rfl (XK _) (by simp only[V.Cs,V.Bi,B9,z,if_true];exact rfl) (by simp only[Ag,Ap,BB,O.Bi,Zm];exact rfl) ?_;unfold AV;exact wz Pw W
def O2 (d:List En)(l:List Nd):List Int×Int:=if Ll d=U\/(Dd l).Ad=U then([],1)else(I6 (JP d l),0)
def W4 (p:List Int×Int):V:=.A7 [.c (AV p.1),AR p.2]
theorem AIO {l:List Nd}(h:(Dd l).BX):Nd.FY l:=h.2.2
theorem rY (l:List Nd):(Dd l).cnt=1+Nd.Az l:=F
def PX (n:Int):List C:=[.int .i64 n]
theorem rS (l:List Int):AV l=.sl (l.map PX):=F
theorem ATN (l:List Int):((l.map PX).all λr=>G r==1)=true:=by
 rw[ES];intro r B;obtain⟨n,_,rfl⟩:=List.mem_map.1 B;rfl
theorem Amc (d:List En)(l:List Nd)(hd:G d<=1000000)(hs : ∀e∈d,e.text.size<=maxLen)(A5:(Dd l).BX)(hc:(Dd l).cnt<=100000):AC AF 119 [.c (Cc d),.c (.sl (Nd.AG l))] (W4 (O2 d l)):=by
 have B:=Ajw d hd hs;have M:=Ajy l A5 hc;have Mi:=SH l;have jf:=rY l;have h4:=AnP (JP d l) (by rw[Zh];omega);have A0:=Amk d hd;obtain⟨R,hR⟩:=AI (I6 (JP d l));unfold O2 W4;rw[hR]at h4 ⊢;have hz:AV []=.sl []:=F;cases e1:Ll d with
 | false=>rw[e1]at B;rw[if_pos (.inl F)];unfold AR;rw[hz];refine en func119 ntmps119 ?_;exact wz ANn (cj B<|trivial)
 | true =>
   rw[e1]at B;cases e2:(Dd l).Ad with
   | false=>rw[e2]at M;rw[if_pos (.inr F)];unfold AR;rw[hz];refine en func119 ntmps119 ?_;exact wz ANn (cj2 B M W)
   | true =>
     rw[e2]at M;rw[if_neg (by simp)];unfold AR;obtain⟨rs,Aw⟩:=AI (Nd.AG l);have Av:G rs=G l:=by rw[<-Aw];exact Pc l
     rw[Aw]at M ⊢;generalize hn:G l=n at Av Mi;refine en func119 ntmps119 ?_;refine wy (cj @Av<|ANn) (cj2 B M W) ⟨?_⟩;refine AW.le (Le.tL 6 3 1 F) ?_;simp only[BO,Ag,Ai,BU];refine lp (ι:={ k:Nat // k<=n }) (λk=>[(6,.gr 0 1 (((JP d l).take k.1).map PX)),(7,.c (.int .i64 (k.1:Int)))]) (λk=>[.tok 3 1 k.1]) (λk=>n - k.1) ⟨0,by simp⟩ ?_ ?_;all_goals simp only[CG,Bw,CO,Ag,Ai]
     exact DH;rintro ⟨k,hk⟩;simp only;by_cases z:k<n;obtain⟨b,hb⟩:∃b,l[k]?=J b:=⟨_,BE (by omega)⟩
     have A9:rs[k]?=J b.row:=by rw[<-Aw];exact XG hb
     have Dp:k<G rs:=by omega
     have Bu:=gx A9;have FN:=A0 b (di (AIO A5) b (Cj hb));unfold Am at FN;obtain⟨c,q⟩:=AI (N5 d b);rw[q]at FN;have A1:(JP d l)[k]?=J c:=by unfold JP;rw[CM,hb,<-q];rfl
     have GP:((JP d l).take (k+1)).map PX=((JP d l).take k).map PX++[PX c]:=by rw[List.take_add_one,A1,Fm];rfl
     have Md:G (((JP d l).take k).map PX)=k:=by rw[List.length_map,Fa,Zh];omega
     have S:=ATN ((JP d l).take k);generalize YW:((JP d l).take k).map PX=RR at GP Md S ⊢;have FO:k+1<=maxLen:=by unfold maxLen;omega
     have EX:(k+1)*8<=140737488355328:=by omega
     have Y4:RR++[[C.int .i64 c]]=((JP d l).take (k+1)).map PX:=GP.symm;clear GP;refine wy (cj9 @Av @z @Dp @A9 @Bu @Md @FO @EX @Y4 ANn) (cj FN<|trivial) ⟨?_⟩;exact⟨⟨k+1,by omega⟩,by simp only;omega,wd 1⟩;have e3:(JP d l).take k=JP d l:=Gl (by rw[Zh];omega);rw[e3];rw[rS (JP d l)]at h4;exact wz (cj2 @Av @z ANn) (cj h4<|trivial)
def V.ky (k:Nat):V->Option V
 | .own i off len es=>if i=k then J (.own 0 off len es)else E
 | v=>V.Di k v
def V.Zp (k:Nat):List V->Option (List V)
 | []=>J []
 | v::l=>match V.ky k v,V.Zp k l with
   | some y,J r=>J (y::r)
   | _,_=>E
theorem AXI {x:Cx}{w:World}{k n:Nat}(hn:n=(x.loc k).n):∀(v M:V) (u:Value),V.ky k v=J M->CV x w v u->CV (Cx.one x.S (x.loc k).b n) w M u:=by
 intro v M u h B;cases v with
 | own i A0 len es =>
   simp only[V.ky]at h;split at h;rename_i e;cases h;subst e;simp only[CV,Cx.one]at B ⊢;obtain⟨_,_,cap,q,z,h3,h4⟩:=B;exact⟨W,W,cap,q,z,h3,by rw[hn];exact h4⟩;cases h
 | _=>exact AJ1 _ _ _ h B
theorem AJ2 {x:Cx}{w:World}{k n:Nat}(q:n=(x.loc k).n):∀(l M:List V) (us:List Value),V.Zp k l=J M->AO x w l us->AO (Cx.one x.S (x.loc k).b n) w M us
 | [],M,us,h,B=>by simp only[V.Zp,BL]at h;subst h;simpa only[AO]using B
 | v::l,M,us,h,B=>by
   simp only[AO]at B;obtain⟨u,z,rfl,h1,h2⟩:=B;unfold V.Zp at h;split at h;rename_i y r hy hr;cases h;simp only[AO];exact⟨u,z,F,AXI q v y u hy h1,AJ2 q l r z hr h2⟩;cases h
section
variable {P:Program} {K:Exit->St->Prop} {ops:List Oper} {s:St}
theorem SW.AEf {o:Oper}{r:List Oper}{f:FuncId}{args Bd:List V}{ty:TypeId}{cells B cs cs':List V}{res:V}{fn:Func}(k:Nat)(K9:AY P f Bd ty cells B res)(hf:P.funcs[f]?=J fn)(hb:fn.body.isSome=I)(hn:(fn.name == "runtime.NumGoroutine")=U)(hg:BQ ops s.t o.guard=J I)(q:C7 (ev s.t) o.op=J (f,args))(hp:V.Zp k args=J Bd)(hk:s.h[k]?=J (.box ty cs U))(A3:V.Dj k cs=J cells)(jg:V.Dj k cs'=J B)(R5:V.Pn cs'=I)(h:SW P ops K r (s.step o.dst res (J (k,.box ty cs' U)))):SW P ops K (o::r) s:=λS0 w0 x a w z=>by
 have hw:FB o (yielded ops.toArray a.tmps)=true:=by
  have:=KR (o:=o) z.tm (IF (ops:=ops) (K1:=True) (K2:=False) hg W);exact Classical.byContradiction λh=>this.2 h
 unfold wpList;rw[if_pos hw];refine .inl ?_;unfold C7 at q;split at q
 case h_2=>cases q
 rename_i fo ar Fk ho;split at q
 case h_2=>cases q
 rename_i f' A0 FG;simp only[BL,Prod.mk.injEq]at q;obtain⟨rfl,rfl⟩:=q;have CN:=Pp (CW z.tm fo);rw[FG]at CN;simp only[CV]at CN;obtain⟨Dl,CN,EP⟩:=CN;have Hw:AO x w (ar.toList.map (ev s.t)++A0) (ar.toList.map a.eval++Dl.toList):=(AO.of_map λy _=>CW z.tm y).append EP;have g:=z.good;obtain⟨hd,b1,b2,vs,b3,b4,b5⟩:=g.ok k _ hk;have Fh:=Qn (n:=vs.size) _ _ _ A3 b5;have PO : ∀j,j<vs.size->¬x.S (x.loc k).b j:=λj hj=>g.EA k _ j hk ⟨rfl,by omega⟩
 have Co:=K9 x.S w _ (x.loc k).b vs g.ex PO b3 Fh (AJ2 (by first|exact b4|exact b4.symm) _ _ _ hp Hw);have CT:fn.body≠none:=by intro e;rw[e]at hb;cases hb
 have F6:fn.name≠ "runtime.NumGoroutine":=by simpa using hn
 have A1:(execOp a.eval o).run P w=.ok (.enter f' (ar.toList.map a.eval++Dl.toList).toArray) w:=by
  have e1:(ar.map a.eval++Dl)=(ar.toList.map a.eval++Dl.toList).toArray:=by apply Array.toList_inj.1;simp
  simp[execOp,ho,resolve,CN,Deferred.ofValue,invoke,callFunc,program,Sem.run,hf,F6,CT,e1]
 unfold Oper.wp;rw[A1];refine Co.mono ?_;rintro r' w' ⟨u,S',Bz,rfl,M,CZ,Gc,h1,h2,h3,h4⟩;have A5:=(g.ok k _ hk).2.lt b2;have he:Ext x { x with S:=S' } w w':=⟨CZ,λ_ h=>h,λ_ _=>FM.refl _⟩
 have g':=g.H5 (x':={ x with S:=S' }) k (.box ty cs' U) he (M.wide λb e=>⟨hd,b2,e.symm⟩) (λi=>⟨.inl,λh=>h.elim id λe=>e ▸ hd⟩) (λ_ _=>rfl) (λ_=>.inl ⟨hd,b2,rfl⟩)
  ⟨b1,b2,Bz,h1,by rw[h2,b4],Zo (x:={ x with S:=S' }) hd b1 rfl _ _ _ R5 jg h3⟩ (λb j hs=>(Gc b j hs).imp id λh=>h.elim (λh=>⟨h.2,.inl h.1,λe=>by have:(x.loc k).b=b:=e;omega⟩) (λh=>⟨by rw[h.1];exact Nat.lt_of_lt_of_le A5 M.size,.inr ⟨hd,b2,h.1.symm⟩,λ_ hx=>by have h5:j<(x.loc k).n:=hx.2;have h6:=h.2;omega⟩)) (λj hx=>g.EA k _ j hk hx)
 have CB:NC w w':=⟨M.size,λb ob D7 II=>(M.block b (Array.getElem?_eq_some_iff.1 D7).1 λe=>by subst e;rw[b3]at D7;cases D7;cases II).trans D7⟩
 have e:=Kj s.h (J (k,O.box ty cs' U)) (λk' o' e=>by cases e;exact Nat.le_of_lt (Br.1 hk).1);have A2:Good S0 w0 { x with S:=S' } w' (λi=>(Bk s.h (J (k,O.box ty cs' U)))[i]?):=by rw[e];exact g'
 exact h S0 w0 _ _ w' (Bo.put z.tm (z.df.mono CB) he A2 (CV.mono (Ub S' x w') _ _ h4) o.dst)
end
section
variable {P:Program} {S0:BF} {w0:Bs} {x:Cx} {w:World} {H:Bx} {a:Act} {o:Oper}
theorem AFg {α:Type}{l:List α}(M:0<G l):∀(m i:Nat),i<m*G l->(Aq m l).flatten[i]?=l[i % G l]?
 | 0,i,h=>by simp at h
 | m+1,i,h=>by
   rw[BY,Hp];by_cases B:i<G l;rw[EJ B,Nat.mod_eq_of_lt B];rw[List.getElem?_append_right (by omega),AFg M m (i - G l) (by rw[Gz,gE]at h;omega)];rw[<-Nat.mod_eq_sub_mod (by omega)]
theorem Aa8 {z:Array Value}(B:0<z.size)(m:Nat):(KN z m).toList=(Aq m z.toList).flatten:=by
 apply List.ext_getElem?;intro i;by_cases M:i<m*z.size;rw[AFg (by simpa using B) m i (by simpa using M)];have hm:i % z.size<z.size:=Nat.mod_lt _ B;simp[KN,M,hm];have S:(KN z m).toList.length<=i:=by simp[KN];omega
 have q:G ((Aq m z.toList).flatten)<=i:=by simp;omega
 rw[M6 S,M6 q]
theorem toCs_mapC : ∀l:List C,toCs (l.map V.c)=J l
 | []=>rfl
 | c::l=>by simp only[Ap,toCs,toC,toCs_mapC l]
theorem AUs (g:Good S0 w0 x w H){t:TypeId}{y z:Operand}(ho:o.op=.call ⟨.builtin .append,#[y,z],#[t,t]⟩){es Bq:Nat}(hT:Dk P t=J (Ae,es,Bq))(R7:C2 P Ae=J zs)(Ww:V.CF zs=J (zc.map V.c))(h0:0<es){AG:List (List C)}(A8 : ∀r∈AG,G r=es)(hY:CV x w (.Bg []) (a.eval y))(hZ:CV x w (.c (.sl AG)) (a.eval z))(A1:AG≠[])(S:G AG<=1000000)(A0:Bq<=200)(k0:Nat)(hk : ¬x.dom k0):
 ∃m:Nat,BW P o a S0 w0 x w H (.own k0 0 (G AG) es) (J (k0,.box Ae ((AG.flatten++(Aq m zc).flatten).map V.c) U)):=by
 obtain⟨hu,ie,q,EB,hz,A2,je,A3⟩:=JS hT;obtain⟨zk,Y9,IN,i2,J9,R8⟩:=Z2 (x:=x) (w:=w) R7;rw[EB]at J9;cases J9;rw[hz]at R8;cases R8;have B0:=MC _ _ _ Ww IN;simp only[CV]at hY hZ;obtain⟨A,hA,_⟩:=hY;obtain⟨B,c',xs,VE,k1,k2,k3,k4,k5,k6⟩:=T0 hZ A8;obtain⟨b,A5,rfl,_⟩:=k6 A1;have Gs:0<G AG:=List.length_pos_iff.2 A1;have Dz:G AG*ie.bytes<=281474976710656:=by rw[je];have:=ua S A0;omega
 have Gb:Ay w w.drew:=(Ay.refl w).drew;obtain⟨g1,Mg⟩:=g.MF (x':=x) (w':=w.drew) Gb ⟨λ_ _ h=>h,λb j v _ hc=>Gb.cell hc⟩ rfl rfl (λb j h=>.inl h);have M : ∃m cap:Nat,(Builtin.append_ #[t,t] o.type #[a.eval y,a.eval z]).run P w=.ok (.slice (J ⟨w.heap.size,0,E⟩) (G AG) cap) (w.drew.alloc (.cells (xs.toArray++KN q.cells m) Ae))/\cap=G AG+m/\cap<=maxLen:=by
  have JL:=grownCap_ge w (G AG) 0 Ae;have A9:=grownCap_le_maxLen w (G AG) 0 Ae (by unfold maxLen;omega);refine⟨grownCap w (G AG) 0 Ae - G AG,grownCap w (G AG) 0 Ae,?_,by omega,A9⟩;rw[hA,VE];cases A with
  | none=>exact run_append_nil (P:=P) w t o.type Ae ie q hu EB hz ⟨b,A5,E⟩ (G AG) c' xs (by rw[k4,A2]) (k5 _ F) Gs (by omega) Dz
  | some ad=>have:=run_append_grow (P:=P) w t o.type Ae ie q hu EB hz ad 0 0 [] (by simp) (λj v h=>by simp at h) ⟨b,A5,E⟩ (G AG) c' xs (by rw[k4,A2]) (k5 _ F) (by omega) (by simp only[Cz];omega) (growslice_fits (by omega) (by rw[je];simp only[Cz];have:=ua S A0;omega));simp only[Cz,BU]at this;refine this.trans ?_;simp
 obtain⟨m,cap,M,Mf,A6⟩:=M;have mf:=Aa8 (z:=q.cells) (by rw[A3];exact h0) m;have A7:AO x w.drew ((AG.flatten++(Aq m zc).flatten).map V.c) (xs.toArray++KN q.cells m).toList:=by
  rw[Pq,mf,Fm];refine AO.append (AO.mono Mg _ _ (AO.OS k3)) ?_;have hr:=toCs_ok (toCs_mapC zc) B0;have h4:AO x w (zc.map V.c) q.cells.toList:=AO.OS hr;have h5:=h4.px m;rw[show (Aq m (zc.map V.c)).flatten=((Aq m zc).flatten).map V.c by rw[AkH,uR]]at h5;exact AO.mono Mg _ _ h5
 obtain⟨g',he⟩:=g1.Zc k0 hk Ae _ _ A7;refine⟨m,_,_,_,_,by simp[execOp,ho,resolve,invoke,builtin,M];rfl,.inl F,?_,g',Mg.trans he,λk h=>h.elim .inl λe=>.inr ⟨.box Ae ((AG.flatten++(Aq m zc).flatten).map V.c) U,by rw[e]⟩,λhb=>by rw[ho]at hb;cases hb⟩;simp only[CV,Cx.C4,if_true];refine⟨.inr W,W,cap,F,by omega,A6,?_⟩;have B1:(KN q.cells m).size=m*es:=by rw[size_zeroCells,A3]
 show 0+cap*es<=(xs.toArray++KN q.cells m).size;rw[AMM,uW,B1,k4,Mf,Gz];omega
theorem AIt (g:Good S0 w0 x w H){t:TypeId}{y z:Operand}(ho:o.op=.call ⟨.builtin .append,#[y,z],#[t,t]⟩){es Bq:Nat}(hT:Dk P t=J (Ae,es,Bq))(R7:C2 P Ae=J zs)(Ww:V.CF zs=J (zc.map V.c))(h0:0<es){AG:List (List C)}(q : ∀r∈AG,G r=es)(hY:CV x w (.Bg []) (a.eval y))(hZ:CV x w (.c (.sl AG)) (a.eval z))(A0:AG≠[])(B:G AG<=1000000)(S:Bq<=200)(M:Nat)(hk : ¬x.dom M):
 ∃v t',(∀k ob,t'=J (k,ob)->k<=M)/\(∃m:Nat,v=.own M 0 (G AG) es/\t'=J (M,.box Ae ((AG.flatten++(Aq m zc).flatten).map V.c) U))/\BW P o a S0 w0 x w H v t':=by
 obtain⟨m,hm⟩:=AUs g ho hT R7 Ww h0 q hY hZ A0 B S M hk;exact⟨_,_,λk ob e=>by cases e;exact BN _,⟨m,rfl,rfl⟩,hm⟩
theorem AIW : ∀l:List C,V.Pn (l.map V.c)=I
 | []=>rfl
 | c::l=>by simp only[Ap,V.Pn,V.Q6,Cd];exact AIW l
theorem AIV (k:Nat):∀l:List C,V.Dj k (l.map V.c)=J (l.map V.c)
 | []=>rfl
 | c::l=>by simp only[Ap,V.Dj,V.Di,AIV k l]
end
theorem gx1 {α:Type}{l:List α}{k:Nat}{x:α}(h:l[k]?=J x):∀B:k<G l,l[k]'B=x:=λB=>by rw[BE B]at h;exact ML h
def vY:List UInt8:=[40,41,91,93,123,125,124,60,62,47,46]
theorem AkO (b:UInt8):vY.contains b=Qj b:=by
 unfold Qj;rw[Oj,mR,mR];simp[vY,Gf];constructor<;>(intro h;rcases h with h|h|h|h|h|h|h|h|h|h|h<;>simp[h])
theorem Al6 {a b:UInt8}:decide ((a.toNat:Int)=(b.toNat:Int))=(a==b):=by
 rw[Oj,decide_eq_true_iff,beq_iff_eq];constructor;intro h;exact UInt8.toNat_inj.1 (by omega);intro h;rw[h]
theorem AmF (s:ByteArray)(hs:s.size<=maxLen):AC AF 210 [.c (.str s)] (.c (.bool (Nh s))):=by
 have A2:(s.size:Int)<=9223372036854775807:=by have hm:maxLen=9223372036854775807:=F;omega
 have A3 : ∀k:Nat,k<s.size->IntKind.i64.wrap ((k:Int)+1)=(k:Int)+1:=λk hk=>Ac
 clear hs A2;refine en func210 ntmps210 ?_;refine wy AGS trivial ⟨?_⟩;refine lp (ι:={ k:Nat // k<=s.size/\SU s k=SU s 0 }) (λk=>[(2,.c (.bool U)),(3,.c (.int .i64 (k.1:Int)))]) (λ_=>[]) (λk=>s.size - k.1) ⟨0,by simp⟩ ?_ ?_;all_goals simp only[CG,Bw,CO,Ag,Ai]
 exact DH
 . rintro ⟨k,hk,hI⟩;simp only;by_cases B:k<s.size
   . obtain⟨b,hb⟩:=AI ((s[k]'B));have M:=AXn B;rw[hb]at M;have Ga:s.data.toList[k]?=J b:=by rw[BE (by simpa using B)];exact congrArg J hb
     have OM:=A3 k B;refine wy (cj @B<|AGS) trivial ⟨?_⟩;refine lp (ι:={ x:Nat×Bool // x.1<=11/\(x.2 || (vY.drop x.1).contains b)=Qj b }) (λx=>[(4,.c (.bool x.1.2)),(5,.c (.int .i64 (x.1.1:Int)))]) (λ_=>[]) (λx=>11 - x.1.1) ⟨(0,U),Nat.zero_le _,by rw[B9,tf,AkO]⟩ ?_ ?_;all_goals simp only[CG,Bw,CO,Ag,Ai]
     exact DH
     . rintro ⟨⟨j,fd⟩,hj,q⟩;simp only at hj q ⊢;by_cases Wg:j<11
       . obtain⟨x,hx⟩:=AI (vY[j]'Wg);have z:([40,41,91,93,123,125,124,60,62,47,46]:List UInt8)[j]?=J x:=by rw[<-hx];exact BE (l:=vY) Wg
         have A0:=gx1 z;rw[List.drop_eq_getElem_cons (l:=vY) Wg,hx,List.contains_cons]at q;have A1:decide ((x.toNat:Int)=(b.toNat:Int))=(x==b):=Al6;have Hx:(j:Int)<11:=by omega
         have S:=(cj7 @B @Hx @Ga @z @A0 @A1 @OM AGS)
         have cc:=W;repeat any_goals (first|refine Du S cc ⟨?_⟩|exact Bt S|(refine Dv S ?_ ?_<;>intro h<;>try exact Dw))
         exact⟨⟨(j+1,I),by omega,by rw[<-q,h];rfl⟩,by simp only;omega,wd 0⟩;exact⟨⟨(j+1,x==b),by omega,by rw[<-q,h,tf,show (x==b)=(b==x)from BEq.comm]⟩,by simp only;omega,wd 0⟩
       . have NR:vY.drop j=[]:=List.drop_of_length_le (by show 11<=j;omega);rw[NR,List.contains_nil,Bool.or_false]at q;have Hx : ¬(j:Int)<11:=by omega
         rw[<-q]at M;have S:=(cj3 @B @Hx @OM AGS)
         have cc:=W;repeat any_goals (first|refine Du S cc ⟨?_⟩|exact Bt S|(refine Dv S ?_ ?_<;>intro h<;>try exact Dw))
         rw[h,Bool.false_and]at M;have e:=AJG (hI.symm.trans M);exact wz (cj @e<|AGS) W;rw[h,Cd]at M;exact⟨⟨k+1,by omega,M.symm.trans hI⟩,by simp only;omega,wd 0⟩
   have e:=AVr (hI.symm.trans (AXm B));have e2:decide ((s.size:Int)=2)=decide (s.size=2):=by rw[decide_eq_decide];omega
   exact wz (cj3 @B @e @e2 AGS) W
def AZu (L:List Oper)(n:Nat):Bool:=(E6 (G L)).all λj=>decide (j<n) || (E6 j).all λi=>((eI L).getD j []).contains i
theorem Anz {o:Oper}{a:Act}{w:World}{K:Act->World->Prop}{Q q:Exit->Act->World->Prop}(S : ∀e a w,e≠.normal->Q e a w->q e a w)(B:o.wp P a w K Q):o.wp P a w K q:=by
 unfold Oper.wp at *
 generalize (execOp a.eval o).run P w=r at *
 cases r with
 | ok n z =>
   cases n<;>simp only[Nt]at B ⊢<;>
    first
     | exact B
     | exact Calls.mono B (λe A0 M=>by
        cases e<;>first
         | exact M
         | exact S _ _ _ (λh=>nomatch h) M
         | (obtain⟨a,w,h⟩:=M;exact⟨a,w,S _ _ _ (λh=>nomatch h) h⟩))
 | halt x z=>cases x<;>simp only[Nt]at B ⊢<;>first|exact B|exact S _ _ _ (λh=>nomatch h) B
def hdQ (R:Act->World->Prop)(Q:Exit->Act->World->Prop):Exit->Act->World->Prop
 | .normal,a,w=>R a w
 | e,a,w=>Q e a w
theorem Air (e:Exit)(a:Act)(w:World)(h:e≠.normal)(B:hdQ R Q e a w):Q e a w:=by
 cases e<;>first|exact absurd rfl h|exact B
theorem Anx {l m:List Oper}(hg : ∀o∈l,o.guard=E)(he : ∀i o,l[i]?=J o->∀j∈GL o,j<i)(ht:AZu (l++m) (G l)=I)(hR : ∀a w,R a w->Si P (l++m) Q (G l) a w):
 ∀(fuel vw:Nat) (b c:Array Bool) (a:Act) (w:World),b.size=G l->c.size=G (l++m)->(∀i,i<G l->c.getD i U=b.getD i U)->(∀i,G l<=i->c.getD i U=U)->(∀i o,l[i]?=J o->b.getD i U=I->∀j∈GL o,b.getD j U=I)->G (l++m)<=vw+(E6 (G l)).countP (λi=>b.getD i U)->
  wpAny P .any l.toArray (hdQ R Q) fuel b a w->wpAny P .any (l++m).toArray Q vw c a w:=by
 intro fuel;induction fuel with
 | zero =>
   intro vw b c a w hb hc M h2 DK hf h;have z : ∀i,i<G l->b.getD i U=true:=by
    intro i;induction i using AC7 with
    | _ i ih =>
      intro S;cases q:b.getD i U with
      | true=>rfl
      | false =>
        have:i∈mr .any l.toArray b:=by
         rw[mem_ready];refine⟨by rw[WS _ _ (by omega)];exact q,l[i],by simp,λe M h2=>?_⟩;have B:=he i l[i] (BE S) e.on (dZ.2 ⟨e,M,h2,rfl⟩);exact ih e.on B (by omega)
        rw[h.1]at this;cases this
   have GM:(E6 (G l)).countP (λi=>b.getD i U)<=G l:=by
    have:=AMZ (p:=λi=>b.getD i U) (l:=E6 (G l));simpa using this
   exact hR a w h.2 vw c (by omega) hc (λi S=>by rw[M i S,z i S]) h2
 | succ fuel ih =>
   intro vw b c a w hb hc M h2 DK hf h;have GM:(E6 (G l)).countP (λi=>b.getD i U)<=G l:=by
    have:=AMZ (p:=λi=>b.getD i U) (l:=E6 (G l));simpa using this
   by_cases hn:mr .any l.toArray b=[]
   have z : ∀i,i<G l->b.getD i U=true:=by
    intro i;induction i using AC7 with
    | _ i ih =>
      intro S;cases q:b.getD i U with
      | true=>rfl
      | false =>
        have:i∈mr .any l.toArray b:=by
         rw[mem_ready];refine⟨by rw[WS _ _ (by omega)];exact q,l[i],by simp,λe M h2=>?_⟩;have B:=he i l[i] (BE S) e.on (dZ.2 ⟨e,M,h2,rfl⟩);exact ih e.on B (by omega)
        rw[hn]at this;cases this
   exact hR a w (h.1 hn) vw c (by omega) hc (λi S=>by rw[M i S,z i S]) h2;obtain⟨i0,cq⟩:=List.exists_mem_of_ne_nil _ hn;have up : ∀i,i∈mr .any l.toArray b->i<G l/\i∈mr .any (l++m).toArray c:=by
    intro i S;rw[mem_ready]at S;obtain⟨g1,o,ho,g2⟩:=S;have ho:l[i]?=J o:=by simpa using ho
    have A0:=(Br.1 ho).1;rw[WS _ _ (by omega)]at g1;refine⟨A0,?_⟩;rw[mem_ready];refine⟨by rw[WS _ _ (by rw[hc,Cp];omega),M i A0];exact g1,o,by simpa [EJ A0]using ho,λe k1 k2=>?_⟩;have B:=he i o ho e.on (dZ.2 ⟨e,k1,k2,rfl⟩);rw[M _ (by omega)];exact g2 e k1 k2
   have A1:=(up i0 cq).1;have A8:(E6 (G l)).countP (λi=>b.getD i U)<G l:=by
    obtain⟨A0,_⟩:=up i0 cq;rw[mem_ready]at cq;have g1:=cq.1;rw[WS _ _ (by omega)]at g1;have:=AE2 (p:=λ_=>I) (p':=λi=>b.getD i U) (E6 (G l)) (λ_ _ _=>rfl) i0 (KP.2 A0) rfl g1;simpa using this
   cases vw with
   | zero=>rw[Cp]at hf;omega
   | succ k =>
   refine⟨λe=>?_,λi S=>?_⟩;have:=(up i0 cq).2;rw[e]at this;cases this;rw[mem_ready]at S;obtain⟨g1,o,ho,g2⟩:=S;have Hz:(l++m)[i]?=J o:=by simpa using ho
   have Dn:=(Br.1 Hz).1;have A3 : ∀i o,(l++m)[i]?=J o->c.getD i U=I->∀j∈GL o,c.getD j U=true:=by
    intro i o h3 h4 j B;have OF:i<G l:=AkJ λh=>by rw[h2 i h]at h4;cases h4
    rw[EJ OF]at h3;have:=he i o h3 j B;rw[M i OF]at h4;rw[M j (by omega)];exact DK i o h3 h4 j B
   have OF:i<G l:=AkJ λJL=>by
    unfold AZu at ht;simp only[ES,KP,Bool.or_eq_true,decide_eq_true_eq,mR]at ht;have hp:=(ht i Dn).resolve_left (by omega) i0 (by have:=(up i0 cq).1;omega);have q:=ABC (λj=>c.getD j U=I\/j=i) (l++m) [] [] rfl (λi' o' JM q j B=>by
     rcases q with q|rfl
     exact .inl (A3 i' o' (by simpa using JM) q j B);have JM:(l++m)[i']?=J o':=by simpa using JM
     rw[Hz]at JM;cases JM;obtain⟨e,k1,k2,k3⟩:=dZ.1 B;rw[<-k3];exact .inl (g2 e k1 k2)) (λi' r' h=>by simp at h) i ((eI (l++m)).getD i []) (by
     rw[List.getD_eq_getElem?_getD]at hp ⊢;cases hq:(eI (l++m))[i]? with
     | none=>rw[hq]at hp;cases hp
     | some y=>exact hq) (.inr F) i0 hp
    rcases q with q|q
    rw[M _ A1]at q;rw[mem_ready]at cq;have g3:=cq.1;rw[WS _ _ (by rw[hb];exact A1),q]at g3;cases g3;omega
   have TY:l[i]?=J o:=by rw[EJ OF]at Hz;exact Hz
   rw[WS _ _ (by omega),M i OF]at g1;have A5:i∈mr .any l.toArray b:=by
    rw[mem_ready];refine⟨by rw[WS _ _ (by omega)];exact g1,o,by simpa using TY,λe k1 k2=>?_⟩;have:=he i o TY e.on (dZ.2 ⟨e,k1,k2,rfl⟩);rw[<-M _ (by omega)];exact g2 e k1 k2
   have hw:=h.2 i A5;have A6:=hg o (Cj TY);have A7 : ∀f,FB o f=true:=λf=>by simp[FB,A6]
   show wpOp P (l++m).toArray Q i _ a w;unfold wpOp at hw ⊢;rw[show l.toArray[i]?=J o by simpa using TY]at hw;rw[show (l++m).toArray[i]?=J o by simpa using Hz];simp only[A7,if_true]at hw ⊢;rcases hw with hw|⟨k1,a',w',k2⟩
   refine .inl (Anz Air (Oper.wp_mono (λa w hh=>?_) hw));have OD:=λj=>Rb b i j (by omega)
   have A2:=λj=>Rb c i j (by omega)
   refine ih k _ _ a w (by simpa using hb) (by simpa using hc) (λj B=>by rw[OD,A2,M j B]) (λj B=>by rw[A2,if_neg (by omega)];exact h2 j B) (λi' o' k3 k4 j B=>?_) ?_ hh;rw[OD]at k4 ⊢;split;rfl;split at k4;rename_i e;subst e;rw[TY]at k3;cases k3;have:=he i o TY j B;obtain⟨e,q1,q2,q3⟩:=dZ.1 B;rw[<-M j (by omega),<-q3];exact g2 e q1 q2;exact DK i' o' k3 k4 j B;have:=AE2 (p:=λj=>(b.setIfInBounds i I).getD j U) (p':=λj=>b.getD j U) (E6 (G l)) (λj _ h=>by rw[OD,h,ite_self]) i (KP.2 OF) (by rw[OD,if_pos rfl]) g1;omega;exact .inr ⟨k1,a',w',Air _ _ _ (λh=>nomatch h) k2⟩
theorem AW.o6 {n0 id:Nat}(n:Nat){L:List Oper}{K:Exit->St->Prop}{s:St}(hm:P.follows .mixedOrders=I)(hl:(((L.take n).all λo=>o.guard.isNone) && (decide (n<=G L) && (AZu L n && lN L n (G L))))=I)(h:AK P (L.take n) (SW P L K (L.drop n)) (L.take n) [] s):AW ⟨E,n0⟩ P (.region id L.toArray I) K s:=λn1 S0 w0 x a w qq B=>by
 have e:({ w with drawn:=w.drawn+1 }:World)=w.drew:=F;have Au:Bo S0 w0 x s a w.drew:=by
  obtain⟨g,he⟩:=B.good.MF (x':=x) (w':=w.drew) (Ay.refl w).drew ⟨λ_ _ h=>h,λb j v _ q=>(Ay.refl w).drew.cell q⟩ rfl rfl (λb j h=>.inl h);exact⟨g,AO.mono he _ _ B.tm,B.df.mono (.FR (Ay.refl w).drew)⟩
 refine wpIn_wide.2 (wp_region_any hm ?_);rw[e];simp only[Bool.and_eq_true,decide_eq_true_eq,ES]at hl;obtain⟨hg,IJ,ht,hs⟩:=hl;have hL:=List.take_append_drop n L;have zT:G (L.take n)=n:=by rw[Fa];omega
 obtain⟨l,M⟩:=AI (L.take n);obtain⟨m,S⟩:=AI (L.drop n);rw[M]at hg hL zT h;rw[S]at hL h;clear M S;subst hL;subst zT;obtain⟨es,s',hr,q,hK⟩:=iL _ _ _ (h [] F);have hd:=pY (Q:=hdQ (λa w=>∃x s',Bo S0 w0 x s' a w/\SW P (l++m) K m s') λe a w=>∃x s,Bo S0 w0 x s a w/\K e s) (K:=SW P (l++m) K m) (Z:=λ_=>False) (n:=0) hr.z (by simpa using q) hK (λx s a w h B=>⟨x,s,B,h⟩) (λ_ _ k _ hk=>absurd hk (Nat.not_lt_zero k)) (λ_ _ _ _ _ h=>h.elim) Au;have A0:Lk l (es.map Ef.ks)=true:=by simpa using q
 refine Anx (λo ho=>by simpa using hg o ho) (λi o ho j hj=>?_) ht (λa w hR=>?_) _ _ _ _ a w.drew (by simp) (by simp) (λi hi=>by rw[r5,r5]) (λi hi=>r5 _ _) (λi o _ h=>by rw[r5]at h;cases h) (by simp) hd;obtain⟨_,_,_,_,⟨hb,_⟩,_⟩:=xC A0 ho;exact hb j hj;obtain⟨x,s',B,hS⟩:=hR;refine Aay hs IJ (G (l++m) - G l) (G l) a w (by omega) (BN _) ?_;rw[List.drop_left,Gl (by simp)];exact ACY (hS S0 w0 x a w B)
section
variable {P:Program} {S0:BF} {w0:Bs} {x:Cx} {w:World} {H:Bx} {a:Act} {o:Oper}
theorem APs (g:Good S0 w0 x w H){e:Operand->V}{t:TypeId}{len:Nat}{parts:Array (Nat×Operand)}(ho:o.op=.buildSlice t len parts)(hp : ∀p∈parts.toList,CV x w (e p.2) (a.eval p.2)){es Bq:Nat}(ht:Dk P t=J (Ae,es,Bq))(h0:0<len*es)(h1:len*es<=2 ^ 24)(q:G parts.toList=len){AG:List (List C)}(h:X4 e es 0 parts.toList=J AG){cs:List V}(z:AG.flatten.map V.c=cs)(M:Nat)(hk : ¬x.dom M):BW P o a S0 w0 x w H (.own M 0 len es) (J (M,.box Ae cs U)):=by
 subst z;obtain⟨hu,ie,zv,EB,hz,B,_,_⟩:=JS ht;obtain⟨arr,xs,e1,e2,e3,e4,e5⟩:=AFa (x:=x) (w:=w) e a parts.toList 0 AG ((Array.range (len*es)).map (zv.cells[· % zv.cells.size]!)) h hp (by simp[<-q]);have NW:G xs=len*es:=by rw[e3.len,K7 e4,e5,q]
 have Ft:arr.toList=xs:=by
  rw[e2,q];simp
 have S:arr.size=len*es:=by rw[<-FW,Ft,NW]
 have hr:=run_buildSlice (P:=P) w t Ae len (parts.map λ(i,y)=>(i,a.eval y)) arr ie zv hu EB hz (by rw[B];omega) (by rw[B];omega) (by rw[AJN,B];exact e1);obtain⟨g',he⟩:=g.Zc M hk Ae (AG.flatten.map V.c) arr (by rw[Ft];exact AO.OS e3);have Wi:len<=maxLen:=by
  have:len<=len*es:=Nat.le_mul_of_pos_right _ (Nat.pos_of_mul_pos_left h0);unfold maxLen;omega
 refine⟨_,_,_,.slice (J ⟨w.heap.size,0,E⟩) len len,by simp only[execOp,ho,Sem.run_bind,hr,Result.andThen_ok];rfl,.inl F,?_,g',he,λk h=>h.elim .inl λe=>.inr ⟨.box Ae (AG.flatten.map V.c) U,by rw[e]⟩,λhb=>by rw[ho]at hb;cases hb⟩;simp only[CV,Cx.C4,if_true];exact⟨.inr W,W,len,F,BN _,Wi,by rw[S];omega⟩
theorem AjO (g:Good S0 w0 x w H)(n:Nat){t:TypeId}{y z:Operand}(ho:o.op=.call ⟨.builtin .append,#[y,z],#[t,t]⟩){es Bq:Nat}(hT:Dk P t=J (Ae,es,Bq))(R7:C2 P Ae=J zs)(Ww:V.CF zs=J (zc.map V.c))(h0:0<es){k len:Nat}(hy:CV x w (.own k 0 len es) (a.eval y)){row:List C}(hZ:Ab x.S w (.sl [row]) (a.eval z))(Av:row.length=es){cs:List C}(hk:H k=J (.box Ae (cs.map V.c) U))(hm:len+1<=maxLen)(hb:(len+1)*Bq<=140737488355328)(hl:len*es<=cs.length)(hn : ¬x.dom n)(Ej:k<=n):
 ∃v' t',(∀k ob,t'=J (k,ob)->k<=n)/\((len*es+es<=cs.length/\v'=.own k 0 (len+1) es/\t'=J (k,.box Ae ((cs.take (len*es)++(row++cs.drop (len*es+es))).map V.c) U))\/∃j:Nat,v'=.own n 0 (len+1) es/\t'=J (n,.box Ae ((cs.take (len*es)++(row++(Aq j zc).flatten)).map V.c) U))/\BW P o a S0 w0 x w H v' t':=by
 obtain⟨hu,ie,zv,EB,hz,A1,A8,A6⟩:=JS hT;obtain⟨zk,Y9,IN,i2,J9,R8⟩:=Z2 (x:=x) (w:=w) R7;rw[EB]at J9;cases J9;rw[hz]at R8;cases R8;have B0:=MC _ _ _ Ww IN;obtain⟨hd,b1,b2,vs,cW,za,A2⟩:=g.ok k _ hk;simp only[CV]at hy;obtain⟨_,_,cap,hy,h3,h4,h5⟩:=hy;have dK:vs.size=cs.length:=by have:=A2.len;simpa using this
 obtain⟨B,c',us,VE,k1,k2,k3,k4,k5,k6⟩:=T0 hZ (es:=es) (by simpa using Av);obtain⟨b,A7,rfl,_⟩:=k6 (by simp);simp only[List.length_cons,BO,Cz,gE]at VE k1 k4;simp only[Hp,List.flatten_nil,E5]at k3;have B2:(len+1)*es=len*es+es:=by rw[Gz,gE]
 by_cases A0:len+1<=cap;have B1:(len+1)*es<=cap*es:=Nat.mul_le_mul_right _ A0;have Dz:len*es+es<=cs.length:=by omega
 refine⟨_,_,λ_ _ h=>(by cases h;exact Ej),.inl ⟨Dz,F,F⟩,?_⟩;have M:=run_append_room (P:=P) w t o.type Ae ie hu EB (x.loc k).b len cap vs cW ⟨b,A7,E⟩ 1 c' us (by rw[k4,A1];omega) (k5 _ F) k3.r8 A0 (by rw[A1,k4];omega);rw[A1]at M;have e1:(vs.toList.take (len*es)).length=len*es:=by simp;omega
 obtain⟨g',he⟩:=g.ACa k Ae _ ((cs.take (len*es)++(row++cs.drop (len*es+es))).map V.c) hk vs (vs.toList.take (len*es)++us++vs.toList.drop (len*es+us.length)).toArray cW (by simp;omega) (by
  simp only[Fm,List.map_take,List.map_drop,GX];rw[k4];exact(A2.take _).append ((AO.OS k3).append (A2.drop _)))
 refine⟨_,_,x,.slice (J ⟨(x.loc k).b,0,E⟩) (len+1) cap,by simp[execOp,ho,resolve,invoke,builtin,hy,VE,M],.inl F,?_,g',he,λ_ h=>.inl h,λ_=>rfl⟩;simp only[CV];exact⟨hd,b1,cap,F,A0,h4,h5⟩;have DK:cap=len:=by omega
 subst DK;have A5 : ∀(j:Nat) (q:Value),(vs.toList.take (cap*es))[j]?=J q->w.cell? (Addr.add ⟨(x.loc k).b,0,E⟩ j)=J q:=by
  intro j q hq;rw[J0,Cz,cell_of_row w _ j vs Ae (0,0) cW,<-Array.getElem?_toList];rw[List.getElem?_take]at hq;split at hq;exact hq;cases hq
 have M:=run_append_grow (P:=P) w t o.type Ae ie zv hu EB hz ⟨(x.loc k).b,0,E⟩ cap cap (vs.toList.take (cap*es)) (by rw[Fa,A1];simp;omega) A5 ⟨b,A7,E⟩ 1 c' us (by rw[k4,A1];omega) (k5 _ F) (by omega) (by unfold maxLen at hm;omega) (growslice_fits (by omega) (by rw[A8];exact hb));have JL:=grownCap_ge w (cap+1) cap Ae;have A3:=grownCap_le_maxLen w (cap+1) cap Ae hm;generalize hG:grownCap w (cap+1) cap Ae=G at M JL A3;refine⟨_,_,λ_ _ h=>(by cases h;exact BN _),.inr ⟨G - (cap+1),F,F⟩,?_⟩;have mf:=Aa8 (z:=zv.cells) (by rw[A6];exact h0) (G - (cap+1));have LB:Ay w w.drew:=(Ay.refl w).drew;obtain⟨gd,ca⟩:=g.MF (x':=x) LB ⟨λ_ _ h=>h,λb j v _ hc=>LB.cell hc⟩ rfl rfl (λb j h=>.inl h);have A9:AO x w.drew ((cs.take (cap*es)++(row++(Aq (G - (cap+1)) zc).flatten)).map V.c) ((vs.toList.take (cap*es)).toArray++us.toArray++KN zv.cells (G - (cap+1))).toList:=by
  simp only[Pq,mf,Fm,List.map_take,GX];refine AO.mono ca _ _ ((A2.take _).append ((AO.OS k3).append ?_));have hr:=toCs_ok (toCs_mapC zc) B0;have h4:AO x w (zc.map V.c) zv.cells.toList:=AO.OS hr;have h5:=h4.px (G - (cap+1));rwa [show (Aq (G - (cap+1)) (zc.map V.c)).flatten=((Aq (G - (cap+1)) zc).flatten).map V.c by rw[AkH,uR]]at h5
 obtain⟨g',he⟩:=gd.Zc n hn Ae _ _ A9;refine⟨_,_,_,.slice (J ⟨w.heap.size,0,E⟩) (cap+1) G,by simp[execOp,ho,resolve,invoke,builtin,hy,VE,M],.inl F,?_,g',ca.trans he,λk h=>h.elim .inl λe=>.inr ⟨.box Ae ((cs.take (cap*es)++(row++(Aq (G - (cap+1)) zc).flatten)).map V.c) U,by rw[e]⟩,λOD=>by rw[ho]at OD;cases OD⟩;simp only[CV,Cx.C4,if_true];refine⟨.inr W,W,G,F,JL,A3,?_⟩;have h6:0+G*es=cap*es+(es+(G - (cap+1))*es):=by
  obtain⟨q,rfl⟩:∃q,G=cap+1+q:=⟨G - (cap+1),by omega⟩
  rw[show cap+1+q - (cap+1)=q by omega,Gz,Gz];omega
 rw[h6];simp only[AMM,uW,size_zeroCells,A6,k4,Fa,FW];omega
end
end Go.Proofs.YtglaipbdiofkfaaGreat
