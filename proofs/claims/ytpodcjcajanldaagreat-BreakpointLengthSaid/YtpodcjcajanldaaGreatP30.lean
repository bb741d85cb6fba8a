/- Part of the proof of breakpointLength.proved. Conditions: none. (Joined and shortened by a program.) -/
import Derived.Laws.Runes
import Derived.Lib.IndexLaws
import Derived.Test.YtpodcjcajanldaaGreatP12
import Derived.Test.YtpodcjcajanldaaGreatP22
import Derived.Test.YtpodcjcajanldaaGreatP29
set_option linter.unusedVariables false
set_option linter.unusedSimpArgs false
set_option maxRecDepth 100000
set_option maxHeartbeats 16000000
open Go.Proofs.Tryz renaming prog→AD,results139→NW,results86→ABo,results89→ABp,func327→pB,ntmps327→pQ,results327→YP
open List renaming replicate→As,set_cons_zero→BC,set_cons_succ→Az,getElem?_eq_getElem→BP,getElem?_map→Co,replicate_succ→Ao,getElem?_set_ne→Di,append_nil→D8,drop_zero→BO,map_cons→Al,map_nil→A8,getD_eq_getElem?_getD→G5,drop_succ_cons→Be,getElem?_eq_some_iff→Bv
open Nat renaming le_refl→BW,le_of_lt→NS
open Bool renaming not_false→gU,true_and→B5,false_and→C2,eq_iff_iff→Ka
open Go.Lib renaming indexByte→De
open Go.Utf8 renaming encode→bJ,decode→bI
open ByteArray renaming mk→oB
open Go.Instr renaming next→VZ
open Go.IntKind renaming i32→oL
open Go.Fence renaming wide→EF
open Option.some renaming injEq→BE
open Go.Op renaming operands→CN
open Go.Call renaming operands→D7
open Array renaming getElem?_eq_some_iff→Dy
open Go.Region renaming wanted→DV
open Classical renaming byContradiction→Kb
namespace Go.Proofs.YtpodcjcajanldaaGreat
open Go.RowKit
def Ga (d:List En)(l:List Nd):List Int:=l.map (LO d)
theorem U4 (d:List En)(l:List Nd):(Ga d l).length=l.length:=by simp[Ga]
theorem AQv (d:List En)(l:List Nd)(hd:d.length<=1000000)(hl:l.length<=1000000)(Au:Nd.GB l):AC AD 139 [.c (Dj d),.c (.sl (Nd.rows l))] (.c (Ab (LB (Ga d l)))):=by
 obtain⟨rs,Ak⟩:=AE (Nd.rows l);have Am:rs.length=l.length:=by rw[<-Ak];exact G0 l
 obtain⟨own,hown⟩:=AE (Ga d l);obtain⟨n,hn⟩:=AE l.length;have hon:own.length=n:=by rw[<-hown,U4,hn]
 have lA:=AQu d hd;rw[Ak,hown];rw[hn]at Am hl;refine en Tryz.func139 Tryz.ntmps139 ?_;refine wy (cj @Am<|NW) trivial ⟨?_⟩;rw[show As n (V.c (C.int .i64 0))=Ck (As n 0)by simp[Ck]];refine lp (ι:={ k:Nat // k<=n }) (fun k=>[(14,.c (.int .i64 (k.1:Int)))]) (fun k=>[.box 3 (Ck (Fl (own.take k.1)++As (n - k.1) 0)) false]) (fun k=>n - k.1) ⟨0,by simp⟩ ?_ ?_;all_goals simp only[Br,List.foldl_cons,List.foldl_nil,BC,Az]
 . refine Le.BV (by simp[A5,Fl])
 . rintro ⟨k,hk⟩;simp only;by_cases hlt:k<n
   . obtain⟨b,hb⟩:∃b,l[k]?=some b:=⟨_,BP (by omega)⟩
     have BN:rs[k]?=some b.row:=by rw[<-Ak];exact N1 hb
     have CW:k<rs.length:=by omega
     have CH:=gx BN;have FP:=lA b (N0 Au b (List.mem_of_getElem? hb));unfold At at FP;obtain⟨c,hc⟩:=AE (LO d b);rw[hc]at FP;have hcc:own[k]?=some c:=by rw[<-hown];unfold Ga;rw[Co,hb,<-hc];rfl
     have FQ:=ABB hcc;have Dg:(Fl (own.take k)).length=k:=by rw[cZ,List.length_take];omega
     obtain⟨r,hr⟩:=AE (n - (k+1));have dt:n - k=r+1:=by omega
     obtain⟨D,hD⟩:=AE (Fl (own.take k));rw[hD]at FQ Dg ⊢;rw[dt,Ao];obtain⟨Z,hZ⟩:=AE (Ck (D++0::As r 0));have KA:Z.length=n:=by rw[<-hZ,Xa];simp;omega
     obtain⟨X,hX⟩:=AE (Ck (D++c::As r 0));have Ii:X.length=n:=by rw[<-hX,Xa];simp;omega
     have z0:Z.set k (.c (.int .i64 c))=X:=by rw[<-hZ,mh Dg c,hX]
     have g0:X[k]?=some (.c (.int .i64 c)):=by rw[<-hX];exact AEl Dg
     have L7:=gx g0;have s0:X.set k (.c (.int .i64 0))=Ck ((D++[0])++As r 0):=by rw[<-hX,mh Dg 0,OQ]
     have MH:k+1<=n:=by omega
     have Sv:=hX.symm;have Kq : ∀j,D.length=j+1->Z[j]?=some (.c (.int .i64 (HY D))):=fun j h=>by rw[<-hZ,ew h];exact fR h
     rw[hZ];clear hX hZ lA;by_cases Dk:c=2
     . subst Dk;cases k with
       | zero =>
         rw[nZ rfl (.inl Dg)]at FQ;rw[<-FQ,<-hr]at s0;refine wy (cj @Am<|cj @hlt<|cj @CW<|cj @BN<|cj @CH<|cj @KA<|cj @Ii<|cj @z0<|cj @g0<|cj @L7<|cj @s0<|cj @MH<|NW) (cj FP<|trivial) ⟨?_⟩;exact⟨⟨0+1,by omega⟩,by simp only;omega,wd 1⟩
       | succ j =>
         have g1:X[j]?=some (.c (.int .i64 (HY D))):=by rw[<-z0,Di (by omega)];exact Kq j Dg
         have Ho:=gx g1;have hop:=AQr (HY D);have hj:j<n:=by omega
         have hji:(j:Int)+1<(n:Int):=by omega
         have QC : ¬(j:Int)+1=0:=by omega
         have hj2:(0:Int)<=(j:Int)+1:=by omega
         cases ho:TY (HY D)with
         | true =>
           rw[nZ rfl (.inr ho)]at FQ;rw[<-FQ,<-hr]at s0;rw[ho]at hop;refine wy (cj @Am<|cj @hlt<|cj @CW<|cj @BN<|cj @CH<|cj @KA<|cj @Ii<|cj @z0<|cj @g0<|cj @L7<|cj @s0<|cj @MH<|cj @g1<|cj @Ho<|cj @hj<|cj @hji<|cj @QC<|cj @hj2<|NW) (cj FP<|cj hop<|trivial) ⟨?_⟩;exact⟨⟨j+1+1,by omega⟩,by simp only;omega,wd 1⟩
         | false =>
           rw[VM (fun e=>by rcases e.2 with e|e;omega;rw[ho]at e;cases e) (fun e=>by rw[rJ]at e;cases e.1)]at FQ;rw[ho]at hop;have MA:X=Ck (Fl (own.take (j+1+1))++As (n - (j+1+1)) 0):=by rw[Sv,FQ,OQ,hr]
           refine wy (cj @Am<|cj @hlt<|cj @CW<|cj @BN<|cj @CH<|cj @KA<|cj @Ii<|cj @z0<|cj @g0<|cj @L7<|cj @MH<|cj @g1<|cj @Ho<|cj @hj<|cj @hji<|cj @QC<|cj @hj2<|NW) (cj FP<|cj hop<|trivial) ⟨?_⟩;rw[MA];exact⟨⟨j+1+1,by omega⟩,by simp only;omega,wd 1⟩
     . cases Om:RB c with
       | false =>
         rw[VM (fun e=>Dk e.1) (fun e=>by rw[Om]at e;cases e.1)]at FQ;simp[RB]at Om;have MA:X=Ck (Fl (own.take (k+1))++As (n - (k+1)) 0):=by rw[Sv,FQ,OQ,hr]
         refine wy (cj @Am<|cj @hlt<|cj @CW<|cj @BN<|cj @CH<|cj @KA<|cj @Ii<|cj @z0<|cj @g0<|cj @L7<|cj @MH<|cj @Dk<|cj (Om.1)<|cj (Om.2.1)<|cj (Om.2.2)<|NW) (cj FP<|trivial) ⟨?_⟩;rw[MA];exact⟨⟨k+1,by omega⟩,by simp only;omega,wd 1⟩
       | true =>
         have hc3:c=3\/c=5\/c=6:=by simpa [RB]using Om
         cases k with
         | zero =>
           rw[VM (fun e=>Dk e.1) (fun e=>by have:=e.2.1;omega)]at FQ;have MA:X=Ck (Fl (own.take (0+1))++As (n - (0+1)) 0):=by rw[Sv,FQ,OQ,hr]
           have ff:=(cj @Am<|cj @hlt<|cj @CW<|cj @BN<|cj @CH<|cj @KA<|cj @Ii<|cj @z0<|cj @g0<|cj @L7<|cj @MH<|cj @Dk<|NW)
           repeat any_goals (first|refine CC ?_|exact Bq ff|refine Bt ff ?_|refine A4 ff (FP) ?_|refine Bi ff ?_|((first|refine By ff ?_ ?_|refine B4 ff ?_ ?_|refine Bz ff ?_ ?_|refine B3 ff ?_ ?_)<;>intro h<;>try (exfalso;first|omega|contradiction)))
           all_goals (rw[MA];exact⟨⟨0+1,by omega⟩,by simp only;omega,wd 1⟩)
         | succ j =>
           have g1:X[j]?=some (.c (.int .i64 (HY D))):=by rw[<-z0,Di (by omega)];exact Kq j Dg
           have Ho:=gx g1;have hj:j<n:=by omega
           have hji:(j:Int)+1<(n:Int):=by omega
           have QC:(0:Int)<(j:Int)+1:=by omega
           have hj2:(0:Int)<=(j:Int)+1:=by omega
           have tU:j+1<=n:=by omega
           by_cases hla:HY D=2
           . rw[AGw Dk Om (by omega) hla,Dg,show j+1 - 1=j by omega]at FQ;have s1:X.set j (.c (.int .i64 0))=Ck (Fl (own.take (j+1+1))++As (n - (j+1+1)) 0):=by rw[Sv,mi Dg 0,FQ,OQ,hr]
             have ff:=(cj @Am<|cj @hlt<|cj @CW<|cj @BN<|cj @CH<|cj @KA<|cj @Ii<|cj @z0<|cj @g0<|cj @L7<|cj @MH<|cj @Dk<|cj @g1<|cj @Ho<|cj @hj<|cj @hji<|cj @QC<|cj @hj2<|cj @tU<|cj @hla<|cj @s1<|NW)
             repeat any_goals (first|refine CC ?_|exact Bq ff|refine Bt ff ?_|refine A4 ff (FP) ?_|refine Bi ff ?_|((first|refine By ff ?_ ?_|refine B4 ff ?_ ?_|refine Bz ff ?_ ?_|refine B3 ff ?_ ?_)<;>intro h<;>try (exfalso;first|omega|contradiction)))
             all_goals exact⟨⟨j+1+1,by omega⟩,by simp only;omega,wd 1⟩
           . rw[VM (fun e=>Dk e.1) (fun e=>hla e.2.2)]at FQ;have MA:X=Ck (Fl (own.take (j+1+1))++As (n - (j+1+1)) 0):=by rw[Sv,FQ,OQ,hr]
             have ff:=(cj @Am<|cj @hlt<|cj @CW<|cj @BN<|cj @CH<|cj @KA<|cj @Ii<|cj @z0<|cj @g0<|cj @L7<|cj @MH<|cj @Dk<|cj @g1<|cj @Ho<|cj @hj<|cj @hji<|cj @QC<|cj @hj2<|cj @hla<|NW)
             repeat any_goals (first|refine CC ?_|exact Bq ff|refine Bt ff ?_|refine A4 ff (FP) ?_|refine Bi ff ?_|((first|refine By ff ?_ ?_|refine B4 ff ?_ ?_|refine Bz ff ?_ ?_|refine B3 ff ?_ ?_)<;>intro h<;>try (exfalso;first|omega|contradiction)))
             all_goals (rw[MA];exact⟨⟨j+1+1,by omega⟩,by simp only;omega,wd 1⟩)
   . have e1:own.take k=own:=List.take_of_length_le (by omega);have ek:k=n:=by omega
     have e2:n - k=0:=by omega
     rw[e1,e2];have Dg:(Fl own).length=n:=by rw[cZ,hon]
     unfold LB;obtain⟨D,hD⟩:=AE (Fl own);rw[hD]at Dg ⊢;rw[show As 0 (0:Int)=[]from rfl,D8];subst ek;cases k with
     | zero =>
       have dE:D=[]:=List.eq_nil_of_length_eq_zero Dg;subst dE;have hch:=XY [] [];refine wu (CJ.mk 19) (cj @Am<|cj @hlt<|NW) trivial ⟨?_⟩;refine AW.AR 0 rfl (Xb _) (by simp only[V.BG,V.AR,BO,if_true];exact rfl) (by simp only[BC,Al,A8,O.AR,XZ];exact rfl) ?_;have hz:Ab (Nh [])=.sl []:=rfl;rw[hz];exact wz (cj @Gr.eq_1<|cj @Gr.eq_2<|NW) trivial
     | succ p =>
       obtain⟨X,hX⟩:=AE (Ck D);have Ii:X.length=p+1:=by rw[<-hX,Xa,Dg]
       have g1:X[p]?=some (.c (.int .i64 (HY D))):=by rw[<-hX,ew Dg];have h:=fR (r:=[]) Dg;rwa [D8]at h
       have Ho:=gx g1;have dx:p<p+1:=by omega
       have hpl:(p:Int)<(p:Int)+1:=by omega
       by_cases hla:HY D=2
       . have hF:Nh D=D.set p 0:=by unfold Nh;rw[if_pos ⟨by omega,hla⟩,Dg];rfl
         have s1:X.set p (.c (.int .i64 0))=Ck (D.set p 0):=by have h:=mi (r:=[]) Dg 0;rw[D8,D8]at h;rw[<-hX,h]
         have hch:=XY (D.set p 0) [];rw[D8,List.length_set,Dg]at hch;rw[hF,hX];refine wu (CJ.mk 19) (cj @Am<|cj @hlt<|cj @Ii<|cj @g1<|cj @Ho<|cj @dx<|cj @hpl<|cj @hla<|cj @s1<|NW) trivial ⟨?_⟩;refine AW.AR 0 rfl (Xb _) (by simp only[V.BG,V.AR,BO,hch,if_true];exact rfl) (by simp only[BC,Al,A8,O.AR,XZ];exact rfl) ?_;unfold Ab;exact wz NW trivial
       . have hF:Nh D=D:=by unfold Nh;rw[if_neg (fun e=>hla e.2)]
         have hch:=XY D [];rw[D8,Dg]at hch;rw[hF,hX];refine wu (CJ.mk 19) (cj @Am<|cj @hlt<|cj @Ii<|cj @g1<|cj @Ho<|cj @dx<|cj @hpl<|cj @hla<|NW) trivial ⟨?_⟩;rw[<-hX];refine AW.AR 0 rfl (Xb _) (by simp only[V.BG,V.AR,BO,hch,if_true];exact rfl) (by simp only[BC,Al,A8,O.AR,XZ];exact rfl) ?_;unfold Ab;exact wz NW trivial
def rL (d:List En)(l:List Nd):List Int×Int:=if Mr d=false\/(EV l).Av=false then([],1)else(LB (Ga d l),0)
def uq (p:List Int×Int):V:=.Bk [.c (Ab p.1),Af p.2]
theorem ADi {l:List Nd}(h:(EV l).Bc):Nd.GB l:=h.2.2
theorem uk (l:List Nd):(EV l).cnt=1+Nd.A9 l:=rfl
theorem pClasses_a (d:List En)(l:List Nd)(hd:d.length<=1000000)(hs : ∀e∈d,e.text.size<=maxLen)(Au:(EV l).Bc)(hc:(EV l).cnt<=900000):AC AD 86 [.c (Dj d),.c (.sl (Nd.rows l))] (uq (rL d l)):=by
 have h1:=AFH d hd hs;have h2:=AR1 l Au hc;have Fq:=Ny l;have lB:=uk l;have h3:=AQv d l hd (by omega) (ADi Au);obtain⟨R,hR⟩:=AE (LB (Ga d l));unfold rL uq;rw[hR]at h3 ⊢;have hz:Ab []=.sl []:=rfl;cases e1:Mr d with
 | false =>
   rw[e1]at h1;rw[if_pos (.inl rfl)];unfold Af;rw[hz];refine en Tryz.func86 Tryz.ntmps86 ?_;exact wz ABo (cj h1<|trivial)
 | true =>
   rw[e1]at h1;cases e2:(EV l).Av with
   | false =>
     rw[e2]at h2;rw[if_pos (.inr rfl)];unfold Af;rw[hz];refine en Tryz.func86 Tryz.ntmps86 ?_;exact wz ABo (cj h1<|cj h2<|trivial)
   | true =>
     rw[e2]at h2;rw[if_neg (by simp)];unfold Af;refine en Tryz.func86 Tryz.ntmps86 ?_;exact wz ABo (cj h1<|cj h2<|cj h3<|trivial)
def TL (n:Int):List C:=[.int .i64 n]
theorem AOO (l:List Int):Ab l=.sl (l.map TL):=rfl
theorem AN8 (l:List Int):((l.map TL).all fun r=>r.length==1)=true:=by
 rw[List.all_eq_true];intro r hr;obtain⟨n,_,rfl⟩:=List.mem_map.1 hr;rfl
def permB (cls:List Int)(k:Nat):Bool:=!decide (k=0) && (!decide (cls.getD (k - 1) 0=3) && (decide (cls.getD k 0=3) || decide (cls.getD k 0=2)))
def plcs (cls:List Int):Nat->List Int
 | 0=>[0]
 | k+1=>plcs cls k++(if permB cls k=true then [(k:Int)]else [])
def plcR (d:List En)(l:List Nd):List Int×Int:=if (rL d l).2≠0 then([],(rL d l).2)else if l.length=0 then([],8)else(plcs (rL d l).1 l.length,0)
theorem plcs_len (cls:List Int):∀k,(plcs cls k).length<=k+1
 | 0=>BW _
 | k+1=>by
   have:=plcs_len cls k;simp only[plcs,List.length_append];split<;>simp<;>omega
theorem permB_0 (cls:List Int):permB cls 0=false:=rfl
theorem clsR_len {d:List En}{l:List Nd}(h:(rL d l).2=0):(rL d l).1.length=l.length:=by
 unfold rL at h ⊢;split at h
 . cases h
 . rename_i hq;rw[if_neg hq];rw[nH,U4]
theorem ppermitted_a (cls:List Int)(k:Nat)(hk:k<cls.length)(hl:cls.length<=1000000):AC AD 89 [.c (Ab cls),.c (.int .i64 (k:Int))] (.c (.bool (permB cls k))):=by
 obtain⟨rs,Ak⟩:=AE (cls.map TL);have Am:rs.length=cls.length:=by rw[<-Ak,List.length_map]
 rw[AOO,Ak];obtain⟨c,hc⟩:∃c,cls[k]?=some c:=⟨_,BP hk⟩
 have BN:rs[k]?=some [.int .i64 c]:=by rw[<-Ak,Co,hc];rfl
 have CW:k<rs.length:=by omega
 have CH:=gx BN;have hgd:cls.getD k 0=c:=by rw[G5,hc];rfl
 unfold permB;rw[hgd];cases k with
 | zero =>
   refine en Tryz.func89 Tryz.ntmps89 ?_;exact wz (cj @Am<|cj @BN<|cj @CH<|cj @CW<|ABp) trivial
 | succ j =>
   obtain⟨p,hp⟩:∃c,cls[j]?=some c:=⟨_,BP (by omega)⟩
   have QI:rs[j]?=some [.int .i64 p]:=by rw[<-Ak,Co,hp];rfl
   have QG:j<rs.length:=by omega
   have ACb:=gx QI;have hgp:cls.getD (j+1 - 1) 0=p:=by rw[Nat.add_sub_cancel,G5,hp];rfl
   rw[hgp];have hj0 : ¬j+1=0:=by omega
   rw[decide_eq_false hj0,gU,B5];have QC : ¬(j:Int)+1=0:=by omega
   have hj2:(0:Int)<=(j:Int)+1:=by omega
   have hj3:(j:Int)+1<(cls.length:Int):=by omega
   have hj4:j<cls.length:=by omega
   by_cases h3:p=3
   . rw[decide_eq_true h3,Bool.not_true,C2];refine en Tryz.func89 Tryz.ntmps89 ?_;exact wz (cj @Am<|cj @BN<|cj @CH<|cj @CW<|cj @QI<|cj @ACb<|cj @QG<|cj @QC<|cj @hj2<|cj @hj3<|cj @hj4<|cj @hk<|cj @h3<|ABp) trivial
   . rw[decide_eq_false h3,gU,B5];refine en Tryz.func89 Tryz.ntmps89 ?_;exact wz (cj @Am<|cj @BN<|cj @CH<|cj @CW<|cj @QI<|cj @ACb<|cj @QG<|cj @QC<|cj @hj2<|cj @hj3<|cj @hj4<|cj @hk<|cj @h3<|ABp) trivial
theorem AHY (r:Int)(w:World):Calls AD 341 #[.int .i32 r] w fun e w'=>e=.returned (.bool (validRune r))/\w'=w:=by
 go_enter Tryz.func341,Tryz.ntmps341;go_wp2;all_goals go_ret
 all_goals refine⟨?_,rfl⟩
 all_goals simp[validRune]
 all_goals omega
theorem AOE (s:ByteArray)(r:Int)(w:World)(h0:128<=r)(h1:r<=1114111)(h2:r≠65533)(h3:validRune r=false):Calls AD 327 #[.string s,.int .i32 r] w fun e w'=>e=.returned (.int .i64 (-1))/\w'=w:=by
 go_enter pB,pQ;go_wp2_with (go_at_call 341;refine(AHY _ _).mono ?_;rintro e w' ⟨rfl,rfl⟩)
 go_ret;exact⟨rfl,rfl⟩
theorem AC0 : ∀(l:List UInt8) (c:UInt8),(∀x∈l,x.toNat<128)->128<=c.toNat->De l c= -1
 | [],c,_,_=>rfl
 | x::l,c,h,hc=>by
   have hx:x≠c:=fun e=>by have:=h x List.mem_cons_self;rw[e]at this;omega
   have ih:=AC0 l c (fun y hy=>h y (List.mem_cons_of_mem _ hy)) hc;simp[De,hx,ih]
theorem vO : ∀x∈Fc.data.toList,x.toNat<128:=by decide
theorem AQh (a e:Nat)(c:UInt8)(h:128<=c.toNat):De (Fc.extract a e).data.toList c= -1:=AC0 _ _ (fun x hx=>vO x (mem_extract hx)) h
theorem AHO (b:UInt8):((b.toNat:Int)).toNat.toUInt8=b:=by simp
theorem AKl (r:Int)(h0:128<=r)(h3:validRune r=true):(∃a b:UInt8,128<=b.toNat/\bJ r=⟨#[a,b]⟩)\/(∃a b c:UInt8,128<=c.toNat/\bJ r=⟨#[a,b,c]⟩)\/(∃a b c d:UInt8,128<=d.toNat/\bJ r=⟨#[a,b,c,d]⟩):=by
 have hc : ¬r.toNat<128:=by omega
 rw[<-validRune_eq]at h3;unfold bJ;simp only[h3,if_true,hc,if_false];split
 . exact .inl ⟨_,_,by simp;omega,rfl⟩
 . split
   . exact .inr (.inl ⟨_,_,_,by simp;omega,rfl⟩)
   . exact .inr (.inr ⟨_,_,_,_,by simp;omega,rfl⟩)
theorem AVY (r:Int):AC AD 341 [.c (.int .i32 r)] (.c (.bool (validRune r))):=by
 intro S w us hS C9;simp only[AL,CV,Ap]at C9;obtain⟨u,ur,rfl,⟨rfl,_⟩,rfl⟩:=C9;refine(AHY r w).mono ?_;rintro e w' ⟨rfl,rfl⟩;exact⟨_,S,rfl,AS.refl _,Ar.refl _ _,fun b j h=>.inl h,by simp only[CV,Ap]⟩
theorem vP (a e:Nat)(c:UInt8)(h:128<=c.toNat):AC AD 218 [.c (.str (Fc.extract a e)),.c (.int .u8 c.toNat)] (.c (.int .i64 (-1))):=by
 intro S w us hS C9;simp only[AL,CV,Ap]at C9;obtain⟨u,ur,rfl,⟨rfl,_⟩,u',ur',rfl,⟨rfl,_⟩,rfl⟩:=C9;refine(ACz _ _ w).mono ?_;rintro e w' ⟨rfl,rfl⟩;rw[AHO,AQh _ _ _ h];exact⟨_,S,rfl,AS.refl _,Ar.refl _ _,fun b j h=>.inl h,by simp only[CV,Ap];exact⟨trivial,by decide +kernel⟩⟩
theorem XX:Fc.size=11:=rfl
theorem AEY:Fc.data.toList[1]?=some 41:=rfl
theorem AEZ:Fc.data.toList[2]?=some 123:=rfl
theorem AEa:Fc.data.toList[3]?=some 125:=rfl
theorem AOG (r:Int)(h0:128<=r)(h1:r<=1114111)(h2:r≠65533)(h3:validRune r=true):AC AD 327 [.c (.str Fc),.c (.int .i32 r)] (.c (.int .i64 (-1))):=by
 have hcv : ∀W:World,(convert 21 9 (.int .i32 r)).run AD W=.ok (.string (bJ r)) W:=fun W=>run_convert_int_string W _ _ _ _ (by kernel_rfl) (by kernel_rfl)
 have hf:=AKl r h0 h3;obtain⟨R,hR⟩:=AE (bJ r);rw[hR]at hf hcv;have ZH:=AVY r;rw[h3]at ZH;have hR4:R.size<=maxLen:=by
  unfold maxLen;rcases hf with ⟨a,b,hb,rfl⟩|⟨a,b,c,hb,rfl⟩|⟨a,b,c,d,hb,rfl⟩
  . show 2<=_;omega
  . show 3<=_;omega
  . show 4<=_;omega
 have n1 : ¬r<128:=by omega
 have n0:0<=r:=by omega
 refine en pB pQ ?_;refine wu (CJ.mk 1) (cj @n1<|cj @n0<|cj @h2<|YP) (cj ZH<|trivial) ⟨?_⟩;refine AW.DM ?_;refine SW.take 1 ?_;with_reducible refine Bw (by simp[Ao];first|exact rfl|exact⟨rfl,rfl⟩) ?_
 refine B9 ?_;simp only[Be,BO];refine SW.op (.c (.str R)) (by simp[gate]) rfl ?_ ?_
 . rintro S0 w0 x a w ⟨g,ht⟩;have hop:=EH ht (.tmp 17);simp only[ev,CV,Ap,List.getD_cons_succ,List.getD_cons_zero]at hop;exact Bm.pure g (u:=.string R) (by simp[execOp,hop.1,hcv]) (by simp only[CV,Ap];exact⟨trivial,hR4⟩)
 simp only[St.step,St.put,CG,Az,BC];refine SW.take 1 ?_;with_reducible refine Bw (by simp[Ao];first|exact rfl|exact⟨rfl,rfl⟩) ?_
 refine B9 ?_;simp only[Be,BO];refine SW.nil ?_;clear hR hcv hR4;rcases hf with ⟨a,b,hb,rfl⟩|⟨a,b,c,hb,rfl⟩|⟨a,b,c,d,hb,rfl⟩
 . have hi:=vP 2 11 b hb;have q : ¬(41:Int)=(b.toNat:Int):=by omega
   have e0:(oB #[a,b]).size=2:=rfl;refine wy (cj @n1<|cj @XX<|cj @AEY<|cj @e0<|YP) (cj hi<|trivial) ⟨?_⟩;refine LA.loop (LA.round ?_);exact wz (cj @n1<|cj @XX<|cj @AEY<|cj @e0<|cj @q<|YP) (cj hi<|trivial)
 . have hi:=vP 3 11 c hb;have q : ¬(123:Int)=(c.toNat:Int):=by omega
   have e0:(oB #[a,b,c]).size=3:=rfl;refine wy (cj @n1<|cj @XX<|cj @AEZ<|cj @e0<|YP) (cj hi<|trivial) ⟨?_⟩;refine LA.loop (LA.round ?_);exact wz (cj @n1<|cj @XX<|cj @AEZ<|cj @e0<|cj @q<|YP) (cj hi<|trivial)
 . have hi:=vP 4 11 d hb;have q : ¬(125:Int)=(d.toNat:Int):=by omega
   have e0:(oB #[a,b,c,d]).size=4:=rfl;refine wy (cj @n1<|cj @XX<|cj @AEa<|cj @e0<|YP) (cj hi<|trivial) ⟨?_⟩;refine LA.loop (LA.round ?_);exact wz (cj @n1<|cj @XX<|cj @AEa<|cj @e0<|cj @q<|YP) (cj hi<|trivial)
theorem AOH (w:World):Calls AD 327 #[.string Fc,.int .i32 65533] w fun e w'=>e=.returned (.int .i64 (-1))/\AS w w':=by
 go_enter pB,pQ;go_wp2;go_loopw [5,6] (fun _ _ w'=>∃(pos:Nat),w'=w.iter Fc pos) (fun _ _ w'=>Fc.size - w'.iterPos w.heap.size)
 case atStart=>exact⟨0,rfl⟩
 case round =>
  obtain⟨pos,rfl⟩:=hrel;by_cases hp:pos<Fc.size
  . have ha:(Fc[pos]'hp).toNat<128:=vO _ (Array.getElem_mem_toList (xs:=Fc.data) hp);obtain⟨b,hb⟩:=AE ((Fc[pos]'hp));have D5 : ∀ty,(VZ (.pointer (some ⟨w.heap.size,0,none⟩)) true ty).run AD (w.iter Fc pos)=.ok (.tuple #[.bool true,.int .i64 pos,.int .i32 (b.toNat:Int)]) (w.iter Fc (pos+1)):=fun ty=>by rw[run_next_ascii w Fc pos ty hp ha,hb]
    rw[hb]at ha;go_wp2;all_goals first
     | (exfalso;omega)
     | (refine⟨⟨pos+1,rfl⟩,?_⟩
        simp;omega)
     | trace_state
  . have D5 : ∀ty,(VZ (.pointer (some ⟨w.heap.size,0,none⟩)) true ty).run AD (w.iter Fc pos)=_:=fun ty=>run_next_end w Fc pos ty hp
    go_wp2;go_ret;exact⟨rfl,ee _ _ _⟩
theorem AOI (r:Int)(w:World)(h0:128<=r)(h1:r<=1114111):Calls AD 327 #[.string Fc,.int .i32 r] w fun e w'=>e=.returned (.int .i64 (-1))/\AS w w':=by
 by_cases h2:r=65533
 . subst h2;exact AOH w
 . cases h3:validRune r with
   | false=>exact(AOE Fc r w h0 h1 h2 h3).mono fun e w' h=>⟨h.1,by rw[h.2];exact AS.refl _⟩
   | true =>
     have wf:(Lit.int .i32 r).wf=true:=by
      have e1:oL.min= -2147483648:=by decide +kernel
      have e2:oL.max=2147483647:=by decide +kernel
      simp[Lit.wf,e1,e2];omega
     refine(AOG r h0 h1 h2 h3 (fun _ _=>False) w [.string Fc,.int .i32 r] (fun _ _ h=>h.elim) ?_).mono ?_
     . simp only[AL,CV,Ap];exact⟨_,_,rfl,⟨rfl,by rw[XX];decide⟩,_,_,rfl,⟨rfl,wf⟩,rfl⟩
     . rintro e w' ⟨u,S',rfl,hk,_,_,hv⟩;simp only[CV,Ap]at hv;exact⟨by rw[hv.1],hk⟩
theorem AKI (r:Int)(w:World)(h0:128<=r)(h1:r<=1114111):Calls AD 300 #[.string Fc,.int .i32 r] w fun e w'=>e=.returned (.bool false)/\AS w w':=by
 go_enter Tryz.func300,Tryz.ntmps300;go_wp2_with (go_at_call 327;refine(AOI _ _ h0 h1).mono ?_;rintro e w' ⟨rfl,hk⟩)
 go_ret;exact⟨rfl,hk⟩
def PD (b:UInt8):Bool:=Fc.data.toList.contains b
def MW (s:ByteArray):Bool:=s.data.toList.all PD && decide (s.size=2)
def Qf (s:ByteArray)(pos:Nat):Bool:=(s.data.toList.drop pos).all PD
theorem ASY {s:ByteArray}{pos:Nat}(h : ¬pos<s.size):Qf s pos=true:=by
 unfold Qf;rw[List.drop_of_length_le (by simpa using h)];rfl
theorem ASZ {s:ByteArray}{pos:Nat}(h:pos<s.size):Qf s pos=(PD (s[pos]'h) && Qf s (pos+1)):=by
 unfold Qf;have hl:pos<s.data.toList.length:=by simpa using h
 rw[List.drop_eq_getElem_cons hl,List.all_cons];rfl
theorem AEX {s:ByteArray}(h:Qf s 0=false):MW s=false:=by
 unfold Qf at h;rw[BO]at h;unfold MW;rw[h,C2]
theorem AQd {s:ByteArray}(h:Qf s 0=true):MW s=decide (s.size=2):=by
 unfold Qf at h;rw[BO]at h;unfold MW;rw[h,B5]
theorem ACw : ∀(l:List UInt8) (c:UInt8),0<=De l c↔c∈l
 | [],c=>by simp[De]
 | x::l,c=>by
   have ih:=ACw l c;have hg:=Lib.indexByte_ge l c;by_cases h:x=c
   . subst h;simp[De]
   . have h2 : ¬c=x:=fun e=>h e.symm
     rw[List.mem_cons,or_iff_right h2,<-ih];simp only[De,beq_iff_eq,h,if_false];split<;>omega
theorem AOC (l:List UInt8)(c:UInt8):decide (0<=De l c)=l.contains c:=by
 rw[Ka,decide_eq_true_iff,ACw,List.contains_iff_mem]
theorem AQe {b:UInt8}(h:PD b=true):b.toNat<128:=vO b (by simpa [PD]using h)
theorem decode_le (s:ByteArray)(i:Nat):(bI s i).1<=1114111:=by
 unfold bI;dsimp only;repeat' split
 all_goals first
  | (simp only[Utf8.runeError];omega)
  | (rename_i h;simp[Utf8.valid]at h ⊢;omega)
  | ((try simp only[]);omega)
theorem AQg (s:ByteArray)(w:World):Calls AD 240 #[.string s] w fun e w'=>e=.returned (.bool (MW s))/\AS w w':=by
 go_enter Tryz.func240,Tryz.ntmps240;go_wp2;go_loopw [2,4] (fun r c w'=>∃(pos:Nat),w'=w.iter s pos/\r=.bool false/\Qf s pos=Qf s 0) (fun _ _ w'=>s.size - w'.iterPos w.heap.size)
 case atStart=>exact⟨0,rfl,rfl,rfl⟩
 case round =>
  obtain⟨pos,rfl,rfl,hc⟩:=hrel;by_cases hp:pos<s.size
  . obtain⟨b,hb⟩:=AE ((s[pos]'hp));have hst:=ASZ hp;rw[hb]at hst;by_cases ha:b.toNat<128
    . have D5 : ∀ty,(VZ (.pointer (some ⟨w.heap.size,0,none⟩)) true ty).run AD (w.iter s pos)=.ok (.tuple #[.bool true,.int .i64 pos,.int .i32 (b.toNat:Int)]) (w.iter s (pos+1)):=fun ty=>by rw[run_next_ascii w s pos ty hp (by rw[hb];exact ha),hb]
      have lB:=fun W=>AKH Fc b.toNat W (by omega) (by omega)
      rw[AHO,AOC]at lB;cases hpb:PD b with
      | true =>
        have tE : ∀W:World,Calls AD 300 #[.string Fc,.int .i32 b.toNat] W fun e w'=>e=.returned (.bool true)/\w'=W:=fun W=>(lB W).mono fun e w' h=>⟨by rw[h.1];exact congrArg _ (congrArg _ hpb),h.2⟩
        go_wp2_with (go_at_call 300;refine(tE _).mono ?_;rintro e w' ⟨rfl,rfl⟩)
        rw[hpb,B5]at hst;exact⟨⟨pos+1,rfl,rfl,hst.symm.trans hc⟩,by simp;omega⟩
      | false =>
        have tE : ∀W:World,Calls AD 300 #[.string Fc,.int .i32 b.toNat] W fun e w'=>e=.returned (.bool false)/\w'=W:=fun W=>(lB W).mono fun e w' h=>⟨by rw[h.1];exact congrArg _ (congrArg _ hpb),h.2⟩
        go_wp2_with (go_at_call 300;refine(tE _).mono ?_;rintro e w' ⟨rfl,rfl⟩)
        go_ret;rw[hpb,C2]at hst;rw[AEX (hc.symm.trans hst)];exact⟨rfl,ee _ _ _⟩
    . have hh:=decode_high s pos hp (by rw[hb];omega);have hl:=decode_le s pos;obtain⟨D,hD⟩:=AE ((bI s pos).1);rw[hD]at hh hl;have D5 : ∀ty,(VZ (.pointer (some ⟨w.heap.size,0,none⟩)) true ty).run AD (w.iter s pos)=.ok (.tuple #[.bool true,.int .i64 pos,.int .i32 (D:Int)]) (w.iter s (pos+(bI s pos).2)):=fun ty=>by rw[run_next_any w s pos ty hp,hD]
      go_wp2_with (go_at_call 300;refine(AKI _ _ (by omega) (by omega)).mono ?_;rintro e w' ⟨rfl,hk⟩)
      go_ret;have hpb:PD b=false:=by
       cases e:PD b with
       | false=>rfl
       | true=>exact absurd (AQe e) ha
      rw[hpb,C2]at hst;rw[AEX (hc.symm.trans hst)];exact⟨rfl,(ee _ _ _).trans hk⟩
  . have D5 : ∀ty,(VZ (.pointer (some ⟨w.heap.size,0,none⟩)) true ty).run AD (w.iter s pos)=_:=fun ty=>run_next_end w s pos ty hp
    have ht:=AQd (hc.symm.trans (ASY hp));go_wp2;go_ret;rw[ht];refine⟨?_,ee _ _ _⟩;simp;rw[Ka];simp;omega
theorem AQf (s:ByteArray):AC AD 240 [.c (.str s)] (.c (.bool (MW s))):=by
 intro S w us hS C9;simp only[AL,CV,Ap]at C9;obtain⟨u,ur,rfl,⟨rfl,_⟩,rfl⟩:=C9;refine(AQg s w).mono ?_;rintro e w' ⟨rfl,hk⟩;exact⟨_,S,rfl,hk,⟨fun _ _ h=>h,fun b j v _ hc=>hk.cell hc⟩,fun b j h=>.inl h,by simp only[CV,Ap]⟩
def Cx.ZQ (S:Ba)(m:Nat):Cx:={ dom:=fun k=>k=0,loc:=fun _=>⟨m,0,false,0,false⟩,S:=S }
def Cf (m:Nat)(R:Obj->Prop)(b:Nat)(ob:Obj):Prop:=b=m/\R ob
def AQ (P:Program)(f:FuncId)(args:List V)(m:Nat)(R R':Obj->Prop)(out:Out):Prop:=
 ∀(S:Ba) (w:World) (us:List Value) (ob:Obj),(∀b j,S b j->b<w.heap.size)->w.heap[m]?=some ob->still ob=false->R ob->AL (Cx.bare S) w args us->
  Calls P f us.toArray w fun r w'=>∃S' Cy,KB (fun k=>k=m) w w'/\Ar S S' w w'/\(∀b j,S' b j->S b j\/(w.heap.size<=b/\b<w'.heap.size)\/b=m)/\w'.heap[m]?=some Cy/\still Cy=false/\R' Cy/\SX (Cx.bare S') w' out r
theorem AQ.mono {P:Program}{f:FuncId}{args:List V}{m:Nat}{R R' R2 yx:Obj->Prop}{out:Out}(h:AQ P f args m R R' out)(h1 : ∀ob,R2 ob->R ob)(h2 : ∀ob,R' ob->yx ob):AQ P f args m R2 yx out:=fun S w us ob k1 k2 k3 k4 k5 =>
 (h S w us ob k1 k2 k3 (h1 _ k4) k5).mono fun r w' ⟨S',Cy,a1,a2,a3,a4,a5,a6,a7⟩=>⟨S',Cy,a1,a2,a3,a4,a5,h2 _ a6,a7⟩
def jW (P:Program)(l:List ResultVar)(out:Out)(m:Nat)(R':Obj->Prop):Exit->St->Prop
 | .normal,s=>∃v,out=.ret v/\AV P s l=some v/\s.h[0]?=some (.mp (Cf m R'))
 | .ret,s=>∃v,out=.ret v/\AV P s l=some v/\s.h[0]?=some (.mp (Cf m R'))
 | .panic ch,s=>out=.JT ch/\s.h[0]?=some (.mp (Cf m R'))
 | _,_=>False
theorem AQ.intro {P:Program}{f:FuncId}{fn:Func}{c:Code}{args:List V}{m:Nat}{R R':Obj->Prop}{out:Out}(hf:P.funcs[f]?=some fn)(hb:fn.body=some c)(h:AW ⟨none,1⟩ P c (jW P fn.results.toList out m R') ⟨args++As (fn.ntmps - args.length) .any,[.mp (Cf m R)]⟩):AQ P f args m R R' out:=by
 intro S w us ob hS hblk hst hR C9;refine callsIn_wide.1 (callsIn_of_wp_marks (F:=EF) (n:=0) hf hb trivial ?_);let B:Bs:=⟨w,fun k=>k<w.heap.size/\k≠m,fun _ h=>h.1,Cx.ZQ S m,1,fun k hk=>by have:k=0:=hk;omega⟩
 have tJ:Ext (Cx.bare S) (Cx.ZQ S m) w w:=⟨Ar.refl _ _,fun _ h=>h.elim,fun _ h=>h.elim⟩
 have hA:CT S B (Cx.ZQ S m) ⟨args++As (fn.ntmps - args.length) .any,[.mp (Cf m R)]⟩ { tmps:=us.toArray++Array.replicate (fn.ntmps - us.toArray.size) undef,defers:=[] } w:=by
  refine⟨⟨fun k o h=>?_,fun k h=>?_,fun k k' o o' h h' hne=>?_,fun k o j h hx=>?_,hS,fun k o h _ hF=>hF.2 rfl,fun b j h=>.inl h,fun b j h=>h,.GA (AS.refl w),Ext.refl _ _⟩,?_,Marks.nil _ _⟩
  . match k,h with
    | 0,h=>cases h;exact⟨rfl,rfl,rfl,ob,hblk,hst,rfl,hR⟩
    | k+1,h=>simp at h
  . have:k=0:=h;subst this;exact⟨_,rfl⟩
  . match k,k',h,h' with
    | 0,0,_,_=>exact absurd rfl hne
    | 0,k'+1,_,h'=>simp at h'
    | k+1,_,h,_=>simp at h
  . match k,h with
    | 0,h=>cases h;exact hx.elim
    | k+1,h=>simp at h
  . simp only[Array.toList_append,Array.toList_replicate];have hl:us.toArray.size=args.length:=by simpa using C9.len
    rw[hl];exact(AL.mono tJ _ _ C9).append (Tc _ _ _ _)
 refine wpIn_mono (h 0 S B _ _ w (BW _) hA) fun e a' w' ⟨x,s,BR,hK⟩=>?_
 have post : ∀ {x:Cx} {w2:World} {h2:Heap},Good S B x w2 h2->h2 0=some (.mp (Cf m R'))->∃S' Cy,S'=x.S/\KB (fun k=>k=m) w w2/\Ar S S' w w2/\(∀b j,S' b j->S b j\/(w.heap.size<=b/\b<w2.heap.size)\/b=m)/\w2.heap[m]?=some Cy/\still Cy=false/\R' Cy:=by
  intro x w2 h2 g h0;have hl0:=g.ext.loc 0 rfl;have hloc:x.loc 0=⟨m,0,false,0,false⟩:=by
   rcases hl0.2 with e|e
   . exact e.symm
   . cases e.1
  obtain⟨_,_,_,Cy,k3,k4,_,k5⟩:=g.ok 0 _ h0;rw[hloc]at k3;refine⟨x.S,Cy,rfl,⟨g.keep.os,g.keep.tape,g.keep.output,g.keep.size,fun k hk hne=>g.keep.block k hk fun hn=>hn ⟨hk,hne⟩⟩,⟨g.sub,fun b' j v hs hc=>g.ext.ar.cell b' j v hs hc⟩,fun b' j hs=>?_,k3,k4,k5⟩;rcases g.new b' j hs with hq|hq
  . exact .inl hq
  . by_cases e:b'=m
    . exact .inr (.inr e)
    . exact .inr (.inl ⟨Nat.le_of_not_lt fun hlt=>hq ⟨hlt,e⟩,g.ex b' j hs⟩)
 have fin : ∀ {Q:Ending->World->Prop},(∀r w' S' Cy,KB (fun k=>k=m) w w'->Ar S S' w w'->(∀b j,S' b j->S b j\/(w.heap.size<=b/\b<w'.heap.size)\/b=m)->w'.heap[m]?=some Cy->still Cy=false->R' Cy->SX (Cx.bare S') w' out r->Q r w')->
  (∃v,out=.ret v/\AV P s fn.results.toList=some v/\s.h[0]?=some (.mp (Cf m R')))->LeavesInM EF 0 P fn a'.tmps Q a'.defers .returning w':=by
  rintro Q hQ ⟨v,rfl,hr,h0⟩;obtain⟨Ds,e,h1,h2⟩:=BR.df;rw[e];refine ey hr Ds w' h1 h2 BR.good BR.tm fun w2 u g hu=>?_
  obtain⟨S',Cy,rfl,p1,p2,p3,p4,p5,p6⟩:=post g h0;exact hQ _ w2 _ Cy p1 p2 p3 p4 p5 p6 ⟨u,rfl,hu⟩
 cases e with
 | normal=>exact fin (fun r w' S' Cy h1 h2 h3 h4 h5 h6 h7=>⟨S',Cy,h1,h2,h3,h4,h5,h6,h7⟩) hK
 | ret=>exact fin (fun r w' S' Cy h1 h2 h3 h4 h5 h6 h7=>⟨S',Cy,h1,h2,h3,h4,h5,h6,h7⟩) hK
 | panic ch =>
   obtain⟨rfl,h0⟩:=hK;obtain⟨Ds,e,h1,h2⟩:=BR.df;show LeavesInM EF 0 P fn a'.tmps _ a'.defers (.panicking ch) w';rw[e];refine um Ds w' h1 h2 BR.good BR.tm fun w2 g=>?_
   obtain⟨S',Cy,rfl,p1,p2,p3,p4,p5,p6⟩:=post g h0;exact⟨_,Cy,p1,p2,p3,p4,p5,p6,rfl⟩
 | _=>exact hK.elim
section
variable {P:Program} {ops:List Oper} {S0:Ba} {w0:Bs} {x:Cx} {w:World} {H:Heap} {a:Act} {o:Oper} {s:St}
theorem cJ {f:FuncId}{args Bx:List V}{m:Nat}{R R':Obj->Prop}{out:Out}(k:Nat)(g:Good S0 w0 x w H)(hop : ∀y∈o.op.operands.toList,CV x w (ev s.t y) (a.eval y))(Ij:AQ P f Bx m R R' out)(Au:GI P f=true)(hcall:DE (ev s.t) o.op=some (f,args))(hp:V.AO args=some Bx)(hk:H k=some (.mp (Cf m R))){next:Act->World->Prop}{Q:Exit->Act->World->Prop}(hn : ∀res,out=.ret res->∀u x' w',Good S0 w0 x' w' (H.upd (some (k,.mp (Cf m R'))))->Ext x x' w w'->NC w w'->CV x' w' res u->next (a.put o.dst u) w')(Ey : ∀ch,out=.JT ch->∀x' w',Good S0 w0 x' w' (H.upd (some (k,.mp (Cf m R'))))->Ext x x' w w'->NC w w'->Q (.panic ch) a w'):o.wp P a w next Q:=by
 unfold DE at hcall;split at hcall
 case h_2=>cases hcall
 rename_i fo ar He ho;split at hcall
 case h_2=>cases hcall
 rename_i f' caps Fo;simp only[BE,Prod.mk.injEq]at hcall;obtain⟨rfl,rfl⟩:=hcall;have CY:=Qq (hop fo (by simp[ho,CN,D7]));rw[Fo]at CY;simp only[CV]at CY;obtain⟨Dx,CY,EZ⟩:=CY;have Ik:AL x w (ar.toList.map (ev s.t)++caps) (ar.toList.map a.eval++Dx.toList):=(AL.of_map fun y hy=>hop y (by simp[ho,CN,D7];exact .inr (by simpa using hy))).append EZ;obtain⟨fn,hf,hb,hn'⟩:=UB Au;have hb':fn.body≠none:=by intro e;rw[e]at hb;cases hb
 have hn':fn.name≠ "runtime.NumGoroutine":=by simpa using hn'
 have hrun:(execOp a.eval o).run P w=.ok (.enter f' (ar.toList.map a.eval++Dx.toList).toArray) w:=by
  have e1:(ar.map a.eval++Dx)=(ar.toList.map a.eval++Dx.toList).toArray:=by apply Array.toList_inj.1;simp
  simp[execOp,ho,resolve,CY,Deferred.ofValue,invoke,callFunc,program,Sem.run,hf,hn',hb',e1]
 obtain⟨hd,b1,b2,ob,b3,b4,hm,b5⟩:=g.ok k _ hk;subst hm;unfold Oper.wp;rw[hrun];refine(Ij x.S w _ ob g.ex b3 b4 b5 (PJ _ _ _ hp Ik)).mono ?_;rintro r' w' ⟨S',Cy,hkb,DF,Hs,h1,h2,h3,ho'⟩;have hlt:=(Dy.1 b3).1;have he:Ext x { x with S:=S' } w w':=⟨DF,fun _ h=>h,fun _ _=>Es.refl _⟩
 have g':=g.IN (x':={ x with S:=S' }) k (.mp (Cf (x.loc k).b R')) he (hkb.wide fun b e=>⟨hd,b2,e.symm⟩) (fun i=>⟨.inl,fun h=>h.elim id fun e=>e ▸ hd⟩) (fun _ _=>rfl) (fun _=>.inl ⟨hd,b2,rfl⟩)
  ⟨b1,b2,Cy,h1,h2,rfl,h3⟩ (fun b j hs=>(Hs b j hs).imp id fun h=>h.elim (fun h=>⟨h.2,.inl h.1,fun e=>by have:(x.loc k).b=b:=e;omega⟩) (fun h=>⟨by rw[h];exact Nat.lt_of_lt_of_le hlt hkb.size,.inr ⟨hd,b2,h.symm⟩,fun _ hx=>hx.elim⟩)) (fun j hx=>hx.elim)
 have hnc:NC w w':=⟨hkb.size,fun b ob2 DW hnb=>(hkb.block b (Dy.1 DW).1 fun e=>by subst e;rw[b3]at DW;cases DW;rw[b4]at hnb;cases hnb).trans DW⟩
 cases out with
 | ret v =>
   obtain⟨u,rfl,h4⟩:=ho';exact hn v rfl u _ w' g' he hnc (CV.mono (UA S' x w') _ _ h4)
 | JT ch =>
   have e:r'=.panicked ch:=ho';subst e;exact Ey ch rfl _ w' g' he hnc
theorem SW.kC {K:Exit->St->Prop}{r:List Oper}{f:FuncId}{args Bx:List V}{m:Nat}{R R':Obj->Prop}{res:V}(k:Nat)(Ij:AQ P f Bx m R R' (.ret res))(Au:GI P f=true)(hg:gate ops s.t o.guard=some true)(hcall:DE (ev s.t) o.op=some (f,args))(hp:V.AO args=some Bx)(hk:s.h[k]?=some (.mp (Cf m R)))(h:SW P ops K r (s.step o.dst res (some (k,.mp (Cf m R'))))):SW P ops K (o::r) s:=fun S0 w0 x a w hA=>by
 have hw:DV o (yielded ops.toArray a.tmps)=true:=by
  have:=J2 (o:=o) hA.tm (Hj (ops:=ops) (K1:=True) (K2:=False) hg trivial);exact Kb fun h=>this.2 h
 unfold wpList;rw[if_pos hw];refine .inl ?_;refine cJ k hA.good (fun y _=>EH hA.tm y) Ij Au hcall hp hk (fun _ er u x' w' g' he hnc hcv=>?_) (fun _ e=>nomatch e);cases er;have e:=Lm s.h (some (k,O.mp (Cf m R'))) (fun k' o' e=>by cases e;exact NS (Bv.1 hk).1);have g'':Good S0 w0 x' w' (fun i=>(CG s.h (some (k,O.mp (Cf m R'))))[i]?):=by rw[e];exact g'
 exact h S0 w0 _ _ w' (CT.put hA.tm (hA.df.mono hnc) he g'' hcv o.dst)
theorem SW.z9 {K:Exit->St->Prop}{r:List Oper}{f:FuncId}{args Bx:List V}{m:Nat}{R R':Obj->Prop}{ch:List PanicEntry}(k:Nat)(Ij:AQ P f Bx m R R' (.JT ch))(Au:GI P f=true)(hg:gate ops s.t o.guard=some true)(hcall:DE (ev s.t) o.op=some (f,args))(hp:V.AO args=some Bx)(hk:s.h[k]?=some (.mp (Cf m R)))(h:K (.panic ch) ⟨s.t,CG s.h (some (k,.mp (Cf m R')))⟩):SW P ops K (o::r) s:=fun S0 w0 x a w hA=>by
 have hw:DV o (yielded ops.toArray a.tmps)=true:=by
  have:=J2 (o:=o) hA.tm (Hj (ops:=ops) (K1:=True) (K2:=False) hg trivial);exact Kb fun h=>this.2 h
 unfold wpList;rw[if_pos hw];refine .inl ?_;refine cJ k hA.good (fun y _=>EH hA.tm y) Ij Au hcall hp hk (fun _ e=>nomatch e) fun ch' er x' w' g' he hnc=>?_
 cases er;have e:=Lm s.h (some (k,O.mp (Cf m R'))) (fun k' o' e=>by cases e;exact NS (Bv.1 hk).1);have g'':Good S0 w0 x' w' (fun i=>(CG s.h (some (k,O.mp (Cf m R'))))[i]?):=by rw[e];exact g'
 exact⟨x',⟨s.t,CG s.h (some (k,.mp (Cf m R')))⟩,⟨g'',AL.mono he _ _ hA.tm,hA.df.mono hnc⟩,h⟩
theorem TW.kC {K:List Ef->St->Prop}{r:List Oper}{acc:List Ef}{f:FuncId}{args Bx:List V}{m:Nat}{R R':Obj->Prop}{res:V}(k:Nat)(Ij:AQ P f Bx m R R' (.ret res))(Au:GI P f=true)(hg:gate ops s.t o.guard=some true)(hcall:DE (ev s.t) o.op=some (f,args))(hp:V.AO args=some Bx)(hk:s.h[k]?=some (.mp (Cf m R)))(h:TW P ops K r (acc++[⟨res,some (k,.mp (Cf m R')),some k⟩]) (s.step o.dst res (some (k,.mp (Cf m R'))))):TW P ops K (o::r) acc s:=by
 obtain⟨es,s2,h2,h3⟩:=h;refine⟨⟨res,some (k,.mp (Cf m R')),some k⟩::es,s2,⟨_,es,rfl,?_,(fun k' ob e=>by cases e;exact NS (Bv.1 hk).1),h2⟩,by simpa using h3⟩;intro S0 w0 x w a H g hl hr _ Q next D5;rw[Og hl hg];show o.wp P a w next Q;exact cJ k g (Ow hl) Ij Au hcall hp ((hr k (.inl rfl)).trans hk) (fun _ er u x' w' g' he _ hcv=>by cases er;exact D5 u x' w' g' he hcv) (fun _ e=>nomatch e)
end
end Go.Proofs.YtpodcjcajanldaaGreat
