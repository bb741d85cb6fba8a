/- Part of the proof of breakpointLength.proved. Conditions: none. (Joined and shortened by a program.) -/
import Derived.Test.YtpodcjcajanldaaGreatP18
import Derived.Test.YtpodcjcajanldaaGreatP21
set_option linter.unusedVariables false
set_option linter.unusedSimpArgs false
set_option maxRecDepth 100000
set_option maxHeartbeats 16000000
open Go.Proofs.Tryz renaming prog→AD,func95→iW,results95→Lv,results50→yR,results175→yH,results177→yI,func241→aJ,ntmps241→aU,func92→Gm,results241→av,func224→Hh,func106→IB
open Go.IntKind renaming i64→Ad
open List renaming map_cons→Al,map_nil→A8,length_cons→BQ,length_nil→B6,replicate_succ→Ao,replicate_zero→C8,cons_append→Bg,nil_append→Bh,drop_succ_cons→Be,drop_zero→BO,set_cons_succ→Az,set_cons_zero→BC,foldl_cons→Bl,foldl_nil→B7,getElem?_eq_getElem→BP,drop_eq_getElem_cons→Cz,mem_of_getElem?→C6,drop_of_length_le→C5,getElem?_cons_succ→Kd,take_succ_cons→E9,all_cons→Dr,all_nil→Kc,length_append→C3,append_assoc→EW,replicate→As,flatten_cons→GS,length_map→Cg,map_append→EX,getElem?_map→Co,take_of_length_le→D9
open Bool renaming and_eq_true→An
open Option.some renaming inj→JW
open Nat renaming zero_le→Cc
namespace Go.Proofs.YtpodcjcajanldaaGreat
open Go.RowKit
@[simp] theorem AWn (k n:Nat):V.BT k (IF n)=true:=rfl
theorem ARZ (b:Nd)(Au:b.Bc)(BB c:Nat)(hd:BB<=25)(hc:c+b.cnt<=1000000)(ih : ∀k∈b.kids,∀(BB c:Nat),BB<=25->c+k.cnt<=1000000->AY AD 95 [.ptr 0 0,.cp k.row 0,.c (.int .i64 (BB:Int))] 134 (IF c) (IF (k.pv BB c).2) (.c (.bool (k.pv BB c).1))):AY AD 95 [.ptr 0 0,.cp b.row 0,.c (.int .i64 (BB:Int))] 134 (IF c) (IF (b.pv BB c).2) (.c (.bool (b.pv BB c).1)):=by
 have Im:=Jk b;have Bp:=Ny b.kids;have hown:=ARb b (c+1) Au;have hl:=G0 b.kids;obtain⟨rs,Ak⟩:=AE (Nd.rows b.kids);rw[Ak]at hl;have hR:b.pv BB c=if 1000<c+1\/24<BB\/b.CZ=false then(false,c+1)else Nd.GP (BB+1) b.kind b.kids (c+1):=by cases b;rw[Nd.pv];rfl
 obtain⟨OB,kp⟩:=AE b.CZ;rw[kp]at hown hR;have hwc:Ad.wrap ((c:Int)+1)=((c+1:Nat):Int):=by rw[Aq];simp
 obtain⟨C1,hC1⟩:=AE (c+1);rw[hC1]at hwc hown hR;obtain⟨K,hK⟩:=AE b.kind;rw[hK]at hR;have e1:((1000:Int)<(C1:Int))=(1000<C1):=by rw[eq_iff_iff];omega
 have e2:((24:Int)<(BB:Int))=(24<BB):=by rw[eq_iff_iff];omega
 rw[hR];by_cases h1:1000<C1
 . rw[if_pos (.inl h1)];refine AY.intro iW rfl ?_;simp only[Tryz.ntmps95,Al,A8,BQ,B6,Nat.reduceAdd,Nat.reduceSub,Ao,C8,Bg,Bh];have ff:=(cj @hwc<|cj @e1<|cj @h1<|Lv)
   repeat any_goals (first|refine CC ?_|exact Bq ff|refine Bt ff ?_|refine Bi ff ?_|((first|refine By ff ?_ ?_|refine B4 ff ?_ ?_|refine Bz ff ?_ ?_|refine B3 ff ?_ ?_)<;>intro h<;>try (exfalso;first|omega|contradiction)))
   all_goals simp[FL,AV,AZ,Aa,V.AP,V.AO,AU,Lv, *]
 by_cases h2:24<BB
 . rw[if_pos (.inr (.inl h2))];refine AY.intro iW rfl ?_;simp only[Tryz.ntmps95,Al,A8,BQ,B6,Nat.reduceAdd,Nat.reduceSub,Ao,C8,Bg,Bh];have ff:=(cj @hwc<|cj @e1<|cj @e2<|cj @h1<|cj @h2<|Lv)
   repeat any_goals (first|refine CC ?_|exact Bq ff|refine Bt ff ?_|refine Bi ff ?_|((first|refine By ff ?_ ?_|refine B4 ff ?_ ?_|refine Bz ff ?_ ?_|refine B3 ff ?_ ?_)<;>intro h<;>try (exfalso;first|omega|contradiction)))
   all_goals simp[FL,AV,AZ,Aa,V.AP,V.AO,AU,Lv, *]
 refine AY.intro iW rfl ?_;simp only[Tryz.ntmps95,Al,A8,BQ,B6,Nat.reduceAdd,Nat.reduceSub,Ao,C8,Bg,Bh];have ff:=(cj @hwc<|Lv)
 repeat any_goals (first|refine PN (CJ.mk 2) ?_|exact Bq ff|refine Bt ff ?_|refine Bi ff ?_|((first|refine By ff ?_ ?_|refine B4 ff ?_ ?_|refine Bz ff ?_ ?_|refine B3 ff ?_ ?_)<;>intro h<;>try (exfalso;first|omega|contradiction)))
 refine AW.DM ?_;refine SW.take 12 ?_;with_reducible refine Bw (by simp[Ao,e1,e2,h1,h2];first|exact rfl|exact⟨rfl,rfl⟩) ?_
 refine B9 ?_;simp only[Be,BO];refine SW.UC 0 hown Tryz.func154 (by kernel_rfl) (by kernel_rfl) (by simp[gate]) (by simp[DE];first|exact rfl|exact⟨rfl,rfl⟩) (by simp[V.DJ,V.DI];try exact rfl) (by rfl) (kG _) (kG _) (AAN _) ?_;simp only[St.step,St.put,CG,BQ,B6,Nat.reduceAdd,Nat.reduceLT,if_true,Az,BC];cases OB with
 | false =>
   rw[if_pos (.inr (.inr rfl))];refine SW.take 2 ?_;with_reducible refine Bw (by simp[Ao];first|exact rfl|exact⟨rfl,rfl⟩) ?_
   refine B9 ?_;simp only[Be,BO];refine SW.nil ?_;have ff:=(Lv)
   repeat any_goals (first|refine CC ?_|exact Bq ff|refine Bt ff ?_|refine Bi ff ?_|((first|refine By ff ?_ ?_|refine B4 ff ?_ ?_|refine Bz ff ?_ ?_|refine B3 ff ?_ ?_)<;>intro h<;>try (exfalso;first|omega|contradiction)))
   all_goals simp[FL,AV,AZ,Aa,V.AP,V.AO,AU,Lv, *]
 | true =>
   rw[if_neg (by rintro (h|h|h)<;>first|omega|cases h)];refine SW.take 2 ?_;with_reducible refine Bw (by simp[Ao];first|exact rfl|exact⟨rfl,rfl⟩) ?_
   refine B9 ?_;simp only[Be,BO];refine SW.nil ?_;have hwd:Ad.wrap ((BB:Int)+1)=((BB+1:Nat):Int):=by rw[Aq];simp
   obtain⟨Q,hQ⟩:=AE (Nd.GP (BB+1) K b.kids C1);rw[hQ];have ff:=(cj @Ak<|cj @hl<|Lv)
   repeat any_goals (first|refine CC ?_|exact Bq ff|refine Bt ff ?_|refine Bi ff ?_|((first|refine By ff ?_ ?_|refine B4 ff ?_ ?_|refine Bz ff ?_ ?_|refine B3 ff ?_ ?_)<;>intro h<;>try (exfalso;first|omega|contradiction)))
   refine lp (ι:={ k:Nat×Nat // k.1<=b.kids.length/\k.2+Nd.A9 (b.kids.drop k.1)<=1000000/\Q=Nd.GP (BB+1) K (b.kids.drop k.1) k.2 }) (fun k=>[(35,.c (.int .i64 (k.1.1:Int))),(6,.c (.bool false))]) (fun k=>[.box 134 (IF k.1.2) false]) (fun k=>b.kids.length - k.1.1) ⟨(0,C1),by simp,by simp;omega,by simp[hQ]⟩ ?_ ?_;all_goals simp only[Br,Bl,B7,BC,Az]
   . refine Le.BV (by simp[A5])
   . rintro ⟨⟨j,n⟩,hj,hb,hI⟩;simp only at hj hb hI ⊢;by_cases hlt:j<b.kids.length
     . obtain⟨k,hkk⟩:∃k,b.kids[j]?=some k:=⟨_,BP hlt⟩
       have BN:rs[j]?=some k.row:=by rw[<-Ak];exact N1 hkk
       have CW:j<rs.length:=by omega
       have CH:=gx BN;rw[Cz hlt,gx hkk]at hI hb;simp only[Nd.A9]at hb;simp only[Nd.GP]at hI;have TM:=ih k (C6 hkk) (BB+1) n (by omega) (by omega);have hpb:=(vA (BB+1) k n).1;have hw:Ad.wrap ((j:Int)+1)=((j+1:Nat):Int):=by rw[Aq];simp
       obtain⟨⟨r,n'⟩,hr⟩:=AE (Nd.pv (BB+1) k n);rw[hr]at TM hI hpb;simp only at TM hI hpb;obtain⟨D,hD⟩:∃D:Int,((BB+1:Nat):Int)=D:=⟨_,rfl⟩
       rw[hD]at TM hwd;cases em:IK K k.kind with
       | true =>
         rw[em,if_pos rfl]at hI;have ry:(decide (K=1)==decide (k.kind=1))=true:=by unfold IK at em;rw[<-em];cases decide (K=1)<;>cases decide (k.kind=1)<;>rfl
         have ff:=(cj @Ak<|cj @hl<|cj @hlt<|cj @CW<|cj @BN<|cj @CH<|cj @hK<|cj @ry<|cj @hI<|Lv)
         repeat any_goals (first|refine CC ?_|exact Bq ff|refine Bt ff ?_|refine Bi ff ?_|((first|refine By ff ?_ ?_|refine B4 ff ?_ ?_|refine Bz ff ?_ ?_|refine B3 ff ?_ ?_)<;>intro h<;>try (exfalso;first|omega|contradiction)))
         all_goals simp[FL,AV,AZ,Aa,V.AP,V.AO,AU,Lv, *]
       | false =>
         rw[em,if_neg (by simp)]at hI;have ry:(decide (K=1)==decide (k.kind=1))=false:=by unfold IK at em;rw[<-em];cases decide (K=1)<;>cases decide (k.kind=1)<;>rfl
         have ff:=(cj @Ak<|cj @hl<|cj @hlt<|cj @CW<|cj @BN<|cj @CH<|cj @hK<|Lv)
         repeat any_goals (first|refine PN (CJ.mk 7) ?_|exact Bq ff|refine Bt ff ?_|refine Bi ff ?_|((first|refine By ff ?_ ?_|refine B4 ff ?_ ?_|refine Bz ff ?_ ?_|refine B3 ff ?_ ?_)<;>intro h<;>try (exfalso;first|omega|contradiction)))
         refine AW.Py GZ (.inl rfl) ?_;refine TW.take 25 (Fh (by simp[Ak,hl,hlt,CW,BN,CH,hK,ry,hwd];first|exact rfl|exact⟨rfl,rfl⟩|exact⟨rfl,rfl,rfl⟩) (Sa ?_));simp only[Be,BO];refine TW.UC 0 TM iW (by kernel_rfl) (by kernel_rfl) (by simp[gate]) (by simp[DE];first|exact rfl|exact⟨rfl,rfl⟩) (by simp[V.DJ,V.DI];try exact rfl) (by rfl) (kG _) (kG _) (AAN _) ?_;simp only[St.step,St.put,CG,BQ,B6,Nat.reduceAdd,Nat.reduceLT,if_true,Az,BC];cases r with
         | false =>
           rw[if_neg (by simp)]at hI;refine TW.take 2 (Fh (by simp;first|exact rfl|exact⟨rfl,rfl⟩|exact⟨rfl,rfl,rfl⟩) (Sa (TW.nil ⟨by kernel_rfl,?_⟩)));have ff:=(Lv)
           repeat any_goals (first|refine CC ?_|exact Bq ff|refine Bt ff ?_|refine Bi ff ?_|((first|refine By ff ?_ ?_|refine B4 ff ?_ ?_|refine Bz ff ?_ ?_|refine B3 ff ?_ ?_)<;>intro h<;>try (exfalso;first|omega|contradiction)))
           all_goals simp[FL,AV,AZ,Aa,V.AP,V.AO,AU,Lv, *]
         | true =>
           rw[if_pos rfl]at hI;refine TW.take 2 (Fh (by simp;first|exact rfl|exact⟨rfl,rfl⟩|exact⟨rfl,rfl,rfl⟩) (Sa (TW.nil ⟨by kernel_rfl,?_⟩)));have ff:=(cj @hw<|Lv)
           repeat any_goals (first|refine CC ?_|exact Bq ff|refine Bt ff ?_|refine Bi ff ?_|((first|refine By ff ?_ ?_|refine B4 ff ?_ ?_|refine Bz ff ?_ ?_|refine B3 ff ?_ ?_)<;>intro h<;>try (exfalso;first|omega|contradiction)))
           exact⟨⟨(j+1,n'),by simp only;omega,by simp only;omega,hI⟩,by simp only;omega,wd 1⟩
     . rw[C5 (by omega)]at hI;simp only[Nd.GP]at hI;have ff:=(cj @Ak<|cj @hl<|cj @hlt<|cj @hI<|Lv)
       repeat any_goals (first|refine CC ?_|exact Bq ff|refine Bt ff ?_|refine Bi ff ?_|((first|refine By ff ?_ ?_|refine B4 ff ?_ ?_|refine Bz ff ?_ ?_|refine B3 ff ?_ ?_)<;>intro h<;>try (exfalso;first|omega|contradiction)))
       all_goals simp[FL,AV,AZ,Aa,V.AP,V.AO,AU,Lv, *]
theorem ARY : ∀b:Nd,b.Bc->∀(BB c:Nat),BB<=25->c+b.cnt<=1000000->AY AD 95 [.ptr 0 0,.cp b.row 0,.c (.int .i64 (BB:Int))] 134 (IF c) (IF (b.pv BB c).2) (.c (.bool (b.pv BB c).1)):=ZR fun b ih Au BB c hd hc=>ARZ b Au BB c hd hc fun k hk=>ih k hk (N0 (K7 b Au).2.2 k hk)
theorem mr (b:Nd)(Au:b.Bc)(hc:b.cnt<=900000):AC AD 50 [At b] (.c (.bool b.Av)):=by
 have hn:=ARY b Au 1 0 (by omega) (by omega);have hk:=ARB;unfold lu at hk;unfold At;by_cases k1:b.kind=1
 . rw[<-APX b k1];obtain⟨⟨r,n⟩,hr⟩:=AE (b.pv 1 0);rw[hr]at hn ⊢;simp only at hn ⊢;refine en Tryz.func50 Tryz.ntmps50 ?_;have ff:=(yR)
   repeat any_goals (first|refine PN (CJ.mk 2) ?_|exact Bq ff|refine Bt ff ?_|refine A4 ff (hk) ?_|refine Bi ff ?_|((first|refine By ff ?_ ?_|refine B4 ff ?_ ?_|refine Bz ff ?_ ?_|refine B3 ff ?_ ?_)<;>intro h<;>try (exfalso;first|omega|contradiction)))
   refine AW.AR 0 rfl (by simp[toCs,toC];exact rfl) (by simp[V.BG,V.AR];exact rfl) (by simp[O.AR,V.BG,V.AR];exact rfl) ?_;refine AW.DM ?_;refine SW.take 5 ?_;with_reducible refine Bw (by simp[Ao,k1];first|exact rfl|exact⟨rfl,rfl⟩) ?_
   refine B9 ?_;simp only[Be,BO];refine SW.UC 1 hn iW (by kernel_rfl) (by kernel_rfl) (by simp[gate]) (by simp[DE];first|exact rfl|exact⟨rfl,rfl⟩) (by simp[V.DJ,V.DI];try exact rfl) (by rfl) (by rfl) (cs':=IF n) (by rfl) (by rfl) ?_;simp only[St.step,St.put,CG,BQ,B6,Nat.reduceAdd,Nat.reduceLT,if_true,Az,BC];refine SW.take 2 ?_;with_reducible refine Bw (by simp[Ao];first|exact rfl|exact⟨rfl,rfl⟩) ?_
   refine B9 ?_;simp only[Be,BO];refine SW.nil ?_;have ff:=(yR)
   repeat any_goals (first|refine CC ?_|exact Bq ff|refine Bt ff ?_|refine Bi ff ?_|((first|refine By ff ?_ ?_|refine B4 ff ?_ ?_|refine Bz ff ?_ ?_|refine B3 ff ?_ ?_)<;>intro h<;>try (exfalso;first|omega|contradiction)))
 . have e:b.Av=false:=by unfold Nd.Av;rw[decide_eq_false k1,Bool.false_and]
   rw[e];refine en Tryz.func50 Tryz.ntmps50 ?_;have ff:=(cj @k1<|yR)
   repeat any_goals (first|refine CC ?_|exact Bq ff|refine Bt ff ?_|refine A4 ff (hk) ?_|refine Bi ff ?_|((first|refine By ff ?_ ?_|refine B4 ff ?_ ?_|refine Bz ff ?_ ?_|refine B3 ff ?_ ?_)<;>intro h<;>try (exfalso;first|omega|contradiction)))
theorem AR1 (l:List Nd)(Au:(EV l).Bc)(hc:(EV l).cnt<=900000):AC AD 76 [.c (.sl (Nd.rows l))] (.c (.bool (EV l).Av)):=by
 have h2:=mr (EV l) Au hc;have e:At (EV l)=.agg [.c (.int .i64 1),.c (.str ⟨#[]⟩),.c (.int .i64 0),.c (.sl (Nd.rows l))]:=rfl;rw[e]at h2;refine en Tryz.func76 Tryz.ntmps76 ?_;have ff:=(Tryz.results76)
 repeat any_goals (first|refine CC ?_|exact Bq ff|refine Bt ff ?_|refine A4 ff (h2) ?_|refine Bi ff ?_|((first|refine By ff ?_ ?_|refine B4 ff ?_ ?_|refine Bz ff ?_ ?_|refine B3 ff ?_ ?_)<;>intro h<;>try (exfalso;first|omega|contradiction)))
def I3:List AA->Int->Int
 | [],h=>h
 | b::l,h=>I3 l (mx h (b.y+b.h))
def Ib:List AA->Int->Int
 | [],d=>d
 | b::l,d=>Ib l (mx d (b.d - b.y))
def D3:List AA->List Int->List AA
 | b::l,p::q=>b.at_ p b.y::D3 l q
 | _,_=>[]
def NA (kids:List AA)(places:List Int)(w:Int):AA:=CB w (I3 kids 0) (Ib kids 0) (D3 kids places)
def Rl (kids:List AA)(places:List Int)(w:Int):AA×Int:=if (NA kids places w).Av=false then(AA.zero,6)else(NA kids places w,0)
theorem me : ∀ {kids:List AA} {pl:List Int},pl.length=kids.length->AA.A9 (D3 kids pl)=AA.A9 kids
 | [],_,_=>by cases ‹List Int›<;>rfl
 | b::l,p::q,h=>by simp only[D3,AA.A9,GW,me (kids:=l) (pl:=q) (by simpa using h)]
 | b::l,[],h=>by simp at h
theorem AEo : ∀ {kids:List AA} {pl:List Int},AA.Jb kids->AA.Jb (D3 kids pl)
 | [],[],_=>trivial
 | [],_::_,_=>trivial
 | b::l,[],_=>trivial
 | b::l,p::q,h=>by simp only[D3,AA.Jb]at h ⊢;exact⟨GH _ _ h.1,AEo h.2⟩
theorem AEq : ∀ {kids:List AA} {pl:List Int},AA.GB kids->AA.GB (D3 kids pl)
 | [],[],_=>trivial
 | [],_::_,_=>trivial
 | b::l,[],_=>trivial
 | b::l,p::q,h=>by simp only[D3,AA.GB]at h ⊢;exact⟨FA _ _ h.1,AEq h.2⟩
theorem ZZ : ∀ {kids:List AA} {pl:List Int},pl.length=kids.length->(D3 kids pl).length=kids.length
 | [],_,_=>by cases ‹List Int›<;>rfl
 | b::l,p::q,h=>by simp only[D3,BQ,ZZ (kids:=l) (pl:=q) (by simpa using h)]
 | b::l,[],h=>by simp at h
theorem vW : ∀ {kids:List AA} {pl:List Int} {k:Nat} {b:AA} {p:Int},kids[k]?=some b->pl[k]?=some p->(D3 kids pl)[k]?=some (b.at_ p b.y)
 | b'::l,p'::q,0,b,p,h1,h2=>by simp at h1 h2;subst h1 h2;rfl
 | b'::l,p'::q,k+1,b,p,h1,h2=>by simp only[D3,Kd]at *;exact vW h1 h2
 | [],_,_,_,_,h,_=>by simp at h
 | _::_,[],_,_,_,_,h=>by simp at h
theorem AEr : ∀ {kids:List AA} {pl:List Int} {k:Nat} {b:AA} {p:Int},kids[k]?=some b->pl[k]?=some p->D3 (kids.take (k+1)) (pl.take (k+1))=D3 (kids.take k) (pl.take k)++[b.at_ p b.y]
 | b'::l,p'::q,0,b,p,h1,h2=>by simp at h1 h2;subst h1 h2;rfl
 | b'::l,p'::q,k+1,b,p,h1,h2=>by
   simp only[Kd]at h1 h2;have:=AEr h1 h2;simp only[E9,D3,Bg]at this ⊢;rw[this]
 | [],_,_,_,_,h,_=>by simp at h
 | _::_,[],_,_,_,_,h=>by simp at h
theorem AHG : ∀(l:List AA) (k:Nat) (b:AA) (h:Int),l[k]?=some b->I3 (l.take (k+1)) h=mx (I3 (l.take k) h) (b.y+b.h)
 | [],_,_,_,h=>by simp at h
 | x::l,0,b,h,hb=>by simp at hb;subst hb;rfl
 | x::l,k+1,b,h,hb=>by simp only[E9,I3];exact AHG l k b _ (by simpa using hb)
theorem zu : ∀(l:List AA) (k:Nat) (b:AA) (h:Int),l[k]?=some b->Ib (l.take (k+1)) h=mx (Ib (l.take k) h) (b.d - b.y)
 | [],_,_,_,h=>by simp at h
 | x::l,0,b,h,hb=>by simp at hb;subst hb;rfl
 | x::l,k+1,b,h,hb=>by simp only[E9,Ib];exact zu l k b _ (by simpa using hb)
theorem AVb {b:AA}(h:b.Av=true):(-1073741824<=b.x/\b.x<=1073741824)/\(-1073741824<=b.y/\b.y<=1073741824):=by
 obtain⟨bk,bn,bs,bw,bh,bd,bx,Bu,Dt,bo,EC⟩:=b;simp only[AA.Av,An,decide_eq_true_eq]at h;obtain⟨h1,h2,h3⟩:=h;simp only[AA.EE,AA.CZ,AA.lens,An,Dr,Kc]at h1;obtain⟨⟨⟨l1,l2,l3,l4,l5,_⟩,k1,k2⟩,h4⟩:=h1;simp[Aw]at l4 l5;exact⟨l4,l5⟩
theorem AFD : ∀(vs cs pre post:List V),cs.length=vs.length->Ek (pre++(cs++post)) pre.length vs=pre++(vs++post)
 | [],cs,pre,post,h=>by
   have:cs=[]:=List.eq_nil_of_length_eq_zero (by simpa using h);subst this;simp[Ek]
 | v::vs,c::cs,pre,post,h=>by
   simp only[Ek,Bg];have:=AFD vs cs (pre++[v]) post (by simpa using h);simp only[C3,BQ,B6,Nat.zero_add,EW,Bg,Bh]at this;rw[<-this];congr 1
   simp
def arr (l:List AA)(n:Nat):List V:=(AA.rows l).flatten.map V.c++(As n Bo).flatten
theorem AFr (l:List AA):(AA.rows l).flatten.length=l.length*11:=by
 induction l with
 | nil=>rfl
 | cons b l ih=>simp only[AA.rows,GS,C3,ih,BQ,AA.Lh];omega
theorem AJX (l:List AA)(n:Nat):(arr l n).length=(l.length+n)*11:=by
 have h2:(As n Bo).flatten.length=n*11:=by
  induction n with
  | zero=>rfl
  | succ n ih=>rw[Ao,GS,C3,ih];simp[Bo];omega
 unfold arr;rw[C3,Cg,AFr,h2];omega
theorem j6 {n:Nat} : ∀ {a b:List V},V.BT n (a++b)=(V.BT n a && V.BT n b)
 | [],b=>by simp[V.BT]
 | v::a,b=>by simp only[Bg,V.BT,j6 (a:=a),Bool.and_assoc]
@[simp] theorem AWC (m:Nat):V.BT m Bo=true:=by simp[Bo,V.BT,V.BA]
@[simp] theorem AWS (m:Nat)(l:List AA)(n:Nat):V.BT m (arr l n)=true:=by
 have h1 : ∀r:List C,V.BT m (r.map V.c)=true:=by
  intro r;induction r with
  | nil=>rfl
  | cons c r ih=>simp only[Al,V.BT,V.BA,ih,Bool.and_self]
 have h2:V.BT m (As n Bo).flatten=true:=by
  induction n with
  | zero=>rfl
  | succ n ih=>rw[Ao,GS,j6,ih,AWC];rfl
 unfold arr;rw[j6,h1,h2];rfl
theorem AJY (l:List AA)(n:Nat)(b:AA)(p:Int):(Ek (arr l (n+1)) (l.length*11) b.vs).set (l.length*11+6) (.c (.int .i64 p))=arr (l++[b.at_ p b.y]) n:=by
 have hp:((AA.rows l).flatten.map V.c).length=l.length*11:=by rw[Cg,AFr]
 have e1:arr l (n+1)=(AA.rows l).flatten.map V.c++(Bo++(As n Bo).flatten):=by
  unfold arr;rw[Ao,GS]
 rw[e1,<-hp,AFD _ _ _ _ (by rw[AA.VV];rfl),List.set_append_right _ _ (by omega),show ((AA.rows l).flatten.map V.c).length+6 - ((AA.rows l).flatten.map V.c).length=6 by omega];have e2:(b.vs++(As n Bo).flatten).set 6 (.c (.int .i64 p))=(b.at_ p b.y).vs++(As n Bo).flatten:=by cases b;rfl
 rw[e2];unfold arr;have e3:AA.rows (l++[b.at_ p b.y])=AA.rows l++[(b.at_ p b.y).row]:=by rw[Ed,Ed,EX];rfl
 rw[e3,List.flatten_append,EX,EW];simp only[GS,List.flatten_nil,List.append_nil];rfl
theorem ANu (kids:List AA)(ho:AA.GB kids)(hc:AA.A9 kids<=1000000):AC AD 175 [.c (.sl (AA.rows kids))] (.c (.bool (kids.all AA.Av))):=by
 obtain⟨rs,Ak⟩:=AE (AA.rows kids);have Am:rs.length=kids.length:=by rw[<-Ak,Ed];simp
 have Bp:=OY kids;rw[Ak];refine en Tryz.func175 Tryz.ntmps175 ?_;refine wy (cj @Am<|yH) trivial ⟨?_⟩;refine lp (ι:={ k:Nat // k<=kids.length/\kids.all AA.Av=(kids.drop k).all AA.Av }) (fun k=>[(2,.c (.bool false)),(6,.c (.int .i64 (k.1:Int)))]) (fun _=>[]) (fun k=>kids.length - k.1) ⟨0,by simp⟩ ?_ ?_;all_goals simp only[Br,Bl,B7,BC,Az]
 . refine Le.BV (by simp[A5])
 . rintro ⟨k,hk,hI⟩;simp only;by_cases hlt:k<kids.length
   . obtain⟨c,hcc⟩:=AE (kids[k]);have JK:kids[k]?=some c:=by rw[BP hlt,hcc]
     rw[Cz hlt,hcc,Dr]at hI;have BN:rs[k]?=some c.row:=by rw[<-Ak,Ed,Co,JK];rfl
     have CW:k<rs.length:=by omega
     have CH : ∀hx:k<rs.length,rs[k]'hx=c.row:=by intro hx;rw[BP hx]at BN;exact JW BN
     have Im:=kK kids k c JK;have hv:=D2 c (vI ho c (C6 JK)) (by omega);rw[Ay]at hv;have ff:=(cj @Am<|cj @hlt<|cj @CW<|cj @BN<|cj @CH<|yH)
     repeat any_goals (first|refine CC ?_|exact Bq ff|refine Bt ff ?_|refine A4 ff (hv) ?_|refine Bi ff ?_|((first|refine By ff ?_ ?_|refine B4 ff ?_ ?_|refine Bz ff ?_ ?_|refine B3 ff ?_ ?_)<;>intro h<;>try (exfalso;first|omega|contradiction)))
     all_goals exact⟨⟨k+1,by omega,by rw[hI,h,Bool.true_and]⟩,by simp only;omega,wd 0⟩
   . rw[C5 (by omega),Kc]at hI;exact wz (cj @Am<|cj @hlt<|yH) trivial
theorem AM3 (kids:List AA)(pl:List Int)(w:Int)(hv : ∀b∈kids,b.Av=true)(ho:AA.GB kids)(hd:AA.Jb kids)(hl:pl.length=kids.length)(hc:AA.A9 kids<=900000)(hk9:kids.length<=10000):AC AD 177 [.c (.sl (AA.rows kids)),.c (Ab pl),.c (.int .i64 w)] (Bd (Rl kids pl w)):=by
 obtain⟨rs,Ak⟩:=AE (AA.rows kids);have Am:rs.length=kids.length:=by rw[<-Ak,Ed];simp
 obtain⟨ps,HU⟩:=AE (pl.map (fun n=>[C.int .i64 n]));have hpl:ps.length=kids.length:=by rw[<-HU,Cg,hl]
 have BL:=MX w (I3 kids 0) (Ib kids 0) (D3 kids pl) (AEo hd) (by rw[me hl];omega);have Cd:=D2 (NA kids pl w) (show AA.Bc (CB _ _ _ _)from⟨(Cc _:0<=maxLen),(Cc _:0<=maxLen),AEq ho⟩) (by show AA.cnt (CB _ _ _ _)<=_;simp only[CB,AA.cnt,me hl];omega);have e29:CB w (I3 kids 0) (Ib kids 0) (D3 kids pl)=NA kids pl w:=rfl;rw[e29]at BL;obtain⟨B,hB⟩:=AE (NA kids pl w);unfold Rl;rw[hB]at BL Cd ⊢;have de:Ab pl=.sl ps:=by rw[<-HU];rfl
 rw[Ak,de];simp only[Ay]at BL Cd;have S8:128*(kids.length:Int)<=281474976710656:=by omega
 have tj:(kids.length:Int)<=9223372036854775807:=by omega
 have KD : ¬(20000:Int)<=(kids.length:Int):=by omega
 refine en Tryz.func177 Tryz.ntmps177 ?_;refine wy (cj @Am<|cj @S8<|cj @tj<|yI) trivial ⟨?_⟩;refine lp (ι:={ k:Nat // k<=kids.length/\I3 (kids.take k) 0<=3000000000/\0<=I3 (kids.take k) 0/\Ib (kids.take k) 0<=3000000000/\0<=Ib (kids.take k) 0 }) (fun k=>[(9,.c (.int .i64 (I3 (kids.take k.1) 0))),(10,.c (.int .i64 (Ib (kids.take k.1) 0))),(18,.c (.int .i64 (k.1:Int)))]) (fun k=>[.box 41 Bo false,.box 41 (arr (D3 (kids.take k.1) (pl.take k.1)) (kids.length - k.1)) false]) (fun k=>kids.length - k.1) ⟨0,by simp[I3,Ib]⟩ ?_ ?_;all_goals simp only[Br,Bl,B7,BC,Az]
 . refine Le.BV (by simp[A5,I3,Ib])
 . rintro ⟨k,hk,t1,t2,b1,b2⟩;simp only;by_cases hlt:k<kids.length
   . obtain⟨c,hcc⟩:=AE (kids[k]);have JK:kids[k]?=some c:=by rw[BP hlt,hcc]
     have BN:rs[k]?=some c.row:=by rw[<-Ak,Ed,Co,JK];rfl
     have CW:k<rs.length:=by omega
     have lT:k<ps.length:=by omega
     have CH : ∀hx:k<rs.length,rs[k]'hx=c.row:=by intro hx;rw[BP hx]at BN;exact JW BN
     obtain⟨p,hp⟩:∃p,pl[k]?=some p:=⟨_,BP (by omega)⟩
     have Ft:ps[k]?=some [.int .i64 p]:=by rw[<-HU,Co,hp];rfl
     have M2 : ∀hx:k<ps.length,ps[k]'hx=[.int .i64 p]:=by intro hx;rw[BP hx]at Ft;exact JW Ft
     have hcv:=hv c (C6 JK);obtain⟨cw,ch,cd,_⟩:=DS hcv;obtain⟨cx,cy⟩:=AVb hcv;have hA:arr (D3 (kids.take k) (pl.take k)) (kids.length - k)=arr (D3 (kids.take k) (pl.take k)) (kids.length - (k+1)+1):=by rw[show kids.length - (k+1)+1=kids.length - k by omega]
     have Ey:(D3 (kids.take k) (pl.take k)).length=k:=by rw[ZZ (by simp[hl]),List.length_take];omega
     have hput:=AJY (D3 (kids.take k) (pl.take k)) (kids.length - (k+1)) c p;have Et:=AJX (D3 (kids.take k) (pl.take k)) (kids.length - k);rw[<-hA,Ey,<-AEr JK hp]at hput;rw[Ey,show k+(kids.length - k)=kids.length by omega]at Et;have Uh:=AHG kids k c 0 JK;have JJ:=zu kids k c 0 JK;obtain⟨X0,Sv⟩:=AE (arr (D3 (kids.take k) (pl.take k)) (kids.length - k));rw[Sv]at hput Et ⊢;obtain⟨X1,sj⟩:=AE (Ek X0 (k*11) c.vs);have ku:X1.length=kids.length*11:=by rw[<-sj,AFE,Et]
     rw[sj]at hput;obtain⟨T,hT⟩:=AE (I3 (kids.take k) 0);obtain⟨D,hD⟩:=AE (Ib (kids.take k) 0);rw[hT]at Uh t1 t2 ⊢;rw[hD]at JJ b1 b2 ⊢;have ER:(if T<c.y+c.h then c.y+c.h else T)=I3 (kids.take (k+1)) 0:=Uh.symm;have Ew:(if D<c.d - c.y then c.d - c.y else D)=Ib (kids.take (k+1)) 0:=JJ.symm;have No:k*11+11<=kids.length*11:=by omega
     have Ug:k*11+6<kids.length*11:=by omega
     refine wy (cj @Am<|cj @hpl<|cj @hlt<|cj @CW<|cj @lT<|cj @BN<|cj @CH<|cj @Ft<|cj @M2<|cj @Et<|cj @sj<|cj @ku<|cj @hput<|cj @No<|cj @Ug<|cj @ER<|cj @Ew<|yI) trivial ⟨?_⟩;exact⟨⟨k+1,by omega,by rw[Uh,D6];omega,by rw[Uh,D6];omega,by rw[JJ,D6];omega,by rw[JJ,D6];omega⟩,by simp only;omega,wd 2⟩
   . have e1:kids.take k=kids:=D9 (by omega);have e2:pl.take k=pl:=D9 (by omega);rw[e1]at t1 t2 b1 b2 ⊢;rw[e2];have hz:kids.length - k=0:=by omega
     rw[hz];have e3:arr (D3 kids pl) 0=(AA.rows (D3 kids pl)).flatten.map V.c:=by simp[arr]
     have e4:Gr 11 kids.length (AA.rows (D3 kids pl)).flatten=AA.rows (D3 kids pl):=by
      have:=V8 (AA.rows (D3 kids pl)) (fi _);rwa [show (AA.rows (D3 kids pl)).length=kids.length by rw[Ed,Cg,ZZ hl]]at this
     rw[e3];refine AW.AR 1 rfl (toCs_map _) (by simp[V.BG,V.AR,e4];exact rfl) (by simp[O.AR,V.BG,V.AR,Bo];exact rfl) ?_;exact wz (cj @Am<|cj @hlt<|cj @KD<|cj @Bd.eq_1<|cj @Ay<|cj @Af.eq_1<|cj @Eo<|cj @Bo.eq_1<|yI) (cj BL<|cj Cd<|trivial)
theorem ASR (f:AI)(b:AA)(p:Int)(hb:b.Av=true)(h1:1<=p)(h2:p<=100):(-1073741824<=Gu f p/\Gu f p<=1073741824)/\∃M,(if Gu f p<b.h then b.h - Gu f p else 0)=M/\0<=M/\M<=2147483648/\(if M<b.d+Gu f p then b.d+Gu f p else M)=Ms f b p/\0<=Ms f b p/\Ms f b p<=2147483648:=by
 obtain⟨bw,bh,bd,bc⟩:=DS hb;have ha:=DA (p:=p) f.params.EB (by omega) h2;refine⟨ha,?_⟩;have hR:Ms f b p=mx (mx 0 (b.h - Gu f p)) (b.d+Gu f p):=rfl;unfold Gu at *
 obtain⟨A,hA⟩:=AE (scale f.params.EB p);rw[hA]at ha hR ⊢;have hm:mx 0 (b.h - A)=if A<b.h then b.h - A else 0:=by unfold mx;split<;>split<;>omega
 refine⟨_,rfl,?_,?_,?_,?_,?_⟩
 . split<;>omega
 . split<;>omega
 . rw[hR,hm];rfl
 . rw[hR,hm];unfold mx;split<;>split<;>omega
 . rw[hR,hm];unfold mx;split<;>split<;>omega
theorem ARW (f:AI)(b:AA)(p:Int)(hf:f.Fit)(ho:b.Bc)(hc:b.cnt<=1000000):AC AD 241 [.agg f.vs,BD b,.c (.int .i64 p)] (.c (.int .i64 (JD f b p))):=by
 have ED:=Mv f;have Cd:=D2 b ho hc;rw[Ay]at Cd ⊢;cases hv:f.valid with
 | false =>
   have e:JD f b p=0:=if_pos (.inl hv);rw[e];rw[hv]at ED;refine en aJ aU ?_;refine Ac ?_;refine BY (ED) Gm ?_;refine Ac ?_;simp[Aj,AV,AZ,Aa,V.AP,V.AO,AU,av]
 | true =>
   rw[hv]at ED;cases hb:b.Av with
   | false =>
     have e:JD f b p=0:=if_pos (.inr (.inl hb));rw[e];rw[hb]at Cd;refine en aJ aU ?_;refine Ac ?_;refine BY (ED) Gm ?_;refine BY (Cd) Hh ?_;refine Ac ?_;simp[Aj,AV,AZ,Aa,V.AP,V.AO,AU,av]
   | true =>
     rw[hb]at Cd;by_cases h1:p<1
     . have e:JD f b p=0:=if_pos (.inr (.inr (.inl h1)));rw[e];refine en aJ aU ?_;refine Ac ?_;refine BY (ED) Gm ?_;refine gc @h1 (Cd) Hh ?_;refine Ac ?_;simp[Aj,AV,AZ,Aa,V.AP,V.AO,AU,av]
     . by_cases h2:100<p
       . have e:JD f b p=0:=if_pos (.inr (.inr (.inr h2)));rw[e];refine en aJ aU ?_;refine Ac ?_;refine BY (ED) Gm ?_;refine gc (cj @h1<|@h2) (Cd) Hh ?_;refine Ac ?_;simp[Aj,AV,AZ,Aa,V.AP,V.AO,AU,av]
       . have e:JD f b p=if 536870912<Ms f b p then 0 else mx (scale (2*Ms f b p) f.params.Nf) (2*Ms f b p - scale f.params.OZ p):=by unfold JD;rw[if_neg];rintro (h|h|h|h)<;>first|omega|(rw[hv]at h;cases h)|(rw[hb]at h;cases h)
         rw[e];obtain⟨bw,bh,bd,bc⟩:=DS hb;obtain⟨ha,M,hM,m1,m2,hD,d1,d2⟩:=ASR f b p hb (by omega) (by omega);have KC:=Dn f.params.EB p;have eA:scale f.params.EB p=Gu f p:=rfl;rw[eA]at KC;obtain⟨A,hA⟩:=AE (Gu f p);rw[hA]at ha hM hD KC;have w1:Ad.wrap (b.h - A)=b.h - A:=Aq;have w2:Ad.wrap (b.d+A)=b.d+A:=Aq;obtain⟨D,sQ⟩:=AE (Ms f b p);rw[sQ]at hD d1 d2 ⊢;have hs1:=Dn (2*D) f.params.Nf;have Oz:=Dn f.params.OZ p;have k2:=DA (p:=p) f.params.OZ (by omega) (by omega);obtain⟨S1,Su⟩:=AE (scale (2*D) f.params.Nf);obtain⟨S2,JG⟩:=AE (scale f.params.OZ p);rw[Su]at hs1 ⊢;rw[JG]at Oz k2 ⊢;have w3:Ad.wrap (2*D)=2*D:=Aq;have w4:Ad.wrap (2*D - S2)=2*D - S2:=Aq;have lU:(if S1<2*D - S2 then 2*D - S2 else S1)=mx S1 (2*D - S2):=rfl;by_cases h3:536870912<D
         . rw[if_pos h3];refine en aJ aU ?_;refine Ac ?_;refine BY (ED) Gm ?_;refine gc (cj @h1<|@h2) (Cd) Hh ?_;refine Ac ?_;refine BY (KC) IB ?_;refine go (cj @w1<|cj @w2<|cj @hM<|cj @hD<|@h3) ?_;simp[Aj,AV,AZ,Aa,V.AP,V.AO,AU,av]
         . rw[if_neg h3];refine en aJ aU ?_;refine Ac ?_;refine BY (ED) Gm ?_;refine gc (cj @h1<|@h2) (Cd) Hh ?_;refine Ac ?_;refine BY (KC) IB ?_;refine go (cj @w1<|cj @w2<|cj @hM<|cj @hD<|cj @h3<|@w3) ?_;refine gc @w3 (hs1) IB ?_;refine gc (cj @w4<|@lU) (Oz) IB ?_;refine Ac ?_;simp[Aj,AV,AZ,Aa,V.AP,V.AO,AU,av]
end Go.Proofs.YtpodcjcajanldaaGreat
