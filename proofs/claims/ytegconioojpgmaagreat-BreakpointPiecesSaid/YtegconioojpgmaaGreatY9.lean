/- Part of the proof of breakpointPieces.proved. Conditions: none. -/
import Derived.Laws.RangeAny
import Derived.Laws.RangeString
import Derived.LoopTactic
import Derived.Laws.Runes
import Derived.Lib.IndexLaws
import Derived.Test.YtegconioojpgmaaGreatY5
import Derived.Test.YtegconioojpgmaaGreatY6
set_option linter.unusedVariables false
set_option linter.unusedSimpArgs false
set_option maxRecDepth 100000
set_option maxHeartbeats 16000000
open Go.Proofs.Tryz renaming prog->AF,results53->ADU,results68->Aix,results37->Ju,results74->ve,func27->AQe,ntmps27->ARJ,results27->ASF,results191->ADH,results146->ARn,func100->L0,func43->eS,ntmps43->AMf,results43->AOK,func99->mw,ntmps99->AG4,results99->Of,results54->vX,results29->AN9,results13->AbU,func22->nF,ntmps22->nS,results22->MO,results16->ANp,func270->Ac6,ntmps270->Aic,func219->AQW,ntmps219->AQ8,results270->ACt
open List renaming take_add_one->UC,length_nil->BO,sizeOf_lt_of_mem->gD,length_eq_one_iff->AMi,replicate->Aq,getElem?_set_ne->HF,contains_iff_mem->mR,range->E6,countP_le_length->AMZ
open Bool renaming not_true->tv,not_false->ly
open SizeOf renaming sizeOf->UF
open Go.Instr renaming next->Xj
open Go.Utf8 renaming decode->g9,encode->iA
open Go.Lib renaming indexByte->EF
open Go.Extern.BytealgIndexByte renaming indexByte->AMT
open ByteArray renaming mk->uB
open Go.IntKind renaming i32->uK
open Go.Region renaming wanted->FB,ready->mr
open Go.Builtin renaming zeroCells->KN
open Nat renaming mul_le_mul->ua,strongRecOn->AC7,lt_of_not_le->AkJ
open Go.Oper renaming upon->Nt
open Option renaming some->J,none->E
open Bool renaming false->U,true->I
open List renaming length->G
namespace Go.Proofs.YtegconioojpgmaaGreat
open Go.RowKit Tryz
variable {b:UInt8}{Q:Exit->Act->World->Prop}{pos:Nat}{P:Program}{R:Act->World->Prop}(s:ByteArray)(r:Int)(w:World)(k:Nat)
@[simp] theorem Aeq:Dk AF 28=J (49,4,32):=by kernel_rfl
structure En where
 text:ByteArray
 cls:Int
 dW:Bool
 str:Bool
def En.row (e:En):List C:=[.str e.text,.int .i64 e.cls,.bool e.dW,.bool e.str]
def En.vs (e:En):List V:=e.row.map V.c
def WH (e:En):V:=.agg e.vs
def Cc (l:List En):C:=.sl (l.map En.row)
section
variable (b:En)
@[simp] theorem En.Xf:G b.vs=4:=F
@[simp] theorem En.ACP:b.vs.all V.one=true:=F
@[simp] theorem En.ACR:b.vs.take 4=b.vs:=F
@[simp] theorem En.ACN:b.vs[0]?=J (.c (.str b.text)):=F
@[simp] theorem En.ACG (h:0<G b.vs):b.vs[0]'h=.c (.str b.text):=F
@[simp] theorem En.AL7:b.vs[1]?=J (.c (.int .i64 b.cls)):=F
@[simp] theorem En.AL5 (h:1<G b.vs):b.vs[1]'h=.c (.int .i64 b.cls):=F
@[simp] theorem En.tX:V.CF b.vs=J b.vs:=Zq b.row
@[simp] theorem En.ACS:toCs b.vs=J b.row:=toCs_c b.row
@[simp] theorem En.AL9 (cs:List V)(h:G cs=4):E8 cs 0 b.vs=b.vs:=kz (by simp[h])
@[simp] theorem En.Nk:G b.row=4:=F
@[simp] theorem En.ABb:b.row.map V.c=b.vs:=F
@[simp] theorem En.AKV:b.row.take 4=b.row:=F
@[simp] theorem En.AXz:b.row[0]?=J (.str b.text):=F
@[simp] theorem En.AX0:b.row[1]?=J (.int .i64 b.cls):=F
@[simp] theorem En.tW (n:Nat):V.BI n b.vs=true:=F
@[simp] theorem En.ACQ (row:List C):V.Cs k row b.vs=b.vs:=F
end
def fR (c:Int):Bool:=decide (33<=c/\c<=126)
def En.ok (e:En):Bool:=FC fR e.text && (decide (1<=e.text.size) && (decide (e.text.size<=16) && (decide (0<=e.cls) && decide (e.cls<=7))))
def ja (l:List En)(t:ByteArray):Bool:=l.any λe=>decide (e.text=t)
def WQ:List En->List En->Bool
 | _,[]=>I
 | pre,e::r=>e.ok && (!ja pre e.text && WQ (pre++[e]) r)
def Ll (l:List En):Bool:=WQ [] l && decide (G l<=200)
def He (l:List En)(t:ByteArray):En:=match l with
 | []=>⟨t,0,U,U⟩
 | e::r=>if e.text=t then e else He r t
def Mn:List En->ByteArray->Int
 | [],_=> -1
 | e::r,t=>if e.text=t then 0 else if Mn r t= -1 then -1 else Mn r t+1
theorem AAF : ∀(l:List En) (t:ByteArray),(Mn l t= -1/\He l t=⟨t,0,U,U⟩)\/∃k:Nat,Mn l t=k/\l[k]?=J (He l t)
 | [],t=>.inl ⟨rfl,rfl⟩
 | e::r,t=>by
   simp only[Mn,He];by_cases h:e.text=t;rw[Awd h,Awd h];exact .inr ⟨0,rfl,rfl⟩;rw[Awf h,Awf h];rcases AAF r t with ⟨B,M⟩|⟨k,B,M⟩
   rw[Awd B];exact .inl ⟨rfl,M⟩;rw[B,Awf Ux];exact .inr ⟨k+1,Ux,by simpa using M⟩
theorem AHq : ∀(l:List En) (t:ByteArray) (k:Nat),(∀(j:Nat) (e:En),j<k->l[j]?=J e->¬e.text=t)->Mn l t=if Mn (l.drop k) t= -1 then -1 else Mn (l.drop k) t+k
 | l,t,0,_=>by simp only[B9];split<;>omega
 | [],t,k+1,_=>by simp[Mn]
 | e::r,t,k+1,h=>by
   have B : ¬e.text=t:=h 0 e Ux F;have ih:=AHq r t k (λj x hj S=>h (j+1) x Ux (by simpa using S));simp only[Mn,Awf B,CU];rw[ih];split;simp;rename_i q;have z : -1<=Mn (r.drop k) t:=by
    rcases AAF (r.drop k) t with ⟨M,_⟩|⟨n,M,_⟩<;>omega
   rw[Awf Ux];omega
theorem AV8 (e:En)(hs:e.text.size<=maxLen):AC AF 53 [WH e] (.c (.bool e.ok)):=by
 unfold maxLen at hs;obtain⟨s,S⟩:=AI e.text;obtain⟨cl,DK⟩:=AI e.cls;unfold WH En.ok;rw[S,DK];rw[S]at hs;refine en func53 ntmps53 ?_;refine wy (cj @S<|ADU) trivial ⟨?_⟩;refine CX (ι:={ k:Nat // k<=s.size/\FC fR s=(s.data.toList.drop k).all λb=>fR b.toNat }) (λk=>[(2,.c (.bool U)),(3,(k.1:Int))]) (λ_=>[.box 49 e.vs U]) (λk=>s.size - k.1) ⟨0,by simp[FC]⟩ ?_ ?_;exact DH;rintro ⟨k,hk,M⟩;simp only;by_cases B:k<s.size;obtain⟨b,hb,CT,hd,z,_⟩:=bS B;rw[hd,Ep]at M;obtain⟨c,hc⟩:∃c:Int,(b.toNat:Int)=c:=⟨_,rfl⟩
 rw[hc]at M;cases q:fR c with
 | true=>rw[q,Cd]at M;simp[fR]at q;refine wy (cj @S<|cj @B<|cj @z<|cj @hb<|cj @CT<|cj @hc<|cj (q.1)<|cj (q.2)<|ADU) trivial ⟨?_⟩;exact⟨⟨k+1,Ux,M⟩,by simp only;omega,wd 1⟩
 | false=>rw[q,D4]at M;simp[fR]at q;rw[M,D4];exact wz (cj6 @S @B @z @hb @CT @hc ADU) W
 rw[ij B,Nq]at M;rw[M,Cd];have z : ¬(k:Int)<(s.size:Int):=Ux;have e1:((s.size:Int)<=16)=(s.size<=16):=by rw[Awm];omega
 have e2:((1:Int)<=(s.size:Int))=(1<=s.size):=by rw[Awm];omega
 exact wz (cj6 @S @DK @B @z @e1 @e2 ADU) W
theorem AnF (e:En)(hs:e.text.size<=maxLen):AC AF 68 [WH e] (.c (.bool e.ok)):=by
 unfold maxLen at hs;obtain⟨s,S⟩:=AI e.text;obtain⟨cl,DK⟩:=AI e.cls;unfold WH En.ok;rw[S,DK];rw[S]at hs;refine en func68 ntmps68 ?_;refine wy (cj @S<|Aix) trivial ⟨?_⟩;refine CX (ι:={ k:Nat // k<=s.size/\FC fR s=(s.data.toList.drop k).all λb=>fR b.toNat }) (λk=>[(2,.c (.bool U)),(3,(k.1:Int))]) (λ_=>[.box 49 e.vs U]) (λk=>s.size - k.1) ⟨0,by simp[FC]⟩ ?_ ?_;exact DH;rintro ⟨k,hk,M⟩;simp only;by_cases B:k<s.size;obtain⟨b,hb,CT,hd,z,_⟩:=bS B;rw[hd,Ep]at M;obtain⟨c,hc⟩:∃c:Int,(b.toNat:Int)=c:=⟨_,rfl⟩
 rw[hc]at M;cases q:fR c with
 | true=>rw[q,Cd]at M;simp[fR]at q;refine wy (cj @S<|cj @B<|cj @z<|cj @hb<|cj @CT<|cj @hc<|cj (q.1)<|cj (q.2)<|Aix) trivial ⟨?_⟩;exact⟨⟨k+1,Ux,M⟩,by simp only;omega,wd 1⟩
 | false=>rw[q,D4]at M;simp[fR]at q;rw[M,D4];exact wz (cj6 @S @B @z @hb @CT @hc Aix) W
 rw[ij B,Nq]at M;rw[M,Cd];have z : ¬(k:Int)<(s.size:Int):=Ux;have e1:((s.size:Int)<=16)=(s.size<=16):=by rw[Awm];omega
 have e2:((1:Int)<=(s.size:Int))=(1<=s.size):=by rw[Awm];omega
 exact wz (cj6 @S @DK @B @z @e1 @e2 Aix) W
theorem Aim (l:List En)(t:ByteArray):ja l t=U↔∀(j:Nat) (e:En),l[j]?=J e->¬e.text=t:=by
 unfold ja;rw[List.any_eq_false];constructor;intro h j e B;simpa using h e (Cj B);intro h e B;obtain⟨j,M⟩:=List.getElem?_of_mem B;simpa using h j e M
theorem Ajw (l:List En)(hl:G l<=1000000)(hs : ∀e∈l,e.text.size<=maxLen):AC AF 37 [.c (Cc l)] (.c (.bool (Ll l))):=by
 obtain⟨rs,Aw⟩:=AI (l.map En.row);have z:G rs=G l:=by rw[<-Aw,Ch]
 unfold Cc Ll;rw[Aw];refine en func37 ntmps37 ?_;refine wy (cj @z<|Ju) trivial ⟨?_⟩;refine CX (ι:={ k:Nat // k<=G l/\WQ [] l=WQ (l.take k) (l.drop k) }) (λk=>[(2,.c (.bool U)),(3,(k.1:Int))]) (λ_=>[]) (λk=>G l - k.1) ⟨0,ZA⟩ ?_ ?_;exact DH;rintro ⟨k,hk,M⟩;simp only;by_cases B:k<G l;obtain⟨e,he⟩:∃e,l[k]?=J e:=⟨_,BE B⟩
 have A9:rs[k]?=J e.row:=by rw[<-Aw,CM,he];rfl
 have Dp:k<G rs:=Ux;have Bu:=gx A9;rw[D5 B,gx he]at M;simp only[WQ]at M;have hp:=AnF e (hs e (Cj he));unfold WH at hp;have GP:l.take k++[e]=l.take (k+1):=by rw[UC,he];rfl
 rw[GP]at M;cases ho:e.ok with
 | false=>rw[ho]at hp M;rw[M,D4,D4];exact wz (cj5 @z @B @Dp @A9 @Bu Ju) (cj hp<|trivial)
 | true =>
   rw[ho]at hp M;rw[Cd]at M;refine wy (cj5 @z @B @Dp @A9 @Bu Ju) (cj hp<|trivial) ⟨?_⟩;refine CX (ι:={ j:Nat // j<=k/\∀(i:Nat) (x:En),i<j->l[i]?=J x->¬x.text=e.text }) (λj=>[(2,.c (.bool U)),(4,(j.1:Int))]) (λ_=>[]) (λj=>k - j.1) ⟨0,ZA⟩ ?_ ?_;exact DH;rintro ⟨j,hj,hJ⟩;simp only;by_cases S:j<k;obtain⟨x,q⟩:∃x,l[j]?=J x:=⟨_,BE Ux⟩
   have Rx:rs[j]?=J x.row:=by rw[<-Aw,CM,q];rfl
   have A0:j<G rs:=Ux;have A1:=gx Rx;by_cases hq:x.text=e.text;have hT:ja (l.take k) e.text=true:=by
    cases hc:ja (l.take k) e.text with
    | true=>rfl
    | false=>exact absurd hq ((Aim _ _).1 hc j x (by rw[KO,Awd S];exact q))
   rw[hT,tv,D4]at M;rw[M,D4];exact wz (cj9 @z @B @Dp @A9 @Bu @S @A0 @Rx @A1<|cj @hq Ju) W;refine wy (cj9 @z @B @Dp @A9 @Bu @S @A0 @Rx @A1<|cj @hq Ju) trivial ⟨?_⟩;refine⟨⟨j+1,Ux,λi y hi hy=>?_⟩,by simp only;omega,wd 0⟩;by_cases e':i=j;subst e';rw[q]at hy;cases hy;exact hq;exact hJ i y Ux hy;have hT:ja (l.take k) e.text=false:=(Aim _ _).2 λi x q=>by
    rw[KO]at q;split at q;exact hJ i x Ux q;cases q
   rw[hT,ly,Cd]at M;refine wy (cj @S<|Ju) trivial ⟨?_⟩;exact⟨⟨k+1,Ux,M⟩,by simp only;omega,wd 0⟩
 rw[FA Ux]at M;simp only[WQ]at M;rw[M,Cd];have e1:((G l:Int)<=200)=(G l<=200):=by rw[Awm];omega
 exact wz (cj3 @z @B @e1 Ju) W
theorem AXe (l:List En)(t:ByteArray)(hl:G l<=1000000):AC AF 74 [.c (Cc l),.c (.str t)] (WH (He l t)):=by
 obtain⟨rs,Aw⟩:=AI (l.map En.row);have S:G rs=G l:=by rw[<-Aw,Ch]
 obtain⟨R,hR⟩:=AI (He l t);unfold Cc WH;rw[Aw,hR];refine en func74 ntmps74 ?_;refine wy (cj @S<|ve) trivial ⟨?_⟩;refine CX (ι:={ k:Nat // k<=G l/\R=He (l.drop k) t }) (λk=>[(5,(k.1:Int))]) (λ_=>[.box 49 [.c (.str ⟨#[]⟩),(0:Int),.c (.bool U),.c (.bool U)] U]) (λk=>G l - k.1) ⟨0,by simp[hR]⟩ ?_ ?_;exact DH;rintro ⟨k,hk,M⟩;simp only;by_cases B:k<G l;obtain⟨e,he⟩:∃e,l[k]?=J e:=⟨_,BE B⟩
 have z:rs[k]?=J e.row:=by rw[<-Aw,CM,he];rfl
 have Dp:k<G rs:=Ux;have Bu:=gx z;rw[D5 B,gx he]at M;simp only[He]at M;by_cases q:e.text=t;rw[Awd q]at M;exact wz (cj6 @S @B @Dp @z @Bu @q ve) W;rw[Awf q]at M;refine wy (cj6 @S @B @Dp @z @Bu @q ve) trivial ⟨?_⟩;exact⟨⟨k+1,Ux,M⟩,by simp only;omega,wd 1⟩;rw[FA Ux]at M;simp only[He]at M;subst M;exact wz (cj4 @S @B @En.vs.eq_1 @En.row.eq_1 ve) W
def SE (l:List En)(k:Nat):ByteArray->Bool:=ja (l.take k)
theorem ATp (l:List En):SE l 0=λ_=>false:=by funext s;simp[SE,ja]
theorem ATq (l:List En)(k:Nat)(e:En)(h:l[k]?=J e):Z6 (SE l k) e.text=SE l (k+1):=by
 funext s;unfold Z6 SE;rw[UC,h];simp only[Option.toList_some,ja,List.any_append,List.any_cons,List.any_nil,lz];rw[Bool.or_comm];congr 1
 simp only[Awi];exact eq_comm
theorem sM (l:List En)(hl:G l<=1000000)(hs : ∀e∈l,e.text.size<=maxLen):AC AF 27 [.c (Cc l)] (.c (.bool (Ll l))):=by
 obtain⟨rs,Aw⟩:=AI (l.map En.row);have q:G rs=G l:=by rw[<-Aw,Ch]
 unfold Cc Ll;rw[Aw];by_cases z:G l<=200
 . rw[Awk z,Km];have e1 : ¬(200:Int)<(G l:Int):=Ux;refine en AQe ARJ ?_;refine wu (.mk 3) (cj2 @q @e1 ASF) trivial ⟨?_⟩;refine AW.DA ?_;refine CY (.mk 2) @q ?_;refine SW.Tq (.mp 0) (J (0,.mp (Kt 0 (SE l 0)))) (λk ob e=>by cases e;exact BN _) rfl (λS0 w0 x a w g ht=>?_) ?_;rw[ATp];exact AVJ g rfl (CW ht (.tmp 10)) 0 (λhd=>by obtain⟨o,ho⟩:=g.dom 0 hd;simp at ho);simp only[St.step,St.put,Bk,BO,BU,IY,Awh,Ai,Ag];refine CY (.mk 1) trivial ?_;refine SW.nil ?_;refine wy (cj @q<|ASF) trivial ⟨?_⟩;refine CX (ι:={ k:Nat // k<=G l/\WQ [] l=WQ (l.take k) (l.drop k) }) (λk=>[(2,.c (.bool U)),(14,(k.1:Int))]) (λk=>[.mp (Kt k.1 (SE l k.1))]) (λk=>G l - k.1) ⟨0,ZA⟩ ?_ ?_;exact DH
   . rintro ⟨k,hk,M⟩;simp only;by_cases S:k<G l
     . obtain⟨e,he⟩:∃e,l[k]?=J e:=⟨_,BE S⟩
       have A9:rs[k]?=J e.row:=by rw[<-Aw,CM,he];rfl
       have Dp:k<G rs:=Ux;have Bu:=gx A9;rw[D5 S,gx he]at M;simp only[WQ]at M;have hp:=AV8 e (hs e (Cj he));unfold WH at hp;have GP:l.take k++[e]=l.take (k+1):=by rw[UC,he];rfl
       have TU:=ATq l k e he;have A0:SE l k e.text=ja (l.take k) e.text:=F;rw[GP,<-A0]at M;cases ho:e.ok with
       | false=>rw[ho]at hp M;rw[D4]at M;rw[M];exact wz (cj5 @q @S @Dp @A9 @Bu ASF) (cj hp<|trivial)
       | true =>
         rw[ho]at hp M;rw[Cd]at M;refine wu (.mk 7) (cj5 @q @S @Dp @A9 @Bu ASF) trivial ⟨?_⟩;refine AW.DA ?_;refine SW.take 2 (AH.out ?_);simp only[DP,ET];have ff:=(cj @q<|ASF)
         repeat any_goals (first|refine Eo ?_|exact Bt ff|refine De ff ?_|refine BV ff (hp) ?_|refine DI ff ?_)
         simp only[CU,B9];refine CY (.mk 5) trivial ?_;refine SW.Tq (.c (.bool (SE l k e.text))) E (λ_ _ e=>nomatch e) (by simp[BQ]) (λS0 w0 x a w g ht=>?_) ?_;exact AVF g rfl (CW ht (.tmp 22)) (CW ht (.tmp 24)) F;simp only[St.step,St.put,Bk,Ai,Ag];generalize hB:SE l k e.text=B at M ⊢;refine CY (.mk 1) trivial ?_;refine SW.nil ?_;cases B with
         | true=>rw[tv,D4]at M;rw[M];exact wz ASF W
         | false =>
           rw[ly,Cd]at M;refine wu (.mk 9) ASF trivial ⟨?_⟩;refine AW.DA ?_;refine CY (.mk 3) trivial ?_;refine SW.Tq .any (J (0,.mp (Kt (k+1) (SE l (k+1))))) (λk ob e=>by cases e;exact CI _) rfl (λS0 w0 x a w g ht=>?_) ?_;rw[<-TU];exact AVH g rfl (CW ht (.tmp 27)) (CW ht (.tmp 29)) rfl rfl (by unfold maxLen;omega);simp only[St.step,St.put,Bk,BA,BO,Nat.reduceAdd,Nat.reduceLT,Awg,Ai,Ag];refine SW.nil ?_;refine wy ASF trivial ⟨?_⟩;exact⟨⟨k+1,Ux,M⟩,by simp only;omega,wd 1⟩
     rw[FA Ux]at M;simp only[WQ]at M;rw[M];exact wz (cj2 @q @S ASF) W
 rw[Awl z,LV];have e1:(200:Int)<(G l:Int):=Ux;refine en AQe ARJ ?_;exact wz (cj2 @q @e1 ASF) W
theorem AWI (e:En)(t:ByteArray):AC AF 192 [.agg e.vs,.cp [.str t] 0] (.c (.bool (decide (e.text=t)))):=by
 refine en func192 ntmps192 ?_;exact wz results192 W
theorem AWJ (l:List En)(t:ByteArray)(hl:G l<=1000000):AC AF 191 [.c (Cc l),.fn 192 [.cp [.str t] 0]] (Mn l t:Int):=by
 obtain⟨rs,Aw⟩:=AI (l.map En.row);have S:G rs=G l:=by rw[<-Aw,Ch]
 obtain⟨R,hR⟩:=AI (Mn l t);unfold Cc;rw[Aw,hR];refine en func191 ntmps191 ?_;refine wy (cj @S<|ADH) trivial ⟨?_⟩;refine CX (ι:={ k:Nat // k<=G l/\∀(i:Nat) (x:En),i<k->l[i]?=J x->¬x.text=t }) (λk=>[(4,(0:Int)),(8,(k.1:Int))]) (λ_=>[]) (λk=>G l - k.1) ⟨0,ZA⟩ ?_ ?_;exact DH;rintro ⟨k,hk,hI⟩;simp only;have M:=AHq l t k hI;rw[hR]at M;by_cases B:k<G l;obtain⟨e,he⟩:∃e,l[k]?=J e:=⟨_,BE B⟩
 have A9:rs[k]?=J e.row:=by rw[<-Aw,CM,he];rfl
 have Dp:k<G rs:=Ux;have Bu:=gx A9;have q:=AWI e t;rw[D5 B,gx he]at M;by_cases z:e.text=t;rw[Awk z]at q;have Uw:R=(k:Int):=by simpa [Mn,z]using M
 rw[Uw];clear M Uw hR;exact wz (cj5 @S @B @Dp @A9 @Bu ADH) (cj q<|trivial);rw[Awl z]at q;refine wy (cj5 @S @B @Dp @A9 @Bu ADH) (cj q<|trivial) ⟨?_⟩;refine⟨⟨k+1,Ux,λi x hi hx=>?_⟩,by simp only;omega,wd 0⟩;by_cases e':i=k;subst e';rw[he]at hx;cases hx;exact z;exact hI i x Ux hx;rw[FA Ux]at M;simp only[Mn]at M;rw[Awd trivial]at M;exact wz (cj3 @S @B @M ADH) W
theorem AWK (l:List En)(t:ByteArray)(B:G l<=1000000):AC AF 146 [.c (Cc l),.c (.str t)] (Mn l t:Int):=by
 have h:=AWJ l t B;refine en func146 ntmps146 ?_;refine wu (.mk 1) ARn trivial ⟨?_⟩;refine Cn 0 ?_;exact wz ARn (cj h<|trivial)
theorem AA8 (l:List En)(t:ByteArray)(hl:G l<=1000000):AC AF 100 [.c (Cc l),.c (.str t)] (WH (He l t)):=by
 have h:=AWK l t hl;obtain⟨z,M⟩:=AI (l.map En.row);have Av:G z=G l:=by rw[<-M,Ch]
 unfold Cc at *
 rw[M]at h ⊢;unfold WH;rcases AAF l t with ⟨S,B⟩|⟨k,S,B⟩
 rw[S]at h;rw[B];simp only[En.vs,En.row,Ap,BB];refine en L0 ntmps100 ?_;exact wz results100 (cj h<|trivial);rw[S]at h;generalize hR:He l t=R at B ⊢;have q:k<G l:=(Br.1 B).1;have A9:z[k]?=J R.row:=by rw[<-M,CM,B];rfl
 have Dp:k<G z:=Ux;have Bu:=gx A9;have h0:(0:Int)<=(k:Int):=Ux;refine en L0 ntmps100 ?_;exact wz (cj6 @Av @q @Dp @A9 @Bu @h0 results100) (cj h<|trivial)
def N5 (l:List En):Nd->Int
 | ⟨k,t,_,AE⟩ =>
   if k=2 then(He l t).cls
   else if k=7\/k=8\/k=9 then(match AE with
    | ⟨_,_,_,[x]⟩::_=>N5 l x
    | _=>0)
   else if k=5\/k=11\/k=12 then 7 else 0
 termination_by b=>UF b
def bg (l:List En):List Nd->Int
 | b::_=>match b.AE with
   | [x]=>N5 l x
   | _=>0
 | []=>0
theorem AEu (l:List En)(b:Nd):N5 l b=if b.kind=2 then(He l b.text).cls else if b.kind=7\/b.kind=8\/b.kind=9 then bg l b.AE else if b.kind=5\/b.kind=11\/b.kind=12 then 7 else 0:=by
 obtain⟨k,t,c,AE⟩:=b;unfold N5;have e:(match AE with
  | ⟨_,_,_,[x]⟩::_=>N5 l x
  | _=>0)=bg l AE:=by
  match AE with
  | []=>rfl
  | ⟨_,_,_,[]⟩::_=>rfl
  | ⟨_,_,_,[x]⟩::_=>rfl
  | ⟨_,_,_,x::y::r⟩::_=>rfl
 rw[e]
theorem AUf {Q:Nd->Prop}(h : ∀b:Nd,(∀k∈b.AE,∀j∈k.AE,Q j)->Q b):∀b:Nd,Q b:=by
 have : ∀(n:Nat) (b:Nd),UF b<n->Q b:=by
  intro n;induction n with
  | zero=>intro b B;omega
  | succ n ih =>
    intro b B;refine h b λk z j q=>ih j ?_
    have M:=gD z;have S:=gD q;cases b;cases k;simp only[Nd.mk.sizeOf_spec]at B M S;omega
 exact λb=>this _ b (Nat.lt_succ_self _)
theorem AOR (l:List En):bg l []=0:=F
theorem AOS (l:List En)(b x:Nd)(r:List Nd)(h:b.AE=[x]):bg l (b::r)=N5 l x:=by
 show (match b.AE with | [x]=>N5 l x|_=>0)=_;rw[h]
theorem AOT (l:List En)(b:Nd)(r:List Nd)(h : ¬G b.AE=1):bg l (b::r)=0:=by
 show (match b.AE with | [x]=>N5 l x|_=>0)=_;match B:b.AE with
 | []=>rfl
 | [x]=>rw[B]at h;exact absurd rfl h
 | x::y::q=>rfl
theorem Amk (l:List En)(hl:G l<=1000000):∀b:Nd,b.BX->AC AF 43 [.c (Cc l),Am b] (N5 l b:Int):=AUf λb ih A5=>by
 obtain⟨_,A1,rA⟩:=kf b A5;have HM:=AXe l b.text hl;have Mi:=Pc b.AE;rw[AEu];unfold Am at *
 unfold WH at HM;generalize hR:He l b.text=R at HM ⊢;obtain⟨k,q⟩:=AI b.kind;rw[q];by_cases k2:k=2
 . rw[Awd k2];refine en eS AMf ?_;have B:=(cj2 @q @k2 AOK)
   have M:=(cj HM<|trivial)
   repeat any_goals (first|refine Du B M ⟨?_⟩|exact Bt B|(refine Dv B ?_ ?_<;>intro h<;>try exact Dw))
 rw[Awf k2];by_cases k7:k=7\/k=8\/k=9
 . rw[Awd k7];have EC : ∀(n:Int),(n=7\/n=8\/n=9)->k=n->AC AF 43 [.c (Cc l),.agg b.vs] (bg l b.AE:Int):=by
    intro n S Ej;subst Ej;obtain⟨rs,Aw⟩:=AI (Nd.AG b.AE);rw[Aw]at Mi;cases TU:b.AE with
    | nil =>
      rw[TU]at Mi;have e0:rs=[]:=Nr Mi;rw[AOR];rw[e0]at Aw;clear ih HM;refine en eS AMf ?_;rcases S with S|S|S
      . have B:=(cj3 @q @S @Aw AOK)
        have M:=W;repeat any_goals (first|refine Du B M ⟨?_⟩|exact Bt B|(refine Dv B ?_ ?_<;>intro h<;>try exact Dw))
      . have B:=(cj3 @q @S @Aw AOK)
        have M:=W;repeat any_goals (first|refine Du B M ⟨?_⟩|exact Bt B|(refine Dv B ?_ ?_<;>intro h<;>try exact Dw))
      . have B:=(cj3 @q @S @Aw AOK)
        have M:=W;repeat any_goals (first|refine Du B M ⟨?_⟩|exact Bt B|(refine Dv B ?_ ?_<;>intro h<;>try exact Dw))
    | cons kd r =>
      rw[TU]at Mi rA;have Jh:rs[0]?=J kd.row:=by rw[<-Aw,TU];rfl
      have Rv:=gx Jh;have z:0<G rs:=by rw[Mi];simp
      have A0:kd.BX:=rA.1;have EX:=Pc kd.AE;obtain⟨ei,Ry⟩:=AI (Nd.AG kd.AE);rw[Ry]at EX;have cz:(0:Int)<(G rs:Int):=Ux;by_cases h1:G kd.AE=1
      . obtain⟨x,hx⟩:∃x,kd.AE=[x]:=AMi.1 h1;rw[AOS l kd x r hx];have G9:ei[0]?=J x.row:=by rw[<-Ry,hx];rfl
        have Wp:=gx G9;have OG:0<G ei:=Ux;have U3:G ei=1:=Ux;have FN:=ih kd (by rw[TU];exact GH) x (by rw[hx];exact GH) (di (kf kd A0).2.2 x (by rw[hx];exact GH));clear ih HM;refine en eS AMf ?_;rcases S with S|S|S
        . have B:=(cj9 @q @S @Aw @Jh @Rv @z @cz @Ry @G9<|cj3 @Wp @OG @U3 AOK)
          have M:=(cj FN<|trivial)
          repeat any_goals (first|refine Du B M ⟨?_⟩|exact Bt B|(refine Dv B ?_ ?_<;>intro h<;>try exact Dw))
        . have B:=(cj9 @q @S @Aw @Jh @Rv @z @cz @Ry @G9<|cj3 @Wp @OG @U3 AOK)
          have M:=(cj FN<|trivial)
          repeat any_goals (first|refine Du B M ⟨?_⟩|exact Bt B|(refine Dv B ?_ ?_<;>intro h<;>try exact Dw))
        . have B:=(cj9 @q @S @Aw @Jh @Rv @z @cz @Ry @G9<|cj3 @Wp @OG @U3 AOK)
          have M:=(cj FN<|trivial)
          repeat any_goals (first|refine Du B M ⟨?_⟩|exact Bt B|(refine Dv B ?_ ?_<;>intro h<;>try exact Dw))
      . rw[AOT l kd r h1];have U3 : ¬G ei=1:=Ux;have zP : ¬(G ei:Int)=1:=Ux;clear ih HM;refine en eS AMf ?_;rcases S with S|S|S
        . have B:=(cj9 @q @S @Aw @Jh @Rv @z @cz @Ry @U3<|cj @zP AOK)
          have M:=W;repeat any_goals (first|refine Du B M ⟨?_⟩|exact Bt B|(refine Dv B ?_ ?_<;>intro h<;>try exact Dw))
        . have B:=(cj9 @q @S @Aw @Jh @Rv @z @cz @Ry @U3<|cj @zP AOK)
          have M:=W;repeat any_goals (first|refine Du B M ⟨?_⟩|exact Bt B|(refine Dv B ?_ ?_<;>intro h<;>try exact Dw))
        . have B:=(cj9 @q @S @Aw @Jh @Rv @z @cz @Ry @U3<|cj @zP AOK)
          have M:=W;repeat any_goals (first|refine Du B M ⟨?_⟩|exact Bt B|(refine Dv B ?_ ?_<;>intro h<;>try exact Dw))
   exact EC k k7 F
 rw[Awf k7];simp only[not_or]at k7;obtain⟨x1,x2,x3⟩:=k7;by_cases k5:k=5\/k=11\/k=12
 . rw[Awd k5];refine en eS AMf ?_;rcases k5 with k5|k5|k5
   . have B:=(cj2 @q @k5 AOK)
     have M:=W;repeat any_goals (first|refine Du B M ⟨?_⟩|exact Bt B|(refine Dv B ?_ ?_<;>intro h<;>try exact Dw))
   . have B:=(cj2 @q @k5 AOK)
     have M:=W;repeat any_goals (first|refine Du B M ⟨?_⟩|exact Bt B|(refine Dv B ?_ ?_<;>intro h<;>try exact Dw))
   . have B:=(cj2 @q @k5 AOK)
     have M:=W;repeat any_goals (first|refine Du B M ⟨?_⟩|exact Bt B|(refine Dv B ?_ ?_<;>intro h<;>try exact Dw))
 . rw[Awf k5];simp only[not_or]at k5;obtain⟨y1,y2,y3⟩:=k5;refine en eS AMf ?_;have B:=(cj8 @q @k2 @x1 @x2 @x3 @y1 @y2 @y3 AOK)
   have M:=W;repeat any_goals (first|refine Du B M ⟨?_⟩|exact Bt B|(refine Dv B ?_ ?_<;>intro h<;>try exact Dw))
def XU (l:List En):List V:=[.fn 99 [.cp [Cc l] 0,.ptr 0 0]]
theorem AV5 (l:List En)(hl:G l<=1000000):∀b:Nd,b.BX->AY AF 99 [.cp b.row 0,.cp [Cc l] 0,.ptr 0 0] 140 (XU l) (XU l) (.c (.int .i64 (N5 l b))):=AUf λb ih A5=>by
 obtain⟨_,A1,rA⟩:=kf b A5;have HM:=AA8 l b.text hl;have Mi:=Pc b.AE;rw[AEu];unfold WH at HM;generalize hR:He l b.text=R at HM ⊢;obtain⟨k,hk⟩:=AI b.kind;rw[hk];by_cases k2:k=2
 . rw[Awd k2];unfold XU;refine AY.intro mw rfl ?_;simp only[AG4,Ap,BB,BA,BO,Nat.reduceAdd,Nat.reduceSub,BY,Cy,BK,BU];have B:=(cj2 @hk @k2 Of)
   have M:=(cj HM<|trivial)
   repeat any_goals (first|refine Du B M ⟨?_⟩|exact Bt B|(refine Dv B ?_ ?_<;>intro h<;>try exact Dw))
   simp[GI,DV,C0,DE,V.CP,V.CF,V.Di,V.Dj,CJ,Of]
 rw[Awf k2];by_cases k7:k=7\/k=8\/k=9
 . rw[Awd k7];obtain⟨rs,z⟩:=AI (Nd.AG b.AE);rw[z]at Mi;have pa : ∀(Q:Prop),(k=7->Q)->(k=8->Q)->(k=9->Q)->Q:=λQ a b c=>by rcases k7 with h|h|h;exact a h;exact b h;exact c h
   cases TU:b.AE with
   | nil =>
     rw[TU]at Mi;have e0:rs=[]:=Nr Mi;rw[AOR];rw[e0]at z;clear ih HM;unfold XU;refine AY.intro mw rfl ?_;simp only[AG4,Ap,BB,BA,BO,Nat.reduceAdd,Nat.reduceSub,BY,Cy,BK,BU];refine pa _ (λq=>?_) (λq=>?_) (λq=>?_)
     . have B:=(cj3 @hk @q @z Of)
       have M:=W;repeat any_goals (first|refine Du B M ⟨?_⟩|exact Bt B|(refine Dv B ?_ ?_<;>intro h<;>try exact Dw))
       simp[GI,DV,C0,DE,V.CP,V.CF,V.Di,V.Dj,CJ,Of]
     . have B:=(cj3 @hk @q @z Of)
       have M:=W;repeat any_goals (first|refine Du B M ⟨?_⟩|exact Bt B|(refine Dv B ?_ ?_<;>intro h<;>try exact Dw))
       simp[GI,DV,C0,DE,V.CP,V.CF,V.Di,V.Dj,CJ,Of]
     . have B:=(cj3 @hk @q @z Of)
       have M:=W;repeat any_goals (first|refine Du B M ⟨?_⟩|exact Bt B|(refine Dv B ?_ ?_<;>intro h<;>try exact Dw))
       simp[GI,DV,C0,DE,V.CP,V.CF,V.Di,V.Dj,CJ,Of]
   | cons kd r =>
     rw[TU]at Mi rA;have Jh:rs[0]?=J kd.row:=by rw[<-z,TU];rfl
     have Rv:=gx Jh;have S:0<G rs:=by rw[Mi];simp
     have A0:kd.BX:=rA.1;have EX:=Pc kd.AE;obtain⟨ei,Ry⟩:=AI (Nd.AG kd.AE);rw[Ry]at EX;have cz:(0:Int)<(G rs:Int):=Ux;by_cases h1:G kd.AE=1
     . obtain⟨x,hx⟩:∃x,kd.AE=[x]:=AMi.1 h1;rw[AOS l kd x r hx];have G9:ei[0]?=J x.row:=by rw[<-Ry,hx];rfl
       have Wp:=gx G9;have OG:0<G ei:=Ux;have U3:G ei=1:=Ux;have FN:=ih kd (by rw[TU];exact GH) x (by rw[hx];exact GH) (di (kf kd A0).2.2 x (by rw[hx];exact GH));clear ih HM;unfold XU at *
       refine AY.intro mw rfl ?_;simp only[AG4,Ap,BB,BA,BO,Nat.reduceAdd,Nat.reduceSub,BY,Cy,BK,BU];refine pa _ (λq=>?_) (λq=>?_) (λq=>?_)
       . have B:=(cj9 @hk @q @z @Jh @Rv @S @cz @Ry @G9<|cj3 @Wp @OG @U3 Of)
         repeat any_goals (first|refine Qu (.mk 8) ?_|exact Bt B|refine De B ?_|refine DI B ?_|((first|refine JC B ?_ ?_|refine JE B ?_ ?_|refine JD B ?_ ?_|refine JY B ?_ ?_)<;>intro h<;>try (exfalso;first|omega|contradiction)))
         refine AW.Lm Fz (.inl F) ?_;refine TW.take 9 (Es (by simp[z,Jh,Rv,S,Ry,G9,Wp,OG];first|exact rfl|exact⟨F,F⟩|exact⟨F,F,F⟩) (UZ ?_));simp only[CU,B9];refine TW.V9 0 FN mw ZC ZC (by simp[BQ]) (by simp[C7];first|exact rfl|exact⟨F,F⟩) (by simp[V.Dj,V.Di];try exact rfl) (by rfl) (by rfl) (cs':=[.fn 99 [.cp [Cc l] 0,.ptr 0 0]]) (by rfl) (by rfl) ?_;simp only[St.step,St.put,Bk,BA,BO,Nat.reduceAdd,Nat.reduceLT,Awg,Ai,Ag];refine TW.take 1 (Es (by simp;first|exact rfl|exact⟨F,F⟩|exact⟨F,F,F⟩) (UZ (TW.nil ⟨ZC,?_⟩)));have B:=(Of)
         have M:=W;repeat any_goals (first|refine Du B M ⟨?_⟩|exact Bt B|(refine Dv B ?_ ?_<;>intro h<;>try exact Dw))
         simp[GI,DV,C0,DE,V.CP,V.CF,V.Di,V.Dj,CJ,Of]
       . have B:=(cj9 @hk @q @z @Jh @Rv @S @cz @Ry @G9<|cj3 @Wp @OG @U3 Of)
         repeat any_goals (first|refine Qu (.mk 8) ?_|exact Bt B|refine De B ?_|refine DI B ?_|((first|refine JC B ?_ ?_|refine JE B ?_ ?_|refine JD B ?_ ?_|refine JY B ?_ ?_)<;>intro h<;>try (exfalso;first|omega|contradiction)))
         refine AW.Lm Fz (.inl F) ?_;refine TW.take 9 (Es (by simp[z,Jh,Rv,S,Ry,G9,Wp,OG];first|exact rfl|exact⟨F,F⟩|exact⟨F,F,F⟩) (UZ ?_));simp only[CU,B9];refine TW.V9 0 FN mw ZC ZC (by simp[BQ]) (by simp[C7];first|exact rfl|exact⟨F,F⟩) (by simp[V.Dj,V.Di];try exact rfl) (by rfl) (by rfl) (cs':=[.fn 99 [.cp [Cc l] 0,.ptr 0 0]]) (by rfl) (by rfl) ?_;simp only[St.step,St.put,Bk,BA,BO,Nat.reduceAdd,Nat.reduceLT,Awg,Ai,Ag];refine TW.take 1 (Es (by simp;first|exact rfl|exact⟨F,F⟩|exact⟨F,F,F⟩) (UZ (TW.nil ⟨ZC,?_⟩)));have B:=(Of)
         have M:=W;repeat any_goals (first|refine Du B M ⟨?_⟩|exact Bt B|(refine Dv B ?_ ?_<;>intro h<;>try exact Dw))
         simp[GI,DV,C0,DE,V.CP,V.CF,V.Di,V.Dj,CJ,Of]
       . have B:=(cj9 @hk @q @z @Jh @Rv @S @cz @Ry @G9<|cj3 @Wp @OG @U3 Of)
         repeat any_goals (first|refine Qu (.mk 8) ?_|exact Bt B|refine De B ?_|refine DI B ?_|((first|refine JC B ?_ ?_|refine JE B ?_ ?_|refine JD B ?_ ?_|refine JY B ?_ ?_)<;>intro h<;>try (exfalso;first|omega|contradiction)))
         refine AW.Lm Fz (.inl F) ?_;refine TW.take 9 (Es (by simp[z,Jh,Rv,S,Ry,G9,Wp,OG];first|exact rfl|exact⟨F,F⟩|exact⟨F,F,F⟩) (UZ ?_));simp only[CU,B9];refine TW.V9 0 FN mw ZC ZC (by simp[BQ]) (by simp[C7];first|exact rfl|exact⟨F,F⟩) (by simp[V.Dj,V.Di];try exact rfl) (by rfl) (by rfl) (cs':=[.fn 99 [.cp [Cc l] 0,.ptr 0 0]]) (by rfl) (by rfl) ?_;simp only[St.step,St.put,Bk,BA,BO,Nat.reduceAdd,Nat.reduceLT,Awg,Ai,Ag];refine TW.take 1 (Es (by simp;first|exact rfl|exact⟨F,F⟩|exact⟨F,F,F⟩) (UZ (TW.nil ⟨ZC,?_⟩)));have B:=(Of)
         have M:=W;repeat any_goals (first|refine Du B M ⟨?_⟩|exact Bt B|(refine Dv B ?_ ?_<;>intro h<;>try exact Dw))
         simp[GI,DV,C0,DE,V.CP,V.CF,V.Di,V.Dj,CJ,Of]
     . rw[AOT l kd r h1];have U3 : ¬G ei=1:=Ux;have zP : ¬(G ei:Int)=1:=Ux;clear ih HM;unfold XU;refine AY.intro mw rfl ?_;simp only[AG4,Ap,BB,BA,BO,Nat.reduceAdd,Nat.reduceSub,BY,Cy,BK,BU];refine pa _ (λq=>?_) (λq=>?_) (λq=>?_)
       . have B:=(cj9 @hk @q @z @Jh @Rv @S @cz @Ry @U3<|cj @zP Of)
         have M:=W;repeat any_goals (first|refine Du B M ⟨?_⟩|exact Bt B|(refine Dv B ?_ ?_<;>intro h<;>try exact Dw))
         simp[GI,DV,C0,DE,V.CP,V.CF,V.Di,V.Dj,CJ,Of]
       . have B:=(cj9 @hk @q @z @Jh @Rv @S @cz @Ry @U3<|cj @zP Of)
         have M:=W;repeat any_goals (first|refine Du B M ⟨?_⟩|exact Bt B|(refine Dv B ?_ ?_<;>intro h<;>try exact Dw))
         simp[GI,DV,C0,DE,V.CP,V.CF,V.Di,V.Dj,CJ,Of]
       . have B:=(cj9 @hk @q @z @Jh @Rv @S @cz @Ry @U3<|cj @zP Of)
         have M:=W;repeat any_goals (first|refine Du B M ⟨?_⟩|exact Bt B|(refine Dv B ?_ ?_<;>intro h<;>try exact Dw))
         simp[GI,DV,C0,DE,V.CP,V.CF,V.Di,V.Dj,CJ,Of]
 rw[Awf k7];simp only[not_or]at k7;obtain⟨x1,x2,x3⟩:=k7;unfold XU;clear ih HM;by_cases k5:k=5\/k=11\/k=12
 . rw[Awd k5];refine AY.intro mw rfl ?_;simp only[AG4,Ap,BB,BA,BO,Nat.reduceAdd,Nat.reduceSub,BY,Cy,BK,BU];rcases k5 with k5|k5|k5
   . have B:=(cj2 @hk @k5 Of)
     have M:=W;repeat any_goals (first|refine Du B M ⟨?_⟩|exact Bt B|(refine Dv B ?_ ?_<;>intro h<;>try exact Dw))
     simp[GI,DV,C0,DE,V.CP,V.CF,V.Di,V.Dj,CJ,Of]
   . have B:=(cj2 @hk @k5 Of)
     have M:=W;repeat any_goals (first|refine Du B M ⟨?_⟩|exact Bt B|(refine Dv B ?_ ?_<;>intro h<;>try exact Dw))
     simp[GI,DV,C0,DE,V.CP,V.CF,V.Di,V.Dj,CJ,Of]
   . have B:=(cj2 @hk @k5 Of)
     have M:=W;repeat any_goals (first|refine Du B M ⟨?_⟩|exact Bt B|(refine Dv B ?_ ?_<;>intro h<;>try exact Dw))
     simp[GI,DV,C0,DE,V.CP,V.CF,V.Di,V.Dj,CJ,Of]
 . rw[Awf k5];simp only[not_or]at k5;obtain⟨y1,y2,y3⟩:=k5;refine AY.intro mw rfl ?_;simp only[AG4,Ap,BB,BA,BO,Nat.reduceAdd,Nat.reduceSub,BY,Cy,BK,BU];have B:=(cj8 @hk @k2 @x1 @x2 @x3 @y1 @y2 @y3 Of)
   have M:=W;repeat any_goals (first|refine Du B M ⟨?_⟩|exact Bt B|(refine Dv B ?_ ?_<;>intro h<;>try exact Dw))
   simp[GI,DV,C0,DE,V.CP,V.CF,V.Di,V.Dj,CJ,Of]
theorem AV6 (l:List En)(z:G l<=1000000)(b:Nd)(S:b.BX):AC AF 54 [.c (Cc l),Am b] (N5 l b:Int):=by
 have M:=AV5 l z b S;unfold Am;unfold XU at M;refine en func54 ntmps54 ?_;have B:=(vX)
 repeat any_goals (first|refine Qu (.mk 1) ?_|exact Bt B|refine De B ?_|refine DI B ?_|((first|refine JC B ?_ ?_|refine JE B ?_ ?_|refine JD B ?_ ?_|refine JY B ?_ ?_)<;>intro h<;>try (exfalso;first|omega|contradiction)))
 refine Cn 0 ?_;refine Cn 1 ?_;have B:=(vX)
 repeat any_goals (first|refine Qu (.mk 3) ?_|exact Bt B|refine De B ?_|refine DI B ?_|((first|refine JC B ?_ ?_|refine JE B ?_ ?_|refine JD B ?_ ?_|refine JY B ?_ ?_)<;>intro h<;>try (exfalso;first|omega|contradiction)))
 refine AW.DA ?_;refine CY (.mk 1) trivial ?_;refine SW.V9 2 M mw ZC ZC (by simp[BQ]) (by simp[C7];first|exact rfl|exact⟨F,F⟩) (by simp[V.Dj,V.Di];try exact rfl) (by rfl) (by rfl) (cs':=[.fn 99 [.cp [Cc l] 0,.ptr 2 0]]) (by rfl) (by rfl) ?_;simp only[St.step,St.put,Bk,BA,BO,Nat.reduceAdd,Nat.reduceLT,Awg,Ai,Ag];refine CY (.mk 1) trivial ?_;refine SW.nil ?_;have B:=(vX)
 have q:=W;repeat any_goals (first|refine Du B q ⟨?_⟩|exact Bt B|(refine Dv B ?_ ?_<;>intro h<;>try exact Dw))
def JP (d:List En)(l:List Nd):List Int:=l.map (N5 d)
theorem Zh (d:List En)(l:List Nd):G (JP d l)=G l:=by simp[JP]
theorem AJU (d:List En)(l:List Nd)(hd:G d<=1000000)(hl:G l<=1000000)(A5:Nd.FY l):AC AF 29 [.c (Cc d),.c (.sl (Nd.AG l))] (.c (AV (I6 (JP d l)))):=by
 obtain⟨rs,Aw⟩:=AI (Nd.AG l);have Av:G rs=G l:=by rw[<-Aw];exact Pc l
 obtain⟨own,A0⟩:=AI (JP d l);obtain⟨n,hn⟩:=AI (G l);have B0:G own=n:=by rw[<-A0,Zh,hn]
 have A2:=AV6 d hd;rw[Aw,A0];rw[hn]at Av hl;refine en func29 ntmps29 ?_;refine wy (cj @Av<|AN9) trivial ⟨?_⟩;rw[show Aq n (V.c (C.int .i64 0))=CK (Aq n 0)by simp[CK]];refine CX (ι:={ k:Nat // k<=n }) (λk=>[(14,(k.1:Int))]) (λk=>[.box 3 (CK (K8 (own.take k.1)++Aq (n - k.1) 0)) U]) (λk=>n - k.1) ⟨0,ZA⟩ ?_ ?_;exact ER @K8.eq_1
 . rintro ⟨k,hk⟩;simp only;by_cases B:k<n
   . obtain⟨b,hb⟩:∃b,l[k]?=J b:=⟨_,BE Ux⟩
     have A9:rs[k]?=J b.row:=by rw[<-Aw];exact XG hb
     have Dp:k<G rs:=Ux;have Bu:=gx A9;have FN:=A2 b (di A5 b (Cj hb));unfold Am at FN;obtain⟨c,hc⟩:=AI (N5 d b);rw[hc]at FN;have A8:own[k]?=J c:=by rw[<-A0];unfold JP;rw[CM,hb,<-hc];rfl
     have S:=APb A8;have M:G (K8 (own.take k))=k:=by rw[xZ,Fa];omega
     obtain⟨r,hr⟩:=AI (n - (k+1));have j8:n - k=r+1:=Ux;obtain⟨D,hD⟩:=AI (K8 (own.take k));rw[hD]at S M ⊢;rw[j8,BY];obtain⟨Z,hZ⟩:=AI (CK (D++0::Aq r 0));have G4:G Z=n:=by rw[<-hZ,Ts];simp;omega
     obtain⟨X,q⟩:=AI (CK (D++c::Aq r 0));have Rh:G X=n:=by rw[<-q,Ts];simp;omega
     have z0:Z.set k (.c (.int .i64 c))=X:=by rw[<-hZ,ABG M c,q]
     have g0:X[k]?=J (.c (.int .i64 c)):=by rw[<-q];exact AWB M
     have YO:=gx g0;have s0:X.set k (.c (.int .i64 0))=CK ((D++[0])++Aq r 0):=by rw[<-q,ABG M 0,bB]
     have Ys:k+1<=n:=Ux;have Rg:=q.symm;have Lt : ∀j,G D=j+1->Z[j]?=J (.c (.int .i64 (Lx D))):=λj h=>by rw[<-hZ,AIC h];exact AJX h
     rw[hZ];clear q hZ A2;by_cases GM:c=2;subst GM;cases k with
     | zero=>rw[ALJ rfl (.inl M)]at S;rw[<-S,<-hr]at s0;refine wy (cj9 @Av @B @Dp @A9 @Bu @G4 @Rh @z0 @g0<|cj3 @YO @s0 @Ys AN9) (cj FN<|trivial) ⟨?_⟩;exact⟨⟨0+1,Ux⟩,by simp only;omega,wd 1⟩
     | succ j =>
       have g1:X[j]?=J (.c (.int .i64 (Lx D))):=by rw[<-z0,HF Ux];exact Lt j M
       have O7:=gx g1;have A1:=AV2 (Lx D);have hj:j<n:=Ux;have TS:(j:Int)+1<(n:Int):=Ux;have Wg : ¬(j:Int)+1=0:=Ux;have Rq:(0:Int)<=(j:Int)+1:=Ux;cases ho:dr (Lx D)with
       | true=>rw[ALJ rfl (.inr ho)]at S;rw[<-S,<-hr]at s0;rw[ho]at A1;refine wy (cj9 @Av @B @Dp @A9 @Bu @G4 @Rh @z0 @g0<|cj9 @YO @s0 @Ys @g1 @O7 @hj @TS @Wg @Rq AN9) (cj2 FN A1 W) ⟨?_⟩;exact⟨⟨j+1+1,Ux⟩,by simp only;omega,wd 1⟩
       | false =>
         rw[tF (λe=>by rcases e.2 with e|e;omega;rw[ho]at e;cases e) (λe=>by rw[AOP]at e;cases e.1)]at S;rw[ho]at A1;have Ye:X=CK (K8 (own.take (j+1+1))++Aq (n - (j+1+1)) 0):=by rw[Rg,S,bB,hr]
         refine wy (cj9 @Av @B @Dp @A9 @Bu @G4 @Rh @z0 @g0<|cj8 @YO @Ys @g1 @O7 @hj @TS @Wg @Rq AN9) (cj2 FN A1 W) ⟨?_⟩;rw[Ye];exact⟨⟨j+1+1,Ux⟩,by simp only;omega,wd 1⟩
     . cases Yj:YD c with
       | false =>
         rw[tF (λe=>GM e.1) (λe=>by rw[Yj]at e;cases e.1)]at S;simp[YD]at Yj;have Ye:X=CK (K8 (own.take (k+1))++Aq (n - (k+1)) 0):=by rw[Rg,S,bB,hr]
         refine wy (cj @Av<|cj @B<|cj @Dp<|cj @A9<|cj @Bu<|cj @G4<|cj @Rh<|cj @z0<|cj @g0<|cj @YO<|cj @Ys<|cj @GM<|cj (Yj.1)<|cj (Yj.2.1)<|cj (Yj.2.2)<|AN9) (cj FN<|trivial) ⟨?_⟩;rw[Ye];exact⟨⟨k+1,Ux⟩,by simp only;omega,wd 1⟩
       | true =>
         have NP:c=3\/c=5\/c=6:=by simpa [YD]using Yj
         cases k with
         | zero =>
           rw[tF (λe=>GM e.1) (λe=>by have:=e.2.1;omega)]at S;have Ye:X=CK (K8 (own.take (0+1))++Aq (n - (0+1)) 0):=by rw[Rg,S,bB,hr]
           have ff:=(cj9 @Av @B @Dp @A9 @Bu @G4 @Rh @z0 @g0<|cj3 @YO @Ys @GM AN9)
           have cc:=(cj FN<|trivial)
           repeat any_goals (first|refine Du ff cc ⟨?_⟩|exact Bt ff|(refine Dv ff ?_ ?_<;>intro h<;>try exact Dw))
           all_goals (rw[Ye];exact⟨⟨0+1,Ux⟩,by simp only;omega,wd 1⟩)
         | succ j =>
           have g1:X[j]?=J (.c (.int .i64 (Lx D))):=by rw[<-z0,HF Ux];exact Lt j M
           have O7:=gx g1;have hj:j<n:=Ux;have TS:(j:Int)+1<(n:Int):=Ux;have Wg:(0:Int)<(j:Int)+1:=Ux;have Rq:(0:Int)<=(j:Int)+1:=Ux;have A7:j+1<=n:=Ux;by_cases PK:Lx D=2
           . rw[AZS GM Yj Ux PK,M,show j+1 - 1=j by omega]at S;have s1:X.set j (.c (.int .i64 0))=CK (K8 (own.take (j+1+1))++Aq (n - (j+1+1)) 0):=by rw[Rg,AJz M 0,S,bB,hr]
             have ff:=(cj9 @Av @B @Dp @A9 @Bu @G4 @Rh @z0 @g0<|cj9 @YO @Ys @GM @g1 @O7 @hj @TS @Wg @Rq<|cj3 @A7 @PK @s1 AN9)
             have cc:=(cj FN<|trivial)
             repeat any_goals (first|refine Du ff cc ⟨?_⟩|exact Bt ff|(refine Dv ff ?_ ?_<;>intro h<;>try exact Dw))
             all_goals exact⟨⟨j+1+1,Ux⟩,by simp only;omega,wd 1⟩
           . rw[tF (λe=>GM e.1) (λe=>PK e.2.2)]at S;have Ye:X=CK (K8 (own.take (j+1+1))++Aq (n - (j+1+1)) 0):=by rw[Rg,S,bB,hr]
             have ff:=(cj9 @Av @B @Dp @A9 @Bu @G4 @Rh @z0 @g0<|cj9 @YO @Ys @GM @g1 @O7 @hj @TS @Wg @Rq<|cj @PK AN9)
             have cc:=(cj FN<|trivial)
             repeat any_goals (first|refine Du ff cc ⟨?_⟩|exact Bt ff|(refine Dv ff ?_ ?_<;>intro h<;>try exact Dw))
             all_goals (rw[Ye];exact⟨⟨j+1+1,Ux⟩,by simp only;omega,wd 1⟩)
   have e1:own.take k=own:=Gl Ux;have ek:k=n:=Ux;have e2:n - k=0:=Ux;rw[e1,e2];have M:G (K8 own)=n:=by rw[xZ,B0]
   unfold I6;generalize hD:K8 own=D at M ⊢;rw[show Aq 0 (0:Int)=[]from rfl,E5];subst ek;cases k with
   | zero=>have jM:D=[]:=Nr M;subst jM;have z:=Zl [] [];refine wu (.mk 19) (cj2 @Av @B AN9) trivial ⟨?_⟩;refine AW.Bi 0 rfl (XK _) (by simp only[V.Cs,V.Bi,B9,Awg];exact rfl) (by simp only[Ag,Ap,BB,O.Bi,Zm];exact rfl) ?_;have hz:AV (Uj [])=.sl []:=F;rw[hz];exact wz (cj2 @Hc.eq_1 @Hc.eq_2 AN9) W
   | succ p =>
     obtain⟨X,q⟩:=AI (CK D);have Rh:G X=p+1:=by rw[<-q,Ts,M]
     have g1:X[p]?=J (.c (.int .i64 (Lx D))):=by rw[<-q,AIC M];have h:=AJX (r:=[]) M;rwa [E5]at h
     have O7:=gx g1;have A3:p<p+1:=Ux;have A6:(p:Int)<(p:Int)+1:=Ux;by_cases PK:Lx D=2;have hF:Uj D=D.set p 0:=by unfold Uj;rw[Awd ⟨Ux,PK⟩,M];rfl
     have s1:X.set p (.c (.int .i64 0))=CK (D.set p 0):=by have h:=AJz (r:=[]) M 0;rw[E5,E5]at h;rw[<-q,h]
     have z:=Zl (D.set p 0) [];rw[E5,List.length_set,M]at z;rw[hF,q];refine wu (.mk 19) (cj9 @Av @B @Rh @g1 @O7 @A3 @A6 @PK @s1 AN9) trivial ⟨?_⟩;refine AW.Bi 0 rfl (XK _) (by simp only[V.Cs,V.Bi,B9,z,Awg];exact rfl) (by simp only[Ag,Ap,BB,O.Bi,Zm];exact rfl) ?_;unfold AV;exact wz AN9 W;have hF:Uj D=D:=by unfold Uj;rw[Awf (λe=>PK e.2)]
     have z:=Zl D [];rw[E5,M]at z;rw[hF,q];refine wu (.mk 19) (cj8 @Av @B @Rh @g1 @O7 @A3 @A6 @PK AN9) trivial ⟨?_⟩;rw[<-q];refine AW.Bi 0 rfl (XK _) (by simp only[V.Cs,V.Bi,B9,z,Awg];exact rfl) (by simp only[Ag,Ap,BB,O.Bi,Zm];exact rfl) ?_;unfold AV;exact wz AN9 W
def O2 (d:List En)(l:List Nd):List Int×Int:=if Ll d=U\/(Dd l).Ad=U then([],1)else(I6 (JP d l),0)
def W4 (p:List Int×Int):V:=.A7 [.c (AV p.1),AR p.2]
theorem AIO {l:List Nd}(h:(Dd l).BX):Nd.FY l:=h.2.2
theorem rY (l:List Nd):(Dd l).cnt=1+Nd.Az l:=F
theorem AJD (d:List En)(l:List Nd)(hd:G d<=1000000)(hs : ∀e∈d,e.text.size<=maxLen)(S:(Dd l).BX)(hc:(Dd l).cnt<=900000):AC AF 13 [.c (Cc d),.c (.sl (Nd.AG l))] (W4 (O2 d l)):=by
 have B:=sM d hd hs;have M:=ABR l S hc;have Mi:=SH l;have jf:=rY l;have h3:=AJU d l hd Ux (AIO S);obtain⟨R,hR⟩:=AI (I6 (JP d l));unfold O2 W4;rw[hR]at h3 ⊢;have hz:AV []=.sl []:=F;cases q:Ll d with
 | false=>rw[q]at B;rw[Awd (.inl F)];unfold AR;rw[hz];refine en func13 ntmps13 ?_;exact wz AbU (cj B<|trivial)
 | true =>
   rw[q]at B;cases z:(Dd l).Ad with
   | false=>rw[z]at M;rw[Awd (.inr F)];unfold AR;rw[hz];refine en func13 ntmps13 ?_;exact wz AbU (cj2 B M W)
   | true=>rw[z]at M;rw[Awf ZA];unfold AR;refine en func13 ntmps13 ?_;exact wz AbU (cj3 B M h3 W)
def PX (n:Int):List C:=[.int .i64 n]
theorem rS (l:List Int):AV l=.sl (l.map PX):=F
theorem ATN (l:List Int):((l.map PX).all λr=>G r==1)=true:=by
 rw[ES];intro r B;obtain⟨n,_,rfl⟩:=Da.1 B;rfl
theorem Amc (d:List En)(l:List Nd)(hd:G d<=1000000)(hs : ∀e∈d,e.text.size<=maxLen)(A5:(Dd l).BX)(hc:(Dd l).cnt<=100000):AC AF 22 [.c (Cc d),.c (.sl (Nd.AG l))] (W4 (O2 d l)):=by
 have B:=Ajw d hd hs;have M:=Ajy l A5 hc;have Mi:=SH l;have jf:=rY l;have h4:=AnP (JP d l) (by rw[Zh];omega);have A0:=Amk d hd;obtain⟨R,hR⟩:=AI (I6 (JP d l));unfold O2 W4;rw[hR]at h4 ⊢;have hz:AV []=.sl []:=F;cases e1:Ll d with
 | false=>rw[e1]at B;rw[Awd (.inl F)];unfold AR;rw[hz];refine en nF nS ?_;exact wz MO (cj B<|trivial)
 | true =>
   rw[e1]at B;cases e2:(Dd l).Ad with
   | false=>rw[e2]at M;rw[Awd (.inr F)];unfold AR;rw[hz];refine en nF nS ?_;exact wz MO (cj2 B M W)
   | true =>
     rw[e2]at M;rw[Awf ZA];unfold AR;obtain⟨rs,Aw⟩:=AI (Nd.AG l);have Av:G rs=G l:=by rw[<-Aw];exact Pc l
     rw[Aw]at M ⊢;generalize hn:G l=n at Av Mi;refine en nF nS ?_;refine wy (cj @Av<|MO) (cj2 B M W) ⟨?_⟩;refine AW.le (Le.tL 6 3 1 F) ?_;simp only[BO,Ag,Ai,BU];refine CX (ι:={ k:Nat // k<=n }) (λk=>[(6,.gr 0 1 (((JP d l).take k.1).map PX)),(7,(k.1:Int))]) (λk=>[.tok 3 1 k.1]) (λk=>n - k.1) ⟨0,ZA⟩ ?_ ?_;exact DH;rintro ⟨k,hk⟩;simp only;by_cases z:k<n;obtain⟨b,hb⟩:∃b,l[k]?=J b:=⟨_,BE Ux⟩
     have A9:rs[k]?=J b.row:=by rw[<-Aw];exact XG hb
     have Dp:k<G rs:=Ux;have Bu:=gx A9;have FN:=A0 b (di (AIO A5) b (Cj hb));unfold Am at FN;obtain⟨c,q⟩:=AI (N5 d b);rw[q]at FN;have A1:(JP d l)[k]?=J c:=by unfold JP;rw[CM,hb,<-q];rfl
     have GP:((JP d l).take (k+1)).map PX=((JP d l).take k).map PX++[PX c]:=by rw[UC,A1,Fm];rfl
     have Md:G (((JP d l).take k).map PX)=k:=by rw[Ch,Fa,Zh];omega
     have S:=ATN ((JP d l).take k);generalize YW:((JP d l).take k).map PX=RR at GP Md S ⊢;have FO:k+1<=maxLen:=by unfold maxLen;omega
     have EX:(k+1)*8<=140737488355328:=Ux;have Y4:RR++[[C.int .i64 c]]=((JP d l).take (k+1)).map PX:=GP.symm;clear GP;refine wy (cj9 @Av @z @Dp @A9 @Bu @Md @FO @EX @Y4 MO) (cj FN<|trivial) ⟨?_⟩;exact⟨⟨k+1,Ux⟩,by simp only;omega,wd 1⟩;have e3:(JP d l).take k=JP d l:=Gl (by rw[Zh];omega);rw[e3];rw[rS (JP d l)]at h4;exact wz (cj2 @Av @z MO) (cj h4<|trivial)
def OX (cls:List Int)(k:Nat):Bool:=!decide (k=0) && (!decide (cls.getD (k - 1) 0=3) && (decide (cls.getD k 0=3) || decide (cls.getD k 0=2)))
def FZ (cls:List Int):Nat->List Int
 | 0=>[0]
 | k+1=>FZ cls k++(if OX cls k=I then [(k:Int)]else [])
def XL (d:List En)(l:List Nd):List Int×Int:=if (O2 d l).2≠0 then([],(O2 d l).2)else if G l=0 then([],8)else(FZ (O2 d l).1 (G l),0)
theorem AJi (cls:List Int):∀k,G (FZ cls k)<=k+1
 | 0=>BN _
 | k+1=>by
   have:=AJi cls k;simp only[FZ,Cp];split<;>simp<;>omega
theorem AJW (cls:List Int):OX cls 0=false:=F
theorem AOU {d:List En}{l:List Nd}(h:(O2 d l).2=0):(O2 d l).1.length=G l:=by
 unfold O2 at h ⊢;split at h;cases h;rename_i B;rw[Awf B];rw[ef,Zh]
theorem AJq (cls:List Int)(k:Nat)(hk:k<G cls)(hl:G cls<=1000000):AC AF 16 [.c (AV cls),(k:Int)] (.c (.bool (OX cls k))):=by
 obtain⟨z,Aw⟩:=AI (cls.map PX);have Av:G z=G cls:=by rw[<-Aw,Ch]
 rw[rS,Aw];obtain⟨c,hc⟩:∃c,cls[k]?=J c:=⟨_,BE hk⟩
 have A9:z[k]?=J [.int .i64 c]:=by rw[<-Aw,CM,hc];rfl
 have Dp:k<G z:=Ux;have Bu:=gx A9;have A0:cls.getD k 0=c:=by rw[Bv,hc];rfl
 unfold OX;rw[A0];cases k with
 | zero=>refine en func16 ntmps16 ?_;exact wz (cj4 @Av @A9 @Bu @Dp ANp) W
 | succ j =>
   obtain⟨p,hp⟩:∃c,cls[j]?=J c:=⟨_,BE Ux⟩
   have Rx:z[j]?=J [.int .i64 p]:=by rw[<-Aw,CM,hp];rfl
   have B:j<G z:=Ux;have M:=gx Rx;have A1:cls.getD (j+1 - 1) 0=p:=by rw[Nat.add_sub_cancel,Bv,hp];rfl
   rw[A1];have A2 : ¬j+1=0:=Ux;rw[Awl A2,ly,Cd];have Wg : ¬(j:Int)+1=0:=Ux;have Rq:(0:Int)<=(j:Int)+1:=Ux;have S:(j:Int)+1<(G cls:Int):=Ux;have q:j<G cls:=Ux;by_cases h3:p=3;rw[Awk h3,tv,D4];refine en func16 ntmps16 ?_;exact wz (cj9 @Av @A9 @Bu @Dp @Rx @M @B @Wg @Rq<|cj4 @S @q @hk @h3 ANp) W;rw[Awl h3,ly,Cd];refine en func16 ntmps16 ?_;exact wz (cj9 @Av @A9 @Bu @Dp @Rx @M @B @Wg @Rq<|cj4 @S @q @hk @h3 ANp) W
def SS (s:ByteArray)(pos:Nat):Bool:=(s.data.toList.drop pos).all Dx
theorem AXk {s:ByteArray}(h : ¬pos<s.size):SS s pos=true:=by
 unfold SS;rw[FA (by simpa using h)];rfl
theorem AXl {s:ByteArray}(h:pos<s.size):SS s pos=(Dx (s[pos]'h) && SS s (pos+1)):=by
 unfold SS;have B:pos<G s.data.toList:=by simpa using h
 rw[D5 B,Ep];rfl
theorem AIc {s:ByteArray}(h:SS s 0=U):Ck s=false:=by
 unfold SS at h;rw[B9]at h;unfold Ck;rw[h,D4]
theorem AUd {s:ByteArray}(h:SS s 0=I):Ck s=(decide (1<=s.size) && decide (s.size<=16)):=by
 unfold SS at h;rw[B9]at h;unfold Ck;rw[h,Cd]
theorem pB (h:b.toNat<32\/126<b.toNat):Dx b=false:=by simp[Dx];omega
theorem AEV (h:32<=b.toNat/\b.toNat<=126):Dx b=true:=by simp[Dx];omega
theorem AO7 :Calls AF 220 #[.string s] w λe w'=>e=.returned (.bool (Ck s))/\∃pos,w'=w.iter s pos:=by
 go_enter func220,ntmps220;go_wp2;go_loopw [2,4] (λr c w'=>∃(pos:Nat),w'=w.iter s pos/\r=.bool U/\SS s pos=SS s 0) (λ_ _ w'=>s.size - w'.iterPos w.heap.size)
 case atStart=>exact⟨0,F,F,F⟩
 case round =>
  obtain⟨pos,rfl,rfl,hc⟩:=hrel;by_cases hp:pos<s.size
  . obtain⟨b,hb⟩:=AI ((s[pos]'hp));have hst:=AXl hp;rw[hb]at hst;by_cases ha:b.toNat<128
    . have B : ∀ty,(Xj (.pointer (J ⟨w.heap.size,0,E⟩)) I ty).run AF (w.iter s pos)=.ok (.tuple #[.bool I,.int .i64 pos,.int .i32 (b.toNat:Int)]) (w.iter s (pos+1)):=λty=>by rw[run_next_ascii w s pos ty hp (by rw[hb];exact ha),hb]
      go_wp2;all_goals first
       | (refine⟨⟨pos+1,F,F,?_⟩,?_⟩
          rw[<-hc,hst,AEV Ux,Cd];simp;omega)
       | (go_ret
          have e:Ck s=false:=AIc (by rw[<-hc,hst,pB Ux,D4]);rw[e];exact⟨F,_,F⟩)
       | (exfalso;omega)
    . have M:=decode_high s pos hp (by rw[hb];omega);obtain⟨D,hD⟩:=AI ((g9 s pos).1);rw[hD]at M;have B : ∀ty,(Xj (.pointer (J ⟨w.heap.size,0,E⟩)) I ty).run AF (w.iter s pos)=.ok (.tuple #[.bool I,.int .i64 pos,.int .i32 (D:Int)]) (w.iter s (pos+(g9 s pos).2)):=λty=>by rw[run_next_any w s pos ty hp,hD]
      go_wp2;all_goals first
       | (exfalso;omega)
       | (go_ret
          have e:Ck s=false:=AIc (by rw[<-hc,hst,pB Ux,D4]);rw[e];exact⟨F,_,F⟩)
  . have B : ∀ty,(Xj (.pointer (J ⟨w.heap.size,0,E⟩)) I ty).run AF (w.iter s pos)=_:=λty=>run_next_end w s pos ty hp
    have ht:=AUd (hc.symm.trans (AXk hp));go_wp2;all_goals go_ret
    all_goals try rw[ht]
    all_goals refine⟨?_,_,F⟩
    all_goals simp
    all_goals first|omega|(rw[Awi];omega)|(rw[Awk (show 1<=s.size by omega),Cd,Awi];omega)|trace_state
theorem kN (s:ByteArray)(pos:Nat):Ay w (w.iter s pos):=(Ay.refl w).alloc _
theorem AO6 :AC AF 220 [.c (.str s)] (.c (.bool (Ck s))):=by
 intro S w us z B;simp only[AO,CV,Ab]at B;obtain⟨u,ur,rfl,⟨rfl,_⟩,rfl⟩:=B;refine(AO7 s w).mono ?_;rintro e w' ⟨rfl,pos,rfl⟩;have M:=kN w s pos;exact⟨_,S,F,M,⟨λ_ _ h=>h,λb j v _ q=>M.cell q⟩,λb j h=>.inl h,by simp only[CV,Ab]⟩
theorem AUL (c:Int)(w:World):Calls AF 205 #[.string s,.int .u8 c] w λe w'=>e=.returned (.int .i64 (EF s.data.toList c.toNat.toUInt8))/\w'=w:=by
 go_enter func205,ntmps205;go_wp2;rw[run_callFunc_extern func257 ZC ZC ZC (e:=AMT) ZC,Lib.run_indexByteString];simp only[Result.andThen];rw[Oper.upon_value];go_wp2;go_ret;exact⟨F,F⟩
theorem AHx (c:Int)(w:World):Calls AF 161 #[.string s,.int .u8 c] w λe w'=>e=.returned (.int .i64 (EF s.data.toList c.toNat.toUInt8))/\w'=w:=by
 go_enter func161,ntmps161;go_wp2_with (go_at_call 205;refine(AUL _ _ _).mono ?_;rintro e w' ⟨rfl,rfl⟩)
 go_ret;exact⟨F,F⟩
theorem ATU (h0:0<=r)(h1:r<128):Calls AF 270 #[.string s,.int .i32 r] w λe w'=>e=.returned (.int .i64 (EF s.data.toList r.toNat.toUInt8))/\w'=w:=by
 go_enter Ac6,Aic;go_wp2_with (go_at_call 161;refine(AHx _ _ _).mono ?_;rintro e w' ⟨rfl,rfl⟩)
 go_ret;exact⟨F,F⟩
theorem AOb (h0:0<=r)(h1:r<128):Calls AF 219 #[.string s,.int .i32 r] w λe w'=>e=.returned (.bool (decide (0<=EF s.data.toList r.toNat.toUInt8)))/\w'=w:=by
 go_enter AQW,AQ8;go_wp2_with (go_at_call 270;refine(ATU _ _ _ h0 h1).mono ?_;rintro e w' ⟨rfl,rfl⟩)
 go_ret;exact⟨F,F⟩
def Gf:ByteArray:=⟨#[40,41,123,125,91,93,124,60,62,47,46]⟩
theorem ALx :Calls AF 295 #[.int .i32 r] w λe w'=>e=.returned (.bool (validRune r))/\w'=w:=by
 go_enter func295,ntmps295;go_wp2;all_goals go_ret
 all_goals refine⟨?_,F⟩
 all_goals simp[validRune]
 all_goals omega
theorem ATT (h0:128<=r)(h1:r<=1114111)(h2:r≠65533)(h3:validRune r=U):Calls AF 270 #[.string s,.int .i32 r] w λe w'=>e=.returned (.int .i64 (-1))/\w'=w:=by
 go_enter Ac6,Aic;go_wp2_with (go_at_call 295;refine(ALx _ _).mono ?_;rintro e w' ⟨rfl,rfl⟩)
 go_ret;exact⟨F,F⟩
theorem AHy : ∀(l:List UInt8) (c:UInt8),(∀x∈l,x.toNat<128)->128<=c.toNat->EF l c= -1
 | [],c,_,_=>rfl
 | x::l,c,h,B=>by
   have M:x≠c:=λe=>by have:=h x GH;rw[e]at this;omega
   have ih:=AHy l c (λy S=>h y (Gk _ S)) B;simp[EF,M,ih]
theorem AAy : ∀x∈Gf.data.toList,x.toNat<128:=ZB
theorem AVv (a e:Nat)(c:UInt8)(h:128<=c.toNat):EF (Gf.extract a e).data.toList c= -1:=AHy _ _ (λx B=>AAy x (mem_extract B)) h
theorem ALn (b:UInt8):((b.toNat:Int)).toNat.toUInt8=b:=ZA
theorem APL (S:128<=r)(B:validRune r=I):(∃a b:UInt8,128<=b.toNat/\iA r=⟨#[a,b]⟩)\/(∃a b c:UInt8,128<=c.toNat/\iA r=⟨#[a,b,c]⟩)\/(∃a b c d:UInt8,128<=d.toNat/\iA r=⟨#[a,b,c,d]⟩):=by
 have M : ¬r.toNat<128:=Ux;rw[<-validRune_eq]at B;unfold iA;simp only[B,Awg,M,Awh];split;exact .inl ⟨_,_,by simp;omega,rfl⟩;split;exact .inr (.inl ⟨_,_,_,by simp;omega,rfl⟩);exact .inr (.inr ⟨_,_,_,_,by simp;omega,rfl⟩)
theorem AaN :AC AF 295 [.c (.int .i32 r)] (.c (.bool (validRune r))):=by
 intro S w us M B;simp only[AO,CV,Ab]at B;obtain⟨u,q,rfl,⟨rfl,_⟩,rfl⟩:=B;refine(ALx r w).mono ?_;rintro e z ⟨rfl,rfl⟩;exact⟨_,S,F,Ay.refl _,Ar.refl _ _,λb j h=>.inl h,by simp only[CV,Ab]⟩
theorem AAz (a e:Nat)(c:UInt8)(h:128<=c.toNat):AC AF 161 [.c (.str (Gf.extract a e)),.c (.int .u8 c.toNat)] (-1:Int):=by
 intro S w us q B;simp only[AO,CV,Ab]at B;obtain⟨u,ur,rfl,⟨rfl,_⟩,z,M,rfl,⟨rfl,_⟩,rfl⟩:=B;refine(AHx _ _ w).mono ?_;rintro e w' ⟨rfl,rfl⟩;rw[ALn,AVv _ _ _ h];exact⟨_,S,F,Ay.refl _,Ar.refl _ _,λb j h=>.inl h,by simp only[CV,Ab];exact⟨W,by decide +kernel⟩⟩
theorem Zj:Gf.size=11:=F
theorem AJH:Gf.data.toList[1]?=J 41:=F
theorem AJI:Gf.data.toList[2]?=J 123:=F
theorem AJJ:Gf.data.toList[3]?=J 125:=F
theorem ATV (h0:128<=r)(h1:r<=1114111)(h2:r≠65533)(h3:validRune r=I):AC AF 270 [.c (.str Gf),.c (.int .i32 r)] (-1:Int):=by
 have z : ∀W:World,(convert 21 9 (.int .i32 r)).run AF W=.ok (.string (iA r)) W:=λW=>run_convert_int_string W _ _ _ _ ZC ZC
 have hf:=APL r h0 h3;obtain⟨R,hR⟩:=AI (iA r);rw[hR]at hf z;have rK:=AaN r;rw[h3]at rK;have A0:R.size<=maxLen:=by
  unfold maxLen;rcases hf with ⟨a,b,M,rfl⟩|⟨a,b,c,M,rfl⟩|⟨a,b,c,d,M,rfl⟩
  show 2<=_;omega;show 3<=_;omega;show 4<=_;omega
 have n1 : ¬r<128:=Ux;have n0:0<=r:=Ux;refine en Ac6 Aic ?_;refine wu (.mk 1) (cj3 @n1 @n0 @h2 ACt) (cj rK<|trivial) ⟨?_⟩;refine AW.DA ?_;refine CY (.mk 1) trivial ?_;refine SW.op (.c (.str R)) (by simp[BQ]) rfl ?_ ?_;rintro S0 w0 x a w ⟨g,ht⟩;have A1:=CW ht (.tmp 17);simp only[ev,CV,Ab,List.getD_cons_succ,List.getD_cons_zero]at A1;exact BW.pure g (u:=.string R) (by simp[execOp,A1.1,z]) (by simp only[CV,Ab];exact⟨trivial,A0⟩);simp only[St.step,St.put,Bk,Ai,Ag];refine CY (.mk 1) trivial ?_;refine SW.nil ?_;clear hR z A0;rcases hf with ⟨a,b,M,rfl⟩|⟨a,b,c,M,rfl⟩|⟨a,b,c,d,M,rfl⟩
 have S:=AAz 2 11 b M;have q : ¬(41:Int)=(b.toNat:Int):=Ux;have B:(uB #[a,b]).size=2:=F;refine wy (cj4 @n1 @Zj @AJH @B ACt) (cj S<|trivial) ⟨?_⟩;refine LA.loop (LA.round ?_);exact wz (cj5 @n1 @Zj @AJH @B @q ACt) (cj S<|trivial);have S:=AAz 3 11 c M;have q : ¬(123:Int)=(c.toNat:Int):=Ux;have B:(uB #[a,b,c]).size=3:=F;refine wy (cj4 @n1 @Zj @AJI @B ACt) (cj S<|trivial) ⟨?_⟩;refine LA.loop (LA.round ?_);exact wz (cj5 @n1 @Zj @AJI @B @q ACt) (cj S<|trivial);have S:=AAz 4 11 d M;have q : ¬(125:Int)=(d.toNat:Int):=Ux;have B:(uB #[a,b,c,d]).size=4:=F;refine wy (cj4 @n1 @Zj @AJJ @B ACt) (cj S<|trivial) ⟨?_⟩;refine LA.loop (LA.round ?_);exact wz (cj5 @n1 @Zj @AJJ @B @q ACt) (cj S<|trivial)
theorem ATW :Calls AF 270 #[.string Gf,.int .i32 65533] w λe w'=>e=.returned (.int .i64 (-1))/\Ay w w':=by
 go_enter Ac6,Aic;go_wp2;go_loopw [5,6] (λ_ _ w'=>∃(pos:Nat),w'=w.iter Gf pos) (λ_ _ w'=>Gf.size - w'.iterPos w.heap.size)
 case atStart=>exact⟨0,F⟩
 case round =>
  obtain⟨pos,rfl⟩:=hrel;by_cases hp:pos<Gf.size
  . have ha:(Gf[pos]'hp).toNat<128:=AAy _ (Array.getElem_mem_toList (xs:=Gf.data) hp);obtain⟨b,hb⟩:=AI ((Gf[pos]'hp));have B : ∀ty,(Xj (.pointer (J ⟨w.heap.size,0,E⟩)) I ty).run AF (w.iter Gf pos)=.ok (.tuple #[.bool I,.int .i64 pos,.int .i32 (b.toNat:Int)]) (w.iter Gf (pos+1)):=λty=>by rw[run_next_ascii w Gf pos ty hp ha,hb]
    rw[hb]at ha;go_wp2;all_goals first
     | (exfalso;omega)
     | (refine⟨⟨pos+1,F⟩,?_⟩
        simp;omega)
     | trace_state
  . have B : ∀ty,(Xj (.pointer (J ⟨w.heap.size,0,E⟩)) I ty).run AF (w.iter Gf pos)=_:=λty=>run_next_end w Gf pos ty hp
    go_wp2;go_ret;exact⟨F,kN _ _ _⟩
theorem ATX (M:128<=r)(S:r<=1114111):Calls AF 270 #[.string Gf,.int .i32 r] w λe w'=>e=.returned (.int .i64 (-1))/\Ay w w':=by
 by_cases B:r=65533;subst B;exact ATW w;cases q:validRune r with
 | false=>exact(ATT Gf r w M S B q).mono λe w' h=>⟨h.1,by rw[h.2];exact Ay.refl _⟩
 | true =>
   have wf:(Lit.int .i32 r).wf=true:=by
    have e1:uK.min= -2147483648:=by decide +kernel
    have e2:uK.max=2147483647:=by decide +kernel
    simp[Lit.wf,e1,e2];omega
   refine(ATV r M S B q (λ_ _=>False) w [.string Gf,.int .i32 r] (λ_ _ h=>h.elim) ?_).mono ?_;simp only[AO,CV,Ab];exact⟨_,_,F,⟨F,by rw[Zj];decide⟩,_,_,F,⟨F,wf⟩,F⟩;rintro e w' ⟨u,S',rfl,hk,_,_,z⟩;simp only[CV,Ab]at z;exact⟨by rw[z.1],hk⟩
theorem AOc (h0:128<=r)(h1:r<=1114111):Calls AF 219 #[.string Gf,.int .i32 r] w λe w'=>e=.returned (.bool U)/\Ay w w':=by
 go_enter AQW,AQ8;go_wp2_with (go_at_call 270;refine(ATX _ _ h0 h1).mono ?_;rintro e w' ⟨rfl,hk⟩)
 go_ret;exact⟨F,hk⟩
def Qj (b:UInt8):Bool:=Gf.data.toList.contains b
def Nh (s:ByteArray):Bool:=s.data.toList.all Qj && decide (s.size=2)
def SU (s:ByteArray)(pos:Nat):Bool:=(s.data.toList.drop pos).all Qj
theorem AXm {s:ByteArray}(h : ¬pos<s.size):SU s pos=true:=by
 unfold SU;rw[FA (by simpa using h)];rfl
theorem AXn {s:ByteArray}(h:pos<s.size):SU s pos=(Qj (s[pos]'h) && SU s (pos+1)):=by
 unfold SU;have B:pos<G s.data.toList:=by simpa using h
 rw[D5 B,Ep];rfl
theorem AJG {s:ByteArray}(h:SU s 0=U):Nh s=false:=by
 unfold SU at h;rw[B9]at h;unfold Nh;rw[h,D4]
theorem AVr {s:ByteArray}(h:SU s 0=I):Nh s=decide (s.size=2):=by
 unfold SU at h;rw[B9]at h;unfold Nh;rw[h,Cd]
theorem AHt : ∀(l:List UInt8) (c:UInt8),0<=EF l c↔c∈l
 | [],c=>by simp[EF]
 | x::l,c=>by
   have ih:=AHt l c;have M:=Lib.indexByte_ge l c;by_cases h:x=c;subst h;simp[EF];have B : ¬c=x:=λe=>h e.symm
   rw[Cf,or_iff_right B,<-ih];simp only[EF,beq_iff_eq,h,Awh];split<;>omega
theorem ATR (l:List UInt8)(c:UInt8):decide (0<=EF l c)=l.contains c:=by
 rw[Oj,decide_eq_true_iff,AHt,mR]
theorem AVs (h:Qj b=I):b.toNat<128:=AAy b (by simpa [Qj]using h)
theorem decode_le (i:Nat):(g9 s i).1<=1114111:=by
 unfold g9;dsimp only;repeat' split
 all_goals first
  | (simp only[Utf8.runeError];omega)
  | (rename_i h;simp[Utf8.valid]at h ⊢;omega)
  | ((try simp only[]);omega)
theorem AVu :Calls AF 183 #[.string s] w λe w'=>e=.returned (.bool (Nh s))/\Ay w w':=by
 go_enter func183,ntmps183;go_wp2;go_loopw [2,4] (λr c w'=>∃(pos:Nat),w'=w.iter s pos/\r=.bool U/\SU s pos=SU s 0) (λ_ _ w'=>s.size - w'.iterPos w.heap.size)
 case atStart=>exact⟨0,F,F,F⟩
 case round =>
  obtain⟨pos,rfl,rfl,hc⟩:=hrel;by_cases hp:pos<s.size
  . obtain⟨b,hb⟩:=AI ((s[pos]'hp));have hst:=AXn hp;rw[hb]at hst;by_cases ha:b.toNat<128
    . have q : ∀ty,(Xj (.pointer (J ⟨w.heap.size,0,E⟩)) I ty).run AF (w.iter s pos)=.ok (.tuple #[.bool I,.int .i64 pos,.int .i32 (b.toNat:Int)]) (w.iter s (pos+1)):=λty=>by rw[run_next_ascii w s pos ty hp (by rw[hb];exact ha),hb]
      have M:=λW=>AOb Gf b.toNat W Ux Ux
      rw[ALn,ATR]at M;cases B:Qj b with
      | true =>
        have S : ∀W:World,Calls AF 219 #[.string Gf,.int .i32 b.toNat] W λe w'=>e=.returned (.bool I)/\w'=W:=λW=>(M W).mono λe w' h=>⟨by rw[h.1];exact congrArg _ (congrArg _ B),h.2⟩
        go_wp2_with (go_at_call 219;refine(S _).mono ?_;rintro e w' ⟨rfl,rfl⟩)
        rw[B,Cd]at hst;exact⟨⟨pos+1,F,F,hst.symm.trans hc⟩,by simp;omega⟩
      | false =>
        have S : ∀W:World,Calls AF 219 #[.string Gf,.int .i32 b.toNat] W λe w'=>e=.returned (.bool U)/\w'=W:=λW=>(M W).mono λe w' h=>⟨by rw[h.1];exact congrArg _ (congrArg _ B),h.2⟩
        go_wp2_with (go_at_call 219;refine(S _).mono ?_;rintro e w' ⟨rfl,rfl⟩)
        go_ret;rw[B,D4]at hst;rw[AJG (hc.symm.trans hst)];exact⟨F,kN _ _ _⟩
    . have z:=decode_high s pos hp (by rw[hb];omega);have hl:=decode_le s pos;obtain⟨D,hD⟩:=AI ((g9 s pos).1);rw[hD]at z hl;have q : ∀ty,(Xj (.pointer (J ⟨w.heap.size,0,E⟩)) I ty).run AF (w.iter s pos)=.ok (.tuple #[.bool I,.int .i64 pos,.int .i32 (D:Int)]) (w.iter s (pos+(g9 s pos).2)):=λty=>by rw[run_next_any w s pos ty hp,hD]
      go_wp2_with (go_at_call 219;refine(AOc _ _ Ux Ux).mono ?_;rintro e w' ⟨rfl,hk⟩)
      go_ret;have B:Qj b=false:=by
       cases e:Qj b with
       | false=>rfl
       | true=>exact absurd (AVs e) ha
      rw[B,D4]at hst;rw[AJG (hc.symm.trans hst)];exact⟨F,(kN _ _ _).trans hk⟩
  . have q : ∀ty,(Xj (.pointer (J ⟨w.heap.size,0,E⟩)) I ty).run AF (w.iter s pos)=_:=λty=>run_next_end w s pos ty hp
    have ht:=AVr (hc.symm.trans (AXm hp));go_wp2;go_ret;rw[ht];refine⟨?_,kN _ _ _⟩;simp;rw[Oj];simp;omega
theorem AVt :AC AF 183 [.c (.str s)] (.c (.bool (Nh s))):=by
 intro S w us z B;simp only[AO,CV,Ab]at B;obtain⟨u,ur,rfl,⟨rfl,_⟩,rfl⟩:=B;refine(AVu s w).mono ?_;rintro e w' ⟨rfl,M⟩;exact⟨_,S,F,M,⟨λ_ _ h=>h,λb j v _ q=>M.cell q⟩,λb j h=>.inl h,by simp only[CV,Ab]⟩
def V.ky (k:Nat):V->Option V
 | .own i off len es=>if i=k then J (.own 0 off len es)else E
 | v=>V.Di k v
def V.Zp (k:Nat):List V->Option (List V)
 | []=>J []
 | v::l=>match V.ky k v,V.Zp k l with
   | some y,J r=>J (y::r)
   | _,_=>E
theorem AXI {x:Cx}{w:World}{k n:Nat}(hn:n=(x.loc k).n):∀(v M:V) (u:Value),V.ky k v=J M->CV x w v u->CV (Cx.one x.S (x.loc k).b n) w M u:=by
 intro v M u h B;cases v with
 | own i A0 len es =>
   simp only[V.ky]at h;split at h;rename_i e;cases h;subst e;simp only[CV,Cx.one]at B ⊢;obtain⟨_,_,cap,q,z,h3,h4⟩:=B;exact⟨W,W,cap,q,z,h3,by rw[hn];exact h4⟩;cases h
 | _=>exact AJ1 _ _ _ h B
theorem AJ2 {x:Cx}{w:World}{k n:Nat}(q:n=(x.loc k).n):∀(l M:List V) (us:List Value),V.Zp k l=J M->AO x w l us->AO (Cx.one x.S (x.loc k).b n) w M us
 | [],M,us,h,B=>by simp only[V.Zp,BL]at h;subst h;simpa only[AO]using B
 | v::l,M,us,h,B=>by
   simp only[AO]at B;obtain⟨u,z,rfl,h1,h2⟩:=B;unfold V.Zp at h;split at h;rename_i y r hy hr;cases h;simp only[AO];exact⟨u,z,F,AXI q v y u hy h1,AJ2 q l r z hr h2⟩;cases h
section
variable {P:Program} {K:Exit->St->Prop} {ops:List Oper} {s:St}
theorem SW.AEf {o:Oper}{r:List Oper}{f:FuncId}{args Bd:List V}{ty:TypeId}{cells B cs cs':List V}{res:V}{fn:Func}(K9:AY P f Bd ty cells B res)(hf:P.funcs[f]?=J fn)(hb:fn.body.isSome=I)(hn:(fn.name == "runtime.NumGoroutine")=U)(hg:BQ ops s.t o.guard=J I)(q:C7 (ev s.t) o.op=J (f,args))(hp:V.Zp k args=J Bd)(hk:s.h[k]?=J (.box ty cs U))(A3:V.Dj k cs=J cells)(jg:V.Dj k cs'=J B)(R5:V.Pn cs'=I)(h:SW P ops K r (s.step o.dst res (J (k,.box ty cs' U)))):SW P ops K (o::r) s:=λS0 w0 x a w z=>by
 have hw:FB o (yielded ops.toArray a.tmps)=true:=by
  have:=KR (o:=o) z.tm (IF (ops:=ops) (K1:=True) (K2:=False) hg W);exact Kn λh=>this.2 h
 unfold wpList;rw[Awd hw];refine .inl ?_;unfold C7 at q;split at q
 case h_2=>cases q
 rename_i fo ar Fk ho;split at q
 case h_2=>cases q
 rename_i f' A0 FG;simp only[BL,Prod.mk.injEq]at q;obtain⟨rfl,rfl⟩:=q;have CN:=Pp (CW z.tm fo);rw[FG]at CN;simp only[CV]at CN;obtain⟨Dl,CN,EP⟩:=CN;have Hw:AO x w (ar.toList.map (ev s.t)++A0) (ar.toList.map a.eval++Dl.toList):=(AO.of_map λy _=>CW z.tm y).append EP;have g:=z.good;obtain⟨hd,b1,b2,vs,b3,b4,b5⟩:=g.ok k _ hk;have Fh:=Qn (n:=vs.size) _ _ _ A3 b5;have PO : ∀j,j<vs.size->¬x.S (x.loc k).b j:=λj hj=>g.EA k _ j hk ⟨rfl,Ux⟩
 have Co:=K9 x.S w _ (x.loc k).b vs g.ex PO b3 Fh (AJ2 (by first|exact b4|exact b4.symm) _ _ _ hp Hw);have CT:fn.body≠none:=by intro e;rw[e]at hb;cases hb
 have F6:fn.name≠ "runtime.NumGoroutine":=by simpa using hn
 have A1:(execOp a.eval o).run P w=.ok (.enter f' (ar.toList.map a.eval++Dl.toList).toArray) w:=by
  have e1:(ar.map a.eval++Dl)=(ar.toList.map a.eval++Dl.toList).toArray:=by apply Gx.1;simp
  simp[execOp,ho,resolve,CN,Deferred.ofValue,invoke,callFunc,program,Sem.run,hf,F6,CT,e1]
 unfold Oper.wp;rw[A1];refine Co.mono ?_;rintro r' w' ⟨u,S',Bz,rfl,M,CZ,Gc,h1,h2,h3,h4⟩;have A5:=(g.ok k _ hk).2.lt b2;have he:Ext x { x with S:=S' } w w':=⟨CZ,λ_ h=>h,λ_ _=>FM.refl _⟩
 have g':=g.H5 (x':={ x with S:=S' }) k (.box ty cs' U) he (M.wide λb e=>⟨hd,b2,e.symm⟩) (λi=>⟨.inl,λh=>h.elim id λe=>e ▸ hd⟩) (λ_ _=>rfl) (λ_=>.inl ⟨hd,b2,rfl⟩)
  ⟨b1,b2,Bz,h1,by rw[h2,b4],Zo (x:={ x with S:=S' }) hd b1 rfl _ _ _ R5 jg h3⟩ (λb j hs=>(Gc b j hs).imp id λh=>h.elim (λh=>⟨h.2,.inl h.1,λe=>by have:(x.loc k).b=b:=e;omega⟩) (λh=>⟨by rw[h.1];exact H7 A5 M.size,.inr ⟨hd,b2,h.1.symm⟩,λ_ hx=>by have h5:j<(x.loc k).n:=hx.2;have h6:=h.2;omega⟩)) (λj hx=>g.EA k _ j hk hx)
 have CB:NC w w':=⟨M.size,λb ob D7 II=>(M.block b (DO.1 D7).1 λe=>by subst e;rw[b3]at D7;cases D7;cases II).trans D7⟩
 have e:=Kj s.h (J (k,O.box ty cs' U)) (λk' o' e=>by cases e;exact LZ (Br.1 hk).1);have A2:Good S0 w0 { x with S:=S' } w' (λi=>(Bk s.h (J (k,O.box ty cs' U)))[i]?):=by rw[e];exact g'
 exact h S0 w0 _ _ w' (Bo.put z.tm (z.df.mono CB) he A2 (CV.mono (Ub S' x w') _ _ h4) o.dst)
end
section
variable {P:Program} {S0:BF} {w0:Bs} {x:Cx} {w:World} {H:Bx} {a:Act} {o:Oper}
theorem AFg {α:Type}{l:List α}(M:0<G l):∀(m i:Nat),i<m*G l->(Aq m l).flatten[i]?=l[i % G l]?
 | 0,i,h=>by simp at h
 | m+1,i,h=>by
   rw[BY,Hp];by_cases B:i<G l;rw[EJ B,Nat.mod_eq_of_lt B];rw[Gy Ux,AFg M m (i - G l) (by rw[Gz,gE]at h;omega)];rw[<-Nat.mod_eq_sub_mod Ux]
theorem Aa8 {z:Array Value}(B:0<z.size)(m:Nat):(KN z m).toList=(Aq m z.toList).flatten:=by
 apply List.ext_getElem?;intro i;by_cases M:i<m*z.size;rw[AFg (by simpa using B) m i (by simpa using M)];have hm:i % z.size<z.size:=Nat.mod_lt _ B;simp[KN,M,hm];have S:(KN z m).toList.length<=i:=by simp[KN];omega
 have q:G ((Aq m z.toList).flatten)<=i:=by simp;omega
 rw[M6 S,M6 q]
theorem toCs_mapC : ∀l:List C,toCs (l.map V.c)=J l
 | []=>rfl
 | c::l=>by simp only[Ap,toCs,toC,toCs_mapC l]
theorem AUs (g:Good S0 w0 x w H){t:TypeId}{y z:Operand}(ho:o.op=.call ⟨.builtin .append,#[y,z],#[t,t]⟩){Ae:TypeId}{es Bq:Nat}(hT:Dk P t=J (Ae,es,Bq)){zs:List V}(R7:C2 P Ae=J zs){zc:List C}(Ww:V.CF zs=J (zc.map V.c))(h0:0<es){AG:List (List C)}(A8 : ∀r∈AG,G r=es)(hY:CV x w (.Bg []) (a.eval y))(hZ:CV x w (.c (.sl AG)) (a.eval z))(A1:AG≠[])(S:G AG<=1000000)(A0:Bq<=200)(k0:Nat)(hk : ¬x.dom k0) :
 ∃m:Nat,BW P o a S0 w0 x w H (.own k0 0 (G AG) es) (J (k0,.box Ae ((AG.flatten++(Aq m zc).flatten).map V.c) U)):=by
 obtain⟨hu,ie,q,EB,hz,A2,je,A3⟩:=JS hT;obtain⟨zk,Y9,IN,i2,J9,R8⟩:=Z2 (x:=x) (w:=w) R7;rw[EB]at J9;cases J9;rw[hz]at R8;cases R8;have B0:=MC _ _ _ Ww IN;simp only[CV]at hY hZ;obtain⟨A,hA,_⟩:=hY;obtain⟨B,c',xs,VE,k1,k2,k3,k4,k5,k6⟩:=T0 hZ A8;obtain⟨b,A5,rfl,_⟩:=k6 A1;have Gs:0<G AG:=Kr.2 A1;have Dz:G AG*ie.bytes<=281474976710656:=by rw[je];have:=ua S A0;omega
 have Gb:Ay w w.drew:=(Ay.refl w).drew;obtain⟨g1,Mg⟩:=g.MF (x':=x) (w':=w.drew) Gb ⟨λ_ _ h=>h,λb j v _ hc=>Gb.cell hc⟩ rfl rfl (λb j h=>.inl h);have M : ∃m cap:Nat,(Builtin.append_ #[t,t] o.type #[a.eval y,a.eval z]).run P w=.ok (.slice (J ⟨w.heap.size,0,E⟩) (G AG) cap) (w.drew.alloc (.cells (xs.toArray++KN q.cells m) Ae))/\cap=G AG+m/\cap<=maxLen:=by
  have JL:=grownCap_ge w (G AG) 0 Ae;have A9:=grownCap_le_maxLen w (G AG) 0 Ae (by unfold maxLen;omega);refine⟨grownCap w (G AG) 0 Ae - G AG,grownCap w (G AG) 0 Ae,?_,Ux,A9⟩;rw[hA,VE];cases A with
  | none=>exact run_append_nil (P:=P) w t o.type Ae ie q hu EB hz ⟨b,A5,E⟩ (G AG) c' xs (by rw[k4,A2]) (k5 _ F) Gs Ux Dz
  | some ad=>have:=run_append_grow (P:=P) w t o.type Ae ie q hu EB hz ad 0 0 [] ZA (λj v h=>by simp at h) ⟨b,A5,E⟩ (G AG) c' xs (by rw[k4,A2]) (k5 _ F) Ux (by simp only[Cz];omega) (growslice_fits Ux (by rw[je];simp only[Cz];have:=ua S A0;omega));simp only[Cz,BU]at this;refine this.trans ?_;simp
 obtain⟨m,cap,M,Mf,A6⟩:=M;have mf:=Aa8 (z:=q.cells) (by rw[A3];exact h0) m;have A7:AO x w.drew ((AG.flatten++(Aq m zc).flatten).map V.c) (xs.toArray++KN q.cells m).toList:=by
  rw[Pq,mf,Fm];refine AO.append (AO.mono Mg _ _ (AO.OS k3)) ?_;have hr:=toCs_ok (toCs_mapC zc) B0;have h4:AO x w (zc.map V.c) q.cells.toList:=AO.OS hr;have h5:=h4.px m;rw[show (Aq m (zc.map V.c)).flatten=((Aq m zc).flatten).map V.c by rw[List.map_flatten,List.map_replicate]]at h5;exact AO.mono Mg _ _ h5
 obtain⟨g',he⟩:=g1.Zc k0 hk Ae _ _ A7;refine⟨m,_,_,_,_,by simp[execOp,ho,resolve,invoke,builtin,M];rfl,.inl F,?_,g',Mg.trans he,λk h=>h.elim .inl λe=>.inr ⟨.box Ae ((AG.flatten++(Aq m zc).flatten).map V.c) U,by rw[e]⟩,λhb=>by rw[ho]at hb;cases hb⟩;simp only[CV,Cx.C4,Awg];refine⟨.inr W,W,cap,F,Ux,A6,?_⟩;have B1:(KN q.cells m).size=m*es:=by rw[size_zeroCells,A3]
 show 0+cap*es<=(xs.toArray++KN q.cells m).size;rw[Array.size_append,List.size_toArray,B1,k4,Mf,Gz];omega
theorem AIt (g:Good S0 w0 x w H){t:TypeId}{y z:Operand}(ho:o.op=.call ⟨.builtin .append,#[y,z],#[t,t]⟩){Ae:TypeId}{es Bq:Nat}(hT:Dk P t=J (Ae,es,Bq)){zs:List V}(R7:C2 P Ae=J zs){zc:List C}(Ww:V.CF zs=J (zc.map V.c))(h0:0<es){AG:List (List C)}(q : ∀r∈AG,G r=es)(hY:CV x w (.Bg []) (a.eval y))(hZ:CV x w (.c (.sl AG)) (a.eval z))(A0:AG≠[])(B:G AG<=1000000)(S:Bq<=200)(M:Nat)(hk : ¬x.dom M) :
 ∃v t',(∀k ob,t'=J (k,ob)->k<=M)/\(∃m:Nat,v=.own M 0 (G AG) es/\t'=J (M,.box Ae ((AG.flatten++(Aq m zc).flatten).map V.c) U))/\BW P o a S0 w0 x w H v t':=by
 obtain⟨m,hm⟩:=AUs g ho hT R7 Ww h0 q hY hZ A0 B S M hk;exact⟨_,_,λk ob e=>by cases e;exact BN _,⟨m,rfl,rfl⟩,hm⟩
theorem AIW : ∀l:List C,V.Pn (l.map V.c)=I
 | []=>rfl
 | c::l=>by simp only[Ap,V.Pn,V.Q6,Cd];exact AIW l
theorem AIV (k:Nat):∀l:List C,V.Dj k (l.map V.c)=J (l.map V.c)
 | []=>rfl
 | c::l=>by simp only[Ap,V.Dj,V.Di,AIV k l]
end
def AZu (L:List Oper)(n:Nat):Bool:=(E6 (G L)).all λj=>decide (j<n) || (E6 j).all λi=>((eI L).getD j []).contains i
theorem Anz {o:Oper}{a:Act}{w:World}{K:Act->World->Prop}{Q S:Exit->Act->World->Prop}(M : ∀e a w,e≠.normal->Q e a w->S e a w)(hh:o.wp P a w K Q):o.wp P a w K S:=by
 unfold Oper.wp at *
 generalize (execOp a.eval o).run P w=r at *
 cases r with
 | ok n q =>
   cases n<;>simp only[Nt]at hh ⊢<;>
    first
     | exact hh
     | exact Calls.mono hh (λe z B=>by
        cases e<;>first
         | exact B
         | exact M _ _ _ (λh=>nomatch h) B
         | (obtain⟨a,w,h⟩:=B;exact⟨a,w,M _ _ _ (λh=>nomatch h) h⟩))
 | halt x q=>cases x<;>simp only[Nt]at hh ⊢<;>first|exact hh|exact M _ _ _ (λh=>nomatch h) hh
def hdQ (R:Act->World->Prop)(Q:Exit->Act->World->Prop):Exit->Act->World->Prop
 | .normal,a,w=>R a w
 | e,a,w=>Q e a w
theorem Air (e:Exit)(a:Act)(w:World)(h:e≠.normal)(B:hdQ R Q e a w):Q e a w:=by
 cases e<;>first|exact absurd rfl h|exact B
theorem Anx {l m:List Oper}(hg : ∀o∈l,o.guard=E)(he : ∀i o,l[i]?=J o->∀j∈GL o,j<i)(ht:AZu (l++m) (G l)=I)(hR : ∀a w,R a w->Si P (l++m) Q (G l) a w):
 ∀(q vw:Nat) (b c:Array Bool) (a:Act) (w:World),b.size=G l->c.size=G (l++m)->(∀i,i<G l->c.getD i U=b.getD i U)->(∀i,G l<=i->c.getD i U=U)->(∀i o,l[i]?=J o->b.getD i U=I->∀j∈GL o,b.getD j U=I)->G (l++m)<=vw+(E6 (G l)).countP (λi=>b.getD i U)->
  wpAny P .any l.toArray (hdQ R Q) q b a w->wpAny P .any (l++m).toArray Q vw c a w:=by
 intro q;induction q with
 | zero =>
   intro vw b c a w hb hc M h2 DK hf h;have A0 : ∀i,i<G l->b.getD i U=true:=by
    intro i;induction i using AC7 with
    | _ i ih =>
      intro S;cases z:b.getD i U with
      | true=>rfl
      | false =>
        have:i∈mr .any l.toArray b:=by
         rw[mem_ready];refine⟨by rw[WS _ _ Ux];exact z,l[i],ZA,λe M h2=>?_⟩;have B:=he i l[i] (BE S) e.on (dZ.2 ⟨e,M,h2,rfl⟩);exact ih e.on B Ux
        rw[h.1]at this;cases this
   have GM:(E6 (G l)).countP (λi=>b.getD i U)<=G l:=by
    have:=AMZ (p:=λi=>b.getD i U) (l:=E6 (G l));simpa using this
   exact hR a w h.2 vw c Ux hc (λi S=>by rw[M i S,A0 i S]) h2
 | succ q ih =>
   intro vw b c a w hb hc M h2 DK hf h;have GM:(E6 (G l)).countP (λi=>b.getD i U)<=G l:=by
    have:=AMZ (p:=λi=>b.getD i U) (l:=E6 (G l));simpa using this
   by_cases hn:mr .any l.toArray b=[]
   have A0 : ∀i,i<G l->b.getD i U=true:=by
    intro i;induction i using AC7 with
    | _ i ih =>
      intro S;cases z:b.getD i U with
      | true=>rfl
      | false =>
        have:i∈mr .any l.toArray b:=by
         rw[mem_ready];refine⟨by rw[WS _ _ Ux];exact z,l[i],ZA,λe M h2=>?_⟩;have B:=he i l[i] (BE S) e.on (dZ.2 ⟨e,M,h2,rfl⟩);exact ih e.on B Ux
        rw[hn]at this;cases this
   exact hR a w (h.1 hn) vw c Ux hc (λi S=>by rw[M i S,A0 i S]) h2;obtain⟨i0,cq⟩:=List.exists_mem_of_ne_nil _ hn;have up : ∀i,i∈mr .any l.toArray b->i<G l/\i∈mr .any (l++m).toArray c:=by
    intro i S;rw[mem_ready]at S;obtain⟨g1,o,ho,g2⟩:=S;have ho:l[i]?=J o:=by simpa using ho
    have A1:=(Br.1 ho).1;rw[WS _ _ Ux]at g1;refine⟨A1,?_⟩;rw[mem_ready];refine⟨by rw[WS _ _ (by rw[hc,Cp];omega),M i A1];exact g1,o,by simpa [EJ A1]using ho,λe k1 k2=>?_⟩;have B:=he i o ho e.on (dZ.2 ⟨e,k1,k2,rfl⟩);rw[M _ Ux];exact g2 e k1 k2
   have A2:=(up i0 cq).1;have A9:(E6 (G l)).countP (λi=>b.getD i U)<G l:=by
    obtain⟨A1,_⟩:=up i0 cq;rw[mem_ready]at cq;have g1:=cq.1;rw[WS _ _ Ux]at g1;have:=AE2 (p:=λ_=>I) (p':=λi=>b.getD i U) (E6 (G l)) (λ_ _ _=>rfl) i0 (KP.2 A1) rfl g1;simpa using this
   cases vw with
   | zero=>rw[Cp]at hf;omega
   | succ k =>
   refine⟨λe=>?_,λi S=>?_⟩;have:=(up i0 cq).2;rw[e]at this;cases this;rw[mem_ready]at S;obtain⟨g1,o,ho,g2⟩:=S;have Hz:(l++m)[i]?=J o:=by simpa using ho
   have Dn:=(Br.1 Hz).1;have A5 : ∀i o,(l++m)[i]?=J o->c.getD i U=I->∀j∈GL o,c.getD j U=true:=by
    intro i o h3 h4 j B;have OF:i<G l:=AkJ λh=>by rw[h2 i h]at h4;cases h4
    rw[EJ OF]at h3;have:=he i o h3 j B;rw[M i OF]at h4;rw[M j Ux];exact DK i o h3 h4 j B
   have OF:i<G l:=AkJ λJL=>by
    unfold AZu at ht;simp only[ES,KP,T9,Awe,mR]at ht;have hp:=(ht i Dn).resolve_left Ux i0 (by have:=(up i0 cq).1;omega);have z:=ABC (λj=>c.getD j U=I\/j=i) (l++m) [] [] rfl (λi' o' JM z j B=>by
     rcases z with z|rfl
     exact .inl (A5 i' o' (by simpa using JM) z j B);have JM:(l++m)[i']?=J o':=by simpa using JM
     rw[Hz]at JM;cases JM;obtain⟨e,k1,k2,k3⟩:=dZ.1 B;rw[<-k3];exact .inl (g2 e k1 k2)) (λi' r' h=>by simp at h) i ((eI (l++m)).getD i []) (by
     rw[Bv]at hp ⊢;cases hq:(eI (l++m))[i]? with
     | none=>rw[hq]at hp;cases hp
     | some y=>exact hq) (.inr F) i0 hp
    rcases z with z|z
    rw[M _ A2]at z;rw[mem_ready]at cq;have g3:=cq.1;rw[WS _ _ (by rw[hb];exact A2),z]at g3;cases g3;omega
   have TY:l[i]?=J o:=by rw[EJ OF]at Hz;exact Hz
   rw[WS _ _ Ux,M i OF]at g1;have A6:i∈mr .any l.toArray b:=by
    rw[mem_ready];refine⟨by rw[WS _ _ Ux];exact g1,o,by simpa using TY,λe k1 k2=>?_⟩;have:=he i o TY e.on (dZ.2 ⟨e,k1,k2,rfl⟩);rw[<-M _ Ux];exact g2 e k1 k2
   have hw:=h.2 i A6;have A7:=hg o (Cj TY);have A8 : ∀f,FB o f=true:=λf=>by simp[FB,A7]
   show wpOp P (l++m).toArray Q i _ a w;unfold wpOp at hw ⊢;rw[show l.toArray[i]?=J o by simpa using TY]at hw;rw[show (l++m).toArray[i]?=J o by simpa using Hz];simp only[A8,Awg]at hw ⊢;rcases hw with hw|⟨k1,a',w',k2⟩
   refine .inl (Anz Air (Oper.wp_mono (λa w hh=>?_) hw));have OD:=λj=>Rb b i j Ux
   have A3:=λj=>Rb c i j Ux
   refine ih k _ _ a w (by simpa using hb) (by simpa using hc) (λj B=>by rw[OD,A3,M j B]) (λj B=>by rw[A3,Awf Ux];exact h2 j B) (λi' o' k3 k4 j B=>?_) ?_ hh;rw[OD]at k4 ⊢;split;rfl;split at k4;rename_i e;subst e;rw[TY]at k3;cases k3;have:=he i o TY j B;obtain⟨e,q1,q2,q3⟩:=dZ.1 B;rw[<-M j Ux,<-q3];exact g2 e q1 q2;exact DK i' o' k3 k4 j B;have:=AE2 (p:=λj=>(b.setIfInBounds i I).getD j U) (p':=λj=>b.getD j U) (E6 (G l)) (λj _ h=>by rw[OD,h,ite_self]) i (KP.2 OF) (by rw[OD,Awd rfl]) g1;omega;exact .inr ⟨k1,a',w',Air _ _ _ (λh=>nomatch h) k2⟩
theorem AW.o6 {n0 id:Nat}(n:Nat){L:List Oper}{K:Exit->St->Prop}{s:St}(hm:P.follows .mixedOrders=I)(hl:(((L.take n).all λo=>o.guard.isNone) && (decide (n<=G L) && (AZu L n && lN L n (G L))))=I)(h:AK P (L.take n) (SW P L K (L.drop n)) (L.take n) [] s):AW ⟨E,n0⟩ P (.region id L.toArray I) K s:=λn1 S0 w0 x a w qq B=>by
 have e:({ w with drawn:=w.drawn+1 }:World)=w.drew:=F;have Au:Bo S0 w0 x s a w.drew:=by
  obtain⟨g,he⟩:=B.good.MF (x':=x) (w':=w.drew) (Ay.refl w).drew ⟨λ_ _ h=>h,λb j v _ q=>(Ay.refl w).drew.cell q⟩ rfl rfl (λb j h=>.inl h);exact⟨g,AO.mono he _ _ B.tm,B.df.mono (.FR (Ay.refl w).drew)⟩
 refine wpIn_wide.2 (wp_region_any hm ?_);rw[e];simp only[Ak,Awe,ES]at hl;obtain⟨hg,IJ,ht,hs⟩:=hl;have hL:=List.take_append_drop n L;have zT:G (L.take n)=n:=by rw[Fa];omega
 obtain⟨l,M⟩:=AI (L.take n);obtain⟨m,S⟩:=AI (L.drop n);rw[M]at hg hL zT h;rw[S]at hL h;clear M S;subst hL;subst zT;obtain⟨es,s',hr,q,hK⟩:=iL _ _ _ (h [] F);have hd:=pY (Q:=hdQ (λa w=>∃x s',Bo S0 w0 x s' a w/\SW P (l++m) K m s') λe a w=>∃x s,Bo S0 w0 x s a w/\K e s) (K:=SW P (l++m) K m) (Z:=λ_=>False) (n:=0) hr.z (by simpa using q) hK (λx s a w h B=>⟨x,s,B,h⟩) (λ_ _ k _ hk=>absurd hk (UE k)) (λ_ _ _ _ _ h=>h.elim) Au;have A0:Lk l (es.map Ef.ks)=true:=by simpa using q
 refine Anx (λo ho=>by simpa using hg o ho) (λi o ho j hj=>?_) ht (λa w hR=>?_) _ _ _ _ a w.drew ZA ZA (λi hi=>by rw[r5,r5]) (λi hi=>r5 _ _) (λi o _ h=>by rw[r5]at h;cases h) ZA hd;obtain⟨_,_,_,_,⟨hb,_⟩,_⟩:=xC A0 ho;exact hb j hj;obtain⟨x,s',B,hS⟩:=hR;refine Aay hs IJ (G (l++m) - G l) (G l) a w Ux (BN _) ?_;rw[List.drop_left,Gl ZA];exact ACY (hS S0 w0 x a w B)
end Go.Proofs.YtegconioojpgmaaGreat
