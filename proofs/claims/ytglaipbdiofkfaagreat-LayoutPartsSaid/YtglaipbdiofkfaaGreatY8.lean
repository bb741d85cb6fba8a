/- Part of the proof of some laws. Conditions: none. -/
import Derived.MapKept
import Derived.Lib.AppendZerosOnto
import Derived.Tactics
import Derived.Tactics2
import Derived.Defers
import Derived.Recover
import Derived.Test.YtglaipbdiofkfaaGreatY6
import Derived.Test.YtglaipbdiofkfaaGreatY7
set_option linter.unusedVariables false
set_option linter.unusedSimpArgs false
set_option maxRecDepth 100000
set_option maxHeartbeats 16000000
open Go.Proofs.Tryz renaming prog→AF,results77→g8,results113→vI,results61→ACU,results191→ADH,results38→g7,results224→AR9,func185→AFW,ntmps185→AGE,results185→Px,func243→fp,ntmps243→AGH,results243→vM,results168→Abe,results56→ADV,func22→nF,ntmps22→nS,results22→MO,func190→Nv,ntmps190→Nw,results190→Nx
open List renaming drop_zero→B9,drop_succ_cons→CU,foldl_cons→Bw,foldl_nil→CO,set_cons_zero→Ag,set_cons_succ→Ai,all_cons→Ep,all_nil→Nq,mem_of_getElem?→Cj,length_map→Ch,getElem?_eq_getElem→BE,getElem?_map→CM,drop_eq_getElem_cons→D5,take_add_one→UC,getElem?_take→KO,drop_of_length_le→FA,length_nil→BO,nil_append→BU,length_cons→BA,map_cons→Ap,map_nil→BB,sizeOf_lt_of_mem→gD,eq_nil_of_length_eq_zero→Nr,length_eq_one_iff→AMi,mem_cons_self→GH,replicate_succ→BY,replicate_zero→Cy,cons_append→BK
open Bool renaming true_and→Cd,false_and→D4,not_true→tv,not_false→ly
open Nat renaming le_refl→BN,lt_irrefl→IY,lt_of_lt_of_le→H7
open SizeOf renaming sizeOf→UF
open Go.Instr renaming makeMap→mG,checkKey→uG,makeFunc→uH
open Go.Sem renaming run_bind→Jt,run→HW
open Go.Result renaming andThen_ok→Oo
open Go.Op renaming equal→Pt,equalIn→aP
open Go.MapKept renaming run_checkKey→AMu
open Go.IntKind renaming i64→AZ
open Go.Builtin renaming firstCells→fc,zeroCells→KN
open Go.Exit renaming thenS→uF
open Go.World renaming size_alloc→vl
open Go.Lib renaming hid→Xl
open Option renaming some→J,none→E
open Bool renaming false→U,true→I
open List renaming length→G
namespace Go.Proofs.YtglaipbdiofkfaaGreat
open Go.RowKit Tryz
@[simp] theorem Aeq:Dk AF 28=J (117,4,32):=by kernel_rfl
structure En where
 text:ByteArray
 cls:Int
 dW:Bool
 str:Bool
def En.row (e:En):List C:=[.str e.text,.int .i64 e.cls,.bool e.dW,.bool e.str]
def En.vs (e:En):List V:=e.row.map V.c
def WH (e:En):V:=.agg e.vs
def Cc (l:List En):C:=.sl (l.map En.row)
section
variable (b:En)
@[simp] theorem En.Xf:G b.vs=4:=F
@[simp] theorem En.ACP:b.vs.all V.one=true:=F
@[simp] theorem En.ACR:b.vs.take 4=b.vs:=F
@[simp] theorem En.ACN:b.vs[0]?=J (.c (.str b.text)):=F
@[simp] theorem En.ACG (h:0<G b.vs):b.vs[0]'h=.c (.str b.text):=F
@[simp] theorem En.AL7:b.vs[1]?=J (.c (.int .i64 b.cls)):=F
@[simp] theorem En.AL5 (h:1<G b.vs):b.vs[1]'h=.c (.int .i64 b.cls):=F
@[simp] theorem En.tX:V.CF b.vs=J b.vs:=Zq b.row
@[simp] theorem En.ACS:toCs b.vs=J b.row:=toCs_c b.row
@[simp] theorem En.AL9 (cs:List V)(h:G cs=4):E8 cs 0 b.vs=b.vs:=kz (by simp[h])
@[simp] theorem En.Nk:G b.row=4:=F
@[simp] theorem En.ABb:b.row.map V.c=b.vs:=F
@[simp] theorem En.AKV:b.row.take 4=b.row:=F
@[simp] theorem En.AXz:b.row[0]?=J (.str b.text):=F
@[simp] theorem En.AX0:b.row[1]?=J (.int .i64 b.cls):=F
@[simp] theorem En.tW (n:Nat):V.BI n b.vs=true:=F
@[simp] theorem En.ACQ (k:Nat)(row:List C):V.Cs k row b.vs=b.vs:=F
end
def fR (c:Int):Bool:=decide (33<=c/\c<=126)
def En.ok (e:En):Bool:=FC fR e.text && (decide (1<=e.text.size) && (decide (e.text.size<=16) && (decide (0<=e.cls) && decide (e.cls<=7))))
def ja (l:List En)(t:ByteArray):Bool:=l.any λe=>decide (e.text=t)
def WQ:List En->List En->Bool
 | _,[]=>I
 | pre,e::r=>e.ok && (!ja pre e.text && WQ (pre++[e]) r)
def Ll (l:List En):Bool:=WQ [] l && decide (G l<=200)
def He (l:List En)(t:ByteArray):En:=match l with
 | []=>⟨t,0,U,U⟩
 | e::r=>if e.text=t then e else He r t
def Mn:List En->ByteArray->Int
 | [],_=> -1
 | e::r,t=>if e.text=t then 0 else if Mn r t= -1 then -1 else Mn r t+1
theorem AAF : ∀(l:List En) (t:ByteArray),(Mn l t= -1/\He l t=⟨t,0,U,U⟩)\/∃k:Nat,Mn l t=k/\l[k]?=J (He l t)
 | [],t=>.inl ⟨rfl,rfl⟩
 | e::r,t=>by
   simp only[Mn,He];by_cases h:e.text=t;rw[if_pos h,if_pos h];exact .inr ⟨0,rfl,rfl⟩;rw[if_neg h,if_neg h];rcases AAF r t with ⟨B,K⟩|⟨k,B,K⟩
   rw[if_pos B];exact .inl ⟨rfl,K⟩;rw[B,if_neg (by omega)];exact .inr ⟨k+1,by omega,by simpa using K⟩
theorem AHq : ∀(l:List En) (t:ByteArray) (k:Nat),(∀(j:Nat) (e:En),j<k->l[j]?=J e->¬e.text=t)->Mn l t=if Mn (l.drop k) t= -1 then -1 else Mn (l.drop k) t+k
 | l,t,0,_=>by simp only[B9];split<;>omega
 | [],t,k+1,_=>by simp[Mn]
 | e::r,t,k+1,h=>by
   have B : ¬e.text=t:=h 0 e (by omega) F;have ih:=AHq r t k (λj x S M=>h (j+1) x (by omega) (by simpa using M));simp only[Mn,if_neg B,CU];rw[ih];split;simp;rename_i Q;have R : -1<=Mn (r.drop k) t:=by
    rcases AAF (r.drop k) t with ⟨K,_⟩|⟨n,K,_⟩<;>omega
   rw[if_neg (by omega)];omega
theorem AV8 (e:En)(hs:e.text.size<=maxLen):AC AF 77 [WH e] (.c (.bool e.ok)):=by
 unfold maxLen at hs;obtain⟨s,M⟩:=AI e.text;obtain⟨cl,z⟩:=AI e.cls;unfold WH En.ok;rw[M,z];rw[M]at hs;refine en func77 ntmps77 ?_;refine wy (cj @M<|g8) trivial ⟨?_⟩;refine lp (ι:={ k:Nat // k<=s.size/\FC fR s=(s.data.toList.drop k).all λb=>fR b.toNat }) (λk=>[(2,.c (.bool U)),(3,.c (.int .i64 (k.1:Int)))]) (λ_=>[.box 117 e.vs U]) (λk=>s.size - k.1) ⟨0,by simp[FC]⟩ ?_ ?_;all_goals simp only[CG,Bw,CO,Ag,Ai]
 exact DH;rintro ⟨k,hk,K⟩;simp only;by_cases B:k<s.size;obtain⟨b,hb,q,hd,R,_⟩:=bS B;rw[hd,Ep]at K;obtain⟨c,S⟩:∃c:Int,(b.toNat:Int)=c:=⟨_,rfl⟩
 rw[S]at K;cases Q:fR c with
 | true=>rw[Q,Cd]at K;simp[fR]at Q;refine wy (cj @M<|cj @B<|cj @R<|cj @hb<|cj @q<|cj @S<|cj (Q.1)<|cj (Q.2)<|g8) trivial ⟨?_⟩;exact⟨⟨k+1,by omega,K⟩,by simp only;omega,wd 1⟩
 | false=>rw[Q,D4]at K;simp[fR]at Q;rw[K,D4];exact wz (cj6 @M @B @R @hb @q @S g8) W
 rw[ij B,Nq]at K;rw[K,Cd];have R : ¬(k:Int)<(s.size:Int):=by omega
 have e1:((s.size:Int)<=16)=(s.size<=16):=by rw[eq_iff_iff];omega
 have e2:((1:Int)<=(s.size:Int))=(1<=s.size):=by rw[eq_iff_iff];omega
 exact wz (cj6 @M @z @B @R @e1 @e2 g8) W
theorem AnF (e:En)(hs:e.text.size<=maxLen):AC AF 113 [WH e] (.c (.bool e.ok)):=by
 unfold maxLen at hs;obtain⟨s,M⟩:=AI e.text;obtain⟨cl,z⟩:=AI e.cls;unfold WH En.ok;rw[M,z];rw[M]at hs;refine en func113 ntmps113 ?_;refine wy (cj @M<|vI) trivial ⟨?_⟩;refine lp (ι:={ k:Nat // k<=s.size/\FC fR s=(s.data.toList.drop k).all λb=>fR b.toNat }) (λk=>[(2,.c (.bool U)),(3,.c (.int .i64 (k.1:Int)))]) (λ_=>[.box 117 e.vs U]) (λk=>s.size - k.1) ⟨0,by simp[FC]⟩ ?_ ?_;all_goals simp only[CG,Bw,CO,Ag,Ai]
 exact DH;rintro ⟨k,hk,K⟩;simp only;by_cases B:k<s.size;obtain⟨b,hb,q,hd,R,_⟩:=bS B;rw[hd,Ep]at K;obtain⟨c,S⟩:∃c:Int,(b.toNat:Int)=c:=⟨_,rfl⟩
 rw[S]at K;cases Q:fR c with
 | true=>rw[Q,Cd]at K;simp[fR]at Q;refine wy (cj @M<|cj @B<|cj @R<|cj @hb<|cj @q<|cj @S<|cj (Q.1)<|cj (Q.2)<|vI) trivial ⟨?_⟩;exact⟨⟨k+1,by omega,K⟩,by simp only;omega,wd 1⟩
 | false=>rw[Q,D4]at K;simp[fR]at Q;rw[K,D4];exact wz (cj6 @M @B @R @hb @q @S vI) W
 rw[ij B,Nq]at K;rw[K,Cd];have R : ¬(k:Int)<(s.size:Int):=by omega
 have e1:((s.size:Int)<=16)=(s.size<=16):=by rw[eq_iff_iff];omega
 have e2:((1:Int)<=(s.size:Int))=(1<=s.size):=by rw[eq_iff_iff];omega
 exact wz (cj6 @M @z @B @R @e1 @e2 vI) W
theorem Aim (l:List En)(t:ByteArray):ja l t=U↔∀(j:Nat) (e:En),l[j]?=J e->¬e.text=t:=by
 unfold ja;rw[List.any_eq_false];constructor;intro h j e B;simpa using h e (Cj B);intro h e B;obtain⟨j,K⟩:=List.getElem?_of_mem B;simpa using h j e K
theorem Ajw (l:List En)(hl:G l<=1000000)(hs : ∀e∈l,e.text.size<=maxLen):AC AF 61 [.c (Cc l)] (.c (.bool (Ll l))):=by
 obtain⟨rs,Aw⟩:=AI (l.map En.row);have R:G rs=G l:=by rw[<-Aw,Ch]
 unfold Cc Ll;rw[Aw];refine en func61 ntmps61 ?_;refine wy (cj @R<|ACU) trivial ⟨?_⟩;refine lp (ι:={ k:Nat // k<=G l/\WQ [] l=WQ (l.take k) (l.drop k) }) (λk=>[(2,.c (.bool U)),(3,.c (.int .i64 (k.1:Int)))]) (λ_=>[]) (λk=>G l - k.1) ⟨0,by simp⟩ ?_ ?_;all_goals simp only[CG,Bw,CO,Ag,Ai]
 exact DH
 . rintro ⟨k,hk,K⟩;simp only;by_cases B:k<G l
   . obtain⟨e,he⟩:∃e,l[k]?=J e:=⟨_,BE B⟩
     have S:rs[k]?=J e.row:=by rw[<-Aw,CM,he];rfl
     have Dp:k<G rs:=by omega
     have Bu:=gx S;rw[D5 B,gx he]at K;simp only[WQ]at K;have hp:=AnF e (hs e (Cj he));unfold WH at hp;have GP:l.take k++[e]=l.take (k+1):=by rw[UC,he];rfl
     rw[GP]at K;cases ho:e.ok with
     | false=>rw[ho]at hp K;rw[K,D4,D4];exact wz (cj5 @R @B @Dp @S @Bu ACU) (cj hp<|trivial)
     | true =>
       rw[ho]at hp K;rw[Cd]at K;refine wy (cj5 @R @B @Dp @S @Bu ACU) (cj hp<|trivial) ⟨?_⟩;refine lp (ι:={ j:Nat // j<=k/\∀(i:Nat) (x:En),i<j->l[i]?=J x->¬x.text=e.text }) (λj=>[(2,.c (.bool U)),(4,.c (.int .i64 (j.1:Int)))]) (λ_=>[]) (λj=>k - j.1) ⟨0,by simp⟩ ?_ ?_;all_goals simp only[CG,Bw,CO,Ag,Ai]
       exact DH;rintro ⟨j,hj,hJ⟩;simp only;by_cases M:j<k;obtain⟨x,Q⟩:∃x,l[j]?=J x:=⟨_,BE (by omega)⟩
       have Rx:rs[j]?=J x.row:=by rw[<-Aw,CM,Q];rfl
       have q:j<G rs:=by omega
       have z:=gx Rx;by_cases hq:x.text=e.text;have hT:ja (l.take k) e.text=true:=by
        cases hc:ja (l.take k) e.text with
        | true=>rfl
        | false=>exact absurd hq ((Aim _ _).1 hc j x (by rw[KO,if_pos M];exact Q))
       rw[hT,tv,D4]at K;rw[K,D4];exact wz (cj9 @R @B @Dp @S @Bu @M @q @Rx @z<|cj @hq ACU) W;refine wy (cj9 @R @B @Dp @S @Bu @M @q @Rx @z<|cj @hq ACU) trivial ⟨?_⟩;refine⟨⟨j+1,by omega,λi y hi hy=>?_⟩,by simp only;omega,wd 0⟩;by_cases e':i=j;subst e';rw[Q]at hy;cases hy;exact hq;exact hJ i y (by omega) hy;have hT:ja (l.take k) e.text=false:=(Aim _ _).2 λi x Q=>by
        rw[KO]at Q;split at Q;exact hJ i x (by omega) Q;cases Q
       rw[hT,ly,Cd]at K;refine wy (cj @M<|ACU) trivial ⟨?_⟩;exact⟨⟨k+1,by omega,K⟩,by simp only;omega,wd 0⟩
   rw[FA (by omega)]at K;simp only[WQ]at K;rw[K,Cd];have e1:((G l:Int)<=200)=(G l<=200):=by rw[eq_iff_iff];omega
   exact wz (cj3 @R @B @e1 ACU) W
theorem AXe (l:List En)(t:ByteArray)(hl:G l<=1000000):AC AF 191 [.c (Cc l),.c (.str t)] (WH (He l t)):=by
 obtain⟨z,q⟩:=AI (l.map En.row);have M:G z=G l:=by rw[<-q,Ch]
 obtain⟨R,hR⟩:=AI (He l t);unfold Cc WH;rw[q,hR];refine en func191 ntmps191 ?_;refine wy (cj @M<|ADH) trivial ⟨?_⟩;refine lp (ι:={ k:Nat // k<=G l/\R=He (l.drop k) t }) (λk=>[(5,.c (.int .i64 (k.1:Int)))]) (λ_=>[.box 117 [.c (.str ⟨#[]⟩),.c (.int .i64 0),.c (.bool U),.c (.bool U)] U]) (λk=>G l - k.1) ⟨0,by simp[hR]⟩ ?_ ?_;all_goals simp only[CG,Bw,CO,Ag,Ai]
 exact DH;rintro ⟨k,hk,K⟩;simp only;by_cases B:k<G l;obtain⟨e,he⟩:∃e,l[k]?=J e:=⟨_,BE B⟩
 have S:z[k]?=J e.row:=by rw[<-q,CM,he];rfl
 have Dp:k<G z:=by omega
 have Bu:=gx S;rw[D5 B,gx he]at K;simp only[He]at K;by_cases Q:e.text=t;rw[if_pos Q]at K;exact wz (cj6 @M @B @Dp @S @Bu @Q ADH) W;rw[if_neg Q]at K;refine wy (cj6 @M @B @Dp @S @Bu @Q ADH) trivial ⟨?_⟩;exact⟨⟨k+1,by omega,K⟩,by simp only;omega,wd 1⟩;rw[FA (by omega)]at K;simp only[He]at K;subst K;exact wz (cj4 @M @B @En.vs.eq_1 @En.row.eq_1 ADH) W
def SE (l:List En)(k:Nat):ByteArray->Bool:=ja (l.take k)
theorem ATp (l:List En):SE l 0=λ_=>false:=by funext s;simp[SE,ja]
theorem ATq (l:List En)(k:Nat)(e:En)(h:l[k]?=J e):Z6 (SE l k) e.text=SE l (k+1):=by
 funext s;unfold Z6 SE;rw[UC,h];simp only[Option.toList_some,ja,List.any_append,List.any_cons,List.any_nil,Bool.or_false];rw[Bool.or_comm];congr 1
 simp only[decide_eq_decide];exact eq_comm
theorem sM (l:List En)(hl:G l<=1000000)(hs : ∀e∈l,e.text.size<=maxLen):AC AF 38 [.c (Cc l)] (.c (.bool (Ll l))):=by
 obtain⟨rs,Aw⟩:=AI (l.map En.row);have Q:G rs=G l:=by rw[<-Aw,Ch]
 unfold Cc Ll;rw[Aw];by_cases R:G l<=200
 . rw[decide_eq_true R,Bool.and_true];have e1 : ¬(200:Int)<(G l:Int):=by omega
   refine en func38 ntmps38 ?_;refine wu (.mk 3) (cj2 @Q @e1 g7) trivial ⟨?_⟩;refine AW.DA ?_;refine CY (.mk 2) @Q ?_;refine SW.Tq (.mp 0) (J (0,.mp (Kt 0 (SE l 0)))) (λk ob e=>by cases e;exact BN _) rfl (λS0 w0 x a w g S=>?_) ?_;rw[ATp];exact AVJ g rfl (CW S (.tmp 10)) 0 (λhd=>by obtain⟨o,ho⟩:=g.dom 0 hd;simp at ho);simp only[St.step,St.put,Bk,BO,BU,IY,if_false,Ai,Ag];refine CY (.mk 1) trivial ?_;refine SW.nil ?_;refine wy (cj @Q<|g7) trivial ⟨?_⟩;refine lp (ι:={ k:Nat // k<=G l/\WQ [] l=WQ (l.take k) (l.drop k) }) (λk=>[(2,.c (.bool U)),(14,.c (.int .i64 (k.1:Int)))]) (λk=>[.mp (Kt k.1 (SE l k.1))]) (λk=>G l - k.1) ⟨0,by simp⟩ ?_ ?_;all_goals simp only[CG,Bw,CO,Ag,Ai]
   exact DH
   . rintro ⟨k,hk,K⟩;simp only;by_cases M:k<G l
     . obtain⟨e,q⟩:∃e,l[k]?=J e:=⟨_,BE M⟩
       have A9:rs[k]?=J e.row:=by rw[<-Aw,CM,q];rfl
       have Dp:k<G rs:=by omega
       have Bu:=gx A9;rw[D5 M,gx q]at K;simp only[WQ]at K;have z:=AV8 e (hs e (Cj q));unfold WH at z;have GP:l.take k++[e]=l.take (k+1):=by rw[UC,q];rfl
       have TU:=ATq l k e q;have A0:SE l k e.text=ja (l.take k) e.text:=F;rw[GP,<-A0]at K;cases ho:e.ok with
       | false=>rw[ho]at z K;rw[D4]at K;rw[K];exact wz (cj5 @Q @M @Dp @A9 @Bu g7) (cj z<|trivial)
       | true =>
         rw[ho]at z K;rw[Cd]at K;refine wu (.mk 7) (cj5 @Q @M @Dp @A9 @Bu g7) trivial ⟨?_⟩;refine AW.DA ?_;refine SW.take 2 (AH.out ?_);simp only[List.take_succ_cons,List.take_zero];have ff:=(cj @Q<|g7)
         repeat any_goals (first|refine Eo ?_|exact Bt ff|refine De ff ?_|refine BV ff (z) ?_|refine DI ff ?_)
         simp only[CU,B9];refine CY (.mk 5) trivial ?_;refine SW.Tq (.c (.bool (SE l k e.text))) E (λ_ _ e=>nomatch e) (by simp[BQ]) (λS0 w0 x a w g S=>?_) ?_;exact AVF g rfl (CW S (.tmp 22)) (CW S (.tmp 24)) F;simp only[St.step,St.put,Bk,Ai,Ag];generalize hB:SE l k e.text=B at K ⊢;refine CY (.mk 1) trivial ?_;refine SW.nil ?_;cases B with
         | true=>rw[tv,D4]at K;rw[K];exact wz g7 W
         | false =>
           rw[ly,Cd]at K;refine wu (.mk 9) g7 trivial ⟨?_⟩;refine AW.DA ?_;refine CY (.mk 3) trivial ?_;refine SW.Tq .any (J (0,.mp (Kt (k+1) (SE l (k+1))))) (λk ob e=>by cases e;exact Nat.zero_le _) rfl (λS0 w0 x a w g S=>?_) ?_;rw[<-TU];exact AVH g rfl (CW S (.tmp 27)) (CW S (.tmp 29)) rfl rfl (by unfold maxLen;omega);simp only[St.step,St.put,Bk,BA,BO,Nat.reduceAdd,Nat.reduceLT,if_true,Ai,Ag];refine SW.nil ?_;refine wy g7 trivial ⟨?_⟩;exact⟨⟨k+1,by omega,K⟩,by simp only;omega,wd 1⟩
     rw[FA (by omega)]at K;simp only[WQ]at K;rw[K];exact wz (cj2 @Q @M g7) W
 rw[decide_eq_false R,Bool.and_false];have e1:(200:Int)<(G l:Int):=by omega
 refine en func38 ntmps38 ?_;exact wz (cj2 @Q @e1 g7) W
theorem AWI (e:En)(t:ByteArray):AC AF 225 [.agg e.vs,.cp [.str t] 0] (.c (.bool (decide (e.text=t)))):=by
 refine en func225 ntmps225 ?_;exact wz results225 W
theorem AWJ (l:List En)(t:ByteArray)(hl:G l<=1000000):AC AF 224 [.c (Cc l),.fn 225 [.cp [.str t] 0]] (.c (.int .i64 (Mn l t))):=by
 obtain⟨rs,z⟩:=AI (l.map En.row);have M:G rs=G l:=by rw[<-z,Ch]
 obtain⟨R,hR⟩:=AI (Mn l t);unfold Cc;rw[z,hR];refine en func224 ntmps224 ?_;refine wy (cj @M<|AR9) trivial ⟨?_⟩;refine lp (ι:={ k:Nat // k<=G l/\∀(i:Nat) (x:En),i<k->l[i]?=J x->¬x.text=t }) (λk=>[(4,.c (.int .i64 0)),(8,.c (.int .i64 (k.1:Int)))]) (λ_=>[]) (λk=>G l - k.1) ⟨0,by simp⟩ ?_ ?_;all_goals simp only[CG,Bw,CO,Ag,Ai]
 exact DH;rintro ⟨k,hk,hI⟩;simp only;have K:=AHq l t k hI;rw[hR]at K;by_cases B:k<G l;obtain⟨e,he⟩:∃e,l[k]?=J e:=⟨_,BE B⟩
 have q:rs[k]?=J e.row:=by rw[<-z,CM,he];rfl
 have Dp:k<G rs:=by omega
 have Bu:=gx q;have Q:=AWI e t;rw[D5 B,gx he]at K;by_cases S:e.text=t;rw[decide_eq_true S]at Q;have Uw:R=(k:Int):=by simpa [Mn,S]using K
 rw[Uw];clear K Uw hR;exact wz (cj5 @M @B @Dp @q @Bu AR9) (cj Q<|trivial);rw[decide_eq_false S]at Q;refine wy (cj5 @M @B @Dp @q @Bu AR9) (cj Q<|trivial) ⟨?_⟩;refine⟨⟨k+1,by omega,λi x hi hx=>?_⟩,by simp only;omega,wd 0⟩;by_cases e':i=k;subst e';rw[he]at hx;cases hx;exact S;exact hI i x (by omega) hx;rw[FA (by omega)]at K;simp only[Mn]at K;rw[if_pos trivial]at K;exact wz (cj3 @M @B @K AR9) W
theorem AWK (l:List En)(t:ByteArray)(B:G l<=1000000):AC AF 139 [.c (Cc l),.c (.str t)] (.c (.int .i64 (Mn l t))):=by
 have h:=AWJ l t B;refine en func139 ntmps139 ?_;refine wu (.mk 1) results139 trivial ⟨?_⟩;refine Cn 0 ?_;exact wz results139 (cj h<|trivial)
theorem AA8 (l:List En)(t:ByteArray)(hl:G l<=1000000):AC AF 85 [.c (Cc l),.c (.str t)] (WH (He l t)):=by
 have h:=AWK l t hl;obtain⟨S,K⟩:=AI (l.map En.row);have z:G S=G l:=by rw[<-K,Ch]
 unfold Cc at *
 rw[K]at h ⊢;unfold WH;rcases AAF l t with ⟨M,B⟩|⟨k,M,B⟩
 rw[M]at h;rw[B];simp only[En.vs,En.row,Ap,BB];refine en func85 ntmps85 ?_;exact wz results85 (cj h<|trivial);rw[M]at h;generalize hR:He l t=R at B ⊢;have Q:k<G l:=(List.getElem?_eq_some_iff.1 B).1;have q:S[k]?=J R.row:=by rw[<-K,CM,B];rfl
 have Dp:k<G S:=by omega
 have Bu:=gx q;have h0:(0:Int)<=(k:Int):=by omega
 refine en func85 ntmps85 ?_;exact wz (cj6 @z @Q @Dp @q @Bu @h0 results85) (cj h<|trivial)
def N5 (l:List En):Nd->Int
 | ⟨k,t,_,AE⟩ =>
   if k=2 then(He l t).cls
   else if k=7\/k=8\/k=9 then(match AE with
    | ⟨_,_,_,[x]⟩::_=>N5 l x
    | _=>0)
   else if k=5\/k=11\/k=12 then 7 else 0
 termination_by b=>UF b
def bg (l:List En):List Nd->Int
 | b::_=>match b.AE with
   | [x]=>N5 l x
   | _=>0
 | []=>0
theorem AEu (l:List En)(b:Nd):N5 l b=if b.kind=2 then(He l b.text).cls else if b.kind=7\/b.kind=8\/b.kind=9 then bg l b.AE else if b.kind=5\/b.kind=11\/b.kind=12 then 7 else 0:=by
 obtain⟨k,t,c,AE⟩:=b;unfold N5;have e:(match AE with
  | ⟨_,_,_,[x]⟩::_=>N5 l x
  | _=>0)=bg l AE:=by
  match AE with
  | []=>rfl
  | ⟨_,_,_,[]⟩::_=>rfl
  | ⟨_,_,_,[x]⟩::_=>rfl
  | ⟨_,_,_,x::y::r⟩::_=>rfl
 rw[e]
theorem AUf {Q:Nd->Prop}(h : ∀b:Nd,(∀k∈b.AE,∀j∈k.AE,Q j)->Q b):∀b:Nd,Q b:=by
 have : ∀(n:Nat) (b:Nd),UF b<n->Q b:=by
  intro n;induction n with
  | zero=>intro b B;omega
  | succ n ih =>
    intro b B;refine h b λk S j R=>ih j ?_
    have K:=gD S;have M:=gD R;cases b;cases k;simp only[Nd.mk.sizeOf_spec]at B K M;omega
 exact λb=>this _ b (Nat.lt_succ_self _)
theorem AOR (l:List En):bg l []=0:=F
theorem AOS (l:List En)(b x:Nd)(r:List Nd)(h:b.AE=[x]):bg l (b::r)=N5 l x:=by
 show (match b.AE with | [x]=>N5 l x|_=>0)=_;rw[h]
theorem AOT (l:List En)(b:Nd)(r:List Nd)(h : ¬G b.AE=1):bg l (b::r)=0:=by
 show (match b.AE with | [x]=>N5 l x|_=>0)=_;match B:b.AE with
 | []=>rfl
 | [x]=>rw[B]at h;exact absurd rfl h
 | x::y::q=>rfl
theorem Amk (l:List En)(hl:G l<=1000000):∀b:Nd,b.BX->AC AF 185 [.c (Cc l),Am b] (.c (.int .i64 (N5 l b))):=AUf λb ih A5=>by
 obtain⟨_,A1,rA⟩:=kf b A5;have HM:=AXe l b.text hl;have Mi:=Pc b.AE;rw[AEu];unfold Am at *
 unfold WH at HM;generalize hR:He l b.text=R at HM ⊢;obtain⟨k,Q⟩:=AI b.kind;rw[Q];by_cases k2:k=2
 . rw[if_pos k2];refine en AFW AGE ?_;have B:=(cj2 @Q @k2 Px)
   have K:=(cj HM<|trivial)
   repeat any_goals (first|refine Du B K ⟨?_⟩|exact Bt B|(refine Dv B ?_ ?_<;>intro h<;>try exact Dw))
 rw[if_neg k2];by_cases k7:k=7\/k=8\/k=9
 . rw[if_pos k7];have EC : ∀(n:Int),(n=7\/n=8\/n=9)->k=n->AC AF 185 [.c (Cc l),.agg b.vs] (.c (.int .i64 (bg l b.AE))):=by
    intro n M Ej;subst Ej;obtain⟨rs,q⟩:=AI (Nd.AG b.AE);rw[q]at Mi;cases TU:b.AE with
    | nil =>
      rw[TU]at Mi;have e0:rs=[]:=Nr Mi;rw[AOR];rw[e0]at q;clear ih HM;refine en AFW AGE ?_;rcases M with M|M|M
      . have B:=(cj3 @Q @M @q Px)
        have K:=W;repeat any_goals (first|refine Du B K ⟨?_⟩|exact Bt B|(refine Dv B ?_ ?_<;>intro h<;>try exact Dw))
      . have B:=(cj3 @Q @M @q Px)
        have K:=W;repeat any_goals (first|refine Du B K ⟨?_⟩|exact Bt B|(refine Dv B ?_ ?_<;>intro h<;>try exact Dw))
      . have B:=(cj3 @Q @M @q Px)
        have K:=W;repeat any_goals (first|refine Du B K ⟨?_⟩|exact Bt B|(refine Dv B ?_ ?_<;>intro h<;>try exact Dw))
    | cons kd r =>
      rw[TU]at Mi rA;have Jh:rs[0]?=J kd.row:=by rw[<-q,TU];rfl
      have Rv:=gx Jh;have S:0<G rs:=by rw[Mi];simp
      have A0:kd.BX:=rA.1;have EX:=Pc kd.AE;obtain⟨ei,Ry⟩:=AI (Nd.AG kd.AE);rw[Ry]at EX;have cz:(0:Int)<(G rs:Int):=by omega
      by_cases h1:G kd.AE=1
      . obtain⟨x,hx⟩:∃x,kd.AE=[x]:=AMi.1 h1;rw[AOS l kd x r hx];have G9:ei[0]?=J x.row:=by rw[<-Ry,hx];rfl
        have Wp:=gx G9;have OG:0<G ei:=by omega
        have U3:G ei=1:=by omega
        have FN:=ih kd (by rw[TU];exact GH) x (by rw[hx];exact GH) (di (kf kd A0).2.2 x (by rw[hx];exact GH));clear ih HM;refine en AFW AGE ?_;rcases M with M|M|M
        . have B:=(cj9 @Q @M @q @Jh @Rv @S @cz @Ry @G9<|cj3 @Wp @OG @U3 Px)
          have K:=(cj FN<|trivial)
          repeat any_goals (first|refine Du B K ⟨?_⟩|exact Bt B|(refine Dv B ?_ ?_<;>intro h<;>try exact Dw))
        . have B:=(cj9 @Q @M @q @Jh @Rv @S @cz @Ry @G9<|cj3 @Wp @OG @U3 Px)
          have K:=(cj FN<|trivial)
          repeat any_goals (first|refine Du B K ⟨?_⟩|exact Bt B|(refine Dv B ?_ ?_<;>intro h<;>try exact Dw))
        . have B:=(cj9 @Q @M @q @Jh @Rv @S @cz @Ry @G9<|cj3 @Wp @OG @U3 Px)
          have K:=(cj FN<|trivial)
          repeat any_goals (first|refine Du B K ⟨?_⟩|exact Bt B|(refine Dv B ?_ ?_<;>intro h<;>try exact Dw))
      . rw[AOT l kd r h1];have U3 : ¬G ei=1:=by omega
        have zP : ¬(G ei:Int)=1:=by omega
        clear ih HM;refine en AFW AGE ?_;rcases M with M|M|M
        . have B:=(cj9 @Q @M @q @Jh @Rv @S @cz @Ry @U3<|cj @zP Px)
          have K:=W;repeat any_goals (first|refine Du B K ⟨?_⟩|exact Bt B|(refine Dv B ?_ ?_<;>intro h<;>try exact Dw))
        . have B:=(cj9 @Q @M @q @Jh @Rv @S @cz @Ry @U3<|cj @zP Px)
          have K:=W;repeat any_goals (first|refine Du B K ⟨?_⟩|exact Bt B|(refine Dv B ?_ ?_<;>intro h<;>try exact Dw))
        . have B:=(cj9 @Q @M @q @Jh @Rv @S @cz @Ry @U3<|cj @zP Px)
          have K:=W;repeat any_goals (first|refine Du B K ⟨?_⟩|exact Bt B|(refine Dv B ?_ ?_<;>intro h<;>try exact Dw))
   exact EC k k7 F
 rw[if_neg k7];simp only[not_or]at k7;obtain⟨x1,x2,x3⟩:=k7;by_cases z:k=5\/k=11\/k=12
 . rw[if_pos z];refine en AFW AGE ?_;rcases z with z|z|z
   . have B:=(cj2 @Q @z Px)
     have K:=W;repeat any_goals (first|refine Du B K ⟨?_⟩|exact Bt B|(refine Dv B ?_ ?_<;>intro h<;>try exact Dw))
   . have B:=(cj2 @Q @z Px)
     have K:=W;repeat any_goals (first|refine Du B K ⟨?_⟩|exact Bt B|(refine Dv B ?_ ?_<;>intro h<;>try exact Dw))
   . have B:=(cj2 @Q @z Px)
     have K:=W;repeat any_goals (first|refine Du B K ⟨?_⟩|exact Bt B|(refine Dv B ?_ ?_<;>intro h<;>try exact Dw))
 . rw[if_neg z];simp only[not_or]at z;obtain⟨y1,y2,y3⟩:=z;refine en AFW AGE ?_;have B:=(cj8 @Q @k2 @x1 @x2 @x3 @y1 @y2 @y3 Px)
   have K:=W;repeat any_goals (first|refine Du B K ⟨?_⟩|exact Bt B|(refine Dv B ?_ ?_<;>intro h<;>try exact Dw))
def XU (l:List En):List V:=[.fn 243 [.cp [Cc l] 0,.ptr 0 0]]
theorem AV5 (l:List En)(hl:G l<=1000000):∀b:Nd,b.BX->AY AF 243 [.cp b.row 0,.cp [Cc l] 0,.ptr 0 0] 244 (XU l) (XU l) (.c (.int .i64 (N5 l b))):=AUf λb ih A5=>by
 obtain⟨_,A1,rA⟩:=kf b A5;have HM:=AA8 l b.text hl;have Mi:=Pc b.AE;rw[AEu];unfold WH at HM;generalize hR:He l b.text=R at HM ⊢;obtain⟨k,z⟩:=AI b.kind;rw[z];by_cases k2:k=2
 . rw[if_pos k2];unfold XU;refine AY.intro fp rfl ?_;simp only[AGH,Ap,BB,BA,BO,Nat.reduceAdd,Nat.reduceSub,BY,Cy,BK,BU];have B:=(cj2 @z @k2 vM)
   have K:=(cj HM<|trivial)
   repeat any_goals (first|refine Du B K ⟨?_⟩|exact Bt B|(refine Dv B ?_ ?_<;>intro h<;>try exact Dw))
   simp[GI,DV,C0,DE,V.CP,V.CF,V.Di,V.Dj,CJ,vM]
 rw[if_neg k2];by_cases k7:k=7\/k=8\/k=9
 . rw[if_pos k7];obtain⟨rs,q⟩:=AI (Nd.AG b.AE);rw[q]at Mi;have pa : ∀(Q:Prop),(k=7->Q)->(k=8->Q)->(k=9->Q)->Q:=λQ a b c=>by rcases k7 with h|h|h;exact a h;exact b h;exact c h
   cases TU:b.AE with
   | nil =>
     rw[TU]at Mi;have e0:rs=[]:=Nr Mi;rw[AOR];rw[e0]at q;clear ih HM;unfold XU;refine AY.intro fp rfl ?_;simp only[AGH,Ap,BB,BA,BO,Nat.reduceAdd,Nat.reduceSub,BY,Cy,BK,BU];refine pa _ (λS=>?_) (λS=>?_) (λS=>?_)
     . have B:=(cj3 @z @S @q vM)
       have K:=W;repeat any_goals (first|refine Du B K ⟨?_⟩|exact Bt B|(refine Dv B ?_ ?_<;>intro h<;>try exact Dw))
       simp[GI,DV,C0,DE,V.CP,V.CF,V.Di,V.Dj,CJ,vM]
     . have B:=(cj3 @z @S @q vM)
       have K:=W;repeat any_goals (first|refine Du B K ⟨?_⟩|exact Bt B|(refine Dv B ?_ ?_<;>intro h<;>try exact Dw))
       simp[GI,DV,C0,DE,V.CP,V.CF,V.Di,V.Dj,CJ,vM]
     . have B:=(cj3 @z @S @q vM)
       have K:=W;repeat any_goals (first|refine Du B K ⟨?_⟩|exact Bt B|(refine Dv B ?_ ?_<;>intro h<;>try exact Dw))
       simp[GI,DV,C0,DE,V.CP,V.CF,V.Di,V.Dj,CJ,vM]
   | cons kd r =>
     rw[TU]at Mi rA;have Jh:rs[0]?=J kd.row:=by rw[<-q,TU];rfl
     have Rv:=gx Jh;have M:0<G rs:=by rw[Mi];simp
     have A0:kd.BX:=rA.1;have EX:=Pc kd.AE;obtain⟨ei,Ry⟩:=AI (Nd.AG kd.AE);rw[Ry]at EX;have cz:(0:Int)<(G rs:Int):=by omega
     by_cases h1:G kd.AE=1
     . obtain⟨x,hx⟩:∃x,kd.AE=[x]:=AMi.1 h1;rw[AOS l kd x r hx];have G9:ei[0]?=J x.row:=by rw[<-Ry,hx];rfl
       have Wp:=gx G9;have OG:0<G ei:=by omega
       have U3:G ei=1:=by omega
       have FN:=ih kd (by rw[TU];exact GH) x (by rw[hx];exact GH) (di (kf kd A0).2.2 x (by rw[hx];exact GH));clear ih HM;unfold XU at *
       refine AY.intro fp rfl ?_;simp only[AGH,Ap,BB,BA,BO,Nat.reduceAdd,Nat.reduceSub,BY,Cy,BK,BU];refine pa _ (λS=>?_) (λS=>?_) (λS=>?_)
       . have B:=(cj9 @z @S @q @Jh @Rv @M @cz @Ry @G9<|cj3 @Wp @OG @U3 vM)
         repeat any_goals (first|refine Qu (.mk 8) ?_|exact Bt B|refine De B ?_|refine DI B ?_|((first|refine JC B ?_ ?_|refine JE B ?_ ?_|refine JD B ?_ ?_|refine JY B ?_ ?_)<;>intro h<;>try (exfalso;first|omega|contradiction)))
         refine AW.Lm Fz (.inl F) ?_;refine TW.take 9 (Es (by simp[q,Jh,Rv,M,Ry,G9,Wp,OG];first|exact rfl|exact⟨F,F⟩|exact⟨F,F,F⟩) (UZ ?_));simp only[CU,B9];refine TW.V9 0 FN fp (by kernel_rfl) (by kernel_rfl) (by simp[BQ]) (by simp[C7];first|exact rfl|exact⟨F,F⟩) (by simp[V.Dj,V.Di];try exact rfl) (by rfl) (by rfl) (cs':=[.fn 243 [.cp [Cc l] 0,.ptr 0 0]]) (by rfl) (by rfl) ?_;simp only[St.step,St.put,Bk,BA,BO,Nat.reduceAdd,Nat.reduceLT,if_true,Ai,Ag];refine TW.take 1 (Es (by simp;first|exact rfl|exact⟨F,F⟩|exact⟨F,F,F⟩) (UZ (TW.nil ⟨by kernel_rfl,?_⟩)));have B:=(vM)
         have K:=W;repeat any_goals (first|refine Du B K ⟨?_⟩|exact Bt B|(refine Dv B ?_ ?_<;>intro h<;>try exact Dw))
         simp[GI,DV,C0,DE,V.CP,V.CF,V.Di,V.Dj,CJ,vM]
       . have B:=(cj9 @z @S @q @Jh @Rv @M @cz @Ry @G9<|cj3 @Wp @OG @U3 vM)
         repeat any_goals (first|refine Qu (.mk 8) ?_|exact Bt B|refine De B ?_|refine DI B ?_|((first|refine JC B ?_ ?_|refine JE B ?_ ?_|refine JD B ?_ ?_|refine JY B ?_ ?_)<;>intro h<;>try (exfalso;first|omega|contradiction)))
         refine AW.Lm Fz (.inl F) ?_;refine TW.take 9 (Es (by simp[q,Jh,Rv,M,Ry,G9,Wp,OG];first|exact rfl|exact⟨F,F⟩|exact⟨F,F,F⟩) (UZ ?_));simp only[CU,B9];refine TW.V9 0 FN fp (by kernel_rfl) (by kernel_rfl) (by simp[BQ]) (by simp[C7];first|exact rfl|exact⟨F,F⟩) (by simp[V.Dj,V.Di];try exact rfl) (by rfl) (by rfl) (cs':=[.fn 243 [.cp [Cc l] 0,.ptr 0 0]]) (by rfl) (by rfl) ?_;simp only[St.step,St.put,Bk,BA,BO,Nat.reduceAdd,Nat.reduceLT,if_true,Ai,Ag];refine TW.take 1 (Es (by simp;first|exact rfl|exact⟨F,F⟩|exact⟨F,F,F⟩) (UZ (TW.nil ⟨by kernel_rfl,?_⟩)));have B:=(vM)
         have K:=W;repeat any_goals (first|refine Du B K ⟨?_⟩|exact Bt B|(refine Dv B ?_ ?_<;>intro h<;>try exact Dw))
         simp[GI,DV,C0,DE,V.CP,V.CF,V.Di,V.Dj,CJ,vM]
       . have B:=(cj9 @z @S @q @Jh @Rv @M @cz @Ry @G9<|cj3 @Wp @OG @U3 vM)
         repeat any_goals (first|refine Qu (.mk 8) ?_|exact Bt B|refine De B ?_|refine DI B ?_|((first|refine JC B ?_ ?_|refine JE B ?_ ?_|refine JD B ?_ ?_|refine JY B ?_ ?_)<;>intro h<;>try (exfalso;first|omega|contradiction)))
         refine AW.Lm Fz (.inl F) ?_;refine TW.take 9 (Es (by simp[q,Jh,Rv,M,Ry,G9,Wp,OG];first|exact rfl|exact⟨F,F⟩|exact⟨F,F,F⟩) (UZ ?_));simp only[CU,B9];refine TW.V9 0 FN fp (by kernel_rfl) (by kernel_rfl) (by simp[BQ]) (by simp[C7];first|exact rfl|exact⟨F,F⟩) (by simp[V.Dj,V.Di];try exact rfl) (by rfl) (by rfl) (cs':=[.fn 243 [.cp [Cc l] 0,.ptr 0 0]]) (by rfl) (by rfl) ?_;simp only[St.step,St.put,Bk,BA,BO,Nat.reduceAdd,Nat.reduceLT,if_true,Ai,Ag];refine TW.take 1 (Es (by simp;first|exact rfl|exact⟨F,F⟩|exact⟨F,F,F⟩) (UZ (TW.nil ⟨by kernel_rfl,?_⟩)));have B:=(vM)
         have K:=W;repeat any_goals (first|refine Du B K ⟨?_⟩|exact Bt B|(refine Dv B ?_ ?_<;>intro h<;>try exact Dw))
         simp[GI,DV,C0,DE,V.CP,V.CF,V.Di,V.Dj,CJ,vM]
     . rw[AOT l kd r h1];have U3 : ¬G ei=1:=by omega
       have zP : ¬(G ei:Int)=1:=by omega
       clear ih HM;unfold XU;refine AY.intro fp rfl ?_;simp only[AGH,Ap,BB,BA,BO,Nat.reduceAdd,Nat.reduceSub,BY,Cy,BK,BU];refine pa _ (λS=>?_) (λS=>?_) (λS=>?_)
       . have B:=(cj9 @z @S @q @Jh @Rv @M @cz @Ry @U3<|cj @zP vM)
         have K:=W;repeat any_goals (first|refine Du B K ⟨?_⟩|exact Bt B|(refine Dv B ?_ ?_<;>intro h<;>try exact Dw))
         simp[GI,DV,C0,DE,V.CP,V.CF,V.Di,V.Dj,CJ,vM]
       . have B:=(cj9 @z @S @q @Jh @Rv @M @cz @Ry @U3<|cj @zP vM)
         have K:=W;repeat any_goals (first|refine Du B K ⟨?_⟩|exact Bt B|(refine Dv B ?_ ?_<;>intro h<;>try exact Dw))
         simp[GI,DV,C0,DE,V.CP,V.CF,V.Di,V.Dj,CJ,vM]
       . have B:=(cj9 @z @S @q @Jh @Rv @M @cz @Ry @U3<|cj @zP vM)
         have K:=W;repeat any_goals (first|refine Du B K ⟨?_⟩|exact Bt B|(refine Dv B ?_ ?_<;>intro h<;>try exact Dw))
         simp[GI,DV,C0,DE,V.CP,V.CF,V.Di,V.Dj,CJ,vM]
 rw[if_neg k7];simp only[not_or]at k7;obtain⟨x1,x2,x3⟩:=k7;unfold XU;clear ih HM;by_cases k5:k=5\/k=11\/k=12
 . rw[if_pos k5];refine AY.intro fp rfl ?_;simp only[AGH,Ap,BB,BA,BO,Nat.reduceAdd,Nat.reduceSub,BY,Cy,BK,BU];rcases k5 with k5|k5|k5
   . have B:=(cj2 @z @k5 vM)
     have K:=W;repeat any_goals (first|refine Du B K ⟨?_⟩|exact Bt B|(refine Dv B ?_ ?_<;>intro h<;>try exact Dw))
     simp[GI,DV,C0,DE,V.CP,V.CF,V.Di,V.Dj,CJ,vM]
   . have B:=(cj2 @z @k5 vM)
     have K:=W;repeat any_goals (first|refine Du B K ⟨?_⟩|exact Bt B|(refine Dv B ?_ ?_<;>intro h<;>try exact Dw))
     simp[GI,DV,C0,DE,V.CP,V.CF,V.Di,V.Dj,CJ,vM]
   . have B:=(cj2 @z @k5 vM)
     have K:=W;repeat any_goals (first|refine Du B K ⟨?_⟩|exact Bt B|(refine Dv B ?_ ?_<;>intro h<;>try exact Dw))
     simp[GI,DV,C0,DE,V.CP,V.CF,V.Di,V.Dj,CJ,vM]
 . rw[if_neg k5];simp only[not_or]at k5;obtain⟨y1,y2,y3⟩:=k5;refine AY.intro fp rfl ?_;simp only[AGH,Ap,BB,BA,BO,Nat.reduceAdd,Nat.reduceSub,BY,Cy,BK,BU];have B:=(cj8 @z @k2 @x1 @x2 @x3 @y1 @y2 @y3 vM)
   have K:=W;repeat any_goals (first|refine Du B K ⟨?_⟩|exact Bt B|(refine Dv B ?_ ?_<;>intro h<;>try exact Dw))
   simp[GI,DV,C0,DE,V.CP,V.CF,V.Di,V.Dj,CJ,vM]
theorem AV6 (l:List En)(R:G l<=1000000)(b:Nd)(M:b.BX):AC AF 168 [.c (Cc l),Am b] (.c (.int .i64 (N5 l b))):=by
 have K:=AV5 l R b M;unfold Am;unfold XU at K;refine en func168 ntmps168 ?_;have B:=(Abe)
 repeat any_goals (first|refine Qu (.mk 1) ?_|exact Bt B|refine De B ?_|refine DI B ?_|((first|refine JC B ?_ ?_|refine JE B ?_ ?_|refine JD B ?_ ?_|refine JY B ?_ ?_)<;>intro h<;>try (exfalso;first|omega|contradiction)))
 refine Cn 0 ?_;refine Cn 1 ?_;have B:=(Abe)
 repeat any_goals (first|refine Qu (.mk 3) ?_|exact Bt B|refine De B ?_|refine DI B ?_|((first|refine JC B ?_ ?_|refine JE B ?_ ?_|refine JD B ?_ ?_|refine JY B ?_ ?_)<;>intro h<;>try (exfalso;first|omega|contradiction)))
 refine AW.DA ?_;refine CY (.mk 1) trivial ?_;refine SW.V9 2 K fp (by kernel_rfl) (by kernel_rfl) (by simp[BQ]) (by simp[C7];first|exact rfl|exact⟨F,F⟩) (by simp[V.Dj,V.Di];try exact rfl) (by rfl) (by rfl) (cs':=[.fn 243 [.cp [Cc l] 0,.ptr 2 0]]) (by rfl) (by rfl) ?_;simp only[St.step,St.put,Bk,BA,BO,Nat.reduceAdd,Nat.reduceLT,if_true,Ai,Ag];refine CY (.mk 1) trivial ?_;refine SW.nil ?_;have B:=(Abe)
 have Q:=W;repeat any_goals (first|refine Du B Q ⟨?_⟩|exact Bt B|(refine Dv B ?_ ?_<;>intro h<;>try exact Dw))
def lV (P:Program)(t:TypeId):Bool:=
 match P.underlying t with
 | some (.pointer _)=>I
 | _=>U
section
variable {P:Program} {S0:BF} {w0:Bs} {x:Cx} {w:World} {H:Bx} {a:Act} {o:Oper} {e:Operand->V} {v:V}
theorem AVM (g:Good S0 w0 x w H){R:Nat->Obj->Prop}(Q : ∀b,R b (.map #[] 0)){t:TypeId}{r:Option Operand}(ho:o.op=.makeMap t r)(hr:(mG t (r.map a.eval)).run P w=.ok (.map (J w.heap.size)) (w.alloc (.map #[] 0)))(k:Nat)(z : ¬x.dom k):BW P o a S0 w0 x w H (.mp k) (J (k,.mp R)):=by
 have B:Ay w (w.alloc (.map #[] 0)):=(Ay.refl w).alloc _;have K:Ext x (x.C4 k ⟨w.heap.size,0,U,0,U⟩) w (w.alloc (.map #[] 0)):=Good.ext1 k _ z λb j v _ S=>B.cell S
 have M:=g.H5 k (.mp R) K (.FR B) (λi=>Iff.rfl) (λi q=>by simp[Cx.C4,q]) (λ_=>.inr (by simp[Cx.C4])) ⟨by simp[Cx.C4],by simp[Cx.C4],_,by simp only[Cx.C4,if_true];exact heap_alloc_new w _,rfl,Q _⟩ (λb j h=>.inl h) (λj hx hs=>hx);refine⟨_,_,_,.map (J w.heap.size),?_,.inl F,?_,M,K,λk' h=>h.elim .inl λe=>.inr ⟨.mp R,by rw[e]⟩,λ_=>rfl⟩;simp only[execOp,ho,Jt,hr,Oo];rfl;simp only[CV,Cx.C4,if_true];exact⟨.inr W,W,W⟩
theorem AYE (t:TypeId)(w:World):(mG t E).run P w=.ok (.map (J w.heap.size)) (w.alloc (.map #[] 0)):=by simp[mG]
theorem AZi {t:TypeId}(h:lV P t=I):∃te,P.underlying t=J (.pointer te):=by
 unfold lV at h;split at h;rename_i te e;exact⟨te,e⟩;cases h
theorem AI3 (g:Good S0 w0 x w H){op:BinOp}{t t':TypeId}{y z:Operand}{b:Bool}(R:o.op=.binOp op t y z t')(K:op=.eql/\b=U\/op=.neq/\b=I)(ht:lV P t=I){A:Option Addr}(S:a.eval y=.pointer A)(q:a.eval z=.pointer E):BW P o a S0 w0 x w H (.c (.bool (b ^^ A.isNone))) none:=by
 obtain⟨te,hu⟩:=AZi ht;have Q:(Pt t (.pointer A) (.pointer E)).run P w=.ok A.isNone w:=by
  have e:Pt t (.pointer A) (.pointer E)=aP (9999+1) t (.pointer A) (.pointer E):=F;rw[e];unfold aP;cases A<;>simp[run_underlying hu]
 refine BW.pure g (u:=.bool (b ^^ A.isNone)) ?_ (by simp only[CV,Ab]);rcases K with ⟨rfl,rfl⟩|⟨rfl,rfl⟩
 have M:(eqGuard .eql t y z (.pointer A) (.pointer E)).run P w=.ok () w:=F;have B:binOp .eql t (.pointer A) (.pointer E)=(do pure (.bool (<-Pt t (.pointer A) (.pointer E)))):=F;simp[execOp,R,S,q,Jt,M,B,Q];have M:(eqGuard .neq t y z (.pointer A) (.pointer E)).run P w=.ok () w:=F;have B:binOp .neq t (.pointer A) (.pointer E)=(do pure (.bool (!(<-Pt t (.pointer A) (.pointer E))))):=F;simp[execOp,R,S,q,Jt,M,B,Q]
end
section
variable {S0:BF} {w0:Bs} {x:Cx} {w:World} {H:Bx} {a:Act} {o:Oper} {e:Operand->V} {v:V}
theorem ABg (B:Bool)(s:ByteArray)(n:Int)(w:World):(uG B 10000 165 (.agg #[.string s,.int .i64 n])).run AF w=.ok () w:=by
 have h:(10000:Nat)=9999+1:=F;rw[h];unfold uG;have K : ∀w,(uG B 9999 9 (.string s)).run AF w=.ok () w:=λw=>AMu (k:=.string s) underlying9 trivial B 9998
 have M : ∀w,(uG B 9999 3 (.int .i64 n)).run AF w=.ok () w:=λw=>AMu (k:=.int .i64 n) underlying3 (by simp[MapKept.IsKey]) B 9998
 have Q : ∀w,(part 9 #[.string s,.int .i64 n] 0).run AF w=.ok (.string s) w:=λw=>by
  have:(isAgg 9).run AF w=.ok U w:=by kernel_rfl
  simp[part,this]
 have R : ∀w,(part 3 #[.string s,.int .i64 n] 1).run AF w=.ok (.int .i64 n) w:=λw=>by
  have:(isAgg 3).run AF w=.ok U w:=by kernel_rfl
  simp[part,this]
 simp[run_underlying underlying165,K,M,Q,R]
theorem AFy {s:ByteArray}{n:Int}{u:Value}(h:CV x w (.agg [.c (.str s),.c (.int .i64 n)]) u):u=.agg #[.string s,.int .i64 n]:=by
 simp only[CV,AO,Ab]at h;obtain⟨vs,rfl,Q,K,B,⟨rfl,_⟩,R,M,rfl,⟨rfl,_⟩,rfl⟩:=h;congr 1
 exact Array.toList_inj.1 B
end
theorem APw (A:Option Addr)(n:Nat)(h0:0<n)(hn:n<=1000000)(w:World):Calls AF 104 #[.slice A 0 0,.int .i64 n] w λr w' =>
 ∃cap vs,r=.returned (.slice (J ⟨w.heap.size,0,E⟩) 0 cap)/\w'=w.drew.alloc (.cells vs 3)/\vs.size=cap/\cap<=maxLen:=by
 have hi : ¬((n:Int)<0):=by omega
 have hw:AZ.wrap (n:Int)=n:=Ac;have zL:(n:Int) > 0:=by omega
 obtain⟨hu,z,M,Q,hz,hsz,hby,hzs⟩:=JS (show Dk AF 39=J (3,1,8)by kernel_rfl);have R:Builtin.nextslicecap (0+n) 0*z.bytes<=281474976710656:=by rw[hby];exact growslice_fits (by omega) (by omega)
 have K:=Go.Lib.run_append_grow_zeros (P:=AF) w 39 3 39 3 z M .i64 .i64 hu (by kernel_rfl) Q hz A 0 0 [] (by cases A with
  | none=>simp[fc]
  | some ad=>simpa [fc]using run_loadCells_list (P:=AF) w.drew ad [] (by simp)) n h0 (by omega) (by omega) (by omega) (by rw[hby];omega) R
 have S:=grownCap_ge w (0+n) 0 3;have hle:=grownCap_le_maxLen w (0+n) 0 3 (by unfold maxLen;omega);obtain⟨arr,B⟩:=AI (([]:List Value).toArray++KN M.cells n++KN M.cells (grownCap w (0+n) 0 3 - (0+n)));rw[B]at K;have hsize:arr.size=grownCap w (0+n) 0 3:=by rw[<-B];simp[size_zeroCells,hzs];rw[Nat.zero_add]at S;omega
 obtain⟨cap,q⟩:∃cap,grownCap w (0+n) 0 3=cap:=⟨_,rfl⟩
 rw[q]at K S hle hsize;have cX : ¬((cap:Int)<0):=by omega
 clear q B R hz Q hu;go_enter func104,ntmps104;go_wp2_with (at_builtin;refine Go.Lib.wpList_append_run _ rfl _ _ _ _ rfl _ _ rfl rfl _ _ K ?_)
 simp[bodyPost,results,results104];exact⟨arr,F,hsize,hle⟩
theorem APv (n:Nat)(R:0<n)(z:n<=1000000)(h:List O):HC AF 104 [.Bg [],.c (.int .i64 n)] h (.ret (.gr (G h) 1 [])) (h++[.tok 3 1 0]):=by
 refine⟨by kernel_rfl,λ{S0 w0 x w us} g M=>?_⟩;simp only[AO,CV,Ab]at M;obtain⟨u1,r1,rfl,⟨A,rfl,_⟩,u2,r2,rfl,⟨rfl,_⟩,rfl⟩:=M;refine(APw A n R z w).mono ?_;rintro r w' ⟨cap,vs,rfl,rfl,A0,B⟩;have hk : ¬x.dom (G h):=λS=>by obtain⟨o,K⟩:=g.dom _ S;simp at K
 obtain⟨Q,q,_⟩:=g.xi (G h) (Ae:=3) (es:=1) (m:=0) (cap:=cap) (vs:=vs) (λo K=>by simp at K) (by omega) (l:=[]) (by simp[B4]) (by simp) (by omega);have e:=Kj h (J (G h,O.tok 3 1 0)) (λk o e=>by cases e;exact BN _);simp only[Bk,IY,if_false,Bx.upd]at e;refine⟨_,by rw[e];exact Q,q,.FR ((Ay.refl w).drew.alloc _),_,rfl,?_⟩;simp only[CV,Ab,Cx.grow,if_true,BO,Bool.false_eq_true,if_false];refine⟨.inr W,W,⟨J ⟨w.heap.size,0,E⟩,cap,F,by omega,B,λh=>absurd rfl h⟩,by simp,BN _,λ_=>⟨cap,rfl,rfl⟩⟩
theorem pR (a b:List Int)(ha:G a<=100000)(hb:G b<=100000)(hp:0<G b):AC AF 56 [.c (.sl [[AV a],[AV b]])] (.c (AV (a++b))):=by
 obtain⟨A,M⟩:=AI (a.map (λn=>[C.int .i64 n]));obtain⟨B,R⟩:=AI (b.map (λn=>[C.int .i64 n]));have KV:G A=G a:=by rw[<-M];simp
 have A0:G B=G b:=by rw[<-R];simp
 have Q : ∀r∈A,G r=1:=by rw[<-M];simp
 have S : ∀r∈B,G r=1:=by rw[<-R];simp
 unfold AV;rw[List.map_append,M,R];have z:AZ.wrap (G A:Int)=(G A:Int):=Ac;obtain⟨N,hN⟩:=AI (G A+G B);have EK:AZ.wrap ((G A:Int)+(G B:Int))=(N:Int):=by rw[Ac];omega
 have q : ¬((G A:Int)<0):=by omega
 have dC : ¬((N:Int)<0):=by omega
 have k1:AZ.wrap (0+1)=1:=by decide +kernel
 have k2:AZ.wrap (1+1)=2:=by decide +kernel
 have k3:AZ.wrap 1=1:=by decide +kernel
 have k4:AZ.wrap 2=2:=by decide +kernel
 refine en func56 ntmps56 ?_;refine Ah ?_;refine LA.loop (LA.round ?_);refine go (cj3 @z @q @k1 @k3) ?_;refine LA.round ?_;refine go (cj3 @EK @dC @k2 @k4) ?_;refine LA.round ?_;refine wu (.mk 9) ADV trivial ⟨?_⟩;refine Og (.mk 1) trivial ?_;refine SW.wZ (APv N (by omega) (by omega) []) (by simp[BQ]) (by simp[C7,ev]) ?_;refine CY (.mk 1) trivial ?_;refine SW.nil ?_;refine Ah ?_;refine LA.loop (LA.round ?_);have g1:G A<=maxLen:=by unfold maxLen;omega
 have g2:G A*8<=140737488355328:=by omega
 have g3:G A+G B<=maxLen:=by unfold maxLen;omega
 have g4:(G A+G B)*8<=140737488355328:=by omega
 have K:(∀r∈A,G r=1)↔True:=iff_true_intro Q;have xq:(∀r∈B,G r=1)↔True:=iff_true_intro S;refine go (cj4 @k1 @k3 @g1 @g2 @K) ?_;refine LA.round ?_;refine go (cj5 @k2 @k4 @g3 @g4 @K @xq) ?_;refine LA.round ?_;refine Ah ?_;exact At ADV
theorem AOE (p q:Addr)(w:World):CallsD AF 42 #[.pointer (J p),.pointer (J q)] .returning w λe K w'=>e=.returned (.tuple #[])/\K=.returning/\w'=w:=by
 refine callsD_of_wpS func42 rfl λB cs hu=>?_
 apply wpS_seq;apply wpS_region;simp[wpOpsS,go_sem,recoverD,hu,ntmps42,uF];refine wpS_of_wp ?_;cases B;go_wp2;simp_all [bodyPostS,results,results42]
theorem X2:ND AF 41 11:=ND.mk' underlying41 rfl (by kernel_rfl)
def DZ:Array Value:=#[.int .i64 0,.string ⟨#[]⟩,.int .i64 0,.int .i64 0,.int .i64 0,.int .i64 0,.int .i64 0,.int .i64 0,.slice E 0 0,.int .i64 0,.slice E 0 0]
theorem AOD (f:FuncId)(caps:Array Value)(w:World)(Z:Array Value->World->Prop)(R : ∀w1,Ay w w1->w1.heap.size=w.heap.size+2->Calls AF f caps w1 λr w2=>∃cs,r=.returned (.agg cs)/\cs.size=11/\Xw cs/\Ay w1 w2/\Z cs w2)(hf : ∃fn,AF.funcs[f]?=J fn/\fn.body≠E/\fn.name≠ "runtime.NumGoroutine") :
 Calls AF 22 #[.func (.func f) #[] caps] w λr w'=>∃cs w2,r=.returned (.tuple #[.agg cs,.int .i64 0])/\Ay w w'/\Z cs w2/\KB (λb=>b=w.heap.size\/b=w.heap.size+1) w2 w':=by
 have A0 : ∀(fn:Fn) (first cap:Array Value) (w:World),(uH fn first cap).run AF w=.ok (.func fn first cap) w:=λ_ _ _ _=>rfl
 obtain⟨fn,q,HK,U6⟩:=hf;go_enter_defers nF,nS
 have hrun : ∀W:World,(callFunc f caps).run AF W=.ok (.enter f caps) W:=λW=>by simp[callFunc,program,HW,q,U6,HK]
 go_wp2;refine(R _ (by repeat (with_reducible first|exact Ay.refl _|assumption|apply Ay.alloc|apply Ay.drew|apply Ay.drewN|(refine Ay.setRow ?_ (by omega) _)|refine Ay.trans ?_ (by assumption))) (by simp)).mono ?_;rintro r w2 ⟨cs,rfl,hs,h1,hk,hz⟩;have Q:ND AF 41 cs.size:=by rw[hs];exact X2
 have IN:=hk.size;simp only[vl]at IN;have b0:Cb w2 w.heap.size 41 DZ:=hk.blk ((Cb.new _ _ _).alloc _);have b1:Cb w2 (w.heap.size+1) 42 #[.int .i64 0]:=hk.blk (Cb.AS _ _ _ (by simp));have c1:(w2.setRow w.heap.size cs).cell? ⟨w.heap.size+1,0,E⟩=J (.int .i64 0):=(Cb.Ja b1 cs (g:=w.heap.size) (by omega)).cell 0;have d1:=(Cb.Ja b1 cs (g:=w.heap.size) (by omega)).frozen 0;have B:=Xl b0;have K:=Xl b1;clear b0 b1;go_wp2_with (((with_reducible refine ll (ty:=41) (w.heap.size) (cs) ?_ ?_ ?_ ?_ ?_ ?_ ?_);(focus rfl);(focus rfl);(focus exact⟨_,_,B.out,Eq.symm (hs)⟩);(focus exact h1);(focus exact Q);(focus rfl)))
 have hs1:(w2.setRow w.heap.size cs).setCell ⟨w.heap.size+1,0,E⟩ (.int .i64 0)=(w2.setRow w.heap.size cs).setRow (w.heap.size+1) #[.int .i64 0]:=by
  rw[setCell_eq_setRow _ _ 0 #[.int .i64 0] 42 (0,0) _ (Cb.Ja K.out cs (g:=w.heap.size) (by omega))];rfl
 rw[hs1];have NO:Cb ((w2.setRow w.heap.size cs).setRow (w.heap.size+1) #[.int .i64 0]) w.heap.size 41 cs:=Cb.Ja (B.out.Tz cs) _ (by omega);have M:Cb ((w2.setRow w.heap.size cs).setRow (w.heap.size+1) #[.int .i64 0]) (w.heap.size+1) 42 #[.int .i64 0]:=(Cb.Ja K.out cs (g:=w.heap.size) (by omega)).Tz _;obtain⟨W,hW⟩:=AI ((w2.setRow w.heap.size cs).setRow (w.heap.size+1) #[.int .i64 0]);have hkb:KB (λb=>b=w.heap.size\/b=w.heap.size+1) w2 W:=by
  rw[<-hW];refine⟨F,F,F,by simp,λk _ hn=>?_⟩;rw[setRow_other _ _ _ _ (λe=>hn (.inr e)),setRow_other _ _ _ _ (λe=>hn (.inl e))]
 rw[hW]at NO M ⊢;refine leaves_cons (f:=42) (args:=#[.pointer (J ⟨w.heap.size,0,E⟩),.pointer (J ⟨w.heap.size+1,0,E⟩)]) (by simp) (by simp[go_sem]) ?_;refine(AOE ⟨w.heap.size,0,E⟩ ⟨w.heap.size+1,0,E⟩ W).mono ?_;rintro e u' w'' ⟨rfl,rfl,rfl⟩;have z:(loadVar 41 ⟨w.heap.size,0,E⟩).run AF w''=.ok (.agg cs) w'':=lI NO.row Q;have S:(loadVar 42 ⟨w.heap.size+1,0,E⟩).run AF w''=.ok (.int .i64 0) w'':=by
  have:(isAgg 42).run AF w''=.ok U w'':=by kernel_rfl
  simp[loadVar,this,load,HW,M.cell]
 have U2:Ay w w'':=by
  have:=hkb.after (w:=w) (Ay.trans ((((Ay.refl w).alloc _).alloc _)) hk) (λk EG=>by omega);exact this
 refine⟨.tuple #[.agg cs,.int .i64 0],?_,cs,w2,F,U2,hz,hkb⟩;simp[results,MO,asAddr,z,S]
theorem AOC (g:FuncId)(caps:List V)(l:List V)(C9:AC AF g caps (.agg l))(A5:Fp AF g=I)(hl:G l=11)(h1:l.all V.one=I):AC AF 22 [.fn g caps] (.A7 [.agg l,.c (.int .i64 0)]):=by
 intro S w us hS B7;simp only[AO,CV]at B7;obtain⟨u,r,rfl,⟨vs,rfl,EP⟩,rfl⟩:=B7;obtain⟨fn,hf,hb,hn⟩:=P7 A5;refine(AOD g vs w (λcs z=>∃B,(∀b j,S b j->B b j)/\(∀b j,B b j->S b j\/(w.heap.size+2<=b/\b<z.heap.size))/\CV (Cx.bare B) z (.agg l) (.agg cs)) (λw1 FJ A1=>?_) ⟨fn,hf,(by intro e;rw[e]at hb;cases hb),by simpa using hn⟩).mono ?_;have yt:=AO.mono (x':=Cx.bare S) (w':=w1) ⟨⟨λ_ _ h=>h,λb j v _ R=>FJ.cell R⟩,λ_ h=>h.elim,λ_ h=>h.elim⟩ _ _ EP;refine(C9 S w1 vs.toList (λb j h=>H7 (hS b j h) FJ.size) yt).mono ?_;rintro r z ⟨u,B,rfl,EG,CZ,Gc,K⟩;have Q:=K;simp only[CV]at Q;obtain⟨cs,rfl,A0⟩:=Q;refine⟨cs,F,by have:=A0.len;simpa [hl]using this,λy hy=>?_,EG,B,CZ.sub,λb j h=>(Gc b j h).imp id λh=>⟨by omega,h.2⟩,K⟩;have Yk:=CV.cells (v:=.agg l) K (by simpa [V.flat]using h1);exact Yk.2 y (by simpa [Value.cells]using hy);rintro r w' ⟨cs,z,rfl,hk,⟨B,PU,Gc,K⟩,q⟩;have CZ:Ar B B z w':=⟨λ_ _ h=>h,λb j v hs R=>q.cell (by
  rcases Gc b j hs with h|h
  have:=hS b j h;omega;omega) R⟩
 have M:=CV.mono (x:=Cx.bare B) (x':=Cx.bare B) (w':=w') ⟨CZ,λ_ h=>h.elim,λ_ h=>h.elim⟩ _ _ K;refine⟨_,B,F,hk,⟨PU,λb j v _ R=>hk.cell R⟩,λb j h=>(Gc b j h).imp id λh=>⟨by omega,H7 h.2 q.size⟩,?_⟩;simp only[CV,AO,Ab]at M ⊢;exact⟨_,F,_,_,F,M,_,_,F,⟨F,by decide +kernel⟩,F⟩
theorem AMH:Xw DZ:=by
 intro y B;simp[DZ]at B;rcases B with rfl|rfl|rfl|rfl|rfl|rfl|rfl|rfl|rfl|rfl|rfl<;>rfl
theorem ALT (n:Int)(w:World):(Instr.typeAssert (.iface 42 (.int .i64 n)) 20 42 I).run AF w=.ok (.tuple #[.int .i64 n,.bool I]) w:=by
 unfold Instr.typeAssert;simp only[Jt,run_underlying underlying42,Oo];rfl
theorem AOG (g0 g1:Nat)(hne:g0≠g1)(n:Int)(cs0:Array Value)(w:World)(b0:Cb w g0 41 cs0)(Q:cs0.size=11)(b1:Cb w g1 42 #[.int .i64 0]) :
 CallsD AF 42 #[.pointer (J ⟨g0,0,E⟩),.pointer (J ⟨g1,0,E⟩)] (.panicking [⟨.iface 42 (.int .i64 n),U,U⟩]) w λe S w'=>e=.returned (.tuple #[])/\S=.panicking [⟨.iface 42 (.int .i64 n),I,U⟩]/\w'=(w.setRow g0 DZ).setRow g1 #[.int .i64 n]:=by
 refine callsD_of_wpS func42 rfl λM cs hu=>?_
 apply wpS_seq;apply wpS_region;simp[wpOpsS,go_sem,recoverD,hu,ntmps42,uF];refine wpS_of_wp ?_;have hz:(zeroValue 41).run AF w=.ok (.agg DZ) w:=by kernel_rfl
 have B:=Xl b0;have K:=Xl b1;have q:=ALT n w;have R:ND AF 41 DZ.size:=X2;have c1:(w.setRow g0 DZ).cell? ⟨g1,0,E⟩=J (.int .i64 0):=(Cb.Ja b1 DZ (g:=g0) (by omega)).cell 0;have d1:=(Cb.Ja b1 DZ (g:=g0) (by omega)).frozen 0;clear b0 b1;cases M;change Code.wp _ _ _ { tmps:=#[.pointer (J ⟨g0,0,E⟩),.pointer (J ⟨g1,0,E⟩),undef,undef,undef,.iface 42 (.int .i64 n),undef,undef,undef,undef,undef,undef,undef],defers:=[] } w;go_wp2_with (((with_reducible refine ll (ty:=41) (g0) (DZ) ?_ ?_ ?_ ?_ ?_ ?_ ?_);(focus rfl);(focus rfl);(focus exact⟨_,_,B.out,Eq.symm (Q.symm)⟩);(focus exact AMH);(focus exact R);(focus rfl)))
 have hs1:(w.setRow g0 DZ).setCell ⟨g1,0,E⟩ (.int .i64 n)=(w.setRow g0 DZ).setRow g1 #[.int .i64 n]:=by
  rw[setCell_eq_setRow _ _ 0 #[.int .i64 0] 42 (0,0) _ (Cb.Ja K.out DZ (g:=g0) (by omega))];rfl
 exact⟨F,_,F,.tuple #[],by simp[results,results42],rfl,rfl,hs1⟩
theorem AOF (f:FuncId)(caps:Array Value)(w:World)(n:Int)(K : ∀w1,Ay w w1->w1.heap.size=w.heap.size+2->Calls AF f caps w1 λr w2=>r=.panicked [⟨.iface 42 (.int .i64 n),U,U⟩]/\Ay w1 w2)(hf : ∃fn,AF.funcs[f]?=J fn/\fn.body≠E/\fn.name≠ "runtime.NumGoroutine") :
 Calls AF 22 #[.func (.func f) #[] caps] w λr w'=>r=.returned (.tuple #[.agg DZ,.int .i64 n])/\Ay w w':=by
 have A0 : ∀(fn:Fn) (first cap:Array Value) (w:World),(uH fn first cap).run AF w=.ok (.func fn first cap) w:=λ_ _ _ _=>rfl
 obtain⟨fn,Q,HK,z⟩:=hf;go_enter_defers nF,nS
 have hrun : ∀W:World,(callFunc f caps).run AF W=.ok (.enter f caps) W:=λW=>by simp[callFunc,program,HW,Q,z,HK]
 go_wp2;refine(K _ (by repeat (with_reducible first|exact Ay.refl _|assumption|apply Ay.alloc|apply Ay.drew|apply Ay.drewN|(refine Ay.setRow ?_ (by omega) _)|refine Ay.trans ?_ (by assumption))) (by simp)).mono ?_;rintro r w2 ⟨rfl,hk⟩;have IN:=hk.size;simp only[vl]at IN;have b0:Cb w2 w.heap.size 41 DZ:=hk.blk ((Cb.new _ _ _).alloc _);have b1:Cb w2 (w.heap.size+1) 42 #[.int .i64 0]:=hk.blk (Cb.AS _ _ _ (by simp));have S:ND AF 41 DZ.size:=X2;have NO:Cb ((w2.setRow w.heap.size DZ).setRow (w.heap.size+1) #[.int .i64 n]) w.heap.size 41 DZ:=Cb.Ja (b0.Tz DZ) _ (by omega);have B:Cb ((w2.setRow w.heap.size DZ).setRow (w.heap.size+1) #[.int .i64 n]) (w.heap.size+1) 42 #[.int .i64 n]:=(Cb.Ja b1 DZ (g:=w.heap.size) (by omega)).Tz _;obtain⟨W,hW⟩:=AI ((w2.setRow w.heap.size DZ).setRow (w.heap.size+1) #[.int .i64 n]);have hkb:KB (λb=>b=w.heap.size\/b=w.heap.size+1) w2 W:=by
  rw[<-hW];refine⟨F,F,F,by simp,λk _ hn=>?_⟩;rw[setRow_other _ _ _ _ (λe=>hn (.inr e)),setRow_other _ _ _ _ (λe=>hn (.inl e))]
 refine leaves_cons (f:=42) (args:=#[.pointer (J ⟨w.heap.size,0,E⟩),.pointer (J ⟨w.heap.size+1,0,E⟩)]) (by simp) (by simp[go_sem]) ?_;refine(AOG w.heap.size (w.heap.size+1) (by omega) n DZ w2 b0 rfl b1).mono ?_;rintro e u' w'' ⟨rfl,rfl,rfl⟩;rw[hW]at NO B ⊢;have R:(loadVar 41 ⟨w.heap.size,0,E⟩).run AF W=.ok (.agg DZ) W:=lI NO.row S;have M:(loadVar 42 ⟨w.heap.size+1,0,E⟩).run AF W=.ok (.int .i64 n) W:=by
  have:(isAgg 42).run AF W=.ok U W:=by kernel_rfl
  simp[loadVar,this,load,HW,B.cell]
 have q:Ay w W:=hkb.after (w:=w) (Ay.trans ((((Ay.refl w).alloc _).alloc _)) hk) (λk EG=>by omega);refine⟨.tuple #[.agg DZ,.int .i64 n],?_,F,q⟩;simp[results,MO,asAddr,R,M]
theorem Anc (i l N:Int)(c:Bool)(R : ¬N=0)(M : ¬i<0)(Q : ¬N<=i)(z:AZ.wrap (l+1)=l+1)(q:AC AF 28 [.agg [.c (.int .i64 l),.c (.bool c)]] (.c (.bool I)))(S:AC AF 253 [.c (.int .i64 5)] (.c (.int .i64 N)))(A0:AC AF 254 [.c (.int .i64 l)] (.c (.int .i64 (if l<=1 then 2 else 3)))) :
 AC AF 190 [.c (.int .i64 5),.c (.int .i64 i),.agg [.c (.int .i64 l),.c (.bool c)]] (.A7 [.agg [.c (.int .i64 (GB 5 i ⟨l,c⟩).By),.c (.bool (GB 5 i ⟨l,c⟩).Hd)],.c (.int .i64 0)]):=by
 have e:(GB 5 i ⟨l,c⟩)=⟨if l+1<=3 then l+1 else 3,c || decide (i=1)⟩:=F;rw[e];by_cases h3:l+1<=3;rw[if_pos h3];have K : ¬3<l+1:=by omega
 have B : ¬3<=l:=by omega
 refine en Nv Nw ?_;cases c with
 | true=>exact wz (cj6 @R @M @Q @z @K @B Nx) (cj2 q S W)
 | false=>exact wz (cj6 @R @M @Q @z @K @B Nx) (cj2 q S W)
 rw[if_neg h3];have K:3<l+1:=by omega
 have B:3<=l:=by omega
 refine en Nv Nw ?_;cases c with
 | true=>exact wz (cj6 @R @M @Q @z @K @B Nx) (cj2 q S W)
 | false=>exact wz (cj6 @R @M @Q @z @K @B Nx) (cj2 q S W)
theorem Ane (i l N:Int)(c:Bool)(Q : ¬N=0)(K : ¬i<0)(M : ¬N<=i)(z:AZ.wrap (l+1)=l+1)(S:AC AF 28 [.agg [.c (.int .i64 l),.c (.bool c)]] (.c (.bool I)))(R:AC AF 253 [.c (.int .i64 6)] (.c (.int .i64 N)))(q:AC AF 254 [.c (.int .i64 l)] (.c (.int .i64 (if l<=1 then 2 else 3)))) :
 AC AF 190 [.c (.int .i64 6),.c (.int .i64 i),.agg [.c (.int .i64 l),.c (.bool c)]] (.A7 [.agg [.c (.int .i64 (GB 6 i ⟨l,c⟩).By),.c (.bool (GB 6 i ⟨l,c⟩).Hd)],.c (.int .i64 0)]):=by
 by_cases B:i=0;subst B;have e:(GB 6 0 ⟨l,c⟩)=⟨3,c⟩:=F;rw[e];refine en Nv Nw ?_;exact wz (cj3 @Q @K @M Nx) (cj2 S R W);have e:(GB 6 i ⟨l,c⟩)=⟨l,I⟩:=by simp[GB,B]
 rw[e];refine en Nv Nw ?_;exact wz (cj4 @Q @K @M @B Nx) (cj2 S R W)
theorem Anf (i l N:Int)(c:Bool)(Q : ¬N=0)(K : ¬i<0)(M : ¬N<=i)(hw:AZ.wrap (l+1)=l+1)(S:AC AF 28 [.agg [.c (.int .i64 l),.c (.bool c)]] (.c (.bool I)))(R:AC AF 253 [.c (.int .i64 7)] (.c (.int .i64 N)))(B:AC AF 254 [.c (.int .i64 l)] (.c (.int .i64 (if l<=1 then 2 else 3)))) :
 AC AF 190 [.c (.int .i64 7),.c (.int .i64 i),.agg [.c (.int .i64 l),.c (.bool c)]] (.A7 [.agg [.c (.int .i64 (GB 7 i ⟨l,c⟩).By),.c (.bool (GB 7 i ⟨l,c⟩).Hd)],.c (.int .i64 0)]):=by
 by_cases z:i=0;subst z;have e:(GB 7 0 ⟨l,c⟩)=⟨l,c⟩:=by simp[GB]
 rw[e];refine en Nv Nw ?_;exact wz (cj3 @Q @K @M Nx) (cj2 S R W);by_cases q:i=1;subst q;have e:(GB 7 1 ⟨l,c⟩)=⟨if l<=1 then 2 else 3,c || true⟩:=by simp[GB,VU]
 rw[e];obtain⟨L,hL⟩:∃L:Int,(if l<=1 then 2 else 3)=L:=⟨_,rfl⟩
 rw[hL]at B ⊢;refine en Nv Nw ?_;cases c with
 | true=>exact wz (cj3 @Q @K @M Nx) (cj3 S R B W)
 | false=>exact wz (cj3 @Q @K @M Nx) (cj3 S R B W)
 have e:(GB 7 i ⟨l,c⟩)=⟨if l<=1 then 2 else 3,c || false⟩:=by simp[GB,VU,z,q]
 rw[e];obtain⟨L,hL⟩:∃L:Int,(if l<=1 then 2 else 3)=L:=⟨_,rfl⟩
 rw[hL]at B ⊢;refine en Nv Nw ?_;cases c with
 | true=>exact wz (cj5 @Q @K @M @z @q Nx) (cj3 S R B W)
 | false=>exact wz (cj5 @Q @K @M @z @q Nx) (cj3 S R B W)
theorem Ang (i l N:Int)(c:Bool)(Q : ¬N=0)(K : ¬i<0)(M : ¬N<=i)(hw:AZ.wrap (l+1)=l+1)(S:AC AF 28 [.agg [.c (.int .i64 l),.c (.bool c)]] (.c (.bool I)))(R:AC AF 253 [.c (.int .i64 8)] (.c (.int .i64 N)))(B:AC AF 254 [.c (.int .i64 l)] (.c (.int .i64 (if l<=1 then 2 else 3)))) :
 AC AF 190 [.c (.int .i64 8),.c (.int .i64 i),.agg [.c (.int .i64 l),.c (.bool c)]] (.A7 [.agg [.c (.int .i64 (GB 8 i ⟨l,c⟩).By),.c (.bool (GB 8 i ⟨l,c⟩).Hd)],.c (.int .i64 0)]):=by
 by_cases z:i=0;subst z;have e:(GB 8 0 ⟨l,c⟩)=⟨l,c⟩:=by simp[GB]
 rw[e];refine en Nv Nw ?_;exact wz (cj3 @Q @K @M Nx) (cj2 S R W);by_cases q:i=1;subst q;have e:(GB 8 1 ⟨l,c⟩)=⟨if l<=1 then 2 else 3,c || false⟩:=by simp[GB,VU]
 rw[e];obtain⟨L,hL⟩:∃L:Int,(if l<=1 then 2 else 3)=L:=⟨_,rfl⟩
 rw[hL]at B ⊢;refine en Nv Nw ?_;cases c with
 | true=>exact wz (cj3 @Q @K @M Nx) (cj3 S R B W)
 | false=>exact wz (cj3 @Q @K @M Nx) (cj3 S R B W)
 have e:(GB 8 i ⟨l,c⟩)=⟨if l<=1 then 2 else 3,c || false⟩:=by simp[GB,VU,z,q]
 rw[e];obtain⟨L,hL⟩:∃L:Int,(if l<=1 then 2 else 3)=L:=⟨_,rfl⟩
 rw[hL]at B ⊢;refine en Nv Nw ?_;cases c with
 | true=>exact wz (cj5 @Q @K @M @z @q Nx) (cj3 S R B W)
 | false=>exact wz (cj5 @Q @K @M @z @q Nx) (cj3 S R B W)
theorem Anh (i l N:Int)(c:Bool)(Q : ¬N=0)(K : ¬i<0)(M : ¬N<=i)(hw:AZ.wrap (l+1)=l+1)(S:AC AF 28 [.agg [.c (.int .i64 l),.c (.bool c)]] (.c (.bool I)))(R:AC AF 253 [.c (.int .i64 9)] (.c (.int .i64 N)))(B:AC AF 254 [.c (.int .i64 l)] (.c (.int .i64 (if l<=1 then 2 else 3)))) :
 AC AF 190 [.c (.int .i64 9),.c (.int .i64 i),.agg [.c (.int .i64 l),.c (.bool c)]] (.A7 [.agg [.c (.int .i64 (GB 9 i ⟨l,c⟩).By),.c (.bool (GB 9 i ⟨l,c⟩).Hd)],.c (.int .i64 0)]):=by
 by_cases z:i=0;subst z;have e:(GB 9 0 ⟨l,c⟩)=⟨l,c⟩:=by simp[GB]
 rw[e];refine en Nv Nw ?_;exact wz (cj3 @Q @K @M Nx) (cj2 S R W);by_cases q:i=1;subst q;have e:(GB 9 1 ⟨l,c⟩)=⟨if l<=1 then 2 else 3,c || true⟩:=by simp[GB,VU]
 rw[e];obtain⟨L,hL⟩:∃L:Int,(if l<=1 then 2 else 3)=L:=⟨_,rfl⟩
 rw[hL]at B ⊢;refine en Nv Nw ?_;cases c with
 | true=>exact wz (cj3 @Q @K @M Nx) (cj3 S R B W)
 | false=>exact wz (cj3 @Q @K @M Nx) (cj3 S R B W)
 have e:(GB 9 i ⟨l,c⟩)=⟨if l<=1 then 2 else 3,c || false⟩:=by simp[GB,VU,z,q]
 rw[e];obtain⟨L,hL⟩:∃L:Int,(if l<=1 then 2 else 3)=L:=⟨_,rfl⟩
 rw[hL]at B ⊢;refine en Nv Nw ?_;cases c with
 | true=>exact wz (cj5 @Q @K @M @z @q Nx) (cj3 S R B W)
 | false=>exact wz (cj5 @Q @K @M @z @q Nx) (cj3 S R B W)
theorem AnZ (i l N:Int)(c:Bool)(M : ¬N=0)(B : ¬i<0)(K : ¬N<=i)(q:AZ.wrap (l+1)=l+1)(R:AC AF 28 [.agg [.c (.int .i64 l),.c (.bool c)]] (.c (.bool I)))(Q:AC AF 253 [.c (.int .i64 10)] (.c (.int .i64 N)))(S:AC AF 254 [.c (.int .i64 l)] (.c (.int .i64 (if l<=1 then 2 else 3)))) :
 AC AF 190 [.c (.int .i64 10),.c (.int .i64 i),.agg [.c (.int .i64 l),.c (.bool c)]] (.A7 [.agg [.c (.int .i64 (GB 10 i ⟨l,c⟩).By),.c (.bool (GB 10 i ⟨l,c⟩).Hd)],.c (.int .i64 0)]):=by
 have e:(GB 10 i ⟨l,c⟩)=⟨l,I⟩:=by simp[GB]
 rw[e];refine en Nv Nw ?_;exact wz (cj3 @M @B @K Nx) (cj2 R Q W)
theorem Ana (i l N:Int)(c:Bool)(M : ¬N=0)(B : ¬i<0)(K : ¬N<=i)(q:AZ.wrap (l+1)=l+1)(R:AC AF 28 [.agg [.c (.int .i64 l),.c (.bool c)]] (.c (.bool I)))(Q:AC AF 253 [.c (.int .i64 11)] (.c (.int .i64 N)))(S:AC AF 254 [.c (.int .i64 l)] (.c (.int .i64 (if l<=1 then 2 else 3)))) :
 AC AF 190 [.c (.int .i64 11),.c (.int .i64 i),.agg [.c (.int .i64 l),.c (.bool c)]] (.A7 [.agg [.c (.int .i64 (GB 11 i ⟨l,c⟩).By),.c (.bool (GB 11 i ⟨l,c⟩).Hd)],.c (.int .i64 0)]):=by
 have e:(GB 11 i ⟨l,c⟩)=⟨l,c⟩:=by simp[GB]
 rw[e];refine en Nv Nw ?_;exact wz (cj3 @M @B @K Nx) (cj2 R Q W)
theorem Anb (i l N:Int)(c:Bool)(M : ¬N=0)(B : ¬i<0)(K : ¬N<=i)(q:AZ.wrap (l+1)=l+1)(R:AC AF 28 [.agg [.c (.int .i64 l),.c (.bool c)]] (.c (.bool I)))(Q:AC AF 253 [.c (.int .i64 12)] (.c (.int .i64 N)))(S:AC AF 254 [.c (.int .i64 l)] (.c (.int .i64 (if l<=1 then 2 else 3)))) :
 AC AF 190 [.c (.int .i64 12),.c (.int .i64 i),.agg [.c (.int .i64 l),.c (.bool c)]] (.A7 [.agg [.c (.int .i64 (GB 12 i ⟨l,c⟩).By),.c (.bool (GB 12 i ⟨l,c⟩).Hd)],.c (.int .i64 0)]):=by
 have e:(GB 12 i ⟨l,c⟩)=⟨if l<1 then 1 else l,c⟩:=by simp[GB]
 rw[e];refine en Nv Nw ?_;exact wz (cj3 @M @B @K Nx) (cj2 R Q W)
theorem Ajt (k i:Int)(s:Aa):AC AF 190 [.c (.int .i64 k),.c (.int .i64 i),Aj s] (Zx (XW k i s)):=by
 have K:=AAA s;have Q:=Ani k;have B:=AnX s.By;obtain⟨N,hN⟩:=AI (H2 k);obtain⟨ok,A5⟩:=AI s.ok;unfold XW;rw[A5,hN];rw[A5]at K;rw[hN]at Q;cases ok with
 | false=>rw[if_pos (.inl F)];obtain⟨l,c⟩:=s;unfold Zx Aj AR;unfold Aj at K;refine en Nv Nw ?_;exact wz Nx (cj K<|trivial)
 | true =>
 have hl:0<=s.By/\s.By<=3:=by unfold Aa.ok at A5;simpa using A5
 by_cases M:N=0;rw[if_pos (.inr M)];subst M;obtain⟨l,c⟩:=s;unfold Zx Aj AR;unfold Aj at K;refine en Nv Nw ?_;exact wz Nx (cj2 K Q W);rw[if_neg (λh=>h.elim (λh=>by cases h) M)];by_cases R:i<0\/N<=i;rw[if_pos R];obtain⟨l,c⟩:=s;unfold Zx Aj AR;unfold Aj at K;refine en Nv Nw ?_;rcases R with R|R
 exact wz (cj2 @M @R Nx) (cj2 K Q W);by_cases hi:i<0;exact wz (cj2 @M @hi Nx) (cj2 K Q W);exact wz (cj3 @M @hi @R Nx) (cj2 K Q W);rw[if_neg R];have S : ¬i<0:=λh=>R (.inl h)
 have q : ¬N<=i:=λh=>R (.inr h)
 have hk:k=5\/k=6\/k=7\/k=8\/k=9\/k=10\/k=11\/k=12:=by
  have:=AYz (k:=k) (by rw[hN];exact M);omega
 obtain⟨l,c⟩:=s;simp only at hl B;have z:AZ.wrap (l+1)=l+1:=Ac;unfold Zx Aj AR;unfold Aj at K;unfold VU at B;clear R A5;rcases hk with rfl|rfl|rfl|rfl|rfl|rfl|rfl|rfl
 exact Anc i l N c M S q z K Q B;exact Ane i l N c M S q z K Q B;exact Anf i l N c M S q z K Q B;exact Ang i l N c M S q z K Q B;exact Anh i l N c M S q z K Q B;exact AnZ i l N c M S q z K Q B;exact Ana i l N c M S q z K Q B;exact Anb i l N c M S q z K Q B
end Go.Proofs.YtglaipbdiofkfaaGreat
