/- Part of the proof of breakpointLength.proved. Conditions: none. (Joined and shortened by a program.) -/
import Derived.Test.YtpodcjcajanldaaGreatP9
import Derived.Test.YtpodcjcajanldaaGreatP11
set_option linter.unusedVariables false
set_option linter.unusedSimpArgs false
set_option maxRecDepth 100000
set_option maxHeartbeats 16000000
open Go.Proofs.Tryz renaming prog→AD,results147→pZ,results93→SN,results286→p8,func282→SI,ntmps282→aW,results282→FX,results209→yK
open List renaming drop_zero→BO,drop_succ_cons→Be,getElem?_eq_getElem→BP,drop_eq_getElem_cons→Cz,drop_of_length_le→C5,foldl_cons→Bl,foldl_nil→B7,set_cons_zero→BC,set_cons_succ→Az,take_add_one→Ve,length_map→Cg,replicate_succ→Ao,length_nil→B6,nil_append→Bh,getElem?_map→Co,length_cons→BQ,map_cons→Al,map_nil→A8,sizeOf_lt_of_mem→Q0,replicate_zero→C8,cons_append→Bg,mem_cons_self→Er
open Bool renaming true_and→B5,false_and→C2
open SizeOf renaming sizeOf→I6
namespace Go.Proofs.YtpodcjcajanldaaGreat
open Go.RowKit
@[simp] theorem AZX:Dd AD 28=some (119,4,32):=by kernel_rfl
structure En where
 text:ByteArray
 cls:Int
 lim:Bool
 str:Bool
def En.row (e:En):List C:=[.str e.text,.int .i64 e.cls,.bool e.lim,.bool e.str]
def En.vs (e:En):List V:=e.row.map V.c
def Mt (e:En):V:=.agg e.vs
def Dj (l:List En):C:=.sl (l.map En.row)
section
variable (b:En)
@[simp] theorem En.VV:b.vs.length=4:=rfl
@[simp] theorem En.xH:b.vs.all V.one=true:=rfl
@[simp] theorem En.xI:b.vs.take 4=b.vs:=rfl
@[simp] theorem En.xE:b.vs[0]?=some (.c (.str b.text)):=rfl
@[simp] theorem En.xC (h:0<b.vs.length):b.vs[0]'h=.c (.str b.text):=rfl
@[simp] theorem En.AHb:b.vs[1]?=some (.c (.int .i64 b.cls)):=rfl
@[simp] theorem En.AHZ (h:1<b.vs.length):b.vs[1]'h=.c (.int .i64 b.cls):=rfl
@[simp] theorem En.nt:V.AO b.vs=some b.vs:=Xg b.row
@[simp] theorem En.xJ:toCs b.vs=some b.row:=toCs_c b.row
@[simp] theorem En.AHe (cs:List V)(h:cs.length=4):Ek cs 0 b.vs=b.vs:=Zd (by simp[h])
@[simp] theorem En.Lh:b.row.length=4:=rfl
@[simp] theorem En.wE:b.row.map V.c=b.vs:=rfl
@[simp] theorem En.AFm:b.row.take 4=b.row:=rfl
@[simp] theorem En.ASu:b.row[0]?=some (.str b.text):=rfl
@[simp] theorem En.ASv:b.row[1]?=some (.int .i64 b.cls):=rfl
@[simp] theorem En.xG (n:Nat):V.BT n b.vs=true:=rfl
@[simp] theorem En.AHd (k:Nat)(row:List C):V.BG k row b.vs=b.vs:=rfl
end
def Qr (c:Int):Bool:=decide (33<=c/\c<=126)
def En.ok (e:En):Bool:=Da Qr e.text && (decide (1<=e.text.size) && (decide (e.text.size<=16) && (decide (0<=e.cls) && decide (e.cls<=7))))
def RQ (l:List En)(t:ByteArray):Bool:=l.any fun e=>decide (e.text=t)
def Od:List En->List En->Bool
 | _,[]=>true
 | pre,e::r=>e.ok && (!RQ pre e.text && Od (pre++[e]) r)
def Mr (l:List En):Bool:=Od [] l && decide (l.length<=200)
def FC (l:List En)(t:ByteArray):En:=match l with
 | []=>⟨t,0,false,false⟩
 | e::r=>if e.text=t then e else FC r t
def Lc:List En->ByteArray->Int
 | [],_=> -1
 | e::r,t=>if e.text=t then 0 else if Lc r t= -1 then -1 else Lc r t+1
theorem uN : ∀(l:List En) (t:ByteArray),(Lc l t= -1/\FC l t=⟨t,0,false,false⟩)\/∃k:Nat,Lc l t=k/\l[k]?=some (FC l t)
 | [],t=>.inl ⟨rfl,rfl⟩
 | e::r,t=>by
   simp only[Lc,FC];by_cases h:e.text=t
   . rw[if_pos h,if_pos h];exact .inr ⟨0,rfl,rfl⟩
   . rw[if_neg h,if_neg h];rcases uN r t with ⟨h1,h2⟩|⟨k,h1,h2⟩
     . rw[if_pos h1];exact .inl ⟨rfl,h2⟩
     . rw[h1,if_neg (by omega)];exact .inr ⟨k+1,by omega,by simpa using h2⟩
theorem ACt : ∀(l:List En) (t:ByteArray) (k:Nat),(∀(j:Nat) (e:En),j<k->l[j]?=some e->¬e.text=t)->Lc l t=if Lc (l.drop k) t= -1 then -1 else Lc (l.drop k) t+k
 | l,t,0,_=>by simp only[BO];split<;>omega
 | [],t,k+1,_=>by simp[Lc]
 | e::r,t,k+1,h=>by
   have h0 : ¬e.text=t:=h 0 e (by omega) rfl;have ih:=ACt r t k (fun j x hj hx=>h (j+1) x (by omega) (by simpa using hx));simp only[Lc,if_neg h0,Be];rw[ih];split
   . simp
   . rename_i h1;have h2 : -1<=Lc (r.drop k) t:=by
      rcases uN (r.drop k) t with ⟨h3,_⟩|⟨n,h3,_⟩<;>omega
     rw[if_neg (by omega)];omega
theorem z5 {s:ByteArray}{k:Nat}(h:k<s.size):∃b,s.data.toList[k]?=some b/\s.data[k]?=some b/\s.data.toList.drop k=b::s.data.toList.drop (k+1)/\(k:Int)<(s.size:Int)/\(b.toNat<256):=by
 have hl:k<s.data.toList.length:=by simpa using h
 refine⟨s.data.toList[k],BP hl,?_,Cz hl,by omega,UInt8.toNat_lt _⟩;rw[<-Array.getElem?_toList];exact BP hl
theorem z6 {s:ByteArray}{k:Nat}(h : ¬k<s.size):s.data.toList.drop k=[]:=C5 (by simp;omega)
theorem AQx (e:En)(hs:e.text.size<=maxLen):AC AD 147 [Mt e] (.c (.bool e.ok)):=by
 unfold maxLen at hs;obtain⟨s,Jh⟩:=AE e.text;obtain⟨cl,CU⟩:=AE e.cls;unfold Mt En.ok;rw[Jh,CU];rw[Jh]at hs;refine en Tryz.func147 Tryz.ntmps147 ?_;refine wy (cj @Jh<|pZ) trivial ⟨?_⟩;refine lp (ι:={ k:Nat // k<=s.size/\Da Qr s=(s.data.toList.drop k).all fun b=>Qr b.toNat }) (fun k=>[(2,.c (.bool false)),(3,.c (.int .i64 (k.1:Int)))]) (fun _=>[.box 119 e.vs false]) (fun k=>s.size - k.1) ⟨0,by simp[Da]⟩ ?_ ?_;all_goals simp only[Br,Bl,B7,BC,Az]
 . refine Le.BV (by simp[A5])
 . rintro ⟨k,hk,hI⟩;simp only;by_cases hlt:k<s.size
   . obtain⟨b,hb,hb',hd,CA,_⟩:=z5 hlt;rw[hd,List.all_cons]at hI;obtain⟨c,hc⟩:∃c:Int,(b.toNat:Int)=c:=⟨_,rfl⟩
     rw[hc]at hI;cases L2:Qr c with
     | true =>
       rw[L2,B5]at hI;simp[Qr]at L2;refine wy (cj @Jh<|cj @hlt<|cj @CA<|cj @hb<|cj @hb'<|cj @hc<|cj (L2.1)<|cj (L2.2)<|pZ) trivial ⟨?_⟩;exact⟨⟨k+1,by omega,hI⟩,by simp only;omega,wd 1⟩
     | false =>
       rw[L2,C2]at hI;simp[Qr]at L2;rw[hI,C2];exact wz (cj @Jh<|cj @hlt<|cj @CA<|cj @hb<|cj @hb'<|cj @hc<|pZ) trivial
   . rw[z6 hlt,List.all_nil]at hI;rw[hI,B5];have CA : ¬(k:Int)<(s.size:Int):=by omega
     have e1:((s.size:Int)<=16)=(s.size<=16):=by rw[eq_iff_iff];omega
     have e2:((1:Int)<=(s.size:Int))=(1<=s.size):=by rw[eq_iff_iff];omega
     exact wz (cj @Jh<|cj @CU<|cj @hlt<|cj @CA<|cj @e1<|cj @e2<|pZ) trivial
def QT (l:List En)(k:Nat):ByteArray->Bool:=RQ (l.take k)
theorem AOe (l:List En):QT l 0=fun _=>false:=by funext s;simp[QT,RQ]
theorem AOf (l:List En)(k:Nat)(e:En)(h:l[k]?=some e):X2 (QT l k) e.text=QT l (k+1):=by
 funext s;unfold X2 QT;rw[Ve,h];simp only[Option.toList_some,RQ,List.any_append,List.any_cons,List.any_nil,Bool.or_false];rw[Bool.or_comm];congr 1
 simp only[decide_eq_decide];exact eq_comm
theorem AFH (l:List En)(hl:l.length<=1000000)(hs : ∀e∈l,e.text.size<=maxLen):AC AD 93 [.c (Dj l)] (.c (.bool (Mr l))):=by
 obtain⟨rs,Ak⟩:=AE (l.map En.row);have Am:rs.length=l.length:=by rw[<-Ak,Cg]
 unfold Dj Mr;rw[Ak];by_cases h200:l.length<=200
 . rw[decide_eq_true h200,Bool.and_true];have e1 : ¬(200:Int)<(l.length:Int):=by omega
   refine en Tryz.func93 Tryz.ntmps93 ?_;refine wu (CJ.mk 3) (cj @Am<|cj @e1<|SN) trivial ⟨?_⟩;refine AW.DM ?_;refine SW.take 2 ?_;with_reducible refine Bw (by simp[Ao,Am];first|exact rfl|exact⟨rfl,rfl⟩) ?_
   refine B9 ?_;simp only[Be,BO];refine SW.mR (.mp 0) (some (0,.mp (Jz 0 (QT l 0)))) (fun k ob e=>by cases e;exact Nat.le_refl _) rfl (fun S0 w0 x a w g ht=>?_) ?_
   . rw[AOe];exact AP0 g rfl (EH ht (.tmp 10)) 0 (fun hd=>by obtain⟨o,ho⟩:=g.dom 0 hd;simp at ho)
   simp only[St.step,St.put,CG,B6,Bh,Nat.lt_irrefl,if_false,Az,BC];refine SW.take 1 ?_;with_reducible refine Bw (by simp[Ao];first|exact rfl|exact⟨rfl,rfl⟩) ?_
   refine B9 ?_;simp only[Be,BO];refine SW.nil ?_;refine wy (cj @Am<|SN) trivial ⟨?_⟩;refine lp (ι:={ k:Nat // k<=l.length/\Od [] l=Od (l.take k) (l.drop k) }) (fun k=>[(2,.c (.bool false)),(14,.c (.int .i64 (k.1:Int)))]) (fun k=>[.mp (Jz k.1 (QT l k.1))]) (fun k=>l.length - k.1) ⟨0,by simp⟩ ?_ ?_;all_goals simp only[Br,Bl,B7,BC,Az]
   . refine Le.BV (by simp[A5])
   . rintro ⟨k,hk,hI⟩;simp only;by_cases hlt:k<l.length
     . obtain⟨e,he⟩:∃e,l[k]?=some e:=⟨_,BP hlt⟩
       have BN:rs[k]?=some e.row:=by rw[<-Ak,Co,he];rfl
       have CW:k<rs.length:=by omega
       have CH:=gx BN;rw[Cz hlt,gx he]at hI;simp only[Od]at hI;have hp:=AQx e (hs e (List.mem_of_getElem? he));unfold Mt at hp;have Dv:l.take k++[e]=l.take (k+1):=by rw[Ve,he];rfl
       have QF:=AOf l k e he;have dk:QT l k e.text=RQ (l.take k) e.text:=rfl;rw[Dv,<-dk]at hI;cases ho:e.ok with
       | false =>
         rw[ho]at hp hI;rw[C2]at hI;rw[hI];exact wz (cj @Am<|cj @hlt<|cj @CW<|cj @BN<|cj @CH<|SN) (cj hp<|trivial)
       | true =>
         rw[ho]at hp hI;rw[B5]at hI;refine wu (CJ.mk 7) (cj @Am<|cj @hlt<|cj @CW<|cj @BN<|cj @CH<|SN) trivial ⟨?_⟩;refine AW.DM ?_;refine SW.take 2 (AH.out ?_);simp only[List.take_succ_cons,List.take_zero];have ff:=(cj @Am<|SN)
         repeat any_goals (first|refine CC ?_|exact Bq ff|refine Bt ff ?_|refine A4 ff (hp) ?_|refine Bi ff ?_)
         simp only[Be,BO];refine SW.take 5 ?_;with_reducible refine Bw (by simp[Ao];first|exact rfl|exact⟨rfl,rfl⟩) ?_
         refine B9 ?_;simp only[Be,BO];refine SW.mR (.c (.bool (QT l k e.text))) none (fun _ _ e=>nomatch e) (by simp[gate]) (fun S0 w0 x a w g ht=>?_) ?_
         . exact APx g rfl (EH ht (.tmp 22)) (EH ht (.tmp 24)) rfl
         simp only[St.step,St.put,CG,Az,BC];obtain⟨B,hB⟩:=AE (QT l k e.text);rw[hB]at hI ⊢;refine SW.take 1 ?_;with_reducible refine Bw (by simp[Ao];first|exact rfl|exact⟨rfl,rfl⟩) ?_
         refine B9 ?_;simp only[Be,BO];refine SW.nil ?_;cases B with
         | true =>
           rw[Bool.not_true,C2]at hI;rw[hI];exact wz SN trivial
         | false =>
           rw[Bool.not_false,B5]at hI;refine wu (CJ.mk 9) SN trivial ⟨?_⟩;refine AW.DM ?_;refine SW.take 3 ?_;with_reducible refine Bw (by simp[Ao];first|exact rfl|exact⟨rfl,rfl⟩) ?_
           refine B9 ?_;simp only[Be,BO];refine SW.mR .any (some (0,.mp (Jz (k+1) (QT l (k+1))))) (fun k ob e=>by cases e;exact Nat.zero_le _) rfl (fun S0 w0 x a w g ht=>?_) ?_
           . rw[<-QF];exact APz g rfl (EH ht (.tmp 27)) (EH ht (.tmp 29)) rfl rfl (by unfold maxLen;omega)
           simp only[St.step,St.put,CG,BQ,B6,Nat.reduceAdd,Nat.reduceLT,if_true,Az,BC];refine SW.nil ?_;refine wy SN trivial ⟨?_⟩;exact⟨⟨k+1,by omega,hI⟩,by simp only;omega,wd 1⟩
     . rw[C5 (by omega)]at hI;simp only[Od]at hI;rw[hI];exact wz (cj @Am<|cj @hlt<|SN) trivial
 . rw[decide_eq_false h200,Bool.and_false];have e1:(200:Int)<(l.length:Int):=by omega
   refine en Tryz.func93 Tryz.ntmps93 ?_;exact wz (cj @Am<|cj @e1<|SN) trivial
theorem AQ6 (e:En)(t:ByteArray):AC AD 287 [.agg e.vs,.cp [.str t] 0] (.c (.bool (decide (e.text=t)))):=by
 refine en Tryz.func287 Tryz.ntmps287 ?_;exact wz Tryz.results287 trivial
theorem AQ7 (l:List En)(t:ByteArray)(hl:l.length<=1000000):AC AD 286 [.c (Dj l),.fn 287 [.cp [.str t] 0]] (.c (.int .i64 (Lc l t))):=by
 obtain⟨rs,Ak⟩:=AE (l.map En.row);have Am:rs.length=l.length:=by rw[<-Ak,Cg]
 obtain⟨R,hR⟩:=AE (Lc l t);unfold Dj;rw[Ak,hR];refine en Tryz.func286 Tryz.ntmps286 ?_;refine wy (cj @Am<|p8) trivial ⟨?_⟩;refine lp (ι:={ k:Nat // k<=l.length/\∀(i:Nat) (x:En),i<k->l[i]?=some x->¬x.text=t }) (fun k=>[(4,.c (.int .i64 0)),(8,.c (.int .i64 (k.1:Int)))]) (fun _=>[]) (fun k=>l.length - k.1) ⟨0,by simp⟩ ?_ ?_;all_goals simp only[Br,Bl,B7,BC,Az]
 . refine Le.BV (by simp[A5])
 . rintro ⟨k,hk,hI⟩;simp only;have hd:=ACt l t k hI;rw[hR]at hd;by_cases hlt:k<l.length
   . obtain⟨e,he⟩:∃e,l[k]?=some e:=⟨_,BP hlt⟩
     have BN:rs[k]?=some e.row:=by rw[<-Ak,Co,he];rfl
     have CW:k<rs.length:=by omega
     have CH:=gx BN;have hc:=AQ6 e t;rw[Cz hlt,gx he]at hd;by_cases hq:e.text=t
     . rw[decide_eq_true hq]at hc;have Yz:R=(k:Int):=by simpa [Lc,hq]using hd
       rw[Yz];clear hd Yz hR;exact wz (cj @Am<|cj @hlt<|cj @CW<|cj @BN<|cj @CH<|p8) (cj hc<|trivial)
     . rw[decide_eq_false hq]at hc;refine wy (cj @Am<|cj @hlt<|cj @CW<|cj @BN<|cj @CH<|p8) (cj hc<|trivial) ⟨?_⟩;refine⟨⟨k+1,by omega,fun i x hi hx=>?_⟩,by simp only;omega,wd 0⟩;by_cases e':i=k
       . subst e';rw[he]at hx;cases hx;exact hq
       . exact hI i x (by omega) hx
   . rw[C5 (by omega)]at hd;simp only[Lc]at hd;rw[if_pos trivial]at hd;exact wz (cj @Am<|cj @hlt<|cj @hd<|p8) trivial
theorem AQ8 (l:List En)(t:ByteArray)(hl:l.length<=1000000):AC AD 219 [.c (Dj l),.c (.str t)] (.c (.int .i64 (Lc l t))):=by
 have h:=AQ7 l t hl;refine en Tryz.func219 Tryz.ntmps219 ?_;refine wu (CJ.mk 1) Tryz.results219 trivial ⟨?_⟩;refine AW.AR 0 rfl (by simp[toCs,toC];exact rfl) (by simp[V.BG,V.AR];exact rfl) (by simp[O.AR,V.BG,V.AR];exact rfl) ?_;exact wz Tryz.results219 (cj h<|trivial)
theorem vT (l:List En)(t:ByteArray)(hl:l.length<=1000000):AC AD 155 [.c (Dj l),.c (.str t)] (Mt (FC l t)):=by
 have h:=AQ8 l t hl;obtain⟨rs,Ak⟩:=AE (l.map En.row);have Am:rs.length=l.length:=by rw[<-Ak,Cg]
 unfold Dj at *
 rw[Ak]at h ⊢;unfold Mt;rcases uN l t with ⟨h1,h2⟩|⟨k,h1,h2⟩
 . rw[h1]at h;rw[h2];simp only[En.vs,En.row,Al,A8];refine en Tryz.func155 Tryz.ntmps155 ?_;exact wz Tryz.results155 (cj h<|trivial)
 . rw[h1]at h;obtain⟨R,hR⟩:=AE (FC l t);rw[hR]at h2 ⊢;have hlt:k<l.length:=(List.getElem?_eq_some_iff.1 h2).1;have BN:rs[k]?=some R.row:=by rw[<-Ak,Co,h2];rfl
   have CW:k<rs.length:=by omega
   have CH:=gx BN;have h0:(0:Int)<=(k:Int):=by omega
   refine en Tryz.func155 Tryz.ntmps155 ?_;exact wz (cj @Am<|cj @hlt<|cj @CW<|cj @BN<|cj @CH<|cj @h0<|Tryz.results155) (cj h<|trivial)
def LO (l:List En):Nd->Int
 | ⟨k,t,_,kids⟩ =>
   if k=2 then(FC l t).cls
   else if k=7\/k=8\/k=9 then(match kids with
    | ⟨_,_,_,[x]⟩::_=>LO l x
    | _=>0)
   else if k=5\/k=11\/k=12 then 7 else 0
 termination_by b=>I6 b
def V9 (l:List En):List Nd->Int
 | b::_=>match b.kids with
   | [x]=>LO l x
   | _=>0
 | []=>0
theorem rK (l:List En)(b:Nd):LO l b=if b.kind=2 then(FC l b.text).cls else if b.kind=7\/b.kind=8\/b.kind=9 then V9 l b.kids else if b.kind=5\/b.kind=11\/b.kind=12 then 7 else 0:=by
 obtain⟨k,t,c,kids⟩:=b;unfold LO;have e:(match kids with
  | ⟨_,_,_,[x]⟩::_=>LO l x
  | _=>0)=V9 l kids:=by
  match kids with
  | []=>rfl
  | ⟨_,_,_,[]⟩::_=>rfl
  | ⟨_,_,_,[x]⟩::_=>rfl
  | ⟨_,_,_,x::y::r⟩::_=>rfl
 rw[e]
theorem AD6 {Q:Nd->Prop}(h : ∀b:Nd,(∀k∈b.kids,∀j∈k.kids,Q j)->Q b):∀b:Nd,Q b:=by
 have : ∀(n:Nat) (b:Nd),I6 b<n->Q b:=by
  intro n;induction n with
  | zero=>intro b hb;omega
  | succ n ih =>
    intro b hb;refine h b fun k hk j hj=>ih j ?_
    have h1:=Q0 hk;have h2:=Q0 hj;cases b;cases k;simp only[Nd.mk.sizeOf_spec]at hb h1 h2;omega
 exact fun b=>this _ b (Nat.lt_succ_self _)
theorem AAO (l:List En):V9 l []=0:=rfl
theorem AAP (l:List En)(b x:Nd)(r:List Nd)(h:b.kids=[x]):V9 l (b::r)=LO l x:=by
 show (match b.kids with | [x]=>LO l x|_=>0)=_;rw[h]
theorem AAQ (l:List En)(b:Nd)(r:List Nd)(h : ¬b.kids.length=1):V9 l (b::r)=0:=by
 show (match b.kids with | [x]=>LO l x|_=>0)=_;match hk:b.kids with
 | []=>rfl
 | [x]=>rw[hk]at h;exact absurd rfl h
 | x::y::q=>rfl
def VG (l:List En):List V:=[.fn 282 [.cp [Dj l] 0,.ptr 0 0]]
theorem AQt (l:List En)(hl:l.length<=1000000):∀b:Nd,b.Bc->AY AD 282 [.cp b.row 0,.cp [Dj l] 0,.ptr 0 0] 268 (VG l) (VG l) (.c (.int .i64 (LO l b))):=AD6 fun b ih Au=>by
 obtain⟨_,hlen,Ov⟩:=K7 b Au;have DX:=vT l b.text hl;have Fq:=G0 b.kids;rw[rK];unfold Mt at DX;obtain⟨R,hR⟩:=AE (FC l b.text);rw[hR]at DX ⊢;obtain⟨k,hk⟩:=AE b.kind;rw[hk];by_cases k2:k=2
 . rw[if_pos k2];unfold VG;refine AY.intro SI rfl ?_;simp only[aW,Al,A8,BQ,B6,Nat.reduceAdd,Nat.reduceSub,Ao,C8,Bg,Bh];have ff:=(cj @hk<|cj @k2<|FX)
   repeat any_goals (first|refine CC ?_|exact Bq ff|refine Bt ff ?_|refine A4 ff (DX) ?_|refine Bi ff ?_|((first|refine By ff ?_ ?_|refine B4 ff ?_ ?_|refine Bz ff ?_ ?_|refine B3 ff ?_ ?_)<;>intro h<;>try (exfalso;first|omega|contradiction)))
   simp[FL,AV,AZ,Aa,V.AP,V.AO,V.DI,V.DJ,AU,FX]
 rw[if_neg k2];by_cases k7:k=7\/k=8\/k=9
 . rw[if_pos k7];obtain⟨rs,Ak⟩:=AE (Nd.rows b.kids);rw[Ak]at Fq;have uX : ∀(Q:Prop),(k=7->Q)->(k=8->Q)->(k=9->Q)->Q:=fun Q a b c=>by rcases k7 with h|h|h;exact a h;exact b h;exact c h
   cases QF:b.kids with
   | nil =>
     rw[QF]at Fq;have e0:rs=[]:=List.eq_nil_of_length_eq_zero Fq;rw[AAO];rw[e0]at Ak;clear ih DX;unfold VG;refine AY.intro SI rfl ?_;simp only[aW,Al,A8,BQ,B6,Nat.reduceAdd,Nat.reduceSub,Ao,C8,Bg,Bh];refine uX _ (fun hn=>?_) (fun hn=>?_) (fun hn=>?_)
     . have ff:=(cj @hk<|cj @hn<|cj @Ak<|FX)
       repeat any_goals (first|refine CC ?_|exact Bq ff|refine Bt ff ?_|refine Bi ff ?_|((first|refine By ff ?_ ?_|refine B4 ff ?_ ?_|refine Bz ff ?_ ?_|refine B3 ff ?_ ?_)<;>intro h<;>try (exfalso;first|omega|contradiction)))
       simp[FL,AV,AZ,Aa,V.AP,V.AO,V.DI,V.DJ,AU,FX]
     . have ff:=(cj @hk<|cj @hn<|cj @Ak<|FX)
       repeat any_goals (first|refine CC ?_|exact Bq ff|refine Bt ff ?_|refine Bi ff ?_|((first|refine By ff ?_ ?_|refine B4 ff ?_ ?_|refine Bz ff ?_ ?_|refine B3 ff ?_ ?_)<;>intro h<;>try (exfalso;first|omega|contradiction)))
       simp[FL,AV,AZ,Aa,V.AP,V.AO,V.DI,V.DJ,AU,FX]
     . have ff:=(cj @hk<|cj @hn<|cj @Ak<|FX)
       repeat any_goals (first|refine CC ?_|exact Bq ff|refine Bt ff ?_|refine Bi ff ?_|((first|refine By ff ?_ ?_|refine B4 ff ?_ ?_|refine Bz ff ?_ ?_|refine B3 ff ?_ ?_)<;>intro h<;>try (exfalso;first|omega|contradiction)))
       simp[FL,AV,AZ,Aa,V.AP,V.AO,V.DI,V.DJ,AU,FX]
   | cons kd r =>
     rw[QF]at Fq Ov;have FT:rs[0]?=some kd.row:=by rw[<-Ak,QF];rfl
     have JQ:=gx FT;have hlt:0<rs.length:=by rw[Fq];simp
     have tp:kd.Bc:=Ov.1;have Fp:=G0 kd.kids;obtain⟨PK,JR⟩:=AE (Nd.rows kd.kids);rw[JR]at Fp;have hlp:(0:Int)<(rs.length:Int):=by omega
     by_cases h1:kd.kids.length=1
     . obtain⟨x,hx⟩:∃x,kd.kids=[x]:=List.length_eq_one_iff.1 h1;rw[AAP l kd x r hx];have hr2:PK[0]?=some x.row:=by rw[<-JR,hx];rfl
       have M3:=gx hr2;have JP:0<PK.length:=by omega
       have Kr:PK.length=1:=by omega
       have FP:=ih kd (by rw[QF];exact Er) x (by rw[hx];exact Er) (N0 (K7 kd tp).2.2 x (by rw[hx];exact Er));clear ih DX;unfold VG at *
       refine AY.intro SI rfl ?_;simp only[aW,Al,A8,BQ,B6,Nat.reduceAdd,Nat.reduceSub,Ao,C8,Bg,Bh];refine uX _ (fun hn=>?_) (fun hn=>?_) (fun hn=>?_)
       . have ff:=(cj @hk<|cj @hn<|cj @Ak<|cj @FT<|cj @JQ<|cj @hlt<|cj @hlp<|cj @JR<|cj @hr2<|cj @M3<|cj @JP<|cj @Kr<|FX)
         repeat any_goals (first|refine PN (CJ.mk 8) ?_|exact Bq ff|refine Bt ff ?_|refine Bi ff ?_|((first|refine By ff ?_ ?_|refine B4 ff ?_ ?_|refine Bz ff ?_ ?_|refine B3 ff ?_ ?_)<;>intro h<;>try (exfalso;first|omega|contradiction)))
         refine AW.Py GZ (.inl rfl) ?_;refine TW.take 9 (Fh (by simp[Ak,FT,JQ,hlt,JR,hr2,M3,JP];first|exact rfl|exact⟨rfl,rfl⟩|exact⟨rfl,rfl,rfl⟩) (Sa ?_));simp only[Be,BO];refine TW.UC 0 FP SI (by kernel_rfl) (by kernel_rfl) (by simp[gate]) (by simp[DE];first|exact rfl|exact⟨rfl,rfl⟩) (by simp[V.DJ,V.DI];try exact rfl) (by rfl) (by rfl) (cs':=[.fn 282 [.cp [Dj l] 0,.ptr 0 0]]) (by rfl) (by rfl) ?_;simp only[St.step,St.put,CG,BQ,B6,Nat.reduceAdd,Nat.reduceLT,if_true,Az,BC];refine TW.take 1 (Fh (by simp;first|exact rfl|exact⟨rfl,rfl⟩|exact⟨rfl,rfl,rfl⟩) (Sa (TW.nil ⟨by kernel_rfl,?_⟩)));have ff:=(FX)
         repeat any_goals (first|refine CC ?_|exact Bq ff|refine Bt ff ?_|refine Bi ff ?_|((first|refine By ff ?_ ?_|refine B4 ff ?_ ?_|refine Bz ff ?_ ?_|refine B3 ff ?_ ?_)<;>intro h<;>try (exfalso;first|omega|contradiction)))
         simp[FL,AV,AZ,Aa,V.AP,V.AO,V.DI,V.DJ,AU,FX]
       . have ff:=(cj @hk<|cj @hn<|cj @Ak<|cj @FT<|cj @JQ<|cj @hlt<|cj @hlp<|cj @JR<|cj @hr2<|cj @M3<|cj @JP<|cj @Kr<|FX)
         repeat any_goals (first|refine PN (CJ.mk 8) ?_|exact Bq ff|refine Bt ff ?_|refine Bi ff ?_|((first|refine By ff ?_ ?_|refine B4 ff ?_ ?_|refine Bz ff ?_ ?_|refine B3 ff ?_ ?_)<;>intro h<;>try (exfalso;first|omega|contradiction)))
         refine AW.Py GZ (.inl rfl) ?_;refine TW.take 9 (Fh (by simp[Ak,FT,JQ,hlt,JR,hr2,M3,JP];first|exact rfl|exact⟨rfl,rfl⟩|exact⟨rfl,rfl,rfl⟩) (Sa ?_));simp only[Be,BO];refine TW.UC 0 FP SI (by kernel_rfl) (by kernel_rfl) (by simp[gate]) (by simp[DE];first|exact rfl|exact⟨rfl,rfl⟩) (by simp[V.DJ,V.DI];try exact rfl) (by rfl) (by rfl) (cs':=[.fn 282 [.cp [Dj l] 0,.ptr 0 0]]) (by rfl) (by rfl) ?_;simp only[St.step,St.put,CG,BQ,B6,Nat.reduceAdd,Nat.reduceLT,if_true,Az,BC];refine TW.take 1 (Fh (by simp;first|exact rfl|exact⟨rfl,rfl⟩|exact⟨rfl,rfl,rfl⟩) (Sa (TW.nil ⟨by kernel_rfl,?_⟩)));have ff:=(FX)
         repeat any_goals (first|refine CC ?_|exact Bq ff|refine Bt ff ?_|refine Bi ff ?_|((first|refine By ff ?_ ?_|refine B4 ff ?_ ?_|refine Bz ff ?_ ?_|refine B3 ff ?_ ?_)<;>intro h<;>try (exfalso;first|omega|contradiction)))
         simp[FL,AV,AZ,Aa,V.AP,V.AO,V.DI,V.DJ,AU,FX]
       . have ff:=(cj @hk<|cj @hn<|cj @Ak<|cj @FT<|cj @JQ<|cj @hlt<|cj @hlp<|cj @JR<|cj @hr2<|cj @M3<|cj @JP<|cj @Kr<|FX)
         repeat any_goals (first|refine PN (CJ.mk 8) ?_|exact Bq ff|refine Bt ff ?_|refine Bi ff ?_|((first|refine By ff ?_ ?_|refine B4 ff ?_ ?_|refine Bz ff ?_ ?_|refine B3 ff ?_ ?_)<;>intro h<;>try (exfalso;first|omega|contradiction)))
         refine AW.Py GZ (.inl rfl) ?_;refine TW.take 9 (Fh (by simp[Ak,FT,JQ,hlt,JR,hr2,M3,JP];first|exact rfl|exact⟨rfl,rfl⟩|exact⟨rfl,rfl,rfl⟩) (Sa ?_));simp only[Be,BO];refine TW.UC 0 FP SI (by kernel_rfl) (by kernel_rfl) (by simp[gate]) (by simp[DE];first|exact rfl|exact⟨rfl,rfl⟩) (by simp[V.DJ,V.DI];try exact rfl) (by rfl) (by rfl) (cs':=[.fn 282 [.cp [Dj l] 0,.ptr 0 0]]) (by rfl) (by rfl) ?_;simp only[St.step,St.put,CG,BQ,B6,Nat.reduceAdd,Nat.reduceLT,if_true,Az,BC];refine TW.take 1 (Fh (by simp;first|exact rfl|exact⟨rfl,rfl⟩|exact⟨rfl,rfl,rfl⟩) (Sa (TW.nil ⟨by kernel_rfl,?_⟩)));have ff:=(FX)
         repeat any_goals (first|refine CC ?_|exact Bq ff|refine Bt ff ?_|refine Bi ff ?_|((first|refine By ff ?_ ?_|refine B4 ff ?_ ?_|refine Bz ff ?_ ?_|refine B3 ff ?_ ?_)<;>intro h<;>try (exfalso;first|omega|contradiction)))
         simp[FL,AV,AZ,Aa,V.AP,V.AO,V.DI,V.DJ,AU,FX]
     . rw[AAQ l kd r h1];have Kr : ¬PK.length=1:=by omega
       have Wg : ¬(PK.length:Int)=1:=by omega
       clear ih DX;unfold VG;refine AY.intro SI rfl ?_;simp only[aW,Al,A8,BQ,B6,Nat.reduceAdd,Nat.reduceSub,Ao,C8,Bg,Bh];refine uX _ (fun hn=>?_) (fun hn=>?_) (fun hn=>?_)
       . have ff:=(cj @hk<|cj @hn<|cj @Ak<|cj @FT<|cj @JQ<|cj @hlt<|cj @hlp<|cj @JR<|cj @Kr<|cj @Wg<|FX)
         repeat any_goals (first|refine CC ?_|exact Bq ff|refine Bt ff ?_|refine Bi ff ?_|((first|refine By ff ?_ ?_|refine B4 ff ?_ ?_|refine Bz ff ?_ ?_|refine B3 ff ?_ ?_)<;>intro h<;>try (exfalso;first|omega|contradiction)))
         simp[FL,AV,AZ,Aa,V.AP,V.AO,V.DI,V.DJ,AU,FX]
       . have ff:=(cj @hk<|cj @hn<|cj @Ak<|cj @FT<|cj @JQ<|cj @hlt<|cj @hlp<|cj @JR<|cj @Kr<|cj @Wg<|FX)
         repeat any_goals (first|refine CC ?_|exact Bq ff|refine Bt ff ?_|refine Bi ff ?_|((first|refine By ff ?_ ?_|refine B4 ff ?_ ?_|refine Bz ff ?_ ?_|refine B3 ff ?_ ?_)<;>intro h<;>try (exfalso;first|omega|contradiction)))
         simp[FL,AV,AZ,Aa,V.AP,V.AO,V.DI,V.DJ,AU,FX]
       . have ff:=(cj @hk<|cj @hn<|cj @Ak<|cj @FT<|cj @JQ<|cj @hlt<|cj @hlp<|cj @JR<|cj @Kr<|cj @Wg<|FX)
         repeat any_goals (first|refine CC ?_|exact Bq ff|refine Bt ff ?_|refine Bi ff ?_|((first|refine By ff ?_ ?_|refine B4 ff ?_ ?_|refine Bz ff ?_ ?_|refine B3 ff ?_ ?_)<;>intro h<;>try (exfalso;first|omega|contradiction)))
         simp[FL,AV,AZ,Aa,V.AP,V.AO,V.DI,V.DJ,AU,FX]
 rw[if_neg k7];simp only[not_or]at k7;obtain⟨x1,x2,x3⟩:=k7;unfold VG;clear ih DX;by_cases k5:k=5\/k=11\/k=12
 . rw[if_pos k5];refine AY.intro SI rfl ?_;simp only[aW,Al,A8,BQ,B6,Nat.reduceAdd,Nat.reduceSub,Ao,C8,Bg,Bh];rcases k5 with k5|k5|k5
   . have ff:=(cj @hk<|cj @k5<|FX)
     repeat any_goals (first|refine CC ?_|exact Bq ff|refine Bt ff ?_|refine Bi ff ?_|((first|refine By ff ?_ ?_|refine B4 ff ?_ ?_|refine Bz ff ?_ ?_|refine B3 ff ?_ ?_)<;>intro h<;>try (exfalso;first|omega|contradiction)))
     simp[FL,AV,AZ,Aa,V.AP,V.AO,V.DI,V.DJ,AU,FX]
   . have ff:=(cj @hk<|cj @k5<|FX)
     repeat any_goals (first|refine CC ?_|exact Bq ff|refine Bt ff ?_|refine Bi ff ?_|((first|refine By ff ?_ ?_|refine B4 ff ?_ ?_|refine Bz ff ?_ ?_|refine B3 ff ?_ ?_)<;>intro h<;>try (exfalso;first|omega|contradiction)))
     simp[FL,AV,AZ,Aa,V.AP,V.AO,V.DI,V.DJ,AU,FX]
   . have ff:=(cj @hk<|cj @k5<|FX)
     repeat any_goals (first|refine CC ?_|exact Bq ff|refine Bt ff ?_|refine Bi ff ?_|((first|refine By ff ?_ ?_|refine B4 ff ?_ ?_|refine Bz ff ?_ ?_|refine B3 ff ?_ ?_)<;>intro h<;>try (exfalso;first|omega|contradiction)))
     simp[FL,AV,AZ,Aa,V.AP,V.AO,V.DI,V.DJ,AU,FX]
 . rw[if_neg k5];simp only[not_or]at k5;obtain⟨y1,y2,y3⟩:=k5;refine AY.intro SI rfl ?_;simp only[aW,Al,A8,BQ,B6,Nat.reduceAdd,Nat.reduceSub,Ao,C8,Bg,Bh];have ff:=(cj @hk<|cj @k2<|cj @x1<|cj @x2<|cj @x3<|cj @y1<|cj @y2<|cj @y3<|FX)
   repeat any_goals (first|refine CC ?_|exact Bq ff|refine Bt ff ?_|refine Bi ff ?_|((first|refine By ff ?_ ?_|refine B4 ff ?_ ?_|refine Bz ff ?_ ?_|refine B3 ff ?_ ?_)<;>intro h<;>try (exfalso;first|omega|contradiction)))
   simp[FL,AV,AZ,Aa,V.AP,V.AO,V.DI,V.DJ,AU,FX]
theorem AQu (l:List En)(hl:l.length<=1000000)(b:Nd)(Au:b.Bc):AC AD 209 [.c (Dj l),At b] (.c (.int .i64 (LO l b))):=by
 have FP:=AQt l hl b Au;unfold At;unfold VG at FP;refine en Tryz.func209 Tryz.ntmps209 ?_;have ff:=(yK)
 repeat any_goals (first|refine PN (CJ.mk 1) ?_|exact Bq ff|refine Bt ff ?_|refine Bi ff ?_|((first|refine By ff ?_ ?_|refine B4 ff ?_ ?_|refine Bz ff ?_ ?_|refine B3 ff ?_ ?_)<;>intro h<;>try (exfalso;first|omega|contradiction)))
 refine AW.AR 0 rfl (by simp[toCs,toC];exact rfl) (by simp[V.BG,V.AR];exact rfl) (by simp[O.AR,V.BG,V.AR];exact rfl) ?_;refine AW.AR 1 rfl (by simp[toCs,toC];exact rfl) (by simp[V.BG,V.AR];exact rfl) (by simp[O.AR,V.BG,V.AR];exact rfl) ?_;have ff:=(yK)
 repeat any_goals (first|refine PN (CJ.mk 3) ?_|exact Bq ff|refine Bt ff ?_|refine Bi ff ?_|((first|refine By ff ?_ ?_|refine B4 ff ?_ ?_|refine Bz ff ?_ ?_|refine B3 ff ?_ ?_)<;>intro h<;>try (exfalso;first|omega|contradiction)))
 refine AW.DM ?_;refine SW.take 1 ?_;with_reducible refine Bw (by simp[Ao];first|exact rfl|exact⟨rfl,rfl⟩) ?_
 refine B9 ?_;simp only[Be,BO];refine SW.UC 2 FP SI (by kernel_rfl) (by kernel_rfl) (by simp[gate]) (by simp[DE];first|exact rfl|exact⟨rfl,rfl⟩) (by simp[V.DJ,V.DI];try exact rfl) (by rfl) (by rfl) (cs':=[.fn 282 [.cp [Dj l] 0,.ptr 2 0]]) (by rfl) (by rfl) ?_;simp only[St.step,St.put,CG,BQ,B6,Nat.reduceAdd,Nat.reduceLT,if_true,Az,BC];refine SW.take 1 ?_;with_reducible refine Bw (by simp[Ao];first|exact rfl|exact⟨rfl,rfl⟩) ?_
 refine B9 ?_;simp only[Be,BO];refine SW.nil ?_;have ff:=(yK)
 repeat any_goals (first|refine CC ?_|exact Bq ff|refine Bt ff ?_|refine Bi ff ?_|((first|refine By ff ?_ ?_|refine B4 ff ?_ ?_|refine Bz ff ?_ ?_|refine B3 ff ?_ ?_)<;>intro h<;>try (exfalso;first|omega|contradiction)))
end Go.Proofs.YtpodcjcajanldaaGreat
