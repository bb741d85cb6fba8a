/- Part of the proof of layoutAdvance.proved. Conditions: none. (Joined and shortened by a program.) -/
import Derived.Test.YtpodcjcajanldaaGreatL46
set_option linter.unusedVariables false
set_option linter.unusedSimpArgs false
set_option maxRecDepth 100000
set_option maxHeartbeats 16000000
open Go.Proofs.Tryz renaming prog→AD,func128→Tr,func126→SF,func127→om,func129→Vh,results178→pg,results113→YL,results179→ph,func124→SE,results124→pX,func70→pF,results70→qC,results71→i7,func72→YH,ntmps72→ic,results72→Q5,func33→iS,ntmps33→ib,results33→YQ,func29→o7,func182→aH,func248→Vi,func118→oj,ntmps118→pH,results118→pW
open List renaming foldl_cons→Bl,foldl_nil→B7,set_cons_zero→Ax,set_cons_succ→Az,drop_eq_getElem_cons→Cz,drop_of_length_le→C5,map_cons→Al,map_nil→A8,length_cons→BQ,length_nil→B6,replicate_succ→Ao,replicate_zero→C8,cons_append→Bg,nil_append→Bh,getElem?_map→Co,getElem?_eq_getElem→BP,all_cons→Dr,all_nil→Kc,mem_of_getElem?→C6,length_map→Cg,getElem?_take→Jv,getElem_mem→LL,take_succ_eq_append_getElem→NR
open Go.IntKind renaming i64→Ad
open Bool renaming true_and→B5,false_and→C2,not_false→gU,and_false→PZ,and_true→G4,eq_iff_iff→Ka,false_or→gT
open Option.some renaming injEq→BE
open Option renaming map_some→H8
open Nat renaming eq_zero_or_pos→oW,le_of_ble_eq_true→Fg
namespace Go.Proofs.YtpodcjcajanldaaGreat
open Go.RowKit
theorem VB (f:AI)(name:ByteArray)(hl:f.CO.length<=maxLen):AC AD 128 [.agg f.vs,.c (.str name)] (J6 (f.find name)):=by
 unfold maxLen at hl;refine en Tr Tryz.ntmps128 ?_;refine go @FZ.eq_1 ?_;refine lp (ι:={ k:Nat // k<=f.CO.length/\f.find name=G9 name (f.CO.drop k) }) (fun k=>[(6,.c (.int .i64 (k.1:Int))),(5,.c (.bool false))]) (fun _=>[.box 27 f.vs false,.box 84 (Ag.zero.row.map V.c) false]) (fun k=>f.CO.length - k.1) ⟨0,by simp[AI.find]⟩ ?_ ?_;all_goals simp only[Br,Bl,B7,Ax,Az]
 . refine Le.BV (by simp[A5,Ag.zero,Ag.row])
 . rintro ⟨k,hk,hI⟩;by_cases hlt:k<f.CO.length
   . obtain⟨g,hg⟩:=AE (f.CO[k]);rw[Cz hlt,hg]at hI;by_cases he:g.name=name
     . have hF:f.find name=some g:=by rw[hI];simp[G9,he]
       refine go (cj @hlt<|cj @hg<|cj @he<|cj @FZ.eq_1<|@Ag.row.eq_1) ?_;simp[Aj,AV,AZ,Aa,V.AP,V.AO,AU,Tryz.results128,J6,hF,Ag.row,he]
     . have hw:Ad.wrap ((k:Int)+1)=((k+1:Nat):Int):=by rw[Aq];simp
       refine go (cj @hlt<|cj @hg<|cj @he<|cj @FZ.eq_1<|cj @Ag.row.eq_1<|@hw) ?_;refine⟨⟨k+1,by omega,by rw[hI];simp[G9,he]⟩,by simp only;omega,?_⟩;refine Le.BV (by simp[A5,Ag.zero,Ag.row])
   . have hF:f.find name=none:=by rw[hI,C5 (by omega)];rfl
     refine go (cj @hlt<|cj @Ag.zero.eq_1<|cj @Ag.row.eq_1<|@FZ.eq_1) ?_;simp[Aj,AV,AZ,Aa,V.AP,V.AO,AU,Tryz.results128,J6,hF,Ag.zero,Ag.row]
theorem VE (n lo hi:Int):AC AD 126 [.c (.int .i64 n),.c (.int .i64 lo),.c (.int .i64 hi)] (.c (.bool (Bn lo hi [n]))):=by
 by_cases h1:lo<=n
 . refine en SF Tryz.ntmps126 ?_;refine go @h1 ?_;simp[Aj,AV,AZ,Aa,V.AP,V.AO,AU,Tryz.results126,Bn,h1]
 . refine en SF Tryz.ntmps126 ?_;refine go @h1 ?_;simp[Aj,AV,AZ,Aa,V.AP,V.AO,AU,Tryz.results126,Bn,h1]
theorem uy (g:Ag):AC AD 127 [Dp g] (.c (.bool (Bn (-20000) 20000 g.Gz))):=by
 unfold Dp;refine AC.intro om rfl ?_;simp only[Tryz.ntmps127,Al,A8,BQ,B6,Nat.reduceAdd,Nat.reduceSub,Ao,C8,Bg,Bh,Ag.row];refine Ac ?_;refine lp (ι:={ k:Nat // k<=5/\Bn (-20000) 20000 g.Gz=Bn (-20000) 20000 (g.Gz.drop k) }) (fun k=>[(4,.c (.int .i64 (k.1:Int))),(2,.c (.bool false))]) (fun _=>[.box 84 (g.row.map V.c) false]) (fun k=>5 - k.1) ⟨0,by simp⟩ ?_ ?_;all_goals simp only[Br,Bl,B7,Ax,Az]
 . refine Le.BV (by simp[A5,Ag.row])
 . rintro ⟨k,hk,hI⟩;by_cases hlt:k<5
   . have Fq:g.Gz.length=5:=rfl;obtain⟨n,hn⟩:∃n,g.Gz[k]'(by rw[Fq];exact hlt)=n:=⟨_,rfl⟩
     rw[Cz (by rw[Fq];exact hlt),hn]at hI;have BU:([[C.int Ad g.w],[C.int Ad g.h],[C.int Ad g.d],[C.int Ad g.DY],[C.int Ad g.attach]]:List (List C))[k]?=some [.int .i64 n]:=by
      have e:([[C.int Ad g.w],[C.int Ad g.h],[C.int Ad g.d],[C.int Ad g.DY],[C.int Ad g.attach]]:List (List C))=g.Gz.map fun n=>[C.int .i64 n]:=rfl
      rw[e,Co,BP (by rw[Fq];exact hlt),hn];rfl
     have CA:(k:Int)<5:=by omega
     refine go (cj @CA<|@BU) ?_;refine BY (VE n (-20000) 20000) SF ?_;cases hb:Bn (-20000) 20000 [n]with
     | false =>
       have e:Bn (-20000) 20000 g.Gz=false:=by rw[hI];simp[Bn]at hb ⊢;omega
       refine go @hb ?_;simp[Aj,AV,AZ,Aa,V.AP,V.AO,AU,Tryz.results127,e]
     | true =>
       have hw:Ad.wrap ((k:Int)+1)=((k+1:Nat):Int):=by rw[Aq];simp
       refine go (cj @hb<|@hw) ?_;refine⟨⟨k+1,by omega,by rw[hI];simp[Bn]at hb ⊢;omega⟩,by simp only;omega,?_⟩;refine Le.BV (by simp[A5,Ag.row])
   . have e:Bn (-20000) 20000 g.Gz=true:=by rw[hI,C5 (by show 5<=k;omega)];rfl
     have CA : ¬(k:Int)<5:=by omega
     refine go @CA ?_;simp[Aj,AV,AZ,Aa,V.AP,V.AO,AU,Tryz.results127,e]
theorem Xk (g:Ag):AC AD 129 [Dp g] (.c (.int .i64 (Ad.wrap (g.h+g.d)))):=by
 unfold Dp;refine AC.intro Vh rfl ?_;simp only[Tryz.ntmps129,Al,A8,BQ,B6,Nat.reduceAdd,Nat.reduceSub,Ao,C8,Bg,Bh,Ag.row];refine Ac ?_;simp[Aj,AV,AZ,Aa,V.AP,V.AO,AU,Tryz.results129]
theorem ATN (l:List Nd)(Au:(EV l).Bc)(hc:(EV l).cnt<=100000):AC AD 79 [.c (.sl (Nd.rows l))] (.c (.bool (EV l).Av)):=by
 have h1:=AF1 l;have h2:=AF3 (EV l) Au hc;unfold At at *
 refine en Tryz.func79 Tryz.ntmps79 ?_;exact wz Tryz.results79 (cj h1<|cj h2<|trivial)
theorem AS6 (e:En)(hs:e.text.size<=maxLen):AC AD 178 [Mt e] (.c (.bool e.ok)):=by
 unfold maxLen at hs;obtain⟨s,Jh⟩:=AE e.text;obtain⟨cl,CU⟩:=AE e.cls;unfold Mt En.ok;rw[Jh,CU];rw[Jh]at hs;refine en Tryz.func178 Tryz.ntmps178 ?_;refine wy (cj @Jh<|pg) trivial ⟨?_⟩;refine lp (ι:={ k:Nat // k<=s.size/\Da Qr s=(s.data.toList.drop k).all fun b=>Qr b.toNat }) (fun k=>[(2,.c (.bool false)),(3,.c (.int .i64 (k.1:Int)))]) (fun _=>[.box 119 e.vs false]) (fun k=>s.size - k.1) ⟨0,by simp[Da]⟩ ?_ ?_;all_goals simp only[Br,Bl,B7,Ax,Az]
 . refine Le.BV (by simp[A5])
 . rintro ⟨k,hk,hI⟩;simp only;by_cases hlt:k<s.size
   . obtain⟨b,hb,hb',hd,CA,_⟩:=z5 hlt;rw[hd,Dr]at hI;obtain⟨c,hc⟩:∃c:Int,(b.toNat:Int)=c:=⟨_,rfl⟩
     rw[hc]at hI;cases L2:Qr c with
     | true =>
       rw[L2,B5]at hI;simp[Qr]at L2;refine wy (cj @Jh<|cj @hlt<|cj @CA<|cj @hb<|cj @hb'<|cj @hc<|cj (L2.1)<|cj (L2.2)<|pg) trivial ⟨?_⟩;exact⟨⟨k+1,by omega,hI⟩,by simp only;omega,wd 1⟩
     | false =>
       rw[L2,C2]at hI;simp[Qr]at L2;rw[hI,C2];exact wz (cj @Jh<|cj @hlt<|cj @CA<|cj @hb<|cj @hb'<|cj @hc<|pg) trivial
   . rw[z6 hlt,Kc]at hI;rw[hI,B5];have CA : ¬(k:Int)<(s.size:Int):=by omega
     have e1:((s.size:Int)<=16)=(s.size<=16):=by rw[eq_iff_iff];omega
     have e2:((1:Int)<=(s.size:Int))=(1<=s.size):=by rw[eq_iff_iff];omega
     exact wz (cj @Jh<|cj @CU<|cj @hlt<|cj @CA<|cj @e1<|cj @e2<|pg) trivial
theorem AB0 (l:List En)(t:ByteArray):RQ l t=false↔∀(j:Nat) (e:En),l[j]?=some e->¬e.text=t:=by
 unfold RQ;rw[List.any_eq_false];constructor
 . intro h j e he;simpa using h e (C6 he)
 . intro h e he;obtain⟨j,hj⟩:=List.getElem?_of_mem he;simpa using h j e hj
theorem ATM (l:List En)(hl:l.length<=1000000)(hs : ∀e∈l,e.text.size<=maxLen):AC AD 113 [.c (Dj l)] (.c (.bool (Mr l))):=by
 obtain⟨rs,Ak⟩:=AE (l.map En.row);have Am:rs.length=l.length:=by rw[<-Ak,Cg]
 unfold Dj Mr;rw[Ak];refine en Tryz.func113 Tryz.ntmps113 ?_;refine wy (cj @Am<|YL) trivial ⟨?_⟩;refine lp (ι:={ k:Nat // k<=l.length/\Od [] l=Od (l.take k) (l.drop k) }) (fun k=>[(2,.c (.bool false)),(3,.c (.int .i64 (k.1:Int)))]) (fun _=>[]) (fun k=>l.length - k.1) ⟨0,by simp⟩ ?_ ?_;all_goals simp only[Br,Bl,B7,Ax,Az]
 . refine Le.BV (by simp[A5])
 . rintro ⟨k,hk,hI⟩;simp only;by_cases hlt:k<l.length
   . obtain⟨e,he⟩:∃e,l[k]?=some e:=⟨_,BP hlt⟩
     have BN:rs[k]?=some e.row:=by rw[<-Ak,Co,he];rfl
     have CW:k<rs.length:=by omega
     have CH:=gx BN;rw[Cz hlt,gx he]at hI;simp only[Od]at hI;have hp:=AS6 e (hs e (C6 he));unfold Mt at hp;have Dv:l.take k++[e]=l.take (k+1):=by rw[List.take_add_one,he];rfl
     rw[Dv]at hI;cases ho:e.ok with
     | false =>
       rw[ho]at hp hI;rw[hI,C2,C2];exact wz (cj @Am<|cj @hlt<|cj @CW<|cj @BN<|cj @CH<|YL) (cj hp<|trivial)
     | true =>
       rw[ho]at hp hI;rw[B5]at hI;refine wy (cj @Am<|cj @hlt<|cj @CW<|cj @BN<|cj @CH<|YL) (cj hp<|trivial) ⟨?_⟩;refine lp (ι:={ j:Nat // j<=k/\∀(i:Nat) (x:En),i<j->l[i]?=some x->¬x.text=e.text }) (fun j=>[(2,.c (.bool false)),(4,.c (.int .i64 (j.1:Int)))]) (fun _=>[]) (fun j=>k - j.1) ⟨0,by simp⟩ ?_ ?_;all_goals simp only[Br,Bl,B7,Ax,Az]
       . refine Le.BV (by simp[A5])
       . rintro ⟨j,hj,hJ⟩;simp only;by_cases hjk:j<k
         . obtain⟨x,hx⟩:∃x,l[j]?=some x:=⟨_,BP (by omega)⟩
           have QI:rs[j]?=some x.row:=by rw[<-Ak,Co,hx];rfl
           have QG:j<rs.length:=by omega
           have ACb:=gx QI;by_cases hq:x.text=e.text
           . have hT:RQ (l.take k) e.text=true:=by
              cases hc:RQ (l.take k) e.text with
              | true=>rfl
              | false=>exact absurd hq ((AB0 _ _).1 hc j x (by rw[Jv,if_pos hjk];exact hx))
             rw[hT,Bool.not_true,C2]at hI;rw[hI,C2];exact wz (cj @Am<|cj @hlt<|cj @CW<|cj @BN<|cj @CH<|cj @hjk<|cj @QG<|cj @QI<|cj @ACb<|cj @hq<|YL) trivial
           . refine wy (cj @Am<|cj @hlt<|cj @CW<|cj @BN<|cj @CH<|cj @hjk<|cj @QG<|cj @QI<|cj @ACb<|cj @hq<|YL) trivial ⟨?_⟩;refine⟨⟨j+1,by omega,fun i y hi hy=>?_⟩,by simp only;omega,wd 0⟩;by_cases e':i=j
             . subst e';rw[hx]at hy;cases hy;exact hq
             . exact hJ i y (by omega) hy
         . have hT:RQ (l.take k) e.text=false:=(AB0 _ _).2 fun i x hx=>by
            rw[Jv]at hx;split at hx
            . exact hJ i x (by omega) hx
            . cases hx
           rw[hT,gU,B5]at hI;refine wy (cj @hjk<|YL) trivial ⟨?_⟩;exact⟨⟨k+1,by omega,hI⟩,by simp only;omega,wd 0⟩
   . rw[C5 (by omega)]at hI;simp only[Od]at hI;rw[hI,B5];have e1:((l.length:Int)<=200)=(l.length<=200):=by rw[eq_iff_iff];omega
     exact wz (cj @Am<|cj @hlt<|cj @e1<|YL) trivial
theorem ASb (l:List En)(t:ByteArray)(hl:l.length<=1000000):AC AD 179 [.c (Dj l),.c (.str t)] (Mt (FC l t)):=by
 obtain⟨rs,Ak⟩:=AE (l.map En.row);have Am:rs.length=l.length:=by rw[<-Ak,Cg]
 obtain⟨R,hR⟩:=AE (FC l t);unfold Dj Mt;rw[Ak,hR];refine en Tryz.func179 Tryz.ntmps179 ?_;refine wy (cj @Am<|ph) trivial ⟨?_⟩;refine lp (ι:={ k:Nat // k<=l.length/\R=FC (l.drop k) t }) (fun k=>[(5,.c (.int .i64 (k.1:Int)))]) (fun _=>[.box 119 [.c (.str ⟨#[]⟩),.c (.int .i64 0),.c (.bool false),.c (.bool false)] false]) (fun k=>l.length - k.1) ⟨0,by simp[hR]⟩ ?_ ?_;all_goals simp only[Br,Bl,B7,Ax,Az]
 . refine Le.BV (by simp[A5])
 . rintro ⟨k,hk,hI⟩;simp only;by_cases hlt:k<l.length
   . obtain⟨e,he⟩:∃e,l[k]?=some e:=⟨_,BP hlt⟩
     have BN:rs[k]?=some e.row:=by rw[<-Ak,Co,he];rfl
     have CW:k<rs.length:=by omega
     have CH:=gx BN;rw[Cz hlt,gx he]at hI;simp only[FC]at hI;by_cases hq:e.text=t
     . rw[if_pos hq]at hI;exact wz (cj @Am<|cj @hlt<|cj @CW<|cj @BN<|cj @CH<|cj @hq<|ph) trivial
     . rw[if_neg hq]at hI;refine wy (cj @Am<|cj @hlt<|cj @CW<|cj @BN<|cj @CH<|cj @hq<|ph) trivial ⟨?_⟩;exact⟨⟨k+1,by omega,hI⟩,by simp only;omega,wd 1⟩
   . rw[C5 (by omega)]at hI;simp only[FC]at hI;subst hI;exact wz (cj @Am<|cj @hlt<|cj @En.vs.eq_1<|cj @En.row.eq_1<|ph) trivial
theorem TS (s:ByteArray)(hs:s.size<=maxLen):AC AD 124 [.c (.str s)] (.c (.bool (CL s))):=by
 unfold maxLen at hs;refine en SE Tryz.ntmps124 ?_;refine Ac ?_;refine lp (ι:={ k:Nat // k<=s.size/\s.data.toList.all DH=(s.data.toList.drop k).all DH }) (fun k=>[(3,.c (.int .i64 (k.1:Int))),(2,.c (.bool false))]) (fun _=>[]) (fun k=>s.size - k.1) ⟨0,by simp⟩ ?_ ?_;all_goals simp only[Br,Bl,B7,Ax,Az]
 . refine Le.BV (by simp[A5])
 . rintro ⟨k,hk,hI⟩;by_cases hlt:k<s.size
   . have hd:s.data.toList.drop k=(s.data[k]'hlt)::s.data.toList.drop (k+1):=by rw[Cz (by simpa using hlt)];simp
     rw[hd,Dr]at hI;obtain⟨b,hb⟩:=AE (s.data[k]'hlt);rw[hb]at hI;have hw:Ad.wrap ((k:Int)+1)=((k+1:Nat):Int):=by rw[Aq];simp
     by_cases h1:(b.toNat:Int)<32
     . have e:DH b=false:=by simp[DH];omega
       refine go (cj @hlt<|cj @hb<|@h1) ?_;simp[Aj,AV,AZ,Aa,V.AP,V.AO,AU,pX,CL,hI,e]
     . by_cases h2:(126:Int)<(b.toNat:Int)
       . have e:DH b=false:=by simp[DH];omega
         refine go (cj @hlt<|cj @hb<|cj @h1<|@h2) ?_;simp[Aj,AV,AZ,Aa,V.AP,V.AO,AU,pX,CL,hI,e]
       . have e:DH b=true:=by simp[DH];omega
         refine go (cj @hlt<|cj @hb<|cj @h1<|cj @h2<|@hw) ?_;refine⟨⟨k+1,by omega,by rw[hI,e,B5]⟩,by simp only;omega,?_⟩;refine Le.BV (by simp[A5])
   . have hk':k=s.size:=by omega
     have e:s.data.toList.all DH=true:=by rw[hI,C5 (by simp;omega)];rfl
     have hkk:s.size=s.data.size:=rfl;by_cases h1:(1:Int)<=(s.size:Int)
     . have hr:CL s=decide ((s.size:Int)<=16):=by
        unfold CL;rw[e,B5,decide_eq_true (show 1<=s.size by omega),B5,decide_eq_decide];omega
       refine go (cj @hlt<|@h1) ?_;simp[Aj,AV,AZ,Aa,V.AP,V.AO,AU,pX,hr]
     . have hr:CL s=false:=by
        unfold CL;rw[decide_eq_false (show ¬1<=s.size by omega),C2,PZ]
       refine go (cj @hlt<|@h1) ?_;simp[Aj,AV,AZ,Aa,V.AP,V.AO,AU,pX,hr]
theorem uP (lo hi n:Int)(l:List Int):Bn lo hi (n::l)=(Bn lo hi [n] && Bn lo hi l):=by simp[Bn]
theorem AOz (p:Params):p.lens.length=17:=rfl
theorem vQ (p:Params):AC AD 70 [.agg p.vs] (.c (.bool (JU p))):=by
 have hP:JU p=(Bn 1 100 p.PG && Bn 0 20000 p.lens):=rfl;have hl:=AOz p;refine AC.intro pF rfl ?_;simp only[Tryz.ntmps70,Al,A8,BQ,B6,Nat.reduceAdd,Nat.reduceSub,Ao,C8,Bg,Bh,Params.vs,Params.list];refine Ac ?_;refine lp (ι:={ k:Nat // k<=p.lens.length/\Bn 0 20000 p.lens=Bn 0 20000 (p.lens.drop k) }) (fun k=>[(4,.c (.int .i64 (k.1:Int))),(2,.c (.bool false)),(3,.full (p.lens.map fun n=>[C.int .i64 n]))]) (fun _=>[.box 25 p.vs false]) (fun k=>p.lens.length - k.1) ⟨0,by simp⟩ ?_ ?_;all_goals simp only[Br,Bl,B7,Ax,Az]
 . refine Le.BV (by simp[A5,Params.lens,Params.vs,Params.list])
 . rintro ⟨k,hk,hI⟩;by_cases hlt:k<p.lens.length
   . obtain⟨n,hn⟩:=AE (p.lens[k]);rw[Cz hlt,hn,uP]at hI;have hw:Ad.wrap ((k:Int)+1)=((k+1:Nat):Int):=by rw[Aq];simp
     refine go (cj @hlt<|@hn) ?_;refine BY (VE n 0 20000) SF ?_;cases hb:Bn 0 20000 [n]with
     | false =>
       have e:JU p=false:=by rw[hP,hI,hb];simp
       refine go @hb ?_;simp[Aj,AV,AZ,Aa,V.AP,V.AO,AU,qC,e]
     | true =>
       refine go (cj @hb<|@hw) ?_;refine⟨⟨k+1,by omega,by rw[hI,hb,B5]⟩,by simp only;omega,?_⟩;refine Le.BV (by simp[A5])
   . have e:Bn 0 20000 p.lens=true:=by rw[hI,C5 (by omega)];rfl
     have hp:JU p=(Bn 1 100 [p.Jo] && (Bn 1 100 [p.Jp] && Bn 1 100 [p.Nf])):=by
      rw[hP,e,G4];unfold Params.PG;rw[uP,uP 1 100 p.Jp]
     cases c1:Bn 1 100 [p.Jo]with
     | false =>
       rw[c1,C2]at hp;refine go (cj @hlt<|cj @Params.vs.eq_1<|@Params.list.eq_1) ?_;refine gc @c1 (VE p.Jo 1 100) SF ?_;refine Ac ?_;simp[Aj,AV,AZ,Aa,V.AP,V.AO,AU,qC,hp]
     | true =>
       cases c2:Bn 1 100 [p.Jp]with
       | false =>
         rw[c1,c2,C2,PZ]at hp;refine go (cj @hlt<|cj @Params.vs.eq_1<|@Params.list.eq_1) ?_;refine gc @c1 (VE p.Jo 1 100) SF ?_;refine gc @c2 (VE p.Jp 1 100) SF ?_;refine Ac ?_;simp[Aj,AV,AZ,Aa,V.AP,V.AO,AU,qC,hp]
       | true =>
         rw[c1,c2,B5,B5]at hp;refine go (cj @hlt<|cj @Params.vs.eq_1<|@Params.list.eq_1) ?_;refine gc @c1 (VE p.Jo 1 100) SF ?_;refine gc @c2 (VE p.Jp 1 100) SF ?_;refine BY (VE p.Nf 1 100) SF ?_;refine Ac ?_;simp[Aj,AV,AZ,Aa,V.AP,V.AO,AU,qC,hp]
theorem kg (g:Ag):GK g=(CL g.name && (Bn (-20000) 20000 g.Gz && decide (0<=g.w))):=by
 unfold GK;cases CL g.name with
 | false=>rfl
 | true =>
   simp only[B5];rw[Ka];simp[Bn,Ag.Gz];omega
theorem ABR (l:List Ag)(hl:l.length<=1000)(hn : ∀g∈l,g.name.size<=maxLen):AC AD 71 [.c (FZ l)] (.c (.bool (HH [] l))):=by
 refine en Tryz.func71 Tryz.ntmps71 ?_;refine Ac ?_;refine lp (ι:={ k:Nat // k<=l.length/\HH [] l=HH (l.take k) (l.drop k) }) (fun k=>[(3,.c (.int .i64 (k.1:Int))),(2,.c (.bool false))]) (fun _=>[]) (fun k=>l.length - k.1) ⟨0,by simp⟩ ?_ ?_;all_goals simp only[Br,Bl,B7,Ax,Az]
 . refine Le.BV (by simp[A5])
 . rintro ⟨k,hk,hI⟩;by_cases hlt:k<l.length
   . obtain⟨g,hg⟩:=AE (l[k]);have KF:=hn l[k] (LL hlt);rw[hg]at KF;have Dv:l.take k++[g]=l.take (k+1):=by rw[NR hlt,hg]
     rw[Cz hlt,hg]at hI;simp only[HH]at hI;rw[Dv]at hI;have hw:Ad.wrap ((k:Int)+1)=((k+1:Nat):Int):=by rw[Aq];simp
     cases c1:CL g.name with
     | false =>
       have e:HH [] l=false:=by rw[hI,kg,c1];rfl
       refine go (cj @hlt<|cj @hg<|cj @FZ.eq_1<|@Ag.row.eq_1) ?_;refine gc @c1 (TS g.name KF) SE ?_;refine Ac ?_;simp[Aj,AV,AZ,Aa,V.AP,V.AO,AU,i7,e]
     | true =>
       cases c2:Bn (-20000) 20000 g.Gz with
       | false =>
         have e:HH [] l=false:=by rw[hI,kg,c1,c2];rfl
         refine go (cj @hlt<|cj @hg<|cj @FZ.eq_1<|@Ag.row.eq_1) ?_;refine gc (cj @c1<|cj @hlt<|cj @hg<|cj @Ag.row.eq_1<|@Dp.eq_1) (TS g.name KF) SE ?_;refine gc (cj @c2<|cj @hlt<|cj @hg<|cj @Ag.row.eq_1<|@Dp.eq_1) (uy g) om ?_;refine Ac ?_;simp[Aj,AV,AZ,Aa,V.AP,V.AO,AU,i7,e]
       | true =>
         by_cases c3:g.w<0
         . have e:HH [] l=false:=by rw[hI,kg,c1,c2,decide_eq_false (show ¬0<=g.w by omega)];rfl
           refine go (cj @hlt<|cj @hg<|cj @FZ.eq_1<|@Ag.row.eq_1) ?_;refine gc (cj @c1<|cj @hlt<|cj @hg<|cj @Ag.row.eq_1<|@Dp.eq_1) (TS g.name KF) SE ?_;refine gc (cj @c2<|cj @hlt<|cj @hg<|cj @Ag.row.eq_1<|cj @Dp.eq_1<|@c3) (uy g) om ?_;refine Ac ?_;simp[Aj,AV,AZ,Aa,V.AP,V.AO,AU,i7,e]
         . rw[kg,c1,c2,decide_eq_true (show 0<=g.w by omega)]at hI;simp only[B5,Bool.and_self]at hI;refine go (cj @hlt<|cj @hg<|cj @FZ.eq_1<|@Ag.row.eq_1) ?_;refine gc (cj @c1<|cj @hlt<|cj @hg<|cj @Ag.row.eq_1<|@Dp.eq_1) (TS g.name KF) SE ?_;refine gc (cj @c2<|cj @hlt<|cj @hg<|cj @Ag.row.eq_1<|cj @Dp.eq_1<|@c3) (uy g) om ?_;refine Ac ?_;refine lp (ι:={ j:Nat // j<=k/\hasName g.name (l.take k)=hasName g.name ((l.take k).drop j) }) (fun j=>[(4,.c (.int .i64 (j.1:Int))),(2,.c (.bool false))]) (fun _=>[]) (fun j=>k - j.1) ⟨0,by simp⟩ ?_ ?_;all_goals simp only[Br,Bl,B7,Ax,Az]
           . refine Le.BV (by simp[A5])
           . rintro ⟨j,hj,hJ⟩;by_cases EJ:j<k
             . have hj2:j<l.length:=by omega
               obtain⟨q,hq⟩:=AE (l[j]);have hd:(l.take k).drop j=q::(l.take k).drop (j+1):=by
                rw[Cz (by simp;omega)];simp[hq]
               rw[hd]at hJ;simp only[hasName]at hJ;by_cases he:q.name=g.name
               . have e:HH [] l=false:=by rw[hI,hJ,decide_eq_true he];rfl
                 refine go (cj @EJ<|cj @hj2<|cj @hq<|cj @hlt<|cj @hg<|cj @he<|cj @FZ.eq_1<|@Ag.row.eq_1) ?_;simp[Aj,AV,AZ,Aa,V.AP,V.AO,AU,i7,e]
               . have hw2:Ad.wrap ((j:Int)+1)=((j+1:Nat):Int):=by rw[Aq];simp
                 refine go (cj @EJ<|cj @hj2<|cj @hq<|cj @hlt<|cj @hg<|cj @he<|cj @FZ.eq_1<|cj @Ag.row.eq_1<|@hw2) ?_;refine⟨⟨j+1,by omega,by rw[hJ,decide_eq_false he,gT]⟩,by simp only;omega,?_⟩;refine Le.BV (by simp[A5])
             . have e:hasName g.name (l.take k)=false:=by rw[hJ,C5 (by simp;omega)];rfl
               refine go (cj @EJ<|@hw) ?_;refine⟨⟨k+1,by omega,by rw[hI,e];rfl⟩,by simp only;omega,?_⟩;refine Le.BV (by simp[A5,FZ])
   . have e:HH [] l=true:=by rw[hI,C5 (by omega)];rfl
     refine go (cj @hlt<|@FZ.eq_1) ?_;simp[Aj,AV,AZ,Aa,V.AP,V.AO,AU,i7,e]
def PL (f:AI):Nat->Int->List ByteArray->Bool
 | _,_,[]=>true
 | i,last,n::r=>match f.find n with
   | none=>false
   | some g=> !(decide (0<i) && decide (g.Ch<=last)) && PL f (i+1) g.Ch r
def NG (f:AI)(ov:Int):Bool->List Part->Option Bool
 | e,[]=>some e
 | e,p::r=>match f.find p.name with
   | none=>none
   | some g=>if g.Ch<=ov then none else NG f ov (e || p.ext) r
def NH (f:AI)(s:A6):Bool:=
 (CL s.name && (decide (1<=s.Bb.length) && (decide (s.Bb.length<=16) && decide (s.parts.length<=8)))) && (PL f 0 0 s.Bb && (if s.parts=[]then decide (s.CX=0)else match NG f s.CX false s.parts with
   | none=>false
   | some e=>e && decide (0<=s.CX)))
theorem AA1 {name:ByteArray}{g:Ag} : ∀ {l:List Ag},G9 name l=some g->g∈l
 | [],h=>by simp[G9]at h
 | x::r,h=>by
   simp only[G9]at h;split at h
   . simp only[BE]at h;subst h;simp
   . exact List.mem_cons_of_mem _ (AA1 h)
theorem lF {f:AI}(Au : ∀g∈f.CO,GK g=true){name:ByteArray}{g:Ag}(h:f.find name=some g): -40000<=g.Ch/\g.Ch<=40000/\Ad.wrap (g.h+g.d)=g.Ch:=by
 have:=Au g (AA1 h);simp[GK,Bn]at this;unfold Ag.Ch;exact⟨by omega,by omega,Aq⟩
theorem AFx {f:AI}(Au : ∀g∈f.CO,GK g=true):∀(l:List ByteArray) (i:Nat) (last l7:Int),(0<i->l7=last)->(i=0->l7 < -40000)->PL f i last l=Jr f.ht l7 l
 | [],_,_,_,_,_=>rfl
 | n::r,i,last,l7,h1,h2=>by
   simp only[PL,Jr,AI.ht];cases hf:f.find n with
   | none=>rfl
   | some g =>
     obtain⟨b1,b2,_⟩:=lF Au hf;simp only[H8];rw[AFx Au r (i+1) g.Ch g.Ch (fun _=>rfl) (fun e=>by omega)];congr 1
     rw[Ka];simp;rcases oW i with e|e
     . have:=h2 e;omega
     . have:=h1 e;omega
theorem AFu {f:AI}(Au : ∀g∈f.CO,GK g=true)(ov:Int):∀(l:List Part) (e:Bool) (least:Int),ov<least->
 (match NG f ov e l with|none=>false|some e=>e && decide (0<=ov))=(match Gb f.ht least e l with|none=>false|some (m,e)=>e && Bn 0 (m - 1) [ov])
 | [],e,least,hlt=>by
   simp only[NG,Gb,Bn,Dr,Kc,G4];congr 1
   rw[decide_eq_true (show ov<=least - 1 by omega),G4]
 | p::r,e,least,hlt=>by
   simp only[NG,Gb,AI.ht];cases hf:f.find p.name with
   | none=>rfl
   | some g =>
     simp only[H8];by_cases hle:g.Ch<=ov
     . rw[if_pos hle];have key : ∀(l:List Part) (e:Bool) (m:Int),m<=ov->(match Gb f.ht m e l with|none=>false|some (m,e)=>e && Bn 0 (m - 1) [ov])=false:=by
        intro l;induction l with
        | nil=>intro e m hm;simp[Gb,Bn];omega
        | cons p l ih =>
          intro e m hm;simp only[Gb];cases f.ht p.name with
          | none=>rfl
          | some h=>exact ih _ _ (by split<;>omega)
       have:=key r (e || p.ext) (if g.Ch<least then g.Ch else least) (by split<;>omega);exact this.symm
     . rw[if_neg hle];exact AFu Au ov r _ _ (by split<;>omega)
theorem ATC {f:AI}(Au : ∀g∈f.CO,GK g=true)(s:A6):NH f s=Hd f.ht s:=by
 unfold NH Hd;rw[AFx Au s.Bb 0 0 (-60000) (fun h=>absurd h (by omega)) (fun _=>by omega)];have e1:(CL s.name && (decide (1<=s.Bb.length) && (decide (s.Bb.length<=16) && decide (s.parts.length<=8))))=(CL s.name && (Bn 1 16 [(s.Bb.length:Int)] && decide (s.parts.length<=8))):=by
  congr 1
  rw[Ka];simp[Bn];omega
 rw[e1];congr 2
 split
 . rfl
 . rename_i hp;unfold QZ;by_cases ho:s.CX<60000
   . exact AFu Au s.CX s.parts false 60000 ho
   .
     obtain⟨p,r,eF⟩:=List.exists_cons_of_ne_nil hp;rw[eF];simp only[NG,Gb,AI.ht];cases hf:f.find p.name with
     | none=>rfl
     | some g =>
       obtain⟨b1,b2,_⟩:=lF Au hf;simp only[H8];rw[if_pos (by omega)];have key : ∀(l:List Part) (e:Bool) (m:Int),m<=s.CX->(match Gb f.ht m e l with|none=>false|some (m,e)=>e && Bn 0 (m - 1) [s.CX])=false:=by
        intro l;induction l with
        | nil=>intro e m hm;simp[Gb,Bn];omega
        | cons p l ih =>
          intro e m hm;simp only[Gb];cases f.ht p.name with
          | none=>rfl
          | some h=>exact ih _ _ (by split<;>omega)
       have:=key r (false || p.ext) (if g.Ch<60000 then g.Ch else 60000) (by split<;>omega);exact this.symm
theorem AFz (f:AI)(s:A6)(Au : ∀g∈f.CO,GK g=true)(LX:f.CO.length<=maxLen)(hn:s.name.size<=maxLen):AC AD 72 [.agg f.vs,GF s] (.c (.bool (NH f s))):=by
 have hS:NH f s=((CL s.name && (decide (1<=s.Bb.length) && (decide (s.Bb.length<=16) && decide (s.parts.length<=8)))) && (PL f 0 0 s.Bb && (if s.parts=[]then decide (s.CX=0)else match NG f s.CX false s.parts with
  | none=>false
  | some e=>e && decide (0<=s.CX)))):=rfl
 unfold GF;cases c1:CL s.name with
 | false =>
   have e:NH f s=false:=by rw[hS,c1];rfl
   refine AC.intro YH rfl ?_;simp only[ic,Al,A8,BQ,B6,Nat.reduceAdd,Nat.reduceSub,Ao,C8,Bg,Bh,A6.row];refine Ac ?_;refine gc @c1 (TS s.name hn) SE ?_;refine Ac ?_;simp[Aj,AV,AZ,Aa,V.AP,V.AO,AU,Q5,e]
 | true =>
   by_cases c2:(s.Bb.length:Int)<1
   . have e:NH f s=false:=by rw[hS,decide_eq_false (show ¬1<=s.Bb.length by omega)];simp
     refine AC.intro YH rfl ?_;simp only[ic,Al,A8,BQ,B6,Nat.reduceAdd,Nat.reduceSub,Ao,C8,Bg,Bh,A6.row];refine Ac ?_;refine gc (cj @c1<|cj @c2<|@DT.eq_1) (TS s.name hn) SE ?_;refine Ac ?_;simp[Aj,AV,AZ,Aa,V.AP,V.AO,AU,Q5,e]
   . by_cases c3:(16:Int)<(s.Bb.length:Int)
     . have e:NH f s=false:=by rw[hS,decide_eq_false (show ¬s.Bb.length<=16 by omega)];simp
       refine AC.intro YH rfl ?_;simp only[ic,Al,A8,BQ,B6,Nat.reduceAdd,Nat.reduceSub,Ao,C8,Bg,Bh,A6.row];refine Ac ?_;refine gc (cj @c1<|cj @c2<|cj @c3<|@DT.eq_1) (TS s.name hn) SE ?_;refine Ac ?_;simp[Aj,AV,AZ,Aa,V.AP,V.AO,AU,Q5,e]
     . by_cases c4:(8:Int)<(s.parts.length:Int)
       . have e:NH f s=false:=by rw[hS,decide_eq_false (show ¬s.parts.length<=8 by omega)];simp
         refine AC.intro YH rfl ?_;simp only[ic,Al,A8,BQ,B6,Nat.reduceAdd,Nat.reduceSub,Ao,C8,Bg,Bh,A6.row];refine Ac ?_;refine gc (cj @c1<|cj @c2<|cj @c3<|cj @c4<|cj @DT.eq_1<|@Ci.eq_1) (TS s.name hn) SE ?_;refine Ac ?_;simp[Aj,AV,AZ,Aa,V.AP,V.AO,AU,Q5,e]
       . have JG:NH f s=(PL f 0 0 s.Bb && (if s.parts=[]then decide (s.CX=0)else match NG f s.CX false s.parts with
          | none=>false
          | some e=>e && decide (0<=s.CX))):=by
          rw[hS,c1,decide_eq_true (show 1<=s.Bb.length by omega),decide_eq_true (show s.Bb.length<=16 by omega),decide_eq_true (show s.parts.length<=8 by omega)];rfl
         refine AC.intro YH rfl ?_;simp only[ic,Al,A8,BQ,B6,Nat.reduceAdd,Nat.reduceSub,Ao,C8,Bg,Bh,A6.row];refine Ac ?_;refine gc (cj @c1<|cj @c2<|cj @c3<|cj @c4<|cj @DT.eq_1<|@Ci.eq_1) (TS s.name hn) SE ?_;refine Ac ?_;refine lp (ι:={ q:Nat×Int // q.1<=s.Bb.length/\PL f 0 0 s.Bb=PL f q.1 q.2 (s.Bb.drop q.1) }) (fun q=>[(6,.c (.int .i64 (q.1.1:Int))),(5,.c (.int .i64 q.1.2)),(4,.c (.bool false))]) (fun _=>[.box 27 f.vs false,.box 106 (s.row.map V.c) false]) (fun q=>s.Bb.length - q.1.1) ⟨(0,0),by simp⟩ ?_ ?_;all_goals simp only[Br,Bl,B7,Ax,Az]
         . refine Le.BV (by simp[A5,A6.row,DT,Ci])
         . rintro ⟨⟨k,last⟩,hk,hI⟩;simp only at hk hI ⊢;by_cases hlt:k<s.Bb.length
           . obtain⟨n,hn⟩:=AE (s.Bb[k]);rw[Cz hlt,hn]at hI;simp only[PL]at hI;have hw:Ad.wrap ((k:Int)+1)=((k+1:Nat):Int):=by rw[Aq];simp
             cases hf:f.find n with
             | none =>
               rw[hf]at hI;have e:NH f s=false:=by rw[JG,hI];rfl
               refine go (cj @hlt<|cj @hn<|cj @A6.row.eq_1<|@DT.eq_1) ?_;refine gc (cj @J6.eq_1<|cj @hf<|cj @Ag.row.eq_1<|@Ag.zero.eq_1) (VB f n LX) Tr ?_;refine Ac ?_;simp[Aj,AV,AZ,Aa,V.AP,V.AO,AU,Q5,e]
             | some g =>
               rw[hf]at hI;obtain⟨b1,b2,b3⟩:=lF Au hf;rcases oW k with k0|k0
               . subst k0;have hw1:Ad.wrap 1=1:=Aq;simp only[Nat.lt_irrefl,decide_false,C2,gU,B5]at hI;refine go (cj @hlt<|cj @hn<|cj @A6.row.eq_1<|@DT.eq_1) ?_;refine gc (cj @J6.eq_1<|cj @hf<|@Ag.row.eq_1) (VB f n LX) Tr ?_;refine Ac ?_;refine gc (cj @b3<|cj @Dp.eq_1<|@Ag.row.eq_1) (Xk g) Vh ?_;refine go @hw1 ?_;refine⟨⟨(1,g.Ch),by omega,hI⟩,by simp only;omega,?_⟩;refine Le.H5 2 (Fg rfl) (by simp[A5,A6.row,DT,Ci]) (by simp[A6.row,DT,Ci]) (by simp[V.BT,V.BA]) (by simp[O.BA,V.BT,V.BA,A6.row,DT,Ci])
               . have ln:(0:Int)<(k:Int):=by omega
                 by_cases hle:g.Ch<=last
                 . have e:NH f s=false:=by rw[JG,hI];simp[hle,k0]
                   refine go (cj @hlt<|cj @hn<|cj @A6.row.eq_1<|@DT.eq_1) ?_;refine gc (cj @J6.eq_1<|cj @hf<|@Ag.row.eq_1) (VB f n LX) Tr ?_;refine go (cj @k0<|@ln) ?_;refine gc (cj @b3<|cj @Dp.eq_1<|cj @Ag.row.eq_1<|cj @k0<|cj @ln<|@hle) (Xk g) Vh ?_;refine Ac ?_;simp[Aj,AV,AZ,Aa,V.AP,V.AO,AU,Q5,e]
                 . have hI2:PL f 0 0 s.Bb=PL f (k+1) g.Ch (s.Bb.drop (k+1)):=by rw[hI];simp[hle]
                   refine go (cj @hlt<|cj @hn<|cj @A6.row.eq_1<|@DT.eq_1) ?_;refine gc (cj @J6.eq_1<|cj @hf<|@Ag.row.eq_1) (VB f n LX) Tr ?_;refine go (cj @k0<|@ln) ?_;refine gc (cj @b3<|cj @Dp.eq_1<|cj @Ag.row.eq_1<|cj @k0<|cj @ln<|@hle) (Xk g) Vh ?_;refine Ac ?_;refine gc (cj @b3<|cj @Dp.eq_1<|@Ag.row.eq_1) (Xk g) Vh ?_;refine go @hw ?_;refine⟨⟨(k+1,g.Ch),by omega,hI2⟩,by simp only;omega,?_⟩;refine Le.H5 2 (Fg rfl) (by simp[A5,A6.row,DT,Ci]) (by simp[A6.row,DT,Ci]) (by simp[V.BT,V.BA]) (by simp[O.BA,V.BT,V.BA,A6.row,DT,Ci])
           . have e:PL f 0 0 s.Bb=true:=by rw[hI,C5 (by omega)];rfl
             rw[e,B5]at JG;by_cases hp:s.parts=[]
             . have Ue:s.parts.length=0:=by rw[hp];rfl
               rw[if_pos hp]at JG;refine go (cj @hlt<|cj @A6.row.eq_1<|cj @DT.eq_1<|cj @Ci.eq_1<|@hp) ?_;simp[Aj,AV,AZ,Aa,V.AP,V.AO,AU,Q5,JG]
             . have Ue : ¬s.parts.length=0:=fun h=>hp (List.eq_nil_of_length_eq_zero h)
               rw[if_neg hp]at JG;refine go (cj @hlt<|cj @A6.row.eq_1<|cj @DT.eq_1<|cj @Ci.eq_1<|@hp) ?_;refine lp (ι:={ q:Nat×Bool // q.1<=s.parts.length/\NG f s.CX false s.parts=NG f s.CX q.2 (s.parts.drop q.1) }) (fun q=>[(10,.c (.int .i64 (q.1.1:Int))),(9,.c (.bool q.1.2)),(4,.c (.bool false))]) (fun _=>[.box 27 f.vs false,.box 106 (s.row.map V.c) false]) (fun q=>s.parts.length - q.1.1) ⟨(0,false),by simp⟩ ?_ ?_;all_goals simp only[Br,Bl,B7,Ax,Az]
               . refine Le.BV (by simp[A5,A6.row,DT,Ci])
               . rintro ⟨⟨j,ext⟩,hj,hJ⟩;simp only at hj hJ ⊢;by_cases EJ:j<s.parts.length
                 . obtain⟨q,hq⟩:=AE (s.parts[j]);rw[Cz EJ,hq]at hJ;simp only[NG]at hJ;have hw:Ad.wrap ((j:Int)+1)=((j+1:Nat):Int):=by rw[Aq];simp
                   cases hf:f.find q.name with
                   | none =>
                     rw[hf]at hJ;have e:NH f s=false:=by rw[JG,hJ]
                     refine go (cj @EJ<|cj @hq<|cj @A6.row.eq_1<|cj @Ci.eq_1<|@Part.row.eq_1) ?_;refine gc (cj @J6.eq_1<|cj @hf<|cj @Ag.row.eq_1<|@Ag.zero.eq_1) (VB f q.name LX) Tr ?_;refine Ac ?_;simp[Aj,AV,AZ,Aa,V.AP,V.AO,AU,Q5,e]
                   | some g =>
                     rw[hf]at hJ;obtain⟨b1,b2,b3⟩:=lF Au hf;by_cases hle:g.Ch<=s.CX
                     . have e:NH f s=false:=by rw[JG,hJ];simp[hle]
                       refine go (cj @EJ<|cj @hq<|cj @A6.row.eq_1<|cj @Ci.eq_1<|@Part.row.eq_1) ?_;refine gc (cj @J6.eq_1<|cj @hf<|@Ag.row.eq_1) (VB f q.name LX) Tr ?_;refine go @A6.row.eq_1 ?_;refine gc (cj @b3<|cj @Dp.eq_1<|cj @Ag.row.eq_1<|@hle) (Xk g) Vh ?_;refine Ac ?_;simp[Aj,AV,AZ,Aa,V.AP,V.AO,AU,Q5,e]
                     . have hJ2:NG f s.CX false s.parts=NG f s.CX (ext || q.ext) (s.parts.drop (j+1)):=by rw[hJ];simp[hle]
                       cases ext with
                       | true =>
                         refine go (cj @EJ<|cj @hq<|cj @A6.row.eq_1<|cj @Ci.eq_1<|@Part.row.eq_1) ?_;refine gc (cj @J6.eq_1<|cj @hf<|@Ag.row.eq_1) (VB f q.name LX) Tr ?_;refine go @A6.row.eq_1 ?_;refine gc (cj @b3<|cj @Dp.eq_1<|cj @Ag.row.eq_1<|@hle) (Xk g) Vh ?_;refine go @hw ?_;refine⟨⟨(j+1,true),by omega,by simpa using hJ2⟩,by simp only;omega,?_⟩;refine Le.H5 2 (Fg rfl) (by simp[A5,A6.row,DT,Ci]) (by simp[A6.row,DT,Ci]) (by simp[V.BT,V.BA]) (by simp[O.BA,V.BT,V.BA,A6.row,DT,Ci])
                       | false =>
                         refine go (cj @EJ<|cj @hq<|cj @A6.row.eq_1<|cj @Ci.eq_1<|@Part.row.eq_1) ?_;refine gc (cj @J6.eq_1<|cj @hf<|@Ag.row.eq_1) (VB f q.name LX) Tr ?_;refine go @A6.row.eq_1 ?_;refine gc (cj @b3<|cj @Dp.eq_1<|cj @Ag.row.eq_1<|@hle) (Xk g) Vh ?_;refine go (cj @hw<|cj @EJ<|cj @hq<|cj @Ci.eq_1<|@Part.row.eq_1) ?_;refine⟨⟨(j+1,q.ext),by omega,by simpa using hJ2⟩,by simp only;omega,?_⟩;refine Le.H5 2 (Fg rfl) (by simp[A5,A6.row,DT,Ci]) (by simp[A6.row,DT,Ci]) (by simp[V.BT,V.BA]) (by simp[O.BA,V.BT,V.BA,A6.row,DT,Ci])
                 . have e2:NG f s.CX false s.parts=some ext:=by rw[hJ,C5 (by omega)];rfl
                   rw[e2]at JG;simp only at JG;cases ext with
                   | true =>
                     refine go (cj @EJ<|cj @A6.row.eq_1<|@Ci.eq_1) ?_;simp[Aj,AV,AZ,Aa,V.AP,V.AO,AU,Q5,JG]
                   | false =>
                     refine go (cj @EJ<|cj @A6.row.eq_1<|@Ci.eq_1) ?_;simp[Aj,AV,AZ,Aa,V.AP,V.AO,AU,Q5,JG]
theorem ABQ : ∀(l seen:List Ag),HH seen l=true->∀g∈l,GK g=true
 | [],_,_,g,hg=>by cases hg
 | x::r,seen,h,g,hg=>by
   simp only[HH,Bool.and_eq_true]at h;rcases List.mem_cons.1 hg with rfl|hg
   . exact h.1.1
   . exact ABQ r _ h.2 g hg
theorem ATO (f:AI)(hf:f.Fit):AC AD 33 [.agg f.vs] (.c (.bool f.valid)):=by
 have hV:f.valid=((decide (f.CO.length<=400) && (decide (f.CD.length<=40) && JU f.params)) && (HH [] f.CO && Mf f.ht [] f.CD)):=rfl;by_cases c1:(400:Int)<(f.CO.length:Int)
 . have e:f.valid=false:=by rw[hV,decide_eq_false (show ¬f.CO.length<=400 by omega)];rfl
   refine en iS ib ?_;refine go (cj @c1<|@FZ.eq_1) ?_;simp[Aj,AV,AZ,Aa,V.AP,V.AO,AU,YQ,e]
 . by_cases c2:(40:Int)<(f.CD.length:Int)
   . have e:f.valid=false:=by rw[hV,decide_eq_false (show ¬f.CD.length<=40 by omega)];simp
     refine en iS ib ?_;refine go (cj @c1<|cj @c2<|cj @FZ.eq_1<|@G3.eq_1) ?_;simp[Aj,AV,AZ,Aa,V.AP,V.AO,AU,YQ,e]
   . cases c3:JU f.params with
     | false =>
       have e:f.valid=false:=by rw[hV,c3];simp
       refine en iS ib ?_;refine go (cj @c1<|cj @c2<|cj @FZ.eq_1<|@G3.eq_1) ?_;refine gc (cj @c3<|cj @Params.vs.eq_1<|@Params.list.eq_1) (vQ f.params) pF ?_;refine Ac ?_;simp[Aj,AV,AZ,Aa,V.AP,V.AO,AU,YQ,e]
     | true =>
       cases c4:HH [] f.CO with
       | false =>
         have e:f.valid=false:=by rw[hV,c4];simp
         refine en iS ib ?_;refine go (cj @c1<|cj @c2<|cj @FZ.eq_1<|@G3.eq_1) ?_;refine gc (cj @c3<|cj @Params.vs.eq_1<|@Params.list.eq_1) (vQ f.params) pF ?_;refine gc @c4 (ABR f.CO (by omega) hf.gn) Tryz.func71 ?_;refine Ac ?_;simp[Aj,AV,AZ,Aa,V.AP,V.AO,AU,YQ,e]
       | true =>
         have Au:=ABQ _ _ c4;have hV2:f.valid=Mf f.ht [] f.CD:=by
          rw[hV,decide_eq_true (show f.CO.length<=400 by omega),decide_eq_true (show f.CD.length<=40 by omega),c3,c4];rfl
         refine en iS ib ?_;refine go (cj @c1<|cj @c2<|cj @FZ.eq_1<|@G3.eq_1) ?_;refine gc (cj @c3<|cj @Params.vs.eq_1<|@Params.list.eq_1) (vQ f.params) pF ?_;refine gc @c4 (ABR f.CO (by omega) hf.gn) Tryz.func71 ?_;refine Ac ?_;refine lp (ι:={ k:Nat // k<=f.CD.length/\f.valid=Mf f.ht (f.CD.take k) (f.CD.drop k) }) (fun k=>[(3,.c (.int .i64 (k.1:Int))),(2,.c (.bool false))]) (fun _=>[.box 27 f.vs false]) (fun k=>f.CD.length - k.1) ⟨0,by simpa using hV2⟩ ?_ ?_;all_goals simp only[Br,Bl,B7,Ax,Az]
         . refine Le.BV (by simp[A5])
         . rintro ⟨k,hk,hI⟩;by_cases hlt:k<f.CD.length
           . obtain⟨s,hs⟩:=AE (f.CD[k]);have KF:=hf.sn f.CD[k] (LL hlt);rw[hs]at KF;have Dv:f.CD.take k++[s]=f.CD.take (k+1):=by rw[NR hlt,hs]
             rw[Cz hlt,hs]at hI;simp only[Mf]at hI;rw[Dv,<-ATC Au]at hI;have hw:Ad.wrap ((k:Int)+1)=((k+1:Nat):Int):=by rw[Aq];simp
             cases c5:NH f s with
             | false =>
               rw[c5]at hI;simp only[C2]at hI;refine go (cj @hlt<|cj @hs<|cj @G3.eq_1<|@A6.row.eq_1) ?_;refine gc (cj @c5<|cj @GF.eq_1<|@A6.row.eq_1) (AFz f s Au hf.gl KF) YH ?_;refine Ac ?_;simp[Aj,AV,AZ,Aa,V.AP,V.AO,AU,YQ,hI]
             | true =>
               rw[c5,B5]at hI;refine go (cj @hlt<|cj @hs<|cj @G3.eq_1<|@A6.row.eq_1) ?_;refine gc (cj @c5<|cj @GF.eq_1<|@A6.row.eq_1) (AFz f s Au hf.gl KF) YH ?_;refine Ac ?_;refine lp (ι:={ j:Nat // j<=k/\Oj s.name (f.CD.take k)=Oj s.name ((f.CD.take k).drop j) }) (fun j=>[(4,.c (.int .i64 (j.1:Int))),(2,.c (.bool false))]) (fun _=>[.box 27 f.vs false]) (fun j=>k - j.1) ⟨0,by simp⟩ ?_ ?_;all_goals simp only[Br,Bl,B7,Ax,Az]
               . refine Le.BV (by simp[A5])
               . rintro ⟨j,hj,hJ⟩;by_cases EJ:j<k
                 . have hj2:j<f.CD.length:=by omega
                   obtain⟨q,hq⟩:=AE (f.CD[j]);have hd:(f.CD.take k).drop j=q::(f.CD.take k).drop (j+1):=by
                    rw[Cz (by simp;omega)];simp[hq]
                   rw[hd]at hJ;simp only[Oj]at hJ;by_cases he:q.name=s.name
                   . have e:f.valid=false:=by rw[hI,hJ,decide_eq_true he];rfl
                     refine go (cj @EJ<|cj @hj2<|cj @hq<|cj @hlt<|cj @hs<|cj @he<|cj @G3.eq_1<|@A6.row.eq_1) ?_;simp[Aj,AV,AZ,Aa,V.AP,V.AO,AU,YQ,e]
                   . have hw2:Ad.wrap ((j:Int)+1)=((j+1:Nat):Int):=by rw[Aq];simp
                     refine go (cj @EJ<|cj @hj2<|cj @hq<|cj @hlt<|cj @hs<|cj @he<|cj @G3.eq_1<|cj @A6.row.eq_1<|@hw2) ?_;refine⟨⟨j+1,by omega,by rw[hJ,decide_eq_false he,gT]⟩,by simp only;omega,?_⟩;refine Le.BV (by simp[A5])
                 . have e:Oj s.name (f.CD.take k)=false:=by rw[hJ,C5 (by simp;omega)];rfl
                   refine go (cj @EJ<|@hw) ?_;refine⟨⟨k+1,by omega,by rw[hI,e];rfl⟩,by simp only;omega,?_⟩;refine Le.BV (by simp[A5])
           . have e:f.valid=true:=by rw[hI,C5 (by omega)];rfl
             refine go (cj @hlt<|@G3.eq_1) ?_;simp[Aj,AV,AZ,Aa,V.AP,V.AO,AU,YQ,e]
theorem AF0 (s:AM):AC AD 29 [Ai s] (.c (.bool s.ok)):=by
 obtain⟨l,c⟩:=s;unfold Ai;by_cases h:0<=l
 . have e:AM.ok ⟨l,c⟩=decide (l<=3):=by unfold AM.ok;rw[decide_eq_true h,B5]
   refine en o7 Tryz.ntmps29 ?_;refine go @h ?_;simp[Aj,AV,AZ,Aa,V.AP,V.AO,AU,Tryz.results29,e]
 . have e:AM.ok ⟨l,c⟩=false:=by unfold AM.ok;rw[decide_eq_false h,C2]
   refine en o7 Tryz.ntmps29 ?_;refine go @h ?_;simp[Aj,AV,AZ,Aa,V.AP,V.AO,AU,Tryz.results29,e]
theorem Xl (n:Int):AC AD 182 [.c (.int .i64 n)] (.c (.bool (Aw n))):=by
 by_cases h : -1073741824<=n
 . have e:Aw n=decide (n<=1073741824):=by unfold Aw;rw[decide_eq_true h,B5]
   refine en aH Tryz.ntmps182 ?_;refine go @h ?_;simp[Aj,AV,AZ,Aa,V.AP,V.AO,AU,Tryz.results182,e]
 . have e:Aw n=false:=by unfold Aw;rw[decide_eq_false h,C2]
   refine en aH Tryz.ntmps182 ?_;refine go @h ?_;simp[Aj,AV,AZ,Aa,V.AP,V.AO,AU,Tryz.results182,e]
def T2 (n:Int):Int:=if n<0 then -n else n
theorem AFL (n:Int)(h : -9000000000000000000<=n)(h':n<=9000000000000000000):AC AD 248 [.c (.int .i64 n)] (.c (.int .i64 (T2 n))):=by
 by_cases hn:n<0
 . have w:Ad.wrap (-n)= -n:=Aq;have e:T2 n= -n:=if_pos hn;refine en Vi Tryz.ntmps248 ?_;refine go (cj @hn<|@w) ?_;simp[Aj,AV,AZ,Aa,V.AP,V.AO,AU,Tryz.results248,e]
 . have e:T2 n=n:=if_neg hn;refine en Vi Tryz.ntmps248 ?_;refine go @hn ?_;simp[Aj,AV,AZ,Aa,V.AP,V.AO,AU,Tryz.results248,e]
theorem AFv (a b:Int)(ha : -4000000000000000000<=a)(ha':a<=4000000000000000000)(hb:b=100\/b=2\/b=18):AC AD 183 [.c (.int .i64 a),.c (.int .i64 b)] (.c (.int .i64 (FI a b))):=by
 have c1:=AFL a (by omega) (by omega);have c2:=AFL b (by omega) (by omega);have e2:T2 b=b:=if_neg (by omega);rw[e2]at c2;obtain⟨A,hA⟩:=AE (T2 a);rw[hA]at c1;have FD:0<=A/\A<=4000000000000000000:=by unfold T2 at hA;split at hA<;>omega
 have w1:Ad.wrap (2*A)=2*A:=Aq;have w2:Ad.wrap (2*A+b)=2*A+b:=Aq;have w3:Ad.wrap (2*b)=2*b:=Aq;have hq:(2*A+b).tdiv (2*b)=(2*A+b) / (2*b):=Int.tdiv_eq_ediv_of_nonneg (by omega);have hd:0<=(2*A+b) / (2*b)/\(2*A+b) / (2*b)<=9000000000000000000:=by rcases hb with rfl|rfl|rfl<;>omega
 obtain⟨Q,hQ⟩:=AE ((2*A+b) / (2*b));have w4:Ad.wrap ((2*A+b).tdiv (2*b))=Q:=by rw[hq,hQ];rw[hQ]at hd;exact Aq
 have nz : ¬2*b=0:=by omega
 have nz' : ¬b=0:=by omega
 have nb : ¬b<0:=by omega
 by_cases hn:a<0
 . have hr:FI a b= -Q:=by
    unfold FI;rw[if_neg (by omega),<-hQ,<-hA];simp only[T2,if_pos hn]
   have w5:Ad.wrap (-Q)= -Q:=by rw[hQ]at hd;exact Aq
   refine en Tryz.func183 Tryz.ntmps183 ?_;refine Ac ?_;refine gc @w1 (c1) Vi ?_;refine gc @w2 (c2) Vi ?_;refine gc (cj @w3<|cj @w4<|cj @nz<|@nz') (c2) Vi ?_;refine go (cj @hn<|cj @nb<|@w5) ?_;simp[Aj,AV,AZ,Aa,V.AP,V.AO,AU,Tryz.results183,hr]
 . have hr:FI a b=Q:=by
    unfold FI;rw[if_pos (by omega),<-hQ,<-hA];simp only[T2,if_neg hn]
   refine en Tryz.func183 Tryz.ntmps183 ?_;refine Ac ?_;refine gc @w1 (c1) Vi ?_;refine gc @w2 (c2) Vi ?_;refine gc (cj @w3<|cj @w4<|cj @nz<|@nz') (c2) Vi ?_;refine go (cj @hn<|@nb) ?_;simp[Aj,AV,AZ,Aa,V.AP,V.AO,AU,Tryz.results183,hr]
theorem AS9 (n p:Int):AC AD 118 [.c (.int .i64 n),.c (.int .i64 p)] (.c (.int .i64 (scale n p))):=by
 cases hv:Aw n with
 | false =>
   have hs:scale n p=0:=by simp[scale,hv]
   refine en oj pH ?_;refine Ac ?_;refine gc @hv (Xl n) aH ?_;refine go @hv ?_;simp[Aj,AV,AZ,Aa,V.AP,V.AO,AU,pW,hs]
 | true =>
   have hv':=hv;simp[Aw]at hv';by_cases h1:p<0
   . have hs:scale n p=0:=by unfold scale;rw[if_neg];omega
     refine en oj pH ?_;refine Ac ?_;refine gc (cj @hv<|@h1) (Xl n) aH ?_;refine go @hv ?_;simp[Aj,AV,AZ,Aa,V.AP,V.AO,AU,pW,hs]
   . by_cases h2:10000<p
     . have hs:scale n p=0:=by unfold scale;rw[if_neg];omega
       refine en oj pH ?_;refine Ac ?_;refine gc (cj @hv<|cj @h1<|@h2) (Xl n) aH ?_;refine go @hv ?_;simp[Aj,AV,AZ,Aa,V.AP,V.AO,AU,pW,hs]
     . have hs:scale n p=FI (n*p) 100:=by unfold scale;rw[if_pos ⟨hv,by omega,by omega⟩]
       have hb:=PA n p 1073741824 10000 (by omega) (by omega) (by omega) (by omega);have hw:Ad.wrap (n*p)=n*p:=Aq;refine en oj pH ?_;refine Ac ?_;refine gc (cj @hv<|cj @h1<|@h2) (Xl n) aH ?_;refine go (cj @hv<|@hw) ?_;refine BY (AFv (n*p) 100 (by omega) (by omega) (.inl rfl)) Tryz.func183 ?_;refine Ac ?_;simp[Aj,AV,AZ,Aa,V.AP,V.AO,AU,pW,hs]
theorem ATD (f:AI)(s:AM):AC AD 119 [.agg f.vs,Ai s] (.c (.int .i64 (BK f.params s))):=by
 have hs:=AF0 s;cases ho:s.ok with
 | false =>
   have e:BK f.params s=0:=if_pos ho;rw[e];rw[ho]at hs;unfold Ai at hs ⊢;refine en Tryz.func119 Tryz.ntmps119 ?_;refine Ac ?_;refine BY (hs) o7 ?_;refine Ac ?_;simp[Aj,AV,AZ,Aa,V.AP,V.AO,AU,Tryz.results119]
 | true =>
   rw[ho]at hs;have e2:BK f.params s=if s.level=2 then f.params.Jo else if s.level=3 then f.params.Jp else 100:=if_neg (by simp[ho])
   rw[e2];have hc:s.level=0\/s.level=1\/s.level=2\/s.level=3:=by simp[AM.ok]at ho;omega
   obtain⟨l,c⟩:=s;simp only at hc ⊢;unfold Ai at hs ⊢;clear e2 ho;rcases hc with rfl|rfl|rfl|rfl
   all_goals
    refine en Tryz.func119 Tryz.ntmps119 ?_;refine Ac ?_;refine BY (hs) o7 ?_;refine Ac ?_;simp[Aj,AV,AZ,Aa,V.AP,V.AO,AU,Tryz.results119]
end Go.Proofs.YtpodcjcajanldaaGreat
