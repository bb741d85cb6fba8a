/- Part of the proof of laws of layer 38 and 43. Conditions: none. (Joined and shortened by a program.) -/
import Derived.Test.YtpodcjcajanldaaGreatL45
set_option linter.unusedVariables false
set_option linter.unusedSimpArgs false
set_option maxRecDepth 100000
set_option maxHeartbeats 16000000
open SizeOf renaming sizeOf→I6
open List renaming getElem?_eq_getElem→BP,drop_eq_getElem_cons→Cz,drop_of_length_le→C5,foldl_cons→Bl,foldl_nil→B7,set_cons_zero→Ax,set_cons_succ→Az,all_cons→Dr,drop_zero→BO,all_nil→Kc,take_succ_cons→E9,mem_of_getElem?→C6,take_of_length_le→D9
open Go.Proofs.Tryz renaming prog→AD,results189→pn,results187→pk,results186→pj,results184→YO,results185→iq,func120→Tq,ntmps120→Tw,results120→Tx,func121→Pe,ntmps121→Pf,results121→Kf,results60→yS,results61→yT,results59→YT,func28→o6,ntmps28→pO,results28→p7
open Bool renaming false_or→gT,true_and→B5,false_and→C2,and_true→G4
open Go.IntKind renaming i64→Ad
namespace Go.Proofs.YtpodcjcajanldaaGreat
open Go.RowKit
theorem u6 : ∀(l:List Nd) (i:Nat) (b:Nd),l[i]?=some b->i+b.cnt<=Nd.A9 l
 | [],i,b,h=>by simp at h
 | x::l,0,b,h=>by simp at h;subst h;simp only[Nd.A9];omega
 | x::l,i+1,b,h=>by have:=u6 l i b (by simpa using h);have:=fJ x;simp only[Nd.A9];omega
theorem u7 : ∀n:Nat,∀b:Nd,I6 b<n->b.BB<=b.cnt
 | 0,b,h=>absurd h (by omega)
 | n+1,⟨k,t,c,kids⟩,h=>by
   have hk : ∀l:List Nd,I6 l<n->Nd.deps l<=Nd.A9 l:=by
    intro l;induction l with
    | nil=>intro _;exact Nat.le_refl _
    | cons x l ih =>
      intro hl;simp only[List.cons.sizeOf_spec]at hl;have h1:=u7 n x (by omega);have h2:=ih (by omega);simp only[Nd.deps,Nd.A9];omega
   simp only[Nd.mk.sizeOf_spec]at h;have:=hk kids (by omega);simp only[Nd.BB,Nd.cnt];omega
theorem V6 {s:ByteArray}{k:Nat}(h:k<s.size):∃b,s.data.toList[k]?=some b/\s.data[k]?=some b/\s.data.toList.drop k=b::s.data.toList.drop (k+1)/\(k:Int)<(s.size:Int)/\(b.toNat<256):=by
 have hl:k<s.data.toList.length:=by simpa using h
 refine⟨s.data.toList[k],BP hl,?_,Cz hl,by omega,UInt8.toNat_lt _⟩;rw[<-Array.getElem?_toList];exact BP hl
theorem Yi {s:ByteArray}{k:Nat}(h : ¬k<s.size):s.data.toList.drop k=[]:=C5 (by simp;omega)
theorem AFe (c:Int):AC AD 250 [.c (.int .u8 c)] (.c (.bool (IJ c))):=by
 refine en Tryz.func250 Tryz.ntmps250 ?_;exact wz (cj @IJ.eq_1<|Tryz.results250) trivial
theorem ASQ (c:Int):AC AD 252 [.c (.int .u8 c)] (.c (.bool (J4 c))):=by
 refine en Tryz.func252 Tryz.ntmps252 ?_;exact wz (cj @J4.eq_1<|Tryz.results252) trivial
theorem vz (s:ByteArray)(c:Int)(hs:s.size<=maxLen):AC AD 189 [.c (.str s),.c (.int .u8 c)] (.c (.bool (hasB s c))):=by
 unfold maxLen at hs;refine en Tryz.func189 Tryz.ntmps189 ?_;refine wy pn trivial ⟨?_⟩;refine lp (ι:={ k:Nat // k<=s.size/\hasB s c=(s.data.toList.drop k).any fun b=>decide ((b.toNat:Int)=c) }) (fun k=>[(4,.c (.bool false)),(5,.c (.int .i64 (k.1:Int)))]) (fun _=>[]) (fun k=>s.size - k.1) ⟨0,by simp[hasB]⟩ ?_ ?_;all_goals simp only[Br,Bl,B7,Ax,Az]
 . refine Le.BV (by simp[A5])
 . rintro ⟨k,hk,hI⟩;simp only;by_cases hlt:k<s.size
   . obtain⟨b,hb,hb',hd,CA,_⟩:=V6 hlt;rw[hd,List.any_cons]at hI;by_cases h:(b.toNat:Int)=c
     . rw[decide_eq_true h,Bool.true_or]at hI;exact wz (cj @hlt<|cj @CA<|cj @hb<|cj @hb'<|cj @h<|pn) trivial
     . rw[decide_eq_false h,gT]at hI;refine wy (cj @hlt<|cj @CA<|cj @hb<|cj @hb'<|cj @h<|pn) trivial ⟨?_⟩;exact⟨⟨k+1,by omega,hI⟩,by simp only;omega,wd 0⟩
   . rw[Yi hlt]at hI;have CA : ¬(k:Int)<(s.size:Int):=by omega
     exact wz (cj @hlt<|cj @CA<|pn) trivial
theorem ASF (c:Int):AC AD 249 [.c (.int .u8 c)] (.c (.bool (Sg c))):=by
 have h1:=AFe c;have h2:=vz Xu c (by unfold maxLen;decide);unfold Sg;unfold Xu at *
 cases e1:IJ c with
 | true =>
   rw[e1]at h1;refine en Tryz.func249 Tryz.ntmps249 ?_;exact wz Tryz.results249 (cj h1<|trivial)
 | false =>
   rw[e1]at h1;refine en Tryz.func249 Tryz.ntmps249 ?_;exact wz Tryz.results249 (cj h1<|cj h2<|trivial)
def Zn (l:List ByteArray):C:=.sl (l.map fun t=>[.str t])
theorem wA (l:List ByteArray)(s:ByteArray)(hl:l.length<=1000000):AC AD 187 [.c (Zn l),.c (.str s)] (.c (.bool (Hw l s))):=by
 obtain⟨rs,Ak⟩:=AE ((l.map fun t=>[C.str t]));have Am:rs.length=l.length:=by rw[<-Ak,List.length_map]
 unfold Zn;rw[Ak];refine en Tryz.func187 Tryz.ntmps187 ?_;refine wy (cj @Am<|pk) trivial ⟨?_⟩;refine lp (ι:={ k:Nat // k<=l.length/\Hw l s=Hw (l.drop k) s }) (fun k=>[(4,.c (.bool false)),(5,.c (.int .i64 (k.1:Int)))]) (fun _=>[]) (fun k=>l.length - k.1) ⟨0,by simp⟩ ?_ ?_;all_goals simp only[Br,Bl,B7,Ax,Az]
 . refine Le.BV (by simp[A5])
 . rintro ⟨k,hk,hI⟩;simp only;by_cases hlt:k<l.length
   . obtain⟨t,ht⟩:∃t,l[k]?=some t:=⟨_,BP hlt⟩
     have BN:rs[k]?=some [C.str t]:=by rw[<-Ak,List.getElem?_map,ht];rfl
     have CW:k<rs.length:=by omega
     have CH:=gx BN;rw[Cz hlt,gx ht]at hI;have hst:Hw (t::l.drop (k+1)) s=(decide (t=s) || Hw (l.drop (k+1)) s):=rfl;rw[hst]at hI;by_cases h:t=s
     . rw[decide_eq_true h,Bool.true_or]at hI;exact wz (cj @Am<|cj @hlt<|cj @CW<|cj @BN<|cj @CH<|cj @h<|pk) trivial
     . rw[decide_eq_false h,gT]at hI;refine wy (cj @Am<|cj @hlt<|cj @CW<|cj @BN<|cj @CH<|cj @h<|pk) trivial ⟨?_⟩;exact⟨⟨k+1,by omega,hI⟩,by simp only;omega,wd 0⟩
   . rw[C5 (by omega)]at hI;have e:Hw [] s=false:=rfl;rw[e]at hI;exact wz (cj @Am<|cj @hlt<|pk) trivial
theorem AFM:AC AD 188 [] (.c (Zn JY)):=by
 refine en Tryz.func188 Tryz.ntmps188 ?_;exact wz (cj @Zn.eq_1<|cj @JY.eq_1<|Tryz.results188) trivial
theorem ASi:AC AD 251 [] (.c (Zn TO)):=by
 refine en Tryz.func251 Tryz.ntmps251 ?_;exact wz (cj @Zn.eq_1<|cj @TO.eq_1<|Tryz.results251) trivial
theorem AS5 (s:ByteArray)(hs:s.size<=maxLen):AC AD 186 [.c (.str s)] (.c (.bool (Da MY s))):=by
 unfold maxLen at hs;refine en Tryz.func186 Tryz.ntmps186 ?_;refine wy pj trivial ⟨?_⟩;refine lp (ι:={ k:Nat // k<=s.size/\Da MY s=(s.data.toList.drop k).all fun b=>MY b.toNat }) (fun k=>[(2,.c (.bool false)),(3,.c (.int .i64 (k.1:Int)))]) (fun _=>[]) (fun k=>s.size - k.1) ⟨0,by simp[Da]⟩ ?_ ?_;all_goals simp only[Br,Bl,B7,Ax,Az]
 . refine Le.BV (by simp[A5])
 . rintro ⟨k,hk,hI⟩;simp only;by_cases hlt:k<s.size
   . obtain⟨b,hb,hb',hd,CA,_⟩:=V6 hlt;rw[hd,Dr]at hI;obtain⟨c,hc⟩:∃c:Int,(b.toNat:Int)=c:=⟨_,rfl⟩
     rw[hc]at hI;cases e:MY c with
     | true =>
       rw[e,B5]at hI;simp[MY]at e;refine wy (cj @hlt<|cj @CA<|cj @hb<|cj @hb'<|cj @hc<|cj (e.1)<|cj (e.2)<|pj) trivial ⟨?_⟩;exact⟨⟨k+1,by omega,hI⟩,by simp only;omega,wd 0⟩
     | false =>
       rw[e,C2]at hI;simp[MY]at e;exact wz (cj @hlt<|cj @CA<|cj @hb<|cj @hb'<|cj @hc<|pj) trivial
   . rw[Yi hlt]at hI;have CA : ¬(k:Int)<(s.size:Int):=by omega
     exact wz (cj @hlt<|cj @CA<|pj) trivial
theorem ATE (s:ByteArray)(hs:s.size<=maxLen):AC AD 184 [.c (.str s)] (.c (.bool (Qn s))):=by
 unfold maxLen at hs;have k1:=ASi;have k2:=AFM;have i1:=wA TO s (by decide);have i2:=wA JY s (by decide);by_cases h1:s.size=1
 . obtain⟨b,hb,hb',hd,CA,_⟩:=V6 (s:=s) (k:=0) (by omega);have e:Qn s=Sg b.toNat:=by
    unfold Qn Da;rw[if_pos h1];rw[BO]at hd;rw[hd,Yi (by omega),Dr,Kc,G4]
   rw[e];have hc:=ASF b.toNat;have FO:(s.size:Int)=1:=by omega
   refine en Tryz.func184 Tryz.ntmps184 ?_;exact wz (cj @FO<|cj @hb<|cj @hb'<|YO) (cj hc<|trivial)
 . have FO : ¬(s.size:Int)=1:=by omega
   have e:Qn s=(Da IJ s && (decide (2<=s.size) && (decide (s.size<=16) && (!Hw TO s && !Hw JY s)))):=if_neg h1;rw[e];refine en Tryz.func184 Tryz.ntmps184 ?_;refine wy (cj @FO<|YO) trivial ⟨?_⟩;refine lp (ι:={ k:Nat // k<=s.size/\Da IJ s=(s.data.toList.drop k).all fun b=>IJ b.toNat }) (fun k=>[(2,.c (.bool false)),(3,.c (.int .i64 (k.1:Int)))]) (fun _=>[]) (fun k=>s.size - k.1) ⟨0,by simp[Da]⟩ ?_ ?_;all_goals simp only[Br,Bl,B7,Ax,Az]
   . refine Le.BV (by simp[A5])
   . rintro ⟨k,hk,hI⟩;simp only;by_cases hlt:k<s.size
     . obtain⟨b,hb,hb',hd,CA,_⟩:=V6 hlt;rw[hd,Dr]at hI;obtain⟨c,hc⟩:∃c:Int,(b.toNat:Int)=c:=⟨_,rfl⟩
       rw[hc]at hI;have hl:=AFe c;cases e:IJ c with
       | true =>
         rw[e,B5]at hI;rw[e]at hl;refine wy (cj @hlt<|cj @CA<|cj @hb<|cj @hb'<|cj @hc<|YO) (cj hl<|trivial) ⟨?_⟩;exact⟨⟨k+1,by omega,hI⟩,by simp only;omega,wd 0⟩
       | false =>
         rw[e,C2]at hI;rw[e]at hl;exact wz (cj @hlt<|cj @CA<|cj @hb<|cj @hb'<|cj @hc<|YO) (cj hl<|trivial)
     . rw[Yi hlt]at hI;rw[Kc]at hI;rw[hI,B5];have CA : ¬(k:Int)<(s.size:Int):=by omega
       by_cases g1:2<=s.size
       . by_cases g2:s.size<=16
         . have Ho:(2:Int)<=(s.size:Int):=by omega
           have Sl:(s.size:Int)<=16:=by omega
           rw[decide_eq_true g1,decide_eq_true g2,B5,B5];exact wz (cj @hlt<|cj @CA<|cj @Ho<|cj @Sl<|YO) (cj k1<|cj k2<|cj i1<|cj i2<|trivial)
         . have Ho:(2:Int)<=(s.size:Int):=by omega
           have Sl : ¬(s.size:Int)<=16:=by omega
           rw[decide_eq_true g1,decide_eq_false g2,B5,C2];exact wz (cj @hlt<|cj @CA<|cj @Ho<|cj @Sl<|YO) trivial
       . have Ho : ¬(2:Int)<=(s.size:Int):=by omega
         rw[decide_eq_false g1,C2];exact wz (cj @hlt<|cj @CA<|cj @Ho<|YO) trivial
theorem ASo (s:ByteArray)(hs:s.size<=maxLen):AC AD 185 [.c (.str s)] (.c (.bool (U3 s))):=by
 unfold maxLen at hs;obtain⟨R,hR⟩:=AE (U3 s);rw[hR];refine en Tryz.func185 Tryz.ntmps185 ?_;refine wy iq trivial ⟨?_⟩;refine lp (ι:={ k:Nat×Nat // k.1<=s.size/\k.2<=k.1/\R=(match Jl s.size (s.data.toList.drop k.1) k.1 k.2 with|none=>false|some p=>decide (0<s.size) && (decide (s.size<=20) && decide (p<=1))) }) (fun k=>[(2,.c (.bool false)),(3,.c (.int .i64 (k.1.2:Int))),(4,.c (.int .i64 (k.1.1:Int)))]) (fun _=>[]) (fun k=>s.size - k.1.1) ⟨(0,0),by simp,by simp,by rw[<-hR];rfl⟩ ?_ ?_;all_goals simp only[Br,Bl,B7,Ax,Az]
 . refine Le.BV (by simp[A5])
 . rintro ⟨⟨k,p⟩,hk,hp,hI⟩;simp only at hk hp hI ⊢;by_cases hlt:k<s.size
   . obtain⟨b,hb,hb',hd,CA,_⟩:=V6 hlt;rw[hd]at hI;simp only[Jl]at hI;obtain⟨c,hc⟩:∃c:Int,(b.toNat:Int)=c:=⟨_,rfl⟩
     rw[hc]at hI;have hl:=ASQ c;by_cases g:c=46/\0<k/\k+1<s.size
     . rw[if_pos g]at hI;obtain⟨g1,g2,g3⟩:=g;have Sl:(0:Int)<(k:Int):=by omega
       have g3':(k:Int)<(s.size:Int) - 1:=by omega
       refine wy (cj @hlt<|cj @CA<|cj @hb<|cj @hb'<|cj @hc<|cj @g1<|cj @Sl<|cj @g3'<|iq) trivial ⟨?_⟩;exact⟨⟨(k+1,p+1),by simp only;omega,by simp only;omega,by rw[hI];rfl⟩,by simp only;omega,wd 0⟩
     . rw[if_neg g]at hI;cases e:J4 c with
       | true =>
         rw[if_pos e]at hI;rw[e]at hl;have ff:=(cj @hlt<|cj @CA<|cj @hb<|cj @hb'<|cj @hc<|iq)
         repeat any_goals (first|refine CC ?_|exact Bq ff|refine Bt ff ?_|refine A4 ff (hl) ?_|refine Bi ff ?_|((first|refine By ff ?_ ?_|refine B4 ff ?_ ?_|refine Bz ff ?_ ?_|refine B3 ff ?_ ?_)<;>intro h<;>try (exfalso;first|omega|contradiction)))
         all_goals first
          | (exfalso;simp at *;omega)
          | exact⟨⟨(k+1,p),by simp only;omega,by simp only;omega,hI⟩,by simp only;omega,wd 0⟩
       | false =>
         rw[if_neg (by rw[e];simp)]at hI;rw[e]at hl;simp only at hI;have ff:=(cj @hlt<|cj @CA<|cj @hb<|cj @hb'<|cj @hc<|iq)
         repeat any_goals (first|refine CC ?_|exact Bq ff|refine Bt ff ?_|refine A4 ff (hl) ?_|refine Bi ff ?_|((first|refine By ff ?_ ?_|refine B4 ff ?_ ?_|refine Bz ff ?_ ?_|refine B3 ff ?_ ?_)<;>intro h<;>try (exfalso;first|omega|contradiction)))
         all_goals (exfalso;simp at *;omega)
   . rw[Yi hlt]at hI;simp only[Jl]at hI;have CA : ¬(k:Int)<(s.size:Int):=by omega
     rw[hI];have e:((s.size:Int)<=20)=(s.size<=20):=by rw[eq_iff_iff];omega
     exact wz (cj @hlt<|cj @CA<|cj @e<|iq) trivial
theorem ATF (b:Nd)(hb:b.Bc):AC AD 120 [At b] (.c (.bool (I2 b.kind b.text))):=by
 have hs:=(K7 b hb).1;have h1:=ATE b.text hs;have h2:=ASo b.text hs;have h3:=AS5 b.text hs;have h4:=wA JY b.text (by decide);have h5:=AFM;unfold maxLen at hs;unfold I2 At;obtain⟨k,hk⟩:=AE b.kind;rw[hk];by_cases k2:k=2
 . rw[if_pos k2];refine en Tq Tw ?_;exact wz (cj @hk<|cj @k2<|Tx) (cj h1<|trivial)
 by_cases k3:k=3
 . rw[if_neg k2,if_pos k3];refine en Tq Tw ?_;exact wz (cj @hk<|cj @k3<|Tx) (cj h2<|trivial)
 by_cases k4:k=4
 . rw[if_neg k2,if_neg k3,if_pos k4];have e:((b.text.size:Int)<=200)=(b.text.size<=200):=by rw[eq_iff_iff];omega
   by_cases g:b.text.size<=200
   . rw[decide_eq_true g,B5];refine en Tq Tw ?_;exact wz (cj @hk<|cj @k4<|cj @e<|cj @g<|Tx) (cj h3<|trivial)
   . rw[decide_eq_false g,C2];refine en Tq Tw ?_;exact wz (cj @hk<|cj @k4<|cj @e<|cj @g<|Tx) trivial
 by_cases MQ:k=10
 . rw[if_neg k2,if_neg k3,if_neg k4,if_pos MQ];refine en Tq Tw ?_;exact wz (cj @hk<|cj @MQ<|Tx) (cj h5<|cj h4<|trivial)
 by_cases Ul:k=11
 . rw[if_neg k2,if_neg k3,if_neg k4,if_neg MQ,if_pos Ul];by_cases g:b.text.size=2
   . obtain⟨c0,c1,c2,c3,c4,_⟩:=V6 (s:=b.text) (k:=0) (by omega);obtain⟨d0,d1,d2,d3,d4,_⟩:=V6 (s:=b.text) (k:=1) (by omega);have hR:Da (hasB Kj) b.text=(hasB Kj c0.toNat && hasB Kj d0.toNat):=by
      unfold Da;rw[BO]at c3;rw[c3,d3,Yi (by omega),Dr,Dr,Kc,G4]
     rw[decide_eq_true g,B5,hR];have g':(b.text.size:Int)=2:=by omega
     have q1:=vz Kj c0.toNat (by unfold maxLen;decide);have q2:=vz Kj d0.toNat (by unfold maxLen;decide);unfold Kj at *
     obtain⟨X,hX⟩:=AE (hasB ⟨#[40,41,91,93,123,125,124,60,62,47,46]⟩ c0.toNat);rw[hX]at q1 ⊢;cases X with
     | true =>
       refine en Tq Tw ?_;exact wz (cj @hk<|cj @Ul<|cj @g'<|cj @c1<|cj @c2<|cj @d1<|cj @d2<|Tx) (cj q1<|cj q2<|trivial)
     | false =>
       refine en Tq Tw ?_;exact wz (cj @hk<|cj @Ul<|cj @g'<|cj @c1<|cj @c2<|cj @d1<|cj @d2<|Tx) (cj q1<|trivial)
   . rw[decide_eq_false g,C2];have g' : ¬(b.text.size:Int)=2:=by omega
     refine en Tq Tw ?_;exact wz (cj @hk<|cj @Ul<|cj @g'<|Tx) trivial
 rw[if_neg k2,if_neg k3,if_neg k4,if_neg MQ,if_neg Ul];refine en Tq Tw ?_;exact wz (cj @hk<|cj @k2<|cj @k3<|cj @k4<|cj @MQ<|cj @Ul<|Tx) trivial
theorem ASj (b:Nd)(hb:b.Bc):AC AD 121 [At b] (.c (.bool (Dh b.kind b.AF b.kids.length))):=by
 have hs:=(K7 b hb).2.1;have hl:=G0 b.kids;unfold maxLen at hs;unfold Dh At;obtain⟨k,hk⟩:=AE b.kind;obtain⟨c,hc⟩:=AE b.AF;obtain⟨n,hn⟩:=AE b.kids.length;rw[hn]at hl hs;rw[hk,hc,hn];have e0 : ∀m:Nat,((n:Int)=(m:Int))=(n=m):=fun m=>by rw[eq_iff_iff];omega
 have e1:((n:Int)=1)=(n=1):=e0 1;have e2:((n:Int)=2)=(n=2):=e0 2;have e3:((n:Int)=3)=(n=3):=e0 3;have e4:((n:Int)<=200)=(n<=200):=by rw[eq_iff_iff];omega
 have e5:((n:Int)<=256)=(n<=256):=by rw[eq_iff_iff];omega
 have e6:((1:Int)<=(n:Int))=(1<=n):=by rw[eq_iff_iff];omega
 by_cases TN:k=12
 . rw[if_pos TN];by_cases g1:1<=c
   . by_cases g2:c<=16
     . rw[decide_eq_true g1,decide_eq_true g2,B5,B5];by_cases g3:1<=n
       . by_cases g4:n<=256
         . rw[decide_eq_true g3,decide_eq_true g4,B5,B5];have c0 : ¬c=0:=by omega
           have w0:Ad.wrap ((n:Int).tmod c)=(n:Int).tmod c:=by
            have h1:=Int.tmod_nonneg c (show (0:Int)<=(n:Int)by omega);have h2:=Int.tmod_lt_of_pos (n:Int) (show (0:Int)<c by omega);exact Aq
           refine en Pe Pf ?_;exact wz (cj @hk<|cj @hc<|cj @hl<|cj @TN<|cj @g1<|cj @g2<|cj @e5<|cj @e6<|cj @g3<|cj @g4<|cj @c0<|cj @w0<|Kf) trivial
         . rw[decide_eq_true g3,decide_eq_false g4,B5,C2];refine en Pe Pf ?_;exact wz (cj @hk<|cj @hc<|cj @hl<|cj @TN<|cj @g1<|cj @g2<|cj @e5<|cj @e6<|cj @g3<|cj @g4<|Kf) trivial
       . rw[decide_eq_false g3,C2];refine en Pe Pf ?_;exact wz (cj @hk<|cj @hc<|cj @hl<|cj @TN<|cj @g1<|cj @g2<|cj @e5<|cj @e6<|cj @g3<|Kf) trivial
     . rw[decide_eq_true g1,decide_eq_false g2,B5,C2];refine en Pe Pf ?_;exact wz (cj @hk<|cj @hc<|cj @hl<|cj @TN<|cj @g1<|cj @g2<|Kf) trivial
   . rw[decide_eq_false g1,C2];refine en Pe Pf ?_;exact wz (cj @hk<|cj @hc<|cj @hl<|cj @TN<|cj @g1<|Kf) trivial
 rw[if_neg TN];by_cases c0:c=0
 . rw[if_neg (by omega)];by_cases k1:k=1
   . rw[if_pos k1];refine en Pe Pf ?_;exact wz (cj @hk<|cj @hc<|cj @hl<|cj @k1<|cj @c0<|cj @e4<|Kf) trivial
   rw[if_neg k1];by_cases k2:k=2\/k=3\/k=4
   . rw[if_pos k2];refine en Pe Pf ?_;rcases k2 with k2|k2|k2
     . exact wz (cj @hk<|cj @hc<|cj @hl<|cj @k2<|cj @c0<|Kf) trivial
     . exact wz (cj @hk<|cj @hc<|cj @hl<|cj @k2<|cj @c0<|Kf) trivial
     . exact wz (cj @hk<|cj @hc<|cj @hl<|cj @k2<|cj @c0<|Kf) trivial
   rw[if_neg k2];by_cases k5:k=5\/k=6\/k=7\/k=8
   . rw[if_pos k5];refine en Pe Pf ?_;rcases k5 with k5|k5|k5|k5
     . exact wz (cj @hk<|cj @hc<|cj @hl<|cj @k5<|cj @c0<|cj @e2<|Kf) trivial
     . exact wz (cj @hk<|cj @hc<|cj @hl<|cj @k5<|cj @c0<|cj @e2<|Kf) trivial
     . exact wz (cj @hk<|cj @hc<|cj @hl<|cj @k5<|cj @c0<|cj @e2<|Kf) trivial
     . exact wz (cj @hk<|cj @hc<|cj @hl<|cj @k5<|cj @c0<|cj @e2<|Kf) trivial
   rw[if_neg k5];by_cases k9:k=9
   . rw[if_pos k9];refine en Pe Pf ?_;exact wz (cj @hk<|cj @hc<|cj @hl<|cj @k9<|cj @c0<|cj @e3<|Kf) trivial
   rw[if_neg k9];by_cases MQ:k=10\/k=11
   . rw[if_pos MQ];refine en Pe Pf ?_;rcases MQ with MQ|MQ
     . exact wz (cj @hk<|cj @hc<|cj @hl<|cj @MQ<|cj @c0<|cj @e1<|Kf) trivial
     . exact wz (cj @hk<|cj @hc<|cj @hl<|cj @MQ<|cj @c0<|cj @e1<|Kf) trivial
   rw[if_neg MQ];simp only[not_or]at k2 k5 MQ;obtain⟨x1,x2,x3⟩:=k2;obtain⟨y1,y2,y3,y4⟩:=k5;obtain⟨z1,z2⟩:=MQ;refine en Pe Pf ?_;exact wz (cj @hk<|cj @hc<|cj @hl<|cj @TN<|cj @c0<|cj @k1<|cj @x1<|cj @x2<|cj @x3<|cj @y1<|cj @y2<|cj @y3<|cj @y4<|cj @k9<|cj @z1<|cj @z2<|Kf) trivial
 . rw[if_pos c0];refine en Pe Pf ?_;exact wz (cj @hk<|cj @hc<|cj @hl<|cj @TN<|cj @c0<|Kf) trivial
theorem AD4 : ∀(l:List Nd) (k:Nat) (b:Nd),l[k]?=some b->Nd.A9 (l.take (k+1))=Nd.A9 (l.take k)+b.cnt
 | [],_,_,h=>by simp at h
 | x::l,0,b,h=>by simp at h;subst h;simp[Nd.A9]
 | x::l,k+1,b,h=>by simp only[E9,Nd.A9];rw[AD4 l k b (by simpa using h)];omega
theorem AD5 : ∀(l:List Nd) (k:Nat),Nd.A9 (l.take k)<=Nd.A9 l
 | [],k=>by simp[Nd.A9]
 | x::l,0=>by simp[Nd.A9]
 | x::l,k+1=>by simp only[E9,Nd.A9];have:=AD5 l k;omega
theorem AD7 : ∀(l:List Nd) (k:Nat) (b:Nd),l[k]?=some b->Nd.deps (l.take (k+1))=max (Nd.deps (l.take k)) b.BB
 | [],_,_,h=>by simp at h
 | x::l,0,b,h=>by simp at h;subst h;simp[Nd.deps]
 | x::l,k+1,b,h=>by simp only[E9,Nd.deps];rw[AD7 l k b (by simpa using h)];omega
theorem APS : ∀b:Nd,b.cnt<=100000->AC AD 60 [At b] (.c (.int .i64 (b.cnt:Int))):=ZR fun b ih hc=>by
 have hl:=G0 b.kids;have Bp:=Ny b.kids;have FP:=Jk b;obtain⟨rs,Ak⟩:=AE (Nd.rows b.kids);rw[Ak]at hl;unfold At;rw[FP];refine en Tryz.func60 Tryz.ntmps60 ?_;refine wy (cj @Ak<|cj @hl<|yS) trivial ⟨?_⟩;refine lp (ι:={ k:Nat // k<=b.kids.length }) (fun k=>[(2,.c (.int .i64 0)),(3,.c (.int .i64 (1+(Nd.A9 (b.kids.take k.1):Int)))),(4,.c (.int .i64 (k.1:Int)))]) (fun _=>[.box 33 b.vs false]) (fun k=>b.kids.length - k.1) ⟨0,by simp⟩ ?_ ?_;all_goals simp only[Br,Bl,B7,Ax,Az]
 . refine Le.BV (by simp[A5,Nd.A9])
 . rintro ⟨k,hk⟩;simp only;by_cases hlt:k<b.kids.length
   . obtain⟨c,hcc⟩:∃c,b.kids[k]?=some c:=⟨_,BP hlt⟩
     have BN:rs[k]?=some c.row:=by rw[<-Ak];exact N1 hcc
     have CW:k<rs.length:=by omega
     have CH:=gx BN;have ht:=AD4 b.kids k c hcc;have hle:=AD5 b.kids (k+1);have Mz:=ih c (C6 hcc) (by omega);unfold At at Mz;have w1:Ad.wrap (1+(Nd.A9 (b.kids.take k):Int)+(c.cnt:Int))=1+(Nd.A9 (b.kids.take (k+1)):Int):=by rw[Aq,ht];omega
     refine wy (cj @Ak<|cj @hl<|cj @hlt<|cj @CW<|cj @BN<|cj @CH<|cj @w1<|yS) (cj Mz<|trivial) ⟨?_⟩;exact⟨⟨k+1,by omega⟩,by simp only;omega,wd 1⟩
   . have e:b.kids.take k=b.kids:=D9 (by omega);rw[e];exact wz (cj @Ak<|cj @hl<|cj @hlt<|yS) trivial
theorem ASP : ∀b:Nd,b.cnt<=100000->AC AD 61 [At b] (.c (.int .i64 (b.BB:Int))):=ZR fun b ih hc=>by
 have hl:=G0 b.kids;have Bp:=Ny b.kids;have FP:=Jk b;have hdl:=u7 _ b (Nat.lt_succ_self _);obtain⟨rs,Ak⟩:=AE (Nd.rows b.kids);rw[Ak]at hl;unfold At;have dW:=TU b;have wzd:Ad.wrap ((Nd.deps b.kids:Int)+1)=(b.BB:Int):=by rw[Aq];omega
 refine en Tryz.func61 Tryz.ntmps61 ?_;refine wy (cj @Ak<|cj @hl<|yT) trivial ⟨?_⟩;refine lp (ι:={ k:Nat // k<=b.kids.length }) (fun k=>[(2,.c (.int .i64 0)),(3,.c (.int .i64 (Nd.deps (b.kids.take k.1):Int))),(4,.c (.int .i64 (k.1:Int)))]) (fun _=>[.box 33 b.vs false]) (fun k=>b.kids.length - k.1) ⟨0,by simp⟩ ?_ ?_;all_goals simp only[Br,Bl,B7,Ax,Az]
 . refine Le.BV (by simp[A5,Nd.deps])
 . rintro ⟨k,hk⟩;simp only;by_cases hlt:k<b.kids.length
   . obtain⟨c,hcc⟩:∃c,b.kids[k]?=some c:=⟨_,BP hlt⟩
     have BN:rs[k]?=some c.row:=by rw[<-Ak];exact N1 hcc
     have CW:k<rs.length:=by omega
     have CH:=gx BN;have ht:=AD7 b.kids k c hcc;have Im:=u6 b.kids k c hcc;have Mz:=ih c (C6 hcc) (by omega);unfold At at Mz;obtain⟨D,hD⟩:=AE (Nd.deps (b.kids.take k));rw[hD]at ht ⊢;have w1:(if D<c.BB then(c.BB:Int)else(D:Int))=(Nd.deps (b.kids.take (k+1)):Int):=by rw[ht];split<;>omega
     refine wy (cj @Ak<|cj @hl<|cj @hlt<|cj @CW<|cj @BN<|cj @CH<|cj @w1<|yT) (cj Mz<|trivial) ⟨?_⟩;exact⟨⟨k+1,by omega⟩,by simp only;omega,wd 1⟩
   . have e:b.kids.take k=b.kids:=D9 (by omega);rw[e];exact wz (cj @Ak<|cj @hl<|cj @hlt<|cj @wzd<|yT) trivial
theorem ASd : ∀b:Nd,b.Bc->AC AD 59 [At b] (.c (.bool b.F5)):=ZR fun b ih Au=>by
 obtain⟨_,hlen,Ov⟩:=K7 b Au;have hl:=G0 b.kids;have ht:=ATF b Au;have hk:=ASj b Au;rw[U2];unfold Nd.CZ;obtain⟨K,hK⟩:=AE b.kind;obtain⟨rs,Ak⟩:=AE (Nd.rows b.kids);rw[Ak]at hl;unfold At at ht hk ⊢;unfold maxLen at hlen;cases e1:I2 b.kind b.text with
 | false =>
   rw[e1]at ht;refine en Tryz.func59 Tryz.ntmps59 ?_;exact wz YT (cj ht<|trivial)
 | true =>
 rw[e1]at ht;cases e2:Dh b.kind b.AF b.kids.length with
 | false =>
   rw[e2]at hk;refine en Tryz.func59 Tryz.ntmps59 ?_;exact wz YT (cj ht<|cj hk<|trivial)
 | true =>
 rw[e2]at hk;rw[B5,B5];rw[hK];refine en Tryz.func59 Tryz.ntmps59 ?_;refine wy (cj @Ak<|cj @hl<|YT) (cj ht<|cj hk<|trivial) ⟨?_⟩;refine lp (ι:={ k:Nat // k<=b.kids.length/\Nd.GX K b.kids=Nd.GX K (b.kids.drop k) }) (fun k=>[(2,.c (.bool false)),(3,.c (.int .i64 (k.1:Int)))]) (fun _=>[.box 33 b.vs false]) (fun k=>b.kids.length - k.1) ⟨0,by simp⟩ ?_ ?_;all_goals simp only[Br,Bl,B7,Ax,Az]
 . refine Le.BV (by simp[A5])
 . rintro ⟨k,hk,hI⟩;simp only;by_cases hlt:k<b.kids.length
   . obtain⟨c,hcc⟩:∃c,b.kids[k]?=some c:=⟨_,BP hlt⟩
     have BN:rs[k]?=some c.row:=by rw[<-Ak];exact N1 hcc
     have CW:k<rs.length:=by omega
     have CH:=gx BN;rw[Cz hlt,gx hcc]at hI;simp only[Nd.GX]at hI;have Mz:=ih c (C6 hcc) (N0 Ov c (C6 hcc));unfold At at Mz;cases em:IK K c.kind with
     | true =>
       rw[em,Bool.not_true,C2,C2]at hI;unfold IK at em;exact wz (cj @Ak<|cj @hl<|cj @hlt<|cj @CW<|cj @BN<|cj @CH<|cj @hK<|cj @em<|YT) trivial
     | false =>
       rw[em,Bool.not_false,B5]at hI;unfold IK at em;cases ef:c.F5 with
       | true =>
         rw[ef,B5]at hI;rw[ef]at Mz;refine wy (cj @Ak<|cj @hl<|cj @hlt<|cj @CW<|cj @BN<|cj @CH<|cj @hK<|cj @em<|YT) (cj Mz<|trivial) ⟨?_⟩;exact⟨⟨k+1,by omega,hI⟩,by simp only;omega,wd 1⟩
       | false =>
         rw[ef,C2]at hI;rw[ef]at Mz;exact wz (cj @Ak<|cj @hl<|cj @hlt<|cj @CW<|cj @BN<|cj @CH<|cj @hK<|cj @em<|YT) (cj Mz<|trivial)
   . rw[C5 (by omega)]at hI;simp only[Nd.GX]at hI;exact wz (cj @Ak<|cj @hl<|cj @hlt<|YT) trivial
theorem AF3 (b:Nd)(Au:b.Bc)(hc:b.cnt<=100000):AC AD 28 [At b] (.c (.bool b.Av)):=by
 have h1:=ASd b Au;have h2:=APS b hc;have h3:=ASP b hc;unfold Nd.Av;have e1:((b.cnt:Int)<=1000)=(b.cnt<=1000):=by rw[eq_iff_iff];omega
 have e2:((b.BB:Int)<=24)=(b.BB<=24):=by rw[eq_iff_iff];omega
 unfold At at *
 by_cases k1:b.kind=1
 . rw[decide_eq_true k1,B5];obtain⟨F,hF⟩:=AE b.F5;rw[hF]at h1 ⊢;cases F with
   | false =>
     refine en o6 pO ?_;exact wz (cj @k1<|p7) (cj h1<|trivial)
   | true =>
     rw[B5];by_cases g:b.cnt<=1000
     . rw[decide_eq_true g,B5];refine en o6 pO ?_;exact wz (cj @k1<|cj @e1<|cj @e2<|cj @g<|p7) (cj h1<|cj h2<|cj h3<|trivial)
     . rw[decide_eq_false g,C2];refine en o6 pO ?_;exact wz (cj @k1<|cj @e1<|cj @e2<|cj @g<|p7) (cj h1<|cj h2<|trivial)
 . rw[decide_eq_false k1,C2];refine en o6 pO ?_;exact wz (cj @k1<|p7) trivial
theorem vW : ∀ {kids:List AA} {pl:List Int} {k:Nat} {b:AA} {p:Int},kids[k]?=some b->pl[k]?=some p->(D3 kids pl)[k]?=some (b.at_ p b.y)
 | b'::l,p'::q,0,b,p,h1,h2=>by simp at h1 h2;subst h1 h2;rfl
 | b'::l,p'::q,k+1,b,p,h1,h2=>by simp only[D3,List.getElem?_cons_succ]at *;exact vW h1 h2
 | [],_,_,_,_,h,_=>by simp at h
 | _::_,[],_,_,_,_,h=>by simp at h
theorem wD (x:Ae)(s:AM)(n:Nd):(∃e:Int,e≠0/\LD x s [] n=.Bk [BD AA.zero,Af e])\/(∃b,x.okB s=true/\n.Av=true/\Db x s [] n=some b/\LD x s [] n=.Bk [BD b,Af 0]):=by
 unfold LD T9;split
 . exact .inl ⟨1,by decide,rfl⟩
 . rename_i h;have hs:Ql [] 0=true:=rfl;simp only[Bool.not_eq_false,Bool.and_eq_true]at h;rw[hs,if_neg (by simp)];cases hr:Db x s [] n with
   | none=>exact .inl ⟨6,by decide,rfl⟩
   | some b=>exact .inr ⟨b,h.1,h.2,rfl,rfl⟩
end Go.Proofs.YtpodcjcajanldaaGreat
