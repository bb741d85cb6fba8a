/- Part of the proof of breakpointLength.proved. Conditions: none. (Joined and shortened by a program.) -/
import Derived.Test.YtpodcjcajanldaaGreatP9
import Derived.Test.YtpodcjcajanldaaGreatP11
set_option linter.unusedVariables false
set_option linter.unusedSimpArgs false
set_option maxRecDepth 100000
set_option maxHeartbeats 16000000
open Go.Proofs.Tryz renaming prog→AD,func149→iM,ntmps149→iY,results149→ij,func150→aF,ntmps150→aS,results150→aa,results153→yD,func288→Vj,ntmps288→pP,func92→Gm,results288→p9,func291→aM,func325→pA,func337→iT,func220→SH,results294→ix,func106→IB,func320→Tt,ntmps320→aX,results320→bC,func289→iR,results289→yO,func231→iP,results207→po,results83→Q6
open List renaming drop_zero→BO,all_cons→Dr,map_cons→Al,map_nil→A8,length_cons→BQ,length_nil→B6,replicate_succ→Ao,replicate_zero→C8,cons_append→Bg,nil_append→Bh,foldl_cons→Bl,foldl_nil→B7,set_cons_zero→BC,set_cons_succ→Az,drop_eq_getElem_cons→Cz,drop_of_length_le→C5,drop_succ_cons→Be,getElem?_eq_getElem→BP,take_succ_eq_append_getElem→NR
open Bool renaming false_and→C2,and_false→PZ,true_and→B5
open Go.Lib renaming indexByte→De
open Go.IntKind renaming i64→Ad
open Int renaming mul_comm→Z4
open Nat renaming le_of_ble_eq_true→Fg
open Array renaming toList_inj→Gk,getD_eq_getD_getElem?→NO,getElem?_toList→Th
namespace Go.Proofs.YtpodcjcajanldaaGreat
open Go.RowKit
theorem ARV (s:ByteArray)(hs:s.size<=maxLen):AC AD 149 [.c (.str s)] (.c (.bool (Qn s))):=by
 have h1:=ARH s hs;have h2:=ARA s;have h3:=AEW s;unfold maxLen at hs;unfold Qn;by_cases g:s.size=1
 . rw[if_pos g];obtain⟨b,hb,hb',hd,_,_⟩:=Yh (s:=s) (k:=0) (by omega);rw[BO]at hd;rw[cI (by omega)]at hd;have e1:Da IJ s=IJ b.toNat:=by unfold Da;rw[hd];simp
   have e2:Da Sg s=(IJ b.toNat || hasB Xu b.toNat):=by unfold Da;rw[hd];simp[Sg]
   have h4:=ATR Xu s b g hb;unfold Xu at *
   rw[e2];rw[e1]at h1;have g':(s.size:Int)=1:=by omega
   cases eq1:IJ b.toNat with
   | true =>
     rw[eq1]at h1;refine en iM iY ?_;exact wz (cj @g'<|ij) (cj h1<|trivial)
   | false =>
     rw[eq1]at h1;refine en iM iY ?_;exact wz (cj @g'<|ij) (cj h1<|cj h4<|trivial)
 . rw[if_neg g];have g' : ¬(s.size:Int)=1:=by omega
   have e1:((s.size:Int)<=16)=(s.size<=16):=by rw[eq_iff_iff];omega
   have e2:((2:Int)<=(s.size:Int))=(2<=s.size):=by rw[eq_iff_iff];omega
   obtain⟨A,hA⟩:=AE (Da IJ s);obtain⟨B,hB⟩:=AE (Hw TO s);obtain⟨D,hD⟩:=AE (Hw JY s);rw[hA]at h1 ⊢;rw[hB]at h2 ⊢;rw[hD]at h3 ⊢;clear hA hB hD;by_cases g1:2<=s.size
   . by_cases g2:s.size<=16
     . rw[decide_eq_true g1,decide_eq_true g2];cases A<;>cases B<;>cases D;all_goals
        refine en iM iY ?_;exact wz (cj @g'<|cj @e1<|cj @e2<|cj @g1<|cj @g2<|ij) (cj h1<|cj h2<|cj h3<|trivial)
     . rw[decide_eq_true g1,decide_eq_false g2,C2,PZ,PZ];refine en iM iY ?_;exact wz (cj @g'<|cj @e1<|cj @e2<|cj @g1<|cj @g2<|ij) trivial
   . rw[decide_eq_false g1,C2,PZ];refine en iM iY ?_;exact wz (cj @g'<|cj @e1<|cj @e2<|cj @g1<|ij) trivial
theorem AAp (s:ByteArray)(a e:Nat)(h:s.size<=maxLen):(s.extract a e).size<=maxLen:=by
 rw[ByteArray.size_extract];omega
theorem ARU (s:ByteArray)(hs:s.size<=maxLen):AC AD 150 [.c (.str s)] (.c (.bool (U3 s))):=by
 have h1:=ATT s ⟨#[46]⟩ 46 hs rfl rfl;have WZ:=vS s hs;rw[<-APY];unfold vD;unfold cP at h1;have e1:((s.size:Int)<=20)=(s.size<=20):=by rw[eq_iff_iff];omega
 by_cases g:s.size<=20
 . rw[decide_eq_true g,B5];by_cases c:0<=De s.data.toList 46
   . rw[if_pos c]at h1 ⊢;have Y0:=vS (s.extract 0 (De s.data.toList 46).toNat) (AAp _ _ _ hs);have lC:=vS (s.extract ((De s.data.toList 46).toNat+1) s.size) (AAp _ _ _ hs);obtain⟨X,hX⟩:=AE (s.extract 0 (De s.data.toList 46).toNat);obtain⟨Y,hY⟩:=AE (s.extract ((De s.data.toList 46).toNat+1) s.size);rw[hX]at h1 Y0 ⊢;rw[hY]at h1 lC ⊢;cases D:Si X with
     | true =>
       rw[D]at Y0;refine en aF aS ?_;exact wz (cj @e1<|cj @g<|aa) (cj h1<|cj Y0<|cj lC<|trivial)
     | false =>
       rw[D]at Y0;refine en aF aS ?_;exact wz (cj @e1<|cj @g<|aa) (cj h1<|cj Y0<|trivial)
   . rw[if_neg c]at h1 ⊢;cases D:Si s with
     | true =>
       rw[D]at WZ;refine en aF aS ?_;exact wz (cj @e1<|cj @g<|aa) (cj h1<|cj WZ<|trivial)
     | false =>
       rw[D]at WZ;refine en aF aS ?_;exact wz (cj @e1<|cj @g<|aa) (cj h1<|cj WZ<|trivial)
 . rw[decide_eq_false g,C2];by_cases c:0<=De s.data.toList 46
   . rw[if_pos c]at h1;refine en aF aS ?_;exact wz (cj @e1<|cj @g<|aa) (cj h1<|trivial)
   . rw[if_neg c]at h1;refine en aF aS ?_;exact wz (cj @e1<|cj @g<|aa) (cj h1<|trivial)
theorem AKZ (c:Int):hasB Kj c=hasB RC c:=by
 rw[Bool.eq_iff_iff];simp[hasB,Kj,RC];omega
theorem AEm (s:ByteArray)(b:UInt8):AC AD 218 [.c (.str s),.c (.int .u8 b.toNat)] (.c (.int .i64 (De s.data.toList b))):=by
 have h:=ATU s b.toNat;rwa [show ((b.toNat:Int)).toNat.toUInt8=b by simp]at h
theorem ART (s:ByteArray):AC AD 153 [.c (.str s)] (.c (.bool (decide (s.size=2) && Da (hasB Kj) s))):=by
 by_cases g:s.size=2
 . obtain⟨c0,c1,c2,c3,c4,_⟩:=Yh (s:=s) (k:=0) (by omega);obtain⟨d0,d1,d2,d3,d4,_⟩:=Yh (s:=s) (k:=1) (by omega);have i1 : ∀b:UInt8,hasB Kj b.toNat=decide (0<=De RC.data.toList b):=fun b=>by rw[AKZ];exact(ACv _ _).symm
   have hR:Da (hasB Kj) s=(decide (0<=De RC.data.toList c0) && decide (0<=De RC.data.toList d0)):=by
    unfold Da;rw[BO]at c3;rw[c3,d3,cI (by omega),Dr,Dr,List.all_nil,Bool.and_true,i1,i1]
   have q1:=AEm RC c0;have q2:=AEm RC d0;rw[decide_eq_true g,B5,hR];have g':(s.size:Int)=2:=by omega
   obtain⟨X,hX⟩:=AE (De RC.data.toList c0);obtain⟨Y,hY⟩:=AE (De RC.data.toList d0);rw[hX]at q1 ⊢;rw[hY]at q2 ⊢;unfold RC at *
   clear i1 hR hX hY;by_cases h0:0<=X
   . rw[decide_eq_true h0,B5];refine en Tryz.func153 Tryz.ntmps153 ?_;exact wz (cj @g'<|cj @c1<|cj @c2<|cj @d1<|cj @d2<|cj @h0<|yD) (cj q1<|cj q2<|trivial)
   . rw[decide_eq_false h0,C2];refine en Tryz.func153 Tryz.ntmps153 ?_;exact wz (cj @g'<|cj @c1<|cj @c2<|cj @d1<|cj @d2<|cj @h0<|yD) (cj q1<|trivial)
 . rw[decide_eq_false g,C2];have g' : ¬(s.size:Int)=2:=by omega
   refine en Tryz.func153 Tryz.ntmps153 ?_;exact wz (cj @g'<|yD) trivial
def lu:List V:=[.c (.str ⟨#[]⟩),.c (.int .i64 0),.c .Cn,
 .c (.str ⟨#[114,111,119]⟩),.c (.int .i64 0),.fn 148 [],
 .c (.str ⟨#[115,121,109]⟩),.c (.int .i64 0),.fn 149 [],
 .c (.str ⟨#[110,117,109]⟩),.c (.int .i64 0),.fn 150 [],
 .c (.str ⟨#[116,101,120,116]⟩),.c (.int .i64 0),.fn 151 [],
 .c (.str ⟨#[102,114,97,99]⟩),.c (.int .i64 2),.fn 148 [],
 .c (.str ⟨#[114,111,111,116]⟩),.c (.int .i64 2),.fn 148 [],
 .c (.str ⟨#[115,117,98]⟩),.c (.int .i64 2),.fn 148 [],
 .c (.str ⟨#[115,117,112]⟩),.c (.int .i64 2),.fn 148 [],
 .c (.str ⟨#[98,111,116,104]⟩),.c (.int .i64 3),.fn 148 [],
 .c (.str ⟨#[97,99,99,101,110,116]⟩),.c (.int .i64 1),.fn 152 [],
 .c (.str ⟨#[102,101,110,99,101]⟩),.c (.int .i64 1),.fn 153 [],
 .c (.str ⟨#[109,97,116,114,105,120]⟩),.c (.int .i64 0),.fn 148 []]
theorem ARB:AC AD 94 [] (.agg lu):=by
 unfold lu;refine en Tryz.func94 Tryz.ntmps94 ?_;exact wz Tryz.results94 trivial
theorem nr (f:AI)(p:Int):AC AD 288 [.agg f.vs,.c (.int .i64 p)] (Af (IE f p)):=by
 cases hv:f.valid with
 | false =>
   refine en Vj pP ?_;refine Ac ?_;refine gc @hv (Mv f) Gm ?_;refine Ac ?_;simp[Aj,AV,AZ,Aa,V.AP,V.AO,AU,p9,Af,IE,hv]
 | true =>
   by_cases h1:p<1
   . refine en Vj pP ?_;refine Ac ?_;refine gc @hv (Mv f) Gm ?_;refine go @h1 ?_;simp[Aj,AV,AZ,Aa,V.AP,V.AO,AU,p9,Af,IE,hv,h1]
   . by_cases h2:100<p
     . refine en Vj pP ?_;refine Ac ?_;refine gc @hv (Mv f) Gm ?_;refine go (cj @h1<|@h2) ?_;simp[Aj,AV,AZ,Aa,V.AP,V.AO,AU,p9,Af,IE,hv,h1,h2]
     . refine en Vj pP ?_;refine Ac ?_;refine gc @hv (Mv f) Gm ?_;refine go (cj @h1<|@h2) ?_;simp[Aj,AV,AZ,Aa,V.AP,V.AO,AU,p9,Af,IE,hv,h1,h2]
theorem AHf (f:AI)(name:ByteArray)(p:Int)(hl:f.CO.length<=maxLen)(hv:f.valid=true)(HQ:1<=p)(hp2:p<=100):AC AD 324 [.agg f.vs,.c (.str name),.c (.int .i64 p)] (.c (.int .i64 (VK f name p))):=by
 obtain⟨_,e2⟩:=N8 hv HQ hp2 name;have hb:=Xq hv HQ hp2 name;have hS:VK f name p=((f.pick name).scaled p).h+((f.pick name).scaled p).d:=by unfold VK;rw[e2]
 have hw:Ad.wrap (((f.pick name).scaled p).h+((f.pick name).scaled p).d)=VK f name p:=by rw[hS];exact Aq
 have hsc:=nQ (f.pick name) p;rw[e2]at hsc;obtain⟨G,hG⟩:=AE ((f.pick name).scaled p);rw[hG]at hsc hw;refine en Tryz.func324 Tryz.ntmps324 ?_;refine Ac ?_;refine BY (ZX f name hl) aM ?_;refine gc (cj @VF.eq_1<|cj @Af.eq_1<|cj @Dp.eq_1<|@Ag.row.eq_1) (hsc) Tryz.func290 ?_;refine go @hw ?_;simp[Aj,AV,AZ,Aa,V.AP,V.AO,AU,Tryz.results324]
theorem xK (f:AI)(s:A6)(r:Int)(hf:f.Fit)(hv:f.valid=true)(hs:s∈f.CD)(HW:1<=r)(hr2:r<=1000):AC AD 325 [.agg f.vs,GF s,.c (.int .i64 r)] (.c (.int .i64 (KX f s r))):=by
 obtain⟨_,_,g3,g4,g5,g6⟩:=Oh hv hs;have hT:KX f s r=(Ll f r 0 0 s.parts).1 - ((Ll f r 0 0 s.parts).2 - 1)*s.CX:=rfl;unfold GF;refine AC.intro pA rfl ?_;simp only[Tryz.ntmps325,Al,A8,BQ,B6,Nat.reduceAdd,Nat.reduceSub,Ao,C8,Bg,Bh,A6.row];refine go @Ci.eq_1 ?_;refine lp (ι:={ q:Nat×Int×Int // q.1<=s.parts.length/\Ll f r 0 0 s.parts=Ll f r q.2.1 q.2.2 (s.parts.drop q.1)/\ -(40000000*(q.1:Int))<=q.2.1/\q.2.1<=40000000*(q.1:Int)/\(q.1:Int)<=q.2.2/\q.2.2<=1000*(q.1:Int) }) (fun q=>[(15,.c (.int .i64 (q.1.1:Int))),(7,.c (.int .i64 q.1.2.1)),(8,.c (.int .i64 q.1.2.2))]) (fun _=>[.box 27 f.vs false,.box 106 (s.row.map V.c) false]) (fun q=>s.parts.length - q.1.1) ⟨(0,0,0),by simp⟩ ?_ ?_;all_goals simp only[Br,Bl,B7,BC,Az]
 . refine Le.BV (by simp[A5,A6.row,Ci])
 . rintro ⟨⟨k,hh,cc⟩,hk,hI,b1,b2,b3,b4⟩;simp only at hk hI b1 b2 b3 b4 ⊢;have du:=PA s.CX cc 60000 8000 (by omega) g5 (by omega) (by omega);rw[Z4 s.CX cc]at du;by_cases hlt:k<s.parts.length
   . obtain⟨q,hq⟩:=AE (s.parts[k]);rw[Cz hlt,hq]at hI;simp only[Ll]at hI;have hsm:=PH hv q.name;unfold Ag.Small at hsm;have ZC:=ZX f q.name hf.gl;obtain⟨g,hg⟩:=AE (f.pick q.name);rw[hg]at hsm hI ZC;have e3:Ad.wrap (g.h+g.d)=g.Ch:=Aq;have e1 : -40000<=g.Ch/\g.Ch<=40000:=by unfold Ag.Ch;omega
     obtain⟨t1,t2⟩:=wt HW hr2 q;have hw:Ad.wrap ((k:Int)+1)=((k+1:Nat):Int):=by rw[Aq];simp
     have m2:=PA g.Ch (times r q) 40000 1000 (by omega) (by omega) (by omega) t2;rw[Z4 g.Ch]at m2;have w2:Ad.wrap (times r q*g.Ch)=times r q*g.Ch:=Aq;have w3:Ad.wrap (hh+times r q*g.Ch)=hh+times r q*g.Ch:=Aq;have w4:Ad.wrap (cc+times r q)=cc+times r q:=Aq;cases hx:q.ext with
     | true =>
       have ht:times r q=r:=by simp[times,hx]
       rw[ht]at w2 w3 w4 hI m2 t1 t2;refine go (cj @hlt<|cj @hq<|cj @A6.row.eq_1<|cj @Ci.eq_1<|cj @Part.row.eq_1<|@hx) ?_;refine gc (cj @Dp.eq_1<|@Ag.row.eq_1) (ZC) aM ?_;refine gc (cj @Dp.eq_1<|cj @Ag.row.eq_1<|cj @e3<|cj @w2<|@w3) (kY g) iT ?_;refine go (cj @w4<|@hw) ?_;refine⟨⟨(k+1,hh+r*g.Ch,cc+r),by omega,hI,by simp only;omega,by simp only;omega,by simp only;omega,by simp only;omega⟩,by simp only;omega,?_⟩;refine Le.H5 2 (Fg rfl) (by simp[A5,A6.row,Ci]) (by simp[A6.row,Ci]) (by simp[V.BT,V.BA]) (by simp[O.BA,V.BT,V.BA,A6.row,Ci])
     | false =>
       have ht:times r q=1:=by simp[times,hx]
       rw[ht]at w2 w3 w4 hI m2 t1 t2;simp only[Int.one_mul]at w2 w3 hI m2;refine go (cj @hlt<|cj @hq<|cj @A6.row.eq_1<|cj @Ci.eq_1<|cj @Part.row.eq_1<|@hx) ?_;refine gc (cj @Dp.eq_1<|@Ag.row.eq_1) (ZC) aM ?_;refine gc (cj @Dp.eq_1<|cj @Ag.row.eq_1<|cj @e3<|cj @w2<|@w3) (kY g) iT ?_;refine go (cj @w4<|@hw) ?_;refine⟨⟨(k+1,hh+g.Ch,cc+1),by omega,hI,by simp only;omega,by simp only;omega,by simp only;omega,by simp only;omega⟩,by simp only;omega,?_⟩;refine Le.H5 2 (Fg rfl) (by simp[A5,A6.row,Ci]) (by simp[A6.row,Ci]) (by simp[V.BT,V.BA]) (by simp[O.BA,V.BT,V.BA,A6.row,Ci])
   . have e:Ll f r 0 0 s.parts=(hh,cc):=by rw[hI,C5 (by omega)];rfl
     have hR:KX f s r=hh - (cc - 1)*s.CX:=by rw[hT,e]
     have AXE:(cc - 1)*s.CX=cc*s.CX - s.CX:=by rw[Int.sub_mul];omega
     have w0:Ad.wrap (cc - 1)=cc - 1:=Aq;have w1:Ad.wrap ((cc - 1)*s.CX)=(cc - 1)*s.CX:=Aq;have w2:Ad.wrap (hh - (cc - 1)*s.CX)=hh - (cc - 1)*s.CX:=Aq;refine go (cj @hlt<|cj @A6.row.eq_1<|cj @Ci.eq_1<|cj @w0<|cj @w1<|@w2) ?_;simp[Aj,AV,AZ,Aa,V.AP,V.AO,AU,Tryz.results325,hR]
theorem R4 (f:AI)(name:ByteArray)(hf:f.Fit)(hv:f.valid=true):AC AD 220 [.agg f.vs,.c (.str name)] (L3 (f.H2 name)):=
 AUt f name hf.sl fun s hs=>⟨by have:=(Oh hv hs).AGR;omega,by have:=(Oh hv hs).parts;omega⟩
theorem AVc (f:AI)(name:ByteArray)(need p:Int)(hf:f.Fit)(hv:f.valid=true)(HQ:1<=p)(hp2:p<=100):AC AD 294 [.agg f.vs,.c (.str name),.c (.int .i64 need),.c (.int .i64 p)] (Mq (JC f name need p)):=by
 cases hst:f.H2 name with
 | none =>
   have hR2:JC f name need p=⟨name,0⟩:=by unfold JC;rw[hst]
   rw[hR2];refine en Tryz.func294 Tryz.ntmps294 ?_;refine Ac ?_;refine gc (cj @L3.eq_1<|cj @GF.eq_1<|cj @A6.row.eq_1<|cj @hst<|@A6.zero.eq_1) (R4 f name hf hv) SH ?_;refine Ac ?_;simp[Aj,AV,AZ,Aa,V.AP,V.AO,AU,ix,Mq]
 | some s =>
   have hs:=(Qm hst).1;obtain⟨g1,g2,g3,g4,g5,g6⟩:=Oh hv hs;have hR:JC f name need p=UE f s need p:=by unfold JC;rw[hst]
   refine en Tryz.func294 Tryz.ntmps294 ?_;refine Ac ?_;refine gc (cj @L3.eq_1<|cj @GF.eq_1<|cj @A6.row.eq_1<|@hst) (R4 f name hf hv) SH ?_;refine go @DT.eq_1 ?_;refine lp (ι:={ k:Nat // k<=s.Bb.length/\RF f p need s.Bb=RF f p need (s.Bb.drop k) }) (fun k=>[(27,.c (.int .i64 (k.1:Int)))]) (fun _=>[.box 27 f.vs false,.box 219 [.c (.str ⟨#[]⟩),.c (.int .i64 0)] false,.box 106 (s.row.map V.c) false]) (fun k=>s.Bb.length - k.1) ⟨0,by simp⟩ ?_ ?_;all_goals simp only[Br,Bl,B7,BC,Az]
   . refine Le.BV (by simp[A5,A6.row,DT])
   . rintro ⟨k,Bp,hI⟩;by_cases hlt:k<s.Bb.length
     . obtain⟨n,hn⟩:=AE (s.Bb[k]);rw[Cz hlt,hn]at hI;simp only[RF]at hI;by_cases he:need<=VK f n p
       . rw[if_pos he]at hI;have WQ:JC f name need p=⟨n,0⟩:=by rw[hR];unfold UE;rw[hI]
         refine go (cj @hlt<|cj @hn<|cj @A6.row.eq_1<|@DT.eq_1) ?_;refine gc @he (AHf f n p hf.gl hv HQ hp2) Tryz.func324 ?_;refine go (cj @hlt<|cj @hn<|cj @he<|cj @A6.row.eq_1<|@DT.eq_1) ?_;simp[Aj,AV,AZ,Aa,V.AP,V.AO,AU,ix,WQ,Mq]
       . rw[if_neg he]at hI;have hw:Ad.wrap ((k:Int)+1)=((k+1:Nat):Int):=by rw[Aq];simp
         refine go (cj @hlt<|cj @hn<|cj @A6.row.eq_1<|@DT.eq_1) ?_;refine gc @he (AHf f n p hf.gl hv HQ hp2) Tryz.func324 ?_;refine go (cj @hlt<|cj @hn<|cj @he<|cj @A6.row.eq_1<|cj @DT.eq_1<|@hw) ?_;refine⟨⟨k+1,by omega,hI⟩,by simp only;omega,?_⟩;refine Le.BV (by simp[A5,A6.row,DT])
     . have e:RF f p need s.Bb=none:=by rw[hI,C5 (by omega)];rfl
       have WQ:UE f s need p=if s.parts=[]then⟨s.Bb.getD (s.Bb.length - 1) ⟨#[]⟩,0⟩else⟨⟨#[]⟩,KU f s p need 999⟩:=by unfold UE;rw[e]
       by_cases Ey:s.parts=[]
       . rw[if_pos Ey]at WQ;obtain⟨m,hm⟩:∃m,s.Bb.length=m+1:=⟨s.Bb.length - 1,by omega⟩
         have ACU:m<s.Bb.length:=by omega
         obtain⟨n,hn⟩:=AE (s.Bb[m]);have hw:Ad.wrap ((s.Bb.length:Int) - 1)=(m:Int):=by rw[Aq];omega
         have hg:s.Bb.getD (s.Bb.length - 1) ⟨#[]⟩=n:=by rw[hm];simp[List.getD,ACU,hn]
         rw[hg]at WQ;rw[WQ]at hR;refine go (cj @hlt<|cj @Ey<|cj @A6.row.eq_1<|cj @DT.eq_1<|cj @Ci.eq_1<|cj @hw<|cj @ACU<|@hn) ?_;simp[Aj,AV,AZ,Aa,V.AP,V.AO,AU,ix,hR,Mq]
       . rw[if_neg Ey]at WQ;have hpl : ¬s.parts.length=0:=by simpa using Ey
         rw[WQ]at hR;refine go (cj @hlt<|cj @Ey<|cj @hpl<|cj @A6.row.eq_1<|cj @DT.eq_1<|@Ci.eq_1) ?_;refine lp (ι:={ r:Int // 1<=r/\r<=1000/\KU f s p need 999=KU f s p need (1000 - r).toNat }) (fun r=>[(13,.c (.int .i64 r.1))]) (fun _=>[.box 27 f.vs false,.box 219 [.c (.str ⟨#[]⟩),.c (.int .i64 0)] false,.box 106 (s.row.map V.c) false]) (fun r=>(1000 - r.1).toNat) ⟨1,by simp⟩ ?_ ?_;all_goals simp only[Br,Bl,B7,BC,Az]
         . refine Le.BV (by simp[A5,A6.row])
         . rintro ⟨r,r1,r2,hS⟩;by_cases hr:r<1000
           . rw[AUb f s p need r r1 hr]at hS;by_cases hn:need<=scale (KX f s r) p
             . rw[if_pos hn]at hS;rw[hS]at hR;refine go (cj @hr<|@A6.row.eq_1) ?_;refine gc (cj @GF.eq_1<|@A6.row.eq_1) (xK f s r hf hv hs r1 r2) pA ?_;refine gc @hn (Dn (KX f s r) p) IB ?_;refine go @hn ?_;simp[Aj,AV,AZ,Aa,V.AP,V.AO,AU,ix,hR,Mq]
             . rw[if_neg hn]at hS;have hw:Ad.wrap (r+1)=r+1:=Aq;refine go (cj @hr<|@A6.row.eq_1) ?_;refine gc (cj @GF.eq_1<|@A6.row.eq_1) (xK f s r hf hv hs r1 r2) pA ?_;refine gc @hn (Dn (KX f s r) p) IB ?_;refine go (cj @hn<|@hw) ?_;refine⟨⟨r+1,by omega,by omega,hS⟩,by simp only;omega,?_⟩;refine Le.BV (by simp[A5,A6.row])
           . have e1:r=1000:=by omega
             subst e1;have e2:KU f s p need (1000 - 1000:Int).toNat=1000:=rfl;rw[e2]at hS;rw[hS]at hR;refine Ac ?_;simp[Aj,AV,AZ,Aa,V.AP,V.AO,AU,ix,hR,Mq]
def Nu (x:ByteArray):List ByteArray->Nat->Int
 | [],_=> -1
 | y::r,k=>if x=y then(k:Int)else Nu x r (k+1)
theorem ACu (x:ByteArray):∀(l:List ByteArray) (k:Nat),decide (0<=Nu x l k)=Jf x l
 | [],k=>by simp[Nu,Jf]
 | y::r,k=>by
   have ih:=ACu x r (k+1);by_cases h:x=y
   . have e1:Nu x (y::r) k=(k:Int):=by simp[Nu,h]
     have e2:Jf x (y::r)=true:=by simp[Jf,h]
     rw[e2,decide_eq_true_eq,e1];omega
   . have e1:Nu x (y::r) k=Nu x r (k+1):=by simp[Nu,h]
     have e2:Jf x (y::r)=Jf x r:=by simp only[Jf];exact if_neg fun e=>h e.symm
     rw[e2,<-ih,decide_eq_decide,e1]
theorem AOJ (l:List ByteArray)(x:ByteArray)(hl:l.length<=1000):AC AD 326 [.c (DT l),.c (.str x)] (.c (.int .i64 (Nu x l 0))):=by
 unfold DT;refine en Tryz.func326 Tryz.ntmps326 ?_;refine Ac ?_;refine lp (ι:={ k:Nat // k<=l.length/\Nu x l 0=Nu x (l.drop k) k }) (fun k=>[(8,.c (.int .i64 (k.1:Int)))]) (fun _=>[]) (fun k=>l.length - k.1) ⟨0,by simp⟩ ?_ ?_;all_goals simp only[Br,Bl,B7,BC,Az]
 . refine Le.BV (by simp[A5])
 . rintro ⟨k,hk,hI⟩;by_cases hlt:k<l.length
   . obtain⟨y,hy⟩:=AE (l[k]);rw[Cz hlt,hy]at hI;simp only[Nu]at hI;by_cases he:x=y
     . rw[if_pos he]at hI;refine go (cj @hlt<|cj @hy<|@he) ?_;simp[Aj,AV,AZ,Aa,V.AP,V.AO,AU,Tryz.results326,hI]
     . rw[if_neg he]at hI;have hw:Ad.wrap ((k:Int)+1)=((k+1:Nat):Int):=by rw[Aq];simp
       refine go (cj @hlt<|cj @hy<|cj @he<|@hw) ?_;refine⟨⟨k+1,by omega,hI⟩,by simp only;omega,?_⟩;refine Le.BV (by simp[A5])
   . have e:Nu x l 0= -1:=by rw[hI,C5 (by omega)];rfl
     refine go @hlt ?_;simp[Aj,AV,AZ,Aa,V.AP,V.AO,AU,Tryz.results326,e]
theorem AAY (l:List ByteArray)(x:ByteArray)(hl:l.length<=1000):AC AD 298 [.c (DT l),.c (.str x)] (.c (.bool (Jf x l))):=by
 have hh:=ACu x l 0;have hi:=AOJ l x hl;unfold DT at hi ⊢;refine en Tryz.func298 Tryz.ntmps298 ?_;refine Ac ?_;refine BY (hi) Tryz.func326 ?_;refine Ac ?_;simp[Aj,AV,AZ,Aa,V.AP,V.AO,AU,Tryz.results298,hh]
theorem AOw (f:AI)(name cg:ByteArray)(cr:Int)(s:A6)(hf:f.Fit)(hv:f.valid=true)(hst:f.H2 name=some s):AC AD 320 [.agg f.vs,.c (.str name),.agg [.c (.str cg),.c (.int .i64 cr)]] (.c (.bool (JS f name ⟨cg,cr⟩))):=by
 have hs:=(Qm hst).1;have hG:=Oh hv hs;have hR:JS f name ⟨cg,cr⟩=if cr=0 then Jf cg s.Bb else decide (cg=⟨#[]⟩) && (decide (0<s.parts.length) && (decide (1<=cr) && decide (cr<=1000))):=by unfold JS;rw[hst]
 by_cases h1:cr=0
 . rw[if_pos h1]at hR;subst h1;have FP:=AAY s.Bb cg (by have:=hG.AGR;omega);refine en Tt aX ?_;refine Ac ?_;refine gc (cj @L3.eq_1<|cj @GF.eq_1<|cj @A6.row.eq_1<|@hst) (R4 f name hf hv) SH ?_;refine Ac ?_;refine BY (FP) Tryz.func298 ?_;refine Ac ?_;simp[Aj,AV,AZ,Aa,V.AP,V.AO,AU,bC,hR]
 . rw[if_neg h1]at hR;by_cases h2:cg=⟨#[]⟩
   . subst h2;by_cases h3:(0:Int)<(s.parts.length:Int)
     . have J8:0<s.parts.length:=by omega
       by_cases h4:1<=cr
       . refine en Tt aX ?_;refine Ac ?_;refine gc (cj @L3.eq_1<|cj @GF.eq_1<|cj @A6.row.eq_1<|@hst) (R4 f name hf hv) SH ?_;refine go (cj @h1<|cj @h3<|cj @J8<|cj @h4<|@Ci.eq_1) ?_;simp[Aj,AV,AZ,Aa,V.AP,V.AO,AU,bC,hR,J8,h4]
       . refine en Tt aX ?_;refine Ac ?_;refine gc (cj @L3.eq_1<|cj @GF.eq_1<|cj @A6.row.eq_1<|@hst) (R4 f name hf hv) SH ?_;refine go (cj @h1<|cj @h3<|cj @J8<|cj @h4<|@Ci.eq_1) ?_;simp[Aj,AV,AZ,Aa,V.AP,V.AO,AU,bC,hR,J8,h4]
     . have ABT:s.parts=[]:=List.eq_nil_of_length_eq_zero (by omega);refine en Tt aX ?_;refine Ac ?_;refine gc (cj @L3.eq_1<|cj @GF.eq_1<|cj @A6.row.eq_1<|@hst) (R4 f name hf hv) SH ?_;refine go (cj @h1<|cj @ABT<|@Ci.eq_1) ?_;simp[Aj,AV,AZ,Aa,V.AP,V.AO,AU,bC,hR,ABT]
   . refine en Tt aX ?_;refine Ac ?_;refine gc (cj @L3.eq_1<|cj @GF.eq_1<|cj @A6.row.eq_1<|@hst) (R4 f name hf hv) SH ?_;refine go (cj @h1<|@h2) ?_;simp[Aj,AV,AZ,Aa,V.AP,V.AO,AU,bC,hR,h2]
theorem AOv (f:AI)(name cg:ByteArray)(cr:Int)(hf:f.Fit)(hv:f.valid=true)(hst:f.H2 name=none):AC AD 320 [.agg f.vs,.c (.str name),.agg [.c (.str cg),.c (.int .i64 cr)]] (.c (.bool (JS f name ⟨cg,cr⟩))):=by
 have hR:JS f name ⟨cg,cr⟩=(decide (cr=0) && decide (cg=name)):=by unfold JS;rw[hst]
 refine en Tt aX ?_;refine Ac ?_;refine gc (cj @L3.eq_1<|cj @GF.eq_1<|cj @A6.row.eq_1<|cj @hst<|@A6.zero.eq_1) (R4 f name hf hv) SH ?_;refine Ac ?_;refine AW.DM ?_;refine SW.take 3 ?_;with_reducible refine Bw (by simp[Ao];first|exact rfl|exact⟨rfl,rfl⟩) ?_
 refine B9 ?_;simp only[Be,BO];refine SW.op (.c (.bool (decide (cr=0) && decide (cg=name)))) (by simp[gate]) rfl ?_ ?_
 . intro S0 w0 x a w hA;obtain⟨u,hu,hcu⟩:=hA.2.get 18 _ rfl;obtain⟨u',Ui,AB6⟩:=hA.2.get 20 _ rfl;simp only[CV,AL,Ap]at hcu AB6;refine Bm.pure hA.1 (u:=.bool (decide (cr=0) && decide (cg=name))) ?_ (by simp only[CV,Ap]);obtain⟨vs,rfl,_,_,Nt,⟨rfl,_⟩,_,_,rfl,⟨rfl,_⟩,rfl⟩:=hcu;obtain⟨CQ,rfl,_,_,eS,⟨rfl,_⟩,_,_,rfl,⟨rfl,_⟩,rfl⟩:=AB6;have L2:vs=#[.string cg,.int .i64 cr]:=Gk.1 Nt;have ev2:CQ=#[.string name,.int .i64 0]:=Gk.1 eS;subst L2 ev2;have e1:a.eval (.tmp 18)=.agg #[.string cg,.int .i64 cr]:=by simp[Act.eval,NO,<-Th,hu]
   have e2:a.eval (.tmp 20)=.agg #[.string name,.int .i64 0]:=by simp[Act.eval,NO,<-Th,Ui]
   clear hA hu Ui Nt eS;by_cases h1:cg=name
   . subst h1;by_cases h2:cr=0
     . subst h2;simp only[execOp,e1,e2];go_simp
     . have Fa:(cr==0)=false:=by simpa using h2
       simp only[execOp,e1,e2];go_simp
   . have FO:=AGy h1;simp only[execOp,e1,e2];go_simp
 . refine SW.take 1 ?_;with_reducible refine Bw (by simp[Ao];first|exact rfl|exact⟨rfl,rfl⟩) ?_
   refine B9 ?_;simp only[Be,BO];refine SW.nil ?_;refine Ac ?_;simp[Aj,AV,AZ,Aa,V.AP,V.AO,AU,bC,hR]
theorem AOu (f:AI)(name:ByteArray)(c:Choice)(hf:f.Fit)(hv:f.valid=true):AC AD 320 [.agg f.vs,.c (.str name),Mq c] (.c (.bool (JS f name c))):=by
 obtain⟨cg,cr⟩:=c;cases hst:f.H2 name with
 | none=>exact AOv f name cg cr hf hv hst
 | some s=>exact AOw f name cg cr s hf hv hst
def jH:Prop:=∀(f:AI) (s:A6) (r p:Int),f.Fit->f.valid=true->s∈f.CD->1<=r->r<=1000->1<=p->p<=100->s.parts≠[]->AC AD 321 [.agg f.vs,GF s,.c (.int .i64 r),.c (.int .i64 p)] (Bd (Se f s r p,0))
theorem zz (dO:jH)(f:AI)(name:ByteArray)(c:Choice)(p:Int)(hf:f.Fit)(hc:IE f p=0):AC AD 289 [.agg f.vs,.c (.str name),Mq c,.c (.int .i64 p)] (Bd (Ja f name c p)):=by
 obtain⟨hv,HQ,hp2⟩:=AAF hc;obtain⟨cg,cr⟩:=c;have hk:=AOu f name ⟨cg,cr⟩ hf hv;simp only[Mq]at hk ⊢;cases hi:JS f name ⟨cg,cr⟩with
 | false =>
   have hR:Ja f name ⟨cg,cr⟩ p=(AA.zero,8):=by unfold Ja;rw[if_neg (by simp[hc]),if_pos hi]
   rw[hR];refine en iR Tryz.ntmps289 ?_;refine Ac ?_;refine gc @hi (hk) Tt ?_;refine Ac ?_;simp[Aj,AV,AZ,Aa,V.AP,V.AO,AU,yO,Af,Bd,BD,AA.zero,AA.row,AA.rows,Ab]
 | true =>
   by_cases h0:cr=0
   . subst h0;have hR:Ja f name ⟨cg,0⟩ p=Oa f cg p:=by
      unfold Ja Oa;rw[if_neg (by simp[hc]),if_neg (by simp[hi]),if_pos rfl,if_pos hv,(N8 hv HQ hp2 cg).1]
     rw[hR];have CU:=kW f cg p hf.gl;obtain⟨q,hq⟩:=AE (Oa f cg p);rw[hq]at CU ⊢;obtain⟨⟨bk,bn,bs,bw,bh,bd,bx,Bu,kids,bo,src⟩,e⟩:=q;simp only[Bd,Af,BD,AA.row,Al,A8]at CU ⊢;refine en iR Tryz.ntmps289 ?_;refine Ac ?_;refine gc @hi (hk) Tt ?_;refine Ac ?_;refine BY (CU) Tryz.func223 ?_;refine Ac ?_;simp[Aj,AV,AZ,Aa,V.AP,V.AO,AU,yO]
   . obtain⟨s,hst,Ey,r1,r2,_⟩:=uR h0 hi;have hs:=(Qm hst).1;have hR:Ja f name ⟨cg,cr⟩ p=(Se f s cr p,0):=by unfold Ja;rw[if_neg (by simp[hc]),if_neg (by simp[hi]),if_neg h0,hst];rfl
     rw[hR];have CU:=dO f s cr p hf hv hs r1 r2 HQ hp2 Ey;obtain⟨b,hq⟩:=AE (Se f s cr p);rw[hq]at CU ⊢;obtain⟨bk,bn,bs,bw,bh,bd,bx,Bu,kids,bo,src⟩:=b;simp only[Bd,Af,BD,AA.row,Al,A8]at CU ⊢;refine en iR Tryz.ntmps289 ?_;refine Ac ?_;refine gc @hi (hk) Tt ?_;refine go @h0 ?_;refine gc (cj @L3.eq_1<|cj @GF.eq_1<|cj @A6.row.eq_1<|@hst) (R4 f name hf hv) SH ?_;refine Ac ?_;refine gc (cj @GF.eq_1<|@A6.row.eq_1) (CU) Tryz.func321 ?_;refine Ac ?_;simp[Aj,AV,AZ,Aa,V.AP,V.AO,AU,yO]
theorem AVQ (dO:jH)(f:AI)(name:ByteArray)(c:Choice)(p:Int)(hf:f.Fit):AC AD 221 [.agg f.vs,.c (.str name),Mq c,.c (.int .i64 p)] (Bd (Ja f name c p)):=by
 obtain⟨cg,cr⟩:=c;by_cases hc:IE f p=0
 . have CU:=zz dO f name ⟨cg,cr⟩ p hf hc;obtain⟨q,hq⟩:=AE (Ja f name ⟨cg,cr⟩ p);rw[hq]at CU ⊢;obtain⟨⟨bk,bn,bs,bw,bh,bd,bx,Bu,kids,bo,src⟩,e⟩:=q;simp only[Mq,Bd,Af,BD,AA.row,Al,A8]at CU ⊢;refine en Tryz.func221 Tryz.ntmps221 ?_;refine Ac ?_;refine gc (cj @hc<|@Af.eq_1) (nr f p) Vj ?_;refine Ac ?_;refine BY (CU) iR ?_;refine Ac ?_;simp[Aj,AV,AZ,Aa,V.AP,V.AO,AU,Tryz.results221]
 . have hR:Ja f name ⟨cg,cr⟩ p=(AA.zero,IE f p):=by unfold Ja;rw[if_pos (by simp[hc])]
   rw[hR];unfold Mq;refine en Tryz.func221 Tryz.ntmps221 ?_;refine Ac ?_;refine gc @Af.eq_1 (nr f p) Vj ?_;refine go @hc ?_;simp[Aj,AV,AZ,Aa,V.AP,V.AO,AU,Tryz.results221,Af,Bd,BD,AA.zero,AA.row,AA.rows,Ab]
theorem xB (dO:jH)(f:AI)(name:ByteArray)(need p:Int)(hf:f.Fit):AC AD 231 [.agg f.vs,.c (.str name),.c (.int .i64 need),.c (.int .i64 p)] (Bd (F4 f name need p)):=by
 by_cases hc:IE f p=0
 . obtain⟨hv,HQ,hp2⟩:=AAF hc;have hR:F4 f name need p=Ja f name (JC f name need p) p:=by unfold F4;rw[if_neg (by simp[hc])]
   rw[hR];have hch:=AVc f name need p hf hv HQ hp2;obtain⟨c,hcc⟩:=AE (JC f name need p);rw[hcc]at hch ⊢;obtain⟨cg,cr⟩:=c;have CU:=zz dO f name ⟨cg,cr⟩ p hf hc;obtain⟨q,hq⟩:=AE (Ja f name ⟨cg,cr⟩ p);rw[hq]at CU ⊢;obtain⟨⟨bk,bn,bs,bw,bh,bd,bx,Bu,kids,bo,src⟩,e⟩:=q;simp only[Mq,Bd,Af,BD,AA.row,Al,A8]at hch CU ⊢;refine en iP Tryz.ntmps231 ?_;refine Ac ?_;refine gc (cj @hc<|@Af.eq_1) (nr f p) Vj ?_;refine Ac ?_;refine BY (hch) Tryz.func294 ?_;refine BY (CU) iR ?_;refine Ac ?_;simp[Aj,AV,AZ,Aa,V.AP,V.AO,AU,Tryz.results231]
 . have hR:F4 f name need p=(AA.zero,IE f p):=by unfold F4;rw[if_pos (by simp[hc])]
   rw[hR];refine en iP Tryz.ntmps231 ?_;refine Ac ?_;refine gc @Af.eq_1 (nr f p) Vj ?_;refine go @hc ?_;simp[Aj,AV,AZ,Aa,V.AP,V.AO,AU,Tryz.results231,Af,Bd,BD,AA.zero,AA.row,AA.rows,Ab]
theorem AQ5 (s:A6)(r:Int):AC AD 338 [GF s,.c (.int .i64 r)] (.fn 345 [.cp s.row 0,.cp [.int .i64 r] 0]):=by
 unfold GF;refine AC.intro Tryz.func338 rfl ?_;simp only[Tryz.ntmps338,Al,A8,BQ,B6,Nat.reduceAdd,Nat.reduceSub,Ao,C8,Bg,Bh,A6.row];with_reducible refine AW.seq ?_
 with_reducible refine AW.region ?_
 with_reducible refine Bw (by simp[Ao];first|exact rfl|exact⟨rfl,rfl⟩) ?_
 with_reducible refine B9 ?_
 with_reducible refine G7 ?_
 refine AW.AR 0 rfl (by simp[toCs,toC];exact rfl) (by simp[V.BG,V.AR];exact rfl) (by simp[O.AR,V.BG,V.AR];exact rfl) ?_;refine AW.AR 1 rfl (by simp[toCs,toC];exact rfl) (by simp[V.BG,V.AR];exact rfl) (by simp[O.AR,V.BG,V.AR];exact rfl) ?_;refine Ac ?_;simp[Aj,AV,AZ,Aa,V.AP,V.AO,AU,Tryz.results338,A6.row]
def GQ (k:Int):Int:=if k=5\/k=6\/k=7\/k=8 then 2 else if k=9 then 3 else if k=10\/k=11 then 1 else if k=12 then 256 else 0
def Rv (l:Int):Int:=if l<=1 then 2 else 3
def DZ (k i:Int)(s:AM):AM:=
 if k=5 then⟨if s.level+1<=3 then s.level+1 else 3,s.GJ || decide (i=1)⟩
 else if k=6 then(if i=0 then⟨3,s.GJ⟩else⟨s.level,true⟩)
 else if k=7\/k=8\/k=9 then(if i=0 then s else⟨Rv s.level,s.GJ || (decide (i=1) && !decide (k=8))⟩)
 else if k=10 then⟨s.level,true⟩
 else if k=12 then⟨if s.level<1 then 1 else s.level,s.GJ⟩
 else s
def Rz (k i:Int)(s:AM):AM×Int:=
 if s.ok=false\/GQ k=0 then(⟨0,false⟩,1)else if i<0\/GQ k<=i then(⟨0,false⟩,2)else(DZ k i s,0)
def VO (r:AM×Int):V:=.Bk [Ai r.1,Af r.2]
theorem AEx (l:Int)(h0:0<=l)(h3:l<=3):AC AD 204 [.c (.int .i64 l)] (.c (.int .i64 (if l+1<=3 then l+1 else 3))):=by
 have w:Ad.wrap (l+1)=l+1:=Aq;have e:(if (3:Int)<l+1 then(3:Int)else l+1)=if l+1<=3 then l+1 else 3:=by split<;>split<;>omega
 refine en Tryz.func204 Tryz.ntmps204 ?_;exact wz (cj @w<|cj @e<|Tryz.results204) trivial
theorem mg (l:Int)(h0:0<=l)(h3:l<=3):AC AD 207 [.c (.int .i64 l)] (.c (.int .i64 (Rv l))):=by
 have hl:l=0\/l=1\/l=2\/l=3:=by omega
 refine en Tryz.func207 Tryz.ntmps207 ?_;rcases hl with rfl|rfl|rfl|rfl
 . exact wz (cj @Rv.eq_1<|po) trivial
 . exact wz (cj @Rv.eq_1<|po) trivial
 . exact wz (cj @Rv.eq_1<|po) trivial
 . exact wz (cj @Rv.eq_1<|po) trivial
theorem ARG (l:Int):AC AD 205 [.c (.int .i64 l)] (.c (.int .i64 3)):=by
 refine en Tryz.func205 Tryz.ntmps205 ?_;exact wz Tryz.results205 trivial
theorem Zc (l:Int):AC AD 206 [.c (.int .i64 l)] (.c (.int .i64 l)):=by
 refine en Tryz.func206 Tryz.ntmps206 ?_;exact wz Tryz.results206 trivial
theorem AQs (l:Int):AC AD 208 [.c (.int .i64 l)] (.c (.int .i64 (if l<1 then 1 else l))):=by
 refine en Tryz.func208 Tryz.ntmps208 ?_;exact wz Tryz.results208 trivial
def Ma (f:FuncId)(b:Bool):List C:=[.Du f,.bool b]
def Xo:List V:=[.c (.sl []),.c (.sl []),.c (.sl []),.c (.sl []),.c (.sl []),.c (.sl [Ma 204 false,Ma 204 true]),.c (.sl [Ma 205 false,Ma 206 true]),.c (.sl [Ma 206 false,Ma 207 true]),.c (.sl [Ma 206 false,Ma 207 false]),.c (.sl [Ma 206 false,Ma 207 true,Ma 207 false]),.c (.sl [Ma 206 true]),.c (.sl [Ma 206 false]),.c (.sl [Ma 208 false])]
theorem AE5:AC AD 136 [] (.agg Xo):=by
 unfold Xo Ma;refine en Tryz.func136 Tryz.ntmps136 ?_;exact wz Tryz.results136 trivial
theorem ARs (k i:Int)(s:AM)(h:s.ok=false\/GQ k=0):AC AD 83 [.c (.int .i64 k),.c (.int .i64 i),Ai s] (VO (Rz k i s)):=by
 have hR:Rz k i s=(⟨0,false⟩,1):=if_pos h;have hs:=Xy s;rw[hR];obtain⟨OK,hOK⟩:=AE s.ok;rw[hOK]at hs h;unfold VO Af Ai;unfold Ai at hs;refine en Tryz.func83 Tryz.ntmps83 ?_;cases OK with
 | false =>
   exact wz Q6 (cj hs<|trivial)
 | true =>
   have h:GQ k=0:=h.resolve_left (by simp);by_cases h5:k<5
   . exact wz (cj @h5<|Q6) (cj hs<|trivial)
   . have h12:12<k:=by
      unfold GQ at h;by_cases q1:k=5\/k=6\/k=7\/k=8
      . rw[if_pos q1]at h;omega
      rw[if_neg q1]at h;by_cases q2:k=9
      . rw[if_pos q2]at h;omega
      rw[if_neg q2]at h;by_cases q3:k=10\/k=11
      . rw[if_pos q3]at h;omega
      rw[if_neg q3]at h;by_cases q4:k=12
      . rw[if_pos q4]at h;omega
      omega
     exact wz (cj @h5<|cj @h12<|Q6) (cj hs<|trivial)
def Sk (y:Nat)(b e d:Int)(k:Nat):List V:=[.yl y,.cp [.int .i64 b] 0,.cp [.int .i64 e] 0,.cp [.int .i64 d] 0,.any,.c (.int .i64 (b+d*k)),.any,.any,.any,.any,.any,.any,.any,.any,.any,.any,.any]
theorem kU {α:Type}(val:α->Int)(l:List α)(b e d:Int)(hb:0<=b)(Gx:b<=1000000)(hd:0<=d)(lC:d<=1000000)(Y1:e<=1000000)(hv : ∀(k:Nat) (y:α),l[k]?=some y->val y=b+d*(k:Int))(hlt : ∀y∈l,val y<e)(hge:e<=b+d*(l.length:Int)) :
 SS AD 303 [.cp [.int .i64 b] 0,.cp [.int .i64 e] 0,.cp [.int .i64 d] 0] (fun y=>#[.int .i64 (val y)]) (fun xs=>xs=l) l.length:=by
 refine SS.intro Tryz.func303 rfl rfl fun Y=>?_
 simp only[Tryz.ntmps303,BQ,B6,Nat.reduceAdd,Nat.reduceSub,Ao,C8,Bg,Bh];repeat (first
  | with_reducible refine IW.seq ?_
  | with_reducible refine IW.block ?_
  | with_reducible refine IW.skip ?_
  | with_reducible refine IW.ret ?_
  | with_reducible refine IW.exit ?_
  | with_reducible refine Kz ?_
  | with_reducible refine K0 ?_
  | with_reducible refine Ky ?_
  | with_reducible refine Kw ?_
  | with_reducible refine Kx ?_
  | with_reducible refine Kv ?_
  | with_reducible refine IL.nil ?_
  | ((with_reducible refine IW.region ?_);(with_reducible refine IL.run (by simp[Ao];first|exact rfl|exact⟨rfl,rfl⟩) ?_ ?_);(focus (first|exact rfl|decide)))
  | (with_reducible refine IW.cond (b:=true) ?_ (fun _=>?_) (fun e=>nomatch e);(focus (simp[ev];done)))
  | (with_reducible refine IW.cond (b:=false) ?_ (fun e=>nomatch e) (fun _=>?_);(focus (simp[ev];done))))
 refine IW.loop (ι:={ k:Nat // k<=l.length }) (fun k=>(⟨l.take k.1,false⟩,⟨Sk Y.l b e d k.1,[]⟩)) (fun k=>l.length - k.1) ⟨0,by omega⟩ (by simp) ?_ ?_
 . refine Jy.drop (by simp[A5,Sk]) (by simp[V.BT,V.BA,Sk])
 rintro ⟨k,hk⟩;simp only[Sk];by_cases hlk:k<l.length
 . obtain⟨y,hy⟩:=AE (l[k]);have hgy:l[k]?=some y:=by rw[BP hlk,hy]
   have hvy:=hv k y hgy;have Ub:=hlt y (List.mem_of_getElem? hgy);rw[hvy]at Ub;have hk0:0<=d*(k:Int):=Int.mul_nonneg hd (by omega);have e1:b+d*(k:Int)+d=b+d*((k+1:Nat):Int):=by push_cast;rw[Int.mul_add];omega
   have hw:Ad.wrap (b+d*(k:Int)+d)=b+d*((k+1:Nat):Int):=by rw[Aq,e1]
   repeat (first
    | with_reducible refine IW.seq ?_
    | with_reducible refine IW.block ?_
    | with_reducible refine IW.skip ?_
    | with_reducible refine IW.ret ?_
    | with_reducible refine IW.exit ?_
    | with_reducible refine Kz ?_
    | with_reducible refine K0 ?_
    | with_reducible refine Ky ?_
    | with_reducible refine Kw ?_
    | with_reducible refine Kx ?_
    | with_reducible refine Kv ?_
    | with_reducible refine IL.nil ?_
    | ((with_reducible refine IW.region ?_);(with_reducible refine IL.run (by simp[Ao,Ub];first|exact rfl|exact⟨rfl,rfl⟩) ?_ ?_);(focus (first|exact rfl|decide)))
    | (with_reducible refine IW.cond (b:=true) ?_ (fun _=>?_) (fun e=>nomatch e);(focus (simp[ev,Ub];done)))
    | (with_reducible refine IW.cond (b:=false) ?_ (fun e=>nomatch e) (fun _=>?_);(focus (simp[ev,Ub];done))))
   refine IL.yield y (Sk Y.l b e d k) rfl rfl (by simp[ev]) (by first|(simp[ev];exact⟨rfl,rfl⟩)|(simp[ev];done)) (by rw[hvy]) (by rw[List.length_take];omega) (by simp[A5,Sk]) (by simp[V.BT,V.BA,Sk]) ?_ ?_
   . simp only[St.put,Sk,BC,Az,BQ,B6,Nat.reduceAdd,Ao,C8];with_reducible refine IL.run (by simp[Ao];first|exact rfl|exact⟨rfl,rfl⟩) ?_ ?_
     . first|exact rfl|decide
     repeat (first
      | with_reducible refine IW.seq ?_
      | with_reducible refine IW.block ?_
      | with_reducible refine IW.skip ?_
      | with_reducible refine IW.ret ?_
      | with_reducible refine IW.exit ?_
      | with_reducible refine Kz ?_
      | with_reducible refine K0 ?_
      | with_reducible refine Ky ?_
      | with_reducible refine Kw ?_
      | with_reducible refine Kx ?_
      | with_reducible refine Kv ?_
      | with_reducible refine IL.nil ?_
      | ((with_reducible refine IW.region ?_);(with_reducible refine IL.run (by simp[Ao,hw];first|exact rfl|exact⟨rfl,rfl⟩) ?_ ?_);(focus (first|exact rfl|decide)))
      | (with_reducible refine IW.cond (b:=true) ?_ (fun _=>?_) (fun e=>nomatch e);(focus (simp[ev,hw];done)))
      | (with_reducible refine IW.cond (b:=false) ?_ (fun e=>nomatch e) (fun _=>?_);(focus (simp[ev,hw];done))))
     refine⟨⟨k+1,by omega⟩,by simp only;omega,?_,?_⟩
     . simp only[NR hlk,hy]
     . exact Jy.drop (by simp[A5]) (by simp[V.BT,V.BA])
   . simp only[St.put,Sk,BC,Az,BQ,B6,Nat.reduceAdd,Ao,C8];with_reducible refine IL.run (by simp[Ao];first|exact rfl|exact⟨rfl,rfl⟩) ?_ ?_
     . first|exact rfl|decide
     repeat (first
      | with_reducible refine IW.seq ?_
      | with_reducible refine IW.block ?_
      | with_reducible refine IW.skip ?_
      | with_reducible refine IW.ret ?_
      | with_reducible refine IW.exit ?_
      | with_reducible refine Kz ?_
      | with_reducible refine K0 ?_
      | with_reducible refine Ky ?_
      | with_reducible refine Kw ?_
      | with_reducible refine Kx ?_
      | with_reducible refine Kv ?_
      | with_reducible refine IL.nil ?_
      | ((with_reducible refine IW.region ?_);(with_reducible refine IL.run (by simp[Ao];first|exact rfl|exact⟨rfl,rfl⟩) ?_ ?_);(focus (first|exact rfl|decide)))
      | (with_reducible refine IW.cond (b:=true) ?_ (fun _=>?_) (fun e=>nomatch e);(focus (simp[ev];done)))
      | (with_reducible refine IW.cond (b:=false) ?_ (fun e=>nomatch e) (fun _=>?_);(focus (simp[ev];done))))
     exact⟨.inr rfl,fun h=>nomatch h⟩
 . have Bp:k=l.length:=by omega
   subst Bp;have Ub : ¬(b+d*(l.length:Int)<e):=by omega
   repeat (first
    | with_reducible refine IW.seq ?_
    | with_reducible refine IW.block ?_
    | with_reducible refine IW.skip ?_
    | with_reducible refine IW.ret ?_
    | with_reducible refine IW.exit ?_
    | with_reducible refine Kz ?_
    | with_reducible refine K0 ?_
    | with_reducible refine Ky ?_
    | with_reducible refine Kw ?_
    | with_reducible refine Kx ?_
    | with_reducible refine Kv ?_
    | with_reducible refine IL.nil ?_
    | ((with_reducible refine IW.region ?_);(with_reducible refine IL.run (by simp[Ao,Ub];first|exact rfl|exact⟨rfl,rfl⟩) ?_ ?_);(focus (first|exact rfl|decide)))
    | (with_reducible refine IW.cond (b:=true) ?_ (fun _=>?_) (fun e=>nomatch e);(focus (simp[ev,Ub];done)))
    | (with_reducible refine IW.cond (b:=false) ?_ (fun e=>nomatch e) (fun _=>?_);(focus (simp[ev,Ub];done))))
   refine⟨.inl rfl,fun _=>?_⟩;simp
theorem cV (b e d:Int):AC AD 246 [.c (.int .i64 b),.c (.int .i64 e),.c (.int .i64 d)] (.fn 303 [.cp [.int .i64 b] 0,.cp [.int .i64 e] 0,.cp [.int .i64 d] 0]):=by
 refine en Tryz.func246 Tryz.ntmps246 ?_;with_reducible refine AW.seq ?_
 with_reducible refine AW.region ?_
 with_reducible refine Bw (by simp[Ao];first|exact rfl|exact⟨rfl,rfl⟩) ?_
 with_reducible refine B9 ?_
 with_reducible refine G7 ?_
 refine AW.AR 0 rfl (by simp[toCs,toC];exact rfl) (by simp[V.BG,V.AR];exact rfl) (by simp[O.AR,V.BG,V.AR];exact rfl) ?_;refine AW.AR 1 rfl (by simp[toCs,toC];exact rfl) (by simp[V.BG,V.AR];exact rfl) (by simp[O.AR,V.BG,V.AR];exact rfl) ?_;refine AW.AR 2 rfl (by simp[toCs,toC];exact rfl) (by simp[V.BG,V.AR];exact rfl) (by simp[O.AR,V.BG,V.AR];exact rfl) ?_;refine Ac ?_;simp[Aj,AV,AZ,Aa,V.AP,V.AO,AU,Tryz.results246]
theorem sI (a:Int)(l:List Int)(hl:l.length<=1000000):AC AD 302 [.c (.int .i64 a),.c (Ab l)] (.c (.int .i64 (l.foldl mx a))):=by
 obtain⟨rs,Ak⟩:=AE (l.map (fun n=>[C.int .i64 n]));have Am:rs.length=l.length:=by rw[<-Ak];simp
 have de:Ab l=.sl rs:=by rw[<-Ak];rfl
 rw[de];refine en Tryz.func302 Tryz.ntmps302 ?_;refine go @Am ?_;refine lp (ι:={ k:Nat // k<=l.length }) (fun k=>[(0,.c (.int .i64 ((l.take k.1).foldl mx a))),(9,.c (.int .i64 (k.1:Int)))]) (fun _=>[]) (fun k=>l.length - k.1) ⟨0,by omega⟩ ?_ ?_;all_goals simp only[Br,Bl,B7,BC,Az]
 . refine Le.BV (by simp[A5])
 . rintro ⟨k,hk⟩;simp only;by_cases hlt:k<l.length
   . obtain⟨y,hy⟩:=AE (l[k]);have hg:rs[k]?=some [.int .i64 y]:=by rw[<-Ak,List.getElem?_map,BP hlt,hy];rfl
     have F6:=gx hg;have CW:k<rs.length:=by omega
     have hw:Ad.wrap ((k:Int)+1)=((k+1:Nat):Int):=by rw[Aq];simp
     have hf:(l.take (k+1)).foldl mx a=mx ((l.take k).foldl mx a) y:=by rw[NR hlt,hy,List.foldl_append];rfl
     obtain⟨M,hM⟩:=AE ((l.take k).foldl mx a);rw[hM]at hf;simp only[hM];refine wy (cj @hlt<|cj @Am<|cj @CW<|cj @hg<|cj @F6<|cj @hw<|Tryz.results302) trivial ⟨?_⟩;refine⟨⟨k+1,by omega⟩,by simp only;omega,?_⟩;simp only[hf,mx];refine Le.BV (by simp[A5])
   . obtain rfl:k=l.length:=by omega
     exact wz (cj @hlt<|cj @Am<|Tryz.results302) trivial
end Go.Proofs.YtpodcjcajanldaaGreat
