/- Part of the proof of breakpointLength.proved. Conditions: none. (Joined and shortened by a program.) -/
import Derived.Test.YtpodcjcajanldaaGreatP17
set_option linter.unusedVariables false
set_option linter.unusedSimpArgs false
set_option maxRecDepth 100000
set_option maxHeartbeats 16000000
open Bool renaming true_and→B5,false_and→C2
open Go.Proofs.Tryz renaming prog→AD,results154→Lu
open List renaming map_cons→Al,map_nil→A8,length_cons→BQ,length_nil→B6,replicate_succ→Ao,replicate_zero→C8,cons_append→Bg,nil_append→Bh
namespace Go.Proofs.YtpodcjcajanldaaGreat
open Go.RowKit
def IF (n:Nat):List V:=lu++[.c (.int .i64 (n:Int))]
@[simp] theorem AWo (n:Nat):(IF n).length=40:=rfl
@[simp] theorem AWm (n:Nat):(IF n)[39]?=some (.c (.int .i64 (n:Int))):=rfl
@[simp] theorem AWq (n:Nat)(h:39<(IF n).length):(IF n)[39]'h=.c (.int .i64 (n:Int)):=rfl
@[simp] theorem AWp (n:Nat)(m:Nat):(IF n).set 39 (.c (.int .i64 (m:Int)))=IF m:=rfl
@[simp] theorem kG (n:Nat):V.DJ 0 (IF n)=some (IF n):=rfl
@[simp] theorem AAN (n:Nat):V.OF (IF n)=true:=rfl
def eo (k c:Int)(n:Nat)(sl:Nat):Bool:=
 if k=1 then decide (c=0) && decide (n<=200)
 else if k=12 then decide (1<=c) && (decide (c<=16) && (decide (1<=n) && (decide (n<=256) && decide ((n:Int).tmod c=0))))
 else decide (c=0) && decide (n=sl)
theorem O4 {k:Nat}{c:Int}{n sl:Nat}(hs:(k≠1/\k≠12)->Dh (k:Int) c n=(decide (c=0) && decide (n=sl))):eo k c n sl=Dh k c n:=by
 unfold eo;by_cases h1:k=1
 . subst h1;have e:((1:Nat):Int)=1:=rfl;have e2 : ¬((1:Nat):Int)=12:=by decide
   rw[if_pos e];unfold Dh;rw[if_neg e2];by_cases hc:c=0
   . rw[decide_eq_true hc,B5,if_neg (fun h=>h hc),if_pos e]
   . rw[decide_eq_false hc,C2,if_pos hc]
 . rw[if_neg (by omega)];by_cases h2:k=12
   . subst h2;have e:((12:Nat):Int)=12:=rfl;rw[if_pos e];unfold Dh;rw[if_pos e]
   . rw[if_neg (by omega),hs ⟨h1,h2⟩]
theorem Rj {k:Nat}{c:Int}{n:Nat}(h12:k≠12):Dh k c n=(decide (c=0) && Dh k 0 n):=by
 have e : ¬(k:Int)=12:=by omega
 by_cases hc:c=0
 . subst hc;simp
 . rw[decide_eq_false hc,C2];unfold Dh;rw[if_neg e,if_pos hc]
theorem AOk (k:Nat)(h1:1<=k)(h2:k<=12)(s:ByteArray)(hs:s.size<=maxLen)(n:Nat):∃(g:FuncId) (sl:Nat),(IF n)[k*3+2]?=some (.fn g [])/\(IF n)[k*3+1]?=some (.c (.int .i64 (sl:Int)))/\GI AD g=true/\AC AD g [.c (.str s)] (.c (.bool (I2 k s)))/\∀c m,eo k c m sl=Dh k c m:=by
 have q0:=AQw s;have hE : ∀k:Int,k≠2->k≠3->k≠4->k≠10->k≠11->I2 k s=decide (s=⟨#[]⟩):=fun k a b c d e=>by unfold I2;rw[if_neg a,if_neg b,if_neg c,if_neg d,if_neg e]
 match k,h1,h2 with
 | 1,_,_=>exact⟨_,0,rfl,rfl,by kernel_rfl,by rw[hE _ (by decide) (by decide) (by decide) (by decide) (by decide)];exact q0,fun c m=>O4 fun h=>absurd rfl h.1⟩
 | 2,_,_=>exact⟨_,0,rfl,rfl,by kernel_rfl,ARV s hs,fun c m=>O4 fun h=>Rj (by decide)⟩
 | 3,_,_=>exact⟨_,0,rfl,rfl,by kernel_rfl,ARU s hs,fun c m=>O4 fun h=>Rj (by decide)⟩
 | 4,_,_=>exact⟨_,0,rfl,rfl,by kernel_rfl,ARk s hs,fun c m=>O4 fun h=>Rj (by decide)⟩
 | 5,_,_=>exact⟨_,2,rfl,rfl,by kernel_rfl,by rw[hE _ (by decide) (by decide) (by decide) (by decide) (by decide)];exact q0,fun c m=>O4 fun h=>Rj (by decide)⟩
 | 6,_,_=>exact⟨_,2,rfl,rfl,by kernel_rfl,by rw[hE _ (by decide) (by decide) (by decide) (by decide) (by decide)];exact q0,fun c m=>O4 fun h=>Rj (by decide)⟩
 | 7,_,_=>exact⟨_,2,rfl,rfl,by kernel_rfl,by rw[hE _ (by decide) (by decide) (by decide) (by decide) (by decide)];exact q0,fun c m=>O4 fun h=>Rj (by decide)⟩
 | 8,_,_=>exact⟨_,2,rfl,rfl,by kernel_rfl,by rw[hE _ (by decide) (by decide) (by decide) (by decide) (by decide)];exact q0,fun c m=>O4 fun h=>Rj (by decide)⟩
 | 9,_,_=>exact⟨_,3,rfl,rfl,by kernel_rfl,by rw[hE _ (by decide) (by decide) (by decide) (by decide) (by decide)];exact q0,fun c m=>O4 fun h=>Rj (by decide)⟩
 | 10,_,_=>exact⟨_,1,rfl,rfl,by kernel_rfl,AEW s,fun c m=>O4 fun h=>Rj (by decide)⟩
 | 11,_,_=>exact⟨_,1,rfl,rfl,by kernel_rfl,ART s,fun c m=>O4 fun h=>Rj (by decide)⟩
 | 12,_,_=>exact⟨_,0,rfl,rfl,by kernel_rfl,by rw[hE _ (by decide) (by decide) (by decide) (by decide) (by decide)];exact q0,fun c m=>O4 fun h=>absurd rfl h.2⟩
theorem AQY {b:Nd}(h:b.kind<1\/12<b.kind):b.CZ=false:=by
 unfold Nd.CZ;have e:Dh b.kind b.AF b.kids.length=false:=by
  unfold Dh;obtain⟨k,hk⟩:=AE b.kind;rw[hk]at h ⊢;have a1 : ¬k=12:=by omega
  have a2 : ¬k=1:=by omega
  have a3 : ¬(k=2\/k=3\/k=4):=by omega
  have a4 : ¬(k=5\/k=6\/k=7\/k=8):=by omega
  have a5 : ¬k=9:=by omega
  have a6 : ¬(k=10\/k=11):=by omega
  rw[if_neg a1,if_neg a2,if_neg a3,if_neg a4,if_neg a5,if_neg a6];split<;>rfl
 rw[e,Bool.and_false]
theorem ARb (b:Nd)(n:Nat)(Au:b.Bc):AY AD 154 [.ptr 0 0,.cp b.row 0] 134 (IF n) (IF n) (.c (.bool b.CZ)):=by
 obtain⟨FE,Wh,_⟩:=K7 b Au;have hl:=G0 b.kids;obtain⟨rs,Ak⟩:=AE (Nd.rows b.kids);rw[Ak]at hl;obtain⟨m,hm⟩:=AE b.kids.length;rw[hm]at hl Wh;unfold maxLen at Wh;by_cases hr:b.kind<1\/12<b.kind
 . rw[AQY hr];refine AY.intro Tryz.func154 rfl ?_;simp only[Tryz.ntmps154,Al,A8,BQ,B6,Nat.reduceAdd,Nat.reduceSub,Ao,C8,Bg,Bh];rcases hr with hr|hr
   . have ff:=(cj @hr<|Lu)
     repeat any_goals (first|refine CC ?_|exact Bq ff|refine Bt ff ?_|refine Bi ff ?_|((first|refine By ff ?_ ?_|refine B4 ff ?_ ?_|refine Bz ff ?_ ?_|refine B3 ff ?_ ?_)<;>intro h<;>try (exfalso;first|omega|contradiction)))
     all_goals simp[FL,AV,AZ,Aa,V.AP,V.AO,AU,Lu, *]
   . have hr' : ¬b.kind<1:=by omega
     have ff:=(cj @hr<|cj @hr'<|Lu)
     repeat any_goals (first|refine CC ?_|exact Bq ff|refine Bt ff ?_|refine Bi ff ?_|((first|refine By ff ?_ ?_|refine B4 ff ?_ ?_|refine Bz ff ?_ ?_|refine B3 ff ?_ ?_)<;>intro h<;>try (exfalso;first|omega|contradiction)))
     all_goals simp[FL,AV,AZ,Aa,V.AP,V.AO,AU,Lu, *]
 . obtain⟨k,hk⟩:∃k:Nat,b.kind=(k:Int):=⟨b.kind.toNat,by omega⟩
   obtain⟨g,sl,f2,f1,P8,Cs,hkp⟩:=AOk k (by omega) (by omega) b.text FE n;have hO:b.CZ=(I2 k b.text && eo k b.AF m sl):=by unfold Nd.CZ;rw[hk,hm,hkp]
   rw[hO];clear hkp hO;have k1 : ¬(k:Int)<1:=by omega
   have k2 : ¬(12:Int)<(k:Int):=by omega
   have k3:(k:Int)<13:=by omega
   have k4:k<13:=by omega
   obtain⟨TB,hTB⟩:=AE (I2 k b.text);rw[hTB]at Cs ⊢;obtain⟨c,hc⟩:=AE b.AF;rw[hc];refine AY.intro Tryz.func154 rfl ?_;simp only[Tryz.ntmps154,Al,A8,BQ,B6,Nat.reduceAdd,Nat.reduceSub,Ao,C8,Bg,Bh];cases TB with
   | false =>
     have ff:=(cj @hk<|cj @k1<|cj @k2<|cj @k3<|cj @k4<|cj @f1<|cj @f2<|cj @P8<|cj @Ak<|cj @hl<|cj @hc<|Lu)
     repeat any_goals (first|refine CC ?_|exact Bq ff|refine Bt ff ?_|refine A4 ff (Cs) ?_|refine Bi ff ?_|((first|refine By ff ?_ ?_|refine B4 ff ?_ ?_|refine Bz ff ?_ ?_|refine B3 ff ?_ ?_)<;>intro h<;>try (exfalso;first|omega|contradiction)))
     all_goals simp[FL,AV,AZ,Aa,V.AP,V.AO,AU,Lu, *]
   | true =>
     rw[B5];unfold eo;by_cases q1:k=1
     . have U7:(k:Int)=1:=by omega
       rw[if_pos U7];have q1t:((k:Int)=1)↔True:=⟨fun _=>trivial,fun _=>U7⟩
       have e4:((m:Int)<=200)=(m<=200):=by rw[eq_iff_iff];omega
       have ff:=(cj @hk<|cj @k1<|cj @k2<|cj @k3<|cj @k4<|cj @f1<|cj @f2<|cj @P8<|cj @Ak<|cj @hl<|cj @hc<|cj @q1t<|cj @e4<|Lu)
       repeat any_goals (first|refine CC ?_|exact Bq ff|refine Bt ff ?_|refine A4 ff (Cs) ?_|refine Bi ff ?_|((first|refine By ff ?_ ?_|refine B4 ff ?_ ?_|refine Bz ff ?_ ?_|refine B3 ff ?_ ?_)<;>intro h<;>try (exfalso;first|omega|contradiction)))
       all_goals simp[FL,AV,AZ,Aa,V.AP,V.AO,AU,Lu, *]
     . have U7 : ¬(k:Int)=1:=by omega
       rw[if_neg U7];by_cases q2:k=12
       . have fZ:(k:Int)=12:=by omega
         rw[if_pos fZ];have vl:((k:Int)=12)↔True:=⟨fun _=>trivial,fun _=>fZ⟩
         have e5:((m:Int)<=256)=(m<=256):=by rw[eq_iff_iff];omega
         have e6:((1:Int)<=(m:Int))=(1<=m):=by rw[eq_iff_iff];omega
         by_cases g1:1<=c
         . by_cases g2:c<=16
           . have c0 : ¬c=0:=by omega
             have w0:IntKind.i64.wrap ((m:Int).tmod c)=(m:Int).tmod c:=by
              have h1:=Int.tmod_nonneg c (show (0:Int)<=(m:Int)by omega);have h2:=Int.tmod_lt_of_pos (m:Int) (show (0:Int)<c by omega);exact Aq
             rw[decide_eq_true g1,decide_eq_true g2,B5,B5];have ff:=(cj @hk<|cj @k1<|cj @k2<|cj @k3<|cj @k4<|cj @f1<|cj @f2<|cj @P8<|cj @Ak<|cj @hl<|cj @hc<|cj @U7<|cj @vl<|cj @e5<|cj @e6<|cj @g1<|cj @g2<|cj @c0<|cj @w0<|Lu)
             repeat any_goals (first|refine CC ?_|exact Bq ff|refine Bt ff ?_|refine A4 ff (Cs) ?_|refine Bi ff ?_|((first|refine By ff ?_ ?_|refine B4 ff ?_ ?_|refine Bz ff ?_ ?_|refine B3 ff ?_ ?_)<;>intro h<;>try (exfalso;first|omega|contradiction)))
             all_goals simp[FL,AV,AZ,Aa,V.AP,V.AO,AU,Lu, *]
           . rw[decide_eq_true g1,decide_eq_false g2,B5,C2];have ff:=(cj @hk<|cj @k1<|cj @k2<|cj @k3<|cj @k4<|cj @f1<|cj @f2<|cj @P8<|cj @Ak<|cj @hl<|cj @hc<|cj @U7<|cj @vl<|cj @e5<|cj @e6<|cj @g1<|cj @g2<|Lu)
             repeat any_goals (first|refine CC ?_|exact Bq ff|refine Bt ff ?_|refine A4 ff (Cs) ?_|refine Bi ff ?_|((first|refine By ff ?_ ?_|refine B4 ff ?_ ?_|refine Bz ff ?_ ?_|refine B3 ff ?_ ?_)<;>intro h<;>try (exfalso;first|omega|contradiction)))
             all_goals simp[FL,AV,AZ,Aa,V.AP,V.AO,AU,Lu, *]
         . rw[decide_eq_false g1,C2];have ff:=(cj @hk<|cj @k1<|cj @k2<|cj @k3<|cj @k4<|cj @f1<|cj @f2<|cj @P8<|cj @Ak<|cj @hl<|cj @hc<|cj @U7<|cj @vl<|cj @e5<|cj @e6<|cj @g1<|Lu)
           repeat any_goals (first|refine CC ?_|exact Bq ff|refine Bt ff ?_|refine A4 ff (Cs) ?_|refine Bi ff ?_|((first|refine By ff ?_ ?_|refine B4 ff ?_ ?_|refine Bz ff ?_ ?_|refine B3 ff ?_ ?_)<;>intro h<;>try (exfalso;first|omega|contradiction)))
           all_goals simp[FL,AV,AZ,Aa,V.AP,V.AO,AU,Lu, *]
       . have fZ : ¬(k:Int)=12:=by omega
         rw[if_neg fZ];have e7:((m:Int)=(sl:Int))=(m=sl):=by rw[eq_iff_iff];omega
         have ff:=(cj @hk<|cj @k1<|cj @k2<|cj @k3<|cj @k4<|cj @f1<|cj @f2<|cj @P8<|cj @Ak<|cj @hl<|cj @hc<|cj @U7<|cj @fZ<|cj @e7<|Lu)
         repeat any_goals (first|refine CC ?_|exact Bq ff|refine Bt ff ?_|refine A4 ff (Cs) ?_|refine Bi ff ?_|((first|refine By ff ?_ ?_|refine B4 ff ?_ ?_|refine Bz ff ?_ ?_|refine B3 ff ?_ ?_)<;>intro h<;>try (exfalso;first|omega|contradiction)))
         all_goals simp[FL,AV,AZ,Aa,V.AP,V.AO,AU,Lu, *]
end Go.Proofs.YtpodcjcajanldaaGreat
