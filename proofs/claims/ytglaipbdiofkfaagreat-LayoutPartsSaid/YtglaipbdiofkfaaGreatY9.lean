/- Part of the proof of some laws. Conditions: none. -/
import Derived.Laws.RangeAny
import Derived.Laws.RangeString
import Derived.LoopTactic
import Derived.Laws.Runes
import Derived.Lib.IndexLaws
import Derived.Test.YtglaipbdiofkfaaGreatY6
set_option linter.unusedVariables false
set_option linter.unusedSimpArgs false
set_option maxRecDepth 100000
set_option maxHeartbeats 16000000
open Go.Proofs.Tryz renaming prog→AF,func79→ALN,ntmps79→AM8,results79→AOv,func80→AGA,ntmps80→AGJ,results80→AGZ,results83→Abv,func114→m8,ntmps114→nv,results114→n4,func115→nA,ntmps115→Tu,results115→NA,results63→ki,results64→vZ,results36→aW,results62→c8,func27→AQe,ntmps27→ARJ,results27→ASF,results84→L2,func41→AK6,results41→L1,func20→nD,ntmps20→nR,results20→nf,func186→UH,ntmps186→UL,results186→UN,func283→AQg,ntmps283→ARO,results283→ABj
open List renaming drop_zero→B9,all_cons→Ep,all_nil→Nq,take_succ_cons→DP,foldl_cons→Bw,foldl_nil→CO,set_cons_zero→Ag,set_cons_succ→Ai,getElem?_eq_getElem→BE,mem_of_getElem?→Cj,take_of_length_le→Gl,drop_eq_getElem_cons→D5,drop_of_length_le→FA,map_cons→Ap,map_nil→BB,length_cons→BA,length_nil→BO,replicate_succ→BY,replicate_zero→Cy,cons_append→BK,nil_append→BU,drop_succ_cons→CU,map→Vf,map_set→fy,replicate→Aq,length_map→Ch,length_pos_iff→Kr
open Bool renaming false_and→D4,and_false→LV,true_and→Cd,eq_iff_iff→Oj,and_true→Km
open Go.Lib renaming indexByte→EF
open Go.IntKind renaming i64→AZ,i32→uK
open Int renaming tmod_nonneg→Sl,tmod_lt_of_pos→aG
open Nat renaming lt_succ_self→AC6,le_refl→BN,mul_le_mul→ua,zero_add→Cz
open Go.Builtin renaming zeroCells→KN
open Go.Value renaming int→vj
open Array renaming toList_inj→Gx
open Option.some renaming injEq→BL
open Prod.mk renaming injEq→Cr
open Go.Deferred renaming ofValue→M5
open Go.Op renaming operands→Bl
open Go.Call renaming operands→Df
open Go.Instr renaming next→Xj
open Go.Utf8 renaming decode→g9,encode→iA
open Go.Extern.BytealgIndexByte renaming indexByte→AMT
open ByteArray renaming mk→uB
open Option renaming some→J,none→E
open Bool renaming false→U,true→I
open List renaming length→G
namespace Go.Proofs.YtglaipbdiofkfaaGreat
open Go.RowKit Tryz
variable {k:Nat}{pos:Nat}(b:Nd)(l:List Nd)(s:ByteArray)(r:Int)(c:Int)(m:Nat)(n:Nat)(w:World)
theorem AWo (hs:s.size<=maxLen):AC AF 79 [.c (.str s)] (.c (.bool (Z1 s))):=by
 have M:=AWa s hs;have h2:=AWP s;have h3:=AJF s;unfold maxLen at hs;unfold Z1;by_cases g:s.size=1;rw[if_pos g];obtain⟨b,hb,CT,hd,_,_⟩:=bS (s:=s) (k:=0) (by omega);rw[B9]at hd;rw[ij (by omega)]at hd;have S:FC Nc s=Nc b.toNat:=by unfold FC;rw[hd];simp
 have q:FC bT s=(Nc b.toNat || Lq lP b.toNat):=by unfold FC;rw[hd];simp[bT]
 have h4:=AYP lP s b g hb;unfold lP at *
 rw[q];rw[S]at M;have Q:(s.size:Int)=1:=by omega
 cases z:Nc b.toNat with
 | true=>rw[z]at M;refine en ALN AM8 ?_;exact wz (cj @Q<|AOv) (cj M<|trivial)
 | false=>rw[z]at M;refine en ALN AM8 ?_;exact wz (cj @Q<|AOv) (cj2 M h4 W)
 . rw[if_neg g];have Q : ¬(s.size:Int)=1:=by omega
   have S:((s.size:Int)<=16)=(s.size<=16):=by rw[eq_iff_iff];omega
   have q:((2:Int)<=(s.size:Int))=(2<=s.size):=by rw[eq_iff_iff];omega
   obtain⟨A,hA⟩:=AI (FC Nc s);obtain⟨B,hB⟩:=AI (NY kQ s);obtain⟨D,hD⟩:=AI (NY N0 s);rw[hA]at M ⊢;rw[hB]at h2 ⊢;rw[hD]at h3 ⊢;clear hA hB hD;by_cases R:2<=s.size
   . by_cases g2:s.size<=16
     . rw[decide_eq_true R,decide_eq_true g2];cases A<;>cases B<;>cases D;all_goals
        refine en ALN AM8 ?_;exact wz (cj5 @Q @S @q @R @g2 AOv) (cj3 M h2 h3 W)
     rw[decide_eq_true R,decide_eq_false g2,D4,LV,LV];refine en ALN AM8 ?_;exact wz (cj5 @Q @S @q @R @g2 AOv) W
   rw[decide_eq_false R,D4,LV];refine en ALN AM8 ?_;exact wz (cj4 @Q @S @q @R AOv) W
theorem AFM (a e:Nat)(h:s.size<=maxLen):(s.extract a e).size<=maxLen:=by
 rw[ByteArray.size_extract];omega
theorem AWn (S:s.size<=maxLen):AC AF 80 [.c (.str s)] (.c (.bool (dj s))):=by
 have B:=AYR s ⟨#[46]⟩ 46 S rfl F;have R:=AA7 s S;rw[<-AUl];unfold AAn;unfold im at B;have M:((s.size:Int)<=20)=(s.size<=20):=by rw[eq_iff_iff];omega
 by_cases g:s.size<=20;rw[decide_eq_true g,Cd];by_cases c:0<=EF s.data.toList 46;rw[if_pos c]at B ⊢;have Q:=AA7 (s.extract 0 (EF s.data.toList 46).toNat) (AFM _ _ _ S);have q:=AA7 (s.extract ((EF s.data.toList 46).toNat+1) s.size) (AFM _ _ _ S);obtain⟨X,z⟩:=AI (s.extract 0 (EF s.data.toList 46).toNat);obtain⟨Y,hY⟩:=AI (s.extract ((EF s.data.toList 46).toNat+1) s.size);rw[z]at B Q ⊢;rw[hY]at B q ⊢;cases D:Ug X with
 | true=>rw[D]at Q;refine en AGA AGJ ?_;exact wz (cj2 @M @g AGZ) (cj3 B Q q W)
 | false=>rw[D]at Q;refine en AGA AGJ ?_;exact wz (cj2 @M @g AGZ) (cj2 B Q W)
 rw[if_neg c]at B ⊢;cases D:Ug s with
 | true=>rw[D]at R;refine en AGA AGJ ?_;exact wz (cj2 @M @g AGZ) (cj2 B R W)
 | false=>rw[D]at R;refine en AGA AGJ ?_;exact wz (cj2 @M @g AGZ) (cj2 B R W)
 rw[decide_eq_false g,D4];by_cases c:0<=EF s.data.toList 46;rw[if_pos c]at B;refine en AGA AGJ ?_;exact wz (cj2 @M @g AGZ) (cj B<|trivial);rw[if_neg c]at B;refine en AGA AGJ ?_;exact wz (cj2 @M @g AGZ) (cj B<|trivial)
theorem AOu :Lq RX c=Lq TC c:=by
 rw[Oj];simp[Lq,RX,TC];omega
theorem AJY (b:UInt8):AC AF 138 [.c (.str s),.c (.int .u8 b.toNat)] (.c (.int .i64 (EF s.data.toList b))):=by
 have h:=AYS s b.toNat;rwa [show ((b.toNat:Int)).toNat.toUInt8=b by simp]at h
theorem AWm :AC AF 83 [.c (.str s)] (.c (.bool (decide (s.size=2) && FC (Lq RX) s))):=by
 by_cases g:s.size=2;obtain⟨Q,q,z,c3,c4,_⟩:=bS (s:=s) (k:=0) (by omega);obtain⟨d0,d1,d2,d3,d4,_⟩:=bS (s:=s) (k:=1) (by omega);have R : ∀b:UInt8,Lq RX b.toNat=decide (0<=EF TC.data.toList b):=λb=>by rw[AOu];exact(AHs _ _).symm
 have hR:FC (Lq RX) s=(decide (0<=EF TC.data.toList Q) && decide (0<=EF TC.data.toList d0)):=by
  unfold FC;rw[B9]at c3;rw[c3,d3,ij (by omega),Ep,Ep,Nq,Km,R,R]
 have S:=AJY TC Q;have q2:=AJY TC d0;rw[decide_eq_true g,Cd,hR];have B:(s.size:Int)=2:=by omega
 obtain⟨X,hX⟩:=AI (EF TC.data.toList Q);obtain⟨Y,hY⟩:=AI (EF TC.data.toList d0);rw[hX]at S ⊢;rw[hY]at q2 ⊢;unfold TC at *
 clear R hR hX hY;by_cases M:0<=X;rw[decide_eq_true M,Cd];refine en func83 ntmps83 ?_;exact wz (cj6 @B @q @z @d1 @d2 @M Abv) (cj2 S q2 W);rw[decide_eq_false M,D4];refine en func83 ntmps83 ?_;exact wz (cj6 @B @q @z @d1 @d2 @M Abv) (cj S<|trivial);rw[decide_eq_false g,D4];have B : ¬(s.size:Int)=2:=by omega
 refine en func83 ntmps83 ?_;exact wz (cj @B<|Abv) W
def rU:List V:=[.c (.str ⟨#[]⟩),.c (.int .i64 0),.c .Cv,
 .c (.str ⟨#[114,111,119]⟩),.c (.int .i64 0),.fn 78 [],
 .c (.str ⟨#[115,121,109]⟩),.c (.int .i64 0),.fn 79 [],
 .c (.str ⟨#[110,117,109]⟩),.c (.int .i64 0),.fn 80 [],
 .c (.str ⟨#[116,101,120,116]⟩),.c (.int .i64 0),.fn 81 [],
 .c (.str ⟨#[102,114,97,99]⟩),.c (.int .i64 2),.fn 78 [],
 .c (.str ⟨#[114,111,111,116]⟩),.c (.int .i64 2),.fn 78 [],
 .c (.str ⟨#[115,117,98]⟩),.c (.int .i64 2),.fn 78 [],
 .c (.str ⟨#[115,117,112]⟩),.c (.int .i64 2),.fn 78 [],
 .c (.str ⟨#[98,111,116,104]⟩),.c (.int .i64 3),.fn 78 [],
 .c (.str ⟨#[97,99,99,101,110,116]⟩),.c (.int .i64 1),.fn 82 [],
 .c (.str ⟨#[102,101,110,99,101]⟩),.c (.int .i64 1),.fn 83 [],
 .c (.str ⟨#[109,97,116,114,105,120]⟩),.c (.int .i64 0),.fn 78 []]
theorem AWQ:AC AF 40 [] (.agg rU):=by
 unfold rU;refine en func40 ntmps40 ?_;exact wz results40 W
theorem Ann (hb:b.BX):AC AF 114 [Am b] (.c (.bool (Ki b.kind b.text))):=by
 have hs:=(kf b hb).1;have h1:=Anm b.text hs;have h2:=AnA b.text hs;have h3:=AnE b.text hs;have h4:=AYB N0 b.text (by decide);have h5:=AjY;unfold maxLen at hs;unfold Ki Am;obtain⟨k,B⟩:=AI b.kind;rw[B];by_cases M:k=2;rw[if_pos M];refine en m8 nv ?_;exact wz (cj2 @B @M n4) (cj h1<|trivial);by_cases Q:k=3;rw[if_neg M,if_pos Q];refine en m8 nv ?_;exact wz (cj2 @B @Q n4) (cj h2<|trivial);by_cases R:k=4;rw[if_neg M,if_neg Q,if_pos R];have e:((b.text.size:Int)<=200)=(b.text.size<=200):=by rw[eq_iff_iff];omega
 by_cases g:b.text.size<=200;rw[decide_eq_true g,Cd];refine en m8 nv ?_;exact wz (cj4 @B @R @e @g n4) (cj h3<|trivial);rw[decide_eq_false g,D4];refine en m8 nv ?_;exact wz (cj4 @B @R @e @g n4) W;by_cases q:k=10;rw[if_neg M,if_neg Q,if_neg R,if_pos q];refine en m8 nv ?_;exact wz (cj2 @B @q n4) (cj2 h5 h4 W);by_cases S:k=11;rw[if_neg M,if_neg Q,if_neg R,if_neg q,if_pos S];by_cases g:b.text.size=2;obtain⟨c0,c1,c2,c3,c4,_⟩:=o5 (s:=b.text) (k:=0) (by omega);obtain⟨d0,d1,d2,d3,d4,_⟩:=o5 (s:=b.text) (k:=1) (by omega);have hR:FC (Lq RX) b.text=(Lq RX c0.toNat && Lq RX d0.toNat):=by
  unfold FC;rw[B9]at c3;rw[c3,d3,ACW (by omega),Ep,Ep,Nq,Km]
 rw[decide_eq_true g,Cd,hR];have z:(b.text.size:Int)=2:=by omega
 have q1:=AXr RX c0.toNat (by unfold maxLen;decide);have q2:=AXr RX d0.toNat (by unfold maxLen;decide);unfold RX at *
 generalize hX:Lq ⟨#[40,41,91,93,123,125,124,60,62,47,46]⟩ c0.toNat=X at q1 ⊢;cases X with
 | true=>refine en m8 nv ?_;exact wz (cj7 @B @S @z @c1 @c2 @d1 @d2 n4) (cj2 q1 q2 W)
 | false=>refine en m8 nv ?_;exact wz (cj7 @B @S @z @c1 @c2 @d1 @d2 n4) (cj q1<|trivial)
 rw[decide_eq_false g,D4];have z : ¬(b.text.size:Int)=2:=by omega
 refine en m8 nv ?_;exact wz (cj3 @B @S @z n4) W;rw[if_neg M,if_neg Q,if_neg R,if_neg q,if_neg S];refine en m8 nv ?_;exact wz (cj6 @B @M @Q @R @q @S n4) W
theorem Am0 (hb:b.BX):AC AF 115 [Am b] (.c (.bool (FL b.kind b.AL (G b.AE)))):=by
 have hs:=(kf b hb).2.1;have Q:=Pc b.AE;unfold maxLen at hs;unfold FL Am;obtain⟨k,M⟩:=AI b.kind;obtain⟨c,B⟩:=AI b.AL;obtain⟨n,hn⟩:=AI (G b.AE);rw[hn]at Q hs;rw[M,B,hn];have e0 : ∀m:Nat,((n:Int)=(m:Int))=(n=m):=λm=>by rw[eq_iff_iff];omega
 have e1:((n:Int)=1)=(n=1):=e0 1;have e2:((n:Int)=2)=(n=2):=e0 2;have e3:((n:Int)=3)=(n=3):=e0 3;have e4:((n:Int)<=200)=(n<=200):=by rw[eq_iff_iff];omega
 have e5:((n:Int)<=256)=(n<=256):=by rw[eq_iff_iff];omega
 have e6:((1:Int)<=(n:Int))=(1<=n):=by rw[eq_iff_iff];omega
 by_cases m6:k=12;rw[if_pos m6];by_cases g1:1<=c;by_cases g2:c<=16;rw[decide_eq_true g1,decide_eq_true g2,Cd,Cd];by_cases g3:1<=n;by_cases g4:n<=256;rw[decide_eq_true g3,decide_eq_true g4,Cd,Cd];have R : ¬c=0:=by omega
 have w0:AZ.wrap ((n:Int).tmod c)=(n:Int).tmod c:=by
  have h1:=Sl c (show (0:Int)<=(n:Int)by omega);have h2:=aG (n:Int) (show (0:Int)<c by omega);exact Ac
 refine en nA Tu ?_;exact wz (cj9 @M @B @Q @m6 @g1 @g2 @e5 @e6 @g3<|cj3 @g4 @R @w0 NA) W;rw[decide_eq_true g3,decide_eq_false g4,Cd,D4];refine en nA Tu ?_;exact wz (cj9 @M @B @Q @m6 @g1 @g2 @e5 @e6 @g3<|cj @g4 NA) W;rw[decide_eq_false g3,D4];refine en nA Tu ?_;exact wz (cj9 @M @B @Q @m6 @g1 @g2 @e5 @e6 @g3 NA) W;rw[decide_eq_true g1,decide_eq_false g2,Cd,D4];refine en nA Tu ?_;exact wz (cj6 @M @B @Q @m6 @g1 @g2 NA) W;rw[decide_eq_false g1,D4];refine en nA Tu ?_;exact wz (cj5 @M @B @Q @m6 @g1 NA) W;rw[if_neg m6];by_cases R:c=0;rw[if_neg (by omega)];by_cases k1:k=1;rw[if_pos k1];refine en nA Tu ?_;exact wz (cj6 @M @B @Q @k1 @R @e4 NA) W;rw[if_neg k1];by_cases q:k=2\/k=3\/k=4;rw[if_pos q];refine en nA Tu ?_;rcases q with q|q|q
 exact wz (cj5 @M @B @Q @q @R NA) W;exact wz (cj5 @M @B @Q @q @R NA) W;exact wz (cj5 @M @B @Q @q @R NA) W;rw[if_neg q];by_cases S:k=5\/k=6\/k=7\/k=8;rw[if_pos S];refine en nA Tu ?_;rcases S with S|S|S|S
 exact wz (cj6 @M @B @Q @S @R @e2 NA) W;exact wz (cj6 @M @B @Q @S @R @e2 NA) W;exact wz (cj6 @M @B @Q @S @R @e2 NA) W;exact wz (cj6 @M @B @Q @S @R @e2 NA) W;rw[if_neg S];by_cases k9:k=9;rw[if_pos k9];refine en nA Tu ?_;exact wz (cj6 @M @B @Q @k9 @R @e3 NA) W;rw[if_neg k9];by_cases z:k=10\/k=11;rw[if_pos z];refine en nA Tu ?_;rcases z with z|z
 exact wz (cj6 @M @B @Q @z @R @e1 NA) W;exact wz (cj6 @M @B @Q @z @R @e1 NA) W;rw[if_neg z];simp only[not_or]at q S z;obtain⟨x1,x2,x3⟩:=q;obtain⟨y1,y2,y3,y4⟩:=S;obtain⟨z1,z2⟩:=z;refine en nA Tu ?_;exact wz (cj9 @M @B @Q @m6 @R @k1 @x1 @x2 @x3<|cj7 @y1 @y2 @y3 @y4 @k9 @z1 @z2 NA) W;rw[if_pos R];refine en nA Tu ?_;exact wz (cj5 @M @B @Q @m6 @R NA) W
theorem AjH : ∀(l:List Nd) (k:Nat) (b:Nd),l[k]?=J b->Nd.Az (l.take (k+1))=Nd.Az (l.take k)+b.cnt
 | [],_,_,h=>by simp at h
 | x::l,0,b,h=>by simp at h;subst h;simp[Nd.Az]
 | x::l,k+1,b,h=>by simp only[DP,Nd.Az];rw[AjH l k b (by simpa using h)];omega
theorem AjI : ∀(l:List Nd) (k:Nat),Nd.Az (l.take k)<=Nd.Az l
 | [],k=>by simp[Nd.Az]
 | x::l,0=>by simp[Nd.Az]
 | x::l,k+1=>by simp only[DP,Nd.Az];have:=AjI l k;omega
theorem AjK : ∀(l:List Nd) (k:Nat) (b:Nd),l[k]?=J b->Nd.deps (l.take (k+1))=max (Nd.deps (l.take k)) b.BR
 | [],_,_,h=>by simp at h
 | x::l,0,b,h=>by simp at h;subst h;simp[Nd.deps]
 | x::l,k+1,b,h=>by simp only[DP,Nd.deps];rw[AjK l k b (by simpa using h)];omega
theorem AAi {Q:Nd->Prop}(h : ∀b:Nd,(∀k∈b.AE,Q k)->Q b):∀b:Nd,Q b:=by
 have : ∀(n:Nat) (b:Nd),SizeOf.sizeOf b<n->Q b:=by
  intro n;induction n with
  | zero=>intro b B;omega
  | succ n ih =>
    intro b B;refine h b λk M=>ih k ?_
    have:=List.sizeOf_lt_of_mem M;cases b;simp only[Nd.mk.sizeOf_spec]at B this;omega
 exact λb=>this _ b (AC6 _)
theorem AmG : ∀b:Nd,b.cnt<=100000->AC AF 63 [Am b] (.c (.int .i64 (b.cnt:Int))):=AAi λb ih hc=>by
 have S:=Pc b.AE;have Ce:=SH b.AE;have FN:=Tm b;obtain⟨z,R⟩:=AI (Nd.AG b.AE);rw[R]at S;unfold Am;rw[FN];refine en func63 ntmps63 ?_;refine wy (cj2 @R @S ki) trivial ⟨?_⟩;refine lp (ι:={ k:Nat // k<=G b.AE }) (λk=>[(2,.c (.int .i64 0)),(3,.c (.int .i64 (1+(Nd.Az (b.AE.take k.1):Int)))),(4,.c (.int .i64 (k.1:Int)))]) (λ_=>[.box 33 b.vs U]) (λk=>G b.AE - k.1) ⟨0,by simp⟩ ?_ ?_;all_goals simp only[CG,Bw,CO,Ag,Ai]
 exact ER (cj @Nd.Az.eq_1<|@Nd.Az.eq_2);rintro ⟨k,hk⟩;simp only;by_cases M:k<G b.AE;obtain⟨c,B⟩:∃c,b.AE[k]?=J c:=⟨_,BE M⟩
 have q:z[k]?=J c.row:=by rw[<-R];exact XG B
 have Dp:k<G z:=by omega
 have Bu:=gx q;have ht:=AjH b.AE k c B;have A0:=AjI b.AE (k+1);have Q:=ih c (Cj B) (by omega);unfold Am at Q;have w1:AZ.wrap (1+(Nd.Az (b.AE.take k):Int)+(c.cnt:Int))=1+(Nd.Az (b.AE.take (k+1)):Int):=by rw[Ac,ht];omega
 refine wy (cj7 @R @S @M @Dp @q @Bu @w1 ki) (cj Q<|trivial) ⟨?_⟩;exact⟨⟨k+1,by omega⟩,by simp only;omega,wd 1⟩;have e:b.AE.take k=b.AE:=Gl (by omega);rw[e];exact wz (cj3 @R @S @M ki) W
theorem Ams : ∀b:Nd,b.cnt<=100000->AC AF 64 [Am b] (.c (.int .i64 (b.BR:Int))):=AAi λb ih hc=>by
 have S:=Pc b.AE;have Ce:=SH b.AE;have FN:=Tm b;have Ls:=AjJ _ b (AC6 _);obtain⟨rs,R⟩:=AI (Nd.AG b.AE);rw[R]at S;unfold Am;have qW:=ke b;have q:AZ.wrap ((Nd.deps b.AE:Int)+1)=(b.BR:Int):=by rw[Ac];omega
 refine en func64 ntmps64 ?_;refine wy (cj2 @R @S vZ) trivial ⟨?_⟩;refine lp (ι:={ k:Nat // k<=G b.AE }) (λk=>[(2,.c (.int .i64 0)),(3,.c (.int .i64 (Nd.deps (b.AE.take k.1):Int))),(4,.c (.int .i64 (k.1:Int)))]) (λ_=>[.box 33 b.vs U]) (λk=>G b.AE - k.1) ⟨0,by simp⟩ ?_ ?_;all_goals simp only[CG,Bw,CO,Ag,Ai]
 exact ER (cj @Nd.deps.eq_1<|@Nd.deps.eq_2);rintro ⟨k,hk⟩;simp only;by_cases M:k<G b.AE;obtain⟨c,B⟩:∃c,b.AE[k]?=J c:=⟨_,BE M⟩
 have z:rs[k]?=J c.row:=by rw[<-R];exact XG B
 have Dp:k<G rs:=by omega
 have Bu:=gx z;have ht:=AjK b.AE k c B;have FX:=AjG b.AE k c B;have Q:=ih c (Cj B) (by omega);unfold Am at Q;generalize hD:Nd.deps (b.AE.take k)=D at ht ⊢;have w1:(if D<c.BR then(c.BR:Int)else(D:Int))=(Nd.deps (b.AE.take (k+1)):Int):=by rw[ht];split<;>omega
 refine wy (cj7 @R @S @M @Dp @z @Bu @w1 vZ) (cj Q<|trivial) ⟨?_⟩;exact⟨⟨k+1,by omega⟩,by simp only;omega,wd 1⟩;have e:b.AE.take k=b.AE:=Gl (by omega);rw[e];exact wz (cj4 @R @S @M @q vZ) W
theorem AXs : ∀b:Nd,∀m:Int,b.BX->0<=m->m<=100000->AC AF 36 [Am b,.c (.int .i64 m)] (.c (.int .i64 (b.Qb m))):=AAi λb ih m A5 hm FP=>by
 obtain⟨_,A0,rA⟩:=kf b A5;have hl:=Pc b.AE;have hA:b.Qb m=Nd.OO b.AE (m - 1):=by cases b;rfl
 obtain⟨R,hR⟩:=AI (Nd.OO b.AE (m - 1));rw[hA,hR];obtain⟨rs,S⟩:=AI (Nd.AG b.AE);rw[S]at hl;unfold Am;unfold maxLen at A0;refine en func36 ntmps36 ?_;refine wy (cj2 @S @hl aW) trivial ⟨?_⟩;refine lp (ι:={ k:Nat×Int // k.1<=G b.AE/\ -1<=k.2/\k.2<=100000/\R=Nd.OO (b.AE.drop k.1) k.2 }) (λk=>[(1,.c (.int .i64 k.1.2)),(4,.c (.int .i64 0)),(5,.c (.int .i64 (k.1.1:Int)))]) (λ_=>[.box 33 b.vs U]) (λk=>G b.AE - k.1.1) ⟨(0,m - 1),by simp,by simp only;omega,by simp only;omega,by simp[hR]⟩ ?_ ?_;all_goals simp only[CG,Bw,CO,Ag,Ai]
 exact DH;rintro ⟨⟨k,n⟩,hk,n1,n2,Q⟩;simp only at hk n1 n2 Q ⊢;by_cases B:k<G b.AE;obtain⟨c,M⟩:∃c,b.AE[k]?=J c:=⟨_,BE B⟩
 have A9:rs[k]?=J c.row:=by rw[<-S];exact XG M
 have Dp:k<G rs:=by omega
 have Bu:=gx A9;rw[D5 B,gx M]at Q;simp only[Nd.OO]at Q;by_cases q:0<=n;rw[if_pos q]at Q;have z:=ih c (Cj M) n (di rA c (Cj M)) q n2;have Iq:=AAX c n q;unfold Am at z;refine wy (cj7 @S @hl @B @Dp @A9 @Bu @q aW) (cj z<|trivial) ⟨?_⟩;exact⟨⟨(k+1,c.Qb n),by simp only;omega,by simp only;omega,by simp only;omega,Q⟩,by simp only;omega,wd 1⟩;rw[if_neg q]at Q;exact wz (cj5 @S @hl @B @Dp @q aW) W;rw[FA (by omega)]at Q;simp only[Nd.OO]at Q;exact wz (cj3 @S @hl @B aW) W
theorem AXo (m:Int)(M:b.BX)(B:0<=m)(Q:m<=100000):AC AF 17 [Am b,.c (.int .i64 m)] (.c (.bool (decide ((b.cnt:Int)<=m)))):=by
 have h:=AXs b m M B Q;rw[<-AUh b m B];unfold Am at h ⊢;refine en func17 ntmps17 ?_;exact wz results17 (cj h<|trivial)
theorem Amv : ∀b:Nd,b.BX->AC AF 62 [Am b] (.c (.bool b.Jb)):=AAi λb ih A5=>by
 obtain⟨_,A0,rA⟩:=kf b A5;have hl:=Pc b.AE;have ht:=Ann b A5;have z:=Am0 b A5;rw[dg];unfold Nd.Cl;obtain⟨K,hK⟩:=AI b.kind;obtain⟨rs,S⟩:=AI (Nd.AG b.AE);rw[S]at hl;unfold Am at ht z ⊢;unfold maxLen at A0;cases e1:Ki b.kind b.text with
 | false=>rw[e1]at ht;refine en func62 ntmps62 ?_;exact wz c8 (cj ht<|trivial)
 | true =>
 rw[e1]at ht;cases e2:FL b.kind b.AL (G b.AE) with
 | false=>rw[e2]at z;refine en func62 ntmps62 ?_;exact wz c8 (cj2 ht z W)
 | true =>
 rw[e2]at z;rw[Cd,Cd];rw[hK];refine en func62 ntmps62 ?_;refine wy (cj2 @S @hl c8) (cj2 ht z W) ⟨?_⟩;refine lp (ι:={ k:Nat // k<=G b.AE/\Nd.MY K b.AE=Nd.MY K (b.AE.drop k) }) (λk=>[(2,.c (.bool U)),(3,.c (.int .i64 (k.1:Int)))]) (λ_=>[.box 33 b.vs U]) (λk=>G b.AE - k.1) ⟨0,by simp⟩ ?_ ?_;all_goals simp only[CG,Bw,CO,Ag,Ai]
 exact DH;rintro ⟨k,z,Q⟩;simp only;by_cases B:k<G b.AE;obtain⟨c,R⟩:∃c,b.AE[k]?=J c:=⟨_,BE B⟩
 have A9:rs[k]?=J c.row:=by rw[<-S];exact XG R
 have Dp:k<G rs:=by omega
 have Bu:=gx A9;rw[D5 B,gx R]at Q;simp only[Nd.MY]at Q;have M:=ih c (Cj R) (di rA c (Cj R));unfold Am at M;cases q:Pa K c.kind with
 | true=>rw[q,Bool.not_true,D4,D4]at Q;unfold Pa at q;exact wz (cj8 @S @hl @B @Dp @A9 @Bu @hK @q c8) W
 | false =>
   rw[q,Bool.not_false,Cd]at Q;unfold Pa at q;cases ef:c.Jb with
   | true=>rw[ef,Cd]at Q;rw[ef]at M;refine wy (cj8 @S @hl @B @Dp @A9 @Bu @hK @q c8) (cj M<|trivial) ⟨?_⟩;exact⟨⟨k+1,by omega,Q⟩,by simp only;omega,wd 1⟩
   | false=>rw[ef,D4]at Q;rw[ef]at M;exact wz (cj8 @S @hl @B @Dp @A9 @Bu @hK @q c8) (cj M<|trivial)
 rw[FA (by omega)]at Q;simp only[Nd.MY]at Q;exact wz (cj3 @S @hl @B c8) W
theorem Ajx (z:b.BX)(q:b.cnt<=100000):AC AF 27 [Am b] (.c (.bool b.Ad)):=by
 have M:=Amv b z;have S:=AmG b q;have h3:=Ams b q;unfold Nd.Ad;have Q:((b.cnt:Int)<=1000)=(b.cnt<=1000):=by rw[eq_iff_iff];omega
 have R:((b.BR:Int)<=24)=(b.BR<=24):=by rw[eq_iff_iff];omega
 unfold Am at *
 by_cases B:b.kind=1;rw[decide_eq_true B,Cd];generalize hF:b.Jb=F at M ⊢;cases F with
 | false=>refine en AQe ARJ ?_;exact wz (cj @B<|ASF) (cj M<|trivial)
 | true =>
   rw[Cd];by_cases g:b.cnt<=1000;rw[decide_eq_true g,Cd];refine en AQe ARJ ?_;exact wz (cj4 @B @Q @R @g ASF) (cj3 M S h3 W);rw[decide_eq_false g,D4];refine en AQe ARJ ?_;exact wz (cj4 @B @Q @R @g ASF) (cj2 M S W)
 rw[decide_eq_false B,D4];refine en AQe ARJ ?_;exact wz (cj @B<|ASF) W
def Dd (l:List Nd):Nd:=⟨1,⟨#[]⟩,0,l⟩
theorem AYC :AC AF 14 [.c (.sl (Nd.AG l))] (Am (Dd l)):=by
 have e:Am (Dd l)=.agg [.c (.int .i64 1),.c (.str ⟨#[]⟩),.c (.int .i64 0),.c (.sl (Nd.AG l))]:=F;rw[e];refine en func14 ntmps14 ?_;exact wz results14 W
theorem Ajy (B:(Dd l).BX)(R:(Dd l).cnt<=100000):AC AF 34 [.c (.sl (Nd.AG l))] (.c (.bool (Dd l).Ad)):=by
 have M:=AYC l;have Q:=Ajx (Dd l) B R;unfold Am at *
 refine en func34 ntmps34 ?_;exact wz results34 (cj2 M Q W)
def JG (n:Nat):List V:=rU++[.c (.int .i64 (n:Int))]
@[simp] theorem AbX :G (JG n)=40:=F
@[simp] theorem AbV :(JG n)[39]?=J (.c (.int .i64 (n:Int))):=F
@[simp] theorem AbZ (h:39<G (JG n)):(JG n)[39]'h=.c (.int .i64 (n:Int)):=F
@[simp] theorem AbY (m:Nat):(JG n).set 39 (.c (.int .i64 (m:Int)))=JG m:=F
@[simp] theorem pM :V.Dj 0 (JG n)=J (JG n):=F
@[simp] theorem AEs :V.Pn (JG n)=true:=F
def kR (k c:Int)(n:Nat)(sl:Nat):Bool:=
 if k=1 then decide (c=0) && decide (n<=200)
 else if k=12 then decide (1<=c) && (decide (c<=16) && (decide (1<=n) && (decide (n<=256) && decide ((n:Int).tmod c=0))))
 else decide (c=0) && decide (n=sl)
theorem QZ {c:Int}{n R:Nat}(q:(k≠1/\k≠12)->FL (k:Int) c n=(decide (c=0) && decide (n=R))):kR k c n R=FL k c n:=by
 unfold kR;by_cases M:k=1;subst M;have e:((1:Nat):Int)=1:=F;have S : ¬((1:Nat):Int)=12:=by decide
 rw[if_pos e];unfold FL;rw[if_neg S];by_cases B:c=0;rw[decide_eq_true B,Cd,if_neg (λh=>h B),if_pos e];rw[decide_eq_false B,D4,if_pos B];rw[if_neg (by omega)];by_cases Q:k=12;subst Q;have e:((12:Nat):Int)=12:=F;rw[if_pos e];unfold FL;rw[if_pos e];rw[if_neg (by omega),q ⟨M,Q⟩]
theorem Tg {c:Int}{n:Nat}(M:k≠12):FL k c n=(decide (c=0) && FL k 0 n):=by
 have e : ¬(k:Int)=12:=by omega
 by_cases B:c=0;subst B;simp;rw[decide_eq_false B,D4];unfold FL;rw[if_neg e,if_pos B]
theorem ATs (k:Nat)(S:1<=k)(q:k<=12)(s:ByteArray)(Q:s.size<=maxLen)(n:Nat):∃(g:FuncId) (R:Nat),(JG n)[k*3+2]?=J (.fn g [])/\(JG n)[k*3+1]?=J (.c (.int .i64 (R:Int)))/\Fp AF g=I/\AC AF g [.c (.str s)] (.c (.bool (Ki k s)))/\∀c m,kR k c m R=FL k c m:=by
 have M:=AV7 s;have B : ∀k:Int,k≠2->k≠3->k≠4->k≠10->k≠11->Ki k s=decide (s=⟨#[]⟩):=λk a b c d e=>by unfold Ki;rw[if_neg a,if_neg b,if_neg c,if_neg d,if_neg e]
 match k,S,q with
 | 1,_,_=>exact⟨_,0,F,F,by kernel_rfl,by rw[B _ (by decide) (by decide) (by decide) (by decide) (by decide)];exact M,λc m=>QZ λh=>absurd rfl h.1⟩
 | 2,_,_=>exact⟨_,0,F,F,by kernel_rfl,AWo s Q,λc m=>QZ λh=>Tg (by decide)⟩
 | 3,_,_=>exact⟨_,0,F,F,by kernel_rfl,AWn s Q,λc m=>QZ λh=>Tg (by decide)⟩
 | 4,_,_=>exact⟨_,0,F,F,by kernel_rfl,AW5 s Q,λc m=>QZ λh=>Tg (by decide)⟩
 | 5,_,_=>exact⟨_,2,F,F,by kernel_rfl,by rw[B _ (by decide) (by decide) (by decide) (by decide) (by decide)];exact M,λc m=>QZ λh=>Tg (by decide)⟩
 | 6,_,_=>exact⟨_,2,F,F,by kernel_rfl,by rw[B _ (by decide) (by decide) (by decide) (by decide) (by decide)];exact M,λc m=>QZ λh=>Tg (by decide)⟩
 | 7,_,_=>exact⟨_,2,F,F,by kernel_rfl,by rw[B _ (by decide) (by decide) (by decide) (by decide) (by decide)];exact M,λc m=>QZ λh=>Tg (by decide)⟩
 | 8,_,_=>exact⟨_,2,F,F,by kernel_rfl,by rw[B _ (by decide) (by decide) (by decide) (by decide) (by decide)];exact M,λc m=>QZ λh=>Tg (by decide)⟩
 | 9,_,_=>exact⟨_,3,F,F,by kernel_rfl,by rw[B _ (by decide) (by decide) (by decide) (by decide) (by decide)];exact M,λc m=>QZ λh=>Tg (by decide)⟩
 | 10,_,_=>exact⟨_,1,F,F,by kernel_rfl,AJF s,λc m=>QZ λh=>Tg (by decide)⟩
 | 11,_,_=>exact⟨_,1,F,F,by kernel_rfl,AWm s,λc m=>QZ λh=>Tg (by decide)⟩
 | 12,_,_=>exact⟨_,0,F,F,by kernel_rfl,by rw[B _ (by decide) (by decide) (by decide) (by decide) (by decide)];exact M,λc m=>QZ λh=>absurd rfl h.2⟩
theorem AVm {b:Nd}(h:b.kind<1\/12<b.kind):b.Cl=false:=by
 unfold Nd.Cl;have e:FL b.kind b.AL (G b.AE)=false:=by
  unfold FL;generalize z:b.kind=k at h ⊢;have B : ¬k=12:=by omega
  have M : ¬k=1:=by omega
  have Q : ¬(k=2\/k=3\/k=4):=by omega
  have R : ¬(k=5\/k=6\/k=7\/k=8):=by omega
  have S : ¬k=9:=by omega
  have q : ¬(k=10\/k=11):=by omega
  rw[if_neg B,if_neg M,if_neg Q,if_neg R,if_neg S,if_neg q];split<;>rfl
 rw[e,LV]
theorem AWu (A5:b.BX):AY AF 84 [.ptr 0 0,.cp b.row 0] 84 (JG n) (JG n) (.c (.bool b.Cl)):=by
 obtain⟨FK,zT,_⟩:=kf b A5;have R:=Pc b.AE;obtain⟨rs,S⟩:=AI (Nd.AG b.AE);rw[S]at R;obtain⟨m,hm⟩:=AI (G b.AE);rw[hm]at R zT;unfold maxLen at zT;by_cases hr:b.kind<1\/12<b.kind
 . rw[AVm hr];refine AY.intro func84 rfl ?_;simp only[ntmps84,Ap,BB,BA,BO,Nat.reduceAdd,Nat.reduceSub,BY,Cy,BK,BU];rcases hr with hr|hr
   . have B:=(cj @hr<|L2)
     have M:=W;repeat any_goals (first|refine Du B M ⟨?_⟩|exact Bt B|(refine Dv B ?_ ?_<;>intro h<;>try exact Dw))
     all_goals simp[GI,DV,C0,DE,V.CP,V.CF,CJ,L2, *]
   . have PS : ¬b.kind<1:=by omega
     have B:=(cj2 @hr @PS L2)
     have M:=W;repeat any_goals (first|refine Du B M ⟨?_⟩|exact Bt B|(refine Dv B ?_ ?_<;>intro h<;>try exact Dw))
     all_goals simp[GI,DV,C0,DE,V.CP,V.CF,CJ,L2, *]
 . obtain⟨k,hk⟩:∃k:Nat,b.kind=(k:Int):=⟨b.kind.toNat,by omega⟩
   obtain⟨g,sl,f2,f1,Rl,q,QP⟩:=ATs k (by omega) (by omega) b.text FK n;have hO:b.Cl=(Ki k b.text && kR k b.AL m sl):=by unfold Nd.Cl;rw[hk,hm,QP]
   rw[hO];clear QP hO;have k1 : ¬(k:Int)<1:=by omega
   have k2 : ¬(12:Int)<(k:Int):=by omega
   have k3:(k:Int)<13:=by omega
   have k4:k<13:=by omega
   generalize A1:Ki k b.text=TB at q ⊢;obtain⟨c,z⟩:=AI b.AL;rw[z];refine AY.intro func84 rfl ?_;simp only[ntmps84,Ap,BB,BA,BO,Nat.reduceAdd,Nat.reduceSub,BY,Cy,BK,BU];cases TB with
   | false =>
     have B:=(cj9 @hk @k1 @k2 @k3 @k4 @f1 @f2 @Rl @S<|cj2 @R @z L2)
     have M:=(cj q<|trivial)
     repeat any_goals (first|refine Du B M ⟨?_⟩|exact Bt B|(refine Dv B ?_ ?_<;>intro h<;>try exact Dw))
     all_goals simp[GI,DV,C0,DE,V.CP,V.CF,CJ,L2, *]
   | true =>
     rw[Cd];unfold kR;by_cases q1:k=1
     . have Q:(k:Int)=1:=by omega
       rw[if_pos Q];have A0:((k:Int)=1)↔True:=⟨λ_=>trivial,λ_=>Q⟩
       have e4:((m:Int)<=200)=(m<=200):=by rw[eq_iff_iff];omega
       have B:=(cj9 @hk @k1 @k2 @k3 @k4 @f1 @f2 @Rl @S<|cj4 @R @z @A0 @e4 L2)
       have M:=(cj q<|trivial)
       repeat any_goals (first|refine Du B M ⟨?_⟩|exact Bt B|(refine Dv B ?_ ?_<;>intro h<;>try exact Dw))
       all_goals simp[GI,DV,C0,DE,V.CP,V.CF,CJ,L2, *]
     . have Q : ¬(k:Int)=1:=by omega
       rw[if_neg Q];by_cases q2:k=12
       . have lA:(k:Int)=12:=by omega
         rw[if_pos lA];have xx:((k:Int)=12)↔True:=⟨λ_=>trivial,λ_=>lA⟩
         have e5:((m:Int)<=256)=(m<=256):=by rw[eq_iff_iff];omega
         have e6:((1:Int)<=(m:Int))=(1<=m):=by rw[eq_iff_iff];omega
         by_cases g1:1<=c
         . by_cases g2:c<=16
           . have c0 : ¬c=0:=by omega
             have w0:AZ.wrap ((m:Int).tmod c)=(m:Int).tmod c:=by
              have h1:=Sl c (show (0:Int)<=(m:Int)by omega);have h2:=aG (m:Int) (show (0:Int)<c by omega);exact Ac
             rw[decide_eq_true g1,decide_eq_true g2,Cd,Cd];have B:=(cj9 @hk @k1 @k2 @k3 @k4 @f1 @f2 @Rl @S<|cj9 @R @z @Q @xx @e5 @e6 @g1 @g2 @c0<|cj @w0 L2)
             have M:=(cj q<|trivial)
             repeat any_goals (first|refine Du B M ⟨?_⟩|exact Bt B|(refine Dv B ?_ ?_<;>intro h<;>try exact Dw))
             all_goals simp[GI,DV,C0,DE,V.CP,V.CF,CJ,L2, *]
           . rw[decide_eq_true g1,decide_eq_false g2,Cd,D4];have B:=(cj9 @hk @k1 @k2 @k3 @k4 @f1 @f2 @Rl @S<|cj8 @R @z @Q @xx @e5 @e6 @g1 @g2 L2)
             have M:=(cj q<|trivial)
             repeat any_goals (first|refine Du B M ⟨?_⟩|exact Bt B|(refine Dv B ?_ ?_<;>intro h<;>try exact Dw))
             all_goals simp[GI,DV,C0,DE,V.CP,V.CF,CJ,L2, *]
         . rw[decide_eq_false g1,D4];have B:=(cj9 @hk @k1 @k2 @k3 @k4 @f1 @f2 @Rl @S<|cj7 @R @z @Q @xx @e5 @e6 @g1 L2)
           have M:=(cj q<|trivial)
           repeat any_goals (first|refine Du B M ⟨?_⟩|exact Bt B|(refine Dv B ?_ ?_<;>intro h<;>try exact Dw))
           all_goals simp[GI,DV,C0,DE,V.CP,V.CF,CJ,L2, *]
       . have lA : ¬(k:Int)=12:=by omega
         rw[if_neg lA];have e7:((m:Int)=(sl:Int))=(m=sl):=by rw[eq_iff_iff];omega
         have B:=(cj9 @hk @k1 @k2 @k3 @k4 @f1 @f2 @Rl @S<|cj5 @R @z @Q @lA @e7 L2)
         have M:=(cj q<|trivial)
         repeat any_goals (first|refine Du B M ⟨?_⟩|exact Bt B|(refine Dv B ?_ ?_<;>intro h<;>try exact Dw))
         all_goals simp[GI,DV,C0,DE,V.CP,V.CF,CJ,L2, *]
@[simp] theorem AbW (k n:Nat):V.BI k (JG n)=true:=F
theorem AWs (A5:b.BX)(M c:Nat)(hd:M<=25)(hc:c+b.cnt<=1000000)(ih : ∀k∈b.AE,∀(M c:Nat),M<=25->c+k.cnt<=1000000->AY AF 41 [.ptr 0 0,.cp k.row 0,.c (.int .i64 (M:Int))] 84 (JG c) (JG (k.pv M c).2) (.c (.bool (k.pv M c).1))):AY AF 41 [.ptr 0 0,.cp b.row 0,.c (.int .i64 (M:Int))] 84 (JG c) (JG (b.pv M c).2) (.c (.bool (b.pv M c).1)):=by
 have FX:=Tm b;have Ce:=SH b.AE;have z:=AWu b (c+1) A5;have hl:=Pc b.AE;obtain⟨rs,Aw⟩:=AI (Nd.AG b.AE);rw[Aw]at hl;have hR:b.pv M c=if 1000<c+1\/24<M\/b.Cl=U then(U,c+1)else Nd.HU (M+1) b.kind b.AE (c+1):=by cases b;rw[Nd.pv];rfl
 generalize qR:b.Cl=OB at z hR;have A0:AZ.wrap ((c:Int)+1)=((c+1:Nat):Int):=by rw[Ac];simp
 generalize A2:c+1=C1 at A0 z hR;obtain⟨K,hK⟩:=AI b.kind;rw[hK]at hR;have e1:((1000:Int)<(C1:Int))=(1000<C1):=by rw[eq_iff_iff];omega
 have e2:((24:Int)<(M:Int))=(24<M):=by rw[eq_iff_iff];omega
 rw[hR];by_cases h1:1000<C1
 . rw[if_pos (.inl h1)];refine AY.intro AK6 rfl ?_;simp only[ntmps41,Ap,BB,BA,BO,Nat.reduceAdd,Nat.reduceSub,BY,Cy,BK,BU];have B:=(cj3 @A0 @e1 @h1 L1)
   have R:=W;repeat any_goals (first|refine Du B R ⟨?_⟩|exact Bt B|(refine Dv B ?_ ?_<;>intro h<;>try exact Dw))
   all_goals simp[GI,DV,C0,DE,V.CP,V.CF,CJ,L1, *]
 by_cases h2:24<M
 . rw[if_pos (.inr (.inl h2))];refine AY.intro AK6 rfl ?_;simp only[ntmps41,Ap,BB,BA,BO,Nat.reduceAdd,Nat.reduceSub,BY,Cy,BK,BU];have B:=(cj5 @A0 @e1 @e2 @h1 @h2 L1)
   have R:=W;repeat any_goals (first|refine Du B R ⟨?_⟩|exact Bt B|(refine Dv B ?_ ?_<;>intro h<;>try exact Dw))
   all_goals simp[GI,DV,C0,DE,V.CP,V.CF,CJ,L1, *]
 refine AY.intro AK6 rfl ?_;simp only[ntmps41,Ap,BB,BA,BO,Nat.reduceAdd,Nat.reduceSub,BY,Cy,BK,BU];have B:=(cj @A0<|L1)
 repeat any_goals (first|refine Qu (.mk 2) ?_|exact Bt B|refine De B ?_|refine DI B ?_|((first|refine JC B ?_ ?_|refine JE B ?_ ?_|refine JD B ?_ ?_|refine JY B ?_ ?_)<;>intro h<;>try (exfalso;first|omega|contradiction)))
 refine AW.DA ?_;refine CY (.mk 12) (cj3 @e1 @e2 @h1 @h2) ?_;refine SW.V9 0 z func84 (by kernel_rfl) (by kernel_rfl) (by simp[BQ]) (by simp[C7];first|exact rfl|exact⟨F,F⟩) (by simp[V.Dj,V.Di];try exact rfl) (by rfl) (pM _) (pM _) (AEs _) ?_;simp only[St.step,St.put,Bk,BA,BO,Nat.reduceAdd,Nat.reduceLT,if_true,Ai,Ag];cases OB with
 | false =>
   rw[if_pos (.inr (.inr F))];refine CY (.mk 2) trivial ?_;refine SW.nil ?_;have B:=(L1)
   have R:=W;repeat any_goals (first|refine Du B R ⟨?_⟩|exact Bt B|(refine Dv B ?_ ?_<;>intro h<;>try exact Dw))
   all_goals simp[GI,DV,C0,DE,V.CP,V.CF,CJ,L1, *]
 | true =>
   rw[if_neg (by rintro (h|h|h)<;>first|omega|cases h)];refine CY (.mk 2) trivial ?_;refine SW.nil ?_;have A1:AZ.wrap ((M:Int)+1)=((M+1:Nat):Int):=by rw[Ac];simp
   obtain⟨Q,hQ⟩:=AI (Nd.HU (M+1) K b.AE C1);rw[hQ];have B:=(cj2 @Aw @hl L1)
   have R:=W;repeat any_goals (first|refine Du B R ⟨?_⟩|exact Bt B|(refine Dv B ?_ ?_<;>intro h<;>try exact Dw))
   refine lp (ι:={ k:Nat×Nat // k.1<=G b.AE/\k.2+Nd.Az (b.AE.drop k.1)<=1000000/\Q=Nd.HU (M+1) K (b.AE.drop k.1) k.2 }) (λk=>[(35,.c (.int .i64 (k.1.1:Int))),(6,.c (.bool U))]) (λk=>[.box 84 (JG k.1.2) U]) (λk=>G b.AE - k.1.1) ⟨(0,C1),by simp,by simp;omega,by simp[hQ]⟩ ?_ ?_;all_goals simp only[CG,Bw,CO,Ag,Ai]
   exact DH
   . rintro ⟨⟨j,n⟩,hj,hb,S⟩;simp only at hj hb S ⊢;by_cases q:j<G b.AE
     . obtain⟨k,EC⟩:∃k,b.AE[j]?=J k:=⟨_,BE q⟩
       have A9:rs[j]?=J k.row:=by rw[<-Aw];exact XG EC
       have Dp:j<G rs:=by omega
       have Bu:=gx A9;rw[D5 q,gx EC]at S hb;simp only[Nd.Az]at hb;simp only[Nd.HU]at S;have VF:=ih k (Cj EC) (M+1) n (by omega) (by omega);have KE:=(AAj (M+1) k n).1;have hw:AZ.wrap ((j:Int)+1)=((j+1:Nat):Int):=by rw[Ac];simp
       obtain⟨⟨r,n'⟩,hr⟩:=AI (Nd.pv (M+1) k n);rw[hr]at VF S KE;simp only at VF S KE;obtain⟨D,hD⟩:∃D:Int,((M+1:Nat):Int)=D:=⟨_,rfl⟩
       rw[hD]at VF A1;cases em:Pa K k.kind with
       | true =>
         rw[em,if_pos rfl]at S;have xT:(decide (K=1)==decide (k.kind=1))=true:=by unfold Pa at em;rw[<-em];cases decide (K=1)<;>cases decide (k.kind=1)<;>rfl
         have B:=(cj9 @Aw @hl @q @Dp @A9 @Bu @hK @xT @S L1)
         have R:=W;repeat any_goals (first|refine Du B R ⟨?_⟩|exact Bt B|(refine Dv B ?_ ?_<;>intro h<;>try exact Dw))
         all_goals simp[GI,DV,C0,DE,V.CP,V.CF,CJ,L1, *]
       | false =>
         rw[em,if_neg (by simp)]at S;have xT:(decide (K=1)==decide (k.kind=1))=false:=by unfold Pa at em;rw[<-em];cases decide (K=1)<;>cases decide (k.kind=1)<;>rfl
         have B:=(cj7 @Aw @hl @q @Dp @A9 @Bu @hK L1)
         repeat any_goals (first|refine Qu (.mk 7) ?_|exact Bt B|refine De B ?_|refine DI B ?_|((first|refine JC B ?_ ?_|refine JE B ?_ ?_|refine JD B ?_ ?_|refine JY B ?_ ?_)<;>intro h<;>try (exfalso;first|omega|contradiction)))
         refine AW.Lm Fz (.inl F) ?_;refine TW.take 25 (Es (by simp[Aw,hl,q,Dp,A9,Bu,hK,xT,A1];first|exact rfl|exact⟨F,F⟩|exact⟨F,F,F⟩) (UZ ?_));simp only[CU,B9];refine TW.V9 0 VF AK6 (by kernel_rfl) (by kernel_rfl) (by simp[BQ]) (by simp[C7];first|exact rfl|exact⟨F,F⟩) (by simp[V.Dj,V.Di];try exact rfl) (by rfl) (pM _) (pM _) (AEs _) ?_;simp only[St.step,St.put,Bk,BA,BO,Nat.reduceAdd,Nat.reduceLT,if_true,Ai,Ag];cases r with
         | false =>
           rw[if_neg (by simp)]at S;refine TW.take 2 (Es (by simp;first|exact rfl|exact⟨F,F⟩|exact⟨F,F,F⟩) (UZ (TW.nil ⟨by kernel_rfl,?_⟩)));have B:=(L1)
           have R:=W;repeat any_goals (first|refine Du B R ⟨?_⟩|exact Bt B|(refine Dv B ?_ ?_<;>intro h<;>try exact Dw))
           all_goals simp[GI,DV,C0,DE,V.CP,V.CF,CJ,L1, *]
         | true =>
           rw[if_pos rfl]at S;refine TW.take 2 (Es (by simp;first|exact rfl|exact⟨F,F⟩|exact⟨F,F,F⟩) (UZ (TW.nil ⟨by kernel_rfl,?_⟩)));have B:=(cj @hw<|L1)
           have R:=W;repeat any_goals (first|refine Du B R ⟨?_⟩|exact Bt B|(refine Dv B ?_ ?_<;>intro h<;>try exact Dw))
           exact⟨⟨(j+1,n'),by simp only;omega,by simp only;omega,S⟩,by simp only;omega,wd 1⟩
     . rw[FA (by omega)]at S;simp only[Nd.HU]at S;have B:=(cj4 @Aw @hl @q @S L1)
       have R:=W;repeat any_goals (first|refine Du B R ⟨?_⟩|exact Bt B|(refine Dv B ?_ ?_<;>intro h<;>try exact Dw))
       all_goals simp[GI,DV,C0,DE,V.CP,V.CF,CJ,L1, *]
theorem AWr : ∀b:Nd,b.BX->∀(B c:Nat),B<=25->c+b.cnt<=1000000->AY AF 41 [.ptr 0 0,.cp b.row 0,.c (.int .i64 (B:Int))] 84 (JG c) (JG (b.pv B c).2) (.c (.bool (b.pv B c).1)):=AAi λb ih M B c S R=>AWs b M B c S R λk Q=>ih k Q (di (kf b M).2.2 k Q)
theorem ABQ (q:b.BX)(hc:b.cnt<=900000):AC AF 20 [Am b] (.c (.bool b.Ad)):=by
 have S:=AWr b q 1 0 (by omega) (by omega);have R:=AWQ;unfold rU at R;unfold Am;by_cases M:b.kind=1
 . rw[<-AUj b M];obtain⟨⟨r,n⟩,z⟩:=AI (b.pv 1 0);rw[z]at S ⊢;simp only at S ⊢;refine en nD nR ?_;have B:=(nf)
   repeat any_goals (first|refine Qu (.mk 2) ?_|exact Bt B|refine De B ?_|refine BV B (R) ?_|refine DI B ?_|((first|refine JC B ?_ ?_|refine JE B ?_ ?_|refine JD B ?_ ?_|refine JY B ?_ ?_)<;>intro h<;>try (exfalso;first|omega|contradiction)))
   refine Cn 0 ?_;refine AW.DA ?_;refine CY (.mk 5) @M ?_;refine SW.V9 1 S AK6 (by kernel_rfl) (by kernel_rfl) (by simp[BQ]) (by simp[C7];first|exact rfl|exact⟨F,F⟩) (by simp[V.Dj,V.Di];try exact rfl) (by rfl) (by rfl) (cs':=JG n) (by rfl) (by rfl) ?_;simp only[St.step,St.put,Bk,BA,BO,Nat.reduceAdd,Nat.reduceLT,if_true,Ai,Ag];refine CY (.mk 2) trivial ?_;refine SW.nil ?_;have B:=(nf)
   have Q:=W;repeat any_goals (first|refine Du B Q ⟨?_⟩|exact Bt B|(refine Dv B ?_ ?_<;>intro h<;>try exact Dw))
 . have e:b.Ad=false:=by unfold Nd.Ad;rw[decide_eq_false M,D4]
   rw[e];refine en nD nR ?_;have B:=(cj @M<|nf)
   have Q:=(cj R<|trivial)
   repeat any_goals (first|refine Du B Q ⟨?_⟩|exact Bt B|(refine Dv B ?_ ?_<;>intro h<;>try exact Dw))
theorem ABR (Q:(Dd l).BX)(S:(Dd l).cnt<=900000):AC AF 31 [.c (.sl (Nd.AG l))] (.c (.bool (Dd l).Ad)):=by
 have M:=ABQ (Dd l) Q S;have e:Am (Dd l)=.agg [.c (.int .i64 1),.c (.str ⟨#[]⟩),.c (.int .i64 0),.c (.sl (Nd.AG l))]:=F;rw[e]at M;refine en func31 ntmps31 ?_;have B:=(results31)
 have R:=(cj M<|trivial)
 repeat any_goals (first|refine Du B R ⟨?_⟩|exact Bt B|(refine Dv B ?_ ?_<;>intro h<;>try exact Dw))
def CK (l:List Int):List V:=l.map λn=>V.c (.int .i64 n)
theorem Ts (l:List Int):G (CK l)=G l:=by simp[CK]
theorem AWM (l r:List Int):CK (l++r)=CK l++CK r:=by simp[CK]
@[simp] theorem AcU (l:List Int):V.BI m (CK l)=true:=by
 induction l with
 | nil=>rfl
 | cons c r ih=>simp only[CK,Ap,V.BI,V.A8,Cd];exact ih
theorem XK : ∀l:List Int,toCs (CK l)=J (l.map (C.int .i64))
 | []=>rfl
 | c::r=>by simp only[CK,Ap,toCs,toC];rw[show Vf (λn=>V.c (C.int AZ n)) r=CK r from rfl,XK r]
@[simp] theorem Zm (k:Nat)(row:List C):∀l:List Int,V.Cs k row (CK l)=CK l
 | []=>rfl
 | c::r=>by simp only[CK,Ap,V.Cs,V.Bi];rw[show Vf (λn=>V.c (C.int AZ n)) r=CK r from rfl,Zm k row r]
theorem Zl : ∀(l r:List Int),Hc 1 (G l) ((l++r).map (C.int .i64))=l.map λn=>[C.int .i64 n]
 | [],_=>rfl
 | c::l,r=>by simp only[BA,BK,Ap,Hc,DP,List.take_zero,CU,B9];rw[Zl l r]
section
variable {D r:List Int} {c:Int} {k:Nat}
theorem AWB (h:G D=k):(CK (D++c::r))[k]?=J (.c (.int .i64 c)):=by
 subst h;simp[CK]
theorem ABG (h:G D=k)(v:Int):(CK (D++c::r)).set k (.c (.int .i64 v))=CK (D++v::r):=by
 subst h;unfold CK;rw[<-fy (f:=λn=>V.c (.int .i64 n))];congr 1
 rw[List.set_append_right _ _ (BN _)];simp
theorem AJX (h:G D=k+1):(CK (D++r))[k]?=J (.c (.int .i64 (D.getD k 0))):=by
 have B:k<G D:=by omega
 unfold CK;rw[List.getElem?_map,List.getElem?_append_left B,BE B];simp[List.getD_eq_getElem?_getD,BE B]
theorem AJz (h:G D=k+1)(v:Int):(CK (D++r)).set k (.c (.int .i64 v))=CK (D.set k v++r):=by
 unfold CK;rw[<-fy (f:=λn=>V.c (.int .i64 n))];congr 1
 rw[List.set_append_left _ _ (by omega)]
end
section
variable {P:Program} {S0:BF} {w0:Bs} {x:Cx} {w:World} {H:Bx} {a:Act} {o:Oper}
theorem Aa9 {z:Array Value}(h:z.toList=[.int .i64 0])(m:Nat):(KN z m).toList=(CK (Aq m 0)).map (λ_=>vj .i64 0):=by
 have B:z=#[.int .i64 0]:=Gx.1 h;subst B;apply List.ext_getElem;simp[KN,CK];intro i M Q;simp[KN,CK,Nat.mod_one]
theorem Aa7 :AO x w (CK (Aq m 0)) ((CK (Aq m 0)).map (λ_=>vj .i64 0)):=by
 induction m with
 | zero=>simp[CK,AO]
 | succ m ih=>rw[BY];simp only[CK,Ap,AO,CV,Ab];exact⟨_,_,F,⟨F,by decide +kernel⟩,ih⟩
theorem pr : ∀l:List Int,(l.map λn=>[C.int .i64 n]).flatten=l.map (C.int .i64)
 | []=>rfl
 | c::r=>by rw[Ap,List.flatten_cons,pr r];rfl
theorem AUr (g:Good S0 w0 x w H){t:TypeId}{y z:Operand}(ho:o.op=.call ⟨.builtin .append,#[y,z],#[t,t]⟩){Ae:TypeId}{Bq:Nat}(hT:Dk P t=J (Ae,1,Bq))(R7:C2 P Ae=J [.c (.int .i64 0)]){l:List Int}(hY:CV x w (.Bg []) (a.eval y))(hZ:CV x w (.c (AV l)) (a.eval z))(q:l≠[])(Q:G l<=1000000)(R:Bq<=8)(k0:Nat)(hk : ¬x.dom k0) :
 ∃m:Nat,BW P o a S0 w0 x w H (.own k0 0 (G l) 1) (J (k0,.box Ae (CK (l++Aq m 0)) U)):=by
 obtain⟨hu,ie,zv,EB,hz,A0,je,A5⟩:=JS hT;obtain⟨zk,Y9,IN,i2,J9,R8⟩:=Z2 (x:=x) (w:=w) R7;rw[EB]at J9;cases J9;rw[hz]at R8;cases R8;simp only[AO,CV,Ab]at IN;obtain⟨u0,A6,IN,⟨rfl,_⟩,rfl⟩:=IN;simp only[CV]at hY hZ;obtain⟨A,hA,_⟩:=hY;have Av : ∀r∈(l.map λn=>[C.int .i64 n]),G r=1:=by intro r hr;obtain⟨n,_,rfl⟩:=List.mem_map.1 hr;rfl
 obtain⟨B,c',zs,VE,k1,k2,k3,k4,k5,k6⟩:=T0 hZ Av;obtain⟨b,A1,rfl,_⟩:=k6 (by simpa using q);rw[Ch]at VE k1 k4;have FH:=pr l;rw[FH]at k3;have Gs:0<G l:=Kr.2 q;have Dz:G l*ie.bytes<=281474976710656:=by rw[je];have:=ua Q R;omega
 have Gb:Ay w w.drew:=(Ay.refl w).drew;obtain⟨g1,Mg⟩:=g.MF (x':=x) (w':=w.drew) Gb ⟨λ_ _ h=>h,λb j v _ hc=>Gb.cell hc⟩ rfl rfl (λb j h=>.inl h);have M : ∃m cap:Nat,(Builtin.append_ #[t,t] o.type #[a.eval y,a.eval z]).run P w=.ok (.slice (J ⟨w.heap.size,0,E⟩) (G l) cap) (w.drew.alloc (.cells (zs.toArray++KN zv.cells m) Ae))/\cap=G l+m/\cap<=maxLen:=by
  have JL:=grownCap_ge w (G l) 0 Ae;have A3:=grownCap_le_maxLen w (G l) 0 Ae (by unfold maxLen;omega);refine⟨grownCap w (G l) 0 Ae - G l,grownCap w (G l) 0 Ae,?_,by omega,A3⟩;rw[hA,VE];cases A with
  | none=>exact run_append_nil (P:=P) w t o.type Ae ie zv hu EB hz ⟨b,A1,E⟩ (G l) c' zs (by rw[k4,A0]) (k5 _ F) Gs (by omega) Dz
  | some ad=>have:=run_append_grow (P:=P) w t o.type Ae ie zv hu EB hz ad 0 0 [] (by simp) (λj v h=>by simp at h) ⟨b,A1,E⟩ (G l) c' zs (by rw[k4,A0]) (k5 _ F) (by omega) (by simp only[Cz];omega) (growslice_fits (by omega) (by rw[je];simp only[Cz];have:=ua Q R;omega));simp only[Cz,BU]at this;refine this.trans ?_;simp
 obtain⟨m,cap,M,Mf,A2⟩:=M;have S:AO x w.drew (CK (l++Aq m 0)) (zs.toArray++KN zv.cells m).toList:=by
  rw[Array.toList_append,Aa9 IN,AWM];refine AO.append ?_ (Aa7 m);have:=AO.mono Mg _ _ (AO.OS k3);rwa [List.map_map]at this
 obtain⟨g',he⟩:=g1.Zc k0 hk Ae _ _ S;refine⟨m,_,_,_,_,by simp[execOp,ho,resolve,invoke,builtin,M];rfl,.inl F,?_,g',Mg.trans he,λk h=>h.elim .inl λe=>.inr ⟨.box Ae (CK (l++Aq m 0)) U,by rw[e]⟩,λhb=>by rw[ho]at hb;cases hb⟩;simp only[CV,Cx.C4,if_true];refine⟨.inr W,W,cap,F,by omega,A2,?_⟩;have:=S.len;rw[Ts]at this;simp only[List.length_append,List.length_replicate,Array.length_toList]at this;show 0+cap*1<=(zs.toArray++KN zv.cells m).size;omega
theorem AUt (g:Good S0 w0 x w H){t:TypeId}{y z:Operand}(ho:o.op=.call ⟨.builtin .append,#[y,z],#[t,t]⟩){Ae:TypeId}{Bq:Nat}(hT:Dk P t=J (Ae,1,Bq))(R7:C2 P Ae=J [.c (.int .i64 0)]){l:List Int}(hY:CV x w (.Bg []) (a.eval y))(hZ:CV x w (.c (AV l)) (a.eval z))(R:l≠[])(B:G l<=1000000)(Q:Bq<=8)(M:Nat)(hk : ¬x.dom M) :
 ∃v S,(∀k q,S=J (k,q)->k<=M)/\(∃m:Nat,v=.own M 0 (G l) 1/\S=J (M,.box Ae (CK (l++Aq m 0)) U))/\BW P o a S0 w0 x w H v S:=by
 obtain⟨m,hm⟩:=AUr g ho hT R7 hY hZ R B Q M hk;exact⟨_,_,λk q e=>by cases e;exact BN _,⟨m,rfl,rfl⟩,hm⟩
end
def dr (c:Int):Bool:=decide (c=2) || (decide (c=1) || (decide (c=3) || (decide (c=4) || decide (c=6))))
def YD (c:Int):Bool:=decide (c=3) || (decide (c=5) || decide (c=6))
def Lx (d:List Int):Int:=d.getD (G d - 1) 0
def Pm (d:List Int)(c:Int):List Int:=
 if c=2/\(G d=0\/dr (Lx d)=I)then d++[0]
 else if YD c=I/\0<G d/\Lx d=2 then d.set (G d - 1) 0++[c]
 else d++[c]
theorem AZU (d:List Int)(c:Int):G (Pm d c)=G d+1:=by
 unfold Pm;split;simp;split<;>simp
def K8 (own:List Int):List Int:=own.foldl Pm []
def Uj (d:List Int):List Int:=if 0<G d/\Lx d=2 then d.set (G d - 1) 0 else d
def I6 (own:List Int):List Int:=Uj (K8 own)
theorem APb {own:List Int}{c:Int}(h:own[k]?=J c):K8 (own.take (k+1))=Pm (K8 (own.take k)) c:=by
 unfold K8;rw[List.take_add_one,h,List.foldl_append];rfl
theorem AFi : ∀(own d:List Int),G (own.foldl Pm d)=G d+G own
 | [],d=>by simp
 | c::r,d=>by simp only[Bw,AFi r,AZU,BA];omega
theorem xZ (own:List Int):G (K8 own)=G own:=by unfold K8;rw[AFi];simp
theorem APW (d:List Int):G (Uj d)=G d:=by unfold Uj;split<;>simp
theorem ef (own:List Int):G (I6 own)=G own:=by unfold I6;rw[APW,xZ]
theorem AnB :AC AF 248 [.c (.int .i64 c)] (.c (.bool (dr c))):=by
 unfold dr;refine en func248 ntmps248 ?_;exact wz results248 W
theorem Aml :AC AF 249 [.c (.int .i64 c)] (.c (.bool (YD c))):=by
 unfold YD;refine en func249 ntmps249 ?_;exact wz results249 W
theorem AV2 :AC AF 169 [.c (.int .i64 c)] (.c (.bool (dr c))):=by
 unfold dr;refine en func169 ntmps169 ?_;exact wz results169 W
theorem AIC {D:List Int}{j:Nat}(h:G D=j+1):Lx D=D.getD j 0:=by unfold Lx;rw[h];rfl
theorem ALJ {D:List Int}{c:Int}(h:c=2)(B:G D=0\/dr (Lx D)=I):Pm D c=D++[0]:=if_pos ⟨h,B⟩
theorem AZS {D:List Int}{c:Int}(h : ¬c=2)(B:YD c=I)(M:0<G D)(Q:Lx D=2):Pm D c=D.set (G D - 1) 0++[c]:=by unfold Pm;rw[if_neg (λe=>h e.1),if_pos ⟨B,M,Q⟩]
theorem tF {D:List Int}{c:Int}(h : ¬(c=2/\(G D=0\/dr (Lx D)=I)))(B : ¬(YD c=I/\0<G D/\Lx D=2)):Pm D c=D++[c]:=by unfold Pm;rw[if_neg h,if_neg B]
theorem AOP:YD 2=false:=by decide
theorem bB (D:List Int)(c:Int)(r:List Int):(D++[c])++r=D++c::r:=by simp
theorem AnP (own:List Int)(hl:G own<=1000000):AC AF 186 [.c (AV own)] (.c (AV (I6 own))):=by
 by_cases A2:own=[]
 subst A2;have e:AV (I6 [])=.sl []:=F;have e2:AV []=.sl []:=F;rw[e,e2];refine en UH UL ?_;refine wu (.mk 1) UN trivial ⟨?_⟩;refine AW.DA ?_;refine SW.op (.Bg []) rfl rfl (λS0 w0 x a w ⟨g,_⟩=>AIv g rfl (by simp;exact⟨F,F,F⟩)) ?_;simp only[St.step,St.put,Bk,Ai,Ag];refine CY (.mk 3) trivial ?_;refine SW.nil ?_;refine wy UN trivial ⟨?_⟩;refine LA.loop (LA.round ?_);exact wz UN W
 . have Av:G (own.map λn=>[C.int .i64 n])=G own:=by rw[Ch]
   obtain⟨n,hn⟩:=AI (G own);have B1:0<n:=by rw[<-hn];exact Kr.2 A2
   refine en UH UL ?_;refine wu (.mk 1) UN trivial ⟨?_⟩;refine AW.DA ?_;refine SW.op (.Bg []) rfl rfl (λS0 w0 x a w ⟨g,_⟩=>AIv g rfl (by simp;exact⟨F,F,F⟩)) ?_;simp only[St.step,St.put,Bk,Ai,Ag];refine CY (.mk 1) trivial ?_;refine SW.OU (λv t=>∃m:Nat,v=.own 0 0 (G own) 1/\t=J (0,.box 3 (CK (own++Aq m 0)) U)) rfl (λS0 w0 x a w g ht hd=>?_) ?_;exact AUt (t:=39) (Ae:=3) (Bq:=8) g rfl (by simp) (by simp) (CW ht (.tmp 6)) (CW ht (.tmp 7)) A2 hl (by decide) 0 hd;rintro v t ⟨m,rfl,rfl⟩;simp only[St.step,St.put,Bk,BO,BU,Nat.lt_irrefl,if_false,Ai,Ag];refine CY (.mk 1) trivial ?_;refine SW.nil ?_;rw[hn];refine wy UN trivial ⟨?_⟩;refine lp (ι:={ k:Nat // k<=n }) (λk=>[(4,.c (.int .i64 (k.1:Int)))]) (λk=>[.box 3 (CK (K8 (own.take k.1)++(own.drop k.1++Aq m 0))) U]) (λk=>n - k.1) ⟨0,by simp⟩ ?_ ?_;all_goals simp only[CG,Bw,CO,Ag,Ai]
   exact ER @K8.eq_1;rintro ⟨k,hk⟩;simp only;by_cases B:k<n;obtain⟨c,A5⟩:∃c,own[k]?=J c:=⟨_,BE (by omega)⟩
   have A9:own.drop k=c::own.drop (k+1):=by rw[D5 (by omega),gx A5]
   have S:=APb A5;have M:G (K8 (own.take k))=k:=by rw[xZ,List.length_take];omega
   have B0:G (own.drop (k+1))=n - (k+1):=by rw[List.length_drop,hn]
   rw[A9,BK];obtain⟨D,hD⟩:=AI (K8 (own.take k));rw[hD]at S M ⊢;obtain⟨X,Q⟩:=AI (CK (D++c::(own.drop (k+1)++Aq m 0)));have Rh:G X=n+m:=by rw[<-Q,Ts];simp;omega
   have g0:X[k]?=J (.c (.int .i64 c)):=by rw[<-Q];exact AWB M
   have YO:=gx g0;have s0:X.set k (.c (.int .i64 0))=CK ((D++[0])++(own.drop (k+1)++Aq m 0)):=by rw[<-Q,ABG M 0,bB]
   have Ys:k+1<=n+m:=by omega
   have xz:k<n+m:=by omega
   rw[Q];have DK:=Aml c;clear Av;by_cases R:c=2;cases k with
   | zero=>rw[ALJ R (.inl M)]at S;rw[<-S]at s0;refine wy (cj8 @B @Rh @g0 @YO @s0 @Ys @xz @R UN) trivial ⟨?_⟩;exact⟨⟨0+1,by omega⟩,by simp only;omega,wd 1⟩
   | succ j =>
     have q:X[j]?=J (.c (.int .i64 (Lx D))):=by rw[<-Q,AIC M];exact AJX M
     have O7:=gx q;have A1:=AnB (Lx D);have hj:j<n:=by omega
     have TS:(j:Int)+1<(n:Int):=by omega
     have Wg : ¬(j:Int)+1=0:=by omega
     have Rq:(0:Int)<=(j:Int)+1:=by omega
     have A0:j<n+m:=by omega
     cases ho:dr (Lx D)with
     | true=>rw[ALJ R (.inr ho)]at S;rw[<-S]at s0;rw[ho]at A1;refine wy (cj9 @B @Rh @g0 @YO @s0 @Ys @xz @R @q<|cj6 @O7 @hj @TS @Wg @Rq @A0 UN) (cj A1<|trivial) ⟨?_⟩;exact⟨⟨j+1+1,by omega⟩,by simp only;omega,wd 1⟩
     | false =>
       rw[tF (λe=>by rcases e.2 with e|e;omega;rw[ho]at e;cases e) (λe=>by rw[R,AOP]at e;cases e.1)]at S;rw[R,AOP]at DK;rw[ho]at A1;have Ye:X=CK (K8 (own.take (j+1+1))++(own.drop (j+1+1)++Aq m 0)):=by rw[<-Q,S,bB]
       refine wy (cj9 @B @Rh @g0 @YO @Ys @xz @R @q @O7<|cj5 @hj @TS @Wg @Rq @A0 UN) (cj2 A1 DK W) ⟨?_⟩;rw[Ye];exact⟨⟨j+1+1,by omega⟩,by simp only;omega,wd 1⟩
   cases Yj:YD c with
   | false =>
     rw[tF (λe=>R e.1) (λe=>by rw[Yj]at e;cases e.1)]at S;rw[Yj]at DK;have Ye:X=CK (K8 (own.take (k+1))++(own.drop (k+1)++Aq m 0)):=by rw[<-Q,S,bB]
     refine wy (cj7 @B @Rh @g0 @YO @Ys @xz @R UN) (cj DK<|trivial) ⟨?_⟩;rw[Ye];exact⟨⟨k+1,by omega⟩,by simp only;omega,wd 1⟩
   | true =>
     rw[Yj]at DK;cases k with
     | zero =>
       rw[tF (λe=>R e.1) (λe=>by have:=e.2.1;omega)]at S;have Ye:X=CK (K8 (own.take (0+1))++(own.drop (0+1)++Aq m 0)):=by rw[<-Q,S,bB]
       refine wy (cj7 @B @Rh @g0 @YO @Ys @xz @R UN) (cj DK<|trivial) ⟨?_⟩;rw[Ye];exact⟨⟨0+1,by omega⟩,by simp only;omega,wd 1⟩
     | succ j =>
       have q:X[j]?=J (.c (.int .i64 (Lx D))):=by rw[<-Q,AIC M];exact AJX M
       have O7:=gx q;have hj:j<n:=by omega
       have TS:(j:Int)+1<(n:Int):=by omega
       have Wg:(0:Int)<(j:Int)+1:=by omega
       have Rq:(0:Int)<=(j:Int)+1:=by omega
       have A0:j<n+m:=by omega
       have A8:j+1<=n+m:=by omega
       by_cases PK:Lx D=2;rw[AZS R Yj (by omega) PK,M,show j+1 - 1=j by omega]at S;have s1:X.set j (.c (.int .i64 0))=CK (K8 (own.take (j+1+1))++(own.drop (j+1+1)++Aq m 0)):=by rw[<-Q,AJz M 0,S,bB]
       refine wy (cj9 @B @Rh @g0 @YO @Ys @xz @R @q @O7<|cj8 @hj @TS @Wg @Rq @A0 @A8 @PK @s1 UN) (cj DK<|trivial) ⟨?_⟩;exact⟨⟨j+1+1,by omega⟩,by simp only;omega,wd 1⟩;rw[tF (λe=>R e.1) (λe=>PK e.2.2)]at S;have Ye:X=CK (K8 (own.take (j+1+1))++(own.drop (j+1+1)++Aq m 0)):=by rw[<-Q,S,bB]
       refine wy (cj9 @B @Rh @g0 @YO @Ys @xz @R @q @O7<|cj6 @hj @TS @Wg @Rq @A0 @PK UN) (cj DK<|trivial) ⟨?_⟩;rw[Ye];exact⟨⟨j+1+1,by omega⟩,by simp only;omega,wd 1⟩
   have e1:own.take k=own:=Gl (by omega);have e2:own.drop k=[]:=FA (by omega);have ek:k=n:=by omega
   rw[e1,e2,BU];have M:G (K8 own)=n:=by rw[xZ,hn]
   unfold I6;generalize hD:K8 own=D at M ⊢;obtain⟨p,hp⟩:∃p,n=p+1:=⟨n - 1,by omega⟩
   subst ek;subst hp;obtain⟨X,Q⟩:=AI (CK (D++Aq m 0));have Rh:G X=p+1+m:=by rw[<-Q,Ts];simp;omega
   have q:X[p]?=J (.c (.int .i64 (Lx D))):=by rw[<-Q,AIC M];exact AJX M
   have O7:=gx q;have A6:p<p+1+m:=by omega
   have A3:p+1<=p+1+m:=by omega
   have A7:(p:Int)<(p:Int)+1:=by omega
   by_cases PK:Lx D=2;have hF:Uj D=D.set p 0:=by unfold Uj;rw[if_pos ⟨by omega,PK⟩,M];rfl
   have s1:X.set p (.c (.int .i64 0))=CK (D.set p 0++Aq m 0):=by rw[<-Q];exact AJz M 0
   have z:=Zl (D.set p 0) (Aq m 0);rw[List.length_set,M]at z;rw[hF,Q];refine wu (.mk 12) (cj9 @B @Rh @q @O7 @A6 @A3 @A7 @PK @s1 UN) trivial ⟨?_⟩;refine AW.Bi 0 rfl (XK _) (by simp only[V.Cs,V.Bi,B9,z,if_true];exact rfl) (by simp only[Ag,Ap,BB,O.Bi,Zm];exact rfl) ?_;unfold AV;exact wz UN W;have hF:Uj D=D:=by unfold Uj;rw[if_neg (λe=>PK e.2)]
   have z:=Zl D (Aq m 0);rw[M]at z;rw[hF,Q];refine wu (.mk 12) (cj8 @B @Rh @q @O7 @A6 @A3 @A7 @PK UN) trivial ⟨?_⟩;rw[<-Q];refine AW.Bi 0 rfl (XK _) (by simp only[V.Cs,V.Bi,B9,z,if_true];exact rfl) (by simp only[Ag,Ap,BB,O.Bi,Zm];exact rfl) ?_;unfold AV;exact wz UN W
section
variable {P:Program} {K:Exit->St->Prop} {ops:List Oper} {s:St}
theorem SW.AOB {o:Oper}{r:List Oper}{f gf:FuncId}{ty:TypeId}{cs:List C}{vs:Array Value}{fn:Func}(hN : ∀w:World,Calls P f #[] w λe w'=>e=.returned (.func (.func gf) #[] #[.pointer (J ⟨w.heap.size,0,E⟩)])/\w'=w.alloc (.cells vs ty))(Ml : ∀(S:BF) (w:World),B4 S w cs vs.toList)(hf:P.funcs[f]?=J fn)(hb:fn.body.isSome=I)(hn:(fn.name == "runtime.NumGoroutine")=U)(hg:BQ ops s.t o.guard=J I)(B:C7 (ev s.t) o.op=J (f,[]))(h:SW P ops K r (s.step o.dst (.fn gf [.ptr (G s.h) 0]) (J (G s.h,.box ty (cs.map V.c) U)))):SW P ops K (o::r) s:=λS0 w0 x a w Q=>by
 have hw:Region.wanted o (yielded ops.toArray a.tmps)=true:=by
  have:=KR (o:=o) Q.tm (IF (ops:=ops) (K1:=True) (K2:=False) hg W);exact Classical.byContradiction λh=>this.2 h
 unfold wpList;rw[if_pos hw];refine .inl ?_;unfold C7 at B;split at B
 case h_2=>cases B
 rename_i fo ar Fk ho;split at B
 case h_2=>cases B
 rename_i f' A1 FG;simp only[BL,Cr,List.append_eq_nil_iff,List.map_eq_nil_iff]at B;obtain⟨rfl,CZ,rfl⟩:=B;have q:ar=#[]:=Gx.1 CZ;subst q;have M:=Pp (CW Q.tm fo);rw[FG]at M;simp only[CV]at M;obtain⟨Dl,M,EP⟩:=M;have A0:Dl=#[]:=by
  simp only[AO]at EP;exact Gx.1 EP
 subst A0;have g:=Q.good;have CT:fn.body≠none:=by intro e;rw[e]at hb;cases hb
 have F6:fn.name≠ "runtime.NumGoroutine":=by simpa using hn
 have R:(execOp a.eval o).run P w=.ok (.enter f' #[]) w:=by
  simp[execOp,ho,resolve,M,M5,invoke,callFunc,program,Sem.run,hf,F6,CT]
 unfold Oper.wp;rw[R];refine(hN w).mono ?_;rintro r' w' ⟨rfl,rfl⟩;have hk : ¬x.dom (G s.h):=λhd=>by
  obtain⟨ob,h⟩:=g.dom _ hd;simp at h
 obtain⟨g',he⟩:=g.Zc (G s.h) hk ty (cs.map V.c) vs (AO.OS (Ml x.S w));have CB:NC w (w.alloc (.cells vs ty)):=.FR ((Ay.refl w).alloc _);have e:=Kj s.h (J (G s.h,O.box ty (cs.map V.c) U)) (λk' o' e=>by cases e;exact BN _);have z:Good S0 w0 (x.C4 (G s.h) ⟨w.heap.size,vs.size,U,0,U⟩) (w.alloc (.cells vs ty)) (λi=>(Bk s.h (J (G s.h,O.box ty (cs.map V.c) U)))[i]?):=by rw[e];exact g'
 exact h S0 w0 _ _ _ (Bo.put Q.tm (Q.df.mono CB) he z (by
  simp only[CV,AO,Cx.C4,if_true];exact⟨_,F,_,_,F,⟨.inr W,W,F⟩,F⟩) o.dst)
end
section
variable {P:Program} {ops:List Oper} {K:List Ef->St->Prop}
theorem TW.pJ {o:Oper}{r:List Oper}{q:List Ef}{s:St}{f:FuncId}{args Bd:List V}{ty:TypeId}{cs:List V}{cells B:List C}{res:V}{fn:Func}(k:Nat)(K9:AX P f Bd ty cells B res)(hf:P.funcs[f]?=J fn)(hb:fn.body.isSome=I)(hn:(fn.name == "runtime.NumGoroutine")=U)(hg:BQ ops s.t o.guard=J I)(M:C7 (ev s.t) o.op=J (f,args))(hp:V.Dj k args=J Bd)(hk:s.h[k]?=J (.box ty cs U))(A5:toCs cs=J cells)(h:TW P ops K r (q++[⟨res,J (k,.box ty (B.map V.c) U),J k⟩]) (s.step o.dst res (J (k,.box ty (B.map V.c) U)))):TW P ops K (o::r) q s:=by
 obtain⟨es,s2,h2,h3⟩:=h;refine⟨⟨res,J (k,.box ty (B.map V.c) U),J k⟩::es,s2,⟨_,es,F,?_,(λk' ob e=>by cases e;exact Nat.le_of_lt (List.getElem?_eq_some_iff.1 hk).1),h2⟩,by simpa using h3⟩;intro S0 w0 x w a H g hl hr _ Q next EH;rw[QF hl hg];show o.wp P a w next Q;have A2:=QR hl;have QH:H k=J (.box ty cs U):=(hr k (.inl F)).trans hk;unfold C7 at M;split at M
 case h_2=>cases M
 rename_i fo z Fk ho;split at M
 case h_2=>cases M
 rename_i f' A0 FG;simp only[BL,Cr]at M;obtain⟨rfl,rfl⟩:=M;have R:=Pp (A2 fo (by simp[ho,Bl,Df]));rw[FG]at R;simp only[CV]at R;obtain⟨Dl,R,EP⟩:=R;have Hw:AO x w (z.toList.map (ev s.t)++A0) (z.toList.map a.eval++Dl.toList):=(AO.of_map λy hy=>A2 y (by simp[ho,Bl,Df];exact .inr (by simpa using hy))).append EP;obtain⟨hd,b1,b2,vs,b3,b4,b5⟩:=g.ok k _ QH;have Fh:=toCs_ok A5 b5;have PO : ∀j,j<vs.size->¬x.S (x.loc k).b j:=λj hj=>g.EA k _ j QH ⟨rfl,by omega⟩
 have Co:=K9 x.S w _ (x.loc k).b vs g.ex PO b3 Fh (Qn _ _ _ hp Hw);have CT:fn.body≠none:=by intro e;rw[e]at hb;cases hb
 have F6:fn.name≠ "runtime.NumGoroutine":=by simpa using hn
 have A3:(execOp a.eval o).run P w=.ok (.enter f' (z.toList.map a.eval++Dl.toList).toArray) w:=by
  have e1:(z.map a.eval++Dl)=(z.toList.map a.eval++Dl.toList).toArray:=by apply Gx.1;simp
  simp[execOp,ho,resolve,R,M5,invoke,callFunc,program,Sem.run,hf,F6,CT,e1]
 unfold Oper.wp;rw[A3];refine Co.mono ?_;rintro r' w' ⟨u,S',Bz,rfl,A1,CZ,Gc,h1,h2,h3,h4⟩;have A6:=(g.ok k _ QH).2.lt b2;have he:Ext x { x with S:=S' } w w':=⟨CZ,λ_ h=>h,λ_ _=>FM.refl _⟩
 have g':=g.H5 (x':={ x with S:=S' }) k (.box ty (B.map V.c) U) he (A1.wide λb e=>⟨hd,b2,e.symm⟩) (λi=>⟨.inl,λh=>h.elim id λe=>e ▸ hd⟩) (λ_ _=>rfl) (λ_=>.inl ⟨hd,b2,rfl⟩)
  ⟨b1,b2,Bz,h1,by rw[h2,b4],AO.OS h3⟩ (λb j hs=>(Gc b j hs).imp id λh=>h.elim (λh=>⟨h.2,.inl h.1,λe=>by have:(x.loc k).b=b:=e;omega⟩) (λh=>⟨by rw[h.1];exact Nat.lt_of_lt_of_le A6 A1.size,.inr ⟨hd,b2,h.1.symm⟩,λ_ hx=>by have h5:j<(x.loc k).n:=hx.2;have h6:=h.2;omega⟩)) (λj hx=>g.EA k _ j QH hx)
 exact EH u _ w' g' he (CV.mono (Ub S' x w') _ _ h4)
end
theorem AUa :Calls AF 108 #[] w λe w'=>e=.returned (.func (.func 172) #[] #[.pointer (J ⟨w.heap.size,0,E⟩)])/\w'=w.alloc (.cells #[.int .i64 0] 3):=by
 go_enter func108,ntmps108;go_wp2;go_ret;exact⟨F,F⟩
theorem AUZ (e sp wd:Int)(Q : -9000000000000000000<=e+sp)(R:e+sp<=9000000000000000000)(S : -9000000000000000000<=e+sp+wd)(q:e+sp+wd<=9000000000000000000):AX AF 172 [.c (.int .i64 sp),.c (.int .i64 wd),.ptr 0 0] 3 [.int .i64 e] [.int .i64 (e+sp+wd)] (.c (.int .i64 (e+sp))):=by
 have B:AZ.wrap (e+sp)=e+sp:=Ac;have M:AZ.wrap (e+sp+wd)=e+sp+wd:=Ac;refine AX.intro func172 rfl ?_;simp only[ntmps172,Ap,BB,BA,BO,Nat.reduceAdd,Nat.reduceSub,BY,Cy,BK,BU];refine go (cj @B<|@M) ?_;simp[Xy,DV,C0,DE,V.CP,V.CF,CJ,toCs,toC,results172]
def SS (s:ByteArray)(pos:Nat):Bool:=(s.data.toList.drop pos).all Dx
theorem AXk {s:ByteArray}(h : ¬pos<s.size):SS s pos=true:=by
 unfold SS;rw[FA (by simpa using h)];rfl
theorem AXl {s:ByteArray}(h:pos<s.size):SS s pos=(Dx (s[pos]'h) && SS s (pos+1)):=by
 unfold SS;have B:pos<G s.data.toList:=by simpa using h
 rw[D5 B,Ep];rfl
theorem AIc {s:ByteArray}(h:SS s 0=U):Ck s=false:=by
 unfold SS at h;rw[B9]at h;unfold Ck;rw[h,D4]
theorem AUd {s:ByteArray}(h:SS s 0=I):Ck s=(decide (1<=s.size) && decide (s.size<=16)):=by
 unfold SS at h;rw[B9]at h;unfold Ck;rw[h,Cd]
theorem pB {b:UInt8}(h:b.toNat<32\/126<b.toNat):Dx b=false:=by simp[Dx];omega
theorem AEV {b:UInt8}(h:32<=b.toNat/\b.toNat<=126):Dx b=true:=by simp[Dx];omega
theorem AO7 :Calls AF 240 #[.string s] w λe w'=>e=.returned (.bool (Ck s))/\∃pos,w'=w.iter s pos:=by
 go_enter func240,ntmps240;go_wp2;go_loopw [2,4] (λr c w'=>∃(pos:Nat),w'=w.iter s pos/\r=.bool U/\SS s pos=SS s 0) (λ_ _ w'=>s.size - w'.iterPos w.heap.size)
 case atStart=>exact⟨0,F,F,F⟩
 case round =>
  obtain⟨pos,rfl,rfl,hc⟩:=hrel;by_cases hp:pos<s.size
  . obtain⟨b,hb⟩:=AI ((s[pos]'hp));have hst:=AXl hp;rw[hb]at hst;by_cases ha:b.toNat<128
    . have B : ∀ty,(Xj (.pointer (J ⟨w.heap.size,0,E⟩)) I ty).run AF (w.iter s pos)=.ok (.tuple #[.bool I,.int .i64 pos,.int .i32 (b.toNat:Int)]) (w.iter s (pos+1)):=λty=>by rw[run_next_ascii w s pos ty hp (by rw[hb];exact ha),hb]
      go_wp2;all_goals first
       | (refine⟨⟨pos+1,F,F,?_⟩,?_⟩
          rw[<-hc,hst,AEV (by omega),Cd];simp;omega)
       | (go_ret
          have e:Ck s=false:=AIc (by rw[<-hc,hst,pB (by omega),D4]);rw[e];exact⟨F,_,F⟩)
       | (exfalso;omega)
    . have M:=decode_high s pos hp (by rw[hb];omega);obtain⟨D,hD⟩:=AI ((g9 s pos).1);rw[hD]at M;have B : ∀ty,(Xj (.pointer (J ⟨w.heap.size,0,E⟩)) I ty).run AF (w.iter s pos)=.ok (.tuple #[.bool I,.int .i64 pos,.int .i32 (D:Int)]) (w.iter s (pos+(g9 s pos).2)):=λty=>by rw[run_next_any w s pos ty hp,hD]
      go_wp2;all_goals first
       | (exfalso;omega)
       | (go_ret
          have e:Ck s=false:=AIc (by rw[<-hc,hst,pB (by omega),D4]);rw[e];exact⟨F,_,F⟩)
  . have B : ∀ty,(Xj (.pointer (J ⟨w.heap.size,0,E⟩)) I ty).run AF (w.iter s pos)=_:=λty=>run_next_end w s pos ty hp
    have ht:=AUd (hc.symm.trans (AXk hp));go_wp2;all_goals go_ret
    all_goals try rw[ht]
    all_goals refine⟨?_,_,F⟩
    all_goals simp
    all_goals first|omega|(rw[decide_eq_decide];omega)|(rw[decide_eq_true (show 1<=s.size by omega),Cd,decide_eq_decide];omega)|trace_state
theorem kN (s:ByteArray)(pos:Nat):Ay w (w.iter s pos):=(Ay.refl w).alloc _
theorem AO6 :AC AF 240 [.c (.str s)] (.c (.bool (Ck s))):=by
 intro S w us R B;simp only[AO,CV,Ab]at B;obtain⟨u,q,rfl,⟨rfl,_⟩,rfl⟩:=B;refine(AO7 s w).mono ?_;rintro e z ⟨rfl,pos,rfl⟩;have M:=kN w s pos;exact⟨_,S,F,M,⟨λ_ _ h=>h,λb j v _ Q=>M.cell Q⟩,λb j h=>.inl h,by simp only[CV,Ab]⟩
theorem AUL :Calls AF 223 #[.string s,.int .u8 c] w λe w'=>e=.returned (.int .i64 (EF s.data.toList c.toNat.toUInt8))/\w'=w:=by
 go_enter func223,ntmps223;go_wp2;rw[run_callFunc_extern func270 (by kernel_rfl) (by kernel_rfl) (by kernel_rfl) (e:=AMT) (by kernel_rfl),Lib.run_indexByteString];simp only[Result.andThen];rw[Oper.upon_value];go_wp2;go_ret;exact⟨F,F⟩
theorem AHx :Calls AF 138 #[.string s,.int .u8 c] w λe w'=>e=.returned (.int .i64 (EF s.data.toList c.toNat.toUInt8))/\w'=w:=by
 go_enter func138,ntmps138;go_wp2_with (go_at_call 223;refine(AUL _ _ _).mono ?_;rintro e w' ⟨rfl,rfl⟩)
 go_ret;exact⟨F,F⟩
theorem ATU (h0:0<=r)(h1:r<128):Calls AF 283 #[.string s,.int .i32 r] w λe w'=>e=.returned (.int .i64 (EF s.data.toList r.toNat.toUInt8))/\w'=w:=by
 go_enter AQg,ARO;go_wp2_with (go_at_call 138;refine(AHx _ _ _).mono ?_;rintro e w' ⟨rfl,rfl⟩)
 go_ret;exact⟨F,F⟩
theorem AOb (h0:0<=r)(h1:r<128):Calls AF 239 #[.string s,.int .i32 r] w λe w'=>e=.returned (.bool (decide (0<=EF s.data.toList r.toNat.toUInt8)))/\w'=w:=by
 go_enter func239,ntmps239;go_wp2_with (go_at_call 283;refine(ATU _ _ _ h0 h1).mono ?_;rintro e w' ⟨rfl,rfl⟩)
 go_ret;exact⟨F,F⟩
def Gf:ByteArray:=⟨#[40,41,123,125,91,93,124,60,62,47,46]⟩
theorem ALx :Calls AF 298 #[.int .i32 r] w λe w'=>e=.returned (.bool (validRune r))/\w'=w:=by
 go_enter func298,ntmps298;go_wp2;all_goals go_ret
 all_goals refine⟨?_,F⟩
 all_goals simp[validRune]
 all_goals omega
theorem ATT (h0:128<=r)(h1:r<=1114111)(h2:r≠65533)(h3:validRune r=U):Calls AF 283 #[.string s,.int .i32 r] w λe w'=>e=.returned (.int .i64 (-1))/\w'=w:=by
 go_enter AQg,ARO;go_wp2_with (go_at_call 298;refine(ALx _ _).mono ?_;rintro e w' ⟨rfl,rfl⟩)
 go_ret;exact⟨F,F⟩
theorem AHy : ∀(l:List UInt8) (c:UInt8),(∀x∈l,x.toNat<128)->128<=c.toNat->EF l c= -1
 | [],c,_,_=>rfl
 | x::l,c,h,B=>by
   have M:x≠c:=λe=>by have:=h x List.mem_cons_self;rw[e]at this;omega
   have ih:=AHy l c (λy Q=>h y (List.mem_cons_of_mem _ Q)) B;simp[EF,M,ih]
theorem AAy : ∀x∈Gf.data.toList,x.toNat<128:=by decide
theorem AVv (a e:Nat)(c:UInt8)(h:128<=c.toNat):EF (Gf.extract a e).data.toList c= -1:=AHy _ _ (λx B=>AAy x (mem_extract B)) h
theorem ALn (b:UInt8):((b.toNat:Int)).toNat.toUInt8=b:=by simp
theorem APL (Q:128<=r)(B:validRune r=I):(∃a b:UInt8,128<=b.toNat/\iA r=⟨#[a,b]⟩)\/(∃a b c:UInt8,128<=c.toNat/\iA r=⟨#[a,b,c]⟩)\/(∃a b c d:UInt8,128<=d.toNat/\iA r=⟨#[a,b,c,d]⟩):=by
 have M : ¬r.toNat<128:=by omega
 rw[<-validRune_eq]at B;unfold iA;simp only[B,if_true,M,if_false];split;exact .inl ⟨_,_,by simp;omega,rfl⟩;split;exact .inr (.inl ⟨_,_,_,by simp;omega,rfl⟩);exact .inr (.inr ⟨_,_,_,_,by simp;omega,rfl⟩)
theorem AaN :AC AF 298 [.c (.int .i32 r)] (.c (.bool (validRune r))):=by
 intro S w us M B;simp only[AO,CV,Ab]at B;obtain⟨u,Q,rfl,⟨rfl,_⟩,rfl⟩:=B;refine(ALx r w).mono ?_;rintro e R ⟨rfl,rfl⟩;exact⟨_,S,F,Ay.refl _,Ar.refl _ _,λb j h=>.inl h,by simp only[CV,Ab]⟩
theorem AAz (a e:Nat)(c:UInt8)(h:128<=c.toNat):AC AF 138 [.c (.str (Gf.extract a e)),.c (.int .u8 c.toNat)] (.c (.int .i64 (-1))):=by
 intro S w us Q B;simp only[AO,CV,Ab]at B;obtain⟨u,q,rfl,⟨rfl,_⟩,R,M,rfl,⟨rfl,_⟩,rfl⟩:=B;refine(AHx _ _ w).mono ?_;rintro e z ⟨rfl,rfl⟩;rw[ALn,AVv _ _ _ h];exact⟨_,S,F,Ay.refl _,Ar.refl _ _,λb j h=>.inl h,by simp only[CV,Ab];exact⟨W,by decide +kernel⟩⟩
theorem Zj:Gf.size=11:=F
theorem AJH:Gf.data.toList[1]?=J 41:=F
theorem AJI:Gf.data.toList[2]?=J 123:=F
theorem AJJ:Gf.data.toList[3]?=J 125:=F
theorem ATV (h0:128<=r)(h1:r<=1114111)(h2:r≠65533)(h3:validRune r=I):AC AF 283 [.c (.str Gf),.c (.int .i32 r)] (.c (.int .i64 (-1))):=by
 have S : ∀W:World,(convert 21 9 (.int .i32 r)).run AF W=.ok (.string (iA r)) W:=λW=>run_convert_int_string W _ _ _ _ (by kernel_rfl) (by kernel_rfl)
 have hf:=APL r h0 h3;obtain⟨R,hR⟩:=AI (iA r);rw[hR]at hf S;have rK:=AaN r;rw[h3]at rK;have A0:R.size<=maxLen:=by
  unfold maxLen;rcases hf with ⟨a,b,M,rfl⟩|⟨a,b,c,M,rfl⟩|⟨a,b,c,d,M,rfl⟩
  show 2<=_;omega;show 3<=_;omega;show 4<=_;omega
 have z : ¬r<128:=by omega
 have n0:0<=r:=by omega
 refine en AQg ARO ?_;refine wu (.mk 1) (cj3 @z @n0 @h2 ABj) (cj rK<|trivial) ⟨?_⟩;refine AW.DA ?_;refine CY (.mk 1) trivial ?_;refine SW.op (.c (.str R)) (by simp[BQ]) rfl ?_ ?_;rintro S0 w0 x a w ⟨g,ht⟩;have A1:=CW ht (.tmp 17);simp only[ev,CV,Ab,List.getD_cons_succ,List.getD_cons_zero]at A1;exact BW.pure g (u:=.string R) (by simp[execOp,A1.1,S]) (by simp only[CV,Ab];exact⟨trivial,A0⟩);simp only[St.step,St.put,Bk,Ai,Ag];refine CY (.mk 1) trivial ?_;refine SW.nil ?_;clear hR S A0;rcases hf with ⟨a,b,M,rfl⟩|⟨a,b,c,M,rfl⟩|⟨a,b,c,d,M,rfl⟩
 have Q:=AAz 2 11 b M;have q : ¬(41:Int)=(b.toNat:Int):=by omega
 have B:(uB #[a,b]).size=2:=F;refine wy (cj4 @z @Zj @AJH @B ABj) (cj Q<|trivial) ⟨?_⟩;refine LA.loop (LA.round ?_);exact wz (cj5 @z @Zj @AJH @B @q ABj) (cj Q<|trivial);have Q:=AAz 3 11 c M;have q : ¬(123:Int)=(c.toNat:Int):=by omega
 have B:(uB #[a,b,c]).size=3:=F;refine wy (cj4 @z @Zj @AJI @B ABj) (cj Q<|trivial) ⟨?_⟩;refine LA.loop (LA.round ?_);exact wz (cj5 @z @Zj @AJI @B @q ABj) (cj Q<|trivial);have Q:=AAz 4 11 d M;have q : ¬(125:Int)=(d.toNat:Int):=by omega
 have B:(uB #[a,b,c,d]).size=4:=F;refine wy (cj4 @z @Zj @AJJ @B ABj) (cj Q<|trivial) ⟨?_⟩;refine LA.loop (LA.round ?_);exact wz (cj5 @z @Zj @AJJ @B @q ABj) (cj Q<|trivial)
theorem ATW :Calls AF 283 #[.string Gf,.int .i32 65533] w λe w'=>e=.returned (.int .i64 (-1))/\Ay w w':=by
 go_enter AQg,ARO;go_wp2;go_loopw [5,6] (λ_ _ w'=>∃(pos:Nat),w'=w.iter Gf pos) (λ_ _ w'=>Gf.size - w'.iterPos w.heap.size)
 case atStart=>exact⟨0,F⟩
 case round =>
  obtain⟨pos,rfl⟩:=hrel;by_cases hp:pos<Gf.size
  . have ha:(Gf[pos]'hp).toNat<128:=AAy _ (Array.getElem_mem_toList (xs:=Gf.data) hp);obtain⟨b,hb⟩:=AI ((Gf[pos]'hp));have B : ∀ty,(Xj (.pointer (J ⟨w.heap.size,0,E⟩)) I ty).run AF (w.iter Gf pos)=.ok (.tuple #[.bool I,.int .i64 pos,.int .i32 (b.toNat:Int)]) (w.iter Gf (pos+1)):=λty=>by rw[run_next_ascii w Gf pos ty hp ha,hb]
    rw[hb]at ha;go_wp2;all_goals first
     | (exfalso;omega)
     | (refine⟨⟨pos+1,F⟩,?_⟩
        simp;omega)
     | trace_state
  . have B : ∀ty,(Xj (.pointer (J ⟨w.heap.size,0,E⟩)) I ty).run AF (w.iter Gf pos)=_:=λty=>run_next_end w Gf pos ty hp
    go_wp2;go_ret;exact⟨F,kN _ _ _⟩
theorem ATX (M:128<=r)(Q:r<=1114111):Calls AF 283 #[.string Gf,.int .i32 r] w λe w'=>e=.returned (.int .i64 (-1))/\Ay w w':=by
 by_cases B:r=65533;subst B;exact ATW w;cases R:validRune r with
 | false=>exact(ATT Gf r w M Q B R).mono λe w' h=>⟨h.1,by rw[h.2];exact Ay.refl _⟩
 | true =>
   have wf:(Lit.int .i32 r).wf=true:=by
    have q:uK.min= -2147483648:=by decide +kernel
    have z:uK.max=2147483647:=by decide +kernel
    simp[Lit.wf,q,z];omega
   refine(ATV r M Q B R (λ_ _=>False) w [.string Gf,.int .i32 r] (λ_ _ h=>h.elim) ?_).mono ?_;simp only[AO,CV,Ab];exact⟨_,_,F,⟨F,by rw[Zj];decide⟩,_,_,F,⟨F,wf⟩,F⟩;rintro e w' ⟨u,S',rfl,hk,_,_,S⟩;simp only[CV,Ab]at S;exact⟨by rw[S.1],hk⟩
theorem AOc (h0:128<=r)(h1:r<=1114111):Calls AF 239 #[.string Gf,.int .i32 r] w λe w'=>e=.returned (.bool U)/\Ay w w':=by
 go_enter func239,ntmps239;go_wp2_with (go_at_call 283;refine(ATX _ _ h0 h1).mono ?_;rintro e w' ⟨rfl,hk⟩)
 go_ret;exact⟨F,hk⟩
def Qj (b:UInt8):Bool:=Gf.data.toList.contains b
def Nh (s:ByteArray):Bool:=s.data.toList.all Qj && decide (s.size=2)
def SU (s:ByteArray)(pos:Nat):Bool:=(s.data.toList.drop pos).all Qj
theorem AXm {s:ByteArray}(h : ¬pos<s.size):SU s pos=true:=by
 unfold SU;rw[FA (by simpa using h)];rfl
theorem AXn {s:ByteArray}(h:pos<s.size):SU s pos=(Qj (s[pos]'h) && SU s (pos+1)):=by
 unfold SU;have B:pos<G s.data.toList:=by simpa using h
 rw[D5 B,Ep];rfl
theorem AJG {s:ByteArray}(h:SU s 0=U):Nh s=false:=by
 unfold SU at h;rw[B9]at h;unfold Nh;rw[h,D4]
theorem AVr {s:ByteArray}(h:SU s 0=I):Nh s=decide (s.size=2):=by
 unfold SU at h;rw[B9]at h;unfold Nh;rw[h,Cd]
theorem AHt : ∀(l:List UInt8) (c:UInt8),0<=EF l c↔c∈l
 | [],c=>by simp[EF]
 | x::l,c=>by
   have ih:=AHt l c;have M:=Lib.indexByte_ge l c;by_cases h:x=c;subst h;simp[EF];have B : ¬c=x:=λe=>h e.symm
   rw[List.mem_cons,or_iff_right B,<-ih];simp only[EF,beq_iff_eq,h,if_false];split<;>omega
theorem ATR (l:List UInt8)(c:UInt8):decide (0<=EF l c)=l.contains c:=by
 rw[Oj,decide_eq_true_iff,AHt,List.contains_iff_mem]
theorem AVs {b:UInt8}(h:Qj b=I):b.toNat<128:=AAy b (by simpa [Qj]using h)
theorem decode_le (i:Nat):(g9 s i).1<=1114111:=by
 unfold g9;dsimp only;repeat' split
 all_goals first
  | (simp only[Utf8.runeError];omega)
  | (rename_i h;simp[Utf8.valid]at h ⊢;omega)
  | ((try simp only[]);omega)
theorem AVu :Calls AF 161 #[.string s] w λe w'=>e=.returned (.bool (Nh s))/\Ay w w':=by
 go_enter func161,ntmps161;go_wp2;go_loopw [2,4] (λr c w'=>∃(pos:Nat),w'=w.iter s pos/\r=.bool U/\SU s pos=SU s 0) (λ_ _ w'=>s.size - w'.iterPos w.heap.size)
 case atStart=>exact⟨0,F,F,F⟩
 case round =>
  obtain⟨pos,rfl,rfl,hc⟩:=hrel;by_cases hp:pos<s.size
  . obtain⟨b,hb⟩:=AI ((s[pos]'hp));have hst:=AXn hp;rw[hb]at hst;by_cases ha:b.toNat<128
    . have R : ∀ty,(Xj (.pointer (J ⟨w.heap.size,0,E⟩)) I ty).run AF (w.iter s pos)=.ok (.tuple #[.bool I,.int .i64 pos,.int .i32 (b.toNat:Int)]) (w.iter s (pos+1)):=λty=>by rw[run_next_ascii w s pos ty hp (by rw[hb];exact ha),hb]
      have M:=λW=>AOb Gf b.toNat W (by omega) (by omega)
      rw[ALn,ATR]at M;cases B:Qj b with
      | true =>
        have Q : ∀W:World,Calls AF 239 #[.string Gf,.int .i32 b.toNat] W λe w'=>e=.returned (.bool I)/\w'=W:=λW=>(M W).mono λe w' h=>⟨by rw[h.1];exact congrArg _ (congrArg _ B),h.2⟩
        go_wp2_with (go_at_call 239;refine(Q _).mono ?_;rintro e w' ⟨rfl,rfl⟩)
        rw[B,Cd]at hst;exact⟨⟨pos+1,F,F,hst.symm.trans hc⟩,by simp;omega⟩
      | false =>
        have Q : ∀W:World,Calls AF 239 #[.string Gf,.int .i32 b.toNat] W λe w'=>e=.returned (.bool U)/\w'=W:=λW=>(M W).mono λe w' h=>⟨by rw[h.1];exact congrArg _ (congrArg _ B),h.2⟩
        go_wp2_with (go_at_call 239;refine(Q _).mono ?_;rintro e w' ⟨rfl,rfl⟩)
        go_ret;rw[B,D4]at hst;rw[AJG (hc.symm.trans hst)];exact⟨F,kN _ _ _⟩
    . have S:=decode_high s pos hp (by rw[hb];omega);have hl:=decode_le s pos;obtain⟨D,hD⟩:=AI ((g9 s pos).1);rw[hD]at S hl;have R : ∀ty,(Xj (.pointer (J ⟨w.heap.size,0,E⟩)) I ty).run AF (w.iter s pos)=.ok (.tuple #[.bool I,.int .i64 pos,.int .i32 (D:Int)]) (w.iter s (pos+(g9 s pos).2)):=λty=>by rw[run_next_any w s pos ty hp,hD]
      go_wp2_with (go_at_call 239;refine(AOc _ _ (by omega) (by omega)).mono ?_;rintro e w' ⟨rfl,hk⟩)
      go_ret;have B:Qj b=false:=by
       cases e:Qj b with
       | false=>rfl
       | true=>exact absurd (AVs e) ha
      rw[B,D4]at hst;rw[AJG (hc.symm.trans hst)];exact⟨F,(kN _ _ _).trans hk⟩
  . have R : ∀ty,(Xj (.pointer (J ⟨w.heap.size,0,E⟩)) I ty).run AF (w.iter s pos)=_:=λty=>run_next_end w s pos ty hp
    have ht:=AVr (hc.symm.trans (AXm hp));go_wp2;go_ret;rw[ht];refine⟨?_,kN _ _ _⟩;simp;rw[Oj];simp;omega
theorem AVt :AC AF 161 [.c (.str s)] (.c (.bool (Nh s))):=by
 intro S w us R B;simp only[AO,CV,Ab]at B;obtain⟨u,q,rfl,⟨rfl,_⟩,rfl⟩:=B;refine(AVu s w).mono ?_;rintro e z ⟨rfl,M⟩;exact⟨_,S,F,M,⟨λ_ _ h=>h,λb j v _ Q=>M.cell Q⟩,λb j h=>.inl h,by simp only[CV,Ab]⟩
end Go.Proofs.YtglaipbdiofkfaaGreat
