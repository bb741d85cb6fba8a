/- Part of the proof of displayBest.proved. Conditions: none. -/
import Derived.Lib.Strings
import Derived.Lib.Slices
import Derived.Lib.Walk
import Derived.Test.YtlpomcliejmedaaGreatW4
set_option linter.unusedVariables false
set_option linter.unusedSimpArgs false
set_option maxRecDepth 100000
set_option maxHeartbeats 16000000
open List renaming getElem?_eq_getElem→BE,drop_eq_getElem_cons→D5,drop_of_length_le→FA,foldl_cons→Bw,foldl_nil→CO,set_cons_zero→Ag,set_cons_succ→Ai,all_cons→Ep,all_nil→Nq,any_cons→mP,any_nil→mQ,drop_zero→B9,mem_of_getElem?→Cj,map_cons→Ap,map_nil→BB,length_cons→BA,length_nil→BO,replicate_succ→BY,replicate_zero→Cy,cons_append→BK,nil_append→BU,drop_succ_cons→CU,getD_cons_succ→Om,getD_cons_zero→On,length_map→Ch,getElem?_map→CM,length_pos_iff→Kr,getElem?_set_self→IX,getElem?_eq_some_iff→Br,getElem?_set_ne→HF,mem_cons→Cf,mem_map→Da,take_add_one→UC,take_of_length_le→Gl
open Array renaming getElem?_toList→VZ
open Go.Proofs.Tryz renaming prog→AF,results244→vN,results248→vO,results179→vK,func177→nB,ntmps177→nP,results177→na,func178→gG,ntmps178→gT,results178→gg,results181→ADF,results64→vZ,results182→NB,func115→nA,results115→NA,results66→ADW,underlying9→Lb,underlying139→vi,underlying3→Fo,results95→vg,func98→u4,ntmps98→vG,results98→Ot,func49→Hs,ntmps49→vD,results49→Jz,func362→gR,results341→ADS,func302→uq,results302→ADO,results28→nj,func105→aR
open Go.Lib renaming indexByte→EF
open Go.Extern.BytealgIndexByte renaming indexByte→AMT
open Go.Lit renaming int→I9,string→Vh
open Go.IntKind renaming i64→AZ
open Bool renaming eq_iff_iff→Oj,true_and→Cd,and_false→LV,false_and→D4,and_true→Km,or_false→lz,and_self→LW,and_eq_true→Ak
open Go.Maps renaming string_keyed→me
open Go.WideMaps renaming keyOf_string_mk→n6
open Option.some renaming inj→ML,injEq→BL
open Nat renaming le_of_ble_eq_true→F2
open Option renaming getD_none→Hr,isSome_none→H8,getD_some→Dm,isSome_some→IZ
open Go.Op renaming operands→Bl
open Int renaming mul_comm→fu
namespace Go.Proofs.YtlpomcliejmedaaGreat
open Go.RowKit Tryz
variable {k:Nat}{w:World}{M:ByteArray->Option Int}(s:ByteArray)(g:BG)(name:ByteArray)
theorem bS {s:ByteArray}(h:k<s.size):∃b,s.data.toList[k]?=some b/\s.data[k]?=some b/\s.data.toList.drop k=b::s.data.toList.drop (k+1)/\(k:Int)<(s.size:Int)/\(b.toNat<256):=by
 have B:k<s.data.toList.length:=by simpa using h
 refine⟨s.data.toList[k],BE B,?_,D5 B,by omega,UInt8.toNat_lt _⟩;rw[<-VZ];exact BE B
theorem ij {s:ByteArray}(h : ¬k<s.size):s.data.toList.drop k=[]:=FA (by simp;omega)
theorem AYx (c:Int)(w:World):Calls AF 298 #[.string s,.int .u8 c] w λe w'=>e=.returned (.int .i64 (EF s.data.toList c.toNat.toUInt8))/\w'=w:=by
 go_enter func298,ntmps298;go_wp2;rw[run_callFunc_extern func338 (by kernel_rfl) (by kernel_rfl) (by kernel_rfl) (e:=AMT) (by kernel_rfl),Lib.run_indexByteString];simp only[Result.andThen];rw[Oper.upon_value];go_wp2;go_ret;exact⟨rfl,rfl⟩
theorem ATS (l:List UInt8)(c:UInt8)(h:l.length<=maxLen):(I9 .i64 (EF l c)).wf=true:=by
 have I:=Lib.indexByte_ge l c;have J:EF l c<=(l.length:Int):=by
  rcases kM l c with ⟨e,_⟩|⟨w,r,F,G,_⟩
  omega;have:l.length=w.length+(r.length+1):=by rw[F];simp
  omega
 have B:AZ.min= -9223372036854775808:=by decide +kernel
 have E:AZ.max=9223372036854775807:=by decide +kernel
 unfold maxLen at h;simp[Lit.wf,B,E];omega
theorem AKz (c:Int):AC AF 298 [.c (.str s),.c (.int .u8 c)] (.c (.int .i64 (EF s.data.toList c.toNat.toUInt8))):=by
 intro S w us G B;simp only[AO,CV,Ab]at B;obtain⟨u,J,rfl,⟨rfl,E⟩,I,F,rfl,⟨rfl,_⟩,rfl⟩:=B;refine(AYx _ _ w).mono ?_;rintro e K ⟨rfl,rfl⟩;exact⟨_,S,rfl,Ay.refl _,Ar.refl _ _,λb j h=>.inl h,by simp only[CV,Ab];exact⟨trivial,ATS _ _ (by simpa using E)⟩⟩
theorem AYS (c:Int):AC AF 249 [.c (.str s),.c (.int .u8 c)] (.c (.int .i64 (EF s.data.toList c.toNat.toUInt8))):=by
 have h:=AKz s c;refine en func249 ntmps249 ?_;exact wz results249 (cj h<|trivial)
theorem AKc (s t:ByteArray)(b:UInt8)(Q:t.size=1)(hb:t.data.toList[0]?=some b):AC AF 337 [.c (.str s),.c (.str t)] (.c (.int .i64 (EF s.data.toList b))):=by
 have F:=AKz s b.toNat;rw[show ((b.toNat:Int)).toNat.toUInt8=b by simp]at F;have I:t.data[0]?=some b:=by rw[<-VZ];exact hb
 have E:(t.size:Int)=1:=by omega
 have J:t=s->EF s.data.toList b=0:=λe=>by
  subst e;cases G:t.data.toList with
  | nil=>rw[G]at hb;simp at hb
  | cons c r=>rw[G]at hb;simp at hb;subst hb;simp[EF]
 by_cases B:t=s;have K:=J B;subst B;refine en func337 ntmps337 ?_;exact wz (cj2 @E @K results337) trivial;refine en func337 ntmps337 ?_;exact wz (cj4 @E @hb @I @B results337) (cj F<|trivial)
theorem AYT (s t:ByteArray)(b:UInt8)(B:t.size=1)(hb:t.data.toList[0]?=some b):AC AF 296 [.c (.str s),.c (.str t)] (.c (.int .i64 (EF s.data.toList b))):=by
 have h:=AKc s t b B hb;refine en func296 ntmps296 ?_;exact wz results296 (cj h<|trivial)
theorem AHs (l:List UInt8)(c:UInt8):decide (0<=EF l c)=l.any λb=>decide ((b.toNat:Int)=(c.toNat:Int)):=by
 rw[Oj,decide_eq_true_iff,List.any_eq_true];have e : ∀b:UInt8,((b.toNat:Int)=(c.toNat:Int))↔b=c:=λb=>⟨λh=>UInt8.toNat_inj.1 (by omega),λh=>by rw[h]⟩
 simp only[decide_eq_true_eq,e];rcases kM l c with ⟨B,E⟩|⟨w,r,B,E,_⟩
 rw[B];exact⟨λh=>by omega,λ⟨x,F,e⟩=>absurd e (E x F)⟩;rw[E];exact⟨λ_=>⟨c,by rw[B];simp,rfl⟩,λ_=>by omega⟩
theorem AYP (s t:ByteArray)(b:UInt8)(B:t.size=1)(hb:t.data.toList[0]?=some b):AC AF 245 [.c (.str s),.c (.str t)] (.c (.bool (Lq s b.toNat))):=by
 have h:=AYT s t b B hb;have e:Lq s b.toNat=decide (0<=EF s.data.toList b):=(AHs _ _).symm;rw[e];refine en func245 ntmps245 ?_;exact wz results245 (cj h<|trivial)
def im (s:ByteArray)(b:UInt8):V:=
 if 0<=EF s.data.toList b then .A7 [.c (.str (s.extract 0 (EF s.data.toList b).toNat)),.c (.str (s.extract ((EF s.data.toList b).toNat+1) s.size)),.c (.bool true)]
 else .A7 [.c (.str s),.c (.str ⟨#[]⟩),.c (.bool false)]
theorem AYQ (s t:ByteArray)(b:UInt8)(hs:s.size<=maxLen)(G:t.size=1)(hb:t.data.toList[0]?=some b):AC AF 297 [.c (.str s),.c (.str t)] (im s b):=by
 unfold maxLen at hs;have B:=AKc s t b G hb;have F:(t.size:Int)=1:=by omega
 unfold im;rcases kM s.data.toList b with ⟨E,_⟩|⟨w,r,E,I,_⟩
 rw[E]at B ⊢;rw[if_neg (by omega)];refine en func297 ntmps297 ?_;exact wz (cj @F<|results297) (cj B<|trivial);have R:s.size=w.length+(r.length+1):=by
  have:s.data.toList.length=w.length+(r.length+1):=by rw[E];simp
  simpa using this
 rw[I]at B ⊢;rw[if_pos (by omega)];have q1:(0:Int)<=(w.length:Int):=by omega
 have q2:(w.length:Int)<=(s.size:Int):=by omega
 have J:(w.length:Int)+1<=(s.size:Int):=by omega
 have K:w.length<=s.size:=by omega
 have Q:((w.length:Int)+1).toNat=w.length+1:=by omega
 have q6:(0:Int)<=(w.length:Int)+1:=by omega
 rw[show (w.length:Int).toNat=w.length by simp];refine en func297 ntmps297 ?_;exact wz (cj7 @F @q1 @q2 @J @K @Q @q6 results297) (cj B<|trivial)
theorem AYR (s t:ByteArray)(b:UInt8)(hs:s.size<=maxLen)(E:t.size=1)(hb:t.data.toList[0]?=some b):AC AF 247 [.c (.str s),.c (.str t)] (im s b):=by
 have h:=AYQ s t b hs E hb;unfold im at h ⊢;split at h;rename_i B;rw[if_pos B];refine en func247 ntmps247 ?_;exact wz results247 (cj h<|trivial);rename_i B;rw[if_neg B];refine en func247 ntmps247 ?_;exact wz results247 (cj h<|trivial)
theorem AVl : ∀b:Fin 256,Nc (b.val:Int)=(decide (97<=Zg .u8 (b.val:Int) 32) && decide (Zg .u8 (b.val:Int) 32<=122)):=by decide +kernel
theorem AWa (hs:s.size<=maxLen):AC AF 244 [.c (.str s)] (.c (.bool (FC Nc s))):=by
 unfold maxLen at hs;refine en func244 ntmps244 ?_;refine wy vN trivial ⟨?_⟩;refine lp (ι:={ k:Nat // k<=s.size/\FC Nc s=(s.data.toList.drop k).all λb=>Nc b.toNat }) (λk=>[(2,.c (.bool false)),(3,.c (.int .i64 (k.1:Int)))]) (λ_=>[]) (λk=>s.size - k.1) ⟨0,by simp[FC]⟩ ?_ ?_;all_goals simp only[puts,Bw,CO,Ag,Ai]
 exact DH;rintro ⟨k,q,E⟩;simp only;by_cases B:k<s.size;obtain⟨b,S,R,W,J,G⟩:=bS B;rw[W,Ep]at E;have K:=AVl ⟨b.toNat,G⟩;simp only at K;obtain⟨c,Q⟩:∃c:Int,(b.toNat:Int)=c:=⟨_,rfl⟩
 rw[Q]at E K;rw[K]at E;obtain⟨d,F⟩:=AI (Zg .u8 c 32);rw[F]at E;clear K;by_cases h:97<=d/\d<=122;rw[decide_eq_true h.1,decide_eq_true h.2,Cd,Cd]at E;refine wy (cj @B<|cj @J<|cj @S<|cj @R<|cj @Q<|cj @F<|cj (h.1)<|cj (h.2)<|vN) trivial ⟨?_⟩;exact⟨⟨k+1,by omega,E⟩,by simp only;omega,wd 0⟩;have U:FC Nc s=false:=by
  rw[E];by_cases I:97<=d;rw[decide_eq_false (λe=>h ⟨I,e⟩),LV,D4];rw[decide_eq_false I,D4,D4]
 clear E;exact wz (cj6 @B @J @S @R @Q @F vN) trivial;rw[ij B]at E;have J : ¬(k:Int)<(s.size:Int):=by omega
 exact wz (cj2 @B @J vN) trivial
theorem AYu :decide (s=⟨#[]⟩)=decide (s.size=0):=by
 rw[decide_eq_decide];exact⟨λh=>by rw[h];rfl,λh=>by
  cases s with
  | mk d=>congr 1;exact Array.eq_empty_of_size_eq_zero h⟩
theorem AA7 (hs:s.size<=maxLen):AC AF 248 [.c (.str s)] (.c (.bool (Ug s))):=by
 have K:=AYu s;unfold maxLen at hs;unfold Ug;rw[<-K];refine en func248 ntmps248 ?_;refine wy vO trivial ⟨?_⟩;refine lp (ι:={ k:Nat // k<=s.size/\FC NJ s=(s.data.toList.drop k).all λb=>NJ b.toNat }) (λk=>[(2,.c (.bool false)),(3,.c (.int .i64 (k.1:Int)))]) (λ_=>[]) (λk=>s.size - k.1) ⟨0,by simp[FC]⟩ ?_ ?_;all_goals simp only[puts,Bw,CO,Ag,Ai]
 exact DH;rintro ⟨k,R,E⟩;simp only;by_cases B:k<s.size;obtain⟨b,J,I,Q,F,_⟩:=bS B;rw[Q,Ep]at E;obtain⟨c,G⟩:∃c:Int,(b.toNat:Int)=c:=⟨_,rfl⟩
 rw[G]at E;cases e:NJ c with
 | true=>rw[e,Cd]at E;simp[NJ]at e;refine wy (cj @B<|cj @F<|cj @J<|cj @I<|cj @G<|cj (e.1)<|cj (e.2)<|vO) trivial ⟨?_⟩;exact⟨⟨k+1,by omega,E⟩,by simp only;omega,wd 0⟩
 | false=>rw[e,D4]at E;simp[NJ]at e;exact wz (cj5 @B @F @J @I @G vO) trivial
 rw[ij B,Nq]at E;rw[E,Cd];have F : ¬(k:Int)<(s.size:Int):=by omega
 exact wz (cj2 @B @F vO) trivial
theorem AW5 (hs:s.size<=maxLen):AC AF 179 [.c (.str s)] (.c (.bool (decide (s.size<=200) && FC Qm s))):=by
 unfold maxLen at hs;refine en func179 ntmps179 ?_;refine wy vK trivial ⟨?_⟩;refine lp (ι:={ k:Nat // k<=s.size/\FC Qm s=(s.data.toList.drop k).all λb=>Qm b.toNat }) (λk=>[(2,.c (.bool false)),(3,.c (.int .i64 (k.1:Int)))]) (λ_=>[]) (λk=>s.size - k.1) ⟨0,by simp[FC]⟩ ?_ ?_;all_goals simp only[puts,Bw,CO,Ag,Ai]
 exact DH;rintro ⟨k,Q,E⟩;simp only;by_cases B:k<s.size;obtain⟨b,J,I,K,F,_⟩:=bS B;rw[K,Ep]at E;obtain⟨c,G⟩:∃c:Int,(b.toNat:Int)=c:=⟨_,rfl⟩
 rw[G]at E;cases e:Qm c with
 | true=>rw[e,Cd]at E;simp[Qm]at e;refine wy (cj @B<|cj @F<|cj @J<|cj @I<|cj @G<|cj (e.1)<|cj (e.2)<|vK) trivial ⟨?_⟩;exact⟨⟨k+1,by omega,E⟩,by simp only;omega,wd 0⟩
 | false=>rw[e,D4]at E;simp[Qm]at e;rw[E,LV];exact wz (cj5 @B @F @J @I @G vK) trivial
 rw[ij B,Nq]at E;rw[E,Km];have F : ¬(k:Int)<(s.size:Int):=by omega
 have e:((s.size:Int)<=200)=(s.size<=200):=by rw[eq_iff_iff];omega
 exact wz (cj3 @B @F @e vK) trivial
theorem AJF :AC AF 180 [.c (.str s)] (.c (.bool (NY N0 s))):=by
 have e:NY N0 s=(decide (s=⟨#[104,97,116]⟩) || (decide (s=⟨#[98,97,114]⟩) || (decide (s=⟨#[118,101,99]⟩) || (decide (s=⟨#[100,111,116]⟩) || (decide (s=⟨#[116,105,108,100,101]⟩) || decide (s=⟨#[99,104,101,99,107]⟩)))))):=by
  simp only[NY,N0,mP,mQ,lz,@eq_comm _ _ s]
 rw[e];refine en func180 ntmps180 ?_;exact wz results180 trivial
theorem AWP :AC AF 246 [.c (.str s)] (.c (.bool (NY kQ s))):=by
 have e:NY kQ s=(decide (s=⟨#[102,114,97,99]⟩) || (decide (s=⟨#[114,111,111,116]⟩) || (decide (s=⟨#[109,97,116,114,105,120]⟩) || decide (s=⟨#[102,101,110,99,101]⟩)))):=by
  simp only[NY,kQ,mP,mQ,lz,@eq_comm _ _ s]
 rw[e];refine en func246 ntmps246 ?_;exact wz results246 trivial
theorem AV7 :AC AF 176 [.c (.str s)] (.c (.bool (decide (s=⟨#[]⟩)))):=by
 refine en func176 ntmps176 ?_;exact wz results176 trivial
theorem AWo (hs:s.size<=maxLen):AC AF 177 [.c (.str s)] (.c (.bool (Z1 s))):=by
 have E:=AWa s hs;have S:=AWP s;have U:=AJF s;unfold maxLen at hs;unfold Z1;by_cases g:s.size=1;rw[if_pos g];obtain⟨b,hb,CT,R,_,_⟩:=bS (s:=s) (k:=0) (by omega);rw[B9]at R;rw[ij (by omega)]at R;have I:FC Nc s=Nc b.toNat:=by unfold FC;rw[R];simp
 have J:FC bT s=(Nc b.toNat || Lq lP b.toNat):=by unfold FC;rw[R];simp[bT]
 have h4:=AYP lP s b g hb;unfold lP at *
 rw[J];rw[I]at E;have F:(s.size:Int)=1:=by omega
 cases K:Nc b.toNat with
 | true=>rw[K]at E;refine en nB nP ?_;exact wz (cj @F<|na) (cj E<|trivial)
 | false=>rw[K]at E;refine en nB nP ?_;exact wz (cj @F<|na) (cj2 E h4 trivial)
 . rw[if_neg g];have F : ¬(s.size:Int)=1:=by omega
   have I:((s.size:Int)<=16)=(s.size<=16):=by rw[eq_iff_iff];omega
   have J:((2:Int)<=(s.size:Int))=(2<=s.size):=by rw[eq_iff_iff];omega
   obtain⟨A,W⟩:=AI (FC Nc s);obtain⟨B,q⟩:=AI (NY kQ s);obtain⟨D,z⟩:=AI (NY N0 s);rw[W]at E ⊢;rw[q]at S ⊢;rw[z]at U ⊢;clear W q z;by_cases G:2<=s.size
   . by_cases Q:s.size<=16
     . rw[decide_eq_true G,decide_eq_true Q];cases A<;>cases B<;>cases D;all_goals
        refine en nB nP ?_;exact wz (cj5 @F @I @J @G @Q na) (cj3 E S U trivial)
     rw[decide_eq_true G,decide_eq_false Q,D4,LV,LV];refine en nB nP ?_;exact wz (cj5 @F @I @J @G @Q na) trivial
   rw[decide_eq_false G,D4,LV];refine en nB nP ?_;exact wz (cj4 @F @I @J @G na) trivial
theorem AFM (a e:Nat)(h:s.size<=maxLen):(s.extract a e).size<=maxLen:=by
 rw[ByteArray.size_extract];omega
theorem AWn (hs:s.size<=maxLen):AC AF 178 [.c (.str s)] (.c (.bool (dj s))):=by
 have B:=AYR s ⟨#[46]⟩ 46 hs rfl rfl;have G:=AA7 s hs;rw[<-AUl];unfold AAn;unfold im at B;have E:((s.size:Int)<=20)=(s.size<=20):=by rw[eq_iff_iff];omega
 by_cases g:s.size<=20;rw[decide_eq_true g,Cd];by_cases c:0<=EF s.data.toList 46;rw[if_pos c]at B ⊢;have F:=AA7 (s.extract 0 (EF s.data.toList 46).toNat) (AFM _ _ _ hs);have I:=AA7 (s.extract ((EF s.data.toList 46).toNat+1) s.size) (AFM _ _ _ hs);obtain⟨X,J⟩:=AI (s.extract 0 (EF s.data.toList 46).toNat);obtain⟨Y,K⟩:=AI (s.extract ((EF s.data.toList 46).toNat+1) s.size);rw[J]at B F ⊢;rw[K]at B I ⊢;cases D:Ug X with
 | true=>rw[D]at F;refine en gG gT ?_;exact wz (cj2 @E @g gg) (cj3 B F I trivial)
 | false=>rw[D]at F;refine en gG gT ?_;exact wz (cj2 @E @g gg) (cj2 B F trivial)
 rw[if_neg c]at B ⊢;cases D:Ug s with
 | true=>rw[D]at G;refine en gG gT ?_;exact wz (cj2 @E @g gg) (cj2 B G trivial)
 | false=>rw[D]at G;refine en gG gT ?_;exact wz (cj2 @E @g gg) (cj2 B G trivial)
 rw[decide_eq_false g,D4];by_cases c:0<=EF s.data.toList 46;rw[if_pos c]at B;refine en gG gT ?_;exact wz (cj2 @E @g gg) (cj B<|trivial);rw[if_neg c]at B;refine en gG gT ?_;exact wz (cj2 @E @g gg) (cj B<|trivial)
theorem AOu (c:Int):Lq RX c=Lq TC c:=by
 rw[Oj];simp[Lq,RX,TC];omega
theorem AJY (b:UInt8):AC AF 249 [.c (.str s),.c (.int .u8 b.toNat)] (.c (.int .i64 (EF s.data.toList b))):=by
 have h:=AYS s b.toNat;rwa [show ((b.toNat:Int)).toNat.toUInt8=b by simp]at h
theorem AWm :AC AF 181 [.c (.str s)] (.c (.bool (decide (s.size=2) && FC (Lq RX) s))):=by
 by_cases g:s.size=2;obtain⟨F,I,J,K,U,_⟩:=bS (s:=s) (k:=0) (by omega);obtain⟨d0,d1,d2,d3,d4,_⟩:=bS (s:=s) (k:=1) (by omega);have G : ∀b:UInt8,Lq RX b.toNat=decide (0<=EF TC.data.toList b):=λb=>by rw[AOu];exact(AHs _ _).symm
 have Q:FC (Lq RX) s=(decide (0<=EF TC.data.toList F) && decide (0<=EF TC.data.toList d0)):=by
  unfold FC;rw[B9]at K;rw[K,d3,ij (by omega),Ep,Ep,Nq,Km,G,G]
 have q1:=AJY TC F;have q2:=AJY TC d0;rw[decide_eq_true g,Cd,Q];have B:(s.size:Int)=2:=by omega
 obtain⟨X,R⟩:=AI (EF TC.data.toList F);obtain⟨Y,S⟩:=AI (EF TC.data.toList d0);rw[R]at q1 ⊢;rw[S]at q2 ⊢;unfold TC at *
 clear G Q R S;by_cases E:0<=X;rw[decide_eq_true E,Cd];refine en func181 ntmps181 ?_;exact wz (cj6 @B @I @J @d1 @d2 @E ADF) (cj2 q1 q2 trivial);rw[decide_eq_false E,D4];refine en func181 ntmps181 ?_;exact wz (cj6 @B @I @J @d1 @d2 @E ADF) (cj q1<|trivial);rw[decide_eq_false g,D4];have B : ¬(s.size:Int)=2:=by omega
 refine en func181 ntmps181 ?_;exact wz (cj @B<|ADF) trivial
def rU:List V:=[.c (.str ⟨#[]⟩),.c (.int .i64 0),.c .Cv,
 .c (.str ⟨#[114,111,119]⟩),.c (.int .i64 0),.fn 176 [],
 .c (.str ⟨#[115,121,109]⟩),.c (.int .i64 0),.fn 177 [],
 .c (.str ⟨#[110,117,109]⟩),.c (.int .i64 0),.fn 178 [],
 .c (.str ⟨#[116,101,120,116]⟩),.c (.int .i64 0),.fn 179 [],
 .c (.str ⟨#[102,114,97,99]⟩),.c (.int .i64 2),.fn 176 [],
 .c (.str ⟨#[114,111,111,116]⟩),.c (.int .i64 2),.fn 176 [],
 .c (.str ⟨#[115,117,98]⟩),.c (.int .i64 2),.fn 176 [],
 .c (.str ⟨#[115,117,112]⟩),.c (.int .i64 2),.fn 176 [],
 .c (.str ⟨#[98,111,116,104]⟩),.c (.int .i64 3),.fn 176 [],
 .c (.str ⟨#[97,99,99,101,110,116]⟩),.c (.int .i64 1),.fn 180 [],
 .c (.str ⟨#[102,101,110,99,101]⟩),.c (.int .i64 1),.fn 181 [],
 .c (.str ⟨#[109,97,116,114,105,120]⟩),.c (.int .i64 0),.fn 176 []]
theorem AWQ:AC AF 114 [] (.agg rU):=by
 unfold rU;refine en func114 ntmps114 ?_;exact wz results114 trivial
theorem AAi {Q:Nd->Prop}(h : ∀b:Nd,(∀k∈b.AE,Q k)->Q b):∀b:Nd,Q b:=by
 have : ∀(n:Nat) (b:Nd),SizeOf.sizeOf b<n->Q b:=by
  intro n;induction n with
  | zero=>intro b B;omega
  | succ n ih =>
    intro b B;refine h b λk E=>ih k ?_
    have:=List.sizeOf_lt_of_mem E;cases b;simp only[Nd.mk.sizeOf_spec]at B this;omega
 exact λb=>this _ b (Nat.lt_succ_self _)
theorem AXs : ∀b:Nd,∀m:Int,b.BX->0<=m->m<=100000->AC AF 64 [Am b,.c (.int .i64 m)] (.c (.int .i64 (b.Qb m))):=AAi λb ih m A5 hm FP=>by
 obtain⟨_,Q,rA⟩:=kf b A5;have K:=Pc b.AE;have hA:b.Qb m=Nd.OO b.AE (m - 1):=by cases b;rfl
 obtain⟨R,W⟩:=AI (Nd.OO b.AE (m - 1));rw[hA,W];obtain⟨z,G⟩:=AI (Nd.AG b.AE);rw[G]at K;unfold Am;unfold maxLen at Q;refine en func64 ntmps64 ?_;refine wy (cj2 @G @K vZ) trivial ⟨?_⟩;refine lp (ι:={ k:Nat×Int // k.1<=b.AE.length/\ -1<=k.2/\k.2<=100000/\R=Nd.OO (b.AE.drop k.1) k.2 }) (λk=>[(1,.c (.int .i64 k.1.2)),(4,.c (.int .i64 0)),(5,.c (.int .i64 (k.1.1:Int)))]) (λ_=>[.box 33 b.vs false]) (λk=>b.AE.length - k.1.1) ⟨(0,m - 1),by simp,by simp only;omega,by simp only;omega,by simp[W]⟩ ?_ ?_;all_goals simp only[puts,Bw,CO,Ag,Ai]
 exact DH;rintro ⟨⟨k,n⟩,hk,n1,q,F⟩;simp only at hk n1 q F ⊢;by_cases B:k<b.AE.length;obtain⟨c,E⟩:∃c,b.AE[k]?=some c:=⟨_,BE B⟩
 have S:z[k]?=some c.row:=by rw[<-G];exact XG E
 have U:k<z.length:=by omega
 have Bu:=gx S;rw[D5 B,gx E]at F;simp only[Nd.OO]at F;by_cases I:0<=n;rw[if_pos I]at F;have J:=ih c (Cj E) n (di rA c (Cj E)) I q;have Iq:=AAX c n I;unfold Am at J;refine wy (cj7 @G @K @B @U @S @Bu @I vZ) (cj J<|trivial) ⟨?_⟩;exact⟨⟨(k+1,c.Qb n),by simp only;omega,by simp only;omega,by simp only;omega,F⟩,by simp only;omega,wd 1⟩;rw[if_neg I]at F;exact wz (cj5 @G @K @B @U @I vZ) trivial;rw[FA (by omega)]at F;simp only[Nd.OO]at F;exact wz (cj3 @G @K @B vZ) trivial
theorem AXo (b:Nd)(m:Int)(E:b.BX)(B:0<=m)(F:m<=100000):AC AF 29 [Am b,.c (.int .i64 m)] (.c (.bool (decide ((b.cnt:Int)<=m)))):=by
 have h:=AXs b m E B F;rw[<-AUh b m B];unfold Am at h ⊢;refine en func29 ntmps29 ?_;exact wz results29 (cj h<|trivial)
def Dd (l:List Nd):Nd:=⟨1,⟨#[]⟩,0,l⟩
theorem AYC (l:List Nd):AC AF 27 [.c (.sl (Nd.AG l))] (Am (Dd l)):=by
 have e:Am (Dd l)=.agg [.c (.int .i64 1),.c (.str ⟨#[]⟩),.c (.int .i64 0),.c (.sl (Nd.AG l))]:=rfl;rw[e];refine en func27 ntmps27 ?_;exact wz results27 trivial
def JG (n:Nat):List V:=rU++[.c (.int .i64 (n:Int))]
@[simp] theorem AbX (n:Nat):(JG n).length=40:=rfl
@[simp] theorem AbV (n:Nat):(JG n)[39]?=some (.c (.int .i64 (n:Int))):=rfl
@[simp] theorem AbZ (n:Nat)(h:39<(JG n).length):(JG n)[39]'h=.c (.int .i64 (n:Int)):=rfl
@[simp] theorem AbY (n:Nat)(m:Nat):(JG n).set 39 (.c (.int .i64 (m:Int)))=JG m:=rfl
@[simp] theorem pM (n:Nat):V.Dj 0 (JG n)=some (JG n):=rfl
@[simp] theorem AEs (n:Nat):V.Pn (JG n)=true:=rfl
def kR (k c:Int)(n:Nat)(sl:Nat):Bool:=
 if k=1 then decide (c=0) && decide (n<=200)
 else if k=12 then decide (1<=c) && (decide (c<=16) && (decide (1<=n) && (decide (n<=256) && decide ((n:Int).tmod c=0))))
 else decide (c=0) && decide (n=sl)
theorem QZ {c:Int}{n G:Nat}(hs:(k≠1/\k≠12)->FL (k:Int) c n=(decide (c=0) && decide (n=G))):kR k c n G=FL k c n:=by
 unfold kR;by_cases E:k=1;subst E;have e:((1:Nat):Int)=1:=rfl;have I : ¬((1:Nat):Int)=12:=by decide
 rw[if_pos e];unfold FL;rw[if_neg I];by_cases B:c=0;rw[decide_eq_true B,Cd,if_neg (λh=>h B),if_pos e];rw[decide_eq_false B,D4,if_pos B];rw[if_neg (by omega)];by_cases F:k=12;subst F;have e:((12:Nat):Int)=12:=rfl;rw[if_pos e];unfold FL;rw[if_pos e];rw[if_neg (by omega),hs ⟨E,F⟩]
theorem Tg {c:Int}{n:Nat}(E:k≠12):FL k c n=(decide (c=0) && FL k 0 n):=by
 have e : ¬(k:Int)=12:=by omega
 by_cases B:c=0;subst B;simp;rw[decide_eq_false B,D4];unfold FL;rw[if_neg e,if_pos B]
theorem ATs (k:Nat)(G:1<=k)(I:k<=12)(s:ByteArray)(hs:s.size<=maxLen)(n:Nat):∃(g:FuncId) (F:Nat),(JG n)[k*3+2]?=some (.fn g [])/\(JG n)[k*3+1]?=some (.c (.int .i64 (F:Int)))/\Fp AF g=true/\AC AF g [.c (.str s)] (.c (.bool (Ki k s)))/\∀c m,kR k c m F=FL k c m:=by
 have E:=AV7 s;have B : ∀k:Int,k≠2->k≠3->k≠4->k≠10->k≠11->Ki k s=decide (s=⟨#[]⟩):=λk a b c d e=>by unfold Ki;rw[if_neg a,if_neg b,if_neg c,if_neg d,if_neg e]
 match k,G,I with
 | 1,_,_=>exact⟨_,0,rfl,rfl,by kernel_rfl,by rw[B _ (by decide) (by decide) (by decide) (by decide) (by decide)];exact E,λc m=>QZ λh=>absurd rfl h.1⟩
 | 2,_,_=>exact⟨_,0,rfl,rfl,by kernel_rfl,AWo s hs,λc m=>QZ λh=>Tg (by decide)⟩
 | 3,_,_=>exact⟨_,0,rfl,rfl,by kernel_rfl,AWn s hs,λc m=>QZ λh=>Tg (by decide)⟩
 | 4,_,_=>exact⟨_,0,rfl,rfl,by kernel_rfl,AW5 s hs,λc m=>QZ λh=>Tg (by decide)⟩
 | 5,_,_=>exact⟨_,2,rfl,rfl,by kernel_rfl,by rw[B _ (by decide) (by decide) (by decide) (by decide) (by decide)];exact E,λc m=>QZ λh=>Tg (by decide)⟩
 | 6,_,_=>exact⟨_,2,rfl,rfl,by kernel_rfl,by rw[B _ (by decide) (by decide) (by decide) (by decide) (by decide)];exact E,λc m=>QZ λh=>Tg (by decide)⟩
 | 7,_,_=>exact⟨_,2,rfl,rfl,by kernel_rfl,by rw[B _ (by decide) (by decide) (by decide) (by decide) (by decide)];exact E,λc m=>QZ λh=>Tg (by decide)⟩
 | 8,_,_=>exact⟨_,2,rfl,rfl,by kernel_rfl,by rw[B _ (by decide) (by decide) (by decide) (by decide) (by decide)];exact E,λc m=>QZ λh=>Tg (by decide)⟩
 | 9,_,_=>exact⟨_,3,rfl,rfl,by kernel_rfl,by rw[B _ (by decide) (by decide) (by decide) (by decide) (by decide)];exact E,λc m=>QZ λh=>Tg (by decide)⟩
 | 10,_,_=>exact⟨_,1,rfl,rfl,by kernel_rfl,AJF s,λc m=>QZ λh=>Tg (by decide)⟩
 | 11,_,_=>exact⟨_,1,rfl,rfl,by kernel_rfl,AWm s,λc m=>QZ λh=>Tg (by decide)⟩
 | 12,_,_=>exact⟨_,0,rfl,rfl,by kernel_rfl,by rw[B _ (by decide) (by decide) (by decide) (by decide) (by decide)];exact E,λc m=>QZ λh=>absurd rfl h.2⟩
theorem AVm {b:Nd}(h:b.kind<1\/12<b.kind):b.Cl=false:=by
 unfold Nd.Cl;have e:FL b.kind b.AL b.AE.length=false:=by
  unfold FL;generalize K:b.kind=k at h ⊢;have B : ¬k=12:=by omega
  have E : ¬k=1:=by omega
  have F : ¬(k=2\/k=3\/k=4):=by omega
  have G : ¬(k=5\/k=6\/k=7\/k=8):=by omega
  have I : ¬k=9:=by omega
  have J : ¬(k=10\/k=11):=by omega
  rw[if_neg B,if_neg E,if_neg F,if_neg G,if_neg I,if_neg J];split<;>rfl
 rw[e,LV]
theorem AWu (b:Nd)(n:Nat)(A5:b.BX):AY AF 182 [.ptr 0 0,.cp b.row 0] 164 (JG n) (JG n) (.c (.bool b.Cl)):=by
 obtain⟨FK,zT,_⟩:=kf b A5;have G:=Pc b.AE;obtain⟨rs,I⟩:=AI (Nd.AG b.AE);rw[I]at G;obtain⟨m,hm⟩:=AI b.AE.length;rw[hm]at G zT;unfold maxLen at zT;by_cases U:b.kind<1\/12<b.kind
 . rw[AVm U];refine AY.intro func182 rfl ?_;simp only[ntmps182,Ap,BB,BA,BO,Nat.reduceAdd,Nat.reduceSub,BY,Cy,BK,BU];rcases U with U|U
   . have B:=(cj @U<|NB)
     have E:=trivial;repeat any_goals (first|refine Du B E ⟨?_⟩|exact Bt B|(refine Dv B ?_ ?_<;>intro h<;>try exact Dw))
     all_goals simp[GI,DV,C0,DE,V.CP,V.CF,CJ,NB, *]
   . have PS : ¬b.kind<1:=by omega
     have B:=(cj2 @U @PS NB)
     have E:=trivial;repeat any_goals (first|refine Du B E ⟨?_⟩|exact Bt B|(refine Dv B ?_ ?_<;>intro h<;>try exact Dw))
     all_goals simp[GI,DV,C0,DE,V.CP,V.CF,CJ,NB, *]
 . obtain⟨k,Q⟩:∃k:Nat,b.kind=(k:Int):=⟨b.kind.toNat,by omega⟩
   obtain⟨g,sl,f2,f1,R,J,QP⟩:=ATs k (by omega) (by omega) b.text FK n;have hO:b.Cl=(Ki k b.text && kR k b.AL m sl):=by unfold Nd.Cl;rw[Q,hm,QP]
   rw[hO];clear QP hO;have W : ¬(k:Int)<1:=by omega
   have q : ¬(12:Int)<(k:Int):=by omega
   have z:(k:Int)<13:=by omega
   have k4:k<13:=by omega
   generalize A1:Ki k b.text=TB at J ⊢;obtain⟨c,K⟩:=AI b.AL;rw[K];refine AY.intro func182 rfl ?_;simp only[ntmps182,Ap,BB,BA,BO,Nat.reduceAdd,Nat.reduceSub,BY,Cy,BK,BU];cases TB with
   | false =>
     have B:=(cj9 @Q @W @q @z @k4 @f1 @f2 @R @I<|cj2 @G @K NB)
     have E:=(cj J<|trivial)
     repeat any_goals (first|refine Du B E ⟨?_⟩|exact Bt B|(refine Dv B ?_ ?_<;>intro h<;>try exact Dw))
     all_goals simp[GI,DV,C0,DE,V.CP,V.CF,CJ,NB, *]
   | true =>
     rw[Cd];unfold kR;by_cases q1:k=1
     . have F:(k:Int)=1:=by omega
       rw[if_pos F];have A0:((k:Int)=1)↔True:=⟨λ_=>trivial,λ_=>F⟩
       have e4:((m:Int)<=200)=(m<=200):=by rw[eq_iff_iff];omega
       have B:=(cj9 @Q @W @q @z @k4 @f1 @f2 @R @I<|cj4 @G @K @A0 @e4 NB)
       have E:=(cj J<|trivial)
       repeat any_goals (first|refine Du B E ⟨?_⟩|exact Bt B|(refine Dv B ?_ ?_<;>intro h<;>try exact Dw))
       all_goals simp[GI,DV,C0,DE,V.CP,V.CF,CJ,NB, *]
     . have F : ¬(k:Int)=1:=by omega
       rw[if_neg F];by_cases q2:k=12
       . have lA:(k:Int)=12:=by omega
         rw[if_pos lA];have xx:((k:Int)=12)↔True:=⟨λ_=>trivial,λ_=>lA⟩
         have e5:((m:Int)<=256)=(m<=256):=by rw[eq_iff_iff];omega
         have e6:((1:Int)<=(m:Int))=(1<=m):=by rw[eq_iff_iff];omega
         by_cases S:1<=c
         . by_cases g2:c<=16
           . have c0 : ¬c=0:=by omega
             have w0:AZ.wrap ((m:Int).tmod c)=(m:Int).tmod c:=by
              have h1:=Int.tmod_nonneg c (show (0:Int)<=(m:Int)by omega);have h2:=Int.tmod_lt_of_pos (m:Int) (show (0:Int)<c by omega);exact Ac
             rw[decide_eq_true S,decide_eq_true g2,Cd,Cd];have B:=(cj9 @Q @W @q @z @k4 @f1 @f2 @R @I<|cj9 @G @K @F @xx @e5 @e6 @S @g2 @c0<|cj @w0 NB)
             have E:=(cj J<|trivial)
             repeat any_goals (first|refine Du B E ⟨?_⟩|exact Bt B|(refine Dv B ?_ ?_<;>intro h<;>try exact Dw))
             all_goals simp[GI,DV,C0,DE,V.CP,V.CF,CJ,NB, *]
           . rw[decide_eq_true S,decide_eq_false g2,Cd,D4];have B:=(cj9 @Q @W @q @z @k4 @f1 @f2 @R @I<|cj8 @G @K @F @xx @e5 @e6 @S @g2 NB)
             have E:=(cj J<|trivial)
             repeat any_goals (first|refine Du B E ⟨?_⟩|exact Bt B|(refine Dv B ?_ ?_<;>intro h<;>try exact Dw))
             all_goals simp[GI,DV,C0,DE,V.CP,V.CF,CJ,NB, *]
         . rw[decide_eq_false S,D4];have B:=(cj9 @Q @W @q @z @k4 @f1 @f2 @R @I<|cj7 @G @K @F @xx @e5 @e6 @S NB)
           have E:=(cj J<|trivial)
           repeat any_goals (first|refine Du B E ⟨?_⟩|exact Bt B|(refine Dv B ?_ ?_<;>intro h<;>try exact Dw))
           all_goals simp[GI,DV,C0,DE,V.CP,V.CF,CJ,NB, *]
       . have lA : ¬(k:Int)=12:=by omega
         rw[if_neg lA];have e7:((m:Int)=(sl:Int))=(m=sl):=by rw[eq_iff_iff];omega
         have B:=(cj9 @Q @W @q @z @k4 @f1 @f2 @R @I<|cj5 @G @K @F @lA @e7 NB)
         have E:=(cj J<|trivial)
         repeat any_goals (first|refine Du B E ⟨?_⟩|exact Bt B|(refine Dv B ?_ ?_<;>intro h<;>try exact Dw))
         all_goals simp[GI,DV,C0,DE,V.CP,V.CF,CJ,NB, *]
@[simp] theorem AbW (k n:Nat):V.BI k (JG n)=true:=rfl
theorem AWs (b:Nd)(A5:b.BX)(B c:Nat)(hd:B<=25)(hc:c+b.cnt<=1000000)(ih : ∀k∈b.AE,∀(B c:Nat),B<=25->c+k.cnt<=1000000->AY AF 115 [.ptr 0 0,.cp k.row 0,.c (.int .i64 (B:Int))] 164 (JG c) (JG (k.pv B c).2) (.c (.bool (k.pv B c).1))):AY AF 115 [.ptr 0 0,.cp b.row 0,.c (.int .i64 (B:Int))] 164 (JG c) (JG (b.pv B c).2) (.c (.bool (b.pv B c).1)):=by
 have FX:=Tm b;have Ce:=SH b.AE;have J:=AWu b (c+1) A5;have W:=Pc b.AE;obtain⟨rs,S⟩:=AI (Nd.AG b.AE);rw[S]at W;have hR:b.pv B c=if 1000<c+1\/24<B\/b.Cl=false then(false,c+1)else Nd.HU (B+1) b.kind b.AE (c+1):=by cases b;rw[Nd.pv];rfl
 generalize qR:b.Cl=OB at J hR;have R:AZ.wrap ((c:Int)+1)=((c+1:Nat):Int):=by rw[Ac];simp
 generalize A0:c+1=q at R J hR;obtain⟨K,hK⟩:=AI b.kind;rw[hK]at hR;have e1:((1000:Int)<(q:Int))=(1000<q):=by rw[eq_iff_iff];omega
 have e2:((24:Int)<(B:Int))=(24<B):=by rw[eq_iff_iff];omega
 rw[hR];by_cases h1:1000<q
 . rw[if_pos (.inl h1)];refine AY.intro nA rfl ?_;simp only[ntmps115,Ap,BB,BA,BO,Nat.reduceAdd,Nat.reduceSub,BY,Cy,BK,BU];have E:=(cj3 @R @e1 @h1 NA)
   have F:=trivial;repeat any_goals (first|refine Du E F ⟨?_⟩|exact Bt E|(refine Dv E ?_ ?_<;>intro h<;>try exact Dw))
   all_goals simp[GI,DV,C0,DE,V.CP,V.CF,CJ,NA, *]
 by_cases h2:24<B
 . rw[if_pos (.inr (.inl h2))];refine AY.intro nA rfl ?_;simp only[ntmps115,Ap,BB,BA,BO,Nat.reduceAdd,Nat.reduceSub,BY,Cy,BK,BU];have E:=(cj5 @R @e1 @e2 @h1 @h2 NA)
   have F:=trivial;repeat any_goals (first|refine Du E F ⟨?_⟩|exact Bt E|(refine Dv E ?_ ?_<;>intro h<;>try exact Dw))
   all_goals simp[GI,DV,C0,DE,V.CP,V.CF,CJ,NA, *]
 refine AY.intro nA rfl ?_;simp only[ntmps115,Ap,BB,BA,BO,Nat.reduceAdd,Nat.reduceSub,BY,Cy,BK,BU];have E:=(cj @R<|NA)
 repeat any_goals (first|refine Qu (.mk 2) ?_|exact Bt E|refine De E ?_|refine DI E ?_|((first|refine JC E ?_ ?_|refine JE E ?_ ?_|refine JD E ?_ ?_|refine JY E ?_ ?_)<;>intro h<;>try (exfalso;first|omega|contradiction)))
 refine AW.DA ?_;refine CY (.mk 12) (cj3 @e1 @e2 @h1 @h2) ?_;refine SW.V9 0 J func182 (by kernel_rfl) (by kernel_rfl) (by simp[BQ]) (by simp[C7];first|exact rfl|exact⟨rfl,rfl⟩) (by simp[V.Dj,V.Di];try exact rfl) (by rfl) (pM _) (pM _) (AEs _) ?_;simp only[St.step,St.put,Bk,BA,BO,Nat.reduceAdd,Nat.reduceLT,if_true,Ai,Ag];cases OB with
 | false =>
   rw[if_pos (.inr (.inr rfl))];refine CY (.mk 2) trivial ?_;refine SW.nil ?_;have E:=(NA)
   have F:=trivial;repeat any_goals (first|refine Du E F ⟨?_⟩|exact Bt E|(refine Dv E ?_ ?_<;>intro h<;>try exact Dw))
   all_goals simp[GI,DV,C0,DE,V.CP,V.CF,CJ,NA, *]
 | true =>
   rw[if_neg (by rintro (h|h|h)<;>first|omega|cases h)];refine CY (.mk 2) trivial ?_;refine SW.nil ?_;have z:AZ.wrap ((B:Int)+1)=((B+1:Nat):Int):=by rw[Ac];simp
   obtain⟨Q,hQ⟩:=AI (Nd.HU (B+1) K b.AE q);rw[hQ];have E:=(cj2 @S @W NA)
   have F:=trivial;repeat any_goals (first|refine Du E F ⟨?_⟩|exact Bt E|(refine Dv E ?_ ?_<;>intro h<;>try exact Dw))
   refine lp (ι:={ k:Nat×Nat // k.1<=b.AE.length/\k.2+Nd.Az (b.AE.drop k.1)<=1000000/\Q=Nd.HU (B+1) K (b.AE.drop k.1) k.2 }) (λk=>[(35,.c (.int .i64 (k.1.1:Int))),(6,.c (.bool false))]) (λk=>[.box 164 (JG k.1.2) false]) (λk=>b.AE.length - k.1.1) ⟨(0,q),by simp,by simp;omega,by simp[hQ]⟩ ?_ ?_;all_goals simp only[puts,Bw,CO,Ag,Ai]
   exact DH
   . rintro ⟨⟨j,n⟩,hj,hb,G⟩;simp only at hj hb G ⊢;by_cases I:j<b.AE.length
     . obtain⟨k,EC⟩:∃k,b.AE[j]?=some k:=⟨_,BE I⟩
       have A9:rs[j]?=some k.row:=by rw[<-S];exact XG EC
       have Dp:j<rs.length:=by omega
       have Bu:=gx A9;rw[D5 I,gx EC]at G hb;simp only[Nd.Az]at hb;simp only[Nd.HU]at G;have VF:=ih k (Cj EC) (B+1) n (by omega) (by omega);have KE:=(AAj (B+1) k n).1;have hw:AZ.wrap ((j:Int)+1)=((j+1:Nat):Int):=by rw[Ac];simp
       obtain⟨⟨r,n'⟩,hr⟩:=AI (Nd.pv (B+1) k n);rw[hr]at VF G KE;simp only at VF G KE;obtain⟨D,hD⟩:∃D:Int,((B+1:Nat):Int)=D:=⟨_,rfl⟩
       rw[hD]at VF z;cases U:Pa K k.kind with
       | true =>
         rw[U,if_pos rfl]at G;have xT:(decide (K=1)==decide (k.kind=1))=true:=by unfold Pa at U;rw[<-U];cases decide (K=1)<;>cases decide (k.kind=1)<;>rfl
         have E:=(cj9 @S @W @I @Dp @A9 @Bu @hK @xT @G NA)
         have F:=trivial;repeat any_goals (first|refine Du E F ⟨?_⟩|exact Bt E|(refine Dv E ?_ ?_<;>intro h<;>try exact Dw))
         all_goals simp[GI,DV,C0,DE,V.CP,V.CF,CJ,NA, *]
       | false =>
         rw[U,if_neg (by simp)]at G;have xT:(decide (K=1)==decide (k.kind=1))=false:=by unfold Pa at U;rw[<-U];cases decide (K=1)<;>cases decide (k.kind=1)<;>rfl
         have E:=(cj7 @S @W @I @Dp @A9 @Bu @hK NA)
         repeat any_goals (first|refine Qu (.mk 7) ?_|exact Bt E|refine De E ?_|refine DI E ?_|((first|refine JC E ?_ ?_|refine JE E ?_ ?_|refine JD E ?_ ?_|refine JY E ?_ ?_)<;>intro h<;>try (exfalso;first|omega|contradiction)))
         refine AW.Lm Fz (.inl rfl) ?_;refine TW.take 25 (Es (by simp[S,W,I,Dp,A9,Bu,hK,xT,z];first|exact rfl|exact⟨rfl,rfl⟩|exact⟨rfl,rfl,rfl⟩) (UZ ?_));simp only[CU,B9];refine TW.V9 0 VF nA (by kernel_rfl) (by kernel_rfl) (by simp[BQ]) (by simp[C7];first|exact rfl|exact⟨rfl,rfl⟩) (by simp[V.Dj,V.Di];try exact rfl) (by rfl) (pM _) (pM _) (AEs _) ?_;simp only[St.step,St.put,Bk,BA,BO,Nat.reduceAdd,Nat.reduceLT,if_true,Ai,Ag];cases r with
         | false =>
           rw[if_neg (by simp)]at G;refine TW.take 2 (Es (by simp;first|exact rfl|exact⟨rfl,rfl⟩|exact⟨rfl,rfl,rfl⟩) (UZ (TW.nil ⟨by kernel_rfl,?_⟩)));have E:=(NA)
           have F:=trivial;repeat any_goals (first|refine Du E F ⟨?_⟩|exact Bt E|(refine Dv E ?_ ?_<;>intro h<;>try exact Dw))
           all_goals simp[GI,DV,C0,DE,V.CP,V.CF,CJ,NA, *]
         | true =>
           rw[if_pos rfl]at G;refine TW.take 2 (Es (by simp;first|exact rfl|exact⟨rfl,rfl⟩|exact⟨rfl,rfl,rfl⟩) (UZ (TW.nil ⟨by kernel_rfl,?_⟩)));have E:=(cj @hw<|NA)
           have F:=trivial;repeat any_goals (first|refine Du E F ⟨?_⟩|exact Bt E|(refine Dv E ?_ ?_<;>intro h<;>try exact Dw))
           exact⟨⟨(j+1,n'),by simp only;omega,by simp only;omega,G⟩,by simp only;omega,wd 1⟩
     . rw[FA (by omega)]at G;simp only[Nd.HU]at G;have E:=(cj4 @S @W @I @G NA)
       have F:=trivial;repeat any_goals (first|refine Du E F ⟨?_⟩|exact Bt E|(refine Dv E ?_ ?_<;>intro h<;>try exact Dw))
       all_goals simp[GI,DV,C0,DE,V.CP,V.CF,CJ,NA, *]
theorem AWr : ∀b:Nd,b.BX->∀(B c:Nat),B<=25->c+b.cnt<=1000000->AY AF 115 [.ptr 0 0,.cp b.row 0,.c (.int .i64 (B:Int))] 164 (JG c) (JG (b.pv B c).2) (.c (.bool (b.pv B c).1)):=AAi λb ih E B c I G=>AWs b E B c I G λk F=>ih k F (di (kf b E).2.2 k F)
theorem ABQ (b:Nd)(J:b.BX)(Q:b.cnt<=900000):AC AF 66 [Am b] (.c (.bool b.Ad)):=by
 have I:=AWr b J 1 0 (by omega) (by omega);have G:=AWQ;unfold rU at G;unfold Am;by_cases E:b.kind=1
 . rw[<-AUj b E];obtain⟨⟨r,n⟩,K⟩:=AI (b.pv 1 0);rw[K]at I ⊢;simp only at I ⊢;refine en func66 ntmps66 ?_;have B:=(ADW)
   repeat any_goals (first|refine Qu (.mk 2) ?_|exact Bt B|refine De B ?_|refine BV B (G) ?_|refine DI B ?_|((first|refine JC B ?_ ?_|refine JE B ?_ ?_|refine JD B ?_ ?_|refine JY B ?_ ?_)<;>intro h<;>try (exfalso;first|omega|contradiction)))
   refine Cn 0 ?_;refine AW.DA ?_;refine CY (.mk 5) @E ?_;refine SW.V9 1 I nA (by kernel_rfl) (by kernel_rfl) (by simp[BQ]) (by simp[C7];first|exact rfl|exact⟨rfl,rfl⟩) (by simp[V.Dj,V.Di];try exact rfl) (by rfl) (by rfl) (cs':=JG n) (by rfl) (by rfl) ?_;simp only[St.step,St.put,Bk,BA,BO,Nat.reduceAdd,Nat.reduceLT,if_true,Ai,Ag];refine CY (.mk 2) trivial ?_;refine SW.nil ?_;have B:=(ADW)
   have F:=trivial;repeat any_goals (first|refine Du B F ⟨?_⟩|exact Bt B|(refine Dv B ?_ ?_<;>intro h<;>try exact Dw))
 . have e:b.Ad=false:=by unfold Nd.Ad;rw[decide_eq_false E,D4]
   rw[e];refine en func66 ntmps66 ?_;have B:=(cj @E<|ADW)
   have F:=(cj G<|trivial)
   repeat any_goals (first|refine Du B F ⟨?_⟩|exact Bt B|(refine Dv B ?_ ?_<;>intro h<;>try exact Dw))
theorem ABR (l:List Nd)(F:(Dd l).BX)(I:(Dd l).cnt<=900000):AC AF 103 [.c (.sl (Nd.AG l))] (.c (.bool (Dd l).Ad)):=by
 have E:=ABQ (Dd l) F I;have e:Am (Dd l)=.agg [.c (.int .i64 1),.c (.str ⟨#[]⟩),.c (.int .i64 0),.c (.sl (Nd.AG l))]:=rfl;rw[e]at E;refine en func103 ntmps103 ?_;have B:=(results103)
 have G:=(cj E<|trivial)
 repeat any_goals (first|refine Du B G ⟨?_⟩|exact Bt B|(refine Dv B ?_ ?_<;>intro h<;>try exact Dw))
def HG (n:Nat)(M:ByteArray->Option Int)(ob:Obj):Prop:=
 ∀(w:World) (b:Nat),w.heap[b]?=some ob->∃D:DataW Unit,w.ownsMap AF 9 (plainElem AF 3) b n D/\Maps.IsMap D/\
  ∀s:ByteArray,s.size<=maxLen->∀d,D.atKey (.string s.data.toList) (.lit d)=.lit (match M s with|some h=>.int .i64 h|none=>d)
def Y3 (M:ByteArray->Option Int)(s:ByteArray)(h:Int):ByteArray->Option Int:=λx=>if x=s then some h else M x
theorem HG.made:HG 0 (λ_=>none) (.map #[] 0):=λw b B=>⟨.map [],⟨#[],0,B,⟨by simp,MapKept.stamped_empty 0,by simp⟩,Nat.le_refl _,rfl⟩,Maps.isMap_empty,λ_ _ _=>rfl⟩
theorem AbC (w:World):(zeroValue 3).run AF w=.ok (.int .i64 0) w:=by kernel_rfl
theorem HG.look {b n:Nat}{R:Obj}(h:HG n M R)(hb:w.heap[b]?=some R){s:ByteArray}(hs:s.size<=maxLen):
 (Instr.lookup 139 (.map (some b)) (.string s) true).run AF w=.ok (.tuple #[.int .i64 ((M s).getD 0),.bool (M s).isSome]) w/\∀a,M s=some a->(I9 .i64 a).wf=true:=by
 obtain⟨D,⟨es,clock,q,F,_,rfl⟩,_,z⟩:=h w b hb;have I:=z s hs;rcases Maps.fit_look (t:=139) true (me Lb) vi (AbC w) q F (n6 Lb hs)with ⟨B,_,E⟩|⟨e0,y,_,_,B,K,E,_⟩
 cases J:M s with
 | none=>exact⟨by simpa using B,λa e=>by cases e⟩
 | some a =>
   have:=I (.bool true);rw[E,J]at this;cases this
 obtain⟨c,S,U,W⟩:=plainElem_int_inv Fo K;cases J:M s with
 | none =>
   have G:=I (.bool true);have Q:=I (.bool false);rw[E,J]at G Q;rw[G]at Q;cases Q
 | some a =>
   have G:=I (.bool true);rw[E,J,U]at G;simp only[DataW.lit.injEq,Lit.int.injEq,true_and]at G;subst G;refine⟨by rw[S]at B;simpa using B,λb e=>?_⟩;cases e;exact W
theorem HG.store {b n:Nat}{Q:Obj}(h:HG n M Q)(hb:w.heap[b]?=some Q)(hn:n<maxLen){s:ByteArray}(hs:s.size<=maxLen){a:Int}(ha:(I9 .i64 a).wf=true):
 ∃w' G,(Instr.mapUpdate 139 (.map (some b)) (.string s) (.int .i64 a)).run AF w=.ok () w'/\w.grownBy w' (some b)/\w'.heap[b]?=some G/\still G=false/\HG (n+1) (Y3 M s a) G:=by
 obtain⟨D,ho,K,z⟩:=h w b hb;obtain⟨w',E,S,hg⟩:=ho.update (t:=139) (me Lb) vi hn (n6 Lb hs) (plainElem_int Fo ha);obtain⟨I,B,U,F,W,q⟩:=S;refine⟨w',_,E,hg,U,rfl,λw2 b2 R=>⟨_,⟨I,B,R,F,W,q⟩,K.put _ _,λx hx d=>?_⟩⟩;by_cases e:x=s;subst e;have hk:WideAt.IsKeyLit (Vh x.data.toList):=trivial;rw[Maps.atKey_put_same K hk];simp[Y3];have J:Vh x.data.toList≠Vh s.data.toList:=λh=>e (by cases x;cases s;simpa using h)
 rw[Maps.atKey_put_other J];simp only[Y3,if_neg e];exact z x hx d
section
variable {S0:BF} {w0:Bs} {x:Cx} {w:World} {H:Bx} {a:Act} {o:Oper}
theorem AVI (g:Good S0 w0 x w H){y:Operand}(ho:o.op=.makeMap 139 (some y)){R:IntKind}{l:Int}(F:CV x w (.c (.int R l)) (a.eval y))(k:Nat)(K : ¬x.dom k):BW AF o a S0 w0 x w H (.mp k) (some (k,.mp (λ_=>HG 0 λ_=>none))):=by
 simp only[CV,Ab]at F;have B:Ay w (w.alloc (.map #[] 0)):=(Ay.refl w).alloc _;have E:Ext x (x.C4 k ⟨w.heap.size,0,false,0,false⟩) w (w.alloc (.map #[] 0)):=Good.ext1 k _ K λb j v _ I=>B.cell I
 have G:=g.H5 k (.mp (λ_=>HG 0 λ_=>none)) E (.FR B) (λi=>Iff.rfl) (λi J=>by simp[Cx.C4,J]) (λ_=>.inr (by simp[Cx.C4])) ⟨by simp[Cx.C4],by simp[Cx.C4],_,by simp only[Cx.C4,if_true];exact heap_alloc_new w _,rfl,HG.made⟩ (λb j h=>.inl h) (λj Q S=>Q);refine⟨_,_,_,.map (some w.heap.size),?_,.inl rfl,?_,G,E,λk' h=>h.elim .inl λe=>.inr ⟨.mp (λ_=>HG 0 λ_=>none),by rw[e]⟩,λ_=>rfl⟩;simp[execOp,ho,F.1,Instr.makeMap,run_underlying vi];rfl;simp only[CV,Cx.C4,if_true];exact⟨.inr trivial,trivial,trivial⟩
theorem AU5 (g:Good S0 w0 x w H){y z:Operand}(ho:o.op=.lookup 139 y z true){k n:Nat}{s:ByteArray}(B:CV x w (.mp k) (a.eval y))(E:CV x w (.c (.str s)) (a.eval z))(Q:H k=some (.mp (λ_=>HG n M))):BW AF o a S0 w0 x w H (.A7 [.c (.int .i64 ((M s).getD 0)),.c (.bool (M s).isSome)]) none:=by
 simp only[CV,Ab]at B E;obtain⟨S,U,B⟩:=B;obtain⟨E,R⟩:=E;obtain⟨_,_,_,W,K,_,J⟩:=g.ok k _ Q;obtain⟨F,G⟩:=J.look K R;refine BW.pure g (u:=.tuple #[.int .i64 ((M s).getD 0),.bool (M s).isSome]) (by simp[execOp,ho,B,E,F]) ?_;simp only[CV,AO,Ab];refine⟨_,rfl,_,_,rfl,⟨rfl,?_⟩,_,_,rfl,rfl,rfl⟩;cases I:M s with
 | none=>rfl
 | some a=>exact G a I
theorem AU6 (g:Good S0 w0 x w H){y z:Operand}(ho:o.op=.lookup 139 y z true){k m n:Nat}{s:ByteArray}(F:CV x w (.c (.MA m)) (a.eval y))(B:CV x w (.c (.str s)) (a.eval z))(Q:H k=some (.mp (Ci m (HG n M)))):BW AF o a S0 w0 x w H (.A7 [.c (.int .i64 ((M s).getD 0)),.c (.bool (M s).isSome)]) none:=by
 simp only[CV,Ab]at F B;obtain⟨B,S⟩:=B;obtain⟨_,_,_,U,E,_,R,K⟩:=g.ok k _ Q;rw[R]at E;obtain⟨G,I⟩:=K.look E S;refine BW.pure g (u:=.tuple #[.int .i64 ((M s).getD 0),.bool (M s).isSome]) (by simp[execOp,ho,F,B,G]) ?_;simp only[CV,AO,Ab];refine⟨_,rfl,_,_,rfl,⟨rfl,?_⟩,_,_,rfl,rfl,rfl⟩;cases J:M s with
 | none=>rfl
 | some a=>exact I a J
theorem AU7 (g:Good S0 w0 x w H){y z v:Operand}(ho:o.op=.mapUpdate 139 y z v){k n:Nat}{s:ByteArray}(G:CV x w (.mp k) (a.eval y))(I:CV x w (.c (.str s)) (a.eval z)){J:Int}(F:CV x w (.c (.int .i64 J)) (a.eval v))(hk:H k=some (.mp (λ_=>HG n M)))(hn:n<maxLen):BW AF o a S0 w0 x w H .any (some (k,.mp (λ_=>HG (n+1) (Y3 M s J)))):=by
 simp only[CV,Ab]at G I F;obtain⟨R,ht,G⟩:=G;obtain⟨I,hs⟩:=I;obtain⟨F,Mk⟩:=F;obtain⟨_,h1,K,ob,hb,A0,hR⟩:=g.ok k _ hk;obtain⟨q,Cw,E,B,CT,VB,jT⟩:=hR.store hb hn hs Mk;have ar:Ar x.S x.S w q:=⟨λ_ _ h=>h,λb j v hS Q=>by
  have W:b≠(x.loc k).b:=λe=>by
   subst e;obtain⟨D,⟨es,clock,yp,_⟩,_⟩:=hR w _ hb;unfold World.cell? at Q;simp[yp]at Q
  have U:b<w.heap.size:=g.ex b j hS;exact(World.cell?_of_block (B.block b U λe=>W (ML e))).trans Q⟩
 have he:Ext x x w q:=⟨ar,λ_ h=>h,λ_ _=>FM.refl _⟩
 have g':=g.H5 k (.mp (λ_=>HG (n+1) (Y3 M s J))) he ⟨B.os,B.tape,B.output,B.size,λb Fc KY=>B.block b Fc λe=>KY ⟨R,K,(ML e).symm⟩⟩ (λi=>⟨.inl,λh=>h.elim id λe=>e ▸ R⟩) (λ_ _=>rfl) (λ_=>.inl ⟨R,K,rfl⟩) ⟨h1,K,Cw,CT,VB,jT⟩ (λb j h=>.inl h) (λj hx=>hx.elim);refine⟨.skip,q,x,undef,?_,.inr ⟨rfl,rfl⟩,by simp only[CV],g',he,λ_ h=>.inl h,λ_=>rfl⟩;simp[execOp,ho,G,I,F,E]
end
theorem AJo (hs:s.size<=maxLen):AC AF 95 [.c (.str s)] (.c (.bool (Ck s))):=by
 unfold maxLen at hs;refine en func95 ntmps95 ?_;refine Ah ?_;refine lp (ι:={ k:Nat // k<=s.size/\s.data.toList.all Dx=(s.data.toList.drop k).all Dx }) (λk=>[(3,.c (.int .i64 (k.1:Int))),(2,.c (.bool false))]) (λ_=>[]) (λk=>s.size - k.1) ⟨0,by simp⟩ ?_ ?_;all_goals simp only[puts,Bw,CO,Ag,Ai]
 exact DH;rintro ⟨k,W,F⟩;by_cases B:k<s.size;have R:s.data.toList.drop k=(s.data[k]'B)::s.data.toList.drop (k+1):=by rw[D5 (by simpa using B)];simp
 rw[R,Ep]at F;obtain⟨b,G⟩:=AI (s.data[k]'B);rw[G]at F;have S:AZ.wrap ((k:Int)+1)=((k+1:Nat):Int):=by rw[Ac];simp
 have K:Dx b=false->Ck s=false:=λe=>by unfold Ck;rw[F,e];rfl
 by_cases E:(b.toNat:Int)<32;rw[K (by simp[Dx];omega)];refine go (cj2 @B @G @E) ?_;exact At vg;by_cases I:(126:Int)<(b.toNat:Int);rw[K (by simp[Dx];omega)];refine go (cj3 @B @G @E @I) ?_;exact At vg;have e:Dx b=true:=by simp[Dx];omega
 refine go (cj4 @B @G @E @I @S) ?_;refine⟨⟨k+1,by omega,by rw[F,e,Cd]⟩,by simp only;omega,?_⟩;exact DH;have U:k=s.size:=by omega
 have e:s.data.toList.all Dx=true:=by rw[F,FA (by simp;omega)];rfl
 have Q:s.size=s.data.size:=rfl;have J:Ck s=(decide (1<=(s.size:Int)) && decide ((s.size:Int)<=16)):=by
  unfold Ck;rw[e,Cd,show decide (1<=s.size)=decide (1<=(s.size:Int))from by simp;omega,show decide (s.size<=16)=decide ((s.size:Int)<=16)from by simp;omega]
 rw[J];clear Q J;by_cases E:(1:Int)<=(s.size:Int);rw[decide_eq_true E,Cd];exact wz (cj2 @B @E vg) trivial;rw[decide_eq_false E,D4];exact wz (cj2 @B @E vg) trivial
theorem AW3 (p:Params):AC AF 94 [.agg p.vs] (.c (.bool (Qk p))):=by
 have E:=Xg 1 100 p.SK (F2 rfl);have F:=Xg 0 20000 p.lens (F2 rfl);have J:Qk p=(DX 1 100 p.SK && DX 0 20000 p.lens):=rfl;rw[J];cases I:DX 1 100 p.SK with
 | false=>rw[I]at E;rw[D4];unfold AV Params.SK at E;unfold Params.vs Params.list;simp only[Ap,BB]at E ⊢;refine en func94 ntmps94 ?_;exact wz results94 (cj E<|trivial)
 | true=>rw[I]at E;rw[Cd];unfold AV Params.SK at E;unfold AV Params.lens at F;unfold Params.vs Params.list;simp only[Ap,BB]at E F ⊢;obtain⟨B,G⟩:=AI (DX 0 20000 p.lens);unfold Params.lens at G;unfold Params.lens;rw[G]at F ⊢;refine en func94 ntmps94 ?_;exact wz results94 (cj2 E F trivial)
theorem ALw (m n:Nat)(M:ByteArray->Option Int):AQ AF 97 [.c (.str name),.cp [.MA m] 0] m (HG n M) (HG n M) (.ret (.A7 [.c (.int .i64 ((M name).getD 0)),.c (.bool (M name).isSome)])):=by
 refine CH func97 ntmps97 ?_;refine qu (.mk 1) results97 trivial ⟨?_⟩;refine AW.DA ?_;refine CY (.mk 2) trivial ?_;refine SW.Tq (.A7 [.c (.int .i64 ((M name).getD 0)),.c (.bool (M name).isSome)]) none (λ_ _ e=>nomatch e) rfl (λS0 w0 x a w g F=>?_) ?_;have B:=CW F (.tmp 8);have E:=CW F (.tmp 9);simp only[ev,Om,On]at B E;exact AU6 (k:=0) g rfl B E rfl;simp only[St.step,St.put,Bk,Ag,Ai];refine CY (.mk 5) trivial ?_;refine SW.nil ?_;exact qz results97 trivial
theorem Aai (s:Bc)(m n:Nat)(M:ByteArray->Option Int)(hn:s.name.size<=maxLen)(hM : ∀x h,M x=some h-> -60000<=h/\h<=60000)(hz:s.sizes.length<=maxLen)(hp:s.parts.length<=maxLen):AQ AF 98 [.agg (s.row.map V.c),.fn 97 [.cp [.MA m] 0]] m (HG n M) (HG n M) (.ret (.c (.bool (Oh M s)))):=by
 have h1:=AJo s.name hn;have S:=Xg 1 16 [(s.sizes.length:Int)] (F2 rfl);unfold maxLen at hz hp;unfold Bc.row Gv Ek;simp only[Ap,BB];unfold AV at S;simp only[Ap,BB]at S;obtain⟨W,yZ⟩:=AI ((s.sizes.map λn=>[C.str n]));obtain⟨PR,EO⟩:=AI (s.parts.map CR.row);have I:W.length=s.sizes.length:=by rw[<-yZ,Ch]
 have K:PR.length=s.parts.length:=by rw[<-EO,Ch]
 rw[yZ,EO];rw[<-I]at S;obtain⟨B1,Il⟩:=AI (Ck s.name);obtain⟨B2,O9⟩:=AI (DX 1 16 [(W.length:Int)]);have jW:Oh M s=((B1 && (B2 && decide (s.parts.length<=8))) && (Sc M (-60000) s.sizes && (if s.parts=[]then decide (s.overlap=0)else du M s))):=by unfold Oh;rw[Il,<-O9,I]
 rw[Il]at h1;rw[O9]at S;cases B1 with
 | false=>rw[jW,D4,D4];refine CH u4 vG ?_;exact qz (cj2 @I @K Ot) (cj2 h1 S trivial)
 | true =>
   cases B2 with
   | false=>rw[jW,D4,LV,D4];refine CH u4 vG ?_;exact qz (cj2 @I @K Ot) (cj2 h1 S trivial)
   | true =>
     by_cases h8:(8:Int)<(s.parts.length:Int);rw[jW,decide_eq_false (show ¬s.parts.length<=8 by omega),LV,LV,D4];refine CH u4 vG ?_;exact qz (cj3 @I @K @h8 Ot) (cj2 h1 S trivial)
     . rw[decide_eq_true (show s.parts.length<=8 by omega),LW,LW,Cd]at jW;rw[jW];refine CH u4 vG ?_;refine qy (cj3 @I @K @h8 Ot) (cj2 h1 S trivial) ⟨?_⟩;refine lp (ι:={ q:Nat×Int // q.1<=s.sizes.length/\Sc M (-60000) s.sizes=Sc M q.2 (s.sizes.drop q.1) }) (λq=>[(37,.c (.int .i64 (q.1.1:Int))),(5,.c (.int .i64 q.1.2))]) (λ_=>[O.mp (Ci m (HG n M)),O.box 117 [.c (.str s.name),.c (.sl W),.c (.sl PR),.c (.int .i64 s.overlap)] false]) (λq=>s.sizes.length - q.1.1) ⟨(0,-60000),by simp⟩ ?_ ?_;all_goals simp only[puts,Bw,CO,Ag,Ai]
       exact DH
       . rintro ⟨⟨k,la⟩,hk,F⟩;simp only at hk F ⊢;by_cases B:k<s.sizes.length;obtain⟨z,F7⟩:∃z,s.sizes[k]?=some z:=⟨_,BE B⟩
         have J:W[k]?=some [.str z]:=by rw[<-yZ,CM,F7];rfl
         have Q:=gx J;have U:k<W.length:=by omega
         have E:=ALw z m n M;have hw:AZ.wrap ((k:Int)+1)=((k+1:Nat):Int):=by rw[Ac];simp
         rw[D5 B,gx F7 B]at F;simp only[Sc]at F;cases cK:M z with
         | none=>rw[cK]at F E;simp only[Hr,H8]at E;simp only at F;rw[F,D4];exact qz (cj5 @B @I @J @Q @U Ot) (cj E<|trivial)
         | some h =>
           rw[cK]at F E;simp only[Dm,IZ]at E;simp only at F;by_cases A0:h<=la;rw[F,decide_eq_false (show ¬la<h by omega),D4,D4];exact qz (cj6 @B @I @J @Q @U @A0 Ot) (cj E<|trivial);rw[decide_eq_true (show la<h by omega),Cd]at F;refine qy (cj7 @B @I @J @Q @U @A0 @hw Ot) (cj E<|trivial) ⟨?_⟩;exact⟨⟨(k+1,h),by simp only;omega,F⟩,by simp only;omega,wd 2⟩
         . rw[FA (by omega)]at F;simp only[Sc]at F;rw[F,Cd];by_cases Wl:s.parts=[]
           have zi:(s.parts.length:Int)=0:=by rw[Wl];rfl
           rw[if_pos Wl];exact qz (cj4 @B @I @K @zi Ot) trivial
           . have zi : ¬(s.parts.length:Int)=0:=by
              have:=Kr.2 Wl;omega
             rw[if_neg Wl];unfold du;refine qy (cj4 @B @I @K @zi Ot) trivial ⟨?_⟩;refine lp (ι:={ q:Nat×Int×Bool // (q.1<=s.parts.length/\OW M 60000 false s.parts=OW M q.2.1 q.2.2 (s.parts.drop q.1))/\ -60000<=q.2.1/\q.2.1<=60000 }) (λq=>[(66,.c (.int .i64 (q.1.1:Int))),(10,.c (.int .i64 q.1.2.1)),(11,.c (.bool q.1.2.2))]) (λ_=>[O.mp (Ci m (HG n M)),O.box 117 [.c (.str s.name),.c (.sl W),.c (.sl PR),.c (.int .i64 s.overlap)] false]) (λq=>s.parts.length - q.1.1) ⟨(0,60000,false),by simp⟩ ?_ ?_;all_goals simp only[puts,Bw,CO,Ag,Ai]
             exact DH;rintro ⟨⟨j,l,e⟩,⟨hj,G⟩,FO,EX⟩;simp only at hj G FO EX ⊢;by_cases R:j<s.parts.length;obtain⟨q,hq⟩:∃z,s.parts[j]?=some z:=⟨_,BE R⟩
             have J:PR[j]?=some [.str q.name,.bool q.ext]:=by rw[<-EO,CM,hq];rfl
             have Q:=gx J;have U:j<PR.length:=by omega
             have E:=ALw q.name m n M;have hw:AZ.wrap ((j:Int)+1)=((j+1:Nat):Int):=by rw[Ac];simp
             rw[D5 R,gx hq R]at G;simp only[OW]at G;cases cK:M q.name with
             | none=>rw[cK]at G E;simp only[Hr,H8]at E;simp only at G;rw[G];simp only;exact qz (cj5 @R @K @J @Q @U Ot) (cj E<|trivial)
             | some h =>
               rw[cK]at G E;simp only[Dm,IZ]at E;simp only at G;have hb:=hM _ _ cK;generalize hX:q.ext=X at G J Q;have jy : -60000<=(if h<l then h else l)/\(if h<l then h else l)<=60000:=by split<;>omega
               cases e with
               | true=>refine qy (cj6 @R @K @J @Q @U @hw Ot) (cj E<|trivial) ⟨?_⟩;exact⟨⟨(j+1,if h<l then h else l,true),⟨by simp only;omega,G⟩,jy⟩,by simp only;omega,wd 2⟩
               | false=>refine qy (cj6 @R @K @J @Q @U @hw Ot) (cj E<|trivial) ⟨?_⟩;exact⟨⟨(j+1,if h<l then h else l,X),⟨by simp only;omega,G⟩,jy⟩,by simp only;omega,wd 2⟩
             rw[FA (by omega)]at G;simp only[OW]at G;rw[G];simp only;have mU:AZ.wrap (l - 1)=l - 1:=Ac;have h3:=Xg 0 (l - 1) [s.overlap] (F2 rfl);unfold AV at h3;simp only[Ap,BB]at h3;generalize TK:DX 0 (l - 1) [s.overlap]=B3 at h3 ⊢;cases e with
             | true=>rw[Cd];exact qz (cj2 @R @mU Ot) (cj h3<|trivial)
             | false=>rw[D4];exact qz (cj2 @R @mU Ot) (cj h3<|trivial)
theorem AW.AUY {m0:Mo}{P:Program}{c:Code}{K:Exit->St->Prop}{t:List V}{h:List O}(j k:Nat){R:Obj->Prop}{ty:TypeId}(hj:h[j]?=some (.mp λ_=>R))(hk:h[k]?=some (.box ty [.mp j] false))(hw : ∀m,AW m0 P c K ⟨t,(h.set j (.mp (Ci m R))).set k (.box ty [.c (.MA m)] false)⟩):AW m0 P c K ⟨t,h⟩:=λn S0 w0 x a w hm hA=>by
 refine hw (x.loc j).b n S0 w0 x a w hm ?_;have g:=hA.good;have G : ∀(i:Nat) (o:O),((h.set j (.mp (Ci (x.loc j).b R))).set k (.box ty [.c (.MA (x.loc j).b)] false))[i]?=some o->∃E,h[i]?=some E/\(Ld x w i E->Ld x w i o)/\(∀q,Ex x i o q->Ex x i E q):=by
  intro i o B;by_cases e:k=i;subst e;rw[IX (by simpa using (Br.1 hk).1)]at B;cases B;refine⟨_,hk,λ⟨Q,S,vs,U,W,I⟩=>⟨Q,S,vs,U,W,?_⟩,λq h=>h⟩;simp only[AO,CV,Ab]at I ⊢;obtain⟨u,ur,e1,⟨_,_,e2⟩,e3⟩:=I;exact⟨u,ur,e1,e2,e3⟩;rw[HF e]at B;by_cases e':j=i;subst e';rw[IX (Br.1 hj).1]at B;cases B;exact⟨_,hj,λ⟨Q,S,ob,U,W,I⟩=>⟨Q,S,ob,U,W,rfl,I⟩,λq h=>h⟩;rw[HF e']at B;exact⟨o,B,id,λq h=>h⟩
 refine⟨⟨λi o B=>?_,λi B=>?_,λi i' o o' J z A0 hv A1=>?_,λi o q B hx=>?_,g.ex,λi o B hv=>?_,g.new,g.sub,g.keep,g.ext⟩,hA.tm,hA.df⟩;obtain⟨E,J,z,_⟩:=G i o B;exact⟨(g.ok i E J).1,z (g.ok i E J).2⟩;obtain⟨o,ho⟩:=g.dom i B;have:=(Br.1 ho).1;exact⟨_,BE (by simpa using this)⟩;obtain⟨E,F,_⟩:=G i o J;obtain⟨kg,h4,_⟩:=G i' o' z;exact g.inj i i' E kg F h4 A0 hv A1;obtain⟨E,F,_,h4⟩:=G i o B;exact g.EA i E q F (h4 q hx);obtain⟨E,F,_⟩:=G i o B;exact g.own i E F hv
theorem AKK {S:BF}{w:World} : ∀ {row:List C} {b off:Nat},B5 S w row b off->∀c∈row,∃u,Ab S w c u
 | c::r,b,off,h,d,B=>by
   simp only[B5]at h;obtain⟨⟨v,_,E⟩,_,F⟩:=h;rcases Cf.1 B with rfl|B
   exact⟨v,E⟩;exact AKK F d B
theorem AKL {S:BF}{w:World} : ∀ {AG:List (List C)} {b off:Nat},D9 S w AG b off->∀r∈AG,∀c∈r,∃u,Ab S w c u
 | r::E,b,off,h,d,B=>by
   simp only[D9]at h;rcases Cf.1 B with rfl|B
   exact AKK h.1;exact AKL h.2 d B
theorem sX {S:BF}{AG:List (List C)}{v:Value}(h:Ab S w (.sl AG) v):AG.length<=maxLen/\∀r∈AG,∀c∈r,∃u,Ab S w c u:=by
 simp only[Ab]at h;obtain⟨A,c,_,I,J,E⟩:=h;refine⟨by omega,λr B=>?_⟩;obtain⟨b,G,es,_,_,F⟩:=E (List.ne_nil_of_mem B);exact AKL F r B
theorem ANB {P:Program}{f:FuncId}{args:List V}{res:V}{H:Prop}(E : ∀(S:BF) (w:World) (us:List Value),AO (Cx.bare S) w args us->H)(F:H->AC P f args res):AC P f args res:=λS w us G B=>F (E S w us B) S w us G B
def ADe (f:AP):Prop:=(∀g∈f.DR,g.name.size<=maxLen)/\∀s∈f.C5,s.name.size<=maxLen/\s.sizes.length<=maxLen/\s.parts.length<=maxLen
theorem APY {f:AP}{S:BF}{us:List Value}(h:AO (Cx.bare S) w [.agg f.vs] us):ADe f:=by
 simp only[AO,CV]at h;obtain⟨u,_,_,⟨vs,_,h⟩,_⟩:=h;simp only[AP.vs,AP.row,Ap,AO,CV]at h;obtain⟨q,_,_,Q,z,_,_,R,_⟩:=h;refine⟨λg U=>?_,λs W=>?_⟩;obtain⟨_,E⟩:=sX Q;obtain⟨u,B⟩:=E g.row (Da.2 ⟨g,U,rfl⟩) (.str g.name) (by simp[BG.row]);simp only[Ab]at B;exact B.2;obtain⟨_,E⟩:=sX R;have F:=E s.row (Da.2 ⟨s,W,rfl⟩);obtain⟨u,B⟩:=F (.str s.name) (by simp[Bc.row]);obtain⟨q,K⟩:=F (Gv s.sizes) (by simp[Bc.row]);obtain⟨z,G⟩:=F (Ek s.parts) (by simp[Bc.row]);simp only[Ab]at B;have I:=(sX K).1;have J:=(sX G).1;rw[Ch]at I J;exact⟨B.2,I,J⟩
theorem ASs (l:List BG)(g:BG)(h:R4 l g.name=none):Y3 (R4 l) g.name g.Dy=R4 (l++[g]):=by
 funext x;have B : ∀l:List BG,KU x (l++[g])=(KU x l).or (if g.name=x then some g else none):=by
  intro l;induction l with
  | nil=>simp[KU]
  | cons y r ih=>simp only[BK,KU,ih];split<;>simp
 simp only[Y3,R4,B];by_cases E:x=g.name;subst E;simp only[R4,Option.map_eq_none_iff]at h;simp[h];have : ¬g.name=x:=λe=>E e.symm
 simp[E,this]
theorem APe (f:AP)(hf:ADe f):AC AF 49 [.agg f.vs] (.c (.bool f.valid)):=by
 have QS:=AW3 f.params;obtain⟨GR,xv⟩:=AI (f.DR.map BG.row);obtain⟨SR,PE⟩:=AI (f.C5.map Bc.row);have R:O8 f.DR=.sl GR:=by rw[<-xv];rfl
 have F:MG f.C5=.sl SR:=by rw[<-PE];rfl
 have U:GR.length=f.DR.length:=by rw[<-xv,Ch]
 have PF:SR.length=f.C5.length:=by rw[<-PE,Ch]
 obtain⟨B,hB⟩:=AI (Qk f.params);rw[hB]at QS;by_cases n1:(400:Int)<(f.DR.length:Int);have e:f.valid=false:=by unfold AP.valid;rw[decide_eq_false (show ¬f.DR.length<=400 by omega)];rfl
 rw[e];refine en Hs vD ?_;exact wz (cj5 @R @F @U @PF @n1 Jz) (cj QS<|trivial);by_cases n2:(40:Int)<(f.C5.length:Int);have e:f.valid=false:=by unfold AP.valid;rw[decide_eq_false (show ¬f.C5.length<=40 by omega),D4,LV];rfl
 rw[e];refine en Hs vD ?_;exact wz (cj6 @R @F @U @PF @n1 @n2 Jz) (cj QS<|trivial);cases B with
 | false =>
   have e:f.valid=false:=by unfold AP.valid;rw[hB,LV,LV];rfl
   rw[e];refine en Hs vD ?_;exact wz (cj6 @R @F @U @PF @n1 @n2 Jz) (cj QS<|trivial)
 | true =>
   have hV:f.valid=(Ul [] f.DR && Xa f.ht [] f.C5):=by unfold AP.valid;rw[hB,decide_eq_true (show f.DR.length<=400 by omega),decide_eq_true (show f.C5.length<=40 by omega)];rfl
   refine en Hs vD ?_;refine wu (.mk 3) (cj6 @R @F @U @PF @n1 @n2 Jz) (cj QS<|trivial) ⟨?_⟩;refine AW.DA ?_;refine CY (.mk 3) @R ?_;refine SW.Tq (.mp 1) (some (1,.mp λ_=>HG 0 (R4 []))) (λk ob e=>by cases e;simp) rfl (λS0 w0 x a w g ht=>?_) ?_;have hY:=CW ht (.tmp 31);simp only[ev,Om,On]at hY;exact AVI g rfl hY 1 λhd=>by obtain⟨o,ho⟩:=g.dom 1 hd;simp at ho
   simp only[St.step,St.put,Bk,BA,BO,Nat.reduceAdd,Nat.reduceLT,Nat.lt_irrefl,if_false,Ag,Ai,BK,BU];refine CY (.mk 2) trivial ?_;refine SW.nil ?_;refine wy (cj2 @R @U Jz) trivial ⟨?_⟩;refine lp (ι:={ k:Nat // k<=f.DR.length/\Ul [] f.DR=Ul (f.DR.take k) (f.DR.drop k)/\∀g∈f.DR.take k,Lo g=true }) (λk=>[(36,.c (.int .i64 (k.1:Int)))]) (λk=>[O.box 27 f.vs false,O.mp λ_=>HG k.1 (R4 (f.DR.take k.1)),O.box 139 [V.mp 1] false]) (λk=>f.DR.length - k.1) ⟨0,by simp⟩ ?_ ?_;all_goals simp only[puts,Bw,CO,Ag,Ai]
   exact DH
   . rintro ⟨k,hk,S,hA⟩;simp only;by_cases E:k<f.DR.length;obtain⟨g,hg⟩:∃z,f.DR[k]?=some z:=⟨_,BE E⟩
     have I:GR[k]?=some [.str g.name,.int .i64 g.w,.int .i64 g.h,.int .i64 g.d,.int .i64 g.Ey,.int .i64 g.attach]:=by rw[<-xv,CM,hg];rfl
     have Q:=gx I;have J:k<GR.length:=by omega
     have A6:=hf.1 g (Cj hg);have hn:=AJo g.name A6;have EK:=Xg 0 20000 [g.w] (F2 rfl);have K:=Xg (-20000) 20000 [g.h,g.d,g.Ey,g.attach] (F2 rfl);unfold AV at EK K;simp only[Ap,BB]at EK K;rw[D5 E,gx hg E]at S;simp only[Ul]at S;obtain⟨B1,Il⟩:=AI (Ck g.name);obtain⟨B2,O9⟩:=AI (DX 0 20000 [g.w]);obtain⟨B3,TK⟩:=AI (DX (-20000) 20000 [g.h,g.d,g.Ey,g.attach]);have qH:Lo g=(B1 && (B2 && B3)):=by unfold Lo;rw[Il,O9,TK]
     rw[Il]at hn;rw[O9]at EK;rw[TK]at K;by_cases qI:Lo g=true;have cW:=TK;rw[qH,Ak,Ak]at qI;obtain⟨rfl,rfl,rfl⟩:=qI;simp only[DX,Ep,Nq,Km,Ak,decide_eq_true_eq]at cW;have B0:AZ.wrap (g.h+g.d)=g.Dy:=Ac;have OM:AZ.wrap ((k:Int)+1)=((k+1:Nat):Int):=by rw[Ac];simp
     rw[qH,LW,LW,Cd,AGe]at S;obtain⟨X,hX⟩:=AI (R4 (f.DR.take k) g.name);have qg:(KU g.name (f.DR.take k)).isSome=X.isSome:=by rw[<-hX];unfold R4;rw[Option.isSome_map]
     rw[qg]at S;refine wu (.mk 10) (cj6 @E @R @U @I @Q @J Jz) (cj3 hn EK K trivial) ⟨?_⟩;refine AW.Lm Fz (.inl rfl) ?_;refine TW.take 5 (Es (by simp[I,Q,J];first|exact rfl|exact⟨rfl,rfl⟩|exact⟨rfl,rfl,rfl⟩) (HI ?_));simp only[CU,B9];refine TW.op ⟨.A7 [.c (.int .i64 (X.getD 0)),.c (.bool X.isSome)],none,some 1⟩ rfl (λ_ _ h=>by cases h) ?_ ?_;intro S0 w0 y w a H gd G hr;rw[<-hX];exact AU5 gd rfl (G (.tmp 80) (by simp[Bl])) (G (.tmp 84) (by simp[Bl])) (hr 1 rfl);simp only[St.step,St.put,Z7,Ai,Ag];refine TW.take 5 (Es (by simp;first|exact rfl|exact⟨rfl,rfl⟩|exact⟨rfl,rfl,rfl⟩) (HI (TW.nil ⟨by kernel_rfl,?_⟩)));cases X with
     | some y =>
       have e:f.valid=false:=by
        rw[hV,S];rfl
       rw[e];simp only[IZ];exact wz Jz trivial
     | none =>
       rw[H8,Bool.not_false,Cd]at S;simp only[H8];have GP:f.DR.take k++[g]=f.DR.take (k+1):=by rw[UC,hg];rfl
       have hu:=ASs (f.DR.take k) g hX;rw[GP]at S hu;refine wu (.mk 13) (cj3 @I @Q @J Jz) trivial ⟨?_⟩;refine AW.Lm Fz (.inl rfl) ?_;refine TW.take 7 (Es (by simp[I,Q,J];first|exact rfl|exact⟨rfl,rfl⟩|exact⟨rfl,rfl,rfl⟩) (HI ?_));simp only[CU,B9];refine TW.take 7 (Es (by simp[I,Q,J,B0];first|exact rfl|exact⟨rfl,rfl⟩|exact⟨rfl,rfl,rfl⟩) (HI ?_));simp only[CU,B9];refine TW.op ⟨.any,some (1,.mp λ_=>HG (k+1) (R4 (f.DR.take (k+1)))),some 1⟩ rfl (λk ob e=>by cases e;exact F2 rfl) ?_ ?_;intro S0 w0 y w a H gd G hr;rw[<-hu];exact AU7 gd rfl (G (.tmp 89) (by simp[Bl])) (G (.tmp 93) (by simp[Bl])) (G (.tmp 102) (by simp[Bl])) (hr 1 rfl) (by unfold maxLen;omega);simp only[St.step,St.put,Bk,BA,BO,Nat.reduceAdd,Nat.reduceLT,if_true,Ai,Ag];refine TW.nil ⟨by kernel_rfl,?_⟩;refine wy (cj @OM<|Jz) trivial ⟨?_⟩;refine⟨⟨k+1,by omega,S,λx hx=>?_⟩,by simp only;omega,wd 3⟩;rw[<-GP]at hx;rcases List.mem_append.1 hx with hx|hx
       exact hA x hx;rw[List.mem_singleton.1 hx,qH];rfl
     have e:f.valid=false:=by
      rw[hV,S];simp[qI]
     rw[e];cases B1 with
     | false=>exact wz (cj6 @E @R @U @I @Q @J Jz) (cj hn<|trivial)
     | true =>
       cases B2 with
       | false=>exact wz (cj6 @E @R @U @I @Q @J Jz) (cj2 hn EK trivial)
       | true =>
         cases B3 with
         | false=>exact wz (cj6 @E @R @U @I @Q @J Jz) (cj3 hn EK K trivial)
         | true=>exact absurd qH qI
     . have A2:Ul [] f.DR=true:=by rw[S,FA (by omega)];rfl
       have jK : ∀g∈f.DR,Lo g=true:=by rwa [Gl (by omega)]at hA
       have A3:=ASu f jK;rw[A2,Cd]at hV;have EC:k=f.DR.length:=by omega
       have jq:R4 (f.DR.take k)=f.ht:=by rw[Gl (by omega)];rfl
       rw[jq];refine wu (.mk 15) (cj @E<|Jz) trivial ⟨?_⟩;refine AW.AUY 1 2 rfl rfl λm=>?_
       simp only[Ai,Ag];refine Cn 2 ?_;refine wy (cj2 @F @PF Jz) trivial ⟨?_⟩;refine lp (ι:={ j:Nat // j<=f.C5.length/\Xa f.ht [] f.C5=Xa f.ht (f.C5.take j) (f.C5.drop j) }) (λj=>[(108,.c (.int .i64 (j.1:Int)))]) (λ_=>[O.box 27 f.vs false,O.mp (Ci m (HG k f.ht)),O.box 139 [V.c (.MA m)] true]) (λj=>f.C5.length - j.1) ⟨0,by simp⟩ ?_ ?_;all_goals simp only[puts,Bw,CO,Ag,Ai]
       exact DH
       . rintro ⟨j,hj,W⟩;simp only;by_cases Hx:j<f.C5.length
         . obtain⟨s,hs⟩:∃z,f.C5[j]?=some z:=⟨_,BE Hx⟩
           have I:SR[j]?=some [.str s.name,Gv s.sizes,Ek s.parts,.int .i64 s.overlap]:=by rw[<-PE,CM,hs];rfl
           have Q:=gx I;have J:j<SR.length:=by omega
           have OM:AZ.wrap ((j:Int)+1)=((j+1:Nat):Int):=by rw[Ac];simp
           obtain⟨h1,h2,h3⟩:=hf.2 s (Cj hs);have hv:=Aai s m k f.ht h1 A3 h2 h3;rw[D5 Hx,gx hs Hx]at W;simp only[Xa]at W;generalize hB:Oh f.ht s=B at hv W;refine wu (.mk 19) (cj6 @Hx @F @PF @I @Q @J Jz) trivial ⟨?_⟩;refine AW.DA ?_;refine CY (.mk 2) trivial ?_;refine SW.pE 1 hv (by kernel_rfl) (by simp[BQ]) (by simp[C7];first|exact rfl|exact⟨rfl,rfl⟩) (by simp[V.CF,V.CP,Bc.row]) rfl ?_;simp only[St.step,St.put,Bk,BA,BO,Nat.reduceAdd,Nat.reduceLT,if_true,Ai,Ag];refine CY (.mk 1) trivial ?_;refine SW.nil ?_;cases B with
           | false =>
             have e:f.valid=false:=by
              rw[hV,W];rfl
             rw[e];exact wz Jz trivial
           | true =>
             rw[Cd]at W;obtain⟨TR,yT⟩:=AI (SR.take j);have Lp:TR.length=j:=by rw[<-yT,List.length_take];omega
             have A5 (i:Nat) (q:Bc) (hi:i<j) (hq:f.C5[i]?=some q):TR[i]?=some [.str q.name,Gv q.sizes,Ek q.parts,.int .i64 q.overlap]:=by
              rw[<-yT,List.getElem?_take_of_lt hi,<-PE,CM,hq];rfl
             have A1:(∀x∈SR,x.length=4)↔True:=⟨λ_=>trivial,λ_ x hx=>by
              rw[<-PE]at hx;obtain⟨q,_,rfl⟩:=Da.1 hx;rfl⟩
             have Wh:(j:Int)<=(SR.length:Int):=by omega
             refine wy (cj7 @F @PF @yT @Lp @J @A1 @Wh Jz) trivial ⟨?_⟩;refine lp (ι:={ i:Nat // i<=j/\cV s.name (f.C5.take j)=cV s.name ((f.C5.take j).drop i) }) (λi=>[(122,.c (.int .i64 (i.1:Int)))]) (λ_=>[O.box 27 f.vs false,O.mp (Ci m (HG k f.ht)),O.box 139 [V.c (.MA m)] true,O.box 117 [V.c (.str s.name),V.c (Gv s.sizes),V.c (Ek s.parts),V.c (.int .i64 s.overlap)] false]) (λi=>j - i.1) ⟨0,by simp⟩ ?_ ?_;all_goals simp only[puts,Bw,CO,Ag,Ai]
             exact DH;rintro ⟨i,hi,hN⟩;simp only;by_cases Is:i<j;obtain⟨q,hq⟩:∃z,f.C5[i]?=some z:=⟨_,BE (by omega)⟩
             have rD:=A5 i q Is hq;have zr:=gx rD;have A0:i<TR.length:=by omega
             have A8:AZ.wrap ((i:Int)+1)=((i+1:Nat):Int):=by rw[Ac];simp
             have hd:(f.C5.take j).drop i=q::(f.C5.take j).drop (i+1):=by
              rw[D5 (by simp;omega)];simp[gx hq (by omega)]
             rw[hd]at hN;simp only[cV]at hN;obtain⟨qn,dF⟩:=AI q.name;obtain⟨sn,rH⟩:=AI s.name;rw[dF]at hN rD zr;by_cases he:q.name=s.name;have e:f.valid=false:=by
              rw[hV,W,hN,<-dF,decide_eq_true he];rfl
             rw[e];have J7:(qn=s.name)↔True:=⟨λ_=>trivial,λ_=>dF ▸ he⟩
             exact wz (cj6 @Is @Lp @rD @zr @A0 @J7 Jz) trivial;have J7 : ¬qn=s.name:=dF ▸ he;rw[decide_eq_false J7,Bool.false_or]at hN;refine wy (cj7 @Is @Lp @rD @zr @A0 @J7 @A8 Jz) trivial ⟨?_⟩;exact⟨⟨i+1,by omega,hN⟩,by simp only;omega,wd 4⟩;have e:cV s.name (f.C5.take j)=false:=by
              rw[hN,FA (by simp;omega)];rfl
             have GP:f.C5.take j++[s]=f.C5.take (j+1):=by rw[UC,hs];rfl
             rw[e,GP]at W;refine wy (cj2 @Is @OM Jz) trivial ⟨?_⟩;exact⟨⟨j+1,by omega,W⟩,by simp only;omega,wd 3⟩
         have e:f.valid=true:=by
          rw[hV,W,FA (by omega)];rfl
         rw[e];exact wz (cj @Hx<|Jz) trivial
theorem Ma (f:AP):AC AF 49 [.agg f.vs] (.c (.bool f.valid)):=ANB (λ_ _ _ h=>APY h) (APe f)
theorem po :AC AF 373 [Hg g] (.c (.int .i64 (AZ.wrap (g.h+g.d)))):=by
 unfold Hg;refine AC.intro func373 rfl ?_;simp only[ntmps373,Ap,BB,BA,BO,Nat.reduceAdd,Nat.reduceSub,BY,Cy,BK,BU,BG.row];refine Ah ?_;exact At results373
theorem lK (n p:Int):AC AF 362 [.c (.int .i64 n),.cp [.int .i64 p] 0] (.c (.int .i64 (AU n p))):=by
 refine en gR ntmps362 ?_;refine Ah ?_;refine BZ (EI n p) func72 ?_;refine Ah ?_;exact At results362
def XT (q:BG×Int):V:=.A7 [Hg q.1,AR q.2]
theorem sw (p:Int):AC AF 341 [Hg g,.c (.int .i64 p)] (XT (Hm g p)):=by
 unfold Hg;refine AC.intro func341 rfl ?_;simp only[ntmps341,Ap,BB,BA,BO,Nat.reduceAdd,Nat.reduceSub,BY,Cy,BK,BU,BG.row];with_reducible refine AW.seq ?_
 with_reducible refine AW.region ?_
 with_reducible refine If (by simp[BY];first|exact rfl|exact⟨rfl,rfl⟩) ?_
 with_reducible refine Kz ?_
 with_reducible refine G3 ?_
 refine Cn 1 ?_;refine Ah ?_;refine gc @AV.eq_1 (Xg 1 1000 [p] (by simp[maxLen])) func96 ?_;cases F:DX 1 1000 [p]with
 | false=>refine Ah ?_;exact At (cj7 ADS @XT.eq_1 @Hg.eq_1 @AR.eq_1 @Hm.eq_1 @F @BG.zero.eq_1 @BG.row.eq_1)
 | true =>
   refine Ah ?_;refine gc (cj @AV.eq_1<|@BG.OQ.eq_1) (Xg (-20000) 20000 g.OQ (by simp[maxLen,BG.OQ])) func96 ?_;cases E:DX (-20000) 20000 g.OQ with
   | false=>have B:=E;simp only[BG.OQ]at B;refine go @B ?_;exact At (cj8 ADS @XT.eq_1 @Hg.eq_1 @AR.eq_1 @Hm.eq_1 @F @E @BG.zero.eq_1 @BG.row.eq_1)
   | true=>have B:=E;simp only[BG.OQ]at B;refine go @B ?_;refine BZ (lK g.w p) gR ?_;refine BZ (lK g.h p) gR ?_;refine BZ (lK g.d p) gR ?_;refine BZ (lK g.Ey p) gR ?_;refine BZ (lK g.attach p) gR ?_;refine Ah ?_;exact At (cj8 ADS @XT.eq_1 @Hg.eq_1 @AR.eq_1 @Hm.eq_1 @F @E @BG.scaled.eq_1 @BG.row.eq_1)
def DB (f:AP)(name:ByteArray)(p:Int):AA×Int:=
 if (Hm (f.pick name) p).2=0 then(N7 (Hm (f.pick name) p).1 p,0)else(AA.zero,(Hm (f.pick name) p).2)
def Ba (q:AA×Int):V:=.A7 [Ao q.1,AR q.2]
def QC (f:AP)(name:ByteArray)(p:Int):AA×Int:=if f.valid=true then DB f name p else(AA.zero,1)
theorem pn (f:AP)(name:ByteArray)(p:Int)(R:f.DR.length<=maxLen):AC AF 302 [.agg f.vs,.c (.str name),.c (.int .i64 p)] (Ba (QC f name p)):=by
 have F:DB f name p=if (Hm (f.pick name) p).2=0 then(N7 (Hm (f.pick name) p).1 p,0)else(AA.zero,(Hm (f.pick name) p).2):=rfl
 have G:(Hm (f.pick name) p).2=0->(-200000<=(Hm (f.pick name) p).1.w/\(Hm (f.pick name) p).1.w<=200000)/\(-200000<=(Hm (f.pick name) p).1.Ey/\(Hm (f.pick name) p).1.Ey<=200000):=by
  intro h;obtain⟨J,K,Q⟩:=AYW _ _ h;have:=AKg _ _ J K;rw[Q];exact⟨this.1,this.2.2.2⟩
 cases E:f.valid with
 | false=>refine en uq ntmps302 ?_;refine Ah ?_;refine gc @E (Ma f) Hs ?_;refine Ah ?_;exact At (cj9 ADO @Ba.eq_1 @Ao.eq_1 @AR.eq_1 @QC.eq_1 @E @AA.zero.eq_1 @AA.row.eq_1 @AA.AG.eq_1<|cj @AA.AG.eq_2 @AV.eq_1)
 | true =>
   refine en uq ntmps302 ?_;refine Ah ?_;refine gc @E (Ma f) Hs ?_;refine Ah ?_;refine gc (cj @Hg.eq_1<|@BG.row.eq_1) (dy f name R) func342 ?_;refine gc (cj3 @XT.eq_1 @Hg.eq_1 @AR.eq_1 @BG.row.eq_1) (sw (f.pick name) p) func341 ?_;generalize z:Hm (f.pick name) p=q at F G ⊢;obtain⟨g,I⟩:=q;simp only at F G ⊢;by_cases B:I=0;obtain⟨U,W⟩:=G B;have S:AZ.wrap (g.w+if 0<g.Ey then g.Ey else 0)=g.w+if 0<g.Ey then g.Ey else 0:=by split<;>exact Ac
   refine go (cj @B<|@S) ?_;exact At (cj9 ADO @Ba.eq_1 @Ao.eq_1 @AR.eq_1 @QC.eq_1 @E @F @B @N7.eq_1<|cj4 @AA.row.eq_1 @AA.AG.eq_1 @AA.AG.eq_2 @AV.eq_1 @mx.eq_1);refine go @B ?_;exact At (cj9 ADO @Ba.eq_1 @Ao.eq_1 @AR.eq_1 @QC.eq_1 @E @F @B @AA.zero.eq_1<|cj3 @AA.row.eq_1 @AA.AG.eq_1 @AA.AG.eq_2 @AV.eq_1)
def Bc.zero:Bc:=⟨⟨#[]⟩,[],[],0⟩
def IU (s:Bc):V:=.agg (s.row.map V.c)
def NK (o:Option Bc):V:=.A7 [IU (o.getD Bc.zero),.c (.bool o.isSome)]
theorem AZb (f:AP)(name:ByteArray)(S:f.C5.length<=maxLen)(hs : ∀s∈f.C5,s.sizes.length<=1000/\s.parts.length<=1000):AC AF 299 [.agg f.vs,.c (.str name)] (NK (f.I8 name)):=by
 unfold maxLen at S;refine en func299 ntmps299 ?_;refine go @MG.eq_1 ?_;refine lp (ι:={ k:Nat // k<=f.C5.length/\f.I8 name=XZ name (f.C5.drop k) }) (λk=>[(11,.c (.int .i64 (k.1:Int))),(5,.c (.bool false))]) (λ_=>[.box 27 f.vs false,.box 117 [.c (.str ⟨#[]⟩),.Bg [],.Bg [],.c (.int .i64 0)] false]) (λk=>f.C5.length - k.1) ⟨0,by simp[AP.I8]⟩ ?_ ?_;all_goals simp only[puts,Bw,CO,Ag,Ai]
 exact DH;rintro ⟨k,q,F⟩;by_cases B:k<f.C5.length;obtain⟨g,G⟩:=AI (f.C5[k]);rw[D5 B,G]at F;have U:=hs f.C5[k] (List.getElem_mem B);rw[G]at U;by_cases E:g.name=name;have I:f.I8 name=some g:=by rw[F];simp[XZ,E]
 have J:g.sizes.length<=maxLen:=by unfold maxLen;omega
 have K:g.parts.length<=maxLen:=by unfold maxLen;omega
 have Q:g.sizes.length*16<=140737488355328:=by omega
 have R:g.parts.length*24<=140737488355328:=by omega
 refine go (cj9 @B @G @E @MG.eq_1 @Bc.row.eq_1 @Gv.eq_1 @Ek.eq_1 @CR.row.eq_1 @J<|cj2 @K @Q @R) ?_;exact At (cj7 results299 @NK.eq_1 @IU.eq_1 @I @Bc.row.eq_1 @Gv.eq_1 @Ek.eq_1 @E);have W:AZ.wrap ((k:Int)+1)=((k+1:Nat):Int):=by rw[Ac];simp
 refine go (cj5 @B @G @E @MG.eq_1 @Bc.row.eq_1 @W) ?_;refine⟨⟨k+1,by omega,by rw[F];simp[XZ,E]⟩,by simp only;omega,?_⟩;exact wd 2;have I:f.I8 name=none:=by rw[F,FA (by omega)];rfl
 refine go (cj @B<|@MG.eq_1) ?_;exact At (cj7 results299 @NK.eq_1 @IU.eq_1 @I @Bc.zero.eq_1 @Bc.row.eq_1 @Gv.eq_1 @Ek.eq_1)
def O6 (f:AP):Bool:=(decide (f.DR.length<=500) && decide (f.C5.length<=50)) && f.C5.all λs=>decide (s.sizes.length<=50) && decide (s.parts.length<=50)
theorem APV (f:AP)(S:f.DR.length<=maxLen):AC AF 28 [.agg f.vs] (.c (.bool (O6 f))):=by
 by_cases G:(500:Int)<(f.DR.length:Int);have e:O6 f=false:=by simp[O6];omega
 refine en func28 ntmps28 ?_;refine go (cj @G<|@O8.eq_1) ?_;exact At (cj nj<| @e)
 . by_cases J:(50:Int)<(f.C5.length:Int);have e:O6 f=false:=by simp[O6];omega
   refine en func28 ntmps28 ?_;refine go (cj3 @G @J @O8.eq_1 @MG.eq_1) ?_;exact At (cj nj<| @e)
   . have Q:O6 f=f.C5.all λs=>decide (s.sizes.length<=50) && decide (s.parts.length<=50):=by
      unfold O6;rw[decide_eq_true (show f.DR.length<=500 by omega),decide_eq_true (show f.C5.length<=50 by omega)];rfl
     refine en func28 ntmps28 ?_;refine go (cj3 @G @J @O8.eq_1 @MG.eq_1) ?_;refine lp (ι:={ k:Nat // k<=f.C5.length/\O6 f=(f.C5.drop k).all λs=>decide (s.sizes.length<=50) && decide (s.parts.length<=50) }) (λk=>[(3,.c (.int .i64 (k.1:Int))),(2,.c (.bool false))]) (λ_=>[.box 27 f.vs false]) (λk=>f.C5.length - k.1) ⟨0,by simp[Q]⟩ ?_ ?_;all_goals simp only[puts,Bw,CO,Ag,Ai]
     exact DH;rintro ⟨k,U,E⟩;by_cases B:k<f.C5.length;obtain⟨s,F⟩:=AI (f.C5[k]);rw[D5 B,F,Ep]at E;by_cases I:(50:Int)<(s.sizes.length:Int);have e:O6 f=false:=by rw[E];simp;omega
     refine go (cj6 @B @F @I @MG.eq_1 @Bc.row.eq_1 @Gv.eq_1 @Ek.eq_1) ?_;exact At (cj nj<| @e);by_cases K:(50:Int)<(s.parts.length:Int);have e:O6 f=false:=by rw[E];simp;omega
     refine go (cj7 @B @F @I @K @MG.eq_1 @Bc.row.eq_1 @Gv.eq_1 @Ek.eq_1) ?_;exact At (cj nj<| @e);have R:AZ.wrap ((k:Int)+1)=((k+1:Nat):Int):=by rw[Ac];simp
     refine go (cj8 @B @F @I @K @MG.eq_1 @Bc.row.eq_1 @Gv.eq_1 @Ek.eq_1 @R) ?_;refine⟨⟨k+1,by omega,by rw[E,decide_eq_true (show s.sizes.length<=50 by omega),decide_eq_true (show s.parts.length<=50 by omega)];rfl⟩,by simp only;omega,?_⟩;exact DH;have e:O6 f=true:=by rw[E,FA (by omega)];rfl
     refine go (cj @B<|@MG.eq_1) ?_;exact At (cj nj<| @e)
structure AP.Fit (f:AP):Prop where
 gl:f.DR.length<=maxLen
 sl:f.C5.length<=maxLen
 gn : ∀g∈f.DR,g.name.size<=maxLen
 sn : ∀s∈f.C5,s.name.size<=maxLen
def JF (f:AP)(p:Int):Int:=if f.valid=false then 1 else if p<1\/100<p then 2 else 0
def times (r:Int)(q:CR):Int:=if q.ext=true then r else 1
def M3 (f:AP)(r:Int):Int->Int->List CR->Int×Int
 | h,c,[]=>(h,c)
 | h,c,q::l=>M3 f r (h+times r q*(f.pick q.name).Dy) (c+times r q) l
def LO (f:AP)(s:Bc)(r:Int):Int:=(M3 f r 0 0 s.parts).1 - ((M3 f r 0 0 s.parts).2 - 1)*s.overlap
def XV (f:AP)(name:ByteArray)(p:Int):Int:=(Hm (f.pick name) p).1.h+(Hm (f.pick name) p).1.d
structure Choice where
 Ln:ByteArray
 Jo:Int
def BG.Small (g:BG):Prop:=(-20000<=g.w/\g.w<=20000)/\(-20000<=g.h/\g.h<=20000)/\(-20000<=g.d/\g.d<=20000)/\(-20000<=g.Ey/\g.Ey<=20000)/\(-20000<=g.attach/\g.attach<=20000)
theorem AK5 {g:BG}(h:Lo g=true):g.Small:=by
 simp[Lo,DX]at h;unfold BG.Small;omega
theorem AY1 :({ BG.zero with name:=name }:BG).Small:=by simp[BG.Small,BG.zero]
theorem AF0 : ∀(l seen:List BG),Ul seen l=true->∀g∈l,Lo g=true
 | [],_,_,g,B=>by cases B
 | x::r,seen,h,g,B=>by
   simp only[Ul,Ak]at h;rcases Cf.1 B with rfl|B
   exact h.1.1;exact AF0 r _ h.2 g B
theorem ALL (E:ByteArray->Option Int):∀(l seen:List Bc),Xa E seen l=true->∀s∈l,Oh E s=true
 | [],_,_,g,B=>by cases B
 | x::r,seen,h,g,B=>by
   simp only[Xa,Ak]at h;rcases Cf.1 B with rfl|B
   exact h.1.1;exact ALL E r _ h.2 g B
theorem Z8 {f:AP}(h:f.valid=true):∀g∈f.DR,Lo g=true:=by
 simp only[AP.valid,Ak]at h;exact AF0 _ _ h.2.1
theorem Ql {f:AP}(h:f.valid=true)(name:ByteArray):(f.pick name).Small:=by
 unfold AP.pick;cases B:f.find name with
 | some g=>exact AK5 (Z8 h g (cA B))
 | none =>
   cases E:f.find ⟨#[63]⟩with
   | some g=>exact AK5 (Z8 h g (cA E))
   | none=>exact AY1 name
theorem Z9 {f:AP}(h:f.valid=true):∀s∈f.C5,Oh f.ht s=true:=by
 simp only[AP.valid,Ak]at h;exact ALL _ _ _ h.2.2
theorem Se {name:ByteArray}{s:Bc} : ∀ {l:List Bc},XZ name l=some s->s∈l/\s.name=name
 | [],h=>by simp[XZ]at h
 | x::r,h=>by
   simp only[XZ]at h;split at h;simp only[BL]at h;subst h;exact⟨by simp,by assumption⟩;have:=Se h;exact⟨List.mem_cons_of_mem _ this.1,this.2⟩
theorem AJM (E:ByteArray->Option Int):∀(l:List CR) (a:Int) (e:Bool) (b:Int) (B:Bool),OW E a e l=some (b,B)->b<=a/\∀q∈l,∃h,E q.name=some h/\b<=h
 | [],a,e,b,B,h=>by simp[OW]at h;exact⟨by omega,by simp⟩
 | q::r,a,e,b,B,h=>by
   simp only[OW]at h;cases F:E q.name with
   | none=>rw[F]at h;cases h
   | some y =>
     rw[F]at h;obtain⟨J,K⟩:=AJM E r _ _ b B h;have I:b<=a/\b<=y:=by split at J<;>omega
     refine⟨I.1,λx G=>?_⟩;rcases Cf.1 G with rfl|G
     exact⟨y,F,I.2⟩;exact K x G
structure AM5 (f:AP)(s:Bc):Prop where
 AKw:1<=s.sizes.length
 AKx:s.sizes.length<=16
 parts:s.parts.length<=8
 AcS:0<=s.overlap
 AcT:s.overlap<=60000
 AdU : ∀q∈s.parts,s.overlap<(f.pick q.name).Dy
theorem ASt {f:AP}{name:ByteArray}{h:Int}(e:f.ht name=some h):(f.pick name).Dy=h:=by
 simp only[AP.ht,Option.map_eq_some_iff]at e;obtain⟨g,B,rfl⟩:=e;simp[AP.pick,B]
theorem QG {f:AP}(R:f.valid=true){s:Bc}(hs:s∈f.C5):AM5 f s:=by
 have h:=Z9 R s hs;simp only[Oh,Ak]at h;obtain⟨⟨_,I,E⟩,U,B⟩:=h;simp[DX]at I E;by_cases G:s.parts=[]
 rw[if_pos G]at B;simp at B;exact⟨by omega,by omega,E,by omega,by omega,by simp[G]⟩;rw[if_neg G]at B;unfold du at B;cases F:OW f.ht 60000 false s.parts with
 | none=>rw[F]at B;cases B
 | some x=>obtain⟨b,e⟩:=x;rw[F]at B;simp[DX]at B;obtain⟨W,Q⟩:=AJM _ _ _ _ _ _ F;refine⟨by omega,by omega,E,by omega,by omega,λq K=>?_⟩;obtain⟨y,S,J⟩:=Q q K;rw[ASt S];omega
def TG (f:AP)(p need:Int):List ByteArray->Option ByteArray
 | []=>none
 | n::r=>if need<=XV f n p then some n else TG f p need r
def LM (f:AP)(s:Bc)(p need:Int):Nat->Int
 | 0=>1000
 | n+1=>if need<=AU (LO f s (1000 - ((n:Int)+1))) p then 1000 - ((n:Int)+1)else LM f s p need n
def WA (f:AP)(s:Bc)(need p:Int):Choice:=
 match TG f p need s.sizes with
 | some n=>⟨n,0⟩
 | none=>if s.parts=[]then⟨s.sizes.getD (s.sizes.length - 1) ⟨#[]⟩,0⟩else⟨⟨#[]⟩,LM f s p need 999⟩
def J2 (f:AP)(name:ByteArray)(need p:Int):Choice:=
 match f.I8 name with
 | none=>⟨name,0⟩
 | some s=>WA f s need p
def N4 (c:Choice):V:=.agg [.c (.str c.Ln),.c (.int .i64 c.Jo)]
def JR (r:Int):List CR->List CR
 | []=>[]
 | q::l=>List.replicate (times r q).toNat q++JR r l
def kt (f:AP)(p bottom:Int)(q:CR):AA:={ (DB f q.name p).1 with y:=AU bottom p+(DB f q.name p).1.d }
def Gp (f:AP)(ov p:Int):Int->List CR->List AA
 | _,[]=>[]
 | b,q::l=>kt f p b q::Gp f ov p (b+((f.pick q.name).Dy - ov)) l
def IS:Int->List AA->Int
 | m,[]=>m
 | m,b::l=>IS (mx m b.w) l
def V4 (f:AP)(s:Bc)(r p:Int):AA:=⟨3,⟨#[]⟩,0,IS 0 (Gp f s.overlap p 0 (JR r s.parts)),AU (LO f s r) p,0,0,0,Gp f s.overlap p 0 (JR r s.parts),0,[]⟩
def KX (x:ByteArray):List ByteArray->Bool
 | []=>false
 | y::r=>if y=x then true else KX x r
def KH (f:AP)(name:ByteArray)(c:Choice):Bool:=
 match f.I8 name with
 | none=>decide (c.Jo=0) && decide (c.Ln=name)
 | some s=>if c.Jo=0 then KX c.Ln s.sizes else decide (c.Ln=⟨#[]⟩) && (decide (0<s.parts.length) && (decide (1<=c.Jo) && decide (c.Jo<=1000)))
def K5 (f:AP)(name:ByteArray)(c:Choice)(p:Int):AA×Int:=
 if JF f p≠0 then(AA.zero,JF f p)
 else if KH f name c=false then(AA.zero,8)
 else if c.Jo=0 then((DB f c.Ln p).1,0)
 else(V4 f ((f.I8 name).getD Bc.zero) c.Jo p,0)
theorem AB4 {r:Int}(B:1<=r)(E:r<=1000)(q:CR):1<=times r q/\times r q<=1000:=by unfold times;split<;>omega
theorem Pk {f:AP}(E:f.valid=true){p:Int}(F:1<=p)(G:p<=100)(name:ByteArray):DB f name p=(N7 ((f.pick name).scaled p) p,0)/\Hm (f.pick name) p=((f.pick name).scaled p,0):=by
 have B:=Ql E name;have e:Hm (f.pick name) p=((f.pick name).scaled p,0):=by
  unfold Hm;rw[if_neg (by simp[DX];omega),if_neg];unfold BG.Small at B;simp[DX,BG.OQ];omega
 unfold DB;rw[e];simp
theorem Zv {f:AP}(E:f.valid=true){p:Int}(F:1<=p)(G:p<=100)(name:ByteArray):(-200000<=((f.pick name).scaled p).w/\((f.pick name).scaled p).w<=200000)/\(-200000<=((f.pick name).scaled p).h/\((f.pick name).scaled p).h<=200000)/\(-200000<=((f.pick name).scaled p).d/\((f.pick name).scaled p).d<=200000)/\(-200000<=((f.pick name).scaled p).Ey/\((f.pick name).scaled p).Ey<=200000):=by
 have B:=Ql E name;unfold BG.Small at B;exact AKg _ _ (by simp[DX];omega) (by simp[DX,BG.OQ];omega)
theorem ALV (f:AP)(r:Int)(B : ∀name,(f.pick name).Small)(E:1<=r)(F:r<=1000):∀(l:List CR) (h c:Int),h - 40000000*(l.length:Int)<=(M3 f r h c l).1/\(M3 f r h c l).1<=h+40000000*(l.length:Int)/\c+(l.length:Int)<=(M3 f r h c l).2/\(M3 f r h c l).2<=c+1000*(l.length:Int)
 | [],h,c=>by simp[M3]
 | q::l,h,c=>by
   have ih:=ALV f r B E F l (h+times r q*(f.pick q.name).Dy) (c+times r q);have G:=B q.name;unfold BG.Small at G;obtain⟨t1,t2⟩:=AB4 E F q;have m:=Qh (f.pick q.name).Dy (times r q) 40000 1000 (by unfold BG.Dy;omega) (by unfold BG.Dy;omega) (by omega) t2;rw[fu (f.pick q.name).Dy]at m;simp only[M3,BA]at ih ⊢;simp only[Int.natCast_add,Int.natCast_one]at ih ⊢;omega
theorem AB3 {f:AP}(B:f.valid=true){s:Bc}(hs:s∈f.C5){r:Int}(F:1<=r)(G:r<=1000): -1000000000<=LO f s r/\LO f s r<=1000000000:=by
 obtain⟨_,_,I,J,E,K⟩:=QG B hs;have:=ALV f r (Ql B) F G s.parts 0 0;have m:=Qh s.overlap ((M3 f r 0 0 s.parts).2) 60000 8000 (by omega) E (by omega) (by omega);rw[fu s.overlap]at m;unfold LO;rw[Int.sub_mul];omega
theorem ABa {n p:Int}(B : -1073741824<=n)(E:n<=1073741824)(F:0<=p)(G:p<=10000):Ea (n*p) 100=AU n p:=by
 unfold AU;rw[if_pos ⟨by simp[An];omega,by omega,by omega⟩]
theorem AZF (f:AP)(s:Bc)(p B r:Int)(I:1<=r)(J:r<1000):LM f s p B (1000 - r).toNat=if B<=AU (LO f s r) p then r else LM f s p B (1000 - (r+1)).toNat:=by
 obtain⟨n,G⟩:∃n:Nat,r=1000 - ((n:Int)+1):=⟨(999 - r).toNat,by omega⟩
 subst G;have E:(1000 - (1000 - ((n:Int)+1))).toNat=n+1:=by omega
 have F:(1000 - (1000 - ((n:Int)+1)+1)).toNat=n:=by omega
 rw[E,F];rfl
theorem AIZ : ∀(l:List AA) (m:Int) (b:AA),IS m (l++[b])=mx (IS m l) b.w
 | [],m,b=>rfl
 | x::l,m,b=>by simp only[BK,IS];exact AIZ l _ b
theorem lG : ∀(l:List AA) (b:AA),AA.AG (l++[b])=AA.AG l++[b.row]
 | [],b=>rfl
 | x::l,b=>by simp only[BK,AA.AG];rw[lG l b]
@[simp] theorem GA : ∀(l:List AA),(AA.AG l).length=l.length
 | []=>rfl
 | x::l=>by simp only[AA.AG,BA];rw[GA l]
theorem sH {r:Int}(B:1<=r)(E:r<=1000):∀l:List CR,(JR r l).length<=1000*l.length
 | []=>by simp[JR]
 | q::l=>by
   have:=sH B E l;obtain⟨t1,t2⟩:=AB4 B E q;simp only[JR,List.length_append,List.length_replicate,BA];omega
theorem AKe {n p:Int}(B:0<=n)(J:n<=1000000000)(E:0<=p)(F:p<=100):0<=AU n p/\AU n p<=1000000001:=by
 have G:0<=n*p:=Int.mul_nonneg B E;have I:n*p<=n*100:=Int.mul_le_mul_of_nonneg_left F B;rw[<-ABa (by omega) (by omega) E (by omega)];unfold Ea;rw[if_pos G];omega
def Nf (w h:Int)(AE:V):List V:=[.c (.int .i64 3),.c (.str ⟨#[]⟩),.c (.int .i64 0),.c (.int .i64 w),.c (.int .i64 h),.c (.int .i64 0),.c (.int .i64 0),.c (.int .i64 0),AE,.c (.int .i64 0),.Bg []]
def BT:List V:=[.c (.int .i64 0),.c (.str ⟨#[]⟩),.c (.int .i64 0),.c (.int .i64 0),.c (.int .i64 0),.c (.int .i64 0),.c (.int .i64 0),.c (.int .i64 0),.Bg [],.c (.int .i64 0),.Bg []]
theorem AEl {f:AP}{p:Int}(B:JF f p=0):f.valid=true/\1<=p/\p<=100:=by
 unfold JF at B;have E:f.valid=true:=by cases h:f.valid<;>simp[h]at B;rfl
 rw[if_neg (by simp[E])]at B;refine⟨E,?_⟩;split at B<;>omega
theorem AAI {f:AP}{name cg:ByteArray}{cr:Int}(F : ¬cr=0)(B:KH f name ⟨cg,cr⟩=true):∃s,f.I8 name=some s/\s.parts≠[]/\1<=cr/\cr<=1000/\cg=⟨#[]⟩:=by
 unfold KH at B;cases E:f.I8 name with
 | none=>rw[E]at B;simp[F]at B
 | some s=>rw[E]at B;simp[F]at B;exact⟨s,rfl,Kr.1 B.2.1,by omega,by omega,B.1⟩
def Hv (f:AP)(name:ByteArray)(need p:Int):AA×Int:=if JF f p≠0 then(AA.zero,JF f p)else K5 f name (J2 f name need p) p
structure Aa where
 By:Int
 Hd:Bool
def Aj (s:Aa):V:=.agg [.c (.int .i64 s.By),.c (.bool s.Hd)]
def Aa.ok (s:Aa):Bool:=decide (0<=s.By) && decide (s.By<=3)
theorem fI (s:Aa):AC AF 105 [Aj s] (.c (.bool s.ok)):=by
 obtain⟨l,c⟩:=s;unfold Aj;by_cases h:0<=l;have e:Aa.ok ⟨l,c⟩=decide (l<=3):=by unfold Aa.ok;rw[decide_eq_true h,Cd]
 refine en aR ntmps105 ?_;refine go @h ?_;exact At (cj results105<| @e);have e:Aa.ok ⟨l,c⟩=false:=by unfold Aa.ok;rw[decide_eq_false h,D4]
 refine en aR ntmps105 ?_;refine go @h ?_;exact At (cj results105<| @e)
def BS (p:Params)(s:Aa):Int:=if s.ok=false then 0 else if s.By=2 then p.script else if s.By=3 then p.Qr else 100
theorem AV2 (c:Int):AC AF 171 [.c (.int .i64 c)] (.c (.bool (dr c))):=by
 unfold dr;refine en func171 ntmps171 ?_;exact wz results171 trivial
theorem AIC {D:List Int}{j:Nat}(h:D.length=j+1):Lx D=D.getD j 0:=by unfold Lx;rw[h];rfl
theorem ALJ {D:List Int}{c:Int}(h:c=2)(B:D.length=0\/dr (Lx D)=true):Pm D c=D++[0]:=if_pos ⟨h,B⟩
theorem AZS {D:List Int}{c:Int}(h : ¬c=2)(B:YD c=true)(E:0<D.length)(F:Lx D=2):Pm D c=D.set (D.length - 1) 0++[c]:=by unfold Pm;rw[if_neg (λe=>h e.1),if_pos ⟨B,E,F⟩]
theorem tF {D:List Int}{c:Int}(h : ¬(c=2/\(D.length=0\/dr (Lx D)=true)))(B : ¬(YD c=true/\0<D.length/\Lx D=2)):Pm D c=D++[c]:=by unfold Pm;rw[if_neg h,if_neg B]
theorem AOP:YD 2=false:=by decide
theorem bB (D:List Int)(c:Int)(r:List Int):(D++[c])++r=D++c::r:=by simp
theorem AUa (w:World):Calls AF 133 #[] w λe w'=>e=.returned (.func (.func 196) #[] #[.pointer (some ⟨w.heap.size,0,none⟩)])/\w'=w.alloc (.cells #[.int .i64 0] 3):=by
 go_enter func133,ntmps133;go_wp2;go_ret;exact⟨rfl,rfl⟩
theorem AUZ (e sp wd:Int)(F : -9000000000000000000<=e+sp)(G:e+sp<=9000000000000000000)(I : -9000000000000000000<=e+sp+wd)(J:e+sp+wd<=9000000000000000000):AX AF 196 [.c (.int .i64 sp),.c (.int .i64 wd),.ptr 0 0] 3 [.int .i64 e] [.int .i64 (e+sp+wd)] (.c (.int .i64 (e+sp))):=by
 have B:AZ.wrap (e+sp)=e+sp:=Ac;have E:AZ.wrap (e+sp+wd)=e+sp+wd:=Ac;refine AX.intro func196 rfl ?_;simp only[ntmps196,Ap,BB,BA,BO,Nat.reduceAdd,Nat.reduceSub,BY,Cy,BK,BU];refine go (cj @B<|@E) ?_;simp[Xy,DV,C0,DE,V.CP,V.CF,CJ,toCs,toC,results196]
def lV (P:Program)(t:TypeId):Bool:=
 match P.underlying t with
 | some (.pointer _)=>true
 | _=>false
end Go.Proofs.YtlpomcliejmedaaGreat
