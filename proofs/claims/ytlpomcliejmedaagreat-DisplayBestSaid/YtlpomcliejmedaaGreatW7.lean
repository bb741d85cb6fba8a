/- Part of the proof of displayBest.proved. Conditions: none. -/
import Derived.Laws.RangeAny
import Derived.Laws.RangeString
import Derived.LoopTactic
import Derived.Test.YtlpomcliejmedaaGreatW6
set_option linter.unusedVariables false
set_option linter.unusedSimpArgs false
set_option maxRecDepth 100000
set_option maxHeartbeats 16000000
open Go.Proofs.Tryz renaming prog→AF,func195→Vl,ntmps195→aT,results195→HY,func265→gI,func266→uo,results131→nY,func76→Ib,func135→aS,func125→M9,func71→UK,func307→nG,func72→JA,func106→Sq,ntmps106→nO,func105→aR,results106→nW,func49→Hs,func75→nM,func130→uh,func373→nK,func301→gJ,ntmps301→nT,results301→nk,results53→ADU,results56→ADV,func317→gK,ntmps317→gX,results317→gm,func352→gP,func319→gM,ntmps319→gY,results319→gp,func308→nH,func258→gH,ntmps258→gV,results258→Xr
open List renaming foldl_cons→Bw,foldl_nil→CO,set_cons_zero→Ag,set_cons_succ→Ai,drop_eq_getElem_cons→D5,all_cons→Ep,getElem?_eq_getElem→BE,drop_of_length_le→FA,eq_nil_of_length_eq_zero→Nr,map_cons→Ap,map_nil→BB,length_cons→BA,length_nil→BO,replicate_succ→BY,replicate_zero→Cy,cons_append→BK,nil_append→BU,getElem_mem→Kq,take_of_length_le→Gl,take_succ_eq_append_getElem→UD,map_append→Fm,getElem?_map→CM,replicate→Aq,finRange→ACu,flatMap_append→AMd,length_append→Cp,length_replicate→H6,replicate_succ'→Sj,append_assoc→GX,length_map→Ch,length_take→Fa,eq_of_mem_replicate→UA,mem_map→Da,flatten_cons→Hp,flatten_append→Vd,mem_append→MJ,mem_flatten→gA,mem_cons→Cf,mem_singleton→LY,map→Vf,take_length→Sn,flatten_nil→RC,append_nil→E5,map_map→M7,mem_cons_self→GH,mem_cons_of_mem→Gk,length_pos_iff→Kr,drop_zero→B9,mem_of_getElem?→Cj,getD_eq_getElem?_getD→Bv,all_nil→Nq,all_eq_true→ES,getElem?_take→KO,take_succ_cons→DP
open Go.IntKind renaming i64→AZ
open Bool renaming true_and→Cd,and_eq_true→Ak,and_true→Km,not_false→ly,false_and→D4
open SizeOf renaming sizeOf→UF
open Option.some renaming inj→ML,injEq→BL
open Nat renaming le_of_ble_eq_true→F2,min_eq_left→Vi,add_mul→Gz,le_of_lt→LZ,sub_self→La,zero_le→CI,le_refl→BN,add_sub_cancel→aM,le_trans→Ps
open Int renaming natCast_zero→AMX,mul_nonneg→RB
open Go.Op renaming operands→Bl
open Go.Call renaming operands→Df
open ByteArray renaming size→mA
open Go.Instr renaming next→Xj,sureAddr→Ol,storeAt→mM
open Go.Utf8 renaming decode→g9
open Go.Lib renaming indexByte→EF
open Go.Extern.BytealgIndexByte renaming indexByte→AMT
open Go.Sem renaming run→HW
open Go.World renaming size_alloc→vl,alloc_heap_new→vk,putObj_heap_same→iD,putObj_heap_other→Pz
open Array renaming length_toList→FW,getElem?_eq_some_iff→DO,getElem?_setIfInBounds_self_of_lt→Xi
open Go.Fence renaming wide→Cg
open Go.Region renaming wanted→FB
open Go.Act renaming eval→JT
open Go.Oper renaming upon→Nt
namespace Go.Proofs.YtlpomcliejmedaaGreat
open Go.RowKit Tryz
variable {cs:List V}{i:Nat}{α:Type}{y:Operand}{ag:Bool}{ty:TypeId}{K:Exit->St->Prop}(b0:Int)(s:ByteArray)(b1:ByteArray)(r:Int)(b:AA)(w:World)(k:Nat)(l:List CR)
def AA.AS (b:AA)(x y:Int):AA:={ b with x:=x,y:=y }
def FV (w h d:Int):AA:=⟨2,⟨#[]⟩,0,w,h,d,0,0,[],0,[]⟩
def Bf (w h d:Int)(AE:List AA):AA:=⟨3,⟨#[]⟩,0,w,h,d,0,0,AE,0,[]⟩
theorem AWw (B G I J M Q:Int)(AE:List AA)(o:Int)(src:List Int)(hn:b1.size<=maxLen)(hs:src.length<=maxLen)(Ce:AE.length<=1000000):AC AF 195 [.cp (AA.row ⟨1,b1,B,G,I,J,M,Q,AE,o,src⟩) 0] (.c (.bool (AA.Cl ⟨1,b1,B,G,I,J,M,Q,AE,o,src⟩))):=by
 have Gt:=Zn (1) b1 B G I J M Q AE o src hs;obtain⟨SB,J5⟩:=AI (AA.Js ⟨1,b1,B,G,I,J,M,Q,AE,o,src⟩);rw[J5]at Gt;obtain⟨KB,J4⟩:=AI (AA.Fi ⟨1,b1,B,G,I,J,M,Q,AE,o,src⟩);obtain⟨L,hL⟩:∃L,L=[G,I,J,M,Q]:=⟨_,rfl⟩
 have Io:L.length=5:=by rw[hL];rfl
 have S:AA.Cl ⟨1,b1,B,G,I,J,M,Q,AE,o,src⟩=(L.all An && (KB && SB)):=by
  simp only[AA.Cl,J5,J4,AA.lens,hL]
 have A0:KB=AA.Fi ⟨1,b1,B,G,I,J,M,Q,AE,o,src⟩:=J4.symm;rw[S];have Av:(AA.AG AE).length=AE.length:=by rw[Dt];simp
 simp only[AA.row]at Gt ⊢;refine en Vl aT ?_;refine Ah ?_;refine lp (ι:={ k:Nat // k<=5/\L.all An=(L.drop k).all An }) (λk=>[(25,.agg (L.map λn=>.c (.int .i64 n))),(26,.c (.int .i64 (k.1:Int))),(2,.c (.bool false))]) (λ_=>[]) (λk=>5 - k.1) ⟨0,by simp⟩ ?_ ?_;all_goals simp only[puts,Bw,CO,Ag,Ai]
 exact ER @hL;rintro ⟨i,hi,R⟩;by_cases A2:i<5;have Dn:i<L.length:=by omega
 have E:(i:Int)<5:=by omega
 rw[D5 Dn,Ep]at R;obtain⟨z,hz⟩:=AI (L[i]);have F7:L[i]?=some z:=by rw[BE Dn,hz]
 rw[hz]at R;have hw:AZ.wrap ((i:Int)+1)=((i+1:Nat):Int):=by rw[Ac];simp
 by_cases h1:z < -1073741824;have e:L.all An=false:=by rw[R];simp[An];omega
 refine go (cj2 @E @F7 @h1) ?_;exact At (cj2 HY @S @e);by_cases h2:1073741824<z;have e:L.all An=false:=by rw[R];simp[An];omega
 refine go (cj3 @E @F7 @h1 @h2) ?_;exact At (cj2 HY @S @e);have e:L.all An=(L.drop (i+1)).all An:=by
  have:An z=true:=by simp[An];omega
  rw[R,this,Cd]
 refine go (cj4 @E @F7 @h1 @h2 @hw) ?_;refine⟨⟨i+1,by omega,e⟩,by simp only;omega,?_⟩;exact DH;have Au:L.all An=true:=by rw[R,FA (by omega)];rfl
 have E : ¬(i:Int)<5:=by omega
 have R:=Au;have U:=ANx b1 hn;have W:KB=(Ck b1 && (decide (1<=B) && (decide (B<=1000) && decide (AE.length=0)))):=A0;cases II:Ck b1 with
 | false=>rw[II]at U W;have F:KB=false:=W;refine go @E ?_;refine BZ (U) gI ?_;refine Ah ?_;exact At (cj2 HY @S @F)
 | true =>
   rw[II]at U W;by_cases q:1<=B;by_cases s2:B<=1000;by_cases s3:AE.length=0;have F:KB=true:=by rw[W];simp[q,s2];exact Nr (by omega)
   refine go @E ?_;refine gc (cj3 @q @s2 @s3 @Av) (U) gI ?_;refine BZ (Gt) uo ?_;refine Ah ?_;exact At (cj3 HY @S @F @R);have F:KB=false:=by rw[W];simp[q,s2];intro h;rw[h]at s3;simp at s3
   have A1 : ¬((AE.length:Nat):Int)=0:=by omega
   refine go @E ?_;refine gc (cj4 @q @s2 @s3 @Av @A1) (U) gI ?_;refine Ah ?_;exact At (cj2 HY @S @F);have F:KB=false:=by rw[W];simp[s2]
   refine go @E ?_;refine gc (cj @q<|@s2) (U) gI ?_;refine Ah ?_;exact At (cj2 HY @S @F);have F:KB=false:=by rw[W];simp[q]
   refine go @E ?_;refine gc @q (U) gI ?_;refine Ah ?_;exact At (cj2 HY @S @F)
theorem AWx (B E F G I J:Int)(AE:List AA)(o:Int)(src:List Int)(n1:b1=⟨#[]⟩)(s0:B=0)(s3:AE.length=0)(hn:b1.size<=maxLen)(hs:src.length<=maxLen)(Ce:AE.length<=1000000):AC AF 195 [.cp (AA.row ⟨2,b1,B,E,F,G,I,J,AE,o,src⟩) 0] (.c (.bool (AA.Cl ⟨2,b1,B,E,F,G,I,J,AE,o,src⟩))):=by
 have U:=Zn (2) b1 B E F G I J AE o src hs;obtain⟨SB,J5⟩:=AI (AA.Js ⟨2,b1,B,E,F,G,I,J,AE,o,src⟩);rw[J5]at U;obtain⟨KB,J4⟩:=AI (AA.Fi ⟨2,b1,B,E,F,G,I,J,AE,o,src⟩);obtain⟨L,q⟩:∃L,L=[E,F,G,I,J]:=⟨_,rfl⟩
 have Io:L.length=5:=by rw[q];rfl
 have R:AA.Cl ⟨2,b1,B,E,F,G,I,J,AE,o,src⟩=(L.all An && (KB && SB)):=by
  simp only[AA.Cl,J5,J4,AA.lens,q]
 have A0:KB=AA.Fi ⟨2,b1,B,E,F,G,I,J,AE,o,src⟩:=J4.symm;rw[R];have Av:(AA.AG AE).length=AE.length:=by rw[Dt];simp
 simp only[AA.row]at U ⊢;refine en Vl aT ?_;refine Ah ?_;refine lp (ι:={ k:Nat // k<=5/\L.all An=(L.drop k).all An }) (λk=>[(25,.agg (L.map λn=>.c (.int .i64 n))),(26,.c (.int .i64 (k.1:Int))),(2,.c (.bool false))]) (λ_=>[]) (λk=>5 - k.1) ⟨0,by simp⟩ ?_ ?_;all_goals simp only[puts,Bw,CO,Ag,Ai]
 exact ER @q;rintro ⟨i,hi,M⟩;by_cases A1:i<5;have Dn:i<L.length:=by omega
 have Q:(i:Int)<5:=by omega
 rw[D5 Dn,Ep]at M;obtain⟨z,hz⟩:=AI (L[i]);have S:L[i]?=some z:=by rw[BE Dn,hz]
 rw[hz]at M;have hw:AZ.wrap ((i:Int)+1)=((i+1:Nat):Int):=by rw[Ac];simp
 by_cases W:z < -1073741824;have e:L.all An=false:=by rw[M];simp[An];omega
 refine go (cj2 @Q @S @W) ?_;exact At (cj2 HY @R @e);by_cases h2:1073741824<z;have e:L.all An=false:=by rw[M];simp[An];omega
 refine go (cj3 @Q @S @W @h2) ?_;exact At (cj2 HY @R @e);have e:L.all An=(L.drop (i+1)).all An:=by
  have:An z=true:=by simp[An];omega
  rw[M,this,Cd]
 refine go (cj4 @Q @S @W @h2 @hw) ?_;refine⟨⟨i+1,by omega,e⟩,by simp only;omega,?_⟩;exact DH;have Au:L.all An=true:=by rw[M,FA (by omega)];rfl
 have Q : ¬(i:Int)<5:=by omega
 have M:=Au;subst n1 s0;have hK:KB=true:=by rw[A0];simp[AA.Fi];exact Nr (by omega)
 refine go (cj2 @Q @s3 @Av) ?_;refine BZ (U) uo ?_;refine Ah ?_;exact At (cj3 HY @R @hK @M)
theorem AWy (B E F G I J:Int)(AE:List AA)(o:Int)(src:List Int)(n1:b1=⟨#[]⟩)(s0:B=0)(s3 : ¬AE.length=0)(hn:b1.size<=maxLen)(hs:src.length<=maxLen)(Ce:AE.length<=1000000):AC AF 195 [.cp (AA.row ⟨2,b1,B,E,F,G,I,J,AE,o,src⟩) 0] (.c (.bool (AA.Cl ⟨2,b1,B,E,F,G,I,J,AE,o,src⟩))):=by
 have Gt:=Zn (2) b1 B E F G I J AE o src hs;obtain⟨SB,J5⟩:=AI (AA.Js ⟨2,b1,B,E,F,G,I,J,AE,o,src⟩);rw[J5]at Gt;obtain⟨KB,J4⟩:=AI (AA.Fi ⟨2,b1,B,E,F,G,I,J,AE,o,src⟩);obtain⟨L,W⟩:∃L,L=[E,F,G,I,J]:=⟨_,rfl⟩
 have Io:L.length=5:=by rw[W];rfl
 have R:AA.Cl ⟨2,b1,B,E,F,G,I,J,AE,o,src⟩=(L.all An && (KB && SB)):=by
  simp only[AA.Cl,J5,J4,AA.lens,W]
 have q:KB=AA.Fi ⟨2,b1,B,E,F,G,I,J,AE,o,src⟩:=J4.symm;rw[R];have Av:(AA.AG AE).length=AE.length:=by rw[Dt];simp
 simp only[AA.row]at Gt ⊢;refine en Vl aT ?_;refine Ah ?_;refine lp (ι:={ k:Nat // k<=5/\L.all An=(L.drop k).all An }) (λk=>[(25,.agg (L.map λn=>.c (.int .i64 n))),(26,.c (.int .i64 (k.1:Int))),(2,.c (.bool false))]) (λ_=>[]) (λk=>5 - k.1) ⟨0,by simp⟩ ?_ ?_;all_goals simp only[puts,Bw,CO,Ag,Ai]
 exact ER @W;rintro ⟨i,hi,M⟩;by_cases A1:i<5;have Dn:i<L.length:=by omega
 have Q:(i:Int)<5:=by omega
 rw[D5 Dn,Ep]at M;obtain⟨z,hz⟩:=AI (L[i]);have S:L[i]?=some z:=by rw[BE Dn,hz]
 rw[hz]at M;have hw:AZ.wrap ((i:Int)+1)=((i+1:Nat):Int):=by rw[Ac];simp
 by_cases U:z < -1073741824;have e:L.all An=false:=by rw[M];simp[An];omega
 refine go (cj2 @Q @S @U) ?_;exact At (cj2 HY @R @e);by_cases h2:1073741824<z;have e:L.all An=false:=by rw[M];simp[An];omega
 refine go (cj3 @Q @S @U @h2) ?_;exact At (cj2 HY @R @e);have e:L.all An=(L.drop (i+1)).all An:=by
  have:An z=true:=by simp[An];omega
  rw[M,this,Cd]
 refine go (cj4 @Q @S @U @h2 @hw) ?_;refine⟨⟨i+1,by omega,e⟩,by simp only;omega,?_⟩;exact DH;have Au:L.all An=true:=by rw[M,FA (by omega)];rfl
 have Q : ¬(i:Int)<5:=by omega
 have M:=Au;subst n1 s0;have hK:KB=false:=by rw[q];simp[AA.Fi];intro h;rw[h]at s3;simp at s3
 have A0 : ¬((AE.length:Nat):Int)=0:=by omega
 refine go (cj3 @Q @s3 @Av @A0) ?_;exact At (cj2 HY @R @hK)
theorem AWz (B E F G I J:Int)(AE:List AA)(o:Int)(src:List Int)(n1:b1=⟨#[]⟩)(s0 : ¬B=0)(hn:b1.size<=maxLen)(hs:src.length<=maxLen)(Ce:AE.length<=1000000):AC AF 195 [.cp (AA.row ⟨2,b1,B,E,F,G,I,J,AE,o,src⟩) 0] (.c (.bool (AA.Cl ⟨2,b1,B,E,F,G,I,J,AE,o,src⟩))):=by
 have Gt:=Zn (2) b1 B E F G I J AE o src hs;obtain⟨SB,J5⟩:=AI (AA.Js ⟨2,b1,B,E,F,G,I,J,AE,o,src⟩);rw[J5]at Gt;obtain⟨KB,J4⟩:=AI (AA.Fi ⟨2,b1,B,E,F,G,I,J,AE,o,src⟩);obtain⟨L,W⟩:∃L,L=[E,F,G,I,J]:=⟨_,rfl⟩
 have Io:L.length=5:=by rw[W];rfl
 have R:AA.Cl ⟨2,b1,B,E,F,G,I,J,AE,o,src⟩=(L.all An && (KB && SB)):=by
  simp only[AA.Cl,J5,J4,AA.lens,W]
 have q:KB=AA.Fi ⟨2,b1,B,E,F,G,I,J,AE,o,src⟩:=J4.symm;rw[R];have Av:(AA.AG AE).length=AE.length:=by rw[Dt];simp
 simp only[AA.row]at Gt ⊢;refine en Vl aT ?_;refine Ah ?_;refine lp (ι:={ k:Nat // k<=5/\L.all An=(L.drop k).all An }) (λk=>[(25,.agg (L.map λn=>.c (.int .i64 n))),(26,.c (.int .i64 (k.1:Int))),(2,.c (.bool false))]) (λ_=>[]) (λk=>5 - k.1) ⟨0,by simp⟩ ?_ ?_;all_goals simp only[puts,Bw,CO,Ag,Ai]
 exact ER @W;rintro ⟨i,hi,M⟩;by_cases A0:i<5;have Dn:i<L.length:=by omega
 have Q:(i:Int)<5:=by omega
 rw[D5 Dn,Ep]at M;obtain⟨z,hz⟩:=AI (L[i]);have S:L[i]?=some z:=by rw[BE Dn,hz]
 rw[hz]at M;have hw:AZ.wrap ((i:Int)+1)=((i+1:Nat):Int):=by rw[Ac];simp
 by_cases U:z < -1073741824;have e:L.all An=false:=by rw[M];simp[An];omega
 refine go (cj2 @Q @S @U) ?_;exact At (cj2 HY @R @e);by_cases h2:1073741824<z;have e:L.all An=false:=by rw[M];simp[An];omega
 refine go (cj3 @Q @S @U @h2) ?_;exact At (cj2 HY @R @e);have e:L.all An=(L.drop (i+1)).all An:=by
  have:An z=true:=by simp[An];omega
  rw[M,this,Cd]
 refine go (cj4 @Q @S @U @h2 @hw) ?_;refine⟨⟨i+1,by omega,e⟩,by simp only;omega,?_⟩;exact DH;have Au:L.all An=true:=by rw[M,FA (by omega)];rfl
 have Q : ¬(i:Int)<5:=by omega
 have M:=Au;have hK:KB=false:=by rw[q];simp[AA.Fi,s0]
 subst n1;refine go (cj @Q<|@s0) ?_;exact At (cj2 HY @R @hK)
theorem AW0 (J B E F G I:Int)(AE:List AA)(o:Int)(src:List Int)(n1 : ¬b1=⟨#[]⟩)(hn:b1.size<=maxLen)(hs:src.length<=maxLen)(Ce:AE.length<=1000000):AC AF 195 [.cp (AA.row ⟨2,b1,J,B,E,F,G,I,AE,o,src⟩) 0] (.c (.bool (AA.Cl ⟨2,b1,J,B,E,F,G,I,AE,o,src⟩))):=by
 have Gt:=Zn (2) b1 J B E F G I AE o src hs;obtain⟨SB,J5⟩:=AI (AA.Js ⟨2,b1,J,B,E,F,G,I,AE,o,src⟩);rw[J5]at Gt;obtain⟨KB,J4⟩:=AI (AA.Fi ⟨2,b1,J,B,E,F,G,I,AE,o,src⟩);obtain⟨L,W⟩:∃L,L=[B,E,F,G,I]:=⟨_,rfl⟩
 have Io:L.length=5:=by rw[W];rfl
 have R:AA.Cl ⟨2,b1,J,B,E,F,G,I,AE,o,src⟩=(L.all An && (KB && SB)):=by
  simp only[AA.Cl,J5,J4,AA.lens,W]
 have q:KB=AA.Fi ⟨2,b1,J,B,E,F,G,I,AE,o,src⟩:=J4.symm;rw[R];have Av:(AA.AG AE).length=AE.length:=by rw[Dt];simp
 simp only[AA.row]at Gt ⊢;refine en Vl aT ?_;refine Ah ?_;refine lp (ι:={ k:Nat // k<=5/\L.all An=(L.drop k).all An }) (λk=>[(25,.agg (L.map λn=>.c (.int .i64 n))),(26,.c (.int .i64 (k.1:Int))),(2,.c (.bool false))]) (λ_=>[]) (λk=>5 - k.1) ⟨0,by simp⟩ ?_ ?_;all_goals simp only[puts,Bw,CO,Ag,Ai]
 exact ER @W;rintro ⟨i,hi,M⟩;by_cases A0:i<5;have Dn:i<L.length:=by omega
 have Q:(i:Int)<5:=by omega
 rw[D5 Dn,Ep]at M;obtain⟨z,hz⟩:=AI (L[i]);have S:L[i]?=some z:=by rw[BE Dn,hz]
 rw[hz]at M;have hw:AZ.wrap ((i:Int)+1)=((i+1:Nat):Int):=by rw[Ac];simp
 by_cases U:z < -1073741824;have e:L.all An=false:=by rw[M];simp[An];omega
 refine go (cj2 @Q @S @U) ?_;exact At (cj2 HY @R @e);by_cases h2:1073741824<z;have e:L.all An=false:=by rw[M];simp[An];omega
 refine go (cj3 @Q @S @U @h2) ?_;exact At (cj2 HY @R @e);have e:L.all An=(L.drop (i+1)).all An:=by
  have:An z=true:=by simp[An];omega
  rw[M,this,Cd]
 refine go (cj4 @Q @S @U @h2 @hw) ?_;refine⟨⟨i+1,by omega,e⟩,by simp only;omega,?_⟩;exact DH;have Au:L.all An=true:=by rw[M,FA (by omega)];rfl
 have Q : ¬(i:Int)<5:=by omega
 have M:=Au;have hK:KB=false:=by rw[q];simp[AA.Fi,n1]
 refine go (cj @Q<|@n1) ?_;exact At (cj2 HY @R @hK)
theorem AW1 (B E F G I J:Int)(AE:List AA)(o:Int)(src:List Int)(hn:b1.size<=maxLen)(hs:src.length<=maxLen)(Ce:AE.length<=1000000):AC AF 195 [.cp (AA.row ⟨3,b1,B,E,F,G,I,J,AE,o,src⟩) 0] (.c (.bool (AA.Cl ⟨3,b1,B,E,F,G,I,J,AE,o,src⟩))):=by
 have Gt:=Zn (3) b1 B E F G I J AE o src hs;obtain⟨SB,J5⟩:=AI (AA.Js ⟨3,b1,B,E,F,G,I,J,AE,o,src⟩);rw[J5]at Gt;obtain⟨KB,J4⟩:=AI (AA.Fi ⟨3,b1,B,E,F,G,I,J,AE,o,src⟩);obtain⟨L,hL⟩:∃L,L=[E,F,G,I,J]:=⟨_,rfl⟩
 have Io:L.length=5:=by rw[hL];rfl
 have S:AA.Cl ⟨3,b1,B,E,F,G,I,J,AE,o,src⟩=(L.all An && (KB && SB)):=by
  simp only[AA.Cl,J5,J4,AA.lens,hL]
 have R:KB=AA.Fi ⟨3,b1,B,E,F,G,I,J,AE,o,src⟩:=J4.symm;rw[S];have Av:(AA.AG AE).length=AE.length:=by rw[Dt];simp
 simp only[AA.row]at Gt ⊢;refine en Vl aT ?_;refine Ah ?_;refine lp (ι:={ k:Nat // k<=5/\L.all An=(L.drop k).all An }) (λk=>[(25,.agg (L.map λn=>.c (.int .i64 n))),(26,.c (.int .i64 (k.1:Int))),(2,.c (.bool false))]) (λ_=>[]) (λk=>5 - k.1) ⟨0,by simp⟩ ?_ ?_;all_goals simp only[puts,Bw,CO,Ag,Ai]
 exact ER @hL;rintro ⟨i,hi,M⟩;by_cases A0:i<5;have Dn:i<L.length:=by omega
 have Q:(i:Int)<5:=by omega
 rw[D5 Dn,Ep]at M;obtain⟨z,hz⟩:=AI (L[i]);have q:L[i]?=some z:=by rw[BE Dn,hz]
 rw[hz]at M;have hw:AZ.wrap ((i:Int)+1)=((i+1:Nat):Int):=by rw[Ac];simp
 by_cases h1:z < -1073741824;have e:L.all An=false:=by rw[M];simp[An];omega
 refine go (cj2 @Q @q @h1) ?_;exact At (cj2 HY @S @e);by_cases h2:1073741824<z;have e:L.all An=false:=by rw[M];simp[An];omega
 refine go (cj3 @Q @q @h1 @h2) ?_;exact At (cj2 HY @S @e);have e:L.all An=(L.drop (i+1)).all An:=by
  have:An z=true:=by simp[An];omega
  rw[M,this,Cd]
 refine go (cj4 @Q @q @h1 @h2 @hw) ?_;refine⟨⟨i+1,by omega,e⟩,by simp only;omega,?_⟩;exact DH;have Au:L.all An=true:=by rw[M,FA (by omega)];rfl
 have Q : ¬(i:Int)<5:=by omega
 have M:=Au;by_cases W:b1=⟨#[]⟩
 by_cases s0:B=0;subst W s0;have U:KB=true:=by rw[R];simp[AA.Fi]
 refine go @Q ?_;refine BZ (Gt) uo ?_;refine Ah ?_;exact At (cj3 HY @S @U @M);have U:KB=false:=by rw[R];simp[AA.Fi,s0]
 subst W;refine go (cj @Q<|@s0) ?_;exact At (cj2 HY @S @U);have U:KB=false:=by rw[R];simp[AA.Fi,W]
 refine go (cj @Q<|@W) ?_;exact At (cj2 HY @S @U)
theorem AW2 (J B E F G I:Int)(AE:List AA)(o:Int)(src:List Int)(k1 : ¬b0=1)(k2 : ¬b0=2)(k3 : ¬b0=3)(hn:b1.size<=maxLen)(hs:src.length<=maxLen)(Ce:AE.length<=1000000):AC AF 195 [.cp (AA.row ⟨b0,b1,J,B,E,F,G,I,AE,o,src⟩) 0] (.c (.bool (AA.Cl ⟨b0,b1,J,B,E,F,G,I,AE,o,src⟩))):=by
 have Gt:=Zn b0 b1 J B E F G I AE o src hs;obtain⟨SB,J5⟩:=AI (AA.Js ⟨b0,b1,J,B,E,F,G,I,AE,o,src⟩);rw[J5]at Gt;obtain⟨KB,J4⟩:=AI (AA.Fi ⟨b0,b1,J,B,E,F,G,I,AE,o,src⟩);obtain⟨L,W⟩:∃L,L=[B,E,F,G,I]:=⟨_,rfl⟩
 have Io:L.length=5:=by rw[W];rfl
 have R:AA.Cl ⟨b0,b1,J,B,E,F,G,I,AE,o,src⟩=(L.all An && (KB && SB)):=by
  simp only[AA.Cl,J5,J4,AA.lens,W]
 have q:KB=AA.Fi ⟨b0,b1,J,B,E,F,G,I,AE,o,src⟩:=J4.symm;rw[R];have Av:(AA.AG AE).length=AE.length:=by rw[Dt];simp
 simp only[AA.row]at Gt ⊢;refine en Vl aT ?_;refine Ah ?_;refine lp (ι:={ k:Nat // k<=5/\L.all An=(L.drop k).all An }) (λk=>[(25,.agg (L.map λn=>.c (.int .i64 n))),(26,.c (.int .i64 (k.1:Int))),(2,.c (.bool false))]) (λ_=>[]) (λk=>5 - k.1) ⟨0,by simp⟩ ?_ ?_;all_goals simp only[puts,Bw,CO,Ag,Ai]
 exact ER @W;rintro ⟨i,hi,M⟩;by_cases A0:i<5;have Dn:i<L.length:=by omega
 have Q:(i:Int)<5:=by omega
 rw[D5 Dn,Ep]at M;obtain⟨z,hz⟩:=AI (L[i]);have S:L[i]?=some z:=by rw[BE Dn,hz]
 rw[hz]at M;have hw:AZ.wrap ((i:Int)+1)=((i+1:Nat):Int):=by rw[Ac];simp
 by_cases U:z < -1073741824;have e:L.all An=false:=by rw[M];simp[An];omega
 refine go (cj2 @Q @S @U) ?_;exact At (cj2 HY @R @e);by_cases h2:1073741824<z;have e:L.all An=false:=by rw[M];simp[An];omega
 refine go (cj3 @Q @S @U @h2) ?_;exact At (cj2 HY @R @e);have e:L.all An=(L.drop (i+1)).all An:=by
  have:An z=true:=by simp[An];omega
  rw[M,this,Cd]
 refine go (cj4 @Q @S @U @h2 @hw) ?_;refine⟨⟨i+1,by omega,e⟩,by simp only;omega,?_⟩;exact DH;have Au:L.all An=true:=by rw[M,FA (by omega)];rfl
 have Q : ¬(i:Int)<5:=by omega
 have M:=Au;have hK:KB=false:=by rw[q];simp[AA.Fi,k1,k2,k3]
 refine go (cj3 @Q @k1 @k2 @k3) ?_;exact At (cj2 HY @R @hK)
theorem AWv (B E F G I J:Int)(AE:List AA)(o:Int)(src:List Int)(Q:b1.size<=maxLen)(hs:src.length<=maxLen)(M:AE.length<=1000000):AC AF 195 [.cp (AA.row ⟨b0,b1,B,E,F,G,I,J,AE,o,src⟩) 0] (.c (.bool (AA.Cl ⟨b0,b1,B,E,F,G,I,J,AE,o,src⟩))):=by
 by_cases S:b0=1;subst S;exact AWw b1 B E F G I J AE o src Q hs M;by_cases U:b0=2;subst U;by_cases R:b1=⟨#[]⟩
 by_cases s0:B=0;by_cases q:AE.length=0;exact AWx b1 B E F G I J AE o src R s0 q Q hs M;exact AWy b1 B E F G I J AE o src R s0 q Q hs M;exact AWz b1 B E F G I J AE o src R s0 Q hs M;exact AW0 b1 B E F G I J AE o src R Q hs M;by_cases W:b0=3;subst W;exact AW1 b1 B E F G I J AE o src Q hs M;exact AW2 b0 b1 B E F G I J AE o src S U W Q hs M
theorem AXL (J M R S U W:Int)(AE:List AA)(o:Int)(src:List Int)(B c:Nat)(hn:b1.size<=maxLen)(hs:src.length<=maxLen)(hd:B<=101)(hc:c+AA.cnt ⟨b0,b1,J,M,R,S,U,W,AE,o,src⟩<=1000000)(ih : ∀k∈AE,∀(B c:Nat),B<=101->c+k.cnt<=1000000->AX AF 131 [.cp (AA.row k) 0,.c (.int .i64 ((B:Nat):Int)),.ptr 0 0] 3 [.int .i64 ((c:Nat):Int)] [.int .i64 ((AA.pv B k c).2:Int)] (.c (.bool (AA.pv B k c).1))):AX AF 131 [.cp (AA.row ⟨b0,b1,J,M,R,S,U,W,AE,o,src⟩) 0,.c (.int .i64 ((B:Nat):Int)),.ptr 0 0] 3 [.int .i64 ((c:Nat):Int)] [.int .i64 ((AA.pv B ⟨b0,b1,J,M,R,S,U,W,AE,o,src⟩ c).2:Int)] (.c (.bool (AA.pv B ⟨b0,b1,J,M,R,S,U,W,AE,o,src⟩ c).1)):=by
 have FX:AA.cnt ⟨b0,b1,J,M,R,S,U,W,AE,o,src⟩=1+AA.Az AE:=rfl;rw[FX]at hc;have Ce:=Ud AE;have E:=AWv b0 b1 J M R S U W AE o src hn hs (by omega);obtain⟨OB,qR⟩:=AI (AA.Cl ⟨b0,b1,J,M,R,S,U,W,AE,o,src⟩);rw[qR]at E;have z:AA.pv B ⟨b0,b1,J,M,R,S,U,W,AE,o,src⟩ c=if 20000<c+1\/100<B\/OB=false then(false,c+1)else AA.HU (B+1) AE (c+1):=by simp only[AA.pv,qR]
 have F:AZ.wrap ((c:Int)+1)=((c+1:Nat):Int):=by rw[Ac];simp
 simp only[AA.row]at E ⊢;rw[Dt]at E ⊢;refine AX.intro func131 rfl ?_;simp only[ntmps131,Ap,BB,BA,BO,Nat.reduceAdd,Nat.reduceSub,BY,Cy,BK,BU];by_cases h1:20000<c+1;rw[if_pos (.inl h1)]at z;have I:(20000:Int)<((c+1:Nat):Int):=by omega
 obtain⟨C,q⟩:∃C:Int,((c+1:Nat):Int)=C:=⟨_,rfl⟩
 rw[z];simp only;rw[q]at F I ⊢;refine go (cj @F<|@I) ?_;simp[Xy,DV,C0,DE,V.CP,V.CF,CJ,toCs,toC,nY]
 . have I : ¬(20000:Int)<((c+1:Nat):Int):=by omega
   by_cases h2:100<B;rw[if_pos (.inr (.inl h2))]at z;have J3:(100:Int)<((B:Nat):Int):=by omega
   obtain⟨C,q⟩:∃C:Int,((c+1:Nat):Int)=C:=⟨_,rfl⟩
   rw[z];simp only;rw[q]at F I ⊢;refine go (cj2 @F @I @J3) ?_;simp[Xy,DV,C0,DE,V.CP,V.CF,CJ,toCs,toC,nY]
   . have J3 : ¬(100:Int)<((B:Nat):Int):=by omega
     cases OB with
     | false =>
       rw[if_pos (.inr (.inr rfl))]at z;obtain⟨C,q⟩:∃C:Int,((c+1:Nat):Int)=C:=⟨_,rfl⟩
       rw[z];simp only;rw[q]at F I ⊢;refine go (cj2 @F @I @J3) ?_;refine BZ (E) Vl ?_;refine Ah ?_;simp[Xy,DV,C0,DE,V.CP,V.CF,CJ,toCs,toC,nY]
     | true =>
       rw[if_neg (by rintro (h|h|h)<;>first|omega|cases h)]at z;rw[z];have A0:AZ.wrap ((B:Int)+1)=((B+1:Nat):Int):=by rw[Ac];simp
       obtain⟨Q,hQ⟩:=AI (AA.HU (B+1) AE (c+1));rw[hQ];obtain⟨C,q⟩:∃C:Int,((c+1:Nat):Int)=C:=⟨_,rfl⟩
       rw[q]at F I;refine go (cj2 @F @I @J3) ?_;refine BZ (E) Vl ?_;refine Ah ?_;subst q;refine lp (ι:={ k:Nat×Nat // k.1<=AE.length/\k.2+AA.Az (AE.drop k.1)<=1000000/\Q=AA.HU (B+1) (AE.drop k.1) k.2 }) (λk=>[(31,.c (.int .i64 (k.1.1:Int))),(6,.c (.bool false))]) (λk=>[.box 3 [.c (.int .i64 (k.1.2:Int))] false]) (λk=>AE.length - k.1.1) ⟨(0,c+1),by simp,by simp;omega,by simp[hQ]⟩ ?_ ?_;all_goals simp only[puts,Bw,CO,Ag,Ai]
       exact DH;rintro ⟨⟨j,n⟩,hj,hb,G⟩;simp only at hj hb G ⊢;by_cases U4:j<AE.length;rw[D5 U4]at G hb;obtain⟨k,EC⟩:=AI (AE[j]);rw[EC]at G hb;simp only[AA.Az]at hb;simp only[AA.HU]at G;have VF:=ih k (EC ▸ Kq U4) (B+1) n (by omega) (by omega);have Av:k.row.length=11:=by cases k;rfl
       have KE:=(ABP (B+1) k n).1;have hw:AZ.wrap ((j:Int)+1)=((j+1:Nat):Int):=by rw[Ac];simp
       obtain⟨⟨r,n'⟩,hr⟩:=AI (AA.pv (B+1) k n);rw[hr]at VF G KE;simp only at VF G KE;obtain⟨D,hD⟩:∃D:Int,((B+1:Nat):Int)=D:=⟨_,rfl⟩
       rw[hD]at VF A0;refine go @U4 ?_;refine Og (.mk 9) (cj3 @U4 @EC @A0 @Av) ?_;refine SW.pJ 0 VF func131 (by kernel_rfl) (by kernel_rfl) (by simp[BQ]) (by simp[C7,EC,A0];first|exact rfl|exact⟨rfl,rfl⟩) (by simp[V.Dj,V.Di,EC];try exact rfl) (by rfl) (by simp[toCs,toC]) ?_;cases r with
       | false=>rw[if_neg (by simp)]at G;refine CY (.mk 1) trivial ?_;refine SW.nil ?_;refine Ah ?_;simp[Xy,DV,C0,DE,V.CP,V.CF,CJ,toCs,toC,nY,G]
       | true=>rw[if_pos rfl]at G;refine CY (.mk 1) trivial ?_;refine SW.nil ?_;refine go @hw ?_;refine⟨⟨(j+1,n'),by simp only;omega,by simp only;omega,G⟩,by simp only;omega,?_⟩;exact DH
       rw[FA (by omega)]at G;simp only[AA.HU]at G;refine go @U4 ?_;simp[Xy,DV,C0,DE,V.CP,V.CF,CJ,toCs,toC,nY,G]
theorem AVS (B E F G I J:Int)(AE:List AA)(o:Int)(src:List Int)(h:AA.BX ⟨b0,b1,B,E,F,G,I,J,AE,o,src⟩):b1.size<=maxLen/\src.length<=maxLen/\AA.FY AE:=by simpa only[AA.BX]using h
theorem AJ8 : ∀(n:Nat) (b:AA),UF b<n->b.BX->∀(B c:Nat),B<=101->c+b.cnt<=1000000->AX AF 131 [.cp (AA.row b) 0,.c (.int .i64 ((B:Nat):Int)),.ptr 0 0] 3 [.int .i64 ((c:Nat):Int)] [.int .i64 ((AA.pv B b c).2:Int)] (.c (.bool (AA.pv B b c).1))
 | 0,b,h,_=>absurd h (by omega)
 | n+1,⟨b0,b1,F,G,I,J,M,Q,E,o,src⟩,q,S=>by
   obtain⟨z,o2,o3⟩:=AVS b0 b1 F G I J M Q E o src S;intro B c W U;exact AXL b0 b1 F G I J M Q E o src B c z o2 W U λk R=>AJ8 n k (by
    have:=List.sizeOf_lt_of_mem R;simp only[AA.mk.sizeOf_spec]at q;omega) (kl o3 k R)
theorem EL (h:b.BX)(S:b.cnt<=1000000):AC AF 76 [Ao b] (.c (.bool b.Ad)):=by
 have B:=AJ8 (UF b+1) b (by omega) h 1 0 (by omega) (by omega);rw[<-AXK];obtain⟨⟨r,n⟩,E⟩:=AI (AA.pv 1 b 0);rw[E]at B ⊢;simp only at B ⊢;obtain⟨b0,b1,G,I,J,M,Q,R,F,o,src⟩:=b;simp only[Ao,AA.row,Ap,BB]at B ⊢;refine en Ib ntmps76 ?_;with_reducible refine AW.seq ?_
 with_reducible refine AW.region ?_
 with_reducible refine If (by simp[BY];first|exact rfl|exact⟨rfl,rfl⟩) ?_
 with_reducible refine Kz ?_
 with_reducible refine G3 ?_
 with_reducible refine AW.seq ?_
 with_reducible refine AW.region ?_
 with_reducible refine If (by simp[BY];first|exact rfl|exact⟨rfl,rfl⟩) ?_
 with_reducible refine Kz ?_
 with_reducible refine G3 ?_
 refine Cn 0 ?_;with_reducible refine AW.seq ?_
 with_reducible refine AW.DA ?_
 refine SW.pJ 1 B func131 (by kernel_rfl) (by kernel_rfl) (by simp[BQ]) (by simp[C7];first|exact rfl|exact⟨rfl,rfl⟩) (by simp[V.Dj,V.Di];try exact rfl) (by rfl) (by simp[toCs,toC]) ?_;refine CY (.mk 1) trivial ?_;refine SW.nil ?_;refine Ah ?_;exact At results76
theorem Ke (n:Int):AC AF 135 [.c (.int .i64 n)] (.c (.int .i64 (Bm n))):=by
 cases B:An n with
 | false =>
   have E:Bm n=0:=by simp[Bm,B]
   refine en aS ntmps135 ?_;refine Ah ?_;refine gc @B (Ng n) M9 ?_;refine go @B ?_;exact At (cj results135<| @E)
 | true =>
   have E:Bm n=quot n 2:=by rw[AXV];simp[Bm,B]
   have F:=B;simp[An]at F;refine en aS ntmps135 ?_;refine Ah ?_;refine gc @B (Ng n) M9 ?_;refine go @B ?_;refine BZ (AKG n 2 (by omega) (by omega) (.inr rfl)) func126 ?_;refine Ah ?_;exact At (cj results135<| @E)
theorem Gu (x y:Int)(hs:b.src.length<=1000000):AC AF 71 [Ao b,.c (.int .i64 x),.c (.int .i64 y)] (Ao (b.AS x y)):=by
 obtain⟨b0,b1,F,G,I,J,M,Q,E,o,src⟩:=b;have B:=pO src hs;simp only[Ao,AA.AS,AA.row,Ap,BB];refine en UK ntmps71 ?_;refine Ah ?_;refine BZ (B) func118 ?_;refine Ah ?_;exact At results71
theorem ABF (w h d:Int):AC AF 306 [.c (.int .i64 w),.c (.int .i64 h),.c (.int .i64 d)] (Ao (FV w h d)):=by
 simp only[Ao,FV,AA.row,AA.AG,Ap,BB];refine en func306 ntmps306 ?_;refine Ah ?_;exact At (cj results306<| @AV.eq_1)
theorem sD (n p q:Int):AC AF 307 [.c (.int .i64 n),.c (.int .i64 q),.cp [.int .i64 p] 0] (.c (.int .i64 (AU (AU n p) q))):=by
 refine en nG ntmps307 ?_;refine Ah ?_;refine BZ (EI n p) JA ?_;refine BZ (EI (AU n p) q) JA ?_;refine Ah ?_;exact At results307
@[simp] theorem AP.AiD (f:AP):f.vs[17]?=some (.c (.int .i64 f.params.script)):=rfl
@[simp] theorem AP.Ah0 (f:AP)(h:17<f.vs.length):f.vs[17]'h=.c (.int .i64 f.params.script):=rfl
@[simp] theorem AP.AiE (f:AP):f.vs[18]?=some (.c (.int .i64 f.params.Qr)):=rfl
@[simp] theorem AP.Ah1 (f:AP)(h:18<f.vs.length):f.vs[18]'h=.c (.int .i64 f.params.Qr):=rfl
def AA.vs (b:AA):List V:=b.row.map V.c
theorem As (b:AA):Ao b=.agg b.vs:=rfl
section
variable (b:AA)
@[simp] theorem AA.Xf:b.vs.length=11:=by cases b;rfl
@[simp] theorem AA.ACP:b.vs.all V.one=true:=by cases b;rfl
@[simp] theorem AA.ACR:b.vs.take 11=b.vs:=Gl (by simp)
@[simp] theorem AA.ACN:b.vs[0]?=some (.c (.int .i64 b.kind)):=by cases b;rfl
@[simp] theorem AA.ACG (h:0<b.vs.length):b.vs[0]'h=.c (.int .i64 b.kind):=by cases b;rfl
@[simp] theorem AA.ACO:b.vs[3]?=some (.c (.int .i64 b.w)):=by cases b;rfl
@[simp] theorem AA.ACI (h:3<b.vs.length):b.vs[3]'h=.c (.int .i64 b.w):=by cases b;rfl
@[simp] theorem AA.Aad:b.vs[4]?=some (.c (.int .i64 b.h)):=by cases b;rfl
@[simp] theorem AA.AaV (h:4<b.vs.length):b.vs[4]'h=.c (.int .i64 b.h):=by cases b;rfl
@[simp] theorem AA.Aae:b.vs[5]?=some (.c (.int .i64 b.d)):=by cases b;rfl
@[simp] theorem AA.AaW (h:5<b.vs.length):b.vs[5]'h=.c (.int .i64 b.d):=by cases b;rfl
@[simp] theorem AA.Aaf:b.vs[6]?=some (.c (.int .i64 b.x)):=by cases b;rfl
@[simp] theorem AA.AaX (h:6<b.vs.length):b.vs[6]'h=.c (.int .i64 b.x):=by cases b;rfl
@[simp] theorem AA.Aag:b.vs[7]?=some (.c (.int .i64 b.y)):=by cases b;rfl
@[simp] theorem AA.AaY (h:7<b.vs.length):b.vs[7]'h=.c (.int .i64 b.y):=by cases b;rfl
@[simp] theorem AA.Aah:b.vs[8]?=some (.c (.sl (AA.AG b.AE))):=by cases b;rfl
@[simp] theorem AA.AaZ (h:8<b.vs.length):b.vs[8]'h=.c (.sl (AA.AG b.AE)):=by cases b;rfl
@[simp] theorem AA.tX:V.CF b.vs=some b.vs:=Zq b.row
@[simp] theorem AA.ACS:toCs b.vs=some b.row:=toCs_c b.row
@[simp] theorem AA.AL9 (cs:List V)(h:cs.length=11):E8 cs 0 b.vs=b.vs:=kz (by simp[h])
@[simp] theorem AA.Nk:b.row.length=11:=by cases b;rfl
@[simp] theorem AA.ABb:b.row.map V.c=b.vs:=rfl
@[simp] theorem AA.AKV:b.row.take 11=b.row:=Gl (by simp)
@[simp] theorem AA.tW (n:Nat):V.BI n b.vs=true:=by cases b;simp[AA.vs,AA.row,V.BI,V.A8]
end
def IT (f:AP)(s:Aa):Int×Int:=if s.ok=false\/f.valid=false then(0,1)else(BS f.params s,0)
theorem LI (f:AP)(s:Aa):AC AF 106 [.agg f.vs,Aj s] (.A7 [.c (.int .i64 (IT f s).1),AR (IT f s).2]):=by
 have B:=fI s;have E:=Ma f;cases F:s.ok with
 | false=>have e:IT f s=(0,1):=if_pos (.inl F);rw[e];rw[F]at B;unfold Aj at B ⊢;refine en Sq nO ?_;refine Ah ?_;refine BZ (B) aR ?_;refine Ah ?_;exact At (cj nW<| @AR.eq_1)
 | true =>
   rw[F]at B;cases J:f.valid with
   | false=>have e:IT f s=(0,1):=if_pos (.inr J);rw[e];rw[J]at E;unfold Aj at B ⊢;refine en Sq nO ?_;refine Ah ?_;refine BZ (B) aR ?_;refine BZ (E) Hs ?_;refine Ah ?_;exact At (cj nW<| @AR.eq_1)
   | true =>
     rw[J]at E;have e:IT f s=(BS f.params s,0):=if_neg (by simp[F,J]);rw[e];have M:BS f.params s=if s.By=2 then f.params.script else if s.By=3 then f.params.Qr else 100:=if_neg (by simp[F])
     rw[M];clear e M;unfold Aj at B ⊢;by_cases G:s.By=2;refine en Sq nO ?_;refine Ah ?_;refine BZ (B) aR ?_;refine BZ (E) Hs ?_;refine go @G ?_;exact At (cj2 nW @AR.eq_1 @G);by_cases I:s.By=3;refine en Sq nO ?_;refine Ah ?_;refine BZ (B) aR ?_;refine BZ (E) Hs ?_;refine go @I ?_;exact At (cj2 nW @AR.eq_1 @I);refine en Sq nO ?_;refine Ah ?_;refine BZ (B) aR ?_;refine BZ (E) Hs ?_;refine go (cj @G<|@I) ?_;exact At (cj3 nW @AR.eq_1 @G @I)
def C8 (b:AA):AA×Int:=if b.Ad=true then(b,0)else(AA.zero,6)
theorem Fl:AA.zero.vs=[.c (.int .i64 0),.c (.str ⟨#[]⟩),.c (.int .i64 0),.c (.int .i64 0),.c (.int .i64 0),.c (.int .i64 0),.c (.int .i64 0),.c (.int .i64 0),.c (.sl []),.c (.int .i64 0),.c (.sl [])]:=rfl
theorem AKZ (l:List AA)(k:Nat)(h:k<l.length):AA.AG (l.take (k+1))=AA.AG (l.take k)++[(l[k]).row]:=by
 rw[Dt,Dt,UD h,Fm];rfl
def Fy (w h d:Int)(AE:V):List V:=[.c (.int .i64 3),.c (.str ⟨#[]⟩),.c (.int .i64 0),.c (.int .i64 w),.c (.int .i64 h),.c (.int .i64 d),.c (.int .i64 0),.c (.int .i64 0),AE,.c (.int .i64 0),.Bg []]
theorem My (w h d:Int)(AE:List AA)(hd:AA.JH AE)(hc:AA.Az AE<999999):AC AF 75 [.c (.int .i64 w),.c (.int .i64 h),.c (.int .i64 d),.c (.sl (AA.AG AE))] (Ao (Bf w h d AE)):=by
 have Ce:=Ud AE;have S:Ao (Bf w h d AE)=.agg [.c (.int .i64 3),.c (.str ⟨#[]⟩),.c (.int .i64 0),.c (.int .i64 w),.c (.int .i64 h),.c (.int .i64 d),.c (.int .i64 0),.c (.int .i64 0),.c (.sl (AA.AG AE)),.c (.int .i64 0),.c (.sl [])]:=by simp[Ao,Bf,AA.row,AV]
 rw[S];clear S;obtain⟨G,I⟩:=AI (AA.AG AE);have F:G.length=AE.length:=by rw[<-I,Dt];simp
 rw[I];refine en nM ntmps75 ?_;refine Ah ?_;refine AW.le (Le.T4 1 8 41 11 rfl rfl) ?_;simp only[BA,BO,Nat.reduceAdd,Ag,Ai,BK,BU];refine lp (ι:={ k:Nat // k<=AE.length }) (λk=>[(18,.c (.int .i64 (k.1:Int)))]) (λk=>[.box 41 BT false,.box 41 (Fy w h d (.gr 2 11 (AA.AG (AE.take k.1)))) false,.tok 41 11 k.1]) (λk=>AE.length - k.1) ⟨0,by simp⟩ ?_ ?_;all_goals simp only[puts,Bw,CO,Ag,Ai]
 exact ER (cj3 @BT.eq_1 @Fy.eq_1 @AA.AG.eq_1 @AA.AG.eq_2);rintro ⟨k,hk⟩;simp only;by_cases B:k<AE.length;obtain⟨c,E⟩:=AI (AE[k]);have J:G[k]?=some c.row:=by rw[<-I,Dt,CM,BE B,E];rfl
 have U : ∀Q:k<G.length,G[k]'Q=c.row:=by intro Q;rw[BE Q]at J;exact ML J
 have yu:c.Fq:=pX AE k c hd (by rw[BE B,E]);have FX:=bj AE k c (by rw[BE B,E]);have R:=pW c yu (by omega);rw[As]at R;have hw:AZ.wrap ((k:Int)+1)=((k+1:Nat):Int):=by rw[Ac];simp
 have z:k+1<=maxLen:=by unfold maxLen;omega
 have q:(k+1)*128<=140737488355328:=by omega
 have GP:(AA.AG (AE.take k)).length=k:=by rw[Dt];simp;omega
 have M:AA.AG (AE.take (k+1))=AA.AG (AE.take k)++[c.row]:=by rw[AKZ AE k B,E]
 have W:k<G.length:=by omega
 refine go (cj6 @F @B @J @U @W @Fy.eq_1 @BT.eq_1) ?_;refine gc (cj3 @z @q @GP @Fy.eq_1) (R) uh ?_;refine go @hw ?_;refine⟨⟨k+1,by omega⟩,by simp only;omega,?_⟩;refine Le.MI 3 (F2 rfl) (by simp[DG,BT,Fy,M,F]) (by simp[BT,Fy,M,F]) (by simp[V.BI,V.A8]) (by simp[O.A8,V.BI,V.A8,BT,Fy,M,F]);have e:AE.take k=AE:=Gl (by omega);rw[e,I];refine go (cj3 @F @B @Fy.eq_1 @BT.eq_1) ?_;exact At results75
def XJ (r:Int)(l:List CR)(i:Fin l.length):List (Fin l.length):=Aq (times r l[i]).toNat i
def upto (r:Int)(l:List CR)(k:Nat):List (Fin l.length):=((ACu l.length).take k).flatMap (XJ r l)
def whole (r:Int)(l:List CR):List (Fin l.length):=upto r l l.length
theorem tS (k:Nat)(h:k<l.length):upto r l (k+1)=upto r l k++XJ r l ⟨k,h⟩:=by
 unfold upto;rw[UD (by simpa using h),AMd];simp
theorem ALs (k:Nat)(h:k<=l.length):∃t,whole r l=upto r l k++t:=by
 refine⟨((ACu l.length).drop k).flatMap (XJ r l),?_⟩;unfold whole upto;rw[<-AMd,List.take_append_drop,Gl (by simp)]
def xU (l:List CR)(i:Fin l.length):Value:=.int .i64 (i.val:Int)
def tD (y:Nat)(s:Bc)(r:Int)(k:Nat):List V:=[.yl y,.cp s.row 0,.cp [.int .i64 r] 0,.any,.any,.any,.any,.cp s.row 2,.c (Ek s.parts),.c (.int .i64 s.parts.length),.c (.int .i64 k),.any,.any,.any,.any,.any,.any,.any,.any,.any,.any,.any,.any,.any,.any,.any,.any]
def LN (y:Nat)(s:Bc)(r:Int)(k:Nat)(m:Int)(j:Nat):List V:=[.yl y,.cp s.row 0,.cp [.int .i64 r] 0,.any,.c (.int .i64 k),.any,.any,.cp s.row 2,.c (Ek s.parts),.c (.int .i64 s.parts.length),.c (.int .i64 k),.any,.any,.any,.any,.any,.any,.any,.c (.int .i64 m),.c (.int .i64 j),.any,.any,.any,.any,.any,.any,.any]
theorem AWG (s:Bc)(r:Int)(hp:s.parts.length<=8)(HP:1<=r)(z:r<=1000):UU AF 376 [.cp s.row 0,.cp [.int .i64 r] 0] (λy=>#[xU s.parts y]) (λxs=>xs=whole r s.parts) (whole r s.parts).length:=by
 refine UU.intro func376 rfl rfl λY=>?_
 simp only[ntmps376,BA,BO,Nat.reduceAdd,Nat.reduceSub,BY,Cy,BK,BU];refine ED (cj @Bc.row.eq_1<|@Ek.eq_1) ?_;refine IW.loop (ι:={ k:Nat // k<=s.parts.length }) (λk=>(⟨upto r s.parts k.1,false⟩,⟨tD Y.l s r k.1,[]⟩)) (λk=>s.parts.length - k.1) ⟨0,by omega⟩ (by simp[upto]) ?_ ?_;refine G1.drop (by simp[DG,tD,Bc.row,Ek]) (by simp[V.BI,V.A8,tD]);rintro ⟨k,hk⟩;simp only[tD];by_cases B:k<s.parts.length
 . obtain⟨q,I⟩:=AI (s.parts[k]);have S:AZ.wrap ((k:Int)+1)=((k+1:Nat):Int):=by rw[Ac];simp
   cases J:q.ext with
   | true =>
     have R:times r q=r:=by simp[times,J]
     have G:XJ r s.parts ⟨k,B⟩=Aq (r:Int).toNat ⟨k,B⟩:=by
      unfold XJ;rw[show s.parts[(⟨k,B⟩:Fin s.parts.length)]=q from I,R]
     refine ED (cj5 @B @I @Bc.row.eq_1 @Ek.eq_1 @CR.row.eq_1 @J) ?_;refine IW.loop (ι:={ j:Nat // (j:Int)<=r }) (λj=>(⟨upto r s.parts k++Aq j.1 ⟨k,B⟩,false⟩,⟨LN Y.l s r k r j.1,[]⟩)) (λj=>(r:Int).toNat - j.1) ⟨0,by simp only[AMX];omega⟩ (by simp) ?_ ?_;refine G1.drop (by simp[DG,LN,Bc.row,Ek]) (by simp[V.BI,V.A8,LN]);rintro ⟨j,W⟩;simp only[LN];by_cases F:(j:Int)<r
     . have E:AZ.wrap ((j:Int)+1)=((j+1:Nat):Int):=by rw[Ac];simp
       refine ED @F ?_;refine IL.yield ⟨k,B⟩ (LN Y.l s r k r j) rfl rfl (by simp[ev]) (by first|(simp[ev];exact⟨rfl,rfl⟩)|(simp[ev];done)) rfl ?_ (by simp[DG,LN]) (by simp[V.BI,V.A8,LN]) ?_ ?_;obtain⟨t,Q⟩:=ALs r s.parts (k+1) B;rw[Q,tS r s.parts k B,G];simp only[Cp,H6];omega;simp only[St.put,LN,Ag,Ai,BA,BO,Nat.reduceAdd,BY,Cy];refine ED @E ?_;refine⟨⟨j+1,by omega⟩,by simp only;omega,?_,?_⟩;simp[Sj,GX];exact G1.drop (by simp[DG]) (by simp[V.BI,V.A8]);simp only[St.put,LN,Ag,Ai,BA,BO,Nat.reduceAdd,BY,Cy];refine ED trivial ?_;exact⟨.inr rfl,λh=>nomatch h⟩
     have M:j=(r:Int).toNat:=by omega
     refine ED (cj @F<|@S) ?_;refine⟨⟨k+1,B⟩,by simp only;omega,?_,?_⟩;simp only[tS r s.parts k B,G,M];exact G1.drop (by simp[DG]) (by simp[V.BI,V.A8])
   | false =>
     have R:times r q=1:=by simp[times,J]
     have G:XJ r s.parts ⟨k,B⟩=Aq (1:Int).toNat ⟨k,B⟩:=by
      unfold XJ;rw[show s.parts[(⟨k,B⟩:Fin s.parts.length)]=q from I,R]
     refine ED (cj5 @B @I @Bc.row.eq_1 @Ek.eq_1 @CR.row.eq_1 @J) ?_;refine IW.loop (ι:={ j:Nat // (j:Int)<=1 }) (λj=>(⟨upto r s.parts k++Aq j.1 ⟨k,B⟩,false⟩,⟨LN Y.l s r k 1 j.1,[]⟩)) (λj=>(1:Int).toNat - j.1) ⟨0,by simp only[AMX];omega⟩ (by simp) ?_ ?_;refine G1.drop (by simp[DG,LN,Bc.row,Ek]) (by simp[V.BI,V.A8,LN]);rintro ⟨j,W⟩;simp only[LN];by_cases F:(j:Int)<1
     . have E:AZ.wrap ((j:Int)+1)=((j+1:Nat):Int):=by rw[Ac];simp
       refine ED @F ?_;refine IL.yield ⟨k,B⟩ (LN Y.l s r k 1 j) rfl rfl (by simp[ev]) (by first|(simp[ev];exact⟨rfl,rfl⟩)|(simp[ev];done)) rfl ?_ (by simp[DG,LN]) (by simp[V.BI,V.A8,LN]) ?_ ?_;obtain⟨t,Q⟩:=ALs r s.parts (k+1) B;rw[Q,tS r s.parts k B,G];simp only[Cp,H6];omega;simp only[St.put,LN,Ag,Ai,BA,BO,Nat.reduceAdd,BY,Cy];refine ED @E ?_;refine⟨⟨j+1,by omega⟩,by simp only;omega,?_,?_⟩;simp[Sj,GX];exact G1.drop (by simp[DG]) (by simp[V.BI,V.A8]);simp only[St.put,LN,Ag,Ai,BA,BO,Nat.reduceAdd,BY,Cy];refine ED trivial ?_;exact⟨.inr rfl,λh=>nomatch h⟩
     have M:j=(1:Int).toNat:=by omega
     refine ED (cj @F<|@S) ?_;refine⟨⟨k+1,B⟩,by simp only;omega,?_,?_⟩;simp only[tS r s.parts k B,G,M];exact G1.drop (by simp[DG]) (by simp[V.BI,V.A8])
 refine ED @B ?_;have U:k=s.parts.length:=by omega
 subst U;exact⟨.inl rfl,λ_=>rfl⟩
theorem sK : ∀(vs cs pre post:List V),cs.length=vs.length->E8 (pre++cs++post) pre.length vs=pre++vs++post
 | [],cs,pre,post,h=>by have:cs=[]:=Nr h;subst this;simp[E8]
 | v::vs,[],pre,post,h=>by simp at h
 | v::vs,c::cs,pre,post,h=>by
   have ih:=sK vs cs (pre++[v]) post (by simpa using h);simp only[Cp,BA,BO,Nat.zero_add]at ih;simp only[E8];rw[show (pre++c::cs++post).set pre.length v=pre++[v]++cs++post by simp,ih];simp
def Ih (f:AP)(p:Int)(l:List CR)(k:Nat):List V:=((l.take k).map λq=>(DB f q.name p).1.row.map V.c).flatten++(Aq (l.length - k) BT).flatten
def I0 (f:AP)(l:List CR)(k:Nat):List V:=((l.take k).map λq=>[V.c (.int .i64 (f.pick q.name).Dy)]).flatten++(Aq (l.length - k) [V.c (.int .i64 0)]).flatten
theorem sq : ∀b:AA,b.row.length=11:=by rintro ⟨_,_,_,_,_,_,_,_,_,_,_⟩;rfl
theorem AN2 (f:AP)(p:Int)(l:List CR)(k:Nat)(h:k<=l.length):(Ih f p l k).length=l.length*11:=by
 unfold Ih;rw[Cp,K7 (es:=11),K7 (es:=11)];simp only[Ch,Fa,H6,Vi h,<-Gz];congr 1
 omega;intro r B;rw[UA B];rfl;intro r B;obtain⟨q,_,rfl⟩:=Da.1 B;rw[Ch,sq]
theorem ASq (f:AP)(l:List CR)(k:Nat)(h:k<=l.length):(I0 f l k).length=l.length:=by
 unfold I0;rw[Cp,K7 (es:=1),K7 (es:=1)];simp only[Ch,Fa,H6,Vi h];omega;intro r B;rw[UA B];rfl;intro r B;obtain⟨q,_,rfl⟩:=Da.1 B;rfl
theorem AN3 (f:AP)(p:Int)(l:List CR)(k:Nat)(h:k<l.length):E8 (Ih f p l k) (k*11) ((DB f l[k].name p).1.row.map V.c)=Ih f p l (k+1):=by
 have B:(((l.take k).map λq=>(DB f q.name p).1.row.map V.c).flatten).length=k*11:=by
  rw[K7 (es:=11)];simp only[Ch,Fa,Vi (LZ h)];intro r E;obtain⟨q,_,rfl⟩:=Da.1 E;rw[Ch,sq]
 have e:l.length - k=(l.length - (k+1))+1:=by omega
 unfold Ih;rw[e,BY,Hp,<-GX,<-B,sK _ _ _ _ (by rw[Ch,sq];rfl),UD h,Fm,Vd];simp
theorem ASr (f:AP)(l:List CR)(k:Nat)(h:k<l.length):E8 (I0 f l k) k [V.c (.int .i64 (f.pick l[k].name).Dy)]=I0 f l (k+1):=by
 have B:(((l.take k).map λq=>[V.c (.int .i64 (f.pick q.name).Dy)]).flatten).length=k:=by
  rw[K7 (es:=1)];simp only[Ch,Fa,Vi (LZ h),Nat.mul_one];intro r E;obtain⟨q,_,rfl⟩:=Da.1 E;rfl
 have e:l.length - k=(l.length - (k+1))+1:=by omega
 unfold I0;rw[e,BY,Hp,<-GX];conv=>lhs;arg 2;rw[<-B]
 rw[sK _ [V.c (.int .i64 0)] _ _ (by simp),UD h,Fm,Vd];simp
theorem ew {n p:Int}(B:0<=n)(E:0<=p):0<=AU n p:=by
 unfold AU;split;unfold Ea;rw[if_pos (RB B E)];have:=RB B E;omega;omega
theorem AWF {f:AP}(h:f.valid=true)(name:ByteArray):0<=(f.pick name).w:=by
 have key : ∀g∈f.DR,0<=g.w:=by
  intro g F;have:=Z8 h g F;simp[Lo,DX]at this;omega
 unfold AP.pick;cases B:f.find name with
 | some g=>exact key g (cA B)
 | none =>
   cases E:f.find ⟨#[63]⟩with
   | some g=>exact key g (cA E)
   | none=>simp[BG.zero]
theorem ACX {f:AP}(B:f.valid=true){p:Int}(E:1<=p)(F:p<=100)(name:ByteArray):0<=(DB f name p).1.w/\(DB f name p).1.w<=400000/\ -200000<=(DB f name p).1.d/\(DB f name p).1.d<=200000:=by
 rw[(Pk B E F name).1];have J:=Zv B E F name;have G:=AWF B name;have M:0<=((f.pick name).scaled p).w:=ew G (by omega);have I:=Ql B name;unfold BG.Small at I;have Q:=lJ (f.pick name).Ey p (by omega) (by omega) E (by omega);simp only[N7,mx];have e:((f.pick name).scaled p).Ey=AU (f.pick name).Ey p:=rfl;rw[e];split<;>omega
theorem oy (n:Nat):∀l:List V,V.BI n l=true↔∀v∈l,v.A8 n=true
 | []=>by simp[V.BI]
 | v::l=>by simp[V.BI,oy n l]
theorem pA (n:Nat)(f:AP)(p:Int)(l:List CR)(k:Nat):V.BI n (Ih f p l k)=true:=by
 rw[oy];intro v B;unfold Ih at B;rcases MJ.1 B with h|h
 obtain⟨r,E,B⟩:=gA.1 h;obtain⟨q,_,rfl⟩:=Da.1 E;obtain⟨c,_,rfl⟩:=Da.1 B;rfl;obtain⟨r,E,B⟩:=gA.1 h;rw[UA E]at B;simp only[BT,Cf,List.not_mem_nil,or_false]at B;rcases B with rfl|rfl|rfl|rfl|rfl|rfl|rfl|rfl|rfl|rfl|rfl<;>rfl
theorem rJ (n:Nat)(f:AP)(l:List CR)(k:Nat):V.BI n (I0 f l k)=true:=by
 rw[oy];intro v B;unfold I0 at B;rcases MJ.1 B with h|h
 obtain⟨r,E,B⟩:=gA.1 h;obtain⟨q,_,rfl⟩:=Da.1 E;simp only[LY]at B;subst B;rfl;obtain⟨r,E,B⟩:=gA.1 h;rw[UA E]at B;simp only[LY]at B;subst B;rfl
def Li (f:AP)(p:Int)(l:List CR):List (List C):=l.map λq=>(DB f q.name p).1.row
def FK (f:AP)(l:List CR):List (List C):=l.map λq=>[.int .i64 (f.pick q.name).Dy]
theorem toCs_mapV : ∀l:List C,toCs (l.map V.c)=some l
 | []=>rfl
 | c::l=>by simp only[Ap,toCs,toC,toCs_mapV l]
theorem WN : ∀l:List (List C),(l.map (Vf V.c)).flatten=l.flatten.map V.c
 | []=>rfl
 | r::l=>by simp only[Ap,Hp,Fm,WN l]
theorem AN0 (f:AP)(p:Int)(l:List CR):toCs (Ih f p l l.length)=some (Li f p l).flatten:=by
 have e:Ih f p l l.length=(Li f p l).flatten.map V.c:=by
  unfold Ih Li;rw[Sn,La,Cy,RC,E5,<-WN,M7];rfl
 rw[e,toCs_mapV]
theorem ASo (f:AP)(l:List CR):toCs (I0 f l l.length)=some (FK f l).flatten:=by
 have e:I0 f l l.length=(FK f l).flatten.map V.c:=by
  unfold I0 FK;rw[Sn,La,Cy,RC,E5,<-WN,M7];rfl
 rw[e,toCs_mapV]
theorem AEU (f:AP)(p:Int)(l:List CR):Hc 11 l.length (Li f p l).flatten=Li f p l:=by
 have:=bZ (es:=11) (Li f p l) (by intro r B;obtain⟨q,_,rfl⟩:=Da.1 B;exact sq _);rwa [show (Li f p l).length=l.length by simp[Li]]at this
theorem AHa (f:AP)(l:List CR):Hc 1 l.length (FK f l).flatten=FK f l:=by
 have:=bZ (es:=1) (FK f l) (by intro r B;obtain⟨q,_,rfl⟩:=Da.1 B;rfl);rwa [show (FK f l).length=l.length by simp[FK]]at this
theorem AFl (row:List C)(f:AP)(p:Int)(l:List CR):V.Cs k row (Ih f p l l.length)=Ih f p l l.length:=by
 have e:Ih f p l l.length=(Li f p l).flatten.map V.c:=by
  unfold Ih Li;rw[Sn,La,Cy,RC,E5,<-WN,M7];rfl
 rw[e,YN]
theorem AFn (row:List C)(f:AP)(l:List CR):V.Cs k row (I0 f l l.length)=I0 f l l.length:=by
 have e:I0 f l l.length=(FK f l).flatten.map V.c:=by
  unfold I0 FK;rw[Sn,La,Cy,RC,E5,<-WN,M7];rfl
 rw[e,YN]
def bot (f:AP)(ov:Int):Int->List CR->Int
 | b,[]=>b
 | b,q::l=>bot f ov (b+((f.pick q.name).Dy - ov)) l
theorem AER (f:AP)(B:Int):∀(l:List CR) (b:Int) (q:CR),bot f B b (l++[q])=bot f B b l+((f.pick q.name).Dy - B)
 | [],b,q=>rfl
 | x::l,b,q=>by simp only[BK,bot];exact AER f B l _ q
theorem AH9 (f:AP)(B p:Int):∀(l:List CR) (b:Int) (q:CR),Gp f B p b (l++[q])=Gp f B p b l++[kt f p (bot f B b l) q]
 | [],b,q=>rfl
 | x::l,b,q=>by simp only[BK,Gp,bot];rw[AH9 f B p l _ q]
theorem AAQ (f:AP)(B p:Int):∀(l:List CR) (b:Int),(Gp f B p b l).length=l.length
 | [],b=>rfl
 | x::l,b=>by simp only[Gp,BA,AAQ f B p l]
theorem AEQ (f:AP)(B:Int)(A:Int):∀(l:List CR) (b:Int),(∀q∈l,0<=(f.pick q.name).Dy - B/\(f.pick q.name).Dy - B<=A)->b<=bot f B b l/\bot f B b l<=b+A*(l.length:Int)
 | [],b,_=>by simp[bot]
 | q::l,b,h=>by
   have F:=h q (by simp);have ih:=AEQ f B A l (b+((f.pick q.name).Dy - B)) λq E=>h q (by simp[E])
   simp only[bot,BA];have:A*((l.length+1:Nat):Int)=A*(l.length:Int)+A:=by rw[Int.natCast_add,Int.mul_add];simp
   omega
theorem AJZ (r:Int):∀l:List CR,JR r l=l.flatMap λq=>Aq (times r q).toNat q
 | []=>rfl
 | q::l=>by simp only[JR,List.flatMap_cons,AJZ r l]
theorem AMB :(whole r l).map (λi=>l[i])=JR r l:=by
 rw[AJZ];unfold whole upto;rw[Gl (by simp),List.map_flatMap];have e:(ACu l.length).map (λi=>l[i])=l:=by
  apply List.ext_getElem;simp;intro i B E;simp
 conv=>rhs;rw[<-e]
 rw[List.flatMap_map];congr 1
 funext i;simp[XJ]
theorem AIY : ∀(l:List AA) (m k:Int),k<=m->(m=k\/∃b∈l,m<=b.w)->IS m l=IS k l
 | [],m,k,h,E=>by
   rcases E with rfl|⟨b,F,_⟩
   rfl;cases F
 | b::l,m,k,h,E=>by
   simp only[IS];refine AIY l _ _ (by unfold mx;split<;>split<;>omega) ?_;by_cases G:m<=b.w;left;unfold mx;split<;>split<;>omega;rcases E with rfl|⟨c,B,I⟩
   exact .inl rfl;rcases Cf.1 B with rfl|B
   omega;right;exact⟨c,B,by unfold mx;split<;>omega⟩
theorem AIA (f:AP)(B p:Int):∀(l:List CR) (b:Int) (q:CR),q∈l->∃k∈Gp f B p b l,k.w=(DB f q.name p).1.w
 | [],b,q,h=>by cases h
 | x::l,b,q,h=>by
   simp only[Gp];rcases Cf.1 h with rfl|h
   exact⟨_,GH,rfl⟩;obtain⟨k,E,e⟩:=AIA f B p l _ q h;exact⟨k,Gk _ E,e⟩
theorem AIa {r:Int}(B:1<=r):∀ {l:List CR} {q:CR},q∈l->q∈JR r l
 | x::l,q,h=>by
   simp only[JR,MJ];rcases Cf.1 h with rfl|h
   left;rw[List.mem_replicate];refine⟨?_,rfl⟩;unfold times;split<;>omega;exact .inr (AIa B h)
theorem AN4 {f:AP}{p:Int}{l:List CR}(h:i<l.length):∀B,(Li f p l)[i]'B=(DB f l[i].name p).1.row:=by simp[Li]
theorem AS0 {f:AP}{l:List CR}(h:i<l.length):∀B,(FK f l)[i]'B=[.int .i64 (f.pick l[i].name).Dy]:=by simp[FK]
@[simp] theorem AbT (f:AP)(p:Int)(l:List CR):(Li f p l).length=l.length:=by simp[Li]
@[simp] theorem AcI (f:AP)(l:List CR):(FK f l).length=l.length:=by simp[FK]
theorem Q0 : ∀t:List V,DG t (Aq t.length .any)
 | []=>rfl
 | v::t=>⟨.inl rfl,Q0 t⟩
theorem P5 (n:Nat):∀k:Nat,V.BI n (Aq k .any)=true
 | 0=>rfl
 | k+1=>by simp only[BY,V.BI,V.A8,Cd,P5 n k]
theorem Le.hide {m:Mo}{t:List V}{h B:List O}(n:Nat)(E:m.n0<=n)(hh:h.take n=B)(ho:(B.all (O.A8 n))=true):Le m ⟨t,h⟩ ⟨Aq t.length .any,B⟩:=Le.MI n E (Q0 t) hh (P5 n _) ho
def tj:List C:=[.int .i64 0,.str ⟨#[]⟩,.int .i64 0,.int .i64 0,.int .i64 0,.int .i64 0,.int .i64 0,.int .i64 0,.sl [],.int .i64 0,.sl []]
theorem pT (k es n:Nat)(row:List C)(l:List C):(l.map V.c).map (V.Db k es n row)=l.map V.c:=by
 rw[M7];rfl
theorem lh (k es n:Nat)(row:List C)(f:AP):f.vs.map (V.Db k es n row)=f.vs:=pT k es n row f.row
theorem AN1 (k es n:Nat)(row:List C)(f:AP)(p:Int)(l:List CR):(Ih f p l l.length).map (V.Db k es n row)=Ih f p l l.length:=by
 have e:Ih f p l l.length=(Li f p l).flatten.map V.c:=by
  unfold Ih Li;rw[Sn,La,Cy,RC,E5,<-WN,M7];rfl
 rw[e,pT]
theorem ASp (k es n:Nat)(row:List C)(f:AP)(l:List CR):(I0 f l l.length).map (V.Db k es n row)=I0 f l l.length:=by
 have e:I0 f l l.length=(FK f l).flatten.map V.c:=by
  unfold I0 FK;rw[Sn,La,Cy,RC,E5,<-WN,M7];rfl
 rw[e,pT]
theorem tU:n7:=by
 intro f s r p hf R hs HP G9 G8 HN hp;obtain⟨_,_,g3,g4,g5,g6⟩:=QG R hs;have D1:0<s.parts.length:=Kr.2 hp;obtain⟨B2,B3⟩:=AB3 R hs HP G9;have yS:=ACT f s r hf R hs HP G9;obtain⟨T,hT⟩:=AI (LO f s r);rw[hT]at yS B2 B3;have Ew:128*(s.parts.length:Int)<=281474976710656:=by omega
 have FP:8*(s.parts.length:Int)<=281474976710656:=by omega
 have GO:(s.parts.length:Int)<=9223372036854775807:=by omega
 unfold IU at yS ⊢;refine AC.intro func361 rfl ?_;simp only[ntmps361,Ap,BB,BA,BO,Nat.reduceAdd,Nat.reduceSub,BY,Cy,BK,BU,Bc.row];refine go (cj3 @Ek.eq_1 @Ew @FP @GO) ?_;refine gc (cj @Bc.row.eq_1<|@Ek.eq_1) (yS) func369 ?_;refine BZ (EI T p) JA ?_;refine go @Ek.eq_1 ?_;have e4:(Aq s.parts.length BT).flatten=Ih f p s.parts 0:=by simp[Ih]
 have e6:Aq s.parts.length (V.c (.int .i64 0))=I0 f s.parts 0:=by simp[I0]
 simp only[BT]at e4;rw[e4,e6];refine lp (ι:={ q:Nat×Int // q.1<=s.parts.length/\0<=q.2/\q.2<=400000/\(q.1≠0->∃pt∈s.parts,q.2=(DB f pt.name p).1.w) }) (λq=>[(38,.c (.int .i64 (q.1.1:Int)))]) (λq=>[O.box 27 f.vs false,O.box 117 [.c (.str s.name),.c (Gv s.sizes),.c (.sl (s.parts.map CR.row)),.c (.int .i64 s.overlap)] false,O.box 3 [.c (.int .i64 p)] false,O.box 41 BT false,O.box 41 (Ih f p s.parts q.1.1) false,O.box 38 [.own 4 0 s.parts.length 11] false,O.box 3 (I0 f s.parts q.1.1) false,O.box 39 [.own 6 0 s.parts.length 1] false,O.box 41 (Nf q.1.2 (AU T p) (.Bg [])) false]) (λq=>s.parts.length - q.1.1) ⟨(0,0),CI _,by simp,by simp,by simp⟩ ?_ ?_;all_goals simp only[puts,Bw,CO,Ag,Ai]
 exact ER (cj @Nf.eq_1<|@BT.eq_1)
 . rintro ⟨⟨k,wl⟩,hk,w1,w2,w3⟩;simp only at hk w1 w2 w3 ⊢;by_cases F:k<s.parts.length
   . obtain⟨q,M⟩:=AI (s.parts[k]);have U5:q∈s.parts:=M ▸ Kq F;have hw:AZ.wrap ((k:Int)+1)=((k+1:Nat):Int):=by rw[Ac];simp
     have hc:=pn f q.name p hf.gl;have Yy:=AN3 f p s.parts k F;have dE:=ASr f s.parts k F;have qe:k*11+11<=(Ih f p s.parts k).length:=by rw[AN2 _ _ _ _ hk];omega
     have Yn:k+1<=(I0 f s.parts k).length:=by rw[ASq _ _ _ hk];omega
     rw[M]at Yy dE;have Y7:=ACX R G8 HN q.name;have PI:QC f q.name p=((DB f q.name p).1,0):=by
      unfold QC;rw[if_pos R,(Pk R G8 HN q.name).1]
     rw[PI]at hc;obtain⟨B,hB⟩:=AI ((DB f q.name p).1);have A0 : ∃pt∈s.parts,B.w=(DB f pt.name p).1.w:=⟨q,U5,by rw[hB]⟩
     rw[hB]at hc Yy Y7;obtain⟨bk,bn,bs,Q,bh,I,bx,Bq,U,bo,z⟩:=B;simp only[Ba,AR,Ao,AA.row,Ap,BB]at hc Yy Y7 A0;have J:=Ql R q.name;unfold BG.Small at J;have QS:=dy f q.name hf.gl;obtain⟨g,hg⟩:=AI (f.pick q.name);rw[hg]at J QS dE;have e3:AZ.wrap (g.h+g.d)=g.Dy:=Ac;refine go (cj2 @F @M @CR.row.eq_1) ?_;refine BZ (hc) func302 ?_;refine Ah ?_;refine gc (cj @Hg.eq_1<|@BG.row.eq_1) (QS) func342 ?_;(with_reducible first|refine oX (po g) nK (by kernel_rfl) (by kernel_rfl) ?_ ?_ ?_|refine Xz (po g) nK (by kernel_rfl) (by kernel_rfl) ?_ ?_ ?_)
     focus (simp[BQ,Hg,BG.row,e3,Yy,dE,qe,Yn,F];done)
     focus (simp[Ee,Hg,BG.row,e3,Yy,dE,qe,Yn,F];done)
     first|(with_reducible refine If (by simp[BY,-E8,Hg,BG.row,e3,Yy,dE,qe,Yn,F];first|exact rfl|exact⟨rfl,rfl⟩) ?_)|(with_reducible refine Es (by simp[BY,-E8,Hg,BG.row,e3,Yy,dE,qe,Yn,F];first|exact rfl|exact⟨rfl,rfl,rfl⟩) ?_)
     refine go (cj @Nf.eq_1<|@hw) ?_;refine⟨⟨(k+1,Q),by simp only;omega,by simp only;omega,by simp only;omega,λ_=>A0⟩,by simp only;omega,?_⟩;refine Le.MI 9 (F2 rfl) (by simp[DG,Nf,BT,pA,rJ]) (by simp[Nf,BT,pA,rJ]) (by simp[V.BI,V.A8]) (by simp[O.A8,V.BI,V.A8,Nf,BT,pA,rJ])
   . obtain rfl:k=s.parts.length:=by omega
     have w3:=w3 (by omega);refine Ah ?_;refine gc (cj2 @IU.eq_1 @Bc.row.eq_1 @Ek.eq_1) (AWH s r) func374 ?_;refine Ah ?_;refine AW.Bi 4 rfl (AN0 f p s.parts) (by simp[V.Cs,V.Bi,AEU];exact rfl) (by simp[O.Bi,V.Cs,V.Bi,AEU,AFl,AFn,Nf,BT];exact rfl) ?_;refine AW.Bi 6 rfl (ASo f s.parts) (by simp[V.Cs,V.Bi,AHa];exact rfl) (by simp[O.Bi,V.Cs,V.Bi,AHa,AFl,AFn,Nf,BT];exact rfl) ?_;refine AW.le (Le.T4 8 8 41 11 rfl rfl) ?_;simp only[BA,BO,Nat.reduceAdd,Ag,Ai,BK,BU];have mU:(whole r s.parts).length<=8000:=by
      have h1:=sH HP G9 s.parts;rw[<-AMB,Ch]at h1;omega
     refine AW.range (α:=Fin s.parts.length) rfl rfl rfl (caps:=[.cp s.row 0,.cp [.int .i64 r] 0]) rfl rfl func376 (by kernel_rfl) (by kernel_rfl) (xU s.parts) (λy=>.c (.int .i64 ((y.val:Nat):Int))) ?_ (λxs=>xs=whole r s.parts) (whole r s.parts).length (AWG s r g3 HP G9)
      (λpre=>[O.box 27 f.vs false,O.box 117 [.c (.str s.name),.c (Gv s.sizes),.c (.sl (s.parts.map CR.row)),.c (.int .i64 s.overlap)] false,O.box 3 [.c (.int .i64 p)] false,O.box 41 BT false,O.box 41 (Ih f p s.parts s.parts.length) true,O.box 38 [.c (.sl (Li f p s.parts))] false,O.box 3 (I0 f s.parts s.parts.length) true,O.box 39 [.c (.sl (FK f s.parts))] false,O.box 41 (Nf (IS wl (Gp f s.overlap p 0 (pre.map λi=>s.parts[i]))) (AU T p) (.gr 10 11 (AA.AG (Gp f s.overlap p 0 (pre.map λi=>s.parts[i]))))) false,O.box 3 [.c (.int .i64 (bot f s.overlap 0 (pre.map λi=>s.parts[i])))] false,O.tok 41 11 (Gp f s.overlap p 0 (pre.map λi=>s.parts[i])).length]) ?_ 11 (λ_=>rfl) (by simp) ?_ ?_
     intro x' W y;simp only[CV,Ab,xU];exact⟨trivial,Q8 (by have:=y.isLt;unfold maxLen;omega)⟩;simp[Gp,IS,AA.AG,bot,Nf,BT]
     . rintro lp pre ⟨i,hi⟩ hN;simp only[Fm,Ap,BB,AH9,AER,Ag,Ai];obtain⟨L,hL⟩:=AI ((pre.map λi=>s.parts[i]));have Io:L.length<8000:=by rw[<-hL,Ch];omega
       have A2 : ∀q∈L,q∈s.parts:=by
        intro q M;rw[<-hL]at M;obtain⟨j,_,rfl⟩:=Da.1 M;exact Kq j.isLt
       have A3:=AEQ f s.overlap 40000 L 0 (λq M=>by
        have h1:=g6 q (A2 q M);have J:=Ql R q.name;unfold BG.Small at J;unfold BG.Dy at h1 ⊢;omega)
       rw[hL];obtain⟨b,hb⟩:=AI (bot f s.overlap 0 L);have Ce:(Gp f s.overlap p 0 L).length=L.length:=AAQ _ _ _ _ _;obtain⟨E,QO⟩:=AI (Gp f s.overlap p 0 L);rw[hb]at A3;rw[QO]at Ce;simp only[hb,QO];obtain⟨q,M⟩:=AI (s.parts[i]);have U5:q∈s.parts:=M ▸ Kq hi;have A5:=g6 q U5;have Ct:=AN4 (f:=f) (p:=p) hi;have jq:=AS0 (f:=f) hi;have Y7:=ACX R G8 HN q.name;rw[M]at Ct jq;have HM:s.parts[(⟨i,hi⟩:Fin s.parts.length)]=q:=M;simp only[HM];have yK:kt f p b q={ (DB f q.name p).1 with y:=AU b p+(DB f q.name p).1.d }:=rfl;generalize hB:(DB f q.name p).1=B at Ct Y7 yK;obtain⟨bk,bn,bs,Q,bh,I,bx,Bq,U,bo,z⟩:=B;simp only[AA.row]at Ct Y7 yK;have J:=Ql R q.name;unfold BG.Small at J;obtain⟨g,hg⟩:=AI (f.pick q.name);rw[hg]at J A5 jq;simp only[yK,hg];have D0:g.Dy=g.h+g.d:=rfl;have B7:AZ.wrap (g.Dy - s.overlap)=g.Dy - s.overlap:=Ac;have wb:AZ.wrap (b+(g.Dy - s.overlap))=b+(g.Dy - s.overlap):=Ac;have Y2:=AKe (n:=b) (p:=p) (by omega) (by omega) (by omega) (by omega);have B1:AZ.wrap (AU b p+I)=AU b p+I:=Ac;have FO:E.length+1<=maxLen:=by unfold maxLen;omega
       have EX:(E.length+1)*128<=140737488355328:=by omega
       have Bn:AA.AG (E++[⟨bk,bn,bs,Q,bh,I,bx,AU b p+I,U,bo,z⟩])=AA.AG E++[[.int .i64 bk,.str bn,.int .i64 bs,.int .i64 Q,.int .i64 bh,.int .i64 I,.int .i64 bx,.int .i64 (AU b p+I),.sl (AA.AG U),.int .i64 bo,AV z]]:=by rw[lG];rfl
       have A6:IS wl (E++[⟨bk,bn,bs,Q,bh,I,bx,AU b p+I,U,bo,z⟩])=if IS wl E<Q then Q else IS wl E:=by rw[AIZ];rfl
       refine go (cj2 @hi @Ct @Nf.eq_1) ?_;refine gc @B1 (EI b p) JA ?_;refine go @Nf.eq_1 ?_;have A1:(AA.AG E).length+1<=maxLen:=by rw[GA];exact FO
       have U3:((AA.AG E).length+1)*128<=140737488355328:=by rw[GA];exact EX
       refine AW.Lm Fz (.inr (by decide)) ?_;refine TW.take 5 (Es (by simp[BY];exact⟨rfl,rfl⟩) (HI ?_));simp only[List.drop_succ_cons,B9];refine TW.op ⟨.Be 10 11 (AA.AG E),some (10,.Be 41 11 ((AA.AG E).length+1) (tj.map V.c)),some 10⟩ rfl (by intro k ob h;cases h;simp) ?_ ?_;intro S0 w0 x a w H g G A9;have hY:CV x w (.gr 10 11 (AA.AG E)) (a.eval (.tmp 93)):=G (.tmp 93) (by simp[Bl,Df]);have S:CV x w (.Bg [tj]) (a.eval (.tmp 96)):=G (.tmp 96) (by simp[Bl,Df]);simp only[CV]at S;obtain⟨_,_,S⟩:=S;exact dk g rfl lX hY S (by omega) rfl A1 U3 (by rw[A9 10 rfl,GA];rfl);simp only[St.step,St.put,Bk,BA,BO,Nat.reduceAdd,Nat.reduceLT,if_true,Ag,Ai,BU,BK];refine TW.op ⟨.hp 10 ((AA.AG E).length+1) ((AA.AG E).length*11),none,some 10⟩ rfl (by intro k ob h;cases h) ?_ ?_;intro S0 w0 x a w H g G A9;have hY:CV x w (.Be 10 11 (AA.AG E)) (a.eval (.tmp 97)):=G (.tmp 97) (by simp[Bl]);have S:CV x w (.c (.int .i64 (E.length:Int))) (a.eval (.tmp 95)):=G (.tmp 95) (by simp[Bl]);exact r7 g rfl hY (by rw[GA];exact S) lX (A9 10 rfl);simp only[St.step,St.put,Bk,BA,BO,Nat.reduceAdd,Nat.reduceLT,if_true,Ag,Ai,BU,BK];refine TW.op ⟨.any,some (10,.Be 41 11 ((AA.AG E).length+1) [.c (.int .i64 bk),.c (.str bn),.c (.int .i64 bs),.c (.int .i64 Q),.c (.int .i64 bh),.c (.int .i64 I),.c (.int .i64 bx),.c (.int .i64 (AU b p+I)),.c (.sl (AA.AG U)),.c (.int .i64 bo),.c (AV z)]),some 10⟩ rfl (by intro k ob h;cases h;simp) ?_ ?_;intro S0 w0 x a w H g G A9;have hY:CV x w (.hp 10 ((AA.AG E).length+1) ((AA.AG E).length*11)) (a.eval (.tmp 98)):=G (.tmp 98) (by simp[Bl]);have S:=G (.tmp 94) (by simp[Bl]);exact AI5 g (q:=(true,11)) rfl tO hY S (A9 10 rfl) rfl rfl rfl rfl;simp only[St.step,St.put,Bk,BA,BO,Nat.reduceAdd,Nat.reduceLT,if_true,Ag,Ai,BU,BK];refine TW.take 2 (Es (by simp[BY];exact⟨rfl,rfl⟩) (HI (TW.nil ⟨by kernel_rfl,?_⟩)));refine G3 ?_;refine AW.le (Le.Db 10 (ty:=41) (es:=11) (n:=E.length) (cs:=Vf V.c [.int .i64 bk,.str bn,.int .i64 bs,.int .i64 Q,.int .i64 bh,.int .i64 I,.int .i64 bx,.int .i64 (AU b p+I),.sl (AA.AG U),.int .i64 bo,AV z]) (row:=[.int .i64 bk,.str bn,.int .i64 bs,.int .i64 Q,.int .i64 bh,.int .i64 I,.int .i64 bx,.int .i64 (AU b p+I),.sl (AA.AG U),.int .i64 bo,AV z]) rfl (toCs_mapV _) ?_) ?_
       . intro j ty es B8 cs h;iterate 10 (rcases j with _|j;· simp at h)
         rcases j with _|j
         rfl;rcases j with _|j
         simp at h;simp at h
       simp only[Ap,BB,V.Db,O.Db,GA,and_self,if_true,AN1,ASp,lh,BT];refine go (cj3 @hi @jq @B7 @wb) ?_;refine⟨rfl,_,Le.hide 11 (F2 rfl) ?_ ?_⟩;simp[Bn,A6,Nf,BT];simp[O.A8,V.BI,V.A8,Nf,BT,pA,rJ]
     rintro xs rfl;rw[AMB];obtain⟨E,QO⟩:=AI (Gp f s.overlap p 0 (JR r s.parts));have B0:IS wl E=IS 0 E:=by
      obtain⟨pt,kE,e⟩:=w3;obtain⟨b,hb,e2⟩:=AIA f s.overlap p (JR r s.parts) 0 pt (AIa HP kE);rw[QO]at hb;exact AIY E wl 0 w1 (.inr ⟨b,hb,by omega⟩)
     have hR:Ba (V4 f s r p,0)=.A7 [.agg [.c (.int .i64 3),.c (.str ⟨#[]⟩),.c (.int .i64 0),.c (.int .i64 (IS 0 E)),.c (.int .i64 (AU T p)),.c (.int .i64 0),.c (.int .i64 0),.c (.int .i64 0),.c (.sl (AA.AG E)),.c (.int .i64 0),.c (.sl [])],.c (.int .i64 0)]:=by
      unfold Ba Ao V4;rw[QO,hT];rfl
     rw[hR];simp only[QO,B0];refine go (cj @Nf.eq_1<|@BT.eq_1) ?_;exact At results361
theorem AKd {n p:Int}(F : -1000000000<=n)(G:n<=1000000000)(B:0<=p)(E:p<=100): -1000000001<=AU n p/\AU n p<=1000000001:=by
 rw[<-ABa (by omega) (by omega) B (by omega)];have m:=Qh n p 1000000000 100 (by omega) (by omega) B E;unfold Ea;split<;>omega
theorem AFp {f:AP}{p B:Int} : ∀ {l:List ByteArray} {n:ByteArray},TG f p B l=some n->∃j:Nat,l[j]?=some n/\B<=XV f n p/\∀(i:Nat) (m:ByteArray),i<j->l[i]?=some m->XV f m p<B
 | [],n,h=>by simp[TG]at h
 | x::r,n,h=>by
   simp only[TG]at h;split at h;simp only[BL]at h;subst h;exact⟨0,rfl,by assumption,λi m J=>by omega⟩;rename_i M;obtain⟨j,F,G,I⟩:=AFp h;refine⟨j+1,by simpa using F,G,λi m J E=>?_⟩;match i,E with
   | 0,E=>simp at E;subst E;omega
   | i+1,E=>exact I i m (by omega) (by simpa using E)
theorem ALG (f:AP)(s:Bc)(p B:Int):∀k:Nat,1000 - (k:Int)<=LM f s p B k/\LM f s p B k<=1000/\(∀r:Int,1000 - (k:Int)<=r->r<LM f s p B k->AU (LO f s r) p<B)/\(LM f s p B k<1000->B<=AU (LO f s (LM f s p B k)) p)
 | 0=>by simp[LM];intro r I F;omega
 | k+1=>by
   obtain⟨I,F,J,M⟩:=ALG f s p B k;simp only[LM];split;rename_i h;refine⟨by push_cast;omega,by omega,λr E G=>by push_cast at E;omega,λ_=>h⟩;rename_i h;refine⟨by push_cast;omega,F,λr E G=>?_,M⟩;by_cases e:r=1000 - ((k:Int)+1)
   subst e;omega;exact J r (by push_cast at E;omega) G
theorem yk {x:ByteArray} : ∀ {l:List ByteArray},x∈l->KX x l=true
 | y::r,h=>by
   simp only[KX];split;rfl;rename_i B;rcases Cf.1 h with rfl|h
   exact absurd rfl B;exact yk h
theorem AUW {l:List α}{x:α}(h:l[i]?=some x):x∈l:=Cj h
theorem AEm {f:AP}(U:f.valid=true)(name:ByteArray)(B p:Int):KH f name (J2 f name B p)=true:=by
 cases E:f.I8 name with
 | none =>
   have e:J2 f name B p=⟨name,0⟩:=by unfold J2;rw[E]
   rw[e];unfold KH;rw[E];simp
 | some s =>
   obtain⟨W,_⟩:=QG U (Se E).1;cases G:TG f p B s.sizes with
   | some n =>
     have e:J2 f name B p=⟨n,0⟩:=by unfold J2;rw[E];simp only[WA];rw[G]
     obtain⟨j,J,_⟩:=AFp G;rw[e];unfold KH;rw[E];simp only[if_true];exact yk (AUW J)
   | none =>
     by_cases I:s.parts=[]
     have F:s.sizes.length - 1<s.sizes.length:=by omega
     have e:J2 f name B p=⟨s.sizes[s.sizes.length - 1],0⟩:=by
      unfold J2;rw[E];simp only[WA];rw[G];simp only[I,if_true];rw[Bv,BE F];rfl
     rw[e];unfold KH;rw[E];simp only[if_true];exact yk (Kq F);have e:J2 f name B p=⟨⟨#[]⟩,LM f s p B 999⟩:=by unfold J2;rw[E];simp only[WA];rw[G];simp only[I,if_false]
     obtain⟨J,R,_⟩:=ALG f s p B 999;have S:0<s.parts.length:=Kr.2 I;have M:1<=LM f s p B 999:=by omega
     have Q : ¬LM f s p B 999=0:=by omega
     rw[e];unfold KH;rw[E];simp[Q,S,M,R]
theorem DM {p:Int}(n:Int)(E:0<=p)(F:p<=100): -1073741824<=AU n p/\AU n p<=1073741824:=by
 unfold AU;split;rename_i h;obtain⟨B,_,_⟩:=h;simp[An]at B;have:=Qh n p 1073741824 100 (by omega) (by omega) (by omega) (by omega);exact AKS _ _ (by omega) (by omega);omega
theorem J6 (n:Int): -1073741824<=Bm n/\Bm n<=1073741824:=by
 unfold Bm;split;rename_i B;simp[An]at B;unfold Ea;split<;>omega;omega
theorem YJ {name:ByteArray}{g:BG} : ∀ {l:List BG},KU name l=some g->g∈l/\g.name=name
 | [],h=>by simp[KU]at h
 | x::r,h=>by
   simp only[KU]at h;split at h;cases h;exact⟨GH,by assumption⟩;have:=YJ h;exact⟨Gk _ this.1,this.2⟩
theorem AWE {f:AP}(G:f.valid=true)(name:ByteArray)(F:name.size<=16):0<=(f.pick name).w/\(f.pick name).name.size<=16:=by
 have E : ∀g∈f.DR,0<=g.w/\g.name.size<=16:=by
  intro g B;have:=Z8 G g B;simp[Lo,DX,Ck]at this;omega
 unfold AP.pick;split;rename_i g B;exact E g (YJ B).1;split;rename_i g B;exact E g (YJ B).1;simp[BG.zero,F]
structure oH (b:AA):Prop where
 Fq:b.Fq
 BX:b.BX
 fit:b.fit
 cnt:b.cnt<=8001
 h1 : -1000000001<=b.h
 h2:b.h<=1000000001
 d1 : -1000000001<=b.d
 d2:b.d<=1000000001
 w1:0<=b.w
 w2:b.w<=400000
theorem lQ {f:AP}(B:f.valid=true){p:Int}(E:1<=p)(F:p<=100){name:ByteArray}(M:name.size<=16):oH (DB f name p).1/\(DB f name p).1.AE=[]/\(DB f name p).1.cnt=1:=by
 obtain⟨e,_⟩:=Pk B E F name;have J:=Zv B E F name;obtain⟨R,S⟩:=AWE B name M;rw[e];have Q:0<=((f.pick name).scaled p).w:=ew R (by omega);have I:((f.pick name).scaled p).name.size<=16:=S;generalize U:(f.pick name).scaled p=G at J Q I ⊢;have W:0<=mx 0 G.Ey/\mx 0 G.Ey<=200000:=by rw[DU];omega
 refine⟨⟨?_,?_,?_,?_,?_,?_,?_,?_,?_,?_⟩,rfl,?_⟩;simp[N7,AA.Fq,AA.JH];simp[N7,AA.BX,AA.FY,maxLen];omega;simp[N7,AA.fit,AA.fits,maxLen];simp[N7,AA.cnt,AA.Az];all_goals simp only[N7,AA.cnt,AA.Az]
 all_goals omega
theorem AA9 {f:AP}(R:f.valid=true){p:Int}(F:1<=p)(G:p<=100)(E:Int):∀(l:List CR) (b:Int),(∀q∈l,q.name.size<=16)->AA.JH (Gp f E p b l)/\AA.FY (Gp f E p b l)/\AA.fits (Gp f E p b l)/\AA.Az (Gp f E p b l)=l.length/\∀m,0<=m->m<=400000->0<=IS m (Gp f E p b l)/\IS m (Gp f E p b l)<=400000
 | [],b,_=>by
   simp only[Gp,AA.JH,AA.FY,AA.fits,AA.Az,IS,BO,true_and];exact λm F G=>⟨F,G⟩
 | q::l,b,Q=>by
   obtain⟨i1,i2,i3,i4,i5⟩:=AA9 R F G E l (b+((f.pick q.name).Dy - E)) λx hx=>Q x (Gk _ hx)
   obtain⟨M,z,I⟩:=lQ R F G (Q q GH);simp only[Gp,kt,AA.JH,AA.FY,AA.fits,AA.Az,IS];generalize hB:(DB f q.name p).1=B at M z I ⊢;obtain⟨S,U,W,o4,_,_,_,_,o9,J⟩:=M;obtain⟨bk,bn,bs,bw,bh,bd,bx,Bq,EU,bo,Et⟩:=B;simp only[AA.Fq,AA.BX,AA.fit,AA.cnt]at S U W I o9 J ⊢;refine⟨⟨S,i1⟩,⟨U,i2⟩,⟨W,i3⟩,by rw[I,i4,BA];omega,λm m1 m2=>i5 _ ?_ ?_⟩;all_goals (rw[DU];omega)
theorem AA0 (E:ByteArray->Option Int):∀(l:List CR) (a:Int) (e:Bool) (r:Int×Bool),OW E a e l=some r->∀q∈l,∃h,E q.name=some h
 | [],a,e,r,_,q,B=>by cases B
 | x::l,a,e,r,h,q,B=>by
   simp only[OW]at h;cases F:E x.name with
   | none=>rw[F]at h;cases h
   | some y =>
     rw[F]at h;rcases Cf.1 B with rfl|B
     exact⟨y,F⟩;exact AA0 E l _ _ r h q B
theorem AHX {f:AP}(E:f.valid=true){name:ByteArray}{h:Int}(e:f.ht name=some h):name.size<=16:=by
 simp only[AP.ht,Option.map_eq_some_iff]at e;obtain⟨g,B,_⟩:=e;obtain⟨m,rfl⟩:=YJ B;have:=Z8 E g m;simp[Lo,Ck]at this;omega
theorem AV1 {f:AP}(G:f.valid=true){s:Bc}(hs:s∈f.C5):∀q∈s.parts,q.name.size<=16:=by
 intro q E;have h:=Z9 G s hs;simp only[Oh,Ak]at h;obtain⟨_,_,B⟩:=h;rw[if_neg (by intro e;rw[e]at E;cases E)]at B;unfold du at B;cases F:OW f.ht 60000 false s.parts with
 | none=>rw[F]at B;cases B
 | some x=>obtain⟨y,I⟩:=AA0 _ _ _ _ _ F q E;exact AHX G I
theorem AKy {f:AP}(F:f.valid=true):∀(l:List ByteArray) (a:Int),Sc f.ht a l=true->∀n∈l,n.size<=16
 | [],a,_,n,B=>by cases B
 | x::l,a,h,n,B=>by
   simp only[Sc]at h;cases E:f.ht x with
   | none=>rw[E]at h;cases h
   | some y =>
     rw[E]at h;simp only[Ak]at h;rcases Cf.1 B with rfl|B
     exact AHX F E;exact AKy F l _ h.2 n B
theorem yj {x:ByteArray} : ∀ {l:List ByteArray},KX x l=true->x∈l
 | [],h=>by simp[KX]at h
 | y::l,h=>by
   simp only[KX]at h;split at h;rename_i e;subst e;exact GH;exact Gk _ (yj h)
theorem sG {r:Int} : ∀ {l:List CR} {q:CR},q∈JR r l->q∈l
 | [],q,h=>by simp[JR]at h
 | x::l,q,h=>by
   simp only[JR,MJ]at h;rcases h with h|h
   rw[UA h];exact GH;exact Gk _ (sG h)
theorem find_ok {f:AP}(G:f.valid=true){p:Int}(Q:1<=p)(M:p<=100){name:ByteArray}(hn:name.size<=16)(B:Int):(Hv f name B p).2=0/\oH (Hv f name B p).1:=by
 have S:JF f p=0:=by unfold JF;rw[if_neg (by simp[G]),if_neg (by omega)]
 have F:=AEm G name B p;obtain⟨c,R⟩:=AI (J2 f name B p);unfold Hv;rw[if_neg (by simp[S]),R];rw[R]at F;unfold K5;rw[if_neg (by simp[S]),if_neg (by simp[F])];by_cases I:c.Jo=0;rw[if_pos I];refine⟨by first|rfl|(rw[(Pk G Q M c.Ln).1]),(lQ G Q M ?_).1⟩;unfold KH at F;cases E:f.I8 name with
 | none=>rw[E]at F;simp[I]at F;rw[F];exact hn
 | some s=>rw[E]at F;simp[I]at F;have J:=(Se E).1;have h:=Z9 G s J;simp only[Oh,Ak]at h;exact AKy G _ _ h.2.1 _ (yj F)
 . rw[if_neg I];obtain⟨s,E,HO,U,W,_⟩:=AAI (cg:=c.Ln) (cr:=c.Jo) I F;have J:=(Se E).1;obtain⟨_,_,g3,_⟩:=QG G J;have hl:=sH U W s.parts;have z : ∀q∈JR c.Jo s.parts,q.name.size<=16:=λq hq=>AV1 G J q (sG hq)
   obtain⟨i1,i2,i3,i4,i5⟩:=AA9 G Q M s.overlap (JR c.Jo s.parts) 0 z;have hw:=i5 0 (by omega) (by omega);obtain⟨t1,t2⟩:=AB3 G J U W;have hh:=AKd (n:=LO f s c.Jo) (p:=p) t1 t2 (by omega) M;refine⟨rfl,?_⟩;rw[E];simp only[Option.getD_some,V4];refine⟨?_,?_,?_,?_,?_,?_,?_,?_,?_,?_⟩;simp only[AA.Fq];exact⟨by simp,i1⟩;simp only[AA.BX];exact⟨(CI _:0<=maxLen),(CI _:0<=maxLen),i2⟩;simp only[AA.fit];exact⟨by rw[AAQ];unfold maxLen;omega,(CI _:0<=maxLen),i3⟩;simp only[AA.cnt];omega;all_goals simp only
   all_goals omega
theorem HE {f:AP}{s:Aa}(B:f.valid=true)(ho:s.ok=true):1<=BS f.params s/\BS f.params s<=100:=by
 have E:Qk f.params=true:=by simp only[AP.valid,Ak]at B;exact B.1.2.2
 simp[Qk,DX,Params.SK]at E;unfold BS;rw[if_neg (by simp[ho])];split;omega;split<;>omega
def Nj:ByteArray:=⟨#[114,111,111,116]⟩
def F1 (f:AP)(s:Aa):Int:=BS f.params s
def Hl (f:AP)(s:Aa):Int:=AU f.params.rule (F1 f s)
def LJ (f:AP)(s:Aa):Int:=if s.By=0 then Hl f s+AU (AU f.params.Gj (F1 f s)) 25 else Hl f s+AU (Hl f s) 25
def Jm (f:AP)(s:Aa)(b:AA):Int:=b.h+b.d+LJ f s+Hl f s
def EZ (f:AP)(s:Aa)(b:AA):AA:=(Hv f Nj (Jm f s b) (F1 f s)).1
def Tw (f:AP)(s:Aa)(b:AA):Int:=if Jm f s b<(EZ f s b).h+(EZ f s b).d then LJ f s+Bm ((EZ f s b).h+(EZ f s b).d - Jm f s b)else LJ f s
def Tx (f:AP)(s:Aa)(b:AA):Int:=b.h+Tw f s b
def M0 (f:AP)(s:Aa)(b:AA):Int:=Tx f s b+Hl f s
def Qo (f:AP)(s:Aa)(b:AA):Int:=M0 f s b - (EZ f s b).h - (EZ f s b).d
def x8 (f:AP)(s:Aa):Int:=AU f.params.Al (F1 f s)
def VO (f:AP)(s:Aa)(g:AA):Int:=mx 0 (AU (x8 f s) 28+g.w - AU (x8 f s) 56)
def XP (f:AP)(s:Aa)(b g:AA):Int:=Qo f s b+AU (M0 f s b - Qo f s b) 60+mx 0 g.d
def eO (f:AP)(s:Aa):List AA->Int
 | []=>0
 | g::_=>VO f s g
def rdH (f:AP)(s:Aa)(b:AA):List AA->Int
 | []=>mx (M0 f s b) b.h
 | g::_=>mx (mx (M0 f s b) b.h) (XP f s b g+g.h)
def rdD (f:AP)(s:Aa)(b:AA):List AA->Int
 | []=>mx (-(Qo f s b)) b.d
 | g::_=>mx (mx (-(Qo f s b)) b.d) (g.d - XP f s b g)
def rdK (f:AP)(s:Aa)(b:AA):List AA->List AA
 | []=>[]
 | g::_=>[g.AS (VO f s g+AU (x8 f s) 56 - g.w) (XP f s b g)]
def Qp (f:AP)(s:Aa)(b:AA)(IG:List AA):AA:=
 Bf (eO f s IG+(EZ f s b).w+mx 0 b.w) (rdH f s b IG) (rdD f s b IG)
  (rdK f s b IG++[(EZ f s b).AS (eO f s IG) (M0 f s b - (EZ f s b).h),(FV (mx 0 b.w) (Hl f s) 0).AS (eO f s IG+(EZ f s b).w) (Tx f s b),b.AS (eO f s IG+(EZ f s b).w) 0])
def VP (f:AP)(s:Aa)(b:AA)(IG:List AA):AA×Int:=
 if f.valid=false\/s.ok=false\/b.Ad=false\/IG.all AA.Ad=false\/1<IG.length then(AA.zero,1)else C8 (Qp f s b IG)
theorem D3 {b:AA}(h:b.Ad=true):(-1073741824<=b.w/\b.w<=1073741824)/\(-1073741824<=b.h/\b.h<=1073741824)/\(-1073741824<=b.d/\b.d<=1073741824)/\b.cnt<=20000:=by
 simp only[AA.Ad,Ak,decide_eq_true_eq]at h;obtain⟨B,q,z⟩:=h;obtain⟨M,Q,S,U,J,I,W,E,F,R,G⟩:=b;simp only[AA.D8,AA.Cl,AA.lens,Ak,Ep]at B;simp[An]at B;simp only;omega
mutual
theorem ABD : ∀b:AA,b.D8=true->b.Fq
 | ⟨M,Q,S,U,J,I,W,F,E,R,G⟩,h=>by
   simp only[AA.D8,AA.Cl,Ak,AA.Js]at h;simp only[AA.Fq];refine⟨?_,AJw E h.2⟩;have B:=h.1.2.2.2;simp only[I7]at B;split at B;simp only[decide_eq_true_eq]at B;omega;split at B;simp only[Ak,decide_eq_true_eq]at B;omega;split at B;simp only[Ak,decide_eq_true_eq]at B;omega;cases B
theorem AJw : ∀l:List AA,AA.FU l=true->AA.JH l
 | [],_=>by simp[AA.JH]
 | b::l,h=>by
   simp only[AA.FU,Ak]at h;simp only[AA.JH];exact⟨ABD b h.1,AJw l h.2⟩
end
theorem GD {b:AA}(h:b.Ad=true):b.Fq:=by
 simp only[AA.Ad,Ak]at h;exact ABD b h.1
theorem HJ {b:AA}(x y:Int)(h:b.Fq):(b.AS x y).Fq:=by cases b;exact h
theorem F4 {b:AA}(x y:Int)(h:b.BX):(b.AS x y).BX:=by cases b;exact h
theorem Hb (x y:Int):(b.AS x y).cnt=b.cnt:=by cases b;rfl
theorem ABd (w h d:Int):(FV w h d).Fq:=by simp[FV,AA.Fq,AA.JH]
theorem ABe (w h d:Int):(FV w h d).BX:=⟨(CI _:0<=maxLen),(CI _:0<=maxLen),trivial⟩
theorem lH (w h d:Int):(FV w h d).cnt=1:=by simp[FV,AA.cnt,AA.Az]
structure AM6 (f:AP)(s:Aa)(b:AA):Prop where
 p1:1<=F1 f s
 p2:F1 f s<=100
 r1 : -1073741824<=Hl f s
 r2:Hl f s<=1073741824
 l1 : -2147483648<=LJ f s
 l2:LJ f s<=2147483648
 sg:oH (EZ f s b)
 g1 : -4294967296<=Tw f s b
 g2:Tw f s b<=4294967296
theorem AKM {f:AP}{s:Aa}{b:AA}(G:f.valid=true)(ho:s.ok=true):AM6 f s b:=by
 obtain⟨I,B⟩:=HE G ho;have F:=DM (p:=F1 f s) f.params.rule (by unfold F1;omega) B;have R:=DM (p:=25) (AU f.params.Gj (F1 f s)) (by omega) (by omega);have M:=DM (p:=25) (Hl f s) (by omega) (by omega);have E : -2147483648<=LJ f s/\LJ f s<=2147483648:=by
  unfold LJ Hl at *
  split<;>omega
 have J:=(find_ok G I B (name:=Nj) (by simp[Nj,mA]) (Jm f s b)).2;have Q:=J6 ((EZ f s b).h+(EZ f s b).d - Jm f s b);refine⟨I,B,F.1,F.2,E.1,E.2,J,?_,?_⟩;all_goals
  unfold Tw;split<;>omega
@[simp] theorem AA.ACQ (row:List C):V.Cs k row b.vs=b.vs:=by cases b;simp[AA.vs,AA.row,V.Cs,V.Bi]
section
variable (b:AA) (x y:Int)
@[simp] theorem AbP:(b.AS x y).w=b.w:=rfl
@[simp] theorem AbO:(b.AS x y).h=b.h:=rfl
@[simp] theorem AbM:(b.AS x y).d=b.d:=rfl
@[simp] theorem AbQ:(b.AS x y).x=x:=rfl
@[simp] theorem AbR:(b.AS x y).y=y:=rfl
end
@[simp] theorem AcZ (w h d:Int):(FV w h d).w=w:=rfl
@[simp] theorem AcY (w h d:Int):(FV w h d).h=h:=rfl
@[simp] theorem AcX (w h d:Int):(FV w h d).d=d:=rfl
def Hu (f:AP)(p:Int):Int:=AU f.params.FD p
def Ra (f:AP)(b:AA)(p:Int):Int:=mx (mx 0 (b.h - Hu f p)) (b.d+Hu f p)
def P9 (f:AP)(b:AA)(p:Int):Int:=
 if f.valid=false\/b.Ad=false\/p<1\/100<p then 0
 else if 536870912<Ra f b p then 0
 else mx (AU (2*Ra f b p) f.params.TD) (2*Ra f b p - AU f.params.RY p)
def KS (b:AA)(a:Int):AA×Int:=
 if b.Ad=false then(AA.zero,1)
 else if An a=false\/An (b.h - b.d)=false then(AA.zero,2)
 else if An (a - Bm (b.h - b.d))=false then(AA.zero,6)
 else(b.AS b.x (a - Bm (b.h - b.d)),0)
theorem AEE {b:AA}(h:b.Ad=true)(y:Int):(b.AS b.x y).Ad=An y:=by
 obtain⟨I,J,Q,R,G,F,S,Bq,B,M,E⟩:=b;simp only[AA.Ad,Ak,decide_eq_true_eq]at h;obtain⟨U,z,h3⟩:=h;simp only[AA.D8,AA.Cl,AA.lens,Ak,Ep,Nq]at U;obtain⟨⟨⟨l1,l2,l3,l4,l5,_⟩,k1,k2⟩,h4⟩:=U;have nE:AA.Fi ⟨I,J,Q,R,G,F,S,y,B,M,E⟩=true:=k1;have kP:AA.Js ⟨I,J,Q,R,G,F,S,y,B,M,E⟩=true:=k2;have W:AA.cnt ⟨I,J,Q,R,G,F,S,y,B,M,E⟩<=20000:=z;have q:AA.nest ⟨I,J,Q,R,G,F,S,y,B,M,E⟩<=100:=h3;have ho:AA.Cl ⟨I,J,Q,R,G,F,S,y,B,M,E⟩=An y:=by
  unfold AA.Cl;rw[nE,kP];simp only[AA.lens,Ep,Nq,l1,l2,l3,l4,Cd,Km]
 have hp:AA.D8 ⟨I,J,Q,R,G,F,S,y,B,M,E⟩=An y:=by
  show (AA.Cl ⟨I,J,Q,R,G,F,S,y,B,M,E⟩ && AA.FU B)=_;rw[ho,h4,Km]
 show (AA.D8 ⟨I,J,Q,R,G,F,S,y,B,M,E⟩ && (decide (AA.cnt ⟨I,J,Q,R,G,F,S,y,B,M,E⟩<=20000) && decide (AA.nest ⟨I,J,Q,R,G,F,S,y,B,M,E⟩<=100)))=_;rw[hp,decide_eq_true W,decide_eq_true q,Bool.and_self,Km]
@[simp] theorem AA.AiK (y:Int):b.vs.set 7 (.c (.int .i64 y))=(b.AS b.x y).vs:=by cases b;rfl
@[simp] theorem iU (x y:Int):(b.AS x y).w=b.w:=rfl
@[simp] theorem iT (x y:Int):(b.AS x y).h=b.h:=rfl
@[simp] theorem iS (x y:Int):(b.AS x y).d=b.d:=rfl
@[simp] theorem iV (x y:Int):(b.AS x y).x=x:=rfl
@[simp] theorem iW (x y:Int):(b.AS x y).y=y:=rfl
theorem AJT (a:Int)(ho:b.BX)(hc:b.cnt<=900000):AC AF 301 [Ao b,.c (.int .i64 a)] (Ba (KS b a)):=by
 have B:=EL b ho (by omega);cases E:b.Ad with
 | false=>have e:KS b a=(AA.zero,1):=if_pos E;rw[e];rw[E]at B;simp only[Ba,As,AR]at B ⊢;refine en gJ nT ?_;refine Ah ?_;refine BZ (B) Ib ?_;refine Ah ?_;exact At (cj nk<| @Fl)
 | true =>
   rw[E]at B;obtain⟨bw,bh,bd,bc⟩:=D3 E;have G:=Ng a;have I:=Ng (b.h - b.d);have J:AZ.wrap (b.h - b.d)=b.h - b.d:=Ac;cases Q:An a with
   | false =>
     have e:KS b a=(AA.zero,2):=by unfold KS;rw[if_neg (by simp[E]),if_pos (.inl Q)]
     rw[e];rw[Q]at G;simp only[Ba,As,AR]at B ⊢;refine en gJ nT ?_;refine Ah ?_;refine BZ (B) Ib ?_;refine Ah ?_;refine BZ (G) M9 ?_;refine Ah ?_;exact At (cj nk<| @Fl)
   | true =>
     rw[Q]at G;cases R:An (b.h - b.d)with
     | false =>
       have e:KS b a=(AA.zero,2):=by unfold KS;rw[if_neg (by simp[E]),if_pos (.inr R)]
       rw[e];rw[R]at I;simp only[Ba,As,AR]at B ⊢;refine en gJ nT ?_;refine Ah ?_;refine BZ (B) Ib ?_;refine Ah ?_;refine gc @J (G) M9 ?_;refine BZ (I) M9 ?_;refine Ah ?_;exact At (cj nk<| @Fl)
     | true =>
       rw[R]at I;have Fc:=J6 (b.h - b.d);have U:=Ke (b.h - b.d);simp[An]at Q;have W:An a=true:=by simp[An];omega
       have M:=pW b (GD E) (by omega);have hm:=AEE E (a - Bm (b.h - b.d));have F:=EL (b.AS b.x (a - Bm (b.h - b.d))) (F4 _ _ ho) (by rw[Hb];omega);rw[hm]at F;have e:KS b a=if An (a - Bm (b.h - b.d))=false then(AA.zero,6)else(b.AS b.x (a - Bm (b.h - b.d)),0):=by unfold KS;rw[if_neg (by simp[E]),if_neg (by simp[W,R])]
       rw[e];generalize A0:Bm (b.h - b.d)=S at Fc U F ⊢;have z:AZ.wrap (a - S)=a - S:=Ac;cases q:An (a - S)with
       | false=>rw[if_pos rfl];rw[q]at F;simp only[Ba,As,AR]at B M F ⊢;refine en gJ nT ?_;refine Ah ?_;refine BZ (B) Ib ?_;refine Ah ?_;refine gc @J (G) M9 ?_;refine BZ (I) M9 ?_;refine Ah ?_;refine BZ (M) uh ?_;refine go @J ?_;refine gc @z (U) aS ?_;refine Ah ?_;refine BZ (F) Ib ?_;refine Ah ?_;exact At (cj nk<| @Fl)
       | true=>rw[if_neg (by simp)];rw[q]at F;simp only[Ba,As,AR]at B M F ⊢;refine en gJ nT ?_;refine Ah ?_;refine BZ (B) Ib ?_;refine Ah ?_;refine gc @J (G) M9 ?_;refine BZ (I) M9 ?_;refine Ah ?_;refine BZ (M) uh ?_;refine go @J ?_;refine gc @z (U) aS ?_;refine Ah ?_;refine BZ (F) Ib ?_;refine Ah ?_;exact At nk
def O2 (d:List En)(l:List Nd):List Int×Int:=if Ll d=false\/(Dd l).Ad=false then([],1)else(I6 (JP d l),0)
def W4 (p:List Int×Int):V:=.A7 [.c (AV p.1),AR p.2]
theorem AIO {l:List Nd}(h:(Dd l).BX):Nd.FY l:=h.2.2
theorem rY (l:List Nd):(Dd l).cnt=1+Nd.Az l:=rfl
theorem AJD (d:List En)(l:List Nd)(M:d.length<=1000000)(hs : ∀e∈d,e.text.size<=maxLen)(F:(Dd l).BX)(U:(Dd l).cnt<=900000):AC AF 53 [.c (Cc d),.c (.sl (Nd.AG l))] (W4 (O2 d l)):=by
 have B:=sM d M hs;have E:=ABR l F U;have W:=SH l;have q:=rY l;have J:=AJU d l M (by omega) (AIO F);obtain⟨R,S⟩:=AI (I6 (JP d l));unfold O2 W4;rw[S]at J ⊢;have Q:AV []=.sl []:=rfl;cases G:Ll d with
 | false=>rw[G]at B;rw[if_pos (.inl rfl)];unfold AR;rw[Q];refine en func53 ntmps53 ?_;exact wz ADU (cj B<|trivial)
 | true =>
   rw[G]at B;cases I:(Dd l).Ad with
   | false=>rw[I]at E;rw[if_pos (.inr rfl)];unfold AR;rw[Q];refine en func53 ntmps53 ?_;exact wz ADU (cj2 B E trivial)
   | true=>rw[I]at E;rw[if_neg (by simp)];unfold AR;refine en func53 ntmps53 ?_;exact wz ADU (cj3 B E J trivial)
def PX (n:Int):List C:=[.int .i64 n]
theorem rS (l:List Int):AV l=.sl (l.map PX):=rfl
theorem ATN (l:List Int):((l.map PX).all λr=>r.length==1)=true:=by
 rw[ES];intro r B;obtain⟨n,_,rfl⟩:=Da.1 B;rfl
def OX (cls:List Int)(k:Nat):Bool:=!decide (k=0) && (!decide (cls.getD (k - 1) 0=3) && (decide (cls.getD k 0=3) || decide (cls.getD k 0=2)))
def FZ (cls:List Int):Nat->List Int
 | 0=>[0]
 | k+1=>FZ cls k++(if OX cls k=true then [(k:Int)]else [])
def XL (d:List En)(l:List Nd):List Int×Int:=if (O2 d l).2≠0 then([],(O2 d l).2)else if l.length=0 then([],8)else(FZ (O2 d l).1 l.length,0)
theorem AJi (cls:List Int):∀k,(FZ cls k).length<=k+1
 | 0=>BN _
 | k+1=>by
   have:=AJi cls k;simp only[FZ,Cp];split<;>simp<;>omega
theorem AJW (cls:List Int):OX cls 0=false:=rfl
theorem AOU {d:List En}{l:List Nd}(h:(O2 d l).2=0):(O2 d l).1.length=l.length:=by
 unfold O2 at h ⊢;split at h;cases h;rename_i B;rw[if_neg B];rw[ef,Zh]
theorem AJq (cls:List Int)(k:Nat)(hk:k<cls.length)(hl:cls.length<=1000000):AC AF 56 [.c (AV cls),.c (.int .i64 (k:Int))] (.c (.bool (OX cls k))):=by
 obtain⟨I,M⟩:=AI (cls.map PX);have R:I.length=cls.length:=by rw[<-M,Ch]
 rw[rS,M];obtain⟨c,hc⟩:∃c,cls[k]?=some c:=⟨_,BE hk⟩
 have J:I[k]?=some [.int .i64 c]:=by rw[<-M,CM,hc];rfl
 have U:k<I.length:=by omega
 have S:=gx J;have q:cls.getD k 0=c:=by rw[Bv,hc];rfl
 unfold OX;rw[q];cases k with
 | zero=>refine en func56 ntmps56 ?_;exact wz (cj4 @R @J @S @U ADV) trivial
 | succ j =>
   obtain⟨p,hp⟩:∃c,cls[j]?=some c:=⟨_,BE (by omega)⟩
   have W:I[j]?=some [.int .i64 p]:=by rw[<-M,CM,hp];rfl
   have B:j<I.length:=by omega
   have E:=gx W;have z:cls.getD (j+1 - 1) 0=p:=by rw[aM,Bv,hp];rfl
   rw[z];have A0 : ¬j+1=0:=by omega
   rw[decide_eq_false A0,ly,Cd];have Wg : ¬(j:Int)+1=0:=by omega
   have Rq:(0:Int)<=(j:Int)+1:=by omega
   have F:(j:Int)+1<(cls.length:Int):=by omega
   have G:j<cls.length:=by omega
   by_cases Q:p=3;rw[decide_eq_true Q,Bool.not_true,D4];refine en func56 ntmps56 ?_;exact wz (cj9 @R @J @S @U @W @E @B @Wg @Rq<|cj4 @F @G @hk @Q ADV) trivial;rw[decide_eq_false Q,ly,Cd];refine en func56 ntmps56 ?_;exact wz (cj9 @R @J @S @U @W @E @B @Wg @Rq<|cj4 @F @G @hk @Q ADV) trivial
theorem AXg (f:AP)(b:AA)(p:Int)(hb:b.Ad=true)(S:1<=p)(G:p<=100):(-1073741824<=Hu f p/\Hu f p<=1073741824)/\∃M,(if Hu f p<b.h then b.h - Hu f p else 0)=M/\0<=M/\M<=2147483648/\(if M<b.d+Hu f p then b.d+Hu f p else M)=Ra f b p/\0<=Ra f b p/\Ra f b p<=2147483648:=by
 obtain⟨R,Q,J,I⟩:=D3 hb;have F:=DM (p:=p) f.params.FD (by omega) G;refine⟨F,?_⟩;have B:Ra f b p=mx (mx 0 (b.h - Hu f p)) (b.d+Hu f p):=rfl;unfold Hu at *
 generalize U:AU f.params.FD p=A at F B ⊢;have E:mx 0 (b.h - A)=if A<b.h then b.h - A else 0:=by unfold mx;split<;>split<;>omega
 refine⟨_,rfl,?_,?_,?_,?_,?_⟩;split<;>omega;split<;>omega;rw[B,E];rfl;rw[B,E];unfold mx;split<;>split<;>omega;rw[B,E];unfold mx;split<;>split<;>omega
theorem AWp (f:AP)(b:AA)(p:Int)(hf:f.Fit)(ho:b.BX)(hc:b.cnt<=1000000):AC AF 317 [.agg f.vs,Ao b,.c (.int .i64 p)] (.c (.int .i64 (P9 f b p))):=by
 have E:=Ma f;have B:=EL b ho hc;rw[As]at B ⊢;cases W:f.valid with
 | false=>have e:P9 f b p=0:=if_pos (.inl W);rw[e];rw[W]at E;refine en gK gX ?_;refine Ah ?_;refine BZ (E) Hs ?_;refine Ah ?_;exact At gm
 | true =>
   rw[W]at E;cases F:b.Ad with
   | false=>have e:P9 f b p=0:=if_pos (.inr (.inl F));rw[e];rw[F]at B;refine en gK gX ?_;refine Ah ?_;refine BZ (E) Hs ?_;refine BZ (B) Ib ?_;refine Ah ?_;exact At gm
   | true =>
     rw[F]at B;by_cases I:p<1;have e:P9 f b p=0:=if_pos (.inr (.inr (.inl I)));rw[e];refine en gK gX ?_;refine Ah ?_;refine BZ (E) Hs ?_;refine gc @I (B) Ib ?_;refine Ah ?_;exact At gm;by_cases R:100<p;have e:P9 f b p=0:=if_pos (.inr (.inr (.inr R)));rw[e];refine en gK gX ?_;refine Ah ?_;refine BZ (E) Hs ?_;refine gc (cj @I<|@R) (B) Ib ?_;refine Ah ?_;exact At gm;have e:P9 f b p=if 536870912<Ra f b p then 0 else mx (AU (2*Ra f b p) f.params.TD) (2*Ra f b p - AU f.params.RY p):=by unfold P9;rw[if_neg];rintro (h|h|h|h)<;>first|omega|(rw[W]at h;cases h)|(rw[F]at h;cases h)
     rw[e];obtain⟨bw,bh,bd,bc⟩:=D3 F;obtain⟨ha,M,z,m1,m2,U,d1,d2⟩:=AXg f b p F (by omega) (by omega);have Q:=EI f.params.FD p;have eA:AU f.params.FD p=Hu f p:=rfl;rw[eA]at Q;generalize hA:Hu f p=A at ha z U Q;have w1:AZ.wrap (b.h - A)=b.h - A:=Ac;have w2:AZ.wrap (b.d+A)=b.d+A:=Ac;generalize xr:Ra f b p=D at U d1 d2 ⊢;have J:=EI (2*D) f.params.TD;have rE:=EI f.params.RY p;have k2:=DM (p:=p) f.params.RY (by omega) (by omega);obtain⟨q,cO⟩:=AI (AU (2*D) f.params.TD);obtain⟨G,YX⟩:=AI (AU f.params.RY p);rw[cO]at J ⊢;rw[YX]at rE k2 ⊢;have w3:AZ.wrap (2*D)=2*D:=Ac;have w4:AZ.wrap (2*D - G)=2*D - G:=Ac;have A0:(if q<2*D - G then 2*D - G else q)=mx q (2*D - G):=rfl;by_cases S:536870912<D;rw[if_pos S];refine en gK gX ?_;refine Ah ?_;refine BZ (E) Hs ?_;refine gc (cj @I<|@R) (B) Ib ?_;refine Ah ?_;refine BZ (Q) JA ?_;refine go (cj4 @w1 @w2 @z @U @S) ?_;exact At gm;rw[if_neg S];refine en gK gX ?_;refine Ah ?_;refine BZ (E) Hs ?_;refine gc (cj @I<|@R) (B) Ib ?_;refine Ah ?_;refine BZ (Q) JA ?_;refine go (cj5 @w1 @w2 @z @U @S @w3) ?_;refine gc @w3 (J) JA ?_;refine gc (cj @w4<|@A0) (rE) JA ?_;refine Ah ?_;exact At gm
def SS (s:ByteArray)(pos:Nat):Bool:=(s.data.toList.drop pos).all Dx
theorem AXk {s:ByteArray}{pos:Nat}(h : ¬pos<s.size):SS s pos=true:=by
 unfold SS;rw[FA (by simpa using h)];rfl
theorem AXl {s:ByteArray}{pos:Nat}(h:pos<s.size):SS s pos=(Dx (s[pos]'h) && SS s (pos+1)):=by
 unfold SS;have B:pos<s.data.toList.length:=by simpa using h
 rw[D5 B,Ep];rfl
theorem AIc {s:ByteArray}(h:SS s 0=false):Ck s=false:=by
 unfold SS at h;rw[B9]at h;unfold Ck;rw[h,D4]
theorem AUd {s:ByteArray}(h:SS s 0=true):Ck s=(decide (1<=s.size) && decide (s.size<=16)):=by
 unfold SS at h;rw[B9]at h;unfold Ck;rw[h,Cd]
theorem pB {b:UInt8}(h:b.toNat<32\/126<b.toNat):Dx b=false:=by simp[Dx];omega
theorem AEV {b:UInt8}(h:32<=b.toNat/\b.toNat<=126):Dx b=true:=by simp[Dx];omega
theorem AO7 :Calls AF 352 #[.string s] w λe w'=>e=.returned (.bool (Ck s))/\∃pos,w'=w.iter s pos:=by
 go_enter gP,ntmps352;go_wp2;go_loopw [2,4] (λr c w'=>∃(pos:Nat),w'=w.iter s pos/\r=.bool false/\SS s pos=SS s 0) (λ_ _ w'=>s.size - w'.iterPos w.heap.size)
 case atStart=>exact⟨0,rfl,rfl,rfl⟩
 case round =>
  obtain⟨pos,rfl,rfl,hc⟩:=hrel;by_cases hp:pos<s.size
  . obtain⟨b,hb⟩:=AI ((s[pos]'hp));have hst:=AXl hp;rw[hb]at hst;by_cases ha:b.toNat<128
    . have B : ∀ty,(Xj (.pointer (some ⟨w.heap.size,0,none⟩)) true ty).run AF (w.iter s pos)=.ok (.tuple #[.bool true,.int .i64 pos,.int .i32 (b.toNat:Int)]) (w.iter s (pos+1)):=λty=>by rw[run_next_ascii w s pos ty hp (by rw[hb];exact ha),hb]
      go_wp2;all_goals first
       | (refine⟨⟨pos+1,rfl,rfl,?_⟩,?_⟩
          rw[<-hc,hst,AEV (by omega),Cd];simp;omega)
       | (go_ret
          have e:Ck s=false:=AIc (by rw[<-hc,hst,pB (by omega),D4]);rw[e];exact⟨rfl,_,rfl⟩)
       | (exfalso;omega)
    . have E:=decode_high s pos hp (by rw[hb];omega);obtain⟨D,hD⟩:=AI ((g9 s pos).1);rw[hD]at E;have B : ∀ty,(Xj (.pointer (some ⟨w.heap.size,0,none⟩)) true ty).run AF (w.iter s pos)=.ok (.tuple #[.bool true,.int .i64 pos,.int .i32 (D:Int)]) (w.iter s (pos+(g9 s pos).2)):=λty=>by rw[run_next_any w s pos ty hp,hD]
      go_wp2;all_goals first
       | (exfalso;omega)
       | (go_ret
          have e:Ck s=false:=AIc (by rw[<-hc,hst,pB (by omega),D4]);rw[e];exact⟨rfl,_,rfl⟩)
  . have B : ∀ty,(Xj (.pointer (some ⟨w.heap.size,0,none⟩)) true ty).run AF (w.iter s pos)=_:=λty=>run_next_end w s pos ty hp
    have ht:=AUd (hc.symm.trans (AXk hp));go_wp2;all_goals go_ret
    all_goals try rw[ht]
    all_goals refine⟨?_,_,rfl⟩
    all_goals simp
    all_goals first|omega|(rw[decide_eq_decide];omega)|(rw[decide_eq_true (show 1<=s.size by omega),Cd,decide_eq_decide];omega)|trace_state
theorem kN (s:ByteArray)(pos:Nat):Ay w (w.iter s pos):=(Ay.refl w).alloc _
theorem AO6 :AC AF 352 [.c (.str s)] (.c (.bool (Ck s))):=by
 intro S w us G B;simp only[AO,CV,Ab]at B;obtain⟨u,I,rfl,⟨rfl,_⟩,rfl⟩:=B;refine(AO7 s w).mono ?_;rintro e J ⟨rfl,pos,rfl⟩;have E:=kN w s pos;exact⟨_,S,rfl,E,⟨λ_ _ h=>h,λb j v _ F=>E.cell F⟩,λb j h=>.inl h,by simp only[CV,Ab]⟩
def bp:ByteArray:=⟨#[46]⟩
def MX (f:AP)(name:ByteArray)(need p:Int):AA×Int:=
 if f.valid=false\/Ck name=false then(AA.zero,1)
 else if p<1\/100<p then(AA.zero,2)
 else if name=bp then(Bf 0 0 0 [],0)
 else KS (Hv f name need p).1 (Hu f p)
theorem kc {s:ByteArray}(h:Ck s=true):s.size<=16:=by simp[Ck]at h;omega
theorem AWl (f:AP)(name:ByteArray)(B p:Int)(hf:f.Fit)(hn:name.size<=maxLen)(hz : ∀s∈f.C5,s.sizes.length<=1000):AC AF 319 [.agg f.vs,.c (.str name),.c (.int .i64 B),.c (.int .i64 p)] (Ba (MX f name B p)):=by
 have F:=Ma f;have G:=AO6 name;cases M:f.valid with
 | false=>have e:MX f name B p=(AA.zero,1):=if_pos (.inl M);rw[e];rw[M]at F;simp only[Ba,As,AR];refine en gM gY ?_;refine Ah ?_;refine BZ (F) Hs ?_;refine Ah ?_;exact At (cj gp<| @Fl)
 | true =>
   rw[M]at F;cases J:Ck name with
   | false=>have e:MX f name B p=(AA.zero,1):=if_pos (.inr J);rw[e];rw[J]at G;simp only[Ba,As,AR];refine en gM gY ?_;refine Ah ?_;refine BZ (F) Hs ?_;refine BZ (G) gP ?_;refine Ah ?_;exact At (cj gp<| @Fl)
   | true =>
     rw[J]at G;have e1:MX f name B p=if p<1\/100<p then(AA.zero,2)else if name=bp then(Bf 0 0 0 [],0)else KS (Hv f name B p).1 (Hu f p):=if_neg (by simp[M,J])
     rw[e1];by_cases I:p<1;rw[if_pos (.inl I)];simp only[Ba,As,AR];refine en gM gY ?_;refine Ah ?_;refine BZ (F) Hs ?_;refine BZ (G) gP ?_;refine go @I ?_;exact At (cj gp<| @Fl);by_cases R:100<p;rw[if_pos (.inr R)];simp only[Ba,As,AR];refine en gM gY ?_;refine Ah ?_;refine BZ (F) Hs ?_;refine BZ (G) gP ?_;refine go (cj @I<|@R) ?_;exact At (cj gp<| @Fl);rw[if_neg (by omega)];by_cases U:name=bp;rw[if_pos U];have W:name=⟨#[46]⟩↔True:=iff_true_intro U;have z:=My 0 0 0 [] trivial (by simp[AA.Az]);simp only[Ba,As,AR,AA.AG]at z ⊢;refine en gM gY ?_;refine Ah ?_;refine BZ (F) Hs ?_;refine BZ (G) gP ?_;refine go (cj2 @I @R @W) ?_;refine BZ (z) nM ?_;refine Ah ?_;exact At gp;rw[if_neg U];have W : ¬name=⟨#[46]⟩:=U;have Q:=ACC tU f name B p hf;obtain⟨q1,q2⟩:=find_ok M (by omega) (by omega) (kc J) B (p:=p);have FG:Hv f name B p=((Hv f name B p).1,0):=Prod.ext rfl q1;rw[FG]at Q;generalize hS:(Hv f name B p).1=S at Q q2 ⊢;have q:=EI f.params.FD p;have eA:AU f.params.FD p=Hu f p:=rfl;rw[eA]at q;have E:=AJT S (Hu f p) q2.BX (by have:=q2.cnt;omega);generalize hA:Hu f p=A at q E ⊢;generalize hY:KS S A=Y at E ⊢;simp only[Ba,As,AR]at Q E ⊢;refine en gM gY ?_;refine Ah ?_;refine BZ (F) Hs ?_;refine BZ (G) gP ?_;refine go (cj2 @I @R @W) ?_;refine BZ (Q) nH ?_;refine Ah ?_;refine BZ (q) JA ?_;refine BZ (E) gJ ?_;refine Ah ?_;exact At gp
theorem AUL (c:Int)(w:World):Calls AF 298 #[.string s,.int .u8 c] w λe w'=>e=.returned (.int .i64 (EF s.data.toList c.toNat.toUInt8))/\w'=w:=by
 go_enter func298,ntmps298;go_wp2;rw[run_callFunc_extern func338 (by kernel_rfl) (by kernel_rfl) (by kernel_rfl) (e:=AMT) (by kernel_rfl),Lib.run_indexByteString];simp only[Result.andThen];rw[Oper.upon_value];go_wp2;go_ret;exact⟨rfl,rfl⟩
theorem AHx (c:Int)(w:World):Calls AF 249 #[.string s,.int .u8 c] w λe w'=>e=.returned (.int .i64 (EF s.data.toList c.toNat.toUInt8))/\w'=w:=by
 go_enter func249,ntmps249;go_wp2_with (go_at_call 298;refine(AUL _ _ _).mono ?_;rintro e w' ⟨rfl,rfl⟩)
 go_ret;exact⟨rfl,rfl⟩
theorem ATU (h0:0<=r)(h1:r<128):Calls AF 371 #[.string s,.int .i32 r] w λe w'=>e=.returned (.int .i64 (EF s.data.toList r.toNat.toUInt8))/\w'=w:=by
 go_enter func371,ntmps371;go_wp2_with (go_at_call 249;refine(AHx _ _ _).mono ?_;rintro e w' ⟨rfl,rfl⟩)
 go_ret;exact⟨rfl,rfl⟩
theorem AOb (h0:0<=r)(h1:r<128):Calls AF 351 #[.string s,.int .i32 r] w λe w'=>e=.returned (.bool (decide (0<=EF s.data.toList r.toNat.toUInt8)))/\w'=w:=by
 go_enter func351,ntmps351;go_wp2_with (go_at_call 371;refine(ATU _ _ _ h0 h1).mono ?_;rintro e w' ⟨rfl,rfl⟩)
 go_ret;exact⟨rfl,rfl⟩
def Gf:ByteArray:=⟨#[40,41,123,125,91,93,124,60,62,47,46]⟩
theorem pR (a b:List Int)(ha:a.length<=100000)(hb:b.length<=100000)(hp:0<b.length):AC AF 239 [.c (.sl [[AV a],[AV b]])] (.c (AV (a++b))):=by
 obtain⟨A,F⟩:=AI (a.map (λn=>[C.int .i64 n]));obtain⟨B,I⟩:=AI (b.map (λn=>[C.int .i64 n]));have KV:A.length=a.length:=by rw[<-F];simp
 have A0:B.length=b.length:=by rw[<-I];simp
 have G : ∀r∈A,r.length=1:=by rw[<-F];simp
 have J : ∀r∈B,r.length=1:=by rw[<-I];simp
 unfold AV;rw[Fm,F,I];have Q:AZ.wrap (A.length:Int)=(A.length:Int):=Ac;obtain⟨N,hN⟩:=AI (A.length+B.length);have q:AZ.wrap ((A.length:Int)+(B.length:Int))=(N:Int):=by rw[Ac];omega
 have M : ¬((A.length:Int)<0):=by omega
 have z : ¬((N:Int)<0):=by omega
 have R:AZ.wrap (0+1)=1:=by decide +kernel
 have S:AZ.wrap (1+1)=2:=by decide +kernel
 have U:AZ.wrap 1=1:=by decide +kernel
 have W:AZ.wrap 2=2:=by decide +kernel
 refine en func239 ntmps239 ?_;refine Ah ?_;refine LA.loop (LA.round ?_);refine go (cj3 @Q @M @R @U) ?_;refine LA.round ?_;refine go (cj3 @q @z @S @W) ?_;refine LA.round ?_;refine wu (.mk 9) results239 trivial ⟨?_⟩;refine Og (.mk 1) trivial ?_;refine SW.wZ (APv N (by omega) (by omega) []) (by simp[BQ]) (by simp[C7,ev]) ?_;refine CY (.mk 1) trivial ?_;refine SW.nil ?_;refine Ah ?_;refine LA.loop (LA.round ?_);have g1:A.length<=maxLen:=by unfold maxLen;omega
 have g2:A.length*8<=140737488355328:=by omega
 have g3:A.length+B.length<=maxLen:=by unfold maxLen;omega
 have g4:(A.length+B.length)*8<=140737488355328:=by omega
 have E:(∀r∈A,r.length=1)↔True:=iff_true_intro G;have xq:(∀r∈B,r.length=1)↔True:=iff_true_intro J;refine go (cj4 @R @U @g1 @g2 @E) ?_;refine LA.round ?_;refine go (cj5 @S @W @g3 @g4 @E @xq) ?_;refine LA.round ?_;refine Ah ?_;exact At results239
theorem AWj (f:AP)(s:Aa)(b:AA)(hf:f.Fit)(hv:f.valid=true)(ho:s.ok=true)(hb:b.Ad=true)(D7:b.BX):AC AF 258 [.agg f.vs,Aj s,Ao b,.c (.sl [])] (Ba (C8 (Qp f s b []))):=by
 obtain⟨p1,p2,r1,r2,l1,l2,sg,g1,g2⟩:=AKM (b:=b) hv ho;obtain⟨bw,bh,bd,bc⟩:=D3 hb;have Gt:b.src.length<=1000000:=by have:=GD hb;cases b;simp only[AA.Fq]at this;exact this.1
 have C3:=LI f s;have e0:IT f s=(F1 f s,0):=if_neg (by simp[ho,hv]);rw[e0]at C3;have CA:=EL b D7 (by omega);rw[hb]at CA;have hL:LJ f s=if s.By=0 then Hl f s+AU (AU f.params.Gj (F1 f s)) 25 else Hl f s+AU (Hl f s) 25:=rfl
 have hN:Jm f s b=b.h+b.d+LJ f s+Hl f s:=rfl;have q:=ACC tU f Nj (Jm f s b) (F1 f s) hf;have CN:=(find_ok hv p1 p2 (name:=Nj) (by simp[Nj,mA]) (Jm f s b)).1;have FG:Hv f Nj (Jm f s b) (F1 f s)=(EZ f s b,0):=Prod.ext rfl CN;rw[FG]at q;have hG:Tw f s b=if Jm f s b<(EZ f s b).h+(EZ f s b).d then LJ f s+Bm ((EZ f s b).h+(EZ f s b).d - Jm f s b)else LJ f s:=rfl
 have hY:Tx f s b=b.h+Tw f s b:=rfl;have hT:M0 f s b=Tx f s b+Hl f s:=rfl;have hB:Qo f s b=M0 f s b - (EZ f s b).h - (EZ f s b).d:=rfl;have hX:Qp f s b []=Bf (0+(EZ f s b).w+mx 0 b.w) (mx (M0 f s b) b.h) (mx (-(Qo f s b)) b.d) [(EZ f s b).AS 0 (M0 f s b - (EZ f s b).h),(FV (mx 0 b.w) (Hl f s) 0).AS (0+(EZ f s b).w) (Tx f s b),b.AS (0+(EZ f s b).w) 0]:=rfl;have D2:=EI f.params.rule (F1 f s);have eR:AU f.params.rule (F1 f s)=Hl f s:=rfl;rw[eR]at D2;have kJ:=sD f.params.Gj (F1 f s) 25;rw[hX];obtain⟨P,hP⟩:=AI (F1 f s);obtain⟨R,J⟩:=AI (Hl f s);obtain⟨L,Q⟩:=AI (LJ f s);obtain⟨N,Rf⟩:=AI (Jm f s b);obtain⟨S,M⟩:=AI (EZ f s b);obtain⟨G,Uo⟩:=AI (Tw f s b);obtain⟨Y,Uv⟩:=AI (Tx f s b);obtain⟨T,PG⟩:=AI (M0 f s b);obtain⟨B,OA⟩:=AI (Qo f s b);rw[hP,J,Q]at hL;rw[Rf,Q,J]at hN;rw[Uo,Rf,M,Q]at hG;rw[Uv,Uo]at hY;rw[PG,Uv,J]at hT;rw[OA,PG,M]at hB;rw[Rf,hP,M]at q;rw[hP]at C3 D2 kJ p1 p2;rw[J]at D2 r1 r2;rw[Q]at l1 l2;rw[M]at sg;rw[Uo]at g1 g2;rw[PG,OA,Uv,J,M];clear hP J Q Rf M Uo Uv PG OA hX e0 CN FG eR;obtain⟨sd,sk,sf,sc,A7,A8,A5,A6,A9,B0⟩:=sg;have WZ:=Gu S 0 (T - S.h) (by cases S;simp only[AA.Fq]at sd;exact sd.1);have PT:=ABF (mx 0 b.w) R 0;have I:=Gu (FV (mx 0 b.w) R 0) (0+S.w) Y (by simp[FV]);have Wa:=Gu b (0+S.w) 0 Gt;have Ew:mx 0 b.w=if 0<b.w then b.w else 0:=rfl
 obtain⟨W,hW⟩:=AI (mx 0 b.w);have bW:0<=W/\W<=1073741824:=by rw[hW]at Ew;omega
 rw[hW]at PT I ⊢;have E:=My (0+S.w+W) (mx T b.h) (mx (-B) b.d) [S.AS 0 (T - S.h),(FV W R 0).AS (0+S.w) Y,b.AS (0+S.w) 0] ⟨HJ _ _ sd,HJ _ _ (ABd _ _ _),HJ _ _ (GD hb),trivial⟩ (by simp only[AA.Az,Hb,lH];omega);have F:=EL (Bf (0+S.w+W) (mx T b.h) (mx (-B) b.d) [S.AS 0 (T - S.h),(FV W R 0).AS (0+S.w) Y,b.AS (0+S.w) 0]) ⟨(CI _:0<=maxLen),(CI _:0<=maxLen),F4 _ _ sk,F4 _ _ (ABe _ _ _),F4 _ _ D7,trivial⟩ (by simp only[Bf,AA.cnt,AA.Az,Hb,lH];omega);generalize Bf (0+S.w+W) (mx T b.h) (mx (-B) b.d) [S.AS 0 (T - S.h),(FV W R 0).AS (0+S.w) Y,b.AS (0+S.w) 0]=Z at E F ⊢;simp only[AA.AG,As]at E F WZ I Wa PT CA ⊢;obtain⟨A1,Ec⟩:=AI (S.AS 0 (T - S.h));obtain⟨U,hU⟩:=AI (FV W R 0);rw[hU]at E I PT;obtain⟨A2,Fb⟩:=AI (U.AS (0+S.w) Y);obtain⟨A3,Ik⟩:=AI (b.AS (0+S.w) 0);rw[Ec]at E WZ;rw[Fb]at E I;rw[Ik]at E Wa;clear Ec Fb Ik hU;have iX:=DM (p:=25) R (by omega) (by omega);have A0:=DM (p:=25) (AU f.params.Gj P) (by omega) (by omega);have hh:=J6 (S.h+S.d - N);have w1:AZ.wrap (R+AU R 25)=R+AU R 25:=Ac;have w2:AZ.wrap (R+AU (AU f.params.Gj P) 25)=R+AU (AU f.params.Gj P) 25:=Ac;have w3:AZ.wrap (b.h+b.d)=b.h+b.d:=Ac;have w4:AZ.wrap (b.h+b.d+L)=b.h+b.d+L:=Ac;have w5:AZ.wrap (b.h+b.d+L+R)=N:=by rw[hN];exact Ac
 have w6:AZ.wrap (S.h+S.d)=S.h+S.d:=Ac;have w7:AZ.wrap (S.h+S.d - N)=S.h+S.d - N:=Ac;have w8:AZ.wrap (L+Bm (S.h+S.d - N))=L+Bm (S.h+S.d - N):=Ac;have w9:AZ.wrap (b.h+G)=Y:=by rw[hY];exact Ac
 have lj:AZ.wrap (Y+R)=T:=by rw[hT];exact Ac
 have aB:AZ.wrap (T - S.h)=T - S.h:=Ac;have y7:AZ.wrap (T - S.h - S.d)=B:=by rw[hB];exact Ac
 have tY:AZ.wrap (0+S.w)=0+S.w:=Ac;have tZ:AZ.wrap (0+S.w+W)=0+S.w+W:=Ac;have y8:AZ.wrap (-B)= -B:=Ac;have zW:(if 0<b.w then b.w else 0)=W:=by rw[<-Ew];exact hW
 unfold Aj AR Ba at *
 simp only[As,AR]at q ⊢;unfold Nj at q;clear Ew;simp only[Int.zero_add]at E WZ I Wa tY tZ;refine en gH gV ?_;refine Ah ?_;refine BZ (C3) Sq ?_;refine Ah ?_;refine BZ (CA) Ib ?_;refine Ah ?_;refine BZ (D2) JA ?_;refine Ah ?_;refine gc @w1 (EI R 25) JA ?_;refine Ah ?_;refine Cn 4 ?_;refine jn (λ_:Unit=>[(14,.c (.int .i64 L))]) ?_ ?_;all_goals simp only[puts,Bw,CO,Ag,Ai]
 by_cases z:s.By=0;have JJ:s.By=0↔True:=iff_true_intro z;rw[if_pos z]at hL;refine go @JJ ?_;refine gc @w2 (kJ) nG ?_;refine Ah ?_;refine⟨(),?_⟩;exact ER (cj @hL<|@JJ);rw[if_neg z]at hL;refine go @z ?_;refine⟨(),?_⟩;exact ER (cj @hL<|@z)
 . intro _;have Yv:(if T<b.h then b.h else T)=mx T b.h:=rfl;have Yu:(if -B<b.d then b.d else -B)=mx (-B) b.d:=rfl;refine go (cj2 @w3 @w4 @w5) ?_;refine BZ (q) nH ?_;refine go @w6 ?_;refine jn (λ_:Unit=>[(14,.c (.int .i64 G))]) ?_ ?_;all_goals simp only[puts,Bw,CO,Ag,Ai]
   by_cases h1:N<S.h+S.d;have Jc:N<S.h+S.d↔True:=iff_true_intro h1;rw[if_pos h1]at hG;refine go (cj @Jc<|@w7) ?_;refine gc @w8 (Ke (S.h+S.d - N)) aS ?_;refine Ah ?_;refine⟨(),?_⟩;exact ER (cj @hG<|@Jc);rw[if_neg h1]at hG;refine go @h1 ?_;refine⟨(),?_⟩;exact ER (cj @hG<|@h1);intro _;refine go (cj6 @w9 @lj @aB @y7 @y8 @Yv @Yu) ?_;refine AW.le (Le.tL 21 41 11 rfl) ?_;simp only[BA,BO,Nat.reduceAdd,Ag,Ai,BK,BU];refine LA.loop (LA.round ?_);refine go (cj2 @tY @zW @aB) ?_;refine BZ (WZ) UK ?_;refine BZ (PT) func306 ?_;refine BZ (I) UK ?_;have Y8:3<=maxLen:=by unfold maxLen;omega
   refine gc @Y8 (Wa) UK ?_;refine go @tZ ?_;refine BZ (E) nM ?_;refine Ah ?_;cases hz:Z.Ad with
   | false=>rw[hz]at F;have e:C8 Z=(AA.zero,6):=if_neg (by simp[hz]);rw[e];refine BZ (F) Ib ?_;refine Ah ?_;exact At (cj Xr<| @Fl)
   | true=>rw[hz]at F;have e:C8 Z=(Z,0):=if_pos hz;rw[e];refine BZ (F) Ib ?_;refine Ah ?_;exact At Xr
theorem AWk (f:AP)(s:Aa)(b g:AA)(hf:f.Fit)(hv:f.valid=true)(ho:s.ok=true)(hb:b.Ad=true)(D7:b.BX)(hg:g.Ad=true)(A6:g.BX):AC AF 258 [.agg f.vs,Aj s,Ao b,.c (.sl [g.row])] (Ba (C8 (Qp f s b [g]))):=by
 obtain⟨p1,p2,r1,r2,l1,l2,sg,g1,g2⟩:=AKM (b:=b) hv ho;obtain⟨bw,bh,bd,bc⟩:=D3 hb;obtain⟨gw,gh,gd,G4⟩:=D3 hg;have Gt:b.src.length<=1000000:=by have:=GD hb;cases b;simp only[AA.Fq]at this;exact this.1
 have B2:g.src.length<=1000000:=by have:=GD hg;cases g;simp only[AA.Fq]at this;exact this.1
 have C3:=LI f s;have e0:IT f s=(F1 f s,0):=if_neg (by simp[ho,hv]);rw[e0]at C3;have CA:=EL b D7 (by omega);rw[hb]at CA;have FI:=EL g A6 (by omega);rw[hg]at FI;have hL:LJ f s=if s.By=0 then Hl f s+AU (AU f.params.Gj (F1 f s)) 25 else Hl f s+AU (Hl f s) 25:=rfl
 have hN:Jm f s b=b.h+b.d+LJ f s+Hl f s:=rfl;have Rn:=ACC tU f Nj (Jm f s b) (F1 f s) hf;have CN:=(find_ok hv p1 p2 (name:=Nj) (by simp[Nj,mA]) (Jm f s b)).1;have FG:Hv f Nj (Jm f s b) (F1 f s)=(EZ f s b,0):=Prod.ext rfl CN;rw[FG]at Rn;have hG:Tw f s b=if Jm f s b<(EZ f s b).h+(EZ f s b).d then LJ f s+Bm ((EZ f s b).h+(EZ f s b).d - Jm f s b)else LJ f s:=rfl
 have hY:Tx f s b=b.h+Tw f s b:=rfl;have hT:M0 f s b=Tx f s b+Hl f s:=rfl;have hB:Qo f s b=M0 f s b - (EZ f s b).h - (EZ f s b).d:=rfl;have hV:XP f s b g=Qo f s b+AU (M0 f s b - Qo f s b) 60+mx 0 g.d:=rfl;have hA:VO f s g=mx 0 (AU (AU f.params.Al (F1 f s)) 28+g.w - AU (AU f.params.Al (F1 f s)) 56):=rfl;have hX:Qp f s b [g]=Bf (VO f s g+(EZ f s b).w+mx 0 b.w) (mx (mx (M0 f s b) b.h) (XP f s b g+g.h)) (mx (mx (-(Qo f s b)) b.d) (g.d - XP f s b g)) [g.AS (VO f s g+AU (AU f.params.Al (F1 f s)) 56 - g.w) (XP f s b g),(EZ f s b).AS (VO f s g) (M0 f s b - (EZ f s b).h),(FV (mx 0 b.w) (Hl f s) 0).AS (VO f s g+(EZ f s b).w) (Tx f s b),b.AS (VO f s g+(EZ f s b).w) 0]:=rfl;have D2:=EI f.params.rule (F1 f s);have eR:AU f.params.rule (F1 f s)=Hl f s:=rfl;rw[eR]at D2;have kJ:=sD f.params.Gj (F1 f s) 25;have NT:=sD f.params.Al (F1 f s) 56;have Ta:=sD f.params.Al (F1 f s) 28;rw[hX];obtain⟨P,hP⟩:=AI (F1 f s);obtain⟨R,Q⟩:=AI (Hl f s);obtain⟨L,Re⟩:=AI (LJ f s);obtain⟨N,Rf⟩:=AI (Jm f s b);obtain⟨S,q⟩:=AI (EZ f s b);obtain⟨G,Uo⟩:=AI (Tw f s b);obtain⟨Y,Uv⟩:=AI (Tx f s b);obtain⟨T,PG⟩:=AI (M0 f s b);obtain⟨B,OA⟩:=AI (Qo f s b);obtain⟨E,yV⟩:=AI (XP f s b g);obtain⟨A,jK⟩:=AI (VO f s g);rw[hP,Q,Re]at hL;rw[Rf,Re,Q]at hN;rw[Uo,Rf,q,Re]at hG;rw[Uv,Uo]at hY;rw[PG,Uv,Q]at hT;rw[OA,PG,q]at hB;rw[yV,OA,PG]at hV;rw[jK,hP]at hA;rw[Rf,hP,q]at Rn;rw[hP]at C3 D2 kJ NT Ta p1 p2 ⊢;rw[Q]at D2 r1 r2;rw[Re]at l1 l2;rw[q]at sg;rw[Uo]at g1 g2;rw[PG,OA,Uv,Q,q,yV,jK];clear hP Q Re Rf q Uo Uv PG OA hX e0 CN FG eR yV jK;obtain⟨sd,sk,sf,sc,G7,G8,G5,G6,G9,H1⟩:=sg;obtain⟨J,A7⟩:=AI (AU (AU f.params.Al P) 28);obtain⟨F,A8⟩:=AI (AU (AU f.params.Al P) 56);have B3:=DM (p:=28) (AU f.params.Al P) (by omega) (by omega);have nz:=DM (p:=56) (AU f.params.Al P) (by omega) (by omega);rw[A7]at B3 Ta hA;rw[A8]at nz NT hA ⊢;obtain⟨vz,A9⟩:=AI (AU (T - B) 60);have F7:=DM (p:=60) (T - B) (by omega) (by omega);have A5:=EI (T - B) 60;rw[A9]at F7 hV A5;have Au:(if 0<J+g.w - F then J+g.w - F else 0)=A:=hA.symm;have Fb:(if F<J+g.w then J+g.w - F else 0)=A:=by rw[<-Au];split<;>split<;>omega
 have jM:(if 0<g.d then g.d else 0)=mx 0 g.d:=rfl;generalize xr:mx 0 g.d=D0 at hV jM;have bD:0<=D0/\D0<=1073741824:=by rw[<-jM];omega
 have bA:0<=A/\A<=4294967296:=by rw[<-Au];omega
 have yn:=Gu g (A+F - g.w) E B2;have WZ:=Gu S A (T - S.h) (by cases S;simp only[AA.Fq]at sd;exact sd.1);have PT:=ABF (mx 0 b.w) R 0;have QK:=Gu (FV (mx 0 b.w) R 0) (A+S.w) Y (by simp[FV]);have Wa:=Gu b (A+S.w) 0 Gt;have Ew:mx 0 b.w=if 0<b.w then b.w else 0:=rfl
 obtain⟨W,hW⟩:=AI (mx 0 b.w);have bW:0<=W/\W<=1073741824:=by rw[hW]at Ew;omega
 rw[hW]at PT QK ⊢;have I:=My (A+S.w+W) (mx (mx T b.h) (E+g.h)) (mx (mx (-B) b.d) (g.d - E)) [g.AS (A+F - g.w) E,S.AS A (T - S.h),(FV W R 0).AS (A+S.w) Y,b.AS (A+S.w) 0] ⟨HJ _ _ (GD hg),HJ _ _ sd,HJ _ _ (ABd _ _ _),HJ _ _ (GD hb),trivial⟩ (by simp only[AA.Az,Hb,lH];omega);have M:=EL (Bf (A+S.w+W) (mx (mx T b.h) (E+g.h)) (mx (mx (-B) b.d) (g.d - E)) [g.AS (A+F - g.w) E,S.AS A (T - S.h),(FV W R 0).AS (A+S.w) Y,b.AS (A+S.w) 0]) ⟨(CI _:0<=maxLen),(CI _:0<=maxLen),F4 _ _ A6,F4 _ _ sk,F4 _ _ (ABe _ _ _),F4 _ _ D7,trivial⟩ (by simp only[Bf,AA.cnt,AA.Az,Hb,lH];omega);generalize Bf (A+S.w+W) (mx (mx T b.h) (E+g.h)) (mx (mx (-B) b.d) (g.d - E)) [g.AS (A+F - g.w) E,S.AS A (T - S.h),(FV W R 0).AS (A+S.w) Y,b.AS (A+S.w) 0]=Z at I M ⊢;simp only[AA.AG,As]at I M yn WZ QK Wa PT CA FI ⊢;obtain⟨A0,Gr⟩:=AI (g.AS (A+F - g.w) E);obtain⟨A1,Ec⟩:=AI (S.AS A (T - S.h));obtain⟨U,hU⟩:=AI (FV W R 0);rw[hU]at I QK PT;obtain⟨A2,z⟩:=AI (U.AS (A+S.w) Y);obtain⟨A3,Ik⟩:=AI (b.AS (A+S.w) 0);rw[Gr]at I yn;rw[Ec]at I WZ;rw[z]at I QK;rw[Ik]at I Wa;clear Gr Ec z Ik hU;have iX:=DM (p:=25) R (by omega) (by omega);have G2:=DM (p:=25) (AU f.params.Gj P) (by omega) (by omega);have hh:=J6 (S.h+S.d - N);have w1:AZ.wrap (R+AU R 25)=R+AU R 25:=Ac;have w2:AZ.wrap (R+AU (AU f.params.Gj P) 25)=R+AU (AU f.params.Gj P) 25:=Ac;have w3:AZ.wrap (b.h+b.d)=b.h+b.d:=Ac;have w4:AZ.wrap (b.h+b.d+L)=b.h+b.d+L:=Ac;have w5:AZ.wrap (b.h+b.d+L+R)=N:=by rw[hN];exact Ac
 have w6:AZ.wrap (S.h+S.d)=S.h+S.d:=Ac;have w7:AZ.wrap (S.h+S.d - N)=S.h+S.d - N:=Ac;have w8:AZ.wrap (L+Bm (S.h+S.d - N))=L+Bm (S.h+S.d - N):=Ac;have w9:AZ.wrap (b.h+G)=Y:=by rw[hY];exact Ac
 have lj:AZ.wrap (Y+R)=T:=by rw[hT];exact Ac
 have aB:AZ.wrap (T - S.h)=T - S.h:=Ac;have y7:AZ.wrap (T - S.h - S.d)=B:=by rw[hB];exact Ac
 have tY:AZ.wrap (A+S.w)=A+S.w:=Ac;have tZ:AZ.wrap (A+S.w+W)=A+S.w+W:=Ac;have y8:AZ.wrap (-B)= -B:=Ac;have B7:AZ.wrap (J+g.w)=J+g.w:=Ac;have B8:AZ.wrap (J+g.w - F)=J+g.w - F:=Ac;have D1:AZ.wrap (T - B)=T - B:=Ac;have D8:AZ.wrap (B+vz)=B+vz:=Ac;have E0:AZ.wrap (B+vz+D0)=E:=by rw[hV];exact Ac
 have E1:AZ.wrap (A+F)=A+F:=Ac;have E2:AZ.wrap (A+F - g.w)=A+F - g.w:=Ac;have E3:AZ.wrap (E+g.h)=E+g.h:=Ac;have E4:AZ.wrap (g.d - E)=g.d - E:=Ac;have F6:AZ.wrap 1=1:=Ac;have zW:(if 0<b.w then b.w else 0)=W:=by rw[<-Ew];exact hW
 unfold Aj AR Ba at *
 simp only[As,AR]at Rn ⊢;unfold Nj at Rn;clear Ew;refine en gH gV ?_;refine Ah ?_;refine BZ (C3) Sq ?_;refine Ah ?_;refine BZ (CA) Ib ?_;refine BZ (FI) Ib ?_;refine Ah ?_;refine BZ (D2) JA ?_;refine Ah ?_;refine gc @w1 (EI R 25) JA ?_;refine Ah ?_;refine Cn 4 ?_;refine jn (λ_:Unit=>[(14,.c (.int .i64 L))]) ?_ ?_;all_goals simp only[puts,Bw,CO,Ag,Ai]
 by_cases h0:s.By=0;have JJ:s.By=0↔True:=iff_true_intro h0;rw[if_pos h0]at hL;refine go @JJ ?_;refine gc @w2 (kJ) nG ?_;refine Ah ?_;refine⟨(),?_⟩;exact ER (cj @hL<|@JJ);rw[if_neg h0]at hL;refine go @h0 ?_;refine⟨(),?_⟩;exact ER (cj @hL<|@h0)
 . intro _;have Yv:(if T<b.h then b.h else T)=mx T b.h:=rfl;have Yu:(if -B<b.d then b.d else -B)=mx (-B) b.d:=rfl;obtain⟨MT,qP⟩:=AI (mx T b.h);obtain⟨MB,qO⟩:=AI (mx (-B) b.d);rw[qP]at Yv I;rw[qO]at Yu I;have B1:(if MT<E+g.h then E+g.h else MT)=mx MT (E+g.h):=rfl;have B0:(if MB<g.d - E then g.d - E else MB)=mx MB (g.d - E):=rfl;refine go (cj2 @w3 @w4 @w5) ?_;refine BZ (Rn) nH ?_;refine go @w6 ?_;refine jn (λ_:Unit=>[(14,.c (.int .i64 G))]) ?_ ?_;all_goals simp only[puts,Bw,CO,Ag,Ai]
   by_cases h1:N<S.h+S.d;have Jc:N<S.h+S.d↔True:=iff_true_intro h1;rw[if_pos h1]at hG;refine go (cj @Jc<|@w7) ?_;refine gc @w8 (Ke (S.h+S.d - N)) aS ?_;refine Ah ?_;refine⟨(),?_⟩;exact ER (cj @hG<|@Jc);rw[if_neg h1]at hG;refine go @h1 ?_;refine⟨(),?_⟩;exact ER (cj @hG<|@h1);intro _;refine go (cj6 @w9 @lj @aB @y7 @y8 @Yv @Yu) ?_;refine AW.le (Le.tL 21 41 11 rfl) ?_;simp only[BA,BO,Nat.reduceAdd,Ag,Ai,BK,BU];refine LA.loop (LA.round ?_);have kI:1<=maxLen:=by unfold maxLen;omega
   have Y8:4<=maxLen:=by unfold maxLen;omega
   refine Ah ?_;refine BZ (NT) nG ?_;refine Ah ?_;refine gc (cj2 @B7 @B8 @Fb) (Ta) nG ?_;refine go @D1 ?_;refine gc (cj2 @D8 @jM @E0) (A5) JA ?_;refine go (cj @E1<|@E2) ?_;refine gc @kI (yn) UK ?_;refine go (cj4 @E3 @E4 @B1 @B0 @F6) ?_;refine LA.round ?_;refine go (cj2 @tY @zW @aB) ?_;refine BZ (WZ) UK ?_;refine BZ (PT) func306 ?_;refine BZ (QK) UK ?_;refine gc @Y8 (Wa) UK ?_;refine go @tZ ?_;refine BZ (I) nM ?_;refine Ah ?_;cases hz:Z.Ad with
   | false=>rw[hz]at M;have e:C8 Z=(AA.zero,6):=if_neg (by simp[hz]);rw[e];refine BZ (M) Ib ?_;refine Ah ?_;exact At (cj Xr<| @Fl)
   | true=>rw[hz]at M;have e:C8 Z=(Z,0):=if_pos hz;rw[e];refine BZ (M) Ib ?_;refine Ah ?_;exact At Xr
theorem AJm (f:AP)(s:Aa)(b:AA)(G:List (List C))(F:s.ok=false\/f.valid=false):AC AF 258 [.agg f.vs,Aj s,Ao b,.c (.sl G)] (Ba (AA.zero,1)):=by
 have B:=LI f s;have E:IT f s=(0,1):=if_pos F;rw[E]at B;unfold Aj AR Ba at *
 simp only[As,AR]at B ⊢;refine en gH gV ?_;refine Ah ?_;refine BZ (B) Sq ?_;refine Ah ?_;exact At (cj Xr<| @Fl)
theorem AWg (f:AP)(s:Aa)(b:AA)(M:List (List C))(J:f.valid=true)(ho:s.ok=true)(hb:b.Ad=false)(F:b.BX)(G:b.cnt<=1000000):AC AF 258 [.agg f.vs,Aj s,Ao b,.c (.sl M)] (Ba (AA.zero,1)):=by
 have B:=LI f s;have I:IT f s=(F1 f s,0):=if_neg (by simp[ho,J]);rw[I]at B;have E:=EL b F G;rw[hb]at E;unfold Aj AR Ba at *
 simp only[As,AR]at B E ⊢;refine en gH gV ?_;refine Ah ?_;refine BZ (B) Sq ?_;refine Ah ?_;refine BZ (E) Ib ?_;refine Ah ?_;exact At (cj Xr<| @Fl)
theorem AWh (f:AP)(s:Aa)(b:AA)(G:List (List C))(R:f.valid=true)(ho:s.ok=true)(hb:b.Ad=true)(I:b.BX)(J:b.cnt<=1000000)(Q:1<G.length):AC AF 258 [.agg f.vs,Aj s,Ao b,.c (.sl G)] (Ba (AA.zero,1)):=by
 have B:=LI f s;have M:IT f s=(F1 f s,0):=if_neg (by simp[ho,R]);rw[M]at B;have E:=EL b I J;rw[hb]at E;have F:(1:Int)<(G.length:Int):=by omega
 unfold Aj AR Ba at *
 simp only[As,AR]at B E ⊢;refine en gH gV ?_;refine Ah ?_;refine BZ (B) Sq ?_;refine Ah ?_;refine gc (cj @F<|@Q) (E) Ib ?_;refine Ah ?_;exact At (cj Xr<| @Fl)
theorem AWi (f:AP)(s:Aa)(b g:AA)(S:f.valid=true)(ho:s.ok=true)(hb:b.Ad=true)(I:b.BX)(M:b.cnt<=1000000)(R:g.Ad=false)(G:g.BX)(J:g.cnt<=1000000):AC AF 258 [.agg f.vs,Aj s,Ao b,.c (.sl [g.row])] (Ba (AA.zero,1)):=by
 have B:=LI f s;have Q:IT f s=(F1 f s,0):=if_neg (by simp[ho,S]);rw[Q]at B;have E:=EL b I M;rw[hb]at E;have F:=EL g G J;rw[R]at F;unfold Aj AR Ba at *
 simp only[As,AR]at B E F ⊢;refine en gH gV ?_;refine Ah ?_;refine BZ (B) Sq ?_;refine Ah ?_;refine BZ (E) Ib ?_;refine BZ (F) Ib ?_;refine Ah ?_;exact At (cj Xr<| @Fl)
theorem AWf (f:AP)(s:Aa)(b:AA)(G:List AA)(S:f.Fit)(I:b.BX)(M:b.cnt<=1000000)(Q : ∀g∈G,g.BX/\g.cnt<=1000000):AC AF 258 [.agg f.vs,Aj s,Ao b,.c (.sl (AA.AG G))] (Ba (VP f s b G)):=by
 cases E:f.valid with
 | false=>have e:VP f s b G=(AA.zero,1):=if_pos (.inl E);rw[e];exact AJm f s b _ (.inr E)
 | true =>
   cases B:s.ok with
   | false=>have e:VP f s b G=(AA.zero,1):=if_pos (.inr (.inl B));rw[e];exact AJm f s b _ (.inl B)
   | true =>
     cases F:b.Ad with
     | false=>have e:VP f s b G=(AA.zero,1):=if_pos (.inr (.inr (.inl F)));rw[e];exact AWg f s b _ E B F I M
     | true =>
       match G,Q with
       | [],_=>have e:VP f s b []=C8 (Qp f s b []):=if_neg (by simp[E,B,F]);rw[e];exact AWj f s b S E B F I
       | [g],Q =>
         obtain⟨R,W⟩:=Q g GH;cases J:g.Ad with
         | false=>have e:VP f s b [g]=(AA.zero,1):=if_pos (.inr (.inr (.inr (.inl (by simp[J])))));rw[e];exact AWi f s b g E B F I M J R W
         | true=>have e:VP f s b [g]=C8 (Qp f s b [g]):=if_neg (by simp[E,B,F,J]);rw[e];exact AWk f s b g S E B F I J R
       | g::U::l,_=>have e:VP f s b (g::U::l)=(AA.zero,1):=if_pos (.inr (.inr (.inr (.inr (by simp)))));rw[e];exact AWh f s b _ E B F I M (by simp[AA.AG])
theorem AMH:Xw DZ:=by
 intro y B;simp[DZ]at B;rcases B with rfl|rfl|rfl|rfl|rfl|rfl|rfl|rfl|rfl|rfl|rfl<;>rfl
theorem ALT (n:Int)(w:World):(Instr.typeAssert (.iface 42 (.int .i64 n)) 20 42 true).run AF w=.ok (.tuple #[.int .i64 n,.bool true]) w:=by
 unfold Instr.typeAssert;simp only[Sem.run_bind,run_underlying underlying42,Result.andThen_ok];rfl
theorem AOG (g0 g1:Nat)(hne:g0≠g1)(n:Int)(cs0:Array Value)(w:World)(b0:Cb w g0 41 cs0)(G:cs0.size=11)(b1:Cb w g1 42 #[.int .i64 0]) :
 CallsD AF 185 #[.pointer (some ⟨g0,0,none⟩),.pointer (some ⟨g1,0,none⟩)] (.panicking [⟨.iface 42 (.int .i64 n),false,false⟩]) w λe J w'=>e=.returned (.tuple #[])/\J=.panicking [⟨.iface 42 (.int .i64 n),true,false⟩]/\w'=(w.setRow g0 DZ).setRow g1 #[.int .i64 n]:=by
 refine callsD_of_wpS func185 rfl λF cs hu=>?_
 apply wpS_seq;apply wpS_region;simp[wpOpsS,go_sem,recoverD,hu,ntmps185,Exit.thenS];refine wpS_of_wp ?_;have hz:(zeroValue 41).run AF w=.ok (.agg DZ) w:=by kernel_rfl
 have B:=Lib.hid b0;have E:=Lib.hid b1;have M:=ALT n w;have I:ND AF 41 DZ.size:=X2;have c1:(w.setRow g0 DZ).cell? ⟨g1,0,none⟩=some (.int .i64 0):=(Cb.far b1 DZ (g:=g0) (by omega)).cell 0;have d1:=(Cb.far b1 DZ (g:=g0) (by omega)).frozen 0;clear b0 b1;cases F;change Code.wp _ _ _ { tmps:=#[.pointer (some ⟨g0,0,none⟩),.pointer (some ⟨g1,0,none⟩),undef,undef,undef,.iface 42 (.int .i64 n),undef,undef,undef,undef,undef,undef,undef],defers:=[] } w;go_wp2_with (((with_reducible refine ll (ty:=41) (g0) (DZ) ?_ ?_ ?_ ?_ ?_ ?_ ?_);(focus rfl);(focus rfl);(focus exact⟨_,_,B.out,Eq.symm (G.symm)⟩);(focus exact AMH);(focus exact I);(focus rfl)))
 have hs1:(w.setRow g0 DZ).setCell ⟨g1,0,none⟩ (.int .i64 n)=(w.setRow g0 DZ).setRow g1 #[.int .i64 n]:=by
  rw[setCell_eq_setRow _ _ 0 #[.int .i64 0] 42 (0,0) _ (Cb.far E.out DZ (g:=g0) (by omega))];rfl
 exact⟨rfl,_,rfl,.tuple #[],by simp[results,results185],rfl,rfl,hs1⟩
theorem AOF (f:FuncId)(caps:Array Value)(w:World)(n:Int)(E : ∀w1,Ay w w1->w1.heap.size=w.heap.size+2->Calls AF f caps w1 λr w2=>r=.panicked [⟨.iface 42 (.int .i64 n),false,false⟩]/\Ay w1 w2)(hf : ∃fn,AF.funcs[f]?=some fn/\fn.body≠none/\fn.name≠ "runtime.NumGoroutine") :
 Calls AF 121 #[.func (.func f) #[] caps] w λr w'=>r=.returned (.tuple #[.agg DZ,.int .i64 n])/\Ay w w':=by
 have R : ∀(fn:Fn) (first cap:Array Value) (w:World),(Instr.makeFunc fn first cap).run AF w=.ok (.func fn first cap) w:=λ_ _ _ _=>rfl
 obtain⟨fn,G,HK,Q⟩:=hf;go_enter_defers func121,ntmps121
 have hrun : ∀W:World,(callFunc f caps).run AF W=.ok (.enter f caps) W:=λW=>by simp[callFunc,program,HW,G,Q,HK]
 go_wp2;refine(E _ (by repeat (with_reducible first|exact Ay.refl _|assumption|apply Ay.alloc|apply Ay.drew|apply Ay.drewN|(refine Ay.setRow ?_ (by omega) _)|refine Ay.trans ?_ (by assumption))) (by simp)).mono ?_;rintro r w2 ⟨rfl,hk⟩;have IN:=hk.size;simp only[vl]at IN;have b0:Cb w2 w.heap.size 41 DZ:=hk.blk ((Cb.new _ _ _).alloc _);have b1:Cb w2 (w.heap.size+1) 42 #[.int .i64 0]:=hk.blk (Cb.AS _ _ _ (by simp));have J:ND AF 41 DZ.size:=X2;have NO:Cb ((w2.setRow w.heap.size DZ).setRow (w.heap.size+1) #[.int .i64 n]) w.heap.size 41 DZ:=Cb.far (b0.Tz DZ) _ (by omega);have B:Cb ((w2.setRow w.heap.size DZ).setRow (w.heap.size+1) #[.int .i64 n]) (w.heap.size+1) 42 #[.int .i64 n]:=(Cb.far b1 DZ (g:=w.heap.size) (by omega)).Tz _;obtain⟨W,hW⟩:=AI ((w2.setRow w.heap.size DZ).setRow (w.heap.size+1) #[.int .i64 n]);have hkb:KB (λb=>b=w.heap.size\/b=w.heap.size+1) w2 W:=by
  rw[<-hW];refine⟨rfl,rfl,rfl,by simp,λk _ hn=>?_⟩;rw[setRow_other _ _ _ _ (λe=>hn (.inr e)),setRow_other _ _ _ _ (λe=>hn (.inl e))]
 refine leaves_cons (f:=185) (args:=#[.pointer (some ⟨w.heap.size,0,none⟩),.pointer (some ⟨w.heap.size+1,0,none⟩)]) (by simp) (by simp[go_sem]) ?_;refine(AOG w.heap.size (w.heap.size+1) (by omega) n DZ w2 b0 rfl b1).mono ?_;rintro e U w'' ⟨rfl,rfl,rfl⟩;rw[hW]at NO B ⊢;have I:(loadVar 41 ⟨w.heap.size,0,none⟩).run AF W=.ok (.agg DZ) W:=lI NO.row J;have F:(loadVar 42 ⟨w.heap.size+1,0,none⟩).run AF W=.ok (.int .i64 n) W:=by
  have:(isAgg 42).run AF W=.ok false W:=by kernel_rfl
  simp[loadVar,this,load,HW,B.cell]
 have M:Ay w W:=hkb.after (w:=w) (Ay.trans ((((Ay.refl w).alloc _).alloc _)) hk) (λk S=>by omega);refine⟨.tuple #[.agg DZ,.int .i64 n],?_,rfl,M⟩;simp[results,results121,asAddr,I,F]
section
variable {P:Program} {S0:BF} {w0:Bs} {x:Cx} {w:World} {H:Bx} {a:Act} {o:Oper} {v:V}
theorem AVB (g:Good S0 w0 x w H){t:TypeId}(ho:o.op=.call ⟨.builtin .len,#[y],#[t]⟩)(hs:KJ P t=true){k es:Nat}{AG:List (List C)}(B:CV x w (.Be k es AG) (a.eval y))(E:AG.length+1<=maxLen):BW P o a S0 w0 x w H (.c (.int .i64 ((AG.length+1:Nat):Int))) none:=by
 simp only[CV]at B;obtain⟨_,_,_,_,A,cap,B,_⟩:=B;obtain⟨el,F⟩:=AB1 hs;refine BW.pure g (u:=_) (by simp[execOp,ho,resolve,invoke,builtin,B,Builtin.len_,run_underlying F,goInt];rfl) ?_;simp only[CV,Ab];exact⟨by simp,Q8 E⟩
theorem AIx (g:Good S0 w0 x w H){s:TypeId}{f:Nat}(ho:o.op=.fieldAddr s y f){off n:Nat}(I:Bp P s f=some (off,n,ag))(G:n≠0){k m pos:Nat}(B:CV x w (.hp k m pos) (a.eval y)){es:Nat}(F:H k=some (.Be ty es m cs)):BW P o a S0 w0 x w H (.hp k m (pos+off)) none:=by
 obtain⟨_,_,_,J,_⟩:=g.ok k _ F;simp only[CV]at B;obtain⟨d1,d2,d3,A,B,E⟩:=B;have E:=E J.symm;subst E;refine BW.pure g (u:=_) (by simp[execOp,ho,B,ABf I G];rfl) ?_;simp only[CV];exact⟨d1,d2,d3,_,rfl,λ_=>rfl⟩
theorem AVD (g:Good S0 w0 x w H){t:TypeId}(ho:o.op=.load t y){q:Bool×Nat}(S:B6 P t=some q){k n es off:Nat}(E:CV x w (.hp k n ((n - 1)*es+off)) (a.eval y))(M:H k=some (.Be ty es n cs))(h:CJ q cs off=some v):BW P o a S0 w0 x w H v none:=by
 obtain⟨hd,I⟩:=g.ok k _ M;obtain⟨k1,k2,z,k4,k5,vs,Q,hn,Mf,G⟩:=I;simp only[CV]at E;obtain⟨_,_,_,A,E,F⟩:=E;have F:=F z.symm;subst F;obtain⟨u,U,W⟩:=dY (x:=x) (w:=w) (b:=(x.loc k).b) (o:=(n - 1)*es) S (λj v R=>by
  obtain⟨u,B,J⟩:=G.get j v R;refine⟨u,?_,J⟩;rw[cell_of_row w _ _ vs ty (0,0) Q];rw[KO]at B;split at B;rw[List.getElem?_drop]at B;simpa using B;cases B) h
 refine BW.pure g (u:=u) ?_ W;simp[execOp,ho,Instr.loadAt,E,Ol,U]
theorem AVQ (g:Good S0 w0 x w H){e:Operand->V}{t:TypeId}{y z:Operand}(ho:o.op=.store t y z)(hq:B6 P t=some (ag,1)){k n pos es:Nat}(U:CV x w (.hp k n pos) (a.eval y))(hz:CV x w (e z) (a.eval z)){c:V}(hH:H k=some (.Be ty es n (c::cs)))(h1:(e z).flat=true)(W:(e z).cells=[e z])(h4:pos=(n - 1)*es):BW P o a S0 w0 x w H .any (some (k,.Be ty es n (e z::cs))):=by
 obtain⟨F,A5⟩:=g.ok k _ hH;obtain⟨k1,k2,k3,k4,k5,vs,hb,hn,Mf,J⟩:=A5;simp only[CV]at U;obtain⟨_,_,_,A,U,q⟩:=U;have q:=q k3.symm;subst q;obtain⟨I,c2⟩:=hz.cells h1;rw[W]at I;obtain⟨_,hs,_⟩:=T3 (w:=w) (P:=P) (ag:=ag) (n:=1) hq;have Q:(a.eval z).cells.size=1:=by have:=I.len;simpa using this
 simp only[BA]at k5;have A0:n*es=(n - 1)*es+es:=by
  obtain⟨m,rfl⟩:∃m,n=m+1:=⟨n - 1,by omega⟩
  rw[Gz,aM];omega
 have Dz:pos+es<=vs.size:=by omega
 have hr:=run_storeCells_at (P:=P) (t:=ty) (off:=pos) (a.eval z).cells.toList 0 w vs hb (by simp;omega) c2;have G:=cC (a.eval z).cells.toList 0 pos vs (by simp;omega);generalize dM:((a.eval z).cells.toList.zipIdx 0).foldl (λ(c:Array Value) (p:Value×Nat)=>c.setIfInBounds (pos+p.2) p.1) vs=B at hr G;simp only[Nat.add_zero,FW,Q]at G;have E:B.size=vs.size:=by
  have:=congrArg List.length G;simp only[FW,Cp,Fa,List.length_drop,Q]at this;omega
 have FF:(w.setRow (x.loc k).b B).heap[(x.loc k).b]?=some (.cells B ty (0,0)):=setRow_heap w _ vs B ty (0,0) hb;have ar:Ar x.S x.S w (w.setRow (x.loc k).b B):=by
  refine⟨λ_ _ h=>h,λb j v hS R=>?_⟩;by_cases Ga:b=(x.loc k).b;subst Ga;rw[cell_of_row w _ j vs ty (0,0) hb]at R;rw[cell_of_row _ _ j _ ty (0,0) FF];have hj:j<vs.size:=(DO.1 R).1;have GN:j<(n - 1)*es:=by
   rcases Nat.lt_or_ge j ((n - 1)*es)with h|h
   exact h;exact absurd hS (g.EA k _ j hH ⟨h,by omega⟩)
  have:B.toList[j]?=vs.toList[j]?:=by
   rw[G,GX,List.getElem?_append_left (by simp;omega),KO,if_pos (by omega)]
  have W:B[j]?=vs[j]?:=by simpa using this
  rw[W];exact R;rw[World.cell?_of_block (w:=w) (a:=⟨b,j,none⟩) (setRow_other w _ b _ Ga)];exact R
 have he:Ext x x w (w.setRow (x.loc k).b B):=⟨ar,λ_ h=>h,λ_ _=>FM.refl _⟩
 have Gc:AO x w (e z::cs) ((B.toList.drop ((n - 1)*es)).take es):=by
  have e1:(vs.toList.take pos).length=(n - 1)*es:=by simp;omega
  rw[G,GX,List.drop_left' e1];obtain⟨m,rfl⟩:∃m,es=m+1:=⟨es - 1,by omega⟩
  obtain⟨u,hu⟩:∃u,(a.eval z).cells.toList=[u]:=List.length_eq_one_iff.1 (by simpa using Q);rw[hu]at I ⊢;simp only[AO]at I J ⊢;obtain⟨u',A1,e2,h3,_⟩:=I;obtain⟨u2,M,e3,_,h5⟩:=J;refine⟨u,_,by rw[BK,DP,BU],by cases e2;exact h3,?_⟩;have e4:M=(vs.toList.drop (pos+1)).take m:=by
   have:(vs.toList.drop ((n - 1)*(m+1))).take (m+1)=u2::M:=e3;cases F:vs.toList.drop ((n - 1)*(m+1))with
   | nil=>rw[F]at this;simp at this
   | cons v r=>rw[F,DP]at this;rw[h4,<-List.tail_drop,F];exact(List.cons.inj this).2.symm
  rw[<-e4];exact h5
 have g':=g.H5 k (.Be ty es n (e z::cs)) he ⟨rfl,rfl,rfl,by simp,λi _ hn=>setRow_other w _ i _ (λe=>hn ⟨F,k2,e.symm⟩)⟩ (λi=>⟨.inl,λh=>h.elim id (λe=>e ▸ F)⟩) (λ_ _=>rfl) (λ_=>.inl ⟨F,k2,rfl⟩)
  ⟨k1,k2,k3,k4,by simpa using k5,B,FF,by rw[E,hn],by rw[E];exact Mf,AO.mono he _ _ Gc⟩ (λb j h=>.inl h) (λj hx=>g.EA k _ j hH hx)
 refine⟨.skip,_,x,undef,?_,.inr ⟨rfl,rfl⟩,by simp only[CV],g',he,λ_ h=>.inl h,λ_=>rfl⟩;simp[execOp,ho,mM,U,Ol,storeVar,hs,Q,hr]
end
def O.off (t:TypeId):O->Bool
 | .box ty _ _=>decide (ty≠t)
 | .tok ty _ _=>decide (ty≠t)
 | .Be ty _ _ _=>decide (ty≠t)
 | .mp _=>true
section
variable {P:Program} {S0:BF} {w0:Bs} {x:Cx} {w:World} {H:Bx}
theorem Good.data (g:Good S0 w0 x w H){B:Nat}{vs:Array Value}(hb:w.heap[B]?=some (.cells vs ty (0,0)))(hF : ¬w0.F B)(hty : ∀k o,H k=some o->o.off ty=true):
 Good S0 w0 { x with S:=λb j=>x.S b j\/b=B } w H/\Ext x { x with S:=λb j=>x.S b j\/b=B } w w:=by
 have Q:Ext x { x with S:=λb j=>x.S b j\/b=B } w w:=⟨⟨λ_ _ h=>.inl h,λ_ _ _ _ h=>h⟩,λ_ h=>h,λ_ _=>FM.refl _⟩
 refine⟨⟨λk o h=>⟨(g.ok k o h).1,(g.ok k o h).2.mono Q rfl λ_=>rfl⟩,g.dom,g.inj,λk o j h W E=>?_,λb j E=>E.elim (g.ex b j) λe=>e ▸ (DO.1 hb).1,g.own,λb j E=>E.elim (g.new b j) λe=>.inr (e ▸ hF),λb j h=>.inl (g.sub b j h),g.keep,g.ext.trans Q⟩,Q⟩;rcases E with E|E
 cases o<;>exact g.EA k _ j h W E;have U:=hty k o h;have J:=(g.ok k o h).2;replace E:(x.loc k).b=B:=E;cases o with
 | box I cs fr=>obtain⟨_,_,q,G,_⟩:=J;rw[E,hb]at G;cases G;simp[O.off]at U
 | tok I es M=>obtain⟨_,_,z⟩:=J;obtain⟨q,G,_⟩:=z W.1;rw[E,hb]at G;cases G;simp[O.off]at U
 | Be I es M cs=>obtain⟨_,_,_,_,_,q,G,_⟩:=J;rw[E,hb]at G;cases G;simp[O.off]at U
 | mp R=>exact W.elim
theorem AUq {h:List O}(B:(h.all (O.off ty))=true)(k:Nat)(o:O)(e:h[k]?=some o):o.off ty=true:=ES.1 B _ (Cj e)
theorem ANf {lp n:Nat}{F G:Oper}{p d:Tmp}(q:F.op=.alloc ty)(xj:F.dst=some d)(xk:F.guard=none)(qD:G.op=.store ty (.tmp d) (.tmp p))(xl:G.dst=none)(xm:G.guard=none){id:Nat}{t:Array Value}{W:World}{K:Act->World->Prop}{cs:Array Value}(hp:t[p]?=some (.agg cs))(kC:p≠d)(Ls:d<t.size){z:List V}(hz:C2 P ty=some z)(A0:z.length=cs.size)(h1 : ∀v∈cs.toList,v.oneCell'=true)(hq:B6 P ty=some (ag,cs.size))(h : ∀I,Ay W I->I.heap[W.heap.size]?=some (.cells cs ty (0,0))->K { tmps:=t.setIfInBounds d (.pointer (some ⟨W.heap.size,0,none⟩)),defers:=[] } I):
 (Code.region id #[F,G] false).wpIn (Cg.inRound lp) n P (Exit.then K (λ_ _ _=>False)) { tmps:=t,defers:=[] } W:=by
 refine wpIn_region_lit (l:=[F,G]) ?_;unfold wpListIn;rw[if_pos (by simp[FB,xk])];refine dm (λc e=>by rw[q]at e;cases e) ?_;obtain⟨M,z1,z2,_⟩:=Z2 (x:=Cx.bare λ_ _=>False) (w:=W) hz;have B:M.cells.size=cs.size:=by have:=z2.len;simp only[FW]at this;omega
 have R:(execOp (JT { tmps:=t,defers:=[] }) F).run P W=.ok (.value (.pointer (some ⟨W.heap.size,0,none⟩))) (W.alloc (.cells M.cells ty)):=by simp[execOp,q,Instr.alloc,z1,newVar,newRow]
 clear z1 z2;generalize Ww:M.cells=E at B R;unfold Oper.wp;rw[R];simp only[xj,Act.put,Nt];unfold wpListIn;rw[if_pos (by simp[FB,xm])];refine dm (λc e=>by rw[qD]at e;cases e) ?_;have S:(W.alloc (.cells E ty)).heap[W.heap.size]?=some (.cells E ty (0,0)):=heap_alloc_new W _;have U:=run_storeCells_at (P:=P) (t:=ty) (off:=0) cs.toList 0 _ E S (by simp[B]) h1;have Q:=cC cs.toList 0 0 E (by simp[B]);obtain⟨_,hs,_⟩:=T3 (w:=W.alloc (.cells E ty)) (P:=P) (ag:=ag) (n:=cs.size) hq;generalize Ml:(cs.toList.zipIdx 0).foldl (λ(c:Array Value) (p:Value×Nat)=>c.setIfInBounds (0+p.2) p.1) E=vs at U Q;have J:vs=cs:=by
  apply Array.toList_inj.1;rw[Q];simp[B]
 subst J;have PH:(t.setIfInBounds d (.pointer (some ⟨W.heap.size,0,none⟩)))[d]?=some (.pointer (some ⟨W.heap.size,0,none⟩)):=Xi Ls;have G8:(t.setIfInBounds d (.pointer (some ⟨W.heap.size,0,none⟩)))[p]?=some (.agg vs):=by rw[Array.getElem?_setIfInBounds_ne (λe=>kC e.symm)];exact hp
 have e2:(execOp (JT { tmps:=t.setIfInBounds d (.pointer (some ⟨W.heap.size,0,none⟩)),defers:=[] }) G).run P (W.alloc (.cells E ty))=.ok .skip ((W.alloc (.cells E ty)).setRow W.heap.size vs):=by
  simp[execOp,qD,mM,JT,PH,G8,Ol,storeVar,hs,Value.cells,U]
 unfold Oper.wp;rw[e2];simp only[xl,Nt,wpListIn,Exit.then];exact h _ (((Ay.refl W).alloc _).setRow (BN _) _) (setRow_heap _ _ _ _ _ _ S)
theorem Aaz {P:Program}{n:Nat}{g:Operand}{ps:Array Tmp}{assign body:Code}{Q:Exit->Act->World->Prop}{a:Act}{w:World}(h1:1<=n){J:Nat}{U:Array Value}(hg:a.eval g=.func (.func J) #[] U)(eg : ∀args w,(callFunc J args).run P w=.ok (.enter J args) w){encs:List α->α->Array Value}{S:BF}{Sx:List α->Prop}{N:Nat}(NU:vy (n - 1) P J U encs (F3 S) Sx N w)(Ru : ∀pre x,(encs pre x).size=ps.size)(I:List α->World->Prop)(hI:OwnFrom w.heap.size I)(h0:I [] w)(z:List α->α->Act->World->Prop)(xp : ∀pre x a',OwnFrom w.heap.size (λ(_:Unit) W=>z pre x a' W))(ym : ∀(l:Nat) (pre:List α) (x:α) (W:World) (K:Act->World->Prop),I pre W->(∀a' W',KeepsFrom w.heap.size W W'->F3 S W W'->I pre W'->z pre x a' W'->K a' W')->
   assign.wpIn (Cg.inRound l) (n - 1 - 1) P (Exit.then K (λ_ _ _=>False)) { tmps:=(ps.zip (encs pre x)).foldl (λt (p,v)=>t.setIfInBounds p v) a.tmps,defers:=[] } W)(HK : ∀(l:Nat) (pre:List α) (x:α) (a':Act) (W:World),I pre W->z pre x a' W->pre.length<N->body.wpIn (Cg.inRound l) (n - 1 - 1) P (λe _ W'=>e=.normal/\KeepsFrom w.heap.size W W'/\F3 S W W'/\I (pre++[x]) W') a' W)(hdone : ∀(D:Nat) (xs:List α) (W:World),w.heap.size<=D->Sx xs->I xs W->W.heap[D]?=some (.deferred (some []))->Q .normal { a with defers:={ target:=.collected D,args:=#[] }::a.defers } W):
 (Code.rangeFunc g ps assign body).wpIn Cg n P Q a w:=by
 refine wpIn_rangeFunc λfn Ff=>?_
 rw[show Cg.round=none from rfl];obtain⟨rec,F⟩:∃rec:LoopState->Loop,rec=λst=>{ state:=st,pending:=none,fn,tmps:=a.tmps,params:=ps,assign,body,defers:=w.heap.size }:=⟨_,rfl⟩
 obtain⟨L,hL⟩:=AI (w.heap.size+1);obtain⟨E,G⟩:=AI ((w.alloc (.deferred (some []))).alloc (.loop (rec .ready)));have PH:E.heap[w.heap.size]?=some (.deferred (some [])):=by
  rw[<-G];exact(Below.heap_alloc _ _ _ (by simp)).trans (vk w _)
 have FO:E.heap[L]?=some (.loop (rec .ready)):=by
  rw[<-G,<-hL];have:=vk (w.alloc (.deferred (some []))) (.loop (rec .ready));rwa [vl]at this
 have yB:I [] E:=by rw[<-G];exact hI.alloc _ (hI.alloc _ h0)
 have EK:E.heap.size=w.heap.size+2:=by rw[<-G];simp
 refine⟨L,[{ target:=.collected w.heap.size,args:=#[] }],E,{ target:=.fn (.func J) U,args:=#[.func (.yield L) #[] #[]] },E,J,#[.func (.yield L) #[] #[]]++U,E,?_,?_,λf' jl=>trivial,?_,λ_=>h1,?_⟩;rw[<-G,F,<-hL];exact run_enterLoop_outer _ _ _ _ _
 . simp only[resolve,hg];simp[go_sem]
 . simp[invoke,go_sem,eg]
 have G5:Below w.heap.size w E:=by
  rw[<-G];exact(((Below.refl _ w).alloc (BN _) _).alloc (by simp) _)
 have hcell : ∀ {A B:World} {row:Option Nat} (hr : ∀r,row=some r->E.heap.size<=r/\∃o:Obj,A.heap[r]?=some o/\o.isWalk=true),∀r,row=some r->w.heap.size<=r/\∃o:Obj,A.heap[r]?=some o/\o.isCells=false:=λhr r e=>by
  obtain⟨h1,o,h2,h3⟩:=hr r e;exact⟨by omega,o,h2,Obj.not_cells_of_walk h3⟩
 refine(NU L (λpre W=>I pre W/\W.heap[L]?=some (.loop (rec .ready))/\W.heap[w.heap.size]?=some (.deferred (some []))) (λ_ _=>False) E G5 (λs A B row hs Ei hr=>⟨hI s A B row hs.1 Ei (hcell (B:=B) hr),(grownBy_keeps Ei (λr e=>(hr r e).2) hs.2.1 rfl).trans hs.2.1,(grownBy_keeps Ei (λr e=>(hr r e).2) hs.2.2 rfl).trans hs.2.2⟩) (λ_ _ _ _ hs _ _=>hs) ?_ ⟨yB,FO,PH⟩).mono ?_;rintro pre x W ⟨hi,hl,hd⟩ hN;have hy:=run_yield (P:=P) (args:=encs pre x) hl (by rw[F];exact Ru pre x);rw[F]at hy;refine⟨fn,_,assign,body,hy,roundIn_of_wpIn Ff (ym _ pre x W _ hi λa' W2 EG HN J9 Wt=>?_)⟩;have M:=EG.same _ _ (by omega) hl rfl;have QL:=EG.same _ _ (BN _) hd rfl;have hlt:=(DO.1 M).1;refine⟨_,run_beginRound M (by rw[F]),?_⟩;obtain⟨q,U8⟩:=AI (({ rec .ready with state:=.busy }:Loop));rw[U8];have ql:(W2.putObj L (.loop q)).heap[L]?=some (.loop q):=iD hlt;have cZ:(W2.putObj L (.loop q)).heap[w.heap.size]?=some (.deferred (some [])):=(Pz (by omega)).trans QL;refine wpIn_mono (HK _ pre x a' _ (hI.putObj _ J9 (by omega) M rfl) ((xp pre x a').putObj (s:=()) _ Wt (by omega) M rfl) hN) ?_;rintro e a3 W3 ⟨rfl,QN,Yx,jr⟩;have R:=QN.same _ _ (by omega) ql rfl;have Ux:=QN.same _ _ (BN _) cZ rfl;have hr:=run_endRound (P:=P) none R;have e1:({ q with state:=if (none:Option Code).isNone then .ready else .done,pending:=none }:Loop)=rec .ready:=by rw[<-U8,F];rfl
 rw[e1]at hr;exact⟨_,_,hr,.inl ⟨rfl,⟨hI.putObj _ jr (by omega) R rfl,iD (DO.1 R).1,(Pz (by omega)).trans Ux⟩,HN.trans ((F3.put _ _ _ _ M rfl).trans (Yx.trans (F3.put _ _ _ _ R rfl)))⟩⟩;rintro e W2 ⟨⟨v,rfl⟩,⟨xs,hS,hi,hl,hd⟩|⟨_,_,h⟩⟩;exact⟨none,_,by have:=run_endLoop (P:=P) hl (by rw[F];simp);rw[F]at this;exact this,hdone _ xs _ (BN _) hS (hI.putObj _ hi (by omega) hl rfl) ((Pz (by omega)).trans hd)⟩;exact h.elim
theorem AW.AXb {n1:Nat}{s:St}{g:Operand}{p d:Tmp}{id:Nat}{o1 o2:Oper}{body:Code}{gf:FuncId}{caps Lj:List V}{fn:Func}(qC:o1.op=.alloc ty)(xj:o1.dst=some d)(xk:o1.guard=none)(qD:o2.op=.store ty (.tmp d) (.tmp p))(xl:o2.dst=none)(xm:o2.guard=none)(hg:ev s.t g=.fn gf caps)(hp:V.CF caps=some Lj)(Ff:P.funcs[gf]?=some fn)(Iq:fn.body.isSome=true)(Hy:(fn.name == "runtime.NumGoroutine")=false)(E:List α->α->List Value)(row:List α->α->List C)(N:Nat)(Bn : ∀pre y S W,pre.length<N->B4 S W (row pre y) (E pre y))(A8 : ∀pre y,∀v∈E pre y,v.oneCell'=true){z:List V}(hz:C2 P ty=some z)(B3 : ∀pre y,z.length=(E pre y).length)(hq:B6 P ty=some (ag,z.length))(Sx:List α->Prop)(NU:MS P gf Lj (λpre y=>#[.agg (E pre y).toArray]) Sx N)(Q:List α->List O)(h0:s.h=Q [])(n0:Nat)(A5 : ∀pre,(Q pre).length=n0)(B1:p<s.t.length)(Ls:d<s.t.length)(kC:p≠d)(HK : ∀(lp:Nat) (pre:List α) (y:α),pre.length<N->AW ⟨some lp,n0⟩ P body (λe s'=>e=.normal/\∃t',Le ⟨some lp,n0⟩ s' ⟨t',Q (pre++[y])⟩) ⟨(s.t.set p (.agg ((row pre y).map V.c))).set d (.cp (row pre y) 0),Q pre⟩)(A1 : ∀xs,Sx xs->K .normal ⟨s.t,Q xs⟩)(Hi : ∀pre,((Q pre).all O.Tn)=true)(A7 : ∀pre,((Q pre).all (O.off ty))=true):AW ⟨none,n1⟩ P (.rangeFunc g #[p] (.region id #[o1,o2] false) body) K s:=λn S0 w0 x a w hm hA=>by
 have FI:=CW hA.tm g;rw[hg]at FI;simp only[CV]at FI;obtain⟨lb,FI,EP⟩:=FI;have A9:=MC _ _ _ hp EP;have hb:fn.body≠none:=by intro e;rw[e]at Iq;cases Iq
 have hn:fn.name≠ "runtime.NumGoroutine":=by simpa using Hy
 have eg : ∀args w,(callFunc gf args).run P w=.ok (.enter gf args) w:=λargs w=>by simp[callFunc,program,HW,Ff,hn,hb]
 have I : ∀ {D:Nat},w.heap.size<=D->¬w0.F D:=λh=>hA.good.fresh h
 have PA : ∀U:List Nat,a.defers=U.map (λD=>{ target:=.collected D,args:=#[] })->∀D∈U,D<w.heap.size:=by
  intro U e D hD;obtain⟨n9,f1,f2,f3⟩:=hA.df;have hm:({ target:=.collected D,args:=#[] }:Deferred)∈a.defers:=by rw[e];exact Da.2 ⟨D,hD,rfl⟩
  rw[f1]at hm;obtain⟨D',Fs,e'⟩:=Da.1 hm;have:D'=D:=by injection e' with e1 e2;injection e1
  subst this;exact(DO.1 (f3 D' Fs).2).1
 have hs:s=⟨s.t,Q []⟩:=by rw[<-h0]
 have FE:a.tmps.size=s.t.length:=by have:=hA.tm.len;simpa using this
 have A3:OwnFrom w.heap.size (λ(pre:List α) (W:World)=>w.heap.size<=W.heap.size/\∃G,Bo S0 w0 G ⟨s.t,Q pre⟩ a W/\Ar x.S G.S w W):=by
  rintro pre W W' row ⟨A2,G,J,CZ⟩ R hr;obtain⟨g',he⟩:=J.good.jI (To (Hi pre)) R λr e=>⟨I (hr r e).1,(hr r e).2⟩
  refine⟨Ps A2 R.size,G,⟨g',AO.mono he _ _ J.tm,?_⟩,CZ.trans he.ar⟩;obtain⟨U,e1,e2,e3⟩:=J.df;refine⟨U,e1,e2,λD hD=>⟨(e3 D hD).1,?_⟩⟩;have h2:=(e3 D hD).2;rw[R.block D (DO.1 h2).1 (λe=>by have:=(hr D e.symm).1;have:=PA U e1 D hD;omega)];exact h2
 refine wpIn_wide.2 ((wpIn_wide (n:=2)).1 (Aaz (n:=2) (α:=α) (ps:=#[p]) (encs:=λpre y=>#[.agg (E pre y).toArray]) (S:=x.S) (Sx:=Sx) (N:=N) (by omega) FI eg (NU _ x.S w lb hA.good.ex A9) (λ_ _=>rfl)
  (λpre W=>w.heap.size<=W.heap.size/\∃G,Bo S0 w0 G ⟨s.t,Q pre⟩ a W/\Ar x.S G.S w W) A3 ⟨BN _,x,by rw[<-hs];exact hA,Ar.refl _ _⟩
  (λpre y a' W=>∃B,w.heap.size<=B/\a'={ tmps:=(a.tmps.setIfInBounds p (.agg (E pre y).toArray)).setIfInBounds d (.pointer (some ⟨B,0,none⟩)),defers:=[] }/\W.heap[B]?=some (.cells (E pre y).toArray ty (0,0))) ?_ ?_ ?_ ?_))
 rintro pre y a' _ W W' r ⟨B,h1,h2,h3⟩ R hr;refine⟨B,h1,h2,(R.block B (DO.1 h3).1 λe=>?_).trans h3⟩;obtain⟨_,o,h4,h5⟩:=hr B e.symm;rw[h3]at h4;cases h4;cases h5;intro l pre y W K hI hK;have e1:((#[p].zip #[Value.agg (E pre y).toArray]).foldl (λ(t:Array Value) (q:Tmp×Value)=>t.setIfInBounds q.1 q.2) a.tmps)=a.tmps.setIfInBounds p (.agg (E pre y).toArray):=by simp
 rw[show ((#[p].zip #[Value.agg (E pre y).toArray]).foldl (λt (p,v)=>t.setIfInBounds p v) a.tmps)=a.tmps.setIfInBounds p (.agg (E pre y).toArray)from e1];have A6:=B3 pre y;refine ANf (ag:=ag) qC xj xk qD xl xm (Xi (by rw[FE];exact B1)) kC (by simpa [FE]using Ls) hz (by simpa using A6) (by simpa using A8 pre y) (by simpa [A6]using hq) λW' M hB=>?_
 refine hK _ W' ⟨M.size,λk o _ h _=>(M.block k (DO.1 h).1).trans h⟩ ⟨M.size,λ_ _ h=>h,λb j v _ hc=>M.cell hc⟩ (A3 pre W W' none hI ⟨M.os,M.tape,M.output,M.size,λk Hh _=>M.block k Hh⟩ (λr e=>by cases e)) ⟨_,hI.1,rfl,hB⟩;rintro l pre y a' W ⟨A2,G,J,CZ⟩ ⟨B,Il,rfl,O9⟩ hN;obtain⟨gd,ca⟩:=J.good.data O9 (I Il) λk o h=>AUq (A7 pre) k o h
 have I1 : ∀k,G.dom k->k<n0:=λk M=>by
  obtain⟨o,ho⟩:=J.good.dom k M;have:=(List.getElem?_eq_some_iff.1 ho).1;rw[<-A5 pre];exact this
 have A0:B5 (λb j=>G.S b j\/b=B) W (row pre y) B 0:=B5.Pe (Bn pre y _ _ hN) (λj u hu=>by
  rw[cell_of_row W B _ _ ty (0,0) O9];simpa using hu) λj _=>.inr rfl
 have B2:AO { G with S:=λb j=>G.S b j\/b=B } W ((s.t.set p (.agg ((row pre y).map V.c))).set d (.cp (row pre y) 0)) ((a.tmps.setIfInBounds p (.agg (E pre y).toArray)).setIfInBounds d (.pointer (some ⟨B,0,none⟩))).toList:=by
  simp only[Array.toList_setIfInBounds];refine((AO.mono ca _ _ J.tm).set p ?_).set d ?_;simp only[CV];exact⟨_,rfl,AO.OS (Bn pre y _ _ hN)⟩;simp only[CV];exact⟨B,0,rfl,A0⟩
 refine wpIn_mono (HK l pre y hN _ _ (w0.XQ W J.good.keep.size { G with S:=λb j=>G.S b j\/b=B } n0 I1) _ _ _ (BN _) ⟨gd.lB (To (Hi pre)) n0 I1,B2,Marks.nil _ _⟩) λe oL Xx Rd=>?_
 obtain⟨x2,s2,Fb,rfl,t',B0⟩:=Rd;obtain⟨x3,Ik⟩:=B0 _ _ _ _ _ (BN _) Fb;obtain⟨g3,CB⟩:=gd.lZ Ik.good;have Fe:=ca.trans Ik.good.ext;exact⟨rfl,⟨CB.size,λk o _ M ho=>CB.same k o M ho⟩,⟨CB.size,λ_ _ h=>h,λb j v h hc=>Fe.ar.cell b j v (CZ.sub b j h) hc⟩,Ps A2 CB.size,x3,⟨g3,AO.mono Fe _ _ J.tm,J.df.mono CB.nc⟩,CZ.trans Fe.ar⟩;rintro D xs W hD hS ⟨_,G,J,CZ⟩ Rm;obtain⟨U,e1,e2,e3⟩:=J.df;refine⟨G,⟨s.t,Q xs⟩,⟨J.good,J.tm,D::U,by simp[e1],List.nodup_cons.2 ⟨λh=>by have:=PA U e1 D h;omega,e2⟩,λD' Fs=>?_⟩,A1 xs hS⟩;rcases Cf.1 Fs with rfl|h
 exact⟨I hD,Rm⟩;exact e3 D' h
theorem AW.lC {m:Mo}{ops:List Oper}{id:Nat}{s:St}(M:Pb ops=true)(h:SW P ops (λe s=>e=.normal/\K .normal s) ops s):AW m P (.region id ops.toArray false) K s:=λn S0 w0 x a w S J=>by
 obtain⟨R,U⟩:=m;have E:=h S0 w0 x a w J;have B : ∀e a w,(∃x s,Bo S0 w0 x s a w/\e=.normal/\K .normal s)->∃x s,Bo S0 w0 x s a w/\K e s:=λe a w ⟨x,s,F,G,I⟩=>⟨x,s,F,G ▸ I⟩
 have Q : ¬LetsOut (λe a w=>∃x s,Bo S0 w0 x s a w/\e=Exit.normal/\K .normal s):=λ⟨_,_,_,_,_,h,_⟩=>nomatch h
 cases R with
 | none=>exact wpIn_mono (wpIn_wide.2 (wp_region_lit E)) B
 | some l=>exact wpIn_mono (wpIn_region_lit (AUJ Q ops a w M E)) B
end
end Go.Proofs.YtlpomcliejmedaaGreat
