/- Part of the proof of some laws. Conditions: none. -/
import Derived.Test.YtglaipbdiofkfaaGreatY12
set_option linter.unusedVariables false
set_option linter.unusedSimpArgs false
set_option maxRecDepth 100000
set_option maxHeartbeats 16000000
open Go.Proofs.Tryz renaming prog→AF,func279→ns,ntmps279→AAv,results279→CQ,func296→AF9,func297→AQi,results231→ANq,func116→LR,func184→Vk,ntmps184→Vn,results184→Vo,func117→AQN,results117→nX,func65→Su,ntmps65→ARV,results65→UR,func216→AIB,func149→AAS,func100→L0,func52→ID,func43→eS,ntmps43→AMf,func39→AAp,results43→AOK,func37→DC,func118→ug,func28→AF8,func189→nC,func195→Vl,ntmps195→aT,func60→IB,results195→HY
open List renaming foldl_cons→Bw,foldl_nil→CO,set_cons_zero→Ag,set_cons_succ→Ai,map_cons→Ap,map_nil→BB,replicate_succ→BY,cons_append→BK,nil_append→BU,getElem_mem→Kq,sizeOf_lt_of_mem→gD,drop_eq_getElem_cons→D5,all_cons→Ep,getElem?_eq_getElem→BE,drop_of_length_le→FA,eq_nil_of_length_eq_zero→Nr,length_cons→BA,length_nil→BO,take_of_length_le→Gl,getElem?_map→CM
open Go.IntKind renaming i64→AZ
open Nat renaming le_of_ble_eq_true→F2
open SizeOf renaming sizeOf→UF
open Bool renaming true_and→Cd
open Option.some renaming inj→ML
open Option renaming some→J,none→E
open Bool renaming false→U,true→I
open List renaming length→G
namespace Go.Proofs.YtglaipbdiofkfaaGreat
open Go.RowKit Tryz
variable (b0:Int)(b:AA)(n:Int)(b1:ByteArray)
theorem AX9 (l:List Int)(H:G l<=maxLen):AC AF 18 [.c (AV l),.c (AV l)] (.c (.bool I)):=by
 unfold maxLen at H;unfold AV;refine en func18 ntmps18 ?_;refine Ah ?_;refine lp (ι:={ k:Nat // k<=G l }) (λk=>[(4,.c (.bool U)),(5,.c (.int .i64 (k.1:Int)))]) (λ_=>[]) (λk=>G l - k.1) ⟨0,by simp⟩ ?_ ?_;all_goals simp only[CG,Bw,CO,Ag,Ai]
 exact DH;rintro ⟨k,Q⟩;by_cases B:k<G l;obtain⟨z,M⟩:=AI (l[k]);have K:AZ.wrap ((k:Int)+1)=((k+1:Nat):Int):=by rw[Ac];simp
 refine go (cj2 @B @M @K) ?_;refine⟨⟨k+1,by omega⟩,by simp only;omega,?_⟩;exact DH;refine go @B ?_;exact At results18
theorem AXj (Q R S q z b7:Int)(AE:List AA)(o:Int)(src:List Int)(f1:G AE<=maxLen)(f2:G src<=maxLen)(ih : ∀c∈AE,AC AF 9 [Ao c,Ao c] (.c (.bool I))):AC AF 9 [Ao ⟨b0,b1,Q,R,S,q,z,b7,AE,o,src⟩,Ao ⟨b0,b1,Q,R,S,q,z,b7,AE,o,src⟩] (.c (.bool I)):=by
 have Tc:=AX9 src f2;unfold maxLen at f1;simp only[Ao,AA.row,Ap,BB];rw[Dt];obtain⟨K,B⟩:∃K,K=([.c (.int .i64 b0),.c (.str b1),.c (.int .i64 Q),.c (.int .i64 R),.c (.int .i64 S),.c (.int .i64 q),.c (.int .i64 z),.c (.int .i64 b7),.c (.sl (AE.map AA.row)),.c (.int .i64 o),.c (AV src)]:List V):=⟨_,rfl⟩
 refine en func9 ntmps9 ?_;with_reducible refine AW.seq ?_
 with_reducible refine AW.region ?_
 with_reducible refine If (by simp[BY];first|exact rfl|exact⟨F,F⟩) ?_
 with_reducible refine Kz ?_
 with_reducible refine G3 ?_
 with_reducible refine AW.seq ?_
 with_reducible refine AW.seq ?_
 with_reducible refine AW.region ?_
 iterate 7 (with_reducible refine wI (by simp only[List.append_eq,BK,BU,Ap,BB];exact rfl) 10 (by as_aux_lemma=>simp[Zu,QE,BY];first|exact rfl|exact⟨F,F⟩) ?_)
 refine BZ (Tc) func18 ?_;refine Ah ?_;refine lp (ι:={ k:Nat // k<=G AE }) (λk=>[(5,.c (.int .i64 (k.1:Int))),(4,.c (.bool U))]) (λ_=>[.box 41 K U,.box 41 K U]) (λk=>G AE - k.1) ⟨0,by simp⟩ ?_ ?_;all_goals simp only[CG,Bw,CO,Ag,Ai]
 refine Le.MI 2 (F2 F) (by simp[DG,B]) (by simp[B]) (by simp[V.BI,V.A8]) (by simp[O.A8,V.BI,V.A8,B]);rintro ⟨j,hj⟩;by_cases M:j<G AE;obtain⟨c,H⟩:=AI (AE[j]);have Ax:=ih c (H ▸ Kq M);have Av:G c.row=11:=by cases c;rfl
 have hw:AZ.wrap ((j:Int)+1)=((j+1:Nat):Int):=by rw[Ac];simp
 obtain⟨ck,cn,cs,cw,ch,cd,cx,cy,A0,co,A1⟩:=c;simp only[Ao,AA.row,Ap,BB]at Ax;refine go (cj3 @B @M @H @AA.row.eq_1) ?_;refine BZ (Ax) func9 ?_;refine go (cj @B<|@hw) ?_;refine⟨⟨j+1,by omega⟩,by simp only;omega,?_⟩;refine Le.MI 2 (F2 F) (by simp[DG,B]) (by simp[B]) (by simp[V.BI,V.A8]) (by simp[O.A8,V.BI,V.A8,B]);refine go (cj @B<|@M) ?_;exact At results9
theorem AKP : ∀(n:Nat) (b:AA),UF b<n->b.fit->AC AF 9 [Ao b,Ao b] (.c (.bool I))
 | 0,b,h,_=>absurd h (by omega)
 | n+1,⟨b0,b1,M,Q,R,S,q,z,K,o,src⟩,hn,B=>by
   simp only[AA.fit]at B;exact AXj b0 b1 M Q R S q z K o src B.1 B.2.1 λc H=>AKP n c (by
    have:=gD H;simp only[AA.mk.sizeOf_spec]at hn;omega) (AA.pq B.2.2 c H)
theorem AKO (h:b.fit):AC AF 9 [Ao b,Ao b] (.c (.bool I)):=AKP (UF b+1) b (by omega) h
def AA.AS (b:AA)(x y:Int):AA:={ b with x:=x,y:=y }
theorem AKJ (x y:Int):AC AF 198 [Ao b,.c (.int .i64 x),.c (.int .i64 y)] (Ao (b.AS x y)):=by
 obtain⟨b0,b1,H,K,M,Q,R,S,B,o,src⟩:=b;simp only[Ao,AA.AS,AA.row,Ap,BB];refine en func198 ntmps198 ?_;refine Ah ?_;exact At results198
def FV (w h d:Int):AA:=⟨2,⟨#[]⟩,0,w,h,d,0,0,[],0,[]⟩
def Bf (w h d:Int)(AE:List AA):AA:=⟨3,⟨#[]⟩,0,w,h,d,0,0,AE,0,[]⟩
theorem Ajn (w h d:Int):AC AF 199 [.c (.int .i64 w),.c (.int .i64 h),.c (.int .i64 d)] (Ao (FV w h d)):=by
 simp only[Ao,FV,AA.row,AA.AG,Ap,BB];refine en func199 ntmps199 ?_;refine Ah ?_;exact At (cj results199<| @AV.eq_1)
theorem aY (w h d:Int)(AE:List AA)(K:G AE<=1000000):AC AF 202 [.c (.int .i64 w),.c (.int .i64 h),.c (.int .i64 d),.c (.sl (AA.AG AE))] (Ao (Bf w h d AE)):=by
 have H:G (AA.AG AE)=G AE:=by rw[Dt];simp
 have f1:G AE<=maxLen:=by unfold maxLen;omega
 have f2:G AE*128<=140737488355328:=by omega
 have B:(∀x:List C,x∈AA.AG AE->G x=11)↔True:=⟨λ_=>trivial,λ_=>lE AE⟩
 simp only[Ao,Bf,AA.row,AA.AG,Ap,BB];refine en func202 ntmps202 ?_;with_reducible refine AW.seq ?_
 with_reducible refine AW.region ?_
 with_reducible refine If (by simp[BY];first|exact rfl|exact⟨F,F⟩) ?_
 with_reducible refine Kz ?_
 with_reducible refine G3 ?_
 with_reducible refine AW.seq ?_
 refine Og (.mk 3) trivial ?_;refine SW.OU (λv t=>t=E/\v=.Bg []) (by simp[BQ]) ?_ ?_;intro M R x a w g Q K;exact⟨_,_,λ_ _ h=>(by cases h),⟨F,F⟩,AIv g rfl (Ae:=41) (es:=11) (Bq:=128) (by simp)⟩;rintro v t ⟨rfl,rfl⟩;refine CY (.mk 4) (cj3 @f1 @f2 @H @B) ?_;refine SW.nil ?_;refine Ah ?_;exact At (cj results202<| @AV.eq_1)
theorem AWw (B M Q R S q:Int)(AE:List AA)(o:Int)(src:List Int)(hn:b1.size<=maxLen)(hs:G src<=maxLen)(Ce:G AE<=1000000):AC AF 279 [.cp (AA.row ⟨1,b1,B,M,Q,R,S,q,AE,o,src⟩) 0] (.c (.bool (AA.Cl ⟨1,b1,B,M,Q,R,S,q,AE,o,src⟩))):=by
 have Gt:=Zn (1) b1 B M Q R S q AE o src hs;obtain⟨SB,J5⟩:=AI (AA.Js ⟨1,b1,B,M,Q,R,S,q,AE,o,src⟩);rw[J5]at Gt;obtain⟨KB,J4⟩:=AI (AA.Fi ⟨1,b1,B,M,Q,R,S,q,AE,o,src⟩);obtain⟨L,hL⟩:∃L,L=[M,Q,R,S,q]:=⟨_,rfl⟩
 have Io:G L=5:=by rw[hL];rfl
 have hR:AA.Cl ⟨1,b1,B,M,Q,R,S,q,AE,o,src⟩=(L.all An && (KB && SB)):=by
  simp only[AA.Cl,J5,J4,AA.lens,hL]
 have A0:KB=AA.Fi ⟨1,b1,B,M,Q,R,S,q,AE,o,src⟩:=J4.symm;rw[hR];have Av:G (AA.AG AE)=G AE:=by rw[Dt];simp
 simp only[AA.row]at Gt ⊢;refine en ns AAv ?_;refine Ah ?_;refine lp (ι:={ k:Nat // k<=5/\L.all An=(L.drop k).all An }) (λk=>[(25,.agg (L.map λn=>.c (.int .i64 n))),(26,.c (.int .i64 (k.1:Int))),(2,.c (.bool U))]) (λ_=>[]) (λk=>5 - k.1) ⟨0,by simp⟩ ?_ ?_;all_goals simp only[CG,Bw,CO,Ag,Ai]
 exact ER @hL;rintro ⟨i,hi,hA⟩;by_cases A2:i<5;have Dn:i<G L:=by omega
 have H:(i:Int)<5:=by omega
 rw[D5 Dn,Ep]at hA;obtain⟨z,hz⟩:=AI (L[i]);have F7:L[i]?=J z:=by rw[BE Dn,hz]
 rw[hz]at hA;have hw:AZ.wrap ((i:Int)+1)=((i+1:Nat):Int):=by rw[Ac];simp
 by_cases h1:z < -1073741824;have e:L.all An=false:=by rw[hA];simp[An];omega
 refine go (cj2 @H @F7 @h1) ?_;exact At (cj2 CQ @hR @e);by_cases h2:1073741824<z;have e:L.all An=false:=by rw[hA];simp[An];omega
 refine go (cj3 @H @F7 @h1 @h2) ?_;exact At (cj2 CQ @hR @e);have e:L.all An=(L.drop (i+1)).all An:=by
  have:An z=true:=by simp[An];omega
  rw[hA,this,Cd]
 refine go (cj4 @H @F7 @h1 @h2 @hw) ?_;refine⟨⟨i+1,by omega,e⟩,by simp only;omega,?_⟩;exact DH;have Au:L.all An=true:=by rw[hA,FA (by omega)];rfl
 have H : ¬(i:Int)<5:=by omega
 have hA:=Au;have Hy:=ANx b1 hn;have LB:KB=(Ck b1 && (decide (1<=B) && (decide (B<=1000) && decide (G AE=0)))):=A0;cases II:Ck b1 with
 | false=>rw[II]at Hy LB;have K:KB=false:=LB;refine go @H ?_;refine BZ (Hy) AF9 ?_;refine Ah ?_;exact At (cj2 CQ @hR @K)
 | true =>
   rw[II]at Hy LB;by_cases s1:1<=B;by_cases s2:B<=1000;by_cases s3:G AE=0;have K:KB=true:=by rw[LB];simp[s1,s2];exact Nr (by omega)
   refine go @H ?_;refine gc (cj3 @s1 @s2 @s3 @Av) (Hy) AF9 ?_;refine BZ (Gt) AQi ?_;refine Ah ?_;exact At (cj3 CQ @hR @K @hA);have K:KB=false:=by rw[LB];simp[s1,s2];intro h;rw[h]at s3;simp at s3
   have A1 : ¬((G AE:Nat):Int)=0:=by omega
   refine go @H ?_;refine gc (cj4 @s1 @s2 @s3 @Av @A1) (Hy) AF9 ?_;refine Ah ?_;exact At (cj2 CQ @hR @K);have K:KB=false:=by rw[LB];simp[s2]
   refine go @H ?_;refine gc (cj @s1<|@s2) (Hy) AF9 ?_;refine Ah ?_;exact At (cj2 CQ @hR @K);have K:KB=false:=by rw[LB];simp[s1]
   refine go @H ?_;refine gc @s1 (Hy) AF9 ?_;refine Ah ?_;exact At (cj2 CQ @hR @K)
theorem AWx (B H K M Q R:Int)(AE:List AA)(o:Int)(src:List Int)(n1:b1=⟨#[]⟩)(s0:B=0)(s3:G AE=0)(hn:b1.size<=maxLen)(hs:G src<=maxLen)(Ce:G AE<=1000000):AC AF 279 [.cp (AA.row ⟨2,b1,B,H,K,M,Q,R,AE,o,src⟩) 0] (.c (.bool (AA.Cl ⟨2,b1,B,H,K,M,Q,R,AE,o,src⟩))):=by
 have Gt:=Zn (2) b1 B H K M Q R AE o src hs;obtain⟨SB,J5⟩:=AI (AA.Js ⟨2,b1,B,H,K,M,Q,R,AE,o,src⟩);rw[J5]at Gt;obtain⟨KB,J4⟩:=AI (AA.Fi ⟨2,b1,B,H,K,M,Q,R,AE,o,src⟩);obtain⟨L,hL⟩:∃L,L=[H,K,M,Q,R]:=⟨_,rfl⟩
 have Io:G L=5:=by rw[hL];rfl
 have hR:AA.Cl ⟨2,b1,B,H,K,M,Q,R,AE,o,src⟩=(L.all An && (KB && SB)):=by
  simp only[AA.Cl,J5,J4,AA.lens,hL]
 have A0:KB=AA.Fi ⟨2,b1,B,H,K,M,Q,R,AE,o,src⟩:=J4.symm;rw[hR];have Av:G (AA.AG AE)=G AE:=by rw[Dt];simp
 simp only[AA.row]at Gt ⊢;refine en ns AAv ?_;refine Ah ?_;refine lp (ι:={ k:Nat // k<=5/\L.all An=(L.drop k).all An }) (λk=>[(25,.agg (L.map λn=>.c (.int .i64 n))),(26,.c (.int .i64 (k.1:Int))),(2,.c (.bool U))]) (λ_=>[]) (λk=>5 - k.1) ⟨0,by simp⟩ ?_ ?_;all_goals simp only[CG,Bw,CO,Ag,Ai]
 exact ER @hL;rintro ⟨i,hi,S⟩;by_cases A1:i<5;have Dn:i<G L:=by omega
 have q:(i:Int)<5:=by omega
 rw[D5 Dn,Ep]at S;obtain⟨z,hz⟩:=AI (L[i]);have F7:L[i]?=J z:=by rw[BE Dn,hz]
 rw[hz]at S;have hw:AZ.wrap ((i:Int)+1)=((i+1:Nat):Int):=by rw[Ac];simp
 by_cases h1:z < -1073741824;have e:L.all An=false:=by rw[S];simp[An];omega
 refine go (cj2 @q @F7 @h1) ?_;exact At (cj2 CQ @hR @e);by_cases h2:1073741824<z;have e:L.all An=false:=by rw[S];simp[An];omega
 refine go (cj3 @q @F7 @h1 @h2) ?_;exact At (cj2 CQ @hR @e);have e:L.all An=(L.drop (i+1)).all An:=by
  have:An z=true:=by simp[An];omega
  rw[S,this,Cd]
 refine go (cj4 @q @F7 @h1 @h2 @hw) ?_;refine⟨⟨i+1,by omega,e⟩,by simp only;omega,?_⟩;exact DH;have Au:L.all An=true:=by rw[S,FA (by omega)];rfl
 have q : ¬(i:Int)<5:=by omega
 have S:=Au;subst n1 s0;have hK:KB=true:=by rw[A0];simp[AA.Fi];exact Nr (by omega)
 refine go (cj2 @q @s3 @Av) ?_;refine BZ (Gt) AQi ?_;refine Ah ?_;exact At (cj3 CQ @hR @hK @S)
theorem AWy (B H K M Q R:Int)(AE:List AA)(o:Int)(src:List Int)(n1:b1=⟨#[]⟩)(s0:B=0)(s3 : ¬G AE=0)(hn:b1.size<=maxLen)(hs:G src<=maxLen)(Ce:G AE<=1000000):AC AF 279 [.cp (AA.row ⟨2,b1,B,H,K,M,Q,R,AE,o,src⟩) 0] (.c (.bool (AA.Cl ⟨2,b1,B,H,K,M,Q,R,AE,o,src⟩))):=by
 have Gt:=Zn (2) b1 B H K M Q R AE o src hs;obtain⟨SB,J5⟩:=AI (AA.Js ⟨2,b1,B,H,K,M,Q,R,AE,o,src⟩);rw[J5]at Gt;obtain⟨KB,J4⟩:=AI (AA.Fi ⟨2,b1,B,H,K,M,Q,R,AE,o,src⟩);obtain⟨L,hL⟩:∃L,L=[H,K,M,Q,R]:=⟨_,rfl⟩
 have Io:G L=5:=by rw[hL];rfl
 have hR:AA.Cl ⟨2,b1,B,H,K,M,Q,R,AE,o,src⟩=(L.all An && (KB && SB)):=by
  simp only[AA.Cl,J5,J4,AA.lens,hL]
 have A0:KB=AA.Fi ⟨2,b1,B,H,K,M,Q,R,AE,o,src⟩:=J4.symm;rw[hR];have Av:G (AA.AG AE)=G AE:=by rw[Dt];simp
 simp only[AA.row]at Gt ⊢;refine en ns AAv ?_;refine Ah ?_;refine lp (ι:={ k:Nat // k<=5/\L.all An=(L.drop k).all An }) (λk=>[(25,.agg (L.map λn=>.c (.int .i64 n))),(26,.c (.int .i64 (k.1:Int))),(2,.c (.bool U))]) (λ_=>[]) (λk=>5 - k.1) ⟨0,by simp⟩ ?_ ?_;all_goals simp only[CG,Bw,CO,Ag,Ai]
 exact ER @hL;rintro ⟨i,hi,S⟩;by_cases A2:i<5;have Dn:i<G L:=by omega
 have q:(i:Int)<5:=by omega
 rw[D5 Dn,Ep]at S;obtain⟨z,hz⟩:=AI (L[i]);have F7:L[i]?=J z:=by rw[BE Dn,hz]
 rw[hz]at S;have hw:AZ.wrap ((i:Int)+1)=((i+1:Nat):Int):=by rw[Ac];simp
 by_cases h1:z < -1073741824;have e:L.all An=false:=by rw[S];simp[An];omega
 refine go (cj2 @q @F7 @h1) ?_;exact At (cj2 CQ @hR @e);by_cases h2:1073741824<z;have e:L.all An=false:=by rw[S];simp[An];omega
 refine go (cj3 @q @F7 @h1 @h2) ?_;exact At (cj2 CQ @hR @e);have e:L.all An=(L.drop (i+1)).all An:=by
  have:An z=true:=by simp[An];omega
  rw[S,this,Cd]
 refine go (cj4 @q @F7 @h1 @h2 @hw) ?_;refine⟨⟨i+1,by omega,e⟩,by simp only;omega,?_⟩;exact DH;have Au:L.all An=true:=by rw[S,FA (by omega)];rfl
 have q : ¬(i:Int)<5:=by omega
 have S:=Au;subst n1 s0;have hK:KB=false:=by rw[A0];simp[AA.Fi];intro h;rw[h]at s3;simp at s3
 have A1 : ¬((G AE:Nat):Int)=0:=by omega
 refine go (cj3 @q @s3 @Av @A1) ?_;exact At (cj2 CQ @hR @hK)
theorem AWz (B H K M Q R:Int)(AE:List AA)(o:Int)(src:List Int)(n1:b1=⟨#[]⟩)(s0 : ¬B=0)(hn:b1.size<=maxLen)(hs:G src<=maxLen)(Ce:G AE<=1000000):AC AF 279 [.cp (AA.row ⟨2,b1,B,H,K,M,Q,R,AE,o,src⟩) 0] (.c (.bool (AA.Cl ⟨2,b1,B,H,K,M,Q,R,AE,o,src⟩))):=by
 have Gt:=Zn (2) b1 B H K M Q R AE o src hs;obtain⟨SB,J5⟩:=AI (AA.Js ⟨2,b1,B,H,K,M,Q,R,AE,o,src⟩);rw[J5]at Gt;obtain⟨KB,J4⟩:=AI (AA.Fi ⟨2,b1,B,H,K,M,Q,R,AE,o,src⟩);obtain⟨L,hL⟩:∃L,L=[H,K,M,Q,R]:=⟨_,rfl⟩
 have Io:G L=5:=by rw[hL];rfl
 have hR:AA.Cl ⟨2,b1,B,H,K,M,Q,R,AE,o,src⟩=(L.all An && (KB && SB)):=by
  simp only[AA.Cl,J5,J4,AA.lens,hL]
 have A0:KB=AA.Fi ⟨2,b1,B,H,K,M,Q,R,AE,o,src⟩:=J4.symm;rw[hR];have Av:G (AA.AG AE)=G AE:=by rw[Dt];simp
 simp only[AA.row]at Gt ⊢;refine en ns AAv ?_;refine Ah ?_;refine lp (ι:={ k:Nat // k<=5/\L.all An=(L.drop k).all An }) (λk=>[(25,.agg (L.map λn=>.c (.int .i64 n))),(26,.c (.int .i64 (k.1:Int))),(2,.c (.bool U))]) (λ_=>[]) (λk=>5 - k.1) ⟨0,by simp⟩ ?_ ?_;all_goals simp only[CG,Bw,CO,Ag,Ai]
 exact ER @hL;rintro ⟨i,hi,S⟩;by_cases A1:i<5;have Dn:i<G L:=by omega
 have q:(i:Int)<5:=by omega
 rw[D5 Dn,Ep]at S;obtain⟨z,hz⟩:=AI (L[i]);have F7:L[i]?=J z:=by rw[BE Dn,hz]
 rw[hz]at S;have hw:AZ.wrap ((i:Int)+1)=((i+1:Nat):Int):=by rw[Ac];simp
 by_cases h1:z < -1073741824;have e:L.all An=false:=by rw[S];simp[An];omega
 refine go (cj2 @q @F7 @h1) ?_;exact At (cj2 CQ @hR @e);by_cases h2:1073741824<z;have e:L.all An=false:=by rw[S];simp[An];omega
 refine go (cj3 @q @F7 @h1 @h2) ?_;exact At (cj2 CQ @hR @e);have e:L.all An=(L.drop (i+1)).all An:=by
  have:An z=true:=by simp[An];omega
  rw[S,this,Cd]
 refine go (cj4 @q @F7 @h1 @h2 @hw) ?_;refine⟨⟨i+1,by omega,e⟩,by simp only;omega,?_⟩;exact DH;have Au:L.all An=true:=by rw[S,FA (by omega)];rfl
 have q : ¬(i:Int)<5:=by omega
 have S:=Au;have hK:KB=false:=by rw[A0];simp[AA.Fi,s0]
 subst n1;refine go (cj @q<|@s0) ?_;exact At (cj2 CQ @hR @hK)
theorem AW0 (R B H K M Q:Int)(AE:List AA)(o:Int)(src:List Int)(n1 : ¬b1=⟨#[]⟩)(hn:b1.size<=maxLen)(hs:G src<=maxLen)(Ce:G AE<=1000000):AC AF 279 [.cp (AA.row ⟨2,b1,R,B,H,K,M,Q,AE,o,src⟩) 0] (.c (.bool (AA.Cl ⟨2,b1,R,B,H,K,M,Q,AE,o,src⟩))):=by
 have Gt:=Zn (2) b1 R B H K M Q AE o src hs;obtain⟨SB,J5⟩:=AI (AA.Js ⟨2,b1,R,B,H,K,M,Q,AE,o,src⟩);rw[J5]at Gt;obtain⟨KB,J4⟩:=AI (AA.Fi ⟨2,b1,R,B,H,K,M,Q,AE,o,src⟩);obtain⟨L,hL⟩:∃L,L=[B,H,K,M,Q]:=⟨_,rfl⟩
 have Io:G L=5:=by rw[hL];rfl
 have hR:AA.Cl ⟨2,b1,R,B,H,K,M,Q,AE,o,src⟩=(L.all An && (KB && SB)):=by
  simp only[AA.Cl,J5,J4,AA.lens,hL]
 have A0:KB=AA.Fi ⟨2,b1,R,B,H,K,M,Q,AE,o,src⟩:=J4.symm;rw[hR];have Av:G (AA.AG AE)=G AE:=by rw[Dt];simp
 simp only[AA.row]at Gt ⊢;refine en ns AAv ?_;refine Ah ?_;refine lp (ι:={ k:Nat // k<=5/\L.all An=(L.drop k).all An }) (λk=>[(25,.agg (L.map λn=>.c (.int .i64 n))),(26,.c (.int .i64 (k.1:Int))),(2,.c (.bool U))]) (λ_=>[]) (λk=>5 - k.1) ⟨0,by simp⟩ ?_ ?_;all_goals simp only[CG,Bw,CO,Ag,Ai]
 exact ER @hL;rintro ⟨i,hi,S⟩;by_cases A1:i<5;have Dn:i<G L:=by omega
 have q:(i:Int)<5:=by omega
 rw[D5 Dn,Ep]at S;obtain⟨z,hz⟩:=AI (L[i]);have F7:L[i]?=J z:=by rw[BE Dn,hz]
 rw[hz]at S;have hw:AZ.wrap ((i:Int)+1)=((i+1:Nat):Int):=by rw[Ac];simp
 by_cases h1:z < -1073741824;have e:L.all An=false:=by rw[S];simp[An];omega
 refine go (cj2 @q @F7 @h1) ?_;exact At (cj2 CQ @hR @e);by_cases h2:1073741824<z;have e:L.all An=false:=by rw[S];simp[An];omega
 refine go (cj3 @q @F7 @h1 @h2) ?_;exact At (cj2 CQ @hR @e);have e:L.all An=(L.drop (i+1)).all An:=by
  have:An z=true:=by simp[An];omega
  rw[S,this,Cd]
 refine go (cj4 @q @F7 @h1 @h2 @hw) ?_;refine⟨⟨i+1,by omega,e⟩,by simp only;omega,?_⟩;exact DH;have Au:L.all An=true:=by rw[S,FA (by omega)];rfl
 have q : ¬(i:Int)<5:=by omega
 have S:=Au;have hK:KB=false:=by rw[A0];simp[AA.Fi,n1]
 refine go (cj @q<|@n1) ?_;exact At (cj2 CQ @hR @hK)
theorem AW1 (B H K M Q R:Int)(AE:List AA)(o:Int)(src:List Int)(hn:b1.size<=maxLen)(hs:G src<=maxLen)(Ce:G AE<=1000000):AC AF 279 [.cp (AA.row ⟨3,b1,B,H,K,M,Q,R,AE,o,src⟩) 0] (.c (.bool (AA.Cl ⟨3,b1,B,H,K,M,Q,R,AE,o,src⟩))):=by
 have Gt:=Zn (3) b1 B H K M Q R AE o src hs;obtain⟨SB,J5⟩:=AI (AA.Js ⟨3,b1,B,H,K,M,Q,R,AE,o,src⟩);rw[J5]at Gt;obtain⟨KB,J4⟩:=AI (AA.Fi ⟨3,b1,B,H,K,M,Q,R,AE,o,src⟩);obtain⟨L,hL⟩:∃L,L=[H,K,M,Q,R]:=⟨_,rfl⟩
 have Io:G L=5:=by rw[hL];rfl
 have hR:AA.Cl ⟨3,b1,B,H,K,M,Q,R,AE,o,src⟩=(L.all An && (KB && SB)):=by
  simp only[AA.Cl,J5,J4,AA.lens,hL]
 have A0:KB=AA.Fi ⟨3,b1,B,H,K,M,Q,R,AE,o,src⟩:=J4.symm;rw[hR];have Av:G (AA.AG AE)=G AE:=by rw[Dt];simp
 simp only[AA.row]at Gt ⊢;refine en ns AAv ?_;refine Ah ?_;refine lp (ι:={ k:Nat // k<=5/\L.all An=(L.drop k).all An }) (λk=>[(25,.agg (L.map λn=>.c (.int .i64 n))),(26,.c (.int .i64 (k.1:Int))),(2,.c (.bool U))]) (λ_=>[]) (λk=>5 - k.1) ⟨0,by simp⟩ ?_ ?_;all_goals simp only[CG,Bw,CO,Ag,Ai]
 exact ER @hL;rintro ⟨i,hi,S⟩;by_cases A1:i<5;have Dn:i<G L:=by omega
 have q:(i:Int)<5:=by omega
 rw[D5 Dn,Ep]at S;obtain⟨z,hz⟩:=AI (L[i]);have F7:L[i]?=J z:=by rw[BE Dn,hz]
 rw[hz]at S;have hw:AZ.wrap ((i:Int)+1)=((i+1:Nat):Int):=by rw[Ac];simp
 by_cases h1:z < -1073741824;have e:L.all An=false:=by rw[S];simp[An];omega
 refine go (cj2 @q @F7 @h1) ?_;exact At (cj2 CQ @hR @e);by_cases h2:1073741824<z;have e:L.all An=false:=by rw[S];simp[An];omega
 refine go (cj3 @q @F7 @h1 @h2) ?_;exact At (cj2 CQ @hR @e);have e:L.all An=(L.drop (i+1)).all An:=by
  have:An z=true:=by simp[An];omega
  rw[S,this,Cd]
 refine go (cj4 @q @F7 @h1 @h2 @hw) ?_;refine⟨⟨i+1,by omega,e⟩,by simp only;omega,?_⟩;exact DH;have Au:L.all An=true:=by rw[S,FA (by omega)];rfl
 have q : ¬(i:Int)<5:=by omega
 have S:=Au;by_cases n1:b1=⟨#[]⟩
 by_cases s0:B=0;subst n1 s0;have hK:KB=true:=by rw[A0];simp[AA.Fi]
 refine go @q ?_;refine BZ (Gt) AQi ?_;refine Ah ?_;exact At (cj3 CQ @hR @hK @S);have hK:KB=false:=by rw[A0];simp[AA.Fi,s0]
 subst n1;refine go (cj @q<|@s0) ?_;exact At (cj2 CQ @hR @hK);have hK:KB=false:=by rw[A0];simp[AA.Fi,n1]
 refine go (cj @q<|@n1) ?_;exact At (cj2 CQ @hR @hK)
theorem AW2 (R B H K M Q:Int)(AE:List AA)(o:Int)(src:List Int)(k1 : ¬b0=1)(k2 : ¬b0=2)(k3 : ¬b0=3)(hn:b1.size<=maxLen)(hs:G src<=maxLen)(Ce:G AE<=1000000):AC AF 279 [.cp (AA.row ⟨b0,b1,R,B,H,K,M,Q,AE,o,src⟩) 0] (.c (.bool (AA.Cl ⟨b0,b1,R,B,H,K,M,Q,AE,o,src⟩))):=by
 have Gt:=Zn b0 b1 R B H K M Q AE o src hs;obtain⟨SB,J5⟩:=AI (AA.Js ⟨b0,b1,R,B,H,K,M,Q,AE,o,src⟩);rw[J5]at Gt;obtain⟨KB,J4⟩:=AI (AA.Fi ⟨b0,b1,R,B,H,K,M,Q,AE,o,src⟩);obtain⟨L,hL⟩:∃L,L=[B,H,K,M,Q]:=⟨_,rfl⟩
 have Io:G L=5:=by rw[hL];rfl
 have hR:AA.Cl ⟨b0,b1,R,B,H,K,M,Q,AE,o,src⟩=(L.all An && (KB && SB)):=by
  simp only[AA.Cl,J5,J4,AA.lens,hL]
 have A0:KB=AA.Fi ⟨b0,b1,R,B,H,K,M,Q,AE,o,src⟩:=J4.symm;rw[hR];have Av:G (AA.AG AE)=G AE:=by rw[Dt];simp
 simp only[AA.row]at Gt ⊢;refine en ns AAv ?_;refine Ah ?_;refine lp (ι:={ k:Nat // k<=5/\L.all An=(L.drop k).all An }) (λk=>[(25,.agg (L.map λn=>.c (.int .i64 n))),(26,.c (.int .i64 (k.1:Int))),(2,.c (.bool U))]) (λ_=>[]) (λk=>5 - k.1) ⟨0,by simp⟩ ?_ ?_;all_goals simp only[CG,Bw,CO,Ag,Ai]
 exact ER @hL;rintro ⟨i,hi,S⟩;by_cases A1:i<5;have Dn:i<G L:=by omega
 have q:(i:Int)<5:=by omega
 rw[D5 Dn,Ep]at S;obtain⟨z,hz⟩:=AI (L[i]);have F7:L[i]?=J z:=by rw[BE Dn,hz]
 rw[hz]at S;have hw:AZ.wrap ((i:Int)+1)=((i+1:Nat):Int):=by rw[Ac];simp
 by_cases h1:z < -1073741824;have e:L.all An=false:=by rw[S];simp[An];omega
 refine go (cj2 @q @F7 @h1) ?_;exact At (cj2 CQ @hR @e);by_cases h2:1073741824<z;have e:L.all An=false:=by rw[S];simp[An];omega
 refine go (cj3 @q @F7 @h1 @h2) ?_;exact At (cj2 CQ @hR @e);have e:L.all An=(L.drop (i+1)).all An:=by
  have:An z=true:=by simp[An];omega
  rw[S,this,Cd]
 refine go (cj4 @q @F7 @h1 @h2 @hw) ?_;refine⟨⟨i+1,by omega,e⟩,by simp only;omega,?_⟩;exact DH;have Au:L.all An=true:=by rw[S,FA (by omega)];rfl
 have q : ¬(i:Int)<5:=by omega
 have S:=Au;have hK:KB=false:=by rw[A0];simp[AA.Fi,k1,k2,k3]
 refine go (cj3 @q @k1 @k2 @k3) ?_;exact At (cj2 CQ @hR @hK)
theorem AWv (B H K M Q R:Int)(AE:List AA)(o:Int)(src:List Int)(q:b1.size<=maxLen)(z:G src<=maxLen)(S:G AE<=1000000):AC AF 279 [.cp (AA.row ⟨b0,b1,B,H,K,M,Q,R,AE,o,src⟩) 0] (.c (.bool (AA.Cl ⟨b0,b1,B,H,K,M,Q,R,AE,o,src⟩))):=by
 by_cases k1:b0=1;subst k1;exact AWw b1 B H K M Q R AE o src q z S;by_cases k2:b0=2;subst k2;by_cases n1:b1=⟨#[]⟩
 by_cases s0:B=0;by_cases s3:G AE=0;exact AWx b1 B H K M Q R AE o src n1 s0 s3 q z S;exact AWy b1 B H K M Q R AE o src n1 s0 s3 q z S;exact AWz b1 B H K M Q R AE o src n1 s0 q z S;exact AW0 b1 B H K M Q R AE o src n1 q z S;by_cases k3:b0=3;subst k3;exact AW1 b1 B H K M Q R AE o src q z S;exact AW2 b0 b1 B H K M Q R AE o src k1 k2 k3 q z S
theorem AXL (S q z b5 b6 b7:Int)(AE:List AA)(o:Int)(src:List Int)(B c:Nat)(hn:b1.size<=maxLen)(hs:G src<=maxLen)(hd:B<=101)(hc:c+AA.cnt ⟨b0,b1,S,q,z,b5,b6,b7,AE,o,src⟩<=1000000)(ih : ∀k∈AE,∀(B c:Nat),B<=101->c+k.cnt<=1000000->AX AF 231 [.cp (AA.row k) 0,.c (.int .i64 ((B:Nat):Int)),.ptr 0 0] 3 [.int .i64 ((c:Nat):Int)] [.int .i64 ((AA.pv B k c).2:Int)] (.c (.bool (AA.pv B k c).1))):AX AF 231 [.cp (AA.row ⟨b0,b1,S,q,z,b5,b6,b7,AE,o,src⟩) 0,.c (.int .i64 ((B:Nat):Int)),.ptr 0 0] 3 [.int .i64 ((c:Nat):Int)] [.int .i64 ((AA.pv B ⟨b0,b1,S,q,z,b5,b6,b7,AE,o,src⟩ c).2:Int)] (.c (.bool (AA.pv B ⟨b0,b1,S,q,z,b5,b6,b7,AE,o,src⟩ c).1)):=by
 have FX:AA.cnt ⟨b0,b1,S,q,z,b5,b6,b7,AE,o,src⟩=1+AA.Az AE:=F;rw[FX]at hc;have Ce:=Ud AE;have H:=AWv b0 b1 S q z b5 b6 b7 AE o src hn hs (by omega);obtain⟨OB,qR⟩:=AI (AA.Cl ⟨b0,b1,S,q,z,b5,b6,b7,AE,o,src⟩);rw[qR]at H;have hR:AA.pv B ⟨b0,b1,S,q,z,b5,b6,b7,AE,o,src⟩ c=if 20000<c+1\/100<B\/OB=U then(U,c+1)else AA.HU (B+1) AE (c+1):=by simp only[AA.pv,qR]
 have K:AZ.wrap ((c:Int)+1)=((c+1:Nat):Int):=by rw[Ac];simp
 simp only[AA.row]at H ⊢;rw[Dt]at H ⊢;refine AX.intro func231 rfl ?_;simp only[ntmps231,Ap,BB,BA,BO,Nat.reduceAdd,Nat.reduceSub,BY,List.replicate_zero,BK,BU];by_cases h1:20000<c+1;rw[if_pos (.inl h1)]at hR;have R:(20000:Int)<((c+1:Nat):Int):=by omega
 obtain⟨C,hC⟩:∃C:Int,((c+1:Nat):Int)=C:=⟨_,rfl⟩
 rw[hR];simp only;rw[hC]at K R ⊢;refine go (cj @K<|@R) ?_;simp[Xy,DV,C0,DE,V.CP,V.CF,CJ,toCs,toC,ANq]
 . have R : ¬(20000:Int)<((c+1:Nat):Int):=by omega
   by_cases h2:100<B;rw[if_pos (.inr (.inl h2))]at hR;have J3:(100:Int)<((B:Nat):Int):=by omega
   obtain⟨C,hC⟩:∃C:Int,((c+1:Nat):Int)=C:=⟨_,rfl⟩
   rw[hR];simp only;rw[hC]at K R ⊢;refine go (cj2 @K @R @J3) ?_;simp[Xy,DV,C0,DE,V.CP,V.CF,CJ,toCs,toC,ANq]
   . have J3 : ¬(100:Int)<((B:Nat):Int):=by omega
     cases OB with
     | false =>
       rw[if_pos (.inr (.inr F))]at hR;obtain⟨C,hC⟩:∃C:Int,((c+1:Nat):Int)=C:=⟨_,rfl⟩
       rw[hR];simp only;rw[hC]at K R ⊢;refine go (cj2 @K @R @J3) ?_;refine BZ (H) ns ?_;refine Ah ?_;simp[Xy,DV,C0,DE,V.CP,V.CF,CJ,toCs,toC,ANq]
     | true =>
       rw[if_neg (by rintro (h|h|h)<;>first|omega|cases h)]at hR;rw[hR];have A0:AZ.wrap ((B:Int)+1)=((B+1:Nat):Int):=by rw[Ac];simp
       obtain⟨Q,hQ⟩:=AI (AA.HU (B+1) AE (c+1));rw[hQ];obtain⟨C,hC⟩:∃C:Int,((c+1:Nat):Int)=C:=⟨_,rfl⟩
       rw[hC]at K R;refine go (cj2 @K @R @J3) ?_;refine BZ (H) ns ?_;refine Ah ?_;subst hC;refine lp (ι:={ k:Nat×Nat // k.1<=G AE/\k.2+AA.Az (AE.drop k.1)<=1000000/\Q=AA.HU (B+1) (AE.drop k.1) k.2 }) (λk=>[(31,.c (.int .i64 (k.1.1:Int))),(6,.c (.bool U))]) (λk=>[.box 3 [.c (.int .i64 (k.1.2:Int))] U]) (λk=>G AE - k.1.1) ⟨(0,c+1),by simp,by simp;omega,by simp[hQ]⟩ ?_ ?_;all_goals simp only[CG,Bw,CO,Ag,Ai]
       exact DH;rintro ⟨⟨j,n⟩,hj,hb,M⟩;simp only at hj hb M ⊢;by_cases U4:j<G AE;rw[D5 U4]at M hb;obtain⟨k,EC⟩:=AI (AE[j]);rw[EC]at M hb;simp only[AA.Az]at hb;simp only[AA.HU]at M;have VF:=ih k (EC ▸ Kq U4) (B+1) n (by omega) (by omega);have Av:G k.row=11:=by cases k;rfl
       have KE:=(ABP (B+1) k n).1;have hw:AZ.wrap ((j:Int)+1)=((j+1:Nat):Int):=by rw[Ac];simp
       obtain⟨⟨r,n'⟩,hr⟩:=AI (AA.pv (B+1) k n);rw[hr]at VF M KE;simp only at VF M KE;obtain⟨D,hD⟩:∃D:Int,((B+1:Nat):Int)=D:=⟨_,rfl⟩
       rw[hD]at VF A0;refine go @U4 ?_;refine Og (.mk 9) (cj3 @U4 @EC @A0 @Av) ?_;refine SW.pJ 0 VF func231 (by kernel_rfl) (by kernel_rfl) (by simp[BQ]) (by simp[C7,EC,A0];first|exact rfl|exact⟨F,F⟩) (by simp[V.Dj,V.Di,EC];try exact rfl) (by rfl) (by simp[toCs,toC]) ?_;cases r with
       | false=>rw[if_neg (by simp)]at M;refine CY (.mk 1) trivial ?_;refine SW.nil ?_;refine Ah ?_;simp[Xy,DV,C0,DE,V.CP,V.CF,CJ,toCs,toC,ANq,M]
       | true=>rw[if_pos rfl]at M;refine CY (.mk 1) trivial ?_;refine SW.nil ?_;refine go @hw ?_;refine⟨⟨(j+1,n'),by simp only;omega,by simp only;omega,M⟩,by simp only;omega,?_⟩;exact DH
       rw[FA (by omega)]at M;simp only[AA.HU]at M;refine go @U4 ?_;simp[Xy,DV,C0,DE,V.CP,V.CF,CJ,toCs,toC,ANq,M]
theorem AVS (B H K M Q R:Int)(AE:List AA)(o:Int)(src:List Int)(h:AA.BX ⟨b0,b1,B,H,K,M,Q,R,AE,o,src⟩):b1.size<=maxLen/\(G src)<=maxLen/\AA.FY AE:=by simpa only[AA.BX]using h
theorem AJ8 : ∀(n:Nat) (b:AA),UF b<n->b.BX->∀(B c:Nat),B<=101->c+b.cnt<=1000000->AX AF 231 [.cp (AA.row b) 0,.c (.int .i64 ((B:Nat):Int)),.ptr 0 0] 3 [.int .i64 ((c:Nat):Int)] [.int .i64 ((AA.pv B b c).2:Int)] (.c (.bool (AA.pv B b c).1))
 | 0,b,h,_=>absurd h (by omega)
 | n+1,⟨b0,b1,K,M,Q,R,S,q,H,o,src⟩,hn,A5=>by
   obtain⟨o1,o2,o3⟩:=AVS b0 b1 K M Q R S q H o src A5;intro B c hd hc;exact AXL b0 b1 K M Q R S q H o src B c o1 o2 hd hc λk z=>AJ8 n k (by
    have:=gD z;simp only[AA.mk.sizeOf_spec]at hn;omega) (kl o3 k z)
theorem EL (h:b.BX)(hc:b.cnt<=1000000):AC AF 145 [Ao b] (.c (.bool b.Ad)):=by
 have B:=AJ8 (UF b+1) b (by omega) h 1 0 (by omega) (by omega);rw[<-AXK];obtain⟨⟨r,n⟩,H⟩:=AI (AA.pv 1 b 0);rw[H]at B ⊢;simp only at B ⊢;obtain⟨b0,b1,M,Q,R,S,q,z,K,o,src⟩:=b;simp only[Ao,AA.row,Ap,BB]at B ⊢;refine en func145 ntmps145 ?_;with_reducible refine AW.seq ?_
 with_reducible refine AW.region ?_
 with_reducible refine If (by simp[BY];first|exact rfl|exact⟨F,F⟩) ?_
 with_reducible refine Kz ?_
 with_reducible refine G3 ?_
 with_reducible refine AW.seq ?_
 with_reducible refine AW.region ?_
 with_reducible refine If (by simp[BY];first|exact rfl|exact⟨F,F⟩) ?_
 with_reducible refine Kz ?_
 with_reducible refine G3 ?_
 refine Cn 0 ?_;with_reducible refine AW.seq ?_
 with_reducible refine AW.DA ?_
 refine SW.pJ 1 B func231 (by kernel_rfl) (by kernel_rfl) (by simp[BQ]) (by simp[C7];first|exact rfl|exact⟨F,F⟩) (by simp[V.Dj,V.Di];try exact rfl) (by rfl) (by simp[toCs,toC]) ?_;refine CY (.mk 1) trivial ?_;refine SW.nil ?_;refine Ah ?_;exact At results145
theorem sb :AC AF 116 [.c (.int .i64 n)] (.c (.bool (An n))):=by
 by_cases h : -1073741824<=n;have e:An n=decide (n<=1073741824):=by unfold An;rw[decide_eq_true h,Cd]
 refine en LR ntmps116 ?_;refine go @h ?_;exact At (cj results116<| @e);have e:An n=false:=by unfold An;rw[decide_eq_false h,Bool.false_and]
 refine en LR ntmps116 ?_;refine go @h ?_;exact At (cj results116<| @e)
def Vw (n:Int):Int:=if n<0 then -n else n
theorem AKH (h : -9000000000000000000<=n)(H:n<=9000000000000000000):AC AF 184 [.c (.int .i64 n)] (.c (.int .i64 (Vw n))):=by
 by_cases B:n<0;have w:AZ.wrap (-n)= -n:=Ac;have e:Vw n= -n:=if_pos B;refine en Vk Vn ?_;refine go (cj @B<|@w) ?_;exact At (cj Vo<| @e);have e:Vw n=n:=if_neg B;refine en Vk Vn ?_;refine go @B ?_;exact At (cj Vo<| @e)
theorem AX8 (a b:Int)(ha : -4000000000000000000<=a)(A0:a<=4000000000000000000)(hb:b=100\/b=2\/b=18):AC AF 117 [.c (.int .i64 a),.c (.int .i64 b)] (.c (.int .i64 (Ea a b))):=by
 have S:=AKH a (by omega) (by omega);have B:=AKH b (by omega) (by omega);have e2:Vw b=b:=if_neg (by omega);rw[e2]at B;obtain⟨A,H⟩:=AI (Vw a);rw[H]at S;have Gr:0<=A/\A<=4000000000000000000:=by unfold Vw at H;split at H<;>omega
 have w1:AZ.wrap (2*A)=2*A:=Ac;have w2:AZ.wrap (2*A+b)=2*A+b:=Ac;have w3:AZ.wrap (2*b)=2*b:=Ac;have hq:(2*A+b).tdiv (2*b)=(2*A+b) / (2*b):=Int.tdiv_eq_ediv_of_nonneg (by omega);have q:0<=(2*A+b) / (2*b)/\(2*A+b) / (2*b)<=9000000000000000000:=by rcases hb with rfl|rfl|rfl<;>omega
 obtain⟨Q,K⟩:=AI ((2*A+b) / (2*b));have w4:AZ.wrap ((2*A+b).tdiv (2*b))=Q:=by rw[hq,K];rw[K]at q;exact Ac
 have nz : ¬2*b=0:=by omega
 have M : ¬b=0:=by omega
 have z : ¬b<0:=by omega
 by_cases R:a<0;have o:Ea a b= -Q:=by
  unfold Ea;rw[if_neg (by omega),<-K,<-H];simp only[Vw,if_pos R]
 have w5:AZ.wrap (-Q)= -Q:=by rw[K]at q;exact Ac
 refine en AQN ntmps117 ?_;refine Ah ?_;refine gc @w1 (S) Vk ?_;refine gc @w2 (B) Vk ?_;refine gc (cj3 @w3 @w4 @nz @M) (B) Vk ?_;refine go (cj2 @R @z @w5) ?_;exact At (cj nX<| @o);have o:Ea a b=Q:=by
  unfold Ea;rw[if_pos (by omega),<-K,<-H];simp only[Vw,if_neg R]
 refine en AQN ntmps117 ?_;refine Ah ?_;refine gc @w1 (S) Vk ?_;refine gc @w2 (B) Vk ?_;refine gc (cj3 @w3 @w4 @nz @M) (B) Vk ?_;refine go (cj @R<|@z) ?_;exact At (cj nX<| @o)
theorem AYA (n p:Int):AC AF 65 [.c (.int .i64 n),.c (.int .i64 p)] (.c (.int .i64 (AU n p))):=by
 cases B:An n with
 | false =>
   have H:AU n p=0:=by simp[AU,B]
   refine en Su ARV ?_;refine Ah ?_;refine gc @B (sb n) LR ?_;refine go @B ?_;exact At (cj UR<| @H)
 | true =>
   have M:=B;simp[An]at M;by_cases K:p<0;have H:AU n p=0:=by unfold AU;rw[if_neg];omega
   refine en Su ARV ?_;refine Ah ?_;refine gc (cj @B<|@K) (sb n) LR ?_;refine go @B ?_;exact At (cj UR<| @H);by_cases Q:10000<p;have H:AU n p=0:=by unfold AU;rw[if_neg];omega
   refine en Su ARV ?_;refine Ah ?_;refine gc (cj2 @B @K @Q) (sb n) LR ?_;refine go @B ?_;exact At (cj UR<| @H);have H:AU n p=Ea (n*p) 100:=by unfold AU;rw[if_pos ⟨B,by omega,by omega⟩]
   have S:=Qh n p 1073741824 10000 (by omega) (by omega) (by omega) (by omega);have R:AZ.wrap (n*p)=n*p:=Ac;refine en Su ARV ?_;refine Ah ?_;refine gc (cj2 @B @K @Q) (sb n) LR ?_;refine go (cj @B<|@R) ?_;refine BZ (AX8 (n*p) 100 (by omega) (by omega) (.inl F)) AQN ?_;refine Ah ?_;exact At (cj UR<| @H)
theorem AP1 :AC AF 216 [.c (.int .i64 n)] (.c (.int .i64 (Bm n))):=by
 cases B:An n with
 | false =>
   have H:Bm n=0:=by simp[Bm,B]
   refine en AIB ntmps216 ?_;refine Ah ?_;refine gc @B (sb n) LR ?_;refine go @B ?_;exact At (cj results216<| @H)
 | true =>
   have H:Bm n=Ea n 2:=by simp[Bm,B]
   have K:=B;simp[An]at K;refine en AIB ntmps216 ?_;refine Ah ?_;refine gc @B (sb n) LR ?_;refine go @B ?_;refine BZ (AX8 n 2 (by omega) (by omega) (.inr (.inl F))) AQN ?_;refine Ah ?_;exact At (cj results216<| @H)
theorem x6 :AC AF 200 [.c (.int .i64 n)] (.c (.int .i64 (Bm n))):=by
 refine en func200 ntmps200 ?_;refine Ah ?_;refine BZ (AP1 n) AIB ?_;refine Ah ?_;exact At results200
theorem Ke :AC AF 149 [.c (.int .i64 n)] (.c (.int .i64 (Bm n))):=by
 cases B:An n with
 | false =>
   have H:Bm n=0:=by simp[Bm,B]
   refine en AAS ntmps149 ?_;refine Ah ?_;refine gc @B (Ng n) L0 ?_;refine go @B ?_;exact At (cj results149<| @H)
 | true =>
   have H:Bm n=quot n 2:=by rw[AXV];simp[Bm,B]
   have K:=B;simp[An]at K;refine en AAS ntmps149 ?_;refine Ah ?_;refine gc @B (Ng n) L0 ?_;refine go @B ?_;refine BZ (AKG n 2 (by omega) (by omega) (.inr F)) func101 ?_;refine Ah ?_;exact At (cj results149<| @H)
theorem Gu (x y:Int)(H:G b.src<=1000000):AC AF 148 [Ao b,.c (.int .i64 x),.c (.int .i64 y)] (Ao (b.AS x y)):=by
 obtain⟨b0,b1,M,Q,R,S,q,z,K,o,src⟩:=b;have B:=pO src H;simp only[Ao,AA.AS,AA.row,Ap,BB];refine en func148 ntmps148 ?_;refine Ah ?_;refine BZ (B) func102 ?_;refine Ah ?_;exact At results148
theorem ABF (w h d:Int):AC AF 150 [.c (.int .i64 w),.c (.int .i64 h),.c (.int .i64 d)] (Ao (FV w h d)):=by
 simp only[Ao,FV,AA.row,AA.AG,Ap,BB];refine en func150 ntmps150 ?_;refine Ah ?_;exact At (cj results150<| @AV.eq_1)
theorem sD (n p q:Int):AC AF 151 [.c (.int .i64 n),.c (.int .i64 q),.cp [.int .i64 p] 0] (.c (.int .i64 (AU (AU n p) q))):=by
 refine en func151 ntmps151 ?_;refine Ah ?_;refine BZ (EI n p) ID ?_;refine BZ (EI (AU n p) q) ID ?_;refine Ah ?_;exact At results151
@[simp] theorem AP.AiD (f:AP):f.vs[17]?=J (.c (.int .i64 f.params.script)):=F
@[simp] theorem AP.Ah0 (f:AP)(h:17<G f.vs):f.vs[17]'h=.c (.int .i64 f.params.script):=F
@[simp] theorem AP.AiE (f:AP):f.vs[18]?=J (.c (.int .i64 f.params.Qr)):=F
@[simp] theorem AP.Ah1 (f:AP)(h:18<G f.vs):f.vs[18]'h=.c (.int .i64 f.params.Qr):=F
def AA.vs (b:AA):List V:=b.row.map V.c
theorem As (b:AA):Ao b=.agg b.vs:=F
section
variable (b:AA)
@[simp] theorem AA.Xf:G b.vs=11:=by cases b;rfl
@[simp] theorem AA.ACP:b.vs.all V.one=true:=by cases b;rfl
@[simp] theorem AA.ACR:b.vs.take 11=b.vs:=Gl (by simp)
@[simp] theorem AA.ACN:b.vs[0]?=J (.c (.int .i64 b.kind)):=by cases b;rfl
@[simp] theorem AA.ACG (h:0<G b.vs):b.vs[0]'h=.c (.int .i64 b.kind):=by cases b;rfl
@[simp] theorem AA.ACO:b.vs[3]?=J (.c (.int .i64 b.w)):=by cases b;rfl
@[simp] theorem AA.ACI (h:3<G b.vs):b.vs[3]'h=.c (.int .i64 b.w):=by cases b;rfl
@[simp] theorem AA.Aad:b.vs[4]?=J (.c (.int .i64 b.h)):=by cases b;rfl
@[simp] theorem AA.AaV (h:4<G b.vs):b.vs[4]'h=.c (.int .i64 b.h):=by cases b;rfl
@[simp] theorem AA.Aae:b.vs[5]?=J (.c (.int .i64 b.d)):=by cases b;rfl
@[simp] theorem AA.AaW (h:5<G b.vs):b.vs[5]'h=.c (.int .i64 b.d):=by cases b;rfl
@[simp] theorem AA.Aaf:b.vs[6]?=J (.c (.int .i64 b.x)):=by cases b;rfl
@[simp] theorem AA.AaX (h:6<G b.vs):b.vs[6]'h=.c (.int .i64 b.x):=by cases b;rfl
@[simp] theorem AA.Aag:b.vs[7]?=J (.c (.int .i64 b.y)):=by cases b;rfl
@[simp] theorem AA.AaY (h:7<G b.vs):b.vs[7]'h=.c (.int .i64 b.y):=by cases b;rfl
@[simp] theorem AA.Aah:b.vs[8]?=J (.c (.sl (AA.AG b.AE))):=by cases b;rfl
@[simp] theorem AA.AaZ (h:8<G b.vs):b.vs[8]'h=.c (.sl (AA.AG b.AE)):=by cases b;rfl
@[simp] theorem AA.tX:V.CF b.vs=J b.vs:=Zq b.row
@[simp] theorem AA.ACS:toCs b.vs=J b.row:=toCs_c b.row
@[simp] theorem AA.AL9 (cs:List V)(h:G cs=11):E8 cs 0 b.vs=b.vs:=kz (by simp[h])
@[simp] theorem AA.Nk:G b.row=11:=by cases b;rfl
@[simp] theorem AA.ABb:b.row.map V.c=b.vs:=F
@[simp] theorem AA.AKV:b.row.take 11=b.row:=Gl (by simp)
@[simp] theorem AA.tW (n:Nat):V.BI n b.vs=true:=by cases b;simp[AA.vs,AA.row,V.BI,V.A8]
end
def IT (f:AP)(s:Aa):Int×Int:=if s.ok=U\/f.valid=U then(0,1)else(BS f.params s,0)
theorem LI (f:AP)(s:Aa):AC AF 43 [.agg f.vs,Aj s] (.A7 [.c (.int .i64 (IT f s).1),AR (IT f s).2]):=by
 have B:=fI s;have H:=Ma f;cases K:s.ok with
 | false=>have e:IT f s=(0,1):=if_pos (.inl K);rw[e];rw[K]at B;unfold Aj at B ⊢;refine en eS AMf ?_;refine Ah ?_;refine BZ (B) AAp ?_;refine Ah ?_;exact At (cj AOK<| @AR.eq_1)
 | true =>
   rw[K]at B;cases R:f.valid with
   | false=>have e:IT f s=(0,1):=if_pos (.inr R);rw[e];rw[R]at H;unfold Aj at B ⊢;refine en eS AMf ?_;refine Ah ?_;refine BZ (B) AAp ?_;refine BZ (H) DC ?_;refine Ah ?_;exact At (cj AOK<| @AR.eq_1)
   | true =>
     rw[R]at H;have e:IT f s=(BS f.params s,0):=if_neg (by simp[K,R]);rw[e];have S:BS f.params s=if s.By=2 then f.params.script else if s.By=3 then f.params.Qr else 100:=if_neg (by simp[K])
     rw[S];clear e S;unfold Aj at B ⊢;by_cases M:s.By=2;refine en eS AMf ?_;refine Ah ?_;refine BZ (B) AAp ?_;refine BZ (H) DC ?_;refine go @M ?_;exact At (cj2 AOK @AR.eq_1 @M);by_cases Q:s.By=3;refine en eS AMf ?_;refine Ah ?_;refine BZ (B) AAp ?_;refine BZ (H) DC ?_;refine go @Q ?_;exact At (cj2 AOK @AR.eq_1 @Q);refine en eS AMf ?_;refine Ah ?_;refine BZ (B) AAp ?_;refine BZ (H) DC ?_;refine go (cj @M<|@Q) ?_;exact At (cj3 AOK @AR.eq_1 @M @Q)
theorem x7 (f:AP)(s:Aa):AC AF 118 [.agg f.vs,Aj s] (.c (.int .i64 (BS f.params s))):=by
 have H:=AAA s;cases B:s.ok with
 | false=>have e:BS f.params s=0:=if_pos B;rw[e];rw[B]at H;unfold Aj at H ⊢;refine en ug ntmps118 ?_;refine Ah ?_;refine BZ (H) AF8 ?_;refine Ah ?_;exact At results118
 | true =>
   rw[B]at H;have K:BS f.params s=if s.By=2 then f.params.script else if s.By=3 then f.params.Qr else 100:=if_neg (by simp[B])
   rw[K];have M:s.By=0\/s.By=1\/s.By=2\/s.By=3:=by simp[Aa.ok]at B;omega
   obtain⟨l,c⟩:=s;simp only at M ⊢;unfold Aj at H ⊢;clear K B;rcases M with rfl|rfl|rfl|rfl
   all_goals
    refine en ug ntmps118 ?_;refine Ah ?_;refine BZ (H) AF8 ?_;refine Ah ?_;exact At results118
theorem Jp (f:AP)(s:Aa)(n:Int):AC AF 196 [.agg f.vs,Aj s,.c (.int .i64 n)] (.c (.int .i64 (AU n (BS f.params s)))):=by
 have h:=x7 f s;unfold Aj at h ⊢;refine en func196 ntmps196 ?_;refine Ah ?_;refine BZ (h) ug ?_;refine BZ (AYA n (BS f.params s)) Su ?_;refine Ah ?_;exact At results196
def C8 (b:AA):AA×Int:=if b.Ad=I then(b,0)else(AA.zero,6)
theorem Fl:AA.zero.vs=[.c (.int .i64 0),.c (.str ⟨#[]⟩),.c (.int .i64 0),.c (.int .i64 0),.c (.int .i64 0),.c (.int .i64 0),.c (.int .i64 0),.c (.int .i64 0),.c (.sl []),.c (.int .i64 0),.c (.sl [])]:=F
theorem Xn (K:b.BX)(H:b.cnt<=1000000):AC AF 201 [Ao b] (Ba (C8 b)):=by
 have h:=m7 b K H;cases B:b.Ad with
 | false=>have e:C8 b=(AA.zero,6):=if_neg (by simp[B]);rw[e];rw[B]at h;simp only[As,Ba,AR]at h ⊢;refine en func201 ntmps201 ?_;refine Ah ?_;refine BZ (h) nC ?_;refine Ah ?_;exact At (cj results201<| @Fl)
 | true=>have e:C8 b=(b,0):=if_pos B;rw[e];rw[B]at h;simp only[As,Ba,AR]at h ⊢;refine en func201 ntmps201 ?_;refine Ah ?_;refine BZ (h) nC ?_;refine Ah ?_;exact At results201
theorem AKZ (l:List AA)(k:Nat)(h:k<G l):AA.AG (l.take (k+1))=AA.AG (l.take k)++[(l[k]).row]:=by
 rw[Dt,Dt,List.take_succ_eq_append_getElem h,List.map_append];rfl
def Fy (w h d:Int)(AE:V):List V:=[.c (.int .i64 3),.c (.str ⟨#[]⟩),.c (.int .i64 0),.c (.int .i64 w),.c (.int .i64 h),.c (.int .i64 d),.c (.int .i64 0),.c (.int .i64 0),AE,.c (.int .i64 0),.Bg []]
theorem My (w h d:Int)(AE:List AA)(hd:AA.JH AE)(hc:AA.Az AE<999999):AC AF 55 [.c (.int .i64 w),.c (.int .i64 h),.c (.int .i64 d),.c (.sl (AA.AG AE))] (Ao (Bf w h d AE)):=by
 have Ce:=Ud AE;have z:Ao (Bf w h d AE)=.agg [.c (.int .i64 3),.c (.str ⟨#[]⟩),.c (.int .i64 0),.c (.int .i64 w),.c (.int .i64 h),.c (.int .i64 d),.c (.int .i64 0),.c (.int .i64 0),.c (.sl (AA.AG AE)),.c (.int .i64 0),.c (.sl [])]:=by simp[Ao,Bf,AA.row,AV]
 rw[z];clear z;obtain⟨M,Q⟩:=AI (AA.AG AE);have K:G M=G AE:=by rw[<-Q,Dt];simp
 rw[Q];refine en func55 ntmps55 ?_;refine Ah ?_;refine AW.le (Le.T4 1 8 41 11 rfl F) ?_;simp only[BA,BO,Nat.reduceAdd,Ag,Ai,BK,BU];refine lp (ι:={ k:Nat // k<=G AE }) (λk=>[(18,.c (.int .i64 (k.1:Int)))]) (λk=>[.box 41 BT U,.box 41 (Fy w h d (.gr 2 11 (AA.AG (AE.take k.1)))) U,.tok 41 11 k.1]) (λk=>G AE - k.1) ⟨0,by simp⟩ ?_ ?_;all_goals simp only[CG,Bw,CO,Ag,Ai]
 exact ER (cj3 @BT.eq_1 @Fy.eq_1 @AA.AG.eq_1 @AA.AG.eq_2);rintro ⟨k,hk⟩;simp only;by_cases B:k<G AE;obtain⟨c,H⟩:=AI (AE[k]);have R:M[k]?=J c.row:=by rw[<-Q,Dt,CM,BE B,H];rfl
 have Bu : ∀o:k<G M,M[k]'o=c.row:=by intro o;rw[BE o]at R;exact ML R
 have yu:c.Fq:=pX AE k c hd (by rw[BE B,H]);have FX:=bj AE k c (by rw[BE B,H]);have q:=pW c yu (by omega);rw[As]at q;have hw:AZ.wrap ((k:Int)+1)=((k+1:Nat):Int):=by rw[Ac];simp
 have FO:k+1<=maxLen:=by unfold maxLen;omega
 have EX:(k+1)*128<=140737488355328:=by omega
 have GP:G (AA.AG (AE.take k))=k:=by rw[Dt];simp;omega
 have S:AA.AG (AE.take (k+1))=AA.AG (AE.take k)++[c.row]:=by rw[AKZ AE k B,H]
 have Dp:k<G M:=by omega
 refine go (cj6 @K @B @R @Bu @Dp @Fy.eq_1 @BT.eq_1) ?_;refine gc (cj3 @FO @EX @GP @Fy.eq_1) (q) func103 ?_;refine go @hw ?_;refine⟨⟨k+1,by omega⟩,by simp only;omega,?_⟩;refine Le.MI 3 (F2 F) (by simp[DG,BT,Fy,S,K]) (by simp[BT,Fy,S,K]) (by simp[V.BI,V.A8]) (by simp[O.A8,V.BI,V.A8,BT,Fy,S,K]);have e:AE.take k=AE:=Gl (by omega);rw[e,Q];refine go (cj3 @K @B @Fy.eq_1 @BT.eq_1) ?_;exact At results55
def eb (f:AP)(s:Aa)(l:List AA):Int:=if f.valid=U\/s.ok=U\/l.all AA.Ad=U then 1 else 0
theorem pe (f:AP)(s:Aa)(l:List AA)(hf:f.Fit)(ho : ∀b∈l,b.BX/\b.cnt<=1000000)(hl:G l<=1000000):AC AF 195 [.agg f.vs,Aj s,.c (.sl (AA.AG l))] (.c (.int .i64 (eb f s l))):=by
 have S:=ba f hf;have R:=AAA s;obtain⟨o,Aw⟩:=AI (AA.AG l);have Av:G o=G l:=by rw[<-Aw,Dt];simp
 rw[Aw];unfold Aj at R ⊢;cases z:f.valid with
 | false=>rw[z]at S;have e:eb f s l=1:=if_pos (.inl z);rw[e];refine en Vl aT ?_;refine Ah ?_;refine BZ (S) IB ?_;refine Ah ?_;exact At HY
 | true =>
   rw[z]at S;cases h2:s.ok with
   | false=>rw[h2]at R;have e:eb f s l=1:=if_pos (.inr (.inl h2));rw[e];refine en Vl aT ?_;refine Ah ?_;refine BZ (S) IB ?_;refine BZ (R) AF8 ?_;refine Ah ?_;exact At HY
   | true =>
     rw[h2]at R;have e:eb f s l=if l.all AA.Ad=I then 0 else 1:=by
      unfold eb;rw[z,h2];cases l.all AA.Ad<;>simp
     rw[e];clear e;refine en Vl aT ?_;refine Ah ?_;refine BZ (S) IB ?_;refine BZ (R) AF8 ?_;refine Ah ?_;refine lp (ι:={ k:Nat // k<=G l/\l.all AA.Ad=(l.drop k).all AA.Ad }) (λk=>[(6,.c (.int .i64 0)),(7,.c (.int .i64 (k.1:Int)))]) (λk=>[.box 27 f.vs U,.box 35 [.c (.int .i64 s.By),.c (.bool s.Hd)] U]) (λk=>G l - k.1) ⟨0,by simp⟩ ?_ ?_;all_goals simp only[CG,Bw,CO,Ag,Ai]
     exact DH;rintro ⟨k,hk,H⟩;simp only;by_cases B:k<G l;obtain⟨c,K⟩:=AI (l[k]);have q:o[k]?=J c.row:=by rw[<-Aw,Dt,CM,BE B,K];rfl
     have Dp:k<G o:=by omega
     have Bu : ∀hx:k<G o,o[k]'hx=c.row:=by intro hx;rw[BE hx]at q;exact ML q
     obtain⟨o1,o2⟩:=ho c (K ▸ Kq B);have Q:=m7 c o1 o2;rw[As]at Q;rw[D5 B,K,Ep]at H;have hw:AZ.wrap ((k:Int)+1)=((k+1:Nat):Int):=by rw[Ac];simp
     cases M:c.Ad with
     | false=>rw[M]at Q H;refine go (cj4 @Av @B @q @Bu @Dp) ?_;refine BZ (Q) nC ?_;refine Ah ?_;exact At (cj HY<| @H)
     | true=>rw[M,Cd]at H;rw[M]at Q;refine go (cj4 @Av @B @q @Bu @Dp) ?_;refine BZ (Q) nC ?_;refine go @hw ?_;refine⟨⟨k+1,by omega,H⟩,by simp only;omega,?_⟩;exact DH
     rw[FA (by omega),List.all_nil]at H;refine go (cj @Av<|@B) ?_;exact At (cj HY<| @H)
end Go.Proofs.YtglaipbdiofkfaaGreat
