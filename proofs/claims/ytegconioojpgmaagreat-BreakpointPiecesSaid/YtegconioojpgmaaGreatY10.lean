/- Part of the proof of breakpointPieces.proved. Conditions: none. -/
import Derived.Test.YtegconioojpgmaaGreatY6
import Derived.Test.YtegconioojpgmaaGreatY7
import Derived.Test.YtegconioojpgmaaGreatY8
set_option linter.unusedVariables false
set_option linter.unusedSimpArgs false
set_option maxRecDepth 100000
set_option maxHeartbeats 16000000
open Go.Proofs.Tryz renaming prog->AF,func266->uo,ntmps266->vk,results266->aV,func293->AGj,func294->AKD,func211->AFX,results211->AGT,func167->AFL,func117->AQN,results117->nX,func155->nk,func118->ug,func79->ALN,ntmps79->AM8,results79->AOv,func248->APg,results248->vO,func171->vR,func61->Xs,func33->nI,func32->gp,ntmps32->ASZ,func31->vW,results32->vS,func30->IP,func80->AGA,ntmps80->AGJ,func19->AEJ,results80->AGZ,func202->Xk,results233->ANr,func141->Aan,func227->AIo,func36->Sr,results227->Abk,func206->nl,ntmps206->AiZ,results206->Aiq,func209->AEN,func268->Aca,func291->APk,func162->AFG,results213->Abg,func258->gH,ntmps258->gV,results258->Xr,func207->APM,results207->Akv,func165->Aao,func259->um,func174->Jy,results174->ARs,func164->AFH,ntmps164->AGD,results164->AGQ,results113->vI,results179->vK,results214->uw,func176->L6,results176->AG8
open Go.IntKind renaming i64->AZ
open List renaming length_nil->BO,replicate->Aq,finRange->ACu,flatMap_append->AMd,replicate_succ'->Sj,eq_of_mem_replicate->UA,flatten_append->Vd,mem_flatten->gA,map->Vf,take_length->Sn,flatten_nil->RC,map_map->M7
open SizeOf renaming sizeOf->UF
open Int renaming mul_comm->fu,natCast_zero->AMX,mul_nonneg->RB
open Nat renaming sub_self->La
open Go.Op renaming operands->Bl
open Go.Call renaming operands->Df
open Option renaming some->J,none->E
open Bool renaming false->U,true->I
open List renaming length->G
namespace Go.Proofs.YtegconioojpgmaaGreat
open Go.RowKit Tryz
variable {i:Nat}(b0:Int)(b:AA)(n:Int)(b1:ByteArray)(r:Int)(k:Nat)(l:List CR)(o:Int)(src:List Int)
def AA.AS (b:AA)(x y:Int):AA:={ b with x:=x,y:=y }
theorem AKJ (x y:Int):AC AF 230 [Ao b,x,y] (Ao (b.AS x y)):=by
 obtain⟨b0,b1,H,M,Q,R,S,q,B,o,src⟩:=b;simp only[Ao,AA.AS,AA.row,Ap,BB];refine en func230 ntmps230 ?_;refine Ah ?_;exact At results230
def FV (w h d:Int):AA:=⟨2,⟨#[]⟩,0,w,h,d,0,0,[],0,[]⟩
def Bf (w h d:Int)(AE:List AA):AA:=⟨3,⟨#[]⟩,0,w,h,d,0,0,AE,0,[]⟩
theorem Ajn (w h d:Int):AC AF 231 [w,h,d] (Ao (FV w h d)):=by
 simp only[Ao,FV,AA.row,AA.AG,Ap,BB];refine en func231 ntmps231 ?_;refine Ah ?_;exact At (cj results231<| @AV.eq_1)
theorem aY (w h d:Int)(AE:List AA)(M:G AE<=1000000):AC AF 234 [w,h,d,.c (.sl (AA.AG AE))] (Ao (Bf w h d AE)):=by
 have H:G (AA.AG AE)=G AE:=by rw[Dt];simp
 have f1:G AE<=maxLen:=by unfold maxLen;omega
 have f2:G AE*128<=140737488355328:=Ux;have B:(∀x:List C,x∈AA.AG AE->G x=11)↔True:=⟨λ_=>trivial,λ_=>lE AE⟩
 simp only[Ao,Bf,AA.row,AA.AG,Ap,BB];refine en func234 ntmps234 ?_;with_reducible refine AW.seq ?_
 with_reducible refine AW.region ?_
 with_reducible refine If (by simp[BY];first|exact rfl|exact⟨F,F⟩) ?_
 with_reducible refine Kz ?_
 with_reducible refine G3 ?_
 with_reducible refine AW.seq ?_
 refine Og (.mk 3) trivial ?_;refine SW.OU (λv t=>t=E/\v=.Bg []) (by simp[BQ]) ?_ ?_;intro Q S x a w g R M;exact⟨_,_,λ_ _ h=>(by cases h),⟨F,F⟩,AIv g rfl (Ae:=56) (es:=11) (Bq:=128) ZA⟩;rintro v t ⟨rfl,rfl⟩;refine CY (.mk 4) (cj3 @f1 @f2 @H @B) ?_;refine SW.nil ?_;refine Ah ?_;exact At (cj results234<| @AV.eq_1)
theorem AWw (B Q R S q b7:Int)(AE:List AA)(o:Int)(src:List Int)(hn:b1.size<=maxLen)(hs:G src<=maxLen)(Ce:G AE<=1000000):AC AF 266 [.cp (AA.row ⟨1,b1,B,Q,R,S,q,b7,AE,o,src⟩) 0] (.c (.bool (AA.Cl ⟨1,b1,B,Q,R,S,q,b7,AE,o,src⟩))):=by
 have Gt:=Zn (1) b1 B Q R S q b7 AE o src hs;obtain⟨SB,J5⟩:=AI (AA.Js ⟨1,b1,B,Q,R,S,q,b7,AE,o,src⟩);rw[J5]at Gt;obtain⟨KB,J4⟩:=AI (AA.Fi ⟨1,b1,B,Q,R,S,q,b7,AE,o,src⟩);obtain⟨L,hL⟩:∃L,L=[Q,R,S,q,b7]:=⟨_,rfl⟩
 have Io:G L=5:=by rw[hL];rfl
 have hR:AA.Cl ⟨1,b1,B,Q,R,S,q,b7,AE,o,src⟩=(L.all An && (KB && SB)):=by
  simp only[AA.Cl,J5,J4,AA.lens,hL]
 have A0:KB=AA.Fi ⟨1,b1,B,Q,R,S,q,b7,AE,o,src⟩:=J4.symm;rw[hR];have Av:G (AA.AG AE)=G AE:=by rw[Dt];simp
 simp only[AA.row]at Gt ⊢;refine en uo vk ?_;refine Ah ?_;refine CX (ι:={ k:Nat // k<=5/\L.all An=(L.drop k).all An }) (λk=>[(25,.agg (L.map λn=>.c (.int .i64 n))),(26,(k.1:Int)),(2,.c (.bool U))]) (λ_=>[]) (λk=>5 - k.1) ⟨0,ZA⟩ ?_ ?_;exact ER @hL;rintro ⟨i,hi,hA⟩;by_cases A2:i<5;have Dn:i<G L:=Ux;have H:(i:Int)<5:=Ux;rw[D5 Dn,Ep]at hA;obtain⟨z,hz⟩:=AI (L[i]);have F7:L[i]?=J z:=by rw[BE Dn,hz]
 rw[hz]at hA;have hw:AZ.wrap ((i:Int)+1)=((i+1:Nat):Int):=by rw[Ac];simp
 by_cases h1:z < -1073741824;have e:L.all An=false:=by rw[hA];simp[An];omega
 refine go (cj2 @H @F7 @h1) ?_;exact At (cj2 aV @hR @e);by_cases h2:1073741824<z;have e:L.all An=false:=by rw[hA];simp[An];omega
 refine go (cj3 @H @F7 @h1 @h2) ?_;exact At (cj2 aV @hR @e);have e:L.all An=(L.drop (i+1)).all An:=by
  have:An z=true:=by simp[An];omega
  rw[hA,this,Cd]
 refine go (cj4 @H @F7 @h1 @h2 @hw) ?_;refine⟨⟨i+1,Ux,e⟩,by simp only;omega,?_⟩;exact DH;have Au:L.all An=true:=by rw[hA,FA Ux];rfl
 have H : ¬(i:Int)<5:=Ux;have hA:=Au;have Hy:=ANx b1 hn;have LB:KB=(Ck b1 && (decide (1<=B) && (decide (B<=1000) && decide (G AE=0)))):=A0;cases II:Ck b1 with
 | false=>rw[II]at Hy LB;have M:KB=false:=LB;refine go @H ?_;refine BZ (Hy) AGj ?_;refine Ah ?_;exact At (cj2 aV @hR @M)
 | true =>
   rw[II]at Hy LB;by_cases s1:1<=B;by_cases s2:B<=1000;by_cases s3:G AE=0;have M:KB=true:=by rw[LB];simp[s1,s2];exact Nr Ux
   refine go @H ?_;refine gc (cj3 @s1 @s2 @s3 @Av) (Hy) AGj ?_;refine BZ (Gt) AKD ?_;refine Ah ?_;exact At (cj3 aV @hR @M @hA);have M:KB=false:=by rw[LB];simp[s1,s2];intro h;rw[h]at s3;simp at s3
   have A1 : ¬((G AE:Nat):Int)=0:=Ux;refine go @H ?_;refine gc (cj4 @s1 @s2 @s3 @Av @A1) (Hy) AGj ?_;refine Ah ?_;exact At (cj2 aV @hR @M);have M:KB=false:=by rw[LB];simp[s2]
   refine go @H ?_;refine gc (cj @s1<|@s2) (Hy) AGj ?_;refine Ah ?_;exact At (cj2 aV @hR @M);have M:KB=false:=by rw[LB];simp[s1]
   refine go @H ?_;refine gc @s1 (Hy) AGj ?_;refine Ah ?_;exact At (cj2 aV @hR @M)
theorem AWx (B H M Q R S:Int)(AE:List AA)(o:Int)(src:List Int)(n1:b1=⟨#[]⟩)(s0:B=0)(s3:G AE=0)(hn:b1.size<=maxLen)(hs:G src<=maxLen)(Ce:G AE<=1000000):AC AF 266 [.cp (AA.row ⟨2,b1,B,H,M,Q,R,S,AE,o,src⟩) 0] (.c (.bool (AA.Cl ⟨2,b1,B,H,M,Q,R,S,AE,o,src⟩))):=by
 have Gt:=Zn (2) b1 B H M Q R S AE o src hs;obtain⟨SB,J5⟩:=AI (AA.Js ⟨2,b1,B,H,M,Q,R,S,AE,o,src⟩);rw[J5]at Gt;obtain⟨KB,J4⟩:=AI (AA.Fi ⟨2,b1,B,H,M,Q,R,S,AE,o,src⟩);obtain⟨L,hL⟩:∃L,L=[H,M,Q,R,S]:=⟨_,rfl⟩
 have Io:G L=5:=by rw[hL];rfl
 have hR:AA.Cl ⟨2,b1,B,H,M,Q,R,S,AE,o,src⟩=(L.all An && (KB && SB)):=by
  simp only[AA.Cl,J5,J4,AA.lens,hL]
 have A0:KB=AA.Fi ⟨2,b1,B,H,M,Q,R,S,AE,o,src⟩:=J4.symm;rw[hR];have Av:G (AA.AG AE)=G AE:=by rw[Dt];simp
 simp only[AA.row]at Gt ⊢;refine en uo vk ?_;refine Ah ?_;refine CX (ι:={ k:Nat // k<=5/\L.all An=(L.drop k).all An }) (λk=>[(25,.agg (L.map λn=>.c (.int .i64 n))),(26,(k.1:Int)),(2,.c (.bool U))]) (λ_=>[]) (λk=>5 - k.1) ⟨0,ZA⟩ ?_ ?_;exact ER @hL;rintro ⟨i,hi,q⟩;by_cases A1:i<5;have Dn:i<G L:=Ux;have BD:(i:Int)<5:=Ux;rw[D5 Dn,Ep]at q;obtain⟨z,hz⟩:=AI (L[i]);have F7:L[i]?=J z:=by rw[BE Dn,hz]
 rw[hz]at q;have hw:AZ.wrap ((i:Int)+1)=((i+1:Nat):Int):=by rw[Ac];simp
 by_cases h1:z < -1073741824;have e:L.all An=false:=by rw[q];simp[An];omega
 refine go (cj2 @BD @F7 @h1) ?_;exact At (cj2 aV @hR @e);by_cases h2:1073741824<z;have e:L.all An=false:=by rw[q];simp[An];omega
 refine go (cj3 @BD @F7 @h1 @h2) ?_;exact At (cj2 aV @hR @e);have e:L.all An=(L.drop (i+1)).all An:=by
  have:An z=true:=by simp[An];omega
  rw[q,this,Cd]
 refine go (cj4 @BD @F7 @h1 @h2 @hw) ?_;refine⟨⟨i+1,Ux,e⟩,by simp only;omega,?_⟩;exact DH;have Au:L.all An=true:=by rw[q,FA Ux];rfl
 have BD : ¬(i:Int)<5:=Ux;have q:=Au;subst n1 s0;have hK:KB=true:=by rw[A0];simp[AA.Fi];exact Nr Ux
 refine go (cj2 @BD @s3 @Av) ?_;refine BZ (Gt) AKD ?_;refine Ah ?_;exact At (cj3 aV @hR @hK @q)
theorem AWy (B H M Q R S:Int)(AE:List AA)(o:Int)(src:List Int)(n1:b1=⟨#[]⟩)(s0:B=0)(s3 : ¬G AE=0)(hn:b1.size<=maxLen)(hs:G src<=maxLen)(Ce:G AE<=1000000):AC AF 266 [.cp (AA.row ⟨2,b1,B,H,M,Q,R,S,AE,o,src⟩) 0] (.c (.bool (AA.Cl ⟨2,b1,B,H,M,Q,R,S,AE,o,src⟩))):=by
 have Gt:=Zn (2) b1 B H M Q R S AE o src hs;obtain⟨SB,J5⟩:=AI (AA.Js ⟨2,b1,B,H,M,Q,R,S,AE,o,src⟩);rw[J5]at Gt;obtain⟨KB,J4⟩:=AI (AA.Fi ⟨2,b1,B,H,M,Q,R,S,AE,o,src⟩);obtain⟨L,hL⟩:∃L,L=[H,M,Q,R,S]:=⟨_,rfl⟩
 have Io:G L=5:=by rw[hL];rfl
 have hR:AA.Cl ⟨2,b1,B,H,M,Q,R,S,AE,o,src⟩=(L.all An && (KB && SB)):=by
  simp only[AA.Cl,J5,J4,AA.lens,hL]
 have A0:KB=AA.Fi ⟨2,b1,B,H,M,Q,R,S,AE,o,src⟩:=J4.symm;rw[hR];have Av:G (AA.AG AE)=G AE:=by rw[Dt];simp
 simp only[AA.row]at Gt ⊢;refine en uo vk ?_;refine Ah ?_;refine CX (ι:={ k:Nat // k<=5/\L.all An=(L.drop k).all An }) (λk=>[(25,.agg (L.map λn=>.c (.int .i64 n))),(26,(k.1:Int)),(2,.c (.bool U))]) (λ_=>[]) (λk=>5 - k.1) ⟨0,ZA⟩ ?_ ?_;exact ER @hL;rintro ⟨i,hi,q⟩;by_cases A2:i<5;have Dn:i<G L:=Ux;have BD:(i:Int)<5:=Ux;rw[D5 Dn,Ep]at q;obtain⟨z,hz⟩:=AI (L[i]);have F7:L[i]?=J z:=by rw[BE Dn,hz]
 rw[hz]at q;have hw:AZ.wrap ((i:Int)+1)=((i+1:Nat):Int):=by rw[Ac];simp
 by_cases h1:z < -1073741824;have e:L.all An=false:=by rw[q];simp[An];omega
 refine go (cj2 @BD @F7 @h1) ?_;exact At (cj2 aV @hR @e);by_cases h2:1073741824<z;have e:L.all An=false:=by rw[q];simp[An];omega
 refine go (cj3 @BD @F7 @h1 @h2) ?_;exact At (cj2 aV @hR @e);have e:L.all An=(L.drop (i+1)).all An:=by
  have:An z=true:=by simp[An];omega
  rw[q,this,Cd]
 refine go (cj4 @BD @F7 @h1 @h2 @hw) ?_;refine⟨⟨i+1,Ux,e⟩,by simp only;omega,?_⟩;exact DH;have Au:L.all An=true:=by rw[q,FA Ux];rfl
 have BD : ¬(i:Int)<5:=Ux;have q:=Au;subst n1 s0;have hK:KB=false:=by rw[A0];simp[AA.Fi];intro h;rw[h]at s3;simp at s3
 have A1 : ¬((G AE:Nat):Int)=0:=Ux;refine go (cj3 @BD @s3 @Av @A1) ?_;exact At (cj2 aV @hR @hK)
theorem AWz (B H M Q R S:Int)(AE:List AA)(o:Int)(src:List Int)(n1:b1=⟨#[]⟩)(s0 : ¬B=0)(hn:b1.size<=maxLen)(hs:G src<=maxLen)(Ce:G AE<=1000000):AC AF 266 [.cp (AA.row ⟨2,b1,B,H,M,Q,R,S,AE,o,src⟩) 0] (.c (.bool (AA.Cl ⟨2,b1,B,H,M,Q,R,S,AE,o,src⟩))):=by
 have Gt:=Zn (2) b1 B H M Q R S AE o src hs;obtain⟨SB,J5⟩:=AI (AA.Js ⟨2,b1,B,H,M,Q,R,S,AE,o,src⟩);rw[J5]at Gt;obtain⟨KB,J4⟩:=AI (AA.Fi ⟨2,b1,B,H,M,Q,R,S,AE,o,src⟩);obtain⟨L,hL⟩:∃L,L=[H,M,Q,R,S]:=⟨_,rfl⟩
 have Io:G L=5:=by rw[hL];rfl
 have hR:AA.Cl ⟨2,b1,B,H,M,Q,R,S,AE,o,src⟩=(L.all An && (KB && SB)):=by
  simp only[AA.Cl,J5,J4,AA.lens,hL]
 have A0:KB=AA.Fi ⟨2,b1,B,H,M,Q,R,S,AE,o,src⟩:=J4.symm;rw[hR];have Av:G (AA.AG AE)=G AE:=by rw[Dt];simp
 simp only[AA.row]at Gt ⊢;refine en uo vk ?_;refine Ah ?_;refine CX (ι:={ k:Nat // k<=5/\L.all An=(L.drop k).all An }) (λk=>[(25,.agg (L.map λn=>.c (.int .i64 n))),(26,(k.1:Int)),(2,.c (.bool U))]) (λ_=>[]) (λk=>5 - k.1) ⟨0,ZA⟩ ?_ ?_;exact ER @hL;rintro ⟨i,hi,q⟩;by_cases A1:i<5;have Dn:i<G L:=Ux;have BD:(i:Int)<5:=Ux;rw[D5 Dn,Ep]at q;obtain⟨z,hz⟩:=AI (L[i]);have F7:L[i]?=J z:=by rw[BE Dn,hz]
 rw[hz]at q;have hw:AZ.wrap ((i:Int)+1)=((i+1:Nat):Int):=by rw[Ac];simp
 by_cases h1:z < -1073741824;have e:L.all An=false:=by rw[q];simp[An];omega
 refine go (cj2 @BD @F7 @h1) ?_;exact At (cj2 aV @hR @e);by_cases h2:1073741824<z;have e:L.all An=false:=by rw[q];simp[An];omega
 refine go (cj3 @BD @F7 @h1 @h2) ?_;exact At (cj2 aV @hR @e);have e:L.all An=(L.drop (i+1)).all An:=by
  have:An z=true:=by simp[An];omega
  rw[q,this,Cd]
 refine go (cj4 @BD @F7 @h1 @h2 @hw) ?_;refine⟨⟨i+1,Ux,e⟩,by simp only;omega,?_⟩;exact DH;have Au:L.all An=true:=by rw[q,FA Ux];rfl
 have BD : ¬(i:Int)<5:=Ux;have q:=Au;have hK:KB=false:=by rw[A0];simp[AA.Fi,s0]
 subst n1;refine go (cj @BD<|@s0) ?_;exact At (cj2 aV @hR @hK)
theorem AW0 (S B H M Q R:Int)(AE:List AA)(o:Int)(src:List Int)(n1 : ¬b1=⟨#[]⟩)(hn:b1.size<=maxLen)(hs:G src<=maxLen)(Ce:G AE<=1000000):AC AF 266 [.cp (AA.row ⟨2,b1,S,B,H,M,Q,R,AE,o,src⟩) 0] (.c (.bool (AA.Cl ⟨2,b1,S,B,H,M,Q,R,AE,o,src⟩))):=by
 have Gt:=Zn (2) b1 S B H M Q R AE o src hs;obtain⟨SB,J5⟩:=AI (AA.Js ⟨2,b1,S,B,H,M,Q,R,AE,o,src⟩);rw[J5]at Gt;obtain⟨KB,J4⟩:=AI (AA.Fi ⟨2,b1,S,B,H,M,Q,R,AE,o,src⟩);obtain⟨L,hL⟩:∃L,L=[B,H,M,Q,R]:=⟨_,rfl⟩
 have Io:G L=5:=by rw[hL];rfl
 have hR:AA.Cl ⟨2,b1,S,B,H,M,Q,R,AE,o,src⟩=(L.all An && (KB && SB)):=by
  simp only[AA.Cl,J5,J4,AA.lens,hL]
 have A0:KB=AA.Fi ⟨2,b1,S,B,H,M,Q,R,AE,o,src⟩:=J4.symm;rw[hR];have Av:G (AA.AG AE)=G AE:=by rw[Dt];simp
 simp only[AA.row]at Gt ⊢;refine en uo vk ?_;refine Ah ?_;refine CX (ι:={ k:Nat // k<=5/\L.all An=(L.drop k).all An }) (λk=>[(25,.agg (L.map λn=>.c (.int .i64 n))),(26,(k.1:Int)),(2,.c (.bool U))]) (λ_=>[]) (λk=>5 - k.1) ⟨0,ZA⟩ ?_ ?_;exact ER @hL;rintro ⟨i,hi,q⟩;by_cases A1:i<5;have Dn:i<G L:=Ux;have BD:(i:Int)<5:=Ux;rw[D5 Dn,Ep]at q;obtain⟨z,hz⟩:=AI (L[i]);have F7:L[i]?=J z:=by rw[BE Dn,hz]
 rw[hz]at q;have hw:AZ.wrap ((i:Int)+1)=((i+1:Nat):Int):=by rw[Ac];simp
 by_cases h1:z < -1073741824;have e:L.all An=false:=by rw[q];simp[An];omega
 refine go (cj2 @BD @F7 @h1) ?_;exact At (cj2 aV @hR @e);by_cases h2:1073741824<z;have e:L.all An=false:=by rw[q];simp[An];omega
 refine go (cj3 @BD @F7 @h1 @h2) ?_;exact At (cj2 aV @hR @e);have e:L.all An=(L.drop (i+1)).all An:=by
  have:An z=true:=by simp[An];omega
  rw[q,this,Cd]
 refine go (cj4 @BD @F7 @h1 @h2 @hw) ?_;refine⟨⟨i+1,Ux,e⟩,by simp only;omega,?_⟩;exact DH;have Au:L.all An=true:=by rw[q,FA Ux];rfl
 have BD : ¬(i:Int)<5:=Ux;have q:=Au;have hK:KB=false:=by rw[A0];simp[AA.Fi,n1]
 refine go (cj @BD<|@n1) ?_;exact At (cj2 aV @hR @hK)
theorem AW1 (B H M Q R S:Int)(AE:List AA)(o:Int)(src:List Int)(hn:b1.size<=maxLen)(hs:G src<=maxLen)(Ce:G AE<=1000000):AC AF 266 [.cp (AA.row ⟨3,b1,B,H,M,Q,R,S,AE,o,src⟩) 0] (.c (.bool (AA.Cl ⟨3,b1,B,H,M,Q,R,S,AE,o,src⟩))):=by
 have Gt:=Zn (3) b1 B H M Q R S AE o src hs;obtain⟨SB,J5⟩:=AI (AA.Js ⟨3,b1,B,H,M,Q,R,S,AE,o,src⟩);rw[J5]at Gt;obtain⟨KB,J4⟩:=AI (AA.Fi ⟨3,b1,B,H,M,Q,R,S,AE,o,src⟩);obtain⟨L,hL⟩:∃L,L=[H,M,Q,R,S]:=⟨_,rfl⟩
 have Io:G L=5:=by rw[hL];rfl
 have hR:AA.Cl ⟨3,b1,B,H,M,Q,R,S,AE,o,src⟩=(L.all An && (KB && SB)):=by
  simp only[AA.Cl,J5,J4,AA.lens,hL]
 have A0:KB=AA.Fi ⟨3,b1,B,H,M,Q,R,S,AE,o,src⟩:=J4.symm;rw[hR];have Av:G (AA.AG AE)=G AE:=by rw[Dt];simp
 simp only[AA.row]at Gt ⊢;refine en uo vk ?_;refine Ah ?_;refine CX (ι:={ k:Nat // k<=5/\L.all An=(L.drop k).all An }) (λk=>[(25,.agg (L.map λn=>.c (.int .i64 n))),(26,(k.1:Int)),(2,.c (.bool U))]) (λ_=>[]) (λk=>5 - k.1) ⟨0,ZA⟩ ?_ ?_;exact ER @hL;rintro ⟨i,hi,q⟩;by_cases A1:i<5;have Dn:i<G L:=Ux;have BD:(i:Int)<5:=Ux;rw[D5 Dn,Ep]at q;obtain⟨z,hz⟩:=AI (L[i]);have F7:L[i]?=J z:=by rw[BE Dn,hz]
 rw[hz]at q;have hw:AZ.wrap ((i:Int)+1)=((i+1:Nat):Int):=by rw[Ac];simp
 by_cases h1:z < -1073741824;have e:L.all An=false:=by rw[q];simp[An];omega
 refine go (cj2 @BD @F7 @h1) ?_;exact At (cj2 aV @hR @e);by_cases h2:1073741824<z;have e:L.all An=false:=by rw[q];simp[An];omega
 refine go (cj3 @BD @F7 @h1 @h2) ?_;exact At (cj2 aV @hR @e);have e:L.all An=(L.drop (i+1)).all An:=by
  have:An z=true:=by simp[An];omega
  rw[q,this,Cd]
 refine go (cj4 @BD @F7 @h1 @h2 @hw) ?_;refine⟨⟨i+1,Ux,e⟩,by simp only;omega,?_⟩;exact DH;have Au:L.all An=true:=by rw[q,FA Ux];rfl
 have BD : ¬(i:Int)<5:=Ux;have q:=Au;by_cases n1:b1=⟨#[]⟩
 by_cases s0:B=0;subst n1 s0;have hK:KB=true:=by rw[A0];simp[AA.Fi]
 refine go @BD ?_;refine BZ (Gt) AKD ?_;refine Ah ?_;exact At (cj3 aV @hR @hK @q);have hK:KB=false:=by rw[A0];simp[AA.Fi,s0]
 subst n1;refine go (cj @BD<|@s0) ?_;exact At (cj2 aV @hR @hK);have hK:KB=false:=by rw[A0];simp[AA.Fi,n1]
 refine go (cj @BD<|@n1) ?_;exact At (cj2 aV @hR @hK)
theorem AW2 (S B H M Q R:Int)(AE:List AA)(o:Int)(src:List Int)(k1 : ¬b0=1)(k2 : ¬b0=2)(k3 : ¬b0=3)(hn:b1.size<=maxLen)(hs:G src<=maxLen)(Ce:G AE<=1000000):AC AF 266 [.cp (AA.row ⟨b0,b1,S,B,H,M,Q,R,AE,o,src⟩) 0] (.c (.bool (AA.Cl ⟨b0,b1,S,B,H,M,Q,R,AE,o,src⟩))):=by
 have Gt:=Zn b0 b1 S B H M Q R AE o src hs;obtain⟨SB,J5⟩:=AI (AA.Js ⟨b0,b1,S,B,H,M,Q,R,AE,o,src⟩);rw[J5]at Gt;obtain⟨KB,J4⟩:=AI (AA.Fi ⟨b0,b1,S,B,H,M,Q,R,AE,o,src⟩);obtain⟨L,hL⟩:∃L,L=[B,H,M,Q,R]:=⟨_,rfl⟩
 have Io:G L=5:=by rw[hL];rfl
 have hR:AA.Cl ⟨b0,b1,S,B,H,M,Q,R,AE,o,src⟩=(L.all An && (KB && SB)):=by
  simp only[AA.Cl,J5,J4,AA.lens,hL]
 have A0:KB=AA.Fi ⟨b0,b1,S,B,H,M,Q,R,AE,o,src⟩:=J4.symm;rw[hR];have Av:G (AA.AG AE)=G AE:=by rw[Dt];simp
 simp only[AA.row]at Gt ⊢;refine en uo vk ?_;refine Ah ?_;refine CX (ι:={ k:Nat // k<=5/\L.all An=(L.drop k).all An }) (λk=>[(25,.agg (L.map λn=>.c (.int .i64 n))),(26,(k.1:Int)),(2,.c (.bool U))]) (λ_=>[]) (λk=>5 - k.1) ⟨0,ZA⟩ ?_ ?_;exact ER @hL;rintro ⟨i,hi,q⟩;by_cases A1:i<5;have Dn:i<G L:=Ux;have BD:(i:Int)<5:=Ux;rw[D5 Dn,Ep]at q;obtain⟨z,hz⟩:=AI (L[i]);have F7:L[i]?=J z:=by rw[BE Dn,hz]
 rw[hz]at q;have hw:AZ.wrap ((i:Int)+1)=((i+1:Nat):Int):=by rw[Ac];simp
 by_cases h1:z < -1073741824;have e:L.all An=false:=by rw[q];simp[An];omega
 refine go (cj2 @BD @F7 @h1) ?_;exact At (cj2 aV @hR @e);by_cases h2:1073741824<z;have e:L.all An=false:=by rw[q];simp[An];omega
 refine go (cj3 @BD @F7 @h1 @h2) ?_;exact At (cj2 aV @hR @e);have e:L.all An=(L.drop (i+1)).all An:=by
  have:An z=true:=by simp[An];omega
  rw[q,this,Cd]
 refine go (cj4 @BD @F7 @h1 @h2 @hw) ?_;refine⟨⟨i+1,Ux,e⟩,by simp only;omega,?_⟩;exact DH;have Au:L.all An=true:=by rw[q,FA Ux];rfl
 have BD : ¬(i:Int)<5:=Ux;have q:=Au;have hK:KB=false:=by rw[A0];simp[AA.Fi,k1,k2,k3]
 refine go (cj3 @BD @k1 @k2 @k3) ?_;exact At (cj2 aV @hR @hK)
theorem AWv (B H M Q R S:Int)(AE:List AA)(o:Int)(src:List Int)(z:b1.size<=maxLen)(hs:G src<=maxLen)(q:G AE<=1000000):AC AF 266 [.cp (AA.row ⟨b0,b1,B,H,M,Q,R,S,AE,o,src⟩) 0] (.c (.bool (AA.Cl ⟨b0,b1,B,H,M,Q,R,S,AE,o,src⟩))):=by
 by_cases k1:b0=1;subst k1;exact AWw b1 B H M Q R S AE o src z hs q;by_cases k2:b0=2;subst k2;by_cases n1:b1=⟨#[]⟩
 by_cases s0:B=0;by_cases s3:G AE=0;exact AWx b1 B H M Q R S AE o src n1 s0 s3 z hs q;exact AWy b1 B H M Q R S AE o src n1 s0 s3 z hs q;exact AWz b1 B H M Q R S AE o src n1 s0 z hs q;exact AW0 b1 B H M Q R S AE o src n1 z hs q;by_cases k3:b0=3;subst k3;exact AW1 b1 B H M Q R S AE o src z hs q;exact AW2 b0 b1 B H M Q R S AE o src k1 k2 k3 z hs q
theorem AXL (q z b4 b5 b6 b7:Int)(AE:List AA)(o:Int)(src:List Int)(B c:Nat)(hn:b1.size<=maxLen)(hs:G src<=maxLen)(hd:B<=101)(hc:c+AA.cnt ⟨b0,b1,q,z,b4,b5,b6,b7,AE,o,src⟩<=1000000)(ih : ∀k∈AE,∀(B c:Nat),B<=101->c+k.cnt<=1000000->AX AF 211 [.cp (AA.row k) 0,((B:Nat):Int),.ptr 0 0] 3 [.int .i64 ((c:Nat):Int)] [.int .i64 ((AA.pv B k c).2:Int)] (.c (.bool (AA.pv B k c).1))):AX AF 211 [.cp (AA.row ⟨b0,b1,q,z,b4,b5,b6,b7,AE,o,src⟩) 0,((B:Nat):Int),.ptr 0 0] 3 [.int .i64 ((c:Nat):Int)] [.int .i64 ((AA.pv B ⟨b0,b1,q,z,b4,b5,b6,b7,AE,o,src⟩ c).2:Int)] (.c (.bool (AA.pv B ⟨b0,b1,q,z,b4,b5,b6,b7,AE,o,src⟩ c).1)):=by
 have FX:AA.cnt ⟨b0,b1,q,z,b4,b5,b6,b7,AE,o,src⟩=1+AA.Az AE:=F;rw[FX]at hc;have Ce:=Ud AE;have H:=AWv b0 b1 q z b4 b5 b6 b7 AE o src hn hs Ux;obtain⟨OB,qR⟩:=AI (AA.Cl ⟨b0,b1,q,z,b4,b5,b6,b7,AE,o,src⟩);rw[qR]at H;have hR:AA.pv B ⟨b0,b1,q,z,b4,b5,b6,b7,AE,o,src⟩ c=if 20000<c+1\/100<B\/OB=U then(U,c+1)else AA.HU (B+1) AE (c+1):=by simp only[AA.pv,qR]
 have M:AZ.wrap ((c:Int)+1)=((c+1:Nat):Int):=by rw[Ac];simp
 simp only[AA.row]at H ⊢;rw[Dt]at H ⊢;refine AX.intro AFX rfl ?_;simp only[ntmps211,Ap,BB,BA,BO,Nat.reduceAdd,Nat.reduceSub,BY,Cy,BK,BU];by_cases h1:20000<c+1;rw[Awd (.inl h1)]at hR;have S:(20000:Int)<((c+1:Nat):Int):=Ux;obtain⟨C,hC⟩:∃C:Int,((c+1:Nat):Int)=C:=⟨_,rfl⟩
 rw[hR];simp only;rw[hC]at M S ⊢;refine go (cj @M<|@S) ?_;simp[Xy,DV,C0,DE,V.CP,V.CF,CJ,toCs,toC,AGT];have S : ¬(20000:Int)<((c+1:Nat):Int):=Ux;by_cases h2:100<B;rw[Awd (.inr (.inl h2))]at hR;have J3:(100:Int)<((B:Nat):Int):=Ux;obtain⟨C,hC⟩:∃C:Int,((c+1:Nat):Int)=C:=⟨_,rfl⟩
 rw[hR];simp only;rw[hC]at M S ⊢;refine go (cj2 @M @S @J3) ?_;simp[Xy,DV,C0,DE,V.CP,V.CF,CJ,toCs,toC,AGT];have J3 : ¬(100:Int)<((B:Nat):Int):=Ux;cases OB with
 | false =>
   rw[Awd (.inr (.inr F))]at hR;obtain⟨C,hC⟩:∃C:Int,((c+1:Nat):Int)=C:=⟨_,rfl⟩
   rw[hR];simp only;rw[hC]at M S ⊢;refine go (cj2 @M @S @J3) ?_;refine BZ (H) uo ?_;refine Ah ?_;simp[Xy,DV,C0,DE,V.CP,V.CF,CJ,toCs,toC,AGT]
 | true =>
   rw[Awf (by rintro (h|h|h)<;>first|omega|cases h)]at hR;rw[hR];have A0:AZ.wrap ((B:Int)+1)=((B+1:Nat):Int):=by rw[Ac];simp
   obtain⟨Q,hQ⟩:=AI (AA.HU (B+1) AE (c+1));rw[hQ];obtain⟨C,hC⟩:∃C:Int,((c+1:Nat):Int)=C:=⟨_,rfl⟩
   rw[hC]at M S;refine go (cj2 @M @S @J3) ?_;refine BZ (H) uo ?_;refine Ah ?_;subst hC;refine CX (ι:={ k:Nat×Nat // k.1<=G AE/\k.2+AA.Az (AE.drop k.1)<=1000000/\Q=AA.HU (B+1) (AE.drop k.1) k.2 }) (λk=>[(31,(k.1.1:Int)),(6,.c (.bool U))]) (λk=>[.box 3 [(k.1.2:Int)] U]) (λk=>G AE - k.1.1) ⟨(0,c+1),ZA,by simp;omega,by simp[hQ]⟩ ?_ ?_;exact DH;rintro ⟨⟨j,n⟩,hj,hb,R⟩;simp only at hj hb R ⊢;by_cases U4:j<G AE;rw[D5 U4]at R hb;obtain⟨k,EC⟩:=AI (AE[j]);rw[EC]at R hb;simp only[AA.Az]at hb;simp only[AA.HU]at R;have VF:=ih k (EC ▸ Kq U4) (B+1) n Ux Ux;have Av:G k.row=11:=by cases k;rfl
   have KE:=(ABP (B+1) k n).1;have hw:AZ.wrap ((j:Int)+1)=((j+1:Nat):Int):=by rw[Ac];simp
   obtain⟨⟨r,n'⟩,hr⟩:=AI (AA.pv (B+1) k n);rw[hr]at VF R KE;simp only at VF R KE;obtain⟨D,hD⟩:∃D:Int,((B+1:Nat):Int)=D:=⟨_,rfl⟩
   rw[hD]at VF A0;refine go @U4 ?_;refine Og (.mk 9) (cj3 @U4 @EC @A0 @Av) ?_;refine SW.pJ 0 VF AFX ZC ZC (by simp[BQ]) (by simp[C7,EC,A0];first|exact rfl|exact⟨F,F⟩) (by simp[V.Dj,V.Di,EC];try exact rfl) (by rfl) (by simp[toCs,toC]) ?_;cases r with
   | false=>rw[Awf ZA]at R;refine CY (.mk 1) trivial ?_;refine SW.nil ?_;refine Ah ?_;simp[Xy,DV,C0,DE,V.CP,V.CF,CJ,toCs,toC,AGT,R]
   | true=>rw[Awd rfl]at R;refine CY (.mk 1) trivial ?_;refine SW.nil ?_;refine go @hw ?_;refine⟨⟨(j+1,n'),by simp only;omega,by simp only;omega,R⟩,by simp only;omega,?_⟩;exact DH
   rw[FA Ux]at R;simp only[AA.HU]at R;refine go @U4 ?_;simp[Xy,DV,C0,DE,V.CP,V.CF,CJ,toCs,toC,AGT,R]
theorem AVS (B H M Q R S:Int)(AE:List AA)(o:Int)(src:List Int)(h:AA.BX ⟨b0,b1,B,H,M,Q,R,S,AE,o,src⟩):b1.size<=maxLen/\(G src)<=maxLen/\AA.FY AE:=by simpa only[AA.BX]using h
theorem AJ8 : ∀(n:Nat) (b:AA),UF b<n->b.BX->∀(B c:Nat),B<=101->c+b.cnt<=1000000->AX AF 211 [.cp (AA.row b) 0,((B:Nat):Int),.ptr 0 0] 3 [.int .i64 ((c:Nat):Int)] [.int .i64 ((AA.pv B b c).2:Int)] (.c (.bool (AA.pv B b c).1))
 | 0,b,h,_=>absurd h Ux
 | n+1,⟨b0,b1,M,Q,R,S,q,z,H,o,src⟩,hn,A5=>by
   obtain⟨o1,o2,o3⟩:=AVS b0 b1 M Q R S q z H o src A5;intro B c hd hc;exact AXL b0 b1 M Q R S q z H o src B c o1 o2 hd hc λk hk=>AJ8 n k (by
    have:=List.sizeOf_lt_of_mem hk;simp only[AA.mk.sizeOf_spec]at hn;omega) (kl o3 k hk)
theorem EL (h:b.BX)(hc:b.cnt<=1000000):AC AF 167 [Ao b] (.c (.bool b.Ad)):=by
 have B:=AJ8 (UF b+1) b Ux h 1 0 Ux Ux;rw[<-AXK];obtain⟨⟨r,n⟩,H⟩:=AI (AA.pv 1 b 0);rw[H]at B ⊢;simp only at B ⊢;obtain⟨b0,b1,Q,R,S,q,z,b7,M,o,src⟩:=b;simp only[Ao,AA.row,Ap,BB]at B ⊢;refine en AFL ntmps167 ?_;with_reducible refine AW.seq ?_
 with_reducible refine AW.region ?_
 with_reducible refine If (by simp[BY];first|exact rfl|exact⟨F,F⟩) ?_
 with_reducible refine Kz ?_
 with_reducible refine G3 ?_
 with_reducible refine AW.seq ?_
 with_reducible refine AW.region ?_
 with_reducible refine If (by simp[BY];first|exact rfl|exact⟨F,F⟩) ?_
 with_reducible refine Kz ?_
 with_reducible refine G3 ?_
 refine Cn 0 ?_;with_reducible refine AW.seq ?_
 with_reducible refine AW.DA ?_
 refine SW.pJ 1 B AFX ZC ZC (by simp[BQ]) (by simp[C7];first|exact rfl|exact⟨F,F⟩) (by simp[V.Dj,V.Di];try exact rfl) (by rfl) (by simp[toCs,toC]) ?_;refine CY (.mk 1) trivial ?_;refine SW.nil ?_;refine Ah ?_;exact At results167
theorem sb :AC AF 117 [n] (.c (.bool (An n))):=by
 by_cases h : -1073741824<=n;have e:An n=decide (n<=1073741824):=by unfold An;rw[Awk h,Cd]
 refine en AQN ntmps117 ?_;refine go @h ?_;exact At (cj nX<| @e);have e:An n=false:=by unfold An;rw[Awl h,D4]
 refine en AQN ntmps117 ?_;refine go @h ?_;exact At (cj nX<| @e)
def Vw (n:Int):Int:=if n<0 then -n else n
theorem AKH (h : -9000000000000000000<=n)(H:n<=9000000000000000000):AC AF 155 [n] (Vw n:Int):=by
 by_cases B:n<0;have w:AZ.wrap (-n)= -n:=Ac;have e:Vw n= -n:=Awd B;refine en nk ntmps155 ?_;refine go (cj @B<|@w) ?_;exact At (cj results155<| @e);have e:Vw n=n:=Awf B;refine en nk ntmps155 ?_;refine go @B ?_;exact At (cj results155<| @e)
theorem AX8 (a b:Int)(ha : -4000000000000000000<=a)(A0:a<=4000000000000000000)(hb:b=100\/b=2\/b=18):AC AF 118 [a,b] (Ea a b:Int):=by
 have q:=AKH a Ux Ux;have B:=AKH b Ux Ux;have e2:Vw b=b:=Awf Ux;rw[e2]at B;obtain⟨A,H⟩:=AI (Vw a);rw[H]at q;have Gr:0<=A/\A<=4000000000000000000:=by unfold Vw at H;split at H<;>omega
 have w1:AZ.wrap (2*A)=2*A:=Ac;have w2:AZ.wrap (2*A+b)=2*A+b:=Ac;have w3:AZ.wrap (2*b)=2*b:=Ac;have hq:(2*A+b).tdiv (2*b)=(2*A+b) / (2*b):=Int.tdiv_eq_ediv_of_nonneg Ux;have hd:0<=(2*A+b) / (2*b)/\(2*A+b) / (2*b)<=9000000000000000000:=by rcases hb with rfl|rfl|rfl<;>omega
 obtain⟨Q,M⟩:=AI ((2*A+b) / (2*b));have w4:AZ.wrap ((2*A+b).tdiv (2*b))=Q:=by rw[hq,M];rw[M]at hd;exact Ac
 have nz : ¬2*b=0:=Ux;have R : ¬b=0:=Ux;have nb : ¬b<0:=Ux;by_cases S:a<0;have z:Ea a b= -Q:=by
  unfold Ea;rw[Awf Ux,<-M,<-H];simp only[Vw,Awd S]
 have w5:AZ.wrap (-Q)= -Q:=by rw[M]at hd;exact Ac
 refine en ug ntmps118 ?_;refine Ah ?_;refine gc @w1 (q) nk ?_;refine gc @w2 (B) nk ?_;refine gc (cj3 @w3 @w4 @nz @R) (B) nk ?_;refine go (cj2 @S @nb @w5) ?_;exact At (cj results118<| @z);have z:Ea a b=Q:=by
  unfold Ea;rw[Awd Ux,<-M,<-H];simp only[Vw,Awf S]
 refine en ug ntmps118 ?_;refine Ah ?_;refine gc @w1 (q) nk ?_;refine gc @w2 (B) nk ?_;refine gc (cj3 @w3 @w4 @nz @R) (B) nk ?_;refine go (cj @S<|@nb) ?_;exact At (cj results118<| @z)
theorem AYA (n p:Int):AC AF 79 [n,p] (AU n p:Int):=by
 cases B:An n with
 | false =>
   have H:AU n p=0:=by simp[AU,B]
   refine en ALN AM8 ?_;refine Ah ?_;refine gc @B (sb n) AQN ?_;refine go @B ?_;exact At (cj AOv<| @H)
 | true =>
   have Q:=B;simp[An]at Q;by_cases M:p<0;have H:AU n p=0:=by unfold AU;rw[Awf];omega
   refine en ALN AM8 ?_;refine Ah ?_;refine gc (cj @B<|@M) (sb n) AQN ?_;refine go @B ?_;exact At (cj AOv<| @H);by_cases R:10000<p;have H:AU n p=0:=by unfold AU;rw[Awf];omega
   refine en ALN AM8 ?_;refine Ah ?_;refine gc (cj2 @B @M @R) (sb n) AQN ?_;refine go @B ?_;exact At (cj AOv<| @H);have H:AU n p=Ea (n*p) 100:=by unfold AU;rw[Awd ⟨B,Ux,Ux⟩]
   have q:=Qh n p 1073741824 10000 Ux Ux Ux Ux;have S:AZ.wrap (n*p)=n*p:=Ac;refine en ALN AM8 ?_;refine Ah ?_;refine gc (cj2 @B @M @R) (sb n) AQN ?_;refine go (cj @B<|@S) ?_;refine BZ (AX8 (n*p) 100 Ux Ux (.inl F)) ug ?_;refine Ah ?_;exact At (cj AOv<| @H)
theorem AP1 :AC AF 248 [n] (Bm n:Int):=by
 cases B:An n with
 | false =>
   have H:Bm n=0:=by simp[Bm,B]
   refine en APg ntmps248 ?_;refine Ah ?_;refine gc @B (sb n) AQN ?_;refine go @B ?_;exact At (cj vO<| @H)
 | true =>
   have H:Bm n=Ea n 2:=by simp[Bm,B]
   have M:=B;simp[An]at M;refine en APg ntmps248 ?_;refine Ah ?_;refine gc @B (sb n) AQN ?_;refine go @B ?_;refine BZ (AX8 n 2 Ux Ux (.inr (.inl F))) ug ?_;refine Ah ?_;exact At (cj vO<| @H)
theorem x6 :AC AF 232 [n] (Bm n:Int):=by
 refine en func232 ntmps232 ?_;refine Ah ?_;refine BZ (AP1 n) APg ?_;refine Ah ?_;exact At results232
theorem Ke :AC AF 171 [n] (Bm n:Int):=by
 cases B:An n with
 | false =>
   have H:Bm n=0:=by simp[Bm,B]
   refine en vR ntmps171 ?_;refine Ah ?_;refine gc @B (Ng n) Xs ?_;refine go @B ?_;exact At (cj results171<| @H)
 | true =>
   have H:Bm n=quot n 2:=by rw[AXV];simp[Bm,B]
   have M:=B;simp[An]at M;refine en vR ntmps171 ?_;refine Ah ?_;refine gc @B (Ng n) Xs ?_;refine go @B ?_;refine BZ (AKG n 2 Ux Ux (.inr F)) func62 ?_;refine Ah ?_;exact At (cj results171<| @H)
theorem Gu (x y:Int)(hs:G b.src<=1000000):AC AF 170 [Ao b,x,y] (Ao (b.AS x y)):=by
 obtain⟨b0,b1,M,Q,R,S,q,z,H,o,src⟩:=b;have B:=pO src hs;simp only[Ao,AA.AS,AA.row,Ap,BB];refine en func170 ntmps170 ?_;refine Ah ?_;refine BZ (B) func140 ?_;refine Ah ?_;exact At results170
theorem ABF (w h d:Int):AC AF 172 [w,h,d] (Ao (FV w h d)):=by
 simp only[Ao,FV,AA.row,AA.AG,Ap,BB];refine en func172 ntmps172 ?_;refine Ah ?_;exact At (cj results172<| @AV.eq_1)
theorem sD (n p q:Int):AC AF 173 [n,q,.cp [.int .i64 p] 0] (AU (AU n p) q:Int):=by
 refine en func173 ntmps173 ?_;refine Ah ?_;refine BZ (EI n p) nI ?_;refine BZ (EI (AU n p) q) nI ?_;refine Ah ?_;exact At results173
@[simp] theorem AP.AiD (f:AP):f.vs[17]?=J (.c (.int .i64 f.params.script)):=F
@[simp] theorem AP.Ah0 (f:AP)(h:17<G f.vs):f.vs[17]'h=.c (.int .i64 f.params.script):=F
@[simp] theorem AP.AiE (f:AP):f.vs[18]?=J (.c (.int .i64 f.params.Qr)):=F
@[simp] theorem AP.Ah1 (f:AP)(h:18<G f.vs):f.vs[18]'h=.c (.int .i64 f.params.Qr):=F
def AA.vs (b:AA):List V:=b.row.map V.c
theorem As (b:AA):Ao b=.agg b.vs:=F
section
variable (b:AA)
@[simp] theorem AA.Xf:G b.vs=11:=by cases b;rfl
@[simp] theorem AA.ACP:b.vs.all V.one=true:=by cases b;rfl
@[simp] theorem AA.ACR:b.vs.take 11=b.vs:=Gl ZA
@[simp] theorem AA.ACN:b.vs[0]?=J (.c (.int .i64 b.kind)):=by cases b;rfl
@[simp] theorem AA.ACG (h:0<G b.vs):b.vs[0]'h=.c (.int .i64 b.kind):=by cases b;rfl
@[simp] theorem AA.ACO:b.vs[3]?=J (.c (.int .i64 b.w)):=by cases b;rfl
@[simp] theorem AA.ACI (h:3<G b.vs):b.vs[3]'h=.c (.int .i64 b.w):=by cases b;rfl
@[simp] theorem AA.Aad:b.vs[4]?=J (.c (.int .i64 b.h)):=by cases b;rfl
@[simp] theorem AA.AaV (h:4<G b.vs):b.vs[4]'h=.c (.int .i64 b.h):=by cases b;rfl
@[simp] theorem AA.Aae:b.vs[5]?=J (.c (.int .i64 b.d)):=by cases b;rfl
@[simp] theorem AA.AaW (h:5<G b.vs):b.vs[5]'h=.c (.int .i64 b.d):=by cases b;rfl
@[simp] theorem AA.Aaf:b.vs[6]?=J (.c (.int .i64 b.x)):=by cases b;rfl
@[simp] theorem AA.AaX (h:6<G b.vs):b.vs[6]'h=.c (.int .i64 b.x):=by cases b;rfl
@[simp] theorem AA.Aag:b.vs[7]?=J (.c (.int .i64 b.y)):=by cases b;rfl
@[simp] theorem AA.AaY (h:7<G b.vs):b.vs[7]'h=.c (.int .i64 b.y):=by cases b;rfl
@[simp] theorem AA.Aah:b.vs[8]?=J (.c (.sl (AA.AG b.AE))):=by cases b;rfl
@[simp] theorem AA.AaZ (h:8<G b.vs):b.vs[8]'h=.c (.sl (AA.AG b.AE)):=by cases b;rfl
@[simp] theorem AA.tX:V.CF b.vs=J b.vs:=Zq b.row
@[simp] theorem AA.ACS:toCs b.vs=J b.row:=toCs_c b.row
@[simp] theorem AA.AL9 (cs:List V)(h:G cs=11):E8 cs 0 b.vs=b.vs:=kz (by simp[h])
@[simp] theorem AA.Nk:G b.row=11:=by cases b;rfl
@[simp] theorem AA.ABb:b.row.map V.c=b.vs:=F
@[simp] theorem AA.AKV:b.row.take 11=b.row:=Gl ZA
@[simp] theorem AA.tW (n:Nat):V.BI n b.vs=true:=by cases b;simp[AA.vs,AA.row,V.BI,V.A8]
end
def IT (f:AP)(s:Aa):Int×Int:=if s.ok=U\/f.valid=U then(0,1)else(BS f.params s,0)
theorem LI (f:AP)(s:Aa):AC AF 32 [.agg f.vs,Aj s] (.A7 [.c (.int .i64 (IT f s).1),AR (IT f s).2]):=by
 have B:=fI s;have H:=Ma f;cases M:s.ok with
 | false=>have e:IT f s=(0,1):=Awd (.inl M);rw[e];rw[M]at B;unfold Aj at B ⊢;refine en gp ASZ ?_;refine Ah ?_;refine BZ (B) vW ?_;refine Ah ?_;exact At (cj vS<| @AR.eq_1)
 | true =>
   rw[M]at B;cases S:f.valid with
   | false=>have e:IT f s=(0,1):=Awd (.inr S);rw[e];rw[S]at H;unfold Aj at B ⊢;refine en gp ASZ ?_;refine Ah ?_;refine BZ (B) vW ?_;refine BZ (H) IP ?_;refine Ah ?_;exact At (cj vS<| @AR.eq_1)
   | true =>
     rw[S]at H;have e:IT f s=(BS f.params s,0):=Awf (by simp[M,S]);rw[e];have q:BS f.params s=if s.By=2 then f.params.script else if s.By=3 then f.params.Qr else 100:=Awf (by simp[M])
     rw[q];clear e q;unfold Aj at B ⊢;by_cases Q:s.By=2;refine en gp ASZ ?_;refine Ah ?_;refine BZ (B) vW ?_;refine BZ (H) IP ?_;refine go @Q ?_;exact At (cj2 vS @AR.eq_1 @Q);by_cases R:s.By=3;refine en gp ASZ ?_;refine Ah ?_;refine BZ (B) vW ?_;refine BZ (H) IP ?_;refine go @R ?_;exact At (cj2 vS @AR.eq_1 @R);refine en gp ASZ ?_;refine Ah ?_;refine BZ (B) vW ?_;refine BZ (H) IP ?_;refine go (cj @Q<|@R) ?_;exact At (cj3 vS @AR.eq_1 @Q @R)
theorem x7 (f:AP)(s:Aa):AC AF 80 [.agg f.vs,Aj s] (BS f.params s:Int):=by
 have H:=AAA s;cases B:s.ok with
 | false=>have e:BS f.params s=0:=Awd B;rw[e];rw[B]at H;unfold Aj at H ⊢;refine en AGA AGJ ?_;refine Ah ?_;refine BZ (H) AEJ ?_;refine Ah ?_;exact At AGZ
 | true =>
   rw[B]at H;have M:BS f.params s=if s.By=2 then f.params.script else if s.By=3 then f.params.Qr else 100:=Awf (by simp[B])
   rw[M];have Q:s.By=0\/s.By=1\/s.By=2\/s.By=3:=by simp[Aa.ok]at B;omega
   obtain⟨l,c⟩:=s;simp only at Q ⊢;unfold Aj at H ⊢;clear M B;rcases Q with rfl|rfl|rfl|rfl
   all_goals
    refine en AGA AGJ ?_;refine Ah ?_;refine BZ (H) AEJ ?_;refine Ah ?_;exact At AGZ
theorem Jp (f:AP)(s:Aa)(n:Int):AC AF 228 [.agg f.vs,Aj s,n] (AU n (BS f.params s):Int):=by
 have h:=x7 f s;unfold Aj at h ⊢;refine en func228 ntmps228 ?_;refine Ah ?_;refine BZ (h) AGA ?_;refine BZ (AYA n (BS f.params s)) ALN ?_;refine Ah ?_;exact At results228
def C8 (b:AA):AA×Int:=if b.Ad=I then(b,0)else(AA.zero,6)
theorem Fl:AA.zero.vs=[.c (.int .i64 0),.c (.str ⟨#[]⟩),.c (.int .i64 0),.c (.int .i64 0),.c (.int .i64 0),.c (.int .i64 0),.c (.int .i64 0),.c (.int .i64 0),.c (.sl []),.c (.int .i64 0),.c (.sl [])]:=F
theorem Xn (M:b.BX)(H:b.cnt<=1000000):AC AF 233 [Ao b] (Ba (C8 b)):=by
 have h:=m7 b M H;cases B:b.Ad with
 | false=>have e:C8 b=(AA.zero,6):=Awf (by simp[B]);rw[e];rw[B]at h;simp only[As,Ba,AR]at h ⊢;refine en func233 ntmps233 ?_;refine Ah ?_;refine BZ (h) Xk ?_;refine Ah ?_;exact At (cj ANr<| @Fl)
 | true=>have e:C8 b=(b,0):=Awd B;rw[e];rw[B]at h;simp only[As,Ba,AR]at h ⊢;refine en func233 ntmps233 ?_;refine Ah ?_;refine BZ (h) Xk ?_;refine Ah ?_;exact At ANr
theorem AKZ (l:List AA)(k:Nat)(h:k<G l):AA.AG (l.take (k+1))=AA.AG (l.take k)++[(l[k]).row]:=by
 rw[Dt,Dt,UD h,Fm];rfl
def Fy (w h d:Int)(AE:V):List V:=[.c (.int .i64 3),.c (.str ⟨#[]⟩),.c (.int .i64 0),.c (.int .i64 w),.c (.int .i64 h),.c (.int .i64 d),.c (.int .i64 0),.c (.int .i64 0),AE,.c (.int .i64 0),.Bg []]
theorem My (w h d:Int)(AE:List AA)(hd:AA.JH AE)(hc:AA.Az AE<999999):AC AF 94 [w,h,d,.c (.sl (AA.AG AE))] (Ao (Bf w h d AE)):=by
 have Ce:=Ud AE;have hR:Ao (Bf w h d AE)=.agg [.c (.int .i64 3),.c (.str ⟨#[]⟩),.c (.int .i64 0),.c (.int .i64 w),.c (.int .i64 h),.c (.int .i64 d),.c (.int .i64 0),.c (.int .i64 0),.c (.sl (AA.AG AE)),.c (.int .i64 0),.c (.sl [])]:=by simp[Ao,Bf,AA.row,AV]
 rw[hR];clear hR;obtain⟨Q,R⟩:=AI (AA.AG AE);have M:G Q=G AE:=by rw[<-R,Dt];simp
 rw[R];refine en func94 ntmps94 ?_;refine Ah ?_;refine AW.le (Le.T4 1 8 56 11 rfl F) ?_;simp only[BA,BO,Nat.reduceAdd,Ag,Ai,BK,BU];refine CX (ι:={ k:Nat // k<=G AE }) (λk=>[(18,(k.1:Int))]) (λk=>[.box 56 BT U,.box 56 (Fy w h d (.gr 2 11 (AA.AG (AE.take k.1)))) U,.tok 56 11 k.1]) (λk=>G AE - k.1) ⟨0,ZA⟩ ?_ ?_;exact ER (cj3 @BT.eq_1 @Fy.eq_1 @AA.AG.eq_1 @AA.AG.eq_2);rintro ⟨k,hk⟩;simp only;by_cases B:k<G AE;obtain⟨c,H⟩:=AI (AE[k]);have S:Q[k]?=J c.row:=by rw[<-R,Dt,CM,BE B,H];rfl
 have Bu : ∀z:k<G Q,Q[k]'z=c.row:=by intro z;rw[BE z]at S;exact ML S
 have yu:c.Fq:=pX AE k c hd (by rw[BE B,H]);have FX:=bj AE k c (by rw[BE B,H]);have TN:=pW c yu Ux;rw[As]at TN;have hw:AZ.wrap ((k:Int)+1)=((k+1:Nat):Int):=by rw[Ac];simp
 have FO:k+1<=maxLen:=by unfold maxLen;omega
 have EX:(k+1)*128<=140737488355328:=Ux;have GP:G (AA.AG (AE.take k))=k:=by rw[Dt];simp;omega
 have q:AA.AG (AE.take (k+1))=AA.AG (AE.take k)++[c.row]:=by rw[AKZ AE k B,H]
 have Dp:k<G Q:=Ux;refine go (cj6 @M @B @S @Bu @Dp @Fy.eq_1 @BT.eq_1) ?_;refine gc (cj3 @FO @EX @GP @Fy.eq_1) (TN) Aan ?_;refine go @hw ?_;refine⟨⟨k+1,Ux⟩,by simp only;omega,?_⟩;refine Le.MI 3 (F2 F) (by simp[DG,BT,Fy,q,M]) (by simp[BT,Fy,q,M]) (by simp[V.BI,V.A8]) (by simp[O.A8,V.BI,V.A8,BT,Fy,q,M]);have e:AE.take k=AE:=Gl Ux;rw[e,R];refine go (cj3 @M @B @Fy.eq_1 @BT.eq_1) ?_;exact At results94
def eb (f:AP)(s:Aa)(l:List AA):Int:=if f.valid=U\/s.ok=U\/l.all AA.Ad=U then 1 else 0
theorem pe (f:AP)(s:Aa)(l:List AA)(hf:f.Fit)(ho : ∀b∈l,b.BX/\b.cnt<=1000000)(hl:G l<=1000000):AC AF 227 [.agg f.vs,Aj s,.c (.sl (AA.AG l))] (eb f s l:Int):=by
 have q:=ba f hf;have S:=AAA s;obtain⟨z,Aw⟩:=AI (AA.AG l);have Av:G z=G l:=by rw[<-Aw,Dt];simp
 rw[Aw];unfold Aj at S ⊢;cases h1:f.valid with
 | false=>rw[h1]at q;have e:eb f s l=1:=Awd (.inl h1);rw[e];refine en AIo ntmps227 ?_;refine Ah ?_;refine BZ (q) Sr ?_;refine Ah ?_;exact At Abk
 | true =>
   rw[h1]at q;cases h2:s.ok with
   | false=>rw[h2]at S;have e:eb f s l=1:=Awd (.inr (.inl h2));rw[e];refine en AIo ntmps227 ?_;refine Ah ?_;refine BZ (q) Sr ?_;refine BZ (S) AEJ ?_;refine Ah ?_;exact At Abk
   | true =>
     rw[h2]at S;have e:eb f s l=if l.all AA.Ad=I then 0 else 1:=by
      unfold eb;rw[h1,h2];cases l.all AA.Ad<;>simp
     rw[e];clear e;refine en AIo ntmps227 ?_;refine Ah ?_;refine BZ (q) Sr ?_;refine BZ (S) AEJ ?_;refine Ah ?_;refine CX (ι:={ k:Nat // k<=G l/\l.all AA.Ad=(l.drop k).all AA.Ad }) (λk=>[(6,(0:Int)),(7,(k.1:Int))]) (λk=>[.box 27 f.vs U,.box 35 [s.By,.c (.bool s.Hd)] U]) (λk=>G l - k.1) ⟨0,ZA⟩ ?_ ?_;exact DH;rintro ⟨k,hk,H⟩;simp only;by_cases B:k<G l;obtain⟨c,M⟩:=AI (l[k]);have A9:z[k]?=J c.row:=by rw[<-Aw,Dt,CM,BE B,M];rfl
     have Dp:k<G z:=Ux;have Bu : ∀hx:k<G z,z[k]'hx=c.row:=by intro hx;rw[BE hx]at A9;exact ML A9
     obtain⟨o1,o2⟩:=ho c (M ▸ Kq B);have R:=m7 c o1 o2;rw[As]at R;rw[D5 B,M,Ep]at H;have hw:AZ.wrap ((k:Int)+1)=((k+1:Nat):Int):=by rw[Ac];simp
     cases Q:c.Ad with
     | false=>rw[Q]at R H;refine go (cj4 @Av @B @A9 @Bu @Dp) ?_;refine BZ (R) Xk ?_;refine Ah ?_;exact At (cj Abk<| @H)
     | true=>rw[Q,Cd]at H;rw[Q]at R;refine go (cj4 @Av @B @A9 @Bu @Dp) ?_;refine BZ (R) Xk ?_;refine go @hw ?_;refine⟨⟨k+1,Ux,H⟩,by simp only;omega,?_⟩;exact DH
     rw[FA Ux,Nq]at H;refine go (cj @Av<|@B) ?_;exact At (cj Abk<| @H)
theorem tV (f:AP)(p:Int):AC AF 206 [.agg f.vs,p] (AR (JF f p)):=by
 cases B:f.valid with
 | false=>refine en nl AiZ ?_;refine Ah ?_;refine gc @B (Ma f) IP ?_;refine Ah ?_;exact At (cj3 Aiq @AR.eq_1 @JF.eq_1 @B)
 | true =>
   by_cases H:p<1;refine en nl AiZ ?_;refine Ah ?_;refine gc @B (Ma f) IP ?_;refine go @H ?_;exact At (cj4 Aiq @AR.eq_1 @JF.eq_1 @B @H);by_cases M:100<p;refine en nl AiZ ?_;refine Ah ?_;refine gc @B (Ma f) IP ?_;refine go (cj @H<|@M) ?_;exact At (cj5 Aiq @AR.eq_1 @JF.eq_1 @B @H @M);refine en nl AiZ ?_;refine Ah ?_;refine gc @B (Ma f) IP ?_;refine go (cj @H<|@M) ?_;exact At (cj5 Aiq @AR.eq_1 @JF.eq_1 @B @H @M)
theorem AMA (f:AP)(name:ByteArray)(p:Int)(z:f.DR.length<=maxLen)(R:f.valid=I)(H:1<=p)(M:p<=100):AC AF 267 [.agg f.vs,.c (.str name),p] (XV f name p:Int):=by
 obtain⟨_,Q⟩:=Pk R H M name;have hb:=Zv R H M name;have q:XV f name p=((f.pick name).scaled p).h+((f.pick name).scaled p).d:=by unfold XV;rw[Q]
 have S:AZ.wrap (((f.pick name).scaled p).h+((f.pick name).scaled p).d)=XV f name p:=by rw[q];exact Ac
 have B:=sw (f.pick name) p;rw[Q]at B;generalize hG:(f.pick name).scaled p=G at B S;refine en func267 ntmps267 ?_;refine Ah ?_;refine BZ (dy f name z) AEN ?_;refine gc (cj3 @XT.eq_1 @AR.eq_1 @Hg.eq_1 @BG.row.eq_1) (B) func208 ?_;refine go @S ?_;exact At results267
theorem ACT (f:AP)(s:Bc)(r:Int)(hf:f.Fit)(hv:f.valid=I)(hs:s∈f.C5)(HP:1<=r)(G9:r<=1000):AC AF 268 [.agg f.vs,IU s,r] (LO f s r:Int):=by
 obtain⟨_,_,g3,g4,g5,g6⟩:=QG hv hs;have hT:LO f s r=(M3 f r 0 0 s.parts).1 - ((M3 f r 0 0 s.parts).2 - 1)*s.Dc:=F;unfold IU;refine AC.intro Aca rfl ?_;simp only[ntmps268,Ap,BB,BA,BO,Nat.reduceAdd,Nat.reduceSub,BY,Cy,BK,BU,Bc.row];refine go @Ek.eq_1 ?_;refine CX (ι:={ q:Nat×Int×Int // q.1<=G s.parts/\M3 f r 0 0 s.parts=M3 f r q.2.1 q.2.2 (s.parts.drop q.1)/\ -(40000000*(q.1:Int))<=q.2.1/\q.2.1<=40000000*(q.1:Int)/\(q.1:Int)<=q.2.2/\q.2.2<=1000*(q.1:Int) }) (λq=>[(15,(q.1.1:Int)),(7,q.1.2.1),(8,q.1.2.2)]) (λ_=>[.box 27 f.vs U,.box 74 (s.row.map V.c) U]) (λq=>G s.parts - q.1.1) ⟨(0,0,0),ZA⟩ ?_ ?_;exact ER (cj @Bc.row.eq_1<|@Ek.eq_1);rintro ⟨⟨k,Q,B⟩,hk,H,b1,b2,b3,b4⟩;simp only at hk H b1 b2 b3 b4 ⊢;have zh:=Qh s.Dc B 60000 8000 Ux g5 Ux Ux;rw[fu s.Dc B]at zh;by_cases M:k<G s.parts;obtain⟨q,hq⟩:=AI (s.parts[k]);rw[D5 M,hq]at H;simp only[M3]at H;have S:=Ql hv q.name;unfold BG.Small at S;have QS:=dy f q.name hf.gl;generalize hg:f.pick q.name=g at S H QS;have e3:AZ.wrap (g.h+g.d)=g.Dy:=Ac;have e1 : -40000<=g.Dy/\g.Dy<=40000:=by unfold BG.Dy;omega
 obtain⟨t1,t2⟩:=AB4 HP G9 q;have hw:AZ.wrap ((k:Int)+1)=((k+1:Nat):Int):=by rw[Ac];simp
 have m2:=Qh g.Dy (times r q) 40000 1000 Ux Ux Ux t2;rw[fu g.Dy]at m2;have R:AZ.wrap (times r q*g.Dy)=times r q*g.Dy:=Ac;have z:AZ.wrap (Q+times r q*g.Dy)=Q+times r q*g.Dy:=Ac;have w4:AZ.wrap (B+times r q)=B+times r q:=Ac;cases hx:q.ext with
 | true =>
   have ht:times r q=r:=by simp[times,hx]
   rw[ht]at R z w4 H m2 t1 t2;refine go (cj5 @M @hq @Bc.row.eq_1 @Ek.eq_1 @CR.row.eq_1 @hx) ?_;refine gc (cj @Hg.eq_1<|@BG.row.eq_1) (QS) AEN ?_;refine gc (cj4 @Hg.eq_1 @BG.row.eq_1 @e3 @R @z) (po g) APk ?_;refine go (cj @w4<|@hw) ?_;refine⟨⟨(k+1,Q+r*g.Dy,B+r),Ux,H,by simp only;omega,by simp only;omega,by simp only;omega,by simp only;omega⟩,by simp only;omega,?_⟩;refine Le.MI 2 (F2 F) (by simp[DG,Bc.row,Ek]) (by simp[Bc.row,Ek]) (by simp[V.BI,V.A8]) (by simp[O.A8,V.BI,V.A8,Bc.row,Ek])
 | false =>
   have ht:times r q=1:=by simp[times,hx]
   rw[ht]at R z w4 H m2 t1 t2;simp only[Int.one_mul]at R z H m2;refine go (cj5 @M @hq @Bc.row.eq_1 @Ek.eq_1 @CR.row.eq_1 @hx) ?_;refine gc (cj @Hg.eq_1<|@BG.row.eq_1) (QS) AEN ?_;refine gc (cj4 @Hg.eq_1 @BG.row.eq_1 @e3 @R @z) (po g) APk ?_;refine go (cj @w4<|@hw) ?_;refine⟨⟨(k+1,Q+g.Dy,B+1),Ux,H,by simp only;omega,by simp only;omega,by simp only;omega,by simp only;omega⟩,by simp only;omega,?_⟩;refine Le.MI 2 (F2 F) (by simp[DG,Bc.row,Ek]) (by simp[Bc.row,Ek]) (by simp[V.BI,V.A8]) (by simp[O.A8,V.BI,V.A8,Bc.row,Ek])
 have e:M3 f r 0 0 s.parts=(Q,B):=by rw[H,FA Ux];rfl
 have hR:LO f s r=Q - (B - 1)*s.Dc:=by rw[hT,e]
 have A0:(B - 1)*s.Dc=B*s.Dc - s.Dc:=by rw[Int.sub_mul];omega
 have w0:AZ.wrap (B - 1)=B - 1:=Ac;have w1:AZ.wrap ((B - 1)*s.Dc)=(B - 1)*s.Dc:=Ac;have R:AZ.wrap (Q - (B - 1)*s.Dc)=Q - (B - 1)*s.Dc:=Ac;refine go (cj5 @M @Bc.row.eq_1 @Ek.eq_1 @w0 @w1 @R) ?_;exact At (cj results268<| @hR)
theorem T7 (f:AP)(name:ByteArray)(M:f.Fit)(H:f.valid=I):AC AF 162 [.agg f.vs,.c (.str name)] (NK (f.I8 name)):=
 AZb f name M.sl λs B=>⟨by have:=(QG H B).AKx;omega,by have:=(QG H B).parts;omega⟩
theorem AaU (f:AP)(name:ByteArray)(B p:Int)(hf:f.Fit)(hv:f.valid=I)(G8:1<=p)(HN:p<=100):AC AF 213 [.agg f.vs,.c (.str name),B,p] (N4 (J2 f name B p)):=by
 cases Q:f.I8 name with
 | none =>
   have YU:J2 f name B p=⟨name,0⟩:=by unfold J2;rw[Q]
   rw[YU];refine en func213 ntmps213 ?_;refine Ah ?_;refine gc (cj4 @NK.eq_1 @IU.eq_1 @Bc.row.eq_1 @Q @Bc.zero.eq_1) (T7 f name hf hv) AFG ?_;refine Ah ?_;exact At (cj Abg<| @N4.eq_1)
 | some s =>
   have hs:=(Se Q).1;obtain⟨g1,g2,g3,g4,g5,g6⟩:=QG hv hs;have R:J2 f name B p=WA f s B p:=by unfold J2;rw[Q]
   refine en func213 ntmps213 ?_;refine Ah ?_;refine gc (cj3 @NK.eq_1 @IU.eq_1 @Bc.row.eq_1 @Q) (T7 f name hf hv) AFG ?_;refine go @Gv.eq_1 ?_;refine CX (ι:={ k:Nat // k<=G s.sizes/\TG f p B s.sizes=TG f p B (s.sizes.drop k) }) (λk=>[(27,(k.1:Int))]) (λ_=>[.box 27 f.vs U,.box 177 [.c (.str ⟨#[]⟩),(0:Int)] U,.box 74 (s.row.map V.c) U]) (λk=>G s.sizes - k.1) ⟨0,ZA⟩ ?_ ?_;exact ER (cj @Bc.row.eq_1<|@Gv.eq_1);rintro ⟨k,Ce,q⟩;by_cases H:k<G s.sizes;obtain⟨n,M⟩:=AI (s.sizes[k]);rw[D5 H,M]at q;simp only[TG]at q;by_cases he:B<=XV f n p;rw[Awd he]at q;have S:J2 f name B p=⟨n,0⟩:=by rw[R];unfold WA;rw[q]
   refine go (cj3 @H @M @Bc.row.eq_1 @Gv.eq_1) ?_;refine gc @he (AMA f n p hf.gl hv G8 HN) func267 ?_;refine go (cj4 @H @M @he @Bc.row.eq_1 @Gv.eq_1) ?_;exact At (cj2 Abg @S @N4.eq_1);rw[Awf he]at q;have hw:AZ.wrap ((k:Int)+1)=((k+1:Nat):Int):=by rw[Ac];simp
   refine go (cj3 @H @M @Bc.row.eq_1 @Gv.eq_1) ?_;refine gc @he (AMA f n p hf.gl hv G8 HN) func267 ?_;refine go (cj5 @H @M @he @Bc.row.eq_1 @Gv.eq_1 @hw) ?_;refine⟨⟨k+1,Ux,q⟩,by simp only;omega,?_⟩;exact ER (cj @Bc.row.eq_1<|@Gv.eq_1);have e:TG f p B s.sizes=none:=by rw[q,FA Ux];rfl
   have S:WA f s B p=if s.parts=[]then⟨s.sizes.getD (G s.sizes - 1) ⟨#[]⟩,0⟩else⟨⟨#[]⟩,LM f s p B 999⟩:=by unfold WA;rw[e]
   by_cases HO:s.parts=[]
   rw[Awd HO]at S;obtain⟨m,hm⟩:∃m,G s.sizes=m+1:=⟨G s.sizes - 1,Ux⟩
   have A0:m<G s.sizes:=Ux;obtain⟨n,M⟩:=AI (s.sizes[m]);have hw:AZ.wrap ((G s.sizes:Int) - 1)=(m:Int):=by rw[Ac];omega
   have hg:s.sizes.getD (G s.sizes - 1) ⟨#[]⟩=n:=by rw[hm];simp[List.getD,A0,M]
   rw[hg]at S;rw[S]at R;refine go (cj7 @H @HO @Bc.row.eq_1 @Gv.eq_1 @Ek.eq_1 @hw @A0 @M) ?_;exact At (cj2 Abg @R @N4.eq_1);rw[Awf HO]at S;have A1 : ¬G s.parts=0:=by simpa using HO
   rw[S]at R;refine go (cj5 @H @HO @A1 @Bc.row.eq_1 @Gv.eq_1 @Ek.eq_1) ?_;refine CX (ι:={ r:Int // 1<=r/\r<=1000/\LM f s p B 999=LM f s p B (1000 - r).toNat }) (λr=>[(13,r.1)]) (λ_=>[.box 27 f.vs U,.box 177 [.c (.str ⟨#[]⟩),(0:Int)] U,.box 74 (s.row.map V.c) U]) (λr=>(1000 - r.1).toNat) ⟨1,ZA⟩ ?_ ?_;exact ER @Bc.row.eq_1;rintro ⟨r,r1,r2,z⟩;by_cases hr:r<1000;rw[AZF f s p B r r1 hr]at z;by_cases M:B<=AU (LO f s r) p;rw[Awd M]at z;rw[z]at R;refine go (cj @hr<|@Bc.row.eq_1) ?_;refine gc (cj @IU.eq_1<|@Bc.row.eq_1) (ACT f s r hf hv hs r1 r2) Aca ?_;refine gc @M (EI (LO f s r) p) nI ?_;refine go @M ?_;exact At (cj2 Abg @R @N4.eq_1);rw[Awf M]at z;have hw:AZ.wrap (r+1)=r+1:=Ac;refine go (cj @hr<|@Bc.row.eq_1) ?_;refine gc (cj @IU.eq_1<|@Bc.row.eq_1) (ACT f s r hf hv hs r1 r2) Aca ?_;refine gc @M (EI (LO f s r) p) nI ?_;refine go (cj @M<|@hw) ?_;refine⟨⟨r+1,Ux,Ux,z⟩,by simp only;omega,?_⟩;exact ER @Bc.row.eq_1;have e1:r=1000:=Ux;subst e1;have e2:LM f s p B (1000 - 1000:Int).toNat=1000:=F;rw[e2]at z;rw[z]at R;refine Ah ?_;exact At (cj2 Abg @R @N4.eq_1)
def PY (x:ByteArray):List ByteArray->Nat->Int
 | [],_=> -1
 | y::r,k=>if x=y then(k:Int)else PY x r (k+1)
theorem AHr (x:ByteArray):∀(l:List ByteArray) (k:Nat),decide (0<=PY x l k)=KX x l
 | [],k=>by simp[PY,KX]
 | y::r,k=>by
   have ih:=AHr x r (k+1);by_cases h:x=y;have B:PY x (y::r) k=(k:Int):=by simp[PY,h]
   have H:KX x (y::r)=true:=by simp[KX,h]
   rw[H,Awe,B];omega;have B:PY x (y::r) k=PY x r (k+1):=by simp[PY,h]
   have H:KX x (y::r)=KX x r:=by simp only[KX];exact Awf λe=>h e.symm
   rw[H,<-ih,Awi,B]
theorem ATY (l:List ByteArray)(x:ByteArray)(q:G l<=1000):AC AF 269 [.c (Gv l),.c (.str x)] (PY x l 0:Int):=by
 unfold Gv;refine en func269 ntmps269 ?_;refine Ah ?_;refine CX (ι:={ k:Nat // k<=G l/\PY x l 0=PY x (l.drop k) k }) (λk=>[(8,(k.1:Int))]) (λ_=>[]) (λk=>G l - k.1) ⟨0,ZA⟩ ?_ ?_;exact DH;rintro ⟨k,S,H⟩;by_cases B:k<G l;obtain⟨y,Q⟩:=AI (l[k]);rw[D5 B,Q]at H;simp only[PY]at H;by_cases M:x=y;rw[Awd M]at H;refine go (cj2 @B @Q @M) ?_;exact At (cj results269<| @H);rw[Awf M]at H;have R:AZ.wrap ((k:Int)+1)=((k+1:Nat):Int):=by rw[Ac];simp
 refine go (cj3 @B @Q @M @R) ?_;refine⟨⟨k+1,Ux,H⟩,by simp only;omega,?_⟩;exact DH;have e:PY x l 0= -1:=by rw[H,FA Ux];rfl
 refine go @B ?_;exact At (cj results269<| @e)
theorem AE1 (l:List ByteArray)(x:ByteArray)(M:G l<=1000):AC AF 217 [.c (Gv l),.c (.str x)] (.c (.bool (KX x l))):=by
 have H:=AHr x l 0;have B:=ATY l x M;unfold Gv at B ⊢;refine en func217 ntmps217 ?_;refine Ah ?_;refine BZ (B) func269 ?_;refine Ah ?_;exact At (cj results217<| @H)
theorem AT4 (f:AP)(name cg:ByteArray)(cr:Int)(s:Bc)(S:f.Fit)(Q:f.valid=I)(B:f.I8 name=J s):AC AF 258 [.agg f.vs,.c (.str name),.agg [.c (.str cg),cr]] (.c (.bool (KH f name ⟨cg,cr⟩))):=by
 have hs:=(Se B).1;have hG:=QG Q hs;have M:KH f name ⟨cg,cr⟩=if cr=0 then KX cg s.sizes else decide (cg=⟨#[]⟩) && (decide (0<G s.parts) && (decide (1<=cr) && decide (cr<=1000))):=by unfold KH;rw[B]
 by_cases H:cr=0;rw[Awd H]at M;subst H;have FN:=AE1 s.sizes cg (by have:=hG.AKx;omega);refine en gH gV ?_;refine Ah ?_;refine gc (cj3 @NK.eq_1 @IU.eq_1 @Bc.row.eq_1 @B) (T7 f name S Q) AFG ?_;refine Ah ?_;refine BZ (FN) func217 ?_;refine Ah ?_;exact At (cj Xr<| @M);rw[Awf H]at M;by_cases h2:cg=⟨#[]⟩
 subst h2;by_cases h3:(0:Int)<(G s.parts:Int);have q:0<G s.parts:=Ux;by_cases z:1<=cr;refine en gH gV ?_;refine Ah ?_;refine gc (cj3 @NK.eq_1 @IU.eq_1 @Bc.row.eq_1 @B) (T7 f name S Q) AFG ?_;refine go (cj4 @H @h3 @q @z @Ek.eq_1) ?_;exact At (cj3 Xr @M @q @z);refine en gH gV ?_;refine Ah ?_;refine gc (cj3 @NK.eq_1 @IU.eq_1 @Bc.row.eq_1 @B) (T7 f name S Q) AFG ?_;refine go (cj4 @H @h3 @q @z @Ek.eq_1) ?_;exact At (cj3 Xr @M @q @z);have R:s.parts=[]:=Nr Ux;refine en gH gV ?_;refine Ah ?_;refine gc (cj3 @NK.eq_1 @IU.eq_1 @Bc.row.eq_1 @B) (T7 f name S Q) AFG ?_;refine go (cj2 @H @R @Ek.eq_1) ?_;exact At (cj2 Xr @M @R);refine en gH gV ?_;refine Ah ?_;refine gc (cj3 @NK.eq_1 @IU.eq_1 @Bc.row.eq_1 @B) (T7 f name S Q) AFG ?_;refine go (cj @H<|@h2) ?_;exact At (cj2 Xr @M @h2)
theorem AT3 (f:AP)(name cg:ByteArray)(cr:Int)(hf:f.Fit)(hv:f.valid=I)(hst:f.I8 name=E):AC AF 258 [.agg f.vs,.c (.str name),.agg [.c (.str cg),cr]] (.c (.bool (KH f name ⟨cg,cr⟩))):=by
 have hR:KH f name ⟨cg,cr⟩=(decide (cr=0) && decide (cg=name)):=by unfold KH;rw[hst]
 refine en gH gV ?_;refine Ah ?_;refine gc (cj4 @NK.eq_1 @IU.eq_1 @Bc.row.eq_1 @hst @Bc.zero.eq_1) (T7 f name hf hv) AFG ?_;refine Ah ?_;refine AW.DA ?_;refine SW.take 3 ?_;with_reducible refine If (by simp[BY];first|exact rfl|exact⟨F,F⟩) ?_
 refine Kz ?_;simp only[CU,B9];refine SW.op (.c (.bool (decide (cr=0) && decide (cg=name)))) (by simp[BQ]) rfl ?_ ?_
 . intro S0 w0 x a w hA;obtain⟨u,hu,H⟩:=hA.2.get 18 _ F;obtain⟨u',R,B⟩:=hA.2.get 20 _ F;simp only[CV,AO,Ab]at H B;refine BW.pure hA.1 (u:=.bool (decide (cr=0) && decide (cg=name))) ?_ (by simp only[CV,Ab]);obtain⟨vs,rfl,_,_,Q,⟨rfl,_⟩,_,_,rfl,⟨rfl,_⟩,rfl⟩:=H;obtain⟨q,rfl,_,_,S,⟨rfl,_⟩,_,_,rfl,⟨rfl,_⟩,rfl⟩:=B;have z:vs=#[.string cg,.int .i64 cr]:=Gx.1 Q;have M:q=#[.string name,.int .i64 0]:=Gx.1 S;subst z M;have e1:a.eval (.tmp 18)=.agg #[.string cg,.int .i64 cr]:=by simp[Act.eval,Kl,<-VZ,hu]
   have e2:a.eval (.tmp 20)=.agg #[.string name,.int .i64 0]:=by simp[Act.eval,Kl,<-VZ,R]
   clear hA hu R Q S;by_cases h1:cg=name
   . subst h1;by_cases h2:cr=0
     . subst h2;simp only[execOp,e1,e2];go_simp
     . have J3:(cr==0)=false:=by simpa using h2
       simp only[execOp,e1,e2];go_simp
   . have Jc:=AZa h1;simp only[execOp,e1,e2];go_simp
 refine SW.take 1 ?_;with_reducible refine If (by simp[BY];first|exact rfl|exact⟨F,F⟩) ?_
 refine Kz ?_;simp only[CU,B9];refine SW.nil ?_;refine Ah ?_;exact At (cj Xr<| @hR)
theorem AT2 (f:AP)(name:ByteArray)(c:Choice)(Q:f.Fit)(R:f.valid=I):AC AF 258 [.agg f.vs,.c (.str name),N4 c] (.c (.bool (KH f name c))):=by
 obtain⟨H,M⟩:=c;cases B:f.I8 name with
 | none=>exact AT3 f name H M Q R B
 | some s=>exact AT4 f name H M s Q R B
def n7:Prop:=∀(f:AP) (s:Bc) (r p:Int),f.Fit->f.valid=I->s∈f.C5->1<=r->r<=1000->1<=p->p<=100->s.parts≠[]->AC AF 259 [.agg f.vs,IU s,r,p] (Ba (V4 f s r p,0))
theorem AET (TM:n7)(f:AP)(name:ByteArray)(c:Choice)(p:Int)(hf:f.Fit)(hc:JF f p=0):AC AF 207 [.agg f.vs,.c (.str name),N4 c,p] (Ba (K5 f name c p)):=by
 obtain⟨z,G8,HN⟩:=AEl hc;obtain⟨B,H⟩:=c;have hk:=AT2 f name ⟨B,H⟩ hf z;simp only[N4]at hk ⊢;cases Q:KH f name ⟨B,H⟩with
 | false =>
   have S:K5 f name ⟨B,H⟩ p=(AA.zero,8):=by unfold K5;rw[Awf (by simp[hc]),Awd Q]
   rw[S];refine en APM ntmps207 ?_;refine Ah ?_;refine gc @Q (hk) gH ?_;refine Ah ?_;exact At (cj8 Akv @AR.eq_1 @Ba.eq_1 @Ao.eq_1 @AA.zero.eq_1 @AA.row.eq_1 @AA.AG.eq_1 @AA.AG.eq_2 @AV.eq_1)
 | true =>
   by_cases h0:H=0;subst h0;have S:K5 f name ⟨B,0⟩ p=QC f B p:=by
    unfold K5 QC;rw[Awf (by simp[hc]),Awf (by simp[Q]),Awd F,Awd z,(Pk z G8 HN B).1]
   rw[S];have M:=pn f B p hf.gl;obtain⟨q,hq⟩:=AI (QC f B p);rw[hq]at M ⊢;obtain⟨⟨bk,bn,bs,bw,bh,bd,bx,Bq,AE,bo,src⟩,e⟩:=q;simp only[Ba,AR,Ao,AA.row,Ap,BB]at M ⊢;refine en APM ntmps207 ?_;refine Ah ?_;refine gc @Q (hk) gH ?_;refine Ah ?_;refine BZ (M) Aao ?_;refine Ah ?_;exact At Akv;obtain⟨s,R,HO,r1,r2,_⟩:=AAI h0 Q;have hs:=(Se R).1;have S:K5 f name ⟨B,H⟩ p=(V4 f s H p,0):=by unfold K5;rw[Awf (by simp[hc]),Awf (by simp[Q]),Awf h0,R];rfl
   rw[S];have M:=TM f s H p hf z hs r1 r2 G8 HN HO;generalize hq:V4 f s H p=b at M ⊢;obtain⟨bk,bn,bs,bw,bh,bd,bx,Bq,AE,bo,src⟩:=b;simp only[Ba,AR,Ao,AA.row,Ap,BB]at M ⊢;refine en APM ntmps207 ?_;refine Ah ?_;refine gc @Q (hk) gH ?_;refine go @h0 ?_;refine gc (cj3 @NK.eq_1 @IU.eq_1 @Bc.row.eq_1 @R) (T7 f name hf z) AFG ?_;refine Ah ?_;refine gc (cj @IU.eq_1<|@Bc.row.eq_1) (M) um ?_;refine Ah ?_;exact At Akv
theorem AaE (R:n7)(f:AP)(name:ByteArray)(c:Choice)(p:Int)(z:f.Fit):AC AF 163 [.agg f.vs,.c (.str name),N4 c,p] (Ba (K5 f name c p)):=by
 obtain⟨M,Q⟩:=c;by_cases B:JF f p=0;have H:=AET R f name ⟨M,Q⟩ p z B;generalize hq:K5 f name ⟨M,Q⟩ p=q at H ⊢;obtain⟨⟨bk,bn,bs,bw,bh,bd,bx,Bq,AE,bo,src⟩,e⟩:=q;simp only[N4,Ba,AR,Ao,AA.row,Ap,BB]at H ⊢;refine en func163 ntmps163 ?_;refine Ah ?_;refine gc (cj @B<|@AR.eq_1) (tV f p) nl ?_;refine Ah ?_;refine BZ (H) APM ?_;refine Ah ?_;exact At results163;have S:K5 f name ⟨M,Q⟩ p=(AA.zero,JF f p):=by unfold K5;rw[Awd (by simp[B])]
 rw[S];unfold N4;refine en func163 ntmps163 ?_;refine Ah ?_;refine gc @AR.eq_1 (tV f p) nl ?_;refine go @B ?_;exact At (cj8 results163 @AR.eq_1 @Ba.eq_1 @Ao.eq_1 @AA.zero.eq_1 @AA.row.eq_1 @AA.AG.eq_1 @AA.AG.eq_2 @AV.eq_1)
theorem ACC (TM:n7)(f:AP)(name:ByteArray)(B p:Int)(hf:f.Fit):AC AF 174 [.agg f.vs,.c (.str name),B,p] (Ba (Hv f name B p)):=by
 by_cases M:JF f p=0;obtain⟨hv,G8,HN⟩:=AEl M;have R:Hv f name B p=K5 f name (J2 f name B p) p:=by unfold Hv;rw[Awf (by simp[M])]
 rw[R];have H:=AaU f name B p hf hv G8 HN;generalize A0:J2 f name B p=c at H ⊢;obtain⟨S,z⟩:=c;have Q:=AET TM f name ⟨S,z⟩ p hf M;generalize hq:K5 f name ⟨S,z⟩ p=q at Q ⊢;obtain⟨⟨bk,bn,bs,bw,bh,bd,bx,Bq,AE,bo,src⟩,e⟩:=q;simp only[N4,Ba,AR,Ao,AA.row,Ap,BB]at H Q ⊢;refine en Jy ntmps174 ?_;refine Ah ?_;refine gc (cj @M<|@AR.eq_1) (tV f p) nl ?_;refine Ah ?_;refine BZ (H) func213 ?_;refine BZ (Q) APM ?_;refine Ah ?_;exact At ARs;have R:Hv f name B p=(AA.zero,JF f p):=by unfold Hv;rw[Awd (by simp[M])]
 rw[R];refine en Jy ntmps174 ?_;refine Ah ?_;refine gc @AR.eq_1 (tV f p) nl ?_;refine go @M ?_;exact At (cj8 ARs @AR.eq_1 @Ba.eq_1 @Ao.eq_1 @AA.zero.eq_1 @AA.row.eq_1 @AA.AG.eq_1 @AA.AG.eq_2 @AV.eq_1)
theorem AWH (s:Bc)(r:Int):AC AF 292 [IU s,r] (.fn 303 [.cp s.row 0,.cp [.int .i64 r] 0]):=by
 unfold IU;refine AC.intro func292 rfl ?_;simp only[ntmps292,Ap,BB,BA,BO,Nat.reduceAdd,Nat.reduceSub,BY,Cy,BK,BU,Bc.row];with_reducible refine AW.seq ?_
 with_reducible refine AW.region ?_
 with_reducible refine If (by simp[BY];first|exact rfl|exact⟨F,F⟩) ?_
 with_reducible refine Kz ?_
 with_reducible refine G3 ?_
 refine Cn 0 ?_;refine Cn 1 ?_;refine Ah ?_;exact At (cj results292<| @Bc.row.eq_1)
def XJ (r:Int)(l:List CR)(i:Fin (G l)):List (Fin (G l)):=Aq (times r l[i]).toNat i
def upto (r:Int)(l:List CR)(k:Nat):List (Fin (G l)):=((ACu (G l)).take k).flatMap (XJ r l)
def whole (r:Int)(l:List CR):List (Fin (G l)):=upto r l (G l)
theorem tS (k:Nat)(h:k<G l):upto r l (k+1)=upto r l k++XJ r l ⟨k,h⟩:=by
 unfold upto;rw[UD (by simpa using h),AMd];simp
theorem ALs (k:Nat)(h:k<=G l):∃t,whole r l=upto r l k++t:=by
 refine⟨((ACu (G l)).drop k).flatMap (XJ r l),?_⟩;unfold whole upto;rw[<-AMd,List.take_append_drop,Gl ZA]
def xU (l:List CR)(i:Fin (G l)):Value:=.int .i64 (i.val:Int)
def tD (y:Nat)(s:Bc)(r:Int)(k:Nat):List V:=[.yl y,.cp s.row 0,.cp [.int .i64 r] 0,.any,.any,.any,.any,.cp s.row 2,.c (Ek s.parts),.c (.int .i64 (G s.parts)),.c (.int .i64 k),.any,.any,.any,.any,.any,.any,.any,.any,.any,.any,.any,.any,.any,.any,.any,.any]
def LN (y:Nat)(s:Bc)(r:Int)(k:Nat)(m:Int)(j:Nat):List V:=[.yl y,.cp s.row 0,.cp [.int .i64 r] 0,.any,.c (.int .i64 k),.any,.any,.cp s.row 2,.c (Ek s.parts),.c (.int .i64 (G s.parts)),.c (.int .i64 k),.any,.any,.any,.any,.any,.any,.any,.c (.int .i64 m),.c (.int .i64 j),.any,.any,.any,.any,.any,.any,.any]
theorem AWG (s:Bc)(r:Int)(hp:G s.parts<=8)(HP:1<=r)(G9:r<=1000):UU AF 303 [.cp s.row 0,.cp [.int .i64 r] 0] (λy=>#[xU s.parts y]) (λxs=>xs=whole r s.parts) (G (whole r s.parts)):=by
 refine UU.intro func303 rfl rfl λY=>?_
 simp only[ntmps303,BA,BO,Nat.reduceAdd,Nat.reduceSub,BY,Cy,BK,BU];refine ED (cj @Bc.row.eq_1<|@Ek.eq_1) ?_;refine IW.loop (ι:={ k:Nat // k<=G s.parts }) (λk=>(⟨upto r s.parts k.1,U⟩,⟨tD Y.l s r k.1,[]⟩)) (λk=>G s.parts - k.1) ⟨0,Ux⟩ (by simp[upto]) ?_ ?_;refine G1.drop (by simp[DG,tD,Bc.row,Ek]) (by simp[V.BI,V.A8,tD]);rintro ⟨k,hk⟩;simp only[tD];by_cases B:k<G s.parts
 . obtain⟨q,R⟩:=AI (s.parts[k]);have hw:AZ.wrap ((k:Int)+1)=((k+1:Nat):Int):=by rw[Ac];simp
   cases S:q.ext with
   | true =>
     have ht:times r q=r:=by simp[times,S]
     have Q:XJ r s.parts ⟨k,B⟩=Aq (r:Int).toNat ⟨k,B⟩:=by
      unfold XJ;rw[show s.parts[(⟨k,B⟩:Fin (G s.parts))]=q from R,ht]
     refine ED (cj5 @B @R @Bc.row.eq_1 @Ek.eq_1 @CR.row.eq_1 @S) ?_;refine IW.loop (ι:={ j:Nat // (j:Int)<=r }) (λj=>(⟨upto r s.parts k++Aq j.1 ⟨k,B⟩,U⟩,⟨LN Y.l s r k r j.1,[]⟩)) (λj=>(r:Int).toNat - j.1) ⟨0,by simp only[AMX];omega⟩ ZA ?_ ?_;refine G1.drop (by simp[DG,LN,Bc.row,Ek]) (by simp[V.BI,V.A8,LN]);rintro ⟨j,hj⟩;simp only[LN];by_cases M:(j:Int)<r
     . have H:AZ.wrap ((j:Int)+1)=((j+1:Nat):Int):=by rw[Ac];simp
       refine ED @M ?_;refine IL.yield ⟨k,B⟩ (LN Y.l s r k r j) rfl rfl (by simp[ev]) (by first|(simp[ev];exact⟨F,F⟩)|(simp[ev];done)) rfl ?_ (by simp[DG,LN]) (by simp[V.BI,V.A8,LN]) ?_ ?_;obtain⟨t,dH⟩:=ALs r s.parts (k+1) B;rw[dH,tS r s.parts k B,Q];simp only[Cp,H6];omega;simp only[St.put,LN,Ag,Ai,BA,BO,Nat.reduceAdd,BY,Cy];refine ED @H ?_;refine⟨⟨j+1,Ux⟩,by simp only;omega,?_,?_⟩;simp[Sj,GX];exact G1.drop (by simp[DG]) (by simp[V.BI,V.A8]);simp only[St.put,LN,Ag,Ai,BA,BO,Nat.reduceAdd,BY,Cy];refine ED trivial ?_;exact⟨.inr F,λh=>nomatch h⟩
     have z:j=(r:Int).toNat:=Ux;refine ED (cj @M<|@hw) ?_;refine⟨⟨k+1,B⟩,by simp only;omega,?_,?_⟩;simp only[tS r s.parts k B,Q,z];exact G1.drop (by simp[DG]) (by simp[V.BI,V.A8])
   | false =>
     have ht:times r q=1:=by simp[times,S]
     have Q:XJ r s.parts ⟨k,B⟩=Aq (1:Int).toNat ⟨k,B⟩:=by
      unfold XJ;rw[show s.parts[(⟨k,B⟩:Fin (G s.parts))]=q from R,ht]
     refine ED (cj5 @B @R @Bc.row.eq_1 @Ek.eq_1 @CR.row.eq_1 @S) ?_;refine IW.loop (ι:={ j:Nat // (j:Int)<=1 }) (λj=>(⟨upto r s.parts k++Aq j.1 ⟨k,B⟩,U⟩,⟨LN Y.l s r k 1 j.1,[]⟩)) (λj=>(1:Int).toNat - j.1) ⟨0,by simp only[AMX];omega⟩ ZA ?_ ?_;refine G1.drop (by simp[DG,LN,Bc.row,Ek]) (by simp[V.BI,V.A8,LN]);rintro ⟨j,hj⟩;simp only[LN];by_cases M:(j:Int)<1
     . have H:AZ.wrap ((j:Int)+1)=((j+1:Nat):Int):=by rw[Ac];simp
       refine ED @M ?_;refine IL.yield ⟨k,B⟩ (LN Y.l s r k 1 j) rfl rfl (by simp[ev]) (by first|(simp[ev];exact⟨F,F⟩)|(simp[ev];done)) rfl ?_ (by simp[DG,LN]) (by simp[V.BI,V.A8,LN]) ?_ ?_;obtain⟨t,dH⟩:=ALs r s.parts (k+1) B;rw[dH,tS r s.parts k B,Q];simp only[Cp,H6];omega;simp only[St.put,LN,Ag,Ai,BA,BO,Nat.reduceAdd,BY,Cy];refine ED @H ?_;refine⟨⟨j+1,Ux⟩,by simp only;omega,?_,?_⟩;simp[Sj,GX];exact G1.drop (by simp[DG]) (by simp[V.BI,V.A8]);simp only[St.put,LN,Ag,Ai,BA,BO,Nat.reduceAdd,BY,Cy];refine ED trivial ?_;exact⟨.inr F,λh=>nomatch h⟩
     have z:j=(1:Int).toNat:=Ux;refine ED (cj @M<|@hw) ?_;refine⟨⟨k+1,B⟩,by simp only;omega,?_,?_⟩;simp only[tS r s.parts k B,Q,z];exact G1.drop (by simp[DG]) (by simp[V.BI,V.A8])
 refine ED @B ?_;have Ce:k=G s.parts:=Ux;subst Ce;exact⟨.inl F,λ_=>rfl⟩
theorem sK : ∀(vs cs pre post:List V),G cs=G vs->E8 (pre++cs++post) (G pre) vs=pre++vs++post
 | [],cs,pre,post,h=>by have:cs=[]:=Nr h;subst this;simp[E8]
 | v::vs,[],pre,post,h=>by simp at h
 | v::vs,c::cs,pre,post,h=>by
   have ih:=sK vs cs (pre++[v]) post (by simpa using h);simp only[Cp,BA,BO,Cz]at ih;simp only[E8];rw[show (pre++c::cs++post).set (G pre) v=pre++[v]++cs++post by simp,ih];simp
def Ih (f:AP)(p:Int)(l:List CR)(k:Nat):List V:=((l.take k).map λq=>(DB f q.name p).1.row.map V.c).flatten++(Aq (G l - k) BT).flatten
def I0 (f:AP)(l:List CR)(k:Nat):List V:=((l.take k).map λq=>[V.c (.int .i64 (f.pick q.name).Dy)]).flatten++(Aq (G l - k) [V.c (.int .i64 0)]).flatten
theorem sq : ∀b:AA,G b.row=11:=by rintro ⟨_,_,_,_,_,_,_,_,_,_,_⟩;rfl
theorem AN2 (f:AP)(p:Int)(l:List CR)(k:Nat)(h:k<=G l):G (Ih f p l k)=G l*11:=by
 unfold Ih;rw[Cp,K7 (es:=11),K7 (es:=11)];simp only[Ch,Fa,H6,Vi h,<-Gz];congr 1
 omega;intro r B;rw[UA B];rfl;intro r B;obtain⟨q,_,rfl⟩:=Da.1 B;rw[Ch,sq]
theorem ASq (f:AP)(l:List CR)(k:Nat)(h:k<=G l):G (I0 f l k)=G l:=by
 unfold I0;rw[Cp,K7 (es:=1),K7 (es:=1)];simp only[Ch,Fa,H6,Vi h];omega;intro r B;rw[UA B];rfl;intro r B;obtain⟨q,_,rfl⟩:=Da.1 B;rfl
theorem AN3 (f:AP)(p:Int)(l:List CR)(k:Nat)(h:k<G l):E8 (Ih f p l k) (k*11) ((DB f l[k].name p).1.row.map V.c)=Ih f p l (k+1):=by
 have B:G (((l.take k).map λq=>(DB f q.name p).1.row.map V.c).flatten)=k*11:=by
  rw[K7 (es:=11)];simp only[Ch,Fa,Vi (LZ h)];intro r H;obtain⟨q,_,rfl⟩:=Da.1 H;rw[Ch,sq]
 have e:G l - k=(G l - (k+1))+1:=Ux;unfold Ih;rw[e,BY,Hp,<-GX,<-B,sK _ _ _ _ (by rw[Ch,sq];rfl),UD h,Fm,Vd];simp
theorem ASr (f:AP)(l:List CR)(k:Nat)(h:k<G l):E8 (I0 f l k) k [V.c (.int .i64 (f.pick l[k].name).Dy)]=I0 f l (k+1):=by
 have B:G (((l.take k).map λq=>[V.c (.int .i64 (f.pick q.name).Dy)]).flatten)=k:=by
  rw[K7 (es:=1)];simp only[Ch,Fa,Vi (LZ h),Nat.mul_one];intro r H;obtain⟨q,_,rfl⟩:=Da.1 H;rfl
 have e:G l - k=(G l - (k+1))+1:=Ux;unfold I0;rw[e,BY,Hp,<-GX];conv=>lhs;arg 2;rw[<-B]
 rw[sK _ [V.c (.int .i64 0)] _ _ ZA,UD h,Fm,Vd];simp
theorem ew {n p:Int}(B:0<=n)(H:0<=p):0<=AU n p:=by
 unfold AU;split;unfold Ea;rw[Awd (RB B H)];have:=RB B H;omega;omega
theorem AWF {f:AP}(h:f.valid=I)(name:ByteArray):0<=(f.pick name).w:=by
 have key : ∀g∈f.DR,0<=g.w:=by
  intro g M;have:=Z8 h g M;simp[Lo,DX]at this;omega
 unfold AP.pick;cases B:f.find name with
 | some g=>exact key g (cA B)
 | none =>
   cases H:f.find ⟨#[63]⟩with
   | some g=>exact key g (cA H)
   | none=>simp[BG.zero]
theorem ACX {f:AP}(B:f.valid=I){p:Int}(H:1<=p)(M:p<=100)(name:ByteArray):0<=(DB f name p).1.w/\(DB f name p).1.w<=400000/\ -200000<=(DB f name p).1.d/\(DB f name p).1.d<=200000:=by
 rw[(Pk B H M name).1];have S:=Zv B H M name;have Q:=AWF B name;have q:0<=((f.pick name).scaled p).w:=ew Q Ux;have R:=Ql B name;unfold BG.Small at R;have z:=lJ (f.pick name).Ey p Ux Ux H Ux;simp only[N7,mx];have e:((f.pick name).scaled p).Ey=AU (f.pick name).Ey p:=F;rw[e];split<;>omega
theorem oy (n:Nat):∀l:List V,V.BI n l=I↔∀v∈l,v.A8 n=I
 | []=>by simp[V.BI]
 | v::l=>by simp[V.BI,oy n l]
theorem pA (n:Nat)(f:AP)(p:Int)(l:List CR)(k:Nat):V.BI n (Ih f p l k)=true:=by
 rw[oy];intro v B;unfold Ih at B;rcases MJ.1 B with h|h
 obtain⟨r,H,B⟩:=gA.1 h;obtain⟨q,_,rfl⟩:=Da.1 H;obtain⟨c,_,rfl⟩:=Da.1 B;rfl;obtain⟨r,H,B⟩:=gA.1 h;rw[UA H]at B;simp only[BT,Cf,List.not_mem_nil,Awj]at B;rcases B with rfl|rfl|rfl|rfl|rfl|rfl|rfl|rfl|rfl|rfl|rfl<;>rfl
theorem rJ (n:Nat)(f:AP)(l:List CR)(k:Nat):V.BI n (I0 f l k)=true:=by
 rw[oy];intro v B;unfold I0 at B;rcases MJ.1 B with h|h
 obtain⟨r,H,B⟩:=gA.1 h;obtain⟨q,_,rfl⟩:=Da.1 H;simp only[LY]at B;subst B;rfl;obtain⟨r,H,B⟩:=gA.1 h;rw[UA H]at B;simp only[LY]at B;subst B;rfl
def Li (f:AP)(p:Int)(l:List CR):List (List C):=l.map λq=>(DB f q.name p).1.row
def FK (f:AP)(l:List CR):List (List C):=l.map λq=>[.int .i64 (f.pick q.name).Dy]
theorem toCs_mapV : ∀l:List C,toCs (l.map V.c)=J l
 | []=>rfl
 | c::l=>by simp only[Ap,toCs,toC,toCs_mapV l]
theorem WN : ∀l:List (List C),(l.map (Vf V.c)).flatten=l.flatten.map V.c
 | []=>rfl
 | r::l=>by simp only[Ap,Hp,Fm,WN l]
theorem AN0 (f:AP)(p:Int)(l:List CR):toCs (Ih f p l (G l))=J (Li f p l).flatten:=by
 have e:Ih f p l (G l)=(Li f p l).flatten.map V.c:=by
  unfold Ih Li;rw[Sn,La,Cy,RC,E5,<-WN,M7];rfl
 rw[e,toCs_mapV]
theorem ASo (f:AP)(l:List CR):toCs (I0 f l (G l))=J (FK f l).flatten:=by
 have e:I0 f l (G l)=(FK f l).flatten.map V.c:=by
  unfold I0 FK;rw[Sn,La,Cy,RC,E5,<-WN,M7];rfl
 rw[e,toCs_mapV]
theorem AEU (f:AP)(p:Int)(l:List CR):Hc 11 (G l) (Li f p l).flatten=Li f p l:=by
 have:=bZ (es:=11) (Li f p l) (by intro r B;obtain⟨q,_,rfl⟩:=Da.1 B;exact sq _);rwa [show G (Li f p l)=G l by simp[Li]]at this
theorem AHa (f:AP)(l:List CR):Hc 1 (G l) (FK f l).flatten=FK f l:=by
 have:=bZ (es:=1) (FK f l) (by intro r B;obtain⟨q,_,rfl⟩:=Da.1 B;rfl);rwa [show G (FK f l)=G l by simp[FK]]at this
theorem AFl (row:List C)(f:AP)(p:Int)(l:List CR):V.Cs k row (Ih f p l (G l))=Ih f p l (G l):=by
 have e:Ih f p l (G l)=(Li f p l).flatten.map V.c:=by
  unfold Ih Li;rw[Sn,La,Cy,RC,E5,<-WN,M7];rfl
 rw[e,YN]
theorem AFn (row:List C)(f:AP)(l:List CR):V.Cs k row (I0 f l (G l))=I0 f l (G l):=by
 have e:I0 f l (G l)=(FK f l).flatten.map V.c:=by
  unfold I0 FK;rw[Sn,La,Cy,RC,E5,<-WN,M7];rfl
 rw[e,YN]
def bot (f:AP)(ov:Int):Int->List CR->Int
 | b,[]=>b
 | b,q::l=>bot f ov (b+((f.pick q.name).Dy - ov)) l
theorem AER (f:AP)(B:Int):∀(l:List CR) (b:Int) (q:CR),bot f B b (l++[q])=bot f B b l+((f.pick q.name).Dy - B)
 | [],b,q=>rfl
 | x::l,b,q=>by simp only[BK,bot];exact AER f B l _ q
theorem AH9 (f:AP)(B p:Int):∀(l:List CR) (b:Int) (q:CR),Gp f B p b (l++[q])=Gp f B p b l++[kt f p (bot f B b l) q]
 | [],b,q=>rfl
 | x::l,b,q=>by simp only[BK,Gp,bot];rw[AH9 f B p l _ q]
theorem AAQ (f:AP)(B p:Int):∀(l:List CR) (b:Int),G (Gp f B p b l)=G l
 | [],b=>rfl
 | x::l,b=>by simp only[Gp,BA,AAQ f B p l]
theorem AEQ (f:AP)(B:Int)(A:Int):∀(l:List CR) (b:Int),(∀q∈l,0<=(f.pick q.name).Dy - B/\(f.pick q.name).Dy - B<=A)->b<=bot f B b l/\bot f B b l<=b+A*(G l:Int)
 | [],b,_=>by simp[bot]
 | q::l,b,h=>by
   have M:=h q ZA;have ih:=AEQ f B A l (b+((f.pick q.name).Dy - B)) λq H=>h q (by simp[H])
   simp only[bot,BA];have:A*((G l+1:Nat):Int)=A*(G l:Int)+A:=by rw[Int.natCast_add,Int.mul_add];simp
   omega
theorem AJZ (r:Int):∀l:List CR,JR r l=l.flatMap λq=>Aq (times r q).toNat q
 | []=>rfl
 | q::l=>by simp only[JR,List.flatMap_cons,AJZ r l]
theorem AMB :(whole r l).map (λi=>l[i])=JR r l:=by
 rw[AJZ];unfold whole upto;rw[Gl ZA,List.map_flatMap];have e:(ACu (G l)).map (λi=>l[i])=l:=by
  apply List.ext_getElem;simp;intro i B H;simp
 conv=>rhs;rw[<-e]
 rw[List.flatMap_map];congr 1
 funext i;simp[XJ]
theorem AIY : ∀(l:List AA) (m k:Int),k<=m->(m=k\/∃b∈l,m<=b.w)->IS m l=IS k l
 | [],m,k,h,H=>by
   rcases H with rfl|⟨b,M,_⟩
   rfl;cases M
 | b::l,m,k,h,H=>by
   simp only[IS];refine AIY l _ _ (by unfold mx;split<;>split<;>omega) ?_;by_cases Q:m<=b.w;left;unfold mx;split<;>split<;>omega;rcases H with rfl|⟨c,B,R⟩
   exact .inl F;rcases Cf.1 B with rfl|B
   omega;right;exact⟨c,B,by unfold mx;split<;>omega⟩
theorem AIA (f:AP)(B p:Int):∀(l:List CR) (b:Int) (q:CR),q∈l->∃k∈Gp f B p b l,k.w=(DB f q.name p).1.w
 | [],b,q,h=>by cases h
 | x::l,b,q,h=>by
   simp only[Gp];rcases Cf.1 h with rfl|h
   exact⟨_,GH,F⟩;obtain⟨k,H,e⟩:=AIA f B p l _ q h;exact⟨k,Gk _ H,e⟩
theorem AIa {r:Int}(B:1<=r):∀ {l:List CR} {q:CR},q∈l->q∈JR r l
 | x::l,q,h=>by
   simp only[JR,MJ];rcases Cf.1 h with rfl|h
   left;rw[List.mem_replicate];refine⟨?_,F⟩;unfold times;split<;>omega;exact .inr (AIa B h)
theorem AN4 {f:AP}{p:Int}{l:List CR}(h:i<G l):∀B,(Li f p l)[i]'B=(DB f l[i].name p).1.row:=by simp[Li]
theorem AS0 {f:AP}{l:List CR}(h:i<G l):∀B,(FK f l)[i]'B=[.int .i64 (f.pick l[i].name).Dy]:=by simp[FK]
@[simp] theorem AbT (f:AP)(p:Int)(l:List CR):G (Li f p l)=G l:=by simp[Li]
@[simp] theorem AcI (f:AP)(l:List CR):G (FK f l)=G l:=by simp[FK]
theorem Q0 : ∀t:List V,DG t (Aq (G t) .any)
 | []=>rfl
 | v::t=>⟨.inl F,Q0 t⟩
theorem P5 (n:Nat):∀k:Nat,V.BI n (Aq k .any)=I
 | 0=>rfl
 | k+1=>by simp only[BY,V.BI,V.A8,Cd,P5 n k]
theorem Le.ct {m:Mo}{t:List V}{h B:List O}(n:Nat)(H:m.n0<=n)(hh:h.take n=B)(M:(B.all (O.A8 n))=I):Le m ⟨t,h⟩ ⟨Aq (G t) .any,B⟩:=Le.MI n H (Q0 t) hh (P5 n _) M
def tj:List C:=[.int .i64 0,.str ⟨#[]⟩,.int .i64 0,.int .i64 0,.int .i64 0,.int .i64 0,.int .i64 0,.int .i64 0,.sl [],.int .i64 0,.sl []]
theorem pT (k es n:Nat)(row:List C)(l:List C):(l.map V.c).map (V.Db k es n row)=l.map V.c:=by
 rw[M7];rfl
theorem lh (k es n:Nat)(row:List C)(f:AP):f.vs.map (V.Db k es n row)=f.vs:=pT k es n row f.row
theorem AN1 (k es n:Nat)(row:List C)(f:AP)(p:Int)(l:List CR):(Ih f p l (G l)).map (V.Db k es n row)=Ih f p l (G l):=by
 have e:Ih f p l (G l)=(Li f p l).flatten.map V.c:=by
  unfold Ih Li;rw[Sn,La,Cy,RC,E5,<-WN,M7];rfl
 rw[e,pT]
theorem ASp (k es n:Nat)(row:List C)(f:AP)(l:List CR):(I0 f l (G l)).map (V.Db k es n row)=I0 f l (G l):=by
 have e:I0 f l (G l)=(FK f l).flatten.map V.c:=by
  unfold I0 FK;rw[Sn,La,Cy,RC,E5,<-WN,M7];rfl
 rw[e,pT]
theorem tU:n7:=by
 intro f s r p hf hv hs HP G9 G8 HN hp;obtain⟨_,_,g3,g4,g5,g6⟩:=QG hv hs;have D0:0<G s.parts:=Kr.2 hp;obtain⟨B1,B2⟩:=AB3 hv hs HP G9;have yS:=ACT f s r hf hv hs HP G9;obtain⟨T,hT⟩:=AI (LO f s r);rw[hT]at yS B1 B2;have Ew:128*(G s.parts:Int)<=281474976710656:=Ux;have FP:8*(G s.parts:Int)<=281474976710656:=Ux;have GO:(G s.parts:Int)<=9223372036854775807:=Ux;unfold IU at yS ⊢;refine AC.intro um rfl ?_;simp only[ntmps259,Ap,BB,BA,BO,Nat.reduceAdd,Nat.reduceSub,BY,Cy,BK,BU,Bc.row];refine go (cj3 @Ek.eq_1 @Ew @FP @GO) ?_;refine gc (cj @Bc.row.eq_1<|@Ek.eq_1) (yS) Aca ?_;refine BZ (EI T p) nI ?_;refine go @Ek.eq_1 ?_;have e4:(Aq (G s.parts) BT).flatten=Ih f p s.parts 0:=by simp[Ih]
 have e6:Aq (G s.parts) (V.c (.int .i64 0))=I0 f s.parts 0:=by simp[I0]
 simp only[BT]at e4;rw[e4,e6];refine CX (ι:={ q:Nat×Int // q.1<=G s.parts/\0<=q.2/\q.2<=400000/\(q.1≠0->∃pt∈s.parts,q.2=(DB f pt.name p).1.w) }) (λq=>[(38,(q.1.1:Int))]) (λq=>[O.box 27 f.vs U,O.box 74 [.c (.str s.name),.c (Gv s.sizes),.c (.sl (s.parts.map CR.row)),s.Dc] U,O.box 3 [p] U,O.box 56 BT U,O.box 56 (Ih f p s.parts q.1.1) U,O.box 54 [.own 4 0 (G s.parts) 11] U,O.box 3 (I0 f s.parts q.1.1) U,O.box 39 [.own 6 0 (G s.parts) 1] U,O.box 56 (Nf q.1.2 (AU T p) (.Bg [])) U]) (λq=>G s.parts - q.1.1) ⟨(0,0),CI _,ZA,ZA,ZA⟩ ?_ ?_;exact ER (cj @Nf.eq_1<|@BT.eq_1)
 . rintro ⟨⟨k,wl⟩,hk,w1,w2,w3⟩;simp only at hk w1 w2 w3 ⊢;by_cases Q:k<G s.parts
   . obtain⟨q,hq⟩:=AI (s.parts[k]);have U5:q∈s.parts:=hq ▸ Kq Q;have hw:AZ.wrap ((k:Int)+1)=((k+1:Nat):Int):=by rw[Ac];simp
     have hc:=pn f q.name p hf.gl;have Yy:=AN3 f p s.parts k Q;have dE:=ASr f s.parts k Q;have qe:k*11+11<=G (Ih f p s.parts k):=by rw[AN2 _ _ _ _ hk];omega
     have Yn:k+1<=G (I0 f s.parts k):=by rw[ASq _ _ _ hk];omega
     rw[hq]at Yy dE;have Y7:=ACX hv G8 HN q.name;have PI:QC f q.name p=((DB f q.name p).1,0):=by
      unfold QC;rw[Awd hv,(Pk hv G8 HN q.name).1]
     rw[PI]at hc;obtain⟨B,hB⟩:=AI ((DB f q.name p).1);have A0 : ∃pt∈s.parts,B.w=(DB f pt.name p).1.w:=⟨q,U5,by rw[hB]⟩
     rw[hB]at hc Yy Y7;obtain⟨bk,bn,bs,bw,bh,S,bx,Bq,EU,bo,Et⟩:=B;simp only[Ba,AR,Ao,AA.row,Ap,BB]at hc Yy Y7 A0;have z:=Ql hv q.name;unfold BG.Small at z;have QS:=dy f q.name hf.gl;obtain⟨g,hg⟩:=AI (f.pick q.name);rw[hg]at z QS dE;have e3:AZ.wrap (g.h+g.d)=g.Dy:=Ac;refine go (cj2 @Q @hq @CR.row.eq_1) ?_;refine BZ (hc) Aao ?_;refine Ah ?_;refine gc (cj @Hg.eq_1<|@BG.row.eq_1) (QS) AEN ?_;(with_reducible first|refine oX (po g) APk ZC ZC ?_ ?_ ?_|refine Xz (po g) APk ZC ZC ?_ ?_ ?_)
     focus (simp[BQ,Hg,BG.row,e3,Yy,dE,qe,Yn,Q];done)
     focus (simp[Ee,Hg,BG.row,e3,Yy,dE,qe,Yn,Q];done)
     first|(with_reducible refine If (by simp[BY,-E8,Hg,BG.row,e3,Yy,dE,qe,Yn,Q];first|exact rfl|exact⟨F,F⟩) ?_)|(with_reducible refine Es (by simp[BY,-E8,Hg,BG.row,e3,Yy,dE,qe,Yn,Q];first|exact rfl|exact⟨F,F,F⟩) ?_)
     refine go (cj @Nf.eq_1<|@hw) ?_;refine⟨⟨(k+1,bw),by simp only;omega,by simp only;omega,by simp only;omega,λ_=>A0⟩,by simp only;omega,?_⟩;refine Le.MI 9 (F2 F) (by simp[DG,Nf,BT,pA,rJ]) (by simp[Nf,BT,pA,rJ]) (by simp[V.BI,V.A8]) (by simp[O.A8,V.BI,V.A8,Nf,BT,pA,rJ])
   . obtain rfl:k=G s.parts:=Ux;have w3:=w3 Ux;refine Ah ?_;refine gc (cj2 @IU.eq_1 @Bc.row.eq_1 @Ek.eq_1) (AWH s r) func292 ?_;refine Ah ?_;refine AW.Bi 4 rfl (AN0 f p s.parts) (by simp[V.Cs,V.Bi,AEU];exact rfl) (by simp[O.Bi,V.Cs,V.Bi,AEU,AFl,AFn,Nf,BT];exact rfl) ?_;refine AW.Bi 6 rfl (ASo f s.parts) (by simp[V.Cs,V.Bi,AHa];exact rfl) (by simp[O.Bi,V.Cs,V.Bi,AHa,AFl,AFn,Nf,BT];exact rfl) ?_;refine AW.le (Le.T4 8 8 56 11 rfl F) ?_;simp only[BA,BO,Nat.reduceAdd,Ag,Ai,BK,BU];have mU:G (whole r s.parts)<=8000:=by
      have h1:=sH HP G9 s.parts;rw[<-AMB,Ch]at h1;omega
     refine AW.range (α:=Fin (G s.parts)) rfl rfl rfl (caps:=[.cp s.row 0,.cp [.int .i64 r] 0]) rfl rfl func303 ZC ZC (xU s.parts) (λy=>.c (.int .i64 ((y.val:Nat):Int))) ?_ (λxs=>xs=whole r s.parts) (G (whole r s.parts)) (AWG s r g3 HP G9)
      (λpre=>[O.box 27 f.vs U,O.box 74 [.c (.str s.name),.c (Gv s.sizes),.c (.sl (s.parts.map CR.row)),.c (.int .i64 s.Dc)] U,O.box 3 [.c (.int .i64 p)] U,O.box 56 BT U,O.box 56 (Ih f p s.parts (G s.parts)) I,O.box 54 [.c (.sl (Li f p s.parts))] U,O.box 3 (I0 f s.parts (G s.parts)) I,O.box 39 [.c (.sl (FK f s.parts))] U,O.box 56 (Nf (IS wl (Gp f s.Dc p 0 (pre.map λi=>s.parts[i]))) (AU T p) (.gr 10 11 (AA.AG (Gp f s.Dc p 0 (pre.map λi=>s.parts[i]))))) U,O.box 3 [.c (.int .i64 (bot f s.Dc 0 (pre.map λi=>s.parts[i])))] U,O.tok 56 11 (G (Gp f s.Dc p 0 (pre.map λi=>s.parts[i])))]) ?_ 11 (λ_=>rfl) ZA ?_ ?_
     intro x' W y;simp only[CV,Ab,xU];exact⟨trivial,Q8 (by have:=y.isLt;unfold maxLen;omega)⟩;simp[Gp,IS,AA.AG,bot,Nf,BT]
     . rintro lp pre ⟨i,hi⟩ hN;simp only[Fm,Ap,BB,AH9,AER,Ag,Ai];obtain⟨L,hL⟩:=AI ((pre.map λi=>s.parts[i]));have Io:G L<8000:=by rw[<-hL,Ch];omega
       have A2 : ∀q∈L,q∈s.parts:=by
        intro q hq;rw[<-hL]at hq;obtain⟨j,_,rfl⟩:=Da.1 hq;exact Kq j.isLt
       have A3:=AEQ f s.Dc 40000 L 0 (λq hq=>by
        have h1:=g6 q (A2 q hq);have z:=Ql hv q.name;unfold BG.Small at z;unfold BG.Dy at h1 ⊢;omega)
       rw[hL];obtain⟨b,hb⟩:=AI (bot f s.Dc 0 L);have Ce:G (Gp f s.Dc p 0 L)=G L:=AAQ _ _ _ _ _;obtain⟨M,QO⟩:=AI (Gp f s.Dc p 0 L);rw[hb]at A3;rw[QO]at Ce;simp only[hb,QO];obtain⟨q,hq⟩:=AI (s.parts[i]);have U5:q∈s.parts:=hq ▸ Kq hi;have A5:=g6 q U5;have Ct:=AN4 (f:=f) (p:=p) hi;have jq:=AS0 (f:=f) hi;have Y7:=ACX hv G8 HN q.name;rw[hq]at Ct jq;have HM:s.parts[(⟨i,hi⟩:Fin (G s.parts))]=q:=hq;simp only[HM];have yK:kt f p b q={ (DB f q.name p).1 with y:=AU b p+(DB f q.name p).1.d }:=F;generalize hB:(DB f q.name p).1=B at Ct Y7 yK;obtain⟨bk,bn,bs,bw,bh,S,bx,Bq,EU,bo,Et⟩:=B;simp only[AA.row]at Ct Y7 yK;have z:=Ql hv q.name;unfold BG.Small at z;obtain⟨g,hg⟩:=AI (f.pick q.name);rw[hg]at z A5 jq;simp only[yK,hg];have B8:g.Dy=g.h+g.d:=F;have B3:AZ.wrap (g.Dy - s.Dc)=g.Dy - s.Dc:=Ac;have wb:AZ.wrap (b+(g.Dy - s.Dc))=b+(g.Dy - s.Dc):=Ac;have Y2:=AKe (n:=b) (p:=p) Ux Ux Ux Ux;have B0:AZ.wrap (AU b p+S)=AU b p+S:=Ac;have FO:G M+1<=maxLen:=by unfold maxLen;omega
       have EX:(G M+1)*128<=140737488355328:=Ux;have Bn:AA.AG (M++[⟨bk,bn,bs,bw,bh,S,bx,AU b p+S,EU,bo,Et⟩])=AA.AG M++[[.int .i64 bk,.str bn,.int .i64 bs,.int .i64 bw,.int .i64 bh,.int .i64 S,.int .i64 bx,.int .i64 (AU b p+S),.sl (AA.AG EU),.int .i64 bo,AV Et]]:=by rw[lG];rfl
       have l9:IS wl (M++[⟨bk,bn,bs,bw,bh,S,bx,AU b p+S,EU,bo,Et⟩])=if IS wl M<bw then bw else IS wl M:=by rw[AIZ];rfl
       refine go (cj2 @hi @Ct @Nf.eq_1) ?_;refine gc @B0 (EI b p) nI ?_;refine go @Nf.eq_1 ?_;have A1:G (AA.AG M)+1<=maxLen:=by rw[GA];exact FO
       have U3:(G (AA.AG M)+1)*128<=140737488355328:=by rw[GA];exact EX
       refine AW.Lm Fz (.inr ZB) ?_;refine TW.take 5 (Es (by simp[BY];exact⟨F,F⟩) (HI ?_));simp only[CU,B9];refine TW.op ⟨.Be 10 11 (AA.AG M),J (10,.Be 56 11 (G (AA.AG M)+1) (tj.map V.c)),J 10⟩ rfl (by intro k ob h;cases h;simp) ?_ ?_;intro S0 w0 x a w H g R A9;have hY:CV x w (.gr 10 11 (AA.AG M)) (a.eval (.tmp 93)):=R (.tmp 93) (by simp[Bl,Df]);have hZ:CV x w (.Bg [tj]) (a.eval (.tmp 96)):=R (.tmp 96) (by simp[Bl,Df]);simp only[CV]at hZ;obtain⟨_,_,hZ⟩:=hZ;exact dk g rfl AnQ hY hZ Ux rfl A1 U3 (by rw[A9 10 rfl,GA];rfl);simp only[St.step,St.put,Bk,BA,BO,Nat.reduceAdd,Nat.reduceLT,Awg,Ag,Ai,BU,BK];refine TW.op ⟨.hp 10 (G (AA.AG M)+1) (G (AA.AG M)*11),E,J 10⟩ rfl (by intro k ob h;cases h) ?_ ?_;intro S0 w0 x a w H g R A9;have hY:CV x w (.Be 10 11 (AA.AG M)) (a.eval (.tmp 97)):=R (.tmp 97) (by simp[Bl]);have hZ:CV x w (.c (.int .i64 (G M:Int))) (a.eval (.tmp 95)):=R (.tmp 95) (by simp[Bl]);exact r7 g rfl hY (by rw[GA];exact hZ) AnQ (A9 10 F);simp only[St.step,St.put,Bk,BA,BO,Nat.reduceAdd,Nat.reduceLT,Awg,Ag,Ai,BU,BK];refine TW.op ⟨.any,J (10,.Be 56 11 (G (AA.AG M)+1) [.c (.int .i64 bk),.c (.str bn),.c (.int .i64 bs),.c (.int .i64 bw),.c (.int .i64 bh),.c (.int .i64 S),.c (.int .i64 bx),.c (.int .i64 (AU b p+S)),.c (.sl (AA.AG EU)),.c (.int .i64 bo),.c (AV Et)]),J 10⟩ rfl (by intro k ob h;cases h;simp) ?_ ?_;intro S0 w0 x a w H g R A9;have hY:CV x w (.hp 10 (G (AA.AG M)+1) (G (AA.AG M)*11)) (a.eval (.tmp 98)):=R (.tmp 98) (by simp[Bl]);have hZ:=R (.tmp 94) (by simp[Bl]);exact AI5 g (q:=(I,11)) rfl AtO hY hZ (A9 10 F) rfl rfl rfl F;simp only[St.step,St.put,Bk,BA,BO,Nat.reduceAdd,Nat.reduceLT,Awg,Ag,Ai,BU,BK];refine TW.take 2 (Es (by simp[BY];exact⟨F,F⟩) (HI (TW.nil ⟨ZC,?_⟩)));refine G3 ?_;refine AW.le (Le.Db 10 (ty:=56) (es:=11) (n:=G M) (cs:=Vf V.c [.int .i64 bk,.str bn,.int .i64 bs,.int .i64 bw,.int .i64 bh,.int .i64 S,.int .i64 bx,.int .i64 (AU b p+S),.sl (AA.AG EU),.int .i64 bo,AV Et]) (row:=[.int .i64 bk,.str bn,.int .i64 bs,.int .i64 bw,.int .i64 bh,.int .i64 S,.int .i64 bx,.int .i64 (AU b p+S),.sl (AA.AG EU),.int .i64 bo,AV Et]) rfl (toCs_mapV _) ?_) ?_
       . intro j ty es B7 cs h;iterate 10 (rcases j with _|j;· simp at h)
         rcases j with _|j
         rfl;rcases j with _|j
         simp at h;simp at h
       simp only[Ap,BB,V.Db,O.Db,GA,and_self,Awg,AN1,ASp,lh,BT];refine go (cj3 @hi @jq @B3 @wb) ?_;refine⟨F,_,Le.ct 11 (F2 F) ?_ ?_⟩;simp[Bn,l9,Nf,BT];simp[O.A8,V.BI,V.A8,Nf,BT,pA,rJ]
     rintro xs rfl;rw[AMB];obtain⟨M,QO⟩:=AI (Gp f s.Dc p 0 (JR r s.parts));have A6:IS wl M=IS 0 M:=by
      obtain⟨pt,kE,e⟩:=w3;obtain⟨b,hb,e2⟩:=AIA f s.Dc p (JR r s.parts) 0 pt (AIa HP kE);rw[QO]at hb;exact AIY M wl 0 w1 (.inr ⟨b,hb,Ux⟩)
     have hR:Ba (V4 f s r p,0)=.A7 [.agg [.c (.int .i64 3),.c (.str ⟨#[]⟩),.c (.int .i64 0),.c (.int .i64 (IS 0 M)),.c (.int .i64 (AU T p)),.c (.int .i64 0),.c (.int .i64 0),.c (.int .i64 0),.c (.sl (AA.AG M)),.c (.int .i64 0),.c (.sl [])],.c (.int .i64 0)]:=by
      unfold Ba Ao V4;rw[QO,hT];rfl
     rw[hR];simp only[QO,A6];refine go (cj @Nf.eq_1<|@BT.eq_1) ?_;exact At results259
theorem AKd {n p:Int}(M : -1000000000<=n)(Q:n<=1000000000)(B:0<=p)(H:p<=100): -1000000001<=AU n p/\AU n p<=1000000001:=by
 rw[<-ABa Ux Ux B Ux];have m:=Qh n p 1000000000 100 Ux Ux B H;unfold Ea;split<;>omega
theorem AFp {f:AP}{p H:Int} : ∀ {l:List ByteArray} {n:ByteArray},TG f p H l=J n->∃j:Nat,l[j]?=J n/\H<=XV f n p/\∀(i:Nat) (m:ByteArray),i<j->l[i]?=J m->XV f m p<H
 | [],n,h=>by simp[TG]at h
 | x::r,n,h=>by
   simp only[TG]at h;split at h;simp only[BL]at h;subst h;exact⟨0,F,Awa,λi m S=>by omega⟩;rename_i q;obtain⟨j,M,Q,R⟩:=AFp h;refine⟨j+1,by simpa using M,Q,λi m S B=>?_⟩;match i,B with
   | 0,B=>simp at B;subst B;omega
   | i+1,B=>exact R i m Ux (by simpa using B)
theorem ALG (f:AP)(s:Bc)(p B:Int):∀k:Nat,1000 - (k:Int)<=LM f s p B k/\LM f s p B k<=1000/\(∀r:Int,1000 - (k:Int)<=r->r<LM f s p B k->AU (LO f s r) p<B)/\(LM f s p B k<1000->B<=AU (LO f s (LM f s p B k)) p)
 | 0=>by simp[LM];intro r R M;omega
 | k+1=>by
   obtain⟨R,M,S,q⟩:=ALG f s p B k;simp only[LM];split;rename_i h;refine⟨by push_cast;omega,Ux,λr H Q=>by push_cast at H;omega,λ_=>h⟩;rename_i h;refine⟨by push_cast;omega,M,λr H Q=>?_,q⟩;by_cases e:r=1000 - ((k:Int)+1)
   subst e;omega;exact S r (by push_cast at H;omega) Q
theorem yk {x:ByteArray} : ∀ {l:List ByteArray},x∈l->KX x l=I
 | y::r,h=>by
   simp only[KX];split;rfl;rename_i B;rcases Cf.1 h with rfl|h
   exact absurd rfl B;exact yk h
theorem AUW {α:Type}{l:List α}{x:α}(h:l[i]?=J x):x∈l:=Cj h
theorem AEm {f:AP}(hv:f.valid=I)(name:ByteArray)(H p:Int):KH f name (J2 f name H p)=true:=by
 cases B:f.I8 name with
 | none =>
   have e:J2 f name H p=⟨name,0⟩:=by unfold J2;rw[B]
   rw[e];unfold KH;rw[B];simp
 | some s =>
   obtain⟨g1,_⟩:=QG hv (Se B).1;cases Q:TG f p H s.sizes with
   | some n =>
     have e:J2 f name H p=⟨n,0⟩:=by unfold J2;rw[B];simp only[WA];rw[Q]
     obtain⟨j,S,_⟩:=AFp Q;rw[e];unfold KH;rw[B];simp only[Awg];exact yk (AUW S)
   | none =>
     by_cases R:s.parts=[]
     have M:G s.sizes - 1<G s.sizes:=Ux;have e:J2 f name H p=⟨s.sizes[G s.sizes - 1],0⟩:=by
      unfold J2;rw[B];simp only[WA];rw[Q];simp only[R,Awg];rw[Bv,BE M];rfl
     rw[e];unfold KH;rw[B];simp only[Awg];exact yk (Kq M);have e:J2 f name H p=⟨⟨#[]⟩,LM f s p H 999⟩:=by unfold J2;rw[B];simp only[WA];rw[Q];simp only[R,Awh]
     obtain⟨S,h2,_⟩:=ALG f s p H 999;have hl:0<G s.parts:=Kr.2 R;have q:1<=LM f s p H 999:=Ux;have z : ¬LM f s p H 999=0:=Ux;rw[e];unfold KH;rw[B];simp[z,hl,q,h2]
theorem DM {p:Int}(H:0<=p)(M:p<=100): -1073741824<=AU n p/\AU n p<=1073741824:=by
 unfold AU;split;rename_i h;obtain⟨B,_,_⟩:=h;simp[An]at B;have:=Qh n p 1073741824 100 Ux Ux Ux Ux;exact AKS _ _ Ux Ux;omega
theorem J6 : -1073741824<=Bm n/\Bm n<=1073741824:=by
 unfold Bm;split;rename_i B;simp[An]at B;unfold Ea;split<;>omega;omega
theorem YJ {name:ByteArray}{g:BG} : ∀ {l:List BG},KU name l=J g->g∈l/\g.name=name
 | [],h=>by simp[KU]at h
 | x::r,h=>by
   simp only[KU]at h;split at h;cases h;exact⟨GH,Awa⟩;have:=YJ h;exact⟨Gk _ this.1,this.2⟩
theorem AWE {f:AP}(Q:f.valid=I)(name:ByteArray)(M:name.size<=16):0<=(f.pick name).w/\(f.pick name).name.size<=16:=by
 have H : ∀g∈f.DR,0<=g.w/\g.name.size<=16:=by
  intro g B;have:=Z8 Q g B;simp[Lo,DX,Ck]at this;omega
 unfold AP.pick;split;rename_i g B;exact H g (YJ B).1;split;rename_i g B;exact H g (YJ B).1;simp[BG.zero,M]
structure oH (b:AA):Prop where
 Fq:b.Fq
 BX:b.BX
 fit:b.fit
 cnt:b.cnt<=8001
 h1 : -1000000001<=b.h
 h2:b.h<=1000000001
 d1 : -1000000001<=b.d
 d2:b.d<=1000000001
 w1:0<=b.w
 w2:b.w<=400000
theorem lQ {f:AP}(B:f.valid=I){p:Int}(H:1<=p)(M:p<=100){name:ByteArray}(S:name.size<=16):oH (DB f name p).1/\(DB f name p).1.AE=[]/\(DB f name p).1.cnt=1:=by
 obtain⟨e,_⟩:=Pk B H M name;have R:=Zv B H M name;obtain⟨z,k2⟩:=AWE B name S;rw[e];have q:0<=((f.pick name).scaled p).w:=ew z Ux;have Q:((f.pick name).scaled p).name.size<=16:=k2;generalize hG:(f.pick name).scaled p=G at R q Q ⊢;have hm:0<=mx 0 G.Ey/\mx 0 G.Ey<=200000:=by rw[DU];omega
 refine⟨⟨?_,?_,?_,?_,?_,?_,?_,?_,?_,?_⟩,F,?_⟩;simp[N7,AA.Fq,AA.JH];simp[N7,AA.BX,AA.FY,maxLen];omega;simp[N7,AA.fit,AA.fits,maxLen];simp[N7,AA.cnt,AA.Az];all_goals simp only[N7,AA.cnt,AA.Az]
 all_goals omega
theorem AA9 {f:AP}(hv:f.valid=I){p:Int}(M:1<=p)(Q:p<=100)(H:Int):∀(l:List CR) (b:Int),(∀q∈l,q.name.size<=16)->AA.JH (Gp f H p b l)/\AA.FY (Gp f H p b l)/\AA.fits (Gp f H p b l)/\AA.Az (Gp f H p b l)=G l/\∀m,0<=m->m<=400000->0<=IS m (Gp f H p b l)/\IS m (Gp f H p b l)<=400000
 | [],b,_=>by
   simp only[Gp,AA.JH,AA.FY,AA.fits,AA.Az,IS,BO,true_and];exact λm M Q=>⟨M,Q⟩
 | q::l,b,hq=>by
   obtain⟨i1,i2,i3,i4,i5⟩:=AA9 hv M Q H l (b+((f.pick q.name).Dy - H)) λx hx=>hq x (Gk _ hx)
   obtain⟨z,hk,R⟩:=lQ hv M Q (hq q GH);simp only[Gp,kt,AA.JH,AA.FY,AA.fits,AA.Az,IS];generalize hB:(DB f q.name p).1=B at z hk R ⊢;obtain⟨o1,o2,o3,o4,_,_,_,_,o9,S⟩:=z;obtain⟨bk,bn,bs,bw,bh,bd,bx,Bq,EU,bo,Et⟩:=B;simp only[AA.Fq,AA.BX,AA.fit,AA.cnt]at o1 o2 o3 R o9 S ⊢;refine⟨⟨o1,i1⟩,⟨o2,i2⟩,⟨o3,i3⟩,by rw[R,i4,BA];omega,λm m1 m2=>i5 _ ?_ ?_⟩;all_goals (rw[DU];omega)
theorem AA0 (H:ByteArray->Option Int):∀(l:List CR) (a:Int) (e:Bool) (r:Int×Bool),OW H a e l=J r->∀q∈l,∃h,H q.name=J h
 | [],a,e,r,_,q,B=>by cases B
 | x::l,a,e,r,h,q,B=>by
   simp only[OW]at h;cases M:H x.name with
   | none=>rw[M]at h;cases h
   | some y =>
     rw[M]at h;rcases Cf.1 B with rfl|B
     exact⟨y,M⟩;exact AA0 H l _ _ r h q B
theorem AHX {f:AP}(H:f.valid=I){name:ByteArray}{h:Int}(e:f.ht name=J h):name.size<=16:=by
 simp only[AP.ht,Ia]at e;obtain⟨g,B,_⟩:=e;obtain⟨m,rfl⟩:=YJ B;have:=Z8 H g m;simp[Lo,Ck]at this;omega
theorem AV1 {f:AP}(Q:f.valid=I){s:Bc}(hs:s∈f.C5):∀q∈s.parts,q.name.size<=16:=by
 intro q H;have h:=Z9 Q s hs;simp only[Oh,Ak]at h;obtain⟨_,_,B⟩:=h;rw[Awf (by intro e;rw[e]at H;cases H)]at B;unfold du at B;cases M:OW f.ht 60000 U s.parts with
 | none=>rw[M]at B;cases B
 | some x=>obtain⟨y,R⟩:=AA0 _ _ _ _ _ M q H;exact AHX Q R
theorem AKy {f:AP}(M:f.valid=I):∀(l:List ByteArray) (a:Int),Sc f.ht a l=I->∀n∈l,n.size<=16
 | [],a,_,n,B=>by cases B
 | x::l,a,h,n,B=>by
   simp only[Sc]at h;cases H:f.ht x with
   | none=>rw[H]at h;cases h
   | some y =>
     rw[H]at h;simp only[Ak]at h;rcases Cf.1 B with rfl|B
     exact AHX M H;exact AKy M l _ h.2 n B
theorem yj {x:ByteArray} : ∀ {l:List ByteArray},KX x l=I->x∈l
 | [],h=>by simp[KX]at h
 | y::l,h=>by
   simp only[KX]at h;split at h;rename_i e;subst e;exact GH;exact Gk _ (yj h)
theorem sG {r:Int} : ∀ {l:List CR} {q:CR},q∈JR r l->q∈l
 | [],q,h=>by simp[JR]at h
 | x::l,q,h=>by
   simp only[JR,MJ]at h;rcases h with h|h
   rw[UA h];exact GH;exact Gk _ (sG h)
theorem find_ok {f:AP}(M:f.valid=I){p:Int}(h1:1<=p)(z:p<=100){name:ByteArray}(hn:name.size<=16)(S:Int):(Hv f name S p).2=0/\oH (Hv f name S p).1:=by
 have hk:JF f p=0:=by unfold JF;rw[Awf (by simp[M]),Awf Ux]
 have H:=AEm M name S p;obtain⟨c,hc⟩:=AI (J2 f name S p);unfold Hv;rw[Awf (by simp[hk]),hc];rw[hc]at H;unfold K5;rw[Awf (by simp[hk]),Awf (by simp[H])];by_cases Q:c.Jo=0;rw[Awd Q];refine⟨by first|rfl|(rw[(Pk M h1 z c.Ln).1]),(lQ M h1 z ?_).1⟩;unfold KH at H;cases B:f.I8 name with
 | none=>rw[B]at H;simp[Q]at H;rw[H];exact hn
 | some s=>rw[B]at H;simp[Q]at H;have R:=(Se B).1;have h:=Z9 M s R;simp only[Oh,Ak]at h;exact AKy M _ _ h.2.1 _ (yj H)
 . rw[Awf Q];obtain⟨s,B,HO,r1,r2,_⟩:=AAI (cg:=c.Ln) (cr:=c.Jo) Q H;have R:=(Se B).1;obtain⟨_,_,g3,_⟩:=QG M R;have hl:=sH r1 r2 s.parts;have Hy : ∀q∈JR c.Jo s.parts,q.name.size<=16:=λq hq=>AV1 M R q (sG hq)
   obtain⟨i1,i2,i3,i4,i5⟩:=AA9 M h1 z s.Dc (JR c.Jo s.parts) 0 Hy;have hw:=i5 0 Ux Ux;obtain⟨t1,t2⟩:=AB3 M R r1 r2;have hh:=AKd (n:=LO f s c.Jo) (p:=p) t1 t2 Ux z;refine⟨F,?_⟩;rw[B];simp only[Dm,V4];refine⟨?_,?_,?_,?_,?_,?_,?_,?_,?_,?_⟩;simp only[AA.Fq];exact⟨ZA,i1⟩;simp only[AA.BX];exact⟨(CI _:0<=maxLen),(CI _:0<=maxLen),i2⟩;simp only[AA.fit];exact⟨by rw[AAQ];unfold maxLen;omega,(CI _:0<=maxLen),i3⟩;simp only[AA.cnt];omega;all_goals simp only
   all_goals omega
theorem HE {f:AP}{s:Aa}(B:f.valid=I)(H:s.ok=I):1<=BS f.params s/\BS f.params s<=100:=by
 have M:Qk f.params=true:=by simp only[AP.valid,Ak]at B;exact B.1.2.2
 simp[Qk,DX,Params.SK]at M;unfold BS;rw[Awf (by simp[H])];split;omega;split<;>omega
def Nj:ByteArray:=⟨#[114,111,111,116]⟩
def F1 (f:AP)(s:Aa):Int:=BS f.params s
def Hl (f:AP)(s:Aa):Int:=AU f.params.rule (F1 f s)
def LJ (f:AP)(s:Aa):Int:=if s.By=0 then Hl f s+AU (AU f.params.Gj (F1 f s)) 25 else Hl f s+AU (Hl f s) 25
def Jm (f:AP)(s:Aa)(b:AA):Int:=b.h+b.d+LJ f s+Hl f s
def EZ (f:AP)(s:Aa)(b:AA):AA:=(Hv f Nj (Jm f s b) (F1 f s)).1
def Tw (f:AP)(s:Aa)(b:AA):Int:=if Jm f s b<(EZ f s b).h+(EZ f s b).d then LJ f s+Bm ((EZ f s b).h+(EZ f s b).d - Jm f s b)else LJ f s
def Tx (f:AP)(s:Aa)(b:AA):Int:=b.h+Tw f s b
def M0 (f:AP)(s:Aa)(b:AA):Int:=Tx f s b+Hl f s
def Qo (f:AP)(s:Aa)(b:AA):Int:=M0 f s b - (EZ f s b).h - (EZ f s b).d
def x8 (f:AP)(s:Aa):Int:=AU f.params.Al (F1 f s)
def VO (f:AP)(s:Aa)(g:AA):Int:=mx 0 (AU (x8 f s) 28+g.w - AU (x8 f s) 56)
def XP (f:AP)(s:Aa)(b g:AA):Int:=Qo f s b+AU (M0 f s b - Qo f s b) 60+mx 0 g.d
def eO (f:AP)(s:Aa):List AA->Int
 | []=>0
 | g::_=>VO f s g
def rdH (f:AP)(s:Aa)(b:AA):List AA->Int
 | []=>mx (M0 f s b) b.h
 | g::_=>mx (mx (M0 f s b) b.h) (XP f s b g+g.h)
def rdD (f:AP)(s:Aa)(b:AA):List AA->Int
 | []=>mx (-(Qo f s b)) b.d
 | g::_=>mx (mx (-(Qo f s b)) b.d) (g.d - XP f s b g)
def rdK (f:AP)(s:Aa)(b:AA):List AA->List AA
 | []=>[]
 | g::_=>[g.AS (VO f s g+AU (x8 f s) 56 - g.w) (XP f s b g)]
def Qp (f:AP)(s:Aa)(b:AA)(IG:List AA):AA:=
 Bf (eO f s IG+(EZ f s b).w+mx 0 b.w) (rdH f s b IG) (rdD f s b IG)
  (rdK f s b IG++[(EZ f s b).AS (eO f s IG) (M0 f s b - (EZ f s b).h),(FV (mx 0 b.w) (Hl f s) 0).AS (eO f s IG+(EZ f s b).w) (Tx f s b),b.AS (eO f s IG+(EZ f s b).w) 0])
def VP (f:AP)(s:Aa)(b:AA)(IG:List AA):AA×Int:=
 if f.valid=U\/s.ok=U\/b.Ad=U\/IG.all AA.Ad=U\/1<G IG then(AA.zero,1)else C8 (Qp f s b IG)
theorem D3 {b:AA}(h:b.Ad=I):(-1073741824<=b.w/\b.w<=1073741824)/\(-1073741824<=b.h/\b.h<=1073741824)/\(-1073741824<=b.d/\b.d<=1073741824)/\b.cnt<=20000:=by
 simp only[AA.Ad,Ak,Awe]at h;obtain⟨B,h2,h3⟩:=h;obtain⟨q,z,bs,bw,S,R,bx,H,M,bo,Q⟩:=b;simp only[AA.D8,AA.Cl,AA.lens,Ak,Ep]at B;simp[An]at B;simp only;omega
mutual
theorem ABD : ∀b:AA,b.D8=I->b.Fq
 | ⟨q,z,bs,bw,S,R,bx,M,H,bo,Q⟩,h=>by
   simp only[AA.D8,AA.Cl,Ak,AA.Js]at h;simp only[AA.Fq];refine⟨?_,AJw H h.2⟩;have B:=h.1.2.2.2;simp only[I7]at B;split at B;simp only[Awe]at B;omega;split at B;simp only[Ak,Awe]at B;omega;split at B;simp only[Ak,Awe]at B;omega;cases B
theorem AJw : ∀l:List AA,AA.FU l=I->AA.JH l
 | [],_=>by simp[AA.JH]
 | b::l,h=>by
   simp only[AA.FU,Ak]at h;simp only[AA.JH];exact⟨ABD b h.1,AJw l h.2⟩
end
theorem GD {b:AA}(h:b.Ad=I):b.Fq:=by
 simp only[AA.Ad,Ak]at h;exact ABD b h.1
theorem HJ {b:AA}(x y:Int)(h:b.Fq):(b.AS x y).Fq:=by cases b;exact h
theorem F4 {b:AA}(x y:Int)(h:b.BX):(b.AS x y).BX:=by cases b;exact h
theorem Hb (x y:Int):(b.AS x y).cnt=b.cnt:=by cases b;rfl
theorem ABd (w h d:Int):(FV w h d).Fq:=by simp[FV,AA.Fq,AA.JH]
theorem ABe (w h d:Int):(FV w h d).BX:=⟨(CI _:0<=maxLen),(CI _:0<=maxLen),trivial⟩
theorem lH (w h d:Int):(FV w h d).cnt=1:=by simp[FV,AA.cnt,AA.Az]
structure AM6 (f:AP)(s:Aa)(b:AA):Prop where
 p1:1<=F1 f s
 p2:F1 f s<=100
 r1 : -1073741824<=Hl f s
 r2:Hl f s<=1073741824
 l1 : -2147483648<=LJ f s
 l2:LJ f s<=2147483648
 sg:oH (EZ f s b)
 g1 : -4294967296<=Tw f s b
 g2:Tw f s b<=4294967296
theorem AKM {f:AP}{s:Aa}{b:AA}(Q:f.valid=I)(S:s.ok=I):AM6 f s b:=by
 obtain⟨R,B⟩:=HE Q S;have M:=DM (p:=F1 f s) f.params.rule (by unfold F1;omega) B;have hx:=DM (p:=25) (AU f.params.Gj (F1 f s)) Ux Ux;have z:=DM (p:=25) (Hl f s) Ux Ux;have H : -2147483648<=LJ f s/\LJ f s<=2147483648:=by
  unfold LJ Hl at *
  split<;>omega
 have q:=(find_ok Q R B (name:=Nj) (by simp[Nj,ByteArray.size]) (Jm f s b)).2;have hh:=J6 ((EZ f s b).h+(EZ f s b).d - Jm f s b);refine⟨R,B,M.1,M.2,H.1,H.2,q,?_,?_⟩;all_goals
  unfold Tw;split<;>omega
@[simp] theorem AA.ACQ (row:List C):V.Cs k row b.vs=b.vs:=by cases b;simp[AA.vs,AA.row,V.Cs,V.Bi]
section
variable (b:AA) (x y:Int)
@[simp] theorem AbP:(b.AS x y).w=b.w:=F
@[simp] theorem AbO:(b.AS x y).h=b.h:=F
@[simp] theorem AbM:(b.AS x y).d=b.d:=F
@[simp] theorem AbQ:(b.AS x y).x=x:=F
@[simp] theorem AbR:(b.AS x y).y=y:=F
theorem at_at (x' B:Int):(b.AS x y).AS x' B=b.AS x' B:=F
end
@[simp] theorem AcZ (w h d:Int):(FV w h d).w=w:=F
@[simp] theorem AcY (w h d:Int):(FV w h d).h=h:=F
@[simp] theorem AcX (w h d:Int):(FV w h d).d=d:=F
@[simp] theorem AP.Aaf (f:AP):f.vs[6]?=J (.c (.int .i64 f.params.VH)):=F
@[simp] theorem AP.AaX (f:AP)(h:6<G f.vs):f.vs[6]'h=.c (.int .i64 f.params.VH):=F
@[simp] theorem AP.Aag (f:AP):f.vs[7]?=J (.c (.int .i64 f.params.Tp)):=F
@[simp] theorem AP.AaY (f:AP)(h:7<G f.vs):f.vs[7]'h=.c (.int .i64 f.params.Tp):=F
@[simp] theorem AP.Aah (f:AP):f.vs[8]?=J (.c (.int .i64 f.params.Uf)):=F
@[simp] theorem AP.AaZ (f:AP)(h:8<G f.vs):f.vs[8]'h=.c (.int .i64 f.params.Uf):=F
@[simp] theorem AP.AiI (f:AP):f.vs[9]?=J (.c (.int .i64 f.params.TE)):=F
@[simp] theorem AP.Ah5 (f:AP)(h:9<G f.vs):f.vs[9]'h=.c (.int .i64 f.params.TE):=F
@[simp] theorem AP.Ah6 (f:AP):f.vs[10]?=J (.c (.int .i64 f.params.Zy)):=F
@[simp] theorem AP.Aht (f:AP)(h:10<G f.vs):f.vs[10]'h=.c (.int .i64 f.params.Zy):=F
@[simp] theorem AP.Ah7 (f:AP):f.vs[11]?=J (.c (.int .i64 f.params.Zz)):=F
@[simp] theorem AP.Ahu (f:AP)(h:11<G f.vs):f.vs[11]'h=.c (.int .i64 f.params.Zz):=F
@[simp] theorem AP.Ah8 (f:AP):f.vs[12]?=J (.c (.int .i64 f.params.Z0)):=F
@[simp] theorem AP.Ahv (f:AP)(h:12<G f.vs):f.vs[12]'h=.c (.int .i64 f.params.Z0):=F
@[simp] theorem AP.Ah9 (f:AP):f.vs[13]?=J (.c (.int .i64 f.params.Qx)):=F
@[simp] theorem AP.Ahw (f:AP)(h:13<G f.vs):f.vs[13]'h=.c (.int .i64 f.params.Qx):=F
@[simp] theorem AP.AiA (f:AP):f.vs[14]?=J (.c (.int .i64 f.params.Qy)):=F
@[simp] theorem AP.Ahx (f:AP)(h:14<G f.vs):f.vs[14]'h=.c (.int .i64 f.params.Qy):=F
@[simp] theorem AP.AiB (f:AP):f.vs[15]?=J (.c (.int .i64 f.params.Q5)):=F
@[simp] theorem AP.Ahy (f:AP)(h:15<G f.vs):f.vs[15]'h=.c (.int .i64 f.params.Q5):=F
@[simp] theorem AP.AiC (f:AP):f.vs[16]?=J (.c (.int .i64 f.params.Qz)):=F
@[simp] theorem AP.Ahz (f:AP)(h:16<G f.vs):f.vs[16]'h=.c (.int .i64 f.params.Qz):=F
@[simp] theorem AP.AiH (f:AP):f.vs[21]?=J (.c (.int .i64 f.params.RO)):=F
@[simp] theorem AP.Ah4 (f:AP)(h:21<G f.vs):f.vs[21]'h=.c (.int .i64 f.params.RO):=F
def NL (f:AP)(s:Aa):Int:=AU f.params.rule (BS f.params s)
def MZ (f:AP)(s:Aa):Int:=AU f.params.FD (BS f.params s) - Bm (NL f s)
def TH (f:AP)(s:Aa):Int:=if s.By=0 then 3*NL f s else NL f s
def YM (f:AP)(s:Aa):Int:=AU (if s.By=0 then f.params.VH else f.params.Tp) (BS f.params s)
def YL (f:AP)(s:Aa):Int:=AU (if s.By=0 then f.params.Uf else f.params.TE) (BS f.params s)
def cF (f:AP)(s:Aa)(n:AA):Int:=mx (YM f s) (MZ f s+NL f s+TH f s+n.d)
def cD (f:AP)(s:Aa)(d:AA):Int:=mx (YL f s) (d.h+TH f s - MZ f s)
def TJ (n d:AA):Int:=mx (mx 0 n.w) d.w
def WO (f:AP)(s:Aa)(n d:AA):AA:=
 Bf (TJ n d) (mx (cF f s n+n.h) (MZ f s+NL f s)) (mx (d.d+cD f s d) (-(MZ f s)))
  [n.AS (Bm (TJ n d - n.w)) (cF f s n),(FV (TJ n d) (NL f s) 0).AS 0 (MZ f s),d.AS (Bm (TJ n d - d.w)) (-(cD f s d))]
def cE (f:AP)(s:Aa)(n d:AA):AA×Int:=if f.valid=U\/s.ok=U\/n.Ad=U\/d.Ad=U then(AA.zero,1)else C8 (WO f s n d)
mutual
def AA.simp:AA->Option AA
 | ⟨k,n,s,w,h,d,x,y,AE,o,src⟩=>if k=1 then J ⟨k,n,s,w,h,d,x,y,AE,o,src⟩else if k=3 then AA.VW AE else E
def AA.VW:List AA->Option AA
 | []=>E
 | c::l=>match l with
   | []=>if c.x=0/\c.y=0 then c.simp else E
   | _::_=>E
end
theorem AYe :b.simp=if b.kind=1 then J b else if b.kind=3 then AA.VW b.AE else none:=by cases b;rfl
def F8 (f:AP)(b:AA):Int:=match b.simp with
 | some g=>mx 0 (AU (f.pick g.name).Ey g.size)
 | none=>0
def atR (f:AP)(b:AA):Int:=match b.simp with
 | some g=>AU (f.pick g.name).attach g.size
 | none=>Bm b.w
def JZ:Int×Int×Int×Int->List AA->Int×Int×Int×Int
 | e,[]=>e
 | e,b::l=>JZ (mn e.1 b.x,mx e.2.1 (b.x+b.w),mx e.2.2.1 (b.y+b.h),mx e.2.2.2 (b.d - b.y)) l
def DQ:List AA->Int×Int×Int×Int
 | []=>(0,0,0,0)
 | b::l=>JZ (b.x,b.x+b.w,b.y+b.h,b.d - b.y) l
def Kf (s:Aa):Aa:=GB 8 1 s
def M1 (f:AP)(s:Aa):Int:=AU f.params.Gj (BS f.params s)
def Qs (f:AP)(s:Aa)(b:AA):Int:=if b.simp.isSome then 0 else b.h - AU f.params.Q5 (BS f.params (Kf s))
def Od (f:AP)(s:Aa)(b:AA):Int:=if b.simp.isSome then 0 else b.d+AU f.params.Qz (BS f.params (Kf s))
def XO (p:Params)(s:Aa):Int:=if s.Hd=I then p.Z0 else if s.By=0 then p.Zy else p.Zz
def H0 (f:AP)(s:Aa)(b:AA):List AA->Int
 | []=>Qs f s b
 | c::_=>mx (mx (Qs f s b) (AU (XO f.params s) (BS f.params s))) (c.d+AU (M1 f s) 25)
def Nm (f:AP)(s:Aa)(b:AA):Int:=mx (Od f s b) (AU f.params.Qy (BS f.params s))
def s8 (f:AP)(s:Aa)(b c d:AA):Int:=H0 f s b [d] - d.d - (c.h - Nm f s b)
def Sb (f:AP)(s:Aa):Int:=4*AU f.params.rule (BS f.params s)
def s9 (f:AP)(s:Aa)(b d:AA):Int:=AU (M1 f s) 80 - (H0 f s b [d] - d.d)
def Ez (f:AP)(s:Aa)(b:AA):List AA->List AA->Int×Int
 | [],sup=>(H0 f s b sup,Od f s b)
 | c::_,[]=>(H0 f s b [],mx (mx (Od f s b) (AU f.params.Qx (BS f.params s))) (c.h - AU (M1 f s) 80))
 | c::_,d::_ =>
   if s8 f s b c d<Sb f s then
    (if 0<s9 f s b d then(H0 f s b [d]+s9 f s b d,Nm f s b+(Sb f s - s8 f s b c d) - s9 f s b d)
     else(H0 f s b [d],Nm f s b+(Sb f s - s8 f s b c d)))
   else(H0 f s b [d],Nm f s b)
def eu (f:AP)(s:Aa)(b:AA)(sub sup:List AA):List AA:=
 b.AS 0 0::((match sub with | []=>[]|c::_=>[c.AS (b.w - F8 f b) (-(Ez f s b sub sup).2)])++(match sup with | []=>[]|c::_=>[c.AS b.w (Ez f s b sub sup).1]))
def Oc (f:AP)(s:Aa)(b:AA)(sub sup:List AA):AA:=
 Bf (DQ (eu f s b sub sup)).2.1 (DQ (eu f s b sub sup)).2.2.1 (DQ (eu f s b sub sup)).2.2.2 (eu f s b sub sup)
def Gd (f:AP)(s:Aa)(p:Int):Int:=AU (AU f.params.Al (BS f.params s)) p
def I4 (b:AA)(sub sup:List AA):Int:=IS (IS (mx 0 b.w) sub) sup
def Jk (f:AP)(b:AA):Int:=Bm (F8 f b)
def HR (f:AP)(b:AA)(sub sup:List AA):Int:=Bm (I4 b sub sup - b.w)
def Kd (f:AP)(b:AA)(sub sup:List AA)(c:AA):Int:=Bm (I4 b sub sup - c.w) - Jk f b
def Kc (f:AP)(b:AA)(sub sup:List AA)(c:AA):Int:=Bm (I4 b sub sup - c.w)+Jk f b
def DY (f:AP)(b:AA)(sub sup:List AA):Int:=
 let l:=mn 0 (HR f b sub sup)
 let l:=match sub with | []=>l|c::_=>mn l (Kd f b sub sup c)
 match sup with | []=>l|c::_=>mn l (Kc f b sub sup c)
def Ti (f:AP)(s:Aa)(b c:AA):Int:=b.d+Gd f s 17+c.h
def Tj (f:AP)(s:Aa)(b c:AA):Int:=b.h+Gd f s 11+c.d
def ri (f:AP)(s:Aa)(b:AA)(sub sup:List AA):List AA:=
 b.AS (HR f b sub sup - DY f b sub sup) 0::
  ((match sub with | []=>[]|c::_=>[c.AS (Kd f b sub sup c - DY f b sub sup) (-(Ti f s b c))])++
   (match sup with | []=>[]|c::_=>[c.AS (Kc f b sub sup c - DY f b sub sup) (Tj f s b c)]))
def kV:Int->List AA->Int
 | w,[]=>w
 | w,b::l=>kV (mx w (b.x+b.w)) l
def OP (f:AP)(s:Aa)(b:AA)(sub sup:List AA):AA:=
 Bf (kV (I4 b sub sup) (ri f s b sub sup))
  (match sup with | []=>b.h|c::_=>mx b.h (Tj f s b c+c.h+Gd f s 10))
  (match sub with | []=>b.d|c::_=>mx b.d (Ti f s b c+c.d+Gd f s 10)) (ri f s b sub sup)
def Vx (f:AP)(s:Aa)(b:AA):Int:=b.h - mn b.h (AU f.params.RO (BS f.params s))
def Vy (f:AP)(s:Aa)(name:ByteArray)(b:AA):Int:=atR f b - AU (f.pick name).attach (BS f.params s)
def S8 (f:AP)(s:Aa)(name:ByteArray)(b:AA):Int:=mx 0 (-(Vy f s name b))
def al (f:AP)(s:Aa)(name:ByteArray)(b a:AA):AA:=
 Bf (mx (mx 0 (Vy f s name b+S8 f s name b+a.w)) (S8 f s name b+b.w)) (mx b.h (Vx f s b+a.h)) (mx b.d (a.d - Vx f s b))
  [a.AS (Vy f s name b+S8 f s name b) (Vx f s b),b.AS (S8 f s name b) 0]
def Hu (f:AP)(p:Int):Int:=AU f.params.FD p
def Ra (f:AP)(b:AA)(p:Int):Int:=mx (mx 0 (b.h - Hu f p)) (b.d+Hu f p)
def P9 (f:AP)(b:AA)(p:Int):Int:=
 if f.valid=U\/b.Ad=U\/p<1\/100<p then 0
 else if 536870912<Ra f b p then 0
 else mx (AU (2*Ra f b p) f.params.TD) (2*Ra f b p - AU f.params.RY p)
def KS (b:AA)(a:Int):AA×Int:=
 if b.Ad=U then(AA.zero,1)
 else if An a=U\/An (b.h - b.d)=U then(AA.zero,2)
 else if An (a - Bm (b.h - b.d))=U then(AA.zero,6)
 else(b.AS b.x (a - Bm (b.h - b.d)),0)
theorem AEE {b:AA}(h:b.Ad=I)(y:Int):(b.AS b.x y).Ad=An y:=by
 obtain⟨R,S,z,bw,Q,M,bx,Bq,B,q,H⟩:=b;simp only[AA.Ad,Ak,Awe]at h;obtain⟨h1,h2,h3⟩:=h;simp only[AA.D8,AA.Cl,AA.lens,Ak,Ep,Nq]at h1;obtain⟨⟨⟨l1,l2,l3,l4,l5,_⟩,k1,k2⟩,h4⟩:=h1;have nE:AA.Fi ⟨R,S,z,bw,Q,M,bx,y,B,q,H⟩=true:=k1;have kP:AA.Js ⟨R,S,z,bw,Q,M,bx,y,B,q,H⟩=true:=k2;have J3:AA.cnt ⟨R,S,z,bw,Q,M,bx,y,B,q,H⟩<=20000:=h2;have Jd:AA.nest ⟨R,S,z,bw,Q,M,bx,y,B,q,H⟩<=100:=h3;have ho:AA.Cl ⟨R,S,z,bw,Q,M,bx,y,B,q,H⟩=An y:=by
  unfold AA.Cl;rw[nE,kP];simp only[AA.lens,Ep,Nq,l1,l2,l3,l4,Cd,Km]
 have hp:AA.D8 ⟨R,S,z,bw,Q,M,bx,y,B,q,H⟩=An y:=by
  show (AA.Cl ⟨R,S,z,bw,Q,M,bx,y,B,q,H⟩ && AA.FU B)=_;rw[ho,h4,Km]
 show (AA.D8 ⟨R,S,z,bw,Q,M,bx,y,B,q,H⟩ && (decide (AA.cnt ⟨R,S,z,bw,Q,M,bx,y,B,q,H⟩<=20000) && decide (AA.nest ⟨R,S,z,bw,Q,M,bx,y,B,q,H⟩<=100)))=_;rw[hp,Awk J3,Awk Jd,LW,Km]
@[simp] theorem AA.AiK (y:Int):b.vs.set 7 (.c (.int .i64 y))=(b.AS b.x y).vs:=by cases b;rfl
@[simp] theorem iU (b:AA)(x y:Int):(b.AS x y).w=b.w:=F
@[simp] theorem iT (x y:Int):(b.AS x y).h=b.h:=F
@[simp] theorem iS (x y:Int):(b.AS x y).d=b.d:=F
@[simp] theorem iV (b:AA)(x y:Int):(b.AS x y).x=x:=F
@[simp] theorem iW (b:AA)(x y:Int):(b.AS x y).y=y:=F
theorem AJT (a:Int)(ho:b.BX)(hc:b.cnt<=900000):AC AF 164 [Ao b,a] (Ba (KS b a)):=by
 have B:=EL b ho Ux;cases H:b.Ad with
 | false=>have e:KS b a=(AA.zero,1):=Awd H;rw[e];rw[H]at B;simp only[Ba,As,AR]at B ⊢;refine en AFH AGD ?_;refine Ah ?_;refine BZ (B) AFL ?_;refine Ah ?_;exact At (cj AGQ<| @Fl)
 | true =>
   rw[H]at B;obtain⟨bw,bh,bd,bc⟩:=D3 H;have Q:=Ng a;have R:=Ng (b.h - b.d);have S:AZ.wrap (b.h - b.d)=b.h - b.d:=Ac;cases z:An a with
   | false =>
     have e:KS b a=(AA.zero,2):=by unfold KS;rw[Awf (by simp[H]),Awd (.inl z)]
     rw[e];rw[z]at Q;simp only[Ba,As,AR]at B ⊢;refine en AFH AGD ?_;refine Ah ?_;refine BZ (B) AFL ?_;refine Ah ?_;refine BZ (Q) Xs ?_;refine Ah ?_;exact At (cj AGQ<| @Fl)
   | true =>
     rw[z]at Q;cases hd:An (b.h - b.d)with
     | false =>
       have e:KS b a=(AA.zero,2):=by unfold KS;rw[Awf (by simp[H]),Awd (.inr hd)]
       rw[e];rw[hd]at R;simp only[Ba,As,AR]at B ⊢;refine en AFH AGD ?_;refine Ah ?_;refine BZ (B) AFL ?_;refine Ah ?_;refine gc @S (Q) Xs ?_;refine BZ (R) Xs ?_;refine Ah ?_;exact At (cj AGQ<| @Fl)
     | true =>
       rw[hd]at R;have Fc:=J6 (b.h - b.d);have J8:=Ke (b.h - b.d);simp[An]at z;have A0:An a=true:=by simp[An];omega
       have q:=pW b (GD H) Ux;have hm:=AEE H (a - Bm (b.h - b.d));have M:=EL (b.AS b.x (a - Bm (b.h - b.d))) (F4 _ _ ho) (by rw[Hb];omega);rw[hm]at M;have e:KS b a=if An (a - Bm (b.h - b.d))=U then(AA.zero,6)else(b.AS b.x (a - Bm (b.h - b.d)),0):=by unfold KS;rw[Awf (by simp[H]),Awf (by simp[A0,hd])]
       rw[e];generalize A1:Bm (b.h - b.d)=Hf at Fc J8 M ⊢;have w2:AZ.wrap (a - Hf)=a - Hf:=Ac;cases hy:An (a - Hf)with
       | false=>rw[Awd rfl];rw[hy]at M;simp only[Ba,As,AR]at B q M ⊢;refine en AFH AGD ?_;refine Ah ?_;refine BZ (B) AFL ?_;refine Ah ?_;refine gc @S (Q) Xs ?_;refine BZ (R) Xs ?_;refine Ah ?_;refine BZ (q) Aan ?_;refine go @S ?_;refine gc @w2 (J8) vR ?_;refine Ah ?_;refine BZ (M) AFL ?_;refine Ah ?_;exact At (cj AGQ<| @Fl)
       | true=>rw[Awf ZA];rw[hy]at M;simp only[Ba,As,AR]at B q M ⊢;refine en AFH AGD ?_;refine Ah ?_;refine BZ (B) AFL ?_;refine Ah ?_;refine gc @S (Q) Xs ?_;refine BZ (R) Xs ?_;refine Ah ?_;refine BZ (q) Aan ?_;refine go @S ?_;refine gc @w2 (J8) vR ?_;refine Ah ?_;refine BZ (M) AFL ?_;refine Ah ?_;exact At AGQ
def AA.mark (b:AA)(o:Int)(src:List Int):AA:={ b with of_:=o,src:=src }
theorem OZ (hs:G src<=1000000):AC AF 93 [Ao b,o,.c (AV src)] (Ao (b.mark o src)):=by
 have B:=pO src hs;obtain⟨b0,b1,M,Q,R,S,q,z,H,o',lS⟩:=b;simp only[Ao,AA.mark,AA.row,Ap,BB];refine en func93 ntmps93 ?_;exact wz (cj @AR.eq_1<|results93) (cj B<|trivial)
theorem Ajg (hs:G src<=1000000):AC AF 113 [Ao b,o,.c (AV src)] (Ao (b.mark o src)):=by
 obtain⟨b0,b1,z,b3,b4,b5,b6,b7,S,o',lS⟩:=b;simp only[Ao,AA.mark,AA.row,Ap,BB,AV];obtain⟨Q,H⟩:=AI (src.map (λn=>[C.int .i64 n]));have R:G Q=G src:=by rw[<-H,Ch]
 have B:(∀x:List C,x∈Q->G x=1)↔True:=⟨λ_=>trivial,λ_ x M=>by rw[<-H]at M;obtain⟨n,_,rfl⟩:=Da.1 M;rfl⟩
 rw[H];have f1:G src<=maxLen:=by unfold maxLen;omega
 have f2:G src*8<=140737488355328:=Ux;refine en func113 ntmps113 ?_;refine wu (.mk 1) (cj @AR.eq_1<|vI) trivial ⟨?_⟩;refine Og (.mk 1) trivial ?_;refine SW.OU (λv t=>t=E/\v=.Bg []) (by simp[BQ]) ?_ ?_;intro q w0 x a w g ht hk;exact⟨_,_,λ_ _ h=>(by cases h),⟨F,F⟩,AIv g rfl (Ae:=3) (es:=1) (Bq:=8) ZA⟩;rintro v t ⟨rfl,rfl⟩;refine CY (.mk 6) (cj3 @f1 @f2 @R @B) ?_;refine SW.nil ?_;exact wz (cj @AR.eq_1<|vI) W
theorem AFP : ∀(l:List AA) (k:Nat) (b:AA) (e:Int×Int×Int×Int),l[k]?=J b->JZ e (l.take (k+1))=(mn (JZ e (l.take k)).1 b.x,mx (JZ e (l.take k)).2.1 (b.x+b.w),mx (JZ e (l.take k)).2.2.1 (b.y+b.h),mx (JZ e (l.take k)).2.2.2 (b.d - b.y))
 | [],_,_,_,h=>by simp at h
 | x::l,0,b,e,h=>by simp at h;subst h;rfl
 | x::l,k+1,b,e,h=>by simp only[DP,JZ];exact AFP l k b _ (by simpa using h)
def Oi (n:Int):Prop:= -1000000000000<=n/\n<=1000000000000
structure oI (b:AA):Prop where
 x:Oi b.x
 y:Oi b.y
 w:Oi b.w
 h:Oi b.h
 d:Oi b.d
theorem APO {l:List AA}{k:Nat}{b:AA}(B:l[k]?=J b):DQ (l.take (k+1))=if k=0 then(b.x,b.x+b.w,b.y+b.h,b.d - b.y)else(mn (DQ (l.take k)).1 b.x,mx (DQ (l.take k)).2.1 (b.x+b.w),mx (DQ (l.take k)).2.2.1 (b.y+b.h),mx (DQ (l.take k)).2.2.2 (b.d - b.y)):=by
 match l,k,B with
 | [],_,h=>simp at h
 | c::l,0,h=>simp at h;subst h;simp[DQ,JZ]
 | c::l,k+1,h=>rw[Awf Ux];simp only[DP,DQ];exact AFP l k b _ (by simpa using h)
def YG (e:Int×Int×Int×Int):List V:=[.c (.int .i64 e.1),.c (.int .i64 e.2.1),.c (.int .i64 e.2.2.1),.c (.int .i64 e.2.2.2)]
theorem kq (l:List AA)(hl:G l<=1000000)(ht : ∀b∈l,oI b):AC AF 179 [.c (.sl (AA.AG l))] (.A7 (YG (DQ l))):=by
 obtain⟨rs,R⟩:=AI (AA.AG l);have M:G rs=G l:=by rw[<-R,Dt];simp
 rw[R];refine en func179 ntmps179 ?_;refine wy (cj2 @M @AR.eq_1 vK) trivial ⟨?_⟩;refine CX (ι:={ k:Nat // k<=G l }) (λk=>[(2,.c (.int .i64 (DQ (l.take k.1)).1)),(3,.c (.int .i64 (DQ (l.take k.1)).2.1)),(4,.c (.int .i64 (DQ (l.take k.1)).2.2.1)),(5,.c (.int .i64 (DQ (l.take k.1)).2.2.2)),(10,(k.1:Int))]) (λ_=>[]) (λk=>G l - k.1) ⟨0,ZA⟩ ?_ ?_;exact ER (cj @DQ.eq_1<|@DQ.eq_2);rintro ⟨k,hk⟩;simp only;by_cases B:k<G l;obtain⟨c,q⟩:=AI (l[k]);have S:l[k]?=J c:=by rw[BE B,q]
 have Q:rs[k]?=J c.row:=by rw[<-R,Dt,CM,S];rfl
 have Dp:k<G rs:=Ux;have Bu:=gx Q;obtain⟨cx,cy,cw,ch,cd⟩:=ht c (Cj S);unfold Oi at cx cy cw ch cd;have H:=APO S;obtain⟨E,cH⟩:=AI (DQ (l.take k));obtain⟨E',xu⟩:=AI (DQ (l.take (k+1)));rw[cH,xu]at H;rw[cH];have A0 : ∀(K:Exit->St->Prop),True:=λ_=>trivial
 by_cases h0:k=0;rw[Awd h0]at H;have z:(k:Int)=0↔True:=Awn Ux;refine wy (cj6 @M @B @Dp @Q @Bu @z vK) trivial ⟨?_⟩;exact⟨⟨k+1,Ux⟩,by simp only;omega,by rw[xu,H];exact wd 0⟩;rw[Awf h0]at H;have z : ¬(k:Int)=0:=Ux;simp only[mx,mn]at H;refine wy (cj6 @M @B @Dp @Q @Bu @z vK) trivial ⟨?_⟩;exact⟨⟨k+1,Ux⟩,by simp only;omega,by rw[xu,H];exact wd 0⟩;have e:l.take k=l:=Gl Ux;rw[e];unfold YG;exact wz (cj2 @M @B vK) W
section
variable {P:Program} {K:Exit->St->Prop} {ops:List Oper} {s:St}
theorem SW.eF {o:Oper}{r:List Oper}{op:BinOp}{t t':TypeId}{j:Nat}{v:V}{b res:Bool}(Q:o.op=.binOp op t (.tmp j) (.const (.pointer E)) t')(H:op=.eql/\b=U\/op=.neq/\b=I)(R:lV P t=I)(z:BQ ops s.t o.guard=J I)(q:Ka o.op=U)(hv:s.t[j]?=J v)(S:(v=.c .XF/\res= !b)\/(∃row off,v=.cp row off)/\res=b)(h:SW P ops K r (s.step o.dst (.c (.bool res)) E)):SW P ops K (o::r) s:=by
 refine SW.op (.c (.bool res)) z q ?_ h;intro S0 w0 x a w M;have B:=O4 M.2 hv;rcases S with ⟨rfl,rfl⟩|⟨⟨row,off,rfl⟩,rfl⟩
 simp only[CV,Ab]at B;have:=AI3 M.1 Q H R B F;simpa using this;simp only[CV]at B;obtain⟨b',o',B,_⟩:=B;have:=AI3 M.1 Q H R B F;simpa using this
end
theorem Nn {b:AA}(h:b.Ad=I):G b.src<=1000000:=by have:=GD h;cases b;simp only[AA.Fq]at this;exact this.1
def Pf:Option AA->V
 | some g=>.cp g.row 0
 | none=>.c .XF
theorem ABA :AC AF 214 [.cp b.row 0] (Pf b.simp):=by
 refine en func214 ntmps214 ?_;refine wy (cj @AR.eq_1<|uw) trivial ⟨?_⟩;refine CX (ι:={ c:AA // c.simp=b.simp }) (λc=>[(0,.cp c.1.row 0)]) (λ_=>[]) (λc=>UF c.1) ⟨b,rfl⟩ ?_ ?_;exact DH;rintro ⟨⟨k,n,s,w,h,d,x,y,AE,o,src⟩,hI⟩;simp only;rw[<-hI,AYe];simp only[AA.row];by_cases B:k=1;have Jc:k=1↔True:=Awn B;rw[Awd B];unfold Pf;simp only[AA.row];exact wz (cj @Jc<|uw) W;rw[Awf B];by_cases M:k=3;have H:k=3↔True:=Awn M;rw[Awd M];match AE with
 | []=>simp only[AA.VW,AA.AG,Pf];exact wz (cj2 @B @H uw) W
 | [⟨k2,n2,s2,w2,h2,d2,x2,y2,S,o2,q⟩] =>
   simp only[AA.VW,AA.AG];by_cases Q:x2=0;have ON:x2=0↔True:=Awn Q;by_cases R:y2=0;have Wu:y2=0↔True:=Awn R;rw[Awd ⟨Q,R⟩];simp only[AA.row];refine wy (cj4 @B @H @ON @Wu uw) trivial ⟨?_⟩;refine⟨⟨⟨k2,n2,s2,w2,h2,d2,x2,y2,S,o2,q⟩,?_⟩,?_,?_⟩;rfl;simp only[AA.mk.sizeOf_spec,List.cons.sizeOf_spec];omega;simp only[AA.row];exact wd 0;rw[Awf (λh=>R h.2)];simp only[AA.row,Pf];exact wz (cj4 @B @H @ON @R uw) W;rw[Awf (λh=>Q h.1)];simp only[AA.row,Pf];exact wz (cj3 @B @H @Q uw) W
 | c::c2::l=>have hl : ¬G (AA.AG l)+1+1=1:=Ux;have z : ¬(G (AA.AG l):Int)+1+1=1:=Ux;simp only[AA.VW,AA.AG,Pf];exact wz (cj4 @B @H @hl @z uw) W
 rw[Awf M];simp only[Pf];exact wz (cj2 @B @M uw) W
mutual
theorem ABo : ∀(b g:AA),b.D8=I->b.simp=J g->g.D8=I/\g.kind=1
 | ⟨k,n,s,w,h,d,x,y,M,o,src⟩,g,H,B=>by
   simp only[AA.simp]at B;split at B;rename_i Q;cases B;exact⟨H,Q⟩;split at B;simp only[AA.D8,Ak]at H;exact AYh M g H.2 B;cases B
theorem AYh : ∀(l:List AA) (g:AA),AA.FU l=I->AA.VW l=J g->g.D8=I/\g.kind=1
 | [],g,H,B=>by cases B
 | c::l,g,H,B=>by
   simp only[AA.FU,Ak]at H;match l,B with
   | [],B =>
     simp only[AA.VW]at B;split at B;exact ABo c g H.1 B;cases B
   | _::_,B=>cases B
end
theorem tA {b g:AA}(hb:b.Ad=I)(hs:b.simp=J g):1<=g.size/\g.size<=1000:=by
 simp only[AA.Ad,Ak]at hb;obtain⟨B,H⟩:=ABo b g hb.1 hs;obtain⟨k,n,s,w,h,d,x,y,M,o,src⟩:=g;simp only at H;subst H;simp only[AA.D8,AA.Cl,AA.Fi,Ak,Awg,Awe]at B;exact⟨B.1.2.1.2.1,B.1.2.1.2.2.1⟩
theorem AKf {f:AP}(H:f.valid=I){p:Int}(M:1<=p)(Q:p<=1000)(name:ByteArray):Hm (f.pick name) p=((f.pick name).scaled p,0):=by
 have B:=Ql H name;unfold Hm;rw[Awf (by simp[DX];omega),Awf];unfold BG.Small at B;simp[DX,BG.OQ];omega
theorem ku (f:AP)(b:AA)(hf:f.Fit)(hv:f.valid=I)(hb:b.Ad=I)(ho:b.BX):AC AF 176 [.agg f.vs,Ao b] (F8 f b:Int):=by
 have z:=Ma f;rw[hv]at z;have q:=EL b ho (by have:=(D3 hb).2.2.2;omega);rw[hb]at q;have H:=ABA b;have S:F8 f b=match b.simp with|some g=>mx 0 (AU (f.pick g.name).Ey g.size)|none=>0:=F
 rw[S];rw[As]at *
 cases hs:b.simp with
 | none=>rw[hs]at H;simp only[Pf]at H;refine en L6 ntmps176 ?_;refine wu (.mk 3) (cj @AR.eq_1<|AG8) (cj2 z q W) ⟨?_⟩;refine Cn 1 ?_;refine wu (.mk 4) AG8 (cj H<|trivial) ⟨?_⟩;refine Og (.mk 1) trivial ?_;refine SW.eF (b:=U) (res:=I) rfl (.inl ⟨rfl,rfl⟩) ZC rfl rfl rfl (.inl ⟨rfl,rfl⟩) ?_;simp only[St.step,St.put,Bk,Ai,Ag];refine SW.nil ?_;exact wz (cj @AR.eq_1<|AG8) W
 | some g=>obtain⟨z1,z2⟩:=tA hb hs;have Q:=dy f g.name hf.1;have B:=sw (f.pick g.name) g.size;rw[AKf hv z1 z2 g.name]at B;have R:(if 0<AU (f.pick g.name).Ey g.size then AU (f.pick g.name).Ey g.size else 0)=mx 0 (AU (f.pick g.name).Ey g.size):=F;simp only;generalize hM:mx 0 (AU (f.pick g.name).Ey g.size)=M at R ⊢;obtain⟨k,n,sz,w,h,d,x,y,AE,o,src⟩:=g;simp only at Q B R;generalize hG:f.pick n=G at Q B R;rw[hs]at H;simp only[Pf,AA.row]at H;simp only[XT,Hg,BG.row,BG.scaled,AR,Ap,BB]at Q B;refine en L6 ntmps176 ?_;refine wu (.mk 3) (cj @AR.eq_1<|AG8) (cj2 z q W) ⟨?_⟩;refine Cn 1 ?_;refine wu (.mk 4) AG8 (cj H<|trivial) ⟨?_⟩;refine Og (.mk 1) trivial ?_;refine SW.eF (b:=U) (res:=U) rfl (.inl ⟨rfl,rfl⟩) ZC rfl rfl rfl (.inr ⟨⟨_,_,rfl⟩,rfl⟩) ?_;simp only[St.step,St.put,Bk,Ai,Ag];refine SW.nil ?_;exact wz (cj @R<|AG8) (cj2 Q B W)
end Go.Proofs.YtegconioojpgmaaGreat
