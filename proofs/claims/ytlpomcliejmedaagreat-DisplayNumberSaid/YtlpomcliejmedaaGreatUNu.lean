/- For every input the law displayNumber returns true, and its input reads behind the call as it read before. Conditions: none. -/
import Derived.Test.YtlpomcliejmedaaGreatU14
import Derived.Test.YtlpomcliejmedaaGreatRows
import Derived.WalkKit
import Derived.ProofKit
import Derived.OpenShut
set_option linter.unusedVariables false
set_option linter.unusedSimpArgs false
set_option maxRecDepth 100000
set_option maxHeartbeats 16000000
open Go.Proofs.Tryz renaming prog→AF,func84→gS,func174→Xn,func58→uy,ntmps58→vE,results58→vY,func8→uz,results8→US,f8→Jy,checked→RF
open Go.IntKind renaming i64→AZ
open Int renaming le_refl→IV
open List renaming mem_cons→Cf,foldl_cons→Bw,foldl_nil→CO,set_cons_zero→Ag,set_cons_succ→Ai,map_cons→Ap,map_nil→BB,replicate_succ→BY,getElem?_eq_getElem→BE,cons_append→BK,mem_append_left→ACw,length_pos_iff→Kr,mem_of_getElem?→Cj,getElem?_map→CM,getElem?_append_left→EJ
open Option.some renaming injEq→BL
open Prod.mk renaming injEq→Cr
open Nat renaming le_of_ble_eq_true→F2,zero_le→CI
open SizeOf renaming sizeOf→UF
open Bool renaming and_eq_true→Ak
open Go.Proofs.YtlpomcliejmedaaGreat.Rows renaming displayNumberRow→IC,displayNumberSpec→Px
open Go.ChangeSpec renaming witness6→uD
namespace Go.Proofs.YtlpomcliejmedaaGreat
open Go.RowKit Proofs.Tryz
theorem sb (n:Int):AC AF 84 [.c (.int .i64 n)] (.c (.bool (An n))):=by
 by_cases h : -1073741824<=n;have e:An n=decide (n<=1073741824):=by unfold An;rw[decide_eq_true h,Bool.true_and]
 refine en gS ntmps84 ?_;refine go @h ?_;exact At (cj results84<| @e);have e:An n=false:=by unfold An;rw[decide_eq_false h,Bool.false_and]
 refine en gS ntmps84 ?_;refine go @h ?_;exact At (cj results84<| @e)
def Vw (n:Int):Int:=if n<0 then -n else n
theorem AKH (n:Int)(h : -9000000000000000000<=n)(E:n<=9000000000000000000):AC AF 174 [.c (.int .i64 n)] (.c (.int .i64 (Vw n))):=by
 by_cases B:n<0;have w:AZ.wrap (-n)= -n:=Ac;have e:Vw n= -n:=if_pos B;refine en Xn ntmps174 ?_;refine go (cj @B<|@w) ?_;exact At (cj results174<| @e);have e:Vw n=n:=if_neg B;refine en Xn ntmps174 ?_;refine go @B ?_;exact At (cj results174<| @e)
theorem AX8 (a b:Int)(ha : -4000000000000000000<=a)(z:a<=4000000000000000000)(hb:b=100\/b=2\/b=18):AC AF 109 [.c (.int .i64 a),.c (.int .i64 b)] (.c (.int .i64 (Ea a b))):=by
 have I:=AKH a (by omega) (by omega);have B:=AKH b (by omega) (by omega);have q:Vw b=b:=if_neg (by omega);rw[q]at B;obtain⟨A,E⟩:=AI (Vw a);rw[E]at I;have Gr:0<=A/\A<=4000000000000000000:=by unfold Vw at E;split at E<;>omega
 have S:AZ.wrap (2*A)=2*A:=Ac;have U:AZ.wrap (2*A+b)=2*A+b:=Ac;have W:AZ.wrap (2*b)=2*b:=Ac;have hq:(2*A+b).tdiv (2*b)=(2*A+b) / (2*b):=Int.tdiv_eq_ediv_of_nonneg (by omega);have K:0<=(2*A+b) / (2*b)/\(2*A+b) / (2*b)<=9000000000000000000:=by rcases hb with rfl|rfl|rfl<;>omega
 obtain⟨Q,F⟩:=AI ((2*A+b) / (2*b));have o:AZ.wrap ((2*A+b).tdiv (2*b))=Q:=by rw[hq,F];rw[F]at K;exact Ac
 have R : ¬2*b=0:=by omega
 have G : ¬b=0:=by omega
 have M : ¬b<0:=by omega
 by_cases H:a<0;have J:Ea a b= -Q:=by
  unfold Ea;rw[if_neg (by omega),<-F,<-E];simp only[Vw,if_pos H]
 have w5:AZ.wrap (-Q)= -Q:=by rw[F]at K;exact Ac
 refine en func109 ntmps109 ?_;refine Ah ?_;refine gc @S (I) Xn ?_;refine gc @U (B) Xn ?_;refine gc (cj3 @W @o @R @G) (B) Xn ?_;refine go (cj2 @H @M @w5) ?_;exact At (cj results109<| @J);have J:Ea a b=Q:=by
  unfold Ea;rw[if_pos (by omega),<-F,<-E];simp only[Vw,if_neg H]
 refine en func109 ntmps109 ?_;refine Ah ?_;refine gc @S (I) Xn ?_;refine gc @U (B) Xn ?_;refine gc (cj3 @W @o @R @G) (B) Xn ?_;refine go (cj @H<|@M) ?_;exact At (cj results109<| @J)
theorem AYA (n p:Int):AC AF 58 [.c (.int .i64 n),.c (.int .i64 p)] (.c (.int .i64 (AU n p))):=by
 cases B:An n with
 | false =>
   have E:AU n p=0:=by simp[AU,B]
   refine en uy vE ?_;refine Ah ?_;refine gc @B (sb n) gS ?_;refine go @B ?_;exact At (cj vY<| @E)
 | true =>
   have G:=B;simp[An]at G;by_cases F:p<0;have E:AU n p=0:=by unfold AU;rw[if_neg];omega
   refine en uy vE ?_;refine Ah ?_;refine gc (cj @B<|@F) (sb n) gS ?_;refine go @B ?_;exact At (cj vY<| @E);by_cases H:10000<p;have E:AU n p=0:=by unfold AU;rw[if_neg];omega
   refine en uy vE ?_;refine Ah ?_;refine gc (cj2 @B @F @H) (sb n) gS ?_;refine go @B ?_;exact At (cj vY<| @E);have E:AU n p=Ea (n*p) 100:=by unfold AU;rw[if_pos ⟨B,by omega,by omega⟩]
   have J:=Qh n p 1073741824 10000 (by omega) (by omega) (by omega) (by omega);have I:AZ.wrap (n*p)=n*p:=Ac;refine en uy vE ?_;refine Ah ?_;refine gc (cj2 @B @F @H) (sb n) gS ?_;refine go (cj @B<|@I) ?_;refine BZ (AX8 (n*p) 100 (by omega) (by omega) (.inl rfl)) func109 ?_;refine Ah ?_;exact At (cj vY<| @E)
theorem AIN {q:Int}{K:List AA}{k:Nat}(h:k+1<K.length):Mr q K (k+1)=Mr q K k - ((A4 K k).d+AU q 30+(A4 K (k+1)).h):=by
 show E9 K _ k - (((A4 K k).d+_)+_)=_;rw[pz (by omega) h];rfl
theorem AFs (f:AP):AC AF 24 [.agg f.vs] (.c (.int .i64 (AU f.params.Al 30))):=by
 have h:=AYA f.params.Al 30;obtain⟨q,B⟩:=AI f.params.Al;rw[B]at h ⊢;refine en func24 ntmps24 ?_;exact wz (cj @B<|results24) (cj h<|trivial)
theorem AFN : ∀(l:List AA) (e:Int×Int×Int×Int),(e.2.1<=(JZ e l).2.1/\e.2.2.1<=(JZ e l).2.2.1/\e.2.2.2<=(JZ e l).2.2.2)/\∀b∈l,b.x+b.w<=(JZ e l).2.1/\b.y+b.h<=(JZ e l).2.2.1/\b.d - b.y<=(JZ e l).2.2.2
 | [],e=>⟨⟨IV _,IV _,IV _⟩,λb h=>by cases h⟩
 | b::l,e=>by
   obtain⟨⟨F,G,H⟩,E⟩:=AFN l (mn e.1 b.x,mx e.2.1 (b.x+b.w),mx e.2.2.1 (b.y+b.h),mx e.2.2.2 (b.d - b.y));simp only[DU]at F G H;simp only[JZ,DU]at E ⊢;refine⟨by omega,λc B=>?_⟩;rcases Cf.1 B with rfl|B
   omega;exact E c B
theorem ix : ∀ {l:List AA} {b:AA},b∈l->b.x+b.w<=(DQ l).2.1/\b.y+b.h<=(DQ l).2.2.1/\b.d - b.y<=(DQ l).2.2.2
 | a::l,b,h=>by
   obtain⟨⟨B,E,F⟩,G⟩:=AFN l (a.x,a.x+a.w,a.y+a.h,a.d - a.y);rcases Cf.1 h with rfl|h
   exact⟨B,E,F⟩;exact G b h
section
section
def Zu (P:Program)(ds:List (Option Nat)):Nat->List Oper->St->Option (List Oper×St)
 | 0,l,s=>some (l,s)
 | _+1,[],s=>some ([],s)
 | n+1,o::r,s=>match QE ds s.t o.guard with
   | some true=>match Ka o.op with
     | false=>match Qw P o s with
       | some s'=>Zu P ds n r s'
       | none=>none
     | true=>some (o::r,s)
   | some false=>Zu P ds n r (s.put o.dst (.A7 []))
   | none=>none
variable {P:Program} {K:St->Prop} {ops:List Oper}
theorem wI {J:List (Option Nat)}(Q:ops.map (·.dst)=J):∀(n:Nat) {l F:List Oper} {s s':St},Zu P J n l s=some (F,s')->Eg P ops K F s'->Eg P ops K l s
 | 0,l,F,s,s',h,E=>by simp only[Zu,BL,Cr]at h;obtain⟨rfl,rfl⟩:=h;exact E
 | n+1,[],F,s,s',h,E=>by simp only[Zu,BL,Cr]at h;obtain⟨rfl,rfl⟩:=h;exact E
 | n+1,o::r,F,s,s',h,E=>by
   subst Q;unfold Zu at h;rw[jG]at h;split at h;rename_i I;split at h;rename_i M;split at h;rename_i R G;have ih:=wI rfl n h E;unfold Qw at G;split at G;rename_i v t H;cases G;unfold Eg;refine IF I ?_;unfold RP;rw[YC M];simp only;rw[H];exact ih;cases G;cases h;simp only[BL,Cr]at h;obtain⟨rfl,rfl⟩:=h;exact E;rename_i I;unfold Eg;exact X8 I (wI rfl n h E);cases h
end
theorem AA.pq : ∀ {l:List AA},AA.fits l->∀b∈l,b.fit
 | [],_,b,h=>by cases h
 | x::l,E,b,h=>by
   simp only[AA.fits]at E;rcases List.mem_cons.1 h with rfl|h
   exact E.1;exact AA.pq E.2 b h
theorem AX9 (l:List Int)(F:l.length<=maxLen):AC AF 46 [.c (AV l),.c (AV l)] (.c (.bool true)):=by
 unfold maxLen at F;unfold AV;refine en func46 ntmps46 ?_;refine Ah ?_;refine lp (ι:={ k:Nat // k<=l.length }) (λk=>[(4,.c (.bool false)),(5,.c (.int .i64 (k.1:Int)))]) (λ_=>[]) (λk=>l.length - k.1) ⟨0,by simp⟩ ?_ ?_;all_goals simp only[CG,Bw,CO,Ag,Ai]
 exact DH;rintro ⟨k,I⟩;by_cases E:k<l.length;obtain⟨z,H⟩:=AI (l[k]);have G:AZ.wrap ((k:Int)+1)=((k+1:Nat):Int):=by rw[Ac];simp
 refine go (cj2 @E @H @G) ?_;refine⟨⟨k+1,by omega⟩,by simp only;omega,?_⟩;exact DH;refine go @E ?_;exact At results46
theorem AXj (I:Int)(J:ByteArray)(M Q R U q z:Int)(AE:List AA)(o:Int)(src:List Int)(f1:AE.length<=maxLen)(f2:src.length<=maxLen)(ih : ∀c∈AE,AC AF 14 [Ao c,Ao c] (.c (.bool true))):AC AF 14 [Ao ⟨I,J,M,Q,R,U,q,z,AE,o,src⟩,Ao ⟨I,J,M,Q,R,U,q,z,AE,o,src⟩] (.c (.bool true)):=by
 have Tc:=AX9 src f2;unfold maxLen at f1;simp only[Ao,AA.row,Ap,BB];rw[Dt];obtain⟨G,E⟩:∃G,G=([.c (.int .i64 I),.c (.str J),.c (.int .i64 M),.c (.int .i64 Q),.c (.int .i64 R),.c (.int .i64 U),.c (.int .i64 q),.c (.int .i64 z),.c (.sl (AE.map AA.row)),.c (.int .i64 o),.c (AV src)]:List V):=⟨_,rfl⟩
 refine en func14 ntmps14 ?_;with_reducible refine AW.seq ?_
 with_reducible refine AW.region ?_
 with_reducible refine If (by simp[BY];first|exact rfl|exact⟨rfl,rfl⟩) ?_
 with_reducible refine Kz ?_
 with_reducible refine G3 ?_
 with_reducible refine AW.seq ?_
 with_reducible refine AW.seq ?_
 with_reducible refine AW.region ?_
 iterate 7 (with_reducible refine wI (by simp only[List.append_eq,List.cons_append,List.nil_append,Ap,BB];exact rfl) 10 (by as_aux_lemma=>simp[Zu,QE,BY];first|exact rfl|exact⟨rfl,rfl⟩) ?_)
 refine BZ (Tc) func46 ?_;refine Ah ?_;refine lp (ι:={ k:Nat // k<=AE.length }) (λk=>[(5,.c (.int .i64 (k.1:Int))),(4,.c (.bool false))]) (λ_=>[.box 41 G false,.box 41 G false]) (λk=>AE.length - k.1) ⟨0,by simp⟩ ?_ ?_;all_goals simp only[CG,Bw,CO,Ag,Ai]
 refine Le.MI 2 (F2 rfl) (by simp[DG,E]) (by simp[E]) (by simp[V.BI,V.A8]) (by simp[O.A8,V.BI,V.A8,E]);rintro ⟨j,hj⟩;by_cases H:j<AE.length;obtain⟨c,F⟩:=AI (AE[j]);have ihc:=ih c (F ▸ List.getElem_mem H);have Av:c.row.length=11:=by cases c;rfl
 have hw:AZ.wrap ((j:Int)+1)=((j+1:Nat):Int):=by rw[Ac];simp
 obtain⟨ck,cn,cs,cw,ch,cd,cx,cy,A0,co,A1⟩:=c;simp only[Ao,AA.row,Ap,BB]at ihc;refine go (cj3 @E @H @F @AA.row.eq_1) ?_;refine BZ (ihc) func14 ?_;refine go (cj @E<|@hw) ?_;refine⟨⟨j+1,by omega⟩,by simp only;omega,?_⟩;refine Le.MI 2 (F2 rfl) (by simp[DG,E]) (by simp[E]) (by simp[V.BI,V.A8]) (by simp[O.A8,V.BI,V.A8,E]);refine go (cj @E<|@H) ?_;exact At results14
theorem AKP : ∀(n:Nat) (b:AA),UF b<n->b.fit->AC AF 14 [Ao b,Ao b] (.c (.bool true))
 | 0,b,h,_=>absurd h (by omega)
 | n+1,⟨H,I,J,M,Q,R,U,q,G,o,src⟩,z,E=>by
   simp only[AA.fit]at E;exact AXj H I J M Q R U q G o src E.1 E.2.1 λc F=>AKP n c (by
    have:=List.sizeOf_lt_of_mem F;simp only[AA.mk.sizeOf_spec]at z;omega) (AA.pq E.2.2 c F)
theorem AKO (b:AA)(h:b.fit):AC AF 14 [Ao b,Ao b] (.c (.bool true)):=AKP (UF b+1) b (by omega) h
section
variable {B:AA} {sp S:List Int} {N:Nat} {W ind:Int}
theorem Lc.items (h:Lc B sp S N W ind){k:Nat}(o:k<S.length):∃a e:Nat,S.getD k 0=(a:Int)/\(S++[(N:Int)]).getD (k+1) 0=(e:Int)/\a<e/\e<=N/\(Jj B.AE sp S N W ind k).AE.length=e - a/\(∀i,a<=i->i<e->∃c p,B.AE[i]?=some c/\(Jj B.AE sp S N W ind k).AE[i - a]?=some (c.AS p c.y))/\0<=(Jj B.AE sp S N W ind k).h/\0<=(Jj B.AE sp S N W ind k).d:=by
 obtain⟨a,e,M,Q,F,G,J,_,_⟩:=h.line o;obtain⟨A,H⟩:=h.au;obtain⟨c,v,_,_,_,_,_,_,_,_,_,_,E,U,R⟩:=rh H h.val h.nn h.sn F (by rw[h.len];exact G);have hN:=h.len;have DJ:sp.length=B.AE.length:=H.len;have l1:(GC B.AE a (e - a)).length=e - a:=tG (by omega);have l2:(KI sp a (e - a)).length=e - a:=tH (by omega);have l3:(FT (GC B.AE a (e - a)) (KI sp a (e - a)) 0).length=(GC B.AE a (e - a)).length:=VK _ (by omega);rw[J];refine⟨a,e,M,Q,F,G,?_,λi i1 i2=>?_,U,R⟩;show (GQ B.AE sp a e).AE.length=_;rw[E,kv l3,l1];have I:B.AE[i]?=some (B.AE[i]'(by omega)):=BE (by omega);have z:(GC B.AE a (e - a))[i - a]?=some (B.AE[i]'(by omega)):=by
  unfold GC;rw[List.getElem?_take_of_lt (by omega),List.getElem?_drop,show a+(i - a)=i by omega,I]
 obtain⟨p,q⟩:∃p,(FT (GC B.AE a (e - a)) (KI sp a (e - a)) 0)[i - a]?=some p:=⟨_,BE (by omega)⟩
 refine⟨_,p,I,?_⟩;show (GQ B.AE sp a e).AE[i - a]?=_;rw[E];exact ABB z q
mutual
theorem AFf : ∀b:AA,b.BX->b.cnt<=1000000->b.fit
 | ⟨_,_,_,_,_,_,_,_,E,_,src⟩,h,F=>by
   simp only[AA.BX]at h;simp only[AA.cnt]at F;have:=Ud E;simp only[AA.fit];exact⟨by unfold maxLen;omega,h.2.1,xY E h.2.2 (by omega)⟩
theorem xY : ∀l:List AA,AA.FY l->AA.Az l<=1000000->AA.fits l
 | [],_,_=>trivial
 | b::l,h,E=>by
   simp only[AA.Az]at E;exact⟨AFf b h.1 (by omega),xY l h.2 (by omega)⟩
end
end
end
section
theorem AFO {X Y Z:Int} : ∀(l:List AA) (e:Int×Int×Int×Int),(e.2.1<=X/\e.2.2.1<=Y/\e.2.2.2<=Z)->(∀b∈l,b.x+b.w<=X/\b.y+b.h<=Y/\b.d - b.y<=Z)->(JZ e l).2.1<=X/\(JZ e l).2.2.1<=Y/\(JZ e l).2.2.2<=Z
 | [],e,h,_=>h
 | b::l,e,h,E=>by
   have G:=E b (by simp);refine AFO l _ ?_ λc F=>E c (by simp[F])
   simp only[DU];omega
theorem APN {X Y Z:Int} : ∀ {l:List AA},l≠[]->(∀b∈l,b.x+b.w<=X/\b.y+b.h<=Y/\b.d - b.y<=Z)->(DQ l).2.1<=X/\(DQ l).2.2.1<=Y/\(DQ l).2.2.2<=Z
 | [],h,_=>absurd rfl h
 | b::l,_,h=>AFO l _ (h b (by simp)) λc E=>h c (by simp[E])
theorem AL2 {X:Int} : ∀(l:List AA) (a:Int),a<=X->(∀b∈l,b.x+b.w<=X)->a<=l.foldl (λa b=>mx a (b.x+b.w)) a/\l.foldl (λa b=>mx a (b.x+b.w)) a<=X
 | [],a,h,_=>⟨IV _,h⟩
 | b::l,a,h,E=>by
   have H:=E b (by simp);have:=AL2 l (mx a (b.x+b.w)) (by rw[DU];omega) λc F=>E c (by simp[F])
   have G:=Mt a (b.x+b.w);rw[Bw];omega
theorem ABE : ∀a b:List AA,AA.FU (a++b)=(AA.FU a && AA.FU b)
 | [],b=>rfl
 | c::a,b=>by simp only[BK,AA.FU,ABE a b,Bool.and_assoc]
theorem AIe : ∀a b:List AA,AA.Hk a<=AA.Hk (a++b)
 | [],b=>CI _
 | c::a,b=>by have:=AIe a b;simp only[BK,AA.Hk];omega
theorem AIM {q:Int}{K:List AA}(F:0<=AU q 30)(E : ∀b∈K,0<=b.h/\0<=b.d):∀k,k<K.length->Mr q K k<=0
 | 0,_=>IV _
 | k+1,h=>by
   have ih:=AIM F E k (by omega);have G:=E _ (bK (cells:=K) (i:=k) (by omega));have H:=E _ (bK h);rw[AIN h];omega
theorem ANi {q:Int}{K A6:List AA}{W:Int}(G:K≠[])(hl:A6.length<=1)(h:K3 q K A6 W=true)(hW:1<=W)(hq:0<=AU q 30)(hK : ∀b∈K,0<=b.h/\0<=b.d):K3 q K [] W=true:=by
 have A5:=h;unfold K3 at h;simp only[Ak]at h;have U:=h.2;unfold GZ AA.Ad at U;obtain⟨N,o⟩:=AI (Gq q K A6 W);rw[o]at U;simp only[Ak,decide_eq_true_eq]at U;obtain⟨b1,b2,b3⟩:=U;have J:=Mq b1;have H:=AED A5;rw[o]at H;obtain⟨r,hr⟩:∃r,N=HS q K++r:=by
  rcases iR q W G hl with ⟨_,e⟩|⟨nb,y,_,e,_⟩
  exact⟨[],by rw[List.append_nil,<-o,e]⟩;exact⟨_,by rw[<-o,e]⟩
 have Q:AA.Az (HS q K)<=19999/\AA.Hk (HS q K)<=99:=by
  have e1:=wo (HS q K) r;have e2:=AIe (HS q K) r;simp only[Bf,AA.cnt,AA.nest]at b2 b3;rw[hr]at b2 b3;omega
 rw[hr,ABE,Ak]at H;have U5:=λb (hb:b∈HS q K)=>ix (l:=N) (b:=b) (by rw[hr];exact ACw _ hb)
 have z:HS q K≠[]:=λe=>G (List.eq_nil_of_length_eq_zero (by have:=congrArg List.length e;rwa [Za]at this))
 obtain⟨m1,m2,m3⟩:=APN z U5;have R:=Kr.2 G;obtain⟨A8,A7⟩:=hK _ (bK R);have zV:=ix (Cj (ZY (q:=q) R));have M:=ZY (q:=q) (K:=K) (k:=K.length - 1) (by omega);have hz:=ix (Cj M);have A1:=Mq (Tt H.1 _ (Cj M));have A0:=Mq (Tt H.1 _ (Cj (ZY (q:=q) R)));have A2:=AIM hq hK (K.length - 1) (by omega);have A3:=(hK _ (bK (cells:=K) (i:=K.length - 1) (by omega))).2;have hw:=AL2 (X:=mx 0 (DQ (HS q K)).2.1) (HS q K) 0 (Mt _ _) λb hb=>Int.le_trans (ix hb).1 (rq _ _)
 obtain⟨E,hE⟩:=AI (DQ N);obtain⟨F,hF⟩:=AI (DQ (HS q K));rw[hE]at J m1 m2 m3;rw[hF]at m1 m2 m3 zV hz hw;simp only[Bf,DU]at J;simp only[AA.AS]at zV hz A1 A0;rw[DU]at hw;have y0:Mr q K 0=0:=rfl;have eL:K0 q K [] W=K:=rfl;have eN:Gq q K [] W=HS q K:=rfl;have eG:(Eu (AU q 30) K.length).getD 0 0=0:=by
  unfold Eu;rw[List.getD_eq_getElem?_getD,CM,List.getElem?_range R];rfl
 rw[y0]at zV;unfold K3 GZ;rw[eL,eN,hF,Ak];have I : ∀ {v:Int},-1073741824<=v->v<=1073741824->An v=true:=λa b=>by simp only[An,Ak,decide_eq_true_eq];exact⟨a,b⟩
 refine⟨AAa ?_ ?_ ?_ H.1 Q.1 Q.2,AAa ?_ ?_ ?_ H.1 Q.1 Q.2⟩;refine I ?_ ?_;show -1073741824<=List.foldl (λa b=>mx a (b.x+b.w)) 0 (HS q K);omega;show List.foldl (λa b=>mx a (b.x+b.w)) 0 (HS q K)<=_;omega;rw[eG];exact I (by omega) (by omega);refine I ?_ ?_;show _<=(A4 K (K.length - 1)).d - Mr q K (K.length - 1);omega;show (A4 K (K.length - 1)).d - Mr q K (K.length - 1)<=_;omega;rw[DU];exact I (by omega) (by omega);exact I (by omega) (by omega);exact I (by omega) (by omega)
section
variable {B:AA} {sp S:List Int} {N:Nat} {W ind:Int}
theorem AW7 {l:List AA}(h:AA.FU l=true)(E:AA.Az l<=1000000):AA.fits l:=xY l (Ze l h) E
end
theorem AO8 (x:Af)(n:Nd)(W:Int)(sn:ByteArray)(hf:x.f.Fit)(hl:x.d.length<=maxLen)(DS : ∀e∈x.d,e.text.size<=maxLen)(hn:n.BX)(hs:sn.size<=maxLen):AC Tryz.prog 8 [.agg (HD x),Am n,Ms W sn] (.c (.bool true)):=by
 have h0:=ou;rcases rm x n W sn hf hl DS hn hs with ⟨B,T,R,G⟩|⟨b,L,P,A6,hc,I,G⟩
 unfold Ms at *
 simp only[Am,As]at G ⊢;refine en uz ntmps8 ?_;exact wz US (cj2 h0 G trivial);obtain⟨d1,d2,d3,d4,d6⟩:=I.facts;have Yt:=I.Qd.XS;have o:=I.bare;have JO:=I.num;obtain⟨K,hK⟩:=AI (Ii x n b (DF x L P W) W);have A2 : ∀c∈K,0<=c.h/\0<=c.d:=λc hc=>by
  rw[<-hK]at hc;obtain⟨k,J,rfl⟩:=List.mem_map.1 hc;rw[List.mem_range]at J;obtain⟨_,_,_,_,_,_,_,_,hh⟩:=I.Qd.items J;exact hh
 have hq:=eK I.hx.val;have A5:=I.ok;have hW:=I.Qd.w1;have WX:=I.Qd.w2;have Av:=eZ (DF x L P W) (n.AE.length:Int) (DF x L P W).length;obtain⟨R,hR⟩:=AI (Jr (DF x L P W) (n.AE.length:Int) (DF x L P W).length);have hg:=AFs x.f;rw[hK]at d1 d2 d6 G A5 o;rw[hR]at G Av;clear I hR hK;obtain⟨q,Iy⟩:=AI x.f.params.Al;rw[Iy]at d6 G hq hg A5 o;have QM:=DM (p:=30) q (by decide) (by decide);have Wc:0<=AU q 30:=by
  unfold AU;split;exact AKT (by omega) (by decide);exact IV _
 have Fc:=ANi d1 d3 A5 hW Wc A2;rw[Fc,if_pos rfl,if_pos rfl]at o;by_cases KF:sn=⟨#[]⟩
 subst KF;unfold Ms at *
 simp only[Am,As]at G ⊢;refine en uz ntmps8 ?_;exact wz US (cj2 h0 G trivial);rcases iR q W d1 d3 with ⟨e,_⟩|⟨M,y,rfl,eN,hy⟩
 exfalso;rcases JO with ⟨e1,_⟩|⟨_,_,_,e2⟩
 exact KF e1;rw[e]at e2;cases e2;have EH:=(d4 M (by simp)).x;have B2:=(d4 M (by simp)).w0;rw[DU]at EH;have Gs:=Kr.2 d1;have eM:Gq q K [] W=HS q K:=rfl;have PB:=Za q K;have WV:=λ(k:Nat) (J:k<K.length)=>ZY (q:=q) J
 have FX:AA.Az (HS q K)<=1000000:=by
  unfold K3 GZ at Fc;rw[Ak,eM]at Fc;have:=Fc.2;simp only[AA.Ad,Bf,AA.cnt,Ak,decide_eq_true_eq]at this;omega
 rw[eN]at d6;have Dz:=AW7 (l:=HS q K) (by rw[ABE,Ak]at d6;exact d6.1) FX;have JK:V8 q (A4 K (K.length - 1)) M W=true->(A4 K (K.length - 1)).x+(A4 K (K.length - 1)).w+q+M.w<=W:=λh=>of_decide_eq_true h
 generalize hN:HS q K=N at eN d6 PB WV Dz eM;obtain⟨c,hc⟩:=AI (M.AS M.x y);rw[hc]at eN d6;have eB : ∃w h d,GZ q K [M] W=Bf w h d (N++[c]):=⟨_,_,_,by unfold GZ;rw[eN]⟩
 have eC : ∃w h d,GZ q K [] W=Bf w h d N:=⟨_,_,_,by unfold GZ;rw[eM]⟩
 obtain⟨w,h,d,eB⟩:=eB;obtain⟨w',h',d',eC⟩:=eC;rw[eB]at G;rw[eC]at o;clear eB eC eN A5 Fc JO eM A2 FX;have GM:c.w=M.w/\c.x=M.x/\c.h=M.h/\c.y=y:=by rw[<-hc];exact⟨rfl,rfl,rfl,rfl⟩
 have dA:=WV (K.length - 1) (by omega);obtain⟨E,PK⟩:=AI ((A4 K (K.length - 1)).AS (A4 K (K.length - 1)).x (Mr q K (K.length - 1)));rw[PK]at dA;have EX:E.w=(A4 K (K.length - 1)).w/\E.x=(A4 K (K.length - 1)).x/\E.d=(A4 K (K.length - 1)).d/\E.y=Mr q K (K.length - 1):=by rw[<-PK];exact⟨rfl,rfl,rfl,rfl⟩
 obtain⟨g,JL⟩:=AI (AU q 30);rw[JL]at hg QM hy Wc;have F:(c.y=E.y/\E.x+E.w+q<=c.x)\/c.y=E.y - (E.d+g+c.h):=by
  rcases hy with ⟨_,e1,e2⟩|⟨_,e2⟩
  have:=JK e1;left;omega;right;omega
 have pc:=Tt d6 c (by simp);have pl:=Tt d6 E (ACw _ (Cj dA));have c1:=Mq pc;have c2:=kU pc;have l1:=Mq pl;have l2:=kU pl;obtain⟨m,hm⟩:=AI R.length;have jO:K.length=m:=by omega
 obtain⟨ns,Fg⟩:=AI (AA.AG (N++[c]));obtain⟨cs,A0⟩:=AI (AA.AG N);have IJ:ns.length=m+1:=by rw[<-Fg,GA,List.length_append,PB,jO];rfl
 have DK:cs.length=m:=by rw[<-A0,GA,PB,jO]
 have row : ∀k (z:AA),(N++[c])[k]?=some z->ns[k]?=some z.row:=λk z J=>by rw[<-Fg,Dt,CM,J];rfl
 have B0 : ∀k (z:AA),N[k]?=some z->cs[k]?=some z.row:=λk z J=>by rw[<-A0,Dt,CM,J];rfl
 obtain⟨j,hj⟩:∃j,m=j+1:=⟨m - 1,by omega⟩
 rw[jO]at dA PB;have rl:=row j E (by rw[EJ (by omega)];rw[show m - 1=j by omega]at dA;exact dA);have rc:=row m c (by rw[List.getElem?_append_right (by omega),show m - N.length=0 by omega];rfl);have A3:c.x=max 0 (W - c.w):=by omega
 have A8:0<=c.w:=by omega
 have A9 : ∀k,k<m->∃z,N[k]?=some z:=λk J=>⟨_,WV k (by omega)⟩
 clear WV hy JK hc GM PK EX EH B2 d1 d2 d3 d4 JL pc pl dA;obtain⟨x0,x1,x2,x3,x4,x5,x6,x7,x8,x9,B3⟩:=E;obtain⟨y0,y1,y2,Q,y4,y5,y6,y7,y8,y9,B7⟩:=c;simp only[AA.row]at c1 c2 l1 l2 rl rc F A3 A8;have eY:=gx rl;have Ph:=gx rc;have f0:j<ns.length:=by omega
 have f1:m<ns.length:=by omega
 have w1:AZ.wrap ((m:Int)+1)=(m:Int)+1:=Ac;have w2:AZ.wrap ((m:Int) - 1)=(j:Int):=by rw[Ac];omega
 have U:AZ.wrap (y6+Q)=y6+Q:=Ac;have w4:AZ.wrap (x6+x3)=x6+x3:=Ac;have w5:AZ.wrap (x6+x3+q)=x6+x3+q:=Ac;have w6:AZ.wrap (x5+g)=x5+g:=Ac;have w7:AZ.wrap (x5+g+y4)=x5+g+y4:=Ac;unfold Ms at *
 simp only[Am,As,Bf,AR]at G o ⊢;simp only[AA.vs,AA.row,Ap,BB,AV,Fg,A0]at G o;have s2:(HD x)[2]?=some (.c (.int .i64 q)):=by rw[<-Iy];rfl
 have A7:=gx s2;clear hj;refine en uz ntmps8 ?_;refine wy (cj5 @hm @IJ @DK @KF @w1 US) (cj3 h0 G o trivial) ⟨?_⟩;refine lp (ι:={ k:Nat // k<=m }) (λk=>[(13,.c (.int .i64 (k.1:Int)))]) (λ_=>[O.box 30 (HD x) false,O.box 33 n.vs false,O.box 35 [.c (.int .i64 W),.c (.str sn)] false,O.box 41 [.c (.int .i64 3),.c (.str ⟨#[]⟩),.c (.int .i64 0),.c (.int .i64 w),.c (.int .i64 h),.c (.int .i64 d),.c (.int .i64 0),.c (.int .i64 0),.c (.sl ns),.c (.int .i64 0),.c (.sl [])] false,O.box 41 b.vs false,O.box 41 [.c (.int .i64 3),.c (.str ⟨#[]⟩),.c (.int .i64 0),.c (.int .i64 w'),.c (.int .i64 h'),.c (.int .i64 d'),.c (.int .i64 0),.c (.int .i64 0),.c (.sl cs),.c (.int .i64 0),.c (.sl [])] false]) (λk=>m - k.1) ⟨0,CI _⟩ ?_ ?_;all_goals simp only[CG,Bw,List.foldl_nil,List.set_cons_zero,List.set_cons_succ]
 exact DH;rintro ⟨k,J⟩;simp only;by_cases H:k<m;obtain⟨z,hz⟩:=A9 k H;have he:=AKO z (AA.pq Dz z (Cj hz));have rz:=row k z (by rw[EJ (by omega)];exact hz);have A1:=B0 k z hz;obtain⟨z0,z1,z2,z3,z4,z5,z6,z7,z8,z9,B8⟩:=z;simp only[Ao,AA.row,Ap,BB]at he rz A1;have su:=gx rz;have B1:=gx A1;have l3:k<ns.length:=by omega
 have l4:k<cs.length:=by omega
 have v7:AZ.wrap ((k:Int)+1)=((k+1:Nat):Int):=by rw[Ac];simp
 refine wy (cj9 @H @hm @rz @su @A1 @B1 @l3 @l4 @v7 US) (cj he<|trivial) ⟨?_⟩;exact⟨⟨k+1,by omega⟩,by simp only;omega,wd 6⟩
 . obtain rfl:k=m:=by omega
   have hb:(Q<=W/\¬W<Q/\AZ.wrap (y6+Q)=W/\(W=W↔True))\/(¬Q<=W/\W<Q/\AZ.wrap (y6+Q)=y6+Q/\(y6=0↔True)):=by
    by_cases h:Q<=W;exact .inl ⟨h,by omega,U.trans (by omega),by simp⟩;exact .inr ⟨h,by omega,U,by simp;omega⟩
   clear U A3;rcases hb with ⟨e0,e4,U,e5⟩|⟨e0,e4,U,e5⟩
   all_goals
    by_cases e1:y7=x7;subst e1;by_cases e2:x6+x3+q<=y6;clear F;exact wz (cj9 @H @hm @rl @eY @rc @Ph @f0 @f1 @w2<|cj9 @U @w4 @w5 @e0 @e4 @e5 @e2 @s2 @A7 US) trivial;have w7:=w7.trans (show x5+g+y4=0 by omega);clear F;exact wz (cj9 @H @hm @rl @eY @rc @Ph @f0 @f1 @w2<|cj9 @U @w4 @w5 @w6 @w7 @e0 @e4 @e5 @e2<|cj2 @s2 @A7 US) (cj hg<|trivial);clear F;exact wz (cj9 @H @hm @rl @eY @rc @Ph @f0 @f1 @w2<|cj5 @U @e0 @e4 @e5 @e1 US) trivial
end
end Go.Proofs.YtlpomcliejmedaaGreat
namespace Go.Proofs.YtlpomcliejmedaaGreat.displayNumber
open Go.ChangeShapes Go.WideShapes Go.ChangeAt Go.RowKit
theorem j0:IC.wf (OpenSpec.ofChange Px)=true:=by kernel_rfl
theorem j3:Jy.params.all (AF.readableRec ·)=true:=by kernel_rfl
theorem j4:namedTie AF IC.named Px.vars=true:=by kernel_rfl
theorem j5:(IC.stops ==[])=true:=by kernel_rfl
theorem j7:(IC.knobs ==[])=true:=by kernel_rfl
theorem j9:(IC.inPlace==AF.inPlace 8)=true:=by kernel_rfl
theorem ZA:(IC.unfollowed==AF.unfollowed 8)=true:=by kernel_rfl
theorem ZB:(IC.recurses==AF.recurses 8)=true:=by kernel_rfl
theorem ZC:(IC.named==AF.varsNamed 8)=true:=by kernel_rfl
theorem ZD:(IC.maps==(Jy.params.toList++Px.plain.varTypes AF).any (AF.mapsRec ·))=true:=by kernel_rfl
theorem ZE:(IC.ifaces==(Jy.params.toList++Px.plain.varTypes AF).any (AF.ifacesRec ·))=true:=by kernel_rfl
theorem ZF:(IC.mapsOut==AF.mapsAmong Jy.resultTypes.toList)=true:=by kernel_rfl
theorem ZG:(IC.loops==(Jy.params.toList++Px.plain.varTypes AF).any (AF.loopsFrom ·))=true:=by kernel_rfl
theorem ZH:(IC.wideKeys==(Jy.params.toList++Px.plain.varTypes AF++Jy.resultTypes.toList).any (AF.wideKeysFrom ·))=true:=by kernel_rfl
theorem ZI:Px.vars.all (AF.varReadable ·)=true:=by kernel_rfl
theorem ZJ:Jy.resultTypes.all (λt=>AF.readableRec t && decide (t<AF.types.size))=true:=by kernel_rfl
theorem ZK:(IC.ifacesOut==Jy.resultTypes.toList.any (AF.ifacesRec ·))=true:=by kernel_rfl
theorem ZL:(IC.loopsOut==Jy.resultTypes.toList.any (AF.loopsFrom ·))=true:=by kernel_rfl
theorem ZM:(IC.pinned==IC.pinnedBy)=true:=by kernel_rfl
theorem ZN:(IC.veiled==(Jy.params.toList++Px.plain.varTypes AF++Jy.resultTypes.toList).any (AF.veiledRec ·))=true:=by kernel_rfl
theorem ZO:IC.veiledFits AF Jy.params.toList (Jy.params.toList++Px.plain.varTypes AF++Jy.resultTypes.toList)=true:=by kernel_rfl
theorem lifted (os:Os)(E:os.Started)(H:Type)(enc:TypeId×Value->H) :
 ReturnsInHanded {} RF os 8 .any (Px.pre6 enc AF Jy IC.domain false) (Px.post enc AF Jy false true false false):=by
 refine returnsInHanded_of_change (C:=RF) own E (by kernel_rfl) uz
  (uD (enc:=enc) (C:=RF) false ⟨#[],#[.agg (#[.slice none 0 0,.slice none 0 0]++Array.replicate 20 (.int .i64 0)++#[.slice none 0 0]),.agg #[.int .i64 0,.string ⟨#[]⟩,.int .i64 0,.slice none 0 0],.agg #[.int .i64 0,.string ⟨#[]⟩]],[]⟩ 8 (by kernel_rfl) (by kernel_rfl) (by kernel_rfl) (by kernel_rfl)) ?_
 intro W G args ds gs before M U o _;have B : ∀(j:Nat) t v,Jy.params[j]?=some t->args[j]?=some v->Value.okWide AF W .any G t v:=M;have QJ:=U;obtain⟨p,q,K,hV,rfl,cm,TV⟩:=U;have S:DataW.TrodAll enc AF W 0 (λ_=>true) true Jy.params.toList args.toList ds p:=K;rw[Tryz.params8]at S B;obtain⟨I,v1,F,d0,d1,d2,p0,p1,p2,rfl,rfl,rfl,h0,h1,h2⟩:=trodAll_three S;clear K M;obtain⟨x,J,c0⟩:=Qi Tryz.underlying30 (B 0 30 I rfl rfl) h0 (λ_=>sA);obtain⟨b,hb,c1⟩:=Qi Tryz.underlying33 (B 1 33 v1 rfl rfl) h1 (λ_=>km _);obtain⟨m,hm,c2⟩:=Qi Tryz.underlying35 (B 2 35 F rfl rfl) h2 (λ_=>r9);exact rW (args:=#[I,v1,F]) (AO8 x b m.1 m.2 J.1 J.2.1 J.2.2 hb hm) (by
  simp only[AO];exact⟨I,[v1,F],rfl,c0,v1,[F],rfl,c1,F,[],rfl,c2,rfl⟩) (Q:=λv R=>Px.post enc AF Jy false true false false W #[I,v1,F] v R) (λR hk=>rX QJ rfl rfl Tryz.underlying4 laid hk (by
  rw[Tryz.params8];intro t z;simp only[List.mem_cons,List.not_mem_nil,or_false]at z;rcases z with rfl|rfl|rfl<;>exact⟨by kernel_rfl,of_decide_eq_true (by kernel_rfl)⟩) rfl rfl rfl)
theorem closed:joinedFacts AF 8 Jy Px IC=true:=by
 have J:laidOutB AF=true:=q1;have K:mapsRowed AF=true:=q2;have M:(AF.stops ==[])=true:=q6;have Q:(AF.stopKnobs ==[])=true:=q8;have B:(IC.plainKeys==AF.plainKeys)=true:=sO;have E:IC.shortTexts.isNone=true:=sP;have F:AF.stopsHeard=true:=sQ;have G:AF.mayEnter=true:=sR;have H:(IC.lifted==AF.liftsFinal)=true:=sS;have I:(AF.make==some IC.make)=true:=sT;unfold joinedFacts;simp only[j0,J,K,j3,j4,j5,M,j7,Q,j9,ZA,ZB,ZC,ZD,ZE,ZF,ZG,ZH,ZI,ZJ,ZK,ZL,B,E,F,G,H,I,ZM,ZN,ZO,Bool.and_self,Bool.true_and,Bool.and_true];rfl
theorem over:IC.holds Tryz.pinned (OpenSpec.ofChange Px):=
 OpenClaim.holds_of_wide 8 Jy rfl rfl rfl rfl rfl rfl rfl ⟨rfl,rfl,rfl,rfl,rfl⟩ rfl rfl rfl rfl rfl (by kernel_rfl) uz closed
  (of_decide_eq_true (by kernel_rfl)) (by unfold Func.isWrapper;first|(rw[if_pos (by decide +kernel)];kernel_rfl)|(rw[if_neg (by decide +kernel)];exact⟨rfl,rfl⟩))
  (λos B H E _=>lifted os B H E)
theorem proved:Rows.DisplayNumberSaid:=
 over
#print axioms proved
end Go.Proofs.YtlpomcliejmedaaGreat.displayNumber
