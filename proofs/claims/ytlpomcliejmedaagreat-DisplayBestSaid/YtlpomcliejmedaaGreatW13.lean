/- Part of the proof of displayBest.proved. Conditions: none. -/
import Derived.Test.YtlpomcliejmedaaGreatW12
set_option linter.unusedVariables false
set_option linter.unusedSimpArgs false
set_option maxRecDepth 100000
set_option maxHeartbeats 16000000
open Go.Proofs.Tryz renaming prog→AF,func70→nL,ntmps70→nV,results70→RJ,results32→vS,results78→vf,results69→MP,underlying42→nu,func22→nF,ntmps22→nS,results22→MO,func33→nI,ntmps33→nU,results33→UQ,results15→nZ,results75→np,results73→MQ,results36→aW,results34→vV,f12→gF,results12→IE
open Nat renaming zero_le→CI,le_of_ble_eq_true→F2,zero_add→Cz,le_refl→BN,sub_self→La,add_zero→M8,lt_irrefl→IY,not_lt_zero→UE,le_trans→Ps,le_of_lt→LZ,le_of_not_lt→Hq,lt_of_lt_of_le→H7
open Bool renaming and_eq_true→Ak,true_and→Cd,and_true→Km,and_self→LW,not_eq_false→ACg
open List renaming mem_singleton→LY,map_cons→Ap,map_nil→BB,foldl_cons→Bw,foldl_nil→CO,set_cons_zero→Ag,set_cons_succ→Ai,drop_eq_getElem_cons→D5,all_cons→Ep,replicate_succ→BY,replicate→Aq,length_map→Ch,length_cons→BA,length_nil→BO,replicate_zero→Cy,cons_append→BK,nil_append→BU,getElem?_eq_getElem→BE,getElem?_map→CM,getD_eq_getElem?_getD→Bv,getElem?_append_left→EJ,length_replicate→H6,replicate_succ'→Sj,getElem?_append_right→Gy,eq_nil_of_length_eq_zero→Nr,getElem?_eq_some_iff→Br,all_eq_true→ES,length_append→Cp,length_take→Fa,length_drop→Ns,getElem?_drop→Ve,set_append_right→Vg,take_add_one→UC,map_append→Fm,append_assoc→GX,take_length→Sn,drop_length→AMb,append_nil→E5,pairwise_cons→mY,length→aJ,take_succ_cons→DP,take_zero→ET,drop_succ_cons→CU,drop_zero→B9,mem_of_getElem?→Cj,range→E6,range_succ→gB,mem_append→MJ,mem_map→Da,mem_cons_self→GH,mem_cons_of_mem→Gk,mem_range→KP,getElem_mem→Kq,length_pos_iff→Kr,mem_cons→Cf,length_set→GF,map→Vf,pairwise_iff_getElem→mZ,getD_cons_zero→On,getD_cons_succ→Om,getElem?_set_ne→HF,getElem?_set_self→IX
open Go.IntKind renaming i64→AZ
open Option renaming map_some→Nu,getD_some→Dm
open Int renaming le_refl→IV,toNat_natCast→Xk
open Go.Op renaming operands→Bl
open Go.Call renaming operands→Df
open List.Pairwise renaming nil→ACm
open Go.Oper renaming wp→Er,upon→Nt,looksAt→Gm
open Go.Region renaming wanted→FB
open Go.Fence renaming wide→Cg
open Array renaming replicate→M4,toList_inj→Gx,getD_eq_getD_getElem?→Kl,toList_setIfInBounds→Va
open Go.Exit renaming thenS→uF
open ByteArray renaming size_append→fe
open Go.Lit renaming int→I9
open Go.Deferred renaming ofValue→M5
open Option.some renaming injEq→BL
namespace Go.Proofs.YtlpomcliejmedaaGreat
open Go.RowKit Tryz
variable {b:AA}{k:Nat}{P:Program}{T:List Nat}{a:Act}{K:List AA}{i:Nat}{S0:BF}{w0:Bs}{w:World}{H:Bx}{o:Oper}{sp:List Int}{B:AA}{fn:Func}{A6:List AA}{v:Value}{ops:List Oper}{bx:AA}{er:Int}{ty:TypeId}{SC:C}(x:Af)(g:Int)(s:ByteArray)(S:List Int)
def Wy (x:Af)(s:Aa)(src:List Int)(n:Nd):V:=if (x.Bj s && (Dd [n]).Ad)=false then O1 1 else if Sd src 1=false then O1 2 else outT (Fw x s src n)
theorem AUM (n:Nd)(src:List Int)(s:Aa)(hf:x.f.Fit)(hl:x.d.length<=300)(DS : ∀e∈x.d,e.text.size<=maxLen)(hn:n.BX)(hc:n.cnt<=80)(q:src.length<=maxLen):AC AF 70 [.agg x.f.vs,.c (Cc x.d),Am n,.c (AV src),Aj s] (Wy x s src n):=by
 have z:(Dd [n]).BX:=by
  simp only[Dd,Nd.BX,Nd.FY];exact⟨CI _,by simp[maxLen],hn,trivial⟩
 have E:=AIR x s hl DS;have F:=ABR [n] z (by simp only[Dd,Nd.cnt,Nd.Az];omega);have G:=AIP src q 1 (.inr rfl);have J:x.Bj s=true->(Dd [n]).Ad=true->Sd src 1=true->AC AF 121 [.fn 122 [.cp x.f.row 0,.cp [Cc x.d] 0,.cp n.row 0,.cp [AV src] 0,.cp [.int .i64 s.By,.bool s.Hd] 0]] (outT (Fw x s src n)):=λR U I=>by
  unfold Af.Bj at R;simp only[Ak]at R;unfold Nd.Ad at U;simp only[Ak,decide_eq_true_eq]at U;unfold Sd at I;simp only[Ak,decide_eq_true_eq]at I;obtain⟨f1,f2,_,_,f5⟩:=AAP U.2.1 z (LY.2 rfl);have FJ:n.kind≠1:=by
   intro e;rw[e]at f2;simp[Dd,Pa]at f2
  have hx:x.Ok:=⟨hf,R.1,hl,R.2.1⟩
  exact AEg _ _ _ (AON x n src s _ hx λm=>(AKX x m n).2 src s ⟨hx,R.2.2,FJ,f1,hn,hc,by omega,⟨I.1,I.2.2,by omega⟩⟩) (by decide)
 change AC _ _ _ (.c (.bool (x.Bj s)))at E;simp only[Nd.AG]at F;obtain⟨OV,jR⟩:=AI (x.Bj s);obtain⟨NV,jQ⟩:=AI ((Dd [n]).Ad);obtain⟨SV,jX⟩:=AI (Sd src 1);obtain⟨o,ho⟩:=AI (Fw x s src n);unfold Wy;rw[jR]at E J ⊢;rw[jQ]at F J ⊢;rw[jX]at G J ⊢;rw[ho]at J ⊢;clear jR jQ jX ho;obtain⟨f,d⟩:=x;obtain⟨kd,t,c,AE⟩:=n;obtain⟨lv,cr⟩:=s;simp only[Am,Nd.vs,Aj,Nd.row]at E F G J ⊢;cases OV with
 | false=>refine en nL nV ?_;refine wy RJ (cj3 E F G trivial) ⟨?_⟩;exact At (cj8 RJ @O1.eq_1 @Ao.eq_1 @AR.eq_1 @AA.zero.eq_1 @AA.row.eq_1 @AA.AG.eq_1 @AA.AG.eq_2 @AV.eq_1)
 | true =>
   cases NV with
   | false=>refine en nL nV ?_;refine wy RJ (cj3 E F G trivial) ⟨?_⟩;exact At (cj8 RJ @O1.eq_1 @Ao.eq_1 @AR.eq_1 @AA.zero.eq_1 @AA.row.eq_1 @AA.AG.eq_1 @AA.AG.eq_2 @AV.eq_1)
   | true =>
     cases SV with
     | false=>refine en nL nV ?_;refine wy RJ (cj3 E F G trivial) ⟨?_⟩;exact At (cj8 RJ @O1.eq_1 @Ao.eq_1 @AR.eq_1 @AA.zero.eq_1 @AA.row.eq_1 @AA.AG.eq_1 @AA.AG.eq_2 @AV.eq_1)
     | true =>
       have M:=J rfl rfl rfl;obtain⟨sr,I⟩:=AI (AV src);rw[I]at M G ⊢;clear J I;cases o with
       | none=>refine en nL nV ?_;refine wu (.mk 5) RJ (cj3 E F G trivial) ⟨?_⟩;refine Cn 0 ?_;refine Cn 1 ?_;refine Cn 2 ?_;refine Cn 3 ?_;refine Cn 4 ?_;simp only[outT,Ao,AR,AA.zero,AA.row,AA.AG,AV,Ap,BB]at M;refine wy RJ (cj M<|trivial) ⟨?_⟩;exact At (cj9 RJ @outT.eq_1 @outT.eq_2 @Ao.eq_1 @AR.eq_1 @AA.zero.eq_1 @AA.row.eq_1 @AA.AG.eq_1 @AA.AG.eq_2 @AV.eq_1)
       | some bx=>obtain⟨b0,b1,b2,b3,b4,b5,b6,b7,bk,bo,bs⟩:=bx;simp only[outT,Ao,AR,AA.row,Ap,BB]at M;obtain⟨Ju,Ga⟩:=AI (AA.AG bk);obtain⟨Jv,OD⟩:=AI (AV bs);rw[Ga,OD]at M;refine en nL nV ?_;refine wu (.mk 5) RJ (cj3 E F G trivial) ⟨?_⟩;refine Cn 0 ?_;refine Cn 1 ?_;refine Cn 2 ?_;refine Cn 3 ?_;refine Cn 4 ?_;refine wy RJ (cj M<|trivial) ⟨?_⟩;exact At (cj7 RJ @outT.eq_1 @outT.eq_2 @Ao.eq_1 @AR.eq_1 @AA.row.eq_1 @Ga @OD)
theorem eK {f:AP}(h:f.valid=true):0<=f.params.Al/\f.params.Al<=20000:=by
 simp[AP.valid,Qk,Params.lens,Params.SK,DX]at h;omega
theorem rR (f:AP)(W:Int)(F:f.valid=true)(z:1<=W)(h2:W<=10000000):AC AF 18 [.agg f.vs,.c (.int .i64 W)] (.c (.int .i64 (HA f.params.Al W))):=by
 have h:=Ma f;rw[F]at h;have I:=eK F;obtain⟨q,E⟩:=AI f.params.Al;rw[E]at I ⊢;have G:W.tdiv 2=W / 2:=Int.tdiv_eq_ediv_of_nonneg (by omega);have R:AZ.wrap (2*q)=2*q:=Ac;have U:AZ.wrap (W.tdiv 2)=W / 2:=by rw[G];exact Ac
 have J : ¬W<1:=by omega
 have M : ¬10000000<W:=by omega
 unfold HA mn;refine en func18 ntmps18 ?_;exact wz (cj5 @J @M @E @R @U results18) (cj h<|trivial)
theorem pZ (n:Nd)(q:x.d.length<=300)(I : ∀e∈x.d,e.text.size<=maxLen)(M:n.BX)(U:n.cnt<=80):AC AF 31 [.agg x.f.vs,.c (Cc x.d),Am n] (.c (.bool (x.f.valid && (Ll x.d && n.Ad)))):=by
 have E:=Ma x.f;have F:=sM x.d (by omega) I;have G:=ABQ n M (by omega);unfold Am at G ⊢;cases R:x.f.valid<;>cases J:Ll x.d<;>rw[R]at E<;>rw[J]at F;all_goals
  refine en func31 ntmps31 ?_;exact wz (cj @E<|results31) (cj3 E F G trivial)
def Pd (s:ByteArray):Bool:=s.data.toList.all Dx && decide (s.size<=16)
theorem AIn (hs:s.size<=maxLen):AC AF 32 [.c (.str s)] (.c (.bool (Pd s))):=by
 unfold maxLen at hs;refine en func32 ntmps32 ?_;refine wy vS trivial ⟨?_⟩;refine lp (ι:={ k:Nat // k<=s.size/\s.data.toList.all Dx=(s.data.toList.drop k).all Dx }) (λk=>[(3,.c (.int .i64 (k.1:Int))),(2,.c (.bool false))]) (λ_=>[]) (λk=>s.size - k.1) ⟨0,by simp⟩ ?_ ?_;all_goals simp only[puts,Bw,CO,Ag,Ai]
 exact DH;rintro ⟨k,hk,F⟩;simp only;by_cases E:k<s.size;have R:s.data.toList.drop k=(s.data[k]'E)::s.data.toList.drop (k+1):=by rw[D5 (by simpa using E)];simp
 rw[R,Ep]at F;obtain⟨b,G⟩:=AI (s.data[k]'E);rw[G]at F;have q:AZ.wrap ((k:Int)+1)=((k+1:Nat):Int):=by rw[Ac];simp
 have M:Dx b=false->Pd s=false:=λe=>by unfold Pd;rw[F,e];rfl
 by_cases I:(b.toNat:Int)<32;rw[M (pB (.inl (by omega)))];refine go (cj2 @E @G @I) ?_;exact At vS;by_cases J:(126:Int)<(b.toNat:Int);rw[M (pB (.inr (by omega)))];refine go (cj3 @E @G @I @J) ?_;exact At vS;rw[AEV ⟨by omega,by omega⟩,Cd]at F;refine go (cj4 @E @G @I @J @q) ?_;exact⟨⟨k+1,by omega,F⟩,by simp only;omega,wd 0⟩;have U:Pd s=decide ((s.size:Int)<=16):=by
  have z:s.size=s.data.size:=rfl;unfold Pd;rw[F,List.drop_of_length_le (by simp;omega),List.all_nil,Cd,decide_eq_decide];omega
 rw[U];exact wz (cj @E<|vS) trivial
theorem AWR (k c own W ind:Int)(z:0<=own)(h2:own<=1073741824)(h3:1<=W)(h4:W<=10000000)(h5:0<=c)(h6:c<=1000):AC AF 78 [.c (.int .i64 k),.c (.int .i64 c),.c (.int .i64 own),.c (.int .i64 W),.c (.int .i64 ind)] (.c (.int .i64 (OY k c own W ind))):=by
 have I:AZ.wrap (W - own)=W - own:=Ac;have J:AZ.wrap (c - 1)=c - 1:=Ac;have M:=Ke (W - own);unfold OY mx;refine en func78 ntmps78 ?_;by_cases E:c=1;have R:=iff_true_intro E;rw[if_pos E];clear E;exact wz (cj2 @I @R vf) (cj M<|trivial);rw[if_neg E];by_cases F:k=0;have U:=iff_true_intro F;rw[if_pos F];clear F;exact wz (cj2 @E @U vf) trivial;rw[if_neg F];by_cases G:k=c - 1;have q:=iff_true_intro G;rw[if_pos G];clear G;exact wz (cj5 @I @J @E @F @q vf) trivial;rw[if_neg G];exact wz (cj4 @J @E @F @G vf) trivial
theorem AFA (S:C)(n:Int):AC AF 47 [.c S,.c (.int .i64 n)] (.fn 89 [.cp [S] 0,.cp [.int .i64 n] 0]):=by
 refine en func47 ntmps47 ?_;with_reducible refine AW.seq ?_
 with_reducible refine AW.region ?_
 with_reducible refine If (by simp[BY];first|exact rfl|exact⟨rfl,rfl⟩) ?_
 with_reducible refine Kz ?_
 with_reducible refine G3 ?_
 refine Cn 0 ?_;refine Cn 1 ?_;refine Ah ?_;exact At results47
def WE (y:Nat)(S:List (List C))(m k:Nat)(n:Int):List V:=[.yl y,.cp [.sl S] 0,.cp [.int .i64 n] 0,.any,.any,.any,.any,.c (.sl S),.c (.int .i64 (m:Int)),.c (.int .i64 (k:Int))]++Aq 21 .any
theorem AE9 (n:Int)(hl:S.length<=1000000):MS AF 89 [.cp [AV S] 0,.cp [.int .i64 n] 0] (λ(pre:List Unit) (_:Unit)=>#[.int .i64 (S.getD pre.length 0),.int .i64 ((S++[n]).getD (pre.length+1) 0)]) (λxs=>xs.length=S.length) S.length:=by
 obtain⟨F,J⟩:=AI (S.map (λn=>[C.int .i64 n]));have PF:F.length=S.length:=by rw[<-J,Ch]
 rw[show AV S=.sl F by rw[<-J];rfl];refine MS.intro func89 rfl rfl λY=>?_
 simp only[ntmps89,BA,BO,Nat.reduceAdd,Nat.reduceSub,BY,Cy,BK,BU];refine ED @PF ?_;refine IW.loop (ι:={ k:Nat // k<=S.length }) (λk=>(⟨Aq k.1 (),false⟩,⟨WE Y.l F S.length k.1 n,[]⟩)) (λk=>S.length - k.1) ⟨0,by omega⟩ rfl ?_ ?_;refine G1.drop (by simp[DG,WE]) (by simp[V.BI,V.A8,WE]);rintro ⟨k,hk⟩;simp only[WE,BY,Cy,BK,BU];by_cases E:k<S.length;obtain⟨a,ha⟩:∃a,S[k]?=some a:=⟨_,BE E⟩
 have q:F[k]?=some [.int .i64 a]:=by rw[<-J,CM,ha];rfl
 have z:=gx q;have l1:k<F.length:=by omega
 have ea:S.getD k 0=a:=by rw[Bv,ha];rfl
 have I:AZ.wrap ((k:Int)+1)=((k+1:Nat):Int):=by rw[Ac];simp
 obtain⟨K,G⟩:=AI (k+1);by_cases M:K<S.length;obtain⟨b,hb⟩:∃b,S[K]?=some b:=⟨_,BE M⟩
 have r2:F[K]?=some [.int .i64 b]:=by rw[<-J,CM,hb];rfl
 have Pg:=gx r2;have l2:K<F.length:=by omega
 have U:(S++[n]).getD K 0=b:=by rw[Bv,EJ M,hb];rfl
 have R:(K:Int)<(S.length:Int):=by omega
 rw[G]at I;refine ED (cj9 @E @PF @q @z @l1 @I @M @R @r2<|cj @Pg @l2) ?_;refine IL.lu () (i1:=a) (i2:=b) rfl (by simp[BQ]) (by simp[ev]) (by simp[ev]) (by simp[ev]) (by rw[H6,G,ea,U]) (by simpa using E) (by simp[V.BI,V.A8]) ?_ ?_;simp only[St.put,Ag,Ai];refine ED @I ?_;refine⟨⟨k+1,by omega⟩,by simp only;omega,?_,?_⟩;simp[Sj];exact G1.drop (by simp[DG,WE,<-G]) (by simp[V.BI,V.A8,WE]);simp only[St.put,Ap,BB,V.VT,Ag,Ai];refine ED trivial ?_;exact⟨.inr rfl,λh=>nomatch h⟩;have U:(S++[n]).getD K 0=n:=by rw[Bv,Gy (by omega),show K - S.length=0 by omega];rfl
 have R : ¬(K:Int)<(S.length:Int):=by omega
 rw[G]at I;refine ED (cj7 @E @PF @q @z @l1 @I @M @R) ?_;refine IL.lu () (i1:=a) (i2:=n) rfl (by simp[BQ]) (by simp[ev]) (by simp[ev]) (by simp[ev]) (by rw[H6,G,ea,U]) (by simpa using E) (by simp[V.BI,V.A8]) ?_ ?_;simp only[St.put,Ag,Ai];refine ED @I ?_;refine⟨⟨k+1,by omega⟩,by simp only;omega,?_,?_⟩;simp[Sj];exact G1.drop (by simp[DG,WE,<-G]) (by simp[V.BI,V.A8,WE]);simp only[St.put,Ap,BB,V.VT,Ag,Ai];refine ED trivial ?_;exact⟨.inr rfl,λh=>nomatch h⟩;refine ED (cj @E<|@PF) ?_;exact⟨.inl rfl,λ_=>by simp;omega⟩
def Tr (e:Int):List PanicEntry:=[⟨.iface 42 (.int .i64 e),false,false⟩]
theorem xL (b:AA):AC AF 69 [Ao b,AR 0] (Ao b):=by
 unfold AR;simp only[As];refine en func69 ntmps69 ?_;exact wz MP trivial
theorem AFC (b:AA)(e:Int)(E:e≠0):PC AF 69 [Ao b,AR e] (Tr e):=by
 unfold AR;simp only[As];refine PC.intro func69 rfl ?_;simp only[ntmps69,Ap,BB,BA,BO,Nat.reduceAdd,Nat.reduceSub,BY,Cy,BK,BU];refine wu (.mk 2) (cj @E<|MP) trivial ⟨?_⟩;refine AW.DA ?_;refine CY (.mk 1) trivial ?_;exact SW.rp (hty:=nu) rfl rfl rfl rfl rfl rfl (F2 rfl) rfl
theorem AJR (cls W sp:List Int):∀k,(Ni cls W sp k).length=(FZ cls (k+1)).length
 | 0=>by simp[Ni,E7,FZ,AJW]
 | k+1=>by
   have h:=AJR cls W sp k;unfold Ni at h ⊢;simp only[E7];rw[FZ];cases E:OX cls (k+1)with
   | true=>simp at h ⊢;omega
   | false=>simp at h ⊢;omega
def Sf:List (Int×Int×Int)->Int
 | []=>0
 | q::l=>q.1+q.2.1+Sf l
theorem ABz : ∀a b,Sf (a++b)=Sf a+Sf b
 | [],b=>by simp[Sf]
 | q::a,b=>by simp only[BK,Sf,ABz a b];omega
theorem AJS {cls W sp:List Int}{A:Nat->Int}{N:Nat}(G:A 0=0)(hs:sp.getD 0 0=0)(F : ∀k,k<N->A (k+1)=A k+sp.getD k 0+W.getD k 0):∀k,k<N->Sf (Ni cls W sp k)=A (k+1)
 | 0,h=>by
   have:=F 0 h;simp only[Ni,E7,BU,Sf];omega
 | k+1,h=>by
   have E:=AJS (cls:=cls) G hs F k (by omega);have I:=F (k+1) h;unfold Ni at E ⊢;simp only[E7];split;simp only[ABz,Sf]at E ⊢;omega;simp only[ABz,Sf]at E ⊢;omega
theorem AJQ (cls W sp:List Int):∀k,((E7 cls W sp k).1=[]->(E7 cls W sp k).2.2.1=0)/\∀q r,(E7 cls W sp k).1=q::r->q.2.1=0
 | 0=>⟨λ_=>rfl,λq r h=>by simp[E7]at h⟩
 | k+1=>by
   obtain⟨F,G⟩:=AJQ cls W sp k;simp only[E7];split;refine⟨λh=>by simp at h,λq r h=>?_⟩;simp only at h;cases E:(E7 cls W sp k).1 with
   | nil=>rw[E,BU]at h;cases h;exact F E
   | cons a l=>rw[E,BK]at h;cases h;exact G _ _ E
   exact⟨F,G⟩
theorem AV3 (cls W sp:List Int)(k:Nat):∀q r,Ni cls W sp k=q::r->q.2.1=0:=λq r h=>by
 obtain⟨F,G⟩:=AJQ cls W sp k;unfold Ni at h;cases E:(E7 cls W sp k).1 with
 | nil=>rw[E,BU]at h;cases h;exact F E
 | cons a l=>rw[E,BK]at h;cases h;exact G _ _ E
theorem AZA (q v:Int)(l:List Int):(CC q v l).getD 0 0=0:=by cases l<;>rfl
structure oC (b:AA)(L:List (Int×Int×Int))(P:List Int):Prop where
 len:L.length=P.length
 ra:L.length<=64
 ok:L.all SJ=true
 sum:Sf L=b.w
 first : ∀q r,L=q::r->q.2.1=0
theorem AJh (cls:List Int):∀k,∃r,FZ cls k=0::r
 | 0=>⟨[],rfl⟩
 | k+1=>by
   obtain⟨r,h⟩:=AJh cls k;exact⟨r++(if OX cls k=true then [(k:Int)]else []),by rw[FZ,h];rfl⟩
def dx (x:Af)(n:Nd)(s:Aa)(b:AA):List (Int×Int×Int):=Ni (I6 (JP x.d n.AE)) (b.AE.map AA.w) (x.CC s n.AE) (n.AE.length - 1)
structure af (x:Af)(s:Aa)(n:Nd)(b:AA)(L:List (Int×Int×Int))(P:List Int):Prop where
 ok:x.Bj s=true
 nv:n.Ad=true
 row:GU x s [] n=some b
 val:b.Ad=true
 au : ∃A,Vs b (x.CC s n.AE) A/\Sy (x.CC s n.AE) A L P n.AE.length
 p0:P.getD 0 0=0
 eq:L=dx x n s b
 Pw:P=FZ (I6 (JP x.d n.AE)) n.AE.length
def z3 (x:Af)(n:Nd)(s:Aa):Prop:=∀b,x.Bj s=true->n.Ad=true->GU x s [] n=some b->n.AE≠[]->Zk (dx x n s b)=false
theorem AJr (n:Nd)(s:Aa)(hf:x.f.Fit)(hl:x.d.length<=300)(DS : ∀e∈x.d,e.text.size<=maxLen)(hn:n.BX)(hc:n.cnt<=80):
 (∃e:Int,e≠0/\z3 x n s/\AC AF 22 [.agg x.f.vs,.c (Cc x.d),Am n,Aj s] (.A7 [.c (.sl []),.c (.sl []),AR e]))\/
 (∃b L P,Ob x s [] n=.A7 [Ao b,AR 0]/\oC b L P/\af x s n b L P/\AC AF 22 [.agg x.f.vs,.c (Cc x.d),Am n,Aj s] (.A7 [.c (.sl (L.map El)),.c (AV P),AR 0])):=by
 have G:=AAc x n s hf hl DS hn hc;have z:(Dd n.AE).BX:=by cases n;exact⟨by decide,hn.2⟩
 have FX:(Dd n.AE).cnt=n.cnt:=by cases n;rfl
 have F:=AVp x.d n.AE (by omega) DS z (by omega);rcases AXy x s n with ⟨e,he,q⟩|⟨b,I,hv,Av,q⟩
 have hN:z3 x n s:=λb k1 k2 k3 _=>by
  have e2:Ob x s [] n=.A7 [Ao b,AR 0]:=by unfold Ob;rw[k1,k2,k3];rfl
  rw[q]at e2;simp[AR]at e2;exact absurd e2.2 he
 rw[q]at G;left;obtain⟨⟨PL,e2⟩,A1⟩:=AI (XL x.d n.AE);rw[A1]at F;unfold W4 at F;simp only at F;obtain⟨PC,Ut⟩:=AI (AV PL);rw[Ut]at F;clear Ut A1 FX z q;obtain⟨kd,t,c,E⟩:=n;obtain⟨lv,cr⟩:=s;simp only[Am,Nd.vs,Aj,Nd.row,Ap,BB,Ao,AR,AA.zero,AA.row,AA.AG]at G F ⊢;rw[show AV []=.sl []from rfl]at G;generalize Aw:Nd.AG E=rs at G F ⊢;by_cases Mg:e=1;subst Mg;refine⟨1,by decide,hN,?_⟩;refine en nF nS ?_;exact wz MO (cj G<|trivial);by_cases h2:e2=0;subst h2;refine⟨e,he,hN,?_⟩;refine en nF nS ?_;exact wz (cj2 @he @Mg MO) (cj2 G F trivial);refine⟨e2,h2,hN,?_⟩;refine en nF nS ?_;exact wz (cj2 @Mg @h2 MO) (cj2 G F trivial);rw[q]at G;have PV:=hv;have A9:=I;unfold Nd.Ad at PV;simp only[Ak,decide_eq_true_eq]at PV;unfold Af.Bj at I;simp only[Ak]at I;have hx:x.Ok:=⟨hf,I.1,hl,I.2.1⟩
 obtain⟨E,j8⟩:∃E,n=Dd E:=⟨n.AE,ABc PV.2.1 PV.1⟩
 subst j8;have F:AC AF 52 [.c (Cc x.d),.c (.sl (Nd.AG E))] (W4 (XL x.d E)):=F;have z:(Dd E).BX:=z;by_cases h0:E.length=0;left;obtain rfl:E=[]:=Nr h0;have e8:XL x.d []=([],8):=by
  have c1:O2 x.d []=(I6 (JP x.d []),0):=by unfold O2;rw[if_neg (by rw[I.2.1,hv];simp)]
  unfold XL;rw[c1,if_neg (by simp)];rfl
 rw[e8]at F;unfold W4 at F;refine⟨8,by decide,λ_ _ _ _ h=>absurd rfl h,?_⟩;obtain⟨lv,cr⟩:=s;clear q Av;simp only[Am,Nd.vs,Aj,Nd.row,Dd,Ap,BB,As,AR,Nd.AG]at G F ⊢;rw[show AV []=.sl []from rfl]at F;refine en nF nS ?_;exact wz MO (cj2 G F trivial);obtain⟨A,U⟩:=ANG Av;have hC:=AJD x.d E (by omega) DS z (by omega);have hS:=ABJ x s E hx I.2.2 z (by omega) hv;have c1:O2 x.d E=(I6 (JP x.d E),0):=by unfold O2;rw[if_neg (by rw[I.2.1,hv];simp)]
 have c2:XL x.d E=(FZ (I6 (JP x.d E)) E.length,0):=by
  unfold XL;rw[c1,if_neg (by simp),if_neg h0]
 rw[c1]at hC;rw[c2]at F;unfold W4 at hC F;simp only at hC F;have A2:(x.CC s E).length=E.length:=by unfold Af.CC;rw[fF,ef,Zh]
 have Ce:b.AE.length=E.length:=by rw[<-U.len];exact A2
 have DK:(I6 (JP x.d E)).length=E.length:=by rw[ef,Zh]
 have Ws : ∀c∈b.AE,-1073741824<=c.w/\c.w<=1073741824:=λc A3=>by
  obtain⟨k,hk⟩:=List.getElem?_of_mem A3;have A8:=(Br.1 hk).1;obtain⟨c',v,R,_,_,_,_,_,_,h4⟩:=U.Ea k A8;rw[hk]at R;cases R;exact(Mq h4).1
 have Y2 : ∀v∈x.CC s E,-1073741824<=v/\v<=1073741824:=λv zx=>by
  have:=ES.1 (ALD hx I.2.2 E) v zx;simpa [An]using this
 have Yi : ∀v∈I6 (JP x.d E),-1073741824<=v/\v<=1073741824:=λv zx=>by
  have:=AAx I.2.1 E v zx;omega
 have B0:E.length<=80:=by
  have:=SH E;have h2:=rY E;omega
 have zX:=AW4 x.f (Cc x.d) E s b (AV (FZ (I6 (JP x.d E)) E.length)) (I6 (JP x.d E)) (x.CC s E) E.length G F hC hS Ws Yi Y2 (by omega) (by omega) Ce DK A2;split at zX;right;rename_i hg;unfold Zk at hg;simp only[Ak,decide_eq_true_eq]at hg;obtain⟨M,hM⟩:∃M,E.length=M+1:=⟨E.length - 1,by omega⟩
 have A0:(x.CC s E).getD 0 0=0:=AZA _ _ _;have J : ∀k,k<E.length->A (k+1)=A k+(x.CC s E).getD k 0+(b.AE.map AA.w).getD k 0:=λk hk=>by
  obtain⟨c',v,R,h4,h5,_,_,_,h6,_⟩:=U.Ea k (by omega);have h4:(x.CC s E)[k]?=some v:=h4;rw[Bv,h4,Bv,CM,R];simp only[Nu,Dm];omega
 refine⟨b,_,FZ (I6 (JP x.d E)) E.length,q,⟨?_,hg.1,hg.2,?_,AV3 _ _ _ _⟩,⟨A9,hv,Av,?_,⟨A,U,?_⟩,by obtain⟨r,PS⟩:=AJh (I6 (JP x.d E)) E.length;rw[PS];rfl,rfl,rfl⟩,zX⟩;rw[AJR,hM];rfl;rw[AJS (A:=A) (N:=E.length) U.a0 A0 J _ (by omega),<-U.ae,Ce,hM];rfl;have hd:(Dd E).dep<=24:=PV.2.2.2;exact(AKW hx I.2.2 (src:=[]) ⟨rfl,rfl,by simp;omega⟩ Av).1;have:=AJV (cls:=I6 (JP x.d E)) U.a0 A0 J M (by omega);rw[<-hM]at this;rwa [show E.length - 1=M by omega]
 rename_i hg;exact .inl ⟨6,by decide,λb' _ _ R _=>by rw[Av]at R;cases R;exact eq_false_of_ne_true hg,zX⟩
theorem ANv (L:List (Int×Int×Int))(w d:Int)(M:L.length<=1000000)(R:Gg L=false)(F:1<=w)(G:w<=10000000)(I:0<=d)(J:d<w):AC AF 67 [.c (.sl (L.map El)),.c (.int .i64 w),.c (.int .i64 d)] (.A7 [.c (.sl []),.c (.int .i64 0),AR 1]):=by
 have E:=AJO L w d M F G I J;rw[R]at E;unfold XI at E;unfold AR;refine en func67 ntmps67 ?_;exact wz results67 (cj E<|trivial)
def Hj (P:List Int)(T:List Nat):List Int:=T.map λi=>P.getD i 0
def Na (P:List Int)(T:List Nat)(k:Nat):List Int:=Hj P (T.take k)++(T.drop k).map λi:Nat=>(i:Int)
theorem AH3 (P:List Int)(T:List Nat):(Na P T k).length=T.length:=by
 unfold Na Hj;rw[Cp,Ch,Ch,Fa,Ns];omega
theorem ATd {P:List Int}{k a:Nat}(h:T[k]?=some a):(Na P T k)[k]?=some (a:Int):=by
 have E:=(Br.1 h).1;unfold Na Hj;rw[Gy (by simp;omega),Ch,Fa,CM,Ve,show k+(k - min k T.length)=k by omega,h];rfl
theorem ATe {P:List Int}{k a:Nat}(h:T[k]?=some a):(Na P T k).set k (P.getD a 0)=Na P T (k+1):=by
 obtain⟨E,F⟩:=Br.1 h;unfold Na Hj;rw[Vg _ _ (by simp;omega),Ch,Fa,show k - min k T.length=0 by omega,D5 E,F,Ap,Ag,UC,h,Fm,GX];rfl
theorem ATc (P:List Int)(T:List Nat):Na P T T.length=Hj P T:=by
 unfold Na;rw[Sn,AMb,BB,E5]
theorem AWO {l:List Int}{z:List V}{a:Int}(h:l[k]?=some a):(CK l++z)[k]?=some (.c (.int .i64 a)):=by
 rw[EJ (by rw[Ts];exact(Br.1 h).1),CK,CM,h];rfl
theorem AJa {l:List Int}{z:List V}{a:Int}(h:k<l.length):(CK l++z).set k (.c (.int .i64 a))=CK (l.set k a)++z:=by
 rw[List.set_append_left _ _ (by rw[Ts];exact h),CK,CK,List.map_set]
theorem AXO (k:Nat)(l:List Int)(m:Nat):V.BI k (CK l++Aq m V.any)=true:=by
 induction l with
 | nil =>
   induction m with
   | zero=>rfl
   | succ m ih=>exact ih
 | cons a l ih=>exact ih
theorem x9 : ∀(l:List Nat) (a m:Nat),l.Pairwise (· < ·)->(∀x∈l,a<=x/\x<m)->l.length+a<=m\/l=[]
 | [],a,m,_,_=>.inr rfl
 | c::l,a,m,E,F=>by
   have I:=F c (by simp);rw[mY]at E;rcases x9 l (c+1) m E.2 (λx G=>⟨E.1 x G,(F x (by simp[G])).2⟩)with h|rfl
   left;simp only[BA];omega;left;simp only[BA,BO];omega
def StN (x:Af)(n:Nd)(W:Int):Prop:=∀b,x.Bj ⟨0,false⟩=true->n.Ad=true->GU x ⟨0,false⟩ [] n=some b->n.AE≠[]->1<=W->W<=10000000->(Zk (dx x n ⟨0,false⟩ b) && Gg (dx x n ⟨0,false⟩ b))=false
theorem AFE (n:Nd)(W:Int)(hf:x.f.Fit)(hl:x.d.length<=300)(DS : ∀e∈x.d,e.text.size<=maxLen)(hn:n.BX)(hc:n.cnt<=80):
 (∃e:Int,e≠0/\StN x n W/\AC AF 33 [.agg x.f.vs,.c (Cc x.d),Am n,.c (.int .i64 W)] (.A7 [.c (.sl []),AR e]))\/
 (∃b L P,1<=W/\W<=10000000/\Ob x ⟨0,false⟩ [] n=.A7 [Ao b,AR 0]/\oC b L P/\af x ⟨0,false⟩ n b L P/\Gg L=true/\AC AF 33 [.agg x.f.vs,.c (Cc x.d),Am n,.c (.int .i64 W)] (.A7 [.c (AV (Hj P (ME L W (HA x.f.params.Al W)))),AR 0])):=by
 by_cases I:1<=W;rotate_left
 left;have G:W<1:=by omega
 refine⟨2,by decide,λ_ _ _ _ _ h=>absurd h I,?_⟩;unfold Am AR;refine en nI nU ?_;exact wz (cj @G<|UQ) trivial;by_cases M:W<=10000000;rotate_left
 left;have G : ¬W<1:=by omega
 have n2:10000000<W:=by omega
 refine⟨2,by decide,λ_ _ _ _ _ _ h=>absurd h M,?_⟩;unfold Am AR;refine en nI nU ?_;exact wz (cj2 @G @n2 UQ) trivial;have G : ¬W<1:=by omega
 have n2 : ¬10000000<W:=by omega
 rcases AJr x n ⟨0,false⟩ hf hl DS hn hc with ⟨e,he,hN,h⟩|⟨b,L,P,hr,hH,hD,h⟩
 left;refine⟨e,he,λb a1 a2 a3 a4 _ _=>by rw[hN b a1 a2 a3 a4];rfl,?_⟩;unfold Am AR Aj at *
 refine en nI nU ?_;exact wz (cj3 @G @n2 @he UQ) (cj h<|trivial);have EW:x.f.valid=true:=by
  have:=hD.ok;unfold Af.Bj at this;simp only[Ak]at this;exact this.1
 have hI:=rR x.f W EW I M;obtain⟨d1,d2⟩:=AHw (eK EW).1 I;generalize hd:HA x.f.params.Al W=d at hI d1 d2 ⊢;have A1:=hH.ra;cases hv:Gg L with
 | false =>
   left;have E:=ANv L W d (by omega) hv I M d1 d2;refine⟨1,by decide,λb _ _ a3 _ _ _=>by rw[hD.row]at a3;cases a3;rw[<-hD.eq,hv,Bool.and_false],?_⟩;unfold Am AR Aj at *
   refine en nI nU ?_;exact wz (cj2 @G @n2 UQ) (cj3 h hI E trivial)
 | true =>
   right;refine⟨b,L,P,I,M,hr,hH,hD,hv,?_⟩;have FQ:=hv;unfold Gg at FQ;simp only[Ak,decide_eq_true_eq]at FQ;obtain⟨s1,s2,s3⟩:=ABy L W d (by omega);have E:=λl q J=>ANu L W d hv I M d1 d2 l q J
   generalize hT:ME L W d=T at s1 s2 s3 E ⊢;obtain⟨l,q,J⟩:∃l q,T.map (λi:Nat=>(i:Int))=l++[q]:=by
    rcases List.eq_nil_or_concat (T.map λi:Nat=>(i:Int))with e|⟨l,q,e⟩
    cases T with
    | nil=>simp at s3
    | cons a l=>simp at e
    exact⟨l,q,by rw[e,List.concat_eq_append]⟩
   have E:=E l q J;have A0:l.length+1=T.length:=by
    have:=congrArg aJ J;simp at this;omega
   rw[A0,<-J]at E;have e0:T.map (λi:Nat=>(i:Int))=Na P T 0:=by
    unfold Na Hj;simp
   rw[e0]at E;obtain⟨PR,EO⟩:=AI (P.map PX);have Ed:PR.length=L.length:=by rw[<-EO,Ch,hH.len]
   have Ut:AV P=.sl PR:=by rw[rS,EO]
   rw[Ut]at h;have Rw:(Hj P T).length=T.length:=by simp[Hj]
   have A2:T.length<=L.length:=by
    rcases x9 T 0 L.length s2 (λx hx=>⟨CI _,s1 x hx⟩)with h|rfl
    omega;simp
   unfold Am AR Aj at *
   refine AC.fresh (ty:=3) (br nI nU ?_);refine wu (.mk 6) (cj2 @G @n2 UQ) (cj h<|trivial) ⟨?_⟩;refine AW.DA ?_;refine SW.take 5 (AH.out ?_);simp only[DP,ET];have ff:=(UQ)
   repeat any_goals (first|refine Eo ?_|exact Bt ff|refine De ff ?_|refine BV ff (hI) ?_|refine DI ff ?_)
   simp only[CU,B9];refine SW.AEX (λv=>.A7 [v,.any,.c (.int .i64 0)]) E (by kernel_rfl) (by simp[BQ]) (by simp[Ee]) (λx w v u h=>by simp only[CV,AO,Ab];exact⟨_,rfl,_,_,rfl,h,_,_,rfl,trivial,_,_,rfl,⟨rfl,by decide⟩,rfl⟩) λm=>?_
   simp only[St.put,BA,BO,Nat.reduceAdd,Ag,Ai,BK,BU];obtain⟨Z,hZ⟩:=AI (Aq m V.any);have R:=λk (l:List Int)=>AXO k l m
   rw[hZ]at R ⊢;refine CY (.mk 7) trivial ?_;refine SW.nil ?_;refine wy UQ trivial ⟨?_⟩;refine lp (ι:={ k:Nat // k<=T.length }) (λk=>[(50,.c (.int .i64 (k.1:Int)))]) (λk=>[O.box 27 x.f.vs false,O.box 33 n.vs false,O.box 3 (CK (Na P T k.1)++Z) false]) (λk=>T.length - k.1) ⟨0,CI _⟩ ?_ ?_;all_goals simp only[puts,Bw,CO,Ag,Ai]
   exact DH;rintro ⟨k,hk⟩;simp only;by_cases F:k<T.length;obtain⟨a,ha⟩:∃a,T[k]?=some a:=⟨_,BE F⟩
   have U:=s1 a (Cj ha);obtain⟨p,hp⟩:∃p,P[a]?=some p:=⟨_,BE (by rw[<-hH.len];exact U)⟩
   have r1:PR[a]?=some [.int .i64 p]:=by rw[<-EO,CM,hp];rfl
   have Mz:=gx r1;have r2:=AWO (z:=Z) (ATd (P:=P) ha);have Pg:=gx r2;have r3:=AJa (l:=Na P T k) (z:=Z) (k:=k) (a:=P.getD a 0) (by rw[AH3];exact F);have kC:P.getD a 0=p:=by rw[Bv,hp];rfl
   rw[ATe ha,kC]at r3;have FE:(CK (Na P T k)++Z).length=T.length+Z.length:=by rw[Cp,Ts,AH3]
   generalize hA:CK (Na P T k)++Z=A at r2 Pg r3 FE ⊢;have zU:(k:Int)<(T.length:Int):=by omega
   have f1:k<T.length+Z.length:=by omega
   have f2:(a:Int)<(L.length:Int):=by omega
   have hw:AZ.wrap ((k:Int)+1)=((k+1:Nat):Int):=by rw[Ac];simp
   refine wy (cj9 @F @zU @FE @f1 @f2 @U @Ed @r1 @Mz<|cj4 @r2 @Pg @r3 @hw UQ) trivial ⟨?_⟩;exact⟨⟨k+1,by omega⟩,by simp only;omega,wd 3 (ho:=by simp[O.A8,V.BI,V.A8,R])⟩;obtain rfl:k=T.length:=by omega
   have zU : ¬(T.length:Int)<(T.length:Int):=by omega
   refine wy (cj @zU<|UQ) trivial ⟨?_⟩;rw[ATc,<-hZ];exact⟨.inr rfl,_,by simp[GJ,C0,DE,CJ,UQ,Rw],2,m,rfl,rfl⟩
def Jr (S:List Int)(n:Int)(m:Nat):List (List C):=(E6 m).map λk=>[.sl [],.int .i64 (S.getD k 0),.int .i64 ((S++[n]).getD (k+1) 0)]
theorem AXt (n:Int)(m:Nat):Jr S n (m+1)=Jr S n m++[[.sl [],.int .i64 (S.getD m 0),.int .i64 ((S++[n]).getD (m+1) 0)]]:=by
 unfold Jr;rw[gB,Fm];rfl
theorem eZ (n:Int)(m:Nat):(Jr S n m).length=m:=by simp[Jr]
theorem AOj (n:Nd)(W e:Int)(J:x.d.length<=300)(G : ∀e∈x.d,e.text.size<=maxLen)(M:n.BX)(I:n.cnt<=80)(E:e≠0)(hs:AC AF 33 [.agg x.f.vs,.c (Cc x.d),Am n,.c (.int .i64 W)] (.A7 [.c (.sl []),AR e])):
 ∃e:Int,e≠0/\AC AF 15 [.agg x.f.vs,.c (Cc x.d),Am n,.c (.int .i64 W)] (.A7 [.c (.sl []),AR e]):=by
 have h:=pZ x n J G M I;cases F:x.f.valid && (Ll x.d && n.Ad)with
 | false =>
   rw[F]at h;refine⟨1,by decide,?_⟩;unfold Am AR at *
   refine en func15 ntmps15 ?_;exact wz nZ (cj h<|trivial)
 | true =>
   rw[F]at h;refine⟨e,E,?_⟩;unfold Am AR at *
   refine en func15 ntmps15 ?_;exact wz (cj @E<|nZ) (cj2 h hs trivial)
theorem AOi (n:Nd)(W:Int)(S:List Int)(hl:x.d.length<=300)(DS : ∀e∈x.d,e.text.size<=maxLen)(hn:n.BX)(hc:n.cnt<=80)(hv:(x.f.valid && (Ll x.d && n.Ad))=true)(hS:S.length<=1000)(E : ∀v∈S,0<=v/\v<=1000)(hs:AC AF 33 [.agg x.f.vs,.c (Cc x.d),Am n,.c (.int .i64 W)] (.A7 [.c (AV S),AR 0])):
 AC AF 15 [.agg x.f.vs,.c (Cc x.d),Am n,.c (.int .i64 W)] (.A7 [.c (.sl (Jr S (n.AE.length:Int) S.length)),AR 0]):=by
 have h:=pZ x n hl DS hn hc;rw[hv]at h;obtain⟨kd,t,c,AE⟩:=n;have G:(Nd.AG AE).length=AE.length:=by rw[Zd,Ch]
 have F:AE.length<=1000:=by
  have h1:=SH AE;have h2:=Tm ⟨kd,t,c,AE⟩;simp only at h2;omega
 have J:=AFA (AV S) (AE.length:Int);have M:=AE9 S (AE.length:Int) (by omega);have q : ∀k,0<=S.getD k 0/\S.getD k 0<=1000:=λk=>by
  rw[Bv];cases e:S[k]? with
  | none=>simp
  | some v=>exact E v (Cj e)
 have I : ∀k,0<=(S++[(AE.length:Int)]).getD k 0/\(S++[(AE.length:Int)]).getD k 0<=1000:=λk=>by
  rw[Bv];cases e:(S++[(AE.length:Int)])[k]? with
  | none=>simp
  | some v =>
    rcases MJ.1 (Cj e)with h|h
    exact E v h;simp only[LY]at h;subst h;simp only[Dm];omega
 generalize yP:AV S=SC at hs J M;simp only[Am,Nd.vs,Nd.row,Ap,BB,AR]at h hs ⊢;generalize Fg:Nd.AG AE=ns at h hs G ⊢;obtain⟨N,U⟩:=AI AE.length;rw[U]at G J M I F ⊢;refine en func15 ntmps15 ?_;refine wy (cj @G<|nZ) (cj3 h hs J trivial) ⟨?_⟩;refine AW.le (Le.T4 2 0 57 3 rfl rfl) ?_;simp only[BA,BO,Nat.reduceAdd,Ag,Ai,BK,BU];refine AW.sW (α:=Unit) rfl rfl rfl rfl rfl rfl (by decide) (by decide) (caps:=[.cp [SC] 0,.cp [.int .i64 (N:Int)] 0]) (by simp[ev]) rfl func89 (by kernel_rfl) (by kernel_rfl) (λpre _=>.int .i64 (S.getD pre.length 0)) (λpre _=>.int .i64 ((S++[(N:Int)]).getD (pre.length+1) 0)) (λpre _=>.c (.int .i64 (S.getD pre.length 0))) (λpre _=>.c (.int .i64 ((S++[(N:Int)]).getD (pre.length+1) 0))) S.length
  (λ_ _ pre _ h=>by simp only[CV,Ab];exact⟨trivial,Q7 (by have:=q pre.length;omega) (by have:=q pre.length;omega)⟩) (λ_ _ pre _ h=>by simp only[CV,Ab];exact⟨trivial,Q7 (by have:=I (pre.length+1);omega) (by have:=I (pre.length+1);omega)⟩) _ M (λ_=>True) (λ_=>False) trivial
  (λpre=>[O.box 27 x.f.vs false,O.box 33 [.c (.int .i64 kd),.c (.str t),.c (.int .i64 c),.c (.sl ns)] false,O.box 48 [.gr 3 3 (Jr S (N:Int) pre.length)] false,O.tok 57 3 (Jr S (N:Int) pre.length).length]) (λ_=>[]) rfl 4 (λ_=>rfl) (by simp) (by simp) ?_ ?_ (λ_ h=>h.elim)
 rintro lp pre ⟨⟩ U _;obtain⟨k,hk⟩:=AI pre.length;simp only[VQ,Ag,Ai,Cp,BA,BO,Cz,hk,AXt]at U ⊢;clear hk pre;have Md:=eZ S (N:Int) k;obtain⟨R,z⟩:=AI (Jr S (N:Int) k);obtain⟨v1,Fv⟩:=AI (S.getD k 0);obtain⟨v2,IK⟩:=AI ((S++[(N:Int)]).getD (k+1) 0);rw[z]at Md;simp only[z,Fv,IK];have FO:R.length+1<=maxLen:=by unfold maxLen;omega
 have EX:(R.length+1)*40<=140737488355328:=by omega
 refine wy (cj2 @FO @EX nZ) trivial ⟨?_⟩;exact .inl ⟨rfl,trivial,_,wd 4 (hs:=Q0 _) (hh:=rfl) (hb:=P5 4 _)⟩;rintro xs PD _;simp only[PD];exact wz nZ trivial
def E9 (K:List AA)(G:List Int):Nat->Int
 | 0=>0
 | i+1=>E9 K G i - (((A4 K i).d+G.getD (i+1) 0)+(A4 K (i+1)).h)
def Gi (K:List AA)(G:List Int)(i:Nat):List AA:=(E6 i).map λj=>(A4 K j).AS (A4 K j).x (E9 K G j)
def MH (K:List AA)(G:List Int)(i:Nat):List AA:=Gi K G i++K.drop i
def KM (l:List AA):Int:=l.foldl (λa b=>mx a (b.x+b.w)) 0
def LQ (K:List AA)(G:List Int):AA:=Bf (KM (Gi K G K.length)) ((A4 K 0).h+G.getD 0 0) ((A4 K (K.length - 1)).d - E9 K G (K.length - 1)) (Gi K G K.length)
theorem T6 (K:List AA)(G:List Int)(i:Nat):(Gi K G i).length=i:=by simp[Gi]
theorem AaS {G:List Int}(h:i<=K.length):(MH K G i).length=K.length:=by
 unfold MH;rw[Cp,T6,Ns];omega
theorem ACD {G:List Int}{i j:Nat}(h:j<i):(Gi K G i)[j]?=some ((A4 K j).AS (A4 K j).x (E9 K G j)):=by
 unfold Gi;rw[CM,List.getElem?_range h];rfl
theorem AaR {G:List Int}{i j:Nat}(h:j<i):(MH K G i)[j]?=some ((A4 K j).AS (A4 K j).x (E9 K G j)):=by
 unfold MH;rw[EJ (by rw[T6];exact h),ACD h]
theorem ALy {G:List Int}(h:i<K.length):(MH K G i)[i]?=some (A4 K i):=by
 unfold MH;rw[Gy (by rw[T6];exact BN _),T6,La,Ve,M8,BE h];unfold A4;rw[Bv,BE h];rfl
theorem ALz {G:List Int}(h:i<K.length):(MH K G i).set i ((A4 K i).AS (A4 K i).x (E9 K G i))=MH K G (i+1):=by
 unfold MH;rw[Vg _ _ (by rw[T6];exact BN _),T6,La,D5 h,Ag];have e:Gi K G (i+1)=Gi K G i++[(A4 K i).AS (A4 K i).x (E9 K G i)]:=by simp[Gi,gB]
 rw[e,GX];rfl
theorem AaQ (K:List AA)(G:List Int):MH K G K.length=Gi K G K.length:=by unfold MH;rw[AMb,E5]
theorem AL4 (b:AA)(y:Int):(b.AS b.x y).row=b.row.set 7 (.int .i64 y):=by cases b;rfl
theorem AaT (h:K[k]?=some b):KM (K.take (k+1))=mx (KM (K.take k)) (b.x+b.w):=by
 unfold KM;rw[UC,h,List.foldl_append];rfl
theorem AL3 {K:List AA}{G:List Int}(E : ∀i,(-1073741824<=(A4 K i).h/\(A4 K i).h<=1073741824)/\(-1073741824<=(A4 K i).d/\(A4 K i).d<=1073741824))(F : ∀i,-1073741824<=G.getD i 0/\G.getD i 0<=1073741824):∀i:Nat,-3221225472*(i:Int)<=E9 K G i/\E9 K G i<=3221225472*(i:Int)
 | 0=>by simp[E9]
 | i+1=>by
   have I:=AL3 E F i;have J:=E i;have M:=E (i+1);have R:=F (i+1);simp only[E9];omega
theorem AZ4 (K:List AA)(G:List Int)(i:Nat)(h1:i+1<K.length)(h2:i+1<G.length)(hl:K.length<=1000000)(hk : ∀i,(-1073741824<=(A4 K i).h/\(A4 K i).h<=1073741824)/\(-1073741824<=(A4 K i).d/\(A4 K i).d<=1073741824))(hg : ∀i,-1073741824<=G.getD i 0/\G.getD i 0<=1073741824) :
 AC AF 128 [.c (.int .i64 (i:Int)),.cp [.sl (AA.AG K)] 0,.cp [AV G] 0] (.c (.int .i64 (((A4 K i).d+G.getD (i+1) 0)+(A4 K (i+1)).h))):=by
 have k1:=hk i;have k2:=hk (i+1);have k3:=hg (i+1);obtain⟨E,F⟩:=AI (AA.AG K);have Av:E.length=K.length:=by rw[<-F,GA]
 obtain⟨a,z⟩:∃a,K[i]?=some a:=⟨_,BE (by omega)⟩
 obtain⟨b,hb⟩:∃b,K[i+1]?=some b:=⟨_,BE h1⟩
 obtain⟨c,hc⟩:∃c,G[i+1]?=some c:=⟨_,BE h2⟩
 have ea:A4 K i=a:=by unfold A4;rw[Bv,z];rfl
 have eb:A4 K (i+1)=b:=by unfold A4;rw[Bv,hb];rfl
 have ec:G.getD (i+1) 0=c:=by rw[Bv,hc];rfl
 rw[ea]at k1 ⊢;rw[eb]at k2 ⊢;rw[ec]at k3 ⊢;have M:E[i]?=some a.row:=by rw[<-F,Dt,CM,z];rfl
 have R:E[i+1]?=some b.row:=by rw[<-F,Dt,CM,hb];rfl
 obtain⟨I,J⟩:=AI (G.map (λn=>[C.int .i64 n]));have TQ:I.length=G.length:=by rw[<-J,Ch]
 have r3:I[i+1]?=some [.int .i64 c]:=by rw[<-J,CM,hc];rfl
 rw[F,show AV G=.sl I by rw[<-J];rfl];have U:=gx M;have q:=gx R;have sU:=gx r3;have l1:i<E.length:=by omega
 have l2:i+1<E.length:=by omega
 have l3:i+1<I.length:=by omega
 have w0:AZ.wrap ((i:Int)+1)=((i+1:Nat):Int):=by rw[Ac];simp
 have w1:AZ.wrap (a.d+c)=a.d+c:=Ac;have w2:AZ.wrap (a.d+c+b.h)=a.d+c+b.h:=Ac;obtain⟨a0,a1,a2,a3,a4,a5,a6,a7,a8,a9,A0⟩:=a;obtain⟨b0,b1,b2,b3,b4,b5,b6,b7,b8,b9,Oz⟩:=b;simp only[AA.row]at M U R q w1 w2 ⊢;refine en func128 ntmps128 ?_;exact wz (cj9 @M @U @R @q @r3 @sU @l1 @l2 @l3<|cj3 @w0 @w1 @w2 results128) trivial
theorem AOO (K:List AA)(I:K≠[])(hl:K.length<=1000000):UT AF 127 [.c (.sl (AA.AG K))] 41 K.length 11 (λm=>EN K (Aq m AA.zero.row).flatten) id:=by
 obtain⟨E,G⟩:=AI (AA.AG K);have J:E.length=K.length:=by rw[<-G,GA]
 have q : ∀r∈E,r.length=11:=λr U=>by rw[<-G,Dt]at U;obtain⟨b,_,rfl⟩:=Da.1 U;exact AA.Nk b
 have M:E≠[]:=λe=>I (Nr (by rw[<-J,e];rfl))
 rw[<-J];unfold EN;rw[G];refine UT.own (λm=>by have:=RQ 0 K (Aq m AA.zero.row).flatten;unfold EN at this;rw[G]at this;exact this) (br func127 ntmps127 ?_);with_reducible refine AW.seq ?_
 with_reducible refine AW.region ?_
 with_reducible refine If (by simp[BY];first|exact rfl|exact⟨rfl,rfl⟩) ?_
 with_reducible refine Kz ?_
 with_reducible refine G3 ?_
 with_reducible refine AW.seq ?_
 with_reducible refine AW.seq ?_
 refine Og (.mk 1) trivial ?_;refine SW.OU (λv t=>t=none/\∃b:Bool,v=.c (.bool b)/\(b=true->E=[])) (by simp[BQ]) ?_ ?_;intro S0 w0 x a w g F hk;exact AI2 (P:=AF) g _ rfl (by simp;exact⟨rfl,rfl,rfl⟩) (pj F rfl) rfl;rintro v t ⟨rfl,b,rfl,z⟩;cases b with
 | true=>exact absurd (z rfl) M
 | false =>
   refine SW.nil ?_;refine Ah ?_;with_reducible refine AW.DA ?_
   refine SW.OU (λv t=>t=none/\v=.Bg []) (by simp[BQ]) ?_ ?_;intro S0 w0 x a w g F hk;exact⟨_,_,λ_ _ h=>(by cases h),⟨rfl,rfl⟩,AIv (P:=AF) g (t:=38) rfl (Ae:=41) (es:=11) (Bq:=128) (by simp)⟩;rintro v t ⟨rfl,rfl⟩;refine CY (.mk 1) trivial ?_;refine SW.OU (λv t=>∃m:Nat,v=.own 0 0 E.length 11/\t=some (0,.box 41 ((E.flatten++(Aq m AA.zero.row).flatten).map V.c) false)) rfl (λS0 w0 y w a g F hd=>?_) ?_;exact AIt (t:=38) (Ae:=41) (Bq:=128) (zs:=BT) g rfl (by simp) (by simp[BT]) (by rfl) (by omega) q (CW F (.tmp 5)) (CW F (.tmp 6)) M (by omega) (by decide) 0 hd;rintro v t ⟨m,rfl,rfl⟩;simp only[St.step,St.put,Bk,BO,IY,if_false,Ai,Ag,BU];obtain⟨A,R⟩:=AI ((E.flatten++(Aq m AA.zero.row).flatten).map V.c);rw[R];refine CY (.mk 1) trivial ?_;refine SW.nil ?_;refine Ah ?_;exact⟨.inr rfl,_,by simp[GJ,C0,DE,CJ,results127],0,m,rfl,by rw[<-R];rfl⟩
theorem ANt:AC AF 129 [.c (.sl [])] (.fn 194 [.cp [.sl []] 0]):=by
 refine en func129 ntmps129 ?_;with_reducible refine AW.seq ?_
 with_reducible refine AW.region ?_
 with_reducible refine If (by simp[BY];first|exact rfl|exact⟨rfl,rfl⟩) ?_
 with_reducible refine Kz ?_
 with_reducible refine G3 ?_
 refine Cn 0 ?_;refine Ah ?_;exact At results129
theorem ANs (encs:List Unit->Unit->Array Value):MS AF 194 [.cp [.sl []] 0] encs (λ_=>True) 0:=by
 refine MS.intro func194 rfl rfl λY=>?_
 simp only[ntmps194,BA,BO,Nat.reduceAdd,Nat.reduceSub,BY,Cy,BK,BU];have E:AZ.wrap (-1)= -1:=by decide
 refine ED @E ?_;refine IW.loop (ι:=Unit) (λ_=>(⟨[],false⟩,⟨[.any,.any,.any,.c (.int .i64 (-1))]++Aq 15 .any,[]⟩)) (λ_=>0) () rfl ?_ ?_;exact G1.drop (by simp[DG]) (by simp[V.BI,V.A8]);rintro ⟨⟩;simp only[BY,Cy,BK,BU];refine ED trivial ?_;exact⟨.inl rfl,λ_=>trivial⟩
theorem AVP {x:Cx}(g:Good S0 w0 x w H){t:TypeId}{y z:Operand}(ho:o.op=.slice t y none (some z) none){Ae:TypeId}{es Bq k off n G:Nat}(U:Dk P t=some (Ae,es,Bq))(E:CV x w (.own k off n G) (a.eval y))(F:CV x w (.c (.int .i64 0)) (a.eval z)):BW P o a S0 w0 x w H (.c (.sl [])) none:=by
 obtain⟨q,ie,zv,I,_,R,_,_⟩:=JS U;simp only[CV,Ab]at E F;obtain⟨_,_,cap,E,h1,J,_⟩:=E;have F:=F.1;refine BW.pure g (u:=.slice (some ⟨(x.loc k).b,off,none⟩) 0 cap) ?_ ?_;by_cases M:cap=0<;>simp[execOp,ho,E,F,M,Instr.sliceAt,Instr.slice,run_underlying q,Instr.sliceBounds,Instr.sliceBound,asIntOf,sizeOf,typeInfo,I,Addr.add];simp only[CV,Ab];exact⟨_,cap,rfl,CI _,J,λe=>absurd rfl e⟩
theorem ACF : ∀ {l:List AA},(∀b∈l,b.Fq)->AA.JH l
 | [],_=>trivial
 | b::l,h=>⟨h b GH,ACF λc E=>h c (Gk _ E)⟩
theorem lg : ∀ {l:List AA},(∀b∈l,b.BX)->AA.FY l
 | [],_=>trivial
 | b::l,h=>⟨h b GH,lg λc E=>h c (Gk _ E)⟩
theorem AL1 {G:List Int}(h:b∈Gi K G K.length):∃c∈K,∃y,b=c.AS c.x y:=by
 obtain⟨j,E,rfl⟩:=Da.1 h;rw[KP]at E;refine⟨K[j],Kq _,E9 K G j,?_⟩;have e:A4 K j=K[j]:=by unfold A4;rw[Bv,BE E];rfl
 rw[e]
theorem AL0 (K:List AA)(G:List Int):AA.Az (Gi K G K.length)=AA.Az K:=by
 have E : ∀(l:List Nat),AA.Az (l.map λj=>(A4 K j).AS (A4 K j).x (E9 K G j))=AA.Az (l.map (A4 K)):=by
  intro l;induction l with
  | nil=>rfl
  | cons i l ih =>
    have e:((A4 K i).AS (A4 K i).x (E9 K G i)).cnt=(A4 K i).cnt:=by cases A4 K i;rfl
    simp only[Ap,AA.Az,ih,e]
 have F:(E6 K.length).map (A4 K)=K:=by
  apply List.ext_getElem;simp;intro i a b;simp only[List.getElem_map,List.getElem_range];unfold A4;rw[Bv,BE b];rfl
 unfold Gi;rw[E,F]
theorem AIQ (w h d:Int)(AG:List (List C)):Seat λk=>.agg (Fy w h d (.gr k 11 AG)):=
 Seat.agg (JB.cons (Seat.c _) (JB.cons (Seat.c _) (JB.cons (Seat.c _) (JB.cons (Seat.c _) (JB.cons (Seat.c _) (JB.cons (Seat.c _) (JB.cons (Seat.c _) (JB.cons (Seat.c _) (JB.cons (Seat.gr _ _) (JB.cons (Seat.c _) (JB.cons (Seat.Bg _) JB.nil)))))))))))
theorem AUK (w h d:Int)(AE:List AA)(hd:AA.JH AE)(hc:AA.Az AE<999999):Ss AF 75 [.c (.int .i64 w),.c (.int .i64 h),.c (.int .i64 d),.c (.sl (AA.AG AE))] 41 11 AE.length (λk=>.agg (Fy w h d (.gr k 11 (AA.AG AE)))):=by
 have Ce:=Ud AE;obtain⟨J,I⟩:=AI (AA.AG AE);have G:J.length=AE.length:=by rw[<-I,GA]
 rw[I];refine CX.intro (br func75 ntmps75 ?_);refine wy np trivial ⟨?_⟩;refine AW.le (Le.T4 1 8 41 11 rfl rfl) ?_;simp only[BA,BO,Nat.reduceAdd,Ag,Ai,BK,BU];refine lp (ι:={ k:Nat // k<=AE.length }) (λk=>[(18,.c (.int .i64 (k.1:Int)))]) (λk=>[.box 41 BT false,.box 41 (Fy w h d (.gr 2 11 (AA.AG (AE.take k.1)))) false,.tok 41 11 k.1]) (λk=>AE.length - k.1) ⟨0,by simp⟩ ?_ ?_;all_goals simp only[puts,Bw,CO,Ag,Ai]
 exact ER (cj3 @BT.eq_1 @Fy.eq_1 @AA.AG.eq_1 @AA.AG.eq_2);rintro ⟨k,hk⟩;simp only;by_cases F:k<AE.length;obtain⟨c,E⟩:∃c,AE[k]?=some c:=⟨_,BE F⟩
 have R:J[k]?=some c.row:=by rw[<-I,Dt,CM,E];rfl
 have q:=gx R;have yu:c.Fq:=pX AE k c hd E;have FX:=bj AE k c E;have U:=pW c yu (by omega);rw[As]at U;have hw:AZ.wrap ((k:Int)+1)=((k+1:Nat):Int):=by rw[Ac];simp
 have FO:k+1<=maxLen:=by unfold maxLen;omega
 have EX:(k+1)*128<=140737488355328:=by omega
 have GP:(AA.AG (AE.take k)).length=k:=by rw[GA,Fa];omega
 have M:AA.AG (AE.take (k+1))=AA.AG (AE.take k)++[c.row]:=by rw[AKZ AE k F,gx E]
 have z:k<J.length:=by omega
 refine wy (cj9 @G @F @R @q @z @Fy.eq_1 @BT.eq_1 @FO @EX<|cj2 @GP @hw np) (cj U<|trivial) ⟨?_⟩;refine⟨⟨k+1,by omega⟩,by simp only;omega,?_⟩;refine Le.MI 3 (F2 rfl) (by simp[DG,BT,Fy,M,G]) (by simp[BT,Fy,M,G]) (by simp[V.BI,V.A8]) (by simp[O.A8,V.BI,V.A8,BT,Fy,M,G]);obtain rfl:k=AE.length:=by omega
 rw[Sn,I];refine wy (cj4 @G @F @Fy.eq_1 @BT.eq_1 np) trivial ⟨?_⟩;exact⟨.inr rfl,.agg (Fy w h d (.gr 2 11 J)),by simp[GJ,C0,DE,CJ,Fy,np],2,rfl,rfl⟩
def aA (K:List AA)(G:List Int)(v:V)(h':List O):Prop:=if (LQ K G).Ad=true then ∃k,v=.A7 [.agg (Fy (LQ K G).w (LQ K G).h (LQ K G).d (.gr k 11 (AA.AG (Gi K G K.length)))),.c (.int .i64 0)]/\h'[k]?=some (.tok 41 11 (Gi K G K.length).length)else V.CP v=some (.A7 [Ao AA.zero,AR 6])
theorem AOZ (K:List AA)(G:List Int)(B0:K≠[])(TQ:G.length=K.length)(ho:AA.FY K)(hc:AA.Az K<=900000)(hl:K.length<=1000)(Mk : ∀b∈K,b.Ad=true)(hJ : ∀v∈G,An v=true) :
 CX AF 73 [.c (.sl (AA.AG K)),.c (AV G),.c (.int .i64 0)] (aA K G):=by
 obtain⟨U,Aw⟩:=AI (AA.AG K);have Av:U.length=K.length:=by rw[<-Aw,GA]
 obtain⟨J,OE⟩:=AI (G.map (λn=>[C.int .i64 n]));have A0:J.length=K.length:=by rw[<-OE,Ch,TQ]
 have Wd:AV G=.sl J:=by rw[<-OE];rfl
 have Gs:0<K.length:=Kr.2 B0;have n0 : ¬(K.length:Int)<=0:=by omega
 have n1 : ¬(20000:Int)<=(K.length:Int):=by omega
 rw[Aw,Wd];have B1 : ∀b∈K,b.BX:=λb z=>kl ho b z
 refine CX.intro (br func73 ntmps73 ?_);refine wy (cj2 @Av @A0 MQ) trivial ⟨?_⟩;refine lp (ι:={ k:Nat // k<=K.length }) (λk=>[(23,.c (.int .i64 (k.1:Int)))]) (λ_=>[O.box 38 [.c (.sl U)] false,O.box 39 [.c (.sl J)] false,O.box 41 BT false]) (λk=>K.length - k.1) ⟨0,CI _⟩ ?_ ?_;all_goals simp only[puts,Bw,CO,Ag,Ai]
 exact DH;rintro ⟨k,hk⟩;simp only;by_cases I:k<K.length;obtain⟨c,Ev⟩:∃c,K[k]?=some c:=⟨_,BE I⟩
 have A9:U[k]?=some c.row:=by rw[<-Aw,Dt,CM,Ev];rfl
 have Bu:=gx A9;have Dp:k<U.length:=by omega
 have FX:=bj K k c Ev;have R:=EL c (B1 c (Cj Ev)) (by omega);rw[As]at R;rw[Mk c (Cj Ev)]at R;refine wy (cj5 @Av @I @Dp @A9 @Bu MQ) (cj R<|trivial) ⟨?_⟩;exact⟨⟨k+1,by omega⟩,by simp only;omega,wd 3⟩;refine wy (cj4 @Av @A0 @I @n0 MQ) trivial ⟨?_⟩;refine lp (ι:={ k:Nat // k<=K.length }) (λk=>[(52,.c (.int .i64 (k.1:Int)))]) (λ_=>[O.box 38 [.c (.sl U)] false,O.box 39 [.c (.sl J)] false,O.box 41 BT false]) (λk=>K.length - k.1) ⟨0,CI _⟩ ?_ ?_;all_goals simp only[puts,Bw,CO,Ag,Ai]
 exact DH;rintro ⟨k,hk⟩;simp only;by_cases I:k<K.length;have B2:k<G.length:=by omega
 obtain⟨c,Ev⟩:∃c,G[k]?=some c:=⟨_,BE B2⟩
 have A9:J[k]?=some [.int .i64 c]:=by rw[<-OE,CM,Ev];rfl
 have Bu:=gx A9;have Dp:k<J.length:=by omega
 have R:=Ng c;rw[hJ c (Cj Ev)]at R;refine wy (cj5 @A0 @I @Dp @A9 @Bu MQ) (cj R<|trivial) ⟨?_⟩;exact⟨⟨k+1,by omega⟩,by simp only;omega,wd 3⟩;have hg : ∀i,-1073741824<=G.getD i 0/\G.getD i 0<=1073741824:=λi=>jH (λv R=>by have:=hJ v R;simpa [An]using this) i
 have Ga : ∀i,(A4 K i).x+(A4 K i).w<=2147483648/\ -2147483648<=(A4 K i).x+(A4 K i).w/\(-1073741824<=(A4 K i).h/\(A4 K i).h<=1073741824)/\(-1073741824<=(A4 K i).d/\(A4 K i).d<=1073741824):=λi=>by
  unfold A4;rw[Bv];cases e:K[i]? with
  | none=>simp[AA.zero]
  | some b=>have hm:=Cj e;have h1:=Mk b hm;simp only[AA.Ad,Ak]at h1;have:=Mq h1.1;simp only[Dm];omega
 have rO:=AL3 (K:=K) (G:=G) (λi=>(Ga i).2.2) hg;refine wu (.mk 17) (cj4 @Av @A0 @I @n1 MQ) trivial ⟨?_⟩;refine AW.DA ?_;refine CY (.mk 1) trivial ?_;have DK:=AOO K B0 (by omega);rw[Aw]at DK;refine SW.AEX id DK (by kernel_rfl) (by simp[BQ]) (by simp[Ee]) (λ_ _ _ _ h=>h) λm=>?_
 simp only[St.put,id_eq,BA,BO,Nat.reduceAdd,Ag,Ai,BK,BU];generalize hZ:(Aq m AA.zero.row).flatten=Z;refine CY (.mk 2) trivial ?_;refine SW.nil ?_;refine Cn 0 ?_;refine Cn 1 ?_;have mf : ∀k row,V.Cs k row BT=BT:=λ_ _=>rfl
 simp only[wM,mf];have e0:MH K G 0=K:=by simp[MH,Gi]
 have q0:K[0]?=some (A4 K 0):=by rw[<-ALy (G:=G) Gs,e0]
 have KG:=og (Z:=Z) (q:=7) (b':=(A4 K 0).AS (A4 K 0).x (E9 K G 0)) q0 (by decide) (AL4 _ _);have KF:=ALz (G:=G) Gs;rw[e0]at KF;rw[KF,show E9 K G 0=0 from rfl]at KG;have FE:=bC K Z;have cT:=λi (h:i<=K.length)=>(bC (MH K G i) Z).trans (by rw[AaS h])
 obtain⟨A,hA⟩:=AI (EN K Z);have p0:(0:Int)<(K.length:Int):=by omega
 have p1:7<K.length*11+Z.length:=by omega
 rw[hA]at KG FE ⊢;simp only[Nat.zero_mul,Cz]at KG;refine wu (.mk 20) (cj5 @p0 @Gs @p1 @FE @KG MQ) trivial ⟨?_⟩;refine AW.DA ?_;refine CY (.mk 2) trivial ?_;refine SW.op (.c (.sl [])) rfl rfl (λS0 w0 x a w g=>AVP g.1 rfl lX (CW g.2 (.tmp 72)) (CW g.2 (.tmp 73))) ?_;simp only[St.step,St.put,Bk,Ag,Ai];refine SW.take 1 (AH.out ?_);simp only[DP,ET];have ff:=(MQ)
 repeat any_goals (first|refine Eo ?_|exact Bt ff|refine De ff ?_|refine BV ff (ANt) ?_|refine DI ff ?_)
 simp only[CU,B9];refine SW.nil ?_;refine wy MQ trivial ⟨?_⟩;refine AW.AKI (α:=Unit) 13 13 0 (λ_ _ _ _ _ h=>absurd h (IY _)) (by decide) (by decide) (caps:=[.cp [.sl []] 0]) (by simp[ev]) rfl func194 (by kernel_rfl) (by kernel_rfl) (λ_ _=>undef) (λ_ _=>undef) (λ_ _=>.any) (λ_ _=>.any) (λ_ _ _ _ h=>absurd h (UE _)) (λ_ _ _ _ h=>absurd h (UE _)) _ (ANs _) (λ_=>True) (λ_=>False) trivial
  (λ_=>[O.box 38 [.c (.sl U)] true,O.box 39 [.c (.sl J)] true,O.box 41 BT false,O.box 41 (EN (MH K G 1) Z) false,O.box 38 [.own 3 0 K.length 11] false,O.box 130 [.fn 128 [.cp [.sl U] 0,.cp [.sl J] 0]] false]) (λ_=>[]) rfl 6 (λ_=>rfl) (by simp) (by simp) (λ_ _ _ h=>absurd h (UE _)) (λ_ _ _=>?_) (λ_ h=>h.elim)
 refine wy MQ trivial ⟨?_⟩;refine lp (ι:={ i:Nat // 1<=i/\i<=K.length }) (λi=>[(14,.c (.int .i64 (i.1:Int)))]) (λi=>[O.box 38 [.c (.sl U)] true,O.box 39 [.c (.sl J)] true,O.box 41 BT false,O.box 41 (EN (MH K G i.1) Z) false,O.box 38 [.own 3 0 K.length 11] false,O.box 130 [.fn 128 [.cp [.sl U] 0,.cp [.sl J] 0]] false]) (λi=>K.length - i.1) ⟨1,BN _,Gs⟩ ?_ ?_;all_goals simp only[puts,Bw,CO,Ag,Ai]
 exact DH;rintro ⟨i,D7,D8⟩;simp only;by_cases I:i<K.length;obtain⟨j,hj⟩:∃j,i=j+1:=⟨i - 1,by omega⟩
 have hu:=AZ4 K G j (by omega) (by omega) (by omega) (λi=>(Ga i).2.2) hg;rw[Aw,Wd]at hu;have g1:=iO (Z:=Z) (q:=7) (AaR (K:=K) (G:=G) (show j<i by omega)) (by decide);have g2:=og (Z:=Z) (q:=7) (b':=(A4 K i).AS (A4 K i).x (E9 K G i)) (ALy (G:=G) I) (by decide) (AL4 _ _);rw[ALz I]at g2;have ey:(((A4 K j).AS (A4 K j).x (E9 K G j)).row.map V.c)[7]?=some (.c (.int .i64 (E9 K G j))):=by cases A4 K j;rfl
 rw[ey]at g1;have b1:=rO j;have b2:=rO i;have es:E9 K G i=E9 K G j - (((A4 K j).d+G.getD (j+1) 0)+(A4 K (j+1)).h):=by rw[hj];rfl
 obtain⟨E,hE⟩:=AI (((A4 K j).d+G.getD (j+1) 0)+(A4 K (j+1)).h);obtain⟨Y,hY⟩:=AI (E9 K G i);obtain⟨Y0,D0⟩:=AI (E9 K G j);have A3:=cT i (by omega);obtain⟨A1,Ec⟩:=AI (EN (MH K G i) Z);rw[hE]at hu es;rw[hY]at g2 b2 es;rw[D0]at g1 b1 es;rw[Ec]at g1 g2 A3 ⊢;have O7:=gx g1;have w1:AZ.wrap ((i:Int) - 1)=(j:Int):=by rw[Ac];omega
 have w2:AZ.wrap (Y0 - E)=Y:=by rw[es];exact Ac
 have w3:AZ.wrap ((i:Int)+1)=((i+1:Nat):Int):=by rw[Ac];simp
 have f1:(i:Int)<(K.length:Int):=by omega
 have f2:(j:Int)<(K.length:Int):=by omega
 have f3:j<K.length:=by omega
 have f4:i*11+7<K.length*11+Z.length:=by omega
 have f5:j*11+7<K.length*11+Z.length:=by omega
 clear hj;refine wy (cj9 @I @f1 @f2 @f3 @f4 @f5 @w1 @w2 @w3<|cj4 @A3 @g1 @O7 @g2 MQ) (cj hu<|trivial) ⟨?_⟩;exact⟨⟨i+1,by omega,by omega⟩,by simp only;omega,wd 6⟩;obtain rfl:i=K.length:=by omega
 have f1 : ¬(K.length:Int)<(K.length:Int):=by omega
 rw[AaQ];obtain⟨M,hM⟩:=AI (Gi K G K.length);rw[hM];have PB:M.length=K.length:=by rw[<-hM,T6]
 have cJ : ∀b∈M,∃c∈K,∃y,b=c.AS c.x y:=λb z=>AL1 (by rw[hM];exact z)
 have WV : ∀j,j<K.length->M[j]?=some ((A4 K j).AS (A4 K j).x (E9 K G j)):=λj hj=>by rw[<-hM];exact ACD hj
 have D2:AA.Az M=AA.Az K:=by rw[<-hM];exact AL0 K G
 have B7:AA.JH M:=ACF λb z=>by
  obtain⟨c,h1,y,rfl⟩:=cJ b z;have h2:=GD (Mk c h1);cases c;exact h2
 have B8:AA.FY M:=lg λb z=>by
  obtain⟨c,h1,y,rfl⟩:=cJ b z;have h2:=B1 c h1;cases c;exact h2
 have hB:LQ K G=Bf (KM M) ((A4 K 0).h+G.getD 0 0) ((A4 K (K.length - 1)).d - E9 K G (K.length - 1)) M:=by unfold LQ;rw[hM]
 obtain⟨H,hH⟩:=AI ((A4 K 0).h+G.getD 0 0);obtain⟨D,hD⟩:=AI ((A4 K (K.length - 1)).d - E9 K G (K.length - 1));rw[hH,hD]at hB;have BD:=AUK (KM M) H D M B7 (by omega);have CA:=EL (Bf (KM M) H D M) ⟨(CI _:0<=maxLen),(CI _:0<=maxLen),B8⟩ (by show AA.cnt (Bf _ _ _ _)<=_;simp only[Bf,AA.cnt];omega);have hR:Ao (Bf (KM M) H D M)=.agg [.c (.int .i64 3),.c (.str ⟨#[]⟩),.c (.int .i64 0),.c (.int .i64 (KM M)),.c (.int .i64 H),.c (.int .i64 D),.c (.int .i64 0),.c (.int .i64 0),.c (.sl (AA.AG M)),.c (.int .i64 0),.c (.sl [])]:=by simp[Ao,Bf,AA.row,AV]
 have TL : ∀v h',(if (Bf (KM M) H D M).Ad=true then ∃k,v=.A7 [.agg (Fy (KM M) H D (.gr k 11 (AA.AG M))),.c (.int .i64 0)]/\h'[k]?=some (.tok 41 11 M.length)else V.CP v=some (.A7 [Ao AA.zero,AR 6]))->aA K G v h':=λv h' hh=>by
  unfold aA;rw[hM,hB];exact hh
 rw[hR]at CA;rw[PB]at TL;obtain⟨ms,Rr⟩:=AI (AA.AG M);have Wi:ms.length=K.length:=by rw[<-Rr,GA,PB]
 have zZ : ∀ {j:Nat} {b:AA},M[j]?=some b->ms[j]?=some b.row:=λh=>by rw[<-Rr,Dt,CM,h];rfl
 have A2:Hc 11 K.length ((AA.AG M).flatten++Z)=ms:=by
  rw[<-PB,<-GA,<-Rr];exact wk _ _ _ λr hr=>by rw[Dt]at hr;obtain⟨b,_,rfl⟩:=Da.1 hr;exact AA.Nk b
 rw[Rr]at BD CA TL;obtain⟨F,hF⟩:=AI ((AA.AG M).flatten++Z);have A5:=AD2 M Z;rw[hF]at A2 A5;have cm:=λrow=>wM 3 row M Z
 refine wy (cj @f1<|MQ) trivial ⟨?_⟩;refine AW.Bi 3 rfl A5 (by simp[V.Cs,V.Bi,A2];exact rfl) (by simp[O.Bi,V.Cs,V.Bi,A2,cm,BT];exact rfl) ?_;refine lp (ι:={ k:Nat // k<=K.length/\0<=KM (M.take k)/\KM (M.take k)<=2147483648 }) (λk=>[(117,.c (.int .i64 (k.1:Int))),(15,.c (.int .i64 (KM (M.take k.1))))]) (λ_=>[O.box 38 [.c (.sl U)] true,O.box 39 [.c (.sl J)] true,O.box 41 BT false,O.box 41 (EN M Z) true,O.box 38 [.c (.sl ms)] false,O.box 130 [.fn 128 [.cp [.sl U] 0,.cp [.sl J] 0]] false]) (λk=>K.length - k.1) ⟨0,CI _,by simp[KM],by simp[KM]⟩ ?_ ?_;all_goals simp only[puts,Bw,CO,Ag,Ai]
 exact ER @KM.eq_1;rintro ⟨k,hk,c1,c2⟩;simp only;by_cases I:k<K.length;have A8:=WV k I;have hr:=zZ A8;have hW:=AaT A8;have z:=Ga k;obtain⟨⟨b0,b1,b2,b3,b4,b5,b6,b7,b8,b9,Oz⟩,yo⟩:=AI ((A4 K k).AS (A4 K k).x (E9 K G k));have e1:(A4 K k).x+(A4 K k).w=b6+b3:=by
  have h1:((A4 K k).AS (A4 K k).x (E9 K G k)).x=b6:=by rw[yo]
  have h2:((A4 K k).AS (A4 K k).x (E9 K G k)).w=b3:=by rw[yo]
  rw[<-h1,<-h2];rfl
 rw[e1]at z;rw[yo]at hr hW;simp only[AA.row]at hr hW;have PS:=gx hr;have B3:k<ms.length:=by omega
 generalize hT:KM (M.take k)=T at hW c1 c2 ⊢;have hm:(if T<b6+b3 then b6+b3 else T)=KM (M.take (k+1)):=hW.symm;have w1:AZ.wrap (b6+b3)=b6+b3:=Ac;rw[DU]at hW;refine wy (cj7 @I @Wi @hr @PS @B3 @w1 @hm MQ) trivial ⟨?_⟩;exact⟨⟨k+1,by omega,by omega,by omega⟩,by simp only;omega,wd 6⟩;obtain rfl:k=K.length:=by omega
 have eT:M.take K.length=M:=List.take_of_length_le (by omega);rw[eT]at c1 c2 ⊢;generalize hN:K.length - 1=N at hD;have r1:=zZ (WV 0 Gs);have r2:=zZ (WV N (by omega));have G5:=Ga 0;have Fc:=Ga N;have ma:=rO N;obtain⟨g,Wc⟩:∃g,G[0]?=some g:=⟨_,BE (by omega)⟩
 have r3:J[0]?=some [.int .i64 g]:=by rw[<-OE,CM,Wc];rfl
 have eg:G.getD 0 0=g:=by rw[Bv,Wc];rfl
 have QM:=hg 0;rw[eg]at QM hH;have ey:E9 K G 0=0:=rfl;rw[ey]at r1;generalize hY:E9 K G N=Y at r2 ma hD;obtain⟨⟨a0,a1,a2,a3,a4,a5,a6,a7,a8,a9,D1⟩,ha⟩:=AI (A4 K 0);obtain⟨⟨d0,d1,d2,d3,d4,d5,d6,d7,d8,d9,d10⟩,hd⟩:=AI (A4 K N);rw[ha]at r1 G5 hH;rw[hd]at r2 Fc hD;simp only[AA.AS,AA.row]at r1 r2 G5 Fc hH hD;have Mz:=gx r1;have Pg:=gx r2;have sU:=gx r3;generalize hW:KM M=W at BD CA TL ⊢;have q1:0<ms.length:=by omega
 have q2:N<ms.length:=by omega
 have q3:0<J.length:=by omega
 have w1:AZ.wrap ((K.length:Int) - 1)=(N:Int):=by rw[Ac];omega
 have w2:AZ.wrap a4=a4:=Ac;have w3:AZ.wrap (a4+g)=H:=by rw[<-hH];exact Ac
 have w4:AZ.wrap (d5 - Y)=D:=by rw[<-hD];exact Ac
 refine wu (.mk 34) (cj9 @Wi @I @q1 @q2 @q3 @r1 @Mz @r2 @Pg<|cj3 @r3 @sU @w1 MQ) trivial ⟨?_⟩;refine AW.Lm Fz (.inl rfl) ?_;refine TW.take 16 (Es (by simp[Wi,q1,q2,q3,r1,Mz,r2,Pg,r3,sU,w1,w2,w3,w4];first|exact rfl|exact⟨rfl,rfl⟩|exact⟨rfl,rfl,rfl⟩) (HI ?_));simp only[CU,B9];refine TW.wY BD (AIQ _ _ _ _) (by kernel_rfl) (by simp[BQ]) (by simp[Ee]) ?_;simp only[St.step,St.put,Bk,BA,BO,Nat.reduceAdd,IY,if_false,Ag,Ai,BU,BK,Fy];refine TW.take 2 (Es (by simp;first|exact rfl|exact⟨rfl,rfl⟩|exact⟨rfl,rfl,rfl⟩) (HI (TW.nil ⟨by kernel_rfl,?_⟩)));cases R:(Bf W H D M).Ad with
 | false=>rw[R]at CA TL;refine wy (cj @BT.eq_1<|MQ) (cj CA<|trivial) ⟨?_⟩;exact⟨.inr rfl,.A7 [.agg BT,.c (.int .i64 6)],by simp[GJ,C0,DE,CJ,BT,MQ],TL _ _ (by rw[if_neg (by decide)];simp[V.CP,V.CF,Ao,AR,BT,AA.zero,AA.row,AA.AG,AV])⟩
 | true=>rw[R]at CA TL;refine wy (cj @BT.eq_1<|MQ) (cj CA<|trivial) ⟨?_⟩;exact⟨.inr rfl,.A7 [.agg (Fy W H D (.gr 8 11 ms)),.c (.int .i64 0)],by simp[GJ,C0,DE,CJ,Fy,MQ],TL _ _ (by rw[if_pos rfl];exact⟨8,rfl,by rw[<-PB];rfl⟩)⟩
theorem AOX {G:List Int}(h:CX AF 73 [.c (.sl (AA.AG K)),.c (AV G),.c (.int .i64 0)] (aA K G))(F:(LQ K G).Ad=true):Ss AF 73 [.c (.sl (AA.AG K)),.c (AV G),.c (.int .i64 0)] 41 11 K.length (λk=>.A7 [.agg (Fy (LQ K G).w (LQ K G).h (LQ K G).d (.gr k 11 (AA.AG (Gi K G K.length)))),.c (.int .i64 0)]):=h.mono λv I E=>by
 unfold aA at E;rw[if_pos F,T6]at E;exact E
theorem AOY {G:List Int}(h:CX AF 73 [.c (.sl (AA.AG K)),.c (AV G),.c (.int .i64 0)] (aA K G))(F:(LQ K G).Ad=false):AC AF 73 [.c (.sl (AA.AG K)),.c (AV G),.c (.int .i64 0)] (.A7 [Ao AA.zero,AR 6]):=.ofX h λv I E=>by
 unfold aA at E;rwa [if_neg (by rw[F];decide)]at E
theorem AFI : ∀(l:List AA) (sp:List Int) (e:Int),(∀b∈l,0<=b.w)->(∀v∈sp,0<=v)->sp.length=l.length->e<=Eh l sp e/\(∀p∈FT l sp e,e<=p/\p<=Eh l sp e)/\(∀v∈sp,e+v<=Eh l sp e)
 | [],[],e,_,_,_=>⟨IV _,λp h=>(by cases h),λv h=>(by cases h)⟩
 | [],_::_,e,_,_,h=>by simp at h
 | _::_,[],e,_,_,h=>by simp at h
 | b::l,s::t,e,I,G,U=>by
   have w0:=I b (by simp);have s0:=G s (by simp);obtain⟨q,J,M⟩:=AFI l t (e+s+b.w) (λc R=>I c (by simp[R])) (λv E=>G v (by simp[E])) (by simpa using U);simp only[Eh,FT];refine⟨by omega,λp F=>?_,λv E=>?_⟩;rcases Cf.1 F with rfl|F
   omega;have:=J p F;omega;rcases Cf.1 E with rfl|E
   omega;have:=M v E;omega
theorem AJe : ∀(l:List AA) (q:List Int),(∀b∈l,b.Ad=true/\b.y=0)->(∀p∈q,An p=true)->AA.FU (EY l q)=true
 | [],[],_,_=>rfl
 | [],_::_,_,_=>rfl
 | _::_,[],_,_=>rfl
 | b::l,p::q,G,F=>by
   obtain⟨v1,I⟩:=G b (by simp);have h:=bF v1 p b.y;rw[F p (by simp),I]at h;have E:(b.AS p 0).Ad=true:=by rw[h];rfl
   simp only[EY,AA.FU,I];rw[AJe l q (λc J=>G c (by simp[J])) (λp M=>F p (by simp[M])),Km];simp only[AA.Ad,Ak]at E;exact E.1
theorem AJc : ∀(l:List AA) (q:List Int),AA.Hk (EY l q)<=AA.Hk l
 | [],[]=>BN _
 | [],_::_=>BN _
 | _::_,[]=>CI _
 | b::l,p::q=>by
   have h:=AJc l q;have e:(b.AS p b.y).nest=b.nest:=by cases b;rfl
   simp only[EY,AA.Hk,e];omega
theorem ALb : ∀(l:List AA) (h M:Int),h<=M->(∀b∈l,b.y+b.h<=M)->KL l h<=M
 | [],h,M,E,_=>E
 | b::l,h,M,E,F=>ALb l _ M (by have:=F b (by simp);rw[DU];omega) λc G=>F c (by simp[G])
theorem AEO : ∀(l:List AA) (h M:Int),h<=M->(∀b∈l,b.d - b.y<=M)->J1 l h<=M
 | [],h,M,E,_=>E
 | b::l,h,M,E,F=>AEO l _ M (by have:=F b (by simp);rw[DU];omega) λc G=>F c (by simp[G])
theorem AAa {w h d:Int}(J:An w=true)(hh:An h=true)(G:An d=true)(I:AA.FU K=true)(M:AA.Az K<=19999)(R:AA.Hk K<=99):(Bf w h d K).Ad=true:=by
 have e:(Bf w h d K).cnt=1+AA.Az K:=rfl;have F:(Bf w h d K).nest=AA.Hk K+1:=rfl;have E:An 0=true:=by decide
 unfold AA.Ad;rw[e,F,decide_eq_true (show 1+AA.Az K<=20000 by omega),decide_eq_true (show AA.Hk K+1<=100 by omega),LW,Km];simp only[Bf,AA.D8,I,Km];simp[AA.Cl,AA.lens,AA.Fi,AA.Js,HT,I7,J,hh,G,E]
theorem AX3 {l:List AA}(F : ∀b∈l,b.Ad=true/\b.y=0/\0<=b.w)(hs : ∀v∈sp,0<=v)(J:sp.length=l.length)(he:Eh l sp 0<=1073741824)(z:AA.Az l<=19999)(hn:AA.Hk l<=99):
 F9 l sp=(Qf l (FT l sp 0) (Eh l sp 0),0):=by
 obtain⟨m1,U,m3⟩:=AFI l sp 0 (λb E=>(F b E).2.2) hs J;have ok : ∀n:Int,0<=n->n<=1073741824->An n=true:=λn I q=>by simp only[An,Ak,decide_eq_true_eq];omega
 have E : ∀b∈l,b.y+b.h<=1073741824/\b.d - b.y<=1073741824:=λb E=>by
  obtain⟨I,q,_⟩:=F b E;simp only[AA.Ad,Ak]at I;have:=Mq I.1;omega
 have M:=VK (l:=l) 0 J;have G:(Qf l (FT l sp 0) (Eh l sp 0)).Ad=true:=by
  unfold Qf;refine AAa (ok _ m1 he) (ok _ (tM l 0).1 (ALb l 0 _ (by decide) λb h=>(E b h).1)) (ok _ (oz l 0).1 (AEO l 0 _ (by decide) λb h=>(E b h).2)) (AJe l _ (λb h=>⟨(F b h).1,(F b h).2.1⟩) λp R=>ok p (U p R).1 (by have:=(U p R).2;omega)) ?_ ?_;rw[dz M];exact z;have:=AJc l (FT l sp 0);omega
 unfold F9;rw[if_neg (by rw[ACg,ES];exact λb h=>(F b h).1),if_neg ?_];unfold Tk;rw[if_neg (by rw[G];decide)];rw[not_or];refine⟨λh=>h J,?_⟩;rw[ACg,ES];exact λv h=>ok v (hs v h) (by have:=m3 v h;omega)
def GC (K:List AA)(i m:Nat):List AA:=(K.drop i).take m
def KI (sp:List Int)(i m:Nat):List Int:=((sp.drop i).take m).set 0 0
theorem ADt {B:AA}{sp:List Int}{A:Nat->Int}(h:Vs B sp A):∀(m i:Nat) (e:Int),i+m<=B.AE.length->Eh ((B.AE.drop i).take m) ((sp.drop i).take m) e=e+A (i+m) - A i
 | 0,i,e,_=>by
   rw[ET,ET,M8];show e=_;omega
 | m+1,i,e,R=>by
   obtain⟨c,v,E,F,J,_,_,_,M,_⟩:=h.Ea i (by omega);have G:B.AE.drop i=c::B.AE.drop (i+1):=by rw[D5 (by omega),gx E (by omega)]
   have I:sp.drop i=v::sp.drop (i+1):=by rw[D5 (by have:=h.len;omega),gx F (by have:=h.len;omega)]
   rw[G,I,DP,DP];simp only[Eh];rw[ADt h m (i+1) _ (by omega),show i+1+m=i+(m+1)by omega];omega
theorem AZc {A:Nat->Int}(h:Vs B sp A){i m:Nat}{c:AA}(F:B.AE[i]?=some c)(z:0<m)(q:i+m<=B.AE.length):Eh (GC B.AE i m) (KI sp i m) 0=A (i+m) - c.x:=by
 obtain⟨m,rfl⟩:∃k,m=k+1:=⟨m - 1,by omega⟩
 obtain⟨M,v,E,G,R,_,_,_,U,_⟩:=h.Ea i (by omega);rw[F]at E;cases E;have I:B.AE.drop i=c::B.AE.drop (i+1):=by rw[D5 (by omega),gx F (by omega)]
 have J:sp.drop i=v::sp.drop (i+1):=by rw[D5 (by have:=h.len;omega),gx G (by have:=h.len;omega)]
 unfold GC KI;rw[I,J,DP,DP,Ag];simp only[Eh];rw[ADt h m (i+1) _ (by omega),show i+1+m=i+(m+1)by omega];omega
theorem av {B:AA}{sp:List Int}{A:Nat->Int}(h:Vs B sp A)(E : ∀b∈B.AE,0<=b.w)(hs : ∀v∈sp,0<=v):∀(m i:Nat),i+m<=B.AE.length->A i<=A (i+m)
 | 0,i,_=>IV _
 | m+1,i,R=>by
   have I:=av h E hs m i (by omega);obtain⟨c,v,F,G,J,_,_,_,M,_⟩:=h.Ea (i+m) (by omega);have w0:=E c (Cj F);have s0:=hs v (Cj G);rw[show i+(m+1)=i+m+1 by omega];omega
theorem tH {i m:Nat}(h:i+m<=sp.length):(KI sp i m).length=m:=by
 unfold KI;rw[GF,Fa,Ns];omega
theorem tG {i m:Nat}(h:i+m<=K.length):(GC K i m).length=m:=by
 unfold GC;rw[Fa,Ns];omega
theorem fJ {α:Type}{l:List α}{i m:Nat}{b:α}(h:b∈(l.drop i).take m):b∈l:=List.mem_of_mem_drop (List.mem_of_mem_take h)
theorem AEx (K:List AA):∀i m,AA.Az ((K.drop i).take m)<=AA.Az K:=by
 have E : ∀(l:List AA) (i:Nat),AA.Az (l.drop i)<=AA.Az l:=by
  intro l;induction l with
  | nil=>intro i;simp
  | cons b l ih =>
    intro i;cases i with
    | zero=>simp
    | succ i=>have:=ih i;simp only[CU,AA.Az];omega
 exact λi m=>Ps (wq _ _) (E K i)
theorem AUg (K:List AA)(n:Nat)(h : ∀b∈K,b.nest<=n):AA.Hk K<=n:=by
 induction K with
 | nil=>exact CI _
 | cons b l ih =>
   have F:=h b (by simp);have G:=ih λc E=>h c (by simp[E])
   simp only[AA.Hk];omega
theorem AId (h:b∈K):b.nest<=AA.Hk K:=by
 induction K with
 | nil=>cases h
 | cons c l ih =>
   simp only[AA.Hk];rcases Cf.1 h with rfl|h
   omega;have:=ih h;omega
theorem AZd {A:Nat->Int}(h:Vs B sp A)(hB:B.Ad=true)(I : ∀b∈B.AE,0<=b.w)(hs : ∀v∈sp,0<=v){i m:Nat}{c:AA}(M:B.AE[i]?=some c)(hm:0<m)(U:i+m<=B.AE.length):
 F9 (GC B.AE i m) (KI sp i m)=(Qf (GC B.AE i m) (FT (GC B.AE i m) (KI sp i m) 0) (A (i+m) - c.x),0):=by
 have R:=AZc h M hm U;have J:=hB;simp only[AA.Ad,Ak,decide_eq_true_eq]at J;obtain⟨b1,b2,b3⟩:=J;have e1:B.cnt=1+AA.Az B.AE:=by cases B;rfl
 have e2:B.nest=AA.Hk B.AE+1:=by cases B;rfl
 have yq:=(Mq b1).1.2;have z : ∀b∈B.AE,b.y=0/\b.D8=true:=λb E=>by
  obtain⟨k,q⟩:=List.mem_iff_getElem?.1 E;obtain⟨c',v,F,_,_,h4,_,_,_,h8⟩:=h.Ea k (Br.1 q).1;rw[q]at F;cases F;exact⟨h4,h8⟩
 have dJ : ∀b∈B.AE,b.Ad=true:=λb E=>by
  have q1:=AEv _ b E;have q2:=AId E;simp only[AA.Ad,Ak,decide_eq_true_eq];exact⟨(z b E).2,by omega,by omega⟩
 obtain⟨c',v,F,h2,h3,_⟩:=h.Ea i (by omega);rw[M]at F;cases F;have a1:=av h I hs i 0 (by omega);have a2:=av h I hs (B.AE.length - (i+m)) (i+m) (by omega);rw[Cz,h.a0]at a1;rw[show i+m+(B.AE.length - (i+m))=B.AE.length by omega,h.ae]at a2;have s0:=hs v (Cj h2);have hr:=AX3 (l:=GC B.AE i m) (sp:=KI sp i m) (λb E=>⟨dJ b (fJ E),(z b (fJ E)).1,I b (fJ E)⟩) (λv G=>?_) (by rw[tH (by have:=h.len;omega),tG U]) (by rw[R];omega) (by have:=AEx B.AE i m;unfold GC;omega) (AUg _ _ λb E=>by have:=AId (fJ E);omega);rw[hr,R];unfold KI at G;rcases List.mem_or_eq_of_mem_set G with G|rfl
 exact hs v (fJ G);exact IV _
theorem AJg : ∀(l:List AA) (q:List Int),(∀b∈l,0<=b.w)->∀c∈EY l q,0<=c.w
 | [],[],_,c,h=>by cases h
 | [],_::_,_,c,h=>by cases h
 | _::_,[],_,c,h=>by cases h
 | b::l,p::q,E,c,h=>by
   simp only[EY]at h;rcases Cf.1 h with rfl|h
   exact E b (by simp);exact AJg l q (λd F=>E d (by simp[F])) c h
theorem AZt {x:Af}(F:x.Ok){s:Aa}(hs:s.ok=true){n:Nd}(E:n.Jb=true)(h:GU x s [] n=some b):(∀c∈b.AE,0<=c.w)/\∀v∈x.CC s n.AE,0<=v:=by
 obtain⟨k,t,c,AE⟩:=n;refine⟨?_,λv R=>ALE (VN F hs) _ _ v R⟩;unfold GU at h;split at h;cases h;intro c J;cases J;split at h;cases h;rename_i L I;split at h;cases h;rename_i C G;cases h;obtain⟨U,q,z⟩:=sh G;have M:(C.mark 1 []).AE=EY L (FT L (x.CC s AE) 0):=by rw[U];rfl
 rw[M];simp only[Nd.Jb,Ak]at E;exact AJg L _ (AAL F AE k s [] 0 L hs E.2 I)
theorem AEB {t Ae:TypeId}{es Bq:Nat}{AG:List (List C)}{l h:Nat}(J:Dk P t=some (Ae,es,Bq))(I : ∀r∈AG,r.length=es)(M:l<=h)(R:h<=AG.length):V3 P t (.c (.sl AG)) (some (.c (.int .i64 (l:Int)))) (some (.c (.int .i64 (h:Int))))=some (.c (.sl ((AG.drop l).take (h - l)))):=by
 have E:(AG.all λr=>r.length==es)=true:=ES.2 λr G=>by simpa using I r G
 have F:((AG.all λr=>r.length==es)=true/\(0:Int)<=(l:Int)/\(l:Int)<=(h:Int)/\(h:Int)<=(AG.length:Int)):=⟨E,by omega,by omega,by omega⟩
 simp only[V3,Dm,Xe,J,Xk];rw[if_pos F,List.drop_take]
theorem AWN (k es n:Nat)(row:List C)(l:List Int):(CK l).map (V.Db k es n row)=CK l:=by
 unfold CK;rw[List.map_map];rfl
def GQ (K:List AA)(sp:List Int)(a e:Nat):AA:=(F9 (GC K a (e - a)) (KI sp a (e - a))).1
def Jj (K:List AA)(sp S:List Int)(n:Nat)(W ind:Int)(k:Nat):AA:=
 (GQ K sp (S.getD k 0).toNat ((S++[(n:Int)]).getD (k+1) 0).toNat).AS (OY (k:Int) (S.length:Int) (GQ K sp (S.getD k 0).toNat ((S++[(n:Int)]).getD (k+1) 0).toNat).w W ind) 0
def I3 (K:List AA)(sp S:List Int)(n:Nat)(W ind:Int)(m:Nat):List AA:=(E6 m).map (Jj K sp S n W ind)
theorem AIJ (K:List AA)(sp S:List Int)(n:Nat)(W ind:Int)(m:Nat):I3 K sp S n W ind (m+1)=I3 K sp S n W ind m++[Jj K sp S n W ind m]:=by
 unfold I3;rw[gB,Fm];rfl
theorem dX (K:List AA)(sp S:List Int)(n:Nat)(W ind:Int)(m:Nat):(I3 K sp S n W ind m).length=m:=by simp[I3]
theorem AOm (f:AP)(D:C)(AE:List Nd)(b:AA)(sp S:List Int)(W ind:Int)(hT:AC AF 51 [.agg f.vs,.c D,Am (Dd AE),Aj ⟨0,false⟩] (.A7 [Ao b,AR 0]))(YZ:AC AF 54 [.agg f.vs,.c D,.c (.sl (Nd.AG AE)),Aj ⟨0,false⟩] (.A7 [.c (AV sp),AR 0]))(hI:AC AF 18 [.agg f.vs,.c (.int .i64 W)] (.c (.int .i64 ind)))(h1:1<=W)(h2:W<=10000000)(hN:AE.length<=1000)(A0:b.AE.length=AE.length)(D2:sp.length=AE.length)(cO:S.length<=1000)(hS : ∀k,k<S.length->∃a e:Nat,S.getD k 0=(a:Int)/\(S++[(AE.length:Int)]).getD (k+1) 0=(e:Int)/\a<e/\e<=AE.length/\F9 (GC b.AE a (e - a)) (KI sp a (e - a))=(GQ b.AE sp a e,0)/\0<=(GQ b.AE sp a e).w/\(GQ b.AE sp a e).w<=1073741824/\(GQ b.AE sp a e).src.length<=1000)(A5:AA.FY b.AE)(eh:AA.Az b.AE<=900000) :
 Ss AF 36 [.agg f.vs,.c D,Am (Dd AE),.c (.int .i64 W),.c (AV S)] 41 11 S.length (λk=>.gr k 11 (AA.AG (I3 b.AE sp S AE.length W ind S.length))):=by
 have hm:=xL b;have NM:=AFA (AV S) (AE.length:Int);have yC:=AE9 S (AE.length:Int) (by omega);obtain⟨rs,U⟩:=AI (AA.AG b.AE);have Av:rs.length=AE.length:=by rw[<-U,GA,A0]
 have IJ:(Nd.AG AE).length=AE.length:=by rw[Zd,Ch]
 obtain⟨ns,Fg⟩:=AI (Nd.AG AE);obtain⟨N,Rf⟩:=AI AE.length;obtain⟨SR,PE⟩:=AI (S.map (λn=>[C.int .i64 n]));have yP:AV S=.sl SR:=by rw[<-PE];rfl
 have B2:SR.length=S.length:=by rw[<-PE,Ch]
 obtain⟨PR,EO⟩:=AI (sp.map (λn=>[C.int .i64 n]));have Ut:AV sp=.sl PR:=by rw[<-EO];rfl
 have D7:PR.length=sp.length:=by rw[<-EO,Ch]
 rw[Rf]at Av IJ NM yC hS hN A0 D2 ⊢;rw[yP]at NM yC ⊢;rw[Ut]at YZ;simp only[Am,Nd.vs,Aj,Nd.row,Dd,Ap,BB,As,AR,Fg]at hT YZ hm IJ ⊢;refine CX.intro (br func36 ntmps36 ?_);refine wy (cj @IJ<|aW) (cj4 hT hm YZ NM trivial) ⟨?_⟩;refine AW.le (Le.T4 6 0 41 11 rfl rfl) ?_;simp only[BA,BO,Nat.reduceAdd,Ag,Ai,BK,BU];refine AW.sW (α:=Unit) rfl rfl rfl rfl rfl rfl (by decide) (by decide) (caps:=[.cp [.sl SR] 0,.cp [.int .i64 (N:Int)] 0]) (by simp[ev]) rfl func89 (by kernel_rfl) (by kernel_rfl) (λpre _=>.int .i64 (S.getD pre.length 0)) (λpre _=>.int .i64 ((S++[(N:Int)]).getD (pre.length+1) 0)) (λpre _=>.c (.int .i64 (S.getD pre.length 0))) (λpre _=>.c (.int .i64 ((S++[(N:Int)]).getD (pre.length+1) 0))) S.length
  (λ_ _ pre _ h=>by simp only[CV,Ab];exact⟨trivial,by obtain⟨a,e,e1,e2,e3,e4,_⟩:=hS _ h;rw[e1];exact Q7 (by omega) (by omega)⟩) (λ_ _ pre _ h=>by simp only[CV,Ab];exact⟨trivial,by obtain⟨a,e,e1,e2,e3,e4,_⟩:=hS _ h;rw[e2];exact Q7 (by omega) (by omega)⟩) _ yC (λ_=>True) (λ_=>False) trivial
  (λpre=>[O.box 27 f.vs false,O.box 33 [.c (.int .i64 1),.c (.str ⟨#[]⟩),.c (.int .i64 0),.c (.sl ns)] false,O.box 3 [.c (.int .i64 W)] false,O.box 39 [.c (.sl SR)] false,O.box 41 b.vs false,O.box 39 [.c (.sl PR)] false,O.box 38 [.gr 7 11 (AA.AG (I3 b.AE sp S N W ind pre.length))] false,O.tok 41 11 (AA.AG (I3 b.AE sp S N W ind pre.length)).length]) (λ_=>[]) rfl 8 (λ_=>rfl) (by simp) (by simp) ?_ ?_ (λ_ h=>h.elim)
 . rintro lp pre ⟨⟩ A2 _;obtain⟨k,hk⟩:=AI pre.length;simp only[VQ,Ag,Ai,Cp,BA,BO,Cz,hk,AIJ]at A2 ⊢;clear hk pre;obtain⟨a,e,e1,e2,ya,E0,Bn,B0,EK,Gt⟩:=hS k A2;have G6:Jj b.AE sp S N W ind k=(GQ b.AE sp a e).AS (OY (k:Int) (S.length:Int) (GQ b.AE sp a e).w W ind) 0:=by unfold Jj;rw[e1,e2,Xk,Xk]
   simp only[e1,e2,G6];generalize hL:GQ b.AE sp a e=L at Bn B0 EK Gt ⊢;have Ce:=dX b.AE sp S N W ind k;obtain⟨K,hK⟩:=AI (I3 b.AE sp S N W ind k);rw[hK]at Ce;simp only[hK,lG];have Md:(AA.AG K).length=k:=by rw[GA,Ce]
   obtain⟨R,hR⟩:=AI (AA.AG K);rw[hR]at Md;simp only[hR];have D1:AA.FY (GC b.AE a (e - a)):=lg λc hc=>kl A5 c (fJ hc)
   have Wm:=kx (GC b.AE a (e - a)) (KI sp a (e - a)) D1 (Ps (AEx _ _ _) eh) (by rw[tG (by omega)];omega) (by rw[tH (by omega)];omega);rw[Bn]at Wm;have A3:=xL L;have J:=AWR (k:Int) (S.length:Int) L.w W ind B0 EK h1 h2 (by omega) (by omega);obtain⟨pl,B8⟩:=AI (OY (k:Int) (S.length:Int) L.w W ind);rw[B8]at J ⊢;have I:=Gu L pl 0 (by omega);simp only[As,Ba,AR]at Wm A3 I;obtain⟨E,yR⟩:=AI ((sp.drop a).take (e - a));have PF:E.length=e - a:=by rw[<-yR,Fa,Ns];omega
   have cN:0<E.length:=by omega
   have A8:E≠[]:=λh=>by rw[h]at cN;simp at cN
   have D0:KI sp a (e - a)=E.set 0 0:=by unfold KI;rw[yR]
   rw[D0]at Wm;have B3:V3 AF 39 (.c (.sl PR)) (some (.c (.int .i64 (a:Int)))) (some (.c (.int .i64 (e:Int))))=some (.c (AV E)):=by
    rw[AEB (Ae:=3) (es:=1) (Bq:=8) (by simp) (λr hr=>by rw[<-EO]at hr;obtain⟨n,_,rfl⟩:=Da.1 hr;rfl) (LZ ya) (by omega),<-EO,<-yR];unfold AV;rw[List.map_take,List.map_drop]
   have B7:V3 AF 38 (.c (.sl rs)) (some (.c (.int .i64 (a:Int)))) (some (.c (.int .i64 (e:Int))))=some (.c (.sl (AA.AG (GC b.AE a (e - a))))):=by
    rw[AEB (Ae:=41) (es:=11) (Bq:=128) (by simp) (λr hr=>by rw[<-U,Dt]at hr;obtain⟨c,_,rfl⟩:=Da.1 hr;exact AA.Nk c) (LZ ya) (by omega),<-U];unfold GC;rw[Dt,Dt,List.map_take,List.map_drop]
   refine wu (.mk 9) (cj @U<|aW) trivial ⟨?_⟩;refine AW.lC rfl ?_;refine CY (.mk 3) trivial ?_;refine SW.op (.c (AV E)) (by simp[BQ]) rfl (λS0 w0 x a w g=>ok_slice (e:=ev _) g.1 rfl (CW g.2 (.tmp 47)) (λz _=>CW g.2 z) (λz _=>CW g.2 z) B3) ?_;simp only[St.step,St.put,Bk,Ag,Ai];refine SW.OU (λv t=>∃m:Nat,v=.own 8 0 E.length 1/\t=some (8,.box 3 (CK (E++Aq m 0)) false)) (by simp[BQ]) (λS0 w0 x a w g ht hd=>?_) ?_;exact AUt (t:=39) (Ae:=3) (Bq:=8) g rfl (by simp) (by simp) (CW ht (.const (.slice none 0 0))) (CW ht (.tmp 50)) A8 (by omega) (by decide) 8 hd;rintro v t ⟨m,rfl,rfl⟩;simp only[St.step,St.put,Bk,BA,BO,Nat.reduceAdd,IY,if_false,Ai,Ag,BK,BU];refine CY (.mk 1) trivial ?_;refine SW.nil ⟨rfl,?_⟩;obtain⟨X,hX⟩:=AI (CK (E++Aq m 0));have Rh:X.length=E.length+m:=by rw[<-hX,Ts];simp
   have s0:X.set 0 (.c (.int .i64 0))=CK (E.set 0 0++Aq m 0):=by
    rw[<-hX];obtain⟨c,r,rfl⟩:∃c r,E=c::r:=by cases E with|nil=>exact absurd rfl A8|cons c r=>exact⟨c,r,rfl⟩
    rfl
   have Rg:0<X.length:=by omega
   have B1:(0:Int)<(E.length:Int):=by omega
   rw[hX];have A1:=Zl (E.set 0 0) (Aq m 0);rw[GF]at A1;refine wu (.mk 11) (cj4 @cN @B1 @Rg @s0 aW) trivial ⟨?_⟩;refine AW.Bi 8 rfl (XK _) (by simp only[V.Cs,V.Bi,B9,A1,if_true];exact rfl) (by simp only[Ai,Ag,Ap,BB,O.Bi,Zm,AFm,AA.vs,YN,V.Cs,V.Bi];exact rfl) ?_;rw[show C.sl ((E.set 0 0).map λn=>[C.int .i64 n])=AV (E.set 0 0)from rfl];refine wu (.mk 11) aW trivial ⟨?_⟩;refine AW.lC rfl ?_;refine CY (.mk 4) @U ?_;refine SW.op (.c (.sl (AA.AG (GC b.AE a (e - a))))) (by simp[BQ]) rfl (λS0 w0 x a w g=>ok_slice (e:=ev _) g.1 rfl (CW g.2 (.tmp 55)) (λz _=>CW g.2 z) (λz _=>CW g.2 z) B7) ?_;simp only[St.step,St.put,Bk,Ag,Ai];refine SW.take 7 (AH.out ?_);simp only[DP,ET];have ff:=(aW)
   repeat any_goals (first|refine Eo ?_|exact Bt ff|refine De ff ?_|refine BV ff (Wm) ?_|refine BV ff (A3) ?_|refine DI ff ?_)
   simp only[CU,B9];refine SW.nil ⟨rfl,?_⟩;refine G3 ?_;have FO:R.length+1<=maxLen:=by unfold maxLen;omega
   have EX:(R.length+1)*128<=140737488355328:=by omega
   obtain⟨L0,L1,L2,L3,L4,L5,L6,L7,L8,L9,vo⟩:=L;simp only[AA.vs,AA.row,AA.AS,Ap,BB]at I J ⊢;refine AW.Lm Fz (.inr (by decide)) ?_;refine TW.take 11 (Es (by simp[Md,B2];first|exact rfl|exact⟨rfl,rfl⟩|exact⟨rfl,rfl,rfl⟩) (HI ?_));simp only[CU,B9];refine TW.take 1 (Xz hI func18 (by kernel_rfl) (by kernel_rfl) (by simp[BQ]) (by simp[Ee]) (HI ?_));simp only[St.step,St.put,Bk,BA,BO,Nat.reduceAdd,Nat.reduceLT,if_true,Ag,Ai,BU,BK,CU,B9];refine TW.take 1 (Xz J func78 (by kernel_rfl) (by kernel_rfl) (by simp[BQ]) (by simp[Ee]) (HI ?_));simp only[St.step,St.put,Bk,BA,BO,Nat.reduceAdd,Nat.reduceLT,if_true,Ag,Ai,BU,BK,CU,B9];refine TW.take 1 (Xz I func71 (by kernel_rfl) (by kernel_rfl) (by simp[BQ]) (by simp[Ee]) (HI ?_));simp only[St.step,St.put,Bk,BA,BO,Nat.reduceAdd,Nat.reduceLT,if_true,Ag,Ai,BU,BK,CU,B9];refine TW.take 2 (Es (by simp[Md];first|exact rfl|exact⟨rfl,rfl⟩|exact⟨rfl,rfl,rfl⟩) (HI ?_));simp only[CU,B9];refine TW.op ⟨.Be 7 11 R,some (7,.Be 41 11 (R.length+1) (tj.map V.c)),some 7⟩ rfl (by intro k ob h;cases h;simp) (λS0 w0 x a w H g F M=>?_) ?_;have hY:CV x w (.gr 7 11 R) (a.eval (.tmp 64)):=F (.tmp 64) (by simp[Bl,Df]);have G:CV x w (.Bg [tj]) (a.eval (.tmp 79)):=F (.tmp 79) (by simp[Bl,Df]);simp only[CV]at G;obtain⟨_,_,G⟩:=G;exact dk g rfl lX hY G (by omega) rfl FO EX (by rw[M 7 rfl,Md];rfl);simp only[St.step,St.put,Bk,BA,BO,Nat.reduceAdd,Nat.reduceLT,if_true,Ag,Ai,BU,BK,CU,B9];refine TW.op ⟨.hp 7 (R.length+1) (R.length*11),none,some 7⟩ rfl (by intro k ob h;cases h) (λS0 w0 x a w H g F M=>?_) ?_;have hY:CV x w (.Be 7 11 R) (a.eval (.tmp 80)):=F (.tmp 80) (by simp[Bl]);have G:CV x w (.c (.int .i64 (k:Int))) (a.eval (.tmp 78)):=F (.tmp 78) (by simp[Bl]);exact r7 g rfl hY (by rw[Md];exact G) lX (M 7 rfl);simp only[St.step,St.put,Bk,BA,BO,Nat.reduceAdd,Nat.reduceLT,if_true,Ag,Ai,BU,BK,CU,B9];refine TW.op ⟨.any,some (7,.Be 41 11 (R.length+1) (Vf V.c [.int .i64 L0,.str L1,.int .i64 L2,.int .i64 L3,.int .i64 L4,.int .i64 L5,.int .i64 pl,.int .i64 0,.sl (AA.AG L8),.int .i64 L9,AV vo])),some 7⟩ rfl (by intro k ob h;cases h;simp) (λS0 w0 x a w H g F M=>?_) ?_;have hY:CV x w (.hp 7 (R.length+1) (R.length*11)) (a.eval (.tmp 81)):=F (.tmp 81) (by simp[Bl]);have G:=F (.tmp 77) (by simp[Bl]);exact AI5 g (q:=(true,11)) rfl tO hY G (M 7 rfl) rfl rfl rfl rfl;simp only[St.step,St.put,Bk,BA,BO,Nat.reduceAdd,Nat.reduceLT,if_true,Ag,Ai,BU,BK,CU,B9];refine TW.take 1 (Es (by simp;first|exact rfl|exact⟨rfl,rfl⟩|exact⟨rfl,rfl,rfl⟩) (HI (TW.nil ⟨by kernel_rfl,?_⟩)));refine MV ?_;refine .inl ⟨rfl,trivial,Exists.imp (λt' h=>Le.trans (Le.Db 7 (ty:=41) (es:=11) (n:=R.length) (cs:=Vf V.c [.int .i64 L0,.str L1,.int .i64 L2,.int .i64 L3,.int .i64 L4,.int .i64 L5,.int .i64 pl,.int .i64 0,.sl (AA.AG L8),.int .i64 L9,AV vo]) (row:=[.int .i64 L0,.str L1,.int .i64 L2,.int .i64 L3,.int .i64 L4,.int .i64 L5,.int .i64 pl,.int .i64 0,.sl (AA.AG L8),.int .i64 L9,AV vo]) rfl (toCs_mapV _) (λj ty es D8 cs h=>?_)) h) ?_⟩
   . iterate 7 (rcases j with _|j;· simp at h)
     rcases j with _|j
     rfl;iterate 2 (rcases j with _|j;· simp at h)
     simp at h
   simp only[Ap,BB,V.Db,O.Db,and_self,if_true,lh,o8,AWN];exact⟨_,wd 8 (hs:=Q0 _) (hh:=by simp) (hb:=P5 8 _)⟩
 rintro xs PD _;simp only[PD];refine wy aW trivial ⟨?_⟩;exact⟨.inr rfl,.gr 7 11 (AA.AG (I3 b.AE sp S N W ind S.length)),by simp[GJ,C0,DE,CJ,aW],7,rfl,by simp[dX]⟩
theorem AA6 {sp:List Int}{A:Nat->Int}{n:Nat} : ∀ {L:List (Int×Int×Int)} {P:List Int},Sy sp A L P n->L.length=P.length/\(∀v∈P,0<=v/\v<(n:Int))/\P.Pairwise (· < ·)
 | [],[],_=>⟨rfl,λv h=>(by cases h),ACm⟩
 | [],_::_,h=>by cases h
 | [x],[p],h=>by
   obtain⟨a,e,M,R⟩:=h;refine⟨rfl,λv E=>?_,by simp⟩;simp only[LY]at E;omega
 | [x],[],h=>by cases h
 | [x],_::_::_,h=>by cases h
 | x::y::L,[],h=>by cases h
 | x::y::L,[p],h=>by cases h
 | x::y::L,p::J::r,h=>by
   obtain⟨⟨a,b,e1,e2,M,R⟩,U⟩:=h;obtain⟨q,G,I⟩:=AA6 U;have z:=G J (by simp);have F : ∀v∈J::r,p<v:=λv E=>by
    rcases Cf.1 E with rfl|E
    omega;have:=(mY.1 I).1 v E;omega
   refine⟨by simpa using q,λv E=>?_,mY.2 ⟨F,I⟩⟩;rcases Cf.1 E with rfl|E
   omega;exact G v E
theorem ATf {P:List Int}{n:Nat}(hP:P.Pairwise (· < ·))(z : ∀v∈P,0<=v/\v<(n:Int))(hT:T.Pairwise (· < ·))(hl : ∀a∈T,a<P.length)(q:k<T.length):
 ∃a e:Nat,(Hj P T).getD k 0=(a:Int)/\(Hj P T++[(n:Int)]).getD (k+1) 0=(e:Int)/\a<e/\e<=n:=by
 have F:(Hj P T).length=T.length:=by simp[Hj]
 have get : ∀j,(U:j<T.length)->∃v,P[T[j]]?=some v/\(Hj P T)[j]?=some v:=λj U=>by
  have E:=hl T[j] (Kq _);refine⟨P[T[j]],BE E,?_⟩;unfold Hj;rw[CM,BE U,Nu,Bv,BE E];rfl
 obtain⟨v,E,J⟩:=get k q;have hv:=z v (Cj E);obtain⟨a,R⟩:∃a:Nat,v=(a:Int):=⟨v.toNat,by omega⟩
 by_cases G:k+1<T.length;obtain⟨u,M,h4⟩:=get (k+1) G;have hu:=z u (Cj M);obtain⟨e,he⟩:∃e:Nat,u=(e:Int):=⟨u.toNat,by omega⟩
 have I:T[k]<T[k+1]:=mZ.1 hT k (k+1) q G (by omega);obtain⟨q1,w1⟩:=Br.1 E;obtain⟨q2,w2⟩:=Br.1 M;have A0:v<u:=by
  rw[<-w1,<-w2];exact mZ.1 hP _ _ q1 q2 I
 refine⟨a,e,by rw[Bv,J,Dm,R],?_,by omega,by omega⟩;rw[Bv,EJ (by omega),h4,Dm,he];refine⟨a,n,by rw[Bv,J,Dm,R],?_,by omega,BN _⟩;rw[Bv,Gy (by omega),F,show k+1 - T.length=0 by omega];rfl
theorem rh {A:Nat->Int}(h:Vs B sp A)(U:B.Ad=true)(F : ∀b∈B.AE,0<=b.w)(hs : ∀v∈sp,0<=v){a e:Nat}(ya:a<e)(he:e<=B.AE.length):
 ∃c v,B.AE[a]?=some c/\sp[a]?=some v/\c.x=A a+v/\F9 (GC B.AE a (e - a)) (KI sp a (e - a))=(GQ B.AE sp a e,0)/\(GQ B.AE sp a e).w=A e - c.x/\0<=(GQ B.AE sp a e).w/\(GQ B.AE sp a e).w<=1073741824/\(GQ B.AE sp a e).src=[]/\(GQ B.AE sp a e).Ad=true/\(GQ B.AE sp a e).cnt=1+AA.Az (GC B.AE a (e - a))/\(GQ B.AE sp a e).AE=EY (GC B.AE a (e - a)) (FT (GC B.AE a (e - a)) (KI sp a (e - a)) 0)/\0<=(GQ B.AE sp a e).h/\0<=(GQ B.AE sp a e).d:=by
 obtain⟨c,v,I,R,h3,_,_,_,h4,_⟩:=h.Ea a (by omega);have G:=AZd h U F hs I (m:=e - a) (by omega) (by omega);rw[show a+(e - a)=e by omega]at G;have E:GQ B.AE sp a e=Qf (GC B.AE a (e - a)) (FT (GC B.AE a (e - a)) (KI sp a (e - a)) 0) (A e - c.x):=by unfold GQ;rw[G]
 have M:=U;simp only[AA.Ad,Ak]at M;have yq:=(Mq M.1).1.2;have z:=av h F hs a 0 (by omega);have a2:=av h F hs (B.AE.length - e) e (by omega);have a3:=av h F hs (e - (a+1)) (a+1) (by omega);rw[Cz,h.a0]at z;rw[show e+(B.AE.length - e)=B.AE.length by omega,h.ae]at a2;rw[show a+1+(e - (a+1))=e by omega]at a3;have w0:=F c (Cj I);have s0:=hs v (Cj R);have q:=h.len;have J:(FT (GC B.AE a (e - a)) (KI sp a (e - a)) 0).length=(GC B.AE a (e - a)).length:=VK _ (by rw[tH (by omega),tG (by omega)]);have hv:=(sh (c:=GQ B.AE sp a e) (by rw[G,E];rfl)).2.2;refine⟨c,v,I,R,h3,by rw[G,E],by rw[E];rfl,?_,?_,by rw[E];rfl,hv,?_,by rw[E];rfl,by rw[E];exact(tM _ 0).1,by rw[E];exact(oz _ 0).1⟩;rw[E];show 0<=A e - c.x;omega;rw[E];show A e - c.x<=1073741824;omega;rw[E];show 1+AA.Az (EY _ _)=_;rw[dz J]
theorem wo : ∀(l r:List AA),AA.Az (l++r)=AA.Az l+AA.Az r
 | [],r=>by simp[AA.Az]
 | b::l,r=>by simp only[BK,AA.Az,wo l r];omega
theorem AOV (K:List AA){a e:Nat}(h:a<=e):AA.Az (K.take e)=AA.Az (K.take a)+AA.Az (GC K a (e - a)):=by
 have:K.take e=K.take a++(K.drop a).take (e - a):=by
  have:=List.take_add (l:=K) (i:=a) (j:=e - a);rwa [show a+(e - a)=e by omega]at this
 rw[this,wo];rfl
theorem AWT {k c own W ind:Int}(M:ind<W)(J:0<=W)(I:0<=own)(h:0<=ind):0<=OY k c own W ind/\OY k c own W ind<=W:=by
 have F:=λE:0<=W - own=>AGd E
 have G:=λE:W - own<0=>AQr E
 unfold OY;simp only[DU];by_cases E:0<=W - own;have:=F E;split;omega;split;omega;split<;>omega;have:=G (by omega);split;omega;split;omega;split<;>omega
def HX (P:Program)(f:FuncId)(args:List V)(h:List O)(Ko:Out->Prop):Prop:=
 ∀(S0:BF) (w0:Bs) (x:Cx) (w:World) (us:List Value),Good S0 w0 x w (λk=>h[k]?)->AO x w args us->
  Calls P f us.toArray w λr w'=>∃x' h' out,Good S0 w0 x' w' (λk=>(h':List O)[k]?)/\Ext x x' w w'/\NC w w'/\Lf x' w' out r/\Ko out
theorem HX.intro {f:FuncId}{c:Code}{args:List V}{h:List O}{Ko:Out->Prop}{n:Nat}(hf:P.funcs[f]?=some fn)(hm:fn.ntmps=n)(Yg:AW ⟨none,h.length⟩ P c (λe s=>((e=.normal\/e=.ret)/\∃v,GJ P s fn.results.toList=some v/\Ko (.ret v))\/∃ch,e=.panic ch/\Ko (.HB ch)) ⟨args++List.replicate (n - args.length) .any,h⟩)(hb:fn.body=some c:=by exact rfl):HX P f args h Ko:=λS0 w0 x w us g B7=>by
 subst hm;have hd : ∀k,x.dom k->k<h.length:=λk hk=>by obtain⟨o,ho⟩:=g.dom k hk;exact(List.getElem?_eq_some_iff.1 ho).1
 refine callsIn_wide.1 (callsIn_of_wp_marks (F:=Fence.wide) (n:=0) hf hb trivial ?_);have hA:Bo x.S (w0.Zr w g.keep.size x h.length hd) x ⟨args++List.replicate (fn.ntmps - args.length) .any,h⟩ { tmps:=us.toArray++Array.replicate (fn.ntmps - us.toArray.size) undef,defers:=[] } w:=by
  refine⟨g.sY h.length hd,?_,Marks.nil _ _⟩;simp only[Array.toList_append,Array.toList_replicate];have hl:us.toArray.size=args.length:=by simpa using B7.len
  rw[hl];exact B7.append (SQ _ _ _ _)
 refine wpIn_mono (Yg 0 x.S _ _ _ w (Nat.le_refl _) hA) λe a' w' ⟨x1,s,Au,hK⟩=>?_
 rcases hK with ⟨he,v,hr,hv⟩|⟨ch,rfl,hv⟩
 have fin:LeavesInM Fence.wide 0 P fn a'.tmps (λr w'=>∃x' h' out,Good S0 w0 x' w' (λk=>(h':List O)[k]?)/\Ext x x' w w'/\NC w w'/\Lf x' w' out r/\Ko out) a'.defers .returning w':=by
  obtain⟨Ds,e,h1,h2⟩:=Au.df;rw[e];refine dR hr Ds w' h1 h2 Au.good Au.tm λw2 u g2 hu=>?_
  obtain⟨⟨g3,CB⟩,Fe⟩:=g.Z5 g2;exact⟨x1,s.h,.ret v,g3,Fe,CB,⟨u,rfl,hu⟩,hv⟩
 rcases he with rfl|rfl<;>exact fin
 obtain⟨Ds,e,h1,h2⟩:=Au.df;show LeavesInM Fence.wide 0 P fn a'.tmps _ a'.defers (.panicking ch) w';rw[e];refine kT Ds w' h1 h2 Au.good Au.tm λw2 g2=>?_
 obtain⟨⟨g3,CB⟩,Fe⟩:=g.Z5 g2;exact⟨x1,s.h,.HB ch,g3,Fe,CB,rfl,hv⟩
theorem AUc (E F G I J M:O)(w h d:Int)(k:Nat)(AG:List (List C)):HC AF 69 [.agg (Fy w h d (.gr k 11 AG)),.c (.int .i64 0)] [E,F,G,I,J,M] (.ret (.agg (Fy w h d (.gr k 11 AG)))) [E,F,G,I,J,M,.box 41 (Fy w h d (.gr k 11 AG)) false,.box 41 (Fy w h d (.gr k 11 AG)) false]:=by
 refine HC.intro func69 rfl ?_;simp only[ntmps69,Ap,BB,BA,BO,Nat.reduceAdd,Nat.reduceSub,BY,Cy,BK,BU];refine wy (cj @Fy.eq_1<|MP) trivial ⟨?_⟩;exact⟨_,rfl,_,Le.refl _,by simp[GJ,C0,DE,CJ,Fy,MP],by simp[Fy]⟩
def Eu (g:Int)(n:Nat):List Int:=(E6 n).map λi=>if 0<i then g else 0
def Mb (g:Int)(n k:Nat):List Int:=Eu g k++Aq (n - k) 0
def V8 (Al:Int)(last nb:AA)(W:Int):Bool:=decide (last.x+last.w+Al+nb.w<=W)
def K0 (Al:Int)(K A6:List AA)(W:Int):List AA:=
 match A6 with
 | []=>K
 | nb::_=>if V8 Al (A4 K (K.length - 1)) nb W=true then K else K++[nb]
def RT (Al:Int)(K A6:List AA)(W:Int):List AA:=Gi (K0 Al K A6 W) (Eu (AU Al 30) (K0 Al K A6 W).length) (K0 Al K A6 W).length
def Gq (Al:Int)(K A6:List AA)(W:Int):List AA:=
 match A6 with
 | []=>RT Al K A6 W
 | nb::_=>if V8 Al (A4 K (K.length - 1)) nb W=true then RT Al K A6 W++[nb.AS nb.x (A4 (RT Al K A6 W) ((RT Al K A6 W).length - 1)).y]else RT Al K A6 W
def GZ (Al:Int)(K A6:List AA)(W:Int):AA:=Bf (mx W (DQ (Gq Al K A6 W)).2.1) (DQ (Gq Al K A6 W)).2.2.1 (DQ (Gq Al K A6 W)).2.2.2 (Gq Al K A6 W)
def K3 (Al:Int)(K A6:List AA)(W:Int):Bool:=(LQ (K0 Al K A6 W) (Eu (AU Al 30) (K0 Al K A6 W).length)).Ad && (GZ Al K A6 W).Ad
def om (Al:Int)(K A6:List AA)(W:Int):Bool:=
 match A6 with
 | []=>false
 | nb::_=>V8 Al (A4 K (K.length - 1)) nb W
theorem pP : ∀(l:List AA) (b:AA),AA.Az (l++[b])=AA.Az l+b.cnt
 | [],b=>by simp only[BU,AA.Az];omega
 | c::l,b=>by simp only[BK,AA.Az,pP l b];omega
theorem jF (n:Nat):(Eu g n).length=n:=by simp[Eu]
theorem AFu (n k:Nat)(h:k<=n):(Mb g n k).length=n:=by simp[Mb,jF];omega
theorem AFv (n k:Nat)(h:k<n):(Mb g n k).set k (if 0<k then g else 0)=Mb g n (k+1):=by
 unfold Mb;rw[Vg _ _ (by rw[jF];exact BN _),jF,La,show n - k=n - (k+1)+1 by omega,BY,Ag];have:Eu g (k+1)=Eu g k++[if 0<k then g else 0]:=by unfold Eu;rw[gB,Fm];rfl
 rw[this,GX];rfl
theorem AFt (n:Nat):Mb g n 0=Aq n 0:=by unfold Mb Eu;simp
theorem APm (n:Nat)(h:0<n):Mb g n 0=Mb g n 1:=by
 have:=AFv g n 0 h;rw[<-this,AFt];cases n with
 | zero=>omega
 | succ n=>rfl
theorem APn (n:Nat):Mb g n n=Eu g n:=by unfold Mb;rw[La];simp
theorem kU (h:b.D8=true): -1073741824<=b.y/\b.y<=1073741824:=by
 obtain⟨k,n,s,w,F,d,x,y,E,o,src⟩:=b;simp only[AA.D8,Ak,AA.Cl,AA.lens,Ep,An,decide_eq_true_eq]at h;show -1073741824<=y/\y<=1073741824;omega
theorem AJv (h:b.D8=true):oI b:=by
 have:=Mq h;have:=kU h;constructor<;>unfold Oi<;>omega
theorem ANl (f:AP)(K A6:List AA)(W:Int)(NT:0<=f.params.Al)(Ta:f.params.Al<=20000)(h1:1<=W)(h2:W<=10000000)(D1:K≠[])(E4:K.length<=100)(IJ:A6.length<=1)(TL : ∀b∈K,b.Ad=true)(Dg : ∀b∈A6,b.Ad=true)(B3 : ∀b∈K,b.BX)(A3 : ∀b∈A6,b.BX)(E3:AA.Az K<=200000)(CB:AA.Az A6<=200000)(D2 : ∀b∈A6,b.src=[]) :
 HX AF 35 [.agg f.vs,.gr 0 11 (AA.AG K),.c (.sl (AA.AG A6)),.c (.int .i64 W)] [.tok 41 11 K.length] (λout=>out=if K3 f.params.Al K A6 W=true then .ret (Ao (GZ f.params.Al K A6 W))else .HB (Tr 6)):=by
 obtain⟨q,hq⟩:=AI f.params.Al;rw[hq]at NT Ta ⊢;obtain⟨rs,Aw⟩:=AI (AA.AG K);have Av:rs.length=K.length:=by rw[<-Aw,GA]
 have Gs:0<K.length:=Kr.2 D1;obtain⟨n,hn⟩:∃n,K.length=n+1:=⟨K.length - 1,by omega⟩
 obtain⟨A0,jx⟩:∃b,K[n]?=some b:=⟨_,BE (by omega)⟩
 have A9:A4 K (K.length - 1)=A0:=by unfold A4;rw[Bv,show K.length - 1=n by omega,jx];rfl
 have G7:=TL A0 (Cj jx);simp only[AA.Ad,Ak]at G7;have JN:=Mq G7.1;clear G7;have HP:rs[n]?=some A0.row:=by rw[<-Aw,Dt,CM,jx];rfl
 obtain⟨l0,l1,l2,l3,l4,l5,l6,l7,l8,l9,A8⟩:=A0;simp only[AA.row]at HP JN;have zq:=gx HP;have f1:n<rs.length:=by omega
 have w1:AZ.wrap ((n:Int)+1 - 1)=(n:Int):=by rw[Ac];omega
 obtain⟨ns,Fg⟩:=AI (AA.AG A6);have qw:ns.length=A6.length:=by rw[<-Fg,GA]
 obtain⟨L,J⟩:=AI (K0 q K A6 W);obtain⟨YA,I⟩:=AI (om q K A6 W);refine HX.intro func35 ntmps35 ?_;simp only[BA,BO,Nat.reduceAdd,Nat.reduceSub,BY,Cy,BK,BU];rw[Aw,Fg];refine wy (cj7 @Av @hn @HP @zq @f1 @w1 @qw MP) trivial ⟨?_⟩;refine lp (ι:={ k:Nat // k<=A6.length }) (λk=>[(29,.c (.int .i64 (k.1:Int))),(1,.gr 0 11 (AA.AG (if k.1=0 then K else L))),(10,.c (.bool (decide (0<k.1) && YA)))]) (λk=>[O.tok 41 11 (if k.1=0 then K else L).length,O.box 27 f.vs false,O.box 41 BT false,O.box 41 [.c (.int .i64 l0),.c (.str l1),.c (.int .i64 l2),.c (.int .i64 l3),.c (.int .i64 l4),.c (.int .i64 l5),.c (.int .i64 l6),.c (.int .i64 l7),.c (.sl (AA.AG l8)),.c (.int .i64 l9),.c (AV A8)] false]) (λk=>A6.length - k.1) ⟨0,CI _⟩ ?_ ?_;all_goals simp only[puts,Bw,CO,Ag,Ai]
 simp only[if_true,Aw,hn];exact ER @BT.eq_1;rintro ⟨k,hk⟩;simp only;by_cases F:k<A6.length;obtain⟨G,rfl⟩:∃G,A6=[G]:=by
  match A6,IJ,F with
  | [b],_,_=>exact⟨b,rfl⟩
 have Iu:k=0:=by simp at F;omega
 have e0:(if k=0 then K else L)=K:=if_pos Iu;have e1:(if k+1=0 then K else L)=L:=if_neg (Nat.succ_ne_zero k);have e2:(decide (0<k+1) && YA)=YA:=by simp
 have e3:(decide (0<k) && YA)=false:=by rw[Iu];rfl
 rw[e0,e3,Aw,hn];have Dg:=Dg G (by simp);simp only[AA.Ad,Ak]at Dg;have II:=Mq Dg.1;clear Dg;simp only[om,K0,A9,V8]at I J;have r1:ns[k]?=some G.row:=by rw[<-Fg,Iu];rfl
 have zd:AA.AG (K++[G])=rs++[G.row]:=by rw[lG,Aw]
 obtain⟨m0,m1,m2,m3,m4,m5,m6,m7,m8,m9,Qg⟩:=G;simp only[AA.row]at r1 II I J zd;have Mz:=gx r1;have f2:k<ns.length:=by omega
 have f3:(k:Int)<(ns.length:Int):=by omega
 have f4:rs.length+1<=maxLen:=by unfold maxLen;omega
 have f5:(rs.length+1)*128<=140737488355328:=by omega
 have w2:AZ.wrap (l6+l3)=l6+l3:=Ac;have w3:AZ.wrap (l6+l3+q)=l6+l3+q:=Ac;have w4:AZ.wrap (l6+l3+q+m3)=l6+l3+q+m3:=Ac;have w5:AZ.wrap ((k:Int)+1)=((k+1:Nat):Int):=by rw[Ac];simp
 have OI:rs.length=n+1:=by omega
 by_cases U:l6+l3+q+m3<=W;have hd:decide (l6+l3+q+m3<=W)=true:=decide_eq_true U;rw[hd]at I J;rw[if_pos rfl]at J;refine wy (cj9 @F @qw @f2 @f3 @r1 @Mz @hq @w2 @w3<|cj3 @w4 @w5 @U MP) trivial ⟨?_⟩;refine⟨⟨k+1,by omega⟩,by simp only;omega,?_⟩;simp only[e1,e2];rw[<-I,<-J,Aw,hn];exact wd 4;have hd:decide (l6+l3+q+m3<=W)=false:=decide_eq_false U;rw[hd]at I J;rw[if_neg (by decide)]at J;refine wy (cj9 @F @qw @f2 @f3 @r1 @Mz @hq @w2 @w3<|cj6 @w4 @w5 @U @f4 @f5 @OI MP) trivial ⟨?_⟩;refine⟨⟨k+1,by omega⟩,by simp only;omega,?_⟩;simp only[e1,e2];rw[<-I,<-J,zd,Cp,BA,BO,hn];exact wd 4;obtain rfl:k=A6.length:=by omega
 have e1:(if A6.length=0 then K else L)=L:=by
  rw[<-J];match A6 with
  | []=>rfl
  | _::_=>rfl
 have e2:(decide (0<A6.length) && YA)=YA:=by
  rw[<-I];match A6 with
  | []=>rfl
  | _::_=>simp
 rw[e1,e2];have g1:AU q 30=AU q 30:=rfl;have A5:=EI q 30;have QM:=DM (p:=30) q (by decide) (by decide);obtain⟨g,hg⟩:=AI (AU q 30);rw[hg]at A5 QM;obtain⟨m,hm⟩:=AI L.length;obtain⟨ls,DS⟩:=AI (AA.AG L);have B0:ls.length=m:=by rw[<-DS,GA,hm]
 have Ew:0<m:=by
  rw[<-hm,<-J];match A6 with
  | []=>exact Gs
  | _::_=>simp only[K0];split;exact Gs;simp
 have FP:m<=101:=by
  rw[<-hm,<-J];match A6 with
  | []=>simp only[K0];omega
  | _::_=>simp only[K0];split;omega;simp;omega
 have q1:8*(m:Int)<=281474976710656:=by omega
 have q2:(m:Int)<=9223372036854775807:=by omega
 have q3 : ¬(A6.length:Int)<(A6.length:Int):=by omega
 rw[DS,hm];refine wu (.mk 11) (cj4 @q1 @q2 @q3 @B0 MP) trivial ⟨?_⟩;have hz:Aq m (V.c (.int .i64 0))=CK (Mb g m 0):=by rw[AFt];simp[CK]
 rw[hz];clear hz;refine wy MP trivial ⟨?_⟩;refine lp (ι:={ k:Nat // k<=m }) (λk=>[(59,.c (.int .i64 (k.1:Int)))]) (λk=>[O.tok 41 11 m,O.box 27 f.vs false,O.box 41 BT false,O.box 41 [.c (.int .i64 l0),.c (.str l1),.c (.int .i64 l2),.c (.int .i64 l3),.c (.int .i64 l4),.c (.int .i64 l5),.c (.int .i64 l6),.c (.int .i64 l7),.c (.sl (AA.AG l8)),.c (.int .i64 l9),.c (AV A8)] false,O.box 3 (CK (Mb g m k.1)) false]) (λk=>m - k.1) ⟨0,CI _⟩ ?_ ?_;all_goals simp only[puts,Bw,CO,Ag,Ai]
 exact ER @BT.eq_1;rintro ⟨k,hk⟩;simp only;by_cases F:k<m;have c1:(k:Int)<(m:Int):=by omega
 have c2:AZ.wrap ((k:Int)+1)=((k+1:Nat):Int):=by rw[Ac];simp
 have c3:=AJa (l:=Mb g m k) (z:=[]) (k:=k) (a:=if 0<k then g else 0) (by rw[AFu g m k hk];exact F);rw[E5,E5,AFv g m k F]at c3;have c4:(CK (Mb g m k)).length=m:=by rw[Ts,AFu g m k hk]
 by_cases h0:0<k;rw[if_pos h0]at c3;generalize hX:CK (Mb g m k)=X at c3 c4 ⊢;have JJ:(0:Int)<(k:Int):=by omega
 refine wy (cj8 @F @c1 @c2 @c3 @c4 @h0 @JJ @hq MP) (cj A5<|trivial) ⟨?_⟩;exact⟨⟨k+1,by omega⟩,by simp only;omega,wd 5⟩;obtain rfl:k=0:=by omega
 rw[APm g m Ew];refine wy (cj3 @F @c1 @Ew MP) trivial ⟨?_⟩;refine⟨⟨0+1,by omega⟩,by simp only;omega,?_⟩;exact wd 5;obtain rfl:k=m:=by omega
 rw[APn];have U5 : ∀b∈L,b.Ad=true/\b.BX:=λb E=>by
  rw[<-J]at E;have:b∈K\/b∈A6:=by
   match A6,E with
   | [],E=>exact .inl E
   | c::_,E =>
     simp only[K0]at E;split at E;exact .inl E;rcases MJ.1 E with h|h
     exact .inl h;simp only[LY]at h;subst h;exact .inr (by simp)
  rcases this with h|h
  exact⟨TL b h,B3 b h⟩;exact⟨Dg b h,A3 b h⟩
 have B7:AA.Az L<=400000:=by
  rw[<-J];match A6,CB with
  | [],_=>simp only[K0];omega
  | c::_,U=>simp only[K0];simp only[AA.Az]at U;split;omega;rw[pP];omega
 have hJ : ∀v∈Eu g k,An v=true:=λv hv=>by
  obtain⟨i,_,rfl⟩:=Da.1 hv;simp only[An,Ak,decide_eq_true_eq];split<;>omega
 have cY:=AOZ L (Eu g k) (λe=>by rw[e]at hm;simp at hm;omega) (by rw[jF,hm]) (lg λb E=>(U5 b E).2) (by omega) (by omega) (λb E=>(U5 b E).1) hJ;have D0:Hc 1 k ((Eu g k).map (C.int .i64))=(Eu g k).map λn=>[C.int .i64 n]:=by have:=Zl (Eu g k) [];rw[E5,jF]at this;exact this
 have q4 : ¬(k:Int)<(k:Int):=by omega
 have eV:RT q K A6 W=Gi L (Eu g k) k:=by unfold RT;rw[J,hg,hm]
 have B1:K3 q K A6 W=((LQ L (Eu g k)).Ad && (GZ q K A6 W).Ad):=by unfold K3;rw[J,hg,hm]
 rw[B1];refine wu (.mk 17) (cj @q4<|MP) trivial ⟨?_⟩;refine AW.Bi 4 rfl (XK _) (by simp only[V.Cs,V.Bi,B9,D0,if_true];exact rfl) (by simp only[Ai,Ag,Ap,BB,O.Bi,Zm,AFm,BT,V.Cs,V.Bi];exact rfl) ?_;rw[show C.sl ((Eu g k).map λn=>[C.int .i64 n])=AV (Eu g k)from rfl];cases hv:(LQ L (Eu g k)).Ad with
 | false =>
   have FX:=AOY cY hv;have Hi:=AFC AA.zero 6 (by decide);unfold AR at FX Hi;rw[DS]at FX;simp only[As]at FX Hi;refine AW.DA ?_;refine SW.take 5 (AH.out ?_);simp only[DP,ET];have ff:=(MP)
   repeat any_goals (first|refine Eo ?_|exact Bt ff|refine De ff ?_|refine BV ff (FX) ?_|refine DI ff ?_)
   simp only[CU,B9];refine SW.wa (args:=[.agg AA.zero.vs,.c (.int .i64 6)]) (HC.AAo Hi (by kernel_rfl) rfl _) (by simp[BQ]) (by simp[C7,ev]) ?_;exact .inr ⟨_,rfl,by rw[Bool.false_and,if_neg (by decide)]⟩
 | true =>
   have yw:=AOX cY hv;rw[DS,hm]at yw;have cJ : ∀b∈Gi L (Eu g k) k,oI b/\b.Fq/\b.BX:=λb E=>by
    have E:b∈Gi L (Eu g k) L.length:=by rw[hm];exact E
    obtain⟨c,U,y,rfl⟩:=AL1 E;obtain⟨c1,c2⟩:=U5 c U;have hp:(c.AS c.x y).D8=true:=by
     have h1:AA.FU (Gi L (Eu g k) L.length)=true:=by
      unfold LQ at hv;simp only[AA.Ad,Bf,AA.D8,Ak]at hv;exact hv.1.2
     exact Tt h1 _ E
    refine⟨AJv hp,?_,?_⟩;have:=GD c1;cases c;exact this;cases c;exact c2
   have B8:AA.Az (Gi L (Eu g k) k)<=400000:=by rw[<-hm,AL0];exact B7
   have PB:(Gi L (Eu g k) k).length=k:=T6 _ _ _;obtain⟨M,hM⟩:=AI (Gi L (Eu g k) k);obtain⟨ms,Rr⟩:=AI (AA.AG M);obtain⟨vw,E1⟩:=AI ((LQ L (Eu g k)).w);obtain⟨vh,E0⟩:=AI ((LQ L (Eu g k)).h);obtain⟨vd,VC⟩:=AI ((LQ L (Eu g k)).d);rw[hM]at cJ B8 PB eV;rw[hM,E1,E0,VC,Rr]at yw;have A2:ms.length=k:=by rw[<-Rr,GA,PB]
   refine AW.DA ?_;refine CY (.mk 2) trivial ?_;refine SW.wY yw (Seat.A7 (JB.cons (AIQ _ _ _ _) (JB.cons (Seat.c _) JB.nil))) (by kernel_rfl) (by simp[BQ]) (by simp[Ee]) ?_;simp only[St.put,BA,BO,Nat.reduceAdd,Ag,Ai,BK,BU];refine CY (.mk 2) trivial ?_;refine SW.wZ (AUc _ _ _ _ _ _ vw vh vd 5 ms) (by simp[BQ]) (by simp[C7,ev]) ?_;simp only[St.put,Ag,Ai,Fy];refine CY (.mk 2) trivial ?_;refine SW.nil ?_;obtain⟨N,hN⟩:=AI (Gq q K A6 W);have hB:GZ q K A6 W=Bf (mx W (DQ N).2.1) (DQ N).2.2.1 (DQ N).2.2.2 N:=by unfold GZ;rw[hN]
   have yI : ∀b∈N,oI b/\b.Fq/\b.BX:=λb E=>by
    rw[<-hN]at E;have:b∈M\/∃c∈A6,b=c.AS c.x (A4 M (M.length - 1)).y:=by
     match A6,E with
     | [],E=>simp only[Gq]at E;rw[eV]at E;exact .inl E
     | c::_,E =>
       simp only[Gq]at E;rw[eV]at E;split at E;rcases MJ.1 E with h|h
       exact .inl h;simp only[LY]at h;exact .inr ⟨c,by simp,h⟩;exact .inl E
    rcases this with h|⟨c,U,rfl⟩
    exact cJ b h;have t1:=AJv (b:=c) (by have:=Dg c U;simp only[AA.Ad,Ak]at this;exact this.1);have t2:=GD (Dg c U);have t3:=A3 c U;have t4:Oi (A4 M (M.length - 1)).y:=by
     unfold A4;rw[Bv];cases e:M[M.length - 1]? with
     | none=>simp[Oi,AA.zero]
     | some b=>exact(cJ b (Cj e)).1.y
    refine⟨?_,?_,?_⟩;cases c;exact⟨t1.x,t4,t1.w,t1.h,t1.d⟩;cases c;exact t2;cases c;exact t3
   have F6:AA.Az N<=900001/\N.length<=102:=by
    rw[<-hN];match A6,CB with
    | [],_=>simp only[Gq];rw[eV];omega
    | c::_,U =>
      simp only[Gq];rw[eV];simp only[AA.Az]at U;split;have ec:(c.AS c.x (A4 M (M.length - 1)).y).cnt=c.cnt:=by cases c;rfl
      rw[pP,ec];simp;omega;omega
   have hE:=kq N (by omega) λb E=>(yI b E).1
   have BD:=My (mx W (DQ N).2.1) (DQ N).2.2.1 (DQ N).2.2.2 N (ACF λb E=>(yI b E).2.1) (by omega);rw[<-hB]at BD;have CA:=EL (GZ q K A6 W) (by rw[hB];exact⟨(CI _:0<=maxLen),(CI _:0<=maxLen),lg λb E=>(yI b E).2.2⟩) (by rw[hB];show AA.cnt (Bf _ _ _ _)<=_;simp only[Bf,AA.cnt];omega);generalize OA:GZ q K A6 W=B at BD CA ⊢;obtain⟨⟨e1,e2,e3,e4⟩,he⟩:=AI (DQ N);rw[he]at hE BD;unfold YG at hE;obtain⟨R,hR⟩:=AI (mx W e2);simp only[As,hR]at BD CA hE ⊢;unfold mx at hR;rw[Cd];have E2 : ∀(b:Bool),B.Ad=b->True:=λ_ _=>trivial
   cases E:YA with
   | false =>
     have eN:N=M:=by
      rw[<-hN,<-eV];rw[E]at I;match A6,I with
      | [],_=>rfl
      | c::_,I=>simp only[om]at I;simp only[Gq];rw[if_neg (by rw[I];decide)]
     rw[eN,Rr]at hE BD;cases jd:B.Ad with
     | true=>rw[jd]at CA;rw[if_pos rfl];refine wy (cj @hR<|MP) (cj3 hE BD CA trivial) ⟨?_⟩;exact .inl ⟨.inr rfl,.agg B.vs,by simp[GJ,C0,DE,CJ,results35],rfl⟩
     | false=>rw[jd]at CA;rw[if_neg (by decide)];refine wu (.mk 23) (cj @hR<|MP) (cj3 hE BD CA trivial) ⟨?_⟩;refine AW.DA ?_;exact SW.rp (hty:=nu) rfl rfl rfl rfl rfl rfl (F2 rfl) (Or.inr ⟨_,rfl,rfl⟩)
   | true =>
     rw[E]at I;obtain⟨G,rfl⟩:∃G,A6=[G]:=by
      match A6,IJ,I with
      | [],_,h=>cases h
      | [b],_,_=>exact⟨b,rfl⟩
     simp only[om]at I;obtain⟨j,hj⟩:∃j,k=j+1:=⟨k - 1,by omega⟩
     obtain⟨ml,Wi⟩:∃b,M[j]?=some b:=⟨_,BE (by omega)⟩
     have B2:A4 M (M.length - 1)=ml:=by unfold A4;rw[Bv,PB,show k - 1=j by omega,Wi];rfl
     have eN:N=M++[G.AS G.x ml.y]:=by
      rw[<-hN];simp only[Gq];rw[eV,I,if_pos rfl,B2]
     have D7:AA.AG N=ms++[(G.AS G.x ml.y).row]:=by rw[eN,lG,Rr]
     rw[D7]at hE BD;have A1:=Gu G G.x ml.y (by rw[D2 G (by simp)];exact CI _);have r1:ns[0]?=some G.row:=by rw[<-Fg];rfl
     have r2:ms[j]?=some ml.row:=by rw[<-Rr,Dt,CM,Wi];rfl
     obtain⟨m0,m1,m2,m3,m4,m5,m6,m7,m8,m9,Qg⟩:=G;obtain⟨p0,p1,p2,p3,p4,p5,p6,p7,p8,p9,Zi⟩:=ml;simp only[Ao,AA.row,AA.AS,Ap,BB]at r1 r2 A1 hE BD;have Mz:=gx r1;have Pg:=gx r2;have f2:0<ns.length:=by rw[qw];simp
     have f3:j<ms.length:=by omega
     have w2:AZ.wrap ((k:Int) - 1)=(j:Int):=by rw[Ac];omega
     have f4:ms.length+1<=maxLen:=by unfold maxLen;omega
     have f5:(ms.length+1)*128<=140737488355328:=by omega
     have Px:k+1<=maxLen:=by unfold maxLen;omega
     have US:(k+1)*128<=140737488355328:=by omega
     clear hj;cases jd:B.Ad with
     | true=>rw[jd]at CA;rw[if_pos rfl];refine wy (cj9 @r1 @Mz @r2 @Pg @f2 @f3 @w2 @f4 @f5<|cj4 @Px @US @A2 @hR MP) (cj4 A1 hE BD CA trivial) ⟨?_⟩;exact .inl ⟨.inr rfl,.agg B.vs,by simp[GJ,C0,DE,CJ,results35],rfl⟩
     | false=>rw[jd]at CA;rw[if_neg (by decide)];refine wu (.mk 23) (cj9 @r1 @Mz @r2 @Pg @f2 @f3 @w2 @f4 @f5<|cj4 @Px @US @A2 @hR MP) (cj4 A1 hE BD CA trivial) ⟨?_⟩;refine AW.DA ?_;exact SW.rp (hty:=nu) rfl rfl rfl rfl rfl rfl (F2 rfl) (Or.inr ⟨_,rfl,rfl⟩)
section
structure Lc (B:AA)(sp S:List Int)(N:Nat)(W ind:Int):Prop where
 au : ∃A,Vs B sp A
 val:B.Ad=true
 nn : ∀b∈B.AE,0<=b.w
 sn : ∀v∈sp,0<=v
 len:B.AE.length=N
 n80:N<=80
 XS:S.length<=64
 s0:S.getD 0 0=0
 lR:0<S.length
 ck : ∀k,k<S.length->∃a e:Nat,S.getD k 0=(a:Int)/\(S++[(N:Int)]).getD (k+1) 0=(e:Int)/\a<e/\e<=N
 w1:1<=W
 w2:W<=10000000
 i1:0<=ind
 i2:ind<W
variable {B:AA} {sp S:List Int} {N:Nat} {W ind:Int}
theorem Lc.line (h:Lc B sp S N W ind)(R:k<S.length):∃a e:Nat,S.getD k 0=(a:Int)/\(S++[(N:Int)]).getD (k+1) 0=(e:Int)/\a<e/\e<=N/\Jj B.AE sp S N W ind k=(GQ B.AE sp a e).AS (OY (k:Int) (S.length:Int) (GQ B.AE sp a e).w W ind) 0/\(Jj B.AE sp S N W ind k).Ad=true/\(Jj B.AE sp S N W ind k).cnt=1+AA.Az (GC B.AE a (e - a)):=by
 obtain⟨a,e,F,G,I,J⟩:=h.ck k R;obtain⟨A,M⟩:=h.au;obtain⟨c,v,_,_,_,_,_,U,_,_,q,z,_⟩:=rh M h.val h.nn h.sn I (by rw[h.len];exact J);have E:Jj B.AE sp S N W ind k=(GQ B.AE sp a e).AS (OY (k:Int) (S.length:Int) (GQ B.AE sp a e).w W ind) 0:=by unfold Jj;rw[F,G,Xk,Xk]
 have hp:=AWT (k:=(k:Int)) (c:=(S.length:Int)) (own:=(GQ B.AE sp a e).w) h.i2 (by have:=h.w1;omega) U h.i1;refine⟨a,e,F,G,I,J,E,?_,?_⟩;rw[E,bF q];simp only[An,Ak,decide_eq_true_eq];have:=h.w2;omega;rw[E,<-z];cases GQ B.AE sp a e;rfl
theorem Lc.Az (h:Lc B sp S N W ind):∀m,m<=S.length->AA.Az (I3 B.AE sp S N W ind m)<=m+AA.Az (B.AE.take ((S++[(N:Int)]).getD m 0).toNat)
 | 0,_=>by simp[I3,AA.Az]
 | m+1,R=>by
   have ih:=h.Az m (by omega);obtain⟨a,e,E,F,I,M,_,_,J⟩:=h.line (k:=m) (by omega);have G:(S++[(N:Int)]).getD m 0=(a:Int):=by
    rw[Bv,EJ (by omega),<-Bv];exact E
   rw[G,Xk]at ih;rw[F,Xk,AIJ,pP,J];have:=AOV B.AE (LZ I);omega
theorem Lc.all (h:Lc B sp S N W ind):(∀c∈I3 B.AE sp S N W ind S.length,c.Ad=true/\c.BX)/\AA.Az (I3 B.AE sp S N W ind S.length)<=30000/\I3 B.AE sp S N W ind S.length≠[]:=by
 refine⟨λc J=>?_,?_,λe=>?_⟩;obtain⟨k,G,rfl⟩:=Da.1 J;rw[KP]at G;obtain⟨_,_,_,_,_,_,_,E,_⟩:=h.line G;refine⟨E,?_⟩;simp only[AA.Ad,Ak]at E;have:=Ze [Jj B.AE sp S N W ind k] (by simp only[AA.FU,E.1,LW]);exact this.1;have F:=h.Az S.length (BN _);have R:=wq B.AE ((S++[(N:Int)]).getD S.length 0).toNat;have I:=h.val;simp only[AA.Ad,Ak,decide_eq_true_eq]at I;have M:B.cnt=1+AA.Az B.AE:=by cases B;rfl
 have:=h.XS;omega;have F:=congrArg aJ e;rw[dX,BO]at F;have:=h.lR;omega
end
theorem AII {x:Af}{n:Nd}{L:List (Int×Int×Int)}{P:List Int}{W:Int}(hf:x.f.Fit)(hl:x.d.length<=300)(hn:n.BX)(hc:n.cnt<=80)(h1:1<=W)(h2:W<=10000000)(hH:oC b L P)(E:af x ⟨0,false⟩ n b L P)(hv:Gg L=true):
 Lc b (x.CC ⟨0,false⟩ n.AE) (Hj P (ME L W (HA x.f.params.Al W))) n.AE.length W (HA x.f.params.Al W):=by
 have F:=E.ok;unfold Af.Bj at F;simp only[Ak]at F;have R:x.Ok:=⟨hf,F.1,hl,F.2.1⟩
 have G:=E.nv;unfold Nd.Ad at G;simp only[Ak,decide_eq_true_eq]at G;obtain⟨A,hA,hP⟩:=E.au;obtain⟨q1,q2⟩:=AZt R F.2.2 G.2.1 E.row;obtain⟨k1,k2,k3⟩:=AA6 hP;have FQ:=hv;unfold Gg at FQ;simp only[Ak,decide_eq_true_eq]at FQ;obtain⟨U,q,z⟩:=ABy L W (HA x.f.params.Al W) (by omega);obtain⟨d1,d2⟩:=AHw (eK F.1).1 h1;have M:(x.CC ⟨0,false⟩ n.AE).length=n.AE.length:=by unfold Af.CC;rw[fF,ef,Zh]
 generalize hT:ME L W (HA x.f.params.Al W)=T at U q z ⊢;have I:(Hj P T).length=T.length:=by simp[Hj]
 obtain⟨t,r,rfl⟩:∃t r,T=t::r:=by
  cases T with
  | nil=>simp at z
  | cons t r=>exact⟨t,r,rfl⟩
 have ht:t=0:=by simpa using z
 have J:(t::r).length<=64:=by
  rcases x9 (t::r) 0 L.length q (λx R=>⟨CI _,U x R⟩)with h|h
  omega;cases h
 refine⟨⟨A,hA⟩,E.val,q1,q2,by rw[<-hA.len];exact M,?_,by rw[I];exact J,?_,by rw[I];simp,λk hk=>ATf k3 k2 q (λa ha=>by rw[<-k1];exact U a ha) (by rw[<-I];exact hk),h1,h2,d1,d2⟩;have e1:=SH n.AE;have e2:=Tm n;omega;rw[ht];exact E.p0
theorem AOn {f:AP}{D:C}{AE:List Nd}{sp S:List Int}{W ind:Int}(h:Lc b sp S AE.length W ind)(U:AC AF 51 [.agg f.vs,.c D,Am (Dd AE),Aj ⟨0,false⟩] (.A7 [Ao b,AR 0]))(M:AC AF 54 [.agg f.vs,.c D,.c (.sl (Nd.AG AE)),Aj ⟨0,false⟩] (.A7 [.c (AV sp),AR 0]))(R:AC AF 18 [.agg f.vs,.c (.int .i64 W)] (.c (.int .i64 ind))):
 Ss AF 36 [.agg f.vs,.c D,Am (Dd AE),.c (.int .i64 W),.c (AV S)] 41 11 S.length (λk=>.gr k 11 (AA.AG (I3 b.AE sp S AE.length W ind S.length))):=by
 obtain⟨A,E⟩:=h.au;have F:=h.val;simp only[AA.Ad,Ak,decide_eq_true_eq]at F;have e1:b.cnt=1+AA.Az b.AE:=by cases b;rfl
 have J:AA.FU b.AE=true:=by
  have:=F.1;cases b;simp only[AA.D8,Ak]at this;exact this.2
 refine AOm f D AE b sp S W ind U M R h.w1 h.w2 (by have:=h.n80;omega) h.len (by rw[E.len,h.len]) (by have:=h.XS;omega) (λk q=>?_) (Ze _ J) (by omega);obtain⟨a,e,x1,x2,G,I⟩:=h.ck k q;obtain⟨c,v,_,_,_,z,_,k5,k6,k7,_⟩:=rh E h.val h.nn h.sn G (by rw[h.len];exact I);exact⟨a,e,x1,x2,G,I,z,k5,k6,by rw[k7];exact CI _⟩
theorem AOl {f:AP}{sp S:List Int}{N:Nat}{W ind:Int}(h:Lc b sp S N W ind)(U:f.valid=true)(A6:List AA)(I:A6.length<=1)(G : ∀c∈A6,c.Ad=true)(R : ∀c∈A6,c.src=[]):
 HX AF 35 [.agg f.vs,.gr 0 11 (AA.AG (I3 b.AE sp S N W ind S.length)),.c (.sl (AA.AG A6)),.c (.int .i64 W)] [.tok 41 11 S.length] (λout=>out=if K3 f.params.Al (I3 b.AE sp S N W ind S.length) A6 W=true then .ret (Ao (GZ f.params.Al (I3 b.AE sp S N W ind S.length) A6 W))else .HB (Tr 6)):=by
 obtain⟨M,k2,q⟩:=h.all;have J:=eK U;have F : ∀c∈A6,c.D8=true/\c.cnt<=20000:=λc E=>by
  have:=G c E;simp only[AA.Ad,Ak,decide_eq_true_eq]at this;exact⟨this.1,by omega⟩
 have z:=h.XS;have:=ANl f (I3 b.AE sp S N W ind S.length) A6 W J.1 J.2 h.w1 h.w2 q (by rw[dX];omega) I (λc E=>(M c E).1) G (λc E=>(M c E).2) (λc E=>(Ze [c] (by simp only[AA.FU,(F c E).1,LW])).1) (by omega) (by
  match A6,I,F with
  | [],_,_=>simp[AA.Az]
  | [c],_,F=>have:=(F c (by simp)).2;simp only[AA.Az];omega) R
 rwa [dX]at this
def Ky (D:List Deferred)(a:Act):Act:=⟨a.tmps,a.defers++D⟩
theorem sI (D:List Deferred)(a:Act):(Ky D a).eval=a.eval:=funext λo=>by cases o<;>rfl
theorem VL (D:List Deferred)(a:Act)(d:Option Tmp)(v:Value):(Ky D a).put d v=Ky D (a.put d v):=by cases d<;>rfl
section
variable {P:Program} {D:List Deferred} {Q Q':Exit->Act->World->Prop}
theorem AJB (G : ∀e a w,Q' e a w->Q e (Ky D a) w){next E:Act->World->Prop}(F : ∀a w,E a w->next (Ky D a) w)(h:o.wp P a w E Q'):o.wp P (Ky D a) w next Q:=by
 unfold Er at h ⊢;rw[sI];generalize (execOp a.eval o).run P w=r at h ⊢;cases r with
 | ok x J =>
   cases x with
   | value v=>simp only[Nt]at h ⊢;rw[VL];exact F _ _ h
   | skip=>simp only[Nt]at h ⊢;rw[VL];exact F _ _ h
   | defer d=>simp only[Nt]at h ⊢;have:=F _ _ h;rw[<-VL]at this;exact this
   | enter f args =>
     simp only[Nt]at h ⊢;refine h.mono λe I h=>?_
     cases e with
     | returned v=>simp only at h ⊢;rw[VL];exact F _ _ h
     | panicked M=>exact G _ _ _ h
     | outgrown=>obtain⟨a,w,h⟩:=h;exact⟨_,w,G _ _ _ h⟩
   | row r args=>simp only[Nt]at h ⊢;exact h.mono λv I h=>by rw[VL];exact F _ _ h
   | _=>simp only[Nt]at h
 | halt x J =>
   cases x with
   | panic v=>simp only[Nt]at h ⊢;exact G _ _ _ h
   | _=>simp only[Nt]at h
theorem AEA (h:o.asks P a w):o.asks P (Ky D a) w:=by
 unfold Oper.asks at h ⊢;rw[sI];exact h
theorem AJC (E : ∀e a w,Q' e a w->Q e (Ky D a) w)(h:LetsOut Q'):LetsOut Q:=by
 obtain⟨a,w,h⟩:=h;exact⟨_,w,E _ _ _ h⟩
theorem AAb (E : ∀e a w,Q' e a w->Q e (Ky D a) w){ops:Array Oper} : ∀(l:List Oper) (a:Act) (w:World),wpList P ops Q' l a w->wpList P ops Q l (Ky D a) w
 | [],a,w,h=>E _ _ _ h
 | o::l,a,w,h=>by
   unfold wpList at h ⊢;split at h;rename_i F;rw[if_pos (by exact F)];exact h.imp (AJB E λa w=>AAb E l a w) λh=>⟨AEA h.1,AJC E h.2⟩
   rename_i F;rw[if_neg (by exact F),VL];exact AAb E l _ _ h
theorem oU (F : ∀e a w,Q' e a w->Q e (Ky D a) w){J:Region.Mode}{ops:Array Oper} : ∀(fuel:Nat) (E:Array Bool) (a:Act) (w:World),wpAny P J ops Q' fuel E a w->wpAny P J ops Q fuel E (Ky D a) w
 | 0,E,a,w,h=>⟨h.1,F _ _ _ h.2⟩
 | fuel+1,E,a,w,h=>by
   refine⟨λe=>F _ _ _ (h.1 e),λi M=>?_⟩;have h:=h.2 i M;unfold wpOp at h ⊢;cases I:ops[i]? with
   | none=>rw[I]at h;exact oU F fuel _ _ _ h
   | some o =>
     rw[I]at h;simp only at h ⊢;split at h;rename_i G;rw[if_pos (by exact G)];exact h.imp (AJB F λa w=>oU F fuel _ a w) λh=>⟨AEA h.1,AJC F h.2⟩
     rename_i G;rw[if_neg (by exact G),VL];exact oU F fuel _ _ _ h
end
def Cq (D:List Deferred)(n0:Nat)(P:Program)(c:Code)(K:Exit->St->Prop)(s:St):Prop:=
 ∀(S0:BF) (w0:Bs) (x:Cx) (a:Act) (w:World),w0.n0<=n0->Bo S0 w0 x s a w->c.wp P (λe a' w'=>∃a0 x s,a'=Ky D a0/\Bo S0 w0 x s a0 w'/\K e s) (Ky D a) w
section
variable {D:List Deferred} {n0:Nat} {P:Program} {K:Exit->St->Prop} {s:St}
theorem Cq.DA {id:Nat}(h:SW P ops K ops s):Cq D n0 P (.region id ops.toArray false) K s:=λS0 w0 x a w _ G =>
 wp_region_lit (AAb (λe a w ⟨x,s,E,F⟩=>⟨a,x,s,rfl,E,F⟩) _ _ _ (h S0 w0 x a w G))
theorem Cq.Lm {id:Nat}(q:P.follows .mixedOrders=true)(h:TW P ops (λes s'=>Lk ops (es.map Ef.ks)=true/\K .normal s') ops [] s):Cq D n0 P (.region id ops.toArray true) K s:=λS0 w0 x a w hn E=>by
 obtain⟨es,s',ht,F,M⟩:=h;have e:({ w with drawn:=w.drawn+1 }:World)=w.drew:=rfl;have G:Bo S0 w0 x s a w.drew:=by
  obtain⟨g,R⟩:=E.good.MF (x':=x) (w':=w.drew) (Ay.refl w).drew ⟨λ_ _ h=>h,λb j v _ F=>(Ay.refl w).drew.cell F⟩ rfl rfl (λb j h=>.inl h);exact⟨g,AO.mono R _ _ E.tm,E.df.mono (.FR (Ay.refl w).drew)⟩
 refine wp_region_any q ?_;rw[e];exact oU (Q':=λe a w=>∃x s,Bo S0 w0 x s a w/\K e s) (λe a w ⟨x,s,I,J⟩=>⟨a,x,s,rfl,I,J⟩) _ _ _ _ (pY (K:=K .normal) (Z:=λ_=>False) (n:=0) ht.z (by simpa using F) M (λx s a w h E=>⟨x,s,E,h⟩) (λ_ _ k _ U=>absurd U (UE k)) (λ_ _ _ _ _ h=>h.elim) G)
theorem Cq.seq {c d:Code}(h:Cq D n0 P c (NH (Cq D n0 P d K) K) s):Cq D n0 P (.seq c d) K s:=λS0 w0 x a w I M=>wp_seq (wp_mono (h S0 w0 x a w I M) λe a w ⟨E,x,s,J,F,G⟩=>by
 subst J;cases e with
 | normal=>exact G S0 w0 x E w I F
 | _=>exact⟨E,x,s,rfl,F,G⟩)
theorem Cq.n {E:St->Prop}(h:E s):NH E K .normal s:=h
theorem Cq.cond {c:Operand}{d G:Code}{b:Bool}(M:ev s.t c=.c (.bool b))(h:b=true->Cq D n0 P d K s)(J:b=false->Cq D n0 P G K s):Cq D n0 P (.cond c d G) K s:=λS0 w0 x a w I E=>by
 have F:=CW E.tm c;rw[M]at F;simp only[CV,Ab]at F;exact wp_cond_split (by rw[sI];exact F) (λe=>h e S0 w0 x a w I E) (λe=>J e S0 w0 x a w I E)
theorem Cq.skip (h:K .normal s):Cq D n0 P .skip K s:=λS0 w0 x a w F E=>wp_skip ⟨a,x,s,rfl,E,h⟩
theorem Cq.ret (h:K .ret s):Cq D n0 P .ret K s:=λS0 w0 x a w F E=>wp_ret ⟨a,x,s,rfl,E,h⟩
theorem Cq.le {c:Code}{s':St}(I:Le ⟨none,n0⟩ s s')(h:Cq D n0 P c K s'):Cq D n0 P c K s:=λS0 w0 x a w E G=>by
 obtain⟨J,F⟩:=I S0 w0 x a w E G;exact h S0 w0 J a w E F
end
theorem aC {x:Cx}{s:St}{ops:Array Oper}{Q:Exit->Act->World->Prop}{r:List Oper}{v:V}{t:Option (Nat×O)}(q:Bo S0 w0 x s ⟨a.tmps,[]⟩ w)(hg:o.guard=none)(h:BW P o a S0 w0 x w (λk=>s.h[k]?) v t)(ht : ∀k ob,t=some (k,ob)->k<=s.h.length)(k : ∀(x':Cx) (F:Act) (w':World),F.defers=a.defers->Bo S0 w0 x' (s.step o.dst v t) ⟨F.tmps,[]⟩ w'->wpList P ops Q r F w'):wpList P ops Q (o::r) a w:=by
 unfold wpList;rw[if_pos (by simp[FB,hg])];refine .inl ?_;obtain⟨nx,w',x',u,E,U,G,J,z,_⟩:=h;have R:Bo S0 w0 x' (s.step o.dst v t) ⟨(a.put o.dst u).tmps,[]⟩ w':=by
  have e:=Kj s.h t ht;rw[<-e]at J;have:=Bo.put (s:=s) (a:=⟨a.tmps,[]⟩) q.tm (Marks.nil w0 w') z J G o.dst;unfold St.step;cases M:o.dst with
  | none=>rw[M]at this;exact this
  | some d=>rw[M]at this;exact this
 have I:(a.put o.dst u).defers=a.defers:=by cases o.dst<;>rfl
 unfold Er;rw[E];rcases U with rfl|⟨rfl,rfl⟩
 exact k x' _ w' I R;exact k x' _ w' I R
theorem AAW {P:Program}{S0:BF}{w0:Bs}{x:Cx}{s:St}{fn:Func}{R:Ending->World->Prop}{D:List Deferred}{u:FrameMode}(hu:u≠.run){tmps:Array Value} : ∀(G:List Nat) (w:World),G.Nodup->(∀D∈G,¬w0.F D/\w.heap[D]?=some (.deferred (some [])))->Good S0 w0 x w (λk=>s.h[k]?)->AO x w s.t tmps.toList->
 (∀w',Good S0 w0 x w' (λk=>s.h[k]?)->AO x w' s.t tmps.toList->LeavesInM Cg 0 P fn tmps R D u w')->LeavesInM Cg 0 P fn tmps R ((G.map λD=>{ target:=.collected D,args:=#[] })++D) u w
 | [],w,_,_,g,U,I=>I w g U
 | E::G,w,J,hD,g,U,I=>by
   obtain⟨h1,h2⟩:=hD E (by simp);have hg:w.grownBy (w.putObj E (.deferred none)) (some E):=grownBy_putObj' w E _;obtain⟨g',he⟩:=g.grown hg λr e=>by cases e;exact⟨h1,_,h2,rfl⟩
   rw[List.nodup_cons]at J;refine⟨hu,.inl ⟨E,_,rfl,run_takeDeferred h2,AAW hu G _ J.2 (λq z=>?_) g' (AO.mono he _ _ U) I⟩⟩;obtain⟨k1,k2⟩:=hD q (by simp[z]);have M:q≠E:=λe=>J.1 (by rw[<-e];exact z)
   exact⟨k1,by rw[World.putObj_heap_other M];exact k2⟩
theorem AEe {f:FuncId}{c:Code}{args:Array Value}{u:FrameMode}{R:Ending->FrameMode->World->Prop}{n:Nat}(q:P.funcs[f]?=some fn)(hb:fn.body=some c)(h : ∀(J:Frame) (cs:List Frame),J.mode=u->c.wpS P (bodyPostS P fn J cs R) { tmps:=args++M4 (fn.ntmps - args.size) undef,defers:=[] } (J::cs) w):CallsDIn Cg n P f args u w R:=by
 refine⟨trivial,λJ cs hu _=>?_⟩;let b:Frame:={ (default:Frame)with fn:=f,kind:=.deferred }
 have A0:Frame.enter P f args .deferred=b.at { tmps:=args++M4 (fn.ntmps - args.size) undef,defers:=[] } [.code c]:=by
  simp[Frame.enter,Frame.at,q,hb,b]
 obtain⟨e,a',A1,z,G,I⟩:=h J cs hu b [] rfl rfl;rw[<-A0]at I;cases e with
 | normal=>obtain⟨M,F,rfl,v,hr,E⟩:=G;exact⟨.returned v,F,z,_,E,comesIn_wide.2 (Steps.trans I (.one step_end)),rfl,rfl,rfl,M,fn,q,hr⟩
 | ret=>obtain⟨M,F,rfl,v,hr,E⟩:=G;obtain⟨U,hs⟩:=I;exact⟨.returned v,F,z,_,E,comesIn_wide.2 hs,rfl,rfl,rfl,M,fn,q,hr⟩
 | panic chain=>obtain⟨M,F,rfl,E⟩:=G;obtain⟨U,hs⟩:=I;exact⟨.panicked chain,F,z,_,E,comesIn_wide.2 hs,rfl,rfl,rfl,M,fn,q⟩
 | exit id=>exact G.elim
 | goto l=>exact G.elim
 | outgrown=>obtain⟨F,E⟩:=G;exact⟨.outgrown,F,z,b,E,comesIn_wide.2 (I.resolve_left (by simp[b])),rfl,rfl,trivial⟩
theorem AUU (p q:Addr)(w:World)(n:Nat):CallsDIn Cg n AF 30 #[.pointer (some p),.pointer (some q)] .returning w λe F w'=>e=.returned (.tuple #[])/\F=.returning/\w'=w:=by
 refine AEe func30 rfl λE cs hu=>?_
 apply wpS_seq;apply wpS_region;simp[wpOpsS,go_sem,recoverD,hu,ntmps30,uF];refine wpS_of_wp ?_;cases E;go_wp2;simp_all [bodyPostS,results,results30]
theorem AUV (g0 g1:Nat)(hne:g0≠g1)(e:Int)(cs0:Array Value)(w:World)(n:Nat)(b0:Cb w g0 41 cs0)(I:cs0.size=11)(b1:Cb w g1 42 #[.int .i64 0]) :
 CallsDIn Cg n AF 30 #[.pointer (some ⟨g0,0,none⟩),.pointer (some ⟨g1,0,none⟩)] (.panicking [⟨.iface 42 (.int .i64 e),false,false⟩]) w λr M w'=>r=.returned (.tuple #[])/\M=.panicking [⟨.iface 42 (.int .i64 e),true,false⟩]/\w'=(w.setRow g0 DZ).setRow g1 #[.int .i64 e]:=by
 refine AEe func30 rfl λG cs hu=>?_
 apply wpS_seq;apply wpS_region;simp[wpOpsS,go_sem,recoverD,hu,ntmps30,uF];refine wpS_of_wp ?_;have hz:(zeroValue 41).run AF w=.ok (.agg DZ) w:=by kernel_rfl
 have E:=Lib.hid b0;have F:=Lib.hid b1;have R:=ALT e w;have J:ND AF 41 DZ.size:=X2;have c1:(w.setRow g0 DZ).cell? ⟨g1,0,none⟩=some (.int .i64 0):=(Cb.far b1 DZ (g:=g0) (by omega)).cell 0;have d1:=(Cb.far b1 DZ (g:=g0) (by omega)).frozen 0;clear b0 b1;cases G;change Code.wp _ _ _ { tmps:=#[.pointer (some ⟨g0,0,none⟩),.pointer (some ⟨g1,0,none⟩),undef,undef,undef,.iface 42 (.int .i64 e),undef,undef,undef,undef,undef,undef,undef],defers:=[] } w;go_wp2_with (((with_reducible refine ll (ty:=41) (g0) (DZ) ?_ ?_ ?_ ?_ ?_ ?_ ?_);(focus rfl);(focus rfl);(focus exact⟨_,_,E.out,Eq.symm (I.symm)⟩);(focus exact AMH);(focus exact J);(focus rfl)))
 have hs1:(w.setRow g0 DZ).setCell ⟨g1,0,none⟩ (.int .i64 e)=(w.setRow g0 DZ).setRow g1 #[.int .i64 e]:=by
  rw[setCell_eq_setRow _ _ 0 #[.int .i64 0] 42 (0,0) _ (Cb.far F.out DZ (g:=g0) (by omega))];rfl
 exact⟨rfl,_,rfl,.tuple #[],by simp[results,results30],rfl,rfl,hs1⟩
theorem ATg (s:Aa)(src:List Int)(n:Nd):(∃e:Int,(e≠0/\0<=e/\e<=9)/\Wy x s src n=.A7 [Ao AA.zero,AR e])\/(∃b,Fw x s src n=some b/\Wy x s src n=.A7 [Ao b,AR 0]):=by
 unfold Wy O1;split;exact .inl ⟨1,by decide,rfl⟩;split;exact .inl ⟨2,by decide,rfl⟩;cases E:Fw x s src n with
 | none=>exact .inl ⟨6,by decide,rfl⟩
 | some b=>exact .inr ⟨b,rfl,rfl⟩
def OR (s:ByteArray):Nd:=⟨4,(⟨#[40]⟩:ByteArray)++s++⟨#[41]⟩,0,[]⟩
def XE (b:AA)(W:Int):AA:=(b.mark 0 []).AS (mx 0 (W - b.w)) 0
theorem AUe {W:Int}(h:b.Ad=true)(E:1<=W)(F:W<=10000000)(G:0<=b.w):(XE b W).Ad=true:=by
 unfold XE;rw[bF (AAe h rfl rfl).1,DU];simp only[An,Ak,decide_eq_true_eq];omega
theorem AUm (W:Int)(hf:x.f.Fit)(hl:x.d.length<=300)(z : ∀e∈x.d,e.text.size<=maxLen)(hs:s.size<=1000)(h1:1<=W)(h2:W<=10000000):
 (∃e:Int,PC AF 34 [.agg x.f.vs,.c (Cc x.d),.c (.str s),.c (.int .i64 W)] (Tr e)/\(e≠0/\0<=e/\e<=9)/\Wy x ⟨0,false⟩ [0] (OR s)=.A7 [Ao AA.zero,AR e])\/
 (∃b,Fw x ⟨0,false⟩ [0] (OR s)=some b/\((-1073741824<=b.w/\b.w<=1073741824)->AC AF 34 [.agg x.f.vs,.c (Cc x.d),.c (.str s),.c (.int .i64 W)] (Ao (XE b W)))):=by
 have hn:(OR s).BX:=by
  have e1:(⟨#[40]⟩:ByteArray).size=1:=rfl;have e2:(⟨#[41]⟩:ByteArray).size=1:=rfl;refine⟨?_,CI _,trivial⟩;rw[fe,fe];unfold maxLen;omega
 have e1:(⟨#[40]⟩:ByteArray).size=1:=rfl;have e2:(⟨#[41]⟩:ByteArray).size=1:=rfl;have f1:(⟨#[40]⟩:ByteArray).size+s.size<=maxLen:=by unfold maxLen;omega
 have f2:((⟨#[40]⟩:ByteArray)++s).size+(⟨#[41]⟩:ByteArray).size<=maxLen:=by rw[fe];unfold maxLen;omega
 have f3:1+s.size<=maxLen:=by unfold maxLen;omega
 have f4:1+s.size+1<=maxLen:=by unfold maxLen;omega
 have h:=AUM x (OR s) [0] ⟨0,false⟩ hf hl z hn (by show (1:Nat)+0<=80;omega) (by decide);rcases ATg x ⟨0,false⟩ [0] (OR s)with ⟨e,U,J⟩|⟨b,hb,J⟩
 . rw[J]at h;left;refine⟨e,?_,U,J⟩;have E:=AFC AA.zero e U.1;unfold OR Am Nd.vs Aj AR AV at h;unfold AR at E;simp only[Nd.row,Nd.AG,Ap,BB,As]at h E;refine PC.intro func34 rfl ?_;simp only[ntmps34,Ap,BB,BA,BO,Nat.reduceAdd,Nat.reduceSub,BY,Cy,BK,BU];refine wu (.mk 2) (cj4 @f1 @f2 @f3 @f4 vV) trivial ⟨?_⟩;refine AW.DA ?_;refine SW.take 8 (AH.out ?_);simp only[DP,ET];have F:=(vV)
   repeat any_goals (first|refine Eo ?_|exact Bt F|refine De F ?_|refine BV F (h) ?_|refine DI F ?_)
   simp only[CU,B9];refine SW.wa (args:=[.agg AA.zero.vs,.c (.int .i64 e)]) (HC.AAo E (by kernel_rfl) rfl _) (by simp[BQ]) (by simp[C7,ev]) ?_;exact rfl
 rw[J]at h;right;refine⟨b,hb,λhw=>?_⟩;have I:=xL b;have G:=OZ b 0 [] (by decide);obtain⟨p,E⟩:=AI (mx 0 (W - b.w));have M:=Gu (b.mark 0 []) p 0 (CI _);have R:AZ.wrap (W - b.w)=W - b.w:=Ac;unfold XE;rw[E];unfold mx at E;obtain⟨b0,b1,b2,b3,b4,b5,b6,b7,b8,b9,Oz⟩:=b;unfold OR Am Nd.vs Aj AR AV at h;unfold AR at I;unfold AV at G;simp only[Nd.row,Nd.AG,Ap,BB,Ao,AA.row,AA.mark,AA.AS]at h I G M R E ⊢;by_cases q:b3<W;rw[if_pos (by omega)]at E;subst E;refine en func34 ntmps34 ?_;exact wz (cj6 @f1 @f2 @f3 @f4 @R @q vV) (cj4 h I G M trivial);rw[if_neg (by omega)]at E;subst E;refine en func34 ntmps34 ?_;exact wz (cj6 @f1 @f2 @f3 @f4 @R @q vV) (cj4 h I G M trivial)
theorem AbB (S:BF)(W:World)(e:Int)(E:(I9 .i64 e).wf=true):CV (Cx.bare S) W (.A7 [Ao AA.zero,AR e]) (.tuple #[.agg DZ,.int .i64 e]):=by
 simp only[Ao,AR,AA.zero,AA.row,AA.AG,AV,Ap,BB,CV,AO];refine⟨_,rfl,_,_,rfl,⟨_,rfl,?_⟩,_,_,rfl,(by unfold Ab;exact⟨rfl,E⟩),rfl⟩;refine⟨_,_,rfl,(by unfold Ab;exact⟨rfl,by decide +kernel⟩),_,_,rfl,(by unfold Ab;exact⟨rfl,by decide +kernel⟩),?_⟩;iterate 6 refine⟨_,_,rfl,(by unfold Ab;exact⟨rfl,by decide +kernel⟩),?_⟩
 refine⟨_,_,rfl,?_,_,_,rfl,(by unfold Ab;exact⟨rfl,by decide +kernel⟩),_,_,rfl,?_,rfl⟩;all_goals
  unfold Ab;exact⟨none,0,rfl,BN _,CI _,λh=>absurd rfl h⟩
def AM4 (S:BF)(w:World)(res:V)(r:Ending)(w':World):Prop:=∃(u:Value) (S':BF),r=.returned u/\Ay w w'/\Ar S S' w w'/\(∀b j,S' b j->S b j\/(w.heap.size<=b/\b<w'.heap.size))/\CV (Cx.bare S') w' res u
def vp (bx:AA)(er:Int)(e:Exit)(s:St):Prop:=
 (e=.ret/\∃v,GJ AF s gF.results.toList=some v/\V.CP v=some (.A7 [Ao bx,AR er]))\/
 (e=.panic (Tr er)/\bx=AA.zero/\(I9 .i64 er).wf=true/\∃cs,s.h[2]?=some (.box 41 cs false)/\cs.length=11/\s.h[3]?=some (.box 42 [.c (.int .i64 0)] false)/\s.t[10]?=some (.ptr 2 0)/\s.t[11]?=some (.ptr 3 0))
theorem AUR {S:BF}{E:Cx}{w4:World}{H4:Bx}(g4:Good S (Bs.of w) E w4 H4)(Ux : ∀k,E.dom k->k<4)(d2:E.dom 2)(d3:E.dom 3)(t2:(E.loc 2).tok=false)(t3:(E.loc 3).tok=false){z:Cx}{q:St}{I:Act}{R:World}(hA:Bo E.S ((Bs.of w).Zr w4 g4.keep.size E 4 Ux) z q I R){e:Exit}(hK:vp bx er e q):
 bodyPostM Cg 0 AF gF (AM4 S w (.A7 [Ao bx,AR er])) e (Ky [{ target:=.fn (.func 30) #[.pointer (some ⟨(E.loc 2).b,0,none⟩),.pointer (some ⟨(E.loc 3).b,0,none⟩)],args:=#[] }] I) R:=by
 obtain⟨Ds,e1,e2,e3⟩:=hA.df;rcases hK with ⟨rfl,v,hr,hv⟩|⟨rfl,rfl,hw,cs,h2,hl,h3,p2,p3⟩
 . show LeavesInM Cg 0 AF _ I.tmps _ (I.defers++_) .returning R;rw[e1];refine AAW (s:=q) (by simp) Ds R e2 e3 hA.good hA.tm λG g6 U=>?_
   refine⟨by simp,.inr ⟨λh=>by simp[Cg]at h,_,_,30,#[.pointer (some ⟨(E.loc 2).b,0,none⟩),.pointer (some ⟨(E.loc 3).b,0,none⟩)],rfl,by simp[go_sem],λg hg=>trivial,?_⟩⟩;refine(AUU _ _ G _).mono ?_;rintro r u' w' ⟨rfl,rfl,rfl⟩;obtain⟨⟨F,_⟩,_⟩:=g4.Z5 g6;obtain⟨u,h1,h2⟩:=AD8 (a:=⟨I.tmps,[]⟩) (fn:=gF) ⟨F,U,Marks.nil _ _⟩ hr;exact⟨u,h1,u,z.S,rfl,F.keep.all,⟨F.sub,λb j v _ hc=>F.keep.all.cell hc⟩,λb j h=>by
    rcases F.new b j h with h'|h'
    exact .inl h';exact .inr ⟨Hq h',F.ex b j h⟩,SL _ _ _ hv h2⟩
 . show LeavesInM Cg 0 AF _ I.tmps _ (I.defers++_) (.panicking (Tr er)) R;rw[e1];refine AAW (s:=q) (by simp) Ds R e2 e3 hA.good hA.tm λG g6 U=>?_
   refine⟨by simp,.inr ⟨λh=>by simp[Cg]at h,_,_,30,#[.pointer (some ⟨(E.loc 2).b,0,none⟩),.pointer (some ⟨(E.loc 3).b,0,none⟩)],rfl,by simp[go_sem],λg hg=>trivial,?_⟩⟩;obtain⟨⟨F,_⟩,hx⟩:=g4.Z5 g6;have l2:z.loc 2=E.loc 2:=by
    obtain⟨_,h|⟨h,_⟩⟩:=hx.loc 2 d2;exact h.symm;rw[t2]at h;cases h
   have l3:z.loc 3=E.loc 3:=by
    obtain⟨_,h|⟨h,_⟩⟩:=hx.loc 3 d3;exact h.symm;rw[t3]at h;cases h
   obtain⟨_,_,a2,y6,J,a4,A0⟩:=F.ok 2 _ h2;obtain⟨_,_,c2,A2,M,c4,c5⟩:=F.ok 3 _ h3;have hne:=F.inj 2 3 _ _ h2 h3 (by decide) a2 c2;have o2:=F.own 2 _ h2 a2;have o3:=F.own 3 _ h3 c2;have IN:y6.size=11:=by have:=A0.len;simpa [hl]using this
   simp only[AO,CV,Ab]at c5;obtain⟨u3,r3,e4,⟨rfl,_⟩,rfl⟩:=c5;have A1:A2=#[.int .i64 0]:=by apply Gx.1;rw[e4]
   subst A1;rw[l2]at J hne o2;rw[l3]at M hne o3;obtain⟨g0,Wc⟩:=AI ((E.loc 2).b);obtain⟨g1,Lt⟩:=AI ((E.loc 3).b);have q2:=CW U (.tmp 10);have q3:=CW U (.tmp 11);simp only[ev,Bv,p2,p3,Dm,CV,l2,l3]at q2 q3;rw[Wc,Lt]at hne ⊢;rw[Wc]at J o2 q2;rw[Lt]at M o3 q3;refine(AUV g0 g1 hne er y6 G _ J IN M).mono ?_;rintro r u' w' ⟨rfl,rfl,rfl⟩;have Me:ND AF 41 DZ.size:=X2;have J:Cb G g0 41 y6:=J;have M:Cb G g1 42 #[.int .i64 0]:=M;have NO:Cb ((G.setRow g0 DZ).setRow g1 #[.int .i64 er]) g0 41 DZ:=Cb.far (J.Tz DZ) _ (by omega);have G5:Cb ((G.setRow g0 DZ).setRow g1 #[.int .i64 er]) g1 42 #[.int .i64 er]:=(Cb.far M DZ (g:=g0) (by omega)).Tz _;obtain⟨W,hW⟩:=AI ((G.setRow g0 DZ).setRow g1 #[.int .i64 er]);have hkb:KB (λb=>b=g0\/b=g1) G W:=by
    rw[<-hW];refine⟨rfl,rfl,rfl,by simp,λk _ hn=>?_⟩;rw[setRow_other _ _ _ _ (λe=>hn (.inr e)),setRow_other _ _ _ _ (λe=>hn (.inl e))]
   rw[hW]at NO G5 ⊢;have Lu:(loadVar 41 ⟨g0,0,none⟩).run AF W=.ok (.agg DZ) W:=lI NO.row Me;have FO:(loadVar 42 ⟨g1,0,none⟩).run AF W=.ok (.int .i64 er) W:=by
    have:(isAgg 42).run AF W=.ok false W:=by kernel_rfl
    simp[loadVar,this,load,Sem.run,G5.cell]
   have U2:Ay w W:=hkb.after (w:=w) F.keep.all λk e=>by
    rcases e with rfl|rfl
    exact Hq o2;exact Hq o3
   have r2:=q2.2.2;have r3:=q3.2.2;simp only[Act.eval,Kl]at r2 r3;refine⟨.tuple #[.agg DZ,.int .i64 er],?_,_,S,rfl,U2,⟨λ_ _ h=>h,λb j v _ hc=>U2.cell hc⟩,λb j h=>.inl h,AbB S W er hw⟩;simp[results,IE,asAddr,r2,r3,Lu,FO]
def kb (f:AP)(DC:C)(n:Nd)(W:Int)(sn:ByteArray):St:=
 ⟨[.agg f.vs,.c DC,Am n,.c (.int .i64 W),.c (.str sn),.ptr 0 0,.any,.ptr 1 0,.any,.any,.ptr 2 0,.ptr 3 0,.any,.any,.fn 30 [.ptr 2 0,.ptr 3 0]]++Aq 43 .any,[.box 27 f.vs false,.box 33 n.vs false,.box 41 BT false,.box 42 [.c (.int .i64 0)] false]⟩
theorem rn (f:AP)(DC:C)(n:Nd)(W:Int)(sn:ByteArray){c:Code}{U q o3 o4 o5 J:Oper}{i0 i1:Nat}(hb:gF.body=some (.seq (.region i0 #[U,q,o3,o4] false) (.seq (.region i1 #[o5,J] false) c)))(h1:U.op=.box 27 (.tmp 0)/\U.dst=some 5/\U.guard=none)(h2:q.op=.box 33 (.tmp 2)/\q.dst=some 7/\q.guard=none)(h3:o3.op=.alloc 41/\o3.dst=some 10/\o3.guard=none)(h4:o4.op=.alloc 42/\o4.dst=some 11/\o4.guard=none)(h5:o5.op=.makeFunc (.func 30) #[] #[.tmp 10,.tmp 11]/\o5.dst=some 14/\o5.guard=none)(h6:J.op=.defer ⟨.value (.tmp 14),#[],#[]⟩/\J.dst=none/\J.guard=none)(h : ∀D,Cq D 4 AF c (vp bx er) (kb f DC n W sn)):AC AF 12 [.agg f.vs,.c DC,Am n,.c (.int .i64 W),.c (.str sn)] (.A7 [Ao bx,AR er]):=by
 intro S w us hS B7;refine callsIn_wide.1 (callsIn_of_wp_marks (F:=Cg) (n:=0) func12 hb trivial (wpIn_wide.2 ?_));have E:=wF (n:=gF.ntmps) hS B7;refine wp_seq ?_;refine wp_region_lit ?_;have hn:gF.ntmps=58:=ntmps12;rw[hn]at E ⊢;obtain⟨kd,t,c',AE⟩:=n;simp only[BA,BO,Nat.reduceAdd,Nat.reduceSub,BY,Cy,BK,BU]at E;refine aC E h1.2.2 (AAr E.good h1.1 (CW E.tm _) rfl _ E.fresh) (λk ob e=>by cases e;exact BN _) λx1 a1 w1 PH E=>?_
 simp only[h1.2.1,St.step,St.put,Bk,BA,BO,Cp,Nat.reduceAdd,Nat.reduceLT,IY,if_false,Ag,Ai,BK,BU,ev,On,Om]at E;refine aC E h2.2.2 (AAr E.good h2.1 (CW E.tm _) rfl _ E.fresh) (λk ob e=>by cases e;exact BN _) λx2 a2 w2 QL E=>?_
 simp only[h2.2.1,St.step,St.put,Bk,BA,BO,Cp,Nat.reduceAdd,Nat.reduceLT,IY,if_false,Ag,Ai,BK,BU,ev,On,Om]at E;refine aC E h3.2.2 (AAq E.good h3.1 (z:=BT) (by simp[BT]) _ E.fresh) (λk ob e=>by cases e;exact BN _) λx3 a3 w3 cZ E=>?_
 simp only[h3.2.1,St.step,St.put,Bk,BA,BO,Cp,Nat.reduceAdd,Nat.reduceLT,IY,if_false,Ag,Ai,BK,BU,ev,On,Om]at E;refine aC E h4.2.2 (AAq E.good h4.1 (z:=[.c (.int .i64 0)]) (by simp) _ E.fresh) (λk ob e=>by cases e;exact BN _) λx4 a4 w4 Ux E=>?_
 simp only[h4.2.1,St.step,St.put,Bk,BA,BO,Cp,Nat.reduceAdd,Nat.reduceLT,IY,if_false,Ag,Ai,BK,BU,ev,On,Om]at E;refine wpList_nil ?_;refine wp_seq ?_;refine wp_region_lit ?_;refine aC (v:=.fn 30 [.ptr 2 0,.ptr 3 0]) (t:=none) E h5.2.2 (BW.pure E.good (u:=.func (.func 30) #[] #[a4.eval (.tmp 10),a4.eval (.tmp 11)]) (by simp[execOp,h5.1,Instr.makeFunc]) (by
  simp only[CV,AO];have q2:=CW E.tm (.tmp 10);have q3:=CW E.tm (.tmp 11);simp only[ev,On,Om,CV]at q2 q3;exact⟨_,rfl,_,_,rfl,q2,_,_,rfl,q3,rfl⟩)) (λk ob e=>by cases e) λG M w5 zC E=>?_
 simp only[h5.2.1,St.step,St.put,Bk,BA,BO,Cp,Nat.reduceAdd,Nat.reduceLT,IY,if_false,Ag,Ai,BK,BU,ev,On,Om]at E;have Fu:M.defers=[]:=by rw[zC,Ux,cZ,QL,PH]
 have R:=E.good;have hf:=CW E.tm (.tmp 14);simp only[ev,On,Om,CV,AO]at hf;obtain⟨vs,FG,p2,r2,e2,⟨m2,k2,rfl⟩,p3,r3,rfl,⟨m3,k3,rfl⟩,rfl⟩:=hf;have Ml:vs=#[.pointer (some ⟨(G.loc 2).b,0,none⟩),.pointer (some ⟨(G.loc 3).b,0,none⟩)]:=by apply Gx.1;rw[e2]
 subst Ml;have zD : ∀k,G.dom k->k<4:=λk hk=>by obtain⟨o,ho⟩:=R.dom k hk;exact(Br.1 ho).1
 unfold wpList;rw[if_pos (by simp[FB,h6.2.2])];refine .inl ?_;have I:(execOp M.eval J).run AF w5=.ok (.defer { target:=.fn (.func 30) #[.pointer (some ⟨(G.loc 2).b,0,none⟩),.pointer (some ⟨(G.loc 3).b,0,none⟩)],args:=#[] }) w5:=by
  have FG:M.eval (.tmp 14)=_:=FG;simp[execOp,h6.1,resolve,FG,M5]
 unfold Er;rw[I,Oper.upon_defer,h6.2.1,Fu];refine wpList_nil ?_;have:=h [{ target:=.fn (.func 30) #[.pointer (some ⟨(G.loc 2).b,0,none⟩),.pointer (some ⟨(G.loc 3).b,0,none⟩)],args:=#[] }] G.S ((Bs.of w).Zr w5 R.keep.size G 4 zD) G ⟨M.tmps,[]⟩ w5 (BN _) ⟨R.sY 4 zD,E.tm,Marks.nil _ _⟩;refine wp_mono this ?_;rintro e _ w6 ⟨a6,x6,s6,rfl,YQ,hK⟩;exact AUR R zD m2 m3 k2 k3 YQ hK
theorem ABK {x:Cx}{W:World}{t:TypeId}{y:Operand}(ho:o.op=.load t y){q:Bool×Nat}(hq:B6 P t=some q){k off:Nat}{cs:List V}{M:Bool}(J:Ld x W k (.box ty cs M))(E:CV x W (.ptr k off) (a.eval y)){v:V}(h:CJ q cs off=some v):∃u F,(execOp a.eval o).run P W=.ok (.value u) F/\CV x F v u/\Ay W F:=by
 obtain⟨_,_,vs,z,hn,G⟩:=J;simp only[CV]at E;obtain⟨_,_,E⟩:=E;obtain⟨u,I,hv⟩:=dY (x:=x) (w:=W) (b:=(x.loc k).b) (o:=0) hq (λj v hj=>by
  obtain⟨u,R,U⟩:=G.get j v hj;refine⟨u,?_,U⟩;rw[Cz,cell_of_row W _ j vs ty (0,0) z];simpa using R) h
 rw[Cz]at I;exact⟨u,W,by simp[execOp,ho,Instr.loadAt,E,Instr.sureAddr,I],hv,Ay.refl W⟩
def AB6 (x:Cx)(k:Nat):Cx:={ dom:=λi=>i=0,loc:=λ_=>x.loc k,S:=x.S }
theorem Good.AZq {S:BF}{w W R:World}{x:Cx}(U:Ay w W)(hS : ∀b j,S b j->b<w.heap.size)(g:Good S (Bs.of W) x R H){es E:Nat}(h:H k=some (.tok ty es E)):Good S (Bs.of w) (AB6 x k) R (λi=>[O.tok ty es E][i]?):=by
 have G : ∀i o,[O.tok ty es E][i]?=some o->i=0/\o=.tok ty es E:=λi o h=>by
  cases i with
  | zero=>simp at h;exact⟨rfl,h.symm⟩
  | succ i=>simp at h
 have I:=U.size;have ho:=g.ok k _ h;refine⟨λi o F=>?_,λi F=>?_,λi j o o' F hj M=>?_,λi o j F hx=>?_,g.ex,λi o F hv J=>?_,λb j z=>?_,g.sub,KB.FR (U.trans g.keep.all),Ext.none _ _ _⟩;obtain⟨rfl,rfl⟩:=G i o F;exact⟨rfl,ho.2⟩;obtain rfl:i=0:=F;exact⟨_,rfl⟩;exact absurd ((G i o F).1.trans (G j o' hj).1.symm) M;obtain⟨rfl,rfl⟩:=G i o F;exact g.EA k _ j h hx;obtain⟨rfl,rfl⟩:=G i o F;have:(x.loc k).b<w.heap.size:=J;have q:=g.own k _ h hv;exact q (H7 this I);rcases g.new b j z with h|h
 exact .inl h;exact .inr λJ=>h (H7 J I)
def pG (S:BF)(w:World)(ty:TypeId)(cur:Nat)(AG:List (List C)):Post:=λu W=>∃x,Good S (Bs.of w) x W (λi=>[O.tok ty 11 cur][i]?)/\CV x W (.gr 0 11 AG) u
theorem AVo (S:BF)(w:World)(ty:TypeId)(E:Nat)(AG:List (List C)):Vu Ay (pG S w ty E AG):=λu W M F ⟨x,g,h⟩=>by
 obtain⟨G,J⟩:=g.MF (x':=x) F ⟨λ_ _ h=>h,λb j v _ I=>F.cell I⟩ rfl rfl (λb j h=>.inl h);exact⟨x,G,CV.mono J _ _ h⟩
theorem sL {d:Tmp}(h:d<a.tmps.size):(a.put (some d) v).eval (.tmp d)=v:=by
 show (a.tmps.setIfInBounds d v).getD d undef=v;rw[Kl,Array.getElem?_setIfInBounds_self_of_lt h];rfl
theorem SN {d t:Tmp}(h:d≠t):(a.put (some d) v).eval (.tmp t)=a.eval (.tmp t):=by
 show (a.tmps.setIfInBounds d v).getD t undef=a.tmps.getD t undef;rw[Kl,Array.getElem?_setIfInBounds_ne h,Kl]
theorem oa {d:Tmp}:(a.put (some d) v).tmps.size=a.tmps.size:=Array.size_setIfInBounds
theorem VM {y:Cx}{Y:World}{t:List V}(h:AO y Y t a.tmps.toList)(d:Tmp)(v:Value):AO y Y (t.set d .any) (a.put (some d) v).tmps.toList:=by
 show AO y Y _ (a.tmps.setIfInBounds d v).toList;rw[Va];exact h.set d (by simp only[CV])
theorem AXJ {d:Tmp}:(a.put (some d) v).defers=a.defers:=rfl
theorem AEc {f:FuncId}{args:Array Operand}{J:Array TypeId}(ho:o.op=.call ⟨.value (.func f),args,J⟩)(F:Fp P f=true):(execOp a.eval o).run P w=.ok (.enter f (args.map a.eval)) w:=by
 obtain⟨fn,R,E,U⟩:=P7 F;have G:fn.body≠none:=by intro e;rw[e]at E;cases E
 have I:fn.name≠ "runtime.NumGoroutine":=by simpa using U
 have M:a.eval (.func f)=.func (.func f) #[] #[]:=rfl;simp[execOp,ho,resolve,M,M5,invoke,callFunc,program,Sem.run,R,I,G]
theorem AIS {D:List Deferred}{f:AP}{DC:C}{n:Nd}{W:Int}{m:Nat}{AG:List (List C)}{ok:Bool}(Ct:Ss AF 36 [.agg f.vs,.c DC,Am n,.c (.int .i64 W),.c SC] 41 11 m (λk=>.gr k 11 AG))(TM:HX AF 35 [.agg f.vs,.gr 0 11 AG,.c (.sl (AA.AG A6)),.c (.int .i64 W)] [.tok 41 11 m] (λout=>out=if ok=true then .ret (Ao B)else .HB (Tr 6))){s:St}{D1:V}(hl:s.t.length=58)(h0:s.h[0]?=some (.box 27 f.vs false))(h1:s.h[1]?=some (.box 33 n.vs false)){O3:List V}(h2:s.h[2]?=some (.box 41 O3 false))(N9:O3.length=11)(h3:s.h[3]?=some (.box 42 [.c (.int .i64 0)] false))(s5:s.t[5]?=some (.ptr 0 0))(s7:s.t[7]?=some (.ptr 1 0))(s1:s.t[1]?=some (.c DC))(s3:s.t[3]?=some (.c (.int .i64 W)))(H4:s.t[12]?=some (.c SC))(H5:s.t[13]?=some D1)(D7:V.CP D1=some (.c (.sl (AA.AG A6))))(H1:s.t[10]?=some (.ptr 2 0))(H3:s.t[11]?=some (.ptr 3 0)){id:Nat}{p0 p1 p2 p3 p4 p5 p6 p7 p8 p9 Zi dt:Oper}(D2:(Oa [p0,p1,p2,p3,p4,p5,p6,p7,p8,p9,Zi,dt] 0 9 && lN [p0,p1,p2,p3,p4,p5,p6,p7,p8,p9,Zi,dt] 9 12)=true)(U:p0.op=.load 27 (.tmp 5)/\p0.dst=some 48/\p0.guard=none)(e1:p1.op=.load 27 (.tmp 5)/\p1.dst=some 49/\p1.guard=none)(e2:p2.op=.move (.tmp 1)/\p2.dst=some 50/\p2.guard=none)(e3:p3.op=.load 33 (.tmp 7)/\p3.dst=some 51/\p3.guard=none)(e4:p4.op=.move (.tmp 3)/\p4.dst=some 52/\p4.guard=none)(e5:p5.op=.move (.tmp 12)/\p5.dst=some 53/\p5.guard=none){I2 I5:Array TypeId}(J:p6.op=.call ⟨.value (.func 36),#[.tmp 49,.tmp 50,.tmp 51,.tmp 52,.tmp 53],I2⟩/\p6.dst=some 54/\p6.guard=none)(e7:p7.op=.move (.tmp 13)/\p7.dst=some 55/\p7.guard=none)(e8:p8.op=.move (.tmp 3)/\p8.dst=some 56/\p8.guard=none)(e9:p9.op=.call ⟨.value (.func 35),#[.tmp 48,.tmp 54,.tmp 55,.tmp 56],I5⟩/\p9.dst=some 57/\p9.guard=none)(QA:Zi.op=.store 41 (.tmp 10) (.tmp 57)/\Zi.dst=none/\Zi.guard=none)(QB:dt.op=.store 42 (.tmp 11) (.const (.int .i64 0))/\dt.dst=none/\dt.guard=none):
 Cq D 4 AF (.seq (.region id #[p0,p1,p2,p3,p4,p5,p6,p7,p8,p9,Zi,dt] true) .ret) (vp (if ok=true then B else AA.zero) (if ok=true then 0 else 6)) s:=by
 refine Cq.seq λS0 w0 x a w hn hA=>?_
 have A0:a.tmps.size=58:=by have:=hA.tm.len;simpa [hl]using this
 refine ABW (K:=Ay) 9 Fz D2 (by simp[U.2.1,e1.2.1,e2.2.1,e3.2.1,e4.2.1,e5.2.1,J.2.1,e7.2.1,e8.2.1,Ky,A0]) λw1 FJ=>?_
 simp only[DP,ET];have hx : ∀W,Ay w1 W->Good S0 w0 x W (λk=>s.h[k]?)/\AO x W s.t a.tmps.toList:=λW hk=>by
  obtain⟨g,he⟩:=hA.good.MF (x':=x) (FJ.trans hk) ⟨λ_ _ h=>h,λb j v _ hc=>(FJ.trans hk).cell hc⟩ rfl rfl (λb j h=>.inl h);exact⟨g,AO.mono he _ _ hA.tm⟩
 have hg : ∀(W:World),Ay w1 W->∀(k:Nat) (v v':V),s.t[k]?=some v->V.CP v=some v'->CV (Cx.bare x.S) W v' (a.tmps.getD k undef):=λW hk k v v' hs hv=>by
  have:=CW (a:=a) (hx W hk).2 (.tmp k);simp only[ev,Bv,hs,Dm]at this;exact SL _ _ _ hv this
 have hp : ∀(W:World),Ay w1 W->∀(k i:Nat),s.t[k]?=some (.ptr i 0)->CV x W (.ptr i 0) (a.tmps.getD k undef):=λW hk k i hs=>by
  have:=CW (a:=a) (hx W hk).2 (.tmp k);simp only[ev,Bv,hs,Dm]at this;exact this
 have EW:V.CP (.agg f.vs)=some (.agg f.vs):=by rfl
 have Dg:V.CP (.agg n.vs)=some (.agg n.vs):=by cases n;rfl
 have kn : ∀ {A1:List (Option Tmp×Post)} {t:Tmp} {v:Value} {W:World},(∀q∈A1,q.1≠some t)->know (Ky D a) A1 t v W->v=a.tmps.getD t undef:=by
  intro A1;induction A1 with
  | nil=>intro t v W _ h;exact h
  | cons q r ih=>intro t v W hq h;simp only[know]at h;rw[if_neg (hq q (by simp))]at h;exact ih (λq DT=>hq q (by simp[DT])) h
 refine LK (λu X=>CV (Cx.bare x.S) X (.agg f.vs) u) (LD x.S _) U.2.2 (λE F G I=>?_) ?_;have M:=kn (by simp[]) (I 5 (by simp[looks,Gm,U.1,U.2.2,Bl,Df]));obtain⟨u,W2,k1,k2,k3⟩:=ABK (a:=E) (x:=x) (k:=0) (off:=0) U.1 tN ((hx F G).1.ok 0 _ h0).2 (by rw[show E.eval (.tmp 5)=a.tmps.getD 5 undef from M];exact hp F G 5 0 s5) (v:=.agg f.vs) (by simp[CJ]);exact⟨u,W2,k1,SL _ _ _ EW k2,k3⟩;refine LK (λu X=>CV (Cx.bare x.S) X (.agg f.vs) u) (LD x.S _) e1.2.2 (λE F G I=>?_) ?_;have M:=kn (by simp[U.2.1]) (I 5 (by simp[looks,Gm,e1.1,e1.2.2,Bl,Df]));obtain⟨u,W2,k1,k2,k3⟩:=ABK (a:=E) (x:=x) (k:=0) (off:=0) e1.1 tN ((hx F G).1.ok 0 _ h0).2 (by rw[show E.eval (.tmp 5)=a.tmps.getD 5 undef from M];exact hp F G 5 0 s5) (v:=.agg f.vs) (by simp[CJ]);exact⟨u,W2,k1,SL _ _ _ EW k2,k3⟩;refine LK (λu X=>CV (Cx.bare x.S) X (.c DC) u) (LD x.S _) e2.2.2 (λE F G I=>?_) ?_;have M:=kn (by simp[U.2.1,e1.2.1]) (I 1 (by simp[looks,Gm,e2.1,e2.2.2,Bl,Df]));exact⟨E.eval (.tmp 1),F,by simp[execOp,e2.1],by rw[show E.eval (.tmp 1)=a.tmps.getD 1 undef from M];exact hg F G 1 _ _ s1 rfl,Ay.refl _⟩;refine LK (λu X=>CV (Cx.bare x.S) X (.agg n.vs) u) (LD x.S _) e3.2.2 (λE F G I=>?_) ?_;have M:=kn (by simp[U.2.1,e1.2.1,e2.2.1]) (I 7 (by simp[looks,Gm,e3.1,e3.2.2,Bl,Df]));obtain⟨u,W2,k1,k2,k3⟩:=ABK (a:=E) (x:=x) (k:=1) (off:=0) e3.1 AB8 ((hx F G).1.ok 1 _ h1).2 (by rw[show E.eval (.tmp 7)=a.tmps.getD 7 undef from M];exact hp F G 7 1 s7) (v:=.agg n.vs) (by cases n;simp[CJ,Nd.vs,Nd.row]);exact⟨u,W2,k1,SL _ _ _ Dg k2,k3⟩;refine LK (λu X=>CV (Cx.bare x.S) X (.c (.int .i64 W)) u) (LD x.S _) e4.2.2 (λE F G I=>?_) ?_;have M:=kn (by simp[U.2.1,e1.2.1,e2.2.1,e3.2.1]) (I 3 (by simp[looks,Gm,e4.1,e4.2.2,Bl,Df]));exact⟨E.eval (.tmp 3),F,by simp[execOp,e4.1],by rw[show E.eval (.tmp 3)=a.tmps.getD 3 undef from M];exact hg F G 3 _ _ s3 rfl,Ay.refl _⟩;refine LK (λu X=>CV (Cx.bare x.S) X (.c SC) u) (LD x.S _) e5.2.2 (λE F G I=>?_) ?_;have M:=kn (by simp[U.2.1,e1.2.1,e2.2.1,e3.2.1,e4.2.1]) (I 12 (by simp[looks,Gm,e5.1,e5.2.2,Bl,Df]));exact⟨E.eval (.tmp 12),F,by simp[execOp,e5.1],by rw[show E.eval (.tmp 12)=a.tmps.getD 12 undef from M];exact hg F G 12 _ _ H4 rfl,Ay.refl _⟩;refine ABX (pG x.S w1 41 m AG) (AVo _ _ _ _ _) J.2.2 (λE F G I=>?_) ?_;have B1:=I 49 (by simp[looks,Gm,J.1,J.2.2,Bl,Df]);have B2:=I 50 (by simp[looks,Gm,J.1,J.2.2,Bl,Df]);have B3:=I 51 (by simp[looks,Gm,J.1,J.2.2,Bl,Df]);have B7:=I 52 (by simp[looks,Gm,J.1,J.2.2,Bl,Df]);have B8:=I 53 (by simp[looks,Gm,J.1,J.2.2,Bl,Df]);simp only[know,U.2.1,e1.2.1,e2.2.1,e3.2.1,e4.2.1,e5.2.1,BL,Nat.reduceEqDiff,if_true,if_false]at B1 B2 B3 B7 B8;refine⟨36,#[E.tmps.getD 49 undef,E.tmps.getD 50 undef,E.tmps.getD 51 undef,E.tmps.getD 52 undef,E.tmps.getD 53 undef],(AEc J.1 (by kernel_rfl)).trans (by simp[Act.eval]),?_⟩;refine(Ct x.S F [E.tmps.getD 49 undef,E.tmps.getD 50 undef,E.tmps.getD 51 undef,E.tmps.getD 52 undef,E.tmps.getD 53 undef] (λb j h=>(hx F G).1.ex b j h) ?_).mono ?_;simp only[AO];exact⟨_,_,rfl,B1,_,_,rfl,B2,_,_,rfl,B3,_,_,rfl,B7,_,_,rfl,B8,rfl⟩;rintro r W2 ⟨x',u,v,h',rfl,g',hu,k,rfl,hk⟩;refine⟨u,rfl,⟨AB6 x' k,Good.AZq G (λb j h=>(hx w1 (Ay.refl _)).1.ex b j h) g' hk,?_⟩,g'.keep.all⟩;simp only[CV,AB6]at hu ⊢;exact⟨trivial,hu.2⟩;refine LK (λu X=>CV (Cx.bare x.S) X (.c (.sl (AA.AG A6))) u) (LD x.S _) e7.2.2 (λE F G I=>?_) ?_;have M:=kn (by simp[U.2.1,e1.2.1,e2.2.1,e3.2.1,e4.2.1,e5.2.1,J.2.1]) (I 13 (by simp[looks,Gm,e7.1,e7.2.2,Bl,Df]));exact⟨E.eval (.tmp 13),F,by simp[execOp,e7.1],by rw[show E.eval (.tmp 13)=a.tmps.getD 13 undef from M];exact hg F G 13 _ _ H5 D7,Ay.refl _⟩;refine LK (λu X=>CV (Cx.bare x.S) X (.c (.int .i64 W)) u) (LD x.S _) e8.2.2 (λE F G I=>?_) ?_;have M:=kn (by simp[U.2.1,e1.2.1,e2.2.1,e3.2.1,e4.2.1,e5.2.1,J.2.1,e7.2.1]) (I 3 (by simp[looks,Gm,e8.1,e8.2.2,Bl,Df]));exact⟨E.eval (.tmp 3),F,by simp[execOp,e8.1],by rw[show E.eval (.tmp 3)=a.tmps.getD 3 undef from M];exact hg F G 3 _ _ s3 rfl,Ay.refl _⟩;refine ABZ ?_;intro F G;simp only[List.reverse_cons,List.reverse_nil,BU,BK,CU,B9];intro A2 G5 I8 _ J3 _ J4 _ J5 _ J7 _ A3 G6 A5 G7 A8 nz;refine xW ?_;obtain⟨x',g',hu⟩:=G6;rw[U.2.1,e1.2.1,e2.2.1,e3.2.1,e4.2.1,e5.2.1,J.2.1,e7.2.1,e8.2.1];simp only[VL];obtain⟨a9,WY⟩:=AI ((((((((((a.put (some 48) A2).put (some 49) I8).put (some 50) J3).put (some 51) J4).put (some 52) J5).put (some 53) J7).put (some 54) A3).put (some 55) A5).put (some 56) A8));have E1:a9.eval (.tmp 48)=A2:=by rw[<-WY,SN (by decide),SN (by decide),SN (by decide),SN (by decide),SN (by decide),SN (by decide),SN (by decide),SN (by decide),sL (by simp only[oa,A0];decide)]
 have E2:a9.eval (.tmp 54)=A3:=by rw[<-WY,SN (by decide),SN (by decide),sL (by simp only[oa,A0];decide)]
 have E3:a9.eval (.tmp 55)=A5:=by rw[<-WY,SN (by decide),sL (by simp only[oa,A0];decide)]
 have E4:a9.eval (.tmp 56)=A8:=by rw[<-WY,sL (by simp only[oa,A0];decide)]
 have t9 : ∀(y:Cx) (Y:World),AO y Y s.t a.tmps.toList->AO y Y (((((((((s.t.set 48 .any).set 49 .any).set 50 .any).set 51 .any).set 52 .any).set 53 .any).set 54 .any).set 55 .any).set 56 .any) a9.tmps.toList:=λy Y h=>by
  rw[<-WY];exact VM (VM (VM (VM (VM (VM (VM (VM (VM h _ _) _ _) _ _) _ _) _ _) _ _) _ _) _ _) _ _
 have F6:a9.defers=a.defers:=by rw[<-WY];simp only[AXJ]
 rw[WY];clear WY;obtain⟨R,Wq⟩:∃R,(((((((((s.t.set 48 V.any).set 49 .any).set 50 .any).set 51 .any).set 52 .any).set 53 .any).set 54 .any).set 55 .any).set 56 .any)=R:=⟨_,rfl⟩
 have y4:R[10]?=some (.ptr 2 0):=by rw[<-Wq];simp[H1]
 have y5:R[11]?=some (.ptr 3 0):=by rw[<-Wq];simp[H3]
 have ul:R.length=58:=by rw[<-Wq];simp[hl]
 rw[Wq]at t9;have A9:Ext (Cx.bare x.S) x' F F:=⟨⟨λb j h=>g'.sub b j h,λ_ _ _ _ h=>h⟩,λ_ h=>h.elim,λ_ h=>h.elim⟩
 have Co:=TM x.S (Bs.of w1) x' F [A2,A3,A5,A8] g' (by
  simp only[AO];exact⟨_,_,rfl,CV.mono A9 _ _ G5,_,_,rfl,hu,_,_,rfl,CV.mono A9 _ _ G7,_,_,rfl,CV.mono A9 _ _ nz,rfl⟩)
 refine ACZ e9.2.2 (f:=35) (args:=#[A2,A3,A5,A8]) (by rw[AEc e9.1 (by kernel_rfl),sI];simp[E1,E2,E3,E4]) Co ?_;rintro r W3 ⟨x3,Jd,out,g3,J8,CB,z,rfl⟩;have QN:=g3.keep.all;obtain⟨g5,F7⟩:=(hx w1 (Ay.refl _)).1.MF (x':={ x with S:=x3.S }) QN ⟨g3.sub,λb j v _ hc=>QN.cell hc⟩ rfl rfl λb j h=>by
  rcases g3.new b j h with h'|h'
  exact .inl h';exact .inr ⟨Hq h',g3.ex b j h⟩
 have D0:=t9 _ _ (AO.mono F7 _ _ (hx w1 (Ay.refl _)).2);have Jy:Marks w0 a9.defers W3:=by rw[F6];exact hA.df.mono (.FR (FJ.trans QN))
 cases ok with
 | false=>right;simp only[Bool.false_eq_true,if_false,Lf]at z ⊢;exact⟨_,z,a9,_,⟨R,s.h⟩,rfl,⟨g5,D0,Jy⟩,.inr ⟨rfl,rfl,by decide,O3,h2,N9,h3,y4,y5⟩⟩
 | true =>
   left;simp only[if_true,Lf]at z ⊢;obtain⟨u,hr,G2⟩:=z;refine⟨u,hr,?_⟩;have B0:V.CP (Ao B)=some (Ao B):=by cases B;rfl
   have G4:Ext (Cx.bare x3.S) ({ x with S:=x3.S }:Cx) W3 W3:=⟨⟨λ_ _ h=>h,λ_ _ _ _ h=>h⟩,λ_ h=>h.elim,λ_ h=>h.elim⟩
   have hB:CV { x with S:=x3.S } W3 (Ao B) u:=CV.mono G4 _ _ (SL _ _ _ B0 G2);have zC : ∀k,({ x with S:=x3.S }:Cx).dom k->k<s.h.length:=λk hk=>by obtain⟨o,ho⟩:=g5.dom k hk;exact(Br.1 ho).1
   have qE:Bo ({ x with S:=x3.S }:Cx).S (w0.Zr W3 g5.keep.size { x with S:=x3.S } s.h.length zC) { x with S:=x3.S } ⟨R.set 57 (Ao B),s.h⟩ ⟨(a9.put (some 57) u).tmps,[]⟩ W3:=⟨g5.sY _ _,by
    show AO _ W3 _ (a9.tmps.setIfInBounds 57 u).toList;rw[Va];exact D0.set 57 hB,Marks.nil _ _⟩
   rw[e9.2.1,VL];have i2:2<s.h.length:=(Br.1 h2).1;have i3:3<s.h.length:=(Br.1 h3).1;have bf:(Ao B).flat=true/\(Ao B).cells.length=11:=by cases B;exact⟨rfl,rfl⟩
   have y9:ev (R.set 57 (Ao B)) (.tmp 57)=Ao B:=by simp[ev,Bv,ul]
   have lj:ev (R.set 57 (Ao B)) (.tmp 10)=.ptr 2 0:=by simp[ev,Bv,y4]
   have aB:ev (R.set 57 (Ao B)) (.tmp 11)=.ptr 3 0:=by simp[ev,Bv,y5]
   refine aC (a:=Ky D (a9.put (some 57) u)) qE QA.2.2 (AAs (e:=ev (R.set 57 (Ao B))) (k:=2) (off:=0) qE.good QA.1 tO (by rw[<-lj];exact CW qE.tm (.tmp 10)) (CW qE.tm (.tmp 57)) h2 (by rw[y9];exact bf.1) (by rw[y9];exact bf.2) (by rw[N9];decide)) (λk ob e=>by cases e;exact LZ i2) λx6 a6 w6 d6 YQ=>?_
   simp only[St.step,St.put,Bk,QA.2.1,y9,if_pos i2]at YQ;have Jd:(s.h.set 2 (O.box 41 (E8 O3 0 (Ao B).cells) false))[3]?=some (.box 42 [.c (.int .i64 0)] false):=by rw[HF (by decide)];exact h3
   refine aC (a:=a6) YQ QB.2.2 (AAs (e:=ev (R.set 57 (Ao B))) (k:=3) (off:=0) YQ.good QB.1 ALk (by rw[<-aB];exact CW YQ.tm (.tmp 11)) (CW YQ.tm (.const (.int .i64 0))) Jd rfl rfl (by decide)) (λk ob e=>by cases e;rw[GF];exact LZ i3) λx7 a7 w7 d7 xo=>?_
   refine wpList_nil ?_;simp only[St.step,St.put,Bk,QB.2.1,GF,if_pos i3]at xo;obtain⟨⟨g7,D8⟩,_⟩:=g5.Z5 xo.good;obtain⟨I1,E0⟩:=a7;have Fu:E0=a9.defers++D:=d7.trans d6;refine⟨⟨I1,a9.defers⟩,x7,_,by rw[Fu];rfl,⟨g7,xo.tm,Jy.mono D8⟩,Cq.ret (.inl ⟨rfl,.A7 [Ao B,.c (.int .i64 0)],?_,by simp[V.CP,V.CF,B0,AR]⟩)⟩;have cX:E8 [V.c (.int .i64 0)] 0 (ev (R.set 57 (Ao B)) (.const (.int .i64 0))).cells=[.c (.int .i64 0)]:=rfl;have GM:E8 O3 0 (Ao B).cells=B.vs:=by
    match O3,N9 with
    | [_,_,_,_,_,_,_,_,_,_,_],_=>cases B;rfl
   have EX:CJ (true,11) B.vs 0=some (Ao B):=by cases B;rfl
   rw[cX,GM];have G8:(R.set 57 (Ao B)).getD 10 .any=.ptr 2 0:=by simp[Bv,y4]
   have G9:(R.set 57 (Ao B)).getD 11 .any=.ptr 3 0:=by simp[Bv,y5]
   simp only[IE,GJ,C0,DE,G8,G9,tO,ALk];rw[HF (by decide),IX i2,IX (by rw[GF];exact i3)];simp only[EX];rfl
theorem DN {p q:Prop}(h:q)(k:q->p:=by
 intro h;repeat (with_reducible first|refine Cq.n ?_|refine Cq.seq ?_)
 with_reducible exact h):p:=k h
theorem AFB (f:AP)(J:C)(n:Nd)(W:Int)(sn:ByteArray){G I:Bool}(F:AC AF 31 [.agg f.vs,.c J,Am n] (.c (.bool G)))(M:AC AF 32 [.c (.str sn)] (.c (.bool I)))(hb:(G && I)=false) :
 AC AF 12 [.agg f.vs,.c J,Am n,.c (.int .i64 W),.c (.str sn)] (.A7 [Ao AA.zero,AR 1]):=by
 refine rn f J n W sn rfl ⟨rfl,rfl,rfl⟩ ⟨rfl,rfl,rfl⟩ ⟨rfl,rfl,rfl⟩ ⟨rfl,rfl,rfl⟩ ⟨rfl,rfl,rfl⟩ ⟨rfl,rfl,rfl⟩ λD=>?_
 obtain⟨U,t,c,R⟩:=n;simp only[kb,Am,Nd.vs,Nd.row,AR,Ap,BB,BY,Cy,BK,BU]at F ⊢;refine DN ?_;refine Cq.DA ?_;rcases (show G=false\/G=true/\I=false by revert hb;cases G<;>cases I<;>simp)with rfl|⟨rfl,rfl⟩
 all_goals
  refine SW.take 10 (AH.out ?_);simp only[DP,ET];have E:=(IE)
  repeat any_goals (first|refine Eo ?_|exact Bt E|refine De E ?_|refine BV E (F) ?_|refine BV E (M) ?_|refine DI E ?_)
  simp only[CU,B9];refine SW.nil ?_;refine DN ?_;refine Cq.cond (b:=true) (by simp[ev]) (λ_=>?_) (λh=>nomatch h);refine DN ?_;refine Cq.DA ?_;refine SW.take 3 (AH.out ?_);simp only[DP,ET];have E:=(cj @BT.eq_1<|IE)
  repeat any_goals (first|refine Eo ?_|exact Bt E|refine De E ?_|refine DI E ?_)
  simp only[CU,B9];refine SW.nil ?_;refine DN ?_;exact Cq.ret (Or.inl ⟨rfl,.A7 [.agg BT,.c (.int .i64 1)],by simp[GJ,C0,DE,CJ,BT,IE],by simp[V.CP,V.CF,Ao,AR,BT,AA.zero,AA.row,AA.AG,AV]⟩)
theorem AO3 (f:AP)(I:C)(n:Nd)(W:Int)(sn:ByteArray)(F:AC AF 31 [.agg f.vs,.c I,Am n] (.c (.bool true)))(J:AC AF 32 [.c (.str sn)] (.c (.bool true))){e:Int}(M:e≠0)(G:AC AF 33 [.agg f.vs,.c I,Am n,.c (.int .i64 W)] (.A7 [.c (.sl []),AR e])) :
 AC AF 12 [.agg f.vs,.c I,Am n,.c (.int .i64 W),.c (.str sn)] (.A7 [Ao AA.zero,AR e]):=by
 refine rn f I n W sn rfl ⟨rfl,rfl,rfl⟩ ⟨rfl,rfl,rfl⟩ ⟨rfl,rfl,rfl⟩ ⟨rfl,rfl,rfl⟩ ⟨rfl,rfl,rfl⟩ ⟨rfl,rfl,rfl⟩ λD=>?_
 obtain⟨U,t,c,R⟩:=n;simp only[kb,Am,Nd.vs,Nd.row,AR,Ap,BB,BY,Cy,BK,BU]at F G ⊢;refine DN ?_;refine Cq.DA ?_;refine SW.take 10 (AH.out ?_);simp only[DP,ET];have E:=(IE)
 repeat any_goals (first|refine Eo ?_|exact Bt E|refine De E ?_|refine BV E (F) ?_|refine BV E (J) ?_|refine DI E ?_)
 simp only[CU,B9];refine SW.nil ?_;refine DN ?_;refine Cq.cond (b:=false) (by simp[ev]) (λh=>nomatch h) (λ_=>Cq.skip ?_);refine DN ?_;refine Cq.DA ?_;refine SW.take 10 (AH.out ?_);simp only[DP,ET];have E:=(IE)
 repeat any_goals (first|refine Eo ?_|exact Bt E|refine De E ?_|refine BV E (G) ?_|refine DI E ?_)
 simp only[CU,B9];refine SW.nil ?_;refine DN ?_;refine Cq.DA ?_;refine SW.take 2 (AH.out ?_);simp only[DP,ET];have E:=(cj @M<|IE)
 repeat any_goals (first|refine Eo ?_|exact Bt E|refine De E ?_|refine DI E ?_)
 simp only[CU,B9];refine SW.nil ?_;refine DN ?_;refine Cq.cond (b:=true) (by simp[ev]) (λ_=>?_) (λh=>nomatch h);refine DN ?_;refine Cq.Lm Fz ?_;refine TW.take 4 (Es (by simp[BT];first|exact rfl|exact⟨rfl,rfl⟩|exact⟨rfl,rfl,rfl⟩) (HI (TW.nil ⟨by kernel_rfl,?_⟩)));refine DN ?_;exact Cq.ret (Or.inl ⟨rfl,.A7 [.agg BT,.c (.int .i64 e)],by simp[GJ,C0,DE,CJ,BT,IE],by simp[V.CP,V.CF,Ao,AR,BT,AA.zero,AA.row,AA.AG,AV]⟩)
theorem AO4 (f:AP)(G:C)(n:Nd)(W:Int)(sn:ByteArray)(F:AC AF 31 [.agg f.vs,.c G,Am n] (.c (.bool true)))(M:AC AF 32 [.c (.str sn)] (.c (.bool true)))(I:AC AF 33 [.agg f.vs,.c G,Am n,.c (.int .i64 W)] (.A7 [.c SC,AR 0]))(hs : ¬sn=⟨#[]⟩){e:Int}(R:(I9 .i64 e).wf=true)(J:PC AF 34 [.agg f.vs,.c G,.c (.str sn),.c (.int .i64 W)] (Tr e)):
 AC AF 12 [.agg f.vs,.c G,Am n,.c (.int .i64 W),.c (.str sn)] (.A7 [Ao AA.zero,AR e]):=by
 refine rn f G n W sn rfl ⟨rfl,rfl,rfl⟩ ⟨rfl,rfl,rfl⟩ ⟨rfl,rfl,rfl⟩ ⟨rfl,rfl,rfl⟩ ⟨rfl,rfl,rfl⟩ ⟨rfl,rfl,rfl⟩ λD=>?_
 obtain⟨q,t,c,U⟩:=n;simp only[kb,Am,Nd.vs,Nd.row,AR,Ap,BB,BY,Cy,BK,BU]at F I ⊢;refine DN ?_;refine Cq.DA ?_;refine SW.take 10 (AH.out ?_);simp only[DP,ET];have E:=(IE)
 repeat any_goals (first|refine Eo ?_|exact Bt E|refine De E ?_|refine BV E (F) ?_|refine BV E (M) ?_|refine DI E ?_)
 simp only[CU,B9];refine SW.nil ?_;refine DN ?_;refine Cq.cond (b:=false) (by simp[ev]) (λh=>nomatch h) (λ_=>Cq.skip ?_);refine DN ?_;refine Cq.DA ?_;refine SW.take 10 (AH.out ?_);simp only[DP,ET];have E:=(IE)
 repeat any_goals (first|refine Eo ?_|exact Bt E|refine De E ?_|refine BV E (I) ?_|refine DI E ?_)
 simp only[CU,B9];refine SW.nil ?_;refine DN ?_;refine Cq.DA ?_;refine SW.take 2 (AH.out ?_);simp only[DP,ET];have E:=(IE)
 repeat any_goals (first|refine Eo ?_|exact Bt E|refine De E ?_|refine DI E ?_)
 simp only[CU,B9];refine SW.nil ?_;refine DN ?_;refine Cq.cond (b:=false) (by simp[ev]) (λh=>nomatch h) (λ_=>Cq.skip ?_);refine DN ?_;refine Cq.DA ?_;refine SW.take 1 (AH.out ?_);simp only[DP,ET];have E:=(IE)
 repeat any_goals (first|refine Eo ?_|exact Bt E|refine De E ?_|refine DI E ?_)
 simp only[CU,B9];refine SW.nil ?_;refine DN ?_;refine Cq.DA ?_;refine SW.take 2 (AH.out ?_);simp only[DP,ET];have E:=(cj @hs<|IE)
 repeat any_goals (first|refine Eo ?_|exact Bt E|refine De E ?_|refine DI E ?_)
 simp only[CU,B9];refine SW.nil ?_;refine DN ?_;refine Cq.cond (b:=true) (by simp[ev]) (λ_=>?_) (λh=>nomatch h);refine DN ?_;refine Cq.DA ?_;refine SW.take 5 (AH.out ?_);simp only[DP,ET];have E:=(IE)
 repeat any_goals (first|refine Eo ?_|exact Bt E|refine De E ?_|refine DI E ?_)
 simp only[CU,B9];refine SW.wa (args:=[.agg f.vs,.c G,.c (.str sn),.c (.int .i64 W)]) (HC.AAo J (by kernel_rfl) rfl _) (by simp[BQ]) (by simp[C7,ev]) ?_;exact Or.inr ⟨rfl,rfl,R,BT,rfl,rfl,rfl,rfl,rfl⟩
theorem AO5 (f:AP)(G:C)(n:Nd)(W:Int)(sn:ByteArray)(F:AC AF 31 [.agg f.vs,.c G,Am n] (.c (.bool true)))(JO:AC AF 32 [.c (.str sn)] (.c (.bool true)))(I:AC AF 33 [.agg f.vs,.c G,Am n,.c (.int .i64 W)] (.A7 [.c SC,AR 0])){m:Nat}{AG:List (List C)}{ok:Bool}(M:Ss AF 36 [.agg f.vs,.c G,Am n,.c (.int .i64 W),.c SC] 41 11 m (λk=>.gr k 11 AG))(q:HX AF 35 [.agg f.vs,.gr 0 11 AG,.c (.sl (AA.AG A6)),.c (.int .i64 W)] [.tok 41 11 m] (λout=>out=if ok=true then .ret (Ao B)else .HB (Tr 6)))(hs:(sn=⟨#[]⟩/\A6=[])\/(¬sn=⟨#[]⟩/\∃J,A6=[J]/\AC AF 34 [.agg f.vs,.c G,.c (.str sn),.c (.int .i64 W)] (Ao J))):
 AC AF 12 [.agg f.vs,.c G,Am n,.c (.int .i64 W),.c (.str sn)] (.A7 [Ao (if ok=true then B else AA.zero),AR (if ok=true then 0 else 6)]):=by
 refine rn f G n W sn rfl ⟨rfl,rfl,rfl⟩ ⟨rfl,rfl,rfl⟩ ⟨rfl,rfl,rfl⟩ ⟨rfl,rfl,rfl⟩ ⟨rfl,rfl,rfl⟩ ⟨rfl,rfl,rfl⟩ λD=>?_
 obtain⟨z,t,c,R⟩:=n;simp only[kb,Am,Nd.vs,Nd.row,AR,Ap,BB,BY,Cy,BK,BU]at F I M ⊢;refine DN ?_;refine Cq.DA ?_;refine SW.take 10 (AH.out ?_);simp only[DP,ET];have E:=(IE)
 repeat any_goals (first|refine Eo ?_|exact Bt E|refine De E ?_|refine BV E (F) ?_|refine BV E (JO) ?_|refine DI E ?_)
 simp only[CU,B9];refine SW.nil ?_;refine DN ?_;refine Cq.cond (b:=false) (by simp[ev]) (λh=>nomatch h) (λ_=>Cq.skip ?_);refine DN ?_;refine Cq.DA ?_;refine SW.take 10 (AH.out ?_);simp only[DP,ET];have E:=(IE)
 repeat any_goals (first|refine Eo ?_|exact Bt E|refine De E ?_|refine BV E (I) ?_|refine DI E ?_)
 simp only[CU,B9];refine SW.nil ?_;refine DN ?_;refine Cq.DA ?_;refine SW.take 2 (AH.out ?_);simp only[DP,ET];have E:=(IE)
 repeat any_goals (first|refine Eo ?_|exact Bt E|refine De E ?_|refine DI E ?_)
 simp only[CU,B9];refine SW.nil ?_;refine DN ?_;refine Cq.cond (b:=false) (by simp[ev]) (λh=>nomatch h) (λ_=>Cq.skip ?_);refine DN ?_;refine Cq.DA ?_;refine SW.take 1 (AH.out ?_);simp only[DP,ET];have E:=(IE)
 repeat any_goals (first|refine Eo ?_|exact Bt E|refine De E ?_|refine DI E ?_)
 simp only[CU,B9];refine SW.nil ?_;refine DN ?_;refine Cq.DA ?_;rcases hs with ⟨hs,rfl⟩|⟨hs,J,rfl,U⟩
 . subst hs;refine SW.take 2 (AH.out ?_);simp only[DP,ET];have E:=(IE)
   repeat any_goals (first|refine Eo ?_|exact Bt E|refine De E ?_|refine DI E ?_)
   simp only[CU,B9];refine SW.nil ?_;refine DN ?_;refine Cq.cond (b:=false) (by simp[ev]) (λh=>nomatch h) (λ_=>Cq.skip ?_);refine Cq.n ?_;exact AIS (n:=⟨z,t,c,R⟩) M q rfl rfl rfl rfl rfl rfl rfl rfl rfl rfl rfl rfl rfl rfl rfl (by kernel_rfl) ⟨rfl,rfl,rfl⟩ ⟨rfl,rfl,rfl⟩ ⟨rfl,rfl,rfl⟩ ⟨rfl,rfl,rfl⟩ ⟨rfl,rfl,rfl⟩ ⟨rfl,rfl,rfl⟩ ⟨rfl,rfl,rfl⟩ ⟨rfl,rfl,rfl⟩ ⟨rfl,rfl,rfl⟩ ⟨rfl,rfl,rfl⟩ ⟨rfl,rfl,rfl⟩ ⟨rfl,rfl,rfl⟩
 . refine SW.take 2 (AH.out ?_);simp only[DP,ET];have E:=(cj @hs<|IE)
   repeat any_goals (first|refine Eo ?_|exact Bt E|refine De E ?_|refine DI E ?_)
   simp only[CU,B9];refine SW.nil ?_;refine DN ?_;refine Cq.cond (b:=true) (by simp[ev]) (λ_=>?_) (λh=>nomatch h);refine Cq.le (Le.tL 13 41 11 rfl) ?_;simp only[BA,BO,Nat.reduceAdd,Ag,Ai,BK,BU];refine Cq.DA ?_;obtain⟨m0,m1,m2,m3,m4,m5,m6,m7,m8,m9,Qg⟩:=J;simp only[Ao,AA.row,Ap,BB]at U;have f1:1<=maxLen:=by unfold maxLen;omega
   refine SW.take 9 (AH.out ?_);simp only[DP,ET];have E:=(cj @f1<|IE)
   repeat any_goals (first|refine Eo ?_|exact Bt E|refine De E ?_|refine BV E (U) ?_|refine DI E ?_)
   simp only[CU,B9];refine SW.nil ?_;refine Cq.n ?_;exact AIS (n:=⟨z,t,c,R⟩) (A6:=[⟨m0,m1,m2,m3,m4,m5,m6,m7,m8,m9,Qg⟩]) M q rfl rfl rfl rfl rfl rfl rfl rfl rfl rfl rfl rfl rfl rfl rfl (by kernel_rfl) ⟨rfl,rfl,rfl⟩ ⟨rfl,rfl,rfl⟩ ⟨rfl,rfl,rfl⟩ ⟨rfl,rfl,rfl⟩ ⟨rfl,rfl,rfl⟩ ⟨rfl,rfl,rfl⟩ ⟨rfl,rfl,rfl⟩ ⟨rfl,rfl,rfl⟩ ⟨rfl,rfl,rfl⟩ ⟨rfl,rfl,rfl⟩ ⟨rfl,rfl,rfl⟩ ⟨rfl,rfl,rfl⟩
end Go.Proofs.YtlpomcliejmedaaGreat
