/- Part of the proof of some laws. Conditions: none. -/
import Derived.Test.YtglaipbdiofkfaaGreatY6
import Derived.Test.YtglaipbdiofkfaaGreatY10
set_option linter.unusedVariables false
set_option linter.unusedSimpArgs false
set_option maxRecDepth 100000
set_option maxHeartbeats 16000000
open List renaming mem_cons→Cf,map_cons→Ap,length_cons→BA,getElem?_map→CM,flatten_cons→Hp,getElem?_append_left→EJ,getElem?_append_right→Gy,set_cons_succ→Ai,getElem?_eq_some_iff→Br,getElem?_set_self→IX,append_assoc→GX,getElem?_set_ne→HF,length_set→GF,replicate→Aq,replicate_succ→BY,sizeOf_lt_of_mem→gD,length_nil→BO,set_cons_zero→Ag,cons_append→BK,nil_append→BU,map_nil→BB,foldl_cons→Bw,foldl_nil→CO,drop_eq_getElem_cons→D5,all_cons→Ep,drop_of_length_le→FA,take_succ_cons→DP,getElem_cons_succ→AkF,getElem_mem→Kq,take_of_length_le→Gl,eq_nil_of_length_eq_zero→Nr
open Nat renaming le_refl→BN,zero_add→Cz,le_of_not_lt→Hq,le_of_ble_eq_true→F2
open Bool renaming and_eq_true→Ak,true_and→Cd
open Go.Proofs.Tryz renaming prog→AF,results296→ASK,results297→AB9,func284→AQh,results284→AB7,func251→uj,func250→SC,ntmps250→ARG,results250→IC,func174→Jy,func189→nC,ntmps189→nQ,results189→Py
open SizeOf renaming sizeOf→UF
open Go.IntKind renaming i64→AZ
open Option renaming some→J,none→E
open Bool renaming false→U,true→I
open List renaming length→G
namespace Go.Proofs.YtglaipbdiofkfaaGreat
open Go.RowKit Tryz
variable (b:AA)(b0:Int)(b1:ByteArray)
mutual
def AA.fit:AA->Prop
 | ⟨_,_,_,_,_,_,_,_,AE,_,src⟩=>G AE<=maxLen/\(G src)<=maxLen/\AA.fits AE
def AA.fits:List AA->Prop
 | []=>True
 | b::l=>b.fit/\AA.fits l
end
theorem AA.pq : ∀ {l:List AA},AA.fits l->∀b∈l,b.fit
 | [],_,b,h=>by cases h
 | x::l,B,b,h=>by
   simp only[AA.fits]at B;rcases Cf.1 h with rfl|h
   exact B.1;exact AA.pq B.2 b h
theorem Dt : ∀l:List AA,AA.AG l=l.map AA.row
 | []=>rfl
 | x::l=>by simp only[AA.AG,Ap];rw[Dt l]
mutual
def AA.cnt:AA->Nat
 | ⟨_,_,_,_,_,_,_,_,AE,_,_⟩=>1+AA.Az AE
def AA.Az:List AA->Nat
 | []=>0
 | b::l=>b.cnt+AA.Az l
end
mutual
def AA.Fq:AA->Prop
 | ⟨_,_,_,_,_,_,_,_,AE,_,src⟩=>G src<=1000000/\AA.JH AE
def AA.JH:List AA->Prop
 | []=>True
 | b::l=>b.Fq/\AA.JH l
end
theorem wm :0<b.cnt:=by cases b;simp only[AA.cnt];omega
theorem Ud : ∀l:List AA,G l<=AA.Az l
 | []=>BN _
 | b::l=>by have:=Ud l;have:=wm b;simp only[AA.Az,BA];omega
theorem bj : ∀(l:List AA) (i:Nat) (b:AA),l[i]?=J b->i+b.cnt<=AA.Az l
 | [],i,b,h=>by simp at h
 | x::l,0,b,h=>by simp at h;subst h;simp only[AA.Az];omega
 | x::l,i+1,b,h=>by have:=bj l i b (by simpa using h);have:=wm x;simp only[AA.Az];omega
theorem pX : ∀(l:List AA) (i:Nat) (b:AA),AA.JH l->l[i]?=J b->b.Fq
 | [],i,b,_,h=>by simp at h
 | x::l,0,b,B,h=>by simp at h;subst h;exact B.1
 | x::l,i+1,b,B,h=>pX l i b B.2 (by simpa using h)
theorem Nk :G b.row=11:=by cases b;rfl
theorem lE (l:List AA):∀r∈AA.AG l,G r=11:=by
 rw[Dt];intro r B;obtain⟨b,_,rfl⟩:=List.mem_map.1 B;exact Nk b
theorem flat_get {l:List AA}{i q:Nat}{b:AA}(h:l[i]?=J b)(B:q<11):((AA.AG l).flatten.map V.c)[i*11+q]?=(b.row.map V.c)[q]?:=by
 rw[CM,CM];congr 1
 rw[Dt];induction l generalizing i with
 | nil=>simp at h
 | cons x l ih =>
   cases i with
   | zero=>simp at h;subst h;rw[Ap,Hp,Nat.zero_mul,Cz,EJ (by rw[Nk];exact B)]
   | succ i =>
     rw[Ap,Hp,Gy (by rw[Nk];omega),Nk,<-ih (i:=i) (by simpa using h)];congr 1
     omega
theorem ADp {N:Nat} : ∀ {l:List V} {i:Nat},l[i]?=J (.c (.sl []))->V.Em N l=I->EM (Jq 2) N (l.set i (.Bg [])) l
 | [],i,h,_=>by simp at h
 | v::l,0,h,B=>by
   simp at h;subst h;simp only[V.Em,Ak]at B;exact⟨.inr (.inr ⟨[],F,F⟩),UW B.2 (BN _)⟩
 | v::l,i+1,h,B=>by
   simp only[V.Em,Ak]at B;rw[Ai];exact⟨.inr (.inl ⟨(AKn (N:=N) (λk _ H=>by simp[Jq,H]) v B.1).symm,(AKm (BN _) v B.1).1⟩),ADp (by simpa using h) B.2⟩
theorem xH {N n:Nat}{t:List V}(Q:2<N)(R:G t=71)(S:t.take 4=[.any,.ptr 0 0,.ptr 1 0,.own 2 0 n 1]):EM (Jq 2) N t (dT n):=by
 have e:t=[.any,.ptr 0 0,.ptr 1 0,.own 2 0 n 1]++t.drop 4:=by rw[<-S,List.take_append_drop]
 rw[e];have B:(67:Nat)=G (t.drop 4):=by rw[List.length_drop,R]
 unfold dT;rw[B];refine EM.append ?_ (EM.any _);have H:0<N:=by omega
 have M:1<N:=by omega
 simp[EM,Wk,V.GS,V.A8,Jq,Q,H,M]
section
variable {K:Exit->St->Prop}
abbrev DL (K:Exit->St->Prop)(s:St):Prop:=LA ⟨E,0⟩ AF P8 K s
def iF (K:Exit->St->Prop)(b:AA):Prop:=∀(H:List O) (st:List V) (j k off:Nat) (ty:TypeId) (cs:List V),H[2]?=J (Gw (st++[.ptr k off]) j)->H[k]?=J (.box ty cs U)->k≠2->(∀q,q<11->cs[off+q]?=(b.row.map V.c)[q]?)->Kw H->V.Em (G H) st=I->G st+b.cnt<1000000->
 (∀j',DL K ⟨dT (G st),H.set 2 (Gw st j')⟩)->DL K ⟨dT (G st+1),H⟩
theorem AE4 (AE:List AA)(hk : ∀(i:Nat) (b:AA),AE[i]?=J b->iF K b)(G:List O)(st:List V)(L:Nat)(Q:G[L]?=J (.box 41 ((AA.AG AE).flatten.map V.c) U))(H:L≠2)(h2:2<G.length)(hG:Kw G)(B:V.Em G.length st=I)(hb:st.length+AA.Az AE<1000000)(hK : ∀z,DL K ⟨dT st.length,G.set 2 (Gw st z)⟩):∀(i j:Nat),i<=AE.length->DL K ⟨dT (st.length+i),G.set 2 (Gw (st++F0 L i) j)⟩
 | 0,j,_=>by
   have:F0 L 0=[]:=F;rw[this,List.append_nil];exact hK j
 | i+1,j,hi=>by
   have S:i<AE.length:=hi;obtain⟨b,M⟩:∃b,AE[i]?=J b:=⟨_,List.getElem?_eq_getElem S⟩
   have Io:L<G.length:=(Br.1 Q).1;have:=bj AE i b M;have R:(st++F0 L i).length=st.length+i:=by rw[List.length_append,AJ0]
   have:=hk i b M (G.set 2 (Gw (st++F0 L (i+1)) j)) (st++F0 L i) j L (i*11) 41 _ (by rw[IX h2,ABM,GX]) (by rw[HF (λe=>H e.symm)];exact Q) H (λq hq=>flat_get M hq)
    (by intro a o ha ho;rw[HF (λe=>ha e.symm)]at ho;rw[GF];exact hG a o ha ho) (by rw[GF];exact sy.2 ⟨B,ABL _ Io H⟩) (by rw[R];omega)
    (λz=>by rw[List.set_set,R];exact AE4 AE hk G st L Q H h2 hG B hb hK i z (by omega))
   rw[R]at this;exact this
theorem AOr (z:b.AE=[])(hd:b.Fq):iF K b:=by
 intro H st j k B ty S o Q R q QI VA hb hK;obtain⟨b0,b1,b2,b3,b4,b5,b6,b7,AE,b9,src⟩:=b;simp only at z;subst z;have Rk:S[B+8]?=J (.c (.sl [])):=q 8 (by omega);have Rj:S[B+10]?=J (.c (AV src)):=q 10 (by omega);have N9:2<G H:=(Br.1 o).1;obtain⟨_,_,_,Iw,Ym⟩:=QI k _ R Q;cases Iw;refine LA.round (AOo H (G st) k B ty S _ src o Q R ?_ (by omega) hd.1 Rk Rj λt hl ht=>?_);rw[GX,Gy (BN _)];simp;refine LA.le (Le.Gw 2 (.inl F) ?_ ⟨Gw (st++[.ptr k B]) j,_,?_,IX N9,?_⟩ (λa o' ha M=>?_)) (hK (j+1));rw[GF];exact xH N9 hl ht;rw[HF R];exact o;rw[GF];unfold Gw;rw[GX];exact⟨F,F,EM.append (UW VA (BN _)) (by have:=EM.any (ρ:=Jq 2) (N:=G H) ([V.ptr k B]++Aq j .any);simpa [Nat.add_comm]using this)⟩;rw[HF (λe=>ha e.symm)]at M;rw[GF];by_cases e:a=k;subst e;rw[Q]at M;cases M;exact⟨_,IX (Br.1 Q).1,F,F,ADp Rk Ym⟩;exact⟨o',by rw[HF (λh=>e h.symm)];exact M,oJ (QI a o' ha M) (BN _)⟩
theorem toCs_map : ∀l:List C,toCs (l.map V.c)=J l
 | []=>rfl
 | c::l=>by simp only[Ap,toCs,toC,toCs_map l]
theorem AOs (Iu:b.AE≠[])(hd:b.Fq)(ih : ∀(i:Nat) (c:AA),b.AE[i]?=J c->iF K c):iF K b:=by
 intro H st j k B ty R h2 hk EG Bn q VA hb hK;obtain⟨b0,b1,b2,b3,b4,b5,b6,b7,AE,b9,src⟩:=b;simp only at Iu ih;simp only[AA.cnt]at hb;have Rk:R[B+8]?=J (.c (.sl (AA.AG AE))):=Bn 8 (by omega);have Rj:R[B+10]?=J (.c (AV src)):=Bn 10 (by omega);have N9:2<G H:=(Br.1 h2).1;have Ce:k<G H:=(Br.1 hk).1;have Av:G (AA.AG AE)=G AE:=by rw[Dt];simp
 have QP:0<G AE:=List.length_pos_iff.2 Iu;have DK:=Ud AE;obtain⟨_,_,_,Iw,Ym⟩:=q k _ EG hk;cases Iw;refine LA.round (AOp H (G st) k B ty R src (AA.AG AE) st j rfl h2 hk EG (by omega) hd.1 Rk Rj (by omega) (by omega) (lE AE) q VA (by omega) λj'=>?_);obtain⟨Q,z⟩:∃Q,Q=H.set k (O.box ty (R.set (B+8) (.own (G H) 0 (G (AA.AG AE)) 11)) U)++[O.box 41 ((AA.AG AE).flatten.map V.c) U]:=⟨_,rfl⟩
 have e4:Q=(H++[O.box 41 ((AA.AG AE).flatten.map V.c) U]).set k (O.box ty (R.set (B+8) (.own (G H) 0 (G (AA.AG AE)) 11)) U):=by rw[z,List.set_append_left _ _ Ce]
 have l4:G Q=G H+1:=by rw[z];simp
 have s4:Kw Q:=by
  rw[e4];refine Kw.set (Kw.push q (ABl _)) (AKo ?_ ?_);exact(SZ (by simp) R Ym).2;simp[V.sf];omega
 have L4:Q[G H]?=J (.box 41 ((AA.AG AE).flatten.map V.c) U):=by rw[z,Gy (by simp)];simp
 rw[<-z];have lL:V.Em (G Q) st=true:=(SZ (by omega) st VA).2;have key:=AE4 AE ih Q st (G H) L4 (by omega) (by omega) s4 lL (by omega) (λj2=>?_) (G AE) j' (BN _);refine LA.le (Le.Gw 2 (.inl F) ?_ ⟨_,_,IX (by omega),IX (by omega),?_⟩ (λa o' S M=>?_)) key;rw[GF];rw[Av];exact xH (by omega) rfl F;rw[GF,Av];exact⟨F,F,EM.append (UW (sy.2 ⟨lL,ABL _ (by omega) (by omega)⟩) (BN _)) (by have:=EM.any (ρ:=Jq 2) (N:=G Q) (Aq j' V.any);simpa using this)⟩;rw[GF];rw[HF (λe=>S e.symm)]at M;exact⟨o',by rw[HF (λe=>S e.symm)];exact M,oJ (s4 a o' S M) (BN _)⟩
 .
   refine LA.le (Le.trans (Le.freeze (G H) (row:=(AA.AG AE).flatten) (by rw[HF (by omega)];exact L4) (toCs_map _)) (Le.Gw 2 (.inl F) ?_ ⟨O.Bi (G H) (AA.AG AE).flatten (Gw st j2),_,?_,IX N9,?_⟩ (λa o' S M=>?_))) (hK j2);rw[GF];have:V.Cs (G H) (AA.AG AE).flatten (dT (G st))=dT (G st):=by
    have A1 : ¬2=G H:=by omega
    have A0 : ¬1=G H:=by omega
    have qB : ¬0=G H:=by omega
    simp[dT,BY,V.Cs,V.Bi,A1,A0,qB]
   rw[this];exact xH N9 rfl F;rw[CM,HF (by omega),IX (by omega)];rfl;rw[GF];have o:V.Em (G H) (st++Aq j2 .any)=true:=sy.2 ⟨VA,fC.2 λv hv=>by rw[(List.mem_replicate.1 hv).2];rfl⟩;simp only[O.Bi,Gw];rw[Zw (BN _) _ o];exact⟨F,F,UW o (BN _)⟩;rw[GF];rw[HF (λe=>S e.symm)]at M;have FE:a<G H:=(Br.1 M).1;rw[CM,HF (by omega),HF (λe=>S e.symm),e4];by_cases e:a=k;subst e;rw[hk]at M;cases M;rw[IX (by simp;omega)];refine⟨_,F,?_⟩;simp only[O.Bi];have:V.Cs (G H) (AA.AG AE).flatten (R.set (B+8) (.own (G H) 0 (G (AA.AG AE)) 11))=R:=by
    rw[xd,List.map_set,<-xd,Zw (BN _) _ Ym];simp only[V.Bi,if_true,List.drop_zero];rw[bZ _ (lE AE)];exact ez Rk
   rw[this];exact⟨F,F,UW Ym (BN _)⟩;rw[HF (λh=>e h.symm),EJ FE,M];obtain⟨GV,A2,py,rfl,o⟩:=q a o' S M;refine⟨_,F,?_⟩;simp only[O.Bi];rw[Zw (BN _) _ o];exact⟨F,F,UW o (BN _)⟩
theorem AE5 : ∀(b:AA),b.Fq->iF K b
 | ⟨b0,b1,S,o,q,z,b6,b7,B,b9,src⟩,H=>by
   by_cases M:B=[]
   exact AOr _ M H;refine AOs _ M H λi c Q=>?_
   have R:c∈B:=List.mem_of_getElem? Q;exact AE5 c (pX B i c H.2 Q)
 termination_by b=>UF b
 decreasing_by
 have:=gD R;simp only[AA.mk.sizeOf_spec];omega
end
theorem pW (hd:b.Fq)(hc:b.cnt<999999):AC AF 103 [Ao b] (Ao b):=by
 obtain⟨R,H⟩:∃R,R=b.row.map V.c:=⟨_,rfl⟩
 have z:G R=11:=by rw[H,List.length_map,Nk]
 have Q:R.all V.one=true:=by rw[H];simp[V.one]
 have M : ∀x∈R,x.one=true:=by simpa using Q
 unfold Ao;refine en func103 ntmps103 ?_;rw[<-H];refine go (cj2 @z @Q @M) ?_;with_reducible refine AW.DA ?_
 refine SW.OU (λv t=>v=.own 2 0 1 1/\t=J (2,.box 199 [.ptr 0 0] U)) (by simp[BQ]) ?_ ?_;intro S0 w0 x a w g ht S;exact⟨_,_,λ_ _ h=>(by cases h;exact BN _),⟨F,F⟩,AIw (P:=AF) (Bq:=8) g rfl (by simp) (O4 ht (i:=1) F) rfl _ S⟩;rintro v t ⟨rfl,rfl⟩;simp only[St.step,St.put,Bk,BA,BO,Nat.reduceAdd,Nat.lt_irrefl,if_false,Ai,Ag,BK,BU];refine CY (.mk 1) trivial ?_;refine SW.nil ?_;with_reducible refine G3 ?_
 with_reducible refine AW.seq ?_
 with_reducible refine AW.block ?_
 with_reducible refine LA.loop ?_
 refine LA.le (s':=⟨dT 1,_⟩) (Le.tg (by simp[DG,dT,BY])) ?_;refine AE5 b hd _ [] 0 0 0 41 R rfl rfl (by omega) (λq hq=>by rw[H,Cz]) ?_ rfl (by simp only[BO];omega) (λj'=>?_);intro a o ha B;match a,B with
 | 0,B=>cases B;exact⟨_,_,_,F,by rw[H];exact ABl _⟩
 | 1,B=>cases B;exact⟨_,_,_,F,F⟩
 | 2,B=>exact absurd rfl ha
 | a+3,B=>simp at B
 refine LA.round ?_;conv=>arg 3;unfold P8
 obtain⟨b0,b1,b2,b3,b4,b5,b6,b7,AE,b9,src⟩:=b;simp only[AA.row,Ap,BB]at H;subst H;simp only[il,Tryz.f103,dT,BY,List.replicate_zero,BK,BU,BO,Ai,Ag,Gw];refine Ah ?_;exact At (cj results103<| @AA.row.eq_1)
def I7 (o:Int)(n:Nat):Bool:=if o=0 then decide (n=0)else if o=1 then(decide (n % 2=0) && decide (n<=48))else if o=2 then(decide (n % 2=1) && decide (n<=49))else U
def HT (l:List Int):Bool:=l.all λn=>decide (0<=n)
def AA.Js (b:AA):Bool:=HT b.src && I7 b.of_ (G b.src)
def AA.lens (b:AA):List Int:=[b.w,b.h,b.d,b.x,b.y]
def AA.Fi (b:AA):Bool:=
 if b.kind=1 then Ck b.name && (decide (1<=b.size) && (decide (b.size<=1000) && decide (G b.AE=0)))
 else if b.kind=2 then decide (b.name=⟨#[]⟩) && (decide (b.size=0) && decide (G b.AE=0))
 else if b.kind=3 then decide (b.name=⟨#[]⟩) && decide (b.size=0)
 else U
def AA.Cl (b:AA):Bool:=b.lens.all An && (b.Fi && b.Js)
mutual
def AA.D8:AA->Bool
 | ⟨k,n,s,w,h,d,x,y,AE,o,src⟩=>AA.Cl ⟨k,n,s,w,h,d,x,y,AE,o,src⟩ && AA.FU AE
def AA.FU:List AA->Bool
 | []=>I
 | b::l=>b.D8 && AA.FU l
end
mutual
def AA.nest:AA->Nat
 | ⟨_,_,_,_,_,_,_,_,AE,_,_⟩=>AA.Hk AE+1
def AA.Hk:List AA->Nat
 | []=>0
 | b::l=>max b.nest (AA.Hk l)
end
def AA.Ad (b:AA):Bool:=b.D8 && (decide (b.cnt<=20000) && decide (b.nest<=100))
mutual
def AA.pv (BR:Nat):AA->Nat->Bool×Nat
 | ⟨k,n,s,w,h,d,x,y,AE,o,src⟩,c=>if 20000<c+1\/100<BR\/AA.Cl ⟨k,n,s,w,h,d,x,y,AE,o,src⟩=U then(U,c+1)else AA.HU (BR+1) AE (c+1)
def AA.HU (BR:Nat):List AA->Nat->Bool×Nat
 | [],c=>(I,c)
 | b::l,c=>if (b.pv BR c).1=I then AA.HU BR l (b.pv BR c).2 else(U,(b.pv BR c).2)
end
mutual
theorem ABP (M:Nat):∀(b:AA) (c:Nat),(b.pv M c).2<=c+b.cnt/\((b.pv M c).1=I->(b.pv M c).2=c+b.cnt)/\((b.pv M c).1=I↔b.D8=I/\c+b.cnt<=20000/\M+b.nest<=101)
 | ⟨k,n,s,w,h,d,x,y,Q,o,src⟩,c=>by
   have z:=AJ9 (M+1) Q (c+1);simp only[AA.pv,AA.cnt,AA.D8,AA.nest];generalize hB:AA.Cl ⟨k,n,s,w,h,d,x,y,Q,o,src⟩=B;have hc:=Ud Q;split;rename_i H;refine⟨by simp only;omega,λh=>(by cases h),⟨λh=>(by cases h),λh=>?_⟩⟩;simp only[Ak]at h;rcases H with H|H|H
   omega;omega;rw[H]at h;cases h.1.1;rename_i H;have h1:B=true:=by cases B with
    | true=>rfl
    | false=>exact absurd (.inr (.inr F)) H
   refine⟨by omega,λh=>by have:=z.2.1 h;omega,?_⟩;rw[z.2.2,h1,Cd];have A0:M<=100:=Hq λh=>H (.inr (.inl h))
   have A1:c+1<=20000:=Hq λh=>H (.inl h)
   constructor;rintro ⟨R,S,q⟩;refine⟨R,?_,?_⟩;rcases S with S|rfl
   omega;simp only[AA.Az];omega;rcases q with rfl|q
   simp only[AA.Hk];omega;omega;rintro ⟨R,S,q⟩;exact⟨R,.inl (by omega),.inr (by omega)⟩
theorem AJ9 (B:Nat):∀(l:List AA) (c:Nat),(AA.HU B l c).2<=c+AA.Az l/\((AA.HU B l c).1=I->(AA.HU B l c).2=c+AA.Az l)/\((AA.HU B l c).1=I↔AA.FU l=I/\(c+AA.Az l<=20000\/l=[])/\(l=[]\/B+AA.Hk l<=101))
 | [],c=>by simp[AA.HU,AA.Az,AA.FU]
 | b::l,c=>by
   have S:=ABP B b c;have o:=AJ9 B l (b.pv B c).2;have z:=wm b;simp only[AA.HU,AA.Az,AA.FU,AA.Hk];split;rename_i Q;have e:=S.2.1 Q;rw[e]at o;obtain⟨q,p2,p3⟩:=S.2.2.1 Q;rw[e];refine⟨by omega,λh=>by have:=o.2.1 h;omega,?_⟩;rw[o.2.2,q,Cd];constructor;rintro ⟨R,H,M⟩;refine⟨R,.inl ?_,.inr ?_⟩;rcases H with H|rfl
   omega;simp only[AA.Az];omega;rcases M with rfl|M
   simp only[AA.Hk];omega;omega;rintro ⟨R,H,M⟩;simp only[reduceCtorEq,or_false,false_or]at H M;exact⟨R,.inl (by omega),.inr (by omega)⟩;rename_i Q;refine⟨by simp only;omega,λh=>(by cases h),⟨λh=>(by cases h),λh=>?_⟩⟩;simp only[Ak,reduceCtorEq,or_false,false_or]at h;exact absurd (S.2.2.2 ⟨h.1.1,by omega,by omega⟩) Q
end
theorem AXK :(b.pv 1 0).1=b.Ad:=by
 have h:=(ABP 1 b 0).2.2;unfold AA.Ad;rw[Bool.eq_iff_iff,h];simp only[Ak,decide_eq_true_eq];constructor;rintro ⟨a,b,c⟩;exact⟨a,by omega,by omega⟩;rintro ⟨a,b,c⟩;exact⟨a,by omega,by omega⟩
theorem ANx (s:ByteArray)(q:s.size<=maxLen):AC AF 296 [.c (.str s)] (.c (.bool (Ck s))):=by
 unfold maxLen at q;refine en func296 ntmps296 ?_;refine Ah ?_;refine lp (ι:={ k:Nat // k<=s.size/\s.data.toList.all Dx=(s.data.toList.drop k).all Dx }) (λk=>[(3,.c (.int .i64 (k.1:Int))),(2,.c (.bool U))]) (λ_=>[]) (λk=>s.size - k.1) ⟨0,by simp⟩ ?_ ?_;all_goals simp only[CG,Bw,CO,Ag,Ai]
 exact DH;rintro ⟨k,hk,M⟩;by_cases B:k<s.size;have o:s.data.toList.drop k=(s.data[k]'B)::s.data.toList.drop (k+1):=by rw[D5 (by simpa using B)];simp
 rw[o,Ep]at M;obtain⟨b,Q⟩:=AI (s.data[k]'B);rw[Q]at M;have z:AZ.wrap ((k:Int)+1)=((k+1:Nat):Int):=by rw[Ac];simp
 by_cases H:(b.toNat:Int)<32;have e:Dx b=false:=by simp[Dx];omega
 refine go (cj2 @B @Q @H) ?_;exact At (cj3 ASK @Ck.eq_1 @M @e);by_cases S:(126:Int)<(b.toNat:Int);have e:Dx b=false:=by simp[Dx];omega
 refine go (cj3 @B @Q @H @S) ?_;exact At (cj3 ASK @Ck.eq_1 @M @e);have e:Dx b=true:=by simp[Dx];omega
 refine go (cj4 @B @Q @H @S @z) ?_;refine⟨⟨k+1,by omega,by rw[M,e,Cd]⟩,by simp only;omega,?_⟩;exact DH;have Hh:k=s.size:=by omega
 have e:s.data.toList.all Dx=true:=by rw[M,FA (by simp;omega)];rfl
 have EC:s.size=s.data.size:=F;by_cases H:(1:Int)<=(s.size:Int);have R:Ck s=decide ((s.size:Int)<=16):=by
  unfold Ck;rw[e,Cd,decide_eq_true (show 1<=s.size by omega),Cd,decide_eq_decide];omega
 refine go (cj @B<|@H) ?_;exact At (cj ASK<| @R);have R:Ck s=false:=by
  unfold Ck;rw[decide_eq_false (show ¬1<=s.size by omega),Bool.false_and,Bool.and_false]
 refine go (cj @B<|@H) ?_;exact At (cj ASK<| @R)
theorem AIb (n:Nat)(h:n<=9223372036854775807):AZ.wrap ((n:Int).tmod 2)=((n % 2:Nat):Int):=by
 have B:(n:Int).tmod 2=((n % 2:Nat):Int):=by rw[Int.tmod_eq_emod_of_nonneg (by omega)];omega
 rw[B];exact Ac
theorem Zn (q b3 b4 b5 b6 b7:Int)(AE:List AA)(o:Int)(src:List Int)(hs:G src<=maxLen):AC AF 297 [.cp (AA.row ⟨b0,b1,q,b3,b4,b5,b6,b7,AE,o,src⟩) 0] (.c (.bool (AA.Js ⟨b0,b1,q,b3,b4,b5,b6,b7,AE,o,src⟩))):=by
 unfold maxLen at hs;have hR:AA.Js ⟨b0,b1,q,b3,b4,b5,b6,b7,AE,o,src⟩=(HT src && I7 o (G src)):=F;rw[hR];have R:=AIb (G src) hs;simp only[AA.row];refine en func297 ntmps297 ?_;refine go @AV.eq_1 ?_;refine lp (ι:={ k:Nat // k<=G src/\HT src=HT (src.drop k) }) (λk=>[(11,.c (.int .i64 (k.1:Int))),(2,.c (.bool U))]) (λ_=>[]) (λk=>G src - k.1) ⟨0,by simp⟩ ?_ ?_;all_goals simp only[CG,Bw,CO,Ag,Ai]
 exact DH;rintro ⟨k,hk,Q⟩;by_cases B:k<G src;rw[D5 B]at Q;obtain⟨z,hz⟩:=AI (src[k]);rw[hz]at Q;have hw:AZ.wrap ((k:Int)+1)=((k+1:Nat):Int):=by rw[Ac];simp
 by_cases h1:z<0;have e:HT src=false:=by rw[Q];simp[HT];omega
 refine go (cj2 @B @hz @h1) ?_;exact At (cj AB9<| @e);have e:HT src=HT (src.drop (k+1)):=by rw[Q];simp[HT];intro;omega
 refine go (cj3 @B @hz @h1 @hw) ?_;refine⟨⟨k+1,by omega,e⟩,by simp only;omega,?_⟩;exact DH;have e:HT src=true:=by rw[Q,FA (by omega)];rfl
 by_cases o0:o=0;subst o0;have H:I7 0 (G src)=decide (G src=0):=F;refine go (cj @B<|@AV.eq_1) ?_;exact At (cj2 AB9 @e @H);by_cases o1:o=1;subst o1;by_cases M:G src % 2=0;have H:I7 1 (G src)=decide ((G src:Int)<=48):=by simp[I7,M];omega
 refine go (cj3 @B @AV.eq_1 @R @M) ?_;exact At (cj2 AB9 @e @H);have H:I7 1 (G src)=false:=by simp[I7,M]
 have S:G src % 2=1:=by omega
 refine go (cj3 @B @AV.eq_1 @R @S) ?_;exact At (cj2 AB9 @e @H);by_cases o2:o=2;subst o2;by_cases M:G src % 2=1;have H:I7 2 (G src)=decide ((G src:Int)<=49):=by simp[I7,M];omega
 refine go (cj3 @B @AV.eq_1 @R @M) ?_;exact At (cj2 AB9 @e @H);have H:I7 2 (G src)=false:=by simp[I7,M]
 have S:G src % 2=0:=by omega
 refine go (cj3 @B @AV.eq_1 @R @S) ?_;exact At (cj2 AB9 @e @H);have H:I7 o (G src)=false:=by simp[I7,o0,o1,o2]
 refine go (cj4 @B @AV.eq_1 @o0 @o1 @o2) ?_;exact At (cj2 AB9 @e @H)
theorem AP5 (S q b4 b5 b6 b7:Int)(AE:List AA)(o:Int)(src:List Int)(hs:G src<=maxLen):AC AF 284 [Ao ⟨b0,b1,S,q,b4,b5,b6,b7,AE,o,src⟩] (.c (.bool (AA.Js ⟨b0,b1,S,q,b4,b5,b6,b7,AE,o,src⟩))):=by
 unfold maxLen at hs;have hR:AA.Js ⟨b0,b1,S,q,b4,b5,b6,b7,AE,o,src⟩=(HT src && I7 o (G src)):=F;rw[hR];have hm:=AIb (G src) hs;simp only[Ao,AA.row,Ap,BB];obtain⟨BC,H⟩:∃BC,BC=([.c (.int .i64 b0),.c (.str b1),.c (.int .i64 S),.c (.int .i64 q),.c (.int .i64 b4),.c (.int .i64 b5),.c (.int .i64 b6),.c (.int .i64 b7),.c (.sl (AA.AG AE)),.c (.int .i64 o),.c (AV src)]:List V):=⟨_,rfl⟩
 refine en AQh ntmps284 ?_;refine go @AV.eq_1 ?_;refine lp (ι:={ k:Nat // k<=G src/\HT src=HT (src.drop k) }) (λk=>[(3,.c (.int .i64 (k.1:Int))),(2,.c (.bool U))]) (λ_=>[.box 41 BC U]) (λk=>G src - k.1) ⟨0,by simp⟩ ?_ ?_;all_goals simp only[CG,Bw,CO,Ag,Ai]
 refine Le.MI 1 (F2 F) (by simp[DG,H,AV]) (by simp[H,AV]) (by simp[V.BI,V.A8]) (by simp[O.A8,V.BI,V.A8,H,AV]);rintro ⟨k,hk,R⟩;by_cases B:k<G src;rw[D5 B]at R;obtain⟨z,hz⟩:=AI (src[k]);rw[hz]at R;have hw:AZ.wrap ((k:Int)+1)=((k+1:Nat):Int):=by rw[Ac];simp
 by_cases h1:z<0;have e:HT src=false:=by rw[R];simp[HT];omega
 refine go (cj4 @H @AV.eq_1 @B @hz @h1) ?_;exact At (cj AB7<| @e);have e:HT src=HT (src.drop (k+1)):=by rw[R];simp[HT];intro;omega
 refine go (cj5 @H @AV.eq_1 @B @hz @h1 @hw) ?_;refine⟨⟨k+1,by omega,e⟩,by simp only;omega,?_⟩;refine Le.MI 1 (F2 F) (by simp[DG,H,AV]) (by simp[H,AV]) (by simp[V.BI,V.A8]) (by simp[O.A8,V.BI,V.A8,H,AV]);have e:HT src=true:=by rw[R,FA (by omega)];rfl
 by_cases o0:o=0;subst o0;have M:I7 0 (G src)=decide (G src=0):=F;refine go (cj2 @H @AV.eq_1 @B) ?_;exact At (cj2 AB7 @e @M);by_cases o1:o=1;subst o1;by_cases Q:G src % 2=0;have M:I7 1 (G src)=decide ((G src:Int)<=48):=by simp[I7,Q];omega
 refine go (cj4 @H @AV.eq_1 @B @hm @Q) ?_;exact At (cj2 AB7 @e @M);have M:I7 1 (G src)=false:=by simp[I7,Q]
 have U7:G src % 2=1:=by omega
 refine go (cj4 @H @AV.eq_1 @B @hm @U7) ?_;exact At (cj2 AB7 @e @M);by_cases o2:o=2;subst o2;by_cases Q:G src % 2=1;have M:I7 2 (G src)=decide ((G src:Int)<=49):=by simp[I7,Q];omega
 refine go (cj4 @H @AV.eq_1 @B @hm @Q) ?_;exact At (cj2 AB7 @e @M);have M:I7 2 (G src)=false:=by simp[I7,Q]
 have U7:G src % 2=0:=by omega
 refine go (cj4 @H @AV.eq_1 @B @hm @U7) ?_;exact At (cj2 AB7 @e @M);have M:I7 o (G src)=false:=by simp[I7,o0,o1,o2]
 refine go (cj5 @H @AV.eq_1 @B @o0 @o1 @o2) ?_;exact At (cj2 AB7 @e @M)
theorem Ahr : ∀(l:List AA) (k:Nat) (h:k<G l),AA.Az (l.take (k+1))=AA.Az (l.take k)+(l[k]).cnt
 | [],k,h=>by simp at h
 | b::l,0,h=>by simp[AA.Az]
 | b::l,k+1,h=>by simp only[DP,AA.Az,AkF];rw[Ahr l k (by simpa using h)];omega
theorem wq : ∀(l:List AA) (k:Nat),AA.Az (l.take k)<=AA.Az l
 | [],k=>by simp[AA.Az]
 | b::l,0=>by simp[AA.Az]
 | b::l,k+1=>by have:=wq l k;simp only[DP,AA.Az];omega
theorem AEv : ∀(l:List AA) (b:AA),b∈l->b.cnt<=AA.Az l
 | [],b,h=>by cases h
 | x::l,b,h=>by
   simp only[AA.Az];rcases Cf.1 h with rfl|h
   omega;have:=AEv l b h;omega
theorem AjL : ∀(l:List AA) (k:Nat) (h:k<G l),AA.Hk (l.take (k+1))=max (AA.Hk (l.take k)) (l[k]).nest
 | [],k,h=>by simp at h
 | b::l,0,h=>by simp[AA.Hk]
 | b::l,k+1,h=>by simp only[DP,AA.Hk,AkF];rw[AjL l k (by simpa using h)];omega
mutual
theorem AmH : ∀b:AA,b.nest<=b.cnt
 | ⟨_,_,_,_,_,_,_,_,B,_,_⟩=>by have:=AUX B;simp only[AA.nest,AA.cnt];omega
theorem AUX : ∀l:List AA,AA.Hk l<=AA.Az l
 | []=>BN _
 | b::l=>by have:=AmH b;have:=AUX l;simp only[AA.Hk,AA.Az];omega
end
theorem Amo (Q R S q z b7:Int)(AE:List AA)(o:Int)(src:List Int)(hc:AA.cnt ⟨b0,b1,Q,R,S,q,z,b7,AE,o,src⟩<=1000000)(ih : ∀c∈AE,AC AF 251 [Ao c] (.c (.int .i64 (c.cnt:Int)))):AC AF 251 [Ao ⟨b0,b1,Q,R,S,q,z,b7,AE,o,src⟩] (.c (.int .i64 (AA.cnt ⟨b0,b1,Q,R,S,q,z,b7,AE,o,src⟩:Int))):=by
 have hR:AA.cnt ⟨b0,b1,Q,R,S,q,z,b7,AE,o,src⟩=1+AA.Az AE:=F;rw[hR]at hc ⊢;have Ce:=Ud AE;simp only[Ao,AA.row,Ap,BB];rw[Dt];obtain⟨BC,B⟩:∃BC,BC=([.c (.int .i64 b0),.c (.str b1),.c (.int .i64 Q),.c (.int .i64 R),.c (.int .i64 S),.c (.int .i64 q),.c (.int .i64 z),.c (.int .i64 b7),.c (.sl (AE.map AA.row)),.c (.int .i64 o),.c (AV src)]:List V):=⟨_,rfl⟩
 refine en uj ntmps251 ?_;refine Ah ?_;refine lp (ι:={ k:Nat // k<=G AE }) (λk=>[(3,.c (.int .i64 ((1+AA.Az (AE.take k.1):Nat):Int))),(4,.c (.int .i64 (k.1:Int)))]) (λ_=>[.box 41 BC U]) (λk=>G AE - k.1) ⟨0,by simp⟩ ?_ ?_;all_goals simp only[CG,Bw,CO,Ag,Ai]
 refine Le.MI 1 (F2 F) (by simp[DG,B,AV,AA.Az]) (by simp[B,AV,AA.Az]) (by simp[V.BI,V.A8]) (by simp[O.A8,V.BI,V.A8,B,AV,AA.Az]);rintro ⟨j,hj⟩;have Hx:=wq AE j;by_cases U4:j<G AE;obtain⟨c,H⟩:=AI (AE[j]);have Ax:=ih c (H ▸ Kq U4);have Av:G c.row=11:=by cases c;rfl
 have hw:AZ.wrap ((j:Int)+1)=((j+1:Nat):Int):=by rw[Ac];simp
 have ht:=Ahr AE j U4;rw[H]at ht;have A3:=wq AE (j+1);have A0:AZ.wrap (((1+AA.Az (AE.take j):Nat):Int)+(c.cnt:Int))=((1+AA.Az (AE.take (j+1)):Nat):Int):=by rw[Ac,ht];omega
 obtain⟨N,hN⟩:=AI c.cnt;obtain⟨M,hM⟩:∃M:Int,((1+AA.Az (AE.take j):Nat):Int)=M:=⟨_,rfl⟩
 rw[hN]at Ax;rw[hN,hM]at A0;rw[hM];obtain⟨ck,cn,cs,cw,ch,cd,cx,cy,A1,co,A2⟩:=c;simp only[Ao,AA.row,Ap,BB]at Ax;refine go (cj3 @B @U4 @H @AA.row.eq_1) ?_;refine gc @A0 (Ax) uj ?_;refine go (cj @B<|@hw) ?_;refine⟨⟨j+1,by omega⟩,by simp only;omega,?_⟩;refine Le.MI 1 (F2 F) (by simp[DG,B,AV]) (by simp[B,AV]) (by simp[V.BI,V.A8]) (by simp[O.A8,V.BI,V.A8,B,AV]);have e:AE.take j=AE:=Gl (by omega);rw[e];refine go (cj @B<|@U4) ?_;exact At results251
theorem Ajb : ∀(n:Nat) (b:AA),UF b<n->b.cnt<=1000000->AC AF 251 [Ao b] (.c (.int .i64 (b.cnt:Int)))
 | 0,b,h,_=>absurd h (by omega)
 | n+1,⟨b0,b1,Q,R,S,q,z,b7,B,o,src⟩,hn,H=>by
   have hq:=H;simp only[AA.cnt]at hq;exact Amo b0 b1 Q R S q z b7 B o src H λc M=>Ajb n c (by
    have:=gD M;simp only[AA.mk.sizeOf_spec]at hn;omega) (by have:=AEv B c M;omega)
theorem Amn (h:b.cnt<=1000000):AC AF 251 [Ao b] (.c (.int .i64 (b.cnt:Int))):=Ajb (UF b+1) b (by omega) h
theorem Am9 (Q R S q z b7:Int)(AE:List AA)(o:Int)(src:List Int)(hc:AA.cnt ⟨b0,b1,Q,R,S,q,z,b7,AE,o,src⟩<=1000000)(ih : ∀c∈AE,AC AF 252 [Ao c] (.c (.int .i64 (c.nest:Int)))):AC AF 252 [Ao ⟨b0,b1,Q,R,S,q,z,b7,AE,o,src⟩] (.c (.int .i64 (AA.nest ⟨b0,b1,Q,R,S,q,z,b7,AE,o,src⟩:Int))):=by
 have hR:AA.nest ⟨b0,b1,Q,R,S,q,z,b7,AE,o,src⟩=AA.Hk AE+1:=F;have jT:AA.cnt ⟨b0,b1,Q,R,S,q,z,b7,AE,o,src⟩=1+AA.Az AE:=F;rw[jT]at hc;rw[hR];have Ce:=Ud AE;have IJ:=AUX AE;simp only[Ao,AA.row,Ap,BB];rw[Dt];obtain⟨BC,B⟩:∃BC,BC=([.c (.int .i64 b0),.c (.str b1),.c (.int .i64 Q),.c (.int .i64 R),.c (.int .i64 S),.c (.int .i64 q),.c (.int .i64 z),.c (.int .i64 b7),.c (.sl (AE.map AA.row)),.c (.int .i64 o),.c (AV src)]:List V):=⟨_,rfl⟩
 refine en func252 ntmps252 ?_;refine Ah ?_;refine lp (ι:={ k:Nat // k<=G AE }) (λk=>[(3,.c (.int .i64 ((AA.Hk (AE.take k.1):Nat):Int))),(4,.c (.int .i64 (k.1:Int)))]) (λ_=>[.box 41 BC U]) (λk=>G AE - k.1) ⟨0,by simp⟩ ?_ ?_;all_goals simp only[CG,Bw,CO,Ag,Ai]
 refine Le.MI 1 (F2 F) (by simp[DG,B,AV,AA.Hk]) (by simp[B,AV,AA.Hk]) (by simp[V.BI,V.A8]) (by simp[O.A8,V.BI,V.A8,B,AV,AA.Hk]);rintro ⟨j,hj⟩;by_cases U4:j<G AE;obtain⟨c,H⟩:=AI (AE[j]);have Ax:=ih c (H ▸ Kq U4);have Av:G c.row=11:=by cases c;rfl
 have hw:AZ.wrap ((j:Int)+1)=((j+1:Nat):Int):=by rw[Ac];simp
 have ht:=AjL AE j U4;rw[H]at ht;have A0:(if ((AA.Hk (AE.take j):Nat):Int)<(c.nest:Int)then(c.nest:Int)else((AA.Hk (AE.take j):Nat):Int))=((AA.Hk (AE.take (j+1)):Nat):Int):=by rw[ht];split<;>omega
 obtain⟨N,hN⟩:∃N:Int,(c.nest:Int)=N:=⟨_,rfl⟩
 obtain⟨M,hM⟩:∃M:Int,((AA.Hk (AE.take j):Nat):Int)=M:=⟨_,rfl⟩
 rw[hN]at Ax;rw[hN,hM]at A0;rw[hM];obtain⟨ck,cn,cs,cw,ch,cd,cx,cy,A1,co,A2⟩:=c;simp only[Ao,AA.row,Ap,BB]at Ax;refine go (cj3 @B @U4 @H @AA.row.eq_1) ?_;refine gc @A0 (Ax) func252 ?_;refine go (cj @B<|@hw) ?_;refine⟨⟨j+1,by omega⟩,by simp only;omega,?_⟩;refine Le.MI 1 (F2 F) (by simp[DG,B,AV]) (by simp[B,AV]) (by simp[V.BI,V.A8]) (by simp[O.A8,V.BI,V.A8,B,AV]);have e:AE.take j=AE:=Gl (by omega);have hw:AZ.wrap ((AA.Hk AE:Int)+1)=((AA.Hk AE+1:Nat):Int):=by rw[Ac];simp
 rw[e];refine go (cj2 @B @U4 @hw) ?_;exact At results252
theorem Ajj : ∀(n:Nat) (b:AA),UF b<n->b.cnt<=1000000->AC AF 252 [Ao b] (.c (.int .i64 (b.nest:Int)))
 | 0,b,h,_=>absurd h (by omega)
 | n+1,⟨b0,b1,Q,R,S,q,z,b7,B,o,src⟩,hn,H=>by
   have hq:=H;simp only[AA.cnt]at hq;exact Am9 b0 b1 Q R S q z b7 B o src H λc M=>Ajj n c (by
    have:=gD M;simp only[AA.mk.sizeOf_spec]at hn;omega) (by have:=AEv B c M;omega)
theorem Am8 (h:b.cnt<=1000000):AC AF 252 [Ao b] (.c (.int .i64 (b.nest:Int))):=Ajj (UF b+1) b (by omega) h
mutual
def AA.BX:AA->Prop
 | ⟨_,n,_,_,_,_,_,_,AE,_,src⟩=>n.size<=maxLen/\(G src)<=maxLen/\AA.FY AE
def AA.FY:List AA->Prop
 | []=>True
 | b::l=>b.BX/\AA.FY l
end
theorem kl : ∀ {l:List AA},AA.FY l->∀b∈l,b.BX
 | [],_,b,h=>by cases h
 | x::l,B,b,h=>by
   simp only[AA.FY]at B;rcases Cf.1 h with rfl|h
   exact B.1;exact kl B.2 b h
theorem AnH (H Q R S q b7:Int)(AE:List AA)(o:Int)(src:List Int)(hn:b1.size<=maxLen)(hs:G src<=maxLen)(Ce:G AE<=1000000)(ih : ∀c∈AE,AC AF 250 [Ao c] (.c (.bool c.D8))):AC AF 250 [Ao ⟨1,b1,H,Q,R,S,q,b7,AE,o,src⟩] (.c (.bool (AA.D8 ⟨1,b1,H,Q,R,S,q,b7,AE,o,src⟩))):=by
 have Gt:=AP5 (1) b1 H Q R S q b7 AE o src hs;obtain⟨SB,J5⟩:=AI (AA.Js ⟨1,b1,H,Q,R,S,q,b7,AE,o,src⟩);rw[J5]at Gt;obtain⟨KB,J4⟩:=AI (AA.Fi ⟨1,b1,H,Q,R,S,q,b7,AE,o,src⟩);obtain⟨L,hL⟩:∃L,L=[Q,R,S,q,b7]:=⟨_,rfl⟩
 have Io:G L=5:=by rw[hL];rfl
 have hR:AA.D8 ⟨1,b1,H,Q,R,S,q,b7,AE,o,src⟩=(L.all An && (KB && SB) && AA.FU AE):=by
  simp only[AA.D8,AA.Cl,J5,J4,AA.lens,hL]
 have A5:KB=AA.Fi ⟨1,b1,H,Q,R,S,q,b7,AE,o,src⟩:=J4.symm;rw[hR];simp only[Ao,AA.row,Ap,BB]at Gt;rw[Dt]at Gt;simp only[Ao,AA.row,Ap,BB];rw[Dt];obtain⟨BC,B⟩:∃BC,BC=([.c (.int .i64 1),.c (.str b1),.c (.int .i64 H),.c (.int .i64 Q),.c (.int .i64 R),.c (.int .i64 S),.c (.int .i64 q),.c (.int .i64 b7),.c (.sl (AE.map AA.row)),.c (.int .i64 o),.c (AV src)]:List V):=⟨_,rfl⟩
 refine en SC ARG ?_;refine Ah ?_;refine lp (ι:={ k:Nat // k<=5/\L.all An=(L.drop k).all An }) (λk=>[(3,.Bg (L.map λn=>[.int .i64 n])),(4,.c (.int .i64 (k.1:Int))),(2,.c (.bool U))]) (λ_=>[.box 41 BC U]) (λk=>5 - k.1) ⟨0,by simp⟩ ?_ ?_;all_goals simp only[CG,Bw,CO,Ag,Ai]
 refine Le.MI 1 (F2 F) (by simp[DG,B,AV,hL]) (by simp[B,AV,hL]) (by simp[V.BI,V.A8]) (by simp[O.A8,V.BI,V.A8,B,AV,hL])
 . rintro ⟨i,hi,hA⟩;by_cases A1:i<5;have Dn:i<G L:=by omega
   have M:(i:Int)<5:=by omega
   rw[D5 Dn,Ep]at hA;obtain⟨z,hz⟩:=AI (L[i]);rw[hz]at hA;have hw:AZ.wrap ((i:Int)+1)=((i+1:Nat):Int):=by rw[Ac];simp
   by_cases h1:z < -1073741824;have e:L.all An=false:=by rw[hA];simp[An];omega
   refine go (cj6 @B @Io @A1 @M @Dn @hz @h1) ?_;exact At (cj2 IC @hR @e);by_cases h2:1073741824<z;have e:L.all An=false:=by rw[hA];simp[An];omega
   refine go (cj7 @B @Io @A1 @M @Dn @hz @h1 @h2) ?_;exact At (cj2 IC @hR @e);have e:L.all An=(L.drop (i+1)).all An:=by
    have:An z=true:=by simp[An];omega
    rw[hA,this,Cd]
   refine go (cj8 @B @Io @A1 @M @Dn @hz @h1 @h2 @hw) ?_;refine⟨⟨i+1,by omega,e⟩,by simp only;omega,?_⟩;refine Le.MI 1 (F2 F) (by simp[DG,B,AV]) (by simp[B,AV]) (by simp[V.BI,V.A8]) (by simp[O.A8,V.BI,V.A8,B,AV])
   . have Au:L.all An=true:=by rw[hA,FA (by omega)];rfl
     have M : ¬(i:Int)<5:=by omega
     have hA:=Au;have Hy:=XN b1 hn;have LB:KB=(Ck b1 && (decide (1<=H) && (decide (H<=1000) && decide (G AE=0)))):=A5;cases II:Ck b1 with
     | false=>rw[II]at Hy LB;have hK:KB=false:=LB;refine go (cj2 @B @Io @M) ?_;refine BZ (Hy) Jy ?_;refine Ah ?_;exact At (cj2 IC @hR @hK)
     | true =>
       rw[II]at Hy LB;by_cases s1:H<1;have hK:KB=false:=by rw[LB];simp;omega
       refine go (cj2 @B @Io @M) ?_;refine gc (cj @B<|@s1) (Hy) Jy ?_;refine Ah ?_;exact At (cj2 IC @hR @hK)
       . by_cases s2:1000<H;have hK:KB=false:=by rw[LB];simp;omega
         refine go (cj2 @B @Io @M) ?_;refine gc (cj2 @B @s1 @s2) (Hy) Jy ?_;refine Ah ?_;exact At (cj2 IC @hR @hK)
         . by_cases s3:0<G AE;have hK:KB=false:=by rw[LB];simp;intro _ _ h;rw[h]at s3;simp at s3
           refine go (cj2 @B @Io @M) ?_;refine gc (cj3 @B @s1 @s2 @s3) (Hy) Jy ?_;refine Ah ?_;exact At (cj2 IC @hR @hK)
           . have hK:KB=true:=by rw[LB];simp;exact⟨by omega,by omega,Nr (by omega)⟩
             refine go (cj2 @B @Io @M) ?_;refine gc (cj3 @B @s1 @s2 @s3) (Hy) Jy ?_;refine go (cj @B<|@AV.eq_1) ?_;refine lp (ι:={ k:Nat // k<=G AE/\AA.FU AE=AA.FU (AE.drop k) }) (λk=>[(5,.c (.int .i64 (k.1:Int))),(2,.c (.bool U))]) (λ_=>[.box 41 BC U]) (λk=>G AE - k.1) ⟨0,by simp⟩ ?_ ?_;all_goals simp only[CG,Bw,CO,Ag,Ai]
             refine Le.MI 1 (F2 F) (by simp[DG,B,AV]) (by simp[B,AV]) (by simp[V.BI,V.A8]) (by simp[O.A8,V.BI,V.A8,B,AV]);rintro ⟨j,hj,hI⟩;by_cases U4:j<G AE;rw[D5 U4]at hI;obtain⟨c,A0⟩:=AI (AE[j]);rw[A0]at hI;simp only[AA.FU]at hI;have Ax:=ih c (A0 ▸ Kq U4);have hw:AZ.wrap ((j:Int)+1)=((j+1:Nat):Int):=by rw[Ac];simp
             cases hp:c.D8 with
             | false =>
               rw[hp]at Ax hI;have e:AA.FU AE=false:=by rw[hI];rfl
               obtain⟨ck,cn,cs,cw,ch,cd,cx,cy,A2,co,A3⟩:=c;simp only[Ao,AA.row,Ap,BB]at Ax;refine go (cj3 @B @U4 @A0 @AA.row.eq_1) ?_;refine BZ (Ax) SC ?_;refine go @B ?_;exact At (cj2 IC @hR @e)
             | true =>
               rw[hp]at Ax hI;have e:AA.FU AE=AA.FU (AE.drop (j+1)):=by rw[hI];rfl
               obtain⟨ck,cn,cs,cw,ch,cd,cx,cy,A2,co,A3⟩:=c;simp only[Ao,AA.row,Ap,BB]at Ax;refine go (cj3 @B @U4 @A0 @AA.row.eq_1) ?_;refine BZ (Ax) SC ?_;refine go (cj @B<|@hw) ?_;refine⟨⟨j+1,by omega,e⟩,by simp only;omega,?_⟩;refine Le.MI 1 (F2 F) (by simp[DG,B,AV]) (by simp[B,AV]) (by simp[V.BI,V.A8]) (by simp[O.A8,V.BI,V.A8,B,AV])
             have e:AA.FU AE=true:=by rw[hI,FA (by omega)];rfl
             refine go (cj @B<|@U4) ?_;refine BZ (Gt) AQh ?_;refine Ah ?_;exact At (cj4 IC @hR @e @hK @hA)
theorem AnI (H M Q R S q:Int)(AE:List AA)(o:Int)(src:List Int)(hn:b1.size<=maxLen)(hs:G src<=maxLen)(Ce:G AE<=1000000)(ih : ∀c∈AE,AC AF 250 [Ao c] (.c (.bool c.D8))):AC AF 250 [Ao ⟨2,b1,H,M,Q,R,S,q,AE,o,src⟩] (.c (.bool (AA.D8 ⟨2,b1,H,M,Q,R,S,q,AE,o,src⟩))):=by
 have Gt:=AP5 (2) b1 H M Q R S q AE o src hs;obtain⟨SB,J5⟩:=AI (AA.Js ⟨2,b1,H,M,Q,R,S,q,AE,o,src⟩);rw[J5]at Gt;obtain⟨KB,J4⟩:=AI (AA.Fi ⟨2,b1,H,M,Q,R,S,q,AE,o,src⟩);obtain⟨L,hL⟩:∃L,L=[M,Q,R,S,q]:=⟨_,rfl⟩
 have Io:G L=5:=by rw[hL];rfl
 have hR:AA.D8 ⟨2,b1,H,M,Q,R,S,q,AE,o,src⟩=(L.all An && (KB && SB) && AA.FU AE):=by
  simp only[AA.D8,AA.Cl,J5,J4,AA.lens,hL]
 have A1:KB=AA.Fi ⟨2,b1,H,M,Q,R,S,q,AE,o,src⟩:=J4.symm;rw[hR];simp only[Ao,AA.row,Ap,BB]at Gt;rw[Dt]at Gt;simp only[Ao,AA.row,Ap,BB];rw[Dt];obtain⟨BC,B⟩:∃BC,BC=([.c (.int .i64 2),.c (.str b1),.c (.int .i64 H),.c (.int .i64 M),.c (.int .i64 Q),.c (.int .i64 R),.c (.int .i64 S),.c (.int .i64 q),.c (.sl (AE.map AA.row)),.c (.int .i64 o),.c (AV src)]:List V):=⟨_,rfl⟩
 refine en SC ARG ?_;refine Ah ?_;refine lp (ι:={ k:Nat // k<=5/\L.all An=(L.drop k).all An }) (λk=>[(3,.Bg (L.map λn=>[.int .i64 n])),(4,.c (.int .i64 (k.1:Int))),(2,.c (.bool U))]) (λ_=>[.box 41 BC U]) (λk=>5 - k.1) ⟨0,by simp⟩ ?_ ?_;all_goals simp only[CG,Bw,CO,Ag,Ai]
 refine Le.MI 1 (F2 F) (by simp[DG,B,AV,hL]) (by simp[B,AV,hL]) (by simp[V.BI,V.A8]) (by simp[O.A8,V.BI,V.A8,B,AV,hL])
 . rintro ⟨i,hi,hA⟩;by_cases A2:i<5;have Dn:i<G L:=by omega
   have BD:(i:Int)<5:=by omega
   rw[D5 Dn,Ep]at hA;obtain⟨z,hz⟩:=AI (L[i]);rw[hz]at hA;have hw:AZ.wrap ((i:Int)+1)=((i+1:Nat):Int):=by rw[Ac];simp
   by_cases h1:z < -1073741824;have e:L.all An=false:=by rw[hA];simp[An];omega
   refine go (cj6 @B @Io @A2 @BD @Dn @hz @h1) ?_;exact At (cj2 IC @hR @e);by_cases h2:1073741824<z;have e:L.all An=false:=by rw[hA];simp[An];omega
   refine go (cj7 @B @Io @A2 @BD @Dn @hz @h1 @h2) ?_;exact At (cj2 IC @hR @e);have e:L.all An=(L.drop (i+1)).all An:=by
    have:An z=true:=by simp[An];omega
    rw[hA,this,Cd]
   refine go (cj8 @B @Io @A2 @BD @Dn @hz @h1 @h2 @hw) ?_;refine⟨⟨i+1,by omega,e⟩,by simp only;omega,?_⟩;refine Le.MI 1 (F2 F) (by simp[DG,B,AV]) (by simp[B,AV]) (by simp[V.BI,V.A8]) (by simp[O.A8,V.BI,V.A8,B,AV])
   . have Au:L.all An=true:=by rw[hA,FA (by omega)];rfl
     have BD : ¬(i:Int)<5:=by omega
     have hA:=Au;by_cases n1:b1=⟨#[]⟩
     . by_cases s0:H=0
       . subst n1 s0
         . by_cases s3:0<G AE;have hK:KB=false:=by rw[A1];simp[AA.Fi];intro h;rw[h]at s3;simp at s3
           refine go (cj3 @B @Io @BD @s3) ?_;exact At (cj2 IC @hR @hK)
           . have hK:KB=true:=by rw[A1];simp[AA.Fi];exact Nr (by omega)
             refine go (cj4 @B @AV.eq_1 @Io @BD @s3) ?_;refine lp (ι:={ k:Nat // k<=G AE/\AA.FU AE=AA.FU (AE.drop k) }) (λk=>[(5,.c (.int .i64 (k.1:Int))),(2,.c (.bool U))]) (λ_=>[.box 41 BC U]) (λk=>G AE - k.1) ⟨0,by simp⟩ ?_ ?_;all_goals simp only[CG,Bw,CO,Ag,Ai]
             refine Le.MI 1 (F2 F) (by simp[DG,B,AV]) (by simp[B,AV]) (by simp[V.BI,V.A8]) (by simp[O.A8,V.BI,V.A8,B,AV]);rintro ⟨j,hj,hI⟩;by_cases U4:j<G AE;rw[D5 U4]at hI;obtain⟨c,A0⟩:=AI (AE[j]);rw[A0]at hI;simp only[AA.FU]at hI;have Ax:=ih c (A0 ▸ Kq U4);have hw:AZ.wrap ((j:Int)+1)=((j+1:Nat):Int):=by rw[Ac];simp
             cases hp:c.D8 with
             | false =>
               rw[hp]at Ax hI;have e:AA.FU AE=false:=by rw[hI];rfl
               obtain⟨ck,cn,cs,cw,ch,cd,cx,cy,A3,co,A5⟩:=c;simp only[Ao,AA.row,Ap,BB]at Ax;refine go (cj3 @B @U4 @A0 @AA.row.eq_1) ?_;refine BZ (Ax) SC ?_;refine go @B ?_;exact At (cj2 IC @hR @e)
             | true =>
               rw[hp]at Ax hI;have e:AA.FU AE=AA.FU (AE.drop (j+1)):=by rw[hI];rfl
               obtain⟨ck,cn,cs,cw,ch,cd,cx,cy,A3,co,A5⟩:=c;simp only[Ao,AA.row,Ap,BB]at Ax;refine go (cj3 @B @U4 @A0 @AA.row.eq_1) ?_;refine BZ (Ax) SC ?_;refine go (cj @B<|@hw) ?_;refine⟨⟨j+1,by omega,e⟩,by simp only;omega,?_⟩;refine Le.MI 1 (F2 F) (by simp[DG,B,AV]) (by simp[B,AV]) (by simp[V.BI,V.A8]) (by simp[O.A8,V.BI,V.A8,B,AV])
             have e:AA.FU AE=true:=by rw[hI,FA (by omega)];rfl
             refine go (cj @B<|@U4) ?_;refine BZ (Gt) AQh ?_;refine Ah ?_;exact At (cj4 IC @hR @e @hK @hA)
       have hK:KB=false:=by rw[A1];simp[AA.Fi,s0]
       subst n1;refine go (cj3 @B @Io @BD @s0) ?_;exact At (cj2 IC @hR @hK)
     have hK:KB=false:=by rw[A1];simp[AA.Fi,n1]
     refine go (cj3 @B @Io @BD @n1) ?_;exact At (cj2 IC @hR @hK)
theorem AnJ (H M Q R S q:Int)(AE:List AA)(o:Int)(src:List Int)(hn:b1.size<=maxLen)(hs:G src<=maxLen)(Ce:G AE<=1000000)(ih : ∀c∈AE,AC AF 250 [Ao c] (.c (.bool c.D8))):AC AF 250 [Ao ⟨3,b1,H,M,Q,R,S,q,AE,o,src⟩] (.c (.bool (AA.D8 ⟨3,b1,H,M,Q,R,S,q,AE,o,src⟩))):=by
 have Gt:=AP5 (3) b1 H M Q R S q AE o src hs;obtain⟨SB,J5⟩:=AI (AA.Js ⟨3,b1,H,M,Q,R,S,q,AE,o,src⟩);rw[J5]at Gt;obtain⟨KB,J4⟩:=AI (AA.Fi ⟨3,b1,H,M,Q,R,S,q,AE,o,src⟩);obtain⟨L,hL⟩:∃L,L=[M,Q,R,S,q]:=⟨_,rfl⟩
 have Io:G L=5:=by rw[hL];rfl
 have hR:AA.D8 ⟨3,b1,H,M,Q,R,S,q,AE,o,src⟩=(L.all An && (KB && SB) && AA.FU AE):=by
  simp only[AA.D8,AA.Cl,J5,J4,AA.lens,hL]
 have A1:KB=AA.Fi ⟨3,b1,H,M,Q,R,S,q,AE,o,src⟩:=J4.symm;rw[hR];simp only[Ao,AA.row,Ap,BB]at Gt;rw[Dt]at Gt;simp only[Ao,AA.row,Ap,BB];rw[Dt];obtain⟨BC,B⟩:∃BC,BC=([.c (.int .i64 3),.c (.str b1),.c (.int .i64 H),.c (.int .i64 M),.c (.int .i64 Q),.c (.int .i64 R),.c (.int .i64 S),.c (.int .i64 q),.c (.sl (AE.map AA.row)),.c (.int .i64 o),.c (AV src)]:List V):=⟨_,rfl⟩
 refine en SC ARG ?_;refine Ah ?_;refine lp (ι:={ k:Nat // k<=5/\L.all An=(L.drop k).all An }) (λk=>[(3,.Bg (L.map λn=>[.int .i64 n])),(4,.c (.int .i64 (k.1:Int))),(2,.c (.bool U))]) (λ_=>[.box 41 BC U]) (λk=>5 - k.1) ⟨0,by simp⟩ ?_ ?_;all_goals simp only[CG,Bw,CO,Ag,Ai]
 refine Le.MI 1 (F2 F) (by simp[DG,B,AV,hL]) (by simp[B,AV,hL]) (by simp[V.BI,V.A8]) (by simp[O.A8,V.BI,V.A8,B,AV,hL])
 . rintro ⟨i,hi,hA⟩;by_cases A2:i<5;have Dn:i<G L:=by omega
   have BD:(i:Int)<5:=by omega
   rw[D5 Dn,Ep]at hA;obtain⟨z,hz⟩:=AI (L[i]);rw[hz]at hA;have hw:AZ.wrap ((i:Int)+1)=((i+1:Nat):Int):=by rw[Ac];simp
   by_cases h1:z < -1073741824;have e:L.all An=false:=by rw[hA];simp[An];omega
   refine go (cj6 @B @Io @A2 @BD @Dn @hz @h1) ?_;exact At (cj2 IC @hR @e);by_cases h2:1073741824<z;have e:L.all An=false:=by rw[hA];simp[An];omega
   refine go (cj7 @B @Io @A2 @BD @Dn @hz @h1 @h2) ?_;exact At (cj2 IC @hR @e);have e:L.all An=(L.drop (i+1)).all An:=by
    have:An z=true:=by simp[An];omega
    rw[hA,this,Cd]
   refine go (cj8 @B @Io @A2 @BD @Dn @hz @h1 @h2 @hw) ?_;refine⟨⟨i+1,by omega,e⟩,by simp only;omega,?_⟩;refine Le.MI 1 (F2 F) (by simp[DG,B,AV]) (by simp[B,AV]) (by simp[V.BI,V.A8]) (by simp[O.A8,V.BI,V.A8,B,AV])
   . have Au:L.all An=true:=by rw[hA,FA (by omega)];rfl
     have BD : ¬(i:Int)<5:=by omega
     have hA:=Au;by_cases n1:b1=⟨#[]⟩
     . by_cases s0:H=0
       . subst n1 s0
         . have hK:KB=true:=by rw[A1];simp[AA.Fi]
           refine go (cj3 @B @AV.eq_1 @Io @BD) ?_;refine lp (ι:={ k:Nat // k<=G AE/\AA.FU AE=AA.FU (AE.drop k) }) (λk=>[(5,.c (.int .i64 (k.1:Int))),(2,.c (.bool U))]) (λ_=>[.box 41 BC U]) (λk=>G AE - k.1) ⟨0,by simp⟩ ?_ ?_;all_goals simp only[CG,Bw,CO,Ag,Ai]
           refine Le.MI 1 (F2 F) (by simp[DG,B,AV]) (by simp[B,AV]) (by simp[V.BI,V.A8]) (by simp[O.A8,V.BI,V.A8,B,AV]);rintro ⟨j,hj,hI⟩;by_cases U4:j<G AE;rw[D5 U4]at hI;obtain⟨c,A0⟩:=AI (AE[j]);rw[A0]at hI;simp only[AA.FU]at hI;have Ax:=ih c (A0 ▸ Kq U4);have hw:AZ.wrap ((j:Int)+1)=((j+1:Nat):Int):=by rw[Ac];simp
           cases hp:c.D8 with
           | false =>
             rw[hp]at Ax hI;have e:AA.FU AE=false:=by rw[hI];rfl
             obtain⟨ck,cn,cs,cw,ch,cd,cx,cy,A3,co,A5⟩:=c;simp only[Ao,AA.row,Ap,BB]at Ax;refine go (cj3 @B @U4 @A0 @AA.row.eq_1) ?_;refine BZ (Ax) SC ?_;refine go @B ?_;exact At (cj2 IC @hR @e)
           | true =>
             rw[hp]at Ax hI;have e:AA.FU AE=AA.FU (AE.drop (j+1)):=by rw[hI];rfl
             obtain⟨ck,cn,cs,cw,ch,cd,cx,cy,A3,co,A5⟩:=c;simp only[Ao,AA.row,Ap,BB]at Ax;refine go (cj3 @B @U4 @A0 @AA.row.eq_1) ?_;refine BZ (Ax) SC ?_;refine go (cj @B<|@hw) ?_;refine⟨⟨j+1,by omega,e⟩,by simp only;omega,?_⟩;refine Le.MI 1 (F2 F) (by simp[DG,B,AV]) (by simp[B,AV]) (by simp[V.BI,V.A8]) (by simp[O.A8,V.BI,V.A8,B,AV])
           have e:AA.FU AE=true:=by rw[hI,FA (by omega)];rfl
           refine go (cj @B<|@U4) ?_;refine BZ (Gt) AQh ?_;refine Ah ?_;exact At (cj4 IC @hR @e @hK @hA)
       have hK:KB=false:=by rw[A1];simp[AA.Fi,s0]
       subst n1;refine go (cj3 @B @Io @BD @s0) ?_;exact At (cj2 IC @hR @hK)
     have hK:KB=false:=by rw[A1];simp[AA.Fi,n1]
     refine go (cj3 @B @Io @BD @n1) ?_;exact At (cj2 IC @hR @hK)
theorem AnK (q H M Q R S:Int)(AE:List AA)(o:Int)(src:List Int)(k1 : ¬b0=1)(k2 : ¬b0=2)(k3 : ¬b0=3)(hn:b1.size<=maxLen)(hs:G src<=maxLen)(Ce:G AE<=1000000)(ih : ∀c∈AE,AC AF 250 [Ao c] (.c (.bool c.D8))):AC AF 250 [Ao ⟨b0,b1,q,H,M,Q,R,S,AE,o,src⟩] (.c (.bool (AA.D8 ⟨b0,b1,q,H,M,Q,R,S,AE,o,src⟩))):=by
 have Gt:=AP5 b0 b1 q H M Q R S AE o src hs;obtain⟨SB,J5⟩:=AI (AA.Js ⟨b0,b1,q,H,M,Q,R,S,AE,o,src⟩);rw[J5]at Gt;obtain⟨KB,J4⟩:=AI (AA.Fi ⟨b0,b1,q,H,M,Q,R,S,AE,o,src⟩);obtain⟨L,hL⟩:∃L,L=[H,M,Q,R,S]:=⟨_,rfl⟩
 have Io:G L=5:=by rw[hL];rfl
 have hR:AA.D8 ⟨b0,b1,q,H,M,Q,R,S,AE,o,src⟩=(L.all An && (KB && SB) && AA.FU AE):=by
  simp only[AA.D8,AA.Cl,J5,J4,AA.lens,hL]
 have A1:KB=AA.Fi ⟨b0,b1,q,H,M,Q,R,S,AE,o,src⟩:=J4.symm;rw[hR];simp only[Ao,AA.row,Ap,BB]at Gt;rw[Dt]at Gt;simp only[Ao,AA.row,Ap,BB];rw[Dt];obtain⟨BC,B⟩:∃BC,BC=([.c (.int .i64 b0),.c (.str b1),.c (.int .i64 q),.c (.int .i64 H),.c (.int .i64 M),.c (.int .i64 Q),.c (.int .i64 R),.c (.int .i64 S),.c (.sl (AE.map AA.row)),.c (.int .i64 o),.c (AV src)]:List V):=⟨_,rfl⟩
 refine en SC ARG ?_;refine Ah ?_;refine lp (ι:={ k:Nat // k<=5/\L.all An=(L.drop k).all An }) (λk=>[(3,.Bg (L.map λn=>[.int .i64 n])),(4,.c (.int .i64 (k.1:Int))),(2,.c (.bool U))]) (λ_=>[.box 41 BC U]) (λk=>5 - k.1) ⟨0,by simp⟩ ?_ ?_;all_goals simp only[CG,Bw,CO,Ag,Ai]
 refine Le.MI 1 (F2 F) (by simp[DG,B,AV,hL]) (by simp[B,AV,hL]) (by simp[V.BI,V.A8]) (by simp[O.A8,V.BI,V.A8,B,AV,hL]);rintro ⟨i,hi,hA⟩;by_cases A0:i<5;have Dn:i<G L:=by omega
 have BD:(i:Int)<5:=by omega
 rw[D5 Dn,Ep]at hA;obtain⟨z,hz⟩:=AI (L[i]);rw[hz]at hA;have hw:AZ.wrap ((i:Int)+1)=((i+1:Nat):Int):=by rw[Ac];simp
 by_cases h1:z < -1073741824;have e:L.all An=false:=by rw[hA];simp[An];omega
 refine go (cj6 @B @Io @A0 @BD @Dn @hz @h1) ?_;exact At (cj2 IC @hR @e);by_cases h2:1073741824<z;have e:L.all An=false:=by rw[hA];simp[An];omega
 refine go (cj7 @B @Io @A0 @BD @Dn @hz @h1 @h2) ?_;exact At (cj2 IC @hR @e);have e:L.all An=(L.drop (i+1)).all An:=by
  have:An z=true:=by simp[An];omega
  rw[hA,this,Cd]
 refine go (cj8 @B @Io @A0 @BD @Dn @hz @h1 @h2 @hw) ?_;refine⟨⟨i+1,by omega,e⟩,by simp only;omega,?_⟩;refine Le.MI 1 (F2 F) (by simp[DG,B,AV]) (by simp[B,AV]) (by simp[V.BI,V.A8]) (by simp[O.A8,V.BI,V.A8,B,AV]);have Au:L.all An=true:=by rw[hA,FA (by omega)];rfl
 have BD : ¬(i:Int)<5:=by omega
 have hA:=Au;have hK:KB=false:=by rw[A1];simp[AA.Fi,k1,k2,k3]
 refine go (cj5 @B @Io @BD @k1 @k2 @k3) ?_;exact At (cj2 IC @hR @hK)
theorem AnL (B H M Q R S:Int)(AE:List AA)(o:Int)(src:List Int)(z:b1.size<=maxLen)(hs:G src<=maxLen)(q:G AE<=1000000)(ih : ∀c∈AE,AC AF 250 [Ao c] (.c (.bool c.D8))):AC AF 250 [Ao ⟨b0,b1,B,H,M,Q,R,S,AE,o,src⟩] (.c (.bool (AA.D8 ⟨b0,b1,B,H,M,Q,R,S,AE,o,src⟩))):=by
 by_cases k1:b0=1;subst k1;exact AnH b1 B H M Q R S AE o src z hs q ih;by_cases k2:b0=2;subst k2;exact AnI b1 B H M Q R S AE o src z hs q ih;by_cases k3:b0=3;subst k3;exact AnJ b1 B H M Q R S AE o src z hs q ih;exact AnK b0 b1 B H M Q R S AE o src k1 k2 k3 z hs q ih
theorem Ajm : ∀(n:Nat) (b:AA),UF b<n->b.BX/\b.cnt<=1000000->AC AF 250 [Ao b] (.c (.bool b.D8))
 | 0,b,h,_=>absurd h (by omega)
 | n+1,⟨b0,b1,Q,R,S,q,z,b7,H,o,src⟩,hn,B=>by
   have hq:=B.2;simp only[AA.cnt]at hq;have hl:=Ud H;exact AnL b0 b1 Q R S q z b7 H o src B.1.1 B.1.2.1 (by omega) λc M=>Ajm n c (by
    have:=gD M;simp only[AA.mk.sizeOf_spec]at hn;omega) ⟨kl B.1.2.2 c M,by have:=AEv H c M;omega⟩
theorem AnG (h:b.BX/\b.cnt<=1000000):AC AF 250 [Ao b] (.c (.bool b.D8)):=Ajm (UF b+1) b (by omega) h
theorem m7 (ho:b.BX)(S:b.cnt<=1000000):AC AF 189 [Ao b] (.c (.bool b.Ad)):=by
 have B:=AnG b ⟨ho,S⟩;have H:=Amn b S;have R:=Am8 b S;have hR:b.Ad=(b.D8 && (decide ((b.cnt:Int)<=20000) && decide ((b.nest:Int)<=100))):=by
  unfold AA.Ad;congr 2<;>rw[decide_eq_decide]<;>omega
 rw[hR];obtain⟨N,hN⟩:∃N:Int,(b.cnt:Int)=N:=⟨_,rfl⟩
 obtain⟨M,hM⟩:∃M:Int,(b.nest:Int)=M:=⟨_,rfl⟩
 rw[hN]at H ⊢;rw[hM]at R ⊢;cases q:b.D8 with
 | false=>rw[q]at B;obtain⟨b0,b1,b2,b3,b4,b5,b6,b7,z,o,src⟩:=b;simp only[Ao,AA.row,Ap,BB]at B H R ⊢;refine en nC nQ ?_;refine Ah ?_;refine BZ (B) SC ?_;refine Ah ?_;exact At Py
 | true =>
   rw[q]at B;obtain⟨b0,b1,b2,b3,b4,b5,b6,b7,z,o,src⟩:=b;simp only[Ao,AA.row,Ap,BB]at B H R ⊢;by_cases Q:N<=20000;refine en nC nQ ?_;refine Ah ?_;refine BZ (B) SC ?_;refine gc @Q (H) uj ?_;refine BZ (R) func252 ?_;refine Ah ?_;exact At (cj Py<| @Q);refine en nC nQ ?_;refine Ah ?_;refine BZ (B) SC ?_;refine gc @Q (H) uj ?_;refine Ah ?_;exact At (cj Py<| @Q)
end Go.Proofs.YtglaipbdiofkfaaGreat
