/- Part of the proof of displayBest.proved. Conditions: none. -/
import Derived.Test.YtlpomcliejmedaaGreatW10
import Derived.Test.YtlpomcliejmedaaGreatW11
set_option linter.unusedVariables false
set_option linter.unusedSimpArgs false
set_option maxRecDepth 100000
set_option maxHeartbeats 16000000
open Go.Proofs.Tryz renaming prog→AF,underlying9→Lb,underlying3→Fo,underlying4→Vq,results188→ADG,results191→ADH,results192→ADI,func189→nC,ntmps189→nQ,results189→Py,func190→Nv,ntmps190→Nw,results190→Nx,results193→ADJ,func124→JV,ntmps124→JW,results124→JX,func169→ui,ntmps169→u6,results169→UM,results120→gb,func102→my,ntmps102→nN,results102→RH,results11→ADB,results183→vL,func184→Vk,ntmps184→Vn,results184→Vo,results117→nX,results67→Vp
open List renaming mem_cons_self→GH,mem_cons_of_mem→Gk,all_cons→Ep,all_nil→Nq,all_eq_true→ES,flatten_cons→Hp,append_nil→E5,cons_append→BK,nil_append→BU,length_cons→BA,length_nil→BO,map_cons→Ap,map_nil→BB,set_cons_succ→Ai,set_cons_zero→Ag,take_succ_cons→DP,take_zero→ET,drop_succ_cons→CU,drop_zero→B9,mem_cons→Cf,length_pos_iff→Kr,getElem?_eq_getElem→BE,foldl_cons→Bw,foldl_nil→CO,getElem?_eq_some_iff→Br,mem_of_getElem?→Cj,replicate→Aq,replicate_succ→BY,replicate_zero→Cy,setIfInBounds_toArray→uV,take_of_length_le→Gl,filterMap_append→ACt,range'_concat→AMI,length_map→Ch,append_assoc→GX,getD_eq_getElem?_getD→Bv,getElem?_append_right→Gy,length_replicate→H6,replicate_succ'→Sj,length_append→Cp,map_append→Fm,eq_nil_or_concat→ACs,set_getElem_self→ACy,concat_eq_append→ACo,set_set→aK,getElem?_cons_succ→JU
open Bool renaming and_eq_true→Ak,and_true→Km,false_eq_true→GW
open Option renaming getD_some→Dm,isSome_some→IZ,getD_none→Hr,isSome_none→H8
open Nat renaming lt_irrefl→IY,dvd_of_mod_eq_zero→AMw,zero_add→Cz,le_refl→BN,zero_le→CI,le_of_ble_eq_true→F2,not_lt_zero→UE,le_of_not_lt→Hq,lt_of_lt_of_le→H7,add_zero→M8,sub_self→La
open Option.some renaming injEq→BL,inj→ML
open Go.IntKind renaming i64→AZ
open Classical renaming not_not→uE
open Go.Fence renaming wide→Cg
open Array renaming getElem?_eq_some_iff→DO
open Go.Oper renaming looksAt→Gm
open Go.Op renaming operands→Bl
open Go.Call renaming operands→Df
open Go.Act renaming eval→JT,put→Q9
open And renaming intro→tu
open Go.Value renaming cells→ny
open Int renaming le_refl→IV
namespace Go.Proofs.YtlpomcliejmedaaGreat
open Go.RowKit Tryz
variable {fuel:Nat}{b:AA}{k:Nat}(L:List (Int×Int×Int))(x:Af)(S:BF)(m:Nat)(s:Aa)
section
variable {H:Type} {enc:TypeId×Value->H}
variable {w:World}
theorem AVZ :Dq enc AF w fuel 156 En.row (λe=>e.text.size<=maxLen):=by
 cases fuel with
 | zero=>exact Dq.zero
 | succ fuel=>exact(VJ underlying156 (by kernel_rfl) (C6.cons (o:=0) (o':=1) rfl (by kernel_rfl) (by decide) (Zf Lb) (C6.cons (o:=1) (o':=2) rfl (by kernel_rfl) (by decide) (Ge Fo) (C6.cons (o:=2) (o':=3) rfl (by kernel_rfl) (by decide) (AAw Vq) (C6.cons (o:=3) (o':=4) rfl (by kernel_rfl) (by decide) (AAw Vq) (C6.nil)))))).conv (λq=>⟨q.1,q.2.1,q.2.2.1,q.2.2.2.1⟩) (λq=>rfl) (λq h=>h.1)
theorem AVY :Dq enc AF w fuel 28 (λl:List En=>[Cc l]) (λl=>l.length<=maxLen/\∀a∈l,a.text.size<=maxLen):=by
 cases fuel with
 | zero=>exact Dq.zero
 | succ fuel=>exact dq (n:=4) underlying28 (by kernel_rfl) (by decide) AVZ
theorem AIj : ∀ {l:List Nd},(∀a∈l,a.BX)->Nd.FY l
 | [],_=>trivial
 | b::l,h=>⟨h b GH,AIj λa B=>h a (Gk _ B)⟩
theorem AJA (B:Dq enc AF w fuel 31 (λl:List Nd=>[.sl (l.map Nd.row)]) (λl=>l.length<=maxLen/\∀a∈l,a.BX)):Dq enc AF w (fuel+1) 33 Nd.row (λb=>b.BX):=
 (VJ underlying33 (by kernel_rfl) (C6.cons (o:=0) (o':=1) rfl (by kernel_rfl) (by decide) (Ge Fo) (C6.cons (o:=1) (o':=2) rfl (by kernel_rfl) (by decide) (Zf Lb) (C6.cons (o:=2) (o':=3) rfl (by kernel_rfl) (by decide) (Ge Fo) (C6.cons (o:=3) (o':=4) rfl (by kernel_rfl) (by decide) B (C6.nil)))))).conv (λq=>⟨q.1,q.2.1,q.2.2.1,q.2.2.2.1⟩) (λq=>by simp[Nd.row,Zd,-Nd.ABb]) (λq h=>⟨h.2.1,h.2.2.2.1.1,AIj h.2.2.2.1.2⟩)
theorem AVd (h:Dq enc AF w fuel 33 Nd.row (λb=>b.BX)):Dq enc AF w (fuel+1) 31 (λl:List Nd=>[.sl (l.map Nd.row)]) (λl=>l.length<=maxLen/\∀a∈l,a.BX):=
 dq (n:=4) underlying31 (by kernel_rfl) (by decide) h
theorem km : ∀fuel,Dq enc AF w fuel 33 Nd.row (λb=>b.BX)
 | 0=>Dq.zero
 | 1=>AJA Dq.zero
 | k+2=>AJA (AVd (km k))
end
theorem bF (h:b.Ad=true)(x y:Int):(b.AS x y).Ad=(An x && An y):=by
 obtain⟨I,J,M,Q,G,F,bx,Bq,B,K,E⟩:=b;simp only[AA.Ad,Ak,decide_eq_true_eq]at h;obtain⟨R,o,q⟩:=h;simp only[AA.D8,AA.Cl,AA.lens,Ak,Ep,Nq]at R;obtain⟨⟨⟨l1,l2,l3,l4,l5,_⟩,k1,k2⟩,z⟩:=R;have nE:AA.Fi ⟨I,J,M,Q,G,F,x,y,B,K,E⟩=true:=k1;have kP:AA.Js ⟨I,J,M,Q,G,F,x,y,B,K,E⟩=true:=k2;have U:AA.cnt ⟨I,J,M,Q,G,F,x,y,B,K,E⟩<=20000:=o;have W:AA.nest ⟨I,J,M,Q,G,F,x,y,B,K,E⟩<=100:=q;have ho:AA.Cl ⟨I,J,M,Q,G,F,x,y,B,K,E⟩=(An x && An y):=by
  unfold AA.Cl;rw[nE,kP];simp only[AA.lens,Ep,Nq,l1,l2,l3,Bool.true_and,Km]
 have hp:AA.D8 ⟨I,J,M,Q,G,F,x,y,B,K,E⟩=(An x && An y):=by
  show (AA.Cl ⟨I,J,M,Q,G,F,x,y,B,K,E⟩ && AA.FU B)=_;rw[ho,z,Km]
 show (AA.D8 ⟨I,J,M,Q,G,F,x,y,B,K,E⟩ && (decide (AA.cnt ⟨I,J,M,Q,G,F,x,y,B,K,E⟩<=20000) && decide (AA.nest ⟨I,J,M,Q,G,F,x,y,B,K,E⟩<=100)))=_;rw[hp,decide_eq_true U,decide_eq_true W,Bool.and_self,Km]
theorem AJK {t:ByteArray}(h:(decide (t.size=2) && FC (Lq RX) t)=true):Nh t=true:=by
 rw[Ak]at h;have key : ∀b:UInt8,Lq RX b.toNat=true->Qj b=true:=by
  intro b B;unfold Lq at B;obtain⟨c,E,F⟩:=List.any_eq_true.1 B;have e:c=b:=UInt8.toNat_inj.1 (by have:=of_decide_eq_true F;omega);subst e;have : ∀d∈RX.data.toList,Qj d=true:=by decide
  exact this c E
 unfold Nh;rw[h.1,Km,ES];intro b B;exact key b (ES.1 h.2 b B)
theorem AYv {f:AP}(E:f.valid=true):∀s∈f.C5,s.sizes.length<=1000:=λs B=>by
 have h:=Z9 E s B;simp only[Oh,DX,Ep,Nq,Ak,decide_eq_true_eq]at h;omega
theorem APT {x:Af}(E:x.Ok){s:Aa}(hs:s.ok=true){t:ByteArray}(F:Nh t=true)(hb:b.Ad=true):O5 x.f t b (x.sz s)=((Bj (O5 x.f t b (x.sz s))).getD AA.zero,if (Bj (O5 x.f t b (x.sz s))).isSome=true then 0 else 6):=by
 obtain⟨W,o⟩:=HE E.val hs;have K:x.sz s=BS x.f.params s:=rfl;have J : ∀I B,Ck I=true->(MX x.f I B (x.sz s)).1.Ad=true:=λI B R=>by
  rw[K];rcases xJ E.val W o R B with ⟨_,e⟩|⟨_,S,_,G,_,Q,_,e⟩
  rw[e];decide;have E:=bF G S.x S.y;rw[show (S.AS S.x S.y).Ad=true by cases S;exact G]at E;rw[e,bF G,Q,Km];cases U:An S.x with
  | true=>rfl
  | false=>rw[U]at E;cases E
 have e:O5 x.f t b (x.sz s)=F9 [(MX x.f (Kg t 0) (P9 x.f b (x.sz s)) (x.sz s)).1,b.AS 0 0,(MX x.f (Kg t 1) (P9 x.f b (x.sz s)) (x.sz s)).1] [0,0,0]:=by
  unfold O5;rw[if_neg (by simp[E.val,hb,F]),if_neg (by rw[K];omega)]
 rw[e];refine sm ?_ rfl (by decide);have M:(b.AS 0 0).Ad=true:=by rw[bF hb];decide
 simp[J _ _ (sB F 0 (by omega)),J _ _ (sB F 1 (by omega)),M]
theorem AYc {x:Af}{m:Nat}{n:Nd}{src:List Int}{s:Aa}(h:RL x m n src s)(R:n.kind=5):AQ AF 188 [Bb x m,Am n,.c (AV src),Aj s] m (BM x.f) (BM x.f) (BP (Dr x s src n)):=by
 obtain⟨ss,K⟩:=AI (AV src);rcases h.parts with ⟨J,I⟩|⟨L,hl,Q,J,I⟩
 rw[J];simp only[BP];rw[K]at I ⊢;unfold Bb Aj Am at *
 refine CH func188 ntmps188 ?_;exact qz ADG (cj I<|trivial);have G:=I.data VR;have M:=Qa h.own;have W:=Z3 h.own;rw[R]at M W;obtain⟨a,b,rfl⟩:=rZ (L:=L) (by simp[FL]at M;omega);obtain⟨q,z,a3,a4⟩:=Q.one (b:=a) (by simp);obtain⟨b1,b2,b3,b4⟩:=Q.one (b:=b) (by simp);have U:Dr x s src n=Bj (C8 (WO x.f s a b)):=by rw[J,R];simp[Ji]
 have E:=AWA x.f s a b z (by omega) b2 (by omega);rw[show cE x.f s a b=C8 (WO x.f s a b)from if_neg (by simp[h.hx.val,h.hs,q,b1]),Uh]at E;rw[U];generalize ho:Bj (C8 (WO x.f s a b))=o at E ⊢;rw[K]at G ⊢;have hr:AA.AG [a,b]=[a.row,b.row]:=rfl;rw[hr]at G;unfold Bb Aj Am at *
 cases o with
 | some B=>have F:=Jl B;simp only[Dm,IZ,if_true,Ba,AR,As]at E F;simp only[BP,As];refine CH func188 ntmps188 ?_;exact qz ADG (cj3 G E F trivial)
 | none=>have F:=LG AA.zero m (BM x.f);simp only[Hr,H8,GW,if_false,Ba,AR,As]at E F;simp only[BP,As];refine CH func188 ntmps188 ?_;exact qz ADG (cj3 G E F trivial)
theorem AYU {x:Af}{m:Nat}{n:Nd}{src:List Int}{s:Aa}(h:RL x m n src s)(R:n.kind=10):AQ AF 191 [Bb x m,Am n,.c (AV src),Aj s] m (BM x.f) (BM x.f) (BP (Dr x s src n)):=by
 obtain⟨ss,K⟩:=AI (AV src);rcases h.parts with ⟨J,I⟩|⟨L,hl,z,J,I⟩
 rw[J];simp only[BP];rw[K]at I ⊢;unfold Bb Aj Am at *
 refine CH func191 ntmps191 ?_;exact qz ADH (cj I<|trivial);have G:=I.data VR;have M:=Qa h.own;have Q:=Z3 h.own;rw[R]at M Q;obtain⟨a,rfl⟩:=AIF (L:=L) (by simp[FL]at M;omega);obtain⟨W,q,a3,a4⟩:=z.one (b:=a) (by simp);have U:Dr x s src n=Bj (C8 (al x.f s n.text a (x.gl s n.text))):=by rw[J,R];simp[Ji]
 have E:=AVx x.f s n.text a h.hx.fit h.hx.val h.hs W q (by simpa [Ki]using Q);rw[show (DB x.f n.text (BS x.f.params s)).1=x.gl s n.text from rfl,Uh]at E;rw[U];generalize ho:Bj (C8 (al x.f s n.text a (x.gl s n.text)))=o at E ⊢;rw[K]at G ⊢;have hr:AA.AG [a]=[a.row]:=rfl;rw[hr]at G;unfold Bb Aj Am at *
 cases o with
 | some B=>have F:=Jl B;simp only[Dm,IZ,if_true,Ba,AR,As]at E F;simp only[BP,As];refine CH func191 ntmps191 ?_;exact qz ADH (cj3 G E F trivial)
 | none=>have F:=LG AA.zero m (BM x.f);simp only[Hr,H8,GW,if_false,Ba,AR,As]at E F;simp only[BP,As];refine CH func191 ntmps191 ?_;exact qz ADH (cj3 G E F trivial)
theorem AYb {x:Af}{m:Nat}{n:Nd}{src:List Int}{s:Aa}(h:RL x m n src s)(q:n.kind=11):AQ AF 192 [Bb x m,Am n,.c (AV src),Aj s] m (BM x.f) (BM x.f) (BP (Dr x s src n)):=by
 obtain⟨ss,U⟩:=AI (AV src);have M:=tE x m h.hs;have G7:=kW h.hs;have Q:0<=s.By:=by omega
 have R:s.By<4:=by omega
 rcases h.parts with ⟨J,I⟩|⟨L,hl,hb,J,I⟩
 rw[J];simp only[BP];rw[U]at I ⊢;unfold Bb Aj Am at *
 refine CH func192 ntmps192 ?_;exact qz (cj3 @M @Q @R ADI) (cj I<|trivial);have G:=I.data VR;have W:=Qa h.own;have K:=Z3 h.own;rw[q]at W K;obtain⟨a,rfl⟩:=AIF (L:=L) (by simp[FL]at W;omega);obtain⟨a1,a2,a3,a4⟩:=hb.one (b:=a) (by simp);have z:Dr x s src n=Bj (O5 x.f n.text a (x.sz s)):=by rw[J,q];simp[Ji]
 have E:=AV9 x.f n.text a (x.sz s) h.hx.fit (AYv h.hx.val) a2 (by omega) (by have:=sC (AJK (by simpa [Ki]using K));unfold maxLen;omega);rw[APT h.hx h.hs (AJK (by simpa [Ki]using K)) a1]at E;rw[z];generalize ho:Bj (O5 x.f n.text a (x.sz s))=o at E ⊢;rw[U]at G ⊢;have hr:AA.AG [a]=[a.row]:=rfl;rw[hr]at G;unfold Bb Aj Am at *
 cases o with
 | some B=>have F:=Jl B;simp only[Dm,IZ,if_true,Ba,AR,As]at E F;simp only[BP,As];refine CH func192 ntmps192 ?_;exact qz (cj3 @M @Q @R ADI) (cj3 G E F trivial)
 | none=>have F:=LG AA.zero m (BM x.f);simp only[Hr,H8,GW,if_false,Ba,AR,As]at E F;simp only[BP,As];refine CH func192 ntmps192 ?_;exact qz (cj3 @M @Q @R ADI) (cj3 G E F trivial)
theorem wi (l:List C):Hc 11 2 l=[l.take 11,(l.drop 11).take 11]:=rfl
theorem AOt {AE:List Nd}(h:b.Ad=true):(Ue AE b).Ad=true:=by
 unfold Ue;split;obtain⟨J,K,Q,R,I,G,U,B,E,M,F⟩:=b;have q:(AA.cB ⟨J,K,Q,R,I,G,U,B,E,M,F⟩).cnt=(⟨J,K,Q,R,I,G,U,B,E,M,F⟩:AA).cnt:=rfl;have z:(AA.cB ⟨J,K,Q,R,I,G,U,B,E,M,F⟩).nest=(⟨J,K,Q,R,I,G,U,B,E,M,F⟩:AA).nest:=rfl;unfold AA.Ad at h ⊢;rw[q,z];rw[Ak]at h ⊢;refine⟨?_,h.2⟩;have o:=h.1;simp only[AA.D8,AA.Cl,AA.cB,AA.lens,AA.Fi,AA.Js,Ak,Ep,Nq]at o ⊢;obtain⟨⟨⟨l1,l2,l3,l4,l5,l6⟩,k1,k2⟩,h4⟩:=o;have W:An 0=true:=by decide
 exact⟨⟨⟨W,W,W,l4,l5,l6⟩,k1,k2⟩,h4⟩;exact h
theorem AZG {x:Af}{m:Nat}{n:Nd}{src:List Int}{s:Aa}(h:RL x m n src s)(hk:n.kind=6)(U:Nd)(kr:List Nd)(EC:n.AE=U::kr):AQ AF 189 [Bb x m,Am n,.c (AV src),Aj s] m (BM x.f) (BM x.f) (BP (Dr x s src n)):=by
 obtain⟨ss,z⟩:=AI (AV src);rcases h.parts with ⟨W,G⟩|⟨L,hl,hb,W,G⟩
 rw[W];simp only[BP];rw[z]at G ⊢;unfold Bb Aj Am at *
 refine CH nC nQ ?_;exact qz Py (cj G<|trivial);have I:=Qa h.own;rw[hk]at I;obtain⟨a,b,rfl⟩:=rZ (L:=L) (by simp[FL]at I;omega);obtain⟨a1,a2,a3,a4⟩:=hb.one (b:=a) (by simp);obtain⟨b1,b2,b3,b4⟩:=hb.one (b:=b) (by simp);have q:=AOt (AE:=n.AE) a1;have Je:Dr x s src n=Bj (C8 (Qp x.f s b [Ue n.AE a])):=by rw[W,hk];simp[Ji]
 have E:=AWf x.f s b [Ue n.AE a] h.hx.fit b2 (by omega) (λg hg=>by rw[List.mem_singleton]at hg;subst hg;exact⟨kj q,by have:=ik q;omega⟩);rw[show VP x.f s b [Ue n.AE a]=C8 (Qp x.f s b [Ue n.AE a])from if_neg (by simp[h.hx.val,h.hs,b1,q]),Uh]at E;rw[Je];obtain⟨o,ho⟩:=AI (Bj (C8 (Qp x.f s b [Ue n.AE a])));have Q:Nd.AG n.AE=U.row::Nd.AG kr:=by rw[EC];rfl
 have M:Ue n.AE a=if U.AE=[]then a.cB else a:=by rw[EC];rfl
 rw[ho]at E ⊢;rw[M]at E;rw[z]at G ⊢;obtain⟨q0,q1,q2,K⟩:=U;have hr:AA.AG [a,b]=[a.row,b.row]:=rfl;simp only at E M;simp only[Nd.row]at Q;have R:(Nd.AG K).length=K.length:=Pc K;obtain⟨ak,an,A2,aw,ah,ad,ax,ay,A0,ao,A1⟩:=a;obtain⟨bk,bn,bs,bw,bh,bd,bx,Bq,EU,bo,Et⟩:=b;simp only[AA.AG,AA.row,Hp,List.flatten_nil,E5,BK,BU,BA,BO,Nat.reduceAdd]at G;unfold Bb Aj Am at *
 by_cases J:K.length=0;have I:K=[]:=List.length_eq_zero_iff.1 J;rw[if_pos I]at E;simp only[As,AA.vs,AA.cB,AA.AG,AA.row,Ap,BB]at E;cases o with
 | some B=>have F:=Jl B;simp only[Dm,IZ,if_true,Ba,AR,As]at E F;simp only[BP,As];refine CH nC nQ ?_;refine qu (.mk 1) Py trivial ⟨?_⟩;refine AW.DA ?_;refine CY (.mk 4) trivial ?_;refine SW.pI 0 G (by kernel_rfl) (by simp[BQ]) (by simp[C7];first|exact rfl|exact⟨rfl,rfl⟩) (by simp[V.CF,V.CP]) rfl ?_;simp only[St.step,St.put,Bk,BA,BO,Nat.reduceAdd,Nat.reduceLT,IY,if_true,if_false,Ai,Ag,BK,BU,Ap,BB];refine CY (.mk 1) trivial ?_;refine SW.nil ?_;refine qu (.mk 4) (cj3 @Q @R @J Py) trivial ⟨?_⟩;refine Cn 4 ?_;simp only[wi,DP,ET,CU,B9];exact qz Py (cj2 E F trivial)
 | none=>have F:=LG AA.zero m (BM x.f);simp only[Hr,H8,GW,if_false,Ba,AR,As]at E F;simp only[BP,As];refine CH nC nQ ?_;refine qu (.mk 1) Py trivial ⟨?_⟩;refine AW.DA ?_;refine CY (.mk 4) trivial ?_;refine SW.pI 0 G (by kernel_rfl) (by simp[BQ]) (by simp[C7];first|exact rfl|exact⟨rfl,rfl⟩) (by simp[V.CF,V.CP]) rfl ?_;simp only[St.step,St.put,Bk,BA,BO,Nat.reduceAdd,Nat.reduceLT,IY,if_true,if_false,Ai,Ag,BK,BU,Ap,BB];refine CY (.mk 1) trivial ?_;refine SW.nil ?_;refine qu (.mk 4) (cj3 @Q @R @J Py) trivial ⟨?_⟩;refine Cn 4 ?_;simp only[wi,DP,ET,CU,B9];exact qz Py (cj2 E F trivial)
 have I : ¬K=[]:=λe=>J (by rw[e];rfl)
 rw[if_neg I]at E;simp only[As,AA.vs,AA.AG,AA.row,Ap,BB]at E;cases o with
 | some B=>have F:=Jl B;simp only[Dm,IZ,if_true,Ba,AR,As]at E F;simp only[BP,As];refine CH nC nQ ?_;refine qu (.mk 1) Py trivial ⟨?_⟩;refine AW.DA ?_;refine CY (.mk 4) trivial ?_;refine SW.pI 0 G (by kernel_rfl) (by simp[BQ]) (by simp[C7];first|exact rfl|exact⟨rfl,rfl⟩) (by simp[V.CF,V.CP]) rfl ?_;simp only[St.step,St.put,Bk,BA,BO,Nat.reduceAdd,Nat.reduceLT,IY,if_true,if_false,Ai,Ag,BK,BU,Ap,BB];refine CY (.mk 1) trivial ?_;refine SW.nil ?_;refine qu (.mk 4) (cj3 @Q @R @J Py) trivial ⟨?_⟩;refine Cn 4 ?_;simp only[wi,DP,ET,CU,B9];exact qz Py (cj2 E F trivial)
 | none=>have F:=LG AA.zero m (BM x.f);simp only[Hr,H8,GW,if_false,Ba,AR,As]at E F;simp only[BP,As];refine CH nC nQ ?_;refine qu (.mk 1) Py trivial ⟨?_⟩;refine AW.DA ?_;refine CY (.mk 4) trivial ?_;refine SW.pI 0 G (by kernel_rfl) (by simp[BQ]) (by simp[C7];first|exact rfl|exact⟨rfl,rfl⟩) (by simp[V.CF,V.CP]) rfl ?_;simp only[St.step,St.put,Bk,BA,BO,Nat.reduceAdd,Nat.reduceLT,IY,if_true,if_false,Ai,Ag,BK,BU,Ap,BB];refine CY (.mk 1) trivial ?_;refine SW.nil ?_;refine qu (.mk 4) (cj3 @Q @R @J Py) trivial ⟨?_⟩;refine Cn 4 ?_;simp only[wi,DP,ET,CU,B9];exact qz Py (cj2 E F trivial)
theorem AZK {x:Af}{m:Nat}{n:Nd}{src:List Int}{s:Aa}(h:RL x m n src s)(G:n.kind=7)(U:Nd)(kr:List Nd)(W:n.AE=U::kr):AQ AF 190 [Bb x m,Am n,.c (AV src),Aj s] m (BM x.f) (BM x.f) (BP (Dr x s src n)):=by
 obtain⟨ss,z⟩:=AI (AV src);rcases h.parts with ⟨K,R⟩|⟨L,hl,hb,K,R⟩
 rw[K];simp only[BP];rw[z]at R ⊢;unfold Bb Aj Am at *
 refine CH Nv Nw ?_;exact qz Nx (cj R<|trivial);have I:=R.data VR;have Ej:=Qa h.own;have Mj:=Z3 h.own;rw[G]at Ej Mj;obtain⟨a,b,rfl⟩:=rZ (L:=L) (by simp[FL]at Ej;omega);obtain⟨a1,a2,a3,a4⟩:=hb.one (b:=a) (by simp);obtain⟨b1,b2,b3,b4⟩:=hb.one (b:=b) (by simp);have J:=ABr x m U s h.hx;have Q:Nd.AG n.AE=U.row::Nd.AG kr:=by rw[W];rfl
 rw[z]at I ⊢;have hr:AA.AG [a,b]=[a.row,b.row]:=rfl;rw[hr]at I;cases M:PZ x s U with
 | true =>
   have q:Dr x s src n=Bj (C8 (OP x.f s a [b] [])):=by rw[K,G];simp[Ji,W,M,Xb,Xc]
   have E:=v5 x.f s a [b] [] h.hx.fit h.hx.val h.hs a1 a2 (by simp) (by simp) (by simpa using ⟨b1,b2⟩) (by simp);rw[Uh]at E;rw[q];obtain⟨o,ho⟩:=AI (Bj (C8 (OP x.f s a [b] [])));rw[ho]at E ⊢;rw[M]at J;unfold Bb Aj Am at *
   simp only[AA.AG]at E;cases o with
   | some B=>have F:=Jl B;simp only[Dm,IZ,if_true,Ba,AR,As]at E F;simp only[BP,As];refine CH Nv Nw ?_;exact qz (cj2 @G @Q Nx) (cj4 I E J F trivial)
   | none=>have F:=LG AA.zero m (BM x.f);simp only[Hr,H8,GW,if_false,Ba,AR,As]at E F;simp only[BP,As];refine CH Nv Nw ?_;exact qz (cj2 @G @Q Nx) (cj4 I E J F trivial)
 | false =>
   have q:Dr x s src n=Bj (C8 (Oc x.f s a [b] [])):=by rw[K,G];simp[Ji,W,M,Xb,Xc]
   have E:=IC x.f s a [b] [] h.hx.fit h.hx.val h.hs a1 a2 (by simp) (by simp) (by simpa using ⟨b1,b2⟩) (by simp);rw[Uh]at E;rw[q];generalize ho:Bj (C8 (Oc x.f s a [b] []))=o at E ⊢;rw[M]at J;unfold Bb Aj Am at *
   simp only[AA.AG]at E;cases o with
   | some B=>have F:=Jl B;simp only[Dm,IZ,if_true,Ba,AR,As]at E F;simp only[BP,As];refine CH Nv Nw ?_;exact qz (cj2 @G @Q Nx) (cj4 I E J F trivial)
   | none=>have F:=LG AA.zero m (BM x.f);simp only[Hr,H8,GW,if_false,Ba,AR,As]at E F;simp only[BP,As];refine CH Nv Nw ?_;exact qz (cj2 @G @Q Nx) (cj4 I E J F trivial)
theorem AZL {x:Af}{m:Nat}{n:Nd}{src:List Int}{s:Aa}(h:RL x m n src s)(G:n.kind=8)(U:Nd)(kr:List Nd)(W:n.AE=U::kr):AQ AF 190 [Bb x m,Am n,.c (AV src),Aj s] m (BM x.f) (BM x.f) (BP (Dr x s src n)):=by
 obtain⟨ss,z⟩:=AI (AV src);rcases h.parts with ⟨K,R⟩|⟨L,hl,hb,K,R⟩
 rw[K];simp only[BP];rw[z]at R ⊢;unfold Bb Aj Am at *
 refine CH Nv Nw ?_;exact qz Nx (cj R<|trivial);have I:=R.data VR;have Ej:=Qa h.own;have Mj:=Z3 h.own;rw[G]at Ej Mj;obtain⟨a,b,rfl⟩:=rZ (L:=L) (by simp[FL]at Ej;omega);obtain⟨a1,a2,a3,a4⟩:=hb.one (b:=a) (by simp);obtain⟨b1,b2,b3,b4⟩:=hb.one (b:=b) (by simp);have J:=ABr x m U s h.hx;have Q:Nd.AG n.AE=U.row::Nd.AG kr:=by rw[W];rfl
 rw[z]at I ⊢;have hr:AA.AG [a,b]=[a.row,b.row]:=rfl;rw[hr]at I;cases M:PZ x s U with
 | true =>
   have q:Dr x s src n=Bj (C8 (OP x.f s a [] [b])):=by rw[K,G];simp[Ji,W,M,Xb,Xc]
   have E:=v5 x.f s a [] [b] h.hx.fit h.hx.val h.hs a1 a2 (by simp) (by simp) (by simp) (by simpa using ⟨b1,b2⟩);rw[Uh]at E;rw[q];obtain⟨o,ho⟩:=AI (Bj (C8 (OP x.f s a [] [b])));rw[ho]at E ⊢;rw[M]at J;unfold Bb Aj Am at *
   simp only[AA.AG]at E;cases o with
   | some B=>have F:=Jl B;simp only[Dm,IZ,if_true,Ba,AR,As]at E F;simp only[BP,As];refine CH Nv Nw ?_;exact qz (cj2 @G @Q Nx) (cj4 I E J F trivial)
   | none=>have F:=LG AA.zero m (BM x.f);simp only[Hr,H8,GW,if_false,Ba,AR,As]at E F;simp only[BP,As];refine CH Nv Nw ?_;exact qz (cj2 @G @Q Nx) (cj4 I E J F trivial)
 | false =>
   have q:Dr x s src n=Bj (C8 (Oc x.f s a [] [b])):=by rw[K,G];simp[Ji,W,M,Xb,Xc]
   have E:=IC x.f s a [] [b] h.hx.fit h.hx.val h.hs a1 a2 (by simp) (by simp) (by simp) (by simpa using ⟨b1,b2⟩);rw[Uh]at E;rw[q];generalize ho:Bj (C8 (Oc x.f s a [] [b]))=o at E ⊢;rw[M]at J;unfold Bb Aj Am at *
   simp only[AA.AG]at E;cases o with
   | some B=>have F:=Jl B;simp only[Dm,IZ,if_true,Ba,AR,As]at E F;simp only[BP,As];refine CH Nv Nw ?_;exact qz (cj2 @G @Q Nx) (cj4 I E J F trivial)
   | none=>have F:=LG AA.zero m (BM x.f);simp only[Hr,H8,GW,if_false,Ba,AR,As]at E F;simp only[BP,As];refine CH Nv Nw ?_;exact qz (cj2 @G @Q Nx) (cj4 I E J F trivial)
theorem AZM {x:Af}{m:Nat}{n:Nd}{src:List Int}{s:Aa}(h:RL x m n src s)(G:n.kind=9)(U:Nd)(kr:List Nd)(W:n.AE=U::kr):AQ AF 190 [Bb x m,Am n,.c (AV src),Aj s] m (BM x.f) (BM x.f) (BP (Dr x s src n)):=by
 obtain⟨ss,Cu⟩:=AI (AV src);rcases h.parts with ⟨K,R⟩|⟨L,hl,z,K,R⟩
 rw[K];simp only[BP];rw[Cu]at R ⊢;unfold Bb Aj Am at *
 refine CH Nv Nw ?_;exact qz Nx (cj R<|trivial);have I:=R.data VR;have Ej:=Qa h.own;have Mj:=Z3 h.own;rw[G]at Ej Mj;obtain⟨a,b,c,rfl⟩:=AT9 (L:=L) (by simp[FL]at Ej;omega);obtain⟨a1,a2,a3,a4⟩:=z.one (b:=a) (by simp);obtain⟨b1,b2,b3,b4⟩:=z.one (b:=b) (by simp);obtain⟨c1,c2,c3,c4⟩:=z.one (b:=c) (by simp);have J:=ABr x m U s h.hx;have Q:Nd.AG n.AE=U.row::Nd.AG kr:=by rw[W];rfl
 rw[Cu]at I ⊢;have hr:AA.AG [a,b,c]=[a.row,b.row,c.row]:=rfl;rw[hr]at I;cases M:PZ x s U with
 | true =>
   have q:Dr x s src n=Bj (C8 (OP x.f s a [b] [c])):=by rw[K,G];simp[Ji,W,M,Xb,Xc]
   have E:=v5 x.f s a [b] [c] h.hx.fit h.hx.val h.hs a1 a2 (by simp) (by simp) (by simpa using ⟨b1,b2⟩) (by simpa using ⟨c1,c2⟩);rw[Uh]at E;rw[q];obtain⟨o,ho⟩:=AI (Bj (C8 (OP x.f s a [b] [c])));rw[ho]at E ⊢;rw[M]at J;unfold Bb Aj Am at *
   simp only[AA.AG]at E;cases o with
   | some B=>have F:=Jl B;simp only[Dm,IZ,if_true,Ba,AR,As]at E F;simp only[BP,As];refine CH Nv Nw ?_;exact qz (cj2 @G @Q Nx) (cj4 I E J F trivial)
   | none=>have F:=LG AA.zero m (BM x.f);simp only[Hr,H8,GW,if_false,Ba,AR,As]at E F;simp only[BP,As];refine CH Nv Nw ?_;exact qz (cj2 @G @Q Nx) (cj4 I E J F trivial)
 | false =>
   have q:Dr x s src n=Bj (C8 (Oc x.f s a [b] [c])):=by rw[K,G];simp[Ji,W,M,Xb,Xc]
   have E:=IC x.f s a [b] [c] h.hx.fit h.hx.val h.hs a1 a2 (by simp) (by simp) (by simpa using ⟨b1,b2⟩) (by simpa using ⟨c1,c2⟩);rw[Uh]at E;rw[q];generalize ho:Bj (C8 (Oc x.f s a [b] [c]))=o at E ⊢;rw[M]at J;unfold Bb Aj Am at *
   simp only[AA.AG]at E;cases o with
   | some B=>have F:=Jl B;simp only[Dm,IZ,if_true,Ba,AR,As]at E F;simp only[BP,As];refine CH Nv Nw ?_;exact qz (cj2 @G @Q Nx) (cj4 I E J F trivial)
   | none=>have F:=LG AA.zero m (BM x.f);simp only[Hr,H8,GW,if_false,Ba,AR,As]at E F;simp only[BP,As];refine CH Nv Nw ?_;exact qz (cj2 @G @Q Nx) (cj4 I E J F trivial)
theorem ANX (f:AP)(s:Aa)(B:Nat)(cells:List AA):N2 f s B cells=((Bj (N2 f s B cells)).getD AA.zero,if (Bj (N2 f s B cells)).isSome=true then 0 else 6):=by
 apply AIr;unfold N2;split;exact .inr rfl;unfold C8;split;exact .inl rfl;exact .inr rfl
theorem AUT {c:Int}{n:Nat}(h:FL 12 c n=true):∃B AG:Nat,c=(B:Int)/\n=AG*B/\1<=B/\B<=16/\1<=AG/\n<=256:=by
 simp only[FL,if_true,Ak,decide_eq_true_eq]at h;obtain⟨J,K,M,G,E⟩:=h;refine⟨c.toNat,n / c.toNat,by omega,?_,by omega,by omega,?_,G⟩;have e:c=(c.toNat:Int):=by omega
 rw[e]at E;have F:n % c.toNat=0:=by
  have:((n:Int).tmod (c.toNat:Int))=((n % c.toNat:Nat):Int):=rfl;rw[this]at E;omega
 exact(Nat.div_mul_cancel (AMw F)).symm;have e:c=(c.toNat:Int):=by omega
 rw[e]at E;have F:n % c.toNat=0:=by
  have:((n:Int).tmod (c.toNat:Int))=((n % c.toNat:Nat):Int):=rfl;rw[this]at E;omega
 have I:c.toNat<=n:=Nat.le_of_dvd (by omega) (AMw F);exact Nat.div_pos I (by omega)
theorem AY2 {x:Af}{m:Nat}{n:Nd}{src:List Int}{s:Aa}(h:RL x m n src s)(z:n.kind=12):AQ AF 193 [Bb x m,Am n,.c (AV src),Aj s] m (BM x.f) (BM x.f) (BP (Dr x s src n)):=by
 obtain⟨ss,W⟩:=AI (AV src);rcases h.parts with ⟨M,K⟩|⟨L,hl,J,M,K⟩
 rw[M];simp only[BP];rw[W]at K ⊢;unfold Bb Aj Am at *
 refine CH func193 ntmps193 ?_;exact qz ADJ (cj K<|trivial);have I:=K.data VR;have q:=Qa h.own;rw[z]at q;obtain⟨G,R,Q,kA,c1,c2,r1,n2⟩:=AUT q;have hC:Cells x s G R L:=⟨⟨by rw[hl,kA],c1,c2,r1,by omega,VN h.hx h.hs,ABT h.hx h.hs,λb U=>⟨J.w b U,(D3 (J.v b U)).1.2⟩⟩,J.v,by have:=J.c;omega⟩
 have Je:Dr x s src n=Bj (N2 x.f s G L):=by rw[M,z];simp[Ji,Q]
 have E:=AWe x s G R L h.hx h.hs hC;rw[ANX]at E;rw[Je];generalize ho:Bj (N2 x.f s G L)=o at E ⊢;rw[W]at I ⊢;generalize Aw:AA.AG L=rs at I E;unfold Bb Aj Am at *
 cases o with
 | some B=>have F:=Jl B;simp only[Dm,IZ,if_true,Ba,AR,As]at E F;simp only[BP,As];refine CH func193 ntmps193 ?_;exact qz (cj @Q<|ADJ) (cj3 I E F trivial)
 | none=>have F:=LG AA.zero m (BM x.f);simp only[Hr,H8,GW,if_false,Ba,AR,As]at E F;simp only[BP,As];refine CH func193 ntmps193 ?_;exact qz (cj @Q<|ADJ) (cj3 I E F trivial)
theorem AUi {n:Nd}(ho:n.Cl=true)(B:n.kind=2\/n.kind=3\/n.kind=4):n.AE=[]:=by
 have:=Qa ho;rcases B with h|h|h
 rw[h]at this;simp[FL]at this;exact this.2;rw[h]at this;simp[FL]at this;exact this.2;rw[h]at this;simp[FL]at this;exact this.2
theorem AAJ (src:List Int){n:Nd}(ho:n.Cl=true)(B:n.kind=2\/n.kind=3\/n.kind=4):Dr x s src n=if n.kind=2 then x.sym s n.text else x.txt s n.text:=by
 have h:=AUi ho B;unfold Dr;rw[h];simp only[Kh,Ji];rcases B with h|h|h<;>simp[h]
theorem AYl (n:Nd)(src:List Int)(s:Aa)(I:src.length<=100)(G:n.kind=2)(B:AQ AF 186 [Bb x m,Am n,.c (AV src),Aj s] m (BM x.f) (BM x.f) (BP (Dr x s src n))):AQ AF 124 [Bb x m,Am n,.c (AV src),Aj s] m (BM x.f) (BM x.f) (BP (Fw x s src n)):=by
 rw[SD];have E:=λb=>OZ b 2 src (by omega)
 generalize J:AV src=K at B E ⊢;unfold Bb Aj Am at *
 cases F:Dr x s src n with
 | none=>rw[F]at B;simp only[BP]at B ⊢;refine CH JV JW ?_;exact qz (cj @G<|JX) (cj B<|trivial)
 | some b=>rw[F]at B;have E:=E b;simp only[BP,As]at B E ⊢;refine CH JV JW ?_;exact qz (cj @G<|JX) (cj2 B E trivial)
theorem AYm (n:Nd)(src:List Int)(s:Aa)(I:src.length<=100)(G:n.kind=3)(B:AQ AF 187 [Bb x m,Am n,.c (AV src),Aj s] m (BM x.f) (BM x.f) (BP (Dr x s src n))):AQ AF 124 [Bb x m,Am n,.c (AV src),Aj s] m (BM x.f) (BM x.f) (BP (Fw x s src n)):=by
 rw[SD];have E:=λb=>OZ b 2 src (by omega)
 generalize J:AV src=K at B E ⊢;unfold Bb Aj Am at *
 cases F:Dr x s src n with
 | none=>rw[F]at B;simp only[BP]at B ⊢;refine CH JV JW ?_;exact qz (cj @G<|JX) (cj B<|trivial)
 | some b=>rw[F]at B;have E:=E b;simp only[BP,As]at B E ⊢;refine CH JV JW ?_;exact qz (cj @G<|JX) (cj2 B E trivial)
theorem AYn (n:Nd)(src:List Int)(s:Aa)(I:src.length<=100)(G:n.kind=4)(B:AQ AF 187 [Bb x m,Am n,.c (AV src),Aj s] m (BM x.f) (BM x.f) (BP (Dr x s src n))):AQ AF 124 [Bb x m,Am n,.c (AV src),Aj s] m (BM x.f) (BM x.f) (BP (Fw x s src n)):=by
 rw[SD];have E:=λb=>OZ b 2 src (by omega)
 generalize J:AV src=K at B E ⊢;unfold Bb Aj Am at *
 cases F:Dr x s src n with
 | none=>rw[F]at B;simp only[BP]at B ⊢;refine CH JV JW ?_;exact qz (cj @G<|JX) (cj B<|trivial)
 | some b=>rw[F]at B;have E:=E b;simp only[BP,As]at B E ⊢;refine CH JV JW ?_;exact qz (cj @G<|JX) (cj2 B E trivial)
theorem AYo (n:Nd)(src:List Int)(s:Aa)(I:src.length<=100)(G:n.kind=5)(B:AQ AF 188 [Bb x m,Am n,.c (AV src),Aj s] m (BM x.f) (BM x.f) (BP (Dr x s src n))):AQ AF 124 [Bb x m,Am n,.c (AV src),Aj s] m (BM x.f) (BM x.f) (BP (Fw x s src n)):=by
 rw[SD];have E:=λb=>OZ b 2 src (by omega)
 generalize J:AV src=K at B E ⊢;unfold Bb Aj Am at *
 cases F:Dr x s src n with
 | none=>rw[F]at B;simp only[BP]at B ⊢;refine CH JV JW ?_;exact qz (cj @G<|JX) (cj B<|trivial)
 | some b=>rw[F]at B;have E:=E b;simp only[BP,As]at B E ⊢;refine CH JV JW ?_;exact qz (cj @G<|JX) (cj2 B E trivial)
theorem AYp (n:Nd)(src:List Int)(s:Aa)(I:src.length<=100)(G:n.kind=6)(B:AQ AF 189 [Bb x m,Am n,.c (AV src),Aj s] m (BM x.f) (BM x.f) (BP (Dr x s src n))):AQ AF 124 [Bb x m,Am n,.c (AV src),Aj s] m (BM x.f) (BM x.f) (BP (Fw x s src n)):=by
 rw[SD];have E:=λb=>OZ b 2 src (by omega)
 generalize J:AV src=K at B E ⊢;unfold Bb Aj Am at *
 cases F:Dr x s src n with
 | none=>rw[F]at B;simp only[BP]at B ⊢;refine CH JV JW ?_;exact qz (cj @G<|JX) (cj B<|trivial)
 | some b=>rw[F]at B;have E:=E b;simp only[BP,As]at B E ⊢;refine CH JV JW ?_;exact qz (cj @G<|JX) (cj2 B E trivial)
theorem AYq (n:Nd)(src:List Int)(s:Aa)(I:src.length<=100)(G:n.kind=7)(B:AQ AF 190 [Bb x m,Am n,.c (AV src),Aj s] m (BM x.f) (BM x.f) (BP (Dr x s src n))):AQ AF 124 [Bb x m,Am n,.c (AV src),Aj s] m (BM x.f) (BM x.f) (BP (Fw x s src n)):=by
 rw[SD];have E:=λb=>OZ b 2 src (by omega)
 generalize J:AV src=K at B E ⊢;unfold Bb Aj Am at *
 cases F:Dr x s src n with
 | none=>rw[F]at B;simp only[BP]at B ⊢;refine CH JV JW ?_;exact qz (cj @G<|JX) (cj B<|trivial)
 | some b=>rw[F]at B;have E:=E b;simp only[BP,As]at B E ⊢;refine CH JV JW ?_;exact qz (cj @G<|JX) (cj2 B E trivial)
theorem AYr (n:Nd)(src:List Int)(s:Aa)(I:src.length<=100)(G:n.kind=8)(B:AQ AF 190 [Bb x m,Am n,.c (AV src),Aj s] m (BM x.f) (BM x.f) (BP (Dr x s src n))):AQ AF 124 [Bb x m,Am n,.c (AV src),Aj s] m (BM x.f) (BM x.f) (BP (Fw x s src n)):=by
 rw[SD];have E:=λb=>OZ b 2 src (by omega)
 generalize J:AV src=K at B E ⊢;unfold Bb Aj Am at *
 cases F:Dr x s src n with
 | none=>rw[F]at B;simp only[BP]at B ⊢;refine CH JV JW ?_;exact qz (cj @G<|JX) (cj B<|trivial)
 | some b=>rw[F]at B;have E:=E b;simp only[BP,As]at B E ⊢;refine CH JV JW ?_;exact qz (cj @G<|JX) (cj2 B E trivial)
theorem AYs (n:Nd)(src:List Int)(s:Aa)(I:src.length<=100)(G:n.kind=9)(B:AQ AF 190 [Bb x m,Am n,.c (AV src),Aj s] m (BM x.f) (BM x.f) (BP (Dr x s src n))):AQ AF 124 [Bb x m,Am n,.c (AV src),Aj s] m (BM x.f) (BM x.f) (BP (Fw x s src n)):=by
 rw[SD];have E:=λb=>OZ b 2 src (by omega)
 generalize J:AV src=K at B E ⊢;unfold Bb Aj Am at *
 cases F:Dr x s src n with
 | none=>rw[F]at B;simp only[BP]at B ⊢;refine CH JV JW ?_;exact qz (cj @G<|JX) (cj B<|trivial)
 | some b=>rw[F]at B;have E:=E b;simp only[BP,As]at B E ⊢;refine CH JV JW ?_;exact qz (cj @G<|JX) (cj2 B E trivial)
theorem AYi (n:Nd)(src:List Int)(s:Aa)(I:src.length<=100)(G:n.kind=10)(B:AQ AF 191 [Bb x m,Am n,.c (AV src),Aj s] m (BM x.f) (BM x.f) (BP (Dr x s src n))):AQ AF 124 [Bb x m,Am n,.c (AV src),Aj s] m (BM x.f) (BM x.f) (BP (Fw x s src n)):=by
 rw[SD];have E:=λb=>OZ b 2 src (by omega)
 generalize J:AV src=K at B E ⊢;unfold Bb Aj Am at *
 cases F:Dr x s src n with
 | none=>rw[F]at B;simp only[BP]at B ⊢;refine CH JV JW ?_;exact qz (cj @G<|JX) (cj B<|trivial)
 | some b=>rw[F]at B;have E:=E b;simp only[BP,As]at B E ⊢;refine CH JV JW ?_;exact qz (cj @G<|JX) (cj2 B E trivial)
theorem AYj (n:Nd)(src:List Int)(s:Aa)(I:src.length<=100)(G:n.kind=11)(B:AQ AF 192 [Bb x m,Am n,.c (AV src),Aj s] m (BM x.f) (BM x.f) (BP (Dr x s src n))):AQ AF 124 [Bb x m,Am n,.c (AV src),Aj s] m (BM x.f) (BM x.f) (BP (Fw x s src n)):=by
 rw[SD];have E:=λb=>OZ b 2 src (by omega)
 generalize J:AV src=K at B E ⊢;unfold Bb Aj Am at *
 cases F:Dr x s src n with
 | none=>rw[F]at B;simp only[BP]at B ⊢;refine CH JV JW ?_;exact qz (cj @G<|JX) (cj B<|trivial)
 | some b=>rw[F]at B;have E:=E b;simp only[BP,As]at B E ⊢;refine CH JV JW ?_;exact qz (cj @G<|JX) (cj2 B E trivial)
theorem AYk (n:Nd)(src:List Int)(s:Aa)(I:src.length<=100)(G:n.kind=12)(B:AQ AF 193 [Bb x m,Am n,.c (AV src),Aj s] m (BM x.f) (BM x.f) (BP (Dr x s src n))):AQ AF 124 [Bb x m,Am n,.c (AV src),Aj s] m (BM x.f) (BM x.f) (BP (Fw x s src n)):=by
 rw[SD];have E:=λb=>OZ b 2 src (by omega)
 generalize J:AV src=K at B E ⊢;unfold Bb Aj Am at *
 cases F:Dr x s src n with
 | none=>rw[F]at B;simp only[BP]at B ⊢;refine CH JV JW ?_;exact qz (cj @G<|JX) (cj B<|trivial)
 | some b=>rw[F]at B;have E:=E b;simp only[BP,As]at B E ⊢;refine CH JV JW ?_;exact qz (cj @G<|JX) (cj2 B E trivial)
theorem AY5 {q:Int}(B:0<=q)(J:q<=1073741824){l r:Nat}(G:l<8)(I:r<8)(v:Int):0<=Qt q l r v/\Qt q l r v<=1073741824:=by
 refine⟨AK8 B l r v,?_⟩;have E:0<=VX l r v/\VX l r v<=3:=by
  have:=AK7 l r G I;unfold VX;split;split<;>omega;omega
 unfold Qt;generalize Q:VX l r v=K at E ⊢;split;omega;unfold ka;split;have F:0<=q*(K+2):=Int.mul_nonneg B (by omega);have M:q*(K+2)<=q*5:=Int.mul_le_mul_of_nonneg_left (by omega) B;unfold Ea;rw[if_pos F];omega;omega
theorem ALA {q:Int}(E:0<=q)(F:q<=1073741824)(v:Int):∀(l:List Int) (p:Int),(0<=p/\p<=7)->(∀k∈l,0<=k/\k<=7)->∀k∈T1 q v p l,An k=true
 | [],_,_,_,k,B=>by cases B
 | c::l,p,K,G,k,B=>by
   have I:=G c GH;simp only[T1]at B;rcases Cf.1 B with rfl|B
   have:=AY5 E F (l:=p.toNat) (r:=c.toNat) (by omega) (by omega) v;unfold An;simp;omega;exact ALA E F v l c I (λj J=>G j (Gk _ J)) k B
theorem ALD {x:Af}(F:x.Ok){s:Aa}(hs:s.ok=true)(AE:List Nd):(x.CC s AE).all An=true:=by
 rw[ES];intro k B;have E:=AAx F.dv AE;unfold Af.CC at B;cases G:I6 (JP x.d AE)with
 | nil=>rw[G]at B;cases B
 | cons c l =>
   rw[G]at B E;simp only[CC]at B;rcases Cf.1 B with rfl|B
   decide;exact ALA (VN F hs) (ABT F hs) _ l c (E c GH) (λj I=>E j (Gk _ I)) k B
theorem AY9 (AE:List Nd):(x.CC s AE).length=AE.length:=by
 unfold Af.CC;rw[fF,ef,Zh]
def oB (x:Af)(m:Nat)(n:Nd)(src:List Int)(s:Aa):Prop:=∀(j:Nat) (k:Nd),n.AE[j]?=some k->AQ AF 124 [Bb x m,Am k,.c (AV (src++[(j:Int)])),Aj s] m (BM x.f) (BM x.f) (BP (NZ x s src j k))
structure oF (x:Af)(n:Nd)(src:List Int)(s:Aa):Prop where
 hx:x.Ok
 hs:s.ok=true
 k1:n.kind=1
 form:n.Jb=true
 ok:n.BX
 cn:n.cnt<=80
 dp:n.dep<=24
 sr:Src src 0 n.dep
theorem AH6 {x:Af}(I:x.Ok){s:Aa}(hs:s.ok=true){src:List Int}{d:Nat}(G:Src src 0 (d+1)):∀(l:List Nd) (i:Nat) (L:List AA),Nd.deps l<=d->Nd.MY 1 l=true->Kb x s src i l=some L->(∀b∈L,b.Ad=true)/\AA.Az L<=10000*Nd.Az l/\L.length=l.length
 | [],i,L,_,_,h=>by
   simp only[Kb,BL]at h;subst h;exact⟨λb E=>(by cases E),by simp[AA.Az],rfl⟩
 | n::l,i,L,U,B,h=>by
   simp only[Nd.deps]at U;simp only[Nd.MY,Ak]at B;simp only[Kb]at h;split at h;cases h;rename_i b E;split at h;cases h;rename_i r W;simp only[BL]at h;subst h;obtain⟨M,o,Q⟩:=AH6 I hs G l (i+1) r (by omega) B.2 W;have J:=B.1.2;rw[dg,Ak]at J;have K:n.kind≠1:=by intro e;have:=B.1.1;rw[e]at this;simp[Pa]at this
   obtain⟨R,q⟩:=AH0 I hs J.1 K (G.add i (by omega)) E;refine⟨λc F=>?_,?_,by simp[Q]⟩;rcases Cf.1 F with rfl|F
   exact R;exact M c F;simp only[AA.Az,Nd.Az];omega
theorem ABc {n:Nd}(h:n.Jb=true)(F:n.kind=1):n=Dd n.AE:=by
 obtain⟨k,t,c,AE⟩:=n;simp only at F;subst F;simp only[Nd.Jb,Ak]at h;have B:=h.1.1;have E:=h.1.2;simp[Ki]at B;simp[FL]at E;rw[B,E.1];rfl
theorem AZH (n:Nd)(src:List Int)(s:Aa)(h:oF x n src s)(M:n.AE=[]):AQ AF 169 [Bb x m,Am n,.c (AV src),Aj s] m (BM x.f) (BM x.f) (BP (GU x s src n)):=by
 have A0:=h.sr.len;have Av:GU x s src n=some (x.empty s src):=by
  obtain⟨k,t,c,AE⟩:=n;simp only at M;subst M;simp[GU]
 rw[Av];have q:=tC x m x.f.params.Al s h.hs;have z:=EI (x.Al s) 50;have R:=tC x m x.f.params.Gj s h.hs;have zo:AU x.f.params.Al (x.sz s)=x.Al s:=rfl;rw[zo]at q;obtain⟨H,hH⟩:=AI (AU x.f.params.Gj (x.sz s));rw[hH]at R;have E:=λw=>My w H 0 [] trivial (by simp[AA.Az])
 have B:=λw=>OZ (Bf w H 0 []) 1 src (by omega)
 have o:Nd.AG n.AE=[]:=by rw[M];rfl
 simp only[AA.AG]at E;obtain⟨ss,U⟩:=AI (src.map (λn=>[C.int .i64 n]));have Rp:AV src=.sl ss:=by rw[<-U];rfl
 have Q:ss.length=src.length:=by rw[<-U];simp
 unfold Af.empty;rw[hH];rw[Rp]at B ⊢;by_cases F:src=[]
 have J:src.length=0:=by rw[F];rfl
 rw[if_pos F];have E:=E 0;have B:=B 0;obtain⟨G,K⟩:=AI (Bf 0 H 0 []);obtain⟨B1,I⟩:=AI (G.mark 1 src);rw[K]at E B ⊢;rw[I]at B ⊢;rw[J]at Q;simp only[BP,As]at *
 unfold Bb Aj Am at *
 refine CH ui u6 ?_;exact qz (cj2 @o @Q UM) (cj3 R E B trivial);have J:0<src.length:=Kr.2 F;rw[if_neg F];generalize hW:AU (x.Al s) 50=W at z ⊢;have E:=E W;have B:=B W;obtain⟨G,K⟩:=AI (Bf W H 0 []);obtain⟨B1,I⟩:=AI (G.mark 1 src);rw[K]at E B ⊢;rw[I]at B ⊢;simp only[BP,As]at *
 unfold Bb Aj Am at *
 refine CH ui u6 ?_;exact qz (cj3 @o @Q @J UM) (cj5 q z R E B trivial)
theorem AKu (n:Nd)(src:List Int)(s:Aa)(J:Nat)(I:oB x m n src s)(R:J<=n.AE.length)(M : ∀j k,j<J->n.AE[j]?=some k->NZ x s src j k≠none)(L:List AA)(K:QY x s src 0 n.AE=L)(j:Nat)(Q:j<J):
 ∃k B,n.AE[j]?=some k/\L[j]?=some B/\AQ AF 124 [Bb x m,Am k,.c (AV (src++[(j:Int)])),Aj s] m (BM x.f) (BM x.f) (.ret (Ao B)):=by
 obtain⟨k,E⟩:∃k,n.AE[j]?=some k:=⟨_,BE (by omega)⟩
 have G:=I j k E;cases F:NZ x s src j k with
 | none=>exact absurd F (M j k Q E)
 | some B=>rw[F]at G;refine⟨k,B,E,?_,G⟩;rw[<-K,AH2 x s src 0 n.AE j k E,Cz,F];rfl
theorem AZI (n:Nd)(src:List Int)(s:Aa)(h:oF x n src s)(hn:n.AE≠[])(Bn:oB x m n src s)(ha : ∀j k,n.AE[j]?=some k->NZ x s src j k≠none):AQ AF 169 [Bb x m,Am n,.c (AV src),Aj s] m (BM x.f) (BM x.f) (BP (GU x s src n)):=by
 have A6:=h.sr.len;have OI:=ABc h.form h.k1;have A5:=h.ok;have FX:=h.cn;have zJ:=h.form;have qX:=h.dp;have D2:=h.sr;have W:Kb x s src 0 n.AE=some (QY x s src 0 n.AE):=AH4 x s src 0 n.AE λj k hj=>by rw[Cz];exact ha j k hj
 have E:=AAK x s src 0 n.AE;obtain⟨L,hL⟩:=AI (QY x s src 0 n.AE);have z:=AKu x m n src s n.AE.length Bn (BN _) (λj k _ h=>ha j k h) L hL;rw[hL]at E W;have Av:GU x s src n=match Bj (F9 L (x.CC s n.AE))with|none=>none|some b=>some (b.mark 1 src):=by
  obtain⟨k,t,c,AE⟩:=n;simp only at hn W;unfold GU;rw[if_neg hn,W];simp only;cases Bj (F9 L (x.CC s AE))<;>rfl
 rw[OI]at A5 FX zJ qX D2;have j6:=zJ;rw[dg,Ak]at j6;have rK:(Dd n.AE).Ad=true:=by
  unfold Nd.Ad;rw[zJ,decide_eq_true (show (Dd n.AE).kind=1 from rfl),decide_eq_true (by omega:(Dd n.AE).cnt<=1000),decide_eq_true qX];rfl
 have F:=ABJ x s n.AE h.hx h.hs A5 (by omega) rK;have A0:=ke (Dd n.AE);rw[A0]at D2;obtain⟨Fv,IK,_⟩:=AH6 h.hx h.hs D2 n.AE 0 L (BN _) j6.2 W;have zA:=Tm (Dd n.AE);have A2:Nd.Az n.AE<=80:=by have:(Dd n.AE).AE=n.AE:=rfl;rw[this]at zA;omega
 have Ce:=SH n.AE;obtain⟨ze,kB⟩:=AVT Fv;have A3:=AY9 x s n.AE;have J:=kx L (x.CC s n.AE) ze (by omega) (by omega) (by omega);rw[sm kB (by omega) (ALD h.hx h.hs n.AE)]at J;obtain⟨o,ho⟩:=AI (Bj (F9 L (x.CC s n.AE)));rw[ho]at J Av;rw[Av];have M:=λb=>OZ b 1 src (by omega)
 generalize yQ:AV (x.CC s n.AE)=SP at F J;obtain⟨rs,R⟩:=AI (Nd.AG n.AE);have Q:rs.length=n.AE.length:=by rw[<-R,Pc]
 have Yw : ∀(j:Nat) (k:Nd),n.AE[j]?=some k->rs[j]?=some k.row:=λj k hj=>by rw[<-R];exact XG hj
 obtain⟨ss,Cu⟩:=AI (AV src);obtain⟨N,hN⟩:=AI n.AE.length;have cL:0<N:=by rw[<-hN];exact Kr.2 hn
 have Ew:(N:Int)<=9223372036854775807:=by omega
 have FP:128*(N:Int)<=281474976710656:=by omega
 rw[R]at F;rw[Cu]at M ⊢;rw[hN]at z E Q Ce;obtain⟨kd,t,c,AE⟩:=n;simp only at z Yw R;simp only[Am,Nd.vs,Nd.row,Ap,BB,R];simp only[AR]at F;unfold Bb Aj at *
 clear W Av ha Bn Fv IK ho;have yG : ¬N=0:=by omega
 have e0:=iY L E.symm;simp only[BT]at e0;refine CH ui u6 ?_;refine qy (cj4 @Q @Ew @FP @yG UM) trivial ⟨?_⟩;rw[e0];refine lp (ι:={ k:Nat // k<=N }) (λk=>[(52,.c (.int .i64 (k.1:Int)))]) (λk=>[O.mp (Ci m (BM x.f)),O.box 33 [.c (.int .i64 kd),.c (.str t),.c (.int .i64 c),.c (.sl rs)] false,O.box 63 [.c (.int .i64 s.By),.c (.bool s.Hd)] false,O.box 41 BT false,O.box 41 (Ht L k.1) false]) (λk=>N - k.1) ⟨0,CI _⟩ ?_ ?_;all_goals simp only[puts,Bw,CO,Ag,Ai]
 exact ER @BT.eq_1;rintro ⟨k,Yq⟩;simp only at Yq ⊢;by_cases I:k<N;obtain⟨q,B,hq,hB,hc⟩:=z k I;have A9:=Yw k q hq;have Bu:=gx A9;have Dh:k<rs.length:=by omega
 have G:=pR src [(k:Int)] (by omega) (by simp) (by simp);have hw:AZ.wrap ((k:Int)+1)=((k+1:Nat):Int):=by rw[Ac];simp
 have OC:k<L.length:=by omega
 have K:=ia L k OC;have Yo:L[k]=B:=by rw[BE OC]at hB;exact ML hB
 have Dz:k*11+11<=(Ht L k).length:=by rw[iZ _ _ (by omega)];omega
 rw[Yo]at K;unfold Am at hc;simp only[As]at hc;have Rp:AV [(k:Int)]=.sl [[.int .i64 (k:Int)]]:=rfl;rw[Rp,Cu]at G;obtain⟨sk,A1⟩:=AI (AV (src++[(k:Int)]));rw[A1]at G hc;clear J M F;refine qy (cj8 @I @hw @Q @A9 @Bu @Dh @Dz @K UM) (cj2 G hc trivial) ⟨?_⟩;refine⟨⟨k+1,I⟩,by simp only;omega,?_⟩;refine Le.MI 5 (F2 rfl) (by simp[DG,P4,BT]) (by simp[P4,BT]) (by simp[V.BI,V.A8]) (by simp[O.A8,V.BI,V.A8,P4,BT]);obtain rfl:k=N:=by omega
 clear z Yw;refine qu (.mk 12) (cj2 @I @Q UM) trivial ⟨?_⟩;rw[<-E];refine AW.Bi 4 rfl (AEL L) (by simp[V.Cs,V.Bi,ox];exact rfl) (by simp[O.Bi,V.Cs,V.Bi,ox,AEM,BT];exact rfl) ?_;cases o with
 | some B=>have U:=Jl B;have M:=M B;simp only[Dm,IZ,if_true,Ba,AR,As]at J U M;simp only[BP,As];exact qz (cj @Q<|UM) (cj4 F J U M trivial)
 | none=>have U:=LG AA.zero m (BM x.f);simp only[Hr,H8,GW,if_false,Ba,AR,As]at J U;simp only[BP,As];exact qz (cj @Q<|UM) (cj3 F J U trivial)
theorem AZJ (n:Nd)(src:List Int)(s:Aa)(h:oF x n src s)(Bn:oB x m n src s)(J:Nat)(U:Nd)(M:n.AE[J]?=some U)(qL:NZ x s src J U=none)(ha : ∀j k,j<J->n.AE[j]?=some k->NZ x s src j k≠none):AQ AF 169 [Bb x m,Am n,.c (AV src),Aj s] m (BM x.f) (BM x.f) (BP (GU x s src n)):=by
 have A0:=h.sr.len;have z:J<n.AE.length:=(Br.1 M).1;have FX:=h.cn;have zA:=Tm n;have Ce:=SH n.AE;have Ur:Kb x s src 0 n.AE=none:=AH5 x s src 0 n.AE J U M (by rw[Cz];exact qL);have F:=AAK x s src 0 n.AE;obtain⟨L,hL⟩:=AI (QY x s src 0 n.AE);have hR:=AKu x m n src s J Bn (by omega) ha L hL;have I:=Bn J U M;rw[qL]at I;rw[hL]at F;have Av:GU x s src n=none:=by
  obtain⟨k,t,c,AE⟩:=n;simp only at Ur z;unfold GU;rw[if_neg (by intro e;rw[e]at z;exact absurd z (UE _)),Ur]
 rw[Av];obtain⟨rs,W⟩:=AI (Nd.AG n.AE);have o:rs.length=n.AE.length:=by rw[<-W,Pc]
 have Yw : ∀(j:Nat) (k:Nd),n.AE[j]?=some k->rs[j]?=some k.row:=λj k hj=>by rw[<-W];exact XG hj
 obtain⟨ss,Cu⟩:=AI (AV src);obtain⟨N,hN⟩:=AI n.AE.length;have Ew:(N:Int)<=9223372036854775807:=by omega
 have FP:128*(N:Int)<=281474976710656:=by omega
 rw[Cu];rw[hN]at F o Ce z;obtain⟨kd,t,c,AE⟩:=n;simp only at hR Yw W M;simp only[Am,Nd.vs,Nd.row,Ap,BB,W];simp only[BP]at I ⊢;unfold Bb Aj at *
 clear Ur Av ha Bn;have yG : ¬N=0:=by omega
 have e0:=iY L F.symm;simp only[BT]at e0;refine CH ui u6 ?_;refine qy (cj4 @o @Ew @FP @yG UM) trivial ⟨?_⟩;rw[e0];refine lp (ι:={ k:Nat // k<=J }) (λk=>[(52,.c (.int .i64 (k.1:Int)))]) (λk=>[O.mp (Ci m (BM x.f)),O.box 33 [.c (.int .i64 kd),.c (.str t),.c (.int .i64 c),.c (.sl rs)] false,O.box 63 [.c (.int .i64 s.By),.c (.bool s.Hd)] false,O.box 41 BT false,O.box 41 (Ht L k.1) false]) (λk=>J - k.1) ⟨0,CI _⟩ ?_ ?_;all_goals simp only[puts,Bw,CO,Ag,Ai]
 exact ER @BT.eq_1;rintro ⟨k,Yq⟩;simp only at Yq ⊢;have dB:k<N:=by omega
 have Dh:k<rs.length:=by omega
 have E:=pR src [(k:Int)] (by omega) (by simp) (by simp);have hw:AZ.wrap ((k:Int)+1)=((k+1:Nat):Int):=by rw[Ac];simp
 have OC:k<L.length:=by omega
 have G:=ia L k OC;have Dz:k*11+11<=(Ht L k).length:=by rw[iZ _ _ (by omega)];omega
 have Rp:AV [(k:Int)]=.sl [[.int .i64 (k:Int)]]:=rfl;rw[Rp,Cu]at E;obtain⟨sk,R⟩:=AI (AV (src++[(k:Int)]));by_cases Q:k<J;obtain⟨q,B,hq,hB,hc⟩:=hR k Q;have K:=Yw k q hq;have Bu:=gx K;have Yo:L[k]=B:=by rw[BE OC]at hB;exact ML hB
 rw[Yo]at G;unfold Am at hc;simp only[As]at hc;rw[R]at E hc;clear I;refine qy (cj8 @dB @hw @o @K @Bu @Dh @Dz @G UM) (cj2 E hc trivial) ⟨?_⟩;refine⟨⟨k+1,Q⟩,by simp only;omega,?_⟩;refine Le.MI 5 (F2 rfl) (by simp[DG,P4,BT]) (by simp[P4,BT]) (by simp[V.BI,V.A8]) (by simp[O.A8,V.BI,V.A8,P4,BT]);obtain rfl:k=J:=by omega
 have K:=Yw k U M;have Bu:=gx K;unfold Am at I;rw[R]at E I;exact qz (cj7 @dB @hw @o @K @Bu @Dh @Dz UM) (cj2 E I trivial)
structure ADg (x:Af)(n:Nd)(src:List Int)(s:Aa):Prop where
 hx:x.Ok
 hs:s.ok=true
 k1:n.kind≠1
 form:n.Jb=true
 ok:n.BX
 cn:n.cnt<=80
 dp:n.dep<=24
 sr:Src src 1 n.dep
theorem AAP {n k:Nd}(K:n.Jb=true)(ho:n.BX)(E:k∈n.AE):k.Jb=true/\Pa n.kind k.kind=false/\k.BX/\k.cnt<n.cnt/\k.dep<n.dep:=by
 obtain⟨F,t,c,AE⟩:=n;simp only at E;rw[dg,Ak]at K;have B:=K.2;simp only at B ⊢;have key : ∀l:List Nd,Nd.MY F l=true->k∈l->k.Jb=true/\Pa F k.kind=false/\k.cnt<=Nd.Az l:=by
  intro l;induction l with
  | nil=>intro _ h;cases h
  | cons a l ih =>
    intro h J;simp only[Nd.MY,Ak]at h;simp only[Nd.Az];rcases Cf.1 J with rfl|J
    exact⟨h.1.2,by simpa using h.1.1,by omega⟩;obtain⟨G,I,M⟩:=ih h.2 J;exact⟨G,I,by omega⟩
 obtain⟨G,I,M⟩:=key AE B E;have U:=AIh AE k E;have Q:=Tm ⟨F,t,c,AE⟩;have R:=ke ⟨F,t,c,AE⟩;simp only at Q R;exact⟨G,I,di ho.2.2 k E,by omega,by omega⟩
theorem get_mem {l:List Nd}{j:Nat}{k:Nd}(h:l[j]?=some k):k∈l:=Cj h
theorem ATt {n:Nd}(ho:n.Cl=true)(B:n.kind≠1):n.kind=2\/n.kind=3\/n.kind=4\/n.kind=5\/n.kind=6\/n.kind=7\/n.kind=8\/n.kind=9\/n.kind=10\/n.kind=11\/n.kind=12:=by
 have h:=Qa ho;unfold FL at h;repeat' split at h
 all_goals first
  | (exact absurd rfl (by simpa using h))
  | omega
  | (cases h)
theorem rT {n:Nd}(ho:n.Cl=true)(B:n.kind=6\/n.kind=7\/n.kind=8\/n.kind=9):∃a r,n.AE=a::r:=by
 have h:=Qa ho;cases E:n.AE with
 | cons a r=>exact⟨a,r,rfl⟩
 | nil =>
   rw[E]at h;rcases B with e|e|e|e<;>rw[e]at h<;>simp[FL]at h
theorem AYt (n:Nd)(src:List Int)(s:Aa)(h:ADg x n src s)(J:ADo x m n src s):AQ AF 124 [Bb x m,Am n,.c (AV src),Aj s] m (BM x.f) (BM x.f) (BP (Fw x s src n)):=by
 have B:=h.form;rw[dg,Ak]at B;have F:RL x m n src s:=⟨h.hx,h.hs,B.1,h.k1,B.2,h.sr,h.cn,J⟩
 have E:src.length<=100:=by have:=h.sr.len;omega
 have I:=Z3 B.1;rcases ATt B.1 h.k1 with e|e|e|e|e|e|e|e|e|e|e
 refine AYl x m n src s E e ?_;rw[AAJ x s src B.1 (.inl e),if_pos e];exact AZP x m n src s h.hx h.hs (by rw[e]at I;simpa [Ki]using I);refine AYm x m n src s E e ?_;rw[AAJ x s src B.1 (.inr (.inl e)),if_neg (by omega)];obtain⟨t1,t2⟩:=AIm (t:=n.text) (by rw[e]at I;simpa [Ki]using I);exact ALK x m n src s h.hx h.hs t1 t2;refine AYn x m n src s E e ?_;rw[AAJ x s src B.1 (.inr (.inr e)),if_neg (by omega)];obtain⟨t1,t2⟩:=AJx (t:=n.text) (by rw[e]at I;simpa [Ki]using I);exact ALK x m n src s h.hx h.hs t1 t2;exact AYo x m n src s E e (AYc F e);obtain⟨a,r,G⟩:=rT B.1 (.inl e);exact AYp x m n src s E e (AZG F e a r G);obtain⟨a,r,G⟩:=rT B.1 (.inr (.inl e));exact AYq x m n src s E e (AZK F e a r G);obtain⟨a,r,G⟩:=rT B.1 (.inr (.inr (.inl e)));exact AYr x m n src s E e (AZL F e a r G);obtain⟨a,r,G⟩:=rT B.1 (.inr (.inr (.inr e)));exact AYs x m n src s E e (AZM F e a r G);exact AYi x m n src s E e (AYU F e);exact AYj x m n src s E e (AYb F e);exact AYk x m n src s E e (AY2 F e)
theorem AKX :∀n:Nd,(∀src s,oF x n src s->AQ AF 169 [Bb x m,Am n,.c (AV src),Aj s] m (BM x.f) (BM x.f) (BP (GU x s src n)))/\(∀src s,ADg x n src s->AQ AF 124 [Bb x m,Am n,.c (AV src),Aj s] m (BM x.f) (BM x.f) (BP (Fw x s src n))):=AAi λn ih=>by
 refine⟨λsrc s h=>?_,λsrc s h=>?_⟩;by_cases z:n.AE=[]
 exact AZH x m n src s h z;have qK:oB x m n src s:=λj k B=>by
  obtain⟨f1,f2,f3,f4,f5⟩:=AAP h.form h.ok (get_mem B);have J:k.kind≠1:=by intro e;rw[h.k1,e]at f2;simp[Pa]at f2
  have F:=h.sr;have W:=h.cn;have qX:=h.dp;obtain⟨d,M⟩:∃d,n.dep=d+1:=⟨n.dep - 1,by omega⟩
  rw[M]at F;exact(ih k (get_mem B)).2 _ _ ⟨h.hx,h.hs,J,f1,f3,by omega,by omega,F.add j (by omega)⟩
 by_cases E : ∀j k,n.AE[j]?=some k->NZ x s src j k≠none;exact AZI x m n src s h z qK E;obtain⟨j,k,B,I,K⟩:=AFd (p:=λj k=>NZ x s src j k≠none) n.AE E;exact AZJ x m n src s h qK j k B (uE.1 I) λi q Q R=>K i q Q R
 have o:=h.form;rw[dg,Ak]at o;have G:oG x m n src s:=λj k B=>by
  obtain⟨f1,f2,f3,f4,f5⟩:=AAP h.form h.ok (get_mem B);have J:k.kind=1:=by
   have hk:=h.k1;by_cases e:k.kind=1;exact e;simp[Pa,hk,e]at f2
  have F:=h.sr;have W:=h.cn;have qX:=h.dp;obtain⟨d,M⟩:∃d,n.dep=d+1:=⟨n.dep - 1,by omega⟩
  rw[M]at F;exact(ih k (get_mem B)).1 _ _ ⟨h.hx,ABs h.hs,J,f1,f3,by omega,by omega,F.add j (by omega)⟩
 refine AYt x m n src s h ?_;have U:=Qa o.1;have zA:=Tm n;have Ce:=SH n.AE;have W:=h.cn;have zT:=h.sr.len;by_cases E : ∀j k,n.AE[j]?=some k->M2 x s src n.kind j k≠none;refine .inl ⟨Oe x s src n.kind 0 n.AE,AK2 x s src n.kind 0 n.AE λj k B=>by rw[Cz];exact E j k B,?_⟩;have:=AZN x m n src s h.hs U h.k1 (by omega) (by omega) G E;rwa [show n.AE.length=(AA.AG (Oe x s src n.kind 0 n.AE)).length by rw[GA,tB]]at this
 obtain⟨j,k,B,I,K⟩:=AFd (p:=λj k=>M2 x s src n.kind j k≠none) n.AE E;exact .inr ⟨AK3 x s src n.kind 0 n.AE j k B (by rw[Cz];exact uE.1 I),AZO x m n src s h.hs U h.k1 (by omega) (by omega) G j k B (uE.1 I) λi q Q R=>K i q Q R⟩
def toCm1 (j m:Nat):V->Option C
 | .c c=>some c
 | .mp i=>if i=j then some (.MA m)else none
 | .fn f []=>some (.EV f)
 | .Bg r=>some (.sl r)
 | _=>none
def toCm (j m:Nat):List V->Option (List C)
 | []=>some []
 | v::l=>match toCm1 j m v,toCm j m l with
   | some c,some r=>some (c::r)
   | _,_=>none
theorem toCm1_ok {x:Cx}{w:World}{j:Nat} : ∀ {v:V} {c:C} {u:Value},toCm1 j (x.loc j).b v=some c->CV x w v u->Ab x.S w c u:=by
 intro v c u h B;unfold toCm1 at h;split at h;cases h;simpa only[CV]using B;split at h;rename_i i e;cases h;subst e;simp only[CV,Ab]at B ⊢;exact B.2.2;cases h;cases h;simp only[CV,AO,Ab]at B ⊢;obtain⟨vs,e,B⟩:=B;have:vs=#[]:=Array.toList_inj.1 B;rw[e,this];cases h;simp only[CV]at B;obtain⟨_,_,B⟩:=B;exact B;cases h
theorem toCm_ok {x:Cx}{w:World}{j:Nat} : ∀ {l:List V} {cs:List C} {us:List Value},toCm j (x.loc j).b l=some cs->AO x w l us->B4 x.S w cs us
 | [],cs,us,h,B=>by simp only[toCm,BL]at h;subst h;simpa only[AO,B4]using B
 | v::l,cs,us,h,B=>by
   simp only[AO]at B;obtain⟨u,J,rfl,E,F⟩:=B;unfold toCm at h;split at h;rename_i c r G I;cases h;exact⟨u,J,rfl,toCm1_ok G E,toCm_ok I F⟩;cases h
def AN (P:Program)(f:FuncId)(args:List V)(R:Obj->Prop)(row:Nat->List C):Prop:=
 ∀(S:BF) (w:World) (us:List Value),(∀b j,S b j->b<w.heap.size)->AO (Cx.bare S) w args us->
  Calls P f us.toArray w λr w'=>∃(S':BF) (b m:Nat) (ob:Obj),r=.returned (.pointer (some ⟨b,0,none⟩))/\Ay w w'/\Ar S S' w w'/\(∀b' j,S' b' j->S b' j\/(w.heap.size<=b'/\b'<w'.heap.size))/\w.heap.size<=m/\w'.heap[m]?=some ob/\still ob=false/\R ob/\B5 S' w' (row m) b 0
def ANA (P:Program)(l:List ResultVar)(R:Obj->Prop)(row:Nat->List C):Exit->St->Prop
 | .ret,s=>∃(k j:Nat) (ty:TypeId) (cells:List V),GJ P s l=some (.ptr k 0)/\s.h[k]?=some (.box ty cells false)/\s.h[j]?=some (.mp (λ_=>R))/\∀m,toCm j m cells=some (row m)
 | _,_=>False
theorem AN.intro {P:Program}{f:FuncId}{fn:Func}{c:Code}{args:List V}{R:Obj->Prop}{row:Nat->List C}(hf:P.funcs[f]?=some fn)(hb:fn.body=some c)(h:AW ⟨none,0⟩ P c (ANA P fn.results.toList R row) ⟨args++Aq (fn.ntmps - args.length) .any,[]⟩):AN P f args R row:=by
 intro S w us hS U;refine callsIn_wide.1 (callsIn_of_wp_marks (F:=Cg) (n:=0) hf hb trivial ?_);have hA:Bo S (Bs.of w) (Cx.bare S) ⟨args++Aq (fn.ntmps - args.length) .any,[]⟩ { tmps:=us.toArray++Array.replicate (fn.ntmps - us.toArray.size) undef,defers:=[] } w:=by
  refine⟨⟨λk o h=>by simp at h,λk h=>h.elim,λk k' o o' h=>by simp at h,λk o j h=>by simp at h,hS,λk o h=>by simp at h,λb j h=>.inl h,λb j h=>h,.FR (Ay.refl w),Ext.none _ _ _⟩,?_,Marks.nil _ _⟩;simp only[Array.toList_append,Array.toList_replicate];have hl:us.toArray.size=args.length:=by simpa using U.len
  rw[hl];exact U.append (SQ _ _ _ _)
 refine wpIn_mono (h 0 S (Bs.of w) _ _ w (BN _) hA) λe z w' ⟨x,s,K,hK⟩=>?_
 cases e with
 | ret =>
   obtain⟨k,j,ty,cells,hr,hk,hj,Bn⟩:=hK;obtain⟨Ds,e,h1,h2⟩:=K.df;show LeavesInM Cg 0 P fn z.tmps _ z.defers .returning w';rw[e];refine dR hr Ds w' h1 h2 K.good K.tm λJ u g I=>?_
   obtain⟨q1,q2,q3,vs,q4,q5,q6⟩:=g.ok k _ hk;obtain⟨_,k1,k2,ob,k3,k4,k5⟩:=g.ok j _ hj;simp only[CV]at I;obtain⟨_,_,rfl⟩:=I;have W:=toCm_ok (Bn (x.loc j).b) q6;have CZ:Ar x.S (λi B=>x.S i B\/(i=(x.loc k).b/\B<vs.size)) J J:=⟨λ_ _ h=>.inl h,λ_ _ _ _ h=>h⟩
   have Q:(x.loc k).b<J.heap.size:=(DO.1 q4).1;refine⟨λi B=>x.S i B\/(i=(x.loc k).b/\B<vs.size),(x.loc k).b,(x.loc j).b,ob,rfl,g.keep.all,⟨λb' B E=>.inl (g.sub b' B E),λb' B v E hc=>g.keep.all.cell hc⟩,λi B E=>?_,Hq λM=>g.own j _ hj k2 M,k3,k4,k5,?_⟩;rcases E with E|⟨rfl,_⟩
   rcases g.new i B E with h|h
   exact .inl h;exact .inr ⟨Hq h,g.ex i B E⟩;exact .inr ⟨Hq λM=>g.own k _ hk q3 M,Q⟩;have G:=W.len;refine B5.Pe (B4.mono CZ _ _ W) (λB u I=>?_) λB q=>.inr ⟨rfl,by rw[<-G]at q;simpa using q⟩
   rw[cell_of_row J _ _ vs ty (0,0) q4];simpa using I
 | _=>exact hK.elim
theorem BM.empty (f:AP):BM f (.map #[] 0):=⟨λ_ _=>false,#[],0,rfl,λe B=>by simp at B,λs n=>by simp⟩
theorem AIg (W:x.Ok):AN AF 123 [.agg x.f.vs,.c (Cc x.d)] (BM x.f) (Cm x):=by
 have B : ∀l:Int,0<=l->l<=3->AC AF 106 [.agg x.f.vs,.agg [.c (.int .i64 l),.c (.bool false)]] (.A7 [.c (.int .i64 (BS x.f.params ⟨l,false⟩)),.c (.int .i64 0)]):=λl z h3=>by
  have h:=LI x.f ⟨l,false⟩;have M:(⟨l,false⟩:Aa).ok=true:=by simp[Aa.ok];omega
  rw[show IT x.f ⟨l,false⟩=(BS x.f.params ⟨l,false⟩,0)from if_neg (by simp[M,W.val])]at h;simp only[AR]at h;exact h
 have I:=B 0 (by omega) (by omega);have F:=B 1 (by omega) (by omega);have G:=B 2 (by omega) (by omega);have J:=B 3 (by omega) (by omega);rw[show BS x.f.params ⟨0,false⟩=100 from rfl]at I;rw[show BS x.f.params ⟨1,false⟩=100 from rfl]at F;rw[show BS x.f.params ⟨2,false⟩=x.f.params.script from rfl]at G;rw[show BS x.f.params ⟨3,false⟩=x.f.params.Qr from rfl]at J;refine AN.intro func123 rfl ?_;simp only[ntmps123,Ap,BB,BA,BO,Nat.reduceAdd,Nat.reduceSub,BY,Cy,BK,BU];have E:x.f.vs=[.c (O8 x.f.DR),.c (MG x.f.C5)]++x.f.params.list.map λn=>.c (.int .i64 n):=by
  simp[AP.vs,AP.row]
 simp only[Params.list,Ap,BB,BK,BU]at E;rw[E]at I F G J ⊢;clear E;refine Ah ?_;refine AW.DA ?_;refine CY (.mk 2) trivial ?_;refine SW.Tq (.mp 1) (some (1,.mp (λ_=>BM x.f))) (by intro k ob h;cases h;simp) rfl (λq w0 y a w g ht=>AVM g (R:=λ_=>BM x.f) (λ_=>BM.empty _) rfl (AYE _ w) 1 (λU=>by obtain⟨o,M⟩:=g.dom 1 U;simp at M)) ?_;simp only[St.step,St.put,Bk,BA,BO,Nat.reduceAdd,IY,if_false,Ai,Ag,BK,BU];refine CY (.mk 1) trivial ?_;refine CY (.mk 1) trivial ?_;refine CY (.mk 1) trivial ?_;refine SW.nil ?_;have K:=(results123)
 have Q:=(cj4 I F G J trivial)
 repeat any_goals (first|refine Du K Q ⟨?_⟩|exact Bt K|(with_reducible refine LA.loop (LA.round ?_))|(with_reducible refine LA.round ?_)|(refine Dv K ?_ ?_<;>intro h<;>try exact Dw))
 refine⟨2,1,224,_,by simp[GJ,C0,DE,CJ,results123],rfl,rfl,λm=>by simp[toCm,toCm1,Cm,AP.row,Params.list]⟩
theorem Ay.JI {W B:World}(h:Ay W B)(S:BF):Ar S S W B:=⟨λ_ _ q=>q,λ_ _ _ _ E=>h.cell E⟩
theorem APP {S:BF}{W B:World}(E:Ay W B):Ext (Cx.bare S) (Cx.bare S) W B:=⟨E.JI S,λ_ h=>h.elim,λ_ h=>h.elim⟩
theorem LD (v:V):Vu Ay (λu W=>CV (Cx.bare S) W v u):=λu W E B h=>CV.mono (APP B) v u h
theorem TA {P:Program}{S:BF}{W:World}{a:Act}{o:Oper}{t:TypeId}{y:Operand}(ho:o.op=.load t y){q:Bool×Nat}(Q:B6 P t=some q){row:List C}{off:Nat}(B:CV (Cx.bare S) W (.cp row off) (a.eval y)){v:V}(h:CJ q (row.map V.c) off=some v):∃u E,(execOp a.eval o).run P W=.ok (.value u) E/\CV (Cx.bare S) E v u/\Ay W E:=by
 simp only[CV]at B;obtain⟨b,I,B,F⟩:=B;obtain⟨u,F,R⟩:=dY (x:=Cx.bare S) (w:=W) (b:=b) (o:=I) Q (λj v G=>by
  rw[List.getElem?_map,Option.map_eq_some_iff]at G;obtain⟨c,M,rfl⟩:=G;obtain⟨u,J,K⟩:=F.get M;exact⟨u,J,by simpa only[CV]using K⟩) h
 exact⟨u,W,by simp[execOp,ho,Instr.loadAt,B,Instr.sureAddr,F],R,Ay.refl W⟩
def vn (P:Program)(g:FuncId)(caps:List V)(out:Out):Prop:=
 ∀(S:BF) (w:World) (us:List Value),(∀b j,S b j->b<w.heap.size)->AO (Cx.bare S) w caps us->
  Calls P g us.toArray w λr w'=>∃S':BF,Ay w w'/\Ar S S' w w'/\(∀b j,S' b j->S b j\/(w.heap.size<=b/\b<w'.heap.size))/\Lf (Cx.bare S') w' out r
theorem ACZ {P:Program}{ops:Array Oper}{Q:Exit->Act->World->Prop}{a:Act}{w:World}{B:List Oper}{o:Oper}{f:FuncId}{args:Array Value}{R:Ending->World->Prop}(M:o.guard=none)(G:(execOp a.eval o).run P w=.ok (.enter f args) w)(K:Calls P f args w R)(F : ∀e E,R e E->(∃v,e=.returned v/\wpList P ops Q B (a.put o.dst v) E)\/∃I,e=.panicked I/\Q (.panic I) a E):wpList P ops Q (o::B) a w:=by
 unfold wpList;rw[if_pos (by simp[Region.wanted,M])];refine .inl ?_;unfold Oper.wp;rw[G,Oper.upon_enter];refine K.mono λe E h=>?_
 rcases F e E h with ⟨v,rfl,J⟩|⟨I,rfl,J⟩
 exact J;exact J
def pN (S:BF)(B:Nat)(x:Af):Post:=λv W=>∃(S':BF) (b m:Nat) (ob:Obj),v=.pointer (some ⟨b,0,none⟩)/\(∀b j,S b j->S' b j)/\(∀b' j,S' b' j->S b' j\/(B<=b'/\b'<W.heap.size))/\B<=m/\W.heap[m]?=some ob/\still ob=false/\BM x.f ob/\B5 S' W (Cm x m) b 0
theorem AJE (B:Nat)(x:Af):Vu Ay (pN S B x):=λv W W' E ⟨F,b,m,z,K,M,Q,R,G,U,o,q⟩ =>
 ⟨F,b,m,z,K,M,λJ j I=>(Q J j I).imp id λh=>⟨h.1,H7 h.2 E.size⟩,R,(E.heap (DO.1 G).1).trans G,U,o,B5.mono (E.JI F) _ _ _ q⟩
theorem AOQ (n:Nd)(src:List Int)(s:Aa)(o:Option AA)(hx:x.Ok)(hq : ∀m,AQ AF 169 [Bb x m,Am n,.c (AV src),Aj s] m (BM x.f) (BM x.f) (BP o)):
 vn AF 168 [.cp x.f.row 0,.cp [Cc x.d] 0,.cp n.row 0,.cp [AV src] 0,.cp [.int .i64 s.By,.bool s.Hd] 0] (BP o):=by
 intro S w us hS B7;simp only[AO,CV,M8]at B7;obtain⟨_,_,rfl,⟨b0,o0,rfl,r0⟩,_,_,rfl,⟨b1,o1,rfl,r1⟩,_,_,rfl,⟨b2,o2,rfl,r2⟩,_,_,rfl,⟨b3,o3,rfl,r3⟩,_,_,rfl,⟨b4,o4,rfl,r4⟩,rfl⟩:=B7;go_enter func168,ntmps168;go_wp2;obtain⟨G,J⟩:=AI (w.alloc (.cells DZ 41));change Code.wp _ _ _ _ (w.alloc (.cells DZ 41));have Iu:Ay w G:=by rw[<-J];exact(Ay.refl w).alloc _
 have YR:Cb G w.heap.size 41 DZ:=by rw[<-J];exact Cb.new _ _ _
 have R7:G.heap.size=w.heap.size+1:=by rw[<-J];simp
 rw[J];obtain⟨B0,OA⟩:=AI G.heap.size;refine ABW (K:=Ay) 6 Fz (by kernel_rfl) rfl ?_;intro w1 Q;simp only[DP,ET];have hk:Ay w w1:=Iu.trans Q;have Y9:B0<=w1.heap.size:=by rw[<-OA];exact Q.size
 with_reducible refine LK (λu W=>CV (Cx.bare S) W (.agg x.f.vs) u) (LD S _) rfl ?_ ?_
 intro a W B hf;have ht:=hf 0 (by simp[looks,Gm,Bl,Df]);simp[know]at ht;exact TA (t:=27) (y:=.tmp 0) (row:=x.f.row) (off:=0) rfl tN (by simp only[CV];exact⟨b0,o0,by simpa [JT]using ht,B5.mono (B.JI S) _ _ _ (B5.mono (hk.JI S) _ _ _ r0)⟩) (by simp[CJ,AP.row,Params.list,AP.vs]);with_reducible refine LK (λu W=>CV (Cx.bare S) W (.c (Cc x.d)) u) (LD S _) rfl ?_ ?_
 intro a W B hf;have ht:=hf 1 (by simp[looks,Gm,Bl,Df]);simp[know]at ht;exact TA (t:=28) (y:=.tmp 1) (row:=[Cc x.d]) (off:=0) rfl ALh (by simp only[CV];exact⟨b1,o1,by simpa [JT]using ht,B5.mono (B.JI S) _ _ _ (B5.mono (hk.JI S) _ _ _ r1)⟩) (by simp[CJ]);with_reducible refine ABX (pN S B0 x) (AJE S _ x) rfl ?_ ?_
 . intro a W B hf;have h6:=hf 6 (by simp[looks,Gm,Bl,Df]);have h7:=hf 7 (by simp[looks,Gm,Bl,Df]);simp[know]at h6 h7;have mc:=B.size;refine⟨123,#[a.tmps.getD 6 undef,a.tmps.getD 7 undef],by go_simp,?_⟩;refine(AIg x hx S W [a.tmps.getD 6 undef,a.tmps.getD 7 undef] (λb j h=>by have:=hS b j h;have:=hk.size;omega) ?_).mono ?_;simp only[AO];exact⟨_,_,rfl,by simpa using h6,_,_,rfl,by simpa using h7,rfl⟩;rintro r W' ⟨F,b,m,ob,rfl,e1,e2,e3,e4,z,e6,e7,e8⟩;refine⟨_,rfl,⟨F,b,m,ob,rfl,e2.sub,λb' j hs=>(e3 b' j hs).imp id λh=>⟨by omega,h.2⟩,by omega,z,e6,e7,e8⟩,e1⟩
 with_reducible refine LK (λu W=>CV (Cx.bare S) W (.agg n.vs) u) (LD S _) rfl ?_ ?_
 intro a W B hf;have ht:=hf 2 (by simp[looks,Gm,Bl,Df]);simp[know]at ht;exact TA (t:=33) (y:=.tmp 2) (row:=n.row) (off:=0) rfl AB8 (by simp only[CV];exact⟨b2,o2,by simpa [JT]using ht,B5.mono (B.JI S) _ _ _ (B5.mono (hk.JI S) _ _ _ r2)⟩) (by cases n;simp[CJ,Nd.row,Nd.vs]);with_reducible refine LK (λu W=>CV (Cx.bare S) W (.c (AV src)) u) (LD S _) rfl ?_ ?_
 intro a W B hf;have ht:=hf 3 (by simp[looks,Gm,Bl,Df]);simp[know]at ht;exact TA (t:=39) (y:=.tmp 3) (row:=[AV src]) (off:=0) rfl ALj (by simp only[CV];exact⟨b3,o3,by simpa [JT]using ht,B5.mono (B.JI S) _ _ _ (B5.mono (hk.JI S) _ _ _ r3)⟩) (by simp[CJ]);with_reducible refine LK (λu W=>CV (Cx.bare S) W (.agg [.c (.int .i64 s.By),.c (.bool s.Hd)]) u) (LD S _) rfl ?_ ?_
 intro a W B hf;have ht:=hf 4 (by simp[looks,Gm,Bl,Df]);simp[know]at ht;exact TA (t:=63) (y:=.tmp 4) (row:=[.int .i64 s.By,.bool s.Hd]) (off:=0) rfl ALl (by simp only[CV];exact⟨b4,o4,by simpa [JT]using ht,B5.mono (B.JI S) _ _ _ (B5.mono (hk.JI S) _ _ _ r4)⟩) (by simp[CJ]);with_reducible refine ABZ ?_
 intro W B;intro v6 h6 v7 h7 v8 h8 v9 h9 v10 A0 v11 A1;obtain⟨F,b,m,ob,rfl,e1,e2,e3,e4,z,e6,e7⟩:=h8;simp only[CU,B9];with_reducible apply xW
 simp only[Q9,uV,Ai,Ag];have mc:=B.size;have hex:Ext (Cx.bare S) (Cx.bare F) W W:=⟨⟨e1,λ_ _ _ _ h=>h⟩,λ_ h=>h.elim,λ_ h=>h.elim⟩
 have PD : ∀b j,F b j->b<W.heap.size:=λb j h=>(e2 b j h).elim (λh=>by have:=hS b j h;have:=hk.size;omega) λh=>h.2
 have Co:=hq m F W [.pointer (some ⟨b,0,none⟩),v9,v10,v11] ob PD e4 z e6 (by
  simp only[AO,Bb];exact⟨_,_,rfl,by simp only[CV];exact⟨b,0,rfl,e7⟩,_,_,rfl,CV.mono hex _ _ h9,_,_,rfl,CV.mono hex _ _ A0,_,_,rfl,CV.mono hex _ _ A1,rfl⟩)
 with_reducible refine ACZ rfl (f:=169) (args:=#[.pointer (some ⟨b,0,none⟩),v9,v10,v11]) (by go_simp) Co ?_
 rintro e W' ⟨E,Cw,f1,f2,f3,f4,f5,f6,f7⟩;have U:Ay w W':=f1.after (hk.trans B) λk e=>by omega
 have Il:Cb W' w.heap.size 41 DZ:=by
  have hb:=B.blk (Q.blk YR);exact(f1.block w.heap.size hb.lt (λe=>by omega)).trans hb
 have R : ∀b j,E b j->S b j\/(G.heap.size<=b/\b<W'.heap.size):=λb j h=>by
  have F7:=f1.size;have hm:=(DO.1 f4).1;rcases f3 b j h with h|h|h
  rcases e2 b j h with h|h
  exact .inl h;exact .inr (by omega);exact .inr (by omega);exact .inr (by omega)
 have jZ:Ar S E w W':=⟨λb j h=>f2.sub b j (e1 b j h),λb j v _ hc=>U.cell hc⟩
 cases o with
 | none=>right;simp only[BP,Lf]at f7;refine⟨_,f7,?_⟩;refine tu rfl ?_;refine⟨E,U,jZ,λb j h=>(R b j h).imp id λh=>by omega,?_⟩;simp only[BP,Lf]
 | some q =>
   left;simp only[BP,Lf]at f7;obtain⟨u,rfl,hu⟩:=f7;refine⟨u,rfl,?_⟩;simp only[Q9,uV,Ai,Ag];obtain⟨l,hl⟩:∃l,Ao q=.agg l:=⟨_,rfl⟩
   have zO:l.length=11:=by cases q;simp[Ao]at hl;rw[<-hl];simp
   have FO:l.all V.one=true:=by cases q;simp[Ao]at hl;rw[<-hl];simp[V.one]
   have I:=hu;rw[hl]at I;have Yk:=CV.cells (v:=.agg l) I (by simpa [V.flat]using FO);simp only[CV]at I;obtain⟨cs,rfl,hcs⟩:=I;have hs:cs.size=11:=by have:=hcs.len;simpa [zO]using this
   have h1:Xw cs:=λy hy=>Yk.2 y (by simpa [ny]using hy)
   have Me:ND AF 41 cs.size:=by rw[hs];exact X2
   have B1:=Lib.hid Il;go_wp2_with (((with_reducible refine ll (ty:=41) (w.heap.size) (cs) ?_ ?_ ?_ ?_ ?_ ?_ ?_);(focus rfl);(focus rfl);(focus exact⟨_,_,B1.out,Eq.symm (hs)⟩);(focus exact h1);(focus exact Me);(focus rfl)))
   have Fc:Cb (W'.setRow w.heap.size cs) w.heap.size 41 cs:=B1.out.Tz cs;obtain⟨M,WX⟩:=AI (W'.setRow w.heap.size cs);have hkb:KB (λb=>b=w.heap.size) W' M:=by
    rw[<-WX];exact⟨rfl,rfl,rfl,by simp,λk _ hn=>setRow_other _ _ _ _ hn⟩
   rw[WX]at Fc ⊢;have Lu:(loadVar 41 ⟨w.heap.size,0,none⟩).run AF M=.ok (.agg cs) M:=lI Fc.row Me;have EG:Ay w M:=hkb.after U λk e=>by omega
   have IN:=hkb.size;refine tu rfl ?_;refine⟨.agg cs,by simp[results,results168,asAddr,Lu,Q9],E,EG,⟨jZ.sub,λb j v _ hc=>EG.cell hc⟩,λb j h=>(R b j h).imp id λh=>by omega,?_⟩;simp only[BP,Lf];refine⟨_,rfl,?_⟩;refine CV.mono (x:=Cx.bare E) (x':=Cx.bare E) (w:=W') ⟨⟨λ_ _ h=>h,λb j v hs hc=>hkb.cell (by
    rcases R b j hs with h|h
    have:=hS b j h;omega;omega) hc⟩,λ_ h=>h.elim,λ_ h=>h.elim⟩ _ _ hu
theorem AON (n:Nd)(src:List Int)(s:Aa)(o:Option AA)(hx:x.Ok)(hq : ∀m,AQ AF 124 [Bb x m,Am n,.c (AV src),Aj s] m (BM x.f) (BM x.f) (BP o)):
 vn AF 122 [.cp x.f.row 0,.cp [Cc x.d] 0,.cp n.row 0,.cp [AV src] 0,.cp [.int .i64 s.By,.bool s.Hd] 0] (BP o):=by
 intro S w us hS B7;simp only[AO,CV,M8]at B7;obtain⟨_,_,rfl,⟨b0,o0,rfl,r0⟩,_,_,rfl,⟨b1,o1,rfl,r1⟩,_,_,rfl,⟨b2,o2,rfl,r2⟩,_,_,rfl,⟨b3,o3,rfl,r3⟩,_,_,rfl,⟨b4,o4,rfl,r4⟩,rfl⟩:=B7;go_enter func122,ntmps122;go_wp2;obtain⟨G,J⟩:=AI (w.alloc (.cells DZ 41));change Code.wp _ _ _ _ (w.alloc (.cells DZ 41));have Iu:Ay w G:=by rw[<-J];exact(Ay.refl w).alloc _
 have YR:Cb G w.heap.size 41 DZ:=by rw[<-J];exact Cb.new _ _ _
 have R7:G.heap.size=w.heap.size+1:=by rw[<-J];simp
 rw[J];obtain⟨B0,OA⟩:=AI G.heap.size;refine ABW (K:=Ay) 6 Fz (by kernel_rfl) rfl ?_;intro w1 Q;simp only[DP,ET];have hk:Ay w w1:=Iu.trans Q;have Y9:B0<=w1.heap.size:=by rw[<-OA];exact Q.size
 with_reducible refine LK (λu W=>CV (Cx.bare S) W (.agg x.f.vs) u) (LD S _) rfl ?_ ?_
 intro a W B hf;have ht:=hf 0 (by simp[looks,Gm,Bl,Df]);simp[know]at ht;exact TA (t:=27) (y:=.tmp 0) (row:=x.f.row) (off:=0) rfl tN (by simp only[CV];exact⟨b0,o0,by simpa [JT]using ht,B5.mono (B.JI S) _ _ _ (B5.mono (hk.JI S) _ _ _ r0)⟩) (by simp[CJ,AP.row,Params.list,AP.vs]);with_reducible refine LK (λu W=>CV (Cx.bare S) W (.c (Cc x.d)) u) (LD S _) rfl ?_ ?_
 intro a W B hf;have ht:=hf 1 (by simp[looks,Gm,Bl,Df]);simp[know]at ht;exact TA (t:=28) (y:=.tmp 1) (row:=[Cc x.d]) (off:=0) rfl ALh (by simp only[CV];exact⟨b1,o1,by simpa [JT]using ht,B5.mono (B.JI S) _ _ _ (B5.mono (hk.JI S) _ _ _ r1)⟩) (by simp[CJ]);with_reducible refine ABX (pN S B0 x) (AJE S _ x) rfl ?_ ?_
 . intro a W B hf;have h6:=hf 6 (by simp[looks,Gm,Bl,Df]);have h7:=hf 7 (by simp[looks,Gm,Bl,Df]);simp[know]at h6 h7;have mc:=B.size;refine⟨123,#[a.tmps.getD 6 undef,a.tmps.getD 7 undef],by go_simp,?_⟩;refine(AIg x hx S W [a.tmps.getD 6 undef,a.tmps.getD 7 undef] (λb j h=>by have:=hS b j h;have:=hk.size;omega) ?_).mono ?_;simp only[AO];exact⟨_,_,rfl,by simpa using h6,_,_,rfl,by simpa using h7,rfl⟩;rintro r W' ⟨F,b,m,ob,rfl,e1,e2,e3,e4,z,e6,e7,e8⟩;refine⟨_,rfl,⟨F,b,m,ob,rfl,e2.sub,λb' j hs=>(e3 b' j hs).imp id λh=>⟨by omega,h.2⟩,by omega,z,e6,e7,e8⟩,e1⟩
 with_reducible refine LK (λu W=>CV (Cx.bare S) W (.agg n.vs) u) (LD S _) rfl ?_ ?_
 intro a W B hf;have ht:=hf 2 (by simp[looks,Gm,Bl,Df]);simp[know]at ht;exact TA (t:=33) (y:=.tmp 2) (row:=n.row) (off:=0) rfl AB8 (by simp only[CV];exact⟨b2,o2,by simpa [JT]using ht,B5.mono (B.JI S) _ _ _ (B5.mono (hk.JI S) _ _ _ r2)⟩) (by cases n;simp[CJ,Nd.row,Nd.vs]);with_reducible refine LK (λu W=>CV (Cx.bare S) W (.c (AV src)) u) (LD S _) rfl ?_ ?_
 intro a W B hf;have ht:=hf 3 (by simp[looks,Gm,Bl,Df]);simp[know]at ht;exact TA (t:=39) (y:=.tmp 3) (row:=[AV src]) (off:=0) rfl ALj (by simp only[CV];exact⟨b3,o3,by simpa [JT]using ht,B5.mono (B.JI S) _ _ _ (B5.mono (hk.JI S) _ _ _ r3)⟩) (by simp[CJ]);with_reducible refine LK (λu W=>CV (Cx.bare S) W (.agg [.c (.int .i64 s.By),.c (.bool s.Hd)]) u) (LD S _) rfl ?_ ?_
 intro a W B hf;have ht:=hf 4 (by simp[looks,Gm,Bl,Df]);simp[know]at ht;exact TA (t:=63) (y:=.tmp 4) (row:=[.int .i64 s.By,.bool s.Hd]) (off:=0) rfl ALl (by simp only[CV];exact⟨b4,o4,by simpa [JT]using ht,B5.mono (B.JI S) _ _ _ (B5.mono (hk.JI S) _ _ _ r4)⟩) (by simp[CJ]);with_reducible refine ABZ ?_
 intro W B;intro v6 h6 v7 h7 v8 h8 v9 h9 v10 A0 v11 A1;obtain⟨F,b,m,ob,rfl,e1,e2,e3,e4,z,e6,e7⟩:=h8;simp only[CU,B9];with_reducible apply xW
 simp only[Q9,uV,Ai,Ag];have mc:=B.size;have hex:Ext (Cx.bare S) (Cx.bare F) W W:=⟨⟨e1,λ_ _ _ _ h=>h⟩,λ_ h=>h.elim,λ_ h=>h.elim⟩
 have PD : ∀b j,F b j->b<W.heap.size:=λb j h=>(e2 b j h).elim (λh=>by have:=hS b j h;have:=hk.size;omega) λh=>h.2
 have Co:=hq m F W [.pointer (some ⟨b,0,none⟩),v9,v10,v11] ob PD e4 z e6 (by
  simp only[AO,Bb];exact⟨_,_,rfl,by simp only[CV];exact⟨b,0,rfl,e7⟩,_,_,rfl,CV.mono hex _ _ h9,_,_,rfl,CV.mono hex _ _ A0,_,_,rfl,CV.mono hex _ _ A1,rfl⟩)
 with_reducible refine ACZ rfl (f:=124) (args:=#[.pointer (some ⟨b,0,none⟩),v9,v10,v11]) (by go_simp) Co ?_
 rintro e W' ⟨E,Cw,f1,f2,f3,f4,f5,f6,f7⟩;have U:Ay w W':=f1.after (hk.trans B) λk e=>by omega
 have Il:Cb W' w.heap.size 41 DZ:=by
  have hb:=B.blk (Q.blk YR);exact(f1.block w.heap.size hb.lt (λe=>by omega)).trans hb
 have R : ∀b j,E b j->S b j\/(G.heap.size<=b/\b<W'.heap.size):=λb j h=>by
  have F7:=f1.size;have hm:=(DO.1 f4).1;rcases f3 b j h with h|h|h
  rcases e2 b j h with h|h
  exact .inl h;exact .inr (by omega);exact .inr (by omega);exact .inr (by omega)
 have jZ:Ar S E w W':=⟨λb j h=>f2.sub b j (e1 b j h),λb j v _ hc=>U.cell hc⟩
 cases o with
 | none=>right;simp only[BP,Lf]at f7;refine⟨_,f7,?_⟩;refine tu rfl ?_;refine⟨E,U,jZ,λb j h=>(R b j h).imp id λh=>by omega,?_⟩;simp only[BP,Lf]
 | some q =>
   left;simp only[BP,Lf]at f7;obtain⟨u,rfl,hu⟩:=f7;refine⟨u,rfl,?_⟩;simp only[Q9,uV,Ai,Ag];obtain⟨l,hl⟩:∃l,Ao q=.agg l:=⟨_,rfl⟩
   have zO:l.length=11:=by cases q;simp[Ao]at hl;rw[<-hl];simp
   have FO:l.all V.one=true:=by cases q;simp[Ao]at hl;rw[<-hl];simp[V.one]
   have I:=hu;rw[hl]at I;have Yk:=CV.cells (v:=.agg l) I (by simpa [V.flat]using FO);simp only[CV]at I;obtain⟨cs,rfl,hcs⟩:=I;have hs:cs.size=11:=by have:=hcs.len;simpa [zO]using this
   have h1:Xw cs:=λy hy=>Yk.2 y (by simpa [ny]using hy)
   have Me:ND AF 41 cs.size:=by rw[hs];exact X2
   have B1:=Lib.hid Il;go_wp2_with (((with_reducible refine ll (ty:=41) (w.heap.size) (cs) ?_ ?_ ?_ ?_ ?_ ?_ ?_);(focus rfl);(focus rfl);(focus exact⟨_,_,B1.out,Eq.symm (hs)⟩);(focus exact h1);(focus exact Me);(focus rfl)))
   have Fc:Cb (W'.setRow w.heap.size cs) w.heap.size 41 cs:=B1.out.Tz cs;obtain⟨M,WX⟩:=AI (W'.setRow w.heap.size cs);have hkb:KB (λb=>b=w.heap.size) W' M:=by
    rw[<-WX];exact⟨rfl,rfl,rfl,by simp,λk _ hn=>setRow_other _ _ _ _ hn⟩
   rw[WX]at Fc ⊢;have Lu:(loadVar 41 ⟨w.heap.size,0,none⟩).run AF M=.ok (.agg cs) M:=lI Fc.row Me;have EG:Ay w M:=hkb.after U λk e=>by omega
   have IN:=hkb.size;refine tu rfl ?_;refine⟨.agg cs,by simp[results,results122,asAddr,Lu,Q9],E,EG,⟨jZ.sub,λb j v _ hc=>EG.cell hc⟩,λb j h=>(R b j h).imp id λh=>by omega,?_⟩;simp only[BP,Lf];refine⟨_,rfl,?_⟩;refine CV.mono (x:=Cx.bare E) (x':=Cx.bare E) (w:=W') ⟨⟨λ_ _ h=>h,λb j v hs hc=>hkb.cell (by
    rcases R b j hs with h|h
    have:=hS b j h;omega;omega) hc⟩,λ_ h=>h.elim,λ_ h=>h.elim⟩ _ _ hu
def outT:Option AA->V
 | some b=>.A7 [Ao b,AR 0]
 | none=>.A7 [Ao AA.zero,AR 6]
theorem AEg (g:FuncId)(caps:List V)(o:Option AA)(h:vn AF g caps (BP o))(I:Fp AF g=true):AC AF 121 [.fn g caps] (outT o):=by
 cases o with
 | some b =>
   refine AOC g caps (b.row.map V.c) (λS w us F E=>(h S w us F E).mono ?_) I (by cases b;simp[AA.row]) (by cases b;simp[AA.row,V.one]);rintro r w' ⟨K,q,z,h3,u,h4,h5⟩;exact⟨u,K,h4,q,z,h3,h5⟩
 | none =>
   intro S w us F E;simp only[AO,CV]at E;obtain⟨u,r,rfl,⟨vs,rfl,W⟩,rfl⟩:=E;obtain⟨fn,hf,M,hn⟩:=P7 I;refine(AOF g vs w 6 (λR J A0=>?_) ⟨fn,hf,(by intro e;rw[e]at M;cases M),by simpa using hn⟩).mono ?_;have yt:=AO.mono (x':=Cx.bare S) (w':=R) ⟨⟨λ_ _ h=>h,λb j v _ G=>J.cell G⟩,λ_ h=>h.elim,λ_ h=>h.elim⟩ _ _ W;refine(h S R vs.toList (λb j h=>H7 (F b j h) J.size) yt).mono ?_;rintro r w2 ⟨K,U,CZ,Gc,B⟩;exact⟨B,U⟩
   . rintro r w' ⟨rfl,Q⟩;refine⟨_,S,rfl,Q,⟨λ_ _ h=>h,λb j v _ G=>Q.cell G⟩,λb j h=>.inl h,?_⟩;simp only[outT,Ao,AR,AA.zero,AA.row,AA.AG,AV,Ap,BB,CV,AO];refine⟨_,rfl,_,_,rfl,⟨_,rfl,?_⟩,_,_,rfl,(by unfold Ab;exact⟨rfl,by decide +kernel⟩),rfl⟩;refine⟨_,_,rfl,(by unfold Ab;exact⟨rfl,by decide +kernel⟩),_,_,rfl,(by unfold Ab;exact⟨rfl,by decide +kernel⟩),?_⟩;iterate 6 refine⟨_,_,rfl,(by unfold Ab;exact⟨rfl,by decide +kernel⟩),?_⟩
     refine⟨_,_,rfl,?_,_,_,rfl,(by unfold Ab;exact⟨rfl,by decide +kernel⟩),_,_,rfl,?_,rfl⟩;all_goals
      unfold Ab;exact⟨none,0,rfl,BN _,CI _,λh=>absurd rfl h⟩
def Sd (src:List Int)(p:Nat):Bool:=HT src && (decide (src.length<=25) && decide (src.length % 2=p))
theorem AIP (src:List Int)(hs:src.length<=maxLen)(p:Nat)(R:p=0\/p=1):AC AF 120 [.c (AV src),.c (.int .i64 p)] (.c (.bool (Sd src p))):=by
 unfold maxLen at hs;have K:=AIb src.length hs;unfold Sd;refine en func120 ntmps120 ?_;refine go @AV.eq_1 ?_;refine lp (ι:={ k:Nat // k<=src.length/\HT src=HT (src.drop k) }) (λk=>[(9,.c (.int .i64 (k.1:Int))),(4,.c (.bool false))]) (λ_=>[]) (λk=>src.length - k.1) ⟨0,by simp⟩ ?_ ?_;all_goals simp only[puts,Bw,CO,Ag,Ai]
 exact DH;rintro ⟨k,W,I⟩;by_cases B:k<src.length;rw[List.drop_eq_getElem_cons B]at I;obtain⟨z,M⟩:=AI (src[k]);rw[M]at I;have U:AZ.wrap ((k:Int)+1)=((k+1:Nat):Int):=by rw[Ac];simp
 by_cases Q:z<0;have e:HT src=false:=by rw[I];simp[HT];omega
 refine go (cj2 @B @M @Q) ?_;exact At (cj gb<| @e);have e:HT src=HT (src.drop (k+1)):=by rw[I];simp[HT];intro;omega
 refine go (cj3 @B @M @Q @U) ?_;refine⟨⟨k+1,by omega,e⟩,by simp only;omega,?_⟩;exact DH;have e:HT src=true:=by rw[I,List.drop_of_length_le (by omega)];rfl
 by_cases E:src.length<=25;rcases R with rfl|rfl
 by_cases J:src.length % 2=0;have F:(src.length:Int)<=25:=by omega
 refine go (cj4 @B @AV.eq_1 @K @J @F) ?_;exact At (cj3 gb @e @E @J);have G:src.length % 2=1:=by omega
 have F:(src.length:Int)<=25:=by omega
 refine go (cj4 @B @AV.eq_1 @K @G @F) ?_;exact At (cj3 gb @e @E @G);by_cases J:src.length % 2=0;have F:(src.length:Int)<=25:=by omega
 refine go (cj4 @B @AV.eq_1 @K @J @F) ?_;exact At (cj3 gb @e @E @J);have G:src.length % 2=1:=by omega
 have F:(src.length:Int)<=25:=by omega
 refine go (cj4 @B @AV.eq_1 @K @G @F) ?_;exact At (cj3 gb @e @E @G);have F : ¬(src.length:Int)<=25:=by omega
 refine go (cj2 @B @AV.eq_1 @F) ?_;exact At (cj2 gb @e @E)
theorem AIR (J:x.d.length<=300)(hs : ∀e∈x.d,e.text.size<=maxLen):AC AF 119 [.agg x.f.vs,.c (Cc x.d),Aj s] (.c (.bool (x.f.valid && (Ll x.d && s.ok)))):=by
 have B:=Ma x.f;have E:=sM x.d (by omega) hs;have F:=fI s;unfold Aj at F ⊢;refine en func119 ntmps119 ?_;cases I:x.f.valid<;>cases G:Ll x.d<;>rw[I]at B<;>rw[G]at E;all_goals
  exact wz (cj @B<|results119) (cj3 B E F trivial)
def O1 (e:Int):V:=.A7 [Ao AA.zero,AR e]
def Af.Bj (x:Af)(s:Aa):Bool:=x.f.valid && (Ll x.d && s.ok)
def Ob (x:Af)(s:Aa)(src:List Int)(n:Nd):V:=if (x.Bj s && n.Ad)=false then O1 1 else if Sd src 0=false then O1 2 else outT (GU x s src n)
theorem AUP (n:Nd)(src:List Int)(s:Aa)(hf:x.f.Fit)(W:x.d.length<=300)(DS : ∀e∈x.d,e.text.size<=maxLen)(q:n.BX)(hc:n.cnt<=80)(Q:src.length<=maxLen):AC AF 102 [.agg x.f.vs,.c (Cc x.d),Am n,.c (AV src),Aj s] (Ob x s src n):=by
 have B:=AIR x s W DS;have I:=ABQ n q (by omega);have E:=AIP src Q 0 (.inl rfl);have G:x.Bj s=true->n.Ad=true->Sd src 0=true->AC AF 121 [.fn 168 [.cp x.f.row 0,.cp [Cc x.d] 0,.cp n.row 0,.cp [AV src] 0,.cp [.int .i64 s.By,.bool s.Hd] 0]] (outT (GU x s src n)):=λM K F=>by
  unfold Af.Bj at M;simp only[Ak]at M;unfold Nd.Ad at K;simp only[Ak,decide_eq_true_eq]at K;unfold Sd at F;simp only[Ak,decide_eq_true_eq]at F;have hx:x.Ok:=⟨hf,M.1,W,M.2.1⟩
  exact AEg _ _ _ (AOQ x n src s _ hx λm=>(AKX x m n).1 src s ⟨hx,M.2.2,K.1,K.2.1,q,hc,K.2.2.2,⟨F.1,F.2.2,by omega⟩⟩) (by decide)
 change AC _ _ _ (.c (.bool (x.Bj s)))at B;obtain⟨OV,jR⟩:=AI (x.Bj s);obtain⟨NV,jQ⟩:=AI n.Ad;obtain⟨SV,jX⟩:=AI (Sd src 0);obtain⟨o,z⟩:=AI (GU x s src n);unfold Ob;rw[jR]at B G ⊢;rw[jQ]at I G ⊢;rw[jX]at E G ⊢;rw[z]at G ⊢;clear jR jQ jX z;obtain⟨f,d⟩:=x;obtain⟨kd,t,c,AE⟩:=n;obtain⟨lv,cr⟩:=s;simp only[Am,Nd.vs,Aj,Nd.row]at B I E G ⊢;cases OV with
 | false=>refine en my nN ?_;refine wy RH (cj3 B I E trivial) ⟨?_⟩;exact At (cj8 RH @O1.eq_1 @Ao.eq_1 @AR.eq_1 @AA.zero.eq_1 @AA.row.eq_1 @AA.AG.eq_1 @AA.AG.eq_2 @AV.eq_1)
 | true =>
   cases NV with
   | false=>refine en my nN ?_;refine wy RH (cj3 B I E trivial) ⟨?_⟩;exact At (cj8 RH @O1.eq_1 @Ao.eq_1 @AR.eq_1 @AA.zero.eq_1 @AA.row.eq_1 @AA.AG.eq_1 @AA.AG.eq_2 @AV.eq_1)
   | true =>
     cases SV with
     | false=>refine en my nN ?_;refine wy RH (cj3 B I E trivial) ⟨?_⟩;exact At (cj8 RH @O1.eq_1 @Ao.eq_1 @AR.eq_1 @AA.zero.eq_1 @AA.row.eq_1 @AA.AG.eq_1 @AA.AG.eq_2 @AV.eq_1)
     | true =>
       have J:=G rfl rfl rfl;obtain⟨sr,F⟩:=AI (AV src);rw[F]at J E ⊢;clear G F;cases o with
       | none=>refine en my nN ?_;refine wu (.mk 5) RH (cj3 B I E trivial) ⟨?_⟩;refine Cn 0 ?_;refine Cn 1 ?_;refine Cn 2 ?_;refine Cn 3 ?_;refine Cn 4 ?_;simp only[outT,Ao,AR,AA.zero,AA.row,AA.AG,AV,Ap,BB]at J;refine wy RH (cj J<|trivial) ⟨?_⟩;exact At (cj9 RH @outT.eq_1 @outT.eq_2 @Ao.eq_1 @AR.eq_1 @AA.zero.eq_1 @AA.row.eq_1 @AA.AG.eq_1 @AA.AG.eq_2 @AV.eq_1)
       | some bx=>obtain⟨b0,b1,b2,b3,b4,b5,b6,b7,bk,bo,bs⟩:=bx;simp only[outT,Ao,AR,AA.row,Ap,BB]at J;obtain⟨Ju,R⟩:=AI (AA.AG bk);obtain⟨Jv,U⟩:=AI (AV bs);rw[R,U]at J;refine en my nN ?_;refine wu (.mk 5) RH (cj3 B I E trivial) ⟨?_⟩;refine Cn 0 ?_;refine Cn 1 ?_;refine Cn 2 ?_;refine Cn 3 ?_;refine Cn 4 ?_;refine wy RH (cj J<|trivial) ⟨?_⟩;exact At (cj7 RH @outT.eq_1 @outT.eq_2 @Ao.eq_1 @AR.eq_1 @AA.row.eq_1 @R @U)
def HD (x:Af):List V:=x.f.vs++[.c (Cc x.d)]
@[simp] theorem Ach :(HD x).length=23:=by simp[HD]
@[simp] theorem Acf :(HD x).all V.one=true:=by simp[HD,V.one]
@[simp] theorem Ack :(HD x).take 23=HD x:=Gl (by simp)
@[simp] theorem Ace :(HD x).take 22=x.f.vs:=by rfl
@[simp] theorem Acd :(HD x)[22]?=some (.c (Cc x.d)):=by rfl
@[simp] theorem Acg (h:22<(HD x).length):(HD x)[22]=.c (Cc x.d):=rfl
@[simp] theorem Aci :V.CF (HD x)=some (HD x):=by
 have:HD x=(x.f.row++[Cc x.d]).map V.c:=by rfl
 rw[this];exact Zq _
@[simp] theorem Acj (cs:List V)(h:cs.length=23):E8 cs 0 (HD x)=HD x:=kz (by simp[h])
@[simp] theorem Acb (n:Nat):V.BI n (HD x)=true:=by simp[HD,AP.vs,AP.row,Params.list,V.BI,V.A8]
theorem AKU (src:List Int)(n:Nd):∃b e,Ob x s src n=.A7 [Ao b,AR e]:=by
 unfold Ob O1 outT;split;exact⟨_,_,rfl⟩;split;exact⟨_,_,rfl⟩;split;exact⟨_,_,rfl⟩;exact⟨_,_,rfl⟩
theorem AAc (n:Nd)(s:Aa)(M:x.f.Fit)(Q:x.d.length<=300)(G : ∀e∈x.d,e.text.size<=maxLen)(R:n.BX)(K:n.cnt<=80):AC AF 51 [.agg x.f.vs,.c (Cc x.d),Am n,Aj s] (Ob x s [] n):=by
 have h:=AUP x n [] s M Q G R K (CI _);obtain⟨b,e,F⟩:=AKU x s [] n;rw[F]at h ⊢;obtain⟨q,z,b2,b3,b4,b5,b6,b7,I,bo,J⟩:=b;simp only[Ao,AR,AA.row,Ap,BB]at h ⊢;obtain⟨W,B⟩:=AI (AA.AG I);obtain⟨o,E⟩:=AI (AV J);rw[B,E]at h ⊢;clear B E F;obtain⟨kd,t,c,U⟩:=n;obtain⟨lv,cr⟩:=s;simp only[Am,Nd.vs,Aj,Nd.row,AV,BB]at h ⊢;refine en func51 ntmps51 ?_;exact wz results51 (cj h<|trivial)
def jA (x:Af)(n:Nd)(m:Int):Bool:=O6 x.f && (decide (x.d.length<=300) && decide ((n.cnt:Int)<=m))
theorem APU (n:Nd)(m:Int)(R:x.f.Fit)(z:x.d.length<=maxLen)(W:n.BX)(U:0<=m)(Q:m<=100000):AC AF 11 [.agg (HD x),Am n,.c (.int .i64 m)] (.c (.bool (jA x n m))):=by
 have E:=APV x.f R.gl;have B:=AXo n m W U Q;unfold jA;obtain⟨M,I⟩:=AI (O6 x.f);obtain⟨q,K⟩:=AI (decide ((n.cnt:Int)<=m));rw[I]at E ⊢;rw[K]at B ⊢;clear I K;have G:decide (x.d.length<=300)=decide ((x.d.length:Int)<=300):=by simp;omega
 rw[G];have J:(Cc x.d)=.sl (x.d.map En.row):=rfl;obtain⟨kd,t,c,o⟩:=n;simp only[Am,Nd.vs,Nd.row]at B ⊢;cases M with
 | false=>refine en func11 ntmps11 ?_;exact wz ADB (cj2 E B trivial)
 | true =>
   by_cases F:(x.d.length:Int)<=300;rw[decide_eq_true F];refine en func11 ntmps11 ?_;exact wz (cj2 @J @F ADB) (cj2 E B trivial);rw[decide_eq_false F];refine en func11 ntmps11 ?_;exact wz (cj2 @J @F ADB) (cj2 E B trivial)
section
variable {H:Type} {enc:TypeId×Value->H} {w:World}
theorem sA :Dq enc AF w fuel 30 (λx:Af=>x.f.row++[Cc x.d]) (λx=>x.f.Fit/\x.d.length<=maxLen/\∀a∈x.d,a.text.size<=maxLen):=by
 cases fuel with
 | zero=>exact Dq.zero
 | succ fuel=>exact(VJ underlying30 (by kernel_rfl) (C6.cons (o:=0) (o':=22) rfl (by kernel_rfl) (by decide) (AVa) (C6.cons (o:=22) (o':=23) rfl (by kernel_rfl) (by decide) (AVY) (C6.nil)))).conv (λq=>⟨q.1,q.2.1⟩) (λq=>by simp) (λq h=>⟨h.1,h.2.1.1,h.2.1.2⟩)
end
def XI (PR:List (List C))(w d:Int):V:=.agg [.c (.sl PR),.c (.int .i64 w),.c (.int .i64 d)]
theorem AJO (w d:Int)(J:L.length<=1000000)(E:1<=w)(F:w<=10000000)(G:0<=d)(I:d<w):AC AF 116 [XI (L.map El) w d] (.c (.bool (Gg L))):=by
 have B:=AFF L J;unfold XI;cases K:Gg L;all_goals
  rw[K]at B;refine en func116 ntmps116 ?_;exact wz (cj4 @E @F @G @I results116) (cj B<|trivial)
theorem AVz (F:List (List C))(w d:Int)(i:Nat)(I:1<=w)(J:w<=10000000)(K:0<=d)(M:d<w):AC AF 183 [XI F w d,.c (.int .i64 (i:Int))] (.fn 250 [.cp [.int .i64 (i:Int)] 0,.cp [.sl F,.int .i64 w,.int .i64 d] 0,.cp [.int .i64 (LU w d i)] 0]):=by
 have G:AZ.wrap (w - d)=w - d:=Ac;unfold XI LU;refine en func183 ntmps183 ?_;by_cases B:0<i;have E:(0:Int)<(i:Int):=by omega
 rw[if_pos B];refine wu (.mk 4) (cj3 @E @B @G vL) trivial ⟨?_⟩;refine Cn 0 ?_;refine Cn 1 ?_;refine Cn 2 ?_;exact wz vL trivial;have E : ¬(0:Int)<(i:Int):=by omega
 rw[if_neg B];refine wu (.mk 4) (cj2 @E @B vL) trivial ⟨?_⟩;refine Cn 0 ?_;refine Cn 1 ?_;refine Cn 2 ?_;exact wz vL trivial
def Qc (L:List (Int×Int×Int))(w:Int)(i m:Nat):List (Nat×Int):=(List.range' (i+1) m).filterMap λj=>if (IQ L w i j).2 then some (j,(IQ L w i j).1)else none
theorem AIE (w:Int)(i:Nat):Qc L w i (L.length - i)=Nb L w i:=rfl
theorem AT5 (w:Int)(i m k:Nat):∃r,Qc L w i (m+k)=Qc L w i m++r:=by
 unfold Qc;rw[<-List.range'_append_1,ACt];exact⟨_,rfl⟩
theorem AT7 {L:List (Int×Int×Int)}{w:Int}{i m:Nat}(h:(IQ L w i (i+1+m)).2=true):Qc L w i (m+1)=Qc L w i m++[(i+1+m,(IQ L w i (i+1+m)).1)]:=by
 unfold Qc;rw[AMI,ACt];simp[h]
theorem AT6 {L:List (Int×Int×Int)}{w:Int}{i m:Nat}(h:(IQ L w i (i+1+m)).2=false):Qc L w i (m+1)=Qc L w i m:=by
 unfold Qc;rw[AMI,ACt];simp[h]
def XH (y:Nat)(PR:List (List C))(w d W:Int)(i j:Nat):List V:=[.yl y,.cp [.int .i64 (i:Int)] 0,.cp [.sl PR,.int .i64 w,.int .i64 d] 0,.cp [.int .i64 W] 0,.any,.c (.int .i64 (j:Int))]++Aq 29 .any
def dS (L:List (Int×Int×Int))(W:Int)(i k:Nat):Nat×Int:=(Nb L W i).getD k (0,0)
theorem AVy (w d W:Int)(i:Nat)(hi:i<=L.length)(hv:Gg L=true)(NN:1<=W)(WX:W<=10000000):MS AF 250 [.cp [.int .i64 (i:Int)] 0,.cp [.sl (L.map El),.int .i64 w,.int .i64 d] 0,.cp [.int .i64 W] 0]
 (λ(pre:List Unit) (_:Unit)=>#[.int .i64 ((dS L W i pre.length).1:Int),.int .i64 (dS L W i pre.length).2]) (λxs=>xs.length=(Nb L W i).length) (Nb L W i).length:=by
 have U:=hv;unfold Gg at U;simp only[Ak,decide_eq_true_eq]at U;have z:=λj Is F=>AOh L W i j Is F hv NN WX
 obtain⟨o,R⟩:=AI (L.map El);have Ed:o.length=L.length:=by rw[<-R,Ch]
 rw[R]at z ⊢;have EK:AZ.wrap ((i:Int)+1)=((i+1:Nat):Int):=by rw[Ac];simp
 refine MS.intro func250 rfl rfl λY=>?_
 simp only[ntmps250,BA,BO,Nat.reduceAdd,Nat.reduceSub,BY,Cy,BK,BU];refine ED @EK ?_;refine IW.loop (ι:={ m:Nat // i+m<=L.length }) (λm=>(⟨Aq (Qc L W i m.1).length (),false⟩,⟨XH Y.l o w d W i (i+1+m.1),[]⟩)) (λm=>L.length - (i+m.1)) ⟨0,by omega⟩ rfl ?_ ?_;refine G1.drop (by simp[DG,XH]) (by simp[V.BI,V.A8,XH]);rintro ⟨m,hm⟩;simp only[XH,BY,Cy,BK,BU];obtain⟨j,F⟩:=AI (i+1+m);have G:=@AT7 L W i m;have I:=@AT6 L W i m;obtain⟨r,Q⟩:=AT5 L W i (m+1) (L.length - (i+m+1));obtain⟨q,J⟩:=AI ((Qc L W i m).length);rw[F]at G I;rw[F,J];by_cases A0:m+i<L.length
 . have B:(j:Int)<=(L.length:Int):=by omega
   have hw:AZ.wrap ((j:Int)+1)=((j+1:Nat):Int):=by rw[Ac];simp
   have E:=z j (by omega) (by omega);unfold AAZ AR at E;rw[show m+1+(L.length - (i+m+1))=L.length - i by omega,AIE]at Q;try ((with_reducible refine IL.run (by simp[BY,B,Ed];first|exact rfl|exact⟨rfl,rfl⟩) ?_ ?_);(focus (first|exact rfl|decide)))
   repeat (first
    | with_reducible refine IW.seq ?_
    | with_reducible refine IW.block ?_
    | with_reducible refine IW.skip ?_
    | with_reducible refine IW.ret ?_
    | with_reducible refine IW.exit ?_
    | with_reducible refine AHn ?_
    | with_reducible refine AHo ?_
    | with_reducible refine AHm ?_
    | with_reducible refine AHk ?_
    | with_reducible refine AHl ?_
    | with_reducible refine AHj ?_
    | with_reducible refine IL.nil ?_
    | ((with_reducible refine IW.region ?_);(with_reducible refine IL.run (by simp[BY,B,Ed];first|exact rfl|exact⟨rfl,rfl⟩) ?_ ?_);(focus (first|exact rfl|decide)))
    | (with_reducible refine IW.cond (b:=true) ?_ (λ_=>?_) (λe=>nomatch e);(focus (simp[ev,B,Ed];done)))
    | (with_reducible refine IW.cond (b:=false) ?_ (λe=>nomatch e) (λ_=>?_);(focus (simp[ev,B,Ed];done))))
   cases K:(IQ L W i j).2 with
   | true =>
     rw[if_pos K]at E;have M:=G K;generalize hD:(IQ L W i j).1=D at E M;have hQ:dS L W i q=(j,D):=by
      unfold dS;rw[Q,M,GX,Bv,Gy (by omega),J,La];rfl
     have hN:q<(Nb L W i).length:=by rw[Q,M];simp;omega
     refine IL.call E (by kernel_rfl) (by simp[BQ]) (by simp[Ee]) (λx x' w w' u h=>by simpa only[CV,AO,Ab]using h) ?_;simp only[St.put,Ag,Ai];refine ED trivial ?_;refine IL.lu () (i1:=(j:Int)) (i2:=D) rfl (by simp[BQ]) (by simp[ev]) (by simp[ev]) (by simp[ev]) (by rw[H6,hQ]) (by rw[H6];exact hN) (by simp[V.BI,V.A8]) ?_ ?_;simp only[St.put,Ag,Ai];refine ED @hw ?_;refine⟨⟨m+1,by omega⟩,by simp only;omega,?_,?_⟩;simp[M,J,Sj];exact G1.drop (by simp[DG,XH,<-F];omega) (by simp[V.BI,V.A8,XH]);simp only[St.put,Ap,BB,V.VT,Ag,Ai];refine ED trivial ?_;exact⟨.inr rfl,λh=>nomatch h⟩
   | false=>rw[if_neg (by rw[K];decide)]at E;refine IL.call E (by kernel_rfl) (by simp[BQ]) (by simp[Ee]) (λx x' w w' u h=>by simpa only[CV,AO,Ab]using h) ?_;simp only[St.put,Ag,Ai];refine ED @hw ?_;refine⟨⟨m+1,by omega⟩,by simp only;omega,?_,?_⟩;simp[I K,J];exact G1.drop (by simp[DG,XH,<-F];omega) (by simp[V.BI,V.A8,XH])
 have B : ¬(j:Int)<=(L.length:Int):=by omega
 refine ED (cj @B<|@Ed) ?_;exact⟨.inl rfl,λ_=>by rw[H6,<-J,<-AIE,show L.length - i=m by omega]⟩
theorem AUD {L:List (Int×Int×Int)}{w:Int}{i j:Nat}(F:L.all Mx=true)(z:L.length<=64)(I:1<=w)(o:w<=10000000)(U:i<j)(q:j<=L.length): -1000000000<=(IQ L w i j).1/\(IQ L w i j).1<=1000000000:=by
 have J:=dV F i (j - i);have Q:=kp F i;unfold IQ;simp only;generalize W:HQ L i (j - i)=T at J ⊢;generalize R:(JQ L i).2.2=p at Q ⊢;obtain⟨B,E⟩:=AI ((100+if 0<i then p else 0));rw[E];have qF : -9900<=B/\B<=10100:=by rw[<-E];split<;>omega
 split;simp only;omega;rename_i K;split;obtain⟨m,M,G⟩:=AKF K I;rw[M];have:=G.2.2;simp only;omega;simp only;omega
def Tl.vs (t:Tl):List V:=[.c (.bool t.there),.c (.int .i64 t.RZ),.c (.int .i64 t.fin)]
theorem ANw (a b:Tl)(n:Int):AC AF 184 [.agg a.vs,.agg b.vs,.c (.int .i64 n)] (.agg (YB a b n).vs):=by
 obtain⟨R,J,I⟩:=a;obtain⟨U,K,M⟩:=b;unfold YB Tl.vs;simp only;cases R;refine en Vk Vn ?_;exact wz Vo trivial;cases U;refine en Vk Vn ?_;exact wz Vo trivial;by_cases B:J<K;refine en Vk Vn ?_;exact wz (cj @B<|Vo) trivial;by_cases E:K<J;refine en Vk Vn ?_;exact wz (cj2 @B @E Vo) trivial;by_cases G:M=n;by_cases F:I=n;subst G F;refine en Vk Vn ?_;exact wz (cj2 @B @E Vo) trivial;refine en Vk Vn ?_;exact wz (cj4 @B @E @G @F Vo) trivial;by_cases F:I=n;refine en Vk Vn ?_;exact wz (cj4 @B @E @G @F Vo) trivial;by_cases Q:I<=M;refine en Vk Vn ?_;exact wz (cj5 @B @E @G @F @Q Vo) trivial;refine en Vk Vn ?_;exact wz (cj5 @B @E @G @F @Q Vo) trivial
def Eb (T:List Tl):List V:=(T.map Tl.vs).flatten
theorem Z4 : ∀T:List Tl,(Eb T).length=T.length*3
 | []=>rfl
 | t::T=>by unfold Eb;rw[Ap,Hp,Cp];have:=Z4 T;unfold Eb at this;rw[this,BA];simp[Tl.vs];omega
@[simp] theorem tJ (m:Nat):∀T:List Tl,V.BI m (Eb T)=true
 | []=>rfl
 | t::T=>by
   have e:Eb (t::T)=t.vs++Eb T:=rfl;rw[e,ib,tJ m T];simp[Tl.vs,V.BI,V.A8]
theorem tK : ∀ {T:List Tl} {j:Nat} {t:Tl},T[j]?=some t->(Eb T)[j*3]?=some (.c (.bool t.there))/\(Eb T)[j*3+1]?=some (.c (.int .i64 t.RZ))/\(Eb T)[j*3+2]?=some (.c (.int .i64 t.fin))
 | [],_,_,h=>by simp at h
 | x::T,0,t,h=>by simp at h;subst h;exact⟨rfl,rfl,rfl⟩
 | x::T,j+1,t,h=>by
   have:=tK (T:=T) (j:=j) (t:=t) (by simpa using h);have e:Eb (x::T)=x.vs++Eb T:=by simp[Eb]
   rw[e,show (j+1)*3=j*3+3 by omega];simpa [Tl.vs]using this
theorem APQ (w d:Int)(i:Nat)(T:List Tl)(Z:O)(hZ:Z=O.box 168 [.c (.sl (L.map El)),.c (.int .i64 w),.c (.int .i64 d)] false)(hi:i<=L.length)(hT:T.length=L.length+1)(hv:Gg L=true)(h1:1<=w)(h2:w<=10000000)(h3:0<=d)(h4:d<w):
 HC AF 117 [XI (L.map El) w d,.c (.int .i64 (i:Int)),.own 1 0 (L.length+1) 3] [Z,O.box 171 (Eb T) false] (.ret (.agg (TF L (LU w d i) (λj=>T.getD j Tl.zero) i).vs)) [Z,O.box 171 (Eb T) false,O.box 168 [.c (.sl (L.map El)),.c (.int .i64 w),.c (.int .i64 d)] false,O.box 169 [.own 1 0 (L.length+1) 3] false,O.box 171 (TF L (LU w d i) (λj=>T.getD j Tl.zero) i).vs false,O.box 171 (TF L (LU w d i) (λj=>T.getD j Tl.zero) i).vs false]:=by
 have Q:=hv;unfold Gg at Q;simp only[Ak,decide_eq_true_eq]at Q;have J:1<=LU w d i/\LU w d i<=10000000:=by unfold LU;split<;>omega
 have hp:=AVz (L.map El) w d i h1 h2 h3 h4;have I:=AVy L w d (LU w d i) i hi hv J.1 J.2;generalize MU:LU w d i=W at hp I J ⊢;have M:=AAY L W i;have K : ∀q∈Nb L W i,-1000000000<=q.2/\q.2<=1000000000:=λq F=>by
  unfold Nb at F;obtain⟨j,hj,e⟩:=List.mem_filterMap.1 F;rw[List.mem_range'_1]at hj;split at e;cases e;exact AUD Q.2.2 Q.2.1 J.1 J.2 (by omega) (by omega);cases e
 unfold TF;obtain⟨G,hG⟩:=AI (Nb L W i);have hQ : ∀k,dS L W i k=G.getD k (0,0):=λk=>by unfold dS;rw[hG]
 simp only[hQ]at I;rw[hG]at I M K ⊢;obtain⟨o,EO⟩:=AI (L.map El);have Ed:o.length=L.length:=by rw[<-EO,Ch]
 rw[EO]at hp I hZ ⊢;subst hZ;generalize hn:L.length=n at Ed hT M ⊢;unfold XI at hp ⊢;have U:=Z4 T;have Rc:=λm=>tJ m T
 rw[hT]at U;obtain⟨A,hA⟩:=AI (Eb T);rw[hA]at U Rc ⊢;have rM : ∀k,k<G.length->(Lit.int .i64 ((G.getD k (0,0)).1:Int)).wf=true/\(Lit.int .i64 (G.getD k (0,0)).2).wf=true:=λk hk=>by
  have hm:G.getD k (0,0)∈G:=by rw[Bv,BE hk];exact List.getElem_mem _
  have k1:=M _ hm;have k2:=K _ hm;exact⟨Q7 (by omega) (by omega),Q7 (by omega) (by omega)⟩
 refine HC.intro func117 rfl ?_;simp only[ntmps117,Ap,BB,BA,BO,Nat.reduceAdd,Nat.reduceSub,BY,Cy,BK,BU];refine wy nX (cj hp<|trivial) ⟨?_⟩;refine AW.sW (α:=Unit) rfl rfl rfl rfl rfl rfl (by decide) (by decide) (caps:=[.cp [.int .i64 (i:Int)] 0,.cp [.sl o,.int .i64 w,.int .i64 d] 0,.cp [.int .i64 W] 0]) (by simp[ev]) rfl func250 (by kernel_rfl) (by kernel_rfl) (λpre _=>.int .i64 ((G.getD pre.length (0,0)).1:Int)) (λpre _=>.int .i64 (G.getD pre.length (0,0)).2) (λpre _=>.c (.int .i64 ((G.getD pre.length (0,0)).1:Int))) (λpre _=>.c (.int .i64 (G.getD pre.length (0,0)).2)) G.length
  (λ_ _ pre _ h=>by simp only[CV,Ab];exact⟨trivial,(rM _ h).1⟩) (λ_ _ pre _ h=>by simp only[CV,Ab];exact⟨trivial,(rM _ h).2⟩) _ I (λ_=>True) (λ_=>False) trivial
  (λpre=>[O.box 168 [.c (.sl o),.c (.int .i64 w),.c (.int .i64 d)] false,O.box 171 A false,O.box 168 [.c (.sl o),.c (.int .i64 w),.c (.int .i64 d)] false,O.box 169 [.own 1 0 (n+1) 3] false,O.box 171 [.c (.bool false),.c (.int .i64 0),.c (.int .i64 0)] false,O.box 171 ((G.take pre.length).foldl (N6 (λj=>T.getD j Tl.zero) n) Tl.zero).vs false]) (λ_=>[]) rfl 6 (λ_=>rfl) (by simp) (by simp) ?_ ?_ (λ_ h=>h.elim)
 rintro lp pre ⟨⟩ hN _;obtain⟨k,hk⟩:=AI pre.length;simp only[VQ,Ag,Ai,Cp,BA,BO,Cz,hk]at hN ⊢;clear hk pre;obtain⟨⟨j,D⟩,F⟩:∃q,G[k]?=some q:=⟨_,BE hN⟩
 have YY:G.getD k (0,0)=(j,D):=by rw[Bv,F];rfl
 have GN:=M _ (Cj F);simp only at GN;rw[List.take_add_one,F,List.foldl_append,YY];obtain⟨B,hB⟩:=AI ((G.take k).foldl (N6 (λj=>T.getD j Tl.zero) n) Tl.zero);rw[hB];obtain⟨⟨tt,td,tf⟩,ht⟩:∃t,T[j]?=some t:=⟨_,BE (by omega)⟩
 have A0:T.getD j Tl.zero=⟨tt,td,tf⟩:=by rw[Bv,ht];rfl
 obtain⟨z,g2,_⟩:=tK ht;rw[hA]at z g2;have O7:=gx z;have xe:=gx g2;have f1:j*3<A.length:=by omega
 have f2:j*3+1<A.length:=by omega
 have f3:j<n+1:=by omega
 simp only[Option.toList,Bw,CO,N6,A0];obtain⟨E,hE⟩:=AI (AZ.wrap (D+td));have hb:=ANw B ⟨true,E,(j:Int)⟩ (n:Int);rw[hE];obtain⟨R,hR⟩:=AI (YB B ⟨true,E,(j:Int)⟩ (n:Int));rw[hR]at hb ⊢;obtain⟨B1,B2,B3⟩:=B;obtain⟨R1,R2,R3⟩:=R;unfold Tl.vs at hb ⊢;simp only at hb ⊢;cases tt with
 | true=>refine wy (cj9 @Ed @U @z @O7 @g2 @xe @f1 @f2 @f3<|cj @hE nX) (cj hb<|trivial) ⟨?_⟩;exact .inl ⟨rfl,trivial,_,wd 6 (hs:=Q0 _) (hh:=rfl) (hb:=P5 6 _) (ho:=by simp[O.A8,V.BI,V.A8,Rc])⟩
 | false=>refine wy (cj6 @Ed @U @z @O7 @f1 @f3 nX) trivial ⟨?_⟩;exact .inl ⟨rfl,trivial,_,wd 6 (hs:=Q0 _) (hh:=rfl) (hb:=P5 6 _) (ho:=by simp[O.A8,V.BI,V.A8,Rc])⟩
 rintro xs hS _;simp only[hS,List.take_length];obtain⟨⟨B1,B2,B3⟩,hB⟩:=AI (G.foldl (N6 (λj=>T.getD j Tl.zero) n) Tl.zero);rw[hB];unfold Tl.vs;refine wy nX trivial ⟨?_⟩;exact⟨_,rfl,_,Le.refl _,by simp[GJ,C0,DE,CJ,nX],rfl⟩
def LP (L:List (Int×Int×Int))(w d:Int)(k:Nat):List Tl:=Aq (L.length - k) Tl.zero++HV L w d k
theorem AB5 (w d:Int)(h:k<=L.length):(LP L w d k).length=L.length+1:=by
 unfold LP;rw[Cp,H6,fN];omega
theorem AFR {T B:Nat->Tl}{n:Nat} : ∀(l:List (Nat×Int)) (b:Tl),(∀q∈l,T q.1=B q.1)->l.foldl (N6 T n) b=l.foldl (N6 B n) b
 | [],_,_=>rfl
 | q::l,b,h=>by
   simp only[Bw];rw[AFR l _ λr E=>h r (by simp[E])];unfold N6;rw[h q (by simp)]
theorem AZp (w d:Int)(h:k<L.length):LP L w d (k+1)=Aq (L.length - (k+1)) Tl.zero++(TF L (LU w d (L.length - (k+1))) (λj=>(LP L w d k).getD j Tl.zero) (L.length - (k+1))::HV L w d k):=by
 unfold LP;simp only[HV];congr 2
 unfold TF;refine AFR _ _ λq B=>?_
 have:=AAY _ _ _ q B;rw[Bv (l:=_++_),Gy (by simp;omega),H6,<-Bv]
theorem AZo (w d:Int)(h:k<L.length):LP L w d k=Aq (L.length - (k+1)) Tl.zero++(Tl.zero::HV L w d k):=by
 unfold LP;rw[show L.length - k=L.length - (k+1)+1 by omega,Sj,GX];rfl
theorem ALW (a b:List Tl):Eb (a++b)=Eb a++Eb b:=by simp[Eb]
theorem AZm (a:List Tl)(t B:Tl)(b:List Tl):E8 (Eb (a++t::b)) (a.length*3) B.vs=Eb (a++B::b):=by
 have e : ∀t,Eb (a++t::b)=Eb a++(t.vs++Eb b):=λt=>by rw[ALW];rfl
 rw[e,e,<-Z4 a];exact ABN _ _ _ _ rfl
theorem ALX (k es n:Nat)(row:List C):∀T:List Tl,(Eb T).map (V.Db k es n row)=Eb T
 | []=>rfl
 | t::T=>by
   have e:Eb (t::T)=t.vs++Eb T:=rfl;rw[e,Fm,ALX k es n row T];rfl
theorem AZn (a:List Tl)(t:Tl)(b:List Tl):(Eb (a++t::b)).set (a.length*3) (.c (.bool true))=Eb (a++{ t with there:=true }::b):=by
 have e : ∀t,Eb (a++t::b)=Eb a++(t.vs++Eb b):=λt=>by rw[ALW];rfl
 rw[e,e,<-Z4 a,List.set_append_right _ _ (BN _),La];rfl
def Lw (l:List Nat):List (List C):=l.map λi:Nat=>[C.int .i64 (i:Int)]
def fG:List Nat->V
 | []=>.gr 2 1 []
 | x::l=>.Be 2 1 (Lw (x::l).dropLast)
def ABv:List Nat->O
 | []=>.tok 3 1 0
 | x::l=>.Be 3 1 (l.length+1) [.c (.int .i64 ((x::l).getLast (by simp):Nat))]
theorem ABx (l:List Nat)(i:Nat):fG (l++[i])=.Be 2 1 (Lw l):=by
 cases l with
 | nil=>rfl
 | cons x l=>show V.Be 2 1 (Lw ((x::l)++[i]).dropLast)=_;rw[List.dropLast_concat]
theorem ABw (l:List Nat)(i:Nat):ABv (l++[i])=.Be 3 1 (l.length+1) [.c (.int .i64 (i:Int))]:=by
 cases l with
 | nil=>rfl
 | cons x l=>show O.Be _ 1 ((l++[i]).length+1) [.c (.int .i64 (((x::l)++[i]).getLast (by simp):Nat))]=_;rw[List.getLast_append_of_ne_nil _ (by simp)];simp
theorem AZQ {m:Mo}{t:List V}{E F:O}{l:List Nat}(I:t[6]?=some (fG l))(W : ∀n row,(t.set 6 .any).map (V.Db 2 1 n row)=t.set 6 .any)(ho : ∀n row,[E,F].map (O.Db 2 1 n row)=[E,F])(hh : ∀n row,AI8 2 [E,F,.Be 3 1 n row]):Le m ⟨t,[E,F,ABv l]⟩ ⟨t.set 6 (.gr 2 1 (Lw l)),[E,F,.tok 3 1 l.length]⟩:=by
 rcases ACs l with rfl|⟨B,i,e⟩
 have e:t.set 6 (.gr 2 1 (Lw []))=t:=by
  obtain⟨G,J⟩:=Br.1 I;rw[show V.gr 2 1 (Lw [])=t[6]from(show V.gr 2 1 (Lw [])=fG []from rfl).trans J.symm];exact ACy G
 rw[e];exact Le.refl _;rw[ACo]at e;subst e;rw[ABx]at I;rw[ABw];have K:=Le.Db (m:=m) (t:=t) (h:=[E,F,.Be 3 1 (B.length+1) [.c (.int .i64 (i:Int))]]) 2 (n:=B.length) (row:=[.int .i64 (i:Int)]) rfl rfl (hh _ _);have Q:t.map (V.Db 2 1 B.length [.int .i64 (i:Int)])=t.set 6 (.gr 2 1 (Lw (B++[i]))):=by
  have M:t=(t.set 6 .any).set 6 (.Be 2 1 (Lw B)):=by
   obtain⟨G,J⟩:=Br.1 I;rw[aK,<-J,ACy G]
  have U:t.map (V.Db 2 1 B.length [.int .i64 (i:Int)])=((t.set 6 .any).set 6 (.Be 2 1 (Lw B))).map (V.Db 2 1 B.length [.int .i64 (i:Int)]):=by rw[<-M]
  rw[U,List.map_set,W,aK];simp[V.Db,Lw]
 have R : [E,F,O.Be 3 1 (B.length+1) [.c (.int .i64 (i:Int))]].map (O.Db 2 1 B.length [.int .i64 (i:Int)])=[E,F,.tok 3 1 (B++[i]).length]:=by
  have:=ho B.length [.int .i64 (i:Int)];rw[show [E,F,O.Be 3 1 (B.length+1) [.c (.int .i64 (i:Int))]]=[E,F]++[O.Be 3 1 (B.length+1) [.c (.int .i64 (i:Int))]]from rfl,Fm,this];simp[O.Db]
 rw[Q,R]at K;exact K
theorem ANu (w d:Int)(hv:Gg L=true)(h1:1<=w)(h2:w<=10000000)(h3:0<=d)(h4:d<w)(l:List Int)(q:Int)(K:(ME L w d).map (λi:Nat=>(i:Int))=l++[q]):
 UT AF 67 [.c (.sl (L.map El)),.c (.int .i64 w),.c (.int .i64 d)] 3 (l.length+1) 1 (λm=>CK (l++[q])++Aq m .any) (λu=>.tuple #[u,.int .i64 ((HV L w d L.length).getD 0 Tl.zero).RZ,.int .i64 0]):=by
 have W:=hv;unfold Gg at W;simp only[Ak,decide_eq_true_eq]at W;have hp:=AJO L w d (by omega) h1 h2 h3 h4;rw[hv]at hp;have J:=λi T R hT=>APQ L w d i T _ rfl R hT hv h1 h2 h3 h4
 have A9:=W.1;have A6:=W.2.1;have qT:LP L w d L.length=HV L w d L.length:=by unfold LP;rw[La];rfl
 have yU:=AB5 L w d (BN L.length);have A5:=fO L w d L.length (BN _);rw[<-qT]at A5 ⊢;unfold ME at K;rw[<-qT]at K;obtain⟨PR,EO⟩:=AI (L.map El);have Ed:PR.length=L.length:=by rw[<-EO,Ch]
 rw[EO]at hp J ⊢;unfold XI at hp J;have g1:24*((L.length:Int)+1)<=281474976710656:=by omega
 have g2:(L.length:Int)+1<=9223372036854775807:=by omega
 have w1:AZ.wrap ((L.length:Int)+1)=((L.length+1:Nat):Int):=by rw[Ac];simp
 have w2:AZ.wrap ((L.length:Int) - 1)=(L.length:Int) - 1:=Ac;refine UT.Be (br func67 ntmps67 ?_);refine wy (cj5 @Ed @w1 @w2 @g1 @g2 Vp) (cj hp<|trivial) ⟨?_⟩;have Gr:(V.c (.bool false):: .c (.int .i64 0):: .c (.int .i64 0)::(Aq L.length [V.c (.bool false),.c (.int .i64 0),.c (.int .i64 0)]).flatten).set (L.length*3) (.c (.bool true))=Eb (LP L w d 0):=by
  have e:(V.c (.bool false):: .c (.int .i64 0):: .c (.int .i64 0)::(Aq L.length [V.c (.bool false),.c (.int .i64 0),.c (.int .i64 0)]).flatten)=Eb (Aq L.length Tl.zero++[Tl.zero]):=by
   rw[<-Sj];unfold Eb;rw[List.map_replicate,BY];rfl
  have h:=AZn (Aq L.length Tl.zero) Tl.zero [];rw[H6]at h;rw[e,h];rfl
 rw[Gr];refine lp (ι:={ k:Nat // k<=L.length }) (λk=>[(12,.c (.int .i64 ((L.length:Int) - (k.1:Int) - 1)))]) (λk=>[O.box 168 [.c (.sl PR),.c (.int .i64 w),.c (.int .i64 d)] false,O.box 171 (Eb (LP L w d k.1)) false]) (λk=>L.length - k.1) ⟨0,CI _⟩ ?_ ?_;all_goals simp only[puts,Bw,CO,Ag,Ai]
 exact DH;rintro ⟨k,hk⟩;simp only;by_cases F:k<L.length;obtain⟨i,R⟩:=AI (L.length - (k+1));rw[show (L.length:Int) - (k:Int) - 1=(i:Int)by omega];have J:=J i (LP L w d k) (by omega) (AB5 L w d hk);have hs:=AZp L w d F;have E:=λt=>AZm (Aq i Tl.zero) Tl.zero t (HV L w d k)
 have G:=Z4 (LP L w d k);rw[AB5 L w d hk]at G;rw[R]at hs;rw[<-R,<-AZo L w d F,R,H6]at E;obtain⟨⟨r1,r2,r3⟩,hR⟩:=AI (TF L (LU w d i) (λj=>(LP L w d k).getD j Tl.zero) i);have E:=E ⟨r1,r2,r3⟩;rw[hR]at J hs;rw[<-hs]at E;obtain⟨A,M⟩:=AI (Eb (LP L w d k));obtain⟨B,hB⟩:=AI (Eb (LP L w d (k+1)));have qF:=λm=>tJ m (LP L w d (k+1))
 rw[M]at J E G ⊢;rw[hB]at E qF;unfold Tl.vs at J E;simp only[E8]at E;have f1:(0:Int)<=(i:Int):=by omega
 have f2:(i:Int)<(L.length:Int)+1:=by omega
 have f3:i*3+3<=(L.length+1)*3:=by omega
 have f4:AZ.wrap ((i:Int) - 1)=(i:Int) - 1:=Ac;refine wu (.mk 10) (cj @f1<|Vp) trivial ⟨?_⟩;refine AW.DA ?_;refine CY (.mk 5) trivial ?_;refine SW.wZ J (by simp[BQ]) (by simp[C7,ev]) ?_;simp only[St.put,Ag,Ai];refine CY (.mk 2) (cj3 @f2 @f3 @G @E) ?_;refine SW.nil ?_;refine wy (cj @f4<|Vp) trivial ⟨?_⟩;refine⟨⟨k+1,by omega⟩,by simp only;omega,?_⟩;simp only;rw[show (L.length:Int) - ((k+1:Nat):Int) - 1=(i:Int) - 1 by omega,hB];exact wd 2 (ho:=by simp[O.A8,V.BI,V.A8,qF]);obtain rfl:k=L.length:=by omega
 have f0 : ¬(0:Int)<=(L.length:Int) - (L.length:Int) - 1:=by omega
 refine wy (cj @f0<|Vp) trivial ⟨?_⟩;refine AW.le (Le.tL 6 3 1 rfl) ?_;simp only[BA,BO,Nat.reduceAdd,Ag,Ai,BK,BU];obtain⟨T,hT⟩:=AI (LP L w d L.length);have Rc:=λm=>tJ m T
 rw[hT]at yU A5 K ⊢;refine lp (ι:={ p:(List Nat×Nat) // (∃f,KT T L.length L.length 0=p.1++KT T L.length f p.2/\L.length - p.2<=f)/\p.2<=L.length/\p.1.length<=p.2 }) (λp=>[(13,.c (.int .i64 (p.1.2:Int))),(6,fG p.1.1)]) (λp=>[O.box 168 [.c (.sl PR),.c (.int .i64 w),.c (.int .i64 d)] false,O.box 171 (Eb T) false,ABv p.1.1]) (λp=>L.length - p.1.2) ⟨([],0),⟨L.length,rfl,by simp⟩,CI _,BN _⟩ ?_ ?_;all_goals simp only[puts,Bw,CO,Ag,Ai]
 exact ER (cj @fG.eq_1<|@fG.eq_2);rintro ⟨⟨D,i⟩,⟨f,Q,hf⟩,A1,A0⟩;simp only at Q hf A1 A0 ⊢;by_cases F:i<L.length;obtain⟨t,I⟩:∃t,T[i]?=some t:=⟨_,BE (by omega)⟩
 have U:=(A5 i t I).2 F;rw[show L.length - L.length+i=i by omega]at U;obtain⟨_,o1,o2⟩:=U;obtain⟨f,rfl⟩:∃g,f=g+1:=⟨f - 1,by omega⟩
 obtain⟨j,hj⟩:∃j:Nat,t.fin=(j:Int):=⟨t.fin.toNat,by omega⟩
 have he:KT T L.length (f+1) i=i::KT T L.length f j:=by rw[KT,if_pos F,Bv,I,Dm,hj,Int.toNat_natCast]
 rw[he]at Q;obtain⟨_,_,k3⟩:=tK I;have G:=Z4 T;rw[yU]at G;have f1:(i:Int)<(L.length:Int):=by omega
 have f2:i<=L.length:=by omega
 have f3:i*3+2<(L.length+1)*3:=by omega
 obtain⟨A,M⟩:=AI (Eb T);rw[hj,M]at k3;rw[M]at G Rc ⊢;have A2:=gx k3;refine AW.le (AZQ rfl (λn row=>by simp[V.Db]) (λn row=>by simp[O.Db,V.Db,<-M,ALX]) (λn row k ty es A3 cs h=>?_)) ?_;rcases k with _|_|_|k
 simp at h;simp at h;rfl;simp at h;simp only[Ag,Ai];have z:(Lw D).length=D.length:=by simp[Lw]
 rw[<-z];refine wu (.mk 14) (cj2 @f1 @F Vp) trivial ⟨?_⟩;refine AW.DA ?_;refine CY (.mk 3) trivial ?_;refine SW.Tq (.Be 2 1 (Lw D)) (some (2,.Be 3 1 ((Lw D).length+1) [.c (.int .i64 (i:Int))])) (λk ob e=>by cases e;simp) rfl (λS0 w0 x a w g I=>?_) ?_;have hY:=CW I (.tmp 51);have o:=CW I (.tmp 53);simp only[ev,List.getD_cons_succ,List.getD_cons_zero,CV]at hY o;obtain⟨_,_,o⟩:=o;exact dk g rfl AZy (by simp only[CV];exact hY) o (by decide) rfl (by rw[z];unfold maxLen;omega) (by rw[z];omega) rfl;simp only[St.step,St.put,Bk,BA,BO,Nat.reduceAdd,Nat.reduceLT,if_true,Ag,Ai];refine CY (.mk 1) trivial ?_;refine SW.nil ?_;refine wy (cj5 @G @f2 @f3 @k3 @A2 Vp) trivial ⟨?_⟩;refine⟨⟨(D++[i],j),⟨f,by rw[Q];simp,by simp only;omega⟩,by simp only;omega,by simp;omega⟩,by simp only;omega,?_⟩;simp only[ABx,ABw,z];exact wd 3 (ho:=by simp[O.A8,V.BI,V.A8,Rc]);have f1 : ¬(i:Int)<(L.length:Int):=by omega
 have he:KT T L.length f i=[]:=by cases f with|zero=>rfl|succ f=>unfold KT;rw[if_neg F]
 rw[he,E5]at Q;rw[Q]at K;obtain⟨t,I⟩:∃t,T[0]?=some t:=⟨_,BE (by omega)⟩
 obtain⟨_,k2,_⟩:=tK I;have G:=Z4 T;rw[yU]at G;rw[Bv,I,Dm];generalize M:Eb T=A at k2 G ⊢;rw[show 0*3+1=1 from rfl]at k2;have kP:=gx k2;have f2:1<(L.length+1)*3:=by omega
 rcases ACs D with rfl|⟨D',i',e⟩
 simp at K;rw[ACo]at e;subst e;rw[Fm,Ap,BB]at K;obtain⟨e1,e2⟩:=List.append_inj' K rfl;cases e2;subst e1;rw[ABx,ABw];refine wy (cj6 @f1 @F @G @f2 @k2 @kP Vp) trivial ⟨?_⟩;exact⟨.inr rfl,.A7 [.Be 2 1 (Lw D'),.c (.int .i64 t.RZ),.c (.int .i64 0)],by simp[GJ,C0,DE,CJ,Vp],2,by simp[Lw,Function.comp_def],by rw[Ch];rfl⟩
theorem sj {AE:List AA}{sp:List Int}{c:AA}(h:Bj (F9 AE sp)=some c):c.y=0:=by
 rw[(sh h).1];rfl
theorem APr (t:ByteArray):(x.gl s t).y=0:=by
 unfold Af.gl DB;split<;>rfl
theorem AZh {x:Af}{s:Aa}{t:ByteArray}(h:x.sym s t=some b):b.y=0:=by
 unfold Af.sym at h;split at h;unfold Af.VI at h;split at h;cases h;exact sj h;split at h;cases h;exact APr x s t;exact sj h
theorem ATa {x:Af}{s:Aa}{k:Int}{t:ByteArray}{c:Int}{AE:List Nd}{L:List AA}(h:Ji x s k t c AE L=some b):b.y=0:=by
 unfold Ji at h;split at h;exact AZh h;split at h;exact sj h;split at h;rw[(OT h).1];rfl;split at h;rw[(OT h).1];rfl;split at h;rw[(OT h).1];rfl;split at h;unfold O5 at h;split at h;simp[Bj]at h;split at h;simp[Bj]at h;exact sj h;split at h;unfold N2 at h;split at h;simp[Bj]at h;rw[(OT h).1];rfl;split at h;rw[(OT h).1];rfl;rw[(OT h).1];rfl
theorem ATb {x:Af} : ∀(n:Nd) {s:Aa} {src:List Int} {b:AA},Fw x s src n=some b->b.y=0
 | ⟨k,t,c,G⟩,s,src,b,h=>by
   unfold Fw at h;split at h;cases h;split at h;cases h;rename_i B F;cases h;have E:=ATa F;show B.y=0;exact E
theorem AH7 {x:Af}{s:Aa}{src:List Int} : ∀(l:List Nd) (i:Nat) (L:List AA),Kb x s src i l=some L->(∀b∈L,b.y=0)/\L.length=l.length
 | [],i,L,h=>by
   simp only[Kb,BL]at h;subst h;exact⟨λb B=>(by cases B),rfl⟩
 | n::l,i,L,h=>by
   unfold Kb at h;split at h;cases h;rename_i a G;split at h;cases h;rename_i r I;cases h;obtain⟨E,F⟩:=AH7 l (i+1) r I;refine⟨λb B=>?_,by simp[F]⟩;rcases Cf.1 B with rfl|B
   exact ATb n G;exact E b B
theorem tM : ∀(l:List AA) (h:Int),h<=KL l h/\∀b∈l,b.y+b.h<=KL l h
 | [],h=>⟨IV _,λb B=>by cases B⟩
 | c::l,h=>by
   obtain⟨I,E⟩:=tM l (mx h (c.y+c.h));have F:=Mt h (c.y+c.h);have G:=rq h (c.y+c.h);simp only[KL];refine⟨by omega,λb B=>?_⟩;rcases Cf.1 B with rfl|B
   omega;exact E b B
theorem oz : ∀(l:List AA) (h:Int),h<=J1 l h/\∀b∈l,b.d - b.y<=J1 l h
 | [],h=>⟨IV _,λb B=>by cases B⟩
 | c::l,h=>by
   obtain⟨I,E⟩:=oz l (mx h (c.d - c.y));have F:=Mt h (c.d - c.y);have G:=rq h (c.d - c.y);simp only[J1];refine⟨by omega,λb B=>?_⟩;rcases Cf.1 B with rfl|B
   omega;exact E b B
theorem AJk : ∀ {l:List AA} {t:List Int} {k:Nat} {b:AA} {s:Int} (e:Int),l[k]?=some b->t[k]?=some s->(FT l t e)[k]?=some (Eh (l.take k) (t.take k) e+s)
 | b'::l,F::t,0,b,s,e,B,E=>by simp at B E;subst B E;rfl
 | b'::l,F::t,k+1,b,s,e,B,E=>by
   simp only[JU]at B E;simp only[FT,JU,DP,Eh];exact AJk _ B E
 | [],_,_,_,_,_,h,_=>by simp at h
 | _::_,[],_,_,_,_,_,h=>by simp at h
theorem Tt : ∀ {l:List AA},AA.FU l=true->∀c∈l,c.D8=true
 | b::l,h,c,B=>by
   simp only[AA.FU,Ak]at h;rcases Cf.1 B with rfl|B
   exact h.1;exact Tt h.2 c B
theorem Mq (h:b.D8=true):(-1073741824<=b.w/\b.w<=1073741824)/\(-1073741824<=b.h/\b.h<=1073741824)/\(-1073741824<=b.d/\b.d<=1073741824)/\(-1073741824<=b.x/\b.x<=1073741824):=by
 obtain⟨k,n,s,w,B,d,x,y,E,o,src⟩:=b;simp only[AA.D8,Ak,AA.Cl,AA.lens,Ep,An,decide_eq_true_eq]at h;show (-1073741824<=w/\w<=1073741824)/\(-1073741824<=B/\B<=1073741824)/\(-1073741824<=d/\d<=1073741824)/\(-1073741824<=x/\x<=1073741824)
 omega
structure Vs (B:AA)(sp:List Int)(A:Nat->Int):Prop where
 len:sp.length=B.AE.length
 k9:B.AE.length<=20000
 a0:A 0=0
 ae:A B.AE.length=B.w
 Ea : ∀k,k<B.AE.length->∃c v,B.AE[k]?=some c/\sp[k]?=some v/\c.x=A k+v/\c.y=0/\c.h<=B.h/\c.d<=B.d/\A (k+1)=c.x+c.w/\c.D8=true
theorem ANG {x:Af}{s:Aa}{n:Nd}(h:GU x s [] n=some b):∃A,Vs b (x.CC s n.AE) A:=by
 obtain⟨k,t,c,AE⟩:=n;unfold GU at h;split at h;rename_i E;cases h;subst E;exact⟨λ_=>0,rfl,CI _,rfl,rfl,λk E=>absurd E (UE _)⟩;split at h;cases h;rename_i L hL;split at h;cases h;rename_i C z;cases h;obtain⟨q,h2⟩:=AH7 _ _ _ hL;obtain⟨G,R,M⟩:=sh z;obtain⟨v1,v2,v3,v4⟩:=D3 M;have J:=VK (l:=L) 0 R;have I:(EY L (FT L (x.CC s AE) 0)).length=L.length:=kv J;have F:(C.mark 1 []).AE=EY L (FT L (x.CC s AE) 0):=by rw[G];rfl
 have W:AA.FU C.AE=true:=by
  have:C.D8=true:=by
   simp only[AA.Ad,Ak]at M;exact M.1
  cases C;simp only[AA.D8,Ak]at this;exact this.2
 have o:C.AE=EY L (FT L (x.CC s AE) 0):=F;have U:(C.mark 1 []).AE.length<=20000:=by
  have e:C.cnt=1+AA.Az C.AE:=by cases C;rfl
  have:=Ud C.AE;show C.AE.length<=20000;omega
 refine⟨λk=>Eh (L.take k) ((x.CC s AE).take k) 0,by rw[F,I];exact R,U,by simp[Eh],?_,λk E=>?_⟩;rw[F,I,Gl (BN _),Gl (by omega)];show _=C.w;rw[G];rfl;rw[F,I]at E;obtain⟨c,B⟩:∃c,L[k]?=some c:=⟨_,BE E⟩
 obtain⟨v,K⟩:∃v,(x.CC s AE)[k]?=some v:=⟨_,BE (by omega)⟩
 have hy:=q c (Cj B);have Q:=ABB B (AJk 0 B K);refine⟨c.AS (Eh (L.take k) ((x.CC s AE).take k) 0+v) c.y,v,by rw[F];exact Q,K,rfl,hy,?_,?_,(by have e:=xV 0 B K;exact e),Tt W _ (by rw[o];exact Cj Q)⟩;have:=(tM L 0).2 c (Cj B);show c.h<=C.h;rw[G];show c.h<=KL L 0;omega;have:=(oz L 0).2 c (Cj B);show c.d<=C.d;rw[G];show c.d<=J1 L 0;omega
theorem AXy (n:Nd):(∃e:Int,e≠0/\Ob x s [] n=.A7 [Ao AA.zero,AR e])\/(∃b,x.Bj s=true/\n.Ad=true/\GU x s [] n=some b/\Ob x s [] n=.A7 [Ao b,AR 0]):=by
 unfold Ob O1;split;exact .inl ⟨1,by decide,rfl⟩;rename_i h;have B:Sd [] 0=true:=rfl;simp only[Bool.not_eq_false,Ak]at h;rw[B,if_neg (by simp)];cases E:GU x s [] n with
 | none=>exact .inl ⟨6,by decide,rfl⟩
 | some b=>exact .inr ⟨b,h.1,h.2,rfl,rfl⟩
end Go.Proofs.YtlpomcliejmedaaGreat
