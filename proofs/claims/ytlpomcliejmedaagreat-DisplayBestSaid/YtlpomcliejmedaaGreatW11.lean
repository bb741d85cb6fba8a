/- Part of the proof of displayBest.proved. Conditions: none. -/
import Derived.Test.YtlpomcliejmedaaGreatW9
set_option linter.unusedVariables false
set_option linter.unusedSimpArgs false
set_option maxRecDepth 100000
set_option maxHeartbeats 16000000
open List renaming getElem?_eq_getElem→BE,getElem?_eq_some_iff→Br,map_cons→Ap,map_nil→BB,foldl_cons→Bw,foldl_nil→CO,set_cons_zero→Ag,set_cons_succ→Ai,mem_cons→Cf,not_mem_nil→RE,cons_append→BK,nil_append→BU,replicate→Aq,ext_getElem→UB,getElem_map→mW,getElem_mem→Kq,map_append→Fm,length_map→Ch,length_append→Cp,getElem?_map→CM,length_set→GF,getElem?_set→RD,getElem?_eq_none→M6,mem_cons_self→GH,mem_cons_of_mem→Gk,mem_of_mem_drop→uS,length_cons→BA,length_nil→BO,replicate_succ→BY,replicate_zero→Cy,any_eq_true→aH,getElem?_of_mem→uO,append_assoc→GX,take_of_length_le→Gl,drop_of_length_le→FA,getD_eq_getElem?_getD→Bv,drop_zero→B9,getElem?_cons_succ→JU,mem_of_getElem?→Cj,append_nil→E5,length_replicate→H6,replicate_succ'→Sj
open Nat renaming le_refl→BN,zero_add→Cz,zero_le→CI,le_of_ble_eq_true→F2,mod_lt→mh,mul_comm→aO,mul_le_mul_left→mj,add_zero→M8,div_lt_iff_lt_mul→AC4,mod_add_div→AMz,succ_mul→uc,mul_le_mul_right→Vj,mul_div_cancel→AM0,one_mul→gE
open Go.Proofs.Tryz renaming prog→AF,results256→aU,results304→vR,func257→uk,ntmps257→u9,results257→ni,func261→H9,ntmps261→IB,results261→ADM,func322→gN,func354→gQ,func353→uv,func72→JA,results264→Ny,func107→uf,ntmps107→u5,results107→vH,results54→vX,results110→ga,results243→vM,results175→vJ,results52→gy
open Go.IntKind renaming i64→AZ
open Option.some renaming inj→ML,injEq→BL
open Bool renaming and_eq_true→Ak,true_and→Cd,eq_iff_iff→Oj,or_eq_true→T9,false_and→D4
open Option renaming bind_some→aQ,map_some→Nu
open Int renaming mul_comm→fu,mul_le_mul_of_nonneg_left→aF
namespace Go.Proofs.YtlpomcliejmedaaGreat
open Go.RowKit Tryz
variable {α:Type}{i:Nat}(x:Af)(L:List (Int×Int×Int))(b:AA)(k:Nat)(l:List AA)(m:Nat)(Z:List C)(s:Aa)
theorem AFd {p:Nat->Nd->Prop}(AE:List Nd)(h : ¬ ∀j n,AE[j]?=some n->p j n):∃j n,AE[j]?=some n/\¬p j n/\∀i k,i<j->AE[i]?=some k->p i k:=by
 have key : ∀L,L<=AE.length->(∀i k,i<L->AE[i]?=some k->p i k)\/∃j n,AE[j]?=some n/\¬p j n/\∀i k,i<j->AE[i]?=some k->p i k:=by
  intro L;induction L with
  | zero=>intro _;exact .inl λi k h _=>absurd h (Nat.not_lt_zero _)
  | succ L ih =>
    intro I;rcases ih (by omega)with B|B
    have F:AE[L]?=some AE[L]:=BE (by omega);by_cases H:p L AE[L];refine .inl λi k J E=>?_
    by_cases e:i=L;subst e;rw[F]at E;cases E;exact H;exact B i k (by omega) E;exact .inr ⟨L,_,F,H,B⟩;exact .inr B
 rcases key AE.length (BN _)with B|B
 exact absurd (λj n G=>B j n (Br.1 G).1 G) h;exact B
def oG (x:Af)(m:Nat)(n:Nd)(src:List Int)(s:Aa):Prop:=∀(j:Nat) (k:Nd),n.AE[j]?=some k->AQ AF 169 [Bb x m,Am k,.c (AV (src++[(j:Int)])),Aj (GB n.kind j s)] m (BM x.f) (BM x.f) (BP (M2 x s src n.kind j k))
theorem ALH (n:Nd)(src:List Int)(s:Aa)(J:Nat)(hs:s.ok=true)(U:FL n.kind n.AL n.AE.length=true)(R:n.kind≠1)(W:n.AE.length<=1000)(Q:src.length<=100)(H:oG x m n src s)(S:J<=n.AE.length)(K : ∀j k,j<J->n.AE[j]?=some k->M2 x s src n.kind j k≠none)(L:List AA)(I:Oe x s src n.kind 0 n.AE=L)(j:Nat)(M:j<J):
 ∃k B,n.AE[j]?=some k/\L[j]?=some B/\M2 x s src n.kind j k=some B/\AQ AF 169 [Bb x m,Am k,.c (AV (src++[(j:Int)])),Aj (GB n.kind j s)] m (BM x.f) (BM x.f) (.ret (Ao B)):=by
 obtain⟨k,E⟩:∃k,n.AE[j]?=some k:=⟨_,BE (by omega)⟩
 have G:=H j k E;cases F:M2 x s src n.kind j k with
 | none=>exact absurd F (K j k M E)
 | some B=>rw[F]at G;refine⟨k,B,E,?_,F,G⟩;rw[<-I,AK1 x s src n.kind 0 n.AE j k E,Cz,F];rfl
theorem AZN (n:Nd)(src:List Int)(s:Aa)(hs:s.ok=true)(M:FL n.kind n.AL n.AE.length=true)(S:n.kind≠1)(o:n.AE.length<=1000)(A0:src.length<=100)(Bn:oG x m n src s)(ha : ∀j k,n.AE[j]?=some k->M2 x s src n.kind j k≠none):
 Sv AF 256 [Bb x m,Am n,.c (AV src),Aj s] m (BM x.f) (BM x.f) 41 (AA.AG (Oe x s src n.kind 0 n.AE)).flatten n.AE.length 11:=by
 have E:=tB x s src n.kind 0 n.AE;obtain⟨L,hL⟩:=AI (Oe x s src n.kind 0 n.AE);have U:=ALH x m n src s n.AE.length hs M S o A0 Bn (BN _) (λj k _ h=>ha j k h) L hL;rw[hL]at E ⊢;obtain⟨kd,t,c,AE⟩:=n;simp only at M S o U E ⊢;obtain⟨Q,R⟩:=AI (Nd.AG AE);have K:Q.length=AE.length:=by rw[<-R,Pc]
 obtain⟨ss,Cu⟩:=AI (AV src);have Ew:(AE.length:Int)<=9223372036854775807:=by omega
 have FP:128*(AE.length:Int)<=281474976710656:=by omega
 generalize hN:AE.length=N at M o U E K Ew FP ⊢;simp only[Am,Nd.vs,Nd.row,Ap,BB,R,Cu];unfold Bb Aj;refine enO func256 ntmps256 ?_;refine qy (cj3 @K @Ew @FP aU) trivial ⟨?_⟩;have e0:=iY L E.symm;simp only[BT]at e0;rw[e0];refine lp (ι:={ k:Nat // k<=N }) (λk=>[(21,.c (.int .i64 (k.1:Int)))]) (λk=>[O.mp (Ci m (BM x.f)),O.box 33 [.c (.int .i64 kd),.c (.str t),.c (.int .i64 c),.c (.sl Q)] false,O.box 63 [.c (.int .i64 s.By),.c (.bool s.Hd)] false,O.box 41 (Ht L k.1) false]) (λk=>N - k.1) ⟨0,CI _⟩ ?_ ?_;all_goals simp only[puts,Bw,CO,Ag,Ai]
 exact DH;rintro ⟨k,Yq⟩;simp only at Yq ⊢;by_cases G:k<N;obtain⟨q,B,hq,hB,_,J⟩:=U k G;have A9:Q[k]?=some q.row:=by rw[<-R];exact XG hq
 have Bu:=gx A9;have Dh:k<Q.length:=by omega
 have I:=ABI kd (k:Int) s;rw[AK0 hs M S G]at I;have F:=pR src [(k:Int)] (by omega) (by simp) (by simp);have hw:AZ.wrap ((k:Int)+1)=((k+1:Nat):Int):=by rw[Ac];simp
 have OC:k<L.length:=by omega
 have H:=ia L k OC;have Yo:L[k]=B:=by rw[BE OC]at hB;exact ML hB
 have Dz:k*11+11<=(Ht L k).length:=by rw[iZ _ _ (by omega)];omega
 rw[Yo]at H;obtain⟨S',PD⟩:∃S',GB kd (k:Int) s=S':=⟨_,rfl⟩
 rw[PD]at I J;unfold Zx at I;unfold Bb Aj Am at J;simp only[As]at J;unfold Aj at I;have Rp:AV [(k:Int)]=.sl [[.int .i64 (k:Int)]]:=rfl;rw[Rp,Cu]at F;obtain⟨sk,z⟩:=AI (AV (src++[(k:Int)]));rw[z]at F J;simp only[AR]at I;refine qy (cj8 @G @hw @K @A9 @Bu @Dh @Dz @H aU) (cj3 I F J trivial) ⟨?_⟩;refine⟨⟨k+1,G⟩,by simp only;omega,?_⟩;refine Le.MI 4 (F2 rfl) (by simp[DG,P4]) (by simp[P4]) (by simp[V.BI,V.A8]) (by simp[O.A8,V.BI,V.A8,P4]);obtain rfl:k=N:=by omega
 have W:Ht L k=(AA.AG L).flatten.map V.c:=by rw[<-E];exact wU L
 rw[W];refine qy (cj2 @G @K aU) trivial ⟨?_⟩;refine⟨3,by decide,by simp[GJ,C0,DE,CJ,aU],rfl,by simp⟩
theorem AZO (n:Nd)(src:List Int)(s:Aa)(hs:s.ok=true)(hk:FL n.kind n.AL n.AE.length=true)(FJ:n.kind≠1)(hl:n.AE.length<=1000)(A0:src.length<=100)(Bn:oG x m n src s)(J:Nat)(q0:Nd)(z:n.AE[J]?=some q0)(qL:M2 x s src n.kind J q0=none)(ha : ∀j k,j<J->n.AE[j]?=some k->M2 x s src n.kind j k≠none):
 AQ AF 256 [Bb x m,Am n,.c (AV src),Aj s] m (BM x.f) (BM x.f) (.HB ko):=by
 have YT:J<n.AE.length:=(Br.1 z).1;have F:=tB x s src n.kind 0 n.AE;obtain⟨L,hL⟩:=AI (Oe x s src n.kind 0 n.AE);have hR:=ALH x m n src s J hs hk FJ hl A0 Bn (by omega) ha L hL;have I:=Bn J q0 z;rw[qL]at I;rw[hL]at F;obtain⟨kd,t,c,AE⟩:=n;simp only at hk FJ hl hR F z YT I ⊢;obtain⟨U,o⟩:=AI (Nd.AG AE);have W:U.length=AE.length:=by rw[<-o,Pc]
 obtain⟨ss,Cu⟩:=AI (AV src);have Ew:(AE.length:Int)<=9223372036854775807:=by omega
 have FP:128*(AE.length:Int)<=281474976710656:=by omega
 generalize hN:AE.length=N at hk hl F W Ew FP YT;simp only[Am,Nd.vs,Nd.row,Ap,BB,o,Cu];unfold Bb Aj;refine CH func256 ntmps256 ?_;refine qy (cj3 @W @Ew @FP aU) trivial ⟨?_⟩;have e0:=iY L F.symm;simp only[BT]at e0;rw[e0];refine lp (ι:={ k:Nat // k<=J }) (λk=>[(21,.c (.int .i64 (k.1:Int)))]) (λk=>[O.mp (Ci m (BM x.f)),O.box 33 [.c (.int .i64 kd),.c (.str t),.c (.int .i64 c),.c (.sl U)] false,O.box 63 [.c (.int .i64 s.By),.c (.bool s.Hd)] false,O.box 41 (Ht L k.1) false]) (λk=>J - k.1) ⟨0,CI _⟩ ?_ ?_;all_goals simp only[puts,Bw,CO,Ag,Ai]
 exact DH;rintro ⟨k,Yq⟩;simp only at Yq ⊢;have dB:k<N:=by omega
 have Dh:k<U.length:=by omega
 have H:=ABI kd (k:Int) s;rw[AK0 hs hk FJ dB]at H;have E:=pR src [(k:Int)] (by omega) (by simp) (by simp);have hw:AZ.wrap ((k:Int)+1)=((k+1:Nat):Int):=by rw[Ac];simp
 have OC:k<L.length:=by omega
 have G:=ia L k OC;have Dz:k*11+11<=(Ht L k).length:=by rw[iZ _ _ (by omega)];omega
 have Rp:AV [(k:Int)]=.sl [[.int .i64 (k:Int)]]:=rfl;rw[Rp,Cu]at E;unfold Zx Aj at H;simp only[AR]at H;by_cases S:k<J;obtain⟨q,B,hq,hB,_,R⟩:=hR k S;have M:U[k]?=some q.row:=by rw[<-o];exact XG hq
 have Bu:=gx M;have Yo:L[k]=B:=by rw[BE OC]at hB;exact ML hB
 rw[Yo]at G;obtain⟨Q,PD⟩:∃Q,GB kd (k:Int) s=Q:=⟨_,rfl⟩
 rw[PD]at H R;unfold Bb Aj Am at R;simp only[As]at R;obtain⟨sk,K⟩:=AI (AV (src++[(k:Int)]));rw[K]at E R;refine qy (cj8 @dB @hw @W @M @Bu @Dh @Dz @G aU) (cj3 H E R trivial) ⟨?_⟩;refine⟨⟨k+1,S⟩,by simp only;omega,?_⟩;refine Le.MI 4 (F2 rfl) (by simp[DG,P4]) (by simp[P4]) (by simp[V.BI,V.A8]) (by simp[O.A8,V.BI,V.A8,P4]);obtain rfl:k=J:=by omega
 have M:U[k]?=some q0.row:=by rw[<-o];exact XG z
 have Bu:=gx M;obtain⟨Q,PD⟩:∃Q,GB kd (k:Int) s=Q:=⟨_,rfl⟩
 rw[PD]at H I;unfold Bb Aj Am at I;simp only[BP]at I;obtain⟨sk,K⟩:=AI (AV (src++[(k:Int)]));rw[K]at E I;exact qz (cj7 @dB @hw @W @M @Bu @Dh @Dz aU) (cj3 H E I trivial)
theorem AIh : ∀(l:List Nd) (n:Nd),n∈l->n.dep<=Nd.deps l
 | [],_,h=>by cases h
 | a::l,n,h=>by
   simp only[Nd.deps];rcases Cf.1 h with rfl|h
   omega;have:=AIh l n h;omega
theorem AK4 {x:Af}(G:x.Ok){s:Aa}(hs:s.ok=true){src:List Int}{d:Nat}(F:Src src 1 (d+1))(k:Int):∀(l:List Nd) (i:Nat) (L:List AA),Nd.deps l<=d->Kh x s src k i l=some L->(∀b∈L,b.Ad=true)/\AA.Az L<=10000*Nd.Az l/\L.length=l.length
 | [],i,L,_,h=>by
   simp only[Kh,BL]at h;subst h;exact⟨λb B=>(by cases B),by simp[AA.Az],rfl⟩
 | n::l,i,L,K,h=>by
   simp only[Nd.deps]at K;simp only[Kh]at h;split at h;cases h;rename_i b B;split at h;cases h;rename_i r M;simp only[BL]at h;subst h;obtain⟨H,Q,I⟩:=AK4 G hs F k l (i+1) r (by omega) M;obtain⟨J,R⟩:=AKW G (ABs hs) (F.add i (by omega)) B;refine⟨λc E=>?_,?_,by simp[I]⟩;rcases Cf.1 E with rfl|E
   exact J;exact H c E;simp only[AA.Az,Nd.Az];omega
def Dr (x:Af)(s:Aa)(src:List Int)(n:Nd):Option AA:=
 match Kh x s src n.kind 0 n.AE with
 | none=>none
 | some L=>Ji x s n.kind n.text n.AL n.AE L
theorem SD (src:List Int)(n:Nd):Fw x s src n=match Dr x s src n with|none=>none|some b=>some (b.mark 2 src):=by
 obtain⟨k,t,c,B⟩:=n;unfold Fw Dr;simp only;cases Kh x s src k 0 B with
 | none=>rfl
 | some L =>
   simp only;cases Ji x s k t c B L<;>rfl
def ADo (x:Af)(m:Nat)(n:Nd)(src:List Int)(s:Aa):Prop:=
 (∃L,Kh x s src n.kind 0 n.AE=some L/\Sv AF 256 [Bb x m,Am n,.c (AV src),Aj s] m (BM x.f) (BM x.f) 41 (AA.AG L).flatten (AA.AG L).length 11)\/
 (Kh x s src n.kind 0 n.AE=none/\AQ AF 256 [Bb x m,Am n,.c (AV src),Aj s] m (BM x.f) (BM x.f) (.HB ko))
structure RL (x:Af)(m:Nat)(n:Nd)(src:List Int)(s:Aa):Prop where
 hx:x.Ok
 hs:s.ok=true
 own:n.Cl=true
 k1:n.kind≠1
 form:Nd.MY n.kind n.AE=true
 sr:Src src 1 n.dep
 cn:n.cnt<=80
 sl:ADo x m n src s
structure vm (L:List AA):Prop where
 v : ∀b∈L,b.Ad=true
 w : ∀b∈L,0<=b.w
 c:AA.Az L<=800000
theorem RL.parts {x:Af}{m:Nat}{n:Nd}{src:List Int}{s:Aa}(h:RL x m n src s) :
 (Dr x s src n=none/\AQ AF 256 [Bb x m,Am n,.c (AV src),Aj s] m (BM x.f) (BM x.f) (.HB ko))\/
 ∃L,L.length=n.AE.length/\vm L/\Dr x s src n=Ji x s n.kind n.text n.AL n.AE L/\Sv AF 256 [Bb x m,Am n,.c (AV src),Aj s] m (BM x.f) (BM x.f) 41 (AA.AG L).flatten (AA.AG L).length 11:=by
 rcases h.sl with ⟨L,B,E⟩|⟨B,E⟩
 right;have I:=ke n;have F:=h.sr;rw[I]at F;obtain⟨G,J,H⟩:=AK4 h.hx h.hs F n.kind n.AE 0 L (BN _) B;have K:=Tm n;have:=h.cn;refine⟨L,H,⟨G,ABt h.hx n.AE n.kind n.kind s src 0 L h.hs h.form B,by omega⟩,?_,E⟩;unfold Dr;rw[B];left;refine⟨?_,E⟩;unfold Dr;rw[B]
theorem vm.one {L:List AA}(h:vm L){b:AA}(hb:b∈L):b.Ad=true/\b.BX/\b.cnt<=20000/\0<=b.w:=⟨h.v b hb,kj (h.v b hb),ik (h.v b hb),h.w b hb⟩
theorem rZ {L:List α}(h:L.length=2):∃a b,L=[a,b]:=by
 match L,h with
 | [a,b],_=>exact⟨a,b,rfl⟩
theorem AIF {L:List α}(h:L.length=1):∃a,L=[a]:=by
 match L,h with
 | [a],_=>exact⟨a,rfl⟩
theorem AT9 {L:List α}(h:L.length=3):∃a b c,L=[a,b,c]:=by
 match L,h with
 | [a,b,c],_=>exact⟨a,b,c,rfl⟩
theorem Qa {n:Nd}(h:n.Cl=true):FL n.kind n.AL n.AE.length=true:=by
 unfold Nd.Cl at h;rw[Ak]at h;exact h.2
theorem Z3 {n:Nd}(h:n.Cl=true):Ki n.kind n.text=true:=by
 unfold Nd.Cl at h;rw[Ak]at h;exact h.1
theorem VR {L:List AA} : ∀r∈AA.AG L,r.length=11:=lE L
theorem WR (n p:Int):AC AF 344 [.c (.int .i64 n),.cp [.int .i64 p] 0] (.c (.int .i64 (AU n p))):=by
 refine en func344 ntmps344 ?_;exact wz (cj @AR.eq_1<|results344) (cj (EI n p)<|trivial)
def xb (f:AP)(s:Aa):V:=.agg [.c (.int .i64 (NL f s)),.c (.int .i64 (MZ f s)),.c (.int .i64 (TH f s)),.c (.int .i64 (YM f s)),.c (.int .i64 (YL f s))]
theorem APa (f:AP)(s:Aa)(W:f.valid=true)(ho:s.ok=true):AC AF 304 [.agg f.vs,Aj s,.c (.int .i64 (BS f.params s))] (xb f s):=by
 obtain⟨o,I⟩:=HE W ho;unfold xb MZ TH YM YL NL Aj;generalize z:BS f.params s=P at o I ⊢;have K:=DM (p:=P) f.params.rule (by omega) I;have M:=DM (p:=P) f.params.FD (by omega) I;have E:=WR f.params.rule P;have F:=WR f.params.FD P;obtain⟨R,U⟩:=AI (AU f.params.rule P);obtain⟨A,S⟩:=AI (AU f.params.FD P);rw[U]at K E ⊢;rw[S]at M F ⊢;have Q:=J6 R;have G:=Ke R;generalize q:Bm R=H at Q G ⊢;by_cases B:s.By=0;have J:s.By=0↔True:=iff_true_intro B;simp only[J,if_true];refine en func304 ntmps304 ?_;refine wu (.mk 2) (cj @AR.eq_1<|vR) trivial ⟨?_⟩;refine Cn 2 ?_;exact wz (cj @J<|vR) (cj E<|cj F<|cj G<|cj (WR f.params.VH P)<|cj (WR f.params.Uf P)<|cj (WR f.params.Tp P)<|cj (WR f.params.TE P)<|trivial);simp only[B,if_false];refine en func304 ntmps304 ?_;refine wu (.mk 2) (cj @AR.eq_1<|vR) trivial ⟨?_⟩;refine Cn 2 ?_;exact wz (cj @B<|vR) (cj E<|cj F<|cj G<|cj (WR f.params.Tp P)<|cj (WR f.params.TE P)<|trivial)
theorem AFk (y w:Int)(hs:b.src.length<=1000000)(E : -4000000000<=w - b.w)(F:w - b.w<=4000000000):AC AF 305 [.agg b.vs,.c (.int .i64 y),.cp [.int .i64 w] 0] (.agg (b.AS (Bm (w - b.w)) y).vs):=by
 have h:=Gu b (Bm (w - b.w)) y hs;have B:=Ke (w - b.w);rw[As,As]at h;refine en func305 ntmps305 ?_;exact wz (cj @AR.eq_1<|results305) (cj2 B h trivial)
theorem ALF {b:AA}(h:b.Ad=true):b.src.length<=1000000:=by have:=GD h;cases b;simp only[AA.Fq]at this;exact this.1
theorem AWA (f:AP)(s:Aa)(n d:AA)(hn:n.BX)(CB:n.cnt<=1000000)(hd:d.BX)(B1:d.cnt<=1000000):AC AF 257 [.agg f.vs,Aj s,Ao n,Ao d] (Ba (cE f s n d)):=by
 have B:=LI f s;have E:=EL n hn CB;have F:=EL d hd B1;by_cases hg:s.ok=false\/f.valid=false;have e:cE f s n d=(AA.zero,1):=if_pos (by rcases hg with h|h<;>simp[h]);have e0:IT f s=(0,1):=if_pos hg;rw[e];rw[e0]at B;unfold Aj at *
 simp only[Ba,As,AR]at B E F ⊢;refine en uk u9 ?_;exact wz (cj @Fl<|ni) (cj3 B E F trivial);obtain⟨ho,hv⟩:s.ok=true/\f.valid=true:=by simpa using hg
 have e0:IT f s=(BS f.params s,0):=if_neg hg;rw[e0]at B;cases J:n.Ad with
 | false =>
   have e:cE f s n d=(AA.zero,1):=if_pos (by simp[J]);rw[e];rw[J]at E;unfold Aj at *
   simp only[Ba,As,AR]at B E F ⊢;refine en uk u9 ?_;exact wz (cj @Fl<|ni) (cj3 B E F trivial)
 | true =>
   rw[J]at E;cases K:d.Ad with
   | false =>
     have e:cE f s n d=(AA.zero,1):=if_pos (by simp[K]);rw[e];rw[K]at F;unfold Aj at *
     simp only[Ba,As,AR]at B E F ⊢;refine en uk u9 ?_;exact wz (cj @Fl<|ni) (cj3 B E F trivial)
   | true =>
     rw[K]at F;have e:cE f s n d=C8 (WO f s n d):=if_neg (by simp[J,K,hv,ho]);rw[e];obtain⟨nw,nh,nd,nc⟩:=D3 J;obtain⟨dw,dh,dd,dc⟩:=D3 K;obtain⟨p1,p2⟩:=HE hv ho;have hm:=APa f s hv ho;have bR:=DM (p:=BS f.params s) f.params.rule (by omega) p2;have bA:=DM (p:=BS f.params s) f.params.FD (by omega) p2;have bN:=DM (p:=BS f.params s) (if s.By=0 then f.params.VH else f.params.Tp) (by omega) p2;have bD:=DM (p:=BS f.params s) (if s.By=0 then f.params.Uf else f.params.TE) (by omega) p2;have bH:=J6 (NL f s);have bY : -2147483648<=MZ f s/\MZ f s<=2147483648:=by unfold MZ;omega
     have A7 : -1073741824<=NL f s/\NL f s<=1073741824:=bR;have bG : -3221225472<=TH f s/\TH f s<=3221225472:=by unfold TH;split<;>omega
     have A6 : -1073741824<=YM f s/\YM f s<=1073741824:=bN;have A5 : -1073741824<=YL f s/\YL f s<=1073741824:=bD;have eB:WO f s n d=Bf (TJ n d) (mx (cF f s n+n.h) (MZ f s+NL f s)) (mx (d.d+cD f s d) (-(MZ f s))) [n.AS (Bm (TJ n d - n.w)) (cF f s n),(FV (TJ n d) (NL f s) 0).AS 0 (MZ f s),d.AS (Bm (TJ n d - d.w)) (-(cD f s d))]:=rfl;have S:cF f s n=mx (YM f s) (MZ f s+NL f s+TH f s+n.d):=rfl;have Q:cD f s d=mx (YL f s) (d.h+TH f s - MZ f s):=rfl;have o:TJ n d=mx (mx 0 n.w) d.w:=rfl;rw[eB];unfold xb at hm;obtain⟨U,hU⟩:=AI (cF f s n);obtain⟨L,hL⟩:=AI (cD f s d);obtain⟨W,hW⟩:=AI (TJ n d);rw[hU]at S;rw[hL]at Q;rw[hW]at o;rw[hU,hL,hW];clear eB e hU hL hW bR bA bN bD bH;obtain⟨R,hR⟩:=AI (NL f s);obtain⟨Y,z⟩:=AI (MZ f s);obtain⟨G,q⟩:=AI (TH f s);obtain⟨N,hN⟩:=AI (YM f s);obtain⟨D,hD⟩:=AI (YL f s);rw[hR,z,q,hN,hD]at hm;rw[hN,z,hR,q]at S;rw[hD,q,z]at Q;rw[hR]at A7 ⊢;rw[z]at bY ⊢;rw[q]at bG;rw[hN]at A6;rw[hD]at A5;clear hR z q hN hD;have bU : -1073741824<=U/\U<=8589934592:=by rw[S,DU];omega
     have bL : -1073741824<=L/\L<=8589934592:=by rw[Q,DU];omega
     have bW:0<=W/\W<=1073741824:=by rw[o,DU,DU];omega
     have qB:(if 0<n.w then n.w else 0)=mx 0 n.w:=rfl;obtain⟨M,hM⟩:=AI (mx 0 n.w);rw[hM]at o qB;have A9:(if N<Y+R+G+n.d then Y+R+G+n.d else N)=U:=S.symm;have A8:(if D<d.h+G - Y then d.h+G - Y else D)=L:=Q.symm;have B0:(if M<d.w then d.w else M)=W:=o.symm;have G8:=AFk n U W (ALF J) (by omega) (by omega);have HN:=AFk d (-L) W (ALF K) (by omega) (by omega);have PT:=ABF W R 0;have H:=Gu (FV W R 0) 0 Y (by simp[FV]);obtain⟨hk,EC⟩:AA.JH [n.AS (Bm (W - n.w)) U,(FV W R 0).AS 0 Y,d.AS (Bm (W - d.w)) (-L)]/\AA.FY [n.AS (Bm (W - n.w)) U,(FV W R 0).AS 0 Y,d.AS (Bm (W - d.w)) (-L)]:=⟨⟨HJ _ _ (GD J),HJ _ _ (ABd _ _ _),HJ _ _ (GD K),trivial⟩,F4 _ _ hn,F4 _ _ (ABe _ _ _),F4 _ _ hd,trivial⟩
     have B2:AA.Az [n.AS (Bm (W - n.w)) U,(FV W R 0).AS 0 Y,d.AS (Bm (W - d.w)) (-L)]<=50000:=by simp only[AA.Az,Hb,lH];omega
     have I:=My W (mx (U+n.h) (Y+R)) (mx (d.d+L) (-Y)) [n.AS (Bm (W - n.w)) U,(FV W R 0).AS 0 Y,d.AS (Bm (W - d.w)) (-L)] hk (by omega);have Ct:=EL (Bf W (mx (U+n.h) (Y+R)) (mx (d.d+L) (-Y)) [n.AS (Bm (W - n.w)) U,(FV W R 0).AS 0 Y,d.AS (Bm (W - d.w)) (-L)]) ⟨(CI _:0<=maxLen),(CI _:0<=maxLen),EC⟩ (by simp only[Bf,AA.cnt];omega);obtain⟨Z,hZ⟩:=AI (Bf W (mx (U+n.h) (Y+R)) (mx (d.d+L) (-Y)) [n.AS (Bm (W - n.w)) U,(FV W R 0).AS 0 Y,d.AS (Bm (W - d.w)) (-L)]);rw[hZ]at I Ct ⊢;clear hZ hk EC B2;have Yv:(if U+n.h<Y+R then Y+R else U+n.h)=mx (U+n.h) (Y+R):=rfl;have Yu:(if d.d+L < -Y then -Y else d.d+L)=mx (d.d+L) (-Y):=rfl;obtain⟨MT,qP⟩:=AI (mx (U+n.h) (Y+R));obtain⟨MB,qO⟩:=AI (mx (d.d+L) (-Y));rw[qP]at Yv I;rw[qO]at Yu I;unfold Aj at *
     simp only[AA.AG,As,AR]at B I Ct H PT E F ⊢;obtain⟨A0,Gr⟩:=AI (n.AS (Bm (W - n.w)) U);obtain⟨A2,Fb⟩:=AI (d.AS (Bm (W - d.w)) (-L));obtain⟨A3,Ik⟩:=AI (FV W R 0);rw[Ik]at PT H I;obtain⟨A1,Ec⟩:=AI (A3.AS 0 Y);rw[Gr]at G8 I;rw[Fb]at HN I;rw[Ec]at H I;clear Gr Ec Fb Ik qP qO hM S Q o;unfold C8;refine en uk u9 ?_;refine wu (.mk 10) (cj4 @qB @A9 @A8 @B0 ni) (cj4 B E F hm trivial) ⟨?_⟩;refine Cn 6 ?_;exact wz (cj6 @Yv @Yu @Ba.eq_1 @As @AR.eq_1 @Fl ni) (cj6 PT H G8 HN I Ct trivial)
theorem AY0 {s:Aa}(ho:s.ok=true):(Kf s).ok=true:=by
 have B:s.By=0\/s.By=1\/s.By=2\/s.By=3:=by simp[Aa.ok]at ho;omega
 unfold Kf GB;obtain⟨l,c⟩:=s;simp only at B;rcases B with rfl|rfl|rfl|rfl<;>simp[Aa.ok,VU]
theorem AHz {f:AP}{b:AA}(F:f.valid=true)(hb:b.Ad=true):0<=F8 f b/\F8 f b<=1073741824:=by
 unfold F8;split;rename_i g E;obtain⟨H,I⟩:=tA hb E;rw[DU];unfold AU;split;rename_i G;have B:=Ql F g.name;unfold BG.Small at B;have:=Qh (f.pick g.name).Ey g.size 20000 1000 (by omega) (by omega) (by omega) (by omega);unfold Ea;split<;>omega;omega;omega
theorem ABm {f:AP}{s:Aa}{b:AA}{sub B:List AA}(H:f.valid=true)(ho:s.ok=true)(hb:b.Ad=true)(W:sub.length<=1)(o:B.length<=1)(F : ∀c∈sub,c.Ad=true)(G : ∀c∈B,c.Ad=true) :
 (-100000000000<=(Ez f s b sub B).1/\(Ez f s b sub B).1<=100000000000)/\ -100000000000<=(Ez f s b sub B).2/\(Ez f s b sub B).2<=100000000000:=by
 obtain⟨p1,E⟩:=HE H ho;obtain⟨bw,bh,bd,bc⟩:=D3 hb;obtain⟨q1,q2⟩:=HE H (AY0 ho);have wV:=DM (p:=BS f.params (Kf s)) f.params.Q5 (by omega) q2;have wW:=DM (p:=BS f.params (Kf s)) f.params.Qz (by omega) q2;have bU : -2147483648<=Qs f s b/\Qs f s b<=2147483648:=by unfold Qs;split<;>omega
 have bV : -2147483648<=Od f s b/\Od f s b<=2147483648:=by unfold Od;split<;>omega
 have z:=DM (p:=BS f.params s) (XO f.params s) (by omega) E;have wS:=DM (p:=BS f.params s) f.params.Qx (by omega) E;have wT:=DM (p:=BS f.params s) f.params.Qy (by omega) E;have wR:=DM (p:=BS f.params s) f.params.rule (by omega) E;have iX:=DM (p:=25) (M1 f s) (by omega) (by omega);have wP:=DM (p:=80) (M1 f s) (by omega) (by omega);have J : -2147483648<=Nm f s b/\Nm f s b<=2147483648:=by unfold Nm;rw[DU];omega
 have q : -4294967296<=Sb f s/\Sb f s<=4294967296:=by unfold Sb;omega
 match sub,B,W,o with
 | [],[],_,_=>simp only[Ez,H0];omega
 | [],[d],_,_=>obtain⟨U,S,R,_⟩:=D3 (G d (by simp));simp only[Ez,H0,DU];omega
 | [c],[],_,_=>obtain⟨Q,M,K,_⟩:=D3 (F c (by simp));simp only[Ez,H0,DU];omega
 | [c],[d],_,_ =>
   obtain⟨Q,M,K,_⟩:=D3 (F c (by simp));obtain⟨U,S,R,_⟩:=D3 (G d (by simp));have I : -4294967296<=H0 f s b [d]/\H0 f s b [d]<=4294967296:=by simp only[H0,DU];omega
   simp only[Ez];unfold s8 s9;split;split<;>(simp only;omega);simp only;omega
theorem IC (f:AP)(s:Aa)(b:AA)(sub F:List AA)(hf:f.Fit)(hv:f.valid=true)(ho:s.ok=true)(hb:b.Ad=true)(ob:b.BX)(l1:sub.length<=1)(l2:F.length<=1)(h1 : ∀c∈sub,c.Ad=true/\c.BX)(h2 : ∀c∈F,c.Ad=true/\c.BX):AC AF 261 [.agg f.vs,Aj s,Ao b,.c (.sl (AA.AG sub)),.c (.sl (AA.AG F))] (Ba (C8 (Oc f s b sub F))):=by
 have g1:=λc o=>(h1 c o).1
 have g2:=λc o=>(h2 c o).1
 obtain⟨bw,bh,bd,bn⟩:=D3 hb;obtain⟨p1,p2⟩:=HE hv ho;have vb:=EL b ob (by omega);rw[hb]at vb;have z:=LI f s;rw[show IT f s=(BS f.params s,0)from if_neg (by simp[hv,ho])]at z;have s1:=fK sub (by omega) h1;have s2:=fK F (by omega) h2;have R0:=ABH f s b sub F hv ho hb l1 l2 g1 g2;have ig:=ABm hv ho hb l1 l2 g1 g2;have J:=ku f b hf hv hb ob;have bit:=AHz (f:=f) (b:=b) hv hb;have eK:eu f s b sub F=b.AS 0 0::((match (generalizing:=false) sub with | []=>[]|c::_=>[c.AS (b.w - F8 f b) (-(Ez f s b sub F).2)])++(match (generalizing:=false) F with | []=>[]|c::_=>[c.AS b.w (Ez f s b sub F).1])):=rfl;unfold Oc;rw[eK];clear eK;obtain⟨u,hu⟩:=AI ((Ez f s b sub F).1);obtain⟨v,FQ⟩:=AI ((Ez f s b sub F).2);obtain⟨I,hI⟩:=AI (F8 f b);rw[hu,FQ]at R0 ig ⊢;rw[hI]at J bit ⊢;clear hu FQ hI;have R:=Gu b 0 0 (Nn hb);have SF:(2:Nat)<=maxLen:=by unfold maxLen;omega
 have SG:(3:Nat)<=maxLen:=by unfold maxLen;omega
 have z0:(0:Nat)<=maxLen:=CI _;match sub,F,l1,l2 with
 | [],[],_,_ =>
   have E:=kq [b.AS 0 0] (by simp) (by
    intro x q;simp only[Cf,RE,or_false]at q;rcases q with rfl
    all_goals (constructor<;>(unfold Oi;simp only[iU,iT,iS,iV,iW];omega)))
   dsimp only[BK,BU];obtain⟨⟨E0,K,M,Q⟩,U⟩:=AI (DQ [b.AS 0 0]);rw[U]at E ⊢;clear U;have G:=My K M Q [b.AS 0 0] ⟨HJ _ _ (GD hb),trivial⟩ (by simp only[AA.Az,Hb];omega);have H:=EL (Bf K M Q [b.AS 0 0]) ⟨z0,z0,F4 _ _ ob,trivial⟩ (by simp only[Bf,AA.cnt,AA.Az,Hb];omega);obtain⟨A0,S⟩:=AI (b.AS 0 0);rw[S]at R E G H ⊢;obtain⟨Z,W⟩:=AI (Bf K M Q [A0]);dsimp only;rw[W]at G H ⊢;clear W S;unfold Aj YG at *
   simp only[AA.AG,As,AR,Ba]at R0 G H E R vb z s1 s2 J ⊢;unfold C8;refine en H9 IB ?_;have B:=(cj6 @SF @SG @Ba.eq_1 @As @AR.eq_1 @Fl ADM)
   repeat any_goals (first|refine Eo ?_|exact Bt B|(with_reducible refine LA.loop (LA.round ?_))|(with_reducible refine LA.round ?_)|refine De B ?_|refine BV B (z) ?_|refine BV B (vb) ?_|refine BV B (s1) ?_|refine BV B (s2) ?_|refine BV B (R0) ?_|refine BV B (J) ?_|refine BV B (R) ?_|refine BV B (E) ?_|refine BV B (G) ?_|refine BV B (H) ?_|refine DI B ?_|((first|refine JC B ?_ ?_|refine JE B ?_ ?_|refine JD B ?_ ?_|refine JY B ?_ ?_)<;>intro h<;>try (exfalso;first|omega|contradiction)))
 | [],[d],_,_ =>
   obtain⟨hd,od⟩:=h2 d (by simp);obtain⟨dw,dh,dd,dn⟩:=D3 hd;have a2:=Gu d b.w u (Nn hd);have E:=kq [b.AS 0 0,d.AS b.w u] (by simp) (by
    intro x q;simp only[Cf,RE,or_false]at q;rcases q with rfl|rfl
    all_goals (constructor<;>(unfold Oi;simp only[iU,iT,iS,iV,iW];omega)))
   dsimp only[BK,BU];obtain⟨⟨E0,K,M,Q⟩,U⟩:=AI (DQ [b.AS 0 0,d.AS b.w u]);rw[U]at E ⊢;clear U;have G:=My K M Q [b.AS 0 0,d.AS b.w u] ⟨HJ _ _ (GD hb),HJ _ _ (GD hd),trivial⟩ (by simp only[AA.Az,Hb];omega);have H:=EL (Bf K M Q [b.AS 0 0,d.AS b.w u]) ⟨z0,z0,F4 _ _ ob,F4 _ _ od,trivial⟩ (by simp only[Bf,AA.cnt,AA.Az,Hb];omega);obtain⟨A0,S⟩:=AI (b.AS 0 0);rw[S]at R E G H ⊢;obtain⟨A2,kX⟩:=AI (d.AS b.w u);rw[kX]at a2 E G H ⊢;obtain⟨Z,W⟩:=AI (Bf K M Q [A0,A2]);dsimp only;rw[W]at G H ⊢;clear W S kX;unfold Aj YG at *
   simp only[AA.AG,As,AR,Ba]at R0 G H E R a2 vb z s1 s2 J ⊢;unfold C8;refine en H9 IB ?_;have B:=(cj6 @SF @SG @Ba.eq_1 @As @AR.eq_1 @Fl ADM)
   repeat any_goals (first|refine Eo ?_|exact Bt B|(with_reducible refine LA.loop (LA.round ?_))|(with_reducible refine LA.round ?_)|refine De B ?_|refine BV B (z) ?_|refine BV B (vb) ?_|refine BV B (s1) ?_|refine BV B (s2) ?_|refine BV B (R0) ?_|refine BV B (J) ?_|refine BV B (R) ?_|refine BV B (a2) ?_|refine BV B (E) ?_|refine BV B (G) ?_|refine BV B (H) ?_|refine DI B ?_|((first|refine JC B ?_ ?_|refine JE B ?_ ?_|refine JD B ?_ ?_|refine JY B ?_ ?_)<;>intro h<;>try (exfalso;first|omega|contradiction)))
 | [c],[],_,_ =>
   obtain⟨o,oc⟩:=h1 c (by simp);obtain⟨cw,ch,cd,cn⟩:=D3 o;have a1:=Gu c (b.w - I) (-v) (Nn o);have E:=kq [b.AS 0 0,c.AS (b.w - I) (-v)] (by simp) (by
    intro x q;simp only[Cf,RE,or_false]at q;rcases q with rfl|rfl
    all_goals (constructor<;>(unfold Oi;simp only[iU,iT,iS,iV,iW];omega)))
   dsimp only[BK,BU];obtain⟨⟨E0,K,M,Q⟩,U⟩:=AI (DQ [b.AS 0 0,c.AS (b.w - I) (-v)]);rw[U]at E ⊢;clear U;have G:=My K M Q [b.AS 0 0,c.AS (b.w - I) (-v)] ⟨HJ _ _ (GD hb),HJ _ _ (GD o),trivial⟩ (by simp only[AA.Az,Hb];omega);have H:=EL (Bf K M Q [b.AS 0 0,c.AS (b.w - I) (-v)]) ⟨z0,z0,F4 _ _ ob,F4 _ _ oc,trivial⟩ (by simp only[Bf,AA.cnt,AA.Az,Hb];omega);obtain⟨A0,S⟩:=AI (b.AS 0 0);rw[S]at R E G H ⊢;obtain⟨A1,Lz⟩:=AI (c.AS (b.w - I) (-v));rw[Lz]at a1 E G H ⊢;obtain⟨Z,W⟩:=AI (Bf K M Q [A0,A1]);dsimp only;rw[W]at G H ⊢;clear W S Lz;unfold Aj YG at *
   simp only[AA.AG,As,AR,Ba]at R0 G H E R a1 vb z s1 s2 J ⊢;unfold C8;refine en H9 IB ?_;have B:=(cj6 @SF @SG @Ba.eq_1 @As @AR.eq_1 @Fl ADM)
   repeat any_goals (first|refine Eo ?_|exact Bt B|(with_reducible refine LA.loop (LA.round ?_))|(with_reducible refine LA.round ?_)|refine De B ?_|refine BV B (z) ?_|refine BV B (vb) ?_|refine BV B (s1) ?_|refine BV B (s2) ?_|refine BV B (R0) ?_|refine BV B (J) ?_|refine BV B (R) ?_|refine BV B (a1) ?_|refine BV B (E) ?_|refine BV B (G) ?_|refine BV B (H) ?_|refine DI B ?_|((first|refine JC B ?_ ?_|refine JE B ?_ ?_|refine JD B ?_ ?_|refine JY B ?_ ?_)<;>intro h<;>try (exfalso;first|omega|contradiction)))
 | [c],[d],_,_ =>
   obtain⟨o,oc⟩:=h1 c (by simp);obtain⟨cw,ch,cd,cn⟩:=D3 o;have a1:=Gu c (b.w - I) (-v) (Nn o);obtain⟨hd,od⟩:=h2 d (by simp);obtain⟨dw,dh,dd,dn⟩:=D3 hd;have a2:=Gu d b.w u (Nn hd);have E:=kq [b.AS 0 0,c.AS (b.w - I) (-v),d.AS b.w u] (by simp) (by
    intro x q;simp only[Cf,RE,or_false]at q;rcases q with rfl|rfl|rfl
    all_goals (constructor<;>(unfold Oi;simp only[iU,iT,iS,iV,iW];omega)))
   dsimp only[BK,BU];obtain⟨⟨E0,K,M,Q⟩,U⟩:=AI (DQ [b.AS 0 0,c.AS (b.w - I) (-v),d.AS b.w u]);rw[U]at E ⊢;clear U;have G:=My K M Q [b.AS 0 0,c.AS (b.w - I) (-v),d.AS b.w u] ⟨HJ _ _ (GD hb),HJ _ _ (GD o),HJ _ _ (GD hd),trivial⟩ (by simp only[AA.Az,Hb];omega);have H:=EL (Bf K M Q [b.AS 0 0,c.AS (b.w - I) (-v),d.AS b.w u]) ⟨z0,z0,F4 _ _ ob,F4 _ _ oc,F4 _ _ od,trivial⟩ (by simp only[Bf,AA.cnt,AA.Az,Hb];omega);obtain⟨A0,S⟩:=AI (b.AS 0 0);rw[S]at R E G H ⊢;obtain⟨A1,Lz⟩:=AI (c.AS (b.w - I) (-v));rw[Lz]at a1 E G H ⊢;obtain⟨A2,kX⟩:=AI (d.AS b.w u);rw[kX]at a2 E G H ⊢;obtain⟨Z,W⟩:=AI (Bf K M Q [A0,A1,A2]);dsimp only;rw[W]at G H ⊢;clear W S Lz kX;unfold Aj YG at *
   simp only[AA.AG,As,AR,Ba]at R0 G H E R a1 a2 vb z s1 s2 J ⊢;unfold C8;refine en H9 IB ?_;have B:=(cj6 @SF @SG @Ba.eq_1 @As @AR.eq_1 @Fl ADM)
   repeat any_goals (first|refine Eo ?_|exact Bt B|(with_reducible refine LA.loop (LA.round ?_))|(with_reducible refine LA.round ?_)|refine De B ?_|refine BV B (z) ?_|refine BV B (vb) ?_|refine BV B (s1) ?_|refine BV B (s2) ?_|refine BV B (R0) ?_|refine BV B (J) ?_|refine BV B (R) ?_|refine BV B (a1) ?_|refine BV B (a2) ?_|refine BV B (E) ?_|refine BV B (G) ?_|refine BV B (H) ?_|refine DI B ?_|((first|refine JC B ?_ ?_|refine JE B ?_ ?_|refine JD B ?_ ?_|refine JY B ?_ ?_)<;>intro h<;>try (exfalso;first|omega|contradiction)))
def EN (l:List AA)(Z:List C):List V:=((AA.AG l).flatten++Z).map V.c
theorem X5 :(AA.AG l).flatten.length=l.length*11:=by
 rw[List.length_flatten];have:(AA.AG l).map List.length=Aq l.length 11:=by
  apply UB;simp[GA];intro i B E;simp only[mW,List.getElem_replicate];exact lE l _ (Kq _)
 rw[this];simp
theorem iO {l:List AA}{Z:List C}{i q:Nat}{b:AA}(h:l[i]?=some b)(B:q<11):(EN l Z)[i*11+q]?=(b.row.map V.c)[q]?:=by
 have E:i<l.length:=(Br.1 h).1;unfold EN;rw[Fm,List.getElem?_append_left (by rw[Ch,X5];omega),flat_get h B]
theorem bC :(EN l Z).length=l.length*11+Z.length:=by
 unfold EN;rw[Ch,Cp,X5]
@[simp] theorem RQ (n:Nat)(l:List AA)(Z:List C):V.BI n (EN l Z)=true:=by
 unfold EN;generalize ((AA.AG l).flatten++Z)=r;induction r with
 | nil=>rfl
 | cons c r ih=>simp only[Ap,V.BI,V.A8,Cd];exact ih
theorem og {l:List AA}{Z:List C}{i q:Nat}{b b':AA}{v:C}(h:l[i]?=some b)(Q:q<11)(hb:b'.row=b.row.set q v):(EN l Z).set (i*11+q) (.c v)=EN (l.set i b') Z:=by
 have K:i<l.length:=(Br.1 h).1;unfold EN;rw[<-List.map_set (f:=V.c),List.set_append_left _ _ (by rw[X5];omega)];congr 2
 apply List.ext_getElem?;intro j;have e : ∀(m:List AA) (j:Nat),j<m.length*11->(AA.AG m).flatten[j]?=(m[j / 11]?.bind λb=>b.row[j % 11]?):=by
  intro m j E;have M:j / 11<m.length:=by omega
  have J:m[j / 11]?=some m[j / 11]:=BE M;have B:=flat_get J (mh j (by omega:0<11));rw[show j / 11*11+j % 11=j by omega,CM,CM]at B;rw[J,aQ];cases H:(AA.AG m).flatten[j]? with
  | none=>rw[List.getElem?_eq_none_iff,X5]at H;omega
  | some a =>
    rw[H]at B;cases I:(m[j / 11]).row[j % 11]? with
    | none=>rw[I]at B;cases B
    | some c=>rw[I]at B;simp only[Nu,BL,V.c.injEq]at B;rw[B]
 by_cases E:j<l.length*11;rw[e (l.set i b') j (by rw[GF];exact E),RD,RD];by_cases F:i*11+q=j;subst F;rw[if_pos rfl,if_pos (by rw[X5];omega),if_pos (by omega),if_pos K,aQ,hb,show (i*11+q) % 11=q by omega,List.getElem?_set_self (by rw[Nk];exact Q)];rw[if_neg F,e l j E];by_cases G:i=j / 11;subst G;rw[if_pos rfl,if_pos K,h,aQ,aQ,hb,List.getElem?_set_ne (by omega)];rw[if_neg G];rw[M6 (by rw[GF,X5];omega),M6 (by rw[X5,GF];omega)]
theorem AD1 :V.Pn (EN l Z)=true:=AIW _
theorem bE :V.Dj k (EN l Z)=some (EN l Z):=AIV k _
structure aZ (q:Int)(AL AG:Nat)(cells:List AA):Prop where
 n:cells.length=AG*AL
 c1:1<=AL
 c2:AL<=16
 r1:1<=AG
 n2:cells.length<=256
 q0:0<=q
 q1:q<=1073741824
 w : ∀b∈cells,0<=b.w/\b.w<=1073741824
theorem AD5 {q:Int}{AL AG:Nat}{cells:List AA}(h:aZ q AL AG cells)(c:Nat):0<=Lh AL cells c/\Lh AL cells c<=1073741824:=by
 have key : ∀(l:List AA) (i:Nat) (w:Int),0<=w->w<=1073741824->(∀b∈l,b.w<=1073741824)->0<=K6 AL i w l/\K6 AL i w l<=1073741824:=by
  intro l;induction l with
  | nil=>intro i w E F _;exact⟨E,F⟩
  | cons b l ih =>
    intro i w E F B;simp only[K6];have NO:=B b GH;refine ih _ _ ?_ ?_ λb G=>B b (Gk _ G)
    split;unfold mx;split<;>omega;exact E;split;unfold mx;split<;>omega;exact F
 exact key _ _ _ (by omega) (by omega) λb B=>(h.w b (uS B)).2
theorem AD6 {q:Int}{AL AG:Nat}{cells:List AA}(h:aZ q AL AG cells):∀c,0<=Ig q AL cells c/\Ig q AL cells c<=(c:Int)*2147483648
 | 0=>by simp[Ig]
 | c+1=>by
   have B:=AD6 h c;have E:=AD5 h c;have F:=h.q0;have G:=h.q1;simp only[Ig];push_cast
   omega
theorem ANZ {q:Int}{AL AG:Nat}{cells:List AA}(h:aZ q AL AG cells)(Q:i<cells.length):(A4 cells i).w<=Lh AL cells (i % AL):=by
 have E:0<AL:=h.c1;have R:=mh i E;have F:=h.n;obtain⟨l,I,J⟩:=kO (p:=λj=>j<cells.length) (i % AL) AL AG λk B=>by
  rw[F];have:AL*k+AL<=AG*AL:=by rw[aO AG AL,<-Nat.mul_succ];exact mj _ B
  omega
 have H:=xA (λy : { j:Nat // j<cells.length }=>y.val) (c:=i % AL) E cells l 0 0 (λy _=>y.2) (λk y G=>by rw[Cz];exact J k y G) (by rw[Cz,I,F,aO AG AL];omega);rw[Nat.mul_zero,M8]at H;show _<=K6 AL 0 0 (cells.drop (i % AL));rw[<-H];have B:i / AL<l.length:=by rw[I];exact(AC4 E).2 (by rw[<-F];exact Q)
 have M:l[i / AL]?=some l[i / AL]:=BE B;have G:=J _ _ M;have K:l[i / AL].val=i:=by rw[G,AMz]
 refine(AFj _ 0).2 _ (List.mem_map.2 ⟨_,Kq B,?_⟩);rw[K]
theorem AXM (x:Int):({ b with x:=x }:AA).row=b.row.set 6 (.int .i64 x):=by cases b;rfl
theorem ABh :(b.row.map V.c)[3]?=some (.c (.int .i64 b.w)):=by cases b;rfl
def X6 (q:Int)(AL:Nat)(cells:List AA)(c:Nat):Int:=if c=0 then 0 else Ig q AL cells (c - 1)+Lh AL cells (c - 1)
theorem AE0 (cells:List AA)(Z:List C)(AL AG:Nat)(q:Int)(h:aZ q AL AG cells):AY AF 320 [.own 0 0 cells.length 11,.c (.int .i64 (AL:Int)),.c (.int .i64 q)] 41 (EN cells Z) (EN (Gn q AL cells AL) Z) (.A7 [.c (.int .i64 (Ig q AL cells (AL - 1)+Lh AL cells (AL - 1))),.c (.bool true)]):=by
 obtain⟨hn,HL,GM,HP,KY,rC,NT,Ws⟩:=id h;obtain⟨N,S⟩:=AI cells.length;rw[S]at hn KY ⊢;have DK : ∀c,(Gn q AL cells c).length=N:=λc=>by unfold Gn;rw[Xd,S]
 have cX:Gn q AL cells 0=cells:=ALq _ _ _ λi _=>by simp
 have G9:AG<=256:=by have:AG*1<=AG*AL:=mj _ HL;omega
 have A9:(AL:Int)<=9223372036854775807:=by omega
 refine AY.intro func320 rfl ?_;simp only[ntmps320,Ap,BB,BA,BO,Nat.reduceAdd,Nat.reduceSub,BY,Cy,BK,BU];refine Ah ?_;have e0:EN cells Z=EN (Gn q AL cells 0) Z:=by rw[cX]
 rw[e0];refine lp (ι:={ c:Nat // c<=AL }) (λc=>[(15,.c (.int .i64 (c.1:Int)))]) (λc=>[O.box 41 (EN (Gn q AL cells c.1) Z) false,O.box 38 [.own 0 0 N 11] false,O.box 3 [.c (.int .i64 (X6 q AL cells c.1))] false,O.box 4 [.c (.bool false)] false,O.box 3 [.c (.int .i64 (Ig q AL cells c.1))] false]) (λc=>AL - c.1) ⟨0,CI _⟩ ?_ ?_;all_goals simp only[puts,Bw,CO,Ag,Ai]
 exact ER (cj2 @X6.eq_1 @Ig.eq_1 @Ig.eq_2)
 . rintro ⟨c,hc⟩;simp only at hc ⊢;by_cases o:c<AL;have A3 : ∀k,k<AG->c+AL*k<N/\(c+AL*k) % AL=c:=λk hk=>by
    have h1:AL*k+AL<=AG*AL:=by rw[aO AG AL,<-Nat.mul_succ];exact mj _ hk
    refine⟨by omega,?_⟩;rw[Nat.add_mul_mod_self_left,Nat.mod_eq_of_lt o]
   obtain⟨l,hl,hv⟩:=kO (p:=λj=>j<N/\j % AL=c) c AL AG A3;have JN : ∀y∈l,y.val<cells.length:=λy _=>by rw[S];exact y.2.1
   have dG:=pk (λy : { j:Nat // j<N/\j % AL=c }=>((y.val:Nat):Int)) l (c:Int) (N:Int) (AL:Int) (by omega) (by omega) (by omega) (by omega) (by omega) (λk y hy=>by have:=hv k y hy;rw[this];push_cast;rfl) (λy _=>by have:=y.2.1;omega) (by
    rw[hl];have e:(N:Int)=(AG:Int)*(AL:Int):=by rw[hn];push_cast;rfl
    rw[e,fu];omega)
   have hW:=xA (λy : { j:Nat // j<N/\j % AL=c }=>y.val) (c:=c) HL cells l 0 0 JN (λk y hy=>by rw[Cz];exact hv k y hy) (by rw[Cz,hl,S,hn,aO AG AL];omega);rw[Nat.mul_zero,M8]at hW;have QJ:(l.map λi=>(A4 cells i.val).w).foldl mx 0=Lh AL cells c:=hW;obtain⟨A,hA⟩:=AI (EN (Gn q AL cells c) Z);have KV:N*11<=A.length:=by rw[<-hA,bC,DK];omega
   have Rc : ∀n,V.BI n A=true:=λn=>by rw[<-hA];exact RQ n _ _
   have A0 : ∀y : { j:Nat // j<N/\j % AL=c },A[y.val*11+3]?=some (.c (.int .i64 (A4 cells y.val).w)):=λy=>by
    have hy:y.val<cells.length:=by rw[S];exact y.2.1
    rw[<-hA,iO (b:=if (decide (y.val % AL<c))=true then Ua q AL cells y.val cells[y.val]else cells[y.val]) (by unfold Gn;rw[fQ,BE hy];rfl) (by omega),bJ hy];split;exact ABh _;exact ABh _
   rw[hA];refine go @o ?_;refine BZ (iw (c:Int) (N:Int) (AL:Int)) gN ?_;refine Ah ?_;refine AW.le (Le.T4 5 0 3 1 rfl rfl) ?_;simp only[BA,BO,Nat.reduceAdd,Ag,Ai,BK,BU];refine AW.range (α:={ j:Nat // j<N/\j % AL=c }) rfl rfl rfl (caps:=[.cp [.int .i64 (c:Int)] 0,.cp [.int .i64 (N:Int)] 0,.cp [.int .i64 (AL:Int)] 0]) rfl rfl gQ (by kernel_rfl) (by kernel_rfl) (λy=>.int .i64 ((y.val:Nat):Int)) (λy=>.c (.int .i64 ((y.val:Nat):Int))) ?_ (λxs=>xs=l) l.length dG
    (λpre=>[O.box 41 A false,O.box 38 [.own 0 0 N 11] false,O.box 3 [.c (.int .i64 (X6 q AL cells c))] false,O.box 4 [.c (.bool false)] false,O.box 3 [.c (.int .i64 (Ig q AL cells c))] false,O.box 39 [.gr 6 1 ((pre.map λi=>(A4 cells i.val).w).map λn=>[C.int .i64 n])] false,O.tok 3 1 ((pre.map λi=>(A4 cells i.val).w).map λn=>[C.int .i64 n]).length]) ?_ 7 (λ_=>rfl) (by simp) ?_ ?_
   intro x' W y;simp only[CV,Ab];exact⟨trivial,Q8 (by have:=y.2.1;unfold maxLen;omega)⟩;simp;rintro lp pre y kD;have M:=y.2.1;have F:=A0 y;have K:=gx F;have U:y.val*11+3<A.length:=by omega
   obtain⟨H,rN⟩:=AI ((A4 cells y.val).w);rw[rN]at F K;simp only[Fm,Ap,BB,rN];obtain⟨R,hR⟩:=AI (((pre.map λi=>(A4 cells i.val).w).map λn=>[C.int .i64 n]));have Md:R.length<AG:=by rw[<-hR];simp;omega
   rw[hR];have FO:R.length+1<=maxLen:=by unfold maxLen;omega
   have EX:(R.length+1)*8<=140737488355328:=by omega
   obtain⟨yv,PW⟩:=AI y.val;rw[PW]at M F K U ⊢;refine go (cj5 @M @F @K @U @FO @EX) ?_;refine⟨rfl,_,Le.hide 7 (F2 rfl) ?_ ?_⟩;simp;simp[O.A8,V.BI,V.A8,Rc];rintro xs NW;rw[NW];clear NW xs;have I:=xh 0 (l.map λi=>(A4 cells i.val).w) (by simp;omega);rw[QJ]at I;unfold AV at I;obtain⟨R,hR⟩:=AI (((l.map λi=>(A4 cells i.val).w).map λn=>[C.int .i64 n]));rw[hR]at I ⊢;refine Ah ?_;refine BZ (I) uv ?_;refine Ah ?_;refine BZ (iw (c:Int) (N:Int) (AL:Int)) gN ?_;refine Ah ?_;have yW:=AD5 h c;have A2:=AD6 h c;have yJ:A=EN (Ho (λj=>decide (j % AL<c) || ([]:List { j:Nat // j<N/\j % AL=c }).any λz=>decide (j=z.val)) (Ua q AL cells) cells) Z:=by
    rw[<-hA];unfold Gn;simp
   have yz:Ho (λj=>decide (j % AL<c) || l.any λz=>decide (j=z.val)) (Ua q AL cells) cells=Gn q AL cells (c+1):=by
    unfold Gn;refine ALp λi hi=>?_
    rw[S]at hi;have key:(l.any λz=>decide (i=z.val))=decide (i % AL=c):=by
     rw[Oj,aH,decide_eq_true_eq];constructor;rintro ⟨z,_,hz⟩;rw[decide_eq_true_eq]at hz;rw[hz];exact z.2.2;intro hm;have hk:i / AL<l.length:=by rw[hl];exact(AC4 HL).2 (by rw[<-hn];exact hi)
     refine⟨l[i / AL],Kq hk,?_⟩;rw[decide_eq_true_eq,hv _ _ (BE hk)];have:=AMz i AL;omega
    rw[key,Oj];simp only[T9,decide_eq_true_eq];omega
   obtain⟨X,hX⟩:=AI (Ig q AL cells c);obtain⟨W,cS⟩:=AI (Lh AL cells c);have A1:Ig q AL cells (c+1)=X+W+q:=by simp only[Ig,hX,cS]
   have xt:X6 q AL cells (c+1)=X+W:=by simp[X6,hX,cS]
   obtain⟨E,hE⟩:=AI (X6 q AL cells c);rw[hX]at A2;rw[cS]at yW;rw[hX,cS,hE];refine AW.range (α:={ j:Nat // j<N/\j % AL=c }) rfl rfl rfl (caps:=[.cp [.int .i64 (c:Int)] 0,.cp [.int .i64 (N:Int)] 0,.cp [.int .i64 (AL:Int)] 0]) rfl rfl gQ (by kernel_rfl) (by kernel_rfl) (λy=>.int .i64 ((y.val:Nat):Int)) (λy=>.c (.int .i64 ((y.val:Nat):Int))) ?_ (λxs=>xs=l) l.length dG
    (λpre=>[O.box 41 (EN (Ho (λj=>decide (j % AL<c) || pre.any λz=>decide (j=z.val)) (Ua q AL cells) cells) Z) false,O.box 38 [.own 0 0 N 11] false,O.box 3 [.c (.int .i64 E)] false,O.box 4 [.c (.bool false)] false,O.box 3 [.c (.int .i64 X)] false,O.box 39 [.gr 6 1 R] false,O.tok 3 1 R.length,O.box 3 [.c (.int .i64 W)] false]) ?_ 8 (λ_=>rfl) (by simp) ?_ ?_
   intro x' W y;simp only[CV,Ab];exact⟨trivial,Q8 (by have:=y.2.1;unfold maxLen;omega)⟩;rw[yJ];rintro lp pre y kD;have M:=y.2.1;have Wv:y.val<cells.length:=by rw[S];exact M
   have G:=ALr (λy : { j:Nat // j<N/\j % AL=c }=>y.val) (λj=>decide (j % AL<c)) (Ua q AL cells) cells pre y Wv;obtain⟨Q,hQ⟩:=AI (Ho (λj=>decide (j % AL<c) || pre.any λz=>decide (j=z.val)) (Ua q AL cells) cells);have yO:Q.length=N:=by rw[<-hQ,Xd,S]
   have yN : ∃B,Q[y.val]?=some B/\B.w=(A4 cells y.val).w/\Ua q AL cells y.val cells[y.val]={ B with x:=X+Bm (W - (A4 cells y.val).w) }:=by
    rw[<-hQ,fQ,BE Wv,Nu,bJ Wv];refine⟨_,rfl,?_,?_⟩;split<;>rfl;unfold Ua;rw[y.2.2,hX,cS];split<;>rfl
   obtain⟨B,Il,O9,TK⟩:=yN;have yq:=Ws _ (bK Wv);have JL:=ANZ h Wv;rw[y.2.2,cS]at JL;rw[hQ]at G ⊢;rw[<-G];clear G;rw[TK];have F:=iO (Z:=Z) Il (q:=3) (by omega);rw[ABh,O9]at F;have KG:=og (Z:=Z) (v:=.int .i64 (X+Bm (W - (A4 cells y.val).w))) Il (by omega:6<11) (AXM B _);generalize rN:(A4 cells y.val).w=H at F KG yq JL TK ⊢;obtain⟨Q',jS⟩:∃Q',EN (Q.set y.val { B with x:=X+Bm (W - H) }) Z=Q':=⟨_,rfl⟩
   rw[jS]at KG ⊢;have yM : ∀n,V.BI n Q'=true:=λn=>by rw[<-jS];exact RQ n _ _
   obtain⟨A',Au⟩:∃A',EN Q Z=A':=⟨_,rfl⟩
   have A6:N*11<=A'.length:=by rw[<-Au,bC,yO];omega
   rw[Au]at F KG ⊢;have K:=gx F;have U:y.val*11+3<A'.length:=by omega
   have Yn:y.val*11+6+1<=A'.length:=by omega
   have B0:=J6 (W - H);have EK:AZ.wrap (W - H)=W - H:=Ac;have J:AZ.wrap (X+Bm (W - H))=X+Bm (W - H):=Ac;have G7:=Ng (W - H);rw[show An (W - H)=true by unfold An;simp;omega]at G7;have qh:=Ke (W - H);generalize J8:Bm (W - H)=hf at J qh KG;generalize PW:y.val=yv at M F K U Yn KG ⊢;refine go (cj4 @M @F @K @U @EK) ?_;refine BZ (G7) func125 ?_;refine go (cj4 @M @F @K @U @EK) ?_;refine gc (cj7 @M @F @K @U @Yn @EK @J @KG) (qh) func135 ?_;refine Ah ?_;refine⟨rfl,_,Le.hide 8 (F2 rfl) ?_ ?_⟩;simp;simp[O.A8,V.BI,V.A8,yM];rintro xs NW;rw[NW,yz];have EK:AZ.wrap (X+W)=X+W:=Ac;have J:AZ.wrap (X+W+q)=X+W+q:=Ac;have A5:AZ.wrap ((c:Int)+1)=((c+1:Nat):Int):=by rw[Ac];push_cast;rfl
   refine go (cj2 @EK @J @A5) ?_;refine⟨⟨c+1,by omega⟩,by simp only;omega,?_⟩;simp only[A1,xt];exact wd 5
   . obtain rfl:c=AL:=by omega
     have xt:X6 q c cells c=Ig q c cells (c - 1)+Lh c cells (c - 1):=if_neg (by omega);rw[xt];have KE:=bE 0 (Gn q c cells c) Z;refine go @o ?_;all_goals simp[GI,DV,C0,DE,V.CP,V.CF,CJ,results320, *]
theorem AYI :(b.row.map V.c)[4]?=some (.c (.int .i64 b.h)):=by cases b;rfl
theorem AYJ :(b.row.map V.c)[5]?=some (.c (.int .i64 b.d)):=by cases b;rfl
def rf (q:Int)(AL:Nat)(cells:List AA)(r:Nat):List C:=[.int .i64 (MW q (Ha AL cells r)),.int .i64 (N1 q (Ha AL cells r))]
def W5 (q:Int)(AL:Nat)(cells:List AA)(AG:Nat):List (List C):=(List.range AG).map (rf q AL cells)
theorem AUH (cells B:List AA)(Z:List C)(AL AG:Nat)(q:Int)(h:aZ q AL AG cells)(A0:B.length=cells.length)(z : ∀i,(A4 B i).h=(A4 cells i).h/\(A4 B i).d=(A4 cells i).d):AY AF 321 [.own 0 0 cells.length 11,.c (.int .i64 (AL:Int)),.c (.int .i64 q)] 41 (EN B Z) (EN B Z) (.c (.sl (W5 q AL cells AG))):=by
 obtain⟨hn,HL,GM,HP,KY,rC,NT,Ws⟩:=id h;obtain⟨N,hN⟩:=AI cells.length;rw[hN]at hn KY A0 ⊢;have G9:AG<=256:=by have:AG*1<=AG*AL:=mj _ HL;omega
 obtain⟨A,K⟩:=AI (EN B Z);have KV:N*11<=A.length:=by rw[<-K,bC,A0];omega
 have Rc : ∀n,V.BI n A=true:=λn=>by rw[<-K];exact RQ n _ _
 have B2:V.Dj 0 A=some A:=by rw[<-K];exact bE 0 _ _
 have A7 : ∀i,i<N->A[i*11+4]?=some (.c (.int .i64 (A4 cells i).h)):=λi hi=>by
  rw[<-K,iO (wQ (by omega)) (by omega),<-(z i).1];exact AYI _
 have A6 : ∀i,i<N->A[i*11+5]?=some (.c (.int .i64 (A4 cells i).d)):=λi hi=>by
  rw[<-K,iO (wQ (by omega)) (by omega),<-(z i).2];exact AYJ _
 rw[K];obtain⟨l,hl,hv⟩:=kO (p:=λj=>j<N/\∃r,r<AG/\j=r*AL) 0 AL AG λk Q=>by
  have h1:k*AL+AL<=AG*AL:=by rw[<-uc];exact Vj _ Q
  refine⟨by rw[aO];omega,k,Q,by rw[Cz,aO]⟩
 have dG:=pk (λy : { j:Nat // j<N/\∃r,r<AG/\j=r*AL }=>((y.val:Nat):Int)) l 0 (N:Int) (AL:Int) (by omega) (by omega) (by omega) (by omega) (by omega) (λk y G=>by have:=hv k y G;rw[this];push_cast;rfl) (λy _=>by have:=y.2.1;omega) (by
  rw[hl];have e:(N:Int)=(AG:Int)*(AL:Int):=by rw[hn];push_cast;rfl
  rw[e,fu];omega)
 obtain⟨H,A1⟩:∃H : { j:Nat // j<N/\∃r,r<AG/\j=r*AL }->List C,H=λy=>rf q AL cells (y.val / AL):=⟨_,rfl⟩
 have Rw:l.map H=W5 q AL cells AG:=by
  rw[A1];unfold W5;apply UB;simp[hl];intro i h1 h2;rw[Ch]at h1;rw[mW,mW,List.getElem_range];have M:l[i]?=some l[i]:=BE h1;rw[hv _ _ M,Cz,Nat.mul_div_cancel_left _ HL]
 refine AY.intro func321 rfl ?_;simp only[ntmps321,Ap,BB,BA,BO,Nat.reduceAdd,Nat.reduceSub,BY,Cy,BK,BU];refine Ah ?_;refine BZ (iw 0 (N:Int) (AL:Int)) gN ?_;refine Ah ?_;refine AW.le (Le.T4 4 0 306 2 rfl rfl) ?_;simp only[BA,BO,Nat.reduceAdd,Ag,Ai,BK,BU];refine AW.AXa (α:={ j:Nat // j<N/\∃r,r<AG/\j=r*AL }) rfl rfl rfl (caps:=[.cp [.int .i64 0] 0,.cp [.int .i64 (N:Int)] 0,.cp [.int .i64 (AL:Int)] 0]) rfl rfl gQ (by kernel_rfl) (by kernel_rfl) (λy=>.int .i64 ((y.val:Nat):Int)) (λy=>.c (.int .i64 ((y.val:Nat):Int))) ?_ (λJ=>J=l) l.length dG
  (λpre=>[O.box 41 A false,O.box 38 [.own 0 0 N 11] false,O.box 3 [.c (.int .i64 (AL:Int))] false,O.box 3 [.c (.int .i64 q)] false,O.box 303 [.gr 5 2 (pre.map H)] false,O.tok 306 2 (pre.map H).length]) ?_ 6 (λ_=>rfl) (by simp) ?_ ?_
 intro x' W y;simp only[CV,Ab];exact⟨trivial,Q8 (by have:=y.2.1;unfold maxLen;omega)⟩;simp;rintro lp pre y kD;obtain⟨r,hr,A2⟩:=y.2.2;have B0:r*AL+AL<=AG*AL:=by rw[<-uc];exact Vj _ hr
 have A3:H y=rf q AL cells r:=by rw[A1];simp only;rw[A2,AM0 _ HL]
 simp only[Fm,Ap,BB,A3];obtain⟨R,hR⟩:=AI (pre.map H);have Md:R.length<AG:=by rw[<-hR,Ch];omega
 rw[hR,A2];obtain⟨I,hI⟩:=AI (r*AL);rw[hI]at B0 ⊢;have hw:AZ.wrap ((I:Int)+(AL:Int))=(I:Int)+(AL:Int):=Ac;obtain⟨E,EX,IK⟩:=kO (p:=λj=>j<N) I 1 AL λk Q=>by omega
 have A5:=pk (λy : { j:Nat // j<N }=>((y.val:Nat):Int)) E (I:Int) ((I:Int)+(AL:Int)) 1 (by omega) (by omega) (by omega) (by omega) (by omega) (λk y G=>by have:=IK k y G;rw[this];push_cast;rfl) (λy G=>by
  obtain⟨k,Q⟩:=uO G;have h1:=IK k y Q;have h2:=(Br.1 Q).1;omega) (by rw[EX];omega)
 obtain⟨fH,fD⟩:=ANV (λy : { j:Nat // j<N }=>y.val) (r:=r) q cells E (λy _=>by rw[hN];exact y.2) EX (λk y G=>by rw[IK k y G,hI,gE]);refine HZ.block (HZ.seq (HZ.of ?_));refine Ah ?_;refine HZ.seq (HZ.seq (HZ.of ?_));refine go @hw ?_;refine BZ (iw (I:Int) ((I:Int)+(AL:Int)) 1) gN ?_;refine Ah ?_;refine HZ.le (Le.T4 6 0 3 1 rfl rfl) ?_;simp only[BA,BO,Nat.reduceAdd,Ag,Ai,BK,BU];refine HZ.le (Le.T4 7 0 3 1 rfl rfl) ?_;simp only[BA,BO,Nat.reduceAdd,Ag,Ai,BK,BU];refine HZ.block (HZ.range (α:={ j:Nat // j<N }) rfl rfl rfl (caps:=[.cp [.int .i64 (I:Int)] 0,.cp [.int .i64 ((I:Int)+(AL:Int))] 0,.cp [.int .i64 1] 0]) rfl rfl gQ (by kernel_rfl) (by kernel_rfl) (λy=>.int .i64 ((y.val:Nat):Int)) (λy=>.c (.int .i64 ((y.val:Nat):Int))) ?_ (λJ=>J=E) E.length A5
  (λpre=>[O.box 41 A false,O.box 38 [.own 0 0 N 11] false,O.box 3 [.c (.int .i64 (AL:Int))] false,O.box 3 [.c (.int .i64 q)] false,O.box 303 [.gr 5 2 R] false,O.tok 306 2 R.length,O.box 39 [.gr 8 1 ((pre.map λi=>(A4 cells i.val).h).map λn=>[C.int .i64 n])] false,O.box 39 [.gr 9 1 ((pre.map λi=>(A4 cells i.val).d).map λn=>[C.int .i64 n])] false,O.tok 3 1 ((pre.map λi=>(A4 cells i.val).h).map λn=>[C.int .i64 n]).length,O.tok 3 1 ((pre.map λi=>(A4 cells i.val).d).map λn=>[C.int .i64 n]).length]) ?_ 10 (λ_=>rfl) (by simp) ?_ ?_)
 intro x' W y;simp only[CV,Ab];exact⟨trivial,Q8 (by have:=y.2;unfold maxLen;omega)⟩;simp;rintro B7 U F B1;have Lv:=F.2;have M:=A7 F.val Lv;have Ei:=gx M;have hd:=A6 F.val Lv;have Uw:=gx hd;have Dz:F.val*11+4<A.length:=by omega
 have S:F.val*11+5<A.length:=by omega
 obtain⟨hh,Yp⟩:=AI ((A4 cells F.val).h);obtain⟨dd,IH⟩:=AI ((A4 cells F.val).d);rw[Yp]at M Ei;rw[IH]at hd Uw;simp only[Fm,Ap,BB,Yp,IH];obtain⟨H1,WT⟩:=AI (((U.map λi=>(A4 cells i.val).h).map λn=>[C.int .i64 n]));obtain⟨D1,qG⟩:=AI (((U.map λi=>(A4 cells i.val).d).map λn=>[C.int .i64 n]));have B3:H1.length<AL:=by rw[<-WT];simp;omega
 have Im:D1.length<AL:=by rw[<-qG];simp;omega
 rw[WT,qG];have Ew:H1.length+1<=maxLen:=by unfold maxLen;omega
 have FP:(H1.length+1)*8<=140737488355328:=by omega
 have GO:D1.length+1<=maxLen:=by unfold maxLen;omega
 have A9:(D1.length+1)*8<=140737488355328:=by omega
 generalize PW:F.val=yv at Lv M Ei hd Uw Dz S ⊢;refine go (cj9 @Lv @M @Ei @hd @Uw @Dz @S @Ew @FP<|cj @GO @A9) ?_;refine⟨rfl,_,Le.hide 10 (F2 rfl) ?_ ?_⟩;simp;simp[O.A8,V.BI,V.A8,Rc];rintro J o;rw[o];clear o J;have g1:=xh (AU q 70) (E.map λi=>(A4 cells i.val).h) (by simp;omega);have g2:=xh (AU q 30) (E.map λi=>(A4 cells i.val).d) (by simp;omega);rw[fH]at g1;rw[fD]at g2;unfold AV at g1 g2;obtain⟨H1,WT⟩:=AI (((E.map λi=>(A4 cells i.val).h).map λn=>[C.int .i64 n]));obtain⟨D1,qG⟩:=AI (((E.map λi=>(A4 cells i.val).d).map λn=>[C.int .i64 n]));rw[WT]at g1 ⊢;rw[qG]at g2 ⊢;have Ew:R.length+1<=maxLen:=by unfold maxLen;omega
 have FP:(R.length+1)*16<=140737488355328:=by omega
 refine MV (G3 (HZ.of ?_));refine Ah ?_;refine BZ (EI q 70) JA ?_;refine BZ (g1) uv ?_;refine BZ (EI q 30) JA ?_;refine gc (cj @Ew<|@FP) (g2) uv ?_;refine Ah ?_;refine⟨rfl,_,Le.hide 6 (F2 rfl) ?_ ?_⟩;simp[rf];simp[O.A8,V.BI,V.A8,Rc]
 . rintro J o;rw[o,Rw];clear o J;refine Ah ?_;all_goals simp[GI,DV,C0,DE,V.CP,V.CF,CJ,results321, *]
theorem ABT {x:Af}(B:x.Ok){s:Aa}(hs:s.ok=true):x.Al s<=1073741824:=by
 obtain⟨F,E⟩:=HE B.val hs;exact(DM x.f.params.Al (by omega:0<=BS x.f.params s) E).2
theorem wk : ∀(AG:List (List C)) (Z:List C) (es:Nat),(∀r∈AG,r.length=es)->Hc es AG.length (AG.flatten++Z)=AG
 | [],_,_,_=>rfl
 | r::AG,Z,es,h=>by
   have E:=h r GH;rw[BA,List.flatten_cons,GX];unfold Hc;rw[List.take_append_of_le_length (by omega),List.drop_append_of_le_length (by omega),Gl (by omega),FA (by omega),BU,wk AG Z es λq B=>h q (Gk _ B)]
theorem AD2 :toCs (EN l Z)=some ((AA.AG l).flatten++Z):=toCs_mapC _
theorem wM (row:List C)(l:List AA)(Z:List C):V.Cs k row (EN l Z)=EN l Z:=YN k row _
theorem ANU {q:Int}(R:0<=q)(Q:q<=1073741824){l:List AA}(M : ∀b∈l,b.Ad=true):(-1073741824<=MW q l/\MW q l<=1073741824)/\ -1073741824<=N1 q l/\N1 q l<=1073741824:=by
 have key : ∀(g:AA->Int) (l:List AA) (a:Int),-1073741824<=a->a<=1073741824->(∀b∈l,-1073741824<=g b/\g b<=1073741824)-> -1073741824<=l.foldl (λh b=>mx h (g b)) a/\l.foldl (λh b=>mx h (g b)) a<=1073741824:=by
  intro g l;induction l with
  | nil=>intro a F E _;exact⟨F,E⟩
  | cons b l ih =>
    intro a F E B;have NO:=B b GH;rw[Bw];refine ih _ ?_ ?_ λc K=>B c (Gk _ K)
    unfold mx;split<;>omega;unfold mx;split<;>omega
 have H:=DM q (by omega:(0:Int)<=70) (by omega);have I:=DM q (by omega:(0:Int)<=30) (by omega);have G : ∀b∈l,(-1073741824<=b.h/\b.h<=1073741824)/\ -1073741824<=b.d/\b.d<=1073741824:=λb B=>by
  obtain⟨_,E,J,_⟩:=D3 (M b B);exact⟨E,J⟩
 exact⟨key AA.h l _ H.1 H.2 λb B=>(G b B).1,key AA.d l _ I.1 I.2 λb B=>(G b B).2⟩
structure Cells (x:Af)(s:Aa)(AL AG:Nat)(cells:List AA):Prop where
 ar:aZ (x.Al s) AL AG cells
 v : ∀b∈cells,b.Ad=true
 c:AA.Az cells<=900000
section
variable {x:Af} {s:Aa} {AL AG:Nat} {cells:List AA}
theorem Cells.line (B:x.Ok)(hs:s.ok=true)(h:Cells x s AL AG cells)(r:Nat):(-1073741824<=MW (x.Al s) (Ha AL cells r)/\MW (x.Al s) (Ha AL cells r)<=1073741824)/\ -1073741824<=N1 (x.Al s) (Ha AL cells r)/\N1 (x.Al s) (Ha AL cells r)<=1073741824:=
 ANU (VN B hs) (ABT B hs) λb E=>h.v b (uS (List.mem_of_mem_take E))
theorem Cells.NI (B:x.Ok)(hs:s.ok=true)(h:Cells x s AL AG cells):∀r:Nat,-2147483648*(r:Int)<=NI (x.Al s) AL cells r/\NI (x.Al s) AL cells r<=2147483648*(r:Int)
 | 0=>by simp[Go.Proofs.YtlpomcliejmedaaGreat.NI]
 | r+1=>by
   have E:=h.NI B hs r;have F:=h.line B hs r;simp only[Go.Proofs.YtlpomcliejmedaaGreat.NI,oh];push_cast
   omega
end
theorem ANT (q:Int)(AL:Nat)(cells:List AA)(c:Nat)(i:Nat):(A4 (Gn q AL cells c) i).h=(A4 cells i).h/\(A4 (Gn q AL cells c) i).d=(A4 cells i).d:=by
 unfold A4 Gn;rw[Bv,Bv,fQ];cases cells[i]? with
 | none=>exact⟨rfl,rfl⟩
 | some b=>simp only[Nu,Option.getD_some];split<;>exact⟨rfl,rfl⟩
theorem AXN (y:Int):({ b with y:=y }:AA).row=b.row.set 7 (.int .i64 y):=by cases b;rfl
theorem AUG {q:Int}{AL:Nat}{cells:List AA}{AG k:Nat}(h:k<AG):(W5 q AL cells AG)[k]?=some [.int .i64 (MW q (Ha AL cells k)),.int .i64 (N1 q (Ha AL cells k))]:=by
 unfold W5;rw[CM,List.getElem?_range h];rfl
theorem AD3 (q:Int)(AL:Nat)(cells:List AA)(B:Int):∀(l:List AA) (i:Nat),(∀b∈l,b.Ad=true)->AA.JH (Ox q AL cells B i l)/\AA.FY (Ox q AL cells B i l)/\AA.Az (Ox q AL cells B i l)=AA.Az l
 | [],_,_=>⟨trivial,trivial,rfl⟩
 | b::l,i,h=>by
   obtain⟨F,G,H⟩:=AD3 q AL cells B l (i+1) λc I=>h c (Gk _ I)
   have E:=h b GH;have J:=GD E;have K:=kj E;simp only[Ox];refine⟨⟨?_,F⟩,⟨F4 _ _ K,G⟩,?_⟩;unfold wN;cases b;exact J;simp only[AA.Az,H];congr 1
   exact Hb _ _ _
theorem AWe (AL AG:Nat)(cells:List AA)(hx:x.Ok)(hs:s.ok=true)(h:Cells x s AL AG cells):AC AF 264 [.agg x.f.vs,Aj s,.c (.int .i64 (AL:Int)),.c (.sl (AA.AG cells))] (Ba (N2 x.f s AL cells)):=by
 obtain⟨hn,HL,GM,HP,KY,rC,NT,Ws⟩:=h.ar;have zR:=h.line hx hs;have yg:=h.NI hx hs;have Jg:=LI x.f s;rw[show IT x.f s=(x.sz s,0)from if_neg (by simp[hs,hx.val])]at Jg;obtain⟨p1,p2⟩:=HE hx.val hs;have A2:=EI x.f.params.Al (x.sz s);have D1:=EI x.f.params.FD (x.sz s);have zo:AU x.f.params.Al (x.sz s)=x.Al s:=rfl;have I8:=DM x.f.params.FD (by omega:0<=BS x.f.params s) p2;have QM:=DM (x.Al s) (by omega:(0:Int)<=20) (by omega);have K9:=AE0 cells;have A6:=AUH cells (Gn (x.Al s) AL cells AL);have cL:1<=cells.length:=by rw[hn];exact Nat.le_trans HP (Nat.le_mul_of_pos_right _ HL)
 have R:cells.length / AL=AG:=by rw[hn];exact AM0 _ HL
 have Bh:N2 x.f s AL cells=if An (Oy (x.Al s) AL cells AG)=false then(AA.zero,6)else C8 (oe (x.Al s) (AU x.f.params.FD (x.sz s)) AL cells):=by
  unfold N2;rw[R];rfl
 have B3:oe (x.Al s) (AU x.f.params.FD (x.sz s)) AL cells=Bf (Ig (x.Al s) AL cells (AL - 1)+Lh AL cells (AL - 1)) (AU x.f.params.FD (x.sz s)+Bm (Oy (x.Al s) AL cells AG)) (Oy (x.Al s) AL cells AG - (AU x.f.params.FD (x.sz s)+Bm (Oy (x.Al s) AL cells AG))) (Ox (x.Al s) AL cells (AU x.f.params.FD (x.sz s)+Bm (Oy (x.Al s) AL cells AG)) 0 cells):=by
  unfold oe;rw[R]
 rw[zo]at A2;rw[Bh,B3];obtain⟨q,hq⟩:=AI (x.Al s);obtain⟨AX,vE⟩:=AI (AU x.f.params.FD (x.sz s));have L1 : -1073741824<=AX/\AX<=1073741824:=by rw[<-vE];exact I8
 have CZ:=h.ar;rw[hq]at A2 zR yg QM A6 CZ rC NT ⊢;rw[vE]at D1 ⊢;have F7:=AE0 cells;have o : ∀k,k<cells.length->(A4 cells k).Ad=true:=λk hk=>h.v _ (bK hk)
 have LB:=AD3 q AL cells (AX+Bm (Oy q AL cells AG)) cells 0 h.v;have L4:=h.c;obtain⟨N,hN⟩:=AI cells.length;have DK : ∀c,(Gn q AL cells c).length=N:=λc=>by unfold Gn;rw[Xd,hN]
 obtain⟨rs,Aw⟩:=AI (AA.AG cells);have Av:rs.length=N:=by rw[<-Aw,GA,hN]
 have Tb : ∀r∈rs,r.length=11:=by rw[<-Aw];exact VR
 have D0 : ∀k,k<N->rs[k]?=some (A4 cells k).row:=λk hk=>by rw[<-Aw,lF,CM,wQ (by omega)];rfl
 have H3:rs≠[]:=by intro e;rw[e]at Av;simp at Av;omega
 rw[hN]at hn KY cL R o;have G9:AG<=256:=by have:AG*1<=AG*AL:=mj _ HL;omega
 have J3 : ¬(AL:Int)<1:=by omega
 have J4 : ¬16<(AL:Int):=by omega
 have J5 : ¬(N:Int)<1:=by omega
 have J7 : ¬256<(N:Int):=by omega
 have J8 : ¬(AL:Int)=0:=by omega
 have J9:(N:Int).tmod (AL:Int)=0:=by
  rw[hn];push_cast
  exact Int.mul_tmod_left _ _
 rw[Aw];unfold Aj at Jg ⊢;simp only[AR]at Jg;refine en func264 ntmps264 ?_;refine wy (cj @Av<|Ny) (cj Jg<|trivial) ⟨?_⟩;refine lp (ι:={ k:Nat // k<=N }) (λk=>[(40,.c (.int .i64 (k.1:Int)))]) (λ_=>[O.box 27 x.f.vs false,O.box 63 [.c (.int .i64 s.By),.c (.bool s.Hd)] false,O.box 41 BT false]) (λk=>N - k.1) ⟨0,CI _⟩ ?_ ?_;all_goals simp only[puts,Bw,CO,Ag,Ai]
 exact ER @BT.eq_1
 . rintro ⟨k,hk⟩;simp only;by_cases M:k<N;have G8:k<rs.length:=by omega
   have S:=D0 k M;have Ei:=gx S;have CA:=EL _ (kj (o k M)) (by have:=ik (o k M);omega);rw[o k M]at CA;have hw:AZ.wrap ((k:Int)+1)=((k+1:Nat):Int):=by rw[Ac];push_cast;rfl
   generalize CT:A4 cells k=b at S Ei CA;simp only[As]at CA;refine wy (cj6 @Av @M @G8 @S @Ei @hw Ny) (cj CA<|trivial) ⟨?_⟩;refine⟨⟨k+1,by omega⟩,by first|omega|(simp only;omega),?_⟩;refine Le.MI 3 (F2 rfl) (by simp[DG,BT]) (by simp[BT]) (by simp[V.BI,V.A8]) (by simp[O.A8,V.BI,V.A8,BT])
   . obtain rfl:k=N:=by omega
     clear D0 o;refine wu (.mk 14) (cj8 @Av @M @J3 @J4 @J5 @J7 @J8 @J9 Ny) (cj A2<|cj (EI q 20)<|trivial) ⟨?_⟩;refine AW.DA ?_;refine CY (.mk 1) trivial ?_;refine SW.OU (λv t=>∃m:Nat,v=.own 3 0 rs.length 11/\t=some (3,.box 41 ((rs.flatten++(Aq m AA.zero.row).flatten).map V.c) false)) rfl (λS0 w0 y w a g ht hd=>?_) ?_;exact AIt (t:=38) (Ae:=41) (Bq:=128) (zs:=BT) g rfl (by simp) (by simp[BT]) (by rfl) (by omega) Tb (CW ht (.const (.slice none 0 0))) (CW ht (.tmp 80)) H3 (by omega) (by decide) 3 hd;rintro v t ⟨mz,rfl,rfl⟩;obtain⟨Z,hZ⟩:=AI ((Aq mz AA.zero.row).flatten);have Yk:(rs.flatten++Z).map V.c=EN cells Z:=by rw[<-Aw];rfl
     rw[hZ,Yk,Av];simp only[St.step,St.put,Bk,BA,BO,Nat.reduceAdd,Nat.lt_irrefl,if_false,Ai,Ag,BK,BU];refine CY (.mk 2) trivial ?_;refine SW.nil ?_;have A7:=F7 Z AL AG q CZ;have A9:=A6 Z AL AG q CZ (by rw[DK,hN]) (λi=>ANT q AL cells AL i);rw[hN]at A7 A9;refine wu (.mk 15) Ny trivial ⟨?_⟩;refine AW.DA ?_;refine CY (.mk 3) trivial ?_;refine SW.AEf 3 A7 func320 (by kernel_rfl) (by kernel_rfl) (by simp[BQ]) (by simp[C7];first|exact rfl|exact⟨rfl,rfl⟩) (by simp[V.Zp,V.ky,V.Di]) rfl (bE 3 _ _) (bE 3 _ _) (AD1 _ _) ?_;simp only[St.step,St.put,Bk,BA,BO,Nat.reduceAdd,Nat.reduceLT,if_true,Ai,Ag];refine CY (.mk 5) trivial ?_;refine SW.nil ?_;refine wu (.mk 16) Ny trivial ⟨?_⟩;refine AW.DA ?_;refine CY (.mk 3) trivial ?_;refine SW.AEf 3 A9 func321 (by kernel_rfl) (by kernel_rfl) (by simp[BQ]) (by simp[C7];first|exact rfl|exact⟨rfl,rfl⟩) (by simp[V.Zp,V.ky,V.Di]) rfl (bE 3 _ _) (bE 3 _ _) (AD1 _ _) ?_;simp only[St.step,St.put,Bk,BA,BO,Nat.reduceAdd,Nat.reduceLT,if_true,Ai,Ag];refine CY (.mk 1) trivial ?_;refine SW.nil ?_;have zQ : ∀k,k<AG->(W5 q AL cells AG)[k]?=some [.int .i64 (MW q (Ha AL cells k)),.int .i64 (N1 q (Ha AL cells k))]:=λk hk=>AUG hk
     obtain⟨LC,jP⟩:=AI (W5 q AL cells AG);have Io:LC.length=AG:=by rw[<-jP];simp[W5]
     rw[jP]at zQ ⊢;obtain⟨G,hG⟩:=AI (AU q 20);rw[hG]at QM ⊢;have xw : ∀k:Nat,k<=256-> -274877906944<=(k:Int)*G/\(k:Int)*G<=274877906944:=λk hk=>by
      have h1:(k:Int)*G<=(k:Int)*1073741824:=aF QM.2 (by omega);have h2:(k:Int)*(-1073741824)<=(k:Int)*G:=aF QM.1 (by omega);omega
     have EK:AZ.wrap ((AG:Int) - 1)=(AG:Int) - 1:=Ac;have I1:AZ.wrap (((AG:Int) - 1)*G)=((AG:Int) - 1)*G:=by
      have:=xw (AG - 1) (by omega);rw[show ((AG - 1:Nat):Int)=(AG:Int) - 1 by omega]at this;exact Ac
     refine wy (cj3 @Io @EK @I1 Ny) trivial ⟨?_⟩;generalize L2:Ig q AL cells (AL - 1)+Lh AL cells (AL - 1)=W9;clear Bh B3;obtain⟨T,hT⟩:∃T:Nat->Int,T=λr=>((AG:Int) - 1)*G+NI q AL cells r:=⟨_,rfl⟩
     have qT:((AG:Int) - 1)*G=T 0:=by rw[hT];simp[NI]
     have G5 : ∀r,T (r+1)=T r+(MW q (Ha AL cells r)+N1 q (Ha AL cells r)):=λr=>by rw[hT];simp only[NI,oh];omega
     have B1 : ∀r:Nat,r<=256-> -1099511627776<=T r/\T r<=1099511627776:=λr hr=>by
      have h1:=yg r;have h2:=xw (AG - 1) (by omega);rw[show ((AG - 1:Nat):Int)=(AG:Int) - 1 by omega]at h2;rw[hT];simp only;omega
     have B2:Oy q AL cells AG=T AG:=by rw[hT];unfold Oy;rw[hG]
     rw[B2];rw[qT];refine lp (ι:={ r:Nat // r<=AG }) (λr=>[(20,.c (.int .i64 (T r.1))),(100,.c (.int .i64 (r.1:Int)))]) (λ_=>[O.box 27 x.f.vs false,O.box 63 [.c (.int .i64 s.By),.c (.bool s.Hd)] false,O.box 41 BT false,O.box 41 (EN (Gn q AL cells AL) Z) false,O.box 38 [.own 3 0 k 11] false]) (λr=>AG - r.1) ⟨0,CI _⟩ ?_ ?_;all_goals simp only[puts,Bw,CO,Ag,Ai]
     exact ER @BT.eq_1
     . rintro ⟨r,hr⟩;simp only;by_cases Dp:r<AG;have S:=zQ r Dp;have Ei:=gx S;have H4:r<LC.length:=by omega
       have JN:=zR r;have Td:=B1 r (by omega);have FK:=G5 r;obtain⟨F,Yp⟩:=AI (MW q (Ha AL cells r));obtain⟨J,IH⟩:=AI (N1 q (Ha AL cells r));rw[Yp,IH]at S Ei JN FK;have A3:AZ.wrap (F+J)=F+J:=Ac;have dN:AZ.wrap (T r+(F+J))=T r+(F+J):=Ac;have zy:AZ.wrap ((r:Int)+1)=((r+1:Nat):Int):=by rw[Ac];push_cast;rfl
       generalize L6:T r=tr at dN FK ⊢;refine wy (cj8 @Io @Dp @H4 @S @Ei @A3 @dN @zy Ny) trivial ⟨?_⟩;refine⟨⟨r+1,by omega⟩,by first|omega|(simp only;omega),?_⟩;simp only[FK];refine Le.MI 5 (F2 rfl) (by simp[DG,BT,RQ]) (by simp[BT,RQ]) (by simp[V.BI,V.A8]) (by simp[O.A8,V.BI,V.A8,BT,RQ])
       . obtain rfl:r=AG:=by omega
         have H5:=B1 r (by omega);have E2 : ∀n:Nat,n<=r-> -1099511627776<=N3 q AL cells n/\N3 q AL cells n<=1099511627776:=λn hn=>by
          have h1:=yg n;have h2:=xw n (by omega);unfold N3;rw[hG];omega
         obtain⟨H,PG⟩:=AI (T r);rw[B2,PG]at LB;rw[PG]at H5 ⊢;have G7:=Ng H;cases A1:An H with
         | false=>rw[A1]at G7;rw[if_pos rfl];have hz:=Fl;unfold Ba;simp only[As,AR,hz];refine wy (cj2 @Io @BT.eq_1 Ny) (cj G7<|trivial) ⟨?_⟩;exact At Ny
         | true =>
           rw[A1]at G7;rw[if_neg (by simp)];have qh:=Ke H;have L5:=J6 H;have D2:AZ.wrap (AX+Bm H)=AX+Bm H:=Ac;obtain⟨E,B0⟩:=AI (AX+Bm H);have L0 : -2147483648<=E/\E<=2147483648:=by omega
           rw[B0]at D2 LB ⊢;refine wy (cj2 @Io @D2 Ny) (cj3 G7 D1 qh trivial) ⟨?_⟩;simp only[B0];have kK:E=E - N3 q AL cells 0:=by simp[N3,NI]
           have E0:Gn q AL cells AL=P3 q AL cells E 0:=by
            unfold P3;rw[ALq];intro i _;simp
           rw[E0];have e5:O.box 3 [.c (.int .i64 E)] false=O.box 3 [.c (.int .i64 (E - N3 q AL cells 0))] false:=by rw[<-kK]
           rw[e5];clear e5 kK;have E1 : ∀n,(P3 q AL cells E n).length=k:=λn=>by unfold P3;rw[Xd,DK]
           refine lp (ι:={ n:Nat // n<=r }) (λn=>[(131,.c (.int .i64 (n.1:Int)))]) (λn=>[O.box 27 x.f.vs false,O.box 63 [.c (.int .i64 s.By),.c (.bool s.Hd)] false,O.box 41 BT false,O.box 41 (EN (P3 q AL cells E n.1) Z) false,O.box 38 [.own 3 0 k 11] false,O.box 3 [.c (.int .i64 (E - N3 q AL cells n.1))] false]) (λn=>r - n.1) ⟨0,CI _⟩ ?_ ?_;all_goals simp only[puts,Bw,CO,Ag,Ai]
           exact ER @BT.eq_1;rintro ⟨n,zd⟩;simp only;by_cases qm:n<r;have S:=zQ n qm;have Ei:=gx S;have H1:n<LC.length:=by omega
           have JN:=zR n;have rO:=E2 n (by omega);have rP:N3 q AL cells (n+1)=N3 q AL cells n+(MW q (Ha AL cells n)+N1 q (Ha AL cells n))+G:=by
            unfold N3;simp only[NI,oh,hG];push_cast
            rw[Int.add_mul];omega
           have CB:n*AL+AL<=r*AL:=by rw[<-uc];exact Vj _ qm
           obtain⟨I,hI⟩:=AI (n*AL);have G2:(n+1)*AL=I+AL:=by rw[uc,hI]
           rw[hI]at CB;have Ew:AZ.wrap ((n:Int)*(AL:Int))=(I:Int):=by
            have:(n:Int)*(AL:Int)=(I:Int):=by rw[<-hI];push_cast;rfl
            rw[this];exact Ac
           have FP:AZ.wrap ((n:Int)+1)=(n:Int)+1:=Ac;have GO:AZ.wrap (((n:Int)+1)*(AL:Int))=(I:Int)+(AL:Int):=by
            have:((n:Int)+1)*(AL:Int)=(I:Int)+(AL:Int):=by have:=congrArg (λn:Nat=>(n:Int)) G2;push_cast at this;exact this
            rw[this];exact Ac
           have IH : ∀j,j<AL->(I+j) / AL=n:=λj hj=>by rw[<-hI,aO,Nat.mul_add_div HL,Nat.div_eq_of_lt hj,M8]
           obtain⟨l,hl,o⟩:=kO (p:=λj=>j<k/\j / AL=n) I 1 AL λj hj=>by rw[gE];exact⟨by omega,IH j hj⟩
           have dG:=pk (λy : { j:Nat // j<k/\j / AL=n }=>((y.val:Nat):Int)) l (I:Int) ((I:Int)+(AL:Int)) 1 (by omega) (by omega) (by omega) (by omega) (by omega) (λj y hy=>by have:=o j y hy;rw[this];push_cast;rfl) (λy hy=>by
            obtain⟨j,hj⟩:=uO hy;have h1:=o j y hj;have h2:=(Br.1 hj).1;omega) (by rw[hl];omega)
           have yJ:P3 q AL cells E n=Ho (λj=>decide (j / AL<n) || ([]:List { j:Nat // j<k/\j / AL=n }).any λz=>decide (j=z.val)) (V1 q AL cells E) (Gn q AL cells AL):=by
            unfold P3;simp
           have yz:Ho (λj=>decide (j / AL<n) || l.any λz=>decide (j=z.val)) (V1 q AL cells E) (Gn q AL cells AL)=P3 q AL cells E (n+1):=by
            unfold P3;refine ALp λi hi=>?_
            rw[DK]at hi;have key:(l.any λz=>decide (i=z.val))=decide (i / AL=n):=by
             rw[Oj,aH,decide_eq_true_eq];constructor;rintro ⟨z,_,hz⟩;rw[decide_eq_true_eq]at hz;rw[hz];exact z.2.2;intro hm;have EG:i % AL<l.length:=by rw[hl];exact mh _ HL
             refine⟨l[i % AL],Kq EG,?_⟩;rw[decide_eq_true_eq,o _ _ (BE EG),gE,<-hI,<-hm];exact(Nat.div_add_mod' i AL).symm
            rw[key,Oj];simp only[T9,decide_eq_true_eq];omega
           obtain⟨F,Yp⟩:=AI (MW q (Ha AL cells n));obtain⟨J,E3⟩:=AI (N1 q (Ha AL cells n));rw[Yp,E3]at S Ei JN rP;obtain⟨Y,hY⟩:=AI (E - N3 q AL cells n);have G6:E - N3 q AL cells (n+1)=Y - (F+J+G):=by rw[rP];omega
           have L3 : -1200000000000<=Y/\Y<=1200000000000:=by omega
           have A3:AZ.wrap (F+J)=F+J:=Ac;have dN:AZ.wrap (F+J+G)=F+J+G:=Ac;have zy:AZ.wrap (Y - (F+J+G))=Y - (F+J+G):=Ac;have I2:AZ.wrap (Y - F)=Y - F:=Ac;obtain⟨A0,Gr⟩:=AI (EN (P3 q AL cells E n) Z);rw[hY,Gr];refine go (cj7 @Io @qm @H1 @S @Ei @Ew @FP @GO) ?_;refine BZ (iw (I:Int) ((I:Int)+(AL:Int)) 1) gN ?_;refine Ah ?_;refine AW.range (α:={ j:Nat // j<k/\j / AL=n }) rfl rfl rfl (caps:=[.cp [.int .i64 (I:Int)] 0,.cp [.int .i64 ((I:Int)+(AL:Int))] 0,.cp [.int .i64 1] 0]) rfl rfl gQ (by kernel_rfl) (by kernel_rfl) (λy=>.int .i64 ((y.val:Nat):Int)) (λy=>.c (.int .i64 ((y.val:Nat):Int))) ?_ (λxs=>xs=l) l.length dG
            (λpre=>[O.box 27 x.f.vs false,O.box 63 [.c (.int .i64 s.By),.c (.bool s.Hd)] false,O.box 41 BT false,O.box 41 (EN (Ho (λj=>decide (j / AL<n) || pre.any λz=>decide (j=z.val)) (V1 q AL cells E) (Gn q AL cells AL)) Z) false,O.box 38 [.own 3 0 k 11] false,O.box 3 [.c (.int .i64 Y)] false,O.box 306 [.c (.int .i64 F),.c (.int .i64 J)] false]) ?_ 7 (λ_=>rfl) (by simp) ?_ ?_
           intro x' W y;simp only[CV,Ab];exact⟨trivial,Q8 (by have:=y.2.1;unfold maxLen;omega)⟩;rw[<-Gr,yJ];rintro lp pre y kD;have Lv:=y.2.1;have Wv:y.val<(Gn q AL cells AL).length:=by rw[DK];exact Lv
           have U:=ALr (λy : { j:Nat // j<k/\j / AL=n }=>y.val) (λj=>decide (j / AL<n)) (V1 q AL cells E) (Gn q AL cells AL) pre y Wv;obtain⟨Q,hQ⟩:=AI (Ho (λj=>decide (j / AL<n) || pre.any λz=>decide (j=z.val)) (V1 q AL cells E) (Gn q AL cells AL));have yO:Q.length=k:=by rw[<-hQ,Xd,DK]
           have yN : ∃B,Q[y.val]?=some B/\V1 q AL cells E y.val (Gn q AL cells AL)[y.val]={ B with y:=Y - F }:=by
            rw[<-hQ,fQ,BE Wv,Nu];refine⟨_,rfl,?_⟩;unfold V1;rw[y.2.2,Yp,hY];split<;>rfl
           obtain⟨B,Il,TK⟩:=yN;rw[hQ]at U ⊢;rw[<-U];clear U;rw[TK];have KG:=og (Z:=Z) (v:=.int .i64 (Y - F)) Il (by omega:7<11) (AXN B _);obtain⟨Q',jS⟩:∃Q',EN (Q.set y.val { B with y:=Y - F }) Z=Q':=⟨_,rfl⟩
           rw[jS]at KG ⊢;have yM : ∀n,V.BI n Q'=true:=λn=>by rw[<-jS];exact RQ n _ _
           obtain⟨A',Au⟩:∃A',EN Q Z=A':=⟨_,rfl⟩
           have K1:k*11<=A'.length:=by rw[<-Au,bC,yO];omega
           rw[Au]at KG ⊢;have A5:y.val*11+7+1<=A'.length:=by omega
           generalize PW:y.val=yv at Lv A5 KG ⊢;refine go (cj3 @Lv @A5 @KG @I2) ?_;refine⟨rfl,_,Le.hide 7 (F2 rfl) ?_ ?_⟩;simp;simp[O.A8,V.BI,V.A8,yM,BT];rintro xs NW;rw[NW,yz];clear NW xs;have I5:AZ.wrap ((n:Int)+1)=((n+1:Nat):Int):=by rw[Ac];push_cast;rfl
           refine go (cj3 @A3 @dN @zy @I5) ?_;refine⟨⟨n+1,by omega⟩,by first|omega|(simp only;omega),?_⟩;simp only[G6];refine Le.MI 6 (F2 rfl) (by simp[DG,BT,RQ]) (by simp[BT,RQ]) (by simp[V.BI,V.A8]) (by simp[O.A8,V.BI,V.A8,BT,RQ]);obtain rfl:n=r:=by omega
           have B7:=ANW q HL cells (by rw[hN,hn]) E;rw[B7];obtain⟨K,hK⟩:=AI (Ox q AL cells E 0 cells);rw[hK]at LB ⊢;have G4:K.length=k:=by rw[<-hK,<-B7,E1]
           have B8:Hc 11 k ((AA.AG K).flatten++Z)=AA.AG K:=by
            have:=wk (AA.AG K) Z 11 VR;rwa [GA,G4]at this
           obtain⟨E4,F6,K2⟩:=LB;have BD:=My W9 E (H - E) K E4 (by omega);have D8:AZ.wrap (H - E)=H - E:=Ac;have D7:(Bf W9 E (H - E) K).BX:=⟨by decide,by show (0:Nat)<=maxLen;omega,F6⟩
           have Ri:(Bf W9 E (H - E) K).cnt<=1000000:=by show 1+AA.Az K<=1000000;omega
           have Mk:=EL _ D7 Ri;generalize hB:Bf W9 E (H - E) K=B at BD Mk ⊢;simp only[As]at BD Mk;refine wu (.mk 35) (cj2 @Io @qm Ny) trivial ⟨?_⟩;refine AW.Bi 3 rfl (AD2 K Z) (by simp only[V.Cs,V.Bi,B9,B8,if_true];exact rfl) (by simp only[Ai,Ag,Ap,BB,O.Bi,wM,V.Cs,V.Bi,B9,B8,if_true,BT];exact rfl) ?_;have hz:=Fl;unfold C8 Ba;cases CA:B.Ad with
           | true=>rw[CA]at Mk;rw[if_pos rfl];simp only[As,AR];refine wy (cj2 @Io @D8 Ny) (cj2 BD Mk trivial) ⟨?_⟩;exact At Ny
           | false=>rw[CA]at Mk;rw[if_neg (by simp)];simp only[As,AR,hz];refine wy (cj2 @Io @D8 Ny) (cj2 BD Mk trivial) ⟨?_⟩;exact At Ny
theorem AXF (q:Int)(l r:Nat)(s:Aa)(o:l<8)(z:r<8):AC AF 107 [.c (.int .i64 q),.c (.int .i64 (l:Int)),.c (.int .i64 (r:Int)),Aj s] (.c (.int .i64 (Qt q l r s.By))):=by
 have hb:=AK7 l r o z;have GP:=AY7 l r o z;have B:=AXG;unfold ABu at B;obtain⟨T,W⟩:=AI ((fE.flatten.map λn=>V.c (.int .i64 n)));have G:T.length=64:=by rw[<-W];rfl
 rw[W]at GP B;obtain⟨Z,F⟩:=AI ((T.drop (l*8)).take 8);have J:Z.length=8:=by rw[<-F];simp[G];omega
 rw[F]at GP;have H:=gx GP;have K:(l:Int)<8:=by omega
 have M:(r:Int)<8:=by omega
 have Q:l*8+8<=64:=by omega
 unfold Qt VX;generalize hE:XY l r=E at hb GP H ⊢;unfold Aj;rcases Int.lt_trichotomy E 0 with h|h|h
 have R:=AJn q (-E+2) (by omega);have I : ¬ -E=0:=by omega
 rw[if_pos h];by_cases S:1<s.By;rw[if_pos S,if_pos rfl];refine en uf u5 ?_;exact wz (cj9 @K @M @Q @G @J @GP @H @F @h<|cj @S vH) (cj2 B R trivial);rw[if_neg S,if_neg I];refine en uf u5 ?_;exact wz (cj9 @K @M @Q @G @J @GP @H @F @h<|cj2 @S @I vH) (cj2 B R trivial);subst h;simp only[Int.lt_irrefl,if_false,if_true];refine en uf u5 ?_;exact wz (cj8 @K @M @Q @G @J @GP @H @F vH) (cj B<|trivial);have R:=AJn q (E+2) (by omega);have I : ¬E=0:=by omega
 have U : ¬E<0:=by omega
 rw[if_neg U,if_neg I];refine en uf u5 ?_;exact wz (cj9 @K @M @Q @G @J @GP @H @F @U<|cj @I vH) (cj2 B R trivial)
theorem ALB (q v:Int):∀(l:List Int) (p:Int),(T1 q v p l).length=l.length
 | [],_=>rfl
 | c::l,p=>by simp only[T1,BA,ALB q v l]
theorem fF (q v:Int)(l:List Int):(CC q v l).length=l.length:=by
 cases l with
 | nil=>rfl
 | cons c l=>simp only[CC,BA,ALB]
theorem AK9 (q v:Int):∀(l:List Int) (p:Int) (i:Nat) (a b:Int),(p::l)[i]?=some a->l[i]?=some b->(T1 q v p l)[i]?=some (Qt q a.toNat b.toNat v)
 | [],_,_,_,_,_,h=>by simp at h
 | c::l,p,0,a,b,B,E=>by
   simp only[List.getElem?_cons_zero,BL]at B E;subst B E;rfl
 | c::l,p,i+1,a,b,B,E=>by
   simp only[T1,JU]at B E ⊢;exact AK9 q v l c i a b B E
theorem AZB (q v:Int){l:List Int}{a b:Int}(B:l[i]?=some a)(E:l[i+1]?=some b):(CC q v l)[i+1]?=some (Qt q a.toNat b.toNat v):=by
 cases l with
 | nil=>simp at B
 | cons c l=>simp only[CC,JU]at E ⊢;exact AK9 q v l c i a b B E
theorem AZD (q v:Int)(l:List Int):(CC q v l).take 1++Aq (l.length - 1) 0=Aq l.length 0:=by
 cases l with
 | nil=>rfl
 | cons c l=>simp[CC,BY]
theorem AZC {q v:Int}{l:List Int}{a b:Int}(B:l[i]?=some a)(E:l[i+1]?=some b):(CC q v l).take (i+1+1)=(CC q v l).take (i+1)++[Qt q a.toNat b.toNat v]:=by
 rw[List.take_add_one,AZB q v B E];rfl
theorem AOx {l:List En}(h:Ll l=true):∀e∈l,e.text.size<=maxLen:=λe B=>by
 unfold Ll at h;rw[Ak]at h;have:=xc l [] h.1 e B;simp only[En.ok,Ak,decide_eq_true_eq]at this;unfold maxLen;omega
theorem AEw : ∀l:List Nd,l.length<=Nd.Az l
 | []=>BN _
 | b::l=>by
   have:=AEw l;simp only[Nd.Az,BA];have:0<b.cnt:=by cases b;simp only[Nd.cnt];omega
   omega
theorem ABJ (AE:List Nd)(F:x.Ok)(hs:s.ok=true)(A5:(Dd AE).BX)(hc:(Dd AE).cnt<=900000)(hv:(Dd AE).Ad=true):AC AF 54 [.agg x.f.vs,.c (Cc x.d),.c (.sl (Nd.AG AE)),Aj s] (.A7 [.c (AV (x.CC s AE)),AR 0]):=by
 have hd:=F.dl;have EW:=Ma x.f;rw[F.val]at EW;have IH:=sM x.d (by omega) (AOx F.dv);rw[F.dv]at IH;have QW:=fI s;rw[hs]at QW;have js:=ABR AE A5 hc;rw[hv]at js;have Ce:AE.length<=900000:=by have:=rY AE;have:=AEw AE;omega
 have z:=AJU x.d AE (by omega) (by omega) (AIO A5);have Yi:=AAx F.dv AE;have M:=LI x.f s;rw[show IT x.f s=(x.sz s,0)from if_neg (by simp[hs,F.val])]at M;have E:=EI x.f.params.Al (x.sz s);unfold Af.CC;have hq:AU x.f.params.Al (x.sz s)=x.Al s:=rfl;rw[hq]at E;generalize hQ:x.Al s=Q at E ⊢;obtain⟨B,G⟩:=AI (I6 (JP x.d AE));have A6:B.length=AE.length:=by rw[<-G,ef,Zh]
 rw[G]at z Yi ⊢;obtain⟨n,hn⟩:=AI B.length;have B0:n<=900000:=by omega
 have FP:(n:Int)<=9223372036854775807:=by omega
 have GO:8*(n:Int)<=281474976710656:=by omega
 obtain⟨R,K⟩:=AI (B.map (λn=>[C.int .i64 n]));have o:R.length=n:=by rw[<-K];simp[hn]
 have Rp:AV B=.sl R:=by rw[<-K];rfl
 rw[Rp]at z;have J:=AXF Q;unfold Aj at QW M J ⊢;simp only[AR]at M ⊢;refine en func54 ntmps54 ?_;refine wy (cj3 @o @FP @GO vX) (cj7 EW IH QW js M E z trivial) ⟨?_⟩;rw[show Aq n (V.c (C.int .i64 0))=CK ((CC Q s.By B).take 1++Aq (n - 1) 0)by rw[<-hn,AZD];simp[CK]];refine lp (ι:={ k:Nat // k=0\/k+1<=n }) (λk=>[(15,.c (.int .i64 ((k.1:Int)+1)))]) (λk=>[.box 27 x.f.vs false,.box 63 [.c (.int .i64 s.By),.c (.bool s.Hd)] false,.box 3 (CK ((CC Q s.By B).take (k.1+1)++Aq (n - (k.1+1)) 0)) false]) (λk=>n - k.1) ⟨0,.inl rfl⟩ ?_ ?_;all_goals simp only[puts,Bw,CO,Ag,Ai]
 exact DH;rintro ⟨k,hk⟩;simp only;by_cases H:k+1<n;obtain⟨a,ha⟩:∃a,B[k]?=some a:=⟨_,BE (by omega)⟩
 obtain⟨b,hb⟩:∃b,B[k+1]?=some b:=⟨_,BE (by omega)⟩
 have A8:=Yi a (Cj ha);have A9:=Yi b (Cj hb);have Yz:R[k]?=some [.int .i64 a]:=by rw[<-K,CM,ha];rfl
 have U8:R[k+1]?=some [.int .i64 b]:=by rw[<-K,CM,hb];rfl
 have U:=gx Yz;have W:=gx U8;have HL:=J a.toNat b.toNat s (by omega) (by omega);rw[show ((a.toNat:Nat):Int)=a by omega,show ((b.toNat:Nat):Int)=b by omega]at HL;have GP:=AZC (q:=Q) (v:=s.By) ha hb;have Im:((CC Q s.By B).take (k+1)).length=k+1:=by rw[List.length_take,fF];omega
 obtain⟨D,hD⟩:=AI ((CC Q s.By B).take (k+1));rw[hD]at GP Im ⊢;generalize FQ:Qt Q a.toNat b.toNat s.By=v at HL GP;obtain⟨r,hr⟩:=AI (n - (k+1+1));have j8:n - (k+1)=r+1:=by omega
 rw[j8,BY];obtain⟨Z,hZ⟩:=AI (CK (D++0::Aq r 0));have G4:Z.length=n:=by rw[<-hZ,Ts];simp;omega
 have z0:Z.set (k+1) (.c (.int .i64 v))=CK (D++[v]++Aq r 0):=by rw[<-hZ,ABG Im v];simp
 have Ej:k<n:=by omega
 have Dn:(k:Int)+1<(n:Int):=by omega
 have hw:AZ.wrap ((k:Int)+1 - 1)=(k:Int):=by rw[Ac];omega
 have A3:AZ.wrap ((k:Int)+1+1)=((k+1:Nat):Int)+1:=by rw[Ac];push_cast;rfl
 have A2:((k:Int)+1).toNat=k+1:=by omega
 have A1 : ¬(k:Int)+1<0:=by omega
 have S:0<=(k:Int)+1:=by omega
 rw[hZ];refine wy (cj9 @o @H @Dn @Yz @U8 @U @W @G4 @z0<|cj6 @hw @A3 @A2 @A1 @S @Ej vX) (cj HL<|trivial) ⟨?_⟩;refine⟨⟨k+1,.inr (by omega)⟩,by first|omega|(simp only;omega),?_⟩;simp only[GP,hr,GX,BK,BU];exact DH;have Dn : ¬(k:Int)+1<(n:Int):=by omega
 have GP:(CC Q s.By B).take (k+1)++Aq (n - (k+1)) 0=CC Q s.By B:=by
  rw[Gl (by rw[fF];omega),show n - (k+1)=0 by omega];simp
 rw[GP];have I:(CC Q s.By B).length=n:=by rw[fF,hn]
 generalize hD:CC Q s.By B=D at I ⊢;have A0:Hc 1 n (D.map (C.int .i64))=D.map λn=>[C.int .i64 n]:=by have:=Zl D [];rw[E5,I]at this;exact this
 refine wu (.mk 13) (cj3 @o @Dn @H vX) trivial ⟨?_⟩;refine AW.Bi 2 rfl (XK _) (by simp only[V.Cs,V.Bi,B9,A0,if_true];exact rfl) (by simp only[Ai,Ag,Ap,BB,O.Bi,Zm,V.Cs,V.Bi];exact rfl) ?_;exact wz (cj @AV.eq_1<|vX) trivial
def OY (k count own width indent:Int):Int:=
 if count=1 then mx 0 (Bm (width - own))
 else if k=0 then 0
 else if k=count - 1 then mx indent (width - own)
 else indent
def HA (Al width:Int):Int:=mn (2*Al) (width / 2)
theorem AGd {n:Int}(h:0<=n):0<=Bm n/\Bm n<=n:=by
 unfold Bm;split;unfold Ea;rw[if_pos h];omega;omega
theorem AQr {n:Int}(h:n<0):Bm n<=0:=by
 unfold Bm;split;unfold Ea;rw[if_neg (by omega)];omega;omega
theorem AHw {Al B:Int}(E:0<=Al)(F:1<=B):0<=HA Al B/\HA Al B<B:=by
 unfold HA mn;split<;>omega
theorem AFF (hl:L.length<=1000000):AC AF 110 [.c (.sl (L.map El))] (.c (.bool (Gg L))):=by
 obtain⟨J,I⟩:=AI (L.map El);have E:J.length=L.length:=by rw[<-I,Ch]
 rw[I];by_cases K:(L.length:Int)<1;have e:Gg L=false:=by unfold Gg;rw[decide_eq_false (show ¬1<=L.length by omega),D4]
 rw[e];refine en func110 ntmps110 ?_;exact wz (cj2 @E @K ga) trivial;by_cases S:(64:Int)<(L.length:Int);have e:Gg L=false:=by unfold Gg;rw[decide_eq_false (show ¬L.length<=64 by omega),D4,Bool.and_false]
 rw[e];refine en func110 ntmps110 ?_;exact wz (cj3 @E @K @S ga) trivial;have U:Gg L=L.all Mx:=by unfold Gg;rw[decide_eq_true (show 1<=L.length by omega),decide_eq_true (show L.length<=64 by omega)];rfl
 rw[U];refine en func110 ntmps110 ?_;refine wy (cj3 @E @K @S ga) trivial ⟨?_⟩;refine lp (ι:={ k:Nat // k<=L.length/\L.all Mx=(L.drop k).all Mx }) (λk=>[(15,.c (.int .i64 (k.1:Int))),(2,.c (.bool false))]) (λ_=>[]) (λk=>L.length - k.1) ⟨0,by simp⟩ ?_ ?_;all_goals simp only[puts,Bw,CO,Ag,Ai]
 exact DH;rintro ⟨k,hk,F⟩;simp only;by_cases B:k<L.length;obtain⟨⟨w,s,p⟩,R⟩:∃z,L[k]?=some z:=⟨_,BE B⟩
 have H:J[k]?=some [.int .i64 w,.int .i64 s,.int .i64 p]:=by rw[<-I,CM,R];rfl
 have M:=gx H;have Q:k<J.length:=by omega
 have W:AZ.wrap ((k:Int)+1)=((k+1:Nat):Int):=by rw[Ac];simp
 rw[List.drop_eq_getElem_cons B,gx R B,List.all_cons]at F;by_cases G:Mx (w,s,p)=true;rw[G,Cd]at F;simp only[Mx,SJ,Ak,decide_eq_true_eq]at G;obtain⟨⟨p1,p2,p3,p4⟩,p5,p6⟩:=G;have q1 : ¬w<0:=by omega
 have q2 : ¬(10000000:Int)<w:=by omega
 have o : ¬s < -20000:=by omega
 have q : ¬(20000:Int)<s:=by omega
 have q5 : ¬p < -10000:=by omega
 have q6 : ¬(10000:Int)<p:=by omega
 refine wy (cj9 @B @E @H @M @Q @W @q1 @q2 @o<|cj3 @q @q5 @q6 ga) trivial ⟨?_⟩;exact⟨⟨k+1,by omega,F⟩,by simp only;omega,wd 0⟩;have e:L.all Mx=false:=by rw[F,Bool.eq_false_iff.2 G,D4]
 rw[e];simp only[Mx,SJ,Ak,decide_eq_true_eq]at G;exact wz (cj5 @B @E @H @M @Q ga) trivial;have e:L.all Mx=true:=by rw[F,FA (by omega)];rfl
 rw[e];exact wz (cj @B<|ga) trivial
def W6 (y:Nat)(PR:List (List C))(i j:Nat)(T:Int):List V:=
 [.yl y,.cp [.int .i64 (i:Int)] 0,.cp [.sl PR] 0,.any,.c (.int .i64 T),.c (.int .i64 (j:Int))]++Aq 30 .any
theorem AA2 {L:List (Int×Int×Int)}{k:Nat}{q:Int×Int×Int}(h:L[k]?=some q):JQ L k=q:=by
 unfold JQ;rw[Bv,h];rfl
theorem AUB (i:Nat)(hi:i<=L.length)(U:L.all Mx=true)(hl:L.length<=64):MS AF 336 [.cp [.int .i64 (i:Int)] 0,.cp [.sl (L.map El)] 0]
 (λ(pre:List Unit) (_:Unit)=>#[.int .i64 ((i+pre.length+1:Nat):Int),.int .i64 (HQ L i (pre.length+1))]) (λxs=>i+xs.length=L.length) (L.length - i):=by
 obtain⟨I,Q⟩:=AI (L.map El);have Ed:I.length=L.length:=by rw[<-Q,Ch]
 rw[Q];refine MS.intro func336 rfl rfl λY=>?_
 simp only[ntmps336,BA,BO,Nat.reduceAdd,Nat.reduceSub,BY,Cy,BK,BU];refine ED trivial ?_;refine IW.loop (ι:={ k:Nat // i+k<=L.length }) (λk=>(⟨Aq k.1 (),false⟩,⟨W6 Y.l I i (i+k.1) (HQ L i k.1),[]⟩)) (λk=>L.length - (i+k.1)) ⟨0,by omega⟩ rfl ?_ ?_;refine G1.drop (by simp[DG,W6,HQ]) (by simp[V.BI,V.A8,W6]);rintro ⟨k,hk⟩;simp only[W6,BY,Cy,BK,BU];obtain⟨j,H⟩:=AI (i+k);have hT:=dV U i k;have R:=dV U i (k+1);obtain⟨T,Ya⟩:=AI (HQ L i k);obtain⟨G,F⟩:=AI (HQ L i (k+1));have B:G=(T+if k=0 then 0 else(JQ L (i+k)).2.1)+(JQ L (i+k)).1:=by rw[<-Ya,<-F,HQ]
 rw[Ya]at hT ⊢;rw[F]at R;rw[H]at B hk ⊢;by_cases E:j<L.length;obtain⟨⟨w,s,p⟩,S⟩:∃z,L[j]?=some z:=⟨_,BE E⟩
 have K:I[j]?=some [.int .i64 w,.int .i64 s,.int .i64 p]:=by rw[<-Q,CM,S];rfl
 have q:=gx K;have Dh:j<I.length:=by omega
 rw[AA2 S]at B;simp only at B;have KE:=kp U j;rw[AA2 S]at KE;have J:AZ.wrap ((j:Int)+1)=((j+1:Nat):Int):=by rw[Ac];simp
 have A0 : ∀(s':List V),True:=λ_=>trivial
 by_cases h0:k=0;have o : ¬(i:Int)<(j:Int):=by omega
 rw[if_pos h0,Int.add_zero]at B;have M:AZ.wrap (T+w)=G:=by rw[B];exact Ac
 refine ED (cj7 @E @Ed @o @K @q @Dh @M @J) ?_;refine IL.lu () (i1:=((j+1:Nat):Int)) (i2:=G) rfl rfl (by simp[ev]) (by simp[ev]) (by simp[ev]) (by rw[H6,H,F]) (by simp;omega) (by simp[V.BI,V.A8]) ?_ ?_;simp only[St.put,Ag,Ai];refine ED @J ?_;refine⟨⟨k+1,by omega⟩,by simp only;omega,?_,?_⟩;simp[Sj];rw[F];exact G1.drop (by simp[DG,W6,<-H];omega) (by simp[V.BI,V.A8,W6]);simp only[St.put,Ap,BB,V.VT,Ag,Ai];refine ED trivial ?_;exact⟨.inr rfl,λh=>nomatch h⟩;have o:(i:Int)<(j:Int):=by omega
 rw[if_neg h0]at B;have W:AZ.wrap (T+s)=T+s:=Ac;have M:AZ.wrap (T+s+w)=G:=by rw[B];exact Ac
 refine ED (cj8 @E @Ed @o @K @q @Dh @W @M @J) ?_;refine IL.lu () (i1:=((j+1:Nat):Int)) (i2:=G) rfl rfl (by simp[ev]) (by simp[ev]) (by simp[ev]) (by rw[H6,H,F]) (by simp;omega) (by simp[V.BI,V.A8]) ?_ ?_;simp only[St.put,Ag,Ai];refine ED @J ?_;refine⟨⟨k+1,by omega⟩,by simp only;omega,?_,?_⟩;simp[Sj];rw[F];exact G1.drop (by simp[DG,W6,<-H];omega) (by simp[V.BI,V.A8,W6]);simp only[St.put,Ap,BB,V.VT,Ag,Ai];refine ED trivial ?_;exact⟨.inr rfl,λh=>nomatch h⟩;refine ED (cj @E<|@Ed) ?_;exact⟨.inl rfl,λ_=>by simp;omega⟩
theorem AUC (P:C)(i:Int):AC AF 295 [.c P,.c (.int .i64 i)] (.fn 336 [.cp [.int .i64 i] 0,.cp [P] 0]):=by
 refine en func295 ntmps295 ?_;with_reducible refine AW.seq ?_
 with_reducible refine AW.region ?_
 with_reducible refine If (by simp[BY];first|exact rfl|exact⟨rfl,rfl⟩) ?_
 with_reducible refine Kz ?_
 with_reducible refine G3 ?_
 refine Cn 0 ?_;refine Cn 1 ?_;refine Ah ?_;exact At results295
theorem AO0 (i j:Nat)(M:i<j)(hj:j<=L.length)(K:L.all Mx=true)(W:L.length<=64):AC AF 243 [.c (.sl (L.map El)),.c (.int .i64 (i:Int)),.c (.int .i64 (j:Int))] (.c (.int .i64 (HQ L i (j - i)))):=by
 have G:=AUB L i (by omega) K W;have U : ∀m:Nat,m<=64->(Lit.int .i64 (HQ L i m)).wf=true:=λm hm=>by
  have:=dV K i m;exact Q7 (by omega) (by omega)
 generalize q:L.map El=F at G ⊢;have Q:=AUC (.sl F) (i:Int);refine en func243 ntmps243 ?_;refine wy vM (cj Q<|trivial) ⟨?_⟩;refine AW.sW (α:=Unit) rfl rfl rfl rfl rfl rfl (by decide) (by decide) (caps:=[.cp [.int .i64 (i:Int)] 0,.cp [.sl F] 0]) (by simp[ev]) rfl func336 (by kernel_rfl) (by kernel_rfl) (λpre _=>.int .i64 ((i+pre.length+1:Nat):Int)) (λpre _=>.int .i64 (HQ L i (pre.length+1))) (λpre _=>.c (.int .i64 ((i+pre.length+1:Nat):Int))) (λpre _=>.c (.int .i64 (HQ L i (pre.length+1)))) (L.length - i)
  (λ_ _ pre _ h=>by simp only[CV,Ab];exact⟨trivial,Q7 (by omega) (by omega)⟩) (λ_ _ pre _ h=>by simp only[CV,Ab];exact⟨trivial,U _ (by omega)⟩) _ G (λpre=>i+pre.length<j) (λ_=>True) (by simpa using M)
  (λ_=>[O.box 3 [.c (.int .i64 (j:Int))] false,O.box 3 [.c (.int .i64 0)] false]) (λ_=>[O.box 3 [.c (.int .i64 (j:Int))] false,O.box 3 [.c (.int .i64 (HQ L i (j - i)))] false]) rfl 2 (λ_=>rfl) (by simp) (by simp) ?_ ?_ ?_
 rintro lp pre ⟨⟩ S I;obtain⟨k,H⟩:=AI pre.length;simp only[VQ,Ag,Ai,Cp,BA,BO,Cz,H]at S I ⊢;clear H pre;obtain⟨J,R⟩:=AI (i+k+1);obtain⟨T,B⟩:=AI (HQ L i (k+1));rw[R,B];by_cases he:J=j;have E:(J:Int)=(j:Int)↔True:=iff_true_intro (by omega);refine wy (cj @E<|vM) trivial ⟨?_⟩;refine .inr ⟨rfl,trivial,?_⟩;rw[show j - i=k+1 by omega,B];exact⟨_,wd 2 (hs:=Q0 _) (hh:=rfl) (hb:=P5 2 _)⟩;have E : ¬(J:Int)=(j:Int):=by omega
 refine wy (cj @E<|vM) trivial ⟨?_⟩;exact .inl ⟨rfl,by omega,_,wd 2 (hs:=Q0 _) (hh:=rfl) (hb:=P5 2 _)⟩;intro o z I;omega;intro o _;obtain⟨T,B⟩:=AI (HQ L i (j - i));simp only[B];exact wz vM trivial
theorem AKF {d w:Int}(h : ¬d<0)(J:1<=w):∃m,(if 100<(100*d).tdiv w then 100 else(100*d).tdiv w)=m/\(0<=(100*d).tdiv w/\(100*d).tdiv w<=100*d)/\0<=m*m/\m*m<=10000:=by
 have F:(100*d).tdiv w=100*d / w:=Int.tdiv_eq_ediv_of_nonneg (by omega);have G:0<=100*d / w:=Int.ediv_nonneg (by omega) (by omega);have H:100*d / w<=100*d:=Int.ediv_le_self _ (by omega);refine⟨_,rfl,by omega,?_⟩;obtain⟨m,E⟩:=AI ((if 100<(100*d).tdiv w then 100 else(100*d).tdiv w));have B:0<=m/\m<=100:=by rw[<-E];split<;>omega
 rw[E];have I:m*m<=100*100:=Int.mul_le_mul B.2 B.2 B.1 (by decide);exact⟨Int.mul_nonneg B.1 B.1,by omega⟩
theorem AO1 (w:Int)(i j:Nat)(Is:i<j)(hj:j<=L.length)(q:L.all Mx=true)(hl:L.length<=64)(EK:1<=w)(A1:w<=10000000):AC AF 175 [.c (.sl (L.map El)),.c (.int .i64 (i:Int)),.c (.int .i64 (j:Int)),.c (.int .i64 w)] (.A7 [.c (.int .i64 (IQ L w i j).1),.c (.bool (IQ L w i j).2)]):=by
 have G:=AO0 L i j Is hj q hl;have hT:=dV q i (j - i);have KE:=kp q i;obtain⟨⟨pw,ps,p⟩,hq⟩:∃z,L[i]?=some z:=⟨_,BE (by omega)⟩
 obtain⟨o,W⟩:=AI (L.map El);have M:o.length=L.length:=by rw[<-W,Ch]
 have U:o[i]?=some [.int .i64 pw,.int .i64 ps,.int .i64 p]:=by rw[<-W,CM,hq];rfl
 have Bu:=gx U;have Dh:i<o.length:=by omega
 unfold IQ;simp only;rw[AA2 hq]at KE ⊢;simp only at KE ⊢;rw[W]at G ⊢;obtain⟨T,Ya⟩:=AI (HQ L i (j - i));rw[Ya]at G hT ⊢;obtain⟨B,H⟩:=AI ((100+if 0<i then p else 0));rw[H];have qF : -9900<=B/\B<=10100:=by rw[<-H];split<;>omega
 obtain⟨d,hd⟩:=AI (w - T);have E:AZ.wrap (w - T)=d:=by rw[hd];exact Ac
 rw[hd];have TS:((j:Int)=(i:Int)+1)=(j=i+1):=propext ⟨λh=>by omega,λh=>by omega⟩;have w3:AZ.wrap ((i:Int)+1)=(i:Int)+1:=Ac;have w4:AZ.wrap (B+20000)=B+20000:=Ac;have w5:AZ.wrap (B+20000 - d)=B+20000 - d:=Ac;have w6:AZ.wrap (100*d)=100*d:=Ac;have A0:AZ.wrap (20100 - d)=20100 - d:=Ac;have K : ¬w=0:=by omega
 obtain⟨R,Q⟩:=AI ((100*d).tdiv w);have key : ¬d<0->∃m,(if 100<R then 100 else R)=m/\AZ.wrap R=R/\AZ.wrap (m*m)=m*m/\AZ.wrap (B+m*m)=B+m*m:=λh=>by
  obtain⟨m,e0,e1,e2,e3⟩:=AKF h EK;rw[Q]at e0 e1;exact⟨m,e0,Ac,Ac,Ac⟩
 rw[Q];have S:0<i->AZ.wrap (100+p)=B:=λh=>by rw[<-H,if_pos h];exact Ac
 have xq : ¬0<i->100=B:=λh=>by rw[<-H,if_neg h];rfl
 clear H Ya;refine en func175 ntmps175 ?_;by_cases h0:0<i;have I:(0:Int)<(i:Int):=by omega
 have S:=S h0;by_cases F:d<0;exact wz (cj9 @M @U @Bu @Dh @I @S @E @F @w3<|cj3 @w4 @w5 @TS vJ) (cj G<|trivial);obtain⟨m,J,k1,k2,k3⟩:=key F;rw[J];exact wz (cj9 @M @U @Bu @Dh @I @S @E @F @w6<|cj6 @K @Q @J @k1 @k2 @k3 vJ) (cj G<|trivial);have I : ¬(0:Int)<(i:Int):=by omega
 obtain rfl:=xq h0;by_cases F:d<0;exact wz (cj7 @M @I @E @F @w3 @A0 @TS vJ) (cj G<|trivial);obtain⟨m,J,k1,k2,k3⟩:=key F;rw[J];exact wz (cj9 @M @I @E @F @w6 @K @Q @J @k1<|cj2 @k2 @k3 vJ) (cj G<|trivial)
def AAZ (L:List (Int×Int×Int))(w:Int)(i j:Nat):V:=if (IQ L w i j).2=true then .A7 [.c (.int .i64 (IQ L w i j).1),AR 0]else .A7 [.c (.int .i64 0),AR 6]
theorem AOh (w:Int)(i j:Nat)(M:i<j)(S:j<=L.length)(I:Gg L=true)(J:1<=w)(G:w<=10000000):AC AF 112 [.c (.sl (L.map El)),.c (.int .i64 (i:Int)),.c (.int .i64 (j:Int)),.c (.int .i64 w)] (AAZ L w i j):=by
 have B:=I;unfold Gg at B;simp only[Ak,decide_eq_true_eq]at B;have F:=AFF L (by omega);rw[I]at F;have E:=AO1 L w i j M S B.2.2 B.2.1 J G;obtain⟨Q,H⟩:=AI (L.map El);have K:Q.length=L.length:=by rw[<-H,Ch]
 rw[H]at F E ⊢;unfold AAZ AR;obtain⟨⟨D,b⟩,R⟩:=AI (IQ L w i j);rw[R]at E ⊢;have U : ¬w<1:=by omega
 have W : ¬10000000<w:=by omega
 have o : ¬(i:Int)<0:=by omega
 have q : ¬(j:Int)<=(i:Int):=by omega
 have z : ¬(L.length:Int)<(j:Int):=by omega
 cases b;all_goals
  simp only at E ⊢;refine en func112 ntmps112 ?_;exact wz (cj6 @K @U @W @o @q @z results112) (cj2 F E trivial)
def LU (w d:Int)(i:Nat):Int:=if 0<i then w - d else w
theorem sh {AE:List AA}{sp:List Int}{c:AA}(h:Bj (F9 AE sp)=some c):c=Qf AE (FT AE sp 0) (Eh AE sp 0)/\sp.length=AE.length/\c.Ad=true:=by
 have B:=kh h;unfold F9 at h;split at h;simp[Bj]at h;split at h;simp[Bj]at h;rename_i E;unfold Tk at h;split at h;simp[Bj]at h;simp only[Bj,if_true,BL]at h;exact⟨h.symm,by omega,B⟩
theorem AWY (cls:List Int)(k:Nat)(h:OX cls k=true):(FZ cls (k+1)).map PX=(FZ cls k).map PX++[PX (k:Int)]:=by simp only[FZ,if_pos h,Fm];rfl
theorem AJj (cls:List Int)(k:Nat)(h:OX cls k=false):FZ cls (k+1)=FZ cls k:=by simp only[FZ];rw[if_neg (by rw[h];simp),E5]
theorem AVp (d:List En)(l:List Nd)(hd:d.length<=1000000)(hs : ∀e∈d,e.text.size<=maxLen)(A5:(Dd l).BX)(hc:(Dd l).cnt<=100000):AC AF 52 [.c (Cc d),.c (.sl (Nd.AG l))] (W4 (XL d l)):=by
 have F:=AJD d l hd hs A5 (by omega);have Mi:=SH l;have jf:=rY l;have E:=@AOU d l;unfold XL;obtain⟨⟨B,e⟩,hR⟩:=AI (O2 d l);rw[hR]at F E ⊢;unfold W4 AR at *
 simp only at F E ⊢;have hz:AV []=.sl []:=rfl;obtain⟨rs,o⟩:=AI (Nd.AG l);have S:rs.length=l.length:=by rw[<-o];exact Pc l
 rw[o]at F ⊢;generalize hn:l.length=n at S Mi E ⊢;by_cases Q:e=0
 . rw[if_neg (by omega)];have DK:=E Q;subst Q;by_cases W:n=0;rw[if_pos W];simp only;rw[hz];have U:(rs.length:Int)=0:=by omega
   subst W;refine en func52 ntmps52 ?_;exact wz (cj2 @S @U gy) (cj F<|trivial)
   . rw[if_neg W];simp only;have U : ¬(n:Int)=0:=by omega
     have z:=λk hk=>AJq B k hk (by omega)
     generalize hC:AV B=CL at F z;refine en func52 ntmps52 ?_;refine wy (cj2 @S @U gy) (cj F<|trivial) ⟨?_⟩;refine AW.le (Le.AZr 8 3 1 [[.int .i64 0]] rfl (by simp)) ?_;simp only[BO,BA,Nat.reduceAdd,Ag,Ai,BU];refine lp (ι:={ k:Nat // k<=n }) (λk=>[(8,.gr 0 1 ((FZ B k.1).map PX)),(25,.c (.int .i64 (k.1:Int)))]) (λk=>[.tok 3 1 (FZ B k.1).length]) (λk=>n - k.1) ⟨0,by simp⟩ ?_ ?_;all_goals simp only[puts,Bw,CO,Ag,Ai]
     exact ER (cj2 @FZ.eq_1 @FZ.eq_2 @PX.eq_1);rintro ⟨k,hk⟩;simp only;by_cases G:k<n;have R:=z k (by omega);have A0:=AJi B k;obtain⟨M,K⟩:=AI ((FZ B k).length);cases H:OX B k with
     | false =>
       rw[H]at R;rw[<-AJj B k H];have I:M=(FZ B (k+1)).length:=by rw[AJj B k H,K]
       refine wy (cj @G<|gy) (cj R<|trivial) ⟨?_⟩;exact⟨⟨k+1,by omega⟩,by simp only;omega,wd 1⟩
     | true =>
       rw[H]at R;have GP:=AWY B k H;have I:M+1=(FZ B (k+1)).length:=by simp only[FZ,if_pos H,Cp,K];rfl
       have q:((FZ B k).map PX).length=M:=by rw[Ch,K]
       have J:=ATN (FZ B k);generalize YW:(FZ B k).map PX=RR at GP q J ⊢;have FO:M+1<=maxLen:=by unfold maxLen;omega
       have EX:(M+1)*8<=140737488355328:=by omega
       have Y4:RR++[[C.int .i64 (k:Int)]]=(FZ B (k+1)).map PX:=GP.symm;clear GP;rw[K];refine wy (cj6 @G @q @FO @EX @Y4 @I gy) (cj R<|trivial) ⟨?_⟩;exact⟨⟨k+1,by omega⟩,by simp only;omega,wd 1⟩
     have ek:k=n:=by omega
     subst ek;rw[rS (FZ B k)];exact wz (cj @G<|gy) trivial
 rw[if_pos Q];simp only;rw[hz];refine en func52 ntmps52 ?_;exact wz (cj @Q<|gy) (cj F<|trivial)
end Go.Proofs.YtlpomcliejmedaaGreat
