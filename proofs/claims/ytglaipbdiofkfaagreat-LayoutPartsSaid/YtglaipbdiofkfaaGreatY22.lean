/- Part of the proof of some laws. Conditions: none. -/
import Derived.Test.YtglaipbdiofkfaaGreatY19
set_option linter.unusedVariables false
set_option linter.unusedSimpArgs false
set_option maxRecDepth 100000
set_option maxHeartbeats 16000000
open Bool renaming and_eq_true→Ak,eq_iff_iff→Oj
open List renaming length_append→Cp,length_singleton→uP,all_cons→Ep,all_eq_true→ES,getElem?_eq_getElem→BE,getElem?_eq_some_iff→Br,map_cons→Ap,map_nil→BB,foldl_cons→Bw,foldl_nil→CO,set_cons_zero→Ag,set_cons_succ→Ai,mem_append→MJ,mem_singleton→LY,mem_or_eq_of_mem_set→uU,mem_cons_self→GH,mem_cons_of_mem→Gk,mem_cons→Cf,mem_map→Da,getElem?_map→CM,replicate→Aq,getElem_mem→Kq,getD_eq_getElem?_getD→Bv,mem_of_getElem?→Cj,range→E6,length_map→Ch,getElem_map→mW,getElem_range→ACv,length_cons→BA,length_nil→BO,replicate_succ→BY,cons_append→BK,nil_append→BU,map_append→Fm,getElem?_of_mem→uO,append_assoc→GX,take_of_length_le→Gl,drop_zero→B9,getElem?_cons_succ→JU,length_take→Fa,mem_range→KP,length_range→AMk
open Option.some renaming injEq→BL,inj→ML
open Nat renaming not_lt_zero→UE,le_refl→BN,zero_add→Cz,zero_le→CI,le_of_ble_eq_true→F2,mul_le_mul_left→mj,succ_mul→uc,mul_le_mul_right→Vj,mul_comm→aO,mul_div_cancel→AM0,one_mul→gE,le_trans→Ps,le_mul_of_pos_right→AMy,add_zero→M8,mul_succ→AQH
open Go.Proofs.Tryz renaming prog→AF,results91→ACV,func167→AFL,func242→AF3,func52→ID,func241→UI,results99→Of,func106→Sq,ntmps106→nO,results106→nW,results57→ASM,results120→gb,results69→MP,results217→Abj,results215→Abi,results213→Abg
open Go.IntKind renaming i64→AZ
open Int renaming le_refl→IV,le_trans→Sk,mul_tmod_left→AkD,mul_le_mul_of_nonneg_left→aF
open Option renaming map_some→Nu
open Option renaming some→J,none→E
open Bool renaming false→U,true→I
open List renaming length→G
namespace Go.Proofs.YtglaipbdiofkfaaGreat
open Go.RowKit Tryz
variable {k:Int}{s:Aa}{c:Int}{src:List Int}{b:AA}{x:Af}{n:Nd}{L:List AA}{α:Type}
theorem ABs {i:Int}(B:s.ok=I):(GB k i s).ok=true:=by
 have h:=B;simp only[Aa.ok,Ak,decide_eq_true_eq]at h;unfold GB VU;repeat' split
 all_goals first
  | exact B
  | (simp only[Aa.ok,Ak,decide_eq_true_eq];omega)
theorem AK0 {i n:Nat}(H:s.ok=I)(B:FL k c n=I)(K:k≠1)(M:i<n):XW k i s=(GB k i s,0):=by
 have key:H2 k≠0/\((n:Int)<=H2 k):=by
  unfold FL at B;unfold H2;repeat' split at B
  all_goals first
   | (cases B;done)
   | skip
  all_goals simp only[Ak,decide_eq_true_eq]at B
  all_goals (repeat' split)
  all_goals omega
 unfold XW;rw[if_neg (by simp[H,key.1]),if_neg (by omega)]
structure Src (src:List Int)(p:Nat)(d:Nat):Prop where
 pos:HT src=I
 par:G src % 2=p
 len:G src+d<=49
theorem Src.add {p d e:Nat}(h:Src src p (d+1))(i:Nat)(B:e<=d):Src (src++[(i:Int)]) ((p+1) % 2) e:=by
 refine⟨?_,?_,?_⟩;have:=h.pos;unfold HT at this ⊢;rw[List.all_append,this];simp;rw[Cp,uP];have:=h.par;omega;rw[Cp,uP];have:=h.len;omega
theorem AIX (h:b.Ad=I){d:Nat}(B:Src src 0 (d+1)):(b.mark 1 src).Ad=I/\(b.mark 1 src).cnt=b.cnt:=by
 refine AAe h B.pos ?_;have H:=B.par;have K:=B.len;simp[I7];omega
theorem AUS (h:b.Ad=I){d:Nat}(B:Src src 1 (d+1)):(b.mark 2 src).Ad=I/\(b.mark 2 src).cnt=b.cnt:=by
 refine AAe h B.pos ?_;have H:=B.par;have K:=B.len;simp[I7];omega
theorem Aa2 (B:x.Ok)(H:s.ok=I):An (AU x.f.params.Gj (x.sz s))=true:=by
 obtain⟨M,Q⟩:=HE B.val H;have:=B.val;simp only[AP.valid,Qk,Params.lens,Params.SK,DX,Ak,Ep,An,decide_eq_true_eq]at this;have K:=DM (p:=x.sz s) x.f.params.Gj (by unfold Af.sz;omega) (by unfold Af.sz;omega);simp[An];omega
theorem AXS (B:x.Ok)(K:s.ok=I):An (AU (x.Al s) 50)=true:=by
 obtain⟨Q,R⟩:=HE B.val K;have:=B.val;simp only[AP.valid,Qk,Params.lens,Params.SK,DX,Ak,Ep,An,decide_eq_true_eq]at this;have H:=DM (p:=x.sz s) x.f.params.Al (by unfold Af.sz;omega) (by unfold Af.sz;omega);have M:=DM (p:=50) (x.Al s) (by omega) (by omega);have e:x.Al s=AU x.f.params.Al (x.sz s):=F;rw[<-e]at H;simp[An];omega
theorem AUI {w h:Int}(K:An w=I)(H:An h=I):(Bf w h 0 []).Ad=I/\(Bf w h 0 []).cnt=1:=by
 refine⟨ic ?_ (by simp[Bf,AA.cnt,AA.Az]) (by simp[Bf,AA.nest,AA.Hk]),F⟩;have B:An 0=true:=by decide
 simp[AA.D8,AA.FU,AA.Cl,AA.lens,AA.Fi,AA.Js,Bf,K,H,B,HT,I7]
theorem AKW (o:x.Ok)(R:s.ok=I)(K:Src src 0 n.BR)(h:GU x s src n=J b):b.Ad=I/\b.cnt<=10000*n.cnt:=by
 obtain⟨k,t,c,M⟩:=n;have z:=Tm ⟨k,t,c,M⟩;rw[ke]at K;unfold GU at h;split at h;rename_i Q;simp only[BL]at h;have e:(Bf (if src=[]then 0 else AU (x.Al s) 50) (AU x.f.params.Gj (x.sz s)) 0 []).Ad=I/\(Bf (if src=[]then 0 else AU (x.Al s) 50) (AU x.f.params.Gj (x.sz s)) 0 []).cnt=1:=by
  refine AUI ?_ (Aa2 o R);split;decide;exact AXS o R
 obtain⟨B,H⟩:=AIX e.1 K;subst h;unfold Af.empty;exact⟨B,by rw[H,e.2];omega⟩;rename_i Q;split at h;cases h;split at h;cases h;rename_i b' q;simp only[BL]at h;subst h;have S:=kh q;obtain⟨B,H⟩:=AIX S K;refine⟨B,?_⟩;rw[H];have:=ik S;match M,Q with
 | a::l,_=>simp only[Nd.Az]at z;have:=ry a;omega
theorem AIs {AE:List AA}{sp:List Int}{c:AA}(h:Bj (F9 AE sp)=J c):c.cnt=1+AA.Az AE:=by
 unfold F9 at h;split at h;simp[Bj]at h;split at h;simp[Bj]at h;rename_i B;unfold Tk at h;split at h;simp[Bj]at h;simp only[Bj,if_true,BL]at h;subst h;have e:G sp=G AE:=Classical.byContradiction λe=>B (.inl e)
 unfold Qf Bf;simp only[AA.cnt];rw[dz (VK 0 e)]
theorem ALf (M:x.Ok)(H:s.ok=I){t:ByteArray}(K:t.data.toList.all Dx=I)(Q:t.size<=1000)(h:x.Po s t=J b):b.Ad=I/\b.cnt<=10000:=by
 unfold Af.Po at h;refine⟨kh h,?_⟩;rw[AIs h];have:=wx (n:=1) λb B=>Nat.le_of_eq (AEr M H K b B).2
 rw[AEq]at this;omega
theorem AFz (K:x.Ok)(H:s.ok=I){t:ByteArray}(B:Ck t=I):(x.gl s t).Ad=I/\(x.gl s t).cnt=1:=⟨(qA K H B).1.v,(qA K H B).2⟩
theorem AOH {a:Int}{c:AA}(h:Bj (KS b a)=J c):c.cnt=b.cnt:=by
 unfold KS at h;repeat' split at h
 all_goals simp[Bj]at h
 subst h;exact Hb _ _ _
theorem AZf (B:x.Ok)(H:s.ok=I){t:ByteArray}(o:Z1 t=I)(h:x.sym s t=J b):b.Ad=I/\b.cnt<=10000:=by
 obtain⟨M,q,n3⟩:=ALQ o;have K:t.size<=1000:=by simp only[Ck,Ak,decide_eq_true_eq]at M;omega
 unfold Af.sym at h;split at h;unfold Af.VI at h;obtain⟨z,R,h3⟩:=AAu B s M;have Q:=AFz B H R;split at h;cases h;rename_i c S;refine⟨kh h,?_⟩;rw[AIs h];have:=AOH S;simp only[AA.Az];omega;split at h;cases h;have Q:=AFz B H M;exact⟨Q.1,by omega⟩;exact ALf B H q K h
theorem AAl (n:Nat):∀(l:List UInt8) (k:Nat) (p q:Int),Mu n l k p=J q->l.all Dx=I
 | [],_,_,_,_=>rfl
 | b::l,k,p,q,h=>by
   rw[Ep];unfold Mu at h;split at h;rename_i B;have e:=AAl n l _ _ _ h;rw[e];have:(b.toNat:Int)=46:=B.1;simp[Dx];omega;split at h;rename_i H;have e:=AAl n l _ _ _ h;rw[e];simp[NJ]at H;simp[Dx];omega;cases h
theorem AIm {t:ByteArray}(h:dj t=I):t.data.toList.all Dx=I/\t.size<=1000:=by
 unfold dj at h;cases B:Mu t.size t.data.toList 0 0 with
 | none=>rw[B]at h;cases h
 | some q=>rw[B]at h;refine⟨AAl _ _ _ _ _ B,?_⟩;simp only[Ak,decide_eq_true_eq]at h;omega
theorem AJx {t:ByteArray}(h:(decide (t.size<=200) && FC Qm t)=I):t.data.toList.all Dx=I/\t.size<=1000:=by
 simp only[Ak,decide_eq_true_eq,FC,ES]at h;refine⟨?_,by omega⟩;rw[ES];intro b B;have:=h.2 b B;simp only[Qm,decide_eq_true_eq]at this;simp[Dx];omega
theorem AH0 (hx:x.Ok)(hs:s.ok=I)(hf:n.Cl=I)(h1:n.kind≠1)(hr:Src src 1 n.BR)(h:Fw x s src n=J b):b.Ad=I/\b.cnt<=10000*n.cnt:=by
 obtain⟨k,t,c,K⟩:=n;have z:=Tm ⟨k,t,c,K⟩;rw[ke]at hr;simp only at h1 z;simp only[Nd.Cl,Ak]at hf;obtain⟨f1,f2⟩:=hf;unfold Fw at h;split at h;cases h
 . rename_i L hL;split at h;cases h
   . rename_i H B;simp only[BL]at h;subst h;have key:H.Ad=I/\H.cnt<=10000*(1+Nd.Az K):=by
      have S:K≠[]->H.Ad=I->H.Ad=I/\H.cnt<=10000*(1+Nd.Az K):=λhk R=>by
       refine⟨R,?_⟩;have:=ik R;match K,hk with
       | a::l,_=>simp only[Nd.Az];have:=ry a;omega
      have Q:H.Ad=I/\H.cnt<=10000->H.Ad=I/\H.cnt<=10000*(1+Nd.Az K):=λR=>⟨R.1,by omega⟩
      unfold Ji at B;by_cases q:k=2;rw[if_pos q]at B;subst q;exact Q (AZf hx hs f1 B)
      . rw[if_neg q]at B;by_cases M:k=3\/k=4;rw[if_pos M]at B;have:t.data.toList.all Dx=I/\t.size<=1000:=by
         rcases M with M|M
         subst M;exact AIm f1;subst M;exact AJx f1
        exact Q (ALf hx hs this.1 this.2 B)
        . rw[if_neg M]at B;have o:K≠[]:=by
           rintro rfl;unfold FL at f2;repeat' split at f2
           all_goals first
            | (cases f2;done)
            | skip
           all_goals simp at f2
           all_goals omega
          refine S o ?_;repeat' split at B
          all_goals first
           | exact(OT B).2
           | skip
          unfold O5 at B;repeat' split at B
          simp[Bj]at B;simp[Bj]at B;exact kh B;unfold N2 at B;repeat' split at B
          simp[Bj]at B;exact(OT B).2
     obtain⟨e1,e2⟩:=AUS key.1 hr;exact⟨e1,by rw[e2,z];exact key.2⟩
theorem AFd {p:Nat->Nd->Prop}(AE:List Nd)(h : ¬ ∀j n,AE[j]?=J n->p j n):∃j n,AE[j]?=J n/\¬p j n/\∀i k,i<j->AE[i]?=J k->p i k:=by
 have key : ∀L,L<=G AE->(∀i k,i<L->AE[i]?=J k->p i k)\/∃j n,AE[j]?=J n/\¬p j n/\∀i k,i<j->AE[i]?=J k->p i k:=by
  intro L;induction L with
  | zero=>intro _;exact .inl λi k h _=>absurd h (UE _)
  | succ L ih =>
    intro R;rcases ih (by omega)with B|B
    have K:AE[L]?=J AE[L]:=BE (by omega);by_cases Q:p L AE[L];refine .inl λi k S H=>?_
    by_cases e:i=L;subst e;rw[K]at H;cases H;exact Q;exact B i k (by omega) H;exact .inr ⟨L,_,K,Q,B⟩;exact .inr B
 rcases key (G AE) (BN _)with B|B
 exact absurd (λj n M=>B j n (Br.1 M).1 M) h;exact B
def oG (x:Af)(m:Nat)(n:Nd)(src:List Int)(s:Aa):Prop:=∀(j:Nat) (k:Nd),n.AE[j]?=J k->AQ AF 25 [Bb x m,Am k,.c (AV (src++[(j:Int)])),Aj (GB n.kind j s)] m (BM x.f) (BM x.f) (BP (M2 x s src n.kind j k))
theorem ALH (x:Af)(m:Nat)(n:Nd)(src:List Int)(s:Aa)(J:Nat)(hs:s.ok=I)(hk:FL n.kind n.AL (G n.AE)=I)(z:n.kind≠1)(hl:G n.AE<=1000)(q:G src<=100)(Q:oG x m n src s)(hJ:J<=G n.AE)(S : ∀j k,j<J->n.AE[j]?=some k->M2 x s src n.kind j k≠E)(L:List AA)(R:Oe x s src n.kind 0 n.AE=L)(j:Nat)(o:j<J) :
 ∃k B,n.AE[j]?=some k/\L[j]?=some B/\M2 x s src n.kind j k=some B/\AQ AF 25 [Bb x m,Am k,.c (AV (src++[(j:Int)])),Aj (GB n.kind j s)] m (BM x.f) (BM x.f) (.ret (Ao B)):=by
 obtain⟨k,H⟩:∃k,n.AE[j]?=some k:=⟨_,BE (by omega)⟩
 have M:=Q j k H;cases K:M2 x s src n.kind j k with
 | none=>exact absurd K (S j k o H)
 | some B=>rw[K]at M;refine⟨k,B,H,?_,K,M⟩;rw[<-R,AK1 x s src n.kind 0 n.AE j k H,Cz,K];rfl
theorem AZN (x:Af)(m:Nat)(n:Nd)(src:List Int)(s:Aa)(hs:s.ok=I)(z:FL n.kind n.AL (G n.AE)=I)(FJ:n.kind≠1)(hl:G n.AE<=1000)(DJ:G src<=100)(Bn:oG x m n src s)(ha : ∀j k,n.AE[j]?=J k->M2 x s src n.kind j k≠E) :
 Sv AF 91 [Bb x m,Am n,.c (AV src),Aj s] m (BM x.f) (BM x.f) 41 (AA.AG (Oe x s src n.kind 0 n.AE)).flatten (G n.AE) 11:=by
 have H:=tB x s src n.kind 0 n.AE;obtain⟨L,hL⟩:=AI (Oe x s src n.kind 0 n.AE);have hR:=ALH x m n src s (G n.AE) hs z FJ hl DJ Bn (BN _) (λj k _ h=>ha j k h) L hL;rw[hL]at H ⊢;obtain⟨kd,t,c,AE⟩:=n;simp only at z FJ hl hR H ⊢;obtain⟨rs,Aw⟩:=AI (Nd.AG AE);have o:G rs=G AE:=by rw[<-Aw,Pc]
 obtain⟨ss,Cu⟩:=AI (AV src);have Ew:(G AE:Int)<=9223372036854775807:=by omega
 have FP:128*(G AE:Int)<=281474976710656:=by omega
 generalize hN:G AE=N at z hl hR H o Ew FP ⊢;simp only[Am,Nd.vs,Nd.row,Ap,BB,Aw,Cu];unfold Bb Aj;refine enO func91 ntmps91 ?_;refine qy (cj3 @o @Ew @FP ACV) trivial ⟨?_⟩;have e0:=iY L H.symm;simp only[BT]at e0;rw[e0];refine lp (ι:={ k:Nat // k<=N }) (λk=>[(21,.c (.int .i64 (k.1:Int)))]) (λk=>[O.mp (Ci m (BM x.f)),O.box 33 [.c (.int .i64 kd),.c (.str t),.c (.int .i64 c),.c (.sl rs)] U,O.box 35 [.c (.int .i64 s.By),.c (.bool s.Hd)] U,O.box 41 (Ht L k.1) U]) (λk=>N - k.1) ⟨0,CI _⟩ ?_ ?_;all_goals simp only[CG,Bw,CO,Ag,Ai]
 exact DH;rintro ⟨k,Yq⟩;simp only at Yq ⊢;by_cases M:k<N;obtain⟨q,B,hq,hB,_,S⟩:=hR k M;have A9:rs[k]?=J q.row:=by rw[<-Aw];exact XG hq
 have Bu:=gx A9;have Dh:k<G rs:=by omega
 have R:=ABI kd (k:Int) s;rw[AK0 hs z FJ M]at R;have K:=pR src [(k:Int)] (by omega) (by simp) (by simp);have hw:AZ.wrap ((k:Int)+1)=((k+1:Nat):Int):=by rw[Ac];simp
 have OC:k<G L:=by omega
 have Q:=ia L k OC;have Yo:L[k]=B:=by rw[BE OC]at hB;exact ML hB
 have Dz:k*11+11<=G (Ht L k):=by rw[iZ _ _ (by omega)];omega
 rw[Yo]at Q;obtain⟨S',PD⟩:∃S',GB kd (k:Int) s=S':=⟨_,rfl⟩
 rw[PD]at R S;unfold Zx at R;unfold Bb Aj Am at S;simp only[As]at S;unfold Aj at R;have Rp:AV [(k:Int)]=.sl [[.int .i64 (k:Int)]]:=F;rw[Rp,Cu]at K;obtain⟨sk,A1⟩:=AI (AV (src++[(k:Int)]));rw[A1]at K S;simp only[AR]at R;refine qy (cj8 @M @hw @o @A9 @Bu @Dh @Dz @Q ACV) (cj3 R K S W) ⟨?_⟩;refine⟨⟨k+1,M⟩,by simp only;omega,?_⟩;refine Le.MI 4 (F2 F) (by simp[DG,P4]) (by simp[P4]) (by simp[V.BI,V.A8]) (by simp[O.A8,V.BI,V.A8,P4]);obtain rfl:k=N:=by omega
 have A0:Ht L k=(AA.AG L).flatten.map V.c:=by rw[<-H];exact wU L
 rw[A0];refine qy (cj2 @M @o ACV) trivial ⟨?_⟩;refine⟨3,by decide,by simp[GJ,C0,DE,CJ,ACV],rfl,by simp⟩
theorem AZO (x:Af)(m:Nat)(n:Nd)(src:List Int)(s:Aa)(hs:s.ok=I)(hk:FL n.kind n.AL (G n.AE)=I)(FJ:n.kind≠1)(hl:G n.AE<=1000)(DJ:G src<=100)(Bn:oG x m n src s)(J:Nat)(q0:Nd)(hJ:n.AE[J]?=some q0)(qL:M2 x s src n.kind J q0=E)(ha : ∀j k,j<J->n.AE[j]?=some k->M2 x s src n.kind j k≠E) :
 AQ AF 91 [Bb x m,Am n,.c (AV src),Aj s] m (BM x.f) (BM x.f) (.HB ko):=by
 have YT:J<G n.AE:=(Br.1 hJ).1;have K:=tB x s src n.kind 0 n.AE;obtain⟨L,hL⟩:=AI (Oe x s src n.kind 0 n.AE);have hR:=ALH x m n src s J hs hk FJ hl DJ Bn (by omega) ha L hL;have R:=Bn J q0 hJ;rw[qL]at R;rw[hL]at K;obtain⟨kd,t,c,AE⟩:=n;simp only at hk FJ hl hR K hJ YT R ⊢;obtain⟨rs,Aw⟩:=AI (Nd.AG AE);have Av:G rs=G AE:=by rw[<-Aw,Pc]
 obtain⟨ss,Cu⟩:=AI (AV src);have Ew:(G AE:Int)<=9223372036854775807:=by omega
 have FP:128*(G AE:Int)<=281474976710656:=by omega
 generalize hN:G AE=N at hk hl K Av Ew FP YT;simp only[Am,Nd.vs,Nd.row,Ap,BB,Aw,Cu];unfold Bb Aj;refine CH func91 ntmps91 ?_;refine qy (cj3 @Av @Ew @FP ACV) trivial ⟨?_⟩;have e0:=iY L K.symm;simp only[BT]at e0;rw[e0];refine lp (ι:={ k:Nat // k<=J }) (λk=>[(21,.c (.int .i64 (k.1:Int)))]) (λk=>[O.mp (Ci m (BM x.f)),O.box 33 [.c (.int .i64 kd),.c (.str t),.c (.int .i64 c),.c (.sl rs)] U,O.box 35 [.c (.int .i64 s.By),.c (.bool s.Hd)] U,O.box 41 (Ht L k.1) U]) (λk=>J - k.1) ⟨0,CI _⟩ ?_ ?_;all_goals simp only[CG,Bw,CO,Ag,Ai]
 exact DH;rintro ⟨k,Yq⟩;simp only at Yq ⊢;have dB:k<N:=by omega
 have Dh:k<G rs:=by omega
 have Q:=ABI kd (k:Int) s;rw[AK0 hs hk FJ dB]at Q;have H:=pR src [(k:Int)] (by omega) (by simp) (by simp);have hw:AZ.wrap ((k:Int)+1)=((k+1:Nat):Int):=by rw[Ac];simp
 have OC:k<G L:=by omega
 have M:=ia L k OC;have Dz:k*11+11<=G (Ht L k):=by rw[iZ _ _ (by omega)];omega
 have Rp:AV [(k:Int)]=.sl [[.int .i64 (k:Int)]]:=F;rw[Rp,Cu]at H;unfold Zx Aj at Q;simp only[AR]at Q;by_cases A0:k<J;obtain⟨q,B,hq,hB,_,hc⟩:=hR k A0;have o:rs[k]?=some q.row:=by rw[<-Aw];exact XG hq
 have Bu:=gx o;have Yo:L[k]=B:=by rw[BE OC]at hB;exact ML hB
 rw[Yo]at M;obtain⟨z,PD⟩:∃z,GB kd (k:Int) s=z:=⟨_,rfl⟩
 rw[PD]at Q hc;unfold Bb Aj Am at hc;simp only[As]at hc;obtain⟨sk,S⟩:=AI (AV (src++[(k:Int)]));rw[S]at H hc;refine qy (cj8 @dB @hw @Av @o @Bu @Dh @Dz @M ACV) (cj3 Q H hc W) ⟨?_⟩;refine⟨⟨k+1,A0⟩,by simp only;omega,?_⟩;refine Le.MI 4 (F2 F) (by simp[DG,P4]) (by simp[P4]) (by simp[V.BI,V.A8]) (by simp[O.A8,V.BI,V.A8,P4]);obtain rfl:k=J:=by omega
 have o:rs[k]?=some q0.row:=by rw[<-Aw];exact XG hJ
 have Bu:=gx o;obtain⟨z,PD⟩:∃z,GB kd (k:Int) s=z:=⟨_,rfl⟩
 rw[PD]at Q R;unfold Bb Aj Am at R;simp only[BP]at R;obtain⟨sk,S⟩:=AI (AV (src++[(k:Int)]));rw[S]at H R;exact qz (cj7 @dB @hw @Av @o @Bu @Dh @Dz ACV) (cj3 Q H R W)
theorem AZT {d:List Int}(H : ∀k∈d,0<=k/\k<=7)(K:0<=c/\c<=7):∀k∈Pm d c,0<=k/\k<=7:=by
 intro k B;unfold Pm at B;split at B;rcases MJ.1 B with h|h
 exact H k h;simp only[LY]at h;omega;split at B;rcases MJ.1 B with h|h
 rcases uU h with h|h
 exact H k h;omega;simp only[LY]at h;omega;rcases MJ.1 B with h|h
 exact H k h;simp only[LY]at h;omega
theorem AFh : ∀(own d:List Int),(∀k∈d,0<=k/\k<=7)->(∀k∈own,0<=k/\k<=7)->∀k∈own.foldl Pm d,0<=k/\k<=7
 | [],d,B,_=>B
 | c::r,d,B,H=>by
   rw[Bw];exact AFh r _ (AZT B (H c GH)) λk K=>H k (Gk _ K)
theorem AXx {own:List Int}(h : ∀k∈own,0<=k/\k<=7):∀k∈I6 own,0<=k/\k<=7:=by
 intro k B;have H:=AFh own [] (λk h=>by cases h) h;unfold I6 Uj K8 at B;split at B;rcases uU B with h|h
 exact H k h;omega;exact H k B
theorem xc : ∀(l pre:List En),WQ pre l=I->∀e∈l,e.ok=I
 | [],_,_,e,B=>by cases B
 | a::l,pre,h,e,B=>by
   simp only[WQ,Ak]at h;rcases Cf.1 B with rfl|B
   exact h.1;exact xc l _ h.2.2 e B
theorem APX {l:List En}(h : ∀e∈l,e.ok=I)(t:ByteArray):0<=(He l t).cls/\(He l t).cls<=7:=by
 induction l with
 | nil=>simp[He]
 | cons a l ih=>simp only[He];split;have:=h a GH;simp only[En.ok,Ak,decide_eq_true_eq]at this;omega;exact ih λe B=>h e (Gk _ B)
theorem AEt {l:List En}(h : ∀e∈l,e.ok=I):∀n:Nat,∀b:Nd,SizeOf.sizeOf b<n->0<=N5 l b/\N5 l b<=7
 | 0,_,B=>absurd B (UE _)
 | n+1,b,B=>by
   rw[AEu];split;exact APX h _;split;obtain⟨k,t,c,M⟩:=b;simp only;unfold bg;match M,B with
   | [],_=>simp only;omega
   | ⟨k',K,H,[]⟩::_,_=>simp only;omega
   | ⟨k',K,H,[y]⟩::_,B=>simp only;refine AEt h n y ?_;simp at B;omega
   | ⟨k',K,H,_::_::_⟩::_,_=>simp only;omega
   split<;>omega
theorem AAx {l:List En}(h:Ll l=I)(AE:List Nd):∀k∈I6 (JP l AE),0<=k/\k<=7:=by
 refine AXx λk B=>?_
 obtain⟨b,_,rfl⟩:=Da.1 B;unfold Ll at h;rw[Ak]at h;exact AEt (xc l [] h.1) _ b (Nat.lt_succ_self _)
theorem AY6 (l r:Nat)(B:l<8)(H:r<8):(fE.flatten[l*8+r]?)=J (XY l r):=by
 match l,B with
 | 0,_|1,_|2,_|3,_|4,_|5,_|6,_|7,_ =>
   all_goals
    match r,H with
    | 0,_|1,_|2,_|3,_|4,_|5,_|6,_|7,_=>all_goals rfl
theorem AY7 (l r:Nat)(H:l<8)(B:r<8):(((fE.flatten.map λn=>V.c (.int .i64 n)).drop (l*8)).take 8)[r]?=J (.c (.int .i64 (XY l r))):=by
 rw[List.getElem?_take,if_pos B,List.getElem?_drop,CM,AY6 l r H B];rfl
theorem AK7 (l r:Nat)(B:l<8)(H:r<8): -3<=XY l r/\XY l r<=1:=by
 match l,B with
 | 0,_|1,_|2,_|3,_|4,_|5,_|6,_|7,_ =>
   all_goals
    match r,H with
    | 0,_|1,_|2,_|3,_|4,_|5,_|6,_|7,_=>all_goals decide
theorem Mt (a b:Int):a<=mx a b:=by unfold mx;split<;>omega
theorem AKT {a b:Int}(B:0<=a)(hb:0<b):0<=Ea a b:=by
 unfold Ea;rw[if_pos B];exact Int.ediv_nonneg (by omega) (by omega)
theorem AY4 (l r:Nat){v:Int}:0<=VX l r v:=by
 unfold VX;repeat' split
 all_goals omega
theorem AK8 {q:Int}(B:0<=q)(l r:Nat)(v:Int):0<=Qt q l r v:=by
 unfold Qt ka;split;omega;split;have:=AY4 l r (v:=v);exact AKT (Int.mul_nonneg B (by omega)) (by omega);omega
theorem ALC {q:Int}(H:0<=q)(v:Int):∀(l:List Int) (p:Int),∀k∈T1 q v p l,0<=k
 | [],_,k,B=>by cases B
 | c::l,p,k,B=>by
   simp only[T1,Cf]at B;rcases B with rfl|B
   exact AK8 H _ _ _;exact ALC H v l c k B
theorem ALE {q:Int}(H:0<=q)(v:Int)(l:List Int):∀k∈CC q v l,0<=k:=by
 intro k B;match l with
 | []=>cases B
 | c::l =>
   simp only[CC,Cf]at B;rcases B with rfl|B
   omega;exact ALC H v l c k B
theorem AFJ : ∀ {AE:List AA} {sp:List Int} {e:Int},0<=e->(∀b∈AE,0<=b.w)->(∀k∈sp,0<=k)->0<=Eh AE sp e
 | b::l,k::t,e,B,H,K=>by
   simp only[Eh];have R:=H b GH;have S:=K k GH;exact AFJ (by omega) (λc M=>H c (Gk _ M)) λj Q=>K j (Gk _ Q)
 | [],_,e,B,_,_=>by unfold Eh;exact B
 | _::_,[],e,B,_,_=>by unfold Eh;exact B
theorem si {AE:List AA}{sp:List Int}{c:AA}(h:Bj (F9 AE sp)=J c)(hb : ∀b∈AE,0<=b.w)(B : ∀k∈sp,0<=k):0<=c.w:=by
 unfold F9 at h;split at h;simp[Bj]at h;split at h;simp[Bj]at h;unfold Tk at h;split at h;simp[Bj]at h;simp only[Bj,if_true,BL]at h;subst h;exact AFJ (by omega) hb B
theorem xg (B:x.Ok)(H:s.ok=I)(t:ByteArray):0<=(x.gl s t).w:=by
 obtain⟨K,M⟩:=HE B.val H;exact(ACX B.val K M t).1
theorem AXi (n:Nat):∀k∈Aq n (0:Int),0<=k:=λk B=>by rw[List.eq_of_mem_replicate B];omega
theorem ALg (H:x.Ok)(B:s.ok=I){t:ByteArray}(h:x.Po s t=J b):0<=b.w:=by
 unfold Af.Po at h;refine si h (λc K=>?_) (AXi _);obtain⟨M,_,rfl⟩:=Da.1 K;unfold Af.RW;split;exact ew (VN H B) (by omega);exact xg H B _
theorem AOJ {a:Int}{c:AA}(h:Bj (KS b a)=J c):c.w=b.w:=by
 unfold KS at h;repeat' split at h
 all_goals simp[Bj]at h
 subst h;rfl
theorem AZg (H:x.Ok)(B:s.ok=I){t:ByteArray}(h:x.sym s t=J b):0<=b.w:=by
 unfold Af.sym at h;split at h;unfold Af.VI at h;split at h;cases h;rename_i c M;refine si h (λd K=>?_) (by simp);simp only[LY]at K;subst K;rw[AOJ M];exact xg H B _;split at h;cases h;exact xg H B t;exact ALg H B h
theorem AFQ : ∀(l:List AA) (e:Int×Int×Int×Int),e.2.1<=(JZ e l).2.1
 | [],e=>IV _
 | b::l,e=>by
   have B:=AFQ l (mn e.1 b.x,mx e.2.1 (b.x+b.w),mx e.2.2.1 (b.y+b.h),mx e.2.2.2 (b.d - b.y));have H:=Mt e.2.1 (b.x+b.w);simp only[JZ];simp only at B;omega
theorem AYV {f:AP}{sub sup:List AA}(hb:0<=b.w):0<=(Oc f s b sub sup).w:=by
 show 0<=(DQ (eu f s b sub sup)).2.1;unfold eu DQ;refine Sk ?_ (AFQ _ _);simp only[AA.AS];omega
theorem AIL : ∀(l:List AA) (w:Int),w<=kV w l
 | [],w=>IV _
 | b::l,w=>Sk (Mt _ _) (AIL l _)
theorem AAf : ∀(l:List AA) (w:Int),w<=IS w l
 | [],w=>IV _
 | b::l,w=>Sk (Mt _ _) (AAf l _)
theorem AUN {f:AP}{sub sup:List AA}:0<=(OP f s b sub sup).w:=by
 show 0<=kV (I4 b sub sup) (ri f s b sub sup);refine Sk ?_ (AIL _ _);unfold I4;exact Sk (Mt 0 b.w) (Sk (AAf sub _) (AAf sup _))
theorem APd {f:AP}{n d:AA}:0<=(WO f s n d).w:=Sk (Mt 0 n.w) (Mt _ d.w)
theorem AXf (H:x.Ok)(M:s.ok=I){B:List AA}:0<=(Qp x.f s b B).w:=by
 show 0<=eO x.f s B+(EZ x.f s b).w+mx 0 b.w;obtain⟨Q,R⟩:=HE H.val M;have K:=(find_ok H.val Q R (name:=Nj) (by decide) (Jm x.f s b)).2.w1;have e:EZ x.f s b=(Hv x.f Nj (Jm x.f s b) (BS x.f.params s)).1:=F;rw[<-e]at K;have S:=Mt 0 b.w;have o:0<=eO x.f s B:=by
  cases B with
  | nil=>exact IV _
  | cons g l=>exact Mt 0 _
 omega
theorem ANC {f:AP}{name:ByteArray}{b a:AA}:0<=(al f s name b a).w:=by
 show 0<=mx (mx 0 _) _;exact Sk (Mt 0 _) (Mt _ _)
theorem AE8 (H:x.Ok)(R:s.ok=I){name:ByteArray}(Q:Ck name=I)(B:Int):0<=(MX x.f name B (x.sz s)).1.w:=by
 obtain⟨o,q⟩:=HE H.val R;rcases xJ H.val o q Q B with h|⟨_,S,K,_,_,_,_,M⟩
 unfold Af.sz;rw[h.2];exact IV _;unfold Af.sz;rw[M];exact K.w1
theorem AVw {t:ByteArray}(h:(decide (t.size=2) && FC (Lq RX) t)=I):Ck (Kg t 0)=I/\Ck (Kg t 1)=true:=by
 simp only[Ak,decide_eq_true_eq,FC,ES]at h;obtain⟨M,H⟩:=h;have key : ∀i,i<t.size->Ck (Kg t i)=true:=by
  intro i B;unfold Kg;rw[AFU t i B];have K:i<G t.data.toList:=by rw[Array.length_toList];exact B
  have:=H (t.data.toList[i]) (Kq K);unfold Lq RX at this;simp at this;simp[Ck,Dx,ByteArray.size];omega
 exact⟨key 0 (by omega),key 1 (by omega)⟩
theorem xB (AL:Nat):∀(l:List AA) (i:Nat) (w:Int),w<=K6 AL i w l
 | [],i,w=>IV _
 | b::l,i,w=>by
   simp only[K6];refine Sk ?_ (xB AL l _ _);split;exact Mt _ _;exact IV _
theorem AD7 {q:Int}(B:0<=q)(AL:Nat)(cells:List AA):∀c,0<=Ig q AL cells c
 | 0=>IV _
 | c+1=>by
   simp only[Ig];have H:=AD7 B AL cells c;have K:0<=Lh AL cells c:=xB _ _ _ _;omega
theorem ANa (H:x.Ok)(B:s.ok=I){AL:Nat}{cells:List AA}(h:Bj (N2 x.f s AL cells)=J b):0<=b.w:=by
 unfold N2 at h;split at h;simp[Bj]at h;rw[(OT h).1];have K:=AD7 (VN H B) AL cells (AL - 1);have M:0<=Lh AL cells (AL - 1):=xB _ _ _ _;show 0<=Ig _ AL cells (AL - 1)+Lh AL cells (AL - 1);have e:x.Al s=AU x.f.params.Al (BS x.f.params s):=F;rw[<-e];omega
theorem ATZ (H:x.Ok)(B:s.ok=I){t:ByteArray}{AE:List Nd}(S:Ki k t=I)(Q : ∀b∈L,0<=b.w)(h:Ji x s k t c AE L=J b):0<=b.w:=by
 have M : ∀i,0<=(L.getD i AA.zero).w:=by
  intro i;rw[Bv];cases R:L[i]? with
  | none=>exact IV _
  | some b=>exact Q b (Cj R)
 unfold Ji at h;split at h;exact AZg H B h;split at h;exact ALg H B h;split at h;rw[(OT h).1];exact APd;split at h;rw[(OT h).1];exact AXf H B;split at h;rw[(OT h).1];exact ANC;split at h;rename_i z;subst z;obtain⟨o,q⟩:=AVw S;unfold O5 at h;split at h;simp[Bj]at h;split at h;simp[Bj]at h;refine si h (λd K=>?_) (by simp);simp only[Cf,List.not_mem_nil,or_false]at K;rcases K with rfl|rfl|rfl
 exact AE8 H B o _;exact M 0;exact AE8 H B q _;split at h;exact ANa H B h;split at h;rw[(OT h).1];exact AUN;rw[(OT h).1];exact AYV (M 0)
mutual
theorem AX4 {x:Af}(H:x.Ok):∀(n:Nd) (s:Aa) (src:List Int) (b:AA),s.ok=I->n.Jb=I->GU x s src n=J b->0<=b.w
 | ⟨k,t,c,M⟩,s,src,b,B,K,h=>by
   simp only[Nd.Jb,Ak]at K;unfold GU at h;split at h;cases h;unfold Af.empty;show 0<=if src=[]then 0 else AU (x.Al s) 50
   split;omega;exact ew (VN H B) (by omega);split at h;cases h;rename_i L R;split at h;cases h;rename_i Q S;cases h;show 0<=Q.w;exact si S (AAL H M k s src 0 L B K.2 R) (ALE (VN H B) _ _)
theorem AAL {x:Af}(M:x.Ok):∀(l:List Nd) (k:Int) (s:Aa) (src:List Int) (i:Nat) (L:List AA),s.ok=I->Nd.MY k l=I->Kb x s src i l=J L->∀b∈L,0<=b.w
 | [],k,s,src,i,L,K,H,h,b,B=>by
   simp only[Kb,BL]at h;subst h;cases B
 | n::l,k,s,src,i,L,K,H,h,b,B=>by
   simp only[Nd.MY,Ak]at H;unfold Kb at h;split at h;cases h;rename_i a Q;split at h;cases h;rename_i r R;cases h;rcases Cf.1 B with rfl|B
   exact AH1 M n s _ _ K H.1.2 Q;exact AAL M l k s src (i+1) r K H.2 R b B
theorem AH1 {x:Af}(K:x.Ok):∀(n:Nd) (s:Aa) (src:List Int) (b:AA),s.ok=I->n.Jb=I->Fw x s src n=J b->0<=b.w
 | ⟨k,t,c,M⟩,s,src,b,H,B,h=>by
   simp only[Nd.Jb,Ak]at B;unfold Fw at h;split at h;cases h;rename_i L R;split at h;cases h;rename_i Q S;cases h;show 0<=Q.w;exact ATZ K H B.1.1 (ABt K M k k s src 0 L H B.2 R) S
theorem ABt {x:Af}(M:x.Ok):∀(l:List Nd) (k k':Int) (s:Aa) (src:List Int) (i:Nat) (L:List AA),s.ok=I->Nd.MY k' l=I->Kh x s src k i l=J L->∀b∈L,0<=b.w
 | [],k,k',s,src,i,L,K,H,h,b,B=>by
   simp only[Kh,BL]at h;subst h;cases B
 | n::l,k,k',s,src,i,L,K,H,h,b,B=>by
   simp only[Nd.MY,Ak]at H;unfold Kh at h;split at h;cases h;rename_i a Q;split at h;cases h;rename_i r R;cases h;rcases Cf.1 B with rfl|B
   exact AX4 M n _ _ _ (ABs K) H.1.2 Q;exact ABt M l k k' s src (i+1) r K H.2 R b B
end
theorem AIh : ∀(l:List Nd) (n:Nd),n∈l->n.BR<=Nd.deps l
 | [],_,h=>by cases h
 | a::l,n,h=>by
   simp only[Nd.deps];rcases Cf.1 h with rfl|h
   omega;have:=AIh l n h;omega
theorem AK4 {x:Af}(Q:x.Ok){s:Aa}(M:s.ok=I){src:List Int}{d:Nat}(K:Src src 1 (d+1))(k:Int):∀(l:List Nd) (i:Nat) (L:List AA),Nd.deps l<=d->Kh x s src k i l=J L->(∀b∈L,b.Ad=I)/\AA.Az L<=10000*Nd.Az l/\(G L)=G l
 | [],i,L,_,h=>by
   simp only[Kh,BL]at h;subst h;exact⟨λb B=>(by cases B),by simp[AA.Az],rfl⟩
 | n::l,i,L,q,h=>by
   simp only[Nd.deps]at q;simp only[Kh]at h;split at h;cases h;rename_i b B;split at h;cases h;rename_i r z;simp only[BL]at h;subst h;obtain⟨R,h2,S⟩:=AK4 Q M K k l (i+1) r (by omega) z;obtain⟨o,h5⟩:=AKW Q (ABs M) (K.add i (by omega)) B;refine⟨λc H=>?_,?_,by simp[S]⟩;rcases Cf.1 H with rfl|H
   exact o;exact R c H;simp only[AA.Az,Nd.Az];omega
def Dr (x:Af)(s:Aa)(src:List Int)(n:Nd):Option AA:=
 match Kh x s src n.kind 0 n.AE with
 | none=>E
 | some L=>Ji x s n.kind n.text n.AL n.AE L
theorem SD (x:Af)(s:Aa)(src:List Int)(n:Nd):Fw x s src n=match Dr x s src n with|none=>E|some b=>J (b.mark 2 src):=by
 obtain⟨k,t,c,B⟩:=n;unfold Fw Dr;simp only;cases Kh x s src k 0 B with
 | none=>rfl
 | some L =>
   simp only;cases Ji x s k t c B L<;>rfl
def ADo (x:Af)(m:Nat)(n:Nd)(src:List Int)(s:Aa):Prop:=
 (∃L,Kh x s src n.kind 0 n.AE=J L/\Sv AF 91 [Bb x m,Am n,.c (AV src),Aj s] m (BM x.f) (BM x.f) 41 (AA.AG L).flatten (G (AA.AG L)) 11)\/
 (Kh x s src n.kind 0 n.AE=E/\AQ AF 91 [Bb x m,Am n,.c (AV src),Aj s] m (BM x.f) (BM x.f) (.HB ko))
structure RL (x:Af)(m:Nat)(n:Nd)(src:List Int)(s:Aa):Prop where
 hx:x.Ok
 hs:s.ok=I
 own:n.Cl=I
 k1:n.kind≠1
 form:Nd.MY n.kind n.AE=I
 sr:Src src 1 n.BR
 cn:n.cnt<=80
 sl:ADo x m n src s
structure vm (L:List AA):Prop where
 v : ∀b∈L,b.Ad=I
 w : ∀b∈L,0<=b.w
 c:AA.Az L<=800000
theorem RL.parts {m:Nat}(h:RL x m n src s):
 (Dr x s src n=E/\AQ AF 91 [Bb x m,Am n,.c (AV src),Aj s] m (BM x.f) (BM x.f) (.HB ko))\/
 ∃L,G L=G n.AE/\vm L/\Dr x s src n=Ji x s n.kind n.text n.AL n.AE L/\Sv AF 91 [Bb x m,Am n,.c (AV src),Aj s] m (BM x.f) (BM x.f) 41 (AA.AG L).flatten (G (AA.AG L)) 11:=by
 rcases h.sl with ⟨L,B,H⟩|⟨B,H⟩
 right;have R:=ke n;have K:=h.sr;rw[R]at K;obtain⟨M,S,Q⟩:=AK4 h.hx h.hs K n.kind n.AE 0 L (BN _) B;have o:=Tm n;have:=h.cn;refine⟨L,Q,⟨M,ABt h.hx n.AE n.kind n.kind s src 0 L h.hs h.form B,by omega⟩,?_,H⟩;unfold Dr;rw[B];left;refine⟨?_,H⟩;unfold Dr;rw[B]
theorem vm.one (h:vm L)(hb:b∈L):b.Ad=I/\b.BX/\b.cnt<=20000/\0<=b.w:=⟨h.v b hb,kj (h.v b hb),ik (h.v b hb),h.w b hb⟩
theorem rZ {L:List α}(h:G L=2):∃a b,L=[a,b]:=by
 match L,h with
 | [a,b],_=>exact⟨a,b,F⟩
theorem AIF {L:List α}(h:G L=1):∃a,L=[a]:=by
 match L,h with
 | [a],_=>exact⟨a,F⟩
theorem AT9 {L:List α}(h:G L=3):∃a b c,L=[a,b,c]:=by
 match L,h with
 | [a,b,c],_=>exact⟨a,b,c,F⟩
theorem Qa (h:n.Cl=I):FL n.kind n.AL (G n.AE)=true:=by
 unfold Nd.Cl at h;rw[Ak]at h;exact h.2
theorem Z3 (h:n.Cl=I):Ki n.kind n.text=true:=by
 unfold Nd.Cl at h;rw[Ak]at h;exact h.1
theorem VR : ∀r∈AA.AG L,G r=11:=lE L
theorem AYI (b:AA):(b.row.map V.c)[4]?=J (.c (.int .i64 b.h)):=by cases b;rfl
theorem AYJ (b:AA):(b.row.map V.c)[5]?=J (.c (.int .i64 b.d)):=by cases b;rfl
def rf (q:Int)(AL:Nat)(cells:List AA)(r:Nat):List C:=[.int .i64 (MW q (Ha AL cells r)),.int .i64 (N1 q (Ha AL cells r))]
def W5 (q:Int)(AL:Nat)(cells:List AA)(AG:Nat):List (List C):=(E6 AG).map (rf q AL cells)
theorem AUH (cells B:List AA)(Z:List C)(AL AG:Nat)(q:Int)(h:aZ q AL AG cells)(A3:G B=G cells)(A2 : ∀i,(A4 B i).h=(A4 cells i).h/\(A4 B i).d=(A4 cells i).d):AY AF 166 [.own 0 0 (G cells) 11,.c (.int .i64 (AL:Int)),.c (.int .i64 q)] 41 (EN B Z) (EN B Z) (.c (.sl (W5 q AL cells AG))):=by
 obtain⟨hn,HL,GM,HP,KY,rC,NT,Ws⟩:=id h;obtain⟨N,hN⟩:=AI (G cells);rw[hN]at hn KY A3 ⊢;have G9:AG<=256:=by have:AG*1<=AG*AL:=mj _ HL;omega
 obtain⟨A,o⟩:=AI (EN B Z);have KV:N*11<=G A:=by rw[<-o,bC,A3];omega
 have Rc : ∀n,V.BI n A=true:=λn=>by rw[<-o];exact RQ n _ _
 have B8:V.Dj 0 A=J A:=by rw[<-o];exact bE 0 _ _
 have B1 : ∀i,i<N->A[i*11+4]?=J (.c (.int .i64 (A4 cells i).h)):=λi hi=>by
  rw[<-o,iO (wQ (by omega)) (by omega),<-(A2 i).1];exact AYI _
 have B0 : ∀i,i<N->A[i*11+5]?=J (.c (.int .i64 (A4 cells i).d)):=λi hi=>by
  rw[<-o,iO (wQ (by omega)) (by omega),<-(A2 i).2];exact AYJ _
 rw[o];obtain⟨l,hl,hv⟩:=kO (p:=λj=>j<N/\∃r,r<AG/\j=r*AL) 0 AL AG λk hk=>by
  have h1:k*AL+AL<=AG*AL:=by rw[<-uc];exact Vj _ hk
  refine⟨by rw[aO];omega,k,hk,by rw[Cz,aO]⟩
 have dG:=pk (λy : { j:Nat // j<N/\∃r,r<AG/\j=r*AL }=>((y.val:Nat):Int)) l 0 (N:Int) (AL:Int) (by omega) (by omega) (by omega) (by omega) (by omega) (λk y M=>by have:=hv k y M;rw[this];push_cast;rfl) (λy _=>by have:=y.2.1;omega) (by
  rw[hl];have e:(N:Int)=(AG:Int)*(AL:Int):=by rw[hn];push_cast;rfl
  rw[e,Int.mul_comm];omega)
 obtain⟨Q,A5⟩:∃Q : { j:Nat // j<N/\∃r,r<AG/\j=r*AL }->List C,Q=λy=>rf q AL cells (y.val / AL):=⟨_,rfl⟩
 have Rw:l.map Q=W5 q AL cells AG:=by
  rw[A5];unfold W5;apply List.ext_getElem;simp[hl];intro i h1 h2;rw[Ch]at h1;rw[mW,mW,ACv];have z:l[i]?=J l[i]:=BE h1;rw[hv _ _ z,Cz,Nat.mul_div_cancel_left _ HL]
 refine AY.intro func166 rfl ?_;simp only[ntmps166,Ap,BB,BA,BO,Nat.reduceAdd,Nat.reduceSub,BY,List.replicate_zero,BK,BU];refine Ah ?_;refine BZ (iw 0 (N:Int) (AL:Int)) AFL ?_;refine Ah ?_;refine AW.le (Le.T4 4 0 195 2 rfl F) ?_;simp only[BA,BO,Nat.reduceAdd,Ag,Ai,BK,BU];refine AW.AXa (α:={ j:Nat // j<N/\∃r,r<AG/\j=r*AL }) rfl rfl rfl (caps:=[.cp [.int .i64 0] 0,.cp [.int .i64 (N:Int)] 0,.cp [.int .i64 (AL:Int)] 0]) rfl rfl AF3 (by kernel_rfl) (by kernel_rfl) (λy=>.int .i64 ((y.val:Nat):Int)) (λy=>.c (.int .i64 ((y.val:Nat):Int))) ?_ (λS=>S=l) (G l) dG
  (λpre=>[O.box 41 A U,O.box 38 [.own 0 0 N 11] U,O.box 3 [.c (.int .i64 (AL:Int))] U,O.box 3 [.c (.int .i64 q)] U,O.box 192 [.gr 5 2 (pre.map Q)] U,O.tok 195 2 (G (pre.map Q))]) ?_ 6 (λ_=>rfl) (by simp) ?_ ?_
 intro x' W y;simp only[CV,Ab];exact⟨trivial,Q8 (by have:=y.2.1;unfold maxLen;omega)⟩;simp;rintro lp pre y kD;obtain⟨r,hr,A6⟩:=y.2.2;have B3:r*AL+AL<=AG*AL:=by rw[<-uc];exact Vj _ hr
 have A7:Q y=rf q AL cells r:=by rw[A5];simp only;rw[A6,AM0 _ HL]
 simp only[Fm,Ap,BB,A7];obtain⟨R,hR⟩:=AI (pre.map Q);have Md:G R<AG:=by rw[<-hR,Ch];omega
 rw[hR,A6];obtain⟨I,hI⟩:=AI (r*AL);rw[hI]at B3 ⊢;have hw:AZ.wrap ((I:Int)+(AL:Int))=(I:Int)+(AL:Int):=Ac;obtain⟨H,EX,IK⟩:=kO (p:=λj=>j<N) I 1 AL λk hk=>by omega
 have A9:=pk (λy : { j:Nat // j<N }=>((y.val:Nat):Int)) H (I:Int) ((I:Int)+(AL:Int)) 1 (by omega) (by omega) (by omega) (by omega) (by omega) (λk y M=>by have:=IK k y M;rw[this];push_cast;rfl) (λy M=>by
  obtain⟨k,hk⟩:=uO M;have h1:=IK k y hk;have h2:=(Br.1 hk).1;omega) (by rw[EX];omega)
 obtain⟨fH,fD⟩:=ANV (λy : { j:Nat // j<N }=>y.val) (r:=r) q cells H (λy _=>by rw[hN];exact y.2) EX (λk y M=>by rw[IK k y M,hI,gE]);refine HZ.block (HZ.seq (HZ.of ?_));refine Ah ?_;refine HZ.seq (HZ.seq (HZ.of ?_));refine go @hw ?_;refine BZ (iw (I:Int) ((I:Int)+(AL:Int)) 1) AFL ?_;refine Ah ?_;refine HZ.le (Le.T4 6 0 3 1 rfl F) ?_;simp only[BA,BO,Nat.reduceAdd,Ag,Ai,BK,BU];refine HZ.le (Le.T4 7 0 3 1 rfl F) ?_;simp only[BA,BO,Nat.reduceAdd,Ag,Ai,BK,BU];refine HZ.block (HZ.range (α:={ j:Nat // j<N }) rfl rfl rfl (caps:=[.cp [.int .i64 (I:Int)] 0,.cp [.int .i64 ((I:Int)+(AL:Int))] 0,.cp [.int .i64 1] 0]) rfl rfl AF3 (by kernel_rfl) (by kernel_rfl) (λy=>.int .i64 ((y.val:Nat):Int)) (λy=>.c (.int .i64 ((y.val:Nat):Int))) ?_ (λS=>S=H) (G H) A9
  (λpre=>[O.box 41 A U,O.box 38 [.own 0 0 N 11] U,O.box 3 [.c (.int .i64 (AL:Int))] U,O.box 3 [.c (.int .i64 q)] U,O.box 192 [.gr 5 2 R] U,O.tok 195 2 (G R),O.box 39 [.gr 8 1 ((pre.map λi=>(A4 cells i.val).h).map λn=>[C.int .i64 n])] U,O.box 39 [.gr 9 1 ((pre.map λi=>(A4 cells i.val).d).map λn=>[C.int .i64 n])] U,O.tok 3 1 (G ((pre.map λi=>(A4 cells i.val).h).map λn=>[C.int .i64 n])),O.tok 3 1 (G ((pre.map λi=>(A4 cells i.val).d).map λn=>[C.int .i64 n]))]) ?_ 10 (λ_=>rfl) (by simp) ?_ ?_)
 intro x' W y;simp only[CV,Ab];exact⟨trivial,Q8 (by have:=y.2;unfold maxLen;omega)⟩;simp;rintro D2 A1 K B7;have Lv:=K.2;have z:=B1 K.val Lv;have Ei:=gx z;have hd:=B0 K.val Lv;have Uw:=gx hd;have Dz:K.val*11+4<G A:=by omega
 have A0:K.val*11+5<G A:=by omega
 obtain⟨hh,Yp⟩:=AI ((A4 cells K.val).h);obtain⟨dd,IH⟩:=AI ((A4 cells K.val).d);rw[Yp]at z Ei;rw[IH]at hd Uw;simp only[Fm,Ap,BB,Yp,IH];obtain⟨H1,WT⟩:=AI (((A1.map λi=>(A4 cells i.val).h).map λn=>[C.int .i64 n]));obtain⟨D1,qG⟩:=AI (((A1.map λi=>(A4 cells i.val).d).map λn=>[C.int .i64 n]));have D0:G H1<AL:=by rw[<-WT];simp;omega
 have Im:G D1<AL:=by rw[<-qG];simp;omega
 rw[WT,qG];have Ew:G H1+1<=maxLen:=by unfold maxLen;omega
 have FP:(G H1+1)*8<=140737488355328:=by omega
 have GO:G D1+1<=maxLen:=by unfold maxLen;omega
 have B2:(G D1+1)*8<=140737488355328:=by omega
 generalize PW:K.val=yv at Lv z Ei hd Uw Dz A0 ⊢;refine go (cj9 @Lv @z @Ei @hd @Uw @Dz @A0 @Ew @FP<|cj @GO @B2) ?_;refine⟨F,_,Le.ct 10 (F2 F) ?_ ?_⟩;simp;simp[O.A8,V.BI,V.A8,Rc];rintro S NW;rw[NW];clear NW S;have g1:=xh (AU q 70) (H.map λi=>(A4 cells i.val).h) (by simp;omega);have g2:=xh (AU q 30) (H.map λi=>(A4 cells i.val).d) (by simp;omega);rw[fH]at g1;rw[fD]at g2;unfold AV at g1 g2;obtain⟨H1,WT⟩:=AI (((H.map λi=>(A4 cells i.val).h).map λn=>[C.int .i64 n]));obtain⟨D1,qG⟩:=AI (((H.map λi=>(A4 cells i.val).d).map λn=>[C.int .i64 n]));rw[WT]at g1 ⊢;rw[qG]at g2 ⊢;have Ew:G R+1<=maxLen:=by unfold maxLen;omega
 have FP:(G R+1)*16<=140737488355328:=by omega
 refine MV (G3 (HZ.of ?_));refine Ah ?_;refine BZ (EI q 70) ID ?_;refine BZ (g1) UI ?_;refine BZ (EI q 30) ID ?_;refine gc (cj @Ew<|@FP) (g2) UI ?_;refine Ah ?_;refine⟨F,_,Le.ct 6 (F2 F) ?_ ?_⟩;simp[rf];simp[O.A8,V.BI,V.A8,Rc]
 . rintro S NW;rw[NW,Rw];clear NW S;refine Ah ?_;all_goals simp[GI,DV,C0,DE,V.CP,V.CF,CJ,results166, *]
theorem ABT (H:x.Ok)(B:s.ok=I):x.Al s<=1073741824:=by
 obtain⟨M,K⟩:=HE H.val B;exact(DM x.f.params.Al (by omega:0<=BS x.f.params s) K).2
theorem wk : ∀(AG:List (List C)) (Z:List C) (es:Nat),(∀r∈AG,G r=es)->Hc es (G AG) (AG.flatten++Z)=AG
 | [],_,_,_=>rfl
 | r::AG,Z,es,h=>by
   have H:=h r GH;rw[BA,List.flatten_cons,GX];unfold Hc;rw[List.take_append_of_le_length (by omega),List.drop_append_of_le_length (by omega),Gl (by omega),List.drop_of_length_le (by omega),BU,wk AG Z es λq B=>h q (Gk _ B)]
theorem AD2 (l:List AA)(Z:List C):toCs (EN l Z)=J ((AA.AG l).flatten++Z):=toCs_mapC _
theorem wM (k:Nat)(row:List C)(l:List AA)(Z:List C):V.Cs k row (EN l Z)=EN l Z:=YN k row _
theorem ANU {q:Int}(rC:0<=q)(NT:q<=1073741824){l:List AA}(z : ∀b∈l,b.Ad=I):(-1073741824<=MW q l/\MW q l<=1073741824)/\ -1073741824<=N1 q l/\N1 q l<=1073741824:=by
 have key : ∀(g:AA->Int) (l:List AA) (a:Int),-1073741824<=a->a<=1073741824->(∀b∈l,-1073741824<=g b/\g b<=1073741824)-> -1073741824<=l.foldl (λh b=>mx h (g b)) a/\l.foldl (λh b=>mx h (g b)) a<=1073741824:=by
  intro g l;induction l with
  | nil=>intro a K H _;exact⟨K,H⟩
  | cons b l ih =>
    intro a K H B;have NO:=B b GH;rw[Bw];refine ih _ ?_ ?_ λc o=>B c (Gk _ o)
    unfold mx;split<;>omega;unfold mx;split<;>omega
 have Q:=DM q (by omega:(0:Int)<=70) (by omega);have R:=DM q (by omega:(0:Int)<=30) (by omega);have M : ∀b∈l,(-1073741824<=b.h/\b.h<=1073741824)/\ -1073741824<=b.d/\b.d<=1073741824:=λb B=>by
  obtain⟨_,H,S,_⟩:=D3 (z b B);exact⟨H,S⟩
 exact⟨key AA.h l _ Q.1 Q.2 λb B=>(M b B).1,key AA.d l _ R.1 R.2 λb B=>(M b B).2⟩
structure Cells (x:Af)(s:Aa)(AL AG:Nat)(cells:List AA):Prop where
 ar:aZ (x.Al s) AL AG cells
 v : ∀b∈cells,b.Ad=I
 c:AA.Az cells<=900000
section
variable {x:Af} {s:Aa} {AL AG:Nat} {cells:List AA}
theorem Cells.line (H:x.Ok)(B:s.ok=I)(h:Cells x s AL AG cells)(r:Nat):(-1073741824<=MW (x.Al s) (Ha AL cells r)/\MW (x.Al s) (Ha AL cells r)<=1073741824)/\ -1073741824<=N1 (x.Al s) (Ha AL cells r)/\N1 (x.Al s) (Ha AL cells r)<=1073741824:=
 ANU (VN H B) (ABT H B) λb K=>h.v b (List.mem_of_mem_drop (List.mem_of_mem_take K))
theorem Cells.NI (H:x.Ok)(B:s.ok=I)(h:Cells x s AL AG cells):∀r:Nat,-2147483648*(r:Int)<=NI (x.Al s) AL cells r/\NI (x.Al s) AL cells r<=2147483648*(r:Int)
 | 0=>by simp[Go.Proofs.YtglaipbdiofkfaaGreat.NI]
 | r+1=>by
   have K:=h.NI H B r;have M:=h.line H B r;simp only[Go.Proofs.YtglaipbdiofkfaaGreat.NI,oh];push_cast
   omega
end
theorem ANT (q:Int)(AL:Nat)(cells:List AA)(c:Nat)(i:Nat):(A4 (Gn q AL cells c) i).h=(A4 cells i).h/\(A4 (Gn q AL cells c) i).d=(A4 cells i).d:=by
 unfold A4 Gn;rw[Bv,Bv,fQ];cases cells[i]? with
 | none=>exact⟨F,F⟩
 | some b=>simp only[Nu,Option.getD_some];split<;>exact⟨F,F⟩
theorem AXN (b:AA)(y:Int):({ b with y:=y }:AA).row=b.row.set 7 (.int .i64 y):=by cases b;rfl
theorem AUG {q:Int}{AL:Nat}{cells:List AA}{AG k:Nat}(h:k<AG):(W5 q AL cells AG)[k]?=J [.int .i64 (MW q (Ha AL cells k)),.int .i64 (N1 q (Ha AL cells k))]:=by
 unfold W5;rw[CM,List.getElem?_range h];rfl
theorem AD3 (q:Int)(AL:Nat)(cells:List AA)(B:Int):∀(l:List AA) (i:Nat),(∀b∈l,b.Ad=I)->AA.JH (Ox q AL cells B i l)/\AA.FY (Ox q AL cells B i l)/\AA.Az (Ox q AL cells B i l)=AA.Az l
 | [],_,_=>⟨trivial,trivial,rfl⟩
 | b::l,i,h=>by
   obtain⟨K,M,Q⟩:=AD3 q AL cells B l (i+1) λc R=>h c (Gk _ R)
   have H:=h b GH;have S:=GD H;have o:=kj H;simp only[Ox];refine⟨⟨?_,K⟩,⟨F4 _ _ o,M⟩,?_⟩;unfold wN;cases b;exact S;simp only[AA.Az,Q];congr 1
   exact Hb _ _ _
theorem AWe (x:Af)(s:Aa)(AL AG:Nat)(cells:List AA)(hx:x.Ok)(hs:s.ok=true)(h:Cells x s AL AG cells):AC AF 99 [.agg x.f.vs,Aj s,.c (.int .i64 (AL:Int)),.c (.sl (AA.AG cells))] (Ba (N2 x.f s AL cells)):=by
 obtain⟨hn,HL,GM,HP,KY,rC,NT,Ws⟩:=h.ar;have zR:=h.line hx hs;have yg:=h.NI hx hs;have Jg:=LI x.f s;rw[show IT x.f s=(x.sz s,0)from if_neg (by simp[hs,hx.val])]at Jg;obtain⟨p1,p2⟩:=HE hx.val hs;have A5:=EI x.f.params.Al (x.sz s);have E0:=EI x.f.params.FD (x.sz s);have zo:AU x.f.params.Al (x.sz s)=x.Al s:=F;have I5:=DM x.f.params.FD (by omega:0<=BS x.f.params s) p2;have QM:=DM (x.Al s) (by omega:(0:Int)<=20) (by omega);have K1:=AE0 cells;have A9:=AUH cells (Gn (x.Al s) AL cells AL);have cL:1<=cells.length:=by rw[hn];exact Ps HP (AMy _ HL)
 have A1:cells.length / AL=AG:=by rw[hn];exact AM0 _ HL
 have Bh:N2 x.f s AL cells=if An (Oy (x.Al s) AL cells AG)=U then(AA.zero,6)else C8 (oe (x.Al s) (AU x.f.params.FD (x.sz s)) AL cells):=by
  unfold N2;rw[A1];rfl
 have D0:oe (x.Al s) (AU x.f.params.FD (x.sz s)) AL cells=Bf (Ig (x.Al s) AL cells (AL - 1)+Lh AL cells (AL - 1)) (AU x.f.params.FD (x.sz s)+Bm (Oy (x.Al s) AL cells AG)) (Oy (x.Al s) AL cells AG - (AU x.f.params.FD (x.sz s)+Bm (Oy (x.Al s) AL cells AG))) (Ox (x.Al s) AL cells (AU x.f.params.FD (x.sz s)+Bm (Oy (x.Al s) AL cells AG)) 0 cells):=by
  unfold oe;rw[A1]
 rw[zo]at A5;rw[Bh,D0];obtain⟨q,hq⟩:=AI (x.Al s);obtain⟨AX,B0⟩:=AI (AU x.f.params.FD (x.sz s));have K3 : -1073741824<=AX/\AX<=1073741824:=by rw[<-B0];exact I5
 have CZ:=h.ar;rw[hq]at A5 zR yg QM A9 CZ rC NT ⊢;rw[B0]at E0 ⊢;have G0:=AE0 cells;have hv : ∀k,k<cells.length->(A4 cells k).Ad=true:=λk hk=>h.v _ (bK hk)
 have LB:=AD3 q AL cells (AX+Bm (Oy q AL cells AG)) cells 0 h.v;have L3:=h.c;obtain⟨N,hN⟩:=AI cells.length;have DK : ∀c,(Gn q AL cells c).length=N:=λc=>by unfold Gn;rw[Xd,hN]
 obtain⟨rs,Aw⟩:=AI (AA.AG cells);have Av:rs.length=N:=by rw[<-Aw,GA,hN]
 have Tb : ∀r∈rs,r.length=11:=by rw[<-Aw];exact VR
 have D8 : ∀k,k<N->rs[k]?=J (A4 cells k).row:=λk hk=>by rw[<-Aw,lF,CM,wQ (by omega)];rfl
 have H3:rs≠[]:=by intro e;rw[e]at Av;simp at Av;omega
 rw[hN]at hn KY cL A1 hv;have G9:AG<=256:=by have:AG*1<=AG*AL:=mj _ HL;omega
 have I8 : ¬(AL:Int)<1:=by omega
 have J3 : ¬16<(AL:Int):=by omega
 have J4 : ¬(N:Int)<1:=by omega
 have J5 : ¬256<(N:Int):=by omega
 have J7 : ¬(AL:Int)=0:=by omega
 have J8:(N:Int).tmod (AL:Int)=0:=by
  rw[hn];push_cast
  exact AkD _ _
 rw[Aw];unfold Aj at Jg ⊢;simp only[AR]at Jg;refine en func99 ntmps99 ?_;refine wy (cj @Av<|Of) (cj Jg<|trivial) ⟨?_⟩;refine lp (ι:={ k:Nat // k<=N }) (λk=>[(40,.c (.int .i64 (k.1:Int)))]) (λ_=>[O.box 27 x.f.vs U,O.box 35 [.c (.int .i64 s.By),.c (.bool s.Hd)] U,O.box 41 BT U]) (λk=>N - k.1) ⟨0,CI _⟩ ?_ ?_;all_goals simp only[CG,Bw,CO,Ag,Ai]
 exact ER @BT.eq_1
 . rintro ⟨k,hk⟩;simp only;by_cases o:k<N;have G8:k<rs.length:=by omega
   have hg:=D8 k o;have Ei:=gx hg;have CA:=EL _ (kj (hv k o)) (by have:=ik (hv k o);omega);rw[hv k o]at CA;have hw:AZ.wrap ((k:Int)+1)=((k+1:Nat):Int):=by rw[Ac];push_cast;rfl
   generalize CT:A4 cells k=b at hg Ei CA;simp only[As]at CA;refine wy (cj6 @Av @o @G8 @hg @Ei @hw Of) (cj CA<|trivial) ⟨?_⟩;refine⟨⟨k+1,by omega⟩,by first|omega|(simp only;omega),?_⟩;refine Le.MI 3 (F2 F) (by simp[DG,BT]) (by simp[BT]) (by simp[V.BI,V.A8]) (by simp[O.A8,V.BI,V.A8,BT])
   . obtain rfl:k=N:=by omega
     clear D8 hv;refine wu (.mk 14) (cj8 @Av @o @I8 @J3 @J4 @J5 @J7 @J8 Of) (cj A5<|cj (EI q 20)<|trivial) ⟨?_⟩;refine AW.DA ?_;refine CY (.mk 1) trivial ?_;refine SW.OU (λv t=>∃m:Nat,v=.own 3 0 rs.length 11/\t=J (3,.box 41 ((rs.flatten++(Aq m AA.zero.row).flatten).map V.c) U)) rfl (λS0 w0 y w a g ht hd=>?_) ?_;exact AIt (t:=38) (Ae:=41) (Bq:=128) (zs:=BT) g rfl (by simp) (by simp[BT]) (by rfl) (by omega) Tb (CW ht (.const (.slice E 0 0))) (CW ht (.tmp 80)) H3 (by omega) (by decide) 3 hd;rintro v t ⟨mz,rfl,rfl⟩;obtain⟨Z,hZ⟩:=AI ((Aq mz AA.zero.row).flatten);have Yk:(rs.flatten++Z).map V.c=EN cells Z:=by rw[<-Aw];rfl
     rw[hZ,Yk,Av];simp only[St.step,St.put,Bk,BA,BO,Nat.reduceAdd,Nat.lt_irrefl,if_false,Ai,Ag,BK,BU];refine CY (.mk 2) trivial ?_;refine SW.nil ?_;have B1:=G0 Z AL AG q CZ;have B2:=A9 Z AL AG q CZ (by rw[DK,hN]) (λi=>ANT q AL cells AL i);rw[hN]at B1 B2;refine wu (.mk 15) Of trivial ⟨?_⟩;refine AW.DA ?_;refine CY (.mk 3) trivial ?_;refine SW.AEf 3 B1 func165 (by kernel_rfl) (by kernel_rfl) (by simp[BQ]) (by simp[C7];first|exact rfl|exact⟨F,F⟩) (by simp[V.Zp,V.ky,V.Di]) rfl (bE 3 _ _) (bE 3 _ _) (AD1 _ _) ?_;simp only[St.step,St.put,Bk,BA,BO,Nat.reduceAdd,Nat.reduceLT,if_true,Ai,Ag];refine CY (.mk 5) trivial ?_;refine SW.nil ?_;refine wu (.mk 16) Of trivial ⟨?_⟩;refine AW.DA ?_;refine CY (.mk 3) trivial ?_;refine SW.AEf 3 B2 func166 (by kernel_rfl) (by kernel_rfl) (by simp[BQ]) (by simp[C7];first|exact rfl|exact⟨F,F⟩) (by simp[V.Zp,V.ky,V.Di]) rfl (bE 3 _ _) (bE 3 _ _) (AD1 _ _) ?_;simp only[St.step,St.put,Bk,BA,BO,Nat.reduceAdd,Nat.reduceLT,if_true,Ai,Ag];refine CY (.mk 1) trivial ?_;refine SW.nil ?_;have zQ : ∀k,k<AG->(W5 q AL cells AG)[k]?=J [.int .i64 (MW q (Ha AL cells k)),.int .i64 (N1 q (Ha AL cells k))]:=λk hk=>AUG hk
     obtain⟨LC,jP⟩:=AI (W5 q AL cells AG);have Io:LC.length=AG:=by rw[<-jP];simp[W5]
     rw[jP]at zQ ⊢;obtain⟨G,hG⟩:=AI (AU q 20);rw[hG]at QM ⊢;have xw : ∀k:Nat,k<=256-> -274877906944<=(k:Int)*G/\(k:Int)*G<=274877906944:=λk hk=>by
      have h1:(k:Int)*G<=(k:Int)*1073741824:=aF QM.2 (by omega);have h2:(k:Int)*(-1073741824)<=(k:Int)*G:=aF QM.1 (by omega);omega
     have EK:AZ.wrap ((AG:Int) - 1)=(AG:Int) - 1:=Ac;have I1:AZ.wrap (((AG:Int) - 1)*G)=((AG:Int) - 1)*G:=by
      have:=xw (AG - 1) (by omega);rw[show ((AG - 1:Nat):Int)=(AG:Int) - 1 by omega]at this;exact Ac
     refine wy (cj3 @Io @EK @I1 Of) trivial ⟨?_⟩;generalize K4:Ig q AL cells (AL - 1)+Lh AL cells (AL - 1)=W9;clear Bh D0;obtain⟨T,hT⟩:∃T:Nat->Int,T=λr=>((AG:Int) - 1)*G+NI q AL cells r:=⟨_,rfl⟩
     have qT:((AG:Int) - 1)*G=T 0:=by rw[hT];simp[NI]
     have G5 : ∀r,T (r+1)=T r+(MW q (Ha AL cells r)+N1 q (Ha AL cells r)):=λr=>by rw[hT];simp only[NI,oh];omega
     have B7 : ∀r:Nat,r<=256-> -1099511627776<=T r/\T r<=1099511627776:=λr hr=>by
      have h1:=yg r;have h2:=xw (AG - 1) (by omega);rw[show ((AG - 1:Nat):Int)=(AG:Int) - 1 by omega]at h2;rw[hT];simp only;omega
     have B8:Oy q AL cells AG=T AG:=by rw[hT];unfold Oy;rw[hG]
     rw[B8];rw[qT];refine lp (ι:={ r:Nat // r<=AG }) (λr=>[(20,.c (.int .i64 (T r.1))),(100,.c (.int .i64 (r.1:Int)))]) (λ_=>[O.box 27 x.f.vs U,O.box 35 [.c (.int .i64 s.By),.c (.bool s.Hd)] U,O.box 41 BT U,O.box 41 (EN (Gn q AL cells AL) Z) U,O.box 38 [.own 3 0 k 11] U]) (λr=>AG - r.1) ⟨0,CI _⟩ ?_ ?_;all_goals simp only[CG,Bw,CO,Ag,Ai]
     exact ER @BT.eq_1
     . rintro ⟨r,hr⟩;simp only;by_cases Dp:r<AG;have hg:=zQ r Dp;have Ei:=gx hg;have H4:r<LC.length:=by omega
       have JN:=zR r;have Td:=B7 r (by omega);have FK:=G5 r;obtain⟨M,Yp⟩:=AI (MW q (Ha AL cells r));obtain⟨S,IH⟩:=AI (N1 q (Ha AL cells r));rw[Yp,IH]at hg Ei JN FK;have A6:AZ.wrap (M+S)=M+S:=Ac;have dN:AZ.wrap (T r+(M+S))=T r+(M+S):=Ac;have zy:AZ.wrap ((r:Int)+1)=((r+1:Nat):Int):=by rw[Ac];push_cast;rfl
       generalize N6:T r=tr at dN FK ⊢;refine wy (cj8 @Io @Dp @H4 @hg @Ei @A6 @dN @zy Of) trivial ⟨?_⟩;refine⟨⟨r+1,by omega⟩,by first|omega|(simp only;omega),?_⟩;simp only[FK];refine Le.MI 5 (F2 F) (by simp[DG,BT,RQ]) (by simp[BT,RQ]) (by simp[V.BI,V.A8]) (by simp[O.A8,V.BI,V.A8,BT,RQ])
       . obtain rfl:r=AG:=by omega
         have H5:=B7 r (by omega);have E7 : ∀n:Nat,n<=r-> -1099511627776<=N3 q AL cells n/\N3 q AL cells n<=1099511627776:=λn hn=>by
          have h1:=yg n;have h2:=xw n (by omega);unfold N3;rw[hG];omega
         obtain⟨R,PG⟩:=AI (T r);rw[B8,PG]at LB;rw[PG]at H5 ⊢;have G7:=Ng R;cases A3:An R with
         | false=>rw[A3]at G7;rw[if_pos rfl];have hz:=Fl;unfold Ba;simp only[As,AR,hz];refine wy (cj2 @Io @BT.eq_1 Of) (cj G7<|trivial) ⟨?_⟩;exact At Of
         | true =>
           rw[A3]at G7;rw[if_neg (by simp)];have qh:=Ke R;have L4:=J6 R;have E1:AZ.wrap (AX+Bm R)=AX+Bm R:=Ac;obtain⟨H,B3⟩:=AI (AX+Bm R);have K2 : -2147483648<=H/\H<=2147483648:=by omega
           rw[B3]at E1 LB ⊢;refine wy (cj2 @Io @E1 Of) (cj3 G7 E0 qh trivial) ⟨?_⟩;simp only[B3];have kK:H=H - N3 q AL cells 0:=by simp[N3,NI]
           have E3:Gn q AL cells AL=P3 q AL cells H 0:=by
            unfold P3;rw[ALq];intro i _;simp
           rw[E3];have e5:O.box 3 [.c (.int .i64 H)] U=O.box 3 [.c (.int .i64 (H - N3 q AL cells 0))] false:=by rw[<-kK]
           rw[e5];clear e5 kK;have E4 : ∀n,(P3 q AL cells H n).length=k:=λn=>by unfold P3;rw[Xd,DK]
           refine lp (ι:={ n:Nat // n<=r }) (λn=>[(131,.c (.int .i64 (n.1:Int)))]) (λn=>[O.box 27 x.f.vs U,O.box 35 [.c (.int .i64 s.By),.c (.bool s.Hd)] U,O.box 41 BT U,O.box 41 (EN (P3 q AL cells H n.1) Z) U,O.box 38 [.own 3 0 k 11] U,O.box 3 [.c (.int .i64 (H - N3 q AL cells n.1))] U]) (λn=>r - n.1) ⟨0,CI _⟩ ?_ ?_;all_goals simp only[CG,Bw,CO,Ag,Ai]
           exact ER @BT.eq_1;rintro ⟨n,zd⟩;simp only;by_cases qm:n<r;have hg:=zQ n qm;have Ei:=gx hg;have H1:n<LC.length:=by omega
           have JN:=zR n;have rO:=E7 n (by omega);have rP:N3 q AL cells (n+1)=N3 q AL cells n+(MW q (Ha AL cells n)+N1 q (Ha AL cells n))+G:=by
            unfold N3;simp only[NI,oh,hG];push_cast
            rw[Int.add_mul];omega
           have CB:n*AL+AL<=r*AL:=by rw[<-uc];exact Vj _ qm
           obtain⟨I,hI⟩:=AI (n*AL);have G2:(n+1)*AL=I+AL:=by rw[uc,hI]
           rw[hI]at CB;have Ew:AZ.wrap ((n:Int)*(AL:Int))=(I:Int):=by
            have:(n:Int)*(AL:Int)=(I:Int):=by rw[<-hI];push_cast;rfl
            rw[this];exact Ac
           have FP:AZ.wrap ((n:Int)+1)=(n:Int)+1:=Ac;have GO:AZ.wrap (((n:Int)+1)*(AL:Int))=(I:Int)+(AL:Int):=by
            have:((n:Int)+1)*(AL:Int)=(I:Int)+(AL:Int):=by have:=congrArg (λn:Nat=>(n:Int)) G2;push_cast at this;exact this
            rw[this];exact Ac
           have IH : ∀j,j<AL->(I+j) / AL=n:=λj hj=>by rw[<-hI,aO,Nat.mul_add_div HL,Nat.div_eq_of_lt hj,M8]
           obtain⟨l,hl,hv⟩:=kO (p:=λj=>j<k/\j / AL=n) I 1 AL λj hj=>by rw[gE];exact⟨by omega,IH j hj⟩
           have dG:=pk (λy : { j:Nat // j<k/\j / AL=n }=>((y.val:Nat):Int)) l (I:Int) ((I:Int)+(AL:Int)) 1 (by omega) (by omega) (by omega) (by omega) (by omega) (λj y hy=>by have:=hv j y hy;rw[this];push_cast;rfl) (λy hy=>by
            obtain⟨j,hj⟩:=uO hy;have h1:=hv j y hj;have h2:=(Br.1 hj).1;omega) (by rw[hl];omega)
           have yJ:P3 q AL cells H n=Ho (λj=>decide (j / AL<n) || ([]:List { j:Nat // j<k/\j / AL=n }).any λz=>decide (j=z.val)) (V1 q AL cells H) (Gn q AL cells AL):=by
            unfold P3;simp
           have yz:Ho (λj=>decide (j / AL<n) || l.any λz=>decide (j=z.val)) (V1 q AL cells H) (Gn q AL cells AL)=P3 q AL cells H (n+1):=by
            unfold P3;refine ALp λi hi=>?_
            rw[DK]at hi;have key:(l.any λz=>decide (i=z.val))=decide (i / AL=n):=by
             rw[Oj,List.any_eq_true,decide_eq_true_eq];constructor;rintro ⟨z,_,hz⟩;rw[decide_eq_true_eq]at hz;rw[hz];exact z.2.2;intro hm;have EG:i % AL<l.length:=by rw[hl];exact Nat.mod_lt _ HL
             refine⟨l[i % AL],Kq EG,?_⟩;rw[decide_eq_true_eq,hv _ _ (BE EG),gE,<-hI,<-hm];exact(Nat.div_add_mod' i AL).symm
            rw[key,Oj];simp only[Bool.or_eq_true,decide_eq_true_eq];omega
           obtain⟨M,Yp⟩:=AI (MW q (Ha AL cells n));obtain⟨S,E9⟩:=AI (N1 q (Ha AL cells n));rw[Yp,E9]at hg Ei JN rP;obtain⟨Y,hY⟩:=AI (H - N3 q AL cells n);have G6:H - N3 q AL cells (n+1)=Y - (M+S+G):=by rw[rP];omega
           have K9 : -1200000000000<=Y/\Y<=1200000000000:=by omega
           have A6:AZ.wrap (M+S)=M+S:=Ac;have dN:AZ.wrap (M+S+G)=M+S+G:=Ac;have zy:AZ.wrap (Y - (M+S+G))=Y - (M+S+G):=Ac;have I2:AZ.wrap (Y - M)=Y - M:=Ac;obtain⟨A0,Gr⟩:=AI (EN (P3 q AL cells H n) Z);rw[hY,Gr];refine go (cj7 @Io @qm @H1 @hg @Ei @Ew @FP @GO) ?_;refine BZ (iw (I:Int) ((I:Int)+(AL:Int)) 1) AFL ?_;refine Ah ?_;refine AW.range (α:={ j:Nat // j<k/\j / AL=n }) rfl rfl rfl (caps:=[.cp [.int .i64 (I:Int)] 0,.cp [.int .i64 ((I:Int)+(AL:Int))] 0,.cp [.int .i64 1] 0]) rfl rfl AF3 (by kernel_rfl) (by kernel_rfl) (λy=>.int .i64 ((y.val:Nat):Int)) (λy=>.c (.int .i64 ((y.val:Nat):Int))) ?_ (λxs=>xs=l) l.length dG
            (λpre=>[O.box 27 x.f.vs U,O.box 35 [.c (.int .i64 s.By),.c (.bool s.Hd)] U,O.box 41 BT U,O.box 41 (EN (Ho (λj=>decide (j / AL<n) || pre.any λz=>decide (j=z.val)) (V1 q AL cells H) (Gn q AL cells AL)) Z) U,O.box 38 [.own 3 0 k 11] U,O.box 3 [.c (.int .i64 Y)] U,O.box 195 [.c (.int .i64 M),.c (.int .i64 S)] U]) ?_ 7 (λ_=>rfl) (by simp) ?_ ?_
           intro x' W y;simp only[CV,Ab];exact⟨trivial,Q8 (by have:=y.2.1;unfold maxLen;omega)⟩;rw[<-Gr,yJ];rintro lp pre y kD;have Lv:=y.2.1;have Wv:y.val<(Gn q AL cells AL).length:=by rw[DK];exact Lv
           have A2:=ALr (λy : { j:Nat // j<k/\j / AL=n }=>y.val) (λj=>decide (j / AL<n)) (V1 q AL cells H) (Gn q AL cells AL) pre y Wv;obtain⟨Q,hQ⟩:=AI (Ho (λj=>decide (j / AL<n) || pre.any λz=>decide (j=z.val)) (V1 q AL cells H) (Gn q AL cells AL));have yO:Q.length=k:=by rw[<-hQ,Xd,DK]
           have yN : ∃B,Q[y.val]?=J B/\V1 q AL cells H y.val (Gn q AL cells AL)[y.val]={ B with y:=Y - M }:=by
            rw[<-hQ,fQ,BE Wv,Nu];refine⟨_,F,?_⟩;unfold V1;rw[y.2.2,Yp,hY];split<;>rfl
           obtain⟨B,Il,TK⟩:=yN;rw[hQ]at A2 ⊢;rw[<-A2];clear A2;rw[TK];have KG:=og (Z:=Z) (v:=.int .i64 (Y - M)) Il (by omega:7<11) (AXN B _);obtain⟨Q',jS⟩:∃Q',EN (Q.set y.val { B with y:=Y - M }) Z=Q':=⟨_,rfl⟩
           rw[jS]at KG ⊢;have yM : ∀n,V.BI n Q'=true:=λn=>by rw[<-jS];exact RQ n _ _
           obtain⟨A',Au⟩:∃A',EN Q Z=A':=⟨_,rfl⟩
           have J9:k*11<=A'.length:=by rw[<-Au,bC,yO];omega
           rw[Au]at KG ⊢;have A7:y.val*11+7+1<=A'.length:=by omega
           generalize PW:y.val=yv at Lv A7 KG ⊢;refine go (cj3 @Lv @A7 @KG @I2) ?_;refine⟨F,_,Le.ct 7 (F2 F) ?_ ?_⟩;simp;simp[O.A8,V.BI,V.A8,yM,BT];rintro xs NW;rw[NW,yz];clear NW xs;have I3:AZ.wrap ((n:Int)+1)=((n+1:Nat):Int):=by rw[Ac];push_cast;rfl
           refine go (cj3 @A6 @dN @zy @I3) ?_;refine⟨⟨n+1,by omega⟩,by first|omega|(simp only;omega),?_⟩;simp only[G6];refine Le.MI 6 (F2 F) (by simp[DG,BT,RQ]) (by simp[BT,RQ]) (by simp[V.BI,V.A8]) (by simp[O.A8,V.BI,V.A8,BT,RQ]);obtain rfl:n=r:=by omega
           have D1:=ANW q HL cells (by rw[hN,hn]) H;rw[D1];obtain⟨K,hK⟩:=AI (Ox q AL cells H 0 cells);rw[hK]at LB ⊢;have G4:K.length=k:=by rw[<-hK,<-D1,E4]
           have D2:Hc 11 k ((AA.AG K).flatten++Z)=AA.AG K:=by
            have:=wk (AA.AG K) Z 11 VR;rwa [GA,G4]at this
           obtain⟨F6,F7,K0⟩:=LB;have BD:=My W9 H (R - H) K F6 (by omega);have E2:AZ.wrap (R - H)=R - H:=Ac;have D7:(Bf W9 H (R - H) K).BX:=⟨by decide,by show (0:Nat)<=maxLen;omega,F7⟩
           have Ri:(Bf W9 H (R - H) K).cnt<=1000000:=by show 1+AA.Az K<=1000000;omega
           have Mk:=EL _ D7 Ri;generalize hB:Bf W9 H (R - H) K=B at BD Mk ⊢;simp only[As]at BD Mk;refine wu (.mk 35) (cj2 @Io @qm Of) trivial ⟨?_⟩;refine AW.Bi 3 rfl (AD2 K Z) (by simp only[V.Cs,V.Bi,B9,D2,if_true];exact rfl) (by simp only[Ai,Ag,Ap,BB,O.Bi,wM,V.Cs,V.Bi,B9,D2,if_true,BT];exact rfl) ?_;have hz:=Fl;unfold C8 Ba;cases CA:B.Ad with
           | true=>rw[CA]at Mk;rw[if_pos rfl];simp only[As,AR];refine wy (cj2 @Io @E2 Of) (cj2 BD Mk trivial) ⟨?_⟩;exact At Of
           | false=>rw[CA]at Mk;rw[if_neg (by simp)];simp only[As,AR,hz];refine wy (cj2 @Io @E2 Of) (cj2 BD Mk trivial) ⟨?_⟩;exact At Of
theorem AXF (q:Int)(l r:Nat)(s:Aa)(hl:l<8)(hr:r<8):AC AF 106 [.c (.int .i64 q),.c (.int .i64 (l:Int)),.c (.int .i64 (r:Int)),Aj s] (.c (.int .i64 (Qt q l r s.By))):=by
 have hb:=AK7 l r hl hr;have GP:=AY7 l r hl hr;have B:=AXG;unfold ABu at B;obtain⟨T,hT⟩:=AI ((fE.flatten.map λn=>V.c (.int .i64 n)));have K:G T=64:=by rw[<-hT];rfl
 rw[hT]at GP B;obtain⟨Z,H⟩:=AI ((T.drop (l*8)).take 8);have R:G Z=8:=by rw[<-H];simp[K];omega
 rw[H]at GP;have M:=gx GP;have S:(l:Int)<8:=by omega
 have o:(r:Int)<8:=by omega
 have z:l*8+8<=64:=by omega
 unfold Qt VX;generalize hE:XY l r=E at hb GP M ⊢;unfold Aj;rcases Int.lt_trichotomy E 0 with h|h|h
 have hm:=AJn q (-E+2) (by omega);have Q : ¬ -E=0:=by omega
 rw[if_pos h];by_cases hv:1<s.By;rw[if_pos hv,if_pos rfl];refine en Sq nO ?_;exact wz (cj9 @S @o @z @K @R @GP @M @H @h<|cj @hv nW) (cj2 B hm W);rw[if_neg hv,if_neg Q];refine en Sq nO ?_;exact wz (cj9 @S @o @z @K @R @GP @M @H @h<|cj2 @hv @Q nW) (cj2 B hm W);subst h;simp only[Int.lt_irrefl,if_false,if_true];refine en Sq nO ?_;exact wz (cj8 @S @o @z @K @R @GP @M @H nW) (cj B<|trivial);have hm:=AJn q (E+2) (by omega);have Q : ¬E=0:=by omega
 have h4 : ¬E<0:=by omega
 rw[if_neg h4,if_neg Q];refine en Sq nO ?_;exact wz (cj9 @S @o @z @K @R @GP @M @H @h4<|cj @Q nW) (cj2 B hm W)
theorem ALB (q v:Int):∀(l:List Int) (p:Int),G (T1 q v p l)=G l
 | [],_=>rfl
 | c::l,p=>by simp only[T1,BA,ALB q v l]
theorem fF (q v:Int)(l:List Int):G (CC q v l)=G l:=by
 cases l with
 | nil=>rfl
 | cons c l=>simp only[CC,BA,ALB]
theorem AK9 (q v:Int):∀(l:List Int) (p:Int) (i:Nat) (a b:Int),(p::l)[i]?=J a->l[i]?=J b->(T1 q v p l)[i]?=J (Qt q a.toNat b.toNat v)
 | [],_,_,_,_,_,h=>by simp at h
 | c::l,p,0,a,b,B,H=>by
   simp only[List.getElem?_cons_zero,BL]at B H;subst B H;rfl
 | c::l,p,i+1,a,b,B,H=>by
   simp only[T1,JU]at B H ⊢;exact AK9 q v l c i a b B H
theorem AZB (q v:Int){l:List Int}{i:Nat}{a b:Int}(B:l[i]?=J a)(H:l[i+1]?=J b):(CC q v l)[i+1]?=J (Qt q a.toNat b.toNat v):=by
 cases l with
 | nil=>simp at B
 | cons c l=>simp only[CC,JU]at H ⊢;exact AK9 q v l c i a b B H
theorem AZD (q v:Int)(l:List Int):(CC q v l).take 1++Aq (G l - 1) 0=Aq (G l) 0:=by
 cases l with
 | nil=>rfl
 | cons c l=>simp[CC,BY]
theorem AZC {q v:Int}{l:List Int}{i:Nat}{a b:Int}(B:l[i]?=J a)(H:l[i+1]?=J b):(CC q v l).take (i+1+1)=(CC q v l).take (i+1)++[Qt q a.toNat b.toNat v]:=by
 rw[List.take_add_one,AZB q v B H];rfl
theorem AOx {l:List En}(h:Ll l=I):∀e∈l,e.text.size<=maxLen:=λe B=>by
 unfold Ll at h;rw[Ak]at h;have:=xc l [] h.1 e B;simp only[En.ok,Ak,decide_eq_true_eq]at this;unfold maxLen;omega
theorem AEw : ∀l:List Nd,G l<=Nd.Az l
 | []=>BN _
 | b::l=>by
   have:=AEw l;simp only[Nd.Az,BA];have:0<b.cnt:=by cases b;simp only[Nd.cnt];omega
   omega
theorem ABJ (x:Af)(s:Aa)(AE:List Nd)(K:x.Ok)(hs:s.ok=I)(A5:(Dd AE).BX)(hc:(Dd AE).cnt<=900000)(hv:(Dd AE).Ad=I):AC AF 57 [.agg x.f.vs,.c (Cc x.d),.c (.sl (Nd.AG AE)),Aj s] (.A7 [.c (AV (x.CC s AE)),AR 0]):=by
 have hd:=K.dl;have EW:=Ma x.f;rw[K.val]at EW;have IH:=sM x.d (by omega) (AOx K.dv);rw[K.dv]at IH;have QW:=fI s;rw[hs]at QW;have js:=ABR AE A5 hc;rw[hv]at js;have Ce:G AE<=900000:=by have:=rY AE;have:=AEw AE;omega
 have DK:=AJU x.d AE (by omega) (by omega) (AIO A5);have Yi:=AAx K.dv AE;have Jg:=LI x.f s;rw[show IT x.f s=(x.sz s,0)from if_neg (by simp[hs,K.val])]at Jg;have H:=EI x.f.params.Al (x.sz s);unfold Af.CC;have hq:AU x.f.params.Al (x.sz s)=x.Al s:=F;rw[hq]at H;generalize hQ:x.Al s=Q at H ⊢;obtain⟨B,M⟩:=AI (I6 (JP x.d AE));have B0:G B=G AE:=by rw[<-M,ef,Zh]
 rw[M]at DK Yi ⊢;obtain⟨n,hn⟩:=AI (G B);have B3:n<=900000:=by omega
 have FP:(n:Int)<=9223372036854775807:=by omega
 have GO:8*(n:Int)<=281474976710656:=by omega
 obtain⟨rs,z⟩:=AI (B.map (λn=>[C.int .i64 n]));have Av:G rs=n:=by rw[<-z];simp[hn]
 have Rp:AV B=.sl rs:=by rw[<-z];rfl
 rw[Rp]at DK;have o:=AXF Q;unfold Aj at QW Jg o ⊢;simp only[AR]at Jg ⊢;refine en func57 ntmps57 ?_;refine wy (cj3 @Av @FP @GO ASM) (cj7 EW IH QW js Jg H DK W) ⟨?_⟩;rw[show Aq n (V.c (C.int .i64 0))=CK ((CC Q s.By B).take 1++Aq (n - 1) 0)by rw[<-hn,AZD];simp[CK]];refine lp (ι:={ k:Nat // k=0\/k+1<=n }) (λk=>[(15,.c (.int .i64 ((k.1:Int)+1)))]) (λk=>[.box 27 x.f.vs U,.box 35 [.c (.int .i64 s.By),.c (.bool s.Hd)] U,.box 3 (CK ((CC Q s.By B).take (k.1+1)++Aq (n - (k.1+1)) 0)) U]) (λk=>n - k.1) ⟨0,.inl F⟩ ?_ ?_;all_goals simp only[CG,Bw,CO,Ag,Ai]
 exact DH;rintro ⟨k,hk⟩;simp only;by_cases R:k+1<n;obtain⟨a,ha⟩:∃a,B[k]?=J a:=⟨_,BE (by omega)⟩
 obtain⟨b,hb⟩:∃b,B[k+1]?=J b:=⟨_,BE (by omega)⟩
 have B1:=Yi a (Cj ha);have B2:=Yi b (Cj hb);have Yz:rs[k]?=J [.int .i64 a]:=by rw[<-z,CM,ha];rfl
 have U8:rs[k+1]?=J [.int .i64 b]:=by rw[<-z,CM,hb];rfl
 have A1:=gx Yz;have A2:=gx U8;have HL:=o a.toNat b.toNat s (by omega) (by omega);rw[show ((a.toNat:Nat):Int)=a by omega,show ((b.toNat:Nat):Int)=b by omega]at HL;have GP:=AZC (q:=Q) (v:=s.By) ha hb;have Im:G ((CC Q s.By B).take (k+1))=k+1:=by rw[Fa,fF];omega
 obtain⟨D,hD⟩:=AI ((CC Q s.By B).take (k+1));rw[hD]at GP Im ⊢;generalize FQ:Qt Q a.toNat b.toNat s.By=v at HL GP;obtain⟨r,hr⟩:=AI (n - (k+1+1));have j8:n - (k+1)=r+1:=by omega
 rw[j8,BY];obtain⟨Z,hZ⟩:=AI (CK (D++0::Aq r 0));have G4:G Z=n:=by rw[<-hZ,Ts];simp;omega
 have z0:Z.set (k+1) (.c (.int .i64 v))=CK (D++[v]++Aq r 0):=by rw[<-hZ,ABG Im v];simp
 have Ej:k<n:=by omega
 have Dn:(k:Int)+1<(n:Int):=by omega
 have hw:AZ.wrap ((k:Int)+1 - 1)=(k:Int):=by rw[Ac];omega
 have A9:AZ.wrap ((k:Int)+1+1)=((k+1:Nat):Int)+1:=by rw[Ac];push_cast;rfl
 have A8:((k:Int)+1).toNat=k+1:=by omega
 have A6 : ¬(k:Int)+1<0:=by omega
 have A0:0<=(k:Int)+1:=by omega
 rw[hZ];refine wy (cj9 @Av @R @Dn @Yz @U8 @A1 @A2 @G4 @z0<|cj6 @hw @A9 @A8 @A6 @A0 @Ej ASM) (cj HL<|trivial) ⟨?_⟩;refine⟨⟨k+1,.inr (by omega)⟩,by first|omega|(simp only;omega),?_⟩;simp only[GP,hr,GX,BK,BU];exact DH;have Dn : ¬(k:Int)+1<(n:Int):=by omega
 have GP:(CC Q s.By B).take (k+1)++Aq (n - (k+1)) 0=CC Q s.By B:=by
  rw[Gl (by rw[fF];omega),show n - (k+1)=0 by omega];simp
 rw[GP];have S:G (CC Q s.By B)=n:=by rw[fF,hn]
 generalize hD:CC Q s.By B=D at S ⊢;have A3:Hc 1 n (D.map (C.int .i64))=D.map λn=>[C.int .i64 n]:=by have:=Zl D [];rw[List.append_nil,S]at this;exact this
 refine wu (.mk 13) (cj3 @Av @Dn @R ASM) trivial ⟨?_⟩;refine AW.Bi 2 rfl (XK _) (by simp only[V.Cs,V.Bi,B9,A3,if_true];exact rfl) (by simp only[Ai,Ag,Ap,BB,O.Bi,Zm,V.Cs,V.Bi];exact rfl) ?_;exact wz (cj @AV.eq_1<|ASM) W
theorem Am1 (x:Af)(l r:Nat)(s:Aa)(hs:s.ok=I)(q:l<8)(z:r<8):AC AF 120 [.agg x.f.vs,.c (.int .i64 (l:Int)),.c (.int .i64 (r:Int)),Aj s] (.c (.int .i64 (Qt (x.Al s) l r s.By))):=by
 have G7:=kW hs;obtain⟨v,hv⟩:∃v:Nat,s.By=(v:Int):=⟨s.By.toNat,by omega⟩
 have R:=Anj l r v q z (by omega);have B:=x7 x.f s;have M:=AYA x.f.params.Al (x.sz s);have S:0<=VX l r v/\VX l r v<=3:=by
  have:=AK7 l r q z;unfold VX;split;split<;>omega;omega
 have H:=Am5 (x.Al s) (VX l r v+2) (by omega);have hq:AU x.f.params.Al (x.sz s)=x.Al s:=F;have hz:BS x.f.params s=x.sz s:=F;rw[hq]at M;rw[hz]at B;rw[hv];unfold Aj at B ⊢;rw[hv]at B ⊢;unfold Qt;generalize hK:VX l r v=K at R H S ⊢;generalize hQ:x.Al s=Q at M H ⊢;have hw:AZ.wrap (K+2)=K+2:=Ac;by_cases o:K=0;subst o;refine en func120 ntmps120 ?_;exact wz gb (cj R<|trivial);refine en func120 ntmps120 ?_;exact wz (cj2 @o @hw gb) (cj4 R B M H W)
theorem Ank (x:Af)(s:Aa)(AE:List Nd)(K:x.Ok)(hs:s.ok=I)(A5:(Dd AE).BX)(hc:(Dd AE).cnt<=100000)(hv:(Dd AE).Ad=I):AC AF 69 [.agg x.f.vs,.c (Cc x.d),.c (.sl (Nd.AG AE)),Aj s] (.A7 [.c (AV (x.CC s AE)),AR 0]):=by
 have hd:=K.dl;have EW:=ba x.f K.fit;rw[K.val]at EW;have QW:=AAA s;rw[hs]at QW;have M:=Amc x.d AE (by omega) (AOx K.dv) A5 hc;rw[show O2 x.d AE=(I6 (JP x.d AE),0)from if_neg (by simp[K.dv,hv])]at M;have Yi:=AAx K.dv AE;have zT:=λl r hl hr=>Am1 x l r s hs hl hr
 unfold Af.CC;generalize hQ:x.Al s=Q at zT ⊢;obtain⟨B,R⟩:=AI (I6 (JP x.d AE));have Ce:G AE<=100000:=by have:=rY AE;have:=AEw AE;omega
 have A3:G B=G AE:=by rw[<-R,ef,Zh]
 rw[R]at M Yi ⊢;obtain⟨n,hn⟩:=AI (G B);have A9:n<=100000:=by omega
 obtain⟨rs,z⟩:=AI (B.map (λn=>[C.int .i64 n]));have o:G rs=n:=by rw[<-z];simp[hn]
 have Rp:AV B=.sl rs:=by rw[<-z];rfl
 unfold W4 at M;simp only[Rp,AR]at M ⊢;unfold Aj at QW zT ⊢;refine en func69 ntmps69 ?_;refine wy (cj @o<|MP) (cj3 M EW QW W) ⟨?_⟩;refine AW.le (Le.tL 12 3 1 F) ?_;simp only[BA,BO,Nat.reduceAdd,Ag,Ai,BK,BU];refine lp (ι:={ k:Nat // k<=n }) (λk=>[(12,.gr 2 1 (((CC Q s.By B).take k.1).map λn=>[C.int .i64 n])),(13,.c (.int .i64 (k.1:Int)))]) (λk=>[.box 27 x.f.vs U,.box 35 [.c (.int .i64 s.By),.c (.bool s.Hd)] U,.tok 3 1 k.1]) (λk=>n - k.1) ⟨0,CI _⟩ ?_ ?_;all_goals simp only[CG,Bw,CO,Ag,Ai]
 exact DH;rintro ⟨k,hk⟩;simp only;have Im:G ((CC Q s.By B).take k)=k:=by rw[Fa,fF];omega
 by_cases H:k<n;obtain⟨b,hb⟩:∃b,B[k]?=J b:=⟨_,BE (by omega)⟩
 have A8:=Yi b (Cj hb);have U8:rs[k]?=J [.int .i64 b]:=by rw[<-z,CM,hb];rfl
 have A1:=gx U8;have S:AZ.wrap ((k:Int)+1)=((k+1:Nat):Int):=by rw[Ac];push_cast;rfl
 have FO:k+1<=maxLen:=by unfold maxLen;omega
 have EX:(k+1)*8<=140737488355328:=by omega
 cases k with
 | zero =>
   have GP:(CC Q s.By B).take 1=[0]:=by
    cases B with
    | nil=>simp at hb
    | cons c l=>rfl
   refine wy (cj5 @o @H @FO @EX @S MP) trivial ⟨?_⟩;refine⟨⟨0+1,by omega⟩,by first|omega|(simp only;omega),?_⟩;simp only[Cz,GP];exact wd 3
 | succ k =>
   obtain⟨a,ha⟩:∃a,B[k]?=J a:=⟨_,BE (by omega)⟩
   have A6:=Yi a (Cj ha);have Yz:rs[k]?=J [.int .i64 a]:=by rw[<-z,CM,ha];rfl
   have A0:=gx Yz;have HL:=zT a.toNat b.toNat (by omega) (by omega);rw[show ((a.toNat:Nat):Int)=a by omega,show ((b.toNat:Nat):Int)=b by omega]at HL;have GP:=AZC (q:=Q) (v:=s.By) ha hb;generalize hD:(CC Q s.By B).take (k+1)=D at GP Im ⊢;generalize FQ:Qt Q a.toNat b.toNat s.By=v at HL GP;have hw:AZ.wrap (((k+1:Nat):Int) - 1)=(k:Int):=by rw[Ac];omega
   have A2:(0:Int)<((k+1:Nat):Int):=by omega
   have Ej:k<n:=by omega
   refine wy (cj9 @o @H @Yz @U8 @A0 @A1 @hw @S @A2<|cj4 @Ej @Im @FO @EX MP) (cj HL<|trivial) ⟨?_⟩;refine⟨⟨k+1+1,by omega⟩,by first|omega|(simp only;omega),?_⟩;simp only[GP,Fm,Ap,BB];exact wd 3
 obtain rfl:k=n:=by omega
 rw[Gl (by rw[fF,hn];exact BN _)];exact wz (cj3 @o @H @AV.eq_1 MP) W
theorem Ajq (f:AP)(s:Aa)(n:Int):AC AF 214 [.agg f.vs,Aj s,.c (.int .i64 n)] (.c (.int .i64 (AU n (BS f.params s)))):=by
 have B:=x7 f s;have H:=AYA n (BS f.params s);unfold Aj at B ⊢;refine en func214 ntmps214 ?_;exact wz results214 (cj2 B H W)
theorem ASY (g:Nat->Int)(a:Int)(k:Nat):((E6 (k+1)).map g).foldl mx a=mx (((E6 k).map g).foldl mx a) (g k):=by
 rw[List.range_succ,Fm,List.foldl_append];rfl
theorem Amm (cells:List AA)(AL AG c:Nat)(Q:G cells=AG*AL)(hc:c<AL)(GM:AL<=16)(KY:G cells<=256):AC AF 217 [.c (.int .i64 (AL:Int)),.c (.sl (AA.AG cells)),.c (.int .i64 (c:Int))] (.c (.int .i64 (Lh AL cells c))):=by
 obtain⟨rs,S⟩:=AI (AA.AG cells);have R:G rs=G cells:=by rw[<-S,GA]
 obtain⟨M,q⟩:∃M:Nat->Int,M=λj=>((E6 j).map λk=>(A4 cells (c+AL*k)).w).foldl mx 0:=⟨_,rfl⟩
 have z:M 0=0:=by rw[q];rfl
 have qQ : ∀j,M (j+1)=mx (M j) (A4 cells (c+AL*j)).w:=λj=>by rw[q];exact ASY _ _ _
 have A0:M AG=Lh AL cells c:=by
  have hb : ∀k,k<AG->c+AL*k<G cells:=λk hk=>by
   rw[Q];have:AL*k+AL<=AG*AL:=by rw[aO AG AL,<-AQH];exact mj _ hk
   omega
  have:=xA (λk:Nat=>c+AL*k) (c:=c) (show 0<AL by omega) cells (E6 AG) 0 0 (λy hy=>hb y (KP.1 hy)) (λk y hy=>by
   obtain⟨hk,e⟩:=Br.1 hy;rw[ACv]at e;rw[<-e,Cz]) (by rw[AMk,Cz,Q,aO AG AL];omega)
  rw[q];rw[Nat.mul_zero,M8]at this;exact this
 rw[S];rw[<-A0];refine en func217 ntmps217 ?_;refine wy (cj @R<|Abj) trivial ⟨?_⟩;have e0:(c:Int)=((c+AL*0:Nat):Int):=by simp
 rw[e0];refine lp (ι:={ j:Nat // j<=AG }) (λj=>[(7,.c (.int .i64 (M j.1))),(8,.c (.int .i64 ((c+AL*j.1:Nat):Int)))]) (λ_=>[]) (λj=>AG - j.1) ⟨0,CI _⟩ ?_ ?_;all_goals simp only[CG,Bw,CO,Ag,Ai]
 exact ER @z;rintro ⟨j,hj⟩;simp only;obtain⟨i,H⟩:=AI (c+AL*j);rw[H];by_cases A2:j<AG;have OF:i<G cells:=by
  rw[Q,<-H];have:AL*j+AL<=AG*AL:=by rw[aO AG AL,<-AQH];exact mj _ A2
  omega
 have A1:i<G rs:=by omega
 have K:rs[i]?=J (A4 cells i).row:=by rw[<-S,lF,CM,wQ OF];rfl
 have o:=gx K;have hw:AZ.wrap ((i:Int)+(AL:Int))=((c+AL*(j+1):Nat):Int):=by
  rw[Ac,Nat.mul_add,<-Nat.add_assoc,H];push_cast;omega
 have B:=qQ j;rw[H]at B;generalize hb:A4 cells i=b at K o B;obtain⟨b0,b1,b2,b3,b4,b5,b6,b7,b8,b9,Oz⟩:=b;simp only[AA.row]at K o B;generalize hm:M j=m at B ⊢;refine wy (cj6 @R @OF @A1 @K @o @hw Abj) trivial ⟨?_⟩;refine⟨⟨j+1,by omega⟩,by simp only;omega,?_⟩;simp only[B,mx];exact DH;obtain rfl:j=AG:=by omega
 have OF : ¬i<G cells:=by rw[Q,<-H,aO AL j];omega
 exact wz (cj2 @R @OF Abj) W
theorem AnO (cells:List AA)(AL AG r:Nat)(q:Int)(hn:G cells=AG*AL)(hr:r<AG)(HL:1<=AL)(GM:AL<=16)(KY:G cells<=256):AC AF 215 [.c (.int .i64 (AL:Int)),.c (.sl (AA.AG cells)),.c (.int .i64 (r:Int)),.c (.int .i64 q)] (.A7 [.c (.int .i64 (MW q (Ha AL cells r))),.c (.int .i64 (N1 q (Ha AL cells r)))]):=by
 obtain⟨rs,Aw⟩:=AI (AA.AG cells);have Av:G rs=G cells:=by rw[<-Aw,GA]
 obtain⟨A,z⟩:∃A:Nat->Int,A=λj=>((E6 j).map λk=>(A4 cells (r*AL+k)).h).foldl mx (AU q 70):=⟨_,rfl⟩
 obtain⟨D,hD⟩:∃D:Nat->Int,D=λj=>((E6 j).map λk=>(A4 cells (r*AL+k)).d).foldl mx (AU q 30):=⟨_,rfl⟩
 have Gr:A 0=AU q 70:=by rw[z];rfl
 have jM:D 0=AU q 30:=by rw[hD];rfl
 have M : ∀j,A (j+1)=mx (A j) (A4 cells (r*AL+j)).h:=λj=>by rw[z];exact ASY _ _ _
 have Q : ∀j,D (j+1)=mx (D j) (A4 cells (r*AL+j)).d:=λj=>by rw[hD];exact ASY _ _ _
 have A2:r*AL+AL<=AG*AL:=by rw[<-uc];exact Vj _ hr
 have OI:r<=256:=by have:r*1<=r*AL:=mj _ HL;omega
 have hE:A AL=MW q (Ha AL cells r)/\D AL=N1 q (Ha AL cells r):=by
  have:=ANV (λk:Nat=>r*AL+k) (r:=r) q cells (E6 AL) (λy hy=>by have:=KP.1 hy;omega) AMk (λk y hy=>by
   obtain⟨hk,e⟩:=Br.1 hy;rw[ACv]at e;rw[<-e])
  rw[z,hD];exact this
 rw[Aw,<-hE.1,<-hE.2];have B:=AYA q 70;have o:=AYA q 30;rw[<-Gr]at B;rw[<-jM]at o;obtain⟨I,hI⟩:=AI (r*AL);have A0:(r+1)*AL=I+AL:=by rw[uc,hI]
 have EK:AZ.wrap ((r:Int)*(AL:Int))=(I:Int):=by
  have:(r:Int)*(AL:Int)=(I:Int):=by rw[<-hI];push_cast;rfl
  rw[this];exact Ac
 have R:AZ.wrap ((r:Int)+1)=(r:Int)+1:=Ac;have S:AZ.wrap (((r:Int)+1)*(AL:Int))=(I:Int)+(AL:Int):=by
  have:((r:Int)+1)*(AL:Int)=(I:Int)+(AL:Int):=by have:=congrArg (λn:Nat=>(n:Int)) A0;push_cast at this;exact this
  rw[this];exact Ac
 rw[hI]at M Q A2;clear hE z hD B o;have B:=AYA q 70;have o:=AYA q 30;rw[<-Gr]at B;rw[<-jM]at o;refine en func215 ntmps215 ?_;refine wy (cj2 @Av @EK Abi) (cj2 B o W) ⟨?_⟩;have e0:(I:Int)=((I+0:Nat):Int):=by simp
 rw[e0];refine lp (ι:={ k:Nat // k<=AL }) (λk=>[(10,.c (.int .i64 (A k.1))),(11,.c (.int .i64 (D k.1))),(12,.c (.int .i64 ((I+k.1:Nat):Int)))]) (λ_=>[]) (λk=>AL - k.1) ⟨0,CI _⟩ ?_ ?_;all_goals simp only[CG,Bw,CO,Ag,Ai]
 exact DH;rintro ⟨k,hk⟩;simp only;obtain⟨i,hi⟩:=AI (I+k);rw[hi];by_cases A3:k<AL;have OF:i<G cells:=by omega
 have A1:i<G rs:=by omega
 have Dn:(i:Int)<(I:Int)+(AL:Int):=by omega
 have hg:rs[i]?=J (A4 cells i).row:=by rw[<-Aw,lF,CM,wQ OF];rfl
 have Ei:=gx hg;have hw:AZ.wrap ((i:Int)+1)=((I+(k+1):Nat):Int):=by rw[Ac];omega
 have H:=M k;have K:=Q k;rw[hi]at H K;generalize hb:A4 cells i=b at hg Ei H K;obtain⟨b0,b1,b2,b3,b4,b5,b6,b7,b8,b9,Oz⟩:=b;simp only[AA.row]at hg Ei H K;obtain⟨m,hm⟩:=AI (A k);obtain⟨m',qq⟩:=AI (D k);rw[hm]at H;rw[qq]at K;rw[hm,qq];refine wy (cj9 @Av @OF @A1 @hg @Ei @hw @R @S @Dn Abi) trivial ⟨?_⟩;refine⟨⟨k+1,by omega⟩,by simp only;omega,?_⟩;simp only[H,K,mx];exact DH;obtain rfl:k=AL:=by omega
 have Dn : ¬(i:Int)<(I:Int)+(k:Int):=by omega
 exact wz (cj4 @Av @R @S @Dn Abi) W
theorem Ami (f:AP)(s:Aa)(cells:List AA)(AL AG:Nat)(hf:f.Fit)(hv:f.valid=I)(ho:s.ok=I)(hn:G cells=AG*AL)(HL:1<=AL)(GM:AL<=16)(HP:1<=AG)(KY:G cells<=256)(hb : ∀b∈cells,b.Ad=I/\b.BX/\b.cnt<=1000000):AC AF 213 [.agg f.vs,Aj s,.c (.int .i64 (AL:Int)),.c (.sl (AA.AG cells))] (.c (.int .i64 0)):=by
 have z:=ba f hf;rw[hv]at z;have Q:=AAA s;rw[ho]at Q;obtain⟨q,M⟩:=AI (AA.AG cells);have H:G q=G cells:=by rw[<-M,GA]
 have Jh:1<=G cells:=by rw[hn];exact Ps HP (AMy _ HL)
 have k1 : ¬(AL:Int)<1:=by omega
 have k2 : ¬16<(AL:Int):=by omega
 have k3 : ¬(G cells:Int)=0:=by omega
 have k4 : ¬256<(G cells:Int):=by omega
 have k5 : ¬(AL:Int)=0:=by omega
 have k6:(G cells:Int).tmod (AL:Int)=0:=by
  rw[hn];push_cast
  exact AkD _ _
 generalize kA:G cells=n at H k3 k4 k6 KY;rw[M];unfold Aj at Q ⊢;refine en func213 ntmps213 ?_;refine wy (cj @H<|Abg) (cj2 z Q W) ⟨?_⟩;refine lp (ι:={ k:Nat // k<=n }) (λk=>[(8,.c (.int .i64 0)),(9,.c (.int .i64 (k.1:Int)))]) (λk=>[.box 27 f.vs U,.box 35 [.c (.int .i64 s.By),.c (.bool s.Hd)] U]) (λk=>n - k.1) ⟨0,CI _⟩ ?_ ?_;all_goals simp only[CG,Bw,CO,Ag,Ai]
 exact DH;rintro ⟨k,hk⟩;simp only;by_cases o:k<n;have B:k<G cells:=by omega
 have S:k<G q:=by omega
 have R:q[k]?=J (A4 cells k).row:=by rw[<-M,lF,CM,wQ B];rfl
 have Ei:=gx R;obtain⟨h1,h2,h3⟩:=hb _ (bK B);have K:=m7 _ h2 h3;rw[h1]at K;have hw:AZ.wrap ((k:Int)+1)=((k+1:Nat):Int):=by rw[Ac];push_cast;rfl
 generalize CT:A4 cells k=b at R Ei K;unfold Ao at K;refine wy (cj6 @H @o @S @R @Ei @hw Abg) (cj K<|trivial) ⟨?_⟩;refine⟨⟨k+1,by omega⟩,by simp only;omega,?_⟩;exact DH;obtain rfl:k=n:=by omega
 exact wz (cj7 @H @k1 @k2 @k3 @k4 @k5 @k6 Abg) W
end Go.Proofs.YtglaipbdiofkfaaGreat
