/- Part of the proof of breakpointLength.proved. Conditions: none. (Joined and shortened by a program.) -/
import Derived.Test.YtpodcjcajanldaaGreatP40
import Derived.Test.YtpodcjcajanldaaGreatP41
import Derived.Test.YtpodcjcajanldaaGreatP42
set_option linter.unusedVariables false
set_option linter.unusedSimpArgs false
set_option maxRecDepth 100000
set_option maxHeartbeats 16000000
open Bool renaming and_eq_true→An,false_eq_true→Fe
open Nat renaming dvd_of_mod_eq_zero→AIZ,zero_add→Cu,le_refl→BW,zero_le→Cc,le_of_ble_eq_true→Fg
open Go.Proofs.Tryz renaming prog→AD,results105→yA,func78→IV,ntmps78→IX,results78→IY,func55→pE,ntmps55→pS,results55→SM
open Option renaming getD_some→EM,isSome_some→Hg,getD_none→Gl,isSome_none→H7
open List renaming mem_cons_self→Er,mem_cons→Cb,mem_cons_of_mem→Ff,length_pos_iff→NP,getElem?_eq_getElem→BP,map_cons→Al,map_nil→A8,foldl_cons→Bl,foldl_nil→B7,set_cons_zero→BC,set_cons_succ→Az
open Option.some renaming injEq→BE,inj→JW
open Go.IntKind renaming i64→Ad
namespace Go.Proofs.YtpodcjcajanldaaGreat
open Go.RowKit
theorem AJN (f:AI)(s:AM)(AF:Nat)(cells:List AA):ID f s AF cells=((okB (ID f s AF cells)).getD AA.zero,if (okB (ID f s AF cells)).isSome=true then 0 else 6):=by
 apply AEF;unfold ID;split
 . exact .inr rfl
 . unfold Cm;split
   . exact .inl rfl
   . exact .inr rfl
theorem APE {c:Int}{n:Nat}(h:Dh 12 c n=true):∃AF rows:Nat,c=(AF:Int)/\n=rows*AF/\1<=AF/\AF<=16/\1<=rows/\n<=256:=by
 simp only[Dh,if_true,An,decide_eq_true_eq]at h;obtain⟨h1,h2,h3,h4,h5⟩:=h;refine⟨c.toNat,n / c.toNat,by omega,?_,by omega,by omega,?_,h4⟩
 . have e:c=(c.toNat:Int):=by omega
   rw[e]at h5;have h6:n % c.toNat=0:=by
    have:((n:Int).tmod (c.toNat:Int))=((n % c.toNat:Nat):Int):=rfl;rw[this]at h5;omega
   exact(Nat.div_mul_cancel (AIZ h6)).symm
 . have e:c=(c.toNat:Int):=by omega
   rw[e]at h5;have h6:n % c.toNat=0:=by
    have:((n:Int).tmod (c.toNat:Int))=((n % c.toNat:Nat):Int):=rfl;rw[this]at h5;omega
   have h7:c.toNat<=n:=Nat.le_of_dvd (by omega) (AIZ h6);exact Nat.div_pos h7 (by omega)
theorem AUH {x:Ae}{m:Nat}{n:Nd}{src:List Int}{s:AM}(h:Pj x m n src s)(hk:n.kind=12):AQ AD 105 [Bf x m,At n,.c (Ab src),Ai s] m (BI x.f) (BI x.f) (BS (DP x s src n)):=by
 obtain⟨ss,hss⟩:=AE (Ab src);rcases h.parts with ⟨hin,hq⟩|⟨L,hl,hb,hin,hq⟩
 . rw[hin];simp only[BS];rw[hss]at hq ⊢;unfold Bf Ai At at *
   refine CP Tryz.func105 Tryz.ntmps105 ?_;exact qz yA (cj hq<|trivial)
 . have C7:=hq.data Td;have hkn:=O5 h.own;rw[hk]at hkn;obtain⟨AF,rows,tB,QH,c1,c2,r1,n2⟩:=APE hkn;have hC:Cells x s AF rows L:=⟨⟨by rw[hl,QH],c1,c2,r1,by omega,U8 h.hx h.hs,vm h.hx h.hs,fun b hb'=>⟨hb.w b hb',(DS (hb.v b hb')).1.2⟩⟩,hb.v,by have:=hb.c;omega⟩
   have Io:DP x s src n=okB (ID x.f s AF L):=by rw[hin,hk];simp[Dz,tB]
   have BX:=ARL x s AF rows L h.hx h.hs hC;rw[AJN]at BX;rw[Io];obtain⟨o,ho⟩:=AE (okB (ID x.f s AF L));rw[ho]at BX ⊢;rw[hss]at C7 ⊢;obtain⟨rs,Ak⟩:=AE (AA.rows L);rw[Ak]at C7 BX;unfold Bf Ai At at *
   cases o with
   | some B =>
     have CF:=Ix B;simp only[EM,Hg,if_true,Bd,Af,Ay]at BX CF;simp only[BS,Ay];refine CP Tryz.func105 Tryz.ntmps105 ?_;exact qz (cj @tB<|yA) (cj C7<|cj BX<|cj CF<|trivial)
   | none =>
     have CF:=KI AA.zero m (BI x.f);simp only[Gl,H7,Fe,if_false,Bd,Af,Ay]at BX CF;simp only[BS,Ay];refine CP Tryz.func105 Tryz.ntmps105 ?_;exact qz (cj @tB<|yA) (cj C7<|cj BX<|cj CF<|trivial)
theorem APW {n:Nd}(ho:n.CZ=true)(hk:n.kind=2\/n.kind=3\/n.kind=4):n.kids=[]:=by
 have:=O5 ho;rcases hk with h|h|h
 . rw[h]at this;simp[Dh]at this;exact this.2
 . rw[h]at this;simp[Dh]at this;exact this.2
 . rw[h]at this;simp[Dh]at this;exact this.2
theorem uS (x:Ae)(s:AM)(src:List Int){n:Nd}(ho:n.CZ=true)(hk:n.kind=2\/n.kind=3\/n.kind=4):DP x s src n=if n.kind=2 then x.sym s n.text else x.NM s n.text:=by
 have h:=APW ho hk;unfold DP;rw[h];simp only[FJ,Dz];rcases hk with h|h|h<;>simp[h]
theorem ATu (x:Ae)(m:Nat)(n:Nd)(src:List Int)(s:AM)(DG:src.length<=100)(hk:n.kind=2)(hm:AQ AD 98 [Bf x m,At n,.c (Ab src),Ai s] m (BI x.f) (BI x.f) (BS (DP x s src n))):AQ AD 78 [Bf x m,At n,.c (Ab src),Ai s] m (BI x.f) (BI x.f) (BS (Ei x s src n)):=by
 rw[QS];have CK:=fun b=>N3 b 2 src (by omega)
 obtain⟨ss,hss⟩:=AE (Ab src);rw[hss]at hm CK ⊢;unfold Bf Ai At at *
 cases hb:DP x s src n with
 | none =>
   rw[hb]at hm;simp only[BS]at hm ⊢;refine CP IV IX ?_;exact qz (cj @hk<|IY) (cj hm<|trivial)
 | some b =>
   rw[hb]at hm;have CK:=CK b;simp only[BS,Ay]at hm CK ⊢;refine CP IV IX ?_;exact qz (cj @hk<|IY) (cj hm<|cj CK<|trivial)
theorem ATv (x:Ae)(m:Nat)(n:Nd)(src:List Int)(s:AM)(DG:src.length<=100)(hk:n.kind=3)(hm:AQ AD 99 [Bf x m,At n,.c (Ab src),Ai s] m (BI x.f) (BI x.f) (BS (DP x s src n))):AQ AD 78 [Bf x m,At n,.c (Ab src),Ai s] m (BI x.f) (BI x.f) (BS (Ei x s src n)):=by
 rw[QS];have CK:=fun b=>N3 b 2 src (by omega)
 obtain⟨ss,hss⟩:=AE (Ab src);rw[hss]at hm CK ⊢;unfold Bf Ai At at *
 cases hb:DP x s src n with
 | none =>
   rw[hb]at hm;simp only[BS]at hm ⊢;refine CP IV IX ?_;exact qz (cj @hk<|IY) (cj hm<|trivial)
 | some b =>
   rw[hb]at hm;have CK:=CK b;simp only[BS,Ay]at hm CK ⊢;refine CP IV IX ?_;exact qz (cj @hk<|IY) (cj hm<|cj CK<|trivial)
theorem ATw (x:Ae)(m:Nat)(n:Nd)(src:List Int)(s:AM)(DG:src.length<=100)(hk:n.kind=4)(hm:AQ AD 99 [Bf x m,At n,.c (Ab src),Ai s] m (BI x.f) (BI x.f) (BS (DP x s src n))):AQ AD 78 [Bf x m,At n,.c (Ab src),Ai s] m (BI x.f) (BI x.f) (BS (Ei x s src n)):=by
 rw[QS];have CK:=fun b=>N3 b 2 src (by omega)
 obtain⟨ss,hss⟩:=AE (Ab src);rw[hss]at hm CK ⊢;unfold Bf Ai At at *
 cases hb:DP x s src n with
 | none =>
   rw[hb]at hm;simp only[BS]at hm ⊢;refine CP IV IX ?_;exact qz (cj @hk<|IY) (cj hm<|trivial)
 | some b =>
   rw[hb]at hm;have CK:=CK b;simp only[BS,Ay]at hm CK ⊢;refine CP IV IX ?_;exact qz (cj @hk<|IY) (cj hm<|cj CK<|trivial)
theorem ATx (x:Ae)(m:Nat)(n:Nd)(src:List Int)(s:AM)(DG:src.length<=100)(hk:n.kind=5)(hm:AQ AD 100 [Bf x m,At n,.c (Ab src),Ai s] m (BI x.f) (BI x.f) (BS (DP x s src n))):AQ AD 78 [Bf x m,At n,.c (Ab src),Ai s] m (BI x.f) (BI x.f) (BS (Ei x s src n)):=by
 rw[QS];have CK:=fun b=>N3 b 2 src (by omega)
 obtain⟨ss,hss⟩:=AE (Ab src);rw[hss]at hm CK ⊢;unfold Bf Ai At at *
 cases hb:DP x s src n with
 | none =>
   rw[hb]at hm;simp only[BS]at hm ⊢;refine CP IV IX ?_;exact qz (cj @hk<|IY) (cj hm<|trivial)
 | some b =>
   rw[hb]at hm;have CK:=CK b;simp only[BS,Ay]at hm CK ⊢;refine CP IV IX ?_;exact qz (cj @hk<|IY) (cj hm<|cj CK<|trivial)
theorem ATy (x:Ae)(m:Nat)(n:Nd)(src:List Int)(s:AM)(DG:src.length<=100)(hk:n.kind=6)(hm:AQ AD 101 [Bf x m,At n,.c (Ab src),Ai s] m (BI x.f) (BI x.f) (BS (DP x s src n))):AQ AD 78 [Bf x m,At n,.c (Ab src),Ai s] m (BI x.f) (BI x.f) (BS (Ei x s src n)):=by
 rw[QS];have CK:=fun b=>N3 b 2 src (by omega)
 obtain⟨ss,hss⟩:=AE (Ab src);rw[hss]at hm CK ⊢;unfold Bf Ai At at *
 cases hb:DP x s src n with
 | none =>
   rw[hb]at hm;simp only[BS]at hm ⊢;refine CP IV IX ?_;exact qz (cj @hk<|IY) (cj hm<|trivial)
 | some b =>
   rw[hb]at hm;have CK:=CK b;simp only[BS,Ay]at hm CK ⊢;refine CP IV IX ?_;exact qz (cj @hk<|IY) (cj hm<|cj CK<|trivial)
theorem ATz (x:Ae)(m:Nat)(n:Nd)(src:List Int)(s:AM)(DG:src.length<=100)(hk:n.kind=7)(hm:AQ AD 102 [Bf x m,At n,.c (Ab src),Ai s] m (BI x.f) (BI x.f) (BS (DP x s src n))):AQ AD 78 [Bf x m,At n,.c (Ab src),Ai s] m (BI x.f) (BI x.f) (BS (Ei x s src n)):=by
 rw[QS];have CK:=fun b=>N3 b 2 src (by omega)
 obtain⟨ss,hss⟩:=AE (Ab src);rw[hss]at hm CK ⊢;unfold Bf Ai At at *
 cases hb:DP x s src n with
 | none =>
   rw[hb]at hm;simp only[BS]at hm ⊢;refine CP IV IX ?_;exact qz (cj @hk<|IY) (cj hm<|trivial)
 | some b =>
   rw[hb]at hm;have CK:=CK b;simp only[BS,Ay]at hm CK ⊢;refine CP IV IX ?_;exact qz (cj @hk<|IY) (cj hm<|cj CK<|trivial)
theorem AT0 (x:Ae)(m:Nat)(n:Nd)(src:List Int)(s:AM)(DG:src.length<=100)(hk:n.kind=8)(hm:AQ AD 102 [Bf x m,At n,.c (Ab src),Ai s] m (BI x.f) (BI x.f) (BS (DP x s src n))):AQ AD 78 [Bf x m,At n,.c (Ab src),Ai s] m (BI x.f) (BI x.f) (BS (Ei x s src n)):=by
 rw[QS];have CK:=fun b=>N3 b 2 src (by omega)
 obtain⟨ss,hss⟩:=AE (Ab src);rw[hss]at hm CK ⊢;unfold Bf Ai At at *
 cases hb:DP x s src n with
 | none =>
   rw[hb]at hm;simp only[BS]at hm ⊢;refine CP IV IX ?_;exact qz (cj @hk<|IY) (cj hm<|trivial)
 | some b =>
   rw[hb]at hm;have CK:=CK b;simp only[BS,Ay]at hm CK ⊢;refine CP IV IX ?_;exact qz (cj @hk<|IY) (cj hm<|cj CK<|trivial)
theorem AT1 (x:Ae)(m:Nat)(n:Nd)(src:List Int)(s:AM)(DG:src.length<=100)(hk:n.kind=9)(hm:AQ AD 102 [Bf x m,At n,.c (Ab src),Ai s] m (BI x.f) (BI x.f) (BS (DP x s src n))):AQ AD 78 [Bf x m,At n,.c (Ab src),Ai s] m (BI x.f) (BI x.f) (BS (Ei x s src n)):=by
 rw[QS];have CK:=fun b=>N3 b 2 src (by omega)
 obtain⟨ss,hss⟩:=AE (Ab src);rw[hss]at hm CK ⊢;unfold Bf Ai At at *
 cases hb:DP x s src n with
 | none =>
   rw[hb]at hm;simp only[BS]at hm ⊢;refine CP IV IX ?_;exact qz (cj @hk<|IY) (cj hm<|trivial)
 | some b =>
   rw[hb]at hm;have CK:=CK b;simp only[BS,Ay]at hm CK ⊢;refine CP IV IX ?_;exact qz (cj @hk<|IY) (cj hm<|cj CK<|trivial)
theorem ATr (x:Ae)(m:Nat)(n:Nd)(src:List Int)(s:AM)(DG:src.length<=100)(hk:n.kind=10)(hm:AQ AD 103 [Bf x m,At n,.c (Ab src),Ai s] m (BI x.f) (BI x.f) (BS (DP x s src n))):AQ AD 78 [Bf x m,At n,.c (Ab src),Ai s] m (BI x.f) (BI x.f) (BS (Ei x s src n)):=by
 rw[QS];have CK:=fun b=>N3 b 2 src (by omega)
 obtain⟨ss,hss⟩:=AE (Ab src);rw[hss]at hm CK ⊢;unfold Bf Ai At at *
 cases hb:DP x s src n with
 | none =>
   rw[hb]at hm;simp only[BS]at hm ⊢;refine CP IV IX ?_;exact qz (cj @hk<|IY) (cj hm<|trivial)
 | some b =>
   rw[hb]at hm;have CK:=CK b;simp only[BS,Ay]at hm CK ⊢;refine CP IV IX ?_;exact qz (cj @hk<|IY) (cj hm<|cj CK<|trivial)
theorem ATs (x:Ae)(m:Nat)(n:Nd)(src:List Int)(s:AM)(DG:src.length<=100)(hk:n.kind=11)(hm:AQ AD 104 [Bf x m,At n,.c (Ab src),Ai s] m (BI x.f) (BI x.f) (BS (DP x s src n))):AQ AD 78 [Bf x m,At n,.c (Ab src),Ai s] m (BI x.f) (BI x.f) (BS (Ei x s src n)):=by
 rw[QS];have CK:=fun b=>N3 b 2 src (by omega)
 obtain⟨ss,hss⟩:=AE (Ab src);rw[hss]at hm CK ⊢;unfold Bf Ai At at *
 cases hb:DP x s src n with
 | none =>
   rw[hb]at hm;simp only[BS]at hm ⊢;refine CP IV IX ?_;exact qz (cj @hk<|IY) (cj hm<|trivial)
 | some b =>
   rw[hb]at hm;have CK:=CK b;simp only[BS,Ay]at hm CK ⊢;refine CP IV IX ?_;exact qz (cj @hk<|IY) (cj hm<|cj CK<|trivial)
theorem ATt (x:Ae)(m:Nat)(n:Nd)(src:List Int)(s:AM)(DG:src.length<=100)(hk:n.kind=12)(hm:AQ AD 105 [Bf x m,At n,.c (Ab src),Ai s] m (BI x.f) (BI x.f) (BS (DP x s src n))):AQ AD 78 [Bf x m,At n,.c (Ab src),Ai s] m (BI x.f) (BI x.f) (BS (Ei x s src n)):=by
 rw[QS];have CK:=fun b=>N3 b 2 src (by omega)
 obtain⟨ss,hss⟩:=AE (Ab src);rw[hss]at hm CK ⊢;unfold Bf Ai At at *
 cases hb:DP x s src n with
 | none =>
   rw[hb]at hm;simp only[BS]at hm ⊢;refine CP IV IX ?_;exact qz (cj @hk<|IY) (cj hm<|trivial)
 | some b =>
   rw[hb]at hm;have CK:=CK b;simp only[BS,Ay]at hm CK ⊢;refine CP IV IX ?_;exact qz (cj @hk<|IY) (cj hm<|cj CK<|trivial)
theorem AUO {q:Int}(h0:0<=q)(h1:q<=1073741824){l r:Nat}(hl:l<8)(hr:r<8)(v:Int):0<=Md q l r v/\Md q l r v<=1073741824:=by
 refine⟨AGl h0 l r v,?_⟩;have hkb:0<=Lk l r v/\Lk l r v<=3:=by
  have:=wg l r hl hr;unfold Lk;split
  . split<;>omega
  . omega
 unfold Md;obtain⟨K,hK⟩:=AE (Lk l r v);rw[hK]at hkb ⊢;split
 . omega
 . unfold XP;split
   . have h3:0<=q*(K+2):=Int.mul_nonneg h0 (by omega);have h4:q*(K+2)<=q*5:=Int.mul_le_mul_of_nonneg_left (by omega) h0;unfold FI;rw[if_pos h3];omega
   . omega
theorem AGn {q:Int}(h0:0<=q)(h1:q<=1073741824)(v:Int):∀(l:List Int) (p:Int),(0<=p/\p<=7)->(∀k∈l,0<=k/\k<=7)->∀k∈R0 q v p l,Aw k=true
 | [],_,_,_,k,hk=>by cases hk
 | c::l,p,hp,hl,k,hk=>by
   have hc:=hl c Er;simp only[R0]at hk;rcases Cb.1 hk with rfl|hk
   . have:=AUO h0 h1 (l:=p.toNat) (r:=c.toNat) (by omega) (by omega) v;unfold Aw;simp;omega
   . exact AGn h0 h1 v l c hc (fun j hj=>hl j (Ff _ hj)) k hk
theorem AUU {x:Ae}(hx:x.Ok){s:AM}(hs:s.ok=true)(kids:List Nd):(x.DK s kids).all Aw=true:=by
 rw[List.all_eq_true];intro k hk;have hb:=vN hx.dv kids;unfold Ae.DK at hk;cases hl:LB (Ga x.d kids)with
 | nil=>rw[hl]at hk;cases hk
 | cons c l =>
   rw[hl]at hk hb;simp only[DK]at hk;rcases Cb.1 hk with rfl|hk
   . decide
   . exact AGn (U8 hx hs) (vm hx hs) _ l c (hb c Er) (fun j hj=>hb j (Ff _ hj)) k hk
theorem AUS (x:Ae)(s:AM)(kids:List Nd):(x.DK s kids).length=kids.length:=by
 unfold Ae.DK;rw[Xw,nH,U4]
def jM (x:Ae)(m:Nat)(n:Nd)(src:List Int)(s:AM):Prop:=∀(j:Nat) (k:Nd),n.kids[j]?=some k->AQ AD 78 [Bf x m,At k,.c (Ab (src++[(j:Int)])),Ai s] m (BI x.f) (BI x.f) (BS (MP x s src j k))
structure jQ (x:Ae)(n:Nd)(src:List Int)(s:AM):Prop where
 hx:x.Ok
 hs:s.ok=true
 k1:n.kind=1
 form:n.F5=true
 ok:n.Bc
 cn:n.cnt<=80
 dp:n.BB<=24
 sr:Src src 0 n.BB
theorem ADI {x:Ae}(hx:x.Ok){s:AM}(hs:s.ok=true){src:List Int}{d:Nat}(ES:Src src 0 (d+1)):∀(l:List Nd) (i:Nat) (L:List AA),Nd.deps l<=d->Nd.GX 1 l=true->FF x s src i l=some L->(∀b∈L,b.Av=true)/\AA.A9 L<=10000*Nd.A9 l/\L.length=l.length
 | [],i,L,_,_,h=>by
   simp only[FF,BE]at h;subst h;exact⟨fun b hb=>(by cases hb),by simp[AA.A9],rfl⟩
 | n::l,i,L,hd,hf,h=>by
   simp only[Nd.deps]at hd;simp only[Nd.GX,An]at hf;simp only[FF]at h;split at h
   . cases h
   . rename_i b hb;split at h
     . cases h
     . rename_i r hr;simp only[BE]at h;subst h;obtain⟨h1,h2,h3⟩:=ADI hx hs ES l (i+1) r (by omega) hf.2 hr;have dr:=hf.1.2;rw[U2,An]at dr;have Ev:n.kind≠1:=by intro e;have:=hf.1.1;rw[e]at this;simp[IK]at this
       obtain⟨h4,h5⟩:=AOY hx hs dr.1 Ev (ES.add i (by omega)) hb;refine⟨fun c hc=>?_,?_,by simp[h3]⟩
       . rcases Cb.1 hc with rfl|hc
         . exact h4
         . exact h1 c hc
       . simp only[AA.A9,Nd.A9];omega
theorem AFk {n:Nd}(h:n.F5=true)(hk:n.kind=1):n=EV n.kids:=by
 obtain⟨k,t,c,kids⟩:=n;simp only at hk;subst hk;simp only[Nd.F5,An]at h;have h1:=h.1.1;have h2:=h.1.2;simp[I2]at h1;simp[Dh]at h2;rw[h1,h2.1];rfl
theorem AUd (x:Ae)(m:Nat)(n:Nd)(src:List Int)(s:AM)(h:jQ x n src s)(hn:n.kids=[]):AQ AD 55 [Bf x m,At n,.c (Ab src),Ai s] m (BI x.f) (BI x.f) (BS (Db x s src n)):=by
 have DG:=h.sr.len;have Am:Db x s src n=some (x.empty s src):=by
  obtain⟨k,t,c,kids⟩:=n;simp only at hn;subst hn;simp[Db]
 rw[Am];have No:=nW x m x.f.params.BZ s h.hs;have Ug:=Dn (x.BZ s) 50;have tv:=nW x m x.f.params.FV s h.hs;have tw:scale x.f.params.BZ (x.sz s)=x.BZ s:=rfl;rw[tw]at No;obtain⟨H,hH⟩:=AE (scale x.f.params.FV (x.sz s));rw[hH]at tv;have BL:=fun w=>MX w H 0 [] trivial (by simp[AA.A9])
 have CK:=fun w=>N3 (CB w H 0 []) 1 src (by omega)
 have KF:Nd.rows n.kids=[]:=by rw[hn];rfl
 simp only[AA.rows]at BL;obtain⟨ss,hss⟩:=AE (src.map (fun n=>[C.int .i64 n]));have LY:Ab src=.sl ss:=by rw[<-hss];rfl
 have uF:ss.length=src.length:=by rw[<-hss];simp
 unfold Ae.empty;rw[hH];rw[LY]at CK ⊢;by_cases lZ:src=[]
 . have QL:src.length=0:=by rw[lZ];rfl
   rw[if_pos lZ];have BL:=BL 0;have CK:=CK 0;obtain⟨B0,dD⟩:=AE (CB 0 H 0 []);obtain⟨B1,Ni⟩:=AE (B0.mark 1 src);rw[dD]at BL CK ⊢;rw[Ni]at CK ⊢;rw[QL]at uF;simp only[BS,Ay]at *
   unfold Bf Ai At at *
   refine CP pE pS ?_;exact qz (cj @KF<|cj @uF<|SM) (cj tv<|cj BL<|cj CK<|trivial)
 . have QL:0<src.length:=NP.2 lZ;rw[if_neg lZ];obtain⟨W,hW⟩:=AE (scale (x.BZ s) 50);rw[hW]at Ug ⊢;have BL:=BL W;have CK:=CK W;obtain⟨B0,dD⟩:=AE (CB W H 0 []);obtain⟨B1,Ni⟩:=AE (B0.mark 1 src);rw[dD]at BL CK ⊢;rw[Ni]at CK ⊢;simp only[BS,Ay]at *
   unfold Bf Ai At at *
   refine CP pE pS ?_;exact qz (cj @KF<|cj @uF<|cj @QL<|SM) (cj No<|cj Ug<|cj tv<|cj BL<|cj CK<|trivial)
theorem AGN (x:Ae)(m:Nat)(n:Nd)(src:List Int)(s:AM)(J:Nat)(BU:jM x m n src s)(hJ:J<=n.kids.length)(ha : ∀j k,j<J->n.kids[j]?=some k->MP x s src j k≠none)(L:List AA)(hL:O3 x s src 0 n.kids=L)(j:Nat)(hj:j<J) :
 ∃k B,n.kids[j]?=some k/\L[j]?=some B/\AQ AD 78 [Bf x m,At k,.c (Ab (src++[(j:Int)])),Ai s] m (BI x.f) (BI x.f) (.ret (BD B)):=by
 obtain⟨k,hkj⟩:∃k,n.kids[j]?=some k:=⟨_,BP (by omega)⟩
 have h1:=BU j k hkj;cases hb:MP x s src j k with
 | none=>exact absurd hb (ha j k hj hkj)
 | some B =>
   rw[hb]at h1;refine⟨k,B,hkj,?_,h1⟩;rw[<-hL,AC7 x s src 0 n.kids j k hkj,Cu,hb];rfl
theorem AUe (x:Ae)(m:Nat)(n:Nd)(src:List Int)(s:AM)(h:jQ x n src s)(hn:n.kids≠[])(BU:jM x m n src s)(ha : ∀j k,n.kids[j]?=some k->MP x s src j k≠none):AQ AD 55 [Bf x m,At n,.c (Ab src),Ai s] m (BI x.f) (BI x.f) (BS (Db x s src n)):=by
 have DG:=h.sr.len;have TF:=AFk h.form h.k1;have Au:=h.ok;have Im:=h.cn;have tP:=h.form;have hdp:=h.dp;have ES:=h.sr;have Sq:FF x s src 0 n.kids=some (O3 x s src 0 n.kids):=AC9 x s src 0 n.kids fun j k hj=>by rw[Cu];exact ha j k hj
 have hlen:=uU x s src 0 n.kids;obtain⟨L,hL⟩:=AE (O3 x s src 0 n.kids);have hR:=AGN x m n src s n.kids.length BU (BW _) (fun j k _ h=>ha j k h) L hL;rw[hL]at hlen Sq;have Am:Db x s src n=match okB (El L (x.DK s n.kids))with|none=>none|some b=>some (b.mark 1 src):=by
  obtain⟨k,t,c,kids⟩:=n;simp only at hn Sq;unfold Db;rw[if_neg hn,Sq];simp only;cases okB (El L (x.DK s kids))<;>rfl
 rw[TF]at Au Im tP hdp ES;have dr:=tP;rw[U2,An]at dr;have ZH:(EV n.kids).Av=true:=by
  unfold Nd.Av;rw[tP,decide_eq_true (show (EV n.kids).kind=1 from rfl),decide_eq_true (by omega:(EV n.kids).cnt<=1000),decide_eq_true hdp];rfl
 have hsp:=ARv x s n.kids h.hx h.hs Au (by omega) ZH;have hdq:=TU (EV n.kids);rw[hdq]at ES;obtain⟨M6,Rf,_⟩:=ADI h.hx h.hs ES n.kids 0 L (BW _) dr.2 Sq;have tD:=Jk (EV n.kids);have AW4:Nd.A9 n.kids<=80:=by have:(EV n.kids).kids=n.kids:=rfl;rw[this]at tD;omega
 have Bp:=Ny n.kids;obtain⟨tk,ho2⟩:=AQB M6;have AXJ:=AUS x s n.kids;have Uf:=mf L (x.DK s n.kids) tk (by omega) (by omega) (by omega);rw[nM ho2 (by omega) (AUU h.hx h.hs n.kids)]at Uf;obtain⟨o,ho⟩:=AE (okB (El L (x.DK s n.kids)));rw[ho]at Uf Am;rw[Am];have CK:=fun b=>N3 b 1 src (by omega)
 obtain⟨SP,hSP⟩:=AE (Ab (x.DK s n.kids));rw[hSP]at hsp Uf;obtain⟨rs,Ak⟩:=AE (Nd.rows n.kids);have QK:rs.length=n.kids.length:=by rw[<-Ak,G0]
 have Wm : ∀(j:Nat) (k:Nd),n.kids[j]?=some k->rs[j]?=some k.row:=fun j k hj=>by rw[<-Ak];exact N1 hj
 obtain⟨ss,hss⟩:=AE (Ab src);obtain⟨N,hN⟩:=AE n.kids.length;have hN0:0<N:=by rw[<-hN];exact NP.2 hn
 have ER:(N:Int)<=9223372036854775807:=by omega
 have Ew:128*(N:Int)<=281474976710656:=by omega
 rw[Ak]at hsp;rw[hss]at CK ⊢;rw[hN]at hR hlen QK Bp;obtain⟨kd,t,c,kids⟩:=n;simp only at hR Wm Ak;simp only[At,Nd.vs,Nd.row,Al,A8,Ak];simp only[Af]at hsp;unfold Bf Ai at *
 clear Sq Am ha BU M6 Rf ho;have sX : ¬N=0:=by omega
 have e0:=cD L hlen.symm;simp only[Bo]at e0;refine CP pE pS ?_;refine qy (cj @QK<|cj @ER<|cj @Ew<|cj @sX<|SM) trivial ⟨?_⟩;rw[e0];refine lp (ι:={ k:Nat // k<=N }) (fun k=>[(52,.c (.int .i64 (k.1:Int)))]) (fun k=>[O.mp (Cf m (BI x.f)),O.box 33 [.c (.int .i64 kd),.c (.str t),.c (.int .i64 c),.c (.sl rs)] false,O.box 35 [.c (.int .i64 s.level),.c (.bool s.GJ)] false,O.box 41 Bo false,O.box 41 (Gq L k.1) false]) (fun k=>N - k.1) ⟨0,Cc _⟩ ?_ ?_;all_goals simp only[Br,Bl,B7,BC,Az]
 . refine Le.BV (by simp[A5,Bo])
 . rintro ⟨k,hkN⟩;simp only at hkN ⊢;by_cases hlt:k<N
   . obtain⟨q,B,hq,hB,hc⟩:=hR k hlt;have BN:=Wm k q hq;have CH:=gx BN;have QJ:k<rs.length:=by omega
     have hcon:=kM src [(k:Int)] (by omega) (by simp) (by simp);have hw:Ad.wrap ((k:Int)+1)=((k+1:Nat):Int):=by rw[Aq];simp
     have My:k<L.length:=by omega
     have hput:=cF L k My;have Wd:L[k]=B:=by rw[BP My]at hB;exact JW hB
     have hfit:k*11+11<=(Gq L k).length:=by rw[cE _ _ (by omega)];omega
     rw[Wd]at hput;unfold At at hc;simp only[Ay]at hc;have LY:Ab [(k:Int)]=.sl [[.int .i64 (k:Int)]]:=rfl;rw[LY,hss]at hcon;obtain⟨sk,hsk⟩:=AE (Ab (src++[(k:Int)]));rw[hsk]at hcon hc;clear Uf CK hsp;refine qy (cj @hlt<|cj @hw<|cj @QK<|cj @BN<|cj @CH<|cj @QJ<|cj @hfit<|cj @hput<|SM) (cj hcon<|cj hc<|trivial) ⟨?_⟩;refine⟨⟨k+1,hlt⟩,by simp only;omega,?_⟩;refine Le.H5 5 (Fg rfl) (by simp[A5,OU,Bo]) (by simp[OU,Bo]) (by simp[V.BT,V.BA]) (by simp[O.BA,V.BT,V.BA,OU,Bo])
   . obtain rfl:k=N:=by omega
     clear hR Wm;refine qu (CJ.mk 12) (cj @hlt<|cj @QK<|SM) trivial ⟨?_⟩;rw[<-hlen];refine AW.AR 4 rfl (zn L) (by simp[V.BG,V.AR,jy];exact rfl) (by simp[O.AR,V.BG,V.AR,jy,zo,Bo];exact rfl) ?_;cases o with
     | some B =>
       have CF:=Ix B;have CK:=CK B;simp only[EM,Hg,if_true,Bd,Af,Ay]at Uf CF CK;simp only[BS,Ay];exact qz (cj @QK<|SM) (cj hsp<|cj Uf<|cj CF<|cj CK<|trivial)
     | none =>
       have CF:=KI AA.zero m (BI x.f);simp only[Gl,H7,Fe,if_false,Bd,Af,Ay]at Uf CF;simp only[BS,Ay];exact qz (cj @QK<|SM) (cj hsp<|cj Uf<|cj CF<|trivial)
theorem AUf (x:Ae)(m:Nat)(n:Nd)(src:List Int)(s:AM)(h:jQ x n src s)(BU:jM x m n src s)(J:Nat)(q0:Nd)(hJ:n.kids[J]?=some q0)(km:MP x s src J q0=none)(ha : ∀j k,j<J->n.kids[j]?=some k->MP x s src j k≠none):AQ AD 55 [Bf x m,At n,.c (Ab src),Ai s] m (BI x.f) (BI x.f) (BS (Db x s src n)):=by
 have DG:=h.sr.len;have WN:J<n.kids.length:=(List.getElem?_eq_some_iff.1 hJ).1;have Im:=h.cn;have tD:=Jk n;have Bp:=Ny n.kids;have Sq:FF x s src 0 n.kids=none:=ADB x s src 0 n.kids J q0 hJ (by rw[Cu];exact km);have hlen:=uU x s src 0 n.kids;obtain⟨L,hL⟩:=AE (O3 x s src 0 n.kids);have hR:=AGN x m n src s J BU (by omega) ha L hL;have hP:=BU J q0 hJ;rw[km]at hP;rw[hL]at hlen;have Am:Db x s src n=none:=by
  obtain⟨k,t,c,kids⟩:=n;simp only at Sq WN;unfold Db;rw[if_neg (by intro e;rw[e]at WN;exact absurd WN (Nat.not_lt_zero _)),Sq]
 rw[Am];obtain⟨rs,Ak⟩:=AE (Nd.rows n.kids);have QK:rs.length=n.kids.length:=by rw[<-Ak,G0]
 have Wm : ∀(j:Nat) (k:Nd),n.kids[j]?=some k->rs[j]?=some k.row:=fun j k hj=>by rw[<-Ak];exact N1 hj
 obtain⟨ss,hss⟩:=AE (Ab src);obtain⟨N,hN⟩:=AE n.kids.length;have ER:(N:Int)<=9223372036854775807:=by omega
 have Ew:128*(N:Int)<=281474976710656:=by omega
 rw[hss];rw[hN]at hlen QK Bp WN;obtain⟨kd,t,c,kids⟩:=n;simp only at hR Wm Ak hJ;simp only[At,Nd.vs,Nd.row,Al,A8,Ak];simp only[BS]at hP ⊢;unfold Bf Ai at *
 clear Sq Am ha BU;have sX : ¬N=0:=by omega
 have e0:=cD L hlen.symm;simp only[Bo]at e0;refine CP pE pS ?_;refine qy (cj @QK<|cj @ER<|cj @Ew<|cj @sX<|SM) trivial ⟨?_⟩;rw[e0];refine lp (ι:={ k:Nat // k<=J }) (fun k=>[(52,.c (.int .i64 (k.1:Int)))]) (fun k=>[O.mp (Cf m (BI x.f)),O.box 33 [.c (.int .i64 kd),.c (.str t),.c (.int .i64 c),.c (.sl rs)] false,O.box 35 [.c (.int .i64 s.level),.c (.bool s.GJ)] false,O.box 41 Bo false,O.box 41 (Gq L k.1) false]) (fun k=>J - k.1) ⟨0,Cc _⟩ ?_ ?_;all_goals simp only[Br,Bl,B7,BC,Az]
 . refine Le.BV (by simp[A5,Bo])
 . rintro ⟨k,hkN⟩;simp only at hkN ⊢;have Y9:k<N:=by omega
   have QJ:k<rs.length:=by omega
   have hcon:=kM src [(k:Int)] (by omega) (by simp) (by simp);have hw:Ad.wrap ((k:Int)+1)=((k+1:Nat):Int):=by rw[Aq];simp
   have My:k<L.length:=by omega
   have hput:=cF L k My;have hfit:k*11+11<=(Gq L k).length:=by rw[cE _ _ (by omega)];omega
   have LY:Ab [(k:Int)]=.sl [[.int .i64 (k:Int)]]:=rfl;rw[LY,hss]at hcon;obtain⟨sk,hsk⟩:=AE (Ab (src++[(k:Int)]));by_cases hlt:k<J
   . obtain⟨q,B,hq,hB,hc⟩:=hR k hlt;have BN:=Wm k q hq;have CH:=gx BN;have Wd:L[k]=B:=by rw[BP My]at hB;exact JW hB
     rw[Wd]at hput;unfold At at hc;simp only[Ay]at hc;rw[hsk]at hcon hc;clear hP;refine qy (cj @Y9<|cj @hw<|cj @QK<|cj @BN<|cj @CH<|cj @QJ<|cj @hfit<|cj @hput<|SM) (cj hcon<|cj hc<|trivial) ⟨?_⟩;refine⟨⟨k+1,hlt⟩,by simp only;omega,?_⟩;refine Le.H5 5 (Fg rfl) (by simp[A5,OU,Bo]) (by simp[OU,Bo]) (by simp[V.BT,V.BA]) (by simp[O.BA,V.BT,V.BA,OU,Bo])
   . obtain rfl:k=J:=by omega
     have BN:=Wm k q0 hJ;have CH:=gx BN;unfold At at hP;rw[hsk]at hcon hP;exact qz (cj @Y9<|cj @hw<|cj @QK<|cj @BN<|cj @CH<|cj @QJ<|cj @hfit<|SM) (cj hcon<|cj hP<|trivial)
end Go.Proofs.YtpodcjcajanldaaGreat
