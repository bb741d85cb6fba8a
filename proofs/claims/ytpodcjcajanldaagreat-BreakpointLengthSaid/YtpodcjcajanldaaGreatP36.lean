/- Part of the proof of breakpointLength.proved. Conditions: none. (Joined and shortened by a program.) -/
import Derived.Test.YtpodcjcajanldaaGreatP26
import Derived.Test.YtpodcjcajanldaaGreatP35
set_option linter.unusedVariables false
set_option linter.unusedSimpArgs false
set_option maxRecDepth 100000
set_option maxHeartbeats 16000000
open List renaming mem_cons→Cb,map_cons→Al,map_nil→A8,getElem?_eq_some_iff→Bv,length_map→Cg,getElem?_map→Co,length_set→DU,getElem?_set→OH,getElem?_eq_none→Ln
open Option.some renaming injEq→BE
open Go.Proofs.Tryz renaming prog→AD,results165→yE
open Bool renaming and_eq_true→An
open Nat renaming zero_le→Cc
open Option renaming bind_some→YE
namespace Go.Proofs.YtpodcjcajanldaaGreat
open Go.RowKit
theorem AD9 : ∀(l:List Nd) (n:Nd),n∈l->n.BB<=Nd.deps l
 | [],_,h=>by cases h
 | a::l,n,h=>by
   simp only[Nd.deps];rcases Cb.1 h with rfl|h
   . omega
   . have:=AD9 l n h;omega
theorem AGh {x:Ae}(hx:x.Ok){s:AM}(hs:s.ok=true){src:List Int}{d:Nat}(ES:Src src 1 (d+1))(k:Int):∀(l:List Nd) (i:Nat) (L:List AA),Nd.deps l<=d->FJ x s src k i l=some L->(∀b∈L,b.Av=true)/\AA.A9 L<=10000*Nd.A9 l/\L.length=l.length
 | [],i,L,_,h=>by
   simp only[FJ,BE]at h;subst h;exact⟨fun b hb=>(by cases hb),by simp[AA.A9],rfl⟩
 | n::l,i,L,hd,h=>by
   simp only[Nd.deps]at hd;simp only[FJ]at h;split at h
   . cases h
   . rename_i b hb;split at h
     . cases h
     . rename_i r hr;simp only[BE]at h;subst h;obtain⟨h1,h2,h3⟩:=AGh hx hs ES k l (i+1) r (by omega) hr;obtain⟨h4,h5⟩:=ASz hx (wX hs) (ES.add i (by omega)) hb;refine⟨fun c hc=>?_,?_,by simp[h3]⟩
       . rcases Cb.1 hc with rfl|hc
         . exact h4
         . exact h1 c hc
       . simp only[AA.A9,Nd.A9];omega
def DP (x:Ae)(s:AM)(src:List Int)(n:Nd):Option AA:=
 match FJ x s src n.kind 0 n.kids with
 | none=>none
 | some L=>Dz x s n.kind n.text n.AF n.kids L
theorem QS (x:Ae)(s:AM)(src:List Int)(n:Nd):Ei x s src n=match DP x s src n with|none=>none|some b=>some (b.mark 2 src):=by
 obtain⟨k,t,c,kids⟩:=n;unfold Ei DP;simp only;cases FJ x s src k 0 kids with
 | none=>rfl
 | some L =>
   simp only;cases Dz x s k t c kids L<;>rfl
def y0 (x:Ae)(m:Nat)(n:Nd)(src:List Int)(s:AM):Prop:=
 (∃L,FJ x s src n.kind 0 n.kids=some L/\Q7 AD 161 [Bf x m,At n,.c (Ab src),Ai s] m (BI x.f) (BI x.f) 41 (AA.rows L).flatten (AA.rows L).length 11)\/
 (FJ x s src n.kind 0 n.kids=none/\AQ AD 161 [Bf x m,At n,.c (Ab src),Ai s] m (BI x.f) (BI x.f) (.JT fP))
structure Pj (x:Ae)(m:Nat)(n:Nd)(src:List Int)(s:AM):Prop where
 hx:x.Ok
 hs:s.ok=true
 own:n.CZ=true
 k1:n.kind≠1
 form:Nd.GX n.kind n.kids=true
 sr:Src src 1 n.BB
 cn:n.cnt<=80
 sl:y0 x m n src s
structure qI (L:List AA):Prop where
 v : ∀b∈L,b.Av=true
 w : ∀b∈L,0<=b.w
 c:AA.A9 L<=800000
theorem Pj.parts {x:Ae}{m:Nat}{n:Nd}{src:List Int}{s:AM}(h:Pj x m n src s) :
 (DP x s src n=none/\AQ AD 161 [Bf x m,At n,.c (Ab src),Ai s] m (BI x.f) (BI x.f) (.JT fP))\/
 ∃L,L.length=n.kids.length/\qI L/\DP x s src n=Dz x s n.kind n.text n.AF n.kids L/\Q7 AD 161 [Bf x m,At n,.c (Ab src),Ai s] m (BI x.f) (BI x.f) 41 (AA.rows L).flatten (AA.rows L).length 11:=by
 rcases h.sl with ⟨L,hL,hq⟩|⟨hL,hq⟩
 . right;have hd:=TU n;have ES:=h.sr;rw[hd]at ES;obtain⟨h1,h2,h3⟩:=AGh h.hx h.hs ES n.kind n.kids 0 L (Nat.le_refl _) hL;have hc:=Jk n;have:=h.cn;refine⟨L,h3,⟨h1,wZ h.hx n.kids n.kind n.kind s src 0 L h.hs h.form hL,by omega⟩,?_,hq⟩;unfold DP;rw[hL]
 . left;refine⟨?_,hq⟩;unfold DP;rw[hL]
theorem qI.one {L:List AA}(h:qI L){b:AA}(hb:b∈L):b.Av=true/\b.Bc/\b.cnt<=20000/\0<=b.w:=⟨h.v b hb,fN (h.v b hb),cK (h.v b hb),h.w b hb⟩
theorem mC {α:Type}{L:List α}(h:L.length=2):∃a b,L=[a,b]:=by
 match L,h with
 | [a,b],_=>exact⟨a,b,rfl⟩
theorem ADd {α:Type}{L:List α}(h:L.length=1):∃a,L=[a]:=by
 match L,h with
 | [a],_=>exact⟨a,rfl⟩
theorem AOy {α:Type}{L:List α}(h:L.length=3):∃a b c,L=[a,b,c]:=by
 match L,h with
 | [a,b,c],_=>exact⟨a,b,c,rfl⟩
theorem O5 {n:Nd}(h:n.CZ=true):Dh n.kind n.AF n.kids.length=true:=by
 unfold Nd.CZ at h;rw[An]at h;exact h.2
theorem Xz {n:Nd}(h:n.CZ=true):I2 n.kind n.text=true:=by
 unfold Nd.CZ at h;rw[An]at h;exact h.1
theorem Td {L:List AA} : ∀r∈AA.rows L,r.length=11:=fi L
theorem ARI (f:AI)(s:AM)(b d:AA)(hf:f.Fit)(hv:f.valid=true)(ho:s.ok=true)(hb:b.Av=true)(ob:b.Bc)(hd:d.Av=true)(od:d.Bc):AC AD 165 [.agg f.vs,Ai s,BD b,.c (.sl (AA.rows [])),.c (.sl (AA.rows [d]))] (Bd (Cm (Iu f s b [] [d]))):=by
 obtain⟨bw,bh,bd,bn⟩:=DS hb;have vb:=D2 b ob (by omega);rw[hb]at vb;obtain⟨dw,dh,dd,dn⟩:=DS hd;have vd:=D2 d od (by omega);rw[hd]at vd;obtain⟨p1,p2⟩:=GD hv ho;have Cq:=KL f s;rw[show Ha f s=(BK f.params s,0)from if_neg (by simp[hv,ho])]at Cq;have hit:=fS f b hf hv hb ob;have JM:=KM (Ea f b);rw[show half (Ea f b)=Hx f b from rfl]at JM;have hpl:=ARC f s b d hb hd;have hq:=Dn f.params.BZ (BK f.params s);have UJ:scale (scale f.params.BZ (BK f.params s)) 10=Fb f s 10:=rfl;have UL:scale (scale f.params.BZ (BK f.params s)) 17=Fb f s 17:=rfl;have UK:scale (scale f.params.BZ (BK f.params s)) 11=Fb f s 11:=rfl;have h10:=Dn (scale f.params.BZ (BK f.params s)) 10;have h17:=Dn (scale f.params.BZ (BK f.params s)) 17;have h11:=Dn (scale f.params.BZ (BK f.params s)) 11;have T6:=DA (p:=10) (scale f.params.BZ (BK f.params s)) (by omega) (by omega);have T8:=DA (p:=17) (scale f.params.BZ (BK f.params s)) (by omega) (by omega);have T7:=DA (p:=11) (scale f.params.BZ (BK f.params s)) (by omega) (by omega);rw[UJ]at h10 T6;rw[UL]at h17 T8;rw[UK]at h11 T7;have eP:TR f b [] [d]=[Fu f b [] [d] - C4 f b [] [d],0 - C4 f b [] [d],Iv f b [] [d] d - C4 f b [] [d]]:=rfl;have eB:Iu f s b [] [d]=CB (O8 f s b [] [d]) (mx b.h (O9 f s b d+d.h+Fb f s 10)) (b.d) [b.at_ (Fu f b [] [d] - C4 f b [] [d]) 0,d.at_ (Iv f b [] [d] d - C4 f b [] [d]) (O9 f s b d)]:=rfl;rw[eB];clear eB;rw[eP]at hpl;clear eP;have eU:O9 f s b d=b.h+Fb f s 11+d.d:=rfl;obtain⟨x0,n0⟩:=AE (Fu f b [] [d] - C4 f b [] [d]);obtain⟨x1,n1⟩:=AE (0 - C4 f b [] [d]);obtain⟨x2,n2⟩:=AE (Iv f b [] [d] d - C4 f b [] [d]);rw[n0,n1]at hpl;try rw[n2]at hpl
 rw[n0,n2];obtain⟨E,nE⟩:=AE (O8 f s b [] [d]);rw[nE]at hpl ⊢;clear n0 n1 n2 nE UJ UK UL;obtain⟨J0,Us⟩:=AE (Fb f s 10);obtain⟨jP,Uu⟩:=AE (Fb f s 17);obtain⟨jO,Ut⟩:=AE (Fb f s 11);rw[Us]at h10 T6 ⊢;rw[Uu]at h17 T8;rw[Ut]at h11 T7 eU;clear Us Uu Ut;obtain⟨QD,mq⟩:=AE (scale f.params.BZ (BK f.params s));rw[mq]at hq h10 h17 h11;clear mq;obtain⟨I,mI⟩:=AE (Ea f b);rw[mI]at hit JM;clear mI;obtain⟨LH,mH⟩:=AE (Hx f b);rw[mH]at JM hpl;clear mH;have a0:=Gc b x0 0 (Me hb);obtain⟨UP,mU⟩:=AE (O9 f s b d);rw[mU]at eU ⊢;have a2:=Gc d x2 UP (Me hd);have fU:b.h+jO+d.d=UP:=eU.symm;have bU : -4294967296<=UP/\UP<=4294967296:=by omega
 have cX:(if b.h<UP+d.h+J0 then UP+d.h+J0 else b.h)=mx b.h (UP+d.h+J0):=rfl;obtain⟨MU,fE⟩:=AE (mx b.h (UP+d.h+J0));rw[fE]at cX ⊢;clear mU fE eU;have BL:=MX E MU b.d [b.at_ x0 0,d.at_ x2 UP] ⟨GH _ _ (Fz hb),GH _ _ (Fz hd),trivial⟩ (by simp only[AA.A9,GW];omega);have Cw:=D2 (CB E MU b.d [b.at_ x0 0,d.at_ x2 UP]) ⟨(Cc _:0<=maxLen),(Cc _:0<=maxLen),FA _ _ ob,FA _ _ od,trivial⟩ (by simp only[CB,AA.cnt,AA.A9,GW];omega);obtain⟨Z,hZ⟩:=AE (CB E MU b.d [b.at_ x0 0,d.at_ x2 UP]);rw[hZ]at BL Cw ⊢;clear hZ;obtain⟨A0,K5⟩:=AE (b.at_ x0 0);rw[K5]at a0 BL;clear K5;obtain⟨A1,K6⟩:=AE (d.at_ x2 UP);rw[K6]at a2 BL;clear K6;unfold Ai at *
 simp only[AA.rows,Ay,Af,Al,A8]at Cq hpl BL Cw hit vb vd a0 a2 ⊢;unfold Cm;have QU:(2:Nat)<=maxLen:=by unfold maxLen;omega
 have QV:(3:Nat)<=maxLen:=by unfold maxLen;omega
 refine en Tryz.func165 Tryz.ntmps165 ?_;have ff:=(cj @fU<|cj @cX<|cj @QU<|cj @QV<|cj @Bd.eq_1<|cj @Ay<|cj @Af.eq_1<|cj @Eo<|yE)
 repeat any_goals (first|refine CC ?_|exact Bq ff|(with_reducible refine LA.loop (LA.round ?_))|(with_reducible refine LA.round ?_)|refine Bt ff ?_|refine A4 ff (Cq) ?_|refine A4 ff (vb) ?_|refine A4 ff (vd) ?_|refine A4 ff (hq) ?_|refine A4 ff (h10) ?_|refine A4 ff (hit) ?_|refine A4 ff (JM) ?_|refine A4 ff (hpl) ?_|refine A4 ff (h11) ?_|refine A4 ff (a2) ?_|refine A4 ff (a0) ?_|refine A4 ff (BL) ?_|refine A4 ff (Cw) ?_|refine Bi ff ?_|((first|refine By ff ?_ ?_|refine B4 ff ?_ ?_|refine Bz ff ?_ ?_|refine B3 ff ?_ ?_)<;>intro h<;>try (exfalso;first|omega|contradiction)))
theorem ARJ (f:AI)(s:AM)(b c:AA)(hf:f.Fit)(hv:f.valid=true)(ho:s.ok=true)(hb:b.Av=true)(ob:b.Bc)(hc:c.Av=true)(oc:c.Bc):AC AD 165 [.agg f.vs,Ai s,BD b,.c (.sl (AA.rows [c])),.c (.sl (AA.rows []))] (Bd (Cm (Iu f s b [c] []))):=by
 obtain⟨bw,bh,bd,bn⟩:=DS hb;have vb:=D2 b ob (by omega);rw[hb]at vb;obtain⟨cw,ch,cd,cn⟩:=DS hc;have vc:=D2 c oc (by omega);rw[hc]at vc;obtain⟨p1,p2⟩:=GD hv ho;have Cq:=KL f s;rw[show Ha f s=(BK f.params s,0)from if_neg (by simp[hv,ho])]at Cq;have hit:=fS f b hf hv hb ob;have JM:=KM (Ea f b);rw[show half (Ea f b)=Hx f b from rfl]at JM;have hpl:=ARD f s b c hb hc;have hq:=Dn f.params.BZ (BK f.params s);have UJ:scale (scale f.params.BZ (BK f.params s)) 10=Fb f s 10:=rfl;have UL:scale (scale f.params.BZ (BK f.params s)) 17=Fb f s 17:=rfl;have UK:scale (scale f.params.BZ (BK f.params s)) 11=Fb f s 11:=rfl;have h10:=Dn (scale f.params.BZ (BK f.params s)) 10;have h17:=Dn (scale f.params.BZ (BK f.params s)) 17;have h11:=Dn (scale f.params.BZ (BK f.params s)) 11;have T6:=DA (p:=10) (scale f.params.BZ (BK f.params s)) (by omega) (by omega);have T8:=DA (p:=17) (scale f.params.BZ (BK f.params s)) (by omega) (by omega);have T7:=DA (p:=11) (scale f.params.BZ (BK f.params s)) (by omega) (by omega);rw[UJ]at h10 T6;rw[UL]at h17 T8;rw[UK]at h11 T7;have eP:TR f b [c] []=[Fu f b [c] [] - C4 f b [c] [],Iw f b [c] [] c - C4 f b [c] [],0 - C4 f b [c] []]:=rfl;have eB:Iu f s b [c] []=CB (O8 f s b [c] []) (b.h) (mx b.d (O7 f s b c+c.d+Fb f s 10)) [b.at_ (Fu f b [c] [] - C4 f b [c] []) 0,c.at_ (Iw f b [c] [] c - C4 f b [c] []) (-(O7 f s b c))]:=rfl;rw[eB];clear eB;rw[eP]at hpl;clear eP;have eD:O7 f s b c=b.d+Fb f s 17+c.h:=rfl;obtain⟨x0,n0⟩:=AE (Fu f b [c] [] - C4 f b [c] []);obtain⟨x1,n1⟩:=AE (Iw f b [c] [] c - C4 f b [c] []);obtain⟨x2,n2⟩:=AE (0 - C4 f b [c] []);rw[n0,n1]at hpl;try rw[n2]at hpl
 rw[n0,n1];obtain⟨E,nE⟩:=AE (O8 f s b [c] []);rw[nE]at hpl ⊢;clear n0 n1 n2 nE UJ UK UL;obtain⟨J0,Us⟩:=AE (Fb f s 10);obtain⟨jP,Uu⟩:=AE (Fb f s 17);obtain⟨jO,Ut⟩:=AE (Fb f s 11);rw[Us]at h10 T6 ⊢;rw[Uu]at h17 T8 eD;rw[Ut]at h11 T7;clear Us Uu Ut;obtain⟨QD,mq⟩:=AE (scale f.params.BZ (BK f.params s));rw[mq]at hq h10 h17 h11;clear mq;obtain⟨I,mI⟩:=AE (Ea f b);rw[mI]at hit JM;clear mI;obtain⟨LH,mH⟩:=AE (Hx f b);rw[mH]at JM hpl;clear mH;have a0:=Gc b x0 0 (Me hb);obtain⟨DN,mD⟩:=AE (O7 f s b c);rw[mD]at eD ⊢;have a1:=Gc c x1 (-DN) (Me hc);have fD:b.d+jP+c.h=DN:=eD.symm;have bD : -4294967296<=DN/\DN<=4294967296:=by omega
 have cW:(if b.d<DN+c.d+J0 then DN+c.d+J0 else b.d)=mx b.d (DN+c.d+J0):=rfl;obtain⟨MD,fC⟩:=AE (mx b.d (DN+c.d+J0));rw[fC]at cW ⊢;clear mD fC eD;have BL:=MX E b.h MD [b.at_ x0 0,c.at_ x1 (-DN)] ⟨GH _ _ (Fz hb),GH _ _ (Fz hc),trivial⟩ (by simp only[AA.A9,GW];omega);have Cw:=D2 (CB E b.h MD [b.at_ x0 0,c.at_ x1 (-DN)]) ⟨(Cc _:0<=maxLen),(Cc _:0<=maxLen),FA _ _ ob,FA _ _ oc,trivial⟩ (by simp only[CB,AA.cnt,AA.A9,GW];omega);obtain⟨Z,hZ⟩:=AE (CB E b.h MD [b.at_ x0 0,c.at_ x1 (-DN)]);rw[hZ]at BL Cw ⊢;clear hZ;obtain⟨A0,K5⟩:=AE (b.at_ x0 0);rw[K5]at a0 BL;clear K5;obtain⟨A1,K6⟩:=AE (c.at_ x1 (-DN));rw[K6]at a1 BL;clear K6;unfold Ai at *
 simp only[AA.rows,Ay,Af,Al,A8]at Cq hpl BL Cw hit vb vc a0 a1 ⊢;unfold Cm;have QU:(2:Nat)<=maxLen:=by unfold maxLen;omega
 have QV:(3:Nat)<=maxLen:=by unfold maxLen;omega
 refine en Tryz.func165 Tryz.ntmps165 ?_;have ff:=(cj @fD<|cj @cW<|cj @QU<|cj @QV<|cj @Bd.eq_1<|cj @Ay<|cj @Af.eq_1<|cj @Eo<|yE)
 repeat any_goals (first|refine CC ?_|exact Bq ff|(with_reducible refine LA.loop (LA.round ?_))|(with_reducible refine LA.round ?_)|refine Bt ff ?_|refine A4 ff (Cq) ?_|refine A4 ff (vb) ?_|refine A4 ff (vc) ?_|refine A4 ff (hq) ?_|refine A4 ff (h10) ?_|refine A4 ff (hit) ?_|refine A4 ff (JM) ?_|refine A4 ff (hpl) ?_|refine A4 ff (h17) ?_|refine A4 ff (a1) ?_|refine A4 ff (a0) ?_|refine A4 ff (BL) ?_|refine A4 ff (Cw) ?_|refine Bi ff ?_|((first|refine By ff ?_ ?_|refine B4 ff ?_ ?_|refine Bz ff ?_ ?_|refine B3 ff ?_ ?_)<;>intro h<;>try (exfalso;first|omega|contradiction)))
theorem ARK (f:AI)(s:AM)(b c d:AA)(hf:f.Fit)(hv:f.valid=true)(ho:s.ok=true)(hb:b.Av=true)(ob:b.Bc)(hc:c.Av=true)(oc:c.Bc)(hd:d.Av=true)(od:d.Bc):AC AD 165 [.agg f.vs,Ai s,BD b,.c (.sl (AA.rows [c])),.c (.sl (AA.rows [d]))] (Bd (Cm (Iu f s b [c] [d]))):=by
 obtain⟨bw,bh,bd,bn⟩:=DS hb;have vb:=D2 b ob (by omega);rw[hb]at vb;obtain⟨cw,ch,cd,cn⟩:=DS hc;have vc:=D2 c oc (by omega);rw[hc]at vc;obtain⟨dw,dh,dd,dn⟩:=DS hd;have vd:=D2 d od (by omega);rw[hd]at vd;obtain⟨p1,p2⟩:=GD hv ho;have Cq:=KL f s;rw[show Ha f s=(BK f.params s,0)from if_neg (by simp[hv,ho])]at Cq;have hit:=fS f b hf hv hb ob;have JM:=KM (Ea f b);rw[show half (Ea f b)=Hx f b from rfl]at JM;have hpl:=ARE f s b c d hb hc hd;have hq:=Dn f.params.BZ (BK f.params s);have UJ:scale (scale f.params.BZ (BK f.params s)) 10=Fb f s 10:=rfl;have UL:scale (scale f.params.BZ (BK f.params s)) 17=Fb f s 17:=rfl;have UK:scale (scale f.params.BZ (BK f.params s)) 11=Fb f s 11:=rfl;have h10:=Dn (scale f.params.BZ (BK f.params s)) 10;have h17:=Dn (scale f.params.BZ (BK f.params s)) 17;have h11:=Dn (scale f.params.BZ (BK f.params s)) 11;have T6:=DA (p:=10) (scale f.params.BZ (BK f.params s)) (by omega) (by omega);have T8:=DA (p:=17) (scale f.params.BZ (BK f.params s)) (by omega) (by omega);have T7:=DA (p:=11) (scale f.params.BZ (BK f.params s)) (by omega) (by omega);rw[UJ]at h10 T6;rw[UL]at h17 T8;rw[UK]at h11 T7;have eP:TR f b [c] [d]=[Fu f b [c] [d] - C4 f b [c] [d],Iw f b [c] [d] c - C4 f b [c] [d],Iv f b [c] [d] d - C4 f b [c] [d]]:=rfl;have eB:Iu f s b [c] [d]=CB (O8 f s b [c] [d]) (mx b.h (O9 f s b d+d.h+Fb f s 10)) (mx b.d (O7 f s b c+c.d+Fb f s 10)) [b.at_ (Fu f b [c] [d] - C4 f b [c] [d]) 0,c.at_ (Iw f b [c] [d] c - C4 f b [c] [d]) (-(O7 f s b c)),d.at_ (Iv f b [c] [d] d - C4 f b [c] [d]) (O9 f s b d)]:=rfl;rw[eB];clear eB;rw[eP]at hpl;clear eP;have eD:O7 f s b c=b.d+Fb f s 17+c.h:=rfl;have eU:O9 f s b d=b.h+Fb f s 11+d.d:=rfl;obtain⟨x0,n0⟩:=AE (Fu f b [c] [d] - C4 f b [c] [d]);obtain⟨x1,n1⟩:=AE (Iw f b [c] [d] c - C4 f b [c] [d]);obtain⟨x2,n2⟩:=AE (Iv f b [c] [d] d - C4 f b [c] [d]);rw[n0,n1]at hpl;try rw[n2]at hpl
 rw[n0,n1,n2];obtain⟨E,nE⟩:=AE (O8 f s b [c] [d]);rw[nE]at hpl ⊢;clear n0 n1 n2 nE UJ UK UL;obtain⟨J0,Us⟩:=AE (Fb f s 10);obtain⟨jP,Uu⟩:=AE (Fb f s 17);obtain⟨jO,Ut⟩:=AE (Fb f s 11);rw[Us]at h10 T6 ⊢;rw[Uu]at h17 T8 eD;rw[Ut]at h11 T7 eU;clear Us Uu Ut;obtain⟨QD,mq⟩:=AE (scale f.params.BZ (BK f.params s));rw[mq]at hq h10 h17 h11;clear mq;obtain⟨I,mI⟩:=AE (Ea f b);rw[mI]at hit JM;clear mI;obtain⟨LH,mH⟩:=AE (Hx f b);rw[mH]at JM hpl;clear mH;have a0:=Gc b x0 0 (Me hb);obtain⟨DN,mD⟩:=AE (O7 f s b c);rw[mD]at eD ⊢;have a1:=Gc c x1 (-DN) (Me hc);have fD:b.d+jP+c.h=DN:=eD.symm;have bD : -4294967296<=DN/\DN<=4294967296:=by omega
 have cW:(if b.d<DN+c.d+J0 then DN+c.d+J0 else b.d)=mx b.d (DN+c.d+J0):=rfl;obtain⟨MD,fC⟩:=AE (mx b.d (DN+c.d+J0));rw[fC]at cW ⊢;clear mD fC eD;obtain⟨UP,mU⟩:=AE (O9 f s b d);rw[mU]at eU ⊢;have a2:=Gc d x2 UP (Me hd);have fU:b.h+jO+d.d=UP:=eU.symm;have bU : -4294967296<=UP/\UP<=4294967296:=by omega
 have cX:(if b.h<UP+d.h+J0 then UP+d.h+J0 else b.h)=mx b.h (UP+d.h+J0):=rfl;obtain⟨MU,fE⟩:=AE (mx b.h (UP+d.h+J0));rw[fE]at cX ⊢;clear mU fE eU;have BL:=MX E MU MD [b.at_ x0 0,c.at_ x1 (-DN),d.at_ x2 UP] ⟨GH _ _ (Fz hb),GH _ _ (Fz hc),GH _ _ (Fz hd),trivial⟩ (by simp only[AA.A9,GW];omega);have Cw:=D2 (CB E MU MD [b.at_ x0 0,c.at_ x1 (-DN),d.at_ x2 UP]) ⟨(Cc _:0<=maxLen),(Cc _:0<=maxLen),FA _ _ ob,FA _ _ oc,FA _ _ od,trivial⟩ (by simp only[CB,AA.cnt,AA.A9,GW];omega);obtain⟨Z,hZ⟩:=AE (CB E MU MD [b.at_ x0 0,c.at_ x1 (-DN),d.at_ x2 UP]);rw[hZ]at BL Cw ⊢;clear hZ;obtain⟨A0,K5⟩:=AE (b.at_ x0 0);rw[K5]at a0 BL;clear K5;obtain⟨A1,K6⟩:=AE (c.at_ x1 (-DN));rw[K6]at a1 BL;clear K6;obtain⟨A2,e9⟩:=AE (d.at_ x2 UP);rw[e9]at a2 BL;clear e9;unfold Ai at *
 simp only[AA.rows,Ay,Af,Al,A8]at Cq hpl BL Cw hit vb vc vd a0 a1 a2 ⊢;unfold Cm;have QU:(2:Nat)<=maxLen:=by unfold maxLen;omega
 have QV:(3:Nat)<=maxLen:=by unfold maxLen;omega
 refine en Tryz.func165 Tryz.ntmps165 ?_;have ff:=(cj @fD<|cj @cW<|cj @fU<|cj @cX<|cj @QU<|cj @QV<|cj @Bd.eq_1<|cj @Ay<|cj @Af.eq_1<|cj @Eo<|yE)
 repeat any_goals (first|refine CC ?_|exact Bq ff|(with_reducible refine LA.loop (LA.round ?_))|(with_reducible refine LA.round ?_)|refine Bt ff ?_|refine A4 ff (Cq) ?_|refine A4 ff (vb) ?_|refine A4 ff (vc) ?_|refine A4 ff (vd) ?_|refine A4 ff (hq) ?_|refine A4 ff (h10) ?_|refine A4 ff (hit) ?_|refine A4 ff (JM) ?_|refine A4 ff (hpl) ?_|refine A4 ff (h17) ?_|refine A4 ff (a1) ?_|refine A4 ff (h11) ?_|refine A4 ff (a2) ?_|refine A4 ff (a0) ?_|refine A4 ff (BL) ?_|refine A4 ff (Cw) ?_|refine Bi ff ?_|((first|refine By ff ?_ ?_|refine B4 ff ?_ ?_|refine Bz ff ?_ ?_|refine B3 ff ?_ ?_)<;>intro h<;>try (exfalso;first|omega|contradiction)))
def EY (l:List AA)(Z:List C):List V:=((AA.rows l).flatten++Z).map V.c
theorem Vv (l:List AA):(AA.rows l).flatten.length=l.length*11:=by
 rw[List.length_flatten];have:(AA.rows l).map List.length=List.replicate l.length 11:=by
  apply List.ext_getElem
  . simp[LF]
  . intro i h1 h2;simp only[List.getElem_map,List.getElem_replicate];exact fi l _ (List.getElem_mem _)
 rw[this];simp
theorem jq {l:List AA}{Z:List C}{i q:Nat}{b:AA}(h:l[i]?=some b)(hq:q<11):(EY l Z)[i*11+q]?=(b.row.map V.c)[q]?:=by
 have hi:i<l.length:=(Bv.1 h).1;unfold EY;rw[List.map_append,List.getElem?_append_left (by rw[Cg,Vv];omega),flat_get h hq]
theorem jr (l:List AA)(Z:List C):(EY l Z).length=l.length*11+Z.length:=by
 unfold EY;rw[Cg,List.length_append,Vv]
@[simp] theorem Q9 (n:Nat)(l:List AA)(Z:List C):V.BT n (EY l Z)=true:=by
 unfold EY;generalize ((AA.rows l).flatten++Z)=r;induction r with
 | nil=>rfl
 | cons c r ih=>simp only[Al,V.BT,V.BA,Bool.true_and];exact ih
theorem zR {l:List AA}{Z:List C}{i q:Nat}{b b':AA}{v:C}(h:l[i]?=some b)(hq:q<11)(hb:b'.row=b.row.set q v):(EY l Z).set (i*11+q) (.c v)=EY (l.set i b') Z:=by
 have hi:i<l.length:=(Bv.1 h).1;unfold EY;rw[<-List.map_set (f:=V.c),List.set_append_left _ _ (by rw[Vv];omega)];congr 2
 apply List.ext_getElem?;intro j;have e : ∀(m:List AA) (j:Nat),j<m.length*11->(AA.rows m).flatten[j]?=(m[j / 11]?.bind fun b=>b.row[j % 11]?):=by
  intro m j hj;have hm:j / 11<m.length:=by omega
  have hg:m[j / 11]?=some m[j / 11]:=List.getElem?_eq_getElem hm;have h1:=flat_get hg (Nat.mod_lt j (by omega:0<11));rw[show j / 11*11+j % 11=j by omega,Co,Co]at h1;rw[hg,YE];cases ha:(AA.rows m).flatten[j]? with
  | none =>
    rw[List.getElem?_eq_none_iff,Vv]at ha;omega
  | some a =>
    rw[ha]at h1;cases hc:(m[j / 11]).row[j % 11]? with
    | none=>rw[hc]at h1;cases h1
    | some c=>rw[hc]at h1;simp only[Option.map_some,BE,V.c.injEq]at h1;rw[h1]
 by_cases hj:j<l.length*11
 . rw[e (l.set i b') j (by rw[DU];exact hj),OH,OH];by_cases e1:i*11+q=j
   . subst e1;rw[if_pos rfl,if_pos (by rw[Vv];omega),if_pos (by omega),if_pos hi,YE,hb,show (i*11+q) % 11=q by omega,List.getElem?_set_self (by rw[Lh];exact hq)]
   . rw[if_neg e1,e l j hj];by_cases e2:i=j / 11
     . subst e2;rw[if_pos rfl,if_pos hi,h,YE,YE,hb,List.getElem?_set_ne (by omega)]
     . rw[if_neg e2]
 . rw[Ln (by rw[DU,Vv];omega),Ln (by rw[Vv,DU];omega)]
theorem zS (l:List AA)(Z:List C):V.OF (EY l Z)=true:=ADm _
theorem Ye (k:Nat)(l:List AA)(Z:List C):V.DJ k (EY l Z)=some (EY l Z):=ADl k _
end Go.Proofs.YtpodcjcajanldaaGreat
