/- Part of the proof of breakpointLength.proved. Conditions: none. (Joined and shortened by a program.) -/
import Derived.Test.YtpodcjcajanldaaGreatP37
set_option linter.unusedVariables false
set_option linter.unusedSimpArgs false
set_option maxRecDepth 100000
set_option maxHeartbeats 16000000
open Go.Proofs.Tryz renaming prog→AD,func102→Mk,ntmps102→Ml,results102→Mm
open Option renaming getD_some→EM,isSome_some→Hg,getD_none→Gl,isSome_none→H7
open Bool renaming false_eq_true→Fe
namespace Go.Proofs.YtpodcjcajanldaaGreat
open Go.RowKit
theorem AUg {x:Ae}{m:Nat}{n:Nd}{src:List Int}{s:AM}(h:Pj x m n src s)(hk:n.kind=7)(k0:Nd)(kr:List Nd)(hkk:n.kids=k0::kr):AQ AD 102 [Bf x m,At n,.c (Ab src),Ai s] m (BI x.f) (BI x.f) (BS (DP x s src n)):=by
 obtain⟨ss,hss⟩:=AE (Ab src);rcases h.parts with ⟨hin,hq⟩|⟨L,hl,hb,hin,hq⟩
 . rw[hin];simp only[BS];rw[hss]at hq ⊢;unfold Bf Ai At at *
   refine CP Mk Ml ?_;exact qz Mm (cj hq<|trivial)
 . have C7:=hq.data Td;have hkn:=O5 h.own;have Lb:=Xz h.own;rw[hk]at hkn Lb;obtain⟨a,b,rfl⟩:=mC (L:=L) (by simp[Dh]at hkn;omega);obtain⟨a1,a2,a3,a4⟩:=hb.one (b:=a) (by simp);obtain⟨b1,b2,b3,b4⟩:=hb.one (b:=b) (by simp);have JO:=wW x m k0 s h.hx;have JN:Nd.rows n.kids=k0.row::Nd.rows kr:=by rw[hkk];rfl
   rw[hss]at C7 ⊢;have hr:AA.rows [a,b]=[a.row,b.row]:=rfl;rw[hr]at C7;cases Iq:Nw x s k0 with
   | true =>
     have Io:DP x s src n=okB (Cm (Iu x.f s a [b] [])):=by rw[hin,hk];simp[Dz,hkk,Iq,Jt,Ju]
     have BX:=ARJ x.f s a b h.hx.fit h.hx.val h.hs a1 a2 b1 b2;rw[Sj]at BX;rw[Io];obtain⟨o,ho⟩:=AE (okB (Cm (Iu x.f s a [b] [])));rw[ho]at BX ⊢;rw[Iq]at JO;unfold Bf Ai At at *
     simp only[AA.rows]at BX;cases o with
     | some B =>
       have CF:=Ix B;simp only[EM,Hg,if_true,Bd,Af,Ay]at BX CF;simp only[BS,Ay];refine CP Mk Ml ?_;exact qz (cj @hk<|cj @JN<|Mm) (cj C7<|cj BX<|cj JO<|cj CF<|trivial)
     | none =>
       have CF:=KI AA.zero m (BI x.f);simp only[Gl,H7,Fe,if_false,Bd,Af,Ay]at BX CF;simp only[BS,Ay];refine CP Mk Ml ?_;exact qz (cj @hk<|cj @JN<|Mm) (cj C7<|cj BX<|cj JO<|cj CF<|trivial)
   | false =>
     have Io:DP x s src n=okB (Cm (Iz x.f s a [b] [])):=by rw[hin,hk];simp[Dz,hkk,Iq,Jt,Ju]
     have BX:=ARo x.f s a b h.hx.fit h.hx.val h.hs a1 a2 b1 b2;rw[Sj]at BX;rw[Io];obtain⟨o,ho⟩:=AE (okB (Cm (Iz x.f s a [b] [])));rw[ho]at BX ⊢;rw[Iq]at JO;unfold Bf Ai At at *
     simp only[AA.rows]at BX;cases o with
     | some B =>
       have CF:=Ix B;simp only[EM,Hg,if_true,Bd,Af,Ay]at BX CF;simp only[BS,Ay];refine CP Mk Ml ?_;exact qz (cj @hk<|cj @JN<|Mm) (cj C7<|cj BX<|cj JO<|cj CF<|trivial)
     | none =>
       have CF:=KI AA.zero m (BI x.f);simp only[Gl,H7,Fe,if_false,Bd,Af,Ay]at BX CF;simp only[BS,Ay];refine CP Mk Ml ?_;exact qz (cj @hk<|cj @JN<|Mm) (cj C7<|cj BX<|cj JO<|cj CF<|trivial)
theorem AUh {x:Ae}{m:Nat}{n:Nd}{src:List Int}{s:AM}(h:Pj x m n src s)(hk:n.kind=8)(k0:Nd)(kr:List Nd)(hkk:n.kids=k0::kr):AQ AD 102 [Bf x m,At n,.c (Ab src),Ai s] m (BI x.f) (BI x.f) (BS (DP x s src n)):=by
 obtain⟨ss,hss⟩:=AE (Ab src);rcases h.parts with ⟨hin,hq⟩|⟨L,hl,hb,hin,hq⟩
 . rw[hin];simp only[BS];rw[hss]at hq ⊢;unfold Bf Ai At at *
   refine CP Mk Ml ?_;exact qz Mm (cj hq<|trivial)
 . have C7:=hq.data Td;have hkn:=O5 h.own;have Lb:=Xz h.own;rw[hk]at hkn Lb;obtain⟨a,b,rfl⟩:=mC (L:=L) (by simp[Dh]at hkn;omega);obtain⟨a1,a2,a3,a4⟩:=hb.one (b:=a) (by simp);obtain⟨b1,b2,b3,b4⟩:=hb.one (b:=b) (by simp);have JO:=wW x m k0 s h.hx;have JN:Nd.rows n.kids=k0.row::Nd.rows kr:=by rw[hkk];rfl
   rw[hss]at C7 ⊢;have hr:AA.rows [a,b]=[a.row,b.row]:=rfl;rw[hr]at C7;cases Iq:Nw x s k0 with
   | true =>
     have Io:DP x s src n=okB (Cm (Iu x.f s a [] [b])):=by rw[hin,hk];simp[Dz,hkk,Iq,Jt,Ju]
     have BX:=ARI x.f s a b h.hx.fit h.hx.val h.hs a1 a2 b1 b2;rw[Sj]at BX;rw[Io];obtain⟨o,ho⟩:=AE (okB (Cm (Iu x.f s a [] [b])));rw[ho]at BX ⊢;rw[Iq]at JO;unfold Bf Ai At at *
     simp only[AA.rows]at BX;cases o with
     | some B =>
       have CF:=Ix B;simp only[EM,Hg,if_true,Bd,Af,Ay]at BX CF;simp only[BS,Ay];refine CP Mk Ml ?_;exact qz (cj @hk<|cj @JN<|Mm) (cj C7<|cj BX<|cj JO<|cj CF<|trivial)
     | none =>
       have CF:=KI AA.zero m (BI x.f);simp only[Gl,H7,Fe,if_false,Bd,Af,Ay]at BX CF;simp only[BS,Ay];refine CP Mk Ml ?_;exact qz (cj @hk<|cj @JN<|Mm) (cj C7<|cj BX<|cj JO<|cj CF<|trivial)
   | false =>
     have Io:DP x s src n=okB (Cm (Iz x.f s a [] [b])):=by rw[hin,hk];simp[Dz,hkk,Iq,Jt,Ju]
     have BX:=ARn x.f s a b h.hx.fit h.hx.val h.hs a1 a2 b1 b2;rw[Sj]at BX;rw[Io];obtain⟨o,ho⟩:=AE (okB (Cm (Iz x.f s a [] [b])));rw[ho]at BX ⊢;rw[Iq]at JO;unfold Bf Ai At at *
     simp only[AA.rows]at BX;cases o with
     | some B =>
       have CF:=Ix B;simp only[EM,Hg,if_true,Bd,Af,Ay]at BX CF;simp only[BS,Ay];refine CP Mk Ml ?_;exact qz (cj @hk<|cj @JN<|Mm) (cj C7<|cj BX<|cj JO<|cj CF<|trivial)
     | none =>
       have CF:=KI AA.zero m (BI x.f);simp only[Gl,H7,Fe,if_false,Bd,Af,Ay]at BX CF;simp only[BS,Ay];refine CP Mk Ml ?_;exact qz (cj @hk<|cj @JN<|Mm) (cj C7<|cj BX<|cj JO<|cj CF<|trivial)
theorem AUi {x:Ae}{m:Nat}{n:Nd}{src:List Int}{s:AM}(h:Pj x m n src s)(hk:n.kind=9)(k0:Nd)(kr:List Nd)(hkk:n.kids=k0::kr):AQ AD 102 [Bf x m,At n,.c (Ab src),Ai s] m (BI x.f) (BI x.f) (BS (DP x s src n)):=by
 obtain⟨ss,hss⟩:=AE (Ab src);rcases h.parts with ⟨hin,hq⟩|⟨L,hl,hb,hin,hq⟩
 . rw[hin];simp only[BS];rw[hss]at hq ⊢;unfold Bf Ai At at *
   refine CP Mk Ml ?_;exact qz Mm (cj hq<|trivial)
 . have C7:=hq.data Td;have hkn:=O5 h.own;have Lb:=Xz h.own;rw[hk]at hkn Lb;obtain⟨a,b,c,rfl⟩:=AOy (L:=L) (by simp[Dh]at hkn;omega);obtain⟨a1,a2,a3,a4⟩:=hb.one (b:=a) (by simp);obtain⟨b1,b2,b3,b4⟩:=hb.one (b:=b) (by simp);obtain⟨c1,c2,c3,c4⟩:=hb.one (b:=c) (by simp);have JO:=wW x m k0 s h.hx;have JN:Nd.rows n.kids=k0.row::Nd.rows kr:=by rw[hkk];rfl
   rw[hss]at C7 ⊢;have hr:AA.rows [a,b,c]=[a.row,b.row,c.row]:=rfl;rw[hr]at C7;cases Iq:Nw x s k0 with
   | true =>
     have Io:DP x s src n=okB (Cm (Iu x.f s a [b] [c])):=by rw[hin,hk];simp[Dz,hkk,Iq,Jt,Ju]
     have BX:=ARK x.f s a b c h.hx.fit h.hx.val h.hs a1 a2 b1 b2 c1 c2;rw[Sj]at BX;rw[Io];obtain⟨o,ho⟩:=AE (okB (Cm (Iu x.f s a [b] [c])));rw[ho]at BX ⊢;rw[Iq]at JO;unfold Bf Ai At at *
     simp only[AA.rows]at BX;cases o with
     | some B =>
       have CF:=Ix B;simp only[EM,Hg,if_true,Bd,Af,Ay]at BX CF;simp only[BS,Ay];refine CP Mk Ml ?_;exact qz (cj @hk<|cj @JN<|Mm) (cj C7<|cj BX<|cj JO<|cj CF<|trivial)
     | none =>
       have CF:=KI AA.zero m (BI x.f);simp only[Gl,H7,Fe,if_false,Bd,Af,Ay]at BX CF;simp only[BS,Ay];refine CP Mk Ml ?_;exact qz (cj @hk<|cj @JN<|Mm) (cj C7<|cj BX<|cj JO<|cj CF<|trivial)
   | false =>
     have Io:DP x s src n=okB (Cm (Iz x.f s a [b] [c])):=by rw[hin,hk];simp[Dz,hkk,Iq,Jt,Ju]
     have BX:=ARp x.f s a b c h.hx.fit h.hx.val h.hs a1 a2 b1 b2 c1 c2;rw[Sj]at BX;rw[Io];obtain⟨o,ho⟩:=AE (okB (Cm (Iz x.f s a [b] [c])));rw[ho]at BX ⊢;rw[Iq]at JO;unfold Bf Ai At at *
     simp only[AA.rows]at BX;cases o with
     | some B =>
       have CF:=Ix B;simp only[EM,Hg,if_true,Bd,Af,Ay]at BX CF;simp only[BS,Ay];refine CP Mk Ml ?_;exact qz (cj @hk<|cj @JN<|Mm) (cj C7<|cj BX<|cj JO<|cj CF<|trivial)
     | none =>
       have CF:=KI AA.zero m (BI x.f);simp only[Gl,H7,Fe,if_false,Bd,Af,Ay]at BX CF;simp only[BS,Ay];refine CP Mk Ml ?_;exact qz (cj @hk<|cj @JN<|Mm) (cj C7<|cj BX<|cj JO<|cj CF<|trivial)
end Go.Proofs.YtpodcjcajanldaaGreat
