/- Part of the proof of breakpointLength.proved. Conditions: none. (Joined and shortened by a program.) -/
import Derived.Test.YtpodcjcajanldaaGreatP23
import Derived.Test.YtpodcjcajanldaaGreatP25
import Derived.Test.YtpodcjcajanldaaGreatP36
set_option linter.unusedVariables false
set_option linter.unusedSimpArgs false
set_option maxRecDepth 100000
set_option maxHeartbeats 16000000
open Bool renaming and_eq_true→An,and_true→G4,false_eq_true→Fe
open List renaming all_cons→Dr,all_nil→Kc,all_eq_true→Ee
open Go.Proofs.Tryz renaming prog→AD,results100→x7,results103→x8,results104→x9
open Option renaming getD_some→EM,isSome_some→Hg,getD_none→Gl,isSome_none→H7
namespace Go.Proofs.YtpodcjcajanldaaGreat
open Go.RowKit
theorem qm {b:AA}(h:b.Av=true)(x y:Int):(b.at_ x y).Av=(Aw x && Aw y):=by
 obtain⟨bk,bn,bs,bw,bh,bd,bx,Bu,Dt,bo,EC⟩:=b;simp only[AA.Av,An,decide_eq_true_eq]at h;obtain⟨h1,h2,h3⟩:=h;simp only[AA.EE,AA.CZ,AA.lens,An,Dr,Kc]at h1;obtain⟨⟨⟨l1,l2,l3,l4,l5,_⟩,k1,k2⟩,h4⟩:=h1;have uV:AA.Ej ⟨bk,bn,bs,bw,bh,bd,x,y,Dt,bo,EC⟩=true:=k1;have uW:AA.I0 ⟨bk,bn,bs,bw,bh,bd,x,y,Dt,bo,EC⟩=true:=k2;have Fa:AA.cnt ⟨bk,bn,bs,bw,bh,bd,x,y,Dt,bo,EC⟩<=20000:=h2;have J8:AA.nest ⟨bk,bn,bs,bw,bh,bd,x,y,Dt,bo,EC⟩<=100:=h3;have ho:AA.CZ ⟨bk,bn,bs,bw,bh,bd,x,y,Dt,bo,EC⟩=(Aw x && Aw y):=by
  unfold AA.CZ;rw[uV,uW];simp only[AA.lens,Dr,Kc,l1,l2,l3,Bool.true_and,G4]
 have hp:AA.EE ⟨bk,bn,bs,bw,bh,bd,x,y,Dt,bo,EC⟩=(Aw x && Aw y):=by
  show (AA.CZ ⟨bk,bn,bs,bw,bh,bd,x,y,Dt,bo,EC⟩ && AA.Hb Dt)=_;rw[ho,h4,G4]
 show (AA.EE ⟨bk,bn,bs,bw,bh,bd,x,y,Dt,bo,EC⟩ && (decide (AA.cnt ⟨bk,bn,bs,bw,bh,bd,x,y,Dt,bo,EC⟩<=20000) && decide (AA.nest ⟨bk,bn,bs,bw,bh,bd,x,y,Dt,bo,EC⟩<=100)))=_;rw[hp,decide_eq_true Fa,decide_eq_true J8,Bool.and_self,G4]
theorem AEb {t:ByteArray}(h:(decide (t.size=2) && Da (hasB Kj) t)=true):MW t=true:=by
 rw[An]at h;have key : ∀b:UInt8,hasB Kj b.toNat=true->PD b=true:=by
  intro b hb;unfold hasB at hb;obtain⟨c,hc,he⟩:=List.any_eq_true.1 hb;have e:c=b:=UInt8.toNat_inj.1 (by have:=of_decide_eq_true he;omega);subst e;have : ∀d∈Kj.data.toList,PD d=true:=by decide
  exact this c hc
 unfold MW;rw[h.1,G4,Ee];intro b hb;exact key b (Ee.1 h.2 b hb)
theorem AT4 {f:AI}(hv:f.valid=true):∀s∈f.CD,s.Bb.length<=1000:=fun s hs=>by
 have h:=X5 hv s hs;simp only[Hd,Bn,Dr,Kc,An,decide_eq_true_eq]at h;omega
theorem AKu {x:Ae}(hx:x.Ok){s:AM}(hs:s.ok=true){t:ByteArray}(ht:MW t=true){b:AA}(hb:b.Av=true):Ig x.f t b (x.sz s)=((okB (Ig x.f t b (x.sz s))).getD AA.zero,if (okB (Ig x.f t b (x.sz s))).isSome=true then 0 else 6):=by
 obtain⟨p1,p2⟩:=GD hx.val hs;have hz:x.sz s=BK x.f.params s:=rfl;have hd : ∀nm need,F2 nm=true->(Hl x.f nm need (x.sz s)).1.Av=true:=fun nm need hn=>by
  rw[hz];rcases rf hx.val p1 p2 hn need with ⟨_,e⟩|⟨_,S,_,hv,_,hl,_,e⟩
  . rw[e];decide
  . have hx:=qm hv S.x S.y;rw[show (S.at_ S.x S.y).Av=true by cases S;exact hv]at hx;rw[e,qm hv,hl,G4];cases hq:Aw S.x with
    | true=>rfl
    | false=>rw[hq]at hx;cases hx
 have e:Ig x.f t b (x.sz s)=El [(Hl x.f (Hc t 0) (JD x.f b (x.sz s)) (x.sz s)).1,b.at_ 0 0,(Hl x.f (Hc t 1) (JD x.f b (x.sz s)) (x.sz s)).1] [0,0,0]:=by
  unfold Ig;rw[if_neg (by simp[hx.val,hb,ht]),if_neg (by rw[hz];omega)]
 rw[e];refine nM ?_ rfl (by decide);have Gx:(b.at_ 0 0).Av=true:=by rw[qm hb];decide
 simp[hd _ _ (mW ht 0 (by omega)),hd _ _ (mW ht 1 (by omega)),Gx]
theorem ATg {x:Ae}{m:Nat}{n:Nd}{src:List Int}{s:AM}(h:Pj x m n src s)(hk:n.kind=5):AQ AD 100 [Bf x m,At n,.c (Ab src),Ai s] m (BI x.f) (BI x.f) (BS (DP x s src n)):=by
 obtain⟨ss,hss⟩:=AE (Ab src);rcases h.parts with ⟨hin,hq⟩|⟨L,hl,hb,hin,hq⟩
 . rw[hin];simp only[BS];rw[hss]at hq ⊢;unfold Bf Ai At at *
   refine CP Tryz.func100 Tryz.ntmps100 ?_;exact qz x7 (cj hq<|trivial)
 . have C7:=hq.data Td;have hkn:=O5 h.own;have Lb:=Xz h.own;rw[hk]at hkn Lb;obtain⟨a,b,rfl⟩:=mC (L:=L) (by simp[Dh]at hkn;omega);obtain⟨a1,a2,a3,a4⟩:=hb.one (b:=a) (by simp);obtain⟨b1,b2,b3,b4⟩:=hb.one (b:=b) (by simp);have Io:DP x s src n=okB (Cm (L5 x.f s a b)):=by rw[hin,hk];simp[Dz]
   have BX:=AQ0 x.f s a b a2 (by omega) b2 (by omega);rw[show Yq x.f s a b=Cm (L5 x.f s a b)from if_neg (by simp[h.hx.val,h.hs,a1,b1]),Sj]at BX;rw[Io];obtain⟨o,ho⟩:=AE (okB (Cm (L5 x.f s a b)));rw[ho]at BX ⊢;rw[hss]at C7 ⊢;have hr:AA.rows [a,b]=[a.row,b.row]:=rfl;rw[hr]at C7;unfold Bf Ai At at *
   cases o with
   | some B =>
     have CF:=Ix B;simp only[EM,Hg,if_true,Bd,Af,Ay]at BX CF;simp only[BS,Ay];refine CP Tryz.func100 Tryz.ntmps100 ?_;exact qz x7 (cj C7<|cj BX<|cj CF<|trivial)
   | none =>
     have CF:=KI AA.zero m (BI x.f);simp only[Gl,H7,Fe,if_false,Bd,Af,Ay]at BX CF;simp only[BS,Ay];refine CP Tryz.func100 Tryz.ntmps100 ?_;exact qz x7 (cj C7<|cj BX<|cj CF<|trivial)
theorem ATW {x:Ae}{m:Nat}{n:Nd}{src:List Int}{s:AM}(h:Pj x m n src s)(hk:n.kind=10):AQ AD 103 [Bf x m,At n,.c (Ab src),Ai s] m (BI x.f) (BI x.f) (BS (DP x s src n)):=by
 obtain⟨ss,hss⟩:=AE (Ab src);rcases h.parts with ⟨hin,hq⟩|⟨L,hl,hb,hin,hq⟩
 . rw[hin];simp only[BS];rw[hss]at hq ⊢;unfold Bf Ai At at *
   refine CP Tryz.func103 Tryz.ntmps103 ?_;exact qz x8 (cj hq<|trivial)
 . have C7:=hq.data Td;have hkn:=O5 h.own;have Lb:=Xz h.own;rw[hk]at hkn Lb;obtain⟨a,rfl⟩:=ADd (L:=L) (by simp[Dh]at hkn;omega);obtain⟨a1,a2,a3,a4⟩:=hb.one (b:=a) (by simp);have Io:DP x s src n=okB (Cm (Na x.f s n.text a (x.gl s n.text))):=by rw[hin,hk];simp[Dz]
   have BX:=AQj x.f s n.text a h.hx.fit h.hx.val h.hs a1 a2 (by simpa [I2]using Lb);rw[show (Cl x.f n.text (BK x.f.params s)).1=x.gl s n.text from rfl,Sj]at BX;rw[Io];obtain⟨o,ho⟩:=AE (okB (Cm (Na x.f s n.text a (x.gl s n.text))));rw[ho]at BX ⊢;rw[hss]at C7 ⊢;have hr:AA.rows [a]=[a.row]:=rfl;rw[hr]at C7;unfold Bf Ai At at *
   cases o with
   | some B =>
     have CF:=Ix B;simp only[EM,Hg,if_true,Bd,Af,Ay]at BX CF;simp only[BS,Ay];refine CP Tryz.func103 Tryz.ntmps103 ?_;exact qz x8 (cj C7<|cj BX<|cj CF<|trivial)
   | none =>
     have CF:=KI AA.zero m (BI x.f);simp only[Gl,H7,Fe,if_false,Bd,Af,Ay]at BX CF;simp only[BS,Ay];refine CP Tryz.func103 Tryz.ntmps103 ?_;exact qz x8 (cj C7<|cj BX<|cj CF<|trivial)
theorem ATf {x:Ae}{m:Nat}{n:Nd}{src:List Int}{s:AM}(h:Pj x m n src s)(hk:n.kind=11):AQ AD 104 [Bf x m,At n,.c (Ab src),Ai s] m (BI x.f) (BI x.f) (BS (DP x s src n)):=by
 obtain⟨ss,hss⟩:=AE (Ab src);have hz:=nY x m h.hs;have Gy:=ZO h.hs;have k0:0<=s.level:=by omega
 have k1:s.level<4:=by omega
 rcases h.parts with ⟨hin,hq⟩|⟨L,hl,hb,hin,hq⟩
 . rw[hin];simp only[BS];rw[hss]at hq ⊢;unfold Bf Ai At at *
   refine CP Tryz.func104 Tryz.ntmps104 ?_;exact qz (cj @hz<|cj @k0<|cj @k1<|x9) (cj hq<|trivial)
 . have C7:=hq.data Td;have hkn:=O5 h.own;have Lb:=Xz h.own;rw[hk]at hkn Lb;obtain⟨a,rfl⟩:=ADd (L:=L) (by simp[Dh]at hkn;omega);obtain⟨a1,a2,a3,a4⟩:=hb.one (b:=a) (by simp);have Io:DP x s src n=okB (Ig x.f n.text a (x.sz s)):=by rw[hin,hk];simp[Dz]
   have BX:=AQy x.f n.text a (x.sz s) h.hx.fit (AT4 h.hx.val) a2 (by omega) (by have:=mX (AEb (by simpa [I2]using Lb));unfold maxLen;omega);rw[AKu h.hx h.hs (AEb (by simpa [I2]using Lb)) a1]at BX;rw[Io];obtain⟨o,ho⟩:=AE (okB (Ig x.f n.text a (x.sz s)));rw[ho]at BX ⊢;rw[hss]at C7 ⊢;have hr:AA.rows [a]=[a.row]:=rfl;rw[hr]at C7;unfold Bf Ai At at *
   cases o with
   | some B =>
     have CF:=Ix B;simp only[EM,Hg,if_true,Bd,Af,Ay]at BX CF;simp only[BS,Ay];refine CP Tryz.func104 Tryz.ntmps104 ?_;exact qz (cj @hz<|cj @k0<|cj @k1<|x9) (cj C7<|cj BX<|cj CF<|trivial)
   | none =>
     have CF:=KI AA.zero m (BI x.f);simp only[Gl,H7,Fe,if_false,Bd,Af,Ay]at BX CF;simp only[BS,Ay];refine CP Tryz.func104 Tryz.ntmps104 ?_;exact qz (cj @hz<|cj @k0<|cj @k1<|x9) (cj C7<|cj BX<|cj CF<|trivial)
end Go.Proofs.YtpodcjcajanldaaGreat
