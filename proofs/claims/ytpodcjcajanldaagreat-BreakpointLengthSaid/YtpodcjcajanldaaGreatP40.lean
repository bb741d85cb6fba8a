/- Part of the proof of breakpointLength.proved. Conditions: none. (Joined and shortened by a program.) -/
import Derived.Test.YtpodcjcajanldaaGreatP37
import Derived.Test.YtpodcjcajanldaaGreatP39
set_option linter.unusedVariables false
set_option linter.unusedSimpArgs false
set_option maxRecDepth 100000
set_option maxHeartbeats 16000000
open Bool renaming and_eq_true→An,false_eq_true→Fe
open Go.Proofs.Tryz renaming func101→iL,ntmps101→iX,results101→OJ
open List renaming cons_append→Bg,nil_append→Bh,length_cons→BQ,length_nil→B6,map_cons→Al,map_nil→A8,replicate_succ→Ao,drop_succ_cons→Be,drop_zero→BO,set_cons_succ→Az,set_cons_zero→BC,take_succ_cons→E9,take_zero→Ke
open Option renaming getD_some→EM,isSome_some→Hg,getD_none→Gl,isSome_none→H7
open Nat renaming lt_irrefl→Lp
namespace Go.Proofs.YtpodcjcajanldaaGreat
open Go.RowKit
theorem kF (l:List C):Gr 11 2 l=[l.take 11,(l.drop 11).take 11]:=rfl
theorem AKY {kids:List Nd}{b:AA}(h:b.Av=true):(na kids b).Av=true:=by
 unfold na;split
 . obtain⟨bk,bn,bs,bw,bh,bd,bx,Bu,Dt,bo,EC⟩:=b;have e1:(AA.Pz ⟨bk,bn,bs,bw,bh,bd,bx,Bu,Dt,bo,EC⟩).cnt=(⟨bk,bn,bs,bw,bh,bd,bx,Bu,Dt,bo,EC⟩:AA).cnt:=rfl;have e2:(AA.Pz ⟨bk,bn,bs,bw,bh,bd,bx,Bu,Dt,bo,EC⟩).nest=(⟨bk,bn,bs,bw,bh,bd,bx,Bu,Dt,bo,EC⟩:AA).nest:=rfl;unfold AA.Av at h ⊢;rw[e1,e2];rw[An]at h ⊢;refine⟨?_,h.2⟩;have h3:=h.1;simp only[AA.EE,AA.CZ,AA.Pz,AA.lens,AA.Ej,AA.I0,An,List.all_cons,List.all_nil]at h3 ⊢;obtain⟨⟨⟨l1,l2,l3,l4,l5,l6⟩,k1,k2⟩,h4⟩:=h3;have l0:Aw 0=true:=by decide
   exact⟨⟨⟨l0,l0,l0,l4,l5,l6⟩,k1,k2⟩,h4⟩
 . exact h
theorem AUc {x:Ae}{m:Nat}{n:Nd}{src:List Int}{s:AM}(h:Pj x m n src s)(hk:n.kind=6)(k0:Nd)(kr:List Nd)(hkk:n.kids=k0::kr):AQ Tryz.prog 101 [Bf x m,At n,.c (Ab src),Ai s] m (BI x.f) (BI x.f) (BS (DP x s src n)):=by
 obtain⟨ss,hss⟩:=AE (Ab src);rcases h.parts with ⟨hin,hq⟩|⟨L,hl,hb,hin,hq⟩
 . rw[hin];simp only[BS];rw[hss]at hq ⊢;unfold Bf Ai At at *
   refine CP iL iX ?_;exact qz OJ (cj hq<|trivial)
 . have hkn:=O5 h.own;rw[hk]at hkn;obtain⟨a,b,rfl⟩:=mC (L:=L) (by simp[Dh]at hkn;omega);obtain⟨a1,a2,a3,a4⟩:=hb.one (b:=a) (by simp);obtain⟨b1,b2,b3,b4⟩:=hb.one (b:=b) (by simp);have HN:=AKY (kids:=n.kids) a1;have Io:DP x s src n=okB (Cm (Jn x.f s b [na n.kids a])):=by rw[hin,hk];simp[Dz]
   have BX:=ARM x.f s b [na n.kids a] h.hx.fit b2 (by omega) (fun g hg=>by rw[List.mem_singleton]at hg;subst hg;exact⟨fN HN,by have:=cK HN;omega⟩);rw[show Ta x.f s b [na n.kids a]=Cm (Jn x.f s b [na n.kids a])from if_neg (by simp[h.hx.val,h.hs,b1,HN]),Sj]at BX;rw[Io];obtain⟨o,ho⟩:=AE (okB (Cm (Jn x.f s b [na n.kids a])));have JN:Nd.rows n.kids=k0.row::Nd.rows kr:=by rw[hkk];rfl
   have AB9:na n.kids a=if k0.kids=[]then a.Pz else a:=by rw[hkk];rfl
   rw[ho]at BX ⊢;rw[AB9]at BX;rw[hss]at hq ⊢;obtain⟨q0,q1,q2,kk⟩:=k0;have hr:AA.rows [a,b]=[a.row,b.row]:=rfl;simp only at BX AB9;simp only[Nd.row]at JN;have Bp:(Nd.rows kk).length=kk.length:=G0 kk;obtain⟨ak,an,as_,aw,ah,ad,ax,ay,AWP,ao,AWU⟩:=a;obtain⟨bk,bn,bs,bw,bh,bd,bx,Bu,Dt,bo,EC⟩:=b;simp only[AA.rows,AA.row,List.flatten_cons,List.flatten_nil,List.append_nil,Bg,Bh,BQ,B6,Nat.reduceAdd]at hq;unfold Bf Ai At at *
   by_cases Y6:kk.length=0
   . have hkn:kk=[]:=List.length_eq_zero_iff.1 Y6;rw[if_pos hkn]at BX;simp only[Ay,AA.vs,AA.Pz,AA.rows,AA.row,Al,A8]at BX;cases o with
     | some B =>
       have CF:=Ix B;simp only[EM,Hg,if_true,Bd,Af,Ay]at BX CF;simp only[BS,Ay];refine CP iL iX ?_;refine qu (CJ.mk 1) OJ trivial ⟨?_⟩;refine AW.DM ?_;refine SW.take 4 ?_;with_reducible refine Bw (by simp[Ao];first|exact rfl|exact⟨rfl,rfl⟩) ?_
       refine B9 ?_;simp only[Be,BO];refine SW.kD 0 hq (by kernel_rfl) (by simp[gate]) (by simp[DE];first|exact rfl|exact⟨rfl,rfl⟩) (by simp[V.AO,V.AP]) rfl ?_;simp only[St.step,St.put,CG,BQ,B6,Nat.reduceAdd,Nat.reduceLT,Lp,if_true,if_false,Az,BC,Bg,Bh,Al,A8];refine SW.take 1 ?_;with_reducible refine Bw (by simp[Ao];first|exact rfl|exact⟨rfl,rfl⟩) ?_
       refine B9 ?_;simp only[Be,BO];refine SW.nil ?_;refine qu (CJ.mk 4) (cj @JN<|cj @Bp<|cj @Y6<|OJ) trivial ⟨?_⟩;refine AW.AR 4 rfl (by simp[toCs,toC];exact rfl) (by simp[V.BG,V.AR];exact rfl) (by simp[O.AR,V.BG,V.AR];exact rfl) ?_;simp only[kF,E9,Ke,Be,BO];exact qz OJ (cj BX<|cj CF<|trivial)
     | none =>
       have CF:=KI AA.zero m (BI x.f);simp only[Gl,H7,Fe,if_false,Bd,Af,Ay]at BX CF;simp only[BS,Ay];refine CP iL iX ?_;refine qu (CJ.mk 1) OJ trivial ⟨?_⟩;refine AW.DM ?_;refine SW.take 4 ?_;with_reducible refine Bw (by simp[Ao];first|exact rfl|exact⟨rfl,rfl⟩) ?_
       refine B9 ?_;simp only[Be,BO];refine SW.kD 0 hq (by kernel_rfl) (by simp[gate]) (by simp[DE];first|exact rfl|exact⟨rfl,rfl⟩) (by simp[V.AO,V.AP]) rfl ?_;simp only[St.step,St.put,CG,BQ,B6,Nat.reduceAdd,Nat.reduceLT,Lp,if_true,if_false,Az,BC,Bg,Bh,Al,A8];refine SW.take 1 ?_;with_reducible refine Bw (by simp[Ao];first|exact rfl|exact⟨rfl,rfl⟩) ?_
       refine B9 ?_;simp only[Be,BO];refine SW.nil ?_;refine qu (CJ.mk 4) (cj @JN<|cj @Bp<|cj @Y6<|OJ) trivial ⟨?_⟩;refine AW.AR 4 rfl (by simp[toCs,toC];exact rfl) (by simp[V.BG,V.AR];exact rfl) (by simp[O.AR,V.BG,V.AR];exact rfl) ?_;simp only[kF,E9,Ke,Be,BO];exact qz OJ (cj BX<|cj CF<|trivial)
   . have hkn : ¬kk=[]:=fun e=>Y6 (by rw[e];rfl)
     rw[if_neg hkn]at BX;simp only[Ay,AA.vs,AA.rows,AA.row,Al,A8]at BX;cases o with
     | some B =>
       have CF:=Ix B;simp only[EM,Hg,if_true,Bd,Af,Ay]at BX CF;simp only[BS,Ay];refine CP iL iX ?_;refine qu (CJ.mk 1) OJ trivial ⟨?_⟩;refine AW.DM ?_;refine SW.take 4 ?_;with_reducible refine Bw (by simp[Ao];first|exact rfl|exact⟨rfl,rfl⟩) ?_
       refine B9 ?_;simp only[Be,BO];refine SW.kD 0 hq (by kernel_rfl) (by simp[gate]) (by simp[DE];first|exact rfl|exact⟨rfl,rfl⟩) (by simp[V.AO,V.AP]) rfl ?_;simp only[St.step,St.put,CG,BQ,B6,Nat.reduceAdd,Nat.reduceLT,Lp,if_true,if_false,Az,BC,Bg,Bh,Al,A8];refine SW.take 1 ?_;with_reducible refine Bw (by simp[Ao];first|exact rfl|exact⟨rfl,rfl⟩) ?_
       refine B9 ?_;simp only[Be,BO];refine SW.nil ?_;refine qu (CJ.mk 4) (cj @JN<|cj @Bp<|cj @Y6<|OJ) trivial ⟨?_⟩;refine AW.AR 4 rfl (by simp[toCs,toC];exact rfl) (by simp[V.BG,V.AR];exact rfl) (by simp[O.AR,V.BG,V.AR];exact rfl) ?_;simp only[kF,E9,Ke,Be,BO];exact qz OJ (cj BX<|cj CF<|trivial)
     | none =>
       have CF:=KI AA.zero m (BI x.f);simp only[Gl,H7,Fe,if_false,Bd,Af,Ay]at BX CF;simp only[BS,Ay];refine CP iL iX ?_;refine qu (CJ.mk 1) OJ trivial ⟨?_⟩;refine AW.DM ?_;refine SW.take 4 ?_;with_reducible refine Bw (by simp[Ao];first|exact rfl|exact⟨rfl,rfl⟩) ?_
       refine B9 ?_;simp only[Be,BO];refine SW.kD 0 hq (by kernel_rfl) (by simp[gate]) (by simp[DE];first|exact rfl|exact⟨rfl,rfl⟩) (by simp[V.AO,V.AP]) rfl ?_;simp only[St.step,St.put,CG,BQ,B6,Nat.reduceAdd,Nat.reduceLT,Lp,if_true,if_false,Az,BC,Bg,Bh,Al,A8];refine SW.take 1 ?_;with_reducible refine Bw (by simp[Ao];first|exact rfl|exact⟨rfl,rfl⟩) ?_
       refine B9 ?_;simp only[Be,BO];refine SW.nil ?_;refine qu (CJ.mk 4) (cj @JN<|cj @Bp<|cj @Y6<|OJ) trivial ⟨?_⟩;refine AW.AR 4 rfl (by simp[toCs,toC];exact rfl) (by simp[V.BG,V.AR];exact rfl) (by simp[O.AR,V.BG,V.AR];exact rfl) ?_;simp only[kF,E9,Ke,Be,BO];exact qz OJ (cj BX<|cj CF<|trivial)
end Go.Proofs.YtpodcjcajanldaaGreat
