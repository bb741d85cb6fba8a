/- Part of the proof of layoutBoxes.proved. Conditions: none. (Joined and shortened by a program.) -/
import Derived.Test.YtpodcjcajanldaaGreatL49
set_option linter.unusedVariables false
set_option linter.unusedSimpArgs false
set_option maxRecDepth 100000
set_option maxHeartbeats 16000000
open List renaming take_succ_cons→E9,take_append_drop→Tm,map_cons→Al,map_nil→A8,foldl_cons→Bl,foldl_nil→B7,set_cons_zero→Ax,set_cons_succ→Az,getElem?_eq_getElem→BP,getElem?_map→Co,mem_of_getElem?→C6,take_of_length_le→D9,sizeOf_lt_of_mem→Q0,length_map→Cg,drop_succ_cons→Be,drop_zero→BO
open Go.Proofs.Tryz renaming prog→AD,results21→ir,results23→px,func4→iU,results4→Vo
open Go.IntKind renaming i64→Ad
open SizeOf renaming sizeOf→I6
open Nat renaming not_lt_zero→Q3,lt_succ_self→SC,zero_le→Cc
open Bool renaming and_eq_true→An
namespace Go.Proofs.YtpodcjcajanldaaGreat
open Go.RowKit
mutual
theorem AKE (q:Int->List Int->Bool):∀b:AA,b.Ie q<=b.cnt
 | ⟨_,_,_,_,_,_,_,_,kids,o,src⟩=>by
   have:=kJ q kids;simp only[AA.Ie,AA.cnt];split<;>omega
theorem kJ (q:Int->List Int->Bool):∀l:List AA,AA.F3 q l<=AA.A9 l
 | []=>Nat.le_refl _
 | b::l=>by
   have:=AKE q b;have:=kJ q l;simp only[AA.F3,AA.A9];omega
end
theorem rM (q:Int->List Int->Bool):∀(l:List AA) (k:Nat) (b:AA),l[k]?=some b->AA.F3 q (l.take (k+1))=AA.F3 q (l.take k)+b.Ie q
 | [],k,b,h=>by simp at h
 | c::l,0,b,h=>by simp at h;subst h;simp[AA.F3]
 | c::l,k+1,b,h=>by
   have:=rM q l k b (by simpa using h);simp only[E9,AA.F3]at this ⊢;omega
theorem AAT (q:Int->List Int->Bool)(l:List AA)(k:Nat):AA.F3 q (l.take k)<=AA.F3 q l:=by
 have h:AA.F3 q (l.take k)+AA.F3 q (l.drop k)=AA.F3 q l:=by
  have key : ∀a b:List AA,AA.F3 q (a++b)=AA.F3 q a+AA.F3 q b:=fun a b=>by
   induction a with
   | nil=>simp[AA.F3]
   | cons c a ih=>simp only[List.cons_append,AA.F3,ih];omega
  rw[<-key,Tm]
 omega
theorem APD (b0:Int)(b1:ByteArray)(b2 b3 b4 b5 b6 b7:Int)(bk:List AA)(bo:Int)(bs:List Int)(o:Int)(p:List Int)(hc:AA.A9 bk<20000)(DG:bs.length<=1000000)(hp:p.length<=1000000)(ih : ∀c∈bk,AC AD 21 [BD c,.c (.int .i64 o),.c (Ab p)] (.c (.int .i64 (c.Ie (fun o' s=>decide (o'=o) && decide (s=p)):Int)))) :
 AC AD 21 [BD ⟨b0,b1,b2,b3,b4,b5,b6,b7,bk,bo,bs⟩,.c (.int .i64 o),.c (Ab p)] (.c (.int .i64 (AA.Ie (fun o' s=>decide (o'=o) && decide (s=p)) ⟨b0,b1,b2,b3,b4,b5,b6,b7,bk,bo,bs⟩:Int))):=by
 have hsm:=wH bs p DG hp;obtain⟨q,hq⟩:=AE ((fun (o':Int) (s:List Int)=>decide (o'=o) && decide (s=p)));have lW:q bo bs=(decide (bo=o) && decide (bs=p)):=by rw[<-hq]
 rw[hq]at ih ⊢;clear hq;simp only[AA.Ie];obtain⟨E,hE⟩:=AE (decide (bs=p));rw[hE]at lW hsm;clear hE;obtain⟨S,hS⟩:=AE (Ab bs);obtain⟨PP,hP⟩:=AE (Ab p);obtain⟨rs,Ak⟩:=AE (AA.rows bk);have Bp:=OY bk;have Am:rs.length=bk.length:=by rw[<-Ak,LF]
 simp only[BD,AA.row,Al,A8,hS,hP,Ak]at hsm ⊢;rw[hP]at ih;clear hS hP;obtain⟨n,hn⟩:=AE bk.length;rw[hn]at Am Bp;obtain⟨z,hz⟩:∃z:Nat,(if q bo bs=true then 1 else 0)=z:=⟨_,rfl⟩
 rw[hz];have hw1:Ad.wrap 1=1:=Aq;rcases (by rw[lW]at hz;cases E<;>by_cases h0:bo=o<;>simp[h0]at hz<;>simp[h0,<-hz]:(bo=o/\E=true/\z=1)\/(bo=o/\E=false/\z=0)\/(bo≠o/\z=0))with ⟨h0,RL,hz⟩|⟨h0,RL,hz⟩|⟨h0,hz⟩
 case' inl =>
  subst h0 RL;refine en Tryz.func21 Tryz.ntmps21 ?_;have ff:=(cj @Am<|cj @hw1<|ir)
  repeat any_goals (first|refine CC ?_|exact Bq ff|refine Bt ff ?_|refine A4 ff (hsm) ?_|refine Bi ff ?_|((first|refine By ff ?_ ?_|refine B4 ff ?_ ?_|refine Bz ff ?_ ?_|refine B3 ff ?_ ?_)<;>intro h<;>try (exfalso;first|omega|contradiction)))
 case' inr.inl =>
  subst h0 RL;refine en Tryz.func21 Tryz.ntmps21 ?_;have ff:=(cj @Am<|ir)
  repeat any_goals (first|refine CC ?_|exact Bq ff|refine Bt ff ?_|refine A4 ff (hsm) ?_|refine Bi ff ?_|((first|refine By ff ?_ ?_|refine B4 ff ?_ ?_|refine Bz ff ?_ ?_|refine B3 ff ?_ ?_)<;>intro h<;>try (exfalso;first|omega|contradiction)))
 case' inr.inr =>
  refine en Tryz.func21 Tryz.ntmps21 ?_;have ff:=(cj @Am<|cj @h0<|ir)
  repeat any_goals (first|refine CC ?_|exact Bq ff|refine Bt ff ?_|refine A4 ff (hsm) ?_|refine Bi ff ?_|((first|refine By ff ?_ ?_|refine B4 ff ?_ ?_|refine Bz ff ?_ ?_|refine B3 ff ?_ ?_)<;>intro h<;>try (exfalso;first|omega|contradiction)))
 all_goals
  refine lp (ι:={ k:Nat // k<=n }) (fun k=>[(7,.c (.int .i64 ((z+AA.F3 q (bk.take k.1):Nat):Int))),(8,.c (.int .i64 (k.1:Int)))]) (fun _=>[.box 41 [.c (.int .i64 b0),.c (.str b1),.c (.int .i64 b2),.c (.int .i64 b3),.c (.int .i64 b4),.c (.int .i64 b5),.c (.int .i64 b6),.c (.int .i64 b7),.c (.sl rs),.c (.int .i64 bo),.c S] false]) (fun k=>n - k.1) ⟨0,by simp⟩ ?_ ?_;all_goals simp only[Br,Bl,B7,Ax,Az]
  . refine Le.BV (by simp[A5,hz,AA.F3])
  . rintro ⟨k,hk⟩;simp only;by_cases hlt:k<n
    . obtain⟨c,hcc⟩:∃c,bk[k]?=some c:=⟨_,BP (by omega)⟩
      have BN:rs[k]?=some c.row:=by rw[<-Ak,Ed,Co,hcc];rfl
      have CH:=gx BN;have CW:k<rs.length:=by omega
      have hi:=ih c (C6 hcc);rw[Ay]at hi;have hwr:Ad.wrap ((k:Int)+1)=((k+1:Nat):Int):=by rw[Aq];simp
      have h1:=rM q bk k c hcc;have h2:=AAT q bk (k+1);have h3:=kJ q bk;obtain⟨A,hA⟩:∃A:Nat,z+AA.F3 q (bk.take k)=A:=⟨_,rfl⟩
      obtain⟨M,hM⟩:∃M:Nat,c.Ie q=M:=⟨_,rfl⟩
      have hw:Ad.wrap ((A:Int)+(M:Int))=((z+AA.F3 q (bk.take (k+1)):Nat):Int):=by rw[Aq];omega
      rw[hM]at hi;rw[hA];refine wy (cj @Am<|cj @hlt<|cj @BN<|cj @CH<|cj @CW<|cj @hw<|cj @hwr<|ir) (cj hi<|trivial) ⟨?_⟩;refine⟨⟨k+1,hlt⟩,by simp only;omega,?_⟩;exact wd 1
    . have e:bk.take k=bk:=D9 (by omega);rw[e];exact wz (cj @Am<|cj @hlt<|ir) trivial
theorem ADp (o:Int)(p:List Int)(hp:p.length<=1000000):∀(N:Nat) (b:AA),I6 b<N->b.cnt<=20000->b.small->AC AD 21 [BD b,.c (.int .i64 o),.c (Ab p)] (.c (.int .i64 (b.Ie (fun o' s=>decide (o'=o) && decide (s=p)):Int)))
 | 0,_,h,_,_=>absurd h (Q3 _)
 | N+1,⟨b0,b1,b2,b3,b4,b5,b6,b7,bk,bo,bs⟩,hN,hc,hs=>by
   simp only[AA.small]at hs;simp only[AA.cnt]at hc;refine APD b0 b1 b2 b3 b4 b5 b6 b7 bk bo bs o p (by omega) hs.1 hp fun c hm=>?_
   have h1:=cL bk c hm;refine ADp o p hp N c ?_ (by omega) (we hs.2 c hm);have:=Q0 hm;simp only[AA.mk.sizeOf_spec]at hN;omega
theorem APC (b:AA)(o:Int)(p:List Int)(hp:p.length<=1000000)(hc:b.cnt<=20000)(hs:b.small):AC AD 21 [BD b,.c (.int .i64 o),.c (Ab p)] (.c (.int .i64 (b.Ie (fun o' s=>decide (o'=o) && decide (s=p)):Int))):=ADp o p hp (I6 b+1) b (SC _) hc hs
theorem AI9 (b0:Int)(b1:ByteArray)(b2 b3 b4 b5 b6 b7:Int)(bk:List AA)(bo:Int)(bs:List Int)(o:Int)(hc:AA.A9 bk<20000)(ih : ∀c∈bk,AC AD 23 [BD c,.c (.int .i64 o)] (.c (.int .i64 (c.Ie (fun o' _=>decide (o'=o)):Int)))) :
 AC AD 23 [BD ⟨b0,b1,b2,b3,b4,b5,b6,b7,bk,bo,bs⟩,.c (.int .i64 o)] (.c (.int .i64 (AA.Ie (fun o' _=>decide (o'=o)) ⟨b0,b1,b2,b3,b4,b5,b6,b7,bk,bo,bs⟩:Int))):=by
 obtain⟨q,hq⟩:=AE ((fun (o':Int) (_:List Int)=>decide (o'=o)));have lW:q bo bs=decide (bo=o):=by rw[<-hq]
 rw[hq]at ih ⊢;clear hq;simp only[AA.Ie];obtain⟨S,hS⟩:=AE (Ab bs);obtain⟨rs,Ak⟩:=AE (AA.rows bk);have Bp:=OY bk;have Am:rs.length=bk.length:=by rw[<-Ak,LF]
 simp only[BD,AA.row,Al,A8,hS,Ak];clear hS;obtain⟨n,hn⟩:=AE bk.length;rw[hn]at Am Bp;obtain⟨z,hz⟩:∃z:Nat,(if q bo bs=true then 1 else 0)=z:=⟨_,rfl⟩
 rw[hz];have hw1:Ad.wrap 1=1:=Aq;rcases (by rw[lW]at hz;by_cases h0:bo=o<;>simp[h0]at hz<;>simp[h0,<-hz]:(bo=o/\z=1)\/(bo≠o/\z=0))with ⟨h0,hz⟩|⟨h0,hz⟩
 case' inl =>
  subst h0;refine en Tryz.func23 Tryz.ntmps23 ?_;have ff:=(cj @Am<|cj @hw1<|px)
  repeat any_goals (first|refine CC ?_|exact Bq ff|refine Bt ff ?_|refine Bi ff ?_|((first|refine By ff ?_ ?_|refine B4 ff ?_ ?_|refine Bz ff ?_ ?_|refine B3 ff ?_ ?_)<;>intro h<;>try (exfalso;first|omega|contradiction)))
 case' inr =>
  refine en Tryz.func23 Tryz.ntmps23 ?_;have ff:=(cj @Am<|cj @h0<|px)
  repeat any_goals (first|refine CC ?_|exact Bq ff|refine Bt ff ?_|refine Bi ff ?_|((first|refine By ff ?_ ?_|refine B4 ff ?_ ?_|refine Bz ff ?_ ?_|refine B3 ff ?_ ?_)<;>intro h<;>try (exfalso;first|omega|contradiction)))
 all_goals
  refine lp (ι:={ k:Nat // k<=n }) (fun k=>[(5,.c (.int .i64 ((z+AA.F3 q (bk.take k.1):Nat):Int))),(6,.c (.int .i64 (k.1:Int)))]) (fun _=>[.box 41 [.c (.int .i64 b0),.c (.str b1),.c (.int .i64 b2),.c (.int .i64 b3),.c (.int .i64 b4),.c (.int .i64 b5),.c (.int .i64 b6),.c (.int .i64 b7),.c (.sl rs),.c (.int .i64 bo),.c S] false]) (fun k=>n - k.1) ⟨0,by simp⟩ ?_ ?_;all_goals simp only[Br,Bl,B7,Ax,Az]
  . refine Le.BV (by simp[A5,hz,AA.F3])
  . rintro ⟨k,hk⟩;simp only;by_cases hlt:k<n
    . obtain⟨c,hcc⟩:∃c,bk[k]?=some c:=⟨_,BP (by omega)⟩
      have BN:rs[k]?=some c.row:=by rw[<-Ak,Ed,Co,hcc];rfl
      have CH:=gx BN;have CW:k<rs.length:=by omega
      have hi:=ih c (C6 hcc);rw[Ay]at hi;have hwr:Ad.wrap ((k:Int)+1)=((k+1:Nat):Int):=by rw[Aq];simp
      have h1:=rM q bk k c hcc;have h2:=AAT q bk (k+1);have h3:=kJ q bk;obtain⟨A,hA⟩:∃A:Nat,z+AA.F3 q (bk.take k)=A:=⟨_,rfl⟩
      obtain⟨M,hM⟩:∃M:Nat,c.Ie q=M:=⟨_,rfl⟩
      have hw:Ad.wrap ((A:Int)+(M:Int))=((z+AA.F3 q (bk.take (k+1)):Nat):Int):=by rw[Aq];omega
      rw[hM]at hi;rw[hA];refine wy (cj @Am<|cj @hlt<|cj @BN<|cj @CH<|cj @CW<|cj @hw<|cj @hwr<|px) (cj hi<|trivial) ⟨?_⟩;refine⟨⟨k+1,hlt⟩,by simp only;omega,?_⟩;exact wd 1
    . have e:bk.take k=bk:=D9 (by omega);rw[e];exact wz (cj @Am<|cj @hlt<|px) trivial
theorem zL (o:Int):∀(N:Nat) (b:AA),I6 b<N->b.cnt<=20000->AC AD 23 [BD b,.c (.int .i64 o)] (.c (.int .i64 (b.Ie (fun o' _=>decide (o'=o)):Int)))
 | 0,_,h,_=>absurd h (Q3 _)
 | N+1,⟨b0,b1,b2,b3,b4,b5,b6,b7,bk,bo,bs⟩,hN,hc=>by
   simp only[AA.cnt]at hc;refine AI9 b0 b1 b2 b3 b4 b5 b6 b7 bk bo bs o (by omega) fun c hm=>?_
   have h1:=cL bk c hm;refine zL o N c ?_ (by omega);have:=Q0 hm;simp only[AA.mk.sizeOf_spec]at hN;omega
theorem zI (b:AA)(o:Int)(hc:b.cnt<=20000):AC AD 23 [BD b,.c (.int .i64 o)] (.c (.int .i64 (b.Ie (fun o' _=>decide (o'=o)):Int))):=zL o (I6 b+1) b (SC _) hc
theorem AG1 : ∀(T:List Rw) (i:Nat) (r:Rw),T[i]?=some r->Gi (T.take (i+1))=Gi (T.take i)+r.nd.kids.length
 | [],i,r,h=>by simp at h
 | t::T,0,r,h=>by simp at h;subst h;simp[Gi]
 | t::T,i+1,r,h=>by
   have:=AG1 T i r (by simpa using h);simp only[E9,Gi]at this ⊢;omega
theorem AUw (T:List Rw)(i:Nat):Gi (T.take i)<=Gi T:=by
 have:Gi (T.take i++T.drop i)=Gi T:=by rw[Tm]
 rw[gD]at this;omega
theorem AJl (x:Ae)(n:Nd)(s:AM)(hf:x.f.Fit)(hl:x.d.length<=maxLen)(Nl : ∀e∈x.d,e.text.size<=maxLen)(hn:n.Bc):AC AD 4 [.agg (Gf x),At n,Ai s] (.c (.bool true)):=by
 have h0:=jv;have h1:=kX x n 40 hf hl hn (by omega) (by omega);cases hfw:RE x n 40 with
 | false =>
   rw[hfw]at h1;obtain⟨kd,t,c,kids⟩:=n;obtain⟨lv,cr⟩:=s;simp only[At,Nd.vs,Ai,Nd.row,Al,A8]at h1 ⊢;refine en iU Tryz.ntmps4 ?_;exact wz Vo (cj h0<|cj h1<|trivial)
 | true =>
   rw[hfw]at h1;unfold RE at hfw;simp only[An,decide_eq_true_eq]at hfw;have h2:=uv x n s hf hfw.2.1 Nl hn (by omega);rcases wD x s n with ⟨e,he,hr⟩|⟨b,ho,hv,Am,hr⟩
   . rw[hr]at h2;have h3:=Xi AA.zero (by simp[AA.zero,AA.fit,AA.fits]);obtain⟨kd,t,c,kids⟩:=n;obtain⟨lv,cr⟩:=s;simp only[At,Nd.vs,Ai,Nd.row,Al,A8,BD,Af,AA.zero,AA.row,AA.rows,Ab]at h1 h2 h3 ⊢;refine en iU Tryz.ntmps4 ?_;exact wz (cj @he<|Vo) (cj h0<|cj h1<|cj h2<|cj h3<|trivial)
   . rw[hr]at h2;have hB:=zy hv Am;have Yy:=nI Am;have hd:n.BB<=24:=by
      unfold Nd.Av at hv;simp only[An,decide_eq_true_eq]at hv;omega
     have hsm:b.small:=wc b (nJ x n s [] b (by simp;omega) Am);have HU:=AEj n [] hn (by simp;omega);rw[<-wF n s []]at HU;have eO:=wG n s [];have BU : ∀r∈G1 s [] n,AC AD 19 [At n,.c (Ab r.path)] (.Bk [At r.nd,.c (.int .i64 0)])/\r.path.length<=1000/\r.nd.kids.length<=1000:=fun r hr=>by
      obtain⟨t,e,EP⟩:=nO n s [] r hr;rw[List.nil_append]at e;have h5:=r7 n t r.nd EP;have h6:=ka n t r.nd EP;have h7:=Jk r.nd;have h8:=Ny r.nd.kids;have h4:=AFw n r.path hn (by omega) (by rw[e];omega);rw[AFq hv hr]at h4;exact⟨h4,by rw[e];omega,by omega⟩
     have WR:=zI b 1 Yy;have IG:=zI b 2 Yy;rw[hB.AI7]at WR;rw[hB.AI8]at IG;obtain⟨T,hT⟩:=AE (G1 s [] n);rw[hT]at hB HU eO BU WR IG;obtain⟨PS,WO⟩:=AE ((T.map Rw.path).map KK);have RN:PS.length=T.length:=by rw[<-WO,Cg,Cg]
     rw[WO]at HU;obtain⟨N,hN⟩:=AE T.length;rw[hN]at RN eO WR;have hz:Ab []=.sl []:=rfl;rw[hz]at HU;have dm:At n=.agg n.vs:=rfl;obtain⟨lv,cr⟩:=s;have Kt : ∀r∈T,r.path.length<=1000/\r.nd.kids.length<=1000:=fun r hr=>(BU r hr).2
     have M4:=fun i r (h:T[i]?=some r)=>(BU r (C6 h)).1
     rw[dm]at h1 h2 HU ⊢;simp only[dm]at M4;clear BU hT Am hr;simp only[Ai,Ay,Af]at h1 h2 WR IG ⊢;refine en iU Tryz.ntmps4 ?_;refine wy (cj @RN<|Vo) (cj h0<|cj h1<|cj h2<|cj HU<|trivial) ⟨?_⟩;refine lp (ι:={ k:Nat // k<=N }) (fun k=>[(10,.c (.int .i64 ((Gi (T.take k.1):Nat):Int))),(11,.c (.int .i64 (k.1:Int)))]) (fun _=>[O.box 30 (Gf x) false,O.box 33 n.vs false,O.box 35 [.c (.int .i64 lv),.c (.bool cr)] false,O.box 41 b.vs false]) (fun k=>N - k.1) ⟨0,Cc _⟩ ?_ ?_;all_goals simp only[Br,Bl,B7,Ax,Az]
     . refine Le.BV (by simp[A5,Gi])
     . rintro ⟨k,hkN⟩;simp only;by_cases hlt:k<N
       . obtain⟨r,hr⟩:∃r,T[k]?=some r:=⟨_,BP (by omega)⟩
         have hrm:=C6 hr;have hro:=M4 k r hr;obtain⟨ANU,ACa⟩:=Kt r hrm;obtain⟨m,X,Y,S4,kq⟩:=hB.JE r hrm;have DX:=AA0 b 1 r.path (by omega) Yy hsm;rw[S4]at DX;have BX:=APC b 1 r.path (by omega) Yy hsm;rw[hB.one r hrm]at BX;have Ft:PS[k]?=some [Ab r.path]:=by rw[<-WO];exact AEV hr
         have M2:=gx Ft;have dy:k<PS.length:=by omega
         have hlen:m.kids.length=r.nd.kids.length:=kq.len;have ACP : ∀(j:Nat) (c:AA),m.kids[j]?=some c->c.KJ=2/\c.src=r.path++[(j:Int)]:=kq.kid;have hst:=AG1 T k r hr;have DG:=AUw T (k+1);have hw:Ad.wrap ((k:Int)+1)=((k+1:Nat):Int):=by rw[Aq];simp
         obtain⟨A,hA⟩:∃A:Nat,Gi (T.take k)=A:=⟨_,rfl⟩
         rw[hA]at hst ⊢;obtain⟨rp,rn,rst⟩:=r;obtain⟨rk,rt,rc,VC⟩:=rn;simp only at hro DX BX Ft M2 hlen ACP hst ANU ACa;obtain⟨M,hM⟩:=AE VC.length;rw[hM]at hlen hst ACa;obtain⟨qs,TD⟩:=AE (Nd.rows VC);have RY:qs.length=M:=by rw[<-TD,ND,Cg,hM]
         obtain⟨ms,Wl⟩:=AE (AA.rows m.kids);have M1:ms.length=M:=by rw[<-Wl,LF,hlen]
         have hwA:Ad.wrap ((A:Int)+(M:Int))=((Gi (T.take (k+1)):Nat):Int):=by rw[Aq];omega
         have ACe:=fun j:Nat=>wH (rp++[(j:Int)]) (rp++[(j:Int)]) (by simp;omega) (by simp;omega)
         obtain⟨RS,P5⟩:=AE ((rp.map fun n=>[C.int .i64 n]));have AW1:RS.length=rp.length:=by rw[<-P5,Cg]
         have se:Ab rp=.sl RS:=by rw[<-P5];rfl
         have ABq : ∀j:Int,Ab (rp++[j])=.sl (RS++[[.int .i64 j]]):=fun j=>by rw[<-P5];unfold Ab;rw[List.map_append];rfl
         have hall:(∀x:List C,x∈RS->x.length=1)↔True:=⟨fun _=>trivial,fun _ x hx=>by rw[<-P5]at hx;obtain⟨n,_,rfl⟩:=List.mem_map.1 hx;rfl⟩
         simp only[decide_true,ABq]at ACe;rw[se]at hro DX BX Ft M2;simp only[RH,Ay,At,Nd.vs,Nd.row,Al,A8,TD]at hro DX BX;have e1:((1:Nat):Int)=1:=rfl;rw[e1]at BX;refine wy (cj @RN<|cj @hlt<|cj @dy<|cj @Ft<|cj @M2<|cj @RY<|cj @Wl<|cj @M1<|Vo) (cj hro<|cj DX<|cj BX<|trivial) ⟨?_⟩;refine lp (ι:={ j:Nat // j<=M }) (fun j=>[(18,.c (.int .i64 (j.1:Int)))]) (fun _=>[O.box 30 (Gf x) false,O.box 33 n.vs false,O.box 35 [.c (.int .i64 lv),.c (.bool cr)] false,O.box 41 b.vs false,O.box 33 [.c (.int .i64 rk),.c (.str rt),.c (.int .i64 rc),.c (.sl qs)] false,O.box 41 m.vs false]) (fun j=>M - j.1) ⟨0,Cc _⟩ ?_ ?_;all_goals simp only[Br,Bl,B7,Ax,Az]
         . refine Le.BV (by simp[A5])
         . rintro ⟨j,hj⟩;simp only;by_cases QG:j<M
           . obtain⟨c,hc⟩:∃c,m.kids[j]?=some c:=⟨_,BP (by omega)⟩
             obtain⟨Dk,hcs⟩:=ACP j c hc;have BN:ms[j]?=some c.row:=by rw[<-Wl,Ed,Co,hc];rfl
             have AM7:j<ms.length:=by omega
             obtain⟨c0,c1,c2,c3,c4,c5,c6,c7,ck,co,cs⟩:=c;simp only at Dk hcs;subst Dk hcs;simp only[AA.row,ABq]at BN;have CH:=gx BN;have hsj:=ACe j;have f1:RS.length<=maxLen:=by unfold maxLen;omega
             have f2:RS.length*8<=140737488355328:=by omega
             have f3:RS.length+1<=maxLen:=by unfold maxLen;omega
             have f4:(RS.length+1)*8<=140737488355328:=by omega
             have uJ:Ad.wrap ((j:Int)+1)=((j+1:Nat):Int):=by rw[Aq];simp
             refine wu (CJ.mk 20) (cj @QG<|cj @M1<|cj @Wl<|Vo) trivial ⟨?_⟩;refine AW.Py GZ (.inl rfl) ?_;refine TW.take 14 (Fh (by simp[Wl,BN,CH,AM7,M1,QG];first|exact rfl|exact⟨rfl,rfl⟩|exact⟨rfl,rfl,rfl⟩) (Ly ?_));simp only[Be,BO];refine TW.op ⟨.full [],none,none⟩ rfl (by intro k ob h;cases h) ?_ ?_
             . intro S0 w0 x a w H g hop BN;exact fL g rfl (Ah:=3) (es:=1) (Bu:=8) (by simp)
             simp only[St.step,St.put,CG,List.length_cons,List.length_nil,Nat.reduceAdd,Nat.reduceLT,if_true,Az,Ax];refine TW.take 4 (Fh (by simp[Ft,M2,dy];first|exact rfl|exact⟨rfl,rfl⟩|exact⟨rfl,rfl,rfl⟩) (Ly ?_));simp only[Be,BO];refine TW.take 4 (Fh (by simp[f1,f2,f3,f4,hall];first|exact rfl|exact⟨rfl,rfl⟩|exact⟨rfl,rfl,rfl⟩) (Ly ?_));simp only[Be,BO];refine TW.take 3 ?_;simp only[E9,List.take_zero];refine gc (cj @f1<|@hall) hsj Tryz.func22 ?_;refine Ly (TW.nil ⟨by kernel_rfl,?_⟩);refine G7 ?_;refine wy (cj @uJ<|Vo) trivial ⟨?_⟩;refine⟨⟨j+1,QG⟩,by simp only;omega,?_⟩;exact wd 6
           . obtain rfl:j=M:=by omega
             refine wy (cj @QG<|cj @M1<|cj @Wl<|cj @RY<|cj @hwA<|cj @hw<|Vo) trivial ⟨?_⟩;refine⟨⟨k+1,hlt⟩,by simp only;omega,?_⟩;exact wd 4
       . obtain rfl:k=N:=by omega
         have e:T.take k=T:=D9 (by omega);rw[e];exact wz (cj @RN<|cj @hlt<|Vo) (cj WR<|cj IG<|trivial)
end Go.Proofs.YtpodcjcajanldaaGreat
