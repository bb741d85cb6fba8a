/- Part of the proof of layoutBoxes.proved and layoutRows.proved. Conditions: none. (Joined and shortened by a program.) -/
import Derived.Test.YtpodcjcajanldaaGreatL48
set_option linter.unusedVariables false
set_option linter.unusedSimpArgs false
set_option maxRecDepth 100000
set_option maxHeartbeats 16000000
open Go.IntKind renaming i64→Ad
open List renaming getElem?_eq_getElem→BP,map_cons→Al,map_nil→A8,getElem?_map→Co
open Option.some renaming inj→JW
open Go.Proofs.Tryz renaming prog→AD,results20→al
open SizeOf renaming sizeOf→I6
namespace Go.Proofs.YtpodcjcajanldaaGreat
open Go.RowKit
def RH:Option (AA×Int×Int)->V
 | some t=>.Bk [BD t.1,.c (.int .i64 t.2.1),.c (.int .i64 t.2.2),.c (.bool true)]
 | none=>.Bk [BD AA.zero,.c (.int .i64 0),.c (.int .i64 0),.c (.bool false)]
theorem AK3 (o:Int)(p:List Int)(l:List AA)(k:Nat)(c:AA)(h:l[k]?=some c):AA.US o p (l.drop k)=match c.JE o p with
 | some t=>some (t.1,Ad.wrap (t.2.1+c.x),Ad.wrap (t.2.2+c.y))
 | none=>AA.US o p (l.drop (k+1)):=by
 have hk:=(List.getElem?_eq_some_iff.1 h).1;rw[List.drop_eq_getElem_cons hk];have:l[k]=c:=by rw[BP hk]at h;exact JW h
 rw[this];rfl
theorem AK0 (b0:Int)(b1:ByteArray)(b2 b3 b4 b5 b6 b7:Int)(bk:List AA)(bo:Int)(bs:List Int)(o:Int)(p:List Int)(hc:AA.A9 bk<20000)(DG:bs.length<=1000000)(hp:p.length<=1000000)(ih : ∀c∈bk,AC AD 20 [BD c,.c (.int .i64 o),.c (Ab p)] (RH (c.JE o p))) :
 AC AD 20 [BD ⟨b0,b1,b2,b3,b4,b5,b6,b7,bk,bo,bs⟩,.c (.int .i64 o),.c (Ab p)] (RH (AA.JE o p ⟨b0,b1,b2,b3,b4,b5,b6,b7,bk,bo,bs⟩)):=by
 have hsm:=wH bs p DG hp;simp only[AA.JE];obtain⟨PP,hP⟩:=AE (Ab p);obtain⟨rs,Ak⟩:=AE (AA.rows bk);have Bp:=OY bk;have Am:rs.length=bk.length:=by rw[<-Ak,LF]
 obtain⟨S,hS⟩:=AE (Ab bs);rw[hS,hP]at hsm;rw[hP]at ih;by_cases hh:bo=o/\bs=p
 . rw[if_pos hh];obtain⟨h0,h1⟩:=hh;rw[decide_eq_true h1]at hsm;simp only[RH,BD,AA.row,Al,A8,hS,hP,Ak]at hsm ⊢;refine en Tryz.func20 Tryz.ntmps20 ?_;exact wz (cj @Am<|cj @h0<|al) (cj hsm<|trivial)
 . rw[if_neg hh];obtain⟨RR,dI⟩:=AE (AA.US o p bk);rw[dI];obtain⟨G,hG⟩:=AE (AA.JE o p);obtain⟨F,hF⟩:=AE (AA.US o p);have AMi : ∀k c,bk[k]?=some c->F (bk.drop k)=match G c with
    | some t=>some (t.1,Ad.wrap (t.2.1+c.x),Ad.wrap (t.2.2+c.y))
    | none=>F (bk.drop (k+1)):=fun k c hc=>by rw[<-hF,<-hG];exact AK3 o p bk k c hc
   have hFn:F []=none:=by rw[<-hF];rfl
   rw[hF]at dI;rw[hG]at ih;clear hF hG;simp only[BD,AA.row,Al,A8,hS,hP,Ak];obtain⟨n,hn⟩:=AE bk.length;rw[hn]at Am Bp;rcases (by by_cases h0:bo=o<;>simp_all:(bo=o/\decide (bs=p)=false)\/bo≠o)with ⟨h0,h1⟩|h0
   case' inl =>
    subst h0;rw[h1]at hsm;refine en Tryz.func20 Tryz.ntmps20 ?_;have ff:=(cj @Am<|al)
    repeat any_goals (first|refine CC ?_|exact Bq ff|refine Bt ff ?_|refine A4 ff (hsm) ?_|refine Bi ff ?_|((first|refine By ff ?_ ?_|refine B4 ff ?_ ?_|refine Bz ff ?_ ?_|refine B3 ff ?_ ?_)<;>intro h<;>try (exfalso;first|omega|contradiction)))
   case' inr =>
    refine en Tryz.func20 Tryz.ntmps20 ?_;have ff:=(cj @Am<|cj @h0<|al)
    repeat any_goals (first|refine CC ?_|exact Bq ff|refine Bt ff ?_|refine Bi ff ?_|((first|refine By ff ?_ ?_|refine B4 ff ?_ ?_|refine Bz ff ?_ ?_|refine B3 ff ?_ ?_)<;>intro h<;>try (exfalso;first|omega|contradiction)))
   all_goals
    refine lp (ι:={ k:Nat // k<=n/\F (bk.drop k)=RR }) (fun k=>[(10,.c (.int .i64 (k.1:Int)))]) (fun _=>[.box 41 [.c (.int .i64 b0),.c (.str b1),.c (.int .i64 b2),.c (.int .i64 b3),.c (.int .i64 b4),.c (.int .i64 b5),.c (.int .i64 b6),.c (.int .i64 b7),.c (.sl rs),.c (.int .i64 bo),.c S] false,.box 41 Bo false]) (fun k=>n - k.1) ⟨0,by simpa using dI⟩ ?_ ?_;all_goals simp only[Br,List.foldl_cons,List.foldl_nil,List.set_cons_zero,List.set_cons_succ]
    . refine Le.BV (by simp[A5,Bo])
    . rintro ⟨k,hk,tV⟩;simp only;by_cases hlt:k<n
      . obtain⟨c,hcc⟩:∃c,bk[k]?=some c:=⟨_,BP (by omega)⟩
        have BN:rs[k]?=some c.row:=by rw[<-Ak,Ed,Co,hcc];rfl
        have CW:k<rs.length:=by omega
        have hi:=ih c (List.mem_of_getElem? hcc);have S4:=AMi k c hcc;rw[tV]at S4;have hwr:Ad.wrap ((k:Int)+1)=((k+1:Nat):Int):=by rw[Aq];simp
        cases On:G c with
        | some t =>
          obtain⟨m,X,Y⟩:=t;rw[On]at hi S4;clear On hcc;subst S4;simp only[RH,Ay m]at hi ⊢;obtain⟨c0,c1,c2,c3,c4,c5,c6,c7,ck,co,cs⟩:=c;simp only[BD,AA.row,Al,A8]at hi BN ⊢;have CH:=gx BN;exact wz (cj @Am<|cj @hlt<|cj @BN<|cj @CH<|cj @CW<|cj @Bo.eq_1<|al) (cj hi<|trivial)
        | none =>
          rw[On]at hi S4;clear On hcc;simp only[RH,AA.zero,BD,AA.row,AA.rows,Ab,Al,A8]at hi;obtain⟨c0,c1,c2,c3,c4,c5,c6,c7,ck,co,cs⟩:=c;simp only[BD,AA.row,Al,A8]at hi BN;have CH:=gx BN;refine wy (cj @Am<|cj @hlt<|cj @BN<|cj @CH<|cj @CW<|cj @Bo.eq_1<|cj @hwr<|al) (cj hi<|trivial) ⟨?_⟩;refine⟨⟨k+1,hlt,S4.symm⟩,by simp only;omega,?_⟩;refine Le.H5 2 (Nat.le_of_ble_eq_true rfl) (by simp[A5,Bo]) (by simp[Bo]) (by simp[V.BT,V.BA]) (by simp[O.BA,V.BT,V.BA,Bo])
      . have e:bk.drop k=[]:=List.drop_of_length_le (by omega);rw[e]at tV;subst tV;rw[hFn];simp only[RH,AA.zero,BD,AA.row,AA.rows,Ab,Al,A8];exact wz (cj @Am<|cj @hlt<|cj @Bo.eq_1<|al) trivial
theorem AA4 (o:Int)(p:List Int)(hp:p.length<=1000000):∀(N:Nat) (b:AA),I6 b<N->b.cnt<=20000->b.small->AC AD 20 [BD b,.c (.int .i64 o),.c (Ab p)] (RH (b.JE o p))
 | 0,_,h,_,_=>absurd h (Nat.not_lt_zero _)
 | N+1,⟨b0,b1,b2,b3,b4,b5,b6,b7,bk,bo,bs⟩,hN,hc,hs=>by
   simp only[AA.small]at hs;simp only[AA.cnt]at hc;refine AK0 b0 b1 b2 b3 b4 b5 b6 b7 bk bo bs o p (by omega) hs.1 hp fun c hm=>?_
   have h1:=cL bk c hm;refine AA4 o p hp N c ?_ (by omega) (we hs.2 c hm);have:=List.sizeOf_lt_of_mem hm;simp only[AA.mk.sizeOf_spec]at hN;omega
theorem AA0 (b:AA)(o:Int)(p:List Int)(hp:p.length<=1000000)(hc:b.cnt<=20000)(hs:b.small):AC AD 20 [BD b,.c (.int .i64 o),.c (Ab p)] (RH (b.JE o p)):=AA4 o p hp (I6 b+1) b (Nat.lt_succ_self _) hc hs
theorem AEV {T:List Rw}{i:Nat}{r:Rw}(h:T[i]?=some r):((T.map Rw.path).map KK)[i]?=some [Ab r.path]:=by
 rw[Co,Co,h];rfl
end Go.Proofs.YtpodcjcajanldaaGreat
