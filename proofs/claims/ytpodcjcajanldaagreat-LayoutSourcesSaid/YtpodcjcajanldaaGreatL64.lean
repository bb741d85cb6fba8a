/- Part of the proof of layoutSources.proved. Conditions: none. (Joined and shortened by a program.) -/
import Derived.Test.YtpodcjcajanldaaGreatL50
import Derived.Test.YtpodcjcajanldaaGreatL62
set_option linter.unusedVariables false
set_option linter.unusedSimpArgs false
set_option maxRecDepth 100000
set_option maxHeartbeats 16000000
open Go.Proofs.Tryz renaming prog→AD,results26→iv,func6→Tv,ntmps6→YK,results6→YU
open Bool renaming and_eq_true→An,and_self→GR
open List renaming map_drop→xn,getElem?_map→Co,length_map→Cg,map_cons→Al,map_nil→A8,set_cons_zero→Ax,set_cons_succ→Az,nil_append→Bh,cons_append→Bg,getElem?_eq_getElem→BP,length_take→FW,map_append→EX,foldl_map→xk,append_assoc→EW,append_nil→D8
open Option.some renaming inj→JW
open SizeOf renaming sizeOf→I6
open Option renaming map_some→H8
namespace Go.Proofs.YtpodcjcajanldaaGreat
open Go.RowKit
section
variable {H:Type} {enc:TypeId×Value->H} {w:World}
theorem AQT {fuel:Nat}:DD enc AD w fuel 39 (fun l:List Int=>[.sl (l.map fun n=>[.int .i64 n])]) (fun l=>l.length<=maxLen/\∀a∈l,True):=by
 cases fuel with
 | zero=>exact DD.zero
 | succ fuel=>exact XV (n:=1) Tryz.underlying39 (by kernel_rfl) (by decide) (FU Tryz.underlying3)
theorem AQR {fuel:Nat}:DD enc AD w fuel 61 (fun q:List Int×AM=>[Ab q.1,.int .i64 q.2.level,.bool q.2.GJ]) (fun q=>q.1.length<=maxLen):=by
 cases fuel with
 | zero=>exact DD.zero
 | succ fuel=>exact(Rr Tryz.underlying61 (by kernel_rfl) (Cj.cons (o:=0) (o':=1) rfl (by kernel_rfl) (by decide) AQT (Cj.cons (o:=1) (o':=3) rfl (by kernel_rfl) (by decide) mV (Cj.nil)))).conv (fun q=>⟨q.1,q.2.1⟩) (fun q=>rfl) (fun q h=>h.1.1)
end
def Xx (o:Int)(s:List Int):Bool:=Dm s && Gg o s.length
section
variable {g:Int->List Int->List Int} {p q:Int->List Int->Bool}
mutual
theorem ue {g':Int->List Int->List Int} : ∀b:AA,b.CM (fun o s=>decide (g o s=g' o s))=true->b.A7 g=b.A7 g'
 | ⟨_,_,_,_,_,_,_,_,kids,o,src⟩,e=>by
   simp only[AA.CM,An,decide_eq_true_eq]at e;simp only[AA.A7,e.1,ADW kids e.2]
theorem ADW {g':Int->List Int->List Int} : ∀l:List AA,AA.Ca (fun o s=>decide (g o s=g' o s)) l=true->AA.GN g l=AA.GN g' l
 | [],e=>rfl
 | b::l,e=>by
   simp only[AA.Ca,An]at e;simp only[AA.GN,ue b e.1,ADW l e.2]
end
mutual
theorem ADO (g':Int->List Int->List Int):∀b:AA,(b.A7 g).A7 g'=b.A7 (fun o s=>g' o (g o s))
 | ⟨_,_,_,_,_,_,_,_,kids,o,src⟩=>by simp only[AA.A7,ADZ g' kids]
theorem ADZ (g':Int->List Int->List Int):∀l:List AA,AA.GN g' (AA.GN g l)=AA.GN (fun o s=>g' o (g o s)) l
 | []=>rfl
 | b::l=>by simp only[AA.GN,ADO g' b,ADZ g' l]
end
theorem jx {b:AA}(h0:g 0 []=[])(h:b.CM J3=true):b.A7 g=b:=by
 refine(ue (g':=fun _ s=>s) b (Sf (by simp[h0]) h)).trans (lx b)
theorem Un (h0:g 0 []=[])(w h d:Int)(kids:List AA):(CB w h d kids).A7 g=CB w h d (kids.map (AA.A7 g)):=by simp only[CB,AA.A7,h0,lz]
theorem ADS (h0:g 0 []=[])(w h d:Int):(Dw w h d).A7 g=Dw w h d:=by simp only[Dw,AA.A7,h0,AA.GN]
theorem ADU (h0:g 0 []=[]):AA.zero.A7 g=AA.zero:=by simp only[AA.zero,AA.A7,h0,AA.GN]
def KH (g:Int->List Int->List Int)(o:Int)(s:List Int):Bool:=Xx o s && Xx o (g o s)
mutual
theorem ud : ∀b:AA,(b.A7 g).cnt=b.cnt
 | ⟨_,_,_,_,_,_,_,_,kids,o,src⟩=>by simp only[AA.A7,AA.cnt,ADV kids]
theorem ADV : ∀l:List AA,AA.A9 (AA.GN g l)=AA.A9 l
 | []=>rfl
 | b::l=>by simp only[AA.GN,AA.A9,ud b,ADV l]
end
mutual
theorem ADQ : ∀b:AA,(b.A7 g).nest=b.nest
 | ⟨_,_,_,_,_,_,_,_,kids,o,src⟩=>by simp only[AA.A7,AA.nest,ADa kids]
theorem ADa : ∀l:List AA,AA.Nz (AA.GN g l)=AA.Nz l
 | []=>rfl
 | b::l=>by simp only[AA.GN,AA.Nz,ADQ b,ADa l]
end
mutual
theorem ADR : ∀b:AA,b.CM (KH g)=true->(b.A7 g).EE=b.EE
 | ⟨k,n,s,w,h,d,x,y,kids,o,src⟩,e=>by
   simp only[AA.CM,KH,Xx,An]at e;simp only[AA.A7,AA.EE,AA.CZ,AA.lens,AA.Ej,AA.I0,ADb kids e.2,ug,e.1.1.1,e.1.1.2,e.1.2.1,e.1.2.2]
theorem ADb : ∀l:List AA,AA.Ca (KH g) l=true->AA.Hb (AA.GN g l)=AA.Hb l
 | [],e=>rfl
 | b::l,e=>by
   simp only[AA.Ca,An]at e;simp only[AA.GN,AA.Hb,ADR b e.1,ADb l e.2]
end
theorem eu {b:AA}(h:b.CM (KH g)=true):(b.A7 g).Av=b.Av:=by
 unfold AA.Av;rw[ADR b h,ud,ADQ]
theorem ZU {b:AA}(h:b.CM (KH g)=true):okB (Cm (b.A7 g))=(okB (Cm b)).map (AA.A7 g):=by
 unfold Cm;rw[eu h];split<;>simp[okB]
end
def LI (k:Nat)(o:Int)(s:List Int):List Int:=if o≠0/\k<=s.length then s.drop k else s
theorem AOP (k:Nat)(l:List Int):Ab (l.drop k)=.sl ((l.map fun n=>[C.int .i64 n]).drop k):=by rw[<-xn];rfl
theorem AV2 (b0:Int)(b1:ByteArray)(b2 b3 b4 b5 b6 b7:Int)(bk:List AA)(bo:Int)(bs:List Int)(k:Nat)(Bp:bk.length<=20000)(DG:bs.length<=maxLen)(hk:k<=maxLen)(ih : ∀c∈bk,AC AD 26 [BD c,.c (.int .i64 (k:Int))] (BD (c.A7 (LI k)))):AC AD 26 [BD ⟨b0,b1,b2,b3,b4,b5,b6,b7,bk,bo,bs⟩,.c (.int .i64 (k:Int))] (BD (AA.A7 (LI k) ⟨b0,b1,b2,b3,b4,b5,b6,b7,bk,bo,bs⟩)):=by
 have hML:maxLen=maxLen:=rfl;unfold maxLen at DG hk;obtain⟨L,hL⟩:=AE (AA.GN (LI k) bk);have Fm:L.length=bk.length:=by rw[<-hL,ug]
 have hLg : ∀(i:Nat) (c:AA),bk[i]?=some c->L[i]?=some (c.A7 (LI k)):=fun i c hc=>by rw[<-hL,lz,Co,hc];rfl
 obtain⟨S,hS⟩:=AE ((bs.map fun n=>[C.int .i64 n]));have Yt:S.length=bs.length:=by rw[<-hS,Cg]
 have hall:(∀x:List C,x∈S->x.length=1)↔True:=⟨fun _=>trivial,fun _ x hx=>by rw[<-hS]at hx;obtain⟨n,_,rfl⟩:=List.mem_map.1 hx;rfl⟩
 have RO:Ab bs=.sl S:=by rw[<-hS];rfl
 obtain⟨S',GL⟩:∃S',Ab (LI k bo bs)=.sl S':=⟨_,rfl⟩
 obtain⟨rs,Ak⟩:=AE (AA.rows bk);have Am:rs.length=bk.length:=by rw[<-Ak,LF]
 have hc4:(bo=0/\S=S')\/(bo≠0/\¬(k:Int)<=(S.length:Int)/\S=S')\/(bo≠0/\(k:Int)<=(S.length:Int)/\S.drop k=S'):=by
  unfold LI at GL;split at GL
  . rename_i hh;refine .inr (.inr ⟨hh.1,by rw[Yt];omega,?_⟩);rw[AOP,hS]at GL;exact C.sl.inj GL
  . rename_i hh;rw[RO]at GL;by_cases h0:bo=0
    . exact .inl ⟨h0,C.sl.inj GL⟩
    . exact .inr (.inl ⟨h0,by rw[Yt];omega,C.sl.inj GL⟩)
 simp only[BD,AA.A7,AA.row,Al,A8,hL,GL,RO,Ak];clear GL RO hL hS;obtain⟨n,hn⟩:=AE bk.length;rw[hn]at Am Bp Fm;rcases hc4 with ⟨h0,hd⟩|⟨h0,h1,hd⟩|⟨h0,h1,hd⟩
 case' inl =>
  have hd:=hd.symm;subst hd;have Mx:(bo=0)↔True:=⟨fun _=>trivial,fun _=>h0⟩
  refine en Tryz.func26 Tryz.ntmps26 ?_;have ff:=(cj @Am<|cj @Mx<|iv)
  repeat any_goals (first|refine CC ?_|exact Bq ff|refine Bt ff ?_|refine Bi ff ?_|((first|refine By ff ?_ ?_|refine B4 ff ?_ ?_|refine Bz ff ?_ ?_|refine B3 ff ?_ ?_)<;>intro h<;>try (exfalso;first|omega|contradiction)))
 case' inr.inl =>
  have hd:=hd.symm;subst hd;refine en Tryz.func26 Tryz.ntmps26 ?_;have ff:=(cj @Am<|cj @h0<|cj @h1<|iv)
  repeat any_goals (first|refine CC ?_|exact Bq ff|refine Bt ff ?_|refine Bi ff ?_|((first|refine By ff ?_ ?_|refine B4 ff ?_ ?_|refine Bz ff ?_ ?_|refine B3 ff ?_ ?_)<;>intro h<;>try (exfalso;first|omega|contradiction)))
 case' inr.inr =>
  have dB:k<=S.length:=by omega
  refine en Tryz.func26 Tryz.ntmps26 ?_;have ff:=(cj @Am<|cj @h0<|cj @h1<|cj @dB<|cj @hd<|cj @hall<|iv)
  repeat any_goals (first|refine CC ?_|exact Bq ff|refine Bt ff ?_|refine Bi ff ?_|((first|refine By ff ?_ ?_|refine B4 ff ?_ ?_|refine Bz ff ?_ ?_|refine B3 ff ?_ ?_)<;>intro h<;>try (exfalso;first|omega|contradiction)))
 all_goals
  refine AW.le (Le.gH 5 41 11 rfl) ?_;simp only[List.length_nil,List.length_cons,Nat.reduceAdd,Ax,Az,Bh,Bg];refine lp (ι:={ k:Nat // k<=n }) (fun i=>[(5,.gr 2 11 (AA.rows (L.take i.1))),(6,.c (.int .i64 (i.1:Int)))]) (fun i=>[.box 41 [.c (.int .i64 b0),.c (.str b1),.c (.int .i64 b2),.c (.int .i64 b3),.c (.int .i64 b4),.c (.int .i64 b5),.c (.int .i64 b6),.c (.int .i64 b7),.c (.sl rs),.c (.int .i64 bo),.c (.sl S')] false,.box 41 Bo false,.tok 41 11 i.1]) (fun i=>n - i.1) ⟨0,by simp⟩ ?_ ?_;all_goals simp only[Br,List.foldl_cons,List.foldl_nil,Ax,Az]
  . refine Le.BV (by simp[A5,Bo,AA.rows])
  . rintro ⟨i,hi⟩;simp only;by_cases hlt:i<n
    . obtain⟨c,hcc⟩:∃c,bk[i]?=some c:=⟨_,BP (by omega)⟩
      have BN:rs[i]?=some c.row:=by rw[<-Ak,Ed,Co,hcc];rfl
      have CH:=gx BN;have CW:i<rs.length:=by omega
      have hw:=ih c (List.mem_of_getElem? hcc);rw[Ay,Ay]at hw;have hlc:=hLg i c hcc;have hwr:IntKind.i64.wrap ((i:Int)+1)=((i+1:Nat):Int):=by rw[Aq];simp
      have F8:i+1<=maxLen:=by unfold maxLen;omega
      have Fp:(i+1)*128<=140737488355328:=by omega
      have Dv:(AA.rows (L.take i)).length=i:=by rw[LF,FW];omega
      have BU:AA.rows (L.take (i+1))=AA.rows (L.take i)++[(c.A7 (LI k)).row]:=by
       have hLi:L[i]'(by omega)=c.A7 (LI k):=by
        rw[BP (by omega)]at hlc;exact JW hlc
       rw[AFt L i (by omega),hLi]
      refine wy (cj @Am<|cj @hlt<|cj @BN<|cj @CH<|cj @CW<|cj @Bo.eq_1<|cj @F8<|cj @Fp<|cj @Dv<|cj @hwr<|iv) (cj hw<|trivial) ⟨?_⟩;refine⟨⟨i+1,hlt⟩,by simp only;omega,?_⟩;refine Le.H5 3 (Nat.le_of_ble_eq_true rfl) (by simp[A5,Bo,BU]) (by simp[Bo,BU]) (by simp[V.BT,V.BA]) (by simp[O.BA,V.BT,V.BA,Bo,BU])
    . have e:L.take i=L:=List.take_of_length_le (by omega);rw[e];exact wz (cj @Am<|cj @hlt<|cj @Bo.eq_1<|iv) trivial
theorem AHi : ∀(N:Nat) (b:AA),I6 b<N->b.cnt<=20000->b.fit->∀k:Nat,k<=maxLen->AC AD 26 [BD b,.c (.int .i64 (k:Int))] (BD (b.A7 (LI k)))
 | 0,_,h,_,_,_,_=>absurd h (Nat.not_lt_zero _)
 | N+1,⟨b0,b1,b2,b3,b4,b5,b6,b7,bk,bo,bs⟩,hN,hc,hf,k,hk=>by
   simp only[AA.fit]at hf;simp only[AA.cnt]at hc;have Bp:=OY bk;refine AV2 b0 b1 b2 b3 b4 b5 b6 b7 bk bo bs k (by omega) hf.2.1 hk fun c hm=>?_
   have h1:=cL bk c hm;refine AHi N c ?_ (by omega) (AA.r9 hf.2.2 c hm) k hk;have:=List.sizeOf_lt_of_mem hm;simp only[AA.mk.sizeOf_spec]at hN;omega
theorem ny (b:AA)(k:Nat)(hc:b.cnt<=20000)(hf:b.fit)(hk:k<=maxLen):AC AD 26 [BD b,.c (.int .i64 (k:Int))] (BD (b.A7 (LI k))):=AHi (I6 b+1) b (Nat.lt_succ_self _) hc hf k hk
section
variable {g:Int->List Int->List Int} {p:Int->List Int->Bool}
theorem AHE : ∀(l:List AA) (h:Int),I3 (l.map (AA.A7 g)) h=I3 l h
 | [],h=>rfl
 | b::l,h=>by simp only[Al,I3,ZN,MR,AHE l]
theorem zr : ∀(l:List AA) (h:Int),Ib (l.map (AA.A7 g)) h=Ib l h
 | [],h=>rfl
 | b::l,h=>by simp only[Al,Ib,ZN,Ld,zr l]
theorem AEp : ∀(l:List AA) (t:List Int),D3 (l.map (AA.A7 g)) t=(D3 l t).map (AA.A7 g)
 | [],t=>by cases t<;>rfl
 | b::l,[]=>rfl
 | b::l,t::r=>by simp only[Al,D3,Um,ZN,AEp l r]
theorem AEt : ∀(l:List AA) (t:List Int) (e:Int),FG (l.map (AA.A7 g)) t e=FG l t e
 | [],t,e=>by cases t<;>rfl
 | b::l,[],e=>rfl
 | b::l,t::r,e=>by simp only[Al,FG,K4,AEt l r]
theorem AAl : ∀(l:List AA) (t:List Int) (e:Int),Eh (l.map (AA.A7 g)) t e=Eh l t e
 | [],t,e=>by cases t<;>rfl
 | b::l,[],e=>rfl
 | b::l,t::r,e=>by simp only[Al,Eh,K4,AAl l r]
theorem zK : ∀(l:List AA),AA.Ca (KH g) l=true->(l.map (AA.A7 g)).all AA.Av=l.all AA.Av
 | [],_=>rfl
 | b::l,h=>by
   simp only[AA.Ca,An]at h;simp only[Al,List.all_cons,eu h.1,zK l h.2]
theorem ZM (h0:g 0 []=[]):KH g 0 []=true:=by simp[KH,h0];rfl
theorem AFj {l:List AA}{sp:List Int}(h0:g 0 []=[])(h:AA.Ca (KH g) l=true):okB (El (l.map (AA.A7 g)) sp)=(okB (El l sp)).map (AA.A7 g):=by
 have hv:(NA (l.map (AA.A7 g)) (FG l sp 0) (Eh l sp 0))=(NA l (FG l sp 0) (Eh l sp 0)).A7 g:=by
  simp only[NA,Un h0,AHE,zr,AEp]
 have hS:(NA l (FG l sp 0) (Eh l sp 0)).CM (KH g)=true:=by
  simp only[NA,Sc,ZM h0,qV l _ h,GR]
 unfold El Rl;rw[zK l h,Cg,AEt,AAl,hv,eu hS];split
 . simp[okB]
 . split
   . simp[okB]
   . split<;>simp[okB]
theorem AK7 (h0:g 0 []=[])(f:AI)(s:AM)(a b:AA):L5 f s (a.A7 g) (b.A7 g)=(L5 f s a b).A7 g:=by
 simp only[L5,P0,WI,WG,Un h0,Al,A8,Um,ADS h0,K4,MR,Ld]
theorem ASJ (f:AI)(s:AM)(b:AA):DQ f s (b.A7 g)=DQ f s b:=by simp only[DQ,GC,MR,Ld]
theorem ASI (f:AI)(s:AM)(b:AA):GC f s (b.A7 g)=GC f s b:=by simp only[GC,MR,Ld]
theorem ASM (h0:g 0 []=[])(f:AI)(s:AM)(a b:AA):Jn f s (a.A7 g) [b.A7 g]=(Jn f s a [b]).A7 g:=by
 have hS:=jx h0 (jw f KO (GC f s a) (EU f s));have GL:(DQ f s a).A7 g=DQ f s a:=hS;simp only[Jn,Un h0,m8,Xh,rdH,rdD,Tb,Rt,N5,K9,Qc,Qb,ASJ,Al,A8,EX,Um,ADS h0,K4,MR,Ld,GL,ASI,Bg,Bh]
mutual
theorem nS : ∀b:AA,(b.A7 g).simp=b.simp.map (AA.A7 g)
 | ⟨k,n,s,w,h,d,x,y,kids,o,src⟩=>by
   simp only[AA.A7,AA.simp,ATp kids];split
   . rfl
   . split<;>rfl
theorem ATp : ∀l:List AA,AA.N7 (AA.GN g l)=(AA.N7 l).map (AA.A7 g)
 | []=>rfl
 | [c]=>by
   simp only[AA.GN,AA.N7,ly,ZN,nS c];split<;>rfl
 | c::d::l=>by simp only[AA.GN,AA.N7];rfl
end
theorem uT (f:AI)(b:AA):Ea f (b.A7 g)=Ea f b:=by
 unfold Ea;rw[nS];cases b.simp with
 | none=>rfl
 | some c=>simp only[H8,ADP,ADT]
theorem AJa (f:AI)(b:AA):atR f (b.A7 g)=atR f b:=by
 unfold atR;rw[nS];cases b.simp with
 | none=>simp only[Option.map_none,K4]
 | some c=>simp only[H8,ADP,ADT]
theorem AC4 (b:AA):(b.A7 g).simp.isSome=b.simp.isSome:=by rw[nS];cases b.simp<;>rfl
theorem AIv (h0:g 0 []=[])(f:AI)(s:AM)(t:ByteArray)(b a:AA)(ha:a.CM J3=true):Na f s t (b.A7 g) a=(Na f s t b a).A7 g:=by
 have hS:=jx h0 ha;simp only[Na,Un h0,SY,SZ,Pv,AJa,Al,A8,Um,K4,MR,Ld,hS]
theorem AAq : ∀(l:List AA) (e:Int×Int×Int×Int),Mu e (l.map (AA.A7 g))=Mu e l
 | [],e=>rfl
 | b::l,e=>by simp only[Al,Mu,ly,ZN,K4,MR,Ld,AAq l]
theorem AKn (l:List AA):EN (l.map (AA.A7 g))=EN l:=by
 cases l with
 | nil=>rfl
 | cons b l=>simp only[Al,EN,ly,ZN,K4,MR,Ld,AAq]
theorem ATl (f:AI)(s:AM)(b:AA):Mc f s (b.A7 g)=Mc f s b:=by simp only[Mc,AC4,MR]
theorem wR (f:AI)(s:AM)(b:AA):KS f s (b.A7 g)=KS f s b:=by simp only[KS,AC4,Ld]
theorem fv (f:AI)(s:AM)(b:AA)(r:List AA):Fw f s (b.A7 g) (r.map (AA.A7 g))=Fw f s b r:=by
 cases r<;>simp only[Fw,ATl,Al,A8,Ld]
theorem AGK (f:AI)(s:AM)(b:AA):KT f s (b.A7 g)=KT f s b:=by simp only[KT,wR]
theorem ATi (f:AI)(s:AM)(b c d:AA):Xs f s (b.A7 g) (c.A7 g) (d.A7 g)=Xs f s b c d:=by
 have h:=fv (g:=g) f s b [d];rw[Al,A8]at h;unfold Xs;rw[h,AGK,MR,Ld]
theorem ATj (f:AI)(s:AM)(b d:AA):Xt f s (b.A7 g) (d.A7 g)=Xt f s b d:=by
 have h:=fv (g:=g) f s b [d];rw[Al,A8]at h;unfold Xt;rw[h,Ld]
theorem ATk (f:AI)(s:AM)(b:AA)(l r:List AA):Dq f s (b.A7 g) (l.map (AA.A7 g)) (r.map (AA.A7 g))=Dq f s b l r:=by
 cases l with
 | nil =>
   show (Fw f s (b.A7 g) (r.map (AA.A7 g)),KS f s (b.A7 g))=_;rw[fv,wR];rfl
 | cons c l =>
   cases r with
   | nil =>
     have h:=fv (g:=g) f s b [];rw[A8]at h;simp only[Al,A8,Dq,h,wR,MR]
   | cons d r =>
     have h:=fv (g:=g) f s b [d];rw[Al,A8]at h;simp only[Al,Dq];rw[ATi,ATj,h,AGK]
theorem ATX (h0:g 0 []=[])(f:AI)(s:AM)(b:AA)(l r:List AA):Iz f s (b.A7 g) (l.map (AA.A7 g)) (r.map (AA.A7 g))=(Iz f s b l r).A7 g:=by
 have hk:Qi f s (b.A7 g) (l.map (AA.A7 g)) (r.map (AA.A7 g))=(Qi f s b l r).map (AA.A7 g):=by
  unfold Qi;rw[ATk];cases l<;>cases r<;>simp only[Al,A8,EX,Um,uT,K4]
 simp only[Iz,hk,AKn,Un h0]
theorem ADr : ∀(l:List AA) (m:Int),GO m (l.map (AA.A7 g))=GO m l
 | [],m=>rfl
 | b::l,m=>by simp only[Al,GO,K4,ADr l]
theorem ADf : ∀(l:List AA) (m:Int),Uq m (l.map (AA.A7 g))=Uq m l
 | [],m=>rfl
 | b::l,m=>by simp only[Al,Uq,ly,K4,ADf l]
theorem uu (b:AA)(l r:List AA):GY (b.A7 g) (l.map (AA.A7 g)) (r.map (AA.A7 g))=GY b l r:=by simp only[GY,ADr,K4]
theorem AO5 (h0:g 0 []=[])(f:AI)(s:AM)(b:AA)(l r:List AA):Iu f s (b.A7 g) (l.map (AA.A7 g)) (r.map (AA.A7 g))=(Iu f s b l r).A7 g:=by
 have hL:C4 f (b.A7 g) (l.map (AA.A7 g)) (r.map (AA.A7 g))=C4 f b l r:=by
  simp only[C4,Fu,Iv,Iw,Hx,uT,uu,K4];cases l<;>cases r<;>simp only[Al,A8,K4]
 have hk:TQ f s (b.A7 g) (l.map (AA.A7 g)) (r.map (AA.A7 g))=(TQ f s b l r).map (AA.A7 g):=by
  unfold TQ;rw[hL];simp only[Fu,Iv,Iw,Hx,uT,uu,O7,O9];cases l<;>cases r<;>simp only[Al,A8,EX,Um,K4,MR,Ld]
 simp only[Iu,hk,ADf,uu,Un h0];cases l<;>cases r<;>simp only[Al,A8,O9,O7,MR,Ld]
theorem AKv (h0:g 0 []=[])(f:AI)(t:ByteArray)(b:AA)(z:Int)(hb:b.CM (KH g)=true):okB (Ig f t (b.A7 g) z)=(okB (Ig f t b z)).map (AA.A7 g):=by
 have RZ:Ms f (b.A7 g) z=Ms f b z:=by simp only[Ms,MR,Ld]
 have hn:JD f (b.A7 g) z=JD f b z:=by unfold JD;rw[RZ,eu hb]
 unfold Ig;rw[eu hb,hn];have h1 : ∀i,(Hl f (Hc t i) (JD f b z) z).1.CM J3=true:=fun i=>qv _ _ _ _
 have h2 : ∀i,(Hl f (Hc t i) (JD f b z) z).1.A7 g=(Hl f (Hc t i) (JD f b z) z).1:=fun i=>jx h0 (h1 i)
 have hr:=AFj (l:=[(Hl f (Hc t 0) (JD f b z) z).1,b.at_ 0 0,(Hl f (Hc t 1) (JD f b z) z).1]) (sp:=[0,0,0]) h0 (by
  simp only[AA.Ca,Sb,hb,Sf (ZM h0) (h1 0),Sf (ZM h0) (h1 1),GR])
 simp only[Al,A8,Um,h2]at hr;split
 . simp[okB]
 . split
   . simp[okB]
   . exact hr
theorem AAU (AF:Nat):∀(l:List AA) (i:Nat) (w:Int),If AF i w (l.map (AA.A7 g))=If AF i w l
 | [],i,w=>rfl
 | b::l,i,w=>by simp only[Al,If,K4,AAU AF l]
theorem qh (AF:Nat)(l:List AA)(c:Nat):JB AF (l.map (AA.A7 g)) c=JB AF l c:=by simp only[JB,<-xn,AAU]
theorem zX (AF:Nat)(l:List AA)(c:Nat):Fj AF (l.map (AA.A7 g)) c=(Fj AF l c).map (AA.A7 g):=by simp only[Fj,<-xn,<-List.map_take]
theorem zT (q:Int)(l:List AA):JZ q (l.map (AA.A7 g))=JZ q l:=by simp only[JZ,xk,MR]
theorem AJJ (q:Int)(l:List AA):Kh q (l.map (AA.A7 g))=Kh q l:=by simp only[Kh,xk,Ld]
theorem AJP (q:Int)(AF:Nat)(l:List AA)(r:Nat):Vx q AF (l.map (AA.A7 g)) r=Vx q AF l r:=by simp only[Vx,zX,zT,AJJ]
theorem qi (q:Int)(AF:Nat)(l:List AA):∀c,Gp q AF (l.map (AA.A7 g)) c=Gp q AF l c
 | 0=>rfl
 | c+1=>by simp only[Gp,qi q AF l c,qh]
theorem qg (q:Int)(AF:Nat)(l:List AA):∀c,J1 q AF (l.map (AA.A7 g)) c=J1 q AF l c
 | 0=>rfl
 | c+1=>by simp only[J1,qg q AF l c,AJP]
theorem zY (q:Int)(AF:Nat)(l:List AA)(r:Nat):LN q AF (l.map (AA.A7 g)) r=LN q AF l r:=by simp only[LN,qg]
theorem zW (q:Int)(AF:Nat)(cells:List AA)(top:Int):∀(l:List AA) (i:Nat),JA q AF (cells.map (AA.A7 g)) top i (l.map (AA.A7 g))=(JA q AF cells top i l).map (AA.A7 g)
 | [],i=>rfl
 | b::l,i=>by simp only[Al,JA,zW q AF cells top l,Yf,Um,K4,qi,qh,Lz,qg,zX,zT]
theorem AJS (h0:g 0 []=[])(f:AI)(s:AM)(AF:Nat)(l:List AA)(h:AA.Ca (KH g) l=true):okB (ID f s AF (l.map (AA.A7 g)))=(okB (ID f s AF l)).map (AA.A7 g):=by
 unfold ID;rw[Cg,zY];split
 . simp[okB]
 . rw[<-ZU]
   . simp only[T4,Un h0,qi,qh,Cg,zY,zW]
   . simp only[T4,Sc,ZM h0,qf _ _ _ _ l _ h,GR]
theorem sE (h0:g 0 []=[])(l:List AA)(i:Nat):(l.map (AA.A7 g)).getD i AA.zero=(l.getD i AA.zero).A7 g:=by
 simp only[List.getD_eq_getElem?_getD,Co];cases l[i]? with
 | none=>exact(ADU h0).symm
 | some b=>rfl
theorem AUv (h0:g 0 []=[])(k:Int)(l:List AA):Jt k (l.map (AA.A7 g))=(Jt k l).map (AA.A7 g):=by
 unfold Jt;split
 . rfl
 . simp only[sE h0,Al,A8]
theorem AUx (h0:g 0 []=[])(k:Int)(l:List AA):Ju k (l.map (AA.A7 g))=(Ju k l).map (AA.A7 g):=by
 unfold Ju;split
 . rfl
 . simp only[sE h0,Cg,Al,A8]
theorem AKX (kids:List Nd)(b:AA):LR kids (b.A7 g)=(LR kids b).A7 g:=by
 unfold LR;split
 . simp
 . rfl
theorem AOK (h0:g 0 []=[]){x:Ae}{s:AM}{k:Int}{t:ByteArray}{c:Int}{kids:List Nd}{l:List AA}(hl:AA.Ca (KH g) l=true):Dz x s k t c kids (l.map (AA.A7 g))=(Dz x s k t c kids l).map (AA.A7 g):=by
 have hp:=ZM h0;have hg:=ke hp hl;have hb : ∀ {o:Option AA},(∀b,o=some b->b.CM J3=true)->o=o.map (AA.A7 g):=fun {o} h=>by
  cases o with
  | none=>rfl
  | some b=>simp only[H8,jx h0 (h b rfl)]
 unfold Dz;simp only[sE h0,AUv h0,AUx h0,AKX];split
 . exact hb fun b h=>qx h
 . split
   . exact hb fun b h=>cC h
   . split
     . rw[AK7 h0];exact ZU (ABF hp (hg 0) (hg 1))
     . split
       . rw[ASM h0];exact ZU (AFP hp (hg 1) (AAe _ (hg 0)))
       . split
         . rw[AIv h0 _ _ _ _ _ (Vz _ _ _)];exact ZU (zA hp (Sf hp (Vz _ _ _)) (hg 0))
         . split
           . exact AKv h0 _ _ _ _ (hg 0)
           . split
             . exact AJS h0 _ _ _ _ hl
             . split
               . rw[AO5 h0];exact ZU (ADh hp (hg 0) (ng hp hl k) (ni hp hl k))
               . rw[ATX h0];exact ZU (AF7 hp (hg 0) (ng hp hl k) (ni hp hl k))
end
def NK (A B:List Int)(o:Int)(s:List Int):List Int:=if o=0 then s else B++s.drop A.length
def NL (A B:List Int)(o:Int)(s:List Int):Bool:=KH (NK A B) o s && (decide (o=0) || decide (s.take A.length=A))
structure YX (A B:List Int):Prop where
 na:A≠[]
 nb:B≠[]
 pa:Dm A=true
 pb:Dm B=true
 ea:A.length % 2=0
 eb:B.length % 2=0
 la:A.length<=24
 lb:B.length<=24
def yt (A B:List Int)(a b:Option AA):Prop:=b=a.map (AA.A7 (NK A B))/\∀c,a=some c->c.CM (NL A B)=true
def yr (A B:List Int)(a b:Option (List AA)):Prop:=b=a.map (List.map (AA.A7 (NK A B)))/\∀c,a=some c->AA.Ca (NL A B) c=true
section
variable {A B:List Int}
theorem nj:NK A B 0 []=[]:=rfl
theorem wj:NL A B 0 []=true:=by
 unfold NL;rw[ZM nj];rfl
theorem AG5 {l:List AA}(h:AA.Ca (NL A B) l=true):AA.Ca (KH (NK A B)) l=true:=qT (fun o s e=>by
 unfold NL at e;simp only[An]at e;exact e.1) l h
theorem gE {o:Int}(ho:o≠0)(t:List Int):NK A B o (A++t)=B++t:=by
 unfold NK;rw[if_neg ho,List.drop_left]
theorem fV {a t:List Int}(h1:Dm a=true)(h2:Dm t=true):Dm (a++t)=true:=by
 unfold Dm at *
 rw[List.all_append,h1,h2];rfl
theorem AUa (h:YX A B){t:List Int}(h1:Dm t=true)(h2:t.length % 2=0)(h3:t.length<=24):NL A B 1 (A++t)=true:=by
 have:=h.ea;have:=h.eb;have:=h.la;have:=h.lb;unfold NL KH Xx;rw[gE (by decide),fV h.pa h1,fV h.pb h1,List.take_left];simp[Gg];omega
theorem AUZ (h:YX A B){t:List Int}(h1:Dm t=true)(h2:t.length % 2=1)(h3:t.length<=24):NL A B 2 (A++t)=true:=by
 have:=h.ea;have:=h.eb;have:=h.la;have:=h.lb;unfold NL KH Xx;rw[gE (by decide),fV h.pa h1,fV h.pb h1,List.take_left];simp[Gg];omega
theorem AEy {t:List Int}(h:Dm t=true)(i:Nat):Dm (t++[(i:Int)])=true:=fV h (by simp[Dm])
theorem zP {a t:List Int}(h:a≠[]):a++t≠[]:=by simp[h]
mutual
theorem AFh (x:Ae)(h:YX A B):∀(n:Nd) (s:AM) (t:List Int),Dm t=true->t.length % 2=0->t.length+n.BB<=24->yt A B (Db x s (A++t) n) (Db x s (B++t) n)
 | ⟨k,tx,c,kids⟩,s,t,h1,h2,h3=>by
   simp only[Nd.BB]at h3;have hs:=AUa h h1 h2 (by omega);unfold Db;by_cases hk:kids=[]
   . rw[if_pos hk,if_pos hk];refine⟨?_,fun c hc=>?_⟩
     . simp only[H8,Ae.empty,uf,Un nj,gE (A:=A) (B:=B) (by decide:(1:Int)≠0),if_neg (zP h.na),if_neg (zP h.nb),A8]
     . cases hc;exact YZ (by simp[wj,AA.Ca]) hs
   . rw[if_neg hk,if_neg hk];have ih:=ADA x h kids s t 0 h1 h2 (by omega);revert ih;generalize FF x s (A++t) 0 kids=a;generalize FF x s (B++t) 0 kids=b;rintro ⟨rfl,hS⟩;cases a with
     | none=>exact⟨rfl,fun c hc=>by cases hc⟩
     | some l =>
       have hl:=AG5 (hS l rfl);simp only[H8];rw[AFj nj hl];cases hr:okB (El l (x.DK s kids))with
       | none=>exact⟨rfl,fun c hc=>by cases hc⟩
       | some b =>
         refine⟨?_,fun c hc=>?_⟩
         . simp only[H8,uf,gE (A:=A) (B:=B) (by decide:(1:Int)≠0)]
         . cases hc;exact YZ (fh wj (hS l rfl) hr) hs
theorem ADA (x:Ae)(h:YX A B):∀(l:List Nd) (s:AM) (t:List Int) (i:Nat),Dm t=true->t.length % 2=0->t.length+Nd.deps l+1<=24->yr A B (FF x s (A++t) i l) (FF x s (B++t) i l)
 | [],s,t,i,h1,h2,h3=>⟨rfl,fun c hc=>by cases hc;rfl⟩
 | n::l,s,t,i,h1,h2,h3=>by
   simp only[Nd.deps]at h3;have i1:=AOR x h n s (t++[(i:Int)]) (AEy h1 i) (by simp;omega) (by simp;omega);have i2:=ADA x h l s t (i+1) h1 h2 (by omega);unfold FF;rw[<-EW,<-EW]at i1;revert i1 i2;generalize Ei x s (A++t++[(i:Int)]) n=a;generalize Ei x s (B++t++[(i:Int)]) n=b;generalize FF x s (A++t) (i+1) l=a';generalize FF x s (B++t) (i+1) l=b';rintro ⟨rfl,hS⟩ ⟨rfl,GL⟩;cases a with
   | none=>exact⟨rfl,fun c hc=>by cases hc⟩
   | some b =>
     cases a' with
     | none=>exact⟨rfl,fun c hc=>by cases hc⟩
     | some r=>exact⟨rfl,fun c hc=>by cases hc;simp only[AA.Ca,hS b rfl,GL r rfl,GR]⟩
theorem AOR (x:Ae)(h:YX A B):∀(n:Nd) (s:AM) (t:List Int),Dm t=true->t.length % 2=1->t.length+n.BB<=24->yt A B (Ei x s (A++t) n) (Ei x s (B++t) n)
 | ⟨k,tx,c,kids⟩,s,t,h1,h2,h3=>by
   simp only[Nd.BB]at h3;have hs:=AUZ h h1 h2 (by omega);have ih:=AGZ x h kids s t k 0 h1 h2 (by omega);unfold Ei;revert ih;generalize FJ x s (A++t) k 0 kids=a;generalize FJ x s (B++t) k 0 kids=b;rintro ⟨rfl,hS⟩;cases a with
   | none=>exact⟨rfl,fun c hc=>by cases hc⟩
   | some l =>
     have hl:=AG5 (hS l rfl);simp only[H8];rw[AOK nj hl];cases hr:Dz x s k tx c kids l with
     | none=>exact⟨rfl,fun c hc=>by cases hc⟩
     | some b =>
       refine⟨?_,fun c hc=>?_⟩
       . simp only[H8,uf,gE (A:=A) (B:=B) (by decide:(2:Int)≠0)]
       . cases hc;exact YZ (AC1 wj (hS l rfl) hr) hs
theorem AGZ (x:Ae)(h:YX A B):∀(l:List Nd) (s:AM) (t:List Int) (k:Int) (i:Nat),Dm t=true->t.length % 2=1->t.length+Nd.deps l+1<=24->yr A B (FJ x s (A++t) k i l) (FJ x s (B++t) k i l)
 | [],s,t,k,i,h1,h2,h3=>⟨rfl,fun c hc=>by cases hc;rfl⟩
 | n::l,s,t,k,i,h1,h2,h3=>by
   simp only[Nd.deps]at h3;have i1:=AFh x h n (DZ k i s) (t++[(i:Int)]) (AEy h1 i) (by simp;omega) (by simp;omega);have i2:=AGZ x h l s t k (i+1) h1 h2 (by omega);unfold FJ;rw[<-EW,<-EW]at i1;revert i1 i2;generalize Db x (DZ k i s) (A++t++[(i:Int)]) n=a;generalize Db x (DZ k i s) (B++t++[(i:Int)]) n=b;generalize FJ x s (A++t) k (i+1) l=a';generalize FJ x s (B++t) k (i+1) l=b';rintro ⟨rfl,hS⟩ ⟨rfl,GL⟩;cases a with
   | none=>exact⟨rfl,fun c hc=>by cases hc⟩
   | some b =>
     cases a' with
     | none=>exact⟨rfl,fun c hc=>by cases hc⟩
     | some r=>exact⟨rfl,fun c hc=>by cases hc;simp only[AA.Ca,hS b rfl,GL r rfl,GR]⟩
end
theorem AUz {b:AA}(h:b.CM (NL A B)=true):(b.A7 (NK A B)).A7 (LI B.length)=b.A7 (LI A.length):=by
 rw[ADO];refine ue b (Vt (fun o s e=>?_) b h);unfold NL at e;simp only[An,Bool.or_eq_true,decide_eq_true_eq]at e ⊢;unfold NK LI;by_cases ho:o=0
 . simp[ho]
 . have e2:s.take A.length=A:=e.2.resolve_left ho;have hl:A.length<=s.length:=by
    have:=congrArg List.length e2;rw[FW]at this;omega
   rw[if_neg ho,if_pos ⟨ho,by simp⟩,if_pos ⟨ho,hl⟩,List.drop_left]
end
theorem AUK (x:Ae)(s:AM)(n:Nd)(A:List Int)(hA:A≠[]) :
 (∃e:Int,(e=1\/e=2)/\LD x s A n=.Bk [BD AA.zero,Af e])\/
 (LD x s A n=.Bk [BD AA.zero,Af 6]/\LD x s [0,0] n=.Bk [BD AA.zero,Af 6])\/
 (∃b,Db x s A n=some b/\b.CM (NL A [0,0])=true/\A.length<=24/\LD x s A n=.Bk [BD b,Af 0]/\LD x s [0,0] n=.Bk [BD (b.A7 (NK A [0,0])),Af 0]):=by
 unfold LD T9;split
 . exact .inl ⟨1,.inl rfl,rfl⟩
 . rename_i hv;split
   . exact .inl ⟨2,.inr rfl,rfl⟩
   . rename_i hs;have hz:Ql [0,0] 0=true:=rfl;simp only[Bool.not_eq_false,An,Ql,decide_eq_true_eq]at hv hs;have hd:n.BB<=24:=by
      have:=hv.2;unfold Nd.Av at this;simp only[An,decide_eq_true_eq]at this;omega
     have hl:=AFh x (A:=A) (B:=[0,0]) ⟨hA,by simp,hs.1,rfl,hs.2.2,rfl,by omega,by simp⟩ n s [] rfl rfl (by simpa using hd);rw[D8,D8]at hl;obtain⟨h1,h2⟩:=hl;rw[hz,if_neg (by simp)];cases hb:Db x s A n with
     | none =>
       rw[hb]at h1;rw[h1];exact .inr (.inl ⟨rfl,rfl⟩)
     | some b =>
       rw[hb]at h1;rw[h1];exact .inr (.inr ⟨b,rfl,h2 b hb,by omega,rfl,rfl⟩)
theorem AUY {o:Int}{s:List Int}(h:Xx o s=true):s.length<=49:=by
 unfold Xx Gg at h;simp only[An]at h;have h2:=h.2;split at h2
 . simp only[decide_eq_true_eq]at h2;omega
 . split at h2
   . simp only[decide_eq_true_eq,An]at h2;omega
   . split at h2
     . simp only[decide_eq_true_eq,An]at h2;omega
     . cases h2
theorem AUJ (x:Ae)(n:Nd)(A:List Int)(s:AM)(hf:x.f.Fit)(hl:x.d.length<=maxLen)(Nl : ∀e∈x.d,e.text.size<=maxLen)(hn:n.Bc)(hA:A.length<=maxLen):AC AD 6 [.agg (Gf x),At n,.agg [.c (Ab A),.c (.int .i64 s.level),.c (.bool s.GJ)]] (.c (.bool true)):=by
 have h0:=jv;have h1:=kX x n 40 hf hl hn (by omega) (by omega);obtain⟨S,hS⟩:=AE ((A.map fun n=>[C.int .i64 n]));have Yt:S.length=A.length:=by rw[<-hS,Cg]
 have RO:Ab A=.sl S:=by rw[<-hS];rfl
 have hML:maxLen=maxLen:=rfl;cases hfw:RE x n 40 with
 | false =>
   rw[hfw]at h1;obtain⟨kd,t,c,kids⟩:=n;rw[RO];simp only[At,Nd.vs,Nd.row,Al,A8]at h1 ⊢;refine en Tv YK ?_;exact wz YU (cj h0<|cj h1<|trivial)
 | true =>
   rw[hfw]at h1;unfold RE at hfw;simp only[An,decide_eq_true_eq]at hfw;by_cases hs1:(60:Int)<(S.length:Int)
   . obtain⟨kd,t,c,kids⟩:=n;rw[RO];simp only[At,Nd.vs,Nd.row,Al,A8]at h1 ⊢;refine en Tv YK ?_;exact wz (cj @hs1<|YU) (cj h0<|cj h1<|trivial)
   . by_cases Oz:(S.length:Int)=0
     . obtain⟨kd,t,c,kids⟩:=n;rw[RO];simp only[At,Nd.vs,Nd.row,Al,A8]at h1 ⊢;refine en Tv YK ?_;exact wz (cj @hs1<|cj @Oz<|YU) (cj h0<|cj h1<|trivial)
     . have hAn:A≠[]:=by rintro rfl;apply Oz;rw[Yt];rfl
       have h2:=ez x n A s hf hfw.2.1 Nl hn (by omega) hA;have h3:=ez x n [0,0] s hf hfw.2.1 Nl hn (by omega) (by simp[maxLen]);have hz:Ab [0,0]=.sl [[.int .i64 0],[.int .i64 0]]:=rfl;rw[hz]at h3;rcases AUK x s n A hAn with ⟨e,he,hr⟩|⟨hr,hr'⟩|⟨b,hb,s9,AWw,hr,hr'⟩
       . rw[hr]at h2;obtain⟨b',e',hr'⟩:=AFi x s [0,0] n;rw[hr']at h3;have h4:=Xi AA.zero (by simp[AA.zero,AA.fit,AA.fits]);obtain⟨kd,t,c,kids⟩:=n;obtain⟨lv,cr⟩:=s;rw[RO]at h2 ⊢;simp only[At,Nd.vs,Ai,Nd.row,Al,A8,BD,Af,AA.zero,AA.rows,Ab,AA.row]at h1 h2 h3 h4 ⊢;obtain⟨zp,Il⟩:=AE (AA.rows b'.kids);obtain⟨b0,b1,b2,b3,b4,b5,b6,b7,bk,bo,bs⟩:=b';simp only[AA.row,Al,A8]at h3 Il;rw[Il]at h3;rcases he with rfl|rfl
         . refine en Tv YK ?_;exact wz (cj @hs1<|cj @Oz<|YU) (cj h0<|cj h1<|cj h2<|cj h3<|cj h4<|trivial)
         . refine en Tv YK ?_;exact wz (cj @hs1<|cj @Oz<|YU) (cj h0<|cj h1<|cj h2<|cj h3<|cj h4<|trivial)
       . rw[hr]at h2;rw[hr']at h3;have h4:=Xi AA.zero (by simp[AA.zero,AA.fit,AA.fits]);have h5:=ny AA.zero A.length (by simp[AA.zero,AA.cnt,AA.A9]) (by simp[AA.zero,AA.fit,AA.fits]) hA;have h6:=ny AA.zero 2 (by simp[AA.zero,AA.cnt,AA.A9]) (by simp[AA.zero,AA.fit,AA.fits]) (by simp[maxLen]);rw[ADU (by simp[LI])]at h5 h6;rw[<-Yt]at h5;obtain⟨kd,t,c,kids⟩:=n;obtain⟨lv,cr⟩:=s;rw[RO]at h2 ⊢;simp only[At,Nd.vs,Ai,Nd.row,Al,A8,BD,Af,AA.zero,AA.rows,Ab,AA.row]at h1 h2 h3 h4 h5 h6 ⊢;refine en Tv YK ?_;exact wz (cj @hs1<|cj @Oz<|YU) (cj h0<|cj h1<|cj h2<|cj h3<|cj h4<|cj h5<|cj h6<|trivial)
       . rw[hr]at h2;rw[hr']at h3;have Kn:=nI hb;have Su:b.CM (fun o s=>decide (s.length<=49))=true:=Vt (fun o u e=>by
          unfold NL KH at e;simp only[An]at e;exact decide_eq_true (AUY e.1.1)) b s9
         have WV:b.fit:=by
          have:=et (g:=fun _ s=>s) b Kn (Vt (fun o u e=>by simp only[decide_eq_true_eq]at e ⊢;omega) b Su);rwa [lx]at this
         have On:(b.A7 (NK A [0,0])).fit:=et b Kn (Vt (fun o u e=>by
          simp only[decide_eq_true_eq]at e ⊢;unfold NK;split
          . omega
          . simp;omega) b Su)
         have GM:(b.A7 (LI A.length)).fit:=et b Kn (Vt (fun o u e=>by
          simp only[decide_eq_true_eq]at e ⊢;unfold LI;split
          . simp;omega
          . omega) b Su)
         have h5:=ny b A.length Kn WV hA;have h6:=ny (b.A7 (NK A [0,0])) 2 (by rw[ud];exact Kn) On (by simp[maxLen]);have hsw:=AUz (A:=A) (B:=[0,0]) s9;rw[show ([0,0]:List Int).length=2 from rfl]at hsw;rw[hsw]at h6;have h4:=Xi _ GM;obtain⟨kd,t,c,kids⟩:=n;obtain⟨lv,cr⟩:=s;generalize b.A7 (LI A.length)=D at h4 h5 h6;generalize b.A7 (NK A [0,0])=B at h3 h6;clear hsw On GM hr hr' hb s9;rw[<-Yt]at h5;rw[RO]at h2 ⊢;simp only[At,Nd.vs,Ai,Nd.row,Al,A8,Ay,Af]at h1 h2 h3 h4 h5 h6 ⊢;refine en Tv YK ?_;exact wz (cj @hs1<|cj @Oz<|YU) (cj h0<|cj h1<|cj h2<|cj h3<|cj h4<|cj h5<|cj h6<|trivial)
end Go.Proofs.YtpodcjcajanldaaGreat
