/- Part of the proof of breakpointLength.proved. Conditions: none. (Joined and shortened by a program.) -/
import Derived.Test.YtpodcjcajanldaaGreatP38
set_option linter.unusedVariables false
set_option linter.unusedSimpArgs false
set_option maxRecDepth 100000
set_option maxHeartbeats 16000000
open List renaming mem_cons_self→Er,length_cons→BQ,nil_append→Bh,mem_cons_of_mem→Ff,foldl_cons→Bl,getD_eq_getElem?_getD→G5,getElem?_map→Co,foldl_nil→B7,set_cons_zero→BC,set_cons_succ→Az,replicate_succ→Ao,drop_succ_cons→Be,drop_zero→BO,replicate→As,length_nil→B6,getElem?_eq_getElem→BP
open Option renaming map_some→H8
open Go.Proofs.Tryz renaming results169→Mn
open Nat renaming zero_le→Cc,le_of_ble_eq_true→Fg,succ_mul→oZ,one_mul→aD
open Go.IntKind renaming i64→Ad
open Int renaming mul_le_mul_of_nonneg_left→X8
open Bool renaming eq_iff_iff→Ka
namespace Go.Proofs.YtpodcjcajanldaaGreat
open Go.RowKit
theorem vm {x:Ae}(hx:x.Ok){s:AM}(hs:s.ok=true):x.BZ s<=1073741824:=by
 obtain⟨p1,p2⟩:=GD hx.val hs;exact(DA x.f.params.BZ (by omega:0<=BK x.f.params s) p2).2
theorem AAK : ∀(rows:List (List C)) (Z:List C) (es:Nat),(∀r∈rows,r.length=es)->Gr es rows.length (rows.flatten++Z)=rows
 | [],_,_,_=>rfl
 | r::rows,Z,es,h=>by
   have h0:=h r Er;rw[BQ,List.flatten_cons,List.append_assoc];unfold Gr;rw[List.take_append_of_le_length (by omega),List.drop_append_of_le_length (by omega),List.take_of_length_le (by omega),List.drop_of_length_le (by omega),Bh,AAK rows Z es fun q hq=>h q (Ff _ hq)]
theorem AJH (l:List AA)(Z:List C):toCs (EY l Z)=some ((AA.rows l).flatten++Z):=toCs_mapC _
theorem AJG (k:Nat)(row:List C)(l:List AA)(Z:List C):V.BG k row (EY l Z)=EY l Z:=Yr k row _
theorem AJK {q:Int}(lV:0<=q)(No:q<=1073741824){l:List AA}(hl : ∀b∈l,b.Av=true):(-1073741824<=JZ q l/\JZ q l<=1073741824)/\ -1073741824<=Kh q l/\Kh q l<=1073741824:=by
 have key : ∀(g:AA->Int) (l:List AA) (a:Int),-1073741824<=a->a<=1073741824->(∀b∈l,-1073741824<=g b/\g b<=1073741824)-> -1073741824<=l.foldl (fun h b=>mx h (g b)) a/\l.foldl (fun h b=>mx h (g b)) a<=1073741824:=by
  intro g l;induction l with
  | nil=>intro a h0 h1 _;exact⟨h0,h1⟩
  | cons b l ih =>
    intro a h0 h1 hb;have hb0:=hb b Er;rw[Bl];refine ih _ ?_ ?_ fun c hc=>hb c (Ff _ hc)
    . unfold mx;split<;>omega
    . unfold mx;split<;>omega
 have s1:=DA q (by omega:(0:Int)<=70) (by omega);have s2:=DA q (by omega:(0:Int)<=30) (by omega);have hv : ∀b∈l,(-1073741824<=b.h/\b.h<=1073741824)/\ -1073741824<=b.d/\b.d<=1073741824:=fun b hb=>by
  obtain⟨_,h1,h2,_⟩:=DS (hl b hb);exact⟨h1,h2⟩
 exact⟨key AA.h l _ s1.1 s1.2 fun b hb=>(hv b hb).1,key AA.d l _ s2.1 s2.2 fun b hb=>(hv b hb).2⟩
structure Cells (x:Ae)(s:AM)(AF rows:Nat)(cells:List AA):Prop where
 ar:YW (x.BZ s) AF rows cells
 v : ∀b∈cells,b.Av=true
 c:AA.A9 cells<=900000
section
variable {x:Ae} {s:AM} {AF rows:Nat} {cells:List AA}
theorem Cells.line (hx:x.Ok)(hs:s.ok=true)(h:Cells x s AF rows cells)(r:Nat):(-1073741824<=JZ (x.BZ s) (Fj AF cells r)/\JZ (x.BZ s) (Fj AF cells r)<=1073741824)/\ -1073741824<=Kh (x.BZ s) (Fj AF cells r)/\Kh (x.BZ s) (Fj AF cells r)<=1073741824:=
 AJK (U8 hx hs) (vm hx hs) fun b hb=>h.v b (List.mem_of_mem_drop (List.mem_of_mem_take hb))
theorem Cells.J1 (hx:x.Ok)(hs:s.ok=true)(h:Cells x s AF rows cells):∀r:Nat,-2147483648*(r:Int)<=J1 (x.BZ s) AF cells r/\J1 (x.BZ s) AF cells r<=2147483648*(r:Int)
 | 0=>by simp[Go.Proofs.YtpodcjcajanldaaGreat.J1]
 | r+1=>by
   have h1:=h.J1 hx hs r;have h2:=h.line hx hs r;simp only[Go.Proofs.YtpodcjcajanldaaGreat.J1,Vx];push_cast
   omega
end
theorem AJI (q:Int)(AF:Nat)(cells:List AA)(c:Nat)(i:Nat):(DO (Fi q AF cells c) i).h=(DO cells i).h/\(DO (Fi q AF cells c) i).d=(DO cells i).d:=by
 unfold DO Fi;rw[G5,G5,Zq];cases cells[i]? with
 | none=>exact⟨rfl,rfl⟩
 | some b =>
   simp only[H8,Option.getD_some];split<;>exact⟨rfl,rfl⟩
theorem AR4 (b:AA)(y:Int):({ b with y:=y }:AA).row=b.row.set 7 (.int .i64 y):=by cases b;rfl
theorem AO1 {q:Int}{AF:Nat}{cells:List AA}{rows k:Nat}(h:k<rows):(Up q AF cells rows)[k]?=some [.int .i64 (JZ q (Fj AF cells k)),.int .i64 (Kh q (Fj AF cells k))]:=by
 unfold Up;rw[Co,List.getElem?_range h];rfl
theorem zU (q:Int)(AF:Nat)(cells:List AA)(top:Int):∀(l:List AA) (i:Nat),(∀b∈l,b.Av=true)->AA.Jb (JA q AF cells top i l)/\AA.GB (JA q AF cells top i l)/\AA.A9 (JA q AF cells top i l)=AA.A9 l
 | [],_,_=>⟨trivial,trivial,rfl⟩
 | b::l,i,h=>by
   obtain⟨h1,h2,h3⟩:=zU q AF cells top l (i+1) fun c hc=>h c (Ff _ hc)
   have hb:=h b Er;have hd:=Fz hb;have ho:=fN hb;simp only[JA];refine⟨⟨?_,h1⟩,⟨FA _ _ ho,h2⟩,?_⟩
   . unfold Yf;cases b;exact hd
   . simp only[AA.A9,h3];congr 1
     exact GW _ _ _
theorem ARL (x:Ae)(s:AM)(AF rows:Nat)(cells:List AA)(hx:x.Ok)(hs:s.ok=true)(h:Cells x s AF rows cells):AC Tryz.prog 169 [.agg x.f.vs,Ai s,.c (.int .i64 (AF:Int)),.c (.sl (AA.rows cells))] (Bd (ID x.f s AF cells)):=by
 obtain⟨hn,hc1,Dk,HW,KD,lV,No,eT⟩:=h.ar;have td:=h.line hx hs;have sw:=h.J1 hx hs;have Ir:=KL x.f s;rw[show Ha x.f s=(x.sz s,0)from if_neg (by simp[hs,hx.val])]at Ir;obtain⟨p1,p2⟩:=GD hx.val hs;have hsc:=Dn x.f.params.BZ (x.sz s);have hsx:=Dn x.f.params.EB (x.sz s);have tw:scale x.f.params.BZ (x.sz s)=x.BZ s:=rfl;have hxb:=DA x.f.params.EB (by omega:0<=BK x.f.params s) p2;have lM:=DA (x.BZ s) (by omega:(0:Int)<=20) (by omega);have AWz:=AAX cells;have ABj:=AO2 cells (Fi (x.BZ s) AF cells AF);have hN0:1<=cells.length:=by rw[hn];exact Nat.le_trans HW (Nat.le_mul_of_pos_right _ hc1)
 have hdiv:cells.length / AF=rows:=by rw[hn];exact Nat.mul_div_cancel _ hc1
 have BX:ID x.f s AF cells=if Aw (LN (x.BZ s) AF cells rows)=false then(AA.zero,6)else Cm (T4 (x.BZ s) (scale x.f.params.EB (x.sz s)) AF cells):=by
  unfold ID;rw[hdiv];rfl
 have hab:T4 (x.BZ s) (scale x.f.params.EB (x.sz s)) AF cells=CB (Gp (x.BZ s) AF cells (AF - 1)+JB AF cells (AF - 1)) (scale x.f.params.EB (x.sz s)+half (LN (x.BZ s) AF cells rows)) (LN (x.BZ s) AF cells rows - (scale x.f.params.EB (x.sz s)+half (LN (x.BZ s) AF cells rows))) (JA (x.BZ s) AF cells (scale x.f.params.EB (x.sz s)+half (LN (x.BZ s) AF cells rows)) 0 cells):=by
  unfold T4;rw[hdiv]
 rw[tw]at hsc;rw[BX,hab];obtain⟨q,hq⟩:=AE (x.BZ s);obtain⟨AX,hAX⟩:=AE (scale x.f.params.EB (x.sz s));have AXO : -1073741824<=AX/\AX<=1073741824:=by rw[<-hAX];exact hxb
 have DF:=h.ar;rw[hq]at hsc td sw lM ABj DF lV No ⊢;rw[hAX]at hsx ⊢;have hC2:=AAX cells;have hv : ∀k,k<cells.length->(DO cells k).Av=true:=fun k hk=>h.v _ (zj hk)
 have LZ:=zU q AF cells (AX+half (LN q AF cells rows)) cells 0 h.v;have hcc:=h.c;obtain⟨N,hN⟩:=AE cells.length;have CU : ∀c,(Fi q AF cells c).length=N:=fun c=>by unfold Fi;rw[VU,hN]
 obtain⟨rs,Ak⟩:=AE (AA.rows cells);have Am:rs.length=N:=by rw[<-Ak,LF,hN]
 have RZ : ∀r∈rs,r.length=11:=by rw[<-Ak];exact Td
 have hrg : ∀k,k<N->rs[k]?=some (DO cells k).row:=fun k hk=>by rw[<-Ak,fj,Co,qo (by omega)];rfl
 have hne:rs≠[]:=by intro e;rw[e]at Am;simp at Am;omega
 rw[hN]at hn KD hN0 hdiv hv;have hr2:rows<=256:=by have:rows*1<=rows*AF:=Nat.mul_le_mul_left _ hc1;omega
 have kk1 : ¬(AF:Int)<1:=by omega
 have kk2 : ¬16<(AF:Int):=by omega
 have kk3 : ¬(N:Int)<1:=by omega
 have kk4 : ¬256<(N:Int):=by omega
 have kk5 : ¬(AF:Int)=0:=by omega
 have kk6:(N:Int).tmod (AF:Int)=0:=by
  rw[hn];push_cast
  exact Int.mul_tmod_left _ _
 rw[Ak];unfold Ai at Ir ⊢;simp only[Af]at Ir;refine en Tryz.func169 Tryz.ntmps169 ?_;refine wy (cj @Am<|Mn) (cj Ir<|trivial) ⟨?_⟩;refine lp (ι:={ k:Nat // k<=N }) (fun k=>[(40,.c (.int .i64 (k.1:Int)))]) (fun _=>[O.box 27 x.f.vs false,O.box 35 [.c (.int .i64 s.level),.c (.bool s.GJ)] false,O.box 41 Bo false]) (fun k=>N - k.1) ⟨0,Cc _⟩ ?_ ?_;all_goals simp only[Br,Bl,B7,BC,Az]
 . refine Le.BV (by simp[A5,Bo])
 . rintro ⟨k,hk⟩;simp only;by_cases hlt:k<N
   . have Ot:k<rs.length:=by omega
     have hg:=hrg k hlt;have F6:=gx hg;have Cd:=D2 _ (fN (hv k hlt)) (by have:=cK (hv k hlt);omega);rw[hv k hlt]at Cd;have hw:Ad.wrap ((k:Int)+1)=((k+1:Nat):Int):=by rw[Aq];push_cast;rfl
     obtain⟨b,hb'⟩:=AE (DO cells k);rw[hb']at hg F6 Cd;simp only[Ay]at Cd;refine wy (cj @Am<|cj @hlt<|cj @Ot<|cj @hg<|cj @F6<|cj @hw<|Mn) (cj Cd<|trivial) ⟨?_⟩;refine⟨⟨k+1,by omega⟩,by first|omega|(simp only;omega),?_⟩;refine Le.H5 3 (Fg rfl) (by simp[A5,Bo]) (by simp[Bo]) (by simp[V.BT,V.BA]) (by simp[O.BA,V.BT,V.BA,Bo])
   . obtain rfl:k=N:=by omega
     clear hrg hv;refine wu (CJ.mk 14) (cj @Am<|cj @hlt<|cj @kk1<|cj @kk2<|cj @kk3<|cj @kk4<|cj @kk5<|cj @kk6<|Mn) (cj hsc<|cj (Dn q 20)<|trivial) ⟨?_⟩;refine AW.DM ?_;refine SW.take 1 ?_;with_reducible refine Bw (by simp[Ao];first|exact rfl|exact⟨rfl,rfl⟩) ?_
     refine B9 ?_;simp only[Be,BO];refine SW.Jm (fun v t=>∃m:Nat,v=.own 3 0 rs.length 11/\t=some (3,.box 41 ((rs.flatten++(As m AA.zero.row).flatten).map V.c) false)) rfl (fun S0 w0 y w a g ht hd=>?_) ?_
     . exact APf (t:=38) (Ah:=41) (Bu:=128) (zs:=Bo) g rfl (by simp) (by simp[Bo]) (by rfl) (by omega) RZ (EH ht (.const (.slice none 0 0))) (EH ht (.tmp 80)) hne (by omega) (by decide) 3 hd
     rintro v t ⟨mz,rfl,rfl⟩;obtain⟨Z,hZ⟩:=AE ((As mz AA.zero.row).flatten);have dS:(rs.flatten++Z).map V.c=EY cells Z:=by rw[<-Ak];rfl
     rw[hZ,dS,Am];simp only[St.step,St.put,CG,BQ,B6,Nat.reduceAdd,Nat.lt_irrefl,if_false,Az,BC,List.cons_append,Bh];refine SW.take 2 ?_;with_reducible refine Bw (by simp[Ao];first|exact rfl|exact⟨rfl,rfl⟩) ?_
     refine B9 ?_;simp only[Be,BO];refine SW.nil ?_;have hC3:=hC2 Z AF rows q DF;have hL3:=ABj Z AF rows q DF (by rw[CU,hN]) (fun i=>AJI q AF cells AF i);rw[hN]at hC3 hL3;refine wu (CJ.mk 15) Mn trivial ⟨?_⟩;refine AW.DM ?_;refine SW.take 3 ?_;with_reducible refine Bw (by simp[Ao];first|exact rfl|exact⟨rfl,rfl⟩) ?_
     refine B9 ?_;simp only[Be,BO];refine SW.AAA 3 hC3 Tryz.func244 (by kernel_rfl) (by kernel_rfl) (by simp[gate]) (by simp[DE];first|exact rfl|exact⟨rfl,rfl⟩) (by simp[V.Xf,V.fY,V.DI]) rfl (Ye 3 _ _) (Ye 3 _ _) (zS _ _) ?_;simp only[St.step,St.put,CG,BQ,B6,Nat.reduceAdd,Nat.reduceLT,if_true,Az,BC];refine SW.take 5 ?_;with_reducible refine Bw (by simp[Ao];first|exact rfl|exact⟨rfl,rfl⟩) ?_
     refine B9 ?_;simp only[Be,BO];refine SW.nil ?_;refine wu (CJ.mk 16) Mn trivial ⟨?_⟩;refine AW.DM ?_;refine SW.take 3 ?_;with_reducible refine Bw (by simp[Ao];first|exact rfl|exact⟨rfl,rfl⟩) ?_
     refine B9 ?_;simp only[Be,BO];refine SW.AAA 3 hL3 Tryz.func245 (by kernel_rfl) (by kernel_rfl) (by simp[gate]) (by simp[DE];first|exact rfl|exact⟨rfl,rfl⟩) (by simp[V.Xf,V.fY,V.DI]) rfl (Ye 3 _ _) (Ye 3 _ _) (zS _ _) ?_;simp only[St.step,St.put,CG,BQ,B6,Nat.reduceAdd,Nat.reduceLT,if_true,Az,BC];refine SW.take 1 ?_;with_reducible refine Bw (by simp[Ao];first|exact rfl|exact⟨rfl,rfl⟩) ?_
     refine B9 ?_;simp only[Be,BO];refine SW.nil ?_;have tc : ∀k,k<rows->(Up q AF cells rows)[k]?=some [.int .i64 (JZ q (Fj AF cells k)),.int .i64 (Kh q (Fj AF cells k))]:=fun k hk=>AO1 hk
     obtain⟨LC,hLC⟩:=AE (Up q AF cells rows);have Fm:LC.length=rows:=by rw[<-hLC];simp[Up]
     rw[hLC]at tc ⊢;obtain⟨G,hG⟩:=AE (scale q 20);rw[hG]at lM ⊢;have sU : ∀k:Nat,k<=256-> -274877906944<=(k:Int)*G/\(k:Int)*G<=274877906944:=fun k hk=>by
      have h1:(k:Int)*G<=(k:Int)*1073741824:=X8 lM.2 (by omega);have h2:(k:Int)*(-1073741824)<=(k:Int)*G:=X8 lM.1 (by omega);omega
     have hw1:Ad.wrap ((rows:Int) - 1)=(rows:Int) - 1:=Aq;have hw2:Ad.wrap (((rows:Int) - 1)*G)=((rows:Int) - 1)*G:=by
      have:=sU (rows - 1) (by omega);rw[show ((rows - 1:Nat):Int)=(rows:Int) - 1 by omega]at this;exact Aq
     refine wy (cj @Fm<|cj @hw1<|cj @hw2<|Mn) trivial ⟨?_⟩;obtain⟨W9,hW9⟩:=AE (Gp q AF cells (AF - 1)+JB AF cells (AF - 1));rw[hW9];clear BX hab;obtain⟨T,hT⟩:∃T:Nat->Int,T=fun r=>((rows:Int) - 1)*G+J1 q AF cells r:=⟨_,rfl⟩
     have hT0:((rows:Int) - 1)*G=T 0:=by rw[hT];simp[J1]
     have hTs : ∀r,T (r+1)=T r+(JZ q (Fj AF cells r)+Kh q (Fj AF cells r)):=fun r=>by rw[hT];simp only[J1,Vx];omega
     have hTb : ∀r:Nat,r<=256-> -1099511627776<=T r/\T r<=1099511627776:=fun r hr=>by
      have h1:=sw r;have h2:=sU (rows - 1) (by omega);rw[show ((rows - 1:Nat):Int)=(rows:Int) - 1 by omega]at h2;rw[hT];simp only;omega
     have hTr:LN q AF cells rows=T rows:=by rw[hT];unfold LN;rw[hG]
     rw[hTr];rw[hT0];refine lp (ι:={ r:Nat // r<=rows }) (fun r=>[(20,.c (.int .i64 (T r.1))),(100,.c (.int .i64 (r.1:Int)))]) (fun _=>[O.box 27 x.f.vs false,O.box 35 [.c (.int .i64 s.level),.c (.bool s.GJ)] false,O.box 41 Bo false,O.box 41 (EY (Fi q AF cells AF) Z) false,O.box 38 [.own 3 0 k 11] false]) (fun r=>rows - r.1) ⟨0,Cc _⟩ ?_ ?_;all_goals simp only[Br,Bl,B7,BC,Az]
     . refine Le.BV (by simp[A5,Bo])
     . rintro ⟨r,hr⟩;simp only;by_cases CW:r<rows
       . have hg:=tc r CW;have F6:=gx hg;have hrL:r<LC.length:=by omega
         have Iq:=td r;have Uh:=hTb r (by omega);have FE:=hTs r;obtain⟨hh,We⟩:=AE (JZ q (Fj AF cells r));obtain⟨dd,HN⟩:=AE (Kh q (Fj AF cells r));rw[We,HN]at hg F6 Iq FE;have hw3:Ad.wrap (hh+dd)=hh+dd:=Aq;have hw4:Ad.wrap (T r+(hh+dd))=T r+(hh+dd):=Aq;have uI:Ad.wrap ((r:Int)+1)=((r+1:Nat):Int):=by rw[Aq];push_cast;rfl
         obtain⟨tr,htr⟩:=AE (T r);rw[htr]at hw4 FE ⊢;refine wy (cj @Fm<|cj @CW<|cj @hrL<|cj @hg<|cj @F6<|cj @hw3<|cj @hw4<|cj @uI<|Mn) trivial ⟨?_⟩;refine⟨⟨r+1,by omega⟩,by first|omega|(simp only;omega),?_⟩;simp only[FE];refine Le.H5 5 (Fg rfl) (by simp[A5,Bo,Q9]) (by simp[Bo,Q9]) (by simp[V.BT,V.BA]) (by simp[O.BA,V.BT,V.BA,Bo,Q9])
       . obtain rfl:r=rows:=by omega
         have htb:=hTb r (by omega);have AL2 : ∀n:Nat,n<=r-> -1099511627776<=Lz q AF cells n/\Lz q AF cells n<=1099511627776:=fun n hn=>by
          have h1:=sw n;have h2:=sU n (by omega);unfold Lz;rw[hG];omega
         obtain⟨TT,Nj⟩:=AE (T r);rw[hTr,Nj]at LZ;rw[Nj]at htb ⊢;have Gy:=NB TT;cases hval:Aw TT with
         | false =>
           rw[hval]at Gy;rw[if_pos rfl];have hz:=Eo;unfold Bd;simp only[Ay,Af,hz];refine wy (cj @Fm<|cj @Bo.eq_1<|Mn) (cj Gy<|trivial) ⟨?_⟩;simp[Aj,AV,AZ,Aa,V.AP,V.AO,AU,Mn]
         | true =>
           rw[hval]at Gy;rw[if_neg (by simp)];have lN:=KM TT;have hhb:=JI TT;have hw6:Ad.wrap (AX+half TT)=AX+half TT:=Aq;obtain⟨TP,hTP⟩:=AE (AX+half TT);have AXK : -2147483648<=TP/\TP<=2147483648:=by omega
           rw[hTP]at hw6 LZ ⊢;refine wy (cj @Fm<|cj @hw6<|Mn) (cj Gy<|cj hsx<|cj lN<|trivial) ⟨?_⟩;simp only[hTP];have hy0:TP=TP - Lz q AF cells 0:=by simp[Lz,J1]
           have AMW:Fi q AF cells AF=OS q AF cells TP 0:=by
            unfold OS;rw[AHS];intro i _;simp
           rw[AMW];have e5:O.box 3 [.c (.int .i64 TP)] false=O.box 3 [.c (.int .i64 (TP - Lz q AF cells 0))] false:=by rw[<-hy0]
           rw[e5];clear e5 hy0;have AMX : ∀n,(OS q AF cells TP n).length=k:=fun n=>by unfold OS;rw[VU,CU]
           refine lp (ι:={ n:Nat // n<=r }) (fun n=>[(131,.c (.int .i64 (n.1:Int)))]) (fun n=>[O.box 27 x.f.vs false,O.box 35 [.c (.int .i64 s.level),.c (.bool s.GJ)] false,O.box 41 Bo false,O.box 41 (EY (OS q AF cells TP n.1) Z) false,O.box 38 [.own 3 0 k 11] false,O.box 3 [.c (.int .i64 (TP - Lz q AF cells n.1))] false]) (fun n=>r - n.1) ⟨0,Cc _⟩ ?_ ?_;all_goals simp only[Br,Bl,B7,BC,Az]
           . refine Le.BV (by simp[A5,Bo])
           . rintro ⟨n,hnr⟩;simp only;by_cases lS:n<r
             . have hg:=tc n lS;have F6:=gx hg;have hnL:n<LC.length:=by omega
               have Iq:=td n;have hyb:=AL2 n (by omega);have lk:Lz q AF cells (n+1)=Lz q AF cells n+(JZ q (Fj AF cells n)+Kh q (Fj AF cells n))+G:=by
                unfold Lz;simp only[J1,Vx,hG];push_cast
                rw[Int.add_mul];omega
               have hnc:n*AF+AF<=r*AF:=by rw[<-oZ];exact Nat.mul_le_mul_right _ lS
               obtain⟨I,hI⟩:=AE (n*AF);have hIE:(n+1)*AF=I+AF:=by rw[oZ,hI]
               rw[hI]at hnc;have ER:Ad.wrap ((n:Int)*(AF:Int))=(I:Int):=by
                have:(n:Int)*(AF:Int)=(I:Int):=by rw[<-hI];push_cast;rfl
                rw[this];exact Aq
               have Ew:Ad.wrap ((n:Int)+1)=(n:Int)+1:=Aq;have FR:Ad.wrap (((n:Int)+1)*(AF:Int))=(I:Int)+(AF:Int):=by
                have:((n:Int)+1)*(AF:Int)=(I:Int)+(AF:Int):=by have:=congrArg (fun n:Nat=>(n:Int)) hIE;push_cast at this;exact this
                rw[this];exact Aq
               have HN : ∀j,j<AF->(I+j) / AF=n:=fun j hj=>by rw[<-hI,Nat.mul_comm,Nat.mul_add_div hc1,Nat.div_eq_of_lt hj,Nat.add_zero]
               obtain⟨l,hl,hv⟩:=eh (p:=fun j=>j<k/\j / AF=n) I 1 AF fun j hj=>by rw[aD];exact⟨by omega,HN j hj⟩
               have ZE:=kU (fun y : { j:Nat // j<k/\j / AF=n }=>((y.val:Nat):Int)) l (I:Int) ((I:Int)+(AF:Int)) 1 (by omega) (by omega) (by omega) (by omega) (by omega) (fun j y hy=>by have:=hv j y hy;rw[this];push_cast;rfl) (fun y hy=>by
                obtain⟨j,hj⟩:=List.getElem?_of_mem hy;have h1:=hv j y hj;have h2:=(List.getElem?_eq_some_iff.1 hj).1;omega) (by rw[hl];omega)
               have sY:OS q AF cells TP n=Gj (fun j=>decide (j / AF<n) || ([]:List { j:Nat // j<k/\j / AF=n }).any fun z=>decide (j=z.val)) (T5 q AF cells TP) (Fi q AF cells AF):=by
                unfold OS;simp
               have tC:Gj (fun j=>decide (j / AF<n) || l.any fun z=>decide (j=z.val)) (T5 q AF cells TP) (Fi q AF cells AF)=OS q AF cells TP (n+1):=by
                unfold OS;refine AHR fun i hi=>?_
                rw[CU]at hi;have key:(l.any fun z=>decide (i=z.val))=decide (i / AF=n):=by
                 rw[Ka,List.any_eq_true,decide_eq_true_eq];constructor
                 . rintro ⟨z,_,hz⟩;rw[decide_eq_true_eq]at hz;rw[hz];exact z.2.2
                 . intro hm;have hk2:i % AF<l.length:=by rw[hl];exact Nat.mod_lt _ hc1
                   refine⟨l[i % AF],List.getElem_mem hk2,?_⟩;rw[decide_eq_true_eq,hv _ _ (BP hk2),aD,<-hI,<-hm];exact(Nat.div_add_mod' i AF).symm
                rw[key,Ka];simp only[Bool.or_eq_true,decide_eq_true_eq];omega
               obtain⟨hh,We⟩:=AE (JZ q (Fj AF cells n));obtain⟨dd,AMc⟩:=AE (Kh q (Fj AF cells n));rw[We,AMc]at hg F6 Iq lk;obtain⟨Y,hY⟩:=AE (TP - Lz q AF cells n);have hYs:TP - Lz q AF cells (n+1)=Y - (hh+dd+G):=by rw[lk];omega
               have hYb : -1200000000000<=Y/\Y<=1200000000000:=by omega
               have hw3:Ad.wrap (hh+dd)=hh+dd:=Aq;have hw4:Ad.wrap (hh+dd+G)=hh+dd+G:=Aq;have uI:Ad.wrap (Y - (hh+dd+G))=Y - (hh+dd+G):=Aq;have hw7:Ad.wrap (Y - hh)=Y - hh:=Aq;obtain⟨A0,FD⟩:=AE (EY (OS q AF cells TP n) Z);rw[hY,FD];refine go (cj @Fm<|cj @lS<|cj @hnL<|cj @hg<|cj @F6<|cj @ER<|cj @Ew<|@FR) ?_;refine BY (cV (I:Int) ((I:Int)+(AF:Int)) 1) Tryz.func246 ?_;refine Ac ?_;refine AW.range (α:={ j:Nat // j<k/\j / AF=n }) rfl rfl rfl (caps:=[.cp [.int .i64 (I:Int)] 0,.cp [.int .i64 ((I:Int)+(AF:Int))] 0,.cp [.int .i64 1] 0]) rfl rfl Tryz.func303 (by kernel_rfl) (by kernel_rfl) (fun y=>.int .i64 ((y.val:Nat):Int)) (fun y=>.c (.int .i64 ((y.val:Nat):Int))) ?_ (fun xs=>xs=l) l.length ZE
                (fun pre=>[O.box 27 x.f.vs false,O.box 35 [.c (.int .i64 s.level),.c (.bool s.GJ)] false,O.box 41 Bo false,O.box 41 (EY (Gj (fun j=>decide (j / AF<n) || pre.any fun z=>decide (j=z.val)) (T5 q AF cells TP) (Fi q AF cells AF)) Z) false,O.box 38 [.own 3 0 k 11] false,O.box 3 [.c (.int .i64 Y)] false,O.box 249 [.c (.int .i64 hh),.c (.int .i64 dd)] false]) ?_ 7 (fun _=>rfl) (by simp) ?_ ?_
               . intro x' W y;simp only[CV,Ap];exact⟨trivial,Qs (by have:=y.2.1;unfold maxLen;omega)⟩
               . rw[<-FD,sY]
               . rintro lp pre y eG;have Ku:=y.2.1;have Uj:y.val<(Fi q AF cells AF).length:=by rw[CU];exact Ku
                 have hput:=AHT (fun y : { j:Nat // j<k/\j / AF=n }=>y.val) (fun j=>decide (j / AF<n)) (T5 q AF cells TP) (Fi q AF cells AF) pre y Uj;obtain⟨Q,hQ⟩:=AE (Gj (fun j=>decide (j / AF<n) || pre.any fun z=>decide (j=z.val)) (T5 q AF cells TP) (Fi q AF cells AF));have sb:Q.length=k:=by rw[<-hQ,VU,CU]
                 have sa : ∃B,Q[y.val]?=some B/\T5 q AF cells TP y.val (Fi q AF cells AF)[y.val]={ B with y:=Y - hh }:=by
                  rw[<-hQ,Zq,BP Uj,H8];refine⟨_,rfl,?_⟩;unfold T5;rw[y.2.2,We,hY];split<;>rfl
                 obtain⟨B,Ni,ki⟩:=sa;rw[hQ]at hput ⊢;rw[<-hput];clear hput;rw[ki];have MJ:=zR (Z:=Z) (v:=.int .i64 (Y - hh)) Ni (by omega:7<11) (AR4 B _);obtain⟨Q',dH⟩:∃Q',EY (Q.set y.val { B with y:=Y - hh }) Z=Q':=⟨_,rfl⟩
                 rw[dH]at MJ ⊢;have sZ : ∀n,V.BT n Q'=true:=fun n=>by rw[<-dH];exact Q9 n _ _
                 obtain⟨A',BR⟩:∃A',EY Q Z=A':=⟨_,rfl⟩
                 have ALT:k*11<=A'.length:=by rw[<-BR,jr,sb];omega
                 rw[BR]at MJ ⊢;have ACE:y.val*11+7+1<=A'.length:=by omega
                 obtain⟨yv,ML⟩:=AE y.val;rw[ML]at Ku ACE MJ ⊢;refine go (cj @Ku<|cj @ACE<|cj @MJ<|@hw7) ?_;refine⟨rfl,_,Le.Y4 7 (Fg rfl) ?_ ?_⟩
                 . simp
                 . simp[O.BA,V.BT,V.BA,sZ,Bo]
               . rintro xs MK;rw[MK,tC];clear MK xs;have hw8:Ad.wrap ((n:Int)+1)=((n+1:Nat):Int):=by rw[Aq];push_cast;rfl
                 refine go (cj @hw3<|cj @hw4<|cj @uI<|@hw8) ?_;refine⟨⟨n+1,by omega⟩,by first|omega|(simp only;omega),?_⟩;simp only[hYs];refine Le.H5 6 (Fg rfl) (by simp[A5,Bo,Q9]) (by simp[Bo,Q9]) (by simp[V.BT,V.BA]) (by simp[O.BA,V.BT,V.BA,Bo,Q9])
             . obtain rfl:n=r:=by omega
               have WU:=AJM q hc1 cells (by rw[hN,hn]) TP;rw[WU];obtain⟨K,hK⟩:=AE (JA q AF cells TP 0 cells);rw[hK]at LZ ⊢;have hKl:K.length=k:=by rw[<-hK,<-WU,AMX]
               have hch:Gr 11 k ((AA.rows K).flatten++Z)=AA.rows K:=by
                have:=AAK (AA.rows K) Z 11 Td;rwa [LF,hKl]at this
               obtain⟨AMt,AMu,AW9⟩:=LZ;have BL:=MX W9 TP (TT - TP) K AMt (by omega);have hw9:Ad.wrap (TT - TP)=TT - TP:=Aq;have DW:(CB W9 TP (TT - TP) K).Bc:=⟨by decide,by show (0:Nat)<=maxLen;omega,AMu⟩
               have Kn:(CB W9 TP (TT - TP) K).cnt<=1000000:=by show 1+AA.A9 K<=1000000;omega
               have Rg:=D2 _ DW Kn;obtain⟨B,hB⟩:=AE (CB W9 TP (TT - TP) K);rw[hB]at BL Rg ⊢;simp only[Ay]at BL Rg;refine wu (CJ.mk 35) (cj @Fm<|cj @lS<|Mn) trivial ⟨?_⟩;refine AW.AR 3 rfl (AJH K Z) (by simp only[V.BG,V.AR,BO,hch,if_true];exact rfl) (by simp only[Az,BC,List.map_cons,List.map_nil,O.AR,AJG,V.BG,V.AR,BO,hch,if_true,Bo];exact rfl) ?_;have hz:=Eo;unfold Cm Bd;cases Cd:B.Av with
               | true =>
                 rw[Cd]at Rg;rw[if_pos rfl];simp only[Ay,Af];refine wy (cj @Fm<|cj @hw9<|Mn) (cj BL<|cj Rg<|trivial) ⟨?_⟩;simp[Aj,AV,AZ,Aa,V.AP,V.AO,AU,Mn]
               | false =>
                 rw[Cd]at Rg;rw[if_neg (by simp)];simp only[Ay,Af,hz];refine wy (cj @Fm<|cj @hw9<|Mn) (cj BL<|cj Rg<|trivial) ⟨?_⟩;simp[Aj,AV,AZ,Aa,V.AP,V.AO,AU,Mn]
end Go.Proofs.YtpodcjcajanldaaGreat
