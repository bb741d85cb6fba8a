/- Part of the proof of breakpointLength.proved. Conditions: none. (Joined and shortened by a program.) -/
import Derived.Test.YtpodcjcajanldaaGreatP33
set_option linter.unusedVariables false
set_option linter.unusedSimpArgs false
set_option maxRecDepth 100000
set_option maxHeartbeats 16000000
open Go.Region renaming wanted→DV
open Classical renaming byContradiction→Kb
open Go.Proofs.Tryz renaming prog→AD,results160→af,func156→ou,ntmps156→pK,results156→Pg
open Array renaming length_toList→Ep,toList_inj→Gk,getElem?_eq_some_iff→Dy
open List renaming length_map→Cg,all_eq_true→Ee,mem_cons_of_mem→Ff,mem_cons_self→Er,replicate→As,length_replicate→NQ,set_cons_zero→BC,set_cons_succ→Az,drop_succ_cons→Be,drop_zero→BO,map_replicate→xo,take_succ_cons→E9,take_zero→Ke,getD→gu,map_cons→Al,map_nil→A8
open Option renaming getD_some→EM,isSome_some→Hg,getD_none→Gl,isSome_none→H7
open Bool renaming false_eq_true→Fe
open Go.Fence renaming wide→EF
open Nat renaming le_refl→BW,le_of_not_lt→NT
open Option.some renaming injEq→BE
open Go.Op renaming operands→CN
open Go.Call renaming operands→D7
namespace Go.Proofs.YtpodcjcajanldaaGreat
open Go.RowKit
theorem SW.vM {P:Program}{K:Exit->St->Prop}{ops:List Oper}{s:St}{o:Oper}{r:List Oper}(v:V)(hg:gate ops s.t o.guard=some true)(hR : ∀(S0:Ba) (w0:Bs) (x:Cx) (a:Act) (w:World),Good S0 w0 x w (fun k=>s.h[k]?)->AL x w s.t a.tmps.toList->qP P o a S0 w0 x w (fun k=>s.h[k]?) v none)(h:SW P ops K r (s.step o.dst v none)):SW P ops K (o::r) s:=fun S0 w0 x a w hA=>by
 have hw:DV o (yielded ops.toArray a.tmps)=true:=by
  have:=J2 (o:=o) hA.tm (Hj (ops:=ops) (K1:=True) (K2:=False) hg trivial);exact Kb fun h=>this.2 h
 unfold wpList;rw[if_pos hw];refine .inl ?_;obtain⟨nx,w',x',u,hr,D5,hcv,g',he⟩:=hR x.S (w0.re w hA.good.keep.size) x a w hA.good.VA hA.tm;obtain⟨g',hnc⟩:=hA.good.Qp he g';unfold Oper.wp;rw[hr];rcases D5 with rfl|⟨rfl,rfl⟩
 . exact h S0 w0 x' _ w' (CT.put hA.tm (hA.df.mono hnc) he g' hcv o.dst)
 . exact h S0 w0 x' _ w' (CT.put hA.tm (hA.df.mono hnc) he g' hcv o.dst)
theorem AGC (x:Ae)(m:Nat)(c:UInt8)(s:AM)(hx:x.Ok)(hs:s.ok=true):AQ AD 157 [Bf x m,.c (.str ⟨#[c]⟩),Ai s] m (BI x.f) (BI x.f) (.ret (BD (x.OX s c))):=by
 by_cases hc:c=32
 . subst hc;have hsc:=nW x m x.f.params.BZ s hs;have hS:=Dn (scale x.f.params.BZ (x.sz s)) 25;have hl:=MX (scale (scale x.f.params.BZ (x.sz s)) 25) 0 0 [] trivial (by simp[AA.A9]);have e:x.OX s 32=CB (scale (scale x.f.params.BZ (x.sz s)) 25) 0 0 []:=rfl;rw[e];obtain⟨B,hB⟩:=AE (CB (scale (scale x.f.params.BZ (x.sz s)) 25) 0 0 []);rw[hB]at hl ⊢;simp only[Ay,AA.rows]at hl ⊢;unfold Bf Ai at *
   refine CP Tryz.func157 Tryz.ntmps157 ?_;exact qz Tryz.results157 (cj hsc<|cj hS<|cj hl<|trivial)
 . have e:x.OX s c=x.gl s ⟨#[c]⟩:=if_neg hc;have hg:=AGH x m ⟨#[c]⟩ s hx hs;rw[e];obtain⟨B,hB⟩:=AE (x.gl s ⟨#[c]⟩);rw[hB]at hg ⊢;simp only[Ay]at hg ⊢;have hne : ¬(⟨#[c]⟩:ByteArray)=⟨#[32]⟩:=by
    intro h;injection h with h
    simp only[Array.mk.injEq,List.cons.injEq,and_true]at h;exact hc h
   unfold Bf Ai at *
   refine CP Tryz.func157 Tryz.ntmps157 ?_;exact qz (cj @hne<|Tryz.results157) (cj hg<|trivial)
theorem AAt (t:ByteArray)(k:Nat)(h:k<t.size):t.extract k (k+1)=⟨#[t.data.toList[k]'(by rw[Ep];exact h)]⟩:=by
 have hl:k<t.data.toList.length:=by rw[Ep];exact h
 have e:(t.extract k (k+1)).data.toList=[t.data.toList[k]]:=by
  rw[ByteArray.data_extract,Array.toList_extract];simp only[List.extract_eq_take_drop];rw[List.drop_eq_getElem_cons hl];simp
 apply ByteArray.ext;apply Gk.1;rw[e]
theorem AAL (x:Ae)(s:AM)(t:ByteArray):(x.Sh s t).length=t.size:=by
 unfold Ae.Sh;rw[Cg,Ep];rfl
theorem AAM {x:Ae}(hx:x.Ok){s:AM}(hs:s.ok=true){t:ByteArray}(ht:t.data.toList.all DH=true):∀b∈x.Sh s t,Vp b/\b.cnt=1:=by
 intro b hb;obtain⟨c,hc,rfl⟩:=List.mem_map.1 hb;exact AKB hx hs (Ee.1 ht c hc)
theorem AER : ∀ {l:List AA},(∀b∈l,Vp b)->AA.GB l/\l.all AA.Av=true
 | [],_=>⟨trivial,rfl⟩
 | b::l,h=>by
   obtain⟨h1,h2⟩:=AER fun c hc=>h c (Ff _ hc)
   have hb:=h b Er;exact⟨⟨hb.o,h1⟩,by simp[hb.v,h2]⟩
theorem rO {n:Nat} : ∀ {l:List AA},(∀b∈l,b.cnt<=n)->AA.A9 l<=l.length*n
 | [],_=>by simp[AA.A9]
 | b::l,h=>by
   have h1:=rO fun c hc=>h c (Ff _ hc)
   have hb:=h b Er;simp only[AA.A9,List.length_cons,Nat.add_mul];omega
theorem nM {kids:List AA}{sp:List Int}(hk:kids.all AA.Av=true)(hl:sp.length=kids.length)(hs:sp.all Aw=true):El kids sp=((okB (El kids sp)).getD AA.zero,if (okB (El kids sp)).isSome=true then 0 else 6):=by
 unfold El;rw[if_neg (by rw[hk];simp),if_neg (by rw[hs];simp[hl])];unfold Rl;split
 . simp[okB]
 . simp[okB]
theorem AGD (x:Ae)(m:Nat)(t:ByteArray)(s:AM)(hx:x.Ok)(hs:s.ok=true)(ht:t.data.toList.all DH=true)(hn:t.size<=1000):AQ AD 160 [Bf x m,.c (.str t),Ai s] m (BI x.f) (BI x.f) (BS (x.NM s t)):=by
 have Au:=AAM hx hs ht;obtain⟨o1,o2⟩:=AER fun b hb=>(Au b hb).1
 have hlen:=AAL x s t;have Im:AA.A9 (x.Sh s t)<=900000:=by
  have:=rO (n:=1) fun b hb=>Nat.le_of_eq (Au b hb).2
  omega
 have BU:=mf (x.Sh s t) (As t.size 0) o1 Im (by omega) (by rw[NQ];omega);have RZ:=nM (sp:=As t.size 0) o2 (by rw[NQ,hlen]) (by rw[Ee];intro i hi;rw[List.eq_of_mem_replicate hi];decide);have Lb:x.NM s t=okB (El (x.Sh s t) (As t.size 0)):=rfl;rw[<-Lb]at RZ;rw[RZ]at BU;obtain⟨L,hL⟩:=AE (x.Sh s t);have JL : ∀k (h:k<t.size) (h':k<L.length),L[k]=x.OX s (t.data.toList[k]'(by rw[Ep];exact h)):=by intro k h h';subst hL;simp[Ae.Sh]
 rw[hL]at hlen BU;unfold Bf Ai;refine CP Tryz.func160 Tryz.ntmps160 ?_;refine qy (cj @hlen<|af) trivial ⟨?_⟩;have e0:=cD L hlen.symm;simp only[Bo]at e0;rw[e0];refine lp (ι:={ k:Nat // k<=t.size }) (fun k=>[(14,.c (.int .i64 (k.1:Int)))]) (fun k=>[O.mp (Cf m (BI x.f)),O.box 35 [.c (.int .i64 s.level),.c (.bool s.GJ)] false,O.box 41 Bo false,O.box 41 (Gq L k.1) false]) (fun k=>t.size - k.1) ⟨0,Nat.zero_le _⟩ ?_ ?_;all_goals simp only[Br,List.foldl_cons,List.foldl_nil,BC,Az]
 . refine Le.BV (by simp[A5,Bo])
 . rintro ⟨k,hk⟩;simp only at hk ⊢;by_cases hlt:k<t.size
   . have hw:IntKind.i64.wrap ((k:Int)+1)=((k+1:Nat):Int):=by rw[Aq];simp
     have My:k<L.length:=by omega
     have hc:=AGC x m (t.data.toList[k]'(by rw[Ep];exact hlt)) s hx hs;have hex:t.extract k (k+1)=⟨#[t.data.toList[k]'(by rw[Ep];exact hlt)]⟩:=AAt t k hlt;have hput:=cF L k My;have hfit:k*11+11<=(Gq L k).length:=by rw[cE _ _ (by omega)];omega
     rw[JL k hlt My]at hput;obtain⟨c,hcc⟩:∃c,t.data.toList[k]'(by rw[Ep];exact hlt)=c:=⟨_,rfl⟩
     rw[hcc]at hc hex hput;obtain⟨B,hB⟩:=AE (x.OX s c);rw[hB]at hc hput;unfold Bf Ai at hc;simp only[Ay]at hc;have AM1:k<=k+1:=Nat.le_succ k;have hle2:k+1<=t.size:=hlt;refine qy (cj @hlt<|cj @hw<|cj @hex<|cj @hfit<|cj @hput<|cj @AM1<|cj @hle2<|af) (cj hc<|trivial) ⟨?_⟩;refine⟨⟨k+1,by omega⟩,by simp only;omega,?_⟩;refine Le.BV (by simp[A5,Bo])
   . obtain rfl:k=t.size:=by omega
     refine qu (CJ.mk 7) af trivial ⟨?_⟩;rw[<-hlen]at BU ⊢;refine AW.AR 3 rfl (zn L) (by simp[V.BG,V.AR,jy];exact rfl) (by simp[O.AR,V.BG,V.AR,jy,zo,Bo];exact rfl) ?_;refine AW.DM ?_;refine SW.take 3 ?_;with_reducible refine Bw (by simp[List.replicate_succ];first|exact rfl|exact⟨rfl,rfl⟩) ?_
     refine B9 ?_;simp only[Be,BO];refine SW.vM (.full (As L.length [.int .i64 0])) rfl ?_ ?_
     . intro S0 w0 y w a g ht;have h1:=EH ht (.tmp 31);have ZF:Dd AD 39=some (3,1,8):=by simp
       have htz:DR AD 3=some [.c (.int .i64 0)]:=by simp
       exact AEK g rfl ZF h1 h1 htz rfl (by omega) (by omega) (by omega)
     simp only[St.step,St.put,Zo,Az,BC];cases hq:x.NM s t with
     | some b =>
       have CF:=Ix b;rw[hq]at BU;simp only[EM,Hg,if_true,Bd,Af,Ay,Ab,xo]at BU CF;simp only[BS,Ay];refine SW.take 5 (AH.out ?_);simp only[E9,Ke];have ff:=(af)
       repeat any_goals (first|refine CC ?_|exact Bq ff|refine Bt ff ?_|refine A4 ff (BU) ?_|refine A4 ff (CF) ?_|refine Bi ff ?_)
       simp only[Be,BO];refine SW.nil ?_;exact qz (cj @BS.eq_1<|cj @BS.eq_2<|af) trivial
     | none =>
       have CF:=KI AA.zero m (BI x.f);rw[hq]at BU;simp only[Gl,H7,Fe,if_false,Bd,Af,Ay,Ab,xo]at BU CF;simp only[BS,Ay];refine SW.take 3 (AH.out ?_);simp only[E9,Ke];have ff:=(af)
       repeat any_goals (first|refine CC ?_|exact Bq ff|refine Bt ff ?_|refine A4 ff (BU) ?_|refine Bi ff ?_)
       simp only[Be,BO];refine SW.z9 0 CF (by kernel_rfl) (by simp[gate]) (by simp[DE];first|exact rfl|exact⟨rfl,rfl⟩) (by simp[V.AO,V.AP]) rfl ⟨rfl,rfl⟩
def Q7 (P:Program)(f:FuncId)(args:List V)(m:Nat)(R R':Obj->Prop)(ty:TypeId)(row:List C)(len es:Nat):Prop:=
 ∀(S:Ba) (w:World) (us:List Value) (ob:Obj),(∀b j,S b j->b<w.heap.size)->w.heap[m]?=some ob->still ob=false->R ob->AL (Cx.bare S) w args us->
  Calls P f us.toArray w fun r w'=>∃(S':Ba) (Cy:Obj) (b cap:Nat) (vs:Array Value),KB (fun k=>k=m) w w'/\Ar S S' w w'/\(∀b j,S' b j->S b j\/(w.heap.size<=b/\b<w'.heap.size)\/b=m)/\w'.heap[m]?=some Cy/\still Cy=false/\R' Cy/\
   r=.returned (.slice (some ⟨b,0,none⟩) len cap)/\len<=cap/\cap<=maxLen/\cap*es<=vs.size/\w'.heap[b]?=some (.cells vs ty (0,0))/\Bj S' w' row vs.toList/\w.heap.size<=b/\∀j,j<vs.size->¬S' b j
def y9 (P:Program)(l:List ResultVar)(m:Nat)(R':Obj->Prop)(ty:TypeId)(row:List C)(len es:Nat):Exit->St->Prop
 | .normal,s=>∃k,k≠0/\OT P s l=some (.own k 0 len es)/\s.h[0]?=some (.mp (Cf m R'))/\s.h[k]?=some (.box ty (row.map V.c) false)
 | .ret,s=>∃k,k≠0/\OT P s l=some (.own k 0 len es)/\s.h[0]?=some (.mp (Cf m R'))/\s.h[k]?=some (.box ty (row.map V.c) false)
 | _,_=>False
theorem Q7.intro {P:Program}{f:FuncId}{fn:Func}{c:Code}{args:List V}{m:Nat}{R R':Obj->Prop}{ty:TypeId}{row:List C}{len es:Nat}(hf:P.funcs[f]?=some fn)(hb:fn.body=some c)(h:AW ⟨none,1⟩ P c (y9 P fn.results.toList m R' ty row len es) ⟨args++As (fn.ntmps - args.length) .any,[.mp (Cf m R)]⟩):Q7 P f args m R R' ty row len es:=by
 intro S w us ob hS hblk hst hR C9;refine callsIn_wide.1 (callsIn_of_wp_marks (F:=EF) (n:=0) hf hb trivial ?_);let B:Bs:=⟨w,fun k=>k<w.heap.size/\k≠m,fun _ h=>h.1,Cx.ZQ S m,1,fun k hk=>by have:k=0:=hk;omega⟩
 have tJ:Ext (Cx.bare S) (Cx.ZQ S m) w w:=⟨Ar.refl _ _,fun _ h=>h.elim,fun _ h=>h.elim⟩
 have hA:CT S B (Cx.ZQ S m) ⟨args++As (fn.ntmps - args.length) .any,[.mp (Cf m R)]⟩ { tmps:=us.toArray++Array.replicate (fn.ntmps - us.toArray.size) undef,defers:=[] } w:=by
  refine⟨⟨fun k o h=>?_,fun k h=>?_,fun k k' o o' h h' hne=>?_,fun k o j h hx=>?_,hS,fun k o h _ hF=>hF.2 rfl,fun b j h=>.inl h,fun b j h=>h,.GA (AS.refl w),Ext.refl _ _⟩,?_,Marks.nil _ _⟩
  . match k,h with
    | 0,h=>cases h;exact⟨rfl,rfl,rfl,ob,hblk,hst,rfl,hR⟩
    | k+1,h=>simp at h
  . have:k=0:=h;subst this;exact⟨_,rfl⟩
  . match k,k',h,h' with
    | 0,0,_,_=>exact absurd rfl hne
    | 0,k'+1,_,h'=>simp at h'
    | k+1,_,h,_=>simp at h
  . match k,h with
    | 0,h=>cases h;exact hx.elim
    | k+1,h=>simp at h
  . simp only[Array.toList_append,Array.toList_replicate];have hl:us.toArray.size=args.length:=by simpa using C9.len
    rw[hl];exact(AL.mono tJ _ _ C9).append (Tc _ _ _ _)
 refine wpIn_mono (h 0 S B _ _ w (BW _) hA) fun e a' w' ⟨x,s,BR,hK⟩=>?_
 have fin:(∃k,k≠0/\OT P s fn.results.toList=some (.own k 0 len es)/\s.h[0]?=some (.mp (Cf m R'))/\s.h[k]?=some (.box ty (row.map V.c) false))->LeavesInM EF 0 P fn a'.tmps (fun r w'=>∃(S':Ba) (Cy:Obj) (b cap:Nat) (vs:Array Value),KB (fun k=>k=m) w w'/\Ar S S' w w'/\(∀b j,S' b j->S b j\/(w.heap.size<=b/\b<w'.heap.size)\/b=m)/\w'.heap[m]?=some Cy/\still Cy=false/\R' Cy/\
  r=.returned (.slice (some ⟨b,0,none⟩) len cap)/\len<=cap/\cap<=maxLen/\cap*es<=vs.size/\w'.heap[b]?=some (.cells vs ty (0,0))/\Bj S' w' row vs.toList/\w.heap.size<=b/\∀j,j<vs.size->¬S' b j) a'.defers .returning w':=by
  rintro ⟨k,hk0,hr,h0,hk⟩;obtain⟨Ds,e,h1,h2⟩:=BR.df;rw[e];refine mB hr Ds w' h1 h2 BR.good BR.tm fun w2 u g hu=>?_
  have hl0:=g.ext.loc 0 rfl;have hloc:x.loc 0=⟨m,0,false,0,false⟩:=by
   rcases hl0.2 with e|e
   . exact e.symm
   . cases e.1
  obtain⟨_,k1,k2,Cy,k3,k4,_,k5⟩:=g.ok 0 _ h0;rw[hloc]at k3;obtain⟨q1,q2,q3,vs,q4,q5,q6⟩:=g.ok k _ hk;simp only[CV]at hu;obtain⟨p1,p2,cap,rfl,p3,p4,p5⟩:=hu;have hne:(x.loc k).b≠m:=by
   have:=g.inj k 0 _ _ hk h0 hk0 q3 k2;rwa [hloc]at this
  refine⟨x.S,Cy,(x.loc k).b,cap,vs,⟨g.keep.os,g.keep.tape,g.keep.output,g.keep.size,fun k hk hne=>g.keep.block k hk fun hn=>hn ⟨hk,hne⟩⟩,⟨g.sub,fun b' j v hs hc=>g.ext.ar.cell b' j v hs hc⟩,fun b' j hs=>?_,k3,k4,k5,rfl,p3,p4,by omega,q4,toCs_ok (toCs_mapV row) q6,NT fun hlt=>g.own k _ hk q3 ⟨hlt,hne⟩,fun j hj=>g.EI k _ j hk ⟨rfl,by omega⟩⟩;rcases g.new b' j hs with hq|hq
  . exact .inl hq
  . by_cases e:b'=m
    . exact .inr (.inr e)
    . exact .inr (.inl ⟨NT fun hlt=>hq ⟨hlt,e⟩,g.ex b' j hs⟩)
 cases e with
 | normal=>exact fin hK
 | ret=>exact fin hK
 | _=>exact hK.elim
theorem enO {q:Prop}{P:Program}{g:FuncId}{fn:Func}{c:Code}{args:List V}{m:Nat}{R R':Obj->Prop}{ty:TypeId}{row:List C}{len es n:Nat}(hf:P.funcs[g]?=some fn)(hn:fn.ntmps=n)(h:q)(hb:fn.body=some c:=by exact rfl)(k:fn.ntmps=n->q->AW ⟨none,1⟩ P c (y9 P fn.results.toList m R' ty row len es) ⟨args++List.replicate (fn.ntmps - args.length) .any,[.mp (Cf m R)]⟩:=by
   intro hn h;simp only[hn,List.map_cons,List.map_nil,List.length_cons,List.length_nil,Nat.reduceAdd,Nat.reduceSub,List.replicate_succ,List.replicate_zero,List.cons_append,List.nil_append];exact h):Q7 P g args m R R' ty row len es:=Q7.intro hf hb (k hn h)
theorem Q7.data {P:Program}{f:FuncId}{args:List V}{m:Nat}{R R':Obj->Prop}{ty:TypeId}{rows:List (List C)}{es:Nat}(h:Q7 P f args m R R' ty rows.flatten rows.length es)(hes : ∀r∈rows,r.length=es):AQ P f args m R R' (.ret (.c (.sl rows))):=fun S w us ob k1 k2 k3 k4 k5 =>
 (h S w us ob k1 k2 k3 k4 k5).mono fun r w' ⟨S',Cy,b,cap,vs,a1,a2,a3,a4,a5,a6,a7,a8,a9,a10,a11,a12,a13,a14⟩=>by
   have DF:Ar S' (fun i j=>S' i j\/(i=b/\j<vs.size)) w' w':=⟨fun _ _ h=>.inl h,fun _ _ _ _ h=>h⟩
   have hlen:=a12.len;have hlt:b<w'.heap.size:=(Dy.1 a11).1;refine⟨fun i j=>S' i j\/(i=b/\j<vs.size),Cy,a1,a2.trans DF,fun i j hs=>?_,a4,a5,a6,_,a7,?_⟩
   . rcases hs with hs|⟨rfl,_⟩
     . exact a3 i j hs
     . exact .inr (.inl ⟨a13,hlt⟩)
   . simp only[CV,Ap];refine⟨_,cap,rfl,a8,a9,fun _=>⟨b,0,es,rfl,hes,?_⟩⟩;rw[Df.flat];refine CR.QX (Bj.mono DF _ _ a12) (fun j u hu=>?_) fun j hj=>.inr ⟨rfl,by rw[<-hlen]at hj;simpa using hj⟩
     rw[cell_of_row w' _ _ vs ty (0,0) a11];simpa using hu
theorem Good.join {S0:Ba}{w0:Bs}{x:Cx}{w:World}{H:Heap}(g:Good S0 w0 x w H)(k b:Nat)(hk : ¬x.dom k)(ty:TypeId)(cells:List V)(vs:Array Value)(hb:w.heap[b]?=some (.cells vs ty (0,0)))(hv:AL x w cells vs.toList)(hF : ¬w0.F b)(hS : ∀j,j<vs.size->¬x.S b j)(hne : ∀k' o',H k'=some o'->(x.loc k').void=false->(x.loc k').b≠b) :
 Good S0 w0 (x.Dl k ⟨b,vs.size,false,0,false⟩) w (H.set k (.box ty cells false))/\Ext x (x.Dl k ⟨b,vs.size,false,0,false⟩) w w:=by
 have he:Ext x (x.Dl k ⟨b,vs.size,false,0,false⟩) w w:=Good.kV k _ hk fun b j v _ hc=>hc
 have hlk:(x.Dl k ⟨b,vs.size,false,0,false⟩).loc k=⟨b,vs.size,false,0,false⟩:=by simp[Cx.Dl]
 have hlo : ∀i,i≠k->(x.Dl k ⟨b,vs.size,false,0,false⟩).loc i=x.loc i:=fun i hi=>by simp[Cx.Dl,hi]
 have hH : ∀i o,(H.set k (.box ty cells false)) i=some o->(i=k/\o=.box ty cells false)\/(i≠k/\H i=some o):=by
  intro i o h;by_cases e:i=k
  . subst e;simp[Heap.set]at h;exact .inl ⟨rfl,h.symm⟩
  . simp only[Heap.set,e,if_false]at h;exact .inr ⟨e,h⟩
 refine⟨⟨fun i o h=>?_,fun i h=>?_,fun i i' o o2 h h' hii M6 Rf=>?_,fun i o j h hx=>?_,g.ex,fun i o h M6=>?_,g.new,g.sub,g.keep,g.ext.trans he⟩,he⟩
 . rcases hH i o h with ⟨rfl,rfl⟩|⟨e,h⟩
   . exact⟨.inr rfl,by rw[hlk],by rw[hlk],vs,by rw[hlk];exact hb,by rw[hlk],AL.mono he _ _ hv⟩
   . obtain⟨h1,h2⟩:=g.ok i o h;exact⟨.inl h1,h2.mono he (hlo i e) fun _=>rfl⟩
 . rcases h with h|rfl
   . obtain⟨o,ho⟩:=g.dom i h;have e:i≠k:=fun e=>hk (e ▸ h)
     exact⟨o,by simp[Heap.set,e,ho]⟩
   . exact⟨_,by simp[Heap.set];rfl⟩
 . rcases hH i o h with ⟨e1,e2⟩|⟨e,h0⟩
   . rcases hH i' o2 h' with ⟨e3,e4⟩|⟨e',Mx⟩
     . exact absurd (e1.trans e3.symm) hii
     . rw[hlo i' e']at Rf ⊢;rw[e1,hlk];exact fun e=>hne i' o2 Mx Rf e.symm
   . rcases hH i' o2 h' with ⟨e3,e4⟩|⟨e',Mx⟩
     . rw[hlo i e]at M6 ⊢;rw[e3,hlk];exact hne i o h0 M6
     . rw[hlo i e]at M6 ⊢;rw[hlo i' e']at Rf ⊢;exact g.inj i i' o o2 h0 Mx hii M6 Rf
 . rcases hH i o h with ⟨rfl,rfl⟩|⟨e,h⟩
   . rw[hlk];have:=hx.2;rw[hlk]at this;exact hS j this
   . rw[hlo i e];exact g.EI i o j h (Ex.loc (hlo i e) hx)
 . rcases hH i o h with ⟨rfl,rfl⟩|⟨e,h⟩
   . rw[hlk];exact hF
   . rw[hlo i e]at M6 ⊢;exact g.own i o h M6
section
variable {P:Program} {K:Exit->St->Prop} {ops:List Oper} {s:St}
theorem SW.kD {o:Oper}{r:List Oper}{f:FuncId}{args Bx:List V}{m:Nat}{R R':Obj->Prop}{ty:TypeId}{row:List C}{len es:Nat}(k:Nat)(Ij:Q7 P f Bx m R R' ty row len es)(Au:GI P f=true)(hg:gate ops s.t o.guard=some true)(hcall:DE (ev s.t) o.op=some (f,args))(hp:V.AO args=some Bx)(hk:s.h[k]?=some (.mp (Cf m R)))(h:SW P ops K r (St.step ⟨s.t,CG s.h (some (k,.mp (Cf m R')))⟩ o.dst (.own s.h.length 0 len es) (some (s.h.length,.box ty (row.map V.c) false)))):SW P ops K (o::r) s:=fun S0 w0 x a w hA=>by
 have hw:DV o (yielded ops.toArray a.tmps)=true:=by
  have:=J2 (o:=o) hA.tm (Hj (ops:=ops) (K1:=True) (K2:=False) hg trivial);exact Kb fun h=>this.2 h
 have g:=hA.good;have hop : ∀y∈o.op.operands.toList,CV x w (ev s.t y) (a.eval y):=fun y _=>EH hA.tm y
 unfold wpList;rw[if_pos hw];refine .inl ?_;unfold DE at hcall;split at hcall
 case h_2=>cases hcall
 rename_i fo ar He ho;split at hcall
 case h_2=>cases hcall
 rename_i f' caps Fo;simp only[BE,Prod.mk.injEq]at hcall;obtain⟨rfl,rfl⟩:=hcall;have CY:=Qq (hop fo (by simp[ho,CN,D7]));rw[Fo]at CY;simp only[CV]at CY;obtain⟨Dx,CY,EZ⟩:=CY;have Ik:AL x w (ar.toList.map (ev s.t)++caps) (ar.toList.map a.eval++Dx.toList):=(AL.of_map fun y hy=>hop y (by simp[ho,CN,D7];exact .inr (by simpa using hy))).append EZ;obtain⟨fn,hf,hb,hn'⟩:=UB Au;have hb':fn.body≠none:=by intro e;rw[e]at hb;cases hb
 have hn':fn.name≠ "runtime.NumGoroutine":=by simpa using hn'
 have hrun:(execOp a.eval o).run P w=.ok (.enter f' (ar.toList.map a.eval++Dx.toList).toArray) w:=by
  have e1:(ar.map a.eval++Dx)=(ar.toList.map a.eval++Dx.toList).toArray:=by apply Gk.1;simp
  simp[execOp,ho,resolve,CY,Deferred.ofValue,invoke,callFunc,program,Sem.run,hf,hn',hb',e1]
 obtain⟨hd,b1,b2,ob,b3,b4,hm,b5⟩:=g.ok k _ hk;subst hm;unfold Oper.wp;rw[hrun];refine(Ij x.S w _ ob g.ex b3 b4 b5 (PJ _ _ _ hp Ik)).mono ?_;rintro r' w' ⟨S',Cy,b,cap,vs,hkb,DF,Hs,h1,h2,h3,rfl,c1,c2,c3,c4,c5,c6,c7⟩;have hlt:=(Dy.1 b3).1;have he:Ext x { x with S:=S' } w w':=⟨DF,fun _ h=>h,fun _ _=>Es.refl _⟩
 have g':=g.IN (x':={ x with S:=S' }) k (.mp (Cf (x.loc k).b R')) he (hkb.wide fun b e=>⟨hd,b2,e.symm⟩) (fun i=>⟨.inl,fun h=>h.elim id fun e=>e ▸ hd⟩) (fun _ _=>rfl) (fun _=>.inl ⟨hd,b2,rfl⟩)
  ⟨b1,b2,Cy,h1,h2,rfl,h3⟩ (fun b j hs=>(Hs b j hs).imp id fun h=>h.elim (fun h=>⟨h.2,.inl h.1,fun e=>by have:(x.loc k).b=b:=e;omega⟩) (fun h=>⟨by rw[h];exact Nat.lt_of_lt_of_le hlt hkb.size,.inr ⟨hd,b2,h.symm⟩,fun _ hx=>hx.elim⟩)) (fun j hx=>hx.elim)
 have hnc:NC w w':=⟨hkb.size,fun b ob2 DW hnb=>(hkb.block b (Dy.1 DW).1 fun e=>by subst e;rw[b3]at DW;cases DW;rw[b4]at hnb;cases hnb).trans DW⟩
 have Bp:k<s.h.length:=(List.getElem?_eq_some_iff.1 hk).1;have ZB : ¬x.dom s.h.length:=fun hd=>by
  obtain⟨ob,h⟩:=g.dom _ hd;simp at h
 obtain⟨g2,Y1⟩:=g'.join s.h.length b ZB ty (row.map V.c) vs c4 (AL.N2 c5) (g.fresh c6) c7 (fun k' o' h hv=>by
  have hb:(x.loc k').b<w.heap.size:=by
   by_cases e:k'=k
   . subst e;exact hlt
   . simp only[Heap.set,e,if_false]at h;exact((g.ok k' o' h).2).lt hv
  have e:({ x with S:=S' }:Cx).loc k'=x.loc k':=rfl;rw[e];omega)
 have e:=Lm s.h (some (k,O.mp (Cf (x.loc k).b R'))) (fun k' o' e=>by cases e;exact Nat.le_of_lt Bp);have hlen:(CG s.h (some (k,O.mp (Cf (x.loc k).b R')))).length=s.h.length:=by
  simp only[CG,if_pos Bp,List.length_set]
 have e2:=Lm (CG s.h (some (k,O.mp (Cf (x.loc k).b R')))) (some (s.h.length,O.box ty (row.map V.c) false)) (fun k' o' e=>by cases e;rw[hlen];exact BW _);have g'':Good S0 w0 (({ x with S:=S' }:Cx).Dl s.h.length ⟨b,vs.size,false,0,false⟩) w' (fun i=>(CG (CG s.h (some (k,O.mp (Cf (x.loc k).b R')))) (some (s.h.length,O.box ty (row.map V.c) false)))[i]?):=by
  rw[e2];have e3:(fun i=>(CG s.h (some (k,O.mp (Cf (x.loc k).b R'))))[i]?)=Heap.set (fun i=>s.h[i]?) k (.mp (Cf (x.loc k).b R')):=e;rw[e3];exact g2
 have Gv:CT S0 w0 (({ x with S:=S' }:Cx).Dl s.h.length ⟨b,vs.size,false,0,false⟩) ⟨s.t,CG (CG s.h (some (k,O.mp (Cf (x.loc k).b R')))) (some (s.h.length,O.box ty (row.map V.c) false))⟩ a w':=⟨g'',AL.mono (he.trans Y1) _ _ hA.tm,hA.df.mono hnc⟩
 exact h S0 w0 _ _ w' (CT.put Gv.tm Gv.df (Ext.refl _ _) Gv.good (v:=.own s.h.length 0 len es) (by
  simp only[CV,Cx.Dl,if_true];exact⟨.inr trivial,trivial,cap,rfl,c1,c2,by omega⟩) o.dst)
end
theorem ABz {y:ByteArray} : ∀ {l:List ByteArray},y∈l->Jf y l=true
 | z::l,h=>by
   simp only[Jf];split
   . rfl
   . rename_i hne;rcases List.mem_cons.1 h with rfl|h
     . exact absurd rfl hne
     . exact ABz h
theorem vK {x:Ae}(hx:x.Ok)(s:AM){t:ByteArray}(hn:F2 t=true):JS x.f t (x.K8 s t)=true/\F2 (x.K8 s t).J7=true/\(x.K8 s t).Iy=0:=by
 unfold JS Ae.K8;cases hst:x.f.H2 t with
 | none=>simp[hn]
 | some st =>
   have hs:=(Qm hst).1;have g1:=(Oh hx.val hs).AGQ;have h:=X5 hx.val st hs;simp only[Hd,Bool.and_eq_true]at h;have hi:(if s.level=0/\2<=st.Bb.length then 1 else 0)<st.Bb.length:=by split<;>omega
   obtain⟨i,hii⟩:=AE ((if s.level=0/\2<=st.Bb.length then 1 else 0));rw[hii]at hi;have hg:st.Bb.getD i ⟨#[]⟩=st.Bb[i]:=by simp[gu,hi]
   have hm:st.Bb[i]∈st.Bb:=List.getElem_mem hi;simp only[hii,hg];refine⟨?_,wV hx.val _ _ h.2.1 _ hm,trivial⟩;simp only[if_true];exact ABz hm
theorem AQG {x:Ae}(hx:x.Ok){s:AM}(hs:s.ok=true){t:ByteArray}(hn:F2 t=true):Ja x.f t (x.K8 s t) (x.sz s)=(x.gl s (x.K8 s t).J7,0):=by
 obtain⟨p1,p2⟩:=GD hx.val hs;obtain⟨h1,h2,h3⟩:=vK hx s hn;have hk:IE x.f (x.sz s)=0:=by unfold IE Ae.sz;rw[if_neg (by simp[hx.val]),if_neg (by omega)]
 unfold Ja;rw[if_neg (by simp[hk]),if_neg (by simp[h1]),if_pos h3];rfl
theorem AJ8 {b:AA}{a:Int}(hb:Vp b)(h1 : -200000<=b.h/\b.h<=200000)(h2 : -200000<=b.d/\b.d<=200000)(ha : -1000000<=a/\a<=1000000):∃c,Ic b a=(c,0)/\Vp c/\c.cnt=b.cnt:=by
 have hh:=JI (b.h - b.d);have Gx : -200001<=half (b.h - b.d)/\half (b.h - b.d)<=200001:=by
  unfold half FI;repeat' split
  all_goals omega
 have e1:Aw a=true:=Lf (by omega) (by omega);have e2:Aw (b.h - b.d)=true:=Lf (by omega) (by omega);have e3:Aw (a - half (b.h - b.d))=true:=Lf (by omega) (by omega);refine⟨b.at_ b.x (a - half (b.h - b.d)),?_,⟨?_,FA _ _ hb.o,hb.w⟩,GW _ _ _⟩
 . unfold Ic;rw[if_neg (by simp[hb.v]),if_neg (by simp[e1,e2]),if_neg (by simp[e3])]
 . rw[ze hb.v];exact e3
theorem ALG {x:Ae}(hx:x.Ok){s:AM}(hs:s.ok=true)(name:ByteArray):(-200000<=(x.gl s name).h/\(x.gl s name).h<=200000)/\(-200000<=(x.gl s name).d/\(x.gl s name).d<=200000):=by
 obtain⟨p1,p2⟩:=GD hx.val hs;have hb:=Xq hx.val p1 p2 name;have e:x.gl s name=(Cl x.f name (BK x.f.params s)).1:=rfl;rw[e,(N8 hx.val p1 p2 name).1];simp only[Mw];omega
theorem AUI (x:Ae)(m:Nat)(t:ByteArray)(s:AM)(hx:x.Ok)(hs:s.ok=true)(hn:F2 t=true):AQ AD 156 [Bf x m,.c (.str t),Ai s] m (BI x.f) (BI x.f) (BS (x.QY s t)):=by
 obtain⟨h1,h2,h3⟩:=vK hx s hn;have hz:=nY x m hs;have hl:=ZO hs;have k0:0<=s.level:=by omega
 have k1:s.level<4:=by omega
 have hst:=R4 x.f t hx.fit hx.val;have Cw:=AVQ nq x.f t (x.K8 s t) (x.sz s) hx.fit;rw[AQG hx hs hn]at Cw;have hsc:=nW x m x.f.params.EB s hs;obtain⟨g1,g2⟩:=kf hx hs h2;obtain⟨d1,d2⟩:=ALG hx hs (x.K8 s t).J7;obtain⟨p1,p2⟩:=GD hx.val hs;have ab:0<=scale x.f.params.EB (x.sz s)/\scale x.f.params.EB (x.sz s)<=20001:=zi hx.val p1 p2;obtain⟨c,e1,e2,e3⟩:=AJ8 g1 d1 d2 (a:=scale x.f.params.EB (x.sz s)) (by omega);have hce:=AEk (x.gl s (x.K8 s t).J7) (scale x.f.params.EB (x.sz s)) g1.o (by omega);rw[e1]at hce;have hR:x.QY s t=okB (El [c] [0]):=by unfold Ae.QY;rw[e1];rfl
 have BU:=mf [c] [0] ⟨e2.o,trivial⟩ (by simp only[AA.A9];omega) (by simp) (by simp);have RZ:=nM (kids:=[c]) (sp:=[0]) (by simp[e2.v]) rfl (by decide);rw[<-hR]at RZ;rw[RZ]at BU;have ER:=Ix (x.gl s (x.K8 s t).J7);have Ew:=Ix c;obtain⟨G,hG⟩:=AE (x.gl s (x.K8 s t).J7);rw[hG]at Cw hce ER;obtain⟨o,ho⟩:=AE (x.QY s t);rw[ho]at BU ⊢;have hcc:(x.K8 s t)=⟨(x.K8 s t).J7,0⟩:=by rw[<-h3]
 obtain⟨gn,QB⟩:=AE ((x.K8 s t).J7);rw[QB]at hcc;rw[hcc]at Cw;have hgd:gn=match x.f.H2 t with
  | none=>t
  | some st=>st.Bb.getD (if s.level=0/\2<=st.Bb.length then 1 else 0) ⟨#[]⟩:=by
  rw[<-QB];unfold Ae.K8;cases x.f.H2 t<;>rfl
 clear hcc QB h1 h2 h3 hG hR RZ e1 g1 g2 d1 d2;simp only[Mq,Bd,Af,Ay,AA.rows,Ab,Al,A8]at Cw hce BU ER Ew;unfold Bf Ai at *
 cases Wq:x.f.H2 t with
 | none =>
   rw[Wq]at hst hgd;simp only at hgd;subst hgd;simp only[L3,GF,A6.row,A6.zero,Gl,H7,Al,A8]at hst;refine CP ou pK ?_;have ff:=(cj @hz<|cj @k0<|cj @k1<|Pg)
   repeat any_goals (first|refine gB (CJ.mk 10) ?_|exact XO ff|refine Xn ff ?_|refine FB ff (hst) ?_|refine FB ff (Cw) ?_|refine FB ff (ER) ?_|refine FB ff (hsc) ?_|refine FB ff (hce) ?_|refine FB ff (Ew) ?_|refine Bi ff ?_|((first|refine V1 ff ?_ ?_|refine V5 ff ?_ ?_|refine V3 ff ?_ ?_|refine V4 ff ?_ ?_)<;>intro h<;>try (exfalso;first|omega|contradiction)))
   cases o with
   | some b =>
     have FR:=Ix b;simp only[EM,Hg,if_true,Af,Ay]at BU FR;simp only[BS,Ay];exact qz Pg (cj BU<|cj FR<|trivial)
   | none =>
     have FR:=KI AA.zero m (BI x.f);simp only[Gl,H7,Fe,if_false,Af,Ay]at BU FR;simp only[BS];exact qz Pg (cj BU<|cj FR<|trivial)
 | some st =>
   have hs1:=(Qm Wq).1;have z1:=(Oh hx.val hs1).AGQ;rw[Wq]at hst hgd;simp only at hgd;simp only[L3,GF,A6.row,EM,Hg,Al,A8]at hst;have DG:DT st.Bb=.sl (st.Bb.map fun n=>[.str n]):=rfl;obtain⟨rs,Ak⟩:=AE ((st.Bb.map fun n=>[C.str n]));have Am:rs.length=st.Bb.length:=by rw[<-Ak,Cg]
   rw[DG,Ak]at hst;have FT:0<rs.length:=by omega
   have JL : ∀i (h:i<st.Bb.length),rs[i]?=some [.str (st.Bb.getD i ⟨#[]⟩)]:=by
    intro i h;rw[<-Ak];simp[gu,h]
   by_cases c1:s.level=0
   . have kB:=iff_true_intro c1;by_cases c2:2<=st.Bb.length
     . rw[if_pos ⟨c1,c2⟩]at hgd;have Kq:=JL 1 (by omega);rw[<-hgd]at Kq;have dY:=gx Kq;have c3:1<rs.length:=by omega
       have c4:(2:Int)<=(rs.length:Int):=by omega
       refine CP ou pK ?_;have ff:=(cj @hz<|cj @k0<|cj @k1<|cj @kB<|cj @c3<|cj @c4<|cj @Kq<|cj @dY<|Pg)
       repeat any_goals (first|refine gB (CJ.mk 10) ?_|exact XO ff|refine Xn ff ?_|refine FB ff (hst) ?_|refine FB ff (Cw) ?_|refine FB ff (ER) ?_|refine FB ff (hsc) ?_|refine FB ff (hce) ?_|refine FB ff (Ew) ?_|refine Bi ff ?_|((first|refine V1 ff ?_ ?_|refine V5 ff ?_ ?_|refine V3 ff ?_ ?_|refine V4 ff ?_ ?_)<;>intro h<;>try (exfalso;first|omega|contradiction)))
       cases o with
       | some b =>
         have FR:=Ix b;simp only[EM,Hg,if_true,Af,Ay]at BU FR;simp only[BS,Ay];exact qz Pg (cj BU<|cj FR<|trivial)
       | none =>
         have FR:=KI AA.zero m (BI x.f);simp only[Gl,H7,Fe,if_false,Af,Ay]at BU FR;simp only[BS];exact qz Pg (cj BU<|cj FR<|trivial)
     . rw[if_neg (fun h=>c2 h.2)]at hgd;have Kq:=JL 0 (by omega);rw[<-hgd]at Kq;have dY:=gx Kq;have c4 : ¬(2:Int)<=(rs.length:Int):=by omega
       refine CP ou pK ?_;have ff:=(cj @hz<|cj @k0<|cj @k1<|cj @kB<|cj @FT<|cj @c4<|cj @Kq<|cj @dY<|Pg)
       repeat any_goals (first|refine gB (CJ.mk 10) ?_|exact XO ff|refine Xn ff ?_|refine FB ff (hst) ?_|refine FB ff (Cw) ?_|refine FB ff (ER) ?_|refine FB ff (hsc) ?_|refine FB ff (hce) ?_|refine FB ff (Ew) ?_|refine Bi ff ?_|((first|refine V1 ff ?_ ?_|refine V5 ff ?_ ?_|refine V3 ff ?_ ?_|refine V4 ff ?_ ?_)<;>intro h<;>try (exfalso;first|omega|contradiction)))
       cases o with
       | some b =>
         have FR:=Ix b;simp only[EM,Hg,if_true,Af,Ay]at BU FR;simp only[BS,Ay];exact qz Pg (cj BU<|cj FR<|trivial)
       | none =>
         have FR:=KI AA.zero m (BI x.f);simp only[Gl,H7,Fe,if_false,Af,Ay]at BU FR;simp only[BS];exact qz Pg (cj BU<|cj FR<|trivial)
   . have kB:=c1;rw[if_neg (fun h=>c1 h.1)]at hgd;have Kq:=JL 0 (by omega);rw[<-hgd]at Kq;have dY:=gx Kq;refine CP ou pK ?_;have ff:=(cj @hz<|cj @k0<|cj @k1<|cj @kB<|cj @FT<|cj @Kq<|cj @dY<|Pg)
     repeat any_goals (first|refine gB (CJ.mk 10) ?_|exact XO ff|refine Xn ff ?_|refine FB ff (hst) ?_|refine FB ff (Cw) ?_|refine FB ff (ER) ?_|refine FB ff (hsc) ?_|refine FB ff (hce) ?_|refine FB ff (Ew) ?_|refine Bi ff ?_|((first|refine V1 ff ?_ ?_|refine V5 ff ?_ ?_|refine V3 ff ?_ ?_|refine V4 ff ?_ ?_)<;>intro h<;>try (exfalso;first|omega|contradiction)))
     cases o with
     | some b =>
       have FR:=Ix b;simp only[EM,Hg,if_true,Af,Ay]at BU FR;simp only[BS,Ay];exact qz Pg (cj BU<|cj FR<|trivial)
     | none =>
       have FR:=KI AA.zero m (BI x.f);simp only[Gl,H7,Fe,if_false,Af,Ay]at BU FR;simp only[BS];exact qz Pg (cj BU<|cj FR<|trivial)
end Go.Proofs.YtpodcjcajanldaaGreat
