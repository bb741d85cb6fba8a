/- Part of the proof of displayBest.proved. Conditions: none. -/
import Derived.Test.YtlpomcliejmedaaGreatW8
set_option linter.unusedVariables false
set_option linter.unusedSimpArgs false
set_option maxRecDepth 100000
set_option maxHeartbeats 16000000
open List renaming replicate→Aq,getElem?_eq_some_iff→Br,length_set→GF,mem_cons→Cf,getD→mS,getElem_mem→Kq,map_cons→Ap,map_nil→BB,length_map→Ch,mem_cons_of_mem→Gk,mem_cons_self→GH,length_cons→BA,getElem?_cons_zero→LX,getElem?_cons_succ→JU,all_eq_true→ES,all_append→ACn,length_append→Cp,length_singleton→uP,all_cons→Ep,mem_append→MJ,mem_singleton→LY,mem_or_eq_of_mem_set→uU,foldl_cons→Bw,mem_map→Da,getElem?_take→KO,getElem?_map→CM,getD_eq_getElem?_getD→Bv,mem_of_getElem?→Cj,not_mem_nil→RE,any_cons→mP,any_nil→mQ,set_cons_succ→Ai,set_cons_zero→Ag,take_succ_cons→DP,take_zero→ET,drop_succ_cons→CU,drop_zero→B9,getElem?_eq_getElem→BE,drop_eq_getElem_cons→D5,ext_getElem→UB,ext_getElem?→Vc,replicate_succ→BY,getElem?_append_left→EJ,getElem?_append_right→Gy,getElem?_eq_none→M6,nil_append→BU,map_append→Fm,length_nil→BO,replicate_zero→Cy,cons_append→BK,getD_cons_succ→Om,getD_cons_zero→On,mem_filterMap→mX,mem_range'_1→tp
open Go.Fence renaming wide→Cg
open Array renaming replicate→M4,toList_append→Pq,toList_replicate→T8,getElem?_eq_some_iff→DO,toList_inj→Gx
open Nat renaming le_refl→BN,le_of_not_lt→Hq,lt_of_lt_of_le→H7,le_of_lt→LZ,zero_le→CI,add_zero→M8,sub_self→La,zero_add→Cz,mod_eq_of_lt→uZ,add_sub_cancel→aM,mod_lt→mh,add_mul→Gz,mul_le_mul→ua,lt_irrefl→IY
open Go.Region renaming wanted→FB
open Classical renaming byContradiction→Kn
open Option.some renaming injEq→BL
open Prod.mk renaming injEq→Cr
open Go.Op renaming operands→Bl
open Go.Call renaming operands→Df
open Go.Deferred renaming ofValue→M5
open Go.Sem renaming run→HW
open Go.Oper renaming wp→Er
open Bool renaming and_eq_true→Ak,false_eq_true→GW,or_false→lz,or_eq_true→T9,true_and→Cd
open Go.Proofs.Tryz renaming prog→AF,func251→uj,ntmps251→u7,results251→RI,func186→UH,ntmps186→UL,results186→UN,results313→ADQ,results350→gq,results22→MO
open Option renaming getD_none→Hr,isSome_none→H8,getD_some→Dm,isSome_some→IZ
open Int renaming le_refl→IV,le_trans→Sk
open Go.Builtin renaming zeroCells→KN
open Go.IntKind renaming i64→AZ
open List.Pairwise renaming nil→ACm
namespace Go.Proofs.YtlpomcliejmedaaGreat
open Go.RowKit Tryz
variable {P:Program}{fn:Func}{args:List V}{ty:TypeId}{S0:BF}{w0:Bs}{x:Af}{w:World}{H:Bx}{o:Oper}{r:List Oper}{s:Aa}{b:AA}{a:Int}{src:List Int}{AE:List AA}{sp:List Int}{α:Type}{ch:List PanicEntry}{Kv:V->List O->Prop}(L:List (Int×Int×Int))(k:Nat)
def Sv (P:Program)(f:FuncId)(args:List V)(m:Nat)(R R':Obj->Prop)(ty:TypeId)(row:List C)(len es:Nat):Prop:=
 ∀(S:BF) (w:World) (us:List Value) (ob:Obj),(∀b j,S b j->b<w.heap.size)->w.heap[m]?=some ob->still ob=false->R ob->AO (Cx.bare S) w args us->
  Calls P f us.toArray w λr w'=>∃(S':BF) (Cw:Obj) (b cap:Nat) (vs:Array Value),KB (λk=>k=m) w w'/\Ar S S' w w'/\(∀b j,S' b j->S b j\/(w.heap.size<=b/\b<w'.heap.size)\/b=m)/\w'.heap[m]?=some Cw/\still Cw=false/\R' Cw/\
   r=.returned (.slice (some ⟨b,0,none⟩) len cap)/\len<=cap/\cap<=maxLen/\cap*es<=vs.size/\w'.heap[b]?=some (.cells vs ty (0,0))/\B4 S' w' row vs.toList/\w.heap.size<=b/\∀j,j<vs.size->¬S' b j
def ADr (P:Program)(l:List ResultVar)(m:Nat)(R':Obj->Prop)(ty:TypeId)(row:List C)(len es:Nat):Exit->St->Prop
 | .normal,s=>∃k,k≠0/\GJ P s l=some (.own k 0 len es)/\s.h[0]?=some (.mp (Ci m R'))/\s.h[k]?=some (.box ty (row.map V.c) false)
 | .ret,s=>∃k,k≠0/\GJ P s l=some (.own k 0 len es)/\s.h[0]?=some (.mp (Ci m R'))/\s.h[k]?=some (.box ty (row.map V.c) false)
 | _,_=>False
theorem Sv.intro {P:Program}{f:FuncId}{fn:Func}{c:Code}{args:List V}{m:Nat}{R R':Obj->Prop}{ty:TypeId}{row:List C}{len es:Nat}(hf:P.funcs[f]?=some fn)(hb:fn.body=some c)(h:AW ⟨none,1⟩ P c (ADr P fn.results.toList m R' ty row len es) ⟨args++Aq (fn.ntmps - args.length) .any,[.mp (Ci m R)]⟩):Sv P f args m R R' ty row len es:=by
 intro S w us ob hS FF A0 hR B7;refine callsIn_wide.1 (callsIn_of_wp_marks (F:=Cg) (n:=0) hf hb trivial ?_);let B:Bs:=⟨w,λk=>k<w.heap.size/\k≠m,λ_ h=>h.1,Cx.de S m,1,λk G=>by have:k=0:=G;omega⟩
 have zF:Ext (Cx.bare S) (Cx.de S m) w w:=⟨Ar.refl _ _,λ_ h=>h.elim,λ_ h=>h.elim⟩
 have hA:Bo S B (Cx.de S m) ⟨args++Aq (fn.ntmps - args.length) .any,[.mp (Ci m R)]⟩ { tmps:=us.toArray++M4 (fn.ntmps - us.toArray.size) undef,defers:=[] } w:=by
  refine⟨⟨λk o h=>?_,λk h=>?_,λk k' o o' h h' E=>?_,λk o j h hx=>?_,hS,λk o h _ hF=>hF.2 rfl,λb j h=>.inl h,λb j h=>h,.FR (Ay.refl w),Ext.refl _ _⟩,?_,Marks.nil _ _⟩;match k,h with
  | 0,h=>cases h;exact⟨rfl,rfl,rfl,ob,FF,A0,rfl,hR⟩
  | k+1,h=>simp at h
  have:k=0:=h;subst this;exact⟨_,rfl⟩;match k,k',h,h' with
  | 0,0,_,_=>exact absurd rfl E
  | 0,k'+1,_,h'=>simp at h'
  | k+1,_,h,_=>simp at h
  match k,h with
  | 0,h=>cases h;exact hx.elim
  | k+1,h=>simp at h
  simp only[Pq,T8];have hl:us.toArray.size=args.length:=by simpa using B7.len
  rw[hl];exact(AO.mono zF _ _ B7).append (SQ _ _ _ _)
 refine wpIn_mono (h 0 S B _ _ w (BN _) hA) λe a' I ⟨x,s,Au,hK⟩=>?_
 have W:(∃k,k≠0/\GJ P s fn.results.toList=some (.own k 0 len es)/\s.h[0]?=some (.mp (Ci m R'))/\s.h[k]?=some (.box ty (row.map V.c) false))->LeavesInM Cg 0 P fn a'.tmps (λr I=>∃(q:BF) (Q:Obj) (b cap:Nat) (vs:Array Value),KB (λk=>k=m) w I/\Ar S q w I/\(∀b j,q b j->S b j\/(w.heap.size<=b/\b<I.heap.size)\/b=m)/\I.heap[m]?=some Q/\still Q=false/\R' Q/\
  r=.returned (.slice (some ⟨b,0,none⟩) len cap)/\len<=cap/\cap<=maxLen/\cap*es<=vs.size/\I.heap[b]?=some (.cells vs ty (0,0))/\B4 q I row vs.toList/\w.heap.size<=b/\∀j,j<vs.size->¬q b j) a'.defers .returning I:=by
  rintro ⟨k,Iu,hr,h0,G⟩;obtain⟨Ds,e,h1,h2⟩:=Au.df;rw[e];refine dR hr Ds I h1 h2 Au.good Au.tm λw2 u g hu=>?_
  have Lu:=g.ext.loc 0 rfl;have J:x.loc 0=⟨m,0,false,0,false⟩:=by
   rcases Lu.2 with e|e
   exact e.symm;cases e.1
  obtain⟨_,k1,k2,Q,k3,k4,_,k5⟩:=g.ok 0 _ h0;rw[J]at k3;obtain⟨q1,q2,q3,vs,q4,q5,q6⟩:=g.ok k _ G;simp only[CV]at hu;obtain⟨p1,p2,cap,rfl,p3,p4,p5⟩:=hu;have E:(x.loc k).b≠m:=by
   have:=g.inj k 0 _ _ G h0 Iu q3 k2;rwa [J]at this
  refine⟨x.S,Q,(x.loc k).b,cap,vs,⟨g.keep.os,g.keep.tape,g.keep.output,g.keep.size,λk G E=>g.keep.block k G λhn=>hn ⟨G,E⟩⟩,⟨g.sub,λU j v z hc=>g.ext.ar.cell U j v z hc⟩,λU j z=>?_,k3,k4,k5,rfl,p3,p4,by omega,q4,toCs_ok (toCs_mapV row) q6,Hq λM=>g.own k _ G q3 ⟨M,E⟩,λj hj=>g.EA k _ j G ⟨rfl,by omega⟩⟩;rcases g.new U j z with hq|hq
  exact .inl hq;by_cases e:U=m;exact .inr (.inr e);exact .inr (.inl ⟨Hq λM=>hq ⟨M,e⟩,g.ex U j z⟩)
 cases e with
 | normal=>exact W hK
 | ret=>exact W hK
 | _=>exact hK.elim
theorem enO {q:Prop}{g:FuncId}{c:Code}{m:Nat}{R R':Obj->Prop}{row:List C}{len es n:Nat}(hf:P.funcs[g]?=some fn)(hn:fn.ntmps=n)(h:q)(hb:fn.body=some c:=by exact rfl)(k:fn.ntmps=n->q->AW ⟨none,1⟩ P c (ADr P fn.results.toList m R' ty row len es) ⟨args++List.replicate (fn.ntmps - args.length) .any,[.mp (Ci m R)]⟩:=by
   intro hn h;simp only[hn,List.map_cons,List.map_nil,List.length_cons,List.length_nil,Nat.reduceAdd,Nat.reduceSub,List.replicate_succ,List.replicate_zero,List.cons_append,List.nil_append];exact h):Sv P g args m R R' ty row len es:=Sv.intro hf hb (k hn h)
theorem Sv.data {f:FuncId}{m:Nat}{R R':Obj->Prop}{AG:List (List C)}{es:Nat}(h:Sv P f args m R R' ty AG.flatten AG.length es)(M : ∀r∈AG,r.length=es):AQ P f args m R R' (.ret (.c (.sl AG))):=λS w us ob k1 k2 k3 k4 k5 =>
 (h S w us ob k1 k2 k3 k4 k5).mono λr G ⟨I,z,b,cap,vs,a1,a2,a3,a4,a5,a6,a7,a8,a9,A0,B,E,J,A1⟩=>by
   have W:Ar I (λi j=>I i j\/(i=b/\j<vs.size)) G G:=⟨λ_ _ h=>.inl h,λ_ _ _ _ h=>h⟩
   have F:=E.len;have Q:b<G.heap.size:=(DO.1 B).1;refine⟨λi j=>I i j\/(i=b/\j<vs.size),z,a1,a2.trans W,λi j U=>?_,a4,a5,a6,_,a7,?_⟩;rcases U with U|⟨rfl,_⟩
   exact a3 i j U;exact .inr (.inl ⟨J,Q⟩);simp only[CV,Ab];refine⟨_,cap,rfl,a8,a9,λ_=>⟨b,0,es,rfl,M,?_⟩⟩;rw[D9.flat];refine B5.Pe (B4.mono W _ _ E) (λj u hu=>?_) λj q=>.inr ⟨rfl,by rw[<-F]at q;simpa using q⟩
   rw[cell_of_row G _ _ vs ty (0,0) B];simpa using hu
theorem Good.join {x:Cx}(g:Good S0 w0 x w H)(k b:Nat)(hk : ¬x.dom k)(ty:TypeId)(cells:List V)(vs:Array Value)(hb:w.heap[b]?=some (.cells vs ty (0,0)))(hv:AO x w cells vs.toList)(hF : ¬w0.F b)(hS : ∀j,j<vs.size->¬x.S b j)(M : ∀k' o',H k'=some o'->(x.loc k').void=false->(x.loc k').b≠b):
 Good S0 w0 (x.C4 k ⟨b,vs.size,false,0,false⟩) w (H.set k (.box ty cells false))/\Ext x (x.C4 k ⟨b,vs.size,false,0,false⟩) w w:=by
 have R:Ext x (x.C4 k ⟨b,vs.size,false,0,false⟩) w w:=Good.ext1 k _ hk λb j v _ hc=>hc
 have B:(x.C4 k ⟨b,vs.size,false,0,false⟩).loc k=⟨b,vs.size,false,0,false⟩:=by simp[Cx.C4]
 have E : ∀i,i≠k->(x.C4 k ⟨b,vs.size,false,0,false⟩).loc i=x.loc i:=λi hi=>by simp[Cx.C4,hi]
 have I : ∀i o,(H.set k (.box ty cells false)) i=some o->(i=k/\o=.box ty cells false)\/(i≠k/\H i=some o):=by
  intro i o h;by_cases e:i=k;subst e;simp[Bx.set]at h;exact .inl ⟨rfl,h.symm⟩;simp only[Bx.set,e,if_false]at h;exact .inr ⟨e,h⟩
 refine⟨⟨λi o h=>?_,λi h=>?_,λi J o U h h' Wf G Q=>?_,λi o j h hx=>?_,g.ex,λi o h G=>?_,g.new,g.sub,g.keep,g.ext.trans R⟩,R⟩;rcases I i o h with ⟨rfl,rfl⟩|⟨e,h⟩
 exact⟨.inr rfl,by rw[B],by rw[B],vs,by rw[B];exact hb,by rw[B],AO.mono R _ _ hv⟩;obtain⟨h1,h2⟩:=g.ok i o h;exact⟨.inl h1,h2.mono R (E i e) λ_=>rfl⟩;rcases h with h|rfl
 obtain⟨o,ho⟩:=g.dom i h;have e:i≠k:=λe=>hk (e ▸ h)
 exact⟨o,by simp[Bx.set,e,ho]⟩;exact⟨_,by simp[Bx.set];rfl⟩;rcases I i o h with ⟨e1,e2⟩|⟨e,h0⟩
 rcases I J U h' with ⟨z,e4⟩|⟨q,W⟩
 exact absurd (e1.trans z.symm) Wf;rw[E J q]at Q ⊢;rw[e1,B];exact λe=>M J U W Q e.symm
 rcases I J U h' with ⟨z,e4⟩|⟨q,W⟩
 rw[E i e]at G ⊢;rw[z,B];exact M i o h0 G;rw[E i e]at G ⊢;rw[E J q]at Q ⊢;exact g.inj i J o U h0 W Wf G Q;rcases I i o h with ⟨rfl,rfl⟩|⟨e,h⟩
 rw[B];have:=hx.2;rw[B]at this;exact hS j this;rw[E i e];exact g.EA i o j h (Ex.loc (E i e) hx);rcases I i o h with ⟨rfl,rfl⟩|⟨e,h⟩
 rw[B];exact hF;rw[E i e]at G ⊢;exact g.own i o h G
section
variable {P:Program} {K:Exit->St->Prop} {ops:List Oper} {s:St}
theorem SW.pI {f:FuncId}{args Bd:List V}{m:Nat}{R R':Obj->Prop}{row:List C}{len es:Nat}(KW:Sv P f Bd m R R' ty row len es)(A5:Fp P f=true)(hg:BQ ops s.t o.guard=some true)(E:C7 (ev s.t) o.op=some (f,args))(hp:V.CF args=some Bd)(hk:s.h[k]?=some (.mp (Ci m R)))(h:SW P ops K r (St.step ⟨s.t,Bk s.h (some (k,.mp (Ci m R')))⟩ o.dst (.own s.h.length 0 len es) (some (s.h.length,.box ty (row.map V.c) false)))):SW P ops K (o::r) s:=λS0 w0 x a w Q=>by
 have hw:FB o (yielded ops.toArray a.tmps)=true:=by
  have:=KR (o:=o) Q.tm (IF (ops:=ops) (K1:=True) (K2:=False) hg trivial);exact Kn λh=>this.2 h
 have g:=Q.good;have q : ∀y∈o.op.operands.toList,CV x w (ev s.t y) (a.eval y):=λy _=>CW Q.tm y
 unfold wpList;rw[if_pos hw];refine .inl ?_;unfold C7 at E;split at E
 case h_2=>cases E
 rename_i fo J Fk ho;split at E
 case h_2=>cases E
 rename_i f' M FG;simp only[BL,Cr]at E;obtain⟨rfl,rfl⟩:=E;have G:=Pp (q fo (by simp[ho,Bl,Df]));rw[FG]at G;simp only[CV]at G;obtain⟨Dl,G,EP⟩:=G;have Hw:AO x w (J.toList.map (ev s.t)++M) (J.toList.map a.eval++Dl.toList):=(AO.of_map λy hy=>q y (by simp[ho,Bl,Df];exact .inr (by simpa using hy))).append EP;obtain⟨fn,hf,hb,F6⟩:=P7 A5;have CT:fn.body≠none:=by intro e;rw[e]at hb;cases hb
 have F6:fn.name≠ "runtime.NumGoroutine":=by simpa using F6
 have z:(execOp a.eval o).run P w=.ok (.enter f' (J.toList.map a.eval++Dl.toList).toArray) w:=by
  have e1:(J.map a.eval++Dl)=(J.toList.map a.eval++Dl.toList).toArray:=by apply Gx.1;simp
  simp[execOp,ho,resolve,G,M5,invoke,callFunc,program,HW,hf,F6,CT,e1]
 obtain⟨F,b1,b2,ob,b3,b4,hm,b5⟩:=g.ok k _ hk;subst hm;unfold Er;rw[z];refine(KW x.S w _ ob g.ex b3 b4 b5 (MC _ _ _ hp Hw)).mono ?_;rintro r' w' ⟨I,Cw,b,cap,vs,B,CZ,Gc,h1,h2,h3,rfl,c1,c2,c3,c4,c5,c6,c7⟩;have W:=(DO.1 b3).1;have he:Ext x { x with S:=I } w w':=⟨CZ,λ_ h=>h,λ_ _=>FM.refl _⟩
 have g':=g.H5 (x':={ x with S:=I }) k (.mp (Ci (x.loc k).b R')) he (B.wide λb e=>⟨F,b2,e.symm⟩) (λi=>⟨.inl,λh=>h.elim id λe=>e ▸ F⟩) (λ_ _=>rfl) (λ_=>.inl ⟨F,b2,rfl⟩)
  ⟨b1,b2,Cw,h1,h2,rfl,h3⟩ (λb j hs=>(Gc b j hs).imp id λh=>h.elim (λh=>⟨h.2,.inl h.1,λe=>by have:(x.loc k).b=b:=e;omega⟩) (λh=>⟨by rw[h];exact H7 W B.size,.inr ⟨F,b2,h.symm⟩,λ_ hx=>hx.elim⟩)) (λj hx=>hx.elim)
 have CB:NC w w':=⟨B.size,λb A1 D7 II=>(B.block b (DO.1 D7).1 λe=>by subst e;rw[b3]at D7;cases D7;rw[b4]at II;cases II).trans D7⟩
 have Ce:k<s.h.length:=(Br.1 hk).1;have TV : ¬x.dom s.h.length:=λF=>by
  obtain⟨ob,h⟩:=g.dom _ F;simp at h
 obtain⟨g2,TO⟩:=g'.join s.h.length b TV ty (row.map V.c) vs c4 (AO.OS c5) (g.fresh c6) c7 (λk' o' h hv=>by
  have hb:(x.loc k').b<w.heap.size:=by
   by_cases e:k'=k;subst e;exact W;simp only[Bx.set,e,if_false]at h;exact((g.ok k' o' h).2).lt hv
  have e:({ x with S:=I }:Cx).loc k'=x.loc k':=rfl;rw[e];omega)
 have e:=Kj s.h (some (k,O.mp (Ci (x.loc k).b R'))) (λk' o' e=>by cases e;exact LZ Ce);have U:(Bk s.h (some (k,O.mp (Ci (x.loc k).b R')))).length=s.h.length:=by
  simp only[Bk,if_pos Ce,GF]
 have e2:=Kj (Bk s.h (some (k,O.mp (Ci (x.loc k).b R')))) (some (s.h.length,O.box ty (row.map V.c) false)) (λk' o' e=>by cases e;rw[U];exact BN _);have A0:Good S0 w0 (({ x with S:=I }:Cx).C4 s.h.length ⟨b,vs.size,false,0,false⟩) w' (λi=>(Bk (Bk s.h (some (k,O.mp (Ci (x.loc k).b R')))) (some (s.h.length,O.box ty (row.map V.c) false)))[i]?):=by
  rw[e2];have e3:(λi=>(Bk s.h (some (k,O.mp (Ci (x.loc k).b R'))))[i]?)=Bx.set (λi=>s.h[i]?) k (.mp (Ci (x.loc k).b R')):=e;rw[e3];exact g2
 have Ec:Bo S0 w0 (({ x with S:=I }:Cx).C4 s.h.length ⟨b,vs.size,false,0,false⟩) ⟨s.t,Bk (Bk s.h (some (k,O.mp (Ci (x.loc k).b R')))) (some (s.h.length,O.box ty (row.map V.c) false))⟩ a w':=⟨A0,AO.mono (he.trans TO) _ _ Q.tm,Q.df.mono CB⟩
 exact h S0 w0 _ _ w' (Bo.put Ec.tm Ec.df (Ext.refl _ _) Ec.good (v:=.own s.h.length 0 len es) (by
  simp only[CV,Cx.C4,if_true];exact⟨.inr trivial,trivial,cap,rfl,c1,c2,by omega⟩) o.dst)
end
theorem AGf {y:ByteArray} : ∀ {l:List ByteArray},y∈l->KX y l=true
 | z::l,h=>by
   simp only[KX];split;rfl;rename_i B;rcases Cf.1 h with rfl|h
   exact absurd rfl B;exact AGf h
theorem AAu (F:x.Ok)(s:Aa){t:ByteArray}(Q:Ck t=true):KH x.f t (x.Mw s t)=true/\Ck (x.Mw s t).Ln=true/\(x.Mw s t).Jo=0:=by
 unfold KH Af.Mw;cases E:x.f.I8 t with
 | none=>simp[Q]
 | some st =>
   have J:=(Se E).1;have R:=(QG F.val J).AKw;have h:=Z9 F.val st J;simp only[Oh,Ak]at h;have B:(if s.By=0/\2<=st.sizes.length then 1 else 0)<st.sizes.length:=by split<;>omega
   obtain⟨i,G⟩:=AI ((if s.By=0/\2<=st.sizes.length then 1 else 0));rw[G]at B;have M:st.sizes.getD i ⟨#[]⟩=st.sizes[i]:=by simp[mS,B]
   have I:st.sizes[i]∈st.sizes:=Kq B;simp only[G,M];refine⟨?_,ABq F.val _ _ h.2.1 _ I,trivial⟩;simp only[if_true];exact AGf I
theorem AVX (B:x.Ok)(hs:s.ok=true){t:ByteArray}(I:Ck t=true):K5 x.f t (x.Mw s t) (x.sz s)=(x.gl s (x.Mw s t).Ln,0):=by
 obtain⟨M,Q⟩:=HE B.val hs;obtain⟨E,J,F⟩:=AAu B s I;have G:JF x.f (x.sz s)=0:=by unfold JF Af.sz;rw[if_neg (by simp[B.val]),if_neg (by omega)]
 unfold K5;rw[if_neg (by simp[G]),if_neg (by simp[E]),if_pos F];rfl
theorem AOI (hb:Xt b)(I : -200000<=b.h/\b.h<=200000)(J : -200000<=b.d/\b.d<=200000)(M : -1000000<=a/\a<=1000000):∃c,KS b a=(c,0)/\Xt c/\c.cnt=b.cnt:=by
 have Q:=J6 (b.h - b.d);have G : -200001<=Bm (b.h - b.d)/\Bm (b.h - b.d)<=200001:=by
  unfold Bm Ea;repeat' split
  all_goals omega
 have E:An a=true:=Mp (by omega) (by omega);have F:An (b.h - b.d)=true:=Mp (by omega) (by omega);have B:An (a - Bm (b.h - b.d))=true:=Mp (by omega) (by omega);refine⟨b.AS b.x (a - Bm (b.h - b.d)),?_,⟨?_,F4 _ _ hb.o,hb.w⟩,Hb _ _ _⟩;unfold KS;rw[if_neg (by simp[hb.v]),if_neg (by simp[E,F]),if_neg (by simp[B])];rw[AEE hb.v];exact B
theorem APq (B:x.Ok)(hs:s.ok=true)(name:ByteArray):(-200000<=(x.gl s name).h/\(x.gl s name).h<=200000)/\(-200000<=(x.gl s name).d/\(x.gl s name).d<=200000):=by
 obtain⟨E,F⟩:=HE B.val hs;have G:=Zv B.val E F name;have e:x.gl s name=(DB x.f name (BS x.f.params s)).1:=rfl;rw[e,(Pk B.val E F name).1];simp only[N7];omega
theorem AY3 (x:Af)(m:Nat)(t:ByteArray)(s:Aa)(Q:x.Ok)(hs:s.ok=true)(hn:Ck t=true):AQ AF 251 [Bb x m,.c (.str t),Aj s] m (BM x.f) (BM x.f) (BP (x.VI s t)):=by
 obtain⟨h1,h2,h3⟩:=AAu Q s hn;have hz:=tE x m hs;have hl:=kW hs;have k0:0<=s.By:=by omega
 have k1:s.By<4:=by omega
 have I:=T7 x.f t Q.fit Q.val;have S:=AaE tU x.f t (x.Mw s t) (x.sz s) Q.fit;rw[AVX Q hs hn]at S;have R:=tC x m x.f.params.FD s hs;obtain⟨g1,g2⟩:=qA Q hs h2;obtain⟨d1,d2⟩:=APq Q hs (x.Mw s t).Ln;obtain⟨p1,p2⟩:=HE Q.val hs;have ab:0<=AU x.f.params.FD (x.sz s)/\AU x.f.params.FD (x.sz s)<=20001:=AEI Q.val p1 p2;obtain⟨c,e1,e2,e3⟩:=AOI g1 d1 d2 (a:=AU x.f.params.FD (x.sz s)) (by omega);have J:=AJT (x.gl s (x.Mw s t).Ln) (AU x.f.params.FD (x.sz s)) g1.o (by omega);rw[e1]at J;have hR:x.VI s t=Bj (F9 [c] [0]):=by unfold Af.VI;rw[e1];rfl
 have F:=kx [c] [0] ⟨e2.o,trivial⟩ (by simp only[AA.Az];omega) (by simp) (by simp);have Tb:=sm (AE:=[c]) (sp:=[0]) (by simp[e2.v]) rfl (by decide);rw[<-hR]at Tb;rw[Tb]at F;have W:=Jl (x.gl s (x.Mw s t).Ln);have z:=Jl c;obtain⟨G,hG⟩:=AI (x.gl s (x.Mw s t).Ln);rw[hG]at S J W;generalize ho:x.VI s t=o at F ⊢;have U:(x.Mw s t)=⟨(x.Mw s t).Ln,0⟩:=by rw[<-h3]
 obtain⟨gn,Ro⟩:=AI ((x.Mw s t).Ln);rw[Ro]at U;rw[U]at S;have E:gn=match x.f.I8 t with
  | none=>t
  | some st=>st.sizes.getD (if s.By=0/\2<=st.sizes.length then 1 else 0) ⟨#[]⟩:=by
  rw[<-Ro];unfold Af.Mw;cases x.f.I8 t<;>rfl
 clear U Ro h1 h2 h3 hG hR Tb e1 g1 g2 d1 d2;simp only[N4,Ba,AR,As,AA.AG,AV,Ap,BB]at S J F W z;unfold Bb Aj at *
 cases VB:x.f.I8 t with
 | none =>
   rw[VB]at I E;simp only at E;subst E;simp only[NK,IU,Bc.row,Bc.zero,Hr,H8,Ap,BB]at I;refine CH uj u7 ?_;have B:=(cj3 @hz @k0 @k1 RI)
   repeat any_goals (first|refine lT (.mk 10) ?_|exact ZX B|refine Zs B ?_|refine F5 B (I) ?_|refine F5 B (S) ?_|refine F5 B (W) ?_|refine F5 B (R) ?_|refine F5 B (J) ?_|refine F5 B (z) ?_|refine DI B ?_|((first|refine X9 B ?_ ?_|refine bQ B ?_ ?_|refine bO B ?_ ?_|refine bP B ?_ ?_)<;>intro h<;>try (exfalso;first|omega|contradiction)))
   cases o with
   | some b=>have GO:=Jl b;simp only[Dm,IZ,if_true,AR,As]at F GO;simp only[BP,As];exact qz RI (cj2 F GO trivial)
   | none=>have GO:=LG AA.zero m (BM x.f);simp only[Hr,H8,GW,if_false,AR,As]at F GO;simp only[BP];exact qz RI (cj2 F GO trivial)
 | some st =>
   have A0:=(Se VB).1;have z1:=(QG Q.val A0).AKw;rw[VB]at I E;simp only at E;simp only[NK,IU,Bc.row,Dm,IZ,Ap,BB]at I;have A1:Gv st.sizes=.sl (st.sizes.map λn=>[.str n]):=rfl;obtain⟨q,Aw⟩:=AI ((st.sizes.map λn=>[C.str n]));have Av:q.length=st.sizes.length:=by rw[<-Aw,Ch]
   rw[A1,Aw]at I;have Jh:0<q.length:=by omega
   have Ir : ∀i (h:i<st.sizes.length),q[i]?=some [.str (st.sizes.getD i ⟨#[]⟩)]:=by
    intro i h;rw[<-Aw];simp[mS,h]
   by_cases c1:s.By=0
   . have pC:=iff_true_intro c1;by_cases c2:2<=st.sizes.length
     . rw[if_pos ⟨c1,c2⟩]at E;have M:=Ir 1 (by omega);rw[<-E]at M;have jo:=gx M;have c3:1<q.length:=by omega
       have c4:(2:Int)<=(q.length:Int):=by omega
       refine CH uj u7 ?_;have B:=(cj8 @hz @k0 @k1 @pC @c3 @c4 @M @jo RI)
       repeat any_goals (first|refine lT (.mk 10) ?_|exact ZX B|refine Zs B ?_|refine F5 B (I) ?_|refine F5 B (S) ?_|refine F5 B (W) ?_|refine F5 B (R) ?_|refine F5 B (J) ?_|refine F5 B (z) ?_|refine DI B ?_|((first|refine X9 B ?_ ?_|refine bQ B ?_ ?_|refine bO B ?_ ?_|refine bP B ?_ ?_)<;>intro h<;>try (exfalso;first|omega|contradiction)))
       cases o with
       | some b=>have GO:=Jl b;simp only[Dm,IZ,if_true,AR,As]at F GO;simp only[BP,As];exact qz RI (cj2 F GO trivial)
       | none=>have GO:=LG AA.zero m (BM x.f);simp only[Hr,H8,GW,if_false,AR,As]at F GO;simp only[BP];exact qz RI (cj2 F GO trivial)
     . rw[if_neg (λh=>c2 h.2)]at E;have M:=Ir 0 (by omega);rw[<-E]at M;have jo:=gx M;have c4 : ¬(2:Int)<=(q.length:Int):=by omega
       refine CH uj u7 ?_;have B:=(cj8 @hz @k0 @k1 @pC @Jh @c4 @M @jo RI)
       repeat any_goals (first|refine lT (.mk 10) ?_|exact ZX B|refine Zs B ?_|refine F5 B (I) ?_|refine F5 B (S) ?_|refine F5 B (W) ?_|refine F5 B (R) ?_|refine F5 B (J) ?_|refine F5 B (z) ?_|refine DI B ?_|((first|refine X9 B ?_ ?_|refine bQ B ?_ ?_|refine bO B ?_ ?_|refine bP B ?_ ?_)<;>intro h<;>try (exfalso;first|omega|contradiction)))
       cases o with
       | some b=>have GO:=Jl b;simp only[Dm,IZ,if_true,AR,As]at F GO;simp only[BP,As];exact qz RI (cj2 F GO trivial)
       | none=>have GO:=LG AA.zero m (BM x.f);simp only[Hr,H8,GW,if_false,AR,As]at F GO;simp only[BP];exact qz RI (cj2 F GO trivial)
   . have pC:=c1;rw[if_neg (λh=>c1 h.1)]at E;have M:=Ir 0 (by omega);rw[<-E]at M;have jo:=gx M;refine CH uj u7 ?_;have B:=(cj7 @hz @k0 @k1 @pC @Jh @M @jo RI)
     repeat any_goals (first|refine lT (.mk 10) ?_|exact ZX B|refine Zs B ?_|refine F5 B (I) ?_|refine F5 B (S) ?_|refine F5 B (W) ?_|refine F5 B (R) ?_|refine F5 B (J) ?_|refine F5 B (z) ?_|refine DI B ?_|((first|refine X9 B ?_ ?_|refine bQ B ?_ ?_|refine bO B ?_ ?_|refine bP B ?_ ?_)<;>intro h<;>try (exfalso;first|omega|contradiction)))
     cases o with
     | some b=>have GO:=Jl b;simp only[Dm,IZ,if_true,AR,As]at F GO;simp only[BP,As];exact qz RI (cj2 F GO trivial)
     | none=>have GO:=LG AA.zero m (BM x.f);simp only[Hr,H8,GW,if_false,AR,As]at F GO;simp only[BP];exact qz RI (cj2 F GO trivial)
mutual
theorem AI6 : ∀b:AA,b.D8=true->b.BX
 | ⟨k,n,s,w,h,d,x,y,AE,o,src⟩,I=>by
   simp only[AA.D8,Ak]at I;obtain⟨F,J⟩:=I;have M:(1000:Nat)<=maxLen:=by decide
   simp only[AA.Cl,Ak]at F;obtain⟨_,B,G⟩:=F;refine⟨?_,?_,Ze AE J⟩;simp only[AA.Fi]at B;split at B;simp only[Ck,Ak,decide_eq_true_eq]at B;omega;split at B;simp only[Ak,decide_eq_true_eq]at B;rw[B.1];exact CI _;split at B;simp only[Ak,decide_eq_true_eq]at B;rw[B.1];exact CI _;cases B;simp only[AA.Js,Ak,I7]at G;have E:=G.2;split at E;simp only[decide_eq_true_eq]at E;omega;split at E;simp only[Ak,decide_eq_true_eq]at E;omega;split at E;simp only[Ak,decide_eq_true_eq]at E;omega;cases E
theorem Ze : ∀l:List AA,AA.FU l=true->AA.FY l
 | [],_=>trivial
 | b::l,h=>by
   simp only[AA.FU,Ak]at h;exact⟨AI6 b h.1,Ze l h.2⟩
end
theorem kj (h:b.Ad=true):b.BX:=by
 simp only[AA.Ad,Ak]at h;exact AI6 b h.1
theorem ik (h:b.Ad=true):b.cnt<=20000:=by
 simp only[AA.Ad,Ak,decide_eq_true_eq]at h;exact h.2.1
theorem AVT {l:List AA}(h : ∀b∈l,b.Ad=true):AA.FY l/\l.all AA.Ad=true:=by
 induction l with
 | nil=>exact⟨trivial,rfl⟩
 | cons b l ih =>
   obtain⟨E,F⟩:=ih λc G=>h c (Gk _ G)
   have B:=h b GH;exact⟨⟨kj B,E⟩,by simp[B,F]⟩
theorem AAe (h:b.Ad=true){o:Int}(M:HT src=true)(Q:I7 o src.length=true):(b.mark o src).Ad=true/\(b.mark o src).cnt=b.cnt:=by
 obtain⟨k,n,s,w,B,d,x,y,AE,G,F⟩:=b;refine⟨?_,rfl⟩;have I:(AA.mark ⟨k,n,s,w,B,d,x,y,AE,G,F⟩ o src).cnt=(⟨k,n,s,w,B,d,x,y,AE,G,F⟩:AA).cnt:=rfl;have J:(AA.mark ⟨k,n,s,w,B,d,x,y,AE,G,F⟩ o src).nest=(⟨k,n,s,w,B,d,x,y,AE,G,F⟩:AA).nest:=rfl;unfold AA.Ad at h ⊢;rw[I,J];rw[Ak]at h ⊢;refine⟨?_,h.2⟩;have E:=h.1;simp only[AA.D8,AA.Cl,AA.mark,AA.lens,AA.Fi,AA.Js,Ak]at E ⊢;exact⟨⟨E.1.1,E.1.2.1,M,Q⟩,E.2⟩
theorem OT {b c:AA}(h:Bj (C8 b)=some c):c=b/\c.Ad=true:=by
 unfold C8 at h;by_cases B:b.Ad=true;rw[if_pos B]at h;simp only[Bj,if_true,BL]at h;exact⟨h.symm,h ▸ B⟩;rw[if_neg B]at h;simp[Bj]at h
theorem kh {c:AA}(h:Bj (F9 AE sp)=some c):c.Ad=true:=by
 unfold F9 at h;split at h;simp[Bj]at h;split at h;simp[Bj]at h;unfold Tk at h;split at h;simp[Bj]at h;rename_i B;simp only[Bj,if_true,BL]at h;subst h;simpa using B
theorem AIr {r:AA×Int}(h:r.2=0\/r=(AA.zero,6)):r=((Bj r).getD AA.zero,if (Bj r).isSome=true then 0 else 6):=by
 obtain⟨b,e⟩:=r;rcases h with h|h
 simp only at h;subst h;simp[Bj];cases h;simp[Bj]
theorem Uh (b:AA):C8 b=((Bj (C8 b)).getD AA.zero,if (Bj (C8 b)).isSome=true then 0 else 6):=by
 apply AIr;unfold C8;split;exact .inl rfl;exact .inr rfl
section
variable (x:Af) (s:Aa) (src:List Int)
def M2 (k:Int)(i:Nat)(n:Nd):Option AA:=GU x (GB k i s) (src++[(i:Int)]) n
def Oe (k:Int):Nat->List Nd->List AA
 | _,[]=>[]
 | i,n::l=>(M2 x s src k i n).getD AA.zero::Oe k (i+1) l
theorem tB (k:Int):∀(i:Nat) (l:List Nd),(Oe x s src k i l).length=l.length
 | _,[]=>rfl
 | i,n::l=>by simp only[Oe,BA,tB k (i+1) l]
theorem AK1 (k:Int):∀(i:Nat) (l:List Nd) (j:Nat) (n:Nd),l[j]?=some n->(Oe x s src k i l)[j]?=some ((M2 x s src k (i+j) n).getD AA.zero)
 | _,[],j,n,h=>by simp at h
 | i,a::l,0,n,h=>by simp only[LX,BL]at h;subst h;rfl
 | i,a::l,j+1,n,h=>by
   simp only[JU]at h;simp only[Oe,JU];rw[AK1 k (i+1) l j n h,show i+1+j=i+(j+1)by omega]
theorem AK2 (k:Int):∀(i:Nat) (l:List Nd),(∀j n,l[j]?=some n->M2 x s src k (i+j) n≠none)->Kh x s src k i l=some (Oe x s src k i l)
 | _,[],_=>by simp only[Kh,Oe]
 | i,n::l,h=>by
   have B:=h 0 n rfl;rw[M8]at B;have G:=AK2 k (i+1) l λj m F=>by have:=h (j+1) m (by simpa using F);rwa [show i+(j+1)=i+1+j by omega]at this
   unfold M2 at B;simp only[Kh,Oe,G,M2];cases E:GU x (GB k i s) (src++[(i:Int)]) n with
   | none=>exact absurd E B
   | some b=>rfl
theorem AK3 (k:Int):∀(i:Nat) (l:List Nd) (j:Nat) (n:Nd),l[j]?=some n->M2 x s src k (i+j) n=none->Kh x s src k i l=none
 | _,[],j,n,h,_=>by simp at h
 | i,a::l,0,n,h,B=>by
   simp only[LX,BL]at h;subst h;unfold M2 at B;rw[M8]at B;simp only[Kh,B]
 | i,a::l,j+1,n,h,B=>by
   simp only[JU]at h;have E:=AK3 k (i+1) l j n h (by rwa [show i+1+j=i+(j+1)by omega]);simp only[Kh,E];cases GU x (GB k i s) (src++[(i:Int)]) a<;>rfl
def NZ (i:Nat)(n:Nd):Option AA:=Fw x s (src++[(i:Int)]) n
def QY:Nat->List Nd->List AA
 | _,[]=>[]
 | i,n::l=>(NZ x s src i n).getD AA.zero::QY (i+1) l
theorem AAK : ∀(i:Nat) (l:List Nd),(QY x s src i l).length=l.length
 | _,[]=>rfl
 | i,n::l=>by simp only[QY,BA,AAK (i+1) l]
theorem AH2 : ∀(i:Nat) (l:List Nd) (j:Nat) (n:Nd),l[j]?=some n->(QY x s src i l)[j]?=some ((NZ x s src (i+j) n).getD AA.zero)
 | _,[],j,n,h=>by simp at h
 | i,a::l,0,n,h=>by simp only[LX,BL]at h;subst h;rfl
 | i,a::l,j+1,n,h=>by
   simp only[JU]at h;simp only[QY,JU];rw[AH2 (i+1) l j n h,show i+1+j=i+(j+1)by omega]
theorem AH4 : ∀(i:Nat) (l:List Nd),(∀j n,l[j]?=some n->NZ x s src (i+j) n≠none)->Kb x s src i l=some (QY x s src i l)
 | _,[],_=>by simp only[Kb,QY]
 | i,n::l,h=>by
   have B:=h 0 n rfl;rw[M8]at B;have G:=AH4 (i+1) l λj m F=>by have:=h (j+1) m (by simpa using F);rwa [show i+(j+1)=i+1+j by omega]at this
   unfold NZ at B;simp only[Kb,QY,G,NZ];cases E:Fw x s (src++[(i:Int)]) n with
   | none=>exact absurd E B
   | some b=>rfl
theorem AH5 : ∀(i:Nat) (l:List Nd) (j:Nat) (n:Nd),l[j]?=some n->NZ x s src (i+j) n=none->Kb x s src i l=none
 | _,[],j,n,h,_=>by simp at h
 | i,a::l,0,n,h,B=>by
   simp only[LX,BL]at h;subst h;unfold NZ at B;rw[M8]at B;simp only[Kb,B]
 | i,a::l,j+1,n,h,B=>by
   simp only[JU]at h;have E:=AH5 (i+1) l j n h (by rwa [show i+1+j=i+(j+1)by omega]);simp only[Kb,E];cases Fw x s (src++[(i:Int)]) a<;>rfl
end
theorem AOM {c:Int}(h:bT c=true):33<=c/\c<=126:=by
 unfold bT Nc Lq lP at h;simp at h;omega
theorem ALQ {t:ByteArray}(h:Z1 t=true):Ck t=true/\t.data.toList.all Dx=true/\∀c,t=⟨#[c]⟩->c≠32:=by
 unfold Z1 at h;have key : ∀p:Int->Bool,(∀c,p c=true->33<=c/\c<=126)->FC p t=true->t.data.toList.all Dx=true/\∀c,t=⟨#[c]⟩->c≠32:=by
  intro p G E;rw[FC,ES]at E;refine⟨?_,?_⟩;rw[ES];intro b J;have:=G _ (E b J);simp only[Dx,Ak,decide_eq_true_eq];omega;rintro c rfl rfl;have:=G _ (E 32 (by simp));simp at this
 split at h;rename_i I;obtain⟨B,F⟩:=key bT (λc=>AOM) h;exact⟨by simp[Ck,B,I],B,F⟩;simp only[Ak,decide_eq_true_eq]at h;obtain⟨B,F⟩:=key Nc (λc M=>by simp[Nc]at M;omega) h.1;exact⟨by simp[Ck,B];omega,B,F⟩
theorem AVU {t:ByteArray}(h:t.size=1):∃c,t=⟨#[c]⟩:=by
 obtain⟨⟨l⟩⟩:=t;match l,h with
 | [c],_=>exact⟨c,rfl⟩
theorem AZP (x:Af)(m:Nat)(n:Nd)(src:List Int)(s:Aa)(R:x.Ok)(hs:s.ok=true)(hn:Z1 n.text=true):AQ AF 186 [Bb x m,Am n,.c (AV src),Aj s] m (BM x.f) (BM x.f) (BP (x.sym s n.text)):=by
 obtain⟨k,t,c,AE⟩:=n;simp only at hn;obtain⟨n1,n2,n3⟩:=ALQ hn;have hd:x.d.length<=1000000:=by have:=R.dl;omega
 have J:=AA8 x.d t hd;have A0:t.size<=1000:=by simp only[Ck,Ak,decide_eq_true_eq]at n1;omega
 obtain⟨rs,Aw⟩:=AI (Nd.AG AE);simp only[Am,Nd.vs,Nd.row,Ap,BB,Aw];unfold Af.sym;unfold WH at J;by_cases Q:(He x.d t).cls=1/\(He x.d t).str=true;rw[if_pos Q];obtain⟨Q,E⟩:=Q;have G:=AY3 x m t s R hs n1;cases z:x.VI s t with
 | some b =>
   rw[z]at G;simp only[BP,As]at G ⊢;unfold Bb Aj at *
   refine CH UH UL ?_;exact qz (cj2 @Q @E UN) (cj2 J G trivial)
 | none =>
   rw[z]at G;simp only[BP,As]at G ⊢;unfold Bb Aj at *
   refine CH UH UL ?_;exact qz (cj2 @Q @E UN) (cj2 J G trivial)
 rw[if_neg Q];have U:((He x.d t).cls=1->(He x.d t).str=false):=λh=>by
  by_cases h2:(He x.d t).str=true;exact absurd ⟨h,h2⟩ Q;simpa using h2
 by_cases E:t.size=1;rw[if_pos (.inl E)];obtain⟨ch,rfl⟩:=AVU E;have B:=AKh x m ch s R hs;have e:x.RW s ch=x.gl s ⟨#[ch]⟩:=if_neg (n3 ch rfl);rw[e]at B;simp only[BP,As]at B ⊢;unfold Bb Aj at *
 by_cases M:(He x.d ⟨#[ch]⟩).cls=1;have F:=U M;refine CH UH UL ?_;exact qz (cj3 @M @F @E UN) (cj2 J B trivial);refine CH UH UL ?_;exact qz (cj2 @M @E UN) (cj2 J B trivial);have I:=xX x.f t R.fit.1;by_cases M:(x.f.find t).isSome=true;rw[if_pos (.inr M)];have W:=AKp x m t s R hs;unfold YK at I;obtain⟨g,q⟩:=AI ((x.f.find t).getD BG.zero);rw[M,q]at I;simp only[BG.row,Ap,BB]at I;simp only[BP,As]at W ⊢;unfold Bb Aj at *
 by_cases F:(He x.d t).cls=1;have S:=U F;refine CH UH UL ?_;exact qz (cj3 @F @S @E UN) (cj3 J I W trivial);refine CH UH UL ?_;exact qz (cj2 @F @E UN) (cj3 J I W trivial);rw[if_neg (by simp[E,M])];have B:=AKi x m t s R hs n2 A0;unfold YK at I;obtain⟨g,q⟩:=AI ((x.f.find t).getD BG.zero);rw[show (x.f.find t).isSome=false by simpa using M,q]at I;simp only[BG.row,Ap,BB]at I;generalize z:x.txt s t=o at B ⊢;cases o with
 | some b =>
   simp only[BP,As]at B ⊢;unfold Bb Aj at *
   by_cases F:(He x.d t).cls=1;have S:=U F;refine CH UH UL ?_;exact qz (cj3 @F @S @E UN) (cj3 J I B trivial);refine CH UH UL ?_;exact qz (cj2 @F @E UN) (cj3 J I B trivial)
 | none =>
   simp only[BP,As]at B ⊢;unfold Bb Aj at *
   by_cases F:(He x.d t).cls=1;have S:=U F;refine CH UH UL ?_;exact qz (cj3 @F @S @E UN) (cj3 J I B trivial);refine CH UH UL ?_;exact qz (cj2 @F @E UN) (cj3 J I B trivial)
theorem ALK (x:Af)(m:Nat)(n:Nd)(src:List Int)(s:Aa)(I:x.Ok)(hs:s.ok=true)(G:n.text.data.toList.all Dx=true)(F:n.text.size<=1000):AQ AF 187 [Bb x m,Am n,.c (AV src),Aj s] m (BM x.f) (BM x.f) (BP (x.txt s n.text)):=by
 obtain⟨k,t,c,AE⟩:=n;have B:=AKi x m t s I hs G F;obtain⟨M,E⟩:=AI (Nd.AG AE);simp only[Am,Nd.vs,Nd.row,Ap,BB,E];generalize J:x.txt s t=o at B ⊢;cases o with
 | some b =>
   simp only[BP,As]at B ⊢;unfold Bb Aj at *
   refine CH func187 ntmps187 ?_;exact qz results187 (cj B<|trivial)
 | none =>
   simp only[BP,As]at B ⊢;unfold Bb Aj at *
   refine CH func187 ntmps187 ?_;exact qz results187 (cj B<|trivial)
theorem ABs {k:Int}{i:Int}(hs:s.ok=true):(GB k i s).ok=true:=by
 have h:=hs;simp only[Aa.ok,Ak,decide_eq_true_eq]at h;unfold GB VU;repeat' split
 all_goals first
  | exact hs
  | (simp only[Aa.ok,Ak,decide_eq_true_eq];omega)
theorem AK0 {k:Int}{i n:Nat}{c:Int}(hs:s.ok=true)(B:FL k c n=true)(E:k≠1)(F:i<n):XW k i s=(GB k i s,0):=by
 have key:H2 k≠0/\((n:Int)<=H2 k):=by
  unfold FL at B;unfold H2;repeat' split at B
  all_goals first
   | (cases B;done)
   | skip
  all_goals simp only[Ak,decide_eq_true_eq]at B
  all_goals (repeat' split)
  all_goals omega
 unfold XW;rw[if_neg (by simp[hs,key.1]),if_neg (by omega)]
structure Src (src:List Int)(p:Nat)(d:Nat):Prop where
 pos:HT src=true
 par:src.length % 2=p
 len:src.length+d<=49
theorem Src.add {p d e:Nat}(h:Src src p (d+1))(i:Nat)(B:e<=d):Src (src++[(i:Int)]) ((p+1) % 2) e:=by
 refine⟨?_,?_,?_⟩;have:=h.pos;unfold HT at this ⊢;rw[ACn,this];simp;rw[Cp,uP];have:=h.par;omega;rw[Cp,uP];have:=h.len;omega
theorem AIX (h:b.Ad=true){d:Nat}(hs:Src src 0 (d+1)):(b.mark 1 src).Ad=true/\(b.mark 1 src).cnt=b.cnt:=by
 refine AAe h hs.pos ?_;have B:=hs.par;have E:=hs.len;simp[I7];omega
theorem AUS (h:b.Ad=true){d:Nat}(hs:Src src 1 (d+1)):(b.mark 2 src).Ad=true/\(b.mark 2 src).cnt=b.cnt:=by
 refine AAe h hs.pos ?_;have B:=hs.par;have E:=hs.len;simp[I7];omega
theorem Aa2 (B:x.Ok)(hs:s.ok=true):An (AU x.f.params.Gj (x.sz s))=true:=by
 obtain⟨F,G⟩:=HE B.val hs;have:=B.val;simp only[AP.valid,Qk,Params.lens,Params.SK,DX,Ak,Ep,An,decide_eq_true_eq]at this;have E:=DM (p:=x.sz s) x.f.params.Gj (by unfold Af.sz;omega) (by unfold Af.sz;omega);simp[An];omega
theorem AXS (B:x.Ok)(hs:s.ok=true):An (AU (x.Al s) 50)=true:=by
 obtain⟨G,I⟩:=HE B.val hs;have:=B.val;simp only[AP.valid,Qk,Params.lens,Params.SK,DX,Ak,Ep,An,decide_eq_true_eq]at this;have E:=DM (p:=x.sz s) x.f.params.Al (by unfold Af.sz;omega) (by unfold Af.sz;omega);have F:=DM (p:=50) (x.Al s) (by omega) (by omega);have e:x.Al s=AU x.f.params.Al (x.sz s):=rfl;rw[<-e]at E;simp[An];omega
theorem AUI {w h:Int}(E:An w=true)(hh:An h=true):(Bf w h 0 []).Ad=true/\(Bf w h 0 []).cnt=1:=by
 refine⟨ic ?_ (by simp[Bf,AA.cnt,AA.Az]) (by simp[Bf,AA.nest,AA.Hk]),rfl⟩;have B:An 0=true:=by decide
 simp[AA.D8,AA.FU,AA.Cl,AA.lens,AA.Fi,AA.Js,Bf,E,hh,B,HT,I7]
theorem AKW (J:x.Ok)(hs:s.ok=true){n:Nd}(F:Src src 0 n.dep)(h:GU x s src n=some b):b.Ad=true/\b.cnt<=10000*n.cnt:=by
 obtain⟨k,t,c,AE⟩:=n;have Q:=Tm ⟨k,t,c,AE⟩;rw[ke]at F;unfold GU at h;split at h;rename_i G;simp only[BL]at h;have e:(Bf (if src=[]then 0 else AU (x.Al s) 50) (AU x.f.params.Gj (x.sz s)) 0 []).Ad=true/\(Bf (if src=[]then 0 else AU (x.Al s) 50) (AU x.f.params.Gj (x.sz s)) 0 []).cnt=1:=by
  refine AUI ?_ (Aa2 J hs);split;decide;exact AXS J hs
 obtain⟨B,E⟩:=AIX e.1 F;subst h;unfold Af.empty;exact⟨B,by rw[E,e.2];omega⟩;rename_i G;split at h;cases h;split at h;cases h;rename_i R M;simp only[BL]at h;subst h;have I:=kh M;obtain⟨B,E⟩:=AIX I F;refine⟨B,?_⟩;rw[E];have:=ik I;match AE,G with
 | a::l,_=>simp only[Nd.Az]at Q;have:=ry a;omega
theorem AIs {c:AA}(h:Bj (F9 AE sp)=some c):c.cnt=1+AA.Az AE:=by
 unfold F9 at h;split at h;simp[Bj]at h;split at h;simp[Bj]at h;rename_i B;unfold Tk at h;split at h;simp[Bj]at h;simp only[Bj,if_true,BL]at h;subst h;have e:sp.length=AE.length:=Kn λe=>B (.inl e)
 unfold Qf Bf;simp only[AA.cnt];rw[dz (VK 0 e)]
theorem ALf (F:x.Ok)(hs:s.ok=true){t:ByteArray}(E:t.data.toList.all Dx=true)(G:t.size<=1000)(h:x.txt s t=some b):b.Ad=true/\b.cnt<=10000:=by
 unfold Af.txt at h;refine⟨kh h,?_⟩;rw[AIs h];have:=wx (n:=1) λb B=>Nat.le_of_eq (AEr F hs E b B).2
 rw[AEq]at this;omega
theorem AFz (E:x.Ok)(hs:s.ok=true){t:ByteArray}(B:Ck t=true):(x.gl s t).Ad=true/\(x.gl s t).cnt=1:=⟨(qA E hs B).1.v,(qA E hs B).2⟩
theorem AOH {c:AA}(h:Bj (KS b a)=some c):c.cnt=b.cnt:=by
 unfold KS at h;repeat' split at h
 all_goals simp[Bj]at h
 subst h;exact Hb _ _ _
theorem AZf (B:x.Ok)(hs:s.ok=true){t:ByteArray}(M:Z1 t=true)(h:x.sym s t=some b):b.Ad=true/\b.cnt<=10000:=by
 obtain⟨F,Q,U⟩:=ALQ M;have E:t.size<=1000:=by simp only[Ck,Ak,decide_eq_true_eq]at F;omega
 unfold Af.sym at h;split at h;unfold Af.VI at h;obtain⟨R,I,S⟩:=AAu B s F;have G:=AFz B hs I;split at h;cases h;rename_i c J;refine⟨kh h,?_⟩;rw[AIs h];have:=AOH J;simp only[AA.Az];omega;split at h;cases h;have G:=AFz B hs F;exact⟨G.1,by omega⟩;exact ALf B hs Q E h
theorem AAl (n:Nat):∀(l:List UInt8) (k:Nat) (p q:Int),Mu n l k p=some q->l.all Dx=true
 | [],_,_,_,_=>rfl
 | b::l,k,p,q,h=>by
   rw[Ep];unfold Mu at h;split at h;rename_i B;have e:=AAl n l _ _ _ h;rw[e];have:(b.toNat:Int)=46:=B.1;simp[Dx];omega;split at h;rename_i E;have e:=AAl n l _ _ _ h;rw[e];simp[NJ]at E;simp[Dx];omega;cases h
theorem AIm {t:ByteArray}(h:dj t=true):t.data.toList.all Dx=true/\t.size<=1000:=by
 unfold dj at h;cases B:Mu t.size t.data.toList 0 0 with
 | none=>rw[B]at h;cases h
 | some q=>rw[B]at h;refine⟨AAl _ _ _ _ _ B,?_⟩;simp only[Ak,decide_eq_true_eq]at h;omega
theorem AJx {t:ByteArray}(h:(decide (t.size<=200) && FC Qm t)=true):t.data.toList.all Dx=true/\t.size<=1000:=by
 simp only[Ak,decide_eq_true_eq,FC,ES]at h;refine⟨?_,by omega⟩;rw[ES];intro b B;have:=h.2 b B;simp only[Qm,decide_eq_true_eq]at this;simp[Dx];omega
theorem AH0 (W:x.Ok)(hs:s.ok=true){n:Nd}(S:n.Cl=true)(h1:n.kind≠1)(U:Src src 1 n.dep)(h:Fw x s src n=some b):b.Ad=true/\b.cnt<=10000*n.cnt:=by
 obtain⟨k,t,c,AE⟩:=n;have R:=Tm ⟨k,t,c,AE⟩;rw[ke]at U;simp only at h1 R;simp only[Nd.Cl,Ak]at S;obtain⟨f1,f2⟩:=S;unfold Fw at h;split at h;cases h
 . rename_i L hL;split at h;cases h
   . rename_i E B;simp only[BL]at h;subst h;have key:E.Ad=true/\E.cnt<=10000*(1+Nd.Az AE):=by
      have J:AE≠[]->E.Ad=true->E.Ad=true/\E.cnt<=10000*(1+Nd.Az AE):=λhk I=>by
       refine⟨I,?_⟩;have:=ik I;match AE,hk with
       | a::l,_=>simp only[Nd.Az];have:=ry a;omega
      have G:E.Ad=true/\E.cnt<=10000->E.Ad=true/\E.cnt<=10000*(1+Nd.Az AE):=λI=>⟨I.1,by omega⟩
      unfold Ji at B;by_cases Q:k=2;rw[if_pos Q]at B;subst Q;exact G (AZf W hs f1 B)
      . rw[if_neg Q]at B;by_cases F:k=3\/k=4;rw[if_pos F]at B;have:t.data.toList.all Dx=true/\t.size<=1000:=by
         rcases F with F|F
         subst F;exact AIm f1;subst F;exact AJx f1
        exact G (ALf W hs this.1 this.2 B)
        . rw[if_neg F]at B;have M:AE≠[]:=by
           rintro rfl;unfold FL at f2;repeat' split at f2
           all_goals first
            | (cases f2;done)
            | skip
           all_goals simp at f2
           all_goals omega
          refine J M ?_;repeat' split at B
          all_goals first
           | exact(OT B).2
           | skip
          unfold O5 at B;repeat' split at B
          simp[Bj]at B;simp[Bj]at B;exact kh B;unfold N2 at B;repeat' split at B
          simp[Bj]at B;exact(OT B).2
     obtain⟨q,z⟩:=AUS key.1 U;exact⟨q,by rw[z,R];exact key.2⟩
theorem AZT {d:List Int}{c:Int}(E : ∀k∈d,0<=k/\k<=7)(F:0<=c/\c<=7):∀k∈Pm d c,0<=k/\k<=7:=by
 intro k B;unfold Pm at B;split at B;rcases MJ.1 B with h|h
 exact E k h;simp only[LY]at h;omega;split at B;rcases MJ.1 B with h|h
 rcases uU h with h|h
 exact E k h;omega;simp only[LY]at h;omega;rcases MJ.1 B with h|h
 exact E k h;simp only[LY]at h;omega
theorem AFh : ∀(own d:List Int),(∀k∈d,0<=k/\k<=7)->(∀k∈own,0<=k/\k<=7)->∀k∈own.foldl Pm d,0<=k/\k<=7
 | [],d,B,_=>B
 | c::r,d,B,E=>by
   rw[Bw];exact AFh r _ (AZT B (E c GH)) λk F=>E k (Gk _ F)
theorem AXx {own:List Int}(h : ∀k∈own,0<=k/\k<=7):∀k∈I6 own,0<=k/\k<=7:=by
 intro k B;have E:=AFh own [] (λk h=>by cases h) h;unfold I6 Uj K8 at B;split at B;rcases uU B with h|h
 exact E k h;omega;exact E k B
theorem xc : ∀(l pre:List En),WQ pre l=true->∀e∈l,e.ok=true
 | [],_,_,e,B=>by cases B
 | a::l,pre,h,e,B=>by
   simp only[WQ,Ak]at h;rcases Cf.1 B with rfl|B
   exact h.1;exact xc l _ h.2.2 e B
theorem APX {l:List En}(h : ∀e∈l,e.ok=true)(t:ByteArray):0<=(He l t).cls/\(He l t).cls<=7:=by
 induction l with
 | nil=>simp[He]
 | cons a l ih=>simp only[He];split;have:=h a GH;simp only[En.ok,Ak,decide_eq_true_eq]at this;omega;exact ih λe B=>h e (Gk _ B)
theorem AEt {l:List En}(h : ∀e∈l,e.ok=true):∀n:Nat,∀b:Nd,SizeOf.sizeOf b<n->0<=N5 l b/\N5 l b<=7
 | 0,_,B=>absurd B (Nat.not_lt_zero _)
 | n+1,b,B=>by
   rw[AEu];split;exact APX h _;split;obtain⟨k,t,c,AE⟩:=b;simp only;unfold bg;match AE,B with
   | [],_=>simp only;omega
   | ⟨k',F,E,[]⟩::_,_=>simp only;omega
   | ⟨k',F,E,[y]⟩::_,B=>simp only;refine AEt h n y ?_;simp at B;omega
   | ⟨k',F,E,_::_::_⟩::_,_=>simp only;omega
   split<;>omega
theorem AAx {l:List En}(h:Ll l=true)(AE:List Nd):∀k∈I6 (JP l AE),0<=k/\k<=7:=by
 refine AXx λk B=>?_
 obtain⟨b,_,rfl⟩:=Da.1 B;unfold Ll at h;rw[Ak]at h;exact AEt (xc l [] h.1) _ b (Nat.lt_succ_self _)
theorem AY6 (l r:Nat)(B:l<8)(E:r<8):(fE.flatten[l*8+r]?)=some (XY l r):=by
 match l,B with
 | 0,_|1,_|2,_|3,_|4,_|5,_|6,_|7,_ =>
   all_goals
    match r,E with
    | 0,_|1,_|2,_|3,_|4,_|5,_|6,_|7,_=>all_goals rfl
theorem AY7 (l r:Nat)(E:l<8)(B:r<8):(((fE.flatten.map λn=>V.c (.int .i64 n)).drop (l*8)).take 8)[r]?=some (.c (.int .i64 (XY l r))):=by
 rw[KO,if_pos B,List.getElem?_drop,CM,AY6 l r E B];rfl
theorem AK7 (l r:Nat)(B:l<8)(E:r<8): -3<=XY l r/\XY l r<=1:=by
 match l,B with
 | 0,_|1,_|2,_|3,_|4,_|5,_|6,_|7,_ =>
   all_goals
    match r,E with
    | 0,_|1,_|2,_|3,_|4,_|5,_|6,_|7,_=>all_goals decide
theorem Mt (a b:Int):a<=mx a b:=by unfold mx;split<;>omega
theorem rq (a b:Int):b<=mx a b:=by unfold mx;split<;>omega
theorem AKT {a b:Int}(B:0<=a)(hb:0<b):0<=Ea a b:=by
 unfold Ea;rw[if_pos B];exact Int.ediv_nonneg (by omega) (by omega)
theorem AY4 (l r:Nat){v:Int}:0<=VX l r v:=by
 unfold VX;repeat' split
 all_goals omega
theorem AK8 {q:Int}(B:0<=q)(l r:Nat)(v:Int):0<=Qt q l r v:=by
 unfold Qt ka;split;omega;split;have:=AY4 l r (v:=v);exact AKT (Int.mul_nonneg B (by omega)) (by omega);omega
theorem ALC {q:Int}(E:0<=q)(v:Int):∀(l:List Int) (p:Int),∀k∈T1 q v p l,0<=k
 | [],_,k,B=>by cases B
 | c::l,p,k,B=>by
   simp only[T1,Cf]at B;rcases B with rfl|B
   exact AK8 E _ _ _;exact ALC E v l c k B
theorem ALE {q:Int}(E:0<=q)(v:Int)(l:List Int):∀k∈CC q v l,0<=k:=by
 intro k B;match l with
 | []=>cases B
 | c::l =>
   simp only[CC,Cf]at B;rcases B with rfl|B
   omega;exact ALC E v l c k B
theorem AFJ : ∀ {AE:List AA} {sp:List Int} {e:Int},0<=e->(∀b∈AE,0<=b.w)->(∀k∈sp,0<=k)->0<=Eh AE sp e
 | b::l,k::t,e,B,E,F=>by
   simp only[Eh];have J:=E b GH;have M:=F k GH;exact AFJ (by omega) (λc G=>E c (Gk _ G)) λj I=>F j (Gk _ I)
 | [],_,e,B,_,_=>by unfold Eh;exact B
 | _::_,[],e,B,_,_=>by unfold Eh;exact B
theorem si {c:AA}(h:Bj (F9 AE sp)=some c)(hb : ∀b∈AE,0<=b.w)(B : ∀k∈sp,0<=k):0<=c.w:=by
 unfold F9 at h;split at h;simp[Bj]at h;split at h;simp[Bj]at h;unfold Tk at h;split at h;simp[Bj]at h;simp only[Bj,if_true,BL]at h;subst h;exact AFJ (by omega) hb B
theorem xg (B:x.Ok)(hs:s.ok=true)(t:ByteArray):0<=(x.gl s t).w:=by
 obtain⟨E,F⟩:=HE B.val hs;exact(ACX B.val E F t).1
theorem AXi (n:Nat):∀k∈Aq n (0:Int),0<=k:=λk B=>by rw[List.eq_of_mem_replicate B];omega
theorem ALg (B:x.Ok)(hs:s.ok=true){t:ByteArray}(h:x.txt s t=some b):0<=b.w:=by
 unfold Af.txt at h;refine si h (λc E=>?_) (AXi _);obtain⟨ch,_,rfl⟩:=Da.1 E;unfold Af.RW;split;exact ew (VN B hs) (by omega);exact xg B hs _
theorem AOJ {c:AA}(h:Bj (KS b a)=some c):c.w=b.w:=by
 unfold KS at h;repeat' split at h
 all_goals simp[Bj]at h
 subst h;rfl
theorem AZg (B:x.Ok)(hs:s.ok=true){t:ByteArray}(h:x.sym s t=some b):0<=b.w:=by
 unfold Af.sym at h;split at h;unfold Af.VI at h;split at h;cases h;rename_i c F;refine si h (λd E=>?_) (by simp);simp only[LY]at E;subst E;rw[AOJ F];exact xg B hs _;split at h;cases h;exact xg B hs t;exact ALg B hs h
theorem AFQ : ∀(l:List AA) (e:Int×Int×Int×Int),e.2.1<=(JZ e l).2.1
 | [],e=>IV _
 | b::l,e=>by
   have B:=AFQ l (mn e.1 b.x,mx e.2.1 (b.x+b.w),mx e.2.2.1 (b.y+b.h),mx e.2.2.2 (b.d - b.y));have E:=Mt e.2.1 (b.x+b.w);simp only[JZ];simp only at B;omega
theorem AYV {f:AP}{sub sup:List AA}(hb:0<=b.w):0<=(Oc f s b sub sup).w:=by
 show 0<=(DQ (eu f s b sub sup)).2.1;unfold eu DQ;refine Sk ?_ (AFQ _ _);simp only[AA.AS];omega
theorem AIL : ∀(l:List AA) (w:Int),w<=kV w l
 | [],w=>IV _
 | b::l,w=>Sk (Mt _ _) (AIL l _)
theorem AAf : ∀(l:List AA) (w:Int),w<=IS w l
 | [],w=>IV _
 | b::l,w=>Sk (Mt _ _) (AAf l _)
theorem AUN {f:AP}{sub sup:List AA}:0<=(OP f s b sub sup).w:=by
 show 0<=kV (I4 b sub sup) (ri f s b sub sup);refine Sk ?_ (AIL _ _);unfold I4;exact Sk (Mt 0 b.w) (Sk (AAf sub _) (AAf sup _))
theorem APd {f:AP}{n d:AA}:0<=(WO f s n d).w:=Sk (Mt 0 n.w) (Mt _ d.w)
theorem AXf (E:x.Ok)(hs:s.ok=true){B:List AA}:0<=(Qp x.f s b B).w:=by
 show 0<=eO x.f s B+(EZ x.f s b).w+mx 0 b.w;obtain⟨G,I⟩:=HE E.val hs;have F:=(find_ok E.val G I (name:=Nj) (by decide) (Jm x.f s b)).2.w1;have e:EZ x.f s b=(Hv x.f Nj (Jm x.f s b) (BS x.f.params s)).1:=rfl;rw[<-e]at F;have J:=Mt 0 b.w;have M:0<=eO x.f s B:=by
  cases B with
  | nil=>exact IV _
  | cons g l=>exact Mt 0 _
 omega
theorem ANC {f:AP}{name:ByteArray}{b a:AA}:0<=(al f s name b a).w:=by
 show 0<=mx (mx 0 _) _;exact Sk (Mt 0 _) (Mt _ _)
theorem AE8 (E:x.Ok)(hs:s.ok=true){name:ByteArray}(I:Ck name=true)(B:Int):0<=(MX x.f name B (x.sz s)).1.w:=by
 obtain⟨J,M⟩:=HE E.val hs;rcases xJ E.val J M I B with h|⟨_,S,F,_,_,_,_,G⟩
 unfold Af.sz;rw[h.2];exact IV _;unfold Af.sz;rw[G];exact F.w1
theorem AVw {t:ByteArray}(h:(decide (t.size=2) && FC (Lq RX) t)=true):Ck (Kg t 0)=true/\Ck (Kg t 1)=true:=by
 simp only[Ak,decide_eq_true_eq,FC,ES]at h;obtain⟨G,E⟩:=h;have key : ∀i,i<t.size->Ck (Kg t i)=true:=by
  intro i B;unfold Kg;rw[AFU t i B];have F:i<t.data.toList.length:=by rw[Array.length_toList];exact B
  have:=E (t.data.toList[i]) (Kq F);unfold Lq RX at this;simp at this;simp[Ck,Dx,ByteArray.size];omega
 exact⟨key 0 (by omega),key 1 (by omega)⟩
theorem xB (B:Nat):∀(l:List AA) (i:Nat) (w:Int),w<=K6 B i w l
 | [],i,w=>IV _
 | b::l,i,w=>by
   simp only[K6];refine Sk ?_ (xB B l _ _);split;exact Mt _ _;exact IV _
theorem AD7 {q:Int}(E:0<=q)(B:Nat)(cells:List AA):∀c,0<=Ig q B cells c
 | 0=>IV _
 | c+1=>by
   simp only[Ig];have F:=AD7 E B cells c;have G:0<=Lh B cells c:=xB _ _ _ _;omega
theorem ANa (E:x.Ok)(hs:s.ok=true){B:Nat}{cells:List AA}(h:Bj (N2 x.f s B cells)=some b):0<=b.w:=by
 unfold N2 at h;split at h;simp[Bj]at h;rw[(OT h).1];have F:=AD7 (VN E hs) B cells (B - 1);have G:0<=Lh B cells (B - 1):=xB _ _ _ _;show 0<=Ig _ B cells (B - 1)+Lh B cells (B - 1);have e:x.Al s=AU x.f.params.Al (BS x.f.params s):=rfl;rw[<-e];omega
theorem ATZ (B:x.Ok)(hs:s.ok=true){k:Int}{t:ByteArray}{c:Int}{AE:List Nd}{L:List AA}(M:Ki k t=true)(I : ∀b∈L,0<=b.w)(h:Ji x s k t c AE L=some b):0<=b.w:=by
 have G : ∀i,0<=(L.getD i AA.zero).w:=by
  intro i;rw[Bv];cases J:L[i]? with
  | none=>exact IV _
  | some b=>exact I b (Cj J)
 unfold Ji at h;split at h;exact AZg B hs h;split at h;exact ALg B hs h;split at h;rw[(OT h).1];exact APd;split at h;rw[(OT h).1];exact AXf B hs;split at h;rw[(OT h).1];exact ANC;split at h;rename_i E;subst E;obtain⟨Q,R⟩:=AVw M;unfold O5 at h;split at h;simp[Bj]at h;split at h;simp[Bj]at h;refine si h (λd F=>?_) (by simp);simp only[Cf,RE,or_false]at F;rcases F with rfl|rfl|rfl
 exact AE8 B hs Q _;exact G 0;exact AE8 B hs R _;split at h;exact ANa B hs h;split at h;rw[(OT h).1];exact AUN;rw[(OT h).1];exact AYV (G 0)
mutual
theorem AX4 {x:Af}(E:x.Ok):∀(n:Nd) (s:Aa) (src:List Int) (b:AA),s.ok=true->n.Jb=true->GU x s src n=some b->0<=b.w
 | ⟨k,t,c,AE⟩,s,src,b,B,F,h=>by
   simp only[Nd.Jb,Ak]at F;unfold GU at h;split at h;cases h;unfold Af.empty;show 0<=if src=[]then 0 else AU (x.Al s) 50
   split;omega;exact ew (VN E B) (by omega);split at h;cases h;rename_i L I;split at h;cases h;rename_i G J;cases h;show 0<=G.w;exact si J (AAL E AE k s src 0 L B F.2 I) (ALE (VN E B) _ _)
theorem AAL {x:Af}(G:x.Ok):∀(l:List Nd) (k:Int) (s:Aa) (src:List Int) (i:Nat) (L:List AA),s.ok=true->Nd.MY k l=true->Kb x s src i l=some L->∀b∈L,0<=b.w
 | [],k,s,src,i,L,F,E,h,b,B=>by
   simp only[Kb,BL]at h;subst h;cases B
 | n::l,k,s,src,i,L,F,E,h,b,B=>by
   simp only[Nd.MY,Ak]at E;unfold Kb at h;split at h;cases h;rename_i a I;split at h;cases h;rename_i r J;cases h;rcases Cf.1 B with rfl|B
   exact AH1 G n s _ _ F E.1.2 I;exact AAL G l k s src (i+1) r F E.2 J b B
theorem AH1 {x:Af}(F:x.Ok):∀(n:Nd) (s:Aa) (src:List Int) (b:AA),s.ok=true->n.Jb=true->Fw x s src n=some b->0<=b.w
 | ⟨k,t,c,AE⟩,s,src,b,E,B,h=>by
   simp only[Nd.Jb,Ak]at B;unfold Fw at h;split at h;cases h;rename_i L I;split at h;cases h;rename_i G J;cases h;show 0<=G.w;exact ATZ F E B.1.1 (ABt F AE k k s src 0 L E B.2 I) J
theorem ABt {x:Af}(G:x.Ok):∀(l:List Nd) (k k':Int) (s:Aa) (src:List Int) (i:Nat) (L:List AA),s.ok=true->Nd.MY k' l=true->Kh x s src k i l=some L->∀b∈L,0<=b.w
 | [],k,k',s,src,i,L,F,E,h,b,B=>by
   simp only[Kh,BL]at h;subst h;cases B
 | n::l,k,k',s,src,i,L,F,E,h,b,B=>by
   simp only[Nd.MY,Ak]at E;unfold Kh at h;split at h;cases h;rename_i a I;split at h;cases h;rename_i r J;cases h;rcases Cf.1 B with rfl|B
   exact AX4 G n _ _ _ (ABs F) E.1.2 I;exact ABt G l k k' s src (i+1) r F E.2 J b B
end
theorem AVO {x:Cx}{a:Act}(g:Good S0 w0 x w H){t te:TypeId}{n sz:Nat}{y:Operand}(ho:o.op=.slice t y none none none)(J:P.underlying t=some (.array n te))(F : ∀w:World,(sizeOf te).run P w=.ok sz w){AG:List (List C)}{es:Nat}(E : ∀r∈AG,r.length=es)(M:AG.length=n)(I:n<=maxLen)(R:0<n)(B:CV x w (.cp AG.flatten 0) (a.eval y)):BW P o a S0 w0 x w H (.c (.sl AG)) none:=by
 simp only[CV]at B;obtain⟨b,G,B,Q⟩:=B;refine BW.pure g (u:=.slice (some ⟨b,G,none⟩) n n) ?_ ?_;have : ¬n=0:=by omega
 simp[execOp,ho,B,Instr.sliceAt,Instr.sureAddr,run_underlying J,Instr.sliceBounds,F,Addr.add,this];simp only[CV,Ab];exact⟨_,n,by rw[M],by omega,I,λ_=>⟨b,G,es,rfl,E,D9.flat.2 Q⟩⟩
theorem AVq (name:ByteArray)(h:NY N0 name=true):AC AF 313 [.c (.str name)] (.c (.bool true)):=by
 have E:=AE1 N0 name (by decide);have e:KX name N0=true:=by
  simp only[NY,N0,mP,mQ,lz,T9,decide_eq_true_eq]at h;unfold N0;rcases h with h|h|h|h|h|h<;>(subst h;decide +kernel)
 rw[e]at E;unfold Gv N0 at E;simp only[Ap,BB]at E;refine en func313 ntmps313 ?_;refine wu (.mk 2) (cj @AR.eq_1<|ADQ) trivial ⟨?_⟩;refine Cn 0 ?_;refine AW.DA ?_;refine SW.op (.c (.sl [[.str ⟨#[104,97,116]⟩],[.str ⟨#[98,97,114]⟩],[.str ⟨#[118,101,99]⟩],[.str ⟨#[100,111,116]⟩],[.str ⟨#[116,105,108,100,101]⟩],[.str ⟨#[99,104,101,99,107]⟩]])) rfl rfl ?_ ?_;intro S0 w0 x a w F;exact AVO (n:=6) (sz:=1) (te:=9) (es:=1) F.1 rfl (by kernel_rfl) (λw=>by kernel_rfl) (by simp) rfl (by unfold maxLen;omega) (by omega) (O4 F.2 rfl);simp only[St.step,St.put,Bk,Ai,Ag];refine SW.take 3 (AH.out ?_);simp only[DP,ET];have B:=(cj @AR.eq_1<|ADQ)
 repeat any_goals (first|refine Eo ?_|exact Bt B|refine De B ?_|refine BV B (E) ?_|refine DI B ?_)
 simp only[CU,B9];refine SW.nil ?_;exact wz (cj @AR.eq_1<|ADQ) trivial
theorem AEF (f:AP)(name:ByteArray)(p:Int)(J:f.Fit)(M:f.valid=true)(F:1<=p)(I:p<=1000):AC AF 315 [.agg f.vs,.c (.str name),.c (.int .i64 p)] (.c (.int .i64 (AU (f.pick name).attach p))):=by
 have E:=dy f name J.1;have B:=sw (f.pick name) p;rw[AKf M F I name]at B;generalize Q:f.pick name=G at E B ⊢;simp only[XT,Hg,BG.row,BG.scaled,AR,Ap,BB]at E B;refine en func315 ntmps315 ?_;exact wz (cj @AR.eq_1<|results315) (cj2 E B trivial)
def ABn (o:Option AA):V:=.A7 [.agg (o.getD AA.zero).vs,.c (.bool o.isSome)]
theorem AYg : ∀(b g:AA),b.D8=true->b.simp=some g->g.Fq:=λb g h B=>ABD g (ABo b g h B).1
mutual
theorem AKt : ∀(b g:AA),b.simp=some g->g.cnt<=b.cnt
 | ⟨k,n,s,w,h,d,x,y,AE,o,src⟩,g,B=>by
   simp only[AA.simp]at B;split at B;cases B;exact BN _;split at B;have:=AYf AE g B;simp only[AA.cnt];omega;cases B
theorem AYf : ∀(l:List AA) (g:AA),AA.VW l=some g->g.cnt<=AA.Az l
 | [],g,B=>by cases B
 | c::l,g,B=>by
   match l,B with
   | [],B =>
     simp only[AA.VW]at B;split at B;have:=AKt c g B;simp only[AA.Az];omega;cases B
   | _::_,B=>cases B
end
theorem AXB (b:AA)(hb:b.Ad=true):AC AF 350 [Ao b] (ABn b.simp):=by
 have B:=ABA b;rw[As];unfold ABn;have F:=hb;simp only[AA.Ad,Ak,decide_eq_true_eq]at F;cases E:b.simp with
 | none=>rw[E]at B;simp only[Pf]at B;simp only[Hr,H8];refine en func350 ntmps350 ?_;refine wu (.mk 1) (cj @AR.eq_1<|gq) trivial ⟨?_⟩;refine Cn 0 ?_;refine wu (.mk 2) gq (cj B<|trivial) ⟨?_⟩;refine Og (.mk 1) trivial ?_;refine SW.eF (b:=true) (res:=false) rfl (.inr ⟨rfl,rfl⟩) (by kernel_rfl) rfl rfl rfl (.inl ⟨rfl,rfl⟩) ?_;simp only[St.step,St.put,Bk,Ai,Ag];refine SW.nil ?_;exact wz (cj2 @AR.eq_1 @Fl gq) trivial
 | some g=>have G:=pW g (AYg b g F.1 E) (by have:=AKt b g E;omega);rw[E]at B;simp only[Pf]at B;rw[As]at G;simp only[Dm,IZ];refine en func350 ntmps350 ?_;refine wu (.mk 1) (cj @AR.eq_1<|gq) trivial ⟨?_⟩;refine Cn 0 ?_;refine wu (.mk 2) gq (cj B<|trivial) ⟨?_⟩;refine Og (.mk 1) trivial ?_;refine SW.eF (b:=true) (res:=true) rfl (.inr ⟨rfl,rfl⟩) (by kernel_rfl) rfl rfl rfl (.inr ⟨⟨_,_,rfl⟩,rfl⟩) ?_;simp only[St.step,St.put,Bk,Ai,Ag];refine SW.nil ?_;exact wz (cj @AR.eq_1<|gq) (cj G<|trivial)
theorem AVn (f:AP)(b:AA)(M:f.Fit)(J:f.valid=true)(hb:b.Ad=true)(ho:b.BX):AC AF 314 [.agg f.vs,Ao b] (.c (.int .i64 (atR f b))):=by
 have G:=Ma f;rw[J]at G;have F:=EL b ho (by have:=(D3 hb).2.2.2;omega);rw[hb]at F;have B:=AXB b hb;have e:atR f b=match b.simp with|some g=>AU (f.pick g.name).attach g.size|none=>Bm b.w:=rfl
 rw[e];rw[As]at *
 unfold ABn at B;cases I:b.simp with
 | none=>rw[I]at B;simp only[Hr,H8]at B;refine en func314 ntmps314 ?_;exact wz (cj2 @AR.eq_1 @Fl results314) (cj G<|cj F<|cj B<|cj (Ke b.w)<|trivial)
 | some g=>obtain⟨Q,R⟩:=tA hb I;rw[I]at B;simp only[Dm,IZ]at B;have E:=AEF f g.name g.size M J Q R;obtain⟨k,n,S,w,h,d,x,y,AE,o,src⟩:=g;simp only[AA.vs,AA.row,Ap,BB]at B E ⊢;refine en func314 ntmps314 ?_;exact wz (cj @AR.eq_1<|results314) (cj4 G F B E trivial)
theorem AVx (f:AP)(s:Aa)(name:ByteArray)(b:AA)(hf:f.Fit)(G:f.valid=true)(ho:s.ok=true)(hb:b.Ad=true)(ob:b.BX)(hn:NY N0 name=true):AC AF 262 [.agg f.vs,Aj s,.c (.str name),Ao b] (Ba (C8 (al f s name b (DB f name (BS f.params s)).1))):=by
 obtain⟨bw,bh,bd,bn⟩:=D3 hb;obtain⟨p1,p2⟩:=HE G ho;have CA:=EL b ob (by omega);rw[hb]at CA;have C3:=LI f s;rw[show IT f s=(BS f.params s,0)from if_neg (by simp[G,ho])]at C3;have C9:=AVq name hn;have J:=pn f name (BS f.params s) hf.1;rw[show QC f name (BS f.params s)=DB f name (BS f.params s)from if_pos G]at J;have Fg:name.size<=16:=by
  simp only[NY,N0,mP,mQ,lz,T9,decide_eq_true_eq]at hn;rcases hn with h|h|h|h|h|h<;>(subst h;decide)
 obtain⟨sg,sk,sc⟩:=lQ G p1 p2 Fg;have A6:=(Pk G p1 p2 name).1;have IN:(DB f name (BS f.params s))=((DB f name (BS f.params s)).1,0):=by rw[A6]
 rw[IN]at J;have Yf:=EI f.params.RO (BS f.params s);have bA:=DM (p:=BS f.params s) f.params.RO (by omega) p2;have cG:=AVn f b hf G hb ob;have A4 : -1073741824<=atR f b/\atR f b<=1073741824:=by
  unfold atR;split;rename_i g hs;obtain⟨z1,z2⟩:=tA hb hs;unfold AU;split;rename_i hh;have QV:=Ql G g.name;unfold BG.Small at QV;have:=Qh (f.pick g.name).attach g.size 20000 1000 (by omega) (by omega) (by omega) (by omega);unfold Ea;split<;>omega;omega;exact J6 _
 have I:=AEF f name (BS f.params s) hf G p1 (by omega);have z8:=DM (p:=BS f.params s) (f.pick name).attach (by omega) p2;obtain⟨S,hS⟩:=AI ((DB f name (BS f.params s)).1);rw[hS]at J sg ⊢;have eB:al f s name b S=Bf (mx (mx 0 (Vy f s name b+S8 f s name b+S.w)) (S8 f s name b+b.w)) (mx b.h (Vx f s b+S.h)) (mx b.d (S.d - Vx f s b)) [S.AS (Vy f s name b+S8 f s name b) (Vx f s b),b.AS (S8 f s name b) 0]:=rfl;have R:Vy f s name b=atR f b - AU (f.pick name).attach (BS f.params s):=rfl;have z:S8 f s name b=mx 0 (-(Vy f s name b)):=rfl;have Q:Vx f s b=b.h - mn b.h (AU f.params.RO (BS f.params s)):=rfl;rw[eB];clear eB;obtain⟨X,hX⟩:=AI (Vy f s name b);obtain⟨M,hM⟩:=AI (S8 f s name b);obtain⟨U,hU⟩:=AI (Vx f s b);rw[hX]at R z ⊢;rw[hM]at z ⊢;rw[hU]at Q ⊢;obtain⟨P,hP⟩:=AI (BS f.params s);rw[hP]at C3 J Yf bA I z8 R Q p1 p2;obtain⟨F,W⟩:=AI (AU f.params.RO P);obtain⟨AT,A3⟩:=AI (AU (f.pick name).attach P);obtain⟨AB,A2⟩:=AI (atR f b);rw[W]at Yf bA Q;rw[A3]at I z8 R;rw[A2]at cG A4 R;have fm:(if F<b.h then F else b.h)=mn b.h F:=rfl;have bm : -1073741824<=mn b.h F/\mn b.h F<=1073741824:=by rw[show mn b.h F=min b.h F by unfold mn;omega];omega
 obtain⟨MN,A5⟩:=AI (mn b.h F);rw[A5]at fm bm Q;have fU:b.h - MN=U:=Q.symm;have fX:AB - AT=X:=R.symm;have fM:(if X<0 then -X else 0)=M:=by rw[z,DU];split<;>omega
 have bX : -2147483648<=X/\X<=2147483648:=by omega
 have bU : -2147483648<=U/\U<=2147483648:=by omega
 have bM:0<=M/\M<=2147483648:=by rw[z,DU];omega
 clear hX hM hU hP W A3 A2 A5 hS IN A6;obtain⟨sd,so,sf,A7,B0,B1,A8,A9,B2,B3⟩:=sg;have a0:=Gu S (X+M) U (by cases S;simp only[AA.Fq]at sd;exact sd.1);have a1:=Gu b M 0 (Nn hb);have E:=kq [S.AS (X+M) U,b.AS M 0] (by simp) (by
  intro c hc;simp only[Cf,RE,or_false]at hc;rcases hc with rfl|rfl
  constructor<;>(unfold Oi;simp only[iU,iT,iS,iV,iW];omega);constructor<;>(unfold Oi;simp only[iU,iT,iS,iV,iW];omega))
 have eE:DQ [S.AS (X+M) U,b.AS M 0]=(mn (X+M) M,mx (X+M+S.w) (M+b.w),mx (U+S.h) (0+b.h),mx (S.d - U) (b.d - 0)):=rfl;rw[eE,Int.zero_add,Int.sub_zero]at E;unfold YG at E;have eW:mx (mx 0 (X+M+S.w)) (M+b.w)=mx 0 (mx (X+M+S.w) (M+b.w)):=by simp only[DU];omega
 have eH:mx b.h (U+S.h)=mx (U+S.h) b.h:=by simp only[DU];omega
 have eD:mx b.d (S.d - U)=mx (S.d - U) b.d:=by simp only[DU];omega
 rw[eW,eH,eD];have fW:(if 0<mx (X+M+S.w) (M+b.w)then mx (X+M+S.w) (M+b.w)else 0)=mx 0 (mx (X+M+S.w) (M+b.w)):=rfl;obtain⟨E0,h0⟩:=AI (mn (X+M) M);obtain⟨E1,h1⟩:=AI (mx (X+M+S.w) (M+b.w));obtain⟨E2,h2⟩:=AI (mx (U+S.h) b.h);obtain⟨E3,h3⟩:=AI (mx (S.d - U) b.d);rw[h0,h1,h2,h3]at E;rw[h1]at fW ⊢;rw[h2,h3];obtain⟨E4,h4⟩:=AI (mx 0 E1);rw[h4]at fW ⊢;clear h0 h1 h2 h3 h4 eE eW eH eD R z Q;have q:=My E4 E2 E3 [S.AS (X+M) U,b.AS M 0] ⟨HJ _ _ sd,HJ _ _ (GD hb),trivial⟩ (by simp only[AA.Az,Hb];omega);have Ct:=EL (Bf E4 E2 E3 [S.AS (X+M) U,b.AS M 0]) ⟨(CI _:0<=maxLen),(CI _:0<=maxLen),F4 _ _ so,F4 _ _ ob,trivial⟩ (by simp only[Bf,AA.cnt,AA.Az,Hb];omega);generalize Bf E4 E2 E3 [S.AS (X+M) U,b.AS M 0]=Z at q Ct ⊢;obtain⟨A0,m0⟩:=AI (S.AS (X+M) U);obtain⟨A1,m1⟩:=AI (b.AS M 0);rw[m0]at a0 q E;rw[m1]at a1 q E;clear m0 m1;unfold Aj at *
 simp only[AA.AG,As,AR,Ba]at C3 J q Ct CA cG a0 a1 E ⊢;unfold C8;refine en func262 ntmps262 ?_;have B:=(cj9 @fm @fU @fX @fM @fW @Ba.eq_1 @As @AR.eq_1 @Fl results262)
 repeat any_goals (first|refine Eo ?_|exact Bt B|refine De B ?_|refine BV B (C3) ?_|refine BV B (CA) ?_|refine BV B (C9) ?_|refine BV B (J) ?_|refine BV B (Yf) ?_|refine BV B (cG) ?_|refine BV B (I) ?_|refine BV B (a0) ?_|refine BV B (a1) ?_|refine BV B (E) ?_|refine BV B (q) ?_|refine BV B (Ct) ?_|refine DI B ?_|((first|refine JC B ?_ ?_|refine JE B ?_ ?_|refine JD B ?_ ?_|refine JY B ?_ ?_)<;>intro h<;>try (exfalso;first|omega|contradiction)))
theorem AEz (B:Nat):∀(l:List AA) (i:Nat) (w:Int),K6 B (i+B) w l=K6 B i w l
 | [],_,_=>rfl
 | b::l,i,w=>by
   simp only[K6,Nat.add_mod_right];rw[show i+B+1=i+1+B by omega];exact AEz B l _ _
theorem AEy (B:Nat):∀(l:List AA) (i:Nat) (w:Int),0<i->i<=B->K6 B i w l=K6 B 0 w (l.drop (B - i))
 | [],i,w,_,_=>by rw[List.drop_nil];rfl
 | b::l,i,w,F,G=>by
   by_cases e:i=B;subst e;rw[La,B9];have:=AEz i (b::l) 0 w;rwa [Cz]at this
   have E:i % B≠0:=by rw[uZ (by omega)];omega
   simp only[K6,if_neg E];rw[AEy B l (i+1) w (by omega) (by omega),show B - i=(B - (i+1))+1 by omega,CU]
theorem AOW {B:Nat}(E:0<B)(b:AA)(l:List AA)(w:Int):K6 B 0 w (b::l)=K6 B 0 (mx w b.w) ((b::l).drop B):=by
 simp only[K6,Nat.zero_mod,if_true,Cz];rw[AEy B l 1 _ (by omega) E];obtain⟨k,rfl⟩:∃k,B=k+1:=⟨B - 1,by omega⟩
 rw[CU,aM]
def A4 (cells:List AA)(i:Nat):AA:=cells.getD i AA.zero
theorem bJ {cells:List AA}{i:Nat}(h:i<cells.length):A4 cells i=cells[i]:=by simp[A4,h]
theorem wQ {cells:List AA}{i:Nat}(h:i<cells.length):cells[i]?=some (A4 cells i):=by rw[bJ h];exact BE h
theorem bK {cells:List AA}{i:Nat}(h:i<cells.length):A4 cells i∈cells:=by rw[bJ h];exact Kq h
theorem xA {α:Type}(val:α->Nat){B c:Nat}(I:0<B)(cells:List AA):∀(l:List α) (j:Nat) (w:Int),(∀y∈l,val y<cells.length)->(∀k y,l[k]?=some y->val y=c+B*(j+k))->cells.length<=c+B*(j+l.length)->(l.map λi=>(A4 cells (val i)).w).foldl mx w=K6 B 0 w (cells.drop (c+B*j))
 | [],j,w,_,_,h=>by
   rw[List.drop_eq_nil_of_le (by simpa using h)];rfl
 | y::l,j,w,G,J,h=>by
   have M:val y=c+B*j:=by have:=J 0 y rfl;simpa using this
   have E:c+B*j<cells.length:=by have:=G y GH;omega
   rw[D5 E,AOW I,Ap,Bw];have e:(cells[c+B*j]::cells.drop (c+B*j+1)).drop B=cells.drop (c+B*(j+1)):=by
    rw[<-D5 E,List.drop_drop,Nat.mul_add,Nat.mul_one];congr 1
    omega
   rw[e,<-xA val I cells l (j+1) _ (λz F=>G z (Gk _ F)) (λk z F=>by have:=J (k+1) z (by simpa using F);rw[this];congr 2;omega) (by rw[BA]at h;rw[show j+1+l.length=j+(l.length+1)by omega];exact h)];rw[M,bJ E]
theorem kO {p:Nat->Prop}(b d B:Nat)(h : ∀k,k<B->p (b+d*k)):∃l:List { i:Nat // p i },l.length=B/\∀(k:Nat) (y : { i:Nat // p i }),l[k]?=some y->y.val=b+d*k:=by
 refine⟨List.ofFn λk:Fin B=>⟨b+d*k.val,h k.val k.isLt⟩,List.length_ofFn,λk y E=>?_⟩;obtain⟨F,e⟩:=Br.1 E;rw[List.getElem_ofFn]at e;rw[<-e]
theorem ANY (val:α->Nat){B r:Nat}(cells:List AA)(l:List α)(hb : ∀y∈l,val y<cells.length)(M:l.length=B)(I : ∀k y,l[k]?=some y->val y=r*B+k):l.map (λi=>A4 cells (val i))=Ha B cells r:=by
 unfold Ha;have Q:B=0\/r*B+B<=cells.length:=by
  rcases Nat.eq_zero_or_pos B with h|h
  exact .inl h;right;have E:l[B - 1]?=some (l[B - 1]'(by omega)):=BE (by omega);have F:=I _ _ E;have J:=hb _ (Cj E);omega
 apply UB;rw[Ch,M,List.length_take,List.length_drop];omega;intro i F J;rw[Ch]at F;rw[List.getElem_map,List.getElem_take,List.getElem_drop];have E:l[i]?=some l[i]:=BE F;have:=I _ _ E;have G:=hb _ (Cj E);rw[bJ G];simp only[this]
theorem ANV (val:α->Nat){B r:Nat}(q:Int)(cells:List AA)(l:List α)(hb : ∀y∈l,val y<cells.length)(E:l.length=B)(F : ∀k y,l[k]?=some y->val y=r*B+k):(l.map λi=>(A4 cells (val i)).h).foldl mx (AU q 70)=MW q (Ha B cells r)/\(l.map λi=>(A4 cells (val i)).d).foldl mx (AU q 30)=N1 q (Ha B cells r):=by
 have e:=ANY val cells l hb E F;unfold MW N1;rw[<-e];simp only[List.foldl_map];exact⟨trivial,trivial⟩
theorem AFj : ∀(l:List Int) (a:Int),a<=l.foldl mx a/\∀x∈l,x<=l.foldl mx a
 | [],a=>⟨IV _,λ_ h=>by cases h⟩
 | x::l,a=>by
   rw[Bw];obtain⟨F,E⟩:=AFj l (mx a x);have G:a<=mx a x/\x<=mx a x:=by unfold mx;split<;>omega
   refine⟨by omega,λy B=>?_⟩;rcases Cf.1 B with rfl|B
   omega;exact E y B
def Ho (p:Nat->Bool)(g:Nat->AA->AA)(l:List AA):List AA:=l.mapIdx λi b=>if p i=true then g i b else b
theorem Xd (p:Nat->Bool)(g:Nat->AA->AA)(l:List AA):(Ho p g l).length=l.length:=by simp[Ho]
theorem fQ (p:Nat->Bool)(g:Nat->AA->AA)(l:List AA)(i:Nat):(Ho p g l)[i]?=l[i]?.map λb=>if p i=true then g i b else b:=by simp[Ho]
theorem lf (p:Nat->Bool)(g:Nat->AA->AA)(l:List AA)(i:Nat)(h:i<l.length):(Ho p g l)[i]'(by rw[Xd];exact h)=if p i=true then g i l[i]else l[i]:=by simp[Ho]
theorem AZ3 (p:Nat->Bool)(g:Nat->AA->AA)(l:List AA)(i:Nat)(h:i<l.length):(Ho p g l).set i (g i l[i])=Ho (λj=>p j || decide (j=i)) g l:=by
 apply UB;simp[Ho];intro j B F;rw[List.getElem_set];rw[GF,Xd]at B;rw[lf _ _ _ _ B,lf _ _ _ _ B];by_cases e:i=j;subst e;simp;have E : ¬j=i:=λh=>e h.symm
 simp[e,E]
theorem ALr (val:α->Nat)(p:Nat->Bool)(g:Nat->AA->AA)(l:List AA)(pre:List α)(y:α)(h:val y<l.length):(Ho (λj=>p j || pre.any λz=>decide (j=val z)) g l).set (val y) (g (val y) l[val y])=Ho (λj=>p j || (pre++[y]).any λz=>decide (j=val z)) g l:=by
 rw[AZ3 _ _ _ _ h];congr 1
 funext j;simp[Bool.or_assoc]
theorem ALq (p:Nat->Bool)(g:Nat->AA->AA)(l:List AA)(h : ∀i,i<l.length->p i=false):Ho p g l=l:=by
 apply UB;simp[Ho];intro j E B;rw[lf _ _ _ _ B,h j B];simp
theorem ALp {p p':Nat->Bool}{g:Nat->AA->AA}{l:List AA}(h : ∀i,i<l.length->p i=p' i):Ho p g l=Ho p' g l:=by
 apply UB;simp[Ho];intro j B E;rw[Xd]at B;rw[lf _ _ _ _ B,lf _ _ _ _ B,h j B]
def Ua (q:Int)(AL:Nat)(cells:List AA)(i:Nat)(b:AA):AA:={ b with x:=Ig q AL cells (i % AL)+Bm (Lh AL cells (i % AL) - b.w) }
def V1 (q:Int)(AL:Nat)(cells:List AA)(top:Int)(i:Nat)(b:AA):AA:={ b with y:=top - N3 q AL cells (i / AL) - MW q (Ha AL cells (i / AL)) }
def Gn (q:Int)(AL:Nat)(cells:List AA)(c:Nat):List AA:=Ho (λi=>decide (i % AL<c)) (Ua q AL cells) cells
def P3 (q:Int)(AL:Nat)(cells:List AA)(top:Int)(r:Nat):List AA:=Ho (λi=>decide (i / AL<r)) (V1 q AL cells top) (Gn q AL cells AL)
theorem AD4 (q:Int)(E:Nat)(cells:List AA)(B:Int):∀(l:List AA) (i j:Nat),(Ox q E cells B i l)[j]?=l[j]?.map λb=>wN q E cells B (i+j) b
 | [],i,j=>by simp[Ox]
 | b::l,i,0=>by simp[Ox]
 | b::l,i,j+1=>by
   simp only[Ox,JU];rw[AD4 q E cells B l (i+1) j,show i+1+j=i+(j+1)by omega]
theorem ANW (q:Int){B AG:Nat}(G:0<B)(cells:List AA)(Q:cells.length=AG*B)(E:Int):P3 q B cells E AG=Ox q B cells E 0 cells:=by
 apply Vc;intro j;rw[AD4,Cz];unfold P3 Gn;rw[fQ,fQ];cases M:cells[j]? with
 | none=>rfl
 | some b =>
   have F:j<AG*B:=by rw[<-Q];exact(Br.1 M).1
   have I:j % B<B:=mh _ G;have J:j / B<AG:=(Nat.div_lt_iff_lt_mul G).2 F;simp only[Option.map_some,I,J,decide_true,if_true];rfl
def V.ky (k:Nat):V->Option V
 | .own i off len es=>if i=k then some (.own 0 off len es)else none
 | v=>V.Di k v
def V.Zp (k:Nat):List V->Option (List V)
 | []=>some []
 | v::l=>match V.ky k v,V.Zp k l with
   | some y,some r=>some (y::r)
   | _,_=>none
theorem AXI {x:Cx}{k n:Nat}(M:n=(x.loc k).n):∀(v E:V) (u:Value),V.ky k v=some E->CV x w v u->CV (Cx.one x.S (x.loc k).b n) w E u:=by
 intro v E u h B;cases v with
 | own i Q len es =>
   simp only[V.ky]at h;split at h;rename_i e;cases h;subst e;simp only[CV,Cx.one]at B ⊢;obtain⟨_,_,cap,F,G,I,J⟩:=B;exact⟨trivial,trivial,cap,F,G,I,by rw[M];exact J⟩;cases h
 | _=>exact AJ1 _ _ _ h B
theorem AJ2 {x:Cx}{w:World}{k n:Nat}(F:n=(x.loc k).n):∀(l E:List V) (us:List Value),V.Zp k l=some E->AO x w l us->AO (Cx.one x.S (x.loc k).b n) w E us
 | [],E,us,h,B=>by simp only[V.Zp,BL]at h;subst h;simpa only[AO]using B
 | v::l,E,us,h,B=>by
   simp only[AO]at B;obtain⟨u,G,rfl,I,J⟩:=B;unfold V.Zp at h;split at h;rename_i y r Q M;cases h;simp only[AO];exact⟨u,G,rfl,AXI F v y u Q I,AJ2 F l r G M J⟩;cases h
section
variable {P:Program} {K:Exit->St->Prop} {ops:List Oper} {s:St}
theorem SW.AEf {f:FuncId}{args Bd:List V}{cells B cs cs':List V}{res:V}(K9:AY P f Bd ty cells B res)(hf:P.funcs[f]?=some fn)(hb:fn.body.isSome=true)(hn:(fn.name == "runtime.NumGoroutine")=false)(hg:BQ ops s.t o.guard=some true)(F:C7 (ev s.t) o.op=some (f,args))(hp:V.Zp k args=some Bd)(W:s.h[k]?=some (.box ty cs false))(A1:V.Dj k cs=some cells)(jg:V.Dj k cs'=some B)(R5:V.Pn cs'=true)(h:SW P ops K r (s.step o.dst res (some (k,.box ty cs' false)))):SW P ops K (o::r) s:=λS0 w0 x a w G=>by
 have hw:FB o (yielded ops.toArray a.tmps)=true:=by
  have:=KR (o:=o) G.tm (IF (ops:=ops) (K1:=True) (K2:=False) hg trivial);exact Kn λh=>this.2 h
 unfold wpList;rw[if_pos hw];refine .inl ?_;unfold C7 at F;split at F
 case h_2=>cases F
 rename_i fo M Fk ho;split at F
 case h_2=>cases F
 rename_i f' R FG;simp only[BL,Cr]at F;obtain⟨rfl,rfl⟩:=F;have I:=Pp (CW G.tm fo);rw[FG]at I;simp only[CV]at I;obtain⟨Dl,I,EP⟩:=I;have Hw:AO x w (M.toList.map (ev s.t)++R) (M.toList.map a.eval++Dl.toList):=(AO.of_map λy _=>CW G.tm y).append EP;have g:=G.good;obtain⟨U,b1,Q,vs,b3,b4,b5⟩:=g.ok k _ W;have Fh:=Qn (n:=vs.size) _ _ _ A1 b5;have PO : ∀j,j<vs.size->¬x.S (x.loc k).b j:=λj hj=>g.EA k _ j W ⟨rfl,by omega⟩
 have Co:=K9 x.S w _ (x.loc k).b vs g.ex PO b3 Fh (AJ2 (by first|exact b4|exact b4.symm) _ _ _ hp Hw);have CT:fn.body≠none:=by intro e;rw[e]at hb;cases hb
 have F6:fn.name≠ "runtime.NumGoroutine":=by simpa using hn
 have q:(execOp a.eval o).run P w=.ok (.enter f' (M.toList.map a.eval++Dl.toList).toArray) w:=by
  have e1:(M.map a.eval++Dl)=(M.toList.map a.eval++Dl.toList).toArray:=by apply Gx.1;simp
  simp[execOp,ho,resolve,I,M5,invoke,callFunc,program,HW,hf,F6,CT,e1]
 unfold Er;rw[q];refine Co.mono ?_;rintro r' z ⟨u,J,Bz,rfl,E,CZ,Gc,h1,h2,h3,h4⟩;have A2:=(g.ok k _ W).2.lt Q;have he:Ext x { x with S:=J } w z:=⟨CZ,λ_ h=>h,λ_ _=>FM.refl _⟩
 have g':=g.H5 (x':={ x with S:=J }) k (.box ty cs' false) he (E.wide λb e=>⟨U,Q,e.symm⟩) (λi=>⟨.inl,λh=>h.elim id λe=>e ▸ U⟩) (λ_ _=>rfl) (λ_=>.inl ⟨U,Q,rfl⟩)
  ⟨b1,Q,Bz,h1,by rw[h2,b4],Zo (x:={ x with S:=J }) U b1 rfl _ _ _ R5 jg h3⟩ (λb j hs=>(Gc b j hs).imp id λh=>h.elim (λh=>⟨h.2,.inl h.1,λe=>by have:(x.loc k).b=b:=e;omega⟩) (λh=>⟨by rw[h.1];exact H7 A2 E.size,.inr ⟨U,Q,h.1.symm⟩,λ_ hx=>by have h5:j<(x.loc k).n:=hx.2;have h6:=h.2;omega⟩)) (λj hx=>g.EA k _ j W hx)
 have CB:NC w z:=⟨E.size,λb ob D7 II=>(E.block b (DO.1 D7).1 λe=>by subst e;rw[b3]at D7;cases D7;cases II).trans D7⟩
 have e:=Kj s.h (some (k,O.box ty cs' false)) (λk' o' e=>by cases e;exact LZ (Br.1 W).1);have A0:Good S0 w0 { x with S:=J } z (λi=>(Bk s.h (some (k,O.box ty cs' false)))[i]?):=by rw[e];exact g'
 exact h S0 w0 _ _ z (Bo.put G.tm (G.df.mono CB) he A0 (CV.mono (Ub J x z) _ _ h4) o.dst)
end
section
variable {P:Program} {S0:BF} {w0:Bs} {x:Cx} {w:World} {H:Bx} {a:Act} {o:Oper}
theorem AFg {α:Type}{l:List α}(E:0<l.length):∀(m i:Nat),i<m*l.length->(Aq m l).flatten[i]?=l[i % l.length]?
 | 0,i,h=>by simp at h
 | m+1,i,h=>by
   rw[BY,List.flatten_cons];by_cases B:i<l.length;rw[EJ B,uZ B];rw[Gy (by omega),AFg E m (i - l.length) (by rw[Gz,Nat.one_mul]at h;omega)];rw[<-Nat.mod_eq_sub_mod (by omega)]
theorem Aa8 {z:Array Value}(B:0<z.size)(m:Nat):(KN z m).toList=(Aq m z.toList).flatten:=by
 apply Vc;intro i;by_cases E:i<m*z.size;rw[AFg (by simpa using B) m i (by simpa using E)];have I:i % z.size<z.size:=mh _ B;simp[KN,E,I];have F:(KN z m).toList.length<=i:=by simp[KN];omega
 have G:((Aq m z.toList).flatten).length<=i:=by simp;omega
 rw[M6 F,M6 G]
theorem toCs_mapC : ∀l:List C,toCs (l.map V.c)=some l
 | []=>rfl
 | c::l=>by simp only[Ap,toCs,toC,toCs_mapC l]
theorem AUs (g:Good S0 w0 x w H){t:TypeId}{y z:Operand}(ho:o.op=.call ⟨.builtin .append,#[y,z],#[t,t]⟩){Ae:TypeId}{es Bq:Nat}(hT:Dk P t=some (Ae,es,Bq)){zs:List V}(R7:C2 P Ae=some zs){G:List C}(Ww:V.CF zs=some (G.map V.c))(h0:0<es){AG:List (List C)}(A2 : ∀r∈AG,r.length=es)(hY:CV x w (.Bg []) (a.eval y))(hZ:CV x w (.c (.sl AG)) (a.eval z))(M:AG≠[])(F:AG.length<=1000000)(J:Bq<=200)(W:Nat)(hk : ¬x.dom W) :
 ∃m:Nat,BW P o a S0 w0 x w H (.own W 0 AG.length es) (some (W,.box Ae ((AG.flatten++(Aq m G).flatten).map V.c) false)):=by
 obtain⟨hu,ie,I,q,hz,Q,je,R⟩:=JS hT;obtain⟨zk,Y9,IN,i2,J9,R8⟩:=Z2 (x:=x) (w:=w) R7;rw[q]at J9;cases J9;rw[hz]at R8;cases R8;have A5:=MC _ _ _ Ww IN;simp only[CV]at hY hZ;obtain⟨A,hA,_⟩:=hY;obtain⟨B,c',U,VE,k1,k2,k3,k4,k5,k6⟩:=T0 hZ A2;obtain⟨b,S,rfl,_⟩:=k6 M;have Gs:0<AG.length:=List.length_pos_iff.2 M;have Dz:AG.length*ie.bytes<=281474976710656:=by rw[je];have:=ua F J;omega
 have Gb:Ay w w.drew:=(Ay.refl w).drew;obtain⟨g1,Mg⟩:=g.MF (x':=x) (w':=w.drew) Gb ⟨λ_ _ h=>h,λb j v _ hc=>Gb.cell hc⟩ rfl rfl (λb j h=>.inl h);have E : ∃m cap:Nat,(Builtin.append_ #[t,t] o.type #[a.eval y,a.eval z]).run P w=.ok (.slice (some ⟨w.heap.size,0,none⟩) AG.length cap) (w.drew.alloc (.cells (U.toArray++KN I.cells m) Ae))/\cap=AG.length+m/\cap<=maxLen:=by
  have JL:=grownCap_ge w AG.length 0 Ae;have A3:=grownCap_le_maxLen w AG.length 0 Ae (by unfold maxLen;omega);refine⟨grownCap w AG.length 0 Ae - AG.length,grownCap w AG.length 0 Ae,?_,by omega,A3⟩;rw[hA,VE];cases A with
  | none=>exact run_append_nil (P:=P) w t o.type Ae ie I hu q hz ⟨b,S,none⟩ AG.length c' U (by rw[k4,Q]) (k5 _ rfl) Gs (by omega) Dz
  | some ad=>have:=run_append_grow (P:=P) w t o.type Ae ie I hu q hz ad 0 0 [] (by simp) (λj v h=>by simp at h) ⟨b,S,none⟩ AG.length c' U (by rw[k4,Q]) (k5 _ rfl) (by omega) (by simp only[Cz];omega) (growslice_fits (by omega) (by rw[je];simp only[Cz];have:=ua F J;omega));simp only[Cz,BU]at this;refine this.trans ?_;simp
 obtain⟨m,cap,E,Mf,A0⟩:=E;have mf:=Aa8 (z:=I.cells) (by rw[R];exact h0) m;have A1:AO x w.drew ((AG.flatten++(Aq m G).flatten).map V.c) (U.toArray++KN I.cells m).toList:=by
  rw[Pq,mf,Fm];refine AO.append (AO.mono Mg _ _ (AO.OS k3)) ?_;have hr:=toCs_ok (toCs_mapC G) A5;have h4:AO x w (G.map V.c) I.cells.toList:=AO.OS hr;have h5:=h4.px m;rw[show (Aq m (G.map V.c)).flatten=((Aq m G).flatten).map V.c by rw[List.map_flatten,List.map_replicate]]at h5;exact AO.mono Mg _ _ h5
 obtain⟨g',he⟩:=g1.Zc W hk Ae _ _ A1;refine⟨m,_,_,_,_,by simp[execOp,ho,resolve,invoke,builtin,E];rfl,.inl rfl,?_,g',Mg.trans he,λk h=>h.elim .inl λe=>.inr ⟨.box Ae ((AG.flatten++(Aq m G).flatten).map V.c) false,by rw[e]⟩,λhb=>by rw[ho]at hb;cases hb⟩;simp only[CV,Cx.C4,if_true];refine⟨.inr trivial,trivial,cap,rfl,by omega,A0,?_⟩;have A6:(KN I.cells m).size=m*es:=by rw[size_zeroCells,R]
 show 0+cap*es<=(U.toArray++KN I.cells m).size;rw[Array.size_append,List.size_toArray,A6,k4,Mf,Gz];omega
theorem AIt (g:Good S0 w0 x w H){t:TypeId}{y z:Operand}(ho:o.op=.call ⟨.builtin .append,#[y,z],#[t,t]⟩){Ae:TypeId}{es Bq:Nat}(W:Dk P t=some (Ae,es,Bq)){zs:List V}(R:C2 P Ae=some zs){Q:List C}(S:V.CF zs=some (Q.map V.c))(U:0<es){AG:List (List C)}(G : ∀r∈AG,r.length=es)(q:CV x w (.Bg []) (a.eval y))(hZ:CV x w (.c (.sl AG)) (a.eval z))(I:AG≠[])(B:AG.length<=1000000)(F:Bq<=200)(E:Nat)(hk : ¬x.dom E) :
 ∃v J,(∀k M,J=some (k,M)->k<=E)/\(∃m:Nat,v=.own E 0 AG.length es/\J=some (E,.box Ae ((AG.flatten++(Aq m Q).flatten).map V.c) false))/\BW P o a S0 w0 x w H v J:=by
 obtain⟨m,hm⟩:=AUs g ho W R S U G q hZ I B F E hk;exact⟨_,_,λk M e=>by cases e;exact BN _,⟨m,rfl,rfl⟩,hm⟩
theorem AIW : ∀l:List C,V.Pn (l.map V.c)=true
 | []=>rfl
 | c::l=>by simp only[Ap,V.Pn,V.Q6,Cd];exact AIW l
theorem AIV (k:Nat):∀l:List C,V.Dj k (l.map V.c)=some (l.map V.c)
 | []=>rfl
 | c::l=>by simp only[Ap,V.Dj,V.Di,AIV k l]
end
theorem wF {n:Nat}{S:BF}{us:List Value}(E : ∀b j,S b j->b<w.heap.size)(B:AO (Cx.bare S) w args us):Bo S (Bs.of w) (Cx.bare S) ⟨args++Aq (n - args.length) .any,[]⟩ { tmps:=us.toArray++M4 (n - us.toArray.size) undef,defers:=[] } w:=by
 refine⟨⟨λk o h=>by simp at h,λk h=>h.elim,λk k' o G h=>by simp at h,λk o j h=>by simp at h,E,λk o h=>by simp at h,λb j h=>.inl h,λb j h=>h,.FR (Ay.refl w),Ext.none _ _ _⟩,?_,Marks.nil _ _⟩;simp only[Pq,T8];have F:us.toArray.size=args.length:=by simpa using B.len
 rw[F];exact B.append (SQ _ _ _ _)
def PC (P:Program)(f:FuncId)(args:List V)(ch:List PanicEntry):Prop:=∀(S:BF) (w:World) (us:List Value),(∀b j,S b j->b<w.heap.size)->AO (Cx.bare S) w args us->Calls P f us.toArray w λr w'=>r=.panicked ch/\Ay w w'
theorem PC.intro {f:FuncId}{c:Code}(z:P.funcs[f]?=some fn)(hb:fn.body=some c)(M:AW ⟨none,0⟩ P c (λe s=>e=.panic ch) ⟨args++Aq (fn.ntmps - args.length) .any,[]⟩):PC P f args ch:=λS w us q I=>by
 refine callsIn_wide.1 (callsIn_of_wp_marks (F:=Cg) (n:=0) z hb trivial ?_);refine wpIn_mono (M 0 S (Bs.of w) _ _ w (BN _) (wF q I)) λe E G ⟨x,s,B,W⟩=>?_
 subst W;obtain⟨J,e,R,U⟩:=B.df;show LeavesInM Cg 0 P fn E.tmps _ E.defers (.panicking ch) G;rw[e];exact kT J G R U B.good B.tm λw2 Q=>⟨rfl,Q.keep.all⟩
theorem HC.AAo {f:FuncId}{args Bd:List V}(B:PC P f Bd ch)(F:Fp P f=true)(M:V.CF args=some Bd)(h:List O):HC P f args h (.HB ch) h:=by
 refine⟨F,λ{S0 w0 x w us} g G=>?_⟩;refine(B x.S w us g.ex (MC _ _ _ M G)).mono ?_;rintro r Q ⟨rfl,E⟩;obtain⟨I,J⟩:=g.MF (x':=x) E ⟨λ_ _ h=>h,λb j v _ B=>E.cell B⟩ rfl rfl (λb j h=>.inl h);exact⟨_,I,J,.FR E,rfl⟩
theorem CQ.intro {f:FuncId}{c:Code}(z:P.funcs[f]?=some fn)(hb:fn.body=some c)(Q:AW ⟨none,0⟩ P c (λe s=>(e=.normal\/e=.ret)/\∃v,GJ P s fn.results.toList=some v/\Kv v s.h) ⟨args++Aq (fn.ntmps - args.length) .any,[]⟩)(S:BF)(w:World)(us:List Value)(q : ∀b j,S b j->b<w.heap.size)(J:AO (Cx.bare S) w args us):Calls P f us.toArray w λr w'=>∃x' u v B,r=.returned u/\Good S (Bs.of w) x' w' (λk=>(B:List O)[k]?)/\CV x' w' v u/\Kv v B:=by
 refine callsIn_wide.1 (callsIn_of_wp_marks (F:=Cg) (n:=0) z hb trivial ?_);refine wpIn_mono (Q 0 S (Bs.of w) _ _ w (BN _) (wF q J)) λe I w' ⟨x,s,E,W,v,hr,hv⟩=>?_
 have G:LeavesInM Cg 0 P fn I.tmps (λr w'=>∃x' u v B,r=.returned u/\Good S (Bs.of w) x' w' (λk=>(B:List O)[k]?)/\CV x' w' v u/\Kv v B) I.defers .returning w':=by
  obtain⟨M,e,R,U⟩:=E.df;rw[e];exact dR hr M w' R U E.good E.tm λw2 u g hu=>⟨x,u,v,s.h,rfl,g,hu,hv⟩
 rcases W with rfl|rfl<;>exact G
theorem br {q:Prop}{g:FuncId}{c:Code}{n:Nat}(hf:P.funcs[g]?=some fn)(hn:fn.ntmps=n)(h:q)(hb:fn.body=some c:=by exact rfl)(k:fn.ntmps=n->q->AW ⟨none,0⟩ P c (λe s=>(e=.normal\/e=.ret)/\∃v,GJ P s fn.results.toList=some v/\Kv v s.h) ⟨args++List.replicate (fn.ntmps - args.length) .any,[]⟩:=by
   intro hn h;simp only[hn,List.map_cons,List.map_nil,List.length_cons,List.length_nil,Nat.reduceAdd,Nat.reduceSub,List.replicate_succ,List.replicate_zero,List.cons_append,List.nil_append];exact h):∀(S:BF) (w:World) (us:List Value) (hS : ∀b j,S b j->b<w.heap.size) (B7:AO (Cx.bare S) w args us),Calls P g us.toArray w λr w'=>∃x' u v h',r=.returned u/\Good S (Bs.of w) x' w' (λk=>(h':List O)[k]?)/\CV x' w' v u/\Kv v h':=CQ.intro hf hb (k hn h)
def UT (P:Program)(f:FuncId)(args:List V)(ty:TypeId)(n es:Nat)(cells:Nat->List V)(mk:Value->Value):Prop:=
 ∀(S:BF) (w:World) (us:List Value),(∀b j,S b j->b<w.heap.size)->AO (Cx.bare S) w args us->
  Calls P f us.toArray w λr w'=>∃(S':BF) (B cap m:Nat) (vs:Array Value),r=.returned (mk (.slice (some ⟨B,0,none⟩) n cap))/\Ay w w'/\Ar S S' w w'/\(∀b j,S' b j->S b j\/(w.heap.size<=b/\b<w'.heap.size))/\w.heap.size<=B/\(∀j,j<vs.size->¬S' B j)/\w'.heap[B]?=some (.cells vs ty (0,0))/\AO (Cx.bare S') w' (cells m) vs.toList/\n<=cap/\cap<=maxLen/\cap*es<=vs.size
section
variable {P:Program} {f:FuncId} {args:List V} {ty:TypeId}
theorem UT.own {n es:Nat}{cells:Nat->List V}(z : ∀m,V.BI 0 (cells m)=true)(h : ∀(S:BF) (w:World) (us:List Value) (I : ∀b j,S b j->b<w.heap.size) (G:AO (Cx.bare S) w args us),Calls P f us.toArray w λr w'=>∃x' u v B,r=.returned u/\Good S (Bs.of w) x' w' (λk=>(B:List O)[k]?)/\CV x' w' v u/\∃k m,v=.own k 0 n es/\B[k]?=some (.box ty (cells m) false)):UT P f args ty n es cells id:=λS w us I G=>by
 refine(h S w us I G).mono ?_;rintro r w' ⟨x',u,_,B,rfl,g,J,k,m,rfl,E⟩;obtain⟨_,b1,M,vs,Q,b4,R⟩:=g.ok k _ E;simp only[CV]at J;obtain⟨_,_,cap,rfl,U,W,h3⟩:=J;refine⟨x'.S,(x'.loc k).b,cap,m,vs,rfl,g.keep.all,⟨g.sub,λb j v F q=>g.keep.all.cell q⟩,λb j F=>?_,Hq (g.own k _ E M),λj hj=>g.EA k _ j E ⟨rfl,by omega⟩,Q,AO.bare _ _ (z m) R,U,W,by omega⟩;rcases g.new b j F with h|h
 exact .inl h;exact .inr ⟨Hq h,g.ex b j F⟩
theorem UT.Be {l:List Int}{q Q:Int}(h : ∀(S:BF) (w:World) (us:List Value) (J : ∀b j,S b j->b<w.heap.size) (R:AO (Cx.bare S) w args us),Calls P f us.toArray w λr w'=>∃x' u v I,r=.returned u/\Good S (Bs.of w) x' w' (λk=>(I:List O)[k]?)/\CV x' w' v u/\∃k,v=.A7 [.Be k 1 (l.map λn=>[.int .i64 n]),.c (.int .i64 Q),.c (.int .i64 0)]/\I[k]?=some (.Be ty 1 (l.length+1) [.c (.int .i64 q)])) :
 UT P f args ty (l.length+1) 1 (λm=>CK (l++[q])++Aq m .any) (λu=>.tuple #[u,.int .i64 Q,.int .i64 0]):=λS w us J R=>by
 refine(h S w us J R).mono ?_;rintro r w' ⟨x',u,_,I,rfl,g,B,k,rfl,M⟩;obtain⟨_,b1,U,b3,b4,b5,vs,W,b7,b8,z⟩:=g.ok k _ M;simp only[CV,AO,Ab]at B;obtain⟨t,rfl,u1,r1,e1,⟨_,_,_,_,A,cap,rfl,hA⟩,u2,r2,e2,⟨rfl,_⟩,u3,r3,e3,⟨rfl,_⟩,rfl⟩:=B;subst e3;subst e2;obtain⟨_,rfl,c1,c2,c3,c4⟩:=hA (by rw[Ch,b3]);rw[Ch]at c1;have e0:t=#[.slice (some ⟨(x'.loc k).b,0,none⟩) (l.length+1) cap,.int .i64 Q,.int .i64 0]:=by apply Gx.1;rw[e1,Ch]
 have A0:l.length+1<=vs.size:=by omega
 refine⟨S,(x'.loc k).b,cap,vs.size - (l.length+1),vs,by rw[e0],g.keep.all,⟨λ_ _ h=>h,λb j v hs hc=>g.keep.all.cell hc⟩,λb j h=>.inl h,Hq (g.own k _ M U),λj hj hs=>?_,W,?_,c1,c2,by omega⟩;have:=J _ _ hs;exact g.own k _ M U this;refine AO.SI (by simp[CK];omega) λi v u E B=>?_
 rw[pr]at c4;rcases Nat.lt_trichotomy i l.length with F|F|F
 rw[EJ (by simp[CK];omega),CK,CM,EJ F,BE F]at E;cases E;obtain⟨v',h1,h2⟩:=B5.get c4 (i:=i) (c:=.int .i64 l[i]) (by rw[CM,BE F];rfl);rw[Cz,cell_of_row w' _ i vs ty (0,0) W]at h1;rw[Array.getElem?_toList,h1]at B;cases B;simpa only[CV,Ab]using h2;subst F;rw[EJ (by simp[CK]),CK,CM,Gy (BN _),La]at E;cases E;simp only[AO,CV,Ab]at z;obtain⟨u',ur,e4,e5,_⟩:=z;have:(vs.toList.drop ((l.length+1 - 1)*1)).take 1=[u]:=by
  rw[show (l.length+1 - 1)*1=l.length by omega];have G:=(Br.1 B).1;rw[D5 G,DP,ET];rw[BE G]at B;cases B;rfl
 rw[this]at e4;cases e4;simpa only[CV,Ab]using e5;rw[Gy (by simp[CK];omega),List.getElem?_replicate]at E;split at E;cases E;simp only[CV];cases E
theorem AC.fresh {l:List Int}{e:Int}(h : ∀(S:BF) (w:World) (us:List Value) (Q : ∀b j,S b j->b<w.heap.size) (I:AO (Cx.bare S) w args us),Calls P f us.toArray w λr w'=>∃x' u v F,r=.returned u/\Good S (Bs.of w) x' w' (λk=>(F:List O)[k]?)/\CV x' w' v u/\∃k m,v=.A7 [.own k 0 l.length 1,.c (.int .i64 e)]/\F[k]?=some (.box ty (CK l++Aq m .any) false)):AC P f args (.A7 [.c (AV l),.c (.int .i64 e)]):=λS w us Q I=>by
 refine(h S w us Q I).mono ?_;rintro r w' ⟨x',u,_,F,rfl,g,B,k,m,rfl,R⟩;obtain⟨_,b1,W,vs,J,b4,q⟩:=g.ok k _ R;simp only[CV,AO,Ab]at B;obtain⟨t,rfl,u1,r1,z,⟨_,_,cap,rfl,h1,h2,h3⟩,u2,r2,rfl,⟨rfl,rM⟩,rfl⟩:=B;have hB:=g.own k _ R W;have G:(x'.loc k).b<w'.heap.size:=(DO.1 J).1;have U:Ar x'.S (λb j=>x'.S b j\/(b=(x'.loc k).b/\j<l.length)) w' w':=⟨λ_ _ h=>.inl h,λ_ _ _ _ h=>h⟩
 refine⟨_,λb j=>x'.S b j\/(b=(x'.loc k).b/\j<l.length),rfl,g.keep.all,⟨λb j h=>.inl (g.sub b j h),λb j v E hc=>g.keep.all.cell hc⟩,λb j E=>?_,?_⟩;rcases E with E|⟨rfl,_⟩
 rcases g.new b j E with h|h
 exact .inl h;exact .inr ⟨Hq h,g.ex b j E⟩;exact .inr ⟨Hq hB,G⟩;simp only[CV,AO,Ab,AV];refine⟨t,rfl,_,_,z,⟨some ⟨(x'.loc k).b,0,none⟩,cap,by rw[Ch],by rw[Ch];exact h1,h2,λ_=>⟨_,0,1,rfl,λr hr=>by obtain⟨n,_,rfl⟩:=Da.1 hr;rfl,?_⟩⟩,_,_,rfl,⟨rfl,rM⟩,rfl⟩;rw[D9.flat,pr];have M:=q.take l.length;rw[List.take_left' (by simp[CK])]at M;have h6:B4 x'.S w' (l.map (C.int .i64)) (vs.toList.take l.length):=toCs_ok (XK l) M;refine B5.Pe (B4.mono U _ _ h6) (λj u B=>?_) λj hj=>.inr ⟨rfl,by simpa using hj⟩
 rw[Cz,cell_of_row w' _ j vs ty (0,0) J];rw[KO]at B;split at B;simpa using B;cases B
end
section
variable {P:Program} {K:Exit->St->Prop} {ops:List Oper} {s:St}
theorem SW.AEX {f:FuncId}{Bd:List V}{n es:Nat}{cells:Nat->List V}{mk:Value->Value}(F:V->V)(hc:UT P f Bd ty n es cells mk)(A5:Fp P f=true)(hg:BQ ops s.t o.guard=some true)(Co:Ee (ev s.t) o.op=some (f,Bd))(Bh : ∀x w v u,CV x w v u->CV x w (F v) (mk u))(h : ∀m,SW P ops K r (St.put ⟨s.t,s.h++[.box ty (cells m) false]⟩ o.dst (F (.own s.h.length 0 n es)))):SW P ops K (o::r) s:=λS0 w0 x a w G=>by
 have g:=G.good;obtain⟨args,E,hp⟩:=Tv Co;unfold wpList;rw[if_pos (tc G.tm hg)];refine .inl ?_;unfold C7 at E;split at E
 case h_2=>cases E
 rename_i fo J Fk ho;split at E
 case h_2=>cases E
 rename_i f' M FG;simp only[BL,Cr]at E;obtain⟨rfl,rfl⟩:=E;have I:=Pp (CW G.tm fo);rw[FG]at I;simp only[CV]at I;obtain⟨R,I,EP⟩:=I;have Hw:AO x w (J.toList.map (ev s.t)++M) (J.toList.map a.eval++R.toList):=(AO.of_map λy _=>CW G.tm y).append EP;obtain⟨fn,hf,hb,hn⟩:=P7 A5;have CT:fn.body≠none:=by intro e;rw[e]at hb;cases hb
 have F6:fn.name≠ "runtime.NumGoroutine":=by simpa using hn
 have Q:(execOp a.eval o).run P w=.ok (.enter f' (J.toList.map a.eval++R.toList).toArray) w:=by
  have e1:(J.map a.eval++R)=(J.toList.map a.eval++R.toList).toArray:=by apply Gx.1;simp
  simp[execOp,ho,resolve,I,M5,invoke,callFunc,program,HW,hf,F6,CT,e1]
 unfold Er;rw[Q];refine(hc x.S w _ g.ex (MC _ _ _ hp Hw)).mono ?_;rintro r' q ⟨W,B,cap,m,vs,rfl,z,CZ,Gc,h1,h2,h3,h4,c1,c2,c3⟩;obtain⟨g1,Mg⟩:=g.MF (x':={ x with S:=W }) z CZ rfl rfl Gc;have TV : ¬x.dom s.h.length:=λhd=>by obtain⟨ob,h⟩:=g.dom _ hd;simp at h
 obtain⟨g2,TO⟩:=g1.join s.h.length B TV ty (cells m) vs h3 (AO.mono (Ub W x q) _ _ h4) (g.fresh h1) h2 (λk' o' h hv=>by
  have:=((g.ok k' o' h).2).lt hv;have e:({ x with S:=W }:Cx).loc k'=x.loc k':=rfl;rw[e];omega)
 have e:=Kj s.h (some (s.h.length,O.box ty (cells m) false)) (λk' o' e=>by cases e;exact BN _);simp only[Bk,IY,if_false,Bx.upd]at e;have U:Bo S0 w0 _ ⟨s.t,s.h++[.box ty (cells m) false]⟩ a q:=⟨by rw[e];exact g2,AO.mono (Mg.trans TO) _ _ G.tm,G.df.mono (.FR z)⟩
 refine h m S0 w0 _ _ q (Bo.put U.tm U.df (Ext.refl _ _) U.good (v:=F (.own s.h.length 0 n es)) (Bh _ _ _ _ ?_) o.dst);simp only[CV,Cx.C4,if_true];exact⟨.inr trivial,trivial,cap,rfl,c1,c2,by omega⟩
end
def ACJ (cls CC:List Int)(k:Nat):List C:=[.int .i64 (k:Int),.int .i64 (cls.getD k 0),.int .i64 (CC.getD k 0)]
def fS (cls CC:List Int)(k:Nat):List Value:=[.int .i64 (k:Int),.int .i64 (cls.getD k 0),.int .i64 (CC.getD k 0)]
def Sh (y:Nat)(cls CC:List Int)(k:Nat):List V:=[.yl y,.cp [AV cls] 0,.cp [AV CC] 0,.any,.any,.any,.c (AV cls),.c (.int .i64 (cls.length:Int)),.c (.int .i64 (k:Int)),.any,.any,.any,.any,.any,.any,.any,.any,.any,.any,.any,.any,.any,.any,.any]
theorem Aaa (cls CC:List Int)(h:CC.length=cls.length)(U:cls.length<=1000000):MS AF 108 [.cp [AV cls] 0,.cp [AV CC] 0] (λ(pre:List Unit) (_:Unit)=>#[.agg (fS cls CC pre.length).toArray]) (λxs=>xs.length=cls.length) cls.length:=by
 refine MS.intro func108 rfl rfl λY=>?_
 simp only[ntmps108,BA,BO,Nat.reduceAdd,Nat.reduceSub,BY,Cy,BK,BU];refine ED @AV.eq_1 ?_;refine IW.loop (ι:={ k:Nat // k<=cls.length }) (λk=>(⟨Aq k.1 (),false⟩,⟨Sh Y.l cls CC k.1,[]⟩)) (λk=>cls.length - k.1) ⟨0,by omega⟩ rfl ?_ ?_;refine G1.drop (by simp[DG,Sh,AV]) (by simp[V.BI,V.A8,Sh]);rintro ⟨k,S⟩;simp only[Sh];by_cases B:k<cls.length;have R:AZ.wrap ((k:Int)+1)=((k+1:Nat):Int):=by rw[Ac];simp
 have E:k<CC.length:=by omega
 have M:cls.getD k 0=cls[k]:=by simp[Bv,BE B]
 have Q:CC.getD k 0=CC[k]:=by simp[Bv,BE E]
 obtain⟨c,F⟩:=AI (cls[k]);obtain⟨v,I⟩:=AI (CC[k]);refine ED (cj4 @B @E @F @I @AV.eq_1) ?_;refine IL.AMF () (Sh Y.l cls CC k) rfl rfl (by simp[ev]) ?_ (by simpa using B) (by simp[DG,Sh,AV]) (by simp[V.BI,V.A8,Sh]) ?_ ?_;intro x w u G;simp[ev,CV,AO,Ab]at G;obtain⟨vs,rfl,_,_,J,⟨rfl,_⟩,_,_,rfl,⟨rfl,_⟩,_,rfl,rfl,_⟩:=G;rw[List.length_replicate,show vs=(fS cls CC k).toArray from Gx.1 (by rw[J];simp only[fS,M,Q,F,I])];simp only[St.put,Sh,Ag,Ai,BA,BO,Nat.reduceAdd,BY,Cy];refine ED @R ?_;refine⟨⟨k+1,by omega⟩,by simp only;omega,?_,?_⟩;simp[List.replicate_succ'];exact G1.drop (by simp[DG,Sh,AV]) (by simp[V.BI,V.A8,Sh]);simp only[St.put,Sh,Ag,Ai,BA,BO,Nat.reduceAdd,BY,Cy];refine ED trivial ?_;exact⟨.inr rfl,λh=>nomatch h⟩;refine ED @B ?_;exact⟨.inl rfl,λ_=>by simp;omega⟩
theorem Aab (cls CC:List Int):AC AF 55 [.c (AV cls),.c (AV CC)] (.fn 108 [.cp [AV cls] 0,.cp [AV CC] 0]):=by
 unfold AV;refine en func55 ntmps55 ?_;with_reducible refine AW.seq ?_
 with_reducible refine AW.region ?_
 with_reducible refine If (by simp[BY];first|exact rfl|exact⟨rfl,rfl⟩) ?_
 with_reducible refine Kz ?_
 with_reducible refine G3 ?_
 refine Cn 0 ?_;refine Cn 1 ?_;refine Ah ?_;exact At results55
def El (q:Int×Int×Int):List C:=[.int .i64 q.1,.int .i64 q.2.1,.int .i64 q.2.2]
def E7 (cls W sp:List Int):Nat->List (Int×Int×Int)×(Int×Int×Int)
 | 0=>([],(W.getD 0 0,0,0))
 | k+1=>if OX cls (k+1)=true then((E7 cls W sp k).1++[(E7 cls W sp k).2],(W.getD (k+1) 0,sp.getD (k+1) 0,if cls.getD (k+1) 0=3 then 50 else 150))else((E7 cls W sp k).1,((E7 cls W sp k).2.1+(sp.getD (k+1) 0+W.getD (k+1) 0),(E7 cls W sp k).2.2))
def Ni (cls W sp:List Int)(k:Nat):List (Int×Int×Int):=(E7 cls W sp k).1++[(E7 cls W sp k).2]
def sF (cls W sp:List Int):Nat->V
 | 0=>.gr 6 3 []
 | k+1=>.Be 6 3 ((E7 cls W sp k).1.map El)
def sE (cls W sp:List Int):Nat->O
 | 0=>.tok 105 3 0
 | k+1=>.Be 105 3 ((E7 cls W sp k).1.length+1) ((El (E7 cls W sp k).2).map V.c)
theorem Q7 {n:Int}(B : -9223372036854775808<=n)(E:n<=9223372036854775807):(Lit.int .i64 n).wf=true:=by
 have:=fV .i64 n;rwa [wrap_i64 B E]at this
theorem o8 (k es n:Nat)(row:List C)(b:AA):b.vs.map (V.Db k es n row)=b.vs:=pT k es n row b.row
theorem AJP (cls W sp:List Int)(B : ∀k,-1073741824<=W.getD k 0/\W.getD k 0<=1073741824)(hs : ∀k,-1073741824<=sp.getD k 0/\sp.getD k 0<=1073741824):∀k:Nat,-((k:Int)+1)*2147483648<=(E7 cls W sp k).2.1/\(E7 cls W sp k).2.1<=((k:Int)+1)*2147483648
 | 0=>by have:=B 0;simp only[E7];omega
 | k+1=>by
   have E:=AJP cls W sp B hs k;have F:=B (k+1);have G:=hs (k+1);simp only[E7];split;simp only;omega;simp only;omega
theorem AA1 (cls W sp:List Int):∀k,(E7 cls W sp k).1.length<=k
 | 0=>BN _
 | k+1=>by
   have:=AA1 cls W sp k;simp only[E7];split;simp;omega;simp only;omega
theorem jH {l:List Int}(h : ∀v∈l,-1073741824<=v/\v<=1073741824)(k:Nat): -1073741824<=l.getD k 0/\l.getD k 0<=1073741824:=by
 rw[Bv];cases B:l[k]? with
 | none=>simp
 | some v=>exact h v (Cj B)
def SJ (q:Int×Int×Int):Bool:=decide (0<=q.1) && (decide (q.1<=10000000) && (decide (-20000<=q.2.1) && decide (q.2.1<=20000)))
def Zk (L:List (Int×Int×Int)):Bool:=decide (L.length<=64) && L.all SJ
theorem AW4 (f:AP)(D:C)(AE:List Nd)(s:Aa)(b:AA)(PL:C)(cls sp:List Int)(N:Nat)(hT:AC AF 51 [.agg f.vs,.c D,Am (Dd AE),Aj s] (.A7 [Ao b,AR 0]))(hP:AC AF 52 [.c D,.c (.sl (Nd.AG AE))] (.A7 [.c PL,AR 0]))(hC:AC AF 53 [.c D,.c (.sl (Nd.AG AE))] (.A7 [.c (AV cls),AR 0]))(hS:AC AF 54 [.agg f.vs,.c D,.c (.sl (Nd.AG AE)),Aj s] (.A7 [.c (AV sp),AR 0]))(Ws : ∀c∈b.AE,-1073741824<=c.w/\c.w<=1073741824)(Yi : ∀v∈cls,-1073741824<=v/\v<=1073741824)(Y2 : ∀v∈sp,-1073741824<=v/\v<=1073741824)(h0:0<N)(h1:N<=100)(hk:b.AE.length=N)(hc:cls.length=N)(hs:sp.length=N) :
 AC AF 22 [.agg f.vs,.c D,Am (Dd AE),Aj s] (if Zk (Ni cls (b.AE.map AA.w) sp (N - 1))=true then .A7 [.c (.sl ((Ni cls (b.AE.map AA.w) sp (N - 1)).map El)),.c PL,AR 0]else .A7 [.c (.sl []),.c (.sl []),AR 6]):=by
 have hV:=Aab cls sp;have hI:=Aaa cls sp (by omega) (by omega);obtain⟨rs,Aw⟩:=AI (AA.AG b.AE);have Av:rs.length=N:=by rw[<-Aw,GA,hk]
 obtain⟨ns,Fg⟩:=AI (Nd.AG AE);obtain⟨CL,A1⟩:=AI (AV cls);obtain⟨SP,yQ⟩:=AI (AV sp);obtain⟨lv,cr⟩:=s;rw[Fg]at hP hC hS;rw[A1]at hC hV hI;rw[yQ]at hS hV hI;simp only[Am,Nd.vs,Aj,Nd.row,Dd,Ap,BB,As,AR,Fg]at hT hP hC hS ⊢;refine en func22 ntmps22 ?_;refine wy (cj2 @Aw @Av MO) (cj5 hT hP hC hS hV trivial) ⟨?_⟩;obtain⟨W,hW⟩:=AI (b.AE.map AA.w);rw[hW];simp only[hc]at hI;have yW : ∀v∈W,-1073741824<=v/\v<=1073741824:=λv hv=>by
  rw[<-hW]at hv;obtain⟨c,h1,rfl⟩:=Da.1 hv;exact Ws c h1
 refine AW.le (Le.T4 5 0 105 3 rfl rfl) ?_;simp only[BA,BO,Nat.reduceAdd,Ag,Ai,BK,BU];refine AW.AXb (α:=Unit) rfl rfl rfl rfl rfl rfl (caps:=[.cp [CL] 0,.cp [SP] 0]) (by simp[ev]) rfl func108 (by kernel_rfl) (by kernel_rfl) (λpre _=>fS cls sp pre.length) (λpre _=>ACJ cls sp pre.length) N ?_ ?_ AZ1 (λ_ _=>rfl) AZv _ hI
  (λpre=>[O.box 27 f.vs false,O.box 33 [.c (.int .i64 1),.c (.str ⟨#[]⟩),.c (.int .i64 0),.c (.sl ns)] false,O.box 63 [.c (.int .i64 lv),.c (.bool cr)] false,O.box 41 b.vs false,O.box 39 [.c CL] false,O.box 59 [sF cls W sp pre.length] false,sE cls W sp pre.length]) ?_ 7 (λ_=>rfl) (by simp) (by simp) (by decide) ?_ ?_ ?_ ?_
 intro pre y S w hN;have b1:=jH Yi pre.length;have b2:=jH Y2 pre.length;simp only[ACJ,fS,B4,Ab];exact⟨_,_,rfl,⟨rfl,Q7 (by omega) (by omega)⟩,_,_,rfl,⟨rfl,Q7 (by omega) (by omega)⟩,_,_,rfl,⟨rfl,Q7 (by omega) (by omega)⟩,rfl⟩;intro pre y v hv;simp only[fS,Cf,RE,or_false]at hv;rcases hv with rfl|rfl|rfl<;>rfl
 rfl
 . rintro lp pre ⟨⟩ hN;simp only[Cp,BA,BO,Cz,Ag,Ai];obtain⟨k,Hh⟩:=AI pre.length;simp only[Hh]at hN ⊢;clear Hh pre;obtain⟨c,Yl⟩:∃c,b.AE[k]?=some c:=⟨_,BE (by omega)⟩
   have E:rs[k]?=some c.row:=by rw[<-Aw,Dt,CM,Yl];rfl
   have Q:=gx E;have z:k<rs.length:=by omega
   have OM:W.getD k 0=c.w:=by rw[<-hW,Bv,CM,Yl];rfl
   have A3:=Ws c (Cj Yl);have A8:=Y2 (sp.getD k 0) (by rw[Bv,BE (by omega)];exact Kq _);simp only[ACJ,Ap,BB];obtain⟨cv,A0⟩:=AI (cls.getD k 0);obtain⟨sv,QW⟩:=AI (sp.getD k 0);rw[QW]at A8;simp only[A0,QW];obtain⟨b0,b1,b2,b3,b4,b5,b6,b7,bk,bo,bs⟩:=c;simp only[AA.row]at E Q OM A3;rcases k with _|j
   simp only[sF,sE,E7,OM,El,Ap,BB];refine wu (.mk 23) (cj5 @Aw @Av @E @Q @z MO) trivial ⟨?_⟩;refine AW.lC rfl ?_;refine CY (.mk 3) trivial ?_;refine SW.Tq (.Be 6 3 []) (some (6,.Be 105 3 1 [.c (.int .i64 b3),.c (.int .i64 0),.c (.int .i64 0)])) (λk ob e=>by cases e;simp) rfl (λS0 w0 x a w g ht=>?_) ?_;have G:=CW ht (.tmp 115);have F:=CW ht (.tmp 117);simp only[ev,Om,On,CV]at G F;obtain⟨_,_,F⟩:=F;exact dk g rfl lY (by simp only[CV];exact G) F (by decide) rfl (by decide) (by decide) rfl;simp only[St.step,St.put,Bk,BA,BO,Nat.reduceAdd,Nat.reduceLT,if_true,Ag,Ai];refine CY (.mk 1) trivial ?_;refine SW.nil ⟨rfl,?_⟩;refine MV ?_;exact⟨rfl,_,wd 7 (hs:=Q0 _) (hh:=rfl) (hb:=P5 7 _)⟩
   . have qV:=AJP cls W sp (jH yW) (jH Y2) j;obtain⟨⟨R,w,u,p⟩,hq⟩:=AI (E7 cls W sp j);have Rt:=AJq cls (j+1) (by omega) (by omega);rw[A1]at Rt;have Ec:OX cls (j+1)=true->E7 cls W sp (j+1)=(R++[(w,u,p)],(b3,sv,if cv=3 then 50 else 150)):=λh=>by simp only[E7];rw[if_pos h,hq,OM,QW,A0]
     have Fb:OX cls (j+1)=false->E7 cls W sp (j+1)=(R,(w+(sv+b3),u,p)):=λh=>by simp only[E7];rw[if_neg (by rw[h];simp),hq,OM,QW]
     have Md:R.length<=j:=by rw[<-show (E7 cls W sp j).1=R by rw[hq]];exact AA1 cls W sp j
     rw[hq]at qV;simp only at qV;simp only[sF,sE,hq];cases B8:OX cls (j+1)with
     | false =>
       rw[B8]at Rt;rw[Fb B8];clear Ec Fb B8;obtain⟨K,hK⟩:=AI (j+1);rw[hK]at hN Yl E z OM A0 QW Rt ⊢;have Q:=gx E;have qM:0<(K:Int):=by omega
       obtain⟨M,hM⟩:=AI R.length;obtain⟨RR,YW⟩:=AI (R.map El);have WW:RR.length=M:=by rw[<-YW,Ch,hM]
       rw[hM,YW];simp only[El,Ap,BB];refine wu (.mk 16) (cj6 @Aw @Av @E @Q @z @qM MO) (cj Rt<|trivial) ⟨?_⟩;have e1:AZ.wrap (((M+1:Nat):Int) - 1)=(M:Int):=by rw[Ac];omega
       have xM:AZ.wrap (M:Int)=(M:Int):=Ac;have e2:AZ.wrap (sv+b3)=sv+b3:=Ac;have e3:AZ.wrap (w+(sv+b3))=w+(sv+b3):=Ac;refine AW.Lm Fz (.inr (by decide)) ?_;refine TW.take 2 (Es (by simp;first|exact rfl|exact⟨rfl,rfl⟩|exact⟨rfl,rfl,rfl⟩) (HI ?_));simp only[CU,B9];refine TW.op ⟨.c (.int .i64 ((M+1:Nat):Int)),none,none⟩ rfl (by intro k ob h;cases h) (λS0 w0 x a J H g B E=>?_) ?_;have G:CV x J (.Be 6 3 RR) (a.eval (.tmp 87)):=B (.tmp 87) (by simp[Bl,Df]);rw[<-WW];exact AVB g rfl AZz G (by unfold maxLen;omega);simp only[St.step,St.put,Bk,BA,BO,Nat.reduceAdd,Nat.reduceLT,if_true,Ag,Ai,BU,BK,CU,B9];refine TW.take 1 (Es (by simp[e1,xM];first|exact rfl|exact⟨rfl,rfl⟩|exact⟨rfl,rfl,rfl⟩) (HI ?_));simp only[CU,B9];refine TW.op ⟨.hp 6 (M+1) (M*3),none,some 6⟩ rfl (by intro k ob h;cases h) (λS0 w0 x a J H g B E=>?_) ?_;have G:CV x J (.Be 6 3 RR) (a.eval (.tmp 86)):=B (.tmp 86) (by simp[Bl,Df]);have F:CV x J (.c (.int .i64 (M:Int))) (a.eval (.tmp 89)):=B (.tmp 89) (by simp[Bl]);have hH:=E 6 rfl;rw[<-WW]at F hH ⊢;exact r7 g rfl G F lY hH;simp only[St.step,St.put,Bk,BA,BO,Nat.reduceAdd,Nat.reduceLT,if_true,Ag,Ai,BU,BK,CU,B9];refine TW.op ⟨.hp 6 (M+1) (M*3),none,some 6⟩ rfl (by intro k ob h;cases h) (λS0 w0 x a J H g B E=>?_) ?_;have G:CV x J (.hp 6 (M+1) (M*3)) (a.eval (.tmp 90)):=B (.tmp 90) (by simp[Bl]);exact AIx g rfl ALm (by decide) G (E 6 rfl);simp only[St.step,St.put,Bk,BA,BO,Nat.reduceAdd,Nat.reduceLT,if_true,Ag,Ai,BU,BK,CU,B9];refine TW.op ⟨.c (.int .i64 w),none,some 6⟩ rfl (by intro k ob h;cases h) (λS0 w0 x a J H g B E=>?_) ?_;have G:CV x J (.hp 6 (M+1) ((M+1 - 1)*3+0)) (a.eval (.tmp 91)):=B (.tmp 91) (by simp[Bl]);exact AVD g rfl ALi G (E 6 rfl) rfl;simp only[St.step,St.put,Bk,BA,BO,Nat.reduceAdd,Nat.reduceLT,if_true,Ag,Ai,BU,BK,CU,B9];refine TW.take 5 (Es (by simp[e2,e3];first|exact rfl|exact⟨rfl,rfl⟩|exact⟨rfl,rfl,rfl⟩) (HI ?_));simp only[CU,B9];refine TW.op ⟨.hp 6 (M+1) (M*3),none,some 6⟩ rfl (by intro k ob h;cases h) (λS0 w0 x a J H g B E=>?_) ?_;have G:CV x J (.Be 6 3 RR) (a.eval (.tmp 86)):=B (.tmp 86) (by simp[Bl,Df]);have F:CV x J (.c (.int .i64 (M:Int))) (a.eval (.tmp 89)):=B (.tmp 89) (by simp[Bl]);have hH:=E 6 rfl;rw[<-WW]at F hH ⊢;exact r7 g rfl G F lY hH;simp only[St.step,St.put,Bk,BA,BO,Nat.reduceAdd,Nat.reduceLT,if_true,Ag,Ai,BU,BK,CU,B9];refine TW.op ⟨.hp 6 (M+1) (M*3),none,some 6⟩ rfl (by intro k ob h;cases h) (λS0 w0 x a J H g B E=>?_) ?_;have G:CV x J (.hp 6 (M+1) (M*3)) (a.eval (.tmp 98)):=B (.tmp 98) (by simp[Bl]);exact AIx g rfl ALm (by decide) G (E 6 rfl);simp only[St.step,St.put,Bk,BA,BO,Nat.reduceAdd,Nat.reduceLT,if_true,Ag,Ai,BU,BK,CU,B9];refine TW.op ⟨.any,some (6,.Be 105 3 (M+1) [.c (.int .i64 (w+(sv+b3))),.c (.int .i64 u),.c (.int .i64 p)]),some 6⟩ rfl (by intro k ob h;cases h;simp) (λS0 w0 x a J H g B E=>?_) ?_;have G:CV x J (.hp 6 (M+1) (M*3)) (a.eval (.tmp 99)):=B (.tmp 99) (by simp[Bl]);have F:=B (.tmp 97) (by simp[Bl]);exact AVQ g (e:=ev _) rfl ALi G F (E 6 rfl) rfl rfl rfl;simp only[St.step,St.put,Bk,BA,BO,Nat.reduceAdd,Nat.reduceLT,if_true,Ag,Ai,BU,BK,CU,B9];refine TW.nil ⟨by kernel_rfl,?_⟩;refine Ah ?_;exact⟨rfl,_,wd 7 (hs:=Q0 _) (hh:=rfl) (hb:=P5 7 _)⟩
     | true =>
       rw[B8]at Rt;rw[Ec B8];clear Ec Fb B8;generalize hK:j+1=K at hN Yl E z OM A0 QW Rt ⊢;have Q:=gx E;have qM:0<(K:Int):=by omega
       have A2 : ¬(K:Int)=0:=by omega
       obtain⟨M,hM⟩:=AI R.length;obtain⟨RR,YW⟩:=AI (R.map El);have WW:RR.length=M:=by rw[<-YW,Ch,hM]
       simp only[Fm,Cp,BA,BO,Cz,hM,YW,El,Ap,BB];by_cases NP:cv=3
       . rw[if_pos NP];refine wu (.mk 23) (cj8 @Aw @Av @E @Q @z @qM @A2 @NP MO) (cj Rt<|trivial) ⟨?_⟩;refine AW.le (Le.Db 6 (ty:=105) (es:=3) (n:=M) (cs:=[.c (.int .i64 w),.c (.int .i64 u),.c (.int .i64 p)]) (row:=[.int .i64 w,.int .i64 u,.int .i64 p]) rfl rfl ?_) ?_
         . intro j ty es cur cs h;iterate 6 (rcases j with _|j;· simp at h)
           rcases j with _|j
           rfl;rcases j with _|j
           simp at h;simp at h
         simp only[Ap,BB,V.Db,O.Db,WW,and_self,if_true,lh,o8];obtain⟨R2,YU⟩:=AI (RR++[[C.int .i64 w,.int .i64 u,.int .i64 p]]);have e4:M+1=R2.length:=by rw[<-YU];simp[WW]
         rw[YU,e4];refine AW.lC rfl ?_;refine CY (.mk 3) trivial ?_;refine SW.Tq (.Be 6 3 R2) (some (6,.Be 105 3 (R2.length+1) [.c (.int .i64 b3),.c (.int .i64 sv),.c (.int .i64 50)])) (λk ob e=>by cases e;simp) rfl (λS0 w0 x a J g ht=>?_) ?_;have G:=CW ht (.tmp 115);have F:=CW ht (.tmp 117);simp only[ev,Om,On]at G F;simp only[CV]at F;obtain⟨_,_,F⟩:=F;exact dk g rfl lY G F (by decide) rfl (by rw[<-e4];unfold maxLen;omega) (by rw[<-e4];omega) rfl;simp only[St.step,St.put,Bk,BA,BO,Nat.reduceAdd,Nat.reduceLT,if_true,Ag,Ai];refine CY (.mk 1) trivial ?_;refine SW.nil ⟨rfl,?_⟩;refine MV ?_;exact⟨rfl,_,wd 7 (hs:=Q0 _) (hh:=rfl) (hb:=P5 7 _)⟩
       . rw[if_neg NP];refine wu (.mk 23) (cj8 @Aw @Av @E @Q @z @qM @A2 @NP MO) (cj Rt<|trivial) ⟨?_⟩;refine AW.le (Le.Db 6 (ty:=105) (es:=3) (n:=M) (cs:=[.c (.int .i64 w),.c (.int .i64 u),.c (.int .i64 p)]) (row:=[.int .i64 w,.int .i64 u,.int .i64 p]) rfl rfl ?_) ?_
         . intro j ty es cur cs h;iterate 6 (rcases j with _|j;· simp at h)
           rcases j with _|j
           rfl;rcases j with _|j
           simp at h;simp at h
         simp only[Ap,BB,V.Db,O.Db,WW,and_self,if_true,lh,o8];obtain⟨R2,YU⟩:=AI (RR++[[C.int .i64 w,.int .i64 u,.int .i64 p]]);have e4:M+1=R2.length:=by rw[<-YU];simp[WW]
         rw[YU,e4];refine AW.lC rfl ?_;refine CY (.mk 3) trivial ?_;refine SW.Tq (.Be 6 3 R2) (some (6,.Be 105 3 (R2.length+1) [.c (.int .i64 b3),.c (.int .i64 sv),.c (.int .i64 150)])) (λk ob e=>by cases e;simp) rfl (λS0 w0 x a J g ht=>?_) ?_;have G:=CW ht (.tmp 115);have F:=CW ht (.tmp 117);simp only[ev,Om,On]at G F;simp only[CV]at F;obtain⟨_,_,F⟩:=F;exact dk g rfl lY G F (by decide) rfl (by rw[<-e4];unfold maxLen;omega) (by rw[<-e4];omega) rfl;simp only[St.step,St.put,Bk,BA,BO,Nat.reduceAdd,Nat.reduceLT,if_true,Ag,Ai];refine CY (.mk 1) trivial ?_;refine SW.nil ⟨rfl,?_⟩;refine MV ?_;exact⟨rfl,_,wd 7 (hs:=Q0 _) (hh:=rfl) (hb:=P5 7 _)⟩
 . rintro xs hx;simp only[hx];obtain⟨M,hM⟩:∃M,N=M+1:=⟨N - 1,by omega⟩
   subst hM;simp only[aM];obtain⟨⟨R,w,u,p⟩,hq⟩:=AI (E7 cls W sp M);have Md:R.length<=M:=by rw[<-show (E7 cls W sp M).1=R by rw[hq]];exact AA1 cls W sp M
   unfold Ni;simp only[sF,sE,hq,El,Ap,BB];refine MV ?_;refine G3 ?_;refine AW.le (Le.Db 6 (ty:=105) (es:=3) (n:=R.length) (cs:=[.c (.int .i64 w),.c (.int .i64 u),.c (.int .i64 p)]) (row:=[.int .i64 w,.int .i64 u,.int .i64 p]) rfl rfl ?_) ?_
   . intro j ty es cur cs h;iterate 6 (rcases j with _|j;· simp at h)
     rcases j with _|j
     rfl;simp at h
   simp only[Ap,BB,V.Db,O.Db,and_self,if_true,Ch,lh,o8];obtain⟨L,hL⟩:=AI (R++[(w,u,p)]);have cI:R.map El++[[.int .i64 w,.int .i64 u,.int .i64 p]]=L.map El:=by rw[<-hL];simp[El]
   have Io:R.length+1=L.length:=by rw[<-hL];simp
   rw[cI,Io];simp only[hL];obtain⟨n,hn⟩:=AI L.length;obtain⟨LR,yF⟩:=AI (L.map El);have WU:LR.length=n:=by rw[<-yF,Ch,hn]
   unfold Zk;rw[hn,yF];by_cases B1:(n:Int)<=64
   . have xn:n<=64:=by omega
     have A6 : ¬64<(n:Int):=by omega
     rw[decide_eq_true xn,Cd];refine wy (cj2 @WU @A6 MO) trivial ⟨?_⟩;refine lp (ι:={ k:Nat // k<=n/\(L.take k).all SJ=true }) (λk=>[(124,.c (.int .i64 (k.1:Int)))]) (λ_=>[O.box 27 f.vs false,O.box 33 [.c (.int .i64 1),.c (.str ⟨#[]⟩),.c (.int .i64 0),.c (.sl ns)] false,O.box 63 [.c (.int .i64 lv),.c (.bool cr)] false,O.box 41 b.vs false,O.box 39 [.c CL] false,O.box 59 [.gr 6 3 LR] false,O.tok 105 3 n]) (λk=>n - k.1) ⟨0,by simp⟩ ?_ ?_;all_goals simp only[puts,Bw,List.foldl_nil,Ag,Ai]
     exact DH;rintro ⟨k,hk,I⟩;simp only at hk ⊢;by_cases U:k<n;obtain⟨⟨q1,q2,q3⟩,OH⟩:∃q,L[k]?=some q:=⟨_,BE (by omega)⟩
     have E:LR[k]?=some [.int .i64 q1,.int .i64 q2,.int .i64 q3]:=by rw[<-yF,CM,OH];rfl
     have Q:=gx E;have z:k<LR.length:=by omega
     have hw:AZ.wrap ((k:Int)+1)=((k+1:Nat):Int):=by rw[Ac];simp
     cases A5:SJ (q1,q2,q3)with
     | false =>
       rw[if_neg (by
        intro ha;have:=ES.1 ha _ (Cj OH);rw[A5]at this;cases this)]
       have B0:q1<0\/10000000<q1\/q2 < -20000\/20000<q2:=by
        simp only[SJ,Bool.and_eq_false_iff,decide_eq_false_iff_not]at A5;omega
       clear A5 I;by_cases g1:q1<0;exact wz (cj6 @U @WU @E @Q @z @g1 MO) trivial;by_cases g2:10000000<q1;exact wz (cj7 @U @WU @E @Q @z @g1 @g2 MO) trivial;by_cases g3:q2 < -20000;exact wz (cj8 @U @WU @E @Q @z @g1 @g2 @g3 MO) trivial;have g4:20000<q2:=by omega
       exact wz (cj9 @U @WU @E @Q @z @g1 @g2 @g3 @g4 MO) trivial
     | true =>
       have cU:(L.take (k+1)).all SJ=true:=by
        rw[List.take_add_one,OH,ACn,I];simp[A5]
       simp only[SJ,Ak,decide_eq_true_eq]at A5;obtain⟨o1,o2,o3,o4⟩:=A5;have g1 : ¬q1<0:=by omega
       have g2 : ¬10000000<q1:=by omega
       have g3 : ¬q2 < -20000:=by omega
       have g4 : ¬20000<q2:=by omega
       clear I;refine wy (cj9 @U @WU @E @Q @z @g1 @g2 @g3 @g4<|cj @hw MO) trivial ⟨?_⟩;exact⟨⟨k+1,by omega,cU⟩,by simp only;omega,wd 7⟩
     have ek:k=n:=by omega
     subst ek;rw[<-hn,List.take_length]at I;rw[if_pos I];clear I;exact wz (cj2 @U @WU MO) trivial
   rw[decide_eq_false (by omega),Bool.false_and,if_neg (by simp)];have xn:64<(n:Int):=by omega
   exact wz (cj2 @WU @xn MO) trivial
 rintro (_|⟨_,_⟩)<;>rfl;rintro (_|⟨_,_⟩)<;>rfl
def JQ (L:List (Int×Int×Int))(k:Nat):Int×Int×Int:=L.getD k (0,0,0)
def HQ (L:List (Int×Int×Int))(i:Nat):Nat->Int
 | 0=>0
 | m+1=>(HQ L i m+if m=0 then 0 else(JQ L (i+m)).2.1)+(JQ L (i+m)).1
def Mx (q:Int×Int×Int):Bool:=SJ q && (decide (-10000<=q.2.2) && decide (q.2.2<=10000))
def Gg (L:List (Int×Int×Int)):Bool:=decide (1<=L.length) && (decide (L.length<=64) && L.all Mx)
theorem kp {L:List (Int×Int×Int)}(h:L.all Mx=true)(k:Nat):(0<=(JQ L k).1/\(JQ L k).1<=10000000)/\(-20000<=(JQ L k).2.1/\(JQ L k).2.1<=20000)/\(-10000<=(JQ L k).2.2/\(JQ L k).2.2<=10000):=by
 unfold JQ;rw[Bv];cases e:L[k]? with
 | none=>simp
 | some q=>have:=ES.1 h q (Cj e);simp only[Mx,SJ,Ak,decide_eq_true_eq]at this;simp only[Dm];omega
theorem dV {L:List (Int×Int×Int)}(h:L.all Mx=true)(i:Nat):∀m:Nat,-20000*(m:Int)<=HQ L i m/\HQ L i m<=10020000*(m:Int)
 | 0=>by simp[HQ]
 | m+1=>by
   have B:=dV h i m;have E:=kp h (i+m);simp only[HQ];split<;>omega
def IQ (L:List (Int×Int×Int))(w:Int)(i j:Nat):Int×Bool:=
 let b:=100+if 0<i then(JQ L i).2.2 else 0
 let d:=w - HQ L i (j - i)
 if d<0 then(b+20000 - d,decide (j=i+1))
 else if j<L.length then(b+(if 100<(100*d).tdiv w then 100 else(100*d).tdiv w)*(if 100<(100*d).tdiv w then 100 else(100*d).tdiv w),true)
 else(b,true)
theorem AUF (w:Int)(i:Nat):(IQ L w i (i+1)).2=true:=by
 unfold IQ;simp only;split;simp;split<;>rfl
structure Tl where
 there:Bool
 RZ:Int
 fin:Int
def Tl.zero:Tl:=⟨false,0,0⟩
def YB (a b:Tl)(n:Int):Tl:=
 if a.there=false then b
 else if b.there=false\/a.RZ<b.RZ then a
 else if b.RZ<a.RZ\/(b.fin=n/\a.fin≠n)then b
 else if a.fin=n\/a.fin<=b.fin then a else b
theorem AEK (a b:Tl)(n:Int):(YB a b n=a/\a.there=true)\/YB a b n=b:=by
 unfold YB;split;exact .inr rfl
 . rename_i h;have h:a.there=true:=by cases B:a.there<;>simp_all
   split;exact .inl ⟨rfl,h⟩;split;exact .inr rfl;split;exact .inl ⟨rfl,h⟩;exact .inr rfl
def Nb (L:List (Int×Int×Int))(w:Int)(i:Nat):List (Nat×Int):=
 (List.range' (i+1) (L.length - i)).filterMap λj=>if (IQ L w i j).2 then some (j,(IQ L w i j).1)else none
def N6 (T:Nat->Tl)(n:Nat)(b:Tl)(q:Nat×Int):Tl:=if (T q.1).there=true then YB b ⟨true,AZ.wrap (q.2+(T q.1).RZ),(q.1:Int)⟩ (n:Int)else b
def TF (L:List (Int×Int×Int))(w:Int)(T:Nat->Tl)(i:Nat):Tl:=(Nb L w i).foldl (N6 T L.length) Tl.zero
def HV (L:List (Int×Int×Int))(w d:Int):Nat->List Tl
 | 0=>[⟨true,0,0⟩]
 | k+1=>TF L (if 0<L.length - (k+1)then w - d else w) (λj=>(HV L w d k).getD (j - (L.length - k)) Tl.zero) (L.length - (k+1))::HV L w d k
theorem fN (L:List (Int×Int×Int))(w d:Int):∀k,(HV L w d k).length=k+1
 | 0=>rfl
 | k+1=>by simp only[HV,BA,fN L w d k]
def Vv (n i:Nat)(t:Tl):Prop:=t.there=true/\(i:Int)<t.fin/\t.fin<=(n:Int)
theorem AFT (T:Nat->Tl)(n i:Nat):∀(l:List (Nat×Int)) (b:Tl),(∀q∈l,i<q.1/\q.1<=n)->(Vv n i b\/(b.there=false/\∃q∈l,(T q.1).there=true))->Vv n i (l.foldl (N6 T n) b)
 | [],b,_,h=>by
   rcases h with h|⟨_,q,J,_⟩
   exact h;cases J
 | q::l,b,I,h=>by
   obtain⟨q1,q2⟩:=I q (by simp);refine AFT T n i l _ (λr B=>I r (by simp[B])) ?_;unfold N6;by_cases E:(T q.1).there=true;rw[if_pos E];rcases AEK b ⟨true,AZ.wrap (q.2+(T q.1).RZ),(q.1:Int)⟩ (n:Int)with ⟨e,G⟩|e
   rw[e];rcases h with h|⟨h,_⟩
   exact .inl h;rw[h]at G;cases G;rw[e];exact .inl ⟨rfl,by simp only;omega,by simp only;omega⟩;rw[if_neg E];rcases h with h|⟨h,r,B,F⟩
   exact .inl h;rcases Cf.1 B with rfl|B
   exact absurd F E;exact .inr ⟨h,r,B,F⟩
theorem AAY (w:Int)(i:Nat):∀q∈Nb L w i,i<q.1/\q.1<=L.length:=by
 intro q B;unfold Nb at B;obtain⟨j,E,e⟩:=mX.1 B;split at e;cases e;rw[tp]at E;exact⟨by simp only;omega,by simp only;omega⟩;cases e
theorem AT8 (w:Int)(i:Nat)(h:i<L.length):∃q∈Nb L w i,q.1=i+1:=by
 refine⟨(i+1,(IQ L w i (i+1)).1),?_,rfl⟩;unfold Nb;rw[mX];exact⟨i+1,by rw[tp];omega,by rw[if_pos (AUF L w i)]⟩
theorem fO (L:List (Int×Int×Int))(w d:Int):∀k,k<=L.length->∀m t,(HV L w d k)[m]?=some t->t.there=true/\(m<k->Vv L.length (L.length - k+m) t)
 | 0,_,m,t,h=>by
   cases m with
   | zero=>simp only[HV,LX,BL]at h;subst h;exact⟨rfl,λh=>by omega⟩
   | succ m=>simp[HV]at h
 | k+1,M,m,t,h=>by
   simp only[HV]at h;cases m with
   | zero =>
     simp only[LX,BL]at h;have I:L.length - (k+1)<L.length:=by omega
     obtain⟨q,J,e⟩:=AT8 L (if 0<L.length - (k+1)then w - d else w) _ I;have B:Vv L.length (L.length - (k+1)) t:=by
      rw[<-h];unfold TF;refine AFT _ _ _ _ _ (AAY _ _ _) (.inr ⟨rfl,q,J,?_⟩);simp only[e];rw[show L.length - (k+1)+1 - (L.length - k)=0 by omega];have Q:=fN L w d k;obtain⟨t0,E⟩:∃t0,(HV L w d k)[0]?=some t0:=⟨_,BE (by omega)⟩
      rw[Bv,E];exact(fO L w d k (by omega) 0 t0 E).1
     exact⟨B.1,λ_=>B⟩
   | succ m=>simp only[JU]at h;obtain⟨F,G⟩:=fO L w d k (by omega) m t h;exact⟨F,λR=>by have:=G (by omega);rwa [show L.length - (k+1)+(m+1)=L.length - k+m by omega]⟩
def KT (T:List Tl)(n:Nat):Nat->Nat->List Nat
 | 0,_=>[]
 | f+1,i=>if i<n then i::KT T n f ((T.getD i Tl.zero).fin.toNat)else []
def ME (L:List (Int×Int×Int))(w d:Int):List Nat:=KT (HV L w d L.length) L.length L.length 0
theorem pL (T:List Tl)(n:Nat)(F : ∀i,i<n->Vv n i (T.getD i Tl.zero)):∀f i,n - i<=f->(∀a∈KT T n f i,i<=a/\a<n)/\(KT T n f i).Pairwise (· < ·)/\(i<n->(KT T n f i).head?=some i)
 | 0,i,h=>by
   refine⟨λa B=>(by cases B),ACm,λE=>by omega⟩
 | f+1,i,h=>by
   unfold KT;by_cases E:i<n;rw[if_pos E];obtain⟨_,t1,t2⟩:=F i E;obtain⟨G,I,_⟩:=pL T n F f ((T.getD i Tl.zero).fin.toNat) (by omega);refine⟨λa B=>?_,List.pairwise_cons.2 ⟨λa B=>?_,I⟩,λ_=>rfl⟩;rcases Cf.1 B with rfl|B
   exact⟨BN _,E⟩;have:=G a B;omega;have:=G a B;omega;rw[if_neg E];exact⟨λa B=>(by cases B),ACm,λh=>absurd h E⟩
theorem ABy (w d:Int)(h:0<L.length):(∀a∈ME L w d,a<L.length)/\(ME L w d).Pairwise (· < ·)/\(ME L w d).head?=some 0:=by
 have E : ∀i,i<L.length->Vv L.length i ((HV L w d L.length).getD i Tl.zero):=λi G=>by
  have Q:=fN L w d L.length;obtain⟨t,B⟩:∃t,(HV L w d L.length)[i]?=some t:=⟨_,BE (by omega)⟩
  rw[Bv,B];have:=(fO L w d L.length (BN _) i t B).2 G;rwa [show L.length - L.length+i=i by omega]at this
 obtain⟨I,J,M⟩:=pL (HV L w d L.length) L.length E L.length 0 (by omega);exact⟨λa F=>(I a F).2,J,M h⟩
def vu (sp:List Int)(A:Nat->Int)(q:Int×Int×Int)(p p':Nat):Prop:=q.2.1=sp.getD p 0/\q.1=A p' - A p - sp.getD p 0
def Sy (sp:List Int)(A:Nat->Int):List (Int×Int×Int)->List Int->Nat->Prop
 | [],[],_=>True
 | [q],[p],n=>∃a:Nat,p=(a:Int)/\a<n/\vu sp A q a n
 | q::q'::l,p::p'::r,n=>(∃a b:Nat,p=(a:Int)/\p'=(b:Int)/\a<b/\vu sp A q a b)/\Sy sp A (q'::l) (p'::r) n
 | _,_,_=>False
theorem AA4 {sp:List Int}{A:Nat->Int}{n:Nat}{w:Int}(E:A (n+1)=A n+sp.getD n 0+w):∀(L:List (Int×Int×Int)) (q:Int×Int×Int) (P:List Int),Sy sp A (L++[q]) P n->Sy sp A (L++[(q.1+(sp.getD n 0+w),q.2)]) P (n+1)
 | [],q,[p],h=>by
   obtain⟨a,e,G,F,I⟩:=h;exact⟨a,e,by omega,F,by simp only;omega⟩
 | [],q,[],h=>by cases h
 | [],q,_::_::_,h=>by cases h
 | [x],q,p::B::r,h=>⟨h.1,AA4 E [] q (B::r) h.2⟩
 | x::y::L,q,p::B::r,h=>⟨h.1,AA4 E (y::L) q (B::r) h.2⟩
 | x::y::L,q,[],h=>by cases h
 | x::y::L,q,[p],h=>by cases h
 | [x],q,[],h=>by cases h
 | [x],q,[p],h=>by cases h
theorem AA5 {sp:List Int}{A:Nat->Int}{n:Nat}{w:Int}(E:A (n+1)=A n+sp.getD n 0+w)(c:Int):∀(L:List (Int×Int×Int)) (q:Int×Int×Int) (P:List Int),Sy sp A (L++[q]) P n->Sy sp A (L++[q]++[(w,sp.getD n 0,c)]) (P++[(n:Int)]) (n+1)
 | [],q,[p],h=>by
   obtain⟨a,e,F,G⟩:=h;exact⟨⟨a,n,e,rfl,F,G⟩,n,rfl,by omega,rfl,by simp only;omega⟩
 | [],q,[],h=>by cases h
 | [],q,_::_::_,h=>by cases h
 | [x],q,p::B::r,h=>⟨h.1,AA5 E c [] q (B::r) h.2⟩
 | x::y::L,q,p::B::r,h=>⟨h.1,AA5 E c (y::L) q (B::r) h.2⟩
 | x::y::L,q,[],h=>by cases h
 | x::y::L,q,[p],h=>by cases h
 | [x],q,[],h=>by cases h
 | [x],q,[p],h=>by cases h
theorem AJV {cls W sp:List Int}{A:Nat->Int}{N:Nat}(G:A 0=0)(hs:sp.getD 0 0=0)(E : ∀k,k<N->A (k+1)=A k+sp.getD k 0+W.getD k 0):∀k,k<N->Sy sp A (Ni cls W sp k) (FZ cls (k+1)) (k+1)
 | 0,h=>by
   have:=E 0 h;have e:FZ cls (0+1)=[0]:=by simp[FZ,AJW]
   rw[e];unfold Ni E7;exact⟨0,rfl,by omega,by rw[hs],by simp only;omega⟩
 | k+1,h=>by
   have B:=AJV (cls:=cls) G hs E k (by omega);have F:=E (k+1) h;unfold Ni at B ⊢;simp only[E7];rw[FZ];cases I:OX cls (k+1)with
   | true=>have:=AA5 F (if cls.getD (k+1) 0=3 then 50 else 150) _ _ _ B;simpa using this
   | false=>have:=AA4 F _ _ _ B;simpa using this
theorem AZs {x:Cx}{h:List O}(g:Good S0 w0 x w (λk=>h[k]?))(Ae:TypeId)(es n:Nat):
 Good S0 w0 (x.grow h.length ⟨0,0,true,n,true⟩ 0) w (λk=>(h++[O.tok Ae es n])[k]?)/\Ext x (x.grow h.length ⟨0,0,true,n,true⟩ 0) w w:=by
 have I : ¬x.dom h.length:=λG=>by obtain⟨o,J⟩:=g.dom _ G;simp at J
 have E:Ext x (x.grow h.length ⟨0,0,true,n,true⟩ 0) w w:=⟨⟨λ_ _ h=>.inl h,λ_ _ _ _ h=>h⟩,λ_ h=>.inl h,λi B=>by
  have:i≠h.length:=λe=>I (e ▸ B)
  simp[Cx.grow,this,FM.refl]⟩
 have F:=g.H5 h.length (.tok Ae es n) E (.FR (Ay.refl w)) (λi=>Iff.rfl) (λi B=>by simp[Cx.grow,B]) (λh=>by simp[Cx.grow]at h) ⟨by simp[Cx.grow],by simp[Cx.grow],λh=>by simp[Cx.grow]at h⟩ (λb j h=>h.elim .inl λh=>by omega) (λj M=>by have:=M.1;simp[Cx.grow]at this);refine⟨?_,E⟩;have e:=Kj h (some (h.length,O.tok Ae es n)) (λk o e=>by cases e;exact BN _);simp only[Bk,IY,if_false,Bx.upd]at e;rw[e];exact F
theorem APt {x:Cx}{k es:Nat}{AG:List (List C)}{u:Value}(B : ∀r∈AG,r.length=es)(h:CV x w (.Bg AG) u):CV (x.grow k ⟨0,0,true,AG.length,true⟩ 0) w (.gr k es AG) u:=by
 simp only[CV]at h ⊢;obtain⟨A,e,h⟩:=h;refine⟨.inr rfl,by simp[Cx.grow],Ab.mono ⟨λ_ _ h=>.inl h,λ_ _ _ _ h=>h⟩ _ _ h,B,by simp[Cx.grow],λ_=>?_⟩;simp only[Cx.grow,if_true];exact⟨A,e⟩
theorem Le.AZr {m:Mo}{t:List V}{h:List O}(i:Nat)(Ae:TypeId)(es:Nat)(AG:List (List C))(I:t[i]?=some (.Bg AG))(M : ∀r∈AG,r.length=es):Le m ⟨t,h⟩ ⟨t.set i (.gr h.length es AG),h++[.tok Ae es AG.length]⟩:=λS0 w0 x a w R B=>by
 obtain⟨E,G⟩:=AZs B.good Ae es AG.length;obtain⟨u,Q,F⟩:=B.tm.get i _ I;refine⟨_,E,?_,B.df⟩;have:=(AO.mono G _ _ B.tm).set i (APt (k:=h.length) (es:=es) M F);have e:a.tmps.toList.set i u=a.tmps.toList:=by
  apply Vc;intro j;rw[List.getElem?_set];split;rename_i e;subst e;split;rw[Q];rename_i J;rw[M6 (by omega)];rfl
 rw[e]at this;exact this
theorem Good.ATh {x:Cx}(g:Good S0 w0 x w H)(k:Nat)(hk : ¬x.dom k)(l:Loc)(R:O)(A5:Ld (x.C4 k l) w k R)(hF:l.void=false->¬w0.F l.b)(hS : ∀j,Ex (x.C4 k l) k R j->¬x.S l.b j)(Q:l.void=false->∀k' o',H k'=some o'->(x.loc k').void=false->(x.loc k').b≠l.b):
 Good S0 w0 (x.C4 k l) w (H.set k R)/\Ext x (x.C4 k l) w w:=by
 have he:Ext x (x.C4 k l) w w:=Good.ext1 k _ hk λb j v _ hc=>hc
 have E:(x.C4 k l).loc k=l:=by simp[Cx.C4]
 have G : ∀i,i≠k->(x.C4 k l).loc i=x.loc i:=λi hi=>by simp[Cx.C4,hi]
 have J : ∀i o,(H.set k R) i=some o->(i=k/\o=R)\/(i≠k/\H i=some o):=by
  intro i o h;by_cases e:i=k;subst e;simp[Bx.set]at h;exact .inl ⟨rfl,h.symm⟩;simp only[Bx.set,e,if_false]at h;exact .inr ⟨e,h⟩
 refine⟨⟨λi o h=>?_,λi h=>?_,λi M o U h h' Wf B I=>?_,λi o j h hx=>?_,g.ex,λi o h B=>?_,g.new,g.sub,g.keep,g.ext.trans he⟩,he⟩;rcases J i o h with ⟨rfl,rfl⟩|⟨e,h⟩
 exact⟨.inr rfl,A5⟩;obtain⟨h1,h2⟩:=g.ok i o h;exact⟨.inl h1,h2.mono he (G i e) λ_=>rfl⟩;rcases h with h|rfl
 obtain⟨o,ho⟩:=g.dom i h;have e:i≠k:=λe=>hk (e ▸ h)
 exact⟨o,by simp[Bx.set,e,ho]⟩;exact⟨_,by simp[Bx.set];rfl⟩;rcases J i o h with ⟨e1,e2⟩|⟨e,h0⟩
 rcases J M U h' with ⟨z,e4⟩|⟨q,W⟩
 exact absurd (e1.trans z.symm) Wf;rw[G M q]at I ⊢;rw[e1,E]at B ⊢;exact λe=>Q B M U W I e.symm
 rcases J M U h' with ⟨z,e4⟩|⟨q,W⟩
 rw[G i e]at B ⊢;rw[z,E]at I ⊢;exact Q I i o h0 B;rw[G i e]at B ⊢;rw[G M q]at I ⊢;exact g.inj i M o U h0 W Wf B I;rcases J i o h with ⟨rfl,rfl⟩|⟨e,h⟩
 rw[E];exact hS j hx;rw[G i e];exact g.EA i o j h (Ex.loc (G i e) hx);rcases J i o h with ⟨rfl,rfl⟩|⟨e,h⟩
 rw[E]at B ⊢;exact hF B;rw[G i e]at B ⊢;exact g.own i o h B
def Seat (res:Nat->V):Prop:=∀(x x2:Cx) (w:World) (u:Value) (k n:Nat),x2.S=x.S->x2.dom n->x2.loc n=x.loc k->CV x w (res k) u->CV x2 w (res n) u
def JB (res:Nat->List V):Prop:=∀(x x2:Cx) (w:World) (us:List Value) (k n:Nat),x2.S=x.S->x2.dom n->x2.loc n=x.loc k->AO x w (res k) us->AO x2 w (res n) us
theorem Seat.c (c:C):Seat λ_=>.c c:=λx E w u k n B _ _ h=>by simp only[CV]at h ⊢;rw[B];exact h
theorem Seat.gr (es:Nat)(AG:List (List C)):Seat λk=>.gr k es AG:=λx G w u k n B E F h=>by
 simp only[CV]at h ⊢;rw[B,F];exact⟨E,h.2⟩
theorem Seat.Bg (AG:List (List C)):Seat λ_=>.Bg AG:=λx E w u k n B _ _ h=>by simp only[CV]at h ⊢;rw[B];exact h
theorem JB.nil:JB λ_=>[]:=λx B w us k n _ _ _ h=>h
theorem JB.cons {v:Nat->V}{l:Nat->List V}(I:Seat v)(G:JB l):JB λk=>v k::l k:=λx R w us k n B E F h=>by
 simp only[AO]at h ⊢;obtain⟨u,Q,e,J,M⟩:=h;exact⟨u,Q,e,I _ _ _ _ _ _ B E F J,G _ _ _ _ _ _ B E F M⟩
theorem Seat.agg {l:Nat->List V}(G:JB l):Seat λk=>.agg (l k):=λx I w u k n B E F h=>by
 simp only[CV]at h ⊢;obtain⟨vs,e,h⟩:=h;exact⟨vs,e,G _ _ _ _ _ _ B E F h⟩
theorem Seat.A7 {l:Nat->List V}(G:JB l):Seat λk=>.A7 (l k):=λx I w u k n B E F h=>by
 simp only[CV]at h ⊢;obtain⟨vs,e,h⟩:=h;exact⟨vs,e,G _ _ _ _ _ _ B E F h⟩
def CX (P:Program)(f:FuncId)(args:List V)(Kv:V->List O->Prop):Prop:=
 ∀(S:BF) (w:World) (us:List Value),(∀b j,S b j->b<w.heap.size)->AO (Cx.bare S) w args us->Calls P f us.toArray w λr w'=>∃x' u v h',r=.returned u/\Good S (Bs.of w) x' w' (λk=>(h':List O)[k]?)/\CV x' w' v u/\Kv v h'
theorem CX.intro {f:FuncId}(h : ∀(S:BF) (w:World) (us:List Value) (F : ∀b j,S b j->b<w.heap.size) (E:AO (Cx.bare S) w args us),Calls P f us.toArray w λr w'=>∃x' u v B,r=.returned u/\Good S (Bs.of w) x' w' (λk=>(B:List O)[k]?)/\CV x' w' v u/\Kv v B):CX P f args Kv:=h
def Ss (P:Program)(f:FuncId)(args:List V)(ty:TypeId)(es cur:Nat)(res:Nat->V):Prop:=CX P f args λv h'=>∃k,v=res k/\h'[k]?=some (.tok ty es cur)
theorem CX.mono {f:FuncId}{Kv E:V->List O->Prop}(h:CX P f args Kv)(I : ∀v B,Kv v B->E v B):CX P f args E:=λS w us G F=>(h S w us G F).mono λr W ⟨U,u,v,B,J,M,Q,R⟩=>⟨U,u,v,B,J,M,Q,I v B R⟩
theorem AC.ofX {f:FuncId}{I:V}(F:CX P f args Kv)(U : ∀v B,Kv v B->V.CP v=some I):AC P f args I:=λS w us M J=>by
 refine(F S w us M J).mono ?_;rintro r q ⟨W,u,v,B,rfl,E,R,Q⟩;have G:=E.keep.all;exact⟨u,W.S,rfl,G,⟨E.sub,λb j v _ F=>G.cell F⟩,λb j h=>by
  rcases E.new b j h with B|B
  exact .inl B;exact .inr ⟨Hq B,E.ex b j h⟩,SL _ _ _ (U v B Q) R⟩
section
variable {P:Program} {f:FuncId} {args Bd:List V} {ty:TypeId} {es cur:Nat} {res:Nat->V}
theorem Ss.core (M:Ss P f Bd ty es cur res)(hr:Seat res){x:Cx}{us:List Value}(g:Good S0 w0 x w H)(hp:V.CF args=some Bd)(q:AO x w args us)(n:Nat)(hn : ¬x.dom n):
 Calls P f us.toArray w λr w'=>∃x' u,r=.returned u/\Ay w w'/\Good S0 w0 x' w' (H.set n (.tok ty es cur))/\Ext x x' w w'/\CV x' w' (res n) u:=by
 refine(M x.S w us g.ex (MC _ _ _ hp q)).mono ?_;rintro r w' ⟨B,u,_,I,rfl,E,hu,k,rfl,Q⟩;have J:=E.keep.all;have z:Ar x.S B.S w w':=⟨E.sub,λb j v _ M=>J.cell M⟩
 obtain⟨g2,TO⟩:=g.MF (x':={ x with S:=B.S }) J z rfl rfl λb j h=>by
  rcases E.new b j h with I|I
  exact .inl I;exact .inr ⟨Hq I,E.ex b j h⟩
 obtain⟨q1,q2⟩:=E.ok k _ Q;have U:(B.loc k).void=false->w.heap.size<=(B.loc k).b:=λG=>Hq (E.own k _ Q G)
 have F:(({ x with S:=B.S }:Cx).C4 n (B.loc k)).loc n=B.loc k:=by simp[Cx.C4]
 obtain⟨g3,jk⟩:=g2.ATh n hn (B.loc k) (.tok ty es cur) (by
  obtain⟨a1,a2,a3⟩:=q2;exact⟨by rw[F];exact a1,by rw[F];exact a2,by rw[F];exact a3⟩) (λG=>g.fresh (U G)) (λj W=>by
  refine E.EA k _ j Q ?_;simp only[Ex,F]at W ⊢;exact W) (λG k' o' Hh R e=>by
  have h1:=(g.ok k' o' Hh).2.lt R;have h2:=U G;have e:(x.loc k').b=(B.loc k).b:=e;omega)
 exact⟨_,u,rfl,J,g3,TO.trans jk,hr B _ w' u k n rfl (.inr rfl) F hu⟩
end
section
variable {P:Program} {ops:List Oper} {f:FuncId} {Bd:List V} {ty:TypeId} {es cur:Nat} {res:Nat->V}
theorem AEY {e:Operand->V}{x:Cx}{a:Act}(R:Fp P f=true)(U:Ee e o.op=some (f,Bd))(G : ∀y∈o.op.operands.toList,CV x w (e y) (a.eval y)):
 ∃args us,V.CF args=some Bd/\AO x w args us/\(execOp a.eval o).run P w=.ok (.enter f us.toArray) w:=by
 obtain⟨args,B,hp⟩:=Tv U;unfold C7 at B;split at B
 case h_2=>cases B
 rename_i fo I Fk M;split at B
 case h_2=>cases B
 rename_i f' F z;simp only[BL,Cr]at B;obtain⟨rfl,rfl⟩:=B;have E:=Pp (G fo (by simp[M,Bl,Df]));rw[z]at E;simp only[CV]at E;obtain⟨J,E,W⟩:=E;have Hw:AO x w (I.toList.map e++F) (I.toList.map a.eval++J.toList):=(AO.of_map λy hy=>G y (by simp[M,Bl,Df];exact .inr (by simpa using hy))).append W;obtain⟨fn,hf,Q,hn⟩:=P7 R;have S:fn.body≠none:=by intro e;rw[e]at Q;cases Q
 have q:fn.name≠ "runtime.NumGoroutine":=by simpa using hn
 refine⟨_,_,hp,Hw,?_⟩;have e1:(I.map a.eval++J)=(I.toList.map a.eval++J.toList).toArray:=by apply Gx.1;simp
 simp[execOp,M,resolve,E,M5,invoke,callFunc,program,HW,hf,q,S,e1]
theorem SW.wY {K:Exit->St->Prop}{s:St}(R:Ss P f Bd ty es cur res)(z:Seat res)(G:Fp P f=true)(W:BQ ops s.t o.guard=some true)(J:Ee (ev s.t) o.op=some (f,Bd))(h:SW P ops K r (St.put ⟨s.t,s.h++[.tok ty es cur]⟩ o.dst (res s.h.length))):SW P ops K (o::r) s:=λS0 w0 x a w B=>by
 have g:=B.good;unfold wpList;rw[if_pos (tc B.tm W)];refine .inl ?_;obtain⟨args,us,q,I,E⟩:=AEY G J λy _=>CW B.tm y
 unfold Er;rw[E];have Q : ¬x.dom s.h.length:=λS=>by obtain⟨ob,h⟩:=g.dom _ S;simp at h
 refine(R.core z g q I s.h.length Q).mono ?_;rintro r' w' ⟨x',u,rfl,M,F,U,hu⟩;have e:=Kj s.h (some (s.h.length,O.tok ty es cur)) (λk' o' e=>by cases e;exact BN _);simp only[Bk,IY,if_false,Bx.upd]at e;rw[<-e]at F;exact h S0 w0 _ _ w' (Bo.put (AO.mono U _ _ B.tm) (B.df.mono (.FR M)) (Ext.refl _ _) F hu o.dst)
theorem TW.wY {K:List Ef->St->Prop}{B:List Ef}{s:St}(q:Ss P f Bd ty es cur res)(hr:Seat res)(I:Fp P f=true)(hg:BQ ops s.t o.guard=some true)(M:Ee (ev s.t) o.op=some (f,Bd))(h:TW P ops K r (B++[⟨res s.h.length,some (s.h.length,.tok ty es cur),none⟩]) (s.step o.dst (res s.h.length) (some (s.h.length,.tok ty es cur)))):TW P ops K (o::r) B s:=by
 obtain⟨E,s2,U,W⟩:=h;refine⟨⟨res s.h.length,some (s.h.length,.tok ty es cur),none⟩::E,s2,⟨_,E,rfl,?_,(λk' ob e=>by cases e;exact BN _),U⟩,by simpa using W⟩;intro S0 w0 x w a H g G _ hn Q next R;rw[QF G hg];show o.wp P a w next Q;obtain⟨args,us,hp,J,F⟩:=AEY I M (QR G);unfold Er;rw[F];refine(q.core hr g hp J s.h.length (hn _ rfl)).mono ?_;rintro r' w' ⟨x',u,rfl,_,S,z,hu⟩;exact R u x' w' S z hu
end
end Go.Proofs.YtlpomcliejmedaaGreat
