/- Part of the proof of breakpointPieces.proved. Conditions: none. -/
import Derived.Test.YtegconioojpgmaaGreatY11
import Derived.Test.YtegconioojpgmaaGreatY12
set_option linter.unusedVariables false
set_option linter.unusedSimpArgs false
set_option maxRecDepth 100000
set_option maxHeartbeats 16000000
open List renaming replicate->Aq,length_set->GF,length_singleton->uP,mem_or_eq_of_mem_set->uU,length_nil->BO,ext_getElem->UB,getElem_map->mW,ext_getElem?->Vc,getElem?_set->RD
open Go.Fence renaming wide->Cg
open Go.Op renaming operands->Bl
open Go.Call renaming operands->Df
open Nat renaming add_zero->M8,mod_eq_of_lt->uZ,mod_lt->mh,div_lt_iff_lt_mul->AC4,mul_comm->aO,mul_succ->AQH,mul_le_mul_left->mj,mul_zero->AbF,mod_add_div->AMz,succ_mul->uc
open Go.Proofs.Tryz renaming prog->AF,func84->mZ,ntmps84->nG,results84->L2,results131->nY,func133->AD9,ntmps133->AGt,func32->gp,func167->AFL,func33->nI,func173->R3,func174->Jy,func171->vR,func170->nH,func94->AQo,results133->ARi,func189->nC,func222->AGb,func221->Aar,func34->AiL,ntmps34->Aig,results34->vV,results14->Ail,results23->Ais
open Go.IntKind renaming i64->AZ
open Int renaming le_refl->IV,le_trans->Sk,mul_comm->fu
open ByteArray renaming size->mA
open Option renaming bind_some->aQ
open Option renaming some->J,none->E
open Bool renaming false->U,true->I
open List renaming length->G
namespace Go.Proofs.YtegconioojpgmaaGreat
open Go.RowKit Tryz
variable {c:AA}{ty:TypeId}{x:Af}{k:Int}{b:AA}{src:List Int}{AE:List AA}{sp:List Int}{s:Aa}{i:Nat}{L:List AA}{α:Type}(l:List AA)
def Sv (P:Program)(f:FuncId)(args:List V)(m:Nat)(R R':Obj->Prop)(ty:TypeId)(row:List C)(len es:Nat):Prop:=
 ∀(S:BF) (w:World) (us:List Value) (ob:Obj),(∀b j,S b j->b<w.heap.size)->w.heap[m]?=J ob->still ob=U->R ob->AO (Cx.bare S) w args us->
  Calls P f us.toArray w λr w'=>∃(S':BF) (Cw:Obj) (b cap:Nat) (vs:Array Value),KB (λk=>k=m) w w'/\Ar S S' w w'/\(∀b j,S' b j->S b j\/(w.heap.size<=b/\b<w'.heap.size)\/b=m)/\w'.heap[m]?=J Cw/\still Cw=U/\R' Cw/\
   r=.returned (.slice (J ⟨b,0,E⟩) len cap)/\len<=cap/\cap<=maxLen/\cap*es<=vs.size/\w'.heap[b]?=J (.cells vs ty (0,0))/\B4 S' w' row vs.toList/\w.heap.size<=b/\∀j,j<vs.size->¬S' b j
def ADr (P:Program)(l:List ResultVar)(m:Nat)(R':Obj->Prop)(ty:TypeId)(row:List C)(len es:Nat):Exit->St->Prop
 | .normal,s=>∃k,k≠0/\GJ P s l=J (.own k 0 len es)/\s.h[0]?=J (.mp (Ci m R'))/\s.h[k]?=J (.box ty (row.map V.c) U)
 | .ret,s=>∃k,k≠0/\GJ P s l=J (.own k 0 len es)/\s.h[0]?=J (.mp (Ci m R'))/\s.h[k]?=J (.box ty (row.map V.c) U)
 | _,_=>False
theorem Sv.intro {P:Program}{f:FuncId}{fn:Func}{c:Code}{args:List V}{m:Nat}{R R':Obj->Prop}{ty:TypeId}{row:List C}{len es:Nat}(hf:P.funcs[f]?=J fn)(hb:fn.body=J c)(h:AW ⟨E,1⟩ P c (ADr P fn.results.toList m R' ty row len es) ⟨args++Aq (fn.ntmps - G args) .any,[.mp (Ci m R)]⟩):Sv P f args m R R' ty row len es:=by
 intro S w us ob hS FF A1 hR B7;refine callsIn_wide.1 (callsIn_of_wp_marks (F:=Cg) (n:=0) hf hb trivial ?_);let B:Bs:=⟨w,λk=>k<w.heap.size/\k≠m,λ_ h=>h.1,Cx.de S m,1,λk M=>by have:k=0:=M;omega⟩
 have zF:Ext (Cx.bare S) (Cx.de S m) w w:=⟨Ar.refl _ _,λ_ h=>h.elim,λ_ h=>h.elim⟩
 have hA:Bo S B (Cx.de S m) ⟨args++Aq (fn.ntmps - G args) .any,[.mp (Ci m R)]⟩ { tmps:=us.toArray++Array.replicate (fn.ntmps - us.toArray.size) undef,defers:=[] } w:=by
  refine⟨⟨λk o h=>?_,λk h=>?_,λk k' o o' h h' H=>?_,λk o j h hx=>?_,hS,λk o h _ hF=>hF.2 rfl,λb j h=>.inl h,λb j h=>h,.FR (Ay.refl w),Ext.refl _ _⟩,?_,Marks.nil _ _⟩;match k,h with
  | 0,h=>cases h;exact⟨rfl,rfl,rfl,ob,FF,A1,rfl,hR⟩
  | k+1,h=>simp at h
  have:k=0:=h;subst this;exact⟨_,rfl⟩;match k,k',h,h' with
  | 0,0,_,_=>exact absurd rfl H
  | 0,k'+1,_,h'=>simp at h'
  | k+1,_,h,_=>simp at h
  match k,h with
  | 0,h=>cases h;exact hx.elim
  | k+1,h=>simp at h
  simp only[Pq,Array.toList_replicate];have hl:us.toArray.size=G args:=by simpa using B7.len
  rw[hl];exact(AO.mono zF _ _ B7).append (SQ _ _ _ _)
 refine wpIn_mono (h 0 S B _ _ w (BN _) hA) λe a' Q ⟨x,s,Au,hK⟩=>?_
 have A0:(∃k,k≠0/\GJ P s fn.results.toList=J (.own k 0 len es)/\s.h[0]?=J (.mp (Ci m R'))/\s.h[k]?=J (.box ty (row.map V.c) U))->LeavesInM Cg 0 P fn a'.tmps (λr Q=>∃(S':BF) (Cw:Obj) (b cap:Nat) (vs:Array Value),KB (λk=>k=m) w Q/\Ar S S' w Q/\(∀b j,S' b j->S b j\/(w.heap.size<=b/\b<Q.heap.size)\/b=m)/\Q.heap[m]?=J Cw/\still Cw=U/\R' Cw/\
  r=.returned (.slice (J ⟨b,0,E⟩) len cap)/\len<=cap/\cap<=maxLen/\cap*es<=vs.size/\Q.heap[b]?=J (.cells vs ty (0,0))/\B4 S' Q row vs.toList/\w.heap.size<=b/\∀j,j<vs.size->¬S' b j) a'.defers .returning Q:=by
  rintro ⟨k,Iu,hr,h0,M⟩;obtain⟨Ds,e,h1,h2⟩:=Au.df;rw[e];refine dR hr Ds Q h1 h2 Au.good Au.tm λw2 u g hu=>?_
  have Lu:=g.ext.loc 0 rfl;have q:x.loc 0=⟨m,0,U,0,U⟩:=by
   rcases Lu.2 with e|e
   exact e.symm;cases e.1
  obtain⟨_,k1,k2,Cw,k3,k4,_,k5⟩:=g.ok 0 _ h0;rw[q]at k3;obtain⟨q1,q2,q3,vs,q4,q5,q6⟩:=g.ok k _ M;simp only[CV]at hu;obtain⟨p1,p2,cap,rfl,p3,p4,p5⟩:=hu;have H:(x.loc k).b≠m:=by
   have:=g.inj k 0 _ _ M h0 Iu q3 k2;rwa [q]at this
  refine⟨x.S,Cw,(x.loc k).b,cap,vs,⟨g.keep.os,g.keep.tape,g.keep.output,g.keep.size,λk M H=>g.keep.block k M λhn=>hn ⟨M,H⟩⟩,⟨g.sub,λb' j v hs hc=>g.ext.ar.cell b' j v hs hc⟩,λb' j hs=>?_,k3,k4,k5,rfl,p3,p4,Ux,q4,toCs_ok (toCs_mapV row) q6,Hq λz=>g.own k _ M q3 ⟨z,H⟩,λj hj=>g.EA k _ j M ⟨rfl,Ux⟩⟩;rcases g.new b' j hs with hq|hq
  exact .inl hq;by_cases e:b'=m;exact .inr (.inr e);exact .inr (.inl ⟨Hq λz=>hq ⟨z,e⟩,g.ex b' j hs⟩)
 cases e with
 | normal=>exact A0 hK
 | ret=>exact A0 hK
 | _=>exact hK.elim
theorem enO {q:Prop}{P:Program}{g:FuncId}{fn:Func}{c:Code}{args:List V}{m:Nat}{R R':Obj->Prop}{row:List C}{len es n:Nat}(hf:P.funcs[g]?=some fn)(hn:fn.ntmps=n)(h:q)(hb:fn.body=some c:=by exact rfl)(k:fn.ntmps=n->q->AW ⟨none,1⟩ P c (ADr P fn.results.toList m R' ty row len es) ⟨args++List.replicate (fn.ntmps - args.length) .any,[.mp (Ci m R)]⟩:=by
   intro hn h;simp only[hn,Ap,BB,BA,List.length_nil,Nat.reduceAdd,Nat.reduceSub,BY,Cy,BK,BU];exact h):Sv P g args m R R' ty row len es:=Sv.intro hf hb (k hn h)
theorem Sv.data {P:Program}{f:FuncId}{args:List V}{m:Nat}{R R':Obj->Prop}{AG:List (List C)}{es:Nat}(h:Sv P f args m R R' ty AG.flatten (G AG) es)(z : ∀r∈AG,G r=es):AQ P f args m R R' (.ret (.c (.sl AG))):=λS w us ob k1 k2 k3 k4 k5 =>
 (h S w us ob k1 k2 k3 k4 k5).mono λr Q ⟨o,Cw,b,cap,vs,a1,a2,a3,a4,a5,a6,a7,a8,a9,A1,B,H,q,A2⟩=>by
   have CZ:Ar o (λi j=>o i j\/(i=b/\j<vs.size)) Q Q:=⟨λ_ _ h=>.inl h,λ_ _ _ _ h=>h⟩
   have M:=H.len;have A0:b<Q.heap.size:=(DO.1 B).1;refine⟨λi j=>o i j\/(i=b/\j<vs.size),Cw,a1,a2.trans CZ,λi j hs=>?_,a4,a5,a6,_,a7,?_⟩;rcases hs with hs|⟨rfl,_⟩
   exact a3 i j hs;exact .inr (.inl ⟨q,A0⟩);simp only[CV,Ab];refine⟨_,cap,F,a8,a9,λ_=>⟨b,0,es,F,z,?_⟩⟩;rw[D9.flat];refine B5.Pe (B4.mono CZ _ _ H) (λj u hu=>?_) λj hj=>.inr ⟨rfl,by rw[<-M]at hj;simpa using hj⟩
   rw[cell_of_row Q _ _ vs ty (0,0) B];simpa using hu
theorem Good.join {S0:BF}{w0:Bs}{x:Cx}{w:World}{H:Bx}(g:Good S0 w0 x w H)(k b:Nat)(hk : ¬x.dom k)(ty:TypeId)(cells:List V)(vs:Array Value)(hb:w.heap[b]?=J (.cells vs ty (0,0)))(hv:AO x w cells vs.toList)(hF : ¬w0.F b)(hS : ∀j,j<vs.size->¬x.S b j)(z : ∀k' o',H k'=J o'->(x.loc k').void=U->(x.loc k').b≠b) :
 Good S0 w0 (x.C4 k ⟨b,vs.size,U,0,U⟩) w (H.set k (.box ty cells U))/\Ext x (x.C4 k ⟨b,vs.size,U,0,U⟩) w w:=by
 have he:Ext x (x.C4 k ⟨b,vs.size,U,0,U⟩) w w:=Good.ext1 k _ hk λb j v _ hc=>hc
 have B:(x.C4 k ⟨b,vs.size,U,0,U⟩).loc k=⟨b,vs.size,U,0,U⟩:=by simp[Cx.C4]
 have M : ∀i,i≠k->(x.C4 k ⟨b,vs.size,U,0,U⟩).loc i=x.loc i:=λi hi=>by simp[Cx.C4,hi]
 have R : ∀i o,(H.set k (.box ty cells U)) i=J o->(i=k/\o=.box ty cells U)\/(i≠k/\H i=J o):=by
  intro i o h;by_cases e:i=k;subst e;simp[Bx.set]at h;exact .inl ⟨rfl,h.symm⟩;simp only[Bx.set,e,Awh]at h;exact .inr ⟨e,h⟩
 refine⟨⟨λi o h=>?_,λi h=>?_,λi q o o2 h h' Wf Q IK=>?_,λi o j h hx=>?_,g.ex,λi o h Q=>?_,g.new,g.sub,g.keep,g.ext.trans he⟩,he⟩;rcases R i o h with ⟨rfl,rfl⟩|⟨e,h⟩
 exact⟨.inr F,by rw[B],by rw[B],vs,by rw[B];exact hb,by rw[B],AO.mono he _ _ hv⟩;obtain⟨h1,h2⟩:=g.ok i o h;exact⟨.inl h1,h2.mono he (M i e) λ_=>rfl⟩;rcases h with h|rfl
 obtain⟨o,ho⟩:=g.dom i h;have e:i≠k:=λe=>hk (e ▸ h)
 exact⟨o,by simp[Bx.set,e,ho]⟩;exact⟨_,by simp[Bx.set];rfl⟩;rcases R i o h with ⟨e1,e2⟩|⟨e,h0⟩
 rcases R q o2 h' with ⟨e3,e4⟩|⟨e',JJ⟩
 exact absurd (e1.trans e3.symm) Wf;rw[M q e']at IK ⊢;rw[e1,B];exact λe=>z q o2 JJ IK e.symm
 rcases R q o2 h' with ⟨e3,e4⟩|⟨e',JJ⟩
 rw[M i e]at Q ⊢;rw[e3,B];exact z i o h0 Q;rw[M i e]at Q ⊢;rw[M q e']at IK ⊢;exact g.inj i q o o2 h0 JJ Wf Q IK;rcases R i o h with ⟨rfl,rfl⟩|⟨e,h⟩
 rw[B];have:=hx.2;rw[B]at this;exact hS j this;rw[M i e];exact g.EA i o j h (Ex.loc (M i e) hx);rcases R i o h with ⟨rfl,rfl⟩|⟨e,h⟩
 rw[B];exact hF;rw[M i e]at Q ⊢;exact g.own i o h Q
section
variable {P:Program} {K:Exit->St->Prop} {ops:List Oper} {s:St}
theorem SW.pI {o:Oper}{r:List Oper}{f:FuncId}{args Bd:List V}{m:Nat}{R R':Obj->Prop}{row:List C}{len es:Nat}(k:Nat)(KW:Sv P f Bd m R R' ty row len es)(A5:Fp P f=I)(hg:BQ ops s.t o.guard=J I)(H:C7 (ev s.t) o.op=J (f,args))(hp:V.CF args=J Bd)(hk:s.h[k]?=J (.mp (Ci m R)))(h:SW P ops K r (St.step ⟨s.t,Bk s.h (J (k,.mp (Ci m R')))⟩ o.dst (.own (G s.h) 0 len es) (J (G s.h,.box ty (row.map V.c) U)))):SW P ops K (o::r) s:=λS0 w0 x a w hA=>by
 have hw:Region.wanted o (yielded ops.toArray a.tmps)=true:=by
  have:=KR (o:=o) hA.tm (IF (ops:=ops) (K1:=True) (K2:=False) hg W);exact Kn λh=>this.2 h
 have g:=hA.good;have A3 : ∀y∈o.op.operands.toList,CV x w (ev s.t y) (a.eval y):=λy _=>CW hA.tm y
 unfold wpList;rw[Awd hw];refine .inl ?_;unfold C7 at H;split at H
 case h_2=>cases H
 rename_i fo z Fk ho;split at H
 case h_2=>cases H
 rename_i f' A0 FG;simp only[BL,Prod.mk.injEq]at H;obtain⟨rfl,rfl⟩:=H;have Q:=Pp (A3 fo (by simp[ho,Bl,Df]));rw[FG]at Q;simp only[CV]at Q;obtain⟨Dl,Q,EP⟩:=Q;have Hw:AO x w (z.toList.map (ev s.t)++A0) (z.toList.map a.eval++Dl.toList):=(AO.of_map λy hy=>A3 y (by simp[ho,Bl,Df];exact .inr (by simpa using hy))).append EP;obtain⟨fn,hf,hb,F6⟩:=P7 A5;have CT:fn.body≠none:=by intro e;rw[e]at hb;cases hb
 have F6:fn.name≠ "runtime.NumGoroutine":=by simpa using F6
 have A6:(execOp a.eval o).run P w=.ok (.enter f' (z.toList.map a.eval++Dl.toList).toArray) w:=by
  have e1:(z.map a.eval++Dl)=(z.toList.map a.eval++Dl.toList).toArray:=by apply Gx.1;simp
  simp[execOp,ho,resolve,Q,Deferred.ofValue,invoke,callFunc,program,Sem.run,hf,F6,CT,e1]
 obtain⟨M,b1,b2,ob,b3,b4,hm,b5⟩:=g.ok k _ hk;subst hm;unfold Oper.wp;rw[A6];refine(KW x.S w _ ob g.ex b3 b4 b5 (MC _ _ _ hp Hw)).mono ?_;rintro r' w' ⟨q,Cw,b,cap,vs,B,CZ,Gc,h1,h2,h3,rfl,c1,c2,c3,c4,c5,c6,c7⟩;have A2:=(DO.1 b3).1;have he:Ext x { x with S:=q } w w':=⟨CZ,λ_ h=>h,λ_ _=>FM.refl _⟩
 have g':=g.H5 (x':={ x with S:=q }) k (.mp (Ci (x.loc k).b R')) he (B.wide λb e=>⟨M,b2,e.symm⟩) (λi=>⟨.inl,λh=>h.elim id λe=>e ▸ M⟩) (λ_ _=>rfl) (λ_=>.inl ⟨M,b2,rfl⟩)
  ⟨b1,b2,Cw,h1,h2,rfl,h3⟩ (λb j hs=>(Gc b j hs).imp id λh=>h.elim (λh=>⟨h.2,.inl h.1,λe=>by have:(x.loc k).b=b:=e;omega⟩) (λh=>⟨by rw[h];exact H7 A2 B.size,.inr ⟨M,b2,h.symm⟩,λ_ hx=>hx.elim⟩)) (λj hx=>hx.elim)
 have CB:NC w w':=⟨B.size,λb A8 D7 II=>(B.block b (DO.1 D7).1 λe=>by subst e;rw[b3]at D7;cases D7;rw[b4]at II;cases II).trans D7⟩
 have Ce:k<G s.h:=(Br.1 hk).1;have TV : ¬x.dom (G s.h):=λM=>by
  obtain⟨ob,h⟩:=g.dom _ M;simp at h
 obtain⟨g2,TO⟩:=g'.join (G s.h) b TV ty (row.map V.c) vs c4 (AO.OS c5) (g.fresh c6) c7 (λk' o' h hv=>by
  have hb:(x.loc k').b<w.heap.size:=by
   by_cases e:k'=k;subst e;exact A2;simp only[Bx.set,e,Awh]at h;exact((g.ok k' o' h).2).lt hv
  have e:({ x with S:=q }:Cx).loc k'=x.loc k':=F;rw[e];omega)
 have e:=Kj s.h (J (k,O.mp (Ci (x.loc k).b R'))) (λk' o' e=>by cases e;exact LZ Ce);have A1:G (Bk s.h (J (k,O.mp (Ci (x.loc k).b R'))))=G s.h:=by
  simp only[Bk,Awd Ce,GF]
 have e2:=Kj (Bk s.h (J (k,O.mp (Ci (x.loc k).b R')))) (J (G s.h,O.box ty (row.map V.c) U)) (λk' o' e=>by cases e;rw[A1];exact BN _);have A7:Good S0 w0 (({ x with S:=q }:Cx).C4 (G s.h) ⟨b,vs.size,U,0,U⟩) w' (λi=>(Bk (Bk s.h (J (k,O.mp (Ci (x.loc k).b R')))) (J (G s.h,O.box ty (row.map V.c) U)))[i]?):=by
  rw[e2];have e3:(λi=>(Bk s.h (J (k,O.mp (Ci (x.loc k).b R'))))[i]?)=Bx.set (λi=>s.h[i]?) k (.mp (Ci (x.loc k).b R')):=e;rw[e3];exact g2
 have Ec:Bo S0 w0 (({ x with S:=q }:Cx).C4 (G s.h) ⟨b,vs.size,U,0,U⟩) ⟨s.t,Bk (Bk s.h (J (k,O.mp (Ci (x.loc k).b R')))) (J (G s.h,O.box ty (row.map V.c) U))⟩ a w':=⟨A7,AO.mono (he.trans TO) _ _ hA.tm,hA.df.mono CB⟩
 exact h S0 w0 _ _ w' (Bo.put Ec.tm Ec.df (Ext.refl _ _) Ec.good (v:=.own (G s.h) 0 len es) (by
  simp only[CV,Cx.C4,Awg];exact⟨.inr W,W,cap,F,c1,c2,Ux⟩) o.dst)
end
mutual
theorem AI6 : ∀b:AA,b.D8=I->b.BX
 | ⟨k,n,s,w,h,d,x,y,AE,o,src⟩,R=>by
   simp only[AA.D8,Ak]at R;obtain⟨M,S⟩:=R;have q:(1000:Nat)<=maxLen:=ZB;simp only[AA.Cl,Ak]at M;obtain⟨_,B,Q⟩:=M;refine⟨?_,?_,Ze AE S⟩;simp only[AA.Fi]at B;split at B;simp only[Ck,Ak,Awe]at B;omega;split at B;simp only[Ak,Awe]at B;rw[B.1];exact CI _;split at B;simp only[Ak,Awe]at B;rw[B.1];exact CI _;cases B;simp only[AA.Js,Ak,I7]at Q;have H:=Q.2;split at H;simp only[Awe]at H;omega;split at H;simp only[Ak,Awe]at H;omega;split at H;simp only[Ak,Awe]at H;omega;cases H
theorem Ze : ∀l:List AA,AA.FU l=I->AA.FY l
 | [],_=>trivial
 | b::l,h=>by
   simp only[AA.FU,Ak]at h;exact⟨AI6 b h.1,Ze l h.2⟩
end
theorem kj (h:b.Ad=I):b.BX:=by
 simp only[AA.Ad,Ak]at h;exact AI6 b h.1
theorem ik (h:b.Ad=I):b.cnt<=20000:=by
 simp only[AA.Ad,Ak,Awe]at h;exact h.2.1
theorem AVT {l:List AA}(h : ∀b∈l,b.Ad=I):AA.FY l/\l.all AA.Ad=true:=by
 induction l with
 | nil=>exact⟨W,F⟩
 | cons b l ih =>
   obtain⟨H,M⟩:=ih λc Q=>h c (Gk _ Q)
   have B:=h b GH;exact⟨⟨kj B,H⟩,by simp[B,M]⟩
theorem AAe (h:b.Ad=I){o:Int}(q:HT src=I)(z:I7 o (G src)=I):(b.mark o src).Ad=I/\(b.mark o src).cnt=b.cnt:=by
 obtain⟨k,n,s,w,B,d,x,y,AE,Q,M⟩:=b;refine⟨?_,F⟩;have R:(AA.mark ⟨k,n,s,w,B,d,x,y,AE,Q,M⟩ o src).cnt=(⟨k,n,s,w,B,d,x,y,AE,Q,M⟩:AA).cnt:=F;have S:(AA.mark ⟨k,n,s,w,B,d,x,y,AE,Q,M⟩ o src).nest=(⟨k,n,s,w,B,d,x,y,AE,Q,M⟩:AA).nest:=F;unfold AA.Ad at h ⊢;rw[R,S];rw[Ak]at h ⊢;refine⟨?_,h.2⟩;have H:=h.1;simp only[AA.D8,AA.Cl,AA.mark,AA.lens,AA.Fi,AA.Js,Ak]at H ⊢;exact⟨⟨H.1.1,H.1.2.1,q,z⟩,H.2⟩
theorem OT {b c:AA}(h:Bj (C8 b)=J c):c=b/\c.Ad=true:=by
 unfold C8 at h;by_cases B:b.Ad=I;rw[Awd B]at h;simp only[Bj,Awg,BL]at h;exact⟨h.symm,h ▸ B⟩;rw[Awf B]at h;simp[Bj]at h
theorem kh (h:Bj (F9 AE sp)=J c):c.Ad=true:=by
 unfold F9 at h;split at h;simp[Bj]at h;split at h;simp[Bj]at h;unfold Tk at h;split at h;simp[Bj]at h;rename_i B;simp only[Bj,Awg,BL]at h;subst h;simpa using B
theorem AIr {r:AA×Int}(h:r.2=0\/r=(AA.zero,6)):r=((Bj r).getD AA.zero,if (Bj r).isSome=I then 0 else 6):=by
 obtain⟨b,e⟩:=r;rcases h with h|h
 simp only at h;subst h;simp[Bj];cases h;simp[Bj]
theorem Uh (b:AA):C8 b=((Bj (C8 b)).getD AA.zero,if (Bj (C8 b)).isSome=I then 0 else 6):=by
 apply AIr;unfold C8;split;exact .inl F;exact .inr F
section
variable (x:Af) (s:Aa) (src:List Int)
def M2 (k:Int)(i:Nat)(n:Nd):Option AA:=GU x (GB k i s) (src++[(i:Int)]) n
def Oe (k:Int):Nat->List Nd->List AA
 | _,[]=>[]
 | i,n::l=>(M2 x s src k i n).getD AA.zero::Oe k (i+1) l
theorem tB (k:Int):∀(i:Nat) (l:List Nd),G (Oe x s src k i l)=G l
 | _,[]=>rfl
 | i,n::l=>by simp only[Oe,BA,tB k (i+1) l]
theorem AK1 (k:Int):∀(i:Nat) (l:List Nd) (j:Nat) (n:Nd),l[j]?=J n->(Oe x s src k i l)[j]?=J ((M2 x s src k (i+j) n).getD AA.zero)
 | _,[],j,n,h=>by simp at h
 | i,a::l,0,n,h=>by simp only[LX,BL]at h;subst h;rfl
 | i,a::l,j+1,n,h=>by
   simp only[JU]at h;simp only[Oe,JU];rw[AK1 k (i+1) l j n h,show i+1+j=i+(j+1)by omega]
theorem AK2 (k:Int):∀(i:Nat) (l:List Nd),(∀j n,l[j]?=J n->M2 x s src k (i+j) n≠E)->Kh x s src k i l=J (Oe x s src k i l)
 | _,[],_=>by simp only[Kh,Oe]
 | i,n::l,h=>by
   have B:=h 0 n F;rw[M8]at B;have Q:=AK2 k (i+1) l λj m M=>by have:=h (j+1) m (by simpa using M);rwa [show i+(j+1)=i+1+j by omega]at this
   unfold M2 at B;simp only[Kh,Oe,Q,M2];cases H:GU x (GB k i s) (src++[(i:Int)]) n with
   | none=>exact absurd H B
   | some b=>rfl
theorem AK3 (k:Int):∀(i:Nat) (l:List Nd) (j:Nat) (n:Nd),l[j]?=J n->M2 x s src k (i+j) n=E->Kh x s src k i l=E
 | _,[],j,n,h,_=>by simp at h
 | i,a::l,0,n,h,B=>by
   simp only[LX,BL]at h;subst h;unfold M2 at B;rw[M8]at B;simp only[Kh,B]
 | i,a::l,j+1,n,h,B=>by
   simp only[JU]at h;have H:=AK3 k (i+1) l j n h (by rwa [show i+1+j=i+(j+1)by omega]);simp only[Kh,H];cases GU x (GB k i s) (src++[(i:Int)]) a<;>rfl
def NZ (i:Nat)(n:Nd):Option AA:=Fw x s (src++[(i:Int)]) n
def QY:Nat->List Nd->List AA
 | _,[]=>[]
 | i,n::l=>(NZ x s src i n).getD AA.zero::QY (i+1) l
theorem AAK : ∀(i:Nat) (l:List Nd),G (QY x s src i l)=G l
 | _,[]=>rfl
 | i,n::l=>by simp only[QY,BA,AAK (i+1) l]
theorem AH2 : ∀(i:Nat) (l:List Nd) (j:Nat) (n:Nd),l[j]?=J n->(QY x s src i l)[j]?=J ((NZ x s src (i+j) n).getD AA.zero)
 | _,[],j,n,h=>by simp at h
 | i,a::l,0,n,h=>by simp only[LX,BL]at h;subst h;rfl
 | i,a::l,j+1,n,h=>by
   simp only[JU]at h;simp only[QY,JU];rw[AH2 (i+1) l j n h,show i+1+j=i+(j+1)by omega]
theorem AH4 : ∀(i:Nat) (l:List Nd),(∀j n,l[j]?=J n->NZ x s src (i+j) n≠E)->Kb x s src i l=J (QY x s src i l)
 | _,[],_=>by simp only[Kb,QY]
 | i,n::l,h=>by
   have B:=h 0 n F;rw[M8]at B;have Q:=AH4 (i+1) l λj m M=>by have:=h (j+1) m (by simpa using M);rwa [show i+(j+1)=i+1+j by omega]at this
   unfold NZ at B;simp only[Kb,QY,Q,NZ];cases H:Fw x s (src++[(i:Int)]) n with
   | none=>exact absurd H B
   | some b=>rfl
theorem AH5 : ∀(i:Nat) (l:List Nd) (j:Nat) (n:Nd),l[j]?=J n->NZ x s src (i+j) n=E->Kb x s src i l=E
 | _,[],j,n,h,_=>by simp at h
 | i,a::l,0,n,h,B=>by
   simp only[LX,BL]at h;subst h;unfold NZ at B;rw[M8]at B;simp only[Kb,B]
 | i,a::l,j+1,n,h,B=>by
   simp only[JU]at h;have H:=AH5 (i+1) l j n h (by rwa [show i+1+j=i+(j+1)by omega]);simp only[Kb,H];cases Fw x s (src++[(i:Int)]) a<;>rfl
end
theorem AOM {c:Int}(h:bT c=I):33<=c/\c<=126:=by
 unfold bT Nc Lq lP at h;simp at h;omega
theorem ALQ {t:ByteArray}(h:Z1 t=I):Ck t=I/\t.data.toList.all Dx=I/\∀c,t=⟨#[c]⟩->c≠32:=by
 unfold Z1 at h;have key : ∀p:Int->Bool,(∀c,p c=I->33<=c/\c<=126)->FC p t=I->t.data.toList.all Dx=I/\∀c,t=⟨#[c]⟩->c≠32:=by
  intro p Q H;rw[FC,ES]at H;refine⟨?_,?_⟩;rw[ES];intro b S;have:=Q _ (H b S);simp only[Dx,Ak,Awe];omega;rintro c rfl rfl;have:=Q _ (H 32 ZA);simp at this
 split at h;rename_i R;obtain⟨B,M⟩:=key bT (λc=>AOM) h;exact⟨by simp[Ck,B,R],B,M⟩;simp only[Ak,Awe]at h;obtain⟨B,M⟩:=key Nc (λc o=>by simp[Nc]at o;omega) h.1;exact⟨by simp[Ck,B];omega,B,M⟩
theorem AVU {t:ByteArray}(h:t.size=1):∃c,t=⟨#[c]⟩:=by
 obtain⟨⟨l⟩⟩:=t;match l,h with
 | [c],_=>exact⟨c,F⟩
theorem AZP (x:Af)(m:Nat)(n:Nd)(src:List Int)(s:Aa)(hx:x.Ok)(hs:s.ok=I)(hn:Z1 n.text=I):AQ AF 84 [Bb x m,Am n,.c (AV src),Aj s] m (BM x.f) (BM x.f) (BP (x.sym s n.text)):=by
 obtain⟨k,t,c,AE⟩:=n;simp only at hn;obtain⟨n1,n2,n3⟩:=ALQ hn;have hd:G x.d<=1000000:=by have:=hx.dl;omega
 have S:=AA8 x.d t hd;have A0:t.size<=1000:=by simp only[Ck,Ak,Awe]at n1;omega
 obtain⟨rs,Aw⟩:=AI (Nd.AG AE);simp only[Am,Nd.vs,Nd.row,Ap,BB,Aw];unfold Af.sym;unfold WH at S;by_cases z:(He x.d t).cls=1/\(He x.d t).str=I;rw[Awd z];obtain⟨z,H⟩:=z;have Q:=AY3 x m t s hx hs n1;cases ho:x.VI s t with
 | some b =>
   rw[ho]at Q;simp only[BP,As]at Q ⊢;unfold Bb Aj at *
   refine CH mZ nG ?_;exact qz (cj2 @z @H L2) (cj2 S Q W)
 | none =>
   rw[ho]at Q;simp only[BP,As]at Q ⊢;unfold Bb Aj at *
   refine CH mZ nG ?_;exact qz (cj2 @z @H L2) (cj2 S Q W)
 rw[Awf z];have P6:((He x.d t).cls=1->(He x.d t).str=U):=λh=>by
  by_cases h2:(He x.d t).str=I;exact absurd ⟨h,h2⟩ z;simpa using h2
 by_cases H:t.size=1;rw[Awd (.inl H)];obtain⟨ch,rfl⟩:=AVU H;have B:=AKh x m ch s hx hs;have e:x.RW s ch=x.gl s ⟨#[ch]⟩:=Awf (n3 ch F);rw[e]at B;simp only[BP,As]at B ⊢;unfold Bb Aj at *
 by_cases q:(He x.d ⟨#[ch]⟩).cls=1;have M:=P6 q;refine CH mZ nG ?_;exact qz (cj3 @q @M @H L2) (cj2 S B W);refine CH mZ nG ?_;exact qz (cj2 @q @H L2) (cj2 S B W);have R:=xX x.f t hx.fit.1;by_cases q:(x.f.find t).isSome=I;rw[Awd (.inr q)];have TQ:=AKp x m t s hx hs;unfold YK at R;obtain⟨g,hg⟩:=AI ((x.f.find t).getD BG.zero);rw[q,hg]at R;simp only[BG.row,Ap,BB]at R;simp only[BP,As]at TQ ⊢;unfold Bb Aj at *
 by_cases M:(He x.d t).cls=1;have c5:=P6 M;refine CH mZ nG ?_;exact qz (cj3 @M @c5 @H L2) (cj3 S R TQ W);refine CH mZ nG ?_;exact qz (cj2 @M @H L2) (cj3 S R TQ W);rw[Awf (by simp[H,q])];have B:=AKi x m t s hx hs n2 A0;unfold YK at R;obtain⟨g,hg⟩:=AI ((x.f.find t).getD BG.zero);rw[show (x.f.find t).isSome=U by simpa using q,hg]at R;simp only[BG.row,Ap,BB]at R;generalize ho:x.Po s t=o at B ⊢;cases o with
 | some b =>
   simp only[BP,As]at B ⊢;unfold Bb Aj at *
   by_cases M:(He x.d t).cls=1;have c5:=P6 M;refine CH mZ nG ?_;exact qz (cj3 @M @c5 @H L2) (cj3 S R B W);refine CH mZ nG ?_;exact qz (cj2 @M @H L2) (cj3 S R B W)
 | none =>
   simp only[BP,As]at B ⊢;unfold Bb Aj at *
   by_cases M:(He x.d t).cls=1;have c5:=P6 M;refine CH mZ nG ?_;exact qz (cj3 @M @c5 @H L2) (cj3 S R B W);refine CH mZ nG ?_;exact qz (cj2 @M @H L2) (cj3 S R B W)
theorem ALK (x:Af)(m:Nat)(n:Nd)(src:List Int)(s:Aa)(R:x.Ok)(hs:s.ok=I)(Q:n.text.data.toList.all Dx=I)(M:n.text.size<=1000):AQ AF 85 [Bb x m,Am n,.c (AV src),Aj s] m (BM x.f) (BM x.f) (BP (x.Po s n.text)):=by
 obtain⟨k,t,c,AE⟩:=n;have B:=AKi x m t s R hs Q M;obtain⟨q,H⟩:=AI (Nd.AG AE);simp only[Am,Nd.vs,Nd.row,Ap,BB,H];generalize S:x.Po s t=o at B ⊢;cases o with
 | some b =>
   simp only[BP,As]at B ⊢;unfold Bb Aj at *
   refine CH func85 ntmps85 ?_;exact qz results85 (cj B<|trivial)
 | none =>
   simp only[BP,As]at B ⊢;unfold Bb Aj at *
   refine CH func85 ntmps85 ?_;exact qz results85 (cj B<|trivial)
theorem ABs {i:Int}(hs:s.ok=I):(GB k i s).ok=true:=by
 have h:=hs;simp only[Aa.ok,Ak,Awe]at h;unfold GB VU;repeat' split
 all_goals first
  | exact hs
  | (simp only[Aa.ok,Ak,Awe];omega)
theorem AK0 {i n:Nat}{c:Int}(hs:s.ok=I)(B:FL k c n=I)(H:k≠1)(M:i<n):XW k i s=(GB k i s,0):=by
 have key:H2 k≠0/\((n:Int)<=H2 k):=by
  unfold FL at B;unfold H2;repeat' split at B
  all_goals first
   | (cases B;done)
   | skip
  all_goals simp only[Ak,Awe]at B
  all_goals (repeat' split)
  all_goals omega
 unfold XW;rw[Awf (by simp[hs,key.1]),Awf Ux]
structure Src (src:List Int)(p:Nat)(d:Nat):Prop where
 pos:HT src=I
 par:G src % 2=p
 len:G src+d<=49
theorem Src.add {p d e:Nat}(h:Src src p (d+1))(i:Nat)(B:e<=d):Src (src++[(i:Int)]) ((p+1) % 2) e:=by
 refine⟨?_,?_,?_⟩;have:=h.pos;unfold HT at this ⊢;rw[List.all_append,this];simp;rw[Cp,uP];have:=h.par;omega;rw[Cp,uP];have:=h.len;omega
theorem AIX (h:b.Ad=I){d:Nat}(hs:Src src 0 (d+1)):(b.mark 1 src).Ad=I/\(b.mark 1 src).cnt=b.cnt:=by
 refine AAe h hs.pos ?_;have B:=hs.par;have H:=hs.len;simp[I7];omega
theorem AUS (h:b.Ad=I){d:Nat}(hs:Src src 1 (d+1)):(b.mark 2 src).Ad=I/\(b.mark 2 src).cnt=b.cnt:=by
 refine AAe h hs.pos ?_;have B:=hs.par;have H:=hs.len;simp[I7];omega
theorem Aa2 (B:x.Ok)(hs:s.ok=I):An (AU x.f.params.Gj (x.sz s))=true:=by
 obtain⟨M,Q⟩:=HE B.val hs;have:=B.val;simp only[AP.valid,Qk,Params.lens,Params.SK,DX,Ak,Ep,An,Awe]at this;have H:=DM (p:=x.sz s) x.f.params.Gj (by unfold Af.sz;omega) (by unfold Af.sz;omega);simp[An];omega
theorem AXS (B:x.Ok)(hs:s.ok=I):An (AU (x.Al s) 50)=true:=by
 obtain⟨Q,R⟩:=HE B.val hs;have:=B.val;simp only[AP.valid,Qk,Params.lens,Params.SK,DX,Ak,Ep,An,Awe]at this;have H:=DM (p:=x.sz s) x.f.params.Al (by unfold Af.sz;omega) (by unfold Af.sz;omega);have M:=DM (p:=50) (x.Al s) Ux Ux;have e:x.Al s=AU x.f.params.Al (x.sz s):=F;rw[<-e]at H;simp[An];omega
theorem AUI {w h:Int}(H:An w=I)(hh:An h=I):(Bf w h 0 []).Ad=I/\(Bf w h 0 []).cnt=1:=by
 refine⟨ic ?_ (by simp[Bf,AA.cnt,AA.Az]) (by simp[Bf,AA.nest,AA.Hk]),F⟩;have B:An 0=true:=ZB;simp[AA.D8,AA.FU,AA.Cl,AA.lens,AA.Fi,AA.Js,Bf,H,hh,B,HT,I7]
theorem AKW (S:x.Ok)(hs:s.ok=I){n:Nd}(M:Src src 0 n.BR)(h:GU x s src n=J b):b.Ad=I/\b.cnt<=10000*n.cnt:=by
 obtain⟨k,t,c,AE⟩:=n;have q:=Tm ⟨k,t,c,AE⟩;rw[ke]at M;unfold GU at h;split at h;rename_i Q;simp only[BL]at h;have e:(Bf (if src=[]then 0 else AU (x.Al s) 50) (AU x.f.params.Gj (x.sz s)) 0 []).Ad=I/\(Bf (if src=[]then 0 else AU (x.Al s) 50) (AU x.f.params.Gj (x.sz s)) 0 []).cnt=1:=by
  refine AUI ?_ (Aa2 S hs);split;decide;exact AXS S hs
 obtain⟨B,H⟩:=AIX e.1 M;subst h;unfold Af.empty;exact⟨B,by rw[H,e.2];omega⟩;rename_i Q;split at h;cases h;split at h;cases h;rename_i z o;simp only[BL]at h;subst h;have R:=kh o;obtain⟨B,H⟩:=AIX R M;refine⟨B,?_⟩;rw[H];have:=ik R;match AE,Q with
 | a::l,_=>simp only[Nd.Az]at q;have:=ry a;omega
theorem AIs (h:Bj (F9 AE sp)=J c):c.cnt=1+AA.Az AE:=by
 unfold F9 at h;split at h;simp[Bj]at h;split at h;simp[Bj]at h;rename_i B;unfold Tk at h;split at h;simp[Bj]at h;simp only[Bj,Awg,BL]at h;subst h;have e:G sp=G AE:=Kn λe=>B (.inl e)
 unfold Qf Bf;simp only[AA.cnt];rw[dz (VK 0 e)]
theorem ALf (M:x.Ok)(hs:s.ok=I){t:ByteArray}(H:t.data.toList.all Dx=I)(Q:t.size<=1000)(h:x.Po s t=J b):b.Ad=I/\b.cnt<=10000:=by
 unfold Af.Po at h;refine⟨kh h,?_⟩;rw[AIs h];have:=wx (n:=1) λb B=>Nat.le_of_eq (AEr M hs H b B).2
 rw[AEq]at this;omega
theorem AFz (H:x.Ok)(hs:s.ok=I){t:ByteArray}(B:Ck t=I):(x.gl s t).Ad=I/\(x.gl s t).cnt=1:=⟨(qA H hs B).1.v,(qA H hs B).2⟩
theorem AOH {a:Int}(h:Bj (KS b a)=J c):c.cnt=b.cnt:=by
 unfold KS at h;repeat' split at h
 all_goals simp[Bj]at h
 subst h;exact Hb _ _ _
theorem AZf (B:x.Ok)(hs:s.ok=I){t:ByteArray}(o:Z1 t=I)(h:x.sym s t=J b):b.Ad=I/\b.cnt<=10000:=by
 obtain⟨M,q,n3⟩:=ALQ o;have H:t.size<=1000:=by simp only[Ck,Ak,Awe]at M;omega
 unfold Af.sym at h;split at h;unfold Af.VI at h;obtain⟨z,R,h3⟩:=AAu B s M;have Q:=AFz B hs R;split at h;cases h;rename_i c S;refine⟨kh h,?_⟩;rw[AIs h];have:=AOH S;simp only[AA.Az];omega;split at h;cases h;have Q:=AFz B hs M;exact⟨Q.1,Ux⟩;exact ALf B hs q H h
theorem AAl (n:Nat):∀(l:List UInt8) (k:Nat) (p q:Int),Mu n l k p=J q->l.all Dx=I
 | [],_,_,_,_=>rfl
 | b::l,k,p,q,h=>by
   rw[Ep];unfold Mu at h;split at h;rename_i B;have e:=AAl n l _ _ _ h;rw[e];have:(b.toNat:Int)=46:=B.1;simp[Dx];omega;split at h;rename_i H;have e:=AAl n l _ _ _ h;rw[e];simp[NJ]at H;simp[Dx];omega;cases h
theorem AIm {t:ByteArray}(h:dj t=I):t.data.toList.all Dx=I/\t.size<=1000:=by
 unfold dj at h;cases B:Mu t.size t.data.toList 0 0 with
 | none=>rw[B]at h;cases h
 | some q=>rw[B]at h;refine⟨AAl _ _ _ _ _ B,?_⟩;simp only[Ak,Awe]at h;omega
theorem AJx {t:ByteArray}(h:(decide (t.size<=200) && FC Qm t)=I):t.data.toList.all Dx=I/\t.size<=1000:=by
 simp only[Ak,Awe,FC,ES]at h;refine⟨?_,Ux⟩;rw[ES];intro b B;have:=h.2 b B;simp only[Qm,Awe]at this;simp[Dx];omega
theorem AH0 (hx:x.Ok)(hs:s.ok=I){n:Nd}(hf:n.Cl=I)(h1:n.kind≠1)(hr:Src src 1 n.BR)(h:Fw x s src n=J b):b.Ad=I/\b.cnt<=10000*n.cnt:=by
 obtain⟨k,t,c,AE⟩:=n;have z:=Tm ⟨k,t,c,AE⟩;rw[ke]at hr;simp only at h1 z;simp only[Nd.Cl,Ak]at hf;obtain⟨f1,f2⟩:=hf;unfold Fw at h;split at h;cases h
 . rename_i L hL;split at h;cases h
   . rename_i H B;simp only[BL]at h;subst h;have key:H.Ad=I/\H.cnt<=10000*(1+Nd.Az AE):=by
      have S:AE≠[]->H.Ad=I->H.Ad=I/\H.cnt<=10000*(1+Nd.Az AE):=λhk R=>by
       refine⟨R,?_⟩;have:=ik R;match AE,hk with
       | a::l,_=>simp only[Nd.Az];have:=ry a;omega
      have Q:H.Ad=I/\H.cnt<=10000->H.Ad=I/\H.cnt<=10000*(1+Nd.Az AE):=λR=>⟨R.1,Ux⟩
      unfold Ji at B;by_cases q:k=2;rw[Awd q]at B;subst q;exact Q (AZf hx hs f1 B)
      . rw[Awf q]at B;by_cases M:k=3\/k=4;rw[Awd M]at B;have:t.data.toList.all Dx=I/\t.size<=1000:=by
         rcases M with M|M
         subst M;exact AIm f1;subst M;exact AJx f1
        exact Q (ALf hx hs this.1 this.2 B)
        . rw[Awf M]at B;have o:AE≠[]:=by
           rintro rfl;unfold FL at f2;repeat' split at f2
           all_goals first
            | (cases f2;done)
            | skip
           all_goals simp at f2
           all_goals omega
          refine S o ?_;repeat' split at B
          all_goals first
           | exact(OT B).2
           | skip
          unfold O5 at B;repeat' split at B
          simp[Bj]at B;simp[Bj]at B;exact kh B;unfold N2 at B;repeat' split at B
          simp[Bj]at B;exact(OT B).2
     obtain⟨e1,e2⟩:=AUS key.1 hr;exact⟨e1,by rw[e2,z];exact key.2⟩
theorem AFd {p:Nat->Nd->Prop}(AE:List Nd)(h : ¬ ∀j n,AE[j]?=J n->p j n):∃j n,AE[j]?=J n/\¬p j n/\∀i k,i<j->AE[i]?=J k->p i k:=by
 have key : ∀L,L<=G AE->(∀i k,i<L->AE[i]?=J k->p i k)\/∃j n,AE[j]?=J n/\¬p j n/\∀i k,i<j->AE[i]?=J k->p i k:=by
  intro L;induction L with
  | zero=>intro _;exact .inl λi k h _=>absurd h (UE _)
  | succ L ih =>
    intro S;rcases ih (by omega)with B|B
    have M:AE[L]?=J AE[L]:=BE Ux;by_cases R:p L AE[L];refine .inl λi k o H=>?_
    by_cases e:i=L;subst e;rw[M]at H;cases H;exact R;exact B i k Ux H;exact .inr ⟨L,_,M,R,B⟩;exact .inr B
 rcases key (G AE) (BN _)with B|B
 exact absurd (λj n Q=>B j n (Br.1 Q).1 Q) h;exact B
def oG (x:Af)(m:Nat)(n:Nd)(src:List Int)(s:Aa):Prop:=∀(j:Nat) (k:Nd),n.AE[j]?=J k->AQ AF 52 [Bb x m,Am k,.c (AV (src++[(j:Int)])),Aj (GB n.kind j s)] m (BM x.f) (BM x.f) (BP (M2 x s src n.kind j k))
theorem ALH (x:Af)(m:Nat)(n:Nd)(src:List Int)(s:Aa)(J:Nat)(hs:s.ok=I)(hk:FL n.kind n.AL (G n.AE)=I)(FJ:n.kind≠1)(hl:G n.AE<=1000)(z:G src<=100)(R:oG x m n src s)(hJ:J<=G n.AE)(o : ∀j k,j<J->n.AE[j]?=some k->M2 x s src n.kind j k≠E)(L:List AA)(S:Oe x s src n.kind 0 n.AE=L)(j:Nat)(q:j<J) :
 ∃k B,n.AE[j]?=some k/\L[j]?=some B/\M2 x s src n.kind j k=some B/\AQ AF 52 [Bb x m,Am k,.c (AV (src++[(j:Int)])),Aj (GB n.kind j s)] m (BM x.f) (BM x.f) (.ret (Ao B)):=by
 obtain⟨k,H⟩:∃k,n.AE[j]?=some k:=⟨_,BE Ux⟩
 have Q:=R j k H;cases M:M2 x s src n.kind j k with
 | none=>exact absurd M (o j k q H)
 | some B=>rw[M]at Q;refine⟨k,B,H,?_,M,Q⟩;rw[<-S,AK1 x s src n.kind 0 n.AE j k H,Cz,M];rfl
theorem AZN (x:Af)(m:Nat)(n:Nd)(src:List Int)(s:Aa)(hs:s.ok=I)(hk:FL n.kind n.AL (G n.AE)=I)(FJ:n.kind≠1)(hl:G n.AE<=1000)(DJ:G src<=100)(Bn:oG x m n src s)(ha : ∀j k,n.AE[j]?=J k->M2 x s src n.kind j k≠E) :
 Sv AF 131 [Bb x m,Am n,.c (AV src),Aj s] m (BM x.f) (BM x.f) 56 (AA.AG (Oe x s src n.kind 0 n.AE)).flatten (G n.AE) 11:=by
 have H:=tB x s src n.kind 0 n.AE;obtain⟨L,hL⟩:=AI (Oe x s src n.kind 0 n.AE);have hR:=ALH x m n src s (G n.AE) hs hk FJ hl DJ Bn (BN _) (λj k _ h=>ha j k h) L hL;rw[hL]at H ⊢;obtain⟨kd,t,c,AE⟩:=n;simp only at hk FJ hl hR H ⊢;obtain⟨rs,Aw⟩:=AI (Nd.AG AE);have z:G rs=G AE:=by rw[<-Aw,Pc]
 obtain⟨ss,Cu⟩:=AI (AV src);have Ew:(G AE:Int)<=9223372036854775807:=Ux;have FP:128*(G AE:Int)<=281474976710656:=Ux;generalize hN:G AE=N at hk hl hR H z Ew FP ⊢;simp only[Am,Nd.vs,Nd.row,Ap,BB,Aw,Cu];unfold Bb Aj;refine enO func131 ntmps131 ?_;refine qy (cj3 @z @Ew @FP nY) trivial ⟨?_⟩;have e0:=iY L H.symm;simp only[BT]at e0;rw[e0];refine CX (ι:={ k:Nat // k<=N }) (λk=>[(21,(k.1:Int))]) (λk=>[O.mp (Ci m (BM x.f)),O.box 33 [kd,.c (.str t),c,.c (.sl rs)] U,O.box 35 [s.By,.c (.bool s.Hd)] U,O.box 56 (Ht L k.1) U]) (λk=>N - k.1) ⟨0,CI _⟩ ?_ ?_;exact DH;rintro ⟨k,Yq⟩;simp only at Yq ⊢;by_cases Q:k<N;obtain⟨q,B,hq,hB,_,o⟩:=hR k Q;have A9:rs[k]?=J q.row:=by rw[<-Aw];exact XG hq
 have Bu:=gx A9;have Dh:k<G rs:=Ux;have S:=ABI kd (k:Int) s;rw[AK0 hs hk FJ Q]at S;have M:=pR src [(k:Int)] Ux ZA ZA;have hw:AZ.wrap ((k:Int)+1)=((k+1:Nat):Int):=by rw[Ac];simp
 have OC:k<G L:=Ux;have R:=ia L k OC;have Yo:L[k]=B:=by rw[BE OC]at hB;exact ML hB
 have Dz:k*11+11<=G (Ht L k):=by rw[iZ _ _ Ux];omega
 rw[Yo]at R;obtain⟨S',PD⟩:∃S',GB kd (k:Int) s=S':=⟨_,rfl⟩
 rw[PD]at S o;unfold Zx at S;unfold Bb Aj Am at o;simp only[As]at o;unfold Aj at S;have Rp:AV [(k:Int)]=.sl [[.int .i64 (k:Int)]]:=F;rw[Rp,Cu]at M;obtain⟨sk,A1⟩:=AI (AV (src++[(k:Int)]));rw[A1]at M o;simp only[AR]at S;refine qy (cj8 @Q @hw @z @A9 @Bu @Dh @Dz @R nY) (cj3 S M o W) ⟨?_⟩;refine⟨⟨k+1,Q⟩,by simp only;omega,?_⟩;refine Le.MI 4 (F2 F) (by simp[DG,P4]) (by simp[P4]) (by simp[V.BI,V.A8]) (by simp[O.A8,V.BI,V.A8,P4]);obtain rfl:k=N:=Ux;have A0:Ht L k=(AA.AG L).flatten.map V.c:=by rw[<-H];exact wU L
 rw[A0];refine qy (cj2 @Q @z nY) trivial ⟨?_⟩;refine⟨3,ZB,by simp[GJ,C0,DE,CJ,nY],rfl,ZA⟩
theorem AZO (x:Af)(m:Nat)(n:Nd)(src:List Int)(s:Aa)(hs:s.ok=I)(hk:FL n.kind n.AL (G n.AE)=I)(FJ:n.kind≠1)(hl:G n.AE<=1000)(DJ:G src<=100)(Bn:oG x m n src s)(J:Nat)(q0:Nd)(hJ:n.AE[J]?=some q0)(qL:M2 x s src n.kind J q0=E)(ha : ∀j k,j<J->n.AE[j]?=some k->M2 x s src n.kind j k≠E) :
 AQ AF 131 [Bb x m,Am n,.c (AV src),Aj s] m (BM x.f) (BM x.f) (.HB ko):=by
 have YT:J<G n.AE:=(Br.1 hJ).1;have M:=tB x s src n.kind 0 n.AE;obtain⟨L,hL⟩:=AI (Oe x s src n.kind 0 n.AE);have hR:=ALH x m n src s J hs hk FJ hl DJ Bn Ux ha L hL;have S:=Bn J q0 hJ;rw[qL]at S;rw[hL]at M;obtain⟨kd,t,c,AE⟩:=n;simp only at hk FJ hl hR M hJ YT S ⊢;obtain⟨rs,Aw⟩:=AI (Nd.AG AE);have Av:G rs=G AE:=by rw[<-Aw,Pc]
 obtain⟨ss,Cu⟩:=AI (AV src);have Ew:(G AE:Int)<=9223372036854775807:=Ux;have FP:128*(G AE:Int)<=281474976710656:=Ux;generalize hN:G AE=N at hk hl M Av Ew FP YT;simp only[Am,Nd.vs,Nd.row,Ap,BB,Aw,Cu];unfold Bb Aj;refine CH func131 ntmps131 ?_;refine qy (cj3 @Av @Ew @FP nY) trivial ⟨?_⟩;have e0:=iY L M.symm;simp only[BT]at e0;rw[e0];refine CX (ι:={ k:Nat // k<=J }) (λk=>[(21,(k.1:Int))]) (λk=>[O.mp (Ci m (BM x.f)),O.box 33 [kd,.c (.str t),c,.c (.sl rs)] U,O.box 35 [s.By,.c (.bool s.Hd)] U,O.box 56 (Ht L k.1) U]) (λk=>J - k.1) ⟨0,CI _⟩ ?_ ?_;exact DH;rintro ⟨k,Yq⟩;simp only at Yq ⊢;have dB:k<N:=Ux;have Dh:k<G rs:=Ux;have R:=ABI kd (k:Int) s;rw[AK0 hs hk FJ dB]at R;have H:=pR src [(k:Int)] Ux ZA ZA;have hw:AZ.wrap ((k:Int)+1)=((k+1:Nat):Int):=by rw[Ac];simp
 have OC:k<G L:=Ux;have Q:=ia L k OC;have Dz:k*11+11<=G (Ht L k):=by rw[iZ _ _ Ux];omega
 have Rp:AV [(k:Int)]=.sl [[.int .i64 (k:Int)]]:=F;rw[Rp,Cu]at H;unfold Zx Aj at R;simp only[AR]at R;by_cases A0:k<J;obtain⟨q,B,hq,hB,_,hc⟩:=hR k A0;have z:rs[k]?=some q.row:=by rw[<-Aw];exact XG hq
 have Bu:=gx z;have Yo:L[k]=B:=by rw[BE OC]at hB;exact ML hB
 rw[Yo]at Q;obtain⟨S',PD⟩:∃S',GB kd (k:Int) s=S':=⟨_,rfl⟩
 rw[PD]at R hc;unfold Bb Aj Am at hc;simp only[As]at hc;obtain⟨sk,o⟩:=AI (AV (src++[(k:Int)]));rw[o]at H hc;refine qy (cj8 @dB @hw @Av @z @Bu @Dh @Dz @Q nY) (cj3 R H hc W) ⟨?_⟩;refine⟨⟨k+1,A0⟩,by simp only;omega,?_⟩;refine Le.MI 4 (F2 F) (by simp[DG,P4]) (by simp[P4]) (by simp[V.BI,V.A8]) (by simp[O.A8,V.BI,V.A8,P4]);obtain rfl:k=J:=Ux;have z:rs[k]?=some q0.row:=by rw[<-Aw];exact XG hJ
 have Bu:=gx z;obtain⟨S',PD⟩:∃S',GB kd (k:Int) s=S':=⟨_,rfl⟩
 rw[PD]at R S;unfold Bb Aj Am at S;simp only[BP]at S;obtain⟨sk,o⟩:=AI (AV (src++[(k:Int)]));rw[o]at H S;exact qz (cj7 @dB @hw @Av @z @Bu @Dh @Dz nY) (cj3 R H S W)
theorem AZT {d:List Int}{c:Int}(H : ∀k∈d,0<=k/\k<=7)(M:0<=c/\c<=7):∀k∈Pm d c,0<=k/\k<=7:=by
 intro k B;unfold Pm at B;split at B;rcases MJ.1 B with h|h
 exact H k h;simp only[LY]at h;omega;split at B;rcases MJ.1 B with h|h
 rcases uU h with h|h
 exact H k h;omega;simp only[LY]at h;omega;rcases MJ.1 B with h|h
 exact H k h;simp only[LY]at h;omega
theorem AFh : ∀(own d:List Int),(∀k∈d,0<=k/\k<=7)->(∀k∈own,0<=k/\k<=7)->∀k∈own.foldl Pm d,0<=k/\k<=7
 | [],d,B,_=>B
 | c::r,d,B,H=>by
   rw[Bw];exact AFh r _ (AZT B (H c GH)) λk M=>H k (Gk _ M)
theorem AXx {own:List Int}(h : ∀k∈own,0<=k/\k<=7):∀k∈I6 own,0<=k/\k<=7:=by
 intro k B;have H:=AFh own [] (λk h=>by cases h) h;unfold I6 Uj K8 at B;split at B;rcases uU B with h|h
 exact H k h;omega;exact H k B
theorem xc : ∀(l pre:List En),WQ pre l=I->∀e∈l,e.ok=I
 | [],_,_,e,B=>by cases B
 | a::l,pre,h,e,B=>by
   simp only[WQ,Ak]at h;rcases Cf.1 B with rfl|B
   exact h.1;exact xc l _ h.2.2 e B
theorem APX {l:List En}(h : ∀e∈l,e.ok=I)(t:ByteArray):0<=(He l t).cls/\(He l t).cls<=7:=by
 induction l with
 | nil=>simp[He]
 | cons a l ih=>simp only[He];split;have:=h a GH;simp only[En.ok,Ak,Awe]at this;omega;exact ih λe B=>h e (Gk _ B)
theorem AEt {l:List En}(h : ∀e∈l,e.ok=I):∀n:Nat,∀b:Nd,SizeOf.sizeOf b<n->0<=N5 l b/\N5 l b<=7
 | 0,_,B=>absurd B (UE _)
 | n+1,b,B=>by
   rw[AEu];split;exact APX h _;split;obtain⟨k,t,c,AE⟩:=b;simp only;unfold bg;match AE,B with
   | [],_=>simp only;omega
   | ⟨k',M,H,[]⟩::_,_=>simp only;omega
   | ⟨k',M,H,[y]⟩::_,B=>simp only;refine AEt h n y ?_;simp at B;omega
   | ⟨k',M,H,_::_::_⟩::_,_=>simp only;omega
   split<;>omega
theorem AAx {l:List En}(h:Ll l=I)(AE:List Nd):∀k∈I6 (JP l AE),0<=k/\k<=7:=by
 refine AXx λk B=>?_
 obtain⟨b,_,rfl⟩:=Da.1 B;unfold Ll at h;rw[Ak]at h;exact AEt (xc l [] h.1) _ b (Nat.lt_succ_self _)
theorem AY6 (l r:Nat)(B:l<8)(H:r<8):(fE.flatten[l*8+r]?)=J (XY l r):=by
 match l,B with
 | 0,_|1,_|2,_|3,_|4,_|5,_|6,_|7,_ =>
   all_goals
    match r,H with
    | 0,_|1,_|2,_|3,_|4,_|5,_|6,_|7,_=>all_goals rfl
theorem AY7 (l r:Nat)(H:l<8)(B:r<8):(((fE.flatten.map λn=>V.c (.int .i64 n)).drop (l*8)).take 8)[r]?=J (.c (.int .i64 (XY l r))):=by
 rw[KO,Awd B,List.getElem?_drop,CM,AY6 l r H B];rfl
theorem AK7 (l r:Nat)(B:l<8)(H:r<8): -3<=XY l r/\XY l r<=1:=by
 match l,B with
 | 0,_|1,_|2,_|3,_|4,_|5,_|6,_|7,_ =>
   all_goals
    match r,H with
    | 0,_|1,_|2,_|3,_|4,_|5,_|6,_|7,_=>all_goals decide
theorem Mt (a b:Int):a<=mx a b:=by unfold mx;split<;>omega
theorem rq (a b:Int):b<=mx a b:=by unfold mx;split<;>omega
theorem AKT {a b:Int}(B:0<=a)(hb:0<b):0<=Ea a b:=by
 unfold Ea;rw[Awd B];exact Int.ediv_nonneg Ux Ux
theorem AY4 (l r:Nat){v:Int}:0<=VX l r v:=by
 unfold VX;repeat' split
 all_goals omega
theorem AK8 {q:Int}(B:0<=q)(l r:Nat)(v:Int):0<=Qt q l r v:=by
 unfold Qt ka;split;omega;split;have:=AY4 l r (v:=v);exact AKT (Int.mul_nonneg B Ux) Ux;omega
theorem ALC {q:Int}(H:0<=q)(v:Int):∀(l:List Int) (p:Int),∀k∈T1 q v p l,0<=k
 | [],_,k,B=>by cases B
 | c::l,p,k,B=>by
   simp only[T1,Cf]at B;rcases B with rfl|B
   exact AK8 H _ _ _;exact ALC H v l c k B
theorem ALE {q:Int}(H:0<=q)(v:Int)(l:List Int):∀k∈CC q v l,0<=k:=by
 intro k B;match l with
 | []=>cases B
 | c::l =>
   simp only[CC,Cf]at B;rcases B with rfl|B
   omega;exact ALC H v l c k B
theorem AFJ : ∀ {AE:List AA} {sp:List Int} {e:Int},0<=e->(∀b∈AE,0<=b.w)->(∀k∈sp,0<=k)->0<=Eh AE sp e
 | b::l,k::t,e,B,H,M=>by
   simp only[Eh];have S:=H b GH;have o:=M k GH;exact AFJ Ux (λc Q=>H c (Gk _ Q)) λj R=>M j (Gk _ R)
 | [],_,e,B,_,_=>by unfold Eh;exact B
 | _::_,[],e,B,_,_=>by unfold Eh;exact B
theorem si (h:Bj (F9 AE sp)=J c)(hb : ∀b∈AE,0<=b.w)(B : ∀k∈sp,0<=k):0<=c.w:=by
 unfold F9 at h;split at h;simp[Bj]at h;split at h;simp[Bj]at h;unfold Tk at h;split at h;simp[Bj]at h;simp only[Bj,Awg,BL]at h;subst h;exact AFJ Ux hb B
theorem xg (B:x.Ok)(hs:s.ok=I)(t:ByteArray):0<=(x.gl s t).w:=by
 obtain⟨H,M⟩:=HE B.val hs;exact(ACX B.val H M t).1
theorem AXi (n:Nat):∀k∈Aq n (0:Int),0<=k:=λk B=>by rw[List.eq_of_mem_replicate B];omega
theorem ALg (B:x.Ok)(hs:s.ok=I){t:ByteArray}(h:x.Po s t=J b):0<=b.w:=by
 unfold Af.Po at h;refine si h (λc H=>?_) (AXi _);obtain⟨M,_,rfl⟩:=Da.1 H;unfold Af.RW;split;exact ew (VN B hs) Ux;exact xg B hs _
theorem AOJ {a:Int}(h:Bj (KS b a)=J c):c.w=b.w:=by
 unfold KS at h;repeat' split at h
 all_goals simp[Bj]at h
 subst h;rfl
theorem AZg (B:x.Ok)(hs:s.ok=I){t:ByteArray}(h:x.sym s t=J b):0<=b.w:=by
 unfold Af.sym at h;split at h;unfold Af.VI at h;split at h;cases h;rename_i c M;refine si h (λd H=>?_) ZA;simp only[LY]at H;subst H;rw[AOJ M];exact xg B hs _;split at h;cases h;exact xg B hs t;exact ALg B hs h
theorem AFQ : ∀(l:List AA) (e:Int×Int×Int×Int),e.2.1<=(JZ e l).2.1
 | [],e=>IV _
 | b::l,e=>by
   have B:=AFQ l (mn e.1 b.x,mx e.2.1 (b.x+b.w),mx e.2.2.1 (b.y+b.h),mx e.2.2.2 (b.d - b.y));have H:=Mt e.2.1 (b.x+b.w);simp only[JZ];simp only at B;omega
theorem AYV {f:AP}{sub sup:List AA}(hb:0<=b.w):0<=(Oc f s b sub sup).w:=by
 show 0<=(DQ (eu f s b sub sup)).2.1;unfold eu DQ;refine Sk ?_ (AFQ _ _);simp only[AA.AS];omega
theorem AIL : ∀(l:List AA) (w:Int),w<=kV w l
 | [],w=>IV _
 | b::l,w=>Sk (Mt _ _) (AIL l _)
theorem AAf : ∀(l:List AA) (w:Int),w<=IS w l
 | [],w=>IV _
 | b::l,w=>Sk (Mt _ _) (AAf l _)
theorem AUN {f:AP}{sub sup:List AA}:0<=(OP f s b sub sup).w:=by
 show 0<=kV (I4 b sub sup) (ri f s b sub sup);refine Sk ?_ (AIL _ _);unfold I4;exact Sk (Mt 0 b.w) (Sk (AAf sub _) (AAf sup _))
theorem APd {f:AP}{n d:AA}:0<=(WO f s n d).w:=Sk (Mt 0 n.w) (Mt _ d.w)
theorem AXf (H:x.Ok)(hs:s.ok=I){B:List AA}:0<=(Qp x.f s b B).w:=by
 show 0<=eO x.f s B+(EZ x.f s b).w+mx 0 b.w;obtain⟨Q,R⟩:=HE H.val hs;have M:=(find_ok H.val Q R (name:=Nj) ZB (Jm x.f s b)).2.w1;have e:EZ x.f s b=(Hv x.f Nj (Jm x.f s b) (BS x.f.params s)).1:=F;rw[<-e]at M;have S:=Mt 0 b.w;have o:0<=eO x.f s B:=by
  cases B with
  | nil=>exact IV _
  | cons g l=>exact Mt 0 _
 omega
theorem ANC {f:AP}{name:ByteArray}{b a:AA}:0<=(al f s name b a).w:=by
 show 0<=mx (mx 0 _) _;exact Sk (Mt 0 _) (Mt _ _)
theorem AE8 (H:x.Ok)(hs:s.ok=I){name:ByteArray}(R:Ck name=I)(B:Int):0<=(MX x.f name B (x.sz s)).1.w:=by
 obtain⟨o,q⟩:=HE H.val hs;rcases xJ H.val o q R B with h|⟨_,S,M,_,_,_,_,Q⟩
 unfold Af.sz;rw[h.2];exact IV _;unfold Af.sz;rw[Q];exact M.w1
theorem AVw {t:ByteArray}(h:(decide (t.size=2) && FC (Lq RX) t)=I):Ck (Kg t 0)=I/\Ck (Kg t 1)=true:=by
 simp only[Ak,Awe,FC,ES]at h;obtain⟨Q,H⟩:=h;have key : ∀i,i<t.size->Ck (Kg t i)=true:=by
  intro i B;unfold Kg;rw[AFU t i B];have M:i<G t.data.toList:=by rw[FW];exact B
  have:=H (t.data.toList[i]) (Kq M);unfold Lq RX at this;simp at this;simp[Ck,Dx,mA];omega
 exact⟨key 0 Ux,key 1 Ux⟩
theorem xB (B:Nat):∀(l:List AA) (i:Nat) (w:Int),w<=K6 B i w l
 | [],i,w=>IV _
 | b::l,i,w=>by
   simp only[K6];refine Sk ?_ (xB B l _ _);split;exact Mt _ _;exact IV _
theorem AD7 {q:Int}(H:0<=q)(B:Nat)(cells:List AA):∀c,0<=Ig q B cells c
 | 0=>IV _
 | c+1=>by
   simp only[Ig];have M:=AD7 H B cells c;have Q:0<=Lh B cells c:=xB _ _ _ _;omega
theorem ANa (H:x.Ok)(hs:s.ok=I){B:Nat}{cells:List AA}(h:Bj (N2 x.f s B cells)=J b):0<=b.w:=by
 unfold N2 at h;split at h;simp[Bj]at h;rw[(OT h).1];have M:=AD7 (VN H hs) B cells (B - 1);have Q:0<=Lh B cells (B - 1):=xB _ _ _ _;show 0<=Ig _ B cells (B - 1)+Lh B cells (B - 1);have e:x.Al s=AU x.f.params.Al (BS x.f.params s):=F;rw[<-e];omega
theorem ATZ (B:x.Ok)(hs:s.ok=I){t:ByteArray}{c:Int}{AE:List Nd}(S:Ki k t=I)(Q : ∀b∈L,0<=b.w)(h:Ji x s k t c AE L=J b):0<=b.w:=by
 have M : ∀i,0<=(L.getD i AA.zero).w:=by
  intro i;rw[Bv];cases R:L[i]? with
  | none=>exact IV _
  | some b=>exact Q b (Cj R)
 unfold Ji at h;split at h;exact AZg B hs h;split at h;exact ALg B hs h;split at h;rw[(OT h).1];exact APd;split at h;rw[(OT h).1];exact AXf B hs;split at h;rw[(OT h).1];exact ANC;split at h;rename_i z;subst z;obtain⟨o,q⟩:=AVw S;unfold O5 at h;split at h;simp[Bj]at h;split at h;simp[Bj]at h;refine si h (λd H=>?_) ZA;simp only[Cf,List.not_mem_nil,Awj]at H;rcases H with rfl|rfl|rfl
 exact AE8 B hs o _;exact M 0;exact AE8 B hs q _;split at h;exact ANa B hs h;split at h;rw[(OT h).1];exact AUN;rw[(OT h).1];exact AYV (M 0)
mutual
theorem AX4 {x:Af}(H:x.Ok):∀(n:Nd) (s:Aa) (src:List Int) (b:AA),s.ok=I->n.Jb=I->GU x s src n=J b->0<=b.w
 | ⟨k,t,c,AE⟩,s,src,b,B,M,h=>by
   simp only[Nd.Jb,Ak]at M;unfold GU at h;split at h;cases h;unfold Af.empty;show 0<=if src=[]then 0 else AU (x.Al s) 50
   split;omega;exact ew (VN H B) Ux;split at h;cases h;rename_i L R;split at h;cases h;rename_i Q S;cases h;show 0<=Q.w;exact si S (AAL H AE k s src 0 L B M.2 R) (ALE (VN H B) _ _)
theorem AAL {x:Af}(Q:x.Ok):∀(l:List Nd) (k:Int) (s:Aa) (src:List Int) (i:Nat) (L:List AA),s.ok=I->Nd.MY k l=I->Kb x s src i l=J L->∀b∈L,0<=b.w
 | [],k,s,src,i,L,M,H,h,b,B=>by
   simp only[Kb,BL]at h;subst h;cases B
 | n::l,k,s,src,i,L,M,H,h,b,B=>by
   simp only[Nd.MY,Ak]at H;unfold Kb at h;split at h;cases h;rename_i a R;split at h;cases h;rename_i r S;cases h;rcases Cf.1 B with rfl|B
   exact AH1 Q n s _ _ M H.1.2 R;exact AAL Q l k s src (i+1) r M H.2 S b B
theorem AH1 {x:Af}(M:x.Ok):∀(n:Nd) (s:Aa) (src:List Int) (b:AA),s.ok=I->n.Jb=I->Fw x s src n=J b->0<=b.w
 | ⟨k,t,c,AE⟩,s,src,b,H,B,h=>by
   simp only[Nd.Jb,Ak]at B;unfold Fw at h;split at h;cases h;rename_i L R;split at h;cases h;rename_i Q S;cases h;show 0<=Q.w;exact ATZ M H B.1.1 (ABt M AE k k s src 0 L H B.2 R) S
theorem ABt {x:Af}(Q:x.Ok):∀(l:List Nd) (k k':Int) (s:Aa) (src:List Int) (i:Nat) (L:List AA),s.ok=I->Nd.MY k' l=I->Kh x s src k i l=J L->∀b∈L,0<=b.w
 | [],k,k',s,src,i,L,M,H,h,b,B=>by
   simp only[Kh,BL]at h;subst h;cases B
 | n::l,k,k',s,src,i,L,M,H,h,b,B=>by
   simp only[Nd.MY,Ak]at H;unfold Kh at h;split at h;cases h;rename_i a R;split at h;cases h;rename_i r S;cases h;rcases Cf.1 B with rfl|B
   exact AX4 Q n _ _ _ (ABs M) H.1.2 R;exact ABt Q l k k' s src (i+1) r M H.2 S b B
end
theorem AIh : ∀(l:List Nd) (n:Nd),n∈l->n.BR<=Nd.deps l
 | [],_,h=>by cases h
 | a::l,n,h=>by
   simp only[Nd.deps];rcases Cf.1 h with rfl|h
   omega;have:=AIh l n h;omega
theorem AK4 {x:Af}(Q:x.Ok){s:Aa}(hs:s.ok=I){src:List Int}{d:Nat}(M:Src src 1 (d+1))(k:Int):∀(l:List Nd) (i:Nat) (L:List AA),Nd.deps l<=d->Kh x s src k i l=J L->(∀b∈L,b.Ad=I)/\AA.Az L<=10000*Nd.Az l/\(G L)=G l
 | [],i,L,_,h=>by
   simp only[Kh,BL]at h;subst h;exact⟨λb B=>(by cases B),by simp[AA.Az],rfl⟩
 | n::l,i,L,q,h=>by
   simp only[Nd.deps]at q;simp only[Kh]at h;split at h;cases h;rename_i b B;split at h;cases h;rename_i r z;simp only[BL]at h;subst h;obtain⟨R,h2,S⟩:=AK4 Q hs M k l (i+1) r Ux z;obtain⟨o,h5⟩:=AKW Q (ABs hs) (M.add i Ux) B;refine⟨λc H=>?_,?_,by simp[S]⟩;rcases Cf.1 H with rfl|H
   exact o;exact R c H;simp only[AA.Az,Nd.Az];omega
def Dr (x:Af)(s:Aa)(src:List Int)(n:Nd):Option AA:=
 match Kh x s src n.kind 0 n.AE with
 | none=>E
 | some L=>Ji x s n.kind n.text n.AL n.AE L
theorem SD (x:Af)(s:Aa)(src:List Int)(n:Nd):Fw x s src n=match Dr x s src n with|none=>E|some b=>J (b.mark 2 src):=by
 obtain⟨k,t,c,AE⟩:=n;unfold Fw Dr;simp only;cases Kh x s src k 0 AE with
 | none=>rfl
 | some L =>
   simp only;cases Ji x s k t c AE L<;>rfl
def ADo (x:Af)(m:Nat)(n:Nd)(src:List Int)(s:Aa):Prop:=
 (∃L,Kh x s src n.kind 0 n.AE=J L/\Sv AF 131 [Bb x m,Am n,.c (AV src),Aj s] m (BM x.f) (BM x.f) 56 (AA.AG L).flatten (G (AA.AG L)) 11)\/
 (Kh x s src n.kind 0 n.AE=E/\AQ AF 131 [Bb x m,Am n,.c (AV src),Aj s] m (BM x.f) (BM x.f) (.HB ko))
structure RL (x:Af)(m:Nat)(n:Nd)(src:List Int)(s:Aa):Prop where
 hx:x.Ok
 hs:s.ok=I
 own:n.Cl=I
 k1:n.kind≠1
 form:Nd.MY n.kind n.AE=I
 sr:Src src 1 n.BR
 cn:n.cnt<=80
 sl:ADo x m n src s
structure vm (L:List AA):Prop where
 v : ∀b∈L,b.Ad=I
 w : ∀b∈L,0<=b.w
 c:AA.Az L<=800000
theorem RL.parts {m:Nat}{n:Nd}(h:RL x m n src s):
 (Dr x s src n=E/\AQ AF 131 [Bb x m,Am n,.c (AV src),Aj s] m (BM x.f) (BM x.f) (.HB ko))\/
 ∃L,G L=G n.AE/\vm L/\Dr x s src n=Ji x s n.kind n.text n.AL n.AE L/\Sv AF 131 [Bb x m,Am n,.c (AV src),Aj s] m (BM x.f) (BM x.f) 56 (AA.AG L).flatten (G (AA.AG L)) 11:=by
 rcases h.sl with ⟨L,B,H⟩|⟨B,H⟩
 right;have S:=ke n;have M:=h.sr;rw[S]at M;obtain⟨Q,o,R⟩:=AK4 h.hx h.hs M n.kind n.AE 0 L (BN _) B;have q:=Tm n;have:=h.cn;refine⟨L,R,⟨Q,ABt h.hx n.AE n.kind n.kind s src 0 L h.hs h.form B,Ux⟩,?_,H⟩;unfold Dr;rw[B];left;refine⟨?_,H⟩;unfold Dr;rw[B]
theorem vm.one (h:vm L)(hb:b∈L):b.Ad=I/\b.BX/\b.cnt<=20000/\0<=b.w:=⟨h.v b hb,kj (h.v b hb),ik (h.v b hb),h.w b hb⟩
theorem rZ {L:List α}(h:G L=2):∃a b,L=[a,b]:=by
 match L,h with
 | [a,b],_=>exact⟨a,b,F⟩
theorem AIF {L:List α}(h:G L=1):∃a,L=[a]:=by
 match L,h with
 | [a],_=>exact⟨a,F⟩
theorem AT9 {L:List α}(h:G L=3):∃a b c,L=[a,b,c]:=by
 match L,h with
 | [a,b,c],_=>exact⟨a,b,c,F⟩
theorem Qa {n:Nd}(h:n.Cl=I):FL n.kind n.AL (G n.AE)=true:=by
 unfold Nd.Cl at h;rw[Ak]at h;exact h.2
theorem Z3 {n:Nd}(h:n.Cl=I):Ki n.kind n.text=true:=by
 unfold Nd.Cl at h;rw[Ak]at h;exact h.1
theorem VR : ∀r∈AA.AG L,G r=11:=lE L
theorem AWj (f:AP)(s:Aa)(b:AA)(hf:f.Fit)(hv:f.valid=I)(ho:s.ok=I)(hb:b.Ad=I)(D7:b.BX):AC AF 133 [.agg f.vs,Aj s,Ao b,.c (.sl [])] (Ba (C8 (Qp f s b []))):=by
 obtain⟨p1,p2,r1,r2,l1,l2,sg,g1,g2⟩:=AKM (b:=b) hv ho;obtain⟨bw,bh,bd,bc⟩:=D3 hb;have Gt:b.src.length<=1000000:=by have:=GD hb;cases b;simp only[AA.Fq]at this;exact this.1
 have C3:=LI f s;have e0:IT f s=(F1 f s,0):=Awf (by simp[ho,hv]);rw[e0]at C3;have CA:=EL b D7 Ux;rw[hb]at CA;have hL:LJ f s=if s.By=0 then Hl f s+AU (AU f.params.Gj (F1 f s)) 25 else Hl f s+AU (Hl f s) 25:=F
 have hN:Jm f s b=b.h+b.d+LJ f s+Hl f s:=F;have Rn:=ACC tU f Nj (Jm f s b) (F1 f s) hf;have CN:=(find_ok hv p1 p2 (name:=Nj) (by simp[Nj,mA]) (Jm f s b)).1;have FG:Hv f Nj (Jm f s b) (F1 f s)=(EZ f s b,0):=Prod.ext rfl CN;rw[FG]at Rn;have hG:Tw f s b=if Jm f s b<(EZ f s b).h+(EZ f s b).d then LJ f s+Bm ((EZ f s b).h+(EZ f s b).d - Jm f s b)else LJ f s:=F
 have hY:Tx f s b=b.h+Tw f s b:=F;have hT:M0 f s b=Tx f s b+Hl f s:=F;have hB:Qo f s b=M0 f s b - (EZ f s b).h - (EZ f s b).d:=F;have hX:Qp f s b []=Bf (0+(EZ f s b).w+mx 0 b.w) (mx (M0 f s b) b.h) (mx (-(Qo f s b)) b.d) [(EZ f s b).AS 0 (M0 f s b - (EZ f s b).h),(FV (mx 0 b.w) (Hl f s) 0).AS (0+(EZ f s b).w) (Tx f s b),b.AS (0+(EZ f s b).w) 0]:=F;have D2:=EI f.params.rule (F1 f s);have eR:AU f.params.rule (F1 f s)=Hl f s:=F;rw[eR]at D2;have kJ:=sD f.params.Gj (F1 f s) 25;rw[hX];obtain⟨P,hP⟩:=AI (F1 f s);obtain⟨R,o⟩:=AI (Hl f s);obtain⟨L,z⟩:=AI (LJ f s);obtain⟨N,Rf⟩:=AI (Jm f s b);obtain⟨S,q⟩:=AI (EZ f s b);obtain⟨G,Uo⟩:=AI (Tw f s b);obtain⟨Y,Uv⟩:=AI (Tx f s b);obtain⟨T,PG⟩:=AI (M0 f s b);obtain⟨B,OA⟩:=AI (Qo f s b);rw[hP,o,z]at hL;rw[Rf,z,o]at hN;rw[Uo,Rf,q,z]at hG;rw[Uv,Uo]at hY;rw[PG,Uv,o]at hT;rw[OA,PG,q]at hB;rw[Rf,hP,q]at Rn;rw[hP]at C3 D2 kJ p1 p2;rw[o]at D2 r1 r2;rw[z]at l1 l2;rw[q]at sg;rw[Uo]at g1 g2;rw[PG,OA,Uv,o,q];clear hP o z Rf q Uo Uv PG OA hX e0 CN FG eR;obtain⟨sd,sk,sf,sc,A7,A8,A5,A6,A9,B0⟩:=sg;have WZ:=Gu S 0 (T - S.h) (by cases S;simp only[AA.Fq]at sd;exact sd.1);have PT:=ABF (mx 0 b.w) R 0;have Q:=Gu (FV (mx 0 b.w) R 0) (0+S.w) Y (by simp[FV]);have Wa:=Gu b (0+S.w) 0 Gt;have Ew:mx 0 b.w=if 0<b.w then b.w else 0:=F
 obtain⟨W,hW⟩:=AI (mx 0 b.w);have bW:0<=W/\W<=1073741824:=by rw[hW]at Ew;omega
 rw[hW]at PT Q ⊢;have H:=My (0+S.w+W) (mx T b.h) (mx (-B) b.d) [S.AS 0 (T - S.h),(FV W R 0).AS (0+S.w) Y,b.AS (0+S.w) 0] ⟨HJ _ _ sd,HJ _ _ (ABd _ _ _),HJ _ _ (GD hb),trivial⟩ (by simp only[AA.Az,Hb,lH];omega);have M:=EL (Bf (0+S.w+W) (mx T b.h) (mx (-B) b.d) [S.AS 0 (T - S.h),(FV W R 0).AS (0+S.w) Y,b.AS (0+S.w) 0]) ⟨(CI _:0<=maxLen),(CI _:0<=maxLen),F4 _ _ sk,F4 _ _ (ABe _ _ _),F4 _ _ D7,trivial⟩ (by simp only[Bf,AA.cnt,AA.Az,Hb,lH];omega);generalize Bf (0+S.w+W) (mx T b.h) (mx (-B) b.d) [S.AS 0 (T - S.h),(FV W R 0).AS (0+S.w) Y,b.AS (0+S.w) 0]=Z at H M ⊢;simp only[AA.AG,As]at H M WZ Q Wa PT CA ⊢;obtain⟨A1,Ec⟩:=AI (S.AS 0 (T - S.h));obtain⟨U,hU⟩:=AI (FV W R 0);rw[hU]at H Q PT;obtain⟨A2,Fb⟩:=AI (U.AS (0+S.w) Y);obtain⟨A3,Ik⟩:=AI (b.AS (0+S.w) 0);rw[Ec]at H WZ;rw[Fb]at H Q;rw[Ik]at H Wa;clear Ec Fb Ik hU;have iX:=DM (p:=25) R Ux Ux;have A0:=DM (p:=25) (AU f.params.Gj P) Ux Ux;have hh:=J6 (S.h+S.d - N);have w1:AZ.wrap (R+AU R 25)=R+AU R 25:=Ac;have w2:AZ.wrap (R+AU (AU f.params.Gj P) 25)=R+AU (AU f.params.Gj P) 25:=Ac;have w3:AZ.wrap (b.h+b.d)=b.h+b.d:=Ac;have w4:AZ.wrap (b.h+b.d+L)=b.h+b.d+L:=Ac;have w5:AZ.wrap (b.h+b.d+L+R)=N:=by rw[hN];exact Ac
 have w6:AZ.wrap (S.h+S.d)=S.h+S.d:=Ac;have w7:AZ.wrap (S.h+S.d - N)=S.h+S.d - N:=Ac;have w8:AZ.wrap (L+Bm (S.h+S.d - N))=L+Bm (S.h+S.d - N):=Ac;have w9:AZ.wrap (b.h+G)=Y:=by rw[hY];exact Ac
 have lj:AZ.wrap (Y+R)=T:=by rw[hT];exact Ac
 have aB:AZ.wrap (T - S.h)=T - S.h:=Ac;have y7:AZ.wrap (T - S.h - S.d)=B:=by rw[hB];exact Ac
 have tY:AZ.wrap (0+S.w)=0+S.w:=Ac;have tZ:AZ.wrap (0+S.w+W)=0+S.w+W:=Ac;have y8:AZ.wrap (-B)= -B:=Ac;have zW:(if 0<b.w then b.w else 0)=W:=by rw[<-Ew];exact hW
 unfold Aj AR Ba at *
 simp only[As,AR]at Rn ⊢;unfold Nj at Rn;clear Ew;simp only[Int.zero_add]at H WZ Q Wa tY tZ;refine en AD9 AGt ?_;refine Ah ?_;refine BZ (C3) gp ?_;refine Ah ?_;refine BZ (CA) AFL ?_;refine Ah ?_;refine BZ (D2) nI ?_;refine Ah ?_;refine gc @w1 (EI R 25) nI ?_;refine Ah ?_;refine Cn 4 ?_;refine jn (λ_:Unit=>[(14,.c (.int .i64 L))]) ?_ ?_;all_goals simp only[CG,Bw,CO,Ag,Ai]
 by_cases h0:s.By=0;have JJ:s.By=0↔True:=Awn h0;rw[Awd h0]at hL;refine go @JJ ?_;refine gc @w2 (kJ) R3 ?_;refine Ah ?_;refine⟨(),?_⟩;exact ER (cj @hL<|@JJ);rw[Awf h0]at hL;refine go @h0 ?_;refine⟨(),?_⟩;exact ER (cj @hL<|@h0)
 . intro _;have Yv:(if T<b.h then b.h else T)=mx T b.h:=F;have Yu:(if -B<b.d then b.d else -B)=mx (-B) b.d:=F;refine go (cj2 @w3 @w4 @w5) ?_;refine BZ (Rn) Jy ?_;refine go @w6 ?_;refine jn (λ_:Unit=>[(14,.c (.int .i64 G))]) ?_ ?_;all_goals simp only[CG,Bw,CO,Ag,Ai]
   by_cases h1:N<S.h+S.d;have Jc:N<S.h+S.d↔True:=Awn h1;rw[Awd h1]at hG;refine go (cj @Jc<|@w7) ?_;refine gc @w8 (Ke (S.h+S.d - N)) vR ?_;refine Ah ?_;refine⟨(),?_⟩;exact ER (cj @hG<|@Jc);rw[Awf h1]at hG;refine go @h1 ?_;refine⟨(),?_⟩;exact ER (cj @hG<|@h1);intro _;refine go (cj6 @w9 @lj @aB @y7 @y8 @Yv @Yu) ?_;refine AW.le (Le.tL 21 56 11 F) ?_;simp only[BA,BO,Nat.reduceAdd,Ag,Ai,BK,BU];refine LA.loop (LA.round ?_);refine go (cj2 @tY @zW @aB) ?_;refine BZ (WZ) nH ?_;refine BZ (PT) func172 ?_;refine BZ (Q) nH ?_;have Y8:3<=maxLen:=by unfold maxLen;omega
   refine gc @Y8 (Wa) nH ?_;refine go @tZ ?_;refine BZ (H) AQo ?_;refine Ah ?_;cases hz:Z.Ad with
   | false=>rw[hz]at M;have e:C8 Z=(AA.zero,6):=Awf (by simp[hz]);rw[e];refine BZ (M) AFL ?_;refine Ah ?_;exact At (cj ARi<| @Fl)
   | true=>rw[hz]at M;have e:C8 Z=(Z,0):=Awd hz;rw[e];refine BZ (M) AFL ?_;refine Ah ?_;exact At ARi
theorem AWk (f:AP)(s:Aa)(b g:AA)(hf:f.Fit)(hv:f.valid=I)(ho:s.ok=I)(hb:b.Ad=I)(D7:b.BX)(hg:g.Ad=I)(A7:g.BX):AC AF 133 [.agg f.vs,Aj s,Ao b,.c (.sl [g.row])] (Ba (C8 (Qp f s b [g]))):=by
 obtain⟨p1,p2,r1,r2,l1,l2,sg,g1,g2⟩:=AKM (b:=b) hv ho;obtain⟨bw,bh,bd,bc⟩:=D3 hb;obtain⟨gw,gh,gd,G4⟩:=D3 hg;have Gt:b.src.length<=1000000:=by have:=GD hb;cases b;simp only[AA.Fq]at this;exact this.1
 have B3:g.src.length<=1000000:=by have:=GD hg;cases g;simp only[AA.Fq]at this;exact this.1
 have C3:=LI f s;have e0:IT f s=(F1 f s,0):=Awf (by simp[ho,hv]);rw[e0]at C3;have CA:=EL b D7 Ux;rw[hb]at CA;have FI:=EL g A7 Ux;rw[hg]at FI;have hL:LJ f s=if s.By=0 then Hl f s+AU (AU f.params.Gj (F1 f s)) 25 else Hl f s+AU (Hl f s) 25:=F
 have hN:Jm f s b=b.h+b.d+LJ f s+Hl f s:=F;have Rn:=ACC tU f Nj (Jm f s b) (F1 f s) hf;have CN:=(find_ok hv p1 p2 (name:=Nj) (by simp[Nj,mA]) (Jm f s b)).1;have FG:Hv f Nj (Jm f s b) (F1 f s)=(EZ f s b,0):=Prod.ext rfl CN;rw[FG]at Rn;have hG:Tw f s b=if Jm f s b<(EZ f s b).h+(EZ f s b).d then LJ f s+Bm ((EZ f s b).h+(EZ f s b).d - Jm f s b)else LJ f s:=F
 have hY:Tx f s b=b.h+Tw f s b:=F;have hT:M0 f s b=Tx f s b+Hl f s:=F;have hB:Qo f s b=M0 f s b - (EZ f s b).h - (EZ f s b).d:=F;have hV:XP f s b g=Qo f s b+AU (M0 f s b - Qo f s b) 60+mx 0 g.d:=F;have hA:VO f s g=mx 0 (AU (AU f.params.Al (F1 f s)) 28+g.w - AU (AU f.params.Al (F1 f s)) 56):=F;have hX:Qp f s b [g]=Bf (VO f s g+(EZ f s b).w+mx 0 b.w) (mx (mx (M0 f s b) b.h) (XP f s b g+g.h)) (mx (mx (-(Qo f s b)) b.d) (g.d - XP f s b g)) [g.AS (VO f s g+AU (AU f.params.Al (F1 f s)) 56 - g.w) (XP f s b g),(EZ f s b).AS (VO f s g) (M0 f s b - (EZ f s b).h),(FV (mx 0 b.w) (Hl f s) 0).AS (VO f s g+(EZ f s b).w) (Tx f s b),b.AS (VO f s g+(EZ f s b).w) 0]:=F;have D2:=EI f.params.rule (F1 f s);have eR:AU f.params.rule (F1 f s)=Hl f s:=F;rw[eR]at D2;have kJ:=sD f.params.Gj (F1 f s) 25;have NT:=sD f.params.Al (F1 f s) 56;have Ta:=sD f.params.Al (F1 f s) 28;rw[hX];obtain⟨P,hP⟩:=AI (F1 f s);obtain⟨R,z⟩:=AI (Hl f s);obtain⟨L,Re⟩:=AI (LJ f s);obtain⟨N,Rf⟩:=AI (Jm f s b);obtain⟨S,hS⟩:=AI (EZ f s b);obtain⟨G,Uo⟩:=AI (Tw f s b);obtain⟨Y,Uv⟩:=AI (Tx f s b);obtain⟨T,PG⟩:=AI (M0 f s b);obtain⟨B,OA⟩:=AI (Qo f s b);obtain⟨H,yV⟩:=AI (XP f s b g);obtain⟨A,jK⟩:=AI (VO f s g);rw[hP,z,Re]at hL;rw[Rf,Re,z]at hN;rw[Uo,Rf,hS,Re]at hG;rw[Uv,Uo]at hY;rw[PG,Uv,z]at hT;rw[OA,PG,hS]at hB;rw[yV,OA,PG]at hV;rw[jK,hP]at hA;rw[Rf,hP,hS]at Rn;rw[hP]at C3 D2 kJ NT Ta p1 p2 ⊢;rw[z]at D2 r1 r2;rw[Re]at l1 l2;rw[hS]at sg;rw[Uo]at g1 g2;rw[PG,OA,Uv,z,hS,yV,jK];clear hP z Re Rf hS Uo Uv PG OA hX e0 CN FG eR yV jK;obtain⟨sd,sk,sf,sc,G7,G8,G5,G6,G9,H1⟩:=sg;obtain⟨o,A8⟩:=AI (AU (AU f.params.Al P) 28);obtain⟨M,A9⟩:=AI (AU (AU f.params.Al P) 56);have B7:=DM (p:=28) (AU f.params.Al P) Ux Ux;have nz:=DM (p:=56) (AU f.params.Al P) Ux Ux;rw[A8]at B7 Ta hA;rw[A9]at nz NT hA ⊢;obtain⟨vz,B0⟩:=AI (AU (T - B) 60);have F7:=DM (p:=60) (T - B) Ux Ux;have A6:=EI (T - B) 60;rw[B0]at F7 hV A6;have Au:(if 0<o+g.w - M then o+g.w - M else 0)=A:=hA.symm;have Fb:(if M<o+g.w then o+g.w - M else 0)=A:=by rw[<-Au];split<;>split<;>omega
 have jM:(if 0<g.d then g.d else 0)=mx 0 g.d:=F;generalize xr:mx 0 g.d=D0 at hV jM;have bD:0<=D0/\D0<=1073741824:=by rw[<-jM];omega
 have bA:0<=A/\A<=4294967296:=by rw[<-Au];omega
 have yn:=Gu g (A+M - g.w) H B3;have WZ:=Gu S A (T - S.h) (by cases S;simp only[AA.Fq]at sd;exact sd.1);have PT:=ABF (mx 0 b.w) R 0;have QK:=Gu (FV (mx 0 b.w) R 0) (A+S.w) Y (by simp[FV]);have Wa:=Gu b (A+S.w) 0 Gt;have Ew:mx 0 b.w=if 0<b.w then b.w else 0:=F
 obtain⟨W,hW⟩:=AI (mx 0 b.w);have bW:0<=W/\W<=1073741824:=by rw[hW]at Ew;omega
 rw[hW]at PT QK ⊢;have Q:=My (A+S.w+W) (mx (mx T b.h) (H+g.h)) (mx (mx (-B) b.d) (g.d - H)) [g.AS (A+M - g.w) H,S.AS A (T - S.h),(FV W R 0).AS (A+S.w) Y,b.AS (A+S.w) 0] ⟨HJ _ _ (GD hg),HJ _ _ sd,HJ _ _ (ABd _ _ _),HJ _ _ (GD hb),trivial⟩ (by simp only[AA.Az,Hb,lH];omega);have q:=EL (Bf (A+S.w+W) (mx (mx T b.h) (H+g.h)) (mx (mx (-B) b.d) (g.d - H)) [g.AS (A+M - g.w) H,S.AS A (T - S.h),(FV W R 0).AS (A+S.w) Y,b.AS (A+S.w) 0]) ⟨(CI _:0<=maxLen),(CI _:0<=maxLen),F4 _ _ A7,F4 _ _ sk,F4 _ _ (ABe _ _ _),F4 _ _ D7,trivial⟩ (by simp only[Bf,AA.cnt,AA.Az,Hb,lH];omega);generalize Bf (A+S.w+W) (mx (mx T b.h) (H+g.h)) (mx (mx (-B) b.d) (g.d - H)) [g.AS (A+M - g.w) H,S.AS A (T - S.h),(FV W R 0).AS (A+S.w) Y,b.AS (A+S.w) 0]=Z at Q q ⊢;simp only[AA.AG,As]at Q q yn WZ QK Wa PT CA FI ⊢;obtain⟨A0,Gr⟩:=AI (g.AS (A+M - g.w) H);obtain⟨A1,Ec⟩:=AI (S.AS A (T - S.h));obtain⟨U,hU⟩:=AI (FV W R 0);rw[hU]at Q QK PT;obtain⟨A2,A5⟩:=AI (U.AS (A+S.w) Y);obtain⟨A3,Ik⟩:=AI (b.AS (A+S.w) 0);rw[Gr]at Q yn;rw[Ec]at Q WZ;rw[A5]at Q QK;rw[Ik]at Q Wa;clear Gr Ec A5 Ik hU;have iX:=DM (p:=25) R Ux Ux;have G2:=DM (p:=25) (AU f.params.Gj P) Ux Ux;have hh:=J6 (S.h+S.d - N);have w1:AZ.wrap (R+AU R 25)=R+AU R 25:=Ac;have w2:AZ.wrap (R+AU (AU f.params.Gj P) 25)=R+AU (AU f.params.Gj P) 25:=Ac;have w3:AZ.wrap (b.h+b.d)=b.h+b.d:=Ac;have w4:AZ.wrap (b.h+b.d+L)=b.h+b.d+L:=Ac;have w5:AZ.wrap (b.h+b.d+L+R)=N:=by rw[hN];exact Ac
 have w6:AZ.wrap (S.h+S.d)=S.h+S.d:=Ac;have w7:AZ.wrap (S.h+S.d - N)=S.h+S.d - N:=Ac;have w8:AZ.wrap (L+Bm (S.h+S.d - N))=L+Bm (S.h+S.d - N):=Ac;have w9:AZ.wrap (b.h+G)=Y:=by rw[hY];exact Ac
 have lj:AZ.wrap (Y+R)=T:=by rw[hT];exact Ac
 have aB:AZ.wrap (T - S.h)=T - S.h:=Ac;have y7:AZ.wrap (T - S.h - S.d)=B:=by rw[hB];exact Ac
 have tY:AZ.wrap (A+S.w)=A+S.w:=Ac;have tZ:AZ.wrap (A+S.w+W)=A+S.w+W:=Ac;have y8:AZ.wrap (-B)= -B:=Ac;have B8:AZ.wrap (o+g.w)=o+g.w:=Ac;have D1:AZ.wrap (o+g.w - M)=o+g.w - M:=Ac;have D8:AZ.wrap (T - B)=T - B:=Ac;have E0:AZ.wrap (B+vz)=B+vz:=Ac;have E1:AZ.wrap (B+vz+D0)=H:=by rw[hV];exact Ac
 have E2:AZ.wrap (A+M)=A+M:=Ac;have E3:AZ.wrap (A+M - g.w)=A+M - g.w:=Ac;have E4:AZ.wrap (H+g.h)=H+g.h:=Ac;have E9:AZ.wrap (g.d - H)=g.d - H:=Ac;have F6:AZ.wrap 1=1:=Ac;have zW:(if 0<b.w then b.w else 0)=W:=by rw[<-Ew];exact hW
 unfold Aj AR Ba at *
 simp only[As,AR]at Rn ⊢;unfold Nj at Rn;clear Ew;refine en AD9 AGt ?_;refine Ah ?_;refine BZ (C3) gp ?_;refine Ah ?_;refine BZ (CA) AFL ?_;refine BZ (FI) AFL ?_;refine Ah ?_;refine BZ (D2) nI ?_;refine Ah ?_;refine gc @w1 (EI R 25) nI ?_;refine Ah ?_;refine Cn 4 ?_;refine jn (λ_:Unit=>[(14,.c (.int .i64 L))]) ?_ ?_;all_goals simp only[CG,Bw,CO,Ag,Ai]
 by_cases h0:s.By=0;have JJ:s.By=0↔True:=Awn h0;rw[Awd h0]at hL;refine go @JJ ?_;refine gc @w2 (kJ) R3 ?_;refine Ah ?_;refine⟨(),?_⟩;exact ER (cj @hL<|@JJ);rw[Awf h0]at hL;refine go @h0 ?_;refine⟨(),?_⟩;exact ER (cj @hL<|@h0)
 . intro _;have Yv:(if T<b.h then b.h else T)=mx T b.h:=F;have Yu:(if -B<b.d then b.d else -B)=mx (-B) b.d:=F;obtain⟨MT,qP⟩:=AI (mx T b.h);obtain⟨MB,qO⟩:=AI (mx (-B) b.d);rw[qP]at Yv Q;rw[qO]at Yu Q;have B2:(if MT<H+g.h then H+g.h else MT)=mx MT (H+g.h):=F;have B1:(if MB<g.d - H then g.d - H else MB)=mx MB (g.d - H):=F;refine go (cj2 @w3 @w4 @w5) ?_;refine BZ (Rn) Jy ?_;refine go @w6 ?_;refine jn (λ_:Unit=>[(14,.c (.int .i64 G))]) ?_ ?_;all_goals simp only[CG,Bw,CO,Ag,Ai]
   by_cases h1:N<S.h+S.d;have Jc:N<S.h+S.d↔True:=Awn h1;rw[Awd h1]at hG;refine go (cj @Jc<|@w7) ?_;refine gc @w8 (Ke (S.h+S.d - N)) vR ?_;refine Ah ?_;refine⟨(),?_⟩;exact ER (cj @hG<|@Jc);rw[Awf h1]at hG;refine go @h1 ?_;refine⟨(),?_⟩;exact ER (cj @hG<|@h1);intro _;refine go (cj6 @w9 @lj @aB @y7 @y8 @Yv @Yu) ?_;refine AW.le (Le.tL 21 56 11 F) ?_;simp only[BA,BO,Nat.reduceAdd,Ag,Ai,BK,BU];refine LA.loop (LA.round ?_);have kI:1<=maxLen:=by unfold maxLen;omega
   have Y8:4<=maxLen:=by unfold maxLen;omega
   refine Ah ?_;refine BZ (NT) R3 ?_;refine Ah ?_;refine gc (cj2 @B8 @D1 @Fb) (Ta) R3 ?_;refine go @D8 ?_;refine gc (cj2 @E0 @jM @E1) (A6) nI ?_;refine go (cj @E2<|@E3) ?_;refine gc @kI (yn) nH ?_;refine go (cj4 @E4 @E9 @B2 @B1 @F6) ?_;refine LA.round ?_;refine go (cj2 @tY @zW @aB) ?_;refine BZ (WZ) nH ?_;refine BZ (PT) func172 ?_;refine BZ (QK) nH ?_;refine gc @Y8 (Wa) nH ?_;refine go @tZ ?_;refine BZ (Q) AQo ?_;refine Ah ?_;cases hz:Z.Ad with
   | false=>rw[hz]at q;have e:C8 Z=(AA.zero,6):=Awf (by simp[hz]);rw[e];refine BZ (q) AFL ?_;refine Ah ?_;exact At (cj ARi<| @Fl)
   | true=>rw[hz]at q;have e:C8 Z=(Z,0):=Awd hz;rw[e];refine BZ (q) AFL ?_;refine Ah ?_;exact At ARi
theorem AJm (f:AP)(s:Aa)(b:AA)(Q:List (List C))(M:s.ok=U\/f.valid=U):AC AF 133 [.agg f.vs,Aj s,Ao b,.c (.sl Q)] (Ba (AA.zero,1)):=by
 have B:=LI f s;have H:IT f s=(0,1):=Awd M;rw[H]at B;unfold Aj AR Ba at *
 simp only[As,AR]at B ⊢;refine en AD9 AGt ?_;refine Ah ?_;refine BZ (B) gp ?_;refine Ah ?_;exact At (cj ARi<| @Fl)
theorem AWg (f:AP)(s:Aa)(b:AA)(q:List (List C))(o:f.valid=I)(S:s.ok=I)(hb:b.Ad=U)(M:b.BX)(Q:b.cnt<=1000000):AC AF 133 [.agg f.vs,Aj s,Ao b,.c (.sl q)] (Ba (AA.zero,1)):=by
 have B:=LI f s;have R:IT f s=(F1 f s,0):=Awf (by simp[S,o]);rw[R]at B;have H:=EL b M Q;rw[hb]at H;unfold Aj AR Ba at *
 simp only[As,AR]at B H ⊢;refine en AD9 AGt ?_;refine Ah ?_;refine BZ (B) gp ?_;refine Ah ?_;refine BZ (H) AFL ?_;refine Ah ?_;exact At (cj ARi<| @Fl)
theorem AWh (f:AP)(s:Aa)(b:AA)(Q:List (List C))(hv:f.valid=I)(z:s.ok=I)(hb:b.Ad=I)(R:b.BX)(S:b.cnt<=1000000)(q:1<G Q):AC AF 133 [.agg f.vs,Aj s,Ao b,.c (.sl Q)] (Ba (AA.zero,1)):=by
 have B:=LI f s;have o:IT f s=(F1 f s,0):=Awf (by simp[z,hv]);rw[o]at B;have H:=EL b R S;rw[hb]at H;have M:(1:Int)<(G Q:Int):=Ux;unfold Aj AR Ba at *
 simp only[As,AR]at B H ⊢;refine en AD9 AGt ?_;refine Ah ?_;refine BZ (B) gp ?_;refine Ah ?_;refine gc (cj @M<|@q) (H) AFL ?_;refine Ah ?_;exact At (cj ARi<| @Fl)
theorem AWi (f:AP)(s:Aa)(b g:AA)(hv:f.valid=I)(ho:s.ok=I)(hb:b.Ad=I)(R:b.BX)(o:b.cnt<=1000000)(z:g.Ad=U)(Q:g.BX)(S:g.cnt<=1000000):AC AF 133 [.agg f.vs,Aj s,Ao b,.c (.sl [g.row])] (Ba (AA.zero,1)):=by
 have B:=LI f s;have q:IT f s=(F1 f s,0):=Awf (by simp[ho,hv]);rw[q]at B;have H:=EL b R o;rw[hb]at H;have M:=EL g Q S;rw[z]at M;unfold Aj AR Ba at *
 simp only[As,AR]at B H M ⊢;refine en AD9 AGt ?_;refine Ah ?_;refine BZ (B) gp ?_;refine Ah ?_;refine BZ (H) AFL ?_;refine BZ (M) AFL ?_;refine Ah ?_;exact At (cj ARi<| @Fl)
theorem AWf (f:AP)(s:Aa)(b:AA)(Q:List AA)(hf:f.Fit)(R:b.BX)(o:b.cnt<=1000000)(q : ∀g∈Q,g.BX/\g.cnt<=1000000):AC AF 133 [.agg f.vs,Aj s,Ao b,.c (.sl (AA.AG Q))] (Ba (VP f s b Q)):=by
 cases H:f.valid with
 | false=>have e:VP f s b Q=(AA.zero,1):=Awd (.inl H);rw[e];exact AJm f s b _ (.inr H)
 | true =>
   cases B:s.ok with
   | false=>have e:VP f s b Q=(AA.zero,1):=Awd (.inr (.inl B));rw[e];exact AJm f s b _ (.inl B)
   | true =>
     cases M:b.Ad with
     | false=>have e:VP f s b Q=(AA.zero,1):=Awd (.inr (.inr (.inl M)));rw[e];exact AWg f s b _ H B M R o
     | true =>
       match Q,q with
       | [],_=>have e:VP f s b []=C8 (Qp f s b []):=Awf (by simp[H,B,M]);rw[e];exact AWj f s b hf H B M R
       | [g],q =>
         obtain⟨z,g2⟩:=q g GH;cases S:g.Ad with
         | false=>have e:VP f s b [g]=(AA.zero,1):=Awd (.inr (.inr (.inr (.inl (by simp[S])))));rw[e];exact AWi f s b g H B M R o S z g2
         | true=>have e:VP f s b [g]=C8 (Qp f s b [g]):=Awf (by simp[H,B,M,S]);rw[e];exact AWk f s b g hf H B M R S z
       | g::g'::l,_=>have e:VP f s b (g::g'::l)=(AA.zero,1):=Awd (.inr (.inr (.inr (.inr ZA))));rw[e];exact AWh f s b _ H B M R o (by simp[AA.AG])
theorem AEz (B:Nat):∀(l:List AA) (i:Nat) (w:Int),K6 B (i+B) w l=K6 B i w l
 | [],_,_=>rfl
 | b::l,i,w=>by
   simp only[K6,Nat.add_mod_right];rw[show i+B+1=i+1+B by omega];exact AEz B l _ _
theorem AEy (B:Nat):∀(l:List AA) (i:Nat) (w:Int),0<i->i<=B->K6 B i w l=K6 B 0 w (l.drop (B - i))
 | [],i,w,_,_=>by rw[List.drop_nil];rfl
 | b::l,i,w,M,Q=>by
   by_cases e:i=B;subst e;rw[Nat.sub_self,B9];have:=AEz i (b::l) 0 w;rwa [Cz]at this
   have H:i % B≠0:=by rw[uZ Ux];omega
   simp only[K6,Awf H];rw[AEy B l (i+1) w Ux Ux,show B - i=(B - (i+1))+1 by omega,CU]
theorem AOW {B:Nat}(H:0<B)(b:AA)(l:List AA)(w:Int):K6 B 0 w (b::l)=K6 B 0 (mx w b.w) ((b::l).drop B):=by
 simp only[K6,Nat.zero_mod,Awg,Cz];rw[AEy B l 1 _ Ux H];obtain⟨k,rfl⟩:∃k,B=k+1:=⟨B - 1,Ux⟩
 rw[CU,Nat.add_sub_cancel]
def A4 (cells:List AA)(i:Nat):AA:=cells.getD i AA.zero
theorem bJ {cells:List AA}(h:i<G cells):A4 cells i=cells[i]:=by simp[A4,h]
theorem wQ {cells:List AA}(h:i<G cells):cells[i]?=J (A4 cells i):=by rw[bJ h];exact BE h
theorem bK {cells:List AA}(h:i<G cells):A4 cells i∈cells:=by rw[bJ h];exact Kq h
theorem xA {α:Type}(val:α->Nat){B c:Nat}(R:0<B)(cells:List AA):∀(l:List α) (j:Nat) (w:Int),(∀y∈l,val y<G cells)->(∀k y,l[k]?=J y->val y=c+B*(j+k))->G cells<=c+B*(j+G l)->(l.map λi=>(A4 cells (val i)).w).foldl mx w=K6 B 0 w (cells.drop (c+B*j))
 | [],j,w,_,_,h=>by
   rw[List.drop_eq_nil_of_le (by simpa using h)];rfl
 | y::l,j,w,Q,S,h=>by
   have o:val y=c+B*j:=by have:=S 0 y F;simpa using this
   have H:c+B*j<G cells:=by have:=Q y GH;omega
   rw[D5 H,AOW R,Ap,Bw];have e:(cells[c+B*j]::cells.drop (c+B*j+1)).drop B=cells.drop (c+B*(j+1)):=by
    rw[<-D5 H,List.drop_drop,Nat.mul_add,Nat.mul_one];congr 1
    omega
   rw[e,<-xA val R cells l (j+1) _ (λz M=>Q z (Gk _ M)) (λk z M=>by have:=S (k+1) z (by simpa using M);rw[this];congr 2;omega) (by rw[BA]at h;rw[show j+1+G l=j+(G l+1)by omega];exact h)];rw[o,bJ H]
theorem kO {p:Nat->Prop}(b d B:Nat)(h : ∀k,k<B->p (b+d*k)):∃l:List { i:Nat // p i },G l=B/\∀(k:Nat) (y : { i:Nat // p i }),l[k]?=J y->y.val=b+d*k:=by
 refine⟨List.ofFn λk:Fin B=>⟨b+d*k.val,h k.val k.isLt⟩,List.length_ofFn,λk y H=>?_⟩;obtain⟨M,e⟩:=Br.1 H;rw[List.getElem_ofFn]at e;rw[<-e]
theorem ANY (val:α->Nat){B r:Nat}(cells:List AA)(l:List α)(hb : ∀y∈l,val y<G cells)(o:G l=B)(R : ∀k y,l[k]?=J y->val y=r*B+k):l.map (λi=>A4 cells (val i))=Ha B cells r:=by
 unfold Ha;have q:B=0\/r*B+B<=G cells:=by
  rcases Nat.eq_zero_or_pos B with h|h
  exact .inl h;right;have H:l[B - 1]?=J (l[B - 1]'(by omega)):=BE Ux;have M:=R _ _ H;have S:=hb _ (Cj H);omega
 apply UB;rw[Ch,o,Fa,List.length_drop];omega;intro i M S;rw[Ch]at M;rw[mW,List.getElem_take,List.getElem_drop];have H:l[i]?=J l[i]:=BE M;have:=R _ _ H;have Q:=hb _ (Cj H);rw[bJ Q];simp only[this]
theorem ANV (val:α->Nat){B r:Nat}(q:Int)(cells:List AA)(l:List α)(hb : ∀y∈l,val y<G cells)(H:G l=B)(M : ∀k y,l[k]?=J y->val y=r*B+k):(l.map λi=>(A4 cells (val i)).h).foldl mx (AU q 70)=MW q (Ha B cells r)/\(l.map λi=>(A4 cells (val i)).d).foldl mx (AU q 30)=N1 q (Ha B cells r):=by
 have e:=ANY val cells l hb H M;unfold MW N1;rw[<-e];simp only[List.foldl_map];exact⟨W,W⟩
theorem AFj : ∀(l:List Int) (a:Int),a<=l.foldl mx a/\∀x∈l,x<=l.foldl mx a
 | [],a=>⟨IV _,λ_ h=>by cases h⟩
 | x::l,a=>by
   rw[Bw];obtain⟨M,H⟩:=AFj l (mx a x);have Q:a<=mx a x/\x<=mx a x:=by unfold mx;split<;>omega
   refine⟨Ux,λy B=>?_⟩;rcases Cf.1 B with rfl|B
   omega;exact H y B
def Ho (p:Nat->Bool)(g:Nat->AA->AA)(l:List AA):List AA:=l.mapIdx λi b=>if p i=I then g i b else b
theorem Xd (p:Nat->Bool)(g:Nat->AA->AA)(l:List AA):G (Ho p g l)=G l:=by simp[Ho]
theorem fQ (p:Nat->Bool)(g:Nat->AA->AA)(l:List AA)(i:Nat):(Ho p g l)[i]?=l[i]?.map λb=>if p i=I then g i b else b:=by simp[Ho]
theorem lf (p:Nat->Bool)(g:Nat->AA->AA)(l:List AA)(i:Nat)(h:i<G l):(Ho p g l)[i]'(by rw[Xd];exact h)=if p i=I then g i l[i]else l[i]:=by simp[Ho]
theorem AZ3 (p:Nat->Bool)(g:Nat->AA->AA)(l:List AA)(i:Nat)(h:i<G l):(Ho p g l).set i (g i l[i])=Ho (λj=>p j || decide (j=i)) g l:=by
 apply UB;simp[Ho];intro j B M;rw[List.getElem_set];rw[GF,Xd]at B;rw[lf _ _ _ _ B,lf _ _ _ _ B];by_cases e:i=j;subst e;simp;have H : ¬j=i:=λh=>e h.symm
 simp[e,H]
theorem ALr (val:α->Nat)(p:Nat->Bool)(g:Nat->AA->AA)(l:List AA)(pre:List α)(y:α)(h:val y<G l):(Ho (λj=>p j || pre.any λz=>decide (j=val z)) g l).set (val y) (g (val y) l[val y])=Ho (λj=>p j || (pre++[y]).any λz=>decide (j=val z)) g l:=by
 rw[AZ3 _ _ _ _ h];congr 1
 funext j;simp[Bool.or_assoc]
theorem ALq (p:Nat->Bool)(g:Nat->AA->AA)(l:List AA)(h : ∀i,i<G l->p i=U):Ho p g l=l:=by
 apply UB;simp[Ho];intro j H B;rw[lf _ _ _ _ B,h j B];simp
theorem ALp {p p':Nat->Bool}{g:Nat->AA->AA}{l:List AA}(h : ∀i,i<G l->p i=p' i):Ho p g l=Ho p' g l:=by
 apply UB;simp[Ho];intro j B H;rw[Xd]at B;rw[lf _ _ _ _ B,lf _ _ _ _ B,h j B]
def Ua (q:Int)(AL:Nat)(cells:List AA)(i:Nat)(b:AA):AA:={ b with x:=Ig q AL cells (i % AL)+Bm (Lh AL cells (i % AL) - b.w) }
def V1 (q:Int)(AL:Nat)(cells:List AA)(top:Int)(i:Nat)(b:AA):AA:={ b with y:=top - N3 q AL cells (i / AL) - MW q (Ha AL cells (i / AL)) }
def Gn (q:Int)(AL:Nat)(cells:List AA)(c:Nat):List AA:=Ho (λi=>decide (i % AL<c)) (Ua q AL cells) cells
def P3 (q:Int)(AL:Nat)(cells:List AA)(top:Int)(r:Nat):List AA:=Ho (λi=>decide (i / AL<r)) (V1 q AL cells top) (Gn q AL cells AL)
theorem AD4 (q:Int)(H:Nat)(cells:List AA)(B:Int):∀(l:List AA) (i j:Nat),(Ox q H cells B i l)[j]?=l[j]?.map λb=>wN q H cells B (i+j) b
 | [],i,j=>by simp[Ox]
 | b::l,i,0=>by simp[Ox]
 | b::l,i,j+1=>by
   simp only[Ox,JU];rw[AD4 q H cells B l (i+1) j,show i+1+j=i+(j+1)by omega]
theorem ANW (q:Int){B AG:Nat}(Q:0<B)(cells:List AA)(z:G cells=AG*B)(H:Int):P3 q B cells H AG=Ox q B cells H 0 cells:=by
 apply Vc;intro j;rw[AD4,Cz];unfold P3 Gn;rw[fQ,fQ];cases o:cells[j]? with
 | none=>rfl
 | some b =>
   have M:j<AG*B:=by rw[<-z];exact(Br.1 o).1
   have R:j % B<B:=mh _ Q;have S:j / B<AG:=(AC4 Q).2 M;simp only[Nu,R,S,decide_true,Awg];rfl
def EN (l:List AA)(Z:List C):List V:=((AA.AG l).flatten++Z).map V.c
theorem X5 :(AA.AG l).flatten.length=G l*11:=by
 rw[List.length_flatten];have:(AA.AG l).map List.length=Aq (G l) 11:=by
  apply UB;simp[GA];intro i B H;simp only[mW,List.getElem_replicate];exact lE l _ (Kq _)
 rw[this];simp
theorem iO {l:List AA}{Z:List C}{i q:Nat}(h:l[i]?=J b)(B:q<11):(EN l Z)[i*11+q]?=(b.row.map V.c)[q]?:=by
 have H:i<G l:=(Br.1 h).1;unfold EN;rw[Fm,EJ (by rw[Ch,X5];omega),flat_get h B]
theorem bC (Z:List C):G (EN l Z)=G l*11+G Z:=by
 unfold EN;rw[Ch,Cp,X5]
@[simp] theorem RQ (n:Nat)(l:List AA)(Z:List C):V.BI n (EN l Z)=true:=by
 unfold EN;generalize ((AA.AG l).flatten++Z)=r;induction r with
 | nil=>rfl
 | cons c r ih=>simp only[Ap,V.BI,V.A8,Cd];exact ih
theorem og {l:List AA}{Z:List C}{i q:Nat}{b H:AA}{v:C}(h:l[i]?=J b)(hq:q<11)(hb:H.row=b.row.set q v):(EN l Z).set (i*11+q) (.c v)=EN (l.set i H) Z:=by
 have hi:i<G l:=(Br.1 h).1;unfold EN;rw[<-List.map_set (f:=V.c),List.set_append_left _ _ (by rw[X5];omega)];congr 2
 apply Vc;intro j;have e : ∀(m:List AA) (j:Nat),j<G m*11->(AA.AG m).flatten[j]?=(m[j / 11]?.bind λb=>b.row[j % 11]?):=by
  intro m j M;have hm:j / 11<G m:=Ux;have z:m[j / 11]?=J m[j / 11]:=BE hm;have B:=flat_get z (mh j (by omega:0<11));rw[show j / 11*11+j % 11=j by omega,CM,CM]at B;rw[z,aQ];cases S:(AA.AG m).flatten[j]? with
  | none=>rw[List.getElem?_eq_none_iff,X5]at S;omega
  | some a =>
    rw[S]at B;cases o:(m[j / 11]).row[j % 11]? with
    | none=>rw[o]at B;cases B
    | some c=>rw[o]at B;simp only[Nu,BL,V.c.injEq]at B;rw[B]
 by_cases M:j<G l*11;rw[e (l.set i H) j (by rw[GF];exact M),RD,RD];by_cases Q:i*11+q=j;subst Q;rw[Awd rfl,Awd (by rw[X5];omega),Awd Ux,Awd hi,aQ,hb,show (i*11+q) % 11=q by omega,List.getElem?_set_self (by rw[Nk];exact hq)];rw[Awf Q,e l j M];by_cases R:i=j / 11;subst R;rw[Awd rfl,Awd hi,h,aQ,aQ,hb,List.getElem?_set_ne Ux];rw[Awf R];rw[M6 (by rw[GF,X5];omega),M6 (by rw[X5,GF];omega)]
theorem AD1 (Z:List C):V.Pn (EN l Z)=true:=AIW _
theorem bE (k:Nat)(l:List AA)(Z:List C):V.Dj k (EN l Z)=J (EN l Z):=AIV k _
structure aZ (q:Int)(AL AG:Nat)(cells:List AA):Prop where
 n:G cells=AG*AL
 c1:1<=AL
 c2:AL<=16
 r1:1<=AG
 n2:G cells<=256
 q0:0<=q
 q1:q<=1073741824
 w : ∀b∈cells,0<=b.w/\b.w<=1073741824
theorem AD5 {q:Int}{B AG:Nat}{cells:List AA}(h:aZ q B AG cells)(c:Nat):0<=Lh B cells c/\Lh B cells c<=1073741824:=by
 have key : ∀(l:List AA) (i:Nat) (w:Int),0<=w->w<=1073741824->(∀b∈l,b.w<=1073741824)->0<=K6 B i w l/\K6 B i w l<=1073741824:=by
  intro l;induction l with
  | nil=>intro i w M Q _;exact⟨M,Q⟩
  | cons b l ih =>
    intro i w M Q H;simp only[K6];have NO:=H b GH;refine ih _ _ ?_ ?_ λb R=>H b (Gk _ R)
    split;unfold mx;split<;>omega;exact M;split;unfold mx;split<;>omega;exact Q
 exact key _ _ _ Ux Ux λb H=>(h.w b (List.mem_of_mem_drop H)).2
theorem AD6 {q:Int}{B AG:Nat}{cells:List AA}(h:aZ q B AG cells):∀c,0<=Ig q B cells c/\Ig q B cells c<=(c:Int)*2147483648
 | 0=>by simp[Ig]
 | c+1=>by
   have H:=AD6 h c;have M:=AD5 h c;have Q:=h.q0;have R:=h.q1;simp only[Ig];push_cast
   omega
theorem ANZ {q:Int}{B AG:Nat}{cells:List AA}(h:aZ q B AG cells)(hi:i<G cells):(A4 cells i).w<=Lh B cells (i % B):=by
 have M:0<B:=h.c1;have hm:=mh i M;have Q:=h.n;obtain⟨l,o,z⟩:=kO (p:=λj=>j<G cells) (i % B) B AG λk H=>by
  rw[Q];have:B*k+B<=AG*B:=by rw[aO AG B,<-AQH];exact mj _ H
  omega
 have S:=xA (λy : { j:Nat // j<G cells }=>y.val) (c:=i % B) M cells l 0 0 (λy _=>y.2) (λk y R=>by rw[Cz];exact z k y R) (by rw[Cz,o,Q,aO AG B];omega);rw[AbF,M8]at S;show _<=K6 B 0 0 (cells.drop (i % B));rw[<-S];have H:i / B<G l:=by rw[o];exact(AC4 M).2 (by rw[<-Q];exact hi)
 have hg:l[i / B]?=J l[i / B]:=BE H;have R:=z _ _ hg;have he:l[i / B].val=i:=by rw[R,AMz]
 refine(AFj _ 0).2 _ (Da.2 ⟨_,Kq H,?_⟩);rw[he]
theorem AXM (b:AA)(x:Int):({ b with x:=x }:AA).row=b.row.set 6 (.int .i64 x):=by cases b;rfl
theorem ABh (b:AA):(b.row.map V.c)[3]?=J (.c (.int .i64 b.w)):=by cases b;rfl
def X6 (q:Int)(AL:Nat)(cells:List AA)(c:Nat):Int:=if c=0 then 0 else Ig q AL cells (c - 1)+Lh AL cells (c - 1)
theorem AE0 (cells:List AA)(Z:List C)(H AG:Nat)(q:Int)(h:aZ q H AG cells):AY AF 187 [.own 0 0 (G cells) 11,(H:Int),q] 56 (EN cells Z) (EN (Gn q H cells H) Z) (.A7 [.c (.int .i64 (Ig q H cells (H - 1)+Lh H cells (H - 1))),.c (.bool I)]):=by
 obtain⟨hn,HL,GM,HP,KY,rC,NT,Ws⟩:=id h;obtain⟨N,hN⟩:=AI (G cells);rw[hN]at hn KY ⊢;have DK : ∀c,G (Gn q H cells c)=N:=λc=>by unfold Gn;rw[Xd,hN]
 have cX:Gn q H cells 0=cells:=ALq _ _ _ λi _=>ZA
 have G9:AG<=256:=by have:AG*1<=AG*H:=mj _ HL;omega
 have B2:(H:Int)<=9223372036854775807:=Ux;refine AY.intro func187 rfl ?_;simp only[ntmps187,Ap,BB,BA,BO,Nat.reduceAdd,Nat.reduceSub,BY,Cy,BK,BU];refine Ah ?_;have e0:EN cells Z=EN (Gn q H cells 0) Z:=by rw[cX]
 rw[e0];refine CX (ι:={ c:Nat // c<=H }) (λc=>[(15,(c.1:Int))]) (λc=>[O.box 56 (EN (Gn q H cells c.1) Z) U,O.box 54 [.own 0 0 N 11] U,O.box 3 [(X6 q H cells c.1:Int)] U,O.box 4 [.c (.bool U)] U,O.box 3 [(Ig q H cells c.1:Int)] U]) (λc=>H - c.1) ⟨0,CI _⟩ ?_ ?_;exact ER (cj2 @X6.eq_1 @Ig.eq_1 @Ig.eq_2)
 . rintro ⟨c,hc⟩;simp only at hc ⊢;by_cases A2:c<H;have A9 : ∀k,k<AG->c+H*k<N/\(c+H*k) % H=c:=λk hk=>by
    have h1:H*k+H<=AG*H:=by rw[aO AG H,<-AQH];exact mj _ hk
    refine⟨Ux,?_⟩;rw[Nat.add_mul_mod_self_left,uZ A2]
   obtain⟨l,hl,hv⟩:=kO (p:=λj=>j<N/\j % H=c) c H AG A9;have JN : ∀y∈l,y.val<G cells:=λy _=>by rw[hN];exact y.2.1
   have dG:=pk (λy : { j:Nat // j<N/\j % H=c }=>((y.val:Nat):Int)) l (c:Int) (N:Int) (H:Int) Ux Ux Ux Ux Ux (λk y hy=>by have:=hv k y hy;rw[this];push_cast;rfl) (λy _=>by have:=y.2.1;omega) (by
    rw[hl];have e:(N:Int)=(AG:Int)*(H:Int):=by rw[hn];push_cast;rfl
    rw[e,fu];omega)
   have hW:=xA (λy : { j:Nat // j<N/\j % H=c }=>y.val) (c:=c) HL cells l 0 0 JN (λk y hy=>by rw[Cz];exact hv k y hy) (by rw[Cz,hl,hN,hn,aO AG H];omega);rw[AbF,M8]at hW;have QJ:(l.map λi=>(A4 cells i.val).w).foldl mx 0=Lh H cells c:=hW;obtain⟨A,hA⟩:=AI (EN (Gn q H cells c) Z);have KV:N*11<=G A:=by rw[<-hA,bC,DK];omega
   have Rc : ∀n,V.BI n A=true:=λn=>by rw[<-hA];exact RQ n _ _
   have A3 : ∀y : { j:Nat // j<N/\j % H=c },A[y.val*11+3]?=J (.c (.int .i64 (A4 cells y.val).w)):=λy=>by
    have hy:y.val<G cells:=by rw[hN];exact y.2.1
    rw[<-hA,iO (b:=if (decide (y.val % H<c))=I then Ua q H cells y.val cells[y.val]else cells[y.val]) (by unfold Gn;rw[fQ,BE hy];rfl) Ux,bJ hy];split;exact ABh _;exact ABh _
   rw[hA];refine go @A2 ?_;refine BZ (iw (c:Int) (N:Int) (H:Int)) nC ?_;refine Ah ?_;refine AW.le (Le.T4 5 0 3 1 rfl F) ?_;simp only[BA,BO,Nat.reduceAdd,Ag,Ai,BK,BU];refine AW.range (α:={ j:Nat // j<N/\j % H=c }) rfl rfl rfl (caps:=[.cp [.int .i64 (c:Int)] 0,.cp [.int .i64 (N:Int)] 0,.cp [.int .i64 (H:Int)] 0]) rfl rfl AGb ZC ZC (λy=>.int .i64 ((y.val:Nat):Int)) (λy=>.c (.int .i64 ((y.val:Nat):Int))) ?_ (λxs=>xs=l) (G l) dG
    (λpre=>[O.box 56 A U,O.box 54 [.own 0 0 N 11] U,O.box 3 [.c (.int .i64 (X6 q H cells c))] U,O.box 4 [.c (.bool U)] U,O.box 3 [.c (.int .i64 (Ig q H cells c))] U,O.box 39 [.gr 6 1 ((pre.map λi=>(A4 cells i.val).w).map λn=>[C.int .i64 n])] U,O.tok 3 1 (G ((pre.map λi=>(A4 cells i.val).w).map λn=>[C.int .i64 n]))]) ?_ 7 (λ_=>rfl) ZA ?_ ?_
   intro x' W y;simp only[CV,Ab];exact⟨trivial,Q8 (by have:=y.2.1;unfold maxLen;omega)⟩;simp;rintro lp pre y kD;have Lv:=y.2.1;have M:=A3 y;have Ei:=gx M;have Dz:y.val*11+3<G A:=Ux;obtain⟨o,rN⟩:=AI ((A4 cells y.val).w);rw[rN]at M Ei;simp only[Fm,Ap,BB,rN];obtain⟨R,hR⟩:=AI (((pre.map λi=>(A4 cells i.val).w).map λn=>[C.int .i64 n]));have Md:G R<AG:=by rw[<-hR];simp;omega
   rw[hR];have FO:G R+1<=maxLen:=by unfold maxLen;omega
   have EX:(G R+1)*8<=140737488355328:=Ux;obtain⟨yv,PW⟩:=AI y.val;rw[PW]at Lv M Ei Dz ⊢;refine go (cj5 @Lv @M @Ei @Dz @FO @EX) ?_;refine⟨F,_,Le.ct 7 (F2 F) ?_ ?_⟩;simp;simp[O.A8,V.BI,V.A8,Rc];rintro xs NW;rw[NW];clear NW xs;have A0:=xh 0 (l.map λi=>(A4 cells i.val).w) (by simp;omega);rw[QJ]at A0;unfold AV at A0;obtain⟨R,hR⟩:=AI (((l.map λi=>(A4 cells i.val).w).map λn=>[C.int .i64 n]));rw[hR]at A0 ⊢;refine Ah ?_;refine BZ (A0) Aar ?_;refine Ah ?_;refine BZ (iw (c:Int) (N:Int) (H:Int)) nC ?_;refine Ah ?_;have yW:=AD5 h c;have A6:=AD6 h c;have yJ:A=EN (Ho (λj=>decide (j % H<c) || ([]:List { j:Nat // j<N/\j % H=c }).any λz=>decide (j=z.val)) (Ua q H cells) cells) Z:=by
    rw[<-hA];unfold Gn;simp
   have yz:Ho (λj=>decide (j % H<c) || l.any λz=>decide (j=z.val)) (Ua q H cells) cells=Gn q H cells (c+1):=by
    unfold Gn;refine ALp λi hi=>?_
    rw[hN]at hi;have key:(l.any λz=>decide (i=z.val))=decide (i % H=c):=by
     rw[Oj,List.any_eq_true,Awe];constructor;rintro ⟨z,_,hz⟩;rw[Awe]at hz;rw[hz];exact z.2.2;intro hm;have hk:i / H<G l:=by rw[hl];exact(AC4 HL).2 (by rw[<-hn];exact hi)
     refine⟨l[i / H],Kq hk,?_⟩;rw[Awe,hv _ _ (BE hk)];have:=AMz i H;omega
    rw[key,Oj];simp only[T9,Awe];omega
   obtain⟨X,hX⟩:=AI (Ig q H cells c);obtain⟨W,cS⟩:=AI (Lh H cells c);have A5:Ig q H cells (c+1)=X+W+q:=by simp only[Ig,hX,cS]
   have xt:X6 q H cells (c+1)=X+W:=by simp[X6,hX,cS]
   obtain⟨E,hE⟩:=AI (X6 q H cells c);rw[hX]at A6;rw[cS]at yW;rw[hX,cS,hE];refine AW.range (α:={ j:Nat // j<N/\j % H=c }) rfl rfl rfl (caps:=[.cp [.int .i64 (c:Int)] 0,.cp [.int .i64 (N:Int)] 0,.cp [.int .i64 (H:Int)] 0]) rfl rfl AGb ZC ZC (λy=>.int .i64 ((y.val:Nat):Int)) (λy=>.c (.int .i64 ((y.val:Nat):Int))) ?_ (λxs=>xs=l) (G l) dG
    (λpre=>[O.box 56 (EN (Ho (λj=>decide (j % H<c) || pre.any λz=>decide (j=z.val)) (Ua q H cells) cells) Z) U,O.box 54 [.own 0 0 N 11] U,O.box 3 [.c (.int .i64 E)] U,O.box 4 [.c (.bool U)] U,O.box 3 [.c (.int .i64 X)] U,O.box 39 [.gr 6 1 R] U,O.tok 3 1 (G R),O.box 3 [.c (.int .i64 W)] U]) ?_ 8 (λ_=>rfl) ZA ?_ ?_
   intro x' W y;simp only[CV,Ab];exact⟨trivial,Q8 (by have:=y.2.1;unfold maxLen;omega)⟩;rw[yJ];rintro lp pre y kD;have Lv:=y.2.1;have Wv:y.val<G cells:=by rw[hN];exact Lv
   have S:=ALr (λy : { j:Nat // j<N/\j % H=c }=>y.val) (λj=>decide (j % H<c)) (Ua q H cells) cells pre y Wv;obtain⟨Q,hQ⟩:=AI (Ho (λj=>decide (j % H<c) || pre.any λz=>decide (j=z.val)) (Ua q H cells) cells);have yO:G Q=N:=by rw[<-hQ,Xd,hN]
   have yN : ∃B,Q[y.val]?=J B/\B.w=(A4 cells y.val).w/\Ua q H cells y.val cells[y.val]={ B with x:=X+Bm (W - (A4 cells y.val).w) }:=by
    rw[<-hQ,fQ,BE Wv,Nu,bJ Wv];refine⟨_,F,?_,?_⟩;split<;>rfl;unfold Ua;rw[y.2.2,hX,cS];split<;>rfl
   obtain⟨B,Il,O9,TK⟩:=yN;have yq:=Ws _ (bK Wv);have JL:=ANZ h Wv;rw[y.2.2,cS]at JL;rw[hQ]at S ⊢;rw[<-S];clear S;rw[TK];have M:=iO (Z:=Z) Il (q:=3) Ux;rw[ABh,O9]at M;have KG:=og (Z:=Z) (v:=.int .i64 (X+Bm (W - (A4 cells y.val).w))) Il (by omega:6<11) (AXM B _);generalize rN:(A4 cells y.val).w=o at M KG yq JL TK ⊢;obtain⟨Q',jS⟩:∃Q',EN (Q.set y.val { B with x:=X+Bm (W - o) }) Z=Q':=⟨_,rfl⟩
   rw[jS]at KG ⊢;have yM : ∀n,V.BI n Q'=true:=λn=>by rw[<-jS];exact RQ n _ _
   obtain⟨A',Au⟩:∃A',EN Q Z=A':=⟨_,rfl⟩
   have B1:N*11<=G A':=by rw[<-Au,bC,yO];omega
   rw[Au]at M KG ⊢;have Ei:=gx M;have Dz:y.val*11+3<G A':=Ux;have Yn:y.val*11+6+1<=G A':=Ux;have B3:=J6 (W - o);have EK:AZ.wrap (W - o)=W - o:=Ac;have A1:AZ.wrap (X+Bm (W - o))=X+Bm (W - o):=Ac;have G7:=Ng (W - o);rw[show An (W - o)=I by unfold An;simp;omega]at G7;have qh:=Ke (W - o);generalize J8:Bm (W - o)=hf at A1 qh KG;generalize PW:y.val=yv at Lv M Ei Dz Yn KG ⊢;refine go (cj4 @Lv @M @Ei @Dz @EK) ?_;refine BZ (G7) func61 ?_;refine go (cj4 @Lv @M @Ei @Dz @EK) ?_;refine gc (cj7 @Lv @M @Ei @Dz @Yn @EK @A1 @KG) (qh) vR ?_;refine Ah ?_;refine⟨F,_,Le.ct 8 (F2 F) ?_ ?_⟩;simp;simp[O.A8,V.BI,V.A8,yM];rintro xs NW;rw[NW,yz];have EK:AZ.wrap (X+W)=X+W:=Ac;have A1:AZ.wrap (X+W+q)=X+W+q:=Ac;have B0:AZ.wrap ((c:Int)+1)=((c+1:Nat):Int):=by rw[Ac];push_cast;rfl
   refine go (cj2 @EK @A1 @B0) ?_;refine⟨⟨c+1,Ux⟩,by simp only;omega,?_⟩;simp only[A5,xt];exact wd 5
   . obtain rfl:c=H:=Ux;have xt:X6 q c cells c=Ig q c cells (c - 1)+Lh c cells (c - 1):=Awf Ux;rw[xt];have KE:=bE 0 (Gn q c cells c) Z;refine go @A2 ?_;all_goals simp[GI,DV,C0,DE,V.CP,V.CF,CJ,results187, *]
theorem AYI (b:AA):(b.row.map V.c)[4]?=J (.c (.int .i64 b.h)):=by cases b;rfl
theorem AYJ (b:AA):(b.row.map V.c)[5]?=J (.c (.int .i64 b.d)):=by cases b;rfl
def rf (q:Int)(AL:Nat)(cells:List AA)(r:Nat):List C:=[.int .i64 (MW q (Ha AL cells r)),.int .i64 (N1 q (Ha AL cells r))]
def W5 (q:Int)(AL:Nat)(cells:List AA)(AG:Nat):List (List C):=(List.range AG).map (rf q AL cells)
theorem AUH (cells H:List AA)(Z:List C)(B AG:Nat)(q:Int)(h:aZ q B AG cells)(A3:G H=G cells)(A2 : ∀i,(A4 H i).h=(A4 cells i).h/\(A4 H i).d=(A4 cells i).d):AY AF 188 [.own 0 0 (G cells) 11,(B:Int),q] 56 (EN H Z) (EN H Z) (.c (.sl (W5 q B cells AG))):=by
 obtain⟨hn,HL,GM,HP,KY,rC,NT,Ws⟩:=id h;obtain⟨N,hN⟩:=AI (G cells);rw[hN]at hn KY A3 ⊢;have G9:AG<=256:=by have:AG*1<=AG*B:=mj _ HL;omega
 obtain⟨A,hA⟩:=AI (EN H Z);have KV:N*11<=G A:=by rw[<-hA,bC,A3];omega
 have Rc : ∀n,V.BI n A=true:=λn=>by rw[<-hA];exact RQ n _ _
 have B8:V.Dj 0 A=J A:=by rw[<-hA];exact bE 0 _ _
 have B1 : ∀i,i<N->A[i*11+4]?=J (.c (.int .i64 (A4 cells i).h)):=λi hi=>by
  rw[<-hA,iO (wQ Ux) Ux,<-(A2 i).1];exact AYI _
 have B0 : ∀i,i<N->A[i*11+5]?=J (.c (.int .i64 (A4 cells i).d)):=λi hi=>by
  rw[<-hA,iO (wQ Ux) Ux,<-(A2 i).2];exact AYJ _
 rw[hA];obtain⟨l,hl,hv⟩:=kO (p:=λj=>j<N/\∃r,r<AG/\j=r*B) 0 B AG λk hk=>by
  have h1:k*B+B<=AG*B:=by rw[<-uc];exact Vj _ hk
  refine⟨by rw[aO];omega,k,hk,by rw[Cz,aO]⟩
 have dG:=pk (λy : { j:Nat // j<N/\∃r,r<AG/\j=r*B }=>((y.val:Nat):Int)) l 0 (N:Int) (B:Int) Ux Ux Ux Ux Ux (λk y S=>by have:=hv k y S;rw[this];push_cast;rfl) (λy _=>by have:=y.2.1;omega) (by
  rw[hl];have e:(N:Int)=(AG:Int)*(B:Int):=by rw[hn];push_cast;rfl
  rw[e,fu];omega)
 obtain⟨o,A5⟩:∃o : { j:Nat // j<N/\∃r,r<AG/\j=r*B }->List C,o=λy=>rf q B cells (y.val / B):=⟨_,rfl⟩
 have Rw:l.map o=W5 q B cells AG:=by
  rw[A5];unfold W5;apply UB;simp[hl];intro i h1 h2;rw[Ch]at h1;rw[mW,mW,List.getElem_range];have hg:l[i]?=J l[i]:=BE h1;rw[hv _ _ hg,Cz,Nat.mul_div_cancel_left _ HL]
 refine AY.intro func188 rfl ?_;simp only[ntmps188,Ap,BB,BA,BO,Nat.reduceAdd,Nat.reduceSub,BY,Cy,BK,BU];refine Ah ?_;refine BZ (iw 0 (N:Int) (B:Int)) nC ?_;refine Ah ?_;refine AW.le (Le.T4 4 0 212 2 rfl F) ?_;simp only[BA,BO,Nat.reduceAdd,Ag,Ai,BK,BU];refine AW.AXa (α:={ j:Nat // j<N/\∃r,r<AG/\j=r*B }) rfl rfl rfl (caps:=[.cp [.int .i64 0] 0,.cp [.int .i64 (N:Int)] 0,.cp [.int .i64 (B:Int)] 0]) rfl rfl AGb ZC ZC (λy=>.int .i64 ((y.val:Nat):Int)) (λy=>.c (.int .i64 ((y.val:Nat):Int))) ?_ (λz=>z=l) (G l) dG
  (λpre=>[O.box 56 A U,O.box 54 [.own 0 0 N 11] U,O.box 3 [.c (.int .i64 (B:Int))] U,O.box 3 [.c (.int .i64 q)] U,O.box 209 [.gr 5 2 (pre.map o)] U,O.tok 212 2 (G (pre.map o))]) ?_ 6 (λ_=>rfl) ZA ?_ ?_
 intro x' W y;simp only[CV,Ab];exact⟨trivial,Q8 (by have:=y.2.1;unfold maxLen;omega)⟩;simp;rintro lp pre y kD;obtain⟨r,hr,A6⟩:=y.2.2;have B3:r*B+B<=AG*B:=by rw[<-uc];exact Vj _ hr
 have A7:o y=rf q B cells r:=by rw[A5];simp only;rw[A6,Nat.mul_div_cancel _ HL]
 simp only[Fm,Ap,BB,A7];obtain⟨R,hR⟩:=AI (pre.map o);have Md:G R<AG:=by rw[<-hR,Ch];omega
 rw[hR,A6];obtain⟨I,hI⟩:=AI (r*B);rw[hI]at B3 ⊢;have hw:AZ.wrap ((I:Int)+(B:Int))=(I:Int)+(B:Int):=Ac;obtain⟨M,EX,IK⟩:=kO (p:=λj=>j<N) I 1 B λk hk=>Ux
 have A9:=pk (λy : { j:Nat // j<N }=>((y.val:Nat):Int)) M (I:Int) ((I:Int)+(B:Int)) 1 Ux Ux Ux Ux Ux (λk y S=>by have:=IK k y S;rw[this];push_cast;rfl) (λy S=>by
  obtain⟨k,hk⟩:=List.getElem?_of_mem S;have h1:=IK k y hk;have h2:=(Br.1 hk).1;omega) (by rw[EX];omega)
 obtain⟨fH,fD⟩:=ANV (λy : { j:Nat // j<N }=>y.val) (r:=r) q cells M (λy _=>by rw[hN];exact y.2) EX (λk y S=>by rw[IK k y S,hI,gE]);refine HZ.block (HZ.seq (HZ.of ?_));refine Ah ?_;refine HZ.seq (HZ.seq (HZ.of ?_));refine go @hw ?_;refine BZ (iw (I:Int) ((I:Int)+(B:Int)) 1) nC ?_;refine Ah ?_;refine HZ.le (Le.T4 6 0 3 1 rfl F) ?_;simp only[BA,BO,Nat.reduceAdd,Ag,Ai,BK,BU];refine HZ.le (Le.T4 7 0 3 1 rfl F) ?_;simp only[BA,BO,Nat.reduceAdd,Ag,Ai,BK,BU];refine HZ.block (HZ.range (α:={ j:Nat // j<N }) rfl rfl rfl (caps:=[.cp [.int .i64 (I:Int)] 0,.cp [.int .i64 ((I:Int)+(B:Int))] 0,.cp [.int .i64 1] 0]) rfl rfl AGb ZC ZC (λy=>.int .i64 ((y.val:Nat):Int)) (λy=>.c (.int .i64 ((y.val:Nat):Int))) ?_ (λz=>z=M) (G M) A9
  (λpre=>[O.box 56 A U,O.box 54 [.own 0 0 N 11] U,O.box 3 [.c (.int .i64 (B:Int))] U,O.box 3 [.c (.int .i64 q)] U,O.box 209 [.gr 5 2 R] U,O.tok 212 2 (G R),O.box 39 [.gr 8 1 ((pre.map λi=>(A4 cells i.val).h).map λn=>[C.int .i64 n])] U,O.box 39 [.gr 9 1 ((pre.map λi=>(A4 cells i.val).d).map λn=>[C.int .i64 n])] U,O.tok 3 1 (G ((pre.map λi=>(A4 cells i.val).h).map λn=>[C.int .i64 n])),O.tok 3 1 (G ((pre.map λi=>(A4 cells i.val).d).map λn=>[C.int .i64 n]))]) ?_ 10 (λ_=>rfl) ZA ?_ ?_)
 intro x' W y;simp only[CV,Ab];exact⟨trivial,Q8 (by have:=y.2;unfold maxLen;omega)⟩;simp;rintro D2 A1 Q B7;have Lv:=Q.2;have hg:=B1 Q.val Lv;have Ei:=gx hg;have hd:=B0 Q.val Lv;have Uw:=gx hd;have Dz:Q.val*11+4<G A:=Ux;have A0:Q.val*11+5<G A:=Ux;obtain⟨hh,Yp⟩:=AI ((A4 cells Q.val).h);obtain⟨dd,IH⟩:=AI ((A4 cells Q.val).d);rw[Yp]at hg Ei;rw[IH]at hd Uw;simp only[Fm,Ap,BB,Yp,IH];obtain⟨H1,WT⟩:=AI (((A1.map λi=>(A4 cells i.val).h).map λn=>[C.int .i64 n]));obtain⟨D1,qG⟩:=AI (((A1.map λi=>(A4 cells i.val).d).map λn=>[C.int .i64 n]));have D0:G H1<B:=by rw[<-WT];simp;omega
 have Im:G D1<B:=by rw[<-qG];simp;omega
 rw[WT,qG];have Ew:G H1+1<=maxLen:=by unfold maxLen;omega
 have FP:(G H1+1)*8<=140737488355328:=Ux;have GO:G D1+1<=maxLen:=by unfold maxLen;omega
 have B2:(G D1+1)*8<=140737488355328:=Ux;generalize PW:Q.val=yv at Lv hg Ei hd Uw Dz A0 ⊢;refine go (cj9 @Lv @hg @Ei @hd @Uw @Dz @A0 @Ew @FP<|cj @GO @B2) ?_;refine⟨F,_,Le.ct 10 (F2 F) ?_ ?_⟩;simp;simp[O.A8,V.BI,V.A8,Rc];rintro z NW;rw[NW];clear NW z;have g1:=xh (AU q 70) (M.map λi=>(A4 cells i.val).h) (by simp;omega);have g2:=xh (AU q 30) (M.map λi=>(A4 cells i.val).d) (by simp;omega);rw[fH]at g1;rw[fD]at g2;unfold AV at g1 g2;obtain⟨H1,WT⟩:=AI (((M.map λi=>(A4 cells i.val).h).map λn=>[C.int .i64 n]));obtain⟨D1,qG⟩:=AI (((M.map λi=>(A4 cells i.val).d).map λn=>[C.int .i64 n]));rw[WT]at g1 ⊢;rw[qG]at g2 ⊢;have Ew:G R+1<=maxLen:=by unfold maxLen;omega
 have FP:(G R+1)*16<=140737488355328:=Ux;refine MV (G3 (HZ.of ?_));refine Ah ?_;refine BZ (EI q 70) nI ?_;refine BZ (g1) Aar ?_;refine BZ (EI q 30) nI ?_;refine gc (cj @Ew<|@FP) (g2) Aar ?_;refine Ah ?_;refine⟨F,_,Le.ct 6 (F2 F) ?_ ?_⟩;simp[rf];simp[O.A8,V.BI,V.A8,Rc]
 . rintro z NW;rw[NW,Rw];clear NW z;refine Ah ?_;all_goals simp[GI,DV,C0,DE,V.CP,V.CF,CJ,results188, *]
theorem AXF (q:Int)(l r:Nat)(s:Aa)(hl:l<8)(hr:r<8):AC AF 34 [q,(l:Int),(r:Int),Aj s] (Qt q l r s.By:Int):=by
 have hb:=AK7 l r hl hr;have GP:=AY7 l r hl hr;have B:=AXG;unfold ABu at B;obtain⟨T,hT⟩:=AI ((fE.flatten.map λn=>V.c (.int .i64 n)));have M:G T=64:=by rw[<-hT];rfl
 rw[hT]at GP B;obtain⟨Z,H⟩:=AI ((T.drop (l*8)).take 8);have S:G Z=8:=by rw[<-H];simp[M];omega
 rw[H]at GP;have Q:=gx GP;have o:(l:Int)<8:=Ux;have z:(r:Int)<8:=Ux;have h3:l*8+8<=64:=Ux;unfold Qt VX;generalize hE:XY l r=E at hb GP Q ⊢;unfold Aj;rcases Int.lt_trichotomy E 0 with h|h|h
 have hm:=AJn q (-E+2) Ux;have R : ¬ -E=0:=Ux;rw[Awd h];by_cases hv:1<s.By;rw[Awd hv,Awd rfl];refine en AiL Aig ?_;exact wz (cj9 @o @z @h3 @M @S @GP @Q @H @h<|cj @hv vV) (cj2 B hm W);rw[Awf hv,Awf R];refine en AiL Aig ?_;exact wz (cj9 @o @z @h3 @M @S @GP @Q @H @h<|cj2 @hv @R vV) (cj2 B hm W);subst h;simp only[Int.lt_irrefl,Awh,Awg];refine en AiL Aig ?_;exact wz (cj8 @o @z @h3 @M @S @GP @Q @H vV) (cj B<|trivial);have hm:=AJn q (E+2) Ux;have R : ¬E=0:=Ux;have h4 : ¬E<0:=Ux;rw[Awf h4,Awf R];refine en AiL Aig ?_;exact wz (cj9 @o @z @h3 @M @S @GP @Q @H @h4<|cj @R vV) (cj2 B hm W)
theorem ALB (q v:Int):∀(l:List Int) (p:Int),G (T1 q v p l)=G l
 | [],_=>rfl
 | c::l,p=>by simp only[T1,BA,ALB q v l]
theorem fF (q v:Int)(l:List Int):G (CC q v l)=G l:=by
 cases l with
 | nil=>rfl
 | cons c l=>simp only[CC,BA,ALB]
theorem AK9 (q v:Int):∀(l:List Int) (p:Int) (i:Nat) (a b:Int),(p::l)[i]?=J a->l[i]?=J b->(T1 q v p l)[i]?=J (Qt q a.toNat b.toNat v)
 | [],_,_,_,_,_,h=>by simp at h
 | c::l,p,0,a,b,B,H=>by
   simp only[LX,BL]at B H;subst B H;rfl
 | c::l,p,i+1,a,b,B,H=>by
   simp only[T1,JU]at B H ⊢;exact AK9 q v l c i a b B H
theorem AZB (q v:Int){l:List Int}{a b:Int}(B:l[i]?=J a)(H:l[i+1]?=J b):(CC q v l)[i+1]?=J (Qt q a.toNat b.toNat v):=by
 cases l with
 | nil=>simp at B
 | cons c l=>simp only[CC,JU]at H ⊢;exact AK9 q v l c i a b B H
theorem AZD (q v:Int)(l:List Int):(CC q v l).take 1++Aq (G l - 1) 0=Aq (G l) 0:=by
 cases l with
 | nil=>rfl
 | cons c l=>simp[CC,BY]
theorem AZC {q v:Int}{l:List Int}{a b:Int}(B:l[i]?=J a)(H:l[i+1]?=J b):(CC q v l).take (i+1+1)=(CC q v l).take (i+1)++[Qt q a.toNat b.toNat v]:=by
 rw[List.take_add_one,AZB q v B H];rfl
theorem AOx {l:List En}(h:Ll l=I):∀e∈l,e.text.size<=maxLen:=λe B=>by
 unfold Ll at h;rw[Ak]at h;have:=xc l [] h.1 e B;simp only[En.ok,Ak,Awe]at this;unfold maxLen;omega
theorem AEw : ∀l:List Nd,G l<=Nd.Az l
 | []=>BN _
 | b::l=>by
   have:=AEw l;simp only[Nd.Az,BA];have:0<b.cnt:=by cases b;simp only[Nd.cnt];omega
   omega
theorem ABJ (x:Af)(s:Aa)(AE:List Nd)(M:x.Ok)(hs:s.ok=I)(A5:(Dd AE).BX)(hc:(Dd AE).cnt<=900000)(hv:(Dd AE).Ad=I):AC AF 14 [.agg x.f.vs,.c (Cc x.d),.c (.sl (Nd.AG AE)),Aj s] (.A7 [.c (AV (x.CC s AE)),AR 0]):=by
 have hd:=M.dl;have EW:=Ma x.f;rw[M.val]at EW;have IH:=sM x.d Ux (AOx M.dv);rw[M.dv]at IH;have QW:=fI s;rw[hs]at QW;have js:=ABR AE A5 hc;rw[hv]at js;have Ce:G AE<=900000:=by have:=rY AE;have:=AEw AE;omega
 have DK:=AJU x.d AE Ux Ux (AIO A5);have Yi:=AAx M.dv AE;have Jg:=LI x.f s;rw[show IT x.f s=(x.sz s,0)from Awf (by simp[hs,M.val])]at Jg;have H:=EI x.f.params.Al (x.sz s);unfold Af.CC;have hq:AU x.f.params.Al (x.sz s)=x.Al s:=F;rw[hq]at H;generalize hQ:x.Al s=Q at H ⊢;obtain⟨B,R⟩:=AI (I6 (JP x.d AE));have B0:G B=G AE:=by rw[<-R,ef,Zh]
 rw[R]at DK Yi ⊢;obtain⟨n,hn⟩:=AI (G B);have B3:n<=900000:=Ux;have FP:(n:Int)<=9223372036854775807:=Ux;have GO:8*(n:Int)<=281474976710656:=Ux;obtain⟨rs,Aw⟩:=AI (B.map (λn=>[C.int .i64 n]));have Av:G rs=n:=by rw[<-Aw];simp[hn]
 have Rp:AV B=.sl rs:=by rw[<-Aw];rfl
 rw[Rp]at DK;have z:=AXF Q;unfold Aj at QW Jg z ⊢;simp only[AR]at Jg ⊢;refine en func14 ntmps14 ?_;refine wy (cj3 @Av @FP @GO Ail) (cj7 EW IH QW js Jg H DK W) ⟨?_⟩;rw[show Aq n (V.c (C.int .i64 0))=CK ((CC Q s.By B).take 1++Aq (n - 1) 0)by rw[<-hn,AZD];simp[CK]];refine CX (ι:={ k:Nat // k=0\/k+1<=n }) (λk=>[(15,((k.1:Int)+1:Int))]) (λk=>[.box 27 x.f.vs U,.box 35 [s.By,.c (.bool s.Hd)] U,.box 3 (CK ((CC Q s.By B).take (k.1+1)++Aq (n - (k.1+1)) 0)) U]) (λk=>n - k.1) ⟨0,.inl F⟩ ?_ ?_;exact DH;rintro ⟨k,hk⟩;simp only;by_cases S:k+1<n;obtain⟨a,ha⟩:∃a,B[k]?=J a:=⟨_,BE Ux⟩
 obtain⟨b,hb⟩:∃b,B[k+1]?=J b:=⟨_,BE Ux⟩
 have B1:=Yi a (Cj ha);have B2:=Yi b (Cj hb);have Yz:rs[k]?=J [.int .i64 a]:=by rw[<-Aw,CM,ha];rfl
 have U8:rs[k+1]?=J [.int .i64 b]:=by rw[<-Aw,CM,hb];rfl
 have A1:=gx Yz;have A2:=gx U8;have HL:=z a.toNat b.toNat s Ux Ux;rw[show ((a.toNat:Nat):Int)=a by omega,show ((b.toNat:Nat):Int)=b by omega]at HL;have GP:=AZC (q:=Q) (v:=s.By) ha hb;have Im:G ((CC Q s.By B).take (k+1))=k+1:=by rw[Fa,fF];omega
 obtain⟨D,hD⟩:=AI ((CC Q s.By B).take (k+1));rw[hD]at GP Im ⊢;generalize FQ:Qt Q a.toNat b.toNat s.By=v at HL GP;obtain⟨r,hr⟩:=AI (n - (k+1+1));have j8:n - (k+1)=r+1:=Ux;rw[j8,BY];obtain⟨Z,hZ⟩:=AI (CK (D++0::Aq r 0));have G4:G Z=n:=by rw[<-hZ,Ts];simp;omega
 have z0:Z.set (k+1) (.c (.int .i64 v))=CK (D++[v]++Aq r 0):=by rw[<-hZ,ABG Im v];simp
 have Ej:k<n:=Ux;have Dn:(k:Int)+1<(n:Int):=Ux;have hw:AZ.wrap ((k:Int)+1 - 1)=(k:Int):=by rw[Ac];omega
 have A9:AZ.wrap ((k:Int)+1+1)=((k+1:Nat):Int)+1:=by rw[Ac];push_cast;rfl
 have A8:((k:Int)+1).toNat=k+1:=Ux;have A6 : ¬(k:Int)+1<0:=Ux;have A0:0<=(k:Int)+1:=Ux;rw[hZ];refine wy (cj9 @Av @S @Dn @Yz @U8 @A1 @A2 @G4 @z0<|cj6 @hw @A9 @A8 @A6 @A0 @Ej Ail) (cj HL<|trivial) ⟨?_⟩;refine⟨⟨k+1,.inr Ux⟩,by first|omega|(simp only;omega),?_⟩;simp only[GP,hr,GX,BK,BU];exact DH;have Dn : ¬(k:Int)+1<(n:Int):=Ux;have GP:(CC Q s.By B).take (k+1)++Aq (n - (k+1)) 0=CC Q s.By B:=by
  rw[Gl (by rw[fF];omega),show n - (k+1)=0 by omega];simp
 rw[GP];have o:G (CC Q s.By B)=n:=by rw[fF,hn]
 generalize hD:CC Q s.By B=D at o ⊢;have A3:Hc 1 n (D.map (C.int .i64))=D.map λn=>[C.int .i64 n]:=by have:=Zl D [];rw[E5,o]at this;exact this
 refine wu (.mk 13) (cj3 @Av @Dn @S Ail) trivial ⟨?_⟩;refine AW.Bi 2 rfl (XK _) (by simp only[V.Cs,V.Bi,B9,A3,Awg];exact rfl) (by simp only[Ai,Ag,Ap,BB,O.Bi,Zm,V.Cs,V.Bi];exact rfl) ?_;exact wz (cj @AV.eq_1<|Ail) W
theorem Am1 (x:Af)(l r:Nat)(s:Aa)(hs:s.ok=I)(q:l<8)(z:r<8):AC AF 45 [.agg x.f.vs,(l:Int),(r:Int),Aj s] (Qt (x.Al s) l r s.By:Int):=by
 have G7:=kW hs;obtain⟨v,hv⟩:∃v:Nat,s.By=(v:Int):=⟨s.By.toNat,Ux⟩
 have R:=Anj l r v q z Ux;have B:=x7 x.f s;have M:=AYA x.f.params.Al (x.sz s);have S:0<=VX l r v/\VX l r v<=3:=by
  have:=AK7 l r q z;unfold VX;split;split<;>omega;omega
 have H:=Am5 (x.Al s) (VX l r v+2) Ux;have hq:AU x.f.params.Al (x.sz s)=x.Al s:=F;have hz:BS x.f.params s=x.sz s:=F;rw[hq]at M;rw[hz]at B;rw[hv];unfold Aj at B ⊢;rw[hv]at B ⊢;unfold Qt;generalize hK:VX l r v=K at R H S ⊢;generalize hQ:x.Al s=Q at M H ⊢;have hw:AZ.wrap (K+2)=K+2:=Ac;by_cases o:K=0;subst o;refine en func45 ntmps45 ?_;exact wz results45 (cj R<|trivial);refine en func45 ntmps45 ?_;exact wz (cj2 @o @hw results45) (cj4 R B M H W)
theorem Ank (x:Af)(s:Aa)(AE:List Nd)(M:x.Ok)(hs:s.ok=I)(A5:(Dd AE).BX)(hc:(Dd AE).cnt<=100000)(hv:(Dd AE).Ad=I):AC AF 23 [.agg x.f.vs,.c (Cc x.d),.c (.sl (Nd.AG AE)),Aj s] (.A7 [.c (AV (x.CC s AE)),AR 0]):=by
 have hd:=M.dl;have EW:=ba x.f M.fit;rw[M.val]at EW;have QW:=AAA s;rw[hs]at QW;have R:=Amc x.d AE Ux (AOx M.dv) A5 hc;rw[show O2 x.d AE=(I6 (JP x.d AE),0)from Awf (by simp[M.dv,hv])]at R;have Yi:=AAx M.dv AE;have zT:=λl r hl hr=>Am1 x l r s hs hl hr
 unfold Af.CC;generalize hQ:x.Al s=Q at zT ⊢;obtain⟨B,S⟩:=AI (I6 (JP x.d AE));have Ce:G AE<=100000:=by have:=rY AE;have:=AEw AE;omega
 have A3:G B=G AE:=by rw[<-S,ef,Zh]
 rw[S]at R Yi ⊢;obtain⟨n,hn⟩:=AI (G B);have A9:n<=100000:=Ux;obtain⟨rs,Aw⟩:=AI (B.map (λn=>[C.int .i64 n]));have z:G rs=n:=by rw[<-Aw];simp[hn]
 have Rp:AV B=.sl rs:=by rw[<-Aw];rfl
 unfold W4 at R;simp only[Rp,AR]at R ⊢;unfold Aj at QW zT ⊢;refine en func23 ntmps23 ?_;refine wy (cj @z<|Ais) (cj3 R EW QW W) ⟨?_⟩;refine AW.le (Le.tL 12 3 1 F) ?_;simp only[BA,BO,Nat.reduceAdd,Ag,Ai,BK,BU];refine CX (ι:={ k:Nat // k<=n }) (λk=>[(12,.gr 2 1 (((CC Q s.By B).take k.1).map λn=>[C.int .i64 n])),(13,(k.1:Int))]) (λk=>[.box 27 x.f.vs U,.box 35 [s.By,.c (.bool s.Hd)] U,.tok 3 1 k.1]) (λk=>n - k.1) ⟨0,CI _⟩ ?_ ?_;exact DH;rintro ⟨k,hk⟩;simp only;have Im:G ((CC Q s.By B).take k)=k:=by rw[Fa,fF];omega
 by_cases H:k<n;obtain⟨b,hb⟩:∃b,B[k]?=J b:=⟨_,BE Ux⟩
 have A8:=Yi b (Cj hb);have U8:rs[k]?=J [.int .i64 b]:=by rw[<-Aw,CM,hb];rfl
 have A1:=gx U8;have o:AZ.wrap ((k:Int)+1)=((k+1:Nat):Int):=by rw[Ac];push_cast;rfl
 have FO:k+1<=maxLen:=by unfold maxLen;omega
 have EX:(k+1)*8<=140737488355328:=Ux;cases k with
 | zero =>
   have GP:(CC Q s.By B).take 1=[0]:=by
    cases B with
    | nil=>simp at hb
    | cons c l=>rfl
   refine wy (cj5 @z @H @FO @EX @o Ais) trivial ⟨?_⟩;refine⟨⟨0+1,Ux⟩,by first|omega|(simp only;omega),?_⟩;simp only[Cz,GP];exact wd 3
 | succ k =>
   obtain⟨a,ha⟩:∃a,B[k]?=J a:=⟨_,BE Ux⟩
   have A6:=Yi a (Cj ha);have Yz:rs[k]?=J [.int .i64 a]:=by rw[<-Aw,CM,ha];rfl
   have A0:=gx Yz;have HL:=zT a.toNat b.toNat Ux Ux;rw[show ((a.toNat:Nat):Int)=a by omega,show ((b.toNat:Nat):Int)=b by omega]at HL;have GP:=AZC (q:=Q) (v:=s.By) ha hb;generalize hD:(CC Q s.By B).take (k+1)=D at GP Im ⊢;generalize FQ:Qt Q a.toNat b.toNat s.By=v at HL GP;have hw:AZ.wrap (((k+1:Nat):Int) - 1)=(k:Int):=by rw[Ac];omega
   have A2:(0:Int)<((k+1:Nat):Int):=Ux;have Ej:k<n:=Ux;refine wy (cj9 @z @H @Yz @U8 @A0 @A1 @hw @o @A2<|cj4 @Ej @Im @FO @EX Ais) (cj HL<|trivial) ⟨?_⟩;refine⟨⟨k+1+1,Ux⟩,by first|omega|(simp only;omega),?_⟩;simp only[GP,Fm,Ap,BB];exact wd 3
 obtain rfl:k=n:=Ux;rw[Gl (by rw[fF,hn];exact BN _)];exact wz (cj3 @z @H @AV.eq_1 Ais) W
theorem sh (h:Bj (F9 AE sp)=J c):c=Qf AE (FT AE sp 0) (Eh AE sp 0)/\(G sp)=G AE/\c.Ad=true:=by
 have B:=kh h;unfold F9 at h;split at h;simp[Bj]at h;split at h;simp[Bj]at h;rename_i H;unfold Tk at h;split at h;simp[Bj]at h;simp only[Bj,Awg,BL]at h;exact⟨h.symm,Ux,B⟩
end Go.Proofs.YtegconioojpgmaaGreat
