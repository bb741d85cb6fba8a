/- Part of the proof of some laws. Conditions: none. -/
import Derived.Test.YtglaipbdiofkfaaGreatY3
set_option linter.unusedVariables false
set_option linter.unusedSimpArgs false
set_option maxRecDepth 100000
set_option maxHeartbeats 16000000
open Option.some renaming injEq→BL,inj→ML
open Option renaming map_eq_some_iff→Ia
open Go.Region renaming wanted→FB
open Classical renaming byContradiction→Kn
open Prod.mk renaming injEq→Cr
open Array renaming toList_inj→Gx,getElem?_eq_some_iff→DO,replicate→M4,toList_append→Pq,toList_replicate→T8,length_toList→FW,getElem?_toList→VZ
open Go.Deferred renaming ofValue→M5
open Go.Sem renaming run→HW,run_bind→Jt
open Go.Oper renaming wp→Er
open Nat renaming lt_of_lt_of_le→H7,le_of_lt→LZ,le_refl→BN,le_of_not_lt→Hq,zero_add→Cz
open List renaming getElem?_eq_some_iff→Br,replicate→Aq,map_toArray→AMl,map_nil→BB,length_take→Fa,getElem?_eq_getElem→BE,map_append→Fm,getD_eq_getElem?_getD→Bv,getElem?_eq_none→M6,all_eq_true→ES,contains_iff_mem→mR,nodup_cons→Xm
open Go.Fence renaming wide→Cg
open Go.Addr renaming add→aD
open Go.Instr renaming fill→fi
open Go.Result renaming andThen_ok→Oo
open Go.Op renaming equal→Pt,equalIn→aP,operands→Bl
open Go.Builtin renaming copy_→tw,firstCells→fc,lenOf→tx,append_→aE,zeroCells→KN
open Bool renaming and_eq_true→Ak,eq_iff_iff→Oj
open Go.Call renaming operands→Df
open Go.World renaming putObj_heap_other→Pz
open Option renaming some→J,none→E
open Bool renaming false→U,true→I
open List renaming length→G
namespace Go.Proofs.YtglaipbdiofkfaaGreat
open Go.RowKit Tryz
variable {o:Oper}{r:List Oper}{ty:TypeId}{cs:List V}{res:V}{fn:Func}{Ae:TypeId}{Bq:Nat}{n:Nat}{c:Code}{Q:Exit->Act->World->Prop}{w:World}{K:Exit->St->Prop}{s:St}{m:Mo}{P:Program}{ops:List Oper}{Bd:List V}{args:List V}{α:Type}{b:Bool}{v:V}(k:Nat)
def Cx.one (S:BF)(b n:Nat):Cx:={ dom:=λk=>k=0,loc:=λ_=>⟨b,n,U,0,U⟩,S:=S }
def AX (P:Program)(f:FuncId)(args:List V)(ty:TypeId)(cells cells':List C)(res:V):Prop:=
 ∀(S:BF) (w:World) (us:List Value) (b:Nat) (vs:Array Value),(∀b' j,S b' j->b'<w.heap.size)->(∀j,j<vs.size->¬S b j)->w.heap[b]?=J (.cells vs ty (0,0))->B4 S w cells vs.toList->AO (Cx.one S b vs.size) w args us->
  Calls P f us.toArray w λr w'=>∃u S' Bz,r=.returned u/\KB (λk=>k=b) w w'/\Ar S S' w w'/\(∀b' j,S' b' j->S b' j\/(w.heap.size<=b'/\b'<w'.heap.size)\/(b'=b/\vs.size<=j))/\w'.heap[b]?=J (.cells Bz ty (0,0))/\Bz.size=vs.size/\B4 S' w' cells' Bz.toList/\CV (Cx.bare S') w' res u
mutual
def V.Di (k:Nat):V->Option V
 | .ptr i off=>if i=k then J (.ptr 0 off)else E
 | .c d=>J (.c d)
 | .Bg r=>J (.c (.sl r))
 | .gr _ _ r=>J (.c (.sl r))
 | .cp row off=>J (.cp row off)
 | .agg l=>(V.Dj k l).map V.agg
 | .A7 l=>(V.Dj k l).map V.A7
 | .fn f caps=>(V.Dj k caps).map (V.fn f)
 | .yl l=>J (.yl l)
 | .mp _=>E
 | .any=>J .any
 | .own _ _ _ _=>E
 | .Be _ _ _=>E
 | .hp _ _ _=>E
def V.Dj (k:Nat):List V->Option (List V)
 | []=>J []
 | v::l=>match V.Di k v,V.Dj k l with
   | some y,J r=>J (y::r)
   | _,_=>E
end
mutual
theorem AJ1 {x:Cx}{w:World}{k n:Nat} : ∀(v M:V) (u:Value),V.Di k v=J M->CV x w v u->CV (Cx.one x.S (x.loc k).b n) w M u
 | .ptr i q,M,u,h,B=>by
   simp only[V.Di]at h;split at h;rename_i e;cases h;subst e;simp only[CV,Cx.one]at B ⊢;exact⟨W,W,B.2.2⟩;cases h
 | .c c,M,u,h,B=>by simp only[V.Di,BL]at h;subst h;simpa only[CV,Cx.one]using B
 | .Bg r,M,u,h,B=>by simp only[V.Di,BL]at h;subst h;simp only[CV]at B ⊢;obtain⟨_,_,B⟩:=B;exact B
 | .gr k es r,M,u,h,B=>by simp only[V.Di,BL]at h;subst h;simp only[CV]at B ⊢;exact B.2.2.1
 | .cp row q,M,u,h,B=>by simp only[V.Di,BL]at h;subst h;simpa only[CV,Cx.one]using B
 | .yl l,M,u,h,B=>by simp only[V.Di,BL]at h;subst h;simpa only[CV]using B
 | .mp _,_,_,h,_=>by simp[V.Di]at h
 | .agg l,M,u,h,B=>by
   simp only[V.Di,Ia]at h;obtain⟨r,h,rfl⟩:=h;simp only[CV]at B ⊢;obtain⟨vs,e,B⟩:=B;exact⟨vs,e,Qn l r _ h B⟩
 | .A7 l,M,u,h,B=>by
   simp only[V.Di,Ia]at h;obtain⟨r,h,rfl⟩:=h;simp only[CV]at B ⊢;obtain⟨vs,e,B⟩:=B;exact⟨vs,e,Qn l r _ h B⟩
 | .fn f R,M,u,h,B=>by
   simp only[V.Di,Ia]at h;obtain⟨r,h,rfl⟩:=h;simp only[CV]at B ⊢;obtain⟨vs,e,B⟩:=B;exact⟨vs,e,Qn R r _ h B⟩
 | .any,M,u,h,_=>by simp only[V.Di,BL]at h;subst h;simp only[CV]
 | .own _ _ _ _,_,_,h,_=>by simp[V.Di]at h
 | .Be _ _ _,_,_,h,_=>by simp[V.Di]at h
 | .hp _ _ _,_,_,h,_=>by simp[V.Di]at h
theorem Qn {x:Cx}{w:World}{k n:Nat} : ∀(l M:List V) (us:List Value),V.Dj k l=J M->AO x w l us->AO (Cx.one x.S (x.loc k).b n) w M us
 | [],M,us,h,B=>by simp only[V.Dj,BL]at h;subst h;simpa only[AO]using B
 | v::l,M,us,h,B=>by
   simp only[AO]at B;obtain⟨u,R,rfl,q,z⟩:=B;unfold V.Dj at h;split at h;rename_i y r hy hr;cases h;simp only[AO];exact⟨u,R,F,AJ1 v y u hy q,Qn l r R hr z⟩;cases h
end
section
variable {P:Program} {K:Exit->St->Prop} {ops:List Oper} {s:St}
theorem SW.pJ {f:FuncId}{args Bd:List V}{cells B:List C}(K9:AX P f Bd ty cells B res)(hf:P.funcs[f]?=J fn)(hb:fn.body.isSome=I)(hn:(fn.name == "runtime.NumGoroutine")=U)(hg:BQ ops s.t o.guard=J I)(R:C7 (ev s.t) o.op=J (f,args))(hp:V.Dj k args=J Bd)(hk:s.h[k]?=J (.box ty cs U))(A3:toCs cs=J cells)(h:SW P ops K r (s.step o.dst res (J (k,.box ty (B.map V.c) U)))):SW P ops K (o::r) s:=λS0 w0 x a w q=>by
 have hw:FB o (yielded ops.toArray a.tmps)=true:=by
  have:=KR (o:=o) q.tm (IF (ops:=ops) (K1:=True) (K2:=False) hg W);exact Kn λh=>this.2 h
 unfold wpList;rw[if_pos hw];refine .inl ?_;unfold C7 at R;split at R
 case h_2=>cases R
 rename_i fo ar Fk ho;split at R
 case h_2=>cases R
 rename_i f' A0 FG;simp only[BL,Cr]at R;obtain⟨rfl,rfl⟩:=R;have z:=Pp (CW q.tm fo);rw[FG]at z;simp only[CV]at z;obtain⟨Dl,z,EP⟩:=z;have Hw:AO x w (ar.toList.map (ev s.t)++A0) (ar.toList.map a.eval++Dl.toList):=(AO.of_map λy _=>CW q.tm y).append EP;have g:=q.good;obtain⟨hd,b1,b2,vs,b3,b4,b5⟩:=g.ok k _ hk;have Fh:=toCs_ok A3 b5;have PO : ∀j,j<vs.size->¬x.S (x.loc k).b j:=λj hj=>g.EA k _ j hk ⟨rfl,by omega⟩
 have Co:=K9 x.S w _ (x.loc k).b vs g.ex PO b3 Fh (Qn _ _ _ hp Hw);have CT:fn.body≠none:=by intro e;rw[e]at hb;cases hb
 have F6:fn.name≠ "runtime.NumGoroutine":=by simpa using hn
 have A1:(execOp a.eval o).run P w=.ok (.enter f' (ar.toList.map a.eval++Dl.toList).toArray) w:=by
  have e1:(ar.map a.eval++Dl)=(ar.toList.map a.eval++Dl.toList).toArray:=by apply Gx.1;simp
  simp[execOp,ho,resolve,z,M5,invoke,callFunc,program,HW,hf,F6,CT,e1]
 unfold Er;rw[A1];refine Co.mono ?_;rintro r' w' ⟨u,S',Bz,rfl,M,CZ,Gc,h1,h2,h3,h4⟩;have A5:=(g.ok k _ hk).2.lt b2;have he:Ext x { x with S:=S' } w w':=⟨CZ,λ_ h=>h,λ_ _=>FM.refl _⟩
 have g':=g.H5 (x':={ x with S:=S' }) k (.box ty (B.map V.c) U) he (M.wide λb e=>⟨hd,b2,e.symm⟩) (λi=>⟨.inl,λh=>h.elim id λe=>e ▸ hd⟩) (λ_ _=>rfl) (λ_=>.inl ⟨hd,b2,rfl⟩)
  ⟨b1,b2,Bz,h1,by rw[h2,b4],AO.OS h3⟩ (λb j hs=>(Gc b j hs).imp id λh=>h.elim (λh=>⟨h.2,.inl h.1,λe=>by have:(x.loc k).b=b:=e;omega⟩) (λh=>⟨by rw[h.1];exact H7 A5 M.size,.inr ⟨hd,b2,h.1.symm⟩,λ_ hx=>by have h5:j<(x.loc k).n:=hx.2;have h6:=h.2;omega⟩)) (λj hx=>g.EA k _ j hk hx)
 have CB:NC w w':=⟨M.size,λb ob D7 II=>(M.block b (DO.1 D7).1 λe=>by subst e;rw[b3]at D7;cases D7;cases II).trans D7⟩
 have e:=Kj s.h (J (k,O.box ty (B.map V.c) U)) (λk' o' e=>by cases e;exact LZ (Br.1 hk).1);have A2:Good S0 w0 { x with S:=S' } w' (λi=>(Bk s.h (J (k,O.box ty (B.map V.c) U)))[i]?):=by rw[e];exact g'
 exact h S0 w0 _ _ w' (Bo.put q.tm (q.df.mono CB) he A2 (CV.mono (Ub S' x w') _ _ h4) o.dst)
def Xy (P:Program)(l:List ResultVar)(res:V)(ty:TypeId)(cells':List C):Exit->St->Prop
 | .normal,s=>DV P s l=J res/\∃cs,s.h[0]?=J (.box ty cs U)/\toCs cs=J cells'
 | .ret,s=>DV P s l=J res/\∃cs,s.h[0]?=J (.box ty cs U)/\toCs cs=J cells'
 | _,_=>False
theorem AX.intro {f:FuncId}{fn:Func}{c:Code}{args:List V}{ty:TypeId}{cells M:List C}{res:V}(hf:P.funcs[f]?=J fn)(hb:fn.body=J c)(h:AW ⟨E,1⟩ P c (Xy P fn.results.toList res ty M) ⟨args++Aq (fn.ntmps - G args) .any,[.box ty (cells.map V.c) U]⟩):AX P f args ty cells M res:=by
 intro S w us b vs hS PO FF Fh B7;have A5:b<w.heap.size:=(DO.1 FF).1;refine callsIn_wide.1 (callsIn_of_wp_marks (F:=Cg) (n:=0) hf hb trivial ?_);let B:Bs:=⟨w,λk=>k<w.heap.size/\k≠b,λ_ h=>h.1,Cx.one S b vs.size,1,λk hk=>by have:k=0:=hk;omega⟩
 have hA:Bo S B (Cx.one S b vs.size) ⟨args++Aq (fn.ntmps - G args) .any,[.box ty (cells.map V.c) U]⟩ { tmps:=us.toArray++M4 (fn.ntmps - us.toArray.size) undef,defers:=[] } w:=by
  refine⟨⟨λk o h=>?_,λk h=>?_,λk k' o o' h h' A0=>?_,λk o j h hx=>?_,hS,λk o h _ hF=>hF.2 rfl,λb j h=>.inl h,λb j h=>h,.FR (Ay.refl w),Ext.refl _ _⟩,?_,Marks.nil _ _⟩;match k,h with
  | 0,h =>
    cases h;exact⟨rfl,rfl,rfl,vs,FF,rfl,AO.OS Fh⟩
  | k+1,h=>simp at h
  have:k=0:=h;subst this;exact⟨_,rfl⟩;match k,k',h,h' with
  | 0,0,_,_=>exact absurd rfl A0
  | 0,k'+1,_,h'=>simp at h'
  | k+1,_,h,_=>simp at h
  match k,h with
  | 0,h=>cases h;exact PO j hx.2
  | k+1,h=>simp at h
  simp only[Pq,T8];have hl:us.toArray.size=G args:=by simpa using B7.len
  rw[hl];exact B7.append (SQ _ _ _ _)
 refine wpIn_mono (h 0 S B _ _ w (BN _) hA) λe a' w' ⟨x,s,Au,hK⟩=>?_
 have A1 : ∀ {R:Ending->World->Prop},(∀u w' S' Bz,KB (λk=>k=b) w w'->Ar S S' w w'->(∀q j,S' q j->S q j\/(w.heap.size<=q/\q<w'.heap.size)\/(q=b/\vs.size<=j))->w'.heap[b]?=J (.cells Bz ty (0,0))->Bz.size=vs.size->B4 S' w' M Bz.toList->CV (Cx.bare S') w' res u->R (.returned u) w')->
  (DV P s fn.results.toList=J res/\∃cs,s.h[0]?=J (.box ty cs U)/\toCs cs=J M)->LeavesInM Cg 0 P fn a'.tmps R a'.defers .returning w':=by
  rintro R hR ⟨hr,cs,h0,A2⟩;obtain⟨Ds,e,h1,h2⟩:=Au.df;rw[e];refine kS hr Ds w' h1 h2 Au.good Au.tm λw2 u g hu=>?_
  have Lu:=g.ext.loc 0 rfl;have z:x.loc 0=⟨b,vs.size,U,0,U⟩:=by
   rcases Lu.2 with e|e
   exact e.symm;cases e.1
  obtain⟨_,_,_,Bz,k3,k4,k5⟩:=g.ok 0 _ h0;rw[z]at k3 k4;refine hR u w2 x.S Bz ⟨g.keep.os,g.keep.tape,g.keep.output,g.keep.size,λk hk A0=>g.keep.block k hk λhn=>hn ⟨hk,A0⟩⟩ ⟨g.sub,λq j v hs hc=>g.ext.ar.cell q j v hs hc⟩ (λq j hs=>?_) k3 k4 (toCs_ok A2 k5) hu;rcases g.new q j hs with hq|hq
  exact .inl hq;by_cases e:q=b;subst e;by_cases hj:j<vs.size;exact absurd (by rw[z];exact hs) (g.EA 0 _ j h0 ⟨rfl,by rw[z];exact hj⟩);exact .inr (.inr ⟨rfl,by omega⟩);exact .inr (.inl ⟨Hq λA3=>hq ⟨A3,e⟩,g.ex q j hs⟩)
 cases e with
 | normal=>exact A1 (λu w' S' Bz h1 h2 h3 h4 h5 h6 h7=>⟨u,S',Bz,rfl,h1,h2,h3,h4,h5,h6,h7⟩) hK
 | ret=>exact A1 (λu w' S' Bz h1 h2 h3 h4 h5 h6 h7=>⟨u,S',Bz,rfl,h1,h2,h3,h4,h5,h6,h7⟩) hK
 | _=>exact hK.elim
end
section
variable {P:Program} {K:Exit->St->Prop} {ops:List Oper} {s:St}
theorem SW.OU (G:V->Option (Nat×O)->Prop)(hg:BQ ops s.t o.guard=J I)(hR : ∀(S0:BF) (w0:Bs) (x:Cx) (a:Act) (w:World),Good S0 w0 x w (λk=>s.h[k]?)->AO x w s.t a.tmps.toList->¬x.dom s.h.length->∃v t,(∀k ob,t=J (k,ob)->k<=s.h.length)/\G v t/\BW P o a S0 w0 x w (λk=>s.h[k]?) v t)(h : ∀v t,G v t->SW P ops K r (s.step o.dst v t)):SW P ops K (o::r) s:=λS0 w0 x a w B=>by
 have hw:FB o (yielded ops.toArray a.tmps)=true:=by
  have:=KR (o:=o) B.tm (IF (ops:=ops) (K1:=True) (K2:=False) hg W);exact Kn λh=>this.2 h
 unfold wpList;rw[if_pos hw];refine .inl ?_;obtain⟨v,t,z,hG,nx,w',x',u,hr,EH,R,M,q,_⟩:=hR x.S (w0.re w B.good.keep.size) x a w B.good.XR B.tm B.fresh;rw[<-Kj _ _ z]at M;obtain⟨M,CB⟩:=B.good.Sg q M;unfold Er;rw[hr];rcases EH with rfl|⟨rfl,rfl⟩
 exact h v t hG S0 w0 x' _ w' (Bo.put B.tm (B.df.mono CB) q M R o.dst);exact h v t hG S0 w0 x' _ w' (Bo.put B.tm (B.df.mono CB) q M R o.dst)
end
section
variable {P:Program} {S0:BF} {w0:Bs} {x:Cx} {w:World} {H:Bx} {a:Act} {o:Oper} {v:V}
theorem AI4 (g:Good S0 w0 x w H){t:TypeId}{y z:Operand}(ho:o.op=.slice t y E (J z) E){es Bq:Nat}(hT:Dk P t=J (Ae,es,Bq)){k off len n:Nat}{kd:IntKind}(B:CV x w (.own k off len es) (a.eval y))(R:CV x w (.c (.int kd (n:Int))) (a.eval z))(hn:n<=len):
 BW P o a S0 w0 x w H (.own k off n es) none:=by
 obtain⟨hu,ie,zv,S,_,M,_,_⟩:=JS hT;simp only[CV,Ab]at B R;obtain⟨q,h2,cap,B,h3,h4,h5⟩:=B;have h6:(n:Int)<=(cap:Int):=by omega
 refine BW.pure g (u:=.slice (J ⟨(x.loc k).b,off,E⟩) n cap) ?_ ?_;simp[execOp,ho,B,R.1,Instr.sliceAt,Instr.slice,run_underlying hu,Instr.sliceBounds,Instr.sliceBound,asIntOf,sizeOf,typeInfo,S,h6,M,aD];intro h;omega;simp only[CV];exact⟨q,h2,cap,F,by omega,h4,h5⟩
theorem AIw (g:Good S0 w0 x w H){t:TypeId}{y:Operand}(ho:o.op=.buildSlice t 1 #[(0,y)])(hT:Dk P t=J (Ae,1,Bq))(q:CV x w v (a.eval y))(R:v.one=I)(M:Nat)(hk : ¬x.dom M):
 BW P o a S0 w0 x w H (.own M 0 1 1) (J (M,.box Ae [v] U)):=by
 obtain⟨hu,ie,zv,z,hz,B,_,_⟩:=JS hT;have ze:=q.one R;have hr:=run_buildSlice (P:=P) w t Ae 1 #[(0,a.eval y)] #[a.eval y] ie zv hu z hz (by rw[B];omega) (by rw[B];omega) (by
  rw[B];simp only[fi,AEj ze];simp;refine Array.ext (by simp) λi R S=>?_
  simp at S;subst S;simp)
 obtain⟨g',he⟩:=g.Zc M hk Ae [v] #[a.eval y] (by simp only[AO];exact⟨_,[],F,q,F⟩);refine⟨_,_,_,.slice (J ⟨w.heap.size,0,E⟩) 1 1,by simp only[execOp,ho,Jt,AMl,List.map_cons,BB,hr,Oo];rfl,.inl F,?_,g',he,λk h=>h.elim .inl λe=>.inr ⟨.box Ae [v] U,by rw[e]⟩,λ_=>rfl⟩;simp only[CV,Cx.C4,if_true];exact⟨.inr W,W,1,F,BN _,by unfold maxLen;omega,by simp⟩
theorem AIv (g:Good S0 w0 x w H){t:TypeId}(ho:o.op=.buildSlice t 0 #[]){es Bq:Nat}(S:Dk P t=J (Ae,es,Bq)):BW P o a S0 w0 x w H (.Bg []) none:=by
 obtain⟨hu,ie,zv,M,hz,A0,_,_⟩:=JS S;obtain⟨A,w',hr,B,hs⟩:∃A w',(Instr.buildSlice t 0 #[]).run P w=.ok (.slice A 0 0) w'/\Ay w w'/\w'.heap.size>=w.heap.size:=by
  refine⟨J ⟨w.heap.size,0,E⟩,w.alloc (.cells (Array.map (λx=>default) (Array.range 0)) Ae),?_,(Ay.refl w).alloc _,by simp⟩;simp[Instr.buildSlice,run_underlying hu,sizeOf,typeInfo,zeroValue,M,hz,fi,newRow]
 obtain⟨R,z⟩:=g.MF (x':=x) B ⟨λ_ _ h=>h,λb j v _ q=>B.cell q⟩ rfl rfl (λb j h=>.inl h);refine⟨_,_,x,.slice A 0 0,by simp only[execOp,ho,Jt,AMl,BB,hr,Oo];rfl,.inl F,?_,R,z,λk h=>.inl h,λ_=>rfl⟩;simp only[CV,Ab];exact⟨A,F,A,0,F,BN _,by omega,λh=>absurd rfl h⟩
theorem AVN (g:Good S0 w0 x w H){t t':TypeId}{y z:Operand}(ho:o.op=.binOp .eql t y z t'){es Bq:Nat}(R:Dk P t=J (Ae,es,Bq)){AG:List (List C)}(B:Ab x.S w (.sl AG) (a.eval y))(hz:a.eval z=.slice E 0 0):
 ∃b:Bool,(b=I->AG=[])/\BW P o a S0 w0 x w H (.c (.bool b)) none:=by
 obtain⟨hu,ie,zv,EB,_,A0,_,_⟩:=JS R;simp only[Ab]at B;obtain⟨A,c,B,h1,h2,M⟩:=B;refine⟨A.isNone,λh=>?_,BW.pure g (u:=.bool A.isNone) ?_ (by simp only[CV,Ab])⟩;cases A with
 | none =>
   by_cases e:AG=[]
   exact e;obtain⟨_,_,_,h,_⟩:=M e;cases h
 | some _=>cases h
 have q : ∀A n c,(binOp .eql t (.slice A n c) (.slice E 0 0))=(do pure (.bool (<-Pt t (.slice A n c) (.slice E 0 0)))):=λ_ _ _=>rfl
 have he : ∀A n c,(Pt t (.slice A n c) (.slice E 0 0)).run P w=.ok A.isNone w:=by
  intro A n c;have e:Pt t (.slice A n c) (.slice E 0 0)=aP (9999+1) t (.slice A n c) (.slice E 0 0):=F;rw[e];unfold aP;cases A<;>simp[run_underlying hu]
 have hq:(eqGuard .eql t y z (.slice A (G AG) c) (.slice E 0 0)).run P w=.ok () w:=F;simp only[execOp,ho,B,hz,Jt,hq,q,he,Oo,Sem.run_pure]
theorem AI2 (g:Good S0 w0 x w H)(n:Nat){t t':TypeId}{y z:Operand}(q:o.op=.binOp .eql t y z t'){es Bq:Nat}(R:Dk P t=J (Ae,es,Bq)){AG:List (List C)}(hy:Ab x.S w (.sl AG) (a.eval y))(hz:a.eval z=.slice E 0 0):
 ∃v t,(∀k ob,t=J (k,ob)->k<=n)/\(t=E/\∃b:Bool,v=.c (.bool b)/\(b=I->AG=[]))/\BW P o a S0 w0 x w H v t:=by
 obtain⟨b,B,M⟩:=AVN g q R hy hz;exact⟨_,_,λ_ _ h=>(by cases h),⟨F,b,F,B⟩,M⟩
theorem AU2 (g:Good S0 w0 x w H){t:TypeId}{y z:Operand}(ho:o.op=.call ⟨.builtin .copy,#[y,z],#[t,t]⟩){es Bq:Nat}(hT:Dk P t=J (Ae,es,Bq)){k:Nat}{AG:List (List C)}(hy:CV x w (.own k 0 (G AG) es) (a.eval y))(hz:Ab x.S w (.sl AG) (a.eval z))(hr : ∀r∈AG,G r=es)(hk:H k=J (.box ty cs U))(hl:G cs=G AG*es):BW P o a S0 w0 x w H (.c (.int .i64 (G AG))) (J (k,.box ty (AG.flatten.map V.c) U)):=by
 obtain⟨hu,ie,zv,EB,_,A2,_,_⟩:=JS hT;obtain⟨hd,A5⟩:=g.ok k _ hk;obtain⟨b1,b2,vs,hb,hn,A1⟩:=A5;simp only[CV]at hy;obtain⟨_,_,cap,hy,h3,h4,h5⟩:=hy;obtain⟨A,c,B,e,k1,k2,k3,k4,k5,k6⟩:=T0 hz hr;have dK:vs.size=G AG*es:=by have:=A1.len;simp only[FW]at this;omega
 have A0:=k3.r8;have q:=run_storeCells_at (P:=P) (t:=ty) (off:=0) B 0 w vs hb (by simp;omega) A0;have FH:=cC B 0 0 vs (by simp;omega);obtain⟨M,dM⟩:∃M,((B.zipIdx 0).foldl (λ(c:Array Value) (p:Value×Nat)=>c.setIfInBounds (0+p.2) p.1) vs)=M:=⟨_,rfl⟩
 rw[dM]at q FH;have kH:M.toList=B:=by rw[FH];simp;omega
 have R:(tw #[t,t] o.type #[.slice (J ⟨(x.loc k).b,0,E⟩) (G AG) cap,.slice A (G AG) c]).run P w=.ok (goInt (G AG)) (w.setRow (x.loc k).b M):=by
  have zH:(fc es (G AG) (.slice A (G AG) c)).run P w=.ok B.toArray w:=by
   cases A with
   | none =>
     have:AG=[]:=by
      by_cases e:AG=[]
      exact e;obtain⟨_,_,h,_⟩:=k6 e;cases h
     subst this;have:B=[]:=List.eq_nil_of_length_eq_zero (by simpa using k4);subst this;simp[fc]
   | some ad=>exact run_firstCells_some (P:=P) w es (G AG) ad (G AG) c B k4 (k5 _ F)
  simp[tw,run_underlying hu,tx,sizeOf,typeInfo,EB,A2,zH,q]
 obtain⟨g',he⟩:=g.ACa k ty cs (AG.flatten.map V.c) hk vs M hb (by rw[<-FW,kH,k4,dK]) (by rw[kH];exact AO.OS k3);refine⟨_,_,x,goInt (G AG),by simp[execOp,ho,resolve,invoke,builtin,hy,e,R],.inl F,?_,g',he,λ_ h=>.inl h,λ_=>rfl⟩;simp only[CV,Ab,goInt];exact⟨W,Q8 (by omega)⟩
theorem AU1 (g:Good S0 w0 x w H){t:TypeId}{y z:Operand}(ho:o.op=.call ⟨.builtin .copy,#[y,z],#[t,t]⟩){es Bq:Nat}(hT:Dk P t=J (Ae,es,Bq))(R:Ab x.S w (.sl []) (a.eval y))(q:Ab x.S w (.sl []) (a.eval z)):BW P o a S0 w0 x w H (.c (.int .i64 0)) none:=by
 obtain⟨hu,ie,zv,EB,_,A0,_,_⟩:=JS hT;simp only[Ab,List.length_nil]at R q;obtain⟨A,c,R,_⟩:=R;obtain⟨B,d,q,_⟩:=q;have hl : ∀(y:Addr),(loadCells y 0).run P w=.ok #[] w:=λy=>by simpa using run_loadCells_list (P:=P) w y [] (by simp)
 have M:(tw #[t,t] o.type #[.slice A 0 c,.slice B 0 d]).run P w=.ok (goInt 0) w:=by
  cases A<;>cases B<;>simp[tw,run_underlying hu,tx,fc,sizeOf,typeInfo,EB,storeCells,hl]
 refine BW.pure g (u:=goInt 0) (by simp[execOp,ho,resolve,invoke,builtin,R,q,M]) ?_;simp only[CV,Ab,goInt];exact⟨W,Q8 (n:=0) (by omega)⟩
theorem AUw (g:Good S0 w0 x w H){t:TypeId}{y z:Operand}(ho:o.op=.call ⟨.builtin .append,#[y,z],#[t,t]⟩)(hT:Dk P t=J (Ae,1,Bq)){k k2 len:Nat}(hy:CV x w (.own k 0 len 1) (a.eval y))(hz:CV x w (.own k2 0 1 1) (a.eval z))(hk:H k=J (.box Ae cs U)){tP:TypeId}{fr:Bool}(EG:H k2=J (.box tP [v] fr))(Fv:v.one=I)(hm:len+1<=maxLen)(hb:(len+1)*Bq<=140737488355328)(hl:len<=G cs)(k0:Nat)(Iu : ¬x.dom k0):
 (len<G cs/\BW P o a S0 w0 x w H (.own k 0 (len+1) 1) (J (k,.box Ae (cs.set len v) U)))\/(∃n,BW P o a S0 w0 x w H (.own k0 0 (len+1) 1) (J (k0,.box Ae (cs.take len++v::Aq n .any) U))):=by
 obtain⟨hu,ie,zv,EB,R7,S,A6,B1⟩:=JS hT;obtain⟨hd,b1,b2,vs,cW,hn,R⟩:=g.ok k _ hk;obtain⟨QL,c1,c2,us,NP,KY,jh⟩:=g.ok k2 _ EG;simp only[CV]at hy hz;obtain⟨_,_,cap,hy,h3,h4,h5⟩:=hy;obtain⟨_,_,wc,hz,_,_,_⟩:=hz;simp only[AO]at jh;obtain⟨u,ur,B7,Y6,rfl⟩:=jh;have dK:vs.size=G cs:=by have:=R.len;simpa using this
 have B0:=Y6.one Fv;have A1 : ∀(j:Nat) (q:Value),([u]:List Value)[j]?=J q->w.cell? (aD ⟨(x.loc k2).b,0,E⟩ j)=J q:=by
  intro j q hq;rw[J0,Cz,cell_of_row w _ j us tP (0,0) NP];rw[<-VZ,B7];exact hq
 by_cases M:len+1<=cap;left;have A2:len<G cs:=by omega
 refine⟨A2,?_⟩;have DK:w.cell? ⟨(x.loc k).b,len,E⟩=J vs[len]:=by rw[cell_of_row w _ len vs Ae (0,0) cW];simp[dK,A2]
 have A9:(storeCells ⟨(x.loc k).b,len,E⟩ [u] 0).run P w=.ok () (w.setRow (x.loc k).b (vs.setIfInBounds len u)):=by
  have:=run_storeCells_at (P:=P) (t:=Ae) (off:=len) [u] 0 w vs cW (by simp;omega) (by simpa using B0);simpa using this
 have zH:=run_firstCells_some (P:=P) w 1 1 ⟨(x.loc k2).b,0,E⟩ 1 wc [u] (by simp) A1;have B:(aE #[t,t] o.type #[.slice (J ⟨(x.loc k).b,0,E⟩) len cap,.slice (J ⟨(x.loc k2).b,0,E⟩) 1 wc]).run P w=.ok (.slice (J ⟨(x.loc k).b,0,E⟩) (len+1) cap) (w.setRow (x.loc k).b (vs.setIfInBounds len u)):=by
  simp[aE,run_underlying hu,sizeOf,typeInfo,EB,S,tx,M,zH,Addr.add_lit,A9]
 obtain⟨g',he⟩:=g.ACa k Ae cs (cs.set len v) hk vs (vs.setIfInBounds len u) cW (by simp) (by simpa using R.set len Y6);refine⟨.value (.slice (J ⟨(x.loc k).b,0,E⟩) (len+1) cap),w.setRow (x.loc k).b (vs.setIfInBounds len u),x,.slice (J ⟨(x.loc k).b,0,E⟩) (len+1) cap,by simp[execOp,ho,resolve,invoke,builtin,hy,hz,B],.inl F,?_,g',he,λ_ h=>.inl h,λOD=>rfl⟩;simp only[CV];exact⟨hd,b1,cap,F,M,h4,h5⟩;right;have DK:cap=len:=by omega
 subst DK;have A3 : ∀(j:Nat) (q:Value),(vs.toList.take cap)[j]?=J q->w.cell? (aD ⟨(x.loc k).b,0,E⟩ j)=J q:=by
  intro j q hq;rw[J0,Cz,cell_of_row w _ j vs Ae (0,0) cW,<-VZ];rw[List.getElem?_take]at hq;split at hq;exact hq;cases hq
 have B:=run_append_grow (P:=P) w t o.type Ae ie zv hu EB R7 ⟨(x.loc k).b,0,E⟩ cap cap (vs.toList.take cap) (by rw[Fa,S];simp;omega) A3 ⟨(x.loc k2).b,0,E⟩ 1 wc [u] (by rw[S];rfl) A1 (by omega) (by unfold maxLen at hm;omega) (growslice_fits (by omega) (by rw[A6];exact hb));have JL:=grownCap_ge w (cap+1) cap Ae;have A8:=grownCap_le_maxLen w (cap+1) cap Ae hm;refine⟨grownCap w (cap+1) cap Ae - (cap+1),?_⟩;obtain⟨arr,Ft⟩:=AI ((vs.toList.take cap).toArray++[u].toArray++KN zv.cells (grownCap w (cap+1) cap Ae - (cap+1)));rw[Ft]at B;have A0:(KN zv.cells (grownCap w (cap+1) cap Ae - (cap+1))).toList.length=grownCap w (cap+1) cap Ae - (cap+1):=by simp[size_zeroCells,B1]
 have FE:arr.toList=vs.toList.take cap++u::(KN zv.cells (grownCap w (cap+1) cap Ae - (cap+1))).toList:=by rw[<-Ft];simp
 have A5:arr.size=grownCap w (cap+1) cap Ae:=by rw[<-FW,FE];simp only[List.length_append,List.length_cons,Fa,FW,A0];rw[FW]at A0;omega
 have LB:Ay w w.drew:=(Ay.refl w).drew;obtain⟨gd,ca⟩:=g.MF (x':=x) LB ⟨λ_ _ h=>h,λb j v _ hc=>LB.cell hc⟩ rfl rfl (λb j h=>.inl h);have A7:AO x w.drew (cs.take cap++v::Aq (grownCap w (cap+1) cap Ae - (cap+1)) .any) arr.toList:=by
  rw[FE];refine(AO.mono ca _ _ (R.take cap)).append ?_;simp only[AO];refine⟨u,_,F,CV.mono ca _ _ Y6,AO.SI (by rw[A0];simp) λi v' u' h1 _=>?_⟩;rw[List.getElem?_replicate]at h1;split at h1;cases h1;simp only[CV];cases h1
 obtain⟨g',he⟩:=gd.Zc k0 Iu Ae _ arr A7;refine⟨.value (.slice (J ⟨w.heap.size,0,E⟩) (cap+1) (grownCap w (cap+1) cap Ae)),w.drew.alloc (.cells arr Ae),_,.slice (J ⟨w.heap.size,0,E⟩) (cap+1) (grownCap w (cap+1) cap Ae),by simp[execOp,ho,resolve,invoke,builtin,hy,hz,B],.inl F,?_,g',ca.trans he,λk h=>h.elim .inl λe=>.inr ⟨.box Ae (cs.take cap++v::Aq (grownCap w (cap+1) cap Ae - (cap+1)) .any) U,by rw[e]⟩,λOD=>by rw[ho]at OD;cases OD⟩;simp only[CV,Cx.C4,if_true];exact⟨.inr W,W,_,F,JL,A8,by rw[A5];omega⟩
theorem AUx (g:Good S0 w0 x w H)(n:Nat){t:TypeId}{y z:Operand}(ho:o.op=.call ⟨.builtin .append,#[y,z],#[t,t]⟩)(hT:Dk P t=J (Ae,1,Bq)){k S len:Nat}(hy:CV x w (.own k 0 len 1) (a.eval y))(hz:CV x w (.own S 0 1 1) (a.eval z))(hk:H k=J (.box Ae cs U)){tP:TypeId}{fr:Bool}(q:H S=J (.box tP [v] fr))(Fv:v.one=I)(hm:len+1<=maxLen)(hb:(len+1)*Bq<=140737488355328)(hl:len<=G cs)(hn : ¬x.dom n)(Ej:k<=n):
 ∃R B,(∀k ob,B=J (k,ob)->k<=n)/\((len<G cs/\R=.own k 0 (len+1) 1/\B=J (k,.box Ae (cs.set len v) U))\/∃j,R=.own n 0 (len+1) 1/\B=J (n,.box Ae (cs.take len++v::Aq j .any) U))/\BW P o a S0 w0 x w H R B:=by
 rcases AUw g ho hT hy hz hk q Fv hm hb hl n hn with ⟨h1,M⟩|⟨j,M⟩
 exact⟨_,_,λ_ _ h=>(by cases h;exact Ej),.inl ⟨h1,F,F⟩,M⟩;exact⟨_,_,λ_ _ h=>(by cases h;exact BN _),.inr ⟨j,F,F⟩,M⟩
end
section
variable {P:Program} {m:Mo}
def Xv (F:Fence)(n:Nat)(P:Program)(c:Code)(Q:Exit->Act->World->Prop)(a:Act)(w:World):Prop:=
 ∀(b:Frame) (k:List Item) (cs:List Frame),b.roundOf=F.round->F.fn b.fn->F.room (G cs+1+n)->
  ∃e a' w',Q e a' w'/\ArrivesIn (Machine.fenced P F) P (lone (b.atR a (.code c:: .inLoop c::k)) cs w) b k cs e a' w'
theorem Xv.round {F:Fence}{a:Act}(h:c.wpIn F n P (Exit.then (Xv F n P c Q) Q) a w):Xv F n P c Q a w:=by
 intro b k cs A0 hb hr;obtain⟨e,B,M,S,R⟩:=h b (.inLoop c::k) cs A0 hb hr;cases e with
 | normal=>obtain⟨z,q,w₂,zp,yh⟩:=S b k cs A0 hb hr;exact⟨z,q,w₂,zp,.of_steps (StepsIn.trans R (.one (fenced_calm hb hr rfl) stepR_inLoop)) yh⟩
 | exit id=>exact⟨_,B,M,S,.pass (x:=.inLoop c) rfl (λ_ _=>.inl (by simp)) R⟩
 | goto l=>exact⟨_,B,M,S,.pass (x:=.inLoop c) rfl (λ_ _=>.inl (by simp)) R⟩
 | ret=>exact⟨_,B,M,S,.pass (x:=.inLoop c) rfl (λ_ _=>.inl (by simp)) R⟩
 | panic ch=>exact⟨_,B,M,S,.pass (x:=.inLoop c) rfl (λ_ _=>.inl (by simp)) R⟩
 | outgrown=>exact⟨_,B,M,S,.pass (x:=.inLoop c) rfl (λ_ _=>.inl (by simp)) R⟩
theorem Xv.loop {F:Fence}{a:Act}(h:Xv F n P c Q a w):(Code.loop c).wpIn F n P Q a w:=by
 intro b k cs B M R;obtain⟨e,q,w',z,S⟩:=h b k cs B M R;exact⟨e,q,w',z,.of_steps (.one (fenced_calm M R rfl) stepR_loop) S⟩
def LA (m:Mo)(P:Program)(c:Code)(K:Exit->St->Prop)(s:St):Prop:=
 ∀(n:Nat) (S0:BF) (w0:Bs) (x:Cx) (a:Act) (w:World),w0.n0<=m.n0->Bo S0 w0 x s a w->Xv (fz m) n P c (λe a w=>∃x s,Bo S0 w0 x s a w/\K e s) a w
theorem LA.loop (h:LA m P c K s):AW m P (.loop c) K s:=λn S0 w0 x a w M B=>(h n S0 w0 x a w M B).loop
theorem LA.round (h:AW m P c (NH (LA m P c K) K) s):LA m P c K s:=λn S0 w0 x a w R S=>Xv.round (wpIn_mono (h n S0 w0 x a w R S) λe a w ⟨x,s,B,M⟩=>by
 cases e with
 | normal=>exact M n S0 w0 x a w R B
 | _=>exact⟨x,s,B,M⟩)
theorem LA.le {s s':St}(S:Le m s s')(h:LA m P c K s'):LA m P c K s:=λn S0 w0 x a w B R=>let ⟨x',M⟩:=S S0 w0 x a w B R;h n S0 w0 x' a w B M
end
mutual
def V.GS (ρ:Nat->Nat):V->V
 | .ptr k off=>.ptr (ρ k) off
 | .own k off len es=>.own (ρ k) off len es
 | .gr k es AG=>.gr (ρ k) es AG
 | .Be k es AG=>.Be (ρ k) es AG
 | .hp k n pos=>.hp (ρ k) n pos
 | .agg l=>.agg (V.SO ρ l)
 | .A7 l=>.A7 (V.SO ρ l)
 | .fn f l=>.fn f (V.SO ρ l)
 | .any=>.any
 | .c d=>.c d
 | .cp r off=>.cp r off
 | .Bg r=>.Bg r
 | .yl l=>.yl l
 | .mp k=>.mp (ρ k)
def V.SO (ρ:Nat->Nat):List V->List V
 | []=>[]
 | v::l=>V.GS ρ v::V.SO ρ l
end
def Cx.pull (x:Cx)(ρ:Nat->Nat)(N:Nat):Cx:={ dom:=λk=>k<N/\x.dom (ρ k),loc:=λk=>x.loc (ρ k),S:=x.S }
mutual
theorem CV.pull {x:Cx}{w:World}{ρ:Nat->Nat}{N:Nat} : ∀(v:V) (u:Value),v.A8 N=I->CV x w (V.GS ρ v) u->CV (x.pull ρ N) w v u
 | .ptr k M,u,B,h=>by simp only[V.A8,decide_eq_true_eq]at B;simp only[V.GS,CV,Cx.pull]at h ⊢;exact⟨⟨B,h.1⟩,h.2⟩
 | .own k M len es,u,B,h=>by simp only[V.A8,decide_eq_true_eq]at B;simp only[V.GS,CV,Cx.pull]at h ⊢;exact⟨⟨B,h.1⟩,h.2⟩
 | .gr k es R,u,B,h=>by simp only[V.A8,decide_eq_true_eq]at B;simp only[V.GS,CV,Cx.pull]at h ⊢;exact⟨⟨B,h.1⟩,h.2⟩
 | .Be k es R,u,B,h=>by simp only[V.A8,decide_eq_true_eq]at B;simp only[V.GS,CV,Cx.pull]at h ⊢;exact⟨⟨B,h.1⟩,h.2⟩
 | .hp k m pos,u,B,h=>by simp only[V.A8,decide_eq_true_eq]at B;simp only[V.GS,CV,Cx.pull]at h ⊢;exact⟨⟨B,h.1⟩,h.2⟩
 | .agg l,u,B,h=>by simp only[V.A8]at B;simp only[V.GS,CV]at h ⊢;obtain⟨vs,e,h⟩:=h;exact⟨vs,e,AO.pull l _ B h⟩
 | .A7 l,u,B,h=>by simp only[V.A8]at B;simp only[V.GS,CV]at h ⊢;obtain⟨vs,e,h⟩:=h;exact⟨vs,e,AO.pull l _ B h⟩
 | .fn f l,u,B,h=>by simp only[V.A8]at B;simp only[V.GS,CV]at h ⊢;obtain⟨vs,e,h⟩:=h;exact⟨vs,e,AO.pull l _ B h⟩
 | .any,u,_,h=>by simp only[CV]
 | .c _,u,_,h=>by simpa only[V.GS,CV,Cx.pull]using h
 | .cp _ _,u,_,h=>by simpa only[V.GS,CV,Cx.pull]using h
 | .Bg _,u,_,h=>by simpa only[V.GS,CV,Cx.pull]using h
 | .yl l,u,_,h=>by simpa only[V.GS,CV]using h
 | .mp k,u,B,h=>by simp only[V.A8,decide_eq_true_eq]at B;simp only[V.GS,CV,Cx.pull]at h ⊢;exact⟨⟨B,h.1⟩,h.2⟩
theorem AO.pull {x:Cx}{w:World}{ρ:Nat->Nat}{N:Nat} : ∀(l:List V) (us:List Value),V.BI N l=I->AO x w (V.SO ρ l) us->AO (x.pull ρ N) w l us
 | [],us,_,h=>by simpa only[V.SO,AO]using h
 | v::l,us,B,h=>by
   simp only[V.BI,Ak]at B;simp only[V.SO,AO]at h ⊢;obtain⟨u,M,e,R,S⟩:=h;exact⟨u,M,e,CV.pull v u B.1 R,AO.pull l M B.2 S⟩
end
def Wk (ρ:Nat->Nat)(N:Nat)(v v':V):Prop:=v'=.any\/(v=v'.GS ρ/\v'.A8 N=I)\/∃AG,v=.Bg AG/\v'=.c (.sl AG)
def EM (ρ:Nat->Nat)(N:Nat):List V->List V->Prop
 | [],l'=>l'=[]
 | v::l,v'::l'=>Wk ρ N v v'/\EM ρ N l l'
 | _::_,[]=>False
theorem Wk.ok {x:Cx}{ρ:Nat->Nat}{N:Nat}{v M:V}{u:Value}(h:Wk ρ N v M)(B:CV x w v u):CV (x.pull ρ N) w M u:=by
 rcases h with rfl|⟨rfl,h⟩|⟨R,rfl,rfl⟩
 simp only[CV];exact CV.pull M u h B;simp only[CV]at B ⊢;obtain⟨_,_,B⟩:=B;exact B
theorem EM.ok {x:Cx}{w:World}{ρ:Nat->Nat}{N:Nat} : ∀ {l M:List V} {us:List Value},EM ρ N l M->AO x w l us->AO (x.pull ρ N) w M us
 | [],M,us,h,B=>by simp only[EM]at h;subst h;simpa only[AO]using B
 | v::l,[],us,h,_=>by simp[EM]at h
 | v::l,z::M,us,h,B=>by
   simp only[EM]at h;simp only[AO]at B ⊢;obtain⟨u,q,e,R,S⟩:=B;exact⟨u,q,e,h.1.ok R,EM.ok h.2 S⟩
theorem EM.append {ρ:Nat->Nat}{N:Nat} : ∀ {l B k k':List V},EM ρ N l B->EM ρ N k k'->EM ρ N (l++k) (B++k')
 | [],B,k,k',h,M=>by simp only[EM]at h;subst h;exact M
 | v::l,[],k,k',h,_=>by simp[EM]at h
 | v::l,R::B,k,k',h,M=>by simp only[EM]at h;exact⟨h.1,EM.append h.2 M⟩
theorem EM.any {ρ:Nat->Nat}{N:Nat} : ∀(l:List V),EM ρ N l (Aq (G l) .any)
 | []=>rfl
 | v::l=>⟨.inl F,EM.any l⟩
theorem EM.same {ρ:Nat->Nat}{N:Nat} : ∀ {l:List V},V.SO ρ l=l->V.BI N l=I->EM ρ N l l
 | [],_,_=>rfl
 | v::l,h,B=>by
   simp only[V.SO,List.cons.injEq]at h;simp only[V.BI,Ak]at B;exact⟨.inr (.inl ⟨h.1.symm,B.1⟩),EM.same h.2 B.2⟩
def Wo (ρ:Nat->Nat)(N:Nat):O->O->Prop
 | .box ty cs fr,.box GV cs' py=>ty=GV/\fr=py/\EM ρ N cs cs'
 | .tok ty es cur,.tok GV es' YE=>ty=GV/\es=es'/\cur=YE
 | _,_=>False
theorem Le.GS {rd:Option Nat}{t t':List V}{h R:List O}(ρ:Nat->Nat)(A0 : ∀i j,i<G R->j<G R->ρ i=ρ j->i=j)(ht:EM ρ (G R) t t')(q : ∀k o',R[k]?=J o'->∃o,h[ρ k]?=J o/\Wo ρ (G R) o o'):Le ⟨rd,0⟩ ⟨t,h⟩ ⟨t',R⟩:=λS0 w0 x a w hm hA=>by
 have g:=hA.good;have NR : ∀k,¬w0.x0.dom k:=λk M=>by have:=w0.dl k M;have:w0.n0<=0:=hm;omega
 have S : ∀ {k o'},R[k]?=J o'->k<G R:=λM=>(Br.1 M).1
 have zh : ∀ {k o o'},Wo ρ (G R) o o'->Ld x w (ρ k) o->Ld (x.pull ρ (G R)) w k o':=by
  intro k o o' B A5;cases o with
  | box ty cs fr =>
    cases o' with
    | box GV A1 py=>obtain⟨rfl,rfl,hc⟩:=B;obtain⟨a1,a2,vs,a3,a4,a5⟩:=A5;exact⟨a1,a2,vs,a3,a4,hc.ok a5⟩
    | tok _ _ _=>exact B.elim
    | Be _ _ _ _=>exact B.elim
    | mp _=>exact B.elim
  | tok ty es A2 =>
    cases o' with
    | tok GV A3 YE=>obtain⟨rfl,rfl,rfl⟩:=B;exact A5
    | box _ _ _=>exact B.elim
    | Be _ _ _ _=>exact B.elim
    | mp _=>exact B.elim
  | Be _ _ _ _=>exact B.elim
  | mp _=>exact B.elim
 have A6 : ∀ {k o o' j},Wo ρ (G R) o o'->Ex (x.pull ρ (G R)) k o' j->Ex x (ρ k) o j:=by
  intro k o o' j B hx;cases o with
  | box ty cs fr =>
    cases o' with
    | box GV A1 py=>obtain⟨rfl,rfl,hc⟩:=B;exact hx
    | tok _ _ _=>exact B.elim
    | Be _ _ _ _=>exact B.elim
    | mp _=>exact B.elim
  | tok ty es A2 =>
    cases o' with
    | tok GV A3 YE=>obtain⟨rfl,rfl,rfl⟩:=B;exact hx
    | box _ _ _=>exact B.elim
    | Be _ _ _ _=>exact B.elim
    | mp _=>exact B.elim
  | Be _ _ _ _=>exact B.elim
  | mp _=>exact B.elim
 refine⟨x.pull ρ (G R),⟨λk o' M=>?_,λk M=>?_,λk k' o o' h1 h2 A7 hv A8=>?_,λk o' j M hx=>?_,g.ex,λk o' M hv=>?_,g.new,g.sub,g.keep,g.ext.ar,λk M=>(NR k M).elim,λk M=>(NR k M).elim⟩,ht.ok hA.tm,hA.df⟩;obtain⟨o,z,B⟩:=q k o' M;obtain⟨h1,h2⟩:=g.ok _ o z;exact⟨⟨S M,h1⟩,zh B h2⟩;exact⟨_,BE M.1⟩;obtain⟨p,hp,_⟩:=q k o h1;obtain⟨p',U7,_⟩:=q k' o' h2;exact g.inj _ _ p p' hp U7 (λe=>A7 (A0 _ _ (S h1) (S h2) e)) hv A8;obtain⟨o,z,B⟩:=q k o' M;exact g.EA _ o j z (A6 B hx);obtain⟨o,z,_⟩:=q k o' M;exact g.own _ o z hv
theorem jn {c d:Code}{t:List V}{h:List O}{ι:Type}(f:ι->List (Nat×V)){ws:List Nat}{t0:List V}(hc:AW m P c (NH (λs'=>∃i:ι,Le m s' ⟨CG (f i) t0,h⟩) K) ⟨t,h⟩)(hr : ∀i:ι,AW m P d K ⟨CG (f i) t0,h⟩)(hw:wr c=ws:=by simp only[wr,lq,List.cons_append,List.nil_append,List.append_nil,List.append_assoc];exact rfl)(ht:jb ws t=t0:=by simp only[jb,List.foldl_cons,List.foldl_nil,List.set_cons_zero,List.set_cons_succ];exact rfl):AW m P c (NH (AW m P d K) K) ⟨t,h⟩:=
 hc.mono λe s h=>by
  cases e with
  | normal=>obtain⟨i,hi⟩:=h;exact AW.le hi (hr i)
  | _=>exact h
mutual
def V.Q6:V->Bool
 | .ptr _ _=>I
 | .c _=>I
 | .cp _ _=>I
 | .agg l=>V.Pn l
 | .A7 l=>V.Pn l
 | .fn _ l=>V.Pn l
 | .yl _=>I
 | .any=>I
 | _=>U
def V.Pn:List V->Bool
 | []=>I
 | v::l=>v.Q6 && V.Pn l
end
mutual
theorem AXH {x:Cx}{w:World}{k b n:Nat}(z:x.dom k)(ht:(x.loc k).tok=U)(hb:(x.loc k).b=b):∀(v R:V) (u:Value),V.Q6 v=I->V.Di k v=J R->CV (Cx.one x.S b n) w R u->CV x w v u
 | .ptr i A0,R,u,_,h,B=>by
   simp only[V.Di]at h;split at h;rename_i e;cases h;subst e;simp only[CV,Cx.one]at B ⊢;exact⟨z,ht,by rw[hb];exact B.2.2⟩;cases h
 | .c c,R,u,_,h,B=>by simp only[V.Di,BL]at h;subst h;simpa only[CV,Cx.one]using B
 | .cp row A0,R,u,_,h,B=>by simp only[V.Di,BL]at h;subst h;simpa only[CV,Cx.one]using B
 | .yl l,R,u,_,h,B=>by simp only[V.Di,BL]at h;subst h;simpa only[CV]using B
 | .agg l,R,u,M,h,B=>by
   simp only[V.Di,Ia]at h;obtain⟨r,h,rfl⟩:=h;simp only[V.Q6]at M;simp only[CV]at B ⊢;obtain⟨vs,e,B⟩:=B;exact⟨vs,e,Zo z ht hb l r _ M h B⟩
 | .A7 l,R,u,M,h,B=>by
   simp only[V.Di,Ia]at h;obtain⟨r,h,rfl⟩:=h;simp only[V.Q6]at M;simp only[CV]at B ⊢;obtain⟨vs,e,B⟩:=B;exact⟨vs,e,Zo z ht hb l r _ M h B⟩
 | .fn f q,R,u,M,h,B=>by
   simp only[V.Di,Ia]at h;obtain⟨r,h,rfl⟩:=h;simp only[V.Q6]at M;simp only[CV]at B ⊢;obtain⟨vs,e,B⟩:=B;exact⟨vs,e,Zo z ht hb q r _ M h B⟩
 | .any,R,u,_,h,B=>by simp only[CV]
 | .Bg _,_,_,M,_,_=>by simp[V.Q6]at M
 | .gr _ _ _,_,_,M,_,_=>by simp[V.Q6]at M
 | .own _ _ _ _,_,_,M,_,_=>by simp[V.Q6]at M
 | .mp _,_,_,M,_,_=>by simp[V.Q6]at M
 | .Be _ _ _,_,_,M,_,_=>by simp[V.Q6]at M
 | .hp _ _ _,_,_,M,_,_=>by simp[V.Q6]at M
theorem Zo {x:Cx}{w:World}{k b n:Nat}(q:x.dom k)(z:(x.loc k).tok=U)(hb:(x.loc k).b=b):∀(l M:List V) (us:List Value),V.Pn l=I->V.Dj k l=J M->AO (Cx.one x.S b n) w M us->AO x w l us
 | [],M,us,_,h,B=>by simp only[V.Dj,BL]at h;subst h;simpa only[AO]using B
 | v::l,M,us,R,h,B=>by
   simp only[V.Pn,Ak]at R;unfold V.Dj at h;split at h;rename_i y r hy hr;cases h;simp only[AO]at B ⊢;obtain⟨u,ur,rfl,h1,h2⟩:=B;exact⟨u,ur,F,AXH q z hb v y u R.1 hy h1,Zo q z hb l r ur R.2 hr h2⟩;cases h
end
def AY (P:Program)(f:FuncId)(args:List V)(ty:TypeId)(cells cells':List V)(res:V):Prop:=
 ∀(S:BF) (w:World) (us:List Value) (b:Nat) (vs:Array Value),(∀b' j,S b' j->b'<w.heap.size)->(∀j,j<vs.size->¬S b j)->w.heap[b]?=J (.cells vs ty (0,0))->AO (Cx.one S b vs.size) w cells vs.toList->AO (Cx.one S b vs.size) w args us->
  Calls P f us.toArray w λr w'=>∃u S' Bz,r=.returned u/\KB (λk=>k=b) w w'/\Ar S S' w w'/\(∀b' j,S' b' j->S b' j\/(w.heap.size<=b'/\b'<w'.heap.size)\/(b'=b/\vs.size<=j))/\w'.heap[b]?=J (.cells Bz ty (0,0))/\Bz.size=vs.size/\AO (Cx.one S' b vs.size) w' cells' Bz.toList/\CV (Cx.bare S') w' res u
section
variable {P:Program} {K:Exit->St->Prop} {ops:List Oper} {s:St}
theorem SW.V9 {f:FuncId}{args Bd:List V}{cells B cs cs':List V}(K9:AY P f Bd ty cells B res)(hf:P.funcs[f]?=J fn)(hb:fn.body.isSome=I)(hn:(fn.name == "runtime.NumGoroutine")=U)(hg:BQ ops s.t o.guard=J I)(R:C7 (ev s.t) o.op=J (f,args))(hp:V.Dj k args=J Bd)(hk:s.h[k]?=J (.box ty cs U))(A3:V.Dj k cs=J cells)(jg:V.Dj k cs'=J B)(R5:V.Pn cs'=I)(h:SW P ops K r (s.step o.dst res (J (k,.box ty cs' U)))):SW P ops K (o::r) s:=λS0 w0 x a w q=>by
 have hw:FB o (yielded ops.toArray a.tmps)=true:=by
  have:=KR (o:=o) q.tm (IF (ops:=ops) (K1:=True) (K2:=False) hg W);exact Kn λh=>this.2 h
 unfold wpList;rw[if_pos hw];refine .inl ?_;unfold C7 at R;split at R
 case h_2=>cases R
 rename_i fo ar Fk ho;split at R
 case h_2=>cases R
 rename_i f' A0 FG;simp only[BL,Cr]at R;obtain⟨rfl,rfl⟩:=R;have z:=Pp (CW q.tm fo);rw[FG]at z;simp only[CV]at z;obtain⟨Dl,z,EP⟩:=z;have Hw:AO x w (ar.toList.map (ev s.t)++A0) (ar.toList.map a.eval++Dl.toList):=(AO.of_map λy _=>CW q.tm y).append EP;have g:=q.good;obtain⟨hd,b1,b2,vs,b3,b4,b5⟩:=g.ok k _ hk;have Fh:=Qn (n:=vs.size) _ _ _ A3 b5;have PO : ∀j,j<vs.size->¬x.S (x.loc k).b j:=λj hj=>g.EA k _ j hk ⟨rfl,by omega⟩
 have Co:=K9 x.S w _ (x.loc k).b vs g.ex PO b3 Fh (Qn _ _ _ hp Hw);have CT:fn.body≠none:=by intro e;rw[e]at hb;cases hb
 have F6:fn.name≠ "runtime.NumGoroutine":=by simpa using hn
 have A1:(execOp a.eval o).run P w=.ok (.enter f' (ar.toList.map a.eval++Dl.toList).toArray) w:=by
  have e1:(ar.map a.eval++Dl)=(ar.toList.map a.eval++Dl.toList).toArray:=by apply Gx.1;simp
  simp[execOp,ho,resolve,z,M5,invoke,callFunc,program,HW,hf,F6,CT,e1]
 unfold Er;rw[A1];refine Co.mono ?_;rintro r' w' ⟨u,S',Bz,rfl,M,CZ,Gc,h1,h2,h3,h4⟩;have A5:=(g.ok k _ hk).2.lt b2;have he:Ext x { x with S:=S' } w w':=⟨CZ,λ_ h=>h,λ_ _=>FM.refl _⟩
 have g':=g.H5 (x':={ x with S:=S' }) k (.box ty cs' U) he (M.wide λb e=>⟨hd,b2,e.symm⟩) (λi=>⟨.inl,λh=>h.elim id λe=>e ▸ hd⟩) (λ_ _=>rfl) (λ_=>.inl ⟨hd,b2,rfl⟩)
  ⟨b1,b2,Bz,h1,by rw[h2,b4],Zo (x:={ x with S:=S' }) hd b1 rfl _ _ _ R5 jg h3⟩ (λb j hs=>(Gc b j hs).imp id λh=>h.elim (λh=>⟨h.2,.inl h.1,λe=>by have:(x.loc k).b=b:=e;omega⟩) (λh=>⟨by rw[h.1];exact H7 A5 M.size,.inr ⟨hd,b2,h.1.symm⟩,λ_ hx=>by have h5:j<(x.loc k).n:=hx.2;have h6:=h.2;omega⟩)) (λj hx=>g.EA k _ j hk hx)
 have CB:NC w w':=⟨M.size,λb ob D7 II=>(M.block b (DO.1 D7).1 λe=>by subst e;rw[b3]at D7;cases D7;cases II).trans D7⟩
 have e:=Kj s.h (J (k,O.box ty cs' U)) (λk' o' e=>by cases e;exact LZ (Br.1 hk).1);have A2:Good S0 w0 { x with S:=S' } w' (λi=>(Bk s.h (J (k,O.box ty cs' U)))[i]?):=by rw[e];exact g'
 exact h S0 w0 _ _ w' (Bo.put q.tm (q.df.mono CB) he A2 (CV.mono (Ub S' x w') _ _ h4) o.dst)
def GI (P:Program)(l:List ResultVar)(res:V)(ty:TypeId)(cells':List V):Exit->St->Prop
 | .normal,s=>DV P s l=J res/\s.h[0]?=J (.box ty cells' U)/\V.Dj 0 cells'=J cells'
 | .ret,s=>DV P s l=J res/\s.h[0]?=J (.box ty cells' U)/\V.Dj 0 cells'=J cells'
 | _,_=>False
theorem AY.intro {f:FuncId}{fn:Func}{c:Code}{args:List V}{ty:TypeId}{cells M:List V}{res:V}(hf:P.funcs[f]?=J fn)(hb:fn.body=J c)(h:AW ⟨E,1⟩ P c (GI P fn.results.toList res ty M) ⟨args++Aq (fn.ntmps - G args) .any,[.box ty cells U]⟩):AY P f args ty cells M res:=by
 intro S w us b vs hS PO FF Fh B7;have A5:b<w.heap.size:=(DO.1 FF).1;refine callsIn_wide.1 (callsIn_of_wp_marks (F:=Cg) (n:=0) hf hb trivial ?_);let B:Bs:=⟨w,λk=>k<w.heap.size/\k≠b,λ_ h=>h.1,Cx.one S b vs.size,1,λk hk=>by have:k=0:=hk;omega⟩
 have hA:Bo S B (Cx.one S b vs.size) ⟨args++Aq (fn.ntmps - G args) .any,[.box ty cells U]⟩ { tmps:=us.toArray++M4 (fn.ntmps - us.toArray.size) undef,defers:=[] } w:=by
  refine⟨⟨λk o h=>?_,λk h=>?_,λk k' o o' h h' A0=>?_,λk o j h hx=>?_,hS,λk o h _ hF=>hF.2 rfl,λb j h=>.inl h,λb j h=>h,.FR (Ay.refl w),Ext.refl _ _⟩,?_,Marks.nil _ _⟩;match k,h with
  | 0,h =>
    cases h;exact⟨rfl,rfl,rfl,vs,FF,rfl,Fh⟩
  | k+1,h=>simp at h
  have:k=0:=h;subst this;exact⟨_,rfl⟩;match k,k',h,h' with
  | 0,0,_,_=>exact absurd rfl A0
  | 0,k'+1,_,h'=>simp at h'
  | k+1,_,h,_=>simp at h
  match k,h with
  | 0,h=>cases h;exact PO j hx.2
  | k+1,h=>simp at h
  simp only[Pq,T8];have hl:us.toArray.size=G args:=by simpa using B7.len
  rw[hl];exact B7.append (SQ _ _ _ _)
 refine wpIn_mono (h 0 S B _ _ w (BN _) hA) λe a' w' ⟨x,s,Au,hK⟩=>?_
 have A1 : ∀ {R:Ending->World->Prop},(∀u w' S' Bz,KB (λk=>k=b) w w'->Ar S S' w w'->(∀z j,S' z j->S z j\/(w.heap.size<=z/\z<w'.heap.size)\/(z=b/\vs.size<=j))->w'.heap[b]?=J (.cells Bz ty (0,0))->Bz.size=vs.size->AO (Cx.one S' b vs.size) w' M Bz.toList->CV (Cx.bare S') w' res u->R (.returned u) w')->
  (DV P s fn.results.toList=J res/\s.h[0]?=J (.box ty M U)/\V.Dj 0 M=J M)->LeavesInM Cg 0 P fn a'.tmps R a'.defers .returning w':=by
  rintro R hR ⟨hr,h0,A2⟩;obtain⟨Ds,e,h1,h2⟩:=Au.df;rw[e];refine kS hr Ds w' h1 h2 Au.good Au.tm λw2 u g hu=>?_
  have Lu:=g.ext.loc 0 rfl;have q:x.loc 0=⟨b,vs.size,U,0,U⟩:=by
   rcases Lu.2 with e|e
   exact e.symm;cases e.1
  obtain⟨_,_,_,Bz,k3,k4,k5⟩:=g.ok 0 _ h0;rw[q]at k3 k4;refine hR u w2 x.S Bz ⟨g.keep.os,g.keep.tape,g.keep.output,g.keep.size,λk hk A0=>g.keep.block k hk λhn=>hn ⟨hk,A0⟩⟩ ⟨g.sub,λz j v hs hc=>g.ext.ar.cell z j v hs hc⟩ (λz j hs=>?_) k3 k4 (by have:=Qn (n:=vs.size) _ _ _ A2 k5;rwa [q]at this) hu;rcases g.new z j hs with hq|hq
  exact .inl hq;by_cases e:z=b;subst e;by_cases hj:j<vs.size;exact absurd (by rw[q];exact hs) (g.EA 0 _ j h0 ⟨rfl,by rw[q];exact hj⟩);exact .inr (.inr ⟨rfl,by omega⟩);exact .inr (.inl ⟨Hq λA3=>hq ⟨A3,e⟩,g.ex z j hs⟩)
 cases e with
 | normal=>exact A1 (λu w' S' Bz h1 h2 h3 h4 h5 h6 h7=>⟨u,S',Bz,rfl,h1,h2,h3,h4,h5,h6,h7⟩) hK
 | ret=>exact A1 (λu w' S' Bz h1 h2 h3 h4 h5 h6 h7=>⟨u,S',Bz,rfl,h1,h2,h3,h4,h5,h6,h7⟩) hK
 | _=>exact hK.elim
end
section
variable {P:Program} {ops:List Oper} {K:List Ef->St->Prop}
theorem TW.V9 {q:List Ef}{f:FuncId}{args Bd:List V}{cells B cs cs':List V}(K9:AY P f Bd ty cells B res)(hf:P.funcs[f]?=J fn)(hb:fn.body.isSome=I)(hn:(fn.name == "runtime.NumGoroutine")=U)(hg:BQ ops s.t o.guard=J I)(M:C7 (ev s.t) o.op=J (f,args))(hp:V.Dj k args=J Bd)(hk:s.h[k]?=J (.box ty cs U))(A5:V.Dj k cs=J cells)(jg:V.Dj k cs'=J B)(R5:V.Pn cs'=I)(h:TW P ops K r (q++[⟨res,J (k,.box ty cs' U),J k⟩]) (s.step o.dst res (J (k,.box ty cs' U)))):TW P ops K (o::r) q s:=by
 obtain⟨es,s2,h2,h3⟩:=h;refine⟨⟨res,J (k,.box ty cs' U),J k⟩::es,s2,⟨_,es,F,?_,(λk' ob e=>by cases e;exact LZ (Br.1 hk).1),h2⟩,by simpa using h3⟩;intro S0 w0 x w a H g hl hr _ Q next EH;rw[QF hl hg];show o.wp P a w next Q;have A2:=QR hl;have QH:H k=J (.box ty cs U):=(hr k (.inl F)).trans hk;unfold C7 at M;split at M
 case h_2=>cases M
 rename_i fo z Fk ho;split at M
 case h_2=>cases M
 rename_i f' A0 FG;simp only[BL,Cr]at M;obtain⟨rfl,rfl⟩:=M;have R:=Pp (A2 fo (by simp[ho,Bl,Df]));rw[FG]at R;simp only[CV]at R;obtain⟨Dl,R,EP⟩:=R;have Hw:AO x w (z.toList.map (ev s.t)++A0) (z.toList.map a.eval++Dl.toList):=(AO.of_map λy hy=>A2 y (by simp[ho,Bl,Df];exact .inr (by simpa using hy))).append EP;obtain⟨hd,b1,b2,vs,b3,b4,b5⟩:=g.ok k _ QH;have Fh:=Qn (n:=vs.size) _ _ _ A5 b5;have PO : ∀j,j<vs.size->¬x.S (x.loc k).b j:=λj hj=>g.EA k _ j QH ⟨rfl,by omega⟩
 have Co:=K9 x.S w _ (x.loc k).b vs g.ex PO b3 Fh (Qn _ _ _ hp Hw);have CT:fn.body≠none:=by intro e;rw[e]at hb;cases hb
 have F6:fn.name≠ "runtime.NumGoroutine":=by simpa using hn
 have A3:(execOp a.eval o).run P w=.ok (.enter f' (z.toList.map a.eval++Dl.toList).toArray) w:=by
  have e1:(z.map a.eval++Dl)=(z.toList.map a.eval++Dl.toList).toArray:=by apply Gx.1;simp
  simp[execOp,ho,resolve,R,M5,invoke,callFunc,program,HW,hf,F6,CT,e1]
 unfold Er;rw[A3];refine Co.mono ?_;rintro r' w' ⟨u,S',Bz,rfl,A1,CZ,Gc,h1,h2,h3,h4⟩;have A6:=(g.ok k _ QH).2.lt b2;have he:Ext x { x with S:=S' } w w':=⟨CZ,λ_ h=>h,λ_ _=>FM.refl _⟩
 have g':=g.H5 (x':={ x with S:=S' }) k (.box ty cs' U) he (A1.wide λb e=>⟨hd,b2,e.symm⟩) (λi=>⟨.inl,λh=>h.elim id λe=>e ▸ hd⟩) (λ_ _=>rfl) (λ_=>.inl ⟨hd,b2,rfl⟩)
  ⟨b1,b2,Bz,h1,by rw[h2,b4],Zo (x:={ x with S:=S' }) hd b1 rfl _ _ _ R5 jg h3⟩ (λb j hs=>(Gc b j hs).imp id λh=>h.elim (λh=>⟨h.2,.inl h.1,λe=>by have:(x.loc k).b=b:=e;omega⟩) (λh=>⟨by rw[h.1];exact H7 A6 A1.size,.inr ⟨hd,b2,h.1.symm⟩,λ_ hx=>by have h5:j<(x.loc k).n:=hx.2;have h6:=h.2;omega⟩)) (λj hx=>g.EA k _ j QH hx)
 exact EH u _ w' g' he (CV.mono (Ub S' x w') _ _ h4)
end
theorem UZ {K:List Ef->St->Prop}{B:List Ef}(h:K B s):Ie P ops K [] B s:=h
section
variable {P:Program} {ops:List Oper} {K:St->Prop}
def AK (P:Program)(ops:List Oper)(K:St->Prop)(l:List Oper)(ks:List (Option Nat×Option Nat))(s:St):Prop:=∀acc:List Ef,acc.map Ef.ks=ks->Ie P ops (λes s'=>Lk ops (es.map Ef.ks)=I/\K s') l acc s
theorem AW.AO9 {id:Nat}{K:Exit->St->Prop}(M:P.follows .mixedOrders=I)(B:m.rd=E\/Pb ops=I)(h:AK P ops (K .normal) ops [] s):AW m P (.region id ops.toArray I) K s:=AW.draw M B (h [] F)
theorem ANJ {ks:List (Option Nat×Option Nat)}(M:Lk ops ks=I)(h:K s):AK P ops K [] ks s:=λB e=>by unfold Ie;rw[e];exact⟨M,h⟩
theorem ANH {ks:List (Option Nat×Option Nat)}{f:FuncId}(B:AC P f Bd res)(S:P.funcs[f]?=J fn)(hb:fn.body.isSome=I)(z:(fn.name == "runtime.NumGoroutine")=U)(q:BQ ops s.t o.guard=J I)(R:Ee (ev s.t) o.op=J (f,Bd))(h:AK P ops K r (ks++[(E,E)]) (s.step o.dst res E)):AK P ops K (o::r) ks s:=λM e=>Xz B S hb z q R (h _ (by rw[Fm,e];rfl))
end
theorem dc {F:Prop}{K:St->Prop}{ks:List (Option Nat×Option Nat)}{s s':St}{g:FuncId}(f:F)(C9:AC P g args res)(hf:P.funcs[g]?=some fn)(h:AK P ops K r (ks++[(none,none)]) s')(hb:fn.body.isSome=true:=by kernel_rfl)(hn:(fn.name == "runtime.NumGoroutine")=false:=by kernel_rfl)(hg:F->BQ ops s.t o.guard=some true:=by intro f;(simp[BQ,f];done))(hc:F->Ee (ev s.t) o.op=some (g,args):=by intro f;(simp[Ee,f];done))(hs:s.step o.dst res none=s':=by simp[St.step,St.put,Bk];exact rfl):AK P ops K (o::r) ks s:=ANH C9 hf hb hn (hg f) (hc f) (hs ▸ h)
theorem gn {F p q:Prop}(f:F)(h:q)(k:F->q->p:=by
 intro f h;repeat (first
  | (with_reducible first|refine AW.seq ?_|refine AW.block ?_|refine G3 ?_|refine MV ?_|refine AW.ret ?_|refine S7 ?_|refine S4 ?_|refine Kz ?_|refine AW.skip ?_|refine AW.exit ?_|refine S6 ?_|refine RN ?_|refine AW.label ?_|refine AW.scope ?_|refine UY ?_|refine S5 ?_|refine UX ?_)
  | ((with_reducible refine AW.region ?_);with_reducible refine If (by simp[List.replicate_succ,f];first|exact rfl|exact⟨rfl,rfl⟩) ?_)
  | ((with_reducible refine S3 ?_ ?_);focus decide)
  | ((with_reducible refine xE ?_ ?_);focus (simp[ev,f];done))
  | ((with_reducible refine xD ?_ ?_);focus (simp[ev,f];done)))
 exact h):p:=k f h
def LL (P:Program)(ds:List (Option Nat)):Nat->Bool->List Oper->St->Option (List Oper×St)
 | _,I,[],_=>E
 | _,U,[],s=>J ([],s)
 | 0,_,l,s=>J (l,s)
 | n+1,I,o::r,s=>match QE ds s.t o.guard with
   | some I=>match Ka o.op with
     | false=>match Qw P o s with
       | some s'=>LL P ds n U r s'
       | none=>E
     | true=>E
   | some U=>LL P ds n U r (s.put o.dst (.A7 []))
   | none=>E
 | n+1,U,o::r,s=>match o.guard with
   | some _=>J (o::r,s)
   | none=>match Ka o.op with
     | false=>match Qw P o s with
       | some s'=>LL P ds n U r s'
       | none=>E
     | true=>J (o::r,s)
section
variable {P:Program} {K:St->Prop} {ops:List Oper}
theorem oY {ds:List (Option Nat)}(hd:ops.map (·.dst)=ds):∀(n:Nat) (b:Bool) {l S:List Oper} {s s':St},LL P ds n b l s=J (S,s')->Eg P ops K S s'->Eg P ops K l s
 | n,I,[],S,s,s',h,B=>by simp[LL]at h
 | n,U,[],S,s,s',h,B=>by simp only[LL,BL,Cr]at h;obtain⟨rfl,rfl⟩:=h;exact B
 | 0,b,o::r,S,s,s',h,B=>by simp only[LL,BL,Cr]at h;obtain⟨rfl,rfl⟩:=h;exact B
 | n+1,I,o::r,S,s,s',h,B=>by
   subst hd;unfold LL at h;rw[jG]at h;split at h;rename_i q;split at h;rename_i z;split at h;rename_i s1 M;have ih:=oY rfl n _ h B;unfold Qw at M;split at M;rename_i v t R;cases M;unfold Eg;refine IF q ?_;unfold RP;rw[YC z];simp only;rw[R];exact ih;cases M;cases h;cases h;rename_i q;unfold Eg;exact X8 q (oY rfl n _ h B);cases h
 | n+1,U,o::r,S,s,s',h,B=>by
   subst hd;unfold LL at h;split at h;simp only[BL,Cr]at h;obtain⟨rfl,rfl⟩:=h;exact B;rename_i Ro;have q:BQ ops s.t o.guard=J true:=by rw[Ro];rfl
   split at h;rename_i z;split at h;rename_i s1 M;have ih:=oY rfl n _ h B;unfold Qw at M;split at M;rename_i v t R;cases M;unfold Eg;refine IF q ?_;unfold RP;rw[YC z];simp only;rw[R];exact ih;cases M;cases h;simp only[BL,Cr]at h;obtain⟨rfl,rfl⟩:=h;exact B
end
def SX (P:Program)(ds:List (Option Nat)):Nat->Bool->List Oper->List (Option Nat×Option Nat)->St->Option (List Oper×List (Option Nat×Option Nat)×St)
 | _,I,[],_,_=>E
 | _,U,[],ks,s=>J ([],ks,s)
 | 0,_,l,ks,s=>J (l,ks,s)
 | n+1,I,o::r,ks,s=>match QE ds s.t o.guard with
   | some I=>match Ka o.op with
     | false=>match Qv P o s with
       | some (e,s')=>SX P ds n U r (ks++[e.ks]) s'
       | none=>E
     | true=>E
   | some U=>SX P ds n U r (ks++[(E,E)]) (s.put o.dst (.A7 []))
   | none=>E
 | n+1,U,o::r,ks,s=>match o.guard with
   | some _=>J (o::r,ks,s)
   | none=>match Ka o.op with
     | false=>match Qv P o s with
       | some (e,s')=>SX P ds n U r (ks++[e.ks]) s'
       | none=>E
     | true=>J (o::r,ks,s)
section
variable {P:Program} {K:St->Prop} {ops:List Oper}
theorem ADu {ks:List (Option Nat×Option Nat)}{s R:St}{e:Ef}(hg:BQ ops s.t o.guard=J I)(z:Ka o.op=U)(B:Qv P o s=J (e,R))(ih:AK P ops K r (ks++[e.ks]) R):AK P ops K (o::r) ks s:=λq S=>by
 unfold Qv at B;split at B;rename_i v t M;simp only[BL,Cr]at B;obtain⟨rfl,rfl⟩:=B;unfold Ie;refine IF hg ?_;unfold iN;rw[YC z];simp only;rw[M];exact ih _ (by rw[Fm,S];rfl);cases B
theorem ANL {ks:List (Option Nat×Option Nat)}(R:BQ ops s.t o.guard=J U)(ih:AK P ops K r (ks++[(E,E)]) (s.put o.dst (.A7 []))):AK P ops K (o::r) ks s:=λM B=>by
 unfold Ie;exact X8 R (ih _ (by rw[Fm,B];rfl))
theorem oS {ds:List (Option Nat)}(hd:ops.map (·.dst)=ds):∀(n:Nat) (b:Bool) {l R:List Oper} {ks M:List (Option Nat×Option Nat)} {s s':St},SX P ds n b l ks s=J (R,M,s')->AK P ops K R M s'->AK P ops K l ks s
 | n,I,[],R,ks,M,s,s',h,B=>by simp[SX]at h
 | n,U,[],R,ks,M,s,s',h,B=>by simp only[SX,BL,Cr]at h;obtain⟨rfl,rfl,rfl⟩:=h;exact B
 | 0,b,o::r,R,ks,M,s,s',h,B=>by simp only[SX,BL,Cr]at h;obtain⟨rfl,rfl,rfl⟩:=h;exact B
 | n+1,I,o::r,R,ks,M,s,s',h,B=>by
   subst hd;unfold SX at h;rw[jG]at h;split at h;rename_i S;split at h;rename_i q;split at h;rename_i e s1 z;exact ADu S q z (oS rfl n _ h B);cases h;cases h;rename_i S;exact ANL S (oS rfl n _ h B);cases h
 | n+1,U,o::r,R,ks,M,s,s',h,B=>by
   subst hd;unfold SX at h;split at h;simp only[BL,Cr]at h;obtain⟨rfl,rfl,rfl⟩:=h;exact B;rename_i Ro;have S:BQ ops s.t o.guard=J true:=by rw[Ro];rfl
   split at h;rename_i q;split at h;rename_i e s1 z;exact ADu S q z (oS rfl n _ h B);cases h;simp only[BL,Cr]at h;obtain⟨rfl,rfl,rfl⟩:=h;exact B
def Fp (P:Program)(f:FuncId):Bool:=match P.funcs[f]? with
 | some fn=>fn.body.isSome && !(fn.name == "runtime.NumGoroutine")
 | none=>U
theorem P7 {f:FuncId}(h:Fp P f=I):∃fn,P.funcs[f]?=J fn/\fn.body.isSome=I/\(fn.name == "runtime.NumGoroutine")=false:=by
 unfold Fp at h;split at h;rename_i fn B;simp only[Ak,Bool.not_eq_true']at h;exact⟨fn,B,h.1,h.2⟩;cases h
theorem ADy {f:FuncId}(M:AC P f Bd res)(B:Fp P f=I)(hg:BQ ops s.t o.guard=J I)(z:Ee (ev s.t) o.op=J (f,Bd))(h:Eg P ops K r (s.step o.dst res E)):Eg P ops K (o::r) s:=
 let ⟨_,R,S,q⟩:=P7 B
 oX M R S q hg z h
theorem ANI {ks:List (Option Nat×Option Nat)}{f:FuncId}(M:AC P f Bd res)(B:Fp P f=I)(hg:BQ ops s.t o.guard=J I)(z:Ee (ev s.t) o.op=J (f,Bd))(h:AK P ops K r (ks++[(E,E)]) (s.step o.dst res E)):AK P ops K (o::r) ks s:=
 let ⟨_,R,S,q⟩:=P7 B
 ANH M R S q hg z h
theorem ABk {l:List α}{d:Nat}{v B:α}(h:l.getD d B=v)(M:d<G l):l.set d v=l:=by
 have e:l[d]=v:=by
  rw[Bv,BE M]at h;simpa using h
 rw[<-e];exact List.set_getElem_self M
theorem AY8 {d:Nat}{b M:Bool}(B:s.t.getD d .any=.c (.bool b))(e:b=M):(⟨s.t.set d (.c (.bool M)),s.h⟩:St)=s:=by
 subst e;have R:d<G s.t:=Kn λh=>by
  rw[Bv,M6 (by omega)]at B;cases B
 rw[ABk B R]
end
def AJt (l:List Oper):List (List Nat):=l.foldl (λacc o=>acc++[((GL o).flatMap λj=>j::acc.getD j []).eraseDups]) []
theorem AFw (l:List α)(x d:α)(i:Nat):(l++[x]).getD i d=if i=G l then x else l.getD i d:=by
 simp only[Bv];rcases Nat.lt_trichotomy i (G l) with h|h|h
 rw[List.getElem?_append_left h,if_neg (by omega)];subst h;simp;rw[M6 (by simp;omega),M6 (by omega),if_neg (by omega)]
theorem AJu : ∀(l:List Oper) (A B:List (List Nat)),G A=G B->(∀i j,j∈A.getD i []↔j∈B.getD i [])->∀i j,j∈(l.foldl (λM o=>M++[(GL o).flatMap λj=>j::M.getD j []]) A).getD i []↔j∈(l.foldl (λM o=>M++[((GL o).flatMap λj=>j::M.getD j []).eraseDups]) B).getD i []
 | [],_,_,_,h=>h
 | o::l,A,B,R,h=>by
   simp only[List.foldl_cons];refine AJu l _ _ (by simp[R]) λi j=>?_
   rw[AFw,AFw,R];split;simp only[List.mem_eraseDups,List.mem_flatMap,List.mem_cons,h];exact h i j
theorem AOa {l:List Oper}{ks:Ks}{T U:List (List Nat)}(h : ∀i j,j∈T.getD i []↔j∈U.getD i [])(i:Nat):WB l ks T i=WB l ks U i:=by
 have M:(T.getD i []).all (λj=>decide (j<i))=(U.getD i []).all (λj=>decide (j<i)):=by
  rw[Oj,ES,ES];exact⟨λk j B=>k j ((h i j).2 B),λk j B=>k j ((h i j).1 B)⟩
 have R : ∀j,(T.getD i []).contains j=(U.getD i []).contains j:=λj=>by
  rw[Oj,mR,mR];exact h i j
 unfold WB;simp only[M,R]
def pQ (l:List Oper)(ks:Ks):Bool:=(List.range (G l)).all (WB l ks (AJt l))
theorem bl {l:List Oper}{ks:Ks}(h:pQ l ks=I):Lk l ks=true:=by
 unfold pQ at h;unfold Lk;have e:WB l ks (eI l)=WB l ks (AJt l):=funext λi=>AOa (AJu l [] [] rfl λ_ _=>Iff.rfl) i
 rw[e];exact h
theorem ANK {K:St->Prop}{ks:List (Option Nat×Option Nat)}(B:pQ ops ks=I)(h:K s):AK P ops K [] ks s:=ANJ (bl B) h
structure AH (P:Program)(ops:List Oper)(K:St->Prop)(l:List Oper)(s:St):Prop where
 out:Eg P ops K l s
structure AJ (P:Program)(ops:List Oper)(K:St->Prop)(l:List Oper)(ks:List (Option Nat×Option Nat))(s:St):Prop where
 out:AK P ops K l ks s
section
variable {P:Program} {ops:List Oper}
theorem AH.I2 {id:Nat}(h:AH P ops (K .normal) ops s):AW m P (.region id ops.toArray U) K s:=AW.region h.out
theorem AH.done {K:St->Prop}(h:K s):AH P ops K [] s:=⟨h⟩
theorem AH.h {K:St->Prop}{B:List (Option Nat)}(R:ops.map (·.dst)=B)(n:Nat)(b:Bool){l M:List Oper}{s s':St}(S:LL P B n b l s=J (M,s'))(h:AH P ops K M s'):AH P ops K l s:=⟨oY R n b S h.out⟩
theorem AH.c2 {K:St->Prop}{f:FuncId}(M:AC P f Bd res)(B:Fp P f=I)(S:BQ ops s.t o.guard=J I)(R:Ee (ev s.t) o.op=J (f,Bd))(h:AH P ops K r (s.step o.dst res E)):AH P ops K (o::r) s:=⟨ADy M B S R h.out⟩
theorem AJ.I2 {id:Nat}(M:P.follows .mixedOrders=I)(B:m.rd=E\/Pb ops=I)(h:AJ P ops (K .normal) ops [] s):AW m P (.region id ops.toArray I) K s:=AW.AO9 M B h.out
theorem AJ.done {K:St->Prop}{ks:List (Option Nat×Option Nat)}(B:pQ ops ks=I)(h:K s):AJ P ops K [] ks s:=⟨ANK B h⟩
theorem AJ.h {K:St->Prop}{M:List (Option Nat)}(S:ops.map (·.dst)=M)(n:Nat)(b:Bool){l R:List Oper}{ks B:List (Option Nat×Option Nat)}{s s':St}(q:SX P M n b l ks s=J (R,B,s'))(h:AJ P ops K R B s'):AJ P ops K l ks s:=⟨oS S n b q h.out⟩
theorem AJ.c2 {K:St->Prop}{ks:List (Option Nat×Option Nat)}{f:FuncId}(M:AC P f Bd res)(B:Fp P f=I)(S:BQ ops s.t o.guard=J I)(R:Ee (ev s.t) o.op=J (f,Bd))(h:AJ P ops K r (ks++[(E,E)]) (s.step o.dst res E)):AJ P ops K (o::r) ks s:=⟨ANI M B S R h.out⟩
end
theorem Eo {p q:Prop}(h:q)(k:q->p:=by
 intro h;(with_reducible first|refine AW.seq ?_|refine AW.block ?_|refine G3 ?_|refine MV ?_|refine AW.ret ?_|refine S7 ?_|refine S4 ?_|refine AH.done ?_|refine AW.skip ?_|refine AW.exit ?_|refine S6 ?_|refine RN ?_|refine AW.label ?_|refine AW.scope ?_|refine UY ?_|refine S5 ?_|refine UX ?_|refine AH.I2 ?_|refine AJ.I2 Fz (.inl rfl) ?_|refine AJ.I2 Fz (.inr (by decide)) ?_|refine AJ.done (by kernel_rfl) ?_|refine S3 (by decide) ?_)
 repeat (with_reducible first|refine AW.seq ?_|refine AW.block ?_|refine G3 ?_|refine MV ?_|refine AW.ret ?_|refine S7 ?_|refine S4 ?_|refine AH.done ?_|refine AW.skip ?_|refine AW.exit ?_|refine S6 ?_|refine RN ?_|refine AW.label ?_|refine AW.scope ?_|refine UY ?_|refine S5 ?_|refine UX ?_|refine AH.I2 ?_|refine AJ.I2 Fz (.inl rfl) ?_|refine AJ.I2 Fz (.inr (by decide)) ?_|refine AJ.done (by kernel_rfl) ?_|refine S3 (by decide) ?_)
 with_reducible exact h):p:=k h
theorem AH.Pj {id:Nat}(_:KQ n)(_:Nat.beq id n=U)(h:AH P ops (K .normal) ops s):AW m P (.region id ops.toArray U) K s:=AH.I2 h
theorem AJ.Pj {id:Nat}(_:KQ n)(_:Nat.beq id n=U)(M:P.follows .mixedOrders=I)(B:m.rd=E\/Pb ops=I)(h:AJ P ops (K .normal) ops [] s):AW m P (.region id ops.toArray I) K s:=AJ.I2 M B h
theorem Qu {p q:Prop}(m:KQ n)(h:q)(k:KQ n->q->p:=by
 intro m h;(with_reducible first|refine AW.seq ?_|refine AW.block ?_|refine G3 ?_|refine MV ?_|refine AW.ret ?_|refine S7 ?_|refine S4 ?_|refine AH.done ?_|refine AW.skip ?_|refine AW.exit ?_|refine S6 ?_|refine RN ?_|refine AW.label ?_|refine AW.scope ?_|refine UY ?_|refine S5 ?_|refine UX ?_|refine AH.Pj m rfl ?_|refine AJ.Pj m rfl Fz (.inl rfl) ?_|refine AJ.Pj m rfl Fz (.inr (by decide)) ?_|refine AJ.done (by kernel_rfl) ?_|refine S3 (by decide) ?_)
 repeat (with_reducible first|refine AW.seq ?_|refine AW.block ?_|refine G3 ?_|refine MV ?_|refine AW.ret ?_|refine S7 ?_|refine S4 ?_|refine AH.done ?_|refine AW.skip ?_|refine AW.exit ?_|refine S6 ?_|refine RN ?_|refine AW.label ?_|refine AW.scope ?_|refine UY ?_|refine S5 ?_|refine UX ?_|refine AH.Pj m rfl ?_|refine AJ.Pj m rfl Fz (.inl rfl) ?_|refine AJ.Pj m rfl Fz (.inr (by decide)) ?_|refine AJ.done (by kernel_rfl) ?_|refine S3 (by decide) ?_)
 with_reducible exact h):p:=k m h
theorem De {F p q:Prop}(f:F)(h:q)(k:F->q->p:=by
 intro f h;first
 | (with_reducible refine AH.h (by simp only[List.append_eq,List.cons_append,List.nil_append,List.map_cons,List.map_nil];exact rfl) 4 true (by as_aux_lemma=>(simp (disch:=first|assumption|(simp<;>fail)|omega) [LL,QE,wrap_i64,if_pos,if_neg,List.replicate_succ,f];first|exact rfl|exact⟨rfl,rfl⟩)) ?_)
 | (with_reducible refine AJ.h (by simp only[List.append_eq,List.cons_append,List.nil_append,List.map_cons,List.map_nil];exact rfl) 4 true (by as_aux_lemma=>(simp (disch:=first|assumption|(simp<;>fail)|omega) [SX,QE,Ef.ks,wrap_i64,if_pos,if_neg,List.replicate_succ,f];first|exact rfl|exact⟨rfl,rfl,rfl⟩)) ?_)
 with_reducible exact h):p:=k f h
theorem BV {F p q:Prop}{g:FuncId}(f:F)(C9:AC P g args res)(h:q)(k:F->AC P g args res->q->p:=by
 intro f c h;(with_reducible first|refine AH.c2 c (by first|(simp only[f];done)|kernel_rfl) ?_ ?_ ?_|refine AJ.c2 c (by first|(simp only[f];done)|kernel_rfl) ?_ ?_ ?_)
 focus (simp[BQ,f]<;>fail)
 focus (simp (disch:=first|assumption|(simp<;>fail)|omega) [Ee,wrap_i64,f]<;>fail)
 (simp only[St.step,St.put,Bk];with_reducible exact h)):p:=k f C9 h
theorem Bt {F p:Prop}(f:F)(k:F->p:=by
 intro f;with_reducible show iK _ _ _ _ _
 simp (disch:=first|assumption|(simp<;>fail)|omega) [iK,DV,C0,DE,V.CP,V.CF,CJ,wrap_i64, *]<;>fail):p:=k f
theorem DI {F p q:Prop}(f:F)(h:q)(k:F->q->p:=by
 intro f h;first
 | ((with_reducible refine xE ?_ ?_);focus (simp[ev,f];done))
 | ((with_reducible refine xD ?_ ?_);focus (simp[ev,f];done))
 with_reducible exact h):p:=k f h
def D6 (_:Bool):Prop:=True
theorem D6.t:D6 true:=W
theorem D6.f:D6 false:=W
theorem D6.mk (b:Bool):D6 b:=W
theorem pS {c:Operand}{d B:Code}(R:ev s.t c=v)(hb:v=.c (.bool b))(S:D6 b)(h:b=I->AW m P d K s)(M:b=U->AW m P B K s):AW m P (.cond c d B) K s:=AW.cond (by rw[R,hb];exact⟨h,M⟩)
def N8 (ops:List Oper)(t:List V):Option (Nat×Bool)->V
 | none=>.any
 | some (j,_)=>match (ops[j]?).bind (·.dst)with
   | some d=>t.getD d .any
   | none=>.any
def Hn (ops:List Oper)(t:List V)(b:Bool):Option (Nat×Bool)->List V
 | none=>t
 | some (j,_)=>match (ops[j]?).bind (·.dst)with
   | some d=>t.set d (.c (.bool b))
   | none=>t
theorem sx {g:Option (Nat×Bool)}{b M:Bool}(B:N8 ops s.t g=v)(hb:v=.c (.bool b))(e:b=M):(⟨Hn ops s.t M g,s.h⟩:St)=s:=by
 subst hb;unfold N8 at B;unfold Hn;cases g with
 | none=>rfl
 | some p =>
   obtain⟨j,w⟩:=p;simp only at B ⊢;cases R:(ops[j]?).bind (·.dst)with
   | none=>rfl
   | some d=>rw[R]at B;exact AY8 B e
theorem ANS {K:St->Prop}{t1 t2:List V}(B:N8 ops s.t o.guard=v)(hb:v=.c (.bool b))(z:D6 b)(M:Hn ops s.t I o.guard=t1)(R:Hn ops s.t U o.guard=t2)(S:b=I->Eg P ops K (o::r) ⟨t1,s.h⟩)(q:b=U->Eg P ops K (o::r) ⟨t2,s.h⟩):Eg P ops K (o::r) s:=by
 subst M R;cases e:b with
 | true=>have:=S e;rwa [sx B hb e]at this
 | false=>have:=q e;rwa [sx B hb e]at this
theorem AH.VY {K:St->Prop}{t1 t2:List V}(z:N8 ops s.t o.guard=v)(hb:v=.c (.bool b))(q:D6 b)(B:Hn ops s.t I o.guard=t1)(M:Hn ops s.t U o.guard=t2)(R:b=I->AH P ops K (o::r) ⟨t1,s.h⟩)(S:b=U->AH P ops K (o::r) ⟨t2,s.h⟩):AH P ops K (o::r) s:=⟨ANS z hb q B M (λe=>(R e).out) (λe=>(S e).out)⟩
theorem ANM {K:St->Prop}{ks:List (Option Nat×Option Nat)}{t1 t2:List V}(B:N8 ops s.t o.guard=v)(hb:v=.c (.bool b))(z:D6 b)(M:Hn ops s.t I o.guard=t1)(R:Hn ops s.t U o.guard=t2)(S:b=I->AK P ops K (o::r) ks ⟨t1,s.h⟩)(q:b=U->AK P ops K (o::r) ks ⟨t2,s.h⟩):AK P ops K (o::r) ks s:=by
 subst M R;cases e:b with
 | true=>have:=S e;rwa [sx B hb e]at this
 | false=>have:=q e;rwa [sx B hb e]at this
theorem AJ.VY {K:St->Prop}{ks:List (Option Nat×Option Nat)}{t1 t2:List V}(z:N8 ops s.t o.guard=v)(hb:v=.c (.bool b))(q:D6 b)(B:Hn ops s.t I o.guard=t1)(M:Hn ops s.t U o.guard=t2)(R:b=I->AJ P ops K (o::r) ks ⟨t1,s.h⟩)(S:b=U->AJ P ops K (o::r) ks ⟨t2,s.h⟩):AJ P ops K (o::r) ks s:=⟨ANM z hb q B M (λe=>(R e).out) (λe=>(S e).out)⟩
theorem JY {F p q q':Prop}(f:F)(h1:b=true->q)(h2:b=false->q')(k:F->(b=true->q)->(b=false->q')->p:=by
 intro f h1 h2;first
 | (with_reducible refine pS (by simp[ev,f];exact rfl) (by with_reducible exact rfl) (by(fail_if_success with_reducible exact D6.t);(fail_if_success with_reducible exact D6.f);exact D6.mk _) h1 h2)
 | (with_reducible refine AH.VY (by simp[N8,f];exact rfl) (by with_reducible exact rfl) (by(fail_if_success with_reducible exact D6.t);(fail_if_success with_reducible exact D6.f);exact D6.mk _) (by simp[Hn];exact rfl) (by simp[Hn];exact rfl) h1 h2)
 | (with_reducible refine AJ.VY (by simp[N8,f];exact rfl) (by with_reducible exact rfl) (by(fail_if_success with_reducible exact D6.t);(fail_if_success with_reducible exact D6.f);exact D6.mk _) (by simp[Hn];exact rfl) (by simp[Hn];exact rfl) h1 h2)):p:=k f h1 h2
theorem JC {F p q q' c:Prop}[Decidable c](f:F)(h1:c->q)(h2 : ¬c->q')(k:F->(decide c=true->q)->(decide c=false->q')->p:=by
 intro f h1 h2;first
 | (with_reducible refine pS (by simp[ev,f];exact rfl) (by with_reducible exact rfl) (by(fail_if_success with_reducible exact D6.t);(fail_if_success with_reducible exact D6.f);exact D6.mk _) h1 h2)
 | (with_reducible refine AH.VY (by simp[N8,f];exact rfl) (by with_reducible exact rfl) (by(fail_if_success with_reducible exact D6.t);(fail_if_success with_reducible exact D6.f);exact D6.mk _) (by simp[Hn];exact rfl) (by simp[Hn];exact rfl) h1 h2)
 | (with_reducible refine AJ.VY (by simp[N8,f];exact rfl) (by with_reducible exact rfl) (by(fail_if_success with_reducible exact D6.t);(fail_if_success with_reducible exact D6.f);exact D6.mk _) (by simp[Hn];exact rfl) (by simp[Hn];exact rfl) h1 h2)):p:=k f (λh=>h1 (of_decide_eq_true h)) λh=>h2 (of_decide_eq_false h)
theorem JD {F p q q':Prop}{c:Bool}(f:F)(h1:c=false->q)(h2:c=true->q')(k:F->((!c)=true->q)->((!c)=false->q')->p:=by
 intro f h1 h2;first
 | (with_reducible refine pS (by simp[ev,f];exact rfl) (by with_reducible exact rfl) (by(fail_if_success with_reducible exact D6.t);(fail_if_success with_reducible exact D6.f);exact D6.mk _) h1 h2)
 | (with_reducible refine AH.VY (by simp[N8,f];exact rfl) (by with_reducible exact rfl) (by(fail_if_success with_reducible exact D6.t);(fail_if_success with_reducible exact D6.f);exact D6.mk _) (by simp[Hn];exact rfl) (by simp[Hn];exact rfl) h1 h2)
 | (with_reducible refine AJ.VY (by simp[N8,f];exact rfl) (by with_reducible exact rfl) (by(fail_if_success with_reducible exact D6.t);(fail_if_success with_reducible exact D6.f);exact D6.mk _) (by simp[Hn];exact rfl) (by simp[Hn];exact rfl) h1 h2)):p:=k f (λh=>h1 (by simpa using h)) λh=>h2 (by simpa using h)
theorem JE {F p q q' c:Prop}[Decidable c](f:F)(h1 : ¬c->q)(h2:c->q')(k:F->((!decide c)=true->q)->((!decide c)=false->q')->p:=by
 intro f h1 h2;first
 | (with_reducible refine pS (by simp[ev,f];exact rfl) (by with_reducible exact rfl) (by(fail_if_success with_reducible exact D6.t);(fail_if_success with_reducible exact D6.f);exact D6.mk _) h1 h2)
 | (with_reducible refine AH.VY (by simp[N8,f];exact rfl) (by with_reducible exact rfl) (by(fail_if_success with_reducible exact D6.t);(fail_if_success with_reducible exact D6.f);exact D6.mk _) (by simp[Hn];exact rfl) (by simp[Hn];exact rfl) h1 h2)
 | (with_reducible refine AJ.VY (by simp[N8,f];exact rfl) (by with_reducible exact rfl) (by(fail_if_success with_reducible exact D6.t);(fail_if_success with_reducible exact D6.f);exact D6.mk _) (by simp[Hn];exact rfl) (by simp[Hn];exact rfl) h1 h2)):p:=k f (λh=>h1 (by simpa using h)) λh=>h2 (by simpa using h)
theorem gx {l:List α}{k:Nat}{x:α}(h:l[k]?=J x):∀B:k<G l,l[k]'B=x:=λB=>by rw[BE B]at h;exact ML h
structure Sw (p:Prop):Prop where
 out:p
theorem pK {F C p q:Prop}(f:F)(c:C)(h:q)(k:F->C->q->p:=by
 intro f c h;first
 | (refine BV f c.1 ?_;exact h)
 | (refine BV f c.2.1 ?_;exact h)
 | (refine BV f c.2.2.1 ?_;exact h)
 | (refine BV f c.2.2.2.1 ?_;exact h)
 | (refine BV f c.2.2.2.2.1 ?_;exact h)
 | (refine BV f c.2.2.2.2.2.1 ?_;exact h)
 | (refine BV f c.2.2.2.2.2.2.1 ?_;exact h)
 | (refine BV f c.2.2.2.2.2.2.2.1 ?_;exact h)):p:=k f c h
theorem Du {F C p q:Prop}(f:F)(c:C)(h:Sw q)(k:F->C->Sw q->p:=by
 intro ff cc hh;first|refine Eo ?_|refine De ff ?_|refine pK ff cc ?_|refine DI ff ?_
 with_reducible exact hh.out):p:=k f c h
theorem Dv {F p q q' a b:Prop}(f:F)(h1:a->q)(h2:b->q')(k:F->(a->q)->(b->q')->p:=by
 intro ff h1 h2;first|exact JC ff h1 h2|exact JE ff h1 h2|exact JD ff h1 h2|exact JY ff h1 h2):p:=k f h1 h2
theorem Dw {p:Prop}(h:False:=by first|omega|contradiction):p:=h.elim
theorem wz {F C p:Prop}(f:F)(c:C)(k:F->C->p:=by
 intro ff cc;repeat any_goals (first|refine Eo ?_|exact Bt ff|refine De ff ?_|refine pK ff cc ?_|refine DI ff ?_|((first|refine JC ff ?_ ?_|refine JE ff ?_ ?_|refine JD ff ?_ ?_|refine JY ff ?_ ?_)<;>intro h<;>try (exfalso;first|omega|contradiction)))):p:=k f c
theorem wy {F C p q:Prop}(f:F)(c:C)(h:Sw q)(k:F->C->Sw q->p:=by
 intro ff cc hh;repeat any_goals (first|refine Eo ?_|exact Bt ff|refine De ff ?_|refine pK ff cc ?_|refine DI ff ?_|((first|refine JC ff ?_ ?_|refine JE ff ?_ ?_|refine JD ff ?_ ?_|refine JY ff ?_ ?_)<;>intro h<;>try (exfalso;first|omega|contradiction)))
 with_reducible exact hh.out):p:=k f c h
theorem wu {F C p q:Prop}(m:KQ n)(f:F)(c:C)(h:Sw q)(k:KQ n->F->C->Sw q->p:=by
 intro mm ff cc hh;repeat any_goals (first|refine Qu mm ?_|exact Bt ff|refine De ff ?_|refine pK ff cc ?_|refine DI ff ?_|((first|refine JC ff ?_ ?_|refine JE ff ?_ ?_|refine JD ff ?_ ?_|refine JY ff ?_ ?_)<;>intro h<;>try (exfalso;first|omega|contradiction)))
 with_reducible exact hh.out):p:=k m f c h
section
variable {P:Program} {S0:BF} {w0:Bs} {x x':Cx} {w w':World} {H:Bx} {s:St} {a:Act}
def GJ (P:Program)(s:St)(l:List ResultVar):Option V:=
 match C0 P s l with
 | some [v]=>J v
 | some vs=>J (.A7 vs)
 | none=>E
theorem AD8 (z:Bo S0 w0 x s a w)(h:GJ P s fn.results.toList=J res):∃u,(results fn a.tmps).run P w=.ok u w/\CV x w res u:=by
 unfold GJ at h;cases R:C0 P s fn.results.toList with
 | none=>rw[R]at h;cases h
 | some vs =>
   rw[R]at h;obtain⟨us,hr,B⟩:=wO z R;have q:(results fn a.tmps).run P w=.ok (if h:us.toArray.size=1 then us.toArray[0]else .tuple us.toArray) w:=by
    have e:results fn a.tmps=(fn.results.mapM (lD a.tmps) >>=λvs=>pure (if h:vs.size=1 then vs[0]else .tuple vs)):=F;rw[e,Array.mapM_eq_mapM_toList];simp[hr]
   refine⟨_,q,?_⟩;match vs,h,B with
   | [v],h,B =>
     simp only[AO]at B;obtain⟨u,ur,rfl,S,rfl⟩:=B;cases h;exact S
   | [],h,B =>
     simp only[AO]at B;subst B;cases h;simp only[CV];exact⟨#[],F,by simp only[AO]⟩
   | v::v'::r,h,B =>
     have M:=B.len;rw[dif_neg (by simp[M])];cases h;simp only[CV];exact⟨_,F,B⟩
theorem dR {fn:Func}{R:Ending->World->Prop}{res:V}(hr:GJ P s fn.results.toList=J res){tmps:Array Value} : ∀(B:List Nat) (w:World),B.Nodup->(∀D∈B,¬w0.F D/\w.heap[D]?=J (.deferred (J [])))->Good S0 w0 x w (λk=>s.h[k]?)->AO x w s.t tmps.toList->
 (∀w u,Good S0 w0 x w (λk=>s.h[k]?)->CV x w res u->R (.returned u) w)->LeavesInM Cg 0 P fn tmps R (B.map λD=>{ target:=.collected D,args:=#[] }) .returning w
 | [],w,_,_,g,ht,q=>by
   obtain⟨u,S,M⟩:=AD8 (fn:=fn) (a:={ tmps:=tmps,defers:=[] }) ⟨g,ht,Marks.nil _ _⟩ hr;exact⟨u,S,q w u g M⟩
 | D::B,w,z,hD,g,ht,q=>by
   obtain⟨S,M⟩:=hD D (by simp);have hg:w.grownBy (w.putObj D (.deferred E)) (J D):=grownBy_putObj' w D _;obtain⟨g',he⟩:=g.grown hg λr e=>by cases e;exact⟨S,_,M,F⟩
   rw[Xm]at z;refine⟨by simp,.inl ⟨D,_,rfl,run_takeDeferred M,dR hr B _ z.2 (λD' Fs=>?_) g' (AO.mono he _ _ ht) q⟩⟩;obtain⟨k1,k2⟩:=hD D' (by simp[Fs]);have A0:D'≠D:=λe=>z.1 (by rw[<-e];exact Fs)
   exact⟨k1,by rw[Pz A0];exact k2⟩
def Bs.Zr (w0:Bs)(w:World)(h:w0.w.heap.size<=w.heap.size)(x:Cx)(n0:Nat)(hd : ∀k,x.dom k->k<n0):Bs:=⟨w,(w0.re w h).F,(w0.re w h).lt,x,n0,hd⟩
theorem Good.sY (g:Good S0 w0 x w H)(B:Nat)(M : ∀k,x.dom k->k<B):Good x.S (w0.Zr w g.keep.size x B M) x w H:=
 let r:=g.XR
 ⟨r.ok,r.dom,r.inj,r.EA,r.ex,r.own,r.new,r.sub,r.keep,Ext.refl x w⟩
theorem Good.Z5 {M:Bx}{R:Nat}{q : ∀k,x.dom k->k<R}(g:Good S0 w0 x w H)(B:Good x.S (w0.Zr w g.keep.size x R q) x' w' M):(Good S0 w0 x' w' M/\NC w w')/\Ext x x' w w':=
 ⟨g.Sg (x':=x') B.ext ⟨B.ok,B.dom,B.inj,B.EA,B.ex,B.own,B.new,B.sub,B.keep,Ext.none _ _ _⟩,B.ext⟩
end
inductive Out where
 | ret (v:V)
 | HB (ch:List PanicEntry)
def Lf (x:Cx)(w:World):Out->Ending->Prop
 | .ret v,r=>∃u,r=.returned u/\CV x w v u
 | .HB ch,r=>r=.panicked ch
def AM9 (P:Program)(l:List ResultVar)(n0:Nat)(out:Out)(h':List O):Exit->St->Prop
 | .normal,s=>∃v,out=.ret v/\∃s',Le ⟨E,n0⟩ s s'/\GJ P s' l=J v/\s'.h=h'
 | .ret,s=>∃v,out=.ret v/\∃s',Le ⟨E,n0⟩ s s'/\GJ P s' l=J v/\s'.h=h'
 | .panic ch,s=>out=.HB ch/\∃s',Le ⟨E,n0⟩ s s'/\s'.h=h'
 | _,_=>False
structure HC (P:Program)(f:FuncId)(args:List V)(h:List O)(out:Out)(h':List O):Prop where
 ok:Fp P f=I
 calls : ∀ {S0:BF} {w0:Bs} {x:Cx} {w:World} {us:List Value},Good S0 w0 x w (λk=>h[k]?)->AO x w args us->
  Calls P f us.toArray w λr w'=>∃x',Good S0 w0 x' w' (λk=>h'[k]?)/\Ext x x' w w'/\NC w w'/\Lf x' w' out r
theorem kT {P:Program}{S0:BF}{w0:Bs}{x:Cx}{s:St}{fn:Func}{R:Ending->World->Prop}{ch:List PanicEntry}{tmps:Array Value} : ∀(B:List Nat) (w:World),B.Nodup->(∀D∈B,¬w0.F D/\w.heap[D]?=J (.deferred (J [])))->Good S0 w0 x w (λk=>s.h[k]?)->AO x w s.t tmps.toList->
 (∀w,Good S0 w0 x w (λk=>s.h[k]?)->R (.panicked ch) w)->LeavesInM Cg 0 P fn tmps R (B.map λD=>{ target:=.collected D,args:=#[] }) (.panicking ch) w
 | [],w,_,_,g,ht,M=>M w g
 | D::B,w,S,hD,g,ht,M=>by
   obtain⟨h1,h2⟩:=hD D (by simp);have hg:w.grownBy (w.putObj D (.deferred E)) (J D):=grownBy_putObj' w D _;obtain⟨g',he⟩:=g.grown hg λr e=>by cases e;exact⟨h1,_,h2,F⟩
   rw[Xm]at S;refine⟨by simp,.inl ⟨D,_,rfl,run_takeDeferred h2,kT B _ S.2 (λz Fs=>?_) g' (AO.mono he _ _ ht) M⟩⟩;obtain⟨k1,k2⟩:=hD z (by simp[Fs]);have q:z≠D:=λe=>S.1 (by rw[<-e];exact Fs)
   exact⟨k1,by rw[Pz q];exact k2⟩
theorem HC.intro {f:FuncId}{h h':List O}{out:Out}(hf:P.funcs[f]?=some fn)(hb:fn.body=some c)(Yg:AW ⟨none,h.length⟩ P c (AM9 P fn.results.toList h.length out h') ⟨args++List.replicate (fn.ntmps - args.length) .any,h⟩)(hn:(fn.name == "runtime.NumGoroutine")=false:=by kernel_rfl):HC P f args h out h':=by
 refine⟨by unfold Fp;rw[hf];simp[hb,hn],λ{S0 w0 x w us} g B7=>?_⟩;have hd : ∀k,x.dom k->k<h.length:=λk hk=>by obtain⟨o,ho⟩:=g.dom k hk;exact(List.getElem?_eq_some_iff.1 ho).1
 refine callsIn_wide.1 (callsIn_of_wp_marks (F:=Fence.wide) (n:=0) hf hb trivial ?_);have hA:Bo x.S (w0.Zr w g.keep.size x h.length hd) x ⟨args++List.replicate (fn.ntmps - args.length) .any,h⟩ { tmps:=us.toArray++Array.replicate (fn.ntmps - us.toArray.size) undef,defers:=[] } w:=by
  refine⟨g.sY h.length hd,?_,Marks.nil _ _⟩;simp only[Array.toList_append,Array.toList_replicate];have hl:us.toArray.size=args.length:=by simpa using B7.len
  rw[hl];exact B7.append (SQ _ _ _ _)
 refine wpIn_mono (Yg 0 x.S _ _ _ w (Nat.le_refl _) hA) λe a' w' ⟨x1,s,Au,hK⟩=>?_
 have fin : ∀ {R:Ending->World->Prop},(∀r w' x',Good S0 w0 x' w' (λk=>h'[k]?)->Ext x x' w w'->NC w w'->Lf x' w' out r->R r w')->(∃v,out=.ret v/\∃s',Le ⟨none,h.length⟩ s s'/\GJ P s' fn.results.toList=some v/\s'.h=h')->LeavesInM Fence.wide 0 P fn a'.tmps R a'.defers .returning w':=by
  rintro R hR ⟨v,rfl,s',hle,hr,rfl⟩;obtain⟨x2,Fb⟩:=hle x.S _ x1 a' w' (Nat.le_refl _) Au;obtain⟨Ds,e,h1,h2⟩:=Fb.df;rw[e];refine dR hr Ds w' h1 h2 Fb.good Fb.tm λw2 u g2 hu=>?_
  obtain⟨⟨g3,CB⟩,Fe⟩:=g.Z5 g2;exact hR _ w2 x2 g3 Fe CB ⟨u,rfl,hu⟩
 cases e with
 | normal=>exact fin (λr w' x' h1 h2 h3 h4=>⟨x',h1,h2,h3,h4⟩) hK
 | ret=>exact fin (λr w' x' h1 h2 h3 h4=>⟨x',h1,h2,h3,h4⟩) hK
 | panic ch =>
   obtain⟨rfl,s',hle,rfl⟩:=hK;obtain⟨x2,Fb⟩:=hle x.S _ x1 a' w' (Nat.le_refl _) Au;obtain⟨Ds,e,h1,h2⟩:=Fb.df;show LeavesInM Fence.wide 0 P fn a'.tmps _ a'.defers (.panicking ch) w';rw[e];refine kT Ds w' h1 h2 Fb.good Fb.tm λw2 g2=>?_
   obtain⟨⟨g3,CB⟩,Fe⟩:=g.Z5 g2;exact⟨x2,g3,Fe,CB,rfl⟩
 | _=>exact hK.elim
section
variable {P:Program} {K:Exit->St->Prop} {ops:List Oper} {s:St}
theorem SW.AEZ {f:FuncId}{out:Out}{h':List O}(hc:HC P f args s.h out h')(hg:BQ ops s.t o.guard=J I)(M:C7 (ev s.t) o.op=J (f,args))(hr : ∀v,out=.ret v->SW P ops K r (St.put ⟨s.t,h'⟩ o.dst v))(hp : ∀z,out=.HB z->K (.panic z) ⟨s.t,h'⟩):SW P ops K (o::r) s:=λS0 w0 x a w B=>by
 have hw:FB o (yielded ops.toArray a.tmps)=true:=by
  have:=KR (o:=o) B.tm (IF (ops:=ops) (K1:=True) (K2:=False) hg W);exact Kn λh=>this.2 h
 unfold wpList;rw[if_pos hw];refine .inl ?_;unfold C7 at M;split at M
 case h_2=>cases M
 rename_i fo S Fk ho;split at M
 case h_2=>cases M
 rename_i f' q FG;simp only[BL,Cr]at M;obtain⟨rfl,rfl⟩:=M;have R:=Pp (CW B.tm fo);rw[FG]at R;simp only[CV]at R;obtain⟨Dl,R,EP⟩:=R;have Hw:AO x w (S.toList.map (ev s.t)++q) (S.toList.map a.eval++Dl.toList):=(AO.of_map λy _=>CW B.tm y).append EP;obtain⟨fn,hf,hb,hn⟩:=P7 hc.ok;have CT:fn.body≠none:=by intro e;rw[e]at hb;cases hb
 have F6:fn.name≠ "runtime.NumGoroutine":=by simpa using hn
 have A0:(execOp a.eval o).run P w=.ok (.enter f' (S.toList.map a.eval++Dl.toList).toArray) w:=by
  have e1:(S.map a.eval++Dl)=(S.toList.map a.eval++Dl.toList).toArray:=by apply Gx.1;simp
  simp[execOp,ho,resolve,R,M5,invoke,callFunc,program,HW,hf,F6,CT,e1]
 unfold Er;rw[A0];refine(hc.calls B.good Hw).mono ?_;rintro r' w' ⟨x',g',he,CB,Hz⟩;cases out with
 | ret v=>obtain⟨u,rfl,hv⟩:=Hz;exact hr v rfl S0 w0 x' _ w' (Bo.put B.tm (B.df.mono CB) he g' hv o.dst)
 | HB z=>have e:r'=.panicked z:=Hz;subst e;exact⟨x',⟨s.t,h'⟩,⟨g',AO.mono he _ _ B.tm,B.df.mono CB⟩,hp z F⟩
theorem SW.wZ {f:FuncId}{B:List O}(R:HC P f args s.h (.ret res) B)(S:BQ ops s.t o.guard=J I)(M:C7 (ev s.t) o.op=J (f,args))(h:SW P ops K r (St.put ⟨s.t,B⟩ o.dst res)):SW P ops K (o::r) s:=SW.AEZ R S M (λv e=>by cases e;exact h) (λ_ e=>nomatch e)
end
end Go.Proofs.YtglaipbdiofkfaaGreat
