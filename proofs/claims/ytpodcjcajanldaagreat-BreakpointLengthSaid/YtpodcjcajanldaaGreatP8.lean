/- Part of the proof of breakpointLength.proved. Conditions: none. (Joined and shortened by a program.) -/
import Derived.Test.YtpodcjcajanldaaGreatP7
set_option linter.unusedVariables false
set_option linter.unusedSimpArgs false
set_option maxRecDepth 100000
set_option maxHeartbeats 16000000
open Go.Proofs.YtpodcjcajanldaaGreat.Rows renaming layoutStyleRow→ABd
open Go.Proofs.Tryz renaming prog→AD,func172→oy,f173→iJ
open Option.some renaming injEq→BE
open Option renaming map_eq_some_iff→G6
open Go.Region renaming wanted→DV
open Classical renaming byContradiction→Kb
open Prod.mk renaming injEq→Cp
open Array renaming toList_inj→Gk,getElem?_eq_some_iff→Dy,replicate→PY,toList_append→Qt,toList_replicate→VX,length_toList→Ep,getElem?_toList→Th
open Go.Deferred renaming ofValue→Pa
open Go.Sem renaming run→I5,run_bind→H9
open Go.Oper renaming wp→EL
open Nat renaming lt_of_lt_of_le→H6,le_of_lt→NS,le_refl→BW,le_of_not_lt→NT,zero_add→Cu,le_succ→xy
open List renaming getElem?_eq_some_iff→Bv,replicate→As,map_toArray→AIN,map_cons→Al,map_nil→A8,length_take→FW,length_append→C3,replicate_succ→Ao,drop_succ_cons→Be,drop_zero→BO,mem_map→DC,getElem?_set→OH,length_set→DU,getElem?_append_left→FK,getElem?_append_right→IP,getElem?_set_self→EG,replicate_zero→C8,cons_append→Bg,nil_append→Bh,getElem?_set_ne→Di,set_append_right→YB,set_cons_zero→BC,set_cons_succ→Az,set_set→R9,append_assoc→EW,set_append_left→Vd
open Go.Fence renaming wide→EF
open Go.Addr renaming add→Zt
open Go.Instr renaming fill→Zz
open Go.Result renaming andThen_ok→Lr
open Go.Op renaming equal→OI,equalIn→YD,operands→CN
open Go.Builtin renaming copy_→n9,firstCells→Zv,lenOf→oA,append_→X7,zeroCells→JV
open Bool renaming and_eq_true→An
open Go.IntKind renaming i64→Ad
open Go.Call renaming operands→D7
namespace Go.Proofs.YtpodcjcajanldaaGreat
open Go.RowKit
section
open Go.ChangeShapes Go.WideShapes Go.ChangeAt Go.RowKit
theorem m6:(ABd.lifted==AD.liftsFinal)=true:=by kernel_rfl
theorem m7:(AD.make==some ABd.make)=true:=by kernel_rfl
end
def Cx.one (S:Ba)(b n:Nat):Cx:={ dom:=fun k=>k=0,loc:=fun _=>⟨b,n,false,0,false⟩,S:=S }
def AX (P:Program)(f:FuncId)(args:List V)(ty:TypeId)(cells cells':List C)(res:V):Prop:=
 ∀(S:Ba) (w:World) (us:List Value) (b:Nat) (vs:Array Value),(∀b' j,S b' j->b'<w.heap.size)->(∀j,j<vs.size->¬S b j)->w.heap[b]?=some (.cells vs ty (0,0))->Bj S w cells vs.toList->AL (Cx.one S b vs.size) w args us->
  Calls P f us.toArray w fun r w'=>∃u S' CQ,r=.returned u/\KB (fun k=>k=b) w w'/\Ar S S' w w'/\(∀b' j,S' b' j->S b' j\/(w.heap.size<=b'/\b'<w'.heap.size)\/(b'=b/\vs.size<=j))/\w'.heap[b]?=some (.cells CQ ty (0,0))/\CQ.size=vs.size/\Bj S' w' cells' CQ.toList/\CV (Cx.bare S') w' res u
mutual
def V.DI (k:Nat):V->Option V
 | .ptr i off=>if i=k then some (.ptr 0 off)else none
 | .c d=>some (.c d)
 | .full r=>some (.c (.sl r))
 | .gr _ _ r=>some (.c (.sl r))
 | .cp row off=>some (.cp row off)
 | .agg l=>(V.DJ k l).map V.agg
 | .Bk l=>(V.DJ k l).map V.Bk
 | .fn f caps=>(V.DJ k caps).map (V.fn f)
 | .yl l=>some (.yl l)
 | .mp _=>none
 | .any=>some .any
 | .own _ _ _ _=>none
 | .hot _ _ _=>none
 | .hp _ _ _=>none
def V.DJ (k:Nat):List V->Option (List V)
 | []=>some []
 | v::l=>match V.DI k v,V.DJ k l with
   | some y,some r=>some (y::r)
   | _,_=>none
end
mutual
theorem AE8 {x:Cx}{w:World}{k n:Nat} : ∀(v v':V) (u:Value),V.DI k v=some v'->CV x w v u->CV (Cx.one x.S (x.loc k).b n) w v' u
 | .ptr i off,v',u,h,hv=>by
   simp only[V.DI]at h;split at h
   . rename_i e;cases h;subst e;simp only[CV,Cx.one]at hv ⊢;exact⟨trivial,trivial,hv.2.2⟩
   . cases h
 | .c c,v',u,h,hv=>by simp only[V.DI,BE]at h;subst h;simpa only[CV,Cx.one]using hv
 | .full r,v',u,h,hv=>by simp only[V.DI,BE]at h;subst h;simp only[CV]at hv ⊢;obtain⟨_,_,hv⟩:=hv;exact hv
 | .gr k es r,v',u,h,hv=>by simp only[V.DI,BE]at h;subst h;simp only[CV]at hv ⊢;exact hv.2.2.1
 | .cp row off,v',u,h,hv=>by simp only[V.DI,BE]at h;subst h;simpa only[CV,Cx.one]using hv
 | .yl l,v',u,h,hv=>by simp only[V.DI,BE]at h;subst h;simpa only[CV]using hv
 | .mp _,_,_,h,_=>by simp[V.DI]at h
 | .agg l,v',u,h,hv=>by
   simp only[V.DI,G6]at h;obtain⟨r,h,rfl⟩:=h;simp only[CV]at hv ⊢;obtain⟨vs,e,hv⟩:=hv;exact⟨vs,e,PI l r _ h hv⟩
 | .Bk l,v',u,h,hv=>by
   simp only[V.DI,G6]at h;obtain⟨r,h,rfl⟩:=h;simp only[CV]at hv ⊢;obtain⟨vs,e,hv⟩:=hv;exact⟨vs,e,PI l r _ h hv⟩
 | .fn f caps,v',u,h,hv=>by
   simp only[V.DI,G6]at h;obtain⟨r,h,rfl⟩:=h;simp only[CV]at hv ⊢;obtain⟨vs,e,hv⟩:=hv;exact⟨vs,e,PI caps r _ h hv⟩
 | .any,v',u,h,_=>by simp only[V.DI,BE]at h;subst h;simp only[CV]
 | .own _ _ _ _,_,_,h,_=>by simp[V.DI]at h
 | .hot _ _ _,_,_,h,_=>by simp[V.DI]at h
 | .hp _ _ _,_,_,h,_=>by simp[V.DI]at h
theorem PI {x:Cx}{w:World}{k n:Nat} : ∀(l l':List V) (us:List Value),V.DJ k l=some l'->AL x w l us->AL (Cx.one x.S (x.loc k).b n) w l' us
 | [],l',us,h,hv=>by simp only[V.DJ,BE]at h;subst h;simpa only[AL]using hv
 | v::l,l',us,h,hv=>by
   simp only[AL]at hv;obtain⟨u,ur,rfl,h1,h2⟩:=hv;unfold V.DJ at h;split at h
   . rename_i y r hy hr;cases h;simp only[AL];exact⟨u,ur,rfl,AE8 v y u hy h1,PI l r ur hr h2⟩
   . cases h
end
section
variable {P:Program} {K:Exit->St->Prop} {ops:List Oper} {s:St}
theorem SW.kE {o:Oper}{r:List Oper}{f:FuncId}{args Bx:List V}{ty:TypeId}{cs:List V}{cells cells':List C}{res:V}{fn:Func}(k:Nat)(KC:AX P f Bx ty cells cells' res)(hf:P.funcs[f]?=some fn)(hb:fn.body.isSome=true)(hn:(fn.name == "runtime.NumGoroutine")=false)(hg:gate ops s.t o.guard=some true)(hc:DE (ev s.t) o.op=some (f,args))(hp:V.DJ k args=some Bx)(hk:s.h[k]?=some (.box ty cs false))(hcs:toCs cs=some cells)(h:SW P ops K r (s.step o.dst res (some (k,.box ty (cells'.map V.c) false)))):SW P ops K (o::r) s:=fun S0 w0 x a w hA=>by
 have hw:DV o (yielded ops.toArray a.tmps)=true:=by
  have:=J2 (o:=o) hA.tm (Hj (ops:=ops) (K1:=True) (K2:=False) hg trivial);exact Kb fun h=>this.2 h
 unfold wpList;rw[if_pos hw];refine .inl ?_;unfold DE at hc;split at hc
 case h_2=>cases hc
 rename_i fo ar He ho;split at hc
 case h_2=>cases hc
 rename_i f' caps Fo;simp only[BE,Cp]at hc;obtain⟨rfl,rfl⟩:=hc;have CY:=Qq (EH hA.tm fo);rw[Fo]at CY;simp only[CV]at CY;obtain⟨Dx,CY,EZ⟩:=CY;have Ik:AL x w (ar.toList.map (ev s.t)++caps) (ar.toList.map a.eval++Dx.toList):=(AL.of_map fun y _=>EH hA.tm y).append EZ;have g:=hA.good;obtain⟨hd,b1,b2,vs,b3,b4,b5⟩:=g.ok k _ hk;have EK:=toCs_ok hcs b5;have Nm : ∀j,j<vs.size->¬x.S (x.loc k).b j:=fun j hj=>g.EI k _ j hk ⟨rfl,by omega⟩
 have hcall:=KC x.S w _ (x.loc k).b vs g.ex Nm b3 EK (PI _ _ _ hp Ik);have hb':fn.body≠none:=by intro e;rw[e]at hb;cases hb
 have hn':fn.name≠ "runtime.NumGoroutine":=by simpa using hn
 have hrun:(execOp a.eval o).run P w=.ok (.enter f' (ar.toList.map a.eval++Dx.toList).toArray) w:=by
  have e1:(ar.map a.eval++Dx)=(ar.toList.map a.eval++Dx.toList).toArray:=by apply Gk.1;simp
  simp[execOp,ho,resolve,CY,Pa,invoke,callFunc,program,I5,hf,hn',hb',e1]
 unfold EL;rw[hrun];refine hcall.mono ?_;rintro r' w' ⟨u,S',CQ,rfl,hkb,DF,Hs,h1,h2,h3,h4⟩;have hlt:=(g.ok k _ hk).2.lt b2;have he:Ext x { x with S:=S' } w w':=⟨DF,fun _ h=>h,fun _ _=>Es.refl _⟩
 have g':=g.IN (x':={ x with S:=S' }) k (.box ty (cells'.map V.c) false) he (hkb.wide fun b e=>⟨hd,b2,e.symm⟩) (fun i=>⟨.inl,fun h=>h.elim id fun e=>e ▸ hd⟩) (fun _ _=>rfl) (fun _=>.inl ⟨hd,b2,rfl⟩)
  ⟨b1,b2,CQ,h1,by rw[h2,b4],AL.N2 h3⟩ (fun b j hs=>(Hs b j hs).imp id fun h=>h.elim (fun h=>⟨h.2,.inl h.1,fun e=>by have:(x.loc k).b=b:=e;omega⟩) (fun h=>⟨by rw[h.1];exact H6 hlt hkb.size,.inr ⟨hd,b2,h.1.symm⟩,fun _ hx=>by have h5:j<(x.loc k).n:=hx.2;have h6:=h.2;omega⟩)) (fun j hx=>g.EI k _ j hk hx)
 have hnc:NC w w':=⟨hkb.size,fun b ob DW hnb=>(hkb.block b (Dy.1 DW).1 fun e=>by subst e;rw[b3]at DW;cases DW;cases hnb).trans DW⟩
 have e:=Lm s.h (some (k,O.box ty (cells'.map V.c) false)) (fun k' o' e=>by cases e;exact NS (Bv.1 hk).1);have g'':Good S0 w0 { x with S:=S' } w' (fun i=>(CG s.h (some (k,O.box ty (cells'.map V.c) false)))[i]?):=by rw[e];exact g'
 exact h S0 w0 _ _ w' (CT.put hA.tm (hA.df.mono hnc) he g'' (CV.mono (UA S' x w') _ _ h4) o.dst)
def Vs (P:Program)(l:List ResultVar)(res:V)(ty:TypeId)(cells':List C):Exit->St->Prop
 | .normal,s=>AV P s l=some res/\∃cs,s.h[0]?=some (.box ty cs false)/\toCs cs=some cells'
 | .ret,s=>AV P s l=some res/\∃cs,s.h[0]?=some (.box ty cs false)/\toCs cs=some cells'
 | _,_=>False
theorem AX.intro {f:FuncId}{fn:Func}{c:Code}{args:List V}{ty:TypeId}{cells cells':List C}{res:V}(hf:P.funcs[f]?=some fn)(hb:fn.body=some c)(h:AW ⟨none,1⟩ P c (Vs P fn.results.toList res ty cells') ⟨args++As (fn.ntmps - args.length) .any,[.box ty (cells.map V.c) false]⟩):AX P f args ty cells cells' res:=by
 intro S w us b vs hS Nm hblk EK C9;have AMK:b<w.heap.size:=(Dy.1 hblk).1;refine callsIn_wide.1 (callsIn_of_wp_marks (F:=EF) (n:=0) hf hb trivial ?_);let B:Bs:=⟨w,fun k=>k<w.heap.size/\k≠b,fun _ h=>h.1,Cx.one S b vs.size,1,fun k hk=>by have:k=0:=hk;omega⟩
 have hA:CT S B (Cx.one S b vs.size) ⟨args++As (fn.ntmps - args.length) .any,[.box ty (cells.map V.c) false]⟩ { tmps:=us.toArray++PY (fn.ntmps - us.toArray.size) undef,defers:=[] } w:=by
  refine⟨⟨fun k o h=>?_,fun k h=>?_,fun k k' o o' h h' hne=>?_,fun k o j h hx=>?_,hS,fun k o h _ hF=>hF.2 rfl,fun b j h=>.inl h,fun b j h=>h,.GA (AS.refl w),Ext.refl _ _⟩,?_,Marks.nil _ _⟩
  . match k,h with
    | 0,h =>
      cases h;exact⟨rfl,rfl,rfl,vs,hblk,rfl,AL.N2 EK⟩
    | k+1,h=>simp at h
  . have:k=0:=h;subst this;exact⟨_,rfl⟩
  . match k,k',h,h' with
    | 0,0,_,_=>exact absurd rfl hne
    | 0,k'+1,_,h'=>simp at h'
    | k+1,_,h,_=>simp at h
  . match k,h with
    | 0,h=>cases h;exact Nm j hx.2
    | k+1,h=>simp at h
  . simp only[Qt,VX];have hl:us.toArray.size=args.length:=by simpa using C9.len
    rw[hl];exact C9.append (Tc _ _ _ _)
 refine wpIn_mono (h 0 S B _ _ w (BW _) hA) fun e a' w' ⟨x,s,BR,hK⟩=>?_
 have fin : ∀ {R:Ending->World->Prop},(∀u w' S' CQ,KB (fun k=>k=b) w w'->Ar S S' w w'->(∀b' j,S' b' j->S b' j\/(w.heap.size<=b'/\b'<w'.heap.size)\/(b'=b/\vs.size<=j))->w'.heap[b]?=some (.cells CQ ty (0,0))->CQ.size=vs.size->Bj S' w' cells' CQ.toList->CV (Cx.bare S') w' res u->R (.returned u) w')->
  (AV P s fn.results.toList=some res/\∃cs,s.h[0]?=some (.box ty cs false)/\toCs cs=some cells')->LeavesInM EF 0 P fn a'.tmps R a'.defers .returning w':=by
  rintro R hR ⟨hr,cs,h0,hcs⟩;obtain⟨Ds,e,h1,h2⟩:=BR.df;rw[e];refine ey hr Ds w' h1 h2 BR.good BR.tm fun w2 u g hu=>?_
  have hl0:=g.ext.loc 0 rfl;have hloc:x.loc 0=⟨b,vs.size,false,0,false⟩:=by
   rcases hl0.2 with e|e
   . exact e.symm
   . cases e.1
  obtain⟨_,_,_,CQ,k3,k4,k5⟩:=g.ok 0 _ h0;rw[hloc]at k3 k4;refine hR u w2 x.S CQ ⟨g.keep.os,g.keep.tape,g.keep.output,g.keep.size,fun k hk hne=>g.keep.block k hk fun hn=>hn ⟨hk,hne⟩⟩ ⟨g.sub,fun b' j v hs hc=>g.ext.ar.cell b' j v hs hc⟩ (fun b' j hs=>?_) k3 k4 (toCs_ok hcs k5) hu;rcases g.new b' j hs with hq|hq
  . exact .inl hq
  . by_cases e:b'=b
    . subst e;by_cases hj:j<vs.size
      . exact absurd (by rw[hloc];exact hs) (g.EI 0 _ j h0 ⟨rfl,by rw[hloc];exact hj⟩)
      . exact .inr (.inr ⟨rfl,by omega⟩)
    . exact .inr (.inl ⟨NT fun hlt=>hq ⟨hlt,e⟩,g.ex b' j hs⟩)
 cases e with
 | normal=>exact fin (fun u w' S' CQ h1 h2 h3 h4 h5 h6 h7=>⟨u,S',CQ,rfl,h1,h2,h3,h4,h5,h6,h7⟩) hK
 | ret=>exact fin (fun u w' S' CQ h1 h2 h3 h4 h5 h6 h7=>⟨u,S',CQ,rfl,h1,h2,h3,h4,h5,h6,h7⟩) hK
 | _=>exact hK.elim
end
section
variable {P:Program} {K:Exit->St->Prop} {ops:List Oper} {s:St}
theorem SW.Jm {o:Oper}{r:List Oper}(G:V->Option (Nat×O)->Prop)(hg:gate ops s.t o.guard=some true)(hR : ∀(S0:Ba) (w0:Bs) (x:Cx) (a:Act) (w:World),Good S0 w0 x w (fun k=>s.h[k]?)->AL x w s.t a.tmps.toList->¬x.dom s.h.length->∃v t,(∀k ob,t=some (k,ob)->k<=s.h.length)/\G v t/\Bm P o a S0 w0 x w (fun k=>s.h[k]?) v t)(h : ∀v t,G v t->SW P ops K r (s.step o.dst v t)):SW P ops K (o::r) s:=fun S0 w0 x a w hA=>by
 have hw:DV o (yielded ops.toArray a.tmps)=true:=by
  have:=J2 (o:=o) hA.tm (Hj (ops:=ops) (K1:=True) (K2:=False) hg trivial);exact Kb fun h=>this.2 h
 unfold wpList;rw[if_pos hw];refine .inl ?_;obtain⟨v,t,hle,hG,nx,w',x',u,hr,D5,hcv,g',he,_⟩:=hR x.S (w0.re w hA.good.keep.size) x a w hA.good.VA hA.tm hA.fresh;rw[<-Lm _ _ hle]at g';obtain⟨g',hnc⟩:=hA.good.Qp he g';unfold EL;rw[hr];rcases D5 with rfl|⟨rfl,rfl⟩
 . exact h v t hG S0 w0 x' _ w' (CT.put hA.tm (hA.df.mono hnc) he g' hcv o.dst)
 . exact h v t hG S0 w0 x' _ w' (CT.put hA.tm (hA.df.mono hnc) he g' hcv o.dst)
end
section
variable {P:Program} {S0:Ba} {w0:Bs} {x:Cx} {w:World} {H:Heap} {a:Act} {o:Oper} {v:V}
theorem mQ (g:Good S0 w0 x w H){t:TypeId}{y z:Operand}(ho:o.op=.slice t y none (some z) none){Ah:TypeId}{es Bu:Nat}(hT:Dd P t=some (Ah,es,Bu)){k off len n:Nat}{kd:IntKind}(hy:CV x w (.own k off len es) (a.eval y))(hz:CV x w (.c (.int kd (n:Int))) (a.eval z))(hn:n<=len) :
 Bm P o a S0 w0 x w H (.own k off n es) none:=by
 obtain⟨hu,ie,zv,hie,_,hsz,_,_⟩:=I1 hT;simp only[CV,Ap]at hy hz;obtain⟨h1,h2,cap,hy,h3,h4,h5⟩:=hy;have h6:(n:Int)<=(cap:Int):=by omega
 refine Bm.pure g (u:=.slice (some ⟨(x.loc k).b,off,none⟩) n cap) ?_ ?_
 . simp[execOp,ho,hy,hz.1,Instr.sliceAt,Instr.slice,run_underlying hu,Instr.sliceBounds,Instr.sliceBound,asIntOf,sizeOf,typeInfo,hie,h6,hsz,Zt];intro h;omega
 . simp only[CV];exact⟨h1,h2,cap,rfl,by omega,h4,h5⟩
theorem mP (g:Good S0 w0 x w H){t:TypeId}{y:Operand}(ho:o.op=.buildSlice t 1 #[(0,y)]){Ah:TypeId}{Bu:Nat}(hT:Dd P t=some (Ah,1,Bu))(hy:CV x w v (a.eval y))(h1:v.one=true)(k0:Nat)(hk : ¬x.dom k0) :
 Bm P o a S0 w0 x w H (.own k0 0 1 1) (some (k0,.box Ah [v] false)):=by
 obtain⟨hu,ie,zv,hie,hz,hsz,_,_⟩:=I1 hT;have tk:=hy.one h1;have hr:=run_buildSlice (P:=P) w t Ah 1 #[(0,a.eval y)] #[a.eval y] ie zv hu hie hz (by rw[hsz];omega) (by rw[hsz];omega) (by
  rw[hsz];simp only[Zz,AAD tk];simp;refine Array.ext (by simp) fun i h1 h2=>?_
  simp at h2;subst h2;simp)
 obtain⟨g',he⟩:=g.XU k0 hk Ah [v] #[a.eval y] (by simp only[AL];exact⟨_,[],rfl,hy,rfl⟩);refine⟨_,_,_,.slice (some ⟨w.heap.size,0,none⟩) 1 1,by simp only[execOp,ho,H9,AIN,Al,A8,hr,Lr];rfl,.inl rfl,?_,g',he,fun k h=>h.elim .inl fun e=>.inr ⟨.box Ah [v] false,by rw[e]⟩,fun _=>rfl⟩;simp only[CV,Cx.Dl,if_true];exact⟨.inr trivial,trivial,1,rfl,BW _,by unfold maxLen;omega,by simp⟩
theorem fL (g:Good S0 w0 x w H){t:TypeId}(ho:o.op=.buildSlice t 0 #[]){Ah:TypeId}{es Bu:Nat}(hT:Dd P t=some (Ah,es,Bu)):Bm P o a S0 w0 x w H (.full []) none:=by
 obtain⟨hu,ie,zv,hie,hz,hsz,_,_⟩:=I1 hT;obtain⟨A,w',hr,hk,hs⟩:∃A w',(Instr.buildSlice t 0 #[]).run P w=.ok (.slice A 0 0) w'/\AS w w'/\w'.heap.size>=w.heap.size:=by
  refine⟨some ⟨w.heap.size,0,none⟩,w.alloc (.cells (Array.map (fun x=>default) (Array.range 0)) Ah),?_,(AS.refl w).alloc _,by simp⟩;simp[Instr.buildSlice,run_underlying hu,sizeOf,typeInfo,zeroValue,hie,hz,Zz,newRow]
 obtain⟨g',he⟩:=g.Tf (x':=x) hk ⟨fun _ _ h=>h,fun b j v _ hc=>hk.cell hc⟩ rfl rfl (fun b j h=>.inl h);refine⟨_,_,x,.slice A 0 0,by simp only[execOp,ho,H9,AIN,A8,hr,Lr];rfl,.inl rfl,?_,g',he,fun k h=>.inl h,fun _=>rfl⟩;simp only[CV,Ap];exact⟨A,rfl,A,0,rfl,BW _,by omega,fun h=>absurd rfl h⟩
theorem AP4 (g:Good S0 w0 x w H){t t':TypeId}{y z:Operand}(ho:o.op=.binOp .eql t y z t'){Ah:TypeId}{es Bu:Nat}(hT:Dd P t=some (Ah,es,Bu)){rows:List (List C)}(hy:Ap x.S w (.sl rows) (a.eval y))(hz:a.eval z=.slice none 0 0) :
 ∃b:Bool,(b=true->rows=[])/\Bm P o a S0 w0 x w H (.c (.bool b)) none:=by
 obtain⟨hu,ie,zv,hie,_,hsz,_,_⟩:=I1 hT;simp only[Ap]at hy;obtain⟨A,c,hy,h1,h2,h3⟩:=hy;refine⟨A.isNone,fun h=>?_,Bm.pure g (u:=.bool A.isNone) ?_ (by simp only[CV,Ap])⟩
 . cases A with
   | none =>
     by_cases e:rows=[]
     . exact e
     . obtain⟨_,_,_,h,_⟩:=h3 e;cases h
   | some _=>cases h
 . have hb : ∀A n c,(binOp .eql t (.slice A n c) (.slice none 0 0))=(do pure (.bool (<-OI t (.slice A n c) (.slice none 0 0)))):=fun _ _ _=>rfl
   have he : ∀A n c,(OI t (.slice A n c) (.slice none 0 0)).run P w=.ok A.isNone w:=by
    intro A n c;have e:OI t (.slice A n c) (.slice none 0 0)=YD (9999+1) t (.slice A n c) (.slice none 0 0):=rfl;rw[e];unfold YD;cases A<;>simp[run_underlying hu]
   have hq:(eqGuard .eql t y z (.slice A rows.length c) (.slice none 0 0)).run P w=.ok () w:=rfl;simp only[execOp,ho,hy,hz,H9,hq,hb,he,Lr,Sem.run_pure]
theorem AP5 (g:Good S0 w0 x w H)(n:Nat){t t':TypeId}{y z:Operand}(ho:o.op=.binOp .eql t y z t'){Ah:TypeId}{es Bu:Nat}(hT:Dd P t=some (Ah,es,Bu)){rows:List (List C)}(hy:Ap x.S w (.sl rows) (a.eval y))(hz:a.eval z=.slice none 0 0) :
 ∃v t,(∀k ob,t=some (k,ob)->k<=n)/\(t=none/\∃b:Bool,v=.c (.bool b)/\(b=true->rows=[]))/\Bm P o a S0 w0 x w H v t:=by
 obtain⟨b,h1,h2⟩:=AP4 g ho hT hy hz;exact⟨_,_,fun _ _ h=>(by cases h),⟨rfl,b,rfl,h1⟩,h2⟩
theorem AEJ (g:Good S0 w0 x w H){t:TypeId}{y z:Operand}(ho:o.op=.call ⟨.builtin .copy,#[y,z],#[t,t]⟩){Ah:TypeId}{es Bu:Nat}(hT:Dd P t=some (Ah,es,Bu)){k:Nat}{rows:List (List C)}(hy:CV x w (.own k 0 rows.length es) (a.eval y))(hz:Ap x.S w (.sl rows) (a.eval z))(hr : ∀r∈rows,r.length=es){ty:TypeId}{cs:List V}(hk:H k=some (.box ty cs false))(hl:cs.length=rows.length*es):Bm P o a S0 w0 x w H (.c (.int .i64 rows.length)) (some (k,.box ty (rows.flatten.map V.c) false)):=by
 obtain⟨hu,ie,zv,hie,_,hsz,_,_⟩:=I1 hT;obtain⟨hd,Au⟩:=g.ok k _ hk;obtain⟨b1,b2,vs,hb,hn,hcs⟩:=Au;simp only[CV]at hy;obtain⟨_,_,cap,hy,h3,h4,h5⟩:=hy;obtain⟨A,c,xs,e,k1,k2,k3,k4,k5,k6⟩:=Ry hz hr;have ZG:vs.size=rows.length*es:=by have:=hcs.len;simp only[Ep]at this;omega
 have ANM:=k3.Rq;have hst:=run_storeCells_at (P:=P) (t:=ty) (off:=0) xs 0 w vs hb (by simp;omega) ANM;have Eu:=kc xs 0 0 vs (by simp;omega);obtain⟨CQ,eS⟩:∃CQ,((xs.zipIdx 0).foldl (fun (c:Array Value) (p:Value×Nat)=>c.setIfInBounds (0+p.2) p.1) vs)=CQ:=⟨_,rfl⟩
 rw[eS]at hst Eu;have hvx:CQ.toList=xs:=by rw[Eu];simp;omega
 have hrun:(n9 #[t,t] o.type #[.slice (some ⟨(x.loc k).b,0,none⟩) rows.length cap,.slice A rows.length c]).run P w=.ok (goInt rows.length) (w.setRow (x.loc k).b CQ):=by
  have tN:(Zv es rows.length (.slice A rows.length c)).run P w=.ok xs.toArray w:=by
   cases A with
   | none =>
     have:rows=[]:=by
      by_cases e:rows=[]
      . exact e
      . obtain⟨_,_,h,_⟩:=k6 e;cases h
     subst this;have:xs=[]:=List.eq_nil_of_length_eq_zero (by simpa using k4);subst this;simp[Zv]
   | some ad=>exact run_firstCells_some (P:=P) w es rows.length ad rows.length c xs k4 (k5 _ rfl)
  simp[n9,run_underlying hu,oA,sizeOf,typeInfo,hie,hsz,tN,hst]
 obtain⟨g',he⟩:=g.xQ k ty cs (rows.flatten.map V.c) hk vs CQ hb (by rw[<-Ep,hvx,k4,ZG]) (by rw[hvx];exact AL.N2 k3);refine⟨_,_,x,goInt rows.length,by simp[execOp,ho,resolve,invoke,builtin,hy,e,hrun],.inl rfl,?_,g',he,fun _ h=>.inl h,fun _=>rfl⟩;simp only[CV,Ap,goInt];exact⟨trivial,Qs (by omega)⟩
theorem AEI (g:Good S0 w0 x w H){t:TypeId}{y z:Operand}(ho:o.op=.call ⟨.builtin .copy,#[y,z],#[t,t]⟩){Ah:TypeId}{es Bu:Nat}(hT:Dd P t=some (Ah,es,Bu))(hy:Ap x.S w (.sl []) (a.eval y))(hz:Ap x.S w (.sl []) (a.eval z)):Bm P o a S0 w0 x w H (.c (.int .i64 0)) none:=by
 obtain⟨hu,ie,zv,hie,_,hsz,_,_⟩:=I1 hT;simp only[Ap,List.length_nil]at hy hz;obtain⟨A,c,hy,_⟩:=hy;obtain⟨B,d,hz,_⟩:=hz;have hl : ∀(y:Addr),(loadCells y 0).run P w=.ok #[] w:=fun y=>by simpa using run_loadCells_list (P:=P) w y [] (by simp)
 have hrun:(n9 #[t,t] o.type #[.slice A 0 c,.slice B 0 d]).run P w=.ok (goInt 0) w:=by
  cases A<;>cases B<;>simp[n9,run_underlying hu,oA,Zv,sizeOf,typeInfo,hie,storeCells,hl]
 refine Bm.pure g (u:=goInt 0) (by simp[execOp,ho,resolve,invoke,builtin,hy,hz,hrun]) ?_;simp only[CV,Ap,goInt];exact⟨trivial,Qs (n:=0) (by omega)⟩
theorem APk (g:Good S0 w0 x w H){t:TypeId}{y z:Operand}(ho:o.op=.call ⟨.builtin .append,#[y,z],#[t,t]⟩){Ah:TypeId}{Bu:Nat}(hT:Dd P t=some (Ah,1,Bu)){k k2 len:Nat}(hy:CV x w (.own k 0 len 1) (a.eval y))(hz:CV x w (.own k2 0 1 1) (a.eval z)){cs:List V}(hk:H k=some (.box Ah cs false)){nk:TypeId}{fr:Bool}(hk2:H k2=some (.box nk [v] fr))(M6:v.one=true)(hm:len+1<=maxLen)(hb:(len+1)*Bu<=140737488355328)(hl:len<=cs.length)(k0:Nat)(hk0 : ¬x.dom k0) :
 (len<cs.length/\Bm P o a S0 w0 x w H (.own k 0 (len+1) 1) (some (k,.box Ah (cs.set len v) false)))\/(∃n,Bm P o a S0 w0 x w H (.own k0 0 (len+1) 1) (some (k0,.box Ah (cs.take len++v::As n .any) false))):=by
 obtain⟨hu,ie,zv,hie,Rh,hsz,hby,hzs⟩:=I1 hT;obtain⟨hd,b1,b2,vs,P6,hn,hcs⟩:=g.ok k _ hk;obtain⟨lC,c1,c2,us,hc3,KD,UY⟩:=g.ok k2 _ hk2;simp only[CV]at hy hz;obtain⟨_,_,cap,hy,h3,h4,h5⟩:=hy;obtain⟨_,_,rE,hz,_,_,_⟩:=hz;simp only[AL]at UY;obtain⟨u,ur,C9,uH,rfl⟩:=UY;have ZG:vs.size=cs.length:=by have:=hcs.len;simpa using this
 have huo:=uH.one M6;have AB3 : ∀(j:Nat) (q:Value),([u]:List Value)[j]?=some q->w.cell? (Zt ⟨(x.loc k2).b,0,none⟩ j)=some q:=by
  intro j q hq;rw[I9,Cu,cell_of_row w _ j us nk (0,0) hc3];rw[<-Th,C9];exact hq
 by_cases hroom:len+1<=cap
 . left;have hlt:len<cs.length:=by omega
   refine⟨hlt,?_⟩;have CU:w.cell? ⟨(x.loc k).b,len,none⟩=some vs[len]:=by rw[cell_of_row w _ len vs Ah (0,0) P6];simp[ZG,hlt]
   have hst:(storeCells ⟨(x.loc k).b,len,none⟩ [u] 0).run P w=.ok () (w.setRow (x.loc k).b (vs.setIfInBounds len u)):=by
    have:=run_storeCells_at (P:=P) (t:=Ah) (off:=len) [u] 0 w vs P6 (by simp;omega) (by simpa using huo);simpa using this
   have tN:=run_firstCells_some (P:=P) w 1 1 ⟨(x.loc k2).b,0,none⟩ 1 rE [u] (by simp) AB3;have hrun:(X7 #[t,t] o.type #[.slice (some ⟨(x.loc k).b,0,none⟩) len cap,.slice (some ⟨(x.loc k2).b,0,none⟩) 1 rE]).run P w=.ok (.slice (some ⟨(x.loc k).b,0,none⟩) (len+1) cap) (w.setRow (x.loc k).b (vs.setIfInBounds len u)):=by
    simp[X7,run_underlying hu,sizeOf,typeInfo,hie,hsz,oA,hroom,tN,Addr.add_lit,hst]
   obtain⟨g',he⟩:=g.xQ k Ah cs (cs.set len v) hk vs (vs.setIfInBounds len u) P6 (by simp) (by simpa using hcs.set len uH);refine⟨.value (.slice (some ⟨(x.loc k).b,0,none⟩) (len+1) cap),w.setRow (x.loc k).b (vs.setIfInBounds len u),x,.slice (some ⟨(x.loc k).b,0,none⟩) (len+1) cap,by simp[execOp,ho,resolve,invoke,builtin,hy,hz,hrun],.inl rfl,?_,g',he,fun _ h=>.inl h,fun S3=>rfl⟩;simp only[CV];exact⟨hd,b1,cap,rfl,hroom,h4,h5⟩
 . right;have CU:cap=len:=by omega
   subst CU;have hold : ∀(j:Nat) (q:Value),(vs.toList.take cap)[j]?=some q->w.cell? (Zt ⟨(x.loc k).b,0,none⟩ j)=some q:=by
    intro j q hq;rw[I9,Cu,cell_of_row w _ j vs Ah (0,0) P6,<-Th];rw[List.getElem?_take]at hq;split at hq
    . exact hq
    . cases hq
   have hrun:=run_append_grow (P:=P) w t o.type Ah ie zv hu hie Rh ⟨(x.loc k).b,0,none⟩ cap cap (vs.toList.take cap) (by rw[FW,hsz];simp;omega) hold ⟨(x.loc k2).b,0,none⟩ 1 rE [u] (by rw[hsz];rfl) AB3 (by omega) (by unfold maxLen at hm;omega) (growslice_fits (by omega) (by rw[hby];exact hb));have hge:=grownCap_ge w (cap+1) cap Ah;have hle:=grownCap_le_maxLen w (cap+1) cap Ah hm;refine⟨grownCap w (cap+1) cap Ah - (cap+1),?_⟩;obtain⟨arr,harr⟩:=AE ((vs.toList.take cap).toArray++[u].toArray++JV zv.cells (grownCap w (cap+1) cap Ah - (cap+1)));rw[harr]at hrun;have hzl:(JV zv.cells (grownCap w (cap+1) cap Ah - (cap+1))).toList.length=grownCap w (cap+1) cap Ah - (cap+1):=by simp[size_zeroCells,hzs]
   have Et:arr.toList=vs.toList.take cap++u::(JV zv.cells (grownCap w (cap+1) cap Ah - (cap+1))).toList:=by rw[<-harr];simp
   have AB1:arr.size=grownCap w (cap+1) cap Ah:=by rw[<-Ep,Et];simp only[C3,List.length_cons,FW,Ep,hzl];rw[Ep]at hzl;omega
   have LZ:AS w w.drew:=(AS.refl w).drew;obtain⟨gd,tL⟩:=g.Tf (x':=x) LZ ⟨fun _ _ h=>h,fun b j v _ hc=>LZ.cell hc⟩ rfl rfl (fun b j h=>.inl h);have hcv:AL x w.drew (cs.take cap++v::As (grownCap w (cap+1) cap Ah - (cap+1)) .any) arr.toList:=by
    rw[Et];refine(AL.mono tL _ _ (hcs.take cap)).append ?_;simp only[AL];refine⟨u,_,rfl,CV.mono tL _ _ uH,AL.Rp (by rw[hzl];simp) fun i v' u' h1 _=>?_⟩;rw[List.getElem?_replicate]at h1;split at h1
    . cases h1;simp only[CV]
    . cases h1
   obtain⟨g',he⟩:=gd.XU k0 hk0 Ah _ arr hcv;refine⟨.value (.slice (some ⟨w.heap.size,0,none⟩) (cap+1) (grownCap w (cap+1) cap Ah)),w.drew.alloc (.cells arr Ah),_,.slice (some ⟨w.heap.size,0,none⟩) (cap+1) (grownCap w (cap+1) cap Ah),by simp[execOp,ho,resolve,invoke,builtin,hy,hz,hrun],.inl rfl,?_,g',tL.trans he,fun k h=>h.elim .inl fun e=>.inr ⟨.box Ah (cs.take cap++v::As (grownCap w (cap+1) cap Ah - (cap+1)) .any) false,by rw[e]⟩,fun S3=>by rw[ho]at S3;cases S3⟩;simp only[CV,Cx.Dl,if_true];exact⟨.inr trivial,trivial,_,rfl,hge,hle,by rw[AB1];omega⟩
theorem AEH (g:Good S0 w0 x w H)(n:Nat){t:TypeId}{y z:Operand}(ho:o.op=.call ⟨.builtin .append,#[y,z],#[t,t]⟩){Ah:TypeId}{Bu:Nat}(hT:Dd P t=some (Ah,1,Bu)){k k2 len:Nat}(hy:CV x w (.own k 0 len 1) (a.eval y))(hz:CV x w (.own k2 0 1 1) (a.eval z)){cs:List V}(hk:H k=some (.box Ah cs false)){nk:TypeId}{fr:Bool}(hk2:H k2=some (.box nk [v] fr))(M6:v.one=true)(hm:len+1<=maxLen)(hb:(len+1)*Bu<=140737488355328)(hl:len<=cs.length)(hn : ¬x.dom n)(hkn:k<=n) :
 ∃v' t',(∀k ob,t'=some (k,ob)->k<=n)/\((len<cs.length/\v'=.own k 0 (len+1) 1/\t'=some (k,.box Ah (cs.set len v) false))\/∃j,v'=.own n 0 (len+1) 1/\t'=some (n,.box Ah (cs.take len++v::As j .any) false))/\Bm P o a S0 w0 x w H v' t':=by
 rcases APk g ho hT hy hz hk hk2 M6 hm hb hl n hn with ⟨h1,h2⟩|⟨j,h2⟩
 . exact⟨_,_,fun _ _ h=>(by cases h;exact hkn),.inl ⟨h1,rfl,rfl⟩,h2⟩
 . exact⟨_,_,fun _ _ h=>(by cases h;exact BW _),.inr ⟨j,rfl,rfl⟩,h2⟩
end
section
variable {P:Program} {m:Mo}
def Vr (F:Fence)(n:Nat)(P:Program)(c:Code)(Q:Exit->Act->World->Prop)(a:Act)(w:World):Prop:=
 ∀(b:Frame) (k:List Item) (cs:List Frame),b.roundOf=F.round->F.fn b.fn->F.room (cs.length+1+n)->
  ∃e a' w',Q e a' w'/\ArrivesIn (Machine.fenced P F) P (lone (b.atR a (.code c:: .inLoop c::k)) cs w) b k cs e a' w'
theorem Vr.round {F:Fence}{n:Nat}{c:Code}{Q:Exit->Act->World->Prop}{a:Act}{w:World}(h:c.wpIn F n P (Exit.then (Vr F n P c Q) Q) a w):Vr F n P c Q a w:=by
 intro b k cs hro hb hr;obtain⟨e,a₁,w₁,hq,harr⟩:=h b (.inLoop c::k) cs hro hb hr;cases e with
 | normal =>
   obtain⟨e₂,a₂,w₂,tz,sx⟩:=hq b k cs hro hb hr;exact⟨e₂,a₂,w₂,tz,.of_steps (StepsIn.trans harr (.one (fenced_calm hb hr rfl) stepR_inLoop)) sx⟩
 | exit id=>exact⟨_,a₁,w₁,hq,.pass (x:=.inLoop c) rfl (fun _ _=>.inl (by simp)) harr⟩
 | goto l=>exact⟨_,a₁,w₁,hq,.pass (x:=.inLoop c) rfl (fun _ _=>.inl (by simp)) harr⟩
 | ret=>exact⟨_,a₁,w₁,hq,.pass (x:=.inLoop c) rfl (fun _ _=>.inl (by simp)) harr⟩
 | panic ch=>exact⟨_,a₁,w₁,hq,.pass (x:=.inLoop c) rfl (fun _ _=>.inl (by simp)) harr⟩
 | outgrown=>exact⟨_,a₁,w₁,hq,.pass (x:=.inLoop c) rfl (fun _ _=>.inl (by simp)) harr⟩
theorem Vr.loop {F:Fence}{n:Nat}{c:Code}{Q:Exit->Act->World->Prop}{a:Act}{w:World}(h:Vr F n P c Q a w):(Code.loop c).wpIn F n P Q a w:=by
 intro b k cs hro hb hr;obtain⟨e,a',w',hq,harr⟩:=h b k cs hro hb hr;exact⟨e,a',w',hq,.of_steps (.one (fenced_calm hb hr rfl) stepR_loop) harr⟩
def LA (m:Mo)(P:Program)(c:Code)(K:Exit->St->Prop)(s:St):Prop:=
 ∀(n:Nat) (S0:Ba) (w0:Bs) (x:Cx) (a:Act) (w:World),w0.n0<=m.n0->CT S0 w0 x s a w->Vr (fz m) n P c (fun e a w=>∃x s,CT S0 w0 x s a w/\K e s) a w
theorem LA.loop {c:Code}{K:Exit->St->Prop}{s:St}(h:LA m P c K s):AW m P (.loop c) K s:=fun n S0 w0 x a w hm hA=>(h n S0 w0 x a w hm hA).loop
theorem LA.round {c:Code}{K:Exit->St->Prop}{s:St}(h:AW m P c (LM (LA m P c K) K) s):LA m P c K s:=fun n S0 w0 x a w hm hA=>Vr.round (wpIn_mono (h n S0 w0 x a w hm hA) fun e a w ⟨x,s,h1,h2⟩=>by
 cases e with
 | normal=>exact h2 n S0 w0 x a w hm h1
 | _=>exact⟨x,s,h1,h2⟩)
theorem LA.le {c:Code}{K:Exit->St->Prop}{s s':St}(hl:Le m s s')(h:LA m P c K s'):LA m P c K s:=fun n S0 w0 x a w hm hA=>let ⟨x',h'⟩:=hl S0 w0 x a w hm hA;h n S0 w0 x' a w hm h'
end
mutual
def V.Ec (ρ:Nat->Nat):V->V
 | .ptr k off=>.ptr (ρ k) off
 | .own k off len es=>.own (ρ k) off len es
 | .gr k es rows=>.gr (ρ k) es rows
 | .hot k es rows=>.hot (ρ k) es rows
 | .hp k n pos=>.hp (ρ k) n pos
 | .agg l=>.agg (V.Qd ρ l)
 | .Bk l=>.Bk (V.Qd ρ l)
 | .fn f l=>.fn f (V.Qd ρ l)
 | .any=>.any
 | .c d=>.c d
 | .cp r off=>.cp r off
 | .full r=>.full r
 | .yl l=>.yl l
 | .mp k=>.mp (ρ k)
def V.Qd (ρ:Nat->Nat):List V->List V
 | []=>[]
 | v::l=>V.Ec ρ v::V.Qd ρ l
end
def Cx.pull (x:Cx)(ρ:Nat->Nat)(N:Nat):Cx:={ dom:=fun k=>k<N/\x.dom (ρ k),loc:=fun k=>x.loc (ρ k),S:=x.S }
mutual
theorem CV.pull {x:Cx}{w:World}{ρ:Nat->Nat}{N:Nat} : ∀(v:V) (u:Value),v.BA N=true->CV x w (V.Ec ρ v) u->CV (x.pull ρ N) w v u
 | .ptr k off,u,hb,h=>by simp only[V.BA,decide_eq_true_eq]at hb;simp only[V.Ec,CV,Cx.pull]at h ⊢;exact⟨⟨hb,h.1⟩,h.2⟩
 | .own k off len es,u,hb,h=>by simp only[V.BA,decide_eq_true_eq]at hb;simp only[V.Ec,CV,Cx.pull]at h ⊢;exact⟨⟨hb,h.1⟩,h.2⟩
 | .gr k es rows,u,hb,h=>by simp only[V.BA,decide_eq_true_eq]at hb;simp only[V.Ec,CV,Cx.pull]at h ⊢;exact⟨⟨hb,h.1⟩,h.2⟩
 | .hot k es rows,u,hb,h=>by simp only[V.BA,decide_eq_true_eq]at hb;simp only[V.Ec,CV,Cx.pull]at h ⊢;exact⟨⟨hb,h.1⟩,h.2⟩
 | .hp k m pos,u,hb,h=>by simp only[V.BA,decide_eq_true_eq]at hb;simp only[V.Ec,CV,Cx.pull]at h ⊢;exact⟨⟨hb,h.1⟩,h.2⟩
 | .agg l,u,hb,h=>by simp only[V.BA]at hb;simp only[V.Ec,CV]at h ⊢;obtain⟨vs,e,h⟩:=h;exact⟨vs,e,AL.pull l _ hb h⟩
 | .Bk l,u,hb,h=>by simp only[V.BA]at hb;simp only[V.Ec,CV]at h ⊢;obtain⟨vs,e,h⟩:=h;exact⟨vs,e,AL.pull l _ hb h⟩
 | .fn f l,u,hb,h=>by simp only[V.BA]at hb;simp only[V.Ec,CV]at h ⊢;obtain⟨vs,e,h⟩:=h;exact⟨vs,e,AL.pull l _ hb h⟩
 | .any,u,_,h=>by simp only[CV]
 | .c _,u,_,h=>by simpa only[V.Ec,CV,Cx.pull]using h
 | .cp _ _,u,_,h=>by simpa only[V.Ec,CV,Cx.pull]using h
 | .full _,u,_,h=>by simpa only[V.Ec,CV,Cx.pull]using h
 | .yl l,u,_,h=>by simpa only[V.Ec,CV]using h
 | .mp k,u,hb,h=>by simp only[V.BA,decide_eq_true_eq]at hb;simp only[V.Ec,CV,Cx.pull]at h ⊢;exact⟨⟨hb,h.1⟩,h.2⟩
theorem AL.pull {x:Cx}{w:World}{ρ:Nat->Nat}{N:Nat} : ∀(l:List V) (us:List Value),V.BT N l=true->AL x w (V.Qd ρ l) us->AL (x.pull ρ N) w l us
 | [],us,_,h=>by simpa only[V.Qd,AL]using h
 | v::l,us,hb,h=>by
   simp only[V.BT,An]at hb;simp only[V.Qd,AL]at h ⊢;obtain⟨u,ur,e,h1,h2⟩:=h;exact⟨u,ur,e,CV.pull v u hb.1 h1,AL.pull l ur hb.2 h2⟩
end
def Wk (ρ:Nat->Nat)(N:Nat)(v v':V):Prop:=v'=.any\/(v=v'.Ec ρ/\v'.BA N=true)\/∃rows,v=.full rows/\v'=.c (.sl rows)
def Cv (ρ:Nat->Nat)(N:Nat):List V->List V->Prop
 | [],l'=>l'=[]
 | v::l,v'::l'=>Wk ρ N v v'/\Cv ρ N l l'
 | _::_,[]=>False
theorem Wk.ok {x:Cx}{w:World}{ρ:Nat->Nat}{N:Nat}{v v':V}{u:Value}(h:Wk ρ N v v')(hv:CV x w v u):CV (x.pull ρ N) w v' u:=by
 rcases h with rfl|⟨rfl,h⟩|⟨rows,rfl,rfl⟩
 . simp only[CV]
 . exact CV.pull v' u h hv
 . simp only[CV]at hv ⊢;obtain⟨_,_,hv⟩:=hv;exact hv
theorem Cv.ok {x:Cx}{w:World}{ρ:Nat->Nat}{N:Nat} : ∀ {l l':List V} {us:List Value},Cv ρ N l l'->AL x w l us->AL (x.pull ρ N) w l' us
 | [],l',us,h,hv=>by simp only[Cv]at h;subst h;simpa only[AL]using hv
 | v::l,[],us,h,_=>by simp[Cv]at h
 | v::l,v'::l',us,h,hv=>by
   simp only[Cv]at h;simp only[AL]at hv ⊢;obtain⟨u,ur,e,h1,h2⟩:=hv;exact⟨u,ur,e,h.1.ok h1,Cv.ok h.2 h2⟩
theorem Cv.append {ρ:Nat->Nat}{N:Nat} : ∀ {l l' k k':List V},Cv ρ N l l'->Cv ρ N k k'->Cv ρ N (l++k) (l'++k')
 | [],l',k,k',h,h2=>by simp only[Cv]at h;subst h;exact h2
 | v::l,[],k,k',h,_=>by simp[Cv]at h
 | v::l,v'::l',k,k',h,h2=>by simp only[Cv]at h;exact⟨h.1,Cv.append h.2 h2⟩
theorem Cv.any {ρ:Nat->Nat}{N:Nat} : ∀(l:List V),Cv ρ N l (As l.length .any)
 | []=>rfl
 | v::l=>⟨.inl rfl,Cv.any l⟩
theorem Cv.same {ρ:Nat->Nat}{N:Nat} : ∀ {l:List V},V.Qd ρ l=l->V.BT N l=true->Cv ρ N l l
 | [],_,_=>rfl
 | v::l,h,hb=>by
   simp only[V.Qd,List.cons.injEq]at h;simp only[V.BT,An]at hb;exact⟨.inr (.inl ⟨h.1.symm,hb.1⟩),Cv.same h.2 hb.2⟩
def Wo (ρ:Nat->Nat)(N:Nat):O->O->Prop
 | .box ty cs fr,.box Fy cs' ca=>ty=Fy/\fr=ca/\Cv ρ N cs cs'
 | .tok ty es cur,.tok Fy es' WA=>ty=Fy/\es=es'/\cur=WA
 | _,_=>False
theorem Le.Ec {rd:Option Nat}{t t':List V}{h h':List O}(ρ:Nat->Nat)(AMn : ∀i j,i<h'.length->j<h'.length->ρ i=ρ j->i=j)(ht:Cv ρ h'.length t t')(hh : ∀k o',h'[k]?=some o'->∃o,h[ρ k]?=some o/\Wo ρ h'.length o o'):Le ⟨rd,0⟩ ⟨t,h⟩ ⟨t',h'⟩:=fun S0 w0 x a w hm hA=>by
 have g:=hA.good;have WZ : ∀k,¬w0.x0.dom k:=fun k hk=>by have:=w0.dl k hk;have:w0.n0<=0:=hm;omega
 have hlt : ∀ {k o'},h'[k]?=some o'->k<h'.length:=fun hk=>(Bv.1 hk).1
 have du : ∀ {k o o'},Wo ρ h'.length o o'->NX x w (ρ k) o->NX (x.pull ρ h'.length) w k o':=by
  intro k o o' hw Au;cases o with
  | box ty cs fr =>
    cases o' with
    | box Fy cs' ca =>
      obtain⟨rfl,rfl,hc⟩:=hw;obtain⟨a1,a2,vs,a3,a4,a5⟩:=Au;exact⟨a1,a2,vs,a3,a4,hc.ok a5⟩
    | tok _ _ _=>exact hw.elim
    | hot _ _ _ _=>exact hw.elim
    | mp _=>exact hw.elim
  | tok ty es cur =>
    cases o' with
    | tok Fy es' WA=>obtain⟨rfl,rfl,rfl⟩:=hw;exact Au
    | box _ _ _=>exact hw.elim
    | hot _ _ _ _=>exact hw.elim
    | mp _=>exact hw.elim
  | hot _ _ _ _=>exact hw.elim
  | mp _=>exact hw.elim
 have hex : ∀ {k o o' j},Wo ρ h'.length o o'->Ex (x.pull ρ h'.length) k o' j->Ex x (ρ k) o j:=by
  intro k o o' j hw hx;cases o with
  | box ty cs fr =>
    cases o' with
    | box Fy cs' ca=>obtain⟨rfl,rfl,hc⟩:=hw;exact hx
    | tok _ _ _=>exact hw.elim
    | hot _ _ _ _=>exact hw.elim
    | mp _=>exact hw.elim
  | tok ty es cur =>
    cases o' with
    | tok Fy es' WA=>obtain⟨rfl,rfl,rfl⟩:=hw;exact hx
    | box _ _ _=>exact hw.elim
    | hot _ _ _ _=>exact hw.elim
    | mp _=>exact hw.elim
  | hot _ _ _ _=>exact hw.elim
  | mp _=>exact hw.elim
 refine⟨x.pull ρ h'.length,⟨fun k o' hk=>?_,fun k hk=>?_,fun k k' o o' h1 h2 hne hv hv'=>?_,fun k o' j hk hx=>?_,g.ex,fun k o' hk hv=>?_,g.new,g.sub,g.keep,g.ext.ar,fun k hk=>(WZ k hk).elim,fun k hk=>(WZ k hk).elim⟩,ht.ok hA.tm,hA.df⟩
 . obtain⟨o,ho,hw⟩:=hh k o' hk;obtain⟨h1,h2⟩:=g.ok _ o ho;exact⟨⟨hlt hk,h1⟩,du hw h2⟩
 . exact⟨_,List.getElem?_eq_getElem hk.1⟩
 . obtain⟨p,hp,_⟩:=hh k o h1;obtain⟨p',Ud,_⟩:=hh k' o' h2;exact g.inj _ _ p p' hp Ud (fun e=>hne (AMn _ _ (hlt h1) (hlt h2) e)) hv hv'
 . obtain⟨o,ho,hw⟩:=hh k o' hk;exact g.EI _ o j ho (hex hw hx)
 . obtain⟨o,ho,_⟩:=hh k o' hk;exact g.own _ o ho hv
theorem jn {m:Mo}{P:Program}{c d:Code}{K:Exit->St->Prop}{t:List V}{h:List O}{ι:Type}(f:ι->List (Nat×V)){ws:List Nat}{t0:List V}(hc:AW m P c (LM (fun s'=>∃i:ι,Le m s' ⟨Br (f i) t0,h⟩) K) ⟨t,h⟩)(hr : ∀i:ι,AW m P d K ⟨Br (f i) t0,h⟩)(hw:wr c=ws:=by simp only[wr,gQ,List.cons_append,List.nil_append,List.append_nil,List.append_assoc];exact rfl)(ht:dP ws t=t0:=by simp only[dP,List.foldl_cons,List.foldl_nil,List.set_cons_zero,List.set_cons_succ];exact rfl):AW m P c (LM (AW m P d K) K) ⟨t,h⟩:=
 hc.mono fun e s h=>by
  cases e with
  | normal=>obtain⟨i,hi⟩:=h;exact AW.le hi (hr i)
  | _=>exact h
theorem Hn {x:Cx}{w:World}{t:List V}{a:Act}(h:AL x w t a.tmps.toList){i:Nat}{v:V}(hi:t[i]?=some v):CV x w v (a.eval (.tmp i)):=by
 have:=EH h (.tmp i);simpa [ev,List.getD_eq_getElem?_getD,hi]using this
theorem cU {x:Cx}{w:World}{t:List V}{a:Act}(h:AL x w t a.tmps.toList){i:Nat}{c:C}(hi:t[i]?=some (.c c)):Ap x.S w c (a.eval (.tmp i)):=by
 have:=Hn h hi;simpa only[CV]using this
theorem kH (l:List Int)(hl:l.length<=1000000):AC AD 172 [.c (Ab l)] (.c (Ab l)):=by
 have f1:l.length<=maxLen:=by unfold maxLen;omega
 have f2:l.length*8<=140737488355328:=by omega
 unfold Ab;refine en oy Tryz.ntmps172 ?_;with_reducible refine AW.seq ?_
 with_reducible refine AW.region ?_
 with_reducible refine Bw (by simp[Ao];first|exact rfl|exact⟨rfl,rfl⟩) ?_
 with_reducible refine B9 ?_
 with_reducible refine G7 ?_
 with_reducible refine AW.seq ?_
 with_reducible refine AW.seq ?_
 with_reducible refine AW.DM ?_
 refine SW.take 1 ?_;with_reducible refine Bw (by simp[Ao];first|exact rfl|exact⟨rfl,rfl⟩) ?_
 refine B9 ?_;simp only[Be,BO];refine SW.Jm (fun v t=>t=none/\∃b:Bool,v=.c (.bool b)/\(b=true->l.map (fun n=>[C.int Ad n])=[])) (by simp[gate]) ?_ ?_
 . intro S0 w0 x a w g ht hk;exact AP5 (P:=AD) g _ rfl (by simp;exact⟨rfl,rfl,rfl⟩) (cU ht rfl) rfl
 rintro v t ⟨rfl,b,rfl,hb⟩;cases b with
 | true =>
   have:l=[]:=by simpa using hb rfl
   subst this;refine SW.nil ?_;refine Ac ?_;simp[Aj,AV,AZ,Aa,V.AP,V.AO,AU,Tryz.results172]
 | false =>
   refine SW.nil ?_;refine Ac ?_;with_reducible refine AW.DM ?_
   refine SW.Jm (fun v t=>t=none/\v=.full []) (by simp[gate]) ?_ ?_
   . intro S0 w0 x a w g ht hk;exact⟨_,_,fun _ _ h=>(by cases h),⟨rfl,rfl⟩,fL (P:=AD) g (t:=39) rfl (Ah:=3) (es:=1) (Bu:=8) (by simp)⟩
   rintro v t ⟨rfl,rfl⟩;refine SW.take 3 ?_;with_reducible refine Bw (by simp[Ao,f1,f2];first|exact rfl|exact⟨rfl,rfl⟩) ?_
   refine B9 ?_;simp only[Be,BO];refine SW.nil ?_;refine Ac ?_;simp[Aj,AV,AZ,Aa,V.AP,V.AO,AU,Tryz.results172]
mutual
def V.sf (N:Nat):V->Bool
 | .ptr k _=>decide (k<N) && decide (k≠2)
 | .own k _ _ _=>decide (k<N) && decide (k≠2)
 | .gr k _ _=>decide (k<N) && decide (k≠2)
 | .hot k _ _=>decide (k<N) && decide (k≠2)
 | .hp k _ _=>decide (k<N) && decide (k≠2)
 | .mp _=>false
 | .agg l=>V.DB N l
 | .Bk l=>V.DB N l
 | .fn _ l=>V.DB N l
 | .any=>true
 | .c _=>true
 | .cp _ _=>true
 | .full _=>true
 | .yl _=>true
def V.DB (N:Nat):List V->Bool
 | []=>true
 | v::l=>v.sf N && V.DB N l
end
mutual
theorem wP {N:Nat}{ρ:Nat->Nat}(QQ : ∀k,k<N->k≠2->ρ k=k):∀v:V,v.sf N=true->v.Ec ρ=v
 | .ptr k _,h=>by simp only[V.sf,An,decide_eq_true_eq]at h;simp only[V.Ec,QQ k h.1 h.2]
 | .own k _ _ _,h=>by simp only[V.sf,An,decide_eq_true_eq]at h;simp only[V.Ec,QQ k h.1 h.2]
 | .gr k _ _,h=>by simp only[V.sf,An,decide_eq_true_eq]at h;simp only[V.Ec,QQ k h.1 h.2]
 | .hot k _ _,h=>by simp only[V.sf,An,decide_eq_true_eq]at h;simp only[V.Ec,QQ k h.1 h.2]
 | .hp k _ _,h=>by simp only[V.sf,An,decide_eq_true_eq]at h;simp only[V.Ec,QQ k h.1 h.2]
 | .mp _,h=>by simp[V.sf]at h
 | .agg l,h=>by simp only[V.sf]at h;simp only[V.Ec,ft QQ l h]
 | .Bk l,h=>by simp only[V.sf]at h;simp only[V.Ec,ft QQ l h]
 | .fn _ l,h=>by simp only[V.sf]at h;simp only[V.Ec,ft QQ l h]
 | .any,_=>rfl
 | .c _,_=>rfl
 | .cp _ _,_=>rfl
 | .full _,_=>rfl
 | .yl _,_=>rfl
theorem ft {N:Nat}{ρ:Nat->Nat}(QQ : ∀k,k<N->k≠2->ρ k=k):∀l:List V,V.DB N l=true->V.Qd ρ l=l
 | [],_=>rfl
 | v::l,h=>by simp only[V.DB,An]at h;simp only[V.Qd,wP QQ v h.1,ft QQ l h.2]
end
mutual
theorem wO {N M:Nat}(hM:N<=M):∀v:V,v.sf N=true->v.BA M=true/\v.sf M=true
 | .ptr k _,h=>by simp only[V.sf,V.BA,An,decide_eq_true_eq]at h ⊢;omega
 | .own k _ _ _,h=>by simp only[V.sf,V.BA,An,decide_eq_true_eq]at h ⊢;omega
 | .gr k _ _,h=>by simp only[V.sf,V.BA,An,decide_eq_true_eq]at h ⊢;omega
 | .hot k _ _,h=>by simp only[V.sf,V.BA,An,decide_eq_true_eq]at h ⊢;omega
 | .hp k _ _,h=>by simp only[V.sf,V.BA,An,decide_eq_true_eq]at h ⊢;omega
 | .mp _,h=>by simp[V.sf]at h
 | .agg l,h=>by simp only[V.sf,V.BA]at h ⊢;exact Mb hM l h
 | .Bk l,h=>by simp only[V.sf,V.BA]at h ⊢;exact Mb hM l h
 | .fn _ l,h=>by simp only[V.sf,V.BA]at h ⊢;exact Mb hM l h
 | .any,_=>⟨rfl,rfl⟩
 | .c _,_=>⟨rfl,rfl⟩
 | .cp _ _,_=>⟨rfl,rfl⟩
 | .full _,_=>⟨rfl,rfl⟩
 | .yl _,_=>⟨rfl,rfl⟩
theorem Mb {N M:Nat}(hM:N<=M):∀l:List V,V.DB N l=true->V.BT M l=true/\V.DB M l=true
 | [],_=>⟨rfl,rfl⟩
 | v::l,h=>by
   simp only[V.DB,An]at h;have h1:=wO hM v h.1;have h2:=Mb hM l h.2;simp only[V.BT,V.DB,h1.1,h1.2,h2.1,h2.2,Bool.and_self,and_self]
end
mutual
theorem ATe {N L:Nat}{row:List C}(hL:N<=L):∀v:V,v.sf N=true->v.AR L row=v
 | .ptr k _,h=>by simp only[V.sf,An,decide_eq_true_eq]at h;simp only[V.AR];rw[if_neg (by omega)]
 | .own k _ _ _,h=>by simp only[V.sf,An,decide_eq_true_eq]at h;simp only[V.AR];rw[if_neg (by omega)]
 | .gr k _ _,h=>rfl
 | .hot k _ _,h=>rfl
 | .hp k _ _,h=>rfl
 | .mp _,h=>by simp[V.sf]at h
 | .agg l,h=>by simp only[V.sf]at h;simp only[V.AR,Rx hL l h]
 | .Bk l,h=>by simp only[V.sf]at h;simp only[V.AR,Rx hL l h]
 | .fn _ l,h=>by simp only[V.sf]at h;simp only[V.AR,Rx hL l h]
 | .any,_=>rfl
 | .c _,_=>rfl
 | .cp _ _,_=>rfl
 | .full _,_=>rfl
 | .yl _,_=>rfl
theorem Rx {N L:Nat}{row:List C}(hL:N<=L):∀l:List V,V.DB N l=true->V.BG L row l=l
 | [],_=>rfl
 | v::l,h=>by simp only[V.DB,An]at h;simp only[V.BG,ATe hL v h.1,Rx hL l h.2]
end
theorem VJ {N:Nat} : ∀ {l:List V},V.DB N l=true↔∀v∈l,v.sf N=true
 | []=>by simp[V.DB]
 | v::l=>by simp only[V.DB,An,VJ (l:=l),List.forall_mem_cons]
theorem VI {N:Nat}{l k:List V}:V.DB N (l++k)=true↔V.DB N l=true/\V.DB N k=true:=by
 simp only[VJ,List.mem_append];exact⟨fun h=>⟨fun v hv=>h v (.inl hv),fun v hv=>h v (.inr hv)⟩,fun h v hv=>hv.elim (h.1 v) (h.2 v)⟩
theorem nR {N:Nat}{l:List V}{i:Nat}{v:V}(h:V.DB N l=true)(hv:v.sf N=true):V.DB N (l.set i v)=true:=by
 rw[VJ]at h ⊢;intro u hu;rcases List.mem_or_eq_of_mem_set hu with hu|rfl
 . exact h u hu
 . exact hv
theorem Zi {N:Nat}(l:List C):V.DB N (l.map V.c)=true:=by
 rw[VJ];intro v hv;obtain⟨c,_,rfl⟩:=DC.1 hv;rfl
theorem cb {k:Nat}{row:List C} : ∀(l:List V),V.BG k row l=l.map (V.AR k row)
 | []=>rfl
 | v::l=>by simp only[V.BG,Al,cb l]
def FH (q i:Nat):Nat:=if i=2 then q else i
theorem Kg {q N M:Nat}{l:List V}(h:V.DB N l=true)(hM:N<=M):Cv (FH q) M l l:=
 Cv.same (ft (N:=N) (fun k _ hk=>by simp[FH,hk]) l h) (Mb hM l h).1
theorem Le.Em {t t':List V}{g h:List O}(q:Nat)(hq:q=2\/h.length<=q)(ht:Cv (FH q) h.length t t')(h2 : ∃o o',g[q]?=some o/\h[2]?=some o'/\Wo (FH q) h.length o o')(hh : ∀i o',i≠2->h[i]?=some o'->∃o,g[i]?=some o/\Wo (FH q) h.length o o'):Le ⟨none,0⟩ ⟨t,g⟩ ⟨t',h⟩:=by
 refine Le.Ec (FH q) (fun i j hi hj e=>?_) ht (fun i o' ho=>?_)
 . unfold FH at e;by_cases e1:i=2
   . by_cases e2:j=2
     . omega
     . rw[if_pos e1,if_neg e2]at e;omega
   . by_cases e2:j=2
     . rw[if_neg e1,if_pos e2]at e;omega
     . rw[if_neg e1,if_neg e2]at e;exact e
 . by_cases e:i=2
   . subst e;obtain⟨o,o2,h3,h4,h5⟩:=h2;rw[h4]at ho;cases ho;exact⟨o,by simpa [FH]using h3,h5⟩
   . obtain⟨o,h3,h4⟩:=hh i o' e ho;exact⟨o,by simpa [FH,e]using h3,h4⟩
def FY (h:List O):Prop:=∀(i:Nat) (o:O),i≠2->h[i]?=some o->∃ty cs fr,o=.box ty cs fr/\V.DB h.length cs=true
theorem T1 {q N M:Nat}{o:O}(h : ∃ty cs fr,o=.box ty cs fr/\V.DB N cs=true)(hM:N<=M):Wo (FH q) M o o:=by
 obtain⟨ty,cs,fr,rfl,h⟩:=h;exact⟨rfl,rfl,Kg h hM⟩
theorem FY.set {h:List O}(hs:FY h){k:Nat}{ty:TypeId}{cs:List V}{fr:Bool}(hc:V.DB h.length cs=true):FY (h.set k (.box ty cs fr)):=by
 intro i o hi ho;rw[OH]at ho;rw[DU];by_cases e:k=i
 . subst e;rw[if_pos rfl]at ho;split at ho
   . cases ho;exact⟨ty,cs,fr,rfl,hc⟩
   . cases ho
 . rw[if_neg e]at ho;exact hs i o hi ho
theorem FY.push {h:List O}(hs:FY h){ty:TypeId}{cs:List V}{fr:Bool}(hc:V.DB h.length cs=true):FY (h++[.box ty cs fr]):=by
 intro i o hi ho;rw[C3,List.length_singleton];rcases Nat.lt_trichotomy i h.length with hl|hl|hl
 . rw[FK hl]at ho;obtain⟨ty,cs,fr,rfl,h1⟩:=hs i o hi ho;exact⟨ty,cs,fr,rfl,(Mb (xy _) cs h1).2⟩
 . subst hl;rw[IP (BW _)]at ho;simp at ho;subst ho;exact⟨ty,cs,fr,rfl,(Mb (xy _) cs hc).2⟩
 . rw[IP (by omega),List.getElem?_eq_none (by simp;omega)]at ho;cases ho
def cM:Option Code->Code
 | some (.seq _ (.seq _ (.seq (.loop c) _)))=>c
 | some (.seq _ (.seq _ (.seq (.block _ (.loop c)) _)))=>c
 | some (.seq _ (.seq _ (.seq c _)))=>c
 | _=>.skip
def Em (st:List V)(j:Nat):O:=.box 253 (st++As j .any) false
def dT (n:Nat):List V:=[.any,.ptr 0 0,.ptr 1 0,.own 2 0 n 1]++As 67 .any
noncomputable def Gt:Code:=cM (iJ).body
noncomputable def cS:Code:=match Gt with
 | .seq _ (.block _ (.seq _ (.seq _ (.seq _ (.seq _ (.seq _ (.seq _ (.seq _ (.seq _ (.block _ (.loop c)))))))))))=>c
 | _=>.skip
theorem Zh {α:Type}{l:List α}{i:Nat}{v:α}(h:l[i]?=some v):l.set i v=l:=by
 apply List.ext_getElem?;intro j;rw[OH];by_cases e:i=j
 . subst e;have hl:=(Bv.1 h).1;simp only[if_true,hl];exact h.symm
 . simp[e]
theorem AKN {K:Exit->St->Prop}(H:List O)(n k off:Nat)(ty:TypeId)(cs Nc:List V)(src:List Int)(h2:H[2]?=some (.box 253 Nc false))(hk:H[k]?=some (.box ty cs false))(hk2:k≠2)(hp:Nc[n]?=some (.ptr k off))(hn:n<1000000)(hs:src.length<=1000000)(Hq:cs[off+8]?=some (.c (.sl [])))(P7:cs[off+10]?=some (.c (Ab src)))(hK : ∀t,t.length=71->t.take 4=[.any,.ptr 0 0,.ptr 1 0,.own 2 0 n 1]->LA ⟨none,0⟩ AD Gt K ⟨t,H.set k (.box ty (cs.set (off+8) (.full [])) false)⟩) :
 AW ⟨none,0⟩ AD Gt (LM (LA ⟨none,0⟩ AD Gt K) K) ⟨dT (n+1),H⟩:=by
 have Bp:k<H.length:=(Bv.1 hk).1;have Ih:2<H.length:=(Bv.1 h2).1;have hw:Ad.wrap (n:Int)=(n:Int):=Aq;have Nn:off+8<cs.length:=(Bv.1 Hq).1;have tl:off+10<cs.length:=(Bv.1 P7).1;have S7:H[k]'Bp=.box ty cs false:=(Bv.1 hk).2;have tn:off+10+1<=cs.length:=tl;have TA:off+8+1<=cs.length:=Nn;have MJ:cs.set (off+10) (.c (Ab src))=cs:=Zh P7;have sV:H.set k (.box ty cs false)=H:=Zh hk;have hH1:(H.set k (.box ty (cs.set (off+8) (.full [])) false))[k]?=some (.box ty (cs.set (off+8) (.full [])) false):=by rw[EG Bp]
 have WW:(cs.set (off+8) (.full []))[off+8]?=some (.full []):=by rw[EG Nn]
 conv=>arg 3;unfold Gt
 simp only[cM,iJ,dT,Ao,C8,Bg,Bh];have hlt:(0:Int)<(n:Int)+1:=by omega
 have QH:(n:Int)<(n:Int)+1:=by omega
 refine go (cj @hw<|cj @h2<|cj @hp<|cj @hn<|cj @hlt<|@QH) ?_;with_reducible refine AW.DM ?_
 refine SW.take 4 ?_;with_reducible refine Bw (by simp[Ao,hw];first|exact rfl|exact⟨rfl,rfl⟩) ?_
 refine B9 ?_;simp only[Be,BO];refine SW.Jm (fun v t=>t=none/\v=.own 2 0 n 1) (by simp[gate]) ?_ ?_
 . intro S0 w0 x a w g ht hkk;exact⟨_,_,fun _ _ h=>(by cases h),⟨rfl,rfl⟩,mQ (P:=AD) (n:=n) (len:=n+1) g rfl (by simp;exact⟨rfl,rfl⟩) (Hn ht rfl) (Hn ht rfl) (by omega)⟩
 rintro v t ⟨rfl,rfl⟩;refine SW.take 1 ?_;with_reducible refine Bw (by simp[Ao];first|exact rfl|exact⟨rfl,rfl⟩) ?_
 refine B9 ?_;simp only[Be,BO];refine SW.nil ?_;refine go (cj @hk<|cj @Hq<|@P7) ?_;refine gc (cj @S7<|cj @Bp<|cj @tn<|cj @MJ<|@sV) (kH src hs) oy ?_;refine go (cj @S7<|cj @Bp<|@TA) ?_;with_reducible refine AW.DM ?_
 refine SW.take 5 ?_;with_reducible refine Bw (by simp[Ao,hH1,WW];first|exact rfl|exact⟨rfl,rfl⟩) ?_
 refine B9 ?_;simp only[Be,BO];refine SW.Jm (fun v t=>t=none/\v=.c (.int .i64 0)) (by simp[gate]) ?_ ?_
 . intro S0 w0 x a w g ht hkk;exact⟨_,_,fun _ _ h=>(by cases h),⟨rfl,rfl⟩,AEI (P:=AD) g rfl (by simp;exact⟨rfl,rfl,rfl⟩) (by have:=Hn (v:=.full []) ht (i:=49) rfl;simp only[CV]at this;obtain⟨_,_,h⟩:=this;exact h) (cU ht rfl)⟩
 rintro v t ⟨rfl,rfl⟩;refine SW.nil ?_;refine go (cj @hH1<|@WW) ?_;with_reducible refine LA.loop ?_
 with_reducible refine LA.round ?_
 refine Ac ?_;exact hK _ rfl rfl
def TI (n m i k off:Nat):List V:=[.any,.ptr 0 0,.ptr 1 0,.own 2 0 (n+i) 1,.ptr k off]++As 51 .any++[.c (.int .i64 (m:Int)),.c (.int .i64 (i:Int))]++As 13 .any
def E6 (L m:Nat):List V:=(List.range m).map fun i=>.ptr L (i*11)
theorem vg (L m:Nat):E6 L (m+1)=E6 L m++[.ptr L (m*11)]:=by simp[E6,List.range_succ]
theorem AE6 (L m:Nat):(E6 L m).length=m:=by simp[E6]
theorem ve {L N:Nat}(m:Nat)(h:L<N)(h2:L≠2):V.DB N (E6 L m)=true:=by
 rw[VJ];intro v hv;simp only[E6,DC]at hv;obtain⟨i,_,rfl⟩:=hv;simp[V.sf,h,h2]
theorem AFB {G h':List O}{t:List V}{n m i k off L q:Nat}{st:List V}{c':List V}(hG:FY G)(h2:2<G.length)(QE:k<G.length)(hk2:k≠2)(Sr:L<G.length)(Je:L≠2)(hst:V.DB G.length st=true)(hn:st.length=n)(hq:q=2\/G.length<=q)(C7:h'[q]?=some (.box 253 (st++E6 L (i+1)++c') false))(hh : ∀a,a<G.length->a≠2->h'[a]?=G[a]?)(ht:Cv (FH q) G.length t (TI n m (i+1) k off)):Le ⟨none,0⟩ ⟨t,h'⟩ ⟨TI n m (i+1) k off,G.set 2 (Em (st++E6 L (i+1)) c'.length)⟩:=by
 have hl:(G.set 2 (Em (st++E6 L (i+1)) c'.length)).length=G.length:=DU ..;refine Le.Em q (by rw[hl];exact hq) (by rw[hl];exact ht) ⟨_,_,C7,EG h2,?_⟩ (fun a o' ha ho=>?_)
 . rw[hl];refine⟨rfl,rfl,?_⟩;refine Cv.append ?_ (Cv.any c');exact Kg (N:=G.length) (VI.2 ⟨hst,ve _ Sr Je⟩) (BW _)
 . rw[Di (fun e=>ha e.symm)]at ho;have Et:a<G.length:=(Bv.1 ho).1;exact⟨o',by rw[hh a Et ha];exact ho,by rw[hl];exact T1 (hG a o' ha ho) (BW _)⟩
theorem ATc {α:Type}{l:List α}{n j:Nat}{x v:α}(h:l.length=n):(l++As (j+1) x).set n v=l++[v]++As j x:=by
 subst h;rw[YB _ _ (BW _),Nat.sub_self,Ao,BC];simp
theorem AKR {K:Exit->St->Prop}(H:List O)(n k off L m j:Nat)(ty:TypeId)(cs st:List V)(h2:H[2]?=some (Em st j))(hst:st.length=n)(hk:H[k]?=some (.box ty cs false))(hk2:k≠2)(hc:cs[off+8]?=some (.own L 0 m 11))(hL:L<H.length)(Je:L≠2)(Gw:FY H)(Ji:V.DB H.length st=true)(hb:n+m<1000000)(hK : ∀j',K (.exit 2) ⟨(TI n m m k off).set 58 (.c (.bool false)),H.set 2 (Em (st++E6 L m) j')⟩):AW ⟨none,0⟩ AD (.loop cS) K ⟨TI n m 0 k off,H⟩:=by
 have Bp:k<H.length:=(Bv.1 hk).1;have Ih:2<H.length:=(Bv.1 h2).1;refine AW.loop (ι:={ p:Nat×Nat // p.1<=m }) (fun p=>⟨TI n m p.1.1 k off,H.set 2 (Em (st++E6 L p.1.1) p.1.2)⟩) (fun p=>m - p.1.1) ⟨(0,j),Nat.zero_le _⟩ ?_ ?_
 . have e:H.set 2 (Em (st++E6 L 0) j)=H:=by
    have:E6 L 0=[]:=rfl;rw[this,List.append_nil];exact Zh h2
   simp only[e];exact Le.refl _
 rintro ⟨⟨i,j⟩,hi⟩;simp only at hi ⊢;obtain⟨G,hG⟩:∃G,G=H.set 2 (Em (st++E6 L i) j):=⟨_,rfl⟩
 have g2:G[2]?=some (Em (st++E6 L i) j):=by rw[hG,EG Ih]
 have gk:G[k]?=some (.box ty cs false):=by rw[hG,Di (fun e=>hk2 e.symm)];exact hk
 have gl:G.length=H.length:=by rw[hG,DU]
 rw[<-hG];conv=>arg 3;unfold cS
 simp only[Gt,cM,iJ,TI,Ao,C8,Bg,Bh];by_cases hlt:i<m
 . have CA:(i:Int)<(m:Int):=by omega
   have hw:Ad.wrap ((i:Int)+1)=((i+1:Nat):Int):=by rw[Aq];simp
   with_reducible refine AW.seq ?_
   refine go @CA ?_;with_reducible refine AW.DM ?_
   refine SW.take 7 ?_;with_reducible refine Bw (by simp[Ao,gk,hc,hlt];first|exact rfl|exact⟨rfl,rfl⟩) ?_
   refine B9 ?_;simp only[Be,BO];refine SW.Jm (fun v t=>v=.own G.length 0 1 1/\t=some (G.length,.box 253 [.ptr L (i*11)] false)) (by simp[gate]) ?_ ?_
   . intro S0 w0 x a w g ht hkk;exact⟨_,_,fun _ _ h=>(by cases h;exact BW _),⟨rfl,rfl⟩,mP (P:=AD) (Bu:=8) g rfl (by simp) (Hn ht (i:=66) rfl) rfl _ hkk⟩
   rintro v t ⟨rfl,rfl⟩;simp only[St.step,St.put,CG,Nat.lt_irrefl,if_false,Az,BC];have dF : ∀X,H.set 2 X=G.set 2 X:=by intro X;rw[hG,R9]
   have P2:2<G.length:=by omega
   have dA:1<G.length:=by omega
   have cz:0<G.length:=by omega
   have QE:k<G.length:=by omega
   have Sr:L<G.length:=by omega
   have dM:FY G:=by rw[hG];intro a o ha ho;rw[Di (fun e=>ha e.symm)]at ho;rw[DU];exact Gw a o ha ho
   have eK:V.DB G.length st=true:=by rw[gl];exact Ji
   obtain⟨G',P3⟩:∃G',G'=G++[.box 253 [.ptr L (i*11)] false]:=⟨_,rfl⟩
   have Sl:G'[2]?=some (.box 253 (st++E6 L i++As j V.any) false):=by rw[P3,FK P2];exact g2
   have sH:G'[G.length]?=some (.box 253 [.ptr L (i*11)] false):=by rw[P3,IP (BW _)];simp
   have gl':G'.length=G.length+1:=by rw[P3];simp
   have cu : ∀a,a<G.length->G'[a]?=G[a]?:=fun a ha=>by rw[P3,FK ha]
   have S9:(st++E6 L i).length=n+i:=by rw[C3,hst,AE6]
   rw[<-P3];refine SW.Jm (fun (v:V) (t:Option (Nat×O))=>(n+i<(st++E6 L i++As j V.any).length/\v=.own 2 0 (n+i+1) 1/\t=some (2,.box 253 ((st++E6 L i++As j V.any).set (n+i) (.ptr L (i*11))) false))\/∃j',v=.own G'.length 0 (n+i+1) 1/\t=some (G'.length,.box 253 ((st++E6 L i++As j V.any).take (n+i)++ .ptr L (i*11)::As j' V.any) false)) (by simp[gate]) ?_ ?_
   . intro S0 w0 x a w g ht hkk;exact AEH (P:=AD) (Bu:=8) g _ rfl (by simp) (Hn ht (i:=60) rfl) (Hn ht (i:=67) rfl) Sl sH rfl (by unfold maxLen;omega) (by omega) (by rw[C3,S9];omega) hkk (by show 2<=G'.length;omega)
   rintro v t (⟨JP,rfl,rfl⟩|⟨j',rfl,rfl⟩)
   . have hu:CG G' (some (2,.box 253 ((st++E6 L i++As j V.any).set (n+i) (.ptr L (i*11))) false))=G'.set 2 (.box 253 ((st++E6 L i++As j V.any).set (n+i) (.ptr L (i*11))) false):=by simp only[CG];rw[if_pos (by omega)]
     obtain⟨G2,L8⟩:∃G2,G2=G'.set 2 (.box 253 ((st++E6 L i++As j V.any).set (n+i) (.ptr L (i*11))) false):=⟨_,rfl⟩
     simp only[St.step,St.put,hu,<-L8,Az,BC];have hj : ∃jj,j=jj+1:=by rw[C3,S9,List.length_replicate]at JP;exact⟨j - 1,by omega⟩
     obtain⟨jj,rfl⟩:=hj;refine SW.take 1 ?_;with_reducible refine Bw (by simp[Ao];first|exact rfl|exact⟨rfl,rfl⟩) ?_
     refine B9 ?_;simp only[Be,BO];refine SW.nil ?_;refine go @hw ?_;refine⟨⟨(i+1,(As jj (V.any)).length),by omega⟩,by simp only;omega,?_⟩;simp only[dF];refine AFB (q:=2) dM P2 QE hk2 Sr Je eK hst (.inl rfl) ?_ ?_ ?_
     . rw[L8,EG (by omega),vg,ATc S9];simp
     . intro a ha IG;rw[L8,Di (fun e=>IG e.symm)];exact cu a ha
     . simp[Cv,Wk,V.Ec,V.BA,TI,FH,QE,hk2,P2,cz,dA];omega
   . have hu:CG G' (some (G'.length,.box 253 ((st++E6 L i++As j V.any).take (n+i)++ .ptr L (i*11)::As j' V.any) false))=G'++[.box 253 ((st++E6 L i++As j V.any).take (n+i)++ .ptr L (i*11)::As j' V.any) false]:=by simp only[CG];rw[if_neg (by omega)]
     obtain⟨G2,L8⟩:∃G2,G2=G'++[.box 253 ((st++E6 L i++As j V.any).take (n+i)++ .ptr L (i*11)::As j' V.any) false]:=⟨_,rfl⟩
     obtain⟨q,hq⟩:∃q,q=G'.length:=⟨_,rfl⟩
     simp only[St.step,St.put,hu,<-L8,Az,BC];rw[<-hq];refine SW.take 1 ?_;with_reducible refine Bw (by simp[Ao];first|exact rfl|exact⟨rfl,rfl⟩) ?_
     refine B9 ?_;simp only[Be,BO];refine SW.nil ?_;refine go @hw ?_;refine⟨⟨(i+1,(As j' (V.any)).length),by omega⟩,by simp only;omega,?_⟩;simp only[dF];refine AFB (q:=q) dM P2 QE hk2 Sr Je eK hst (.inr (by omega)) ?_ ?_ ?_
     . rw[L8,hq,IP (BW _),vg,List.take_left' S9];simp
     . intro a ha IG;rw[L8,FK (by omega)];exact cu a ha
     . simp[Cv,Wk,V.Ec,V.BA,TI,FH,QE,hk2,P2,cz,dA];omega
 . have CA : ¬(i:Int)<(m:Int):=by omega
   have tS:i=m:=by omega
   subst tS;refine go @CA ?_;rw[hG];exact hK j
theorem AKP {K:Exit->St->Prop}(H:List O)(n k off:Nat)(ty:TypeId)(cs:List V)(src:List Int)(rows:List (List C))(st:List V)(j:Nat)(hst:st.length=n)(h2:H[2]?=some (Em (st++[.ptr k off]) j))(hk:H[k]?=some (.box ty cs false))(hk2:k≠2)(hn:n<1000000)(hs:src.length<=1000000)(Hq:cs[off+8]?=some (.c (.sl rows)))(P7:cs[off+10]?=some (.c (Ab src)))(FT:0<rows.length)(HW:rows.length<=1000000)(Ra : ∀r∈rows,r.length=11)(Gw:FY H)(Ji:V.DB H.length st=true)(hb:n+rows.length<1000000)(hK : ∀j',LA ⟨none,0⟩ AD Gt K ⟨(TI n rows.length rows.length k off).set 58 (.c (.bool false)),(H.set k (O.box ty (cs.set (off+8) (.own H.length 0 rows.length 11)) false)++[O.box 41 (rows.flatten.map V.c) false]).set 2 (Em (st++E6 H.length rows.length) j')⟩) :
 AW ⟨none,0⟩ AD Gt (LM (LA ⟨none,0⟩ AD Gt K) K) ⟨dT (n+1),H⟩:=by
 have hp:(st++[V.ptr k off]++As j .any)[n]?=some (.ptr k off):=by rw[EW,IP (by omega),hst];simp
 obtain⟨Nc,UY⟩:∃Nc,Nc=st++[V.ptr k off]++As j .any:=⟨_,rfl⟩
 unfold Em at h2;rw[<-UY]at hp h2;have Bp:k<H.length:=(Bv.1 hk).1;have Ih:2<H.length:=(Bv.1 h2).1;have hw:Ad.wrap (n:Int)=(n:Int):=Aq;have Nn:off+8<cs.length:=(Bv.1 Hq).1;have tl:off+10<cs.length:=(Bv.1 P7).1;have S7:H[k]'Bp=.box ty cs false:=(Bv.1 hk).2;have tn:off+10+1<=cs.length:=tl;have TA:off+8+1<=cs.length:=Nn;have MJ:cs.set (off+10) (.c (Ab src))=cs:=Zh P7;have sV:H.set k (.box ty cs false)=H:=Zh hk;have hH1:(H.set k (.box ty (cs.set (off+8) (.full [])) false))[k]?=some (.box ty (cs.set (off+8) (.full [])) false):=by rw[EG Bp]
 have WW:(cs.set (off+8) (.full []))[off+8]?=some (.full []):=by rw[EG Nn]
 conv=>arg 3;unfold Gt
 simp only[cM,iJ,dT,Ao,C8,Bg,Bh];have hlt:(0:Int)<(n:Int)+1:=by omega
 have QH:(n:Int)<(n:Int)+1:=by omega
 refine go (cj @hw<|cj @h2<|cj @hp<|cj @hn<|cj @hlt<|@QH) ?_;with_reducible refine AW.DM ?_
 refine SW.take 4 ?_;with_reducible refine Bw (by simp[Ao,hw];first|exact rfl|exact⟨rfl,rfl⟩) ?_
 refine B9 ?_;simp only[Be,BO];refine SW.Jm (fun v t=>t=none/\v=.own 2 0 n 1) (by simp[gate]) ?_ ?_
 . intro S0 w0 x a w g ht hkk;exact⟨_,_,fun _ _ h=>(by cases h),⟨rfl,rfl⟩,mQ (P:=AD) (n:=n) (len:=n+1) g rfl (by simp;exact⟨rfl,rfl⟩) (Hn ht rfl) (Hn ht rfl) (by omega)⟩
 rintro v t ⟨rfl,rfl⟩;refine SW.take 1 ?_;with_reducible refine Bw (by simp[Ao];first|exact rfl|exact⟨rfl,rfl⟩) ?_
 refine B9 ?_;simp only[Be,BO];refine SW.nil ?_;refine go (cj @hk<|cj @Hq<|@P7) ?_;refine gc (cj @S7<|cj @Bp<|cj @tn<|cj @MJ<|@sV) (kH src hs) oy ?_;have JQ:(0:Int)<(rows.length:Int):=by omega
 have uA:128*(rows.length:Int)<=281474976710656:=by omega
 have M3:(rows.length:Int)<=9223372036854775807:=by omega
 refine go (cj @S7<|cj @Bp<|cj @TA<|cj @FT<|@JQ) ?_;with_reducible refine AW.DM ?_
 refine SW.take 4 ?_;with_reducible refine Bw (by simp[Ao,uA,M3];first|exact rfl|exact⟨rfl,rfl⟩) ?_
 refine B9 ?_;simp only[Be,BO];have tT : ∀a b:List O,(if k<H.length+1 then a else b)=a:=fun a b=>if_pos (by omega)
 have JL : ∀(o:O) (X:O),(H.set k o++[X])[k]?=some o:=fun o X=>by rw[FK (by simpa using Bp),EG Bp]
 have uE : ∀(o o':O) (X:O),(H.set k o++[X]).set k o'=H.set k o'++[X]:=fun o o' X=>by rw[Vd _ _ (by simpa using Bp),R9]
 have hss : ∀a b:V,(cs.set (off+8) a).set (off+8) b=cs.set (off+8) b:=fun a b=>R9 ..
 refine SW.take 3 ?_;with_reducible refine Bw (by simp[Ao,tT,JL,uE,hss,TA];first|exact rfl|exact⟨rfl,rfl⟩) ?_
 refine B9 ?_;simp only[Be,BO];refine SW.nil ?_;obtain⟨Z,hZ⟩:∃Z:List V,Z=(As rows.length [V.c (C.int Ad 0),V.c (C.str { data:=#[] }),V.c (C.int Ad 0),V.c (C.int Ad 0),V.c (C.int Ad 0),V.c (C.int Ad 0),V.c (C.int Ad 0),V.c (C.int Ad 0),V.full [],V.c (C.int Ad 0),V.full []]).flatten:=⟨_,rfl⟩
 rw[<-hZ];have KA:Z.length=rows.length*11:=by rw[hZ];simp[List.length_flatten]
 have hc3:(cs.set (off+8) (.own H.length 0 rows.length 11))[off+8]?=some (.own H.length 0 rows.length 11):=by rw[EG Nn]
 refine Ac ?_;with_reducible refine AW.DM ?_
 refine SW.take 5 ?_;with_reducible refine Bw (by simp[Ao,JL,hc3];first|exact rfl|exact⟨rfl,rfl⟩) ?_
 refine B9 ?_;simp only[Be,BO];obtain⟨H3,hH3⟩:∃H3,H3=H.set k (O.box ty (cs.set (off+8) (.own H.length 0 rows.length 11)) false)++[O.box 41 Z false]:=⟨_,rfl⟩
 rw[<-hH3];have sM:H3[H.length]?=some (.box 41 Z false):=by rw[hH3,IP (by simp)];simp
 have h3l:H3.length=H.length+1:=by rw[hH3];simp
 refine SW.Jm (fun v t=>v=.c (.int .i64 rows.length)/\t=some (H.length,.box 41 (rows.flatten.map V.c) false)) (by simp[gate]) ?_ ?_
 . intro S0 w0 x a w g ht hkk;exact⟨_,_,fun _ _ h=>(by cases h;show H.length<=H3.length;omega),⟨rfl,rfl⟩,AEJ (P:=AD) (Bu:=128) (es:=11) g rfl (by simp;exact rfl) (Hn ht (i:=49) rfl) (cU ht (i:=50) rfl) Ra sM KA⟩
 rintro v t ⟨rfl,rfl⟩;have hu:CG H3 (some (H.length,.box 41 (rows.flatten.map V.c) false))=H.set k (O.box ty (cs.set (off+8) (.own H.length 0 rows.length 11)) false)++[O.box 41 (rows.flatten.map V.c) false]:=by
  simp only[CG];rw[if_pos (by omega),hH3,YB _ _ (by simp)];simp
 simp only[St.step,St.put,hu,Az,BC];refine SW.nil ?_;obtain⟨D,hD⟩:∃D,D=rows.flatten.map V.c:=⟨_,rfl⟩
 have sR:V.DB H.length D=true:=by rw[hD];exact Zi _
 rw[<-hD]at hK ⊢;refine go (cj @JL<|@hc3) ?_;obtain⟨H4,Jd⟩:∃H4,H4=H.set k (O.box ty (cs.set (off+8) (.own H.length 0 rows.length 11)) false)++[O.box 41 D false]:=⟨_,rfl⟩
 rw[<-Jd]at hK ⊢;have e4:H4=(H++[O.box 41 D false]).set k (O.box ty (cs.set (off+8) (.own H.length 0 rows.length 11)) false):=by rw[Jd,Vd _ _ Bp]
 have l4:H4.length=H.length+1:=by rw[Jd];simp
 obtain⟨_,_,_,Fs,MF⟩:=Gw k _ hk2 hk;cases Fs;have s4:FY H4:=by
  rw[e4];refine FY.set (FY.push Gw sR) (nR ?_ ?_)
  . exact(Mb (by simp) cs MF).2
  . simp[V.sf];omega
 have k4:H4[k]?=some (.box ty (cs.set (off+8) (.own H.length 0 rows.length 11)) false):=by rw[Jd];exact JL _ _
 have g4:H4[2]?=some (.box 253 Nc false):=by rw[e4,Di hk2,FK Ih];exact h2
 have Qj:V.DB H4.length st=true:=(Mb (by omega) st Ji).2;refine AW.le (s':=⟨TI n rows.length 0 k off,H4.set 2 (Em st (j+1))⟩) ?_ ?_
 . refine Le.Em 2 (.inl rfl) ?_ ⟨_,_,g4,EG (by omega),?_⟩ (fun a o' ha ho=>?_)
   . rw[DU];simp[Cv,Wk,V.Ec,V.BA,TI,FH,hk2,l4];omega
   . rw[DU,UY,EW];exact⟨rfl,rfl,Cv.append (Kg Qj (BW _)) (by have:=Cv.any (ρ:=FH 2) (N:=H4.length) ([V.ptr k off]++As j .any);simpa [Nat.add_comm]using this)⟩
   . rw[Di (fun e=>ha e.symm)]at ho;exact⟨o',ho,by rw[DU];exact T1 (s4 a o' ha ho) (BW _)⟩
 . refine AKR (H4.set 2 (Em st (j+1))) n k off H.length rows.length (j+1) ty (cs.set (off+8) (.own H.length 0 rows.length 11)) st (EG (by omega)) hst (by rw[Di (fun e=>hk2 e.symm)];exact k4) hk2 hc3 (by rw[DU];omega) (by omega) ?_ (by rw[DU];exact Qj) hb (fun j'=>?_)
   . intro a o ha ho;rw[Di (fun e=>ha e.symm)]at ho;rw[DU];exact s4 a o ha ho
   . rw[R9];with_reducible refine NZ ?_
     refine Ac ?_;exact hK j'
mutual
def V.PT:V->Bool
 | .ptr _ _=>true
 | .c _=>true
 | .cp _ _=>true
 | .agg l=>V.OF l
 | .Bk l=>V.OF l
 | .fn _ l=>V.OF l
 | .yl _=>true
 | .any=>true
 | _=>false
def V.OF:List V->Bool
 | []=>true
 | v::l=>v.PT && V.OF l
end
mutual
theorem ARy {x:Cx}{w:World}{k b n:Nat}(hd:x.dom k)(ht:(x.loc k).tok=false)(hb:(x.loc k).b=b):∀(v v':V) (u:Value),V.PT v=true->V.DI k v=some v'->CV (Cx.one x.S b n) w v' u->CV x w v u
 | .ptr i off,v',u,_,h,hv=>by
   simp only[V.DI]at h;split at h
   . rename_i e;cases h;subst e;simp only[CV,Cx.one]at hv ⊢;exact⟨hd,ht,by rw[hb];exact hv.2.2⟩
   . cases h
 | .c c,v',u,_,h,hv=>by simp only[V.DI,BE]at h;subst h;simpa only[CV,Cx.one]using hv
 | .cp row off,v',u,_,h,hv=>by simp only[V.DI,BE]at h;subst h;simpa only[CV,Cx.one]using hv
 | .yl l,v',u,_,h,hv=>by simp only[V.DI,BE]at h;subst h;simpa only[CV]using hv
 | .agg l,v',u,hq,h,hv=>by
   simp only[V.DI,G6]at h;obtain⟨r,h,rfl⟩:=h;simp only[V.PT]at hq;simp only[CV]at hv ⊢;obtain⟨vs,e,hv⟩:=hv;exact⟨vs,e,Xd hd ht hb l r _ hq h hv⟩
 | .Bk l,v',u,hq,h,hv=>by
   simp only[V.DI,G6]at h;obtain⟨r,h,rfl⟩:=h;simp only[V.PT]at hq;simp only[CV]at hv ⊢;obtain⟨vs,e,hv⟩:=hv;exact⟨vs,e,Xd hd ht hb l r _ hq h hv⟩
 | .fn f caps,v',u,hq,h,hv=>by
   simp only[V.DI,G6]at h;obtain⟨r,h,rfl⟩:=h;simp only[V.PT]at hq;simp only[CV]at hv ⊢;obtain⟨vs,e,hv⟩:=hv;exact⟨vs,e,Xd hd ht hb caps r _ hq h hv⟩
 | .any,v',u,_,h,hv=>by simp only[CV]
 | .full _,_,_,hq,_,_=>by simp[V.PT]at hq
 | .gr _ _ _,_,_,hq,_,_=>by simp[V.PT]at hq
 | .own _ _ _ _,_,_,hq,_,_=>by simp[V.PT]at hq
 | .mp _,_,_,hq,_,_=>by simp[V.PT]at hq
 | .hot _ _ _,_,_,hq,_,_=>by simp[V.PT]at hq
 | .hp _ _ _,_,_,hq,_,_=>by simp[V.PT]at hq
theorem Xd {x:Cx}{w:World}{k b n:Nat}(hd:x.dom k)(ht:(x.loc k).tok=false)(hb:(x.loc k).b=b):∀(l l':List V) (us:List Value),V.OF l=true->V.DJ k l=some l'->AL (Cx.one x.S b n) w l' us->AL x w l us
 | [],l',us,_,h,hv=>by simp only[V.DJ,BE]at h;subst h;simpa only[AL]using hv
 | v::l,l',us,hq,h,hv=>by
   simp only[V.OF,An]at hq;unfold V.DJ at h;split at h
   . rename_i y r hy hr;cases h;simp only[AL]at hv ⊢;obtain⟨u,ur,rfl,h1,h2⟩:=hv;exact⟨u,ur,rfl,ARy hd ht hb v y u hq.1 hy h1,Xd hd ht hb l r ur hq.2 hr h2⟩
   . cases h
end
def AY (P:Program)(f:FuncId)(args:List V)(ty:TypeId)(cells cells':List V)(res:V):Prop:=
 ∀(S:Ba) (w:World) (us:List Value) (b:Nat) (vs:Array Value),(∀b' j,S b' j->b'<w.heap.size)->(∀j,j<vs.size->¬S b j)->w.heap[b]?=some (.cells vs ty (0,0))->AL (Cx.one S b vs.size) w cells vs.toList->AL (Cx.one S b vs.size) w args us->
  Calls P f us.toArray w fun r w'=>∃u S' CQ,r=.returned u/\KB (fun k=>k=b) w w'/\Ar S S' w w'/\(∀b' j,S' b' j->S b' j\/(w.heap.size<=b'/\b'<w'.heap.size)\/(b'=b/\vs.size<=j))/\w'.heap[b]?=some (.cells CQ ty (0,0))/\CQ.size=vs.size/\AL (Cx.one S' b vs.size) w' cells' CQ.toList/\CV (Cx.bare S') w' res u
section
variable {P:Program} {K:Exit->St->Prop} {ops:List Oper} {s:St}
theorem SW.UC {o:Oper}{r:List Oper}{f:FuncId}{args Bx:List V}{ty:TypeId}{cells cells' cs cs':List V}{res:V}{fn:Func}(k:Nat)(KC:AY P f Bx ty cells cells' res)(hf:P.funcs[f]?=some fn)(hb:fn.body.isSome=true)(hn:(fn.name == "runtime.NumGoroutine")=false)(hg:gate ops s.t o.guard=some true)(hc:DE (ev s.t) o.op=some (f,args))(hp:V.DJ k args=some Bx)(hk:s.h[k]?=some (.box ty cs false))(hcs:V.DJ k cs=some cells)(dV:V.DJ k cs'=some cells')(QN:V.OF cs'=true)(h:SW P ops K r (s.step o.dst res (some (k,.box ty cs' false)))):SW P ops K (o::r) s:=fun S0 w0 x a w hA=>by
 have hw:DV o (yielded ops.toArray a.tmps)=true:=by
  have:=J2 (o:=o) hA.tm (Hj (ops:=ops) (K1:=True) (K2:=False) hg trivial);exact Kb fun h=>this.2 h
 unfold wpList;rw[if_pos hw];refine .inl ?_;unfold DE at hc;split at hc
 case h_2=>cases hc
 rename_i fo ar He ho;split at hc
 case h_2=>cases hc
 rename_i f' caps Fo;simp only[BE,Cp]at hc;obtain⟨rfl,rfl⟩:=hc;have CY:=Qq (EH hA.tm fo);rw[Fo]at CY;simp only[CV]at CY;obtain⟨Dx,CY,EZ⟩:=CY;have Ik:AL x w (ar.toList.map (ev s.t)++caps) (ar.toList.map a.eval++Dx.toList):=(AL.of_map fun y _=>EH hA.tm y).append EZ;have g:=hA.good;obtain⟨hd,b1,b2,vs,b3,b4,b5⟩:=g.ok k _ hk;have EK:=PI (n:=vs.size) _ _ _ hcs b5;have Nm : ∀j,j<vs.size->¬x.S (x.loc k).b j:=fun j hj=>g.EI k _ j hk ⟨rfl,by omega⟩
 have hcall:=KC x.S w _ (x.loc k).b vs g.ex Nm b3 EK (PI _ _ _ hp Ik);have hb':fn.body≠none:=by intro e;rw[e]at hb;cases hb
 have hn':fn.name≠ "runtime.NumGoroutine":=by simpa using hn
 have hrun:(execOp a.eval o).run P w=.ok (.enter f' (ar.toList.map a.eval++Dx.toList).toArray) w:=by
  have e1:(ar.map a.eval++Dx)=(ar.toList.map a.eval++Dx.toList).toArray:=by apply Gk.1;simp
  simp[execOp,ho,resolve,CY,Pa,invoke,callFunc,program,I5,hf,hn',hb',e1]
 unfold EL;rw[hrun];refine hcall.mono ?_;rintro r' w' ⟨u,S',CQ,rfl,hkb,DF,Hs,h1,h2,h3,h4⟩;have hlt:=(g.ok k _ hk).2.lt b2;have he:Ext x { x with S:=S' } w w':=⟨DF,fun _ h=>h,fun _ _=>Es.refl _⟩
 have g':=g.IN (x':={ x with S:=S' }) k (.box ty cs' false) he (hkb.wide fun b e=>⟨hd,b2,e.symm⟩) (fun i=>⟨.inl,fun h=>h.elim id fun e=>e ▸ hd⟩) (fun _ _=>rfl) (fun _=>.inl ⟨hd,b2,rfl⟩)
  ⟨b1,b2,CQ,h1,by rw[h2,b4],Xd (x:={ x with S:=S' }) hd b1 rfl _ _ _ QN dV h3⟩ (fun b j hs=>(Hs b j hs).imp id fun h=>h.elim (fun h=>⟨h.2,.inl h.1,fun e=>by have:(x.loc k).b=b:=e;omega⟩) (fun h=>⟨by rw[h.1];exact H6 hlt hkb.size,.inr ⟨hd,b2,h.1.symm⟩,fun _ hx=>by have h5:j<(x.loc k).n:=hx.2;have h6:=h.2;omega⟩)) (fun j hx=>g.EI k _ j hk hx)
 have hnc:NC w w':=⟨hkb.size,fun b ob DW hnb=>(hkb.block b (Dy.1 DW).1 fun e=>by subst e;rw[b3]at DW;cases DW;cases hnb).trans DW⟩
 have e:=Lm s.h (some (k,O.box ty cs' false)) (fun k' o' e=>by cases e;exact NS (Bv.1 hk).1);have g'':Good S0 w0 { x with S:=S' } w' (fun i=>(CG s.h (some (k,O.box ty cs' false)))[i]?):=by rw[e];exact g'
 exact h S0 w0 _ _ w' (CT.put hA.tm (hA.df.mono hnc) he g'' (CV.mono (UA S' x w') _ _ h4) o.dst)
def FL (P:Program)(l:List ResultVar)(res:V)(ty:TypeId)(cells':List V):Exit->St->Prop
 | .normal,s=>AV P s l=some res/\s.h[0]?=some (.box ty cells' false)/\V.DJ 0 cells'=some cells'
 | .ret,s=>AV P s l=some res/\s.h[0]?=some (.box ty cells' false)/\V.DJ 0 cells'=some cells'
 | _,_=>False
theorem AY.intro {f:FuncId}{fn:Func}{c:Code}{args:List V}{ty:TypeId}{cells cells':List V}{res:V}(hf:P.funcs[f]?=some fn)(hb:fn.body=some c)(h:AW ⟨none,1⟩ P c (FL P fn.results.toList res ty cells') ⟨args++As (fn.ntmps - args.length) .any,[.box ty cells false]⟩):AY P f args ty cells cells' res:=by
 intro S w us b vs hS Nm hblk EK C9;have AMK:b<w.heap.size:=(Dy.1 hblk).1;refine callsIn_wide.1 (callsIn_of_wp_marks (F:=EF) (n:=0) hf hb trivial ?_);let B:Bs:=⟨w,fun k=>k<w.heap.size/\k≠b,fun _ h=>h.1,Cx.one S b vs.size,1,fun k hk=>by have:k=0:=hk;omega⟩
 have hA:CT S B (Cx.one S b vs.size) ⟨args++As (fn.ntmps - args.length) .any,[.box ty cells false]⟩ { tmps:=us.toArray++PY (fn.ntmps - us.toArray.size) undef,defers:=[] } w:=by
  refine⟨⟨fun k o h=>?_,fun k h=>?_,fun k k' o o' h h' hne=>?_,fun k o j h hx=>?_,hS,fun k o h _ hF=>hF.2 rfl,fun b j h=>.inl h,fun b j h=>h,.GA (AS.refl w),Ext.refl _ _⟩,?_,Marks.nil _ _⟩
  . match k,h with
    | 0,h =>
      cases h;exact⟨rfl,rfl,rfl,vs,hblk,rfl,EK⟩
    | k+1,h=>simp at h
  . have:k=0:=h;subst this;exact⟨_,rfl⟩
  . match k,k',h,h' with
    | 0,0,_,_=>exact absurd rfl hne
    | 0,k'+1,_,h'=>simp at h'
    | k+1,_,h,_=>simp at h
  . match k,h with
    | 0,h=>cases h;exact Nm j hx.2
    | k+1,h=>simp at h
  . simp only[Qt,VX];have hl:us.toArray.size=args.length:=by simpa using C9.len
    rw[hl];exact C9.append (Tc _ _ _ _)
 refine wpIn_mono (h 0 S B _ _ w (BW _) hA) fun e a' w' ⟨x,s,BR,hK⟩=>?_
 have fin : ∀ {R:Ending->World->Prop},(∀u w' S' CQ,KB (fun k=>k=b) w w'->Ar S S' w w'->(∀b' j,S' b' j->S b' j\/(w.heap.size<=b'/\b'<w'.heap.size)\/(b'=b/\vs.size<=j))->w'.heap[b]?=some (.cells CQ ty (0,0))->CQ.size=vs.size->AL (Cx.one S' b vs.size) w' cells' CQ.toList->CV (Cx.bare S') w' res u->R (.returned u) w')->
  (AV P s fn.results.toList=some res/\s.h[0]?=some (.box ty cells' false)/\V.DJ 0 cells'=some cells')->LeavesInM EF 0 P fn a'.tmps R a'.defers .returning w':=by
  rintro R hR ⟨hr,h0,hcs⟩;obtain⟨Ds,e,h1,h2⟩:=BR.df;rw[e];refine ey hr Ds w' h1 h2 BR.good BR.tm fun w2 u g hu=>?_
  have hl0:=g.ext.loc 0 rfl;have hloc:x.loc 0=⟨b,vs.size,false,0,false⟩:=by
   rcases hl0.2 with e|e
   . exact e.symm
   . cases e.1
  obtain⟨_,_,_,CQ,k3,k4,k5⟩:=g.ok 0 _ h0;rw[hloc]at k3 k4;refine hR u w2 x.S CQ ⟨g.keep.os,g.keep.tape,g.keep.output,g.keep.size,fun k hk hne=>g.keep.block k hk fun hn=>hn ⟨hk,hne⟩⟩ ⟨g.sub,fun b' j v hs hc=>g.ext.ar.cell b' j v hs hc⟩ (fun b' j hs=>?_) k3 k4 (by have:=PI (n:=vs.size) _ _ _ hcs k5;rwa [hloc]at this) hu;rcases g.new b' j hs with hq|hq
  . exact .inl hq
  . by_cases e:b'=b
    . subst e;by_cases hj:j<vs.size
      . exact absurd (by rw[hloc];exact hs) (g.EI 0 _ j h0 ⟨rfl,by rw[hloc];exact hj⟩)
      . exact .inr (.inr ⟨rfl,by omega⟩)
    . exact .inr (.inl ⟨NT fun hlt=>hq ⟨hlt,e⟩,g.ex b' j hs⟩)
 cases e with
 | normal=>exact fin (fun u w' S' CQ h1 h2 h3 h4 h5 h6 h7=>⟨u,S',CQ,rfl,h1,h2,h3,h4,h5,h6,h7⟩) hK
 | ret=>exact fin (fun u w' S' CQ h1 h2 h3 h4 h5 h6 h7=>⟨u,S',CQ,rfl,h1,h2,h3,h4,h5,h6,h7⟩) hK
 | _=>exact hK.elim
end
section
variable {P:Program} {ops:List Oper} {K:List Ef->St->Prop}
theorem TW.UC {o:Oper}{r:List Oper}{acc:List Ef}{s:St}{f:FuncId}{args Bx:List V}{ty:TypeId}{cells cells' cs cs':List V}{res:V}{fn:Func}(k:Nat)(KC:AY P f Bx ty cells cells' res)(hf:P.funcs[f]?=some fn)(hb:fn.body.isSome=true)(hn:(fn.name == "runtime.NumGoroutine")=false)(hg:gate ops s.t o.guard=some true)(hc:DE (ev s.t) o.op=some (f,args))(hp:V.DJ k args=some Bx)(hk:s.h[k]?=some (.box ty cs false))(hcs:V.DJ k cs=some cells)(dV:V.DJ k cs'=some cells')(QN:V.OF cs'=true)(h:TW P ops K r (acc++[⟨res,some (k,.box ty cs' false),some k⟩]) (s.step o.dst res (some (k,.box ty cs' false)))):TW P ops K (o::r) acc s:=by
 obtain⟨es,s2,h2,h3⟩:=h;refine⟨⟨res,some (k,.box ty cs' false),some k⟩::es,s2,⟨_,es,rfl,?_,(fun k' ob e=>by cases e;exact NS (Bv.1 hk).1),h2⟩,by simpa using h3⟩;intro S0 w0 x w a H g hl hr _ Q next D5;rw[Og hl hg];show o.wp P a w next Q;have hop:=Ow hl;have hHk:H k=some (.box ty cs false):=(hr k (.inl rfl)).trans hk;unfold DE at hc;split at hc
 case h_2=>cases hc
 rename_i fo ar He ho;split at hc
 case h_2=>cases hc
 rename_i f' caps Fo;simp only[BE,Cp]at hc;obtain⟨rfl,rfl⟩:=hc;have CY:=Qq (hop fo (by simp[ho,CN,D7]));rw[Fo]at CY;simp only[CV]at CY;obtain⟨Dx,CY,EZ⟩:=CY;have Ik:AL x w (ar.toList.map (ev s.t)++caps) (ar.toList.map a.eval++Dx.toList):=(AL.of_map fun y hy=>hop y (by simp[ho,CN,D7];exact .inr (by simpa using hy))).append EZ;obtain⟨hd,b1,b2,vs,b3,b4,b5⟩:=g.ok k _ hHk;have EK:=PI (n:=vs.size) _ _ _ hcs b5;have Nm : ∀j,j<vs.size->¬x.S (x.loc k).b j:=fun j hj=>g.EI k _ j hHk ⟨rfl,by omega⟩
 have hcall:=KC x.S w _ (x.loc k).b vs g.ex Nm b3 EK (PI _ _ _ hp Ik);have hb':fn.body≠none:=by intro e;rw[e]at hb;cases hb
 have hn':fn.name≠ "runtime.NumGoroutine":=by simpa using hn
 have hrun:(execOp a.eval o).run P w=.ok (.enter f' (ar.toList.map a.eval++Dx.toList).toArray) w:=by
  have e1:(ar.map a.eval++Dx)=(ar.toList.map a.eval++Dx.toList).toArray:=by apply Gk.1;simp
  simp[execOp,ho,resolve,CY,Pa,invoke,callFunc,program,I5,hf,hn',hb',e1]
 unfold EL;rw[hrun];refine hcall.mono ?_;rintro r' w' ⟨u,S',CQ,rfl,hkb,DF,Hs,h1,h2,h3,h4⟩;have hlt:=(g.ok k _ hHk).2.lt b2;have he:Ext x { x with S:=S' } w w':=⟨DF,fun _ h=>h,fun _ _=>Es.refl _⟩
 have g':=g.IN (x':={ x with S:=S' }) k (.box ty cs' false) he (hkb.wide fun b e=>⟨hd,b2,e.symm⟩) (fun i=>⟨.inl,fun h=>h.elim id fun e=>e ▸ hd⟩) (fun _ _=>rfl) (fun _=>.inl ⟨hd,b2,rfl⟩)
  ⟨b1,b2,CQ,h1,by rw[h2,b4],Xd (x:={ x with S:=S' }) hd b1 rfl _ _ _ QN dV h3⟩ (fun b j hs=>(Hs b j hs).imp id fun h=>h.elim (fun h=>⟨h.2,.inl h.1,fun e=>by have:(x.loc k).b=b:=e;omega⟩) (fun h=>⟨by rw[h.1];exact H6 hlt hkb.size,.inr ⟨hd,b2,h.1.symm⟩,fun _ hx=>by have h5:j<(x.loc k).n:=hx.2;have h6:=h.2;omega⟩)) (fun j hx=>g.EI k _ j hHk hx)
 exact D5 u _ w' g' he (CV.mono (UA S' x w') _ _ h4)
end
theorem Sa {P:Program}{ops:List Oper}{K:List Ef->St->Prop}{acc:List Ef}{s:St}(h:K acc s):Hi P ops K [] acc s:=h
end Go.Proofs.YtpodcjcajanldaaGreat
