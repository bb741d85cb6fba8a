/- Part of the proof of some laws. Conditions: none. -/
import Derived.Test.YtglaipbdiofkfaaGreatY4
import Derived.Test.YtglaipbdiofkfaaGreatY5
set_option linter.unusedVariables false
set_option linter.unusedSimpArgs false
set_option maxRecDepth 100000
set_option maxHeartbeats 16000000
open List renaming replicate→Aq,getElem?_eq_some_iff→Br,any_eq_true→aH,getElem?_take→KO,all_eq_true→ES,mem_of_getElem?→Cj,nil_append→BU,mem_append→MJ,mem_singleton→LY,map_append→Fm,foldl_cons→Bw,foldl_nil→CO,set_cons_zero→Ag,set_cons_succ→Ai,drop_eq_getElem_cons→D5,all_cons→Ep,drop_of_length_le→FA,map_cons→Ap,map_nil→BB,getD_cons_succ→Om,getD_cons_zero→On,length_map→Ch,getElem?_eq_getElem→BE,getElem?_map→CM,getElem?_set_self→IX,getElem?_set_ne→HF,mem_cons→Cf,mem_map→Da,cons_append→BK,length_cons→BA,length_nil→BO,drop_succ_cons→CU,drop_zero→B9,take_add_one→UC,take_of_length_le→Gl
open Go.Fence renaming wide→Cg
open Nat renaming le_refl→BN,lt_of_lt_of_le→H7,le_of_lt→LZ,le_of_ble_eq_true→F2
open Option.some renaming injEq→BL,inj→ML
open Prod.mk renaming injEq→Cr
open Go.Op renaming operands→Bl
open Go.Call renaming operands→Df
open Go.Oper renaming wp→Er
open Array renaming getElem?_eq_some_iff→DO
open Go.Region renaming wanted→FB
open Classical renaming byContradiction→Kn
open Go.Proofs.Tryz renaming prog→AF,underlying9→Lb,underlying115→Abx,underlying4→Vq,underlying109→Abw,underlying3→Fo,results73→MQ,func72→JA,ntmps72→vF,results72→va,results75→np,func76→Ib,ntmps76→ARW,results76→Q3,func37→DC,ntmps37→ART,results37→Ju
open Go.MapKept renaming stamped_empty→AMv
open Go.Instr renaming lookup→fk,mapUpdate→mJ,makeMap→mG
open Go.Maps renaming string_keyed→me,atKey_put_same→AC2,atKey_put_other→AC1
open Go.WideMaps renaming keyOf_string_mk→n6
open Go.DataW.lit renaming injEq→ACh
open Go.WideAt renaming IsKeyLit→ADd
open Go.Lit renaming string→Vh
open Bool renaming false_or→tf,true_and→Cd,false_and→D4,and_false→LV,and_self→LW,and_eq_true→Ak
open Go.World renaming cell?→iC,cell?_of_block→RK
open Go.IntKind renaming i64→AZ
open Option renaming getD_none→Hr,isSome_none→H8,getD_some→Dm,isSome_some→IZ
open Option renaming some→J,none→E
open Bool renaming false→U,true→I
open List renaming length→G
namespace Go.Proofs.YtglaipbdiofkfaaGreat
open Go.RowKit Tryz
variable {P:Program}{args:List V}{m:Nat}{out:Out}{K:Exit->St->Prop}{r:List Oper}{res:V}{ch:List PanicEntry}{w:World}{o:Oper}{e:Ef}{s1:St}{Bd:List V}{R:Obj->Prop}{n:Nat}{s:ByteArray}{b:Bool}{g:FuncId}{M:ByteArray->Option Int}{ob:Obj}(k:Nat)
def Cx.de (S:BF)(m:Nat):Cx:={ dom:=λk=>k=0,loc:=λ_=>⟨m,0,U,0,U⟩,S:=S }
def Ci (m:Nat)(R:Obj->Prop)(b:Nat)(ob:Obj):Prop:=b=m/\R ob
def AQ (P:Program)(f:FuncId)(args:List V)(m:Nat)(R R':Obj->Prop)(out:Out):Prop:=
 ∀(S:BF) (w:World) (us:List Value) (ob:Obj),(∀b j,S b j->b<w.heap.size)->w.heap[m]?=J ob->still ob=U->R ob->AO (Cx.bare S) w args us->
  Calls P f us.toArray w λr w'=>∃S' Cw,KB (λk=>k=m) w w'/\Ar S S' w w'/\(∀b j,S' b j->S b j\/(w.heap.size<=b/\b<w'.heap.size)\/b=m)/\w'.heap[m]?=J Cw/\still Cw=U/\R' Cw/\Lf (Cx.bare S') w' out r
theorem AQ.mono {f:FuncId}{R R' B Q:Obj->Prop}(h:AQ P f args m R R' out)(h1 : ∀ob,B ob->R ob)(h2 : ∀ob,R' ob->Q ob):AQ P f args m B Q out:=λS w us ob k1 k2 k3 k4 k5 =>
 (h S w us ob k1 k2 k3 (h1 _ k4) k5).mono λr w' ⟨z,q,a1,a2,a3,a4,a5,a6,a7⟩=>⟨z,q,a1,a2,a3,a4,a5,h2 _ a6,a7⟩
def oM (P:Program)(l:List ResultVar)(out:Out)(m:Nat)(R':Obj->Prop):Exit->St->Prop
 | .normal,s=>∃v,out=.ret v/\DV P s l=J v/\s.h[0]?=J (.mp (Ci m R'))
 | .ret,s=>∃v,out=.ret v/\DV P s l=J v/\s.h[0]?=J (.mp (Ci m R'))
 | .panic ch,s=>out=.HB ch/\s.h[0]?=J (.mp (Ci m R'))
 | _,_=>False
theorem AQ.intro {P:Program}{f:FuncId}{fn:Func}{c:Code}{args:List V}{m:Nat}{R R':Obj->Prop}{out:Out}(hf:P.funcs[f]?=J fn)(hb:fn.body=J c)(h:AW ⟨E,1⟩ P c (oM P fn.results.toList out m R') ⟨args++Aq (fn.ntmps - G args) .any,[.mp (Ci m R)]⟩):AQ P f args m R R' out:=by
 intro S w us ob hS FF A5 hR B7;refine callsIn_wide.1 (callsIn_of_wp_marks (F:=Cg) (n:=0) hf hb trivial ?_);let B:Bs:=⟨w,λk=>k<w.heap.size/\k≠m,λ_ h=>h.1,Cx.de S m,1,λk hk=>by have:k=0:=hk;omega⟩
 have zF:Ext (Cx.bare S) (Cx.de S m) w w:=⟨Ar.refl _ _,λ_ h=>h.elim,λ_ h=>h.elim⟩
 have hA:Bo S B (Cx.de S m) ⟨args++Aq (fn.ntmps - G args) .any,[.mp (Ci m R)]⟩ { tmps:=us.toArray++Array.replicate (fn.ntmps - us.toArray.size) undef,defers:=[] } w:=by
  refine⟨⟨λk o h=>?_,λk h=>?_,λk k' o o' h h' A0=>?_,λk o j h hx=>?_,hS,λk o h _ hF=>hF.2 rfl,λb j h=>.inl h,λb j h=>h,.FR (Ay.refl w),Ext.refl _ _⟩,?_,Marks.nil _ _⟩;match k,h with
  | 0,h=>cases h;exact⟨rfl,rfl,rfl,ob,FF,A5,rfl,hR⟩
  | k+1,h=>simp at h
  have:k=0:=h;subst this;exact⟨_,rfl⟩;match k,k',h,h' with
  | 0,0,_,_=>exact absurd rfl A0
  | 0,k'+1,_,h'=>simp at h'
  | k+1,_,h,_=>simp at h
  match k,h with
  | 0,h=>cases h;exact hx.elim
  | k+1,h=>simp at h
  simp only[Array.toList_append,Array.toList_replicate];have hl:us.toArray.size=G args:=by simpa using B7.len
  rw[hl];exact(AO.mono zF _ _ B7).append (SQ _ _ _ _)
 refine wpIn_mono (h 0 S B _ _ w (BN _) hA) λe a' w' ⟨x,s,Au,hK⟩=>?_
 have post : ∀ {x:Cx} {w2:World} {h2:Bx},Good S B x w2 h2->h2 0=J (.mp (Ci m R'))->∃z q,z=x.S/\KB (λk=>k=m) w w2/\Ar S z w w2/\(∀b j,z b j->S b j\/(w.heap.size<=b/\b<w2.heap.size)\/b=m)/\w2.heap[m]?=J q/\still q=U/\R' q:=by
  intro x w2 h2 g h0;have Lu:=g.ext.loc 0 rfl;have A2:x.loc 0=⟨m,0,U,0,U⟩:=by
   rcases Lu.2 with e|e
   exact e.symm;cases e.1
  obtain⟨_,_,_,q,k3,k4,_,k5⟩:=g.ok 0 _ h0;rw[A2]at k3;refine⟨x.S,q,rfl,⟨g.keep.os,g.keep.tape,g.keep.output,g.keep.size,λk hk A0=>g.keep.block k hk λhn=>hn ⟨hk,A0⟩⟩,⟨g.sub,λb' j v hs hc=>g.ext.ar.cell b' j v hs hc⟩,λb' j hs=>?_,k3,k4,k5⟩;rcases g.new b' j hs with hq|hq
  exact .inl hq;by_cases e:b'=m;exact .inr (.inr e);exact .inr (.inl ⟨Nat.le_of_not_lt λA3=>hq ⟨A3,e⟩,g.ex b' j hs⟩)
 have A1 : ∀ {Q:Ending->World->Prop},(∀r w' z q,KB (λk=>k=m) w w'->Ar S z w w'->(∀b j,z b j->S b j\/(w.heap.size<=b/\b<w'.heap.size)\/b=m)->w'.heap[m]?=J q->still q=U->R' q->Lf (Cx.bare z) w' out r->Q r w')->
  (∃v,out=.ret v/\DV P s fn.results.toList=J v/\s.h[0]?=J (.mp (Ci m R')))->LeavesInM Cg 0 P fn a'.tmps Q a'.defers .returning w':=by
  rintro Q hQ ⟨v,rfl,hr,h0⟩;obtain⟨Ds,e,h1,h2⟩:=Au.df;rw[e];refine kS hr Ds w' h1 h2 Au.good Au.tm λw2 u g hu=>?_
  obtain⟨z,q,rfl,p1,p2,p3,p4,p5,p6⟩:=post g h0;exact hQ _ w2 _ q p1 p2 p3 p4 p5 p6 ⟨u,rfl,hu⟩
 cases e with
 | normal=>exact A1 (λr w' z q h1 h2 h3 h4 h5 h6 h7=>⟨z,q,h1,h2,h3,h4,h5,h6,h7⟩) hK
 | ret=>exact A1 (λr w' z q h1 h2 h3 h4 h5 h6 h7=>⟨z,q,h1,h2,h3,h4,h5,h6,h7⟩) hK
 | panic ch =>
   obtain⟨rfl,h0⟩:=hK;obtain⟨Ds,e,h1,h2⟩:=Au.df;show LeavesInM Cg 0 P fn a'.tmps _ a'.defers (.panicking ch) w';rw[e];refine kT Ds w' h1 h2 Au.good Au.tm λw2 g=>?_
   obtain⟨z,q,rfl,p1,p2,p3,p4,p5,p6⟩:=post g h0;exact⟨_,q,p1,p2,p3,p4,p5,p6,rfl⟩
 | _=>exact hK.elim
section
variable {P:Program} {ops:List Oper} {S0:BF} {w0:Bs} {x:Cx} {w:World} {H:Bx} {a:Act} {o:Oper} {s:St}
theorem pF {f:FuncId}{args Bd:List V}{R R':Obj->Prop}(g:Good S0 w0 x w H)(A1 : ∀y∈o.op.operands.toList,CV x w (ev s.t y) (a.eval y))(KW:AQ P f Bd m R R' out)(A5:Fp P f=I)(q:C7 (ev s.t) o.op=J (f,args))(hp:V.CF args=J Bd)(hk:H k=J (.mp (Ci m R))){next:Act->World->Prop}{Q:Exit->Act->World->Prop}(hn : ∀res,out=.ret res->∀u x' w',Good S0 w0 x' w' (H.upd (J (k,.mp (Ci m R'))))->Ext x x' w w'->NC w w'->CV x' w' res u->next (a.put o.dst u) w')(HO : ∀ch,out=.HB ch->∀x' w',Good S0 w0 x' w' (H.upd (J (k,.mp (Ci m R'))))->Ext x x' w w'->NC w w'->Q (.panic ch) a w'):o.wp P a w next Q:=by
 unfold C7 at q;split at q
 case h_2=>cases q
 rename_i fo ar Fk ho;split at q
 case h_2=>cases q
 rename_i f' A0 FG;simp only[BL,Cr]at q;obtain⟨rfl,rfl⟩:=q;have z:=Pp (A1 fo (by simp[ho,Bl,Df]));rw[FG]at z;simp only[CV]at z;obtain⟨Dl,z,EP⟩:=z;have Hw:AO x w (ar.toList.map (ev s.t)++A0) (ar.toList.map a.eval++Dl.toList):=(AO.of_map λy hy=>A1 y (by simp[ho,Bl,Df];exact .inr (by simpa using hy))).append EP;obtain⟨fn,hf,hb,F6⟩:=P7 A5;have CT:fn.body≠none:=by intro e;rw[e]at hb;cases hb
 have F6:fn.name≠ "runtime.NumGoroutine":=by simpa using F6
 have A2:(execOp a.eval o).run P w=.ok (.enter f' (ar.toList.map a.eval++Dl.toList).toArray) w:=by
  have e1:(ar.map a.eval++Dl)=(ar.toList.map a.eval++Dl.toList).toArray:=by apply Array.toList_inj.1;simp
  simp[execOp,ho,resolve,z,Deferred.ofValue,invoke,callFunc,program,Sem.run,hf,F6,CT,e1]
 obtain⟨hd,b1,b2,ob,b3,b4,hm,b5⟩:=g.ok k _ hk;subst hm;unfold Er;rw[A2];refine(KW x.S w _ ob g.ex b3 b4 b5 (MC _ _ _ hp Hw)).mono ?_;rintro r' w' ⟨S',Cw,B,CZ,Gc,h1,h2,h3,Hz⟩;have A3:=(DO.1 b3).1;have he:Ext x { x with S:=S' } w w':=⟨CZ,λ_ h=>h,λ_ _=>FM.refl _⟩
 have g':=g.H5 (x':={ x with S:=S' }) k (.mp (Ci (x.loc k).b R')) he (B.wide λb e=>⟨hd,b2,e.symm⟩) (λi=>⟨.inl,λh=>h.elim id λe=>e ▸ hd⟩) (λ_ _=>rfl) (λ_=>.inl ⟨hd,b2,rfl⟩)
  ⟨b1,b2,Cw,h1,h2,rfl,h3⟩ (λb j hs=>(Gc b j hs).imp id λh=>h.elim (λh=>⟨h.2,.inl h.1,λe=>by have:(x.loc k).b=b:=e;omega⟩) (λh=>⟨by rw[h];exact H7 A3 B.size,.inr ⟨hd,b2,h.symm⟩,λ_ hx=>hx.elim⟩)) (λj hx=>hx.elim)
 have CB:NC w w':=⟨B.size,λb A6 D7 II=>(B.block b (DO.1 D7).1 λe=>by subst e;rw[b3]at D7;cases D7;rw[b4]at II;cases II).trans D7⟩
 cases out with
 | ret v=>obtain⟨u,rfl,h4⟩:=Hz;exact hn v rfl u _ w' g' he CB (CV.mono (Ub S' x w') _ _ h4)
 | HB ch=>have e:r'=.panicked ch:=Hz;subst e;exact HO ch rfl _ w' g' he CB
theorem SW.pE {f:FuncId}{args Bd:List V}{R R':Obj->Prop}(KW:AQ P f Bd m R R' (.ret res))(A5:Fp P f=I)(hg:BQ ops s.t o.guard=J I)(Co:C7 (ev s.t) o.op=J (f,args))(hp:V.CF args=J Bd)(q:s.h[k]?=J (.mp (Ci m R)))(h:SW P ops K r (s.step o.dst res (J (k,.mp (Ci m R'))))):SW P ops K (o::r) s:=λS0 w0 x a w B=>by
 have hw:FB o (yielded ops.toArray a.tmps)=true:=by
  have:=KR (o:=o) B.tm (IF (ops:=ops) (K1:=True) (K2:=False) hg W);exact Kn λh=>this.2 h
 unfold wpList;rw[if_pos hw];refine .inl ?_;refine pF k B.good (λy _=>CW B.tm y) KW A5 Co hp q (λ_ er u x' z g' he CB S=>?_) (λ_ e=>nomatch e);cases er;have e:=Kj s.h (J (k,O.mp (Ci m R'))) (λk' o' e=>by cases e;exact LZ (Br.1 q).1);have Q:Good S0 w0 x' z (λi=>(Bk s.h (J (k,O.mp (Ci m R'))))[i]?):=by rw[e];exact g'
 exact h S0 w0 _ _ z (Bo.put B.tm (B.df.mono CB) he Q S o.dst)
theorem SW.AEd {f:FuncId}{args Bd:List V}{R R':Obj->Prop}(KW:AQ P f Bd m R R' (.HB ch))(z:Fp P f=I)(hg:BQ ops s.t o.guard=J I)(Co:C7 (ev s.t) o.op=J (f,args))(hp:V.CF args=J Bd)(S:s.h[k]?=J (.mp (Ci m R)))(h:K (.panic ch) ⟨s.t,Bk s.h (J (k,.mp (Ci m R')))⟩):SW P ops K (o::r) s:=λS0 w0 x a w B=>by
 have hw:FB o (yielded ops.toArray a.tmps)=true:=by
  have:=KR (o:=o) B.tm (IF (ops:=ops) (K1:=True) (K2:=False) hg W);exact Kn λh=>this.2 h
 unfold wpList;rw[if_pos hw];refine .inl ?_;refine pF k B.good (λy _=>CW B.tm y) KW z Co hp S (λ_ e=>nomatch e) λA0 er q w' g' he CB=>?_
 cases er;have e:=Kj s.h (J (k,O.mp (Ci m R'))) (λk' o' e=>by cases e;exact LZ (Br.1 S).1);have Q:Good S0 w0 q w' (λi=>(Bk s.h (J (k,O.mp (Ci m R'))))[i]?):=by rw[e];exact g'
 exact⟨q,⟨s.t,Bk s.h (J (k,.mp (Ci m R')))⟩,⟨Q,AO.mono he _ _ B.tm,B.df.mono CB⟩,h⟩
theorem TW.pE {K:List Ef->St->Prop}{acc:List Ef}{f:FuncId}{args Bd:List V}{R R':Obj->Prop}(KW:AQ P f Bd m R R' (.ret res))(z:Fp P f=I)(hg:BQ ops s.t o.guard=J I)(Co:C7 (ev s.t) o.op=J (f,args))(hp:V.CF args=J Bd)(S:s.h[k]?=J (.mp (Ci m R)))(h:TW P ops K r (acc++[⟨res,J (k,.mp (Ci m R')),J k⟩]) (s.step o.dst res (J (k,.mp (Ci m R'))))):TW P ops K (o::r) acc s:=by
 obtain⟨es,s2,h2,h3⟩:=h;refine⟨⟨res,J (k,.mp (Ci m R')),J k⟩::es,s2,⟨_,es,F,?_,(λk' ob e=>by cases e;exact LZ (Br.1 S).1),h2⟩,by simpa using h3⟩;intro S0 w0 x w a H g q hr _ Q next EH;rw[QF q hg];show o.wp P a w next Q;exact pF k g (QR q) KW z Co hp ((hr k (.inl F)).trans S) (λ_ er u x' w' g' he _ B=>by cases er;exact EH u x' w' g' he B) (λ_ e=>nomatch e)
end
def Tf:V:=.c (.int .i64 100000000000000000000)
def V.Wx:V->Bool
 | .c (.int .i64 n)=>n==100000000000000000000
 | _=>U
theorem AHv {x:Cx}{v:V}{u:Value}(h:v.Wx=I)(B:CV x w v u):False:=by
 unfold V.Wx at h;split at h;have e:=eq_of_beq h;subst e;simp only[CV,Ab]at B;exact absurd B.2 (by decide +kernel);cases h
def yi (t:List V):Prop:=∃(d:Nat) (v:V),t[d]?=J v/\v.Wx=I
def TZ (P:Program)(Z:List PanicEntry->Prop)(ops:List Oper)(K:List Ef->St->Prop)(l:List Oper)(acc:List Ef)(s:St):Prop:=∃es s',iI P Z ops l s es s'/\K (acc++es) s'
section
variable {P:Program} {Z:List PanicEntry->Prop} {ops:List Oper} {K:List Ef->St->Prop} {acc:List Ef} {s:St}
theorem TZ.nil (h:K acc s):TZ P Z ops K [] acc s:=⟨[],s,⟨rfl,rfl⟩,by simpa using h⟩
theorem TZ.cons (e:Ef)(B:oA P Z ops o s e)(Q : ∀k ob,e.t=J (k,ob)->k<=G s.h)(h:TZ P Z ops K r (acc++[e]) (s.step o.dst e.v e.t)):TZ P Z ops K (o::r) acc s:=by
 obtain⟨es,z,S,q⟩:=h;exact⟨e::es,z,⟨e,es,F,B,Q,S⟩,by simpa using q⟩
theorem TZ.step (hg:BQ ops s.t o.guard=J I)(hc:Ka o.op=U)(hs:Qv P o s=J (e,s1))(h:TZ P Z ops K r (acc++[e]) s1):TZ P Z ops K (o::r) acc s:=by
 unfold Qv at hs;split at hs
 . rename_i v t B;simp only[BL,Cr]at hs;obtain⟨rfl,rfl⟩:=hs;refine TZ.cons _ (Xu.z ?_) (oZ B) h;intro S0 w0 x w a H g hl hr hk Q next hn;rw[QF hl hg];have ye:(P2 P (ev s.t) o.op).ap H (G s.h)=J (v,t):=by rw[<-B];exact ADz λk hk=>hr k (.inl hk)
   obtain⟨nx,w',x',u,q,EH,S,g',he,_⟩:=oW g (QR hl) hk ye;show o.wp P a w next Q;unfold Er;rw[q];rcases EH with rfl|⟨rfl,rfl⟩
   exact hn u x' w' g' he S;exact hn undef x' w' g' he S
 cases hs
theorem TZ.off (B:BQ ops s.t o.guard=J U)(h:TZ P Z ops K r (acc++[⟨.A7 [],E,E⟩]) (s.put o.dst (.A7 []))):TZ P Z ops K (o::r) acc s:=TZ.cons _ (AFK B).z (λ_ _ e=>by cases e) h
theorem TZ.call {f:FuncId}(C9:AC P f Bd res)(A5:Fp P f=I)(hg:BQ ops s.t o.guard=J I)(B:Ee (ev s.t) o.op=J (f,Bd))(h:TZ P Z ops K r (acc++[⟨res,E,E⟩]) (s.step o.dst res E)):TZ P Z ops K (o::r) acc s:=by
 obtain⟨args,B,hp⟩:=Tv B;refine TZ.cons ⟨res,E,E⟩ (Xu.z ?_) (λ_ _ e=>by cases e) h;intro S0 w0 x w a H g q hr hk Q next hn;rw[QF q hg];obtain⟨fn,h1,h2,h3⟩:=P7 A5;exact AEa g (QR q) B (K:=λv=>v=res) ⟨Bd,res,hp,C9,⟨fn,h1,h2,by simpa using h3⟩,rfl⟩ λv u x' w' hv g' he S=>by subst hv;exact hn u x' w' g' he S
theorem TZ.pE {f:FuncId}{R R':Obj->Prop}(KW:AQ P f Bd m R R' (.ret res))(A5:Fp P f=I)(hg:BQ ops s.t o.guard=J I)(hc:Ee (ev s.t) o.op=J (f,Bd))(S:s.h[k]?=J (.mp (Ci m R)))(h:TZ P Z ops K r (acc++[⟨res,J (k,.mp (Ci m R')),J k⟩]) (s.step o.dst res (J (k,.mp (Ci m R'))))):TZ P Z ops K (o::r) acc s:=by
 obtain⟨args,Co,hp⟩:=Tv hc;refine TZ.cons ⟨res,J (k,.mp (Ci m R')),J k⟩ (Xu.z ?_) (λk' ob e=>by cases e;exact LZ (Br.1 S).1) h;intro S0 w0 x w a H g q hr _ Q next EH;rw[QF q hg];show o.wp P a w next Q;exact pF k g (QR q) KW A5 Co hp ((hr k (.inl F)).trans S) (λ_ er u x' w' g' he _ B=>by cases er;exact EH u x' w' g' he B) (λ_ e=>nomatch e)
theorem TZ.HB {f:FuncId}(KW:AQ P f Bd m R R (.HB ch))(q:Fp P f=I)(hg:BQ ops s.t o.guard=J I)(hc:Ee (ev s.t) o.op=J (f,Bd))(hk:s.h[k]?=J (.mp (Ci m R)))(hz:Z ch)(h:TZ P Z ops K r (acc++[⟨Tf,E,J k⟩]) (s.step o.dst Tf E)):TZ P Z ops K (o::r) acc s:=by
 obtain⟨args,z,hp⟩:=Tv hc;refine TZ.cons ⟨Tf,E,J k⟩ ?_ (λ_ _ e=>by cases e) h;intro S0 w0 x w a H g S hr _ Q next HO EH;rw[QF S hg];show o.wp P a w next Q;have B:=(hr k (.inl F)).trans hk;refine pF k g (QR S) KW q z hp B (λ_ e=>nomatch e) λA0 er x' w' g' he CB=>?_
 cases er;refine HO ch x' w' hz ?_ he;have e:H.upd (J (k,O.mp (Ci m R)))=H:=by
  funext i;simp only[Bx.upd,Bx.set];split;rename_i h;subst h;exact B.symm;rfl
 rwa [e]at g'
theorem TZ.dead (B:o.op.operands.toList.any (λy=>(ev s.t y).Wx)=I)(h:TZ P Z ops K r (acc++[⟨Tf,E,E⟩]) (s.step o.dst Tf E)):TZ P Z ops K (o::r) acc s:=by
 refine TZ.cons ⟨Tf,E,E⟩ ?_ (λ_ _ e=>by cases e) h;intro S0 w0 x w a H g q hr _ Q next HO EH;obtain⟨y,z,S⟩:=aH.1 B;exact(AHv S (QR q y z)).elim
end
theorem Good.AOf {S0:BF}{w0:Bs}{x:Cx}{H:Bx}{h:List O}(g:Good S0 w0 x w H)(n:Nat)(hn:w0.n0<=n)(hH : ∀k,k<n->H k=h[k]?)(q:((h.take n).all (O.A8 n))=I):Good S0 w0 (x.cut n) w (λk=>(h.take n)[k]?):=by
 have Q : ∀k o,(h.take n)[k]?=J o->H k=J o/\k<n:=by
  intro k o B;rw[KO]at B;split at B;rename_i h;exact⟨(hH k h).trans B,h⟩;cases B
 refine⟨λk o B=>?_,λk B=>?_,λk k' o o' h1 h2=>g.inj k k' o o' (Q k o h1).1 (Q k' o' h2).1,λk o j B hx=>g.EA k o j (Q k o B).1 (by cases o<;>exact hx),g.ex,λk o B=>g.own k o (Q k o B).1,g.new,g.sub,g.keep,g.ext.ar,λk B=>⟨g.ext.dom k B,H7 (w0.dl k B) hn⟩,g.ext.loc⟩;obtain⟨h1,h2⟩:=Q k o B;obtain⟨h3,S⟩:=g.ok k o h1;refine⟨⟨h3,h2⟩,?_⟩;cases o with
 | box ty cs fr=>obtain⟨z,a2,vs,a3,a4,a5⟩:=S;rw[ES]at q;exact⟨z,a2,vs,a3,a4,AO.cut cs _ (q _ (Cj B)) a5⟩
 | tok ty es A0=>exact S
 | mp R=>exact S
 | Be ty es A0 cs=>obtain⟨z,a2,a3,a4,a5,vs,a6,a7,a8,a9⟩:=S;rw[ES]at q;exact⟨z,a2,a3,a4,a5,vs,a6,a7,a8,AO.cut cs _ (q _ (Cj B)) a9⟩
 obtain⟨o,Hz⟩:=g.dom k B.1;refine⟨o,?_⟩;rw[KO,if_pos B.2,<-hH k B.2];exact Hz
def ZW (O0:O)(e:Ef):Prop:=∀ob,e.t=J (0,ob)->ob=O0
theorem AW.APA {Z:List PanicEntry->Prop}{n0 id:Nat}{ops:List Oper}{s:St}{R:Nat->Obj->Prop}(hm:P.follows .mixedOrders=I)(hn:n0<=1)(B:s.h[0]?=J (.mp R))(h:TZ P Z ops (λes s'=>Lk ops (es.map Ef.ks)=I/\(∀e∈es,ZW (.mp R) e)/\(yi s'.t\/K .normal s')) ops [] s)(hp : ∀ch,Z ch->K (.panic ch) ⟨Aq (G s.t) .any,[.mp R]⟩):AW ⟨E,n0⟩ P (.region id ops.toArray I) K s:=λn S0 w0 x a w qq Q=>by
 have e:({ w with drawn:=w.drawn+1 }:World)=w.drew:=F;have Au:Bo S0 w0 x s a w.drew:=by
  obtain⟨g,z⟩:=Q.good.MF (x':=x) (w':=w.drew) (Ay.refl w).drew ⟨λ_ _ h=>h,λb j v _ S=>(Ay.refl w).drew.cell S⟩ rfl rfl (λb j h=>.inl h);exact⟨g,AO.mono z _ _ Q.tm,Q.df.mono (.FR (Ay.refl w).drew)⟩
 obtain⟨es,s',ht,S,QP,hK⟩:=h;simp only[BU]at S QP hK;refine wpIn_wide.2 (wp_region_any hm ?_);rw[e];refine pY (K:=λs=>yi s.t\/K .normal s) (n:=1) ht S hK (λx s a w h Q=>?_) (λe z k ob hk ht=>?_) (λch x a w H hz g hH FK Fu=>?_) Au;rcases h with ⟨d,v,h1,h2⟩|h
 obtain⟨u,_,hu⟩:=Q.tm.get d v h1;exact(AHv h2 hu).elim;exact⟨x,s,Q,h⟩;have:k=0:=by omega
 subst this;rw[QP e z ob ht];exact B;have Td:s.h.take 1=[.mp R]:=by
  cases hs:s.h with
  | nil=>rw[hs]at B;simp at B
  | cons o r=>rw[hs]at B;simp only[List.getElem?_cons_zero,BL]at B;rw[B];rfl
 have g2:=g.AOf 1 (Nat.le_trans qq hn) hH (by rw[Td];rfl);rw[Td]at g2;refine⟨x.cut 1,⟨Aq (G s.t) .any,[.mp R]⟩,⟨g2,?_,Fu⟩,hp ch hz⟩;have:=SQ (x.cut 1) w (G s.t);refine AO.SI (by simp[FK]) λi v u q _=>?_
 rw[List.getElem?_replicate]at q;split at q;cases q;simp only[CV];cases q
section
variable {P:Program} {K:Exit->St->Prop} {ops:List Oper} {s:St}
structure BH (P:Program)(ops:List Oper)(K:Exit->St->Prop)(l:List Oper)(s:St):Prop where
 out:SW P ops K l s
theorem BH.I2 {B id:Nat}(h:BH P ops K ops s):AW ⟨E,B⟩ P (.region id ops.toArray U) K s:=AW.DA h.out
theorem BH.done (h:K .normal s):BH P ops K [] s:=⟨SW.nil h⟩
theorem ALP (q:BQ ops s.t o.guard=J I)(S:Ka o.op=U)(B:Qw P o s=J s1)(h:SW P ops K r s1):SW P ops K (o::r) s:=SW.take 1 (by
 show Eg P ops _ [o] s;unfold Qw at B;split at B;rename_i v t Q;cases B;unfold Eg;refine IF q ?_;unfold RP;rw[YC S];simp only;rw[Q];exact h;cases B)
theorem AZe (B:BQ ops s.t o.guard=J U)(h:SW P ops K r (s.put o.dst (.A7 []))):SW P ops K (o::r) s:=SW.take 1 (by
 show Eg P ops _ [o] s;unfold Eg;exact X8 B h)
theorem BH.h {ds:List (Option Nat)}(hd:ops.map (·.dst)=ds):∀(n:Nat) (b:Bool) {l Q:List Oper} {s s':St},LL P ds n b l s=J (Q,s')->BH P ops K Q s'->BH P ops K l s
 | n,I,[],Q,s,s',h,B=>by simp[LL]at h
 | n,U,[],Q,s,s',h,B=>by simp only[LL,BL,Cr]at h;obtain⟨rfl,rfl⟩:=h;exact B
 | 0,b,o::r,Q,s,s',h,B=>by simp only[LL,BL,Cr]at h;obtain⟨rfl,rfl⟩:=h;exact B
 | n+1,I,o::r,Q,s,s',h,B=>by
   subst hd;unfold LL at h;rw[jG]at h;split at h;rename_i S;split at h;rename_i q;split at h;rename_i s1 z;exact⟨ALP S q z (BH.h rfl n _ h B).out⟩;cases h;cases h;rename_i S;exact⟨AZe S (BH.h rfl n _ h B).out⟩;cases h
 | n+1,U,o::r,Q,s,s',h,B=>by
   subst hd;unfold LL at h;split at h;simp only[BL,Cr]at h;obtain⟨rfl,rfl⟩:=h;exact B;rename_i Ro;have S:BQ ops s.t o.guard=J true:=by rw[Ro];rfl
   split at h;rename_i q;split at h;rename_i s1 z;exact⟨ALP S q z (BH.h rfl n _ h B).out⟩;cases h;simp only[BL,Cr]at h;obtain⟨rfl,rfl⟩:=h;exact B
theorem BH.c2 {f:FuncId}(Q:AC P f Bd res)(B:Fp P f=I)(q:BQ ops s.t o.guard=J I)(S:Ee (ev s.t) o.op=J (f,Bd))(h:BH P ops K r (s.step o.dst res E)):BH P ops K (o::r) s:=⟨SW.take 1 (ADy Q B q S h.out)⟩
theorem BH.q {f:FuncId}{R R':Obj->Prop}(S:AQ P f Bd m R R' (.ret res))(B:Fp P f=I)(hg:BQ ops s.t o.guard=J I)(z:Ee (ev s.t) o.op=J (f,Bd))(hk:s.h[0]?=J (.mp (Ci m R)))(h:BH P ops K r (s.step o.dst res (J (0,.mp (Ci m R'))))):BH P ops K (o::r) s:=by
 obtain⟨args,Q,hp⟩:=Tv z;exact⟨SW.pE 0 S B hg Q hp hk h.out⟩
theorem BH.p {f:FuncId}{R R':Obj->Prop}(S:AQ P f Bd m R R' (.HB ch))(B:Fp P f=I)(z:BQ ops s.t o.guard=J I)(q:Ee (ev s.t) o.op=J (f,Bd))(hk:s.h[0]?=J (.mp (Ci m R)))(h:K (.panic ch) ⟨s.t,Bk s.h (J (0,.mp (Ci m R')))⟩):BH P ops K (o::r) s:=by
 obtain⟨args,Q,hp⟩:=Tv q;exact⟨SW.AEd 0 S B z Q hp hk h⟩
theorem BH.VY {v:V}{t1 t2:List V}(B:N8 ops s.t o.guard=v)(hb:v=.c (.bool b))(hl:D6 b)(Q:Hn ops s.t I o.guard=t1)(S:Hn ops s.t U o.guard=t2)(q:b=I->BH P ops K (o::r) ⟨t1,s.h⟩)(z:b=U->BH P ops K (o::r) ⟨t2,s.h⟩):BH P ops K (o::r) s:=by
 subst Q S;cases e:b with
 | true=>have:=q e;rwa [sx B hb e]at this
 | false=>have:=z e;rwa [sx B hb e]at this
end
def SY (P:Program)(ds:List (Option Nat)):Nat->Bool->List Oper->List (Option Nat×Option Nat)->St->Option (List Oper×List (Option Nat×Option Nat)×St)
 | _,I,[],_,_=>E
 | _,U,[],ks,s=>J ([],ks,s)
 | 0,_,l,ks,s=>J (l,ks,s)
 | n+1,I,o::r,ks,s=>match QE ds s.t o.guard with
   | some I=>match Ka o.op with
     | false=>match Qv P o s with
       | some (e,s')=>if e.ks.1=J 0 then E else SY P ds n U r (ks++[e.ks]) s'
       | none=>E
     | true=>E
   | some U=>SY P ds n U r (ks++[(E,E)]) (s.put o.dst (.A7 []))
   | none=>E
 | n+1,U,o::r,ks,s=>match o.guard with
   | some _=>J (o::r,ks,s)
   | none=>match Ka o.op with
     | false=>match Qv P o s with
       | some (e,s')=>if e.ks.1=J 0 then E else SY P ds n U r (ks++[e.ks]) s'
       | none=>E
     | true=>J (o::r,ks,s)
section
variable {P:Program} {Z:List PanicEntry->Prop} {O0:O} {K:St->Prop} {ops:List Oper} {ks:List (Option Nat×Option Nat)} {s:St}
structure BJ (P:Program)(Z:List PanicEntry->Prop)(O0:O)(ops:List Oper)(K:St->Prop)(l:List Oper)(ks:List (Option Nat×Option Nat))(s:St):Prop where
 out : ∀acc:List Ef,acc.map Ef.ks=ks->(∀e∈acc,ZW O0 e)->TZ P Z ops (λes s'=>Lk ops (es.map Ef.ks)=I/\(∀e∈es,ZW O0 e)/\(yi s'.t\/K s')) l acc s
theorem BJ.I2 {B id:Nat}{R:Nat->Obj->Prop}{K:Exit->St->Prop}(S:P.follows .mixedOrders=I)(q:B<=1)(Q:s.h[0]?=J (.mp R))(h:BJ P (λch=>K (.panic ch) ⟨Aq (G s.t) .any,[.mp R]⟩) (.mp R) ops (K .normal) ops [] s):AW ⟨E,B⟩ P (.region id ops.toArray I) K s:=AW.APA S q Q (h.out [] rfl (by simp)) λ_ h=>h
theorem BJ.done (B:Lk ops ks=I)(h:K s):BJ P Z O0 ops K [] ks s:=⟨λacc e Q=>TZ.nil ⟨by rw[e];exact B,Q,.inr h⟩⟩
theorem BJ.gone (B:Lk ops ks=I)(h:s.t.any V.Wx=I):BJ P Z O0 ops K [] ks s:=⟨λacc e q=>TZ.nil ⟨by rw[e];exact B,q,.inl (by
 obtain⟨v,z,S⟩:=aH.1 h;obtain⟨d,Q⟩:=List.mem_iff_getElem?.1 z;exact⟨d,v,Q,S⟩)⟩⟩
theorem dP {acc:List Ef}(h : ∀e∈acc,ZW O0 e)(S:ZW O0 e):∀Q∈acc++[e],ZW O0 Q:=by
 intro Q B;rcases MJ.1 B with B|B
 exact h Q B;rw[LY.1 B];exact S
theorem ATo (h:e.ks.1≠J 0):ZW O0 e:=λob B=>by
 unfold Ef.ks at h;rw[B]at h;exact absurd rfl h
theorem BJ.step (S:BQ ops s.t o.guard=J I)(Q:Ka o.op=U)(hs:Qv P o s=J (e,s1))(q:e.ks.1≠J 0)(h:BJ P Z O0 ops K r (ks++[e.ks]) s1):BJ P Z O0 ops K (o::r) ks s:=⟨λacc B z=>TZ.step S Q hs (h.out _ (by rw[Fm,B];rfl) (dP z (ATo q)))⟩
theorem BJ.off (Q:BQ ops s.t o.guard=J U)(h:BJ P Z O0 ops K r (ks++[(E,E)]) (s.put o.dst (.A7 []))):BJ P Z O0 ops K (o::r) ks s:=⟨λacc B S=>TZ.off Q (h.out _ (by rw[Fm,B];rfl) (dP S λob e=>by cases e))⟩
theorem BJ.h {ds:List (Option Nat)}(hd:ops.map (·.dst)=ds):∀(n:Nat) (b:Bool) {l S:List Oper} {ks Q:List (Option Nat×Option Nat)} {s s':St},SY P ds n b l ks s=J (S,Q,s')->BJ P Z O0 ops K S Q s'->BJ P Z O0 ops K l ks s
 | n,I,[],S,ks,Q,s,s',h,B=>by simp[SY]at h
 | n,U,[],S,ks,Q,s,s',h,B=>by simp only[SY,BL,Cr]at h;obtain⟨rfl,rfl,rfl⟩:=h;exact B
 | 0,b,o::r,S,ks,Q,s,s',h,B=>by simp only[SY,BL,Cr]at h;obtain⟨rfl,rfl,rfl⟩:=h;exact B
 | n+1,I,o::r,S,ks,Q,s,s',h,B=>by
   subst hd;unfold SY at h;rw[jG]at h;split at h;rename_i q;split at h;rename_i z;split at h;rename_i e s1 hs;split at h;cases h;rename_i hk;exact BJ.step q z hs hk (BJ.h rfl n _ h B);cases h;cases h;rename_i q;exact BJ.off q (BJ.h rfl n _ h B);cases h
 | n+1,U,o::r,S,ks,Q,s,s',h,B=>by
   subst hd;unfold SY at h;split at h;simp only[BL,Cr]at h;obtain⟨rfl,rfl,rfl⟩:=h;exact B;rename_i Ro;have q:BQ ops s.t o.guard=J true:=by rw[Ro];rfl
   split at h;rename_i z;split at h;rename_i e s1 hs;split at h;cases h;rename_i hk;exact BJ.step q z hs hk (BJ.h rfl n _ h B);cases h;simp only[BL,Cr]at h;obtain⟨rfl,rfl,rfl⟩:=h;exact B
theorem BJ.c2 {f:FuncId}(Q:AC P f Bd res)(B:Fp P f=I)(z:BQ ops s.t o.guard=J I)(q:Ee (ev s.t) o.op=J (f,Bd))(h:BJ P Z O0 ops K r (ks++[(E,E)]) (s.step o.dst res E)):BJ P Z O0 ops K (o::r) ks s:=⟨λacc S hp=>TZ.call Q B z q (h.out _ (by rw[Fm,S];rfl) (dP hp λob e=>by cases e))⟩
theorem BJ.q {f:FuncId}(Q:AQ P f Bd m R R (.ret res))(B:Fp P f=I)(hg:BQ ops s.t o.guard=J I)(z:Ee (ev s.t) o.op=J (f,Bd))(hk:s.h[0]?=J (.mp (Ci m R)))(h:BJ P Z (.mp (Ci m R)) ops K r (ks++[(J 0,J 0)]) (s.step o.dst res (J (0,.mp (Ci m R))))):BJ P Z (.mp (Ci m R)) ops K (o::r) ks s:=⟨λacc S hp=>TZ.pE 0 Q B hg z hk (h.out _ (by rw[Fm,S];rfl) (dP hp λob e=>by cases e;rfl))⟩
theorem BJ.p {f:FuncId}(Q:AQ P f Bd m R R (.HB ch))(B:Fp P f=I)(z:BQ ops s.t o.guard=J I)(q:Ee (ev s.t) o.op=J (f,Bd))(hk:s.h[0]?=J (.mp (Ci m R)))(hz:Z ch)(h:BJ P Z O0 ops K r (ks++[(E,J 0)]) (s.step o.dst Tf E)):BJ P Z O0 ops K (o::r) ks s:=⟨λacc S hp=>TZ.HB 0 Q B z q hk hz (h.out _ (by rw[Fm,S];rfl) (dP hp λob e=>by cases e))⟩
theorem BJ.d (Q:o.op.operands.toList.any (λy=>(ev s.t y).Wx)=I)(h:BJ P Z O0 ops K r (ks++[(E,E)]) (s.step o.dst Tf E)):BJ P Z O0 ops K (o::r) ks s:=⟨λacc B S=>TZ.dead Q (h.out _ (by rw[Fm,B];rfl) (dP S λob e=>by cases e))⟩
theorem BJ.VY {v:V}{t1 t2:List V}(B:N8 ops s.t o.guard=v)(hb:v=.c (.bool b))(hl:D6 b)(Q:Hn ops s.t I o.guard=t1)(S:Hn ops s.t U o.guard=t2)(q:b=I->BJ P Z O0 ops K (o::r) ks ⟨t1,s.h⟩)(z:b=U->BJ P Z O0 ops K (o::r) ks ⟨t2,s.h⟩):BJ P Z O0 ops K (o::r) ks s:=by
 subst Q S;cases e:b with
 | true=>have:=q e;rwa [sx B hb e]at this
 | false=>have:=z e;rwa [sx B hb e]at this
end
theorem wC {n:St->Prop}{s:St}(h:K (.panic ch) s):NH n K (.panic ch) s:=h
theorem wA {id:Nat}{s:St}(h:K (.panic ch) s):Sz id K (.panic ch) s:=h
theorem wB {s:St}(h:K (.panic ch) s):z6 K (.panic ch) s:=h
section
variable {P:Program} {K:Exit->St->Prop} {ops:List Oper} {s:St}
theorem BJ.ABV {id:Nat}{t:List V}{h:List O}{R:Nat->Obj->Prop}(Q:P.follows .mixedOrders=I)(_:I=I)(B:BJ P (λch=>K (.panic ch) ⟨Aq (G t) .any,[.mp R]⟩) (.mp R) ops (K .normal) ops [] ⟨t,.mp R::h⟩):AW ⟨E,1⟩ P (.region id ops.toArray I) K ⟨t,.mp R::h⟩:=BJ.I2 Q (BN 1) rfl B
theorem BH.Pj {B id n:Nat}(_:KQ n)(_:Nat.beq id n=U)(h:BH P ops K ops s):AW ⟨E,B⟩ P (.region id ops.toArray U) K s:=BH.I2 h
theorem BJ.Pj {id n:Nat}{t:List V}{h:List O}{R:Nat->Obj->Prop}(_:KQ n)(_:Nat.beq id n=U)(Q:P.follows .mixedOrders=I)(_:I=I)(B:BJ P (λch=>K (.panic ch) ⟨Aq (G t) .any,[.mp R]⟩) (.mp R) ops (K .normal) ops [] ⟨t,.mp R::h⟩):AW ⟨E,1⟩ P (.region id ops.toArray I) K ⟨t,.mp R::h⟩:=BJ.ABV Q rfl B
end
@[simp] theorem Z7 (h:List O):Bk h E=h:=F
@[simp] theorem ALo (o o':O)(h:List O):Bk (o::h) (J (0,o'))=o'::h:=by simp[Bk]
theorem CH {q:Prop}{fn:Func}{c:Code}{R R':Obj->Prop}(hf:P.funcs[g]?=some fn)(hn:fn.ntmps=n)(h:q)(hb:fn.body=some c:=by exact rfl)(k:fn.ntmps=n->q->AW ⟨none,1⟩ P c (oM P fn.results.toList out m R') ⟨args++List.replicate (fn.ntmps - args.length) .any,[.mp (Ci m R)]⟩:=by
   intro hn h;simp only[hn,List.map_cons,List.map_nil,List.length_cons,List.length_nil,Nat.reduceAdd,Nat.reduceSub,List.replicate_succ,List.replicate_zero,List.cons_append,List.nil_append];exact h):AQ P g args m R R' out:=AQ.intro hf hb (k hn h)
theorem stQ {p q:Prop}(h:q)(k:q->p:=by
 intro h;(with_reducible first|refine AW.seq ?_|refine AW.block ?_|refine G3 ?_|refine MV ?_|refine AW.ret ?_|refine S7 ?_|refine S4 ?_|refine BH.done ?_|refine AW.skip ?_|refine AW.exit ?_|refine S6 ?_|refine RN ?_|refine AW.label ?_|refine AW.scope ?_|refine UY ?_|refine S5 ?_|refine UX ?_|refine wC ?_|refine wA ?_|refine wB ?_|refine BJ.done (bl (by kernel_rfl)) ?_|refine S3 (by decide) ?_|refine BH.I2 ?_|refine BJ.ABV Fz rfl ?_)
 repeat (with_reducible first|refine AW.seq ?_|refine AW.block ?_|refine G3 ?_|refine MV ?_|refine AW.ret ?_|refine S7 ?_|refine S4 ?_|refine BH.done ?_|refine AW.skip ?_|refine AW.exit ?_|refine S6 ?_|refine RN ?_|refine AW.label ?_|refine AW.scope ?_|refine UY ?_|refine S5 ?_|refine UX ?_|refine wC ?_|refine wA ?_|refine wB ?_|refine BJ.done (bl (by kernel_rfl)) ?_|refine S3 (by decide) ?_|refine BH.I2 ?_|refine BJ.ABV Fz rfl ?_)
 with_reducible exact h):p:=k h
theorem lT {p q:Prop}(m:KQ n)(h:q)(k:KQ n->q->p:=by
 intro m h;(with_reducible first|refine AW.seq ?_|refine AW.block ?_|refine G3 ?_|refine MV ?_|refine AW.ret ?_|refine S7 ?_|refine S4 ?_|refine BH.done ?_|refine AW.skip ?_|refine AW.exit ?_|refine S6 ?_|refine RN ?_|refine AW.label ?_|refine AW.scope ?_|refine UY ?_|refine S5 ?_|refine UX ?_|refine wC ?_|refine wA ?_|refine wB ?_|refine BJ.done (bl (by kernel_rfl)) ?_|refine S3 (by decide) ?_|refine BH.Pj m rfl ?_|refine BJ.Pj m rfl Fz rfl ?_)
 repeat (with_reducible first|refine AW.seq ?_|refine AW.block ?_|refine G3 ?_|refine MV ?_|refine AW.ret ?_|refine S7 ?_|refine S4 ?_|refine BH.done ?_|refine AW.skip ?_|refine AW.exit ?_|refine S6 ?_|refine RN ?_|refine AW.label ?_|refine AW.scope ?_|refine UY ?_|refine S5 ?_|refine UX ?_|refine wC ?_|refine wA ?_|refine wB ?_|refine BJ.done (bl (by kernel_rfl)) ?_|refine S3 (by decide) ?_|refine BH.Pj m rfl ?_|refine BJ.Pj m rfl Fz rfl ?_)
 with_reducible exact h):p:=k m h
theorem Zs {F p q:Prop}(f:F)(h:q)(k:F->q->p:=by
 intro f h;first
 | (with_reducible refine BH.h (by simp only[List.append_eq,List.cons_append,List.nil_append,List.map_cons,List.map_nil];exact rfl) 4 true (by as_aux_lemma=>(simp (disch:=first|assumption|(simp<;>fail)|omega) [LL,QE,Ef.ks,wrap_i64,if_pos,if_neg,List.replicate_succ,f];first|exact rfl|exact⟨rfl,rfl⟩)) ?_)
 | (with_reducible refine BJ.h (by simp only[List.append_eq,List.cons_append,List.nil_append,List.map_cons,List.map_nil];exact rfl) 4 true (by as_aux_lemma=>(simp (disch:=first|assumption|(simp<;>fail)|omega) [SY,QE,Ef.ks,wrap_i64,if_pos,if_neg,List.replicate_succ,f];first|exact rfl|exact⟨rfl,rfl,rfl⟩)) ?_)
 with_reducible exact h):p:=k f h
theorem F5 {F p q:Prop}(f:F)(C9:AC P g args res)(h:q)(k:F->AC P g args res->q->p:=by
 intro f c h;(with_reducible first|refine BH.c2 c (by first|(simp only[f];done)|kernel_rfl) ?_ ?_ ?_|refine BJ.c2 c (by first|(simp only[f];done)|kernel_rfl) ?_ ?_ ?_)
 focus (simp[BQ,f]<;>fail)
 focus (simp (disch:=first|assumption|(simp<;>fail)|omega) [Ee,wrap_i64,f]<;>fail)
 (simp only[St.step,St.put,Z7];with_reducible exact h)):p:=k f C9 h
theorem WD {F p q:Prop}(f:F)(C9:AQ P g args m R R (.ret res))(h:q)(k:F->AQ P g args m R R (.ret res)->q->p:=by
 intro f c h;(with_reducible first|refine BH.q c (by first|(simp only[f];done)|kernel_rfl) ?_ ?_ ?_ ?_|refine BJ.q c (by first|(simp only[f];done)|kernel_rfl) ?_ ?_ ?_ ?_)
 focus (simp[BQ,f]<;>fail)
 focus (simp (disch:=first|assumption|(simp<;>fail)|omega) [Ee,wrap_i64,f]<;>fail)
 focus exact rfl
 (simp only[St.step,St.put,ALo];with_reducible exact h)):p:=k f C9 h
theorem WC {F p:Prop}(f:F)(C9:AQ P g args m R R (.HB ch))(k:F->AQ P g args m R R (.HB ch)->p:=by
 intro f c;first
 | ((with_reducible refine BH.p c (by first|(simp only[f];done)|kernel_rfl) ?_ ?_ ?_ ?_)
    focus (simp[BQ,f]<;>fail)
    focus (simp (disch:=first|assumption|(simp<;>fail)|omega) [Ee,wrap_i64,f]<;>fail)
    focus exact rfl
    (exact⟨by first|rfl|assumption|(simp[*]<;>fail),rfl⟩))
 | ((with_reducible refine BJ.p c (by first|(simp only[f];done)|kernel_rfl) ?_ ?_ ?_ ?_ ?_)
    focus (simp[BQ,f]<;>fail)
    focus (simp (disch:=first|assumption|(simp<;>fail)|omega) [Ee,wrap_i64,f]<;>fail)
    focus exact rfl
    focus (exact⟨by first|rfl|assumption|(simp[*]<;>fail),rfl⟩)
    (simp only[St.step,St.put,Z7])
    repeat (first
     | ((with_reducible refine BJ.d ?_ ?_);(focus (simp[Op.operands,Call.operands,ev,V.Wx,Tf]<;>fail));(simp only[St.step,St.put,Z7]))
     | (with_reducible refine BJ.h (by simp only[List.append_eq,List.cons_append,List.nil_append,List.map_cons,List.map_nil];exact rfl) 1 true (by as_aux_lemma=>(simp (disch:=first|assumption|(simp<;>fail)|omega) [SY,QE,Ef.ks,wrap_i64,if_pos,if_neg,List.replicate_succ,f];first|exact rfl|exact⟨rfl,rfl,rfl⟩)) ?_))
    exact BJ.gone (bl (by kernel_rfl)) (by simp[V.Wx,Tf]))):p:=k f C9
theorem ZX {F p:Prop}(f:F)(k:F->p:=by
 intro f;with_reducible show oM _ _ _ _ _ _ _
 simp (disch:=first|assumption|(simp<;>fail)|omega) [oM,DV,C0,DE,V.CP,V.CF,CJ,wrap_i64, *]<;>fail):p:=k f
theorem bP {F p q q':Prop}(f:F)(h1:b=true->q)(h2:b=false->q')(k:F->(b=true->q)->(b=false->q')->p:=by
 intro f h1 h2;first
 | (with_reducible refine pS (by simp[ev,f];exact rfl) (by with_reducible exact rfl) (by(fail_if_success with_reducible exact D6.t);(fail_if_success with_reducible exact D6.f);exact D6.mk _) h1 h2)
 | (with_reducible refine BH.VY (by simp[N8,f];exact rfl) (by with_reducible exact rfl) (by(fail_if_success with_reducible exact D6.t);(fail_if_success with_reducible exact D6.f);exact D6.mk _) (by simp[Hn];exact rfl) (by simp[Hn];exact rfl) h1 h2)
 | (with_reducible refine BJ.VY (by simp[N8,f];exact rfl) (by with_reducible exact rfl) (by(fail_if_success with_reducible exact D6.t);(fail_if_success with_reducible exact D6.f);exact D6.mk _) (by simp[Hn];exact rfl) (by simp[Hn];exact rfl) h1 h2)):p:=k f h1 h2
theorem X9 {F p q q' c:Prop}[Decidable c](f:F)(h1:c->q)(h2 : ¬c->q')(k:F->(decide c=true->q)->(decide c=false->q')->p:=by
 intro f h1 h2;first
 | (with_reducible refine pS (by simp[ev,f];exact rfl) (by with_reducible exact rfl) (by(fail_if_success with_reducible exact D6.t);(fail_if_success with_reducible exact D6.f);exact D6.mk _) h1 h2)
 | (with_reducible refine BH.VY (by simp[N8,f];exact rfl) (by with_reducible exact rfl) (by(fail_if_success with_reducible exact D6.t);(fail_if_success with_reducible exact D6.f);exact D6.mk _) (by simp[Hn];exact rfl) (by simp[Hn];exact rfl) h1 h2)
 | (with_reducible refine BJ.VY (by simp[N8,f];exact rfl) (by with_reducible exact rfl) (by(fail_if_success with_reducible exact D6.t);(fail_if_success with_reducible exact D6.f);exact D6.mk _) (by simp[Hn];exact rfl) (by simp[Hn];exact rfl) h1 h2)):p:=k f (λh=>h1 (of_decide_eq_true h)) λh=>h2 (of_decide_eq_false h)
theorem bO {F p q q':Prop}{c:Bool}(f:F)(h1:c=false->q)(h2:c=true->q')(k:F->((!c)=true->q)->((!c)=false->q')->p:=by
 intro f h1 h2;first
 | (with_reducible refine pS (by simp[ev,f];exact rfl) (by with_reducible exact rfl) (by(fail_if_success with_reducible exact D6.t);(fail_if_success with_reducible exact D6.f);exact D6.mk _) h1 h2)
 | (with_reducible refine BH.VY (by simp[N8,f];exact rfl) (by with_reducible exact rfl) (by(fail_if_success with_reducible exact D6.t);(fail_if_success with_reducible exact D6.f);exact D6.mk _) (by simp[Hn];exact rfl) (by simp[Hn];exact rfl) h1 h2)
 | (with_reducible refine BJ.VY (by simp[N8,f];exact rfl) (by with_reducible exact rfl) (by(fail_if_success with_reducible exact D6.t);(fail_if_success with_reducible exact D6.f);exact D6.mk _) (by simp[Hn];exact rfl) (by simp[Hn];exact rfl) h1 h2)):p:=k f (λh=>h1 (by simpa using h)) λh=>h2 (by simpa using h)
theorem bQ {F p q q' c:Prop}[Decidable c](f:F)(h1 : ¬c->q)(h2:c->q')(k:F->((!decide c)=true->q)->((!decide c)=false->q')->p:=by
 intro f h1 h2;first
 | (with_reducible refine pS (by simp[ev,f];exact rfl) (by with_reducible exact rfl) (by(fail_if_success with_reducible exact D6.t);(fail_if_success with_reducible exact D6.f);exact D6.mk _) h1 h2)
 | (with_reducible refine BH.VY (by simp[N8,f];exact rfl) (by with_reducible exact rfl) (by(fail_if_success with_reducible exact D6.t);(fail_if_success with_reducible exact D6.f);exact D6.mk _) (by simp[Hn];exact rfl) (by simp[Hn];exact rfl) h1 h2)
 | (with_reducible refine BJ.VY (by simp[N8,f];exact rfl) (by with_reducible exact rfl) (by(fail_if_success with_reducible exact D6.t);(fail_if_success with_reducible exact D6.f);exact D6.mk _) (by simp[Hn];exact rfl) (by simp[Hn];exact rfl) h1 h2)):p:=k f (λh=>h1 (by simpa using h)) λh=>h2 (by simpa using h)
theorem wg {F C p q:Prop}(f:F)(c:C)(h:q)(k:F->C->q->p:=by
 intro f c h;first
 | ((first|refine F5 f c.1 ?_|refine WD f c.1 ?_);exact h)
 | ((first|refine F5 f c.2.1 ?_|refine WD f c.2.1 ?_);exact h)
 | ((first|refine F5 f c.2.2.1 ?_|refine WD f c.2.2.1 ?_);exact h)
 | ((first|refine F5 f c.2.2.2.1 ?_|refine WD f c.2.2.2.1 ?_);exact h)
 | ((first|refine F5 f c.2.2.2.2.1 ?_|refine WD f c.2.2.2.2.1 ?_);exact h)
 | ((first|refine F5 f c.2.2.2.2.2.1 ?_|refine WD f c.2.2.2.2.2.1 ?_);exact h)
 | ((first|refine F5 f c.2.2.2.2.2.2.1 ?_|refine WD f c.2.2.2.2.2.2.1 ?_);exact h)
 | ((first|refine F5 f c.2.2.2.2.2.2.2.1 ?_|refine WD f c.2.2.2.2.2.2.2.1 ?_);exact h)):p:=k f c h
theorem xF {F C p:Prop}(f:F)(c:C)(k:F->C->p:=by
 intro f c;first
 | exact WC f c.1
 | exact WC f c.2.1
 | exact WC f c.2.2.1
 | exact WC f c.2.2.2.1
 | exact WC f c.2.2.2.2.1
 | exact WC f c.2.2.2.2.2.1
 | exact WC f c.2.2.2.2.2.2.1
 | exact WC f c.2.2.2.2.2.2.2.1):p:=k f c
theorem qz {F C p:Prop}(f:F)(c:C)(k:F->C->p:=by
 intro ff cc;repeat any_goals (first|refine stQ ?_|exact ZX ff|refine Zs ff ?_|refine wg ff cc ?_|exact xF ff cc|refine DI ff ?_|((first|refine X9 ff ?_ ?_|refine bQ ff ?_ ?_|refine bO ff ?_ ?_|refine bP ff ?_ ?_)<;>intro h<;>try (exfalso;first|omega|contradiction)))):p:=k f c
theorem qy {F C p q:Prop}(f:F)(c:C)(h:Sw q)(k:F->C->Sw q->p:=by
 intro ff cc hh;repeat any_goals (first|refine stQ ?_|exact ZX ff|refine Zs ff ?_|refine wg ff cc ?_|exact xF ff cc|refine DI ff ?_|((first|refine X9 ff ?_ ?_|refine bQ ff ?_ ?_|refine bO ff ?_ ?_|refine bP ff ?_ ?_)<;>intro h<;>try (exfalso;first|omega|contradiction)))
 with_reducible exact hh.out):p:=k f c h
theorem qu {F C p q:Prop}(m:KQ n)(f:F)(c:C)(h:Sw q)(k:KQ n->F->C->Sw q->p:=by
 intro mm ff cc hh;repeat any_goals (first|refine lT mm ?_|exact ZX ff|refine Zs ff ?_|refine wg ff cc ?_|exact xF ff cc|refine DI ff ?_|((first|refine X9 ff ?_ ?_|refine bQ ff ?_ ?_|refine bO ff ?_ ?_|refine bP ff ?_ ?_)<;>intro h<;>try (exfalso;first|omega|contradiction)))
 with_reducible exact hh.out):p:=k m f c h
section
variable {P:Program} {K:Exit->St->Prop} {ops:List Oper} {s:St}
theorem SW.Tq (v:V)(t:Option (Nat×O))(Ce : ∀k ob,t=J (k,ob)->k<=G s.h)(hg:BQ ops s.t o.guard=J I)(hR : ∀(S0:BF) (w0:Bs) (x:Cx) (a:Act) (w:World),Good S0 w0 x w (λk=>s.h[k]?)->AO x w s.t a.tmps.toList->BW P o a S0 w0 x w (λk=>s.h[k]?) v t)(h:SW P ops K r (s.step o.dst v t)):SW P ops K (o::r) s:=λS0 w0 x a w B=>by
 have hw:FB o (yielded ops.toArray a.tmps)=true:=by
  have:=KR (o:=o) B.tm (IF (ops:=ops) (K1:=True) (K2:=False) hg W);exact Kn λh=>this.2 h
 unfold wpList;rw[if_pos hw];refine .inl ?_;obtain⟨nx,w',x',u,hr,EH,q,z,he,_⟩:=hR x.S (w0.re w B.good.keep.size) x a w B.good.XR B.tm;obtain⟨z,CB⟩:=B.good.Sg he z;have e:=Kj s.h t Ce;have Q:Good S0 w0 x' w' (λi=>(Bk s.h t)[i]?):=by rw[e];exact z
 unfold Er;rw[hr];rcases EH with rfl|⟨rfl,rfl⟩
 exact h S0 w0 x' _ w' (Bo.put B.tm (B.df.mono CB) he Q q o.dst);exact h S0 w0 x' _ w' (Bo.put B.tm (B.df.mono CB) he Q q o.dst)
end
def Kt (n:Nat)(M:ByteArray->Bool)(_:Nat)(ob:Obj):Prop:=
 ∀(w:World) (b:Nat),w.heap[b]?=J ob->∃D:DataW Unit,w.ownsMap AF 9 (plainElem AF 4) b n D/\Maps.IsMap D/\
  ∀s:ByteArray,s.size<=maxLen->D.atKey (.string s.data.toList) (.lit (.bool U))=.lit (.bool (M s))
def Z6 (M:ByteArray->Bool)(s:ByteArray):ByteArray->Bool:=λx=>decide (x=s) || M x
theorem AbA (w:World):(zeroValue 4).run AF w=.ok (.bool U) w:=by kernel_rfl
theorem AWX {H:Type}{e:TypeId}(B:P.underlying e=J .bool){v:Value}{z:DataW H×List MemPlace}(h:plainElem P e v=J z):∃a,v=.bool a/\z=(.lit (.bool a),[]):=by
 unfold plainElem at h;rw[B]at h;cases v<;>simp at h;subst h;exact⟨_,F,F⟩
theorem Kt.made {B:Nat}:Kt 0 (λ_=>U) B (.map #[] 0):=λw b Q=>⟨.map [],⟨#[],0,Q,⟨by simp,AMv 0,by simp⟩,BN _,rfl⟩,Maps.isMap_empty,λ_ _=>rfl⟩
theorem Kt.look {b b0 n:Nat}{M:ByteArray->Bool}(h:Kt n M b0 ob)(hb:w.heap[b]?=J ob)(z:s.size<=maxLen):
 (fk 115 (.map (J b)) (.string s) U).run AF w=.ok (.bool (M s)) w:=by
 obtain⟨D,⟨es,clock,h1,F,_,rfl⟩,_,hM⟩:=h w b hb;have S:=hM s z;rcases Maps.fit_look (t:=115) U (me Lb) Abx (AbA w) h1 F (n6 Lb z)with ⟨B,_,Q⟩|⟨e0,y,_,_,B,q,Q,_⟩
 rw[Q]at S;rw[B];simp only[ACh,Lit.bool.injEq]at S;simp[<-S];rw[Q]at S;rw[B];obtain⟨c,e1,e2⟩:=AWX Vq q;rw[e2]at S;simp only[ACh,Lit.bool.injEq]at S;rw[e1,S];rfl
theorem Kt.store {b b0 n:Nat}{M:ByteArray->Bool}(h:Kt n M b0 ob)(hb:w.heap[b]?=J ob)(hn:n<maxLen)(hs:s.size<=maxLen):
 ∃w' S,(mJ 115 (.map (J b)) (.string s) (.bool I)).run AF w=.ok () w'/\w.grownBy w' (J b)/\w'.heap[b]?=J S/\still S=U/\Kt (n+1) (Z6 M s) b0 S:=by
 obtain⟨D,ho,hm,hM⟩:=h w b hb;obtain⟨w',Q,Hz,hg⟩:=ho.update (t:=115) (me Lb) Abx hn (n6 Lb hs) (plainElem_bool Vq I);obtain⟨q,B,h1,F,h2,h3⟩:=Hz;refine⟨w',_,Q,hg,h1,rfl,λw2 b2 Fc=>⟨_,⟨q,B,Fc,F,h2,h3⟩,hm.put _ _,λx hx=>?_⟩⟩;by_cases e:x=s;subst e;have hk:ADd (Vh x.data.toList):=W;rw[AC2 hm hk];simp[Z6];have z:Vh x.data.toList≠Vh s.data.toList:=λh=>e (by cases x;cases s;simpa using h)
 rw[AC1 z];simp only[Z6,decide_eq_false e,tf];exact hM x hx
section
variable {S0:BF} {w0:Bs} {x:Cx} {w:World} {H:Bx} {a:Act} {o:Oper}
theorem AVJ (g:Good S0 w0 x w H){y:Operand}(ho:o.op=.makeMap 115 (J y)){kd:IntKind}{l:Int}(S:CV x w (.c (.int kd l)) (a.eval y))(k:Nat)(hk : ¬x.dom k):BW AF o a S0 w0 x w H (.mp k) (J (k,.mp (Kt 0 (λ_=>U)))):=by
 simp only[CV,Ab]at S;have B:Ay w (w.alloc (.map #[] 0)):=(Ay.refl w).alloc _;have Q:Ext x (x.C4 k ⟨w.heap.size,0,U,0,U⟩) w (w.alloc (.map #[] 0)):=Good.ext1 k _ hk λb j v _ z=>B.cell z
 have q:=g.H5 k (.mp (Kt 0 (λ_=>U))) Q (.FR B) (λi=>Iff.rfl) (λi hi=>by simp[Cx.C4,hi]) (λ_=>.inr (by simp[Cx.C4])) ⟨by simp[Cx.C4],by simp[Cx.C4],_,by simp only[Cx.C4,if_true];exact heap_alloc_new w _,rfl,Kt.made⟩ (λb j h=>.inl h) (λj hx hs=>hx);refine⟨_,_,_,.map (J w.heap.size),?_,.inl F,?_,q,Q,λk' h=>h.elim .inl λe=>.inr ⟨.mp (Kt 0 (λ_=>U)),by rw[e]⟩,λ_=>rfl⟩;simp[execOp,ho,S.1,mG,run_underlying Abx];rfl;simp only[CV,Cx.C4,if_true];exact⟨.inr W,W,W⟩
theorem AVF (g:Good S0 w0 x w H){y z:Operand}(ho:o.op=.lookup 115 y z U){k n:Nat}{M:ByteArray->Bool}(B:CV x w (.mp k) (a.eval y))(Q:CV x w (.c (.str s)) (a.eval z))(hk:H k=J (.mp (Kt n M))):BW AF o a S0 w0 x w H (.c (.bool (M s))) none:=by
 simp only[CV,Ab]at B Q;obtain⟨hd,ht,B⟩:=B;obtain⟨Q,hs⟩:=Q;obtain⟨_,_,_,ob,q,_,S⟩:=g.ok k _ hk;exact BW.pure g (u:=.bool (M s)) (by simp[execOp,ho,B,Q,S.look q hs]) (by simp only[CV,Ab])
theorem AVH (g:Good S0 w0 x w H){y z v:Operand}(ho:o.op=.mapUpdate 115 y z v){k n:Nat}{M:ByteArray->Bool}(q:CV x w (.mp k) (a.eval y))(hz:CV x w (.c (.str s)) (a.eval z))(hv:a.eval v=.bool I)(hk:H k=J (.mp (Kt n M)))(hn:n<maxLen):BW AF o a S0 w0 x w H .any (J (k,.mp (Kt (n+1) (Z6 M s)))):=by
 simp only[CV,Ab]at q hz;obtain⟨hd,ht,q⟩:=q;obtain⟨hz,hs⟩:=hz;obtain⟨_,h1,h2,ob,hb,A2,hR⟩:=g.ok k _ hk;obtain⟨w',Cw,Q,B,CT,VB,jT⟩:=hR.store hb hn hs;have ar:Ar x.S x.S w w':=⟨λ_ _ h=>h,λb j v hS hc=>by
  have A1:b≠(x.loc k).b:=λe=>by
   subst e;obtain⟨D,⟨es,clock,yp,_⟩,_⟩:=hR w _ hb;unfold iC at hc;simp[yp]at hc
  have A0:b<w.heap.size:=g.ex b j hS;exact(RK (B.block b A0 λe=>A1 (ML e))).trans hc⟩
 have he:Ext x x w w':=⟨ar,λ_ h=>h,λ_ _=>FM.refl _⟩
 have g':=g.H5 k (.mp (Kt (n+1) (Z6 M s))) he ⟨B.os,B.tape,B.output,B.size,λb Fc KY=>B.block b Fc λe=>KY ⟨hd,h2,(ML e).symm⟩⟩ (λi=>⟨.inl,λh=>h.elim id λe=>e ▸ hd⟩) (λ_ _=>rfl) (λ_=>.inl ⟨hd,h2,rfl⟩) ⟨h1,h2,Cw,CT,VB,jT⟩ (λb j h=>.inl h) (λj hx=>hx.elim);refine⟨.skip,w',x,undef,?_,.inr ⟨F,F⟩,by simp only[CV],g',he,λ_ h=>.inl h,λ_=>rfl⟩;simp[execOp,ho,q,hz,hv,Q]
end
def HG (n:Nat)(M:ByteArray->Option Int)(ob:Obj):Prop:=
 ∀(w:World) (b:Nat),w.heap[b]?=J ob->∃D:DataW Unit,w.ownsMap AF 9 (plainElem AF 3) b n D/\Maps.IsMap D/\
  ∀s:ByteArray,s.size<=maxLen->∀d,D.atKey (.string s.data.toList) (.lit d)=.lit (match M s with|some h=>.int .i64 h|none=>d)
def Y3 (M:ByteArray->Option Int)(s:ByteArray)(h:Int):ByteArray->Option Int:=λx=>if x=s then J h else M x
theorem HG.made:HG 0 (λ_=>E) (.map #[] 0):=λw b B=>⟨.map [],⟨#[],0,B,⟨by simp,AMv 0,by simp⟩,BN _,rfl⟩,Maps.isMap_empty,λ_ _ _=>rfl⟩
theorem AbC (w:World):(zeroValue 3).run AF w=.ok (.int .i64 0) w:=by kernel_rfl
theorem HG.look {b n:Nat}(h:HG n M ob)(hb:w.heap[b]?=J ob)(hs:s.size<=maxLen):
 (fk 109 (.map (J b)) (.string s) I).run AF w=.ok (.tuple #[.int .i64 ((M s).getD 0),.bool (M s).isSome]) w/\∀a,M s=J a->(Lit.int .i64 a).wf=true:=by
 obtain⟨D,⟨es,clock,h1,F,_,rfl⟩,_,hM⟩:=h w b hb;have q:=hM s hs;rcases Maps.fit_look (t:=109) I (me Lb) Abw (AbC w) h1 F (n6 Lb hs)with ⟨B,_,Q⟩|⟨e0,y,_,_,B,A0,Q,_⟩
 cases z:M s with
 | none=>exact⟨by simpa using B,λa e=>by cases e⟩
 | some a =>
   have:=q (.bool I);rw[Q,z]at this;cases this
 obtain⟨c,e1,e2,e3⟩:=plainElem_int_inv Fo A0;cases z:M s with
 | none =>
   have S:=q (.bool I);have k2:=q (.bool U);rw[Q,z]at S k2;rw[S]at k2;cases k2
 | some a =>
   have S:=q (.bool I);rw[Q,z,e2]at S;simp only[ACh,Lit.int.injEq,true_and]at S;subst S;refine⟨by rw[e1]at B;simpa using B,λb e=>?_⟩;cases e;exact e3
theorem HG.store {b n:Nat}(h:HG n M ob)(hb:w.heap[b]?=J ob)(hn:n<maxLen)(hs:s.size<=maxLen){a:Int}(ha:(Lit.int .i64 a).wf=I):
 ∃w' S,(mJ 109 (.map (J b)) (.string s) (.int .i64 a)).run AF w=.ok () w'/\w.grownBy w' (J b)/\w'.heap[b]?=J S/\still S=U/\HG (n+1) (Y3 M s a) S:=by
 obtain⟨D,ho,hm,hM⟩:=h w b hb;obtain⟨w',Q,Hz,hg⟩:=ho.update (t:=109) (me Lb) Abw hn (n6 Lb hs) (plainElem_int Fo ha);obtain⟨q,B,h1,F,h2,h3⟩:=Hz;refine⟨w',_,Q,hg,h1,rfl,λw2 b2 Fc=>⟨_,⟨q,B,Fc,F,h2,h3⟩,hm.put _ _,λx hx d=>?_⟩⟩;by_cases e:x=s;subst e;have hk:ADd (Vh x.data.toList):=W;rw[AC2 hm hk];simp[Y3];have z:Vh x.data.toList≠Vh s.data.toList:=λh=>e (by cases x;cases s;simpa using h)
 rw[AC1 z];simp only[Y3,if_neg e];exact hM x hx d
section
variable {S0:BF} {w0:Bs} {x:Cx} {w:World} {H:Bx} {a:Act} {o:Oper}
theorem AVI (g:Good S0 w0 x w H){y:Operand}(ho:o.op=.makeMap 109 (J y)){kd:IntKind}{l:Int}(S:CV x w (.c (.int kd l)) (a.eval y))(k:Nat)(hk : ¬x.dom k):BW AF o a S0 w0 x w H (.mp k) (J (k,.mp (λ_=>HG 0 λ_=>E))):=by
 simp only[CV,Ab]at S;have B:Ay w (w.alloc (.map #[] 0)):=(Ay.refl w).alloc _;have Q:Ext x (x.C4 k ⟨w.heap.size,0,U,0,U⟩) w (w.alloc (.map #[] 0)):=Good.ext1 k _ hk λb j v _ z=>B.cell z
 have q:=g.H5 k (.mp (λ_=>HG 0 λ_=>E)) Q (.FR B) (λi=>Iff.rfl) (λi hi=>by simp[Cx.C4,hi]) (λ_=>.inr (by simp[Cx.C4])) ⟨by simp[Cx.C4],by simp[Cx.C4],_,by simp only[Cx.C4,if_true];exact heap_alloc_new w _,rfl,HG.made⟩ (λb j h=>.inl h) (λj hx hs=>hx);refine⟨_,_,_,.map (J w.heap.size),?_,.inl F,?_,q,Q,λk' h=>h.elim .inl λe=>.inr ⟨.mp (λ_=>HG 0 λ_=>E),by rw[e]⟩,λ_=>rfl⟩;simp[execOp,ho,S.1,mG,run_underlying Abw];rfl;simp only[CV,Cx.C4,if_true];exact⟨.inr W,W,W⟩
theorem AU5 (g:Good S0 w0 x w H){y z:Operand}(ho:o.op=.lookup 109 y z I){k n:Nat}(B:CV x w (.mp k) (a.eval y))(Q:CV x w (.c (.str s)) (a.eval z))(hk:H k=J (.mp (λ_=>HG n M))):BW AF o a S0 w0 x w H (.A7 [.c (.int .i64 ((M s).getD 0)),.c (.bool (M s).isSome)]) none:=by
 simp only[CV,Ab]at B Q;obtain⟨hd,ht,B⟩:=B;obtain⟨Q,hs⟩:=Q;obtain⟨_,_,_,ob,hb,_,hR⟩:=g.ok k _ hk;obtain⟨S,q⟩:=hR.look hb hs;refine BW.pure g (u:=.tuple #[.int .i64 ((M s).getD 0),.bool (M s).isSome]) (by simp[execOp,ho,B,Q,S]) ?_;simp only[CV,AO,Ab];refine⟨_,F,_,_,F,⟨F,?_⟩,_,_,F,F,F⟩;cases hM:M s with
 | none=>rfl
 | some a=>exact q a hM
theorem AU6 (g:Good S0 w0 x w H){y z:Operand}(ho:o.op=.lookup 109 y z I){k m n:Nat}(S:CV x w (.c (.MA m)) (a.eval y))(B:CV x w (.c (.str s)) (a.eval z))(hk:H k=J (.mp (Ci m (HG n M)))):BW AF o a S0 w0 x w H (.A7 [.c (.int .i64 ((M s).getD 0)),.c (.bool (M s).isSome)]) none:=by
 simp only[CV,Ab]at S B;obtain⟨B,hs⟩:=B;obtain⟨_,_,_,ob,Q,_,hm,hR⟩:=g.ok k _ hk;rw[hm]at Q;obtain⟨q,h2⟩:=hR.look Q hs;refine BW.pure g (u:=.tuple #[.int .i64 ((M s).getD 0),.bool (M s).isSome]) (by simp[execOp,ho,S,B,q]) ?_;simp only[CV,AO,Ab];refine⟨_,F,_,_,F,⟨F,?_⟩,_,_,F,F,F⟩;cases hM:M s with
 | none=>rfl
 | some a=>exact h2 a hM
theorem AU7 (g:Good S0 w0 x w H){y z v:Operand}(ho:o.op=.mapUpdate 109 y z v){k n:Nat}(hy:CV x w (.mp k) (a.eval y))(hz:CV x w (.c (.str s)) (a.eval z)){a':Int}(q:CV x w (.c (.int .i64 a')) (a.eval v))(hk:H k=J (.mp (λ_=>HG n M)))(hn:n<maxLen):BW AF o a S0 w0 x w H .any (J (k,.mp (λ_=>HG (n+1) (Y3 M s a')))):=by
 simp only[CV,Ab]at hy hz q;obtain⟨hd,ht,hy⟩:=hy;obtain⟨hz,hs⟩:=hz;obtain⟨q,Mk⟩:=q;obtain⟨_,h1,h2,ob,hb,A2,hR⟩:=g.ok k _ hk;obtain⟨w',Cw,Q,B,CT,VB,jT⟩:=hR.store hb hn hs Mk;have ar:Ar x.S x.S w w':=⟨λ_ _ h=>h,λb j v hS hc=>by
  have A1:b≠(x.loc k).b:=λe=>by
   subst e;obtain⟨D,⟨es,clock,yp,_⟩,_⟩:=hR w _ hb;unfold iC at hc;simp[yp]at hc
  have A0:b<w.heap.size:=g.ex b j hS;exact(RK (B.block b A0 λe=>A1 (ML e))).trans hc⟩
 have he:Ext x x w w':=⟨ar,λ_ h=>h,λ_ _=>FM.refl _⟩
 have g':=g.H5 k (.mp (λ_=>HG (n+1) (Y3 M s a'))) he ⟨B.os,B.tape,B.output,B.size,λb Fc KY=>B.block b Fc λe=>KY ⟨hd,h2,(ML e).symm⟩⟩ (λi=>⟨.inl,λh=>h.elim id λe=>e ▸ hd⟩) (λ_ _=>rfl) (λ_=>.inl ⟨hd,h2,rfl⟩) ⟨h1,h2,Cw,CT,VB,jT⟩ (λb j h=>.inl h) (λj hx=>hx.elim);refine⟨.skip,w',x,undef,?_,.inr ⟨F,F⟩,by simp only[CV],g',he,λ_ h=>.inl h,λ_=>rfl⟩;simp[execOp,ho,hy,hz,q,Q]
end
theorem AJo (s:ByteArray)(hs:s.size<=maxLen):AC AF 73 [.c (.str s)] (.c (.bool (Ck s))):=by
 unfold maxLen at hs;refine en func73 ntmps73 ?_;refine Ah ?_;refine lp (ι:={ k:Nat // k<=s.size/\s.data.toList.all Dx=(s.data.toList.drop k).all Dx }) (λk=>[(3,.c (.int .i64 (k.1:Int))),(2,.c (.bool U))]) (λ_=>[]) (λk=>s.size - k.1) ⟨0,by simp⟩ ?_ ?_;all_goals simp only[CG,Bw,CO,Ag,Ai]
 exact DH;rintro ⟨k,hk,S⟩;by_cases B:k<s.size;have hd:s.data.toList.drop k=(s.data[k]'B)::s.data.toList.drop (k+1):=by rw[D5 (by simpa using B)];simp
 rw[hd,Ep]at S;obtain⟨b,q⟩:=AI (s.data[k]'B);rw[q]at S;have hw:AZ.wrap ((k:Int)+1)=((k+1:Nat):Int):=by rw[Ac];simp
 have jc:Dx b=U->Ck s=false:=λe=>by unfold Ck;rw[S,e];rfl
 by_cases Q:(b.toNat:Int)<32;rw[jc (by simp[Dx];omega)];refine go (cj2 @B @q @Q) ?_;exact At MQ;by_cases z:(126:Int)<(b.toNat:Int);rw[jc (by simp[Dx];omega)];refine go (cj3 @B @q @Q @z) ?_;exact At MQ;have e:Dx b=true:=by simp[Dx];omega
 refine go (cj4 @B @q @Q @z @hw) ?_;refine⟨⟨k+1,by omega,by rw[S,e,Cd]⟩,by simp only;omega,?_⟩;exact DH;have Hh:k=s.size:=by omega
 have e:s.data.toList.all Dx=true:=by rw[S,FA (by simp;omega)];rfl
 have EC:s.size=s.data.size:=F;have hr:Ck s=(decide (1<=(s.size:Int)) && decide ((s.size:Int)<=16)):=by
  unfold Ck;rw[e,Cd,show decide (1<=s.size)=decide (1<=(s.size:Int))from by simp;omega,show decide (s.size<=16)=decide ((s.size:Int)<=16)from by simp;omega]
 rw[hr];clear EC hr;by_cases Q:(1:Int)<=(s.size:Int);rw[decide_eq_true Q,Cd];exact wz (cj2 @B @Q MQ) W;rw[decide_eq_false Q,D4];exact wz (cj2 @B @Q MQ) W
theorem AW3 (p:Params):AC AF 72 [.agg p.vs] (.c (.bool (Qk p))):=by
 have Q:=Xg 1 100 p.SK (F2 F);have S:=Xg 0 20000 p.lens (F2 F);have hP:Qk p=(DX 1 100 p.SK && DX 0 20000 p.lens):=F;rw[hP];cases z:DX 1 100 p.SK with
 | false=>rw[z]at Q;rw[D4];unfold AV Params.SK at Q;unfold Params.vs Params.list;simp only[Ap,BB]at Q ⊢;refine en JA vF ?_;exact wz va (cj Q<|trivial)
 | true=>rw[z]at Q;rw[Cd];unfold AV Params.SK at Q;unfold AV Params.lens at S;unfold Params.vs Params.list;simp only[Ap,BB]at Q S ⊢;obtain⟨B,q⟩:=AI (DX 0 20000 p.lens);unfold Params.lens at q;unfold Params.lens;rw[q]at S ⊢;refine en JA vF ?_;exact wz va (cj2 Q S W)
theorem ALw (name:ByteArray)(m n:Nat)(M:ByteArray->Option Int):AQ AF 75 [.c (.str name),.cp [.MA m] 0] m (HG n M) (HG n M) (.ret (.A7 [.c (.int .i64 ((M name).getD 0)),.c (.bool (M name).isSome)])):=by
 refine CH func75 ntmps75 ?_;refine qu (.mk 1) np trivial ⟨?_⟩;refine AW.DA ?_;refine CY (.mk 2) trivial ?_;refine SW.Tq (.A7 [.c (.int .i64 ((M name).getD 0)),.c (.bool (M name).isSome)]) E (λ_ _ e=>nomatch e) rfl (λS0 w0 x a w g S=>?_) ?_;have B:=CW S (.tmp 8);have Q:=CW S (.tmp 9);simp only[ev,Om,On]at B Q;exact AU6 (k:=0) g rfl B Q F;simp only[St.step,St.put,Bk,Ag,Ai];refine CY (.mk 5) trivial ?_;refine SW.nil ?_;exact qz np W
theorem Aai (s:Bc)(m n:Nat)(M:ByteArray->Option Int)(hn:s.name.size<=maxLen)(hM : ∀x h,M x=J h-> -60000<=h/\h<=60000)(hz:G s.sizes<=maxLen)(hp:G s.parts<=maxLen):AQ AF 76 [.agg (s.row.map V.c),.fn 75 [.cp [.MA m] 0]] m (HG n M) (HG n M) (.ret (.c (.bool (Oh M s)))):=by
 have h1:=AJo s.name hn;have h2:=Xg 1 16 [(G s.sizes:Int)] (F2 F);unfold maxLen at hz hp;unfold Bc.row Gv Ek;simp only[Ap,BB];unfold AV at h2;simp only[Ap,BB]at h2;obtain⟨ZR,yZ⟩:=AI ((s.sizes.map λn=>[C.str n]));obtain⟨PR,EO⟩:=AI (s.parts.map CR.row);have G4:G ZR=G s.sizes:=by rw[<-yZ,Ch]
 have Ed:G PR=G s.parts:=by rw[<-EO,Ch]
 rw[yZ,EO];rw[<-G4]at h2;obtain⟨B1,Il⟩:=AI (Ck s.name);obtain⟨B2,O9⟩:=AI (DX 1 16 [(G ZR:Int)]);have jW:Oh M s=((B1 && (B2 && decide (G s.parts<=8))) && (Sc M (-60000) s.sizes && (if s.parts=[]then decide (s.Dc=0)else du M s))):=by unfold Oh;rw[Il,<-O9,G4]
 rw[Il]at h1;rw[O9]at h2;cases B1 with
 | false=>rw[jW,D4,D4];refine CH Ib ARW ?_;exact qz (cj2 @G4 @Ed Q3) (cj2 h1 h2 W)
 | true =>
   cases B2 with
   | false=>rw[jW,D4,LV,D4];refine CH Ib ARW ?_;exact qz (cj2 @G4 @Ed Q3) (cj2 h1 h2 W)
   | true =>
     by_cases h8:(8:Int)<(G s.parts:Int);rw[jW,decide_eq_false (show ¬G s.parts<=8 by omega),LV,LV,D4];refine CH Ib ARW ?_;exact qz (cj3 @G4 @Ed @h8 Q3) (cj2 h1 h2 W)
     . rw[decide_eq_true (show G s.parts<=8 by omega),LW,LW,Cd]at jW;rw[jW];refine CH Ib ARW ?_;refine qy (cj3 @G4 @Ed @h8 Q3) (cj2 h1 h2 W) ⟨?_⟩;refine lp (ι:={ q:Nat×Int // q.1<=G s.sizes/\Sc M (-60000) s.sizes=Sc M q.2 (s.sizes.drop q.1) }) (λq=>[(37,.c (.int .i64 (q.1.1:Int))),(5,.c (.int .i64 q.1.2))]) (λ_=>[O.mp (Ci m (HG n M)),O.box 74 [.c (.str s.name),.c (.sl ZR),.c (.sl PR),.c (.int .i64 s.Dc)] U]) (λq=>G s.sizes - q.1.1) ⟨(0,-60000),by simp⟩ ?_ ?_;all_goals simp only[CG,Bw,CO,Ag,Ai]
       exact DH
       . rintro ⟨⟨k,la⟩,hk,S⟩;simp only at hk S ⊢;by_cases B:k<G s.sizes;obtain⟨z,F7⟩:∃z,s.sizes[k]?=J z:=⟨_,BE B⟩
         have A9:ZR[k]?=J [.str z]:=by rw[<-yZ,CM,F7];rfl
         have Bu:=gx A9;have Dh:k<G ZR:=by omega
         have Q:=ALw z m n M;have hw:AZ.wrap ((k:Int)+1)=((k+1:Nat):Int):=by rw[Ac];simp
         rw[D5 B,gx F7 B]at S;simp only[Sc]at S;cases cK:M z with
         | none=>rw[cK]at S Q;simp only[Hr,H8]at Q;simp only at S;rw[S,D4];exact qz (cj5 @B @G4 @A9 @Bu @Dh Q3) (cj Q<|trivial)
         | some h =>
           rw[cK]at S Q;simp only[Dm,IZ]at Q;simp only at S;by_cases A0:h<=la;rw[S,decide_eq_false (show ¬la<h by omega),D4,D4];exact qz (cj6 @B @G4 @A9 @Bu @Dh @A0 Q3) (cj Q<|trivial);rw[decide_eq_true (show la<h by omega),Cd]at S;refine qy (cj7 @B @G4 @A9 @Bu @Dh @A0 @hw Q3) (cj Q<|trivial) ⟨?_⟩;exact⟨⟨(k+1,h),by simp only;omega,S⟩,by simp only;omega,wd 2⟩
         . rw[FA (by omega)]at S;simp only[Sc]at S;rw[S,Cd];by_cases Wl:s.parts=[]
           have zi:(G s.parts:Int)=0:=by rw[Wl];rfl
           rw[if_pos Wl];exact qz (cj4 @B @G4 @Ed @zi Q3) W
           . have zi : ¬(G s.parts:Int)=0:=by
              have:=List.length_pos_iff.2 Wl;omega
             rw[if_neg Wl];unfold du;refine qy (cj4 @B @G4 @Ed @zi Q3) trivial ⟨?_⟩;refine lp (ι:={ q:Nat×Int×Bool // (q.1<=G s.parts/\OW M 60000 U s.parts=OW M q.2.1 q.2.2 (s.parts.drop q.1))/\ -60000<=q.2.1/\q.2.1<=60000 }) (λq=>[(66,.c (.int .i64 (q.1.1:Int))),(10,.c (.int .i64 q.1.2.1)),(11,.c (.bool q.1.2.2))]) (λ_=>[O.mp (Ci m (HG n M)),O.box 74 [.c (.str s.name),.c (.sl ZR),.c (.sl PR),.c (.int .i64 s.Dc)] U]) (λq=>G s.parts - q.1.1) ⟨(0,60000,U),by simp⟩ ?_ ?_;all_goals simp only[CG,Bw,CO,Ag,Ai]
             exact DH;rintro ⟨⟨j,l,e⟩,⟨hj,hJ⟩,FO,EX⟩;simp only at hj hJ FO EX ⊢;by_cases Hx:j<G s.parts;obtain⟨q,hq⟩:∃z,s.parts[j]?=J z:=⟨_,BE Hx⟩
             have A9:PR[j]?=J [.str q.name,.bool q.ext]:=by rw[<-EO,CM,hq];rfl
             have Bu:=gx A9;have Dh:j<G PR:=by omega
             have Q:=ALw q.name m n M;have hw:AZ.wrap ((j:Int)+1)=((j+1:Nat):Int):=by rw[Ac];simp
             rw[D5 Hx,gx hq Hx]at hJ;simp only[OW]at hJ;cases cK:M q.name with
             | none=>rw[cK]at hJ Q;simp only[Hr,H8]at Q;simp only at hJ;rw[hJ];simp only;exact qz (cj5 @Hx @Ed @A9 @Bu @Dh Q3) (cj Q<|trivial)
             | some h =>
               rw[cK]at hJ Q;simp only[Dm,IZ]at Q;simp only at hJ;have hb:=hM _ _ cK;generalize hX:q.ext=X at hJ A9 Bu;have jy : -60000<=(if h<l then h else l)/\(if h<l then h else l)<=60000:=by split<;>omega
               cases e with
               | true=>refine qy (cj6 @Hx @Ed @A9 @Bu @Dh @hw Q3) (cj Q<|trivial) ⟨?_⟩;exact⟨⟨(j+1,if h<l then h else l,I),⟨by simp only;omega,hJ⟩,jy⟩,by simp only;omega,wd 2⟩
               | false=>refine qy (cj6 @Hx @Ed @A9 @Bu @Dh @hw Q3) (cj Q<|trivial) ⟨?_⟩;exact⟨⟨(j+1,if h<l then h else l,X),⟨by simp only;omega,hJ⟩,jy⟩,by simp only;omega,wd 2⟩
             rw[FA (by omega)]at hJ;simp only[OW]at hJ;rw[hJ];simp only;have mU:AZ.wrap (l - 1)=l - 1:=Ac;have h3:=Xg 0 (l - 1) [s.Dc] (F2 F);unfold AV at h3;simp only[Ap,BB]at h3;generalize TK:DX 0 (l - 1) [s.Dc]=B3 at h3 ⊢;cases e with
             | true=>rw[Cd];exact qz (cj2 @Hx @mU Q3) (cj h3<|trivial)
             | false=>rw[D4];exact qz (cj2 @Hx @mU Q3) (cj h3<|trivial)
theorem AW.AUY {m0:Mo}{c:Code}{t:List V}{h:List O}(j k:Nat){ty:TypeId}(hj:h[j]?=J (.mp λ_=>R))(hk:h[k]?=J (.box ty [.mp j] U))(hw : ∀m,AW m0 P c K ⟨t,(h.set j (.mp (Ci m R))).set k (.box ty [.c (.MA m)] U)⟩):AW m0 P c K ⟨t,h⟩:=λn S0 w0 x a w hm hA=>by
 refine hw (x.loc j).b n S0 w0 x a w hm ?_;have g:=hA.good;have z : ∀(i:Nat) (o:O),((h.set j (.mp (Ci (x.loc j).b R))).set k (.box ty [.c (.MA (x.loc j).b)] U))[i]?=J o->∃Q,h[i]?=J Q/\(Ld x w i Q->Ld x w i o)/\(∀q,Ex x i o q->Ex x i Q q):=by
  intro i o B;by_cases e:k=i;subst e;rw[IX (by simpa using (Br.1 hk).1)]at B;cases B;refine⟨_,hk,λ⟨a1,a2,vs,a3,a4,a5⟩=>⟨a1,a2,vs,a3,a4,?_⟩,λq h=>h⟩;simp only[AO,CV,Ab]at a5 ⊢;obtain⟨u,ur,e1,⟨_,_,e2⟩,e3⟩:=a5;exact⟨u,ur,e1,e2,e3⟩;rw[HF e]at B;by_cases e':j=i;subst e';rw[IX (Br.1 hj).1]at B;cases B;exact⟨_,hj,λ⟨a1,a2,ob,a3,a4,a5⟩=>⟨a1,a2,ob,a3,a4,F,a5⟩,λq h=>h⟩;rw[HF e']at B;exact⟨o,B,id,λq h=>h⟩
 refine⟨⟨λi o B=>?_,λi B=>?_,λi i' o o' h1 h2 A0 hv A1=>?_,λi o q B hx=>?_,g.ex,λi o B hv=>?_,g.new,g.sub,g.keep,g.ext⟩,hA.tm,hA.df⟩;obtain⟨Q,h1,h2,_⟩:=z i o B;exact⟨(g.ok i Q h1).1,h2 (g.ok i Q h1).2⟩;obtain⟨o,ho⟩:=g.dom i B;have:=(Br.1 ho).1;exact⟨_,BE (by simpa using this)⟩;obtain⟨Q,S,_⟩:=z i o h1;obtain⟨kg,h4,_⟩:=z i' o' h2;exact g.inj i i' Q kg S h4 A0 hv A1;obtain⟨Q,S,_,h4⟩:=z i o B;exact g.EA i Q q S (h4 q hx);obtain⟨Q,S,_⟩:=z i o B;exact g.own i Q S hv
theorem AKK {S:BF}{w:World} : ∀ {row:List C} {b off:Nat},B5 S w row b off->∀c∈row,∃u,Ab S w c u
 | c::r,b,off,h,d,B=>by
   simp only[B5]at h;obtain⟨⟨v,_,Q⟩,_,q⟩:=h;rcases Cf.1 B with rfl|B
   exact⟨v,Q⟩;exact AKK q d B
theorem AKL {S:BF}{w:World} : ∀ {AG:List (List C)} {b off:Nat},D9 S w AG b off->∀r∈AG,∀c∈r,∃u,Ab S w c u
 | r::Q,b,off,h,d,B=>by
   simp only[D9]at h;rcases Cf.1 B with rfl|B
   exact AKK h.1;exact AKL h.2 d B
theorem sX {S:BF}{AG:List (List C)}{v:Value}(h:Ab S w (.sl AG) v):G AG<=maxLen/\∀r∈AG,∀c∈r,∃u,Ab S w c u:=by
 simp only[Ab]at h;obtain⟨A,c,_,h1,h2,Q⟩:=h;refine⟨by omega,λr B=>?_⟩;obtain⟨b,z,es,_,_,q⟩:=Q (List.ne_nil_of_mem B);exact AKL q r B
theorem ANB {f:FuncId}{H:Prop}(Q : ∀(S:BF) (w:World) (us:List Value),AO (Cx.bare S) w args us->H)(q:H->AC P f args res):AC P f args res:=λS w us z B=>q (Q S w us B) S w us z B
def ADe (f:AP):Prop:=(∀g∈f.DR,g.name.size<=maxLen)/\∀s∈f.C5,s.name.size<=maxLen/\(G s.sizes)<=maxLen/\(G s.parts)<=maxLen
theorem APY {f:AP}{S:BF}{us:List Value}(h:AO (Cx.bare S) w [.agg f.vs] us):ADe f:=by
 simp only[AO,CV]at h;obtain⟨u,_,_,⟨vs,_,h⟩,_⟩:=h;simp only[AP.vs,AP.row,Ap,AO,CV]at h;obtain⟨u1,_,_,h1,u2,_,_,h2,_⟩:=h;refine⟨λg hg=>?_,λs hs=>?_⟩;obtain⟨_,Q⟩:=sX h1;obtain⟨u,B⟩:=Q g.row (Da.2 ⟨g,hg,rfl⟩) (.str g.name) (by simp[BG.row]);simp only[Ab]at B;exact B.2;obtain⟨_,Q⟩:=sX h2;have q:=Q s.row (Da.2 ⟨s,hs,rfl⟩);obtain⟨u,B⟩:=q (.str s.name) (by simp[Bc.row]);obtain⟨u1,Y6⟩:=q (Gv s.sizes) (by simp[Bc.row]);obtain⟨u2,z⟩:=q (Ek s.parts) (by simp[Bc.row]);simp only[Ab]at B;have e1:=(sX Y6).1;have e2:=(sX z).1;rw[Ch]at e1 e2;exact⟨B.2,e1,e2⟩
theorem ASs (l:List BG)(g:BG)(h:R4 l g.name=E):Y3 (R4 l) g.name g.Dy=R4 (l++[g]):=by
 funext x;have B : ∀l:List BG,KU x (l++[g])=(KU x l).or (if g.name=x then J g else E):=by
  intro l;induction l with
  | nil=>simp[KU]
  | cons y r ih=>simp only[BK,KU,ih];split<;>simp
 simp only[Y3,R4,B];by_cases Q:x=g.name;subst Q;simp only[R4,Option.map_eq_none_iff]at h;simp[h];have : ¬g.name=x:=λe=>Q e.symm
 simp[Q,this]
theorem APe (f:AP)(hf:ADe f):AC AF 37 [.agg f.vs] (.c (.bool f.valid)):=by
 have QS:=AW3 f.params;obtain⟨GR,xv⟩:=AI (f.DR.map BG.row);obtain⟨SR,PE⟩:=AI (f.C5.map Bc.row);have Ev:O8 f.DR=.sl GR:=by rw[<-xv];rfl
 have S:MG f.C5=.sl SR:=by rw[<-PE];rfl
 have Up:G GR=G f.DR:=by rw[<-xv,Ch]
 have PF:G SR=G f.C5:=by rw[<-PE,Ch]
 obtain⟨B,hB⟩:=AI (Qk f.params);rw[hB]at QS;by_cases n1:(400:Int)<(G f.DR:Int);have e:f.valid=false:=by unfold AP.valid;rw[decide_eq_false (show ¬G f.DR<=400 by omega)];rfl
 rw[e];refine en DC ART ?_;exact wz (cj5 @Ev @S @Up @PF @n1 Ju) (cj QS<|trivial);by_cases n2:(40:Int)<(G f.C5:Int);have e:f.valid=false:=by unfold AP.valid;rw[decide_eq_false (show ¬G f.C5<=40 by omega),D4,LV];rfl
 rw[e];refine en DC ART ?_;exact wz (cj6 @Ev @S @Up @PF @n1 @n2 Ju) (cj QS<|trivial);cases B with
 | false =>
   have e:f.valid=false:=by unfold AP.valid;rw[hB,LV,LV];rfl
   rw[e];refine en DC ART ?_;exact wz (cj6 @Ev @S @Up @PF @n1 @n2 Ju) (cj QS<|trivial)
 | true =>
   have hV:f.valid=(Ul [] f.DR && Xa f.ht [] f.C5):=by unfold AP.valid;rw[hB,decide_eq_true (show G f.DR<=400 by omega),decide_eq_true (show G f.C5<=40 by omega)];rfl
   refine en DC ART ?_;refine wu (.mk 3) (cj6 @Ev @S @Up @PF @n1 @n2 Ju) (cj QS<|trivial) ⟨?_⟩;refine AW.DA ?_;refine CY (.mk 3) @Ev ?_;refine SW.Tq (.mp 1) (J (1,.mp λ_=>HG 0 (R4 []))) (λk ob e=>by cases e;simp) rfl (λS0 w0 x a w g ht=>?_) ?_;have hY:=CW ht (.tmp 31);simp only[ev,Om,On]at hY;exact AVI g rfl hY 1 λhd=>by obtain⟨o,ho⟩:=g.dom 1 hd;simp at ho
   simp only[St.step,St.put,Bk,BA,BO,Nat.reduceAdd,Nat.reduceLT,Nat.lt_irrefl,if_false,Ag,Ai,BK,BU];refine CY (.mk 2) trivial ?_;refine SW.nil ?_;refine wy (cj2 @Ev @Up Ju) trivial ⟨?_⟩;refine lp (ι:={ k:Nat // k<=G f.DR/\Ul [] f.DR=Ul (f.DR.take k) (f.DR.drop k)/\∀g∈f.DR.take k,Lo g=I }) (λk=>[(36,.c (.int .i64 (k.1:Int)))]) (λk=>[O.box 27 f.vs U,O.mp λ_=>HG k.1 (R4 (f.DR.take k.1)),O.box 109 [V.mp 1] U]) (λk=>G f.DR - k.1) ⟨0,by simp⟩ ?_ ?_;all_goals simp only[CG,Bw,CO,Ag,Ai]
   exact DH
   . rintro ⟨k,hk,hI,hA⟩;simp only;by_cases Q:k<G f.DR;obtain⟨g,hg⟩:∃z,f.DR[k]?=J z:=⟨_,BE Q⟩
     have A9:GR[k]?=J [.str g.name,.int .i64 g.w,.int .i64 g.h,.int .i64 g.d,.int .i64 g.Ey,.int .i64 g.attach]:=by rw[<-xv,CM,hg];rfl
     have Bu:=gx A9;have Dh:k<G GR:=by omega
     have B0:=hf.1 g (Cj hg);have hn:=AJo g.name B0;have EK:=Xg 0 20000 [g.w] (F2 F);have A1:=Xg (-20000) 20000 [g.h,g.d,g.Ey,g.attach] (F2 F);unfold AV at EK A1;simp only[Ap,BB]at EK A1;rw[D5 Q,gx hg Q]at hI;simp only[Ul]at hI;obtain⟨B1,Il⟩:=AI (Ck g.name);obtain⟨B2,O9⟩:=AI (DX 0 20000 [g.w]);obtain⟨B3,TK⟩:=AI (DX (-20000) 20000 [g.h,g.d,g.Ey,g.attach]);have qH:Lo g=(B1 && (B2 && B3)):=by unfold Lo;rw[Il,O9,TK]
     rw[Il]at hn;rw[O9]at EK;rw[TK]at A1;by_cases qI:Lo g=I;have cW:=TK;rw[qH,Ak,Ak]at qI;obtain⟨rfl,rfl,rfl⟩:=qI;simp only[DX,Ep,List.all_nil,Bool.and_true,Ak,decide_eq_true_eq]at cW;have B7:AZ.wrap (g.h+g.d)=g.Dy:=Ac;have OM:AZ.wrap ((k:Int)+1)=((k+1:Nat):Int):=by rw[Ac];simp
     rw[qH,LW,LW,Cd,AGe]at hI;obtain⟨X,hX⟩:=AI (R4 (f.DR.take k) g.name);have qg:(KU g.name (f.DR.take k)).isSome=X.isSome:=by rw[<-hX];unfold R4;rw[Option.isSome_map]
     rw[qg]at hI;refine wu (.mk 10) (cj6 @Q @Ev @Up @A9 @Bu @Dh Ju) (cj3 hn EK A1 W) ⟨?_⟩;refine AW.Lm Fz (.inl F) ?_;refine TW.take 5 (Es (by simp[A9,Bu,Dh];first|exact rfl|exact⟨F,F⟩|exact⟨F,F,F⟩) (HI ?_));simp only[CU,B9];refine TW.op ⟨.A7 [.c (.int .i64 (X.getD 0)),.c (.bool X.isSome)],E,J 1⟩ rfl (λ_ _ h=>by cases h) ?_ ?_;intro S0 w0 y w a H gd A0 hr;rw[<-hX];exact AU5 gd rfl (A0 (.tmp 80) (by simp[Bl])) (A0 (.tmp 84) (by simp[Bl])) (hr 1 F);simp only[St.step,St.put,Z7,Ai,Ag];refine TW.take 5 (Es (by simp;first|exact rfl|exact⟨F,F⟩|exact⟨F,F,F⟩) (HI (TW.nil ⟨by kernel_rfl,?_⟩)));cases X with
     | some y =>
       have e:f.valid=false:=by
        rw[hV,hI];rfl
       rw[e];simp only[IZ];exact wz Ju W
     | none =>
       rw[H8,Bool.not_false,Cd]at hI;simp only[H8];have GP:f.DR.take k++[g]=f.DR.take (k+1):=by rw[UC,hg];rfl
       have hu:=ASs (f.DR.take k) g hX;rw[GP]at hI hu;refine wu (.mk 13) (cj3 @A9 @Bu @Dh Ju) trivial ⟨?_⟩;refine AW.Lm Fz (.inl F) ?_;refine TW.take 7 (Es (by simp[A9,Bu,Dh];first|exact rfl|exact⟨F,F⟩|exact⟨F,F,F⟩) (HI ?_));simp only[CU,B9];refine TW.take 7 (Es (by simp[A9,Bu,Dh,B7];first|exact rfl|exact⟨F,F⟩|exact⟨F,F,F⟩) (HI ?_));simp only[CU,B9];refine TW.op ⟨.any,J (1,.mp λ_=>HG (k+1) (R4 (f.DR.take (k+1)))),J 1⟩ rfl (λk ob e=>by cases e;exact F2 F) ?_ ?_;intro S0 w0 y w a H gd A0 hr;rw[<-hu];exact AU7 gd rfl (A0 (.tmp 89) (by simp[Bl])) (A0 (.tmp 93) (by simp[Bl])) (A0 (.tmp 102) (by simp[Bl])) (hr 1 F) (by unfold maxLen;omega);simp only[St.step,St.put,Bk,BA,BO,Nat.reduceAdd,Nat.reduceLT,if_true,Ai,Ag];refine TW.nil ⟨by kernel_rfl,?_⟩;refine wy (cj @OM<|Ju) trivial ⟨?_⟩;refine⟨⟨k+1,by omega,hI,λx hx=>?_⟩,by simp only;omega,wd 3⟩;rw[<-GP]at hx;rcases MJ.1 hx with hx|hx
       exact hA x hx;rw[LY.1 hx,qH];rfl
     have e:f.valid=false:=by
      rw[hV,hI];simp[qI]
     rw[e];cases B1 with
     | false=>exact wz (cj6 @Q @Ev @Up @A9 @Bu @Dh Ju) (cj hn<|trivial)
     | true =>
       cases B2 with
       | false=>exact wz (cj6 @Q @Ev @Up @A9 @Bu @Dh Ju) (cj2 hn EK W)
       | true =>
         cases B3 with
         | false=>exact wz (cj6 @Q @Ev @Up @A9 @Bu @Dh Ju) (cj3 hn EK A1 W)
         | true=>exact absurd qH qI
     . have A5:Ul [] f.DR=true:=by rw[hI,FA (by omega)];rfl
       have jK : ∀g∈f.DR,Lo g=true:=by rwa [Gl (by omega)]at hA
       have A6:=ASu f jK;rw[A5,Cd]at hV;have EC:k=G f.DR:=by omega
       have jq:R4 (f.DR.take k)=f.ht:=by rw[Gl (by omega)];rfl
       rw[jq];refine wu (.mk 15) (cj @Q<|Ju) trivial ⟨?_⟩;refine AW.AUY 1 2 rfl rfl λm=>?_
       simp only[Ai,Ag];refine Cn 2 ?_;refine wy (cj2 @S @PF Ju) trivial ⟨?_⟩;refine lp (ι:={ j:Nat // j<=G f.C5/\Xa f.ht [] f.C5=Xa f.ht (f.C5.take j) (f.C5.drop j) }) (λj=>[(108,.c (.int .i64 (j.1:Int)))]) (λ_=>[O.box 27 f.vs U,O.mp (Ci m (HG k f.ht)),O.box 109 [V.c (.MA m)] I]) (λj=>G f.C5 - j.1) ⟨0,by simp⟩ ?_ ?_;all_goals simp only[CG,Bw,CO,Ag,Ai]
       exact DH
       . rintro ⟨j,hj,hJ⟩;simp only;by_cases Hx:j<G f.C5
         . obtain⟨s,hs⟩:∃z,f.C5[j]?=J z:=⟨_,BE Hx⟩
           have A9:SR[j]?=J [.str s.name,Gv s.sizes,Ek s.parts,.int .i64 s.Dc]:=by rw[<-PE,CM,hs];rfl
           have Bu:=gx A9;have Dh:j<G SR:=by omega
           have OM:AZ.wrap ((j:Int)+1)=((j+1:Nat):Int):=by rw[Ac];simp
           obtain⟨h1,h2,h3⟩:=hf.2 s (Cj hs);have hv:=Aai s m k f.ht h1 A6 h2 h3;rw[D5 Hx,gx hs Hx]at hJ;simp only[Xa]at hJ;generalize hB:Oh f.ht s=B at hv hJ;refine wu (.mk 19) (cj6 @Hx @S @PF @A9 @Bu @Dh Ju) trivial ⟨?_⟩;refine AW.DA ?_;refine CY (.mk 2) trivial ?_;refine SW.pE 1 hv (by kernel_rfl) (by simp[BQ]) (by simp[C7];first|exact rfl|exact⟨F,F⟩) (by simp[V.CF,V.CP,Bc.row]) rfl ?_;simp only[St.step,St.put,Bk,BA,BO,Nat.reduceAdd,Nat.reduceLT,if_true,Ai,Ag];refine CY (.mk 1) trivial ?_;refine SW.nil ?_;cases B with
           | false =>
             have e:f.valid=false:=by
              rw[hV,hJ];rfl
             rw[e];exact wz Ju W
           | true =>
             rw[Cd]at hJ;obtain⟨TR,yT⟩:=AI (SR.take j);have Lp:G TR=j:=by rw[<-yT,List.length_take];omega
             have A8 (i:Nat) (q:Bc) (hi:i<j) (hq:f.C5[i]?=J q):TR[i]?=J [.str q.name,Gv q.sizes,Ek q.parts,.int .i64 q.Dc]:=by
              rw[<-yT,List.getElem?_take_of_lt hi,<-PE,CM,hq];rfl
             have A3:(∀x∈SR,G x=4)↔True:=⟨λ_=>trivial,λ_ x hx=>by
              rw[<-PE]at hx;obtain⟨q,_,rfl⟩:=Da.1 hx;rfl⟩
             have Wh:(j:Int)<=(G SR:Int):=by omega
             refine wy (cj7 @S @PF @yT @Lp @Dh @A3 @Wh Ju) trivial ⟨?_⟩;refine lp (ι:={ i:Nat // i<=j/\cV s.name (f.C5.take j)=cV s.name ((f.C5.take j).drop i) }) (λi=>[(122,.c (.int .i64 (i.1:Int)))]) (λ_=>[O.box 27 f.vs U,O.mp (Ci m (HG k f.ht)),O.box 109 [V.c (.MA m)] I,O.box 74 [V.c (.str s.name),V.c (Gv s.sizes),V.c (Ek s.parts),V.c (.int .i64 s.Dc)] U]) (λi=>j - i.1) ⟨0,by simp⟩ ?_ ?_;all_goals simp only[CG,Bw,CO,Ag,Ai]
             exact DH;rintro ⟨i,hi,hN⟩;simp only;by_cases Is:i<j;obtain⟨q,hq⟩:∃z,f.C5[i]?=J z:=⟨_,BE (by omega)⟩
             have rD:=A8 i q Is hq;have zr:=gx rD;have A2:i<G TR:=by omega
             have m5:AZ.wrap ((i:Int)+1)=((i+1:Nat):Int):=by rw[Ac];simp
             have hd:(f.C5.take j).drop i=q::(f.C5.take j).drop (i+1):=by
              rw[D5 (by simp;omega)];simp[gx hq (by omega)]
             rw[hd]at hN;simp only[cV]at hN;obtain⟨qn,dF⟩:=AI q.name;obtain⟨sn,rH⟩:=AI s.name;rw[dF]at hN rD zr;by_cases he:q.name=s.name;have e:f.valid=false:=by
              rw[hV,hJ,hN,<-dF,decide_eq_true he];rfl
             rw[e];have J7:(qn=s.name)↔True:=⟨λ_=>trivial,λ_=>dF ▸ he⟩
             exact wz (cj6 @Is @Lp @rD @zr @A2 @J7 Ju) W;have J7 : ¬qn=s.name:=dF ▸ he;rw[decide_eq_false J7,tf]at hN;refine wy (cj7 @Is @Lp @rD @zr @A2 @J7 @m5 Ju) trivial ⟨?_⟩;exact⟨⟨i+1,by omega,hN⟩,by simp only;omega,wd 4⟩;have e:cV s.name (f.C5.take j)=false:=by
              rw[hN,FA (by simp;omega)];rfl
             have GP:f.C5.take j++[s]=f.C5.take (j+1):=by rw[UC,hs];rfl
             rw[e,GP]at hJ;refine wy (cj2 @Is @OM Ju) trivial ⟨?_⟩;exact⟨⟨j+1,by omega,hJ⟩,by simp only;omega,wd 3⟩
         have e:f.valid=true:=by
          rw[hV,hJ,FA (by omega)];rfl
         rw[e];exact wz (cj @Hx<|Ju) W
theorem Ma (f:AP):AC AF 37 [.agg f.vs] (.c (.bool f.valid)):=ANB (λ_ _ _ h=>APY h) (APe f)
end Go.Proofs.YtglaipbdiofkfaaGreat
