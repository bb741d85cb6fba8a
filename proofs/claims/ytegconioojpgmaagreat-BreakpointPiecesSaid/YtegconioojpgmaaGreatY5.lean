/- Part of the proof of breakpointPieces.proved. Conditions: none. -/
import Derived.Test.YtegconioojpgmaaGreatY4
set_option linter.unusedVariables false
set_option linter.unusedSimpArgs false
set_option maxRecDepth 100000
set_option maxHeartbeats 16000000
open List renaming replicate->Aq,getD_cons_succ->Om,getD_cons_zero->On,getElem?_set_self->IX,getElem?_set_ne->HF,length_nil->BO,take_add_one->UC,getElem?_set->RD,length_set->GF,set_append_right->Vg,set_set->aK,set_append_left->gC
open Go.Proofs.Tryz renaming prog->AF,underlying9->Lb,underlying96->Ak8,underlying4->Vq,underlying100->Ak5,underlying3->Fo,results57->ASM,results56->ADV,results59->AGY,func60->IB,ntmps60->AM7,results60->ACK,func30->IP,ntmps30->Aif,results30->ACA,func105->aR,func260->fA,results208->Akw,func277->Ahq,func101->ey,results277->ASG,func103->AQL,func281->AQf,func165->Aao,results165->Aks,results162->AGP,func102->my,results102->RH,func65->Su,results65->UR,func10->AHZ,ntmps10->ALO,results10->US,results66->ADW,func67->vi,ntmps67->ASh,results67->Vp,func104->fB,func36->Sr,ntmps36->ASc,results36->aW,func140->e9,f141->APJ,func31->vW,func19->AEJ
open Go.MapKept renaming stamped_empty->AMv
open Go.Instr renaming lookup->fk,mapUpdate->mJ,makeMap->mG
open Go.Maps renaming string_keyed->me,atKey_put_same->AC2,atKey_put_other->AC1
open Go.WideMaps renaming keyOf_string_mk->n6
open Go.DataW.lit renaming injEq->ACh
open Go.WideAt renaming IsKeyLit->ADd
open Go.Lit renaming string->Vh
open Bool renaming false_or->tf,not_false->ly
open Go.World renaming cell?->iC,cell?_of_block->RK
open Go.IntKind renaming i64->AZ
open Option renaming isSome_none->H8
open Go.Op renaming operands->Bl
open Nat renaming eq_zero_or_pos->AMx
open Option renaming some->J,none->E
open Bool renaming false->U,true->I
open List renaming length->G
namespace Go.Proofs.YtegconioojpgmaaGreat
open Go.RowKit Tryz
variable {R:Nat->Obj->Prop}{P:Program}{g:FuncId}{args:List V}{m:Nat}{n:Nat}{res:V}{w:World}{M:ByteArray->Option Int}{ob:Obj}{s:ByteArray}{K:Exit->St->Prop}{ty:TypeId}{i:Nat}{N:Nat}(H:List O)
section
variable {P:Program} {K:Exit->St->Prop} {ops:List Oper} {s:St}
theorem BJ.ABV {id:Nat}{t:List V}{h:List O}(Q:P.follows .mixedOrders=I)(_:I=I)(hh:BJ P (λB=>K (.panic B) ⟨Aq (G t) .any,[.mp R]⟩) (.mp R) ops (K .normal) ops [] ⟨t,.mp R::h⟩):AW ⟨E,1⟩ P (.region id ops.toArray I) K ⟨t,.mp R::h⟩:=BJ.I2 Q (BN 1) rfl hh
theorem BH.Pj {B id n:Nat}(_:KQ n)(_:Nat.beq id n=U)(h:BH P ops K ops s):AW ⟨E,B⟩ P (.region id ops.toArray U) K s:=BH.I2 h
theorem BJ.Pj {id n:Nat}{t:List V}{h:List O}(_:KQ n)(_:Nat.beq id n=U)(Q:P.follows .mixedOrders=I)(_:I=I)(hh:BJ P (λB=>K (.panic B) ⟨Aq (G t) .any,[.mp R]⟩) (.mp R) ops (K .normal) ops [] ⟨t,.mp R::h⟩):AW ⟨E,1⟩ P (.region id ops.toArray I) K ⟨t,.mp R::h⟩:=BJ.ABV Q rfl hh
end
@[simp] theorem Z7 (h:List O):Bk h E=h:=F
@[simp] theorem ALo (o o':O)(h:List O):Bk (o::h) (J (0,o'))=o'::h:=by simp[Bk]
theorem CH {q:Prop}{fn:Func}{c:Code}{R R':Obj->Prop}{out:Out}(hf:P.funcs[g]?=some fn)(hn:fn.ntmps=n)(h:q)(hb:fn.body=some c:=by exact rfl)(k:fn.ntmps=n->q->AW ⟨none,1⟩ P c (oM P fn.results.toList out m R') ⟨args++List.replicate (fn.ntmps - args.length) .any,[.mp (Ci m R)]⟩:=by
   intro hn h;simp only[hn,Ap,BB,BA,List.length_nil,Nat.reduceAdd,Nat.reduceSub,BY,Cy,BK,BU];exact h):AQ P g args m R R' out:=AQ.intro hf hb (k hn h)
theorem stQ {p q:Prop}(h:q)(k:q->p:=by
 intro h;(with_reducible first|refine AW.seq ?_|refine AW.block ?_|refine G3 ?_|refine MV ?_|refine AW.ret ?_|refine S7 ?_|refine S4 ?_|refine BH.done ?_|refine AW.skip ?_|refine AW.exit ?_|refine S6 ?_|refine RN ?_|refine AW.label ?_|refine AW.scope ?_|refine UY ?_|refine S5 ?_|refine UX ?_|refine wC ?_|refine wA ?_|refine wB ?_|refine BJ.done (bl ZC) ?_|refine S3 ZB ?_|refine BH.I2 ?_|refine BJ.ABV Fz rfl ?_)
 repeat (with_reducible first|refine AW.seq ?_|refine AW.block ?_|refine G3 ?_|refine MV ?_|refine AW.ret ?_|refine S7 ?_|refine S4 ?_|refine BH.done ?_|refine AW.skip ?_|refine AW.exit ?_|refine S6 ?_|refine RN ?_|refine AW.label ?_|refine AW.scope ?_|refine UY ?_|refine S5 ?_|refine UX ?_|refine wC ?_|refine wA ?_|refine wB ?_|refine BJ.done (bl ZC) ?_|refine S3 ZB ?_|refine BH.I2 ?_|refine BJ.ABV Fz rfl ?_)
 with_reducible exact h):p:=k h
theorem lT {p q:Prop}(m:KQ n)(h:q)(k:KQ n->q->p:=by
 intro m h;(with_reducible first|refine AW.seq ?_|refine AW.block ?_|refine G3 ?_|refine MV ?_|refine AW.ret ?_|refine S7 ?_|refine S4 ?_|refine BH.done ?_|refine AW.skip ?_|refine AW.exit ?_|refine S6 ?_|refine RN ?_|refine AW.label ?_|refine AW.scope ?_|refine UY ?_|refine S5 ?_|refine UX ?_|refine wC ?_|refine wA ?_|refine wB ?_|refine BJ.done (bl ZC) ?_|refine S3 ZB ?_|refine BH.Pj m rfl ?_|refine BJ.Pj m rfl Fz rfl ?_)
 repeat (with_reducible first|refine AW.seq ?_|refine AW.block ?_|refine G3 ?_|refine MV ?_|refine AW.ret ?_|refine S7 ?_|refine S4 ?_|refine BH.done ?_|refine AW.skip ?_|refine AW.exit ?_|refine S6 ?_|refine RN ?_|refine AW.label ?_|refine AW.scope ?_|refine UY ?_|refine S5 ?_|refine UX ?_|refine wC ?_|refine wA ?_|refine wB ?_|refine BJ.done (bl ZC) ?_|refine S3 ZB ?_|refine BH.Pj m rfl ?_|refine BJ.Pj m rfl Fz rfl ?_)
 with_reducible exact h):p:=k m h
theorem Zs {F p q:Prop}(f:F)(h:q)(k:F->q->p:=by
 intro f h;first
 | (with_reducible refine BH.h (by simp only[List.append_eq,BK,BU,Ap,BB];exact rfl) 4 true (by as_aux_lemma=>(simp (disch:=first|assumption|(simp<;>fail)|omega) [LL,QE,Ef.ks,wrap_i64,Awd,Awf,BY,f];first|exact rfl|exact⟨rfl,rfl⟩)) ?_)
 | (with_reducible refine BJ.h (by simp only[List.append_eq,BK,BU,Ap,BB];exact rfl) 4 true (by as_aux_lemma=>(simp (disch:=first|assumption|(simp<;>fail)|omega) [SY,QE,Ef.ks,wrap_i64,Awd,Awf,BY,f];first|exact rfl|exact⟨rfl,rfl,rfl⟩)) ?_)
 with_reducible exact h):p:=k f h
theorem F5 {F p q:Prop}(f:F)(C9:AC P g args res)(h:q)(k:F->AC P g args res->q->p:=by
 intro f c h;(with_reducible first|refine BH.c2 c (by first|(simp only[f];done)|kernel_rfl) ?_ ?_ ?_|refine BJ.c2 c (by first|(simp only[f];done)|kernel_rfl) ?_ ?_ ?_)
 focus (simp[BQ,f]<;>fail)
 focus (simp (disch:=first|assumption|(simp<;>fail)|omega) [Ee,wrap_i64,f]<;>fail)
 (simp only[St.step,St.put,Z7];with_reducible exact h)):p:=k f C9 h
theorem WD {F p q:Prop}{R:Obj->Prop}(f:F)(C9:AQ P g args m R R (.ret res))(h:q)(k:F->AQ P g args m R R (.ret res)->q->p:=by
 intro f c h;(with_reducible first|refine BH.q c (by first|(simp only[f];done)|kernel_rfl) ?_ ?_ ?_ ?_|refine BJ.q c (by first|(simp only[f];done)|kernel_rfl) ?_ ?_ ?_ ?_)
 focus (simp[BQ,f]<;>fail)
 focus (simp (disch:=first|assumption|(simp<;>fail)|omega) [Ee,wrap_i64,f]<;>fail)
 focus exact rfl
 (simp only[St.step,St.put,ALo];with_reducible exact h)):p:=k f C9 h
theorem WC {F p:Prop}{ch:List PanicEntry}{R:Obj->Prop}(f:F)(C9:AQ P g args m R R (.HB ch))(k:F->AQ P g args m R R (.HB ch)->p:=by
 intro f c;first
 | ((with_reducible refine BH.p c (by first|(simp only[f];done)|kernel_rfl) ?_ ?_ ?_ ?_)
    focus (simp[BQ,f]<;>fail)
    focus (simp (disch:=first|assumption|(simp<;>fail)|omega) [Ee,wrap_i64,f]<;>fail)
    focus exact rfl
    (exact⟨by first|rfl|assumption|(simp[*]<;>fail),rfl⟩))
 | ((with_reducible refine BJ.p c (by first|(simp only[f];done)|kernel_rfl) ?_ ?_ ?_ ?_ ?_)
    focus (simp[BQ,f]<;>fail)
    focus (simp (disch:=first|assumption|(simp<;>fail)|omega) [Ee,wrap_i64,f]<;>fail)
    focus exact rfl
    focus (exact⟨by first|rfl|assumption|(simp[*]<;>fail),rfl⟩)
    (simp only[St.step,St.put,Z7])
    repeat (first
     | ((with_reducible refine BJ.d ?_ ?_);(focus (simp[Op.operands,Call.operands,ev,V.Wx,Tf]<;>fail));(simp only[St.step,St.put,Z7]))
     | (with_reducible refine BJ.h (by simp only[List.append_eq,BK,BU,Ap,BB];exact rfl) 1 true (by as_aux_lemma=>(simp (disch:=first|assumption|(simp<;>fail)|omega) [SY,QE,Ef.ks,wrap_i64,Awd,Awf,BY,f];first|exact rfl|exact⟨rfl,rfl,rfl⟩)) ?_))
    exact BJ.gone (bl ZC) (by simp[V.Wx,Tf]))):p:=k f C9
theorem ZX {F p:Prop}(f:F)(k:F->p:=by
 intro f;with_reducible show oM _ _ _ _ _ _ _
 simp (disch:=first|assumption|(simp<;>fail)|omega) [oM,DV,C0,DE,V.CP,V.CF,CJ,wrap_i64, *]<;>fail):p:=k f
theorem X9 {F p q q' c:Prop}[Decidable c](f:F)(h1:c->q)(h2 : ¬c->q')(k:F->(decide c=true->q)->(decide c=false->q')->p:=by
 intro f h1 h2;first
 | (with_reducible refine pS (by simp[ev,f];exact rfl) (by with_reducible exact rfl) (by(fail_if_success with_reducible exact D6.t);(fail_if_success with_reducible exact D6.f);exact D6.mk _) h1 h2)
 | (with_reducible refine BH.VY (by simp[N8,f];exact rfl) (by with_reducible exact rfl) (by(fail_if_success with_reducible exact D6.t);(fail_if_success with_reducible exact D6.f);exact D6.mk _) (by simp[Hn];exact rfl) (by simp[Hn];exact rfl) h1 h2)
 | (with_reducible refine BJ.VY (by simp[N8,f];exact rfl) (by with_reducible exact rfl) (by(fail_if_success with_reducible exact D6.t);(fail_if_success with_reducible exact D6.f);exact D6.mk _) (by simp[Hn];exact rfl) (by simp[Hn];exact rfl) h1 h2)):p:=k f (λh=>h1 (of_decide_eq_true h)) λh=>h2 (of_decide_eq_false h)
theorem wg {F C p q:Prop}(f:F)(c:C)(h:q)(k:F->C->q->p:=by
 intro f c h;first
 | ((first|refine F5 f c.1 ?_|refine WD f c.1 ?_);exact h)
 | ((first|refine F5 f c.2.1 ?_|refine WD f c.2.1 ?_);exact h)
 | ((first|refine F5 f c.2.2.1 ?_|refine WD f c.2.2.1 ?_);exact h)
 | ((first|refine F5 f c.2.2.2.1 ?_|refine WD f c.2.2.2.1 ?_);exact h)
 | ((first|refine F5 f c.2.2.2.2.1 ?_|refine WD f c.2.2.2.2.1 ?_);exact h)
 | ((first|refine F5 f c.2.2.2.2.2.1 ?_|refine WD f c.2.2.2.2.2.1 ?_);exact h)
 | ((first|refine F5 f c.2.2.2.2.2.2.1 ?_|refine WD f c.2.2.2.2.2.2.1 ?_);exact h)
 | ((first|refine F5 f c.2.2.2.2.2.2.2.1 ?_|refine WD f c.2.2.2.2.2.2.2.1 ?_);exact h)):p:=k f c h
theorem xF {F C p:Prop}(f:F)(c:C)(k:F->C->p:=by
 intro f c;first
 | exact WC f c.1
 | exact WC f c.2.1
 | exact WC f c.2.2.1
 | exact WC f c.2.2.2.1
 | exact WC f c.2.2.2.2.1
 | exact WC f c.2.2.2.2.2.1
 | exact WC f c.2.2.2.2.2.2.1
 | exact WC f c.2.2.2.2.2.2.2.1):p:=k f c
theorem qz {F C p:Prop}(f:F)(c:C)(k:F->C->p:=by
 intro ff cc;repeat any_goals (first|refine stQ ?_|exact ZX ff|refine Zs ff ?_|refine wg ff cc ?_|exact xF ff cc|refine DI ff ?_|((first|refine X9 ff ?_ ?_|refine bQ ff ?_ ?_|refine bO ff ?_ ?_|refine bP ff ?_ ?_)<;>intro h<;>try (exfalso;first|omega|contradiction)))):p:=k f c
theorem qy {F C p q:Prop}(f:F)(c:C)(h:Sw q)(k:F->C->Sw q->p:=by
 intro ff cc hh;repeat any_goals (first|refine stQ ?_|exact ZX ff|refine Zs ff ?_|refine wg ff cc ?_|exact xF ff cc|refine DI ff ?_|((first|refine X9 ff ?_ ?_|refine bQ ff ?_ ?_|refine bO ff ?_ ?_|refine bP ff ?_ ?_)<;>intro h<;>try (exfalso;first|omega|contradiction)))
 with_reducible exact hh.out):p:=k f c h
theorem qu {F C p q:Prop}(m:KQ n)(f:F)(c:C)(h:Sw q)(k:KQ n->F->C->Sw q->p:=by
 intro mm ff cc hh;repeat any_goals (first|refine lT mm ?_|exact ZX ff|refine Zs ff ?_|refine wg ff cc ?_|exact xF ff cc|refine DI ff ?_|((first|refine X9 ff ?_ ?_|refine bQ ff ?_ ?_|refine bO ff ?_ ?_|refine bP ff ?_ ?_)<;>intro h<;>try (exfalso;first|omega|contradiction)))
 with_reducible exact hh.out):p:=k m f c h
section
variable {P:Program} {K:Exit->St->Prop} {ops:List Oper} {s:St}
theorem SW.Tq {o:Oper}{r:List Oper}(v:V)(t:Option (Nat×O))(Ce : ∀k ob,t=J (k,ob)->k<=G s.h)(hg:BQ ops s.t o.guard=J I)(hR : ∀(S0:BF) (w0:Bs) (x:Cx) (a:Act) (w:World),Good S0 w0 x w (λk=>s.h[k]?)->AO x w s.t a.tmps.toList->BW P o a S0 w0 x w (λk=>s.h[k]?) v t)(h:SW P ops K r (s.step o.dst v t)):SW P ops K (o::r) s:=λS0 w0 x a w B=>by
 have hw:Region.wanted o (yielded ops.toArray a.tmps)=true:=by
  have:=KR (o:=o) B.tm (IF (ops:=ops) (K1:=True) (K2:=False) hg W);exact Kn λh=>this.2 h
 unfold wpList;rw[Awd hw];refine .inl ?_;obtain⟨nx,w',x',u,hr,EH,q,z,he,_⟩:=hR x.S (w0.re w B.good.keep.size) x a w B.good.XR B.tm;obtain⟨z,CB⟩:=B.good.Sg he z;have e:=Kj s.h t Ce;have Q:Good S0 w0 x' w' (λi=>(Bk s.h t)[i]?):=by rw[e];exact z
 unfold Oper.wp;rw[hr];rcases EH with rfl|⟨rfl,rfl⟩
 exact h S0 w0 x' _ w' (Bo.put B.tm (B.df.mono CB) he Q q o.dst);exact h S0 w0 x' _ w' (Bo.put B.tm (B.df.mono CB) he Q q o.dst)
end
def Kt (n:Nat)(M:ByteArray->Bool)(_:Nat)(ob:Obj):Prop:=
 ∀(w:World) (b:Nat),w.heap[b]?=J ob->∃D:DataW Unit,w.ownsMap AF 9 (plainElem AF 4) b n D/\Maps.IsMap D/\
  ∀s:ByteArray,s.size<=maxLen->D.atKey (.string s.data.toList) (.lit (.bool U))=.lit (.bool (M s))
def Z6 (M:ByteArray->Bool)(s:ByteArray):ByteArray->Bool:=λx=>decide (x=s) || M x
theorem AbA (w:World):(zeroValue 4).run AF w=.ok (.bool U) w:=ZC
theorem AWX {H:Type}{e:TypeId}(B:P.underlying e=J .bool){v:Value}{z:DataW H×List MemPlace}(h:plainElem P e v=J z):∃a,v=.bool a/\z=(.lit (.bool a),[]):=by
 unfold plainElem at h;rw[B]at h;cases v<;>simp at h;subst h;exact⟨_,F,F⟩
theorem Kt.made {B:Nat}:Kt 0 (λ_=>U) B (.map #[] 0):=λw b Q=>⟨.map [],⟨#[],0,Q,⟨ZA,AMv 0,ZA⟩,BN _,rfl⟩,Maps.isMap_empty,λ_ _=>rfl⟩
theorem Kt.look {b z n:Nat}{M:ByteArray->Bool}(h:Kt n M z ob)(hb:w.heap[b]?=J ob)(hs:s.size<=maxLen):
 (fk 96 (.map (J b)) (.string s) U).run AF w=.ok (.bool (M s)) w:=by
 obtain⟨D,⟨es,clock,h1,F,_,rfl⟩,_,hM⟩:=h w b hb;have S:=hM s hs;rcases Maps.fit_look (t:=96) U (me Lb) Ak8 (AbA w) h1 F (n6 Lb hs)with ⟨B,_,Q⟩|⟨e0,y,_,_,B,q,Q,_⟩
 rw[Q]at S;rw[B];simp only[ACh,Lit.bool.injEq]at S;simp[<-S];rw[Q]at S;rw[B];obtain⟨c,e1,e2⟩:=AWX Vq q;rw[e2]at S;simp only[ACh,Lit.bool.injEq]at S;rw[e1,S];rfl
theorem Kt.store {b b0 n:Nat}{M:ByteArray->Bool}(h:Kt n M b0 ob)(hb:w.heap[b]?=J ob)(hn:n<maxLen)(hs:s.size<=maxLen):
 ∃w' S,(mJ 96 (.map (J b)) (.string s) (.bool I)).run AF w=.ok () w'/\w.grownBy w' (J b)/\w'.heap[b]?=J S/\still S=U/\Kt (n+1) (Z6 M s) b0 S:=by
 obtain⟨D,ho,hm,hM⟩:=h w b hb;obtain⟨w',Q,Hz,hg⟩:=ho.update (t:=96) (me Lb) Ak8 hn (n6 Lb hs) (plainElem_bool Vq I);obtain⟨q,B,h1,F,h2,h3⟩:=Hz;refine⟨w',_,Q,hg,h1,rfl,λw2 b2 Fc=>⟨_,⟨q,B,Fc,F,h2,h3⟩,hm.put _ _,λx hx=>?_⟩⟩;by_cases e:x=s;subst e;have hk:ADd (Vh x.data.toList):=W;rw[AC2 hm hk];simp[Z6];have z:Vh x.data.toList≠Vh s.data.toList:=λh=>e (by cases x;cases s;simpa using h)
 rw[AC1 z];simp only[Z6,Awl e,tf];exact hM x hx
section
variable {S0:BF} {w0:Bs} {x:Cx} {w:World} {H:Bx} {a:Act} {o:Oper}
theorem AVJ (g:Good S0 w0 x w H){y:Operand}(ho:o.op=.makeMap 96 (J y)){kd:IntKind}{l:Int}(S:CV x w (.c (.int kd l)) (a.eval y))(k:Nat)(hk : ¬x.dom k):BW AF o a S0 w0 x w H (.mp k) (J (k,.mp (Kt 0 (λ_=>U)))):=by
 simp only[CV,Ab]at S;have B:Ay w (w.alloc (.map #[] 0)):=(Ay.refl w).alloc _;have Q:Ext x (x.C4 k ⟨w.heap.size,0,U,0,U⟩) w (w.alloc (.map #[] 0)):=Good.ext1 k _ hk λb j v _ z=>B.cell z
 have q:=g.H5 k (.mp (Kt 0 (λ_=>U))) Q (.FR B) (λi=>Iff.rfl) (λi hi=>by simp[Cx.C4,hi]) (λ_=>.inr (by simp[Cx.C4])) ⟨by simp[Cx.C4],by simp[Cx.C4],_,by simp only[Cx.C4,Awg];exact heap_alloc_new w _,rfl,Kt.made⟩ (λb j h=>.inl h) (λj hx hs=>hx);refine⟨_,_,_,.map (J w.heap.size),?_,.inl F,?_,q,Q,λk' h=>h.elim .inl λe=>.inr ⟨.mp (Kt 0 (λ_=>U)),by rw[e]⟩,λ_=>rfl⟩;simp[execOp,ho,S.1,mG,run_underlying Ak8];rfl;simp only[CV,Cx.C4,Awg];exact⟨.inr W,W,W⟩
theorem AVF (g:Good S0 w0 x w H){y z:Operand}(ho:o.op=.lookup 96 y z U){k n:Nat}{M:ByteArray->Bool}(B:CV x w (.mp k) (a.eval y))(Q:CV x w (.c (.str s)) (a.eval z))(hk:H k=J (.mp (Kt n M))):BW AF o a S0 w0 x w H (.c (.bool (M s))) none:=by
 simp only[CV,Ab]at B Q;obtain⟨hd,ht,B⟩:=B;obtain⟨Q,hs⟩:=Q;obtain⟨_,_,_,ob,q,_,S⟩:=g.ok k _ hk;exact BW.pure g (u:=.bool (M s)) (by simp[execOp,ho,B,Q,S.look q hs]) (by simp only[CV,Ab])
theorem AVH (g:Good S0 w0 x w H){y z v:Operand}(ho:o.op=.mapUpdate 96 y z v){k n:Nat}{M:ByteArray->Bool}(q:CV x w (.mp k) (a.eval y))(hz:CV x w (.c (.str s)) (a.eval z))(hv:a.eval v=.bool I)(hk:H k=J (.mp (Kt n M)))(hn:n<maxLen):BW AF o a S0 w0 x w H .any (J (k,.mp (Kt (n+1) (Z6 M s)))):=by
 simp only[CV,Ab]at q hz;obtain⟨hd,ht,q⟩:=q;obtain⟨hz,hs⟩:=hz;obtain⟨_,h1,h2,ob,hb,A2,hR⟩:=g.ok k _ hk;obtain⟨w',Cw,Q,B,CT,VB,jT⟩:=hR.store hb hn hs;have ar:Ar x.S x.S w w':=⟨λ_ _ h=>h,λb j v hS hc=>by
  have A1:b≠(x.loc k).b:=λe=>by
   subst e;obtain⟨D,⟨es,clock,yp,_⟩,_⟩:=hR w _ hb;unfold iC at hc;simp[yp]at hc
  have A0:b<w.heap.size:=g.ex b j hS;exact(RK (B.block b A0 λe=>A1 (ML e))).trans hc⟩
 have he:Ext x x w w':=⟨ar,λ_ h=>h,λ_ _=>FM.refl _⟩
 have g':=g.H5 k (.mp (Kt (n+1) (Z6 M s))) he ⟨B.os,B.tape,B.output,B.size,λb Fc KY=>B.block b Fc λe=>KY ⟨hd,h2,(ML e).symm⟩⟩ (λi=>⟨.inl,λh=>h.elim id λe=>e ▸ hd⟩) (λ_ _=>rfl) (λ_=>.inl ⟨hd,h2,rfl⟩) ⟨h1,h2,Cw,CT,VB,jT⟩ (λb j h=>.inl h) (λj hx=>hx.elim);refine⟨.skip,w',x,undef,?_,.inr ⟨F,F⟩,by simp only[CV],g',he,λ_ h=>.inl h,λ_=>rfl⟩;simp[execOp,ho,q,hz,hv,Q]
end
def HG (n:Nat)(M:ByteArray->Option Int)(ob:Obj):Prop:=
 ∀(w:World) (b:Nat),w.heap[b]?=J ob->∃D:DataW Unit,w.ownsMap AF 9 (plainElem AF 3) b n D/\Maps.IsMap D/\
  ∀s:ByteArray,s.size<=maxLen->∀d,D.atKey (.string s.data.toList) (.lit d)=.lit (match M s with|some h=>.int .i64 h|none=>d)
def Y3 (M:ByteArray->Option Int)(s:ByteArray)(h:Int):ByteArray->Option Int:=λx=>if x=s then J h else M x
theorem HG.made:HG 0 (λ_=>E) (.map #[] 0):=λw b B=>⟨.map [],⟨#[],0,B,⟨ZA,AMv 0,ZA⟩,BN _,rfl⟩,Maps.isMap_empty,λ_ _ _=>rfl⟩
theorem AbC (w:World):(zeroValue 3).run AF w=.ok (.int .i64 0) w:=ZC
theorem HG.look {b n:Nat}(h:HG n M ob)(hb:w.heap[b]?=J ob)(hs:s.size<=maxLen):
 (fk 100 (.map (J b)) (.string s) I).run AF w=.ok (.tuple #[.int .i64 ((M s).getD 0),.bool (M s).isSome]) w/\∀a,M s=J a->(Lit.int .i64 a).wf=true:=by
 obtain⟨D,⟨es,clock,h1,F,_,rfl⟩,_,hM⟩:=h w b hb;have q:=hM s hs;rcases Maps.fit_look (t:=100) I (me Lb) Ak5 (AbC w) h1 F (n6 Lb hs)with ⟨B,_,Q⟩|⟨e0,y,_,_,B,A0,Q,_⟩
 cases z:M s with
 | none=>exact⟨by simpa using B,λa e=>by cases e⟩
 | some a =>
   have:=q (.bool I);rw[Q,z]at this;cases this
 obtain⟨c,e1,e2,e3⟩:=plainElem_int_inv Fo A0;cases z:M s with
 | none =>
   have S:=q (.bool I);have k2:=q (.bool U);rw[Q,z]at S k2;rw[S]at k2;cases k2
 | some a =>
   have S:=q (.bool I);rw[Q,z,e2]at S;simp only[ACh,Lit.int.injEq,true_and]at S;subst S;refine⟨by rw[e1]at B;simpa using B,λb e=>?_⟩;cases e;exact e3
theorem HG.store {b n:Nat}(h:HG n M ob)(hb:w.heap[b]?=J ob)(hn:n<maxLen)(hs:s.size<=maxLen){a:Int}(ha:(Lit.int .i64 a).wf=I):
 ∃w' S,(mJ 100 (.map (J b)) (.string s) (.int .i64 a)).run AF w=.ok () w'/\w.grownBy w' (J b)/\w'.heap[b]?=J S/\still S=U/\HG (n+1) (Y3 M s a) S:=by
 obtain⟨D,ho,hm,hM⟩:=h w b hb;obtain⟨w',Q,Hz,hg⟩:=ho.update (t:=100) (me Lb) Ak5 hn (n6 Lb hs) (plainElem_int Fo ha);obtain⟨q,B,h1,F,h2,h3⟩:=Hz;refine⟨w',_,Q,hg,h1,rfl,λw2 b2 Fc=>⟨_,⟨q,B,Fc,F,h2,h3⟩,hm.put _ _,λx hx d=>?_⟩⟩;by_cases e:x=s;subst e;have hk:ADd (Vh x.data.toList):=W;rw[AC2 hm hk];simp[Y3];have z:Vh x.data.toList≠Vh s.data.toList:=λh=>e (by cases x;cases s;simpa using h)
 rw[AC1 z];simp only[Y3,Awf e];exact hM x hx d
section
variable {S0:BF} {w0:Bs} {x:Cx} {w:World} {H:Bx} {a:Act} {o:Oper}
theorem AVI (g:Good S0 w0 x w H){y:Operand}(ho:o.op=.makeMap 100 (J y)){kd:IntKind}{l:Int}(S:CV x w (.c (.int kd l)) (a.eval y))(k:Nat)(hk : ¬x.dom k):BW AF o a S0 w0 x w H (.mp k) (J (k,.mp (λ_=>HG 0 λ_=>E))):=by
 simp only[CV,Ab]at S;have B:Ay w (w.alloc (.map #[] 0)):=(Ay.refl w).alloc _;have Q:Ext x (x.C4 k ⟨w.heap.size,0,U,0,U⟩) w (w.alloc (.map #[] 0)):=Good.ext1 k _ hk λb j v _ z=>B.cell z
 have q:=g.H5 k (.mp (λ_=>HG 0 λ_=>E)) Q (.FR B) (λi=>Iff.rfl) (λi hi=>by simp[Cx.C4,hi]) (λ_=>.inr (by simp[Cx.C4])) ⟨by simp[Cx.C4],by simp[Cx.C4],_,by simp only[Cx.C4,Awg];exact heap_alloc_new w _,rfl,HG.made⟩ (λb j h=>.inl h) (λj hx hs=>hx);refine⟨_,_,_,.map (J w.heap.size),?_,.inl F,?_,q,Q,λk' h=>h.elim .inl λe=>.inr ⟨.mp (λ_=>HG 0 λ_=>E),by rw[e]⟩,λ_=>rfl⟩;simp[execOp,ho,S.1,mG,run_underlying Ak5];rfl;simp only[CV,Cx.C4,Awg];exact⟨.inr W,W,W⟩
theorem AU5 (g:Good S0 w0 x w H){y z:Operand}(ho:o.op=.lookup 100 y z I){k n:Nat}(B:CV x w (.mp k) (a.eval y))(Q:CV x w (.c (.str s)) (a.eval z))(hk:H k=J (.mp (λ_=>HG n M))):BW AF o a S0 w0 x w H (.A7 [.c (.int .i64 ((M s).getD 0)),.c (.bool (M s).isSome)]) none:=by
 simp only[CV,Ab]at B Q;obtain⟨hd,ht,B⟩:=B;obtain⟨Q,hs⟩:=Q;obtain⟨_,_,_,ob,hb,_,hR⟩:=g.ok k _ hk;obtain⟨S,q⟩:=hR.look hb hs;refine BW.pure g (u:=.tuple #[.int .i64 ((M s).getD 0),.bool (M s).isSome]) (by simp[execOp,ho,B,Q,S]) ?_;simp only[CV,AO,Ab];refine⟨_,F,_,_,F,⟨F,?_⟩,_,_,F,F,F⟩;cases hM:M s with
 | none=>rfl
 | some a=>exact q a hM
theorem AU6 (g:Good S0 w0 x w H){y z:Operand}(ho:o.op=.lookup 100 y z I){k m n:Nat}(S:CV x w (.c (.MA m)) (a.eval y))(B:CV x w (.c (.str s)) (a.eval z))(hk:H k=J (.mp (Ci m (HG n M)))):BW AF o a S0 w0 x w H (.A7 [.c (.int .i64 ((M s).getD 0)),.c (.bool (M s).isSome)]) none:=by
 simp only[CV,Ab]at S B;obtain⟨B,hs⟩:=B;obtain⟨_,_,_,ob,Q,_,hm,hR⟩:=g.ok k _ hk;rw[hm]at Q;obtain⟨q,h2⟩:=hR.look Q hs;refine BW.pure g (u:=.tuple #[.int .i64 ((M s).getD 0),.bool (M s).isSome]) (by simp[execOp,ho,S,B,q]) ?_;simp only[CV,AO,Ab];refine⟨_,F,_,_,F,⟨F,?_⟩,_,_,F,F,F⟩;cases hM:M s with
 | none=>rfl
 | some a=>exact h2 a hM
theorem AU7 (g:Good S0 w0 x w H){y z v:Operand}(ho:o.op=.mapUpdate 100 y z v){k n:Nat}(hy:CV x w (.mp k) (a.eval y))(hz:CV x w (.c (.str s)) (a.eval z)){a':Int}(q:CV x w (.c (.int .i64 a')) (a.eval v))(hk:H k=J (.mp (λ_=>HG n M)))(hn:n<maxLen):BW AF o a S0 w0 x w H .any (J (k,.mp (λ_=>HG (n+1) (Y3 M s a')))):=by
 simp only[CV,Ab]at hy hz q;obtain⟨hd,ht,hy⟩:=hy;obtain⟨hz,hs⟩:=hz;obtain⟨q,Mk⟩:=q;obtain⟨_,h1,h2,ob,hb,A2,hR⟩:=g.ok k _ hk;obtain⟨w',Cw,Q,B,CT,VB,jT⟩:=hR.store hb hn hs Mk;have ar:Ar x.S x.S w w':=⟨λ_ _ h=>h,λb j v hS hc=>by
  have A1:b≠(x.loc k).b:=λe=>by
   subst e;obtain⟨D,⟨es,clock,yp,_⟩,_⟩:=hR w _ hb;unfold iC at hc;simp[yp]at hc
  have A0:b<w.heap.size:=g.ex b j hS;exact(RK (B.block b A0 λe=>A1 (ML e))).trans hc⟩
 have he:Ext x x w w':=⟨ar,λ_ h=>h,λ_ _=>FM.refl _⟩
 have g':=g.H5 k (.mp (λ_=>HG (n+1) (Y3 M s a'))) he ⟨B.os,B.tape,B.output,B.size,λb Fc KY=>B.block b Fc λe=>KY ⟨hd,h2,(ML e).symm⟩⟩ (λi=>⟨.inl,λh=>h.elim id λe=>e ▸ hd⟩) (λ_ _=>rfl) (λ_=>.inl ⟨hd,h2,rfl⟩) ⟨h1,h2,Cw,CT,VB,jT⟩ (λb j h=>.inl h) (λj hx=>hx.elim);refine⟨.skip,w',x,undef,?_,.inr ⟨F,F⟩,by simp only[CV],g',he,λ_ h=>.inl h,λ_=>rfl⟩;simp[execOp,ho,hy,hz,q,Q]
end
theorem AJo (s:ByteArray)(hs:s.size<=maxLen):AC AF 57 [.c (.str s)] (.c (.bool (Ck s))):=by
 unfold maxLen at hs;refine en func57 ntmps57 ?_;refine Ah ?_;refine CX (ι:={ k:Nat // k<=s.size/\s.data.toList.all Dx=(s.data.toList.drop k).all Dx }) (λk=>[(3,(k.1:Int)),(2,.c (.bool U))]) (λ_=>[]) (λk=>s.size - k.1) ⟨0,ZA⟩ ?_ ?_;exact DH;rintro ⟨k,hk,S⟩;by_cases B:k<s.size;have hd:s.data.toList.drop k=(s.data[k]'B)::s.data.toList.drop (k+1):=by rw[D5 (by simpa using B)];simp
 rw[hd,Ep]at S;obtain⟨b,q⟩:=AI (s.data[k]'B);rw[q]at S;have hw:AZ.wrap ((k:Int)+1)=((k+1:Nat):Int):=by rw[Ac];simp
 have jc:Dx b=U->Ck s=false:=λe=>by unfold Ck;rw[S,e];rfl
 by_cases Q:(b.toNat:Int)<32;rw[jc (by simp[Dx];omega)];refine go (cj2 @B @q @Q) ?_;exact At ASM;by_cases z:(126:Int)<(b.toNat:Int);rw[jc (by simp[Dx];omega)];refine go (cj3 @B @q @Q @z) ?_;exact At ASM;have e:Dx b=true:=by simp[Dx];omega
 refine go (cj4 @B @q @Q @z @hw) ?_;refine⟨⟨k+1,Ux,by rw[S,e,Cd]⟩,by simp only;omega,?_⟩;exact DH;have Hh:k=s.size:=Ux;have e:s.data.toList.all Dx=true:=by rw[S,FA (by simp;omega)];rfl
 have EC:s.size=s.data.size:=F;have hr:Ck s=(decide (1<=(s.size:Int)) && decide ((s.size:Int)<=16)):=by
  unfold Ck;rw[e,Cd,show decide (1<=s.size)=decide (1<=(s.size:Int))from by simp;omega,show decide (s.size<=16)=decide ((s.size:Int)<=16)from by simp;omega]
 rw[hr];clear EC hr;by_cases Q:(1:Int)<=(s.size:Int);rw[Awk Q,Cd];exact wz (cj2 @B @Q ASM) W;rw[Awl Q,D4];exact wz (cj2 @B @Q ASM) W
theorem AW3 (p:Params):AC AF 56 [.agg p.vs] (.c (.bool (Qk p))):=by
 have Q:=Xg 1 100 p.SK (F2 F);have S:=Xg 0 20000 p.lens (F2 F);have hP:Qk p=(DX 1 100 p.SK && DX 0 20000 p.lens):=F;rw[hP];cases z:DX 1 100 p.SK with
 | false=>rw[z]at Q;rw[D4];unfold AV Params.SK at Q;unfold Params.vs Params.list;simp only[Ap,BB]at Q ⊢;refine en func56 ntmps56 ?_;exact wz ADV (cj Q<|trivial)
 | true=>rw[z]at Q;rw[Cd];unfold AV Params.SK at Q;unfold AV Params.lens at S;unfold Params.vs Params.list;simp only[Ap,BB]at Q S ⊢;obtain⟨B,q⟩:=AI (DX 0 20000 p.lens);unfold Params.lens at q;unfold Params.lens;rw[q]at S ⊢;refine en func56 ntmps56 ?_;exact wz ADV (cj2 Q S W)
theorem ALw (name:ByteArray)(m n:Nat)(M:ByteArray->Option Int):AQ AF 59 [.c (.str name),.cp [.MA m] 0] m (HG n M) (HG n M) (.ret (.A7 [.c (.int .i64 ((M name).getD 0)),.c (.bool (M name).isSome)])):=by
 refine CH func59 ntmps59 ?_;refine qu (.mk 1) AGY trivial ⟨?_⟩;refine AW.DA ?_;refine CY (.mk 2) trivial ?_;refine SW.Tq (.A7 [.c (.int .i64 ((M name).getD 0)),.c (.bool (M name).isSome)]) E (λ_ _ e=>nomatch e) rfl (λS0 w0 x a w g S=>?_) ?_;have B:=CW S (.tmp 8);have Q:=CW S (.tmp 9);simp only[ev,Om,On]at B Q;exact AU6 (k:=0) g rfl B Q F;simp only[St.step,St.put,Bk,Ag,Ai];refine CY (.mk 5) trivial ?_;refine SW.nil ?_;exact qz AGY W
theorem Aai (s:Bc)(m n:Nat)(M:ByteArray->Option Int)(hn:s.name.size<=maxLen)(hM : ∀x h,M x=J h-> -60000<=h/\h<=60000)(hz:G s.sizes<=maxLen)(hp:G s.parts<=maxLen):AQ AF 60 [.agg (s.row.map V.c),.fn 59 [.cp [.MA m] 0]] m (HG n M) (HG n M) (.ret (.c (.bool (Oh M s)))):=by
 have h1:=AJo s.name hn;have h2:=Xg 1 16 [(G s.sizes:Int)] (F2 F);unfold maxLen at hz hp;unfold Bc.row Gv Ek;simp only[Ap,BB];unfold AV at h2;simp only[Ap,BB]at h2;obtain⟨ZR,yZ⟩:=AI ((s.sizes.map λn=>[C.str n]));obtain⟨PR,EO⟩:=AI (s.parts.map CR.row);have G4:G ZR=G s.sizes:=by rw[<-yZ,Ch]
 have Ed:G PR=G s.parts:=by rw[<-EO,Ch]
 rw[yZ,EO];rw[<-G4]at h2;obtain⟨B1,Il⟩:=AI (Ck s.name);obtain⟨B2,O9⟩:=AI (DX 1 16 [(G ZR:Int)]);have jW:Oh M s=((B1 && (B2 && decide (G s.parts<=8))) && (Sc M (-60000) s.sizes && (if s.parts=[]then decide (s.Dc=0)else du M s))):=by unfold Oh;rw[Il,<-O9,G4]
 rw[Il]at h1;rw[O9]at h2;cases B1 with
 | false=>rw[jW,D4,D4];refine CH IB AM7 ?_;exact qz (cj2 @G4 @Ed ACK) (cj2 h1 h2 W)
 | true =>
   cases B2 with
   | false=>rw[jW,D4,LV,D4];refine CH IB AM7 ?_;exact qz (cj2 @G4 @Ed ACK) (cj2 h1 h2 W)
   | true =>
     by_cases h8:(8:Int)<(G s.parts:Int);rw[jW,Awl (show ¬G s.parts<=8 by omega),LV,LV,D4];refine CH IB AM7 ?_;exact qz (cj3 @G4 @Ed @h8 ACK) (cj2 h1 h2 W);rw[Awk (show G s.parts<=8 by omega),LW,LW,Cd]at jW;rw[jW];refine CH IB AM7 ?_;refine qy (cj3 @G4 @Ed @h8 ACK) (cj2 h1 h2 W) ⟨?_⟩;refine CX (ι:={ q:Nat×Int // q.1<=G s.sizes/\Sc M (-60000) s.sizes=Sc M q.2 (s.sizes.drop q.1) }) (λq=>[(37,(q.1.1:Int)),(5,q.1.2)]) (λ_=>[O.mp (Ci m (HG n M)),O.box 74 [.c (.str s.name),.c (.sl ZR),.c (.sl PR),s.Dc] U]) (λq=>G s.sizes - q.1.1) ⟨(0,-60000),ZA⟩ ?_ ?_;exact DH;rintro ⟨⟨k,la⟩,hk,S⟩;simp only at hk S ⊢;by_cases B:k<G s.sizes;obtain⟨z,F7⟩:∃z,s.sizes[k]?=J z:=⟨_,BE B⟩
     have A9:ZR[k]?=J [.str z]:=by rw[<-yZ,CM,F7];rfl
     have Bu:=gx A9;have Dh:k<G ZR:=Ux;have Q:=ALw z m n M;have hw:AZ.wrap ((k:Int)+1)=((k+1:Nat):Int):=by rw[Ac];simp
     rw[D5 B,gx F7 B]at S;simp only[Sc]at S;cases cK:M z with
     | none=>rw[cK]at S Q;simp only[Hr,H8]at Q;simp only at S;rw[S,D4];exact qz (cj5 @B @G4 @A9 @Bu @Dh ACK) (cj Q<|trivial)
     | some h =>
       rw[cK]at S Q;simp only[Dm,IZ]at Q;simp only at S;by_cases A0:h<=la;rw[S,Awl (show ¬la<h by omega),D4,D4];exact qz (cj6 @B @G4 @A9 @Bu @Dh @A0 ACK) (cj Q<|trivial);rw[Awk (show la<h by omega),Cd]at S;refine qy (cj7 @B @G4 @A9 @Bu @Dh @A0 @hw ACK) (cj Q<|trivial) ⟨?_⟩;exact⟨⟨(k+1,h),by simp only;omega,S⟩,by simp only;omega,wd 2⟩
     rw[FA Ux]at S;simp only[Sc]at S;rw[S,Cd];by_cases Wl:s.parts=[]
     have zi:(G s.parts:Int)=0:=by rw[Wl];rfl
     rw[Awd Wl];exact qz (cj4 @B @G4 @Ed @zi ACK) W;have zi : ¬(G s.parts:Int)=0:=by
      have:=Kr.2 Wl;omega
     rw[Awf Wl];unfold du;refine qy (cj4 @B @G4 @Ed @zi ACK) trivial ⟨?_⟩;refine CX (ι:={ q:Nat×Int×Bool // (q.1<=G s.parts/\OW M 60000 U s.parts=OW M q.2.1 q.2.2 (s.parts.drop q.1))/\ -60000<=q.2.1/\q.2.1<=60000 }) (λq=>[(66,(q.1.1:Int)),(10,q.1.2.1),(11,.c (.bool q.1.2.2))]) (λ_=>[O.mp (Ci m (HG n M)),O.box 74 [.c (.str s.name),.c (.sl ZR),.c (.sl PR),s.Dc] U]) (λq=>G s.parts - q.1.1) ⟨(0,60000,U),ZA⟩ ?_ ?_;exact DH;rintro ⟨⟨j,l,e⟩,⟨hj,hJ⟩,FO,EX⟩;simp only at hj hJ FO EX ⊢;by_cases Hx:j<G s.parts;obtain⟨q,hq⟩:∃z,s.parts[j]?=J z:=⟨_,BE Hx⟩
     have A9:PR[j]?=J [.str q.name,.bool q.ext]:=by rw[<-EO,CM,hq];rfl
     have Bu:=gx A9;have Dh:j<G PR:=Ux;have Q:=ALw q.name m n M;have hw:AZ.wrap ((j:Int)+1)=((j+1:Nat):Int):=by rw[Ac];simp
     rw[D5 Hx,gx hq Hx]at hJ;simp only[OW]at hJ;cases cK:M q.name with
     | none=>rw[cK]at hJ Q;simp only[Hr,H8]at Q;simp only at hJ;rw[hJ];simp only;exact qz (cj5 @Hx @Ed @A9 @Bu @Dh ACK) (cj Q<|trivial)
     | some h =>
       rw[cK]at hJ Q;simp only[Dm,IZ]at Q;simp only at hJ;have hb:=hM _ _ cK;generalize hX:q.ext=X at hJ A9 Bu;have jy : -60000<=(if h<l then h else l)/\(if h<l then h else l)<=60000:=by split<;>omega
       cases e with
       | true=>refine qy (cj6 @Hx @Ed @A9 @Bu @Dh @hw ACK) (cj Q<|trivial) ⟨?_⟩;exact⟨⟨(j+1,if h<l then h else l,I),⟨by simp only;omega,hJ⟩,jy⟩,by simp only;omega,wd 2⟩
       | false=>refine qy (cj6 @Hx @Ed @A9 @Bu @Dh @hw ACK) (cj Q<|trivial) ⟨?_⟩;exact⟨⟨(j+1,if h<l then h else l,X),⟨by simp only;omega,hJ⟩,jy⟩,by simp only;omega,wd 2⟩
     rw[FA Ux]at hJ;simp only[OW]at hJ;rw[hJ];simp only;have mU:AZ.wrap (l - 1)=l - 1:=Ac;have h3:=Xg 0 (l - 1) [s.Dc] (F2 F);unfold AV at h3;simp only[Ap,BB]at h3;generalize TK:DX 0 (l - 1) [s.Dc]=B3 at h3 ⊢;cases e with
     | true=>rw[Cd];exact qz (cj2 @Hx @mU ACK) (cj h3<|trivial)
     | false=>rw[D4];exact qz (cj2 @Hx @mU ACK) (cj h3<|trivial)
theorem AW.AUY {m0:Mo}{c:Code}{t:List V}{h:List O}(j k:Nat){R:Obj->Prop}(hj:h[j]?=J (.mp λ_=>R))(hk:h[k]?=J (.box ty [.mp j] U))(hw : ∀m,AW m0 P c K ⟨t,(h.set j (.mp (Ci m R))).set k (.box ty [.c (.MA m)] U)⟩):AW m0 P c K ⟨t,h⟩:=λn S0 w0 x a w hm hA=>by
 refine hw (x.loc j).b n S0 w0 x a w hm ?_;have g:=hA.good;have z : ∀(i:Nat) (o:O),((h.set j (.mp (Ci (x.loc j).b R))).set k (.box ty [.c (.MA (x.loc j).b)] U))[i]?=J o->∃Q,h[i]?=J Q/\(Ld x w i Q->Ld x w i o)/\(∀q,Ex x i o q->Ex x i Q q):=by
  intro i o B;by_cases e:k=i;subst e;rw[IX (by simpa using (Br.1 hk).1)]at B;cases B;refine⟨_,hk,λ⟨a1,a2,vs,a3,a4,a5⟩=>⟨a1,a2,vs,a3,a4,?_⟩,λq h=>h⟩;simp only[AO,CV,Ab]at a5 ⊢;obtain⟨u,ur,e1,⟨_,_,e2⟩,e3⟩:=a5;exact⟨u,ur,e1,e2,e3⟩;rw[HF e]at B;by_cases e':j=i;subst e';rw[IX (Br.1 hj).1]at B;cases B;exact⟨_,hj,λ⟨a1,a2,ob,a3,a4,a5⟩=>⟨a1,a2,ob,a3,a4,F,a5⟩,λq h=>h⟩;rw[HF e']at B;exact⟨o,B,id,λq h=>h⟩
 refine⟨⟨λi o B=>?_,λi B=>?_,λi i' o o' h1 h2 A0 hv A1=>?_,λi o q B hx=>?_,g.ex,λi o B hv=>?_,g.new,g.sub,g.keep,g.ext⟩,hA.tm,hA.df⟩;obtain⟨Q,h1,h2,_⟩:=z i o B;exact⟨(g.ok i Q h1).1,h2 (g.ok i Q h1).2⟩;obtain⟨o,ho⟩:=g.dom i B;have:=(Br.1 ho).1;exact⟨_,BE (by simpa using this)⟩;obtain⟨Q,S,_⟩:=z i o h1;obtain⟨kg,h4,_⟩:=z i' o' h2;exact g.inj i i' Q kg S h4 A0 hv A1;obtain⟨Q,S,_,h4⟩:=z i o B;exact g.EA i Q q S (h4 q hx);obtain⟨Q,S,_⟩:=z i o B;exact g.own i Q S hv
theorem AKK {S:BF}{w:World} : ∀ {row:List C} {b off:Nat},B5 S w row b off->∀c∈row,∃u,Ab S w c u
 | c::r,b,off,h,d,B=>by
   simp only[B5]at h;obtain⟨⟨v,_,Q⟩,_,q⟩:=h;rcases Cf.1 B with rfl|B
   exact⟨v,Q⟩;exact AKK q d B
theorem AKL {S:BF}{w:World} : ∀ {AG:List (List C)} {b off:Nat},D9 S w AG b off->∀r∈AG,∀c∈r,∃u,Ab S w c u
 | r::Q,b,off,h,d,B=>by
   simp only[D9]at h;rcases Cf.1 B with rfl|B
   exact AKK h.1;exact AKL h.2 d B
theorem sX {S:BF}{AG:List (List C)}{v:Value}(h:Ab S w (.sl AG) v):G AG<=maxLen/\∀r∈AG,∀c∈r,∃u,Ab S w c u:=by
 simp only[Ab]at h;obtain⟨A,c,_,h1,h2,Q⟩:=h;refine⟨Ux,λr B=>?_⟩;obtain⟨b,z,es,_,_,q⟩:=Q (List.ne_nil_of_mem B);exact AKL q r B
theorem ANB {f:FuncId}{H:Prop}(Q : ∀(S:BF) (w:World) (us:List Value),AO (Cx.bare S) w args us->H)(q:H->AC P f args res):AC P f args res:=λS w us z B=>q (Q S w us B) S w us z B
def ADe (f:AP):Prop:=(∀g∈f.DR,g.name.size<=maxLen)/\∀s∈f.C5,s.name.size<=maxLen/\(G s.sizes)<=maxLen/\(G s.parts)<=maxLen
theorem APY {f:AP}{S:BF}{us:List Value}(h:AO (Cx.bare S) w [.agg f.vs] us):ADe f:=by
 simp only[AO,CV]at h;obtain⟨u,_,_,⟨vs,_,h⟩,_⟩:=h;simp only[AP.vs,AP.row,Ap,AO,CV]at h;obtain⟨u1,_,_,h1,u2,_,_,h2,_⟩:=h;refine⟨λg hg=>?_,λs hs=>?_⟩;obtain⟨_,Q⟩:=sX h1;obtain⟨u,B⟩:=Q g.row (Da.2 ⟨g,hg,rfl⟩) (.str g.name) (by simp[BG.row]);simp only[Ab]at B;exact B.2;obtain⟨_,Q⟩:=sX h2;have q:=Q s.row (Da.2 ⟨s,hs,rfl⟩);obtain⟨u,B⟩:=q (.str s.name) (by simp[Bc.row]);obtain⟨u1,Y6⟩:=q (Gv s.sizes) (by simp[Bc.row]);obtain⟨u2,z⟩:=q (Ek s.parts) (by simp[Bc.row]);simp only[Ab]at B;have e1:=(sX Y6).1;have e2:=(sX z).1;rw[Ch]at e1 e2;exact⟨B.2,e1,e2⟩
theorem ASs (l:List BG)(g:BG)(h:R4 l g.name=E):Y3 (R4 l) g.name g.Dy=R4 (l++[g]):=by
 funext x;have B : ∀l:List BG,KU x (l++[g])=(KU x l).or (if g.name=x then J g else E):=by
  intro l;induction l with
  | nil=>simp[KU]
  | cons y r ih=>simp only[BK,KU,ih];split<;>simp
 simp only[Y3,R4,B];by_cases Q:x=g.name;subst Q;simp only[R4,Option.map_eq_none_iff]at h;simp[h];have : ¬g.name=x:=λe=>Q e.symm
 simp[Q,this]
theorem APe (f:AP)(hf:ADe f):AC AF 30 [.agg f.vs] (.c (.bool f.valid)):=by
 have QS:=AW3 f.params;obtain⟨GR,xv⟩:=AI (f.DR.map BG.row);obtain⟨SR,PE⟩:=AI (f.C5.map Bc.row);have Ev:O8 f.DR=.sl GR:=by rw[<-xv];rfl
 have S:MG f.C5=.sl SR:=by rw[<-PE];rfl
 have Up:G GR=G f.DR:=by rw[<-xv,Ch]
 have PF:G SR=G f.C5:=by rw[<-PE,Ch]
 obtain⟨B,hB⟩:=AI (Qk f.params);rw[hB]at QS;by_cases n1:(400:Int)<(G f.DR:Int);have e:f.valid=false:=by unfold AP.valid;rw[Awl (show ¬G f.DR<=400 by omega)];rfl
 rw[e];refine en IP Aif ?_;exact wz (cj5 @Ev @S @Up @PF @n1 ACA) (cj QS<|trivial);by_cases n2:(40:Int)<(G f.C5:Int);have e:f.valid=false:=by unfold AP.valid;rw[Awl (show ¬G f.C5<=40 by omega),D4,LV];rfl
 rw[e];refine en IP Aif ?_;exact wz (cj6 @Ev @S @Up @PF @n1 @n2 ACA) (cj QS<|trivial);cases B with
 | false =>
   have e:f.valid=false:=by unfold AP.valid;rw[hB,LV,LV];rfl
   rw[e];refine en IP Aif ?_;exact wz (cj6 @Ev @S @Up @PF @n1 @n2 ACA) (cj QS<|trivial)
 | true =>
   have hV:f.valid=(Ul [] f.DR && Xa f.ht [] f.C5):=by unfold AP.valid;rw[hB,Awk (show G f.DR<=400 by omega),Awk (show G f.C5<=40 by omega)];rfl
   refine en IP Aif ?_;refine wu (.mk 3) (cj6 @Ev @S @Up @PF @n1 @n2 ACA) (cj QS<|trivial) ⟨?_⟩;refine AW.DA ?_;refine CY (.mk 3) @Ev ?_;refine SW.Tq (.mp 1) (J (1,.mp λ_=>HG 0 (R4 []))) (λk ob e=>by cases e;simp) rfl (λS0 w0 x a w g ht=>?_) ?_;have hY:=CW ht (.tmp 31);simp only[ev,Om,On]at hY;exact AVI g rfl hY 1 λhd=>by obtain⟨o,ho⟩:=g.dom 1 hd;simp at ho
   simp only[St.step,St.put,Bk,BA,BO,Nat.reduceAdd,Nat.reduceLT,IY,Awh,Ag,Ai,BK,BU];refine CY (.mk 2) trivial ?_;refine SW.nil ?_;refine wy (cj2 @Ev @Up ACA) trivial ⟨?_⟩;refine CX (ι:={ k:Nat // k<=G f.DR/\Ul [] f.DR=Ul (f.DR.take k) (f.DR.drop k)/\∀g∈f.DR.take k,Lo g=I }) (λk=>[(36,(k.1:Int))]) (λk=>[O.box 27 f.vs U,O.mp λ_=>HG k.1 (R4 (f.DR.take k.1)),O.box 100 [V.mp 1] U]) (λk=>G f.DR - k.1) ⟨0,ZA⟩ ?_ ?_;exact DH;rintro ⟨k,hk,hI,hA⟩;simp only;by_cases Q:k<G f.DR;obtain⟨g,hg⟩:∃z,f.DR[k]?=J z:=⟨_,BE Q⟩
   have A9:GR[k]?=J [.str g.name,.int .i64 g.w,.int .i64 g.h,.int .i64 g.d,.int .i64 g.Ey,.int .i64 g.attach]:=by rw[<-xv,CM,hg];rfl
   have Bu:=gx A9;have Dh:k<G GR:=Ux;have B0:=hf.1 g (Cj hg);have hn:=AJo g.name B0;have EK:=Xg 0 20000 [g.w] (F2 F);have A1:=Xg (-20000) 20000 [g.h,g.d,g.Ey,g.attach] (F2 F);unfold AV at EK A1;simp only[Ap,BB]at EK A1;rw[D5 Q,gx hg Q]at hI;simp only[Ul]at hI;obtain⟨B1,Il⟩:=AI (Ck g.name);obtain⟨B2,O9⟩:=AI (DX 0 20000 [g.w]);obtain⟨B3,TK⟩:=AI (DX (-20000) 20000 [g.h,g.d,g.Ey,g.attach]);have qH:Lo g=(B1 && (B2 && B3)):=by unfold Lo;rw[Il,O9,TK]
   rw[Il]at hn;rw[O9]at EK;rw[TK]at A1;by_cases qI:Lo g=I;have cW:=TK;rw[qH,Ak,Ak]at qI;obtain⟨rfl,rfl,rfl⟩:=qI;simp only[DX,Ep,Nq,Km,Ak,Awe]at cW;have B7:AZ.wrap (g.h+g.d)=g.Dy:=Ac;have OM:AZ.wrap ((k:Int)+1)=((k+1:Nat):Int):=by rw[Ac];simp
   rw[qH,LW,LW,Cd,AGe]at hI;obtain⟨X,hX⟩:=AI (R4 (f.DR.take k) g.name);have qg:(KU g.name (f.DR.take k)).isSome=X.isSome:=by rw[<-hX];unfold R4;rw[Option.isSome_map]
   rw[qg]at hI;refine wu (.mk 10) (cj6 @Q @Ev @Up @A9 @Bu @Dh ACA) (cj3 hn EK A1 W) ⟨?_⟩;refine AW.Lm Fz (.inl F) ?_;refine TW.take 5 (Es (by simp[A9,Bu,Dh];first|exact rfl|exact⟨F,F⟩|exact⟨F,F,F⟩) (HI ?_));simp only[CU,B9];refine TW.op ⟨.A7 [.c (.int .i64 (X.getD 0)),.c (.bool X.isSome)],E,J 1⟩ rfl (λ_ _ h=>by cases h) ?_ ?_;intro S0 w0 y w a H gd A0 hr;rw[<-hX];exact AU5 gd rfl (A0 (.tmp 80) (by simp[Bl])) (A0 (.tmp 84) (by simp[Bl])) (hr 1 F);simp only[St.step,St.put,Z7,Ai,Ag];refine TW.take 5 (Es (by simp;first|exact rfl|exact⟨F,F⟩|exact⟨F,F,F⟩) (HI (TW.nil ⟨ZC,?_⟩)));cases X with
   | some y =>
     have e:f.valid=false:=by
      rw[hV,hI];rfl
     rw[e];simp only[IZ];exact wz ACA W
   | none =>
     rw[H8,ly,Cd]at hI;simp only[H8];have GP:f.DR.take k++[g]=f.DR.take (k+1):=by rw[UC,hg];rfl
     have hu:=ASs (f.DR.take k) g hX;rw[GP]at hI hu;refine wu (.mk 13) (cj3 @A9 @Bu @Dh ACA) trivial ⟨?_⟩;refine AW.Lm Fz (.inl F) ?_;refine TW.take 7 (Es (by simp[A9,Bu,Dh];first|exact rfl|exact⟨F,F⟩|exact⟨F,F,F⟩) (HI ?_));simp only[CU,B9];refine TW.take 7 (Es (by simp[A9,Bu,Dh,B7];first|exact rfl|exact⟨F,F⟩|exact⟨F,F,F⟩) (HI ?_));simp only[CU,B9];refine TW.op ⟨.any,J (1,.mp λ_=>HG (k+1) (R4 (f.DR.take (k+1)))),J 1⟩ rfl (λk ob e=>by cases e;exact F2 F) ?_ ?_;intro S0 w0 y w a H gd A0 hr;rw[<-hu];exact AU7 gd rfl (A0 (.tmp 89) (by simp[Bl])) (A0 (.tmp 93) (by simp[Bl])) (A0 (.tmp 102) (by simp[Bl])) (hr 1 F) (by unfold maxLen;omega);simp only[St.step,St.put,Bk,BA,BO,Nat.reduceAdd,Nat.reduceLT,Awg,Ai,Ag];refine TW.nil ⟨ZC,?_⟩;refine wy (cj @OM<|ACA) trivial ⟨?_⟩;refine⟨⟨k+1,Ux,hI,λx hx=>?_⟩,by simp only;omega,wd 3⟩;rw[<-GP]at hx;rcases MJ.1 hx with hx|hx
     exact hA x hx;rw[LY.1 hx,qH];rfl
   have e:f.valid=false:=by
    rw[hV,hI];simp[qI]
   rw[e];cases B1 with
   | false=>exact wz (cj6 @Q @Ev @Up @A9 @Bu @Dh ACA) (cj hn<|trivial)
   | true =>
     cases B2 with
     | false=>exact wz (cj6 @Q @Ev @Up @A9 @Bu @Dh ACA) (cj2 hn EK W)
     | true =>
       cases B3 with
       | false=>exact wz (cj6 @Q @Ev @Up @A9 @Bu @Dh ACA) (cj3 hn EK A1 W)
       | true=>exact absurd qH qI
   have A5:Ul [] f.DR=true:=by rw[hI,FA Ux];rfl
   have jK : ∀g∈f.DR,Lo g=true:=by rwa [Gl Ux]at hA
   have A6:=ASu f jK;rw[A5,Cd]at hV;have EC:k=G f.DR:=Ux;have jq:R4 (f.DR.take k)=f.ht:=by rw[Gl Ux];rfl
   rw[jq];refine wu (.mk 15) (cj @Q<|ACA) trivial ⟨?_⟩;refine AW.AUY 1 2 rfl rfl λm=>?_
   simp only[Ai,Ag];refine Cn 2 ?_;refine wy (cj2 @S @PF ACA) trivial ⟨?_⟩;refine CX (ι:={ j:Nat // j<=G f.C5/\Xa f.ht [] f.C5=Xa f.ht (f.C5.take j) (f.C5.drop j) }) (λj=>[(108,(j.1:Int))]) (λ_=>[O.box 27 f.vs U,O.mp (Ci m (HG k f.ht)),O.box 100 [V.c (.MA m)] I]) (λj=>G f.C5 - j.1) ⟨0,ZA⟩ ?_ ?_;exact DH;rintro ⟨j,hj,hJ⟩;simp only;by_cases Hx:j<G f.C5;obtain⟨s,hs⟩:∃z,f.C5[j]?=J z:=⟨_,BE Hx⟩
   have A9:SR[j]?=J [.str s.name,Gv s.sizes,Ek s.parts,.int .i64 s.Dc]:=by rw[<-PE,CM,hs];rfl
   have Bu:=gx A9;have Dh:j<G SR:=Ux;have OM:AZ.wrap ((j:Int)+1)=((j+1:Nat):Int):=by rw[Ac];simp
   obtain⟨h1,h2,h3⟩:=hf.2 s (Cj hs);have hv:=Aai s m k f.ht h1 A6 h2 h3;rw[D5 Hx,gx hs Hx]at hJ;simp only[Xa]at hJ;generalize hB:Oh f.ht s=B at hv hJ;refine wu (.mk 19) (cj6 @Hx @S @PF @A9 @Bu @Dh ACA) trivial ⟨?_⟩;refine AW.DA ?_;refine CY (.mk 2) trivial ?_;refine SW.pE 1 hv ZC (by simp[BQ]) (by simp[C7];first|exact rfl|exact⟨F,F⟩) (by simp[V.CF,V.CP,Bc.row]) rfl ?_;simp only[St.step,St.put,Bk,BA,BO,Nat.reduceAdd,Nat.reduceLT,Awg,Ai,Ag];refine CY (.mk 1) trivial ?_;refine SW.nil ?_;cases B with
   | false =>
     have e:f.valid=false:=by
      rw[hV,hJ];rfl
     rw[e];exact wz ACA W
   | true =>
     rw[Cd]at hJ;obtain⟨TR,yT⟩:=AI (SR.take j);have Lp:G TR=j:=by rw[<-yT,Fa];omega
     have A8 (i:Nat) (q:Bc) (hi:i<j) (hq:f.C5[i]?=J q):TR[i]?=J [.str q.name,Gv q.sizes,Ek q.parts,.int .i64 q.Dc]:=by
      rw[<-yT,List.getElem?_take_of_lt hi,<-PE,CM,hq];rfl
     have A3:(∀x∈SR,G x=4)↔True:=⟨λ_=>trivial,λ_ x hx=>by
      rw[<-PE]at hx;obtain⟨q,_,rfl⟩:=Da.1 hx;rfl⟩
     have Wh:(j:Int)<=(G SR:Int):=Ux;refine wy (cj7 @S @PF @yT @Lp @Dh @A3 @Wh ACA) trivial ⟨?_⟩;refine CX (ι:={ i:Nat // i<=j/\cV s.name (f.C5.take j)=cV s.name ((f.C5.take j).drop i) }) (λi=>[(122,(i.1:Int))]) (λ_=>[O.box 27 f.vs U,O.mp (Ci m (HG k f.ht)),O.box 100 [V.c (.MA m)] I,O.box 74 [V.c (.str s.name),V.c (Gv s.sizes),V.c (Ek s.parts),V.c (.int .i64 s.Dc)] U]) (λi=>j - i.1) ⟨0,ZA⟩ ?_ ?_;exact DH;rintro ⟨i,hi,hN⟩;simp only;by_cases Is:i<j;obtain⟨q,hq⟩:∃z,f.C5[i]?=J z:=⟨_,BE Ux⟩
     have rD:=A8 i q Is hq;have zr:=gx rD;have A2:i<G TR:=Ux;have m5:AZ.wrap ((i:Int)+1)=((i+1:Nat):Int):=by rw[Ac];simp
     have hd:(f.C5.take j).drop i=q::(f.C5.take j).drop (i+1):=by
      rw[D5 (by simp;omega)];simp[gx hq Ux]
     rw[hd]at hN;simp only[cV]at hN;obtain⟨qn,dF⟩:=AI q.name;obtain⟨sn,rH⟩:=AI s.name;rw[dF]at hN rD zr;by_cases he:q.name=s.name;have e:f.valid=false:=by
      rw[hV,hJ,hN,<-dF,Awk he];rfl
     rw[e];have J7:(qn=s.name)↔True:=⟨λ_=>trivial,λ_=>dF ▸ he⟩
     exact wz (cj6 @Is @Lp @rD @zr @A2 @J7 ACA) W;have J7 : ¬qn=s.name:=dF ▸ he;rw[Awl J7,tf]at hN;refine wy (cj7 @Is @Lp @rD @zr @A2 @J7 @m5 ACA) trivial ⟨?_⟩;exact⟨⟨i+1,Ux,hN⟩,by simp only;omega,wd 4⟩;have e:cV s.name (f.C5.take j)=false:=by
      rw[hN,FA (by simp;omega)];rfl
     have GP:f.C5.take j++[s]=f.C5.take (j+1):=by rw[UC,hs];rfl
     rw[e,GP]at hJ;refine wy (cj2 @Is @OM ACA) trivial ⟨?_⟩;exact⟨⟨j+1,Ux,hJ⟩,by simp only;omega,wd 3⟩
   have e:f.valid=true:=by
    rw[hV,hJ,FA Ux];rfl
   rw[e];exact wz (cj @Hx<|ACA) W
theorem Ma (f:AP):AC AF 30 [.agg f.vs] (.c (.bool f.valid)):=ANB (λ_ _ _ h=>APY h) (APe f)
theorem po (g:BG):AC AF 291 [Hg g] (AZ.wrap (g.h+g.d):Int):=by
 unfold Hg;refine AC.intro func291 rfl ?_;simp only[ntmps291,Ap,BB,BA,BO,Nat.reduceAdd,Nat.reduceSub,BY,Cy,BK,BU,BG.row];refine Ah ?_;exact At results291
theorem Y0 (g:BG):AC AF 105 [Hg g] (AZ.wrap (g.h+g.d):Int):=by
 unfold Hg;refine AC.intro aR rfl ?_;simp only[ntmps105,Ap,BB,BA,BO,Nat.reduceAdd,Nat.reduceSub,BY,Cy,BK,BU,BG.row];refine Ah ?_;exact At results105
theorem lK (n p:Int):AC AF 260 [n,.cp [.int .i64 p] 0] (AU n p:Int):=by
 refine en fA ntmps260 ?_;refine Ah ?_;refine BZ (EI n p) func33 ?_;refine Ah ?_;exact At results260
def XT (q:BG×Int):V:=.A7 [Hg q.1,AR q.2]
theorem sw (g:BG)(p:Int):AC AF 208 [Hg g,p] (XT (Hm g p)):=by
 unfold Hg;refine AC.intro func208 rfl ?_;simp only[ntmps208,Ap,BB,BA,BO,Nat.reduceAdd,Nat.reduceSub,BY,Cy,BK,BU,BG.row];with_reducible refine AW.seq ?_
 with_reducible refine AW.region ?_
 with_reducible refine If (by simp[BY];first|exact rfl|exact⟨F,F⟩) ?_
 with_reducible refine Kz ?_
 with_reducible refine G3 ?_
 refine Cn 1 ?_;refine Ah ?_;refine gc @AV.eq_1 (Xg 1 1000 [p] (by simp[maxLen])) func58 ?_;cases S:DX 1 1000 [p]with
 | false=>refine Ah ?_;exact At (cj7 Akw @XT.eq_1 @Hg.eq_1 @AR.eq_1 @Hm.eq_1 @S @BG.zero.eq_1 @BG.row.eq_1)
 | true =>
   refine Ah ?_;refine gc (cj @AV.eq_1<|@BG.OQ.eq_1) (Xg (-20000) 20000 g.OQ (by simp[maxLen,BG.OQ])) func58 ?_;cases Q:DX (-20000) 20000 g.OQ with
   | false=>have B:=Q;simp only[BG.OQ]at B;refine go @B ?_;exact At (cj8 Akw @XT.eq_1 @Hg.eq_1 @AR.eq_1 @Hm.eq_1 @S @Q @BG.zero.eq_1 @BG.row.eq_1)
   | true=>have B:=Q;simp only[BG.OQ]at B;refine go @B ?_;refine BZ (lK g.w p) fA ?_;refine BZ (lK g.h p) fA ?_;refine BZ (lK g.d p) fA ?_;refine BZ (lK g.Ey p) fA ?_;refine BZ (lK g.attach p) fA ?_;refine Ah ?_;exact At (cj8 Akw @XT.eq_1 @Hg.eq_1 @AR.eq_1 @Hm.eq_1 @S @Q @BG.scaled.eq_1 @BG.row.eq_1)
theorem Ano {n p:Int}(B : -20000<=n)(Q:n<=20000)(S:1<=p)(q:p<=1000):Ea (n*p) 100=AU n p:=by
 unfold AU;rw[Awd ⟨by simp[An];omega,Ux,Ux⟩]
theorem AHT {n p:Int}(B : -20000<=n)(Q:n<=20000)(S:1<=p)(q:p<=1000):AC AF 281 [n,p] (AU n p:Int):=by
 rw[<-Ano B Q S q];exact Ajo n p Ux Ux Ux Ux
theorem AnR (g:BG)(p:Int):AC AF 277 [Hg g,p] (XT (Hm g p)):=by
 have S:Hg g=.agg (g.row.map V.c):=F;cases B:DX 1 1000 [p]with
 | false=>rw[S];refine AC.intro Ahq rfl ?_;simp only[ntmps277,Ap,BB,BA,BO,Nat.reduceAdd,Nat.reduceSub,BY,Cy,BK,BU,BG.row];refine Ah ?_;refine gc @B (bf p 1 1000) ey ?_;refine Ah ?_;exact At (cj7 ASG @XT.eq_1 @Hg.eq_1 @AR.eq_1 @Hm.eq_1 @B @BG.zero.eq_1 @BG.row.eq_1)
 | true =>
   cases Q:DX (-20000) 20000 g.OQ with
   | false=>rw[S];refine AC.intro Ahq rfl ?_;simp only[ntmps277,Ap,BB,BA,BO,Nat.reduceAdd,Nat.reduceSub,BY,Cy,BK,BU,BG.row];refine Ah ?_;refine gc @B (bf p 1 1000) ey ?_;refine Ah ?_;refine gc (cj2 @Q @Hg.eq_1 @BG.row.eq_1) (AHO g) AQL ?_;refine Ah ?_;exact At (cj8 ASG @XT.eq_1 @Hg.eq_1 @AR.eq_1 @Hm.eq_1 @B @Q @BG.zero.eq_1 @BG.row.eq_1)
   | true=>have q:=B;have z:=Q;simp[DX,BG.OQ]at q z;rw[S];refine AC.intro Ahq rfl ?_;simp only[ntmps277,Ap,BB,BA,BO,Nat.reduceAdd,Nat.reduceSub,BY,Cy,BK,BU,BG.row];refine Ah ?_;refine gc @B (bf p 1 1000) ey ?_;refine Ah ?_;refine gc (cj2 @Q @Hg.eq_1 @BG.row.eq_1) (AHO g) AQL ?_;refine Ah ?_;refine BZ (AHT (n:=g.w) (p:=p) Ux Ux Ux Ux) AQf ?_;refine BZ (AHT (n:=g.h) (p:=p) Ux Ux Ux Ux) AQf ?_;refine BZ (AHT (n:=g.d) (p:=p) Ux Ux Ux Ux) AQf ?_;refine BZ (AHT (n:=g.Ey) (p:=p) Ux Ux Ux Ux) AQf ?_;refine BZ (AHT (n:=g.attach) (p:=p) Ux Ux Ux Ux) AQf ?_;refine Ah ?_;exact At (cj8 ASG @XT.eq_1 @Hg.eq_1 @AR.eq_1 @Hm.eq_1 @B @Q @BG.scaled.eq_1 @BG.row.eq_1)
def DB (f:AP)(name:ByteArray)(p:Int):AA×Int:=
 if (Hm (f.pick name) p).2=0 then(N7 (Hm (f.pick name) p).1 p,0)else(AA.zero,(Hm (f.pick name) p).2)
def Ba (q:AA×Int):V:=.A7 [Ao q.1,AR q.2]
theorem AQA (f:AP)(name:ByteArray)(p:Int)(hl:G f.DR<=maxLen):AC AF 225 [.agg f.vs,.c (.str name),p] (Ba (DB f name p)):=by
 have Q:DB f name p=if (Hm (f.pick name) p).2=0 then(N7 (Hm (f.pick name) p).1 p,0)else(AA.zero,(Hm (f.pick name) p).2):=F
 have S:(Hm (f.pick name) p).2=0->(-200000<=(Hm (f.pick name) p).1.w/\(Hm (f.pick name) p).1.w<=200000)/\(-200000<=(Hm (f.pick name) p).1.Ey/\(Hm (f.pick name) p).1.Ey<=200000):=by
  intro h;obtain⟨h1,h2,h3⟩:=AYW _ _ h;have:=AKg _ _ h1 h2;rw[h3];exact⟨this.1,this.2.2.2⟩
 refine en func225 ntmps225 ?_;refine Ah ?_;refine gc (cj @Hg.eq_1<|@BG.row.eq_1) (AP2 f name hl) func278 ?_;refine gc (cj3 @XT.eq_1 @Hg.eq_1 @AR.eq_1 @BG.row.eq_1) (AnR (f.pick name) p) Ahq ?_;generalize hq:Hm (f.pick name) p=q at Q S ⊢;obtain⟨g,z⟩:=q;simp only at Q S ⊢;by_cases B:z=0;obtain⟨b1,b2⟩:=S B;have hw:AZ.wrap (g.w+if 0<g.Ey then g.Ey else 0)=g.w+if 0<g.Ey then g.Ey else 0:=by split<;>exact Ac
 refine go (cj @B<|@hw) ?_;exact At (cj9 results225 @Ba.eq_1 @Ao.eq_1 @AR.eq_1 @Q @B @N7.eq_1 @AA.row.eq_1 @AA.AG.eq_1<|cj2 @AA.AG.eq_2 @AV.eq_1 @mx.eq_1);refine go @B ?_;exact At (cj9 results225 @Ba.eq_1 @Ao.eq_1 @AR.eq_1 @Q @B @AA.zero.eq_1 @AA.row.eq_1 @AA.AG.eq_1<|cj @AA.AG.eq_2 @AV.eq_1)
def QC (f:AP)(name:ByteArray)(p:Int):AA×Int:=if f.valid=I then DB f name p else(AA.zero,1)
theorem pn (f:AP)(name:ByteArray)(p:Int)(hl:G f.DR<=maxLen):AC AF 165 [.agg f.vs,.c (.str name),p] (Ba (QC f name p)):=by
 have S:DB f name p=if (Hm (f.pick name) p).2=0 then(N7 (Hm (f.pick name) p).1 p,0)else(AA.zero,(Hm (f.pick name) p).2):=F
 have z:(Hm (f.pick name) p).2=0->(-200000<=(Hm (f.pick name) p).1.w/\(Hm (f.pick name) p).1.w<=200000)/\(-200000<=(Hm (f.pick name) p).1.Ey/\(Hm (f.pick name) p).1.Ey<=200000):=by
  intro h;obtain⟨h1,h2,h3⟩:=AYW _ _ h;have:=AKg _ _ h1 h2;rw[h3];exact⟨this.1,this.2.2.2⟩
 cases Q:f.valid with
 | false=>refine en Aao ntmps165 ?_;refine Ah ?_;refine gc @Q (Ma f) IP ?_;refine Ah ?_;exact At (cj9 Aks @Ba.eq_1 @Ao.eq_1 @AR.eq_1 @QC.eq_1 @Q @AA.zero.eq_1 @AA.row.eq_1 @AA.AG.eq_1<|cj @AA.AG.eq_2 @AV.eq_1)
 | true =>
   refine en Aao ntmps165 ?_;refine Ah ?_;refine gc @Q (Ma f) IP ?_;refine Ah ?_;refine gc (cj @Hg.eq_1<|@BG.row.eq_1) (dy f name hl) func209 ?_;refine gc (cj3 @XT.eq_1 @Hg.eq_1 @AR.eq_1 @BG.row.eq_1) (sw (f.pick name) p) func208 ?_;generalize hq:Hm (f.pick name) p=q at S z ⊢;obtain⟨g,er⟩:=q;simp only at S z ⊢;by_cases B:er=0;obtain⟨b1,b2⟩:=z B;have hw:AZ.wrap (g.w+if 0<g.Ey then g.Ey else 0)=g.w+if 0<g.Ey then g.Ey else 0:=by split<;>exact Ac
   refine go (cj @B<|@hw) ?_;exact At (cj9 Aks @Ba.eq_1 @Ao.eq_1 @AR.eq_1 @QC.eq_1 @Q @S @B @N7.eq_1<|cj4 @AA.row.eq_1 @AA.AG.eq_1 @AA.AG.eq_2 @AV.eq_1 @mx.eq_1);refine go @B ?_;exact At (cj9 Aks @Ba.eq_1 @Ao.eq_1 @AR.eq_1 @QC.eq_1 @Q @S @B @AA.zero.eq_1<|cj3 @AA.row.eq_1 @AA.AG.eq_1 @AA.AG.eq_2 @AV.eq_1)
def Bc.zero:Bc:=⟨⟨#[]⟩,[],[],0⟩
def IU (s:Bc):V:=.agg (s.row.map V.c)
def NK (o:Option Bc):V:=.A7 [IU (o.getD Bc.zero),.c (.bool o.isSome)]
theorem ae (f:AP)(name:ByteArray)(hl:G f.C5<=maxLen):AC AF 273 [.agg f.vs,.c (.str name)] (NK (f.I8 name)):=by
 unfold maxLen at hl;refine en func273 ntmps273 ?_;refine go @MG.eq_1 ?_;refine CX (ι:={ k:Nat // k<=G f.C5/\f.I8 name=XZ name (f.C5.drop k) }) (λk=>[(6,(k.1:Int)),(5,.c (.bool U))]) (λ_=>[.box 27 f.vs U,.box 74 [.c (.str ⟨#[]⟩),.Bg [],.Bg [],(0:Int)] U]) (λk=>G f.C5 - k.1) ⟨0,by simp[AP.I8]⟩ ?_ ?_;exact DH;rintro ⟨k,hk,S⟩;by_cases B:k<G f.C5;obtain⟨g,z⟩:=AI (f.C5[k]);rw[D5 B,z]at S;by_cases Q:g.name=name;have q:f.I8 name=J g:=by rw[S];simp[XZ,Q]
 refine go (cj4 @B @z @Q @MG.eq_1 @Bc.row.eq_1) ?_;exact At (cj5 results273 @NK.eq_1 @IU.eq_1 @q @Bc.row.eq_1 @Q);have hw:AZ.wrap ((k:Int)+1)=((k+1:Nat):Int):=by rw[Ac];simp
 refine go (cj5 @B @z @Q @MG.eq_1 @Bc.row.eq_1 @hw) ?_;refine⟨⟨k+1,Ux,by rw[S];simp[XZ,Q]⟩,by simp only;omega,?_⟩;exact DH;have q:f.I8 name=none:=by rw[S,FA Ux];rfl
 refine go (cj @B<|@MG.eq_1) ?_;exact At (cj7 results273 @NK.eq_1 @IU.eq_1 @q @Bc.zero.eq_1 @Bc.row.eq_1 @Gv.eq_1 @Ek.eq_1)
theorem AZb (f:AP)(name:ByteArray)(hl:G f.C5<=maxLen)(hs : ∀s∈f.C5,G s.sizes<=1000/\(G s.parts)<=1000):AC AF 162 [.agg f.vs,.c (.str name)] (NK (f.I8 name)):=by
 unfold maxLen at hl;refine en func162 ntmps162 ?_;refine go @MG.eq_1 ?_;refine CX (ι:={ k:Nat // k<=G f.C5/\f.I8 name=XZ name (f.C5.drop k) }) (λk=>[(11,(k.1:Int)),(5,.c (.bool U))]) (λ_=>[.box 27 f.vs U,.box 74 [.c (.str ⟨#[]⟩),.Bg [],.Bg [],(0:Int)] U]) (λk=>G f.C5 - k.1) ⟨0,by simp[AP.I8]⟩ ?_ ?_;exact DH;rintro ⟨k,hk,S⟩;by_cases B:k<G f.C5;obtain⟨g,q⟩:=AI (f.C5[k]);rw[D5 B,q]at S;have hm:=hs f.C5[k] (Kq B);rw[q]at hm;by_cases Q:g.name=name;have z:f.I8 name=J g:=by rw[S];simp[XZ,Q]
 have h1:G g.sizes<=maxLen:=by unfold maxLen;omega
 have h2:G g.parts<=maxLen:=by unfold maxLen;omega
 have h3:G g.sizes*16<=140737488355328:=Ux;have h4:G g.parts*24<=140737488355328:=Ux;refine go (cj9 @B @q @Q @MG.eq_1 @Bc.row.eq_1 @Gv.eq_1 @Ek.eq_1 @CR.row.eq_1 @h1<|cj2 @h2 @h3 @h4) ?_;exact At (cj7 AGP @NK.eq_1 @IU.eq_1 @z @Bc.row.eq_1 @Gv.eq_1 @Ek.eq_1 @Q);have hw:AZ.wrap ((k:Int)+1)=((k+1:Nat):Int):=by rw[Ac];simp
 refine go (cj5 @B @q @Q @MG.eq_1 @Bc.row.eq_1 @hw) ?_;refine⟨⟨k+1,Ux,by rw[S];simp[XZ,Q]⟩,by simp only;omega,?_⟩;exact wd 2;have z:f.I8 name=none:=by rw[S,FA Ux];rfl
 refine go (cj @B<|@MG.eq_1) ?_;exact At (cj7 AGP @NK.eq_1 @IU.eq_1 @z @Bc.zero.eq_1 @Bc.row.eq_1 @Gv.eq_1 @Ek.eq_1)
theorem XN (s:ByteArray)(hs:s.size<=maxLen):AC AF 102 [.c (.str s)] (.c (.bool (Ck s))):=by
 unfold maxLen at hs;refine en my ntmps102 ?_;refine Ah ?_;refine CX (ι:={ k:Nat // k<=s.size/\s.data.toList.all Dx=(s.data.toList.drop k).all Dx }) (λk=>[(3,(k.1:Int)),(2,.c (.bool U))]) (λ_=>[]) (λk=>s.size - k.1) ⟨0,ZA⟩ ?_ ?_;exact DH;rintro ⟨k,hk,S⟩;by_cases B:k<s.size;have hd:s.data.toList.drop k=(s.data[k]'B)::s.data.toList.drop (k+1):=by rw[D5 (by simpa using B)];simp
 rw[hd,Ep]at S;obtain⟨b,q⟩:=AI (s.data[k]'B);rw[q]at S;have hw:AZ.wrap ((k:Int)+1)=((k+1:Nat):Int):=by rw[Ac];simp
 by_cases Q:(b.toNat:Int)<32;have e:Dx b=false:=by simp[Dx];omega
 refine go (cj2 @B @q @Q) ?_;exact At (cj3 RH @Ck.eq_1 @S @e);by_cases h2:(126:Int)<(b.toNat:Int);have e:Dx b=false:=by simp[Dx];omega
 refine go (cj3 @B @q @Q @h2) ?_;exact At (cj3 RH @Ck.eq_1 @S @e);have e:Dx b=true:=by simp[Dx];omega
 refine go (cj4 @B @q @Q @h2 @hw) ?_;refine⟨⟨k+1,Ux,by rw[S,e,Cd]⟩,by simp only;omega,?_⟩;exact DH;have Hh:k=s.size:=Ux;have e:s.data.toList.all Dx=true:=by rw[S,FA (by simp;omega)];rfl
 have EC:s.size=s.data.size:=F;by_cases Q:(1:Int)<=(s.size:Int);have z:Ck s=decide ((s.size:Int)<=16):=by
  unfold Ck;rw[e,Cd,Awk (show 1<=s.size by omega),Cd,Awi];omega
 refine go (cj @B<|@Q) ?_;exact At (cj RH<| @z);have z:Ck s=false:=by
  unfold Ck;rw[Awl (show ¬1<=s.size by omega),D4,LV]
 refine go (cj @B<|@Q) ?_;exact At (cj RH<| @z)
theorem ATy (Q B n:Int)(l:List Int):DX Q B (n::l)=(DX Q B [n] && DX Q B l):=by simp[DX]
theorem AmE (p:Params):G p.lens=17:=F
theorem AUn (p:Params):AC AF 65 [.agg p.vs] (.c (.bool (Qk p))):=by
 have hP:Qk p=(DX 1 100 p.SK && DX 0 20000 p.lens):=F;have hl:=AmE p;refine AC.intro Su rfl ?_;simp only[ntmps65,Ap,BB,BA,BO,Nat.reduceAdd,Nat.reduceSub,BY,Cy,BK,BU,Params.vs,Params.list];refine Ah ?_;refine CX (ι:={ k:Nat // k<=G p.lens/\DX 0 20000 p.lens=DX 0 20000 (p.lens.drop k) }) (λk=>[(4,(k.1:Int)),(2,.c (.bool U)),(3,.Bg (p.lens.map λn=>[C.int .i64 n]))]) (λ_=>[.box 25 p.vs U]) (λk=>G p.lens - k.1) ⟨0,ZA⟩ ?_ ?_;exact ER (cj2 @Params.lens.eq_1 @Params.vs.eq_1 @Params.list.eq_1);rintro ⟨k,hk,z⟩;by_cases B:k<G p.lens;obtain⟨n,hn⟩:=AI (p.lens[k]);rw[D5 B,hn,ATy]at z;have hw:AZ.wrap ((k:Int)+1)=((k+1:Nat):Int):=by rw[Ac];simp
 refine go (cj @B<|@hn) ?_;refine BZ (bf n 0 20000) ey ?_;cases hb:DX 0 20000 [n]with
 | false =>
   have e:Qk p=false:=by rw[hP,z,hb];simp
   refine go @hb ?_;exact At (cj UR<| @e)
 | true=>refine go (cj @hb<|@hw) ?_;refine⟨⟨k+1,Ux,by rw[z,hb,Cd]⟩,by simp only;omega,?_⟩;exact DH
 have e:DX 0 20000 p.lens=true:=by rw[z,FA Ux];rfl
 have S:Qk p=(DX 1 100 [p.script] && (DX 1 100 [p.Qr] && DX 1 100 [p.TD])):=by
  rw[hP,e,Km];unfold Params.SK;rw[ATy,ATy 1 100 p.Qr]
 cases Q:DX 1 100 [p.script]with
 | false=>rw[Q,D4]at S;refine go (cj2 @B @Params.vs.eq_1 @Params.list.eq_1) ?_;refine gc @Q (bf p.script 1 100) ey ?_;refine Ah ?_;exact At (cj UR<| @S)
 | true =>
   cases q:DX 1 100 [p.Qr]with
   | false=>rw[Q,q,D4,LV]at S;refine go (cj2 @B @Params.vs.eq_1 @Params.list.eq_1) ?_;refine gc @Q (bf p.script 1 100) ey ?_;refine gc @q (bf p.Qr 1 100) ey ?_;refine Ah ?_;exact At (cj UR<| @S)
   | true=>rw[Q,q,Cd,Cd]at S;refine go (cj2 @B @Params.vs.eq_1 @Params.list.eq_1) ?_;refine gc @Q (bf p.script 1 100) ey ?_;refine gc @q (bf p.Qr 1 100) ey ?_;refine BZ (bf p.TD 1 100) ey ?_;refine Ah ?_;exact At (cj UR<| @S)
def O6 (f:AP):Bool:=(decide (G f.DR<=500) && decide (G f.C5<=50)) && f.C5.all λs=>decide (G s.sizes<=50) && decide (G s.parts<=50)
theorem APV (f:AP)(hg:G f.DR<=maxLen):AC AF 10 [.agg f.vs] (.c (.bool (O6 f))):=by
 by_cases q:(500:Int)<(G f.DR:Int);have e:O6 f=false:=by simp[O6];omega
 refine en AHZ ALO ?_;refine go (cj @q<|@O8.eq_1) ?_;exact At (cj US<| @e);by_cases h2:(50:Int)<(G f.C5:Int);have e:O6 f=false:=by simp[O6];omega
 refine en AHZ ALO ?_;refine go (cj3 @q @h2 @O8.eq_1 @MG.eq_1) ?_;exact At (cj US<| @e);have hF:O6 f=f.C5.all λs=>decide (G s.sizes<=50) && decide (G s.parts<=50):=by
  unfold O6;rw[Awk (show G f.DR<=500 by omega),Awk (show G f.C5<=50 by omega)];rfl
 refine en AHZ ALO ?_;refine go (cj3 @q @h2 @O8.eq_1 @MG.eq_1) ?_;refine CX (ι:={ k:Nat // k<=G f.C5/\O6 f=(f.C5.drop k).all λs=>decide (G s.sizes<=50) && decide (G s.parts<=50) }) (λk=>[(3,(k.1:Int)),(2,.c (.bool U))]) (λ_=>[.box 27 f.vs U]) (λk=>G f.C5 - k.1) ⟨0,by simp[hF]⟩ ?_ ?_;exact DH;rintro ⟨k,hk,Q⟩;by_cases B:k<G f.C5;obtain⟨s,S⟩:=AI (f.C5[k]);rw[D5 B,S,Ep]at Q;by_cases z:(50:Int)<(G s.sizes:Int);have e:O6 f=false:=by rw[Q];simp;omega
 refine go (cj6 @B @S @z @MG.eq_1 @Bc.row.eq_1 @Gv.eq_1 @Ek.eq_1) ?_;exact At (cj US<| @e);by_cases h4:(50:Int)<(G s.parts:Int);have e:O6 f=false:=by rw[Q];simp;omega
 refine go (cj7 @B @S @z @h4 @MG.eq_1 @Bc.row.eq_1 @Gv.eq_1 @Ek.eq_1) ?_;exact At (cj US<| @e);have hw:AZ.wrap ((k:Int)+1)=((k+1:Nat):Int):=by rw[Ac];simp
 refine go (cj8 @B @S @z @h4 @MG.eq_1 @Bc.row.eq_1 @Gv.eq_1 @Ek.eq_1 @hw) ?_;refine⟨⟨k+1,Ux,by rw[Q,Awk (show G s.sizes<=50 by omega),Awk (show G s.parts<=50 by omega)];rfl⟩,by simp only;omega,?_⟩;exact DH;have e:O6 f=true:=by rw[Q,FA Ux];rfl
 refine go (cj @B<|@MG.eq_1) ?_;exact At (cj US<| @e)
theorem APF (g:BG):Lo g=(Ck g.name && (DX (-20000) 20000 g.OQ && decide (0<=g.w))):=by
 unfold Lo;cases Ck g.name with
 | false=>rfl
 | true=>simp only[Cd];rw[Oj];simp[DX,BG.OQ];omega
theorem AiS (l:List BG)(hl:G l<=1000)(hn : ∀g∈l,g.name.size<=maxLen):AC AF 66 [.c (O8 l)] (.c (.bool (Ul [] l))):=by
 refine en func66 ntmps66 ?_;refine Ah ?_;refine CX (ι:={ k:Nat // k<=G l/\Ul [] l=Ul (l.take k) (l.drop k) }) (λk=>[(3,(k.1:Int)),(2,.c (.bool U))]) (λ_=>[]) (λk=>G l - k.1) ⟨0,ZA⟩ ?_ ?_;exact DH;rintro ⟨k,hk,S⟩;by_cases B:k<G l;obtain⟨g,Q⟩:=AI (l[k]);have Fg:=hn l[k] (Kq B);rw[Q]at Fg;have GP:l.take k++[g]=l.take (k+1):=by rw[UD B,Q]
 rw[D5 B,Q]at S;simp only[Ul]at S;rw[GP]at S;have hw:AZ.wrap ((k:Int)+1)=((k+1:Nat):Int):=by rw[Ac];simp
 cases z:Ck g.name with
 | false =>
   have e:Ul [] l=false:=by rw[S,APF,z];rfl
   refine go (cj3 @B @Q @O8.eq_1 @BG.row.eq_1) ?_;refine gc @z (XN g.name Fg) my ?_;refine Ah ?_;exact At (cj ADW<| @e)
 | true =>
   cases c2:DX (-20000) 20000 g.OQ with
   | false =>
     have e:Ul [] l=false:=by rw[S,APF,z,c2];rfl
     refine go (cj3 @B @Q @O8.eq_1 @BG.row.eq_1) ?_;refine gc (cj4 @z @B @Q @BG.row.eq_1 @Hg.eq_1) (XN g.name Fg) my ?_;refine gc (cj4 @c2 @B @Q @BG.row.eq_1 @Hg.eq_1) (AHO g) AQL ?_;refine Ah ?_;exact At (cj ADW<| @e)
   | true =>
     by_cases c3:g.w<0;have e:Ul [] l=false:=by rw[S,APF,z,c2,Awl (show ¬0<=g.w by omega)];rfl
     refine go (cj3 @B @Q @O8.eq_1 @BG.row.eq_1) ?_;refine gc (cj4 @z @B @Q @BG.row.eq_1 @Hg.eq_1) (XN g.name Fg) my ?_;refine gc (cj5 @c2 @B @Q @BG.row.eq_1 @Hg.eq_1 @c3) (AHO g) AQL ?_;refine Ah ?_;exact At (cj ADW<| @e);rw[APF,z,c2,Awk (show 0<=g.w by omega)]at S;simp only[Cd,LW]at S;refine go (cj3 @B @Q @O8.eq_1 @BG.row.eq_1) ?_;refine gc (cj4 @z @B @Q @BG.row.eq_1 @Hg.eq_1) (XN g.name Fg) my ?_;refine gc (cj5 @c2 @B @Q @BG.row.eq_1 @Hg.eq_1 @c3) (AHO g) AQL ?_;refine Ah ?_;refine CX (ι:={ j:Nat // j<=k/\hasName g.name (l.take k)=hasName g.name ((l.take k).drop j) }) (λj=>[(4,(j.1:Int)),(2,.c (.bool U))]) (λ_=>[]) (λj=>k - j.1) ⟨0,ZA⟩ ?_ ?_;exact DH;rintro ⟨j,hj,hJ⟩;by_cases Hx:j<k;have Rq:j<G l:=Ux;obtain⟨q,hq⟩:=AI (l[j]);have hd:(l.take k).drop j=q::(l.take k).drop (j+1):=by
      rw[D5 (by simp;omega)];simp[hq]
     rw[hd]at hJ;simp only[hasName]at hJ;by_cases he:q.name=g.name;have e:Ul [] l=false:=by rw[S,hJ,Awk he];rfl
     refine go (cj7 @Hx @Rq @hq @B @Q @he @O8.eq_1 @BG.row.eq_1) ?_;exact At (cj ADW<| @e);have A0:AZ.wrap ((j:Int)+1)=((j+1:Nat):Int):=by rw[Ac];simp
     refine go (cj8 @Hx @Rq @hq @B @Q @he @O8.eq_1 @BG.row.eq_1 @A0) ?_;refine⟨⟨j+1,Ux,by rw[hJ,Awl he,tf]⟩,by simp only;omega,?_⟩;exact DH;have e:hasName g.name (l.take k)=false:=by rw[hJ,FA (by simp;omega)];rfl
     refine go (cj @Hx<|@hw) ?_;refine⟨⟨k+1,Ux,by rw[S,e];rfl⟩,by simp only;omega,?_⟩;exact ER @O8.eq_1
 have e:Ul [] l=true:=by rw[S,FA Ux];rfl
 refine go (cj @B<|@O8.eq_1) ?_;exact At (cj ADW<| @e)
def Tl (f:AP):Nat->Int->List ByteArray->Bool
 | _,_,[]=>I
 | i,last,n::r=>match f.find n with
   | none=>U
   | some g=> !(decide (0<i) && decide (g.Dy<=last)) && Tl f (i+1) g.Dy r
def PL (f:AP)(ov:Int):Bool->List CR->Option Bool
 | e,[]=>J e
 | e,p::r=>match f.find p.name with
   | none=>E
   | some g=>if g.Dy<=ov then E else PL f ov (e || p.ext) r
def PM (f:AP)(s:Bc):Bool:=
 (Ck s.name && (decide (1<=G s.sizes) && (decide (G s.sizes<=16) && decide (G s.parts<=8)))) && (Tl f 0 0 s.sizes && (if s.parts=[]then decide (s.Dc=0)else match PL f s.Dc U s.parts with
   | none=>U
   | some e=>e && decide (0<=s.Dc)))
theorem AiO {name:ByteArray}{g:BG} : ∀ {l:List BG},KU name l=J g->g∈l
 | [],h=>by simp[KU]at h
 | x::r,h=>by
   simp only[KU]at h;split at h;simp only[BL]at h;subst h;simp;exact Gk _ (AiO h)
theorem ADk {f:AP}(B : ∀g∈f.DR,Lo g=I){name:ByteArray}{g:BG}(h:f.find name=J g): -40000<=g.Dy/\g.Dy<=40000/\AZ.wrap (g.h+g.d)=g.Dy:=by
 have:=B g (AiO h);simp[Lo,DX]at this;unfold BG.Dy;exact⟨Ux,Ux,Ac⟩
theorem Ajs {f:AP}(S : ∀g∈f.DR,Lo g=I):∀(l:List ByteArray) (i:Nat) (B Q:Int),(0<i->Q=B)->(i=0->Q < -40000)->Tl f i B l=Sc f.ht Q l
 | [],_,_,_,_,_=>rfl
 | n::r,i,B,Q,q,z=>by
   simp only[Tl,Sc,AP.ht];cases hf:f.find n with
   | none=>rfl
   | some g =>
     obtain⟨b1,b2,_⟩:=ADk S hf;simp only[Nu];rw[Ajs S r (i+1) g.Dy g.Dy (λ_=>rfl) (λe=>by omega)];congr 1
     rw[Oj];simp;rcases AMx i with e|e
     have:=z e;omega;have:=q e;omega
theorem Ajl {f:AP}(q : ∀g∈f.DR,Lo g=I)(B:Int):∀(l:List CR) (e:Bool) (least:Int),B<least->
 (match PL f B e l with|none=>U|some e=>e && decide (0<=B))=(match OW f.ht least e l with|none=>U|some (m,e)=>e && DX 0 (m - 1) [B])
 | [],e,least,S=>by
   simp only[PL,OW,DX,Ep,Nq,Km];congr 1
   rw[Awk (show B<=least - 1 by omega),Km]
 | p::r,e,least,S=>by
   simp only[PL,OW,AP.ht];cases hf:f.find p.name with
   | none=>rfl
   | some g =>
     simp only[Nu];by_cases Q:g.Dy<=B;rw[Awd Q];have key : ∀(l:List CR) (e:Bool) (m:Int),m<=B->(match OW f.ht m e l with|none=>U|some (m,e)=>e && DX 0 (m - 1) [B])=false:=by
      intro l;induction l with
      | nil=>intro e m z;simp[OW,DX];omega
      | cons p l ih =>
        intro e m z;simp only[OW];cases f.ht p.name with
        | none=>rfl
        | some h=>exact ih _ _ (by split<;>omega)
     have:=key r (e || p.ext) (if g.Dy<least then g.Dy else least) (by split<;>omega);exact this.symm;rw[Awf Q];exact Ajl q B r _ _ (by split<;>omega)
theorem Anl {f:AP}(B : ∀g∈f.DR,Lo g=I)(s:Bc):PM f s=Oh f.ht s:=by
 unfold PM Oh;rw[Ajs B s.sizes 0 0 (-60000) (λh=>absurd h Ux) (λ_=>by omega)];have S:(Ck s.name && (decide (1<=G s.sizes) && (decide (G s.sizes<=16) && decide (G s.parts<=8))))=(Ck s.name && (DX 1 16 [(G s.sizes:Int)] && decide (G s.parts<=8))):=by
  congr 1
  rw[Oj];simp[DX];omega
 rw[S];congr 2
 split;rfl;rename_i hp;unfold du;by_cases ho:s.Dc<60000;exact Ajl B s.Dc s.parts U 60000 ho
 .
   obtain⟨p,r,Q⟩:=List.exists_cons_of_ne_nil hp;rw[Q];simp only[PL,OW,AP.ht];cases q:f.find p.name with
   | none=>rfl
   | some g =>
     obtain⟨b1,b2,_⟩:=ADk B q;simp only[Nu];rw[Awd Ux];have key : ∀(l:List CR) (e:Bool) (m:Int),m<=s.Dc->(match OW f.ht m e l with|none=>U|some (m,e)=>e && DX 0 (m - 1) [s.Dc])=false:=by
      intro l;induction l with
      | nil=>intro e m z;simp[OW,DX];omega
      | cons p l ih =>
        intro e m z;simp only[OW];cases f.ht p.name with
        | none=>rfl
        | some h=>exact ih _ _ (by split<;>omega)
     have:=key r (U || p.ext) (if g.Dy<60000 then g.Dy else 60000) (by split<;>omega);exact this.symm
theorem Aju (f:AP)(s:Bc)(A5 : ∀g∈f.DR,Lo g=I)(TQ:G f.DR<=maxLen)(hn:s.name.size<=maxLen):AC AF 67 [.agg f.vs,IU s] (.c (.bool (PM f s))):=by
 have hS:PM f s=((Ck s.name && (decide (1<=G s.sizes) && (decide (G s.sizes<=16) && decide (G s.parts<=8)))) && (Tl f 0 0 s.sizes && (if s.parts=[]then decide (s.Dc=0)else match PL f s.Dc U s.parts with
  | none=>U
  | some e=>e && decide (0<=s.Dc)))):=F
 unfold IU;cases c1:Ck s.name with
 | false =>
   have e:PM f s=false:=by rw[hS,c1];rfl
   refine AC.intro vi rfl ?_;simp only[ASh,Ap,BB,BA,BO,Nat.reduceAdd,Nat.reduceSub,BY,Cy,BK,BU,Bc.row];refine Ah ?_;refine gc @c1 (XN s.name hn) my ?_;refine Ah ?_;exact At (cj Vp<| @e)
 | true =>
   by_cases c2:(G s.sizes:Int)<1;have e:PM f s=false:=by rw[hS,Awl (show ¬1<=G s.sizes by omega)];simp
   refine AC.intro vi rfl ?_;simp only[ASh,Ap,BB,BA,BO,Nat.reduceAdd,Nat.reduceSub,BY,Cy,BK,BU,Bc.row];refine Ah ?_;refine gc (cj2 @c1 @c2 @Gv.eq_1) (XN s.name hn) my ?_;refine Ah ?_;exact At (cj Vp<| @e);by_cases c3:(16:Int)<(G s.sizes:Int);have e:PM f s=false:=by rw[hS,Awl (show ¬G s.sizes<=16 by omega)];simp
   refine AC.intro vi rfl ?_;simp only[ASh,Ap,BB,BA,BO,Nat.reduceAdd,Nat.reduceSub,BY,Cy,BK,BU,Bc.row];refine Ah ?_;refine gc (cj3 @c1 @c2 @c3 @Gv.eq_1) (XN s.name hn) my ?_;refine Ah ?_;exact At (cj Vp<| @e);by_cases c4:(8:Int)<(G s.parts:Int);have e:PM f s=false:=by rw[hS,Awl (show ¬G s.parts<=8 by omega)];simp
   refine AC.intro vi rfl ?_;simp only[ASh,Ap,BB,BA,BO,Nat.reduceAdd,Nat.reduceSub,BY,Cy,BK,BU,Bc.row];refine Ah ?_;refine gc (cj5 @c1 @c2 @c3 @c4 @Gv.eq_1 @Ek.eq_1) (XN s.name hn) my ?_;refine Ah ?_;exact At (cj Vp<| @e);have YX:PM f s=(Tl f 0 0 s.sizes && (if s.parts=[]then decide (s.Dc=0)else match PL f s.Dc U s.parts with
    | none=>U
    | some e=>e && decide (0<=s.Dc))):=by
    rw[hS,c1,Awk (show 1<=G s.sizes by omega),Awk (show G s.sizes<=16 by omega),Awk (show G s.parts<=8 by omega)];rfl
   refine AC.intro vi rfl ?_;simp only[ASh,Ap,BB,BA,BO,Nat.reduceAdd,Nat.reduceSub,BY,Cy,BK,BU,Bc.row];refine Ah ?_;refine gc (cj5 @c1 @c2 @c3 @c4 @Gv.eq_1 @Ek.eq_1) (XN s.name hn) my ?_;refine Ah ?_;refine CX (ι:={ q:Nat×Int // q.1<=G s.sizes/\Tl f 0 0 s.sizes=Tl f q.1 q.2 (s.sizes.drop q.1) }) (λq=>[(6,(q.1.1:Int)),(5,q.1.2),(4,.c (.bool U))]) (λ_=>[.box 27 f.vs U,.box 74 (s.row.map V.c) U]) (λq=>G s.sizes - q.1.1) ⟨(0,0),ZA⟩ ?_ ?_;exact ER (cj2 @Bc.row.eq_1 @Gv.eq_1 @Ek.eq_1);rintro ⟨⟨k,A2⟩,hk,z⟩;simp only at hk z ⊢;by_cases S:k<G s.sizes;obtain⟨n,hn⟩:=AI (s.sizes[k]);rw[D5 S,hn]at z;simp only[Tl]at z;have hw:AZ.wrap ((k:Int)+1)=((k+1:Nat):Int):=by rw[Ac];simp
   cases Q:f.find n with
   | none =>
     rw[Q]at z;have e:PM f s=false:=by rw[YX,z];rfl
     refine go (cj3 @S @hn @Bc.row.eq_1 @Gv.eq_1) ?_;refine gc (cj3 @YK.eq_1 @Q @BG.row.eq_1 @BG.zero.eq_1) (L5 f n TQ) fB ?_;refine Ah ?_;exact At (cj Vp<| @e)
   | some g =>
     rw[Q]at z;obtain⟨b1,b2,b3⟩:=ADk A5 Q;rcases AMx k with k0|k0
     subst k0;have EK:AZ.wrap 1=1:=Ac;simp only[IY,decide_false,D4,ly,Cd]at z;refine go (cj3 @S @hn @Bc.row.eq_1 @Gv.eq_1) ?_;refine gc (cj2 @YK.eq_1 @Q @BG.row.eq_1) (L5 f n TQ) fB ?_;refine Ah ?_;refine gc (cj2 @b3 @Hg.eq_1 @BG.row.eq_1) (Y0 g) aR ?_;refine go @EK ?_;refine⟨⟨(1,g.Dy),Ux,z⟩,by simp only;omega,?_⟩;refine Le.MI 2 (F2 F) (by simp[DG,Bc.row,Gv,Ek]) (by simp[Bc.row,Gv,Ek]) (by simp[V.BI,V.A8]) (by simp[O.A8,V.BI,V.A8,Bc.row,Gv,Ek]);have A0:(0:Int)<(k:Int):=Ux;by_cases B:g.Dy<=A2;have e:PM f s=false:=by rw[YX,z];simp[B,k0]
     refine go (cj3 @S @hn @Bc.row.eq_1 @Gv.eq_1) ?_;refine gc (cj2 @YK.eq_1 @Q @BG.row.eq_1) (L5 f n TQ) fB ?_;refine go (cj @k0<|@A0) ?_;refine gc (cj5 @b3 @Hg.eq_1 @BG.row.eq_1 @k0 @A0 @B) (Y0 g) aR ?_;refine Ah ?_;exact At (cj Vp<| @e);have A3:Tl f 0 0 s.sizes=Tl f (k+1) g.Dy (s.sizes.drop (k+1)):=by rw[z];simp[B]
     refine go (cj3 @S @hn @Bc.row.eq_1 @Gv.eq_1) ?_;refine gc (cj2 @YK.eq_1 @Q @BG.row.eq_1) (L5 f n TQ) fB ?_;refine go (cj @k0<|@A0) ?_;refine gc (cj5 @b3 @Hg.eq_1 @BG.row.eq_1 @k0 @A0 @B) (Y0 g) aR ?_;refine Ah ?_;refine gc (cj2 @b3 @Hg.eq_1 @BG.row.eq_1) (Y0 g) aR ?_;refine go @hw ?_;refine⟨⟨(k+1,g.Dy),Ux,A3⟩,by simp only;omega,?_⟩;refine Le.MI 2 (F2 F) (by simp[DG,Bc.row,Gv,Ek]) (by simp[Bc.row,Gv,Ek]) (by simp[V.BI,V.A8]) (by simp[O.A8,V.BI,V.A8,Bc.row,Gv,Ek])
   have e:Tl f 0 0 s.sizes=true:=by rw[z,FA Ux];rfl
   rw[e,Cd]at YX;by_cases hp:s.parts=[]
   have Wl:G s.parts=0:=by rw[hp];rfl
   rw[Awd hp]at YX;refine go (cj4 @S @Bc.row.eq_1 @Gv.eq_1 @Ek.eq_1 @hp) ?_;exact At (cj Vp<| @YX);have Wl : ¬G s.parts=0:=λh=>hp (Nr h)
   rw[Awf hp]at YX;refine go (cj4 @S @Bc.row.eq_1 @Gv.eq_1 @Ek.eq_1 @hp) ?_;refine CX (ι:={ q:Nat×Bool // q.1<=G s.parts/\PL f s.Dc U s.parts=PL f s.Dc q.2 (s.parts.drop q.1) }) (λq=>[(10,(q.1.1:Int)),(9,.c (.bool q.1.2)),(4,.c (.bool U))]) (λ_=>[.box 27 f.vs U,.box 74 (s.row.map V.c) U]) (λq=>G s.parts - q.1.1) ⟨(0,U),ZA⟩ ?_ ?_;exact ER (cj2 @Bc.row.eq_1 @Gv.eq_1 @Ek.eq_1);rintro ⟨⟨j,ext⟩,hj,hJ⟩;simp only at hj hJ ⊢;by_cases Hx:j<G s.parts;obtain⟨q,hq⟩:=AI (s.parts[j]);rw[D5 Hx,hq]at hJ;simp only[PL]at hJ;have hw:AZ.wrap ((j:Int)+1)=((j+1:Nat):Int):=by rw[Ac];simp
   cases Q:f.find q.name with
   | none =>
     rw[Q]at hJ;have e:PM f s=false:=by rw[YX,hJ]
     refine go (cj4 @Hx @hq @Bc.row.eq_1 @Ek.eq_1 @CR.row.eq_1) ?_;refine gc (cj3 @YK.eq_1 @Q @BG.row.eq_1 @BG.zero.eq_1) (L5 f q.name TQ) fB ?_;refine Ah ?_;exact At (cj Vp<| @e)
   | some g =>
     rw[Q]at hJ;obtain⟨b1,b2,b3⟩:=ADk A5 Q;by_cases B:g.Dy<=s.Dc;have e:PM f s=false:=by rw[YX,hJ];simp[B]
     refine go (cj4 @Hx @hq @Bc.row.eq_1 @Ek.eq_1 @CR.row.eq_1) ?_;refine gc (cj2 @YK.eq_1 @Q @BG.row.eq_1) (L5 f q.name TQ) fB ?_;refine go @Bc.row.eq_1 ?_;refine gc (cj3 @b3 @Hg.eq_1 @BG.row.eq_1 @B) (Y0 g) aR ?_;refine Ah ?_;exact At (cj Vp<| @e);have A1:PL f s.Dc U s.parts=PL f s.Dc (ext || q.ext) (s.parts.drop (j+1)):=by rw[hJ];simp[B]
     cases ext with
     | true=>refine go (cj4 @Hx @hq @Bc.row.eq_1 @Ek.eq_1 @CR.row.eq_1) ?_;refine gc (cj2 @YK.eq_1 @Q @BG.row.eq_1) (L5 f q.name TQ) fB ?_;refine go @Bc.row.eq_1 ?_;refine gc (cj3 @b3 @Hg.eq_1 @BG.row.eq_1 @B) (Y0 g) aR ?_;refine go @hw ?_;refine⟨⟨(j+1,I),Ux,by simpa using A1⟩,by simp only;omega,?_⟩;refine Le.MI 2 (F2 F) (by simp[DG,Bc.row,Gv,Ek]) (by simp[Bc.row,Gv,Ek]) (by simp[V.BI,V.A8]) (by simp[O.A8,V.BI,V.A8,Bc.row,Gv,Ek])
     | false=>refine go (cj4 @Hx @hq @Bc.row.eq_1 @Ek.eq_1 @CR.row.eq_1) ?_;refine gc (cj2 @YK.eq_1 @Q @BG.row.eq_1) (L5 f q.name TQ) fB ?_;refine go @Bc.row.eq_1 ?_;refine gc (cj3 @b3 @Hg.eq_1 @BG.row.eq_1 @B) (Y0 g) aR ?_;refine go (cj4 @hw @Hx @hq @Ek.eq_1 @CR.row.eq_1) ?_;refine⟨⟨(j+1,q.ext),Ux,by simpa using A1⟩,by simp only;omega,?_⟩;refine Le.MI 2 (F2 F) (by simp[DG,Bc.row,Gv,Ek]) (by simp[Bc.row,Gv,Ek]) (by simp[V.BI,V.A8]) (by simp[O.A8,V.BI,V.A8,Bc.row,Gv,Ek])
   have e2:PL f s.Dc U s.parts=J ext:=by rw[hJ,FA Ux];rfl
   rw[e2]at YX;simp only at YX;cases ext with
   | true=>refine go (cj2 @Hx @Bc.row.eq_1 @Ek.eq_1) ?_;exact At (cj Vp<| @YX)
   | false=>refine go (cj2 @Hx @Bc.row.eq_1 @Ek.eq_1) ?_;exact At (cj Vp<| @YX)
structure AP.Fit (f:AP):Prop where
 gl:G f.DR<=maxLen
 sl:G f.C5<=maxLen
 gn : ∀g∈f.DR,g.name.size<=maxLen
 sn : ∀s∈f.C5,s.name.size<=maxLen
theorem AiR : ∀(l seen:List BG),Ul seen l=I->∀g∈l,Lo g=I
 | [],_,_,g,B=>by cases B
 | x::r,seen,h,g,B=>by
   simp only[Ul,Ak]at h;rcases Cf.1 B with rfl|B
   exact h.1.1;exact AiR r _ h.2 g B
theorem ba (f:AP)(hf:f.Fit):AC AF 36 [.agg f.vs] (.c (.bool f.valid)):=by
 have hV:f.valid=((decide (G f.DR<=400) && (decide (G f.C5<=40) && Qk f.params)) && (Ul [] f.DR && Xa f.ht [] f.C5)):=F;by_cases z:(400:Int)<(G f.DR:Int);have e:f.valid=false:=by rw[hV,Awl (show ¬G f.DR<=400 by omega)];rfl
 refine en Sr ASc ?_;refine go (cj @z<|@O8.eq_1) ?_;exact At (cj aW<| @e);by_cases c2:(40:Int)<(G f.C5:Int);have e:f.valid=false:=by rw[hV,Awl (show ¬G f.C5<=40 by omega)];simp
 refine en Sr ASc ?_;refine go (cj3 @z @c2 @O8.eq_1 @MG.eq_1) ?_;exact At (cj aW<| @e);cases c3:Qk f.params with
 | false =>
   have e:f.valid=false:=by rw[hV,c3];simp
   refine en Sr ASc ?_;refine go (cj3 @z @c2 @O8.eq_1 @MG.eq_1) ?_;refine gc (cj2 @c3 @Params.vs.eq_1 @Params.list.eq_1) (AUn f.params) Su ?_;refine Ah ?_;exact At (cj aW<| @e)
 | true =>
   cases c4:Ul [] f.DR with
   | false =>
     have e:f.valid=false:=by rw[hV,c4];simp
     refine en Sr ASc ?_;refine go (cj3 @z @c2 @O8.eq_1 @MG.eq_1) ?_;refine gc (cj2 @c3 @Params.vs.eq_1 @Params.list.eq_1) (AUn f.params) Su ?_;refine gc @c4 (AiS f.DR Ux hf.gn) func66 ?_;refine Ah ?_;exact At (cj aW<| @e)
   | true =>
     have A5:=AiR _ _ c4;have A0:f.valid=Xa f.ht [] f.C5:=by
      rw[hV,Awk (show G f.DR<=400 by omega),Awk (show G f.C5<=40 by omega),c3,c4];rfl
     refine en Sr ASc ?_;refine go (cj3 @z @c2 @O8.eq_1 @MG.eq_1) ?_;refine gc (cj2 @c3 @Params.vs.eq_1 @Params.list.eq_1) (AUn f.params) Su ?_;refine gc @c4 (AiS f.DR Ux hf.gn) func66 ?_;refine Ah ?_;refine CX (ι:={ k:Nat // k<=G f.C5/\f.valid=Xa f.ht (f.C5.take k) (f.C5.drop k) }) (λk=>[(3,(k.1:Int)),(2,.c (.bool U))]) (λ_=>[.box 27 f.vs U]) (λk=>G f.C5 - k.1) ⟨0,by simpa using A0⟩ ?_ ?_;exact DH;rintro ⟨k,hk,Q⟩;by_cases B:k<G f.C5;obtain⟨s,S⟩:=AI (f.C5[k]);have Fg:=hf.sn f.C5[k] (Kq B);rw[S]at Fg;have GP:f.C5.take k++[s]=f.C5.take (k+1):=by rw[UD B,S]
     rw[D5 B,S]at Q;simp only[Xa]at Q;rw[GP,<-Anl A5]at Q;have hw:AZ.wrap ((k:Int)+1)=((k+1:Nat):Int):=by rw[Ac];simp
     cases c5:PM f s with
     | false=>rw[c5]at Q;simp only[D4]at Q;refine go (cj3 @B @S @MG.eq_1 @Bc.row.eq_1) ?_;refine gc (cj2 @c5 @IU.eq_1 @Bc.row.eq_1) (Aju f s A5 hf.gl Fg) vi ?_;refine Ah ?_;exact At (cj aW<| @Q)
     | true =>
       rw[c5,Cd]at Q;refine go (cj3 @B @S @MG.eq_1 @Bc.row.eq_1) ?_;refine gc (cj2 @c5 @IU.eq_1 @Bc.row.eq_1) (Aju f s A5 hf.gl Fg) vi ?_;refine Ah ?_;refine CX (ι:={ j:Nat // j<=k/\cV s.name (f.C5.take k)=cV s.name ((f.C5.take k).drop j) }) (λj=>[(4,(j.1:Int)),(2,.c (.bool U))]) (λ_=>[.box 27 f.vs U]) (λj=>k - j.1) ⟨0,ZA⟩ ?_ ?_;exact DH;rintro ⟨j,hj,hJ⟩;by_cases Hx:j<k;have Rq:j<G f.C5:=Ux;obtain⟨q,hq⟩:=AI (f.C5[j]);have hd:(f.C5.take k).drop j=q::(f.C5.take k).drop (j+1):=by
        rw[D5 (by simp;omega)];simp[hq]
       rw[hd]at hJ;simp only[cV]at hJ;by_cases he:q.name=s.name;have e:f.valid=false:=by rw[Q,hJ,Awk he];rfl
       refine go (cj7 @Hx @Rq @hq @B @S @he @MG.eq_1 @Bc.row.eq_1) ?_;exact At (cj aW<| @e);have A1:AZ.wrap ((j:Int)+1)=((j+1:Nat):Int):=by rw[Ac];simp
       refine go (cj8 @Hx @Rq @hq @B @S @he @MG.eq_1 @Bc.row.eq_1 @A1) ?_;refine⟨⟨j+1,Ux,by rw[hJ,Awl he,tf]⟩,by simp only;omega,?_⟩;exact DH;have e:cV s.name (f.C5.take k)=false:=by rw[hJ,FA (by simp;omega)];rfl
       refine go (cj @Hx<|@hw) ?_;refine⟨⟨k+1,Ux,by rw[Q,e];rfl⟩,by simp only;omega,?_⟩;exact DH
     have e:f.valid=true:=by rw[Q,FA Ux];rfl
     refine go (cj @B<|@MG.eq_1) ?_;exact At (cj aW<| @e)
theorem O4 {x:Cx}{t:List V}{a:Act}(h:AO x w t a.tmps.toList){v:V}(B:t[i]?=J v):CV x w v (a.eval (.tmp i)):=by
 have:=CW h (.tmp i);simpa [ev,Bv,B]using this
theorem pj {x:Cx}{t:List V}{a:Act}(h:AO x w t a.tmps.toList){c:C}(B:t[i]?=J (.c c)):Ab x.S w c (a.eval (.tmp i)):=by
 have:=O4 h B;simpa only[CV]using this
theorem pO (l:List Int)(q:G l<=1000000):AC AF 140 [.c (AV l)] (.c (AV l)):=by
 have f1:G l<=maxLen:=by unfold maxLen;omega
 have f2:G l*8<=140737488355328:=Ux;unfold AV;refine en e9 ntmps140 ?_;with_reducible refine AW.seq ?_
 with_reducible refine AW.region ?_
 with_reducible refine If (by simp[BY];first|exact rfl|exact⟨F,F⟩) ?_
 with_reducible refine Kz ?_
 with_reducible refine G3 ?_
 with_reducible refine AW.seq ?_
 with_reducible refine AW.seq ?_
 refine Og (.mk 1) trivial ?_;refine SW.OU (λv t=>t=E/\∃b:Bool,v=.c (.bool b)/\(b=I->l.map (λn=>[C.int AZ n])=[])) (by simp[BQ]) ?_ ?_;intro S0 w0 x a w g B S;exact AI2 (P:=AF) g _ rfl (by simp;exact⟨F,F,F⟩) (pj B F) F;rintro v t ⟨rfl,b,rfl,Q⟩;cases b with
 | true =>
   have:l=[]:=by simpa using Q rfl
   subst this;refine SW.nil ?_;refine Ah ?_;exact At results140
 | false =>
   refine SW.nil ?_;refine Ah ?_;with_reducible refine AW.DA ?_
   refine SW.OU (λv t=>t=E/\v=.Bg []) (by simp[BQ]) ?_ ?_;intro S0 w0 x a w g B S;exact⟨_,_,λ_ _ h=>(by cases h),⟨F,F⟩,AIv (P:=AF) g (t:=39) rfl (Ae:=3) (es:=1) (Bq:=8) ZA⟩;rintro v t ⟨rfl,rfl⟩;refine CY (.mk 3) (cj @f1<|@f2) ?_;refine SW.nil ?_;refine Ah ?_;exact At results140
mutual
def V.sf (N:Nat):V->Bool
 | .ptr k _=>decide (k<N) && decide (k≠2)
 | .own k _ _ _=>decide (k<N) && decide (k≠2)
 | .gr k _ _=>decide (k<N) && decide (k≠2)
 | .Be k _ _=>decide (k<N) && decide (k≠2)
 | .hp k _ _=>decide (k<N) && decide (k≠2)
 | .mp _=>U
 | .agg l=>V.Em N l
 | .A7 l=>V.Em N l
 | .fn _ l=>V.Em N l
 | .any=>I
 | .c _=>I
 | .cp _ _=>I
 | .Bg _=>I
 | .yl _=>I
def V.Em (N:Nat):List V->Bool
 | []=>I
 | v::l=>v.sf N && V.Em N l
end
mutual
theorem AKn {N:Nat}{ρ:Nat->Nat}(B : ∀k,k<N->k≠2->ρ k=k):∀v:V,v.sf N=I->v.GS ρ=v
 | .ptr k _,h=>by simp only[V.sf,Ak,Awe]at h;simp only[V.GS,B k h.1 h.2]
 | .own k _ _ _,h=>by simp only[V.sf,Ak,Awe]at h;simp only[V.GS,B k h.1 h.2]
 | .gr k _ _,h=>by simp only[V.sf,Ak,Awe]at h;simp only[V.GS,B k h.1 h.2]
 | .Be k _ _,h=>by simp only[V.sf,Ak,Awe]at h;simp only[V.GS,B k h.1 h.2]
 | .hp k _ _,h=>by simp only[V.sf,Ak,Awe]at h;simp only[V.GS,B k h.1 h.2]
 | .mp _,h=>by simp[V.sf]at h
 | .agg l,h=>by simp only[V.sf]at h;simp only[V.GS,lM B l h]
 | .A7 l,h=>by simp only[V.sf]at h;simp only[V.GS,lM B l h]
 | .fn _ l,h=>by simp only[V.sf]at h;simp only[V.GS,lM B l h]
 | .any,_=>rfl
 | .c _,_=>rfl
 | .cp _ _,_=>rfl
 | .Bg _,_=>rfl
 | .yl _,_=>rfl
theorem lM {N:Nat}{ρ:Nat->Nat}(B : ∀k,k<N->k≠2->ρ k=k):∀l:List V,V.Em N l=I->V.SO ρ l=l
 | [],_=>rfl
 | v::l,h=>by simp only[V.Em,Ak]at h;simp only[V.SO,AKn B v h.1,lM B l h.2]
end
mutual
theorem AKm {N M:Nat}(B:N<=M):∀v:V,v.sf N=I->v.A8 M=I/\v.sf M=I
 | .ptr k _,h=>by simp only[V.sf,V.A8,Ak,Awe]at h ⊢;omega
 | .own k _ _ _,h=>by simp only[V.sf,V.A8,Ak,Awe]at h ⊢;omega
 | .gr k _ _,h=>by simp only[V.sf,V.A8,Ak,Awe]at h ⊢;omega
 | .Be k _ _,h=>by simp only[V.sf,V.A8,Ak,Awe]at h ⊢;omega
 | .hp k _ _,h=>by simp only[V.sf,V.A8,Ak,Awe]at h ⊢;omega
 | .mp _,h=>by simp[V.sf]at h
 | .agg l,h=>by simp only[V.sf,V.A8]at h ⊢;exact SZ B l h
 | .A7 l,h=>by simp only[V.sf,V.A8]at h ⊢;exact SZ B l h
 | .fn _ l,h=>by simp only[V.sf,V.A8]at h ⊢;exact SZ B l h
 | .any,_=>⟨rfl,rfl⟩
 | .c _,_=>⟨rfl,rfl⟩
 | .cp _ _,_=>⟨rfl,rfl⟩
 | .Bg _,_=>⟨rfl,rfl⟩
 | .yl _,_=>⟨rfl,rfl⟩
theorem SZ {N M:Nat}(S:N<=M):∀l:List V,V.Em N l=I->V.BI M l=I/\V.Em M l=I
 | [],_=>⟨rfl,rfl⟩
 | v::l,h=>by
   simp only[V.Em,Ak]at h;have B:=AKm S v h.1;have Q:=SZ S l h.2;simp only[V.BI,V.Em,B.1,B.2,Q.1,Q.2,LW,and_self]
end
mutual
theorem AYa {N L:Nat}{row:List C}(B:N<=L):∀v:V,v.sf N=I->v.Bi L row=v
 | .ptr k _,h=>by simp only[V.sf,Ak,Awe]at h;simp only[V.Bi];rw[Awf Ux]
 | .own k _ _ _,h=>by simp only[V.sf,Ak,Awe]at h;simp only[V.Bi];rw[Awf Ux]
 | .gr k _ _,h=>rfl
 | .Be k _ _,h=>rfl
 | .hp k _ _,h=>rfl
 | .mp _,h=>by simp[V.sf]at h
 | .agg l,h=>by simp only[V.sf]at h;simp only[V.Bi,Zw B l h]
 | .A7 l,h=>by simp only[V.sf]at h;simp only[V.Bi,Zw B l h]
 | .fn _ l,h=>by simp only[V.sf]at h;simp only[V.Bi,Zw B l h]
 | .any,_=>rfl
 | .c _,_=>rfl
 | .cp _ _,_=>rfl
 | .Bg _,_=>rfl
 | .yl _,_=>rfl
theorem Zw {N L:Nat}{row:List C}(B:N<=L):∀l:List V,V.Em N l=I->V.Cs L row l=l
 | [],_=>rfl
 | v::l,h=>by simp only[V.Em,Ak]at h;simp only[V.Cs,AYa B v h.1,Zw B l h.2]
end
theorem fC {N:Nat} : ∀ {l:List V},V.Em N l=I↔∀v∈l,v.sf N=I
 | []=>by simp[V.Em]
 | v::l=>by simp only[V.Em,Ak,fC (l:=l),List.forall_mem_cons]
theorem sy {l k:List V}:V.Em N (l++k)=I↔V.Em N l=I/\V.Em N k=true:=by
 simp only[fC,MJ];exact⟨λh=>⟨λv B=>h v (.inl B),λv B=>h v (.inr B)⟩,λh v B=>B.elim (h.1 v) (h.2 v)⟩
theorem AKo {l:List V}{v:V}(h:V.Em N l=I)(Q:v.sf N=I):V.Em N (l.set i v)=true:=by
 rw[fC]at h ⊢;intro u B;rcases List.mem_or_eq_of_mem_set B with B|rfl
 exact h u B;exact Q
theorem ABl (l:List C):V.Em N (l.map V.c)=true:=by
 rw[fC];intro v B;obtain⟨c,_,rfl⟩:=Da.1 B;rfl
theorem xd {k:Nat}{row:List C} : ∀(l:List V),V.Cs k row l=l.map (V.Bi k row)
 | []=>rfl
 | v::l=>by simp only[V.Cs,Ap,xd l]
def Jq (q i:Nat):Nat:=if i=2 then q else i
theorem UW {q N M:Nat}{l:List V}(h:V.Em N l=I)(B:N<=M):EM (Jq q) M l l:=
 EM.same (lM (N:=N) (λk _ Q=>by simp[Jq,Q]) l h) (SZ B l h).1
theorem Le.Gw {t t':List V}{g h:List O}(q:Nat)(hq:q=2\/G h<=q)(ht:EM (Jq q) (G h) t t')(h2 : ∃o o',g[q]?=J o/\h[2]?=J o'/\Wo (Jq q) (G h) o o')(hh : ∀i o',i≠2->h[i]?=J o'->∃o,g[i]?=J o/\Wo (Jq q) (G h) o o'):Le ⟨E,0⟩ ⟨t,g⟩ ⟨t',h⟩:=by
 refine Le.GS (Jq q) (λi j hi hj e=>?_) ht (λi o' ho=>?_);unfold Jq at e;by_cases Q:i=2;by_cases B:j=2;omega;rw[Awd Q,Awf B]at e;omega;by_cases B:j=2;rw[Awf Q,Awd B]at e;omega;rw[Awf Q,Awf B]at e;exact e;by_cases e:i=2;subst e;obtain⟨o,o2,S,z,h5⟩:=h2;rw[z]at ho;cases ho;exact⟨o,by simpa [Jq]using S,h5⟩;obtain⟨o,S,z⟩:=hh i o' e ho;exact⟨o,by simpa [Jq,e]using S,z⟩
def Kw (h:List O):Prop:=∀(i:Nat) (o:O),i≠2->h[i]?=J o->∃ty cs fr,o=.box ty cs fr/\V.Em (G h) cs=I
theorem oJ {q N M:Nat}{o:O}(h : ∃ty cs B,o=.box ty cs B/\V.Em N cs=I)(Q:N<=M):Wo (Jq q) M o o:=by
 obtain⟨ty,cs,B,rfl,h⟩:=h;exact⟨F,F,UW h Q⟩
theorem Kw.set {h:List O}(hs:Kw h){k:Nat}{cs:List V}{Q:Bool}(S:V.Em (G h) cs=I):Kw (h.set k (.box ty cs Q)):=by
 intro i o q B;rw[RD]at B;rw[GF];by_cases e:k=i;subst e;rw[Awd rfl]at B;split at B;cases B;exact⟨ty,cs,Q,F,S⟩;cases B;rw[Awf e]at B;exact hs i o q B
theorem Kw.push {h:List O}(hs:Kw h){cs:List V}{Q:Bool}(z:V.Em (G h) cs=I):Kw (h++[.box ty cs Q]):=by
 intro i o hi B;rw[Cp,List.length_singleton];rcases Nat.lt_trichotomy i (G h) with S|S|S
 rw[EJ S]at B;obtain⟨ty,cs,Q,rfl,q⟩:=hs i o hi B;exact⟨ty,cs,Q,F,(SZ (Nat.le_succ _) cs q).2⟩;subst S;rw[Gy (BN _)]at B;simp at B;subst B;exact⟨ty,cs,Q,F,(SZ (Nat.le_succ _) cs z).2⟩;rw[Gy Ux,M6 (by simp;omega)]at B;cases B
def il:Option Code->Code
 | some (.seq _ (.seq _ (.seq (.loop c) _)))=>c
 | some (.seq _ (.seq _ (.seq (.block _ (.loop c)) _)))=>c
 | some (.seq _ (.seq _ (.seq c _)))=>c
 | _=>.skip
def Gw (st:List V)(j:Nat):O:=.box 216 (st++Aq j .any) U
def dT (n:Nat):List V:=[.any,.ptr 0 0,.ptr 1 0,.own 2 0 n 1]++Aq 67 .any
noncomputable def P8:Code:=il (APJ).body
noncomputable def AE3:Code:=match P8 with
 | .seq _ (.block _ (.seq _ (.seq _ (.seq _ (.seq _ (.seq _ (.seq _ (.seq _ (.seq _ (.block _ (.loop c)))))))))))=>c
 | _=>.skip
theorem ez {α:Type}{l:List α}{v:α}(h:l[i]?=J v):l.set i v=l:=by
 apply List.ext_getElem?;intro j;rw[RD];by_cases e:i=j;subst e;have B:=(Br.1 h).1;simp only[Awg,B];exact h.symm;simp[e]
theorem AOo (n k off:Nat)(ty:TypeId)(cs O3:List V)(src:List Int)(h2:H[2]?=J (.box 216 O3 U))(S:H[k]?=J (.box ty cs U))(EG:k≠2)(hp:O3[n]?=J (.ptr k off))(hn:n<1000000)(hs:G src<=1000000)(Rk:cs[off+8]?=J (.c (.sl [])))(q:cs[off+10]?=J (.c (AV src)))(hK : ∀t,G t=71->t.take 4=[.any,.ptr 0 0,.ptr 1 0,.own 2 0 n 1]->LA ⟨E,0⟩ AF P8 K ⟨t,H.set k (.box ty (cs.set (off+8) (.Bg [])) U)⟩):
 AW ⟨E,0⟩ AF P8 (NH (LA ⟨E,0⟩ AF P8 K) K) ⟨dT (n+1),H⟩:=by
 have Q:k<G H:=(Br.1 S).1;have N9:2<G H:=(Br.1 h2).1;have hw:AZ.wrap (n:Int)=(n:Int):=Ac;have dD:off+8<G cs:=(Br.1 Rk).1;have zf:off+10<G cs:=(Br.1 q).1;have jv:H[k]'Q=.box ty cs false:=(Br.1 S).2;have zg:off+10+1<=G cs:=zf;have qx:off+8+1<=G cs:=dD;have KG:cs.set (off+10) (.c (AV src))=cs:=ez q;have xy:H.set k (.box ty cs U)=H:=ez S;have WT:(H.set k (.box ty (cs.set (off+8) (.Bg [])) U))[k]?=J (.box ty (cs.set (off+8) (.Bg [])) U):=by rw[IX Q]
 have yr:(cs.set (off+8) (.Bg []))[off+8]?=J (.Bg []):=by rw[IX dD]
 conv=>arg 3;unfold P8
 simp only[il,APJ,dT,BY,Cy,BK,BU];have z:(0:Int)<(n:Int)+1:=Ux;have kA:(n:Int)<(n:Int)+1:=Ux;refine go (cj5 @hw @h2 @hp @hn @z @kA) ?_;refine Og (.mk 4) @hw ?_;refine SW.OU (λv t=>t=E/\v=.own 2 0 n 1) (by simp[BQ]) ?_ ?_;intro S0 w0 x a w g B EC;exact⟨_,_,λ_ _ h=>(by cases h),⟨F,F⟩,AI4 (P:=AF) (n:=n) (len:=n+1) g rfl (by simp;exact⟨F,F⟩) (O4 B F) (O4 B F) Ux⟩;rintro v t ⟨rfl,rfl⟩;refine CY (.mk 1) trivial ?_;refine SW.nil ?_;refine go (cj2 @S @Rk @q) ?_;refine gc (cj4 @jv @Q @zg @KG @xy) (pO src hs) e9 ?_;refine go (cj2 @jv @Q @qx) ?_;refine Og (.mk 5) (cj @WT<|@yr) ?_;refine SW.OU (λv t=>t=E/\v=.c (.int .i64 0)) (by simp[BQ]) ?_ ?_;intro S0 w0 x a w g B EC;exact⟨_,_,λ_ _ h=>(by cases h),⟨F,F⟩,AU1 (P:=AF) g rfl (by simp;exact⟨F,F,F⟩) (by have:=O4 (v:=.Bg []) B (i:=49) F;simp only[CV]at this;obtain⟨_,_,h⟩:=this;exact h) (pj B F)⟩;rintro v t ⟨rfl,rfl⟩;refine SW.nil ?_;refine go (cj @WT<|@yr) ?_;with_reducible refine LA.loop ?_
 with_reducible refine LA.round ?_
 refine Ah ?_;exact hK _ rfl F
def TI (n m i k off:Nat):List V:=[.any,.ptr 0 0,.ptr 1 0,.own 2 0 (n+i) 1,.ptr k off]++Aq 51 .any++[.c (.int .i64 (m:Int)),.c (.int .i64 (i:Int))]++Aq 13 .any
def F0 (L m:Nat):List V:=(List.range m).map λi=>.ptr L (i*11)
theorem ABM (L m:Nat):F0 L (m+1)=F0 L m++[.ptr L (m*11)]:=by simp[F0,List.range_succ]
theorem AJ0 (L m:Nat):G (F0 L m)=m:=by simp[F0]
theorem ABL {L N:Nat}(m:Nat)(h:L<N)(Q:L≠2):V.Em N (F0 L m)=true:=by
 rw[fC];intro v B;simp only[F0,Da]at B;obtain⟨i,_,rfl⟩:=B;simp[V.sf,h,Q]
theorem AJ4 {G z:List O}{t:List V}{n m i k off L q:Nat}{st:List V}{B:List V}(hG:Kw G)(h2:2<G.length)(ju:k<G.length)(EG:k≠2)(qN:L<G.length)(Us:L≠2)(A0:V.Em G.length st=I)(hn:st.length=n)(hq:q=2\/G.length<=q)(DT:z[q]?=J (.box 216 (st++F0 L (i+1)++B) U))(hh : ∀a,a<G.length->a≠2->z[a]?=G[a]?)(ht:EM (Jq q) G.length t (TI n m (i+1) k off)):Le ⟨E,0⟩ ⟨t,z⟩ ⟨TI n m (i+1) k off,G.set 2 (Gw (st++F0 L (i+1)) B.length)⟩:=by
 have Q:(G.set 2 (Gw (st++F0 L (i+1)) B.length)).length=G.length:=GF ..;refine Le.Gw q (by rw[Q];exact hq) (by rw[Q];exact ht) ⟨_,_,DT,IX h2,?_⟩ (λa o' ha S=>?_);rw[Q];refine⟨F,F,?_⟩;refine EM.append ?_ (EM.any B);exact UW (N:=G.length) (sy.2 ⟨A0,ABL _ qN Us⟩) (BN _);rw[HF (λe=>ha e.symm)]at S;have FE:a<G.length:=(Br.1 S).1;exact⟨o',by rw[hh a FE ha];exact S,by rw[Q];exact oJ (hG a o' ha S) (BN _)⟩
theorem AYZ {α:Type}{l:List α}{n j:Nat}{x v:α}(h:G l=n):(l++Aq (j+1) x).set n v=l++[v]++Aq j x:=by
 subst h;rw[Vg _ _ (BN _),Nat.sub_self,BY,Ag];simp
theorem AOq (n k off L m j:Nat)(ty:TypeId)(cs st:List V)(h2:H[2]?=J (Gw st j))(A0:st.length=n)(hk:H[k]?=J (.box ty cs U))(EG:k≠2)(hc:cs[off+8]?=J (.own L 0 m 11))(hL:L<H.length)(Us:L≠2)(QI:Kw H)(VA:V.Em H.length st=I)(hb:n+m<1000000)(hK : ∀S,K (.exit 2) ⟨(TI n m m k off).set 58 (.c (.bool U)),H.set 2 (Gw (st++F0 L m) S)⟩):AW ⟨E,0⟩ AF (.loop AE3) K ⟨TI n m 0 k off,H⟩:=by
 have Ce:k<H.length:=(Br.1 hk).1;have N9:2<H.length:=(Br.1 h2).1;refine AW.loop (ι:={ p:Nat×Nat // p.1<=m }) (λp=>⟨TI n m p.1.1 k off,H.set 2 (Gw (st++F0 L p.1.1) p.1.2)⟩) (λp=>m - p.1.1) ⟨(0,j),CI _⟩ ?_ ?_;have e:H.set 2 (Gw (st++F0 L 0) j)=H:=by
  have:F0 L 0=[]:=F;rw[this,E5];exact ez h2
 simp only[e];exact Le.refl _;rintro ⟨⟨i,j⟩,hi⟩;simp only at hi ⊢;obtain⟨G,hG⟩:∃G,G=H.set 2 (Gw (st++F0 L i) j):=⟨_,rfl⟩
 have g2:G[2]?=J (Gw (st++F0 L i) j):=by rw[hG,IX N9]
 have gk:G[k]?=J (.box ty cs U):=by rw[hG,HF (λe=>EG e.symm)];exact hk
 have gl:G.length=H.length:=by rw[hG,GF]
 rw[<-hG];conv=>arg 3;unfold AE3
 simp only[P8,il,APJ,TI,BY,Cy,BK,BU];by_cases B1:i<m;have Dn:(i:Int)<(m:Int):=Ux;have hw:AZ.wrap ((i:Int)+1)=((i+1:Nat):Int):=by rw[Ac];simp
 with_reducible refine AW.seq ?_
 refine go @Dn ?_;refine Og (.mk 7) (cj2 @gk @hc @B1) ?_;refine SW.OU (λv t=>v=.own G.length 0 1 1/\t=J (G.length,.box 216 [.ptr L (i*11)] U)) (by simp[BQ]) ?_ ?_;intro S0 w0 x a w g ht EC;exact⟨_,_,λ_ _ h=>(by cases h;exact BN _),⟨F,F⟩,AIw (P:=AF) (Bq:=8) g rfl ZA (O4 ht (i:=66) F) rfl _ EC⟩;rintro v t ⟨rfl,rfl⟩;simp only[St.step,St.put,Bk,IY,Awh,Ai,Ag];have A5 : ∀X,H.set 2 X=G.set 2 X:=by intro X;rw[hG,aK]
 have jJ:2<G.length:=Ux;have A3:1<G.length:=Ux;have A2:0<G.length:=Ux;have ju:k<G.length:=Ux;have qN:L<G.length:=Ux;have A6:Kw G:=by rw[hG];intro a o Q ho;rw[HF (λe=>Q e.symm)]at ho;rw[GF];exact QI a o Q ho
 have A7:V.Em G.length st=true:=by rw[gl];exact VA
 obtain⟨B,jN⟩:∃B,B=G++[.box 216 [.ptr L (i*11)] U]:=⟨_,rfl⟩
 have xe:B[2]?=J (.box 216 (st++F0 L i++Aq j V.any) U):=by rw[jN,EJ jJ];exact g2
 have A9:B[G.length]?=J (.box 216 [.ptr L (i*11)] U):=by rw[jN,Gy (BN _)];simp
 have B2:B.length=G.length+1:=by rw[jN];simp
 have A1 : ∀a,a<G.length->B[a]?=G[a]?:=λa Q=>by rw[jN,EJ Q]
 have qt:(st++F0 L i).length=n+i:=by rw[Cp,A0,AJ0]
 rw[<-jN];refine SW.OU (λ(v:V) (t:Option (Nat×O))=>(n+i<(st++F0 L i++Aq j V.any).length/\v=.own 2 0 (n+i+1) 1/\t=J (2,.box 216 ((st++F0 L i++Aq j V.any).set (n+i) (.ptr L (i*11))) U))\/∃S,v=.own B.length 0 (n+i+1) 1/\t=J (B.length,.box 216 ((st++F0 L i++Aq j V.any).take (n+i)++ .ptr L (i*11)::Aq S V.any) U)) (by simp[BQ]) ?_ ?_;intro S0 w0 x a w g ht EC;exact AUx (P:=AF) (Bq:=8) g _ rfl ZA (O4 ht (i:=60) F) (O4 ht (i:=67) F) xe A9 rfl (by unfold maxLen;omega) Ux (by rw[Cp,qt];omega) EC (by show 2<=B.length;omega);rintro v t (⟨OG,rfl,rfl⟩|⟨S,rfl,rfl⟩);have hu:Bk B (J (2,.box 216 ((st++F0 L i++Aq j V.any).set (n+i) (.ptr L (i*11))) U))=B.set 2 (.box 216 ((st++F0 L i++Aq j V.any).set (n+i) (.ptr L (i*11))) U):=by simp only[Bk];rw[Awd Ux]
 obtain⟨G2,z⟩:∃G2,G2=B.set 2 (.box 216 ((st++F0 L i++Aq j V.any).set (n+i) (.ptr L (i*11))) U):=⟨_,rfl⟩
 simp only[St.step,St.put,hu,<-z,Ai,Ag];have hj : ∃jj,j=jj+1:=by rw[Cp,qt,H6]at OG;exact⟨j - 1,Ux⟩
 obtain⟨jj,rfl⟩:=hj;refine CY (.mk 1) trivial ?_;refine SW.nil ?_;refine go @hw ?_;refine⟨⟨(i+1,(Aq jj (V.any)).length),Ux⟩,by simp only;omega,?_⟩;simp only[A5];refine AJ4 (q:=2) A6 jJ ju EG qN Us A7 A0 (.inl F) ?_ ?_ ?_;rw[z,IX Ux,ABM,AYZ qt];simp;intro a Q jY;rw[z,HF (λe=>jY e.symm)];exact A1 a Q;simp[EM,Wk,V.GS,V.A8,TI,Jq,ju,EG,jJ,A2,A3];omega;have hu:Bk B (J (B.length,.box 216 ((st++F0 L i++Aq j V.any).take (n+i)++ .ptr L (i*11)::Aq S V.any) U))=B++[.box 216 ((st++F0 L i++Aq j V.any).take (n+i)++ .ptr L (i*11)::Aq S V.any) U]:=by simp only[Bk];rw[Awf Ux]
 obtain⟨G2,z⟩:∃G2,G2=B++[.box 216 ((st++F0 L i++Aq j V.any).take (n+i)++ .ptr L (i*11)::Aq S V.any) U]:=⟨_,rfl⟩
 obtain⟨q,hq⟩:∃q,q=B.length:=⟨_,rfl⟩
 simp only[St.step,St.put,hu,<-z,Ai,Ag];rw[<-hq];refine CY (.mk 1) trivial ?_;refine SW.nil ?_;refine go @hw ?_;refine⟨⟨(i+1,(Aq S (V.any)).length),Ux⟩,by simp only;omega,?_⟩;simp only[A5];refine AJ4 (q:=q) A6 jJ ju EG qN Us A7 A0 (.inr Ux) ?_ ?_ ?_;rw[z,hq,Gy (BN _),ABM,List.take_left' qt];simp;intro a Q jY;rw[z,EJ Ux];exact A1 a Q;simp[EM,Wk,V.GS,V.A8,TI,Jq,ju,EG,jJ,A2,A3];omega;have Dn : ¬(i:Int)<(m:Int):=Ux;have B0:i=m:=Ux;subst B0;refine go @Dn ?_;rw[hG];exact hK j
theorem AOp (n k off:Nat)(ty:TypeId)(cs:List V)(src:List Int)(AG:List (List C))(st:List V)(j:Nat)(A0:G st=n)(h2:H[2]?=J (Gw (st++[.ptr k off]) j))(hk:H[k]?=J (.box ty cs U))(EG:k≠2)(hn:n<1000000)(hs:G src<=1000000)(Rk:cs[off+8]?=J (.c (.sl AG)))(Rj:cs[off+10]?=J (.c (AV src)))(Jh:0<G AG)(HP:G AG<=1000000)(ml : ∀r∈AG,G r=11)(QI:Kw H)(VA:V.Em (G H) st=I)(hb:n+G AG<1000000)(hK : ∀j',LA ⟨E,0⟩ AF P8 K ⟨(TI n (G AG) (G AG) k off).set 58 (.c (.bool U)),(H.set k (O.box ty (cs.set (off+8) (.own (G H) 0 (G AG) 11)) U)++[O.box 56 (AG.flatten.map V.c) U]).set 2 (Gw (st++F0 (G H) (G AG)) j')⟩):
 AW ⟨E,0⟩ AF P8 (NH (LA ⟨E,0⟩ AF P8 K) K) ⟨dT (n+1),H⟩:=by
 have hp:(st++[V.ptr k off]++Aq j .any)[n]?=J (.ptr k off):=by rw[GX,Gy Ux,A0];simp
 obtain⟨O3,jh⟩:∃O3,O3=st++[V.ptr k off]++Aq j .any:=⟨_,rfl⟩
 unfold Gw at h2;rw[<-jh]at hp h2;have Q:k<G H:=(Br.1 hk).1;have N9:2<G H:=(Br.1 h2).1;have hw:AZ.wrap (n:Int)=(n:Int):=Ac;have dD:off+8<G cs:=(Br.1 Rk).1;have zf:off+10<G cs:=(Br.1 Rj).1;have jv:H[k]'Q=.box ty cs false:=(Br.1 hk).2;have zg:off+10+1<=G cs:=zf;have qx:off+8+1<=G cs:=dD;have KG:cs.set (off+10) (.c (AV src))=cs:=ez Rj;have xy:H.set k (.box ty cs U)=H:=ez hk;have WT:(H.set k (.box ty (cs.set (off+8) (.Bg [])) U))[k]?=J (.box ty (cs.set (off+8) (.Bg [])) U):=by rw[IX Q]
 have yr:(cs.set (off+8) (.Bg []))[off+8]?=J (.Bg []):=by rw[IX dD]
 conv=>arg 3;unfold P8
 simp only[il,APJ,dT,BY,Cy,BK,BU];have A6:(0:Int)<(n:Int)+1:=Ux;have kA:(n:Int)<(n:Int)+1:=Ux;refine go (cj5 @hw @h2 @hp @hn @A6 @kA) ?_;refine Og (.mk 4) @hw ?_;refine SW.OU (λv t=>t=E/\v=.own 2 0 n 1) (by simp[BQ]) ?_ ?_;intro S0 w0 x a w g ht EC;exact⟨_,_,λ_ _ h=>(by cases h),⟨F,F⟩,AI4 (P:=AF) (n:=n) (len:=n+1) g rfl (by simp;exact⟨F,F⟩) (O4 ht F) (O4 ht F) Ux⟩;rintro v t ⟨rfl,rfl⟩;refine CY (.mk 1) trivial ?_;refine SW.nil ?_;refine go (cj2 @hk @Rk @Rj) ?_;refine gc (cj4 @jv @Q @zg @KG @xy) (pO src hs) e9 ?_;have Rv:(0:Int)<(G AG:Int):=Ux;have zq:128*(G AG:Int)<=281474976710656:=Ux;have Wp:(G AG:Int)<=9223372036854775807:=Ux;refine go (cj4 @jv @Q @qx @Jh @Rv) ?_;refine Og (.mk 4) (cj @zq<|@Wp) ?_;have A1 : ∀a b:List O,(if k<G H+1 then a else b)=a:=λa b=>Awd Ux
 have Ir : ∀(o:O) (X:O),(H.set k o++[X])[k]?=J o:=λo X=>by rw[EJ (by simpa using Q),IX Q]
 have A2 : ∀(o z:O) (X:O),(H.set k o++[X]).set k z=H.set k z++[X]:=λo z X=>by rw[gC _ _ (by simpa using Q),aK]
 have Cu : ∀a b:V,(cs.set (off+8) a).set (off+8) b=cs.set (off+8) b:=λa b=>aK ..
 refine CY (.mk 3) (cj4 @A1 @Ir @A2 @Cu @qx) ?_;refine SW.nil ?_;obtain⟨Z,hZ⟩:∃Z:List V,Z=(Aq (G AG) [V.c (C.int AZ 0),V.c (C.str { data:=#[] }),V.c (C.int AZ 0),V.c (C.int AZ 0),V.c (C.int AZ 0),V.c (C.int AZ 0),V.c (C.int AZ 0),V.c (C.int AZ 0),V.Bg [],V.c (C.int AZ 0),V.Bg []]).flatten:=⟨_,rfl⟩
 rw[<-hZ];have G4:G Z=G AG*11:=by rw[hZ];simp[List.length_flatten]
 have NP:(cs.set (off+8) (.own (G H) 0 (G AG) 11))[off+8]?=J (.own (G H) 0 (G AG) 11):=by rw[IX dD]
 refine Ah ?_;refine Og (.mk 5) (cj @Ir<|@NP) ?_;obtain⟨S,qJ⟩:∃S,S=H.set k (O.box ty (cs.set (off+8) (.own (G H) 0 (G AG) 11)) U)++[O.box 56 Z U]:=⟨_,rfl⟩
 rw[<-qJ];have A3:S[G H]?=J (.box 56 Z U):=by rw[qJ,Gy ZA];simp
 have A7:G S=G H+1:=by rw[qJ];simp
 refine SW.OU (λv t=>v=.c (.int .i64 (G AG))/\t=J (G H,.box 56 (AG.flatten.map V.c) U)) (by simp[BQ]) ?_ ?_;intro S0 w0 x a w g ht EC;exact⟨_,_,λ_ _ h=>(by cases h;show G H<=G S;omega),⟨F,F⟩,AU2 (P:=AF) (Bq:=128) (es:=11) g rfl (by simp;exact rfl) (O4 ht (i:=49) F) (pj ht (i:=50) F) ml A3 G4⟩;rintro v t ⟨rfl,rfl⟩;have hu:Bk S (J (G H,.box 56 (AG.flatten.map V.c) U))=H.set k (O.box ty (cs.set (off+8) (.own (G H) 0 (G AG) 11)) U)++[O.box 56 (AG.flatten.map V.c) U]:=by
  simp only[Bk];rw[Awd Ux,qJ,Vg _ _ ZA];simp
 simp only[St.step,St.put,hu,Ai,Ag];refine SW.nil ?_;obtain⟨D,hD⟩:∃D,D=AG.flatten.map V.c:=⟨_,rfl⟩
 have A5:V.Em (G H) D=true:=by rw[hD];exact ABl _
 rw[<-hD]at hK ⊢;refine go (cj @Ir<|@NP) ?_;obtain⟨B,Uq⟩:∃B,B=H.set k (O.box ty (cs.set (off+8) (.own (G H) 0 (G AG) 11)) U)++[O.box 56 D U]:=⟨_,rfl⟩
 rw[<-Uq]at hK ⊢;have e4:B=(H++[O.box 56 D U]).set k (O.box ty (cs.set (off+8) (.own (G H) 0 (G AG) 11)) U):=by rw[Uq,gC _ _ Q]
 have l4:G B=G H+1:=by rw[Uq];simp
 obtain⟨_,_,_,Iw,Ym⟩:=QI k _ EG hk;cases Iw;have s4:Kw B:=by
  rw[e4];refine Kw.set (Kw.push QI A5) (AKo ?_ ?_);exact(SZ ZA cs Ym).2;simp[V.sf];omega
 have k4:B[k]?=J (.box ty (cs.set (off+8) (.own (G H) 0 (G AG) 11)) U):=by rw[Uq];exact Ir _ _
 have g4:B[2]?=J (.box 216 O3 U):=by rw[e4,HF EG,EJ N9];exact h2
 have lL:V.Em (G B) st=true:=(SZ Ux st VA).2;refine AW.le (s':=⟨TI n (G AG) 0 k off,B.set 2 (Gw st (j+1))⟩) ?_ ?_;refine Le.Gw 2 (.inl F) ?_ ⟨_,_,g4,IX Ux,?_⟩ (λa z ha q=>?_);rw[GF];simp[EM,Wk,V.GS,V.A8,TI,Jq,EG,l4];omega;rw[GF,jh,GX];exact⟨F,F,EM.append (UW lL (BN _)) (by have:=EM.any (ρ:=Jq 2) (N:=G B) ([V.ptr k off]++Aq j .any);simpa [Nat.add_comm]using this)⟩;rw[HF (λe=>ha e.symm)]at q;exact⟨z,q,by rw[GF];exact oJ (s4 a z ha q) (BN _)⟩;refine AOq (B.set 2 (Gw st (j+1))) n k off (G H) (G AG) (j+1) ty (cs.set (off+8) (.own (G H) 0 (G AG) 11)) st (IX Ux) A0 (by rw[HF (λe=>EG e.symm)];exact k4) EG NP (by rw[GF];omega) Ux ?_ (by rw[GF];exact lL) hb (λj'=>?_);intro a o ha q;rw[HF (λe=>ha e.symm)]at q;rw[GF];exact s4 a o ha q;rw[aK];with_reducible refine RN ?_
 refine Ah ?_;exact hK j'
structure Aa where
 By:Int
 Hd:Bool
def Aj (s:Aa):V:=.agg [.c (.int .i64 s.By),.c (.bool s.Hd)]
def Aa.ok (s:Aa):Bool:=decide (0<=s.By) && decide (s.By<=3)
theorem fI (s:Aa):AC AF 31 [Aj s] (.c (.bool s.ok)):=by
 obtain⟨l,c⟩:=s;unfold Aj;by_cases h:0<=l;have e:Aa.ok ⟨l,c⟩=decide (l<=3):=by unfold Aa.ok;rw[Awk h,Cd]
 refine en vW ntmps31 ?_;refine go @h ?_;exact At (cj results31<| @e);have e:Aa.ok ⟨l,c⟩=false:=by unfold Aa.ok;rw[Awl h,D4]
 refine en vW ntmps31 ?_;refine go @h ?_;exact At (cj results31<| @e)
theorem AAA (s:Aa):AC AF 19 [Aj s] (.c (.bool s.ok)):=by
 obtain⟨l,c⟩:=s;unfold Aj;by_cases h:0<=l;have e:Aa.ok ⟨l,c⟩=decide (l<=3):=by unfold Aa.ok;rw[Awk h,Cd]
 refine en AEJ ntmps19 ?_;refine go @h ?_;exact At (cj results19<| @e);have e:Aa.ok ⟨l,c⟩=false:=by unfold Aa.ok;rw[Awl h,D4]
 refine en AEJ ntmps19 ?_;refine go @h ?_;exact At (cj results19<| @e)
def BS (p:Params)(s:Aa):Int:=if s.ok=U then 0 else if s.By=2 then p.script else if s.By=3 then p.Qr else 100
def lV (P:Program)(t:TypeId):Bool:=
 match P.underlying t with
 | some (.pointer _)=>I
 | _=>U
end Go.Proofs.YtegconioojpgmaaGreat
