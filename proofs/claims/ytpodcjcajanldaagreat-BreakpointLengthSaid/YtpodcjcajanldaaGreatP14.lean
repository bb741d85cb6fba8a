/- Part of the proof of breakpointLength.proved. Conditions: none. (Joined and shortened by a program.) -/
import Derived.Test.YtpodcjcajanldaaGreatP13
set_option linter.unusedVariables false
set_option linter.unusedSimpArgs false
set_option maxRecDepth 100000
set_option maxHeartbeats 16000000
namespace Go.Proofs.YtpodcjcajanldaaGreat
open Go.RowKit
def AA.at_ (b:AA)(x y:Int):AA:={ b with x:=x,y:=y }
def Dw (w h d:Int):AA:=⟨2,⟨#[]⟩,0,w,h,d,0,0,[],0,[]⟩
def CB (w h d:Int)(kids:List AA):AA:=⟨3,⟨#[]⟩,0,w,h,d,0,0,kids,0,[]⟩
section
variable {P:Program} {m:Mo}
def GV (m:Mo)(P:Program)(c:Code)(K:Exit->St->Prop)(s:St):Prop:=
 ∀(n:Nat) (S0:Ba) (w0:Bs) (x:Cx) (a:Act) (w:World),w0.n0<=m.n0->2<=n->(∃lp,m.rd=some lp/\w0.F lp/\∃r,w0.w.heap[lp]?=some (.loop r))->CT S0 w0 x s a w->c.wpIn (fz m) n P (fun e a w=>∃x s,CT S0 w0 x s a w/\K e s) a w
theorem GV.of {c:Code}{K:Exit->St->Prop}{s:St}(h:AW m P c K s):GV m P c K s:=fun n S0 w0 x a w hm _ _ hA=>h n S0 w0 x a w hm hA
theorem GV.seq {c d:Code}{K:Exit->St->Prop}{s:St}(h:GV m P c (LM (GV m P d K) K) s):GV m P (.seq c d) K s:=fun n S0 w0 x a w hm hn hl hA=>wpIn_seq (wpIn_mono (h n S0 w0 x a w hm hn hl hA) fun e a w ⟨x,s,h1,h2⟩=>by
 cases e with
 | normal=>exact h2 n S0 w0 x a w hm hn hl h1
 | _=>exact⟨x,s,h1,h2⟩)
theorem GV.le {c:Code}{K:Exit->St->Prop}{s s':St}(hl:Le m s s')(h:GV m P c K s'):GV m P c K s:=fun n S0 w0 x a w hm hn hl' hA=>let ⟨x',h'⟩:=hl S0 w0 x a w hm hA;h n S0 w0 x' a w hm hn hl' h'
theorem GV.block {id:Nat}{c:Code}{K:Exit->St->Prop}{s:St}(h:GV m P c (Pn id K) s):GV m P (.block id c) K s:=fun n S0 w0 x a w hm hn hl hA=>wpIn_block (wpIn_mono (h n S0 w0 x a w hm hn hl hA) fun e a w ⟨x,s,h1,h2⟩=>by
 cases e with
 | exit i =>
   simp only[Pn,Exit.inBlock]at h2 ⊢;split
   . rename_i e;rw[if_pos e]at h2;exact⟨x,s,h1,h2⟩
   . rename_i e;rw[if_neg e]at h2;exact⟨x,s,h1,h2⟩
 | _=>exact⟨x,s,h1,h2⟩)
theorem AW.ASD {α:Type}{n1:Nat}{K:Exit->St->Prop}{s:St}{g:Operand}{p d:Tmp}{id:Nat}{o:Oper}{body:Code}{gf:FuncId}{caps UD:List V}{fn:Func}(ho:o.op=.assign (.tmp p))(TC:o.dst=some d)(hgd:o.guard=none)(hg:ev s.t g=.fn gf caps)(hp:V.AO caps=some UD)(EP:P.funcs[gf]?=some fn)(MC:fn.body.isSome=true)(Ht:(fn.name == "runtime.NumGoroutine")=false)(enc:α->Value)(Hm:α->V)(UZ : ∀x' W y,CV x' W (Hm y) (enc y))(Sx:List α->Prop)(N:Nat)(eN:SS P gf UD (fun y=>#[enc y]) Sx N)(hf:List α->List O)(h0:s.h=hf [])(n0:Nat)(hlen : ∀pre,(hf pre).length=n0)(hpl:p<s.t.length)(ME : ∀(lp:Nat) (pre:List α) (y:α),pre.length<N->GV ⟨some lp,n0⟩ P body (fun e s'=>e=.normal/\∃t',Le ⟨some lp,n0⟩ s' ⟨t',hf (pre++[y])⟩) ⟨(s.t.set p (Hm y)).set d (Hm y),hf pre⟩)(hdone : ∀xs,Sx xs->K .normal ⟨s.t,hf xs⟩)(Ou : ∀pre,((hf pre).all O.mM)=true:=by intro _;rfl):AW ⟨none,n1⟩ P (.rangeFunc g #[p] (.region id #[o] false) body) K s:=fun n S0 w0 x a w hm hA=>by
 have F7:=EH hA.tm g;rw[hg]at F7;simp only[CV]at F7;obtain⟨lb,F7,EZ⟩:=F7;have hc':=PJ _ _ _ hp EZ;have hb:fn.body≠none:=by intro e;rw[e]at MC;cases MC
 have hn:fn.name≠ "runtime.NumGoroutine":=by simpa using Ht
 have eg : ∀args w,(callFunc gf args).run P w=.ok (.enter gf args) w:=fun args w=>by simp[callFunc,program,Sem.run,EP,hn,hb]
 have hsize : ∀ {D:Nat},w.heap.size<=D->¬w0.F D:=fun h=>hA.good.fresh h
 have WM : ∀Ds:List Nat,a.defers=Ds.map (fun D=>{ target:=.collected D,args:=#[] })->∀D∈Ds,D<w.heap.size:=by
  intro Ds e D hD;obtain⟨yh,f1,f2,f3⟩:=hA.df;have hm:({ target:=.collected D,args:=#[] }:Deferred)∈a.defers:=by rw[e];exact List.mem_map.2 ⟨D,hD,rfl⟩
  rw[f1]at hm;obtain⟨D',J9,e'⟩:=List.mem_map.1 hm;have:D'=D:=by injection e' with e1 e2;injection e1
  subst this;exact(Array.getElem?_eq_some_iff.1 (f3 D' J9).2).1
 have hs:s=⟨s.t,hf []⟩:=by rw[<-h0]
 refine wpIn_wide.2 ((wpIn_wide (n:=5)).1 (wpIn_rangeFunc_ownH (F:=Fence.wide) (n:=5) (α:=α) (ps:=#[p]) (encs:=fun y=>#[enc y]) (Kp:=JX x.S) (S:=Sx) (Sp:=fun _=>True) (N:=N) (w0:=w) rfl (by omega) F7 trivial eg (eN _ x.S w lb hA.good.ex hc') (fun h k=>h.trans k) (fun W l o o' _ h hc _=>JX.put W l o o' h hc) (Below.refl _ _) (fun _=>rfl)
  (fun pre W=>∃x',CT S0 w0 x' ⟨s.t,hf pre⟩ a W/\Ar x.S x'.S w W) (fun _ _ _=>False) ?_ (fun _ _ _ _ _ h=>h.elim) ⟨x,by rw[<-hs];exact hA,Ar.refl _ _⟩
  (fun y a' _=>a'={ tmps:=((#[p].zip #[enc y]).foldl (fun t (p,v)=>t.setIfInBounds p v) a.tmps).setIfInBounds d (((#[p].zip #[enc y]).foldl (fun t (p,v)=>t.setIfInBounds p v) a.tmps).getD p undef),defers:=[] }) (fun _ _ _ _ _ _ h _ _=>h) ?_ ?_ ?_ (fun _ _ _ _ _ _ h _=>h.elim)))
 . rintro pre W W' row ⟨x',BR,DF⟩ hgr hr;obtain⟨g',he⟩:=BR.good.sK (ZS (Ou pre)) hgr fun r e=>⟨hsize (hr r e).1,(hr r e).2⟩
   refine⟨x',⟨g',AL.mono he _ _ BR.tm,?_⟩,DF.trans he.ar⟩;obtain⟨Ds,e1,e2,e3⟩:=BR.df;refine⟨Ds,e1,e2,fun D hD=>⟨(e3 D hD).1,?_⟩⟩;have h2:=(e3 D hD).2;rw[hgr.block D (Array.getElem?_eq_some_iff.1 h2).1 (fun e=>by have:=(hr D e.symm).1;have:=WM Ds e1 D hD;omega)];exact h2
 . intro l pre y W K hI hK;exact ql ho TC hgd (hK _ W (KeepsFrom.refl _ _) (JX.refl _ _) hI rfl)
 . rintro l pre y a' W hl lX ⟨x',BR,DF⟩ rfl hN;have hdl : ∀k,x'.dom k->k<n0:=fun k hk=>by
    obtain⟨o,ho⟩:=BR.good.dom k hk;have:=(List.getElem?_eq_some_iff.1 ho).1;rw[<-hlen pre];exact this
   have DG:AL x' W ((s.t.set p (Hm y)).set d (Hm y)) (((#[p].zip #[enc y]).foldl (fun t (p,v)=>t.setIfInBounds p v) a.tmps).setIfInBounds d (((#[p].zip #[enc y]).foldl (fun t (p,v)=>t.setIfInBounds p v) a.tmps).getD p undef)).toList:=by
    have e1:((#[p].zip #[enc y]).foldl (fun (t:Array Value) (q:Tmp×Value)=>t.setIfInBounds q.1 q.2) a.tmps)=a.tmps.setIfInBounds p (enc y):=by simp
    have hl:a.tmps.size=s.t.length:=by have:=BR.tm.len;simpa using this
    have e2:(a.tmps.setIfInBounds p (enc y)).getD p undef=enc y:=by
     rw[Array.getD_eq_getD_getElem?,Array.getElem?_setIfInBounds_self_of_lt (by rw[hl];exact hpl)];rfl
    rw[e1,e2];simp only[Array.toList_setIfInBounds];exact(BR.tm.set p (UZ _ _ _)).set d (UZ _ _ _)
   have Gv:CT x'.S (w0.fa W BR.good.keep.size x' n0 hdl) x' ⟨(s.t.set p (Hm y)).set d (Hm y),hf pre⟩ { tmps:=((#[p].zip #[enc y]).foldl (fun t (p,v)=>t.setIfInBounds p v) a.tmps).setIfInBounds d (((#[p].zip #[enc y]).foldl (fun t (p,v)=>t.setIfInBounds p v) a.tmps).getD p undef),defers:=[] } W:=⟨BR.good.vv (ZS (Ou pre)) n0 hdl,DG,Marks.nil _ _⟩
   refine wpIn_mono (ME l pre y hN _ _ _ _ _ _ (Nat.le_refl _) (by omega) ⟨l,rfl,?_,lX⟩ Gv) fun e y8 ba eC=>?_
   . obtain⟨r,hr⟩:=lX;exact .inr ⟨_,hr,rfl⟩
   obtain⟨x2,s2,Hp,rfl,t',hle⟩:=eC;obtain⟨x3,Kl⟩:=hle _ _ _ _ _ (Nat.le_refl _) Hp;obtain⟨g3,hnc⟩:=BR.good.wx Kl.good;have IH:Ext x' x3 W ba:=Kl.good.ext;exact⟨⟨hnc.size,fun k o _ hk ho=>hnc.same k o hk ho⟩,⟨hnc.size,fun _ _ h=>h,fun b j v h hc=>IH.ar.cell b j v (DF.sub b j h) hc⟩,x3,⟨g3,AL.mono IH _ _ BR.tm,BR.df.mono hnc.nc⟩,DF.trans IH.ar⟩
 . rintro D xs W hD hS ⟨x',BR,DF⟩ tG;obtain⟨Ds,e1,e2,e3⟩:=BR.df;refine⟨x',⟨s.t,hf xs⟩,⟨BR.good,BR.tm,D::Ds,by simp[e1],List.nodup_cons.2 ⟨fun h=>by have:=WM Ds e1 D h;omega,e2⟩,fun D' J9=>?_⟩,hdone xs hS⟩;rcases List.mem_cons.1 J9 with rfl|h
   . exact⟨hsize hD,tG⟩
   . exact e3 D' h
theorem GV.range {α:Type}{l0 n1:Nat}{K:Exit->St->Prop}{s:St}{g:Operand}{p d:Tmp}{id:Nat}{o:Oper}{body:Code}{gf:FuncId}{caps UD:List V}{fn:Func}(ho:o.op=.assign (.tmp p))(TC:o.dst=some d)(hgd:o.guard=none)(hg:ev s.t g=.fn gf caps)(hp:V.AO caps=some UD)(EP:P.funcs[gf]?=some fn)(MC:fn.body.isSome=true)(Ht:(fn.name == "runtime.NumGoroutine")=false)(enc:α->Value)(Hm:α->V)(UZ : ∀x' W y,CV x' W (Hm y) (enc y))(Sx:List α->Prop)(N:Nat)(eN:SS P gf UD (fun y=>#[enc y]) Sx N)(hf:List α->List O)(h0:s.h=hf [])(n0:Nat)(hlen : ∀pre,(hf pre).length=n0)(hpl:p<s.t.length)(ME : ∀(lp:Nat) (pre:List α) (y:α),pre.length<N->AW ⟨some lp,n0⟩ P body (fun e s'=>e=.normal/\∃t',Le ⟨some lp,n0⟩ s' ⟨t',hf (pre++[y])⟩) ⟨(s.t.set p (Hm y)).set d (Hm y),hf pre⟩)(hdone : ∀xs,Sx xs->K .normal ⟨s.t,hf xs⟩)(Ou : ∀pre,((hf pre).all O.mM)=true:=by intro _;rfl):GV ⟨some l0,n1⟩ P (.rangeFunc g #[p] (.region id #[o] false) body) K s:=fun n S0 w0 x a w hm KD Am hA=>by
 obtain⟨lp0,e0,hF0,r0,FT⟩:=Am;cases e0;have hL0:w.heap[l0]?=some (.loop r0):=(hA.good.keep.block l0 (Array.getElem?_eq_some_iff.1 FT).1 fun hn=>hn hF0).trans FT;have F7:=EH hA.tm g;rw[hg]at F7;simp only[CV]at F7;obtain⟨lb,F7,EZ⟩:=F7;have hc':=PJ _ _ _ hp EZ;have hb:fn.body≠none:=by intro e;rw[e]at MC;cases MC
 have hn:fn.name≠ "runtime.NumGoroutine":=by simpa using Ht
 have eg : ∀args w,(callFunc gf args).run P w=.ok (.enter gf args) w:=fun args w=>by simp[callFunc,program,Sem.run,EP,hn,hb]
 have hsize : ∀ {D:Nat},w.heap.size<=D->¬w0.F D:=fun h=>hA.good.fresh h
 have WM : ∀Ds:List Nat,a.defers=Ds.map (fun D=>{ target:=.collected D,args:=#[] })->∀D∈Ds,D<w.heap.size:=by
  intro Ds e D hD;obtain⟨yh,f1,f2,f3⟩:=hA.df;have hm:({ target:=.collected D,args:=#[] }:Deferred)∈a.defers:=by rw[e];exact List.mem_map.2 ⟨D,hD,rfl⟩
  rw[f1]at hm;obtain⟨D',J9,e'⟩:=List.mem_map.1 hm;have:D'=D:=by injection e' with e1 e2;injection e1
  subst this;exact(Array.getElem?_eq_some_iff.1 (f3 D' J9).2).1
 have hs:s=⟨s.t,hf []⟩:=by rw[<-h0]
 refine wpIn_rangeFunc_ownN (F:=Fence.wide.inRound l0) (n:=n) (α:=α) (ps:=#[p]) (encs:=fun y=>#[enc y]) (Kp:=JX x.S) (S:=Sx) (Sp:=fun _=>True) (N:=N) (w0:=w) rfl hL0 (by omega) F7 trivial eg ((eN _ x.S w lb hA.good.ex hc').inRound l0) (fun h k=>h.trans k) (fun W l o o' _ h hc _=>JX.put W l o o' h hc) (Below.refl _ _) (fun _=>rfl)
  (fun pre W=>∃x',CT S0 w0 x' ⟨s.t,hf pre⟩ a W/\Ar x.S x'.S w W) (fun _ _ _=>False) ?_ (fun _ _ _ _ _ h=>h.elim) ⟨x,by rw[<-hs];exact hA,Ar.refl _ _⟩
  (fun y a' _=>a'={ tmps:=((#[p].zip #[enc y]).foldl (fun t (p,v)=>t.setIfInBounds p v) a.tmps).setIfInBounds d (((#[p].zip #[enc y]).foldl (fun t (p,v)=>t.setIfInBounds p v) a.tmps).getD p undef),defers:=[] }) (fun _ _ _ _ _ _ h _ _=>h) ?_ ?_ ?_ (fun _ _ _ _ h _=>h.elim)
 . rintro pre W W' row ⟨x',BR,DF⟩ hgr hr;obtain⟨g',he⟩:=BR.good.sK (ZS (Ou pre)) hgr fun r e=>⟨hsize (hr r e).1,(hr r e).2⟩
   refine⟨x',⟨g',AL.mono he _ _ BR.tm,?_⟩,DF.trans he.ar⟩;obtain⟨Ds,e1,e2,e3⟩:=BR.df;refine⟨Ds,e1,e2,fun D hD=>⟨(e3 D hD).1,?_⟩⟩;have h2:=(e3 D hD).2;rw[hgr.block D (Array.getElem?_eq_some_iff.1 h2).1 (fun e=>by have:=(hr D e.symm).1;have:=WM Ds e1 D hD;omega)];exact h2
 . intro l pre y W K hI hK;exact ql ho TC hgd (hK _ W (KeepsFrom.refl _ _) (JX.refl _ _) hI rfl)
 . rintro l pre y a' W hl lX ⟨x',BR,DF⟩ rfl hN;have hdl : ∀k,x'.dom k->k<n0:=fun k hk=>by
    obtain⟨o,ho⟩:=BR.good.dom k hk;have:=(List.getElem?_eq_some_iff.1 ho).1;rw[<-hlen pre];exact this
   have DG:AL x' W ((s.t.set p (Hm y)).set d (Hm y)) (((#[p].zip #[enc y]).foldl (fun t (p,v)=>t.setIfInBounds p v) a.tmps).setIfInBounds d (((#[p].zip #[enc y]).foldl (fun t (p,v)=>t.setIfInBounds p v) a.tmps).getD p undef)).toList:=by
    have e1:((#[p].zip #[enc y]).foldl (fun (t:Array Value) (q:Tmp×Value)=>t.setIfInBounds q.1 q.2) a.tmps)=a.tmps.setIfInBounds p (enc y):=by simp
    have hl:a.tmps.size=s.t.length:=by have:=BR.tm.len;simpa using this
    have e2:(a.tmps.setIfInBounds p (enc y)).getD p undef=enc y:=by
     rw[Array.getD_eq_getD_getElem?,Array.getElem?_setIfInBounds_self_of_lt (by rw[hl];exact hpl)];rfl
    rw[e1,e2];simp only[Array.toList_setIfInBounds];exact(BR.tm.set p (UZ _ _ _)).set d (UZ _ _ _)
   have Gv:CT x'.S (w0.fa W BR.good.keep.size x' n0 hdl) x' ⟨(s.t.set p (Hm y)).set d (Hm y),hf pre⟩ { tmps:=((#[p].zip #[enc y]).foldl (fun t (p,v)=>t.setIfInBounds p v) a.tmps).setIfInBounds d (((#[p].zip #[enc y]).foldl (fun t (p,v)=>t.setIfInBounds p v) a.tmps).getD p undef),defers:=[] } W:=⟨BR.good.vv (ZS (Ou pre)) n0 hdl,DG,Marks.nil _ _⟩
   refine wpIn_mono (ME l pre y hN _ _ _ _ _ _ (Nat.le_refl _) Gv) fun e y8 ba eC=>?_
   obtain⟨x2,s2,Hp,rfl,t',hle⟩:=eC;obtain⟨x3,Kl⟩:=hle _ _ _ _ _ (Nat.le_refl _) Hp;obtain⟨g3,hnc⟩:=BR.good.wx Kl.good;have IH:Ext x' x3 W ba:=Kl.good.ext;exact⟨⟨hnc.size,fun k o _ hk ho=>hnc.same k o hk ho⟩,⟨hnc.size,fun _ _ h=>h,fun b j v h hc=>IH.ar.cell b j v (DF.sub b j h) hc⟩,x3,⟨g3,AL.mono IH _ _ BR.tm,BR.df.mono hnc.nc⟩,DF.trans IH.ar⟩
 . rintro xs W hS ⟨x',BR,DF⟩;exact⟨x',⟨s.t,hf xs⟩,BR,hdone xs hS⟩
end
end Go.Proofs.YtpodcjcajanldaaGreat
