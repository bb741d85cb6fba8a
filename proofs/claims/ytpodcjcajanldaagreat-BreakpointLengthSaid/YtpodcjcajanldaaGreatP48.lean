/- Part of the proof of breakpointLength.proved. Conditions: none. (Joined and shortened by a program.) -/
import Derived.Test.YtpodcjcajanldaaGreatP30
set_option linter.unusedVariables false
set_option linter.unusedSimpArgs false
set_option maxRecDepth 100000
set_option maxHeartbeats 16000000
open List renaming getElem?_take→Jv,length_cons→BQ,append_assoc→EW,cons_append→Bg,take_succ_cons→E9,nil_append→Bh,mem_map→DC,length_nil→B6,replicate_succ→Ao,replicate_zero→C8,getD_eq_getElem?_getD→G5,getElem?_eq_getElem→BP,set_cons_zero→BC,set_cons_succ→Az
open Go.Instr renaming sureAddr→Qw,storeAt→xg
open Array renaming length_toList→Ep,getElem?_eq_some_iff→Dy,toList_inj→Gk,getElem?_setIfInBounds_self_of_lt→xV
open Go.Fence renaming wide→EF
open Go.Region renaming wanted→DV
open Go.Act renaming eval→NN
open Go.Oper renaming upon→iG
open Nat renaming le_refl→BW,le_trans→Tn
open Go.World renaming alloc_heap_new→ACF,putObj_heap_same→ABr,putObj_heap_other→qG
open Go.Proofs.Tryz renaming prog→AD
namespace Go.Proofs.YtpodcjcajanldaaGreat
open Go.RowKit
section
variable {P:Program} {S0:Ba} {w0:Bs} {x:Cx} {w:World} {H:Heap} {a:Act} {o:Oper} {v:V}
theorem ACO (g:Good S0 w0 x w H){t:TypeId}{y:Operand}(ho:o.op=.call ⟨.builtin .len,#[y],#[t]⟩)(hs:LG P t=true){k es:Nat}{rows:List (List C)}(hy:CV x w (.hot k es rows) (a.eval y))(hl:rows.length+1<=maxLen):Bm P o a S0 w0 x w H (.c (.int .i64 ((rows.length+1:Nat):Int))) none:=by
 simp only[CV]at hy;obtain⟨_,_,_,_,A,cap,hy,_⟩:=hy;obtain⟨el,hu⟩:=AHA hs;refine Bm.pure g (u:=_) (by simp[execOp,ho,resolve,invoke,builtin,hy,Builtin.len_,run_underlying hu,goInt];rfl) ?_;simp only[CV,Ap];exact⟨by simp,Qs hl⟩
theorem ABs (g:Good S0 w0 x w H){s:TypeId}{y:Operand}{f:Nat}(ho:o.op=.fieldAddr s y f){off n:Nat}{ag:Bool}(ht:CE P s f=some (off,n,ag))(hn:n≠0){k m pos:Nat}(hy:CV x w (.hp k m pos) (a.eval y)){ty:TypeId}{es:Nat}{cs:List V}(hH:H k=some (.hot ty es m cs)):Bm P o a S0 w0 x w H (.hp k m (pos+off)) none:=by
 obtain⟨_,_,_,k3,_⟩:=g.ok k _ hH;simp only[CV]at hy;obtain⟨d1,d2,d3,A,hy,hA⟩:=hy;have hA:=hA k3.symm;subst hA;refine Bm.pure g (u:=_) (by simp[execOp,ho,hy,AF2 ht hn];rfl) ?_;simp only[CV];exact⟨d1,d2,d3,_,rfl,fun _=>rfl⟩
theorem ACT (g:Good S0 w0 x w H){t:TypeId}{y:Operand}(ho:o.op=.load t y){q:Bool×Nat}(hq:Ct P t=some q){k n es off:Nat}(hy:CV x w (.hp k n ((n - 1)*es+off)) (a.eval y)){ty:TypeId}{cs:List V}(hH:H k=some (.hot ty es n cs))(h:AU q cs off=some v):Bm P o a S0 w0 x w H v none:=by
 obtain⟨hd,Au⟩:=g.ok k _ hH;obtain⟨k1,k2,k3,k4,k5,vs,hb,hn,hcap,hcs⟩:=Au;simp only[CV]at hy;obtain⟨_,_,_,A,hy,hA⟩:=hy;have hA:=hA k3.symm;subst hA;obtain⟨u,hr,hv⟩:=mF (x:=x) (w:=w) (b:=(x.loc k).b) (o:=(n - 1)*es) hq (fun j v hj=>by
  obtain⟨u,h1,h2⟩:=hcs.get j v hj;refine⟨u,?_,h2⟩;rw[cell_of_row w _ _ vs ty (0,0) hb];rw[Jv]at h1;split at h1
  . rw[List.getElem?_drop]at h1;simpa using h1
  . cases h1) h
 refine Bm.pure g (u:=u) ?_ hv;simp[execOp,ho,Instr.loadAt,hy,Qw,hr]
theorem ACV (g:Good S0 w0 x w H){e:Operand->V}{t:TypeId}{y z:Operand}(ho:o.op=.store t y z){ag:Bool}(hq:Ct P t=some (ag,1)){k n pos es:Nat}(hy:CV x w (.hp k n pos) (a.eval y))(hz:CV x w (e z) (a.eval z)){ty:TypeId}{c:V}{cs:List V}(hH:H k=some (.hot ty es n (c::cs)))(h1:(e z).flat=true)(h2:(e z).cells=[e z])(h4:pos=(n - 1)*es):Bm P o a S0 w0 x w H .any (some (k,.hot ty es n (e z::cs))):=by
 obtain⟨hd,Au⟩:=g.ok k _ hH;obtain⟨k1,k2,k3,k4,k5,vs,hb,hn,hcap,hcs⟩:=Au;simp only[CV]at hy;obtain⟨_,_,_,A,hy,hA⟩:=hy;have hA:=hA k3.symm;subst hA;obtain⟨c1,c2⟩:=hz.cells h1;rw[h2]at c1;obtain⟨_,hs,_⟩:=VT (w:=w) (P:=P) (ag:=ag) (n:=1) hq;have TG:(a.eval z).cells.size=1:=by have:=c1.len;simpa using this
 simp only[BQ]at k5;have hmul:n*es=(n - 1)*es+es:=by
  obtain⟨m,rfl⟩:∃m,n=m+1:=⟨n - 1,by omega⟩
  rw[Nat.add_mul,Nat.add_sub_cancel];omega
 have hfit:pos+es<=vs.size:=by omega
 have hr:=run_storeCells_at (P:=P) (t:=ty) (off:=pos) (a.eval z).cells.toList 0 w vs hb (by simp;omega) c2;have Eu:=kc (a.eval z).cells.toList 0 pos vs (by simp;omega);generalize eS:((a.eval z).cells.toList.zipIdx 0).foldl (fun (c:Array Value) (p:Value×Nat)=>c.setIfInBounds (pos+p.2) p.1) vs=CQ at hr Eu;simp only[Nat.add_zero,Ep,TG]at Eu;have hsz':CQ.size=vs.size:=by
  have:=congrArg List.length Eu;simp only[Ep,List.length_append,List.length_take,List.length_drop,TG]at this;omega
 have hblk:(w.setRow (x.loc k).b CQ).heap[(x.loc k).b]?=some (.cells CQ ty (0,0)):=setRow_heap w _ vs CQ ty (0,0) hb;have ar:Ar x.S x.S w (w.setRow (x.loc k).b CQ):=by
  refine⟨fun _ _ h=>h,fun b j v hS hc=>?_⟩;by_cases Il:b=(x.loc k).b
  . subst Il;rw[cell_of_row w _ j vs ty (0,0) hb]at hc;rw[cell_of_row _ _ j _ ty (0,0) hblk];have hj:j<vs.size:=(Dy.1 hc).1;have hjn:j<(n - 1)*es:=by
     rcases Nat.lt_or_ge j ((n - 1)*es)with h|h
     . exact h
     . exact absurd hS (g.EI k _ j hH ⟨h,by omega⟩)
    have:CQ.toList[j]?=vs.toList[j]?:=by
     rw[Eu,EW,List.getElem?_append_left (by simp;omega),Jv,if_pos (by omega)]
    have h2:CQ[j]?=vs[j]?:=by simpa using this
    rw[h2];exact hc
  . rw[World.cell?_of_block (w:=w) (a:=⟨b,j,none⟩) (setRow_other w _ b _ Il)];exact hc
 have he:Ext x x w (w.setRow (x.loc k).b CQ):=⟨ar,fun _ h=>h,fun _ _=>Es.refl _⟩
 have Hs:AL x w (e z::cs) ((CQ.toList.drop ((n - 1)*es)).take es):=by
  have e1:(vs.toList.take pos).length=(n - 1)*es:=by simp;omega
  rw[Eu,EW,List.drop_left' e1];obtain⟨m,rfl⟩:∃m,es=m+1:=⟨es - 1,by omega⟩
  obtain⟨u,hu⟩:∃u,(a.eval z).cells.toList=[u]:=List.length_eq_one_iff.1 (by simpa using TG);rw[hu]at c1 ⊢;simp only[AL]at c1 hcs ⊢;obtain⟨u',us',e2,h3,_⟩:=c1;obtain⟨u2,us2,e3,_,h5⟩:=hcs;refine⟨u,_,by rw[Bg,E9,Bh],by cases e2;exact h3,?_⟩;have e4:us2=(vs.toList.drop (pos+1)).take m:=by
   have:(vs.toList.drop ((n - 1)*(m+1))).take (m+1)=u2::us2:=e3;cases hd:vs.toList.drop ((n - 1)*(m+1))with
   | nil=>rw[hd]at this;simp at this
   | cons v r =>
     rw[hd,E9]at this;rw[h4,<-List.tail_drop,hd];exact(List.cons.inj this).2.symm
  rw[<-e4];exact h5
 have g':=g.IN k (.hot ty es n (e z::cs)) he ⟨rfl,rfl,rfl,by simp,fun i _ hn=>setRow_other w _ i _ (fun e=>hn ⟨hd,k2,e.symm⟩)⟩ (fun i=>⟨.inl,fun h=>h.elim id (fun e=>e ▸ hd)⟩) (fun _ _=>rfl) (fun _=>.inl ⟨hd,k2,rfl⟩)
  ⟨k1,k2,k3,k4,by simpa using k5,CQ,hblk,by rw[hsz',hn],by rw[hsz'];exact hcap,AL.mono he _ _ Hs⟩ (fun b j h=>.inl h) (fun j hx=>g.EI k _ j hH hx)
 refine⟨.skip,_,x,undef,?_,.inr ⟨rfl,rfl⟩,by simp only[CV],g',he,fun _ h=>.inl h,fun _=>rfl⟩;simp[execOp,ho,xg,hy,Qw,storeVar,hs,TG,hr]
end
def O.off (t:TypeId):O->Bool
 | .box ty _ _=>decide (ty≠t)
 | .tok ty _ _=>decide (ty≠t)
 | .hot ty _ _ _=>decide (ty≠t)
 | .mp _=>true
section
variable {P:Program} {S0:Ba} {w0:Bs} {x:Cx} {w:World} {H:Heap}
theorem Good.data (g:Good S0 w0 x w H){B:Nat}{vs:Array Value}{ty:TypeId}(hb:w.heap[B]?=some (.cells vs ty (0,0)))(hF : ¬w0.F B)(hty : ∀k o,H k=some o->o.off ty=true) :
 Good S0 w0 { x with S:=fun b j=>x.S b j\/b=B } w H/\Ext x { x with S:=fun b j=>x.S b j\/b=B } w w:=by
 have he:Ext x { x with S:=fun b j=>x.S b j\/b=B } w w:=⟨⟨fun _ _ h=>.inl h,fun _ _ _ _ h=>h⟩,fun _ h=>h,fun _ _=>Es.refl _⟩
 refine⟨⟨fun k o h=>⟨(g.ok k o h).1,(g.ok k o h).2.mono he rfl fun _=>rfl⟩,g.dom,g.inj,fun k o j h hx hs=>?_,fun b j hs=>hs.elim (g.ex b j) fun e=>e ▸ (Dy.1 hb).1,g.own,fun b j hs=>hs.elim (g.new b j) fun e=>.inr (e ▸ hF),fun b j h=>.inl (g.sub b j h),g.keep,g.ext.trans he⟩,he⟩;rcases hs with hs|hs
 . cases o<;>exact g.EI k _ j h hx hs
 . have ht:=hty k o h;have Au:=(g.ok k o h).2;replace hs:(x.loc k).b=B:=hs;cases o with
   | box Fy cs fr=>obtain⟨_,_,CQ,h1,_⟩:=Au;rw[hs,hb]at h1;cases h1;simp[O.off]at ht
   | tok Fy es cur=>obtain⟨_,_,h3⟩:=Au;obtain⟨CQ,h1,_⟩:=h3 hx.1;rw[hs,hb]at h1;cases h1;simp[O.off]at ht
   | hot Fy es cur cs=>obtain⟨_,_,_,_,_,CQ,h1,_⟩:=Au;rw[hs,hb]at h1;cases h1;simp[O.off]at ht
   | mp R=>exact hx.elim
theorem ACN {h:List O}{ty:TypeId}(hm:(h.all (O.off ty))=true)(k:Nat)(o:O)(e:h[k]?=some o):o.off ty=true:=List.all_eq_true.1 hm _ (List.mem_of_getElem? e)
theorem ACI {lp n:Nat}{o1 o2:Oper}{p d:Tmp}{ty:TypeId}(h1o:o1.op=.alloc ty)(h1d:o1.dst=some d)(h1g:o1.guard=none)(h2o:o2.op=.store ty (.tmp d) (.tmp p))(h2d:o2.dst=none)(h2g:o2.guard=none){id:Nat}{t:Array Value}{W:World}{K:Act->World->Prop}{cs:Array Value}(hp:t[p]?=some (.agg cs))(hpd:p≠d)(hdl:d<t.size){z:List V}(hz:DR P ty=some z)(hzl:z.length=cs.size)(h1 : ∀v∈cs.toList,v.oneCell'=true){ag:Bool}(hq:Ct P ty=some (ag,cs.size))(h : ∀W',AS W W'->W'.heap[W.heap.size]?=some (.cells cs ty (0,0))->K { tmps:=t.setIfInBounds d (.pointer (some ⟨W.heap.size,0,none⟩)),defers:=[] } W') :
 (Code.region id #[o1,o2] false).wpIn (EF.inRound lp) n P (Exit.then K (fun _ _ _=>False)) { tmps:=t,defers:=[] } W:=by
 refine wpIn_region_lit (l:=[o1,o2]) ?_;unfold wpListIn;rw[if_pos (by simp[DV,h1g])];refine vL (fun c e=>by rw[h1o]at e;cases e) ?_;obtain⟨zv,z1,z2,_⟩:=Zl (x:=Cx.bare fun _ _=>False) (w:=W) hz;have hzs:zv.cells.size=cs.size:=by have:=z2.len;simp only[Ep]at this;omega
 have e1:(execOp (NN { tmps:=t,defers:=[] }) o1).run P W=.ok (.value (.pointer (some ⟨W.heap.size,0,none⟩))) (W.alloc (.cells zv.cells ty)):=by simp[execOp,h1o,Instr.alloc,z1,newVar,newRow]
 clear z1 z2;obtain⟨zc,hzc⟩:=AE zv.cells;rw[hzc]at hzs e1;unfold Oper.wp;rw[e1];simp only[h1d,Act.put,iG];unfold wpListIn;rw[if_pos (by simp[DV,h2g])];refine vL (fun c e=>by rw[h2o]at e;cases e) ?_;have hb:(W.alloc (.cells zc ty)).heap[W.heap.size]?=some (.cells zc ty (0,0)):=heap_alloc_new W _;have hr:=run_storeCells_at (P:=P) (t:=ty) (off:=0) cs.toList 0 _ zc hb (by simp[hzs]) h1;have Eu:=kc cs.toList 0 0 zc (by simp[hzs]);obtain⟨_,hs,_⟩:=VT (w:=W.alloc (.cells zc ty)) (P:=P) (ag:=ag) (n:=cs.size) hq;generalize Nt:(cs.toList.zipIdx 0).foldl (fun (c:Array Value) (p:Value×Nat)=>c.setIfInBounds (0+p.2) p.1) zc=vs at hr Eu;have hvc:vs=cs:=by
  apply Gk.1;rw[Eu];simp[hzs]
 subst hvc;have Y0:(t.setIfInBounds d (.pointer (some ⟨W.heap.size,0,none⟩)))[d]?=some (.pointer (some ⟨W.heap.size,0,none⟩)):=xV hdl;have HQ:(t.setIfInBounds d (.pointer (some ⟨W.heap.size,0,none⟩)))[p]?=some (.agg vs):=by rw[Array.getElem?_setIfInBounds_ne (fun e=>hpd e.symm)];exact hp
 have e2:(execOp (NN { tmps:=t.setIfInBounds d (.pointer (some ⟨W.heap.size,0,none⟩)),defers:=[] }) o2).run P (W.alloc (.cells zc ty))=.ok .skip ((W.alloc (.cells zc ty)).setRow W.heap.size vs):=by
  simp[execOp,h2o,xg,NN,Y0,HQ,Qw,storeVar,hs,Value.cells,hr]
 unfold Oper.wp;rw[e2];simp only[h2d,iG,wpListIn,Exit.then];exact h _ (((AS.refl W).alloc _).setRow (BW _) _) (setRow_heap _ _ _ _ _ _ hb)
theorem ACp {α:Type}{P:Program}{n:Nat}{g:Operand}{ps:Array Tmp}{assign body:Code}{Q:Exit->Act->World->Prop}{a:Act}{w:World}(h1:1<=n){gf:Nat}{lb:Array Value}(hg:a.eval g=.func (.func gf) #[] lb)(eg : ∀args w,(callFunc gf args).run P w=.ok (.enter gf args) w){encs:List α->α->Array Value}{S:Ba}{Sx:List α->Prop}{N:Nat}(eN:SeqG (n - 1) P gf lb encs (JX S) Sx N w)(HU : ∀pre x,(encs pre x).size=ps.size)(I:List α->World->Prop)(hI:OwnFrom w.heap.size I)(h0:I [] w)(Ax:List α->α->Act->World->Prop)(hAx : ∀pre x a',OwnFrom w.heap.size (fun (_:Unit) W=>Ax pre x a' W))(hassign : ∀(l:Nat) (pre:List α) (x:α) (W:World) (K:Act->World->Prop),I pre W->(∀a' W',KeepsFrom w.heap.size W W'->JX S W W'->I pre W'->Ax pre x a' W'->K a' W')->
   assign.wpIn (EF.inRound l) (n - 1 - 1) P (Exit.then K (fun _ _ _=>False)) { tmps:=(ps.zip (encs pre x)).foldl (fun t (p,v)=>t.setIfInBounds p v) a.tmps,defers:=[] } W)(ME : ∀(l:Nat) (pre:List α) (x:α) (a':Act) (W:World),I pre W->Ax pre x a' W->pre.length<N->body.wpIn (EF.inRound l) (n - 1 - 1) P (fun e _ W'=>e=.normal/\KeepsFrom w.heap.size W W'/\JX S W W'/\I (pre++[x]) W') a' W)(hdone : ∀(D:Nat) (xs:List α) (W:World),w.heap.size<=D->Sx xs->I xs W->W.heap[D]?=some (.deferred (some []))->Q .normal { a with defers:={ target:=.collected D,args:=#[] }::a.defers } W) :
 (Code.rangeFunc g ps assign body).wpIn EF n P Q a w:=by
 refine wpIn_rangeFunc fun fn EP=>?_
 rw[show EF.round=none from rfl];obtain⟨rec,lX⟩:∃rec:LoopState->Loop,rec=fun st=>{ state:=st,pending:=none,fn,tmps:=a.tmps,params:=ps,assign,body,defers:=w.heap.size }:=⟨_,rfl⟩
 obtain⟨L,hL⟩:=AE (w.heap.size+1);obtain⟨W1,hW1⟩:=AE ((w.alloc (.deferred (some []))).alloc (.loop (rec .ready)));have Y0:W1.heap[w.heap.size]?=some (.deferred (some [])):=by
  rw[<-hW1];exact(Below.heap_alloc _ _ _ (by simp)).trans (ACF w _)
 have F8:W1.heap[L]?=some (.loop (rec .ready)):=by
  rw[<-hW1,<-hL];have:=ACF (w.alloc (.deferred (some []))) (.loop (rec .ready));rwa [World.size_alloc]at this
 have hI1:I [] W1:=by rw[<-hW1];exact hI.alloc _ (hI.alloc _ h0)
 have hw1:W1.heap.size=w.heap.size+2:=by rw[<-hW1];simp
 refine⟨L,[{ target:=.collected w.heap.size,args:=#[] }],W1,{ target:=.fn (.func gf) lb,args:=#[.func (.yield L) #[] #[]] },W1,gf,#[.func (.yield L) #[] #[]]++lb,W1,?_,?_,fun f' tM=>trivial,?_,fun _=>h1,?_⟩
 . rw[<-hW1,lX,<-hL];exact run_enterLoop_outer _ _ _ _ _
 . simp only[resolve,hg];simp[go_sem]
 . simp[invoke,go_sem,eg]
 have JJ:Below w.heap.size w W1:=by
  rw[<-hW1];exact(((Below.refl _ w).alloc (BW _) _).alloc (by simp) _)
 have hcell : ∀ {A B:World} {row:Option Nat} (hr : ∀r,row=some r->W1.heap.size<=r/\∃o:Obj,A.heap[r]?=some o/\o.isWalk=true),∀r,row=some r->w.heap.size<=r/\∃o:Obj,A.heap[r]?=some o/\o.isCells=false:=fun hr r e=>by
  obtain⟨h1,o,h2,h3⟩:=hr r e;exact⟨by omega,o,h2,Obj.not_cells_of_walk h3⟩
 refine(eN L (fun pre W=>I pre W/\W.heap[L]?=some (.loop (rec .ready))/\W.heap[w.heap.size]?=some (.deferred (some []))) (fun _ _=>False) W1 JJ (fun s A B row hs F6 hr=>⟨hI s A B row hs.1 F6 (hcell (B:=B) hr),(grownBy_keeps F6 (fun r e=>(hr r e).2) hs.2.1 rfl).trans hs.2.1,(grownBy_keeps F6 (fun r e=>(hr r e).2) hs.2.2 rfl).trans hs.2.2⟩) (fun _ _ _ _ hs _ _=>hs) ?_ ⟨hI1,F8,Y0⟩).mono ?_
 . rintro pre x W ⟨hi,hl,hd⟩ hN;have hy:=run_yield (P:=P) (args:=encs pre x) hl (by rw[lX];exact HU pre x);rw[lX]at hy;refine⟨fn,_,assign,body,hy,roundIn_of_wpIn EP (hassign _ pre x W _ hi fun a' W2 hk2 hp2 hi2 hx2=>?_)⟩;have Fp:=hk2.same _ _ (by omega) hl rfl;have lC:=hk2.same _ _ (BW _) hd rfl;have hlt:=(Dy.1 Fp).1;refine⟨_,run_beginRound Fp (by rw[lX]),?_⟩;obtain⟨rb,Kt⟩:=AE (({ rec .ready with state:=.busy }:Loop));rw[Kt];have hl3:(W2.putObj L (.loop rb)).heap[L]?=some (.loop rb):=ABr hlt;have hd3:(W2.putObj L (.loop rb)).heap[w.heap.size]?=some (.deferred (some [])):=(qG (by omega)).trans lC;refine wpIn_mono (ME _ pre x a' _ (hI.putObj _ hi2 (by omega) Fp rfl) ((hAx pre x a').putObj (s:=()) _ hx2 (by omega) Fp rfl) hN) ?_;rintro e a3 W3 ⟨rfl,hk3,tu,hi3⟩;have hl4:=hk3.same _ _ (by omega) hl3 rfl;have hd4:=hk3.same _ _ (BW _) hd3 rfl;have hr:=run_endRound (P:=P) none hl4;have e1:({ rb with state:=if (none:Option Code).isNone then .ready else .done,pending:=none }:Loop)=rec .ready:=by rw[<-Kt,lX];rfl
   rw[e1]at hr;exact⟨_,_,hr,.inl ⟨rfl,⟨hI.putObj _ hi3 (by omega) hl4 rfl,ABr (Dy.1 hl4).1,(qG (by omega)).trans hd4⟩,hp2.trans ((JX.put _ _ _ _ Fp rfl).trans (tu.trans (JX.put _ _ _ _ hl4 rfl)))⟩⟩
 . rintro e W2 ⟨⟨v,rfl⟩,⟨xs,hS,hi,hl,hd⟩|⟨_,_,h⟩⟩
   . exact⟨none,_,by have:=run_endLoop (P:=P) hl (by rw[lX];simp);rw[lX]at this;exact this,hdone _ xs _ (BW _) hS (hI.putObj _ hi (by omega) hl rfl) ((qG (by omega)).trans hd)⟩
   . exact h.elim
theorem AW.ACl {α:Type}{n1:Nat}{K:Exit->St->Prop}{s:St}{g:Operand}{p d:Tmp}{id:Nat}{o1 o2:Oper}{body:Code}{gf:FuncId}{caps UD:List V}{fn:Func}{ty:TypeId}(h1o:o1.op=.alloc ty)(h1d:o1.dst=some d)(h1g:o1.guard=none)(h2o:o2.op=.store ty (.tmp d) (.tmp p))(h2d:o2.dst=none)(h2g:o2.guard=none)(hg:ev s.t g=.fn gf caps)(hp:V.AO caps=some UD)(EP:P.funcs[gf]?=some fn)(MC:fn.body.isSome=true)(Ht:(fn.name == "runtime.NumGoroutine")=false)(vals:List α->α->List Value)(row:List α->α->List C)(N:Nat)(BU : ∀pre y S W,pre.length<N->Bj S W (row pre y) (vals pre y))(h1v : ∀pre y,∀v∈vals pre y,v.oneCell'=true){z:List V}(hz:DR P ty=some z)(hzl : ∀pre y,z.length=(vals pre y).length){ag:Bool}(hq:Ct P ty=some (ag,z.length))(Sx:List α->Prop)(eN:ISeqG P gf UD (fun pre y=>#[.agg (vals pre y).toArray]) Sx N)(hf:List α->List O)(h0:s.h=hf [])(n0:Nat)(hlen : ∀pre,(hf pre).length=n0)(hpl:p<s.t.length)(hdl:d<s.t.length)(hpd:p≠d)(ME : ∀(lp:Nat) (pre:List α) (y:α),pre.length<N->AW ⟨some lp,n0⟩ P body (fun e s'=>e=.normal/\∃t',Le ⟨some lp,n0⟩ s' ⟨t',hf (pre++[y])⟩) ⟨(s.t.set p (.agg ((row pre y).map V.c))).set d (.cp (row pre y) 0),hf pre⟩)(hdone : ∀xs,Sx xs->K .normal ⟨s.t,hf xs⟩)(Ou : ∀pre,((hf pre).all O.mM)=true)(hoff : ∀pre,((hf pre).all (O.off ty))=true):AW ⟨none,n1⟩ P (.rangeFunc g #[p] (.region id #[o1,o2] false) body) K s:=fun n S0 w0 x a w hm hA=>by
 have F7:=EH hA.tm g;rw[hg]at F7;simp only[CV]at F7;obtain⟨lb,F7,EZ⟩:=F7;have hc':=PJ _ _ _ hp EZ;have hb:fn.body≠none:=by intro e;rw[e]at MC;cases MC
 have hn:fn.name≠ "runtime.NumGoroutine":=by simpa using Ht
 have eg : ∀args w,(callFunc gf args).run P w=.ok (.enter gf args) w:=fun args w=>by simp[callFunc,program,Sem.run,EP,hn,hb]
 have hsize : ∀ {D:Nat},w.heap.size<=D->¬w0.F D:=fun h=>hA.good.fresh h
 have WM : ∀Ds:List Nat,a.defers=Ds.map (fun D=>{ target:=.collected D,args:=#[] })->∀D∈Ds,D<w.heap.size:=by
  intro Ds e D hD;obtain⟨yh,f1,f2,f3⟩:=hA.df;have hm:({ target:=.collected D,args:=#[] }:Deferred)∈a.defers:=by rw[e];exact DC.2 ⟨D,hD,rfl⟩
  rw[f1]at hm;obtain⟨D',J9,e'⟩:=DC.1 hm;have:D'=D:=by injection e' with e1 e2;injection e1
  subst this;exact(Dy.1 (f3 D' J9).2).1
 have hs:s=⟨s.t,hf []⟩:=by rw[<-h0]
 have Et:a.tmps.size=s.t.length:=by have:=hA.tm.len;simpa using this
 have hOwn:OwnFrom w.heap.size (fun (pre:List α) (W:World)=>w.heap.size<=W.heap.size/\∃x',CT S0 w0 x' ⟨s.t,hf pre⟩ a W/\Ar x.S x'.S w W):=by
  rintro pre W W' row ⟨hsz,x',BR,DF⟩ hgr hr;obtain⟨g',he⟩:=BR.good.sK (ZS (Ou pre)) hgr fun r e=>⟨hsize (hr r e).1,(hr r e).2⟩
  refine⟨Tn hsz hgr.size,x',⟨g',AL.mono he _ _ BR.tm,?_⟩,DF.trans he.ar⟩;obtain⟨Ds,e1,e2,e3⟩:=BR.df;refine⟨Ds,e1,e2,fun D hD=>⟨(e3 D hD).1,?_⟩⟩;have h2:=(e3 D hD).2;rw[hgr.block D (Dy.1 h2).1 (fun e=>by have:=(hr D e.symm).1;have:=WM Ds e1 D hD;omega)];exact h2
 refine wpIn_wide.2 ((wpIn_wide (n:=2)).1 (ACp (n:=2) (α:=α) (ps:=#[p]) (encs:=fun pre y=>#[.agg (vals pre y).toArray]) (S:=x.S) (Sx:=Sx) (N:=N) (by omega) F7 eg (eN _ x.S w lb hA.good.ex hc') (fun _ _=>rfl)
  (fun pre W=>w.heap.size<=W.heap.size/\∃x',CT S0 w0 x' ⟨s.t,hf pre⟩ a W/\Ar x.S x'.S w W) hOwn ⟨BW _,x,by rw[<-hs];exact hA,Ar.refl _ _⟩
  (fun pre y a' W=>∃B,w.heap.size<=B/\a'={ tmps:=(a.tmps.setIfInBounds p (.agg (vals pre y).toArray)).setIfInBounds d (.pointer (some ⟨B,0,none⟩)),defers:=[] }/\W.heap[B]?=some (.cells (vals pre y).toArray ty (0,0))) ?_ ?_ ?_ ?_))
 . rintro pre y a' _ W W' r ⟨B,h1,h2,h3⟩ hgr hr;refine⟨B,h1,h2,(hgr.block B (Dy.1 h3).1 fun e=>?_).trans h3⟩;obtain⟨_,o,h4,h5⟩:=hr B e.symm;rw[h3]at h4;cases h4;cases h5
 . intro l pre y W K hI hK;have e1:((#[p].zip #[Value.agg (vals pre y).toArray]).foldl (fun (t:Array Value) (q:Tmp×Value)=>t.setIfInBounds q.1 q.2) a.tmps)=a.tmps.setIfInBounds p (.agg (vals pre y).toArray):=by simp
   rw[show ((#[p].zip #[Value.agg (vals pre y).toArray]).foldl (fun t (p,v)=>t.setIfInBounds p v) a.tmps)=a.tmps.setIfInBounds p (.agg (vals pre y).toArray)from e1];have hzy:=hzl pre y;refine ACI (ag:=ag) h1o h1d h1g h2o h2d h2g (xV (by rw[Et];exact hpl)) hpd (by simpa [Et]using hdl) hz (by simpa using hzy) (by simpa using h1v pre y) (by simpa [hzy]using hq) fun W' hk hB=>?_
   refine hK _ W' ⟨hk.size,fun k o _ h _=>(hk.block k (Dy.1 h).1).trans h⟩ ⟨hk.size,fun _ _ h=>h,fun b j v _ hc=>hk.cell hc⟩ (hOwn pre W W' none hI ⟨hk.os,hk.tape,hk.output,hk.size,fun k hk' _=>hk.block k hk'⟩ (fun r e=>by cases e)) ⟨_,hI.1,rfl,hB⟩
 . rintro l pre y a' W ⟨hsz,x',BR,DF⟩ ⟨B,Ni,rfl,WL⟩ hN;obtain⟨gd,tL⟩:=BR.good.data WL (hsize Ni) fun k o h=>ACN (hoff pre) k o h
   have tH : ∀k,x'.dom k->k<n0:=fun k hk=>by
    obtain⟨o,ho⟩:=BR.good.dom k hk;have:=(List.getElem?_eq_some_iff.1 ho).1;rw[<-hlen pre];exact this
   have hcell:CR (fun b j=>x'.S b j\/b=B) W (row pre y) B 0:=CR.QX (BU pre y _ _ hN) (fun j u hu=>by
    rw[cell_of_row W B _ _ ty (0,0) WL];simpa using hu) fun j _=>.inr rfl
   have DG:AL { x' with S:=fun b j=>x'.S b j\/b=B } W ((s.t.set p (.agg ((row pre y).map V.c))).set d (.cp (row pre y) 0)) ((a.tmps.setIfInBounds p (.agg (vals pre y).toArray)).setIfInBounds d (.pointer (some ⟨B,0,none⟩))).toList:=by
    simp only[Array.toList_setIfInBounds];refine((AL.mono tL _ _ BR.tm).set p ?_).set d ?_
    . simp only[CV];exact⟨_,rfl,AL.N2 (BU pre y _ _ hN)⟩
    . simp only[CV];exact⟨B,0,rfl,hcell⟩
   refine wpIn_mono (ME l pre y hN _ _ (w0.fa W BR.good.keep.size { x' with S:=fun b j=>x'.S b j\/b=B } n0 tH) _ _ _ (BW _) ⟨gd.vv (ZS (Ou pre)) n0 tH,DG,Marks.nil _ _⟩) fun e y8 ba eC=>?_
   obtain⟨x2,s2,Hp,rfl,t',hle⟩:=eC;obtain⟨x3,Kl⟩:=hle _ _ _ _ _ (BW _) Hp;obtain⟨g3,hnc⟩:=gd.wx Kl.good;have IH:=tL.trans Kl.good.ext;exact⟨rfl,⟨hnc.size,fun k o _ hk ho=>hnc.same k o hk ho⟩,⟨hnc.size,fun _ _ h=>h,fun b j v h hc=>IH.ar.cell b j v (DF.sub b j h) hc⟩,Tn hsz hnc.size,x3,⟨g3,AL.mono IH _ _ BR.tm,BR.df.mono hnc.nc⟩,DF.trans IH.ar⟩
 . rintro D xs W hD hS ⟨_,x',BR,DF⟩ tG;obtain⟨Ds,e1,e2,e3⟩:=BR.df;refine⟨x',⟨s.t,hf xs⟩,⟨BR.good,BR.tm,D::Ds,by simp[e1],List.nodup_cons.2 ⟨fun h=>by have:=WM Ds e1 D h;omega,e2⟩,fun D' J9=>?_⟩,hdone xs hS⟩;rcases List.mem_cons.1 J9 with rfl|h
   . exact⟨hsize hD,tG⟩
   . exact e3 D' h
theorem AW.ABk {m:Mo}{ops:List Oper}{id:Nat}{K:Exit->St->Prop}{s:St}(hd:TV ops=true)(h:SW P ops (fun e s=>e=.normal/\K .normal s) ops s):AW m P (.region id ops.toArray false) K s:=fun n S0 w0 x a w hm hA=>by
 obtain⟨rd,n0⟩:=m;have hw:=h S0 w0 x a w hA;have hk : ∀e a w,(∃x s,CT S0 w0 x s a w/\e=.normal/\K .normal s)->∃x s,CT S0 w0 x s a w/\K e s:=fun e a w ⟨x,s,h1,h2,h3⟩=>⟨x,s,h1,h2 ▸ h3⟩
 have hl : ¬LetsOut (fun e a w=>∃x s,CT S0 w0 x s a w/\e=Exit.normal/\K .normal s):=fun ⟨_,_,_,_,_,h,_⟩=>nomatch h
 cases rd with
 | none=>exact wpIn_mono (wpIn_wide.2 (wp_region_lit hw)) hk
 | some l=>exact wpIn_mono (wpIn_region_lit (listIn_of hl ops a w hd hw)) hk
end
def ABl (cls DK:List Int)(k:Nat):List C:=[.int .i64 (k:Int),.int .i64 (cls.getD k 0),.int .i64 (DK.getD k 0)]
def pa (cls DK:List Int)(k:Nat):List Value:=[.int .i64 (k:Int),.int .i64 (cls.getD k 0),.int .i64 (DK.getD k 0)]
def ef (y:Nat)(cls DK:List Int)(k:Nat):List V:=[.yl y,.cp [Ab cls] 0,.cp [Ab DK] 0,.any,.any,.any,.c (Ab cls),.c (.int .i64 (cls.length:Int)),.c (.int .i64 (k:Int)),.any,.any,.any,.any,.any,.any,.any,.any,.any,.any,.any,.any,.any,.any,.any]
theorem ACn (cls DK:List Int)(h:DK.length=cls.length)(hl:cls.length<=1000000):ISeqG AD 141 [.cp [Ab cls] 0,.cp [Ab DK] 0] (fun (pre:List Unit) (_:Unit)=>#[.agg (pa cls DK pre.length).toArray]) (fun xs=>xs.length=cls.length) cls.length:=by
 refine ISeqG.intro Tryz.func141 rfl rfl fun Y=>?_
 simp only[Tryz.ntmps141,BQ,B6,Nat.reduceAdd,Nat.reduceSub,Ao,C8,Bg,Bh];repeat (first
  | with_reducible refine IW.seq ?_
  | with_reducible refine IW.block ?_
  | with_reducible refine IW.skip ?_
  | with_reducible refine IW.ret ?_
  | with_reducible refine IW.exit ?_
  | with_reducible refine Kz ?_
  | with_reducible refine K0 ?_
  | with_reducible refine Ky ?_
  | with_reducible refine Kw ?_
  | with_reducible refine Kx ?_
  | with_reducible refine Kv ?_
  | with_reducible refine IL.nil ?_
  | ((with_reducible refine IW.region ?_);(with_reducible refine IL.run (by simp[Ao,Ab];first|exact rfl|exact⟨rfl,rfl⟩) ?_ ?_);(focus (first|exact rfl|decide)))
  | (with_reducible refine IW.cond (b:=true) ?_ (fun _=>?_) (fun e=>nomatch e);(focus (simp[ev,Ab];done)))
  | (with_reducible refine IW.cond (b:=false) ?_ (fun e=>nomatch e) (fun _=>?_);(focus (simp[ev,Ab];done))))
 refine IW.loop (ι:={ k:Nat // k<=cls.length }) (fun k=>(⟨List.replicate k.1 (),false⟩,⟨ef Y.l cls DK k.1,[]⟩)) (fun k=>cls.length - k.1) ⟨0,by omega⟩ rfl ?_ ?_
 . refine Jy.drop (by simp[A5,ef,Ab]) (by simp[V.BT,V.BA,ef])
 rintro ⟨k,hk⟩;simp only[ef];by_cases hlt:k<cls.length
 . have hw:IntKind.i64.wrap ((k:Int)+1)=((k+1:Nat):Int):=by rw[Aq];simp
   have DG:k<DK.length:=by omega
   have hc:cls.getD k 0=cls[k]:=by simp[G5,BP hlt]
   have hv:DK.getD k 0=DK[k]:=by simp[G5,BP DG]
   obtain⟨c,hcx⟩:=AE (cls[k]);obtain⟨v,hvx⟩:=AE (DK[k]);repeat (first
    | with_reducible refine IW.seq ?_
    | with_reducible refine IW.block ?_
    | with_reducible refine IW.skip ?_
    | with_reducible refine IW.ret ?_
    | with_reducible refine IW.exit ?_
    | with_reducible refine Kz ?_
    | with_reducible refine K0 ?_
    | with_reducible refine Ky ?_
    | with_reducible refine Kw ?_
    | with_reducible refine Kx ?_
    | with_reducible refine Kv ?_
    | with_reducible refine IL.nil ?_
    | ((with_reducible refine IW.region ?_);(with_reducible refine IL.run (by simp[Ao,hlt,DG,hcx,hvx,Ab];first|exact rfl|exact⟨rfl,rfl⟩) ?_ ?_);(focus (first|exact rfl|decide)))
    | (with_reducible refine IW.cond (b:=true) ?_ (fun _=>?_) (fun e=>nomatch e);(focus (simp[ev,hlt,DG,hcx,hvx,Ab];done)))
    | (with_reducible refine IW.cond (b:=false) ?_ (fun e=>nomatch e) (fun _=>?_);(focus (simp[ev,hlt,DG,hcx,hvx,Ab];done))))
   refine IL.yieldV () (ef Y.l cls DK k) rfl rfl (by simp[ev]) ?_ (by simpa using hlt) (by simp[A5,ef,Ab]) (by simp[V.BT,V.BA,ef]) ?_ ?_
   . intro x w u hu;simp[ev,CV,AL,Ap]at hu;obtain⟨vs,rfl,_,_,e1,⟨rfl,_⟩,_,_,rfl,⟨rfl,_⟩,_,rfl,rfl,_⟩:=hu;rw[List.length_replicate,show vs=(pa cls DK k).toArray from Gk.1 (by rw[e1];simp only[pa,hc,hv,hcx,hvx])]
   . simp only[St.put,ef,BC,Az,BQ,B6,Nat.reduceAdd,Ao,C8];with_reducible refine IL.run (by simp[Ao];first|exact rfl|exact⟨rfl,rfl⟩) ?_ ?_
     . first|exact rfl|decide
     repeat (first
      | with_reducible refine IW.seq ?_
      | with_reducible refine IW.block ?_
      | with_reducible refine IW.skip ?_
      | with_reducible refine IW.ret ?_
      | with_reducible refine IW.exit ?_
      | with_reducible refine Kz ?_
      | with_reducible refine K0 ?_
      | with_reducible refine Ky ?_
      | with_reducible refine Kw ?_
      | with_reducible refine Kx ?_
      | with_reducible refine Kv ?_
      | with_reducible refine IL.nil ?_
      | ((with_reducible refine IW.region ?_);(with_reducible refine IL.run (by simp[Ao,hw];first|exact rfl|exact⟨rfl,rfl⟩) ?_ ?_);(focus (first|exact rfl|decide)))
      | (with_reducible refine IW.cond (b:=true) ?_ (fun _=>?_) (fun e=>nomatch e);(focus (simp[ev,hw];done)))
      | (with_reducible refine IW.cond (b:=false) ?_ (fun e=>nomatch e) (fun _=>?_);(focus (simp[ev,hw];done))))
     refine⟨⟨k+1,by omega⟩,by simp only;omega,?_,?_⟩
     . simp[List.replicate_succ']
     . exact Jy.drop (by simp[A5,ef,Ab]) (by simp[V.BT,V.BA,ef])
   . simp only[St.put,ef,BC,Az,BQ,B6,Nat.reduceAdd,Ao,C8];with_reducible refine IL.run (by simp[Ao];first|exact rfl|exact⟨rfl,rfl⟩) ?_ ?_
     . first|exact rfl|decide
     repeat (first
      | with_reducible refine IW.seq ?_
      | with_reducible refine IW.block ?_
      | with_reducible refine IW.skip ?_
      | with_reducible refine IW.ret ?_
      | with_reducible refine IW.exit ?_
      | with_reducible refine Kz ?_
      | with_reducible refine K0 ?_
      | with_reducible refine Ky ?_
      | with_reducible refine Kw ?_
      | with_reducible refine Kx ?_
      | with_reducible refine Kv ?_
      | with_reducible refine IL.nil ?_
      | ((with_reducible refine IW.region ?_);(with_reducible refine IL.run (by simp[Ao];first|exact rfl|exact⟨rfl,rfl⟩) ?_ ?_);(focus (first|exact rfl|decide)))
      | (with_reducible refine IW.cond (b:=true) ?_ (fun _=>?_) (fun e=>nomatch e);(focus (simp[ev];done)))
      | (with_reducible refine IW.cond (b:=false) ?_ (fun e=>nomatch e) (fun _=>?_);(focus (simp[ev];done))))
     exact⟨.inr rfl,fun h=>nomatch h⟩
 . repeat (first
    | with_reducible refine IW.seq ?_
    | with_reducible refine IW.block ?_
    | with_reducible refine IW.skip ?_
    | with_reducible refine IW.ret ?_
    | with_reducible refine IW.exit ?_
    | with_reducible refine Kz ?_
    | with_reducible refine K0 ?_
    | with_reducible refine Ky ?_
    | with_reducible refine Kw ?_
    | with_reducible refine Kx ?_
    | with_reducible refine Kv ?_
    | with_reducible refine IL.nil ?_
    | ((with_reducible refine IW.region ?_);(with_reducible refine IL.run (by simp[Ao,hlt];first|exact rfl|exact⟨rfl,rfl⟩) ?_ ?_);(focus (first|exact rfl|decide)))
    | (with_reducible refine IW.cond (b:=true) ?_ (fun _=>?_) (fun e=>nomatch e);(focus (simp[ev,hlt];done)))
    | (with_reducible refine IW.cond (b:=false) ?_ (fun e=>nomatch e) (fun _=>?_);(focus (simp[ev,hlt];done))))
   exact⟨.inl rfl,fun _=>by simp;omega⟩
theorem ACo (cls DK:List Int):AC AD 88 [.c (Ab cls),.c (Ab DK)] (.fn 141 [.cp [Ab cls] 0,.cp [Ab DK] 0]):=by
 unfold Ab;refine en Tryz.func88 Tryz.ntmps88 ?_;with_reducible refine AW.seq ?_
 with_reducible refine AW.region ?_
 with_reducible refine Bw (by simp[Ao];first|exact rfl|exact⟨rfl,rfl⟩) ?_
 with_reducible refine B9 ?_
 with_reducible refine G7 ?_
 refine AW.AR 0 rfl (by simp[toCs,toC];exact rfl) (by simp[V.BG,V.AR];exact rfl) (by simp[O.AR,V.BG,V.AR];exact rfl) ?_;refine AW.AR 1 rfl (by simp[toCs,toC];exact rfl) (by simp[V.BG,V.AR];exact rfl) (by simp[O.AR,V.BG,V.AR];exact rfl) ?_;refine Ac ?_;simp[Aj,AV,AZ,Aa,V.AP,V.AO,AU,Tryz.results88]
end Go.Proofs.YtpodcjcajanldaaGreat
