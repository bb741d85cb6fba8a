/- Part of the proof of breakpointLength.proved. Conditions: none. (Joined and shortened by a program.) -/
import Derived.Test.YtpodcjcajanldaaGreatP8
import Derived.Test.YtpodcjcajanldaaGreatP10
set_option linter.unusedVariables false
set_option linter.unusedSimpArgs false
set_option maxRecDepth 100000
set_option maxHeartbeats 16000000
open Go.Proofs.Tryz renaming prog→AD,underlying9→Mp,underlying183→yW,underlying4→SQ,results339→qA,results340→YR,func81→YI
open Nat renaming le_refl→BW,zero_add→Cu,le_of_not_lt→NT
open Go.Maps renaming string_keyed→oT
open Go.WideMaps renaming keyOf_string_mk→qF
open Go.DataW.lit renaming injEq→xZ
open Go.Lit renaming string→aA
open Option.some renaming inj→JW
open List renaming map_cons→Al,length_cons→BQ,getElem?_map→Co,flatten_cons→GS,getElem?_append_left→FK,getElem?_append_right→IP,set_cons_succ→Az,getElem?_eq_some_iff→Bv,getElem?_set_self→EG,append_assoc→EW,getElem?_set_ne→Di,length_set→DU,replicate→As,replicate_succ→Ao,drop_zero→BO,length_nil→B6,set_cons_zero→BC,cons_append→Bg,nil_append→Bh,foldl_cons→Bl,foldl_nil→B7,drop_eq_getElem_cons→Cz,drop_of_length_le→C5
open Bool renaming and_eq_true→An,true_and→B5,false_and→C2
open Go.IntKind renaming i64→Ad
namespace Go.Proofs.YtpodcjcajanldaaGreat
open Go.RowKit
section
variable {P:Program} {K:Exit->St->Prop} {ops:List Oper} {s:St}
theorem SW.mR {o:Oper}{r:List Oper}(v:V)(t:Option (Nat×O))(Bp : ∀k ob,t=some (k,ob)->k<=s.h.length)(hg:gate ops s.t o.guard=some true)(hR : ∀(S0:Ba) (w0:Bs) (x:Cx) (a:Act) (w:World),Good S0 w0 x w (fun k=>s.h[k]?)->AL x w s.t a.tmps.toList->Bm P o a S0 w0 x w (fun k=>s.h[k]?) v t)(h:SW P ops K r (s.step o.dst v t)):SW P ops K (o::r) s:=fun S0 w0 x a w hA=>by
 have hw:Region.wanted o (yielded ops.toArray a.tmps)=true:=by
  have:=J2 (o:=o) hA.tm (Hj (ops:=ops) (K1:=True) (K2:=False) hg trivial);exact Classical.byContradiction fun h=>this.2 h
 unfold wpList;rw[if_pos hw];refine .inl ?_;obtain⟨nx,w',x',u,hr,D5,hcv,g',he,_⟩:=hR x.S (w0.re w hA.good.keep.size) x a w hA.good.VA hA.tm;obtain⟨g',hnc⟩:=hA.good.Qp he g';have e:=Lm s.h t Bp;have g'':Good S0 w0 x' w' (fun i=>(CG s.h t)[i]?):=by rw[e];exact g'
 unfold Oper.wp;rw[hr];rcases D5 with rfl|⟨rfl,rfl⟩
 . exact h S0 w0 x' _ w' (CT.put hA.tm (hA.df.mono hnc) he g'' hcv o.dst)
 . exact h S0 w0 x' _ w' (CT.put hA.tm (hA.df.mono hnc) he g'' hcv o.dst)
end
def Jz (n:Nat)(M:ByteArray->Bool)(_:Nat)(ob:Obj):Prop:=
 ∀(w:World) (b:Nat),w.heap[b]?=some ob->∃D:DataW Unit,w.ownsMap AD 9 (plainElem AD 4) b n D/\Maps.IsMap D/\
  ∀s:ByteArray,s.size<=maxLen->D.atKey (.string s.data.toList) (.lit (.bool false))=.lit (.bool (M s))
def X2 (M:ByteArray->Bool)(s:ByteArray):ByteArray->Bool:=fun x=>decide (x=s) || M x
theorem AWH (w:World):(zeroValue 4).run AD w=.ok (.bool false) w:=by kernel_rfl
theorem ARF {H:Type}{P:Program}{e:TypeId}(he:P.underlying e=some .bool){v:Value}{z:DataW H×List MemPlace}(h:plainElem P e v=some z):∃a,v=.bool a/\z=(.lit (.bool a),[]):=by
 unfold plainElem at h;rw[he]at h;cases v<;>simp at h;subst h;exact⟨_,rfl,rfl⟩
theorem Jz.made {b0:Nat}:Jz 0 (fun _=>false) b0 (.map #[] 0):=fun w b hb=>⟨.map [],⟨#[],0,hb,⟨by simp,MapKept.stamped_empty 0,by simp⟩,BW _,rfl⟩,Maps.isMap_empty,fun _ _=>rfl⟩
theorem Jz.look {w:World}{b b0 n:Nat}{M:ByteArray->Bool}{ob:Obj}(h:Jz n M b0 ob)(hb:w.heap[b]?=some ob){s:ByteArray}(hs:s.size<=maxLen) :
 (Instr.lookup 183 (.map (some b)) (.string s) false).run AD w=.ok (.bool (M s)) w:=by
 obtain⟨D,⟨es,clock,h1,F,_,rfl⟩,_,hM⟩:=h w b hb;have hm:=hM s hs;rcases Maps.fit_look (t:=183) false (oT Mp) yW (AWH w) h1 F (qF Mp hs)with ⟨hrun,_,hat⟩|⟨e0,y,_,_,hrun,hRv,hat,_⟩
 . rw[hat]at hm;rw[hrun];simp only[xZ,Lit.bool.injEq]at hm;simp[<-hm]
 . rw[hat]at hm;rw[hrun];obtain⟨c,e1,e2⟩:=ARF SQ hRv;rw[e2]at hm;simp only[xZ,Lit.bool.injEq]at hm;rw[e1,hm];rfl
theorem Jz.store {w:World}{b b0 n:Nat}{M:ByteArray->Bool}{ob:Obj}(h:Jz n M b0 ob)(hb:w.heap[b]?=some ob)(hn:n<maxLen){s:ByteArray}(hs:s.size<=maxLen) :
 ∃w' Cy,(Instr.mapUpdate 183 (.map (some b)) (.string s) (.bool true)).run AD w=.ok () w'/\w.grownBy w' (some b)/\w'.heap[b]?=some Cy/\still Cy=false/\Jz (n+1) (X2 M s) b0 Cy:=by
 obtain⟨D,ho,hm,hM⟩:=h w b hb;obtain⟨w',hrun,ho',hg⟩:=ho.update (t:=183) (oT Mp) yW hn (qF Mp hs) (plainElem_bool SQ true);obtain⟨es',clock',h1,F,h2,h3⟩:=ho';refine⟨w',_,hrun,hg,h1,rfl,fun w2 b2 Gx=>⟨_,⟨es',clock',Gx,F,h2,h3⟩,hm.put _ _,fun x hx=>?_⟩⟩;by_cases e:x=s
 . subst e;have hk:WideAt.IsKeyLit (aA x.data.toList):=trivial;rw[Maps.atKey_put_same hm hk];simp[X2]
 . have hne:aA x.data.toList≠aA s.data.toList:=fun h=>e (by cases x;cases s;simpa using h)
   rw[Maps.atKey_put_other hne];simp only[X2,decide_eq_false e,Bool.false_or];exact hM x hx
section
variable {S0:Ba} {w0:Bs} {x:Cx} {w:World} {H:Heap} {a:Act} {o:Oper}
theorem AP0 (g:Good S0 w0 x w H){y:Operand}(ho:o.op=.makeMap 183 (some y)){kd:IntKind}{l:Int}(hy:CV x w (.c (.int kd l)) (a.eval y))(k:Nat)(hk : ¬x.dom k):Bm AD o a S0 w0 x w H (.mp k) (some (k,.mp (Jz 0 (fun _=>false)))):=by
 simp only[CV,Ap]at hy;have Et:AS w (w.alloc (.map #[] 0)):=(AS.refl w).alloc _;have he:Ext x (x.Dl k ⟨w.heap.size,0,false,0,false⟩) w (w.alloc (.map #[] 0)):=Good.kV k _ hk fun b j v _ hc=>Et.cell hc
 have g':=g.IN k (.mp (Jz 0 (fun _=>false))) he (.GA Et) (fun i=>Iff.rfl) (fun i hi=>by simp[Cx.Dl,hi]) (fun _=>.inr (by simp[Cx.Dl])) ⟨by simp[Cx.Dl],by simp[Cx.Dl],_,by simp only[Cx.Dl,if_true];exact heap_alloc_new w _,rfl,Jz.made⟩ (fun b j h=>.inl h) (fun j hx hs=>hx);refine⟨_,_,_,.map (some w.heap.size),?_,.inl rfl,?_,g',he,fun k' h=>h.elim .inl fun e=>.inr ⟨.mp (Jz 0 (fun _=>false)),by rw[e]⟩,fun _=>rfl⟩
 . simp[execOp,ho,hy.1,Instr.makeMap,run_underlying yW];rfl
 . simp only[CV,Cx.Dl,if_true];exact⟨.inr trivial,trivial,trivial⟩
theorem APx (g:Good S0 w0 x w H){y z:Operand}(ho:o.op=.lookup 183 y z false){k n:Nat}{M:ByteArray->Bool}{s:ByteArray}(hy:CV x w (.mp k) (a.eval y))(hz:CV x w (.c (.str s)) (a.eval z))(hk:H k=some (.mp (Jz n M))):Bm AD o a S0 w0 x w H (.c (.bool (M s))) none:=by
 simp only[CV,Ap]at hy hz;obtain⟨hd,ht,hy⟩:=hy;obtain⟨hz,hs⟩:=hz;obtain⟨_,_,_,ob,hb,_,hR⟩:=g.ok k _ hk;exact Bm.pure g (u:=.bool (M s)) (by simp[execOp,ho,hy,hz,hR.look hb hs]) (by simp only[CV,Ap])
theorem APz (g:Good S0 w0 x w H){y z v:Operand}(ho:o.op=.mapUpdate 183 y z v){k n:Nat}{M:ByteArray->Bool}{s:ByteArray}(hy:CV x w (.mp k) (a.eval y))(hz:CV x w (.c (.str s)) (a.eval z))(hv:a.eval v=.bool true)(hk:H k=some (.mp (Jz n M)))(hn:n<maxLen):Bm AD o a S0 w0 x w H .any (some (k,.mp (Jz (n+1) (X2 M s)))):=by
 simp only[CV,Ap]at hy hz;obtain⟨hd,ht,hy⟩:=hy;obtain⟨hz,hs⟩:=hz;obtain⟨_,h1,h2,ob,hb,hst,hR⟩:=g.ok k _ hk;obtain⟨w',Cy,hrun,hg,hb',Wq,hR'⟩:=hR.store hb hn hs;have ar:Ar x.S x.S w w':=⟨fun _ _ h=>h,fun b j v hS hc=>by
  have hne:b≠(x.loc k).b:=fun e=>by
   subst e;obtain⟨D,⟨es,clock,Yx,_⟩,_⟩:=hR w _ hb;unfold World.cell? at hc;simp[Yx]at hc
  have hlt:b<w.heap.size:=g.ex b j hS;exact(World.cell?_of_block (hg.block b hlt fun e=>hne (JW e))).trans hc⟩
 have he:Ext x x w w':=⟨ar,fun _ h=>h,fun _ _=>Es.refl _⟩
 have g':=g.IN k (.mp (Jz (n+1) (X2 M s))) he ⟨hg.os,hg.tape,hg.output,hg.size,fun b Gx KD=>hg.block b Gx fun e=>KD ⟨hd,h2,(JW e).symm⟩⟩ (fun i=>⟨.inl,fun h=>h.elim id fun e=>e ▸ hd⟩) (fun _ _=>rfl) (fun _=>.inl ⟨hd,h2,rfl⟩) ⟨h1,h2,Cy,hb',Wq,hR'⟩ (fun b j h=>.inl h) (fun j hx=>hx.elim);refine⟨.skip,w',x,undef,?_,.inr ⟨rfl,rfl⟩,by simp only[CV],g',he,fun _ h=>.inl h,fun _=>rfl⟩;simp[execOp,ho,hy,hz,hv,hrun]
end
mutual
def AA.fit:AA->Prop
 | ⟨_,_,_,_,_,_,_,_,kids,_,src⟩=>kids.length<=maxLen/\src.length<=maxLen/\AA.fits kids
def AA.fits:List AA->Prop
 | []=>True
 | b::l=>b.fit/\AA.fits l
end
theorem Ed : ∀l:List AA,AA.rows l=l.map AA.row
 | []=>rfl
 | x::l=>by simp only[AA.rows,Al];rw[Ed l]
mutual
def AA.cnt:AA->Nat
 | ⟨_,_,_,_,_,_,_,_,kids,_,_⟩=>1+AA.A9 kids
def AA.A9:List AA->Nat
 | []=>0
 | b::l=>b.cnt+AA.A9 l
end
mutual
def AA.Fk:AA->Prop
 | ⟨_,_,_,_,_,_,_,_,kids,_,src⟩=>src.length<=1000000/\AA.Jb kids
def AA.Jb:List AA->Prop
 | []=>True
 | b::l=>b.Fk/\AA.Jb l
end
theorem rN (b:AA):0<b.cnt:=by cases b;simp only[AA.cnt];omega
theorem OY : ∀l:List AA,l.length<=AA.A9 l
 | []=>BW _
 | b::l=>by have:=OY l;have:=rN b;simp only[AA.A9,BQ];omega
theorem kK : ∀(l:List AA) (i:Nat) (b:AA),l[i]?=some b->i+b.cnt<=AA.A9 l
 | [],i,b,h=>by simp at h
 | x::l,0,b,h=>by simp at h;subst h;simp only[AA.A9];omega
 | x::l,i+1,b,h=>by have:=kK l i b (by simpa using h);have:=rN x;simp only[AA.A9];omega
theorem rh : ∀(l:List AA) (i:Nat) (b:AA),AA.Jb l->l[i]?=some b->b.Fk
 | [],i,b,_,h=>by simp at h
 | x::l,0,b,hd,h=>by simp at h;subst h;exact hd.1
 | x::l,i+1,b,hd,h=>rh l i b hd.2 (by simpa using h)
theorem Lh (b:AA):b.row.length=11:=by cases b;rfl
theorem fi (l:List AA):∀r∈AA.rows l,r.length=11:=by
 rw[Ed];intro r hr;obtain⟨b,_,rfl⟩:=List.mem_map.1 hr;exact Lh b
theorem flat_get {l:List AA}{i q:Nat}{b:AA}(h:l[i]?=some b)(hq:q<11):((AA.rows l).flatten.map V.c)[i*11+q]?=(b.row.map V.c)[q]?:=by
 rw[Co,Co];congr 1
 rw[Ed];induction l generalizing i with
 | nil=>simp at h
 | cons x l ih =>
   cases i with
   | zero =>
     simp at h;subst h;rw[Al,GS,Nat.zero_mul,Cu,FK (by rw[Lh];exact hq)]
   | succ i =>
     rw[Al,GS,IP (by rw[Lh];omega),Lh,<-ih (i:=i) (by simpa using h)];congr 1
     omega
theorem y6 {N:Nat} : ∀ {l:List V} {i:Nat},l[i]?=some (.c (.sl []))->V.DB N l=true->Cv (FH 2) N (l.set i (.full [])) l
 | [],i,h,_=>by simp at h
 | v::l,0,h,hs=>by
   simp at h;subst h;simp only[V.DB,An]at hs;exact⟨.inr (.inr ⟨[],rfl,rfl⟩),Kg hs.2 (BW _)⟩
 | v::l,i+1,h,hs=>by
   simp only[V.DB,An]at hs;rw[Az];exact⟨.inr (.inl ⟨(wP (N:=N) (fun k _ hk=>by simp[FH,hk]) v hs.1).symm,(wO (BW _) v hs.1).1⟩),y6 (by simpa using h) hs.2⟩
theorem rY {N n:Nat}{t:List V}(hN:2<N)(hl:t.length=71)(ht:t.take 4=[.any,.ptr 0 0,.ptr 1 0,.own 2 0 n 1]):Cv (FH 2) N t (dT n):=by
 have e:t=[.any,.ptr 0 0,.ptr 1 0,.own 2 0 n 1]++t.drop 4:=by rw[<-ht,List.take_append_drop]
 rw[e];have e2:(67:Nat)=(t.drop 4).length:=by rw[List.length_drop,hl]
 unfold dT;rw[e2];refine Cv.append ?_ (Cv.any _);have h0:0<N:=by omega
 have h1:1<N:=by omega
 simp[Cv,Wk,V.Ec,V.BA,FH,hN,h0,h1]
section
variable {K:Exit->St->Prop}
abbrev DL (K:Exit->St->Prop)(s:St):Prop:=LA ⟨none,0⟩ AD Gt K s
def bO (K:Exit->St->Prop)(b:AA):Prop:=∀(H:List O) (st:List V) (j k off:Nat) (ty:TypeId) (cs:List V),H[2]?=some (Em (st++[.ptr k off]) j)->H[k]?=some (.box ty cs false)->k≠2->(∀q,q<11->cs[off+q]?=(b.row.map V.c)[q]?)->FY H->V.DB H.length st=true->st.length+b.cnt<1000000->
 (∀j',DL K ⟨dT st.length,H.set 2 (Em st j')⟩)->DL K ⟨dT (st.length+1),H⟩
theorem AAa (kids:List AA)(hk : ∀(i:Nat) (b:AA),kids[i]?=some b->bO K b)(G:List O)(st:List V)(L:Nat)(hL:G[L]?=some (.box 41 ((AA.rows kids).flatten.map V.c) false))(Je:L≠2)(h2:2<G.length)(hG:FY G)(hst:V.DB G.length st=true)(hb:st.length+AA.A9 kids<1000000)(hK : ∀j',DL K ⟨dT st.length,G.set 2 (Em st j')⟩):∀(i j:Nat),i<=kids.length->DL K ⟨dT (st.length+i),G.set 2 (Em (st++E6 L i) j)⟩
 | 0,j,_=>by
   have:E6 L 0=[]:=rfl;rw[this,List.append_nil];exact hK j
 | i+1,j,hi=>by
   have hlt:i<kids.length:=hi;obtain⟨b,hb'⟩:∃b,kids[i]?=some b:=⟨_,List.getElem?_eq_getElem hlt⟩
   have Fm:L<G.length:=(Bv.1 hL).1;have:=kK kids i b hb';have hl:(st++E6 L i).length=st.length+i:=by rw[List.length_append,AE6]
   have:=hk i b hb' (G.set 2 (Em (st++E6 L (i+1)) j)) (st++E6 L i) j L (i*11) 41 _ (by rw[EG h2,vg,EW]) (by rw[Di (fun e=>Je e.symm)];exact hL) Je (fun q hq=>flat_get hb' hq)
    (by intro a o ha ho;rw[Di (fun e=>ha e.symm)]at ho;rw[DU];exact hG a o ha ho) (by rw[DU];exact VI.2 ⟨hst,ve _ Fm Je⟩) (by rw[hl];omega)
    (fun j'=>by rw[List.set_set,hl];exact AAa kids hk G st L hL Je h2 hG hst hb hK i j' (by omega))
   rw[hl]at this;exact this
theorem AKT (b:AA)(hk0:b.kids=[])(hd:b.Fk):bO K b:=by
 intro H st j k off ty cs h2 hk hk2 BU Gw Ji hb hK;obtain⟨b0,b1,b2,b3,b4,b5,b6,b7,kids,b9,src⟩:=b;simp only at hk0;subst hk0;have Hq:cs[off+8]?=some (.c (.sl [])):=BU 8 (by omega);have P7:cs[off+10]?=some (.c (Ab src)):=BU 10 (by omega);have Ih:2<H.length:=(Bv.1 h2).1;obtain⟨_,_,_,Fs,MF⟩:=Gw k _ hk2 hk;cases Fs;refine LA.round (AKN H st.length k off ty cs _ src h2 hk hk2 ?_ (by omega) hd.1 Hq P7 fun t hl ht=>?_)
 . rw[EW,IP (BW _)];simp
 . refine LA.le (Le.Em 2 (.inl rfl) ?_ ⟨Em (st++[.ptr k off]) j,_,?_,EG Ih,?_⟩ (fun a o' ha ho=>?_)) (hK (j+1))
   . rw[DU];exact rY Ih hl ht
   . rw[Di hk2];exact h2
   . rw[DU];unfold Em;rw[EW];exact⟨rfl,rfl,Cv.append (Kg Ji (BW _)) (by have:=Cv.any (ρ:=FH 2) (N:=H.length) ([V.ptr k off]++As j .any);simpa [Nat.add_comm]using this)⟩
   . rw[Di (fun e=>ha e.symm)]at ho;rw[DU];by_cases e:a=k
     . subst e;rw[hk]at ho;cases ho;exact⟨_,EG (Bv.1 hk).1,rfl,rfl,y6 Hq MF⟩
     . exact⟨o',by rw[Di (fun h=>e h.symm)];exact ho,T1 (Gw a o' ha ho) (BW _)⟩
theorem toCs_map : ∀l:List C,toCs (l.map V.c)=some l
 | []=>rfl
 | c::l=>by simp only[Al,toCs,toC,toCs_map l]
theorem AKV (b:AA)(hk0:b.kids≠[])(hd:b.Fk)(ih : ∀(i:Nat) (c:AA),b.kids[i]?=some c->bO K c):bO K b:=by
 intro H st j k off ty cs h2 hk hk2 BU Gw Ji hb hK;obtain⟨b0,b1,b2,b3,b4,b5,b6,b7,kids,b9,src⟩:=b;simp only at hk0 ih;simp only[AA.cnt]at hb;have Hq:cs[off+8]?=some (.c (.sl (AA.rows kids))):=BU 8 (by omega);have P7:cs[off+10]?=some (.c (Ab src)):=BU 10 (by omega);have Ih:2<H.length:=(Bv.1 h2).1;have Bp:k<H.length:=(Bv.1 hk).1;have Am:(AA.rows kids).length=kids.length:=by rw[Ed];simp
 have hkp:0<kids.length:=List.length_pos_iff.2 hk0;have CU:=OY kids;obtain⟨_,_,_,Fs,MF⟩:=Gw k _ hk2 hk;cases Fs;refine LA.round (AKP H st.length k off ty cs src (AA.rows kids) st j rfl h2 hk hk2 (by omega) hd.1 Hq P7 (by omega) (by omega) (fi kids) Gw Ji (by omega) fun j'=>?_);obtain⟨H4,Jd⟩:∃H4,H4=H.set k (O.box ty (cs.set (off+8) (.own H.length 0 (AA.rows kids).length 11)) false)++[O.box 41 ((AA.rows kids).flatten.map V.c) false]:=⟨_,rfl⟩
 have e4:H4=(H++[O.box 41 ((AA.rows kids).flatten.map V.c) false]).set k (O.box ty (cs.set (off+8) (.own H.length 0 (AA.rows kids).length 11)) false):=by rw[Jd,List.set_append_left _ _ Bp]
 have l4:H4.length=H.length+1:=by rw[Jd];simp
 have s4:FY H4:=by
  rw[e4];refine FY.set (FY.push Gw (Zi _)) (nR ?_ ?_)
  . exact(Mb (by simp) cs MF).2
  . simp[V.sf];omega
 have L4:H4[H.length]?=some (.box 41 ((AA.rows kids).flatten.map V.c) false):=by rw[Jd,IP (by simp)];simp
 rw[<-Jd];have Qj:V.DB H4.length st=true:=(Mb (by omega) st Ji).2;have key:=AAa kids ih H4 st H.length L4 (by omega) (by omega) s4 Qj (by omega) (fun j2=>?_) kids.length j' (BW _)
 . refine LA.le (Le.Em 2 (.inl rfl) ?_ ⟨_,_,EG (by omega),EG (by omega),?_⟩ (fun a o' ha ho=>?_)) key
   . rw[DU];rw[Am];exact rY (by omega) rfl rfl
   . rw[DU,Am];exact⟨rfl,rfl,Cv.append (Kg (VI.2 ⟨Qj,ve _ (by omega) (by omega)⟩) (BW _)) (by have:=Cv.any (ρ:=FH 2) (N:=H4.length) (As j' V.any);simpa using this)⟩
   . rw[DU];rw[Di (fun e=>ha e.symm)]at ho;exact⟨o',by rw[Di (fun e=>ha e.symm)];exact ho,T1 (s4 a o' ha ho) (BW _)⟩
 .
   refine LA.le (Le.trans (Le.freeze H.length (row:=(AA.rows kids).flatten) (by rw[Di (by omega)];exact L4) (toCs_map _)) (Le.Em 2 (.inl rfl) ?_ ⟨O.AR H.length (AA.rows kids).flatten (Em st j2),_,?_,EG Ih,?_⟩ (fun a o' ha ho=>?_))) (hK j2)
   . rw[DU];have:V.BG H.length (AA.rows kids).flatten (dT st.length)=dT st.length:=by
      have sL : ¬2=H.length:=by omega
      have dB : ¬1=H.length:=by omega
      have Ys : ¬0=H.length:=by omega
      simp[dT,Ao,V.BG,V.AR,sL,dB,Ys]
     rw[this];exact rY Ih rfl rfl
   . rw[Co,Di (by omega),EG (by omega)];rfl
   . rw[DU];have hs:V.DB H.length (st++As j2 .any)=true:=VI.2 ⟨Ji,VJ.2 fun v hv=>by rw[(List.mem_replicate.1 hv).2];rfl⟩;simp only[O.AR,Em];rw[Rx (BW _) _ hs];exact⟨rfl,rfl,Kg hs (BW _)⟩
   . rw[DU];rw[Di (fun e=>ha e.symm)]at ho;have Et:a<H.length:=(Bv.1 ho).1;rw[Co,Di (by omega),Di (fun e=>ha e.symm),e4];by_cases e:a=k
     . subst e;rw[hk]at ho;cases ho;rw[EG (by simp;omega)];refine⟨_,rfl,?_⟩;simp only[O.AR];have:V.BG H.length (AA.rows kids).flatten (cs.set (off+8) (.own H.length 0 (AA.rows kids).length 11))=cs:=by
        rw[cb,List.map_set,<-cb,Rx (BW _) _ MF];simp only[V.AR,if_true,BO];rw[V8 _ (fi kids)];exact Zh Hq
       rw[this];exact⟨rfl,rfl,Kg MF (BW _)⟩
     . rw[Di (fun h=>e h.symm),FK Et,ho];obtain⟨Fy,cs',ca,rfl,hs⟩:=Gw a o' ha ho;refine⟨_,rfl,?_⟩;simp only[O.AR];rw[Rx (BW _) _ hs];exact⟨rfl,rfl,Kg hs (BW _)⟩
theorem AAc : ∀(b:AA),b.Fk->bO K b
 | ⟨b0,b1,b2,b3,b4,b5,b6,b7,kids,b9,src⟩,hd=>by
   by_cases hk0:kids=[]
   . exact AKT _ hk0 hd
   . refine AKV _ hk0 hd fun i c hc=>?_
     have hm:c∈kids:=List.mem_of_getElem? hc;exact AAc c (rh kids i c hd.2 hc)
 termination_by b=>SizeOf.sizeOf b
 decreasing_by
 have:=List.sizeOf_lt_of_mem hm;simp only[AA.mk.sizeOf_spec];omega
end
theorem ra (b:AA)(hd:b.Fk)(hc:b.cnt<999999):AC AD 173 [BD b] (BD b):=by
 obtain⟨R,hR⟩:∃R,R=b.row.map V.c:=⟨_,rfl⟩
 have L9:R.length=11:=by rw[hR,List.length_map,Lh]
 have Eu:R.all V.one=true:=by rw[hR];simp[V.one]
 have tO : ∀x∈R,x.one=true:=by simpa using Eu
 unfold BD;refine en Tryz.func173 Tryz.ntmps173 ?_;rw[<-hR];refine go (cj @L9<|cj @Eu<|@tO) ?_;with_reducible refine AW.DM ?_
 refine SW.Jm (fun v t=>v=.own 2 0 1 1/\t=some (2,.box 253 [.ptr 0 0] false)) (by simp[gate]) ?_ ?_
 . intro S0 w0 x a w g ht hkk;exact⟨_,_,fun _ _ h=>(by cases h;exact BW _),⟨rfl,rfl⟩,mP (P:=AD) (Bu:=8) g rfl (by simp) (Hn ht (i:=1) rfl) rfl _ hkk⟩
 rintro v t ⟨rfl,rfl⟩;simp only[St.step,St.put,CG,BQ,B6,Nat.reduceAdd,Nat.lt_irrefl,if_false,Az,BC,Bg,Bh];refine SW.take 1 ?_;with_reducible refine Bw (by simp[Ao];first|exact rfl|exact⟨rfl,rfl⟩) ?_
 refine B9 ?_;simp only[List.drop_succ_cons,BO];refine SW.nil ?_;with_reducible refine G7 ?_
 with_reducible refine AW.seq ?_
 with_reducible refine AW.block ?_
 with_reducible refine LA.loop ?_
 refine LA.le (s':=⟨dT 1,_⟩) (Le.BV (by simp[A5,dT,Ao])) ?_;refine AAc b hd _ [] 0 0 0 41 R rfl rfl (by omega) (fun q hq=>by rw[hR,Cu]) ?_ rfl (by simp only[B6];omega) (fun j'=>?_)
 . intro a o ha ho;match a,ho with
   | 0,ho=>cases ho;exact⟨_,_,_,rfl,by rw[hR];exact Zi _⟩
   | 1,ho=>cases ho;exact⟨_,_,_,rfl,rfl⟩
   | 2,ho=>exact absurd rfl ha
   | a+3,ho=>simp at ho
 . refine LA.round ?_;conv=>arg 3;unfold Gt
   obtain⟨b0,b1,b2,b3,b4,b5,b6,b7,kids,b9,src⟩:=b;simp only[AA.row,Al,List.map_nil]at hR;subst hR;simp only[cM,Tryz.f173,dT,Ao,List.replicate_zero,Bg,Bh,B6,Az,BC,Em];refine Ac ?_;simp[Aj,AV,AZ,Aa,V.AP,V.AO,AU,Tryz.results173,AA.row]
def Gg (o:Int)(n:Nat):Bool:=if o=0 then decide (n=0)else if o=1 then(decide (n % 2=0) && decide (n<=48))else if o=2 then(decide (n % 2=1) && decide (n<=49))else false
def Dm (l:List Int):Bool:=l.all fun n=>decide (0<=n)
def AA.I0 (b:AA):Bool:=Dm b.src && Gg b.KJ b.src.length
def AA.lens (b:AA):List Int:=[b.w,b.h,b.d,b.x,b.y]
def AA.Ej (b:AA):Bool:=
 if b.kind=1 then F2 b.name && (decide (1<=b.size) && (decide (b.size<=1000) && decide (b.kids.length=0)))
 else if b.kind=2 then decide (b.name=⟨#[]⟩) && (decide (b.size=0) && decide (b.kids.length=0))
 else if b.kind=3 then decide (b.name=⟨#[]⟩) && decide (b.size=0)
 else false
def AA.CZ (b:AA):Bool:=b.lens.all Aw && (b.Ej && b.I0)
mutual
def AA.EE:AA->Bool
 | ⟨k,n,s,w,h,d,x,y,kids,o,src⟩=>AA.CZ ⟨k,n,s,w,h,d,x,y,kids,o,src⟩ && AA.Hb kids
def AA.Hb:List AA->Bool
 | []=>true
 | b::l=>b.EE && AA.Hb l
end
mutual
def AA.nest:AA->Nat
 | ⟨_,_,_,_,_,_,_,_,kids,_,_⟩=>AA.Nz kids+1
def AA.Nz:List AA->Nat
 | []=>0
 | b::l=>max b.nest (AA.Nz l)
end
def AA.Av (b:AA):Bool:=b.EE && (decide (b.cnt<=20000) && decide (b.nest<=100))
mutual
def AA.pv (BB:Nat):AA->Nat->Bool×Nat
 | ⟨k,n,s,w,h,d,x,y,kids,o,src⟩,c=>if 20000<c+1\/100<BB\/AA.CZ ⟨k,n,s,w,h,d,x,y,kids,o,src⟩=false then(false,c+1)else AA.GP (BB+1) kids (c+1)
def AA.GP (BB:Nat):List AA->Nat->Bool×Nat
 | [],c=>(true,c)
 | b::l,c=>if (b.pv BB c).1=true then AA.GP BB l (b.pv BB c).2 else(false,(b.pv BB c).2)
end
mutual
theorem vj (BB:Nat):∀(b:AA) (c:Nat),(b.pv BB c).2<=c+b.cnt/\((b.pv BB c).1=true->(b.pv BB c).2=c+b.cnt)/\((b.pv BB c).1=true↔b.EE=true/\c+b.cnt<=20000/\BB+b.nest<=101)
 | ⟨k,n,s,w,h,d,x,y,kids,o,src⟩,c=>by
   have hk:=AFJ (BB+1) kids (c+1);simp only[AA.pv,AA.cnt,AA.EE,AA.nest];obtain⟨B,hB⟩:=AE (AA.CZ ⟨k,n,s,w,h,d,x,y,kids,o,src⟩);rw[hB];have hc:=OY kids;split
   . rename_i hq;refine⟨by simp only;omega,fun h=>(by cases h),⟨fun h=>(by cases h),fun h=>?_⟩⟩;simp only[An]at h;rcases hq with hq|hq|hq
     . omega
     . omega
     . rw[hq]at h;cases h.1.1
   . rename_i hq;have h1:B=true:=by cases B with
      | true=>rfl
      | false=>exact absurd (.inr (.inr rfl)) hq
     refine⟨by omega,fun h=>by have:=hk.2.1 h;omega,?_⟩;rw[hk.2.2,h1,B5];have AMZ:BB<=100:=NT fun h=>hq (.inr (.inl h))
     have hcc:c+1<=20000:=NT fun h=>hq (.inl h)
     constructor
     . rintro ⟨a1,a2,a3⟩;refine⟨a1,?_,?_⟩
       . rcases a2 with a2|rfl
         . omega
         . simp only[AA.A9];omega
       . rcases a3 with rfl|a3
         . simp only[AA.Nz];omega
         . omega
     . rintro ⟨a1,a2,a3⟩;exact⟨a1,.inl (by omega),.inr (by omega)⟩
theorem AFJ (BB:Nat):∀(l:List AA) (c:Nat),(AA.GP BB l c).2<=c+AA.A9 l/\((AA.GP BB l c).1=true->(AA.GP BB l c).2=c+AA.A9 l)/\((AA.GP BB l c).1=true↔AA.Hb l=true/\(c+AA.A9 l<=20000\/l=[])/\(l=[]\/BB+AA.Nz l<=101))
 | [],c=>by simp[AA.GP,AA.A9,AA.Hb]
 | b::l,c=>by
   have h1:=vj BB b c;have h2:=AFJ BB l (b.pv BB c).2;have hp:=rN b;simp only[AA.GP,AA.A9,AA.Hb,AA.Nz];split
   . rename_i hq;have e:=h1.2.1 hq;rw[e]at h2;obtain⟨p1,p2,p3⟩:=h1.2.2.1 hq;rw[e];refine⟨by omega,fun h=>by have:=h2.2.1 h;omega,?_⟩;rw[h2.2.2,p1,B5];constructor
     . rintro ⟨a1,a2,a3⟩;refine⟨a1,.inl ?_,.inr ?_⟩
       . rcases a2 with a2|rfl
         . omega
         . simp only[AA.A9];omega
       . rcases a3 with rfl|a3
         . simp only[AA.Nz];omega
         . omega
     . rintro ⟨a1,a2,a3⟩;simp only[reduceCtorEq,or_false,false_or]at a2 a3;exact⟨a1,.inl (by omega),.inr (by omega)⟩
   . rename_i hq;refine⟨by simp only;omega,fun h=>(by cases h),⟨fun h=>(by cases h),fun h=>?_⟩⟩;simp only[An,reduceCtorEq,or_false,false_or]at h;exact absurd (h1.2.2.2 ⟨h.1.1,by omega,by omega⟩) hq
end
theorem AR0 (b:AA):(b.pv 1 0).1=b.Av:=by
 have h:=(vj 1 b 0).2.2;unfold AA.Av;rw[Bool.eq_iff_iff,h];simp only[An,decide_eq_true_eq];constructor
 . rintro ⟨a,b,c⟩;exact⟨a,by omega,by omega⟩
 . rintro ⟨a,b,c⟩;exact⟨a,by omega,by omega⟩
theorem AJj (s:ByteArray)(hs:s.size<=maxLen):AC AD 339 [.c (.str s)] (.c (.bool (F2 s))):=by
 unfold maxLen at hs;refine en Tryz.func339 Tryz.ntmps339 ?_;refine Ac ?_;refine lp (ι:={ k:Nat // k<=s.size/\s.data.toList.all DH=(s.data.toList.drop k).all DH }) (fun k=>[(3,.c (.int .i64 (k.1:Int))),(2,.c (.bool false))]) (fun _=>[]) (fun k=>s.size - k.1) ⟨0,by simp⟩ ?_ ?_;all_goals simp only[Br,Bl,B7,BC,Az]
 . refine Le.BV (by simp[A5])
 . rintro ⟨k,hk,hI⟩;by_cases hlt:k<s.size
   . have hd:s.data.toList.drop k=(s.data[k]'hlt)::s.data.toList.drop (k+1):=by rw[Cz (by simpa using hlt)];simp
     rw[hd,List.all_cons]at hI;obtain⟨b,hb⟩:=AE (s.data[k]'hlt);rw[hb]at hI;have hw:Ad.wrap ((k:Int)+1)=((k+1:Nat):Int):=by rw[Aq];simp
     by_cases h1:(b.toNat:Int)<32
     . have e:DH b=false:=by simp[DH];omega
       refine go (cj @hlt<|cj @hb<|@h1) ?_;simp[Aj,AV,AZ,Aa,V.AP,V.AO,AU,qA,F2,hI,e]
     . by_cases h2:(126:Int)<(b.toNat:Int)
       . have e:DH b=false:=by simp[DH];omega
         refine go (cj @hlt<|cj @hb<|cj @h1<|@h2) ?_;simp[Aj,AV,AZ,Aa,V.AP,V.AO,AU,qA,F2,hI,e]
       . have e:DH b=true:=by simp[DH];omega
         refine go (cj @hlt<|cj @hb<|cj @h1<|cj @h2<|@hw) ?_;refine⟨⟨k+1,by omega,by rw[hI,e,B5]⟩,by simp only;omega,?_⟩;refine Le.BV (by simp[A5])
   . have hk':k=s.size:=by omega
     have e:s.data.toList.all DH=true:=by rw[hI,C5 (by simp;omega)];rfl
     have hkk:s.size=s.data.size:=rfl;by_cases h1:(1:Int)<=(s.size:Int)
     . have hr:F2 s=decide ((s.size:Int)<=16):=by
        unfold F2;rw[e,B5,decide_eq_true (show 1<=s.size by omega),B5,decide_eq_decide];omega
       refine go (cj @hlt<|@h1) ?_;simp[Aj,AV,AZ,Aa,V.AP,V.AO,AU,qA,hr]
     . have hr:F2 s=false:=by
        unfold F2;rw[decide_eq_false (show ¬1<=s.size by omega),C2,Bool.and_false]
       refine go (cj @hlt<|@h1) ?_;simp[Aj,AV,AZ,Aa,V.AP,V.AO,AU,qA,hr]
theorem AD0 (n:Nat)(h:n<=9223372036854775807):Ad.wrap ((n:Int).tmod 2)=((n % 2:Nat):Int):=by
 have h1:(n:Int).tmod 2=((n % 2:Nat):Int):=by rw[Int.tmod_eq_emod_of_nonneg (by omega)];omega
 rw[h1];exact Aq
theorem Xc (b0:Int)(b1:ByteArray)(b2 b3 b4 b5 b6 b7:Int)(kids:List AA)(o:Int)(src:List Int)(hs:src.length<=maxLen):AC AD 340 [.cp (AA.row ⟨b0,b1,b2,b3,b4,b5,b6,b7,kids,o,src⟩) 0] (.c (.bool (AA.I0 ⟨b0,b1,b2,b3,b4,b5,b6,b7,kids,o,src⟩))):=by
 unfold maxLen at hs;have hR:AA.I0 ⟨b0,b1,b2,b3,b4,b5,b6,b7,kids,o,src⟩=(Dm src && Gg o src.length):=rfl;rw[hR];have hm:=AD0 src.length hs;simp only[AA.row];refine en Tryz.func340 Tryz.ntmps340 ?_;refine go @Ab.eq_1 ?_;refine lp (ι:={ k:Nat // k<=src.length/\Dm src=Dm (src.drop k) }) (fun k=>[(11,.c (.int .i64 (k.1:Int))),(2,.c (.bool false))]) (fun _=>[]) (fun k=>src.length - k.1) ⟨0,by simp⟩ ?_ ?_;all_goals simp only[Br,Bl,B7,BC,Az]
 . refine Le.BV (by simp[A5])
 . rintro ⟨k,hk,hI⟩;by_cases hlt:k<src.length
   . rw[Cz hlt]at hI;obtain⟨z,hz⟩:=AE (src[k]);rw[hz]at hI;have hw:Ad.wrap ((k:Int)+1)=((k+1:Nat):Int):=by rw[Aq];simp
     by_cases h1:z<0
     . have e:Dm src=false:=by rw[hI];simp[Dm];omega
       refine go (cj @hlt<|cj @hz<|@h1) ?_;simp[Aj,AV,AZ,Aa,V.AP,V.AO,AU,YR,e]
     . have e:Dm src=Dm (src.drop (k+1)):=by rw[hI];simp[Dm];intro;omega
       refine go (cj @hlt<|cj @hz<|cj @h1<|@hw) ?_;refine⟨⟨k+1,by omega,e⟩,by simp only;omega,?_⟩;refine Le.BV (by simp[A5])
   . have e:Dm src=true:=by rw[hI,C5 (by omega)];rfl
     by_cases o0:o=0
     . subst o0;have hr:Gg 0 src.length=decide (src.length=0):=rfl;refine go (cj @hlt<|@Ab.eq_1) ?_;simp[Aj,AV,AZ,Aa,V.AP,V.AO,AU,YR,e,hr]
     . by_cases o1:o=1
       . subst o1;by_cases hp:src.length % 2=0
         . have hr:Gg 1 src.length=decide ((src.length:Int)<=48):=by simp[Gg,hp];omega
           refine go (cj @hlt<|cj @Ab.eq_1<|cj @hm<|@hp) ?_;simp[Aj,AV,AZ,Aa,V.AP,V.AO,AU,YR,e,hr]
         . have hr:Gg 1 src.length=false:=by simp[Gg,hp]
           have Ud:src.length % 2=1:=by omega
           refine go (cj @hlt<|cj @Ab.eq_1<|cj @hm<|@Ud) ?_;simp[Aj,AV,AZ,Aa,V.AP,V.AO,AU,YR,e,hr]
       . by_cases o2:o=2
         . subst o2;by_cases hp:src.length % 2=1
           . have hr:Gg 2 src.length=decide ((src.length:Int)<=49):=by simp[Gg,hp];omega
             refine go (cj @hlt<|cj @Ab.eq_1<|cj @hm<|@hp) ?_;simp[Aj,AV,AZ,Aa,V.AP,V.AO,AU,YR,e,hr]
           . have hr:Gg 2 src.length=false:=by simp[Gg,hp]
             have Ud:src.length % 2=0:=by omega
             refine go (cj @hlt<|cj @Ab.eq_1<|cj @hm<|@Ud) ?_;simp[Aj,AV,AZ,Aa,V.AP,V.AO,AU,YR,e,hr]
         . have hr:Gg o src.length=false:=by simp[Gg,o0,o1,o2]
           refine go (cj @hlt<|cj @Ab.eq_1<|cj @o0<|cj @o1<|@o2) ?_;simp[Aj,AV,AZ,Aa,V.AP,V.AO,AU,YR,e,hr]
structure AM where
 level:Int
 GJ:Bool
def Ai (s:AM):V:=.agg [.c (.int .i64 s.level),.c (.bool s.GJ)]
def AM.ok (s:AM):Bool:=decide (0<=s.level) && decide (s.level<=3)
theorem Xy (s:AM):AC AD 81 [Ai s] (.c (.bool s.ok)):=by
 obtain⟨l,c⟩:=s;unfold Ai;by_cases h:0<=l
 . have e:AM.ok ⟨l,c⟩=decide (l<=3):=by unfold AM.ok;rw[decide_eq_true h,B5]
   refine en YI Tryz.ntmps81 ?_;refine go @h ?_;simp[Aj,AV,AZ,Aa,V.AP,V.AO,AU,Tryz.results81,e]
 . have e:AM.ok ⟨l,c⟩=false:=by unfold AM.ok;rw[decide_eq_false h,C2]
   refine en YI Tryz.ntmps81 ?_;refine go @h ?_;simp[Aj,AV,AZ,Aa,V.AP,V.AO,AU,Tryz.results81,e]
def BK (p:Params)(s:AM):Int:=if s.ok=false then 0 else if s.level=2 then p.Jo else if s.level=3 then p.Jp else 100
end Go.Proofs.YtpodcjcajanldaaGreat
