/- Part of the proof of breakpointPieces.proved. Conditions: none. -/
import Derived.Maps.AppendAt
import Derived.RangeFuncNested
import Derived.RangeFuncLeaves
import Derived.Laws.Tables
import Derived.Laws.MakeOwn
import Derived.Laws.Closers25b
import Derived.Great.BuildSlice
import Derived.OrdersIn
import Derived.RangeFuncCalls
import Derived.Test.YtegconioojpgmaaGreatY0
set_option linter.unusedVariables false
set_option linter.unusedSimpArgs false
set_option maxRecDepth 100000
set_option maxHeartbeats 16000000
open Go.Lit renaming int->I9,wf->So
open Go.Value renaming oneCell'->Xh
open List renaming getElem?_set->RD,getElem?_drop->Ve,zipIdx_cons->mb,getD->mS,range->E6,replicate->Aq,map_map->M7,getElem?_toArray->mV,mem_of_mem_take->uT,length_drop->Ns,flatten_append->Vd,size_toArray->uW,length_nil->BO
open Go.World renaming cell?_of_block->RK
open Iff renaming rfl->RA
open Prod.mk renaming injEq->Cr
open Go.Sem renaming run_bind->Jt,run->HW,run_pure->mu
open Go.Instr renaming fill->fi,loadAt->mF,sureAddr->Ol,indexAt->mE,sliceAt->mK,slice->uI,sliceBounds->mL,sliceBound->uJ
open List.cons renaming injEq->Vb
open Array renaming foldl_toList->AMK,toList_zipIdx->AMQ
open Nat renaming add_assoc->mg
open Go.IntKind renaming i64->AZ,u8->uL
open Go.ByteArray renaming toList_eq->uC
open Go.Op renaming equal->Pt,equalIn->aP,operands->Bl
open Go.Result renaming andThen_ok->Oo
open Go.Builtin renaming len_->uA,append_->aE
open Go.Call renaming operands->Df
open Go.Fence renaming wide->Cg
open Go.Oper renaming wp->Er,upon->Nt,uponIn->ue,wp_mono->mo
open Go.Region renaming wanted->FB
open Option renaming some->J,none->E
open Bool renaming false->U,true->I
open List renaming length->G
namespace Go.Proofs.YtegconioojpgmaaGreat
open Go.RowKit Tryz
variable {w:World}{c:Code}{us:List Value}{u:Value}{B:Nat->Prop}{ty:TypeId}{y:Operand}{ag:Bool}{s:TypeId}{Ae:TypeId}{es:Nat}{next:Act->World->Prop}{Q:Exit->Act->World->Prop}
inductive C where
 | int (k:IntKind) (n:Int)
 | bool (b:Bool)
 | str (s:ByteArray)
 | XF
 | Cv
 | EV (f:FuncId)
 | MA (m:Nat)
 | sl (AG:List (List C))
abbrev BF:=Nat->Nat->Prop
mutual
def Ab (S:BF)(w:World):C->Value->Prop
 | .int k n,v=>v=.int k n/\(I9 k n).wf=I
 | .bool b,v=>v=.bool b
 | .str s,v=>v=.string s/\s.size<=maxLen
 | .XF,v=>v=.pointer E
 | .Cv,v=>v=.nilFunc
 | .EV f,v=>v=.func (.func f) #[] #[]
 | .MA m,v=>v=.map (J m)
 | .sl AG,v=>∃A c,v=.slice A (G AG) c/\(G AG)<=c/\c<=maxLen/\(AG≠[]->∃b off es,A=J ⟨b,off,E⟩/\(∀r∈AG,G r=es)/\D9 S w AG b off)
def B5 (S:BF)(w:World):List C->Nat->Nat->Prop
 | [],_,_=>True
 | c::r,b,off=>(∃v,w.cell? ⟨b,off,E⟩=J v/\Ab S w c v)/\S b off/\B5 S w r b (off+1)
def D9 (S:BF)(w:World):List (List C)->Nat->Nat->Prop
 | [],_,_=>True
 | r::rs,b,off=>B5 S w r b off/\D9 S w rs b (off+G r)
end
def B4 (S:BF)(w:World):List C->List Value->Prop
 | [],vs=>vs=[]
 | c::r,vs=>∃v vr,vs=v::vr/\Ab S w c v/\B4 S w r vr
structure Ar (S S':BF)(w w':World):Prop where
 sub : ∀b j,S b j->S' b j
 cell : ∀b j v,S b j->w.cell? ⟨b,j,E⟩=J v->w'.cell? ⟨b,j,E⟩=J v
theorem Ar.refl (S:BF)(w:World):Ar S S w w:=⟨λ_ _ h=>h,λ_ _ _ _ h=>h⟩
theorem Ar.trans {S M R:BF}{w w' K:World}(h:Ar S M w w')(k:Ar M R w' K):Ar S R w K:=⟨λb j x=>k.sub b j (h.sub b j x),λb j v x y=>k.cell b j v (h.sub b j x) (h.cell b j v x y)⟩
mutual
theorem Ab.mono {S M:BF}{w w':World}(h:Ar S M w w'):∀(c:C) (v:Value),Ab S w c v->Ab M w' c v
 | .int _ _,v,r=>by simpa only[Ab]using r
 | .bool _,v,r=>by simpa only[Ab]using r
 | .str _,v,r=>by simpa only[Ab]using r
 | .XF,v,r=>by simpa only[Ab]using r
 | .Cv,v,r=>by simpa only[Ab]using r
 | .EV _,v,r=>by simpa only[Ab]using r
 | .MA _,v,r=>by simpa only[Ab]using r
 | .sl R,v,r=>by
   simp only[Ab]at r ⊢;obtain⟨A,c,e,q,z,h3⟩:=r;refine⟨A,c,e,q,z,λhl=>?_⟩;obtain⟨b,K,es,hA,he,hs⟩:=h3 hl;exact⟨b,K,es,hA,he,D9.mono h R b K hs⟩
theorem B5.mono {S K:BF}{w w':World}(h:Ar S K w w'):∀(l:List C) (b off:Nat),B5 S w l b off->B5 K w' l b off
 | [],_,_,_=>by simp only[B5]
 | c::r,b,off,x=>by
   simp only[B5]at x ⊢;obtain⟨⟨v,R,q⟩,M,z⟩:=x;exact⟨⟨v,h.cell _ _ _ M R,Ab.mono h c v q⟩,h.sub _ _ M,B5.mono h r b _ z⟩
theorem D9.mono {S K:BF}{w w':World}(h:Ar S K w w'):∀(l:List (List C)) (b off:Nat),D9 S w l b off->D9 K w' l b off
 | [],_,_,_=>by simp only[D9]
 | r::M,b,off,x=>by
   simp only[D9]at x ⊢;exact⟨B5.mono h r b off x.1,D9.mono h M b _ x.2⟩
end
theorem B4.mono {S K:BF}{w w':World}(h:Ar S K w w'):∀(l:List C) (vs:List Value),B4 S w l vs->B4 K w' l vs
 | [],_,x=>x
 | c::r,vs,x=>by
   simp only[B4]at x ⊢;obtain⟨v,M,e,R,q⟩:=x;exact⟨v,M,e,Ab.mono h c v R,B4.mono h r M q⟩
theorem B4.len {S:BF}{w:World} : ∀ {l:List C} {vs:List Value},B4 S w l vs->G vs=G l
 | [],_,x=>by simp only[B4]at x;subst x;rfl
 | c::r,vs,x=>by
   simp only[B4]at x;obtain⟨v,M,rfl,_,K⟩:=x;simp[B4.len K]
theorem Ab.one {S:BF}{w:World} : ∀ {c:C} {v:Value},Ab S w c v->v.oneCell'=I
 | .int _ _,v,r=>by simp only[Ab]at r;simp[r.1,Xh]
 | .bool _,v,r=>by simp only[Ab]at r;simp[r,Xh]
 | .str _,v,r=>by simp only[Ab]at r;simp[r.1,Xh]
 | .XF,v,r=>by simp only[Ab]at r;simp[r,Xh]
 | .Cv,v,r=>by simp only[Ab]at r;simp[r,Xh]
 | .EV _,v,r=>by simp only[Ab]at r;simp[r,Xh]
 | .MA _,v,r=>by simp only[Ab]at r;simp[r,Xh]
 | .sl _,v,r=>by simp only[Ab]at r;obtain⟨A,c,rfl,_⟩:=r;simp[Xh]
theorem B4.r8 {S:BF}{w:World} : ∀ {l:List C} {vs:List Value},B4 S w l vs->∀u∈vs,u.oneCell'=I
 | [],_,x=>by simp only[B4]at x;subst x;simp
 | c::r,vs,x=>by
   simp only[B4]at x;obtain⟨v,q,rfl,M,R⟩:=x;intro u K;rcases Cf.1 K with rfl|K
   exact M.one;exact B4.r8 R u K
theorem B4.append {S:BF}{w:World} : ∀ {l m:List C} {xs K:List Value},B4 S w l xs->B4 S w m K->B4 S w (l++m) (xs++K)
 | [],m,xs,K,h,M=>by simp only[B4]at h;subst h;simpa using M
 | c::l,m,xs,K,h,M=>by
   simp only[B4]at h;obtain⟨v,z,rfl,R,q⟩:=h;simp only[BK,B4];exact⟨v,z++K,F,R,B4.append q M⟩
theorem B4.split {S:BF}{w:World} : ∀ {l m:List C} {xs:List Value},B4 S w (l++m) xs->∃K zs,xs=K++zs/\B4 S w l K/\B4 S w m zs
 | [],m,xs,h=>⟨[],xs,rfl,by simp only[B4],h⟩
 | c::l,m,xs,h=>by
   simp only[BK,B4]at h;obtain⟨v,vr,rfl,M,R⟩:=h;obtain⟨K,zs,rfl,q,z⟩:=B4.split R;exact⟨v::K,zs,F,by simp only[B4];exact⟨v,K,F,M,q⟩,z⟩
theorem B4.get {S:BF}{w:World} : ∀ {l:List C} {vs:List Value},B4 S w l vs->∀(i:Nat) (c:C),l[i]?=J c->∃v,vs[i]?=J v/\Ab S w c v
 | [],_,_,i,c,h=>by simp at h
 | x::r,vs,h,i,c,K=>by
   simp only[B4]at h;obtain⟨v,q,rfl,M,R⟩:=h;match i,K with
   | 0,K=>simp only[LX,BL]at K;subst K;exact⟨v,F,M⟩
   | i+1,K=>simpa using B4.get R i c (by simpa using K)
theorem B5.vals {S:BF}{w:World} : ∀(l:List C) (b off:Nat),B5 S w l b off->∃vs,B4 S w l vs/\(∀j u,vs[j]?=J u->w.cell? ⟨b,off+j,E⟩=J u)/\∀j,j<G l->S b (off+j)
 | [],b,off,_=>⟨[],by simp only[B4],λj u h=>by simp at h,λj h=>by simp at h⟩
 | c::r,b,off,x=>by
   simp only[B5]at x;obtain⟨⟨v,R,q⟩,z,h4⟩:=x;obtain⟨vs,k1,k2,k3⟩:=B5.vals r b _ h4;refine⟨v::vs,by simp only[B4];exact⟨v,vs,F,q,k1⟩,λj u K=>?_,λj M=>?_⟩;match j,K with
   | 0,K=>simp only[LX,BL]at K;subst K;exact R
   | j+1,K=>rw[show off+(j+1)=off+1+j by omega];exact k2 j u (by simpa using K)
   match j,M with
   | 0,_=>exact z
   | j+1,M=>rw[show off+(j+1)=off+1+j by omega];exact k3 j (by simpa using M)
theorem B5.Pe {S:BF}{w:World} : ∀ {l:List C} {vs:List Value} {b off:Nat},B4 S w l vs->(∀j u,vs[j]?=J u->w.cell? ⟨b,off+j,E⟩=J u)->(∀j,j<G l->S b (off+j))->B5 S w l b off
 | [],_,_,_,_,_,_=>by simp only[B5]
 | c::r,vs,b,off,h,M,K=>by
   simp only[B4]at h;obtain⟨v,vr,rfl,R,q⟩:=h;simp only[B5];refine⟨⟨v,M 0 v F,R⟩,K 0 ZA,B5.Pe q (λj u hu=>?_) (λj z=>?_)⟩;have:=M (j+1) u (by simpa using hu);rw[show off+(j+1)=off+1+j by omega]at this;exact this;have:=K (j+1) (by simpa using z);rw[show off+(j+1)=off+1+j by omega]at this;exact this
theorem B5.append {S:BF}{w:World} : ∀ {l m:List C} {b off:Nat},B5 S w (l++m) b off↔B5 S w l b off/\B5 S w m b (off+G l)
 | [],m,b,off=>by simp[B5]
 | c::l,m,b,off=>by
   simp only[BK,B5,B5.append (l:=l),BA];rw[show off+1+G l=off+(G l+1)by omega];simp only[and_assoc]
theorem D9.flat {S:BF}{w:World} : ∀ {AG:List (List C)} {b off:Nat},D9 S w AG b off↔B5 S w AG.flatten b off
 | [],b,off=>by simp[D9,B5]
 | r::K,b,off=>by simp only[D9,Hp,B5.append,D9.flat]
theorem D9.AS {S:BF}{w:World}{es:Nat} : ∀ {AG:List (List C)} {b off:Nat},D9 S w AG b off->(∀r∈AG,G r=es)->∀(i:Nat) (r:List C),AG[i]?=J r->B5 S w r b (off+i*es)
 | [],_,_,_,_,i,r,h=>by simp at h
 | x::q,b,off,h,M,i,r,K=>by
   simp only[D9]at h;match i,K with
   | 0,K=>simp only[LX,BL]at K;subst K;simpa using h.1
   | i+1,K=>have:=D9.AS h.2 (λr R=>M r (by simp[R])) i r (by simpa using K);rw[M x ZA]at this;rw[show off+(i+1)*es=off+es+i*es by rw[Gz];omega];exact this
theorem B5.get {S:BF}{l:List C}{b off:Nat}(h:B5 S w l b off){i:Nat}{c:C}(R:l[i]?=J c):∃v,w.cell? ⟨b,off+i,E⟩=J v/\Ab S w c v:=by
 obtain⟨vs,q,z,_⟩:=B5.vals l b off h;obtain⟨v,K,M⟩:=q.get i c R;exact⟨v,z i v K,M⟩
theorem D9.drop {S:BF}{w:World}{es:Nat} : ∀(n:Nat) {AG:List (List C)} {b off:Nat},D9 S w AG b off->(∀r∈AG,G r=es)->n<=G AG->D9 S w (AG.drop n) b (off+n*es)
 | 0,AG,b,off,h,_,_=>by simpa using h
 | n+1,[],b,off,_,_,h=>by simp at h
 | n+1,r::q,b,off,h,K,M=>by
   simp only[D9]at h;have:=D9.drop n h.2 (λr R=>K r (by simp[R])) (by simpa using M);rw[K r ZA]at this;rw[show off+(n+1)*es=off+es+n*es by rw[Gz];omega];simpa using this
theorem D9.take {S:BF}{w:World} : ∀(n:Nat) {AG:List (List C)} {b off:Nat},D9 S w AG b off->D9 S w (AG.take n) b off
 | 0,AG,b,off,_=>by simp[D9]
 | n+1,[],b,off,_=>by simp[D9]
 | n+1,r::K,b,off,h=>by
   simp only[D9,DP]at h ⊢;exact⟨h.1,D9.take n h.2⟩
inductive V where
 | any
 | c (c:C)
 | agg (l:List V)
 | A7 (l:List V)
 | ptr (k off:Nat)
 | own (k off len es:Nat)
 | cp (row:List C) (off:Nat)
 | Bg (AG:List (List C))
 | gr (k es:Nat) (AG:List (List C))
 | fn (f:FuncId) (caps:List V)
 | Be (k es:Nat) (AG:List (List C))
 | hp (k n pos:Nat)
 | yl (l:Nat)
 | mp (k:Nat)
instance:Coe Int V:=⟨λ n=>.c (.int .i64 n)⟩
instance:Coe Nat V:=⟨λ n=>.c (.int .i64 n)⟩
inductive O where
 | box (ty:TypeId) (cells:List V) (frozen:Bool)
 | tok (ty:TypeId) (es cur:Nat)
 | Be (ty:TypeId) (es cur:Nat) (cells:List V)
 | mp (R:Nat->Obj->Prop)
structure Loc where
 b:Nat
 n:Nat
 tok:Bool
 cur:Nat
 void:Bool
structure Cx where
 dom:Nat->Prop
 loc:Nat->Loc
 S:BF
mutual
def CV (x:Cx)(w:World):V->Value->Prop
 | .any,_=>True
 | .c c,v=>Ab x.S w c v
 | .agg l,v=>∃vs:Array Value,v=.agg vs/\AO x w l vs.toList
 | .A7 l,v=>∃vs:Array Value,v=.tuple vs/\AO x w l vs.toList
 | .ptr k off,v=>x.dom k/\(x.loc k).tok=U/\v=.pointer (J ⟨(x.loc k).b,off,E⟩)
 | .own k off len es,v=>x.dom k/\(x.loc k).tok=U/\∃cap,v=.slice (J ⟨(x.loc k).b,off,E⟩) len cap/\len<=cap/\cap<=maxLen/\off+cap*es<=(x.loc k).n
 | .cp row off,v=>∃b o,v=.pointer (J ⟨b,o+off,E⟩)/\B5 x.S w row b o
 | .Bg AG,v=>∃A,v=.slice A (G AG) (G AG)/\Ab x.S w (.sl AG) v
 | .gr k es AG,v=>x.dom k/\(x.loc k).tok=I/\Ab x.S w (.sl AG) v/\(∀r∈AG,G r=es)/\(G AG)<=(x.loc k).cur/\(G AG=(x.loc k).cur->
    if (x.loc k).void then ∃A,v=.slice A (G AG) (G AG) else ∃cap,v=.slice (J ⟨(x.loc k).b,0,E⟩) (G AG) cap/\cap*es=(x.loc k).n)
 | .fn f caps,v=>∃vs:Array Value,v=.func (.func f) #[] vs/\AO x w caps vs.toList
 | .Be k es AG,v=>x.dom k/\(x.loc k).tok=I/\(∀r∈AG,G r=es)/\(G AG)+1<=(x.loc k).cur/\∃A cap,v=.slice A (G AG+1) cap/\(G AG+1=(x.loc k).cur->
    (x.loc k).void=U/\A=J ⟨(x.loc k).b,0,E⟩/\(G AG)+1<=cap/\cap<=maxLen/\cap*es=(x.loc k).n/\B5 x.S w AG.flatten (x.loc k).b 0)
 | .hp k n pos,v=>x.dom k/\(x.loc k).tok=I/\n<=(x.loc k).cur/\∃A,v=.pointer A/\(n=(x.loc k).cur->A=J ⟨(x.loc k).b,pos,E⟩)
 | .yl l,v=>v=.func (.yield l) #[] #[]
 | .mp k,v=>x.dom k/\(x.loc k).tok=U/\v=.map (J (x.loc k).b)
def AO (x:Cx)(w:World):List V->List Value->Prop
 | [],vs=>vs=[]
 | v::r,vs=>∃u ur,vs=u::ur/\CV x w v u/\AO x w r ur
end
def FM (l l':Loc):Prop:=l'.tok=l.tok/\(l=l'\/(l.tok=I/\l.cur<l'.cur))
structure Ext (x x':Cx)(w w':World):Prop where
 ar:Ar x.S x'.S w w'
 dom : ∀k,x.dom k->x'.dom k
 loc : ∀k,x.dom k->FM (x.loc k) (x'.loc k)
theorem FM.refl (l:Loc):FM l l:=⟨rfl,.inl F⟩
theorem FM.trans {a b c:Loc}(h:FM a b)(k:FM b c):FM a c:=by
 refine⟨k.1.trans h.1,?_⟩;rcases h.2 with rfl|K
 exact k.2;rcases k.2 with rfl|M
 exact .inr K;exact .inr ⟨K.1,Nat.lt_trans K.2 M.2⟩
theorem Ext.refl (x:Cx)(w:World):Ext x x w w:=⟨Ar.refl _ _,λ_ h=>h,λ_ _=>FM.refl _⟩
theorem Ext.trans {x y z:Cx}{a b c:World}(h:Ext x y a b)(k:Ext y z b c):Ext x z a c:=⟨h.ar.trans k.ar,λi K=>k.dom i (h.dom i K),λi K=>(h.loc i K).trans (k.loc i (h.dom i K))⟩
mutual
theorem CV.mono {x x':Cx}{w w':World}(h:Ext x x' w w'):∀(v:V) (u:Value),CV x w v u->CV x' w' v u
 | .any,_,_=>by simp only[CV]
 | .c c,u,r=>by simp only[CV]at r ⊢;exact Ab.mono h.ar c u r
 | .agg l,u,r=>by simp only[CV]at r ⊢;obtain⟨vs,e,r⟩:=r;exact⟨vs,e,AO.mono h l _ r⟩
 | .A7 l,u,r=>by simp only[CV]at r ⊢;obtain⟨vs,e,r⟩:=r;exact⟨vs,e,AO.mono h l _ r⟩
 | .ptr k A0,u,r=>by
   simp only[CV]at r ⊢;obtain⟨K,M,rfl⟩:=r;obtain⟨e,l⟩:=h.loc k K;rcases l with l|l
   exact⟨h.dom k K,by rw[e,M],by rw[l]⟩;rw[M]at l;cases l.1
 | .own k A0 len es,u,r=>by
   simp only[CV]at r ⊢;obtain⟨K,M,cap,rfl,q,S,R⟩:=r;obtain⟨e,l⟩:=h.loc k K;rcases l with l|l
   rw[l]at R;exact⟨h.dom k K,by rw[e,M],cap,by rw[l],q,S,R⟩;rw[M]at l;cases l.1
 | .cp row A0,u,r=>by simp only[CV]at r ⊢;obtain⟨b,o,rfl,r⟩:=r;exact⟨b,o,F,B5.mono h.ar row b o r⟩
 | .Bg AG,u,r=>by simp only[CV]at r ⊢;obtain⟨A,e,r⟩:=r;exact⟨A,e,Ab.mono h.ar _ u r⟩
 | .gr k es AG,u,r=>by
   simp only[CV]at r ⊢;obtain⟨K,M,q,S,R,h6⟩:=r;obtain⟨e,l⟩:=h.loc k K;refine⟨h.dom k K,by rw[e,M],Ab.mono h.ar _ u q,S,?_⟩;rcases l with l|l
   rw[<-l];exact⟨R,h6⟩;exact⟨Ux,λe=>absurd e Ux⟩
 | .fn f z,u,r=>by simp only[CV]at r ⊢;obtain⟨vs,e,r⟩:=r;exact⟨vs,e,AO.mono h z _ r⟩
 | .Be k es AG,u,r=>by
   simp only[CV]at r ⊢;obtain⟨K,M,q,S,A,cap,R,h6⟩:=r;obtain⟨e,l⟩:=h.loc k K;refine⟨h.dom k K,by rw[e,M],q,?_⟩;rcases l with l|l
   rw[<-l];exact⟨S,A,cap,R,λe=>let ⟨k1,k2,k3,k4,k5,k6⟩:=h6 e;⟨k1,k2,k3,k4,k5,B5.mono h.ar _ _ _ k6⟩⟩;exact⟨Ux,A,cap,R,λe=>absurd e Ux⟩
 | .hp k n pos,u,r=>by
   simp only[CV]at r ⊢;obtain⟨K,M,q,A,S,R⟩:=r;obtain⟨e,l⟩:=h.loc k K;refine⟨h.dom k K,by rw[e,M],?_⟩;rcases l with l|l
   rw[<-l];exact⟨q,A,S,R⟩;exact⟨Ux,A,S,λe=>absurd e Ux⟩
 | .yl l,u,r=>by simpa only[CV]using r
 | .mp k,u,r=>by
   simp only[CV]at r ⊢;obtain⟨K,M,rfl⟩:=r;obtain⟨e,l⟩:=h.loc k K;rcases l with l|l
   exact⟨h.dom k K,by rw[e,M],by rw[l]⟩;rw[M]at l;cases l.1
theorem AO.mono {x x':Cx}{w w':World}(h:Ext x x' w w'):∀(l:List V) (us:List Value),AO x w l us->AO x' w' l us
 | [],_,r=>by simpa only[AO]using r
 | v::l,us,r=>by
   simp only[AO]at r ⊢;obtain⟨u,K,e,M,R⟩:=r;exact⟨u,K,e,CV.mono h v u M,AO.mono h l K R⟩
end
theorem AO.len {x:Cx}{w:World} : ∀ {l:List V} {us:List Value},AO x w l us->G us=G l
 | [],_,r=>by simp only[AO]at r;subst r;rfl
 | v::l,us,r=>by
   simp only[AO]at r;obtain⟨u,M,rfl,_,K⟩:=r;simp[AO.len K]
theorem AO.get {x:Cx}{w:World} : ∀ {l:List V} {us:List Value},AO x w l us->∀(i:Nat) (v:V),l[i]?=J v->∃u,us[i]?=J u/\CV x w v u
 | [],_,_,i,v,h=>by simp at h
 | y::l,us,r,i,v,K=>by
   simp only[AO]at r;obtain⟨u,S,rfl,M,R⟩:=r;match i,K with
   | 0,K=>simp only[LX,BL]at K;subst K;exact⟨u,F,M⟩
   | i+1,K=>simpa using AO.get R i v (by simpa using K)
theorem AO.SI {x:Cx}{w:World} : ∀ {l:List V} {us:List Value},G us=G l->(∀(i:Nat) (v:V) (u:Value),l[i]?=J v->us[i]?=J u->CV x w v u)->AO x w l us
 | [],us,h,_=>by simp only[AO];exact Nr (by simpa using h)
 | y::l,us,h,K=>by
   match us,h with
   | u::q,h=>simp only[AO];exact⟨u,q,F,K 0 y u rfl F,AO.SI (by simpa using h) λi v S M R=>K (i+1) v S (by simpa using M) (by simpa using R)⟩
theorem AO.append {x:Cx}{w:World} : ∀ {l m:List V} {xs K:List Value},AO x w l xs->AO x w m K->AO x w (l++m) (xs++K)
 | [],m,xs,K,h,M=>by simp only[AO]at h;subst h;simpa using M
 | c::l,m,xs,K,h,M=>by
   simp only[AO]at h;obtain⟨v,q,rfl,R,S⟩:=h;simp only[BK,AO];exact⟨v,q++K,F,R,AO.append S M⟩
theorem AO.set {x:Cx}{l:List V}(h:AO x w l us)(i:Nat){v:V}(hv:CV x w v u):AO x w (l.set i v) (us.set i u):=by
 refine AO.SI (by simp[h.len]) λj v' u' K M=>?_
 rw[RD]at K M;by_cases e:i=j;subst e;by_cases R:i<G l;have S:i<G us:=by rw[h.len];exact R
 simp[R]at K;simp[S]at M;subst K M;exact hv;simp[R]at K;simp only[e,Awh]at K M;obtain⟨u2,q,z⟩:=h.get j v' K;rw[q]at M;cases M;exact z
theorem AO.take {x:Cx}{l:List V}(h:AO x w l us)(n:Nat):AO x w (l.take n) (us.take n):=by
 refine AO.SI (by simp[h.len]) λj z u' K M=>?_
 rw[KO]at K M;split at K;rename_i q;rw[Awd q]at M;obtain⟨u2,R,S⟩:=h.get j z K;rw[R]at M;cases M;exact S;cases K
theorem AO.drop {x:Cx}{l:List V}(h:AO x w l us)(n:Nat):AO x w (l.drop n) (us.drop n):=by
 refine AO.SI (by simp[h.len]) λj q z M K=>?_
 rw[Ve]at M K;obtain⟨u2,R,S⟩:=h.get _ q M;rw[R]at K;cases K;exact S
theorem AO.getD {x:Cx}{l:List V}(h:AO x w l us)(i:Nat)(d:Value):CV x w (l.getD i .any) (us.getD i d):=by
 rw[Bv,Bv];cases R:l[i]? with
 | none=>simp only[Hr,CV]
 | some v=>obtain⟨u,K,M⟩:=h.get i v R;rw[K];exact M
theorem AO.OS {x:Cx}{w:World} : ∀ {l:List C} {vs:List Value},B4 x.S w l vs->AO x w (l.map V.c) vs
 | [],_,h=>by simp only[B4]at h;simpa only[BB,AO]using h
 | c::l,vs,h=>by
   simp only[B4]at h;obtain⟨v,R,rfl,K,M⟩:=h;simp only[Ap,AO,CV];exact⟨v,R,F,K,AO.OS M⟩
theorem CV.CP {x:Cx}{v:V}(h:CV x w v u){S:BF}{w':World}(K:Ar x.S S w w'):CV { x with S:=S } w' v u:=by
 have M:Ext x { x with S:=S } w w':=⟨K,λ_ h=>h,λ_ _=>FM.refl _⟩
 exact CV.mono M v u h
section
structure KB (B:Nat->Prop)(w w':World):Prop where
 os:w'.os=w.os
 tape:w'.tape=w.tape
 output:w'.output=w.output
 size:w.heap.size<=w'.heap.size
 block : ∀k,k<w.heap.size->¬B k->w'.heap[k]?=w.heap[k]?
theorem KB.FR {W K:World}(h:Ay W K):KB B W K:=⟨h.os,h.tape,h.output,h.size,λk M _=>h.block k M⟩
theorem KB.after {w W R:World}(h:KB B W R)(K:Ay w W)(S : ∀k,B k->w.heap.size<=k):Ay w R:=
 ⟨h.os.trans K.os,h.tape.trans K.tape,h.output.trans K.output,Ps K.size h.size,λk M=>(h.block k (H7 M K.size) λe=>by have:=S k e;omega).trans (K.block k M)⟩
theorem KB.cell {w w':World}(h:KB B w w'){b j:Nat}(hb : ¬B b){v:Value}(K:w.cell? ⟨b,j,E⟩=J v):w'.cell? ⟨b,j,E⟩=J v:=
 (RK (h.block b (block_lt_of_cell K) hb)).trans K
theorem KB.trans {w w' K:World}(h:KB B w w')(k:KB B w' K):KB B w K:=
 ⟨k.os.trans h.os,k.tape.trans h.tape,k.output.trans h.output,Ps h.size k.size,λi M R=>(k.block i (H7 M h.size) R).trans (h.block i M R)⟩
theorem KB.wide {B C:Nat->Prop}{w w':World}(h:KB B w w')(K : ∀k,B k->C k):KB C w w':=⟨h.os,h.tape,h.output,h.size,λk M R=>h.block k M λe=>R (K k e)⟩
structure Bs where
 w:World
 F:Nat->Prop
 lt : ∀b,F b->b<w.heap.size
 x0:Cx
 n0:Nat
 dl : ∀k,x0.dom k->k<n0
def Cx.none:Cx:={ dom:=λ_=>False,loc:=λ_=>⟨0,0,U,0,U⟩,S:=λ_ _=>False }
theorem Ext.none (x:Cx)(w w':World):Ext Cx.none x w w':=⟨⟨λ_ _ h=>h.elim,λ_ _ _ h=>h.elim⟩,λ_ h=>h.elim,λ_ h=>h.elim⟩
def Bs.of (w:World):Bs:=⟨w,λb=>b<w.heap.size,λ_ h=>h,Cx.none,0,λ_ h=>h.elim⟩
theorem KB.all {w w':World}(h:KB (λb=>¬(Bs.of w).F b) (Bs.of w).w w'):Ay w w':=⟨h.os,h.tape,h.output,h.size,λk K=>h.block k K λM=>M K⟩
def still:Obj->Bool
 | .cells _ _ _=>U
 | .map _ _=>U
 | _=>I
def Ld (x:Cx)(w:World)(k:Nat):O->Prop
 | .box ty cells _=>(x.loc k).tok=U/\(x.loc k).void=U/\∃vs:Array Value,w.heap[(x.loc k).b]?=J (.cells vs ty (0,0))/\vs.size=(x.loc k).n/\AO x w cells vs.toList
 | .tok ty _ cur=>(x.loc k).tok=I/\(x.loc k).cur=cur/\((x.loc k).void=U->∃vs:Array Value,w.heap[(x.loc k).b]?=J (.cells vs ty (0,0))/\vs.size=(x.loc k).n)
 | .Be ty es cur cells=>(x.loc k).tok=I/\(x.loc k).void=U/\(x.loc k).cur=cur/\0<cur/\(G cells)=es/\∃vs:Array Value,w.heap[(x.loc k).b]?=J (.cells vs ty (0,0))/\vs.size=(x.loc k).n/\cur*es<=vs.size/\AO x w cells ((vs.toList.drop ((cur - 1)*es)).take es)
 | .mp R=>(x.loc k).tok=U/\(x.loc k).void=U/\∃ob:Obj,w.heap[(x.loc k).b]?=J ob/\still ob=U/\R (x.loc k).b ob
def Ex (x:Cx)(k:Nat):O->Nat->Prop
 | .box _ _ fr,j=>fr=U/\j<(x.loc k).n
 | .tok _ es cur,j=>(x.loc k).void=U/\cur*es<=j/\j<(x.loc k).n
 | .Be _ es cur _,j=>(cur - 1)*es<=j/\j<(x.loc k).n
 | .mp _,_=>False
abbrev Bx:=Nat->Option O
def Bx.set (H:Bx)(k:Nat)(o:O):Bx:=λi=>if i=k then J o else H i
structure Good (S0:BF)(w0:Bs)(x:Cx)(w:World)(H:Bx):Prop where
 ok : ∀k o,H k=J o->x.dom k/\Ld x w k o
 dom : ∀k,x.dom k->∃o,H k=J o
 inj : ∀k k' o o',H k=J o->H k'=J o'->k≠k'->(x.loc k).void=U->(x.loc k').void=U->(x.loc k).b≠(x.loc k').b
 EA : ∀k o j,H k=J o->Ex x k o j->¬x.S (x.loc k).b j
 ex : ∀b j,x.S b j->b<w.heap.size
 own : ∀k o,H k=J o->(x.loc k).void=U->¬w0.F (x.loc k).b
 new : ∀b j,x.S b j->S0 b j\/¬w0.F b
 sub : ∀b j,S0 b j->x.S b j
 keep:KB (λb=>¬w0.F b) w0.w w
 ext:Ext w0.x0 x w0.w w
theorem Good.fresh {S0:BF}{w0:Bs}{x:Cx}{H:Bx}(g:Good S0 w0 x w H){b:Nat}(h:w.heap.size<=b):¬w0.F b:=λK=>by have:=w0.lt b K;have:=g.keep.size;omega
theorem Ld.lt {x:Cx}{k:Nat}{o:O}(h:Ld x w k o)(M:(x.loc k).void=U):(x.loc k).b<w.heap.size:=by
 cases o with
 | box ty cells S=>obtain⟨_,_,vs,h,_⟩:=h;exact(DO.1 h).1
 | tok ty es K=>obtain⟨_,_,h⟩:=h;obtain⟨vs,h,_⟩:=h M;exact(DO.1 h).1
 | Be ty es K cells=>obtain⟨_,_,_,_,_,vs,h,_⟩:=h;exact(DO.1 h).1
 | mp R=>obtain⟨_,_,q,h,_⟩:=h;exact(DO.1 h).1
theorem Ld.mono {x x':Cx}{w w':World}{k:Nat}{o:O}(h:Ld x w k o)(he:Ext x x' w w')(K:x'.loc k=x.loc k)(hb:(x.loc k).void=U->w'.heap[(x.loc k).b]?=w.heap[(x.loc k).b]?):Ld x' w' k o:=by
 cases o with
 | box ty cells fr=>obtain⟨S,M,vs,q,z,h5⟩:=h;exact⟨by rw[K,S],by rw[K,M],vs,by rw[K,hb M,q],by rw[K,z],AO.mono he _ _ h5⟩
 | tok ty es A0=>obtain⟨S,M,q⟩:=h;refine⟨by rw[K,S],by rw[K,M],λhv=>?_⟩;rw[K]at hv ⊢;obtain⟨vs,z,h5⟩:=q hv;exact⟨vs,by rw[hb hv,z],h5⟩
 | Be ty es A0 cells=>obtain⟨S,M,q,z,h5,vs,h6,h7,h8,h9⟩:=h;exact⟨by rw[K,S],by rw[K,M],by rw[K,q],z,h5,vs,by rw[K,hb M,h6],by rw[K,h7],h8,AO.mono he _ _ h9⟩
 | mp R=>obtain⟨S,M,ob,q,z⟩:=h;exact⟨by rw[K,S],by rw[K,M],ob,by rw[K,hb M,q],by rw[K];exact z⟩
theorem Ex.loc {x x':Cx}{k:Nat}{o:O}{j:Nat}(K:x'.loc k=x.loc k)(h:Ex x' k o j):Ex x k o j:=by
 cases o with
 | mp R=>exact h
 | _=>simpa only[Ex,K]using h
variable {S0:BF} {w0:Bs} {x x':Cx} {w w':World} {H:Bx}
theorem Good.MF (g:Good S0 w0 x w H)(hk:Ay w w')(ar:Ar x.S x'.S w w')(hd:x'.dom=x.dom)(M:x'.loc=x.loc)(hS : ∀b j,x'.S b j->x.S b j\/(w.heap.size<=b/\b<w'.heap.size)):Good S0 w0 x' w' H/\Ext x x' w w':=by
 have he:Ext x x' w w':=⟨ar,λk h=>by rw[hd];exact h,λk _=>by rw[M];exact FM.refl _⟩
 refine⟨⟨λk o h=>?_,λk h=>g.dom k (by rw[hd]at h;exact h),λk k' o o' h h'=>by rw[M];exact g.inj k k' o o' h h',λk o j h hx=>?_,λb j h=>?_,λk o h=>by rw[M];exact g.own k o h,λb j h=>?_,λb j h=>ar.sub b j (g.sub b j h),g.keep.trans (.FR hk),g.ext.trans he⟩,he⟩;obtain⟨h1,K⟩:=g.ok k o h;exact⟨by rw[hd];exact h1,K.mono he (by rw[M]) λhv=>hk.block _ (K.lt hv)⟩;have ON:Ex x k o j:=Ex.loc (by rw[M]) hx;intro q;rw[M]at q;rcases hS _ _ q with q|q
 exact g.EA k o j h ON q;have K:=(g.ok k o h).2;have hv:(x.loc k).void=false:=by
  cases o with
  | box ty cells fr=>exact K.2.1
  | tok ty es z=>exact ON.1
  | Be ty es z cells=>exact K.2.1
  | mp R=>exact K.2.1
 have:=K.lt hv;omega;rcases hS _ _ h with h|h
 exact H7 (g.ex b j h) hk.size;exact h.2;rcases hS _ _ h with h|h
 exact g.new b j h;exact .inr (g.fresh h.1)
theorem Good.H5 (g:Good S0 w0 x w H)(k:Nat)(o':O)(he:Ext x x' w w')(A2:KB (λb=>x.dom k/\(x.loc k).void=U/\(x.loc k).b=b) w w')(hd : ∀i,x'.dom i↔x.dom i\/i=k)(hl : ∀i,i≠k->x'.loc i=x.loc i)(A3:(x'.loc k).void=U->(x.dom k/\(x.loc k).void=U/\(x'.loc k).b=(x.loc k).b)\/w.heap.size<=(x'.loc k).b)(A5:Ld x' w' k o')(hS : ∀b j,x'.S b j->x.S b j\/(b<w'.heap.size/\(w.heap.size<=b\/(x.dom k/\(x.loc k).void=U/\(x.loc k).b=b))/\((x'.loc k).b=b->¬Ex x' k o' j)))(A7 : ∀j,Ex x' k o' j->¬x.S (x'.loc k).b j):Good S0 w0 x' w' (H.set k o'):=by
 have Ga : ∀i o,H i=J o->i≠k->(x.loc i).void=U->¬(x.dom k/\(x.loc k).void=U/\(x.loc k).b=(x.loc i).b):=by
  rintro i o hi M K ⟨h1,z,h3⟩;obtain⟨ok,A5⟩:=g.dom k h1;exact g.inj k i ok o A5 hi (λe=>M e.symm) z K h3
 have A1 : ∀b,(x.dom k/\(x.loc k).void=U/\(x.loc k).b=b)->¬w0.F b:=by
  rintro b ⟨h1,z,rfl⟩;obtain⟨ok,A5⟩:=g.dom k h1;exact g.own k ok A5 z
 refine⟨λi o h=>?_,λi h=>?_,λi i' o o2 h h' M K A0=>?_,λi o j h hx=>?_,λb j h=>?_,λi o h K=>?_,λb j h=>?_,λb j h=>he.ar.sub b j (g.sub b j h),g.keep.trans (A2.wide A1),g.ext.trans he⟩;by_cases e:i=k;subst e;simp[Bx.set]at h;subst h;exact⟨(hd i).2 (.inr F),A5⟩;simp only[Bx.set,e,Awh]at h;obtain⟨h1,z⟩:=g.ok i o h;exact⟨(hd i).2 (.inl h1),z.mono he (hl i e) λK=>A2.block _ (z.lt K) (Ga i o h e K)⟩;by_cases e:i=k;subst e;exact⟨o',by simp[Bx.set]⟩;rcases (hd i).1 h with h|h
 obtain⟨o,ho⟩:=g.dom i h;exact⟨o,by simp[Bx.set,e,ho]⟩;exact absurd h e
 .
   have Ja : ∀i o,H i=J o->i≠k->(x'.loc i).void=U->(x'.loc k).void=U->(x'.loc i).b≠(x'.loc k).b:=by
    intro i o hi M K dJ e;rw[hl i M]at K e;rcases A3 dJ with h|h
    exact Ga i o hi M K ⟨h.1,h.2.1,by rw[<-h.2.2,e]⟩;have:=((g.ok i o hi).2).lt K;omega
   by_cases e:i=k;subst e;have jz:i'≠i:=λe=>M e.symm
   simp only[Bx.set,jz,Awh]at h';exact λe=>Ja i' o2 h' jz A0 K e.symm
   simp only[Bx.set,e,Awh]at h;by_cases e':i'=k;subst e';exact Ja i o h e K A0;simp only[Bx.set,e',Awh]at h';rw[hl i e]at K ⊢;rw[hl i' e']at A0 ⊢;exact g.inj i i' o o2 h h' M K A0
 by_cases e:i=k;subst e;simp[Bx.set]at h;subst h;intro q;rcases hS _ _ q with q|q
 exact A7 j hx q;exact q.2.2 rfl hx;simp only[Bx.set,e,Awh]at h;have ON:Ex x i o j:=Ex.loc (hl i e) hx;have z:=(g.ok i o h).2;have K:(x.loc i).void=false:=by
  cases o with
  | box ty cells fr=>exact z.2.1
  | tok ty es A6=>exact ON.1
  | Be ty es A6 cells=>exact z.2.1
  | mp R=>exact z.2.1
 intro q;rw[hl i e]at q;rcases hS _ _ q with q|q
 exact g.EA i o j h ON q;rcases q.2.1 with q|q
 have:=z.lt K;omega;exact Ga i o h e K q;rcases hS _ _ h with h|h
 exact H7 (g.ex b j h) A2.size;exact h.1;by_cases e:i=k;subst e;rcases A3 K with h|h
 obtain⟨ok,A5⟩:=g.dom i h.1;rw[h.2.2];exact g.own i ok A5 h.2.1;exact g.fresh h;simp only[Bx.set,e,Awh]at h;rw[hl i e]at K ⊢;exact g.own i o h K;rcases hS _ _ h with h|h
 exact g.new b j h;rcases h.2.1 with h|h
 exact .inr (g.fresh h);exact .inr (A1 b h)
def Cx.C4 (x:Cx)(k:Nat)(l:Loc):Cx:={ dom:=λi=>x.dom i\/i=k,loc:=λi=>if i=k then l else x.loc i,S:=x.S }
theorem Good.ext1 (k:Nat)(l:Loc)(M : ¬x.dom k)(R : ∀b j v,x.S b j->w.cell? ⟨b,j,E⟩=J v->w'.cell? ⟨b,j,E⟩=J v):Ext x (x.C4 k l) w w':=
 ⟨⟨λ_ _ h=>h,R⟩,λ_ h=>.inl h,λi K=>by
   have:i≠k:=λe=>M (e ▸ K)
   simp[Cx.C4,this,FM.refl]⟩
theorem Good.Zc (g:Good S0 w0 x w H)(k:Nat)(z : ¬x.dom k)(ty:TypeId)(cells:List V)(vs:Array Value)(hv:AO x w cells vs.toList) :
 Good S0 w0 (x.C4 k ⟨w.heap.size,vs.size,U,0,U⟩) (w.alloc (.cells vs ty)) (H.set k (.box ty cells U))/\Ext x (x.C4 k ⟨w.heap.size,vs.size,U,0,U⟩) w (w.alloc (.cells vs ty)):=by
 have M:Ay w (w.alloc (.cells vs ty)):=(Ay.refl w).alloc _;have K:Ext x (x.C4 k ⟨w.heap.size,vs.size,U,0,U⟩) w (w.alloc (.cells vs ty)):=Good.ext1 k _ z λb j v _ S=>M.cell S
 refine⟨g.H5 k _ K (.FR M) (λi=>RA) (λi q=>by simp[Cx.C4,q]) (λ_=>.inr (by simp[Cx.C4])) ?_ (λb j h=>.inl h) (λj hx R=>?_),K⟩;refine⟨by simp[Cx.C4],by simp[Cx.C4],vs,?_,by simp[Cx.C4],AO.mono K _ _ hv⟩;simp only[Cx.C4,Awg];exact heap_alloc_new w _;simp only[Cx.C4,Awg]at R;have:=g.ex _ _ R;omega
theorem Good.ACa (g:Good S0 w0 x w H)(k:Nat)(ty:TypeId)(cells K:List V)(z:H k=J (.box ty cells U))(vs M:Array Value)(hb:w.heap[(x.loc k).b]?=J (.cells vs ty (0,0)))(hs:M.size=vs.size)(hv:AO x w K M.toList) :
 Good S0 w0 x (w.setRow (x.loc k).b M) (H.set k (.box ty K U))/\Ext x x w (w.setRow (x.loc k).b M):=by
 obtain⟨hd,A5⟩:=g.ok k _ z;obtain⟨h1,q,us,h3,h4,h5⟩:=A5;rw[hb]at h3;cases h3;have A0 : ∀b j,x.S b j->(∃v,w.cell? ⟨b,j,E⟩=J v)->b≠(x.loc k).b:=by
  rintro b j hS ⟨v,R⟩ rfl;have hj:j<(x.loc k).n:=by
   rw[cell_of_row w _ j vs ty (0,0) hb]at R;have:=(DO.1 R).1;omega
  exact g.EA k _ j z ⟨rfl,hj⟩ hS
 have he:Ext x x w (w.setRow (x.loc k).b M):=⟨⟨λ_ _ h=>h,λb j v hS R=>by
  have CT:=A0 b j hS ⟨v,R⟩;rw[RK (w:=w) (a:=⟨b,j,E⟩) (setRow_other w _ b M CT)];exact R⟩,λ_ h=>h,λ_ _=>FM.refl _⟩
 refine⟨g.H5 k _ he ⟨F,F,F,ZA,λi _ hn=>setRow_other w _ i M (λe=>hn ⟨hd,q,e.symm⟩)⟩ (λi=>⟨.inl,λh=>h.elim id (λe=>e ▸ hd)⟩) (λ_ _=>rfl) (λ_=>.inl ⟨hd,q,F⟩) ?_ (λb j h=>.inl h) (λj hx=>g.EA k _ j z hx),he⟩;exact⟨h1,q,M,setRow_heap w _ vs M ty (0,0) hb,by rw[hs,h4],AO.mono he _ _ hv⟩
structure NC (w w':World):Prop where
 size:w.heap.size<=w'.heap.size
 same : ∀(b:Nat) (o:Obj),w.heap[b]?=J o->still o=I->w'.heap[b]?=J o
theorem NC.refl (w:World):NC w w:=⟨BN _,λ_ _ h _=>h⟩
theorem NC.trans {a b c:World}(h:NC a b)(k:NC b c):NC a c:=⟨Ps h.size k.size,λi o M K=>k.same i o (h.same i o M K) K⟩
theorem NC.FR {w w':World}(h:Ay w w'):NC w w':=⟨h.size,λb _ K _=>(h.block b (DO.1 K).1).trans K⟩
def Bs.re (w0:Bs)(w:World)(h:w0.w.heap.size<=w.heap.size):Bs:=
 ⟨w,λb=>w0.F b\/∃o:Obj,w.heap[b]?=J o/\still o=I,λb hb=>by
   rcases hb with hb|⟨o,hb,_⟩
   exact H7 (w0.lt b hb) h;exact(DO.1 hb).1,Cx.none,0,λ_ h=>h.elim⟩
theorem Ld.cells {k:Nat}{o:O}(h:Ld x w k o)(q:(x.loc k).void=U):∃K:Obj,w.heap[(x.loc k).b]?=J K/\still K=false:=by
 cases o with
 | box ty cells z=>obtain⟨_,_,vs,h,_⟩:=h;exact⟨_,h,F⟩
 | tok ty es M=>obtain⟨_,_,h⟩:=h;obtain⟨vs,h,_⟩:=h q;exact⟨_,h,F⟩
 | Be ty es M cells=>obtain⟨_,_,_,_,_,vs,h,_⟩:=h;exact⟨_,h,F⟩
 | mp R=>obtain⟨_,_,K,h,S,_⟩:=h;exact⟨K,h,S⟩
theorem Good.XR (g:Good S0 w0 x w H):Good x.S (w0.re w g.keep.size) x w H:=by
 refine⟨g.ok,g.dom,g.inj,g.EA,g.ex,λk o h q K=>?_,λb j h=>.inl h,λ_ _ h=>h,.FR (Ay.refl w),Ext.none _ _ _⟩;rcases K with K|⟨ob,M,R⟩
 exact g.own k o h q K;obtain⟨o2,z,h4⟩:=(g.ok k o h).2.cells q;rw[z]at M;cases M;rw[h4]at R;cases R
theorem Good.Sg {q:Bx}(g:Good S0 w0 x w H)(z:Ext x x' w w')(K:Good x.S (w0.re w g.keep.size) x' w' q):Good S0 w0 x' w' q/\NC w w':=by
 refine⟨⟨K.ok,K.dom,K.inj,K.EA,K.ex,λk o h hv M=>K.own k o h hv (.inl M),λb j h=>?_,λb j h=>K.sub b j (g.sub b j h),g.keep.trans (K.keep.wide λb R M=>R (.inl M)),g.ext.trans z⟩,K.keep.size,λb o R ho=>?_⟩;rcases K.new b j h with h|h
 exact g.new b j h;exact .inr λM=>h (.inl M)
 exact(K.keep.block b (DO.1 R).1 λhn=>hn (.inr ⟨o,R,ho⟩)).trans R
theorem Good.grown {row:Option Nat}(g:Good S0 w0 x w H)(K:w.grownBy w' row)(hr : ∀r,row=J r->¬w0.F r/\∃o:Obj,w.heap[r]?=J o/\still o=I):Good S0 w0 x w' H/\Ext x x w w':=by
 have hb : ∀(b:Nat) (ob:Obj),w.heap[b]?=J ob->still ob=U->w'.heap[b]?=w.heap[b]?:=λb ob h hs=>K.block b (DO.1 h).1 λe=>by
  obtain⟨_,o,R,M⟩:=hr b e.symm;rw[h]at R;cases R;rw[hs]at M;cases M
 have q:Ext x x w w':=⟨⟨λ_ _ h=>h,λb j v _ S=>by
  have z : ∃vs ty fl,w.heap[b]?=J (.cells vs ty fl):=by
   unfold World.cell? at S;cases hx:w.heap[b]? with
   | none=>simp[hx]at S
   | some o=>cases o<;>first|exact⟨_,_,_,F⟩|simp[hx]at S
  obtain⟨vs,ty,fl,z⟩:=z;exact(RK (hb b _ z F)).trans S⟩,λ_ h=>h,λ_ _=>FM.refl _⟩
 refine⟨⟨λk o h=>?_,g.dom,g.inj,g.EA,λb j h=>H7 (g.ex b j h) K.size,g.own,g.new,g.sub,g.keep.trans ⟨K.os,K.tape,K.output,K.size,λk hk hn=>K.block k hk λe=>hn (hr k e.symm).1⟩,g.ext.trans q⟩,q⟩;obtain⟨R,M⟩:=g.ok k o h;exact⟨R,M.mono q rfl λhv=>by obtain⟨o2,h3,h4⟩:=M.cells hv;exact hb _ _ h3 h4⟩
def Marks (w0:Bs)(ds:List Deferred)(w:World):Prop:=∃Ds:List Nat,ds=Ds.map (λD=>{ target:=.collected D,args:=#[] })/\Ds.Nodup/\∀D∈Ds,¬w0.F D/\w.heap[D]?=J (.deferred (J []))
theorem Marks.nil (w0:Bs)(w:World):Marks w0 [] w:=⟨[],rfl,List.nodup_nil,λ_ h=>nomatch h⟩
theorem Marks.mono {K:List Deferred}(h:Marks w0 K w)(hn:NC w w'):Marks w0 K w':=by
 obtain⟨S,q,z,M⟩:=h;exact⟨S,q,z,λD R=>⟨(M D R).1,hn.same D _ (M D R).2 F⟩⟩
end
section
def V.one:V->Bool
 | .c _ | .ptr _ _ | .own _ _ _ _ | .cp _ _ | .Bg _ | .gr _ _ _ | .fn _ _ | .Be _ _ _ | .hp _ _ _ | .yl _ | .mp _=>I
 | .any | .agg _ | .A7 _=>U
def V.cells:V->List V
 | .agg l=>l
 | v=>[v]
def V.flat:V->Bool
 | .agg l=>l.all V.one
 | v=>v.one
theorem CV.one {x:Cx}{v:V}(h:CV x w v u)(M:v.one=I):u.oneCell'=true:=by
 cases v with
 | any=>cases M
 | agg l=>cases M
 | A7 l=>cases M
 | c c=>simp only[CV]at h;exact h.one
 | ptr k K=>simp only[CV]at h;obtain⟨_,_,rfl⟩:=h;rfl
 | own k K len es=>simp only[CV]at h;obtain⟨_,_,cap,rfl,_⟩:=h;rfl
 | cp row K=>simp only[CV]at h;obtain⟨_,_,rfl,_⟩:=h;rfl
 | Bg R=>simp only[CV]at h;obtain⟨_,rfl,_⟩:=h;rfl
 | gr k es R=>simp only[CV]at h;exact h.2.2.1.one
 | fn f S=>simp only[CV]at h;obtain⟨_,rfl,_⟩:=h;rfl
 | Be k es R=>simp only[CV]at h;obtain⟨_,_,_,_,A,cap,rfl,_⟩:=h;rfl
 | hp k n pos=>simp only[CV]at h;obtain⟨_,_,_,A,rfl,_⟩:=h;rfl
 | yl l=>simp only[CV]at h;subst h;rfl
 | mp k=>simp only[CV]at h;obtain⟨_,_,rfl⟩:=h;rfl
theorem AEj (h:u.oneCell'=I):u.cells=#[u]:=by cases u<;>first|rfl|cases h
theorem CV.cells {x:Cx}{v:V}(h:CV x w v u)(K:v.flat=I):AO x w v.cells u.cells.toList/\∀y∈u.cells.toList,y.oneCell'=true:=by
 by_cases M:v.one=I;have:=h.one M;rw[AEj this];have e:v.cells=[v]:=by cases v<;>first|rfl|cases M
 rw[e];simp only[AO];exact⟨⟨u,[],F,h,F⟩,by simpa using this⟩;cases v with
 | agg l =>
   simp only[CV]at h;obtain⟨vs,rfl,h⟩:=h;refine⟨h,λy hy=>?_⟩;obtain⟨i,S⟩:=List.mem_iff_getElem?.1 hy;have OF:i<G l:=by rw[<-h.len];exact(Br.1 S).1
   obtain⟨u,R,q⟩:=h.get i l[i] (BE OF);have:u=y:=by
    have z:vs.toList[i]?=J y:=S;rw[z]at R;cases R;rfl
   subst this;refine q.one ?_;simp only[V.flat,ES]at K;exact K _ (Kq OF)
 | _=>first|exact absurd rfl M|cases K
def v1:Value->V
 | .int k n=>if (I9 k n).wf then .c (.int k n)else .any
 | .bool b=>.c (.bool b)
 | .string s=>if s.size<=maxLen then .c (.str s)else .any
 | .pointer E=>.c .XF
 | .nilFunc=>.c .Cv
 | .slice E 0 0=>.Bg []
 | _=>.any
def T5:Value->V
 | .agg cs=>.agg (cs.toList.map v1)
 | v=>v1 v
theorem ALu (x:Cx)(w:World)(u:Value):CV x w (v1 u) u:=by
 unfold v1;split;split;simp only[CV,Ab];exact⟨W,Awa⟩;simp only[CV];simp only[CV,Ab];split;simp only[CV,Ab];exact⟨W,Awa⟩;simp only[CV];simp only[CV,Ab];simp only[CV,Ab];simp only[CV,Ab];exact⟨E,F,E,0,F,ZA,by simp[maxLen],λh=>absurd rfl h⟩;simp only[CV]
theorem ACB (x:Cx)(w:World):∀l:List Value,AO x w (l.map v1) l
 | []=>by simp only[BB,AO]
 | u::l=>by simp only[Ap,AO];exact⟨u,l,F,ALu x w u,ACB x w l⟩
theorem ALv (x:Cx)(w:World)(u:Value):CV x w (T5 u) u:=by
 unfold T5;split;simp only[CV];exact⟨_,F,ACB x w _⟩;exact ALu x w _
def ev (t:List V):Operand->V
 | .tmp i=>t.getD i .any
 | .const v=>T5 v
 | .func f=>.fn f []
 | .global _=>.any
theorem CW {x:Cx}{t:List V}{a:Act}(h:AO x w t a.tmps.toList)(y:Operand):CV x w (ev t y) (a.eval y):=by
 cases y with
 | tmp i=>have:=h.getD i undef;simpa [ev,Act.eval,Kl,Bv]using this
 | const v=>exact ALv x w v
 | func f=>simp only[ev,Act.eval,CV];exact⟨#[],F,by simp only[AO]⟩
 | global g=>simp only[ev,CV]
def B6 (P:Program)(t:TypeId):Option (Bool×Nat):=
 match P.underlying t,P.info? t with
 | some d,J i=>J (iM d,i.size)
 | _,_=>E
def C2 (P:Program)(t:TypeId):Option (List V):=
 match P.info? t with
 | some i=>i.zero.map λz=>z.cells.toList.map v1
 | none=>E
def Fj (P:Program)(t:TypeId):Option (Nat->Option (Nat×Nat)):=
 match P.underlying t with
 | some (.struct fields)=>(fields.toList.mapM (λf=>(P.info? f.type).map λi=>(f.offset,i.size))).map λl i=>l[i]?
 | some (.array _ e)=>(P.info? e).map λie i=>J (i*ie.size,ie.size)
 | _=>E
def Bp (P:Program)(s:TypeId)(f:Nat):Option (Nat×Nat×Bool):=
 match P.underlying s with
 | some (.struct fields)=>match fields[f]? with
   | some fd=>match B6 P fd.type with
     | some (ag,n)=>J (fd.offset,n,ag)
     | none=>E
   | none=>E
 | _=>E
def Dk (P:Program)(t:TypeId):Option (TypeId×Nat×Nat):=
 match P.underlying t with
 | some (.slice e)=>match P.info? e with
   | some i=>match i.zero with
     | some z=>if z.cells.size=i.size then J (e,i.size,i.bytes)else E
     | none=>E
   | none=>E
 | _=>E
def Np (P:Program)(t:TypeId):Option (Nat×Nat×Bool):=
 match P.underlying t with
 | some (.array n e)=>match B6 P e with
   | some (ag,s)=>J (n,s,ag)
   | none=>E
 | _=>E
def fL (P:Program)(t:TypeId):Bool:=
 match P.underlying t with
 | some .string=>I
 | _=>U
def ALS (P:Program)(t:TypeId):Option IntKind:=
 match P.underlying t with
 | some (.int k)=>J k
 | _=>E
def KJ (P:Program)(t:TypeId):Bool:=
 match P.underlying t with
 | some (.slice _)=>I
 | _=>U
variable {P:Program} {x:Cx} {w:World}
theorem T3 {t:TypeId}{n:Nat}(h:B6 P t=J (ag,n)):(isAgg t).run P w=.ok ag w/\(sizeOf t).run P w=.ok n w/\∃i,P.info? t=J i/\i.size=n:=by
 unfold B6 at h;cases K:P.underlying t with
 | none=>simp[K]at h
 | some d =>
   cases M:P.info? t with
   | none=>simp[K,M]at h
   | some i =>
     simp only[K,M,BL,Cr]at h;obtain⟨rfl,rfl⟩:=h;refine⟨?_,by simp[sizeOf,typeInfo,M],i,rfl,rfl⟩;unfold isAgg;rw[Jt,run_underlying K w];cases d<;>simp[iM]
def E8:List V->Nat->List V->List V
 | cs,_,[]=>cs
 | cs,off,v::r=>E8 (cs.set off v) (off+1) r
theorem AJ5 : ∀(r cs:List V) (off:Nat),G (E8 cs off r)=G cs
 | [],_,_=>rfl
 | v::r,cs,off=>by simp[E8,AJ5 r]
theorem xa (x:Cx)(w:World):∀(r:List V) (us:List Value) (i off:Nat) (cs:List V) (vs:Array Value),AO x w r us->AO x w cs vs.toList->
 AO x w (E8 cs (off+i) r) ((us.zipIdx i).foldl (λ(c:Array Value) (p:Value×Nat)=>c.setIfInBounds (off+p.2) p.1) vs).toList/\((us.zipIdx i).foldl (λ(c:Array Value) (p:Value×Nat)=>c.setIfInBounds (off+p.2) p.1) vs).size=vs.size
 | [],us,i,off,cs,vs,h,K=>by simp only[AO]at h;subst h;exact⟨by simpa [E8]using K,ZA⟩
 | v::r,us,i,off,cs,vs,h,K=>by
   simp only[AO]at h;obtain⟨u,S,rfl,M,R⟩:=h;simp only[mb,Bw,E8];have:=xa x w r S (i+1) off (cs.set (off+i) v) (vs.setIfInBounds (off+i) u) R (by simpa using K.set (off+i) M);rw[show off+i+1=off+(i+1)by omega];exact⟨this.1,by rw[this.2];simp⟩
def YI (place:Nat->Option (Nat×Nat)):List V->List (Nat×V)->Option (List V)
 | cs,[]=>J cs
 | cs,(i,v)::r=>match place i with
   | none=>E
   | some (off,size)=>if v.flat=I/\(G v.cells)=size/\off+size<=G cs then YI place (E8 cs off v.cells) r else E
theorem AFZ (x:Cx)(w:World)(K:Nat->Option (Nat×Nat)):∀(ps:List (Nat×V)) (us:List (Nat×Value)) (cs cs':List V) (vs:Array Value),ps.map (·.1)=us.map (·.1)->AO x w (ps.map (·.2)) (us.map (·.2))->AO x w cs vs.toList->YI K cs ps=J cs'->
 ∃S,fi K vs us=J S/\AO x w cs' S.toList/\S.size=vs.size
 | [],us,cs,cs',vs,R,h,z,M=>by
   simp only[BB]at R;have:us=[]:=by cases us<;>simp at R ⊢
   subst this;simp only[YI,BL]at M;subst M;exact⟨vs,F,z,F⟩
 | (i,v)::ps,us,cs,cs',vs,R,h,z,M=>by
   match us,R,h with
   | (j,u)::us,R,h =>
     simp only[Ap,Vb]at R;obtain⟨rfl,R⟩:=R;simp only[Ap,AO,Vb]at h;obtain⟨u',ur,⟨rfl,rfl⟩,h1,h2⟩:=h;simp only[YI]at M;cases hp:K i with
     | none=>rw[hp]at M;cases M
     | some q =>
       obtain⟨A1,size⟩:=q;rw[hp]at M;simp only at M;split at M;rename_i A0;obtain⟨c1,c2,c3⟩:=A0;obtain⟨k1,_⟩:=h1.cells c1;have hl:u.cells.size=size:=by have:=k1.len;simp only[FW]at this;omega
       have DK:vs.size=G cs:=by have:=z.len;simpa using this
       have qg:=xa x w v.cells u.cells.toList 0 A1 cs vs k1 z;obtain⟨S,e1,e2,e3⟩:=AFZ x w K ps us _ cs' _ R h2 (by simpa using qg.1) M;refine⟨S,?_,e2,by rw[e3];exact qg.2⟩;simp only[fi,hp];rw[Awf (by simp;omega)];rw[<-e1];congr 1
       rw[<-AMK];simp[AMQ];cases M
def CJ (q:Bool×Nat)(cs:List V)(off:Nat):Option V:=
 if q.1 then(if off+q.2<=G cs then J (.agg ((cs.drop off).take q.2))else E)else cs[off]?
theorem dY {t:TypeId}{q:Bool×Nat}{b o:Nat}{cs:List V}{off:Nat}{v:V}(hq:B6 P t=J q)(hc : ∀j v,cs[j]?=J v->∃u,w.cell? ⟨b,o+j,E⟩=J u/\CV x w v u)(M:CJ q cs off=J v) :
 ∃u,(loadVar t ⟨b,o+off,E⟩).run P w=.ok u w/\CV x w v u:=by
 obtain⟨ag,n⟩:=q;obtain⟨h1,h2,_⟩:=T3 (w:=w) hq;unfold CJ at M;cases ag with
 | false=>simp only[GW,Awh]at M;obtain⟨u,k1,k2⟩:=hc off v M;refine⟨u,?_,k2⟩;simp[loadVar,h1,load,HW,k1]
 | true =>
   simp only[Awg]at M;split at M;rename_i A0;cases M;have S : ∀j,∃u,j<n->w.cell? ⟨b,o+off+j,E⟩=J u/\CV x w (cs.getD (off+j) .any) u:=by
    intro j;by_cases R:j<n;obtain⟨u,k1,k2⟩:=hc (off+j) (cs.getD (off+j) .any) (by simp[mS,show off+j<G cs by omega]);exact⟨u,λ_=>⟨by rw[mg];exact k1,k2⟩⟩;exact⟨undef,λh=>absurd h R⟩
   let f:Nat->Value:=λj=>(S j).choose
   have hf : ∀j,j<n->w.cell? ⟨b,o+off+j,E⟩=J (f j)/\CV x w (cs.getD (off+j) .any) (f j):=λj R=>(S j).choose_spec R
   have hl:=run_loadCells_list (P:=P) w ⟨b,o+off,E⟩ ((E6 n).map f) (λj u K=>by
    rw[J0];have R:j<n:=by have:=(Br.1 K).1;simpa using this
    rw[(hf j R).1];simp[R]at K;rw[K])
   refine⟨.agg ((E6 n).map f).toArray,?_,?_⟩;simp only[Ch,List.length_range]at hl;simp[loadVar,h1,h2,hl];simp only[CV];refine⟨_,F,AO.SI (by simp;omega) λi v' u' hi K=>?_⟩;simp only[CM]at K;have z:i<n:=by
    rcases MK i n with h|h
    exact h;simp[M6 (by simpa using h:G (E6 n)<=i)]at K
   simp[z]at K;subst K;have:=(hf i z).2;rw[KO,Awd z,Ve]at hi;simpa [mS,hi]using this;cases M
end
section
inductive Pl where
 | fail
 | val (v:V)
 | rd (k:Nat) (g:O->Option V)
 | wr (k:Nat) (g:O->Option (O×V))
 | new (o:O) (mk:Nat->V)
def Pl.ap (H:Bx)(k0:Nat):Pl->Option (V×Option (Nat×O))
 | .fail=>E
 | .val v=>J (v,E)
 | .rd k g=>match H k with
   | some o=>match g o with
     | some v=>J (v,E)
     | none=>E
   | none=>E
 | .wr k g=>match H k with
   | some o=>match g o with
     | some (o',v)=>J (v,J (k,o'))
     | none=>E
   | none=>E
 | .new o mk=>J (mk k0,J (k0,o))
def Bx.upd (H:Bx):Option (Nat×O)->Bx
 | none=>H
 | some (k,o)=>H.set k o
def Mv:Option V->Pl
 | some v=>.val v
 | none=>.fail
def Xe:V->Option (List (List C))
 | .c (.sl r)=>J r
 | .Bg r=>J r
 | .gr _ _ r=>J r
 | _=>E
def toC:V->Option C
 | .c c=>J c
 | .Bg r=>J (.sl r)
 | .gr _ _ r=>J (.sl r)
 | .fn f []=>J (.EV f)
 | _=>E
def toCs:List V->Option (List C)
 | []=>J []
 | v::r=>match toC v,toCs r with
   | some c,J l=>J (c::l)
   | _,_=>E
def Zg (k:IntKind)(a b:Int):Int:=k.wrap (BitVec.ofInt k.bits a ||| BitVec.ofInt k.bits b).toNat
def lU (P:Program)(t:TypeId):Bool:=
 match P.underlying t with
 | some .bool=>I
 | _=>U
def oN (tb:Bool)(op:BinOp):V->V->Option V
 | .c (.int k a),.c (.int k' b)=>if k=k' then match op with
    | .add=>J (.c (.int k (k.wrap (a+b))))
    | .sub=>J (.c (.int k (k.wrap (a - b))))
    | .mul=>J (.c (.int k (k.wrap (a*b))))
    | .quo=>if b=0 then E else J (.c (.int k (k.wrap (a.tdiv b))))
    | .rem=>if b=0 then E else J (.c (.int k (k.wrap (a.tmod b))))
    | .eql=>J (.c (.bool (decide (a=b))))
    | .neq=>J (.c (.bool (!decide (a=b))))
    | .lss=>J (.c (.bool (decide (a<b))))
    | .leq=>J (.c (.bool (decide (a<=b))))
    | .gtr=>J (.c (.bool (decide (b<a))))
    | .geq=>J (.c (.bool (decide (b<=a))))
    | .or=>J (.c (.int k (Zg k a b)))
    | _=>E
    else E
 | .c (.str a),.c (.str b)=>match op with
    | .eql=>J (.c (.bool (decide (a=b))))
    | .neq=>J (.c (.bool (!decide (a=b))))
    | .add=>if a.size+b.size<=maxLen then J (.c (.str (a++b)))else E
    | _=>E
 | .c (.bool a),.c (.bool b)=>match op with
    | .eql=>if tb then J (.c (.bool (a==b)))else E
    | .neq=>if tb then J (.c (.bool (!(a==b))))else E
    | _=>E
 | _,_=>E
def oq (op:UnOp):V->Option V
 | .c (.int k n)=>match op with
   | .neg=>J (.c (.int k (k.wrap (0 - n))))
   | _=>E
 | .c (.bool b)=>match op with
   | .not=>J (.c (.bool !b))
   | _=>E
 | _=>E
def oO (P:Program)(dst:TypeId):V->Option V
 | .c (.int _ n)=>match ALS P dst with
   | some k=>J (.c (.int k (k.wrap n)))
   | none=>E
 | _=>E
def oQ (P:Program)(t:TypeId):V->V->Option V
 | .c (.str s),.c (.int _ i)=>if fL P t then(if 0<=i then(s.data.toList[i.toNat]?).map λb=>.c (.int .u8 b.toNat)else E)else E
 | .agg l,.c (.int _ i)=>match Np P t with
   | some (n,s,ag)=>if 0<=i/\i<n then CJ (ag,s) l (i.toNat*s)else E
   | none=>E
 | _,_=>E
def oR (P:Program)(t:TypeId)(x:V):V->Option V
 | .c (.int _ i)=>match x with
   | .own k off len es=>match Dk P t with
     | some (_,es',_)=>if es'=es/\0<=i/\i<len then J (.ptr k (off+i.toNat*es))else E
     | none=>E
   | .ptr k off=>match Np P t with
     | some (n,s,_)=>if 0<=i/\i<n then J (.ptr k (off+i.toNat*s))else E
     | none=>E
   | .cp row off=>match Np P t with
     | some (n,s,_)=>if 0<=i/\i<n then J (.cp row (off+i.toNat*s))else E
     | none=>E
   | x=>match Xe x,Dk P t with
     | some AG,J (_,es,_)=>if 0<=i/\i<G AG then match AG[i.toNat]? with
        | some r=>if G r=es then J (.cp r 0)else E
        | none=>E
       else E
     | _,_=>E
 | _=>E
def oP (P:Program)(s:TypeId)(f:Nat):V->Option V
 | .ptr k off=>match Bp P s f with
   | some (o,n,_)=>if n=0 then E else J (.ptr k (off+o))
   | none=>E
 | .cp row off=>match Bp P s f with
   | some (o,n,_)=>if n=0 then E else J (.cp row (off+o))
   | none=>E
 | _=>E
def oT (P:Program)(t:TypeId):V->Option V
 | .c (.str s)=>if fL P t then J (.c (.int .i64 s.size))else E
 | .own _ _ len _=>if KJ P t then J (.c (.int .i64 len))else E
 | x=>match Xe x with
   | some AG=>if KJ P t then J (.c (.int .i64 (G AG)))else E
   | none=>E
def Vz (mx:Bool):Int->IntKind->List V->Option V
 | a,k,[]=>J (.c (.int k a))
 | a,k,.c (.int k' b)::r=>if k=k' then Vz mx (if mx then(if a<b then b else a)else(if b<a then b else a)) k r else E
 | _,_,_=>E
def az (mx:Bool):List V->Option V
 | .c (.int k a)::r=>Vz mx a k r
 | _=>E
def V3 (P:Program)(t:TypeId)(x:V)(lo hi:Option V):Option V:=
 match lo.getD (.c (.int .i64 0)),x with
 | .c (.int _ l),.c (.str s)=>match hi.getD (.c (.int .i64 s.size))with
   | .c (.int _ h)=>if fL P t=I/\0<=l/\l<=h/\h<=s.size then J (.c (.str (s.extract l.toNat h.toNat)))else E
   | _=>E
 | .c (.int _ l),x=>match Xe x with
   | some AG=>match hi.getD (.c (.int .i64 (G AG))),Dk P t with
     | .c (.int _ h),J (_,es,_)=>if (AG.all λr=>G r==es)=I/\0<=l/\l<=h/\h<=G AG then J (.c (.sl ((AG.take h.toNat).drop l.toNat)))else E
     | _,_=>E
   | none=>E
 | _,_=>E
def X4 (e:Operand->V)(es:Nat):Nat->List (Nat×Operand)->Option (List (List C))
 | _,[]=>J []
 | i,(j,x)::r=>if j=i/\(e x).flat=I/\(e x).cells.length=es then match toCs (e x).cells,X4 e es (i+1) r with
    | some row,J AG=>J (row::AG)
    | _,_=>E
   else E
def oV (P:Program)(e:Operand->V):Op->Pl
 | .move x=>.val (e x)
 | .assign x=>.val (e x)
 | .pick c a b=>match e c with
   | .c (.bool t)=>.val (if t then e a else e b)
   | _=>.fail
 | .alloc ty=>match C2 P ty with
   | some z=>.new (.box ty z U) λk=>.ptr k 0
   | none=>.fail
 | .box ty x=>if (e x).flat then .new (.box ty (e x).cells U) λk=>.ptr k 0 else .fail
 | .build t parts=>match C2 P t,Fj P t with
   | some z,J pl=>match YI pl z (parts.toList.map λp=>(p.1,e p.2))with
     | some cs=>.val (.agg cs)
     | none=>.fail
   | _,_=>.fail
 | .buildSlice t len parts=>match Dk P t with
   | some (_,es,_)=>if 0<len*es/\len*es<=2 ^ 24/\(G parts.toList)=len then match X4 e es 0 parts.toList with
      | some AG=>.val (.Bg AG)
      | none=>.fail
     else .fail
   | none=>.fail
 | .load t a=>match B6 P t,e a with
   | some q,.ptr k off=>.rd k λ
     | .box _ cs _=>CJ q cs off
     | _=>E
   | some q,.cp row off=>Mv (CJ q (row.map V.c) off)
   | _,_=>.fail
 | .store t a y=>match B6 P t,e a with
   | some q,.ptr k off=>.wr k λ
     | .box ty cs U=>if (e y).flat=I/\(e y).cells.length=q.2/\off+q.2<=G cs then J (.box ty (E8 cs off (e y).cells) U,.any)else E
     | _=>E
   | _,_=>.fail
 | .nilCheck x=>match e x with
   | .ptr k off=>.val (.ptr k off)
   | .cp row off=>.val (.cp row off)
   | _=>.fail
 | .binOp op t a b _=>Mv (oN (lU P t) op (e a) (e b))
 | .unOp op _ a=>Mv (oq op (e a))
 | .convert s d a=>match B6 P s with
   | some _=>Mv (oO P d (e a))
   | none=>.fail
 | .makeFunc (.func f) first caps=>if first.size=0 then .val (.fn f (caps.toList.map e))else .fail
 | .makeSlice t l c=>match Dk P t,e l,e c with
   | some (ty,es,Bq),.c (.int _ l),.c (.int _ c)=>match C2 P ty with
     | some z=>if l=c/\0<=l/\(Bq:Int)*l<=281474976710656/\l<=9223372036854775807 then .new (.box ty (Aq l.toNat z).flatten U) λk=>.own k 0 l.toNat es else .fail
     | none=>.fail
   | _,_,_=>.fail
 | .slice t y lo hi E=>Mv (V3 P t (e y) (lo.map e) (hi.map e))
 | .fieldAddr s y f=>Mv (oP P s f (e y))
 | .field s y f=>match Bp P s f,e y with
   | some (o,n,ag),.agg l=>Mv (CJ (ag,n) l o)
   | _,_=>.fail
 | .indexAddr t y i=>Mv (oR P t (e y) (e i))
 | .index t y i=>Mv (oQ P t (e y) (e i))
 | .extract y i=>match e y with
   | .A7 l=>Mv l[i]?
   | _=>.fail
 | .call ⟨.builtin .len,args,Fk⟩=>match args.toList,Fk.toList with
   | [y],[t]=>Mv (oT P t (e y))
   | _,_=>.fail
 | .call ⟨.builtin .max,args,_⟩=>Mv (az I (args.toList.map e))
 | .call ⟨.builtin .min,args,_⟩=>Mv (az U (args.toList.map e))
 | _=>.fail
def AAH:Op->Bool
 | .buildSlice _ _ _=>I
 | .call ⟨.builtin .append,_,_⟩=>I
 | _=>U
def BW (P:Program)(o:Oper)(a:Act)(S0:BF)(w0:Bs)(x:Cx)(w:World)(H:Bx)(v:V)(t:Option (Nat×O)):Prop:=
 ∃nx w' x' u,(execOp a.eval o).run P w=.ok nx w'/\(nx=.value u\/(nx=.skip/\u=undef))/\CV x' w' v u/\Good S0 w0 x' w' (H.upd t)/\Ext x x' w w'/\(∀k,x'.dom k->x.dom k\/∃o,t=J (k,o))/\(AAH o.op=U->x'.S=x.S)
variable {P:Program} {S0:BF} {w0:Bs} {x:Cx} {w:World} {H:Bx} {a:Act} {o:Oper} {e:Operand->V} {v:V}
theorem BW.pure (g:Good S0 w0 x w H)(K:(execOp a.eval o).run P w=.ok (.value u) w)(M:CV x w v u):BW P o a S0 w0 x w H v none:=
 ⟨_,w,x,u,K,.inl F,M,g,Ext.refl x w,λ_ h=>.inl h,λ_=>rfl⟩
theorem fV (k:IntKind)(n:Int):(I9 k (k.wrap n)).wf=true:=by
 have:=wrap_within k n;simp[So,this.1,this.2]
theorem Q8 {n:Nat}(h:n<=maxLen):(I9 .i64 (n:Int)).wf=true:=by
 have K:AZ.min= -9223372036854775808:=by decide +kernel
 have M:AZ.max=9223372036854775807:=by decide +kernel
 unfold maxLen at h;simp[So,K,M];omega
theorem AMD {k:IntKind}{n:Int}(h:(I9 k n).wf=I):k.wrap n=n:=by
 simp only[So,Ak,Awe]at h;cases k<;>simp[IntKind.wrap,IntKind.min,IntKind.max,IntKind.bits,IntKind.signed]at h ⊢<;>omega
theorem ALZ {k:IntKind}{a b:Int}(M:(I9 k a).wf=I):(I9 k (a.tmod b)).wf=true:=by
 simp only[So,Ak,Awe]at M ⊢;have R:k.min<=0/\0<=k.max:=by cases k<;>decide +kernel
 have S:(a.tmod b).natAbs<=a.natAbs:=by rw[Int.natAbs_tmod];exact Nat.mod_le _ _
 rcases Int.lt_or_le a 0 with h|h
 have K:=Sl (a:= -a) b Ux;rw[Int.neg_tmod]at K;omega;have K:=Sl (a:=a) b h;omega
theorem AN7 {a b:ByteArray}:(a.toList==b.toList)=decide (a=b):=by
 rw[uC,uC];by_cases h:a=b;subst h;simp;have : ¬a.data=b.data:=λe=>h (by cases a;cases b;simpa using e)
 simp[h,this]
theorem AYF (k:IntKind)(ty:TypeId)(n m:Int)(w:World):(binOp .or ty (.int k n) (.int k m)).run P w=.ok (.int k (Zg k n m)) w:=by
 have e:binOp .or ty (.int k n) (.int k m)=if k≠k then stuck "BinOp: operands of different kinds" else pure (.int k (Zg k n m)):=F
 rw[e,Awf ZA];rfl
theorem AYD (s t:Bool)(w:World)(h:P.underlying ty=J .bool):(binOp .eql ty (.bool s) (.bool t)).run P w=.ok (.bool (s==t)) w/\(binOp .neq ty (.bool s) (.bool t)).run P w=.ok (.bool (!(s==t))) w:=by
 have e:(Pt ty (.bool s) (.bool t)).run P w=.ok (s==t) w:=by
  unfold Pt;show (aP (9999+1) ty _ _).run P w=_;unfold aP;have R:(underlying ty).run P w=.ok .bool w:=by simp[Go.underlying,program,HW,h]
  simp[R]
 have K:binOp .eql ty (.bool s) (.bool t)=(do let b <-Pt ty (.bool s) (.bool t);pure (.bool b)):=F;have M:binOp .neq ty (.bool s) (.bool t)=(do let b <-Pt ty (.bool s) (.bool t);pure (.bool (!b))):=F;rw[K,M];simp[e]
theorem AUy (g:Good S0 w0 x w H){op:BinOp}{ty GV:TypeId}{y z:Operand}(R:o.op=.binOp op ty y z GV)(K:CV x w (e y) (a.eval y))(M:CV x w (e z) (a.eval z))(h:oN (lU P ty) op (e y) (e z)=J v):BW P o a S0 w0 x w H v none:=by
 generalize e y=Y at *
 generalize e z=Z at *
 unfold oN at h;split at h
 . rename_i k n k' m;simp only[CV,Ab]at K M;obtain⟨K,wy⟩:=K;obtain⟨M,wz⟩:=M;split at h
   . rename_i hk;subst hk;cases op<;>simp only at h<;>first
      | (cases h;refine BW.pure g (u:=.int k (Zg k n m)) (by simp[execOp,R,eqGuard,AYF,K,M]) ?_;simp only[CV,Ab];exact⟨W,fV _ _⟩;done)
      | (cases h;refine BW.pure g (u:=.bool (decide (n=m))) (by simp[execOp,R,eqGuard,binOp,Op.intCmp,K,M,BEq.beq]) ?_;simp only[CV,Ab];done)
      | (cases h;refine BW.pure g (u:=.bool (!decide (n=m))) (by simp[execOp,R,eqGuard,binOp,Op.intCmp,K,M,bne,BEq.beq]) ?_;simp only[CV,Ab];done)
      | (cases h;refine BW.pure g (u:=_) (by simp[execOp,R,eqGuard,binOp,Op.intArith,Op.intCmp,K,M];rfl) ?_;first|(simp only[CV,Ab];exact⟨W,fV _ _⟩)|(simp only[CV,Ab];done)|(simp only[CV,Ab];congr 1;simp[bne]))
      | (split at h
         cases h;rename_i S;cases h;refine BW.pure g (u:=_) (by simp[execOp,R,eqGuard,binOp,Op.intDiv,K,M,S];rfl) ?_;first|(simp only[CV,Ab];exact⟨W,fV _ _⟩)|(simp only[CV,Ab,AMD (ALZ wy)];exact⟨W,ALZ wy⟩))
      | cases h
   cases h
 . rename_i s t;simp only[CV,Ab]at K M;obtain⟨K,wy⟩:=K;obtain⟨M,wz⟩:=M;cases op<;>simp only at h<;>first
    | (cases h;refine BW.pure g (u:=_) (by simp[execOp,R,eqGuard,binOp,Op.stringOp,K,M,AN7];rfl) ?_;simp only[CV,Ab];done)
    | (split at h
       rename_i hl;cases h;have hi:AZ.max=9223372036854775807:=by decide +kernel
       unfold maxLen at hl;refine BW.pure g (u:=.string (s++t)) (by simp[execOp,R,eqGuard,binOp,Op.stringOp,K,M,hi];omega) ?_;simp only[CV,Ab];exact⟨W,by rw[ByteArray.size_append];unfold maxLen;omega⟩;cases h)
    | cases h
 . rename_i s t;simp only[CV,Ab]at K M;have S : ∀ {r:Bool},(if lU P ty=I then J (V.c (.bool r))else E)=J v->P.underlying ty=J .bool/\v=.c (.bool r):=λq=>by
    split at q;rename_i e;cases q;unfold lU at e;split at e;rename_i e2;exact⟨e2,F⟩;cases e;cases q
   cases op<;>simp only at h<;>first
    | (obtain⟨e,rfl⟩:=S h
       refine BW.pure g (u:=_) (by simp[execOp,R,eqGuard,AYD _ _ _ e,K,M];rfl) ?_;simp only[CV,Ab];done)
    | cases h
 cases h
theorem AVR (g:Good S0 w0 x w H){op:UnOp}(M:o.op=.unOp op ty y)(K:CV x w (e y) (a.eval y))(h:oq op (e y)=J v):BW P o a S0 w0 x w H v none:=by
 generalize e y=Y at *
 unfold oq at h;split at h;rename_i k n;simp only[CV,Ab]at K;split at h;cases h;refine BW.pure g (u:=.int k (k.wrap (0 - n))) (by simp[execOp,M,Op.unary,Op.intArith,K.1]) ?_;simp only[CV,Ab];exact⟨W,fV _ _⟩;cases h;simp only[CV,Ab]at K;split at h;cases h;refine BW.pure g (u:=_) (by simp[execOp,M,Op.unary,K];rfl) ?_;simp only[CV,Ab];cases h;cases h
theorem AU0 (g:Good S0 w0 x w H){s d:TypeId}(hs : ∃M,P.underlying s=J M)(q:o.op=.convert s d y)(R:CV x w (e y) (a.eval y))(h:oO P d (e y)=J v):BW P o a S0 w0 x w H v none:=by
 generalize e y=Y at *
 unfold oO at h;split at h
 . simp only[CV,Ab]at R;obtain⟨M,hs⟩:=hs;unfold ALS at h;cases K:P.underlying d with
   | none=>rw[K]at h;cases h
   | some S =>
     rw[K]at h;cases S<;>simp only at h<;>try (cases h;done)
     cases h;refine BW.pure g (u:=_) (by simp[execOp,q,convert,run_underlying hs,run_underlying K,Conv.intToInt,R.1];rfl) ?_;simp only[CV,Ab];exact⟨W,fV _ _⟩
 cases h
end
section
variable {P:Program} {S0:BF} {w0:Bs} {x:Cx} {w:World} {H:Bx} {a:Act} {o:Oper} {e:Operand->V} {v:V}
theorem AVE (g:Good S0 w0 x w H){t:TypeId}(ho:o.op=.load t y){q:Bool×Nat}(hq:B6 P t=J q){k off:Nat}(K:CV x w (.ptr k off) (a.eval y)){cs:List V}{z:Bool}(hH:H k=J (.box ty cs z))(h:CJ q cs off=J v):BW P o a S0 w0 x w H v none:=by
 obtain⟨_,S⟩:=g.ok k _ hH;obtain⟨_,_,vs,hb,hn,M⟩:=S;simp only[CV]at K;obtain⟨_,_,K⟩:=K;obtain⟨u,R,hv⟩:=dY (x:=x) (w:=w) (b:=(x.loc k).b) (o:=0) hq (λj v hj=>by
  obtain⟨u,h1,h2⟩:=M.get j v hj;refine⟨u,?_,h2⟩;rw[Cz,cell_of_row w _ j vs ty (0,0) hb];simpa using h1) h
 refine BW.pure g (u:=u) ?_ hv;rw[Cz]at R;simp[execOp,ho,mF,K,Ol,R]
theorem AVC (g:Good S0 w0 x w H){t:TypeId}(ho:o.op=.load t y){q:Bool×Nat}(hq:B6 P t=J q){row:List C}{off:Nat}(K:CV x w (.cp row off) (a.eval y))(h:CJ q (row.map V.c) off=J v):BW P o a S0 w0 x w H v none:=by
 simp only[CV]at K;obtain⟨b,S,K,M⟩:=K;obtain⟨u,M,hv⟩:=dY (x:=x) (w:=w) (b:=b) (o:=S) hq (λj v R=>by
  rw[CM,Ia]at R;obtain⟨c,hc,rfl⟩:=R;obtain⟨u,z,h2⟩:=M.get hc;exact⟨u,z,by simpa only[CV]using h2⟩) h
 refine BW.pure g (u:=u) ?_ hv;simp[execOp,ho,mF,K,Ol,M]
theorem run_storeCells_at {g:Nat}{t:TypeId}{off:Nat} : ∀(vs:List Value) (i:Nat) (w:World) (K:Array Value),Cb w g t K->off+i+G vs<=K.size->(∀v∈vs,v.oneCell'=I)->
 (storeCells ⟨g,off,E⟩ vs i).run P w=.ok () (w.setRow g ((vs.zipIdx i).foldl (λ(c:Array Value) (p:Value×Nat)=>c.setIfInBounds (off+p.2) p.1) K)):=by
 intro vs;induction vs with
 | nil=>intro i w K M _ _;simp[storeCells,setRow_self w g K t (0,0) M]
 | cons v r ih =>
   intro i w K M q z;have R:off+i<K.size:=by simp at q;omega
   have hc:w.cell? ⟨g,off+i,E⟩=J (K[off+i]):=by rw[M.cell];simp[R]
   have S:(store ⟨g,off+i,E⟩ v .plain).run P w=.ok () (w.setRow g (K.setIfInBounds (off+i) v)):=by
    rw[run_store P _ _ v .plain (z v ZA),setCell_eq_setRow w g (off+i) K t (0,0) v M];simp[hc,M.frozen]
   unfold storeCells;rw[Jt,J0,S];simp only[Oo];rw[ih (i+1) _ (K.setIfInBounds (off+i) v) (M.Tz _) (by simp at q ⊢;omega) (λu hu=>z u (by simp[hu])),setRow_setRow];simp[mb]
theorem AAs (g:Good S0 w0 x w H){t:TypeId}{y z:Operand}(ho:o.op=.store t y z){q:Bool×Nat}(hq:B6 P t=J q){k off:Nat}(M:CV x w (.ptr k off) (a.eval y))(hz:CV x w (e z) (a.eval z)){cs:List V}(S:H k=J (.box ty cs U))(h1:(e z).flat=I)(h2:(e z).cells.length=q.2)(h3:off+q.2<=G cs):BW P o a S0 w0 x w H .any (J (k,.box ty (E8 cs off (e z).cells) U)):=by
 obtain⟨hd,A5⟩:=g.ok k _ S;obtain⟨_,_,vs,hb,hn,K⟩:=A5;simp only[CV]at M;obtain⟨_,_,M⟩:=M;obtain⟨R,c2⟩:=hz.cells h1;obtain⟨_,hs,_⟩:=T3 (w:=w) (P:=P) (ag:=q.1) (n:=q.2) hq;have dK:vs.size=G cs:=by have:=K.len;simpa using this
 have OL:(a.eval z).cells.size=q.2:=by have:=R.len;simp only[FW]at this;omega
 have hf:=xa x w (e z).cells (a.eval z).cells.toList 0 off cs vs R K;have hr:=run_storeCells_at (P:=P) (t:=ty) (off:=off) (a.eval z).cells.toList 0 w vs hb (by simp;omega) c2;obtain⟨g',he⟩:=g.ACa k ty cs (E8 cs off (e z).cells) S vs _ hb hf.2 hf.1;refine⟨.skip,_,x,undef,?_,.inr ⟨F,F⟩,by simp only[CV],g',he,λ_ h=>.inl h,λ_=>rfl⟩;simp[execOp,ho,Instr.storeAt,M,Ol,storeVar,hs,OL,hr]
theorem AI1 (g:Good S0 w0 x w H){cs:List V}{vs:Array Value}(z:AO x w cs vs.toList)(K:Nat)(S : ¬x.dom K)(q:(execOp a.eval o).run P w=.ok (.value (.pointer (J ⟨w.heap.size,0,E⟩))) (w.alloc (.cells vs ty))):
 BW P o a S0 w0 x w H (.ptr K 0) (J (K,.box ty cs U)):=by
 obtain⟨M,R⟩:=g.Zc K S ty cs vs z;refine⟨_,_,_,_,q,.inl F,?_,M,R,λk h=>h.elim .inl λe=>.inr ⟨.box ty cs U,by rw[e]⟩,λ_=>rfl⟩;simp only[CV,Cx.C4,Awg];exact⟨.inr W,W,W⟩
theorem AAr (g:Good S0 w0 x w H)(S:o.op=.box ty y)(q:CV x w (e y) (a.eval y))(M:(e y).flat=I)(K:Nat)(R : ¬x.dom K):BW P o a S0 w0 x w H (.ptr K 0) (J (K,.box ty (e y).cells U)):=by
 refine AI1 g (q.cells M).1 K R ?_;simp[execOp,S,Instr.box,newVar,newRow]
theorem Z2 {t:TypeId}{z:List V}(h:C2 P t=J z):∃K,(zeroValue t).run P w=.ok K w/\AO x w z K.cells.toList/\∃i,P.info? t=J i/\i.zero=J K:=by
 unfold C2 at h;cases M:P.info? t with
 | none=>simp[M]at h
 | some i=>simp only[M,Ia]at h;obtain⟨K,R,rfl⟩:=h;exact⟨K,by simp[zeroValue,typeInfo,M,R],ACB x w _,i,rfl,R⟩
theorem AAq (g:Good S0 w0 x w H)(q:o.op=.alloc ty){z:List V}(hz:C2 P ty=J z)(K:Nat)(S : ¬x.dom K):BW P o a S0 w0 x w H (.ptr K 0) (J (K,.box ty z U)):=by
 obtain⟨zv,M,R,_⟩:=Z2 (x:=x) (w:=w) hz;refine AI1 g R K S ?_;simp[execOp,q,Instr.alloc,M,newVar,newRow]
theorem AJN (a:Act)(parts:Array (Nat×Operand)):(parts.map λ(i,y)=>(i,a.eval y)).toList=parts.toList.map λp=>(p.1,a.eval p.2):=ZA
theorem AO.of_map {x:Cx}{w:World}{e:Operand->V}{a:Act} : ∀ {l:List Operand},(∀y∈l,CV x w (e y) (a.eval y))->AO x w (l.map e) (l.map a.eval)
 | [],_=>by simp only[BB,AO]
 | y::l,h=>by simp only[Ap,AO];exact⟨_,_,F,h y ZA,AO.of_map λy K=>h y (by simp[K])⟩
theorem AIu (g:Good S0 w0 x w H){t:TypeId}{parts:Array (Nat×Operand)}(ho:o.op=.build t parts)(hp : ∀p∈parts.toList,CV x w (e p.2) (a.eval p.2)){z:List V}{pl:Nat->Option (Nat×Nat)}{cs:List V}(hz:C2 P t=J z)(K:Fj P t=J pl)(h:YI pl z (parts.toList.map λp=>(p.1,e p.2))=J cs):BW P o a S0 w0 x w H (.agg cs) none:=by
 obtain⟨zv,h1,h2,i,hi,R⟩:=Z2 (x:=x) (w:=w) hz;obtain⟨vs,q,k2,_⟩:=AFZ x w pl (parts.toList.map λp=>(p.1,e p.2)) (parts.toList.map λp=>(p.1,a.eval p.2)) z cs zv.cells ZA (by
  simp only[M7];have:=AO.of_map (x:=x) (w:=w) (e:=e) (a:=a) (l:=parts.toList.map (·.2)) (by
   intro y hy;obtain⟨p,G8,rfl⟩:=Da.1 hy;exact hp p G8)
  simp only[M7]at this;exact this) h2 h
 have hb:P.built t (parts.map λ(i,y)=>(i,a.eval y)).toList=J vs:=by
  rw[AJN];unfold Program.built;unfold Fj at K;cases S:P.underlying t with
  | none=>simp[S]at K
  | some d =>
    simp only[hi,R];cases d<;>simp only[S]at K<;>try (cases K;done)
    simp only[Ia]at K;obtain⟨ie,EB,rfl⟩:=K;simp only[EB,R];exact q;simp only[Ia]at K;obtain⟨FT,M,rfl⟩:=K;simp only[M,R,mV];exact q
 refine BW.pure g (u:=.agg vs) ?_ (by simp only[CV];exact⟨vs,F,k2⟩);simp only[execOp,ho];simp only[Jt,run_build w t _ vs hb,Oo];rfl
theorem AFY {f off n:Nat}(h:Bp P s f=J (off,n,ag)):∃K M,P.underlying s=J (.struct K)/\K[f]?=J M/\M.offset=off/\B6 P M.type=J (ag,n):=by
 unfold Bp at h;cases z:P.underlying s with
 | none=>simp[z]at h
 | some d =>
   rw[z]at h;cases d<;>simp only at h<;>try (cases h;done)
   rename_i K;cases R:K[f]? with
   | none=>simp[R]at h
   | some M =>
     rw[R]at h;simp only at h;cases S:B6 P M.type with
     | none=>simp[S]at h
     | some q=>rw[S]at h;simp only[BL,Cr]at h;obtain⟨rfl,rfl,rfl⟩:=h;exact⟨K,M,F,R,F,S⟩
theorem ABf {f off n:Nat}(h:Bp P s f=J (off,n,ag))(S:n≠0)(b M:Nat):(Instr.fieldAt s (.pointer (J ⟨b,M,E⟩)) f).run P w=.ok (.pointer (J ⟨b,M+off,E⟩)) w:=by
 obtain⟨K,fd,hu,R,rfl,z⟩:=AFY h;obtain⟨_,q,_⟩:=T3 (w:=w) z;simp[Instr.fieldAt,run_underlying hu,R,Ol,fieldPlace,q,S,J0]
theorem AU4 (g:Good S0 w0 x w H){f:Nat}(q:o.op=.fieldAddr s y f)(K:CV x w (e y) (a.eval y))(h:oP P s f (e y)=J v):BW P o a S0 w0 x w H v none:=by
 generalize e y=Y at *
 unfold oP at h;split at h;split at h;rename_i S n ag R;split at h;cases h;rename_i M;cases h;simp only[CV]at K;obtain⟨h1,h2,K⟩:=K;refine BW.pure g (u:=_) (by simp[execOp,q,K,ABf R M];rfl) ?_;simp only[CV];exact⟨h1,h2,W⟩;cases h;split at h;rename_i S n ag R;split at h;cases h;rename_i M;cases h;simp only[CV]at K;obtain⟨b,z,K,hr⟩:=K;refine BW.pure g (u:=_) (by simp[execOp,q,K,ABf R M];rfl) ?_;simp only[CV];exact⟨b,z,by rw[mg],hr⟩;cases h;cases h
theorem AJL {t:TypeId}{q:Bool×Nat}(S:B6 P t=J q){l:List V}{vs:Array Value}(M:AO x w l vs.toList){off:Nat}(h:CJ q l off=J v):∃u,(part t vs off).run P w=.ok u w/\CV x w v u:=by
 obtain⟨ag,n⟩:=q;obtain⟨K,R,_⟩:=T3 (w:=w) S;unfold CJ at h;cases ag with
 | false =>
   simp only[GW,Awh]at h;obtain⟨u,z,k2⟩:=M.get off v h;refine⟨u,?_,k2⟩;have:vs[off]?=J u:=by simpa using z
   simp[part,K,this]
 | true =>
   simp only[Awg]at h;split at h;cases h;refine⟨.agg (vs.extract off (off+n)),by simp[part,K,R],?_⟩;simp only[CV];refine⟨_,F,?_⟩;have:=(M.drop off).take n;rw[Array.toList_extract];simpa [List.extract]using this;cases h
theorem AU3 (g:Good S0 w0 x w H){f:Nat}(z:o.op=.field s y f){off n:Nat}(ht:Bp P s f=J (off,n,ag)){l:List V}(M:CV x w (.agg l) (a.eval y))(h:CJ (ag,n) l off=J v):BW P o a S0 w0 x w H v none:=by
 obtain⟨K,fd,hu,S,rfl,R⟩:=AFY ht;simp only[CV]at M;obtain⟨vs,M,q⟩:=M;obtain⟨u,k1,k2⟩:=AJL R q h;refine BW.pure g (u:=u) ?_ k2;simp[execOp,z,M,Instr.field,run_underlying hu,S,asAgg,k1]
theorem tT {Y:V}{AG:List (List C)}(h:Xe Y=J AG)(K:CV x w Y u):Ab x.S w (.sl AG) u:=by
 unfold Xe at h;split at h<;>first|cases h|skip
 simpa only[CV]using K;simp only[CV]at K;obtain⟨_,_,K⟩:=K;exact K;simp only[CV]at K;exact K.2.2.1
end
section
variable {P:Program} {S0:BF} {w0:Bs} {x:Cx} {w:World} {H:Bx} {a:Act} {o:Oper} {e:Operand->V} {v:V}
theorem JS {t:TypeId}{es Bq:Nat}(h:Dk P t=J (ty,es,Bq)):P.underlying t=J (.slice ty)/\∃i z,P.info? ty=J i/\i.zero=J z/\i.size=es/\i.bytes=Bq/\z.cells.size=es:=by
 unfold Dk at h;cases S:P.underlying t with
 | none=>simp[S]at h
 | some d =>
   rw[S]at h;cases d<;>simp only at h<;>try (cases h;done)
   rename_i el;cases K:P.info? el with
   | none=>simp[K]at h
   | some i =>
     rw[K]at h;simp only at h;cases M:i.zero with
     | none=>simp[M]at h
     | some z =>
       rw[M]at h;simp only at h;split at h;rename_i R;simp only[BL,Cr]at h;obtain⟨rfl,rfl,rfl⟩:=h;exact⟨F,i,z,K,M,F,F,R⟩;cases h
theorem AB0 {t:TypeId}{n s:Nat}(h:Np P t=J (n,s,ag)):∃el,P.underlying t=J (.array n el)/\B6 P el=J (ag,s):=by
 unfold Np at h;cases M:P.underlying t with
 | none=>simp[M]at h
 | some d =>
   rw[M]at h;cases d<;>simp only at h<;>try (cases h;done)
   rename_i m el;cases K:B6 P el with
   | none=>simp[K]at h
   | some q=>rw[K]at h;simp only[BL,Cr]at h;obtain⟨rfl,rfl,rfl⟩:=h;exact⟨el,F,K⟩
theorem AB2 {t:TypeId}(h:fL P t=I):P.underlying t=J .string:=by
 unfold fL at h;split at h;assumption;cases h
theorem AB1 {t:TypeId}(h:KJ P t=I):∃el,P.underlying t=J (.slice el):=by
 unfold KJ at h;split at h;exact⟨_,Awa⟩;cases h
theorem AU9 (g:Good S0 w0 x w H){t:TypeId}{y z:Operand}(ho:o.op=.indexAddr t y z)(M:CV x w (e y) (a.eval y))(hz:CV x w (e z) (a.eval z))(h:oR P t (e y) (e z)=J v):BW P o a S0 w0 x w H v none:=by
 generalize e y=Y at *
 generalize e z=Z at *
 unfold oR at h;split at h
 case h_2=>cases h
 rename_i k i;simp only[CV,Ab]at hz;obtain⟨hz,_⟩:=hz;split at h;rename_i kk K len es;split at h;rename_i Ae R Bq ht;obtain⟨hu,A2,zv,hi,_,A0,_,_⟩:=JS ht;split at h;rename_i hc;obtain⟨rfl,S,q⟩:=hc;cases h;simp only[CV]at M;obtain⟨d1,d2,cap,M,_,_,_⟩:=M;refine BW.pure g (u:=.pointer (J ⟨(x.loc kk).b,K+i.toNat*R,E⟩)) ?_ (by simp only[CV];exact⟨d1,d2,W⟩);simp[execOp,ho,M,hz,mE,asIntOf,run_underlying hu,S,q,sizeOf,typeInfo,hi,A0,J0];cases h;cases h;rename_i kk K;split at h;rename_i n s ag ht;obtain⟨el,hu,Mh⟩:=AB0 ht;obtain⟨_,hs,_⟩:=T3 (w:=w) Mh;split at h;rename_i hc;obtain⟨S,q⟩:=hc;cases h;simp only[CV]at M;obtain⟨d1,d2,M⟩:=M;refine BW.pure g (u:=.pointer (J ⟨(x.loc kk).b,K+i.toNat*s,E⟩)) ?_ (by simp only[CV];exact⟨d1,d2,W⟩);simp[execOp,ho,M,hz,mE,asIntOf,Ol,run_underlying hu,S,q,hs,J0];cases h;cases h;rename_i row K;split at h;rename_i n s ag ht;obtain⟨el,hu,Mh⟩:=AB0 ht;obtain⟨_,hs,_⟩:=T3 (w:=w) Mh;split at h;rename_i hc;obtain⟨S,q⟩:=hc;cases h;simp only[CV]at M;obtain⟨b,I5,M,hr⟩:=M;refine BW.pure g (u:=.pointer (J ⟨b,I5+K+i.toNat*s,E⟩)) ?_ (by simp only[CV];exact⟨b,I5,by rw[mg],hr⟩);simp[execOp,ho,M,hz,mE,asIntOf,Ol,run_underlying hu,S,q,hs,J0];cases h;cases h;split at h;rename_i AG Ae es Bq Y1 ht;obtain⟨hu,A2,zv,hi,_,A0,_,_⟩:=JS ht;split at h;rename_i hc;obtain⟨S,q⟩:=hc;split at h;rename_i r hr;split at h;rename_i hl;cases h;have hd:=tT Y1 M;simp only[Ab]at hd;obtain⟨A,c,hv,_,_,Aw⟩:=hd;obtain⟨b,K,R,rfl,A1,Aw⟩:=Aw (λe=>by subst e;simp at hr);have:R=es:=by rw[<-A1 r (Cj hr),hl]
 subst this;have Fh:=Aw.AS A1 _ r hr;refine BW.pure g (u:=.pointer (J ⟨b,K+i.toNat*R,E⟩)) ?_ (by simp only[CV];exact⟨b,K+i.toNat*R,F,Fh⟩);simp[execOp,ho,hv,hz,mE,asIntOf,run_underlying hu,S,q,sizeOf,typeInfo,hi,A0,J0];cases h;cases h;cases h;cases h
theorem AU8 (g:Good S0 w0 x w H){t:TypeId}{y z:Operand}(ho:o.op=.index t y z)(K:CV x w (e y) (a.eval y))(M:CV x w (e z) (a.eval z))(h:oQ P t (e y) (e z)=J v):BW P o a S0 w0 x w H v none:=by
 generalize e y=Y at *
 generalize e z=Z at *
 unfold oQ at h;split at h;rename_i s k i;simp only[CV,Ab]at K M;obtain⟨K,_⟩:=K;obtain⟨M,_⟩:=M;split at h;rename_i hs;have hu:=AB2 hs;split at h;rename_i h0;simp only[Ia]at h;obtain⟨q,S,rfl⟩:=h;have R:i.toNat<s.size:=by have:=(Br.1 S).1;simpa using this
 have CT:s[i.toNat]?=J q:=by
  rw[getElem?_pos s i.toNat R];simp only[VZ]at S;rw[Array.getElem?_eq_getElem (by simpa using R)]at S;exact S
 refine BW.pure g (u:=.int .u8 q.toNat) ?_ ?_;simp[execOp,ho,K,M,Instr.index,asIntOf,run_underlying hu,h0,CT];simp only[CV,Ab];refine⟨W,?_⟩;have h1:uL.min=0:=by decide +kernel
 have h2:uL.max=255:=by decide +kernel
 have:=q.toNat_lt;simp[So,h1,h2];omega;cases h;cases h;rename_i l k i;simp only[CV,Ab]at K M;obtain⟨vs,K,hl⟩:=K;obtain⟨M,_⟩:=M;split at h;rename_i n s ag ht;obtain⟨el,hu,Mh⟩:=AB0 ht;obtain⟨_,hs,_⟩:=T3 (w:=w) Mh;split at h;rename_i hc;obtain⟨h0,h1⟩:=hc;obtain⟨u,k1,k2⟩:=AJL Mh hl h;refine BW.pure g (u:=u) ?_ k2;simp[execOp,ho,K,M,Instr.index,asIntOf,run_underlying hu,h0,h1,hs,k1];cases h;cases h;cases h
theorem Ab.AYw {S:BF}{AG:List (List C)}(h:Ab S w (.sl AG) u):∃A c,u=.slice A (G AG) c/\(G AG)<=maxLen:=by
 simp only[Ab]at h;obtain⟨A,c,e,K,M,_⟩:=h;exact⟨A,c,e,Ux⟩
theorem AVA (g:Good S0 w0 x w H){t:TypeId}(S:o.op=.call ⟨.builtin .len,#[y],#[t]⟩)(K:CV x w (e y) (a.eval y))(h:oT P t (e y)=J v):BW P o a S0 w0 x w H v none:=by
 generalize e y=Y at *
 unfold oT at h;split at h;simp only[CV,Ab]at K;obtain⟨K,R⟩:=K;split at h;rename_i M;cases h;refine BW.pure g (u:=_) (by simp[execOp,S,resolve,invoke,builtin,K,uA,run_underlying (AB2 M),goInt];rfl) ?_;simp only[CV,Ab];exact⟨W,Q8 R⟩;cases h;simp only[CV]at K;obtain⟨_,_,cap,K,h1,h2,_⟩:=K;split at h;rename_i M;obtain⟨el,q⟩:=AB1 M;cases h;refine BW.pure g (u:=_) (by simp[execOp,S,resolve,invoke,builtin,K,uA,run_underlying q,goInt];rfl) ?_;simp only[CV,Ab];exact⟨W,Q8 Ux⟩;cases h;split at h;rename_i AG z;split at h;rename_i M;obtain⟨el,q⟩:=AB1 M;cases h;obtain⟨A,c,hv,R⟩:=(tT z K).AYw;refine BW.pure g (u:=_) (by simp[execOp,S,resolve,invoke,builtin,hv,uA,run_underlying q,goInt];rfl) ?_;simp only[CV,Ab];exact⟨W,Q8 R⟩;cases h;cases h
theorem ADx : ∀(l:List V) (us:List Value) (mx:Bool) (n:Int) (k:IntKind) (v:V),AO x w l us->(I9 k n).wf=I->Vz mx n k l=J v->
 ∃u,(us.foldlM (if mx then Builtin.max2 else Builtin.min2) (Value.int k n)).run P w=.ok u w/\CV x w v u
 | [],us,mx,n,k,v,h,q,K=>by
   simp only[AO]at h;subst h;simp only[Vz,BL]at K;subst K;exact⟨.int k n,ZA,by simp only[CV,Ab];exact⟨W,q⟩⟩
 | y::l,us,mx,n,k,v,h,q,K=>by
   simp only[AO]at h;obtain⟨u,ur,rfl,R,z⟩:=h;cases y with
   | c c =>
     cases c with
     | int k' m =>
       simp only[Vz]at K;simp only[CV,Ab]at R;obtain⟨rfl,hm⟩:=R;split at K;rename_i hk;subst hk;have M:(I9 k (if mx then(if n<m then m else n)else(if m<n then m else n))).wf=true:=by cases mx<;>simp only[GW,Awh,Awg]<;>split<;>assumption
       obtain⟨u,S,hu⟩:=ADx l ur mx _ k v z M K;refine⟨u,?_,hu⟩;cases mx<;>simp[Builtin.max2,Builtin.min2]at S ⊢<;>exact S;cases K
     | _=>simp[Vz]at K
   | _=>simp[Vz]at K
theorem AIz (g:Good S0 w0 x w H){b:Builtin}{mx:Bool}{args:Array Operand}{z:Array TypeId}(hb:(b=.max/\mx=I)\/(b=.min/\mx=U))(q:o.op=.call ⟨.builtin b,args,z⟩)(hy : ∀y∈args.toList,CV x w (e y) (a.eval y))(h:az mx (args.toList.map e)=J v):BW P o a S0 w0 x w H v none:=by
 have R:=AO.of_map hy;obtain⟨args⟩:=args;simp only at *
 match args,h,R with
 | [],h,_=>simp[az]at h
 | y::l,h,R =>
   simp only[Ap,AO,Vb]at R;obtain⟨u,ur,⟨rfl,rfl⟩,K,h2⟩:=R;simp only[Ap]at h;unfold az at h;split at h;rename_i k n r M;simp only[Vb]at M;obtain⟨e1,e2⟩:=M;rw[e1]at K;simp only[CV,Ab]at K;obtain⟨u,S,hu⟩:=ADx (P:=P) r _ mx n k v (e2 ▸ h2) K.2 h;refine BW.pure g (u:=u) ?_ hu;rcases hb with ⟨rfl,rfl⟩|⟨rfl,rfl⟩
   simp only[Awg]at S;simp[execOp,q,resolve,invoke,builtin,Builtin.max_,K.1,S];simp only[GW,Awh]at S;simp[execOp,q,resolve,invoke,builtin,Builtin.min_,K.1,S];cases h
theorem o7 (K:Option Operand)(d:Nat){l:Int}{k:IntKind}(h:(K.map e).getD (.c (.int .i64 d))=.c (.int k l))(M : ∀y,K=J y->CV x w (e y) (a.eval y)):(K=E/\l=d)\/∃y k',K=J y/\a.eval y=.int k' l:=by
 cases K with
 | none=>simp only[Option.map_none,Hr,V.c.injEq,C.int.injEq]at h;exact .inl ⟨rfl,h.2.symm⟩
 | some y=>simp only[Nu,Dm]at h;have:=M y F;rw[h]at this;simp only[CV,Ab]at this;exact .inr ⟨y,k,rfl,this.1⟩
theorem ok_slice (g:Good S0 w0 x w H){t:TypeId}{lo hi:Option Operand}(ho:o.op=.slice t y lo hi E)(hy:CV x w (e y) (a.eval y))(KD : ∀z,lo=J z->CV x w (e z) (a.eval z))(A1 : ∀z,hi=J z->CV x w (e z) (a.eval z))(h:V3 P t (e y) (lo.map e) (hi.map e)=J v):BW P o a S0 w0 x w H v none:=by
 unfold V3 at h;split at h;rename_i k l s hl hs;rw[hs]at hy;simp only[CV,Ab]at hy;obtain⟨hy,DJ⟩:=hy;split at h;rename_i k' K q;split at h;rename_i hc;obtain⟨ht,h0,h1,h2⟩:=hc;cases h;have hu:=AB2 ht;have b1:=o7 lo 0 hl KD;have b2:=o7 hi s.size q A1;have h3:l<=(K.toNat:Int):=Ux;have h4:0<=K:=Ux;refine BW.pure g (u:=.string (s.extract l.toNat K.toNat)) ?_ ?_;rcases b1 with ⟨rfl,rfl⟩|⟨z,k1,rfl,e1⟩<;>rcases b2 with ⟨rfl,rfl⟩|⟨z2,k2,rfl,e2⟩<;>
  simp[execOp,ho,hy,mK,uI,run_underlying hu,mL,uJ,asIntOf, *]<;>omega
 simp only[CV,Ab];refine⟨W,?_⟩;rw[ByteArray.size_extract];omega;cases h;cases h;rename_i k l hl Fg;split at h;rename_i AG Y1;split at h;rename_i k' K Ae es Bq q ht;split at h;rename_i hc;obtain⟨M,h0,h1,h2⟩:=hc;cases h;obtain⟨hu,ie,zv,EB,_,A7,_,_⟩:=JS ht;have hd:=tT Y1 hy;simp only[Ab]at hd;obtain⟨A,c,hv,HL,GM,Aw⟩:=hd;have b1:=o7 lo 0 hl KD;have b2:=o7 hi (G AG) q A1;have h3:l<=(K.toNat:Int):=Ux;have h4:0<=K:=Ux;have h5:K<=(c:Int):=Ux;have h6:(K.toNat:Int)=K:=Ux;refine BW.pure g (u:=.slice (if c=l.toNat then A else A.map (·.add (l.toNat*es))) (K.toNat - l.toNat) (c - l.toNat)) ?_ ?_;rcases b1 with ⟨rfl,rfl⟩|⟨z,k1,rfl,e1⟩<;>rcases b2 with ⟨rfl,rfl⟩|⟨z2,k2,rfl,e2⟩<;>
  simp[execOp,ho,hv,mK,uI,run_underlying hu,mL,uJ,asIntOf,sizeOf,typeInfo, *]
 simp only[CV,Ab];have R:G ((AG.take K.toNat).drop l.toNat)=K.toNat - l.toNat:=by simp;omega
 refine⟨_,c - l.toNat,by rw[R],Ux,Ux,λA2=>?_⟩;have jz:AG≠[]:=λe=>A2 (by rw[e];simp)
 obtain⟨b,A5,S,rfl,A0,hr⟩:=Aw jz;have A6:l.toNat<K.toNat:=by
  rcases MK l.toNat K.toNat with h|h
  exact h;exact absurd (Nr (by rw[R];omega)) A2
 have A3:S=es:=by
  obtain⟨r,rs,rfl⟩:=List.exists_cons_of_ne_nil jz;rw[ES]at M;have:=M r ZA;simp only[beq_iff_eq]at this;rw[<-A0 r ZA,this]
 subst A3;rw[Awf Ux];refine⟨b,A5+l.toNat*S,S,by simp[J0],λr PS=>A0 r (uT (List.mem_of_mem_drop PS)),?_⟩;have:=(hr.take K.toNat)
 exact this.drop l.toNat (λr PS=>A0 r (uT PS)) (by simp;omega);cases h;cases h;cases h;cases h
end
section
variable {P:Program} {S0:BF} {w0:Bs} {x:Cx} {w:World} {H:Bx} {a:Act} {o:Oper} {e:Operand->V} {v:V}
theorem K7 {α:Type}{es:Nat} : ∀ {AG:List (List α)},(∀r∈AG,G r=es)->G AG.flatten=G AG*es
 | [],_=>ZA
 | r::M,h=>by
   have ih:=K7 (AG:=M) λr K=>h r (by simp[K])
   simp only[Hp,Cp,BA,h r ZA,ih,Gz];omega
theorem toC_ok {v:V}{c:C}(h:toC v=J c)(K:CV x w v u):Ab x.S w c u:=by
 unfold toC at h;split at h<;>first|cases h|skip
 simpa only[CV]using K;simp only[CV]at K;obtain⟨_,_,K⟩:=K;exact K;simp only[CV]at K;exact K.2.2.1;simp only[CV,AO]at K;obtain⟨vs,rfl,M⟩:=K;have e:vs=#[]:=Gx.1 M;subst e;simp only[Ab]
theorem toCs_ok : ∀ {l:List V} {cs:List C} {us:List Value},toCs l=J cs->AO x w l us->B4 x.S w cs us
 | [],cs,us,h,K=>by simp only[toCs,BL]at h;subst h;simpa only[AO,B4]using K
 | v::l,cs,us,h,K=>by
   simp only[AO]at K;obtain⟨u,ur,rfl,M,R⟩:=K;unfold toCs at h;split at h;rename_i c r q z;cases h;simp only[B4];exact⟨u,ur,F,toC_ok q M,toCs_ok z R⟩;cases h
theorem toCs_len : ∀ {l:List V} {cs:List C},toCs l=J cs->G cs=G l
 | [],cs,h=>by simp only[toCs,BL]at h;subst h;rfl
 | v::l,cs,h=>by
   unfold toCs at h;split at h;rename_i c r M K;cases h;simp[toCs_len K];cases h
theorem Good.AIf (g:Good S0 w0 x w H)(ty:TypeId)(arr:Array Value)(m:Nat)(hm:m<=arr.size)(W:World)(hW:Ay w W)(hs:W.heap.size=w.heap.size){l:List C}(z:B4 x.S w l (arr.toList.take m)) :
 ∃M,Good S0 w0 { x with S:=M } (W.alloc (.cells arr ty)) H/\Ext x { x with S:=M } w (W.alloc (.cells arr ty))/\B5 M (W.alloc (.cells arr ty)) l w.heap.size 0:=by
 have q:Ay w (W.alloc (.cells arr ty)):=hW.alloc _;have R:Ar x.S (λb j=>x.S b j\/(b=w.heap.size/\j<m)) w (W.alloc (.cells arr ty)):=⟨λ_ _ h=>.inl h,λb j v _ hc=>q.cell hc⟩
 obtain⟨g',he⟩:=g.MF (x':={ x with S:=λb j=>x.S b j\/(b=w.heap.size/\j<m) }) q R rfl rfl (λb j h=>h.imp id λh=>⟨Ux,by simp;omega⟩);refine⟨_,g',he,B5.Pe (B4.mono R _ _ z) (λj u K=>?_) (λj hj=>.inr ⟨F,?_⟩)⟩;rw[Cz,cell_of_row _ _ j arr ty (0,0) (by rw[<-hs];exact heap_alloc_new W _)];rw[KO]at K;split at K;simpa using K;cases K;have:=z.len;simp at this;omega
theorem cC : ∀(cs:List Value) (i off:Nat) (K:Array Value),off+i+G cs<=K.size->
 ((cs.zipIdx i).foldl (λ(c:Array Value) (p:Value×Nat)=>c.setIfInBounds (off+p.2) p.1) K).toList=K.toList.take (off+i)++cs++K.toList.drop (off+i+G cs)
 | [],i,off,K,h=>ZA
 | v::r,i,off,K,h=>by
   simp only[mb,Bw];have M:off+i<K.size:=by simp at h;omega
   rw[cC r (i+1) off _ (by simp at h ⊢;omega)];simp only[Array.toList_setIfInBounds];rw[show off+(i+1)=off+i+1 by omega,UD (by simpa using M),List.take_set_of_le (BN _)];rw[List.drop_set_of_lt Ux];simp[mg,Nat.add_comm 1]
theorem AFa {es:Nat}(e:Operand->V)(a:Act):∀(ps:List (Nat×Operand)) (i:Nat) (AG:List (List C)) (arr:Array Value),X4 e es i ps=J AG->(∀p∈ps,CV x w (e p.2) (a.eval p.2))->(i+G ps)*es<=arr.size->
 ∃R xs,fi (λi=>J (i*es,es)) arr (ps.map λp=>(p.1,a.eval p.2))=J R/\R.toList=arr.toList.take (i*es)++xs++arr.toList.drop ((i+G ps)*es)/\B4 x.S w AG.flatten xs/\(∀r∈AG,G r=es)/\(G AG)=G ps
 | [],i,AG,arr,h,_,K=>by
   simp only[X4,BL]at h;subst h;exact⟨arr,[],F,ZA,by simp[B4],ZA,rfl⟩
 | (j,y)::ps,i,AG,arr,h,hv,K=>by
   unfold X4 at h;split at h;rename_i hc;obtain⟨rfl,hf,hl⟩:=hc;split at h;rename_i row M Bn q;cases h;have hy:=hv (j,y) ZA;obtain⟨k1,k2⟩:=hy.cells hf;have OL:(a.eval y).cells.size=es:=by have:=k1.len;simp only[FW]at this;omega
   have A1:j*es+es<=arr.size:=by
    have:(j+1)*es<=(j+G ((j,y)::ps))*es:=Vj _ ZA;rw[Gz]at this;omega
   have FH:=cC (a.eval y).cells.toList 0 (j*es) arr (by simp;omega);have A0:((((a.eval y).cells.toList.zipIdx 0).foldl (λ(c:Array Value) (p:Value×Nat)=>c.setIfInBounds (j*es+p.2) p.1) arr)).size=arr.size:=by
    have:=congrArg List.length FH;simp only[FW,Cp,Fa,Ns]at this;omega
   obtain⟨R,xs,e1,e2,e3,e4,e5⟩:=AFa e a ps (j+1) M _ q (λp hp=>hv p (by simp[hp])) (by rw[A0];simp at K;rw[show j+1+G ps=j+(G ps+1)by omega];exact K);refine⟨R,(a.eval y).cells.toList++xs,?_,?_,?_,?_,by simp[e5]⟩;simp only[Ap,fi];rw[Awf (by simp;omega),<-e1];congr 1
   rw[<-AMK];simp[AMQ];rw[e2,FH];have z:(j+1)*es=j*es+es:=by rw[Gz];omega
   have h2:(a.eval y).cells.toList.length=es:=by simpa using OL
   have h3:(j+G ((j,y)::ps))*es=(j+1+G ps)*es:=by congr 1;simp;omega
   rw[h3,z];simp only[Nat.add_zero];rw[List.take_append_of_le_length (by simp;omega),Gl (by simp;omega)];rw[List.drop_append,FA (l:=List.take (j*es) arr.toList++(a.eval y).cells.toList) (by rw[Gz,z];simp only[Cp,Fa,FW];omega)];simp only[BU,GX,Cp,Fa,FW,List.drop_drop];congr 4
   rw[OL,Vi Ux];rw[Gz,z];omega;simp only[Hp];exact(toCs_ok Bn k1).append e3;intro r hr;rcases Cf.1 hr with rfl|hr
   rw[toCs_len Bn,hl];exact e4 r hr;cases h;cases h
theorem AUz (g:Good S0 w0 x w H){t:TypeId}{len:Nat}{parts:Array (Nat×Operand)}(ho:o.op=.buildSlice t len parts)(hp : ∀p∈parts.toList,CV x w (e p.2) (a.eval p.2)){es Bq:Nat}(ht:Dk P t=J (Ae,es,Bq))(h0:0<len*es)(h1:len*es<=2 ^ 24)(M:G parts.toList=len){AG:List (List C)}(h:X4 e es 0 parts.toList=J AG):BW P o a S0 w0 x w H (.Bg AG) none:=by
 obtain⟨hu,ie,R,EB,hz,K,_,_⟩:=JS ht;obtain⟨arr,xs,e1,e2,q,z,e5⟩:=AFa (x:=x) (w:=w) e a parts.toList 0 AG ((Array.range (len*es)).map (R.cells[· % R.cells.size]!)) h hp (by simp[<-M]);have NW:G xs=len*es:=by rw[q.len,K7 z,e5,M]
 have S:arr.toList=xs:=by
  rw[e2,M];simp
 have A0:arr.size=len*es:=by rw[<-FW,S,NW]
 have hr:=run_buildSlice (P:=P) w t Ae len (parts.map λ(i,y)=>(i,a.eval y)) arr ie R hu EB hz (by rw[K];omega) (by rw[K];omega) (by rw[AJN,K];exact e1);obtain⟨S',g',he,Fh⟩:=g.AIf Ae arr (len*es) Ux w (Ay.refl w) rfl (l:=AG.flatten) (by rw[S,Gl Ux];exact q);have hl:G AG=len:=by rw[e5,M]
 refine⟨_,_,_,.slice (J ⟨w.heap.size,0,E⟩) len len,by simp only[execOp,ho,Jt,hr,Oo];rfl,.inl F,?_,g',he,λ_ h=>.inl h,λhb=>by rw[ho]at hb;cases hb⟩;have Wi:len<=maxLen:=by
  have:len<=len*es:=Nat.le_mul_of_pos_right _ (Nat.pos_of_mul_pos_left h0);unfold maxLen;omega
 simp only[CV,Ab];refine⟨J ⟨w.heap.size,0,E⟩,by rw[hl],J ⟨w.heap.size,0,E⟩,len,by rw[hl],Ux,Wi,λ_=>⟨w.heap.size,0,es,rfl,z,D9.flat.2 Fh⟩⟩
theorem AAd {es:Nat}(z:Array Value)(K:z.size=es):∀n:Nat,(madeCells z (n*es)).toList=(Aq n z.toList).flatten
 | 0=>by simp[madeCells]
 | n+1=>by
   have ih:=AAd z K n;unfold madeCells at ih ⊢;simp only[Array.toList_map,Array.toList_range]at ih ⊢;rw[show (n+1)*es=n*es+es by rw[Gz];omega,List.range_add,Fm,ih,List.replicate_succ',Vd];congr 1
   simp only[M7,Hp,List.flatten_nil,E5];apply List.ext_getElem;simp[K];intro i R q;have S:i<es:=by simpa using R
   have M:i<z.size:=Ux;simp[K,Nat.add_mod,Nat.mod_eq_of_lt S];exact getElem!_pos z i M
theorem AO.px {l:List V}{us:List Value}(h:AO x w l us):∀n:Nat,AO x w (Aq n l).flatten (Aq n us).flatten
 | 0=>by simp[AO]
 | n+1=>by simp only[BY,Hp];exact h.append (h.px n)
theorem AVG (g:Good S0 w0 x w H){t:TypeId}{y z:Operand}(ho:o.op=.makeSlice t y z){es Bq:Nat}(ht:Dk P t=J (Ae,es,Bq)){k k':IntKind}{l:Int}(hy:CV x w (.c (.int k l)) (a.eval y))(hz:CV x w (.c (.int k' l)) (a.eval z)){M:List V}(A0:C2 P Ae=J M)(h0:0<=l)(h1:(Bq:Int)*l<=281474976710656)(h2:l<=9223372036854775807)(K:Nat)(hk : ¬x.dom K):BW P o a S0 w0 x w H (.own K 0 l.toNat es) (J (K,.box Ae (Aq l.toNat M).flatten U)):=by
 obtain⟨hu,ie,zv,EB,VD,q,R,A1⟩:=JS ht;obtain⟨zk,Y9,IN,i2,J9,R8⟩:=Z2 (x:=x) (w:=w) A0;rw[EB]at J9;cases J9;rw[VD]at R8;cases R8;simp only[CV,Ab]at hy hz;have hr:=run_make (P:=P) w t Ae ie zv hu EB VD k k' l l h0 (Int.le_refl _) (by rw[R];exact h1) h2;rw[q]at hr;have S:AO x w (Aq l.toNat M).flatten (madeCells zv.cells (l.toNat*es)).toList:=by rw[AAd zv.cells A1];exact IN.px _
 obtain⟨g',he⟩:=g.Zc K hk Ae _ _ S;refine⟨_,_,_,.slice (J ⟨w.heap.size,0,E⟩) l.toNat l.toNat,by simp only[execOp,ho,hy.1,hz.1,Jt,hr,Oo];rfl,.inl F,?_,g',he,λk h=>h.elim .inl λe=>.inr ⟨.box Ae (Aq l.toNat M).flatten U,by rw[e]⟩,λ_=>rfl⟩;simp only[CV,Cx.C4,Awg];exact⟨.inr W,W,l.toNat,F,BN _,by unfold maxLen;omega,by simp[size_madeCells]⟩
end
section
variable {P:Program} {S0:BF} {w0:Bs} {x:Cx} {w:World} {H:Bx} {a:Act} {o:Oper} {e:Operand->V} {v:V}
def wD (P:Program)(t:TypeId)(X Y:V):Pl:=
 match Xe Y,Dk P t with
 | some ys,J (Ae,es,Bq)=>if 0<es/\(ys.all λr=>G r==es)=I then
    match X with
    | .Bg AG=>if (AG.all λr=>G r==es)=I/\(G AG)+G ys<=maxLen/\(G AG+G ys)*Bq<=140737488355328 then .new (.tok Ae es (G AG+G ys)) λk=>.gr k es (AG++ys)else .fail
    | .gr k es' AG=>if es'=es/\(G AG)+G ys<=maxLen/\(G AG+G ys)*Bq<=140737488355328 then .wr k λ
       | .tok ty e2 cur=>if ty=Ae/\e2=es/\cur=G AG then J (.tok Ae es (G AG+G ys),.gr k es (AG++ys))else E
       | _=>E
      else .fail
    | _=>.fail
   else .fail
 | _,_=>.fail
theorem wG {AG:List (List C)}(h:(AG.all λr=>G r==es)=I):∀r∈AG,G r=es:=by
 intro r K;rw[ES]at h;simpa using h r K
theorem T0 {S:BF}{AG:List (List C)}(h:Ab S w (.sl AG) u)(K : ∀r∈AG,G r=es):
 ∃A c xs,u=.slice A (G AG) c/\(G AG)<=c/\c<=maxLen/\B4 S w AG.flatten xs/\(G xs)=G AG*es/\(∀R,A=J R->∀j v,xs[j]?=J v->w.cell? (R.add j)=J v)/\(AG≠[]->∃b off,A=J ⟨b,off,E⟩/\∀j,j<G AG*es->S b (off+j)):=by
 simp only[Ab]at h;obtain⟨A,c,hu,q,z,h3⟩:=h;by_cases hr:AG=[]
 subst hr;exact⟨A,c,[],hu,q,z,by simp[B4],ZA,λR _ j v M=>by simp at M,λh=>absurd rfl h⟩;obtain⟨b,off,A0,rfl,_,Fh⟩:=h3 hr;obtain⟨xs,k1,k2,k3⟩:=B5.vals _ _ _ (D9.flat.1 Fh);refine⟨_,c,xs,hu,q,z,k1,by rw[k1.len,K7 K],λR he j v M=>?_,λ_=>⟨b,off,rfl,λj M=>k3 j (by rw[K7 K];exact M)⟩⟩;cases he;rw[J0];exact k2 j v M
theorem wL {t ty Ae:TypeId}{es Bq:Nat}(hT:Dk P t=J (Ae,es,Bq)){AG M:List (List C)}{u us:Value}(hd:Ab x.S w (.sl AG) u)(hr : ∀r∈AG,G r=es)(hs:Ab x.S w (.sl M) us)(hy : ∀r∈M,G r=es)(A2:M≠[])(Mf : ∀A n c,u=.slice A n c->c<n+G M/\(A=E->c=0))(z:G AG+G M<=maxLen)(hb:(G AG+G M)*Bq<=140737488355328) :
 ∃vs cap,(aE #[t,t] ty #[u,us]).run P w=.ok (.slice (J ⟨w.heap.size,0,E⟩) (G AG+G M) cap) (w.drew.alloc (.cells vs Ae))/\vs.size=cap*es/\(G AG)+G M<=cap/\cap<=maxLen/\
  B4 x.S w (AG++M).flatten (vs.toList.take ((G AG+G M)*es)):=by
 obtain⟨hu,ie,zv,EB,hz,q,A0,A6⟩:=JS hT;obtain⟨A,c,xs,rfl,h1,h2,h3,h4,h5,h6⟩:=T0 hd hr;obtain⟨B,c',zs,rfl,k1,k2,k3,k4,k5,k6⟩:=T0 hs hy;obtain⟨b,A5,rfl,_⟩:=k6 A2;have Gs:0<G M:=Kr.2 A2;have A3:((G AG+G M:Nat):Int)<=9223372036854775807:=by unfold maxLen at z;omega
 obtain⟨HL,GM⟩:=Mf _ _ _ F;have JL : ∀K,G AG+G M<=grownCap w (G AG+G M) K Ae:=λK=>grownCap_ge w _ K Ae
 have A1 : ∀K,grownCap w (G AG+G M) K Ae<=maxLen:=λK=>grownCap_le_maxLen w _ K Ae z
 have key : ∀K,∃vs,vs=xs.toArray++zs.toArray++Builtin.zeroCells zv.cells (grownCap w (G AG+G M) K Ae - (G AG+G M))/\vs.size=grownCap w (G AG+G M) K Ae*es/\B4 x.S w (AG++M).flatten (vs.toList.take ((G AG+G M)*es)):=by
  intro K;refine⟨_,F,?_,?_⟩;simp only[Array.size_append,uW,size_zeroCells,A6,h4,k4,<-Gz];congr 1
  have:=JL K;omega;have:(G AG+G M)*es=G (xs++zs):=by rw[Cp,h4,k4,Gz]
  simp only[Pq,Vd];rw[this,List.take_left'];exact h3.append k3;rfl
 cases A with
 | none =>
   have Jh:AG=[]:=by
    by_cases h:AG=[]
    exact h;obtain⟨_,_,h,_⟩:=h6 h;cases h
   subst Jh;obtain rfl:=GM F;have hx:xs=[]:=Nr (by simpa using h4);subst hx;obtain⟨vs,e1,e2,e3⟩:=key 0;have R:=run_append_nil (P:=P) w t ty Ae ie zv hu EB hz ⟨b,A5,E⟩ (G M) c' zs (by rw[k4,q]) (k5 _ F) Gs (by simpa using A3) (by rw[A0];simp only[BO,Cz]at hb;omega);refine⟨vs,grownCap w (G M) 0 Ae,?_,by simpa using e2,by simpa using JL 0,by simpa using A1 0,e3⟩;simp only[BO,Cz]at e1 ⊢;rw[R,e1];simp
 | some ad=>obtain⟨vs,e1,e2,e3⟩:=key c;have R:=run_append_grow (P:=P) w t ty Ae ie zv hu EB hz ad (G AG) c xs (by rw[h4,q]) (h5 _ F) ⟨b,A5,E⟩ (G M) c' zs (by rw[k4,q]) (k5 _ F) HL A3 (growslice_fits HL (by rw[A0];exact hb));exact⟨vs,_,by rw[R,e1],e2,JL c,A1 c,e3⟩
theorem AD0 {t ty Ae:TypeId}{es Bq:Nat}(R:Dk P t=J (Ae,es,Bq)){A:Option Addr}{n c:Nat}(K:n<=c){us:Value}(hs:Ab x.S w (.sl []) us):(aE #[t,t] ty #[.slice A n c,us]).run P w=.ok (.slice A n c) w:=by
 obtain⟨hu,ie,zv,M,hz,z,q,A0⟩:=JS R;simp only[Ab]at hs;obtain⟨B,c',rfl,_⟩:=hs;cases A<;>cases B<;>simp[aE,run_underlying hu,sizeOf,typeInfo,M,Builtin.lenOf,K,Builtin.firstCells,loadCells,loadCellsFrom,storeCells]
def Cx.grow (x:Cx)(k:Nat)(l:Loc)(m:Nat):Cx:={ dom:=λi=>x.dom i\/i=k,loc:=λi=>if i=k then l else x.loc i,S:=λb j=>x.S b j\/(b=l.b/\j<m) }
theorem Ab.of_flat {S:BF}{W:World}{AG:List (List C)}{es b cap:Nat}(R : ∀r∈AG,G r=es)(K:G AG<=cap)(M:cap<=maxLen)(h:B5 S W AG.flatten b 0):Ab S W (.sl AG) (.slice (J ⟨b,0,E⟩) (G AG) cap):=by
 simp only[Ab];exact⟨_,cap,F,K,M,λ_=>⟨b,0,es,F,R,D9.flat.2 h⟩⟩
theorem Good.xi (g:Good S0 w0 x w H)(k:Nat){Ae:TypeId}{es m:Nat}(hk : ∀o,H k=J o->∃ty es K,o=.tok ty es K/\K<m){vs:Array Value}{cap:Nat}(z:vs.size=cap*es){l:List C}(hl:B4 x.S w l (vs.toList.take (m*es)))(Mi:G l=m*es)(hm:m<=cap) :
 let x':=x.grow k ⟨w.heap.size,cap*es,I,m,U⟩ (m*es)
 Good S0 w0 x' (w.drew.alloc (.cells vs Ae)) (H.set k (.tok Ae es m))/\Ext x x' w (w.drew.alloc (.cells vs Ae))/\B5 x'.S (w.drew.alloc (.cells vs Ae)) l w.heap.size 0:=by
 intro x';have QP:Ay w (w.drew.alloc (.cells vs Ae)):=(Ay.refl w).drew.alloc _;have FF:(w.drew.alloc (.cells vs Ae)).heap[w.heap.size]?=J (.cells vs Ae (0,0)):=heap_alloc_new w.drew _;have ar:Ar x.S x'.S w (w.drew.alloc (.cells vs Ae)):=⟨λ_ _ h=>.inl h,λb j v _ hc=>QP.cell hc⟩
 have he:Ext x x' w (w.drew.alloc (.cells vs Ae)):=by
  refine⟨ar,λ_ h=>.inl h,λi R=>?_⟩;by_cases e:i=k;subst e;obtain⟨o,ho⟩:=g.dom i R;obtain⟨ty,A0,K,rfl,q⟩:=hk o ho;obtain⟨_,h1,h2,_⟩:=g.ok i _ ho;simp only[x',Cx.grow,Awg];exact⟨h1.symm,.inr ⟨h1,by rw[h2];exact q⟩⟩;simp only[x',Cx.grow,e,Awh];exact FM.refl _
 refine⟨g.H5 k _ he (.FR QP) (λi=>RA) (λi R=>by simp[x',Cx.grow,R]) (λ_=>.inr (by simp[x',Cx.grow])) ?_ (λb j h=>?_) (λj hx hs=>?_),he,?_⟩;exact⟨by simp[x',Cx.grow],by simp[x',Cx.grow],λ_=>⟨vs,by simp only[x',Cx.grow,Awg];exact FF,by simp[x',Cx.grow,z]⟩⟩;rcases h with h|⟨rfl,h⟩
 exact .inl h;refine .inr ⟨ZA,.inl (BN _),λ_ hx=>?_⟩;have:=hx.2.1;omega;simp only[x',Cx.grow,Awg]at hs;have:=g.ex _ _ hs;omega;refine B5.Pe (B4.mono ar _ _ hl) (λj u M=>?_) (λj hj=>.inr ⟨rfl,by rw[Mi]at hj;omega⟩);rw[Cz,cell_of_row _ _ j vs Ae (0,0) FF];rw[KO]at M;split at M;simpa using M;cases M
theorem Good.AXv (g:Good S0 w0 x w H)(k:Nat){es n m:Nat}(hH:H k=J (.tok Ae es n))(M:(x.loc k).void=U){K:Array Value}(hb:w.heap[(x.loc k).b]?=J (.cells K Ae (0,0)))(Gs:0<m){news:List Value}{l:List C}(IJ:G news=m*es)(Dz:n*es+m*es<=K.size)(hl:B4 x.S w l (K.toList.take (n*es)++news)):
 let x':=x.grow k ⟨(x.loc k).b,(x.loc k).n,I,n+m,U⟩ ((n+m)*es)
 let w':=w.setRow (x.loc k).b (K.toList.take (n*es)++news++K.toList.drop (n*es+G news)).toArray
 Good S0 w0 x' w' (H.set k (.tok Ae es (n+m)))/\Ext x x' w w'/\B5 x'.S w' l (x.loc k).b 0:=by
 intro x' w';obtain⟨hd,h1,h2,h3⟩:=g.ok k _ hH;obtain⟨vs,CT,hn⟩:=h3 M;rw[hb]at CT;cases CT;have z:w'.heap[(x.loc k).b]?=J (.cells (K.toList.take (n*es)++news++K.toList.drop (n*es+G news)).toArray Ae (0,0)):=setRow_heap w _ K _ Ae (0,0) hb;have A0:(K.toList.take (n*es)++news++K.toList.drop (n*es+G news)).toArray.size=K.size:=by
  simp only[uW,Cp,Fa,Ns,FW];omega
 have ar:Ar x.S x'.S w w':=by
  refine⟨λ_ _ h=>.inl h,λb j v hS R=>?_⟩;by_cases Ga:b=(x.loc k).b;subst Ga;rw[cell_of_row w _ j K Ae (0,0) hb]at R;rw[cell_of_row w' _ j _ Ae (0,0) z];have hj:j<K.size:=(DO.1 R).1;have GN:j<n*es:=by
   rcases MK j (n*es)with h|h
   exact h;exact absurd hS (g.EA k _ j hH ⟨M,h,Ux⟩)
  rw[mV,GX,EJ (by simp;omega),KO,Awd GN];simpa using R;rw[RK (w:=w) (a:=⟨b,j,E⟩) (setRow_other w _ b _ Ga)];exact R
 have he:Ext x x' w w':=by
  refine⟨ar,λ_ h=>.inl h,λi hi=>?_⟩;by_cases e:i=k;subst e;simp only[x',Cx.grow,Awg];exact⟨h1.symm,.inr ⟨h1,by rw[h2];simp only;omega⟩⟩;simp only[x',Cx.grow,e,Awh];exact FM.refl _
 refine⟨g.H5 k _ he ⟨F,F,F,by simp[w'],λi _ hn=>setRow_other w _ i _ (λe=>hn ⟨hd,M,e.symm⟩)⟩ (λi=>RA) (λi hi=>by simp[x',Cx.grow,hi]) (λ_=>.inl ⟨hd,M,by simp[x',Cx.grow]⟩) ?_ (λb j h=>?_) (λj q hs=>?_),he,?_⟩;exact⟨by simp[x',Cx.grow],by simp[x',Cx.grow],λ_=>⟨_,by simp only[x',Cx.grow,Awg];exact z,by simp only[x',Cx.grow,Awg];rw[A0,hn]⟩⟩;rcases h with h|⟨rfl,h⟩
 exact .inl h;refine .inr ⟨by simp[w'];exact(DO.1 hb).1,.inr ⟨hd,M,rfl⟩,λ_ q=>?_⟩;have:=q.2.1;omega;simp only[x',Cx.grow,Awg]at hs;refine g.EA k _ j hH ⟨M,?_,?_⟩ hs;have:=q.2.1;rw[Gz]at this;omega;have:=q.2.2;simpa [x',Cx.grow]using this;have Mi:G l=(n+m)*es:=by
  have:=hl.len;rw[Cp,Fa,FW,IJ,Vi Ux,<-Gz]at this;exact this.symm
 refine B5.Pe (B4.mono ar _ _ hl) (λj u hu=>?_) (λj hj=>.inr ⟨rfl,by rw[Mi]at hj;omega⟩);rw[Cz,cell_of_row w' _ j _ Ae (0,0) z,mV,EJ ((Br.1 hu).1)];exact hu
theorem Bx.ABk {k:Nat}{K:O}(h:H k=J K):H.set k K=H:=by
 funext i;unfold Bx.set;split;rename_i e;rw[e,h];rfl
theorem Ty {AG K:List (List C)}(M : ∀r∈AG,G r=es)(R : ∀r∈K,G r=es):∀r∈AG++K,G r=es:=by
 intro r h;rcases MJ.1 h with h|h
 exact M r h;exact R r h
theorem AUu (g:Good S0 w0 x w H){t:TypeId}{y z:Operand}(ho:o.op=.call ⟨.builtin .append,#[y,z],#[t,t]⟩){es Bq:Nat}(hT:Dk P t=J (Ae,es,Bq)){AG R:List (List C)}(hY:CV x w (.Bg AG) (a.eval y))(hZ:Ab x.S w (.sl R) (a.eval z))(hr : ∀r∈AG,G r=es)(hy : ∀r∈R,G r=es)(A0:G AG+G R<=maxLen)(hb:(G AG+G R)*Bq<=140737488355328)(M:Nat)(hk : ¬x.dom M):
 BW P o a S0 w0 x w H (.gr M es (AG++R)) (J (M,.tok Ae es (G AG+G R))):=by
 have hH : ∀ob,H M=J ob->False:=λob h=>hk (g.ok M ob h).1
 simp only[CV]at hY;obtain⟨A,hA,hd⟩:=hY;by_cases q:R=[]
 subst q;have K:=AD0 (x:=x) (w:=w) (ty:=o.type) hT (A:=A) (BN (G AG)) hZ;have he:Ext x (x.grow M ⟨0,0,I,G AG,I⟩ 0) w w:=⟨⟨λ_ _ h=>.inl h,λ_ _ _ _ h=>h⟩,λ_ h=>.inl h,λi hi=>by
  have:i≠M:=λe=>hk (e ▸ hi)
  simp[Cx.grow,this,FM.refl]⟩
 have g':=g.H5 M (.tok Ae es (G AG)) he (.FR (Ay.refl w)) (λi=>RA) (λi hi=>by simp[Cx.grow,hi]) (λh=>by simp[Cx.grow]at h) ⟨by simp[Cx.grow],by simp[Cx.grow],λh=>by simp[Cx.grow]at h⟩ (λb j h=>h.elim .inl λh=>by omega) (λj hx=>by have:=hx.1;simp[Cx.grow]at this);refine⟨_,w,_,.slice A (G AG) (G AG),by simp[execOp,ho,resolve,invoke,builtin,hA,K],.inl F,?_,by simpa [Bx.upd]using g',he,λk h=>h.elim .inl λe=>.inr ⟨.tok Ae es (G AG),by rw[e];rfl⟩,λhb=>by rw[ho]at hb;cases hb⟩;simp only[CV,E5];refine⟨.inr F,by simp[Cx.grow],?_,hr,by simp[Cx.grow],λ_=>by simp[Cx.grow]⟩;rw[hA]at hd;exact Ab.mono he.ar _ _ hd;have Gs:0<G R:=Kr.2 q;obtain⟨vs,cap,K,A1,h1,h2,hl⟩:=wL (ty:=o.type) hT hd hr hZ hy q (λA' n c e=>by rw[hA]at e;cases e;exact⟨Ux,λhn=>by
  by_cases h:AG=[]
  rw[h];rfl;obtain⟨_,_,_,_,_,_,_,_,_,h6⟩:=T0 hd hr;obtain⟨b,A2,hb,_⟩:=h6 h;rename_i e1 e2 e3 _ _;rw[hA]at *
  cases ‹Value.slice A (G AG) (G AG)=_›;rw[hn]at hb;cases hb⟩) A0 hb
 obtain⟨g',he,Fh⟩:=g.xi M (λob h=>(hH ob h).elim) A1 hl (by rw[K7 (Ty hr hy),Cp]) h1;refine⟨_,_,_,_,by simp[execOp,ho,resolve,invoke,builtin,K];rfl,.inl F,?_,g',he,λk h=>h.elim .inl λe=>.inr ⟨.tok Ae es (G AG+G R),by rw[e]⟩,λhb=>by rw[ho]at hb;cases hb⟩;have FH:=Ab.of_flat (cap:=cap) (Ty hr hy) (by rw[Cp];exact h1) h2 Fh;simp only[CV];rw[Cp]at FH;refine⟨.inr F,by simp[Cx.grow],FH,Ty hr hy,by simp[Cx.grow],λ_=>?_⟩;simp only[Cx.grow,Awg,GW,Awh,Cp];exact⟨cap,F,F⟩
theorem AUv (g:Good S0 w0 x w H){t:TypeId}{y z:Operand}(ho:o.op=.call ⟨.builtin .append,#[y,z],#[t,t]⟩){es Bq:Nat}(hT:Dk P t=J (Ae,es,Bq)){AG M:List (List C)}{k:Nat}(hY:CV x w (.gr k es AG) (a.eval y))(hZ:Ab x.S w (.sl M) (a.eval z))(B3:0<es)(hy : ∀r∈M,G r=es)(A7:G AG+G M<=maxLen)(hb:(G AG+G M)*Bq<=140737488355328)(hH:H k=J (.tok Ae es (G AG))):
 BW P o a S0 w0 x w H (.gr k es (AG++M)) (J (k,.tok Ae es (G AG+G M))):=by
 have A8:=hY;simp only[CV]at hY;obtain⟨zE,B1,hd,hr,B7,Lr⟩:=hY;obtain⟨_,_,GM,NP⟩:=g.ok k _ hH;have Lr:=Lr GM.symm;obtain⟨A,c,xs,hu,q1,q2,q3,q4,q5,q6⟩:=T0 hd hr;by_cases A0:M=[]
 subst A0;have K:=AD0 (x:=x) (w:=w) (ty:=o.type) hT (A:=A) q1 hZ;refine⟨_,w,x,.slice A (G AG) c,by simp[execOp,ho,resolve,invoke,builtin,hu,K],.inl F,?_,by simpa [Bx.upd,Bx.ABk hH]using g,Ext.refl _ _,λ_ h=>.inl h,λ_=>rfl⟩;rw[E5,<-hu];exact A8;have Gs:0<G M:=Kr.2 A0;have A3:(∀A n c,a.eval y=.slice A n c->c<n+G M/\(A=E->c=0))->BW P o a S0 w0 x w H (.gr k es (AG++M)) (J (k,.tok Ae es (G AG+G M))):=by
  intro Mf;obtain⟨vs,cap,K,q,h1,h2,hl⟩:=wL (ty:=o.type) hT hd hr hZ hy A0 Mf A7 hb;obtain⟨g',he,Fh⟩:=g.xi k (Ae:=Ae) (m:=G AG+G M) (λob h=>by rw[hH]at h;cases h;exact⟨_,_,_,F,Ux⟩) q hl (by rw[K7 (Ty hr hy),Cp]) h1;refine⟨_,_,_,_,by simp[execOp,ho,resolve,invoke,builtin,K];rfl,.inl F,?_,g',he,λk h=>h.elim .inl λe=>.inr ⟨.tok Ae es (G AG+G M),by rw[e]⟩,λhb=>by rw[ho]at hb;cases hb⟩;have FH:=Ab.of_flat (cap:=cap) (Ty hr hy) (by rw[Cp];exact h1) h2 Fh;simp only[CV];rw[Cp]at FH;refine⟨.inr F,by simp[Cx.grow],FH,Ty hr hy,by simp[Cx.grow],λ_=>?_⟩;simp only[Cx.grow,Awg,GW,Awh,Cp];exact⟨cap,F,F⟩
 cases hv:(x.loc k).void with
 | true =>
   rw[hv]at Lr;simp only[Awg]at Lr;obtain⟨A',Au⟩:=Lr;refine A3 λA2 n c2 e=>?_
   rw[Au]at e;cases e;refine⟨Ux,λhn=>?_⟩;by_cases h:AG=[]
   rw[h];rfl;obtain⟨b,A6,CT,_⟩:=q6 h;rw[Au]at hu;cases hu;rw[hn]at CT;cases CT
 | false =>
   rw[hv]at Lr;simp only[GW,Awh]at Lr;obtain⟨cap,Au,FX⟩:=Lr;by_cases R:G AG+G M<=cap;obtain⟨Te,ie,zv,EB,hz,q,B2,B8⟩:=JS hT;obtain⟨A1,FF,B0⟩:=NP hv;obtain⟨B,c',zs,VE,k1,k2,k3,k4,k5,k6⟩:=T0 hZ hy;obtain⟨b,A6,rfl,_⟩:=k6 A0;have A5:(G AG+G M)*es<=cap*es:=Vj _ R;rw[Gz]at A5;have K:=run_append_room (P:=P) w t o.type Ae ie Te EB (x.loc k).b (G AG) cap A1 FF ⟨b,A6,E⟩ (G M) c' zs (by rw[k4,q]) (k5 _ F) k3.r8 R (by rw[q,k4];omega);rw[q]at K;have zt:A1.toList.take (G AG*es)=xs:=by
    apply List.ext_getElem?;intro j;rw[KO];rw[Au]at hu;cases hu;split;rename_i hj;have jt:j<G xs:=Ux;have:=q5 _ rfl j xs[j] (BE jt);rw[J0,Cz,cell_of_row w _ j A1 Ae (0,0) FF]at this;rw[BE jt];simpa using this;rw[M6 Ux]
   obtain⟨g',he,Fh⟩:=g.AXv k hH hv FF Gs (news:=zs) (l:=(AG++M).flatten) k4 Ux (by rw[zt,Vd];exact q3.append k3);refine⟨_,_,_,_,by simp[execOp,ho,resolve,invoke,builtin,Au,VE,K];rfl,.inl F,?_,g',he,λk h=>h.elim .inl λe=>.inr ⟨.tok Ae es (G AG+G M),by rw[e]⟩,λhb=>by rw[ho]at hb;cases hb⟩;have A9:cap<=maxLen:=by rw[Au]at hu;cases hu;exact q2
   have FH:=Ab.of_flat (cap:=cap) (Ty hr hy) (by rw[Cp];exact R) A9 Fh;simp only[CV];rw[Cp]at FH;refine⟨.inr F,by simp[Cx.grow],FH,Ty hr hy,by simp[Cx.grow],λ_=>?_⟩;simp only[Cx.grow,Awg,GW,Awh,Cp];exact⟨cap,F,FX⟩;refine A3 λA2 n c2 e=>?_
   rw[Au]at e;cases e;exact⟨Ux,λhn=>by cases hn⟩
end
section
variable {P:Program} {S0:BF} {w0:Bs} {x:Cx} {w:World} {H:Bx} {a:Act} {o:Oper} {e:Operand->V} {v:V}
def P2 (P:Program)(e:Operand->V)(op:Op):Pl:=
 match op with
 | .call ⟨.builtin .append,args,Fk⟩=>match args.toList,Fk.toList with
   | [y,z],[t,t']=>if t=t' then wD P t (e y) (e z)else .fail
   | _,_=>.fail
 | op=>oV P e op
theorem Ow {q:Option V}{K:Nat}{t:Option (Nat×O)}(h:(Mv q).ap H K=J (v,t)):q=J v/\t=none:=by
 cases q with
 | none=>cases h
 | some y=>simp only[Mv,Pl.ap,BL,Cr]at h;exact⟨by rw[h.1],h.2.symm⟩
theorem toList_one {α:Type}{l:Array α}{y:α}(h:l.toList=[y]):l=#[y]:=by apply Gx.1;simpa using h
theorem toList_two {α:Type}{l:Array α}{y z:α}(h:l.toList=[y,z]):l=#[y,z]:=by apply Gx.1;simpa using h
theorem oW (g:Good S0 w0 x w H)(M : ∀y∈o.op.operands.toList,CV x w (e y) (a.eval y)){k0:Nat}{t:Option (Nat×O)}(hk : ∀ob,t=J (k0,ob)->¬x.dom k0)(h:(P2 P e o.op).ap H k0=J (v,t)):BW P o a S0 w0 x w H v t:=by
 have A6 : ∀ {y:Operand},o.op.operands.toList=[y]->(execOp a.eval o).run P w=.ok (.value (a.eval y)) w->BW P o a S0 w0 x w H (e y) none:=λS hr=>BW.pure g hr (M _ (by rw[S];simp))
 unfold P2 at h;split at h
 .
   rename_i args Fk K;split at h;rename_i y z t1 t2 ha ht;have A3:=toList_two ha;have Wq:=toList_two ht;subst A3 Wq;split at h;rename_i A8;subst A8;have R:=M y (by simp[K,Bl,Df]);have hz:=M z (by simp[K,Bl,Df]);unfold wD at h;split at h;rename_i ys Ae es Bq rP hT;have hZ:=tT rP hz;split at h;rename_i hc;obtain⟨A9,A2⟩:=hc;split at h;rename_i AG hX;rw[hX]at R;split at h;rename_i hc;simp only[Pl.ap,BL,Cr]at h;obtain⟨rfl,rfl⟩:=h;exact AUu g K hT R hZ (wG hc.1) (wG A2) hc.2.1 hc.2.2 k0 (hk _ F);cases h;rename_i k B3 AG hX;rw[hX]at R;split at h;rename_i hc;obtain⟨rfl,HL,GM⟩:=hc;simp only[Pl.ap]at h;split at h;rename_i ob hH;split at h;rename_i o' v' hg;simp only[BL,Cr]at h;obtain⟨rfl,rfl⟩:=h;split at hg;split at hg;rename_i A5;obtain⟨rfl,rfl,rfl⟩:=A5;simp only[BL,Cr]at hg;obtain⟨rfl,rfl⟩:=hg;exact AUv g K hT R hZ A9 (wG A2) HL GM hH;cases hg;cases hg;cases h;cases h;cases h;cases h;cases h;cases h;cases h;cases h
 .
   rename_i op B7;unfold oV at h;split at h;rename_i y K;simp only[Pl.ap,BL,Cr]at h;obtain⟨rfl,rfl⟩:=h;exact A6 (by simp[K,Bl]) (by simp[execOp,K]);rename_i y K;simp only[Pl.ap,BL,Cr]at h;obtain⟨rfl,rfl⟩:=h;exact A6 (by simp[K,Bl]) (by simp[execOp,K]);rename_i c y z K;split at h;rename_i b hb;simp only[Pl.ap,BL,Cr]at h;obtain⟨rfl,rfl⟩:=h;have hc:=M c (by simp[K,Bl]);rw[hb]at hc;simp only[CV,Ab]at hc;have R:=M y (by simp[K,Bl]);have hz:=M z (by simp[K,Bl]);refine BW.pure g (u:=if b then a.eval y else a.eval z) (by simp[execOp,K,hc,asBool]) ?_;cases b;simpa using hz;simpa using R;cases h;rename_i ty K;split at h;rename_i z hz;simp only[Pl.ap,BL,Cr]at h;obtain⟨rfl,rfl⟩:=h;exact AAq g K hz k0 (hk _ F);cases h;rename_i ty y K;split at h;rename_i hf;simp only[Pl.ap,BL,Cr]at h;obtain⟨rfl,rfl⟩:=h;exact AAr g K (M y (by simp[K,Bl])) hf k0 (hk _ F);cases h;rename_i t' parts K;split at h;rename_i z pl hz B0;split at h;rename_i cs A7;simp only[Pl.ap,BL,Cr]at h;obtain⟨rfl,rfl⟩:=h;exact AIu g K (λp hp=>M p.2 (by simp only[K,Bl];exact Da.2 ⟨p,hp,rfl⟩)) hz B0 A7;cases h;cases h;rename_i t' len parts K;split at h;rename_i Ae es Bq hT;split at h;rename_i hc;split at h;rename_i AG Y1;simp only[Pl.ap,BL,Cr]at h;obtain⟨rfl,rfl⟩:=h;exact AUz g K (λp hp=>M p.2 (by simp only[K,Bl];exact Da.2 ⟨p,hp,rfl⟩)) hT hc.1 hc.2.1 hc.2.2 Y1;cases h;cases h;cases h;rename_i t' y K;have R:=M y (by simp[K,Bl]);split at h;rename_i q k A0 hq hp;rw[hp]at R;simp only[Pl.ap]at h;split at h;rename_i ob hH;split at h;rename_i v' hg;simp only[BL,Cr]at h;obtain⟨rfl,rfl⟩:=h;split at hg;exact AVE g K hq R hH hg;cases hg;cases h;cases h;rename_i q row A0 hq hp;rw[hp]at R;obtain⟨S,rfl⟩:=Ow h;exact AVC g K hq R S;cases h;rename_i t' y z K;have R:=M y (by simp[K,Bl]);have hz:=M z (by simp[K,Bl]);split at h;rename_i q k A0 hq hp;rw[hp]at R;simp only[Pl.ap]at h;split at h;rename_i ob hH;split at h;rename_i o' v' hg;simp only[BL,Cr]at h;obtain⟨rfl,rfl⟩:=h;split at hg;split at hg;rename_i hc;simp only[BL,Cr]at hg;obtain⟨rfl,rfl⟩:=hg;exact AAs g K hq R hz hH hc.1 hc.2.1 hc.2.2;cases hg;cases hg;cases h;cases h;cases h;rename_i y K;have R:=M y (by simp[K,Bl]);split at h;rename_i k A0 hp;rw[hp]at R;simp only[Pl.ap,BL,Cr]at h;obtain⟨rfl,rfl⟩:=h;have Wu:=R;simp only[CV]at R;exact BW.pure g (u:=a.eval y) (by simp[execOp,K,R.2.2]) Wu;rename_i row A0 hp;rw[hp]at R;simp only[Pl.ap,BL,Cr]at h;obtain⟨rfl,rfl⟩:=h;have Wu:=R;simp only[CV]at R;obtain⟨b,I5,R,_⟩:=R;exact BW.pure g (u:=a.eval y) (by simp[execOp,K,R]) Wu;cases h;rename_i B2 ty y z GV K;obtain⟨S,rfl⟩:=Ow h;exact AUy g K (M y (by simp[K,Bl])) (M z (by simp[K,Bl])) S;rename_i B8 ty y K;obtain⟨S,rfl⟩:=Ow h;exact AVR g K (M y (by simp[K,Bl])) S;rename_i s d y K;split at h;rename_i q hq;obtain⟨S,rfl⟩:=Ow h;refine AU0 g ?_ K (M y (by simp[K,Bl])) S;unfold B6 at hq;cases hu:P.underlying s with
   | none=>simp[hu]at hq
   | some ds=>exact⟨ds,F⟩
   cases h;rename_i f first A1 K
   split at h;rename_i hf;simp only[Pl.ap,BL,Cr]at h;obtain⟨rfl,rfl⟩:=h;have jl:first=#[]:=Array.eq_empty_of_size_eq_zero hf
   subst jl;refine BW.pure g (u:=.func (.func f) #[] (A1.map a.eval)) (by simp[execOp,K,Instr.makeFunc]) ?_;simp only[CV];refine⟨_,F,?_⟩;have:=AO.of_map (x:=x) (w:=w) (e:=e) (a:=a) (l:=A1.toList) (λy R=>M y (by simp[K,Bl];simpa using R));simpa using this;cases h;rename_i t' y z K;have R:=M y (by simp[K,Bl]);have hz:=M z (by simp[K,Bl]);split at h;rename_i Ae es Bq k l k' c hT hl hc;split at h;rename_i zl B1;split at h;rename_i A5;obtain⟨rfl,h0,S,h2⟩:=A5;simp only[Pl.ap,BL,Cr]at h;obtain⟨rfl,rfl⟩:=h;rw[hl]at R;rw[hc]at hz;exact AVG g K hT R hz B1 h0 S h2 k0 (hk _ F);cases h;cases h;cases h;rename_i t' y lo hi K;obtain⟨S,rfl⟩:=Ow h;exact ok_slice g K (M y (by simp[K,Bl])) (λz hz=>M z (by simp[K,Bl,hz])) (λz hz=>M z (by simp[K,Bl,hz])) S;rename_i s y f K;obtain⟨S,rfl⟩:=Ow h;exact AU4 g K (M y (by simp[K,Bl])) S;rename_i s y f K;have R:=M y (by simp[K,Bl]);split at h;rename_i A0 n ag l hf hl;obtain⟨S,rfl⟩:=Ow h;rw[hl]at R;exact AU3 g K hf R S;cases h;rename_i t' y z K;obtain⟨S,rfl⟩:=Ow h;exact AU9 g K (M y (by simp[K,Bl])) (M z (by simp[K,Bl])) S;rename_i t' y z K;obtain⟨S,rfl⟩:=Ow h;exact AU8 g K (M y (by simp[K,Bl])) (M z (by simp[K,Bl])) S;rename_i y i K;have R:=M y (by simp[K,Bl]);split at h;rename_i l hl;obtain⟨S,rfl⟩:=Ow h;rw[hl]at R;simp only[CV]at R;obtain⟨vs,R,hl⟩:=R;obtain⟨u,k1,k2⟩:=hl.get i v S;have:vs[i]?=J u:=by simpa using k1
   exact BW.pure g (u:=u) (by simp[execOp,K,R,Instr.extract,this]) k2;cases h;rename_i args Fk K;split at h;rename_i y t1 ha ht;have A3:=toList_one ha;have Wq:=toList_one ht;subst A3 Wq;obtain⟨S,rfl⟩:=Ow h;exact AVA g K (M y (by simp[K,Bl,Df])) S;cases h;rename_i args Fk K;obtain⟨S,rfl⟩:=Ow h;exact AIz g (.inl ⟨rfl,rfl⟩) K (λy R=>M y (by simp[K,Bl,Df];simpa using R)) S;rename_i args Fk K;obtain⟨S,rfl⟩:=Ow h;exact AIz g (.inr ⟨rfl,rfl⟩) K (λy R=>M y (by simp[K,Bl,Df];simpa using R)) S;cases h
end
def Pb (l:List Oper):Bool:=l.all λo=>match o.op with | .defer _=>U|_=>I
theorem AIi {l:List Oper}(h:Pb l=I){o:Oper}(K:o∈l)(c:Call):o.op≠.defer c:=by
 intro e;unfold Pb at h;rw[ES]at h;have:=h o K;rw[e]at this;cases this
def ADj (K:Act->World->Prop):Exit->Act->World->Prop
 | .normal,a,w=>K a w
 | _,_,_=>False
theorem AVW (K:Act->World->Prop):¬LetsOut (ADj K):=λ⟨_,_,h⟩=>h
section
variable {P:Program} {Q:Exit->Act->World->Prop} {lp n:Nat}
theorem AX7 {row:String}{args:Array Value}{R:Value->World->Prop}(h:Rows P row args w R):RowsIn (Cg.inRound lp) n P row args w R:=λc K _ =>
 let ⟨v,w',r,s⟩:=h c K
 ⟨v,w',r,stepsIn_wide.2 s⟩
theorem dm {o:Oper}{a:Act}{K:Act->World->Prop}(M : ∀c,o.op≠.defer c)(h:o.wp P a w K Q):o.wpIn (Cg.inRound lp) n P a w K Q:=by
 refine⟨λ_ _=>trivial,?_⟩;rw[show (Cg.inRound lp).round=J lp from rfl,Oper.semAt_some lp _ _ M];unfold Er at h;generalize (execOp a.eval o).run P w=r at h ⊢;cases r with
 | ok x w' =>
   cases x<;>simp only[Nt,ue]at h ⊢<;>
    first
     | exact h
     | exact h.elim
     | exact⟨λe=>(by cases e),CallsIn.inRound lp (callsIn_wide.2 h)⟩
     | exact⟨λe=>(by cases e),AX7 h⟩
 | halt x w'=>cases x<;>simp only[Nt,ue]at h ⊢<;>exact h
theorem AUJ {ops:Array Oper}(S : ¬LetsOut Q):∀(r:List Oper) (a:Act) (w:World),Pb r=I->wpList P ops Q r a w->wpListIn (Cg.inRound lp) n P ops Q r a w:=by
 intro r;induction r with
 | nil=>intro a w _ h;exact h
 | cons o r ih =>
   intro a w K h;have R:Pb r=true:=by unfold Pb at K ⊢;simp only[Ep,Ak]at K;exact K.2
   simp only[wpList,wpListIn]at h ⊢;split;rename_i M;rw[Awd M]at h;refine dm (AIi K ZA) (mo (λa w=>ih a w R) (h.resolve_right λh=>S h.2));rename_i M;rw[Awf M]at h;exact⟨λ_ _=>trivial,ih _ _ R h⟩
theorem ANO {l:List Oper}(q : ¬LetsOut Q)(z:Pb l=I):∀(M:Nat) (K:Array Bool) (a:Act) (w:World),wpAny P .any l.toArray Q M K a w->wpAnyIn (Cg.inRound lp) n P .any l.toArray Q M K a w:=by
 intro M;induction M with
 | zero=>intro K a w h;exact h
 | succ M ih =>
   intro K a w h;refine⟨h.1,λi hi=>?_⟩;have h:=h.2 i hi;unfold wpOp at h;unfold wpOpIn;cases R:l.toArray[i]? with
   | none=>rw[R]at h;exact ih _ _ _ h
   | some o=>rw[R]at h;simp only at h ⊢;have hm:o∈l:=Cj (i:=i) (by simpa using R);split;rename_i S;rw[Awd S]at h;exact dm (AIi z hm) (mo (λa w=>ih _ a w) (h.resolve_right λh=>q h.2));rename_i S;rw[Awf S]at h;exact⟨λ_ _=>trivial,ih _ _ _ h⟩
end
section
structure St where
 t:List V
 h:List O
def St.put (s:St)(d:Option Tmp)(v:V):St:=
 match d with
 | some d=>{ s with t:=s.t.set d v }
 | none=>s
def Bk (h:List O):Option (Nat×O)->List O
 | none=>h
 | some (k,o)=>if k<G h then h.set k o else h++[o]
structure Bo (S0:BF)(w0:Bs)(x:Cx)(s:St)(a:Act)(w:World):Prop where
 good:Good S0 w0 x w (λk=>s.h[k]?)
 tm:AO x w s.t a.tmps.toList
 df:Marks w0 a.defers w
variable {P:Program} {S0:BF} {w0:Bs} {x:Cx} {w:World} {a:Act} {o:Oper} {v:V} {s:St}
theorem Bo.fresh (h:Bo S0 w0 x s a w):¬x.dom (G s.h):=λK=>by
 obtain⟨o,M⟩:=h.good.dom _ K;simp at M
theorem Kj (h:List O)(t:Option (Nat×O))(q : ∀k o,t=J (k,o)->k<=G h):(λk=>(Bk h t)[k]?)=Bx.upd (λk=>h[k]?) t:=by
 cases t with
 | none=>rfl
 | some p =>
   obtain⟨k,o⟩:=p;have z:=q k o F;funext i;simp only[Bk,Bx.upd,Bx.set];by_cases K:k<G h;rw[Awd K,RD];by_cases e:k=i;subst e;simp[K];have S : ¬i=k:=λh=>e h.symm
   simp[e,S];rw[Awf K];have R:k=G h:=Ux;subst R;by_cases e:i=G h;subst e;simp;simp only[e,Awh];rcases MK i (G h) with M|M
   rw[EJ M];rw[M6 (by simp;omega),M6 M]
theorem AJ7 (a:Act)(d:Option Tmp)(u:Value):(a.put d u).tmps.toList=match d with|some d=>a.tmps.toList.set d u|none=>a.tmps.toList:=by
 cases d<;>simp[Act.put]
theorem Bo.put {K:List O}{x':Cx}{w':World}(h:AO x w s.t a.tmps.toList)(R:Marks w0 a.defers w')(S:Ext x x' w w')(g:Good S0 w0 x' w' (λk=>K[k]?))(q:CV x' w' v u)(d:Option Tmp):Bo S0 w0 x' (St.put { s with h:=K } d v) (a.put d u) w':=by
 have M:=AO.mono S _ _ h;cases d with
 | none=>exact⟨g,M,R⟩
 | some d=>exact⟨g,by rw[AJ7];exact M.set d q,R⟩
theorem oZ {H:List O}{p:Pl}{t:Option (Nat×O)}(h:p.ap (λk=>H[k]?) (G H)=J (v,t)):∀k o,t=J (k,o)->k<=G H:=by
 intro k o M;subst M;cases p with
 | fail=>cases h
 | val v=>simp[Pl.ap]at h
 | rd k g=>simp only[Pl.ap]at h;split at h<;>(try split at h)<;>simp at h
 | wr i g =>
   simp only[Pl.ap]at h;split at h;rename_i R K;split at h;simp only[BL,Cr]at h;obtain⟨_,rfl,_⟩:=h;exact LZ (Br.1 K).1;cases h;cases h
 | new o mk=>simp only[Pl.ap,BL,Cr]at h;omega
def Cx.bare (S:BF):Cx:={ dom:=λ_=>False,loc:=λ_=>⟨0,0,U,0,U⟩,S:=S }
def AC (P:Program)(f:FuncId)(args:List V)(res:V):Prop:=
 ∀(S:BF) (w:World) (us:List Value),(∀b j,S b j->b<w.heap.size)->AO (Cx.bare S) w args us->
  Calls P f us.toArray w λr w'=>∃u S',r=.returned u/\Ay w w'/\Ar S S' w w'/\(∀b j,S' b j->S b j\/(w.heap.size<=b/\b<w'.heap.size))/\CV (Cx.bare S') w' res u
mutual
def V.CP:V->Option V
 | .c d=>J (.c d)
 | .Bg r=>J (.c (.sl r))
 | .gr _ _ r=>J (.c (.sl r))
 | .cp row off=>J (.cp row off)
 | .agg l=>(V.CF l).map V.agg
 | .A7 l=>(V.CF l).map V.A7
 | .fn f caps=>(V.CF caps).map (V.fn f)
 | .any=>J .any
 | .ptr _ _=>E
 | .own _ _ _ _=>E
 | .Be _ _ _=>E
 | .hp _ _ _=>E
 | .yl l=>J (.yl l)
 | .mp _=>E
def V.CF:List V->Option (List V)
 | []=>J []
 | v::l=>match V.CP v,V.CF l with
   | some y,J r=>J (y::r)
   | _,_=>E
end
mutual
theorem SL {x:Cx}{w:World} : ∀(v M:V) (u:Value),V.CP v=J M->CV x w v u->CV (Cx.bare x.S) w M u
 | .c c,M,u,h,K=>by simp only[V.CP,BL]at h;subst h;simpa only[CV,Cx.bare]using K
 | .Bg r,M,u,h,K=>by simp only[V.CP,BL]at h;subst h;simp only[CV]at K ⊢;obtain⟨_,_,K⟩:=K;exact K
 | .gr k es r,M,u,h,K=>by simp only[V.CP,BL]at h;subst h;simp only[CV]at K ⊢;exact K.2.2.1
 | .cp row q,M,u,h,K=>by simp only[V.CP,BL]at h;subst h;simpa only[CV,Cx.bare]using K
 | .agg l,M,u,h,K=>by
   simp only[V.CP,Ia]at h;obtain⟨r,h,rfl⟩:=h;simp only[CV]at K ⊢;obtain⟨vs,e,K⟩:=K;exact⟨vs,e,MC l r _ h K⟩
 | .A7 l,M,u,h,K=>by
   simp only[V.CP,Ia]at h;obtain⟨r,h,rfl⟩:=h;simp only[CV]at K ⊢;obtain⟨vs,e,K⟩:=K;exact⟨vs,e,MC l r _ h K⟩
 | .fn f R,M,u,h,K=>by
   simp only[V.CP,Ia]at h;obtain⟨r,h,rfl⟩:=h;simp only[CV]at K ⊢;obtain⟨vs,e,K⟩:=K;exact⟨vs,e,MC R r _ h K⟩
 | .any,M,u,h,_=>by simp only[V.CP,BL]at h;subst h;simp only[CV]
 | .ptr _ _,_,_,h,_=>by simp[V.CP]at h
 | .own _ _ _ _,_,_,h,_=>by simp[V.CP]at h
 | .Be _ _ _,_,_,h,_=>by simp[V.CP]at h
 | .hp _ _ _,_,_,h,_=>by simp[V.CP]at h
 | .yl l,M,u,h,K=>by simp only[V.CP,BL]at h;subst h;simpa only[CV]using K
 | .mp _,_,_,h,_=>by simp[V.CP]at h
theorem MC {x:Cx}{w:World} : ∀(l M:List V) (us:List Value),V.CF l=J M->AO x w l us->AO (Cx.bare x.S) w M us
 | [],M,us,h,K=>by simp only[V.CF,BL]at h;subst h;simpa only[AO]using K
 | v::l,M,us,h,K=>by
   simp only[AO]at K;obtain⟨u,R,rfl,q,z⟩:=K;unfold V.CF at h;split at h;rename_i y r hy hr;cases h;simp only[AO];exact⟨u,R,F,SL v y u hy q,MC l r R hr z⟩;cases h
end
def V.tR:V->V
 | .c (.EV f)=>.fn f []
 | v=>v
theorem Pp {x:Cx}{w:World}{v:V}(h:CV x w v u):CV x w v.tR u:=by
 unfold V.tR;split;simp only[CV,Ab]at h;simp only[CV,AO];exact⟨#[],h,F⟩;exact h
def C7 (e:Operand->V):Op->Option (FuncId×List V)
 | .call ⟨.value f,args,_⟩=>match (e f).tR with
   | .fn f caps=>J (f,args.toList.map e++caps)
   | _=>E
 | _=>E
def iE (P:Program)(f:FuncId)(args:List V)(K:V->Prop):Prop:=∃Bd res,V.CF args=J Bd/\AC P f Bd res/\(∃fn,P.funcs[f]?=J fn/\fn.body.isSome=I/\fn.name≠ "runtime.NumGoroutine")/\K res
def S9 (ops:List Oper)(t:List V)(o:Oper)(K1 K2:Prop):Prop:=
 match o.guard with
 | none=>K1
 | some (j,want)=>match (ops[j]?).bind (·.dst)with
   | some d=>match t.getD d .any with
     | .c (.bool b)=>(b=want->K1)/\(b=(!want)->K2)
     | .A7 []=>K2
     | _=>False
   | none=>False
def RP (P:Program)(o:Oper)(s:St)(K:V->Option (Nat×O)->Prop):Prop:=
 match C7 (ev s.t) o.op with
 | some (f,args)=>iE P f args λv=>K v E
 | none=>match (P2 P (ev s.t) o.op).ap (λk=>s.h[k]?) (G s.h) with
   | some (v,t)=>K v t
   | none=>False
def St.step (s:St)(d:Option Tmp)(v:V)(t:Option (Nat×O)):St:=St.put { s with h:=Bk s.h t } d v
def Eg (P:Program)(ops:List Oper)(K:St->Prop):List Oper->St->Prop
 | [],s=>K s
 | o::r,s=>S9 ops s.t o (RP P o s λv t=>Eg P ops K r (s.step o.dst v t)) (Eg P ops K r (s.put o.dst (.A7 [])))
theorem KR {ops:List Oper}{K1 K2:Prop}(ht:AO x w s.t a.tmps.toList)(h:S9 ops s.t o K1 K2):(FB o (yielded ops.toArray a.tmps)=I->K1)/\(FB o (yielded ops.toArray a.tmps)≠I->K2):=by
 unfold S9 at h;unfold FB;cases hg:o.guard with
 | none=>rw[hg]at h;simp only at h ⊢;exact⟨λ_=>h,λh=>absurd rfl h⟩
 | some p =>
   obtain⟨j,M⟩:=p;rw[hg]at h;simp only at h ⊢;split at h
   . rename_i d hd;split at h
     . rename_i b z;have K:=ht.getD d undef;rw[z]at K;simp only[CV,Ab]at K;have hy:yielded ops.toArray a.tmps j=J b:=by
        unfold yielded;have:(ops.toArray[j]?).bind (·.dst)=J d:=by simpa using hd
        rw[this];have S:a.tmps[d]?=J (.bool b):=by
         rw[Bv]at K;cases R:a.tmps.toList[d]? with
         | none=>rw[R]at K;cases K
         | some y=>rw[R]at K;simp only[Dm]at K;subst K;simpa using R
        simp[S]
       rw[hy];refine⟨λq=>h.1 (by simpa using q),λq=>h.2 ?_⟩;have:b≠M:=λe=>q (by rw[e];simp)
       cases b<;>cases M<;>simp_all
     rename_i z;have K:=ht.getD d undef;rw[z]at K;simp only[CV]at K;obtain⟨vs,K,_⟩:=K;have hy:yielded ops.toArray a.tmps j=none:=by
      unfold yielded;have:(ops.toArray[j]?).bind (·.dst)=J d:=by simpa using hd
      rw[this];have S:a.tmps[d]?=E\/a.tmps[d]?=J (.tuple vs):=by
       rw[Bv]at K;cases R:a.tmps.toList[d]? with
       | none=>left;simpa using R
       | some y=>rw[R]at K;simp only[Dm]at K;subst K;right;simpa using R
      rcases S with S|S<;>simp[S]
     rw[hy];exact⟨λq=>by simp at q,λ_=>h⟩;exact h.elim
   exact h.elim
theorem ld (x:Cx)(w:World):CV x w (.A7 []) undef:=by
 simp only[CV];exact⟨#[],F,by simp only[AO]⟩
theorem Ub (S:BF)(x:Cx)(w:World):Ext (Cx.bare S) { x with S:=S } w w:=⟨Ar.refl _ _,λ_ h=>h.elim,λ_ h=>h.elim⟩
theorem AEb (hA:Bo S0 w0 x s a w){f:FuncId}{args:List V}(M:C7 (ev s.t) o.op=J (f,args)){K:V->Prop}(h:iE P f args K)(hn : ∀v u q w',K v->Ay w w'->Ar x.S q w w'->(∀b j,q b j->x.S b j\/(w.heap.size<=b/\b<w'.heap.size))->CV (Cx.bare q) w' v u->next (a.put o.dst u) w'):o.wp P a w next Q:=by
 obtain⟨Bd,res,hp,C9,⟨fn,Ff,HK,U6⟩,hK⟩:=h;unfold C7 at M;split at M
 case h_2=>cases M
 rename_i fo z Fk ho;split at M
 case h_2=>cases M
 rename_i f' A0 hf;simp only[BL,Cr]at M;obtain⟨rfl,rfl⟩:=M;have R:=Pp (CW hA.tm fo);rw[hf]at R;simp only[CV]at R;obtain⟨vs,R,EP⟩:=R;have Hw:AO x w (z.toList.map (ev s.t)++A0) (z.toList.map a.eval++vs.toList):=(AO.of_map λy _=>CW hA.tm y).append EP;have:=C9 x.S w _ hA.good.ex (MC _ _ _ hp Hw);have hb:fn.body≠none:=by intro e;rw[e]at HK;cases HK
 have A1:(execOp a.eval o).run P w=.ok (.enter f' (z.toList.map a.eval++vs.toList).toArray) w:=by
  have e1:(z.map a.eval++vs)=(z.toList.map a.eval++vs.toList).toArray:=by apply Gx.1;simp
  simp[execOp,ho,resolve,R,Deferred.ofValue,invoke,callFunc,program,HW,Ff,U6,hb,e1]
 unfold Er;rw[A1];refine this.mono ?_;rintro r w' ⟨u,q,rfl,Gb,CZ,Gc,A2⟩;exact hn res u q w' hK Gb CZ Gc A2
theorem AOA (z:Bo S0 w0 x s a w){f:FuncId}{args:List V}(hc:C7 (ev s.t) o.op=J (f,args)){K:V->Prop}(h:iE P f args K)(hn : ∀v u x' w',K v->Good S0 w0 x' w' (λk=>s.h[k]?)->Ext x x' w w'->NC w w'->CV x' w' v u->next (a.put o.dst u) w'):o.wp P a w next Q:=AEb z hc h λv u q w' hK R CZ Gc M=>by
 obtain⟨g',he⟩:=z.good.MF (x':={ x with S:=q }) R CZ rfl rfl Gc;exact hn v u _ w' hK g' he (.FR R) (CV.mono (Ub q x w') _ _ M)
theorem wH (R:Bo S0 w0 x s a w){K:V->Option (Nat×O)->Prop}(h:RP P o s K)(hn : ∀v t u x' w',K v t->Good S0 w0 x' w' (λk=>(Bk s.h t)[k]?)->Ext x x' w w'->NC w w'->CV x' w' v u->next (a.put o.dst u) w'):o.wp P a w next Q:=by
 unfold RP at h;split at h;rename_i f args hc;exact AOA R hc h λv u x' w' hK g z CB hv=>hn v E u x' w' hK g z CB hv
 split at h;rename_i v t S;obtain⟨nx,w',x',u,hr,EH,q,M,z,_⟩:=oW R.good.XR (λy _=>CW R.tm y) (λ_ _=>R.fresh) S;rw[<-Kj _ _ (oZ S)]at M;obtain⟨M,CB⟩:=R.good.Sg z M;unfold Er;rw[hr];rcases EH with rfl|⟨rfl,rfl⟩
 exact hn v t u x' w' h M z CB q;exact hn v t undef x' w' h M z CB q;exact h.elim
theorem wJ {ops:List Oper}{K:St->Prop}{Q:Exit->Act->World->Prop}(R : ∀x s a w,K s->Bo S0 w0 x s a w->Q .normal a w):∀(l:List Oper) (x:Cx) (s:St) (a:Act) (w:World),Eg P ops K l s->Bo S0 w0 x s a w->wpList P ops.toArray Q l a w
 | [],x,s,a,w,h,M=>R x s a w h M
 | o::r,x,s,a,w,h,M=>by
   unfold Eg at h;obtain⟨z,h2⟩:=KR M.tm h;unfold wpList;split;rename_i S;refine .inl (wH M (z S) λv t u x' w' hK g he q hv=>?_);exact wJ R r x' _ _ w' hK (Bo.put M.tm (M.df.mono q) he g hv o.dst);rename_i S;refine wJ R r x _ _ w (h2 S) ?_;exact Bo.put (v:=.A7 []) (u:=undef) M.tm M.df (Ext.refl x w) M.good (ld x w) o.dst
theorem ANQ {K:V->Option (Nat×O)->Prop}(h:RP P o s K)(c:Call):o.op≠.defer c:=by
 intro e;unfold RP at h;rw[e]at h;simp[C7,P2,oV,Pl.ap]at h
theorem wK {lp n:Nat}{ops:List Oper}{K:St->Prop}{Q:Exit->Act->World->Prop}(S : ∀x s a w,K s->Bo S0 w0 x s a w->Q .normal a w):∀(l:List Oper) (x:Cx) (s:St) (a:Act) (w:World),Eg P ops K l s->Bo S0 w0 x s a w->wpListIn (Cg.inRound lp) n P ops.toArray Q l a w
 | [],x,s,a,w,h,M=>S x s a w h M
 | o::r,x,s,a,w,h,M=>by
   unfold Eg at h;obtain⟨q,h2⟩:=KR M.tm h;unfold wpListIn;split;rename_i R;refine dm (ANQ (q R)) (wH M (q R) λv t u x' w' hK g he z hv=>?_);exact wK S r x' _ _ w' hK (Bo.put M.tm (M.df.mono z) he g hv o.dst);rename_i R;refine⟨λ_ _=>trivial,wK S r x _ _ w (h2 R) ?_⟩;exact Bo.put (v:=.A7 []) (u:=undef) M.tm M.df (Ext.refl x w) M.good (ld x w) o.dst
structure Mo where
 rd:Option Nat
 n0:Nat
def fz (m:Mo):Fence:=match m.rd with
 | none=>Cg
 | some l=>Cg.inRound l
variable {m:Mo}
def AW (m:Mo)(P:Program)(c:Code)(K:Exit->St->Prop)(s:St):Prop:=
 ∀(n:Nat) (S0:BF) (w0:Bs) (x:Cx) (a:Act) (w:World),w0.n0<=m.n0->Bo S0 w0 x s a w->c.wpIn (fz m) n P (λe a w=>∃x s,Bo S0 w0 x s a w/\K e s) a w
def NH (n:St->Prop)(K:Exit->St->Prop):Exit->St->Prop
 | .normal,s=>n s
 | e,s=>K e s
def Sz (id:Nat)(K:Exit->St->Prop):Exit->St->Prop
 | .exit i,s=>if i=id then K .normal s else K (.exit i) s
 | e,s=>K e s
def AND (P:Prop)(Q:Prop):V->Prop
 | .c (.bool b)=>(b=I->P)/\(b=U->Q)
 | _=>False
theorem AW.mono {K M:Exit->St->Prop}(h:AW m P c K s)(z : ∀e s,K e s->M e s):AW m P c M s:=λn S0 w0 x a w hm q=>wpIn_mono (h n S0 w0 x a w hm q) λe a w ⟨x,s,R,S⟩=>⟨x,s,R,z e s S⟩
theorem AW.skip {K:Exit->St->Prop}(h:K .normal s):AW m P .skip K s:=λn S0 w0 x a w R M=>wpIn_skip ⟨x,s,M,h⟩
theorem AW.label {l:Nat}{K:Exit->St->Prop}(h:K .normal s):AW m P (.label l) K s:=λn S0 w0 x a w R M=>wpIn_label ⟨x,s,M,h⟩
theorem AW.ret {K:Exit->St->Prop}(h:K .ret s):AW m P .ret K s:=λn S0 w0 x a w R M=>wpIn_ret ⟨x,s,M,h⟩
theorem AW.exit {id:Nat}{K:Exit->St->Prop}(h:K (.exit id) s):AW m P (.exit id) K s:=λn S0 w0 x a w R M=>wpIn_exit ⟨x,s,M,h⟩
theorem AW.goto {id:Nat}{K:Exit->St->Prop}(h:K (.goto id) s):AW m P (.goto id) K s:=λn S0 w0 x a w R M=>wpIn_goto ⟨x,s,M,h⟩
theorem AW.seq {c d:Code}{K:Exit->St->Prop}(h:AW m P c (NH (AW m P d K) K) s):AW m P (.seq c d) K s:=λn S0 w0 x a w S q=>wpIn_seq (wpIn_mono (h n S0 w0 x a w S q) λe a w ⟨x,s,M,R⟩=>by
 cases e with
 | normal=>exact R n S0 w0 x a w S M
 | _=>exact⟨x,s,M,R⟩)
theorem AW.block {id:Nat}{K:Exit->St->Prop}(h:AW m P c (Sz id K) s):AW m P (.block id c) K s:=λn S0 w0 x a w q S=>wpIn_block (wpIn_mono (h n S0 w0 x a w q S) λe a w ⟨x,s,R,M⟩=>by
 cases e with
 | exit i=>simp only[Sz,Exit.inBlock]at M ⊢;split;rename_i e;rw[Awd e]at M;exact⟨x,s,R,M⟩;rename_i e;rw[Awf e]at M;exact⟨x,s,R,M⟩
 | _=>exact⟨x,s,R,M⟩)
theorem AW.cond {c:Operand}{d q:Code}{K:Exit->St->Prop}(h:AND (AW m P d K s) (AW m P q K s) (ev s.t c)):AW m P (.cond c d q) K s:=λn S0 w0 x a w z M=>by
 have R:=CW M.tm c;cases S:ev s.t c with
 | c cc =>
   cases cc with
   | bool b=>rw[S]at h R;simp only[CV,Ab]at R;exact wpIn_cond_split R (λe=>h.1 e n S0 w0 x a w z M) (λe=>h.2 e n S0 w0 x a w z M)
   | _=>rw[S]at h;exact h.elim
 | _=>rw[S]at h;exact h.elim
theorem AW.region {id:Nat}{ops:List Oper}{K:Exit->St->Prop}(h:Eg P ops (K .normal) ops s):AW m P (.region id ops.toArray U) K s:=λn S0 w0 x a w S M=>by
 obtain⟨R,q⟩:=m;cases R with
 | none=>exact wpIn_wide.2 (wp_region_lit (wJ (λx s a w h M=>⟨x,s,M,h⟩) ops x s a w h M))
 | some l=>exact wpIn_region_lit (wK (λx s a w h M=>⟨x,s,M,h⟩) ops x s a w h M)
theorem AMC {F:Fence}{n:Nat}{ι:Type}(I:ι->Act->World->Prop)(μ:ι->Nat)(i0:ι)(h₀:I i0 a w)(round : ∀i a w,I i a w->c.wpIn F n P (Exit.then (λz w'=>∃j,I j z w'/\μ j<μ i) Q) a w):(Code.loop c).wpIn F n P Q a w:=by
 intro b k cs A2 hb hr;have key : ∀q i a w,μ i=q->I i a w->
  ∃e z w',Q e z w'/\ArrivesIn (Machine.fenced P F) P (lone (b.atR a (.code c:: .inLoop c::k)) cs w) b k cs e z w':=by
  intro q;induction q using Nat.strongRecOn with
  | _ q ih =>
    intro i a w hn hI;obtain⟨e,K,M,S,R⟩:=round i a w hI b (.inLoop c::k) cs A2 hb hr;cases e with
    | normal=>obtain⟨j,A0,A1⟩:=S;obtain⟨e₂,a₂,w₂,zp,yh⟩:=ih (μ j) (hn ▸ A1) j K M rfl A0;exact⟨e₂,a₂,w₂,zp,.of_steps (StepsIn.trans R (.one (fenced_calm hb hr rfl) stepR_inLoop)) yh⟩
    | exit id=>exact⟨_,K,M,S,.pass (x:=.inLoop c) rfl (λ_ _=>.inl ZA) R⟩
    | goto l=>exact⟨_,K,M,S,.pass (x:=.inLoop c) rfl (λ_ _=>.inl ZA) R⟩
    | ret=>exact⟨_,K,M,S,.pass (x:=.inLoop c) rfl (λ_ _=>.inl ZA) R⟩
    | panic ch=>exact⟨_,K,M,S,.pass (x:=.inLoop c) rfl (λ_ _=>.inl ZA) R⟩
    | outgrown=>exact⟨_,K,M,S,.pass (x:=.inLoop c) rfl (λ_ _=>.inl ZA) R⟩
 obtain⟨e,z,w',S,R⟩:=key _ i0 a w rfl h₀;exact⟨e,z,w',S,.of_steps (.one (fenced_calm hb hr rfl) stepR_loop) R⟩
def Le (m:Mo)(s s':St):Prop:=∀(S0:BF) (w0:Bs) (x:Cx) (a:Act) (w:World),w0.n0<=m.n0->Bo S0 w0 x s a w->∃x',Bo S0 w0 x' s' a w
theorem Le.refl (s:St):Le m s s:=λ_ _ x _ _ _ h=>⟨x,h⟩
theorem Le.trans {s s' K:St}(h:Le m s s')(k:Le m s' K):Le m s K:=λS0 w0 x a w M S=>let ⟨x',R⟩:=h S0 w0 x a w M S;k S0 w0 x' a w M R
theorem AW.le {K:Exit->St->Prop}{s':St}(q:Le m s s')(h:AW m P c K s'):AW m P c K s:=λn S0 w0 x a w M S=>let ⟨x',R⟩:=q S0 w0 x a w M S;h n S0 w0 x' a w M R
theorem AW.loop {K:Exit->St->Prop}{ι:Type}(I:ι->St)(S:ι->Nat)(z:ι)(h0:Le m s (I z))(h : ∀i,AW m P c (NH (λs'=>∃j,S j<S i/\Le m s' (I j)) K) (I i)):AW m P (.loop c) K s:=λn S0 w0 x a w R hA=>by
 obtain⟨x',Au⟩:=h0 S0 w0 x a w R hA;refine AMC (λi a w=>∃x,Bo S0 w0 x (I i) a w) S z ⟨x',Au⟩ λi a w hi=>?_
 obtain⟨x1,Ec⟩:=hi;refine wpIn_mono (h i n S0 w0 x1 a w R Ec) λe a w ⟨x,s,q,M⟩=>?_
 cases e with
 | normal=>obtain⟨j,hj,hl⟩:=M;obtain⟨x2,M⟩:=hl S0 w0 x a w R q;exact⟨j,⟨x2,M⟩,hj⟩
 | _=>exact⟨x,s,q,M⟩
def DE (P:Program)(s:St):ResultVar->Option V
 | .tmp t=>J (s.t.getD t .any)
 | .cell p ty=>match B6 P ty,s.t.getD p .any with
   | some q,.ptr k off=>match s.h[k]? with
     | some (.box _ cs _)=>CJ q cs off
     | _=>E
   | _,_=>E
def C0 (P:Program)(s:St):List ResultVar->Option (List V)
 | []=>J []
 | r::l=>match DE P s r,C0 P s l with
   | some v,J vs=>J (v::vs)
   | _,_=>E
def DV (P:Program)(s:St)(l:List ResultVar):Option V:=
 match C0 P s l with
 | some [v]=>v.CP
 | some vs=>(V.A7 vs).CP
 | none=>E
def iK (P:Program)(l:List ResultVar)(res:V):Exit->St->Prop
 | .normal,s=>DV P s l=J res
 | .ret,s=>DV P s l=J res
 | _,_=>False
def lD (tmps:Array Value)(r:ResultVar):Sem Value:=
 match r with
 | .tmp t=>pure (tmps.getD t undef)
 | .cell p t=>do loadVar t (<-asAddr (tmps.getD p undef))
theorem ANb (K:Bo S0 w0 x s a w){r:ResultVar}(h:DE P s r=J v):∃u,(lD a.tmps r).run P w=.ok u w/\CV x w v u:=by
 cases r with
 | tmp t=>simp only[DE,BL]at h;subst h;exact⟨_,F,by have:=K.tm.getD t undef;simpa [Kl,Bv]using this⟩
 | cell p ty =>
   simp only[DE]at h;split at h;rename_i q k R hq hp;split at h;rename_i GV cs fr hH;have z:CV x w (.ptr k R) (a.tmps.getD p undef):=by
    have:=K.tm.getD p undef;rw[hp]at this;simpa [Kl,Bv]using this
   simp only[CV]at z;obtain⟨_,_,vs,hb,hn,M⟩:=(K.good.ok k _ hH).2;obtain⟨u,S,hu⟩:=dY (x:=x) (w:=w) (b:=(x.loc k).b) (o:=0) hq (λj v hj=>by
    obtain⟨u,h1,h2⟩:=M.get j v hj;refine⟨u,?_,h2⟩;rw[Cz,cell_of_row w _ j vs GV (0,0) hb];simpa using h1) h
   rw[Cz]at S;exact⟨u,by simp only[lD,z.2.2,asAddr,Jt,mu,Oo];exact S,hu⟩;cases h;cases h
theorem wO (K:Bo S0 w0 x s a w):∀ {l:List ResultVar} {vs:List V},C0 P s l=J vs->∃us,(l.mapM (lD a.tmps)).run P w=.ok us w/\AO x w vs us
 | [],vs,h=>by simp only[C0,BL]at h;subst h;exact⟨[],ZA,by simp only[AO]⟩
 | r::l,vs,h=>by
   unfold C0 at h;split at h;rename_i v Bz S q;cases h;obtain⟨u,z,M⟩:=ANb K S;obtain⟨us,r2,R⟩:=wO K q;refine⟨u::us,?_,by simp only[AO];exact⟨u,us,F,M,R⟩⟩;simp only[List.mapM_cons,Jt,z,Oo,r2,mu];cases h
theorem ANc (hA:Bo S0 w0 x s a w){fn:Func}{res:V}(h:DV P s fn.results.toList=J res):∃u,(results fn a.tmps).run P w=.ok u w/\CV (Cx.bare x.S) w res u:=by
 unfold DV at h;cases R:C0 P s fn.results.toList with
 | none=>rw[R]at h;cases h
 | some vs =>
   rw[R]at h;obtain⟨us,hr,K⟩:=wO hA R;have z:(results fn a.tmps).run P w=.ok (if h:us.toArray.size=1 then us.toArray[0]else .tuple us.toArray) w:=by
    have e:results fn a.tmps=(fn.results.mapM (lD a.tmps) >>=λvs=>pure (if h:vs.size=1 then vs[0]else .tuple vs)):=F;rw[e,Array.mapM_eq_mapM_toList];simp[hr]
   refine⟨_,z,?_⟩;match vs,h,K with
   | [v],h,K=>simp only[AO]at K;obtain⟨u,ur,rfl,q,rfl⟩:=K;exact SL v res u h q
   | [],h,K=>simp only[AO]at K;subst K;refine SL (.A7 []) res _ h ?_;simp only[CV];exact⟨#[],F,by simp only[AO]⟩
   | v::v'::r,h,K=>have M:=K.len;rw[dif_neg (by simp[M])];refine SL (.A7 (v::v'::r)) res _ h ?_;simp only[CV];exact⟨_,F,K⟩
theorem SQ (x:Cx)(w:World)(n:Nat)(u:Value):AO x w (Aq n .any) (Aq n u):=AO.SI ZA λi v R K M=>by
 rw[List.getElem?_replicate]at K;split at K;cases K;simp only[CV];cases K
theorem kS {fn:Func}{R:Ending->World->Prop}{res:V}(hr:DV P s fn.results.toList=J res){tmps:Array Value} : ∀(K:List Nat) (w:World),K.Nodup->(∀D∈K,¬w0.F D/\w.heap[D]?=J (.deferred (J [])))->Good S0 w0 x w (λk=>s.h[k]?)->AO x w s.t tmps.toList->
 (∀w u,Good S0 w0 x w (λk=>s.h[k]?)->CV (Cx.bare x.S) w res u->R (.returned u) w)->LeavesInM Cg 0 P fn tmps R (K.map λD=>{ target:=.collected D,args:=#[] }) .returning w
 | [],w,_,_,g,ht,z=>by
   obtain⟨u,q,M⟩:=ANc (fn:=fn) (a:={ tmps:=tmps,defers:=[] }) ⟨g,ht,Marks.nil _ _⟩ hr;exact⟨u,q,z w u g M⟩
 | D::K,w,hn,hD,g,ht,z=>by
   obtain⟨q,M⟩:=hD D ZA;have hg:w.grownBy (w.putObj D (.deferred E)) (J D):=grownBy_putObj' w D _;obtain⟨g',he⟩:=g.grown hg λr e=>by cases e;exact⟨q,_,M,F⟩
   rw[List.nodup_cons]at hn;refine⟨ZA,.inl ⟨D,_,F,run_takeDeferred M,kS hr K _ hn.2 (λD' Fs=>?_) g' (AO.mono he _ _ ht) z⟩⟩;obtain⟨k1,k2⟩:=hD D' (by simp[Fs]);have A0:D'≠D:=λe=>hn.1 (by rw[<-e];exact Fs)
   exact⟨k1,by rw[World.putObj_heap_other A0];exact k2⟩
theorem AC.intro {f:FuncId}{fn:Func}{c:Code}{args:List V}{res:V}(hf:P.funcs[f]?=J fn)(hb:fn.body=J c)(h:AW ⟨E,0⟩ P c (iK P fn.results.toList res) ⟨args++Aq (fn.ntmps - G args) .any,[]⟩):AC P f args res:=by
 intro S w us hS B7;refine callsIn_wide.1 (callsIn_of_wp_marks (F:=Cg) (n:=0) hf hb trivial ?_);have hA:Bo S (Bs.of w) (Cx.bare S) ⟨args++Aq (fn.ntmps - G args) .any,[]⟩ { tmps:=us.toArray++Array.replicate (fn.ntmps - us.toArray.size) undef,defers:=[] } w:=by
  refine⟨⟨λk o h=>by simp at h,λk h=>h.elim,λk k' o o' h=>by simp at h,λk o j h=>by simp at h,hS,λk o h=>by simp at h,λb j h=>.inl h,λb j h=>h,.FR (Ay.refl w),Ext.none _ _ _⟩,?_,Marks.nil _ _⟩;simp only[Pq,Array.toList_replicate];have hl:us.toArray.size=G args:=by simpa using B7.len
  rw[hl];exact B7.append (SQ _ _ _ _)
 refine wpIn_mono (h 0 S (Bs.of w) _ _ w (BN _) hA) λe a' w' ⟨x,s,Au,hK⟩=>?_
 have M : ∀ {R:Ending->World->Prop},(∀u w' K,Ay w w'->Ar S K w w'->(∀b j,K b j->S b j\/(w.heap.size<=b/\b<w'.heap.size))->CV (Cx.bare K) w' res u->R (.returned u) w')->DV P s fn.results.toList=J res->LeavesInM Cg 0 P fn a'.tmps R a'.defers .returning w':=by
  intro R hR hr;obtain⟨Ds,e,q,z⟩:=Au.df;rw[e];refine kS hr Ds w' q z Au.good Au.tm λw2 u g hu=>hR u w2 x.S g.keep.all ⟨g.sub,λb j v hs hc=>g.keep.all.cell hc⟩ (λb j hs=>?_) hu
  rcases g.new b j hs with h|h
  exact .inl h;exact .inr ⟨Hq h,g.ex b j hs⟩
 cases e with
 | normal=>exact M (λu w' K q z h3 h4=>⟨u,K,rfl,q,z,h3,h4⟩) hK
 | ret=>exact M (λu w' K q z h3 h4=>⟨u,K,rfl,q,z,h3,h4⟩) hK
 | _=>exact hK.elim
end
end Go.Proofs.YtegconioojpgmaaGreat
