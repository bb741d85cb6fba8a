/- Part of the proof of displayBest.proved. Conditions: none. -/
import Derived.Maps.AppendAt
import Derived.RangeFuncNested
import Derived.RangeFuncLeaves
import Derived.Laws.Tables
import Derived.Laws.MakeOwn
import Derived.Laws.Closers25b
import Derived.Great.BuildSlice
import Derived.OrdersIn
import Derived.RangeFuncCalls
import Derived.Test.YtlpomcliejmedaaGreatW0
set_option linter.unusedVariables false
set_option linter.unusedSimpArgs false
set_option maxRecDepth 100000
set_option maxHeartbeats 16000000
open Go.Lit renaming int→I9,wf→So
open Go.Value renaming oneCell'→Xh
open List renaming mem_cons→Cf,cons_append→BK,getElem?_cons_zero→LX,length_cons→BA,flatten_cons→Hp,eq_nil_of_length_eq_zero→Nr,getElem?_set→RD,getElem?_take→KO,getElem?_drop→Ve,getD_eq_getElem?_getD→Bv,map_nil→BB,map_cons→Ap,getElem?_eq_some_iff→Br,getElem?_eq_getElem→BE,all_eq_true→ES,zipIdx_cons→mb,foldl_cons→Bw,getD→mS,range→E6,getElem?_map→CM,getElem?_eq_none→M6,replicate→Aq,map_map→M7,mem_map→Da,getElem?_toArray→mV,mem_of_getElem?→Cj,mem_of_mem_take→uT,length_append→Cp,length_take→Fa,length_drop→Ns,take_of_length_le→Gl,append_assoc→GX,flatten_append→Vd,append_nil→E5,length_pos_iff→Kr,size_toArray→uW,length_nil→BO,getElem?_append_left→EJ
open Option.some renaming injEq→BL
open Nat renaming add_mul→Gz,le_trans→Ps,lt_of_lt_of_le→H7,le_refl→BN,add_assoc→mg,lt_or_ge→MK,zero_add→Cz,mul_le_mul_right→Vj,min_eq_left→Vi
open Option renaming getD_none→Hr,map_eq_some_iff→Ia,getD_some→Dm
open Go.World renaming cell?_of_block→RK
open Array renaming getElem?_eq_some_iff→DO,getD_eq_getD_getElem?→Kl,length_toList→FW,foldl_toList→AMK,toList_zipIdx→AMQ,toList_inj→Gx,toList_append→Pq
open Iff renaming rfl→RA
open Prod.mk renaming injEq→Cr
open Go.Sem renaming run_bind→Jt,run→HW,run_pure→mu
open Go.Instr renaming fill→fi,loadAt→mF,sureAddr→Ol,indexAt→mE,sliceAt→mK,slice→uI,sliceBounds→mL,sliceBound→uJ
open List.cons renaming injEq→Vb
open Bool renaming false_eq_true→GW,and_eq_true→Ak
open Go.IntKind renaming i64→AZ,u8→uL
open Int renaming tmod_nonneg→Sl
open Go.ByteArray renaming toList_eq→uC
open Go.Op renaming equal→Pt,equalIn→aP,operands→Bl
open Go.Result renaming andThen_ok→Oo
open Go.Builtin renaming len_→uA,append_→aE
open Go.Call renaming operands→Df
open Go.Fence renaming wide→Cg
open Go.Oper renaming wp→Er,upon→Nt,uponIn→ue,wp_mono→mo
open Go.Region renaming wanted→FB
namespace Go.Proofs.YtlpomcliejmedaaGreat
open Go.RowKit Tryz
variable {w:World}{us:List Value}{u:Value}{B:Nat->Prop}{ty:TypeId}{y:Operand}{ag:Bool}{s:TypeId}{Ae:TypeId}{es:Nat}{next:Act->World->Prop}{Q:Exit->Act->World->Prop}
inductive C where
 | int (k:IntKind) (n:Int)
 | bool (b:Bool)
 | str (s:ByteArray)
 | XF
 | Cv
 | EV (f:FuncId)
 | MA (m:Nat)
 | sl (AG:List (List C))
abbrev BF:=Nat->Nat->Prop
mutual
def Ab (S:BF)(w:World):C->Value->Prop
 | .int k n,v=>v=.int k n/\(I9 k n).wf=true
 | .bool b,v=>v=.bool b
 | .str s,v=>v=.string s/\s.size<=maxLen
 | .XF,v=>v=.pointer none
 | .Cv,v=>v=.nilFunc
 | .EV f,v=>v=.func (.func f) #[] #[]
 | .MA m,v=>v=.map (some m)
 | .sl AG,v=>∃A c,v=.slice A AG.length c/\AG.length<=c/\c<=maxLen/\(AG≠[]->∃b off es,A=some ⟨b,off,none⟩/\(∀r∈AG,r.length=es)/\D9 S w AG b off)
def B5 (S:BF)(w:World):List C->Nat->Nat->Prop
 | [],_,_=>True
 | c::r,b,off=>(∃v,w.cell? ⟨b,off,none⟩=some v/\Ab S w c v)/\S b off/\B5 S w r b (off+1)
def D9 (S:BF)(w:World):List (List C)->Nat->Nat->Prop
 | [],_,_=>True
 | r::rs,b,off=>B5 S w r b off/\D9 S w rs b (off+r.length)
end
def B4 (S:BF)(w:World):List C->List Value->Prop
 | [],vs=>vs=[]
 | c::r,vs=>∃v vr,vs=v::vr/\Ab S w c v/\B4 S w r vr
structure Ar (S S':BF)(w w':World):Prop where
 sub : ∀b j,S b j->S' b j
 cell : ∀b j v,S b j->w.cell? ⟨b,j,none⟩=some v->w'.cell? ⟨b,j,none⟩=some v
theorem Ar.refl (S:BF)(w:World):Ar S S w w:=⟨λ_ _ h=>h,λ_ _ _ _ h=>h⟩
theorem Ar.trans {S F G:BF}{w w' E:World}(h:Ar S F w w')(k:Ar F G w' E):Ar S G w E:=⟨λb j x=>k.sub b j (h.sub b j x),λb j v x y=>k.cell b j v (h.sub b j x) (h.cell b j v x y)⟩
mutual
theorem Ab.mono {S F:BF}{w w':World}(h:Ar S F w w'):∀(c:C) (v:Value),Ab S w c v->Ab F w' c v
 | .int _ _,v,r=>by simpa only[Ab]using r
 | .bool _,v,r=>by simpa only[Ab]using r
 | .str _,v,r=>by simpa only[Ab]using r
 | .XF,v,r=>by simpa only[Ab]using r
 | .Cv,v,r=>by simpa only[Ab]using r
 | .EV _,v,r=>by simpa only[Ab]using r
 | .MA _,v,r=>by simpa only[Ab]using r
 | .sl G,v,r=>by
   simp only[Ab]at r ⊢;obtain⟨A,c,e,I,J,K⟩:=r;refine⟨A,c,e,I,J,λU=>?_⟩;obtain⟨b,E,es,M,R,W⟩:=K U;exact⟨b,E,es,M,R,D9.mono h G b E W⟩
theorem B5.mono {S E:BF}{w w':World}(h:Ar S E w w'):∀(l:List C) (b off:Nat),B5 S w l b off->B5 E w' l b off
 | [],_,_,_=>by simp only[B5]
 | c::r,b,off,x=>by
   simp only[B5]at x ⊢;obtain⟨⟨v,G,I⟩,F,J⟩:=x;exact⟨⟨v,h.cell _ _ _ F G,Ab.mono h c v I⟩,h.sub _ _ F,B5.mono h r b _ J⟩
theorem D9.mono {S E:BF}{w w':World}(h:Ar S E w w'):∀(l:List (List C)) (b off:Nat),D9 S w l b off->D9 E w' l b off
 | [],_,_,_=>by simp only[D9]
 | r::F,b,off,x=>by
   simp only[D9]at x ⊢;exact⟨B5.mono h r b off x.1,D9.mono h F b _ x.2⟩
end
theorem B4.mono {S E:BF}{w w':World}(h:Ar S E w w'):∀(l:List C) (vs:List Value),B4 S w l vs->B4 E w' l vs
 | [],_,x=>x
 | c::r,vs,x=>by
   simp only[B4]at x ⊢;obtain⟨v,F,e,G,I⟩:=x;exact⟨v,F,e,Ab.mono h c v G,B4.mono h r F I⟩
theorem B4.len {S:BF}{w:World} : ∀ {l:List C} {vs:List Value},B4 S w l vs->vs.length=l.length
 | [],_,x=>by simp only[B4]at x;subst x;rfl
 | c::r,vs,x=>by
   simp only[B4]at x;obtain⟨v,F,rfl,_,E⟩:=x;simp[B4.len E]
theorem Ab.one {S:BF}{w:World} : ∀ {c:C} {v:Value},Ab S w c v->v.oneCell'=true
 | .int _ _,v,r=>by simp only[Ab]at r;simp[r.1,Xh]
 | .bool _,v,r=>by simp only[Ab]at r;simp[r,Xh]
 | .str _,v,r=>by simp only[Ab]at r;simp[r.1,Xh]
 | .XF,v,r=>by simp only[Ab]at r;simp[r,Xh]
 | .Cv,v,r=>by simp only[Ab]at r;simp[r,Xh]
 | .EV _,v,r=>by simp only[Ab]at r;simp[r,Xh]
 | .MA _,v,r=>by simp only[Ab]at r;simp[r,Xh]
 | .sl _,v,r=>by simp only[Ab]at r;obtain⟨A,c,rfl,_⟩:=r;simp[Xh]
theorem B4.ones {S:BF}{w:World} : ∀ {l:List C} {vs:List Value},B4 S w l vs->∀u∈vs,u.oneCell'=true
 | [],_,x=>by simp only[B4]at x;subst x;simp
 | c::r,vs,x=>by
   simp only[B4]at x;obtain⟨v,I,rfl,F,G⟩:=x;intro u E;rcases Cf.1 E with rfl|E
   exact F.one;exact B4.ones G u E
theorem B4.append {S:BF}{w:World} : ∀ {l m:List C} {xs E:List Value},B4 S w l xs->B4 S w m E->B4 S w (l++m) (xs++E)
 | [],m,xs,E,h,F=>by simp only[B4]at h;subst h;simpa using F
 | c::l,m,xs,E,h,F=>by
   simp only[B4]at h;obtain⟨v,J,rfl,G,I⟩:=h;simp only[BK,B4];exact⟨v,J++E,rfl,G,B4.append I F⟩
theorem B4.split {S:BF}{w:World} : ∀ {l m:List C} {xs:List Value},B4 S w (l++m) xs->∃E zs,xs=E++zs/\B4 S w l E/\B4 S w m zs
 | [],m,xs,h=>⟨[],xs,rfl,by simp only[B4],h⟩
 | c::l,m,xs,h=>by
   simp only[BK,B4]at h;obtain⟨v,K,rfl,F,G⟩:=h;obtain⟨E,zs,rfl,I,J⟩:=B4.split G;exact⟨v::E,zs,rfl,by simp only[B4];exact⟨v,E,rfl,F,I⟩,J⟩
theorem B4.get {S:BF}{w:World} : ∀ {l:List C} {vs:List Value},B4 S w l vs->∀(i:Nat) (c:C),l[i]?=some c->∃v,vs[i]?=some v/\Ab S w c v
 | [],_,_,i,c,h=>by simp at h
 | x::r,vs,h,i,c,E=>by
   simp only[B4]at h;obtain⟨v,I,rfl,F,G⟩:=h;match i,E with
   | 0,E=>simp only[LX,BL]at E;subst E;exact⟨v,rfl,F⟩
   | i+1,E=>simpa using B4.get G i c (by simpa using E)
theorem B5.vals {S:BF}{w:World} : ∀(l:List C) (b off:Nat),B5 S w l b off->∃vs,B4 S w l vs/\(∀j u,vs[j]?=some u->w.cell? ⟨b,off+j,none⟩=some u)/\∀j,j<l.length->S b (off+j)
 | [],b,off,_=>⟨[],by simp only[B4],λj u h=>by simp at h,λj h=>by simp at h⟩
 | c::r,b,off,x=>by
   simp only[B5]at x;obtain⟨⟨v,G,I⟩,J,K⟩:=x;obtain⟨vs,M,R,U⟩:=B5.vals r b _ K;refine⟨v::vs,by simp only[B4];exact⟨v,vs,rfl,I,M⟩,λj u E=>?_,λj F=>?_⟩;match j,E with
   | 0,E=>simp only[LX,BL]at E;subst E;exact G
   | j+1,E=>rw[show off+(j+1)=off+1+j by omega];exact R j u (by simpa using E)
   match j,F with
   | 0,_=>exact J
   | j+1,F=>rw[show off+(j+1)=off+1+j by omega];exact U j (by simpa using F)
theorem B5.Pe {S:BF}{w:World} : ∀ {l:List C} {vs:List Value} {b off:Nat},B4 S w l vs->(∀j u,vs[j]?=some u->w.cell? ⟨b,off+j,none⟩=some u)->(∀j,j<l.length->S b (off+j))->B5 S w l b off
 | [],_,_,_,_,_,_=>by simp only[B5]
 | c::r,vs,b,off,h,F,E=>by
   simp only[B4]at h;obtain⟨v,M,rfl,G,I⟩:=h;simp only[B5];refine⟨⟨v,F 0 v rfl,G⟩,E 0 (by simp),B5.Pe I (λj u K=>?_) (λj J=>?_)⟩;have:=F (j+1) u (by simpa using K);rw[show off+(j+1)=off+1+j by omega]at this;exact this;have:=E (j+1) (by simpa using J);rw[show off+(j+1)=off+1+j by omega]at this;exact this
theorem B5.append {S:BF}{w:World} : ∀ {l m:List C} {b off:Nat},B5 S w (l++m) b off↔B5 S w l b off/\B5 S w m b (off+l.length)
 | [],m,b,off=>by simp[B5]
 | c::l,m,b,off=>by
   simp only[BK,B5,B5.append (l:=l),BA];rw[show off+1+l.length=off+(l.length+1)by omega];simp only[and_assoc]
theorem D9.flat {S:BF}{w:World} : ∀ {AG:List (List C)} {b off:Nat},D9 S w AG b off↔B5 S w AG.flatten b off
 | [],b,off=>by simp[D9,B5]
 | r::E,b,off=>by simp only[D9,Hp,B5.append,D9.flat]
theorem D9.AS {S:BF}{w:World}{es:Nat} : ∀ {AG:List (List C)} {b off:Nat},D9 S w AG b off->(∀r∈AG,r.length=es)->∀(i:Nat) (r:List C),AG[i]?=some r->B5 S w r b (off+i*es)
 | [],_,_,_,_,i,r,h=>by simp at h
 | x::I,b,off,h,F,i,r,E=>by
   simp only[D9]at h;match i,E with
   | 0,E=>simp only[LX,BL]at E;subst E;simpa using h.1
   | i+1,E=>have:=D9.AS h.2 (λr G=>F r (by simp[G])) i r (by simpa using E);rw[F x (by simp)]at this;rw[show off+(i+1)*es=off+es+i*es by rw[Gz];omega];exact this
theorem B5.get {S:BF}{l:List C}{b off:Nat}(h:B5 S w l b off){i:Nat}{c:C}(G:l[i]?=some c):∃v,w.cell? ⟨b,off+i,none⟩=some v/\Ab S w c v:=by
 obtain⟨vs,I,J,_⟩:=B5.vals l b off h;obtain⟨v,E,F⟩:=I.get i c G;exact⟨v,J i v E,F⟩
theorem D9.drop {S:BF}{w:World}{es:Nat} : ∀(n:Nat) {AG:List (List C)} {b off:Nat},D9 S w AG b off->(∀r∈AG,r.length=es)->n<=AG.length->D9 S w (AG.drop n) b (off+n*es)
 | 0,AG,b,off,h,_,_=>by simpa using h
 | n+1,[],b,off,_,_,h=>by simp at h
 | n+1,r::I,b,off,h,E,F=>by
   simp only[D9]at h;have:=D9.drop n h.2 (λr G=>E r (by simp[G])) (by simpa using F);rw[E r (by simp)]at this;rw[show off+(n+1)*es=off+es+n*es by rw[Gz];omega];simpa using this
theorem D9.take {S:BF}{w:World} : ∀(n:Nat) {AG:List (List C)} {b off:Nat},D9 S w AG b off->D9 S w (AG.take n) b off
 | 0,AG,b,off,_=>by simp[D9]
 | n+1,[],b,off,_=>by simp[D9]
 | n+1,r::E,b,off,h=>by
   simp only[D9,List.take_succ_cons]at h ⊢;exact⟨h.1,D9.take n h.2⟩
inductive V where
 | any
 | c (c:C)
 | agg (l:List V)
 | A7 (l:List V)
 | ptr (k off:Nat)
 | own (k off len es:Nat)
 | cp (row:List C) (off:Nat)
 | Bg (AG:List (List C))
 | gr (k es:Nat) (AG:List (List C))
 | fn (f:FuncId) (caps:List V)
 | Be (k es:Nat) (AG:List (List C))
 | hp (k n pos:Nat)
 | yl (l:Nat)
 | mp (k:Nat)
inductive O where
 | box (ty:TypeId) (cells:List V) (frozen:Bool)
 | tok (ty:TypeId) (es cur:Nat)
 | Be (ty:TypeId) (es cur:Nat) (cells:List V)
 | mp (R:Nat->Obj->Prop)
structure Loc where
 b:Nat
 n:Nat
 tok:Bool
 cur:Nat
 void:Bool
structure Cx where
 dom:Nat->Prop
 loc:Nat->Loc
 S:BF
mutual
def CV (x:Cx)(w:World):V->Value->Prop
 | .any,_=>True
 | .c c,v=>Ab x.S w c v
 | .agg l,v=>∃vs:Array Value,v=.agg vs/\AO x w l vs.toList
 | .A7 l,v=>∃vs:Array Value,v=.tuple vs/\AO x w l vs.toList
 | .ptr k off,v=>x.dom k/\(x.loc k).tok=false/\v=.pointer (some ⟨(x.loc k).b,off,none⟩)
 | .own k off len es,v=>x.dom k/\(x.loc k).tok=false/\∃cap,v=.slice (some ⟨(x.loc k).b,off,none⟩) len cap/\len<=cap/\cap<=maxLen/\off+cap*es<=(x.loc k).n
 | .cp row off,v=>∃b o,v=.pointer (some ⟨b,o+off,none⟩)/\B5 x.S w row b o
 | .Bg AG,v=>∃A,v=.slice A AG.length AG.length/\Ab x.S w (.sl AG) v
 | .gr k es AG,v=>x.dom k/\(x.loc k).tok=true/\Ab x.S w (.sl AG) v/\(∀r∈AG,r.length=es)/\AG.length<=(x.loc k).cur/\(AG.length=(x.loc k).cur->
    if (x.loc k).void then ∃A,v=.slice A AG.length AG.length else ∃cap,v=.slice (some ⟨(x.loc k).b,0,none⟩) AG.length cap/\cap*es=(x.loc k).n)
 | .fn f caps,v=>∃vs:Array Value,v=.func (.func f) #[] vs/\AO x w caps vs.toList
 | .Be k es AG,v=>x.dom k/\(x.loc k).tok=true/\(∀r∈AG,r.length=es)/\AG.length+1<=(x.loc k).cur/\∃A cap,v=.slice A (AG.length+1) cap/\(AG.length+1=(x.loc k).cur->
    (x.loc k).void=false/\A=some ⟨(x.loc k).b,0,none⟩/\AG.length+1<=cap/\cap<=maxLen/\cap*es=(x.loc k).n/\B5 x.S w AG.flatten (x.loc k).b 0)
 | .hp k n pos,v=>x.dom k/\(x.loc k).tok=true/\n<=(x.loc k).cur/\∃A,v=.pointer A/\(n=(x.loc k).cur->A=some ⟨(x.loc k).b,pos,none⟩)
 | .yl l,v=>v=.func (.yield l) #[] #[]
 | .mp k,v=>x.dom k/\(x.loc k).tok=false/\v=.map (some (x.loc k).b)
def AO (x:Cx)(w:World):List V->List Value->Prop
 | [],vs=>vs=[]
 | v::r,vs=>∃u ur,vs=u::ur/\CV x w v u/\AO x w r ur
end
def FM (l l':Loc):Prop:=l'.tok=l.tok/\(l=l'\/(l.tok=true/\l.cur<l'.cur))
structure Ext (x x':Cx)(w w':World):Prop where
 ar:Ar x.S x'.S w w'
 dom : ∀k,x.dom k->x'.dom k
 loc : ∀k,x.dom k->FM (x.loc k) (x'.loc k)
theorem FM.refl (l:Loc):FM l l:=⟨rfl,.inl rfl⟩
theorem FM.trans {a b c:Loc}(h:FM a b)(k:FM b c):FM a c:=by
 refine⟨k.1.trans h.1,?_⟩;rcases h.2 with rfl|E
 exact k.2;rcases k.2 with rfl|F
 exact .inr E;exact .inr ⟨E.1,Nat.lt_trans E.2 F.2⟩
theorem Ext.refl (x:Cx)(w:World):Ext x x w w:=⟨Ar.refl _ _,λ_ h=>h,λ_ _=>FM.refl _⟩
theorem Ext.trans {x y z:Cx}{a b c:World}(h:Ext x y a b)(k:Ext y z b c):Ext x z a c:=⟨h.ar.trans k.ar,λi E=>k.dom i (h.dom i E),λi E=>(h.loc i E).trans (k.loc i (h.dom i E))⟩
mutual
theorem CV.mono {x x':Cx}{w w':World}(h:Ext x x' w w'):∀(v:V) (u:Value),CV x w v u->CV x' w' v u
 | .any,_,_=>by simp only[CV]
 | .c c,u,r=>by simp only[CV]at r ⊢;exact Ab.mono h.ar c u r
 | .agg l,u,r=>by simp only[CV]at r ⊢;obtain⟨vs,e,r⟩:=r;exact⟨vs,e,AO.mono h l _ r⟩
 | .A7 l,u,r=>by simp only[CV]at r ⊢;obtain⟨vs,e,r⟩:=r;exact⟨vs,e,AO.mono h l _ r⟩
 | .ptr k M,u,r=>by
   simp only[CV]at r ⊢;obtain⟨E,F,rfl⟩:=r;obtain⟨e,l⟩:=h.loc k E;rcases l with l|l
   exact⟨h.dom k E,by rw[e,F],by rw[l]⟩;rw[F]at l;cases l.1
 | .own k M len es,u,r=>by
   simp only[CV]at r ⊢;obtain⟨E,F,cap,rfl,J,I,G⟩:=r;obtain⟨e,l⟩:=h.loc k E;rcases l with l|l
   rw[l]at G;exact⟨h.dom k E,by rw[e,F],cap,by rw[l],J,I,G⟩;rw[F]at l;cases l.1
 | .cp row M,u,r=>by simp only[CV]at r ⊢;obtain⟨b,o,rfl,r⟩:=r;exact⟨b,o,rfl,B5.mono h.ar row b o r⟩
 | .Bg S,u,r=>by simp only[CV]at r ⊢;obtain⟨A,e,r⟩:=r;exact⟨A,e,Ab.mono h.ar _ u r⟩
 | .gr k es S,u,r=>by
   simp only[CV]at r ⊢;obtain⟨E,F,J,I,G,R⟩:=r;obtain⟨e,l⟩:=h.loc k E;refine⟨h.dom k E,by rw[e,F],Ab.mono h.ar _ u J,I,?_⟩;rcases l with l|l
   rw[<-l];exact⟨G,R⟩;exact⟨by omega,λe=>absurd e (by omega)⟩
 | .fn f K,u,r=>by simp only[CV]at r ⊢;obtain⟨vs,e,r⟩:=r;exact⟨vs,e,AO.mono h K _ r⟩
 | .Be k es S,u,r=>by
   simp only[CV]at r ⊢;obtain⟨E,F,J,I,A,cap,G,R⟩:=r;obtain⟨e,l⟩:=h.loc k E;refine⟨h.dom k E,by rw[e,F],J,?_⟩;rcases l with l|l
   rw[<-l];exact⟨I,A,cap,G,λe=>let ⟨U,W,q,z,k5,k6⟩:=R e;⟨U,W,q,z,k5,B5.mono h.ar _ _ _ k6⟩⟩;exact⟨by omega,A,cap,G,λe=>absurd e (by omega)⟩
 | .hp k n pos,u,r=>by
   simp only[CV]at r ⊢;obtain⟨E,F,J,A,I,G⟩:=r;obtain⟨e,l⟩:=h.loc k E;refine⟨h.dom k E,by rw[e,F],?_⟩;rcases l with l|l
   rw[<-l];exact⟨J,A,I,G⟩;exact⟨by omega,A,I,λe=>absurd e (by omega)⟩
 | .yl l,u,r=>by simpa only[CV]using r
 | .mp k,u,r=>by
   simp only[CV]at r ⊢;obtain⟨E,F,rfl⟩:=r;obtain⟨e,l⟩:=h.loc k E;rcases l with l|l
   exact⟨h.dom k E,by rw[e,F],by rw[l]⟩;rw[F]at l;cases l.1
theorem AO.mono {x x':Cx}{w w':World}(h:Ext x x' w w'):∀(l:List V) (us:List Value),AO x w l us->AO x' w' l us
 | [],_,r=>by simpa only[AO]using r
 | v::l,us,r=>by
   simp only[AO]at r ⊢;obtain⟨u,E,e,F,G⟩:=r;exact⟨u,E,e,CV.mono h v u F,AO.mono h l E G⟩
end
theorem AO.len {x:Cx}{w:World} : ∀ {l:List V} {us:List Value},AO x w l us->us.length=l.length
 | [],_,r=>by simp only[AO]at r;subst r;rfl
 | v::l,us,r=>by
   simp only[AO]at r;obtain⟨u,F,rfl,_,E⟩:=r;simp[AO.len E]
theorem AO.get {x:Cx}{w:World} : ∀ {l:List V} {us:List Value},AO x w l us->∀(i:Nat) (v:V),l[i]?=some v->∃u,us[i]?=some u/\CV x w v u
 | [],_,_,i,v,h=>by simp at h
 | y::l,us,r,i,v,E=>by
   simp only[AO]at r;obtain⟨u,I,rfl,F,G⟩:=r;match i,E with
   | 0,E=>simp only[LX,BL]at E;subst E;exact⟨u,rfl,F⟩
   | i+1,E=>simpa using AO.get G i v (by simpa using E)
theorem AO.SI {x:Cx}{w:World} : ∀ {l:List V} {us:List Value},us.length=l.length->(∀(i:Nat) (v:V) (u:Value),l[i]?=some v->us[i]?=some u->CV x w v u)->AO x w l us
 | [],us,h,_=>by simp only[AO];exact Nr (by simpa using h)
 | y::l,us,h,E=>by
   match us,h with
   | u::J,h=>simp only[AO];exact⟨u,J,rfl,E 0 y u rfl rfl,AO.SI (by simpa using h) λi v I F G=>E (i+1) v I (by simpa using F) (by simpa using G)⟩
theorem AO.append {x:Cx}{w:World} : ∀ {l m:List V} {xs E:List Value},AO x w l xs->AO x w m E->AO x w (l++m) (xs++E)
 | [],m,xs,E,h,F=>by simp only[AO]at h;subst h;simpa using F
 | c::l,m,xs,E,h,F=>by
   simp only[AO]at h;obtain⟨v,J,rfl,G,I⟩:=h;simp only[BK,AO];exact⟨v,J++E,rfl,G,AO.append I F⟩
theorem AO.set {x:Cx}{l:List V}(h:AO x w l us)(i:Nat){v:V}(M:CV x w v u):AO x w (l.set i v) (us.set i u):=by
 refine AO.SI (by simp[h.len]) λj R S E F=>?_
 rw[RD]at E F;by_cases e:i=j;subst e;by_cases G:i<l.length;have I:i<us.length:=by rw[h.len];exact G
 simp[G]at E;simp[I]at F;subst E F;exact M;simp[G]at E;simp only[e,if_false]at E F;obtain⟨U,J,K⟩:=h.get j R E;rw[J]at F;cases F;exact K
theorem AO.take {x:Cx}{l:List V}(h:AO x w l us)(n:Nat):AO x w (l.take n) (us.take n):=by
 refine AO.SI (by simp[h.len]) λj K M E F=>?_
 rw[KO]at E F;split at E;rename_i J;rw[if_pos J]at F;obtain⟨R,G,I⟩:=h.get j K E;rw[G]at F;cases F;exact I;cases E
theorem AO.drop {x:Cx}{l:List V}(h:AO x w l us)(n:Nat):AO x w (l.drop n) (us.drop n):=by
 refine AO.SI (by simp[h.len]) λj J K F E=>?_
 rw[Ve]at F E;obtain⟨M,G,I⟩:=h.get _ J F;rw[G]at E;cases E;exact I
theorem AO.getD {x:Cx}{l:List V}(h:AO x w l us)(i:Nat)(d:Value):CV x w (l.getD i .any) (us.getD i d):=by
 rw[Bv,Bv];cases G:l[i]? with
 | none=>simp only[Hr,CV]
 | some v=>obtain⟨u,E,F⟩:=h.get i v G;rw[E];exact F
theorem AO.OS {x:Cx}{w:World} : ∀ {l:List C} {vs:List Value},B4 x.S w l vs->AO x w (l.map V.c) vs
 | [],_,h=>by simp only[B4]at h;simpa only[BB,AO]using h
 | c::l,vs,h=>by
   simp only[B4]at h;obtain⟨v,G,rfl,E,F⟩:=h;simp only[Ap,AO,CV];exact⟨v,G,rfl,E,AO.OS F⟩
theorem CV.CP {x:Cx}{v:V}(h:CV x w v u){S:BF}{w':World}(E:Ar x.S S w w'):CV { x with S:=S } w' v u:=by
 have F:Ext x { x with S:=S } w w':=⟨E,λ_ h=>h,λ_ _=>FM.refl _⟩
 exact CV.mono F v u h
section
structure KB (B:Nat->Prop)(w w':World):Prop where
 os:w'.os=w.os
 tape:w'.tape=w.tape
 output:w'.output=w.output
 size:w.heap.size<=w'.heap.size
 block : ∀k,k<w.heap.size->¬B k->w'.heap[k]?=w.heap[k]?
theorem KB.FR {W E:World}(h:Ay W E):KB B W E:=⟨h.os,h.tape,h.output,h.size,λk F _=>h.block k F⟩
theorem KB.after {w W G:World}(h:KB B W G)(E:Ay w W)(I : ∀k,B k->w.heap.size<=k):Ay w G:=
 ⟨h.os.trans E.os,h.tape.trans E.tape,h.output.trans E.output,Ps E.size h.size,λk F=>(h.block k (H7 F E.size) λe=>by have:=I k e;omega).trans (E.block k F)⟩
theorem KB.cell {w w':World}(h:KB B w w'){b j:Nat}(hb : ¬B b){v:Value}(E:w.cell? ⟨b,j,none⟩=some v):w'.cell? ⟨b,j,none⟩=some v:=
 (RK (h.block b (block_lt_of_cell E) hb)).trans E
theorem KB.trans {w w' E:World}(h:KB B w w')(k:KB B w' E):KB B w E:=
 ⟨k.os.trans h.os,k.tape.trans h.tape,k.output.trans h.output,Ps h.size k.size,λi F G=>(k.block i (H7 F h.size) G).trans (h.block i F G)⟩
theorem KB.wide {B C:Nat->Prop}{w w':World}(h:KB B w w')(E : ∀k,B k->C k):KB C w w':=⟨h.os,h.tape,h.output,h.size,λk F G=>h.block k F λe=>G (E k e)⟩
structure Bs where
 w:World
 F:Nat->Prop
 lt : ∀b,F b->b<w.heap.size
 x0:Cx
 n0:Nat
 dl : ∀k,x0.dom k->k<n0
def Cx.none:Cx:={ dom:=λ_=>False,loc:=λ_=>⟨0,0,false,0,false⟩,S:=λ_ _=>False }
theorem Ext.none (x:Cx)(w w':World):Ext Cx.none x w w':=⟨⟨λ_ _ h=>h.elim,λ_ _ _ h=>h.elim⟩,λ_ h=>h.elim,λ_ h=>h.elim⟩
def Bs.of (w:World):Bs:=⟨w,λb=>b<w.heap.size,λ_ h=>h,Cx.none,0,λ_ h=>h.elim⟩
theorem KB.all {w w':World}(h:KB (λb=>¬(Bs.of w).F b) (Bs.of w).w w'):Ay w w':=⟨h.os,h.tape,h.output,h.size,λk E=>h.block k E λG=>G E⟩
def still:Obj->Bool
 | .cells _ _ _=>false
 | .map _ _=>false
 | _=>true
def Ld (x:Cx)(w:World)(k:Nat):O->Prop
 | .box ty cells _=>(x.loc k).tok=false/\(x.loc k).void=false/\∃vs:Array Value,w.heap[(x.loc k).b]?=some (.cells vs ty (0,0))/\vs.size=(x.loc k).n/\AO x w cells vs.toList
 | .tok ty _ cur=>(x.loc k).tok=true/\(x.loc k).cur=cur/\((x.loc k).void=false->∃vs:Array Value,w.heap[(x.loc k).b]?=some (.cells vs ty (0,0))/\vs.size=(x.loc k).n)
 | .Be ty es cur cells=>(x.loc k).tok=true/\(x.loc k).void=false/\(x.loc k).cur=cur/\0<cur/\cells.length=es/\∃vs:Array Value,w.heap[(x.loc k).b]?=some (.cells vs ty (0,0))/\vs.size=(x.loc k).n/\cur*es<=vs.size/\AO x w cells ((vs.toList.drop ((cur - 1)*es)).take es)
 | .mp R=>(x.loc k).tok=false/\(x.loc k).void=false/\∃ob:Obj,w.heap[(x.loc k).b]?=some ob/\still ob=false/\R (x.loc k).b ob
def Ex (x:Cx)(k:Nat):O->Nat->Prop
 | .box _ _ fr,j=>fr=false/\j<(x.loc k).n
 | .tok _ es cur,j=>(x.loc k).void=false/\cur*es<=j/\j<(x.loc k).n
 | .Be _ es cur _,j=>(cur - 1)*es<=j/\j<(x.loc k).n
 | .mp _,_=>False
abbrev Bx:=Nat->Option O
def Bx.set (H:Bx)(k:Nat)(o:O):Bx:=λi=>if i=k then some o else H i
structure Good (S0:BF)(w0:Bs)(x:Cx)(w:World)(H:Bx):Prop where
 ok : ∀k o,H k=some o->x.dom k/\Ld x w k o
 dom : ∀k,x.dom k->∃o,H k=some o
 inj : ∀k k' o o',H k=some o->H k'=some o'->k≠k'->(x.loc k).void=false->(x.loc k').void=false->(x.loc k).b≠(x.loc k').b
 EA : ∀k o j,H k=some o->Ex x k o j->¬x.S (x.loc k).b j
 ex : ∀b j,x.S b j->b<w.heap.size
 own : ∀k o,H k=some o->(x.loc k).void=false->¬w0.F (x.loc k).b
 new : ∀b j,x.S b j->S0 b j\/¬w0.F b
 sub : ∀b j,S0 b j->x.S b j
 keep:KB (λb=>¬w0.F b) w0.w w
 ext:Ext w0.x0 x w0.w w
theorem Good.fresh {S0:BF}{w0:Bs}{x:Cx}{H:Bx}(g:Good S0 w0 x w H){b:Nat}(h:w.heap.size<=b):¬w0.F b:=λE=>by have:=w0.lt b E;have:=g.keep.size;omega
theorem Ld.lt {x:Cx}{k:Nat}{o:O}(h:Ld x w k o)(F:(x.loc k).void=false):(x.loc k).b<w.heap.size:=by
 cases o with
 | box ty cells G=>obtain⟨_,_,vs,h,_⟩:=h;exact(DO.1 h).1
 | tok ty es E=>obtain⟨_,_,h⟩:=h;obtain⟨vs,h,_⟩:=h F;exact(DO.1 h).1
 | Be ty es E cells=>obtain⟨_,_,_,_,_,vs,h,_⟩:=h;exact(DO.1 h).1
 | mp R=>obtain⟨_,_,I,h,_⟩:=h;exact(DO.1 h).1
theorem Ld.mono {x x':Cx}{w w':World}{k:Nat}{o:O}(h:Ld x w k o)(U:Ext x x' w w')(E:x'.loc k=x.loc k)(hb:(x.loc k).void=false->w'.heap[(x.loc k).b]?=w.heap[(x.loc k).b]?):Ld x' w' k o:=by
 cases o with
 | box ty cells fr=>obtain⟨G,F,vs,I,J,K⟩:=h;exact⟨by rw[E,G],by rw[E,F],vs,by rw[E,hb F,I],by rw[E,J],AO.mono U _ _ K⟩
 | tok ty es M=>obtain⟨G,F,I⟩:=h;refine⟨by rw[E,G],by rw[E,F],λS=>?_⟩;rw[E]at S ⊢;obtain⟨vs,J,K⟩:=I S;exact⟨vs,by rw[hb S,J],K⟩
 | Be ty es M cells=>obtain⟨G,F,I,J,K,vs,W,q,z,h9⟩:=h;exact⟨by rw[E,G],by rw[E,F],by rw[E,I],J,K,vs,by rw[E,hb F,W],by rw[E,q],z,AO.mono U _ _ h9⟩
 | mp R=>obtain⟨G,F,ob,I,J⟩:=h;exact⟨by rw[E,G],by rw[E,F],ob,by rw[E,hb F,I],by rw[E];exact J⟩
theorem Ex.loc {x x':Cx}{k:Nat}{o:O}{j:Nat}(E:x'.loc k=x.loc k)(h:Ex x' k o j):Ex x k o j:=by
 cases o with
 | mp R=>exact h
 | _=>simpa only[Ex,E]using h
variable {S0:BF} {w0:Bs} {x x':Cx} {w w':World} {H:Bx}
theorem Good.MF (g:Good S0 w0 x w H)(U:Ay w w')(q:Ar x.S x'.S w w')(K:x'.dom=x.dom)(F:x'.loc=x.loc)(J : ∀b j,x'.S b j->x.S b j\/(w.heap.size<=b/\b<w'.heap.size)):Good S0 w0 x' w' H/\Ext x x' w w':=by
 have M:Ext x x' w w':=⟨q,λk h=>by rw[K];exact h,λk _=>by rw[F];exact FM.refl _⟩
 refine⟨⟨λk o h=>?_,λk h=>g.dom k (by rw[K]at h;exact h),λk k' o o' h z=>by rw[F];exact g.inj k k' o o' h z,λk o j h hx=>?_,λb j h=>?_,λk o h=>by rw[F];exact g.own k o h,λb j h=>?_,λb j h=>q.sub b j (g.sub b j h),g.keep.trans (.FR U),g.ext.trans M⟩,M⟩;obtain⟨h1,E⟩:=g.ok k o h;exact⟨by rw[K];exact h1,E.mono M (by rw[F]) λW=>U.block _ (E.lt W)⟩;have ON:Ex x k o j:=Ex.loc (by rw[F]) hx;intro G;rw[F]at G;rcases J _ _ G with G|G
 exact g.EA k o j h ON G;have E:=(g.ok k o h).2;have W:(x.loc k).void=false:=by
  cases o with
  | box ty cells fr=>exact E.2.1
  | tok ty es I=>exact ON.1
  | Be ty es I cells=>exact E.2.1
  | mp R=>exact E.2.1
 have:=E.lt W;omega;rcases J _ _ h with h|h
 exact H7 (g.ex b j h) U.size;exact h.2;rcases J _ _ h with h|h
 exact g.new b j h;exact .inr (g.fresh h.1)
theorem Good.H5 (g:Good S0 w0 x w H)(k:Nat)(o':O)(he:Ext x x' w w')(W:KB (λb=>x.dom k/\(x.loc k).void=false/\(x.loc k).b=b) w w')(hd : ∀i,x'.dom i↔x.dom i\/i=k)(q : ∀i,i≠k->x'.loc i=x.loc i)(A0:(x'.loc k).void=false->(x.dom k/\(x.loc k).void=false/\(x'.loc k).b=(x.loc k).b)\/w.heap.size<=(x'.loc k).b)(U:Ld x' w' k o')(hS : ∀b j,x'.S b j->x.S b j\/(b<w'.heap.size/\(w.heap.size<=b\/(x.dom k/\(x.loc k).void=false/\(x.loc k).b=b))/\((x'.loc k).b=b->¬Ex x' k o' j)))(A2 : ∀j,Ex x' k o' j->¬x.S (x'.loc k).b j):Good S0 w0 x' w' (H.set k o'):=by
 have Ga : ∀i o,H i=some o->i≠k->(x.loc i).void=false->¬(x.dom k/\(x.loc k).void=false/\(x.loc k).b=(x.loc i).b):=by
  rintro i o hi G E ⟨h1,J,h3⟩;obtain⟨ok,U⟩:=g.dom k h1;exact g.inj k i ok o U hi (λe=>G e.symm) J E h3
 have M : ∀b,(x.dom k/\(x.loc k).void=false/\(x.loc k).b=b)->¬w0.F b:=by
  rintro b ⟨h1,J,rfl⟩;obtain⟨ok,U⟩:=g.dom k h1;exact g.own k ok U J
 refine⟨λi o h=>?_,λi h=>?_,λi i' o o2 h h' G E K=>?_,λi o j h hx=>?_,λb j h=>?_,λi o h E=>?_,λb j h=>?_,λb j h=>he.ar.sub b j (g.sub b j h),g.keep.trans (W.wide M),g.ext.trans he⟩;by_cases e:i=k;subst e;simp[Bx.set]at h;subst h;exact⟨(hd i).2 (.inr rfl),U⟩;simp only[Bx.set,e,if_false]at h;obtain⟨h1,J⟩:=g.ok i o h;exact⟨(hd i).2 (.inl h1),J.mono he (q i e) λE=>W.block _ (J.lt E) (Ga i o h e E)⟩;by_cases e:i=k;subst e;exact⟨o',by simp[Bx.set]⟩;rcases (hd i).1 h with h|h
 obtain⟨o,ho⟩:=g.dom i h;exact⟨o,by simp[Bx.set,e,ho]⟩;exact absurd h e
 .
   have z : ∀i o,H i=some o->i≠k->(x'.loc i).void=false->(x'.loc k).void=false->(x'.loc i).b≠(x'.loc k).b:=by
    intro i o hi G E dJ e;rw[q i G]at E e;rcases A0 dJ with h|h
    exact Ga i o hi G E ⟨h.1,h.2.1,by rw[<-h.2.2,e]⟩;have:=((g.ok i o hi).2).lt E;omega
   by_cases e:i=k;subst e;have jz:i'≠i:=λe=>G e.symm
   simp only[Bx.set,jz,if_false]at h';exact λe=>z i' o2 h' jz K E e.symm
   simp only[Bx.set,e,if_false]at h;by_cases e':i'=k;subst e';exact z i o h e E K;simp only[Bx.set,e',if_false]at h';rw[q i e]at E ⊢;rw[q i' e']at K ⊢;exact g.inj i i' o o2 h h' G E K
 by_cases e:i=k;subst e;simp[Bx.set]at h;subst h;intro I;rcases hS _ _ I with I|I
 exact A2 j hx I;exact I.2.2 rfl hx;simp only[Bx.set,e,if_false]at h;have ON:Ex x i o j:=Ex.loc (q i e) hx;have J:=(g.ok i o h).2;have E:(x.loc i).void=false:=by
  cases o with
  | box ty cells fr=>exact J.2.1
  | tok ty es A1=>exact ON.1
  | Be ty es A1 cells=>exact J.2.1
  | mp R=>exact J.2.1
 intro I;rw[q i e]at I;rcases hS _ _ I with I|I
 exact g.EA i o j h ON I;rcases I.2.1 with I|I
 have:=J.lt E;omega;exact Ga i o h e E I;rcases hS _ _ h with h|h
 exact H7 (g.ex b j h) W.size;exact h.1;by_cases e:i=k;subst e;rcases A0 E with h|h
 obtain⟨ok,U⟩:=g.dom i h.1;rw[h.2.2];exact g.own i ok U h.2.1;exact g.fresh h;simp only[Bx.set,e,if_false]at h;rw[q i e]at E ⊢;exact g.own i o h E;rcases hS _ _ h with h|h
 exact g.new b j h;rcases h.2.1 with h|h
 exact .inr (g.fresh h);exact .inr (M b h)
def Cx.C4 (x:Cx)(k:Nat)(l:Loc):Cx:={ dom:=λi=>x.dom i\/i=k,loc:=λi=>if i=k then l else x.loc i,S:=x.S }
theorem Good.ext1 (k:Nat)(l:Loc)(F : ¬x.dom k)(G : ∀b j v,x.S b j->w.cell? ⟨b,j,none⟩=some v->w'.cell? ⟨b,j,none⟩=some v):Ext x (x.C4 k l) w w':=
 ⟨⟨λ_ _ h=>h,G⟩,λ_ h=>.inl h,λi E=>by
   have:i≠k:=λe=>F (e ▸ E)
   simp[Cx.C4,this,FM.refl]⟩
theorem Good.Zc (g:Good S0 w0 x w H)(k:Nat)(K : ¬x.dom k)(ty:TypeId)(cells:List V)(vs:Array Value)(M:AO x w cells vs.toList) :
 Good S0 w0 (x.C4 k ⟨w.heap.size,vs.size,false,0,false⟩) (w.alloc (.cells vs ty)) (H.set k (.box ty cells false))/\Ext x (x.C4 k ⟨w.heap.size,vs.size,false,0,false⟩) w (w.alloc (.cells vs ty)):=by
 have F:Ay w (w.alloc (.cells vs ty)):=(Ay.refl w).alloc _;have E:Ext x (x.C4 k ⟨w.heap.size,vs.size,false,0,false⟩) w (w.alloc (.cells vs ty)):=Good.ext1 k _ K λb j v _ I=>F.cell I
 refine⟨g.H5 k _ E (.FR F) (λi=>RA) (λi J=>by simp[Cx.C4,J]) (λ_=>.inr (by simp[Cx.C4])) ?_ (λb j h=>.inl h) (λj R G=>?_),E⟩;refine⟨by simp[Cx.C4],by simp[Cx.C4],vs,?_,by simp[Cx.C4],AO.mono E _ _ M⟩;simp only[Cx.C4,if_true];exact heap_alloc_new w _;simp only[Cx.C4,if_true]at G;have:=g.ex _ _ G;omega
theorem Good.ACa (g:Good S0 w0 x w H)(k:Nat)(ty:TypeId)(cells E:List V)(J:H k=some (.box ty cells false))(vs F:Array Value)(hb:w.heap[(x.loc k).b]?=some (.cells vs ty (0,0)))(hs:F.size=vs.size)(hv:AO x w E F.toList) :
 Good S0 w0 x (w.setRow (x.loc k).b F) (H.set k (.box ty E false))/\Ext x x w (w.setRow (x.loc k).b F):=by
 obtain⟨M,q⟩:=g.ok k _ J;obtain⟨h1,I,us,W,h4,h5⟩:=q;rw[hb]at W;cases W;have U : ∀b j,x.S b j->(∃v,w.cell? ⟨b,j,none⟩=some v)->b≠(x.loc k).b:=by
  rintro b j K ⟨v,G⟩ rfl;have hj:j<(x.loc k).n:=by
   rw[cell_of_row w _ j vs ty (0,0) hb]at G;have:=(DO.1 G).1;omega
  exact g.EA k _ j J ⟨rfl,hj⟩ K
 have R:Ext x x w (w.setRow (x.loc k).b F):=⟨⟨λ_ _ h=>h,λb j v K G=>by
  have z:=U b j K ⟨v,G⟩;rw[RK (w:=w) (a:=⟨b,j,none⟩) (setRow_other w _ b F z)];exact G⟩,λ_ h=>h,λ_ _=>FM.refl _⟩
 refine⟨g.H5 k _ R ⟨rfl,rfl,rfl,by simp,λi _ hn=>setRow_other w _ i F (λe=>hn ⟨M,I,e.symm⟩)⟩ (λi=>⟨.inl,λh=>h.elim id (λe=>e ▸ M)⟩) (λ_ _=>rfl) (λ_=>.inl ⟨M,I,rfl⟩) ?_ (λb j h=>.inl h) (λj hx=>g.EA k _ j J hx),R⟩;exact⟨h1,I,F,setRow_heap w _ vs F ty (0,0) hb,by rw[hs,h4],AO.mono R _ _ hv⟩
structure NC (w w':World):Prop where
 size:w.heap.size<=w'.heap.size
 same : ∀(b:Nat) (o:Obj),w.heap[b]?=some o->still o=true->w'.heap[b]?=some o
theorem NC.refl (w:World):NC w w:=⟨BN _,λ_ _ h _=>h⟩
theorem NC.trans {a b c:World}(h:NC a b)(k:NC b c):NC a c:=⟨Ps h.size k.size,λi o F E=>k.same i o (h.same i o F E) E⟩
theorem NC.FR {w w':World}(h:Ay w w'):NC w w':=⟨h.size,λb _ E _=>(h.block b (DO.1 E).1).trans E⟩
def Bs.re (w0:Bs)(w:World)(h:w0.w.heap.size<=w.heap.size):Bs:=
 ⟨w,λb=>w0.F b\/∃o:Obj,w.heap[b]?=some o/\still o=true,λb hb=>by
   rcases hb with hb|⟨o,hb,_⟩
   exact H7 (w0.lt b hb) h;exact(DO.1 hb).1,Cx.none,0,λ_ h=>h.elim⟩
theorem Ld.cells {k:Nat}{o:O}(h:Ld x w k o)(I:(x.loc k).void=false):∃E:Obj,w.heap[(x.loc k).b]?=some E/\still E=false:=by
 cases o with
 | box ty cells J=>obtain⟨_,_,vs,h,_⟩:=h;exact⟨_,h,rfl⟩
 | tok ty es F=>obtain⟨_,_,h⟩:=h;obtain⟨vs,h,_⟩:=h I;exact⟨_,h,rfl⟩
 | Be ty es F cells=>obtain⟨_,_,_,_,_,vs,h,_⟩:=h;exact⟨_,h,rfl⟩
 | mp R=>obtain⟨_,_,E,h,G,_⟩:=h;exact⟨E,h,G⟩
theorem Good.XR (g:Good S0 w0 x w H):Good x.S (w0.re w g.keep.size) x w H:=by
 refine⟨g.ok,g.dom,g.inj,g.EA,g.ex,λk o h I E=>?_,λb j h=>.inl h,λ_ _ h=>h,.FR (Ay.refl w),Ext.none _ _ _⟩;rcases E with E|⟨R,F,G⟩
 exact g.own k o h I E;obtain⟨M,J,K⟩:=(g.ok k o h).2.cells I;rw[J]at F;cases F;rw[K]at G;cases G
theorem Good.Sg {I:Bx}(g:Good S0 w0 x w H)(J:Ext x x' w w')(E:Good x.S (w0.re w g.keep.size) x' w' I):Good S0 w0 x' w' I/\NC w w':=by
 refine⟨⟨E.ok,E.dom,E.inj,E.EA,E.ex,λk o h R F=>E.own k o h R (.inl F),λb j h=>?_,λb j h=>E.sub b j (g.sub b j h),g.keep.trans (E.keep.wide λb G F=>G (.inl F)),g.ext.trans J⟩,E.keep.size,λb o G M=>?_⟩;rcases E.new b j h with h|h
 exact g.new b j h;exact .inr λF=>h (.inl F)
 exact(E.keep.block b (DO.1 G).1 λK=>K (.inr ⟨o,G,M⟩)).trans G
theorem Good.grown {row:Option Nat}(g:Good S0 w0 x w H)(E:w.grownBy w' row)(W : ∀r,row=some r->¬w0.F r/\∃o:Obj,w.heap[r]?=some o/\still o=true):Good S0 w0 x w' H/\Ext x x w w':=by
 have U : ∀(b:Nat) (R:Obj),w.heap[b]?=some R->still R=false->w'.heap[b]?=w.heap[b]?:=λb R h hs=>E.block b (DO.1 h).1 λe=>by
  obtain⟨_,o,I,G⟩:=W b e.symm;rw[h]at I;cases I;rw[hs]at G;cases G
 have K:Ext x x w w':=⟨⟨λ_ _ h=>h,λb j v _ J=>by
  have M : ∃vs ty S,w.heap[b]?=some (.cells vs ty S):=by
   unfold World.cell? at J;cases q:w.heap[b]? with
   | none=>simp[q]at J
   | some o=>cases o<;>first|exact⟨_,_,_,rfl⟩|simp[q]at J
  obtain⟨vs,ty,S,M⟩:=M;exact(RK (U b _ M rfl)).trans J⟩,λ_ h=>h,λ_ _=>FM.refl _⟩
 refine⟨⟨λk o h=>?_,g.dom,g.inj,g.EA,λb j h=>H7 (g.ex b j h) E.size,g.own,g.new,g.sub,g.keep.trans ⟨E.os,E.tape,E.output,E.size,λk hk hn=>E.block k hk λe=>hn (W k e.symm).1⟩,g.ext.trans K⟩,K⟩;obtain⟨I,G⟩:=g.ok k o h;exact⟨I,G.mono K rfl λhv=>by obtain⟨o2,z,h4⟩:=G.cells hv;exact U _ _ z h4⟩
def Marks (w0:Bs)(ds:List Deferred)(w:World):Prop:=∃Ds:List Nat,ds=Ds.map (λD=>{ target:=.collected D,args:=#[] })/\Ds.Nodup/\∀D∈Ds,¬w0.F D/\w.heap[D]?=some (.deferred (some []))
theorem Marks.nil (w0:Bs)(w:World):Marks w0 [] w:=⟨[],rfl,List.nodup_nil,λ_ h=>nomatch h⟩
theorem Marks.mono {E:List Deferred}(h:Marks w0 E w)(M:NC w w'):Marks w0 E w':=by
 obtain⟨I,J,K,F⟩:=h;exact⟨I,J,K,λD G=>⟨(F D G).1,M.same D _ (F D G).2 rfl⟩⟩
end
section
def V.one:V->Bool
 | .c _ | .ptr _ _ | .own _ _ _ _ | .cp _ _ | .Bg _ | .gr _ _ _ | .fn _ _ | .Be _ _ _ | .hp _ _ _ | .yl _ | .mp _=>true
 | .any | .agg _ | .A7 _=>false
def V.cells:V->List V
 | .agg l=>l
 | v=>[v]
def V.flat:V->Bool
 | .agg l=>l.all V.one
 | v=>v.one
theorem CV.one {x:Cx}{v:V}(h:CV x w v u)(F:v.one=true):u.oneCell'=true:=by
 cases v with
 | any=>cases F
 | agg l=>cases F
 | A7 l=>cases F
 | c c=>simp only[CV]at h;exact h.one
 | ptr k E=>simp only[CV]at h;obtain⟨_,_,rfl⟩:=h;rfl
 | own k E len es=>simp only[CV]at h;obtain⟨_,_,cap,rfl,_⟩:=h;rfl
 | cp row E=>simp only[CV]at h;obtain⟨_,_,rfl,_⟩:=h;rfl
 | Bg G=>simp only[CV]at h;obtain⟨_,rfl,_⟩:=h;rfl
 | gr k es G=>simp only[CV]at h;exact h.2.2.1.one
 | fn f I=>simp only[CV]at h;obtain⟨_,rfl,_⟩:=h;rfl
 | Be k es G=>simp only[CV]at h;obtain⟨_,_,_,_,A,cap,rfl,_⟩:=h;rfl
 | hp k n pos=>simp only[CV]at h;obtain⟨_,_,_,A,rfl,_⟩:=h;rfl
 | yl l=>simp only[CV]at h;subst h;rfl
 | mp k=>simp only[CV]at h;obtain⟨_,_,rfl⟩:=h;rfl
theorem AEj (h:u.oneCell'=true):u.cells=#[u]:=by cases u<;>first|rfl|cases h
theorem CV.cells {x:Cx}{v:V}(h:CV x w v u)(E:v.flat=true):AO x w v.cells u.cells.toList/\∀y∈u.cells.toList,y.oneCell'=true:=by
 by_cases F:v.one=true;have:=h.one F;rw[AEj this];have e:v.cells=[v]:=by cases v<;>first|rfl|cases F
 rw[e];simp only[AO];exact⟨⟨u,[],rfl,h,rfl⟩,by simpa using this⟩;cases v with
 | agg l =>
   simp only[CV]at h;obtain⟨vs,rfl,h⟩:=h;refine⟨h,λy M=>?_⟩;obtain⟨i,I⟩:=List.mem_iff_getElem?.1 M;have OF:i<l.length:=by rw[<-h.len];exact(Br.1 I).1
   obtain⟨u,G,J⟩:=h.get i l[i] (BE OF);have:u=y:=by
    have K:vs.toList[i]?=some y:=I;rw[K]at G;cases G;rfl
   subst this;refine J.one ?_;simp only[V.flat,ES]at E;exact E _ (List.getElem_mem OF)
 | _=>first|exact absurd rfl F|cases E
def v1:Value->V
 | .int k n=>if (I9 k n).wf then .c (.int k n)else .any
 | .bool b=>.c (.bool b)
 | .string s=>if s.size<=maxLen then .c (.str s)else .any
 | .pointer none=>.c .XF
 | .nilFunc=>.c .Cv
 | .slice none 0 0=>.Bg []
 | _=>.any
def T5:Value->V
 | .agg cs=>.agg (cs.toList.map v1)
 | v=>v1 v
theorem ALu (x:Cx)(w:World)(u:Value):CV x w (v1 u) u:=by
 unfold v1;split;split;simp only[CV,Ab];exact⟨trivial,by assumption⟩;simp only[CV];simp only[CV,Ab];split;simp only[CV,Ab];exact⟨trivial,by assumption⟩;simp only[CV];simp only[CV,Ab];simp only[CV,Ab];simp only[CV,Ab];exact⟨none,rfl,none,0,rfl,by simp,by simp[maxLen],λh=>absurd rfl h⟩;simp only[CV]
theorem ACB (x:Cx)(w:World):∀l:List Value,AO x w (l.map v1) l
 | []=>by simp only[BB,AO]
 | u::l=>by simp only[Ap,AO];exact⟨u,l,rfl,ALu x w u,ACB x w l⟩
theorem ALv (x:Cx)(w:World)(u:Value):CV x w (T5 u) u:=by
 unfold T5;split;simp only[CV];exact⟨_,rfl,ACB x w _⟩;exact ALu x w _
def ev (t:List V):Operand->V
 | .tmp i=>t.getD i .any
 | .const v=>T5 v
 | .func f=>.fn f []
 | .global _=>.any
theorem CW {x:Cx}{t:List V}{a:Act}(h:AO x w t a.tmps.toList)(y:Operand):CV x w (ev t y) (a.eval y):=by
 cases y with
 | tmp i=>have:=h.getD i undef;simpa [ev,Act.eval,Kl,Bv]using this
 | const v=>exact ALv x w v
 | func f=>simp only[ev,Act.eval,CV];exact⟨#[],rfl,by simp only[AO]⟩
 | global g=>simp only[ev,CV]
def B6 (P:Program)(t:TypeId):Option (Bool×Nat):=
 match P.underlying t,P.info? t with
 | some d,some i=>some (iM d,i.size)
 | _,_=>none
def C2 (P:Program)(t:TypeId):Option (List V):=
 match P.info? t with
 | some i=>i.zero.map λz=>z.cells.toList.map v1
 | none=>none
def Fj (P:Program)(t:TypeId):Option (Nat->Option (Nat×Nat)):=
 match P.underlying t with
 | some (.struct fields)=>(fields.toList.mapM (λf=>(P.info? f.type).map λi=>(f.offset,i.size))).map λl i=>l[i]?
 | some (.array _ e)=>(P.info? e).map λie i=>some (i*ie.size,ie.size)
 | _=>none
def Bp (P:Program)(s:TypeId)(f:Nat):Option (Nat×Nat×Bool):=
 match P.underlying s with
 | some (.struct fields)=>match fields[f]? with
   | some fd=>match B6 P fd.type with
     | some (ag,n)=>some (fd.offset,n,ag)
     | none=>none
   | none=>none
 | _=>none
def Dk (P:Program)(t:TypeId):Option (TypeId×Nat×Nat):=
 match P.underlying t with
 | some (.slice e)=>match P.info? e with
   | some i=>match i.zero with
     | some z=>if z.cells.size=i.size then some (e,i.size,i.bytes)else none
     | none=>none
   | none=>none
 | _=>none
def Np (P:Program)(t:TypeId):Option (Nat×Nat×Bool):=
 match P.underlying t with
 | some (.array n e)=>match B6 P e with
   | some (ag,s)=>some (n,s,ag)
   | none=>none
 | _=>none
def fL (P:Program)(t:TypeId):Bool:=
 match P.underlying t with
 | some .string=>true
 | _=>false
def ALS (P:Program)(t:TypeId):Option IntKind:=
 match P.underlying t with
 | some (.int k)=>some k
 | _=>none
def KJ (P:Program)(t:TypeId):Bool:=
 match P.underlying t with
 | some (.slice _)=>true
 | _=>false
variable {P:Program} {x:Cx} {w:World}
theorem T3 {t:TypeId}{n:Nat}(h:B6 P t=some (ag,n)):(isAgg t).run P w=.ok ag w/\(sizeOf t).run P w=.ok n w/\∃i,P.info? t=some i/\i.size=n:=by
 unfold B6 at h;cases E:P.underlying t with
 | none=>simp[E]at h
 | some d =>
   cases F:P.info? t with
   | none=>simp[E,F]at h
   | some i =>
     simp only[E,F,BL,Cr]at h;obtain⟨rfl,rfl⟩:=h;refine⟨?_,by simp[sizeOf,typeInfo,F],i,rfl,rfl⟩;unfold isAgg;rw[Jt,run_underlying E w];cases d<;>simp[iM]
def E8:List V->Nat->List V->List V
 | cs,_,[]=>cs
 | cs,off,v::r=>E8 (cs.set off v) (off+1) r
theorem AJ5 : ∀(r cs:List V) (off:Nat),(E8 cs off r).length=cs.length
 | [],_,_=>rfl
 | v::r,cs,off=>by simp[E8,AJ5 r]
theorem xa (x:Cx)(w:World):∀(r:List V) (us:List Value) (i off:Nat) (cs:List V) (vs:Array Value),AO x w r us->AO x w cs vs.toList->
 AO x w (E8 cs (off+i) r) ((us.zipIdx i).foldl (λ(c:Array Value) (p:Value×Nat)=>c.setIfInBounds (off+p.2) p.1) vs).toList/\((us.zipIdx i).foldl (λ(c:Array Value) (p:Value×Nat)=>c.setIfInBounds (off+p.2) p.1) vs).size=vs.size
 | [],us,i,off,cs,vs,h,E=>by simp only[AO]at h;subst h;exact⟨by simpa [E8]using E,by simp⟩
 | v::r,us,i,off,cs,vs,h,E=>by
   simp only[AO]at h;obtain⟨u,I,rfl,F,G⟩:=h;simp only[mb,Bw,E8];have:=xa x w r I (i+1) off (cs.set (off+i) v) (vs.setIfInBounds (off+i) u) G (by simpa using E.set (off+i) F);rw[show off+i+1=off+(i+1)by omega];exact⟨this.1,by rw[this.2];simp⟩
def YI (place:Nat->Option (Nat×Nat)):List V->List (Nat×V)->Option (List V)
 | cs,[]=>some cs
 | cs,(i,v)::r=>match place i with
   | none=>none
   | some (off,size)=>if v.flat=true/\v.cells.length=size/\off+size<=cs.length then YI place (E8 cs off v.cells) r else none
theorem AFZ (x:Cx)(w:World)(E:Nat->Option (Nat×Nat)):∀(ps:List (Nat×V)) (us:List (Nat×Value)) (cs cs':List V) (vs:Array Value),ps.map (·.1)=us.map (·.1)->AO x w (ps.map (·.2)) (us.map (·.2))->AO x w cs vs.toList->YI E cs ps=some cs'->
 ∃I,fi E vs us=some I/\AO x w cs' I.toList/\I.size=vs.size
 | [],us,cs,cs',vs,G,h,J,F=>by
   simp only[BB]at G;have:us=[]:=by cases us<;>simp at G ⊢
   subst this;simp only[YI,BL]at F;subst F;exact⟨vs,rfl,J,rfl⟩
 | (i,v)::ps,us,cs,cs',vs,G,h,J,F=>by
   match us,G,h with
   | (j,u)::us,G,h =>
     simp only[Ap,Vb]at G;obtain⟨rfl,G⟩:=G;simp only[Ap,AO,Vb]at h;obtain⟨u',ur,⟨rfl,rfl⟩,h1,h2⟩:=h;simp only[YI]at F;cases M:E i with
     | none=>rw[M]at F;cases F
     | some q =>
       obtain⟨R,size⟩:=q;rw[M]at F;simp only at F;split at F;rename_i K;obtain⟨W,c2,c3⟩:=K;obtain⟨S,_⟩:=h1.cells W;have hl:u.cells.size=size:=by have:=S.len;simp only[FW]at this;omega
       have DK:vs.size=cs.length:=by have:=J.len;simpa using this
       have U:=xa x w v.cells u.cells.toList 0 R cs vs S J;obtain⟨I,z,e2,e3⟩:=AFZ x w E ps us _ cs' _ G h2 (by simpa using U.1) F;refine⟨I,?_,e2,by rw[e3];exact U.2⟩;simp only[fi,M];rw[if_neg (by simp;omega)];rw[<-z];congr 1
       rw[<-AMK];simp[AMQ];cases F
def CJ (q:Bool×Nat)(cs:List V)(off:Nat):Option V:=
 if q.1 then(if off+q.2<=cs.length then some (.agg ((cs.drop off).take q.2))else none)else cs[off]?
theorem dY {t:TypeId}{q:Bool×Nat}{b o:Nat}{cs:List V}{off:Nat}{v:V}(hq:B6 P t=some q)(S : ∀j v,cs[j]?=some v->∃u,w.cell? ⟨b,o+j,none⟩=some u/\CV x w v u)(F:CJ q cs off=some v) :
 ∃u,(loadVar t ⟨b,o+off,none⟩).run P w=.ok u w/\CV x w v u:=by
 obtain⟨ag,n⟩:=q;obtain⟨R,h2,_⟩:=T3 (w:=w) hq;unfold CJ at F;cases ag with
 | false=>simp only[GW,if_false]at F;obtain⟨u,K,M⟩:=S off v F;refine⟨u,?_,M⟩;simp[loadVar,R,load,HW,K]
 | true =>
   simp only[if_true]at F;split at F;rename_i A0;cases F;have I : ∀j,∃u,j<n->w.cell? ⟨b,o+off+j,none⟩=some u/\CV x w (cs.getD (off+j) .any) u:=by
    intro j;by_cases G:j<n;obtain⟨u,K,M⟩:=S (off+j) (cs.getD (off+j) .any) (by simp[mS,show off+j<cs.length by omega]);exact⟨u,λ_=>⟨by rw[mg];exact K,M⟩⟩;exact⟨undef,λh=>absurd h G⟩
   let f:Nat->Value:=λj=>(I j).choose
   have U : ∀j,j<n->w.cell? ⟨b,o+off+j,none⟩=some (f j)/\CV x w (cs.getD (off+j) .any) (f j):=λj G=>(I j).choose_spec G
   have z:=run_loadCells_list (P:=P) w ⟨b,o+off,none⟩ ((E6 n).map f) (λj u E=>by
    rw[J0];have G:j<n:=by have:=(Br.1 E).1;simpa using this
    rw[(U j G).1];simp[G]at E;rw[E])
   refine⟨.agg ((E6 n).map f).toArray,?_,?_⟩;simp only[List.length_map,List.length_range]at z;simp[loadVar,R,h2,z];simp only[CV];refine⟨_,rfl,AO.SI (by simp;omega) λi v' u' W E=>?_⟩;simp only[CM]at E;have J:i<n:=by
    rcases MK i n with h|h
    exact h;simp[M6 (by simpa using h:(E6 n).length<=i)]at E
   simp[J]at E;subst E;have:=(U i J).2;rw[KO,if_pos J,Ve]at W;simpa [mS,W]using this;cases F
end
section
inductive Pl where
 | fail
 | val (v:V)
 | rd (k:Nat) (g:O->Option V)
 | wr (k:Nat) (g:O->Option (O×V))
 | new (o:O) (mk:Nat->V)
def Pl.ap (H:Bx)(k0:Nat):Pl->Option (V×Option (Nat×O))
 | .fail=>none
 | .val v=>some (v,none)
 | .rd k g=>match H k with
   | some o=>match g o with
     | some v=>some (v,none)
     | none=>none
   | none=>none
 | .wr k g=>match H k with
   | some o=>match g o with
     | some (o',v)=>some (v,some (k,o'))
     | none=>none
   | none=>none
 | .new o mk=>some (mk k0,some (k0,o))
def Bx.upd (H:Bx):Option (Nat×O)->Bx
 | none=>H
 | some (k,o)=>H.set k o
def Mv:Option V->Pl
 | some v=>.val v
 | none=>.fail
def Xe:V->Option (List (List C))
 | .c (.sl r)=>some r
 | .Bg r=>some r
 | .gr _ _ r=>some r
 | _=>none
def toC:V->Option C
 | .c c=>some c
 | .Bg r=>some (.sl r)
 | .gr _ _ r=>some (.sl r)
 | .fn f []=>some (.EV f)
 | _=>none
def toCs:List V->Option (List C)
 | []=>some []
 | v::r=>match toC v,toCs r with
   | some c,some l=>some (c::l)
   | _,_=>none
def Zg (k:IntKind)(a b:Int):Int:=k.wrap (BitVec.ofInt k.bits a ||| BitVec.ofInt k.bits b).toNat
def lU (P:Program)(t:TypeId):Bool:=
 match P.underlying t with
 | some .bool=>true
 | _=>false
def oN (tb:Bool)(op:BinOp):V->V->Option V
 | .c (.int k a),.c (.int k' b)=>if k=k' then match op with
    | .add=>some (.c (.int k (k.wrap (a+b))))
    | .sub=>some (.c (.int k (k.wrap (a - b))))
    | .mul=>some (.c (.int k (k.wrap (a*b))))
    | .quo=>if b=0 then none else some (.c (.int k (k.wrap (a.tdiv b))))
    | .rem=>if b=0 then none else some (.c (.int k (k.wrap (a.tmod b))))
    | .eql=>some (.c (.bool (decide (a=b))))
    | .neq=>some (.c (.bool (!decide (a=b))))
    | .lss=>some (.c (.bool (decide (a<b))))
    | .leq=>some (.c (.bool (decide (a<=b))))
    | .gtr=>some (.c (.bool (decide (b<a))))
    | .geq=>some (.c (.bool (decide (b<=a))))
    | .or=>some (.c (.int k (Zg k a b)))
    | _=>none
    else none
 | .c (.str a),.c (.str b)=>match op with
    | .eql=>some (.c (.bool (decide (a=b))))
    | .neq=>some (.c (.bool (!decide (a=b))))
    | .add=>if a.size+b.size<=maxLen then some (.c (.str (a++b)))else none
    | _=>none
 | .c (.bool a),.c (.bool b)=>match op with
    | .eql=>if tb then some (.c (.bool (a==b)))else none
    | .neq=>if tb then some (.c (.bool (!(a==b))))else none
    | _=>none
 | _,_=>none
def oq (op:UnOp):V->Option V
 | .c (.int k n)=>match op with
   | .neg=>some (.c (.int k (k.wrap (0 - n))))
   | _=>none
 | .c (.bool b)=>match op with
   | .not=>some (.c (.bool !b))
   | _=>none
 | _=>none
def oO (P:Program)(dst:TypeId):V->Option V
 | .c (.int _ n)=>match ALS P dst with
   | some k=>some (.c (.int k (k.wrap n)))
   | none=>none
 | _=>none
def oQ (P:Program)(t:TypeId):V->V->Option V
 | .c (.str s),.c (.int _ i)=>if fL P t then(if 0<=i then(s.data.toList[i.toNat]?).map λb=>.c (.int .u8 b.toNat)else none)else none
 | .agg l,.c (.int _ i)=>match Np P t with
   | some (n,s,ag)=>if 0<=i/\i<n then CJ (ag,s) l (i.toNat*s)else none
   | none=>none
 | _,_=>none
def oR (P:Program)(t:TypeId)(x:V):V->Option V
 | .c (.int _ i)=>match x with
   | .own k off len es=>match Dk P t with
     | some (_,es',_)=>if es'=es/\0<=i/\i<len then some (.ptr k (off+i.toNat*es))else none
     | none=>none
   | .ptr k off=>match Np P t with
     | some (n,s,_)=>if 0<=i/\i<n then some (.ptr k (off+i.toNat*s))else none
     | none=>none
   | .cp row off=>match Np P t with
     | some (n,s,_)=>if 0<=i/\i<n then some (.cp row (off+i.toNat*s))else none
     | none=>none
   | x=>match Xe x,Dk P t with
     | some AG,some (_,es,_)=>if 0<=i/\i<AG.length then match AG[i.toNat]? with
        | some r=>if r.length=es then some (.cp r 0)else none
        | none=>none
       else none
     | _,_=>none
 | _=>none
def oP (P:Program)(s:TypeId)(f:Nat):V->Option V
 | .ptr k off=>match Bp P s f with
   | some (o,n,_)=>if n=0 then none else some (.ptr k (off+o))
   | none=>none
 | .cp row off=>match Bp P s f with
   | some (o,n,_)=>if n=0 then none else some (.cp row (off+o))
   | none=>none
 | _=>none
def oT (P:Program)(t:TypeId):V->Option V
 | .c (.str s)=>if fL P t then some (.c (.int .i64 s.size))else none
 | .own _ _ len _=>if KJ P t then some (.c (.int .i64 len))else none
 | x=>match Xe x with
   | some AG=>if KJ P t then some (.c (.int .i64 AG.length))else none
   | none=>none
def Vz (mx:Bool):Int->IntKind->List V->Option V
 | a,k,[]=>some (.c (.int k a))
 | a,k,.c (.int k' b)::r=>if k=k' then Vz mx (if mx then(if a<b then b else a)else(if b<a then b else a)) k r else none
 | _,_,_=>none
def az (mx:Bool):List V->Option V
 | .c (.int k a)::r=>Vz mx a k r
 | _=>none
def V3 (P:Program)(t:TypeId)(x:V)(lo hi:Option V):Option V:=
 match lo.getD (.c (.int .i64 0)),x with
 | .c (.int _ l),.c (.str s)=>match hi.getD (.c (.int .i64 s.size))with
   | .c (.int _ h)=>if fL P t=true/\0<=l/\l<=h/\h<=s.size then some (.c (.str (s.extract l.toNat h.toNat)))else none
   | _=>none
 | .c (.int _ l),x=>match Xe x with
   | some AG=>match hi.getD (.c (.int .i64 AG.length)),Dk P t with
     | .c (.int _ h),some (_,es,_)=>if (AG.all λr=>r.length==es)=true/\0<=l/\l<=h/\h<=AG.length then some (.c (.sl ((AG.take h.toNat).drop l.toNat)))else none
     | _,_=>none
   | none=>none
 | _,_=>none
def X4 (e:Operand->V)(es:Nat):Nat->List (Nat×Operand)->Option (List (List C))
 | _,[]=>some []
 | i,(j,x)::r=>if j=i/\(e x).flat=true/\(e x).cells.length=es then match toCs (e x).cells,X4 e es (i+1) r with
    | some row,some AG=>some (row::AG)
    | _,_=>none
   else none
def oV (P:Program)(e:Operand->V):Op->Pl
 | .move x=>.val (e x)
 | .assign x=>.val (e x)
 | .pick c a b=>match e c with
   | .c (.bool t)=>.val (if t then e a else e b)
   | _=>.fail
 | .alloc ty=>match C2 P ty with
   | some z=>.new (.box ty z false) λk=>.ptr k 0
   | none=>.fail
 | .box ty x=>if (e x).flat then .new (.box ty (e x).cells false) λk=>.ptr k 0 else .fail
 | .build t parts=>match C2 P t,Fj P t with
   | some z,some pl=>match YI pl z (parts.toList.map λp=>(p.1,e p.2))with
     | some cs=>.val (.agg cs)
     | none=>.fail
   | _,_=>.fail
 | .buildSlice t len parts=>match Dk P t with
   | some (_,es,_)=>if 0<len*es/\len*es<=2 ^ 24/\parts.toList.length=len then match X4 e es 0 parts.toList with
      | some AG=>.val (.Bg AG)
      | none=>.fail
     else .fail
   | none=>.fail
 | .load t a=>match B6 P t,e a with
   | some q,.ptr k off=>.rd k λ
     | .box _ cs _=>CJ q cs off
     | _=>none
   | some q,.cp row off=>Mv (CJ q (row.map V.c) off)
   | _,_=>.fail
 | .store t a y=>match B6 P t,e a with
   | some q,.ptr k off=>.wr k λ
     | .box ty cs false=>if (e y).flat=true/\(e y).cells.length=q.2/\off+q.2<=cs.length then some (.box ty (E8 cs off (e y).cells) false,.any)else none
     | _=>none
   | _,_=>.fail
 | .nilCheck x=>match e x with
   | .ptr k off=>.val (.ptr k off)
   | .cp row off=>.val (.cp row off)
   | _=>.fail
 | .binOp op t a b _=>Mv (oN (lU P t) op (e a) (e b))
 | .unOp op _ a=>Mv (oq op (e a))
 | .convert s d a=>match B6 P s with
   | some _=>Mv (oO P d (e a))
   | none=>.fail
 | .makeFunc (.func f) first caps=>if first.size=0 then .val (.fn f (caps.toList.map e))else .fail
 | .makeSlice t l c=>match Dk P t,e l,e c with
   | some (ty,es,Bq),.c (.int _ l),.c (.int _ c)=>match C2 P ty with
     | some z=>if l=c/\0<=l/\(Bq:Int)*l<=281474976710656/\l<=9223372036854775807 then .new (.box ty (Aq l.toNat z).flatten false) λk=>.own k 0 l.toNat es else .fail
     | none=>.fail
   | _,_,_=>.fail
 | .slice t y lo hi none=>Mv (V3 P t (e y) (lo.map e) (hi.map e))
 | .fieldAddr s y f=>Mv (oP P s f (e y))
 | .field s y f=>match Bp P s f,e y with
   | some (o,n,ag),.agg l=>Mv (CJ (ag,n) l o)
   | _,_=>.fail
 | .indexAddr t y i=>Mv (oR P t (e y) (e i))
 | .index t y i=>Mv (oQ P t (e y) (e i))
 | .extract y i=>match e y with
   | .A7 l=>Mv l[i]?
   | _=>.fail
 | .call ⟨.builtin .len,args,Fk⟩=>match args.toList,Fk.toList with
   | [y],[t]=>Mv (oT P t (e y))
   | _,_=>.fail
 | .call ⟨.builtin .max,args,_⟩=>Mv (az true (args.toList.map e))
 | .call ⟨.builtin .min,args,_⟩=>Mv (az false (args.toList.map e))
 | _=>.fail
def AAH:Op->Bool
 | .buildSlice _ _ _=>true
 | .call ⟨.builtin .append,_,_⟩=>true
 | _=>false
def BW (P:Program)(o:Oper)(a:Act)(S0:BF)(w0:Bs)(x:Cx)(w:World)(H:Bx)(v:V)(t:Option (Nat×O)):Prop:=
 ∃nx w' x' u,(execOp a.eval o).run P w=.ok nx w'/\(nx=.value u\/(nx=.skip/\u=undef))/\CV x' w' v u/\Good S0 w0 x' w' (H.upd t)/\Ext x x' w w'/\(∀k,x'.dom k->x.dom k\/∃o,t=some (k,o))/\(AAH o.op=false->x'.S=x.S)
variable {P:Program} {S0:BF} {w0:Bs} {x:Cx} {w:World} {H:Bx} {a:Act} {o:Oper} {e:Operand->V} {v:V}
theorem BW.pure (g:Good S0 w0 x w H)(E:(execOp a.eval o).run P w=.ok (.value u) w)(F:CV x w v u):BW P o a S0 w0 x w H v none:=
 ⟨_,w,x,u,E,.inl rfl,F,g,Ext.refl x w,λ_ h=>.inl h,λ_=>rfl⟩
theorem fV (k:IntKind)(n:Int):(I9 k (k.wrap n)).wf=true:=by
 have:=wrap_within k n;simp[So,this.1,this.2]
theorem Q8 {n:Nat}(h:n<=maxLen):(I9 .i64 (n:Int)).wf=true:=by
 have E:AZ.min= -9223372036854775808:=by decide +kernel
 have F:AZ.max=9223372036854775807:=by decide +kernel
 unfold maxLen at h;simp[So,E,F];omega
theorem AMD {k:IntKind}{n:Int}(h:(I9 k n).wf=true):k.wrap n=n:=by
 simp only[So,Ak,decide_eq_true_eq]at h;cases k<;>simp[IntKind.wrap,IntKind.min,IntKind.max,IntKind.bits,IntKind.signed]at h ⊢<;>omega
theorem ALZ {k:IntKind}{a b:Int}(F:(I9 k a).wf=true):(I9 k (a.tmod b)).wf=true:=by
 simp only[So,Ak,decide_eq_true_eq]at F ⊢;have G:k.min<=0/\0<=k.max:=by cases k<;>decide +kernel
 have I:(a.tmod b).natAbs<=a.natAbs:=by rw[Int.natAbs_tmod];exact Nat.mod_le _ _
 rcases Int.lt_or_le a 0 with h|h
 have E:=Sl (a:= -a) b (by omega);rw[Int.neg_tmod]at E;omega;have E:=Sl (a:=a) b h;omega
theorem AN7 {a b:ByteArray}:(a.toList==b.toList)=decide (a=b):=by
 rw[uC,uC];by_cases h:a=b;subst h;simp;have : ¬a.data=b.data:=λe=>h (by cases a;cases b;simpa using e)
 simp[h,this]
theorem AYF (k:IntKind)(ty:TypeId)(n m:Int)(w:World):(binOp .or ty (.int k n) (.int k m)).run P w=.ok (.int k (Zg k n m)) w:=by
 have e:binOp .or ty (.int k n) (.int k m)=if k≠k then stuck "BinOp: operands of different kinds" else pure (.int k (Zg k n m)):=rfl
 rw[e,if_neg (by simp)];rfl
theorem AYD (s t:Bool)(w:World)(h:P.underlying ty=some .bool):(binOp .eql ty (.bool s) (.bool t)).run P w=.ok (.bool (s==t)) w/\(binOp .neq ty (.bool s) (.bool t)).run P w=.ok (.bool (!(s==t))) w:=by
 have e:(Pt ty (.bool s) (.bool t)).run P w=.ok (s==t) w:=by
  unfold Pt;show (aP (9999+1) ty _ _).run P w=_;unfold aP;have G:(underlying ty).run P w=.ok .bool w:=by simp[Go.underlying,program,HW,h]
  simp[G]
 have E:binOp .eql ty (.bool s) (.bool t)=(do let b <-Pt ty (.bool s) (.bool t);pure (.bool b)):=rfl;have F:binOp .neq ty (.bool s) (.bool t)=(do let b <-Pt ty (.bool s) (.bool t);pure (.bool (!b))):=rfl;rw[E,F];simp[e]
theorem AUy (g:Good S0 w0 x w H){op:BinOp}{ty J:TypeId}{y z:Operand}(ho:o.op=.binOp op ty y z J)(E:CV x w (e y) (a.eval y))(F:CV x w (e z) (a.eval z))(h:oN (lU P ty) op (e y) (e z)=some v):BW P o a S0 w0 x w H v none:=by
 generalize e y=Y at *
 generalize e z=Z at *
 unfold oN at h;split at h
 . rename_i k n k' m;simp only[CV,Ab]at E F;obtain⟨E,wy⟩:=E;obtain⟨F,wz⟩:=F;split at h
   . rename_i R;subst R;cases op<;>simp only at h<;>first
      | (cases h;refine BW.pure g (u:=.int k (Zg k n m)) (by simp[execOp,ho,eqGuard,AYF,E,F]) ?_;simp only[CV,Ab];exact⟨trivial,fV _ _⟩;done)
      | (cases h;refine BW.pure g (u:=.bool (decide (n=m))) (by simp[execOp,ho,eqGuard,binOp,Op.intCmp,E,F,BEq.beq]) ?_;simp only[CV,Ab];done)
      | (cases h;refine BW.pure g (u:=.bool (!decide (n=m))) (by simp[execOp,ho,eqGuard,binOp,Op.intCmp,E,F,bne,BEq.beq]) ?_;simp only[CV,Ab];done)
      | (cases h;refine BW.pure g (u:=_) (by simp[execOp,ho,eqGuard,binOp,Op.intArith,Op.intCmp,E,F];rfl) ?_;first|(simp only[CV,Ab];exact⟨trivial,fV _ _⟩)|(simp only[CV,Ab];done)|(simp only[CV,Ab];congr 1;simp[bne]))
      | (split at h
         cases h;rename_i G;cases h;refine BW.pure g (u:=_) (by simp[execOp,ho,eqGuard,binOp,Op.intDiv,E,F,G];rfl) ?_;first|(simp only[CV,Ab];exact⟨trivial,fV _ _⟩)|(simp only[CV,Ab,AMD (ALZ wy)];exact⟨trivial,ALZ wy⟩))
      | cases h
   cases h
 . rename_i s t;simp only[CV,Ab]at E F;obtain⟨E,wy⟩:=E;obtain⟨F,wz⟩:=F;cases op<;>simp only at h<;>first
    | (cases h;refine BW.pure g (u:=_) (by simp[execOp,ho,eqGuard,binOp,Op.stringOp,E,F,AN7];rfl) ?_;simp only[CV,Ab];done)
    | (split at h
       rename_i S;cases h;have M:AZ.max=9223372036854775807:=by decide +kernel
       unfold maxLen at S;refine BW.pure g (u:=.string (s++t)) (by simp[execOp,ho,eqGuard,binOp,Op.stringOp,E,F,M];omega) ?_;simp only[CV,Ab];exact⟨trivial,by rw[ByteArray.size_append];unfold maxLen;omega⟩;cases h)
    | cases h
 . rename_i s t;simp only[CV,Ab]at E F;have G : ∀ {r:Bool},(if lU P ty=true then some (V.c (.bool r))else none)=some v->P.underlying ty=some .bool/\v=.c (.bool r):=λI=>by
    split at I;rename_i e;cases I;unfold lU at e;split at e;rename_i K;exact⟨K,rfl⟩;cases e;cases I
   cases op<;>simp only at h<;>first
    | (obtain⟨e,rfl⟩:=G h
       refine BW.pure g (u:=_) (by simp[execOp,ho,eqGuard,AYD _ _ _ e,E,F];rfl) ?_;simp only[CV,Ab];done)
    | cases h
 cases h
theorem AVR (g:Good S0 w0 x w H){op:UnOp}(ho:o.op=.unOp op ty y)(E:CV x w (e y) (a.eval y))(h:oq op (e y)=some v):BW P o a S0 w0 x w H v none:=by
 generalize e y=Y at *
 unfold oq at h;split at h;rename_i k n;simp only[CV,Ab]at E;split at h;cases h;refine BW.pure g (u:=.int k (k.wrap (0 - n))) (by simp[execOp,ho,Op.unary,Op.intArith,E.1]) ?_;simp only[CV,Ab];exact⟨trivial,fV _ _⟩;cases h;simp only[CV,Ab]at E;split at h;cases h;refine BW.pure g (u:=_) (by simp[execOp,ho,Op.unary,E];rfl) ?_;simp only[CV,Ab];cases h;cases h
theorem AU0 (g:Good S0 w0 x w H){s d:TypeId}(hs : ∃F,P.underlying s=some F)(ho:o.op=.convert s d y)(G:CV x w (e y) (a.eval y))(h:oO P d (e y)=some v):BW P o a S0 w0 x w H v none:=by
 generalize e y=Y at *
 unfold oO at h;split at h
 . simp only[CV,Ab]at G;obtain⟨F,hs⟩:=hs;unfold ALS at h;cases E:P.underlying d with
   | none=>rw[E]at h;cases h
   | some I =>
     rw[E]at h;cases I<;>simp only at h<;>try (cases h;done)
     cases h;refine BW.pure g (u:=_) (by simp[execOp,ho,convert,run_underlying hs,run_underlying E,Conv.intToInt,G.1];rfl) ?_;simp only[CV,Ab];exact⟨trivial,fV _ _⟩
 cases h
end
section
variable {P:Program} {S0:BF} {w0:Bs} {x:Cx} {w:World} {H:Bx} {a:Act} {o:Oper} {e:Operand->V} {v:V}
theorem AVE (g:Good S0 w0 x w H){t:TypeId}(ho:o.op=.load t y){q:Bool×Nat}(W:B6 P t=some q){k off:Nat}(E:CV x w (.ptr k off) (a.eval y)){cs:List V}{J:Bool}(R:H k=some (.box ty cs J))(h:CJ q cs off=some v):BW P o a S0 w0 x w H v none:=by
 obtain⟨_,I⟩:=g.ok k _ R;obtain⟨_,_,vs,S,hn,F⟩:=I;simp only[CV]at E;obtain⟨_,_,E⟩:=E;obtain⟨u,G,z⟩:=dY (x:=x) (w:=w) (b:=(x.loc k).b) (o:=0) W (λj v U=>by
  obtain⟨u,K,M⟩:=F.get j v U;refine⟨u,?_,M⟩;rw[Cz,cell_of_row w _ j vs ty (0,0) S];simpa using K) h
 refine BW.pure g (u:=u) ?_ z;rw[Cz]at G;simp[execOp,ho,mF,E,Ol,G]
theorem AVC (g:Good S0 w0 x w H){t:TypeId}(ho:o.op=.load t y){q:Bool×Nat}(R:B6 P t=some q){row:List C}{off:Nat}(E:CV x w (.cp row off) (a.eval y))(h:CJ q (row.map V.c) off=some v):BW P o a S0 w0 x w H v none:=by
 simp only[CV]at E;obtain⟨b,I,E,F⟩:=E;obtain⟨u,F,S⟩:=dY (x:=x) (w:=w) (b:=b) (o:=I) R (λj v G=>by
  rw[CM,Ia]at G;obtain⟨c,M,rfl⟩:=G;obtain⟨u,J,K⟩:=F.get M;exact⟨u,J,by simpa only[CV]using K⟩) h
 refine BW.pure g (u:=u) ?_ S;simp[execOp,ho,mF,E,Ol,F]
theorem run_storeCells_at {g:Nat}{t:TypeId}{off:Nat} : ∀(vs:List Value) (i:Nat) (w:World) (E:Array Value),Cb w g t E->off+i+vs.length<=E.size->(∀v∈vs,v.oneCell'=true)->
 (storeCells ⟨g,off,none⟩ vs i).run P w=.ok () (w.setRow g ((vs.zipIdx i).foldl (λ(c:Array Value) (p:Value×Nat)=>c.setIfInBounds (off+p.2) p.1) E)):=by
 intro vs;induction vs with
 | nil=>intro i w E F _ _;simp[storeCells,setRow_self w g E t (0,0) F]
 | cons v r ih =>
   intro i w E F J K;have G:off+i<E.size:=by simp at J;omega
   have M:w.cell? ⟨g,off+i,none⟩=some (E[off+i]):=by rw[F.cell];simp[G]
   have I:(store ⟨g,off+i,none⟩ v .plain).run P w=.ok () (w.setRow g (E.setIfInBounds (off+i) v)):=by
    rw[run_store P _ _ v .plain (K v (by simp)),setCell_eq_setRow w g (off+i) E t (0,0) v F];simp[M,F.frozen]
   unfold storeCells;rw[Jt,J0,I];simp only[Oo];rw[ih (i+1) _ (E.setIfInBounds (off+i) v) (F.Tz _) (by simp at J ⊢;omega) (λu R=>K u (by simp[R])),setRow_setRow];simp[mb]
theorem AAs (g:Good S0 w0 x w H){t:TypeId}{y z:Operand}(ho:o.op=.store t y z){q:Bool×Nat}(hq:B6 P t=some q){k off:Nat}(F:CV x w (.ptr k off) (a.eval y))(hz:CV x w (e z) (a.eval z)){cs:List V}(I:H k=some (.box ty cs false))(W:(e z).flat=true)(h2:(e z).cells.length=q.2)(h3:off+q.2<=cs.length):BW P o a S0 w0 x w H .any (some (k,.box ty (E8 cs off (e z).cells) false)):=by
 obtain⟨hd,M⟩:=g.ok k _ I;obtain⟨_,_,vs,J,hn,E⟩:=M;simp only[CV]at F;obtain⟨_,_,F⟩:=F;obtain⟨G,S⟩:=hz.cells W;obtain⟨_,hs,_⟩:=T3 (w:=w) (P:=P) (ag:=q.1) (n:=q.2) hq;have dK:vs.size=cs.length:=by have:=E.len;simpa using this
 have R:(a.eval z).cells.size=q.2:=by have:=G.len;simp only[FW]at this;omega
 have K:=xa x w (e z).cells (a.eval z).cells.toList 0 off cs vs G E;have hr:=run_storeCells_at (P:=P) (t:=ty) (off:=off) (a.eval z).cells.toList 0 w vs J (by simp;omega) S;obtain⟨U,he⟩:=g.ACa k ty cs (E8 cs off (e z).cells) I vs _ J K.2 K.1;refine⟨.skip,_,x,undef,?_,.inr ⟨rfl,rfl⟩,by simp only[CV],U,he,λ_ h=>.inl h,λ_=>rfl⟩;simp[execOp,ho,Instr.storeAt,F,Ol,storeVar,hs,R,hr]
theorem AI1 (g:Good S0 w0 x w H){cs:List V}{vs:Array Value}(K:AO x w cs vs.toList)(E:Nat)(I : ¬x.dom E)(J:(execOp a.eval o).run P w=.ok (.value (.pointer (some ⟨w.heap.size,0,none⟩))) (w.alloc (.cells vs ty))):
 BW P o a S0 w0 x w H (.ptr E 0) (some (E,.box ty cs false)):=by
 obtain⟨F,G⟩:=g.Zc E I ty cs vs K;refine⟨_,_,_,_,J,.inl rfl,?_,F,G,λk h=>h.elim .inl λe=>.inr ⟨.box ty cs false,by rw[e]⟩,λ_=>rfl⟩;simp only[CV,Cx.C4,if_true];exact⟨.inr trivial,trivial,trivial⟩
theorem AAr (g:Good S0 w0 x w H)(ho:o.op=.box ty y)(I:CV x w (e y) (a.eval y))(F:(e y).flat=true)(E:Nat)(G : ¬x.dom E):BW P o a S0 w0 x w H (.ptr E 0) (some (E,.box ty (e y).cells false)):=by
 refine AI1 g (I.cells F).1 E G ?_;simp[execOp,ho,Instr.box,newVar,newRow]
theorem Z2 {t:TypeId}{z:List V}(h:C2 P t=some z):∃E,(zeroValue t).run P w=.ok E w/\AO x w z E.cells.toList/\∃i,P.info? t=some i/\i.zero=some E:=by
 unfold C2 at h;cases F:P.info? t with
 | none=>simp[F]at h
 | some i=>simp only[F,Ia]at h;obtain⟨E,G,rfl⟩:=h;exact⟨E,by simp[zeroValue,typeInfo,F,G],ACB x w _,i,rfl,G⟩
theorem AAq (g:Good S0 w0 x w H)(ho:o.op=.alloc ty){z:List V}(J:C2 P ty=some z)(E:Nat)(I : ¬x.dom E):BW P o a S0 w0 x w H (.ptr E 0) (some (E,.box ty z false)):=by
 obtain⟨K,F,G,_⟩:=Z2 (x:=x) (w:=w) J;refine AI1 g G E I ?_;simp[execOp,ho,Instr.alloc,F,newVar,newRow]
theorem AJN (a:Act)(parts:Array (Nat×Operand)):(parts.map λ(i,y)=>(i,a.eval y)).toList=parts.toList.map λp=>(p.1,a.eval p.2):=by simp
theorem AO.of_map {x:Cx}{w:World}{e:Operand->V}{a:Act} : ∀ {l:List Operand},(∀y∈l,CV x w (e y) (a.eval y))->AO x w (l.map e) (l.map a.eval)
 | [],_=>by simp only[BB,AO]
 | y::l,h=>by simp only[Ap,AO];exact⟨_,_,rfl,h y (by simp),AO.of_map λy E=>h y (by simp[E])⟩
theorem AIu (g:Good S0 w0 x w H){t:TypeId}{parts:Array (Nat×Operand)}(ho:o.op=.build t parts)(W : ∀p∈parts.toList,CV x w (e p.2) (a.eval p.2)){z:List V}{pl:Nat->Option (Nat×Nat)}{cs:List V}(hz:C2 P t=some z)(E:Fj P t=some pl)(h:YI pl z (parts.toList.map λp=>(p.1,e p.2))=some cs):BW P o a S0 w0 x w H (.agg cs) none:=by
 obtain⟨zv,h1,R,i,U,G⟩:=Z2 (x:=x) (w:=w) hz;obtain⟨vs,J,k2,_⟩:=AFZ x w pl (parts.toList.map λp=>(p.1,e p.2)) (parts.toList.map λp=>(p.1,a.eval p.2)) z cs zv.cells (by simp) (by
  simp only[M7];have:=AO.of_map (x:=x) (w:=w) (e:=e) (a:=a) (l:=parts.toList.map (·.2)) (by
   intro y q;obtain⟨p,M,rfl⟩:=Da.1 q;exact W p M)
  simp only[M7]at this;exact this) R h
 have S:P.built t (parts.map λ(i,y)=>(i,a.eval y)).toList=some vs:=by
  rw[AJN];unfold Program.built;unfold Fj at E;cases I:P.underlying t with
  | none=>simp[I]at E
  | some d =>
    simp only[U,G];cases d<;>simp only[I]at E<;>try (cases E;done)
    simp only[Ia]at E;obtain⟨ie,K,rfl⟩:=E;simp only[K,G];exact J;simp only[Ia]at E;obtain⟨FT,F,rfl⟩:=E;simp only[F,G,mV];exact J
 refine BW.pure g (u:=.agg vs) ?_ (by simp only[CV];exact⟨vs,rfl,k2⟩);simp only[execOp,ho];simp only[Jt,run_build w t _ vs S,Oo];rfl
theorem AFY {f off n:Nat}(h:Bp P s f=some (off,n,ag)):∃E F,P.underlying s=some (.struct E)/\E[f]?=some F/\F.offset=off/\B6 P F.type=some (ag,n):=by
 unfold Bp at h;cases J:P.underlying s with
 | none=>simp[J]at h
 | some d =>
   rw[J]at h;cases d<;>simp only at h<;>try (cases h;done)
   rename_i E;cases G:E[f]? with
   | none=>simp[G]at h
   | some F =>
     rw[G]at h;simp only at h;cases I:B6 P F.type with
     | none=>simp[I]at h
     | some q=>rw[I]at h;simp only[BL,Cr]at h;obtain⟨rfl,rfl,rfl⟩:=h;exact⟨E,F,rfl,G,rfl,I⟩
theorem ABf {f off n:Nat}(h:Bp P s f=some (off,n,ag))(I:n≠0)(b F:Nat):(Instr.fieldAt s (.pointer (some ⟨b,F,none⟩)) f).run P w=.ok (.pointer (some ⟨b,F+off,none⟩)) w:=by
 obtain⟨E,R,M,G,rfl,K⟩:=AFY h;obtain⟨_,J,_⟩:=T3 (w:=w) K;simp[Instr.fieldAt,run_underlying M,G,Ol,fieldPlace,J,I,J0]
theorem AU4 (g:Good S0 w0 x w H){f:Nat}(ho:o.op=.fieldAddr s y f)(E:CV x w (e y) (a.eval y))(h:oP P s f (e y)=some v):BW P o a S0 w0 x w H v none:=by
 generalize e y=Y at *
 unfold oP at h;split at h;split at h;rename_i I n ag G;split at h;cases h;rename_i F;cases h;simp only[CV]at E;obtain⟨K,M,E⟩:=E;refine BW.pure g (u:=_) (by simp[execOp,ho,E,ABf G F];rfl) ?_;simp only[CV];exact⟨K,M,trivial⟩;cases h;split at h;rename_i I n ag G;split at h;cases h;rename_i F;cases h;simp only[CV]at E;obtain⟨b,J,E,R⟩:=E;refine BW.pure g (u:=_) (by simp[execOp,ho,E,ABf G F];rfl) ?_;simp only[CV];exact⟨b,J,by rw[mg],R⟩;cases h;cases h
theorem AJL {t:TypeId}{q:Bool×Nat}(I:B6 P t=some q){l:List V}{vs:Array Value}(F:AO x w l vs.toList){off:Nat}(h:CJ q l off=some v):∃u,(part t vs off).run P w=.ok u w/\CV x w v u:=by
 obtain⟨ag,n⟩:=q;obtain⟨E,G,_⟩:=T3 (w:=w) I;unfold CJ at h;cases ag with
 | false =>
   simp only[GW,if_false]at h;obtain⟨u,J,K⟩:=F.get off v h;refine⟨u,?_,K⟩;have:vs[off]?=some u:=by simpa using J
   simp[part,E,this]
 | true =>
   simp only[if_true]at h;split at h;cases h;refine⟨.agg (vs.extract off (off+n)),by simp[part,E,G],?_⟩;simp only[CV];refine⟨_,rfl,?_⟩;have:=(F.drop off).take n;rw[Array.toList_extract];simpa [List.extract]using this;cases h
theorem AU3 (g:Good S0 w0 x w H){f:Nat}(ho:o.op=.field s y f){off n:Nat}(K:Bp P s f=some (off,n,ag)){l:List V}(F:CV x w (.agg l) (a.eval y))(h:CJ (ag,n) l off=some v):BW P o a S0 w0 x w H v none:=by
 obtain⟨E,U,M,I,rfl,G⟩:=AFY K;simp only[CV]at F;obtain⟨vs,F,J⟩:=F;obtain⟨u,R,S⟩:=AJL G J h;refine BW.pure g (u:=u) ?_ S;simp[execOp,ho,F,Instr.field,run_underlying M,I,asAgg,R]
theorem tT {Y:V}{AG:List (List C)}(h:Xe Y=some AG)(E:CV x w Y u):Ab x.S w (.sl AG) u:=by
 unfold Xe at h;split at h<;>first|cases h|skip
 simpa only[CV]using E;simp only[CV]at E;obtain⟨_,_,E⟩:=E;exact E;simp only[CV]at E;exact E.2.2.1
end
section
variable {P:Program} {S0:BF} {w0:Bs} {x:Cx} {w:World} {H:Bx} {a:Act} {o:Oper} {e:Operand->V} {v:V}
theorem JS {t:TypeId}{es Bq:Nat}(h:Dk P t=some (ty,es,Bq)):P.underlying t=some (.slice ty)/\∃i z,P.info? ty=some i/\i.zero=some z/\i.size=es/\i.bytes=Bq/\z.cells.size=es:=by
 unfold Dk at h;cases I:P.underlying t with
 | none=>simp[I]at h
 | some d =>
   rw[I]at h;cases d<;>simp only at h<;>try (cases h;done)
   rename_i el;cases E:P.info? el with
   | none=>simp[E]at h
   | some i =>
     rw[E]at h;simp only at h;cases F:i.zero with
     | none=>simp[F]at h
     | some z =>
       rw[F]at h;simp only at h;split at h;rename_i G;simp only[BL,Cr]at h;obtain⟨rfl,rfl,rfl⟩:=h;exact⟨rfl,i,z,E,F,rfl,rfl,G⟩;cases h
theorem AB0 {t:TypeId}{n s:Nat}(h:Np P t=some (n,s,ag)):∃el,P.underlying t=some (.array n el)/\B6 P el=some (ag,s):=by
 unfold Np at h;cases F:P.underlying t with
 | none=>simp[F]at h
 | some d =>
   rw[F]at h;cases d<;>simp only at h<;>try (cases h;done)
   rename_i m el;cases E:B6 P el with
   | none=>simp[E]at h
   | some q=>rw[E]at h;simp only[BL,Cr]at h;obtain⟨rfl,rfl,rfl⟩:=h;exact⟨el,rfl,E⟩
theorem AB2 {t:TypeId}(h:fL P t=true):P.underlying t=some .string:=by
 unfold fL at h;split at h;assumption;cases h
theorem AB1 {t:TypeId}(h:KJ P t=true):∃el,P.underlying t=some (.slice el):=by
 unfold KJ at h;split at h;exact⟨_,by assumption⟩;cases h
theorem AU9 (g:Good S0 w0 x w H){t:TypeId}{y z:Operand}(ho:o.op=.indexAddr t y z)(F:CV x w (e y) (a.eval y))(U:CV x w (e z) (a.eval z))(h:oR P t (e y) (e z)=some v):BW P o a S0 w0 x w H v none:=by
 generalize e y=Y at *
 generalize e z=Z at *
 unfold oR at h;split at h
 case h_2=>cases h
 rename_i k i;simp only[CV,Ab]at U;obtain⟨U,_⟩:=U;split at h;rename_i kk E len es;split at h;rename_i Ae G Bq R;obtain⟨S,A0,zv,hi,_,M,_,_⟩:=JS R;split at h;rename_i K;obtain⟨rfl,I,J⟩:=K;cases h;simp only[CV]at F;obtain⟨d1,d2,cap,F,_,_,_⟩:=F;refine BW.pure g (u:=.pointer (some ⟨(x.loc kk).b,E+i.toNat*G,none⟩)) ?_ (by simp only[CV];exact⟨d1,d2,trivial⟩);simp[execOp,ho,F,U,mE,asIntOf,run_underlying S,I,J,sizeOf,typeInfo,hi,M,J0];cases h;cases h;rename_i kk E;split at h;rename_i n s ag R;obtain⟨el,S,Mh⟩:=AB0 R;obtain⟨_,hs,_⟩:=T3 (w:=w) Mh;split at h;rename_i K;obtain⟨I,J⟩:=K;cases h;simp only[CV]at F;obtain⟨d1,d2,F⟩:=F;refine BW.pure g (u:=.pointer (some ⟨(x.loc kk).b,E+i.toNat*s,none⟩)) ?_ (by simp only[CV];exact⟨d1,d2,trivial⟩);simp[execOp,ho,F,U,mE,asIntOf,Ol,run_underlying S,I,J,hs,J0];cases h;cases h;rename_i row E;split at h;rename_i n s ag R;obtain⟨el,S,Mh⟩:=AB0 R;obtain⟨_,hs,_⟩:=T3 (w:=w) Mh;split at h;rename_i K;obtain⟨I,J⟩:=K;cases h;simp only[CV]at F;obtain⟨b,I5,F,q⟩:=F;refine BW.pure g (u:=.pointer (some ⟨b,I5+E+i.toNat*s,none⟩)) ?_ (by simp only[CV];exact⟨b,I5,by rw[mg],q⟩);simp[execOp,ho,F,U,mE,asIntOf,Ol,run_underlying S,I,J,hs,J0];cases h;cases h;split at h;rename_i AG Ae es Bq Y1 R;obtain⟨S,A0,zv,hi,_,M,_,_⟩:=JS R;split at h;rename_i K;obtain⟨I,J⟩:=K;split at h;rename_i r q;split at h;rename_i hl;cases h;have hd:=tT Y1 F;simp only[Ab]at hd;obtain⟨A,c,hv,_,_,Aw⟩:=hd;obtain⟨b,E,G,rfl,W,Aw⟩:=Aw (λe=>by subst e;simp at q);have:G=es:=by rw[<-W r (Cj q),hl]
 subst this;have Fh:=Aw.AS W _ r q;refine BW.pure g (u:=.pointer (some ⟨b,E+i.toNat*G,none⟩)) ?_ (by simp only[CV];exact⟨b,E+i.toNat*G,rfl,Fh⟩);simp[execOp,ho,hv,U,mE,asIntOf,run_underlying S,I,J,sizeOf,typeInfo,hi,M,J0];cases h;cases h;cases h;cases h
theorem AU8 (g:Good S0 w0 x w H){t:TypeId}{y z:Operand}(ho:o.op=.index t y z)(E:CV x w (e y) (a.eval y))(F:CV x w (e z) (a.eval z))(h:oQ P t (e y) (e z)=some v):BW P o a S0 w0 x w H v none:=by
 generalize e y=Y at *
 generalize e z=Z at *
 unfold oQ at h;split at h;rename_i s k i;simp only[CV,Ab]at E F;obtain⟨E,_⟩:=E;obtain⟨F,_⟩:=F;split at h;rename_i R;have S:=AB2 R;split at h;rename_i K;simp only[Ia]at h;obtain⟨J,I,rfl⟩:=h;have G:i.toNat<s.size:=by have:=(Br.1 I).1;simpa using this
 have W:s[i.toNat]?=some J:=by
  rw[getElem?_pos s i.toNat G];simp only[Array.getElem?_toList]at I;rw[Array.getElem?_eq_getElem (by simpa using G)]at I;exact I
 refine BW.pure g (u:=.int .u8 J.toNat) ?_ ?_;simp[execOp,ho,E,F,Instr.index,asIntOf,run_underlying S,K,W];simp only[CV,Ab];refine⟨trivial,?_⟩;have M:uL.min=0:=by decide +kernel
 have q:uL.max=255:=by decide +kernel
 have:=J.toNat_lt;simp[So,M,q];omega;cases h;cases h;rename_i l k i;simp only[CV,Ab]at E F;obtain⟨vs,E,hl⟩:=E;obtain⟨F,_⟩:=F;split at h;rename_i n s ag ht;obtain⟨el,S,U⟩:=AB0 ht;obtain⟨_,R,_⟩:=T3 (w:=w) U;split at h;rename_i hc;obtain⟨K,M⟩:=hc;obtain⟨u,k1,k2⟩:=AJL U hl h;refine BW.pure g (u:=u) ?_ k2;simp[execOp,ho,E,F,Instr.index,asIntOf,run_underlying S,K,M,R,k1];cases h;cases h;cases h
theorem Ab.AYw {S:BF}{AG:List (List C)}(h:Ab S w (.sl AG) u):∃A c,u=.slice A AG.length c/\AG.length<=maxLen:=by
 simp only[Ab]at h;obtain⟨A,c,e,E,F,_⟩:=h;exact⟨A,c,e,by omega⟩
theorem AVA (g:Good S0 w0 x w H){t:TypeId}(ho:o.op=.call ⟨.builtin .len,#[y],#[t]⟩)(E:CV x w (e y) (a.eval y))(h:oT P t (e y)=some v):BW P o a S0 w0 x w H v none:=by
 generalize e y=Y at *
 unfold oT at h;split at h;simp only[CV,Ab]at E;obtain⟨E,G⟩:=E;split at h;rename_i F;cases h;refine BW.pure g (u:=_) (by simp[execOp,ho,resolve,invoke,builtin,E,uA,run_underlying (AB2 F),goInt];rfl) ?_;simp only[CV,Ab];exact⟨trivial,Q8 G⟩;cases h;simp only[CV]at E;obtain⟨_,_,cap,E,R,S,_⟩:=E;split at h;rename_i F;obtain⟨el,I⟩:=AB1 F;cases h;refine BW.pure g (u:=_) (by simp[execOp,ho,resolve,invoke,builtin,E,uA,run_underlying I,goInt];rfl) ?_;simp only[CV,Ab];exact⟨trivial,Q8 (by omega)⟩;cases h;split at h;rename_i M J;split at h;rename_i F;obtain⟨el,I⟩:=AB1 F;cases h;obtain⟨A,c,K,G⟩:=(tT J E).AYw;refine BW.pure g (u:=_) (by simp[execOp,ho,resolve,invoke,builtin,K,uA,run_underlying I,goInt];rfl) ?_;simp only[CV,Ab];exact⟨trivial,Q8 G⟩;cases h;cases h
theorem ADx : ∀(l:List V) (us:List Value) (mx:Bool) (n:Int) (k:IntKind) (v:V),AO x w l us->(I9 k n).wf=true->Vz mx n k l=some v->
 ∃u,(us.foldlM (if mx then Builtin.max2 else Builtin.min2) (Value.int k n)).run P w=.ok u w/\CV x w v u
 | [],us,mx,n,k,v,h,J,E=>by
   simp only[AO]at h;subst h;simp only[Vz,BL]at E;subst E;exact⟨.int k n,by simp,by simp only[CV,Ab];exact⟨trivial,J⟩⟩
 | y::l,us,mx,n,k,v,h,J,E=>by
   simp only[AO]at h;obtain⟨u,S,rfl,G,K⟩:=h;cases y with
   | c c =>
     cases c with
     | int k' m =>
       simp only[Vz]at E;simp only[CV,Ab]at G;obtain⟨rfl,U⟩:=G;split at E;rename_i M;subst M;have F:(I9 k (if mx then(if n<m then m else n)else(if m<n then m else n))).wf=true:=by cases mx<;>simp only[GW,if_false,if_true]<;>split<;>assumption
       obtain⟨u,I,R⟩:=ADx l S mx _ k v K F E;refine⟨u,?_,R⟩;cases mx<;>simp[Builtin.max2,Builtin.min2]at I ⊢<;>exact I;cases E
     | _=>simp[Vz]at E
   | _=>simp[Vz]at E
theorem AIz (g:Good S0 w0 x w H){b:Builtin}{mx:Bool}{args:Array Operand}{J:Array TypeId}(hb:(b=.max/\mx=true)\/(b=.min/\mx=false))(ho:o.op=.call ⟨.builtin b,args,J⟩)(U : ∀y∈args.toList,CV x w (e y) (a.eval y))(h:az mx (args.toList.map e)=some v):BW P o a S0 w0 x w H v none:=by
 have G:=AO.of_map U;obtain⟨args⟩:=args;simp only at *
 match args,h,G with
 | [],h,_=>simp[az]at h
 | y::l,h,G =>
   simp only[Ap,AO,Vb]at G;obtain⟨u,W,⟨rfl,rfl⟩,E,R⟩:=G;simp only[Ap]at h;unfold az at h;split at h;rename_i k n r F;simp only[Vb]at F;obtain⟨K,M⟩:=F;rw[K]at E;simp only[CV,Ab]at E;obtain⟨u,I,S⟩:=ADx (P:=P) r _ mx n k v (M ▸ R) E.2 h;refine BW.pure g (u:=u) ?_ S;rcases hb with ⟨rfl,rfl⟩|⟨rfl,rfl⟩
   simp only[if_true]at I;simp[execOp,ho,resolve,invoke,builtin,Builtin.max_,E.1,I];simp only[GW,if_false]at I;simp[execOp,ho,resolve,invoke,builtin,Builtin.min_,E.1,I];cases h
theorem o7 (E:Option Operand)(d:Nat){l:Int}{k:IntKind}(h:(E.map e).getD (.c (.int .i64 d))=.c (.int k l))(F : ∀y,E=some y->CV x w (e y) (a.eval y)):(E=none/\l=d)\/∃y k',E=some y/\a.eval y=.int k' l:=by
 cases E with
 | none=>simp only[Option.map_none,Hr,V.c.injEq,C.int.injEq]at h;exact .inl ⟨rfl,h.2.symm⟩
 | some y=>simp only[Option.map_some,Dm]at h;have:=F y rfl;rw[h]at this;simp only[CV,Ab]at this;exact .inr ⟨y,k,rfl,this.1⟩
theorem ok_slice (g:Good S0 w0 x w H){t:TypeId}{W S:Option Operand}(ho:o.op=.slice t y W S none)(M:CV x w (e y) (a.eval y))(KD : ∀z,W=some z->CV x w (e z) (a.eval z))(R : ∀z,S=some z->CV x w (e z) (a.eval z))(h:V3 P t (e y) (W.map e) (S.map e)=some v):BW P o a S0 w0 x w H v none:=by
 unfold V3 at h;split at h;rename_i k l s hl hs;rw[hs]at M;simp only[CV,Ab]at M;obtain⟨M,A3⟩:=M;split at h;rename_i k' E J;split at h;rename_i hc;obtain⟨ht,h0,h1,h2⟩:=hc;cases h;have hu:=AB2 ht;have b1:=o7 W 0 hl KD;have b2:=o7 S s.size J R;have h3:l<=(E.toNat:Int):=by omega
 have h4:0<=E:=by omega
 refine BW.pure g (u:=.string (s.extract l.toNat E.toNat)) ?_ ?_;rcases b1 with ⟨rfl,rfl⟩|⟨z,k1,rfl,e1⟩<;>rcases b2 with ⟨rfl,rfl⟩|⟨z2,k2,rfl,e2⟩<;>
  simp[execOp,ho,M,mK,uI,run_underlying hu,mL,uJ,asIntOf, *]<;>omega
 simp only[CV,Ab];refine⟨trivial,?_⟩;rw[ByteArray.size_extract];omega;cases h;cases h;rename_i k l hl Fg;split at h;rename_i q Y1;split at h;rename_i k' E Ae es Bq J ht;split at h;rename_i hc;obtain⟨F,h0,h1,h2⟩:=hc;cases h;obtain⟨hu,ie,zv,EB,_,A5,_,_⟩:=JS ht;have hd:=tT Y1 M;simp only[Ab]at hd;obtain⟨A,c,hv,HL,GM,Aw⟩:=hd;have b1:=o7 W 0 hl KD;have b2:=o7 S q.length J R;have h3:l<=(E.toNat:Int):=by omega
 have h4:0<=E:=by omega
 have h5:E<=(c:Int):=by omega
 have h6:(E.toNat:Int)=E:=by omega
 refine BW.pure g (u:=.slice (if c=l.toNat then A else A.map (·.add (l.toNat*es))) (E.toNat - l.toNat) (c - l.toNat)) ?_ ?_;rcases b1 with ⟨rfl,rfl⟩|⟨z,k1,rfl,e1⟩<;>rcases b2 with ⟨rfl,rfl⟩|⟨z2,k2,rfl,e2⟩<;>
  simp[execOp,ho,hv,mK,uI,run_underlying hu,mL,uJ,asIntOf,sizeOf,typeInfo, *]
 simp only[CV,Ab];have G:((q.take E.toNat).drop l.toNat).length=E.toNat - l.toNat:=by simp;omega
 refine⟨_,c - l.toNat,by rw[G],by omega,by omega,λU=>?_⟩;have jz:q≠[]:=λe=>U (by rw[e];simp)
 obtain⟨b,A1,I,rfl,K,hr⟩:=Aw jz;have A2:l.toNat<E.toNat:=by
  rcases MK l.toNat E.toNat with h|h
  exact h;exact absurd (Nr (by rw[G];omega)) U
 have A0:I=es:=by
  obtain⟨r,rs,rfl⟩:=List.exists_cons_of_ne_nil jz;rw[ES]at F;have:=F r (by simp);simp only[beq_iff_eq]at this;rw[<-K r (by simp),this]
 subst A0;rw[if_neg (by omega)];refine⟨b,A1+l.toNat*I,I,by simp[J0],λr PS=>K r (uT (List.mem_of_mem_drop PS)),?_⟩;have:=(hr.take E.toNat)
 exact this.drop l.toNat (λr PS=>K r (uT PS)) (by simp;omega);cases h;cases h;cases h;cases h
end
section
variable {P:Program} {S0:BF} {w0:Bs} {x:Cx} {w:World} {H:Bx} {a:Act} {o:Oper} {e:Operand->V} {v:V}
theorem K7 {α:Type}{es:Nat} : ∀ {AG:List (List α)},(∀r∈AG,r.length=es)->AG.flatten.length=AG.length*es
 | [],_=>by simp
 | r::F,h=>by
   have ih:=K7 (AG:=F) λr E=>h r (by simp[E])
   simp only[Hp,Cp,BA,h r (by simp),ih,Gz];omega
theorem toC_ok {v:V}{c:C}(h:toC v=some c)(E:CV x w v u):Ab x.S w c u:=by
 unfold toC at h;split at h<;>first|cases h|skip
 simpa only[CV]using E;simp only[CV]at E;obtain⟨_,_,E⟩:=E;exact E;simp only[CV]at E;exact E.2.2.1;simp only[CV,AO]at E;obtain⟨vs,rfl,F⟩:=E;have e:vs=#[]:=Gx.1 F;subst e;simp only[Ab]
theorem toCs_ok : ∀ {l:List V} {cs:List C} {us:List Value},toCs l=some cs->AO x w l us->B4 x.S w cs us
 | [],cs,us,h,E=>by simp only[toCs,BL]at h;subst h;simpa only[AO,B4]using E
 | v::l,cs,us,h,E=>by
   simp only[AO]at E;obtain⟨u,K,rfl,F,G⟩:=E;unfold toCs at h;split at h;rename_i c r I J;cases h;simp only[B4];exact⟨u,K,rfl,toC_ok I F,toCs_ok J G⟩;cases h
theorem toCs_len : ∀ {l:List V} {cs:List C},toCs l=some cs->cs.length=l.length
 | [],cs,h=>by simp only[toCs,BL]at h;subst h;rfl
 | v::l,cs,h=>by
   unfold toCs at h;split at h;rename_i c r F E;cases h;simp[toCs_len E];cases h
theorem Good.AIf (g:Good S0 w0 x w H)(ty:TypeId)(arr:Array Value)(m:Nat)(z:m<=arr.size)(W:World)(M:Ay w W)(hs:W.heap.size=w.heap.size){l:List C}(J:B4 x.S w l (arr.toList.take m)) :
 ∃F,Good S0 w0 { x with S:=F } (W.alloc (.cells arr ty)) H/\Ext x { x with S:=F } w (W.alloc (.cells arr ty))/\B5 F (W.alloc (.cells arr ty)) l w.heap.size 0:=by
 have I:Ay w (W.alloc (.cells arr ty)):=M.alloc _;have G:Ar x.S (λb j=>x.S b j\/(b=w.heap.size/\j<m)) w (W.alloc (.cells arr ty)):=⟨λ_ _ h=>.inl h,λb j v _ R=>I.cell R⟩
 obtain⟨K,U⟩:=g.MF (x':={ x with S:=λb j=>x.S b j\/(b=w.heap.size/\j<m) }) I G rfl rfl (λb j h=>h.imp id λh=>⟨by omega,by simp;omega⟩);refine⟨_,K,U,B5.Pe (B4.mono G _ _ J) (λj u E=>?_) (λj q=>.inr ⟨rfl,?_⟩)⟩;rw[Cz,cell_of_row _ _ j arr ty (0,0) (by rw[<-hs];exact heap_alloc_new W _)];rw[KO]at E;split at E;simpa using E;cases E;have:=J.len;simp at this;omega
theorem cC : ∀(cs:List Value) (i off:Nat) (E:Array Value),off+i+cs.length<=E.size->
 ((cs.zipIdx i).foldl (λ(c:Array Value) (p:Value×Nat)=>c.setIfInBounds (off+p.2) p.1) E).toList=E.toList.take (off+i)++cs++E.toList.drop (off+i+cs.length)
 | [],i,off,E,h=>by simp
 | v::r,i,off,E,h=>by
   simp only[mb,Bw];have F:off+i<E.size:=by simp at h;omega
   rw[cC r (i+1) off _ (by simp at h ⊢;omega)];simp only[Array.toList_setIfInBounds];rw[show off+(i+1)=off+i+1 by omega,List.take_succ_eq_append_getElem (by simpa using F),List.take_set_of_le (BN _)];rw[List.drop_set_of_lt (by omega)];simp[mg,Nat.add_comm 1]
theorem AFa {es:Nat}(e:Operand->V)(a:Act):∀(ps:List (Nat×Operand)) (i:Nat) (AG:List (List C)) (arr:Array Value),X4 e es i ps=some AG->(∀p∈ps,CV x w (e p.2) (a.eval p.2))->(i+ps.length)*es<=arr.size->
 ∃G xs,fi (λi=>some (i*es,es)) arr (ps.map λp=>(p.1,a.eval p.2))=some G/\G.toList=arr.toList.take (i*es)++xs++arr.toList.drop ((i+ps.length)*es)/\B4 x.S w AG.flatten xs/\(∀r∈AG,r.length=es)/\AG.length=ps.length
 | [],i,AG,arr,h,_,E=>by
   simp only[X4,BL]at h;subst h;exact⟨arr,[],rfl,by simp,by simp[B4],by simp,rfl⟩
 | (j,y)::ps,i,AG,arr,h,q,E=>by
   unfold X4 at h;split at h;rename_i hc;obtain⟨rfl,hf,hl⟩:=hc;split at h;rename_i row F R I;cases h;have hy:=q (j,y) (by simp);obtain⟨z,k2⟩:=hy.cells hf;have W:(a.eval y).cells.size=es:=by have:=z.len;simp only[FW]at this;omega
   have A0:j*es+es<=arr.size:=by
    have:(j+1)*es<=(j+((j,y)::ps).length)*es:=Vj _ (by simp);rw[Gz]at this;omega
   have U:=cC (a.eval y).cells.toList 0 (j*es) arr (by simp;omega);have M:((((a.eval y).cells.toList.zipIdx 0).foldl (λ(c:Array Value) (p:Value×Nat)=>c.setIfInBounds (j*es+p.2) p.1) arr)).size=arr.size:=by
    have:=congrArg List.length U;simp only[FW,Cp,Fa,Ns]at this;omega
   obtain⟨G,xs,e1,e2,e3,e4,e5⟩:=AFa e a ps (j+1) F _ I (λp hp=>q p (by simp[hp])) (by rw[M];simp at E;rw[show j+1+ps.length=j+(ps.length+1)by omega];exact E);refine⟨G,(a.eval y).cells.toList++xs,?_,?_,?_,?_,by simp[e5]⟩;simp only[Ap,fi];rw[if_neg (by simp;omega),<-e1];congr 1
   rw[<-AMK];simp[AMQ];rw[e2,U];have J:(j+1)*es=j*es+es:=by rw[Gz];omega
   have h2:(a.eval y).cells.toList.length=es:=by simpa using W
   have h3:(j+((j,y)::ps).length)*es=(j+1+ps.length)*es:=by congr 1;simp;omega
   rw[h3,J];simp only[Nat.add_zero];rw[List.take_append_of_le_length (by simp;omega),Gl (by simp;omega)];rw[List.drop_append,List.drop_of_length_le (l:=List.take (j*es) arr.toList++(a.eval y).cells.toList) (by rw[Gz,J];simp only[Cp,Fa,FW];omega)];simp only[List.nil_append,GX,Cp,Fa,FW,List.drop_drop];congr 4
   rw[W,Vi (by omega)];rw[Gz,J];omega;simp only[Hp];exact(toCs_ok R z).append e3;intro r K;rcases Cf.1 K with rfl|K
   rw[toCs_len R,hl];exact e4 r K;cases h;cases h
theorem AUz (g:Good S0 w0 x w H){t:TypeId}{len:Nat}{parts:Array (Nat×Operand)}(ho:o.op=.buildSlice t len parts)(hp : ∀p∈parts.toList,CV x w (e p.2) (a.eval p.2)){es Bq:Nat}(ht:Dk P t=some (Ae,es,Bq))(h0:0<len*es)(h1:len*es<=2 ^ 24)(F:parts.toList.length=len){AG:List (List C)}(h:X4 e es 0 parts.toList=some AG):BW P o a S0 w0 x w H (.Bg AG) none:=by
 obtain⟨hu,ie,G,q,hz,E,_,_⟩:=JS ht;obtain⟨arr,U,e1,e2,J,K,M⟩:=AFa (x:=x) (w:=w) e a parts.toList 0 AG ((Array.range (len*es)).map (G.cells[· % G.cells.size]!)) h hp (by simp[<-F]);have NW:U.length=len*es:=by rw[J.len,K7 K,M,F]
 have I:arr.toList=U:=by
  rw[e2,F];simp
 have W:arr.size=len*es:=by rw[<-FW,I,NW]
 have hr:=run_buildSlice (P:=P) w t Ae len (parts.map λ(i,y)=>(i,a.eval y)) arr ie G hu q hz (by rw[E];omega) (by rw[E];omega) (by rw[AJN,E];exact e1);obtain⟨S',g',he,z⟩:=g.AIf Ae arr (len*es) (by omega) w (Ay.refl w) rfl (l:=AG.flatten) (by rw[I,Gl (by omega)];exact J);have S:AG.length=len:=by rw[M,F]
 refine⟨_,_,_,.slice (some ⟨w.heap.size,0,none⟩) len len,by simp only[execOp,ho,Jt,hr,Oo];rfl,.inl rfl,?_,g',he,λ_ h=>.inl h,λR=>by rw[ho]at R;cases R⟩;have Wi:len<=maxLen:=by
  have:len<=len*es:=Nat.le_mul_of_pos_right _ (Nat.pos_of_mul_pos_left h0);unfold maxLen;omega
 simp only[CV,Ab];refine⟨some ⟨w.heap.size,0,none⟩,by rw[S],some ⟨w.heap.size,0,none⟩,len,by rw[S],by omega,Wi,λ_=>⟨w.heap.size,0,es,rfl,K,D9.flat.2 z⟩⟩
theorem AAd {es:Nat}(z:Array Value)(E:z.size=es):∀n:Nat,(madeCells z (n*es)).toList=(Aq n z.toList).flatten
 | 0=>by simp[madeCells]
 | n+1=>by
   have ih:=AAd z E n;unfold madeCells at ih ⊢;simp only[Array.toList_map,Array.toList_range]at ih ⊢;rw[show (n+1)*es=n*es+es by rw[Gz];omega,List.range_add,List.map_append,ih,List.replicate_succ',Vd];congr 1
   simp only[M7,Hp,List.flatten_nil,E5];apply List.ext_getElem;simp[E];intro i G J;have I:i<es:=by simpa using G
   have F:i<z.size:=by omega
   simp[E,Nat.add_mod,Nat.mod_eq_of_lt I];exact getElem!_pos z i F
theorem AO.px {l:List V}{us:List Value}(h:AO x w l us):∀n:Nat,AO x w (Aq n l).flatten (Aq n us).flatten
 | 0=>by simp[AO]
 | n+1=>by simp only[List.replicate_succ,Hp];exact h.append (h.px n)
theorem AVG (g:Good S0 w0 x w H){t:TypeId}{y z:Operand}(ho:o.op=.makeSlice t y z){es Bq:Nat}(ht:Dk P t=some (Ae,es,Bq)){k k':IntKind}{l:Int}(hy:CV x w (.c (.int k l)) (a.eval y))(hz:CV x w (.c (.int k' l)) (a.eval z)){F:List V}(K:C2 P Ae=some F)(h0:0<=l)(h1:(Bq:Int)*l<=281474976710656)(h2:l<=9223372036854775807)(E:Nat)(hk : ¬x.dom E):BW P o a S0 w0 x w H (.own E 0 l.toNat es) (some (E,.box Ae (Aq l.toNat F).flatten false)):=by
 obtain⟨hu,ie,R,S,q,J,G,M⟩:=JS ht;obtain⟨zk,Y9,IN,i2,U,W⟩:=Z2 (x:=x) (w:=w) K;rw[S]at U;cases U;rw[q]at W;cases W;simp only[CV,Ab]at hy hz;have hr:=run_make (P:=P) w t Ae ie R hu S q k k' l l h0 (Int.le_refl _) (by rw[G];exact h1) h2;rw[J]at hr;have I:AO x w (Aq l.toNat F).flatten (madeCells R.cells (l.toNat*es)).toList:=by rw[AAd R.cells M];exact IN.px _
 obtain⟨g',he⟩:=g.Zc E hk Ae _ _ I;refine⟨_,_,_,.slice (some ⟨w.heap.size,0,none⟩) l.toNat l.toNat,by simp only[execOp,ho,hy.1,hz.1,Jt,hr,Oo];rfl,.inl rfl,?_,g',he,λk h=>h.elim .inl λe=>.inr ⟨.box Ae (Aq l.toNat F).flatten false,by rw[e]⟩,λ_=>rfl⟩;simp only[CV,Cx.C4,if_true];exact⟨.inr trivial,trivial,l.toNat,rfl,BN _,by unfold maxLen;omega,by simp[size_madeCells]⟩
end
section
variable {P:Program} {S0:BF} {w0:Bs} {x:Cx} {w:World} {H:Bx} {a:Act} {o:Oper} {e:Operand->V} {v:V}
def wD (P:Program)(t:TypeId)(X Y:V):Pl:=
 match Xe Y,Dk P t with
 | some ys,some (Ae,es,Bq)=>if 0<es/\(ys.all λr=>r.length==es)=true then
    match X with
    | .Bg AG=>if (AG.all λr=>r.length==es)=true/\AG.length+ys.length<=maxLen/\(AG.length+ys.length)*Bq<=140737488355328 then .new (.tok Ae es (AG.length+ys.length)) λk=>.gr k es (AG++ys)else .fail
    | .gr k es' AG=>if es'=es/\AG.length+ys.length<=maxLen/\(AG.length+ys.length)*Bq<=140737488355328 then .wr k λ
       | .tok ty e2 cur=>if ty=Ae/\e2=es/\cur=AG.length then some (.tok Ae es (AG.length+ys.length),.gr k es (AG++ys))else none
       | _=>none
      else .fail
    | _=>.fail
   else .fail
 | _,_=>.fail
theorem wG {AG:List (List C)}(h:(AG.all λr=>r.length==es)=true):∀r∈AG,r.length=es:=by
 intro r E;rw[ES]at h;simpa using h r E
theorem T0 {S:BF}{AG:List (List C)}(h:Ab S w (.sl AG) u)(E : ∀r∈AG,r.length=es):
 ∃A c xs,u=.slice A AG.length c/\AG.length<=c/\c<=maxLen/\B4 S w AG.flatten xs/\xs.length=AG.length*es/\(∀G,A=some G->∀j v,xs[j]?=some v->w.cell? (G.add j)=some v)/\(AG≠[]->∃b off,A=some ⟨b,off,none⟩/\∀j,j<AG.length*es->S b (off+j)):=by
 simp only[Ab]at h;obtain⟨A,c,M,I,J,q⟩:=h;by_cases K:AG=[]
 subst K;exact⟨A,c,[],M,I,J,by simp[B4],by simp,λG _ j v F=>by simp at F,λh=>absurd rfl h⟩;obtain⟨b,off,W,rfl,_,U⟩:=q K;obtain⟨xs,R,k2,k3⟩:=B5.vals _ _ _ (D9.flat.1 U);refine⟨_,c,xs,M,I,J,R,by rw[R.len,K7 E],λG z j v F=>?_,λ_=>⟨b,off,rfl,λj F=>k3 j (by rw[K7 E];exact F)⟩⟩;cases z;rw[J0];exact k2 j v F
theorem wL {t ty Ae:TypeId}{es Bq:Nat}(hT:Dk P t=some (Ae,es,Bq)){AG F:List (List C)}{u us:Value}(hd:Ab x.S w (.sl AG) u)(hr : ∀r∈AG,r.length=es)(hs:Ab x.S w (.sl F) us)(hy : ∀r∈F,r.length=es)(R:F≠[])(Mf : ∀A n c,u=.slice A n c->c<n+F.length/\(A=none->c=0))(J:AG.length+F.length<=maxLen)(hb:(AG.length+F.length)*Bq<=140737488355328) :
 ∃vs cap,(aE #[t,t] ty #[u,us]).run P w=.ok (.slice (some ⟨w.heap.size,0,none⟩) (AG.length+F.length) cap) (w.drew.alloc (.cells vs Ae))/\vs.size=cap*es/\AG.length+F.length<=cap/\cap<=maxLen/\
  B4 x.S w (AG++F).flatten (vs.toList.take ((AG.length+F.length)*es)):=by
 obtain⟨hu,ie,zv,EB,hz,I,K,A0⟩:=JS hT;obtain⟨A,c,xs,rfl,h1,h2,h3,z,h5,h6⟩:=T0 hd hr;obtain⟨B,c',zs,rfl,k1,k2,k3,k4,k5,k6⟩:=T0 hs hy;obtain⟨b,W,rfl,_⟩:=k6 R;have Gs:0<F.length:=Kr.2 R;have U:((AG.length+F.length:Nat):Int)<=9223372036854775807:=by unfold maxLen at J;omega
 obtain⟨HL,GM⟩:=Mf _ _ _ rfl;have JL : ∀E,AG.length+F.length<=grownCap w (AG.length+F.length) E Ae:=λE=>grownCap_ge w _ E Ae
 have M : ∀E,grownCap w (AG.length+F.length) E Ae<=maxLen:=λE=>grownCap_le_maxLen w _ E Ae J
 have key : ∀E,∃vs,vs=xs.toArray++zs.toArray++Builtin.zeroCells zv.cells (grownCap w (AG.length+F.length) E Ae - (AG.length+F.length))/\vs.size=grownCap w (AG.length+F.length) E Ae*es/\B4 x.S w (AG++F).flatten (vs.toList.take ((AG.length+F.length)*es)):=by
  intro E;refine⟨_,rfl,?_,?_⟩;simp only[Array.size_append,uW,size_zeroCells,A0,z,k4,<-Gz];congr 1
  have:=JL E;omega;have:(AG.length+F.length)*es=(xs++zs).length:=by rw[Cp,z,k4,Gz]
  simp only[Pq,Vd];rw[this,List.take_left'];exact h3.append k3;rfl
 cases A with
 | none =>
   have Jh:AG=[]:=by
    by_cases h:AG=[]
    exact h;obtain⟨_,_,h,_⟩:=h6 h;cases h
   subst Jh;obtain rfl:=GM rfl;have hx:xs=[]:=Nr (by simpa using z);subst hx;obtain⟨vs,q,e2,e3⟩:=key 0;have G:=run_append_nil (P:=P) w t ty Ae ie zv hu EB hz ⟨b,W,none⟩ F.length c' zs (by rw[k4,I]) (k5 _ rfl) Gs (by simpa using U) (by rw[K];simp only[BO,Cz]at hb;omega);refine⟨vs,grownCap w F.length 0 Ae,?_,by simpa using e2,by simpa using JL 0,by simpa using M 0,e3⟩;simp only[BO,Cz]at q ⊢;rw[G,q];simp
 | some ad=>obtain⟨vs,q,e2,e3⟩:=key c;have G:=run_append_grow (P:=P) w t ty Ae ie zv hu EB hz ad AG.length c xs (by rw[z,I]) (h5 _ rfl) ⟨b,W,none⟩ F.length c' zs (by rw[k4,I]) (k5 _ rfl) HL U (growslice_fits HL (by rw[K];exact hb));exact⟨vs,_,by rw[G,q],e2,JL c,M c,e3⟩
theorem AD0 {t ty Ae:TypeId}{es Bq:Nat}(G:Dk P t=some (Ae,es,Bq)){A:Option Addr}{n c:Nat}(E:n<=c){us:Value}(hs:Ab x.S w (.sl []) us):(aE #[t,t] ty #[.slice A n c,us]).run P w=.ok (.slice A n c) w:=by
 obtain⟨K,W,q,F,U,J,I,M⟩:=JS G;simp only[Ab]at hs;obtain⟨B,R,rfl,_⟩:=hs;cases A<;>cases B<;>simp[aE,run_underlying K,sizeOf,typeInfo,F,Builtin.lenOf,E,Builtin.firstCells,loadCells,loadCellsFrom,storeCells]
def Cx.grow (x:Cx)(k:Nat)(l:Loc)(m:Nat):Cx:={ dom:=λi=>x.dom i\/i=k,loc:=λi=>if i=k then l else x.loc i,S:=λb j=>x.S b j\/(b=l.b/\j<m) }
theorem Ab.of_flat {S:BF}{W:World}{AG:List (List C)}{es b cap:Nat}(G : ∀r∈AG,r.length=es)(E:AG.length<=cap)(F:cap<=maxLen)(h:B5 S W AG.flatten b 0):Ab S W (.sl AG) (.slice (some ⟨b,0,none⟩) AG.length cap):=by
 simp only[Ab];exact⟨_,cap,rfl,E,F,λ_=>⟨b,0,es,rfl,G,D9.flat.2 h⟩⟩
theorem Good.xi (g:Good S0 w0 x w H)(k:Nat){Ae:TypeId}{es m:Nat}(hk : ∀o,H k=some o->∃ty es E,o=.tok ty es E/\E<m){vs:Array Value}{cap:Nat}(J:vs.size=cap*es){l:List C}(hl:B4 x.S w l (vs.toList.take (m*es)))(Mi:l.length=m*es)(hm:m<=cap) :
 let x':=x.grow k ⟨w.heap.size,cap*es,true,m,false⟩ (m*es)
 Good S0 w0 x' (w.drew.alloc (.cells vs Ae)) (H.set k (.tok Ae es m))/\Ext x x' w (w.drew.alloc (.cells vs Ae))/\B5 x'.S (w.drew.alloc (.cells vs Ae)) l w.heap.size 0:=by
 intro x';have M:Ay w (w.drew.alloc (.cells vs Ae)):=(Ay.refl w).drew.alloc _;have K:(w.drew.alloc (.cells vs Ae)).heap[w.heap.size]?=some (.cells vs Ae (0,0)):=heap_alloc_new w.drew _;have R:Ar x.S x'.S w (w.drew.alloc (.cells vs Ae)):=⟨λ_ _ h=>.inl h,λb j v _ hc=>M.cell hc⟩
 have W:Ext x x' w (w.drew.alloc (.cells vs Ae)):=by
  refine⟨R,λ_ h=>.inl h,λi G=>?_⟩;by_cases e:i=k;subst e;obtain⟨o,q⟩:=g.dom i G;obtain⟨ty,A0,E,rfl,I⟩:=hk o q;obtain⟨_,U,h2,_⟩:=g.ok i _ q;simp only[x',Cx.grow,if_true];exact⟨U.symm,.inr ⟨U,by rw[h2];exact I⟩⟩;simp only[x',Cx.grow,e,if_false];exact FM.refl _
 refine⟨g.H5 k _ W (.FR M) (λi=>RA) (λi G=>by simp[x',Cx.grow,G]) (λ_=>.inr (by simp[x',Cx.grow])) ?_ (λb j h=>?_) (λj hx z=>?_),W,?_⟩;exact⟨by simp[x',Cx.grow],by simp[x',Cx.grow],λ_=>⟨vs,by simp only[x',Cx.grow,if_true];exact K,by simp[x',Cx.grow,J]⟩⟩;rcases h with h|⟨rfl,h⟩
 exact .inl h;refine .inr ⟨by simp,.inl (BN _),λ_ hx=>?_⟩;have:=hx.2.1;omega;simp only[x',Cx.grow,if_true]at z;have:=g.ex _ _ z;omega;refine B5.Pe (B4.mono R _ _ hl) (λj u F=>?_) (λj hj=>.inr ⟨rfl,by rw[Mi]at hj;omega⟩);rw[Cz,cell_of_row _ _ j vs Ae (0,0) K];rw[KO]at F;split at F;simpa using F;cases F
theorem Good.AXv (g:Good S0 w0 x w H)(k:Nat){es n m:Nat}(K:H k=some (.tok Ae es n))(F:(x.loc k).void=false){E:Array Value}(hb:w.heap[(x.loc k).b]?=some (.cells E Ae (0,0)))(Gs:0<m){news:List Value}{l:List C}(IJ:news.length=m*es)(Dz:n*es+m*es<=E.size)(hl:B4 x.S w l (E.toList.take (n*es)++news)):
 let x':=x.grow k ⟨(x.loc k).b,(x.loc k).n,true,n+m,false⟩ ((n+m)*es)
 let w':=w.setRow (x.loc k).b (E.toList.take (n*es)++news++E.toList.drop (n*es+news.length)).toArray
 Good S0 w0 x' w' (H.set k (.tok Ae es (n+m)))/\Ext x x' w w'/\B5 x'.S w' l (x.loc k).b 0:=by
 intro x' w';obtain⟨M,h1,h2,h3⟩:=g.ok k _ K;obtain⟨vs,W,R⟩:=h3 F;rw[hb]at W;cases W;have J:w'.heap[(x.loc k).b]?=some (.cells (E.toList.take (n*es)++news++E.toList.drop (n*es+news.length)).toArray Ae (0,0)):=setRow_heap w _ E _ Ae (0,0) hb;have U:(E.toList.take (n*es)++news++E.toList.drop (n*es+news.length)).toArray.size=E.size:=by
  simp only[uW,Cp,Fa,Ns,FW];omega
 have z:Ar x.S x'.S w w':=by
  refine⟨λ_ _ h=>.inl h,λb j v hS G=>?_⟩;by_cases q:b=(x.loc k).b;subst q;rw[cell_of_row w _ j E Ae (0,0) hb]at G;rw[cell_of_row w' _ j _ Ae (0,0) J];have hj:j<E.size:=(DO.1 G).1;have GN:j<n*es:=by
   rcases MK j (n*es)with h|h
   exact h;exact absurd hS (g.EA k _ j K ⟨F,h,by omega⟩)
  rw[mV,GX,EJ (by simp;omega),KO,if_pos GN];simpa using G;rw[RK (w:=w) (a:=⟨b,j,none⟩) (setRow_other w _ b _ q)];exact G
 have he:Ext x x' w w':=by
  refine⟨z,λ_ h=>.inl h,λi hi=>?_⟩;by_cases e:i=k;subst e;simp only[x',Cx.grow,if_true];exact⟨h1.symm,.inr ⟨h1,by rw[h2];simp only;omega⟩⟩;simp only[x',Cx.grow,e,if_false];exact FM.refl _
 refine⟨g.H5 k _ he ⟨rfl,rfl,rfl,by simp[w'],λi _ R=>setRow_other w _ i _ (λe=>R ⟨M,F,e.symm⟩)⟩ (λi=>RA) (λi hi=>by simp[x',Cx.grow,hi]) (λ_=>.inl ⟨M,F,by simp[x',Cx.grow]⟩) ?_ (λb j h=>?_) (λj I hs=>?_),he,?_⟩;exact⟨by simp[x',Cx.grow],by simp[x',Cx.grow],λ_=>⟨_,by simp only[x',Cx.grow,if_true];exact J,by simp only[x',Cx.grow,if_true];rw[U,R]⟩⟩;rcases h with h|⟨rfl,h⟩
 exact .inl h;refine .inr ⟨by simp[w'];exact(DO.1 hb).1,.inr ⟨M,F,rfl⟩,λ_ I=>?_⟩;have:=I.2.1;omega;simp only[x',Cx.grow,if_true]at hs;refine g.EA k _ j K ⟨F,?_,?_⟩ hs;have:=I.2.1;rw[Gz]at this;omega;have:=I.2.2;simpa [x',Cx.grow]using this;have Mi:l.length=(n+m)*es:=by
  have:=hl.len;rw[Cp,Fa,FW,IJ,Vi (by omega),<-Gz]at this;exact this.symm
 refine B5.Pe (B4.mono z _ _ hl) (λj u hu=>?_) (λj hj=>.inr ⟨rfl,by rw[Mi]at hj;omega⟩);rw[Cz,cell_of_row w' _ j _ Ae (0,0) J,mV,EJ ((Br.1 hu).1)];exact hu
theorem Bx.ABk {k:Nat}{E:O}(h:H k=some E):H.set k E=H:=by
 funext i;unfold Bx.set;split;rename_i e;rw[e,h];rfl
theorem Ty {AG E:List (List C)}(F : ∀r∈AG,r.length=es)(G : ∀r∈E,r.length=es):∀r∈AG++E,r.length=es:=by
 intro r h;rcases List.mem_append.1 h with h|h
 exact F r h;exact G r h
theorem AUu (g:Good S0 w0 x w H){t:TypeId}{y z:Operand}(ho:o.op=.call ⟨.builtin .append,#[y,z],#[t,t]⟩){es Bq:Nat}(hT:Dk P t=some (Ae,es,Bq)){AG G:List (List C)}(hY:CV x w (.Bg AG) (a.eval y))(hZ:Ab x.S w (.sl G) (a.eval z))(J : ∀r∈AG,r.length=es)(W : ∀r∈G,r.length=es)(A0:AG.length+G.length<=maxLen)(hb:(AG.length+G.length)*Bq<=140737488355328)(F:Nat)(hk : ¬x.dom F):
 BW P o a S0 w0 x w H (.gr F es (AG++G)) (some (F,.tok Ae es (AG.length+G.length))):=by
 have hH : ∀M,H F=some M->False:=λM h=>hk (g.ok F M h).1
 simp only[CV]at hY;obtain⟨A,R,U⟩:=hY;by_cases I:G=[]
 subst I;have E:=AD0 (x:=x) (w:=w) (ty:=o.type) hT (A:=A) (BN AG.length) hZ;have K:Ext x (x.grow F ⟨0,0,true,AG.length,true⟩ 0) w w:=⟨⟨λ_ _ h=>.inl h,λ_ _ _ _ h=>h⟩,λ_ h=>.inl h,λi hi=>by
  have:i≠F:=λe=>hk (e ▸ hi)
  simp[Cx.grow,this,FM.refl]⟩
 have q:=g.H5 F (.tok Ae es AG.length) K (.FR (Ay.refl w)) (λi=>RA) (λi hi=>by simp[Cx.grow,hi]) (λh=>by simp[Cx.grow]at h) ⟨by simp[Cx.grow],by simp[Cx.grow],λh=>by simp[Cx.grow]at h⟩ (λb j h=>h.elim .inl λh=>by omega) (λj hx=>by have:=hx.1;simp[Cx.grow]at this);refine⟨_,w,_,.slice A AG.length AG.length,by simp[execOp,ho,resolve,invoke,builtin,R,E],.inl rfl,?_,by simpa [Bx.upd]using q,K,λk h=>h.elim .inl λe=>.inr ⟨.tok Ae es AG.length,by rw[e];rfl⟩,λhb=>by rw[ho]at hb;cases hb⟩;simp only[CV,E5];refine⟨.inr rfl,by simp[Cx.grow],?_,J,by simp[Cx.grow],λ_=>by simp[Cx.grow]⟩;rw[R]at U;exact Ab.mono K.ar _ _ U;have Gs:0<G.length:=Kr.2 I;obtain⟨vs,cap,E,A1,h1,h2,hl⟩:=wL (ty:=o.type) hT U J hZ W I (λA' n c e=>by rw[R]at e;cases e;exact⟨by omega,λhn=>by
  by_cases h:AG=[]
  rw[h];rfl;obtain⟨_,_,_,_,_,_,_,_,_,h6⟩:=T0 U J;obtain⟨b,A2,hb,_⟩:=h6 h;rename_i e1 e2 e3 _ _;rw[R]at *
  cases ‹Value.slice A AG.length AG.length=_›;rw[hn]at hb;cases hb⟩) A0 hb
 obtain⟨q,K,Fh⟩:=g.xi F (λM h=>(hH M h).elim) A1 hl (by rw[K7 (Ty J W),Cp]) h1;refine⟨_,_,_,_,by simp[execOp,ho,resolve,invoke,builtin,E];rfl,.inl rfl,?_,q,K,λk h=>h.elim .inl λe=>.inr ⟨.tok Ae es (AG.length+G.length),by rw[e]⟩,λhb=>by rw[ho]at hb;cases hb⟩;have FH:=Ab.of_flat (cap:=cap) (Ty J W) (by rw[Cp];exact h1) h2 Fh;simp only[CV];rw[Cp]at FH;refine⟨.inr rfl,by simp[Cx.grow],FH,Ty J W,by simp[Cx.grow],λ_=>?_⟩;simp only[Cx.grow,if_true,GW,if_false,Cp];exact⟨cap,rfl,rfl⟩
theorem AUv (g:Good S0 w0 x w H){t:TypeId}{y z:Operand}(ho:o.op=.call ⟨.builtin .append,#[y,z],#[t,t]⟩){es Bq:Nat}(hT:Dk P t=some (Ae,es,Bq)){AG F:List (List C)}{k:Nat}(hY:CV x w (.gr k es AG) (a.eval y))(hZ:Ab x.S w (.sl F) (a.eval z))(B1:0<es)(q : ∀r∈F,r.length=es)(A5:AG.length+F.length<=maxLen)(hb:(AG.length+F.length)*Bq<=140737488355328)(hH:H k=some (.tok Ae es AG.length)):
 BW P o a S0 w0 x w H (.gr k es (AG++F)) (some (k,.tok Ae es (AG.length+F.length))):=by
 have A6:=hY;simp only[CV]at hY;obtain⟨zE,A9,hd,W,B2,K⟩:=hY;obtain⟨_,_,GM,NP⟩:=g.ok k _ hH;have K:=K GM.symm;obtain⟨A,c,xs,M,q1,q2,q3,q4,q5,q6⟩:=T0 hd W;by_cases J:F=[]
 subst J;have E:=AD0 (x:=x) (w:=w) (ty:=o.type) hT (A:=A) q1 hZ;refine⟨_,w,x,.slice A AG.length c,by simp[execOp,ho,resolve,invoke,builtin,M,E],.inl rfl,?_,by simpa [Bx.upd,Bx.ABk hH]using g,Ext.refl _ _,λ_ h=>.inl h,λ_=>rfl⟩;rw[E5,<-M];exact A6;have Gs:0<F.length:=Kr.2 J;have A0:(∀A n c,a.eval y=.slice A n c->c<n+F.length/\(A=none->c=0))->BW P o a S0 w0 x w H (.gr k es (AG++F)) (some (k,.tok Ae es (AG.length+F.length))):=by
  intro Mf;obtain⟨vs,cap,E,I,h1,h2,hl⟩:=wL (ty:=o.type) hT hd W hZ q J Mf A5 hb;obtain⟨g',he,Fh⟩:=g.xi k (Ae:=Ae) (m:=AG.length+F.length) (λob h=>by rw[hH]at h;cases h;exact⟨_,_,_,rfl,by omega⟩) I hl (by rw[K7 (Ty W q),Cp]) h1;refine⟨_,_,_,_,by simp[execOp,ho,resolve,invoke,builtin,E];rfl,.inl rfl,?_,g',he,λk h=>h.elim .inl λe=>.inr ⟨.tok Ae es (AG.length+F.length),by rw[e]⟩,λhb=>by rw[ho]at hb;cases hb⟩;have FH:=Ab.of_flat (cap:=cap) (Ty W q) (by rw[Cp];exact h1) h2 Fh;simp only[CV];rw[Cp]at FH;refine⟨.inr rfl,by simp[Cx.grow],FH,Ty W q,by simp[Cx.grow],λ_=>?_⟩;simp only[Cx.grow,if_true,GW,if_false,Cp];exact⟨cap,rfl,rfl⟩
 cases hv:(x.loc k).void with
 | true =>
   rw[hv]at K;simp only[if_true]at K;obtain⟨A',R⟩:=K;refine A0 λA2 n c2 e=>?_
   rw[R]at e;cases e;refine⟨by omega,λhn=>?_⟩;by_cases h:AG=[]
   rw[h];rfl;obtain⟨b,A3,CT,_⟩:=q6 h;rw[R]at M;cases M;rw[hn]at CT;cases CT
 | false =>
   rw[hv]at K;simp only[GW,if_false]at K;obtain⟨cap,R,FX⟩:=K;by_cases G:AG.length+F.length<=cap;obtain⟨Te,ie,zv,EB,hz,I,B0,B3⟩:=JS hT;obtain⟨U,FF,A8⟩:=NP hv;obtain⟨B,c',zs,VE,k1,k2,k3,k4,k5,k6⟩:=T0 hZ q;obtain⟨b,A3,rfl,_⟩:=k6 J;have A1:(AG.length+F.length)*es<=cap*es:=Vj _ G;rw[Gz]at A1;have E:=run_append_room (P:=P) w t o.type Ae ie Te EB (x.loc k).b AG.length cap U FF ⟨b,A3,none⟩ F.length c' zs (by rw[k4,I]) (k5 _ rfl) k3.ones G (by rw[I,k4];omega);rw[I]at E;have zt:U.toList.take (AG.length*es)=xs:=by
    apply List.ext_getElem?;intro j;rw[KO];rw[R]at M;cases M;split;rename_i hj;have jt:j<xs.length:=by omega
    have:=q5 _ rfl j xs[j] (BE jt);rw[J0,Cz,cell_of_row w _ j U Ae (0,0) FF]at this;rw[BE jt];simpa using this;rw[M6 (by omega)]
   obtain⟨g',he,Fh⟩:=g.AXv k hH hv FF Gs (news:=zs) (l:=(AG++F).flatten) k4 (by omega) (by rw[zt,Vd];exact q3.append k3);refine⟨_,_,_,_,by simp[execOp,ho,resolve,invoke,builtin,R,VE,E];rfl,.inl rfl,?_,g',he,λk h=>h.elim .inl λe=>.inr ⟨.tok Ae es (AG.length+F.length),by rw[e]⟩,λhb=>by rw[ho]at hb;cases hb⟩;have A7:cap<=maxLen:=by rw[R]at M;cases M;exact q2
   have FH:=Ab.of_flat (cap:=cap) (Ty W q) (by rw[Cp];exact G) A7 Fh;simp only[CV];rw[Cp]at FH;refine⟨.inr rfl,by simp[Cx.grow],FH,Ty W q,by simp[Cx.grow],λ_=>?_⟩;simp only[Cx.grow,if_true,GW,if_false,Cp];exact⟨cap,rfl,FX⟩;refine A0 λA2 n c2 e=>?_
   rw[R]at e;cases e;exact⟨by omega,λhn=>by cases hn⟩
end
section
variable {P:Program} {S0:BF} {w0:Bs} {x:Cx} {w:World} {H:Bx} {a:Act} {o:Oper} {e:Operand->V} {v:V}
def P2 (P:Program)(e:Operand->V)(op:Op):Pl:=
 match op with
 | .call ⟨.builtin .append,args,Fk⟩=>match args.toList,Fk.toList with
   | [y,z],[t,t']=>if t=t' then wD P t (e y) (e z)else .fail
   | _,_=>.fail
 | op=>oV P e op
theorem Ow {q:Option V}{E:Nat}{t:Option (Nat×O)}(h:(Mv q).ap H E=some (v,t)):q=some v/\t=none:=by
 cases q with
 | none=>cases h
 | some y=>simp only[Mv,Pl.ap,BL,Cr]at h;exact⟨by rw[h.1],h.2.symm⟩
theorem toList_one {α:Type}{l:Array α}{y:α}(h:l.toList=[y]):l=#[y]:=by apply Gx.1;simpa using h
theorem toList_two {α:Type}{l:Array α}{y z:α}(h:l.toList=[y,z]):l=#[y,z]:=by apply Gx.1;simpa using h
theorem oW (g:Good S0 w0 x w H)(F : ∀y∈o.op.operands.toList,CV x w (e y) (a.eval y)){k0:Nat}{t:Option (Nat×O)}(hk : ∀ob,t=some (k0,ob)->¬x.dom k0)(h:(P2 P e o.op).ap H k0=some (v,t)):BW P o a S0 w0 x w H v t:=by
 have A2 : ∀ {y:Operand},o.op.operands.toList=[y]->(execOp a.eval o).run P w=.ok (.value (a.eval y)) w->BW P o a S0 w0 x w H (e y) none:=λI hr=>BW.pure g hr (F _ (by rw[I];simp))
 unfold P2 at h;split at h
 .
   rename_i args Fk E;split at h;rename_i y z t1 t2 ha ht;have A0:=toList_two ha;have Wq:=toList_two ht;subst A0 Wq;split at h;rename_i A5;subst A5;have G:=F y (by simp[E,Bl,Df]);have M:=F z (by simp[E,Bl,Df]);unfold wD at h;split at h;rename_i ys Ae es Bq rP hT;have hZ:=tT rP M;split at h;rename_i J;obtain⟨A6,W⟩:=J;split at h;rename_i AG hX;rw[hX]at G;split at h;rename_i J;simp only[Pl.ap,BL,Cr]at h;obtain⟨rfl,rfl⟩:=h;exact AUu g E hT G hZ (wG J.1) (wG W) J.2.1 J.2.2 k0 (hk _ rfl);cases h;rename_i k B0 AG hX;rw[hX]at G;split at h;rename_i J;obtain⟨rfl,HL,GM⟩:=J;simp only[Pl.ap]at h;split at h;rename_i ob hH;split at h;rename_i o' v' K;simp only[BL,Cr]at h;obtain⟨rfl,rfl⟩:=h;split at K;split at K;rename_i A1;obtain⟨rfl,rfl,rfl⟩:=A1;simp only[BL,Cr]at K;obtain⟨rfl,rfl⟩:=K;exact AUv g E hT G hZ A6 (wG W) HL GM hH;cases K;cases K;cases h;cases h;cases h;cases h;cases h;cases h;cases h;cases h
 .
   rename_i op B1;unfold oV at h;split at h;rename_i y E;simp only[Pl.ap,BL,Cr]at h;obtain⟨rfl,rfl⟩:=h;exact A2 (by simp[E,Bl]) (by simp[execOp,E]);rename_i y E;simp only[Pl.ap,BL,Cr]at h;obtain⟨rfl,rfl⟩:=h;exact A2 (by simp[E,Bl]) (by simp[execOp,E]);rename_i c y z E;split at h;rename_i b hb;simp only[Pl.ap,BL,Cr]at h;obtain⟨rfl,rfl⟩:=h;have J:=F c (by simp[E,Bl]);rw[hb]at J;simp only[CV,Ab]at J;have G:=F y (by simp[E,Bl]);have M:=F z (by simp[E,Bl]);refine BW.pure g (u:=if b then a.eval y else a.eval z) (by simp[execOp,E,J,asBool]) ?_;cases b;simpa using M;simpa using G;cases h;rename_i ty E;split at h;rename_i z M;simp only[Pl.ap,BL,Cr]at h;obtain⟨rfl,rfl⟩:=h;exact AAq g E M k0 (hk _ rfl);cases h;rename_i ty y E;split at h;rename_i hf;simp only[Pl.ap,BL,Cr]at h;obtain⟨rfl,rfl⟩:=h;exact AAr g E (F y (by simp[E,Bl])) hf k0 (hk _ rfl);cases h;rename_i t' parts E;split at h;rename_i z pl M A7;split at h;rename_i cs A3;simp only[Pl.ap,BL,Cr]at h;obtain⟨rfl,rfl⟩:=h;exact AIu g E (λp R=>F p.2 (by simp only[E,Bl];exact Da.2 ⟨p,R,rfl⟩)) M A7 A3;cases h;cases h;rename_i t' len parts E;split at h;rename_i Ae es Bq hT;split at h;rename_i J;split at h;rename_i AG Y1;simp only[Pl.ap,BL,Cr]at h;obtain⟨rfl,rfl⟩:=h;exact AUz g E (λp R=>F p.2 (by simp only[E,Bl];exact Da.2 ⟨p,R,rfl⟩)) hT J.1 J.2.1 J.2.2 Y1;cases h;cases h;cases h;rename_i t' y E;have G:=F y (by simp[E,Bl]);split at h;rename_i q k S hq R;rw[R]at G;simp only[Pl.ap]at h;split at h;rename_i ob hH;split at h;rename_i v' K;simp only[BL,Cr]at h;obtain⟨rfl,rfl⟩:=h;split at K;exact AVE g E hq G hH K;cases K;cases h;cases h;rename_i q row S hq R;rw[R]at G;obtain⟨I,rfl⟩:=Ow h;exact AVC g E hq G I;cases h;rename_i t' y z E;have G:=F y (by simp[E,Bl]);have M:=F z (by simp[E,Bl]);split at h;rename_i q k S hq R;rw[R]at G;simp only[Pl.ap]at h;split at h;rename_i ob hH;split at h;rename_i o' v' K;simp only[BL,Cr]at h;obtain⟨rfl,rfl⟩:=h;split at K;split at K;rename_i J;simp only[BL,Cr]at K;obtain⟨rfl,rfl⟩:=K;exact AAs g E hq G M hH J.1 J.2.1 J.2.2;cases K;cases K;cases h;cases h;cases h;rename_i y E;have G:=F y (by simp[E,Bl]);split at h;rename_i k S R;rw[R]at G;simp only[Pl.ap,BL,Cr]at h;obtain⟨rfl,rfl⟩:=h;have Wu:=G;simp only[CV]at G;exact BW.pure g (u:=a.eval y) (by simp[execOp,E,G.2.2]) Wu;rename_i row S R;rw[R]at G;simp only[Pl.ap,BL,Cr]at h;obtain⟨rfl,rfl⟩:=h;have Wu:=G;simp only[CV]at G;obtain⟨b,I5,G,_⟩:=G;exact BW.pure g (u:=a.eval y) (by simp[execOp,E,G]) Wu;cases h;rename_i A9 ty y z B2 E;obtain⟨I,rfl⟩:=Ow h;exact AUy g E (F y (by simp[E,Bl])) (F z (by simp[E,Bl])) I;rename_i B3 ty y E;obtain⟨I,rfl⟩:=Ow h;exact AVR g E (F y (by simp[E,Bl])) I;rename_i s d y E;split at h;rename_i q hq;obtain⟨I,rfl⟩:=Ow h;refine AU0 g ?_ E (F y (by simp[E,Bl])) I;unfold B6 at hq;cases hu:P.underlying s with
   | none=>simp[hu]at hq
   | some ds=>exact⟨ds,rfl⟩
   cases h;rename_i f first U E
   split at h;rename_i hf;simp only[Pl.ap,BL,Cr]at h;obtain⟨rfl,rfl⟩:=h;have jl:first=#[]:=Array.eq_empty_of_size_eq_zero hf
   subst jl;refine BW.pure g (u:=.func (.func f) #[] (U.map a.eval)) (by simp[execOp,E,Instr.makeFunc]) ?_;simp only[CV];refine⟨_,rfl,?_⟩;have:=AO.of_map (x:=x) (w:=w) (e:=e) (a:=a) (l:=U.toList) (λy G=>F y (by simp[E,Bl];simpa using G));simpa using this;cases h;rename_i t' y z E;have G:=F y (by simp[E,Bl]);have M:=F z (by simp[E,Bl]);split at h;rename_i Ae es Bq k l k' c hT hl J;split at h;rename_i zl A8;split at h;rename_i A1;obtain⟨rfl,h0,I,h2⟩:=A1;simp only[Pl.ap,BL,Cr]at h;obtain⟨rfl,rfl⟩:=h;rw[hl]at G;rw[J]at M;exact AVG g E hT G M A8 h0 I h2 k0 (hk _ rfl);cases h;cases h;cases h;rename_i t' y lo hi E;obtain⟨I,rfl⟩:=Ow h;exact ok_slice g E (F y (by simp[E,Bl])) (λz M=>F z (by simp[E,Bl,M])) (λz M=>F z (by simp[E,Bl,M])) I;rename_i s y f E;obtain⟨I,rfl⟩:=Ow h;exact AU4 g E (F y (by simp[E,Bl])) I;rename_i s y f E;have G:=F y (by simp[E,Bl]);split at h;rename_i S n ag l hf hl;obtain⟨I,rfl⟩:=Ow h;rw[hl]at G;exact AU3 g E hf G I;cases h;rename_i t' y z E;obtain⟨I,rfl⟩:=Ow h;exact AU9 g E (F y (by simp[E,Bl])) (F z (by simp[E,Bl])) I;rename_i t' y z E;obtain⟨I,rfl⟩:=Ow h;exact AU8 g E (F y (by simp[E,Bl])) (F z (by simp[E,Bl])) I;rename_i y i E;have G:=F y (by simp[E,Bl]);split at h;rename_i l hl;obtain⟨I,rfl⟩:=Ow h;rw[hl]at G;simp only[CV]at G;obtain⟨vs,G,hl⟩:=G;obtain⟨u,k1,k2⟩:=hl.get i v I;have:vs[i]?=some u:=by simpa using k1
   exact BW.pure g (u:=u) (by simp[execOp,E,G,Instr.extract,this]) k2;cases h;rename_i args Fk E;split at h;rename_i y t1 ha ht;have A0:=toList_one ha;have Wq:=toList_one ht;subst A0 Wq;obtain⟨I,rfl⟩:=Ow h;exact AVA g E (F y (by simp[E,Bl,Df])) I;cases h;rename_i args Fk E;obtain⟨I,rfl⟩:=Ow h;exact AIz g (.inl ⟨rfl,rfl⟩) E (λy G=>F y (by simp[E,Bl,Df];simpa using G)) I;rename_i args Fk E;obtain⟨I,rfl⟩:=Ow h;exact AIz g (.inr ⟨rfl,rfl⟩) E (λy G=>F y (by simp[E,Bl,Df];simpa using G)) I;cases h
end
def Pb (l:List Oper):Bool:=l.all λo=>match o.op with | .defer _=>false|_=>true
theorem AIi {l:List Oper}(h:Pb l=true){o:Oper}(ho:o∈l)(c:Call):o.op≠.defer c:=by
 intro e;unfold Pb at h;rw[ES]at h;have:=h o ho;rw[e]at this;cases this
def ADj (K:Act->World->Prop):Exit->Act->World->Prop
 | .normal,a,w=>K a w
 | _,_,_=>False
theorem AVW (K:Act->World->Prop):¬LetsOut (ADj K):=λ⟨_,_,h⟩=>h
section
variable {P:Program} {Q:Exit->Act->World->Prop} {lp n:Nat}
theorem AX7 {row:String}{args:Array Value}{R:Value->World->Prop}(h:Rows P row args w R):RowsIn (Cg.inRound lp) n P row args w R:=λc E _ =>
 let ⟨v,w',r,s⟩:=h c E
 ⟨v,w',r,stepsIn_wide.2 s⟩
theorem dm {o:Oper}{a:Act}{K:Act->World->Prop}(E : ∀c,o.op≠.defer c)(h:o.wp P a w K Q):o.wpIn (Cg.inRound lp) n P a w K Q:=by
 refine⟨λ_ _=>trivial,?_⟩;rw[show (Cg.inRound lp).round=some lp from rfl,Oper.semAt_some lp _ _ E];unfold Er at h;generalize (execOp a.eval o).run P w=r at h ⊢;cases r with
 | ok x w' =>
   cases x<;>simp only[Nt,ue]at h ⊢<;>
    first
     | exact h
     | exact h.elim
     | exact⟨λe=>(by cases e),CallsIn.inRound lp (callsIn_wide.2 h)⟩
     | exact⟨λe=>(by cases e),AX7 h⟩
 | halt x w'=>cases x<;>simp only[Nt,ue]at h ⊢<;>exact h
theorem AUJ {ops:Array Oper}(I : ¬LetsOut Q):∀(r:List Oper) (a:Act) (w:World),Pb r=true->wpList P ops Q r a w->wpListIn (Cg.inRound lp) n P ops Q r a w:=by
 intro r;induction r with
 | nil=>intro a w _ h;exact h
 | cons o r ih =>
   intro a w E h;have G:Pb r=true:=by unfold Pb at E ⊢;simp only[List.all_cons,Ak]at E;exact E.2
   simp only[wpList,wpListIn]at h ⊢;split;rename_i F;rw[if_pos F]at h;refine dm (AIi E (by simp)) (mo (λa w=>ih a w G) (h.resolve_right λh=>I h.2));rename_i F;rw[if_neg F]at h;exact⟨λ_ _=>trivial,ih _ _ G h⟩
theorem ANO {l:List Oper}(J : ¬LetsOut Q)(K:Pb l=true):∀(F:Nat) (E:Array Bool) (a:Act) (w:World),wpAny P .any l.toArray Q F E a w->wpAnyIn (Cg.inRound lp) n P .any l.toArray Q F E a w:=by
 intro F;induction F with
 | zero=>intro E a w h;exact h
 | succ F ih =>
   intro E a w h;refine⟨h.1,λi M=>?_⟩;have h:=h.2 i M;unfold wpOp at h;unfold wpOpIn;cases G:l.toArray[i]? with
   | none=>rw[G]at h;exact ih _ _ _ h
   | some o=>rw[G]at h;simp only at h ⊢;have R:o∈l:=Cj (i:=i) (by simpa using G);split;rename_i I;rw[if_pos I]at h;exact dm (AIi K R) (mo (λa w=>ih _ a w) (h.resolve_right λh=>J h.2));rename_i I;rw[if_neg I]at h;exact⟨λ_ _=>trivial,ih _ _ _ h⟩
end
section
structure St where
 t:List V
 h:List O
def St.put (s:St)(d:Option Tmp)(v:V):St:=
 match d with
 | some d=>{ s with t:=s.t.set d v }
 | none=>s
def Bk (h:List O):Option (Nat×O)->List O
 | none=>h
 | some (k,o)=>if k<h.length then h.set k o else h++[o]
structure Bo (S0:BF)(w0:Bs)(x:Cx)(s:St)(a:Act)(w:World):Prop where
 good:Good S0 w0 x w (λk=>s.h[k]?)
 tm:AO x w s.t a.tmps.toList
 df:Marks w0 a.defers w
variable {P:Program} {S0:BF} {w0:Bs} {x:Cx} {w:World} {a:Act} {o:Oper} {v:V} {s:St}
theorem Bo.fresh (h:Bo S0 w0 x s a w):¬x.dom s.h.length:=λE=>by
 obtain⟨o,F⟩:=h.good.dom _ E;simp at F
theorem Kj (h:List O)(t:Option (Nat×O))(J : ∀k o,t=some (k,o)->k<=h.length):(λk=>(Bk h t)[k]?)=Bx.upd (λk=>h[k]?) t:=by
 cases t with
 | none=>rfl
 | some p =>
   obtain⟨k,o⟩:=p;have K:=J k o rfl;funext i;simp only[Bk,Bx.upd,Bx.set];by_cases E:k<h.length;rw[if_pos E,RD];by_cases e:k=i;subst e;simp[E];have I : ¬i=k:=λh=>e h.symm
   simp[e,I];rw[if_neg E];have G:k=h.length:=by omega
   subst G;by_cases e:i=h.length;subst e;simp;simp only[e,if_false];rcases MK i h.length with F|F
   rw[EJ F];rw[M6 (by simp;omega),M6 F]
theorem AJ7 (a:Act)(d:Option Tmp)(u:Value):(a.put d u).tmps.toList=match d with|some d=>a.tmps.toList.set d u|none=>a.tmps.toList:=by
 cases d<;>simp[Act.put]
theorem Bo.put {E:List O}{x':Cx}{w':World}(h:AO x w s.t a.tmps.toList)(G:Marks w0 a.defers w')(I:Ext x x' w w')(g:Good S0 w0 x' w' (λk=>E[k]?))(J:CV x' w' v u)(d:Option Tmp):Bo S0 w0 x' (St.put { s with h:=E } d v) (a.put d u) w':=by
 have F:=AO.mono I _ _ h;cases d with
 | none=>exact⟨g,F,G⟩
 | some d=>exact⟨g,by rw[AJ7];exact F.set d J,G⟩
theorem oZ {H:List O}{p:Pl}{t:Option (Nat×O)}(h:p.ap (λk=>H[k]?) H.length=some (v,t)):∀k o,t=some (k,o)->k<=H.length:=by
 intro k o F;subst F;cases p with
 | fail=>cases h
 | val v=>simp[Pl.ap]at h
 | rd k g=>simp only[Pl.ap]at h;split at h<;>(try split at h)<;>simp at h
 | wr i g =>
   simp only[Pl.ap]at h;split at h;rename_i G E;split at h;simp only[BL,Cr]at h;obtain⟨_,rfl,_⟩:=h;exact Nat.le_of_lt (Br.1 E).1;cases h;cases h
 | new o mk=>simp only[Pl.ap,BL,Cr]at h;omega
def Cx.bare (S:BF):Cx:={ dom:=λ_=>False,loc:=λ_=>⟨0,0,false,0,false⟩,S:=S }
def AC (P:Program)(f:FuncId)(args:List V)(res:V):Prop:=
 ∀(S:BF) (w:World) (us:List Value),(∀b j,S b j->b<w.heap.size)->AO (Cx.bare S) w args us->
  Calls P f us.toArray w λr w'=>∃u S',r=.returned u/\Ay w w'/\Ar S S' w w'/\(∀b j,S' b j->S b j\/(w.heap.size<=b/\b<w'.heap.size))/\CV (Cx.bare S') w' res u
mutual
def V.CP:V->Option V
 | .c d=>some (.c d)
 | .Bg r=>some (.c (.sl r))
 | .gr _ _ r=>some (.c (.sl r))
 | .cp row off=>some (.cp row off)
 | .agg l=>(V.CF l).map V.agg
 | .A7 l=>(V.CF l).map V.A7
 | .fn f caps=>(V.CF caps).map (V.fn f)
 | .any=>some .any
 | .ptr _ _=>none
 | .own _ _ _ _=>none
 | .Be _ _ _=>none
 | .hp _ _ _=>none
 | .yl l=>some (.yl l)
 | .mp _=>none
def V.CF:List V->Option (List V)
 | []=>some []
 | v::l=>match V.CP v,V.CF l with
   | some y,some r=>some (y::r)
   | _,_=>none
end
mutual
theorem SL {x:Cx}{w:World} : ∀(v F:V) (u:Value),V.CP v=some F->CV x w v u->CV (Cx.bare x.S) w F u
 | .c c,F,u,h,E=>by simp only[V.CP,BL]at h;subst h;simpa only[CV,Cx.bare]using E
 | .Bg r,F,u,h,E=>by simp only[V.CP,BL]at h;subst h;simp only[CV]at E ⊢;obtain⟨_,_,E⟩:=E;exact E
 | .gr k es r,F,u,h,E=>by simp only[V.CP,BL]at h;subst h;simp only[CV]at E ⊢;exact E.2.2.1
 | .cp row I,F,u,h,E=>by simp only[V.CP,BL]at h;subst h;simpa only[CV,Cx.bare]using E
 | .agg l,F,u,h,E=>by
   simp only[V.CP,Ia]at h;obtain⟨r,h,rfl⟩:=h;simp only[CV]at E ⊢;obtain⟨vs,e,E⟩:=E;exact⟨vs,e,MC l r _ h E⟩
 | .A7 l,F,u,h,E=>by
   simp only[V.CP,Ia]at h;obtain⟨r,h,rfl⟩:=h;simp only[CV]at E ⊢;obtain⟨vs,e,E⟩:=E;exact⟨vs,e,MC l r _ h E⟩
 | .fn f G,F,u,h,E=>by
   simp only[V.CP,Ia]at h;obtain⟨r,h,rfl⟩:=h;simp only[CV]at E ⊢;obtain⟨vs,e,E⟩:=E;exact⟨vs,e,MC G r _ h E⟩
 | .any,F,u,h,_=>by simp only[V.CP,BL]at h;subst h;simp only[CV]
 | .ptr _ _,_,_,h,_=>by simp[V.CP]at h
 | .own _ _ _ _,_,_,h,_=>by simp[V.CP]at h
 | .Be _ _ _,_,_,h,_=>by simp[V.CP]at h
 | .hp _ _ _,_,_,h,_=>by simp[V.CP]at h
 | .yl l,F,u,h,E=>by simp only[V.CP,BL]at h;subst h;simpa only[CV]using E
 | .mp _,_,_,h,_=>by simp[V.CP]at h
theorem MC {x:Cx}{w:World} : ∀(l F:List V) (us:List Value),V.CF l=some F->AO x w l us->AO (Cx.bare x.S) w F us
 | [],F,us,h,E=>by simp only[V.CF,BL]at h;subst h;simpa only[AO]using E
 | v::l,F,us,h,E=>by
   simp only[AO]at E;obtain⟨u,G,rfl,I,J⟩:=E;unfold V.CF at h;split at h;rename_i y r M K;cases h;simp only[AO];exact⟨u,G,rfl,SL v y u M I,MC l r G K J⟩;cases h
end
def V.tR:V->V
 | .c (.EV f)=>.fn f []
 | v=>v
theorem Pp {x:Cx}{w:World}{v:V}(h:CV x w v u):CV x w v.tR u:=by
 unfold V.tR;split;simp only[CV,Ab]at h;simp only[CV,AO];exact⟨#[],h,rfl⟩;exact h
def C7 (e:Operand->V):Op->Option (FuncId×List V)
 | .call ⟨.value f,args,_⟩=>match (e f).tR with
   | .fn f caps=>some (f,args.toList.map e++caps)
   | _=>none
 | _=>none
def iE (P:Program)(f:FuncId)(args:List V)(K:V->Prop):Prop:=∃Bd res,V.CF args=some Bd/\AC P f Bd res/\(∃fn,P.funcs[f]?=some fn/\fn.body.isSome=true/\fn.name≠ "runtime.NumGoroutine")/\K res
def S9 (ops:List Oper)(t:List V)(o:Oper)(K1 K2:Prop):Prop:=
 match o.guard with
 | none=>K1
 | some (j,want)=>match (ops[j]?).bind (·.dst)with
   | some d=>match t.getD d .any with
     | .c (.bool b)=>(b=want->K1)/\(b=(!want)->K2)
     | .A7 []=>K2
     | _=>False
   | none=>False
def RP (P:Program)(o:Oper)(s:St)(K:V->Option (Nat×O)->Prop):Prop:=
 match C7 (ev s.t) o.op with
 | some (f,args)=>iE P f args λv=>K v none
 | none=>match (P2 P (ev s.t) o.op).ap (λk=>s.h[k]?) s.h.length with
   | some (v,t)=>K v t
   | none=>False
def St.step (s:St)(d:Option Tmp)(v:V)(t:Option (Nat×O)):St:=St.put { s with h:=Bk s.h t } d v
def Eg (P:Program)(ops:List Oper)(K:St->Prop):List Oper->St->Prop
 | [],s=>K s
 | o::r,s=>S9 ops s.t o (RP P o s λv t=>Eg P ops K r (s.step o.dst v t)) (Eg P ops K r (s.put o.dst (.A7 [])))
theorem KR {ops:List Oper}{K1 K2:Prop}(U:AO x w s.t a.tmps.toList)(h:S9 ops s.t o K1 K2):(FB o (yielded ops.toArray a.tmps)=true->K1)/\(FB o (yielded ops.toArray a.tmps)≠true->K2):=by
 unfold S9 at h;unfold FB;cases S:o.guard with
 | none=>rw[S]at h;simp only at h ⊢;exact⟨λ_=>h,λh=>absurd rfl h⟩
 | some p =>
   obtain⟨j,F⟩:=p;rw[S]at h;simp only at h ⊢;split at h
   . rename_i d R;split at h
     . rename_i b K;have E:=U.getD d undef;rw[K]at E;simp only[CV,Ab]at E;have M:yielded ops.toArray a.tmps j=some b:=by
        unfold yielded;have:(ops.toArray[j]?).bind (·.dst)=some d:=by simpa using R
        rw[this];have I:a.tmps[d]?=some (.bool b):=by
         rw[Bv]at E;cases G:a.tmps.toList[d]? with
         | none=>rw[G]at E;cases E
         | some y=>rw[G]at E;simp only[Dm]at E;subst E;simpa using G
        simp[I]
       rw[M];refine⟨λJ=>h.1 (by simpa using J),λJ=>h.2 ?_⟩;have:b≠F:=λe=>J (by rw[e];simp)
       cases b<;>cases F<;>simp_all
     rename_i K;have E:=U.getD d undef;rw[K]at E;simp only[CV]at E;obtain⟨vs,E,_⟩:=E;have M:yielded ops.toArray a.tmps j=none:=by
      unfold yielded;have:(ops.toArray[j]?).bind (·.dst)=some d:=by simpa using R
      rw[this];have I:a.tmps[d]?=none\/a.tmps[d]?=some (.tuple vs):=by
       rw[Bv]at E;cases G:a.tmps.toList[d]? with
       | none=>left;simpa using G
       | some y=>rw[G]at E;simp only[Dm]at E;subst E;right;simpa using G
      rcases I with I|I<;>simp[I]
     rw[M];exact⟨λJ=>by simp at J,λ_=>h⟩;exact h.elim
   exact h.elim
theorem ld (x:Cx)(w:World):CV x w (.A7 []) undef:=by
 simp only[CV];exact⟨#[],rfl,by simp only[AO]⟩
theorem Ub (S:BF)(x:Cx)(w:World):Ext (Cx.bare S) { x with S:=S } w w:=⟨Ar.refl _ _,λ_ h=>h.elim,λ_ h=>h.elim⟩
theorem AEb (R:Bo S0 w0 x s a w){f:FuncId}{args:List V}(E:C7 (ev s.t) o.op=some (f,args)){K:V->Prop}(h:iE P f args K)(hn : ∀v u G w',K v->Ay w w'->Ar x.S G w w'->(∀b j,G b j->x.S b j\/(w.heap.size<=b/\b<w'.heap.size))->CV (Cx.bare G) w' v u->next (a.put o.dst u) w'):o.wp P a w next Q:=by
 obtain⟨Bd,res,hp,q,⟨fn,Ff,W,U6⟩,hK⟩:=h;unfold C7 at E;split at E
 case h_2=>cases E
 rename_i fo I Fk ho;split at E
 case h_2=>cases E
 rename_i f' J hf;simp only[BL,Cr]at E;obtain⟨rfl,rfl⟩:=E;have F:=Pp (CW R.tm fo);rw[hf]at F;simp only[CV]at F;obtain⟨vs,F,EP⟩:=F;have Hw:AO x w (I.toList.map (ev s.t)++J) (I.toList.map a.eval++vs.toList):=(AO.of_map λy _=>CW R.tm y).append EP;have:=q x.S w _ R.good.ex (MC _ _ _ hp Hw);have hb:fn.body≠none:=by intro e;rw[e]at W;cases W
 have M:(execOp a.eval o).run P w=.ok (.enter f' (I.toList.map a.eval++vs.toList).toArray) w:=by
  have e1:(I.map a.eval++vs)=(I.toList.map a.eval++vs.toList).toArray:=by apply Gx.1;simp
  simp[execOp,ho,resolve,F,Deferred.ofValue,invoke,callFunc,program,HW,Ff,U6,hb,e1]
 unfold Er;rw[M];refine this.mono ?_;rintro r w' ⟨u,G,rfl,Gb,z,Gc,U⟩;exact hn res u G w' hK Gb z Gc U
theorem AOA (I:Bo S0 w0 x s a w){f:FuncId}{args:List V}(W:C7 (ev s.t) o.op=some (f,args)){K:V->Prop}(h:iE P f args K)(z : ∀v u x' w',K v->Good S0 w0 x' w' (λk=>s.h[k]?)->Ext x x' w w'->NC w w'->CV x' w' v u->next (a.put o.dst u) w'):o.wp P a w next Q:=AEb I W h λv u G w' U F J M E=>by
 obtain⟨R,q⟩:=I.good.MF (x':={ x with S:=G }) F J rfl rfl M;exact z v u _ w' U R q (.FR F) (CV.mono (Ub G x w') _ _ E)
theorem wH (F:Bo S0 w0 x s a w){K:V->Option (Nat×O)->Prop}(h:RP P o s K)(R : ∀v t u x' w',K v t->Good S0 w0 x' w' (λk=>(Bk s.h t)[k]?)->Ext x x' w w'->NC w w'->CV x' w' v u->next (a.put o.dst u) w'):o.wp P a w next Q:=by
 unfold RP at h;split at h;rename_i f args W;exact AOA F W h λv u x' w' U g J M z=>R v none u x' w' U g J M z
 split at h;rename_i v t G;obtain⟨nx,w',x',u,q,S,I,E,J,_⟩:=oW F.good.XR (λy _=>CW F.tm y) (λ_ _=>F.fresh) G;rw[<-Kj _ _ (oZ G)]at E;obtain⟨E,M⟩:=F.good.Sg J E;unfold Er;rw[q];rcases S with rfl|⟨rfl,rfl⟩
 exact R v t u x' w' h E J M I;exact R v t undef x' w' h E J M I;exact h.elim
theorem wJ {ops:List Oper}{K:St->Prop}{Q:Exit->Act->World->Prop}(F : ∀x s a w,K s->Bo S0 w0 x s a w->Q .normal a w):∀(l:List Oper) (x:Cx) (s:St) (a:Act) (w:World),Eg P ops K l s->Bo S0 w0 x s a w->wpList P ops.toArray Q l a w
 | [],x,s,a,w,h,E=>F x s a w h E
 | o::r,x,s,a,w,h,E=>by
   unfold Eg at h;obtain⟨J,M⟩:=KR E.tm h;unfold wpList;split;rename_i G;refine .inl (wH E (J G) λv t u x' w' R g S I U=>?_);exact wJ F r x' _ _ w' R (Bo.put E.tm (E.df.mono I) S g U o.dst);rename_i G;refine wJ F r x _ _ w (M G) ?_;exact Bo.put (v:=.A7 []) (u:=undef) E.tm E.df (Ext.refl x w) E.good (ld x w) o.dst
theorem ANQ {K:V->Option (Nat×O)->Prop}(h:RP P o s K)(c:Call):o.op≠.defer c:=by
 intro e;unfold RP at h;rw[e]at h;simp[C7,P2,oV,Pl.ap]at h
theorem wK {lp n:Nat}{ops:List Oper}{K:St->Prop}{Q:Exit->Act->World->Prop}(G : ∀x s a w,K s->Bo S0 w0 x s a w->Q .normal a w):∀(l:List Oper) (x:Cx) (s:St) (a:Act) (w:World),Eg P ops K l s->Bo S0 w0 x s a w->wpListIn (Cg.inRound lp) n P ops.toArray Q l a w
 | [],x,s,a,w,h,E=>G x s a w h E
 | o::r,x,s,a,w,h,E=>by
   unfold Eg at h;obtain⟨I,M⟩:=KR E.tm h;unfold wpListIn;split;rename_i F;refine dm (ANQ (I F)) (wH E (I F) λv t u x' w' R g S J U=>?_);exact wK G r x' _ _ w' R (Bo.put E.tm (E.df.mono J) S g U o.dst);rename_i F;refine⟨λ_ _=>trivial,wK G r x _ _ w (M F) ?_⟩;exact Bo.put (v:=.A7 []) (u:=undef) E.tm E.df (Ext.refl x w) E.good (ld x w) o.dst
structure Mo where
 rd:Option Nat
 n0:Nat
def fz (m:Mo):Fence:=match m.rd with
 | none=>Cg
 | some l=>Cg.inRound l
variable {m:Mo}
def AW (m:Mo)(P:Program)(c:Code)(K:Exit->St->Prop)(s:St):Prop:=
 ∀(n:Nat) (S0:BF) (w0:Bs) (x:Cx) (a:Act) (w:World),w0.n0<=m.n0->Bo S0 w0 x s a w->c.wpIn (fz m) n P (λe a w=>∃x s,Bo S0 w0 x s a w/\K e s) a w
def NH (n:St->Prop)(K:Exit->St->Prop):Exit->St->Prop
 | .normal,s=>n s
 | e,s=>K e s
def Sz (id:Nat)(K:Exit->St->Prop):Exit->St->Prop
 | .exit i,s=>if i=id then K .normal s else K (.exit i) s
 | e,s=>K e s
def AND (P:Prop)(Q:Prop):V->Prop
 | .c (.bool b)=>(b=true->P)/\(b=false->Q)
 | _=>False
theorem AW.mono {c:Code}{K E:Exit->St->Prop}(h:AW m P c K s)(J : ∀e s,K e s->E e s):AW m P c E s:=λn S0 w0 x a w M I=>wpIn_mono (h n S0 w0 x a w M I) λe a w ⟨x,s,F,G⟩=>⟨x,s,F,J e s G⟩
theorem AW.skip {K:Exit->St->Prop}(h:K .normal s):AW m P .skip K s:=λn S0 w0 x a w F E=>wpIn_skip ⟨x,s,E,h⟩
theorem AW.label {l:Nat}{K:Exit->St->Prop}(h:K .normal s):AW m P (.label l) K s:=λn S0 w0 x a w F E=>wpIn_label ⟨x,s,E,h⟩
theorem AW.ret {K:Exit->St->Prop}(h:K .ret s):AW m P .ret K s:=λn S0 w0 x a w F E=>wpIn_ret ⟨x,s,E,h⟩
theorem AW.exit {id:Nat}{K:Exit->St->Prop}(h:K (.exit id) s):AW m P (.exit id) K s:=λn S0 w0 x a w F E=>wpIn_exit ⟨x,s,E,h⟩
theorem AW.goto {id:Nat}{K:Exit->St->Prop}(h:K (.goto id) s):AW m P (.goto id) K s:=λn S0 w0 x a w F E=>wpIn_goto ⟨x,s,E,h⟩
theorem AW.seq {c d:Code}{K:Exit->St->Prop}(h:AW m P c (NH (AW m P d K) K) s):AW m P (.seq c d) K s:=λn S0 w0 x a w G I=>wpIn_seq (wpIn_mono (h n S0 w0 x a w G I) λe a w ⟨x,s,E,F⟩=>by
 cases e with
 | normal=>exact F n S0 w0 x a w G E
 | _=>exact⟨x,s,E,F⟩)
theorem AW.block {id:Nat}{c:Code}{K:Exit->St->Prop}(h:AW m P c (Sz id K) s):AW m P (.block id c) K s:=λn S0 w0 x a w I G=>wpIn_block (wpIn_mono (h n S0 w0 x a w I G) λe a w ⟨x,s,F,E⟩=>by
 cases e with
 | exit i=>simp only[Sz,Exit.inBlock]at E ⊢;split;rename_i e;rw[if_pos e]at E;exact⟨x,s,F,E⟩;rename_i e;rw[if_neg e]at E;exact⟨x,s,F,E⟩
 | _=>exact⟨x,s,F,E⟩)
theorem AW.cond {c:Operand}{d I:Code}{K:Exit->St->Prop}(h:AND (AW m P d K s) (AW m P I K s) (ev s.t c)):AW m P (.cond c d I) K s:=λn S0 w0 x a w J E=>by
 have F:=CW E.tm c;cases G:ev s.t c with
 | c M =>
   cases M with
   | bool b=>rw[G]at h F;simp only[CV,Ab]at F;exact wpIn_cond_split F (λe=>h.1 e n S0 w0 x a w J E) (λe=>h.2 e n S0 w0 x a w J E)
   | _=>rw[G]at h;exact h.elim
 | _=>rw[G]at h;exact h.elim
theorem AW.region {id:Nat}{ops:List Oper}{K:Exit->St->Prop}(h:Eg P ops (K .normal) ops s):AW m P (.region id ops.toArray false) K s:=λn S0 w0 x a w G E=>by
 obtain⟨F,I⟩:=m;cases F with
 | none=>exact wpIn_wide.2 (wp_region_lit (wJ (λx s a w h E=>⟨x,s,E,h⟩) ops x s a w h E))
 | some l=>exact wpIn_region_lit (wK (λx s a w h E=>⟨x,s,E,h⟩) ops x s a w h E)
theorem AMC {F:Fence}{n:Nat}{c:Code}{ι:Type}(I:ι->Act->World->Prop)(z:ι->Nat)(i0:ι)(U:I i0 a w)(round : ∀i a w,I i a w->c.wpIn F n P (Exit.then (λM w'=>∃j,I j M w'/\z j<z i) Q) a w):(Code.loop c).wpIn F n P Q a w:=by
 intro b k cs A2 hb hr;have key : ∀q i a w,z i=q->I i a w->
  ∃e M w',Q e M w'/\ArrivesIn (Machine.fenced P F) P (lone (b.atR a (.code c:: .inLoop c::k)) cs w) b k cs e M w':=by
  intro q;induction q using Nat.strongRecOn with
  | _ q ih =>
    intro i a w hn hI;obtain⟨e,E,G,K,J⟩:=round i a w hI b (.inLoop c::k) cs A2 hb hr;cases e with
    | normal=>obtain⟨j,A0,A1⟩:=K;obtain⟨S,R,W,zp,yh⟩:=ih (z j) (hn ▸ A1) j E G rfl A0;exact⟨S,R,W,zp,.of_steps (StepsIn.trans J (.one (fenced_calm hb hr rfl) stepR_inLoop)) yh⟩
    | exit id=>exact⟨_,E,G,K,.pass (x:=.inLoop c) rfl (λ_ _=>.inl (by simp)) J⟩
    | goto l=>exact⟨_,E,G,K,.pass (x:=.inLoop c) rfl (λ_ _=>.inl (by simp)) J⟩
    | ret=>exact⟨_,E,G,K,.pass (x:=.inLoop c) rfl (λ_ _=>.inl (by simp)) J⟩
    | panic ch=>exact⟨_,E,G,K,.pass (x:=.inLoop c) rfl (λ_ _=>.inl (by simp)) J⟩
    | outgrown=>exact⟨_,E,G,K,.pass (x:=.inLoop c) rfl (λ_ _=>.inl (by simp)) J⟩
 obtain⟨e,M,w',K,J⟩:=key _ i0 a w rfl U;exact⟨e,M,w',K,.of_steps (.one (fenced_calm hb hr rfl) stepR_loop) J⟩
def Le (m:Mo)(s s':St):Prop:=∀(S0:BF) (w0:Bs) (x:Cx) (a:Act) (w:World),w0.n0<=m.n0->Bo S0 w0 x s a w->∃x',Bo S0 w0 x' s' a w
theorem Le.refl (s:St):Le m s s:=λ_ _ x _ _ _ h=>⟨x,h⟩
theorem Le.trans {s s' E:St}(h:Le m s s')(k:Le m s' E):Le m s E:=λS0 w0 x a w F I=>let ⟨x',G⟩:=h S0 w0 x a w F I;k S0 w0 x' a w F G
theorem AW.le {c:Code}{K:Exit->St->Prop}{s':St}(I:Le m s s')(h:AW m P c K s'):AW m P c K s:=λn S0 w0 x a w E G=>let ⟨x',F⟩:=I S0 w0 x a w E G;h n S0 w0 x' a w E F
theorem AW.loop {c:Code}{K:Exit->St->Prop}{ι:Type}(I:ι->St)(G:ι->Nat)(M:ι)(U:Le m s (I M))(h : ∀i,AW m P c (NH (λs'=>∃j,G j<G i/\Le m s' (I j)) K) (I i)):AW m P (.loop c) K s:=λn S0 w0 x a w F W=>by
 obtain⟨x',R⟩:=U S0 w0 x a w F W;refine AMC (λi a w=>∃x,Bo S0 w0 x (I i) a w) G M ⟨x',R⟩ λi a w q=>?_
 obtain⟨x1,S⟩:=q;refine wpIn_mono (h i n S0 w0 x1 a w F S) λe a w ⟨x,s,J,E⟩=>?_
 cases e with
 | normal=>obtain⟨j,z,hl⟩:=E;obtain⟨x2,E⟩:=hl S0 w0 x a w F J;exact⟨j,⟨x2,E⟩,z⟩
 | _=>exact⟨x,s,J,E⟩
def DE (P:Program)(s:St):ResultVar->Option V
 | .tmp t=>some (s.t.getD t .any)
 | .cell p ty=>match B6 P ty,s.t.getD p .any with
   | some q,.ptr k off=>match s.h[k]? with
     | some (.box _ cs _)=>CJ q cs off
     | _=>none
   | _,_=>none
def C0 (P:Program)(s:St):List ResultVar->Option (List V)
 | []=>some []
 | r::l=>match DE P s r,C0 P s l with
   | some v,some vs=>some (v::vs)
   | _,_=>none
def DV (P:Program)(s:St)(l:List ResultVar):Option V:=
 match C0 P s l with
 | some [v]=>v.CP
 | some vs=>(V.A7 vs).CP
 | none=>none
def iK (P:Program)(l:List ResultVar)(res:V):Exit->St->Prop
 | .normal,s=>DV P s l=some res
 | .ret,s=>DV P s l=some res
 | _,_=>False
def lD (tmps:Array Value)(r:ResultVar):Sem Value:=
 match r with
 | .tmp t=>pure (tmps.getD t undef)
 | .cell p t=>do loadVar t (<-asAddr (tmps.getD p undef))
theorem ANb (E:Bo S0 w0 x s a w){r:ResultVar}(h:DE P s r=some v):∃u,(lD a.tmps r).run P w=.ok u w/\CV x w v u:=by
 cases r with
 | tmp t=>simp only[DE,BL]at h;subst h;exact⟨_,rfl,by have:=E.tm.getD t undef;simpa [Kl,Bv]using this⟩
 | cell p ty =>
   simp only[DE]at h;split at h;rename_i q k G hq z;split at h;rename_i I cs fr S;have K:CV x w (.ptr k G) (a.tmps.getD p undef):=by
    have:=E.tm.getD p undef;rw[z]at this;simpa [Kl,Bv]using this
   simp only[CV]at K;obtain⟨_,_,vs,U,hn,F⟩:=(E.good.ok k _ S).2;obtain⟨u,J,hu⟩:=dY (x:=x) (w:=w) (b:=(x.loc k).b) (o:=0) hq (λj v W=>by
    obtain⟨u,M,R⟩:=F.get j v W;refine⟨u,?_,R⟩;rw[Cz,cell_of_row w _ j vs I (0,0) U];simpa using M) h
   rw[Cz]at J;exact⟨u,by simp only[lD,K.2.2,asAddr,Jt,mu,Oo];exact J,hu⟩;cases h;cases h
theorem wO (E:Bo S0 w0 x s a w):∀ {l:List ResultVar} {vs:List V},C0 P s l=some vs->∃us,(l.mapM (lD a.tmps)).run P w=.ok us w/\AO x w vs us
 | [],vs,h=>by simp only[C0,BL]at h;subst h;exact⟨[],by simp,by simp only[AO]⟩
 | r::l,vs,h=>by
   unfold C0 at h;split at h;rename_i v R I J;cases h;obtain⟨u,K,F⟩:=ANb E I;obtain⟨us,M,G⟩:=wO E J;refine⟨u::us,?_,by simp only[AO];exact⟨u,us,rfl,F,G⟩⟩;simp only[List.mapM_cons,Jt,K,Oo,M,mu];cases h
theorem ANc (K:Bo S0 w0 x s a w){fn:Func}{res:V}(h:DV P s fn.results.toList=some res):∃u,(results fn a.tmps).run P w=.ok u w/\CV (Cx.bare x.S) w res u:=by
 unfold DV at h;cases G:C0 P s fn.results.toList with
 | none=>rw[G]at h;cases h
 | some vs =>
   rw[G]at h;obtain⟨us,M,E⟩:=wO K G;have J:(results fn a.tmps).run P w=.ok (if h:us.toArray.size=1 then us.toArray[0]else .tuple us.toArray) w:=by
    have e:results fn a.tmps=(fn.results.mapM (lD a.tmps) >>=λvs=>pure (if h:vs.size=1 then vs[0]else .tuple vs)):=rfl;rw[e,Array.mapM_eq_mapM_toList];simp[M]
   refine⟨_,J,?_⟩;match vs,h,E with
   | [v],h,E=>simp only[AO]at E;obtain⟨u,U,rfl,I,rfl⟩:=E;exact SL v res u h I
   | [],h,E=>simp only[AO]at E;subst E;refine SL (.A7 []) res _ h ?_;simp only[CV];exact⟨#[],rfl,by simp only[AO]⟩
   | v::R::r,h,E=>have F:=E.len;rw[dif_neg (by simp[F])];refine SL (.A7 (v::R::r)) res _ h ?_;simp only[CV];exact⟨_,rfl,E⟩
theorem SQ (x:Cx)(w:World)(n:Nat)(u:Value):AO x w (Aq n .any) (Aq n u):=AO.SI (by simp) λi v G E F=>by
 rw[List.getElem?_replicate]at E;split at E;cases E;simp only[CV];cases E
theorem kS {fn:Func}{R:Ending->World->Prop}{res:V}(hr:DV P s fn.results.toList=some res){tmps:Array Value} : ∀(E:List Nat) (w:World),E.Nodup->(∀D∈E,¬w0.F D/\w.heap[D]?=some (.deferred (some [])))->Good S0 w0 x w (λk=>s.h[k]?)->AO x w s.t tmps.toList->
 (∀w u,Good S0 w0 x w (λk=>s.h[k]?)->CV (Cx.bare x.S) w res u->R (.returned u) w)->LeavesInM Cg 0 P fn tmps R (E.map λD=>{ target:=.collected D,args:=#[] }) .returning w
 | [],w,_,_,g,U,J=>by
   obtain⟨u,I,G⟩:=ANc (fn:=fn) (a:={ tmps:=tmps,defers:=[] }) ⟨g,U,Marks.nil _ _⟩ hr;exact⟨u,I,J w u g G⟩
 | D::E,w,K,z,g,U,J=>by
   obtain⟨I,G⟩:=z D (by simp);have hg:w.grownBy (w.putObj D (.deferred none)) (some D):=grownBy_putObj' w D _;obtain⟨g',he⟩:=g.grown hg λr e=>by cases e;exact⟨I,_,G,rfl⟩
   rw[List.nodup_cons]at K;refine⟨by simp,.inl ⟨D,_,rfl,run_takeDeferred G,kS hr E _ K.2 (λW q=>?_) g' (AO.mono he _ _ U) J⟩⟩;obtain⟨k1,k2⟩:=z W (by simp[q]);have M:W≠D:=λe=>K.1 (by rw[<-e];exact q)
   exact⟨k1,by rw[World.putObj_heap_other M];exact k2⟩
theorem AC.intro {f:FuncId}{fn:Func}{c:Code}{args:List V}{res:V}(hf:P.funcs[f]?=some fn)(hb:fn.body=some c)(h:AW ⟨none,0⟩ P c (iK P fn.results.toList res) ⟨args++Aq (fn.ntmps - args.length) .any,[]⟩):AC P f args res:=by
 intro S w us hS z;refine callsIn_wide.1 (callsIn_of_wp_marks (F:=Cg) (n:=0) hf hb trivial ?_);have hA:Bo S (Bs.of w) (Cx.bare S) ⟨args++Aq (fn.ntmps - args.length) .any,[]⟩ { tmps:=us.toArray++Array.replicate (fn.ntmps - us.toArray.size) undef,defers:=[] } w:=by
  refine⟨⟨λk o h=>by simp at h,λk h=>h.elim,λk k' o o' h=>by simp at h,λk o j h=>by simp at h,hS,λk o h=>by simp at h,λb j h=>.inl h,λb j h=>h,.FR (Ay.refl w),Ext.none _ _ _⟩,?_,Marks.nil _ _⟩;simp only[Pq,Array.toList_replicate];have hl:us.toArray.size=args.length:=by simpa using z.len
  rw[hl];exact z.append (SQ _ _ _ _)
 refine wpIn_mono (h 0 S (Bs.of w) _ _ w (BN _) hA) λe a' w' ⟨x,s,K,W⟩=>?_
 have G : ∀ {R:Ending->World->Prop},(∀u w' E,Ay w w'->Ar S E w w'->(∀b j,E b j->S b j\/(w.heap.size<=b/\b<w'.heap.size))->CV (Cx.bare E) w' res u->R (.returned u) w')->DV P s fn.results.toList=some res->LeavesInM Cg 0 P fn a'.tmps R a'.defers .returning w':=by
  intro R hR hr;obtain⟨Ds,e,I,J⟩:=K.df;rw[e];refine kS hr Ds w' I J K.good K.tm λw2 u g hu=>hR u w2 x.S g.keep.all ⟨g.sub,λb j v q hc=>g.keep.all.cell hc⟩ (λb j q=>?_) hu
  rcases g.new b j q with h|h
  exact .inl h;exact .inr ⟨Nat.le_of_not_lt h,g.ex b j q⟩
 cases e with
 | normal=>exact G (λu w' E I J M U=>⟨u,E,rfl,I,J,M,U⟩) W
 | ret=>exact G (λu w' E I J M U=>⟨u,E,rfl,I,J,M,U⟩) W
 | _=>exact W.elim
end
end Go.Proofs.YtlpomcliejmedaaGreat
