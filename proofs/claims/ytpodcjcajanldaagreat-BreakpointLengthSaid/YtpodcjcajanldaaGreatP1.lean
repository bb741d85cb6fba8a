/- Part of the proof of breakpointLength.proved. Conditions: none. (Joined and shortened by a program.) -/
import Derived.Maps.AppendAt
import Derived.RangeFuncNested
import Derived.RangeFuncLeaves
import Derived.Laws.Tables
import Derived.Laws.MakeOwn
import Derived.Laws.Closers25b
import Derived.Great.BuildSlice
import Derived.OrdersIn
import Derived.RangeFuncCalls
import Derived.Test.YtpodcjcajanldaaGreatP0
set_option linter.unusedVariables false
set_option linter.unusedSimpArgs false
set_option maxRecDepth 100000
set_option maxHeartbeats 16000000
open Go.Lit renaming int→Mj,wf→Pd
open Go.Value renaming oneCell'→PW
open List renaming mem_cons→Cb,cons_append→Bg,getElem?_cons_zero→LK,length_cons→BQ,flatten_cons→GS,eq_nil_of_length_eq_zero→LJ,getElem?_set→OH,getElem?_take→Jv,getElem?_drop→gy,getD_eq_getElem?_getD→G5,map_nil→A8,map_cons→Al,getElem?_eq_some_iff→Bv,getElem?_eq_getElem→BP,all_eq_true→Ee,zipIdx_cons→iC,foldl_cons→Bl,getD→gu,range→E8,getElem?_map→Co,getElem?_eq_none→Ln,replicate→As,map_map→Mi,mem_map→DC,getElem?_toArray→gz,mem_of_getElem?→C6,mem_of_mem_take→xr,length_append→C3,length_take→FW,length_drop→R8,take_of_length_le→D9,append_assoc→EW,flatten_append→Tk,append_nil→D8,length_pos_iff→NP,size_toArray→oS,length_nil→B6,getElem?_append_left→FK
open Option.some renaming injEq→BE
open Nat renaming add_mul→F1,le_trans→Tn,lt_of_lt_of_le→H6,le_refl→BW,add_assoc→iD,lt_or_ge→Lq,zero_add→Cu,mul_le_mul_right→Tp,min_eq_left→To
open Option renaming getD_none→Gl,map_eq_some_iff→G6,getD_some→EM
open Go.World renaming cell?_of_block→SR
open Array renaming getElem?_eq_some_iff→Dy,getD_eq_getD_getElem?→NO,length_toList→Ep,foldl_toList→AHs,toList_zipIdx→AHx,toList_inj→Gk,toList_append→Qt
open Iff renaming rfl→Qv
open Prod.mk renaming injEq→Cp
open Go.Sem renaming run_bind→H9,run→I5,run_pure→YF
open Go.Instr renaming fill→Zz,loadAt→oI,sureAddr→Qw,indexAt→gZ,sliceAt→oJ,slice→xe,sliceBounds→oK,sliceBound→xf
open List.cons renaming injEq→R5
open Bool renaming false_eq_true→Fe,and_eq_true→An
open Go.IntKind renaming i64→Ad,u8→oM
open Int renaming tmod_nonneg→Pb
open Go.ByteArray renaming toList_eq→oC
open Go.Op renaming equal→OI,equalIn→YD,operands→CN
open Go.Result renaming andThen_ok→Lr
open Go.Builtin renaming len_→xY,append_→X7
open Go.Call renaming operands→D7
open Go.Fence renaming wide→EF
open Go.Oper renaming wp→EL,upon→iG,uponIn→oe,wp_mono→og
open Go.Region renaming wanted→DV
namespace Go.Proofs.YtpodcjcajanldaaGreat
open Go.RowKit
inductive C where
 | int (k:IntKind) (n:Int)
 | bool (b:Bool)
 | str (s:ByteArray)
 | Rn
 | Cn
 | Du (f:FuncId)
 | Rm (m:Nat)
 | sl (rows:List (List C))
abbrev Ba:=Nat->Nat->Prop
mutual
def Ap (S:Ba)(w:World):C->Value->Prop
 | .int k n,v=>v=.int k n/\(Mj k n).wf=true
 | .bool b,v=>v=.bool b
 | .str s,v=>v=.string s/\s.size<=maxLen
 | .Rn,v=>v=.pointer none
 | .Cn,v=>v=.nilFunc
 | .Du f,v=>v=.func (.func f) #[] #[]
 | .Rm m,v=>v=.map (some m)
 | .sl rows,v=>∃A c,v=.slice A rows.length c/\rows.length<=c/\c<=maxLen/\(rows≠[]->∃b off es,A=some ⟨b,off,none⟩/\(∀r∈rows,r.length=es)/\Df S w rows b off)
def CR (S:Ba)(w:World):List C->Nat->Nat->Prop
 | [],_,_=>True
 | c::r,b,off=>(∃v,w.cell? ⟨b,off,none⟩=some v/\Ap S w c v)/\S b off/\CR S w r b (off+1)
def Df (S:Ba)(w:World):List (List C)->Nat->Nat->Prop
 | [],_,_=>True
 | r::rs,b,off=>CR S w r b off/\Df S w rs b (off+r.length)
end
def Bj (S:Ba)(w:World):List C->List Value->Prop
 | [],vs=>vs=[]
 | c::r,vs=>∃v vr,vs=v::vr/\Ap S w c v/\Bj S w r vr
structure Ar (S S':Ba)(w w':World):Prop where
 sub : ∀b j,S b j->S' b j
 cell : ∀b j v,S b j->w.cell? ⟨b,j,none⟩=some v->w'.cell? ⟨b,j,none⟩=some v
theorem Ar.refl (S:Ba)(w:World):Ar S S w w:=⟨fun _ _ h=>h,fun _ _ _ _ h=>h⟩
theorem Ar.trans {S S' yz:Ba}{w w' w'':World}(h:Ar S S' w w')(k:Ar S' yz w' w''):Ar S yz w w'':=⟨fun b j x=>k.sub b j (h.sub b j x),fun b j v x y=>k.cell b j v (h.sub b j x) (h.cell b j v x y)⟩
mutual
theorem Ap.mono {S S':Ba}{w w':World}(h:Ar S S' w w'):∀(c:C) (v:Value),Ap S w c v->Ap S' w' c v
 | .int _ _,v,r=>by simpa only[Ap]using r
 | .bool _,v,r=>by simpa only[Ap]using r
 | .str _,v,r=>by simpa only[Ap]using r
 | .Rn,v,r=>by simpa only[Ap]using r
 | .Cn,v,r=>by simpa only[Ap]using r
 | .Du _,v,r=>by simpa only[Ap]using r
 | .Rm _,v,r=>by simpa only[Ap]using r
 | .sl rows,v,r=>by
   simp only[Ap]at r ⊢;obtain⟨A,c,e,h1,h2,h3⟩:=r;refine⟨A,c,e,h1,h2,fun hl=>?_⟩;obtain⟨b,off,es,hA,he,hs⟩:=h3 hl;exact⟨b,off,es,hA,he,Df.mono h rows b off hs⟩
theorem CR.mono {S S':Ba}{w w':World}(h:Ar S S' w w'):∀(l:List C) (b off:Nat),CR S w l b off->CR S' w' l b off
 | [],_,_,_=>by simp only[CR]
 | c::r,b,off,x=>by
   simp only[CR]at x ⊢;obtain⟨⟨v,h1,h2⟩,h3,h4⟩:=x;exact⟨⟨v,h.cell _ _ _ h3 h1,Ap.mono h c v h2⟩,h.sub _ _ h3,CR.mono h r b _ h4⟩
theorem Df.mono {S S':Ba}{w w':World}(h:Ar S S' w w'):∀(l:List (List C)) (b off:Nat),Df S w l b off->Df S' w' l b off
 | [],_,_,_=>by simp only[Df]
 | r::rs,b,off,x=>by
   simp only[Df]at x ⊢;exact⟨CR.mono h r b off x.1,Df.mono h rs b _ x.2⟩
end
theorem Bj.mono {S S':Ba}{w w':World}(h:Ar S S' w w'):∀(l:List C) (vs:List Value),Bj S w l vs->Bj S' w' l vs
 | [],_,x=>x
 | c::r,vs,x=>by
   simp only[Bj]at x ⊢;obtain⟨v,vr,e,h1,h2⟩:=x;exact⟨v,vr,e,Ap.mono h c v h1,Bj.mono h r vr h2⟩
theorem Bj.len {S:Ba}{w:World} : ∀ {l:List C} {vs:List Value},Bj S w l vs->vs.length=l.length
 | [],_,x=>by simp only[Bj]at x;subst x;rfl
 | c::r,vs,x=>by
   simp only[Bj]at x;obtain⟨v,vr,rfl,_,h2⟩:=x;simp[Bj.len h2]
theorem Ap.one {S:Ba}{w:World} : ∀ {c:C} {v:Value},Ap S w c v->v.oneCell'=true
 | .int _ _,v,r=>by simp only[Ap]at r;simp[r.1,PW]
 | .bool _,v,r=>by simp only[Ap]at r;simp[r,PW]
 | .str _,v,r=>by simp only[Ap]at r;simp[r.1,PW]
 | .Rn,v,r=>by simp only[Ap]at r;simp[r,PW]
 | .Cn,v,r=>by simp only[Ap]at r;simp[r,PW]
 | .Du _,v,r=>by simp only[Ap]at r;simp[r,PW]
 | .Rm _,v,r=>by simp only[Ap]at r;simp[r,PW]
 | .sl _,v,r=>by simp only[Ap]at r;obtain⟨A,c,rfl,_⟩:=r;simp[PW]
theorem Bj.Rq {S:Ba}{w:World} : ∀ {l:List C} {vs:List Value},Bj S w l vs->∀u∈vs,u.oneCell'=true
 | [],_,x=>by simp only[Bj]at x;subst x;simp
 | c::r,vs,x=>by
   simp only[Bj]at x;obtain⟨v,vr,rfl,h1,h2⟩:=x;intro u hu;rcases Cb.1 hu with rfl|hu
   . exact h1.one
   . exact Bj.Rq h2 u hu
theorem Bj.append {S:Ba}{w:World} : ∀ {l m:List C} {xs ys:List Value},Bj S w l xs->Bj S w m ys->Bj S w (l++m) (xs++ys)
 | [],m,xs,ys,h,h'=>by simp only[Bj]at h;subst h;simpa using h'
 | c::l,m,xs,ys,h,h'=>by
   simp only[Bj]at h;obtain⟨v,vr,rfl,h1,h2⟩:=h;simp only[Bg,Bj];exact⟨v,vr++ys,rfl,h1,Bj.append h2 h'⟩
theorem Bj.split {S:Ba}{w:World} : ∀ {l m:List C} {xs:List Value},Bj S w (l++m) xs->∃ys zs,xs=ys++zs/\Bj S w l ys/\Bj S w m zs
 | [],m,xs,h=>⟨[],xs,rfl,by simp only[Bj],h⟩
 | c::l,m,xs,h=>by
   simp only[Bg,Bj]at h;obtain⟨v,vr,rfl,h1,h2⟩:=h;obtain⟨ys,zs,rfl,h3,h4⟩:=Bj.split h2;exact⟨v::ys,zs,rfl,by simp only[Bj];exact⟨v,ys,rfl,h1,h3⟩,h4⟩
theorem Bj.get {S:Ba}{w:World} : ∀ {l:List C} {vs:List Value},Bj S w l vs->∀(i:Nat) (c:C),l[i]?=some c->∃v,vs[i]?=some v/\Ap S w c v
 | [],_,_,i,c,h=>by simp at h
 | x::r,vs,h,i,c,hi=>by
   simp only[Bj]at h;obtain⟨v,vr,rfl,h1,h2⟩:=h;match i,hi with
   | 0,hi=>simp only[LK,BE]at hi;subst hi;exact⟨v,rfl,h1⟩
   | i+1,hi=>simpa using Bj.get h2 i c (by simpa using hi)
theorem CR.vals {S:Ba}{w:World} : ∀(l:List C) (b off:Nat),CR S w l b off->∃vs,Bj S w l vs/\(∀j u,vs[j]?=some u->w.cell? ⟨b,off+j,none⟩=some u)/\∀j,j<l.length->S b (off+j)
 | [],b,off,_=>⟨[],by simp only[Bj],fun j u h=>by simp at h,fun j h=>by simp at h⟩
 | c::r,b,off,x=>by
   simp only[CR]at x;obtain⟨⟨v,h1,h2⟩,h3,h4⟩:=x;obtain⟨vs,k1,k2,k3⟩:=CR.vals r b _ h4;refine⟨v::vs,by simp only[Bj];exact⟨v,vs,rfl,h2,k1⟩,fun j u hu=>?_,fun j hj=>?_⟩
   . match j,hu with
     | 0,hu=>simp only[LK,BE]at hu;subst hu;exact h1
     | j+1,hu=>rw[show off+(j+1)=off+1+j by omega];exact k2 j u (by simpa using hu)
   . match j,hj with
     | 0,_=>exact h3
     | j+1,hj=>rw[show off+(j+1)=off+1+j by omega];exact k3 j (by simpa using hj)
theorem CR.QX {S:Ba}{w:World} : ∀ {l:List C} {vs:List Value} {b off:Nat},Bj S w l vs->(∀j u,vs[j]?=some u->w.cell? ⟨b,off+j,none⟩=some u)->(∀j,j<l.length->S b (off+j))->CR S w l b off
 | [],_,_,_,_,_,_=>by simp only[CR]
 | c::r,vs,b,off,h,hc,hS=>by
   simp only[Bj]at h;obtain⟨v,vr,rfl,h1,h2⟩:=h;simp only[CR];refine⟨⟨v,hc 0 v rfl,h1⟩,hS 0 (by simp),CR.QX h2 (fun j u hu=>?_) (fun j hj=>?_)⟩
   . have:=hc (j+1) u (by simpa using hu);rw[show off+(j+1)=off+1+j by omega]at this;exact this
   . have:=hS (j+1) (by simpa using hj);rw[show off+(j+1)=off+1+j by omega]at this;exact this
theorem CR.append {S:Ba}{w:World} : ∀ {l m:List C} {b off:Nat},CR S w (l++m) b off↔CR S w l b off/\CR S w m b (off+l.length)
 | [],m,b,off=>by simp[CR]
 | c::l,m,b,off=>by
   simp only[Bg,CR,CR.append (l:=l),BQ];rw[show off+1+l.length=off+(l.length+1)by omega];simp only[and_assoc]
theorem Df.flat {S:Ba}{w:World} : ∀ {rows:List (List C)} {b off:Nat},Df S w rows b off↔CR S w rows.flatten b off
 | [],b,off=>by simp[Df,CR]
 | r::rs,b,off=>by simp only[Df,GS,CR.append,Df.flat]
theorem Df.at_ {S:Ba}{w:World}{es:Nat} : ∀ {rows:List (List C)} {b off:Nat},Df S w rows b off->(∀r∈rows,r.length=es)->∀(i:Nat) (r:List C),rows[i]?=some r->CR S w r b (off+i*es)
 | [],_,_,_,_,i,r,h=>by simp at h
 | x::rs,b,off,h,hs,i,r,hi=>by
   simp only[Df]at h;match i,hi with
   | 0,hi=>simp only[LK,BE]at hi;subst hi;simpa using h.1
   | i+1,hi =>
     have:=Df.at_ h.2 (fun r hr=>hs r (by simp[hr])) i r (by simpa using hi);rw[hs x (by simp)]at this;rw[show off+(i+1)*es=off+es+i*es by rw[F1];omega];exact this
theorem CR.get {S:Ba}{w:World}{l:List C}{b off:Nat}(h:CR S w l b off){i:Nat}{c:C}(hi:l[i]?=some c):∃v,w.cell? ⟨b,off+i,none⟩=some v/\Ap S w c v:=by
 obtain⟨vs,k1,k2,_⟩:=CR.vals l b off h;obtain⟨v,h1,h2⟩:=k1.get i c hi;exact⟨v,k2 i v h1,h2⟩
theorem Df.drop {S:Ba}{w:World}{es:Nat} : ∀(n:Nat) {rows:List (List C)} {b off:Nat},Df S w rows b off->(∀r∈rows,r.length=es)->n<=rows.length->Df S w (rows.drop n) b (off+n*es)
 | 0,rows,b,off,h,_,_=>by simpa using h
 | n+1,[],b,off,_,_,h=>by simp at h
 | n+1,r::rs,b,off,h,hs,hn=>by
   simp only[Df]at h;have:=Df.drop n h.2 (fun r hr=>hs r (by simp[hr])) (by simpa using hn);rw[hs r (by simp)]at this;rw[show off+(n+1)*es=off+es+n*es by rw[F1];omega];simpa using this
theorem Df.take {S:Ba}{w:World} : ∀(n:Nat) {rows:List (List C)} {b off:Nat},Df S w rows b off->Df S w (rows.take n) b off
 | 0,rows,b,off,_=>by simp[Df]
 | n+1,[],b,off,_=>by simp[Df]
 | n+1,r::rs,b,off,h=>by
   simp only[Df,List.take_succ_cons]at h ⊢;exact⟨h.1,Df.take n h.2⟩
inductive V where
 | any
 | c (c:C)
 | agg (l:List V)
 | Bk (l:List V)
 | ptr (k off:Nat)
 | own (k off len es:Nat)
 | cp (row:List C) (off:Nat)
 | full (rows:List (List C))
 | gr (k es:Nat) (rows:List (List C))
 | fn (f:FuncId) (caps:List V)
 | hot (k es:Nat) (rows:List (List C))
 | hp (k n pos:Nat)
 | yl (l:Nat)
 | mp (k:Nat)
inductive O where
 | box (ty:TypeId) (cells:List V) (frozen:Bool)
 | tok (ty:TypeId) (es cur:Nat)
 | hot (ty:TypeId) (es cur:Nat) (cells:List V)
 | mp (R:Nat->Obj->Prop)
structure Loc where
 b:Nat
 n:Nat
 tok:Bool
 cur:Nat
 void:Bool
structure Cx where
 dom:Nat->Prop
 loc:Nat->Loc
 S:Ba
mutual
def CV (x:Cx)(w:World):V->Value->Prop
 | .any,_=>True
 | .c c,v=>Ap x.S w c v
 | .agg l,v=>∃vs:Array Value,v=.agg vs/\AL x w l vs.toList
 | .Bk l,v=>∃vs:Array Value,v=.tuple vs/\AL x w l vs.toList
 | .ptr k off,v=>x.dom k/\(x.loc k).tok=false/\v=.pointer (some ⟨(x.loc k).b,off,none⟩)
 | .own k off len es,v=>x.dom k/\(x.loc k).tok=false/\∃cap,v=.slice (some ⟨(x.loc k).b,off,none⟩) len cap/\len<=cap/\cap<=maxLen/\off+cap*es<=(x.loc k).n
 | .cp row off,v=>∃b o,v=.pointer (some ⟨b,o+off,none⟩)/\CR x.S w row b o
 | .full rows,v=>∃A,v=.slice A rows.length rows.length/\Ap x.S w (.sl rows) v
 | .gr k es rows,v=>x.dom k/\(x.loc k).tok=true/\Ap x.S w (.sl rows) v/\(∀r∈rows,r.length=es)/\rows.length<=(x.loc k).cur/\(rows.length=(x.loc k).cur->
    if (x.loc k).void then ∃A,v=.slice A rows.length rows.length else ∃cap,v=.slice (some ⟨(x.loc k).b,0,none⟩) rows.length cap/\cap*es=(x.loc k).n)
 | .fn f caps,v=>∃vs:Array Value,v=.func (.func f) #[] vs/\AL x w caps vs.toList
 | .hot k es rows,v=>x.dom k/\(x.loc k).tok=true/\(∀r∈rows,r.length=es)/\rows.length+1<=(x.loc k).cur/\∃A cap,v=.slice A (rows.length+1) cap/\(rows.length+1=(x.loc k).cur->
    (x.loc k).void=false/\A=some ⟨(x.loc k).b,0,none⟩/\rows.length+1<=cap/\cap<=maxLen/\cap*es=(x.loc k).n/\CR x.S w rows.flatten (x.loc k).b 0)
 | .hp k n pos,v=>x.dom k/\(x.loc k).tok=true/\n<=(x.loc k).cur/\∃A,v=.pointer A/\(n=(x.loc k).cur->A=some ⟨(x.loc k).b,pos,none⟩)
 | .yl l,v=>v=.func (.yield l) #[] #[]
 | .mp k,v=>x.dom k/\(x.loc k).tok=false/\v=.map (some (x.loc k).b)
def AL (x:Cx)(w:World):List V->List Value->Prop
 | [],vs=>vs=[]
 | v::r,vs=>∃u ur,vs=u::ur/\CV x w v u/\AL x w r ur
end
def Es (l l':Loc):Prop:=l'.tok=l.tok/\(l=l'\/(l.tok=true/\l.cur<l'.cur))
structure Ext (x x':Cx)(w w':World):Prop where
 ar:Ar x.S x'.S w w'
 dom : ∀k,x.dom k->x'.dom k
 loc : ∀k,x.dom k->Es (x.loc k) (x'.loc k)
theorem Es.refl (l:Loc):Es l l:=⟨rfl,.inl rfl⟩
theorem Es.trans {a b c:Loc}(h:Es a b)(k:Es b c):Es a c:=by
 refine⟨k.1.trans h.1,?_⟩;rcases h.2 with rfl|h2
 . exact k.2
 . rcases k.2 with rfl|k2
   . exact .inr h2
   . exact .inr ⟨h2.1,Nat.lt_trans h2.2 k2.2⟩
theorem Ext.refl (x:Cx)(w:World):Ext x x w w:=⟨Ar.refl _ _,fun _ h=>h,fun _ _=>Es.refl _⟩
theorem Ext.trans {x y z:Cx}{a b c:World}(h:Ext x y a b)(k:Ext y z b c):Ext x z a c:=⟨h.ar.trans k.ar,fun i hi=>k.dom i (h.dom i hi),fun i hi=>(h.loc i hi).trans (k.loc i (h.dom i hi))⟩
mutual
theorem CV.mono {x x':Cx}{w w':World}(h:Ext x x' w w'):∀(v:V) (u:Value),CV x w v u->CV x' w' v u
 | .any,_,_=>by simp only[CV]
 | .c c,u,r=>by simp only[CV]at r ⊢;exact Ap.mono h.ar c u r
 | .agg l,u,r=>by simp only[CV]at r ⊢;obtain⟨vs,e,r⟩:=r;exact⟨vs,e,AL.mono h l _ r⟩
 | .Bk l,u,r=>by simp only[CV]at r ⊢;obtain⟨vs,e,r⟩:=r;exact⟨vs,e,AL.mono h l _ r⟩
 | .ptr k off,u,r=>by
   simp only[CV]at r ⊢;obtain⟨h1,h2,rfl⟩:=r;obtain⟨e,l⟩:=h.loc k h1;rcases l with l|l
   . exact⟨h.dom k h1,by rw[e,h2],by rw[l]⟩
   . rw[h2]at l;cases l.1
 | .own k off len es,u,r=>by
   simp only[CV]at r ⊢;obtain⟨h1,h2,cap,rfl,h3,h4,h5⟩:=r;obtain⟨e,l⟩:=h.loc k h1;rcases l with l|l
   . rw[l]at h5;exact⟨h.dom k h1,by rw[e,h2],cap,by rw[l],h3,h4,h5⟩
   . rw[h2]at l;cases l.1
 | .cp row off,u,r=>by simp only[CV]at r ⊢;obtain⟨b,o,rfl,r⟩:=r;exact⟨b,o,rfl,CR.mono h.ar row b o r⟩
 | .full rows,u,r=>by simp only[CV]at r ⊢;obtain⟨A,e,r⟩:=r;exact⟨A,e,Ap.mono h.ar _ u r⟩
 | .gr k es rows,u,r=>by
   simp only[CV]at r ⊢;obtain⟨h1,h2,h3,h4,h5,h6⟩:=r;obtain⟨e,l⟩:=h.loc k h1;refine⟨h.dom k h1,by rw[e,h2],Ap.mono h.ar _ u h3,h4,?_⟩;rcases l with l|l
   . rw[<-l];exact⟨h5,h6⟩
   . exact⟨by omega,fun e=>absurd e (by omega)⟩
 | .fn f caps,u,r=>by simp only[CV]at r ⊢;obtain⟨vs,e,r⟩:=r;exact⟨vs,e,AL.mono h caps _ r⟩
 | .hot k es rows,u,r=>by
   simp only[CV]at r ⊢;obtain⟨h1,h2,h3,h4,A,cap,h5,h6⟩:=r;obtain⟨e,l⟩:=h.loc k h1;refine⟨h.dom k h1,by rw[e,h2],h3,?_⟩;rcases l with l|l
   . rw[<-l];exact⟨h4,A,cap,h5,fun e=>let ⟨k1,k2,k3,k4,k5,k6⟩:=h6 e;⟨k1,k2,k3,k4,k5,CR.mono h.ar _ _ _ k6⟩⟩
   . exact⟨by omega,A,cap,h5,fun e=>absurd e (by omega)⟩
 | .hp k n pos,u,r=>by
   simp only[CV]at r ⊢;obtain⟨h1,h2,h3,A,h4,h5⟩:=r;obtain⟨e,l⟩:=h.loc k h1;refine⟨h.dom k h1,by rw[e,h2],?_⟩;rcases l with l|l
   . rw[<-l];exact⟨h3,A,h4,h5⟩
   . exact⟨by omega,A,h4,fun e=>absurd e (by omega)⟩
 | .yl l,u,r=>by simpa only[CV]using r
 | .mp k,u,r=>by
   simp only[CV]at r ⊢;obtain⟨h1,h2,rfl⟩:=r;obtain⟨e,l⟩:=h.loc k h1;rcases l with l|l
   . exact⟨h.dom k h1,by rw[e,h2],by rw[l]⟩
   . rw[h2]at l;cases l.1
theorem AL.mono {x x':Cx}{w w':World}(h:Ext x x' w w'):∀(l:List V) (us:List Value),AL x w l us->AL x' w' l us
 | [],_,r=>by simpa only[AL]using r
 | v::l,us,r=>by
   simp only[AL]at r ⊢;obtain⟨u,ur,e,r1,r2⟩:=r;exact⟨u,ur,e,CV.mono h v u r1,AL.mono h l ur r2⟩
end
theorem AL.len {x:Cx}{w:World} : ∀ {l:List V} {us:List Value},AL x w l us->us.length=l.length
 | [],_,r=>by simp only[AL]at r;subst r;rfl
 | v::l,us,r=>by
   simp only[AL]at r;obtain⟨u,ur,rfl,_,r2⟩:=r;simp[AL.len r2]
theorem AL.get {x:Cx}{w:World} : ∀ {l:List V} {us:List Value},AL x w l us->∀(i:Nat) (v:V),l[i]?=some v->∃u,us[i]?=some u/\CV x w v u
 | [],_,_,i,v,h=>by simp at h
 | y::l,us,r,i,v,hi=>by
   simp only[AL]at r;obtain⟨u,ur,rfl,r1,r2⟩:=r;match i,hi with
   | 0,hi=>simp only[LK,BE]at hi;subst hi;exact⟨u,rfl,r1⟩
   | i+1,hi=>simpa using AL.get r2 i v (by simpa using hi)
theorem AL.Rp {x:Cx}{w:World} : ∀ {l:List V} {us:List Value},us.length=l.length->(∀(i:Nat) (v:V) (u:Value),l[i]?=some v->us[i]?=some u->CV x w v u)->AL x w l us
 | [],us,h,_=>by simp only[AL];exact LJ (by simpa using h)
 | y::l,us,h,hg=>by
   match us,h with
   | u::ur,h =>
     simp only[AL];exact⟨u,ur,rfl,hg 0 y u rfl rfl,AL.Rp (by simpa using h) fun i v u' hi hu=>hg (i+1) v u' (by simpa using hi) (by simpa using hu)⟩
theorem AL.append {x:Cx}{w:World} : ∀ {l m:List V} {xs ys:List Value},AL x w l xs->AL x w m ys->AL x w (l++m) (xs++ys)
 | [],m,xs,ys,h,h'=>by simp only[AL]at h;subst h;simpa using h'
 | c::l,m,xs,ys,h,h'=>by
   simp only[AL]at h;obtain⟨v,vr,rfl,h1,h2⟩:=h;simp only[Bg,AL];exact⟨v,vr++ys,rfl,h1,AL.append h2 h'⟩
theorem AL.set {x:Cx}{w:World}{l:List V}{us:List Value}(h:AL x w l us)(i:Nat){v:V}{u:Value}(hv:CV x w v u):AL x w (l.set i v) (us.set i u):=by
 refine AL.Rp (by simp[h.len]) fun j v' u' hj hu=>?_
 rw[OH]at hj hu;by_cases e:i=j
 . subst e;by_cases hl:i<l.length
   . have hl':i<us.length:=by rw[h.len];exact hl
     simp[hl]at hj;simp[hl']at hu;subst hj hu;exact hv
   . simp[hl]at hj
 . simp only[e,if_false]at hj hu;obtain⟨u2,h1,h2⟩:=h.get j v' hj;rw[h1]at hu;cases hu;exact h2
theorem AL.take {x:Cx}{w:World}{l:List V}{us:List Value}(h:AL x w l us)(n:Nat):AL x w (l.take n) (us.take n):=by
 refine AL.Rp (by simp[h.len]) fun j v' u' hj hu=>?_
 rw[Jv]at hj hu;split at hj
 . rename_i hl;rw[if_pos hl]at hu;obtain⟨u2,h1,h2⟩:=h.get j v' hj;rw[h1]at hu;cases hu;exact h2
 . cases hj
theorem AL.drop {x:Cx}{w:World}{l:List V}{us:List Value}(h:AL x w l us)(n:Nat):AL x w (l.drop n) (us.drop n):=by
 refine AL.Rp (by simp[h.len]) fun j v' u' hj hu=>?_
 rw[gy]at hj hu;obtain⟨u2,h1,h2⟩:=h.get _ v' hj;rw[h1]at hu;cases hu;exact h2
theorem AL.getD {x:Cx}{w:World}{l:List V}{us:List Value}(h:AL x w l us)(i:Nat)(d:Value):CV x w (l.getD i .any) (us.getD i d):=by
 rw[G5,G5];cases hi:l[i]? with
 | none=>simp only[Gl,CV]
 | some v=>obtain⟨u,h1,h2⟩:=h.get i v hi;rw[h1];exact h2
theorem AL.N2 {x:Cx}{w:World} : ∀ {l:List C} {vs:List Value},Bj x.S w l vs->AL x w (l.map V.c) vs
 | [],_,h=>by simp only[Bj]at h;simpa only[A8,AL]using h
 | c::l,vs,h=>by
   simp only[Bj]at h;obtain⟨v,vr,rfl,h1,h2⟩:=h;simp only[Al,AL,CV];exact⟨v,vr,rfl,h1,AL.N2 h2⟩
theorem CV.AP {x:Cx}{w:World}{v:V}{u:Value}(h:CV x w v u){S:Ba}{w':World}(ha:Ar x.S S w w'):CV { x with S:=S } w' v u:=by
 have he:Ext x { x with S:=S } w w':=⟨ha,fun _ h=>h,fun _ _=>Es.refl _⟩
 exact CV.mono he v u h
section
structure KB (B:Nat->Prop)(w w':World):Prop where
 os:w'.os=w.os
 tape:w'.tape=w.tape
 output:w'.output=w.output
 size:w.heap.size<=w'.heap.size
 block : ∀k,k<w.heap.size->¬B k->w'.heap[k]?=w.heap[k]?
theorem KB.GA {B:Nat->Prop}{W W':World}(h:AS W W'):KB B W W':=⟨h.os,h.tape,h.output,h.size,fun k hk _=>h.block k hk⟩
theorem KB.after {B:Nat->Prop}{w W W':World}(h:KB B W W')(hk:AS w W)(hS : ∀k,B k->w.heap.size<=k):AS w W':=
 ⟨h.os.trans hk.os,h.tape.trans hk.tape,h.output.trans hk.output,Tn hk.size h.size,fun k hlt=>(h.block k (H6 hlt hk.size) fun e=>by have:=hS k e;omega).trans (hk.block k hlt)⟩
theorem KB.cell {B:Nat->Prop}{w w':World}(h:KB B w w'){b j:Nat}(hb : ¬B b){v:Value}(hc:w.cell? ⟨b,j,none⟩=some v):w'.cell? ⟨b,j,none⟩=some v:=
 (SR (h.block b (block_lt_of_cell hc) hb)).trans hc
theorem KB.trans {B:Nat->Prop}{w w' w'':World}(h:KB B w w')(k:KB B w' w''):KB B w w'':=
 ⟨k.os.trans h.os,k.tape.trans h.tape,k.output.trans h.output,Tn h.size k.size,fun i hi hn=>(k.block i (H6 hi h.size) hn).trans (h.block i hi hn)⟩
theorem KB.wide {B C:Nat->Prop}{w w':World}(h:KB B w w')(hS : ∀k,B k->C k):KB C w w':=⟨h.os,h.tape,h.output,h.size,fun k hk hn=>h.block k hk fun e=>hn (hS k e)⟩
structure Bs where
 w:World
 F:Nat->Prop
 lt : ∀b,F b->b<w.heap.size
 x0:Cx
 n0:Nat
 dl : ∀k,x0.dom k->k<n0
def Cx.none:Cx:={ dom:=fun _=>False,loc:=fun _=>⟨0,0,false,0,false⟩,S:=fun _ _=>False }
theorem Ext.none (x:Cx)(w w':World):Ext Cx.none x w w':=⟨⟨fun _ _ h=>h.elim,fun _ _ _ h=>h.elim⟩,fun _ h=>h.elim,fun _ h=>h.elim⟩
def Bs.of (w:World):Bs:=⟨w,fun b=>b<w.heap.size,fun _ h=>h,Cx.none,0,fun _ h=>h.elim⟩
theorem KB.all {w w':World}(h:KB (fun b=>¬(Bs.of w).F b) (Bs.of w).w w'):AS w w':=⟨h.os,h.tape,h.output,h.size,fun k hk=>h.block k hk fun hn=>hn hk⟩
def still:Obj->Bool
 | .cells _ _ _=>false
 | .map _ _=>false
 | _=>true
def NX (x:Cx)(w:World)(k:Nat):O->Prop
 | .box ty cells _=>(x.loc k).tok=false/\(x.loc k).void=false/\∃vs:Array Value,w.heap[(x.loc k).b]?=some (.cells vs ty (0,0))/\vs.size=(x.loc k).n/\AL x w cells vs.toList
 | .tok ty _ cur=>(x.loc k).tok=true/\(x.loc k).cur=cur/\((x.loc k).void=false->∃vs:Array Value,w.heap[(x.loc k).b]?=some (.cells vs ty (0,0))/\vs.size=(x.loc k).n)
 | .hot ty es cur cells=>(x.loc k).tok=true/\(x.loc k).void=false/\(x.loc k).cur=cur/\0<cur/\cells.length=es/\∃vs:Array Value,w.heap[(x.loc k).b]?=some (.cells vs ty (0,0))/\vs.size=(x.loc k).n/\cur*es<=vs.size/\AL x w cells ((vs.toList.drop ((cur - 1)*es)).take es)
 | .mp R=>(x.loc k).tok=false/\(x.loc k).void=false/\∃ob:Obj,w.heap[(x.loc k).b]?=some ob/\still ob=false/\R (x.loc k).b ob
def Ex (x:Cx)(k:Nat):O->Nat->Prop
 | .box _ _ fr,j=>fr=false/\j<(x.loc k).n
 | .tok _ es cur,j=>(x.loc k).void=false/\cur*es<=j/\j<(x.loc k).n
 | .hot _ es cur _,j=>(cur - 1)*es<=j/\j<(x.loc k).n
 | .mp _,_=>False
abbrev Heap:=Nat->Option O
def Heap.set (H:Heap)(k:Nat)(o:O):Heap:=fun i=>if i=k then some o else H i
structure Good (S0:Ba)(w0:Bs)(x:Cx)(w:World)(H:Heap):Prop where
 ok : ∀k o,H k=some o->x.dom k/\NX x w k o
 dom : ∀k,x.dom k->∃o,H k=some o
 inj : ∀k k' o o',H k=some o->H k'=some o'->k≠k'->(x.loc k).void=false->(x.loc k').void=false->(x.loc k).b≠(x.loc k').b
 EI : ∀k o j,H k=some o->Ex x k o j->¬x.S (x.loc k).b j
 ex : ∀b j,x.S b j->b<w.heap.size
 own : ∀k o,H k=some o->(x.loc k).void=false->¬w0.F (x.loc k).b
 new : ∀b j,x.S b j->S0 b j\/¬w0.F b
 sub : ∀b j,S0 b j->x.S b j
 keep:KB (fun b=>¬w0.F b) w0.w w
 ext:Ext w0.x0 x w0.w w
theorem Good.fresh {S0:Ba}{w0:Bs}{x:Cx}{w:World}{H:Heap}(g:Good S0 w0 x w H){b:Nat}(h:w.heap.size<=b):¬w0.F b:=fun hF=>by have:=w0.lt b hF;have:=g.keep.size;omega
theorem NX.lt {x:Cx}{w:World}{k:Nat}{o:O}(h:NX x w k o)(hv:(x.loc k).void=false):(x.loc k).b<w.heap.size:=by
 cases o with
 | box ty cells fr=>obtain⟨_,_,vs,h,_⟩:=h;exact(Dy.1 h).1
 | tok ty es cur=>obtain⟨_,_,h⟩:=h;obtain⟨vs,h,_⟩:=h hv;exact(Dy.1 h).1
 | hot ty es cur cells=>obtain⟨_,_,_,_,_,vs,h,_⟩:=h;exact(Dy.1 h).1
 | mp R=>obtain⟨_,_,ob,h,_⟩:=h;exact(Dy.1 h).1
theorem NX.mono {x x':Cx}{w w':World}{k:Nat}{o:O}(h:NX x w k o)(he:Ext x x' w w')(hl:x'.loc k=x.loc k)(hb:(x.loc k).void=false->w'.heap[(x.loc k).b]?=w.heap[(x.loc k).b]?):NX x' w' k o:=by
 cases o with
 | box ty cells fr =>
   obtain⟨h1,h2,vs,h3,h4,h5⟩:=h;exact⟨by rw[hl,h1],by rw[hl,h2],vs,by rw[hl,hb h2,h3],by rw[hl,h4],AL.mono he _ _ h5⟩
 | tok ty es cur =>
   obtain⟨h1,h2,h3⟩:=h;refine⟨by rw[hl,h1],by rw[hl,h2],fun hv=>?_⟩;rw[hl]at hv ⊢;obtain⟨vs,h4,h5⟩:=h3 hv;exact⟨vs,by rw[hb hv,h4],h5⟩
 | hot ty es cur cells =>
   obtain⟨h1,h2,h3,h4,h5,vs,h6,h7,h8,h9⟩:=h;exact⟨by rw[hl,h1],by rw[hl,h2],by rw[hl,h3],h4,h5,vs,by rw[hl,hb h2,h6],by rw[hl,h7],h8,AL.mono he _ _ h9⟩
 | mp R =>
   obtain⟨h1,h2,ob,h3,h4⟩:=h;exact⟨by rw[hl,h1],by rw[hl,h2],ob,by rw[hl,hb h2,h3],by rw[hl];exact h4⟩
theorem Ex.loc {x x':Cx}{k:Nat}{o:O}{j:Nat}(hl:x'.loc k=x.loc k)(h:Ex x' k o j):Ex x k o j:=by
 cases o with
 | mp R=>exact h
 | _=>simpa only[Ex,hl]using h
variable {S0:Ba} {w0:Bs} {x x':Cx} {w w':World} {H:Heap}
theorem Good.Tf (g:Good S0 w0 x w H)(hk:AS w w')(ar:Ar x.S x'.S w w')(hd:x'.dom=x.dom)(hl:x'.loc=x.loc)(hS : ∀b j,x'.S b j->x.S b j\/(w.heap.size<=b/\b<w'.heap.size)):Good S0 w0 x' w' H/\Ext x x' w w':=by
 have he:Ext x x' w w':=⟨ar,fun k h=>by rw[hd];exact h,fun k _=>by rw[hl];exact Es.refl _⟩
 refine⟨⟨fun k o h=>?_,fun k h=>g.dom k (by rw[hd]at h;exact h),fun k k' o o' h h'=>by rw[hl];exact g.inj k k' o o' h h',fun k o j h hx=>?_,fun b j h=>?_,fun k o h=>by rw[hl];exact g.own k o h,fun b j h=>?_,fun b j h=>ar.sub b j (g.sub b j h),g.keep.trans (.GA hk),g.ext.trans he⟩,he⟩
 . obtain⟨h1,h2⟩:=g.ok k o h;exact⟨by rw[hd];exact h1,h2.mono he (by rw[hl]) fun hv=>hk.block _ (h2.lt hv)⟩
 . have M8:Ex x k o j:=Ex.loc (by rw[hl]) hx;intro hs;rw[hl]at hs;rcases hS _ _ hs with hs|hs
   . exact g.EI k o j h M8 hs
   . have h2:=(g.ok k o h).2;have hv:(x.loc k).void=false:=by
      cases o with
      | box ty cells fr=>exact h2.2.1
      | tok ty es cur=>exact M8.1
      | hot ty es cur cells=>exact h2.2.1
      | mp R=>exact h2.2.1
     have:=h2.lt hv;omega
 . rcases hS _ _ h with h|h
   . exact H6 (g.ex b j h) hk.size
   . exact h.2
 . rcases hS _ _ h with h|h
   . exact g.new b j h
   . exact .inr (g.fresh h.1)
theorem Good.IN (g:Good S0 w0 x w H)(k:Nat)(o':O)(he:Ext x x' w w')(hkb:KB (fun b=>x.dom k/\(x.loc k).void=false/\(x.loc k).b=b) w w')(hd : ∀i,x'.dom i↔x.dom i\/i=k)(hl : ∀i,i≠k->x'.loc i=x.loc i)(hpl:(x'.loc k).void=false->(x.dom k/\(x.loc k).void=false/\(x'.loc k).b=(x.loc k).b)\/w.heap.size<=(x'.loc k).b)(Au:NX x' w' k o')(hS : ∀b j,x'.S b j->x.S b j\/(b<w'.heap.size/\(w.heap.size<=b\/(x.dom k/\(x.loc k).void=false/\(x.loc k).b=b))/\((x'.loc k).b=b->¬Ex x' k o' j)))(hex : ∀j,Ex x' k o' j->¬x.S (x'.loc k).b j):Good S0 w0 x' w' (H.set k o'):=by
 have Il : ∀i o,H i=some o->i≠k->(x.loc i).void=false->¬(x.dom k/\(x.loc k).void=false/\(x.loc k).b=(x.loc i).b):=by
  rintro i o hi hne hv ⟨h1,h2,h3⟩;obtain⟨ok,Au⟩:=g.dom k h1;exact g.inj k i ok o Au hi (fun e=>hne e.symm) h2 hv h3
 have hkb' : ∀b,(x.dom k/\(x.loc k).void=false/\(x.loc k).b=b)->¬w0.F b:=by
  rintro b ⟨h1,h2,rfl⟩;obtain⟨ok,Au⟩:=g.dom k h1;exact g.own k ok Au h2
 refine⟨fun i o h=>?_,fun i h=>?_,fun i i' o o2 h h' hne hv hv'=>?_,fun i o j h hx=>?_,fun b j h=>?_,fun i o h hv=>?_,fun b j h=>?_,fun b j h=>he.ar.sub b j (g.sub b j h),g.keep.trans (hkb.wide hkb'),g.ext.trans he⟩
 . by_cases e:i=k
   . subst e;simp[Heap.set]at h;subst h;exact⟨(hd i).2 (.inr rfl),Au⟩
   . simp only[Heap.set,e,if_false]at h;obtain⟨h1,h2⟩:=g.ok i o h;exact⟨(hd i).2 (.inl h1),h2.mono he (hl i e) fun hv=>hkb.block _ (h2.lt hv) (Il i o h e hv)⟩
 . by_cases e:i=k
   . subst e;exact⟨o',by simp[Heap.set]⟩
   . rcases (hd i).1 h with h|h
     . obtain⟨o,ho⟩:=g.dom i h;exact⟨o,by simp[Heap.set,e,ho]⟩
     . exact absurd h e
 .
   have LU : ∀i o,H i=some o->i≠k->(x'.loc i).void=false->(x'.loc k).void=false->(x'.loc i).b≠(x'.loc k).b:=by
    intro i o hi hne hv lh e;rw[hl i hne]at hv e;rcases hpl lh with h|h
    . exact Il i o hi hne hv ⟨h.1,h.2.1,by rw[<-h.2.2,e]⟩
    . have:=((g.ok i o hi).2).lt hv;omega
   by_cases e:i=k
   . subst e;have dq:i'≠i:=fun e=>hne e.symm
     simp only[Heap.set,dq,if_false]at h';exact fun e=>LU i' o2 h' dq hv' hv e.symm
   . simp only[Heap.set,e,if_false]at h;by_cases e':i'=k
     . subst e';exact LU i o h e hv hv'
     . simp only[Heap.set,e',if_false]at h';rw[hl i e]at hv ⊢;rw[hl i' e']at hv' ⊢;exact g.inj i i' o o2 h h' hne hv hv'
 . by_cases e:i=k
   . subst e;simp[Heap.set]at h;subst h;intro hs;rcases hS _ _ hs with hs|hs
     . exact hex j hx hs
     . exact hs.2.2 rfl hx
   . simp only[Heap.set,e,if_false]at h;have M8:Ex x i o j:=Ex.loc (hl i e) hx;have h2:=(g.ok i o h).2;have hv:(x.loc i).void=false:=by
      cases o with
      | box ty cells fr=>exact h2.2.1
      | tok ty es cur=>exact M8.1
      | hot ty es cur cells=>exact h2.2.1
      | mp R=>exact h2.2.1
     intro hs;rw[hl i e]at hs;rcases hS _ _ hs with hs|hs
     . exact g.EI i o j h M8 hs
     . rcases hs.2.1 with hs|hs
       . have:=h2.lt hv;omega
       . exact Il i o h e hv hs
 . rcases hS _ _ h with h|h
   . exact H6 (g.ex b j h) hkb.size
   . exact h.1
 . by_cases e:i=k
   . subst e;rcases hpl hv with h|h
     . obtain⟨ok,Au⟩:=g.dom i h.1;rw[h.2.2];exact g.own i ok Au h.2.1
     . exact g.fresh h
   . simp only[Heap.set,e,if_false]at h;rw[hl i e]at hv ⊢;exact g.own i o h hv
 . rcases hS _ _ h with h|h
   . exact g.new b j h
   . rcases h.2.1 with h|h
     . exact .inr (g.fresh h)
     . exact .inr (hkb' b h)
def Cx.Dl (x:Cx)(k:Nat)(l:Loc):Cx:={ dom:=fun i=>x.dom i\/i=k,loc:=fun i=>if i=k then l else x.loc i,S:=x.S }
theorem Good.kV (k:Nat)(l:Loc)(hk : ¬x.dom k)(hw : ∀b j v,x.S b j->w.cell? ⟨b,j,none⟩=some v->w'.cell? ⟨b,j,none⟩=some v):Ext x (x.Dl k l) w w':=
 ⟨⟨fun _ _ h=>h,hw⟩,fun _ h=>.inl h,fun i hi=>by
   have:i≠k:=fun e=>hk (e ▸ hi)
   simp[Cx.Dl,this,Es.refl]⟩
theorem Good.XU (g:Good S0 w0 x w H)(k:Nat)(hk : ¬x.dom k)(ty:TypeId)(cells:List V)(vs:Array Value)(hv:AL x w cells vs.toList) :
 Good S0 w0 (x.Dl k ⟨w.heap.size,vs.size,false,0,false⟩) (w.alloc (.cells vs ty)) (H.set k (.box ty cells false))/\Ext x (x.Dl k ⟨w.heap.size,vs.size,false,0,false⟩) w (w.alloc (.cells vs ty)):=by
 have Et:AS w (w.alloc (.cells vs ty)):=(AS.refl w).alloc _;have he:Ext x (x.Dl k ⟨w.heap.size,vs.size,false,0,false⟩) w (w.alloc (.cells vs ty)):=Good.kV k _ hk fun b j v _ hc=>Et.cell hc
 refine⟨g.IN k _ he (.GA Et) (fun i=>Qv) (fun i hi=>by simp[Cx.Dl,hi]) (fun _=>.inr (by simp[Cx.Dl])) ?_ (fun b j h=>.inl h) (fun j hx hs=>?_),he⟩
 . refine⟨by simp[Cx.Dl],by simp[Cx.Dl],vs,?_,by simp[Cx.Dl],AL.mono he _ _ hv⟩;simp only[Cx.Dl,if_true];exact heap_alloc_new w _
 . simp only[Cx.Dl,if_true]at hs;have:=g.ex _ _ hs;omega
theorem Good.xQ (g:Good S0 w0 x w H)(k:Nat)(ty:TypeId)(cells cells':List V)(hH:H k=some (.box ty cells false))(vs CQ:Array Value)(hb:w.heap[(x.loc k).b]?=some (.cells vs ty (0,0)))(hs:CQ.size=vs.size)(hv:AL x w cells' CQ.toList) :
 Good S0 w0 x (w.setRow (x.loc k).b CQ) (H.set k (.box ty cells' false))/\Ext x x w (w.setRow (x.loc k).b CQ):=by
 obtain⟨hd,Au⟩:=g.ok k _ hH;obtain⟨h1,h2,us,h3,h4,h5⟩:=Au;rw[hb]at h3;cases h3;have hne : ∀b j,x.S b j->(∃v,w.cell? ⟨b,j,none⟩=some v)->b≠(x.loc k).b:=by
  rintro b j hS ⟨v,hc⟩ rfl;have hj:j<(x.loc k).n:=by
   rw[cell_of_row w _ j vs ty (0,0) hb]at hc;have:=(Dy.1 hc).1;omega
  exact g.EI k _ j hH ⟨rfl,hj⟩ hS
 have he:Ext x x w (w.setRow (x.loc k).b CQ):=⟨⟨fun _ _ h=>h,fun b j v hS hc=>by
  have hb':=hne b j hS ⟨v,hc⟩;rw[SR (w:=w) (a:=⟨b,j,none⟩) (setRow_other w _ b CQ hb')];exact hc⟩,fun _ h=>h,fun _ _=>Es.refl _⟩
 refine⟨g.IN k _ he ⟨rfl,rfl,rfl,by simp,fun i _ hn=>setRow_other w _ i CQ (fun e=>hn ⟨hd,h2,e.symm⟩)⟩ (fun i=>⟨.inl,fun h=>h.elim id (fun e=>e ▸ hd)⟩) (fun _ _=>rfl) (fun _=>.inl ⟨hd,h2,rfl⟩) ?_ (fun b j h=>.inl h) (fun j hx=>g.EI k _ j hH hx),he⟩;exact⟨h1,h2,CQ,setRow_heap w _ vs CQ ty (0,0) hb,by rw[hs,h4],AL.mono he _ _ hv⟩
structure NC (w w':World):Prop where
 size:w.heap.size<=w'.heap.size
 same : ∀(b:Nat) (o:Obj),w.heap[b]?=some o->still o=true->w'.heap[b]?=some o
theorem NC.refl (w:World):NC w w:=⟨BW _,fun _ _ h _=>h⟩
theorem NC.trans {a b c:World}(h:NC a b)(k:NC b c):NC a c:=⟨Tn h.size k.size,fun i o hi ho=>k.same i o (h.same i o hi ho) ho⟩
theorem NC.GA {w w':World}(h:AS w w'):NC w w':=⟨h.size,fun b _ hb _=>(h.block b (Dy.1 hb).1).trans hb⟩
def Bs.re (w0:Bs)(w:World)(h:w0.w.heap.size<=w.heap.size):Bs:=
 ⟨w,fun b=>w0.F b\/∃o:Obj,w.heap[b]?=some o/\still o=true,fun b hb=>by
   rcases hb with hb|⟨o,hb,_⟩
   . exact H6 (w0.lt b hb) h
   . exact(Dy.1 hb).1,Cx.none,0,fun _ h=>h.elim⟩
theorem NX.cells {k:Nat}{o:O}(h:NX x w k o)(hv:(x.loc k).void=false):∃ob:Obj,w.heap[(x.loc k).b]?=some ob/\still ob=false:=by
 cases o with
 | box ty cells fr=>obtain⟨_,_,vs,h,_⟩:=h;exact⟨_,h,rfl⟩
 | tok ty es cur=>obtain⟨_,_,h⟩:=h;obtain⟨vs,h,_⟩:=h hv;exact⟨_,h,rfl⟩
 | hot ty es cur cells=>obtain⟨_,_,_,_,_,vs,h,_⟩:=h;exact⟨_,h,rfl⟩
 | mp R=>obtain⟨_,_,ob,h,hs,_⟩:=h;exact⟨ob,h,hs⟩
theorem Good.VA (g:Good S0 w0 x w H):Good x.S (w0.re w g.keep.size) x w H:=by
 refine⟨g.ok,g.dom,g.inj,g.EI,g.ex,fun k o h hv hF=>?_,fun b j h=>.inl h,fun _ _ h=>h,.GA (AS.refl w),Ext.none _ _ _⟩;rcases hF with hF|⟨ob,h1,h2⟩
 . exact g.own k o h hv hF
 . obtain⟨o2,h3,h4⟩:=(g.ok k o h).2.cells hv;rw[h3]at h1;cases h1;rw[h4]at h2;cases h2
theorem Good.Qp {H':Heap}(g:Good S0 w0 x w H)(he:Ext x x' w w')(g':Good x.S (w0.re w g.keep.size) x' w' H'):Good S0 w0 x' w' H'/\NC w w':=by
 refine⟨⟨g'.ok,g'.dom,g'.inj,g'.EI,g'.ex,fun k o h hv hF=>g'.own k o h hv (.inl hF),fun b j h=>?_,fun b j h=>g'.sub b j (g.sub b j h),g.keep.trans (g'.keep.wide fun b hb hF=>hb (.inl hF)),g.ext.trans he⟩,g'.keep.size,fun b o hb ho=>?_⟩
 . rcases g'.new b j h with h|h
   . exact g.new b j h
   . exact .inr fun hF=>h (.inl hF)
 . exact(g'.keep.block b (Dy.1 hb).1 fun hn=>hn (.inr ⟨o,hb,ho⟩)).trans hb
theorem Good.grown {row:Option Nat}(g:Good S0 w0 x w H)(hg:w.grownBy w' row)(hr : ∀r,row=some r->¬w0.F r/\∃o:Obj,w.heap[r]?=some o/\still o=true):Good S0 w0 x w' H/\Ext x x w w':=by
 have hb : ∀(b:Nat) (ob:Obj),w.heap[b]?=some ob->still ob=false->w'.heap[b]?=w.heap[b]?:=fun b ob h hs=>hg.block b (Dy.1 h).1 fun e=>by
  obtain⟨_,o,h1,h2⟩:=hr b e.symm;rw[h]at h1;cases h1;rw[hs]at h2;cases h2
 have he:Ext x x w w':=⟨⟨fun _ _ h=>h,fun b j v _ hc=>by
  have hh : ∃vs ty fl,w.heap[b]?=some (.cells vs ty fl):=by
   unfold World.cell? at hc;cases hx:w.heap[b]? with
   | none=>simp[hx]at hc
   | some o=>cases o<;>first|exact⟨_,_,_,rfl⟩|simp[hx]at hc
  obtain⟨vs,ty,fl,hh⟩:=hh;exact(SR (hb b _ hh rfl)).trans hc⟩,fun _ h=>h,fun _ _=>Es.refl _⟩
 refine⟨⟨fun k o h=>?_,g.dom,g.inj,g.EI,fun b j h=>H6 (g.ex b j h) hg.size,g.own,g.new,g.sub,g.keep.trans ⟨hg.os,hg.tape,hg.output,hg.size,fun k hk hn=>hg.block k hk fun e=>hn (hr k e.symm).1⟩,g.ext.trans he⟩,he⟩;obtain⟨h1,h2⟩:=g.ok k o h;exact⟨h1,h2.mono he rfl fun hv=>by obtain⟨o2,h3,h4⟩:=h2.cells hv;exact hb _ _ h3 h4⟩
def Marks (w0:Bs)(ds:List Deferred)(w:World):Prop:=∃Ds:List Nat,ds=Ds.map (fun D=>{ target:=.collected D,args:=#[] })/\Ds.Nodup/\∀D∈Ds,¬w0.F D/\w.heap[D]?=some (.deferred (some []))
theorem Marks.nil (w0:Bs)(w:World):Marks w0 [] w:=⟨[],rfl,List.nodup_nil,fun _ h=>nomatch h⟩
theorem Marks.mono {ds:List Deferred}(h:Marks w0 ds w)(hn:NC w w'):Marks w0 ds w':=by
 obtain⟨Ds,h1,h2,h3⟩:=h;exact⟨Ds,h1,h2,fun D hD=>⟨(h3 D hD).1,hn.same D _ (h3 D hD).2 rfl⟩⟩
end
section
def V.one:V->Bool
 | .c _ | .ptr _ _ | .own _ _ _ _ | .cp _ _ | .full _ | .gr _ _ _ | .fn _ _ | .hot _ _ _ | .hp _ _ _ | .yl _ | .mp _=>true
 | .any | .agg _ | .Bk _=>false
def V.cells:V->List V
 | .agg l=>l
 | v=>[v]
def V.flat:V->Bool
 | .agg l=>l.all V.one
 | v=>v.one
theorem CV.one {x:Cx}{w:World}{v:V}{u:Value}(h:CV x w v u)(h1:v.one=true):u.oneCell'=true:=by
 cases v with
 | any=>cases h1
 | agg l=>cases h1
 | Bk l=>cases h1
 | c c=>simp only[CV]at h;exact h.one
 | ptr k off=>simp only[CV]at h;obtain⟨_,_,rfl⟩:=h;rfl
 | own k off len es=>simp only[CV]at h;obtain⟨_,_,cap,rfl,_⟩:=h;rfl
 | cp row off=>simp only[CV]at h;obtain⟨_,_,rfl,_⟩:=h;rfl
 | full rows=>simp only[CV]at h;obtain⟨_,rfl,_⟩:=h;rfl
 | gr k es rows=>simp only[CV]at h;exact h.2.2.1.one
 | fn f caps=>simp only[CV]at h;obtain⟨_,rfl,_⟩:=h;rfl
 | hot k es rows=>simp only[CV]at h;obtain⟨_,_,_,_,A,cap,rfl,_⟩:=h;rfl
 | hp k n pos=>simp only[CV]at h;obtain⟨_,_,_,A,rfl,_⟩:=h;rfl
 | yl l=>simp only[CV]at h;subst h;rfl
 | mp k=>simp only[CV]at h;obtain⟨_,_,rfl⟩:=h;rfl
theorem AAD {u:Value}(h:u.oneCell'=true):u.cells=#[u]:=by cases u<;>first|rfl|cases h
theorem CV.cells {x:Cx}{w:World}{v:V}{u:Value}(h:CV x w v u)(h1:v.flat=true):AL x w v.cells u.cells.toList/\∀y∈u.cells.toList,y.oneCell'=true:=by
 by_cases hv:v.one=true
 . have:=h.one hv;rw[AAD this];have e:v.cells=[v]:=by cases v<;>first|rfl|cases hv
   rw[e];simp only[AL];exact⟨⟨u,[],rfl,h,rfl⟩,by simpa using this⟩
 . cases v with
   | agg l =>
     simp only[CV]at h;obtain⟨vs,rfl,h⟩:=h;refine⟨h,fun y hy=>?_⟩;obtain⟨i,hi⟩:=List.mem_iff_getElem?.1 hy;have M0:i<l.length:=by rw[<-h.len];exact(Bv.1 hi).1
     obtain⟨u,h2,h3⟩:=h.get i l[i] (BP M0);have:u=y:=by
      have h4:vs.toList[i]?=some y:=hi;rw[h4]at h2;cases h2;rfl
     subst this;refine h3.one ?_;simp only[V.flat,Ee]at h1;exact h1 _ (List.getElem_mem M0)
   | _=>first|exact absurd rfl hv|cases h1
def v1:Value->V
 | .int k n=>if (Mj k n).wf then .c (.int k n)else .any
 | .bool b=>.c (.bool b)
 | .string s=>if s.size<=maxLen then .c (.str s)else .any
 | .pointer none=>.c .Rn
 | .nilFunc=>.c .Cn
 | .slice none 0 0=>.full []
 | _=>.any
def R3:Value->V
 | .agg cs=>.agg (cs.toList.map v1)
 | v=>v1 v
theorem AHV (x:Cx)(w:World)(u:Value):CV x w (v1 u) u:=by
 unfold v1;split
 . split
   . simp only[CV,Ap];exact⟨trivial,by assumption⟩
   . simp only[CV]
 . simp only[CV,Ap]
 . split
   . simp only[CV,Ap];exact⟨trivial,by assumption⟩
   . simp only[CV]
 . simp only[CV,Ap]
 . simp only[CV,Ap]
 . simp only[CV,Ap];exact⟨none,rfl,none,0,rfl,by simp,by simp[maxLen],fun h=>absurd rfl h⟩
 . simp only[CV]
theorem xA (x:Cx)(w:World):∀l:List Value,AL x w (l.map v1) l
 | []=>by simp only[A8,AL]
 | u::l=>by simp only[Al,AL];exact⟨u,l,rfl,AHV x w u,xA x w l⟩
theorem AHW (x:Cx)(w:World)(u:Value):CV x w (R3 u) u:=by
 unfold R3;split
 . simp only[CV];exact⟨_,rfl,xA x w _⟩
 . exact AHV x w _
def ev (t:List V):Operand->V
 | .tmp i=>t.getD i .any
 | .const v=>R3 v
 | .func f=>.fn f []
 | .global _=>.any
theorem EH {x:Cx}{w:World}{t:List V}{a:Act}(h:AL x w t a.tmps.toList)(y:Operand):CV x w (ev t y) (a.eval y):=by
 cases y with
 | tmp i =>
   have:=h.getD i undef;simpa [ev,Act.eval,NO,G5]using this
 | const v=>exact AHW x w v
 | func f=>simp only[ev,Act.eval,CV];exact⟨#[],rfl,by simp only[AL]⟩
 | global g=>simp only[ev,CV]
def Ct (P:Program)(t:TypeId):Option (Bool×Nat):=
 match P.underlying t,P.info? t with
 | some d,some i=>some (bj d,i.size)
 | _,_=>none
def DR (P:Program)(t:TypeId):Option (List V):=
 match P.info? t with
 | some i=>i.zero.map fun z=>z.cells.toList.map v1
 | none=>none
def Fx (P:Program)(t:TypeId):Option (Nat->Option (Nat×Nat)):=
 match P.underlying t with
 | some (.struct fields)=>(fields.toList.mapM (fun f=>(P.info? f.type).map fun i=>(f.offset,i.size))).map fun l i=>l[i]?
 | some (.array _ e)=>(P.info? e).map fun ie i=>some (i*ie.size,ie.size)
 | _=>none
def CE (P:Program)(s:TypeId)(f:Nat):Option (Nat×Nat×Bool):=
 match P.underlying s with
 | some (.struct fields)=>match fields[f]? with
   | some fd=>match Ct P fd.type with
     | some (ag,n)=>some (fd.offset,n,ag)
     | none=>none
   | none=>none
 | _=>none
def Dd (P:Program)(t:TypeId):Option (TypeId×Nat×Nat):=
 match P.underlying t with
 | some (.slice e)=>match P.info? e with
   | some i=>match i.zero with
     | some z=>if z.cells.size=i.size then some (e,i.size,i.bytes)else none
     | none=>none
   | none=>none
 | _=>none
def Mg (P:Program)(t:TypeId):Option (Nat×Nat×Bool):=
 match P.underlying t with
 | some (.array n e)=>match Ct P e with
   | some (ag,s)=>some (n,s,ag)
   | none=>none
 | _=>none
def Zk (P:Program)(t:TypeId):Bool:=
 match P.underlying t with
 | some .string=>true
 | _=>false
def AG9 (P:Program)(t:TypeId):Option IntKind:=
 match P.underlying t with
 | some (.int k)=>some k
 | _=>none
def LG (P:Program)(t:TypeId):Bool:=
 match P.underlying t with
 | some (.slice _)=>true
 | _=>false
variable {P:Program} {x:Cx} {w:World}
theorem VT {t:TypeId}{ag:Bool}{n:Nat}(h:Ct P t=some (ag,n)):(isAgg t).run P w=.ok ag w/\(sizeOf t).run P w=.ok n w/\∃i,P.info? t=some i/\i.size=n:=by
 unfold Ct at h;cases hu:P.underlying t with
 | none=>simp[hu]at h
 | some d =>
   cases hi:P.info? t with
   | none=>simp[hu,hi]at h
   | some i =>
     simp only[hu,hi,BE,Cp]at h;obtain⟨rfl,rfl⟩:=h;refine⟨?_,by simp[sizeOf,typeInfo,hi],i,rfl,rfl⟩;unfold isAgg;rw[H9,run_underlying hu w];cases d<;>simp[bj]
def Ek:List V->Nat->List V->List V
 | cs,_,[]=>cs
 | cs,off,v::r=>Ek (cs.set off v) (off+1) r
theorem AFE : ∀(r cs:List V) (off:Nat),(Ek cs off r).length=cs.length
 | [],_,_=>rfl
 | v::r,cs,off=>by simp[Ek,AFE r]
theorem sA (x:Cx)(w:World):∀(r:List V) (us:List Value) (i off:Nat) (cs:List V) (vs:Array Value),AL x w r us->AL x w cs vs.toList->
 AL x w (Ek cs (off+i) r) ((us.zipIdx i).foldl (fun (c:Array Value) (p:Value×Nat)=>c.setIfInBounds (off+p.2) p.1) vs).toList/\((us.zipIdx i).foldl (fun (c:Array Value) (p:Value×Nat)=>c.setIfInBounds (off+p.2) p.1) vs).size=vs.size
 | [],us,i,off,cs,vs,h,hc=>by simp only[AL]at h;subst h;exact⟨by simpa [Ek]using hc,by simp⟩
 | v::r,us,i,off,cs,vs,h,hc=>by
   simp only[AL]at h;obtain⟨u,ur,rfl,h1,h2⟩:=h;simp only[iC,Bl,Ek];have:=sA x w r ur (i+1) off (cs.set (off+i) v) (vs.setIfInBounds (off+i) u) h2 (by simpa using hc.set (off+i) h1);rw[show off+i+1=off+(i+1)by omega];exact⟨this.1,by rw[this.2];simp⟩
def WC (place:Nat->Option (Nat×Nat)):List V->List (Nat×V)->Option (List V)
 | cs,[]=>some cs
 | cs,(i,v)::r=>match place i with
   | none=>none
   | some (off,size)=>if v.flat=true/\v.cells.length=size/\off+size<=cs.length then WC place (Ek cs off v.cells) r else none
theorem AAx (x:Cx)(w:World)(place:Nat->Option (Nat×Nat)):∀(ps:List (Nat×V)) (us:List (Nat×Value)) (cs cs':List V) (vs:Array Value),ps.map (·.1)=us.map (·.1)->AL x w (ps.map (·.2)) (us.map (·.2))->AL x w cs vs.toList->WC place cs ps=some cs'->
 ∃CQ,Zz place vs us=some CQ/\AL x w cs' CQ.toList/\CQ.size=vs.size
 | [],us,cs,cs',vs,he,h,hc,hf=>by
   simp only[A8]at he;have:us=[]:=by cases us<;>simp at he ⊢
   subst this;simp only[WC,BE]at hf;subst hf;exact⟨vs,rfl,hc,rfl⟩
 | (i,v)::ps,us,cs,cs',vs,he,h,hc,hf=>by
   match us,he,h with
   | (j,u)::us,he,h =>
     simp only[Al,R5]at he;obtain⟨rfl,he⟩:=he;simp only[Al,AL,R5]at h;obtain⟨u',ur,⟨rfl,rfl⟩,h1,h2⟩:=h;simp only[WC]at hf;cases hp:place i with
     | none=>rw[hp]at hf;cases hf
     | some q =>
       obtain⟨off,size⟩:=q;rw[hp]at hf;simp only at hf;split at hf
       . rename_i hc';obtain⟨c1,c2,c3⟩:=hc';obtain⟨k1,_⟩:=h1.cells c1;have hl:u.cells.size=size:=by have:=k1.len;simp only[Ep]at this;omega
         have CU:vs.size=cs.length:=by have:=hc.len;simpa using this
         have hfs:=sA x w v.cells u.cells.toList 0 off cs vs k1 hc;obtain⟨CQ,e1,e2,e3⟩:=AAx x w place ps us _ cs' _ he h2 (by simpa using hfs.1) hf;refine⟨CQ,?_,e2,by rw[e3];exact hfs.2⟩;simp only[Zz,hp];rw[if_neg (by simp;omega)];rw[<-e1];congr 1
         rw[<-AHs];simp[AHx]
       . cases hf
def AU (q:Bool×Nat)(cs:List V)(off:Nat):Option V:=
 if q.1 then(if off+q.2<=cs.length then some (.agg ((cs.drop off).take q.2))else none)else cs[off]?
theorem mF {t:TypeId}{q:Bool×Nat}{b o:Nat}{cs:List V}{off:Nat}{v:V}(hq:Ct P t=some q)(hc : ∀j v,cs[j]?=some v->∃u,w.cell? ⟨b,o+j,none⟩=some u/\CV x w v u)(hv:AU q cs off=some v) :
 ∃u,(loadVar t ⟨b,o+off,none⟩).run P w=.ok u w/\CV x w v u:=by
 obtain⟨ag,n⟩:=q;obtain⟨h1,h2,_⟩:=VT (w:=w) hq;unfold AU at hv;cases ag with
 | false =>
   simp only[Fe,if_false]at hv;obtain⟨u,k1,k2⟩:=hc off v hv;refine⟨u,?_,k2⟩;simp[loadVar,h1,load,I5,k1]
 | true =>
   simp only[if_true]at hv;split at hv
   . rename_i hle;cases hv;have hex : ∀j,∃u,j<n->w.cell? ⟨b,o+off+j,none⟩=some u/\CV x w (cs.getD (off+j) .any) u:=by
      intro j;by_cases hj:j<n
      . obtain⟨u,k1,k2⟩:=hc (off+j) (cs.getD (off+j) .any) (by simp[gu,show off+j<cs.length by omega]);exact⟨u,fun _=>⟨by rw[iD];exact k1,k2⟩⟩
      . exact⟨undef,fun h=>absurd h hj⟩
     let f:Nat->Value:=fun j=>(hex j).choose
     have hf : ∀j,j<n->w.cell? ⟨b,o+off+j,none⟩=some (f j)/\CV x w (cs.getD (off+j) .any) (f j):=fun j hj=>(hex j).choose_spec hj
     have hl:=run_loadCells_list (P:=P) w ⟨b,o+off,none⟩ ((E8 n).map f) (fun j u hu=>by
      rw[I9];have hj:j<n:=by have:=(Bv.1 hu).1;simpa using this
      rw[(hf j hj).1];simp[hj]at hu;rw[hu])
     refine⟨.agg ((E8 n).map f).toArray,?_,?_⟩
     . simp only[List.length_map,List.length_range]at hl;simp[loadVar,h1,h2,hl]
     . simp only[CV];refine⟨_,rfl,AL.Rp (by simp;omega) fun i v' u' hi hu=>?_⟩;simp only[Co]at hu;have hin:i<n:=by
        rcases Lq i n with h|h
        . exact h
        . simp[Ln (by simpa using h:(E8 n).length<=i)]at hu
       simp[hin]at hu;subst hu;have:=(hf i hin).2;rw[Jv,if_pos hin,gy]at hi;simpa [gu,hi]using this
   . cases hv
end
section
inductive Pl where
 | fail
 | val (v:V)
 | rd (k:Nat) (g:O->Option V)
 | wr (k:Nat) (g:O->Option (O×V))
 | new (o:O) (mk:Nat->V)
def Pl.ap (H:Heap)(k0:Nat):Pl->Option (V×Option (Nat×O))
 | .fail=>none
 | .val v=>some (v,none)
 | .rd k g=>match H k with
   | some o=>match g o with
     | some v=>some (v,none)
     | none=>none
   | none=>none
 | .wr k g=>match H k with
   | some o=>match g o with
     | some (o',v)=>some (v,some (k,o'))
     | none=>none
   | none=>none
 | .new o mk=>some (mk k0,some (k0,o))
def Heap.upd (H:Heap):Option (Nat×O)->Heap
 | none=>H
 | some (k,o)=>H.set k o
def Lg:Option V->Pl
 | some v=>.val v
 | none=>.fail
def X3:V->Option (List (List C))
 | .c (.sl r)=>some r
 | .full r=>some r
 | .gr _ _ r=>some r
 | _=>none
def toC:V->Option C
 | .c c=>some c
 | .full r=>some (.sl r)
 | .gr _ _ r=>some (.sl r)
 | .fn f []=>some (.Du f)
 | _=>none
def toCs:List V->Option (List C)
 | []=>some []
 | v::r=>match toC v,toCs r with
   | some c,some l=>some (c::l)
   | _,_=>none
def XW (k:IntKind)(a b:Int):Int:=k.wrap (BitVec.ofInt k.bits a ||| BitVec.ofInt k.bits b).toNat
def gF (P:Program)(t:TypeId):Bool:=
 match P.underlying t with
 | some .bool=>true
 | _=>false
def jY (tb:Bool)(op:BinOp):V->V->Option V
 | .c (.int k a),.c (.int k' b)=>if k=k' then match op with
    | .add=>some (.c (.int k (k.wrap (a+b))))
    | .sub=>some (.c (.int k (k.wrap (a - b))))
    | .mul=>some (.c (.int k (k.wrap (a*b))))
    | .quo=>if b=0 then none else some (.c (.int k (k.wrap (a.tdiv b))))
    | .rem=>if b=0 then none else some (.c (.int k (k.wrap (a.tmod b))))
    | .eql=>some (.c (.bool (decide (a=b))))
    | .neq=>some (.c (.bool (!decide (a=b))))
    | .lss=>some (.c (.bool (decide (a<b))))
    | .leq=>some (.c (.bool (decide (a<=b))))
    | .gtr=>some (.c (.bool (decide (b<a))))
    | .geq=>some (.c (.bool (decide (b<=a))))
    | .or=>some (.c (.int k (XW k a b)))
    | _=>none
    else none
 | .c (.str a),.c (.str b)=>match op with
    | .eql=>some (.c (.bool (decide (a=b))))
    | .neq=>some (.c (.bool (!decide (a=b))))
    | .add=>if a.size+b.size<=maxLen then some (.c (.str (a++b)))else none
    | _=>none
 | .c (.bool a),.c (.bool b)=>match op with
    | .eql=>if tb then some (.c (.bool (a==b)))else none
    | .neq=>if tb then some (.c (.bool (!(a==b))))else none
    | _=>none
 | _,_=>none
def ju (op:UnOp):V->Option V
 | .c (.int k n)=>match op with
   | .neg=>some (.c (.int k (k.wrap (0 - n))))
   | _=>none
 | .c (.bool b)=>match op with
   | .not=>some (.c (.bool !b))
   | _=>none
 | _=>none
def jZ (P:Program)(dst:TypeId):V->Option V
 | .c (.int _ n)=>match AG9 P dst with
   | some k=>some (.c (.int k (k.wrap n)))
   | none=>none
 | _=>none
def je (P:Program)(t:TypeId):V->V->Option V
 | .c (.str s),.c (.int _ i)=>if Zk P t then(if 0<=i then(s.data.toList[i.toNat]?).map fun b=>.c (.int .u8 b.toNat)else none)else none
 | .agg l,.c (.int _ i)=>match Mg P t with
   | some (n,s,ag)=>if 0<=i/\i<n then AU (ag,s) l (i.toNat*s)else none
   | none=>none
 | _,_=>none
def jf (P:Program)(t:TypeId)(x:V):V->Option V
 | .c (.int _ i)=>match x with
   | .own k off len es=>match Dd P t with
     | some (_,es',_)=>if es'=es/\0<=i/\i<len then some (.ptr k (off+i.toNat*es))else none
     | none=>none
   | .ptr k off=>match Mg P t with
     | some (n,s,_)=>if 0<=i/\i<n then some (.ptr k (off+i.toNat*s))else none
     | none=>none
   | .cp row off=>match Mg P t with
     | some (n,s,_)=>if 0<=i/\i<n then some (.cp row (off+i.toNat*s))else none
     | none=>none
   | x=>match X3 x,Dd P t with
     | some rows,some (_,es,_)=>if 0<=i/\i<rows.length then match rows[i.toNat]? with
        | some r=>if r.length=es then some (.cp r 0)else none
        | none=>none
       else none
     | _,_=>none
 | _=>none
def jb (P:Program)(s:TypeId)(f:Nat):V->Option V
 | .ptr k off=>match CE P s f with
   | some (o,n,_)=>if n=0 then none else some (.ptr k (off+o))
   | none=>none
 | .cp row off=>match CE P s f with
   | some (o,n,_)=>if n=0 then none else some (.cp row (off+o))
   | none=>none
 | _=>none
def jh (P:Program)(t:TypeId):V->Option V
 | .c (.str s)=>if Zk P t then some (.c (.int .i64 s.size))else none
 | .own _ _ len _=>if LG P t then some (.c (.int .i64 len))else none
 | x=>match X3 x with
   | some rows=>if LG P t then some (.c (.int .i64 rows.length))else none
   | none=>none
def T3 (mx:Bool):Int->IntKind->List V->Option V
 | a,k,[]=>some (.c (.int k a))
 | a,k,.c (.int k' b)::r=>if k=k' then T3 mx (if mx then(if a<b then b else a)else(if b<a then b else a)) k r else none
 | _,_,_=>none
def Ya (mx:Bool):List V->Option V
 | .c (.int k a)::r=>T3 mx a k r
 | _=>none
def jt (P:Program)(t:TypeId)(x:V)(lo hi:Option V):Option V:=
 match lo.getD (.c (.int .i64 0)),x with
 | .c (.int _ l),.c (.str s)=>match hi.getD (.c (.int .i64 s.size))with
   | .c (.int _ h)=>if Zk P t=true/\0<=l/\l<=h/\h<=s.size then some (.c (.str (s.extract l.toNat h.toNat)))else none
   | _=>none
 | .c (.int _ l),x=>match X3 x with
   | some rows=>match hi.getD (.c (.int .i64 rows.length)),Dd P t with
     | .c (.int _ h),some (_,es,_)=>if (rows.all fun r=>r.length==es)=true/\0<=l/\l<=h/\h<=rows.length then some (.c (.sl ((rows.take h.toNat).drop l.toNat)))else none
     | _,_=>none
   | none=>none
 | _,_=>none
def Vu (e:Operand->V)(es:Nat):Nat->List (Nat×Operand)->Option (List (List C))
 | _,[]=>some []
 | i,(j,x)::r=>if j=i/\(e x).flat=true/\(e x).cells.length=es then match toCs (e x).cells,Vu e es (i+1) r with
    | some row,some rows=>some (row::rows)
    | _,_=>none
   else none
def ji (P:Program)(e:Operand->V):Op->Pl
 | .move x=>.val (e x)
 | .assign x=>.val (e x)
 | .pick c a b=>match e c with
   | .c (.bool t)=>.val (if t then e a else e b)
   | _=>.fail
 | .alloc ty=>match DR P ty with
   | some z=>.new (.box ty z false) fun k=>.ptr k 0
   | none=>.fail
 | .box ty x=>if (e x).flat then .new (.box ty (e x).cells false) fun k=>.ptr k 0 else .fail
 | .build t parts=>match DR P t,Fx P t with
   | some z,some pl=>match WC pl z (parts.toList.map fun p=>(p.1,e p.2))with
     | some cs=>.val (.agg cs)
     | none=>.fail
   | _,_=>.fail
 | .buildSlice t len parts=>match Dd P t with
   | some (_,es,_)=>if 0<len*es/\len*es<=2 ^ 24/\parts.toList.length=len then match Vu e es 0 parts.toList with
      | some rows=>.val (.full rows)
      | none=>.fail
     else .fail
   | none=>.fail
 | .load t a=>match Ct P t,e a with
   | some q,.ptr k off=>.rd k fun
     | .box _ cs _=>AU q cs off
     | _=>none
   | some q,.cp row off=>Lg (AU q (row.map V.c) off)
   | _,_=>.fail
 | .store t a y=>match Ct P t,e a with
   | some q,.ptr k off=>.wr k fun
     | .box ty cs false=>if (e y).flat=true/\(e y).cells.length=q.2/\off+q.2<=cs.length then some (.box ty (Ek cs off (e y).cells) false,.any)else none
     | _=>none
   | _,_=>.fail
 | .nilCheck x=>match e x with
   | .ptr k off=>.val (.ptr k off)
   | .cp row off=>.val (.cp row off)
   | _=>.fail
 | .binOp op t a b _=>Lg (jY (gF P t) op (e a) (e b))
 | .unOp op _ a=>Lg (ju op (e a))
 | .convert s d a=>match Ct P s with
   | some _=>Lg (jZ P d (e a))
   | none=>.fail
 | .makeFunc (.func f) first caps=>if first.size=0 then .val (.fn f (caps.toList.map e))else .fail
 | .makeSlice t l c=>match Dd P t,e l,e c with
   | some (ty,es,Bu),.c (.int _ l),.c (.int _ c)=>match DR P ty with
     | some z=>if l=c/\0<=l/\(Bu:Int)*l<=281474976710656/\l<=9223372036854775807 then .new (.box ty (As l.toNat z).flatten false) fun k=>.own k 0 l.toNat es else .fail
     | none=>.fail
   | _,_,_=>.fail
 | .slice t y lo hi none=>Lg (jt P t (e y) (lo.map e) (hi.map e))
 | .fieldAddr s y f=>Lg (jb P s f (e y))
 | .field s y f=>match CE P s f,e y with
   | some (o,n,ag),.agg l=>Lg (AU (ag,n) l o)
   | _,_=>.fail
 | .indexAddr t y i=>Lg (jf P t (e y) (e i))
 | .index t y i=>Lg (je P t (e y) (e i))
 | .extract y i=>match e y with
   | .Bk l=>Lg l[i]?
   | _=>.fail
 | .call ⟨.builtin .len,args,He⟩=>match args.toList,He.toList with
   | [y],[t]=>Lg (jh P t (e y))
   | _,_=>.fail
 | .call ⟨.builtin .max,args,_⟩=>Lg (Ya true (args.toList.map e))
 | .call ⟨.builtin .min,args,_⟩=>Lg (Ya false (args.toList.map e))
 | _=>.fail
def uQ:Op->Bool
 | .buildSlice _ _ _=>true
 | .call ⟨.builtin .append,_,_⟩=>true
 | _=>false
def Bm (P:Program)(o:Oper)(a:Act)(S0:Ba)(w0:Bs)(x:Cx)(w:World)(H:Heap)(v:V)(t:Option (Nat×O)):Prop:=
 ∃nx w' x' u,(execOp a.eval o).run P w=.ok nx w'/\(nx=.value u\/(nx=.skip/\u=undef))/\CV x' w' v u/\Good S0 w0 x' w' (H.upd t)/\Ext x x' w w'/\(∀k,x'.dom k->x.dom k\/∃o,t=some (k,o))/\(uQ o.op=false->x'.S=x.S)
variable {P:Program} {S0:Ba} {w0:Bs} {x:Cx} {w:World} {H:Heap} {a:Act} {o:Oper} {e:Operand->V} {v:V}
theorem Bm.pure (g:Good S0 w0 x w H){u:Value}(hr:(execOp a.eval o).run P w=.ok (.value u) w)(hv:CV x w v u):Bm P o a S0 w0 x w H v none:=
 ⟨_,w,x,u,hr,.inl rfl,hv,g,Ext.refl x w,fun _ h=>.inl h,fun _=>rfl⟩
theorem gO (k:IntKind)(n:Int):(Mj k (k.wrap n)).wf=true:=by
 have:=wrap_within k n;simp[Pd,this.1,this.2]
theorem Qs {n:Nat}(h:n<=maxLen):(Mj .i64 (n:Int)).wf=true:=by
 have h1:Ad.min= -9223372036854775808:=by decide +kernel
 have h2:Ad.max=9223372036854775807:=by decide +kernel
 unfold maxLen at h;simp[Pd,h1,h2];omega
theorem AHn {k:IntKind}{n:Int}(h:(Mj k n).wf=true):k.wrap n=n:=by
 simp only[Pd,An,decide_eq_true_eq]at h;cases k<;>simp[IntKind.wrap,IntKind.min,IntKind.max,IntKind.bits,IntKind.signed]at h ⊢<;>omega
theorem AHC {k:IntKind}{a b:Int}(ha:(Mj k a).wf=true):(Mj k (a.tmod b)).wf=true:=by
 simp only[Pd,An,decide_eq_true_eq]at ha ⊢;have h0:k.min<=0/\0<=k.max:=by cases k<;>decide +kernel
 have h2:(a.tmod b).natAbs<=a.natAbs:=by rw[Int.natAbs_tmod];exact Nat.mod_le _ _
 rcases Int.lt_or_le a 0 with h|h
 . have h1:=Pb (a:= -a) b (by omega);rw[Int.neg_tmod]at h1;omega
 . have h1:=Pb (a:=a) b h;omega
theorem AJu {a b:ByteArray}:(a.toList==b.toList)=decide (a=b):=by
 rw[oC,oC];by_cases h:a=b
 . subst h;simp
 . have : ¬a.data=b.data:=fun e=>h (by cases a;cases b;simpa using e)
   simp[h,this]
theorem ATJ (k:IntKind)(ty:TypeId)(n m:Int)(w:World):(binOp .or ty (.int k n) (.int k m)).run P w=.ok (.int k (XW k n m)) w:=by
 have e:binOp .or ty (.int k n) (.int k m)=if k≠k then stuck "BinOp: operands of different kinds" else pure (.int k (XW k n m)):=rfl
 rw[e,if_neg (by simp)];rfl
theorem ATG {ty:TypeId}(s t:Bool)(w:World)(h:P.underlying ty=some .bool):(binOp .eql ty (.bool s) (.bool t)).run P w=.ok (.bool (s==t)) w/\(binOp .neq ty (.bool s) (.bool t)).run P w=.ok (.bool (!(s==t))) w:=by
 have e:(OI ty (.bool s) (.bool t)).run P w=.ok (s==t) w:=by
  unfold OI;show (YD (9999+1) ty _ _).run P w=_;unfold YD;have hu:(underlying ty).run P w=.ok .bool w:=by simp[Go.underlying,program,I5,h]
  simp[hu]
 have e1:binOp .eql ty (.bool s) (.bool t)=(do let b <-OI ty (.bool s) (.bool t);pure (.bool b)):=rfl;have e2:binOp .neq ty (.bool s) (.bool t)=(do let b <-OI ty (.bool s) (.bool t);pure (.bool (!b))):=rfl;rw[e1,e2];simp[e]
theorem APl (g:Good S0 w0 x w H){op:BinOp}{ty Fy:TypeId}{y z:Operand}(ho:o.op=.binOp op ty y z Fy)(hy:CV x w (e y) (a.eval y))(hz:CV x w (e z) (a.eval z))(h:jY (gF P ty) op (e y) (e z)=some v):Bm P o a S0 w0 x w H v none:=by
 generalize e y=Y at *
 generalize e z=Z at *
 unfold jY at h;split at h
 . rename_i k n k' m;simp only[CV,Ap]at hy hz;obtain⟨hy,wy⟩:=hy;obtain⟨hz,wz⟩:=hz;split at h
   . rename_i hk;subst hk;cases op<;>simp only at h<;>first
      | (cases h;refine Bm.pure g (u:=.int k (XW k n m)) (by simp[execOp,ho,eqGuard,ATJ,hy,hz]) ?_;simp only[CV,Ap];exact⟨trivial,gO _ _⟩;done)
      | (cases h;refine Bm.pure g (u:=.bool (decide (n=m))) (by simp[execOp,ho,eqGuard,binOp,Op.intCmp,hy,hz,BEq.beq]) ?_;simp only[CV,Ap];done)
      | (cases h;refine Bm.pure g (u:=.bool (!decide (n=m))) (by simp[execOp,ho,eqGuard,binOp,Op.intCmp,hy,hz,bne,BEq.beq]) ?_;simp only[CV,Ap];done)
      | (cases h;refine Bm.pure g (u:=_) (by simp[execOp,ho,eqGuard,binOp,Op.intArith,Op.intCmp,hy,hz];rfl) ?_;first|(simp only[CV,Ap];exact⟨trivial,gO _ _⟩)|(simp only[CV,Ap];done)|(simp only[CV,Ap];congr 1;simp[bne]))
      | (split at h
         . cases h
         . rename_i hb;cases h;refine Bm.pure g (u:=_) (by simp[execOp,ho,eqGuard,binOp,Op.intDiv,hy,hz,hb];rfl) ?_;first|(simp only[CV,Ap];exact⟨trivial,gO _ _⟩)|(simp only[CV,Ap,AHn (AHC wy)];exact⟨trivial,AHC wy⟩))
      | cases h
   . cases h
 . rename_i s t;simp only[CV,Ap]at hy hz;obtain⟨hy,wy⟩:=hy;obtain⟨hz,wz⟩:=hz;cases op<;>simp only at h<;>first
    | (cases h;refine Bm.pure g (u:=_) (by simp[execOp,ho,eqGuard,binOp,Op.stringOp,hy,hz,AJu];rfl) ?_;simp only[CV,Ap];done)
    | (split at h
       . rename_i hl;cases h;have hi:Ad.max=9223372036854775807:=by decide +kernel
         unfold maxLen at hl;refine Bm.pure g (u:=.string (s++t)) (by simp[execOp,ho,eqGuard,binOp,Op.stringOp,hy,hz,hi];omega) ?_;simp only[CV,Ap];exact⟨trivial,by rw[ByteArray.size_append];unfold maxLen;omega⟩
       . cases h)
    | cases h
 . rename_i s t;simp only[CV,Ap]at hy hz;have hb : ∀ {r:Bool},(if gF P ty=true then some (V.c (.bool r))else none)=some v->P.underlying ty=some .bool/\v=.c (.bool r):=fun hr=>by
    split at hr
    . rename_i e;cases hr;unfold gF at e;split at e
      . rename_i e2;exact⟨e2,rfl⟩
      . cases e
    . cases hr
   cases op<;>simp only at h<;>first
    | (obtain⟨e,rfl⟩:=hb h
       refine Bm.pure g (u:=_) (by simp[execOp,ho,eqGuard,ATG _ _ _ e,hy,hz];rfl) ?_;simp only[CV,Ap];done)
    | cases h
 . cases h
theorem AP9 (g:Good S0 w0 x w H){op:UnOp}{ty:TypeId}{y:Operand}(ho:o.op=.unOp op ty y)(hy:CV x w (e y) (a.eval y))(h:ju op (e y)=some v):Bm P o a S0 w0 x w H v none:=by
 generalize e y=Y at *
 unfold ju at h;split at h
 . rename_i k n;simp only[CV,Ap]at hy;split at h
   . cases h;refine Bm.pure g (u:=.int k (k.wrap (0 - n))) (by simp[execOp,ho,Op.unary,Op.intArith,hy.1]) ?_;simp only[CV,Ap];exact⟨trivial,gO _ _⟩
   . cases h
 . simp only[CV,Ap]at hy;split at h
   . cases h;refine Bm.pure g (u:=_) (by simp[execOp,ho,Op.unary,hy];rfl) ?_;simp only[CV,Ap]
   . cases h
 . cases h
theorem APo (g:Good S0 w0 x w H){s d:TypeId}{y:Operand}(hs : ∃ds,P.underlying s=some ds)(ho:o.op=.convert s d y)(hy:CV x w (e y) (a.eval y))(h:jZ P d (e y)=some v):Bm P o a S0 w0 x w H v none:=by
 generalize e y=Y at *
 unfold jZ at h;split at h
 . simp only[CV,Ap]at hy;obtain⟨ds,hs⟩:=hs;unfold AG9 at h;cases hu:P.underlying d with
   | none=>rw[hu]at h;cases h
   | some dd =>
     rw[hu]at h;cases dd<;>simp only at h<;>try (cases h;done)
     cases h;refine Bm.pure g (u:=_) (by simp[execOp,ho,convert,run_underlying hs,run_underlying hu,Conv.intToInt,hy.1];rfl) ?_;simp only[CV,Ap];exact⟨trivial,gO _ _⟩
 . cases h
end
section
variable {P:Program} {S0:Ba} {w0:Bs} {x:Cx} {w:World} {H:Heap} {a:Act} {o:Oper} {e:Operand->V} {v:V}
theorem APw (g:Good S0 w0 x w H){t:TypeId}{y:Operand}(ho:o.op=.load t y){q:Bool×Nat}(hq:Ct P t=some q){k off:Nat}(hy:CV x w (.ptr k off) (a.eval y)){ty:TypeId}{cs:List V}{fr:Bool}(hH:H k=some (.box ty cs fr))(h:AU q cs off=some v):Bm P o a S0 w0 x w H v none:=by
 obtain⟨_,Au⟩:=g.ok k _ hH;obtain⟨_,_,vs,hb,hn,hcs⟩:=Au;simp only[CV]at hy;obtain⟨_,_,hy⟩:=hy;obtain⟨u,hr,hv⟩:=mF (x:=x) (w:=w) (b:=(x.loc k).b) (o:=0) hq (fun j v hj=>by
  obtain⟨u,h1,h2⟩:=hcs.get j v hj;refine⟨u,?_,h2⟩;rw[Cu,cell_of_row w _ j vs ty (0,0) hb];simpa using h1) h
 refine Bm.pure g (u:=u) ?_ hv;rw[Cu]at hr;simp[execOp,ho,oI,hy,Qw,hr]
theorem APv (g:Good S0 w0 x w H){t:TypeId}{y:Operand}(ho:o.op=.load t y){q:Bool×Nat}(hq:Ct P t=some q){row:List C}{off:Nat}(hy:CV x w (.cp row off) (a.eval y))(h:AU q (row.map V.c) off=some v):Bm P o a S0 w0 x w H v none:=by
 simp only[CV]at hy;obtain⟨b,Hy,hy,hr⟩:=hy;obtain⟨u,hr,hv⟩:=mF (x:=x) (w:=w) (b:=b) (o:=Hy) hq (fun j v hj=>by
  rw[Co,G6]at hj;obtain⟨c,hc,rfl⟩:=hj;obtain⟨u,h1,h2⟩:=hr.get hc;exact⟨u,h1,by simpa only[CV]using h2⟩) h
 refine Bm.pure g (u:=u) ?_ hv;simp[execOp,ho,oI,hy,Qw,hr]
theorem run_storeCells_at {g:Nat}{t:TypeId}{off:Nat} : ∀(vs:List Value) (i:Nat) (w:World) (old:Array Value),B8 w g t old->off+i+vs.length<=old.size->(∀v∈vs,v.oneCell'=true)->
 (storeCells ⟨g,off,none⟩ vs i).run P w=.ok () (w.setRow g ((vs.zipIdx i).foldl (fun (c:Array Value) (p:Value×Nat)=>c.setIfInBounds (off+p.2) p.1) old)):=by
 intro vs;induction vs with
 | nil=>intro i w old hb _ _;simp[storeCells,setRow_self w g old t (0,0) hb]
 | cons v r ih =>
   intro i w old hb hi hv;have hlt:off+i<old.size:=by simp at hi;omega
   have hc:w.cell? ⟨g,off+i,none⟩=some (old[off+i]):=by rw[hb.cell];simp[hlt]
   have hst:(store ⟨g,off+i,none⟩ v .plain).run P w=.ok () (w.setRow g (old.setIfInBounds (off+i) v)):=by
    rw[run_store P _ _ v .plain (hv v (by simp)),setCell_eq_setRow w g (off+i) old t (0,0) v hb];simp[hc,hb.frozen]
   unfold storeCells;rw[H9,I9,hst];simp only[Lr];rw[ih (i+1) _ (old.setIfInBounds (off+i) v) (hb.Xr _) (by simp at hi ⊢;omega) (fun u hu=>hv u (by simp[hu])),setRow_setRow];simp[iC]
theorem AP7 (g:Good S0 w0 x w H){t:TypeId}{y z:Operand}(ho:o.op=.store t y z){q:Bool×Nat}(hq:Ct P t=some q){k off:Nat}(hy:CV x w (.ptr k off) (a.eval y))(hz:CV x w (e z) (a.eval z)){ty:TypeId}{cs:List V}(hH:H k=some (.box ty cs false))(h1:(e z).flat=true)(h2:(e z).cells.length=q.2)(h3:off+q.2<=cs.length):Bm P o a S0 w0 x w H .any (some (k,.box ty (Ek cs off (e z).cells) false)):=by
 obtain⟨hd,Au⟩:=g.ok k _ hH;obtain⟨_,_,vs,hb,hn,hcs⟩:=Au;simp only[CV]at hy;obtain⟨_,_,hy⟩:=hy;obtain⟨c1,c2⟩:=hz.cells h1;obtain⟨_,hs,_⟩:=VT (w:=w) (P:=P) (ag:=q.1) (n:=q.2) hq;have ZG:vs.size=cs.length:=by have:=hcs.len;simpa using this
 have TG:(a.eval z).cells.size=q.2:=by have:=c1.len;simp only[Ep]at this;omega
 have hf:=sA x w (e z).cells (a.eval z).cells.toList 0 off cs vs c1 hcs;have hr:=run_storeCells_at (P:=P) (t:=ty) (off:=off) (a.eval z).cells.toList 0 w vs hb (by simp;omega) c2;obtain⟨g',he⟩:=g.xQ k ty cs (Ek cs off (e z).cells) hH vs _ hb hf.2 hf.1;refine⟨.skip,_,x,undef,?_,.inr ⟨rfl,rfl⟩,by simp only[CV],g',he,fun _ h=>.inl h,fun _=>rfl⟩;simp[execOp,ho,Instr.storeAt,hy,Qw,storeVar,hs,TG,hr]
theorem AEN (g:Good S0 w0 x w H){ty:TypeId}{cs:List V}{vs:Array Value}(hv:AL x w cs vs.toList)(k0:Nat)(hk : ¬x.dom k0)(hr:(execOp a.eval o).run P w=.ok (.value (.pointer (some ⟨w.heap.size,0,none⟩))) (w.alloc (.cells vs ty))) :
 Bm P o a S0 w0 x w H (.ptr k0 0) (some (k0,.box ty cs false)):=by
 obtain⟨g',he⟩:=g.XU k0 hk ty cs vs hv;refine⟨_,_,_,_,hr,.inl rfl,?_,g',he,fun k h=>h.elim .inl fun e=>.inr ⟨.box ty cs false,by rw[e]⟩,fun _=>rfl⟩;simp only[CV,Cx.Dl,if_true];exact⟨.inr trivial,trivial,trivial⟩
theorem APm (g:Good S0 w0 x w H){ty:TypeId}{y:Operand}(ho:o.op=.box ty y)(hy:CV x w (e y) (a.eval y))(hf:(e y).flat=true)(k0:Nat)(hk : ¬x.dom k0):Bm P o a S0 w0 x w H (.ptr k0 0) (some (k0,.box ty (e y).cells false)):=by
 refine AEN g (hy.cells hf).1 k0 hk ?_;simp[execOp,ho,Instr.box,newVar,newRow]
theorem Zl {t:TypeId}{z:List V}(h:DR P t=some z):∃zv,(zeroValue t).run P w=.ok zv w/\AL x w z zv.cells.toList/\∃i,P.info? t=some i/\i.zero=some zv:=by
 unfold DR at h;cases hi:P.info? t with
 | none=>simp[hi]at h
 | some i =>
   simp only[hi,G6]at h;obtain⟨zv,hz,rfl⟩:=h;exact⟨zv,by simp[zeroValue,typeInfo,hi,hz],xA x w _,i,rfl,hz⟩
theorem APc (g:Good S0 w0 x w H){ty:TypeId}(ho:o.op=.alloc ty){z:List V}(hz:DR P ty=some z)(k0:Nat)(hk : ¬x.dom k0):Bm P o a S0 w0 x w H (.ptr k0 0) (some (k0,.box ty z false)):=by
 obtain⟨zv,h1,h2,_⟩:=Zl (x:=x) (w:=w) hz;refine AEN g h2 k0 hk ?_;simp[execOp,ho,Instr.alloc,h1,newVar,newRow]
theorem AEe (a:Act)(parts:Array (Nat×Operand)):(parts.map fun (i,y)=>(i,a.eval y)).toList=parts.toList.map fun p=>(p.1,a.eval p.2):=by simp
theorem AL.of_map {x:Cx}{w:World}{e:Operand->V}{a:Act} : ∀ {l:List Operand},(∀y∈l,CV x w (e y) (a.eval y))->AL x w (l.map e) (l.map a.eval)
 | [],_=>by simp only[A8,AL]
 | y::l,h=>by simp only[Al,AL];exact⟨_,_,rfl,h y (by simp),AL.of_map fun y hy=>h y (by simp[hy])⟩
theorem vH (g:Good S0 w0 x w H){t:TypeId}{parts:Array (Nat×Operand)}(ho:o.op=.build t parts)(hp : ∀p∈parts.toList,CV x w (e p.2) (a.eval p.2)){z:List V}{pl:Nat->Option (Nat×Nat)}{cs:List V}(hz:DR P t=some z)(hpl:Fx P t=some pl)(h:WC pl z (parts.toList.map fun p=>(p.1,e p.2))=some cs):Bm P o a S0 w0 x w H (.agg cs) none:=by
 obtain⟨zv,h1,h2,i,hi,TH⟩:=Zl (x:=x) (w:=w) hz;obtain⟨vs,k1,k2,_⟩:=AAx x w pl (parts.toList.map fun p=>(p.1,e p.2)) (parts.toList.map fun p=>(p.1,a.eval p.2)) z cs zv.cells (by simp) (by
  simp only[Mi];have:=AL.of_map (x:=x) (w:=w) (e:=e) (a:=a) (l:=parts.toList.map (·.2)) (by
   intro y hy;obtain⟨p,HQ,rfl⟩:=DC.1 hy;exact hp p HQ)
  simp only[Mi]at this;exact this) h2 h
 have hb:P.built t (parts.map fun (i,y)=>(i,a.eval y)).toList=some vs:=by
  rw[AEe];unfold Program.built;unfold Fx at hpl;cases hu:P.underlying t with
  | none=>simp[hu]at hpl
  | some d =>
    simp only[hi,TH];cases d<;>simp only[hu]at hpl<;>try (cases hpl;done)
    . simp only[G6]at hpl;obtain⟨ie,hie,rfl⟩:=hpl;simp only[hie,TH];exact k1
    . simp only[G6]at hpl;obtain⟨FG,ANP,rfl⟩:=hpl;simp only[ANP,TH,gz];exact k1
 refine Bm.pure g (u:=.agg vs) ?_ (by simp only[CV];exact⟨vs,rfl,k2⟩);simp only[execOp,ho];simp only[H9,run_build w t _ vs hb,Lr];rfl
theorem AAw {s:TypeId}{f off n:Nat}{ag:Bool}(h:CE P s f=some (off,n,ag)):∃fields fd,P.underlying s=some (.struct fields)/\fields[f]?=some fd/\fd.offset=off/\Ct P fd.type=some (ag,n):=by
 unfold CE at h;cases hu:P.underlying s with
 | none=>simp[hu]at h
 | some d =>
   rw[hu]at h;cases d<;>simp only at h<;>try (cases h;done)
   rename_i fields;cases hf:fields[f]? with
   | none=>simp[hf]at h
   | some fd =>
     rw[hf]at h;simp only at h;cases ht:Ct P fd.type with
     | none=>simp[ht]at h
     | some q =>
       rw[ht]at h;simp only[BE,Cp]at h;obtain⟨rfl,rfl,rfl⟩:=h;exact⟨fields,fd,rfl,hf,rfl,ht⟩
theorem AF2 {s:TypeId}{f off n:Nat}{ag:Bool}(h:CE P s f=some (off,n,ag))(hn:n≠0)(b Hy:Nat):(Instr.fieldAt s (.pointer (some ⟨b,Hy,none⟩)) f).run P w=.ok (.pointer (some ⟨b,Hy+off,none⟩)) w:=by
 obtain⟨fields,fd,hu,hf,rfl,ht⟩:=AAw h;obtain⟨_,hs,_⟩:=VT (w:=w) ht;simp[Instr.fieldAt,run_underlying hu,hf,Qw,fieldPlace,hs,hn,I9]
theorem APq (g:Good S0 w0 x w H){s:TypeId}{y:Operand}{f:Nat}(ho:o.op=.fieldAddr s y f)(hy:CV x w (e y) (a.eval y))(h:jb P s f (e y)=some v):Bm P o a S0 w0 x w H v none:=by
 generalize e y=Y at *
 unfold jb at h;split at h
 . split at h
   . rename_i off n ag ht;split at h
     . cases h
     . rename_i hn;cases h;simp only[CV]at hy;obtain⟨h1,h2,hy⟩:=hy;refine Bm.pure g (u:=_) (by simp[execOp,ho,hy,AF2 ht hn];rfl) ?_;simp only[CV];exact⟨h1,h2,trivial⟩
   . cases h
 . split at h
   . rename_i off n ag ht;split at h
     . cases h
     . rename_i hn;cases h;simp only[CV]at hy;obtain⟨b,Hy,hy,hr⟩:=hy;refine Bm.pure g (u:=_) (by simp[execOp,ho,hy,AF2 ht hn];rfl) ?_;simp only[CV];exact⟨b,Hy,by rw[iD],hr⟩
   . cases h
 . cases h
theorem AEc {t:TypeId}{q:Bool×Nat}(hq:Ct P t=some q){l:List V}{vs:Array Value}(hl:AL x w l vs.toList){off:Nat}(h:AU q l off=some v):∃u,(part t vs off).run P w=.ok u w/\CV x w v u:=by
 obtain⟨ag,n⟩:=q;obtain⟨h1,h2,_⟩:=VT (w:=w) hq;unfold AU at h;cases ag with
 | false =>
   simp only[Fe,if_false]at h;obtain⟨u,k1,k2⟩:=hl.get off v h;refine⟨u,?_,k2⟩;have:vs[off]?=some u:=by simpa using k1
   simp[part,h1,this]
 | true =>
   simp only[if_true]at h;split at h
   . cases h;refine⟨.agg (vs.extract off (off+n)),by simp[part,h1,h2],?_⟩;simp only[CV];refine⟨_,rfl,?_⟩;have:=(hl.drop off).take n;rw[Array.toList_extract];simpa [List.extract]using this
   . cases h
theorem APp (g:Good S0 w0 x w H){s:TypeId}{y:Operand}{f:Nat}(ho:o.op=.field s y f){off n:Nat}{ag:Bool}(ht:CE P s f=some (off,n,ag)){l:List V}(hy:CV x w (.agg l) (a.eval y))(h:AU (ag,n) l off=some v):Bm P o a S0 w0 x w H v none:=by
 obtain⟨fields,fd,hu,hf,rfl,eQ⟩:=AAw ht;simp only[CV]at hy;obtain⟨vs,hy,hl⟩:=hy;obtain⟨u,k1,k2⟩:=AEc eQ hl h;refine Bm.pure g (u:=u) ?_ k2;simp[execOp,ho,hy,Instr.field,run_underlying hu,hf,asAgg,k1]
theorem np {Y:V}{rows:List (List C)}{u:Value}(h:X3 Y=some rows)(hy:CV x w Y u):Ap x.S w (.sl rows) u:=by
 unfold X3 at h;split at h<;>first|cases h|skip
 . simpa only[CV]using hy
 . simp only[CV]at hy;obtain⟨_,_,hy⟩:=hy;exact hy
 . simp only[CV]at hy;exact hy.2.2.1
end
section
variable {P:Program} {S0:Ba} {w0:Bs} {x:Cx} {w:World} {H:Heap} {a:Act} {o:Oper} {e:Operand->V} {v:V}
theorem I1 {t:TypeId}{ty:TypeId}{es Bu:Nat}(h:Dd P t=some (ty,es,Bu)):P.underlying t=some (.slice ty)/\∃i z,P.info? ty=some i/\i.zero=some z/\i.size=es/\i.bytes=Bu/\z.cells.size=es:=by
 unfold Dd at h;cases hu:P.underlying t with
 | none=>simp[hu]at h
 | some d =>
   rw[hu]at h;cases d<;>simp only at h<;>try (cases h;done)
   rename_i el;cases hi:P.info? el with
   | none=>simp[hi]at h
   | some i =>
     rw[hi]at h;simp only at h;cases hz:i.zero with
     | none=>simp[hz]at h
     | some z =>
       rw[hz]at h;simp only at h;split at h
       . rename_i hzs;simp only[BE,Cp]at h;obtain⟨rfl,rfl,rfl⟩:=h;exact⟨rfl,i,z,hi,hz,rfl,rfl,hzs⟩
       . cases h
theorem wk {t:TypeId}{n s:Nat}{ag:Bool}(h:Mg P t=some (n,s,ag)):∃el,P.underlying t=some (.array n el)/\Ct P el=some (ag,s):=by
 unfold Mg at h;cases hu:P.underlying t with
 | none=>simp[hu]at h
 | some d =>
   rw[hu]at h;cases d<;>simp only at h<;>try (cases h;done)
   rename_i m el;cases ht:Ct P el with
   | none=>simp[ht]at h
   | some q =>
     rw[ht]at h;simp only[BE,Cp]at h;obtain⟨rfl,rfl,rfl⟩:=h;exact⟨el,rfl,ht⟩
theorem wm {t:TypeId}(h:Zk P t=true):P.underlying t=some .string:=by
 unfold Zk at h;split at h
 . assumption
 . cases h
theorem AHA {t:TypeId}(h:LG P t=true):∃el,P.underlying t=some (.slice el):=by
 unfold LG at h;split at h
 . exact⟨_,by assumption⟩
 . cases h
theorem APs (g:Good S0 w0 x w H){t:TypeId}{y z:Operand}(ho:o.op=.indexAddr t y z)(hy:CV x w (e y) (a.eval y))(hz:CV x w (e z) (a.eval z))(h:jf P t (e y) (e z)=some v):Bm P o a S0 w0 x w H v none:=by
 generalize e y=Y at *
 generalize e z=Z at *
 unfold jf at h;split at h
 case h_2=>cases h
 rename_i k i;simp only[CV,Ap]at hz;obtain⟨hz,_⟩:=hz;split at h
 . rename_i kk off len es;split at h
   . rename_i Ah es' Bu ht;obtain⟨hu,inf,zv,hi,_,hsz,_,_⟩:=I1 ht;split at h
     . rename_i hc;obtain⟨rfl,h0,h1⟩:=hc;cases h;simp only[CV]at hy;obtain⟨d1,d2,cap,hy,_,_,_⟩:=hy;refine Bm.pure g (u:=.pointer (some ⟨(x.loc kk).b,off+i.toNat*es',none⟩)) ?_ (by simp only[CV];exact⟨d1,d2,trivial⟩);simp[execOp,ho,hy,hz,gZ,asIntOf,run_underlying hu,h0,h1,sizeOf,typeInfo,hi,hsz,I9]
     . cases h
   . cases h
 . rename_i kk off;split at h
   . rename_i n s ag ht;obtain⟨el,hu,MG⟩:=wk ht;obtain⟨_,hs,_⟩:=VT (w:=w) MG;split at h
     . rename_i hc;obtain⟨h0,h1⟩:=hc;cases h;simp only[CV]at hy;obtain⟨d1,d2,hy⟩:=hy;refine Bm.pure g (u:=.pointer (some ⟨(x.loc kk).b,off+i.toNat*s,none⟩)) ?_ (by simp only[CV];exact⟨d1,d2,trivial⟩);simp[execOp,ho,hy,hz,gZ,asIntOf,Qw,run_underlying hu,h0,h1,hs,I9]
     . cases h
   . cases h
 . rename_i row off;split at h
   . rename_i n s ag ht;obtain⟨el,hu,MG⟩:=wk ht;obtain⟨_,hs,_⟩:=VT (w:=w) MG;split at h
     . rename_i hc;obtain⟨h0,h1⟩:=hc;cases h;simp only[CV]at hy;obtain⟨b,Hy,hy,hr⟩:=hy;refine Bm.pure g (u:=.pointer (some ⟨b,Hy+off+i.toNat*s,none⟩)) ?_ (by simp only[CV];exact⟨b,Hy,by rw[iD],hr⟩);simp[execOp,ho,hy,hz,gZ,asIntOf,Qw,run_underlying hu,h0,h1,hs,I9]
     . cases h
   . cases h
 . split at h
   . rename_i rows Ah es Bu Wp ht;obtain⟨hu,inf,zv,hi,_,hsz,_,_⟩:=I1 ht;split at h
     . rename_i hc;obtain⟨h0,h1⟩:=hc;split at h
       . rename_i r hr;split at h
         . rename_i hl;cases h;have hd:=np Wp hy;simp only[Ap]at hd;obtain⟨A,c,hv,_,_,Ak⟩:=hd;obtain⟨b,off,es',rfl,hes,Ak⟩:=Ak (fun e=>by subst e;simp at hr);have:es'=es:=by rw[<-hes r (C6 hr),hl]
           subst this;have EK:=Ak.at_ hes _ r hr;refine Bm.pure g (u:=.pointer (some ⟨b,off+i.toNat*es',none⟩)) ?_ (by simp only[CV];exact⟨b,off+i.toNat*es',rfl,EK⟩);simp[execOp,ho,hv,hz,gZ,asIntOf,run_underlying hu,h0,h1,sizeOf,typeInfo,hi,hsz,I9]
         . cases h
       . cases h
     . cases h
   . cases h
theorem APr (g:Good S0 w0 x w H){t:TypeId}{y z:Operand}(ho:o.op=.index t y z)(hy:CV x w (e y) (a.eval y))(hz:CV x w (e z) (a.eval z))(h:je P t (e y) (e z)=some v):Bm P o a S0 w0 x w H v none:=by
 generalize e y=Y at *
 generalize e z=Z at *
 unfold je at h;split at h
 . rename_i s k i;simp only[CV,Ap]at hy hz;obtain⟨hy,_⟩:=hy;obtain⟨hz,_⟩:=hz;split at h
   . rename_i hs;have hu:=wm hs;split at h
     . rename_i h0;simp only[G6]at h;obtain⟨bt,hb,rfl⟩:=h;have hlt:i.toNat<s.size:=by have:=(Bv.1 hb).1;simpa using this
       have hb':s[i.toNat]?=some bt:=by
        rw[getElem?_pos s i.toNat hlt];simp only[Array.getElem?_toList]at hb;rw[Array.getElem?_eq_getElem (by simpa using hlt)]at hb;exact hb
       refine Bm.pure g (u:=.int .u8 bt.toNat) ?_ ?_
       . simp[execOp,ho,hy,hz,Instr.index,asIntOf,run_underlying hu,h0,hb']
       . simp only[CV,Ap];refine⟨trivial,?_⟩;have h1:oM.min=0:=by decide +kernel
         have h2:oM.max=255:=by decide +kernel
         have:=bt.toNat_lt;simp[Pd,h1,h2];omega
     . cases h
   . cases h
 . rename_i l k i;simp only[CV,Ap]at hy hz;obtain⟨vs,hy,hl⟩:=hy;obtain⟨hz,_⟩:=hz;split at h
   . rename_i n s ag ht;obtain⟨el,hu,MG⟩:=wk ht;obtain⟨_,hs,_⟩:=VT (w:=w) MG;split at h
     . rename_i hc;obtain⟨h0,h1⟩:=hc;obtain⟨u,k1,k2⟩:=AEc MG hl h;refine Bm.pure g (u:=u) ?_ k2;simp[execOp,ho,hy,hz,Instr.index,asIntOf,run_underlying hu,h0,h1,hs,k1]
     . cases h
   . cases h
 . cases h
theorem Ap.AT7 {S:Ba}{rows:List (List C)}{u:Value}(h:Ap S w (.sl rows) u):∃A c,u=.slice A rows.length c/\rows.length<=maxLen:=by
 simp only[Ap]at h;obtain⟨A,c,e,h1,h2,_⟩:=h;exact⟨A,c,e,by omega⟩
theorem APu (g:Good S0 w0 x w H){t:TypeId}{y:Operand}(ho:o.op=.call ⟨.builtin .len,#[y],#[t]⟩)(hy:CV x w (e y) (a.eval y))(h:jh P t (e y)=some v):Bm P o a S0 w0 x w H v none:=by
 generalize e y=Y at *
 unfold jh at h;split at h
 . simp only[CV,Ap]at hy;obtain⟨hy,hl⟩:=hy;split at h
   . rename_i hs;cases h;refine Bm.pure g (u:=_) (by simp[execOp,ho,resolve,invoke,builtin,hy,xY,run_underlying (wm hs),goInt];rfl) ?_;simp only[CV,Ap];exact⟨trivial,Qs hl⟩
   . cases h
 . simp only[CV]at hy;obtain⟨_,_,cap,hy,h1,h2,_⟩:=hy;split at h
   . rename_i hs;obtain⟨el,hu⟩:=AHA hs;cases h;refine Bm.pure g (u:=_) (by simp[execOp,ho,resolve,invoke,builtin,hy,xY,run_underlying hu,goInt];rfl) ?_;simp only[CV,Ap];exact⟨trivial,Qs (by omega)⟩
   . cases h
 . split at h
   . rename_i rows Wp;split at h
     . rename_i hs;obtain⟨el,hu⟩:=AHA hs;cases h;obtain⟨A,c,hv,hl⟩:=(np Wp hy).AT7;refine Bm.pure g (u:=_) (by simp[execOp,ho,resolve,invoke,builtin,hv,xY,run_underlying hu,goInt];rfl) ?_;simp only[CV,Ap];exact⟨trivial,Qs hl⟩
     . cases h
   . cases h
theorem zM : ∀(l:List V) (us:List Value) (mx:Bool) (n:Int) (k:IntKind) (v:V),AL x w l us->(Mj k n).wf=true->T3 mx n k l=some v->
 ∃u,(us.foldlM (if mx then Builtin.max2 else Builtin.min2) (Value.int k n)).run P w=.ok u w/\CV x w v u
 | [],us,mx,n,k,v,h,hw,hv=>by
   simp only[AL]at h;subst h;simp only[T3,BE]at hv;subst hv;exact⟨.int k n,by simp,by simp only[CV,Ap];exact⟨trivial,hw⟩⟩
 | y::l,us,mx,n,k,v,h,hw,hv=>by
   simp only[AL]at h;obtain⟨u,ur,rfl,h1,h2⟩:=h;cases y with
   | c c =>
     cases c with
     | int k' m =>
       simp only[T3]at hv;simp only[CV,Ap]at h1;obtain⟨rfl,hm⟩:=h1;split at hv
       . rename_i hk;subst hk;have hw':(Mj k (if mx then(if n<m then m else n)else(if m<n then m else n))).wf=true:=by cases mx<;>simp only[Fe,if_false,if_true]<;>split<;>assumption
         obtain⟨u,hr,hu⟩:=zM l ur mx _ k v h2 hw' hv;refine⟨u,?_,hu⟩;cases mx<;>simp[Builtin.max2,Builtin.min2]at hr ⊢<;>exact hr
       . cases hv
     | _=>simp[T3]at hv
   | _=>simp[T3]at hv
theorem AEL (g:Good S0 w0 x w H){b:Builtin}{mx:Bool}{args:Array Operand}{He:Array TypeId}(hb:(b=.max/\mx=true)\/(b=.min/\mx=false))(ho:o.op=.call ⟨.builtin b,args,He⟩)(hy : ∀y∈args.toList,CV x w (e y) (a.eval y))(h:Ya mx (args.toList.map e)=some v):Bm P o a S0 w0 x w H v none:=by
 have Nt:=AL.of_map hy;obtain⟨args⟩:=args;simp only at *
 match args,h,Nt with
 | [],h,_=>simp[Ya]at h
 | y::l,h,Nt =>
   simp only[Al,AL,R5]at Nt;obtain⟨u,ur,⟨rfl,rfl⟩,h1,h2⟩:=Nt;simp only[Al]at h;unfold Ya at h;split at h
   . rename_i k n r heq;simp only[R5]at heq;obtain⟨e1,e2⟩:=heq;rw[e1]at h1;simp only[CV,Ap]at h1;obtain⟨u,hr,hu⟩:=zM (P:=P) r _ mx n k v (e2 ▸ h2) h1.2 h;refine Bm.pure g (u:=u) ?_ hu;rcases hb with ⟨rfl,rfl⟩|⟨rfl,rfl⟩
     . simp only[if_true]at hr;simp[execOp,ho,resolve,invoke,builtin,Builtin.max_,h1.1,hr]
     . simp only[Fe,if_false]at hr;simp[execOp,ho,resolve,invoke,builtin,Builtin.min_,h1.1,hr]
   . cases h
theorem j8 (lo:Option Operand)(d:Nat){l:Int}{k:IntKind}(h:(lo.map e).getD (.c (.int .i64 d))=.c (.int k l))(hl : ∀y,lo=some y->CV x w (e y) (a.eval y)):(lo=none/\l=d)\/∃y k',lo=some y/\a.eval y=.int k' l:=by
 cases lo with
 | none=>simp only[Option.map_none,Gl,V.c.injEq,C.int.injEq]at h;exact .inl ⟨rfl,h.2.symm⟩
 | some y =>
   simp only[Option.map_some,EM]at h;have:=hl y rfl;rw[h]at this;simp only[CV,Ap]at this;exact .inr ⟨y,k,rfl,this.1⟩
theorem ok_slice (g:Good S0 w0 x w H){t:TypeId}{y:Operand}{lo hi:Option Operand}(ho:o.op=.slice t y lo hi none)(hy:CV x w (e y) (a.eval y))(hlo : ∀z,lo=some z->CV x w (e z) (a.eval z))(hhi : ∀z,hi=some z->CV x w (e z) (a.eval z))(h:jt P t (e y) (lo.map e) (hi.map e)=some v):Bm P o a S0 w0 x w H v none:=by
 unfold jt at h;split at h
 . rename_i k l s hl hs;rw[hs]at hy;simp only[CV,Ap]at hy;obtain⟨hy,DG⟩:=hy;split at h
   . rename_i k' hh heq;split at h
     . rename_i hc;obtain⟨ht,h0,h1,h2⟩:=hc;cases h;have hu:=wm ht;have b1:=j8 lo 0 hl hlo;have b2:=j8 hi s.size heq hhi;have h3:l<=(hh.toNat:Int):=by omega
       have h4:0<=hh:=by omega
       refine Bm.pure g (u:=.string (s.extract l.toNat hh.toNat)) ?_ ?_
       . rcases b1 with ⟨rfl,rfl⟩|⟨z,k1,rfl,e1⟩<;>rcases b2 with ⟨rfl,rfl⟩|⟨z2,k2,rfl,e2⟩<;>
          simp[execOp,ho,hy,oJ,xe,run_underlying hu,oK,xf,asIntOf, *]<;>omega
       . simp only[CV,Ap];refine⟨trivial,?_⟩;rw[ByteArray.size_extract];omega
     . cases h
   . cases h
 . rename_i k l hl KF;split at h
   . rename_i rows Wp;split at h
     . rename_i k' hh Ah es Bu heq ht;split at h
       . rename_i hc;obtain⟨hall,h0,h1,h2⟩:=hc;cases h;obtain⟨hu,ie,zv,hie,_,hsz,_,_⟩:=I1 ht;have hd:=np Wp hy;simp only[Ap]at hd;obtain⟨A,c,hv,hc1,Dk,Ak⟩:=hd;have b1:=j8 lo 0 hl hlo;have b2:=j8 hi rows.length heq hhi;have h3:l<=(hh.toNat:Int):=by omega
         have h4:0<=hh:=by omega
         have h5:hh<=(c:Int):=by omega
         have h6:(hh.toNat:Int)=hh:=by omega
         refine Bm.pure g (u:=.slice (if c=l.toNat then A else A.map (·.add (l.toNat*es))) (hh.toNat - l.toNat) (c - l.toNat)) ?_ ?_
         . rcases b1 with ⟨rfl,rfl⟩|⟨z,k1,rfl,e1⟩<;>rcases b2 with ⟨rfl,rfl⟩|⟨z2,k2,rfl,e2⟩<;>
            simp[execOp,ho,hv,oJ,xe,run_underlying hu,oK,xf,asIntOf,sizeOf,typeInfo, *]
         . simp only[CV,Ap];have hlen:((rows.take hh.toNat).drop l.toNat).length=hh.toNat - l.toNat:=by simp;omega
           refine⟨_,c - l.toNat,by rw[hlen],by omega,by omega,fun hne=>?_⟩;have dq:rows≠[]:=fun e=>hne (by rw[e];simp)
           obtain⟨b,off,es',rfl,hes,hr⟩:=Ak dq;have hlt:l.toNat<hh.toNat:=by
            rcases Lq l.toNat hh.toNat with h|h
            . exact h
            . exact absurd (LJ (by rw[hlen];omega)) hne
           have hee:es'=es:=by
            obtain⟨r,rs,rfl⟩:=List.exists_cons_of_ne_nil dq;rw[Ee]at hall;have:=hall r (by simp);simp only[beq_iff_eq]at this;rw[<-hes r (by simp),this]
           subst hee;rw[if_neg (by omega)];refine⟨b,off+l.toNat*es',es',by simp[I9],fun r hr'=>hes r (xr (List.mem_of_mem_drop hr')),?_⟩;have:=(hr.take hh.toNat)
           exact this.drop l.toNat (fun r hr'=>hes r (xr hr')) (by simp;omega)
       . cases h
     . cases h
   . cases h
 . cases h
end
section
variable {P:Program} {S0:Ba} {w0:Bs} {x:Cx} {w:World} {H:Heap} {a:Act} {o:Oper} {e:Operand->V} {v:V}
theorem J5 {α:Type}{es:Nat} : ∀ {rows:List (List α)},(∀r∈rows,r.length=es)->rows.flatten.length=rows.length*es
 | [],_=>by simp
 | r::rs,h=>by
   have ih:=J5 (rows:=rs) fun r hr=>h r (by simp[hr])
   simp only[GS,C3,BQ,h r (by simp),ih,F1];omega
theorem toC_ok {v:V}{c:C}{u:Value}(h:toC v=some c)(hv:CV x w v u):Ap x.S w c u:=by
 unfold toC at h;split at h<;>first|cases h|skip
 . simpa only[CV]using hv
 . simp only[CV]at hv;obtain⟨_,_,hv⟩:=hv;exact hv
 . simp only[CV]at hv;exact hv.2.2.1
 . simp only[CV,AL]at hv;obtain⟨vs,rfl,Nt⟩:=hv;have e:vs=#[]:=Gk.1 Nt;subst e;simp only[Ap]
theorem toCs_ok : ∀ {l:List V} {cs:List C} {us:List Value},toCs l=some cs->AL x w l us->Bj x.S w cs us
 | [],cs,us,h,hv=>by simp only[toCs,BE]at h;subst h;simpa only[AL,Bj]using hv
 | v::l,cs,us,h,hv=>by
   simp only[AL]at hv;obtain⟨u,ur,rfl,h1,h2⟩:=hv;unfold toCs at h;split at h
   . rename_i c r hc hr;cases h;simp only[Bj];exact⟨u,ur,rfl,toC_ok hc h1,toCs_ok hr h2⟩
   . cases h
theorem toCs_len : ∀ {l:List V} {cs:List C},toCs l=some cs->cs.length=l.length
 | [],cs,h=>by simp only[toCs,BE]at h;subst h;rfl
 | v::l,cs,h=>by
   unfold toCs at h;split at h
   . rename_i c r hc hr;cases h;simp[toCs_len hr]
   . cases h
theorem Good.AD8 (g:Good S0 w0 x w H)(ty:TypeId)(arr:Array Value)(m:Nat)(hm:m<=arr.size)(W:World)(hW:AS w W)(hs:W.heap.size=w.heap.size){l:List C}(hl:Bj x.S w l (arr.toList.take m)) :
 ∃S',Good S0 w0 { x with S:=S' } (W.alloc (.cells arr ty)) H/\Ext x { x with S:=S' } w (W.alloc (.cells arr ty))/\CR S' (W.alloc (.cells arr ty)) l w.heap.size 0:=by
 have hk:AS w (W.alloc (.cells arr ty)):=hW.alloc _;have ar:Ar x.S (fun b j=>x.S b j\/(b=w.heap.size/\j<m)) w (W.alloc (.cells arr ty)):=⟨fun _ _ h=>.inl h,fun b j v _ hc=>hk.cell hc⟩
 obtain⟨g',he⟩:=g.Tf (x':={ x with S:=fun b j=>x.S b j\/(b=w.heap.size/\j<m) }) hk ar rfl rfl (fun b j h=>h.imp id fun h=>⟨by omega,by simp;omega⟩);refine⟨_,g',he,CR.QX (Bj.mono ar _ _ hl) (fun j u hu=>?_) (fun j hj=>.inr ⟨rfl,?_⟩)⟩
 . rw[Cu,cell_of_row _ _ j arr ty (0,0) (by rw[<-hs];exact heap_alloc_new W _)];rw[Jv]at hu;split at hu
   . simpa using hu
   . cases hu
 . have:=hl.len;simp at this;omega
theorem kc : ∀(cs:List Value) (i off:Nat) (old:Array Value),off+i+cs.length<=old.size->
 ((cs.zipIdx i).foldl (fun (c:Array Value) (p:Value×Nat)=>c.setIfInBounds (off+p.2) p.1) old).toList=old.toList.take (off+i)++cs++old.toList.drop (off+i+cs.length)
 | [],i,off,old,h=>by simp
 | v::r,i,off,old,h=>by
   simp only[iC,Bl];have hlt:off+i<old.size:=by simp at h;omega
   rw[kc r (i+1) off _ (by simp at h ⊢;omega)];simp only[Array.toList_setIfInBounds];rw[show off+(i+1)=off+i+1 by omega,List.take_succ_eq_append_getElem (by simpa using hlt),List.take_set_of_le (BW _)];rw[List.drop_set_of_lt (by omega)];simp[iD,Nat.add_comm 1]
theorem AAy {es:Nat}(e:Operand->V)(a:Act):∀(ps:List (Nat×Operand)) (i:Nat) (rows:List (List C)) (arr:Array Value),Vu e es i ps=some rows->(∀p∈ps,CV x w (e p.2) (a.eval p.2))->(i+ps.length)*es<=arr.size->
 ∃js xs,Zz (fun i=>some (i*es,es)) arr (ps.map fun p=>(p.1,a.eval p.2))=some js/\js.toList=arr.toList.take (i*es)++xs++arr.toList.drop ((i+ps.length)*es)/\Bj x.S w rows.flatten xs/\(∀r∈rows,r.length=es)/\rows.length=ps.length
 | [],i,rows,arr,h,_,hle=>by
   simp only[Vu,BE]at h;subst h;exact⟨arr,[],rfl,by simp,by simp[Bj],by simp,rfl⟩
 | (j,y)::ps,i,rows,arr,h,hv,hle=>by
   unfold Vu at h;split at h
   . rename_i hc;obtain⟨rfl,hf,hl⟩:=hc;split at h
     . rename_i row rest BU ANW;cases h;have hy:=hv (j,y) (by simp);obtain⟨k1,k2⟩:=hy.cells hf;have TG:(a.eval y).cells.size=es:=by have:=k1.len;simp only[Ep]at this;omega
       have AXA:j*es+es<=arr.size:=by
        have:(j+1)*es<=(j+((j,y)::ps).length)*es:=Tp _ (by simp);rw[F1]at this;omega
       have Eu:=kc (a.eval y).cells.toList 0 (j*es) arr (by simp;omega);have hsz:((((a.eval y).cells.toList.zipIdx 0).foldl (fun (c:Array Value) (p:Value×Nat)=>c.setIfInBounds (j*es+p.2) p.1) arr)).size=arr.size:=by
        have:=congrArg List.length Eu;simp only[Ep,C3,FW,R8]at this;omega
       obtain⟨js,xs,e1,e2,e3,e4,e5⟩:=AAy e a ps (j+1) rest _ ANW (fun p hp=>hv p (by simp[hp])) (by rw[hsz];simp at hle;rw[show j+1+ps.length=j+(ps.length+1)by omega];exact hle);refine⟨js,(a.eval y).cells.toList++xs,?_,?_,?_,?_,by simp[e5]⟩
       . simp only[Al,Zz];rw[if_neg (by simp;omega),<-e1];congr 1
         rw[<-AHs];simp[AHx]
       . rw[e2,Eu];have h1:(j+1)*es=j*es+es:=by rw[F1];omega
         have h2:(a.eval y).cells.toList.length=es:=by simpa using TG
         have h3:(j+((j,y)::ps).length)*es=(j+1+ps.length)*es:=by congr 1;simp;omega
         rw[h3,h1];simp only[Nat.add_zero];rw[List.take_append_of_le_length (by simp;omega),D9 (by simp;omega)];rw[List.drop_append,List.drop_of_length_le (l:=List.take (j*es) arr.toList++(a.eval y).cells.toList) (by rw[F1,h1];simp only[C3,FW,Ep];omega)];simp only[List.nil_append,EW,C3,FW,Ep,List.drop_drop];congr 4
         rw[TG,To (by omega)];rw[F1,h1];omega
       . simp only[GS];exact(toCs_ok BU k1).append e3
       . intro r hr;rcases Cb.1 hr with rfl|hr
         . rw[toCs_len BU,hl]
         . exact e4 r hr
     . cases h
   . cases h
theorem APn (g:Good S0 w0 x w H){t:TypeId}{len:Nat}{parts:Array (Nat×Operand)}(ho:o.op=.buildSlice t len parts)(hp : ∀p∈parts.toList,CV x w (e p.2) (a.eval p.2)){Ah:TypeId}{es Bu:Nat}(ht:Dd P t=some (Ah,es,Bu))(h0:0<len*es)(h1:len*es<=2 ^ 24)(h2:parts.toList.length=len){rows:List (List C)}(h:Vu e es 0 parts.toList=some rows):Bm P o a S0 w0 x w H (.full rows) none:=by
 obtain⟨hu,ie,zv,hie,hz,hsz,_,_⟩:=I1 ht;obtain⟨arr,xs,e1,e2,e3,e4,e5⟩:=AAy (x:=x) (w:=w) e a parts.toList 0 rows ((Array.range (len*es)).map (zv.cells[· % zv.cells.size]!)) h hp (by simp[<-h2]);have MK:xs.length=len*es:=by rw[e3.len,J5 e4,e5,h2]
 have harr:arr.toList=xs:=by
  rw[e2,h2];simp
 have AB1:arr.size=len*es:=by rw[<-Ep,harr,MK]
 have hr:=run_buildSlice (P:=P) w t Ah len (parts.map fun (i,y)=>(i,a.eval y)) arr ie zv hu hie hz (by rw[hsz];omega) (by rw[hsz];omega) (by rw[AEe,hsz];exact e1);obtain⟨S',g',he,EK⟩:=g.AD8 Ah arr (len*es) (by omega) w (AS.refl w) rfl (l:=rows.flatten) (by rw[harr,D9 (by omega)];exact e3);have hl:rows.length=len:=by rw[e5,h2]
 refine⟨_,_,_,.slice (some ⟨w.heap.size,0,none⟩) len len,by simp only[execOp,ho,H9,hr,Lr];rfl,.inl rfl,?_,g',he,fun _ h=>.inl h,fun hb=>by rw[ho]at hb;cases hb⟩;have M1:len<=maxLen:=by
  have:len<=len*es:=Nat.le_mul_of_pos_right _ (Nat.pos_of_mul_pos_left h0);unfold maxLen;omega
 simp only[CV,Ap];refine⟨some ⟨w.heap.size,0,none⟩,by rw[hl],some ⟨w.heap.size,0,none⟩,len,by rw[hl],by omega,M1,fun _=>⟨w.heap.size,0,es,rfl,e4,Df.flat.2 EK⟩⟩
theorem uw {es:Nat}(z:Array Value)(hz:z.size=es):∀n:Nat,(madeCells z (n*es)).toList=(As n z.toList).flatten
 | 0=>by simp[madeCells]
 | n+1=>by
   have ih:=uw z hz n;unfold madeCells at ih ⊢;simp only[Array.toList_map,Array.toList_range]at ih ⊢;rw[show (n+1)*es=n*es+es by rw[F1];omega,List.range_add,List.map_append,ih,List.replicate_succ',Tk];congr 1
   simp only[Mi,GS,List.flatten_nil,D8];apply List.ext_getElem
   . simp[hz]
   . intro i h1 h2;have hi:i<es:=by simpa using h1
     have II:i<z.size:=by omega
     simp[hz,Nat.add_mod,Nat.mod_eq_of_lt hi];exact getElem!_pos z i II
theorem AL.kb {l:List V}{us:List Value}(h:AL x w l us):∀n:Nat,AL x w (As n l).flatten (As n us).flatten
 | 0=>by simp[AL]
 | n+1=>by simp only[List.replicate_succ,GS];exact h.append (h.kb n)
theorem APy (g:Good S0 w0 x w H){t:TypeId}{y z:Operand}(ho:o.op=.makeSlice t y z){Ah:TypeId}{es Bu:Nat}(ht:Dd P t=some (Ah,es,Bu)){k k':IntKind}{l:Int}(hy:CV x w (.c (.int k l)) (a.eval y))(hz:CV x w (.c (.int k' l)) (a.eval z)){zl:List V}(hzl:DR P Ah=some zl)(h0:0<=l)(h1:(Bu:Int)*l<=281474976710656)(h2:l<=9223372036854775807)(k0:Nat)(hk : ¬x.dom k0):Bm P o a S0 w0 x w H (.own k0 0 l.toNat es) (some (k0,.box Ah (As l.toNat zl).flatten false)):=by
 obtain⟨hu,ie,zv,hie,TH,hsz,hby,hzs⟩:=I1 ht;obtain⟨xR,hz1,Is,i2,hi2,QP⟩:=Zl (x:=x) (w:=w) hzl;rw[hie]at hi2;cases hi2;rw[TH]at QP;cases QP;simp only[CV,Ap]at hy hz;have hr:=run_make (P:=P) w t Ah ie zv hu hie TH k k' l l h0 (Int.le_refl _) (by rw[hby];exact h1) h2;rw[hsz]at hr;have hcv:AL x w (As l.toNat zl).flatten (madeCells zv.cells (l.toNat*es)).toList:=by rw[uw zv.cells hzs];exact Is.kb _
 obtain⟨g',he⟩:=g.XU k0 hk Ah _ _ hcv;refine⟨_,_,_,.slice (some ⟨w.heap.size,0,none⟩) l.toNat l.toNat,by simp only[execOp,ho,hy.1,hz.1,H9,hr,Lr];rfl,.inl rfl,?_,g',he,fun k h=>h.elim .inl fun e=>.inr ⟨.box Ah (As l.toNat zl).flatten false,by rw[e]⟩,fun _=>rfl⟩;simp only[CV,Cx.Dl,if_true];exact⟨.inr trivial,trivial,l.toNat,rfl,BW _,by unfold maxLen;omega,by simp[size_madeCells]⟩
end
section
variable {P:Program} {S0:Ba} {w0:Bs} {x:Cx} {w:World} {H:Heap} {a:Act} {o:Oper} {e:Operand->V} {v:V}
def qR (P:Program)(t:TypeId)(X Y:V):Pl:=
 match X3 Y,Dd P t with
 | some ys,some (Ah,es,Bu)=>if 0<es/\(ys.all fun r=>r.length==es)=true then
    match X with
    | .full rows=>if (rows.all fun r=>r.length==es)=true/\rows.length+ys.length<=maxLen/\(rows.length+ys.length)*Bu<=140737488355328 then .new (.tok Ah es (rows.length+ys.length)) fun k=>.gr k es (rows++ys)else .fail
    | .gr k es' rows=>if es'=es/\rows.length+ys.length<=maxLen/\(rows.length+ys.length)*Bu<=140737488355328 then .wr k fun
       | .tok ty e2 cur=>if ty=Ah/\e2=es/\cur=rows.length then some (.tok Ah es (rows.length+ys.length),.gr k es (rows++ys))else none
       | _=>none
      else .fail
    | _=>.fail
   else .fail
 | _,_=>.fail
theorem qW {es:Nat}{rows:List (List C)}(h:(rows.all fun r=>r.length==es)=true):∀r∈rows,r.length=es:=by
 intro r hr;rw[Ee]at h;simpa using h r hr
theorem Ry {S:Ba}{es:Nat}{rows:List (List C)}{u:Value}(h:Ap S w (.sl rows) u)(hes : ∀r∈rows,r.length=es) :
 ∃A c xs,u=.slice A rows.length c/\rows.length<=c/\c<=maxLen/\Bj S w rows.flatten xs/\xs.length=rows.length*es/\(∀ad,A=some ad->∀j v,xs[j]?=some v->w.cell? (ad.add j)=some v)/\(rows≠[]->∃b off,A=some ⟨b,off,none⟩/\∀j,j<rows.length*es->S b (off+j)):=by
 simp only[Ap]at h;obtain⟨A,c,hu,h1,h2,h3⟩:=h;by_cases hr:rows=[]
 . subst hr;exact⟨A,c,[],hu,h1,h2,by simp[Bj],by simp,fun ad _ j v hj=>by simp at hj,fun h=>absurd rfl h⟩
 . obtain⟨b,off,es',rfl,_,EK⟩:=h3 hr;obtain⟨xs,k1,k2,k3⟩:=CR.vals _ _ _ (Df.flat.1 EK);refine⟨_,c,xs,hu,h1,h2,k1,by rw[k1.len,J5 hes],fun ad he j v hj=>?_,fun _=>⟨b,off,rfl,fun j hj=>k3 j (by rw[J5 hes];exact hj)⟩⟩;cases he;rw[I9];exact k2 j v hj
theorem qe {t ty Ah:TypeId}{es Bu:Nat}(hT:Dd P t=some (Ah,es,Bu)){rows ys:List (List C)}{u us:Value}(hd:Ap x.S w (.sl rows) u)(hr : ∀r∈rows,r.length=es)(hs:Ap x.S w (.sl ys) us)(hy : ∀r∈ys,r.length=es)(hne:ys≠[])(hcap : ∀A n c,u=.slice A n c->c<n+ys.length/\(A=none->c=0))(h63:rows.length+ys.length<=maxLen)(hb:(rows.length+ys.length)*Bu<=140737488355328) :
 ∃vs cap,(X7 #[t,t] ty #[u,us]).run P w=.ok (.slice (some ⟨w.heap.size,0,none⟩) (rows.length+ys.length) cap) (w.drew.alloc (.cells vs Ah))/\vs.size=cap*es/\rows.length+ys.length<=cap/\cap<=maxLen/\
  Bj x.S w (rows++ys).flatten (vs.toList.take ((rows.length+ys.length)*es)):=by
 obtain⟨hu,ie,zv,hie,hz,hsz,hby,hzs⟩:=I1 hT;obtain⟨A,c,xs,rfl,h1,h2,h3,h4,h5,h6⟩:=Ry hd hr;obtain⟨B,c',zs,rfl,k1,k2,k3,k4,k5,k6⟩:=Ry hs hy;obtain⟨b,off,rfl,_⟩:=k6 hne;have hpos:0<ys.length:=NP.2 hne;have hsm:((rows.length+ys.length:Nat):Int)<=9223372036854775807:=by unfold maxLen at h63;omega
 obtain⟨hc1,Dk⟩:=hcap _ _ _ rfl;have hge : ∀old,rows.length+ys.length<=grownCap w (rows.length+ys.length) old Ah:=fun old=>grownCap_ge w _ old Ah
 have hle : ∀old,grownCap w (rows.length+ys.length) old Ah<=maxLen:=fun old=>grownCap_le_maxLen w _ old Ah h63
 have key : ∀old,∃vs,vs=xs.toArray++zs.toArray++Builtin.zeroCells zv.cells (grownCap w (rows.length+ys.length) old Ah - (rows.length+ys.length))/\vs.size=grownCap w (rows.length+ys.length) old Ah*es/\Bj x.S w (rows++ys).flatten (vs.toList.take ((rows.length+ys.length)*es)):=by
  intro old;refine⟨_,rfl,?_,?_⟩
  . simp only[Array.size_append,oS,size_zeroCells,hzs,h4,k4,<-F1];congr 1
    have:=hge old;omega
  . have:(rows.length+ys.length)*es=(xs++zs).length:=by rw[C3,h4,k4,F1]
    simp only[Qt,Tk];rw[this,List.take_left']
    . exact h3.append k3
    . rfl
 cases A with
 | none =>
   have FT:rows=[]:=by
    by_cases h:rows=[]
    . exact h
    . obtain⟨_,_,h,_⟩:=h6 h;cases h
   subst FT;obtain rfl:=Dk rfl;have hx:xs=[]:=LJ (by simpa using h4);subst hx;obtain⟨vs,e1,e2,e3⟩:=key 0;have hrun:=run_append_nil (P:=P) w t ty Ah ie zv hu hie hz ⟨b,off,none⟩ ys.length c' zs (by rw[k4,hsz]) (k5 _ rfl) hpos (by simpa using hsm) (by rw[hby];simp only[B6,Cu]at hb;omega);refine⟨vs,grownCap w ys.length 0 Ah,?_,by simpa using e2,by simpa using hge 0,by simpa using hle 0,e3⟩;simp only[B6,Cu]at e1 ⊢;rw[hrun,e1];simp
 | some ad =>
   obtain⟨vs,e1,e2,e3⟩:=key c;have hrun:=run_append_grow (P:=P) w t ty Ah ie zv hu hie hz ad rows.length c xs (by rw[h4,hsz]) (h5 _ rfl) ⟨b,off,none⟩ ys.length c' zs (by rw[k4,hsz]) (k5 _ rfl) hc1 hsm (growslice_fits hc1 (by rw[hby];exact hb));exact⟨vs,_,by rw[hrun,e1],e2,hge c,hle c,e3⟩
theorem zQ {t ty Ah:TypeId}{es Bu:Nat}(hT:Dd P t=some (Ah,es,Bu)){A:Option Addr}{n c:Nat}(hnc:n<=c){us:Value}(hs:Ap x.S w (.sl []) us):(X7 #[t,t] ty #[.slice A n c,us]).run P w=.ok (.slice A n c) w:=by
 obtain⟨hu,ie,zv,hie,hz,hsz,hby,hzs⟩:=I1 hT;simp only[Ap]at hs;obtain⟨B,c',rfl,_⟩:=hs;cases A<;>cases B<;>simp[X7,run_underlying hu,sizeOf,typeInfo,hie,Builtin.lenOf,hnc,Builtin.firstCells,loadCells,loadCellsFrom,storeCells]
def Cx.grow (x:Cx)(k:Nat)(l:Loc)(m:Nat):Cx:={ dom:=fun i=>x.dom i\/i=k,loc:=fun i=>if i=k then l else x.loc i,S:=fun b j=>x.S b j\/(b=l.b/\j<m) }
theorem Ap.of_flat {S:Ba}{W:World}{rows:List (List C)}{es b cap:Nat}(hr : ∀r∈rows,r.length=es)(h1:rows.length<=cap)(h2:cap<=maxLen)(h:CR S W rows.flatten b 0):Ap S W (.sl rows) (.slice (some ⟨b,0,none⟩) rows.length cap):=by
 simp only[Ap];exact⟨_,cap,rfl,h1,h2,fun _=>⟨b,0,es,rfl,hr,Df.flat.2 h⟩⟩
theorem Good.sJ (g:Good S0 w0 x w H)(k:Nat){Ah:TypeId}{es m:Nat}(hk : ∀o,H k=some o->∃ty es cur,o=.tok ty es cur/\cur<m){vs:Array Value}{cap:Nat}(hsz:vs.size=cap*es){l:List C}(hl:Bj x.S w l (vs.toList.take (m*es)))(Fq:l.length=m*es)(hm:m<=cap) :
 let x':=x.grow k ⟨w.heap.size,cap*es,true,m,false⟩ (m*es)
 Good S0 w0 x' (w.drew.alloc (.cells vs Ah)) (H.set k (.tok Ah es m))/\Ext x x' w (w.drew.alloc (.cells vs Ah))/\CR x'.S (w.drew.alloc (.cells vs Ah)) l w.heap.size 0:=by
 intro x';have hkp:AS w (w.drew.alloc (.cells vs Ah)):=(AS.refl w).drew.alloc _;have hblk:(w.drew.alloc (.cells vs Ah)).heap[w.heap.size]?=some (.cells vs Ah (0,0)):=heap_alloc_new w.drew _;have ar:Ar x.S x'.S w (w.drew.alloc (.cells vs Ah)):=⟨fun _ _ h=>.inl h,fun b j v _ hc=>hkp.cell hc⟩
 have he:Ext x x' w (w.drew.alloc (.cells vs Ah)):=by
  refine⟨ar,fun _ h=>.inl h,fun i hi=>?_⟩;by_cases e:i=k
  . subst e;obtain⟨o,ho⟩:=g.dom i hi;obtain⟨ty,es',cur,rfl,hlt⟩:=hk o ho;obtain⟨_,h1,h2,_⟩:=g.ok i _ ho;simp only[x',Cx.grow,if_true];exact⟨h1.symm,.inr ⟨h1,by rw[h2];exact hlt⟩⟩
  . simp only[x',Cx.grow,e,if_false];exact Es.refl _
 refine⟨g.IN k _ he (.GA hkp) (fun i=>Qv) (fun i hi=>by simp[x',Cx.grow,hi]) (fun _=>.inr (by simp[x',Cx.grow])) ?_ (fun b j h=>?_) (fun j hx hs=>?_),he,?_⟩
 . exact⟨by simp[x',Cx.grow],by simp[x',Cx.grow],fun _=>⟨vs,by simp only[x',Cx.grow,if_true];exact hblk,by simp[x',Cx.grow,hsz]⟩⟩
 . rcases h with h|⟨rfl,h⟩
   . exact .inl h
   . refine .inr ⟨by simp,.inl (BW _),fun _ hx=>?_⟩;have:=hx.2.1;omega
 . simp only[x',Cx.grow,if_true]at hs;have:=g.ex _ _ hs;omega
 . refine CR.QX (Bj.mono ar _ _ hl) (fun j u hu=>?_) (fun j hj=>.inr ⟨rfl,by rw[Fq]at hj;omega⟩);rw[Cu,cell_of_row _ _ j vs Ah (0,0) hblk];rw[Jv]at hu;split at hu
   . simpa using hu
   . cases hu
theorem Good.ASq (g:Good S0 w0 x w H)(k:Nat){Ah:TypeId}{es n m:Nat}(hH:H k=some (.tok Ah es n))(hv:(x.loc k).void=false){cur:Array Value}(hb:w.heap[(x.loc k).b]?=some (.cells cur Ah (0,0)))(hpos:0<m){news:List Value}{l:List C}(KE:news.length=m*es)(hfit:n*es+m*es<=cur.size)(hl:Bj x.S w l (cur.toList.take (n*es)++news)) :
 let x':=x.grow k ⟨(x.loc k).b,(x.loc k).n,true,n+m,false⟩ ((n+m)*es)
 let w':=w.setRow (x.loc k).b (cur.toList.take (n*es)++news++cur.toList.drop (n*es+news.length)).toArray
 Good S0 w0 x' w' (H.set k (.tok Ah es (n+m)))/\Ext x x' w w'/\CR x'.S w' l (x.loc k).b 0:=by
 intro x' w';obtain⟨hd,h1,h2,h3⟩:=g.ok k _ hH;obtain⟨vs,hb',hn⟩:=h3 hv;rw[hb]at hb';cases hb';have hblk:w'.heap[(x.loc k).b]?=some (.cells (cur.toList.take (n*es)++news++cur.toList.drop (n*es+news.length)).toArray Ah (0,0)):=setRow_heap w _ cur _ Ah (0,0) hb;have hsz:(cur.toList.take (n*es)++news++cur.toList.drop (n*es+news.length)).toArray.size=cur.size:=by
  simp only[oS,C3,FW,R8,Ep];omega
 have ar:Ar x.S x'.S w w':=by
  refine⟨fun _ _ h=>.inl h,fun b j v hS hc=>?_⟩;by_cases Il:b=(x.loc k).b
  . subst Il;rw[cell_of_row w _ j cur Ah (0,0) hb]at hc;rw[cell_of_row w' _ j _ Ah (0,0) hblk];have hj:j<cur.size:=(Dy.1 hc).1;have hjn:j<n*es:=by
     rcases Lq j (n*es)with h|h
     . exact h
     . exact absurd hS (g.EI k _ j hH ⟨hv,h,by omega⟩)
    rw[gz,EW,FK (by simp;omega),Jv,if_pos hjn];simpa using hc
  . rw[SR (w:=w) (a:=⟨b,j,none⟩) (setRow_other w _ b _ Il)];exact hc
 have he:Ext x x' w w':=by
  refine⟨ar,fun _ h=>.inl h,fun i hi=>?_⟩;by_cases e:i=k
  . subst e;simp only[x',Cx.grow,if_true];exact⟨h1.symm,.inr ⟨h1,by rw[h2];simp only;omega⟩⟩
  . simp only[x',Cx.grow,e,if_false];exact Es.refl _
 refine⟨g.IN k _ he ⟨rfl,rfl,rfl,by simp[w'],fun i _ hn=>setRow_other w _ i _ (fun e=>hn ⟨hd,hv,e.symm⟩)⟩ (fun i=>Qv) (fun i hi=>by simp[x',Cx.grow,hi]) (fun _=>.inl ⟨hd,hv,by simp[x',Cx.grow]⟩) ?_ (fun b j h=>?_) (fun j hx hs=>?_),he,?_⟩
 . exact⟨by simp[x',Cx.grow],by simp[x',Cx.grow],fun _=>⟨_,by simp only[x',Cx.grow,if_true];exact hblk,by simp only[x',Cx.grow,if_true];rw[hsz,hn]⟩⟩
 . rcases h with h|⟨rfl,h⟩
   . exact .inl h
   . refine .inr ⟨by simp[w'];exact(Dy.1 hb).1,.inr ⟨hd,hv,rfl⟩,fun _ hx=>?_⟩;have:=hx.2.1;omega
 . simp only[x',Cx.grow,if_true]at hs;refine g.EI k _ j hH ⟨hv,?_,?_⟩ hs
   . have:=hx.2.1;rw[F1]at this;omega
   . have:=hx.2.2;simpa [x',Cx.grow]using this
 . have Fq:l.length=(n+m)*es:=by
    have:=hl.len;rw[C3,FW,Ep,KE,To (by omega),<-F1]at this;exact this.symm
   refine CR.QX (Bj.mono ar _ _ hl) (fun j u hu=>?_) (fun j hj=>.inr ⟨rfl,by rw[Fq]at hj;omega⟩);rw[Cu,cell_of_row w' _ j _ Ah (0,0) hblk,gz,FK ((Bv.1 hu).1)];exact hu
theorem Heap.wN {k:Nat}{ob:O}(h:H k=some ob):H.set k ob=H:=by
 funext i;unfold Heap.set;split
 . rename_i e;rw[e,h]
 . rfl
theorem Ru {rows ys:List (List C)}{es:Nat}(hr : ∀r∈rows,r.length=es)(hy : ∀r∈ys,r.length=es):∀r∈rows++ys,r.length=es:=by
 intro r h;rcases List.mem_append.1 h with h|h
 . exact hr r h
 . exact hy r h
theorem APh (g:Good S0 w0 x w H){t:TypeId}{y z:Operand}(ho:o.op=.call ⟨.builtin .append,#[y,z],#[t,t]⟩){Ah:TypeId}{es Bu:Nat}(hT:Dd P t=some (Ah,es,Bu)){rows ys:List (List C)}(hY:CV x w (.full rows) (a.eval y))(hZ:Ap x.S w (.sl ys) (a.eval z))(hr : ∀r∈rows,r.length=es)(hy : ∀r∈ys,r.length=es)(h63:rows.length+ys.length<=maxLen)(hb:(rows.length+ys.length)*Bu<=140737488355328)(k0:Nat)(hk : ¬x.dom k0) :
 Bm P o a S0 w0 x w H (.gr k0 es (rows++ys)) (some (k0,.tok Ah es (rows.length+ys.length))):=by
 have hH : ∀ob,H k0=some ob->False:=fun ob h=>hk (g.ok k0 ob h).1
 simp only[CV]at hY;obtain⟨A,hA,hd⟩:=hY;by_cases hne:ys=[]
 . subst hne;have hrun:=zQ (x:=x) (w:=w) (ty:=o.type) hT (A:=A) (BW rows.length) hZ;have he:Ext x (x.grow k0 ⟨0,0,true,rows.length,true⟩ 0) w w:=⟨⟨fun _ _ h=>.inl h,fun _ _ _ _ h=>h⟩,fun _ h=>.inl h,fun i hi=>by
    have:i≠k0:=fun e=>hk (e ▸ hi)
    simp[Cx.grow,this,Es.refl]⟩
   have g':=g.IN k0 (.tok Ah es rows.length) he (.GA (AS.refl w)) (fun i=>Qv) (fun i hi=>by simp[Cx.grow,hi]) (fun h=>by simp[Cx.grow]at h) ⟨by simp[Cx.grow],by simp[Cx.grow],fun h=>by simp[Cx.grow]at h⟩ (fun b j h=>h.elim .inl fun h=>by omega) (fun j hx=>by have:=hx.1;simp[Cx.grow]at this);refine⟨_,w,_,.slice A rows.length rows.length,by simp[execOp,ho,resolve,invoke,builtin,hA,hrun],.inl rfl,?_,by simpa [Heap.upd]using g',he,fun k h=>h.elim .inl fun e=>.inr ⟨.tok Ah es rows.length,by rw[e];rfl⟩,fun hb=>by rw[ho]at hb;cases hb⟩;simp only[CV,D8];refine⟨.inr rfl,by simp[Cx.grow],?_,hr,by simp[Cx.grow],fun _=>by simp[Cx.grow]⟩;rw[hA]at hd;exact Ap.mono he.ar _ _ hd
 . have hpos:0<ys.length:=NP.2 hne;obtain⟨vs,cap,hrun,hsz,h1,h2,hl⟩:=qe (ty:=o.type) hT hd hr hZ hy hne (fun A' n c e=>by rw[hA]at e;cases e;exact⟨by omega,fun hn=>by
    by_cases h:rows=[]
    . rw[h];rfl
    . obtain⟨_,_,_,_,_,_,_,_,_,h6⟩:=Ry hd hr;obtain⟨b,off,hb,_⟩:=h6 h;rename_i e1 e2 e3 _ _;rw[hA]at *
      cases ‹Value.slice A rows.length rows.length=_›;rw[hn]at hb;cases hb⟩) h63 hb
   obtain⟨g',he,EK⟩:=g.sJ k0 (fun ob h=>(hH ob h).elim) hsz hl (by rw[J5 (Ru hr hy),C3]) h1;refine⟨_,_,_,_,by simp[execOp,ho,resolve,invoke,builtin,hrun];rfl,.inl rfl,?_,g',he,fun k h=>h.elim .inl fun e=>.inr ⟨.tok Ah es (rows.length+ys.length),by rw[e]⟩,fun hb=>by rw[ho]at hb;cases hb⟩;have Eu:=Ap.of_flat (cap:=cap) (Ru hr hy) (by rw[C3];exact h1) h2 EK;simp only[CV];rw[C3]at Eu;refine⟨.inr rfl,by simp[Cx.grow],Eu,Ru hr hy,by simp[Cx.grow],fun _=>?_⟩;simp only[Cx.grow,if_true,Fe,if_false,C3];exact⟨cap,rfl,rfl⟩
theorem APi (g:Good S0 w0 x w H){t:TypeId}{y z:Operand}(ho:o.op=.call ⟨.builtin .append,#[y,z],#[t,t]⟩){Ah:TypeId}{es Bu:Nat}(hT:Dd P t=some (Ah,es,Bu)){rows ys:List (List C)}{k:Nat}(hY:CV x w (.gr k es rows) (a.eval y))(hZ:Ap x.S w (.sl ys) (a.eval z))(hes:0<es)(hy : ∀r∈ys,r.length=es)(h63:rows.length+ys.length<=maxLen)(hb:(rows.length+ys.length)*Bu<=140737488355328)(hH:H k=some (.tok Ah es rows.length)) :
 Bm P o a S0 w0 x w H (.gr k es (rows++ys)) (some (k,.tok Ah es (rows.length+ys.length))):=by
 have hY':=hY;simp only[CV]at hY;obtain⟨tI,ANp,hd,hr,hle,Ko⟩:=hY;obtain⟨_,_,Dk,hc3⟩:=g.ok k _ hH;have Ko:=Ko Dk.symm;obtain⟨A,c,xs,hu,q1,q2,q3,q4,q5,q6⟩:=Ry hd hr;by_cases hne:ys=[]
 . subst hne;have hrun:=zQ (x:=x) (w:=w) (ty:=o.type) hT (A:=A) q1 hZ;refine⟨_,w,x,.slice A rows.length c,by simp[execOp,ho,resolve,invoke,builtin,hu,hrun],.inl rfl,?_,by simpa [Heap.upd,Heap.wN hH]using g,Ext.refl _ _,fun _ h=>.inl h,fun _=>rfl⟩;rw[D8,<-hu];exact hY'
 . have hpos:0<ys.length:=NP.2 hne;have fin:(∀A n c,a.eval y=.slice A n c->c<n+ys.length/\(A=none->c=0))->Bm P o a S0 w0 x w H (.gr k es (rows++ys)) (some (k,.tok Ah es (rows.length+ys.length))):=by
    intro hcap;obtain⟨vs,cap,hrun,hsz,h1,h2,hl⟩:=qe (ty:=o.type) hT hd hr hZ hy hne hcap h63 hb;obtain⟨g',he,EK⟩:=g.sJ k (Ah:=Ah) (m:=rows.length+ys.length) (fun ob h=>by rw[hH]at h;cases h;exact⟨_,_,_,rfl,by omega⟩) hsz hl (by rw[J5 (Ru hr hy),C3]) h1;refine⟨_,_,_,_,by simp[execOp,ho,resolve,invoke,builtin,hrun];rfl,.inl rfl,?_,g',he,fun k h=>h.elim .inl fun e=>.inr ⟨.tok Ah es (rows.length+ys.length),by rw[e]⟩,fun hb=>by rw[ho]at hb;cases hb⟩;have Eu:=Ap.of_flat (cap:=cap) (Ru hr hy) (by rw[C3];exact h1) h2 EK;simp only[CV];rw[C3]at Eu;refine⟨.inr rfl,by simp[Cx.grow],Eu,Ru hr hy,by simp[Cx.grow],fun _=>?_⟩;simp only[Cx.grow,if_true,Fe,if_false,C3];exact⟨cap,rfl,rfl⟩
   cases hv:(x.loc k).void with
   | true =>
     rw[hv]at Ko;simp only[if_true]at Ko;obtain⟨A',BR⟩:=Ko;refine fin fun A2 n c2 e=>?_
     rw[BR]at e;cases e;refine⟨by omega,fun hn=>?_⟩;by_cases h:rows=[]
     . rw[h];rfl
     . obtain⟨b,off,hb',_⟩:=q6 h;rw[BR]at hu;cases hu;rw[hn]at hb';cases hb'
   | false =>
     rw[hv]at Ko;simp only[Fe,if_false]at Ko;obtain⟨cap,BR,Im⟩:=Ko;by_cases hroom:rows.length+ys.length<=cap
     . obtain⟨Ui,ie,zv,hie,hz,hsz,hby,hzs⟩:=I1 hT;obtain⟨cur,hblk,AMU⟩:=hc3 hv;obtain⟨B,c',zs,TJ,k1,k2,k3,k4,k5,k6⟩:=Ry hZ hy;obtain⟨b,off,rfl,_⟩:=k6 hne;have hmul:(rows.length+ys.length)*es<=cap*es:=Tp _ hroom;rw[F1]at hmul;have hrun:=run_append_room (P:=P) w t o.type Ah ie Ui hie (x.loc k).b rows.length cap cur hblk ⟨b,off,none⟩ ys.length c' zs (by rw[k4,hsz]) (k5 _ rfl) k3.Rq hroom (by rw[hsz,k4];omega);rw[hsz]at hrun;have htake:cur.toList.take (rows.length*es)=xs:=by
        apply List.ext_getElem?;intro j;rw[Jv];rw[BR]at hu;cases hu;split
        . rename_i hj;have dj:j<xs.length:=by omega
          have:=q5 _ rfl j xs[j] (BP dj);rw[I9,Cu,cell_of_row w _ j cur Ah (0,0) hblk]at this;rw[BP dj];simpa using this
        . rw[Ln (by omega)]
       obtain⟨g',he,EK⟩:=g.ASq k hH hv hblk hpos (news:=zs) (l:=(rows++ys).flatten) k4 (by omega) (by rw[htake,Tk];exact q3.append k3);refine⟨_,_,_,_,by simp[execOp,ho,resolve,invoke,builtin,BR,TJ,hrun];rfl,.inl rfl,?_,g',he,fun k h=>h.elim .inl fun e=>.inr ⟨.tok Ah es (rows.length+ys.length),by rw[e]⟩,fun hb=>by rw[ho]at hb;cases hb⟩;have hcm:cap<=maxLen:=by rw[BR]at hu;cases hu;exact q2
       have Eu:=Ap.of_flat (cap:=cap) (Ru hr hy) (by rw[C3];exact hroom) hcm EK;simp only[CV];rw[C3]at Eu;refine⟨.inr rfl,by simp[Cx.grow],Eu,Ru hr hy,by simp[Cx.grow],fun _=>?_⟩;simp only[Cx.grow,if_true,Fe,if_false,C3];exact⟨cap,rfl,Im⟩
     . refine fin fun A2 n c2 e=>?_
       rw[BR]at e;cases e;exact⟨by omega,fun hn=>by cases hn⟩
end
section
variable {P:Program} {S0:Ba} {w0:Bs} {x:Cx} {w:World} {H:Heap} {a:Act} {o:Oper} {e:Operand->V} {v:V}
def OP (P:Program)(e:Operand->V)(op:Op):Pl:=
 match op with
 | .call ⟨.builtin .append,args,He⟩=>match args.toList,He.toList with
   | [y,z],[t,t']=>if t=t' then qR P t (e y) (e z)else .fail
   | _,_=>.fail
 | op=>ji P e op
theorem Nb {q:Option V}{k0:Nat}{t:Option (Nat×O)}(h:(Lg q).ap H k0=some (v,t)):q=some v/\t=none:=by
 cases q with
 | none=>cases h
 | some y=>simp only[Lg,Pl.ap,BE,Cp]at h;exact⟨by rw[h.1],h.2.symm⟩
theorem toList_one {α:Type}{l:Array α}{y:α}(h:l.toList=[y]):l=#[y]:=by apply Gk.1;simpa using h
theorem toList_two {α:Type}{l:Array α}{y z:α}(h:l.toList=[y,z]):l=#[y,z]:=by apply Gk.1;simpa using h
theorem jk (g:Good S0 w0 x w H)(hop : ∀y∈o.op.operands.toList,CV x w (e y) (a.eval y)){k0:Nat}{t:Option (Nat×O)}(hk : ∀ob,t=some (k0,ob)->¬x.dom k0)(h:(OP P e o.op).ap H k0=some (v,t)):Bm P o a S0 w0 x w H v t:=by
 have AFA : ∀ {y:Operand},o.op.operands.toList=[y]->(execOp a.eval o).run P w=.ok (.value (a.eval y)) w->Bm P o a S0 w0 x w H (e y) none:=fun h1 hr=>Bm.pure g hr (hop _ (by rw[h1];simp))
 unfold OP at h;split at h
 .
   rename_i args He ho;split at h
   . rename_i y z t1 t2 ha ht;have ha':=toList_two ha;have ht':=toList_two ht;subst ha' ht';split at h
     . rename_i heq;subst heq;have hy:=hop y (by simp[ho,CN,D7]);have hz:=hop z (by simp[ho,CN,D7]);unfold qR at h;split at h
       . rename_i ys Ah es Bu lk hT;have hZ:=np lk hz;split at h
         . rename_i hc;obtain⟨hes,hall⟩:=hc;split at h
           . rename_i rows hX;rw[hX]at hy;split at h
             . rename_i hc;simp only[Pl.ap,BE,Cp]at h;obtain⟨rfl,rfl⟩:=h;exact APh g ho hT hy hZ (qW hc.1) (qW hall) hc.2.1 hc.2.2 k0 (hk _ rfl)
             . cases h
           . rename_i k es' rows hX;rw[hX]at hy;split at h
             . rename_i hc;obtain⟨rfl,hc1,Dk⟩:=hc;simp only[Pl.ap]at h;split at h
               . rename_i ob hH;split at h
                 . rename_i o' v' hg;simp only[BE,Cp]at h;obtain⟨rfl,rfl⟩:=h;split at hg
                   . split at hg
                     . rename_i hcc;obtain⟨rfl,rfl,rfl⟩:=hcc;simp only[BE,Cp]at hg;obtain⟨rfl,rfl⟩:=hg;exact APi g ho hT hy hZ hes (qW hall) hc1 Dk hH
                     . cases hg
                   . cases hg
                 . cases h
               . cases h
             . cases h
           . cases h
         . cases h
       . cases h
     . cases h
   . cases h
 .
   rename_i op hna;unfold ji at h;split at h
   . rename_i y ho;simp only[Pl.ap,BE,Cp]at h;obtain⟨rfl,rfl⟩:=h;exact AFA (by simp[ho,CN]) (by simp[execOp,ho])
   . rename_i y ho;simp only[Pl.ap,BE,Cp]at h;obtain⟨rfl,rfl⟩:=h;exact AFA (by simp[ho,CN]) (by simp[execOp,ho])
   . rename_i c y z ho;split at h
     . rename_i b hb;simp only[Pl.ap,BE,Cp]at h;obtain⟨rfl,rfl⟩:=h;have hc:=hop c (by simp[ho,CN]);rw[hb]at hc;simp only[CV,Ap]at hc;have hy:=hop y (by simp[ho,CN]);have hz:=hop z (by simp[ho,CN]);refine Bm.pure g (u:=if b then a.eval y else a.eval z) (by simp[execOp,ho,hc,asBool]) ?_;cases b
       . simpa using hz
       . simpa using hy
     . cases h
   . rename_i ty ho;split at h
     . rename_i z hz;simp only[Pl.ap,BE,Cp]at h;obtain⟨rfl,rfl⟩:=h;exact APc g ho hz k0 (hk _ rfl)
     . cases h
   . rename_i ty y ho;split at h
     . rename_i hf;simp only[Pl.ap,BE,Cp]at h;obtain⟨rfl,rfl⟩:=h;exact APm g ho (hop y (by simp[ho,CN])) hf k0 (hk _ rfl)
     . cases h
   . rename_i t' parts ho;split at h
     . rename_i z pl hz hpl;split at h
       . rename_i cs hcs;simp only[Pl.ap,BE,Cp]at h;obtain⟨rfl,rfl⟩:=h;exact vH g ho (fun p hp=>hop p.2 (by simp only[ho,CN];exact DC.2 ⟨p,hp,rfl⟩)) hz hpl hcs
       . cases h
     . cases h
   . rename_i t' len parts ho;split at h
     . rename_i Ah es Bu hT;split at h
       . rename_i hc;split at h
         . rename_i rows Wp;simp only[Pl.ap,BE,Cp]at h;obtain⟨rfl,rfl⟩:=h;exact APn g ho (fun p hp=>hop p.2 (by simp only[ho,CN];exact DC.2 ⟨p,hp,rfl⟩)) hT hc.1 hc.2.1 hc.2.2 Wp
         . cases h
       . cases h
     . cases h
   . rename_i t' y ho;have hy:=hop y (by simp[ho,CN]);split at h
     . rename_i q k off hq hp;rw[hp]at hy;simp only[Pl.ap]at h;split at h
       . rename_i ob hH;split at h
         . rename_i v' hg;simp only[BE,Cp]at h;obtain⟨rfl,rfl⟩:=h;split at hg
           . exact APw g ho hq hy hH hg
           . cases hg
         . cases h
       . cases h
     . rename_i q row off hq hp;rw[hp]at hy;obtain⟨h1,rfl⟩:=Nb h;exact APv g ho hq hy h1
     . cases h
   . rename_i t' y z ho;have hy:=hop y (by simp[ho,CN]);have hz:=hop z (by simp[ho,CN]);split at h
     . rename_i q k off hq hp;rw[hp]at hy;simp only[Pl.ap]at h;split at h
       . rename_i ob hH;split at h
         . rename_i o' v' hg;simp only[BE,Cp]at h;obtain⟨rfl,rfl⟩:=h;split at hg
           . split at hg
             . rename_i hc;simp only[BE,Cp]at hg;obtain⟨rfl,rfl⟩:=hg;exact AP7 g ho hq hy hz hH hc.1 hc.2.1 hc.2.2
             . cases hg
           . cases hg
         . cases h
       . cases h
     . cases h
   . rename_i y ho;have hy:=hop y (by simp[ho,CN]);split at h
     . rename_i k off hp;rw[hp]at hy;simp only[Pl.ap,BE,Cp]at h;obtain⟨rfl,rfl⟩:=h;have hy':=hy;simp only[CV]at hy;exact Bm.pure g (u:=a.eval y) (by simp[execOp,ho,hy.2.2]) hy'
     . rename_i row off hp;rw[hp]at hy;simp only[Pl.ap,BE,Cp]at h;obtain⟨rfl,rfl⟩:=h;have hy':=hy;simp only[CV]at hy;obtain⟨b,Hy,hy,_⟩:=hy;exact Bm.pure g (u:=a.eval y) (by simp[execOp,ho,hy]) hy'
     . cases h
   . rename_i bop ty y z Fy ho;obtain⟨h1,rfl⟩:=Nb h;exact APl g ho (hop y (by simp[ho,CN])) (hop z (by simp[ho,CN])) h1
   . rename_i uop ty y ho;obtain⟨h1,rfl⟩:=Nb h;exact AP9 g ho (hop y (by simp[ho,CN])) h1
   . rename_i s d y ho;split at h
     . rename_i q hq;obtain⟨h1,rfl⟩:=Nb h;refine APo g ?_ ho (hop y (by simp[ho,CN])) h1;unfold Ct at hq;cases hu:P.underlying s with
       | none=>simp[hu]at hq
       | some ds=>exact⟨ds,rfl⟩
     . cases h
   . rename_i f first caps ho
     split at h
     . rename_i hf;simp only[Pl.ap,BE,Cp]at h;obtain⟨rfl,rfl⟩:=h;have tM:first=#[]:=Array.eq_empty_of_size_eq_zero hf
       subst tM;refine Bm.pure g (u:=.func (.func f) #[] (caps.map a.eval)) (by simp[execOp,ho,Instr.makeFunc]) ?_;simp only[CV];refine⟨_,rfl,?_⟩;have:=AL.of_map (x:=x) (w:=w) (e:=e) (a:=a) (l:=caps.toList) (fun y hy=>hop y (by simp[ho,CN];simpa using hy));simpa using this
     . cases h
   . rename_i t' y z ho;have hy:=hop y (by simp[ho,CN]);have hz:=hop z (by simp[ho,CN]);split at h
     . rename_i Ah es Bu k l k' c hT hl hc;split at h
       . rename_i zl hzl;split at h
         . rename_i hcc;obtain⟨rfl,h0,h1,h2⟩:=hcc;simp only[Pl.ap,BE,Cp]at h;obtain⟨rfl,rfl⟩:=h;rw[hl]at hy;rw[hc]at hz;exact APy g ho hT hy hz hzl h0 h1 h2 k0 (hk _ rfl)
         . cases h
       . cases h
     . cases h
   . rename_i t' y lo hi ho;obtain⟨h1,rfl⟩:=Nb h;exact ok_slice g ho (hop y (by simp[ho,CN])) (fun z hz=>hop z (by simp[ho,CN,hz])) (fun z hz=>hop z (by simp[ho,CN,hz])) h1
   . rename_i s y f ho;obtain⟨h1,rfl⟩:=Nb h;exact APq g ho (hop y (by simp[ho,CN])) h1
   . rename_i s y f ho;have hy:=hop y (by simp[ho,CN]);split at h
     . rename_i off n ag l hf hl;obtain⟨h1,rfl⟩:=Nb h;rw[hl]at hy;exact APp g ho hf hy h1
     . cases h
   . rename_i t' y z ho;obtain⟨h1,rfl⟩:=Nb h;exact APs g ho (hop y (by simp[ho,CN])) (hop z (by simp[ho,CN])) h1
   . rename_i t' y z ho;obtain⟨h1,rfl⟩:=Nb h;exact APr g ho (hop y (by simp[ho,CN])) (hop z (by simp[ho,CN])) h1
   . rename_i y i ho;have hy:=hop y (by simp[ho,CN]);split at h
     . rename_i l hl;obtain⟨h1,rfl⟩:=Nb h;rw[hl]at hy;simp only[CV]at hy;obtain⟨vs,hy,hl⟩:=hy;obtain⟨u,k1,k2⟩:=hl.get i v h1;have:vs[i]?=some u:=by simpa using k1
       exact Bm.pure g (u:=u) (by simp[execOp,ho,hy,Instr.extract,this]) k2
     . cases h
   . rename_i args He ho;split at h
     . rename_i y t1 ha ht;have ha':=toList_one ha;have ht':=toList_one ht;subst ha' ht';obtain⟨h1,rfl⟩:=Nb h;exact APu g ho (hop y (by simp[ho,CN,D7])) h1
     . cases h
   . rename_i args He ho;obtain⟨h1,rfl⟩:=Nb h;exact AEL g (.inl ⟨rfl,rfl⟩) ho (fun y hy=>hop y (by simp[ho,CN,D7];simpa using hy)) h1
   . rename_i args He ho;obtain⟨h1,rfl⟩:=Nb h;exact AEL g (.inr ⟨rfl,rfl⟩) ho (fun y hy=>hop y (by simp[ho,CN,D7];simpa using hy)) h1
   . cases h
end
def TV (l:List Oper):Bool:=l.all fun o=>match o.op with | .defer _=>false|_=>true
theorem APV {l:List Oper}(h:TV l=true){o:Oper}(ho:o∈l)(c:Call):o.op≠.defer c:=by
 intro e;unfold TV at h;rw[Ee]at h;have:=h o ho;rw[e]at this;cases this
def yw (K:Act->World->Prop):Exit->Act->World->Prop
 | .normal,a,w=>K a w
 | _,_,_=>False
theorem AQE (K:Act->World->Prop):¬LetsOut (yw K):=fun ⟨_,_,h⟩=>h
section
variable {P:Program} {Q:Exit->Act->World->Prop} {lp n:Nat}
theorem AS2 {row:String}{args:Array Value}{w:World}{R:Value->World->Prop}(h:Rows P row args w R):RowsIn (EF.inRound lp) n P row args w R:=fun c cs _ =>
 let ⟨v,w',r,s⟩:=h c cs
 ⟨v,w',r,stepsIn_wide.2 s⟩
theorem vL {o:Oper}{a:Act}{w:World}{K:Act->World->Prop}(hd : ∀c,o.op≠.defer c)(h:o.wp P a w K Q):o.wpIn (EF.inRound lp) n P a w K Q:=by
 refine⟨fun _ _=>trivial,?_⟩;rw[show (EF.inRound lp).round=some lp from rfl,Oper.semAt_some lp _ _ hd];unfold EL at h;generalize (execOp a.eval o).run P w=r at h ⊢;cases r with
 | ok x w' =>
   cases x<;>simp only[iG,oe]at h ⊢<;>
    first
     | exact h
     | exact h.elim
     | exact⟨fun e=>(by cases e),CallsIn.inRound lp (callsIn_wide.2 h)⟩
     | exact⟨fun e=>(by cases e),AS2 h⟩
 | halt x w'=>cases x<;>simp only[iG,oe]at h ⊢<;>exact h
theorem listIn_of {ops:Array Oper}(hQ : ¬LetsOut Q):∀(r:List Oper) (a:Act) (w:World),TV r=true->wpList P ops Q r a w->wpListIn (EF.inRound lp) n P ops Q r a w:=by
 intro r;induction r with
 | nil=>intro a w _ h;exact h
 | cons o r ih =>
   intro a w hd h;have Yz:TV r=true:=by unfold TV at hd ⊢;simp only[List.all_cons,An]at hd;exact hd.2
   simp only[wpList,wpListIn]at h ⊢;split
   . rename_i hw;rw[if_pos hw]at h;refine vL (APV hd (by simp)) (og (fun a w=>ih a w Yz) (h.resolve_right fun h=>hQ h.2))
   . rename_i hw;rw[if_neg hw]at h;exact⟨fun _ _=>trivial,ih _ _ Yz h⟩
theorem AJB {l:List Oper}(hQ : ¬LetsOut Q)(hd:TV l=true):∀(fuel:Nat) (listed:Array Bool) (a:Act) (w:World),wpAny P .any l.toArray Q fuel listed a w->wpAnyIn (EF.inRound lp) n P .any l.toArray Q fuel listed a w:=by
 intro fuel;induction fuel with
 | zero=>intro listed a w h;exact h
 | succ fuel ih =>
   intro listed a w h;refine⟨h.1,fun i hi=>?_⟩;have h:=h.2 i hi;unfold wpOp at h;unfold wpOpIn;cases ho:l.toArray[i]? with
   | none=>rw[ho]at h;exact ih _ _ _ h
   | some o =>
     rw[ho]at h;simp only at h ⊢;have hm:o∈l:=C6 (i:=i) (by simpa using ho);split
     . rename_i hw;rw[if_pos hw]at h;exact vL (APV hd hm) (og (fun a w=>ih _ a w) (h.resolve_right fun h=>hQ h.2))
     . rename_i hw;rw[if_neg hw]at h;exact⟨fun _ _=>trivial,ih _ _ _ h⟩
end
section
structure St where
 t:List V
 h:List O
def St.put (s:St)(d:Option Tmp)(v:V):St:=
 match d with
 | some d=>{ s with t:=s.t.set d v }
 | none=>s
def CG (h:List O):Option (Nat×O)->List O
 | none=>h
 | some (k,o)=>if k<h.length then h.set k o else h++[o]
structure CT (S0:Ba)(w0:Bs)(x:Cx)(s:St)(a:Act)(w:World):Prop where
 good:Good S0 w0 x w (fun k=>s.h[k]?)
 tm:AL x w s.t a.tmps.toList
 df:Marks w0 a.defers w
variable {P:Program} {S0:Ba} {w0:Bs} {x:Cx} {w:World} {a:Act} {o:Oper} {v:V} {s:St}
theorem CT.fresh (h:CT S0 w0 x s a w):¬x.dom s.h.length:=fun hd=>by
 obtain⟨o,ho⟩:=h.good.dom _ hd;simp at ho
theorem Lm (h:List O)(t:Option (Nat×O))(ht : ∀k o,t=some (k,o)->k<=h.length):(fun k=>(CG h t)[k]?)=Heap.upd (fun k=>h[k]?) t:=by
 cases t with
 | none=>rfl
 | some p =>
   obtain⟨k,o⟩:=p;have hk:=ht k o rfl;funext i;simp only[CG,Heap.upd,Heap.set];by_cases hlt:k<h.length
   . rw[if_pos hlt,OH];by_cases e:k=i
     . subst e;simp[hlt]
     . have e' : ¬i=k:=fun h=>e h.symm
       simp[e,e']
   . rw[if_neg hlt];have hk':k=h.length:=by omega
     subst hk';by_cases e:i=h.length
     . subst e;simp
     . simp only[e,if_false];rcases Lq i h.length with hl|hl
       . rw[FK hl]
       . rw[Ln (by simp;omega),Ln hl]
theorem AFG (a:Act)(d:Option Tmp)(u:Value):(a.put d u).tmps.toList=match d with|some d=>a.tmps.toList.set d u|none=>a.tmps.toList:=by
 cases d<;>simp[Act.put]
theorem CT.put {H':List O}{x':Cx}{w':World}(h:AL x w s.t a.tmps.toList)(hd:Marks w0 a.defers w')(he:Ext x x' w w')(g:Good S0 w0 x' w' (fun k=>H'[k]?)){u:Value}(hv:CV x' w' v u)(d:Option Tmp):CT S0 w0 x' (St.put { s with h:=H' } d v) (a.put d u) w':=by
 have h':=AL.mono he _ _ h;cases d with
 | none=>exact⟨g,h',hd⟩
 | some d=>exact⟨g,by rw[AFG];exact h'.set d hv,hd⟩
theorem jo {H:List O}{p:Pl}{t:Option (Nat×O)}(h:p.ap (fun k=>H[k]?) H.length=some (v,t)):∀k o,t=some (k,o)->k<=H.length:=by
 intro k o ht;subst ht;cases p with
 | fail=>cases h
 | val v=>simp[Pl.ap]at h
 | rd k g=>simp only[Pl.ap]at h;split at h<;>(try split at h)<;>simp at h
 | wr i g =>
   simp only[Pl.ap]at h;split at h
   . rename_i ob hH;split at h
     . simp only[BE,Cp]at h;obtain⟨_,rfl,_⟩:=h;exact Nat.le_of_lt (Bv.1 hH).1
     . cases h
   . cases h
 | new o mk=>simp only[Pl.ap,BE,Cp]at h;omega
def Cx.bare (S:Ba):Cx:={ dom:=fun _=>False,loc:=fun _=>⟨0,0,false,0,false⟩,S:=S }
def AC (P:Program)(f:FuncId)(args:List V)(res:V):Prop:=
 ∀(S:Ba) (w:World) (us:List Value),(∀b j,S b j->b<w.heap.size)->AL (Cx.bare S) w args us->
  Calls P f us.toArray w fun r w'=>∃u S',r=.returned u/\AS w w'/\Ar S S' w w'/\(∀b j,S' b j->S b j\/(w.heap.size<=b/\b<w'.heap.size))/\CV (Cx.bare S') w' res u
mutual
def V.AP:V->Option V
 | .c d=>some (.c d)
 | .full r=>some (.c (.sl r))
 | .gr _ _ r=>some (.c (.sl r))
 | .cp row off=>some (.cp row off)
 | .agg l=>(V.AO l).map V.agg
 | .Bk l=>(V.AO l).map V.Bk
 | .fn f caps=>(V.AO caps).map (V.fn f)
 | .any=>some .any
 | .ptr _ _=>none
 | .own _ _ _ _=>none
 | .hot _ _ _=>none
 | .hp _ _ _=>none
 | .yl l=>some (.yl l)
 | .mp _=>none
def V.AO:List V->Option (List V)
 | []=>some []
 | v::l=>match V.AP v,V.AO l with
   | some y,some r=>some (y::r)
   | _,_=>none
end
mutual
theorem ml {x:Cx}{w:World} : ∀(v v':V) (u:Value),V.AP v=some v'->CV x w v u->CV (Cx.bare x.S) w v' u
 | .c c,v',u,h,hv=>by simp only[V.AP,BE]at h;subst h;simpa only[CV,Cx.bare]using hv
 | .full r,v',u,h,hv=>by simp only[V.AP,BE]at h;subst h;simp only[CV]at hv ⊢;obtain⟨_,_,hv⟩:=hv;exact hv
 | .gr k es r,v',u,h,hv=>by simp only[V.AP,BE]at h;subst h;simp only[CV]at hv ⊢;exact hv.2.2.1
 | .cp row off,v',u,h,hv=>by simp only[V.AP,BE]at h;subst h;simpa only[CV,Cx.bare]using hv
 | .agg l,v',u,h,hv=>by
   simp only[V.AP,G6]at h;obtain⟨r,h,rfl⟩:=h;simp only[CV]at hv ⊢;obtain⟨vs,e,hv⟩:=hv;exact⟨vs,e,PJ l r _ h hv⟩
 | .Bk l,v',u,h,hv=>by
   simp only[V.AP,G6]at h;obtain⟨r,h,rfl⟩:=h;simp only[CV]at hv ⊢;obtain⟨vs,e,hv⟩:=hv;exact⟨vs,e,PJ l r _ h hv⟩
 | .fn f caps,v',u,h,hv=>by
   simp only[V.AP,G6]at h;obtain⟨r,h,rfl⟩:=h;simp only[CV]at hv ⊢;obtain⟨vs,e,hv⟩:=hv;exact⟨vs,e,PJ caps r _ h hv⟩
 | .any,v',u,h,_=>by simp only[V.AP,BE]at h;subst h;simp only[CV]
 | .ptr _ _,_,_,h,_=>by simp[V.AP]at h
 | .own _ _ _ _,_,_,h,_=>by simp[V.AP]at h
 | .hot _ _ _,_,_,h,_=>by simp[V.AP]at h
 | .hp _ _ _,_,_,h,_=>by simp[V.AP]at h
 | .yl l,v',u,h,hv=>by simp only[V.AP,BE]at h;subst h;simpa only[CV]using hv
 | .mp _,_,_,h,_=>by simp[V.AP]at h
theorem PJ {x:Cx}{w:World} : ∀(l l':List V) (us:List Value),V.AO l=some l'->AL x w l us->AL (Cx.bare x.S) w l' us
 | [],l',us,h,hv=>by simp only[V.AO,BE]at h;subst h;simpa only[AL]using hv
 | v::l,l',us,h,hv=>by
   simp only[AL]at hv;obtain⟨u,ur,rfl,h1,h2⟩:=hv;unfold V.AO at h;split at h
   . rename_i y r hy hr;cases h;simp only[AL];exact⟨u,ur,rfl,ml v y u hy h1,PJ l r ur hr h2⟩
   . cases h
end
def V.nl:V->V
 | .c (.Du f)=>.fn f []
 | v=>v
theorem Qq {x:Cx}{w:World}{v:V}{u:Value}(h:CV x w v u):CV x w v.nl u:=by
 unfold V.nl;split
 . simp only[CV,Ap]at h;simp only[CV,AL];exact⟨#[],h,rfl⟩
 . exact h
def DE (e:Operand->V):Op->Option (FuncId×List V)
 | .call ⟨.value f,args,_⟩=>match (e f).nl with
   | .fn f caps=>some (f,args.toList.map e++caps)
   | _=>none
 | _=>none
def jE (P:Program)(f:FuncId)(args:List V)(K:V->Prop):Prop:=∃Bx res,V.AO args=some Bx/\AC P f Bx res/\(∃fn,P.funcs[f]?=some fn/\fn.body.isSome=true/\fn.name≠ "runtime.NumGoroutine")/\K res
def RA (ops:List Oper)(t:List V)(o:Oper)(K1 K2:Prop):Prop:=
 match o.guard with
 | none=>K1
 | some (j,want)=>match (ops[j]?).bind (·.dst)with
   | some d=>match t.getD d .any with
     | .c (.bool b)=>(b=want->K1)/\(b=(!want)->K2)
     | .Bk []=>K2
     | _=>False
   | none=>False
def Pw (P:Program)(o:Oper)(s:St)(K:V->Option (Nat×O)->Prop):Prop:=
 match DE (ev s.t) o.op with
 | some (f,args)=>jE P f args fun v=>K v none
 | none=>match (OP P (ev s.t) o.op).ap (fun k=>s.h[k]?) s.h.length with
   | some (v,t)=>K v t
   | none=>False
def St.step (s:St)(d:Option Tmp)(v:V)(t:Option (Nat×O)):St:=St.put { s with h:=CG s.h t } d v
def EA (P:Program)(ops:List Oper)(K:St->Prop):List Oper->St->Prop
 | [],s=>K s
 | o::r,s=>RA ops s.t o (Pw P o s fun v t=>EA P ops K r (s.step o.dst v t)) (EA P ops K r (s.put o.dst (.Bk [])))
theorem J2 {ops:List Oper}{K1 K2:Prop}(ht:AL x w s.t a.tmps.toList)(h:RA ops s.t o K1 K2):(DV o (yielded ops.toArray a.tmps)=true->K1)/\(DV o (yielded ops.toArray a.tmps)≠true->K2):=by
 unfold RA at h;unfold DV;cases hg:o.guard with
 | none=>rw[hg]at h;simp only at h ⊢;exact⟨fun _=>h,fun h=>absurd rfl h⟩
 | some p =>
   obtain⟨j,want⟩:=p;rw[hg]at h;simp only at h ⊢;split at h
   . rename_i d hd;split at h
     . rename_i b hb;have hv:=ht.getD d undef;rw[hb]at hv;simp only[CV,Ap]at hv;have hy:yielded ops.toArray a.tmps j=some b:=by
        unfold yielded;have:(ops.toArray[j]?).bind (·.dst)=some d:=by simpa using hd
        rw[this];have hx:a.tmps[d]?=some (.bool b):=by
         rw[G5]at hv;cases hq:a.tmps.toList[d]? with
         | none=>rw[hq]at hv;cases hv
         | some y=>rw[hq]at hv;simp only[EM]at hv;subst hv;simpa using hq
        simp[hx]
       rw[hy];refine⟨fun he=>h.1 (by simpa using he),fun he=>h.2 ?_⟩;have:b≠want:=fun e=>he (by rw[e];simp)
       cases b<;>cases want<;>simp_all
     . rename_i hb;have hv:=ht.getD d undef;rw[hb]at hv;simp only[CV]at hv;obtain⟨vs,hv,_⟩:=hv;have hy:yielded ops.toArray a.tmps j=none:=by
        unfold yielded;have:(ops.toArray[j]?).bind (·.dst)=some d:=by simpa using hd
        rw[this];have hx:a.tmps[d]?=none\/a.tmps[d]?=some (.tuple vs):=by
         rw[G5]at hv;cases hq:a.tmps.toList[d]? with
         | none=>left;simpa using hq
         | some y=>rw[hq]at hv;simp only[EM]at hv;subst hv;right;simpa using hq
        rcases hx with hx|hx<;>simp[hx]
       rw[hy];exact⟨fun he=>by simp at he,fun _=>h⟩
     . exact h.elim
   . exact h.elim
theorem gJ (x:Cx)(w:World):CV x w (.Bk []) undef:=by
 simp only[CV];exact⟨#[],rfl,by simp only[AL]⟩
theorem UA (S:Ba)(x:Cx)(w:World):Ext (Cx.bare S) { x with S:=S } w w:=⟨Ar.refl _ _,fun _ h=>h.elim,fun _ h=>h.elim⟩
theorem AJy (hA:CT S0 w0 x s a w){f:FuncId}{args:List V}(hc:DE (ev s.t) o.op=some (f,args)){K:V->Prop}(h:jE P f args K){next:Act->World->Prop}{Q:Exit->Act->World->Prop}(hn : ∀v u x' w',K v->Good S0 w0 x' w' (fun k=>s.h[k]?)->Ext x x' w w'->NC w w'->CV x' w' v u->next (a.put o.dst u) w'):o.wp P a w next Q:=by
 obtain⟨Bx,res,hp,Cs,⟨fn,EP,ME,hname⟩,hK⟩:=h;unfold DE at hc;split at hc
 case h_2=>cases hc
 rename_i fo ar He ho;split at hc
 case h_2=>cases hc
 rename_i f' caps hf;simp only[BE,Cp]at hc;obtain⟨rfl,rfl⟩:=hc;have CY:=Qq (EH hA.tm fo);rw[hf]at CY;simp only[CV]at CY;obtain⟨vs,CY,EZ⟩:=CY;have Ik:AL x w (ar.toList.map (ev s.t)++caps) (ar.toList.map a.eval++vs.toList):=(AL.of_map fun y _=>EH hA.tm y).append EZ;have:=Cs x.S w _ hA.good.ex (PJ _ _ _ hp Ik);have hb:fn.body≠none:=by intro e;rw[e]at ME;cases ME
 have hrun:(execOp a.eval o).run P w=.ok (.enter f' (ar.toList.map a.eval++vs.toList).toArray) w:=by
  have e1:(ar.map a.eval++vs)=(ar.toList.map a.eval++vs.toList).toArray:=by apply Gk.1;simp
  simp[execOp,ho,resolve,CY,Deferred.ofValue,invoke,callFunc,program,I5,EP,hname,hb,e1]
 unfold EL;rw[hrun];refine this.mono ?_;rintro r w' ⟨u,S',rfl,Oo,DF,Hs,hcv⟩;obtain⟨g',he⟩:=hA.good.Tf (x':={ x with S:=S' }) Oo DF rfl rfl Hs;exact hn res u _ w' hK g' he (.GA Oo) (CV.mono (UA S' x w') _ _ hcv)
theorem qX (hA:CT S0 w0 x s a w){K:V->Option (Nat×O)->Prop}(h:Pw P o s K){next:Act->World->Prop}{Q:Exit->Act->World->Prop}(hn : ∀v t u x' w',K v t->Good S0 w0 x' w' (fun k=>(CG s.h t)[k]?)->Ext x x' w w'->NC w w'->CV x' w' v u->next (a.put o.dst u) w'):o.wp P a w next Q:=by
 unfold Pw at h;split at h
 . rename_i f args hc;exact AJy hA hc h fun v u x' w' hK g he hnc hv=>hn v none u x' w' hK g he hnc hv
 . split at h
   . rename_i v t hap;obtain⟨nx,w',x',u,hr,D5,hcv,g',he,_⟩:=jk hA.good.VA (fun y _=>EH hA.tm y) (fun _ _=>hA.fresh) hap;rw[<-Lm _ _ (jo hap)]at g';obtain⟨g',hnc⟩:=hA.good.Qp he g';unfold EL;rw[hr];rcases D5 with rfl|⟨rfl,rfl⟩
     . exact hn v t u x' w' h g' he hnc hcv
     . exact hn v t undef x' w' h g' he hnc hcv
   . exact h.elim
theorem qZ {ops:List Oper}{K:St->Prop}{Q:Exit->Act->World->Prop}(hQ : ∀x s a w,K s->CT S0 w0 x s a w->Q .normal a w):∀(l:List Oper) (x:Cx) (s:St) (a:Act) (w:World),EA P ops K l s->CT S0 w0 x s a w->wpList P ops.toArray Q l a w
 | [],x,s,a,w,h,hA=>hQ x s a w h hA
 | o::r,x,s,a,w,h,hA=>by
   unfold EA at h;obtain⟨h1,h2⟩:=J2 hA.tm h;unfold wpList;split
   . rename_i hw;refine .inl (qX hA (h1 hw) fun v t u x' w' hK g he hnc hv=>?_);exact qZ hQ r x' _ _ w' hK (CT.put hA.tm (hA.df.mono hnc) he g hv o.dst)
   . rename_i hw;refine qZ hQ r x _ _ w (h2 hw) ?_;exact CT.put (v:=.Bk []) (u:=undef) hA.tm hA.df (Ext.refl x w) hA.good (gJ x w) o.dst
theorem AJD {K:V->Option (Nat×O)->Prop}(h:Pw P o s K)(c:Call):o.op≠.defer c:=by
 intro e;unfold Pw at h;rw[e]at h;simp[DE,OP,ji,Pl.ap]at h
theorem qa {lp n:Nat}{ops:List Oper}{K:St->Prop}{Q:Exit->Act->World->Prop}(hQ : ∀x s a w,K s->CT S0 w0 x s a w->Q .normal a w):∀(l:List Oper) (x:Cx) (s:St) (a:Act) (w:World),EA P ops K l s->CT S0 w0 x s a w->wpListIn (EF.inRound lp) n P ops.toArray Q l a w
 | [],x,s,a,w,h,hA=>hQ x s a w h hA
 | o::r,x,s,a,w,h,hA=>by
   unfold EA at h;obtain⟨h1,h2⟩:=J2 hA.tm h;unfold wpListIn;split
   . rename_i hw;refine vL (AJD (h1 hw)) (qX hA (h1 hw) fun v t u x' w' hK g he hnc hv=>?_);exact qa hQ r x' _ _ w' hK (CT.put hA.tm (hA.df.mono hnc) he g hv o.dst)
   . rename_i hw;refine⟨fun _ _=>trivial,qa hQ r x _ _ w (h2 hw) ?_⟩;exact CT.put (v:=.Bk []) (u:=undef) hA.tm hA.df (Ext.refl x w) hA.good (gJ x w) o.dst
structure Mo where
 rd:Option Nat
 n0:Nat
def fz (m:Mo):Fence:=match m.rd with
 | none=>EF
 | some l=>EF.inRound l
variable {m:Mo}
def AW (m:Mo)(P:Program)(c:Code)(K:Exit->St->Prop)(s:St):Prop:=
 ∀(n:Nat) (S0:Ba) (w0:Bs) (x:Cx) (a:Act) (w:World),w0.n0<=m.n0->CT S0 w0 x s a w->c.wpIn (fz m) n P (fun e a w=>∃x s,CT S0 w0 x s a w/\K e s) a w
def LM (n:St->Prop)(K:Exit->St->Prop):Exit->St->Prop
 | .normal,s=>n s
 | e,s=>K e s
def Pn (id:Nat)(K:Exit->St->Prop):Exit->St->Prop
 | .exit i,s=>if i=id then K .normal s else K (.exit i) s
 | e,s=>K e s
def AIx (P:Prop)(Q:Prop):V->Prop
 | .c (.bool b)=>(b=true->P)/\(b=false->Q)
 | _=>False
theorem AW.mono {c:Code}{K K':Exit->St->Prop}(h:AW m P c K s)(hk : ∀e s,K e s->K' e s):AW m P c K' s:=fun n S0 w0 x a w hm hA=>wpIn_mono (h n S0 w0 x a w hm hA) fun e a w ⟨x,s,h1,h2⟩=>⟨x,s,h1,hk e s h2⟩
theorem AW.skip {K:Exit->St->Prop}(h:K .normal s):AW m P .skip K s:=fun n S0 w0 x a w hm hA=>wpIn_skip ⟨x,s,hA,h⟩
theorem AW.label {l:Nat}{K:Exit->St->Prop}(h:K .normal s):AW m P (.label l) K s:=fun n S0 w0 x a w hm hA=>wpIn_label ⟨x,s,hA,h⟩
theorem AW.ret {K:Exit->St->Prop}(h:K .ret s):AW m P .ret K s:=fun n S0 w0 x a w hm hA=>wpIn_ret ⟨x,s,hA,h⟩
theorem AW.exit {id:Nat}{K:Exit->St->Prop}(h:K (.exit id) s):AW m P (.exit id) K s:=fun n S0 w0 x a w hm hA=>wpIn_exit ⟨x,s,hA,h⟩
theorem AW.goto {id:Nat}{K:Exit->St->Prop}(h:K (.goto id) s):AW m P (.goto id) K s:=fun n S0 w0 x a w hm hA=>wpIn_goto ⟨x,s,hA,h⟩
theorem AW.seq {c d:Code}{K:Exit->St->Prop}(h:AW m P c (LM (AW m P d K) K) s):AW m P (.seq c d) K s:=fun n S0 w0 x a w hm hA=>wpIn_seq (wpIn_mono (h n S0 w0 x a w hm hA) fun e a w ⟨x,s,h1,h2⟩=>by
 cases e with
 | normal=>exact h2 n S0 w0 x a w hm h1
 | _=>exact⟨x,s,h1,h2⟩)
theorem AW.block {id:Nat}{c:Code}{K:Exit->St->Prop}(h:AW m P c (Pn id K) s):AW m P (.block id c) K s:=fun n S0 w0 x a w hm hA=>wpIn_block (wpIn_mono (h n S0 w0 x a w hm hA) fun e a w ⟨x,s,h1,h2⟩=>by
 cases e with
 | exit i =>
   simp only[Pn,Exit.inBlock]at h2 ⊢;split
   . rename_i e;rw[if_pos e]at h2;exact⟨x,s,h1,h2⟩
   . rename_i e;rw[if_neg e]at h2;exact⟨x,s,h1,h2⟩
 | _=>exact⟨x,s,h1,h2⟩)
theorem AW.cond {c:Operand}{d d':Code}{K:Exit->St->Prop}(h:AIx (AW m P d K s) (AW m P d' K s) (ev s.t c)):AW m P (.cond c d d') K s:=fun n S0 w0 x a w hm hA=>by
 have hc:=EH hA.tm c;cases hv:ev s.t c with
 | c cc =>
   cases cc with
   | bool b =>
     rw[hv]at h hc;simp only[CV,Ap]at hc;exact wpIn_cond_split hc (fun e=>h.1 e n S0 w0 x a w hm hA) (fun e=>h.2 e n S0 w0 x a w hm hA)
   | _=>rw[hv]at h;exact h.elim
 | _=>rw[hv]at h;exact h.elim
theorem AW.region {id:Nat}{ops:List Oper}{K:Exit->St->Prop}(h:EA P ops (K .normal) ops s):AW m P (.region id ops.toArray false) K s:=fun n S0 w0 x a w hm hA=>by
 obtain⟨rd,n0⟩:=m;cases rd with
 | none=>exact wpIn_wide.2 (wp_region_lit (qZ (fun x s a w h hA=>⟨x,s,hA,h⟩) ops x s a w h hA))
 | some l=>exact wpIn_region_lit (qa (fun x s a w h hA=>⟨x,s,hA,h⟩) ops x s a w h hA)
theorem AHm {F:Fence}{n:Nat}{c:Code}{ι:Type}{Q:Exit->Act->World->Prop}(I:ι->Act->World->Prop)(μ:ι->Nat)(i0:ι)(h₀:I i0 a w)(round : ∀i a w,I i a w->c.wpIn F n P (Exit.then (fun a' w'=>∃j,I j a' w'/\μ j<μ i) Q) a w):(Code.loop c).wpIn F n P Q a w:=by
 intro b k cs hro hb hr;have key : ∀q i a w,μ i=q->I i a w->
  ∃e a' w',Q e a' w'/\ArrivesIn (Machine.fenced P F) P (lone (b.atR a (.code c:: .inLoop c::k)) cs w) b k cs e a' w':=by
  intro q;induction q using Nat.strongRecOn with
  | _ q ih =>
    intro i a w hn hI;obtain⟨e,a₁,w₁,hq,harr⟩:=round i a w hI b (.inLoop c::k) cs hro hb hr;cases e with
    | normal =>
      obtain⟨j,ALg,hlt⟩:=hq;obtain⟨e₂,a₂,w₂,tz,sx⟩:=ih (μ j) (hn ▸ hlt) j a₁ w₁ rfl ALg;exact⟨e₂,a₂,w₂,tz,.of_steps (StepsIn.trans harr (.one (fenced_calm hb hr rfl) stepR_inLoop)) sx⟩
    | exit id=>exact⟨_,a₁,w₁,hq,.pass (x:=.inLoop c) rfl (fun _ _=>.inl (by simp)) harr⟩
    | goto l=>exact⟨_,a₁,w₁,hq,.pass (x:=.inLoop c) rfl (fun _ _=>.inl (by simp)) harr⟩
    | ret=>exact⟨_,a₁,w₁,hq,.pass (x:=.inLoop c) rfl (fun _ _=>.inl (by simp)) harr⟩
    | panic ch=>exact⟨_,a₁,w₁,hq,.pass (x:=.inLoop c) rfl (fun _ _=>.inl (by simp)) harr⟩
    | outgrown=>exact⟨_,a₁,w₁,hq,.pass (x:=.inLoop c) rfl (fun _ _=>.inl (by simp)) harr⟩
 obtain⟨e,a',w',hq,harr⟩:=key _ i0 a w rfl h₀;exact⟨e,a',w',hq,.of_steps (.one (fenced_calm hb hr rfl) stepR_loop) harr⟩
def Le (m:Mo)(s s':St):Prop:=∀(S0:Ba) (w0:Bs) (x:Cx) (a:Act) (w:World),w0.n0<=m.n0->CT S0 w0 x s a w->∃x',CT S0 w0 x' s' a w
theorem Le.refl (s:St):Le m s s:=fun _ _ x _ _ _ h=>⟨x,h⟩
theorem Le.trans {s s' s'':St}(h:Le m s s')(k:Le m s' s''):Le m s s'':=fun S0 w0 x a w hm hA=>let ⟨x',h'⟩:=h S0 w0 x a w hm hA;k S0 w0 x' a w hm h'
theorem AW.le {c:Code}{K:Exit->St->Prop}{s':St}(hl:Le m s s')(h:AW m P c K s'):AW m P c K s:=fun n S0 w0 x a w hm hA=>let ⟨x',h'⟩:=hl S0 w0 x a w hm hA;h n S0 w0 x' a w hm h'
theorem AW.loop {c:Code}{K:Exit->St->Prop}{ι:Type}(I:ι->St)(μ:ι->Nat)(i0:ι)(h0:Le m s (I i0))(h : ∀i,AW m P c (LM (fun s'=>∃j,μ j<μ i/\Le m s' (I j)) K) (I i)):AW m P (.loop c) K s:=fun n S0 w0 x a w hm hA=>by
 obtain⟨x',BR⟩:=h0 S0 w0 x a w hm hA;refine AHm (fun i a w=>∃x,CT S0 w0 x (I i) a w) μ i0 ⟨x',BR⟩ fun i a w hi=>?_
 obtain⟨x1,Gv⟩:=hi;refine wpIn_mono (h i n S0 w0 x1 a w hm Gv) fun e a w ⟨x,s,h1,h2⟩=>?_
 cases e with
 | normal =>
   obtain⟨j,hj,hl⟩:=h2;obtain⟨x2,h2⟩:=hl S0 w0 x a w hm h1;exact⟨j,⟨x2,h2⟩,hj⟩
 | _=>exact⟨x,s,h1,h2⟩
def Aa (P:Program)(s:St):ResultVar->Option V
 | .tmp t=>some (s.t.getD t .any)
 | .cell p ty=>match Ct P ty,s.t.getD p .any with
   | some q,.ptr k off=>match s.h[k]? with
     | some (.box _ cs _)=>AU q cs off
     | _=>none
   | _,_=>none
def AZ (P:Program)(s:St):List ResultVar->Option (List V)
 | []=>some []
 | r::l=>match Aa P s r,AZ P s l with
   | some v,some vs=>some (v::vs)
   | _,_=>none
def AV (P:Program)(s:St)(l:List ResultVar):Option V:=
 match AZ P s l with
 | some [v]=>v.AP
 | some vs=>(V.Bk vs).AP
 | none=>none
def Aj (P:Program)(l:List ResultVar)(res:V):Exit->St->Prop
 | .normal,s=>AV P s l=some res
 | .ret,s=>AV P s l=some res
 | _,_=>False
def fb (tmps:Array Value)(r:ResultVar):Sem Value:=
 match r with
 | .tmp t=>pure (tmps.getD t undef)
 | .cell p t=>do loadVar t (<-asAddr (tmps.getD p undef))
theorem AJU (hA:CT S0 w0 x s a w){r:ResultVar}(h:Aa P s r=some v):∃u,(fb a.tmps r).run P w=.ok u w/\CV x w v u:=by
 cases r with
 | tmp t =>
   simp only[Aa,BE]at h;subst h;exact⟨_,rfl,by have:=hA.tm.getD t undef;simpa [NO,G5]using this⟩
 | cell p ty =>
   simp only[Aa]at h;split at h
   . rename_i q k off hq hp;split at h
     . rename_i Fy cs fr hH;have hv:CV x w (.ptr k off) (a.tmps.getD p undef):=by
        have:=hA.tm.getD p undef;rw[hp]at this;simpa [NO,G5]using this
       simp only[CV]at hv;obtain⟨_,_,vs,hb,hn,hcs⟩:=(hA.good.ok k _ hH).2;obtain⟨u,hr,hu⟩:=mF (x:=x) (w:=w) (b:=(x.loc k).b) (o:=0) hq (fun j v hj=>by
        obtain⟨u,h1,h2⟩:=hcs.get j v hj;refine⟨u,?_,h2⟩;rw[Cu,cell_of_row w _ j vs Fy (0,0) hb];simpa using h1) h
       rw[Cu]at hr;exact⟨u,by simp only[fb,hv.2.2,asAddr,H9,YF,Lr];exact hr,hu⟩
     . cases h
   . cases h
theorem qk (hA:CT S0 w0 x s a w):∀ {l:List ResultVar} {vs:List V},AZ P s l=some vs->∃us,(l.mapM (fb a.tmps)).run P w=.ok us w/\AL x w vs us
 | [],vs,h=>by simp only[AZ,BE]at h;subst h;exact⟨[],by simp,by simp only[AL]⟩
 | r::l,vs,h=>by
   unfold AZ at h;split at h
   . rename_i v CQ h1 h2;cases h;obtain⟨u,r1,c1⟩:=AJU hA h1;obtain⟨us,r2,c2⟩:=qk hA h2;refine⟨u::us,?_,by simp only[AL];exact⟨u,us,rfl,c1,c2⟩⟩;simp only[List.mapM_cons,H9,r1,Lr,r2,YF]
   . cases h
theorem AJW (hA:CT S0 w0 x s a w){fn:Func}{res:V}(h:AV P s fn.results.toList=some res):∃u,(results fn a.tmps).run P w=.ok u w/\CV (Cx.bare x.S) w res u:=by
 unfold AV at h;cases hl:AZ P s fn.results.toList with
 | none=>rw[hl]at h;cases h
 | some vs =>
   rw[hl]at h;obtain⟨us,hr,hc⟩:=qk hA hl;have hr':(results fn a.tmps).run P w=.ok (if h:us.toArray.size=1 then us.toArray[0]else .tuple us.toArray) w:=by
    have e:results fn a.tmps=(fn.results.mapM (fb a.tmps) >>=fun vs=>pure (if h:vs.size=1 then vs[0]else .tuple vs)):=rfl;rw[e,Array.mapM_eq_mapM_toList];simp[hr]
   refine⟨_,hr',?_⟩;match vs,h,hc with
   | [v],h,hc =>
     simp only[AL]at hc;obtain⟨u,ur,rfl,Dk,rfl⟩:=hc;exact ml v res u h Dk
   | [],h,hc =>
     simp only[AL]at hc;subst hc;refine ml (.Bk []) res _ h ?_;simp only[CV];exact⟨#[],rfl,by simp only[AL]⟩
   | v::v'::r,h,hc =>
     have hlen:=hc.len;rw[dif_neg (by simp[hlen])];refine ml (.Bk (v::v'::r)) res _ h ?_;simp only[CV];exact⟨_,rfl,hc⟩
theorem Tc (x:Cx)(w:World)(n:Nat)(u:Value):AL x w (As n .any) (As n u):=AL.Rp (by simp) fun i v u' h1 h2=>by
 rw[List.getElem?_replicate]at h1;split at h1
 . cases h1;simp only[CV]
 . cases h1
theorem ey {fn:Func}{R:Ending->World->Prop}{res:V}(hr:AV P s fn.results.toList=some res){tmps:Array Value} : ∀(Ds:List Nat) (w:World),Ds.Nodup->(∀D∈Ds,¬w0.F D/\w.heap[D]?=some (.deferred (some [])))->Good S0 w0 x w (fun k=>s.h[k]?)->AL x w s.t tmps.toList->
 (∀w u,Good S0 w0 x w (fun k=>s.h[k]?)->CV (Cx.bare x.S) w res u->R (.returned u) w)->LeavesInM EF 0 P fn tmps R (Ds.map fun D=>{ target:=.collected D,args:=#[] }) .returning w
 | [],w,_,_,g,ht,hR=>by
   obtain⟨u,h1,h2⟩:=AJW (fn:=fn) (a:={ tmps:=tmps,defers:=[] }) ⟨g,ht,Marks.nil _ _⟩ hr;exact⟨u,h1,hR w u g h2⟩
 | D::Ds,w,hn,hD,g,ht,hR=>by
   obtain⟨h1,h2⟩:=hD D (by simp);have hg:w.grownBy (w.putObj D (.deferred none)) (some D):=grownBy_putObj' w D _;obtain⟨g',he⟩:=g.grown hg fun r e=>by cases e;exact⟨h1,_,h2,rfl⟩
   rw[List.nodup_cons]at hn;refine⟨by simp,.inl ⟨D,_,rfl,run_takeDeferred h2,ey hr Ds _ hn.2 (fun D' J9=>?_) g' (AL.mono he _ _ ht) hR⟩⟩;obtain⟨k1,k2⟩:=hD D' (by simp[J9]);have hne:D'≠D:=fun e=>hn.1 (by rw[<-e];exact J9)
   exact⟨k1,by rw[World.putObj_heap_other hne];exact k2⟩
theorem AC.intro {f:FuncId}{fn:Func}{c:Code}{args:List V}{res:V}(hf:P.funcs[f]?=some fn)(hb:fn.body=some c)(h:AW ⟨none,0⟩ P c (Aj P fn.results.toList res) ⟨args++As (fn.ntmps - args.length) .any,[]⟩):AC P f args res:=by
 intro S w us hS C9;refine callsIn_wide.1 (callsIn_of_wp_marks (F:=EF) (n:=0) hf hb trivial ?_);have hA:CT S (Bs.of w) (Cx.bare S) ⟨args++As (fn.ntmps - args.length) .any,[]⟩ { tmps:=us.toArray++Array.replicate (fn.ntmps - us.toArray.size) undef,defers:=[] } w:=by
  refine⟨⟨fun k o h=>by simp at h,fun k h=>h.elim,fun k k' o o' h=>by simp at h,fun k o j h=>by simp at h,hS,fun k o h=>by simp at h,fun b j h=>.inl h,fun b j h=>h,.GA (AS.refl w),Ext.none _ _ _⟩,?_,Marks.nil _ _⟩;simp only[Qt,Array.toList_replicate];have hl:us.toArray.size=args.length:=by simpa using C9.len
  rw[hl];exact C9.append (Tc _ _ _ _)
 refine wpIn_mono (h 0 S (Bs.of w) _ _ w (BW _) hA) fun e a' w' ⟨x,s,BR,hK⟩=>?_
 have fin : ∀ {R:Ending->World->Prop},(∀u w' S',AS w w'->Ar S S' w w'->(∀b j,S' b j->S b j\/(w.heap.size<=b/\b<w'.heap.size))->CV (Cx.bare S') w' res u->R (.returned u) w')->AV P s fn.results.toList=some res->LeavesInM EF 0 P fn a'.tmps R a'.defers .returning w':=by
  intro R hR hr;obtain⟨Ds,e,h1,h2⟩:=BR.df;rw[e];refine ey hr Ds w' h1 h2 BR.good BR.tm fun w2 u g hu=>hR u w2 x.S g.keep.all ⟨g.sub,fun b j v hs hc=>g.keep.all.cell hc⟩ (fun b j hs=>?_) hu
  rcases g.new b j hs with h|h
  . exact .inl h
  . exact .inr ⟨Nat.le_of_not_lt h,g.ex b j hs⟩
 cases e with
 | normal=>exact fin (fun u w' S' h1 h2 h3 h4=>⟨u,S',rfl,h1,h2,h3,h4⟩) hK
 | ret=>exact fin (fun u w' S' h1 h2 h3 h4=>⟨u,S',rfl,h1,h2,h3,h4⟩) hK
 | _=>exact hK.elim
end
end Go.Proofs.YtpodcjcajanldaaGreat
