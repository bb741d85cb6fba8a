/- Part of the proof of breakpointLength.proved. Conditions: none. (Joined and shortened by a program.) -/
import Derived.WalkKit
import Derived.Laws.Rows
import Derived.Laws.ResultCell
import Derived.Deep.Draws
import Derived.Lib.Hide
import GoSem.Core.Value
import Derived.Test.YtpodcjcajanldaaGreatProg
import Derived.OpenShut
import Derived.Orders
import Derived.KernelRfl
import Derived.Maps.OwnSet
import Derived.Maps.OwnOps
import Derived.Maps.Views
import Derived.StringKeys
import Derived.Outline
import Derived.Deep.Light
set_option linter.unusedVariables false
set_option linter.unusedSimpArgs false
set_option maxRecDepth 100000
set_option maxHeartbeats 16000000
open Array renaming getElem?_eq_some_iff→Dy,ext→xU,toArray_toList→AHv,getElem?_eq_getElem→Zu,toList_inj→Gk,getD_eq_getD_getElem?→NO
open Nat renaming zero_add→Cu,le_refl→BW,add_mul→F1,lt_trichotomy→aC,lt_or_ge→Lq
open List renaming getElem?_eq_some_iff→Bv,take_of_length_le→D9,zipIdx_cons→iC,foldl_cons→Bl,take_succ_eq_append_getElem→NR,nil_append→Bh,mem_cons→Cb,mem_map→DC,length_map→Cg,getElem_map→Vb,range→E8,replicate→As,replicate_succ→Ao,cons_append→Bg,getElem?_cons_zero→LK,getElem?_eq_getElem→BP,reverse_append→AIT,all_eq_true→Ee,mem_range→Lo,countP_cons→AH9,getElem?_take_of_lt→Tl,range'→n6,range'_append_1→AHq,range_eq_range'→n7,countP_append→AH8,countP_eq_zero→oN,length_replicate→NQ
open Go.Sem renaming run_bind→H9,run_pure→YF
open Go.Region renaming wanted→DV,ready→iH
open Go.Oper renaming wp→EL,wp_mono→og,looksAt→GG
open Go.Instr renaming sureAddr→Qw
open Go.Result renaming andThen_ok→Lr
open Go.Lit renaming int→Mj,string→aA
open Go.Value renaming oneCell'→PW,int→YV
open Int renaming mul_tdiv_add_tmod→gb,lt_or_le→Z2,tmod_nonneg→Pb,neg_tmod→gg,lt_tmod_of_pos→Z3,tmod_lt_of_pos→Va,mul_le_mul_of_nonneg_left→X8,mul_le_mul_of_nonneg_right→AH2,mul_nonneg→Qx
open Go.Proofs.Tryz renaming prog→AD,underlying9→Mp,underlying177→yV,underlying3→Eg
open Go.ByteArray renaming toList_eq→oC
open Go.IntKind renaming i64→Ad
open Option.some renaming injEq→BE
open Bool renaming and_eq_true→An,or_eq_true→Qu
open Option renaming map_some→H8,getD_some→EM
open Classical renaming byContradiction→Kb
open Go.Code renaming region→oF
open Go.Op renaming operands→CN
open Go.Maps renaming string_keyed→oT
open Go.WideMaps renaming keyOf_string_mk→qF
namespace Go.Proofs.YtpodcjcajanldaaGreat
open Go.RowKit
theorem AE {α : Sort _}(a : α):∃ x,a=x:=⟨a,rfl⟩
def IC (w:World)(b off:Nat)(cs:Array Value):Prop:=∀j,j<cs.size->w.cell? ⟨b,off+j,none⟩=cs[j]?
def bj:TypeDesc->Bool
 | .struct _ | .array _ _=>true
 | _=>false
def I7 (P:Program)(ty:TypeId)(n:Nat):Prop:=
 ∃d,P.underlying ty=some d/\bj d=true/\(P.info? ty).map (·.size)=some n
theorem I7.mk' {P:Program}{ty:TypeId}{n:Nat}{d:TypeDesc}(h:P.underlying ty=some d)(h1:bj d=true)(h2:(P.info? ty).map (·.size)=some n):I7 P ty n:=⟨d,h,h1,h2⟩
def SU (cs:Array Value):Prop:=∀v∈cs.toList,v.oneCell'=true
theorem I9 (b off n:Nat):(⟨b,off,none⟩:Addr).add n=⟨b,off+n,none⟩:=by
 unfold Addr.add;split
 . rename_i h;subst h;rfl
 . rfl
def B8 (w:World)(g:Nat)(t:TypeId)(cs:Array Value):Prop:=w.heap[g]?=some (.cells cs t (0,0))
theorem B8.lt {w:World}{g:Nat}{t:TypeId}{cs:Array Value}(h:B8 w g t cs):g<w.heap.size:=(Dy.1 h).1
theorem B8.cell {w:World}{g:Nat}{t:TypeId}{cs:Array Value}(h:B8 w g t cs)(i:Nat):w.cell? ⟨g,i,none⟩=cs[i]?:=cell_of_row w g i cs t (0,0) h
theorem B8.frozen {w:World}{g:Nat}{t:TypeId}{cs:Array Value}(h:B8 w g t cs)(i:Nat):w.frozen? ⟨g,i,none⟩=false:=frozen_of_row w g i cs t h
theorem B8.new (w:World)(t:TypeId)(cs:Array Value):B8 (w.alloc (.cells cs t)) w.heap.size t cs:=heap_alloc_new w _
theorem B8.at_ (w:World)(t:TypeId)(cs:Array Value){g:Nat}(h:g=w.heap.size):B8 (w.alloc (.cells cs t)) g t cs:=by subst h;exact B8.new w t cs
theorem B8.alloc {w:World}{g:Nat}{t:TypeId}{cs:Array Value}(h:B8 w g t cs)(o:Obj):B8 (w.alloc o) g t cs:=(Below.heap_alloc w o g h.lt).trans h
theorem B8.below {w w':World}{g B:Nat}{t:TypeId}{cs:Array Value}(h:B8 w g t cs)(hb:Below B w w')(hg:g<B):B8 w' g t cs:=(hb.block g hg).trans h
theorem B8.row {w:World}{g:Nat}{t:TypeId}{cs:Array Value}(h:B8 w g t cs):IC w g 0 cs:=fun j _=>by rw[Cu];exact h.cell j
theorem B8.Xr {w:World}{g:Nat}{t:TypeId}{old:Array Value}(h:B8 w g t old)(cs:Array Value):B8 (w.setRow g cs) g t cs:=setRow_heap w g old cs t (0,0) h
theorem B8.LU {w:World}{g k:Nat}{t:TypeId}{old:Array Value}(h:B8 w k t old)(cs:Array Value)(hk:k≠g):B8 (w.setRow g cs) k t old:=(setRow_other w g k cs hk).trans h
theorem ATa (w:World)(old cs:Array Value)(t:TypeId)(fr:Nat×Nat)(g:Nat)(h:g=w.heap.size):(w.alloc (.cells old t fr)).setRow g cs=w.alloc (.cells cs t fr):=by
 subst h;show ({ w with heap:=(w.heap.push _).modify _ _ }:World)={ w with heap:=w.heap.push _ }
 congr 1
 apply xU
 . simp
 . intro i h1 h2;simp only[Array.size_modify,Array.size_push]at h1;rw[Array.getElem_modify];by_cases hi:w.heap.size=i
   . subst hi;simp
   . have:i<w.heap.size:=by omega
     simp[hi,Array.getElem_push,this]
section
variable {P:Program} {ops:Array Oper} {rest:List Oper} {a:Act} {w:World} {Q:Exit->Act->World->Prop} {dst:Option Tmp} {PU:TypeId} {pos:String} {after:Array Edge}
theorem nP {ty:TypeId}{b off:Nat}{cs:Array Value}(hr:IC w b off cs)(ht:I7 P ty cs.size):(loadVar ty ⟨b,off,none⟩).run P w=.ok (.agg cs) w:=by
 obtain⟨d,hu,hd,hi⟩:=ht;have hl:(loadCells ⟨b,off,none⟩ cs.toList.length).run P w=.ok cs.toList.toArray w:=
  run_loadCells_list (P:=P) w ⟨b,off,none⟩ cs.toList (fun j v hv=>by
   rw[I9];have hj:j<cs.size:=by
    have:=(Bv.1 hv).1;simpa using this
   rw[hr j hj];simpa using hv)
 cases hq:P.info? ty with
 | none=>simp[hq]at hi
 | some i =>
   have hs:i.size=cs.size:=by simpa [hq]using hi
   have hagg:(isAgg ty).run P w=.ok true w:=by
    unfold isAgg;rw[H9,run_underlying hu w];cases d<;>simp_all [bj]
   simp only[Array.length_toList,AHv]at hl;simp[loadVar,H9,hagg,sizeOf,typeInfo,hq,hs,hl]
theorem VW {gd:Option (Nat×Bool)}{ty:TypeId}{x:Operand}(b off:Nat)(cs:Array Value)(hx:a.eval x=.pointer (some ⟨b,off,none⟩))(hr:IC w b off cs)(ht:I7 P ty cs.size)(hw:DV ⟨dst,.load ty x,PU,pos,after,gd⟩ (yielded ops a.tmps)=true)(h:wpList P ops Q rest (a.put dst (.agg cs)) w):wpList P ops Q (⟨dst,.load ty x,PU,pos,after,gd⟩::rest) a w:=
 wpList_step fun _ hK=>by
  rw[if_pos hw];unfold EL execOp;simp only[hx,Instr.loadAt,Qw,H9,YF,Lr,nP hr ht];exact hK _ _ h
theorem ATb (cs:List Value):∀(i:Nat) (old:Array Value),old.size=i+cs.length->(cs.zipIdx i).foldl (fun c p=>c.setIfInBounds p.2 p.1) old=(old.toList.take i++cs).toArray:=by
 induction cs with
 | nil=>intro i old h;simp at h;subst h;simp[D9]
 | cons v r ih =>
   intro i old h;simp only[iC,Bl];rw[ih (i+1) _ (by simp at h ⊢;omega)];congr 1
   have hi:i<old.toList.length:=by simp at h ⊢;omega
   simp only[Array.toList_setIfInBounds];rw[NR (by simpa using hi),List.take_set_of_le (BW _)];simp
theorem ATK {g:Nat}{t:TypeId} : ∀(vs:List Value) (i:Nat) (w:World) (old:Array Value),B8 w g t old->i+vs.length<=old.size->(∀v∈vs,v.oneCell'=true)->
 (storeCells ⟨g,0,none⟩ vs i).run P w=.ok () (w.setRow g ((vs.zipIdx i).foldl (fun c p=>c.setIfInBounds p.2 p.1) old)):=by
 intro vs;induction vs with
 | nil=>intro i w old hb _ _;simp[storeCells,setRow_self w g old t (0,0) hb]
 | cons v r ih =>
   intro i w old hb hi hv;have hlt:i<old.size:=by simp at hi;omega
   have hc:w.cell? ⟨g,i,none⟩=some (old[i]):=by rw[hb.cell];simp[hlt]
   have hst:(store ⟨g,i,none⟩ v .plain).run P w=.ok () (w.setRow g (old.setIfInBounds i v)):=by
    rw[run_store P _ _ v .plain (hv v (by simp)),setCell_eq_setRow w g i old t (0,0) v hb];simp[hc,hb.frozen]
   unfold storeCells;rw[H9,I9,Cu,hst];simp only[Lr];rw[ih (i+1) _ (old.setIfInBounds i v) (hb.Xr _) (by simp at hi ⊢;omega) (fun u hu=>hv u (by simp[hu])),setRow_setRow];simp[iC]
theorem ATL {ty:TypeId}{g:Nat}{t:TypeId}{old cs:Array Value}(hb:B8 w g t old)(hs:old.size=cs.size)(h1:SU cs)(ht:I7 P ty cs.size) :
 (storeVar ty ⟨g,0,none⟩ (.agg cs)).run P w=.ok () (w.setRow g cs):=by
 obtain⟨d,hu,hd,hi⟩:=ht;cases hq:P.info? ty with
 | none=>simp[hq]at hi
 | some i =>
   have hz:i.size=cs.size:=by simpa [hq]using hi
   have h:=ATK (P:=P) (g:=g) (t:=t) cs.toList 0 w old hb (by simp[hs]) h1;rw[ATb cs.toList 0 old (by simp[hs])]at h;simp only[List.take_zero,Bh,AHv]at h;simp[storeVar,Value.cells,H9,sizeOf,typeInfo,hq,hz,h]
theorem AHj {gd:Option (Nat×Bool)}{ty:TypeId}{x y:Operand}(g:Nat)(t:TypeId)(old cs:Array Value)(hx:a.eval x=.pointer (some ⟨g,0,none⟩))(hy:a.eval y=.agg cs)(hb:B8 w g t old)(hs:old.size=cs.size)(h1:SU cs)(ht:I7 P ty cs.size)(hw:DV ⟨dst,.store ty x y,PU,pos,after,gd⟩ (yielded ops a.tmps)=true)(h:wpList P ops Q rest (a.put dst undef) (w.setRow g cs)):wpList P ops Q (⟨dst,.store ty x y,PU,pos,after,gd⟩::rest) a w:=
 wpList_step fun _ hK=>by
  rw[if_pos hw];unfold EL execOp;simp only[hx,hy,Instr.storeAt,Qw,H9,YF,Lr,ATL hb hs h1 ht];exact hK _ _ h
theorem gP {gd:Option (Nat×Bool)}{ty:TypeId}{x y:Operand}{W:World}{t:TypeId}{old:Array Value}(g:Nat)(cs:Array Value)(hx:a.eval x=.pointer (some ⟨g,0,none⟩))(hy:a.eval y=.agg cs)(hg:g=W.heap.size)(hs:old.size=cs.size)(h1:SU cs)(ht:I7 P ty cs.size)(hw:DV ⟨dst,.store ty x y,PU,pos,after,gd⟩ (yielded ops a.tmps)=true)(h:wpList P ops Q rest (a.put dst undef) (W.alloc (.cells cs t))):wpList P ops Q (⟨dst,.store ty x y,PU,pos,after,gd⟩::rest) a (W.alloc (.cells old t)):=
 AHj g t old cs hx hy (B8.at_ _ _ _ hg) hs h1 ht hw (by rw[ATa _ _ _ _ _ _ hg];exact h)
theorem xP {gd:Option (Nat×Bool)}{ty:TypeId}{x y:Operand}(g:Nat)(cs:Array Value)(hx:a.eval x=.pointer (some ⟨g,0,none⟩))(hy:a.eval y=.agg cs)(hb : ∃t old,B8 w g t old/\old.size=cs.size)(h1:SU cs)(ht:I7 P ty cs.size)(hw:DV ⟨dst,.store ty x y,PU,pos,after,gd⟩ (yielded ops a.tmps)=true)(h:wpList P ops Q rest (a.put dst undef) (w.setRow g cs)):wpList P ops Q (⟨dst,.store ty x y,PU,pos,after,gd⟩::rest) a w:=by
 obtain⟨t,old,hb,hs⟩:=hb;exact AHj g t old cs hx hy hb hs h1 ht hw h
end
def AS (w w':World):Prop:=Below w.heap.size w w'
theorem AS.refl (w:World):AS w w:=Below.refl _ _
theorem AS.size {w w':World}(h:AS w w'):w.heap.size<=w'.heap.size:=Below.size h
theorem AS.trans {a b c:World}(h:AS a b)(k:AS b c):AS a c:=Below.trans h (Below.mono k h.size)
theorem AS.alloc {w W:World}(h:AS w W)(o:Obj):AS w (W.alloc o):=Below.alloc h h.size o
theorem AS.drew {w W:World}(h:AS w W):AS w W.drew:=Below.drew h
theorem AS.drewN {w W:World}(h:AS w W)(n:Nat):AS w (W.drewN n):=Below.trans h ⟨rfl,rfl,rfl,BW _,fun _ _=>rfl⟩
theorem AS.setRow {w W:World}(h:AS w W){g:Nat}(hg:w.heap.size<=g)(cs:Array Value):AS w (W.setRow g cs):=
 Below.trans h ⟨rfl,rfl,rfl,by simp,fun k hk=>setRow_other W g k cs (by omega)⟩
theorem AS.blk {W w1:World}(h:AS W w1){g:Nat}{t:TypeId}{cs:Array Value}(hb:B8 W g t cs):B8 w1 g t cs:=hb.below h hb.lt
theorem AS.cell {W w1:World}(h:AS W w1){p:Addr}{v:Value}(hc:W.cell? p=some v):w1.cell? p=some v:=(Below.cell h (block_lt_of_cell hc)).trans hc
theorem AS.row {W w1:World}(h:AS W w1){b off:Nat}{cs:Array Value}(hr:IC W b off cs):IC w1 b off cs:=fun j hj=>by
 have h1:=hr j hj;rw[Zu hj]at h1 ⊢;exact h.cell h1
theorem AS.heap {W w1:World}(h:AS W w1){k:Nat}(hk:k<W.heap.size):w1.heap[k]?=W.heap[k]?:=h.block k hk
theorem AS.APb {w W w':World}{row:Option Nat}(h:AS w W)(hg:W.grownBy w' row)(hr : ∀k,row=some k->w.heap.size<=k):AS w w':=Below.grown h hg h.size hr
inductive D where
 | int (k:IntKind) (n:Int)
 | bool (b:Bool)
 | str (s:ByteArray)
 | sl (l:List D)
 | ag (l:List D)
mutual
def D.wd:D->Nat
 | .ag l=>D.Zr l
 | .int _ _ | .bool _ | .str _ | .sl _=>1
def D.Zr:List D->Nat
 | []=>0
 | d::r=>d.wd+D.Zr r
end
mutual
def Rd (w:World):D->List Value->Prop
 | .int k n,cs=>cs=[.int k n]/\(Mj k n).wf=true
 | .bool b,cs=>cs=[.bool b]
 | .str s,cs=>cs=[.string s]/\s.size<=maxLen
 | .sl l,cs=>∃A c,cs=[.slice A l.length c]/\l.length<=c/\c<=maxLen/\(l≠[]->∃b off,A=some ⟨b,off,none⟩/\I8 w l b off)
 | .ag l,cs=>D4 w l cs
def D4 (w:World):List D->List Value->Prop
 | [],cs=>cs=[]
 | d::r,cs=>∃c1 c2,cs=c1++c2/\Rd w d c1/\D4 w r c2
def I8 (w:World):List D->Nat->Nat->Prop
 | [],_,_=>True
 | d::r,b,off=>∃row:Array Value,IC w b off row/\Rd w d row.toList/\I8 w r b (off+row.size)
end
mutual
theorem Rd.len {w:World} : ∀(d:D) (cs:List Value),Rd w d cs->cs.length=d.wd
 | .int _ _,cs,h=>by simp only[Rd]at h;simp[h.1,D.wd]
 | .bool _,cs,h=>by simp only[Rd]at h;simp[h,D.wd]
 | .str _,cs,h=>by simp only[Rd]at h;simp[h.1,D.wd]
 | .sl _,cs,h=>by simp only[Rd]at h;obtain⟨A,c,rfl,_⟩:=h;simp[D.wd]
 | .ag l,cs,h=>by simp only[Rd]at h;simpa [D.wd]using D4.len l cs h
theorem D4.len {w:World} : ∀(l:List D) (cs:List Value),D4 w l cs->cs.length=D.Zr l
 | [],cs,h=>by simp only[D4]at h;simp[h,D.Zr]
 | d::r,cs,h=>by
   simp only[D4]at h;obtain⟨c1,c2,rfl,h1,h2⟩:=h;simp[D.Zr,Rd.len d c1 h1,D4.len r c2 h2]
end
mutual
theorem Rd.keep {w w':World}(hk:AS w w'):∀(d:D) (cs:List Value),Rd w d cs->Rd w' d cs
 | .int _ _,cs,h=>by simpa only[Rd]using h
 | .bool _,cs,h=>by simpa only[Rd]using h
 | .str _,cs,h=>by simpa only[Rd]using h
 | .sl l,cs,h=>by
   simp only[Rd]at h ⊢;obtain⟨A,c,e,h1,h2,h3⟩:=h;refine⟨A,c,e,h1,h2,fun hl=>?_⟩;obtain⟨b,off,hA,hs⟩:=h3 hl;exact⟨b,off,hA,I8.keep hk l b off hs⟩
 | .ag l,cs,h=>by simp only[Rd]at h ⊢;exact D4.keep hk l cs h
theorem D4.keep {w w':World}(hk:AS w w'):∀(l:List D) (cs:List Value),D4 w l cs->D4 w' l cs
 | [],cs,h=>by simpa only[D4]using h
 | d::r,cs,h=>by
   simp only[D4]at h ⊢;obtain⟨c1,c2,e,h1,h2⟩:=h;exact⟨c1,c2,e,Rd.keep hk d c1 h1,D4.keep hk r c2 h2⟩
theorem I8.keep {w w':World}(hk:AS w w'):∀(l:List D) (b off:Nat),I8 w l b off->I8 w' l b off
 | [],_,_,_=>by simp only[I8]
 | d::r,b,off,h=>by
   simp only[I8]at h ⊢;obtain⟨row,h1,h2,h3⟩:=h;exact⟨row,hk.row h1,Rd.keep hk d _ h2,I8.keep hk r b _ h3⟩
end
mutual
theorem Rd.Rq {w:World} : ∀(d:D) (cs:List Value),Rd w d cs->∀v∈cs,v.oneCell'=true
 | .int _ _,cs,h=>by simp only[Rd]at h;simp[h.1,PW]
 | .bool _,cs,h=>by simp only[Rd]at h;simp[h,PW]
 | .str _,cs,h=>by simp only[Rd]at h;simp[h.1,PW]
 | .sl _,cs,h=>by simp only[Rd]at h;obtain⟨A,c,rfl,_⟩:=h;simp[PW]
 | .ag l,cs,h=>by simp only[Rd]at h;exact D4.Rq l cs h
theorem D4.Rq {w:World} : ∀(l:List D) (cs:List Value),D4 w l cs->∀v∈cs,v.oneCell'=true
 | [],cs,h=>by simp only[D4]at h;simp[h]
 | d::r,cs,h=>by
   simp only[D4]at h;obtain⟨c1,c2,rfl,h1,h2⟩:=h;intro v hv;rcases List.mem_append.1 hv with hv|hv
   . exact Rd.Rq d c1 h1 v hv
   . exact D4.Rq r c2 h2 v hv
end
theorem I8.at_ {w:World}{s:Nat} : ∀(l:List D) (b off:Nat),I8 w l b off->(∀d∈l,d.wd=s)->∀i (h:i<l.length),
 ∃row:Array Value,row.size=s/\IC w b (off+i*s) row/\Rd w l[i] row.toList:=by
 intro l;induction l with
 | nil=>intro b off _ _ i h;simp at h
 | cons d r ih =>
   intro b off h hs i hi;simp only[I8]at h;obtain⟨row,h1,h2,h3⟩:=h;have hz:row.size=s:=by
    have:=Rd.len d _ h2;rw[hs d (by simp)]at this;simpa using this
   match i,hi with
   | 0,_=>exact⟨row,hz,by simpa using h1,by simpa using h2⟩
   | i+1,hi =>
     obtain⟨wC,k1,k2,k3⟩:=ih b (off+row.size) h3 (fun d hd=>hs d (by simp[hd])) i (by simpa using hi);refine⟨wC,k1,?_,by simpa using k3⟩;rw[hz]at k2;rw[show off+(i+1)*s=off+s+i*s by rw[F1];omega];exact k2
theorem Rd.slice {w:World}{s:Nat}{l:List D}{v:Value}(h:Rd w (.sl l) [v])(hs : ∀d∈l,d.wd=s) :
 ∃A c,v=.slice A l.length c/\l.length<=c/\c<=maxLen/\∀i (h:i<l.length),∃b off row,A=some ⟨b,off,none⟩/\row.size=s/\IC w b (off+i*s) row/\Rd w l[i] row.toList:=by
 simp only[Rd]at h;obtain⟨A,c,e,h1,h2,h3⟩:=h;simp only[List.cons.injEq,and_true]at e;subst e;refine⟨A,c,rfl,h1,h2,fun i hi=>?_⟩;obtain⟨b,off,hA,hr⟩:=h3 (fun e=>by subst e;simp at hi);obtain⟨row,k1,k2,k3⟩:=I8.at_ l b off hr hs i hi;exact⟨b,off,row,hA,k1,k2,k3⟩
theorem I8.vF {w:World}{s:Nat} : ∀(l:List D) (b off:Nat),(∀i (h:i<l.length),∃row:Array Value,row.size=s/\IC w b (off+i*s) row/\Rd w l[i] row.toList)->I8 w l b off:=by
 intro l;induction l with
 | nil=>intro b off _;simp only[I8]
 | cons d r ih =>
   intro b off h;simp only[I8];obtain⟨row,k1,k2,k3⟩:=h 0 (by simp);refine⟨row,by simpa using k2,by simpa using k3,ih b _ fun i hi=>?_⟩;obtain⟨wC,m1,m2,m3⟩:=h (i+1) (by simpa using hi);refine⟨wC,m1,?_,by simpa using m3⟩;rw[k1];rw[show off+(i+1)*s=off+s+i*s by rw[F1];omega]at m2;exact m2
theorem IC.lt {w:World}{b off:Nat}{cs:Array Value}(h:IC w b off cs)(hs:0<cs.size):b<w.heap.size:=by
 have:=h 0 hs;rw[Zu hs]at this;exact block_lt_of_cell this
theorem IC.at_ {w:World}{b off:Nat}{cs:Array Value}(h:IC w b off cs){j:Nat}{v:Value}(hj:cs[j]?=some v):w.cell? ⟨b,off+j,none⟩=some v:=by
 rw[h j (Dy.1 hj).1,hj]
theorem IC.sub {w:World}{b off:Nat}{cs:Array Value}(h:IC w b off cs)(i n:Nat)(hn:i+n<=cs.size):IC w b (off+i) (cs.extract i (i+n)):=fun j hj=>by
 have hj':i+j<cs.size:=by simp at hj;omega
 rw[Nat.add_assoc,h (i+j) hj'];rw[Array.getElem?_extract,if_pos (by simp at hj;omega)]
structure Ag where
 name:ByteArray
 w:Int
 h:Int
 d:Int
 DY:Int
 attach:Int
structure Part where
 name:ByteArray
 ext:Bool
structure A6 where
 name:ByteArray
 Bb:List ByteArray
 parts:List Part
 CX:Int
structure Params where
 BZ:Int
 FV:Int
 EB:Int
 rule:Int
 Ro:Int
 QW:Int
 RD:Int
 Px:Int
 VQ:Int
 VR:Int
 VS:Int
 OA:Int
 OC:Int
 OE:Int
 OD:Int
 Jo:Int
 Jp:Int
 Nf:Int
 OZ:Int
 OO:Int
structure AI where
 CO:List Ag
 CD:List A6
 params:Params
def Aw (n:Int):Bool:=decide (-1073741824<=n) && decide (n<=1073741824)
def FI (a b:Int):Int:=if 0<=a then(2*a+b) / (2*b)else -((2*(-a)+b) / (2*b))
def quot (a b:Int):Int:=
 if 0<=a.tmod b/\b - a.tmod b<=a.tmod b then a.tdiv b+1 else if a.tmod b<0/\b+a.tmod b<= -a.tmod b then a.tdiv b - 1 else a.tdiv b
theorem AR8 (a:Int):quot a 100=FI a 100:=by
 unfold quot FI;have h1:=gb a 100;rcases Z2 a 0 with h|h
 . have h2:a.tmod 100<=0:=by have:=Pb (a:= -a) 100 (by omega);rw[gg]at this;omega
   have h3 : -100<a.tmod 100:=by have:=Z3 a (b:=100) (by omega);omega
   generalize a.tmod 100=r at *
   generalize a.tdiv 100=q at *
   repeat' split
   all_goals omega
 . have h2:0<=a.tmod 100:=Pb 100 h;have h3:a.tmod 100<100:=Va a (by omega);generalize a.tmod 100=r at *
   generalize a.tdiv 100=q at *
   repeat' split
   all_goals omega
theorem ASA (a:Int):quot a 2=FI a 2:=by
 unfold quot FI;have h1:=gb a 2;rcases Z2 a 0 with h|h
 . have h2:a.tmod 2<=0:=by have:=Pb (a:= -a) 2 (by omega);rw[gg]at this;omega
   have h3 : -2<a.tmod 2:=by have:=Z3 a (b:=2) (by omega);omega
   generalize a.tmod 2=r at *
   generalize a.tdiv 2=q at *
   repeat' split
   all_goals omega
 . have h2:0<=a.tmod 2:=Pb 2 h;have h3:a.tmod 2<2:=Va a (by omega);generalize a.tmod 2=r at *
   generalize a.tdiv 2=q at *
   repeat' split
   all_goals omega
def scale (n p:Int):Int:=if Aw n=true/\0<=p/\p<=10000 then FI (n*p) 100 else 0
def half (n:Int):Int:=if Aw n=true then FI n 2 else 0
def DH (c:UInt8):Bool:=decide (32<=c.toNat) && decide (c.toNat<=126)
def F2 (s:ByteArray):Bool:=s.data.toList.all DH && (decide (1<=s.size) && decide (s.size<=16))
def Bn (lo hi:Int)(l:List Int):Bool:=l.all fun n=>decide (lo<=n) && decide (n<=hi)
def G9 (name:ByteArray):List Ag->Option Ag
 | []=>none
 | g::r=>if g.name=name then some g else G9 name r
def AI.find (f:AI)(name:ByteArray):Option Ag:=G9 name f.CO
def Ag.zero:Ag:=⟨⟨#[]⟩,0,0,0,0,0⟩
def Ag.Ch (g:Ag):Int:=g.h+g.d
def AI.pick (f:AI)(name:ByteArray):Ag:=
 match f.find name with
 | some g=>g
 | none=>match f.find ⟨#[63]⟩with
   | some g=>g
   | none=>{ Ag.zero with name:=name }
def VN (name:ByteArray):List A6->Option A6
 | []=>none
 | s::r=>if s.name=name then some s else VN name r
def AI.H2 (f:AI)(name:ByteArray):Option A6:=VN name f.CD
def Ag.Gz (g:Ag):List Int:=[g.w,g.h,g.d,g.DY,g.attach]
def Ag.scaled (g:Ag)(p:Int):Ag:=⟨g.name,scale g.w p,scale g.h p,scale g.d p,scale g.DY p,scale g.attach p⟩
def Ge (g:Ag)(p:Int):Ag×Int:=
 if Bn 1 1000 [p]=false then(Ag.zero,2)else if Bn (-20000) 20000 g.Gz=false then(Ag.zero,1)else(g.scaled p,0)
def Params.PG (p:Params):List Int:=[p.Jo,p.Jp,p.Nf]
def Params.lens (p:Params):List Int:=[p.BZ,p.FV,p.EB,p.rule,p.Ro,p.QW,p.RD,p.Px,p.VQ,p.VR,p.VS,p.OA,p.OC,p.OE,p.OD,p.OZ,p.OO]
def JU (p:Params):Bool:=Bn 1 100 p.PG && Bn 0 20000 p.lens
def Jr (ht:ByteArray->Option Int):Int->List ByteArray->Bool
 | _,[]=>true
 | last,n::r=>match ht n with
   | none=>false
   | some h=>decide (last<h) && Jr ht h r
def Gb (ht:ByteArray->Option Int):Int->Bool->List Part->Option (Int×Bool)
 | l,e,[]=>some (l,e)
 | l,e,p::r=>match ht p.name with
   | none=>none
   | some h=>Gb ht (if h<l then h else l) (e || p.ext) r
def QZ (ht:ByteArray->Option Int)(s:A6):Bool:=
 match Gb ht 60000 false s.parts with
 | none=>false
 | some (l,e)=>e && Bn 0 (l - 1) [s.CX]
def Hd (ht:ByteArray->Option Int)(s:A6):Bool:=
 (F2 s.name && (Bn 1 16 [(s.Bb.length:Int)] && decide (s.parts.length<=8))) && (Jr ht (-60000) s.Bb && (if s.parts=[]then decide (s.CX=0)else QZ ht s))
def GK (g:Ag):Bool:=F2 g.name && (Bn 0 20000 [g.w] && Bn (-20000) 20000 [g.h,g.d,g.DY,g.attach])
def hasName (name:ByteArray):List Ag->Bool
 | []=>false
 | g::r=>decide (g.name=name) || hasName name r
def HH:List Ag->List Ag->Bool
 | _,[]=>true
 | seen,g::r=>(GK g && !hasName g.name seen) && HH (seen++[g]) r
def Oj (name:ByteArray):List A6->Bool
 | []=>false
 | s::r=>decide (s.name=name) || Oj name r
def Mf (ht:ByteArray->Option Int):List A6->List A6->Bool
 | _,[]=>true
 | seen,s::r=>(Hd ht s && !Oj s.name seen) && Mf ht (seen++[s]) r
def AI.ht (f:AI)(name:ByteArray):Option Int:=(f.find name).map Ag.Ch
def AI.valid (f:AI):Bool:=
 (decide (f.CO.length<=400) && (decide (f.CD.length<=40) && JU f.params)) && (HH [] f.CO && Mf f.ht [] f.CD)
def mx (a b:Int):Int:=if a<b then b else a
def mn (a b:Int):Int:=if b<a then b else a
theorem D6 (a b:Int):mx a b=max a b:=by unfold mx;omega
theorem AFf (a:Int)(m:Int)(h1 : -(100*m)<=a)(h2:a<=100*m): -m<=FI a 100/\FI a 100<=m:=by
 unfold FI;split<;>omega
theorem PA (n p A B:Int)(h1 : -A<=n)(h2:n<=A)(h3:0<=p)(h4:p<=B): -(A*B)<=n*p/\n*p<=A*B:=by
 have hA:0<=A:=by omega
 have hB:0<=B:=by omega
 have e:=Int.mul_le_mul (show p<=B by omega) (Int.le_refl A) hA hB;rcases Z2 n 0 with hn|hn
 . have h5:=X8 h4 (show 0<= -n by omega);have h6:=AH2 (show -n<=A by omega) hB;have h7:=Qx (show 0<= -n by omega) h3;rw[Int.neg_mul]at h5 h7;have h8:=Qx hA hB;omega
 . have h5:=X8 h4 hn;have h6:=AH2 h2 hB;have h7:=Qx hn h3;have h8:=Qx hA hB;omega
theorem fp (n p:Int)(h1 : -20000<=n)(h2:n<=20000)(h3:1<=p)(h4:p<=1000): -200000<=scale n p/\scale n p<=200000:=by
 unfold scale;have:=PA n p 20000 1000 h1 h2 (by omega) h4;split
 . exact AFf _ _ (by omega) (by omega)
 . omega
theorem ATZ (g:Ag)(p:Int)(h:(Ge g p).2=0):Bn 1 1000 [p]=true/\Bn (-20000) 20000 g.Gz=true/\Ge g p=(g.scaled p,0):=by
 unfold Ge at h ⊢;cases h1:Bn 1 1000 [p]
 . rw[h1]at h;simp at h
 . cases h2:Bn (-20000) 20000 g.Gz
   . rw[h1,h2]at h;simp at h
   . simp
theorem AGB (g:Ag)(p:Int)(h1:Bn 1 1000 [p]=true)(h2:Bn (-20000) 20000 g.Gz=true) :
 (-200000<=(g.scaled p).w/\(g.scaled p).w<=200000)/\(-200000<=(g.scaled p).h/\(g.scaled p).h<=200000)/\(-200000<=(g.scaled p).d/\(g.scaled p).d<=200000)/\(-200000<=(g.scaled p).DY/\(g.scaled p).DY<=200000):=by
 simp[Bn,Ag.Gz]at h1 h2;simp only[Ag.scaled];exact⟨fp _ _ (by omega) (by omega) (by omega) (by omega),fp _ _ (by omega) (by omega) (by omega) (by omega),fp _ _ (by omega) (by omega) (by omega) (by omega),fp _ _ (by omega) (by omega) (by omega) (by omega)⟩
theorem mixed:AD.follows .mixedOrders=true:=by kernel_rfl
def Ag.ds (g:Ag):D:=.ag [.str g.name,.int .i64 g.w,.int .i64 g.h,.int .i64 g.d,.int .i64 g.DY,.int .i64 g.attach]
def Part.ds (p:Part):D:=.ag [.str p.name,.bool p.ext]
def A6.ds (s:A6):D:=.ag [.str s.name,.sl (s.Bb.map D.str),.sl (s.parts.map Part.ds),.int .i64 s.CX]
def Params.ints (p:Params):List Int:=[p.BZ,p.FV,p.EB,p.rule,p.Ro,p.QW,p.RD,p.Px,p.VQ,p.VR,p.VS,p.OA,p.OC,p.OE,p.OD,p.Jo,p.Jp,p.Nf,p.OZ,p.OO]
def Params.ds (p:Params):D:=.ag (p.ints.map (D.int .i64))
def AI.ds (f:AI):D:=.ag [.sl (f.CO.map Ag.ds),.sl (f.CD.map A6.ds),f.params.ds]
def Ag.cells (g:Ag):Array Value:=#[.string g.name,.int .i64 g.w,.int .i64 g.h,.int .i64 g.d,.int .i64 g.DY,.int .i64 g.attach]
def Part.cells (p:Part):Array Value:=#[.string p.name,.bool p.ext]
def Params.cells (p:Params):Array Value:=(p.ints.map (YV .i64)).toArray
theorem AUs {a b:ByteArray}:(a.toList==b.toList)=decide (a=b):=by
 rw[oC,oC];by_cases h:a=b
 . subst h;simp
 . have : ¬a.data=b.data:=fun e=>h (by cases a;cases b;simpa using e)
   simp[h,this]
theorem AGy {a b:ByteArray}(h : ¬a=b):(a.toList==b.toList)=false:=by rw[AUs];simp[h]
def Lw (n:Int):Prop:= -9223372036854775808<=n/\n<=9223372036854775807
theorem TK {n:Int}:(Mj .i64 n).wf=true↔Lw n:=by
 unfold Lw;constructor
 . intro h;exact bounds_i64 h
 . intro h;have h1:Ad.min= -9223372036854775808:=by decide +kernel
   have h2:Ad.max=9223372036854775807:=by decide +kernel
   simp[Lit.wf,h1,h2,h]
def Ag.Ok (g:Ag):Prop:=g.name.size<=maxLen/\Lw g.w/\Lw g.h/\Lw g.d/\Lw g.DY/\Lw g.attach
theorem ASL {w:World}{n:Int}{cs:List Value}:Rd w (.int .i64 n) cs↔cs=[.int .i64 n]/\Lw n:=by simp only[Rd,TK]
theorem vo {w:World}{s:ByteArray}{cs:List Value}:Rd w (.str s) cs↔cs=[.string s]/\s.size<=maxLen:=by simp only[Rd]
theorem ASK {w:World}{b:Bool}{cs:List Value}:Rd w (.bool b) cs↔cs=[.bool b]:=by simp only[Rd]
theorem m9 {w:World}{l:List D}{cs:List Value}:Rd w (.ag l) cs↔D4 w l cs:=by simp only[Rd]
theorem nA {w:World}{cs:List Value}:D4 w [] cs↔cs=[]:=by simp only[D4]
theorem vp {w:World}{n:Int}{r:List D}{cs:List Value}:D4 w (.int .i64 n::r) cs↔∃c2,cs=.int .i64 n::c2/\Lw n/\D4 w r c2:=by
 simp only[D4,ASL];constructor
 . rintro ⟨c1,c2,rfl,⟨rfl,h⟩,h2⟩;exact⟨c2,rfl,h,h2⟩
 . rintro ⟨c2,rfl,h,h2⟩;exact⟨_,c2,rfl,⟨rfl,h⟩,h2⟩
theorem vt {w:World}{s:ByteArray}{r:List D}{cs:List Value}:D4 w (.str s::r) cs↔∃c2,cs=.string s::c2/\s.size<=maxLen/\D4 w r c2:=by
 simp only[D4,vo];constructor
 . rintro ⟨c1,c2,rfl,⟨rfl,h⟩,h2⟩;exact⟨c2,rfl,h,h2⟩
 . rintro ⟨c2,rfl,h,h2⟩;exact⟨_,c2,rfl,⟨rfl,h⟩,h2⟩
theorem ASO {w:World}{b:Bool}{r:List D}{cs:List Value}:D4 w (.bool b::r) cs↔∃c2,cs=.bool b::c2/\D4 w r c2:=by
 simp only[D4,ASK];constructor
 . rintro ⟨c1,c2,rfl,rfl,h2⟩;exact⟨c2,rfl,h2⟩
 . rintro ⟨c2,rfl,h2⟩;exact⟨_,c2,rfl,rfl,h2⟩
theorem AFW {w:World}{l:List D}{r:List D}{cs:List Value}:D4 w (.sl l::r) cs↔∃v c2,cs=v::c2/\Rd w (.sl l) [v]/\D4 w r c2:=by
 simp only[D4];constructor
 . rintro ⟨c1,c2,rfl,h,h2⟩;have hl:=Rd.len _ _ h;match c1,hl with
   | [v],_=>exact⟨v,c2,rfl,h,h2⟩
 . rintro ⟨v,c2,rfl,h,h2⟩;exact⟨[v],c2,rfl,h,h2⟩
theorem AFV {w:World}{l:List D}{cs:List Value}:D4 w [.ag l] cs↔D4 w l cs:=by
 simp only[D4,Rd];constructor
 . rintro ⟨c1,c2,rfl,h,rfl⟩;simpa using h
 . intro h;exact⟨cs,[],by simp,h,rfl⟩
theorem AFR {w:World}{g:Ag}{cs:List Value}:Rd w g.ds cs↔cs=g.cells.toList/\g.Ok:=by
 simp only[Ag.ds,m9,vt,vp,nA,Ag.cells,Ag.Ok];constructor
 . rintro ⟨c1,rfl,h0,c2,rfl,h1,c3,rfl,h2,c4,rfl,h3,c5,rfl,h4,c6,rfl,h5,rfl⟩;exact⟨rfl,h0,h1,h2,h3,h4,h5⟩
 . rintro ⟨rfl,h0,h1,h2,h3,h4,h5⟩;exact⟨_,rfl,h0,_,rfl,h1,_,rfl,h2,_,rfl,h3,_,rfl,h4,_,rfl,h5,rfl⟩
theorem AFT {w:World}{p:Part}{cs:List Value}:Rd w p.ds cs↔cs=p.cells.toList/\p.name.size<=maxLen:=by
 simp only[Part.ds,m9,vt,ASO,nA,Part.cells];constructor
 . rintro ⟨c1,rfl,h0,c2,rfl,rfl⟩;exact⟨rfl,h0⟩
 . rintro ⟨rfl,h0⟩;exact⟨_,rfl,h0,_,rfl,rfl⟩
theorem AFU {w:World}{s:A6}{cs:List Value}:Rd w s.ds cs↔∃zv pv,cs=[.string s.name,zv,pv,.int .i64 s.CX]/\s.name.size<=maxLen/\Rd w (.sl (s.Bb.map D.str)) [zv]/\Rd w (.sl (s.parts.map Part.ds)) [pv]/\Lw s.CX:=by
 simp only[A6.ds,m9,vt,vp,nA,AFW];constructor
 . rintro ⟨c1,rfl,h0,zv,c2,rfl,h1,pv,c3,rfl,h2,c4,rfl,h3,rfl⟩;exact⟨zv,pv,rfl,h0,h1,h2,h3⟩
 . rintro ⟨zv,pv,rfl,h0,h1,h2,h3⟩;exact⟨_,rfl,h0,zv,_,rfl,h1,pv,_,rfl,h2,_,rfl,h3,rfl⟩
theorem vq {w:World} : ∀(l:List Int) (cs:List Value),D4 w (l.map (D.int .i64)) cs↔cs=l.map (YV .i64)/\∀n∈l,Lw n
 | [],cs=>by simp[nA]
 | n::r,cs=>by
   simp only[List.map_cons,vp,vq r];constructor
   . rintro ⟨c2,rfl,h,rfl,h2⟩;exact⟨rfl,by intro m hm;rcases Cb.1 hm with rfl|hm;exact h;exact h2 m hm⟩
   . rintro ⟨rfl,h⟩;exact⟨_,rfl,h n (by simp),rfl,fun m hm=>h m (by simp[hm])⟩
theorem AFQ {w:World}{f:AI}{cs:List Value}:Rd w f.ds cs↔∃gv sv,cs=gv::sv::f.params.cells.toList/\Rd w (.sl (f.CO.map Ag.ds)) [gv]/\Rd w (.sl (f.CD.map A6.ds)) [sv]/\∀n∈f.params.ints,Lw n:=by
 simp only[AI.ds,m9,AFW];constructor
 . rintro ⟨gv,c1,rfl,h0,sv,c2,rfl,h1,h2⟩;simp only[Params.ds,AFV,vq]at h2;exact⟨gv,sv,by rw[h2.1];rfl,h0,h1,h2.2⟩
 . rintro ⟨gv,sv,rfl,h0,h1,h2⟩;refine⟨gv,_,rfl,h0,sv,_,rfl,h1,?_⟩;simp only[Params.ds,AFV,vq];exact⟨rfl,h2⟩
theorem AVz (g:Ag):g.ds.wd=6:=rfl
theorem AV0 (p:Part):p.ds.wd=2:=rfl
theorem AV1 (s:A6):s.ds.wd=4:=rfl
theorem AT6 {w:World}{l:List Ag}{v:Value}(h:Rd w (.sl (l.map Ag.ds)) [v]) :
 ∃A c,v=.slice A l.length c/\l.length<=c/\c<=maxLen/\∀i (h:i<l.length),l[i].Ok/\∃b off,A=some ⟨b,off,none⟩/\b<w.heap.size/\IC w b (off+i*6) l[i].cells:=by
 obtain⟨A,c,e,h1,h2,h3⟩:=Rd.slice (s:=6) h (by intro d hd;obtain⟨g,_,rfl⟩:=DC.1 hd;exact AVz g);simp only[Cg]at e h1 h3;refine⟨A,c,e,h1,h2,fun i hi=>?_⟩;obtain⟨b,off,row,hA,hs,hr,hd⟩:=h3 i hi;simp only[Vb,AFR]at hd;obtain⟨hd,Au⟩:=hd;have e':row=l[i].cells:=by apply Gk.1;exact hd
 subst e';exact⟨Au,b,off,hA,hr.lt (by rw[hs];decide),hr⟩
theorem AT8 {w:World}{l:List Part}{v:Value}(h:Rd w (.sl (l.map Part.ds)) [v]) :
 ∃A c,v=.slice A l.length c/\l.length<=c/\c<=maxLen/\∀i (h:i<l.length),l[i].name.size<=maxLen/\∃b off,A=some ⟨b,off,none⟩/\b<w.heap.size/\IC w b (off+i*2) l[i].cells:=by
 obtain⟨A,c,e,h1,h2,h3⟩:=Rd.slice (s:=2) h (by intro d hd;obtain⟨g,_,rfl⟩:=DC.1 hd;exact AV0 g);simp only[Cg]at e h1 h3;refine⟨A,c,e,h1,h2,fun i hi=>?_⟩;obtain⟨b,off,row,hA,hs,hr,hd⟩:=h3 i hi;simp only[Vb,AFT]at hd;obtain⟨hd,Au⟩:=hd;have e':row=l[i].cells:=by apply Gk.1;exact hd
 subst e';exact⟨Au,b,off,hA,hr.lt (by rw[hs];decide),hr⟩
theorem AUA {w:World}{l:List ByteArray}{v:Value}(h:Rd w (.sl (l.map D.str)) [v]) :
 ∃A c,v=.slice A l.length c/\l.length<=c/\c<=maxLen/\∀i (h:i<l.length),l[i].size<=maxLen/\∃b off,A=some ⟨b,off,none⟩/\b<w.heap.size/\w.cell? ⟨b,off+i,none⟩=some (.string l[i]):=by
 obtain⟨A,c,e,h1,h2,h3⟩:=Rd.slice (s:=1) h (by intro d hd;obtain⟨g,_,rfl⟩:=DC.1 hd;rfl);simp only[Cg]at e h1 h3;refine⟨A,c,e,h1,h2,fun i hi=>?_⟩;obtain⟨b,off,row,hA,hs,hr,hd⟩:=h3 i hi;simp only[Vb,vo]at hd;obtain⟨hd,Au⟩:=hd;have e':row=#[.string l[i]]:=by apply Gk.1;exact hd
 subst e';refine⟨Au,b,off,hA,hr.lt (by simp),?_⟩;have:=hr.at_ (j:=0) (v:=.string l[i]) rfl;simpa using this
theorem AT9 {w:World}{l:List A6}{v:Value}(h:Rd w (.sl (l.map A6.ds)) [v]) :
 ∃A c,v=.slice A l.length c/\l.length<=c/\c<=maxLen/\∀i (h:i<l.length),∃b off row,A=some ⟨b,off,none⟩/\b<w.heap.size/\row.size=4/\IC w b (off+i*4) row/\Rd w l[i].ds row.toList:=by
 obtain⟨A,c,e,h1,h2,h3⟩:=Rd.slice (s:=4) h (by intro d hd;obtain⟨g,_,rfl⟩:=DC.1 hd;exact AV1 g);simp only[Cg]at e h1 h3;refine⟨A,c,e,h1,h2,fun i hi=>?_⟩;obtain⟨b,off,row,hA,hs,hr,hd⟩:=h3 i hi;simp only[Vb]at hd;exact⟨b,off,row,hA,hr.lt (by rw[hs];decide),hs,hr,hd⟩
theorem AES {w:World}{d:D}{cs:Array Value}(h:Rd w d cs.toList):SU cs:=Rd.Rq d _ h
theorem AGO {w:World}{d:D}{cs:Array Value}(h:Rd w d cs.toList):cs.size=d.wd:=by have:=Rd.len d _ h;simpa using this
theorem AKq (a b:Value)(l:List Value)(n:Nat)(hn:l.length=n):(a::b::l).toArray.extract 2 (n+2)=l.toArray:=by
 subst hn;simp
theorem AVy (f:AI):f.ds.wd=22:=by simp[AI.ds,Params.ds,Params.ints,D.wd,D.Zr]
theorem AK5 {w:World}{f:AI}{cs:Array Value}(h:Rd w f.ds cs.toList):∃gv sv,cs.size=22/\cs[0]?=some gv/\cs[1]?=some sv/\cs.extract 2 22=f.params.cells/\
 Rd w (.sl (f.CO.map Ag.ds)) [gv]/\Rd w (.sl (f.CD.map A6.ds)) [sv]/\∀n∈f.params.ints,Lw n:=by
 have hz:cs.size=22:=by rw[AGO h,AVy]
 obtain⟨gv,sv,e,h1,h2,h3⟩:=AFQ.1 h;have e':cs=(gv::sv::f.params.cells.toList).toArray:=by apply Gk.1;simpa using e
 refine⟨gv,sv,hz,by rw[e'];rfl,by rw[e'];rfl,?_,h1,h2,h3⟩;rw[e',AKq gv sv f.params.cells.toList 20 rfl]
theorem wi {w:World}{s:A6}{cs:Array Value}(h:Rd w s.ds cs.toList):∃zv pv,cs.size=4/\cs[0]?=some (.string s.name)/\cs[1]?=some zv/\cs[2]?=some pv/\cs[3]?=some (.int .i64 s.CX)/\s.name.size<=maxLen/\
 Rd w (.sl (s.Bb.map D.str)) [zv]/\Rd w (.sl (s.parts.map Part.ds)) [pv]/\Lw s.CX:=by
 obtain⟨zv,pv,e,h0,h1,h2,h3⟩:=AFU.1 h;have e':cs=#[.string s.name,zv,pv,.int .i64 s.CX]:=by apply Gk.1;simpa using e
 refine⟨zv,pv,AGO h,?_,?_,?_,?_,h0,h1,h2,h3⟩<;>rw[e']<;>rfl
def FN (o:Oper):List Nat:=(o.after.toList.filter (Region.binds .any)).map (·.on)
def looks (ops:Array Oper)(o:Oper):List Tmp:=o.looksAt ops
abbrev Post:=Value->World->Prop
def C0 (a0:Act):List (Option Tmp×Post)->Tmp->Value->World->Prop
 | [],t,v,_=>v=a0.tmps.getD t undef
 | (d,p)::r,t,v,W=>if d=some t then p v W else C0 a0 r t v W
class Grow (K:World->World->Prop):Prop where
 GA : ∀ {W W':World},AS W W'->K W W'
 trans : ∀ {A B C:World},K A B->K B C->K A C
instance:Grow AS:=⟨id,AS.trans⟩
theorem Grow.refl {K:World->World->Prop}[Grow K](W:World):K W W:=Grow.GA (AS.refl W)
def qO (P:Program)(ops:Array Oper)(Q:Exit->Act->World->Prop)(K:World->World->Prop)(a0:Act)(w0:World)(acc:List (Option Tmp×Post))(o:Oper)(p:Post):Prop:=
 ∀(a:Act) (W:World),K w0 W->(∀t∈looks ops o,C0 a0 acc t (a.tmps.getD t undef) W)->
  if DV o (yielded ops a.tmps)then o.wp P a W (fun a' W'=>∃v,a'=a.put o.dst v/\K W W'/\p v W') Q else p undef W
def Q8 (K:World->World->Prop)(p:Post):Prop:=∀v W W',K W W'->p v W->p v W'
abbrev y5 (p:Post):Prop:=Q8 AS p
def RG (P:Program)(ops:Array Oper)(Q:Exit->Act->World->Prop)(K:World->World->Prop)(a0:Act)(w0:World):List Oper->List (Option Tmp×Post)->(List (Option Tmp×Post)->Prop)->Prop
 | [],acc,fin=>fin acc
 | o::r,acc,fin=>∃p:Post,Q8 K p/\qO P ops Q K a0 w0 acc o p/\RG P ops Q K a0 w0 r ((o.dst,p)::acc) fin
def Gn (K:Act->World->Prop):List (Option Tmp×Post)->Act->World->Prop
 | [],a,W=>K a W
 | (d,p)::r,a,W=>∀v,p v W->Gn K r (a.put d v) W
def nB (l:List Oper)(m n i:Nat):Bool:=
 match l[i]? with
 | none=>false
 | some o=>(FN o).all (fun j=>decide (j<i)) && (E8 n).all fun k=>decide (k<m) ||
    match (l[k]?).bind (·.dst)with
    | none=>true
    | some t=>(k==i || o.dst !=some t) && (k==i || !(looks l.toArray o).contains t || (decide (k<i) && (FN o).contains k) || (decide (i<k) && ((l[k]?).map (fun q=>(FN q).contains i)).getD false))
def NF (l:List Oper)(m n:Nat):Bool:=
 decide (m<=n) && decide (n<=l.length) && (E8 n).all (fun i=>decide (i<m) || nB l m n i) && (E8 (l.length - n)).all fun k=>((l[n+k]?).map fun o=>(E8 n).all (fun i=>decide (i<m) || ((FN o).contains i || (FN o).any fun j=>decide (m<=j) && ((l[j]?).map fun q=>(FN q).contains i).getD false))).getD false
def fu (l:List Oper)(m n:Nat):Bool:=
 decide (n<=l.length) && (E8 n).all fun k=>decide (k<m) || ((l[k]?).map (fun o=>(FN o).all (fun j=>decide (j<k)))).getD false && (E8 l.length).all fun j=>decide (j<=k) || ((l[j]?).map (fun o=>(FN o).contains k)).getD false
def PV (P:Program)(l:List Oper)(Q:Exit->Act->World->Prop)(m:Nat)(a:Act)(W:World):Prop:=
 ∀(fuel:Nat) (listed:Array Bool),l.length - m<=fuel->listed.size=l.length->(∀i,i<m->listed.getD i false=true)->(∀i,m<=i->listed.getD i false=false)->wpAny P .any l.toArray Q fuel listed a W
def Yl:Option Tmp×Post:=(none,fun _ _=>True)
theorem AOt (a0:Act)(m:Nat)(acc:List (Option Tmp×Post))(t:Tmp)(v:Value)(W:World):C0 a0 (acc++As m Yl) t v W↔C0 a0 acc t v W:=by
 induction acc with
 | nil =>
   induction m with
   | zero=>rfl
   | succ m ih =>
     simp only[Bh,Ao]at ih ⊢;unfold Yl at ih ⊢;simp only[C0]at ih ⊢;simpa using ih
 | cons x r ih =>
   obtain⟨d,p⟩:=x;simp only[Bg,C0,ih]
section
variable {P:Program} {Q:Exit->Act->World->Prop} {K:World->World->Prop} {a0:Act} {w0:World} {l:List Oper} {m n:Nat}
theorem ZP {o:Oper}{j:Nat}:j∈FN o↔∃e∈o.after,Region.binds .any e=true/\e.on=j:=by
 simp[FN,and_assoc]
theorem RG.ARa {ops:Array Oper}{fin:List (Option Tmp×Post)->Prop} : ∀(r:List Oper) (acc:List (Option Tmp×Post)),RG P ops Q K a0 w0 r acc fin->
 ∃qs:List (Option Tmp×Post),qs.length=r.length/\(∀i o q,r[i]?=some o->qs[i]?=some q->q.1=o.dst/\Q8 K q.2/\qO P ops Q K a0 w0 ((qs.take i).reverse++acc) o q.2)/\fin (qs.reverse++acc):=by
 intro r;induction r with
 | nil=>intro acc h;simp only[RG]at h;exact⟨[],rfl,fun i o q h=>by simp at h,by simpa using h⟩
 | cons o r ih =>
   intro acc h;obtain⟨p,hs,hp,hr⟩:=h;obtain⟨qs,hl,hall,hf⟩:=ih _ hr;refine⟨(o.dst,p)::qs,by simp[hl],fun i o' q hi hq=>?_,by simpa using hf⟩;match i,hi,hq with
   | 0,hi,hq =>
     simp only[LK,BE]at hi hq;subst hi hq;exact⟨rfl,hs,by simpa using hp⟩
   | i+1,hi,hq =>
     simp only[List.getElem?_cons_succ]at hi hq;simpa using hall i o' q hi hq
theorem AOs (t:Tmp)(v:Value)(W:World)(qs:List (Option Tmp×Post)):∀i,i<=qs.length->
 (∀j q,j<i->qs[j]?=some q->q.1=some t->(∀k q',j<k->k<i->qs[k]?=some q'->q'.1≠some t)->q.2 v W)->
 ((∀j q,j<i->qs[j]?=some q->q.1≠some t)->v=a0.tmps.getD t undef)->C0 a0 ((qs.take i).reverse) t v W:=by
 intro i;induction i with
 | zero=>intro _ _ h;simpa [C0]using h (fun j q hj=>by omega)
 | succ i ih =>
   intro hi h1 h2;have S5:i<qs.length:=by omega
   have hq:qs[i]?=some qs[i]:=BP S5;rw[NR S5,AIT];simp only[List.reverse_cons,List.reverse_nil,Bh,List.singleton_append];generalize qs[i]=q at hq ⊢;obtain⟨d,p⟩:=q;simp only[C0];split
   . rename_i hd;exact h1 i (d,p) (by omega) hq hd (fun k q' hk hk'=>by omega)
   . rename_i hd;refine ih (by omega) (fun j q hj Oy hdj AM0=>h1 j q (by omega) Oy hdj fun k q' hk hk' MI=>?_) (fun hno=>h2 fun j q hj Oy=>?_)
     . by_cases hki:k=i
       . subst hki;rw[hq]at MI;cases MI;exact hd
       . exact AM0 k q' hk (by omega) MI
     . by_cases hji:j=i
       . subst hji;rw[hq]at Oy;cases Oy;exact hd
       . exact hno j q (by omega) Oy
structure yy (K:World->World->Prop)(l:List Oper)(m n:Nat)(a0:Act)(w0:World)(qs:List (Option Tmp×Post))(listed:Array Bool)(a:Act)(W:World):Prop where
 size:listed.size=l.length
 keep:K w0 W
 closed : ∀(i:Nat) (o:Oper),l[i]?=some o->m<=i->listed.getD i false=true->∀j∈FN o,listed.getD j false=true
 pre : ∀i,i<m->listed.getD i false=true
 tail : ∀i,n<=i->listed.getD i false=false
 defers:a.defers=a0.defers
 gI:a.tmps.size=a0.tmps.size
 old : ∀t,(∀(i:Nat) (o:Oper),l[i]?=some o->m<=i->i<n->listed.getD i false=true->o.dst≠some t)->a.tmps.getD t undef=a0.tmps.getD t undef
 post : ∀(i:Nat) (o:Oper) (q:Option Tmp×Post),l[i]?=some o->qs[i]?=some q->m<=i->i<n->listed.getD i false=true->
  ∃v,q.2 v W/\∀t,o.dst=some t->a.tmps.getD t undef=v
theorem WJ (a:Act)(d t:Tmp)(v:Value):(a.put (some d) v).tmps.getD t undef=if d=t then(if t<a.tmps.size then v else undef)else a.tmps.getD t undef:=by
 simp only[Act.put,NO,Array.getElem?_setIfInBounds];by_cases h:d=t
 . subst h;by_cases hl:d<a.tmps.size
   . simp[hl]
   . simp[hl]
 . simp[h]
theorem Rs (a:Act)(d:Option Tmp)(v:Value):(a.put d v).defers=a.defers:=by cases d<;>rfl
theorem vi (a:Act)(d:Option Tmp)(v:Value):(a.put d v).tmps.size=a.tmps.size:=by cases d<;>simp[Act.put]
theorem AFa (hc:NF l m n=true)(i:Nat)(hm:m<=i)(hi:i<n):nB l m n i=true:=by
 unfold NF at hc;simp only[An,Ee,Lo,Qu,decide_eq_true_eq]at hc;exact(hc.1.2 i hi).resolve_left (by omega)
theorem nD (hc:NF l m n=true):n<=l.length:=by
 unfold NF at hc;simp only[An,decide_eq_true_eq]at hc;exact hc.1.1.2
theorem AFc (hc:NF l m n=true):m<=n:=by
 unfold NF at hc;simp only[An,decide_eq_true_eq]at hc;exact hc.1.1.1
theorem ASh (hc:NF l m n=true)(k:Nat)(hk:n<=k)(o:Oper)(ho:l[k]?=some o)(i:Nat)(hm:m<=i)(hi:i<n):i∈FN o\/∃j∈FN o,m<=j/\∃q,l[j]?=some q/\i∈FN q:=by
 unfold NF at hc;simp only[An,Ee,Lo]at hc;have hl:k<l.length:=(Bv.1 ho).1;have:=hc.2 (k - n) (by omega);rw[show n+(k - n)=k by omega,ho]at this;simp only[H8,EM,Ee,Lo,Qu,decide_eq_true_eq]at this;rcases (this i hi).resolve_left (by omega)with h|h
 . exact .inl (by simpa using h)
 . right;obtain⟨j,hj,h⟩:=List.any_eq_true.1 h;simp only[An,decide_eq_true_eq]at h;cases hq:l[j]? with
   | none=>rw[hq]at h;simp at h
   | some q=>rw[hq]at h;exact⟨j,hj,h.1,q,hq,by simpa using h.2⟩
theorem ASg (hc:NF l m n=true)(i:Nat)(hm:m<=i)(hi:i<n)(o:Oper)(ho:l[i]?=some o)(j:Nat)(hj:j∈FN o):j<i:=by
 have:=AFa hc i hm hi;unfold nB at this;rw[ho]at this;simp only[An,Ee,decide_eq_true_eq]at this;exact this.1 j hj
theorem nF (hc:NF l m n=true)(i k:Nat)(Hr:m<=i)(hi:i<n)(BX:m<=k)(hk:k<n)(hne:k≠i)(o o':Oper)(ho:l[i]?=some o)(ho':l[k]?=some o')(t:Tmp)(hd:o'.dst=some t) :
 o.dst≠some t/\(t∈looks l.toArray o->(k<i/\k∈FN o)\/(i<k/\i∈FN o')):=by
 have:=AFa hc i Hr hi;unfold nB at this;rw[ho]at this;simp only[An,Ee,Lo]at this;have:=this.2 k hk;rw[ho']at this;simp only[Option.bind_some,hd,An,Qu,beq_iff_eq,decide_eq_true_eq,List.contains_iff_mem,H8,EM]at this;have:=this.resolve_left (by omega);refine⟨fun e=>?_,fun ht=>?_⟩
 . have h:=this.1.resolve_left hne;simp[e]at h
 . rcases this.2 with ((h|h)|h)|h
   . exact absurd h hne
   . simp[ht]at h
   . exact .inl h
   . exact .inr h
theorem P1 (listed:Array Bool)(i j:Nat)(hi:i<listed.size):(listed.setIfInBounds i true).getD j false=if i=j then true else listed.getD j false:=by
 by_cases h:i=j
 . subst h;simp[hi]
 . simp[h,Array.getElem?_setIfInBounds_ne h]
theorem UU (listed:Array Bool)(j:Nat)(hj:j<listed.size):listed.getD j true=listed.getD j false:=by
 simp[Zu hj]
theorem ATh (hc:fu l m n=true):n<=l.length/\∀k,m<=k->k<n->∀o,l[k]?=some o->(∀j∈FN o,j<k)/\∀j o',k<j->l[j]?=some o'->k∈FN o':=by
 unfold fu at hc;simp only[An,Ee,Lo,Qu,decide_eq_true_eq]at hc;refine⟨hc.1,fun k hm hk o ho=>?_⟩;have h:=(hc.2 k hk).resolve_left (by omega);rw[ho]at h;simp only[H8,EM,Ee,decide_eq_true_eq]at h;refine⟨h.1,fun j o' hj ho'=>?_⟩;have h2:=(h.2 j (Bv.1 ho').1).resolve_left (by omega);rw[ho']at h2;simpa using h2
theorem AV5 (h:Q .normal a0 w0):PV P l Q l.length a0 w0:=by
 intro fuel listed _ hsz h1 h2;have RX:iH .any l.toArray listed=[]:=by
  rw[List.eq_nil_iff_forall_not_mem];intro j hj;rw[mem_ready]at hj;obtain⟨h0,o,ho,_⟩:=hj;have hlt:j<l.length:=(Bv.1 (show l[j]?=some o by simpa using ho)).1;rw[UU _ _ (by omega),h1 j hlt]at h0;cases h0
 cases fuel with
 | zero=>exact⟨RX,h⟩
 | succ fuel=>exact⟨fun _=>h,fun j hj=>by rw[RX]at hj;cases hj⟩
theorem n4 {ops:Array Oper} : ∀ {r:List Oper} {a:Act} {W:World},wpList P ops Q r a W->wpList P ops (Exit.then (PV P l Q l.length) Q) r a W
 | [],a,W,h=>AV5 h
 | o::r,a,W,h=>by
   simp only[wpList]at h ⊢;split
   . rename_i hw;rw[if_pos hw]at h;refine h.imp (fun h=>?_) (fun h=>⟨h.1,h.2⟩);have h':=og (fun a w=>n4 (r:=r)) h;unfold EL at h' ⊢;generalize (execOp a.eval o).run P W=x at h' ⊢;cases x with
     | ok x w'=>cases x<;>exact h'
     | halt x w'=>cases x<;>exact h'
   . rename_i hw;rw[if_neg hw]at h;exact n4 h
theorem AHl (hc:fu l m n=true)(hmn:m<=n):∀(d k:Nat) (a:Act) (W:World),k+d=n->m<=k->wpList P l.toArray (Exit.then (PV P l Q n) Q) ((l.drop k).take d) a W->PV P l Q k a W:=by
 obtain⟨hn,hs⟩:=ATh hc;intro d;induction d with
 | zero =>
   intro k a W hk hm h;obtain rfl:k=n:=by omega
   simpa [wpList,Exit.then]using h
 | succ d ih =>
   intro k a W hk hm h fuel listed hf hsz h1 h2;have hlt:k<l.length:=by omega
   obtain⟨s1,s2⟩:=hs k hm (by omega) l[k] (BP hlt);have rdy : ∀j,j∈iH .any l.toArray listed↔j=k:=by
    intro j;rw[mem_ready];constructor
    . rintro ⟨h0,o,ho,hall⟩;have ho':l[j]?=some o:=by simpa using ho
      have EJ:j<l.length:=(Bv.1 ho').1;rw[UU _ _ (by omega)]at h0;rcases aC j k with CA|rfl|tQ
      . rw[h1 j CA]at h0;cases h0
      . rfl
      . have he:=s2 j o tQ ho';rw[ZP]at he;obtain⟨e,RT,Y1,tK⟩:=he;have:=hall e RT Y1;rw[tK,h2 k (BW _)]at this;cases this
    . rintro rfl;refine⟨by rw[UU _ _ (by omega)];exact h2 j (BW _),l[j],by simp[hlt],fun e he hb=>?_⟩;exact h1 _ (s1 e.on (ZP.2 ⟨e,he,hb,rfl⟩))
   match fuel,hf with
   | 0,hf=>omega
   | fuel+1,hf =>
     refine⟨fun RX=>?_,fun j hj=>?_⟩
     . have:=(rdy k).2 rfl;rw[RX]at this;cases this
     . obtain rfl:=(rdy j).1 hj;have next : ∀a' W',wpList P l.toArray (Exit.then (PV P l Q n) Q) ((l.drop (j+1)).take d) a' W'->wpAny P .any l.toArray Q fuel (listed.setIfInBounds j true) a' W':=fun a' W' h' =>
        ih (j+1) a' W' (by omega) (by omega) h' _ _ (by omega) (by simpa using hsz) (fun i hi=>by rw[P1 _ _ _ (by omega)];split;rfl;exact h1 i (by omega)) (fun i hi=>by rw[P1 _ _ _ (by omega),if_neg (by omega)];exact h2 i (by omega))
       have ho:l.toArray[j]?=some l[j]:=by simp[hlt]
       rw[List.drop_eq_getElem_cons hlt,List.take_succ_cons]at h;unfold wpOp;simp only[ho];simp only[wpList]at h;split
       . rename_i hw;rw[if_pos hw]at h;refine h.imp (fun h=>?_) (fun h=>⟨h.1,h.2⟩);have h':=og next h;unfold EL at h' ⊢;generalize (execOp a.eval l[j]).run P W=r at h' ⊢;cases r with
         | ok x w'=>cases x<;>exact h'
         | halt x w'=>cases x<;>exact h'
       . rename_i hw;rw[if_neg hw]at h;exact next _ _ h
theorem Gn.of {K:Act->World->Prop} : ∀(r:List (Option Tmp×Post)) (a:Act) (W:World),Gn K r a W->∀vs:List Value,vs.length=r.length->(∀(i:Nat) (q:Option Tmp×Post) (v:Value),r[i]?=some q->vs[i]?=some v->q.2 v W)->
 K ((r.zip vs).foldl (fun b x=>b.put x.1.1 x.2) a) W:=by
 intro r;induction r with
 | nil=>intro a W h vs _ _;simpa [Gn]using h
 | cons q r ih =>
   intro a W h vs hl hv;match vs,hl with
   | v::vs,hl =>
     obtain⟨d,p⟩:=q;simp only[Gn]at h;have:=ih _ W (h v (hv 0 (d,p) v rfl rfl)) vs (by simpa using hl) (fun i q' v' h1 h2=>hv (i+1) q' v' (by simpa using h1) (by simpa using h2));simpa using this
theorem AK4 (t:Tmp):∀(r:List (Option Tmp×Post)) (vs:List Value) (a:Act),vs.length=r.length->
 (∀(i k:Nat) (q q':Option Tmp×Post),i≠k->r[i]?=some q->r[k]?=some q'->q.1=some t->q'.1≠some t)->
 let b:=(r.zip vs).foldl (fun b x=>b.put x.1.1 x.2) a
 b.defers=a.defers/\b.tmps.size=a.tmps.size/\
 (∀(i:Nat) (q:Option Tmp×Post) (v:Value),r[i]?=some q->vs[i]?=some v->q.1=some t->b.tmps.getD t undef=if t<a.tmps.size then v else undef)/\
 ((∀(i:Nat) (q:Option Tmp×Post),r[i]?=some q->q.1≠some t)->b.tmps.getD t undef=a.tmps.getD t undef):=by
 intro r;induction r with
 | nil=>intro vs a _ _;exact⟨by simp,by simp,fun i q v h=>by simp at h,fun _=>by simp⟩
 | cons q r ih =>
   intro vs a hl hd;match vs,hl with
   | v::vs,hl =>
     obtain⟨k1,k2,k3,k4⟩:=ih vs (a.put q.1 v) (by simpa using hl) (fun i k q1 q2 hne h1 h2=>hd (i+1) (k+1) q1 q2 (by omega) (by simpa using h1) (by simpa using h2));simp only[List.zip_cons_cons,Bl];rw[Rs]at k1;rw[vi]at k2 k3;refine⟨k1,k2,fun i q' v' h1 h2 h3=>?_,fun hno=>?_⟩
     . match i,h1,h2 with
       | 0,h1,h2 =>
         simp only[LK,BE]at h1 h2;subst h1 h2;rw[k4 (fun i q'' h=>hd 0 (i+1) q q'' (by omega) rfl (by simpa using h) h3),h3,WJ,if_pos rfl]
       | i+1,h1,h2=>exact k3 i q' v' (by simpa using h1) (by simpa using h2) h3
     . rw[k4 (fun i q' h=>hno (i+1) q' (by simpa using h))];have:=hno 0 q rfl;cases hq:q.1 with
       | none=>rfl
       | some d =>
         rw[WJ,if_neg];intro e;exact this (by rw[hq,e])
theorem AIy {a b:Act}(h1:a.defers=b.defers)(h2:a.tmps.size=b.tmps.size)(h3 : ∀t,a.tmps.getD t undef=b.tmps.getD t undef):a=b:=by
 obtain⟨ta,da⟩:=a;obtain⟨tb,db⟩:=b;simp only at h1 h2 h3;subst h1;congr 1
 apply xU h2;intro i hi hj;have:=h3 i;simpa [Zu hi,Zu hj]using this
theorem AAZ {p p':Nat->Bool} : ∀(r:List Nat),(∀j∈r,p' j=true->p j=true)->∀i∈r,p i=true->p' i=false->r.countP p'<r.countP p:=by
 intro r;induction r with
 | nil=>intro _ i hi;cases hi
 | cons x r ih =>
   intro hm i hi hp Ud;have hle:r.countP p'<=r.countP p:=List.countP_mono_left (fun j hj=>hm j (by simp[hj]));rw[AH9,AH9];rcases Cb.1 hi with rfl|hi
   . simp[hp,Ud];omega
   . have:=ih (fun j hj=>hm j (by simp[hj])) i hi hp Ud;have hx:=hm x (by simp);by_cases h1:p' x=true
     . simp[h1,hx h1];omega
     . simp[h1];omega
theorem AJC [Grow K](hc:NF l m n=true)(hz : ∀(i:Nat) (o:Oper),l[i]?=some o->i<n->∀d,o.dst=some d->d<a0.tmps.size)(qs:List (Option Tmp×Post))(hq:qs.length=n)(lD : ∀(i:Nat) (q:Option Tmp×Post),i<m->qs[i]?=some q->q=Yl)(hall : ∀(i:Nat) (o:Oper) (q:Option Tmp×Post),m<=i->(l.take n)[i]?=some o->qs[i]?=some q->q.1=o.dst/\Q8 K q.2/\qO P l.toArray Q K a0 w0 ((qs.take i).reverse) o q.2)(Y2 : ∀W,K w0 W->Gn (PV P l Q n) qs a0 W) :
 ∀(fuel:Nat) (listed:Array Bool) (a:Act) (W:World),(E8 l.length).countP (fun i=> !listed.getD i false)<=fuel->yy K l m n a0 w0 qs listed a W->wpAny P .any l.toArray Q fuel listed a W:=by
 have hmn:=AFc hc;have hn:=nD hc;have full : ∀(fuel:Nat) (listed:Array Bool) (a:Act) (W:World),l.length - n<=fuel->yy K l m n a0 w0 qs listed a W->(∀i,i<n->listed.getD i false=true)->wpAny P .any l.toArray Q fuel listed a W:=by
  intro fuel listed a W hf I dX;suffices ANg:PV P l Q n a W from ANg fuel listed hf I.size dX I.tail
  have Nt : ∃vs:List Value,vs.length=qs.length/\(∀(i:Nat) (q:Option Tmp×Post) (v:Value),qs[i]?=some q->vs[i]?=some v->q.2 v W)/\∀(i:Nat) (q:Option Tmp×Post) (v:Value) (t:Tmp),qs[i]?=some q->vs[i]?=some v->q.1=some t->a.tmps.getD t undef=v/\t<a.tmps.size:=by
   have hex : ∀i:Fin n,∃v:Value,∀q,qs[i.1]?=some q->q.2 v W/\∀t,q.1=some t->a.tmps.getD t undef=v/\t<a.tmps.size:=by
    intro i;have M0:i.1<l.length:=by omega
    have S5:i.1<qs.length:=by omega
    by_cases Hr:i.1<m
    . refine⟨undef,fun q C7=>?_⟩;have:=lD i.1 q Hr C7;subst this;exact⟨trivial,fun t ht=>by cases ht⟩
    obtain⟨v,h1,h2⟩:=I.post i.1 l[i.1] qs[i.1] (BP M0) (BP S5) (by omega) i.2 (dX i.1 i.2);refine⟨v,fun q C7=>?_⟩;rw[BP S5,BE]at C7;subst C7;refine⟨h1,fun t ht=>?_⟩;suffices hd:l[i.1].dst=some t from⟨h2 t hd,by rw[I.gI];exact hz i.1 _ (BP M0) i.2 t hd⟩
    rw[<-(hall i.1 l[i.1] qs[i.1] (by omega) (by rw[Tl i.2];exact BP M0) (BP S5)).1,ht]
   obtain⟨f,tM⟩:=Classical.axiomOfChoice hex;refine⟨List.ofFn f,by simp[hq],fun i q v h1 h2=>?_,fun i q v t h1 h2 h3=>?_⟩;all_goals
    have hin:i<n:=by have:=(Bv.1 h1).1;omega
    have e:v=f ⟨i,hin⟩:=by simpa [List.getElem?_ofFn,hin]using h2.symm
    subst e;have:=tM ⟨i,hin⟩ q h1
   . exact this.1
   . exact this.2 t h3
  obtain⟨vs,hlen,hp,hg⟩:=Nt;have hk:=Gn.of qs a0 W (Y2 W I.keep) vs hlen hp;have AMa : ∀(t:Tmp) (i k:Nat) (q q':Option Tmp×Post),i≠k->qs[i]?=some q->qs[k]?=some q'->q.1=some t->q'.1≠some t:=by
   intro t i k q q' hne h1 h2 h3 h4;have hin:i<n:=by have:=(Bv.1 h1).1;omega
   have hkn:k<n:=by have:=(Bv.1 h2).1;omega
   have Hr:m<=i:=by
    rcases Lq i m with h|h
    . have:=lD i q h h1;subst this;cases h3
    . exact h
   have BX:m<=k:=by
    rcases Lq k m with h|h
    . have:=lD k q' h h2;subst this;cases h4
    . exact h
   have oi:=BP (l:=l) (i:=i) (by omega);have ok:=BP (l:=l) (i:=k) (by omega);have e1:=(hall i _ q Hr (by rw[Tl hin];exact oi) h1).1;have e2:=(hall k _ q' BX (by rw[Tl hkn];exact ok) h2).1;exact(nF hc k i BX hkn Hr hin hne _ _ ok oi t (by rw[<-e1,h3])).1 (by rw[<-e2,h4])
  have e:a=(qs.zip vs).foldl (fun b x=>b.put x.1.1 x.2) a0:=by
   have base:=fun t=>AK4 t qs vs a0 hlen (AMa t)
   refine AIy (by rw[I.defers,(base 0).1]) (by rw[I.gI,(base 0).2.1]) fun t=>?_
   by_cases hex : ∃(i:Nat) (q:Option Tmp×Post),qs[i]?=some q/\q.1=some t
   . obtain⟨i,q,h1,h2⟩:=hex;have dg:i<vs.length:=by have:=(Bv.1 h1).1;omega
     have hgi:=hg i q vs[i] t h1 (BP dg) h2;rw[hgi.1,(base t).2.2.1 i q vs[i] h1 (BP dg) h2,<-I.gI,if_pos hgi.2]
   . rw[(base t).2.2.2 (fun i q h1 h2=>hex ⟨i,q,h1,h2⟩)];refine I.old t fun i o ho Hr hin _ hd=>hex ?_
     have S5:i<qs.length:=by omega
     refine⟨i,qs[i],BP S5,?_⟩;rw[(hall i o qs[i] Hr (by rw[Tl hin];exact ho) (BP S5)).1,hd]
  rw[e];exact hk
 have AKJ : ∀(listed:Array Bool) (i:Nat),i<l.length->listed.size=l.length->listed.getD i false=false->
  (E8 l.length).countP (fun j=> !(listed.setIfInBounds i true).getD j false)<(E8 l.length).countP (fun j=> !listed.getD j false):=by
  intro listed i hi hsz AMh;refine AAZ (p:=fun j=> !listed.getD j false) (p':=fun j=> !(listed.setIfInBounds i true).getD j false) _ (fun j _ h=>?_) i (Lo.2 hi) (by simp only[AMh];rfl) ?_
  . simp only[P1 _ _ _ (show i<listed.size by omega)]at h;split at h
    . cases h
    . exact h
  . simp only[P1 _ _ _ (show i<listed.size by omega),if_true,Bool.not_true]
 have left : ∀(listed:Array Bool),(∀i,n<=i->listed.getD i false=false)->l.length - n<=(E8 l.length).countP (fun j=> !listed.getD j false):=by
  intro listed ht;have e:E8 l.length=E8 n++n6 n (l.length - n):=by
   have:=AHq (s:=0) (m:=n) (n:=l.length - n);rw[Cu,show n+(l.length - n)=l.length by omega]at this;rw[n7,n7,this]
  have h2:(n6 n (l.length - n)).countP (fun j=> !listed.getD j false)=l.length - n:=by
   rw[List.countP_eq_length.2]
   . simp
   . intro j hj;have:n<=j:=by rw[List.mem_range'_1]at hj;exact hj.1
     simp[ht j this]
  rw[e,AH8,h2];omega
 intro fuel;induction fuel with
 | zero =>
   intro listed a W hf I;have h:=left listed I.tail;refine full 0 listed a W (by omega) I fun i hi=>?_
   have hz:(E8 l.length).countP (fun j=> !listed.getD j false)=0:=by omega
   rw[oN]at hz;have:=hz i (Lo.2 (by omega));simpa using this
 | succ fuel ih =>
   intro listed a W hf I;by_cases dX : ∀i,i<n->listed.getD i false=true
   . exact full _ listed a W (by have:=left listed I.tail;omega) I dX
   .
     have hex : ∃i,i<n/\listed.getD i false=false/\∀j,j<i->listed.getD j false=true:=by
      have AMe : ∃i,i<n/\listed.getD i false=false:=by
       refine Kb fun hno=>dX fun i hi=>?_
       cases hb:listed.getD i false
       . exact absurd ⟨i,hi,hb⟩ hno
       . rfl
      obtain⟨i,hi,hb⟩:=AMe;induction i using Nat.strongRecOn with
      | ind i uO =>
        by_cases kv : ∀j,j<i->listed.getD j false=true
        . exact⟨i,hi,hb,kv⟩
        . have : ∃j,j<i/\listed.getD j false=false:=by
           refine Kb fun hno=>kv fun j hj=>?_
           cases hb':listed.getD j false
           . exact absurd ⟨j,hj,hb'⟩ hno
           . rfl
          obtain⟨j,hj,hb'⟩:=this;exact uO j hj (by omega) hb'
     refine⟨fun RX=>?_,fun j hj=>?_⟩
     . exfalso;obtain⟨i,hi,hb,AM5⟩:=hex;have M0:i<l.length:=by omega
       have:i∈iH .any l.toArray listed:=by
        rw[mem_ready];refine⟨by rw[UU _ _ (by rw[I.size];exact M0)];exact hb,l[i],by simp[M0],fun e he MC=>?_⟩;exact AM5 _ (ASg hc i (by rcases Lq i m with h|h;(rw[I.pre i h]at hb;cases hb);exact h) hi l[i] (BP M0) e.on (ZP.2 ⟨e,he,MC,rfl⟩))
       rw[RX]at this;cases this
     . rw[mem_ready]at hj;obtain⟨h0,o,ho,kv⟩:=hj;have La:l[j]?=some o:=by simpa using ho
       have EJ:j<l.length:=(Bv.1 La).1;rw[UU _ _ (by rw[I.size];exact EJ)]at h0;have lE : ∀k∈FN o,listed.getD k false=true:=fun k hk=>by
        obtain⟨e,he,hb,rfl⟩:=ZP.1 hk;exact kv e he hb
       have hjn:j<n:=by
        rcases Lq j n with h|h
        . exact h
        . exfalso;obtain⟨i,hi,hb,_⟩:=hex;rcases ASh hc j h o La i (by rcases Lq i m with h|h;(rw[I.pre i h]at hb;cases hb);exact h) hi with he|⟨k,hk,BX,q,hq,he⟩
          . have:=lE i he;rw[hb]at this;cases this
          . have:=I.closed k q hq BX (lE k hk) i he;rw[hb]at this;cases this
       have S6:m<=j:=by
        rcases Lq j m with h|h
        . rw[I.pre j h]at h0;cases h0
        . exact h
       have hjq:j<qs.length:=by omega
       have Oy:qs[j]?=some qs[j]:=BP hjq;generalize hqe:qs[j]=q at Oy;obtain⟨hd,hst,ANQ⟩:=hall j o q S6 (by rw[Tl hjn];exact La) Oy;have AMw : ∀t∈looks l.toArray o,C0 a0 ((qs.take j).reverse) t (a.tmps.getD t undef) W:=by
        intro t ht;refine AOs t _ W qs j (by omega) (fun k q' hk MI hdk _=>?_) (fun hno=>?_)
        . have BX:m<=k:=by
           rcases Lq k m with h|h
           . have:=lD k q' h MI;subst this;cases hdk
           . exact h
          have Bp:k<l.length:=by omega
          have vJ:l[k]?=some l[k]:=BP Bp;have ek:=(hall k l[k] q' BX (by rw[Tl (by omega)];exact vJ) MI).1;have ACA:l[k].dst=some t:=by rw[<-ek,hdk]
          rcases (nF hc j k S6 hjn BX (by omega) (by omega) o l[k] La vJ t ACA).2 ht with h|h
          . obtain⟨v,hv,hg⟩:=I.post k l[k] q' vJ MI BX (by omega) (lE k h.2);rw[hg t ACA];exact hv
          . omega
        . refine I.old t fun k o' hk BX hkn tf hdk=>?_
          have MI:qs[k]?=some qs[k]:=BP (by omega);have ek:=(hall k o' qs[k] BX (by rw[Tl hkn];exact hk) MI).1;rcases aC k j with hlt|rfl|tQ
          . exact hno k qs[k] hlt MI (by rw[ek,hdk])
          . rw[h0]at tf;cases tf
          . rcases (nF hc j k S6 hjn BX hkn (by omega) o o' La hk t hdk).2 ht with h|h
            . omega
            . have:=I.closed k o' hk BX tf j h.2;rw[h0]at this;cases this
       have hp:=ANQ a W I.keep AMw;have next : ∀v W',K W W'->q.2 v W'->wpAny P .any l.toArray Q fuel (listed.setIfInBounds j true) (a.put o.dst v) W':=by
        intro v W' hk hv;have hjs:j<listed.size:=by rw[I.size];exact EJ
        refine ih _ _ W' (by have:=AKJ listed j EJ I.size h0;omega) ⟨by simpa using I.size,Grow.trans I.keep hk,?_,?_,?_,by rw[Rs,I.defers],by rw[vi,I.gI],?_,?_⟩
        . intro i o' hi Hr hl k hk';rw[P1 _ _ _ hjs]at hl ⊢;split
          . rfl
          . split at hl
            . rename_i e;subst e;rw[La]at hi;cases hi;exact lE k hk'
            . exact I.closed i o' hi Hr hl k hk'
        . intro i hi;rw[P1 _ _ _ hjs];split
          . rfl
          . exact I.pre i hi
        . intro i hi;rw[P1 _ _ _ hjs,if_neg (by omega)];exact I.tail i hi
        . intro t hno;have hjd:o.dst≠some t:=hno j o La S6 hjn (by rw[P1 _ _ _ hjs,if_pos rfl]);have hold:=I.old t fun i o' hi Hr hin hl=>hno i o' hi Hr hin (by rw[P1 _ _ _ hjs];split;rfl;exact hl)
          cases TC:o.dst with
          | none=>exact hold
          | some d=>rw[WJ,if_neg (fun e=>hjd (by rw[TC,e]))];exact hold
        . intro i o' q' hi Ox Hr hin hl;by_cases hij:j=i
          . subst hij;rw[La]at hi;cases hi;rw[Oy]at Ox;cases Ox;refine⟨v,hv,fun t ht=>?_⟩;rw[ht,WJ,if_pos rfl,if_pos (by rw[I.gI];exact hz j o La hjn t ht)]
          . rw[P1 _ _ _ hjs,if_neg hij]at hl;obtain⟨u,hu,hg⟩:=I.post i o' q' hi Ox Hr hin hl;have Wq:=(hall i o' q' Hr (by rw[Tl hin];exact hi) Ox).2.1;refine⟨u,Wq u W W' hk hu,fun t ht=>?_⟩;have hne:=(nF hc j i S6 hjn Hr hin (fun e=>hij e.symm) o o' La hi t ht).1;cases TC:o.dst with
            | none=>exact hg t ht
            | some d=>rw[WJ,if_neg (fun e=>hne (by rw[TC,e]))];exact hg t ht
       have ho':l.toArray[j]?=some o:=ho;unfold wpOp;simp only[ho'];split
       . rename_i hw;rw[if_pos hw]at hp;refine .inl (og (fun a' W' h'=>?_) hp);obtain⟨v,rfl,hk,hv⟩:=h';exact next v W' hk hv
       . rename_i hw;rw[if_neg hw]at hp;exact next undef W (Grow.refl _) hp
theorem mN (m i:Nat):(Array.replicate m false).getD i false=false:=by
 by_cases h:i<m<;>simp[h]
theorem AAz {Kk:Act->World->Prop}{r:List (Option Tmp×Post)}{a:Act}{W:World}(h:Gn Kk r a W):∀m,Gn Kk (As m Yl++r) a W
 | 0=>by simpa using h
 | m+1=>by
   rw[Ao,Bg];exact fun _ _=>AAz h m
theorem AHk [Grow K](hc:NF l m n=true)(hz:((l.take n).all fun o=>match o.dst with|some d=>decide (d<a0.tmps.size)|none=>true)=true)(h:RG P l.toArray Q K a0 w0 ((l.take n).drop m) [] fun acc=>∀W,K w0 W->Gn (PV P l Q n) acc.reverse a0 W):PV P l Q m a0 w0:=by
 intro fuel listed hf hsz h1 h2;obtain⟨qs,hl,hall,EP⟩:=RG.ARa _ _ h;have hn:=nD hc;have hmn:=AFc hc;have hq:qs.length=n - m:=by rw[hl];simp;omega
 simp only[List.append_nil,List.reverse_reverse]at hall EP;have AM2:(E8 l.length).countP (fun i=> !listed.getD i false)<=l.length - m:=by
  have e:E8 l.length=E8 m++n6 m (l.length - m):=by
   have:=AHq (s:=0) (m:=m) (n:=l.length - m);rw[Cu,show m+(l.length - m)=l.length by omega]at this;rw[n7,n7,this]
  have e0:(E8 m).countP (fun j=> !listed.getD j false)=0:=by
   rw[oN];intro j hj;simp[h1 j (Lo.1 hj)]
  have e1:=List.countP_le_length (p:=fun i=> !listed.getD i false) (l:=n6 m (l.length - m));rw[e,AH8,e0];simpa using e1
 refine AJC (w0:=w0) hc (fun i o ho hi d hd=>?_) (As m Yl++qs) (by simp[hq];omega) (fun i q hi Ox=>?_) (fun i o q Hr ho Ox=>?_) (fun W hW=>AAz (EP W hW) m) fuel listed a0 w0 (Nat.le_trans AM2 hf) ?_
 . rw[Ee]at hz;have:=hz o (List.mem_of_getElem? (i:=i) (by rw[Tl hi];exact ho));rw[hd]at this;simpa using this
 . rw[List.getElem?_append_left (by simpa using hi)]at Ox;simp[hi]at Ox;exact Ox.symm
 . rw[List.getElem?_append_right (by simpa using Hr)]at Ox;simp only[NQ]at Ox;obtain⟨k1,k2,k3⟩:=hall (i - m) o q (by rw[List.getElem?_drop,show m+(i - m)=i by omega];exact ho) Ox;refine⟨k1,k2,fun a W hk hf=>k3 a W hk fun t ht=>?_⟩;have:=hf t ht;rw[List.take_append,AIT,NQ,D9 (l:=As m Yl) (by simpa using Hr),List.reverse_replicate,AOt]at this;exact this
 . refine⟨hsz,Grow.refl _,fun i o _ Hr BL=>?_,h1,fun i hi=>h2 i (by omega),rfl,rfl,fun t _=>rfl,fun i o q _ _ Hr _ BL=>?_⟩
   . rw[h2 i Hr]at BL;cases BL
   . rw[h2 i Hr]at BL;cases BL
theorem AFY {id:Nat}(hm:P.follows .mixedOrders=true)(h:PV P l Q 0 a0 w0.drew):(oF id l.toArray true).wp P Q a0 w0:=by
 refine wp_region_any hm ?_;have e:({ w0 with drawn:=w0.drawn+1 }:World)=w0.drew:=rfl;rw[e];exact h _ _ (by simp) (by simp) (fun i hi=>by omega) (fun i _=>mN _ _)
theorem n5 {id:Nat}(n:Nat)(hm:P.follows .mixedOrders=true)(hc:(NF l 0 n && fu l n l.length)=true)(hz:((l.take n).all fun o=>match o.dst with|some d=>decide (d<a0.tmps.size)|none=>true)=true)(h : ∀w1,AS w0 w1->RG P l.toArray Q AS a0 w1 (l.take n) [] fun acc=>∀W,AS w1 W->Gn (wpList P l.toArray Q (l.drop n)) acc.reverse a0 W):(oF id l.toArray true).wp P Q a0 w0:=by
 rw[An]at hc;refine AFY hm (AHk (K:=AS) hc.1 hz ?_);have:=h w0.drew (AS.refl _).drew;have hn:=nD hc.1;have mono : ∀(r:List (Option Tmp×Post)) (a:Act) (W:World),Gn (wpList P l.toArray Q (l.drop n)) r a W->Gn (PV P l Q n) r a W:=by
  intro r;induction r with
  | nil =>
    intro a W h;simp only[Gn]at h ⊢;refine AHl hc.2 hn (l.length - n) n a W (by omega) (BW _) ?_;rw[D9 (by simp)];exact n4 h
  | cons q r ih=>obtain⟨d,p⟩:=q;intro a W h v hv;exact ih _ _ (h v hv)
 have vy : ∀(r:List Oper) (acc:List (Option Tmp×Post)) (f g:List (Option Tmp×Post)->Prop),(∀x,f x->g x)->RG P l.toArray Q AS a0 w0.drew r acc f->RG P l.toArray Q AS a0 w0.drew r acc g:=by
  intro r;induction r with
  | nil=>intro acc f g Wb h;exact Wb _ h
  | cons o r ih=>intro acc f g Wb h;obtain⟨p,h1,h2,h3⟩:=h;exact⟨p,h1,h2,ih _ _ _ Wb h3⟩
 exact vy _ _ (fun acc=>∀W,AS w0.drew W->Gn (wpList P l.toArray Q (l.drop n)) acc.reverse a0 W) _ (fun acc h W hW=>mono _ _ _ (h W hW)) (by simpa using this)
theorem Xj [Grow K]{ops:Array Oper}{o:Oper}{r:List Oper}{acc:List (Option Tmp×Post)}{fin:List (Option Tmp×Post)->Prop}{E:Value}(hg:o.guard=none)(h : ∀(a:Act) (W:World),K w0 W->(∀t∈looks ops o,C0 a0 acc t (a.tmps.getD t undef) W)->(execOp a.eval o).run P W=.ok (.value E) W)(hr:RG P ops Q K a0 w0 r ((o.dst,fun v _=>v=E)::acc) fin):RG P ops Q K a0 w0 (o::r) acc fin:=by
 refine⟨fun v _=>v=E,fun _ _ _ _ h=>h,fun a W hk hf=>?_,hr⟩;have hw:DV o (yielded ops a.tmps)=true:=by simp[DV,hg]
 rw[if_pos hw];unfold EL;rw[h a W hk hf];exact⟨E,rfl,Grow.refl _,rfl⟩
theorem ASe [Grow K]{ops:Array Oper}{o:Oper}{r:List Oper}{acc:List (Option Tmp×Post)}{fin:List (Option Tmp×Post)->Prop}{E:Value}{f:FuncId}{args:Array Value}(hg:o.guard=none)(h : ∀(a:Act) (W:World),K w0 W->(∀t∈looks ops o,C0 a0 acc t (a.tmps.getD t undef) W)->(execOp a.eval o).run P W=.ok (.enter f args) W)(hc : ∀W,K w0 W->Calls P f args W fun e W'=>e=.returned E/\AS W W')(hr:RG P ops Q K a0 w0 r ((o.dst,fun v _=>v=E)::acc) fin):RG P ops Q K a0 w0 (o::r) acc fin:=by
 refine⟨fun v _=>v=E,fun _ _ _ _ h=>h,fun a W hk hf=>?_,hr⟩;have hw:DV o (yielded ops a.tmps)=true:=by simp[DV,hg]
 rw[if_pos hw];unfold EL;rw[h a W hk hf];refine(hc W hk).mono ?_;rintro e W' ⟨rfl,hk'⟩;exact⟨E,rfl,Grow.GA hk',rfl⟩
theorem AHo {ops:Array Oper}{o:Oper}{acc:List (Option Tmp×Post)}{gi:Nat}{want B:Bool}{d:Tmp}{a:Act}{W:World}(hg:o.guard=some (gi,want))(hd:(ops[gi]?).bind (·.dst)=some d)(hB : ∀v W,C0 a0 acc d v W->v=.bool B)(hf : ∀t∈looks ops o,C0 a0 acc t (a.tmps.getD t undef) W):yielded ops a.tmps gi=some B:=by
 have hm:d∈looks ops o:=by
  unfold looks GG;refine List.mem_append_right _ ?_;rw[hg];simp[hd]
 have h:=hB _ _ (hf d hm);unfold yielded;rw[hd];have e:a.tmps[d]?=some (.bool B):=by
  rw[NO]at h;cases hx:a.tmps[d]? with
  | none=>rw[hx]at h;cases h
  | some x=>rw[hx]at h;simp only[EM]at h;rw[h]
 simp[e]
theorem vx [Grow K]{ops:Array Oper}{o:Oper}{r:List Oper}{acc:List (Option Tmp×Post)}{fin:List (Option Tmp×Post)->Prop}{gi:Nat}{want B:Bool}{d:Tmp}(p:Post)(hst:Q8 K p)(hg:o.guard=some (gi,want))(hd:(ops[gi]?).bind (·.dst)=some d)(hB : ∀v W,C0 a0 acc d v W->v=.bool B)(h:B=want->∀(a:Act) (W:World),K w0 W->(∀t∈looks ops o,C0 a0 acc t (a.tmps.getD t undef) W)->∃v W',(execOp a.eval o).run P W=.ok (.value v) W'/\p v W'/\K W W')(hr:RG P ops Q K a0 w0 r ((o.dst,fun v W=>B=want->p v W)::acc) fin):RG P ops Q K a0 w0 (o::r) acc fin:=by
 refine⟨fun v W=>B=want->p v W,fun v W W' hk hp e=>hst v W W' hk (hp e),fun a W hk hf=>?_,hr⟩;have hy:=AHo hg hd hB hf;by_cases e:B=want
 . have hw:DV o (yielded ops a.tmps)=true:=by simp[DV,hg,hy,e]
   rw[if_pos hw];unfold EL;obtain⟨v,W',h1,h2,h3⟩:=h e a W hk hf;rw[h1];exact⟨v,rfl,h3,fun _=>h2⟩
 . have hw : ¬DV o (yielded ops a.tmps)=true:=by simp[DV,hg,hy,e]
   rw[if_neg hw];exact fun e'=>absurd e' e
theorem nC [Grow K]{ops:Array Oper}{o:Oper}{r:List Oper}{acc:List (Option Tmp×Post)}{fin:List (Option Tmp×Post)->Prop}{gi:Nat}{want B:Bool}{E:Value}{d:Tmp}(hg:o.guard=some (gi,want))(hd:(ops[gi]?).bind (·.dst)=some d)(hB : ∀v W,C0 a0 acc d v W->v=.bool B)(h:B=want->∀(a:Act) (W:World),K w0 W->(∀t∈looks ops o,C0 a0 acc t (a.tmps.getD t undef) W)->(execOp a.eval o).run P W=.ok (.value E) W)(hr:RG P ops Q K a0 w0 r ((o.dst,fun v _=>B=want->v=E)::acc) fin):RG P ops Q K a0 w0 (o::r) acc fin:=
 vx (fun v _=>v=E) (fun _ _ _ _ h=>h) hg hd hB (fun e a W hk hf=>⟨E,W,h e a W hk hf,rfl,Grow.refl _⟩) hr
theorem AFb [Grow K]{ops:Array Oper}{o:Oper}{r:List Oper}{acc:List (Option Tmp×Post)}{fin:List (Option Tmp×Post)->Prop}{gi:Nat}{want B:Bool}{d:Tmp}(p:Post)(hst:Q8 K p)(hg:o.guard=some (gi,want))(hd:(ops[gi]?).bind (·.dst)=some d)(hB : ∀v W,C0 a0 acc d v W->v=.bool B)(h:B=want->∀(a:Act) (W:World),K w0 W->(∀t∈looks ops o,C0 a0 acc t (a.tmps.getD t undef) W)->∃f args,(execOp a.eval o).run P W=.ok (.enter f args) W/\
   Calls P f args W fun e W'=>∃v,e=.returned v/\p v W'/\K W W')(hr:RG P ops Q K a0 w0 r ((o.dst,fun v W=>B=want->p v W)::acc) fin):RG P ops Q K a0 w0 (o::r) acc fin:=by
 refine⟨fun v W=>B=want->p v W,fun v W W' hk hp e=>hst v W W' hk (hp e),fun a W hk hf=>?_,hr⟩;have hy:=AHo hg hd hB hf;by_cases e:B=want
 . have hw:DV o (yielded ops a.tmps)=true:=by simp[DV,hg,hy,e]
   rw[if_pos hw];unfold EL;obtain⟨f,args,h1,h2⟩:=h e a W hk hf;rw[h1];refine h2.mono ?_;rintro e' W' ⟨v,rfl,hv,hk'⟩;exact⟨v,rfl,hk',fun _=>hv⟩
 . have hw : ¬DV o (yielded ops a.tmps)=true:=by simp[DV,hg,hy,e]
   rw[if_neg hw];exact fun e'=>absurd e' e
theorem AFd [Grow K]{ops:Array Oper}{r:List Oper}{acc:List (Option Tmp×Post)}{fin:List (Option Tmp×Post)->Prop}{B X:Bool}{dst:Option Tmp}{PU:TypeId}{pos:String}{after:Array Edge}{c y:Tmp}(h1 : ∀v W,C0 a0 acc c v W->v=.bool B)(h2 : ∀v W,C0 a0 acc y v W->B=false->v=.bool X)(hr:RG P ops Q K a0 w0 r ((dst,fun v _=>v=.bool (B || X))::acc) fin):RG P ops Q K a0 w0 (⟨dst,.pick (.tmp c) (.const (.bool true)) (.tmp y),PU,pos,after,none⟩::r) acc fin:=by
 refine Xj rfl (fun a W hk hf=>?_) hr;have e1:=h1 _ _ (hf c (by simp[looks,GG,CN]));have e2:=h2 _ _ (hf y (by simp[looks,GG,CN]));have e3:a.eval (.tmp c)=.bool B:=e1;have e4:B=false->a.eval (.tmp y)=.bool X:=e2;simp only[execOp,e3];cases B with
 | true=>simp[asBool,Act.eval]
 | false=>simp[asBool,Act.eval]at e4 ⊢;exact e4
theorem fc {ops:Array Oper}{acc:List (Option Tmp×Post)}{fin:List (Option Tmp×Post)->Prop}(h:fin acc):RG P ops Q K a0 w0 [] acc fin:=h
theorem kZ {Kk:Act->World->Prop}{d:Option Tmp}{E:Value}{r:List (Option Tmp×Post)}{a:Act}{W:World}(h:Gn Kk r (a.put d E) W):Gn Kk ((d,fun v _=>v=E)::r) a W:=fun v hv=>by subst hv;exact h
theorem AKy {Kk:Act->World->Prop}{d:Option Tmp}{p:Post}{r:List (Option Tmp×Post)}{a:Act}{W:World}(h : ∀v,p v W->Gn Kk r (a.put d v) W):Gn Kk ((d,p)::r) a W:=h
theorem cY {Kk:Act->World->Prop}{a:Act}{W:World}(h:Kk a W):Gn Kk [] a W:=h
end
theorem AWI (w:World):(zeroValue 3).run AD w=.ok (.int .i64 0) w:=by kernel_rfl
def upd (M:ByteArray->Option Int)(s:ByteArray)(v:Int):ByteArray->Option Int:=fun x=>if x=s then some v else M x
def IZ (w:World)(b n:Nat)(M:ByteArray->Option Int):Prop:=
 ∃D:DataW Unit,w.ownsMap AD 9 (plainElem AD 3) b n D/\Maps.IsMap D/\
  ∀s:ByteArray,s.size<=maxLen->D.atKey (.string s.data.toList) (.lit (.int .i64 0))=.lit (.int .i64 ((M s).getD 0))/\Maps.has D (.string s.data.toList)=(M s).isSome
theorem IZ.made (w:World):IZ (w.alloc (.map #[] 0)) w.heap.size 0 (fun _=>none):=
 ⟨.map [],World.ownsMap_made w _ _ _,Maps.isMap_empty,fun _ _=>⟨rfl,rfl⟩⟩
theorem IZ.look {w:World}{b n:Nat}{M:ByteArray->Option Int}(h:IZ w b n M){s:ByteArray}(hs:s.size<=maxLen) :
 (Instr.lookup 177 (.map (some b)) (.string s) true).run AD w=.ok (.tuple #[.int .i64 ((M s).getD 0),.bool (M s).isSome]) w:=by
 obtain⟨D,ho,_,hM⟩:=h;obtain⟨h1,h2⟩:=hM s hs;obtain⟨v,ps,hrun,hv⟩:=ho.look_ok (t:=177) (oT Mp) yV (AWI w) (plainElem_int Eg (by decide)) (qF Mp hs);obtain⟨c,rfl,hc,_⟩:=plainElem_int_inv Eg hv;rw[hrun,h2];have e:=(congrArg Prod.fst hc).symm.trans h1;simp only[DataW.lit.injEq,Lit.int.injEq,true_and]at e;rw[e]
theorem IZ.store {w:World}{b n:Nat}{M:ByteArray->Option Int}(h:IZ w b n M)(hn:n<maxLen){s:ByteArray}(hs:s.size<=maxLen){v:Int}(hv:(Mj .i64 v).wf=true) :
 ∃w',(Instr.mapUpdate 177 (.map (some b)) (.string s) (.int .i64 v)).run AD w=.ok () w'/\w.grownBy w' (some b)/\IZ w' b (n+1) (upd M s v):=by
 obtain⟨D,ho,hm,hM⟩:=h;obtain⟨w',hrun,ho',hg⟩:=ho.update (t:=177) (oT Mp) yV hn (qF Mp hs) (plainElem_int Eg hv);refine⟨w',hrun,hg,_,ho',hm.put _ _,fun x hx=>?_⟩;by_cases e:x=s
 . subst e;have hk:WideAt.IsKeyLit (aA x.data.toList):=trivial;rw[Maps.atKey_put_same hm hk,Maps.has_put_same hm hk];simp[upd]
 . have hne:aA x.data.toList≠aA s.data.toList:=fun h=>e (by cases x;cases s;simpa using h)
   rw[Maps.atKey_put_other hne,Maps.has_put_other hne];simp only[upd,if_neg e];exact hM x hx
theorem IZ.keep {w w':World}{b n:Nat}{M:ByteArray->Option Int}(h:IZ w b n M)(hk:AS w w'):IZ w' b n M:=by
 obtain⟨D,ho,hm,hM⟩:=h;have hlt:=ho.lt;obtain⟨es,clock,hb,F,hs,hD⟩:=ho;exact⟨D,⟨es,clock,(hk.heap hlt).trans hb,F,hs,hD⟩,hm,hM⟩
theorem IZ.lt {w:World}{b n:Nat}{M:ByteArray->Option Int}(h:IZ w b n M):b<w.heap.size:=by
 obtain⟨D,ho,_⟩:=h;exact ho.lt
theorem IZ.congr {w:World}{b n:Nat}{M M':ByteArray->Option Int}(h:IZ w b n M)(e : ∀s,M s=M' s):IZ w b n M':=by
 have:M=M':=funext e;exact this ▸ h
theorem AV7 {n:Int}(h : -9223372036854775808<=n)(h':n<=9223372036854775807):Ad.wrap n=n:=IntWalk.i64_in n ⟨h,h'⟩
end Go.Proofs.YtpodcjcajanldaaGreat
