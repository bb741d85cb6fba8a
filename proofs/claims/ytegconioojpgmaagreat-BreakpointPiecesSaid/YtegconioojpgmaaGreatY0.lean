/- Part of the proof of breakpointPieces.proved. Conditions: none. -/
import Derived.WalkKit
import Derived.Laws.Rows
import Derived.Laws.ResultCell
import Derived.Deep.Draws
import Derived.Lib.Hide
import GoSem.Core.Value
import Derived.Test.YtegconioojpgmaaGreatProg
import Derived.OpenShut
import Derived.Orders
import Derived.KernelRfl
import Derived.Maps.OwnSet
import Derived.Maps.OwnOps
import Derived.Maps.Views
import Derived.StringKeys
import Derived.Outline
import Derived.Deep.Light
set_option linter.unusedVariables false
set_option linter.unusedSimpArgs false
set_option maxRecDepth 100000
set_option maxHeartbeats 16000000
open Go.Sem renaming run_bind->Jt
open Array renaming toArray_toList->AMO,getElem?_eq_getElem->fa
open List renaming zipIdx_cons->mb,range->E6,replicate->Aq,reverse_append->AMp,countP_cons->ACq,getElem?_take_of_lt->Sm,range'->fY,range'_append_1->ACc,range_eq_range'->tq,countP_append->ACp,countP_eq_zero->fx
open Go.Result renaming andThen_ok->Oo
open Go.Region renaming wanted->FB,ready->mr
open Go.Oper renaming wp->Er,wp_mono->mo
open Int renaming mul_tdiv_add_tmod->mN,lt_or_le->fq,neg_tmod->mO,lt_tmod_of_pos->ft,mul_le_mul_of_nonneg_right->AMV,mul_nonneg->RB
open Go.ByteArray renaming toList_eq->uC
open Nat renaming lt_trichotomy->aN
open Go.Code renaming region->mB
open Option renaming some->J,none->E
open Bool renaming false->U,true->I
open List renaming length->G
namespace Go.Proofs.YtegconioojpgmaaGreat
open Go.RowKit Tryz
theorem F {α:Sort _}{a:α}:a=a:=rfl
theorem DO:∀{α:Type _}{i:Nat}{b:α}{xs:Array α},xs[i]?=some b↔∃ h,xs[i]=b:=@Array.getElem?_eq_some_iff
theorem Cz:∀(n:Nat),0+n=n:=@Nat.zero_add
theorem Br:∀{α:Type _}{i:Nat}{a:α}{l:List α},l[i]?=some a↔∃ h,l[i]=a:=@List.getElem?_eq_some_iff
theorem FW:∀{α:Type _}{xs:Array α},xs.toList.length=xs.size:=@Array.length_toList
theorem Gl:∀{α:Type _}{i:Nat}{l:List α},l.length<=i->List.take i l=l:=@List.take_of_length_le
theorem Bw:∀{α:Type _}{β:Type _}{a:α}{l:List α}{f:β->α->β}{b:β},List.foldl f b (a::l)=List.foldl f (f b a) l:=@List.foldl_cons
theorem UD:∀{α:Type _}{i:Nat}{l:List α}(h:i<l.length),List.take (i+1) l=List.take i l++[l[i]]:=@List.take_succ_eq_append_getElem
theorem BN:∀(n:Nat),n<=n:=@Nat.le_refl
theorem ET:∀{α:Type _}{l:List α},List.take 0 l=[]:=@List.take_zero
theorem BU:∀{α:Type _}(xs:List α),[]++xs=xs:=@List.nil_append
theorem Awd:∀{c:Prop}{h:Decidable c},c->∀{α:Sort _}{t e:α},(if c then t else e)=t:=@if_pos
theorem Sl:∀{a:Int}(b:Int),0<=a->0<=a.tmod b:=@Int.tmod_nonneg
theorem aG:∀(a:Int) {b:Int},0<b->a.tmod b<b:=@Int.tmod_lt_of_pos
theorem aF:∀{a b c:Int},a<=b->0<=c->c*a<=c*b:=@Int.mul_le_mul_of_nonneg_left
theorem BL:∀{α:Type _}(val val_1:α),(some val=some val_1)=(val=val_1):=@Option.some.injEq
theorem Gk:∀{α:Type _}(y:α) {a:α}{l:List α},a∈l->a∈y::l:=@List.mem_cons_of_mem
theorem Ia:∀{α:Type _}{b:α}{α_1:Type _}{x:Option α_1}{f:α_1->α},Option.map f x=some b↔∃ a,x=some a/\f a=b:=@Option.map_eq_some_iff
theorem BY:∀{α:Type _}{a:α}{n:Nat},List.replicate (n+1) a=a::List.replicate n a:=@List.replicate_succ
theorem BK:∀{α:Type _}{a:α}{xs bs:List α},a::xs++bs=a::(xs++bs):=@List.cons_append
theorem LX:∀{α:Type _}{a:α}{l:List α},(a::l)[0]?=some a:=@List.getElem?_cons_zero
theorem JU:∀{α:Type _}{a:α}{i:Nat}{l:List α},(a::l)[i+1]?=l[i]?:=@List.getElem?_cons_succ
theorem BE:∀{α:Type _}{l:List α}{i:Nat}(h:i<l.length),l[i]?=some l[i]:=@List.getElem?_eq_getElem
theorem Kl:∀{α:Type _}{xs:Array α}{i:Nat}{d:α},xs.getD i d=xs[i]?.getD d:=@Array.getD_eq_getD_getElem?
theorem Ak:∀(a b:Bool),((a&&b)=true)=(a=true/\b=true):=@Bool.and_eq_true
theorem ES:∀{α:Type _}{p:α->Bool}{l:List α},l.all p=true↔∀(x:α),x∈l->p x=true:=@List.all_eq_true
theorem KP:∀{m n:Nat},m∈List.range n↔m<n:=@List.mem_range
theorem T9:∀(a b:Bool),((a||b)=true)=(a=true\/b=true):=@Bool.or_eq_true
theorem Awe:∀{p:Prop} [inst:Decidable p],(decide p=true)=p:=@decide_eq_true_eq
theorem Nu:∀{α:Type _}{β:Type _}(a:α) (f:α->β),Option.map f (some a)=some (f a):=@Option.map_some
theorem Dm:∀{α:Type _}{a b:α},(some a).getD b=a:=@Option.getD_some
theorem Awf:∀{c:Prop}{h:Decidable c},¬c->∀{α:Sort _}{t e:α},(if c then t else e)=e:=@if_neg
theorem D5:∀{α:Type _}{i:Nat}{l:List α}(h:i<l.length),List.drop i l=l[i]::List.drop (i+1) l:=@List.drop_eq_getElem_cons
theorem DP:∀{α:Type _}{a:α}{xs:List α}{i:Nat},List.take (i+1) (a::xs)=a::List.take i xs:=@List.take_succ_cons
theorem Cf:∀{α:Type _}{b:α}{l:List α}{a:α},a∈b::l↔a=b\/a∈l:=@List.mem_cons
theorem MK:∀(n m:Nat),n<m\/n>=m:=@Nat.lt_or_ge
theorem Awg:∀{α:Sort _}{x:Decidable True}(t e:α),(if True then t else e)=t:=@if_true
theorem Kn:∀{p:Prop},(¬p->False)->p:=@Classical.byContradiction
theorem E5:∀{α:Type _}(xs:List α),xs++[]=xs:=@List.append_nil
theorem Ps:∀{n m k:Nat},n<=m->m<=k->n<=k:=@Nat.le_trans
theorem Cj:∀{α:Type _}{l:List α}{i:Nat}{a:α},l[i]?=some a->a∈l:=@List.mem_of_getElem?
theorem EJ:∀{α:Type _}{l₁ l₂:List α}{i:Nat},i<l₁.length->(l₁++l₂)[i]?=l₁[i]?:=@List.getElem?_append_left
theorem Gy:∀{α:Type _}{l₁ l₂:List α}{i:Nat},l₁.length<=i->(l₁++l₂)[i]?=l₂[i - l₁.length]?:=@List.getElem?_append_right
theorem H6:∀{α:Type _}{n:Nat}{a:α},(List.replicate n a).length=n:=@List.length_replicate
theorem BA:∀{α:Type _}{a:α}{xs:List α},(a::xs).length=xs.length+1:=@List.length_cons
theorem Hp:∀{α:Type _}{l:List α}{L:List (List α)},(l::L).flatten=l++L.flatten:=@List.flatten_cons
theorem Gz:∀(n m k:Nat),(n+m)*k=n*k+m*k:=@Nat.add_mul
theorem Nr:∀{α:Type _}{l:List α},l.length=0->l=[]:=@List.eq_nil_of_length_eq_zero
theorem Awh:∀{α:Sort _}{x:Decidable False}(t e:α),(if False then t else e)=e:=@if_false
theorem KO:∀{α:Type _}{l:List α}{i j:Nat},(List.take i l)[j]?=if j<i then l[j]? else none:=@List.getElem?_take
theorem Bv:∀{α:Type _}{l:List α}{i:Nat}{a:α},l.getD i a=l[i]?.getD a:=@List.getD_eq_getElem?_getD
theorem Hr:∀{α:Type _}{a:α},none.getD a=a:=@Option.getD_none
theorem BB:∀{α:Type _}{β:Type _}{f:α->β},List.map f []=[]:=@List.map_nil
theorem Ap:∀{α:Type _}{β:Type _}{f:α->β}{a:α}{l:List α},List.map f (a::l)=f a::List.map f l:=@List.map_cons
theorem H7:∀{n m k:Nat},n<m->m<=k->n<k:=@Nat.lt_of_lt_of_le
theorem Kq:∀{α:Type _}{l:List α}{n:Nat}(h:n<l.length),l[n]∈l:=@List.getElem_mem
theorem GW:(false=true)=False:=@Bool.false_eq_true
theorem Ch:∀{α:Type _}{β:Type _}{xs:List α}(f:α->β),(List.map f xs).length=xs.length:=@List.length_map
theorem CM:∀{α:Type _}{β:Type _}{f:α->β}{l:List α}{i:Nat},(List.map f l)[i]?=Option.map f l[i]?:=@List.getElem?_map
theorem M6:∀{α:Type _}{l:List α}{i:Nat},l.length<=i->l[i]?=none:=@List.getElem?_eq_none
theorem Da:∀{α:Type _}{β:Type _}{b:β}{f:α->β}{l:List α},b∈List.map f l↔∃ a,a∈l/\f a=b:=@List.mem_map
theorem VZ:∀{α:Type _}{xs:Array α}{i:Nat},xs.toList[i]?=xs[i]?:=@Array.getElem?_toList
theorem Cp:∀{α:Type _}{xs bs:List α},(xs++bs).length=xs.length+bs.length:=@List.length_append
theorem Gx:∀{α:Type _}{xs ys:Array α},xs.toList=ys.toList↔xs=ys:=@Array.toList_inj
theorem Vj:∀{n m:Nat}(k:Nat),n<=m->n*k<=m*k:=@Nat.mul_le_mul_right
theorem Fa:∀{α:Type _}{i:Nat}{l:List α},(List.take i l).length=min i l.length:=@List.length_take
theorem FA:∀{α:Type _}{i:Nat}{l:List α},l.length<=i->List.drop i l=[]:=@List.drop_of_length_le
theorem GX:∀{α:Type _}(xs bs cs:List α),xs++bs++cs=xs++(bs++cs):=@List.append_assoc
theorem Vi:∀{a b:Nat},a<=b->min a b=a:=@Nat.min_eq_left
theorem Fm:∀{α:Type _}{β:Type _}{f:α->β}{l₁ l₂:List α},List.map f (l₁++l₂)=List.map f l₁++List.map f l₂:=@List.map_append
theorem Kr:∀{α:Type _}{l:List α},0<l.length↔l≠[]:=@List.length_pos_iff
theorem Pq:∀{α:Type _}{xs ys:Array α},(xs++ys).toList=xs.toList++ys.toList:=@Array.toList_append
theorem MJ:∀{α:Type _}{a:α}{s t:List α},a∈s++t↔a∈s\/a∈t:=@List.mem_append
theorem Ep:∀{α:Type _}{a:α}{l:List α}{f:α->Bool},(a::l).all f=(f a&&l.all f):=@List.all_cons
theorem LZ:∀{n m:Nat},n<m->n<=m:=@Nat.le_of_lt
theorem Hq:∀{a b:Nat},¬a<b->b<=a:=@Nat.le_of_not_lt
theorem IY:∀(n:Nat),¬n<n:=@Nat.lt_irrefl
theorem UE:∀(n:Nat),¬n<0:=@Nat.not_lt_zero
theorem gE:∀(n:Nat),1*n=n:=@Nat.one_mul
theorem Cy:∀{α:Type _}{a:α},List.replicate 0 a=[]:=@List.replicate_zero
theorem CO:∀{α:Type _}{β:Type _}{f:α->β->α}{b:α},List.foldl f b []=b:=@List.foldl_nil
theorem Ag:∀{α:Type _}{x:α}{xs:List α}{a:α},(x::xs).set 0 a=a::xs:=@List.set_cons_zero
theorem Ai:∀{α:Type _}{x:α}{xs:List α}{i:Nat}{a:α},(x::xs).set (i+1) a=x::xs.set i a:=@List.set_cons_succ
theorem F2:∀{n m:Nat},n.ble m=true->n<=m:=@Nat.le_of_ble_eq_true
theorem CU:∀{α:Type _}{a:α}{l:List α}{i:Nat},List.drop (i+1) (a::l)=List.drop i l:=@List.drop_succ_cons
theorem B9:∀{α:Type _}{l:List α},List.drop 0 l=l:=@List.drop_zero
theorem Oj:∀{a b:Bool},a=b↔(a=true↔b=true):=@Bool.eq_iff_iff
theorem ML:∀{α:Type _}{val val_1:α},some val=some val_1->val=val_1:=@Option.some.inj
theorem LY:∀{α:Type _}{a b:α},a∈[b]↔a=b:=@List.mem_singleton
theorem Awl:∀{p:Prop} [inst:Decidable p],¬p->decide p=false:=@decide_eq_false
theorem Cd:∀(b:Bool),(true&&b)=b:=@Bool.true_and
theorem Awk:∀{p:Prop} [inst:Decidable p],p->decide p=true:=@decide_eq_true
theorem D4:∀(b:Bool),(false&&b)=false:=@Bool.false_and
theorem LV:∀(b:Bool),(b&&false)=false:=@Bool.and_false
theorem LW:∀(b:Bool),(b&&b)=b:=@Bool.and_self
theorem IZ:∀{α:Type _}{a:α},(some a).isSome=true:=@Option.isSome_some
theorem Nq:∀{α:Type _}{f:α->Bool},[].all f=true:=@List.all_nil
theorem Km:∀(b:Bool),(b&&true)=b:=@Bool.and_true
theorem Awi:∀{p q:Prop}{x:Decidable p}{x_1:Decidable q},decide p=decide q↔(p↔q):=@decide_eq_decide
theorem CI:∀(n:Nat),0<=n:=@Nat.zero_le
theorem Awj:∀(p:Prop),(p\/False)=p:=@or_false
theorem GH:∀{α:Type _}{a:α}{l:List α},a∈a::l:=@List.mem_cons_self
theorem Awm:∀{a b:Prop},a=b↔(a↔b):=@eq_iff_iff
theorem lz:∀(b:Bool),(b||false)=b:=@Bool.or_false
theorem Awn:∀{a:Prop},a->(a↔True):=@iff_true_intro
theorem W:True:=⟨⟩
theorem Ux{p:Prop}(h:p:=by omega):p:=h
theorem ZA{p:Prop}(h:p:=by simp):p:=h
theorem ZB{p:Prop}(h:p:=by decide):p:=h
theorem ZC{p:Prop}(h:p:=by kernel_rfl):p:=h
theorem Awa{p:Prop}(h:p:=by assumption):p:=h
variable {ty:TypeId}{w:World}{g:Nat}{cs:Array Value}{o:Oper}{gd:Option (Nat×Bool)}{ops:Array Oper}(a:Int)
theorem AI {α : Sort _}(a : α):∃ x,a=x:=⟨a,rfl⟩
def Nz (w:World)(b off:Nat)(cs:Array Value):Prop:=∀j,j<cs.size->w.cell? ⟨b,off+j,E⟩=cs[j]?
def iM:TypeDesc->Bool
 | .struct _ | .array _ _=>I
 | _=>U
def ND (P:Program)(ty:TypeId)(n:Nat):Prop:=
 ∃d,P.underlying ty=J d/\iM d=I/\(P.info? ty).map (·.size)=J n
theorem ND.mk' {P:Program}{n:Nat}{d:TypeDesc}(h:P.underlying ty=J d)(B:iM d=I)(H:(P.info? ty).map (·.size)=J n):ND P ty n:=⟨d,h,B,H⟩
def Xw (cs:Array Value):Prop:=∀v∈cs.toList,v.oneCell'=I
theorem J0 (b off n:Nat):(⟨b,off,E⟩:Addr).add n=⟨b,off+n,E⟩:=by
 unfold Addr.add;split;rename_i h;subst h;rfl;rfl
def Cb (w:World)(g:Nat)(t:TypeId)(cs:Array Value):Prop:=w.heap[g]?=J (.cells cs t (0,0))
theorem Cb.lt {t:TypeId}(h:Cb w g t cs):g<w.heap.size:=(DO.1 h).1
theorem Cb.cell {t:TypeId}(h:Cb w g t cs)(i:Nat):w.cell? ⟨g,i,E⟩=cs[i]?:=cell_of_row w g i cs t (0,0) h
theorem Cb.frozen {t:TypeId}(h:Cb w g t cs)(i:Nat):w.frozen? ⟨g,i,E⟩=false:=frozen_of_row w g i cs t h
theorem Cb.new (w:World)(t:TypeId)(cs:Array Value):Cb (w.alloc (.cells cs t)) w.heap.size t cs:=heap_alloc_new w _
theorem Cb.AS (w:World)(t:TypeId)(cs:Array Value)(h:g=w.heap.size):Cb (w.alloc (.cells cs t)) g t cs:=by subst h;exact Cb.new w t cs
theorem Cb.alloc {t:TypeId}(h:Cb w g t cs)(o:Obj):Cb (w.alloc o) g t cs:=(Below.heap_alloc w o g h.lt).trans h
theorem Cb.below {w w':World}{g B:Nat}{t:TypeId}(h:Cb w g t cs)(hb:Below B w w')(H:g<B):Cb w' g t cs:=(hb.block g H).trans h
theorem Cb.row {t:TypeId}(h:Cb w g t cs):Nz w g 0 cs:=λj _=>by rw[Cz];exact h.cell j
theorem Cb.Tz {t:TypeId}{B:Array Value}(h:Cb w g t B)(cs:Array Value):Cb (w.setRow g cs) g t cs:=setRow_heap w g B cs t (0,0) h
theorem Cb.Ja {g k:Nat}{t:TypeId}{B:Array Value}(h:Cb w k t B)(cs:Array Value)(H:k≠g):Cb (w.setRow g cs) k t B:=(setRow_other w g k cs H).trans h
section
variable {P:Program} {ops:Array Oper} {rest:List Oper} {a:Act} {w:World} {Q:Exit->Act->World->Prop} {dst:Option Tmp} {tQ:TypeId} {pos:String} {after:Array Edge}
theorem lI {b off:Nat}(z:Nz w b off cs)(ht:ND P ty cs.size):(loadVar ty ⟨b,off,E⟩).run P w=.ok (.agg cs) w:=by
 obtain⟨d,hu,hd,M⟩:=ht;have R:(loadCells ⟨b,off,E⟩ (G cs.toList)).run P w=.ok cs.toList.toArray w:=
  run_loadCells_list (P:=P) w ⟨b,off,E⟩ cs.toList (λj v S=>by
   rw[J0];have q:j<cs.size:=by
    have:=(Br.1 S).1;simpa using this
   rw[z j q];simpa using S)
 cases H:P.info? ty with
 | none=>simp[H]at M
 | some i =>
   have hs:i.size=cs.size:=by simpa [H]using M
   have B:(isAgg ty).run P w=.ok I w:=by
    unfold isAgg;rw[Jt,run_underlying hu w];cases d<;>simp_all [iM]
   simp only[FW,AMO]at R;simp[loadVar,Jt,B,sizeOf,typeInfo,H,hs,R]
theorem AYY (cs:List Value):∀(i:Nat) (B:Array Value),B.size=i+G cs->(cs.zipIdx i).foldl (λc p=>c.setIfInBounds p.2 p.1) B=(B.toList.take i++cs).toArray:=by
 induction cs with
 | nil=>intro i B h;simp at h;subst h;simp[Gl]
 | cons v r ih =>
   intro i B h;simp only[mb,Bw];rw[ih (i+1) _ (by simp at h ⊢;omega)];congr 1
   have H:i<G B.toList:=by simp at h ⊢;omega
   simp only[Array.toList_setIfInBounds];rw[UD (by simpa using H),List.take_set_of_le (BN _)];simp
theorem AYG {t:TypeId}: ∀(vs:List Value) (i:Nat) (w:World) (B:Array Value),Cb w g t B->i+G vs<=B.size->(∀v∈vs,v.oneCell'=I)->
 (storeCells ⟨g,0,E⟩ vs i).run P w=.ok () (w.setRow g ((vs.zipIdx i).foldl (λc p=>c.setIfInBounds p.2 p.1) B)):=by
 intro vs;induction vs with
 | nil=>intro i w B H _ _;simp[storeCells,setRow_self w g B t (0,0) H]
 | cons v r ih =>
   intro i w B H S q;have M:i<B.size:=by simp at S;omega
   have z:w.cell? ⟨g,i,E⟩=J (B[i]):=by rw[H.cell];simp[M]
   have R:(store ⟨g,i,E⟩ v .plain).run P w=.ok () (w.setRow g (B.setIfInBounds i v)):=by
    rw[run_store P _ _ v .plain (q v ZA),setCell_eq_setRow w g i B t (0,0) v H];simp[z,H.frozen]
   unfold storeCells;rw[Jt,J0,Cz,R];simp only[Oo];rw[ih (i+1) _ (B.setIfInBounds i v) (H.Tz _) (by simp at S ⊢;omega) (λu hu=>q u (by simp[hu])),setRow_setRow];simp[mb]
theorem AYH {t:TypeId}{B cs:Array Value}(hb:Cb w g t B)(hs:B.size=cs.size)(R:Xw cs)(S:ND P ty cs.size):
 (storeVar ty ⟨g,0,E⟩ (.agg cs)).run P w=.ok () (w.setRow g cs):=by
 obtain⟨d,hu,z,M⟩:=S;cases H:P.info? ty with
 | none=>simp[H]at M
 | some i =>
   have q:i.size=cs.size:=by simpa [H]using M
   have h:=AYG (P:=P) (g:=g) (t:=t) cs.toList 0 w B hb (by simp[hs]) R;rw[AYY cs.toList 0 B (by simp[hs])]at h;simp only[ET,BU,AMO]at h;simp[storeVar,Value.cells,Jt,sizeOf,typeInfo,H,q,h]
theorem Aau {x y:Operand}(g:Nat)(t:TypeId)(B cs:Array Value)(q:a.eval x=.pointer (J ⟨g,0,E⟩))(z:a.eval y=.agg cs)(hb:Cb w g t B)(hs:B.size=cs.size)(H:Xw cs)(R:ND P ty cs.size)(S:FB ⟨dst,.store ty x y,tQ,pos,after,gd⟩ (yielded ops a.tmps)=I)(h:wpList P ops Q rest (a.put dst undef) (w.setRow g cs)):wpList P ops Q (⟨dst,.store ty x y,tQ,pos,after,gd⟩::rest) a w:=
 wpList_step λ_ M=>by
  rw[Awd S];unfold Er execOp;simp only[q,z,Instr.storeAt,Instr.sureAddr,Jt,Sem.run_pure,Oo,AYH hb hs H R];exact M _ _ h
theorem ll {x y:Operand}(g:Nat)(cs:Array Value)(q:a.eval x=.pointer (J ⟨g,0,E⟩))(z:a.eval y=.agg cs)(hb : ∃t B,Cb w g t B/\B.size=cs.size)(H:Xw cs)(R:ND P ty cs.size)(S:FB ⟨dst,.store ty x y,tQ,pos,after,gd⟩ (yielded ops a.tmps)=I)(h:wpList P ops Q rest (a.put dst undef) (w.setRow g cs)):wpList P ops Q (⟨dst,.store ty x y,tQ,pos,after,gd⟩::rest) a w:=by
 obtain⟨t,B,hb,M⟩:=hb;exact Aau g t B cs q z hb M H R S h
end
def Ay (w w':World):Prop:=Below w.heap.size w w'
theorem Ay.refl (w:World):Ay w w:=Below.refl _ _
theorem Ay.size {w w':World}(h:Ay w w'):w.heap.size<=w'.heap.size:=Below.size h
theorem Ay.trans {a b c:World}(h:Ay a b)(k:Ay b c):Ay a c:=Below.trans h (Below.mono k h.size)
theorem Ay.alloc {w W:World}(h:Ay w W)(o:Obj):Ay w (W.alloc o):=Below.alloc h h.size o
theorem Ay.drew {w W:World}(h:Ay w W):Ay w W.drew:=Below.drew h
theorem Ay.setRow {w W:World}(h:Ay w W)(B:w.heap.size<=g)(cs:Array Value):Ay w (W.setRow g cs):=
 Below.trans h ⟨rfl,rfl,rfl,ZA,λk H=>setRow_other W g k cs Ux⟩
theorem Ay.blk {W B:World}(h:Ay W B){t:TypeId}(hb:Cb W g t cs):Cb B g t cs:=hb.below h hb.lt
theorem Ay.cell {W H:World}(h:Ay W H){p:Addr}{v:Value}(B:W.cell? p=J v):H.cell? p=J v:=(Below.cell h (block_lt_of_cell B)).trans B
theorem Ay.row {W M:World}(h:Ay W M){b off:Nat}(R:Nz W b off cs):Nz M b off cs:=λj H=>by
 have B:=R j H;rw[fa H]at B ⊢;exact h.cell B
theorem Ay.heap {W B:World}(h:Ay W B){k:Nat}(H:k<W.heap.size):B.heap[k]?=W.heap[k]?:=h.block k H
inductive D where
 | int (k:IntKind) (n:Int)
 | bool (b:Bool)
 | str (s:ByteArray)
 | sl (l:List D)
 | ag (l:List D)
theorem Nz.lt {b off:Nat}(h:Nz w b off cs)(hs:0<cs.size):b<w.heap.size:=by
 have:=h 0 hs;rw[fa hs]at this;exact block_lt_of_cell this
theorem Nz.AS {b off:Nat}(h:Nz w b off cs){j:Nat}{v:Value}(B:cs[j]?=J v):w.cell? ⟨b,off+j,E⟩=J v:=by
 rw[h j (DO.1 B).1,B]
theorem Nz.sub {b off:Nat}(h:Nz w b off cs)(i n:Nat)(M:i+n<=cs.size):Nz w b (off+i) (cs.extract i (i+n)):=λj H=>by
 have B:i+j<cs.size:=by simp at H;omega
 rw[Nat.add_assoc,h (i+j) B];rw[Array.getElem?_extract,Awd (by simp at H;omega)]
structure BG where
 name:ByteArray
 w:Int
 h:Int
 d:Int
 Ey:Int
 attach:Int
structure CR where
 name:ByteArray
 ext:Bool
structure Bc where
 name:ByteArray
 sizes:List ByteArray
 parts:List CR
 Dc:Int
structure Params where
 Al:Int
 Gj:Int
 FD:Int
 rule:Int
 VH:Int
 Tp:Int
 Uf:Int
 TE:Int
 Zy:Int
 Zz:Int
 Z0:Int
 Qx:Int
 Qy:Int
 Q5:Int
 Qz:Int
 script:Int
 Qr:Int
 TD:Int
 RY:Int
 RO:Int
structure AP where
 DR:List BG
 C5:List Bc
 params:Params
def An (n:Int):Bool:=decide (-1073741824<=n) && decide (n<=1073741824)
def Ea (a b:Int):Int:=if 0<=a then(2*a+b) / (2*b)else -((2*(-a)+b) / (2*b))
def quot (a b:Int):Int:=
 if 0<=a.tmod b/\b - a.tmod b<=a.tmod b then a.tdiv b+1 else if a.tmod b<0/\b+a.tmod b<= -a.tmod b then a.tdiv b - 1 else a.tdiv b
theorem AXT :quot a 100=Ea a 100:=by
 unfold quot Ea;have M:=mN a 100;rcases fq a 0 with h|h
 . have B:a.tmod 100<=0:=by have:=Sl (a:= -a) 100 Ux;rw[mO]at this;omega
   have H : -100<a.tmod 100:=by have:=ft a (b:=100) Ux;omega
   generalize a.tmod 100=r at *
   generalize a.tdiv 100=q at *
   repeat' split
   all_goals omega
 . have B:0<=a.tmod 100:=Sl 100 h;have H:a.tmod 100<100:=aG a Ux;generalize a.tmod 100=r at *
   generalize a.tdiv 100=q at *
   repeat' split
   all_goals omega
theorem AXV :quot a 2=Ea a 2:=by
 unfold quot Ea;have M:=mN a 2;rcases fq a 0 with h|h
 . have B:a.tmod 2<=0:=by have:=Sl (a:= -a) 2 Ux;rw[mO]at this;omega
   have H : -2<a.tmod 2:=by have:=ft a (b:=2) Ux;omega
   generalize a.tmod 2=r at *
   generalize a.tdiv 2=q at *
   repeat' split
   all_goals omega
 . have B:0<=a.tmod 2:=Sl 2 h;have H:a.tmod 2<2:=aG a Ux;generalize a.tmod 2=r at *
   generalize a.tdiv 2=q at *
   repeat' split
   all_goals omega
def AU (n p:Int):Int:=if An n=I/\0<=p/\p<=10000 then Ea (n*p) 100 else 0
def Bm (n:Int):Int:=if An n=I then Ea n 2 else 0
def Dx (c:UInt8):Bool:=decide (32<=c.toNat) && decide (c.toNat<=126)
def Ck (s:ByteArray):Bool:=s.data.toList.all Dx && (decide (1<=s.size) && decide (s.size<=16))
def DX (lo hi:Int)(l:List Int):Bool:=l.all λn=>decide (lo<=n) && decide (n<=hi)
def KU (name:ByteArray):List BG->Option BG
 | []=>E
 | g::r=>if g.name=name then J g else KU name r
def AP.find (f:AP)(name:ByteArray):Option BG:=KU name f.DR
def BG.zero:BG:=⟨⟨#[]⟩,0,0,0,0,0⟩
def BG.Dy (g:BG):Int:=g.h+g.d
def AP.pick (f:AP)(name:ByteArray):BG:=
 match f.find name with
 | some g=>g
 | none=>match f.find ⟨#[63]⟩with
   | some g=>g
   | none=>{ BG.zero with name:=name }
def XZ (name:ByteArray):List Bc->Option Bc
 | []=>E
 | s::r=>if s.name=name then J s else XZ name r
def AP.I8 (f:AP)(name:ByteArray):Option Bc:=XZ name f.C5
def BG.OQ (g:BG):List Int:=[g.w,g.h,g.d,g.Ey,g.attach]
def BG.scaled (g:BG)(p:Int):BG:=⟨g.name,AU g.w p,AU g.h p,AU g.d p,AU g.Ey p,AU g.attach p⟩
def Hm (g:BG)(p:Int):BG×Int:=
 if DX 1 1000 [p]=U then(BG.zero,2)else if DX (-20000) 20000 g.OQ=U then(BG.zero,1)else(g.scaled p,0)
def Params.SK (p:Params):List Int:=[p.script,p.Qr,p.TD]
def Params.lens (p:Params):List Int:=[p.Al,p.Gj,p.FD,p.rule,p.VH,p.Tp,p.Uf,p.TE,p.Zy,p.Zz,p.Z0,p.Qx,p.Qy,p.Q5,p.Qz,p.RY,p.RO]
def Qk (p:Params):Bool:=DX 1 100 p.SK && DX 0 20000 p.lens
def Sc (ht:ByteArray->Option Int):Int->List ByteArray->Bool
 | _,[]=>I
 | last,n::r=>match ht n with
   | none=>U
   | some h=>decide (last<h) && Sc ht h r
def OW (ht:ByteArray->Option Int):Int->Bool->List CR->Option (Int×Bool)
 | l,e,[]=>J (l,e)
 | l,e,p::r=>match ht p.name with
   | none=>E
   | some h=>OW ht (if h<l then h else l) (e || p.ext) r
def du (ht:ByteArray->Option Int)(s:Bc):Bool:=
 match OW ht 60000 U s.parts with
 | none=>U
 | some (l,e)=>e && DX 0 (l - 1) [s.Dc]
def Oh (ht:ByteArray->Option Int)(s:Bc):Bool:=
 (Ck s.name && (DX 1 16 [(G s.sizes:Int)] && decide (G s.parts<=8))) && (Sc ht (-60000) s.sizes && (if s.parts=[]then decide (s.Dc=0)else du ht s))
def Lo (g:BG):Bool:=Ck g.name && (DX 0 20000 [g.w] && DX (-20000) 20000 [g.h,g.d,g.Ey,g.attach])
def hasName (name:ByteArray):List BG->Bool
 | []=>U
 | g::r=>decide (g.name=name) || hasName name r
def Ul:List BG->List BG->Bool
 | _,[]=>I
 | seen,g::r=>(Lo g && !hasName g.name seen) && Ul (seen++[g]) r
def cV (name:ByteArray):List Bc->Bool
 | []=>U
 | s::r=>decide (s.name=name) || cV name r
def Xa (ht:ByteArray->Option Int):List Bc->List Bc->Bool
 | _,[]=>I
 | seen,s::r=>(Oh ht s && !cV s.name seen) && Xa ht (seen++[s]) r
def AP.ht (f:AP)(name:ByteArray):Option Int:=(f.find name).map BG.Dy
def AP.valid (f:AP):Bool:=
 (decide (G f.DR<=400) && (decide (G f.C5<=40) && Qk f.params)) && (Ul [] f.DR && Xa f.ht [] f.C5)
def mx (a b:Int):Int:=if a<b then b else a
def mn (a b:Int):Int:=if b<a then b else a
theorem DU (a b:Int):mx a b=max a b:=by unfold mx;omega
theorem AKS (m:Int)(B : -(100*m)<=a)(H:a<=100*m): -m<=Ea a 100/\Ea a 100<=m:=by
 unfold Ea;split<;>omega
theorem Qh (n p A B:Int)(h1 : -A<=n)(h2:n<=A)(S:0<=p)(q:p<=B): -(A*B)<=n*p/\n*p<=A*B:=by
 have M:0<=A:=Ux;have H:0<=B:=Ux;have e:=Int.mul_le_mul (show p<=B by omega) (Int.le_refl A) M H;rcases fq n 0 with R|R
 have z:=aF q (show 0<= -n by omega);have h6:=AMV (show -n<=A by omega) H;have h7:=RB (show 0<= -n by omega) S;rw[Int.neg_mul]at z h7;have h8:=RB M H;omega;have z:=aF q R;have h6:=AMV h2 H;have h7:=RB R S;have h8:=RB M H;omega
theorem lJ (n p:Int)(B : -20000<=n)(H:n<=20000)(R:1<=p)(M:p<=1000): -200000<=AU n p/\AU n p<=200000:=by
 unfold AU;have:=Qh n p 20000 1000 B H Ux M;split;exact AKS _ _ Ux Ux;omega
theorem AYW (g:BG)(p:Int)(h:(Hm g p).2=0):DX 1 1000 [p]=I/\DX (-20000) 20000 g.OQ=I/\Hm g p=(g.scaled p,0):=by
 unfold Hm at h ⊢;cases B:DX 1 1000 [p];rw[B]at h;simp at h;cases H:DX (-20000) 20000 g.OQ;rw[B,H]at h;simp at h;simp
theorem AKg (g:BG)(p:Int)(B:DX 1 1000 [p]=I)(H:DX (-20000) 20000 g.OQ=I) :
 (-200000<=(g.scaled p).w/\(g.scaled p).w<=200000)/\(-200000<=(g.scaled p).h/\(g.scaled p).h<=200000)/\(-200000<=(g.scaled p).d/\(g.scaled p).d<=200000)/\(-200000<=(g.scaled p).Ey/\(g.scaled p).Ey<=200000):=by
 simp[DX,BG.OQ]at B H;simp only[BG.scaled];exact⟨lJ _ _ Ux Ux Ux Ux,lJ _ _ Ux Ux Ux Ux,lJ _ _ Ux Ux Ux Ux,lJ _ _ Ux Ux Ux Ux⟩
def R4 (l:List BG)(name:ByteArray):Option Int:=(KU name l).map BG.Dy
theorem AGe (name:ByteArray):∀l:List BG,hasName name l=(KU name l).isSome
 | []=>rfl
 | g::r=>by
   simp only[hasName,KU];by_cases h:g.name=name;simp[h];simp[h,AGe name r]
theorem cA {name:ByteArray}{g:BG} : ∀ {l:List BG},KU name l=J g->g∈l
 | [],h=>by simp[KU]at h
 | x::r,h=>by
   simp only[KU]at h;split at h;simp only[BL]at h;subst h;simp;exact Gk _ (cA h)
theorem ASu (f:AP)(h : ∀g∈f.DR,Lo g=I)(x:ByteArray)(y:Int)(B:f.ht x=J y): -60000<=y/\y<=60000:=by
 simp only[AP.ht,AP.find,Ia]at B;obtain⟨g,H,rfl⟩:=B;have:=h g (cA H);simp[Lo,DX]at this;simp only[BG.Dy];omega
def BG.ds (g:BG):D:=.ag [.str g.name,.int .i64 g.w,.int .i64 g.h,.int .i64 g.d,.int .i64 g.Ey,.int .i64 g.attach]
def CR.ds (p:CR):D:=.ag [.str p.name,.bool p.ext]
def Bc.ds (s:Bc):D:=.ag [.str s.name,.sl (s.sizes.map D.str),.sl (s.parts.map CR.ds),.int .i64 s.Dc]
def Params.ints (p:Params):List Int:=[p.Al,p.Gj,p.FD,p.rule,p.VH,p.Tp,p.Uf,p.TE,p.Zy,p.Zz,p.Z0,p.Qx,p.Qy,p.Q5,p.Qz,p.script,p.Qr,p.TD,p.RY,p.RO]
def Params.ds (p:Params):D:=.ag (p.ints.map (D.int .i64))
def AP.ds (f:AP):D:=.ag [.sl (f.DR.map BG.ds),.sl (f.C5.map Bc.ds),f.params.ds]
def BG.cells (g:BG):Array Value:=#[.string g.name,.int .i64 g.w,.int .i64 g.h,.int .i64 g.d,.int .i64 g.Ey,.int .i64 g.attach]
def CR.cells (p:CR):Array Value:=#[.string p.name,.bool p.ext]
def Params.cells (p:Params):Array Value:=(p.ints.map (Value.int .i64)).toArray
theorem AZZ {a b:ByteArray}:(a.toList==b.toList)=decide (a=b):=by
 rw[uC,uC];by_cases h:a=b;subst h;simp;have : ¬a.data=b.data:=λe=>h (by cases a;cases b;simpa using e)
 simp[h,this]
theorem AZa {a b:ByteArray}(h : ¬a=b):(a.toList==b.toList)=false:=by rw[AZZ];simp[h]
def iG (n:Int):Prop:= -9223372036854775808<=n/\n<=9223372036854775807
def BG.Ok (g:BG):Prop:=g.name.size<=maxLen/\iG g.w/\iG g.h/\iG g.d/\iG g.Ey/\iG g.attach
def GL (o:Oper):List Nat:=(o.after.toList.filter (Region.binds .any)).map (·.on)
def looks (ops:Array Oper)(o:Oper):List Tmp:=o.looksAt ops
abbrev Post:=Value->World->Prop
def know (a0:Act):List (Option Tmp×Post)->Tmp->Value->World->Prop
 | [],t,v,_=>v=a0.tmps.getD t undef
 | (d,p)::r,t,v,W=>if d=J t then p v W else know a0 r t v W
class P1 (K:World->World->Prop):Prop where
 FR : ∀ {W W':World},Ay W W'->K W W'
 trans : ∀ {A B C:World},K A B->K B C->K A C
instance:P1 Ay:=⟨id,Ay.trans⟩
theorem P1.refl {K:World->World->Prop}[P1 K](W:World):K W W:=P1.FR (Ay.refl W)
def vv (P:Program)(ops:Array Oper)(Q:Exit->Act->World->Prop)(K:World->World->Prop)(a0:Act)(w0:World)(acc:List (Option Tmp×Post))(o:Oper)(p:Post):Prop:=
 ∀(a:Act) (W:World),K w0 W->(∀t∈looks ops o,know a0 acc t (a.tmps.getD t undef) W)->
  if FB o (yielded ops a.tmps)then o.wp P a W (λa' W'=>∃v,a'=a.put o.dst v/\K W W'/\p v W') Q else p undef W
def Vu (K:World->World->Prop)(p:Post):Prop:=∀v W W',K W W'->p v W->p v W'
def RG (P:Program)(ops:Array Oper)(Q:Exit->Act->World->Prop)(K:World->World->Prop)(a0:Act)(w0:World):List Oper->List (Option Tmp×Post)->(List (Option Tmp×Post)->Prop)->Prop
 | [],acc,fin=>fin acc
 | o::r,acc,fin=>∃p:Post,Vu K p/\vv P ops Q K a0 w0 acc o p/\RG P ops Q K a0 w0 r ((o.dst,p)::acc) fin
def MR (K:Act->World->Prop):List (Option Tmp×Post)->Act->World->Prop
 | [],a,W=>K a W
 | (d,p)::r,a,W=>∀v,p v W->MR K r (a.put d v) W
def sZ (l:List Oper)(m n i:Nat):Bool:=
 match l[i]? with
 | none=>U
 | some o=>(GL o).all (λj=>decide (j<i)) && (E6 n).all λk=>decide (k<m) ||
    match (l[k]?).bind (·.dst)with
    | none=>I
    | some t=>(k==i || o.dst !=J t) && (k==i || !(looks l.toArray o).contains t || (decide (k<i) && (GL o).contains k) || (decide (i<k) && ((l[k]?).map (λq=>(GL q).contains i)).getD U))
def Oa (l:List Oper)(m n:Nat):Bool:=
 decide (m<=n) && decide (n<=G l) && (E6 n).all (λi=>decide (i<m) || sZ l m n i) && (E6 (G l - n)).all λk=>((l[n+k]?).map λo=>(E6 n).all (λi=>decide (i<m) || ((GL o).contains i || (GL o).any λj=>decide (m<=j) && ((l[j]?).map λq=>(GL q).contains i).getD U))).getD U
def lN (l:List Oper)(m n:Nat):Bool:=
 decide (n<=G l) && (E6 n).all λk=>decide (k<m) || ((l[k]?).map (λo=>(GL o).all (λj=>decide (j<k)))).getD U && (E6 (G l)).all λj=>decide (j<=k) || ((l[j]?).map (λo=>(GL o).contains k)).getD U
def Si (P:Program)(l:List Oper)(Q:Exit->Act->World->Prop)(m:Nat)(a:Act)(W:World):Prop:=
 ∀(fuel:Nat) (listed:Array Bool),G l - m<=fuel->listed.size=G l->(∀i,i<m->listed.getD i U=I)->(∀i,m<=i->listed.getD i U=U)->wpAny P .any l.toArray Q fuel listed a W
def bq:Option Tmp×Post:=(E,λ_ _=>True)
theorem AT1 (a0:Act)(m:Nat)(B:List (Option Tmp×Post))(t:Tmp)(v:Value)(W:World):know a0 (B++Aq m bq) t v W↔know a0 B t v W:=by
 induction B with
 | nil =>
   induction m with
   | zero=>rfl
   | succ m ih=>simp only[BU,BY]at ih ⊢;unfold bq at ih ⊢;simp only[know]at ih ⊢;simpa using ih
 | cons x r ih=>obtain⟨d,p⟩:=x;simp only[BK,know,ih]
section
variable {P:Program} {Q:Exit->Act->World->Prop} {K:World->World->Prop} {a0:Act} {w0:World} {l:List Oper} {m n:Nat}
theorem dZ {j:Nat}:j∈GL o↔∃e∈o.after,Region.binds .any e=I/\e.on=j:=by
 simp[GL,and_assoc]
theorem RG.AWt {S:List (Option Tmp×Post)->Prop}: ∀(r:List Oper) (B:List (Option Tmp×Post)),RG P ops Q K a0 w0 r B S->
 ∃R:List (Option Tmp×Post),G R=G r/\(∀i o q,r[i]?=J o->R[i]?=J q->q.1=o.dst/\Vu K q.2/\vv P ops Q K a0 w0 ((R.take i).reverse++B) o q.2)/\S (R.reverse++B):=by
 intro r;induction r with
 | nil=>intro B h;simp only[RG]at h;exact⟨[],F,λi o q h=>by simp at h,by simpa using h⟩
 | cons o r ih =>
   intro B h;obtain⟨p,hs,hp,hr⟩:=h;obtain⟨R,hl,z,hf⟩:=ih _ hr;refine⟨(o.dst,p)::R,by simp[hl],λi o' q H M=>?_,by simpa using hf⟩;match i,H,M with
   | 0,H,M=>simp only[LX,BL]at H M;subst H M;exact⟨F,hs,by simpa using hp⟩
   | i+1,H,M=>simp only[JU]at H M;simpa using z i o' q H M
theorem AT0 (t:Tmp)(v:Value)(W:World)(B:List (Option Tmp×Post)):∀i,i<=G B->
 (∀j q,j<i->B[j]?=J q->q.1=J t->(∀k M,j<k->k<i->B[k]?=J M->M.1≠J t)->q.2 v W)->
 ((∀j q,j<i->B[j]?=J q->q.1≠J t)->v=a0.tmps.getD t undef)->know a0 ((B.take i).reverse) t v W:=by
 intro i;induction i with
 | zero=>intro _ _ h;simpa [know]using h (λj q hj=>by omega)
 | succ i ih =>
   intro hi h1 h2;have Uy:i<G B:=Ux;have S:B[i]?=J B[i]:=BE Uy;rw[UD Uy,AMp];simp only[List.reverse_cons,List.reverse_nil,BU,List.singleton_append];generalize B[i]=q at S ⊢;obtain⟨d,p⟩:=q;simp only[know];split;rename_i R;exact h1 i (d,p) Ux S R (λk M hk Hh=>by omega);rename_i R;refine ih Ux (λj q hj H Pv jx=>h1 j q Ux H Pv λk M hk Hh z=>?_) (λA0=>h2 λj q hj H=>?_);by_cases jw:k=i;subst jw;rw[S]at z;cases z;exact R;exact jx k M hk Ux z;by_cases TS:j=i;subst TS;rw[S]at H;cases H;exact R;exact A0 j q Ux H
structure ADm (K:World->World->Prop)(l:List Oper)(m n:Nat)(a0:Act)(w0:World)(qs:List (Option Tmp×Post))(listed:Array Bool)(a:Act)(W:World):Prop where
 size:listed.size=G l
 keep:K w0 W
 closed : ∀(i:Nat) (o:Oper),l[i]?=J o->m<=i->listed.getD i U=I->∀j∈GL o,listed.getD j U=I
 pre : ∀i,i<m->listed.getD i U=I
 tail : ∀i,n<=i->listed.getD i U=U
 defers:a.defers=a0.defers
 lW:a.tmps.size=a0.tmps.size
 old : ∀t,(∀(i:Nat) (o:Oper),l[i]?=J o->m<=i->i<n->listed.getD i U=I->o.dst≠J t)->a.tmps.getD t undef=a0.tmps.getD t undef
 post : ∀(i:Nat) (o:Oper) (q:Option Tmp×Post),l[i]?=J o->qs[i]?=J q->m<=i->i<n->listed.getD i U=I->
  ∃v,q.2 v W/\∀t,o.dst=J t->a.tmps.getD t undef=v
theorem YP (a:Act)(d t:Tmp)(v:Value):(a.put (J d) v).tmps.getD t undef=if d=t then(if t<a.tmps.size then v else undef)else a.tmps.getD t undef:=by
 simp only[Act.put,Kl,Array.getElem?_setIfInBounds];by_cases h:d=t;subst h;by_cases B:d<a.tmps.size;simp[B];simp[B];simp[h]
theorem SM (a:Act)(d:Option Tmp)(v:Value):(a.put d v).defers=a.defers:=by cases d<;>rfl
theorem ABO (a:Act)(d:Option Tmp)(v:Value):(a.put d v).tmps.size=a.tmps.size:=by cases d<;>simp[Act.put]
theorem AKQ (B:Oa l m n=I)(i:Nat)(M:m<=i)(H:i<n):sZ l m n i=true:=by
 unfold Oa at B;simp only[Ak,ES,KP,T9,Awe]at B;exact(B.1.2 i H).resolve_left Ux
theorem ABY (B:Oa l m n=I):n<=G l:=by
 unfold Oa at B;simp only[Ak,Awe]at B;exact B.1.1.2
theorem AKR (B:Oa l m n=I):m<=n:=by
 unfold Oa at B;simp only[Ak,Awe]at B;exact B.1.1.1
theorem AXq (B:Oa l m n=I)(k:Nat)(z:n<=k)(o:Oper)(M:l[k]?=J o)(i:Nat)(hm:m<=i)(R:i<n):i∈GL o\/∃j∈GL o,m<=j/\∃q,l[j]?=J q/\i∈GL q:=by
 unfold Oa at B;simp only[Ak,ES,KP]at B;have hl:k<G l:=(Br.1 M).1;have:=B.2 (k - n) Ux;rw[show n+(k - n)=k by omega,M]at this;simp only[Nu,Dm,ES,KP,T9,Awe]at this;rcases (this i R).resolve_left (by omega)with h|h
 exact .inl (by simpa using h);right;obtain⟨j,S,h⟩:=List.any_eq_true.1 h;simp only[Ak,Awe]at h;cases H:l[j]? with
 | none=>rw[H]at h;simp at h
 | some q=>rw[H]at h;exact⟨j,S,h.1,q,H,by simpa using h.2⟩
theorem AXp (B:Oa l m n=I)(i:Nat)(R:m<=i)(H:i<n)(o:Oper)(S:l[i]?=J o)(j:Nat)(M:j∈GL o):j<i:=by
 have:=AKQ B i R H;unfold sZ at this;rw[S]at this;simp only[Ak,ES,Awe]at this;exact this.1 j M
theorem sa (R:Oa l m n=I)(i k:Nat)(M:m<=i)(q:i<n)(Bh:m<=k)(z:k<n)(B:k≠i)(o o':Oper)(ho:l[i]?=J o)(H:l[k]?=J o')(t:Tmp)(S:o'.dst=J t) :
 o.dst≠J t/\(t∈looks l.toArray o->(k<i/\k∈GL o)\/(i<k/\i∈GL o')):=by
 have:=AKQ R i M q;unfold sZ at this;rw[ho]at this;simp only[Ak,ES,KP]at this;have:=this.2 k z;rw[H]at this;simp only[Option.bind_some,S,Ak,T9,beq_iff_eq,Awe,List.contains_iff_mem,Nu,Dm]at this;have:=this.resolve_left Ux;refine⟨λe=>?_,λht=>?_⟩;have h:=this.1.resolve_left B;simp[e]at h;rcases this.2 with ((h|h)|h)|h
 exact absurd h B;simp[ht]at h;exact .inl h;exact .inr h
theorem Rb (B:Array Bool)(i j:Nat)(H:i<B.size):(B.setIfInBounds i I).getD j U=if i=j then I else B.getD j false:=by
 by_cases h:i=j;subst h;simp[H];simp[h,Array.getElem?_setIfInBounds_ne h]
theorem WS (B:Array Bool)(j:Nat)(H:j<B.size):B.getD j I=B.getD j false:=by
 simp[fa H]
theorem AYd (B:lN l m n=I):n<=G l/\∀k,m<=k->k<n->∀o,l[k]?=J o->(∀j∈GL o,j<k)/\∀j o',k<j->l[j]?=J o'->k∈GL o':=by
 unfold lN at B;simp only[Ak,ES,KP,T9,Awe]at B;refine⟨B.1,λk z R o S=>?_⟩;have h:=(B.2 k R).resolve_left Ux;rw[S]at h;simp only[Nu,Dm,ES,Awe]at h;refine⟨h.1,λj o' q H=>?_⟩;have M:=(h.2 j (Br.1 H).1).resolve_left Ux;rw[H]at M;simpa using M
theorem Aaw (h:Q .normal a0 w0):Si P l Q (G l) a0 w0:=by
 intro H B _ A0 z h2;have S:mr .any l.toArray B=[]:=by
  rw[List.eq_nil_iff_forall_not_mem];intro j M;rw[mem_ready]at M;obtain⟨q,o,ho,_⟩:=M;have R:j<G l:=(Br.1 (show l[j]?=J o by simpa using ho)).1;rw[WS _ _ Ux,z j R]at q;cases q
 cases H with
 | zero=>exact⟨S,h⟩
 | succ H=>exact⟨λ_=>h,λj M=>by rw[S]at M;cases M⟩
theorem ACY {ops:Array Oper} : ∀ {r:List Oper} {a:Act} {W:World},wpList P ops Q r a W->wpList P ops (Exit.then (Si P l Q (G l)) Q) r a W
 | [],a,W,h=>Aaw h
 | o::r,a,W,h=>by
   simp only[wpList]at h ⊢;split;rename_i H;rw[Awd H]at h;refine h.imp (λh=>?_) (λh=>⟨h.1,h.2⟩);have B:=mo (λa w=>ACY (r:=r)) h;unfold Er at B ⊢;generalize (execOp a.eval o).run P W=x at B ⊢;cases x with
   | ok x M=>cases x<;>exact B
   | halt x M=>cases x<;>exact B
   rename_i H;rw[Awf H]at h;exact ACY h
theorem Aay (hc:lN l m n=I)(jy:m<=n):∀(d k:Nat) (a:Act) (W:World),k+d=n->m<=k->wpList P l.toArray (Exit.then (Si P l Q n) Q) ((l.drop k).take d) a W->Si P l Q k a W:=by
 obtain⟨hn,hs⟩:=AYd hc;intro d;induction d with
 | zero=>intro k a W hk hm h;obtain rfl:k=n:=Ux;simpa [wpList,Exit.then]using h
 | succ d ih =>
   intro k a W hk hm h fuel B hf A0 h1 h2;have H:k<G l:=Ux;obtain⟨s1,s2⟩:=hs k hm Ux l[k] (BE H);have S : ∀j,j∈mr .any l.toArray B↔j=k:=by
    intro j;rw[mem_ready];constructor;rintro ⟨h0,o,ho,R⟩;have Hz:l[j]?=J o:=by simpa using ho
    have Hx:j<G l:=(Br.1 Hz).1;rw[WS _ _ Ux]at h0;rcases aN j k with Dn|rfl|zL
    rw[h1 j Dn]at h0;cases h0;rfl;have he:=s2 j o zL Hz;rw[dZ]at he;obtain⟨e,Mg,TO,jk⟩:=he;have:=R e Mg TO;rw[jk,h2 k (BN _)]at this;cases this;rintro rfl;refine⟨by rw[WS _ _ Ux];exact h2 j (BN _),l[j],by simp[H],λe he hb=>?_⟩;exact h1 _ (s1 e.on (dZ.2 ⟨e,he,hb,rfl⟩))
   match fuel,hf with
   | 0,hf=>omega
   | fuel+1,hf =>
     refine⟨λTX=>?_,λj hj=>?_⟩;have:=(S k).2 F;rw[TX]at this;cases this
     . obtain rfl:=(S j).1 hj;have next : ∀z q,wpList P l.toArray (Exit.then (Si P l Q n) Q) ((l.drop (j+1)).take d) z q->wpAny P .any l.toArray Q fuel (B.setIfInBounds j I) z q:=λz q M =>
        ih (j+1) z q Ux Ux M _ _ Ux (by simpa using A0) (λi hi=>by rw[Rb _ _ _ Ux];split;rfl;exact h1 i Ux) (λi hi=>by rw[Rb _ _ _ Ux,Awf Ux];exact h2 i Ux)
       have ho:l.toArray[j]?=J l[j]:=by simp[H]
       rw[D5 H,DP]at h;unfold wpOp;simp only[ho];simp only[wpList]at h;split
       . rename_i hw;rw[Awd hw]at h;refine h.imp (λh=>?_) (λh=>⟨h.1,h.2⟩);have M:=mo next h;unfold Er at M ⊢;generalize (execOp a.eval l[j]).run P W=r at M ⊢;cases r with
         | ok x w'=>cases x<;>exact M
         | halt x w'=>cases x<;>exact M
       . rename_i hw;rw[Awf hw]at h;exact next _ _ h
theorem MR.of {K:Act->World->Prop} : ∀(r:List (Option Tmp×Post)) (a:Act) (W:World),MR K r a W->∀vs:List Value,G vs=G r->(∀(i:Nat) (q:Option Tmp×Post) (v:Value),r[i]?=J q->vs[i]?=J v->q.2 v W)->
 K ((r.zip vs).foldl (λb x=>b.put x.1.1 x.2) a) W:=by
 intro r;induction r with
 | nil=>intro a W h vs _ _;simpa [MR]using h
 | cons q r ih =>
   intro a W h vs B H;match vs,B with
   | v::vs,B=>obtain⟨d,p⟩:=q;simp only[MR]at h;have:=ih _ W (h v (H 0 (d,p) v rfl F)) vs (by simpa using B) (λi S z M R=>H (i+1) S z (by simpa using M) (by simpa using R));simpa using this
theorem APc (t:Tmp):∀(r:List (Option Tmp×Post)) (vs:List Value) (a:Act),G vs=G r->
 (∀(i k:Nat) (q M:Option Tmp×Post),i≠k->r[i]?=J q->r[k]?=J M->q.1=J t->M.1≠J t)->
 let b:=(r.zip vs).foldl (λb x=>b.put x.1.1 x.2) a
 b.defers=a.defers/\b.tmps.size=a.tmps.size/\
 (∀(i:Nat) (q:Option Tmp×Post) (v:Value),r[i]?=J q->vs[i]?=J v->q.1=J t->b.tmps.getD t undef=if t<a.tmps.size then v else undef)/\
 ((∀(i:Nat) (q:Option Tmp×Post),r[i]?=J q->q.1≠J t)->b.tmps.getD t undef=a.tmps.getD t undef):=by
 intro r;induction r with
 | nil=>intro vs a _ _;exact⟨ZA,ZA,λi q v h=>by simp at h,λ_=>by simp⟩
 | cons q r ih =>
   intro vs a z hd;match vs,z with
   | v::vs,z =>
     obtain⟨k1,k2,k3,k4⟩:=ih vs (a.put q.1 v) (by simpa using z) (λi k q1 q2 A1 B H=>hd (i+1) (k+1) q1 q2 Ux (by simpa using B) (by simpa using H));simp only[List.zip_cons_cons,Bw];rw[SM]at k1;rw[ABO]at k2 k3;refine⟨k1,k2,λi M v' B H S=>?_,λR=>?_⟩;match i,B,H with
     | 0,B,H=>simp only[LX,BL]at B H;subst B H;rw[k4 (λi A0 h=>hd 0 (i+1) q A0 Ux rfl (by simpa using h) S),S,YP,Awd rfl]
     | i+1,B,H=>exact k3 i M v' (by simpa using B) (by simpa using H) S
     rw[k4 (λi M h=>R (i+1) M (by simpa using h))];have:=R 0 q F;cases hq:q.1 with
     | none=>rfl
     | some d=>rw[YP,Awf];intro e;exact this (by rw[hq,e])
theorem ANE {a b:Act}(B:a.defers=b.defers)(H:a.tmps.size=b.tmps.size)(M : ∀t,a.tmps.getD t undef=b.tmps.getD t undef):a=b:=by
 obtain⟨ta,q⟩:=a;obtain⟨tb,z⟩:=b;simp only at B H M;subst B;congr 1
 apply Array.ext H;intro i R S;have:=M i;simpa [fa R,fa S]using this
theorem AE2 {p p':Nat->Bool} : ∀(r:List Nat),(∀j∈r,p' j=I->p j=I)->∀i∈r,p i=I->p' i=U->r.countP p'<r.countP p:=by
 intro r;induction r with
 | nil=>intro _ i B;cases B
 | cons x r ih =>
   intro R i B q S;have z:r.countP p'<=r.countP p:=List.countP_mono_left (λj M=>R j (by simp[M]));rw[ACq,ACq];rcases Cf.1 B with rfl|B
   simp[q,S];omega;have:=ih (λj M=>R j (by simp[M])) i B q S;have hx:=R x ZA;by_cases H:p' x=I;simp[H,hx H];omega;simp[H];omega
theorem ANP [P1 K](hc:Oa l m n=true)(hz : ∀(i:Nat) (o:Oper),l[i]?=J o->i<n->∀d,o.dst=J d->d<a0.tmps.size)(M:List (Option Tmp×Post))(hq:G M=n)(qY : ∀(i:Nat) (q:Option Tmp×Post),i<m->M[i]?=J q->q=bq)(R : ∀(i:Nat) (o:Oper) (q:Option Tmp×Post),m<=i->(l.take n)[i]?=J o->M[i]?=J q->q.1=o.dst/\Vu K q.2/\vv P l.toArray Q K a0 w0 ((M.take i).reverse) o q.2)(cb : ∀W,K w0 W->MR (Si P l Q n) M a0 W) :
 ∀(H:Nat) (B:Array Bool) (a:Act) (W:World),(E6 (G l)).countP (λi=> !B.getD i U)<=H->ADm K l m n a0 w0 M B a W->wpAny P .any l.toArray Q H B a W:=by
 have jy:=AKR hc;have hn:=ABY hc;have Bg : ∀(H:Nat) (B:Array Bool) (a:Act) (W:World),G l - n<=H->ADm K l m n a0 w0 M B a W->(∀i,i<n->B.getD i U=true)->wpAny P .any l.toArray Q H B a W:=by
  intro H B a W hf I jm;suffices B7:Si P l Q n a W from B7 H B hf I.size jm I.tail
  have Ml : ∃vs:List Value,G vs=G M/\(∀(i:Nat) (q:Option Tmp×Post) (v:Value),M[i]?=J q->vs[i]?=J v->q.2 v W)/\∀(i:Nat) (q:Option Tmp×Post) (v:Value) (t:Tmp),M[i]?=J q->vs[i]?=J v->q.1=J t->a.tmps.getD t undef=v/\t<a.tmps.size:=by
   have z : ∀i:Fin n,∃v:Value,∀q,M[i.1]?=J q->q.2 v W/\∀t,q.1=J t->a.tmps.getD t undef=v/\t<a.tmps.size:=by
    intro i;have OF:i.1<G l:=Ux;have Uy:i.1<G M:=Ux;by_cases Iv:i.1<m;refine⟨undef,λq DT=>?_⟩;have:=qY i.1 q Iv DT;subst this;exact⟨trivial,λt ht=>by cases ht⟩;obtain⟨v,h1,h2⟩:=I.post i.1 l[i.1] M[i.1] (BE OF) (BE Uy) Ux i.2 (jm i.1 i.2);refine⟨v,λq DT=>?_⟩;rw[BE Uy,BL]at DT;subst DT;refine⟨h1,λt ht=>?_⟩;suffices hd:l[i.1].dst=J t from⟨h2 t hd,by rw[I.lW];exact hz i.1 _ (BE OF) i.2 t hd⟩
    rw[<-(R i.1 l[i.1] M[i.1] Ux (by rw[Sm i.2];exact BE OF) (BE Uy)).1,ht]
   obtain⟨f,jl⟩:=Classical.axiomOfChoice z;refine⟨List.ofFn f,by simp[hq],λi q v h1 h2=>?_,λi q v t h1 h2 h3=>?_⟩;all_goals
    have Ca:i<n:=by have:=(Br.1 h1).1;omega
    have e:v=f ⟨i,Ca⟩:=by simpa [List.getElem?_ofFn,Ca]using h2.symm
    subst e;have:=jl ⟨i,Ca⟩ q h1
   exact this.1;exact this.2 t h3
  obtain⟨vs,A2,hp,hg⟩:=Ml;have hk:=MR.of M a0 W (cb W I.keep) vs A2 hp;have A8 : ∀(t:Tmp) (i k:Nat) (q q':Option Tmp×Post),i≠k->M[i]?=J q->M[k]?=J q'->q.1=J t->q'.1≠J t:=by
   intro t i k q q' A5 h1 h2 h3 h4;have Ca:i<n:=by have:=(Br.1 h1).1;omega
   have Ej:k<n:=by have:=(Br.1 h2).1;omega
   have Iv:m<=i:=by
    rcases MK i m with h|h
    have:=qY i q h h1;subst this;cases h3;exact h
   have Bh:m<=k:=by
    rcases MK k m with h|h
    have:=qY k q' h h2;subst this;cases h4;exact h
   have oi:=BE (l:=l) (i:=i) Ux;have ok:=BE (l:=l) (i:=k) Ux;have e1:=(R i _ q Iv (by rw[Sm Ca];exact oi) h1).1;have e2:=(R k _ q' Bh (by rw[Sm Ej];exact ok) h2).1;exact(sa hc k i Bh Ej Iv Ca A5 _ _ ok oi t (by rw[<-e1,h3])).1 (by rw[<-e2,h4])
  have e:a=(M.zip vs).foldl (λb x=>b.put x.1.1 x.2) a0:=by
   have A1:=λt=>APc t M vs a0 A2 (A8 t)
   refine ANE (by rw[I.defers,(A1 0).1]) (by rw[I.lW,(A1 0).2.1]) λt=>?_
   by_cases z : ∃(i:Nat) (q:Option Tmp×Post),M[i]?=J q/\q.1=J t;obtain⟨i,q,h1,h2⟩:=z;have js:i<G vs:=by have:=(Br.1 h1).1;omega
   have we:=hg i q vs[i] t h1 (BE js) h2;rw[we.1,(A1 t).2.2.1 i q vs[i] h1 (BE js) h2,<-I.lW,Awd we.2];rw[(A1 t).2.2.2 (λi q h1 h2=>z ⟨i,q,h1,h2⟩)];refine I.old t λi o ho Iv Ca _ hd=>z ?_
   have Uy:i<G M:=Ux;refine⟨i,M[i],BE Uy,?_⟩;rw[(R i o M[i] Iv (by rw[Sm Ca];exact ho) (BE Uy)).1,hd]
  rw[e];exact hk
 have A7 : ∀(B:Array Bool) (i:Nat),i<G l->B.size=G l->B.getD i U=U->
  (E6 (G l)).countP (λj=> !(B.setIfInBounds i true).getD j U)<(E6 (G l)).countP (λj=> !B.getD j U):=by
  intro B i S D7 B0;refine AE2 (p:=λj=> !B.getD j U) (p':=λj=> !(B.setIfInBounds i true).getD j U) _ (λj _ h=>?_) i (KP.2 S) (by simp only[B0];rfl) ?_;simp only[Rb _ _ _ (show i<B.size by omega)]at h;split at h;cases h;exact h;simp only[Rb _ _ _ (show i<B.size by omega),Awg,Bool.not_true]
 have left : ∀(B:Array Bool),(∀i,n<=i->B.getD i U=U)->G l - n<=(E6 (G l)).countP (λj=> !B.getD j U):=by
  intro B ht;have e:E6 (G l)=E6 n++fY n (G l - n):=by
   have:=ACc (s:=0) (m:=n) (n:=G l - n);rw[Cz,show n+(G l - n)=G l by omega]at this;rw[tq,tq,this]
  have h2:(fY n (G l - n)).countP (λj=> !B.getD j U)=G l - n:=by
   rw[List.countP_eq_length.2];simp;intro j hj;have:n<=j:=by rw[List.mem_range'_1]at hj;exact hj.1
   simp[ht j this]
  rw[e,ACp,h2];omega
 intro H;induction H with
 | zero =>
   intro B a W hf I;have h:=left B I.tail;refine Bg 0 B a W Ux I λi S=>?_
   have hz:(E6 (G l)).countP (λj=> !B.getD j U)=0:=Ux;rw[fx]at hz;have:=hz i (KP.2 Ux);simpa using this
 | succ H ih =>
   intro B a W hf I;by_cases jm : ∀i,i<n->B.getD i U=true;exact Bg _ B a W (by have:=left B I.tail;omega) I jm
   .
     have z : ∃i,i<n/\B.getD i U=U/\∀j,j<i->B.getD j U=true:=by
      have A9 : ∃i,i<n/\B.getD i U=false:=by
       refine Kn λA0=>jm λi S=>?_
       cases hb:B.getD i U;exact absurd ⟨i,S,hb⟩ A0;rfl
      obtain⟨i,S,hb⟩:=A9;induction i using Nat.strongRecOn with
      | ind i mv =>
        by_cases cU : ∀j,j<i->B.getD j U=true;exact⟨i,S,hb,cU⟩;have : ∃j,j<i/\B.getD j U=false:=by
         refine Kn λA0=>cU λj hj=>?_
         cases CT:B.getD j U;exact absurd ⟨j,hj,CT⟩ A0;rfl
        obtain⟨j,hj,CT⟩:=this;exact mv j hj Ux CT
     refine⟨λTX=>?_,λj hj=>?_⟩;exfalso;obtain⟨i,S,hb,B2⟩:=z;have OF:i<G l:=Ux;have:i∈mr .any l.toArray B:=by
      rw[mem_ready];refine⟨by rw[WS _ _ (by rw[I.size];exact OF)];exact hb,l[i],by simp[OF],λe he Iq=>?_⟩;exact B2 _ (AXp hc i (by rcases MK i m with h|h;(rw[I.pre i h]at hb;cases hb);exact h) S l[i] (BE OF) e.on (dZ.2 ⟨e,he,Iq,rfl⟩))
     rw[TX]at this;cases this
     . rw[mem_ready]at hj;obtain⟨h0,o,ho,cU⟩:=hj;have TY:l[j]?=J o:=by simpa using ho
       have Hx:j<G l:=(Br.1 TY).1;rw[WS _ _ (by rw[I.size];exact Hx)]at h0;have qZ : ∀k∈GL o,B.getD k U=true:=λk hk=>by
        obtain⟨e,he,hb,rfl⟩:=dZ.1 hk;exact cU e he hb
       have GN:j<n:=by
        rcases MK j n with h|h
        exact h;exfalso;obtain⟨i,S,hb,_⟩:=z;rcases AXq hc j h o TY i (by rcases MK i m with h|h;(rw[I.pre i h]at hb;cases hb);exact h) S with he|⟨k,hk,Bh,q,hq,he⟩
        have:=qZ i he;rw[hb]at this;cases this;have:=I.closed k q hq Bh (qZ k hk) i he;rw[hb]at this;cases this
       have Uz:m<=j:=by
        rcases MK j m with h|h
        rw[I.pre j h]at h0;cases h0;exact h
       have D0:j<G M:=Ux;have QU:M[j]?=J M[j]:=BE D0;generalize Iy:M[j]=q at QU;obtain⟨hd,D2,B3⟩:=R j o q Uz (by rw[Sm GN];exact TY) QU;have B1 : ∀t∈looks l.toArray o,know a0 ((M.take j).reverse) t (a.tmps.getD t undef) W:=by
        intro t ht;refine AT0 t _ W M j Ux (λk q' hk OH ji _=>?_) (λA0=>?_);have Bh:m<=k:=by
         rcases MK k m with h|h
         have:=qY k q' h OH;subst this;cases ji;exact h
        have Ce:k<G l:=Ux;have tk:l[k]?=J l[k]:=BE Ce;have ek:=(R k l[k] q' Bh (by rw[Sm Ux];exact tk) OH).1;have A6:l[k].dst=J t:=by rw[<-ek,ji]
        rcases (sa hc j k Uz GN Bh Ux Ux o l[k] TY tk t A6).2 ht with h|h
        obtain⟨v,hv,hg⟩:=I.post k l[k] q' tk OH Bh Ux (qZ k h.2);rw[hg t A6];exact hv;omega;refine I.old t λk o' hk Bh Ej zS ji=>?_
        have OH:M[k]?=J M[k]:=BE Ux;have ek:=(R k o' M[k] Bh (by rw[Sm Ej];exact hk) OH).1;rcases aN k j with D1|rfl|zL
        exact A0 k M[k] D1 OH (by rw[ek,ji]);rw[h0]at zS;cases zS;rcases (sa hc j k Uz GN Bh Ej Ux o o' TY hk t ji).2 ht with h|h
        omega;have:=I.closed k o' hk Bh zS j h.2;rw[h0]at this;cases this
       have hp:=B3 a W I.keep B1;have next : ∀v W',K W W'->q.2 v W'->wpAny P .any l.toArray Q H (B.setIfInBounds j true) (a.put o.dst v) W':=by
        intro v W' hk hv;have Wh:j<B.size:=by rw[I.size];exact Hx
        refine ih _ _ W' (by have:=A7 B j Hx I.size h0;omega) ⟨by simpa using I.size,P1.trans I.keep hk,?_,?_,?_,by rw[SM,I.defers],by rw[ABO,I.lW],?_,?_⟩;intro i o' S Iv hl k Hh;rw[Rb _ _ _ Wh]at hl ⊢;split;rfl;split at hl;rename_i e;subst e;rw[TY]at S;cases S;exact qZ k Hh;exact I.closed i o' S Iv hl k Hh;intro i S;rw[Rb _ _ _ Wh];split;rfl;exact I.pre i S;intro i S;rw[Rb _ _ _ Wh,Awf Ux];exact I.tail i S;intro t A0;have B8:o.dst≠J t:=A0 j o TY Uz GN (by rw[Rb _ _ _ Wh,Awd rfl]);have A3:=I.old t λi o' S Iv Ca hl=>A0 i o' S Iv Ca (by rw[Rb _ _ _ Wh];split;rfl;exact hl)
        cases Rs:o.dst with
        | none=>exact A3
        | some d=>rw[YP,Awf (λe=>B8 (by rw[Rs,e]))];exact A3
        intro i o' q' S QT Iv Ca hl;by_cases Is:j=i;subst Is;rw[TY]at S;cases S;rw[QU]at QT;cases QT;refine⟨v,hv,λt ht=>?_⟩;rw[ht,YP,Awd F,Awd (by rw[I.lW];exact hz j o TY GN t ht)];rw[Rb _ _ _ Wh,Awf Is]at hl;obtain⟨u,hu,hg⟩:=I.post i o' q' S QT Iv Ca hl;have VB:=(R i o' q' Iv (by rw[Sm Ca];exact S) QT).2.1;refine⟨u,VB u W W' hk hu,λt ht=>?_⟩;have A5:=(sa hc j i Uz GN Iv Ca (λe=>Is e.symm) o o' TY S t ht).1;cases Rs:o.dst with
        | none=>exact hg t ht
        | some d=>rw[YP,Awf (λe=>A5 (by rw[Rs,e]))];exact hg t ht
       have Hz:l.toArray[j]?=J o:=ho;unfold wpOp;simp only[Hz];split
       . rename_i hw;rw[Awd hw]at hp;refine .inl (mo (λa' W' h'=>?_) hp);obtain⟨v,rfl,hk,hv⟩:=h';exact next v W' hk hv
       . rename_i hw;rw[Awf hw]at hp;exact next undef W (P1.refl _) hp
theorem r5 (m i:Nat):(Array.replicate m U).getD i U=false:=by
 by_cases h:i<m<;>simp[h]
theorem AFb {B:Act->World->Prop}{r:List (Option Tmp×Post)}{a:Act}{W:World}(h:MR B r a W):∀m,MR B (Aq m bq++r) a W
 | 0=>by simpa using h
 | m+1=>by
   rw[BY,BK];exact λ_ _=>AFb h m
theorem Aax [P1 K](hc:Oa l m n=I)(hz:((l.take n).all λo=>match o.dst with|some d=>decide (d<a0.tmps.size)|none=>I)=I)(h:RG P l.toArray Q K a0 w0 ((l.take n).drop m) [] λA1=>∀W,K w0 W->MR (Si P l Q n) A1.reverse a0 W):Si P l Q m a0 w0:=by
 intro z B hf A2 h1 h2;obtain⟨qs,hl,H,Ff⟩:=RG.AWt _ _ h;have hn:=ABY hc;have jy:=AKR hc;have hq:G qs=n - m:=by rw[hl];simp;omega
 simp only[E5,List.reverse_reverse]at H Ff;have A0:(E6 (G l)).countP (λi=> !B.getD i U)<=G l - m:=by
  have e:E6 (G l)=E6 m++fY m (G l - m):=by
   have:=ACc (s:=0) (m:=m) (n:=G l - m);rw[Cz,show m+(G l - m)=G l by omega]at this;rw[tq,tq,this]
  have e0:(E6 m).countP (λj=> !B.getD j U)=0:=by
   rw[fx];intro j hj;simp[h1 j (KP.1 hj)]
  have e1:=List.countP_le_length (p:=λi=> !B.getD i U) (l:=fY m (G l - m));rw[e,ACp,e0];simpa using e1
 refine ANP (w0:=w0) hc (λi o ho hi d hd=>?_) (Aq m bq++qs) (by simp[hq];omega) (λi q hi M=>?_) (λi o q R ho M=>?_) (λW hW=>AFb (Ff W hW) m) z B a0 w0 (Ps A0 hf) ?_;rw[ES]at hz;have:=hz o (Cj (i:=i) (by rw[Sm hi];exact ho));rw[hd]at this;simpa using this;rw[EJ (by simpa using hi)]at M;simp[hi]at M;exact M.symm;rw[Gy (by simpa using R)]at M;simp only[H6]at M;obtain⟨k1,k2,k3⟩:=H (i - m) o q (by rw[List.getElem?_drop,show m+(i - m)=i by omega];exact ho) M;refine⟨k1,k2,λa W hk hf=>k3 a W hk λt ht=>?_⟩;have:=hf t ht;rw[List.take_append,AMp,H6,Gl (l:=Aq m bq) (by simpa using R),List.reverse_replicate,AT1]at this;exact this;refine⟨A2,P1.refl _,λi o _ R S=>?_,h1,λi hi=>h2 i Ux,F,F,λt _=>rfl,λi o q _ _ R _ S=>?_⟩;rw[h2 i R]at S;cases S;rw[h2 i R]at S;cases S
theorem AXh {id:Nat}(B:P.follows .mixedOrders=I)(h:Si P l Q 0 a0 w0.drew):(mB id l.toArray I).wp P Q a0 w0:=by
 refine wp_region_any B ?_;have e:({ w0 with drawn:=w0.drawn+1 }:World)=w0.drew:=F;rw[e];exact h _ _ ZA ZA (λi H=>by omega) (λi _=>r5 _ _)
theorem ABZ {B:List (Option Tmp×Post)}{H:List (Option Tmp×Post)->Prop}(h:H B):RG P ops Q K a0 w0 [] B H:=h
theorem xW {B:Act->World->Prop}{a:Act}{W:World}(h:B a W):MR B [] a W:=h
end
def upd (M:ByteArray->Option Int)(s:ByteArray)(v:Int):ByteArray->Option Int:=λx=>if x=s then J v else M x
section
variable {P:Program} {Q:Exit->Act->World->Prop} {K:World->World->Prop} {a0:Act} {w0:World} {l:List Oper} {m n:Nat}
theorem ABW [P1 K]{id:Nat}(n:Nat)(hm:P.follows .mixedOrders=I)(M:(Oa l 0 n && lN l n (G l))=I)(hz:((l.take n).all λo=>match o.dst with|some d=>decide (d<a0.tmps.size)|none=>I)=I)(h : ∀S,Ay w0 S->RG P l.toArray Q K a0 S (l.take n) [] λB=>∀W,K S W->MR (wpList P l.toArray Q (l.drop n)) B.reverse a0 W):(mB id l.toArray I).wp P Q a0 w0:=by
 rw[Ak]at M;refine AXh hm (Aax (K:=K) M.1 hz ?_);have:=h w0.drew (Ay.refl _).drew;have hn:=ABY M.1;have H : ∀(r:List (Option Tmp×Post)) (a:Act) (W:World),MR (wpList P l.toArray Q (l.drop n)) r a W->MR (Si P l Q n) r a W:=by
  intro r;induction r with
  | nil=>intro a W h;simp only[MR]at h ⊢;refine Aay M.2 hn (G l - n) n a W Ux (BN _) ?_;rw[Gl ZA];exact ACY h
  | cons q r ih=>obtain⟨d,p⟩:=q;intro a W h v hv;exact ih _ _ (h v hv)
 have R : ∀(r:List Oper) (B:List (Option Tmp×Post)) (f g:List (Option Tmp×Post)->Prop),(∀x,f x->g x)->RG P l.toArray Q K a0 w0.drew r B f->RG P l.toArray Q K a0 w0.drew r B g:=by
  intro r;induction r with
  | nil=>intro B f g z h;exact z _ h
  | cons o r ih=>intro B f g z h;obtain⟨p,h1,h2,h3⟩:=h;exact⟨p,h1,h2,ih _ _ _ z h3⟩
 exact R _ _ (λB=>∀W,K w0.drew W->MR (wpList P l.toArray Q (l.drop n)) B.reverse a0 W) _ (λB h W hW=>H _ _ _ (h W hW)) (by simpa using this)
theorem LK [P1 K]{r:List Oper}{B:List (Option Tmp×Post)}{H:List (Option Tmp×Post)->Prop}(p:Post)(R:Vu K p)(hg:o.guard=E)(h : ∀(a:Act) (W:World),K w0 W->(∀t∈looks ops o,know a0 B t (a.tmps.getD t undef) W)->∃v M,(execOp a.eval o).run P W=.ok (.value v) M/\p v M/\K W M)(hr:RG P ops Q K a0 w0 r ((o.dst,p)::B) H):RG P ops Q K a0 w0 (o::r) B H:=by
 refine⟨p,R,λa W hk hf=>?_,hr⟩;have hw:FB o (yielded ops a.tmps)=true:=by simp[FB,hg]
 rw[Awd hw];unfold Er;obtain⟨v,M,S,q,z⟩:=h a W hk hf;rw[S];exact⟨v,F,z,q⟩
theorem ABX [P1 K]{r:List Oper}{B:List (Option Tmp×Post)}{H:List (Option Tmp×Post)->Prop}(p:Post)(R:Vu K p)(hg:o.guard=E)(h : ∀(a:Act) (W:World),K w0 W->(∀t∈looks ops o,know a0 B t (a.tmps.getD t undef) W)->∃f args,(execOp a.eval o).run P W=.ok (.enter f args) W/\
   Calls P f args W λe M=>∃v,e=.returned v/\p v M/\K W M)(hr:RG P ops Q K a0 w0 r ((o.dst,p)::B) H):RG P ops Q K a0 w0 (o::r) B H:=by
 refine⟨p,R,λa W hk hf=>?_,hr⟩;have hw:FB o (yielded ops a.tmps)=true:=by simp[FB,hg]
 rw[Awd hw];unfold Er;obtain⟨f,args,q,z⟩:=h a W hk hf;rw[q];refine z.mono ?_;rintro e M ⟨v,rfl,hv,S⟩;exact⟨v,F,S,hv⟩
end
end Go.Proofs.YtegconioojpgmaaGreat
