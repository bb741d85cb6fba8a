/- Part of the proof of displayBest.proved. Conditions: none. -/
import Derived.WalkKit
import Derived.Laws.Rows
import Derived.Laws.ResultCell
import Derived.Deep.Draws
import Derived.Lib.Hide
import GoSem.Core.Value
import Derived.Test.YtlpomcliejmedaaGreatProg
import Derived.OpenShut
import Derived.Orders
import Derived.KernelRfl
import Derived.Maps.OwnSet
import Derived.Maps.OwnOps
import Derived.Maps.Views
import Derived.StringKeys
import Derived.Outline
import Derived.Deep.Light
set_option linter.unusedVariables false
set_option linter.unusedSimpArgs false
set_option maxRecDepth 100000
set_option maxHeartbeats 16000000
open Array renaming getElem?_eq_some_iff→DO,toArray_toList→AMO,getElem?_eq_getElem→fa
open Nat renaming zero_add→Cz,le_refl→BN,lt_trichotomy→aN,lt_or_ge→MK
open List renaming getElem?_eq_some_iff→Br,take_of_length_le→Gl,zipIdx_cons→mb,foldl_cons→Bw,take_succ_eq_append_getElem→UD,nil_append→BU,range→E6,replicate→Aq,replicate_succ→BY,cons_append→BK,getElem?_cons_zero→LX,getElem?_eq_getElem→BE,reverse_append→AMp,all_eq_true→ES,mem_range→KP,countP_cons→ACq,getElem?_take_of_lt→Sm,range'→fY,range'_append_1→ACc,range_eq_range'→tq,countP_append→ACp,countP_eq_zero→fx,length_replicate→H6
open Go.Sem renaming run_bind→Jt
open Go.Result renaming andThen_ok→Oo
open Go.Region renaming wanted→FB,ready→mr
open Go.Oper renaming wp→Er,wp_mono→mo
open Int renaming mul_tdiv_add_tmod→mN,lt_or_le→fq,tmod_nonneg→Sl,neg_tmod→mO,lt_tmod_of_pos→ft,tmod_lt_of_pos→aG,mul_le_mul_of_nonneg_left→aF,mul_le_mul_of_nonneg_right→AMV,mul_nonneg→RB
open Option.some renaming injEq→BL
open Go.ByteArray renaming toList_eq→uC
open Bool renaming and_eq_true→Ak,or_eq_true→T9
open Option renaming map_some→Nu,getD_some→Dm
open Classical renaming byContradiction→Kn
namespace Go.Proofs.YtlpomcliejmedaaGreat
open Go.RowKit Tryz
variable {ty:TypeId}{w:World}{g:Nat}{cs:Array Value}{gd:Option (Nat×Bool)}(a:Int)
theorem AI {α : Sort _}(a : α):∃ x,a=x:=⟨a,rfl⟩
def Nz (w:World)(b off:Nat)(cs:Array Value):Prop:=∀j,j<cs.size->w.cell? ⟨b,off+j,none⟩=cs[j]?
def iM:TypeDesc->Bool
 | .struct _ | .array _ _=>true
 | _=>false
def ND (P:Program)(ty:TypeId)(n:Nat):Prop:=
 ∃d,P.underlying ty=some d/\iM d=true/\(P.info? ty).map (·.size)=some n
theorem ND.mk' {P:Program}{n:Nat}{d:TypeDesc}(h:P.underlying ty=some d)(B:iM d=true)(E:(P.info? ty).map (·.size)=some n):ND P ty n:=⟨d,h,B,E⟩
def Xw (cs:Array Value):Prop:=∀v∈cs.toList,v.oneCell'=true
theorem J0 (b off n:Nat):(⟨b,off,none⟩:Addr).add n=⟨b,off+n,none⟩:=by
 unfold Addr.add;split;rename_i h;subst h;rfl;rfl
def Cb (w:World)(g:Nat)(t:TypeId)(cs:Array Value):Prop:=w.heap[g]?=some (.cells cs t (0,0))
theorem Cb.lt {t:TypeId}(h:Cb w g t cs):g<w.heap.size:=(DO.1 h).1
theorem Cb.cell {t:TypeId}(h:Cb w g t cs)(i:Nat):w.cell? ⟨g,i,none⟩=cs[i]?:=cell_of_row w g i cs t (0,0) h
theorem Cb.frozen {t:TypeId}(h:Cb w g t cs)(i:Nat):w.frozen? ⟨g,i,none⟩=false:=frozen_of_row w g i cs t h
theorem Cb.new (w:World)(t:TypeId)(cs:Array Value):Cb (w.alloc (.cells cs t)) w.heap.size t cs:=heap_alloc_new w _
theorem Cb.AS (w:World)(t:TypeId)(cs:Array Value)(h:g=w.heap.size):Cb (w.alloc (.cells cs t)) g t cs:=by subst h;exact Cb.new w t cs
theorem Cb.alloc {t:TypeId}(h:Cb w g t cs)(o:Obj):Cb (w.alloc o) g t cs:=(Below.heap_alloc w o g h.lt).trans h
theorem Cb.below {w w':World}{g B:Nat}{t:TypeId}(h:Cb w g t cs)(hb:Below B w w')(E:g<B):Cb w' g t cs:=(hb.block g E).trans h
theorem Cb.row {t:TypeId}(h:Cb w g t cs):Nz w g 0 cs:=λj _=>by rw[Cz];exact h.cell j
theorem Cb.Tz {t:TypeId}{B:Array Value}(h:Cb w g t B)(cs:Array Value):Cb (w.setRow g cs) g t cs:=setRow_heap w g B cs t (0,0) h
theorem Cb.far {g k:Nat}{t:TypeId}{B:Array Value}(h:Cb w k t B)(cs:Array Value)(E:k≠g):Cb (w.setRow g cs) k t B:=(setRow_other w g k cs E).trans h
section
variable {P:Program} {ops:Array Oper} {rest:List Oper} {a:Act} {w:World} {Q:Exit->Act->World->Prop} {dst:Option Tmp} {tQ:TypeId} {pos:String} {after:Array Edge}
theorem lI {b off:Nat}(J:Nz w b off cs)(R:ND P ty cs.size):(loadVar ty ⟨b,off,none⟩).run P w=.ok (.agg cs) w:=by
 obtain⟨d,S,U,F⟩:=R;have G:(loadCells ⟨b,off,none⟩ cs.toList.length).run P w=.ok cs.toList.toArray w:=
  run_loadCells_list (P:=P) w ⟨b,off,none⟩ cs.toList (λj v H=>by
   rw[J0];have I:j<cs.size:=by
    have:=(Br.1 H).1;simpa using this
   rw[J j I];simpa using H)
 cases E:P.info? ty with
 | none=>simp[E]at F
 | some i =>
   have M:i.size=cs.size:=by simpa [E]using F
   have B:(isAgg ty).run P w=.ok true w:=by
    unfold isAgg;rw[Jt,run_underlying S w];cases d<;>simp_all [iM]
   simp only[Array.length_toList,AMO]at G;simp[loadVar,Jt,B,sizeOf,typeInfo,E,M,G]
theorem AYY (cs:List Value):∀(i:Nat) (B:Array Value),B.size=i+cs.length->(cs.zipIdx i).foldl (λc p=>c.setIfInBounds p.2 p.1) B=(B.toList.take i++cs).toArray:=by
 induction cs with
 | nil=>intro i B h;simp at h;subst h;simp[Gl]
 | cons v r ih =>
   intro i B h;simp only[mb,Bw];rw[ih (i+1) _ (by simp at h ⊢;omega)];congr 1
   have E:i<B.toList.length:=by simp at h ⊢;omega
   simp only[Array.toList_setIfInBounds];rw[UD (by simpa using E),List.take_set_of_le (BN _)];simp
theorem AYG {t:TypeId}: ∀(vs:List Value) (i:Nat) (w:World) (B:Array Value),Cb w g t B->i+vs.length<=B.size->(∀v∈vs,v.oneCell'=true)->
 (storeCells ⟨g,0,none⟩ vs i).run P w=.ok () (w.setRow g ((vs.zipIdx i).foldl (λc p=>c.setIfInBounds p.2 p.1) B)):=by
 intro vs;induction vs with
 | nil=>intro i w B E _ _;simp[storeCells,setRow_self w g B t (0,0) E]
 | cons v r ih =>
   intro i w B E H I;have F:i<B.size:=by simp at H;omega
   have J:w.cell? ⟨g,i,none⟩=some (B[i]):=by rw[E.cell];simp[F]
   have G:(store ⟨g,i,none⟩ v .plain).run P w=.ok () (w.setRow g (B.setIfInBounds i v)):=by
    rw[run_store P _ _ v .plain (I v (by simp)),setCell_eq_setRow w g i B t (0,0) v E];simp[J,E.frozen]
   unfold storeCells;rw[Jt,J0,Cz,G];simp only[Oo];rw[ih (i+1) _ (B.setIfInBounds i v) (E.Tz _) (by simp at H ⊢;omega) (λu M=>I u (by simp[M])),setRow_setRow];simp[mb]
theorem AYH {t:TypeId}{B cs:Array Value}(hb:Cb w g t B)(hs:B.size=cs.size)(G:Xw cs)(H:ND P ty cs.size):
 (storeVar ty ⟨g,0,none⟩ (.agg cs)).run P w=.ok () (w.setRow g cs):=by
 obtain⟨d,M,J,F⟩:=H;cases E:P.info? ty with
 | none=>simp[E]at F
 | some i =>
   have I:i.size=cs.size:=by simpa [E]using F
   have h:=AYG (P:=P) (g:=g) (t:=t) cs.toList 0 w B hb (by simp[hs]) G;rw[AYY cs.toList 0 B (by simp[hs])]at h;simp only[List.take_zero,BU,AMO]at h;simp[storeVar,Value.cells,Jt,sizeOf,typeInfo,E,I,h]
theorem Aau {x y:Operand}(g:Nat)(t:TypeId)(B cs:Array Value)(I:a.eval x=.pointer (some ⟨g,0,none⟩))(J:a.eval y=.agg cs)(hb:Cb w g t B)(hs:B.size=cs.size)(E:Xw cs)(G:ND P ty cs.size)(H:FB ⟨dst,.store ty x y,tQ,pos,after,gd⟩ (yielded ops a.tmps)=true)(h:wpList P ops Q rest (a.put dst undef) (w.setRow g cs)):wpList P ops Q (⟨dst,.store ty x y,tQ,pos,after,gd⟩::rest) a w:=
 wpList_step λ_ F=>by
  rw[if_pos H];unfold Er execOp;simp only[I,J,Instr.storeAt,Instr.sureAddr,Jt,Sem.run_pure,Oo,AYH hb hs E G];exact F _ _ h
theorem ll {x y:Operand}(g:Nat)(cs:Array Value)(I:a.eval x=.pointer (some ⟨g,0,none⟩))(J:a.eval y=.agg cs)(hb : ∃t B,Cb w g t B/\B.size=cs.size)(E:Xw cs)(G:ND P ty cs.size)(H:FB ⟨dst,.store ty x y,tQ,pos,after,gd⟩ (yielded ops a.tmps)=true)(h:wpList P ops Q rest (a.put dst undef) (w.setRow g cs)):wpList P ops Q (⟨dst,.store ty x y,tQ,pos,after,gd⟩::rest) a w:=by
 obtain⟨t,B,hb,F⟩:=hb;exact Aau g t B cs I J hb F E G H h
end
def Ay (w w':World):Prop:=Below w.heap.size w w'
theorem Ay.refl (w:World):Ay w w:=Below.refl _ _
theorem Ay.size {w w':World}(h:Ay w w'):w.heap.size<=w'.heap.size:=Below.size h
theorem Ay.trans {a b c:World}(h:Ay a b)(k:Ay b c):Ay a c:=Below.trans h (Below.mono k h.size)
theorem Ay.alloc {w W:World}(h:Ay w W)(o:Obj):Ay w (W.alloc o):=Below.alloc h h.size o
theorem Ay.drew {w W:World}(h:Ay w W):Ay w W.drew:=Below.drew h
theorem Ay.setRow {w W:World}(h:Ay w W)(B:w.heap.size<=g)(cs:Array Value):Ay w (W.setRow g cs):=
 Below.trans h ⟨rfl,rfl,rfl,by simp,λk E=>setRow_other W g k cs (by omega)⟩
theorem Ay.blk {W B:World}(h:Ay W B){t:TypeId}(hb:Cb W g t cs):Cb B g t cs:=hb.below h hb.lt
theorem Ay.cell {W E:World}(h:Ay W E){p:Addr}{v:Value}(B:W.cell? p=some v):E.cell? p=some v:=(Below.cell h (block_lt_of_cell B)).trans B
theorem Ay.row {W F:World}(h:Ay W F){b off:Nat}(G:Nz W b off cs):Nz F b off cs:=λj E=>by
 have B:=G j E;rw[fa E]at B ⊢;exact h.cell B
theorem Ay.heap {W B:World}(h:Ay W B){k:Nat}(E:k<W.heap.size):B.heap[k]?=W.heap[k]?:=h.block k E
inductive D where
 | int (k:IntKind) (n:Int)
 | bool (b:Bool)
 | str (s:ByteArray)
 | sl (l:List D)
 | ag (l:List D)
theorem Nz.lt {b off:Nat}(h:Nz w b off cs)(hs:0<cs.size):b<w.heap.size:=by
 have:=h 0 hs;rw[fa hs]at this;exact block_lt_of_cell this
theorem Nz.AS {b off:Nat}(h:Nz w b off cs){j:Nat}{v:Value}(B:cs[j]?=some v):w.cell? ⟨b,off+j,none⟩=some v:=by
 rw[h j (DO.1 B).1,B]
theorem Nz.sub {b off:Nat}(h:Nz w b off cs)(i n:Nat)(F:i+n<=cs.size):Nz w b (off+i) (cs.extract i (i+n)):=λj E=>by
 have B:i+j<cs.size:=by simp at E;omega
 rw[Nat.add_assoc,h (i+j) B];rw[Array.getElem?_extract,if_pos (by simp at E;omega)]
structure BG where
 name:ByteArray
 w:Int
 h:Int
 d:Int
 Ey:Int
 attach:Int
structure CR where
 name:ByteArray
 ext:Bool
structure Bc where
 name:ByteArray
 sizes:List ByteArray
 parts:List CR
 overlap:Int
structure Params where
 Al:Int
 Gj:Int
 FD:Int
 rule:Int
 VH:Int
 Tp:Int
 Uf:Int
 TE:Int
 Zy:Int
 Zz:Int
 Z0:Int
 Qx:Int
 Qy:Int
 Q5:Int
 Qz:Int
 script:Int
 Qr:Int
 TD:Int
 RY:Int
 RO:Int
structure AP where
 DR:List BG
 C5:List Bc
 params:Params
def An (n:Int):Bool:=decide (-1073741824<=n) && decide (n<=1073741824)
def Ea (a b:Int):Int:=if 0<=a then(2*a+b) / (2*b)else -((2*(-a)+b) / (2*b))
def quot (a b:Int):Int:=
 if 0<=a.tmod b/\b - a.tmod b<=a.tmod b then a.tdiv b+1 else if a.tmod b<0/\b+a.tmod b<= -a.tmod b then a.tdiv b - 1 else a.tdiv b
theorem AXT :quot a 100=Ea a 100:=by
 unfold quot Ea;have F:=mN a 100;rcases fq a 0 with h|h
 . have B:a.tmod 100<=0:=by have:=Sl (a:= -a) 100 (by omega);rw[mO]at this;omega
   have E : -100<a.tmod 100:=by have:=ft a (b:=100) (by omega);omega
   generalize a.tmod 100=r at *
   generalize a.tdiv 100=q at *
   repeat' split
   all_goals omega
 . have B:0<=a.tmod 100:=Sl 100 h;have E:a.tmod 100<100:=aG a (by omega);generalize a.tmod 100=r at *
   generalize a.tdiv 100=q at *
   repeat' split
   all_goals omega
theorem AXV :quot a 2=Ea a 2:=by
 unfold quot Ea;have F:=mN a 2;rcases fq a 0 with h|h
 . have B:a.tmod 2<=0:=by have:=Sl (a:= -a) 2 (by omega);rw[mO]at this;omega
   have E : -2<a.tmod 2:=by have:=ft a (b:=2) (by omega);omega
   generalize a.tmod 2=r at *
   generalize a.tdiv 2=q at *
   repeat' split
   all_goals omega
 . have B:0<=a.tmod 2:=Sl 2 h;have E:a.tmod 2<2:=aG a (by omega);generalize a.tmod 2=r at *
   generalize a.tdiv 2=q at *
   repeat' split
   all_goals omega
def AU (n p:Int):Int:=if An n=true/\0<=p/\p<=10000 then Ea (n*p) 100 else 0
def Bm (n:Int):Int:=if An n=true then Ea n 2 else 0
def Dx (c:UInt8):Bool:=decide (32<=c.toNat) && decide (c.toNat<=126)
def Ck (s:ByteArray):Bool:=s.data.toList.all Dx && (decide (1<=s.size) && decide (s.size<=16))
def DX (lo hi:Int)(l:List Int):Bool:=l.all λn=>decide (lo<=n) && decide (n<=hi)
def KU (name:ByteArray):List BG->Option BG
 | []=>none
 | g::r=>if g.name=name then some g else KU name r
def AP.find (f:AP)(name:ByteArray):Option BG:=KU name f.DR
def BG.zero:BG:=⟨⟨#[]⟩,0,0,0,0,0⟩
def BG.Dy (g:BG):Int:=g.h+g.d
def AP.pick (f:AP)(name:ByteArray):BG:=
 match f.find name with
 | some g=>g
 | none=>match f.find ⟨#[63]⟩with
   | some g=>g
   | none=>{ BG.zero with name:=name }
def XZ (name:ByteArray):List Bc->Option Bc
 | []=>none
 | s::r=>if s.name=name then some s else XZ name r
def AP.I8 (f:AP)(name:ByteArray):Option Bc:=XZ name f.C5
def BG.OQ (g:BG):List Int:=[g.w,g.h,g.d,g.Ey,g.attach]
def BG.scaled (g:BG)(p:Int):BG:=⟨g.name,AU g.w p,AU g.h p,AU g.d p,AU g.Ey p,AU g.attach p⟩
def Hm (g:BG)(p:Int):BG×Int:=
 if DX 1 1000 [p]=false then(BG.zero,2)else if DX (-20000) 20000 g.OQ=false then(BG.zero,1)else(g.scaled p,0)
def Params.SK (p:Params):List Int:=[p.script,p.Qr,p.TD]
def Params.lens (p:Params):List Int:=[p.Al,p.Gj,p.FD,p.rule,p.VH,p.Tp,p.Uf,p.TE,p.Zy,p.Zz,p.Z0,p.Qx,p.Qy,p.Q5,p.Qz,p.RY,p.RO]
def Qk (p:Params):Bool:=DX 1 100 p.SK && DX 0 20000 p.lens
def Sc (ht:ByteArray->Option Int):Int->List ByteArray->Bool
 | _,[]=>true
 | last,n::r=>match ht n with
   | none=>false
   | some h=>decide (last<h) && Sc ht h r
def OW (ht:ByteArray->Option Int):Int->Bool->List CR->Option (Int×Bool)
 | l,e,[]=>some (l,e)
 | l,e,p::r=>match ht p.name with
   | none=>none
   | some h=>OW ht (if h<l then h else l) (e || p.ext) r
def du (ht:ByteArray->Option Int)(s:Bc):Bool:=
 match OW ht 60000 false s.parts with
 | none=>false
 | some (l,e)=>e && DX 0 (l - 1) [s.overlap]
def Oh (ht:ByteArray->Option Int)(s:Bc):Bool:=
 (Ck s.name && (DX 1 16 [(s.sizes.length:Int)] && decide (s.parts.length<=8))) && (Sc ht (-60000) s.sizes && (if s.parts=[]then decide (s.overlap=0)else du ht s))
def Lo (g:BG):Bool:=Ck g.name && (DX 0 20000 [g.w] && DX (-20000) 20000 [g.h,g.d,g.Ey,g.attach])
def hasName (name:ByteArray):List BG->Bool
 | []=>false
 | g::r=>decide (g.name=name) || hasName name r
def Ul:List BG->List BG->Bool
 | _,[]=>true
 | seen,g::r=>(Lo g && !hasName g.name seen) && Ul (seen++[g]) r
def cV (name:ByteArray):List Bc->Bool
 | []=>false
 | s::r=>decide (s.name=name) || cV name r
def Xa (ht:ByteArray->Option Int):List Bc->List Bc->Bool
 | _,[]=>true
 | seen,s::r=>(Oh ht s && !cV s.name seen) && Xa ht (seen++[s]) r
def AP.ht (f:AP)(name:ByteArray):Option Int:=(f.find name).map BG.Dy
def AP.valid (f:AP):Bool:=
 (decide (f.DR.length<=400) && (decide (f.C5.length<=40) && Qk f.params)) && (Ul [] f.DR && Xa f.ht [] f.C5)
def mx (a b:Int):Int:=if a<b then b else a
def mn (a b:Int):Int:=if b<a then b else a
theorem DU (a b:Int):mx a b=max a b:=by unfold mx;omega
theorem AKS (m:Int)(B : -(100*m)<=a)(E:a<=100*m): -m<=Ea a 100/\Ea a 100<=m:=by
 unfold Ea;split<;>omega
theorem Qh (n p A B:Int)(W : -A<=n)(R:n<=A)(H:0<=p)(I:p<=B): -(A*B)<=n*p/\n*p<=A*B:=by
 have F:0<=A:=by omega
 have E:0<=B:=by omega
 have e:=Int.mul_le_mul (show p<=B by omega) (Int.le_refl A) F E;rcases fq n 0 with G|G
 have J:=aF I (show 0<= -n by omega);have S:=AMV (show -n<=A by omega) E;have M:=RB (show 0<= -n by omega) H;rw[Int.neg_mul]at J M;have U:=RB F E;omega;have J:=aF I G;have S:=AMV R E;have M:=RB G H;have U:=RB F E;omega
theorem lJ (n p:Int)(B : -20000<=n)(E:n<=20000)(G:1<=p)(F:p<=1000): -200000<=AU n p/\AU n p<=200000:=by
 unfold AU;have:=Qh n p 20000 1000 B E (by omega) F;split;exact AKS _ _ (by omega) (by omega);omega
theorem AYW (g:BG)(p:Int)(h:(Hm g p).2=0):DX 1 1000 [p]=true/\DX (-20000) 20000 g.OQ=true/\Hm g p=(g.scaled p,0):=by
 unfold Hm at h ⊢;cases B:DX 1 1000 [p];rw[B]at h;simp at h;cases E:DX (-20000) 20000 g.OQ;rw[B,E]at h;simp at h;simp
theorem AKg (g:BG)(p:Int)(B:DX 1 1000 [p]=true)(E:DX (-20000) 20000 g.OQ=true) :
 (-200000<=(g.scaled p).w/\(g.scaled p).w<=200000)/\(-200000<=(g.scaled p).h/\(g.scaled p).h<=200000)/\(-200000<=(g.scaled p).d/\(g.scaled p).d<=200000)/\(-200000<=(g.scaled p).Ey/\(g.scaled p).Ey<=200000):=by
 simp[DX,BG.OQ]at B E;simp only[BG.scaled];exact⟨lJ _ _ (by omega) (by omega) (by omega) (by omega),lJ _ _ (by omega) (by omega) (by omega) (by omega),lJ _ _ (by omega) (by omega) (by omega) (by omega),lJ _ _ (by omega) (by omega) (by omega) (by omega)⟩
def R4 (l:List BG)(name:ByteArray):Option Int:=(KU name l).map BG.Dy
theorem AGe (name:ByteArray):∀l:List BG,hasName name l=(KU name l).isSome
 | []=>rfl
 | g::r=>by
   simp only[hasName,KU];by_cases h:g.name=name;simp[h];simp[h,AGe name r]
theorem cA {name:ByteArray}{g:BG} : ∀ {l:List BG},KU name l=some g->g∈l
 | [],h=>by simp[KU]at h
 | x::r,h=>by
   simp only[KU]at h;split at h;simp only[BL]at h;subst h;simp;exact List.mem_cons_of_mem _ (cA h)
theorem ASu (f:AP)(h : ∀g∈f.DR,Lo g=true)(x:ByteArray)(y:Int)(B:f.ht x=some y): -60000<=y/\y<=60000:=by
 simp only[AP.ht,AP.find,Option.map_eq_some_iff]at B;obtain⟨g,E,rfl⟩:=B;have:=h g (cA E);simp[Lo,DX]at this;simp only[BG.Dy];omega
def BG.ds (g:BG):D:=.ag [.str g.name,.int .i64 g.w,.int .i64 g.h,.int .i64 g.d,.int .i64 g.Ey,.int .i64 g.attach]
def CR.ds (p:CR):D:=.ag [.str p.name,.bool p.ext]
def Bc.ds (s:Bc):D:=.ag [.str s.name,.sl (s.sizes.map D.str),.sl (s.parts.map CR.ds),.int .i64 s.overlap]
def Params.ints (p:Params):List Int:=[p.Al,p.Gj,p.FD,p.rule,p.VH,p.Tp,p.Uf,p.TE,p.Zy,p.Zz,p.Z0,p.Qx,p.Qy,p.Q5,p.Qz,p.script,p.Qr,p.TD,p.RY,p.RO]
def Params.ds (p:Params):D:=.ag (p.ints.map (D.int .i64))
def AP.ds (f:AP):D:=.ag [.sl (f.DR.map BG.ds),.sl (f.C5.map Bc.ds),f.params.ds]
def BG.cells (g:BG):Array Value:=#[.string g.name,.int .i64 g.w,.int .i64 g.h,.int .i64 g.d,.int .i64 g.Ey,.int .i64 g.attach]
def CR.cells (p:CR):Array Value:=#[.string p.name,.bool p.ext]
def Params.cells (p:Params):Array Value:=(p.ints.map (Value.int .i64)).toArray
theorem AZZ {a b:ByteArray}:(a.toList==b.toList)=decide (a=b):=by
 rw[uC,uC];by_cases h:a=b;subst h;simp;have : ¬a.data=b.data:=λe=>h (by cases a;cases b;simpa using e)
 simp[h,this]
theorem AZa {a b:ByteArray}(h : ¬a=b):(a.toList==b.toList)=false:=by rw[AZZ];simp[h]
def iG (n:Int):Prop:= -9223372036854775808<=n/\n<=9223372036854775807
def BG.Ok (g:BG):Prop:=g.name.size<=maxLen/\iG g.w/\iG g.h/\iG g.d/\iG g.Ey/\iG g.attach
def GL (o:Oper):List Nat:=(o.after.toList.filter (Region.binds .any)).map (·.on)
def looks (ops:Array Oper)(o:Oper):List Tmp:=o.looksAt ops
abbrev Post:=Value->World->Prop
def know (a0:Act):List (Option Tmp×Post)->Tmp->Value->World->Prop
 | [],t,v,_=>v=a0.tmps.getD t undef
 | (d,p)::r,t,v,W=>if d=some t then p v W else know a0 r t v W
class P1 (K:World->World->Prop):Prop where
 FR : ∀ {W W':World},Ay W W'->K W W'
 trans : ∀ {A B C:World},K A B->K B C->K A C
instance:P1 Ay:=⟨id,Ay.trans⟩
theorem P1.refl {K:World->World->Prop}[P1 K](W:World):K W W:=P1.FR (Ay.refl W)
def vv (P:Program)(ops:Array Oper)(Q:Exit->Act->World->Prop)(K:World->World->Prop)(a0:Act)(w0:World)(acc:List (Option Tmp×Post))(o:Oper)(p:Post):Prop:=
 ∀(a:Act) (W:World),K w0 W->(∀t∈looks ops o,know a0 acc t (a.tmps.getD t undef) W)->
  if FB o (yielded ops a.tmps)then o.wp P a W (λa' W'=>∃v,a'=a.put o.dst v/\K W W'/\p v W') Q else p undef W
def Vu (K:World->World->Prop)(p:Post):Prop:=∀v W W',K W W'->p v W->p v W'
def RG (P:Program)(ops:Array Oper)(Q:Exit->Act->World->Prop)(K:World->World->Prop)(a0:Act)(w0:World):List Oper->List (Option Tmp×Post)->(List (Option Tmp×Post)->Prop)->Prop
 | [],acc,fin=>fin acc
 | o::r,acc,fin=>∃p:Post,Vu K p/\vv P ops Q K a0 w0 acc o p/\RG P ops Q K a0 w0 r ((o.dst,p)::acc) fin
def MR (K:Act->World->Prop):List (Option Tmp×Post)->Act->World->Prop
 | [],a,W=>K a W
 | (d,p)::r,a,W=>∀v,p v W->MR K r (a.put d v) W
def sZ (l:List Oper)(m n i:Nat):Bool:=
 match l[i]? with
 | none=>false
 | some o=>(GL o).all (λj=>decide (j<i)) && (E6 n).all λk=>decide (k<m) ||
    match (l[k]?).bind (·.dst)with
    | none=>true
    | some t=>(k==i || o.dst !=some t) && (k==i || !(looks l.toArray o).contains t || (decide (k<i) && (GL o).contains k) || (decide (i<k) && ((l[k]?).map (λq=>(GL q).contains i)).getD false))
def Oa (l:List Oper)(m n:Nat):Bool:=
 decide (m<=n) && decide (n<=l.length) && (E6 n).all (λi=>decide (i<m) || sZ l m n i) && (E6 (l.length - n)).all λk=>((l[n+k]?).map λo=>(E6 n).all (λi=>decide (i<m) || ((GL o).contains i || (GL o).any λj=>decide (m<=j) && ((l[j]?).map λq=>(GL q).contains i).getD false))).getD false
def lN (l:List Oper)(m n:Nat):Bool:=
 decide (n<=l.length) && (E6 n).all λk=>decide (k<m) || ((l[k]?).map (λo=>(GL o).all (λj=>decide (j<k)))).getD false && (E6 l.length).all λj=>decide (j<=k) || ((l[j]?).map (λo=>(GL o).contains k)).getD false
def Si (P:Program)(l:List Oper)(Q:Exit->Act->World->Prop)(m:Nat)(a:Act)(W:World):Prop:=
 ∀(fuel:Nat) (listed:Array Bool),l.length - m<=fuel->listed.size=l.length->(∀i,i<m->listed.getD i false=true)->(∀i,m<=i->listed.getD i false=false)->wpAny P .any l.toArray Q fuel listed a W
def bq:Option Tmp×Post:=(none,λ_ _=>True)
theorem AT1 (a0:Act)(m:Nat)(B:List (Option Tmp×Post))(t:Tmp)(v:Value)(W:World):know a0 (B++Aq m bq) t v W↔know a0 B t v W:=by
 induction B with
 | nil =>
   induction m with
   | zero=>rfl
   | succ m ih=>simp only[BU,BY]at ih ⊢;unfold bq at ih ⊢;simp only[know]at ih ⊢;simpa using ih
 | cons x r ih=>obtain⟨d,p⟩:=x;simp only[BK,know,ih]
section
variable {P:Program} {Q:Exit->Act->World->Prop} {K:World->World->Prop} {a0:Act} {w0:World} {l:List Oper} {m n:Nat}
theorem dZ {o:Oper}{j:Nat}:j∈GL o↔∃e∈o.after,Region.binds .any e=true/\e.on=j:=by
 simp[GL,and_assoc]
theorem RG.AWt {ops:Array Oper}{H:List (Option Tmp×Post)->Prop} : ∀(r:List Oper) (B:List (Option Tmp×Post)),RG P ops Q K a0 w0 r B H->
 ∃G:List (Option Tmp×Post),G.length=r.length/\(∀i o q,r[i]?=some o->G[i]?=some q->q.1=o.dst/\Vu K q.2/\vv P ops Q K a0 w0 ((G.take i).reverse++B) o q.2)/\H (G.reverse++B):=by
 intro r;induction r with
 | nil=>intro B h;simp only[RG]at h;exact⟨[],rfl,λi o q h=>by simp at h,by simpa using h⟩
 | cons o r ih =>
   intro B h;obtain⟨p,U,R,S⟩:=h;obtain⟨G,M,I,J⟩:=ih _ S;refine⟨(o.dst,p)::G,by simp[M],λi W q E F=>?_,by simpa using J⟩;match i,E,F with
   | 0,E,F=>simp only[LX,BL]at E F;subst E F;exact⟨rfl,U,by simpa using R⟩
   | i+1,E,F=>simp only[List.getElem?_cons_succ]at E F;simpa using I i W q E F
theorem AT0 (t:Tmp)(v:Value)(W:World)(B:List (Option Tmp×Post)):∀i,i<=B.length->
 (∀j q,j<i->B[j]?=some q->q.1=some t->(∀k F,j<k->k<i->B[k]?=some F->F.1≠some t)->q.2 v W)->
 ((∀j q,j<i->B[j]?=some q->q.1≠some t)->v=a0.tmps.getD t undef)->know a0 ((B.take i).reverse) t v W:=by
 intro i;induction i with
 | zero=>intro _ _ h;simpa [know]using h (λj q U=>by omega)
 | succ i ih =>
   intro hi S h2;have R:i<B.length:=by omega
   have H:B[i]?=some B[i]:=BE R;rw[UD R,AMp];simp only[List.reverse_cons,List.reverse_nil,BU,List.singleton_append];generalize B[i]=q at H ⊢;obtain⟨d,p⟩:=q;simp only[know];split;rename_i G;exact S i (d,p) (by omega) H G (λk F o z=>by omega);rename_i G;refine ih (by omega) (λj q U E J jx=>S j q (by omega) E J λk F o z I=>?_) (λM=>h2 λj q U E=>?_);by_cases jw:k=i;subst jw;rw[H]at I;cases I;exact G;exact jx k F o (by omega) I;by_cases TS:j=i;subst TS;rw[H]at E;cases E;exact G;exact M j q (by omega) E
structure ADm (K:World->World->Prop)(l:List Oper)(m n:Nat)(a0:Act)(w0:World)(qs:List (Option Tmp×Post))(listed:Array Bool)(a:Act)(W:World):Prop where
 size:listed.size=l.length
 keep:K w0 W
 closed : ∀(i:Nat) (o:Oper),l[i]?=some o->m<=i->listed.getD i false=true->∀j∈GL o,listed.getD j false=true
 pre : ∀i,i<m->listed.getD i false=true
 tail : ∀i,n<=i->listed.getD i false=false
 defers:a.defers=a0.defers
 lW:a.tmps.size=a0.tmps.size
 old : ∀t,(∀(i:Nat) (o:Oper),l[i]?=some o->m<=i->i<n->listed.getD i false=true->o.dst≠some t)->a.tmps.getD t undef=a0.tmps.getD t undef
 post : ∀(i:Nat) (o:Oper) (q:Option Tmp×Post),l[i]?=some o->qs[i]?=some q->m<=i->i<n->listed.getD i false=true->
  ∃v,q.2 v W/\∀t,o.dst=some t->a.tmps.getD t undef=v
theorem YP (a:Act)(d t:Tmp)(v:Value):(a.put (some d) v).tmps.getD t undef=if d=t then(if t<a.tmps.size then v else undef)else a.tmps.getD t undef:=by
 simp only[Act.put,Array.getD_eq_getD_getElem?,Array.getElem?_setIfInBounds];by_cases h:d=t;subst h;by_cases B:d<a.tmps.size;simp[B];simp[B];simp[h]
theorem SM (a:Act)(d:Option Tmp)(v:Value):(a.put d v).defers=a.defers:=by cases d<;>rfl
theorem ABO (a:Act)(d:Option Tmp)(v:Value):(a.put d v).tmps.size=a.tmps.size:=by cases d<;>simp[Act.put]
theorem AKQ (B:Oa l m n=true)(i:Nat)(F:m<=i)(E:i<n):sZ l m n i=true:=by
 unfold Oa at B;simp only[Ak,ES,KP,T9,decide_eq_true_eq]at B;exact(B.1.2 i E).resolve_left (by omega)
theorem ABY (B:Oa l m n=true):n<=l.length:=by
 unfold Oa at B;simp only[Ak,decide_eq_true_eq]at B;exact B.1.1.2
theorem AKR (B:Oa l m n=true):m<=n:=by
 unfold Oa at B;simp only[Ak,decide_eq_true_eq]at B;exact B.1.1.1
theorem AXq (B:Oa l m n=true)(k:Nat)(H:n<=k)(o:Oper)(ho:l[k]?=some o)(i:Nat)(J:m<=i)(F:i<n):i∈GL o\/∃j∈GL o,m<=j/\∃q,l[j]?=some q/\i∈GL q:=by
 unfold Oa at B;simp only[Ak,ES,KP]at B;have I:k<l.length:=(Br.1 ho).1;have:=B.2 (k - n) (by omega);rw[show n+(k - n)=k by omega,ho]at this;simp only[Nu,Dm,ES,KP,T9,decide_eq_true_eq]at this;rcases (this i F).resolve_left (by omega)with h|h
 exact .inl (by simpa using h);right;obtain⟨j,G,h⟩:=List.any_eq_true.1 h;simp only[Ak,decide_eq_true_eq]at h;cases E:l[j]? with
 | none=>rw[E]at h;simp at h
 | some q=>rw[E]at h;exact⟨j,G,h.1,q,E,by simpa using h.2⟩
theorem AXp (B:Oa l m n=true)(i:Nat)(G:m<=i)(E:i<n)(o:Oper)(ho:l[i]?=some o)(j:Nat)(F:j∈GL o):j<i:=by
 have:=AKQ B i G E;unfold sZ at this;rw[ho]at this;simp only[Ak,ES,decide_eq_true_eq]at this;exact this.1 j F
theorem sa (G:Oa l m n=true)(i k:Nat)(F:m<=i)(I:i<n)(R:m<=k)(J:k<n)(B:k≠i)(o o':Oper)(ho:l[i]?=some o)(E:l[k]?=some o')(t:Tmp)(H:o'.dst=some t) :
 o.dst≠some t/\(t∈looks l.toArray o->(k<i/\k∈GL o)\/(i<k/\i∈GL o')):=by
 have:=AKQ G i F I;unfold sZ at this;rw[ho]at this;simp only[Ak,ES,KP]at this;have:=this.2 k J;rw[E]at this;simp only[Option.bind_some,H,Ak,T9,beq_iff_eq,decide_eq_true_eq,List.contains_iff_mem,Nu,Dm]at this;have:=this.resolve_left (by omega);refine⟨λe=>?_,λM=>?_⟩;have h:=this.1.resolve_left B;simp[e]at h;rcases this.2 with ((h|h)|h)|h
 exact absurd h B;simp[M]at h;exact .inl h;exact .inr h
theorem Rb (B:Array Bool)(i j:Nat)(E:i<B.size):(B.setIfInBounds i true).getD j false=if i=j then true else B.getD j false:=by
 by_cases h:i=j;subst h;simp[E];simp[h,Array.getElem?_setIfInBounds_ne h]
theorem WS (B:Array Bool)(j:Nat)(E:j<B.size):B.getD j true=B.getD j false:=by
 simp[fa E]
theorem AYd (B:lN l m n=true):n<=l.length/\∀k,m<=k->k<n->∀o,l[k]?=some o->(∀j∈GL o,j<k)/\∀j o',k<j->l[j]?=some o'->k∈GL o':=by
 unfold lN at B;simp only[Ak,ES,KP,T9,decide_eq_true_eq]at B;refine⟨B.1,λk J G o H=>?_⟩;have h:=(B.2 k G).resolve_left (by omega);rw[H]at h;simp only[Nu,Dm,ES,decide_eq_true_eq]at h;refine⟨h.1,λj o' I E=>?_⟩;have F:=(h.2 j (Br.1 E).1).resolve_left (by omega);rw[E]at F;simpa using F
theorem Aaw (h:Q .normal a0 w0):Si P l Q l.length a0 w0:=by
 intro E B _ R J S;have H:mr .any l.toArray B=[]:=by
  rw[List.eq_nil_iff_forall_not_mem];intro j F;rw[mem_ready]at F;obtain⟨I,o,M,_⟩:=F;have G:j<l.length:=(Br.1 (show l[j]?=some o by simpa using M)).1;rw[WS _ _ (by omega),J j G]at I;cases I
 cases E with
 | zero=>exact⟨H,h⟩
 | succ E=>exact⟨λ_=>h,λj F=>by rw[H]at F;cases F⟩
theorem ACY {ops:Array Oper} : ∀ {r:List Oper} {a:Act} {W:World},wpList P ops Q r a W->wpList P ops (Exit.then (Si P l Q l.length) Q) r a W
 | [],a,W,h=>Aaw h
 | o::r,a,W,h=>by
   simp only[wpList]at h ⊢;split;rename_i E;rw[if_pos E]at h;refine h.imp (λh=>?_) (λh=>⟨h.1,h.2⟩);have B:=mo (λa w=>ACY (r:=r)) h;unfold Er at B ⊢;generalize (execOp a.eval o).run P W=x at B ⊢;cases x with
   | ok x F=>cases x<;>exact B
   | halt x F=>cases x<;>exact B
   rename_i E;rw[if_neg E]at h;exact ACY h
theorem Aay (hc:lN l m n=true)(jy:m<=n):∀(d k:Nat) (a:Act) (W:World),k+d=n->m<=k->wpList P l.toArray (Exit.then (Si P l Q n) Q) ((l.drop k).take d) a W->Si P l Q k a W:=by
 obtain⟨hn,hs⟩:=AYd hc;intro d;induction d with
 | zero =>
   intro k a W hk hm h;obtain rfl:k=n:=by omega
   simpa [wpList,Exit.then]using h
 | succ d ih =>
   intro k a W hk hm h fuel B q A0 S U;have E:k<l.length:=by omega
   obtain⟨s1,s2⟩:=hs k hm (by omega) l[k] (BE E);have H : ∀j,j∈mr .any l.toArray B↔j=k:=by
    intro j;rw[mem_ready];constructor;rintro ⟨R,o,z,G⟩;have Hz:l[j]?=some o:=by simpa using z
    have Hx:j<l.length:=(Br.1 Hz).1;rw[WS _ _ (by omega)]at R;rcases aN j k with Dn|rfl|zL
    rw[S j Dn]at R;cases R;rfl;have M:=s2 j o zL Hz;rw[dZ]at M;obtain⟨e,Mg,TO,jk⟩:=M;have:=G e Mg TO;rw[jk,U k (BN _)]at this;cases this;rintro rfl;refine⟨by rw[WS _ _ (by omega)];exact U j (BN _),l[j],by simp[E],λe M hb=>?_⟩;exact S _ (s1 e.on (dZ.2 ⟨e,M,hb,rfl⟩))
   match fuel,q with
   | 0,q=>omega
   | fuel+1,q =>
     refine⟨λTX=>?_,λj hj=>?_⟩;have:=(H k).2 rfl;rw[TX]at this;cases this
     . obtain rfl:=(H j).1 hj;have next : ∀J I,wpList P l.toArray (Exit.then (Si P l Q n) Q) ((l.drop (j+1)).take d) J I->wpAny P .any l.toArray Q fuel (B.setIfInBounds j true) J I:=λJ I F =>
        ih (j+1) J I (by omega) (by omega) F _ _ (by omega) (by simpa using A0) (λi hi=>by rw[Rb _ _ _ (by omega)];split;rfl;exact S i (by omega)) (λi hi=>by rw[Rb _ _ _ (by omega),if_neg (by omega)];exact U i (by omega))
       have z:l.toArray[j]?=some l[j]:=by simp[E]
       rw[List.drop_eq_getElem_cons E,List.take_succ_cons]at h;unfold wpOp;simp only[z];simp only[wpList]at h;split
       . rename_i hw;rw[if_pos hw]at h;refine h.imp (λh=>?_) (λh=>⟨h.1,h.2⟩);have F:=mo next h;unfold Er at F ⊢;generalize (execOp a.eval l[j]).run P W=r at F ⊢;cases r with
         | ok x w'=>cases x<;>exact F
         | halt x w'=>cases x<;>exact F
       . rename_i hw;rw[if_neg hw]at h;exact next _ _ h
theorem MR.of {K:Act->World->Prop} : ∀(r:List (Option Tmp×Post)) (a:Act) (W:World),MR K r a W->∀vs:List Value,vs.length=r.length->(∀(i:Nat) (q:Option Tmp×Post) (v:Value),r[i]?=some q->vs[i]?=some v->q.2 v W)->
 K ((r.zip vs).foldl (λb x=>b.put x.1.1 x.2) a) W:=by
 intro r;induction r with
 | nil=>intro a W h vs _ _;simpa [MR]using h
 | cons q r ih =>
   intro a W h vs B E;match vs,B with
   | v::vs,B=>obtain⟨d,p⟩:=q;simp only[MR]at h;have:=ih _ W (h v (E 0 (d,p) v rfl rfl)) vs (by simpa using B) (λi H I F G=>E (i+1) H I (by simpa using F) (by simpa using G));simpa using this
theorem APc (t:Tmp):∀(r:List (Option Tmp×Post)) (vs:List Value) (a:Act),vs.length=r.length->
 (∀(i k:Nat) (q F:Option Tmp×Post),i≠k->r[i]?=some q->r[k]?=some F->q.1=some t->F.1≠some t)->
 let b:=(r.zip vs).foldl (λb x=>b.put x.1.1 x.2) a
 b.defers=a.defers/\b.tmps.size=a.tmps.size/\
 (∀(i:Nat) (q:Option Tmp×Post) (v:Value),r[i]?=some q->vs[i]?=some v->q.1=some t->b.tmps.getD t undef=if t<a.tmps.size then v else undef)/\
 ((∀(i:Nat) (q:Option Tmp×Post),r[i]?=some q->q.1≠some t)->b.tmps.getD t undef=a.tmps.getD t undef):=by
 intro r;induction r with
 | nil=>intro vs a _ _;exact⟨by simp,by simp,λi q v h=>by simp at h,λ_=>by simp⟩
 | cons q r ih =>
   intro vs a I M;match vs,I with
   | v::vs,I =>
     obtain⟨R,S,U,W⟩:=ih vs (a.put q.1 v) (by simpa using I) (λi k q1 q2 o B E=>M (i+1) (k+1) q1 q2 (by omega) (by simpa using B) (by simpa using E));simp only[List.zip_cons_cons,Bw];rw[SM]at R;rw[ABO]at S U;refine⟨R,S,λi F v' B E H=>?_,λG=>?_⟩;match i,B,E with
     | 0,B,E=>simp only[LX,BL]at B E;subst B E;rw[W (λi J h=>M 0 (i+1) q J (by omega) rfl (by simpa using h) H),H,YP,if_pos rfl]
     | i+1,B,E=>exact U i F v' (by simpa using B) (by simpa using E) H
     rw[W (λi F h=>G (i+1) F (by simpa using h))];have:=G 0 q rfl;cases z:q.1 with
     | none=>rfl
     | some d=>rw[YP,if_neg];intro e;exact this (by rw[z,e])
theorem ANE {a b:Act}(B:a.defers=b.defers)(E:a.tmps.size=b.tmps.size)(F : ∀t,a.tmps.getD t undef=b.tmps.getD t undef):a=b:=by
 obtain⟨M,I⟩:=a;obtain⟨R,J⟩:=b;simp only at B E F;subst B;congr 1
 apply Array.ext E;intro i G H;have:=F i;simpa [fa G,fa H]using this
theorem AE2 {p p':Nat->Bool} : ∀(r:List Nat),(∀j∈r,p' j=true->p j=true)->∀i∈r,p i=true->p' i=false->r.countP p'<r.countP p:=by
 intro r;induction r with
 | nil=>intro _ i B;cases B
 | cons x r ih =>
   intro G i B I H;have J:r.countP p'<=r.countP p:=List.countP_mono_left (λj F=>G j (by simp[F]));rw[ACq,ACq];rcases List.mem_cons.1 B with rfl|B
   simp[I,H];omega;have:=ih (λj F=>G j (by simp[F])) i B I H;have M:=G x (by simp);by_cases E:p' x=true;simp[E,M E];omega;simp[E];omega
theorem ANP [P1 K](hc:Oa l m n=true)(hz : ∀(i:Nat) (o:Oper),l[i]?=some o->i<n->∀d,o.dst=some d->d<a0.tmps.size)(F:List (Option Tmp×Post))(hq:F.length=n)(qY : ∀(i:Nat) (q:Option Tmp×Post),i<m->F[i]?=some q->q=bq)(G : ∀(i:Nat) (o:Oper) (q:Option Tmp×Post),m<=i->(l.take n)[i]?=some o->F[i]?=some q->q.1=o.dst/\Vu K q.2/\vv P l.toArray Q K a0 w0 ((F.take i).reverse) o q.2)(cb : ∀W,K w0 W->MR (Si P l Q n) F a0 W) :
 ∀(E:Nat) (B:Array Bool) (a:Act) (W:World),(E6 l.length).countP (λi=> !B.getD i false)<=E->ADm K l m n a0 w0 F B a W->wpAny P .any l.toArray Q E B a W:=by
 have jy:=AKR hc;have hn:=ABY hc;have Bg : ∀(E:Nat) (B:Array Bool) (a:Act) (W:World),l.length - n<=E->ADm K l m n a0 w0 F B a W->(∀i,i<n->B.getD i false=true)->wpAny P .any l.toArray Q E B a W:=by
  intro E B a W hf I jm;suffices B7:Si P l Q n a W from B7 E B hf I.size jm I.tail
  have Ml : ∃vs:List Value,vs.length=F.length/\(∀(i:Nat) (q:Option Tmp×Post) (v:Value),F[i]?=some q->vs[i]?=some v->q.2 v W)/\∀(i:Nat) (q:Option Tmp×Post) (v:Value) (t:Tmp),F[i]?=some q->vs[i]?=some v->q.1=some t->a.tmps.getD t undef=v/\t<a.tmps.size:=by
   have J : ∀i:Fin n,∃v:Value,∀q,F[i.1]?=some q->q.2 v W/\∀t,q.1=some t->a.tmps.getD t undef=v/\t<a.tmps.size:=by
    intro i;have OF:i.1<l.length:=by omega
    have Uy:i.1<F.length:=by omega
    by_cases Iv:i.1<m;refine⟨undef,λq DT=>?_⟩;have:=qY i.1 q Iv DT;subst this;exact⟨trivial,λt z=>by cases z⟩;obtain⟨v,R,S⟩:=I.post i.1 l[i.1] F[i.1] (BE OF) (BE Uy) (by omega) i.2 (jm i.1 i.2);refine⟨v,λq DT=>?_⟩;rw[BE Uy,BL]at DT;subst DT;refine⟨R,λt z=>?_⟩;suffices hd:l[i.1].dst=some t from⟨S t hd,by rw[I.lW];exact hz i.1 _ (BE OF) i.2 t hd⟩
    rw[<-(G i.1 l[i.1] F[i.1] (by omega) (by rw[Sm i.2];exact BE OF) (BE Uy)).1,z]
   obtain⟨f,jl⟩:=Classical.axiomOfChoice J;refine⟨List.ofFn f,by simp[hq],λi q v R S=>?_,λi q v t R S h3=>?_⟩;all_goals
    have Ca:i<n:=by have:=(Br.1 R).1;omega
    have e:v=f ⟨i,Ca⟩:=by simpa [List.getElem?_ofFn,Ca]using S.symm
    subst e;have:=jl ⟨i,Ca⟩ q R
   exact this.1;exact this.2 t h3
  obtain⟨vs,A1,hp,hg⟩:=Ml;have U:=MR.of F a0 W (cb W I.keep) vs A1 hp;have A8 : ∀(t:Tmp) (i k:Nat) (q q':Option Tmp×Post),i≠k->F[i]?=some q->F[k]?=some q'->q.1=some t->q'.1≠some t:=by
   intro t i k q q' A3 R S h3 h4;have Ca:i<n:=by have:=(Br.1 R).1;omega
   have Ej:k<n:=by have:=(Br.1 S).1;omega
   have Iv:m<=i:=by
    rcases MK i m with h|h
    have:=qY i q h R;subst this;cases h3;exact h
   have Bh:m<=k:=by
    rcases MK k m with h|h
    have:=qY k q' h S;subst this;cases h4;exact h
   have oi:=BE (l:=l) (i:=i) (by omega);have ok:=BE (l:=l) (i:=k) (by omega);have e1:=(G i _ q Iv (by rw[Sm Ca];exact oi) R).1;have e2:=(G k _ q' Bh (by rw[Sm Ej];exact ok) S).1;exact(sa hc k i Bh Ej Iv Ca A3 _ _ ok oi t (by rw[<-e1,h3])).1 (by rw[<-e2,h4])
  have e:a=(F.zip vs).foldl (λb x=>b.put x.1.1 x.2) a0:=by
   have A0:=λt=>APc t F vs a0 A1 (A8 t)
   refine ANE (by rw[I.defers,(A0 0).1]) (by rw[I.lW,(A0 0).2.1]) λt=>?_
   by_cases J : ∃(i:Nat) (q:Option Tmp×Post),F[i]?=some q/\q.1=some t;obtain⟨i,q,R,S⟩:=J;have js:i<vs.length:=by have:=(Br.1 R).1;omega
   have A6:=hg i q vs[i] t R (BE js) S;rw[A6.1,(A0 t).2.2.1 i q vs[i] R (BE js) S,<-I.lW,if_pos A6.2];rw[(A0 t).2.2.2 (λi q R S=>J ⟨i,q,R,S⟩)];refine I.old t λi o ho Iv Ca _ hd=>J ?_
   have Uy:i<F.length:=by omega
   refine⟨i,F[i],BE Uy,?_⟩;rw[(G i o F[i] Iv (by rw[Sm Ca];exact ho) (BE Uy)).1,hd]
  rw[e];exact U
 have A7 : ∀(B:Array Bool) (i:Nat),i<l.length->B.size=l.length->B.getD i false=false->
  (E6 l.length).countP (λj=> !(B.setIfInBounds i true).getD j false)<(E6 l.length).countP (λj=> !B.getD j false):=by
  intro B i H D7 B0;refine AE2 (p:=λj=> !B.getD j false) (p':=λj=> !(B.setIfInBounds i true).getD j false) _ (λj _ h=>?_) i (KP.2 H) (by simp only[B0];rfl) ?_;simp only[Rb _ _ _ (show i<B.size by omega)]at h;split at h;cases h;exact h;simp only[Rb _ _ _ (show i<B.size by omega),if_true,Bool.not_true]
 have left : ∀(B:Array Bool),(∀i,n<=i->B.getD i false=false)->l.length - n<=(E6 l.length).countP (λj=> !B.getD j false):=by
  intro B z;have e:E6 l.length=E6 n++fY n (l.length - n):=by
   have:=ACc (s:=0) (m:=n) (n:=l.length - n);rw[Cz,show n+(l.length - n)=l.length by omega]at this;rw[tq,tq,this]
  have S:(fY n (l.length - n)).countP (λj=> !B.getD j false)=l.length - n:=by
   rw[List.countP_eq_length.2];simp;intro j hj;have:n<=j:=by rw[List.mem_range'_1]at hj;exact hj.1
   simp[z j this]
  rw[e,ACp,S];omega
 intro E;induction E with
 | zero =>
   intro B a W hf I;have h:=left B I.tail;refine Bg 0 B a W (by omega) I λi H=>?_
   have hz:(E6 l.length).countP (λj=> !B.getD j false)=0:=by omega
   rw[fx]at hz;have:=hz i (KP.2 (by omega));simpa using this
 | succ E ih =>
   intro B a W hf I;by_cases jm : ∀i,i<n->B.getD i false=true;exact Bg _ B a W (by have:=left B I.tail;omega) I jm
   .
     have J : ∃i,i<n/\B.getD i false=false/\∀j,j<i->B.getD j false=true:=by
      have A9 : ∃i,i<n/\B.getD i false=false:=by
       refine Kn λM=>jm λi H=>?_
       cases hb:B.getD i false;exact absurd ⟨i,H,hb⟩ M;rfl
      obtain⟨i,H,hb⟩:=A9;induction i using Nat.strongRecOn with
      | ind i mv =>
        by_cases cU : ∀j,j<i->B.getD j false=true;exact⟨i,H,hb,cU⟩;have : ∃j,j<i/\B.getD j false=false:=by
         refine Kn λM=>cU λj hj=>?_
         cases CT:B.getD j false;exact absurd ⟨j,hj,CT⟩ M;rfl
        obtain⟨j,hj,CT⟩:=this;exact mv j hj (by omega) CT
     refine⟨λTX=>?_,λj hj=>?_⟩;exfalso;obtain⟨i,H,hb,B2⟩:=J;have OF:i<l.length:=by omega
     have:i∈mr .any l.toArray B:=by
      rw[mem_ready];refine⟨by rw[WS _ _ (by rw[I.size];exact OF)];exact hb,l[i],by simp[OF],λe he Iq=>?_⟩;exact B2 _ (AXp hc i (by rcases MK i m with h|h;(rw[I.pre i h]at hb;cases hb);exact h) H l[i] (BE OF) e.on (dZ.2 ⟨e,he,Iq,rfl⟩))
     rw[TX]at this;cases this
     . rw[mem_ready]at hj;obtain⟨h0,o,ho,cU⟩:=hj;have TY:l[j]?=some o:=by simpa using ho
       have Hx:j<l.length:=(Br.1 TY).1;rw[WS _ _ (by rw[I.size];exact Hx)]at h0;have qZ : ∀k∈GL o,B.getD k false=true:=λk U=>by
        obtain⟨e,he,hb,rfl⟩:=dZ.1 U;exact cU e he hb
       have GN:j<n:=by
        rcases MK j n with h|h
        exact h;exfalso;obtain⟨i,H,hb,_⟩:=J;rcases AXq hc j h o TY i (by rcases MK i m with h|h;(rw[I.pre i h]at hb;cases hb);exact h) H with he|⟨k,U,Bh,q,hq,he⟩
        have:=qZ i he;rw[hb]at this;cases this;have:=I.closed k q hq Bh (qZ k U) i he;rw[hb]at this;cases this
       have Uz:m<=j:=by
        rcases MK j m with h|h
        rw[I.pre j h]at h0;cases h0;exact h
       have D0:j<F.length:=by omega
       have QU:F[j]?=some F[j]:=BE D0;generalize Iy:F[j]=q at QU;obtain⟨hd,D2,B3⟩:=G j o q Uz (by rw[Sm GN];exact TY) QU;have B1 : ∀t∈looks l.toArray o,know a0 ((F.take j).reverse) t (a.tmps.getD t undef) W:=by
        intro t z;refine AT0 t _ W F j (by omega) (λk q' U OH ji _=>?_) (λM=>?_);have Bh:m<=k:=by
         rcases MK k m with h|h
         have:=qY k q' h OH;subst this;cases ji;exact h
        have Ce:k<l.length:=by omega
        have tk:l[k]?=some l[k]:=BE Ce;have ek:=(G k l[k] q' Bh (by rw[Sm (by omega)];exact tk) OH).1;have A5:l[k].dst=some t:=by rw[<-ek,ji]
        rcases (sa hc j k Uz GN Bh (by omega) (by omega) o l[k] TY tk t A5).2 z with h|h
        obtain⟨v,hv,hg⟩:=I.post k l[k] q' tk OH Bh (by omega) (qZ k h.2);rw[hg t A5];exact hv;omega;refine I.old t λk o' U Bh Ej zS ji=>?_
        have OH:F[k]?=some F[k]:=BE (by omega);have ek:=(G k o' F[k] Bh (by rw[Sm Ej];exact U) OH).1;rcases aN k j with D1|rfl|zL
        exact M k F[k] D1 OH (by rw[ek,ji]);rw[h0]at zS;cases zS;rcases (sa hc j k Uz GN Bh Ej (by omega) o o' TY U t ji).2 z with h|h
        omega;have:=I.closed k o' U Bh zS j h.2;rw[h0]at this;cases this
       have hp:=B3 a W I.keep B1;have next : ∀v W',K W W'->q.2 v W'->wpAny P .any l.toArray Q E (B.setIfInBounds j true) (a.put o.dst v) W':=by
        intro v W' U hv;have Wh:j<B.size:=by rw[I.size];exact Hx
        refine ih _ _ W' (by have:=A7 B j Hx I.size h0;omega) ⟨by simpa using I.size,P1.trans I.keep U,?_,?_,?_,by rw[SM,I.defers],by rw[ABO,I.lW],?_,?_⟩;intro i o' H Iv hl k Hh;rw[Rb _ _ _ Wh]at hl ⊢;split;rfl;split at hl;rename_i e;subst e;rw[TY]at H;cases H;exact qZ k Hh;exact I.closed i o' H Iv hl k Hh;intro i H;rw[Rb _ _ _ Wh];split;rfl;exact I.pre i H;intro i H;rw[Rb _ _ _ Wh,if_neg (by omega)];exact I.tail i H;intro t M;have B8:o.dst≠some t:=M j o TY Uz GN (by rw[Rb _ _ _ Wh,if_pos rfl]);have A2:=I.old t λi o' H Iv Ca hl=>M i o' H Iv Ca (by rw[Rb _ _ _ Wh];split;rfl;exact hl)
        cases Rs:o.dst with
        | none=>exact A2
        | some d=>rw[YP,if_neg (λe=>B8 (by rw[Rs,e]))];exact A2
        intro i o' q' H QT Iv Ca hl;by_cases Is:j=i;subst Is;rw[TY]at H;cases H;rw[QU]at QT;cases QT;refine⟨v,hv,λt z=>?_⟩;rw[z,YP,if_pos rfl,if_pos (by rw[I.lW];exact hz j o TY GN t z)];rw[Rb _ _ _ Wh,if_neg Is]at hl;obtain⟨u,hu,hg⟩:=I.post i o' q' H QT Iv Ca hl;have VB:=(G i o' q' Iv (by rw[Sm Ca];exact H) QT).2.1;refine⟨u,VB u W W' U hu,λt z=>?_⟩;have A3:=(sa hc j i Uz GN Iv Ca (λe=>Is e.symm) o o' TY H t z).1;cases Rs:o.dst with
        | none=>exact hg t z
        | some d=>rw[YP,if_neg (λe=>A3 (by rw[Rs,e]))];exact hg t z
       have Hz:l.toArray[j]?=some o:=ho;unfold wpOp;simp only[Hz];split
       . rename_i hw;rw[if_pos hw]at hp;refine .inl (mo (λa' W' h'=>?_) hp);obtain⟨v,rfl,U,hv⟩:=h';exact next v W' U hv
       . rename_i hw;rw[if_neg hw]at hp;exact next undef W (P1.refl _) hp
theorem r5 (m i:Nat):(Array.replicate m false).getD i false=false:=by
 by_cases h:i<m<;>simp[h]
theorem AFb {B:Act->World->Prop}{r:List (Option Tmp×Post)}{a:Act}{W:World}(h:MR B r a W):∀m,MR B (Aq m bq++r) a W
 | 0=>by simpa using h
 | m+1=>by
   rw[BY,BK];exact λ_ _=>AFb h m
theorem Aax [P1 K](U:Oa l m n=true)(hz:((l.take n).all λo=>match o.dst with|some d=>decide (d<a0.tmps.size)|none=>true)=true)(h:RG P l.toArray Q K a0 w0 ((l.take n).drop m) [] λR=>∀W,K w0 W->MR (Si P l Q n) R.reverse a0 W):Si P l Q m a0 w0:=by
 intro I B z A0 h1 S;obtain⟨qs,hl,E,Ff⟩:=RG.AWt _ _ h;have hn:=ABY U;have jy:=AKR U;have hq:qs.length=n - m:=by rw[hl];simp;omega
 simp only[List.append_nil,List.reverse_reverse]at E Ff;have M:(E6 l.length).countP (λi=> !B.getD i false)<=l.length - m:=by
  have e:E6 l.length=E6 m++fY m (l.length - m):=by
   have:=ACc (s:=0) (m:=m) (n:=l.length - m);rw[Cz,show m+(l.length - m)=l.length by omega]at this;rw[tq,tq,this]
  have e0:(E6 m).countP (λj=> !B.getD j false)=0:=by
   rw[fx];intro j hj;simp[h1 j (KP.1 hj)]
  have e1:=List.countP_le_length (p:=λi=> !B.getD i false) (l:=fY m (l.length - m));rw[e,ACp,e0];simpa using e1
 refine ANP (w0:=w0) U (λi o ho J d hd=>?_) (Aq m bq++qs) (by simp[hq];omega) (λi q J F=>?_) (λi o q G ho F=>?_) (λW hW=>AFb (Ff W hW) m) I B a0 w0 (Nat.le_trans M z) ?_;rw[ES]at hz;have:=hz o (List.mem_of_getElem? (i:=i) (by rw[Sm J];exact ho));rw[hd]at this;simpa using this;rw[List.getElem?_append_left (by simpa using J)]at F;simp[J]at F;exact F.symm;rw[List.getElem?_append_right (by simpa using G)]at F;simp only[H6]at F;obtain⟨k1,k2,k3⟩:=E (i - m) o q (by rw[List.getElem?_drop,show m+(i - m)=i by omega];exact ho) F;refine⟨k1,k2,λa W hk z=>k3 a W hk λt ht=>?_⟩;have:=z t ht;rw[List.take_append,AMp,H6,Gl (l:=Aq m bq) (by simpa using G),List.reverse_replicate,AT1]at this;exact this;refine⟨A0,P1.refl _,λi o _ G H=>?_,h1,λi J=>S i (by omega),rfl,rfl,λt _=>rfl,λi o q _ _ G _ H=>?_⟩;rw[S i G]at H;cases H;rw[S i G]at H;cases H
theorem AXh {id:Nat}(B:P.follows .mixedOrders=true)(h:Si P l Q 0 a0 w0.drew):(Code.region id l.toArray true).wp P Q a0 w0:=by
 refine wp_region_any B ?_;have e:({ w0 with drawn:=w0.drawn+1 }:World)=w0.drew:=rfl;rw[e];exact h _ _ (by simp) (by simp) (λi E=>by omega) (λi _=>r5 _ _)
theorem ABZ {ops:Array Oper}{B:List (Option Tmp×Post)}{E:List (Option Tmp×Post)->Prop}(h:E B):RG P ops Q K a0 w0 [] B E:=h
theorem xW {B:Act->World->Prop}{a:Act}{W:World}(h:B a W):MR B [] a W:=h
end
def upd (M:ByteArray->Option Int)(s:ByteArray)(v:Int):ByteArray->Option Int:=λx=>if x=s then some v else M x
end Go.Proofs.YtlpomcliejmedaaGreat
