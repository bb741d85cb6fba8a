/- Part of the proof of displayBest.proved. Conditions: none. -/
import Derived.ProofKit
import Derived.Carry
import Derived.MapKept
import Derived.Lib.AppendZerosOnto
import Derived.Tactics
import Derived.Tactics2
import Derived.Defers
import Derived.Recover
import Derived.Test.YtlpomcliejmedaaGreatW5
set_option linter.unusedVariables false
set_option linter.unusedSimpArgs false
set_option maxRecDepth 100000
set_option maxHeartbeats 16000000
open Go.DataW renaming trod→Pr,TrodAll→fh
open List renaming mapM_cons→uQ,mem_cons→Cf,getElem?_eq_some_iff→Br,map_nil→BB,range→E6,getElem?_eq_getElem→BE,map_map→M7,mem_map→Da,mem_range→KP,getElem?_map→CM,append_nil→E5,drop_zero→B9,drop_succ_cons→CU,foldl_cons→Bw,foldl_nil→CO,set_cons_zero→Ag,set_cons_succ→Ai,all_cons→Ep,take_add_one→UC,length_map→Ch,length_nil→BO,nil_append→BU,drop_eq_getElem_cons→D5,mem_of_getElem?→Cj,take_succ_cons→DP,length_cons→BA,drop_of_length_le→FA,map_cons→Ap,flatten_cons→Hp,getElem?_append_left→EJ,getElem?_append_right→Gy,getElem?_set_self→IX,append_assoc→GX,getElem?_set_ne→HF,length_set→GF,replicate→Aq,replicate_succ→BY,sizeOf_lt_of_mem→gD,cons_append→BK,replicate_zero→Cy,eq_nil_of_length_eq_zero→Nr,mem_cons_self→GH,length_take→Fa,take_of_length_le→Gl,take_succ_eq_append_getElem→UD
open Nat renaming zero_mul→AC8,le_refl→BN,lt_irrefl→IY,zero_add→Cz,le_of_not_lt→Hq,le_of_ble_eq_true→F2,lt_of_lt_of_le→H7
open Function renaming comp→ACj
open Go.Value renaming okWide→iB
open Go.Proofs.Tryz renaming prog→AF,results113→vI,results65→UR,results334→vT,results265→vQ,results266→aV,func339→Xo,ntmps339→vB,func49→Hs,results339→vU,func342→gO,func369→uw,func373→nK,func299→UJ,results345→nl,func72→JA,func360→Vm,ntmps360→gZ,results360→gu,func340→nJ,results340→ADR,func308→nH,results366→vW,results303→Sr,func241→UI,ntmps241→gU,results241→GY,results170→ADE,results104→Oq
open Bool renaming true_and→Cd,false_and→D4,and_false→LV,and_eq_true→Ak
open SizeOf renaming sizeOf→UF
open Go.IntKind renaming i64→AZ
open Int renaming mul_comm→fu
open Array renaming toList_inj→Gx,getD_eq_getD_getElem?→Kl,getElem?_toList→VZ,length_toList→FW,getElem?_eq_some_iff→DO
open Go.Sem renaming run_bind→Jt
open Go.Result renaming andThen_ok→Oo
open Go.Instr renaming makeMap→mG,checkKey→uG
open Go.Op renaming equal→Pt,equalIn→aP
open Go.MapKept renaming run_checkKey→AMu
open Go.Builtin renaming firstCells→fc,zeroCells→KN
open Go.World renaming size_alloc→vl,alloc_heap_new→vk,putObj_heap_same→iD,putObj_heap_other→Pz
open Go.Fence renaming wide→Cg
namespace Go.Proofs.YtlpomcliejmedaaGreat
open Go.RowKit Tryz
variable {W:World}{α:Type}{r:List Oper}{o:Oper}{K:Exit->St->Prop}{g:Operand}(b:AA)(k:Nat)
def X3 (w:World):BF:=λb _=>b<w.heap.size
section
variable {H α β:Type} {enc:TypeId×Value->H} {P:Program} {w:World} {fuel:Nat} {t e:TypeId}
def Dq (enc:TypeId×Value->H)(P:Program)(w:World)(fuel:Nat)(t:TypeId)(R:α->List C)(Q:α->Prop):Prop:=
 ∀(sp:Nat->Bool) (base:Nat) (held:Bool) (cs:List Value) (x:DataW H×List MemPlace),Pr enc P w base sp held fuel t cs=some x->∃a,B4 (X3 w) w (R a) cs/\Q a
theorem Dq.zero {R:α->List C}{Q:α->Prop}:Dq enc P w 0 t R Q:=by intro G B E F x h;simp[Pr]at h
theorem Dq.conv {R:α->List C}{Q:α->Prop}{R':β->List C}{Q':β->Prop}(h:Dq enc P w fuel t R Q)(f:α->β)(M : ∀a,R a=R' (f a))(J : ∀a,Q a->Q' (f a)):Dq enc P w fuel t R' Q':=by
 intro U B E F x S;obtain⟨a,G,I⟩:=h U B E F x S;exact⟨f a,by rw[<-M];exact G,J a I⟩
theorem Ge {k:IntKind}(I:P.underlying t=some (.int k)):Dq enc P w fuel t (λn:Int=>[.int k n]) (λ_=>True):=by
 cases fuel with
 | zero=>exact Dq.zero
 | succ fuel =>
   intro S B E M x h;unfold Pr at h;rw[I]at h;split at h<;>try (exfalso;simp_all;done)
   rename_i Q R n G;cases G;split at h;rename_i F;obtain⟨rfl,J⟩:=F;simp only[B4,Ab];exact⟨n,⟨_,_,rfl,⟨rfl,J⟩,rfl⟩,trivial⟩;cases h
theorem AAw (F:P.underlying t=some .bool):Dq enc P w fuel t (λb:Bool=>[.bool b]) (λ_=>True):=by
 cases fuel with
 | zero=>exact Dq.zero
 | succ fuel =>
   intro J B E G x h;unfold Pr at h;rw[F]at h;split at h<;>try (exfalso;simp_all;done)
   rename_i b I;simp only[B4,Ab];exact⟨b,⟨_,_,rfl,rfl,rfl⟩,trivial⟩
theorem Zf (G:P.underlying t=some .string):Dq enc P w fuel t (λs:ByteArray=>[.str s]) (λs=>s.size<=maxLen):=by
 cases fuel with
 | zero=>exact Dq.zero
 | succ fuel =>
   intro M B E I x h;unfold Pr at h;rw[G]at h;split at h<;>try (exfalso;simp_all;done)
   rename_i s J;split at h;rename_i F;simp only[B4,Ab];exact⟨s,⟨_,_,rfl,⟨rfl,F⟩,rfl⟩,F⟩;cases h
theorem D9.AIq {S:BF}{es:Nat} : ∀ {AG:List (List C)} {b off:Nat},(∀r∈AG,r.length=es)->(∀(i:Nat) (r:List C),AG[i]?=some r->B5 S w r b (off+i*es))->D9 S w AG b off
 | [],_,_,_,_=>by simp only[D9]
 | r::I,b,off,B,h=>by
   simp only[D9];refine⟨by simpa using h 0 r rfl,D9.AIq (λr F=>B r (by simp[F])) λi G E=>?_⟩;have:=h (i+1) G (by simpa using E);rw[B r (by simp)];rw[show off+es+i*es=off+(i+1)*es by rw[Nat.add_mul];omega];exact this
theorem AIT {G I:Type}{f:G->Option I} : ∀ {l:List G} {xs:List I},l.mapM f=some xs->∀y∈l,∃x,f y=some x
 | [],_,_,y,B=>by cases B
 | a::l,xs,h,y,B=>by
   rw[uQ]at h;cases E:f a with
   | none=>rw[E]at h;simp at h
   | some z =>
     rw[E]at h;cases F:l.mapM f with
     | none=>rw[F]at h;simp at h
     | some J =>
       rcases Cf.1 B with rfl|B
       exact⟨z,E⟩;exact AIT F y B
theorem AIU {G I:Type}{f:G->Option I} : ∀ {l:List G} {xs:List I},l.mapM f=some xs->xs.length=l.length/\∀(i:Nat) (y:G),l[i]?=some y->f y=xs[i]?
 | [],xs,h=>by simp at h;subst h;exact⟨rfl,λi y h=>by simp at h⟩
 | a::l,xs,h=>by
   rw[uQ]at h;cases E:f a with
   | none=>rw[E]at h;simp at h
   | some z =>
     rw[E]at h;cases F:l.mapM f with
     | none=>rw[F]at h;simp at h
     | some Q =>
       rw[F]at h;simp at h;subst h;obtain⟨J,M⟩:=AIU F;refine⟨by simp[J],λi y B=>?_⟩;match i,B with
       | 0,B=>simp at B;subst B;simpa using E
       | i+1,B=>simpa using M i y (by simpa using B)
theorem wh {B n:Nat}{a:Addr}{cs:List Value}(h:w.cells? B a n=some cs):cs.length=n/\∀j v,cs[j]?=some v->w.cell? (a.add j)=some v:=by
 unfold World.cells? at h;split at h;obtain⟨F,I⟩:=AIU h;refine⟨by simpa using F,λj v G=>?_⟩;have E:j<n:=by have:=(Br.1 G).1;rw[F]at this;simpa using this
 have:=I j j (by simp[E]);rw[this,G];cases h
theorem dq {n:Nat}{R:α->List C}{Q:α->Prop}(hu:P.underlying t=some (.slice e))(hc:P.cellsOf e=n)(hn:0<n)(h:Dq enc P w fuel e R Q):Dq enc P w (fuel+1) t (λl:List α=>[.sl (l.map R)]) (λl=>l.length<=maxLen/\∀a∈l,Q a):=by
 intro sp B J cs x q;unfold Pr at q;rw[hu]at q;split at q<;>try (exfalso;simp_all;done)
 refine⟨[],?_,by simp,by simp⟩;simp only[B4,Ab,BB];exact⟨_,_,rfl,⟨none,0,rfl,by simp,by simp[maxLen],λh=>absurd rfl h⟩,rfl⟩;rename_i e' a len cap he;cases he;split at q;rename_i A3;obtain⟨hb,A7,A0⟩:=A3;cases hm:(E6 len).mapM (λi=>(w.cells? B (a.add (i*P.cellsOf e)) (P.cellsOf e)).bind (Pr enc P w B sp J fuel e))with
 | none=>simp only[hm]at q;cases q
 | some A5 =>
   have Mh : ∀i,i<len->∃ai,∃F,w.cells? B (a.add (i*n)) n=some F/\B4 (X3 w) w (R ai) F/\Q ai:=by
    intro i E;obtain⟨y,I⟩:=AIT hm i (by simpa using E);rw[hc]at I;cases A1:w.cells? B (a.add (i*n)) n with
    | none=>rw[A1]at I;simp at I
    | some F=>rw[A1]at I;simp only[Option.bind_some]at I;obtain⟨ai,S,U⟩:=h sp B J F y I;exact⟨ai,F,rfl,S,U⟩
   by_cases h0:len=0;subst h0;refine⟨[],?_,by simp,by simp⟩;simp only[B4,Ab,BB];exact⟨_,_,rfl,⟨some a,cap,rfl,by simp,A0,λh=>absurd rfl h⟩,rfl⟩;have A2:a.spot=none:=by
    obtain⟨a0,c0,S,U,_⟩:=Mh 0 (by omega);obtain⟨l1,l2⟩:=wh S;have G:0<c0.length:=by omega
    have:=l2 0 c0[0] (BE G);simp only[AC8,Addr.add,if_true]at this;unfold World.cell? at this;split at this;split at this;cases this;rename_i hs;simpa using hs;cases this
   obtain⟨b,z,A8⟩:=a;simp only at A2;subst A2;have A6 : ∃g:Nat->α,∀i,i<len->∃F,w.cells? B ((⟨b,z,none⟩:Addr).add (i*n)) n=some F/\B4 (X3 w) w (R (g i)) F/\Q (g i):=by
    have Ca:Nonempty α:=⟨(Mh 0 (by omega)).choose⟩
    refine⟨λi=>if E:i<len then(Mh i E).choose else Classical.choice Ca,λi E=>?_⟩;simp only[E,dif_pos];exact(Mh i E).choose_spec
   obtain⟨g,hg⟩:=A6;have Bn : ∀i,i<len->(R (g i)).length=n:=by
    intro i E;obtain⟨F,S,U,_⟩:=hg i E;rw[<-U.len,(wh S).1]
   refine⟨(E6 len).map g,?_,by simp;omega,?_⟩;simp only[B4,Ab];refine⟨_,_,rfl,⟨some ⟨b,z,none⟩,cap,by simp,by simpa using A7,A0,λ_=>⟨b,z,n,rfl,?_,?_⟩⟩,rfl⟩;intro r M;simp only[M7,Da,KP,ACj]at M;obtain⟨i,E,rfl⟩:=M;exact Bn i E;refine D9.AIq (es:=n) ?_ ?_;intro r M;simp only[M7,Da,KP,ACj]at M;obtain⟨i,E,rfl⟩:=M;exact Bn i E;intro i r M;simp only[M7,CM,Option.map_eq_some_iff,ACj]at M;obtain⟨j,hj,rfl⟩:=M;obtain⟨G,rfl⟩:=Br.1 hj;simp only[List.length_range]at G;simp only[List.getElem_range];obtain⟨F,S,U,_⟩:=hg i G;obtain⟨l1,l2⟩:=wh S;refine B5.Pe U (λj u hu=>?_) (λj hj=>?_);have:=l2 j u hu;rw[J0,J0]at this;exact this;have OG:j<F.length:=by rw[U.len];exact hj
   have:=l2 j F[j] (BE OG);rw[J0,J0]at this;exact block_lt_of_cell this;intro y I;simp only[Da,KP]at I;obtain⟨i,E,rfl⟩:=I;obtain⟨F,_,_,h3⟩:=hg i E;exact h3
 cases q
def C6 {φ:Type}(ty:φ->TypeId)(I5:φ->Nat)(enc:TypeId×Value->H)(P:Program)(w:World)(fuel:Nat)(l:List φ)(o z:Nat)(R:β->List C)(Q:β->Prop):Prop:=
 ∀(sp:Nat->Bool) (base:Nat) (held:Bool) (cs:List Value) (xs:List (DataW H×List MemPlace)),l.mapM (λf=>Pr enc P w base sp held fuel (ty f) ((cs.drop (I5 f)).take (P.cellsOf (ty f))))=some xs->∃b,B4 (X3 w) w (R b) ((cs.drop o).take (z - o))/\Q b
theorem C6.nil {F:Type}{ty:F->TypeId}{G:F->Nat}{z:Nat}:C6 ty G enc P w fuel [] z z (λ_:Unit=>[]) (λ_=>True):=by
 intro J B E I M h;exact⟨(),by simp[B4],trivial⟩
theorem C6.cons {J:Type}{ty:J->TypeId}{F:J->Nat}{f:J}{l:List J}{o o' z:Nat}{S:α->List C}{Q:α->Prop}{U:β->List C}{R:β->Prop}(ho:F f=o)(hz:o+P.cellsOf (ty f)=o')(A0:o'<=z)(h1:Dq enc P w fuel (ty f) S Q)(h2:C6 ty F enc P w fuel l o' z U R) :
 C6 ty F enc P w fuel (f::l) o z (λq:α×β=>S q.1++U q.2) (λq=>Q q.1/\R q.2):=by
 intro I B E G xs h;rw[uQ]at h;cases M:Pr enc P w B I E fuel (ty f) ((G.drop (F f)).take (P.cellsOf (ty f)))with
 | none=>rw[M]at h;simp at h
 | some y =>
   rw[M]at h;cases hl:l.mapM (λf=>Pr enc P w B I E fuel (ty f) ((G.drop (F f)).take (P.cellsOf (ty f))))with
   | none=>simp only[hl]at h;simp at h
   | some ys =>
     obtain⟨a,k1,k2⟩:=h1 I B E _ y M;obtain⟨b,k3,k4⟩:=h2 I B E G ys hl;refine⟨(a,b),?_,k2,k4⟩;have e:(G.drop o).take (z - o)=(G.drop (F f)).take (P.cellsOf (ty f))++(G.drop o').take (z - o'):=by
      rw[ho,show z - o=P.cellsOf (ty f)+(z - o')by omega,List.take_add,List.drop_drop,hz]
     rw[e];exact k1.append k3
theorem VJ {I:Array Field}{z:Nat}{R:β->List C}{Q:β->Prop}(hu:P.underlying t=some (.struct I))(U:P.cellsOf t=z)(h:C6 Field.type Field.offset enc P w fuel I.toList 0 z R Q):Dq enc P w (fuel+1) t R Q:=by
 intro M B E G x F;unfold Pr at F;rw[hu]at F;change (if G.length=P.cellsOf t then(I.toList.mapM λf=>Pr enc P w B M E fuel f.type ((G.drop f.offset).take (P.cellsOf f.type))).map (λJ=>(DataW.agg (J.map (·.1)),J.flatMap (·.2)))else none)=some x at F;split at F;rename_i q;cases S:I.toList.mapM (λf=>Pr enc P w B M E fuel f.type ((G.drop f.offset).take (P.cellsOf f.type)))with
 | none=>simp only[S]at F;cases F
 | some J=>obtain⟨b,k1,k2⟩:=h M B E G J S;refine⟨b,?_,k2⟩;simpa [<-U,<-q]using k1
 cases F
end
section
open Go.RowKit Go.ChangeShapes
section
variable {H:Type} {enc:TypeId×Value->H} {P:Program}
theorem ALd (I:laidOutB P=true){W G:World}(hb:Ay W G):∀ {B:List TypeId} {vs:List Value} {E:List (DataW H)} {ps:List MemPlace},(∀t∈B,P.readableRec t=true/\t<P.types.size)->fh enc P W 0 (λ_=>true) true B vs E ps->(∀x∈ps,x.block<W.heap.size)->
 fh enc P G 0 (λb=>decide (b<W.heap.size)) true B vs E ps
 | [],[],[],ps,_,h,_=>h
 | t::B,v::vs,d::E,ps,M,h,J=>by
   obtain⟨p,q,Q,R,rfl⟩:=h;obtain⟨S,U⟩:=M t (by simp);exact⟨p,q,Below.trod I S U Q hb (λx F=>J x (by simp[F])),ALd I hb (λt h=>M t (by simp[h])) R (λx F=>J x (by simp[F])),rfl⟩
theorem rX {f:Func}{s:ChangeSpec}{W Q:World}{args:Array Value}{B E:List (DataW H)}{before:List MemPlace}{z:TypeId}(R:DataW.Whole enc P f.params.toList s.vars false W args.toList B E before)(U:s.vars=[])(hr:f.resultTypes=#[z])(hb:P.underlying z=some .bool)(hl:laidOutB P=true)(S:Ay W Q)(ht : ∀t∈f.params.toList,P.readableRec t=true/\t<P.types.size)(hs:(s.fn H B).results=[.lit (.bool true)])(rE:(s.fn H B).args=B)(I:(s.fn H B).vars=[]):s.post enc P f false true false false W args (.bool true) Q:=by
 have M:=R;obtain⟨p,q,hA,F,rfl,cm,TV⟩:=R;have G : ∀x∈p++q,x.block<W.heap.size:=λx J=>by simpa using M.lt x J
 rw[U]at F;have OE:E=[]/\q=[]:=by
  cases E with
  | nil=>exact⟨rfl,F⟩
  | cons _ _=>exact F.elim
 obtain⟨rfl,rfl⟩:=OE;refine⟨B,[],p++[],[],p,[],M,?_,?_,?_,Below.frame S _,λh=>nomatch h⟩;rw[hr,E5,hs];exact trodAll_mk1 (shut_bool hb _);rw[E5,rE];exact ALd hl S ht hA (λx J=>G x (by simp[J]));rw[U,E5,I];rfl
theorem rW {f:FuncId}{args:Array Value}{vs:List V}{Q:Value->World->Prop}(h:AC P f vs (.c (.bool true)))(F:AO (Cx.bare (X3 W)) W vs args.toList)(G : ∀B,Ay W B->Q (.bool true) B):Calls P f args W λe B=>∃v,e=.returned v/\Q v B:=by
 have:=h (X3 W) W args.toList (λb j h=>h) F;rw[show args.toList.toArray=args by simp]at this;refine this.mono ?_;rintro e B ⟨u,J,rfl,I,_,_,E⟩;simp only[CV,Ab]at E;subst E;exact⟨_,rfl,G B I⟩
theorem Qi {t:TypeId}{J:Array Field}{E G:Nat}{sp:Nat->Bool}{F:Bool}{r:Reach}{v:Value}{d:DataW H}{ps:List MemPlace}{R:α->List C}{Q:α->Prop}(z:P.underlying t=some (.struct J))(B:iB P W r G t v)(U:DataW.Trod enc P W E sp F t v d ps)(ho : ∀fuel,Dq enc P W fuel t R Q):∃a,Q a/\CV (Cx.bare (X3 W)) W (.agg ((R a).map V.c)) v:=by
 unfold iB at B;rw[z]at B;obtain⟨I,rfl,_,_⟩:=B;obtain⟨fuel,q⟩:=U;obtain⟨a,M,S⟩:=ho fuel sp E F _ _ q;refine⟨a,S,?_⟩;simp only[CV];exact⟨I,rfl,AO.OS M⟩
end
theorem own:ownKnob AF.godebug=none:=by kernel_rfl
theorem laid:laidOutB AF=true:=by kernel_rfl
end
@[simp] theorem Aeq:Dk AF 28=some (156,4,32):=by kernel_rfl
structure En where
 text:ByteArray
 cls:Int
 dW:Bool
 str:Bool
def En.row (e:En):List C:=[.str e.text,.int .i64 e.cls,.bool e.dW,.bool e.str]
def En.vs (e:En):List V:=e.row.map V.c
def WH (e:En):V:=.agg e.vs
def Cc (l:List En):C:=.sl (l.map En.row)
section
variable (b:En)
@[simp] theorem En.Xf:b.vs.length=4:=rfl
@[simp] theorem En.ACP:b.vs.all V.one=true:=rfl
@[simp] theorem En.ACR:b.vs.take 4=b.vs:=rfl
@[simp] theorem En.ACN:b.vs[0]?=some (.c (.str b.text)):=rfl
@[simp] theorem En.ACG (h:0<b.vs.length):b.vs[0]'h=.c (.str b.text):=rfl
@[simp] theorem En.AL7:b.vs[1]?=some (.c (.int .i64 b.cls)):=rfl
@[simp] theorem En.AL5 (h:1<b.vs.length):b.vs[1]'h=.c (.int .i64 b.cls):=rfl
@[simp] theorem En.tX:V.CF b.vs=some b.vs:=Zq b.row
@[simp] theorem En.ACS:toCs b.vs=some b.row:=toCs_c b.row
@[simp] theorem En.AL9 (cs:List V)(h:cs.length=4):E8 cs 0 b.vs=b.vs:=kz (by simp[h])
@[simp] theorem En.Nk:b.row.length=4:=rfl
@[simp] theorem En.ABb:b.row.map V.c=b.vs:=rfl
@[simp] theorem En.AKV:b.row.take 4=b.row:=rfl
@[simp] theorem En.AXz:b.row[0]?=some (.str b.text):=rfl
@[simp] theorem En.AX0:b.row[1]?=some (.int .i64 b.cls):=rfl
@[simp] theorem En.tW (n:Nat):V.BI n b.vs=true:=rfl
@[simp] theorem En.ACQ (row:List C):V.Cs k row b.vs=b.vs:=rfl
end
def fR (c:Int):Bool:=decide (33<=c/\c<=126)
def En.ok (e:En):Bool:=FC fR e.text && (decide (1<=e.text.size) && (decide (e.text.size<=16) && (decide (0<=e.cls) && decide (e.cls<=7))))
def ja (l:List En)(t:ByteArray):Bool:=l.any λe=>decide (e.text=t)
def WQ:List En->List En->Bool
 | _,[]=>true
 | pre,e::r=>e.ok && (!ja pre e.text && WQ (pre++[e]) r)
def Ll (l:List En):Bool:=WQ [] l && decide (l.length<=200)
def He (l:List En)(t:ByteArray):En:=match l with
 | []=>⟨t,0,false,false⟩
 | e::r=>if e.text=t then e else He r t
def Mn:List En->ByteArray->Int
 | [],_=> -1
 | e::r,t=>if e.text=t then 0 else if Mn r t= -1 then -1 else Mn r t+1
theorem AAF : ∀(l:List En) (t:ByteArray),(Mn l t= -1/\He l t=⟨t,0,false,false⟩)\/∃k:Nat,Mn l t=k/\l[k]?=some (He l t)
 | [],t=>.inl ⟨rfl,rfl⟩
 | e::r,t=>by
   simp only[Mn,He];by_cases h:e.text=t;rw[if_pos h,if_pos h];exact .inr ⟨0,rfl,rfl⟩;rw[if_neg h,if_neg h];rcases AAF r t with ⟨B,E⟩|⟨k,B,E⟩
   rw[if_pos B];exact .inl ⟨rfl,E⟩;rw[B,if_neg (by omega)];exact .inr ⟨k+1,by omega,by simpa using E⟩
theorem AHq : ∀(l:List En) (t:ByteArray) (k:Nat),(∀(j:Nat) (e:En),j<k->l[j]?=some e->¬e.text=t)->Mn l t=if Mn (l.drop k) t= -1 then -1 else Mn (l.drop k) t+k
 | l,t,0,_=>by simp only[B9];split<;>omega
 | [],t,k+1,_=>by simp[Mn]
 | e::r,t,k+1,h=>by
   have B : ¬e.text=t:=h 0 e (by omega) rfl;have ih:=AHq r t k (λj x J F=>h (j+1) x (by omega) (by simpa using F));simp only[Mn,if_neg B,CU];rw[ih];split;simp;rename_i G;have I : -1<=Mn (r.drop k) t:=by
    rcases AAF (r.drop k) t with ⟨E,_⟩|⟨n,E,_⟩<;>omega
   rw[if_neg (by omega)];omega
theorem AV8 (e:En)(hs:e.text.size<=maxLen):AC AF 113 [WH e] (.c (.bool e.ok)):=by
 unfold maxLen at hs;obtain⟨s,F⟩:=AI e.text;obtain⟨z,Q⟩:=AI e.cls;unfold WH En.ok;rw[F,Q];rw[F]at hs;refine en func113 ntmps113 ?_;refine wy (cj @F<|vI) trivial ⟨?_⟩;refine lp (ι:={ k:Nat // k<=s.size/\FC fR s=(s.data.toList.drop k).all λb=>fR b.toNat }) (λk=>[(2,.c (.bool false)),(3,.c (.int .i64 (k.1:Int)))]) (λ_=>[.box 156 e.vs false]) (λk=>s.size - k.1) ⟨0,by simp[FC]⟩ ?_ ?_;all_goals simp only[puts,Bw,CO,Ag,Ai]
 exact DH;rintro ⟨k,hk,E⟩;simp only;by_cases B:k<s.size;obtain⟨b,R,M,q,I,_⟩:=bS B;rw[q,Ep]at E;obtain⟨c,J⟩:∃c:Int,(b.toNat:Int)=c:=⟨_,rfl⟩
 rw[J]at E;cases G:fR c with
 | true=>rw[G,Cd]at E;simp[fR]at G;refine wy (cj @F<|cj @B<|cj @I<|cj @R<|cj @M<|cj @J<|cj (G.1)<|cj (G.2)<|vI) trivial ⟨?_⟩;exact⟨⟨k+1,by omega,E⟩,by simp only;omega,wd 1⟩
 | false=>rw[G,D4]at E;simp[fR]at G;rw[E,D4];exact wz (cj6 @F @B @I @R @M @J vI) trivial
 rw[ij B,List.all_nil]at E;rw[E,Cd];have I : ¬(k:Int)<(s.size:Int):=by omega
 have S:((s.size:Int)<=16)=(s.size<=16):=by rw[eq_iff_iff];omega
 have U:((1:Int)<=(s.size:Int))=(1<=s.size):=by rw[eq_iff_iff];omega
 exact wz (cj6 @F @Q @B @I @S @U vI) trivial
def SE (l:List En)(k:Nat):ByteArray->Bool:=ja (l.take k)
theorem ATp (l:List En):SE l 0=λ_=>false:=by funext s;simp[SE,ja]
theorem ATq (l:List En)(k:Nat)(e:En)(h:l[k]?=some e):Z6 (SE l k) e.text=SE l (k+1):=by
 funext s;unfold Z6 SE;rw[UC,h];simp only[Option.toList_some,ja,List.any_append,List.any_cons,List.any_nil,Bool.or_false];rw[Bool.or_comm];congr 1
 simp only[decide_eq_decide];exact eq_comm
theorem sM (l:List En)(hl:l.length<=1000000)(hs : ∀e∈l,e.text.size<=maxLen):AC AF 65 [.c (Cc l)] (.c (.bool (Ll l))):=by
 obtain⟨rs,q⟩:=AI (l.map En.row);have G:rs.length=l.length:=by rw[<-q,Ch]
 unfold Cc Ll;rw[q];by_cases I:l.length<=200
 . rw[decide_eq_true I,Bool.and_true];have z : ¬(200:Int)<(l.length:Int):=by omega
   refine en func65 ntmps65 ?_;refine wu (.mk 3) (cj2 @G @z UR) trivial ⟨?_⟩;refine AW.DA ?_;refine CY (.mk 2) @G ?_;refine SW.Tq (.mp 0) (some (0,.mp (Kt 0 (SE l 0)))) (λk ob e=>by cases e;exact BN _) rfl (λS0 w0 x a w g J=>?_) ?_;rw[ATp];exact AVJ g rfl (CW J (.tmp 10)) 0 (λhd=>by obtain⟨o,S⟩:=g.dom 0 hd;simp at S);simp only[St.step,St.put,Bk,BO,BU,IY,if_false,Ai,Ag];refine CY (.mk 1) trivial ?_;refine SW.nil ?_;refine wy (cj @G<|UR) trivial ⟨?_⟩;refine lp (ι:={ k:Nat // k<=l.length/\WQ [] l=WQ (l.take k) (l.drop k) }) (λk=>[(2,.c (.bool false)),(14,.c (.int .i64 (k.1:Int)))]) (λk=>[.mp (Kt k.1 (SE l k.1))]) (λk=>l.length - k.1) ⟨0,by simp⟩ ?_ ?_;all_goals simp only[puts,Bw,CO,Ag,Ai]
   exact DH
   . rintro ⟨k,hk,E⟩;simp only;by_cases F:k<l.length
     . obtain⟨e,M⟩:∃e,l[k]?=some e:=⟨_,BE F⟩
       have U:rs[k]?=some e.row:=by rw[<-q,CM,M];rfl
       have Dp:k<rs.length:=by omega
       have Bu:=gx U;rw[D5 F,gx M]at E;simp only[WQ]at E;have Q:=AV8 e (hs e (Cj M));unfold WH at Q;have GP:l.take k++[e]=l.take (k+1):=by rw[UC,M];rfl
       have TU:=ATq l k e M;have A0:SE l k e.text=ja (l.take k) e.text:=rfl;rw[GP,<-A0]at E;cases S:e.ok with
       | false=>rw[S]at Q E;rw[D4]at E;rw[E];exact wz (cj5 @G @F @Dp @U @Bu UR) (cj Q<|trivial)
       | true =>
         rw[S]at Q E;rw[Cd]at E;refine wu (.mk 7) (cj5 @G @F @Dp @U @Bu UR) trivial ⟨?_⟩;refine AW.DA ?_;refine SW.take 2 (AH.out ?_);simp only[DP,List.take_zero];have R:=(cj @G<|UR)
         repeat any_goals (first|refine Eo ?_|exact Bt R|refine De R ?_|refine BV R (Q) ?_|refine DI R ?_)
         simp only[CU,B9];refine CY (.mk 5) trivial ?_;refine SW.Tq (.c (.bool (SE l k e.text))) none (λ_ _ e=>nomatch e) (by simp[BQ]) (λS0 w0 x a w g J=>?_) ?_;exact AVF g rfl (CW J (.tmp 22)) (CW J (.tmp 24)) rfl;simp only[St.step,St.put,Bk,Ai,Ag];generalize hB:SE l k e.text=B at E ⊢;refine CY (.mk 1) trivial ?_;refine SW.nil ?_;cases B with
         | true=>rw[Bool.not_true,D4]at E;rw[E];exact wz UR trivial
         | false =>
           rw[Bool.not_false,Cd]at E;refine wu (.mk 9) UR trivial ⟨?_⟩;refine AW.DA ?_;refine CY (.mk 3) trivial ?_;refine SW.Tq .any (some (0,.mp (Kt (k+1) (SE l (k+1))))) (λk ob e=>by cases e;exact Nat.zero_le _) rfl (λS0 w0 x a w g J=>?_) ?_;rw[<-TU];exact AVH g rfl (CW J (.tmp 27)) (CW J (.tmp 29)) rfl rfl (by unfold maxLen;omega);simp only[St.step,St.put,Bk,BA,BO,Nat.reduceAdd,Nat.reduceLT,if_true,Ai,Ag];refine SW.nil ?_;refine wy UR trivial ⟨?_⟩;exact⟨⟨k+1,by omega,E⟩,by simp only;omega,wd 1⟩
     rw[FA (by omega)]at E;simp only[WQ]at E;rw[E];exact wz (cj2 @G @F UR) trivial
 rw[decide_eq_false I,LV];have z:(200:Int)<(l.length:Int):=by omega
 refine en func65 ntmps65 ?_;exact wz (cj2 @G @z UR) trivial
theorem AWI (e:En)(t:ByteArray):AC AF 335 [.agg e.vs,.cp [.str t] 0] (.c (.bool (decide (e.text=t)))):=by
 refine en func335 ntmps335 ?_;exact wz results335 trivial
theorem AWJ (l:List En)(t:ByteArray)(hl:l.length<=1000000):AC AF 334 [.c (Cc l),.fn 335 [.cp [.str t] 0]] (.c (.int .i64 (Mn l t))):=by
 obtain⟨q,M⟩:=AI (l.map En.row);have F:q.length=l.length:=by rw[<-M,Ch]
 obtain⟨R,Q⟩:=AI (Mn l t);unfold Cc;rw[M,Q];refine en func334 ntmps334 ?_;refine wy (cj @F<|vT) trivial ⟨?_⟩;refine lp (ι:={ k:Nat // k<=l.length/\∀(i:Nat) (x:En),i<k->l[i]?=some x->¬x.text=t }) (λk=>[(4,.c (.int .i64 0)),(8,.c (.int .i64 (k.1:Int)))]) (λ_=>[]) (λk=>l.length - k.1) ⟨0,by simp⟩ ?_ ?_;all_goals simp only[puts,Bw,CO,Ag,Ai]
 exact DH;rintro ⟨k,hk,hI⟩;simp only;have E:=AHq l t k hI;rw[Q]at E;by_cases B:k<l.length;obtain⟨e,S⟩:∃e,l[k]?=some e:=⟨_,BE B⟩
 have J:q[k]?=some e.row:=by rw[<-M,CM,S];rfl
 have Dp:k<q.length:=by omega
 have z:=gx J;have G:=AWI e t;rw[D5 B,gx S]at E;by_cases I:e.text=t;rw[decide_eq_true I]at G;have Uw:R=(k:Int):=by simpa [Mn,I]using E
 rw[Uw];clear E Uw Q;exact wz (cj5 @F @B @Dp @J @z vT) (cj G<|trivial);rw[decide_eq_false I]at G;refine wy (cj5 @F @B @Dp @J @z vT) (cj G<|trivial) ⟨?_⟩;refine⟨⟨k+1,by omega,λi x hi U=>?_⟩,by simp only;omega,wd 0⟩;by_cases e':i=k;subst e';rw[S]at U;cases U;exact I;exact hI i x (by omega) U;rw[FA (by omega)]at E;simp only[Mn]at E;rw[if_pos trivial]at E;exact wz (cj3 @F @B @E vT) trivial
theorem AWK (l:List En)(t:ByteArray)(B:l.length<=1000000):AC AF 294 [.c (Cc l),.c (.str t)] (.c (.int .i64 (Mn l t))):=by
 have h:=AWJ l t B;refine en func294 ntmps294 ?_;refine wu (.mk 1) results294 trivial ⟨?_⟩;refine Cn 0 ?_;exact wz results294 (cj h<|trivial)
theorem AA8 (l:List En)(t:ByteArray)(q:l.length<=1000000):AC AF 242 [.c (Cc l),.c (.str t)] (WH (He l t)):=by
 have h:=AWK l t q;obtain⟨I,E⟩:=AI (l.map En.row);have M:I.length=l.length:=by rw[<-E,Ch]
 unfold Cc at *
 rw[E]at h ⊢;unfold WH;rcases AAF l t with ⟨F,B⟩|⟨k,F,B⟩
 rw[F]at h;rw[B];simp only[En.vs,En.row,Ap,BB];refine en func242 ntmps242 ?_;exact wz results242 (cj h<|trivial);rw[F]at h;generalize z:He l t=R at B ⊢;have G:k<l.length:=(Br.1 B).1;have J:I[k]?=some R.row:=by rw[<-E,CM,B];rfl
 have S:k<I.length:=by omega
 have Q:=gx J;have U:(0:Int)<=(k:Int):=by omega
 refine en func242 ntmps242 ?_;exact wz (cj6 @M @G @S @J @Q @U results242) (cj h<|trivial)
mutual
def AA.fit:AA->Prop
 | ⟨_,_,_,_,_,_,_,_,AE,_,src⟩=>AE.length<=maxLen/\src.length<=maxLen/\AA.fits AE
def AA.fits:List AA->Prop
 | []=>True
 | b::l=>b.fit/\AA.fits l
end
theorem Dt : ∀l:List AA,AA.AG l=l.map AA.row
 | []=>rfl
 | x::l=>by simp only[AA.AG,Ap];rw[Dt l]
mutual
def AA.cnt:AA->Nat
 | ⟨_,_,_,_,_,_,_,_,AE,_,_⟩=>1+AA.Az AE
def AA.Az:List AA->Nat
 | []=>0
 | b::l=>b.cnt+AA.Az l
end
mutual
def AA.Fq:AA->Prop
 | ⟨_,_,_,_,_,_,_,_,AE,_,src⟩=>src.length<=1000000/\AA.JH AE
def AA.JH:List AA->Prop
 | []=>True
 | b::l=>b.Fq/\AA.JH l
end
theorem wm :0<b.cnt:=by cases b;simp only[AA.cnt];omega
theorem Ud : ∀l:List AA,l.length<=AA.Az l
 | []=>BN _
 | b::l=>by have:=Ud l;have:=wm b;simp only[AA.Az,BA];omega
theorem bj : ∀(l:List AA) (i:Nat) (b:AA),l[i]?=some b->i+b.cnt<=AA.Az l
 | [],i,b,h=>by simp at h
 | x::l,0,b,h=>by simp at h;subst h;simp only[AA.Az];omega
 | x::l,i+1,b,h=>by have:=bj l i b (by simpa using h);have:=wm x;simp only[AA.Az];omega
theorem pX : ∀(l:List AA) (i:Nat) (b:AA),AA.JH l->l[i]?=some b->b.Fq
 | [],i,b,_,h=>by simp at h
 | x::l,0,b,B,h=>by simp at h;subst h;exact B.1
 | x::l,i+1,b,B,h=>pX l i b B.2 (by simpa using h)
theorem Nk :b.row.length=11:=by cases b;rfl
theorem lE (l:List AA):∀r∈AA.AG l,r.length=11:=by
 rw[Dt];intro r B;obtain⟨b,_,rfl⟩:=Da.1 B;exact Nk b
theorem flat_get {l:List AA}{i q:Nat}{b:AA}(h:l[i]?=some b)(B:q<11):((AA.AG l).flatten.map V.c)[i*11+q]?=(b.row.map V.c)[q]?:=by
 rw[CM,CM];congr 1
 rw[Dt];induction l generalizing i with
 | nil=>simp at h
 | cons x l ih =>
   cases i with
   | zero=>simp at h;subst h;rw[Ap,Hp,AC8,Cz,EJ (by rw[Nk];exact B)]
   | succ i =>
     rw[Ap,Hp,Gy (by rw[Nk];omega),Nk,<-ih (i:=i) (by simpa using h)];congr 1
     omega
theorem ADp {N:Nat} : ∀ {l:List V} {i:Nat},l[i]?=some (.c (.sl []))->V.Em N l=true->EM (Jq 2) N (l.set i (.Bg [])) l
 | [],i,h,_=>by simp at h
 | v::l,0,h,B=>by
   simp at h;subst h;simp only[V.Em,Ak]at B;exact⟨.inr (.inr ⟨[],rfl,rfl⟩),UW B.2 (BN _)⟩
 | v::l,i+1,h,B=>by
   simp only[V.Em,Ak]at B;rw[Ai];exact⟨.inr (.inl ⟨(AKn (N:=N) (λk _ E=>by simp[Jq,E]) v B.1).symm,(AKm (BN _) v B.1).1⟩),ADp (by simpa using h) B.2⟩
theorem xH {N n:Nat}{t:List V}(G:2<N)(I:t.length=71)(J:t.take 4=[.any,.ptr 0 0,.ptr 1 0,.own 2 0 n 1]):EM (Jq 2) N t (dT n):=by
 have e:t=[.any,.ptr 0 0,.ptr 1 0,.own 2 0 n 1]++t.drop 4:=by rw[<-J,List.take_append_drop]
 rw[e];have B:(67:Nat)=(t.drop 4).length:=by rw[List.length_drop,I]
 unfold dT;rw[B];refine EM.append ?_ (EM.any _);have E:0<N:=by omega
 have F:1<N:=by omega
 simp[EM,Wk,V.GS,V.A8,Jq,G,E,F]
section
variable {K:Exit->St->Prop}
abbrev DL (K:Exit->St->Prop)(s:St):Prop:=LA ⟨none,0⟩ AF P8 K s
def iF (K:Exit->St->Prop)(b:AA):Prop:=∀(H:List O) (st:List V) (j k off:Nat) (ty:TypeId) (cs:List V),H[2]?=some (Gw (st++[.ptr k off]) j)->H[k]?=some (.box ty cs false)->k≠2->(∀q,q<11->cs[off+q]?=(b.row.map V.c)[q]?)->Kw H->V.Em H.length st=true->st.length+b.cnt<1000000->
 (∀j',DL K ⟨dT st.length,H.set 2 (Gw st j')⟩)->DL K ⟨dT (st.length+1),H⟩
theorem AE4 (AE:List AA)(hk : ∀(i:Nat) (b:AA),AE[i]?=some b->iF K b)(G:List O)(st:List V)(L:Nat)(I:G[L]?=some (.box 41 ((AA.AG AE).flatten.map V.c) false))(E:L≠2)(R:2<G.length)(S:Kw G)(B:V.Em G.length st=true)(hb:st.length+AA.Az AE<1000000)(U : ∀Q,DL K ⟨dT st.length,G.set 2 (Gw st Q)⟩):∀(i j:Nat),i<=AE.length->DL K ⟨dT (st.length+i),G.set 2 (Gw (st++F0 L i) j)⟩
 | 0,j,_=>by
   have:F0 L 0=[]:=rfl;rw[this,E5];exact U j
 | i+1,j,hi=>by
   have M:i<AE.length:=hi;obtain⟨b,F⟩:∃b,AE[i]?=some b:=⟨_,BE M⟩
   have Io:L<G.length:=(Br.1 I).1;have:=bj AE i b F;have J:(st++F0 L i).length=st.length+i:=by rw[List.length_append,AJ0]
   have:=hk i b F (G.set 2 (Gw (st++F0 L (i+1)) j)) (st++F0 L i) j L (i*11) 41 _ (by rw[IX R,ABM,GX]) (by rw[HF (λe=>E e.symm)];exact I) E (λq hq=>flat_get F hq)
    (by intro a o z ho;rw[HF (λe=>z e.symm)]at ho;rw[GF];exact S a o z ho) (by rw[GF];exact sy.2 ⟨B,ABL _ Io E⟩) (by rw[J];omega)
    (λQ=>by rw[List.set_set,J];exact AE4 AE hk G st L I E R S B hb U i Q (by omega))
   rw[J]at this;exact this
theorem AOr (Q:b.AE=[])(hd:b.Fq):iF K b:=by
 intro H st j k B ty I J F G M S VA hb hK;obtain⟨b0,b1,b2,b3,b4,b5,b6,b7,AE,b9,src⟩:=b;simp only at Q;subst Q;have U:I[B+8]?=some (.c (.sl [])):=M 8 (by omega);have Rj:I[B+10]?=some (.c (AV src)):=M 10 (by omega);have R:2<H.length:=(Br.1 J).1;obtain⟨_,_,_,Iw,Ym⟩:=S k _ G F;cases Iw;refine LA.round (AOo H st.length k B ty I _ src J F G ?_ (by omega) hd.1 U Rj λt hl ht=>?_);rw[GX,Gy (BN _)];simp;refine LA.le (Le.Gw 2 (.inl rfl) ?_ ⟨Gw (st++[.ptr k B]) j,_,?_,IX R,?_⟩ (λa z q E=>?_)) (hK (j+1));rw[GF];exact xH R hl ht;rw[HF G];exact J;rw[GF];unfold Gw;rw[GX];exact⟨rfl,rfl,EM.append (UW VA (BN _)) (by have:=EM.any (ρ:=Jq 2) (N:=H.length) ([V.ptr k B]++Aq j .any);simpa [Nat.add_comm]using this)⟩;rw[HF (λe=>q e.symm)]at E;rw[GF];by_cases e:a=k;subst e;rw[F]at E;cases E;exact⟨_,IX (Br.1 F).1,rfl,rfl,ADp U Ym⟩;exact⟨z,by rw[HF (λh=>e h.symm)];exact E,oJ (S a z q E) (BN _)⟩
theorem toCs_map : ∀l:List C,toCs (l.map V.c)=some l
 | []=>rfl
 | c::l=>by simp only[Ap,toCs,toC,toCs_map l]
theorem AOs (Iu:b.AE≠[])(hd:b.Fq)(ih : ∀(i:Nat) (c:AA),b.AE[i]?=some c->iF K c):iF K b:=by
 intro H st j k B ty G h2 R EG Bn M U hb hK;obtain⟨b0,b1,b2,b3,b4,b5,b6,b7,AE,b9,src⟩:=b;simp only at Iu ih;simp only[AA.cnt]at hb;have Rk:G[B+8]?=some (.c (.sl (AA.AG AE))):=Bn 8 (by omega);have Rj:G[B+10]?=some (.c (AV src)):=Bn 10 (by omega);have N9:2<H.length:=(Br.1 h2).1;have Ce:k<H.length:=(Br.1 R).1;have Av:(AA.AG AE).length=AE.length:=by rw[Dt];simp
 have QP:0<AE.length:=List.length_pos_iff.2 Iu;have DK:=Ud AE;obtain⟨_,_,_,Iw,q⟩:=M k _ EG R;cases Iw;refine LA.round (AOp H st.length k B ty G src (AA.AG AE) st j rfl h2 R EG (by omega) hd.1 Rk Rj (by omega) (by omega) (lE AE) M U (by omega) λj'=>?_);obtain⟨F,Q⟩:∃F,F=H.set k (O.box ty (G.set (B+8) (.own H.length 0 (AA.AG AE).length 11)) false)++[O.box 41 ((AA.AG AE).flatten.map V.c) false]:=⟨_,rfl⟩
 have e4:F=(H++[O.box 41 ((AA.AG AE).flatten.map V.c) false]).set k (O.box ty (G.set (B+8) (.own H.length 0 (AA.AG AE).length 11)) false):=by rw[Q,List.set_append_left _ _ Ce]
 have l4:F.length=H.length+1:=by rw[Q];simp
 have s4:Kw F:=by
  rw[e4];refine Kw.set (Kw.push M (ABl _)) (AKo ?_ ?_);exact(SZ (by simp) G q).2;simp[V.sf];omega
 have L4:F[H.length]?=some (.box 41 ((AA.AG AE).flatten.map V.c) false):=by rw[Q,Gy (by simp)];simp
 rw[<-Q];have lL:V.Em F.length st=true:=(SZ (by omega) st U).2;have key:=AE4 AE ih F st H.length L4 (by omega) (by omega) s4 lL (by omega) (λj2=>?_) AE.length j' (BN _);refine LA.le (Le.Gw 2 (.inl rfl) ?_ ⟨_,_,IX (by omega),IX (by omega),?_⟩ (λa S I E=>?_)) key;rw[GF];rw[Av];exact xH (by omega) rfl rfl;rw[GF,Av];exact⟨rfl,rfl,EM.append (UW (sy.2 ⟨lL,ABL _ (by omega) (by omega)⟩) (BN _)) (by have:=EM.any (ρ:=Jq 2) (N:=F.length) (Aq j' V.any);simpa using this)⟩;rw[GF];rw[HF (λe=>I e.symm)]at E;exact⟨S,by rw[HF (λe=>I e.symm)];exact E,oJ (s4 a S I E) (BN _)⟩
 .
   refine LA.le (Le.trans (Le.freeze H.length (row:=(AA.AG AE).flatten) (by rw[HF (by omega)];exact L4) (toCs_map _)) (Le.Gw 2 (.inl rfl) ?_ ⟨O.Bi H.length (AA.AG AE).flatten (Gw st j2),_,?_,IX N9,?_⟩ (λa S I E=>?_))) (hK j2);rw[GF];have:V.Cs H.length (AA.AG AE).flatten (dT st.length)=dT st.length:=by
    have A0 : ¬2=H.length:=by omega
    have z : ¬1=H.length:=by omega
    have qB : ¬0=H.length:=by omega
    simp[dT,BY,V.Cs,V.Bi,A0,z,qB]
   rw[this];exact xH N9 rfl rfl;rw[CM,HF (by omega),IX (by omega)];rfl;rw[GF];have J:V.Em H.length (st++Aq j2 .any)=true:=sy.2 ⟨U,fC.2 λv hv=>by rw[(List.mem_replicate.1 hv).2];rfl⟩;simp only[O.Bi,Gw];rw[Zw (BN _) _ J];exact⟨rfl,rfl,UW J (BN _)⟩;rw[GF];rw[HF (λe=>I e.symm)]at E;have FE:a<H.length:=(Br.1 E).1;rw[CM,HF (by omega),HF (λe=>I e.symm),e4];by_cases e:a=k;subst e;rw[R]at E;cases E;rw[IX (by simp;omega)];refine⟨_,rfl,?_⟩;simp only[O.Bi];have:V.Cs H.length (AA.AG AE).flatten (G.set (B+8) (.own H.length 0 (AA.AG AE).length 11))=G:=by
    rw[xd,List.map_set,<-xd,Zw (BN _) _ q];simp only[V.Bi,if_true,B9];rw[bZ _ (lE AE)];exact ez Rk
   rw[this];exact⟨rfl,rfl,UW q (BN _)⟩;rw[HF (λh=>e h.symm),EJ FE,E];obtain⟨A2,A1,py,rfl,J⟩:=M a S I E;refine⟨_,rfl,?_⟩;simp only[O.Bi];rw[Zw (BN _) _ J];exact⟨rfl,rfl,UW J (BN _)⟩
theorem AE5 : ∀(b:AA),b.Fq->iF K b
 | ⟨J,M,Q,R,S,U,q,z,B,b9,src⟩,E=>by
   by_cases F:B=[]
   exact AOr _ F E;refine AOs _ F E λi c G=>?_
   have I:c∈B:=Cj G;exact AE5 c (pX B i c E.2 G)
 termination_by b=>UF b
 decreasing_by
 have:=gD I;simp only[AA.mk.sizeOf_spec];omega
end
theorem pW (Q:b.Fq)(hc:b.cnt<999999):AC AF 130 [Ao b] (Ao b):=by
 obtain⟨R,E⟩:∃R,R=b.row.map V.c:=⟨_,rfl⟩
 have J:R.length=11:=by rw[E,Ch,Nk]
 have G:R.all V.one=true:=by rw[E];simp[V.one]
 have F : ∀x∈R,x.one=true:=by simpa using G
 unfold Ao;refine en func130 ntmps130 ?_;rw[<-E];refine go (cj2 @J @G @F) ?_;with_reducible refine AW.DA ?_
 refine SW.OU (λv t=>v=.own 2 0 1 1/\t=some (2,.box 186 [.ptr 0 0] false)) (by simp[BQ]) ?_ ?_;intro S0 w0 x a w g S I;exact⟨_,_,λ_ _ h=>(by cases h;exact BN _),⟨rfl,rfl⟩,AIw (P:=AF) (Bq:=8) g rfl (by simp) (O4 S (i:=1) rfl) rfl _ I⟩;rintro v t ⟨rfl,rfl⟩;simp only[St.step,St.put,Bk,BA,BO,Nat.reduceAdd,IY,if_false,Ai,Ag,BK,BU];refine CY (.mk 1) trivial ?_;refine SW.nil ?_;with_reducible refine G3 ?_
 with_reducible refine AW.seq ?_
 with_reducible refine AW.block ?_
 with_reducible refine LA.loop ?_
 refine LA.le (s':=⟨dT 1,_⟩) (Le.weak (by simp[DG,dT,BY])) ?_;refine AE5 b Q _ [] 0 0 0 41 R rfl rfl (by omega) (λq hq=>by rw[E,Cz]) ?_ rfl (by simp only[BO];omega) (λj'=>?_);intro a o M B;match a,B with
 | 0,B=>cases B;exact⟨_,_,_,rfl,by rw[E];exact ABl _⟩
 | 1,B=>cases B;exact⟨_,_,_,rfl,rfl⟩
 | 2,B=>exact absurd rfl M
 | a+3,B=>simp at B
 refine LA.round ?_;conv=>arg 3;unfold P8
 obtain⟨z,b1,b2,b3,b4,b5,b6,b7,U,b9,src⟩:=b;simp only[AA.row,Ap,BB]at E;subst E;simp only[il,Tryz.f130,dT,BY,Cy,BK,BU,BO,Ai,Ag,Gw];refine Ah ?_;exact At (cj results130<| @AA.row.eq_1)
def I7 (o:Int)(n:Nat):Bool:=if o=0 then decide (n=0)else if o=1 then(decide (n % 2=0) && decide (n<=48))else if o=2 then(decide (n % 2=1) && decide (n<=49))else false
def HT (l:List Int):Bool:=l.all λn=>decide (0<=n)
def AA.Js (b:AA):Bool:=HT b.src && I7 b.of_ b.src.length
def AA.lens (b:AA):List Int:=[b.w,b.h,b.d,b.x,b.y]
def AA.Fi (b:AA):Bool:=
 if b.kind=1 then Ck b.name && (decide (1<=b.size) && (decide (b.size<=1000) && decide (b.AE.length=0)))
 else if b.kind=2 then decide (b.name=⟨#[]⟩) && (decide (b.size=0) && decide (b.AE.length=0))
 else if b.kind=3 then decide (b.name=⟨#[]⟩) && decide (b.size=0)
 else false
def AA.Cl (b:AA):Bool:=b.lens.all An && (b.Fi && b.Js)
mutual
def AA.D8:AA->Bool
 | ⟨k,n,s,w,h,d,x,y,AE,o,src⟩=>AA.Cl ⟨k,n,s,w,h,d,x,y,AE,o,src⟩ && AA.FU AE
def AA.FU:List AA->Bool
 | []=>true
 | b::l=>b.D8 && AA.FU l
end
mutual
def AA.nest:AA->Nat
 | ⟨_,_,_,_,_,_,_,_,AE,_,_⟩=>AA.Hk AE+1
def AA.Hk:List AA->Nat
 | []=>0
 | b::l=>max b.nest (AA.Hk l)
end
def AA.Ad (b:AA):Bool:=b.D8 && (decide (b.cnt<=20000) && decide (b.nest<=100))
mutual
def AA.pv (dep:Nat):AA->Nat->Bool×Nat
 | ⟨k,n,s,w,h,d,x,y,AE,o,src⟩,c=>if 20000<c+1\/100<dep\/AA.Cl ⟨k,n,s,w,h,d,x,y,AE,o,src⟩=false then(false,c+1)else AA.HU (dep+1) AE (c+1)
def AA.HU (dep:Nat):List AA->Nat->Bool×Nat
 | [],c=>(true,c)
 | b::l,c=>if (b.pv dep c).1=true then AA.HU dep l (b.pv dep c).2 else(false,(b.pv dep c).2)
end
mutual
theorem ABP (E:Nat):∀(b:AA) (c:Nat),(b.pv E c).2<=c+b.cnt/\((b.pv E c).1=true->(b.pv E c).2=c+b.cnt)/\((b.pv E c).1=true↔b.D8=true/\c+b.cnt<=20000/\E+b.nest<=101)
 | ⟨k,n,s,w,h,d,x,y,G,o,src⟩,c=>by
   have Q:=AJ9 (E+1) G (c+1);simp only[AA.pv,AA.cnt,AA.D8,AA.nest];generalize q:AA.Cl ⟨k,n,s,w,h,d,x,y,G,o,src⟩=B;have z:=Ud G;split;rename_i F;refine⟨by simp only;omega,λh=>(by cases h),⟨λh=>(by cases h),λh=>?_⟩⟩;simp only[Ak]at h;rcases F with F|F|F
   omega;omega;rw[F]at h;cases h.1.1;rename_i F;have S:B=true:=by cases B with
    | true=>rfl
    | false=>exact absurd (.inr (.inr rfl)) F
   refine⟨by omega,λh=>by have:=Q.2.1 h;omega,?_⟩;rw[Q.2.2,S,Cd];have R:E<=100:=Hq λh=>F (.inr (.inl h))
   have U:c+1<=20000:=Hq λh=>F (.inl h)
   constructor;rintro ⟨I,J,M⟩;refine⟨I,?_,?_⟩;rcases J with J|rfl
   omega;simp only[AA.Az];omega;rcases M with rfl|M
   simp only[AA.Hk];omega;omega;rintro ⟨I,J,M⟩;exact⟨I,.inl (by omega),.inr (by omega)⟩
theorem AJ9 (B:Nat):∀(l:List AA) (c:Nat),(AA.HU B l c).2<=c+AA.Az l/\((AA.HU B l c).1=true->(AA.HU B l c).2=c+AA.Az l)/\((AA.HU B l c).1=true↔AA.FU l=true/\(c+AA.Az l<=20000\/l=[])/\(l=[]\/B+AA.Hk l<=101))
 | [],c=>by simp[AA.HU,AA.Az,AA.FU]
 | b::l,c=>by
   have J:=ABP B b c;have M:=AJ9 B l (b.pv B c).2;have R:=wm b;simp only[AA.HU,AA.Az,AA.FU,AA.Hk];split;rename_i G;have e:=J.2.1 G;rw[e]at M;obtain⟨Q,S,U⟩:=J.2.2.1 G;rw[e];refine⟨by omega,λh=>by have:=M.2.1 h;omega,?_⟩;rw[M.2.2,Q,Cd];constructor;rintro ⟨I,E,F⟩;refine⟨I,.inl ?_,.inr ?_⟩;rcases E with E|rfl
   omega;simp only[AA.Az];omega;rcases F with rfl|F
   simp only[AA.Hk];omega;omega;rintro ⟨I,E,F⟩;simp only[reduceCtorEq,or_false,false_or]at E F;exact⟨I,.inl (by omega),.inr (by omega)⟩;rename_i G;refine⟨by simp only;omega,λh=>(by cases h),⟨λh=>(by cases h),λh=>?_⟩⟩;simp only[Ak,reduceCtorEq,or_false,false_or]at h;exact absurd (J.2.2.2 ⟨h.1.1,by omega,by omega⟩) G
end
theorem AXK :(b.pv 1 0).1=b.Ad:=by
 have h:=(ABP 1 b 0).2.2;unfold AA.Ad;rw[Bool.eq_iff_iff,h];simp only[Ak,decide_eq_true_eq];constructor;rintro ⟨a,b,c⟩;exact⟨a,by omega,by omega⟩;rintro ⟨a,b,c⟩;exact⟨a,by omega,by omega⟩
theorem ANx (s:ByteArray)(hs:s.size<=maxLen):AC AF 265 [.c (.str s)] (.c (.bool (Ck s))):=by
 unfold maxLen at hs;refine en func265 ntmps265 ?_;refine Ah ?_;refine lp (ι:={ k:Nat // k<=s.size/\s.data.toList.all Dx=(s.data.toList.drop k).all Dx }) (λk=>[(3,.c (.int .i64 (k.1:Int))),(2,.c (.bool false))]) (λ_=>[]) (λk=>s.size - k.1) ⟨0,by simp⟩ ?_ ?_;all_goals simp only[puts,Bw,CO,Ag,Ai]
 exact DH;rintro ⟨k,U,F⟩;by_cases B:k<s.size;have M:s.data.toList.drop k=(s.data[k]'B)::s.data.toList.drop (k+1):=by rw[D5 (by simpa using B)];simp
 rw[M,Ep]at F;obtain⟨b,G⟩:=AI (s.data[k]'B);rw[G]at F;have Q:AZ.wrap ((k:Int)+1)=((k+1:Nat):Int):=by rw[Ac];simp
 by_cases E:(b.toNat:Int)<32;have e:Dx b=false:=by simp[Dx];omega
 refine go (cj2 @B @G @E) ?_;exact At (cj3 vQ @Ck.eq_1 @F @e);by_cases J:(126:Int)<(b.toNat:Int);have e:Dx b=false:=by simp[Dx];omega
 refine go (cj3 @B @G @E @J) ?_;exact At (cj3 vQ @Ck.eq_1 @F @e);have e:Dx b=true:=by simp[Dx];omega
 refine go (cj4 @B @G @E @J @Q) ?_;refine⟨⟨k+1,by omega,by rw[F,e,Cd]⟩,by simp only;omega,?_⟩;exact DH;have S:k=s.size:=by omega
 have e:s.data.toList.all Dx=true:=by rw[F,FA (by simp;omega)];rfl
 have R:s.size=s.data.size:=rfl;by_cases E:(1:Int)<=(s.size:Int);have I:Ck s=decide ((s.size:Int)<=16):=by
  unfold Ck;rw[e,Cd,decide_eq_true (show 1<=s.size by omega),Cd,decide_eq_decide];omega
 refine go (cj @B<|@E) ?_;exact At (cj vQ<| @I);have I:Ck s=false:=by
  unfold Ck;rw[decide_eq_false (show ¬1<=s.size by omega),D4,LV]
 refine go (cj @B<|@E) ?_;exact At (cj vQ<| @I)
theorem AIb (n:Nat)(h:n<=9223372036854775807):AZ.wrap ((n:Int).tmod 2)=((n % 2:Nat):Int):=by
 have B:(n:Int).tmod 2=((n % 2:Nat):Int):=by rw[Int.tmod_eq_emod_of_nonneg (by omega)];omega
 rw[B];exact Ac
theorem Zn (M:Int)(Q:ByteArray)(R S U q b6 b7:Int)(AE:List AA)(o:Int)(src:List Int)(hs:src.length<=maxLen):AC AF 266 [.cp (AA.row ⟨M,Q,R,S,U,q,b6,b7,AE,o,src⟩) 0] (.c (.bool (AA.Js ⟨M,Q,R,S,U,q,b6,b7,AE,o,src⟩))):=by
 unfold maxLen at hs;have hR:AA.Js ⟨M,Q,R,S,U,q,b6,b7,AE,o,src⟩=(HT src && I7 o src.length):=rfl;rw[hR];have I:=AIb src.length hs;simp only[AA.row];refine en func266 ntmps266 ?_;refine go @AV.eq_1 ?_;refine lp (ι:={ k:Nat // k<=src.length/\HT src=HT (src.drop k) }) (λk=>[(11,.c (.int .i64 (k.1:Int))),(2,.c (.bool false))]) (λ_=>[]) (λk=>src.length - k.1) ⟨0,by simp⟩ ?_ ?_;all_goals simp only[puts,Bw,CO,Ag,Ai]
 exact DH;rintro ⟨k,hk,G⟩;by_cases B:k<src.length;rw[D5 B]at G;obtain⟨z,hz⟩:=AI (src[k]);rw[hz]at G;have hw:AZ.wrap ((k:Int)+1)=((k+1:Nat):Int):=by rw[Ac];simp
 by_cases h1:z<0;have e:HT src=false:=by rw[G];simp[HT];omega
 refine go (cj2 @B @hz @h1) ?_;exact At (cj aV<| @e);have e:HT src=HT (src.drop (k+1)):=by rw[G];simp[HT];intro;omega
 refine go (cj3 @B @hz @h1 @hw) ?_;refine⟨⟨k+1,by omega,e⟩,by simp only;omega,?_⟩;exact DH;have e:HT src=true:=by rw[G,FA (by omega)];rfl
 by_cases o0:o=0;subst o0;have E:I7 0 src.length=decide (src.length=0):=rfl;refine go (cj @B<|@AV.eq_1) ?_;exact At (cj2 aV @e @E);by_cases o1:o=1;subst o1;by_cases F:src.length % 2=0;have E:I7 1 src.length=decide ((src.length:Int)<=48):=by simp[I7,F];omega
 refine go (cj3 @B @AV.eq_1 @I @F) ?_;exact At (cj2 aV @e @E);have E:I7 1 src.length=false:=by simp[I7,F]
 have J:src.length % 2=1:=by omega
 refine go (cj3 @B @AV.eq_1 @I @J) ?_;exact At (cj2 aV @e @E);by_cases o2:o=2;subst o2;by_cases F:src.length % 2=1;have E:I7 2 src.length=decide ((src.length:Int)<=49):=by simp[I7,F];omega
 refine go (cj3 @B @AV.eq_1 @I @F) ?_;exact At (cj2 aV @e @E);have E:I7 2 src.length=false:=by simp[I7,F]
 have J:src.length % 2=0:=by omega
 refine go (cj3 @B @AV.eq_1 @I @J) ?_;exact At (cj2 aV @e @E);have E:I7 o src.length=false:=by simp[I7,o0,o1,o2]
 refine go (cj4 @B @AV.eq_1 @o0 @o1 @o2) ?_;exact At (cj2 aV @e @E)
theorem wq : ∀(l:List AA) (k:Nat),AA.Az (l.take k)<=AA.Az l
 | [],k=>by simp[AA.Az]
 | b::l,0=>by simp[AA.Az]
 | b::l,k+1=>by have:=wq l k;simp only[DP,AA.Az];omega
theorem AEv : ∀(l:List AA) (b:AA),b∈l->b.cnt<=AA.Az l
 | [],b,h=>by cases h
 | x::l,b,h=>by
   simp only[AA.Az];rcases Cf.1 h with rfl|h
   omega;have:=AEv l b h;omega
mutual
def AA.BX:AA->Prop
 | ⟨_,n,_,_,_,_,_,_,AE,_,src⟩=>n.size<=maxLen/\src.length<=maxLen/\AA.FY AE
def AA.FY:List AA->Prop
 | []=>True
 | b::l=>b.BX/\AA.FY l
end
theorem kl : ∀ {l:List AA},AA.FY l->∀b∈l,b.BX
 | [],_,b,h=>by cases h
 | x::l,B,b,h=>by
   simp only[AA.FY]at B;rcases Cf.1 h with rfl|h
   exact B.1;exact kl B.2 b h
theorem tV (f:AP)(p:Int):AC AF 339 [.agg f.vs,.c (.int .i64 p)] (AR (JF f p)):=by
 cases B:f.valid with
 | false=>refine en Xo vB ?_;refine Ah ?_;refine gc @B (Ma f) Hs ?_;refine Ah ?_;exact At (cj3 vU @AR.eq_1 @JF.eq_1 @B)
 | true =>
   by_cases E:p<1;refine en Xo vB ?_;refine Ah ?_;refine gc @B (Ma f) Hs ?_;refine go @E ?_;exact At (cj4 vU @AR.eq_1 @JF.eq_1 @B @E);by_cases F:100<p;refine en Xo vB ?_;refine Ah ?_;refine gc @B (Ma f) Hs ?_;refine go (cj @E<|@F) ?_;exact At (cj5 vU @AR.eq_1 @JF.eq_1 @B @E @F);refine en Xo vB ?_;refine Ah ?_;refine gc @B (Ma f) Hs ?_;refine go (cj @E<|@F) ?_;exact At (cj5 vU @AR.eq_1 @JF.eq_1 @B @E @F)
theorem AMA (f:AP)(name:ByteArray)(p:Int)(R:f.DR.length<=maxLen)(J:f.valid=true)(E:1<=p)(F:p<=100):AC AF 368 [.agg f.vs,.c (.str name),.c (.int .i64 p)] (.c (.int .i64 (XV f name p))):=by
 obtain⟨_,I⟩:=Pk J E F name;have U:=Zv J E F name;have Q:XV f name p=((f.pick name).scaled p).h+((f.pick name).scaled p).d:=by unfold XV;rw[I]
 have M:AZ.wrap (((f.pick name).scaled p).h+((f.pick name).scaled p).d)=XV f name p:=by rw[Q];exact Ac
 have B:=sw (f.pick name) p;rw[I]at B;generalize S:(f.pick name).scaled p=G at B M;refine en func368 ntmps368 ?_;refine Ah ?_;refine BZ (dy f name R) gO ?_;refine gc (cj3 @XT.eq_1 @AR.eq_1 @Hg.eq_1 @BG.row.eq_1) (B) func341 ?_;refine go @M ?_;exact At results368
theorem ACT (f:AP)(s:Bc)(r:Int)(hf:f.Fit)(hv:f.valid=true)(hs:s∈f.C5)(HP:1<=r)(G9:r<=1000):AC AF 369 [.agg f.vs,IU s,.c (.int .i64 r)] (.c (.int .i64 (LO f s r))):=by
 obtain⟨_,_,g3,g4,g5,g6⟩:=QG hv hs;have hT:LO f s r=(M3 f r 0 0 s.parts).1 - ((M3 f r 0 0 s.parts).2 - 1)*s.overlap:=rfl;unfold IU;refine AC.intro uw rfl ?_;simp only[ntmps369,Ap,BB,BA,BO,Nat.reduceAdd,Nat.reduceSub,BY,Cy,BK,BU,Bc.row];refine go @Ek.eq_1 ?_;refine lp (ι:={ q:Nat×Int×Int // q.1<=s.parts.length/\M3 f r 0 0 s.parts=M3 f r q.2.1 q.2.2 (s.parts.drop q.1)/\ -(40000000*(q.1:Int))<=q.2.1/\q.2.1<=40000000*(q.1:Int)/\(q.1:Int)<=q.2.2/\q.2.2<=1000*(q.1:Int) }) (λq=>[(15,.c (.int .i64 (q.1.1:Int))),(7,.c (.int .i64 q.1.2.1)),(8,.c (.int .i64 q.1.2.2))]) (λ_=>[.box 27 f.vs false,.box 117 (s.row.map V.c) false]) (λq=>s.parts.length - q.1.1) ⟨(0,0,0),by simp⟩ ?_ ?_;all_goals simp only[puts,Bw,CO,Ag,Ai]
 exact ER (cj @Bc.row.eq_1<|@Ek.eq_1);rintro ⟨⟨k,G,B⟩,hk,E,b1,b2,b3,b4⟩;simp only at hk E b1 b2 b3 b4 ⊢;have zh:=Qh s.overlap B 60000 8000 (by omega) g5 (by omega) (by omega);rw[fu s.overlap B]at zh;by_cases F:k<s.parts.length;obtain⟨q,z⟩:=AI (s.parts[k]);rw[D5 F,z]at E;simp only[M3]at E;have J:=Ql hv q.name;unfold BG.Small at J;have U:=dy f q.name hf.gl;generalize hg:f.pick q.name=g at J E U;have e3:AZ.wrap (g.h+g.d)=g.Dy:=Ac;have e1 : -40000<=g.Dy/\g.Dy<=40000:=by unfold BG.Dy;omega
 obtain⟨t1,t2⟩:=AB4 HP G9 q;have hw:AZ.wrap ((k:Int)+1)=((k+1:Nat):Int):=by rw[Ac];simp
 have R:=Qh g.Dy (times r q) 40000 1000 (by omega) (by omega) (by omega) t2;rw[fu g.Dy]at R;have I:AZ.wrap (times r q*g.Dy)=times r q*g.Dy:=Ac;have M:AZ.wrap (G+times r q*g.Dy)=G+times r q*g.Dy:=Ac;have S:AZ.wrap (B+times r q)=B+times r q:=Ac;cases Q:q.ext with
 | true =>
   have ht:times r q=r:=by simp[times,Q]
   rw[ht]at I M S E R t1 t2;refine go (cj5 @F @z @Bc.row.eq_1 @Ek.eq_1 @CR.row.eq_1 @Q) ?_;refine gc (cj @Hg.eq_1<|@BG.row.eq_1) (U) gO ?_;refine gc (cj4 @Hg.eq_1 @BG.row.eq_1 @e3 @I @M) (po g) nK ?_;refine go (cj @S<|@hw) ?_;refine⟨⟨(k+1,G+r*g.Dy,B+r),by omega,E,by simp only;omega,by simp only;omega,by simp only;omega,by simp only;omega⟩,by simp only;omega,?_⟩;refine Le.MI 2 (F2 rfl) (by simp[DG,Bc.row,Ek]) (by simp[Bc.row,Ek]) (by simp[V.BI,V.A8]) (by simp[O.A8,V.BI,V.A8,Bc.row,Ek])
 | false =>
   have ht:times r q=1:=by simp[times,Q]
   rw[ht]at I M S E R t1 t2;simp only[Int.one_mul]at I M E R;refine go (cj5 @F @z @Bc.row.eq_1 @Ek.eq_1 @CR.row.eq_1 @Q) ?_;refine gc (cj @Hg.eq_1<|@BG.row.eq_1) (U) gO ?_;refine gc (cj4 @Hg.eq_1 @BG.row.eq_1 @e3 @I @M) (po g) nK ?_;refine go (cj @S<|@hw) ?_;refine⟨⟨(k+1,G+g.Dy,B+1),by omega,E,by simp only;omega,by simp only;omega,by simp only;omega,by simp only;omega⟩,by simp only;omega,?_⟩;refine Le.MI 2 (F2 rfl) (by simp[DG,Bc.row,Ek]) (by simp[Bc.row,Ek]) (by simp[V.BI,V.A8]) (by simp[O.A8,V.BI,V.A8,Bc.row,Ek])
 have e:M3 f r 0 0 s.parts=(G,B):=by rw[E,FA (by omega)];rfl
 have hR:LO f s r=G - (B - 1)*s.overlap:=by rw[hT,e]
 have A0:(B - 1)*s.overlap=B*s.overlap - s.overlap:=by rw[Int.sub_mul];omega
 have w0:AZ.wrap (B - 1)=B - 1:=Ac;have w1:AZ.wrap ((B - 1)*s.overlap)=(B - 1)*s.overlap:=Ac;have I:AZ.wrap (G - (B - 1)*s.overlap)=G - (B - 1)*s.overlap:=Ac;refine go (cj5 @F @Bc.row.eq_1 @Ek.eq_1 @w0 @w1 @I) ?_;exact At (cj results369<| @hR)
theorem T7 (f:AP)(name:ByteArray)(F:f.Fit)(E:f.valid=true):AC AF 299 [.agg f.vs,.c (.str name)] (NK (f.I8 name)):=
 AZb f name F.sl λs B=>⟨by have:=(QG E B).AKx;omega,by have:=(QG E B).parts;omega⟩
theorem AaU (f:AP)(name:ByteArray)(B p:Int)(U:f.Fit)(R:f.valid=true)(G8:1<=p)(HN:p<=100):AC AF 345 [.agg f.vs,.c (.str name),.c (.int .i64 B),.c (.int .i64 p)] (N4 (J2 f name B p)):=by
 cases G:f.I8 name with
 | none =>
   have YU:J2 f name B p=⟨name,0⟩:=by unfold J2;rw[G]
   rw[YU];refine en func345 ntmps345 ?_;refine Ah ?_;refine gc (cj4 @NK.eq_1 @IU.eq_1 @Bc.row.eq_1 @G @Bc.zero.eq_1) (T7 f name U R) UJ ?_;refine Ah ?_;exact At (cj nl<| @N4.eq_1)
 | some s =>
   have hs:=(Se G).1;obtain⟨g1,g2,g3,g4,g5,g6⟩:=QG R hs;have I:J2 f name B p=WA f s B p:=by unfold J2;rw[G]
   refine en func345 ntmps345 ?_;refine Ah ?_;refine gc (cj3 @NK.eq_1 @IU.eq_1 @Bc.row.eq_1 @G) (T7 f name U R) UJ ?_;refine go @Gv.eq_1 ?_;refine lp (ι:={ k:Nat // k<=s.sizes.length/\TG f p B s.sizes=TG f p B (s.sizes.drop k) }) (λk=>[(27,.c (.int .i64 (k.1:Int)))]) (λ_=>[.box 27 f.vs false,.box 287 [.c (.str ⟨#[]⟩),.c (.int .i64 0)] false,.box 117 (s.row.map V.c) false]) (λk=>s.sizes.length - k.1) ⟨0,by simp⟩ ?_ ?_;all_goals simp only[puts,Bw,CO,Ag,Ai]
   exact ER (cj @Bc.row.eq_1<|@Gv.eq_1)
   . rintro ⟨k,Ce,M⟩;by_cases E:k<s.sizes.length;obtain⟨n,F⟩:=AI (s.sizes[k]);rw[D5 E,F]at M;simp only[TG]at M;by_cases S:B<=XV f n p;rw[if_pos S]at M;have J:J2 f name B p=⟨n,0⟩:=by rw[I];unfold WA;rw[M]
     refine go (cj3 @E @F @Bc.row.eq_1 @Gv.eq_1) ?_;refine gc @S (AMA f n p U.gl R G8 HN) func368 ?_;refine go (cj4 @E @F @S @Bc.row.eq_1 @Gv.eq_1) ?_;exact At (cj2 nl @J @N4.eq_1);rw[if_neg S]at M;have hw:AZ.wrap ((k:Int)+1)=((k+1:Nat):Int):=by rw[Ac];simp
     refine go (cj3 @E @F @Bc.row.eq_1 @Gv.eq_1) ?_;refine gc @S (AMA f n p U.gl R G8 HN) func368 ?_;refine go (cj5 @E @F @S @Bc.row.eq_1 @Gv.eq_1 @hw) ?_;refine⟨⟨k+1,by omega,M⟩,by simp only;omega,?_⟩;exact ER (cj @Bc.row.eq_1<|@Gv.eq_1)
     . have e:TG f p B s.sizes=none:=by rw[M,FA (by omega)];rfl
       have J:WA f s B p=if s.parts=[]then⟨s.sizes.getD (s.sizes.length - 1) ⟨#[]⟩,0⟩else⟨⟨#[]⟩,LM f s p B 999⟩:=by unfold WA;rw[e]
       by_cases z:s.parts=[]
       rw[if_pos z]at J;obtain⟨m,hm⟩:∃m,s.sizes.length=m+1:=⟨s.sizes.length - 1,by omega⟩
       have q:m<s.sizes.length:=by omega
       obtain⟨n,F⟩:=AI (s.sizes[m]);have hw:AZ.wrap ((s.sizes.length:Int) - 1)=(m:Int):=by rw[Ac];omega
       have hg:s.sizes.getD (s.sizes.length - 1) ⟨#[]⟩=n:=by rw[hm];simp[List.getD,q,F]
       rw[hg]at J;rw[J]at I;refine go (cj7 @E @z @Bc.row.eq_1 @Gv.eq_1 @Ek.eq_1 @hw @q @F) ?_;exact At (cj2 nl @I @N4.eq_1)
       . rw[if_neg z]at J;have A0 : ¬s.parts.length=0:=by simpa using z
         rw[J]at I;refine go (cj5 @E @z @A0 @Bc.row.eq_1 @Gv.eq_1 @Ek.eq_1) ?_;refine lp (ι:={ r:Int // 1<=r/\r<=1000/\LM f s p B 999=LM f s p B (1000 - r).toNat }) (λr=>[(13,.c (.int .i64 r.1))]) (λ_=>[.box 27 f.vs false,.box 287 [.c (.str ⟨#[]⟩),.c (.int .i64 0)] false,.box 117 (s.row.map V.c) false]) (λr=>(1000 - r.1).toNat) ⟨1,by simp⟩ ?_ ?_;all_goals simp only[puts,Bw,CO,Ag,Ai]
         exact ER @Bc.row.eq_1;rintro ⟨r,r1,r2,Q⟩;by_cases hr:r<1000;rw[AZF f s p B r r1 hr]at Q;by_cases F:B<=AU (LO f s r) p;rw[if_pos F]at Q;rw[Q]at I;refine go (cj @hr<|@Bc.row.eq_1) ?_;refine gc (cj @IU.eq_1<|@Bc.row.eq_1) (ACT f s r U R hs r1 r2) uw ?_;refine gc @F (EI (LO f s r) p) JA ?_;refine go @F ?_;exact At (cj2 nl @I @N4.eq_1);rw[if_neg F]at Q;have hw:AZ.wrap (r+1)=r+1:=Ac;refine go (cj @hr<|@Bc.row.eq_1) ?_;refine gc (cj @IU.eq_1<|@Bc.row.eq_1) (ACT f s r U R hs r1 r2) uw ?_;refine gc @F (EI (LO f s r) p) JA ?_;refine go (cj @F<|@hw) ?_;refine⟨⟨r+1,by omega,by omega,Q⟩,by simp only;omega,?_⟩;exact ER @Bc.row.eq_1;have e1:r=1000:=by omega
         subst e1;have e2:LM f s p B (1000 - 1000:Int).toNat=1000:=rfl;rw[e2]at Q;rw[Q]at I;refine Ah ?_;exact At (cj2 nl @I @N4.eq_1)
def PY (x:ByteArray):List ByteArray->Nat->Int
 | [],_=> -1
 | y::r,k=>if x=y then(k:Int)else PY x r (k+1)
theorem AHr (x:ByteArray):∀(l:List ByteArray) (k:Nat),decide (0<=PY x l k)=KX x l
 | [],k=>by simp[PY,KX]
 | y::r,k=>by
   have ih:=AHr x r (k+1);by_cases h:x=y;have B:PY x (y::r) k=(k:Int):=by simp[PY,h]
   have E:KX x (y::r)=true:=by simp[KX,h]
   rw[E,decide_eq_true_eq,B];omega;have B:PY x (y::r) k=PY x r (k+1):=by simp[PY,h]
   have E:KX x (y::r)=KX x r:=by simp only[KX];exact if_neg λe=>h e.symm
   rw[E,<-ih,decide_eq_decide,B]
theorem ATY (l:List ByteArray)(x:ByteArray)(M:l.length<=1000):AC AF 370 [.c (Gv l),.c (.str x)] (.c (.int .i64 (PY x l 0))):=by
 unfold Gv;refine en func370 ntmps370 ?_;refine Ah ?_;refine lp (ι:={ k:Nat // k<=l.length/\PY x l 0=PY x (l.drop k) k }) (λk=>[(8,.c (.int .i64 (k.1:Int)))]) (λ_=>[]) (λk=>l.length - k.1) ⟨0,by simp⟩ ?_ ?_;all_goals simp only[puts,Bw,CO,Ag,Ai]
 exact DH;rintro ⟨k,J,E⟩;by_cases B:k<l.length;obtain⟨y,G⟩:=AI (l[k]);rw[D5 B,G]at E;simp only[PY]at E;by_cases F:x=y;rw[if_pos F]at E;refine go (cj2 @B @G @F) ?_;exact At (cj results370<| @E);rw[if_neg F]at E;have I:AZ.wrap ((k:Int)+1)=((k+1:Nat):Int):=by rw[Ac];simp
 refine go (cj3 @B @G @F @I) ?_;refine⟨⟨k+1,by omega,E⟩,by simp only;omega,?_⟩;exact DH;have e:PY x l 0= -1:=by rw[E,FA (by omega)];rfl
 refine go @B ?_;exact At (cj results370<| @e)
theorem AE1 (l:List ByteArray)(x:ByteArray)(F:l.length<=1000):AC AF 349 [.c (Gv l),.c (.str x)] (.c (.bool (KX x l))):=by
 have E:=AHr x l 0;have B:=ATY l x F;unfold Gv at B ⊢;refine en func349 ntmps349 ?_;refine Ah ?_;refine BZ (B) func370 ?_;refine Ah ?_;exact At (cj results349<| @E)
theorem AT4 (f:AP)(name cg:ByteArray)(cr:Int)(s:Bc)(J:f.Fit)(G:f.valid=true)(B:f.I8 name=some s):AC AF 360 [.agg f.vs,.c (.str name),.agg [.c (.str cg),.c (.int .i64 cr)]] (.c (.bool (KH f name ⟨cg,cr⟩))):=by
 have z:=(Se B).1;have q:=QG G z;have F:KH f name ⟨cg,cr⟩=if cr=0 then KX cg s.sizes else decide (cg=⟨#[]⟩) && (decide (0<s.parts.length) && (decide (1<=cr) && decide (cr<=1000))):=by unfold KH;rw[B]
 by_cases E:cr=0;rw[if_pos E]at F;subst E;have U:=AE1 s.sizes cg (by have:=q.AKx;omega);refine en Vm gZ ?_;refine Ah ?_;refine gc (cj3 @NK.eq_1 @IU.eq_1 @Bc.row.eq_1 @B) (T7 f name J G) UJ ?_;refine Ah ?_;refine BZ (U) func349 ?_;refine Ah ?_;exact At (cj gu<| @F);rw[if_neg E]at F;by_cases R:cg=⟨#[]⟩
 subst R;by_cases S:(0:Int)<(s.parts.length:Int);have M:0<s.parts.length:=by omega
 by_cases Q:1<=cr;refine en Vm gZ ?_;refine Ah ?_;refine gc (cj3 @NK.eq_1 @IU.eq_1 @Bc.row.eq_1 @B) (T7 f name J G) UJ ?_;refine go (cj4 @E @S @M @Q @Ek.eq_1) ?_;exact At (cj3 gu @F @M @Q);refine en Vm gZ ?_;refine Ah ?_;refine gc (cj3 @NK.eq_1 @IU.eq_1 @Bc.row.eq_1 @B) (T7 f name J G) UJ ?_;refine go (cj4 @E @S @M @Q @Ek.eq_1) ?_;exact At (cj3 gu @F @M @Q);have I:s.parts=[]:=Nr (by omega);refine en Vm gZ ?_;refine Ah ?_;refine gc (cj3 @NK.eq_1 @IU.eq_1 @Bc.row.eq_1 @B) (T7 f name J G) UJ ?_;refine go (cj2 @E @I @Ek.eq_1) ?_;exact At (cj2 gu @F @I);refine en Vm gZ ?_;refine Ah ?_;refine gc (cj3 @NK.eq_1 @IU.eq_1 @Bc.row.eq_1 @B) (T7 f name J G) UJ ?_;refine go (cj @E<|@R) ?_;exact At (cj2 gu @F @R)
theorem AT3 (f:AP)(name cg:ByteArray)(cr:Int)(hf:f.Fit)(hv:f.valid=true)(hst:f.I8 name=none):AC AF 360 [.agg f.vs,.c (.str name),.agg [.c (.str cg),.c (.int .i64 cr)]] (.c (.bool (KH f name ⟨cg,cr⟩))):=by
 have hR:KH f name ⟨cg,cr⟩=(decide (cr=0) && decide (cg=name)):=by unfold KH;rw[hst]
 refine en Vm gZ ?_;refine Ah ?_;refine gc (cj4 @NK.eq_1 @IU.eq_1 @Bc.row.eq_1 @hst @Bc.zero.eq_1) (T7 f name hf hv) UJ ?_;refine Ah ?_;refine AW.DA ?_;refine SW.take 3 ?_;with_reducible refine If (by simp[BY];first|exact rfl|exact⟨rfl,rfl⟩) ?_
 refine Kz ?_;simp only[CU,B9];refine SW.op (.c (.bool (decide (cr=0) && decide (cg=name)))) (by simp[BQ]) rfl ?_ ?_
 . intro S0 w0 x a w hA;obtain⟨u,hu,E⟩:=hA.2.get 18 _ rfl;obtain⟨U,I,B⟩:=hA.2.get 20 _ rfl;simp only[CV,AO,Ab]at E B;refine BW.pure hA.1 (u:=.bool (decide (cr=0) && decide (cg=name))) ?_ (by simp only[CV,Ab]);obtain⟨vs,rfl,_,_,G,⟨rfl,_⟩,_,_,rfl,⟨rfl,_⟩,rfl⟩:=E;obtain⟨M,rfl,_,_,J,⟨rfl,_⟩,_,_,rfl,⟨rfl,_⟩,rfl⟩:=B;have Q:vs=#[.string cg,.int .i64 cr]:=Gx.1 G;have F:M=#[.string name,.int .i64 0]:=Gx.1 J;subst Q F;have e1:a.eval (.tmp 18)=.agg #[.string cg,.int .i64 cr]:=by simp[Act.eval,Kl,<-VZ,hu]
   have e2:a.eval (.tmp 20)=.agg #[.string name,.int .i64 0]:=by simp[Act.eval,Kl,<-VZ,I]
   clear hA hu I G J;by_cases h1:cg=name
   . subst h1;by_cases h2:cr=0
     . subst h2;simp only[execOp,e1,e2];go_simp
     . have R:(cr==0)=false:=by simpa using h2
       simp only[execOp,e1,e2];go_simp
   . have S:=AZa h1;simp only[execOp,e1,e2];go_simp
 refine SW.take 1 ?_;with_reducible refine If (by simp[BY];first|exact rfl|exact⟨rfl,rfl⟩) ?_
 refine Kz ?_;simp only[CU,B9];refine SW.nil ?_;refine Ah ?_;exact At (cj gu<| @hR)
theorem AT2 (f:AP)(name:ByteArray)(c:Choice)(G:f.Fit)(I:f.valid=true):AC AF 360 [.agg f.vs,.c (.str name),N4 c] (.c (.bool (KH f name c))):=by
 obtain⟨E,F⟩:=c;cases B:f.I8 name with
 | none=>exact AT3 f name E F G I B
 | some s=>exact AT4 f name E F s G I B
def n7:Prop:=∀(f:AP) (s:Bc) (r p:Int),f.Fit->f.valid=true->s∈f.C5->1<=r->r<=1000->1<=p->p<=100->s.parts≠[]->AC AF 361 [.agg f.vs,IU s,.c (.int .i64 r),.c (.int .i64 p)] (Ba (V4 f s r p,0))
theorem AET (TM:n7)(f:AP)(name:ByteArray)(c:Choice)(p:Int)(S:f.Fit)(R:JF f p=0):AC AF 340 [.agg f.vs,.c (.str name),N4 c,.c (.int .i64 p)] (Ba (K5 f name c p)):=by
 obtain⟨M,z,HN⟩:=AEl R;obtain⟨B,E⟩:=c;have U:=AT2 f name ⟨B,E⟩ S M;simp only[N4]at U ⊢;cases G:KH f name ⟨B,E⟩with
 | false =>
   have J:K5 f name ⟨B,E⟩ p=(AA.zero,8):=by unfold K5;rw[if_neg (by simp[R]),if_pos G]
   rw[J];refine en nJ ntmps340 ?_;refine Ah ?_;refine gc @G (U) Vm ?_;refine Ah ?_;exact At (cj8 ADR @AR.eq_1 @Ba.eq_1 @Ao.eq_1 @AA.zero.eq_1 @AA.row.eq_1 @AA.AG.eq_1 @AA.AG.eq_2 @AV.eq_1)
 | true =>
   by_cases Q:E=0;subst Q;have J:K5 f name ⟨B,0⟩ p=QC f B p:=by
    unfold K5 QC;rw[if_neg (by simp[R]),if_neg (by simp[G]),if_pos rfl,if_pos M,(Pk M z HN B).1]
   rw[J];have F:=pn f B p S.gl;obtain⟨q,hq⟩:=AI (QC f B p);rw[hq]at F ⊢;obtain⟨⟨bk,bn,bs,bw,bh,bd,bx,Bq,AE,bo,src⟩,e⟩:=q;simp only[Ba,AR,Ao,AA.row,Ap,BB]at F ⊢;refine en nJ ntmps340 ?_;refine Ah ?_;refine gc @G (U) Vm ?_;refine Ah ?_;refine BZ (F) func302 ?_;refine Ah ?_;exact At ADR;obtain⟨s,I,HO,r1,r2,_⟩:=AAI Q G;have hs:=(Se I).1;have J:K5 f name ⟨B,E⟩ p=(V4 f s E p,0):=by unfold K5;rw[if_neg (by simp[R]),if_neg (by simp[G]),if_neg Q,I];rfl
   rw[J];have F:=TM f s E p S M hs r1 r2 z HN HO;generalize hq:V4 f s E p=b at F ⊢;obtain⟨bk,bn,bs,bw,bh,bd,bx,Bq,AE,bo,src⟩:=b;simp only[Ba,AR,Ao,AA.row,Ap,BB]at F ⊢;refine en nJ ntmps340 ?_;refine Ah ?_;refine gc @G (U) Vm ?_;refine go @Q ?_;refine gc (cj3 @NK.eq_1 @IU.eq_1 @Bc.row.eq_1 @I) (T7 f name S M) UJ ?_;refine Ah ?_;refine gc (cj @IU.eq_1<|@Bc.row.eq_1) (F) func361 ?_;refine Ah ?_;exact At ADR
theorem AaE (I:n7)(f:AP)(name:ByteArray)(c:Choice)(p:Int)(M:f.Fit):AC AF 300 [.agg f.vs,.c (.str name),N4 c,.c (.int .i64 p)] (Ba (K5 f name c p)):=by
 obtain⟨F,G⟩:=c;by_cases B:JF f p=0;have E:=AET I f name ⟨F,G⟩ p M B;generalize hq:K5 f name ⟨F,G⟩ p=q at E ⊢;obtain⟨⟨z,bn,bs,bw,U,S,bx,R,Q,bo,src⟩,e⟩:=q;simp only[N4,Ba,AR,Ao,AA.row,Ap,BB]at E ⊢;refine en func300 ntmps300 ?_;refine Ah ?_;refine gc (cj @B<|@AR.eq_1) (tV f p) Xo ?_;refine Ah ?_;refine BZ (E) nJ ?_;refine Ah ?_;exact At results300;have J:K5 f name ⟨F,G⟩ p=(AA.zero,JF f p):=by unfold K5;rw[if_pos (by simp[B])]
 rw[J];unfold N4;refine en func300 ntmps300 ?_;refine Ah ?_;refine gc @AR.eq_1 (tV f p) Xo ?_;refine go @B ?_;exact At (cj8 results300 @AR.eq_1 @Ba.eq_1 @Ao.eq_1 @AA.zero.eq_1 @AA.row.eq_1 @AA.AG.eq_1 @AA.AG.eq_2 @AV.eq_1)
theorem ACC (U:n7)(f:AP)(name:ByteArray)(B p:Int)(Q:f.Fit):AC AF 308 [.agg f.vs,.c (.str name),.c (.int .i64 B),.c (.int .i64 p)] (Ba (Hv f name B p)):=by
 by_cases F:JF f p=0;obtain⟨hv,R,S⟩:=AEl F;have I:Hv f name B p=K5 f name (J2 f name B p) p:=by unfold Hv;rw[if_neg (by simp[F])]
 rw[I];have E:=AaU f name B p Q hv R S;generalize z:J2 f name B p=c at E ⊢;obtain⟨J,M⟩:=c;have G:=AET U f name ⟨J,M⟩ p Q F;generalize hq:K5 f name ⟨J,M⟩ p=q at G ⊢;obtain⟨⟨bk,bn,bs,bw,bh,bd,bx,Bq,AE,bo,src⟩,e⟩:=q;simp only[N4,Ba,AR,Ao,AA.row,Ap,BB]at E G ⊢;refine en nH ntmps308 ?_;refine Ah ?_;refine gc (cj @F<|@AR.eq_1) (tV f p) Xo ?_;refine Ah ?_;refine BZ (E) func345 ?_;refine BZ (G) nJ ?_;refine Ah ?_;exact At results308;have I:Hv f name B p=(AA.zero,JF f p):=by unfold Hv;rw[if_pos (by simp[F])]
 rw[I];refine en nH ntmps308 ?_;refine Ah ?_;refine gc @AR.eq_1 (tV f p) Xo ?_;refine go @F ?_;exact At (cj8 results308 @AR.eq_1 @Ba.eq_1 @Ao.eq_1 @AA.zero.eq_1 @AA.row.eq_1 @AA.AG.eq_1 @AA.AG.eq_2 @AV.eq_1)
theorem AWH (s:Bc)(r:Int):AC AF 374 [IU s,.c (.int .i64 r)] (.fn 376 [.cp s.row 0,.cp [.int .i64 r] 0]):=by
 unfold IU;refine AC.intro func374 rfl ?_;simp only[ntmps374,Ap,BB,BA,BO,Nat.reduceAdd,Nat.reduceSub,BY,Cy,BK,BU,Bc.row];with_reducible refine AW.seq ?_
 with_reducible refine AW.region ?_
 with_reducible refine If (by simp[BY];first|exact rfl|exact⟨rfl,rfl⟩) ?_
 with_reducible refine Kz ?_
 with_reducible refine G3 ?_
 refine Cn 0 ?_;refine Cn 1 ?_;refine Ah ?_;exact At (cj results374<| @Bc.row.eq_1)
def H2 (k:Int):Int:=if k=5\/k=6\/k=7\/k=8 then 2 else if k=9 then 3 else if k=10\/k=11 then 1 else if k=12 then 256 else 0
def VU (l:Int):Int:=if l<=1 then 2 else 3
def GB (k i:Int)(s:Aa):Aa:=
 if k=5 then⟨if s.By+1<=3 then s.By+1 else 3,s.Hd || decide (i=1)⟩
 else if k=6 then(if i=0 then⟨3,s.Hd⟩else⟨s.By,true⟩)
 else if k=7\/k=8\/k=9 then(if i=0 then s else⟨VU s.By,s.Hd || (decide (i=1) && !decide (k=8))⟩)
 else if k=10 then⟨s.By,true⟩
 else if k=12 then⟨if s.By<1 then 1 else s.By,s.Hd⟩
 else s
def XW (k i:Int)(s:Aa):Aa×Int:=
 if s.ok=false\/H2 k=0 then(⟨0,false⟩,1)else if i<0\/H2 k<=i then(⟨0,false⟩,2)else(GB k i s,0)
def Zx (r:Aa×Int):V:=.A7 [Aj r.1,AR r.2]
theorem AJp (l:Int)(B:0<=l)(E:l<=3):AC AF 363 [.c (.int .i64 l)] (.c (.int .i64 (if l+1<=3 then l+1 else 3))):=by
 have w:AZ.wrap (l+1)=l+1:=Ac;have e:(if (3:Int)<l+1 then(3:Int)else l+1)=if l+1<=3 then l+1 else 3:=by split<;>split<;>omega
 refine en func363 ntmps363 ?_;exact wz (cj2 @w @e results363) trivial
theorem sJ (l:Int)(E:0<=l)(F:l<=3):AC AF 366 [.c (.int .i64 l)] (.c (.int .i64 (VU l))):=by
 have B:l=0\/l=1\/l=2\/l=3:=by omega
 refine en func366 ntmps366 ?_;rcases B with rfl|rfl|rfl|rfl
 exact wz (cj @VU.eq_1<|vW) trivial;exact wz (cj @VU.eq_1<|vW) trivial;exact wz (cj @VU.eq_1<|vW) trivial;exact wz (cj @VU.eq_1<|vW) trivial
theorem AWZ (l:Int):AC AF 364 [.c (.int .i64 l)] (.c (.int .i64 3)):=by
 refine en func364 ntmps364 ?_;exact wz results364 trivial
theorem eJ (l:Int):AC AF 365 [.c (.int .i64 l)] (.c (.int .i64 l)):=by
 refine en func365 ntmps365 ?_;exact wz results365 trivial
theorem AV4 (l:Int):AC AF 367 [.c (.int .i64 l)] (.c (.int .i64 (if l<1 then 1 else l))):=by
 refine en func367 ntmps367 ?_;exact wz results367 trivial
def Nl (f:FuncId)(b:Bool):List C:=[.EV f,.bool b]
def Zt:List V:=[.c (.sl []),.c (.sl []),.c (.sl []),.c (.sl []),.c (.sl []),.c (.sl [Nl 363 false,Nl 363 true]),.c (.sl [Nl 364 false,Nl 365 true]),.c (.sl [Nl 365 false,Nl 366 true]),.c (.sl [Nl 365 false,Nl 366 false]),.c (.sl [Nl 365 false,Nl 366 true,Nl 366 false]),.c (.sl [Nl 365 true]),.c (.sl [Nl 365 false]),.c (.sl [Nl 367 false])]
theorem AJy:AC AF 343 [] (.agg Zt):=by
 unfold Zt Nl;refine en func343 ntmps343 ?_;exact wz results343 trivial
theorem AXD (k i:Int)(s:Aa)(h:s.ok=false\/H2 k=0):AC AF 303 [.c (.int .i64 k),.c (.int .i64 i),Aj s] (Zx (XW k i s)):=by
 have J:XW k i s=(⟨0,false⟩,1):=if_pos h;have B:=fI s;rw[J];generalize I:s.ok=OK at B h;unfold Zx AR Aj;unfold Aj at B;refine en func303 ntmps303 ?_;cases OK with
 | false=>exact wz Sr (cj B<|trivial)
 | true =>
   have h:H2 k=0:=h.resolve_left (by simp);by_cases F:k<5;exact wz (cj @F<|Sr) (cj B<|trivial);have E:12<k:=by
    unfold H2 at h;by_cases q1:k=5\/k=6\/k=7\/k=8;rw[if_pos q1]at h;omega;rw[if_neg q1]at h;by_cases q2:k=9;rw[if_pos q2]at h;omega;rw[if_neg q2]at h;by_cases G:k=10\/k=11;rw[if_pos G]at h;omega;rw[if_neg G]at h;by_cases M:k=12;rw[if_pos M]at h;omega;omega
   exact wz (cj2 @F @E Sr) (cj B<|trivial)
def N5 (l:List En):Nd->Int
 | ⟨k,t,_,AE⟩ =>
   if k=2 then(He l t).cls
   else if k=7\/k=8\/k=9 then(match AE with
    | ⟨_,_,_,[x]⟩::_=>N5 l x
    | _=>0)
   else if k=5\/k=11\/k=12 then 7 else 0
 termination_by b=>UF b
def bg (l:List En):List Nd->Int
 | b::_=>match b.AE with
   | [x]=>N5 l x
   | _=>0
 | []=>0
theorem AEu (l:List En)(b:Nd):N5 l b=if b.kind=2 then(He l b.text).cls else if b.kind=7\/b.kind=8\/b.kind=9 then bg l b.AE else if b.kind=5\/b.kind=11\/b.kind=12 then 7 else 0:=by
 obtain⟨k,t,c,AE⟩:=b;unfold N5;have e:(match AE with
  | ⟨_,_,_,[x]⟩::_=>N5 l x
  | _=>0)=bg l AE:=by
  match AE with
  | []=>rfl
  | ⟨_,_,_,[]⟩::_=>rfl
  | ⟨_,_,_,[x]⟩::_=>rfl
  | ⟨_,_,_,x::y::r⟩::_=>rfl
 rw[e]
theorem AUf {Q:Nd->Prop}(h : ∀b:Nd,(∀k∈b.AE,∀j∈k.AE,Q j)->Q b):∀b:Nd,Q b:=by
 have : ∀(n:Nat) (b:Nd),UF b<n->Q b:=by
  intro n;induction n with
  | zero=>intro b B;omega
  | succ n ih =>
    intro b B;refine h b λk I j G=>ih j ?_
    have E:=gD I;have F:=gD G;cases b;cases k;simp only[Nd.mk.sizeOf_spec]at B E F;omega
 exact λb=>this _ b (Nat.lt_succ_self _)
theorem AOR (l:List En):bg l []=0:=rfl
theorem AOS (l:List En)(b x:Nd)(r:List Nd)(h:b.AE=[x]):bg l (b::r)=N5 l x:=by
 show (match b.AE with | [x]=>N5 l x|_=>0)=_;rw[h]
theorem AOT (l:List En)(b:Nd)(r:List Nd)(h : ¬b.AE.length=1):bg l (b::r)=0:=by
 show (match b.AE with | [x]=>N5 l x|_=>0)=_;match B:b.AE with
 | []=>rfl
 | [x]=>rw[B]at h;exact absurd rfl h
 | x::y::q=>rfl
def XU (l:List En):List V:=[.fn 241 [.cp [Cc l] 0,.ptr 0 0]]
theorem AV5 (l:List En)(hl:l.length<=1000000):∀b:Nd,b.BX->AY AF 241 [.cp b.row 0,.cp [Cc l] 0,.ptr 0 0] 256 (XU l) (XU l) (.c (.int .i64 (N5 l b))):=AUf λb ih A5=>by
 obtain⟨_,A1,rA⟩:=kf b A5;have HM:=AA8 l b.text hl;have Mi:=Pc b.AE;rw[AEu];unfold WH at HM;generalize hR:He l b.text=R at HM ⊢;obtain⟨k,J⟩:=AI b.kind;rw[J];by_cases k2:k=2
 . rw[if_pos k2];unfold XU;refine AY.intro UI rfl ?_;simp only[gU,Ap,BB,BA,BO,Nat.reduceAdd,Nat.reduceSub,BY,Cy,BK,BU];have B:=(cj2 @J @k2 GY)
   have E:=(cj HM<|trivial)
   repeat any_goals (first|refine Du B E ⟨?_⟩|exact Bt B|(refine Dv B ?_ ?_<;>intro h<;>try exact Dw))
   simp[GI,DV,C0,DE,V.CP,V.CF,V.Di,V.Dj,CJ,GY]
 rw[if_neg k2];by_cases k7:k=7\/k=8\/k=9
 . rw[if_pos k7];obtain⟨rs,I⟩:=AI (Nd.AG b.AE);rw[I]at Mi;have pa : ∀(Q:Prop),(k=7->Q)->(k=8->Q)->(k=9->Q)->Q:=λQ a b c=>by rcases k7 with h|h|h;exact a h;exact b h;exact c h
   cases TU:b.AE with
   | nil =>
     rw[TU]at Mi;have e0:rs=[]:=Nr Mi;rw[AOR];rw[e0]at I;clear ih HM;unfold XU;refine AY.intro UI rfl ?_;simp only[gU,Ap,BB,BA,BO,Nat.reduceAdd,Nat.reduceSub,BY,Cy,BK,BU];refine pa _ (λG=>?_) (λG=>?_) (λG=>?_)
     . have B:=(cj3 @J @G @I GY)
       have E:=trivial;repeat any_goals (first|refine Du B E ⟨?_⟩|exact Bt B|(refine Dv B ?_ ?_<;>intro h<;>try exact Dw))
       simp[GI,DV,C0,DE,V.CP,V.CF,V.Di,V.Dj,CJ,GY]
     . have B:=(cj3 @J @G @I GY)
       have E:=trivial;repeat any_goals (first|refine Du B E ⟨?_⟩|exact Bt B|(refine Dv B ?_ ?_<;>intro h<;>try exact Dw))
       simp[GI,DV,C0,DE,V.CP,V.CF,V.Di,V.Dj,CJ,GY]
     . have B:=(cj3 @J @G @I GY)
       have E:=trivial;repeat any_goals (first|refine Du B E ⟨?_⟩|exact Bt B|(refine Dv B ?_ ?_<;>intro h<;>try exact Dw))
       simp[GI,DV,C0,DE,V.CP,V.CF,V.Di,V.Dj,CJ,GY]
   | cons q r =>
     rw[TU]at Mi rA;have U:rs[0]?=some q.row:=by rw[<-I,TU];rfl
     have z:=gx U;have F:0<rs.length:=by rw[Mi];simp
     have A0:q.BX:=rA.1;have EX:=Pc q.AE;obtain⟨ei,M⟩:=AI (Nd.AG q.AE);rw[M]at EX;have cz:(0:Int)<(rs.length:Int):=by omega
     by_cases h1:q.AE.length=1
     . obtain⟨x,hx⟩:∃x,q.AE=[x]:=List.length_eq_one_iff.1 h1;rw[AOS l q x r hx];have G9:ei[0]?=some x.row:=by rw[<-M,hx];rfl
       have Wp:=gx G9;have OG:0<ei.length:=by omega
       have U3:ei.length=1:=by omega
       have FN:=ih q (by rw[TU];exact GH) x (by rw[hx];exact GH) (di (kf q A0).2.2 x (by rw[hx];exact GH));clear ih HM;unfold XU at *
       refine AY.intro UI rfl ?_;simp only[gU,Ap,BB,BA,BO,Nat.reduceAdd,Nat.reduceSub,BY,Cy,BK,BU];refine pa _ (λG=>?_) (λG=>?_) (λG=>?_)
       . have B:=(cj9 @J @G @I @U @z @F @cz @M @G9<|cj3 @Wp @OG @U3 GY)
         repeat any_goals (first|refine Qu (.mk 8) ?_|exact Bt B|refine De B ?_|refine DI B ?_|((first|refine JC B ?_ ?_|refine JE B ?_ ?_|refine JD B ?_ ?_|refine JY B ?_ ?_)<;>intro h<;>try (exfalso;first|omega|contradiction)))
         refine AW.Lm Fz (.inl rfl) ?_;refine TW.take 9 (Es (by simp[I,U,z,F,M,G9,Wp,OG];first|exact rfl|exact⟨rfl,rfl⟩|exact⟨rfl,rfl,rfl⟩) (UZ ?_));simp only[CU,B9];refine TW.V9 0 FN UI (by kernel_rfl) (by kernel_rfl) (by simp[BQ]) (by simp[C7];first|exact rfl|exact⟨rfl,rfl⟩) (by simp[V.Dj,V.Di];try exact rfl) (by rfl) (by rfl) (cs':=[.fn 241 [.cp [Cc l] 0,.ptr 0 0]]) (by rfl) (by rfl) ?_;simp only[St.step,St.put,Bk,BA,BO,Nat.reduceAdd,Nat.reduceLT,if_true,Ai,Ag];refine TW.take 1 (Es (by simp;first|exact rfl|exact⟨rfl,rfl⟩|exact⟨rfl,rfl,rfl⟩) (UZ (TW.nil ⟨by kernel_rfl,?_⟩)));have B:=(GY)
         have E:=trivial;repeat any_goals (first|refine Du B E ⟨?_⟩|exact Bt B|(refine Dv B ?_ ?_<;>intro h<;>try exact Dw))
         simp[GI,DV,C0,DE,V.CP,V.CF,V.Di,V.Dj,CJ,GY]
       . have B:=(cj9 @J @G @I @U @z @F @cz @M @G9<|cj3 @Wp @OG @U3 GY)
         repeat any_goals (first|refine Qu (.mk 8) ?_|exact Bt B|refine De B ?_|refine DI B ?_|((first|refine JC B ?_ ?_|refine JE B ?_ ?_|refine JD B ?_ ?_|refine JY B ?_ ?_)<;>intro h<;>try (exfalso;first|omega|contradiction)))
         refine AW.Lm Fz (.inl rfl) ?_;refine TW.take 9 (Es (by simp[I,U,z,F,M,G9,Wp,OG];first|exact rfl|exact⟨rfl,rfl⟩|exact⟨rfl,rfl,rfl⟩) (UZ ?_));simp only[CU,B9];refine TW.V9 0 FN UI (by kernel_rfl) (by kernel_rfl) (by simp[BQ]) (by simp[C7];first|exact rfl|exact⟨rfl,rfl⟩) (by simp[V.Dj,V.Di];try exact rfl) (by rfl) (by rfl) (cs':=[.fn 241 [.cp [Cc l] 0,.ptr 0 0]]) (by rfl) (by rfl) ?_;simp only[St.step,St.put,Bk,BA,BO,Nat.reduceAdd,Nat.reduceLT,if_true,Ai,Ag];refine TW.take 1 (Es (by simp;first|exact rfl|exact⟨rfl,rfl⟩|exact⟨rfl,rfl,rfl⟩) (UZ (TW.nil ⟨by kernel_rfl,?_⟩)));have B:=(GY)
         have E:=trivial;repeat any_goals (first|refine Du B E ⟨?_⟩|exact Bt B|(refine Dv B ?_ ?_<;>intro h<;>try exact Dw))
         simp[GI,DV,C0,DE,V.CP,V.CF,V.Di,V.Dj,CJ,GY]
       . have B:=(cj9 @J @G @I @U @z @F @cz @M @G9<|cj3 @Wp @OG @U3 GY)
         repeat any_goals (first|refine Qu (.mk 8) ?_|exact Bt B|refine De B ?_|refine DI B ?_|((first|refine JC B ?_ ?_|refine JE B ?_ ?_|refine JD B ?_ ?_|refine JY B ?_ ?_)<;>intro h<;>try (exfalso;first|omega|contradiction)))
         refine AW.Lm Fz (.inl rfl) ?_;refine TW.take 9 (Es (by simp[I,U,z,F,M,G9,Wp,OG];first|exact rfl|exact⟨rfl,rfl⟩|exact⟨rfl,rfl,rfl⟩) (UZ ?_));simp only[CU,B9];refine TW.V9 0 FN UI (by kernel_rfl) (by kernel_rfl) (by simp[BQ]) (by simp[C7];first|exact rfl|exact⟨rfl,rfl⟩) (by simp[V.Dj,V.Di];try exact rfl) (by rfl) (by rfl) (cs':=[.fn 241 [.cp [Cc l] 0,.ptr 0 0]]) (by rfl) (by rfl) ?_;simp only[St.step,St.put,Bk,BA,BO,Nat.reduceAdd,Nat.reduceLT,if_true,Ai,Ag];refine TW.take 1 (Es (by simp;first|exact rfl|exact⟨rfl,rfl⟩|exact⟨rfl,rfl,rfl⟩) (UZ (TW.nil ⟨by kernel_rfl,?_⟩)));have B:=(GY)
         have E:=trivial;repeat any_goals (first|refine Du B E ⟨?_⟩|exact Bt B|(refine Dv B ?_ ?_<;>intro h<;>try exact Dw))
         simp[GI,DV,C0,DE,V.CP,V.CF,V.Di,V.Dj,CJ,GY]
     . rw[AOT l q r h1];have U3 : ¬ei.length=1:=by omega
       have zP : ¬(ei.length:Int)=1:=by omega
       clear ih HM;unfold XU;refine AY.intro UI rfl ?_;simp only[gU,Ap,BB,BA,BO,Nat.reduceAdd,Nat.reduceSub,BY,Cy,BK,BU];refine pa _ (λG=>?_) (λG=>?_) (λG=>?_)
       . have B:=(cj9 @J @G @I @U @z @F @cz @M @U3<|cj @zP GY)
         have E:=trivial;repeat any_goals (first|refine Du B E ⟨?_⟩|exact Bt B|(refine Dv B ?_ ?_<;>intro h<;>try exact Dw))
         simp[GI,DV,C0,DE,V.CP,V.CF,V.Di,V.Dj,CJ,GY]
       . have B:=(cj9 @J @G @I @U @z @F @cz @M @U3<|cj @zP GY)
         have E:=trivial;repeat any_goals (first|refine Du B E ⟨?_⟩|exact Bt B|(refine Dv B ?_ ?_<;>intro h<;>try exact Dw))
         simp[GI,DV,C0,DE,V.CP,V.CF,V.Di,V.Dj,CJ,GY]
       . have B:=(cj9 @J @G @I @U @z @F @cz @M @U3<|cj @zP GY)
         have E:=trivial;repeat any_goals (first|refine Du B E ⟨?_⟩|exact Bt B|(refine Dv B ?_ ?_<;>intro h<;>try exact Dw))
         simp[GI,DV,C0,DE,V.CP,V.CF,V.Di,V.Dj,CJ,GY]
 rw[if_neg k7];simp only[not_or]at k7;obtain⟨x1,x2,x3⟩:=k7;unfold XU;clear ih HM;by_cases S:k=5\/k=11\/k=12
 . rw[if_pos S];refine AY.intro UI rfl ?_;simp only[gU,Ap,BB,BA,BO,Nat.reduceAdd,Nat.reduceSub,BY,Cy,BK,BU];rcases S with S|S|S
   . have B:=(cj2 @J @S GY)
     have E:=trivial;repeat any_goals (first|refine Du B E ⟨?_⟩|exact Bt B|(refine Dv B ?_ ?_<;>intro h<;>try exact Dw))
     simp[GI,DV,C0,DE,V.CP,V.CF,V.Di,V.Dj,CJ,GY]
   . have B:=(cj2 @J @S GY)
     have E:=trivial;repeat any_goals (first|refine Du B E ⟨?_⟩|exact Bt B|(refine Dv B ?_ ?_<;>intro h<;>try exact Dw))
     simp[GI,DV,C0,DE,V.CP,V.CF,V.Di,V.Dj,CJ,GY]
   . have B:=(cj2 @J @S GY)
     have E:=trivial;repeat any_goals (first|refine Du B E ⟨?_⟩|exact Bt B|(refine Dv B ?_ ?_<;>intro h<;>try exact Dw))
     simp[GI,DV,C0,DE,V.CP,V.CF,V.Di,V.Dj,CJ,GY]
 . rw[if_neg S];simp only[not_or]at S;obtain⟨y1,y2,y3⟩:=S;refine AY.intro UI rfl ?_;simp only[gU,Ap,BB,BA,BO,Nat.reduceAdd,Nat.reduceSub,BY,Cy,BK,BU];have B:=(cj8 @J @k2 @x1 @x2 @x3 @y1 @y2 @y3 GY)
   have E:=trivial;repeat any_goals (first|refine Du B E ⟨?_⟩|exact Bt B|(refine Dv B ?_ ?_<;>intro h<;>try exact Dw))
   simp[GI,DV,C0,DE,V.CP,V.CF,V.Di,V.Dj,CJ,GY]
theorem AV6 (l:List En)(I:l.length<=1000000)(b:Nd)(F:b.BX):AC AF 170 [.c (Cc l),Am b] (.c (.int .i64 (N5 l b))):=by
 have E:=AV5 l I b F;unfold Am;unfold XU at E;refine en func170 ntmps170 ?_;have B:=(ADE)
 repeat any_goals (first|refine Qu (.mk 1) ?_|exact Bt B|refine De B ?_|refine DI B ?_|((first|refine JC B ?_ ?_|refine JE B ?_ ?_|refine JD B ?_ ?_|refine JY B ?_ ?_)<;>intro h<;>try (exfalso;first|omega|contradiction)))
 refine Cn 0 ?_;refine Cn 1 ?_;have B:=(ADE)
 repeat any_goals (first|refine Qu (.mk 3) ?_|exact Bt B|refine De B ?_|refine DI B ?_|((first|refine JC B ?_ ?_|refine JE B ?_ ?_|refine JD B ?_ ?_|refine JY B ?_ ?_)<;>intro h<;>try (exfalso;first|omega|contradiction)))
 refine AW.DA ?_;refine CY (.mk 1) trivial ?_;refine SW.V9 2 E UI (by kernel_rfl) (by kernel_rfl) (by simp[BQ]) (by simp[C7];first|exact rfl|exact⟨rfl,rfl⟩) (by simp[V.Dj,V.Di];try exact rfl) (by rfl) (by rfl) (cs':=[.fn 241 [.cp [Cc l] 0,.ptr 2 0]]) (by rfl) (by rfl) ?_;simp only[St.step,St.put,Bk,BA,BO,Nat.reduceAdd,Nat.reduceLT,if_true,Ai,Ag];refine CY (.mk 1) trivial ?_;refine SW.nil ?_;have B:=(ADE)
 have G:=trivial;repeat any_goals (first|refine Du B G ⟨?_⟩|exact Bt B|(refine Dv B ?_ ?_<;>intro h<;>try exact Dw))
def JP (d:List En)(l:List Nd):List Int:=l.map (N5 d)
theorem Zh (d:List En)(l:List Nd):(JP d l).length=l.length:=by simp[JP]
theorem AJU (d:List En)(l:List Nd)(hd:d.length<=1000000)(hl:l.length<=1000000)(A5:Nd.FY l):AC AF 104 [.c (Cc d),.c (.sl (Nd.AG l))] (.c (AV (I6 (JP d l)))):=by
 obtain⟨rs,Aw⟩:=AI (Nd.AG l);have J:rs.length=l.length:=by rw[<-Aw];exact Pc l
 obtain⟨own,R⟩:=AI (JP d l);obtain⟨n,hn⟩:=AI l.length;have A8:own.length=n:=by rw[<-R,Zh,hn]
 have A1:=AV6 d hd;rw[Aw,R];rw[hn]at J hl;refine en func104 ntmps104 ?_;refine wy (cj @J<|Oq) trivial ⟨?_⟩;rw[show Aq n (V.c (C.int .i64 0))=CK (Aq n 0)by simp[CK]];refine lp (ι:={ k:Nat // k<=n }) (λk=>[(14,.c (.int .i64 (k.1:Int)))]) (λk=>[.box 3 (CK (K8 (own.take k.1)++Aq (n - k.1) 0)) false]) (λk=>n - k.1) ⟨0,by simp⟩ ?_ ?_;all_goals simp only[puts,Bw,CO,Ag,Ai]
 exact ER @K8.eq_1
 . rintro ⟨k,hk⟩;simp only;by_cases B:k<n
   . obtain⟨b,hb⟩:∃b,l[k]?=some b:=⟨_,BE (by omega)⟩
     have A9:rs[k]?=some b.row:=by rw[<-Aw];exact XG hb
     have Dp:k<rs.length:=by omega
     have Bu:=gx A9;have U:=A1 b (di A5 b (Cj hb));unfold Am at U;obtain⟨c,hc⟩:=AI (N5 d b);rw[hc]at U;have A7:own[k]?=some c:=by rw[<-R];unfold JP;rw[CM,hb,<-hc];rfl
     have F:=APb A7;have E:(K8 (own.take k)).length=k:=by rw[xZ,Fa];omega
     obtain⟨r,hr⟩:=AI (n - (k+1));have j8:n - k=r+1:=by omega
     obtain⟨D,hD⟩:=AI (K8 (own.take k));rw[hD]at F E ⊢;rw[j8,BY];obtain⟨Z,hZ⟩:=AI (CK (D++0::Aq r 0));have G4:Z.length=n:=by rw[<-hZ,Ts];simp;omega
     obtain⟨X,G⟩:=AI (CK (D++c::Aq r 0));have S:X.length=n:=by rw[<-G,Ts];simp;omega
     have z0:Z.set k (.c (.int .i64 c))=X:=by rw[<-hZ,ABG E c,G]
     have g0:X[k]?=some (.c (.int .i64 c)):=by rw[<-G];exact AWB E
     have YO:=gx g0;have s0:X.set k (.c (.int .i64 0))=CK ((D++[0])++Aq r 0):=by rw[<-G,ABG E 0,bB]
     have Ys:k+1<=n:=by omega
     have Rg:=G.symm;have Lt : ∀j,D.length=j+1->Z[j]?=some (.c (.int .i64 (Lx D))):=λj h=>by rw[<-hZ,AIC h];exact AJX h
     rw[hZ];clear G hZ A1;by_cases q:c=2;subst q;cases k with
     | zero=>rw[ALJ rfl (.inl E)]at F;rw[<-F,<-hr]at s0;refine wy (cj9 @J @B @Dp @A9 @Bu @G4 @S @z0 @g0<|cj3 @YO @s0 @Ys Oq) (cj U<|trivial) ⟨?_⟩;exact⟨⟨0+1,by omega⟩,by simp only;omega,wd 1⟩
     | succ j =>
       have Q:X[j]?=some (.c (.int .i64 (Lx D))):=by rw[<-z0,HF (by omega)];exact Lt j E
       have O7:=gx Q;have A0:=AV2 (Lx D);have hj:j<n:=by omega
       have TS:(j:Int)+1<(n:Int):=by omega
       have Wg : ¬(j:Int)+1=0:=by omega
       have Rq:(0:Int)<=(j:Int)+1:=by omega
       cases ho:dr (Lx D)with
       | true=>rw[ALJ rfl (.inr ho)]at F;rw[<-F,<-hr]at s0;rw[ho]at A0;refine wy (cj9 @J @B @Dp @A9 @Bu @G4 @S @z0 @g0<|cj9 @YO @s0 @Ys @Q @O7 @hj @TS @Wg @Rq Oq) (cj2 U A0 trivial) ⟨?_⟩;exact⟨⟨j+1+1,by omega⟩,by simp only;omega,wd 1⟩
       | false =>
         rw[tF (λe=>by rcases e.2 with e|e;omega;rw[ho]at e;cases e) (λe=>by rw[AOP]at e;cases e.1)]at F;rw[ho]at A0;have Ye:X=CK (K8 (own.take (j+1+1))++Aq (n - (j+1+1)) 0):=by rw[Rg,F,bB,hr]
         refine wy (cj9 @J @B @Dp @A9 @Bu @G4 @S @z0 @g0<|cj8 @YO @Ys @Q @O7 @hj @TS @Wg @Rq Oq) (cj2 U A0 trivial) ⟨?_⟩;rw[Ye];exact⟨⟨j+1+1,by omega⟩,by simp only;omega,wd 1⟩
     . cases Yj:YD c with
       | false =>
         rw[tF (λe=>q e.1) (λe=>by rw[Yj]at e;cases e.1)]at F;simp[YD]at Yj;have Ye:X=CK (K8 (own.take (k+1))++Aq (n - (k+1)) 0):=by rw[Rg,F,bB,hr]
         refine wy (cj @J<|cj @B<|cj @Dp<|cj @A9<|cj @Bu<|cj @G4<|cj @S<|cj @z0<|cj @g0<|cj @YO<|cj @Ys<|cj @q<|cj (Yj.1)<|cj (Yj.2.1)<|cj (Yj.2.2)<|Oq) (cj U<|trivial) ⟨?_⟩;rw[Ye];exact⟨⟨k+1,by omega⟩,by simp only;omega,wd 1⟩
       | true =>
         have NP:c=3\/c=5\/c=6:=by simpa [YD]using Yj
         cases k with
         | zero =>
           rw[tF (λe=>q e.1) (λe=>by have:=e.2.1;omega)]at F;have Ye:X=CK (K8 (own.take (0+1))++Aq (n - (0+1)) 0):=by rw[Rg,F,bB,hr]
           have M:=(cj9 @J @B @Dp @A9 @Bu @G4 @S @z0 @g0<|cj3 @YO @Ys @q Oq)
           have cc:=(cj U<|trivial)
           repeat any_goals (first|refine Du M cc ⟨?_⟩|exact Bt M|(refine Dv M ?_ ?_<;>intro h<;>try exact Dw))
           all_goals (rw[Ye];exact⟨⟨0+1,by omega⟩,by simp only;omega,wd 1⟩)
         | succ j =>
           have Q:X[j]?=some (.c (.int .i64 (Lx D))):=by rw[<-z0,HF (by omega)];exact Lt j E
           have O7:=gx Q;have hj:j<n:=by omega
           have TS:(j:Int)+1<(n:Int):=by omega
           have Wg:(0:Int)<(j:Int)+1:=by omega
           have Rq:(0:Int)<=(j:Int)+1:=by omega
           have A6:j+1<=n:=by omega
           by_cases z:Lx D=2
           . rw[AZS q Yj (by omega) z,E,show j+1 - 1=j by omega]at F;have s1:X.set j (.c (.int .i64 0))=CK (K8 (own.take (j+1+1))++Aq (n - (j+1+1)) 0):=by rw[Rg,AJz E 0,F,bB,hr]
             have M:=(cj9 @J @B @Dp @A9 @Bu @G4 @S @z0 @g0<|cj9 @YO @Ys @q @Q @O7 @hj @TS @Wg @Rq<|cj3 @A6 @z @s1 Oq)
             have cc:=(cj U<|trivial)
             repeat any_goals (first|refine Du M cc ⟨?_⟩|exact Bt M|(refine Dv M ?_ ?_<;>intro h<;>try exact Dw))
             all_goals exact⟨⟨j+1+1,by omega⟩,by simp only;omega,wd 1⟩
           . rw[tF (λe=>q e.1) (λe=>z e.2.2)]at F;have Ye:X=CK (K8 (own.take (j+1+1))++Aq (n - (j+1+1)) 0):=by rw[Rg,F,bB,hr]
             have M:=(cj9 @J @B @Dp @A9 @Bu @G4 @S @z0 @g0<|cj9 @YO @Ys @q @Q @O7 @hj @TS @Wg @Rq<|cj @z Oq)
             have cc:=(cj U<|trivial)
             repeat any_goals (first|refine Du M cc ⟨?_⟩|exact Bt M|(refine Dv M ?_ ?_<;>intro h<;>try exact Dw))
             all_goals (rw[Ye];exact⟨⟨j+1+1,by omega⟩,by simp only;omega,wd 1⟩)
   have e1:own.take k=own:=Gl (by omega);have ek:k=n:=by omega
   have e2:n - k=0:=by omega
   rw[e1,e2];have E:(K8 own).length=n:=by rw[xZ,A8]
   unfold I6;generalize hD:K8 own=D at E ⊢;rw[show Aq 0 (0:Int)=[]from rfl,E5];subst ek;cases k with
   | zero=>have jM:D=[]:=Nr E;subst jM;have I:=Zl [] [];refine wu (.mk 19) (cj2 @J @B Oq) trivial ⟨?_⟩;refine AW.Bi 0 rfl (XK _) (by simp only[V.Cs,V.Bi,B9,if_true];exact rfl) (by simp only[Ag,Ap,BB,O.Bi,Zm];exact rfl) ?_;have hz:AV (Uj [])=.sl []:=rfl;rw[hz];exact wz (cj2 @Hc.eq_1 @Hc.eq_2 Oq) trivial
   | succ p =>
     obtain⟨X,G⟩:=AI (CK D);have S:X.length=p+1:=by rw[<-G,Ts,E]
     have Q:X[p]?=some (.c (.int .i64 (Lx D))):=by rw[<-G,AIC E];have h:=AJX (r:=[]) E;rwa [E5]at h
     have O7:=gx Q;have A2:p<p+1:=by omega
     have A3:(p:Int)<(p:Int)+1:=by omega
     by_cases z:Lx D=2;have hF:Uj D=D.set p 0:=by unfold Uj;rw[if_pos ⟨by omega,z⟩,E];rfl
     have s1:X.set p (.c (.int .i64 0))=CK (D.set p 0):=by have h:=AJz (r:=[]) E 0;rw[E5,E5]at h;rw[<-G,h]
     have I:=Zl (D.set p 0) [];rw[E5,GF,E]at I;rw[hF,G];refine wu (.mk 19) (cj9 @J @B @S @Q @O7 @A2 @A3 @z @s1 Oq) trivial ⟨?_⟩;refine AW.Bi 0 rfl (XK _) (by simp only[V.Cs,V.Bi,B9,I,if_true];exact rfl) (by simp only[Ag,Ap,BB,O.Bi,Zm];exact rfl) ?_;unfold AV;exact wz Oq trivial;have hF:Uj D=D:=by unfold Uj;rw[if_neg (λe=>z e.2)]
     have I:=Zl D [];rw[E5,E]at I;rw[hF,G];refine wu (.mk 19) (cj8 @J @B @S @Q @O7 @A2 @A3 @z Oq) trivial ⟨?_⟩;rw[<-G];refine AW.Bi 0 rfl (XK _) (by simp only[V.Cs,V.Bi,B9,I,if_true];exact rfl) (by simp only[Ag,Ap,BB,O.Bi,Zm];exact rfl) ?_;unfold AV;exact wz Oq trivial
theorem toCs_app : ∀ {a b:List V} {x y:List C},toCs a=some x->toCs b=some y->toCs (a++b)=some (x++y)
 | [],b,x,y,h,B=>by simp[toCs]at h;subst h;simpa using B
 | v::a,b,x,y,h,B=>by
   simp only[toCs]at h;split at h;rename_i c r E F;cases h;simp only[BK,toCs,E,toCs_app F B];cases h
theorem toCs_rep {z:List V}{c:List C}(h:toCs z=some c):∀n:Nat,toCs (Aq n z).flatten=some (Aq n c).flatten
 | 0=>rfl
 | n+1=>by simp only[BY,Hp];exact toCs_app h (toCs_rep h n)
def vx (P:Program)(o:Oper)(a:Act)(S0:BF)(w0:Bs)(x:Cx)(w:World)(H:Bx)(v:V)(t:Option (Nat×O)):Prop:=
 ∃nx w' x' u,(execOp a.eval o).run P w=.ok nx w'/\(nx=.value u\/(nx=.skip/\u=undef))/\CV x' w' v u/\Good S0 w0 x' w' (H.upd t)/\Ext x x' w w'
theorem TW.ub {P:Program}{ops:List Oper}{K:List Ef->St->Prop}{B:List Ef}{s:St}(e:Ef)(hg:BQ ops s.t o.guard=some true)(G : ∀k ob,e.t=some (k,ob)->k<=s.h.length)(hR : ∀(S0:BF) (w0:Bs) (x:Cx) (a:Act) (w:World) (H:Bx),Good S0 w0 x w H->(∀y∈o.op.operands.toList,CV x w (ev s.t y) (a.eval y))->(∀k,e.rk=some k->H k=s.h[k]?)->vx P o a S0 w0 x w H e.v e.t)(h:TW P ops K r (B++[e]) (s.step o.dst e.v e.t)):TW P ops K (o::r) B s:=by
 obtain⟨es,s2,z,h3⟩:=h;refine⟨e::es,s2,⟨e,es,rfl,?_,G,z⟩,by simpa using h3⟩;intro S0 w0 x w a H g M hr _ Q next R;rw[QF M hg];obtain⟨nx,S,U,u,F,q,E,I,J⟩:=hR S0 w0 x a w H g (QR M) λk G=>hr k (.inl G)
 show o.wp P a w next Q;unfold Oper.wp;rw[F];rcases q with rfl|⟨rfl,rfl⟩
 exact R u U S I J E;exact R undef U S I J E
theorem AIy {P:Program}{a:Act}{S0:BF}{w0:Bs}{x:Cx}{w:World}{H:Bx}(g:Good S0 w0 x w H){t:TypeId}{y z:Operand}(ho:o.op=.makeSlice t y z){Ae:TypeId}{es Bq:Nat}(ht:Dk P t=some (Ae,es,Bq)){k k':IntKind}{l:Int}(hy:CV x w (.c (.int k l)) (a.eval y))(hz:CV x w (.c (.int k' l)) (a.eval z)){S:List V}(Q:C2 P Ae=some S){F:List C}(Ww:toCs S=some F)(h0:0<=l)(h1:(Bq:Int)*l<=281474976710656)(h2:l<=140737488355328):vx P o a S0 w0 x w H (.Bg (Aq l.toNat F)) none:=by
 obtain⟨hu,ie,B,U,VD,M,G,R⟩:=JS ht;obtain⟨zk,Y9,IN,i2,q,R8⟩:=Z2 (x:=x) (w:=w) Q;rw[U]at q;cases q;rw[VD]at R8;cases R8;simp only[CV,Ab]at hy hz;have E:=run_make (P:=P) w t Ae ie B hu U VD k k' l l h0 (Int.le_refl _) (by rw[G];exact h1) (by omega);rw[M]at E;have I:AO x w (Aq l.toNat S).flatten (madeCells B.cells (l.toNat*es)).toList:=by rw[AAd B.cells R];exact IN.px _
 have DK:=toCs_ok (toCs_rep Ww l.toNat) I;have Rr:(madeCells B.cells (l.toNat*es)).size=l.toNat*es:=by simp[size_madeCells]
 obtain⟨S',g',he,Fh⟩:=g.AIf Ae (madeCells B.cells (l.toNat*es)) (l.toNat*es) (by omega) w (Ay.refl w) rfl (l:=(Aq l.toNat F).flatten) (by rw[Gl (by rw[FW];omega)];exact DK);have J:F.length=es:=by
  have q1:=IN.len;have q2:=toCs_len Ww;simp only[FW]at q1;omega
 refine⟨_,_,_,.slice (some ⟨w.heap.size,0,none⟩) l.toNat l.toNat,by simp only[execOp,ho,hy.1,hz.1,Jt,E,Oo];rfl,.inl rfl,?_,g',he⟩;simp only[CV,Ab,List.length_replicate];exact⟨some ⟨w.heap.size,0,none⟩,rfl,some ⟨w.heap.size,0,none⟩,l.toNat,rfl,BN _,by unfold maxLen;omega,λ_=>⟨w.heap.size,0,es,rfl,λr E=>by rw[List.eq_of_mem_replicate E,J],D9.flat.2 Fh⟩⟩
section
variable {P:Program} {S0:BF} {w0:Bs} {x:Cx} {w:World} {H:Bx} {a:Act} {o:Oper} {e:Operand->V} {v:V}
theorem AVM (g:Good S0 w0 x w H){R:Nat->Obj->Prop}(G : ∀b,R b (.map #[] 0)){t:TypeId}{r:Option Operand}(ho:o.op=.makeMap t r)(Q:(mG t (r.map a.eval)).run P w=.ok (.map (some w.heap.size)) (w.alloc (.map #[] 0)))(k:Nat)(M : ¬x.dom k):BW P o a S0 w0 x w H (.mp k) (some (k,.mp R)):=by
 have B:Ay w (w.alloc (.map #[] 0)):=(Ay.refl w).alloc _;have E:Ext x (x.C4 k ⟨w.heap.size,0,false,0,false⟩) w (w.alloc (.map #[] 0)):=Good.ext1 k _ M λb j v _ I=>B.cell I
 have F:=g.H5 k (.mp R) E (.FR B) (λi=>Iff.rfl) (λi J=>by simp[Cx.C4,J]) (λ_=>.inr (by simp[Cx.C4])) ⟨by simp[Cx.C4],by simp[Cx.C4],_,by simp only[Cx.C4,if_true];exact heap_alloc_new w _,rfl,G _⟩ (λb j h=>.inl h) (λj S U=>S);refine⟨_,_,_,.map (some w.heap.size),?_,.inl rfl,?_,F,E,λk' h=>h.elim .inl λe=>.inr ⟨.mp R,by rw[e]⟩,λ_=>rfl⟩;simp only[execOp,ho,Jt,Q,Oo];rfl;simp only[CV,Cx.C4,if_true];exact⟨.inr trivial,trivial,trivial⟩
theorem AYE (t:TypeId)(w:World):(mG t none).run P w=.ok (.map (some w.heap.size)) (w.alloc (.map #[] 0)):=by simp[mG]
theorem AZi {t:TypeId}(h:lV P t=true):∃te,P.underlying t=some (.pointer te):=by
 unfold lV at h;split at h;rename_i te e;exact⟨te,e⟩;cases h
theorem AI3 (g:Good S0 w0 x w H){op:BinOp}{t R:TypeId}{y z:Operand}{b:Bool}(ho:o.op=.binOp op t y z R)(E:op=.eql/\b=false\/op=.neq/\b=true)(M:lV P t=true){A:Option Addr}(I:a.eval y=.pointer A)(J:a.eval z=.pointer none):BW P o a S0 w0 x w H (.c (.bool (b ^^ A.isNone))) none:=by
 obtain⟨S,Q⟩:=AZi M;have G:(Pt t (.pointer A) (.pointer none)).run P w=.ok A.isNone w:=by
  have e:Pt t (.pointer A) (.pointer none)=aP (9999+1) t (.pointer A) (.pointer none):=rfl;rw[e];unfold aP;cases A<;>simp[run_underlying Q]
 refine BW.pure g (u:=.bool (b ^^ A.isNone)) ?_ (by simp only[CV,Ab]);rcases E with ⟨rfl,rfl⟩|⟨rfl,rfl⟩
 have F:(eqGuard .eql t y z (.pointer A) (.pointer none)).run P w=.ok () w:=rfl;have B:binOp .eql t (.pointer A) (.pointer none)=(do pure (.bool (<-Pt t (.pointer A) (.pointer none)))):=rfl;simp[execOp,ho,I,J,Jt,F,B,G];have F:(eqGuard .neq t y z (.pointer A) (.pointer none)).run P w=.ok () w:=rfl;have B:binOp .neq t (.pointer A) (.pointer none)=(do pure (.bool (!(<-Pt t (.pointer A) (.pointer none))))):=rfl;simp[execOp,ho,I,J,Jt,F,B,G]
end
section
variable {S0:BF} {w0:Bs} {x:Cx} {w:World} {H:Bx} {a:Act} {o:Oper} {e:Operand->V} {v:V}
theorem ABg (B:Bool)(s:ByteArray)(n:Int)(w:World):(uG B 10000 290 (.agg #[.string s,.int .i64 n])).run AF w=.ok () w:=by
 have h:(10000:Nat)=9999+1:=rfl;rw[h];unfold uG;have E : ∀w,(uG B 9999 9 (.string s)).run AF w=.ok () w:=λw=>AMu (k:=.string s) underlying9 trivial B 9998
 have F : ∀w,(uG B 9999 3 (.int .i64 n)).run AF w=.ok () w:=λw=>AMu (k:=.int .i64 n) underlying3 (by simp[MapKept.IsKey]) B 9998
 have G : ∀w,(part 9 #[.string s,.int .i64 n] 0).run AF w=.ok (.string s) w:=λw=>by
  have:(isAgg 9).run AF w=.ok false w:=by kernel_rfl
  simp[part,this]
 have I : ∀w,(part 3 #[.string s,.int .i64 n] 1).run AF w=.ok (.int .i64 n) w:=λw=>by
  have:(isAgg 3).run AF w=.ok false w:=by kernel_rfl
  simp[part,this]
 simp[run_underlying underlying290,E,F,G,I]
theorem AFy {s:ByteArray}{n:Int}{u:Value}(h:CV x w (.agg [.c (.str s),.c (.int .i64 n)]) u):u=.agg #[.string s,.int .i64 n]:=by
 simp only[CV,AO,Ab]at h;obtain⟨vs,rfl,G,E,B,⟨rfl,_⟩,I,F,rfl,⟨rfl,_⟩,rfl⟩:=h;congr 1
 exact Gx.1 B
end
theorem AYz {k:Int}(h:H2 k≠0):5<=k/\k<=12:=by
 unfold H2 at h;by_cases q1:k=5\/k=6\/k=7\/k=8;omega;rw[if_neg q1]at h;by_cases q2:k=9;omega;rw[if_neg q2]at h;by_cases B:k=10\/k=11;omega;rw[if_neg B]at h;by_cases E:k=12;omega;rw[if_neg E]at h;exact absurd rfl h
theorem AXE (i:Int)(s:Aa)(A5:s.ok=true)(h5:5<=k)(A0:k<=12)(AG:List (List C))(E:Zt[k]?=some (.c (.sl AG)))(n:Nat)(R:AG.length=n)(N:Int)(M:(if k=12 then 256 else(n:Int))=N)(B:i<0\/N<=i):AC AF 303 [.c (.int .i64 (k:Int)),.c (.int .i64 i),Aj s] (.A7 [Aj ⟨0,false⟩,.c (.int .i64 2)]):=by
 have F:=fI s;have G:=AJy;rw[A5]at F;obtain⟨RV,jU⟩:=AI Zt;have Q:RV.length=13:=by rw[<-jU];rfl
 rw[jU]at G E;have S : ¬(k:Int)<5:=by omega
 have U : ¬(12:Int)<(k:Int):=by omega
 have z:(k:Int)<13:=by omega
 have k4:k<13:=by omega
 have J:=gx E;unfold Aj;unfold Aj at F;refine en func303 ntmps303 ?_;by_cases q:k=12;have I:((k:Int)=12)↔True:=⟨λ_=>trivial,λ_=>by omega⟩
 rw[if_pos q]at M;subst M;rcases B with B|B
 exact wz (cj9 @S @U @z @k4 @E @J @I @R @Q<|cj @B Sr) (cj2 F G trivial);have JM : ¬i<0:=by omega
 exact wz (cj9 @S @U @z @k4 @E @J @I @R @Q<|cj2 @B @JM Sr) (cj2 F G trivial);have I : ¬(k:Int)=12:=by omega
 rw[if_neg q]at M;subst M;rcases B with B|B
 exact wz (cj9 @S @U @z @k4 @E @J @I @R @Q<|cj @B Sr) (cj2 F G trivial);have JM : ¬i<0:=by omega
 exact wz (cj9 @S @U @z @k4 @E @J @I @R @Q<|cj2 @B @JM Sr) (cj2 F G trivial)
theorem AXC (i:Int)(s:Aa)(A5:s.ok=true)(h5:5<=k)(A0:k<=12)(AG:List (List C))(B:Zt[k]?=some (.c (.sl AG)))(n:Nat)(hn:AG.length=n)(N:Int)(hN:(if k=12 then 256 else(n:Int))=N)(h0:0<=i)(hi:i<N)(j:Nat)(hj:(if (n:Int) - 1<i then(n:Int) - 1 else i)=(j:Int))(R:j<n)(Hy:n<=100)(g:FuncId)(b:Bool)(L:Int)(I:AG[j]?=some [.EV g,.bool b])(F:AC AF g [.c (.int .i64 s.By)] (.c (.int .i64 L)))(S:Fp AF g=true):AC AF 303 [.c (.int .i64 (k:Int)),.c (.int .i64 i),Aj s] (.A7 [Aj ⟨L,s.Hd || b⟩,.c (.int .i64 0)]):=by
 have E:=fI s;have J:=AJy;rw[A5]at E;obtain⟨RV,jU⟩:=AI Zt;have hl:RV.length=13:=by rw[<-jU];rfl
 rw[jU]at J B;have k1 : ¬(k:Int)<5:=by omega
 have k2 : ¬(12:Int)<(k:Int):=by omega
 have k3:(k:Int)<13:=by omega
 have k4:k<13:=by omega
 have hw:AZ.wrap ((n:Int) - 1)=(n:Int) - 1:=Ac;have z : ¬i<0:=by omega
 have U:=gx B;have Q:=gx I;have qi:j<AG.length:=by omega
 obtain⟨l,c⟩:=s;unfold Aj;unfold Aj at E;simp only at F;refine en func303 ntmps303 ?_;by_cases q:k=12;have M:((k:Int)=12)↔True:=⟨λ_=>trivial,λ_=>by omega⟩
 rw[if_pos q]at hN;subst hN;have G : ¬256<=i:=by omega
 cases c with
 | true=>exact wz (cj9 @k1 @k2 @k3 @k4 @B @U @M @hn @hl<|cj9 @z @G @hw @hj @R @qi @I @Q @S Sr) (cj3 E J F trivial)
 | false=>exact wz (cj9 @k1 @k2 @k3 @k4 @B @U @M @hn @hl<|cj9 @z @G @hw @hj @R @qi @I @Q @S Sr) (cj3 E J F trivial)
 have M : ¬(k:Int)=12:=by omega
 rw[if_neg q]at hN;subst hN;have Is:i=(j:Int):=by rw[if_neg (by omega)]at hj;exact hj
 subst Is;have G : ¬(n:Int)<=(j:Int):=by omega
 have J9 : ¬n<=j:=by omega
 cases c with
 | true=>exact wz (cj9 @k1 @k2 @k3 @k4 @B @U @M @hn @hl<|cj9 @z @G @J9 @hw @R @qi @I @Q @S Sr) (cj3 E J F trivial)
 | false=>exact wz (cj9 @k1 @k2 @k3 @k4 @B @U @M @hn @hl<|cj9 @z @G @J9 @hw @R @qi @I @Q @S Sr) (cj3 E J F trivial)
theorem ABI (k i:Int)(s:Aa):AC AF 303 [.c (.int .i64 k),.c (.int .i64 i),Aj s] (Zx (XW k i s)):=by
 by_cases Q:s.ok=false\/H2 k=0;exact AXD k i s Q;have J:s.ok=true:=by cases h:s.ok with
  | true=>rfl
  | false=>exact absurd (.inl h) Q
 have Iu:H2 k≠0:=λh=>Q (.inr h)
 obtain⟨h5,A1⟩:=AYz Iu;have E:0<=s.By/\s.By<=3:=by
  unfold Aa.ok at J;simpa using J
 obtain⟨n,rfl⟩:∃n:Nat,k=(n:Int):=⟨k.toNat,by omega⟩
 have q:5<=n:=by omega
 have R:n<=12:=by omega
 unfold XW;rw[if_neg Q];by_cases z:i<0\/H2 (n:Int)<=i
 . rw[if_pos z];have U:n=5\/n=6\/n=7\/n=8\/n=9\/n=10\/n=11\/n=12:=by omega
   rcases U with rfl|rfl|rfl|rfl|rfl|rfl|rfl|rfl
   all_goals exact AXE _ i s J (by omega) (by omega) _ rfl _ rfl _ rfl (by simpa [H2]using z)
 rw[if_neg z];have h0:0<=i:=by omega
 have F:i<H2 (n:Int):=by omega
 have key : ∀(j:Nat) (G:List (List C)) (m:Nat) (g:FuncId) (b:Bool) (L:Int),Zt[n]?=some (.c (.sl G))->G.length=m->m<=100->(if n=12 then 256 else(m:Int))=H2 (n:Int)->(if (m:Int) - 1<i then(m:Int) - 1 else i)=(j:Int)->j<m->G[j]?=some [.EV g,.bool b]->AC AF g [.c (.int .i64 s.By)] (.c (.int .i64 L))->Fp AF g=true->GB (n:Int) i s=⟨L,s.Hd || b⟩->AC AF 303 [.c (.int .i64 (n:Int)),.c (.int .i64 i),Aj s] (Zx (GB (n:Int) i s,0)):=by
  intro j G m g b L q1 q2 q3 q4 q5 q6 q7 q8 q9 A0;rw[A0];exact AXC n i s J q R G q1 m q2 _ q4 h0 F j q5 q6 q3 g b L q7 q8 q9
 have U:n=5\/n=6\/n=7\/n=8\/n=9\/n=10\/n=11\/n=12:=by omega
 have I:i=0\/i=1\/2<=i:=by omega
 obtain⟨B,cr⟩:=s;simp only at E;rcases U with rfl|rfl|rfl|rfl|rfl|rfl|rfl|rfl
 rcases I with rfl|rfl|M
 exact key 0 _ 2 _ false _ rfl rfl (by omega) rfl rfl (by omega) rfl (AJp B E.1 E.2) (by kernel_rfl) (by simp[GB]);exact key 1 _ 2 _ true _ rfl rfl (by omega) rfl rfl (by omega) rfl (AJp B E.1 E.2) (by kernel_rfl) (by simp[GB]);simp[H2]at F;omega;rcases I with rfl|rfl|M
 exact key 0 _ 2 _ false _ rfl rfl (by omega) rfl rfl (by omega) rfl (AWZ B) (by kernel_rfl) (by simp[GB]);exact key 1 _ 2 _ true _ rfl rfl (by omega) rfl rfl (by omega) rfl (eJ B) (by kernel_rfl) (by simp[GB]);simp[H2]at F;omega;rcases I with rfl|rfl|M
 exact key 0 _ 2 _ false _ rfl rfl (by omega) rfl rfl (by omega) rfl (eJ B) (by kernel_rfl) (by simp[GB]);exact key 1 _ 2 _ true _ rfl rfl (by omega) rfl rfl (by omega) rfl (sJ B E.1 E.2) (by kernel_rfl) (by simp[GB]);simp[H2]at F;omega;rcases I with rfl|rfl|M
 exact key 0 _ 2 _ false _ rfl rfl (by omega) rfl rfl (by omega) rfl (eJ B) (by kernel_rfl) (by simp[GB]);exact key 1 _ 2 _ false _ rfl rfl (by omega) rfl rfl (by omega) rfl (sJ B E.1 E.2) (by kernel_rfl) (by simp[GB]);simp[H2]at F;omega;rcases I with rfl|rfl|M
 exact key 0 _ 3 _ false _ rfl rfl (by omega) rfl rfl (by omega) rfl (eJ B) (by kernel_rfl) (by simp[GB]);exact key 1 _ 3 _ true _ rfl rfl (by omega) rfl rfl (by omega) rfl (sJ B E.1 E.2) (by kernel_rfl) (by simp[GB]);have e2:i=2:=by simp[H2]at F;omega
 subst e2;exact key 2 _ 3 _ false _ rfl rfl (by omega) rfl rfl (by omega) rfl (sJ B E.1 E.2) (by kernel_rfl) (by simp[GB]);have S:i=0:=by simp[H2]at F;omega
 subst S;exact key 0 _ 1 _ true _ rfl rfl (by omega) rfl rfl (by omega) rfl (eJ B) (by kernel_rfl) (by simp[GB]);have S:i=0:=by simp[H2]at F;omega
 subst S;exact key 0 _ 1 _ false _ rfl rfl (by omega) rfl rfl (by omega) rfl (eJ B) (by kernel_rfl) (by simp[GB]);exact key 0 _ 1 _ false _ rfl rfl (by omega) rfl (by split<;>omega) (by omega) rfl (AV4 B) (by kernel_rfl) (by simp[GB])
theorem APw (A:Option Addr)(n:Nat)(h0:0<n)(hn:n<=1000000)(w:World):Calls AF 293 #[.slice A 0 0,.int .i64 n] w λr w' =>
 ∃cap vs,r=.returned (.slice (some ⟨w.heap.size,0,none⟩) 0 cap)/\w'=w.drew.alloc (.cells vs 3)/\vs.size=cap/\cap<=maxLen:=by
 have hi : ¬((n:Int)<0):=by omega
 have hw:AZ.wrap (n:Int)=n:=Ac;have S:(n:Int) > 0:=by omega
 obtain⟨hu,Q,F,G,hz,hsz,hby,hzs⟩:=JS (show Dk AF 39=some (3,1,8)by kernel_rfl);have I:Builtin.nextslicecap (0+n) 0*Q.bytes<=281474976710656:=by rw[hby];exact growslice_fits (by omega) (by omega)
 have E:=Go.Lib.run_append_grow_zeros (P:=AF) w 39 3 39 3 Q F .i64 .i64 hu (by kernel_rfl) G hz A 0 0 [] (by cases A with
  | none=>simp[fc]
  | some ad=>simpa [fc]using run_loadCells_list (P:=AF) w.drew ad [] (by simp)) n h0 (by omega) (by omega) (by omega) (by rw[hby];omega) I
 have J:=grownCap_ge w (0+n) 0 3;have hle:=grownCap_le_maxLen w (0+n) 0 3 (by unfold maxLen;omega);obtain⟨arr,B⟩:=AI (([]:List Value).toArray++KN F.cells n++KN F.cells (grownCap w (0+n) 0 3 - (0+n)));rw[B]at E;have hsize:arr.size=grownCap w (0+n) 0 3:=by rw[<-B];simp[size_zeroCells,hzs];rw[Cz]at J;omega
 obtain⟨cap,M⟩:∃cap,grownCap w (0+n) 0 3=cap:=⟨_,rfl⟩
 rw[M]at E J hle hsize;have R : ¬((cap:Int)<0):=by omega
 clear M B I hz G hu;go_enter func293,ntmps293;go_wp2_with (at_builtin;refine Go.Lib.wpList_append_run _ rfl _ _ _ _ rfl _ _ rfl rfl _ _ E ?_)
 simp[bodyPost,results,results293];exact⟨arr,rfl,hsize,hle⟩
theorem APv (n:Nat)(I:0<n)(Q:n<=1000000)(h:List O):HC AF 293 [.Bg [],.c (.int .i64 n)] h (.ret (.gr h.length 1 [])) (h++[.tok 3 1 0]):=by
 refine⟨by kernel_rfl,λ{S0 w0 x w us} g F=>?_⟩;simp only[AO,CV,Ab]at F;obtain⟨z,U,rfl,⟨A,rfl,_⟩,u2,q,rfl,⟨rfl,_⟩,rfl⟩:=F;refine(APw A n I Q w).mono ?_;rintro r w' ⟨cap,vs,rfl,rfl,R,B⟩;have S : ¬x.dom h.length:=λJ=>by obtain⟨o,E⟩:=g.dom _ J;simp at E
 obtain⟨G,M,_⟩:=g.xi h.length (Ae:=3) (es:=1) (m:=0) (cap:=cap) (vs:=vs) (λo E=>by simp at E) (by omega) (l:=[]) (by simp[B4]) (by simp) (by omega);have e:=Kj h (some (h.length,O.tok 3 1 0)) (λk o e=>by cases e;exact BN _);simp only[Bk,IY,if_false,Bx.upd]at e;refine⟨_,by rw[e];exact G,M,.FR ((Ay.refl w).drew.alloc _),_,rfl,?_⟩;simp only[CV,Ab,Cx.grow,if_true,BO,Bool.false_eq_true,if_false];refine⟨.inr trivial,trivial,⟨some ⟨w.heap.size,0,none⟩,cap,rfl,by omega,B,λh=>absurd rfl h⟩,by simp,BN _,λ_=>⟨cap,rfl,rfl⟩⟩
def Ui (y:Nat)(b e d:Int)(k:Nat):List V:=[.yl y,.cp [.int .i64 b] 0,.cp [.int .i64 e] 0,.cp [.int .i64 d] 0,.any,.c (.int .i64 (b+d*k)),.any,.any,.any,.any,.any,.any,.any,.any,.any,.any,.any]
theorem pk (val:α->Int)(l:List α)(b e d:Int)(hb:0<=b)(q:b<=1000000)(R:0<=d)(QL:d<=1000000)(TO:e<=1000000)(S : ∀(k:Nat) (y:α),l[k]?=some y->val y=b+d*(k:Int))(I : ∀y∈l,val y<e)(JL:e<=b+d*(l.length:Int)):
 UU AF 354 [.cp [.int .i64 b] 0,.cp [.int .i64 e] 0,.cp [.int .i64 d] 0] (λy=>#[.int .i64 (val y)]) (λxs=>xs=l) l.length:=by
 refine UU.intro func354 rfl rfl λY=>?_
 simp only[ntmps354,BA,BO,Nat.reduceAdd,Nat.reduceSub,BY,Cy,BK,BU];refine ED trivial ?_;refine IW.loop (ι:={ k:Nat // k<=l.length }) (λk=>(⟨l.take k.1,false⟩,⟨Ui Y.l b e d k.1,[]⟩)) (λk=>l.length - k.1) ⟨0,by omega⟩ (by simp) ?_ ?_;refine G1.drop (by simp[DG,Ui]) (by simp[V.BI,V.A8,Ui]);rintro ⟨k,hk⟩;simp only[Ui];by_cases E:k<l.length
 . obtain⟨y,J⟩:=AI (l[k]);have B:l[k]?=some y:=by rw[BE E,J]
   have F:=S k y B;have G:=I y (Cj B);rw[F]at G;have z:0<=d*(k:Int):=Int.mul_nonneg R (by omega);have Q:b+d*(k:Int)+d=b+d*((k+1:Nat):Int):=by push_cast;rw[Int.mul_add];omega
   have U:AZ.wrap (b+d*(k:Int)+d)=b+d*((k+1:Nat):Int):=by rw[Ac,Q]
   refine ED @G ?_;refine IL.yield y (Ui Y.l b e d k) rfl rfl (by simp[ev]) (by first|(simp[ev];exact⟨rfl,rfl⟩)|(simp[ev];done)) (by rw[F]) (by rw[Fa];omega) (by simp[DG,Ui]) (by simp[V.BI,V.A8,Ui]) ?_ ?_;simp only[St.put,Ui,Ag,Ai,BA,BO,Nat.reduceAdd,BY,Cy];refine ED @U ?_;refine⟨⟨k+1,by omega⟩,by simp only;omega,?_,?_⟩;simp only[UD E,J];exact G1.drop (by simp[DG]) (by simp[V.BI,V.A8]);simp only[St.put,Ui,Ag,Ai,BA,BO,Nat.reduceAdd,BY,Cy];refine ED trivial ?_;exact⟨.inr rfl,λh=>nomatch h⟩
 have M:k=l.length:=by omega
 subst M;have G : ¬(b+d*(l.length:Int)<e):=by omega
 refine ED @G ?_;refine⟨.inl rfl,λ_=>?_⟩;simp
theorem iw (b e d:Int):AC AF 322 [.c (.int .i64 b),.c (.int .i64 e),.c (.int .i64 d)] (.fn 354 [.cp [.int .i64 b] 0,.cp [.int .i64 e] 0,.cp [.int .i64 d] 0]):=by
 refine en func322 ntmps322 ?_;with_reducible refine AW.seq ?_
 with_reducible refine AW.region ?_
 with_reducible refine If (by simp[BY];first|exact rfl|exact⟨rfl,rfl⟩) ?_
 with_reducible refine Kz ?_
 with_reducible refine G3 ?_
 refine Cn 0 ?_;refine Cn 1 ?_;refine Cn 2 ?_;refine Ah ?_;exact At results322
theorem xh (a:Int)(l:List Int)(hl:l.length<=1000000):AC AF 353 [.c (.int .i64 a),.c (AV l)] (.c (.int .i64 (l.foldl mx a))):=by
 obtain⟨E,G⟩:=AI (l.map (λn=>[C.int .i64 n]));have F:E.length=l.length:=by rw[<-G];simp
 have q:AV l=.sl E:=by rw[<-G];rfl
 rw[q];refine en func353 ntmps353 ?_;refine go @F ?_;refine lp (ι:={ k:Nat // k<=l.length }) (λk=>[(0,.c (.int .i64 ((l.take k.1).foldl mx a))),(9,.c (.int .i64 (k.1:Int)))]) (λ_=>[]) (λk=>l.length - k.1) ⟨0,by omega⟩ ?_ ?_;all_goals simp only[puts,Bw,CO,Ag,Ai]
 exact DH;rintro ⟨k,hk⟩;simp only;by_cases B:k<l.length;obtain⟨y,R⟩:=AI (l[k]);have Q:E[k]?=some [.int .i64 y]:=by rw[<-G,CM,BE B,R];rfl
 have U:=gx Q;have S:k<E.length:=by omega
 have z:AZ.wrap ((k:Int)+1)=((k+1:Nat):Int):=by rw[Ac];simp
 have J:(l.take (k+1)).foldl mx a=mx ((l.take k).foldl mx a) y:=by rw[UD B,R,List.foldl_append];rfl
 obtain⟨M,I⟩:=AI ((l.take k).foldl mx a);rw[I]at J;simp only[I];refine wy (cj6 @B @F @S @Q @U @z results353) trivial ⟨?_⟩;refine⟨⟨k+1,by omega⟩,by simp only;omega,?_⟩;simp only[J,mx];exact DH;obtain rfl:k=l.length:=by omega
 exact wz (cj2 @B @F results353) trivial
theorem AOE (p q:Addr)(w:World):CallsD AF 185 #[.pointer (some p),.pointer (some q)] .returning w λe E w'=>e=.returned (.tuple #[])/\E=.returning/\w'=w:=by
 refine callsD_of_wpS func185 rfl λB cs hu=>?_
 apply wpS_seq;apply wpS_region;simp[wpOpsS,go_sem,recoverD,hu,ntmps185,Exit.thenS];refine wpS_of_wp ?_;cases B;go_wp2;simp_all [bodyPostS,results,results185]
theorem X2:ND AF 41 11:=ND.mk' underlying41 rfl (by kernel_rfl)
def DZ:Array Value:=#[.int .i64 0,.string ⟨#[]⟩,.int .i64 0,.int .i64 0,.int .i64 0,.int .i64 0,.int .i64 0,.int .i64 0,.slice none 0 0,.int .i64 0,.slice none 0 0]
theorem AOD (f:FuncId)(caps:Array Value)(w:World)(Z:Array Value->World->Prop)(I : ∀w1,Ay w w1->w1.heap.size=w.heap.size+2->Calls AF f caps w1 λr w2=>∃cs,r=.returned (.agg cs)/\cs.size=11/\Xw cs/\Ay w1 w2/\Z cs w2)(hf : ∃fn,AF.funcs[f]?=some fn/\fn.body≠none/\fn.name≠ "runtime.NumGoroutine") :
 Calls AF 121 #[.func (.func f) #[] caps] w λr w'=>∃cs w2,r=.returned (.tuple #[.agg cs,.int .i64 0])/\Ay w w'/\Z cs w2/\KB (λb=>b=w.heap.size\/b=w.heap.size+1) w2 w':=by
 have U : ∀(fn:Fn) (first cap:Array Value) (w:World),(Instr.makeFunc fn first cap).run AF w=.ok (.func fn first cap) w:=λ_ _ _ _=>rfl
 obtain⟨fn,M,HK,S⟩:=hf;go_enter_defers func121,ntmps121
 have hrun : ∀W:World,(callFunc f caps).run AF W=.ok (.enter f caps) W:=λW=>by simp[callFunc,program,Sem.run,M,S,HK]
 go_wp2;refine(I _ (by repeat (with_reducible first|exact Ay.refl _|assumption|apply Ay.alloc|apply Ay.drew|apply Ay.drewN|(refine Ay.setRow ?_ (by omega) _)|refine Ay.trans ?_ (by assumption))) (by simp)).mono ?_;rintro r w2 ⟨cs,rfl,hs,h1,hk,hz⟩;have G:ND AF 41 cs.size:=by rw[hs];exact X2
 have IN:=hk.size;simp only[vl]at IN;have b0:Cb w2 w.heap.size 41 DZ:=hk.blk ((Cb.new _ _ _).alloc _);have b1:Cb w2 (w.heap.size+1) 42 #[.int .i64 0]:=hk.blk (Cb.AS _ _ _ (by simp));have c1:(w2.setRow w.heap.size cs).cell? ⟨w.heap.size+1,0,none⟩=some (.int .i64 0):=(Cb.far b1 cs (g:=w.heap.size) (by omega)).cell 0;have d1:=(Cb.far b1 cs (g:=w.heap.size) (by omega)).frozen 0;have B:=Lib.hid b0;have E:=Lib.hid b1;clear b0 b1;go_wp2_with (((with_reducible refine ll (ty:=41) (w.heap.size) (cs) ?_ ?_ ?_ ?_ ?_ ?_ ?_);(focus rfl);(focus rfl);(focus exact⟨_,_,B.out,Eq.symm (hs)⟩);(focus exact h1);(focus exact G);(focus rfl)))
 have hs1:(w2.setRow w.heap.size cs).setCell ⟨w.heap.size+1,0,none⟩ (.int .i64 0)=(w2.setRow w.heap.size cs).setRow (w.heap.size+1) #[.int .i64 0]:=by
  rw[setCell_eq_setRow _ _ 0 #[.int .i64 0] 42 (0,0) _ (Cb.far E.out cs (g:=w.heap.size) (by omega))];rfl
 rw[hs1];have NO:Cb ((w2.setRow w.heap.size cs).setRow (w.heap.size+1) #[.int .i64 0]) w.heap.size 41 cs:=Cb.far (B.out.Tz cs) _ (by omega);have F:Cb ((w2.setRow w.heap.size cs).setRow (w.heap.size+1) #[.int .i64 0]) (w.heap.size+1) 42 #[.int .i64 0]:=(Cb.far E.out cs (g:=w.heap.size) (by omega)).Tz _;obtain⟨W,hW⟩:=AI ((w2.setRow w.heap.size cs).setRow (w.heap.size+1) #[.int .i64 0]);have hkb:KB (λb=>b=w.heap.size\/b=w.heap.size+1) w2 W:=by
  rw[<-hW];refine⟨rfl,rfl,rfl,by simp,λk _ hn=>?_⟩;rw[setRow_other _ _ _ _ (λe=>hn (.inr e)),setRow_other _ _ _ _ (λe=>hn (.inl e))]
 rw[hW]at NO F ⊢;refine leaves_cons (f:=185) (args:=#[.pointer (some ⟨w.heap.size,0,none⟩),.pointer (some ⟨w.heap.size+1,0,none⟩)]) (by simp) (by simp[go_sem]) ?_;refine(AOE ⟨w.heap.size,0,none⟩ ⟨w.heap.size+1,0,none⟩ W).mono ?_;rintro e z w'' ⟨rfl,rfl,rfl⟩;have Q:(loadVar 41 ⟨w.heap.size,0,none⟩).run AF w''=.ok (.agg cs) w'':=lI NO.row G;have J:(loadVar 42 ⟨w.heap.size+1,0,none⟩).run AF w''=.ok (.int .i64 0) w'':=by
  have:(isAgg 42).run AF w''=.ok false w'':=by kernel_rfl
  simp[loadVar,this,load,Sem.run,F.cell]
 have R:Ay w w'':=by
  have:=hkb.after (w:=w) (Ay.trans ((((Ay.refl w).alloc _).alloc _)) hk) (λk q=>by omega);exact this
 refine⟨.tuple #[.agg cs,.int .i64 0],?_,cs,w2,rfl,R,hz,hkb⟩;simp[results,results121,asAddr,Q,J]
theorem AOC (g:FuncId)(caps:List V)(l:List V)(C9:AC AF g caps (.agg l))(A5:Fp AF g=true)(hl:l.length=11)(h1:l.all V.one=true):AC AF 121 [.fn g caps] (.A7 [.agg l,.c (.int .i64 0)]):=by
 intro S w us hS z;simp only[AO,CV]at z;obtain⟨u,r,rfl,⟨vs,rfl,EP⟩,rfl⟩:=z;obtain⟨fn,hf,hb,hn⟩:=P7 A5;refine(AOD g vs w (λR M=>∃B,(∀b j,S b j->B b j)/\(∀b j,B b j->S b j\/(w.heap.size+2<=b/\b<M.heap.size))/\CV (Cx.bare B) M (.agg l) (.agg R)) (λw1 FJ A0=>?_) ⟨fn,hf,(by intro e;rw[e]at hb;cases hb),by simpa using hn⟩).mono ?_;have yt:=AO.mono (x':=Cx.bare S) (w':=w1) ⟨⟨λ_ _ h=>h,λb j v _ I=>FJ.cell I⟩,λ_ h=>h.elim,λ_ h=>h.elim⟩ _ _ EP;refine(C9 S w1 vs.toList (λb j h=>H7 (hS b j h) FJ.size) yt).mono ?_;rintro r M ⟨u,B,rfl,EG,U,Q,E⟩;have G:=E;simp only[CV]at G;obtain⟨R,rfl,q⟩:=G;refine⟨R,rfl,by have:=q.len;simpa [hl]using this,λy hy=>?_,EG,B,U.sub,λb j h=>(Q b j h).imp id λh=>⟨by omega,h.2⟩,E⟩;have Yk:=CV.cells (v:=.agg l) E (by simpa [V.flat]using h1);exact Yk.2 y (by simpa [Value.cells]using hy);rintro r w' ⟨R,M,rfl,hk,⟨B,PU,Q,E⟩,J⟩;have U:Ar B B M w':=⟨λ_ _ h=>h,λb j v hs I=>J.cell (by
  rcases Q b j hs with h|h
  have:=hS b j h;omega;omega) I⟩
 have F:=CV.mono (x:=Cx.bare B) (x':=Cx.bare B) (w':=w') ⟨U,λ_ h=>h.elim,λ_ h=>h.elim⟩ _ _ E;refine⟨_,B,rfl,hk,⟨PU,λb j v _ I=>hk.cell I⟩,λb j h=>(Q b j h).imp id λh=>⟨by omega,H7 h.2 J.size⟩,?_⟩;simp only[CV,AO,Ab]at F ⊢;exact⟨_,rfl,_,_,rfl,F,_,_,rfl,⟨rfl,by decide +kernel⟩,rfl⟩
section
variable {P:Program}
theorem ANg {lp n:Nat}{o B:Oper}{p d G d2:Tmp}(ho:o.op=.assign (.tmp p))(J:o.dst=some d)(M:o.guard=none)(Q:B.op=.assign (.tmp G))(I:B.dst=some d2)(R:B.guard=none){id E:Nat}{t:Array Value}{K:Act->World->Prop}(h:K { tmps:=(t.setIfInBounds d (t.getD p undef)).setIfInBounds d2 ((t.setIfInBounds d (t.getD p undef)).getD G undef),defers:=[] } W):
 (Code.seq (.region id #[o] false) (.region E #[B] false)).wpIn (Cg.inRound lp) n P (Exit.then K (λ_ _ _=>False)) { tmps:=t,defers:=[] } W:=by
 refine wpIn_seq (wpIn_mono (iP ho J M (K:=λa w=>(Code.region E #[B] false).wpIn (Cg.inRound lp) n P (Exit.then K (λ_ _ _=>False)) a w) (iP Q I R h)) λe a w F=>?_);cases e<;>first|exact F|exact F.elim
theorem Aa0 {P:Program}{n:Nat}{ps:Array Tmp}{assign body:Code}{Q:Exit->Act->World->Prop}{a:Act}{w:World}(h1:1<=n){R:Nat}{lb:Array Value}(hg:a.eval g=.func (.func R) #[] lb)(eg : ∀args w,(callFunc R args).run P w=.ok (.enter R args) w){encs:List α->α->Array Value}{S:BF}{Sx:List α->Prop}{N:Nat}(NU:vy (n - 1) P R lb encs (F3 S) Sx N w)(Ru : ∀pre x,(encs pre x).size=ps.size)(I Ix:List α->World->Prop)(hI:OwnFrom w.heap.size I)(yD:OwnFrom w.heap.size Ix)(h0:I [] w)(Ax:List α->α->Act->World->Prop)(xp : ∀pre x a',OwnFrom w.heap.size (λ(_:Unit) W=>Ax pre x a' W))(ym : ∀(l:Nat) (pre:List α) (x:α) (W:World) (K:Act->World->Prop),I pre W->pre.length<N->(∀a' W',KeepsFrom w.heap.size W W'->F3 S W W'->I pre W'->Ax pre x a' W'->K a' W')->
   assign.wpIn (Cg.inRound l) (n - 1 - 1) P (Exit.then K (λ_ _ _=>False)) { tmps:=(ps.zip (encs pre x)).foldl (λt (p,v)=>t.setIfInBounds p v) a.tmps,defers:=[] } W)(HK : ∀(l:Nat) (pre:List α) (x:α) (a':Act) (W:World),I pre W->Ax pre x a' W->pre.length<N->body.wpIn (Cg.inRound l) (n - 1 - 1) P (λe _ W'=>(e=.normal/\KeepsFrom w.heap.size W W'/\F3 S W W'/\I (pre++[x]) W')\/(e=.ret/\KeepsFrom w.heap.size W W'/\Ix (pre++[x]) W')) a' W)(hdone : ∀(D:Nat) (xs:List α) (W:World),w.heap.size<=D->Sx xs->I xs W->W.heap[D]?=some (.deferred (some []))->Q .normal { a with defers:={ target:=.collected D,args:=#[] }::a.defers } W)(kG : ∀(D:Nat) (xs:List α) (W:World),w.heap.size<=D->Ix xs W->W.heap[D]?=some (.deferred (some []))->Q .ret { a with defers:={ target:=.collected D,args:=#[] }::a.defers } W):
 (Code.rangeFunc g ps assign body).wpIn Cg n P Q a w:=by
 refine wpIn_rangeFunc λfn Ff=>?_
 rw[show Cg.round=none from rfl];obtain⟨rec,E⟩:∃rec:LoopState->Option Code->Loop,rec=λst pe=>{ state:=st,pending:=pe,fn,tmps:=a.tmps,params:=ps,assign,body,defers:=w.heap.size }:=⟨_,rfl⟩
 obtain⟨L,hL⟩:=AI (w.heap.size+1);obtain⟨F,M⟩:=AI ((w.alloc (.deferred (some []))).alloc (.loop (rec .ready none)));have PH:F.heap[w.heap.size]?=some (.deferred (some [])):=by
  rw[<-M];exact(Below.heap_alloc _ _ _ (by simp)).trans (vk w _)
 have FO:F.heap[L]?=some (.loop (rec .ready none)):=by
  rw[<-M,<-hL];have:=vk (w.alloc (.deferred (some []))) (.loop (rec .ready none));rwa [vl]at this
 have yB:I [] F:=by rw[<-M];exact hI.alloc _ (hI.alloc _ h0)
 have EK:F.heap.size=w.heap.size+2:=by rw[<-M];simp
 refine⟨L,[{ target:=.collected w.heap.size,args:=#[] }],F,{ target:=.fn (.func R) lb,args:=#[.func (.yield L) #[] #[]] },F,R,#[.func (.yield L) #[] #[]]++lb,F,?_,?_,λf' jl=>trivial,?_,λ_=>h1,?_⟩;rw[<-M,E,<-hL];exact run_enterLoop_outer _ _ _ _ _
 . simp only[resolve,hg];simp[go_sem]
 . simp[invoke,go_sem,eg]
 have G5:Below w.heap.size w F:=by
  rw[<-M];exact(((Below.refl _ w).alloc (BN _) _).alloc (by simp) _)
 have hcell : ∀ {A B:World} {row:Option Nat} (hr : ∀r,row=some r->F.heap.size<=r/\∃o:Obj,A.heap[r]?=some o/\o.isWalk=true),∀r,row=some r->w.heap.size<=r/\∃o:Obj,A.heap[r]?=some o/\o.isCells=false:=λhr r e=>by
  obtain⟨h1,o,h2,h3⟩:=hr r e;exact⟨by omega,o,h2,Obj.not_cells_of_walk h3⟩
 refine(NU L (λpre W=>I pre W/\W.heap[L]?=some (.loop (rec .ready none))/\W.heap[w.heap.size]?=some (.deferred (some []))) (λpre W=>Ix pre W/\W.heap[L]?=some (.loop (rec .done (some .ret)))/\W.heap[w.heap.size]?=some (.deferred (some []))) F G5 (λs A B row hs J hr=>⟨hI s A B row hs.1 J (hcell (B:=B) hr),(grownBy_keeps J (λr e=>(hr r e).2) hs.2.1 rfl).trans hs.2.1,(grownBy_keeps J (λr e=>(hr r e).2) hs.2.2 rfl).trans hs.2.2⟩) (λs A B row hs J hr=>⟨yD s A B row hs.1 J (hcell (B:=B) hr),(grownBy_keeps J (λr e=>(hr r e).2) hs.2.1 rfl).trans hs.2.1,(grownBy_keeps J (λr e=>(hr r e).2) hs.2.2 rfl).trans hs.2.2⟩) ?_ ⟨yB,FO,PH⟩).mono ?_;rintro pre x W ⟨hi,hl,hd⟩ hN;have hy:=run_yield (P:=P) (args:=encs pre x) hl (by rw[E];exact Ru pre x);rw[E]at hy;refine⟨fn,_,assign,body,hy,roundIn_of_wpIn Ff (ym _ pre x W _ hi hN λa' W2 EG HN J9 Wt=>?_)⟩;have U:=EG.same _ _ (by omega) hl rfl;have QL:=EG.same _ _ (BN _) hd rfl;have hlt:=(DO.1 U).1;refine⟨_,run_beginRound U (by rw[E]),?_⟩;obtain⟨z,U8⟩:=AI (({ rec .ready none with state:=.busy }:Loop));rw[U8];have ql:(W2.putObj L (.loop z)).heap[L]?=some (.loop z):=iD hlt;have cZ:(W2.putObj L (.loop z)).heap[w.heap.size]?=some (.deferred (some [])):=(Pz (by omega)).trans QL;refine wpIn_mono (HK _ pre x a' _ (hI.putObj _ J9 (by omega) U rfl) ((xp pre x a').putObj (s:=()) _ Wt (by omega) U rfl) hN) ?_;rintro e a3 W3 (⟨rfl,q,Yx,jr⟩|⟨rfl,q,jr⟩);have G:=q.same _ _ (by omega) ql rfl;have Ux:=q.same _ _ (BN _) cZ rfl;have hr:=run_endRound (P:=P) none G;have e1:({ z with state:=if (none:Option Code).isNone then .ready else .done,pending:=none }:Loop)=rec .ready none:=by rw[<-U8,E];rfl
 rw[e1]at hr;exact⟨_,_,hr,.inl ⟨rfl,⟨hI.putObj _ jr (by omega) G rfl,iD (DO.1 G).1,(Pz (by omega)).trans Ux⟩,HN.trans ((F3.put _ _ _ _ U rfl).trans (Yx.trans (F3.put _ _ _ _ G rfl)))⟩⟩;have G:=q.same _ _ (by omega) ql rfl;have Ux:=q.same _ _ (BN _) cZ rfl;have hr:=run_endRound (P:=P) (some .ret) G;have e1:({ z with state:=if (some Code.ret:Option Code).isNone then .ready else .done,pending:=some .ret }:Loop)=rec .done (some .ret):=by rw[<-U8,E];rfl
 rw[e1]at hr;exact⟨_,_,hr,.inr ⟨rfl,yD.putObj _ jr (by omega) G rfl,iD (DO.1 G).1,(Pz (by omega)).trans Ux⟩⟩;rintro e W2 ⟨⟨v,rfl⟩,⟨xs,hS,hi,hl,hd⟩|⟨xs,_,hi,hl,hd⟩⟩;exact⟨none,_,by have:=run_endLoop (P:=P) hl (by rw[E];simp);rw[E]at this;exact this,hdone _ xs _ (BN _) hS (hI.putObj _ hi (by omega) hl rfl) ((Pz (by omega)).trans hd)⟩;exact⟨some .ret,_,by have:=run_endLoop (P:=P) hl (by rw[E];simp);rw[E]at this;exact this,wpIn_ret (kG _ xs _ (BN _) (yD.putObj _ hi (by omega) hl rfl) ((Pz (by omega)).trans hd))⟩
def VQ (t:List V)(p p2 d d2:Tmp)(u v:V):List V:=(((t.set p u).set p2 v).set d u).set d2 v
def se (t:Array Value)(p p2 d d2:Tmp)(u v:Value):Array Value:=
 ((((t.setIfInBounds p u).setIfInBounds p2 v)).setIfInBounds d u).setIfInBounds d2 v
theorem AW.AKI {n1:Nat}{s:St}{p p2:Tmp}(d d2:Tmp){z7 body:Code}{gf:FuncId}{caps Lj:List V}{fn:Func}(N:Nat)(AQt : ∀(l n:Nat) (t:Array Value) (W:World) (Kx:Act->World->Prop),0<N->Kx { tmps:=(t.setIfInBounds d (t.getD p undef)).setIfInBounds d2 ((t.setIfInBounds d (t.getD p undef)).getD p2 undef),defers:=[] } W->z7.wpIn (Fence.wide.inRound l) n P (Exit.then Kx (λ_ _ _=>False)) { tmps:=t,defers:=[] } W)(hne:p≠p2)(zb:d≠p2)(hg:ev s.t g=.fn gf caps)(hp:V.CF caps=some Lj)(Ff:P.funcs[gf]?=some fn)(Iq:fn.body.isSome=true)(Hy:(fn.name == "runtime.NumGoroutine")=false)(e1 e2:List α->α->Value)(v1 v2:List α->α->V)(Fv : ∀x' W pre y,pre.length<N->CV x' W (v1 pre y) (e1 pre y))(IK : ∀x' W pre y,pre.length<N->CV x' W (v2 pre y) (e2 pre y))(Sx:List α->Prop)(NU:MS P gf Lj (λpre y=>#[e1 pre y,e2 pre y]) Sx N)(Ip Jp:List α->Prop)(yA:Ip [])(hf hx:List α->List O)(h0:s.h=hf [])(n0:Nat)(hlen : ∀pre,(hf pre).length=n0)(hpl:p<s.t.length)(zm:p2<s.t.length)(HK : ∀(lp:Nat) (pre:List α) (y:α),pre.length<N->Ip pre->AW ⟨some lp,n0⟩ P body (λe s'=>(e=.normal/\Ip (pre++[y])/\∃t',Le ⟨some lp,n0⟩ s' ⟨t',hf (pre++[y])⟩)\/(e=.ret/\Jp (pre++[y])/\∃t',Le ⟨some lp,n0⟩ s' ⟨t',hx (pre++[y])⟩)) ⟨VQ s.t p p2 d d2 (v1 pre y) (v2 pre y),hf pre⟩)(hdone : ∀xs,Sx xs->Ip xs->K .normal ⟨s.t,hf xs⟩)(kG : ∀xs,Jp xs->K .ret ⟨s.t,hx xs⟩)(Hi : ∀pre,((hf pre).all O.Tn)=true:=by intro _;rfl)(zY : ∀pre,((hx pre).all O.Tn)=true:=by intro _;rfl):AW ⟨none,n1⟩ P (.rangeFunc g #[p,p2] z7 body) K s:=λn S0 w0 x a w hm hA=>by
 have FI:=CW hA.tm g;rw[hg]at FI;simp only[CV]at FI;obtain⟨lb,FI,EP⟩:=FI;have hc':=MC _ _ _ hp EP;have hb:fn.body≠none:=by intro e;rw[e]at Iq;cases Iq
 have hn:fn.name≠ "runtime.NumGoroutine":=by simpa using Hy
 have eg : ∀args w,(callFunc gf args).run P w=.ok (.enter gf args) w:=λargs w=>by simp[callFunc,program,Sem.run,Ff,hn,hb]
 have hsize : ∀ {D:Nat},w.heap.size<=D->¬w0.F D:=λh=>hA.good.fresh h
 have PA : ∀Ds:List Nat,a.defers=Ds.map (λD=>{ target:=.collected D,args:=#[] })->∀D∈Ds,D<w.heap.size:=by
  intro Ds e D hD;obtain⟨n9,f1,f2,f3⟩:=hA.df;have hm:({ target:=.collected D,args:=#[] }:Deferred)∈a.defers:=by rw[e];exact List.mem_map.2 ⟨D,hD,rfl⟩
  rw[f1]at hm;obtain⟨D',Fs,e'⟩:=List.mem_map.1 hm;have:D'=D:=by injection e' with e1 e2;injection e1
  subst this;exact(Array.getElem?_eq_some_iff.1 (f3 D' Fs).2).1
 have hs:s=⟨s.t,hf []⟩:=by rw[<-h0]
 have grow : ∀(hh:List α->List O),(∀pre,((hh pre).all O.Tn)=true)->OwnFrom w.heap.size (λ(pre:List α) W=>∃x',Bo S0 w0 x' ⟨s.t,hh pre⟩ a W/\Ar x.S x'.S w W):=by
  rintro hh Hi pre W W' row ⟨x',Au,CZ⟩ hgr hr;obtain⟨g',he⟩:=Au.good.jI (To (Hi pre)) hgr λr e=>⟨hsize (hr r e).1,(hr r e).2⟩
  refine⟨x',⟨g',AO.mono he _ _ Au.tm,?_⟩,CZ.trans he.ar⟩;obtain⟨Ds,e1,e2,e3⟩:=Au.df;refine⟨Ds,e1,e2,λD hD=>⟨(e3 D hD).1,?_⟩⟩;have h2:=(e3 D hD).2;rw[hgr.block D (Array.getElem?_eq_some_iff.1 h2).1 (λe=>by have:=(hr D e.symm).1;have:=PA Ds e1 D hD;omega)];exact h2
 have again : ∀(hh:List α->List O) (D:Nat) (xs:List α) (W:World),w.heap.size<=D->(∃x',Bo S0 w0 x' ⟨s.t,hh xs⟩ a W/\Ar x.S x'.S w W)->W.heap[D]?=some (.deferred (some []))->∃x',Bo S0 w0 x' ⟨s.t,hh xs⟩ { a with defers:={ target:=.collected D,args:=#[] }::a.defers } W:=by
  rintro hh D xs W hD ⟨x',Au,CZ⟩ Rm;obtain⟨Ds,e1,e2,e3⟩:=Au.df;refine⟨x',⟨Au.good,Au.tm,D::Ds,by simp[e1],List.nodup_cons.2 ⟨λh=>by have:=PA Ds e1 D h;omega,e2⟩,λD' Fs=>?_⟩⟩;rcases List.mem_cons.1 Fs with rfl|h
  exact⟨hsize hD,Rm⟩;exact e3 D' h
 refine wpIn_wide.2 ((wpIn_wide (n:=2)).1 (Aa0 (n:=2) (α:=α) (ps:=#[p,p2]) (encs:=λpre y=>#[e1 pre y,e2 pre y]) (S:=x.S) (Sx:=Sx) (N:=N) (by omega) FI eg (NU _ x.S w lb hA.good.ex hc') (λ_ _=>rfl)
  (λpre W=>Ip pre/\∃x',Bo S0 w0 x' ⟨s.t,hf pre⟩ a W/\Ar x.S x'.S w W) (λpre W=>Jp pre/\∃x',Bo S0 w0 x' ⟨s.t,hx pre⟩ a W/\Ar x.S x'.S w W) (λpre W W' row h hgr hr=>⟨h.1,grow hf Hi pre W W' row h.2 hgr hr⟩) (λpre W W' row h hgr hr=>⟨h.1,grow hx zY pre W W' row h.2 hgr hr⟩) ⟨yA,x,by rw[<-hs];exact hA,Ar.refl _ _⟩
  (λpre y a' _=>a'={ tmps:=se a.tmps p p2 d d2 (e1 pre y) (e2 pre y),defers:=[] }) (λ_ _ _ _ _ _ _ h _ _=>h) ?_ ?_ ?_ ?_))
 intro l pre y W K hI cL hK;obtain⟨zM,x',Au,CZ⟩:=hI;have hl:a.tmps.size=s.t.length:=by have:=Au.tm.len;simpa using this
 refine AQt _ _ _ _ _ (Nat.lt_of_le_of_lt (Nat.zero_le _) cL) (hK _ W (KeepsFrom.refl _ _) (F3.refl _ _) ⟨zM,x',Au,CZ⟩ ?_);have f0:((#[p,p2].zip #[e1 pre y,e2 pre y]).foldl (λ(t:Array Value) (q:Tmp×Value)=>t.setIfInBounds q.1 q.2) a.tmps)=(a.tmps.setIfInBounds p (e1 pre y)).setIfInBounds p2 (e2 pre y):=by simp
 rw[f0];have f1:((a.tmps.setIfInBounds p (e1 pre y)).setIfInBounds p2 (e2 pre y)).getD p undef=e1 pre y:=by
  rw[Array.getD_eq_getD_getElem?,Array.getElem?_setIfInBounds_ne (Ne.symm hne),Array.getElem?_setIfInBounds_self_of_lt (by rw[hl];exact hpl)];rfl
 have f2:(((a.tmps.setIfInBounds p (e1 pre y)).setIfInBounds p2 (e2 pre y)).setIfInBounds d (e1 pre y)).getD p2 undef=e2 pre y:=by
  rw[Array.getD_eq_getD_getElem?,Array.getElem?_setIfInBounds_ne zb,Array.getElem?_setIfInBounds_self_of_lt (by rw[Array.size_setIfInBounds,hl];exact zm)];rfl
 rw[f1,f2];rfl;rintro l pre y a' W ⟨zM,x',Au,CZ⟩ rfl hN;have Ls : ∀k,x'.dom k->k<n0:=λk hk=>by
  obtain⟨o,ho⟩:=Au.good.dom k hk;have:=(List.getElem?_eq_some_iff.1 ho).1;rw[<-hlen pre];exact this
 have hsl:AO x' W (VQ s.t p p2 d d2 (v1 pre y) (v2 pre y)) (se a.tmps p p2 d d2 (e1 pre y) (e2 pre y)).toList:=by
  unfold VQ se;simp only[Array.toList_setIfInBounds];exact(((Au.tm.set p (Fv _ _ _ _ hN)).set p2 (IK _ _ _ _ hN)).set d (Fv _ _ _ _ hN)).set d2 (IK _ _ _ _ hN)
 have Ec:Bo x'.S (w0.XQ W Au.good.keep.size x' n0 Ls) x' ⟨VQ s.t p p2 d d2 (v1 pre y) (v2 pre y),hf pre⟩ { tmps:=se a.tmps p p2 d d2 (e1 pre y) (e2 pre y),defers:=[] } W:=⟨Au.good.lB (To (Hi pre)) n0 Ls,hsl,Marks.nil _ _⟩
 have fin : ∀(hh:List α->List O) (x2:Cx) (s2:St) (a2:Act) (W2:World) (t':List V),Bo x'.S (w0.XQ W Au.good.keep.size x' n0 Ls) x2 s2 a2 W2->Le ⟨some l,n0⟩ s2 ⟨t',hh (pre++[y])⟩->(∀(k:Nat) (o:Obj),W.heap[k]?=some o->o.isCells=false->W2.heap[k]?=some o)/\F3 x.S W W2/\W.heap.size<=W2.heap.size/\∃x3,Bo S0 w0 x3 ⟨s.t,hh (pre++[y])⟩ a W2/\Ar x.S x3.S w W2:=by
  intro hh x2 s2 a2 W2 t' Fb hle;obtain⟨x3,Ik⟩:=hle _ _ _ _ _ (Nat.le_refl _) Fb;obtain⟨g3,CB⟩:=Au.good.lZ Ik.good;have Fe:Ext x' x3 W W2:=Ik.good.ext;exact⟨CB.same,⟨CB.size,λ_ _ h=>h,λb j v h hc=>Fe.ar.cell b j v (CZ.sub b j h) hc⟩,CB.size,x3,⟨g3,AO.mono Fe _ _ Au.tm,Au.df.mono CB.nc⟩,CZ.trans Fe.ar⟩
 refine wpIn_mono (HK l pre y hN zM _ _ _ _ _ _ (Nat.le_refl _) Ec) λe oL Xx Rd=>?_
 obtain⟨x2,s2,Fb,hp|hp⟩:=Rd;obtain⟨rfl,ARZ,t',hle⟩:=hp;obtain⟨q1,q2,q3,q4⟩:=fin hf _ _ _ _ _ Fb hle;exact .inl ⟨rfl,⟨q3,λk o _ hk ho=>q1 k o hk ho⟩,q2,ARZ,q4⟩;obtain⟨rfl,hjp,t',hle⟩:=hp;obtain⟨q1,q2,q3,q4⟩:=fin hx _ _ _ _ _ Fb hle;exact .inr ⟨rfl,⟨q3,λk o _ hk ho=>q1 k o hk ho⟩,hjp,q4⟩;intro D xs W hD hS hI Rm;obtain⟨x',Au⟩:=again hf D xs W hD hI.2 Rm;exact⟨x',⟨s.t,hf xs⟩,Au,hdone xs hS hI.1⟩;intro D xs W hD hI Rm;obtain⟨x',Au⟩:=again hx D xs W hD hI.2 Rm;exact⟨x',⟨s.t,hx xs⟩,Au,kG xs hI.1⟩
theorem AW.sW {n1:Nat}{s:St}{p d p2 d2:Tmp}{id ep:Nat}{o o2:Oper}{body:Code}{gf:FuncId}{caps Lj:List V}{fn:Func}(ho:o.op=.assign (.tmp p))(Rs:o.dst=some d)(hgd:o.guard=none)(kB:o2.op=.assign (.tmp p2))(ASI:o2.dst=some d2)(ARR:o2.guard=none)(hne:p≠p2)(zb:d≠p2)(hg:ev s.t g=.fn gf caps)(hp:V.CF caps=some Lj)(Ff:P.funcs[gf]?=some fn)(Iq:fn.body.isSome=true)(Hy:(fn.name == "runtime.NumGoroutine")=false)(e1 e2:List α->α->Value)(v1 v2:List α->α->V)(N:Nat)(Fv : ∀x' W pre y,pre.length<N->CV x' W (v1 pre y) (e1 pre y))(IK : ∀x' W pre y,pre.length<N->CV x' W (v2 pre y) (e2 pre y))(Sx:List α->Prop)(NU:MS P gf Lj (λpre y=>#[e1 pre y,e2 pre y]) Sx N)(Ip Jp:List α->Prop)(yA:Ip [])(hf hx:List α->List O)(h0:s.h=hf [])(n0:Nat)(hlen : ∀pre,(hf pre).length=n0)(hpl:p<s.t.length)(zm:p2<s.t.length)(HK : ∀(lp:Nat) (pre:List α) (y:α),pre.length<N->Ip pre->AW ⟨some lp,n0⟩ P body (λe s'=>(e=.normal/\Ip (pre++[y])/\∃t',Le ⟨some lp,n0⟩ s' ⟨t',hf (pre++[y])⟩)\/(e=.ret/\Jp (pre++[y])/\∃t',Le ⟨some lp,n0⟩ s' ⟨t',hx (pre++[y])⟩)) ⟨VQ s.t p p2 d d2 (v1 pre y) (v2 pre y),hf pre⟩)(hdone : ∀xs,Sx xs->Ip xs->K .normal ⟨s.t,hf xs⟩)(kG : ∀xs,Jp xs->K .ret ⟨s.t,hx xs⟩)(Hi : ∀pre,((hf pre).all O.Tn)=true:=by intro _;rfl)(zY : ∀pre,((hx pre).all O.Tn)=true:=by intro _;rfl):AW ⟨none,n1⟩ P (.rangeFunc g #[p,p2] (.seq (.region id #[o] false) (.region ep #[o2] false)) body) K s:=AW.AKI d d2 N (λ_ _ _ _ _ _ h=>ANg ho Rs hgd kB ASI ARR h) hne zb hg hp Ff Iq Hy e1 e2 v1 v2 Fv IK Sx NU Ip Jp yA hf hx h0 n0 hlen hpl zm HK hdone kG Hi zY
end
def V.VT:V->V
 | .c (.int k n)=>.c (.int k n)
 | .c (.bool b)=>.c (.bool b)
 | _=>.any
theorem AYX {x x':Cx}{w w':World}(v:V)(u:Value)(h:CV x w v u):CV x' w' v.VT u:=by
 unfold V.VT;split;simpa only[CV,Ab]using h;simpa only[CV,Ab]using h;simp only[CV]
theorem AKj {x x':Cx}{w w':World} : ∀(t:List V) (us:List Value),AO x w t us->AO x' w' (t.map V.VT) us
 | [],_,h=>h
 | v::t,us,h=>by
   simp only[Ap,AO]at h ⊢;obtain⟨u,B,e,E,F⟩:=h;exact⟨u,B,e,AYX v u E,AKj t B F⟩
section
variable {α:Type} {P:Program} {encs:List α->α->Array Value} {N:Nat} {Y:Ic α P encs N} {K:Exit->Gh α->St->Prop} {s:St} {ops:List Oper}
theorem ALM : ∀t:List V,DG t t
 | []=>rfl
 | v::t=>⟨.inr rfl,ALM t⟩
theorem IL.lu {f E F:Operand}{G:Array TypeId}{pre:List α}(z:α){i1 i2:Int}(ho:o.op=.call ⟨.value f,#[E,F],G⟩)(M:BQ ops s.t o.guard=some true)(J:ev s.t f=.yl Y.l)(B:ev s.t E=.c (.int .i64 i1))(U:ev s.t F=.c (.int .i64 i2))(S:encs pre z=#[.int .i64 i1,.int .i64 i2])(I:pre.length<N)(hb:V.BI 0 s.t=true)(Q:IL Y ops K r ⟨pre++[z],false⟩ (St.put ⟨s.t,[]⟩ o.dst (.c (.bool true))))(R:IL Y ops K r ⟨pre++[z],true⟩ (St.put ⟨s.t.map V.VT,[]⟩ o.dst (.c (.bool false)))):IL Y ops K (o::r) ⟨pre,false⟩ s:=IL.AME z s.t _ (λ_ _ _ _ _ h=>AKj _ _ h) ho M J (λx w us h=>by
 simp only[Ap,BB,B,U,AO,CV,Ab]at h;obtain⟨_,_,rfl,⟨rfl,_⟩,_,_,rfl,⟨rfl,_⟩,rfl⟩:=h;exact S) I (ALM _) hb Q R
theorem IL.call {g:Gh α}{f:FuncId}{E:List V}{res:V}(M:AC P f E res)(J:Fp P f=true)(hg:BQ ops s.t o.guard=some true)(G:Ee (ev s.t) o.op=some (f,E))(q : ∀(x x':Cx) (w w':World) (u:Value),CV x w res u->CV x' w' res u)(h:IL Y ops K r g (s.put o.dst res)):IL Y ops K (o::r) g s:=λa w ⟨W1,x,h1,h2,S,B⟩=>by
 obtain⟨fn,R,U,z⟩:=P7 J;obtain⟨args,Q,hp⟩:=Tv G;unfold wpListIn;rw[if_pos (tc B.tm hg)];refine AI9 ?_;refine AEb (K:=λv=>v=res) B Q ⟨E,res,hp,M,⟨fn,R,U,by simpa using z⟩,rfl⟩ ?_;rintro v u S' w' rfl F CZ Gc I;obtain⟨g',he⟩:=B.good.MF (x':=x) F ⟨λ_ _ h=>h,λb j v _ G=>F.cell G⟩ rfl rfl (λb j h=>.inl h);exact h _ _ ⟨W1,x,h1,h2,by rw[SM];exact S,Bo.put B.tm (B.df.mono (.FR F)) he g' (q _ _ _ _ _ I) o.dst⟩
end
end Go.Proofs.YtlpomcliejmedaaGreat
