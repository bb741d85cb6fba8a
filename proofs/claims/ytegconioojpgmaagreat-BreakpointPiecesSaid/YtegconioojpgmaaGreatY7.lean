/- Part of the proof of breakpointPieces.proved. Conditions: none. -/
import Derived.ProofKit
import Derived.Carry
import Derived.MapKept
import Derived.Laws.StructEq
import Derived.Lib.AppendZerosOnto
import Derived.Tactics
import Derived.Tactics2
import Derived.Defers
import Derived.Recover
import Derived.Test.YtegconioojpgmaaGreatY5
set_option linter.unusedVariables false
set_option linter.unusedSimpArgs false
set_option maxRecDepth 100000
set_option maxHeartbeats 16000000
open Go.DataW renaming trod->Pr,TrodAll->fh
open List renaming mapM_cons->uQ,range->E6,map_map->M7,replicate->Aq
open Go.World renaming cell?->iC,putObj_heap_same->iD,cell?_of_block->RK,size_alloc->vl,alloc_heap_new->An6,putObj_heap_other->Pz
open Function renaming comp->ACj
open Go.Value renaming okWide->iB,cells->ny
open Go.Proofs.Tryz renaming prog->AF,underlying9->Lb,underlying3->Fo,func271->nn,ntmps271->AGI,results271->AGW,results264->Ny,results166->gq,underlying183->Ak7,underlying127->Ak6,results96->ADX,results83->Abv,func49->Hs,ntmps49->vD,results49->Jz,func223->UO,ntmps223->Vm,results223->G0
open Go.IntKind renaming i64->AZ
open Go.Oper renaming wp->Er,upon->Nt
open Go.Sem renaming run_bind->Jt,run->HW
open Go.Result renaming andThen_ok->Oo
open Go.Instr renaming makeMap->mG,checkKey->uG,findAsking->fj,findKey->ACk,lookup->fk,mapUpdate->mJ,makeFunc->uH,sureAddr->Ol,storeAt->mM
open Go.Op renaming equal->Pt,equalIn->aP
open Go.MapKept renaming run_checkKey->AMu,run_getObj_map->ACz
open Array.mk renaming injEq->ACd
open List.cons renaming injEq->Vb
open Go.Value.string renaming injEq->AM3
open Array renaming toList_push->AMP,getElem?_setIfInBounds_self_of_lt->Xi
open Go.Builtin renaming firstCells->fc,zeroCells->KN
open Go.Exit renaming thenS->uF
open Go.Lib renaming hid->Xl
open Go.Fence renaming wide->Cg
open Go.Region renaming wanted->FB
open Go.Act renaming eval->JT
open Option renaming some->J,none->E
open Bool renaming false->U,true->I
open List renaming length->G
namespace Go.Proofs.YtegconioojpgmaaGreat
open Go.RowKit Tryz
variable {cs:List V}{ty:TypeId}{s:ByteArray}{W:World}{α:Type}{fuel:Nat}{P:Program}{K:Exit->St->Prop}{o:Oper}{M:ByteArray->Int->Bool}{g:Operand}{body:Code}{gf:FuncId}{fn:Func}{y:Operand}{ag:Bool}(l:Int)(k:Nat)
def X3 (w:World):BF:=λb _=>b<w.heap.size
section
variable {H α β:Type} {enc:TypeId×Value->H} {P:Program} {w:World} {fuel:Nat} {t e:TypeId}
def Dq (enc:TypeId×Value->H)(P:Program)(w:World)(fuel:Nat)(t:TypeId)(R:α->List C)(Q:α->Prop):Prop:=
 ∀(sp:Nat->Bool) (base:Nat) (held:Bool) (cs:List Value) (x:DataW H×List MemPlace),Pr enc P w base sp held fuel t cs=J x->∃a,B4 (X3 w) w (R a) cs/\Q a
theorem Dq.zero {R:α->List C}{Q:α->Prop}:Dq enc P w 0 t R Q:=by intro q B S cs x h;simp[Pr]at h
theorem Dq.conv {R:α->List C}{Q:α->Prop}{R':β->List C}{q:β->Prop}(h:Dq enc P w fuel t R Q)(f:α->β)(hR : ∀a,R a=R' (f a))(hQ : ∀a,Q a->q (f a)):Dq enc P w fuel t R' q:=by
 intro sp B S cs x hx;obtain⟨a,z,h2⟩:=h sp B S cs x hx;exact⟨f a,by rw[<-hR];exact z,hQ a h2⟩
theorem Ge {k:IntKind}(q:P.underlying t=J (.int k)):Dq enc P w fuel t (λn:Int=>[.int k n]) (λ_=>True):=by
 cases fuel with
 | zero=>exact Dq.zero
 | succ fuel =>
   intro sp B Q cs x h;unfold Pr at h;rw[q]at h;split at h<;>try (exfalso;simp_all;done)
   rename_i k1 k2 n S;cases S;split at h;rename_i R;obtain⟨rfl,z⟩:=R;simp only[B4,Ab];exact⟨n,⟨_,_,F,⟨F,z⟩,F⟩,W⟩;cases h
theorem AAw (R:P.underlying t=J .bool):Dq enc P w fuel t (λb:Bool=>[.bool b]) (λ_=>True):=by
 cases fuel with
 | zero=>exact Dq.zero
 | succ fuel =>
   intro q B Q cs x h;unfold Pr at h;rw[R]at h;split at h<;>try (exfalso;simp_all;done)
   rename_i b S;simp only[B4,Ab];exact⟨b,⟨_,_,F,F,F⟩,W⟩
theorem Zf (S:P.underlying t=J .string):Dq enc P w fuel t (λs:ByteArray=>[.str s]) (λs=>s.size<=maxLen):=by
 cases fuel with
 | zero=>exact Dq.zero
 | succ fuel =>
   intro z B Q cs x h;unfold Pr at h;rw[S]at h;split at h<;>try (exfalso;simp_all;done)
   rename_i s q;split at h;rename_i R;simp only[B4,Ab];exact⟨s,⟨_,_,F,⟨F,R⟩,F⟩,R⟩;cases h
theorem D9.AIq {S:BF}{es:Nat} : ∀ {AG:List (List C)} {b off:Nat},(∀r∈AG,G r=es)->(∀(i:Nat) (r:List C),AG[i]?=J r->B5 S w r b (off+i*es))->D9 S w AG b off
 | [],_,_,_,_=>by simp only[D9]
 | r::z,b,off,B,h=>by
   simp only[D9];refine⟨by simpa using h 0 r rfl,D9.AIq (λr R=>B r (by simp[R])) λi q Q=>?_⟩;have:=h (i+1) q (by simpa using Q);rw[B r ZA];rw[show off+es+i*es=off+(i+1)*es by rw[Gz];omega];exact this
theorem AIT {S q:Type}{f:S->Option q} : ∀ {l:List S} {xs:List q},l.mapM f=J xs->∀y∈l,∃x,f y=J x
 | [],_,_,y,B=>by cases B
 | a::l,xs,h,y,B=>by
   rw[uQ]at h;cases Q:f a with
   | none=>rw[Q]at h;simp at h
   | some z =>
     rw[Q]at h;cases R:l.mapM f with
     | none=>rw[R]at h;simp at h
     | some zs =>
       rcases Cf.1 B with rfl|B
       exact⟨z,Q⟩;exact AIT R y B
theorem AIU {S q:Type}{f:S->Option q} : ∀ {l:List S} {xs:List q},l.mapM f=J xs->G xs=G l/\∀(i:Nat) (y:S),l[i]?=J y->f y=xs[i]?
 | [],xs,h=>by simp at h;subst h;exact⟨F,λi y h=>by simp at h⟩
 | a::l,xs,h=>by
   rw[uQ]at h;cases Q:f a with
   | none=>rw[Q]at h;simp at h
   | some z =>
     rw[Q]at h;cases R:l.mapM f with
     | none=>rw[R]at h;simp at h
     | some zs =>
       rw[R]at h;simp at h;subst h;obtain⟨h1,h2⟩:=AIU R;refine⟨by simp[h1],λi y B=>?_⟩;match i,B with
       | 0,B=>simp at B;subst B;simpa using Q
       | i+1,B=>simpa using h2 i y (by simpa using B)
theorem wh {B n:Nat}{a:Addr}{cs:List Value}(h:w.cells? B a n=J cs):G cs=n/\∀j v,cs[j]?=J v->w.cell? (a.add j)=J v:=by
 unfold World.cells? at h;split at h;obtain⟨R,q⟩:=AIU h;refine⟨by simpa using R,λj v S=>?_⟩;have Q:j<n:=by have:=(Br.1 S).1;rw[R]at this;simpa using this
 have:=q j j (by simp[Q]);rw[this,S];cases h
theorem dq {n:Nat}{R:α->List C}{Q:α->Prop}(hu:P.underlying t=J (.slice e))(hc:P.cellsOf e=n)(hn:0<n)(h:Dq enc P w fuel e R Q):Dq enc P w (fuel+1) t (λl:List α=>[.sl (l.map R)]) (λl=>G l<=maxLen/\∀a∈l,Q a):=by
 intro sp B A0 cs x hx;unfold Pr at hx;rw[hu]at hx;split at hx<;>try (exfalso;simp_all;done)
 refine⟨[],?_,ZA,ZA⟩;simp only[B4,Ab,BB];exact⟨_,_,F,⟨E,0,F,ZA,by simp[maxLen],λh=>absurd rfl h⟩,F⟩;rename_i e' a len cap he;cases he;split at hx;rename_i A6;obtain⟨hb,A9,A2⟩:=A6;cases hm:(E6 len).mapM (λi=>(w.cells? B (a.add (i*P.cellsOf e)) (P.cellsOf e)).bind (Pr enc P w B sp A0 fuel e))with
 | none=>simp only[hm]at hx;cases hx
 | some A7 =>
   have Mh : ∀i,i<len->∃ai,∃q,w.cells? B (a.add (i*n)) n=J q/\B4 (X3 w) w (R ai) q/\Q ai:=by
    intro i S;obtain⟨y,hy⟩:=AIT hm i (by simpa using S);rw[hc]at hy;cases A3:w.cells? B (a.add (i*n)) n with
    | none=>rw[A3]at hy;simp at hy
    | some q=>rw[A3]at hy;simp only[Option.bind_some]at hy;obtain⟨ai,h1,h2⟩:=h sp B A0 q y hy;exact⟨ai,q,F,h1,h2⟩
   by_cases h0:len=0;subst h0;refine⟨[],?_,ZA,ZA⟩;simp only[B4,Ab,BB];exact⟨_,_,F,⟨J a,cap,F,ZA,A2,λh=>absurd rfl h⟩,F⟩;have A5:a.spot=none:=by
    obtain⟨a0,c0,h1,h2,_⟩:=Mh 0 Ux;obtain⟨l1,l2⟩:=wh h1;have z:0<G c0:=Ux;have:=l2 0 c0[0] (BE z);simp only[Nat.zero_mul,Addr.add,Awg]at this;unfold iC at this;split at this;split at this;cases this;rename_i hs;simpa using hs;cases this
   obtain⟨b,A1,B0⟩:=a;simp only at A5;subst A5;have A8 : ∃g:Nat->α,∀i,i<len->∃q,w.cells? B ((⟨b,A1,E⟩:Addr).add (i*n)) n=J q/\B4 (X3 w) w (R (g i)) q/\Q (g i):=by
    have Ca:Nonempty α:=⟨(Mh 0 Ux).choose⟩
    refine⟨λi=>if S:i<len then(Mh i S).choose else Classical.choice Ca,λi S=>?_⟩;simp only[S,dif_pos];exact(Mh i S).choose_spec
   obtain⟨g,hg⟩:=A8;have Bn : ∀i,i<len->G (R (g i))=n:=by
    intro i S;obtain⟨q,h1,h2,_⟩:=hg i S;rw[<-h2.len,(wh h1).1]
   refine⟨(E6 len).map g,?_,by simp;omega,?_⟩;simp only[B4,Ab];refine⟨_,_,F,⟨J ⟨b,A1,E⟩,cap,ZA,by simpa using A9,A2,λ_=>⟨b,A1,n,rfl,?_,?_⟩⟩,F⟩;intro r hr;simp only[M7,Da,KP,ACj]at hr;obtain⟨i,S,rfl⟩:=hr;exact Bn i S;refine D9.AIq (es:=n) ?_ ?_;intro r hr;simp only[M7,Da,KP,ACj]at hr;obtain⟨i,S,rfl⟩:=hr;exact Bn i S;intro i r hr;simp only[M7,CM,Ia,ACj]at hr;obtain⟨j,hj,rfl⟩:=hr;obtain⟨z,rfl⟩:=Br.1 hj;simp only[List.length_range]at z;simp only[List.getElem_range];obtain⟨q,h1,h2,_⟩:=hg i z;obtain⟨l1,l2⟩:=wh h1;refine B5.Pe h2 (λj u hu=>?_) (λj hj=>?_);have:=l2 j u hu;rw[J0,J0]at this;exact this;have OG:j<G q:=by rw[h2.len];exact hj
   have:=l2 j q[j] (BE OG);rw[J0,J0]at this;exact block_lt_of_cell this;intro y hy;simp only[Da,KP]at hy;obtain⟨i,S,rfl⟩:=hy;obtain⟨q,_,_,h3⟩:=hg i S;exact h3
 cases hx
def C6 {φ:Type}(ty:φ->TypeId)(I5:φ->Nat)(enc:TypeId×Value->H)(P:Program)(w:World)(fuel:Nat)(l:List φ)(o z:Nat)(R:β->List C)(Q:β->Prop):Prop:=
 ∀(sp:Nat->Bool) (base:Nat) (held:Bool) (cs:List Value) (xs:List (DataW H×List MemPlace)),l.mapM (λf=>Pr enc P w base sp held fuel (ty f) ((cs.drop (I5 f)).take (P.cellsOf (ty f))))=J xs->∃b,B4 (X3 w) w (R b) ((cs.drop o).take (z - o))/\Q b
theorem C6.nil {R:Type}{ty:R->TypeId}{S:R->Nat}{z:Nat}:C6 ty S enc P w fuel [] z z (λ_:Unit=>[]) (λ_=>True):=by
 intro q B Q cs xs h;exact⟨(),by simp[B4],trivial⟩
theorem C6.cons {φ:Type}{ty:φ->TypeId}{R:φ->Nat}{f:φ}{l:List φ}{o o' z:Nat}{R1:α->List C}{Q1:α->Prop}{R2:β->List C}{Q2:β->Prop}(ho:R f=o)(hz:o+P.cellsOf (ty f)=o')(A0:o'<=z)(h1:Dq enc P w fuel (ty f) R1 Q1)(h2:C6 ty R enc P w fuel l o' z R2 Q2) :
 C6 ty R enc P w fuel (f::l) o z (λq:α×β=>R1 q.1++R2 q.2) (λq=>Q1 q.1/\Q2 q.2):=by
 intro S B Q cs xs h;rw[uQ]at h;cases ha:Pr enc P w B S Q fuel (ty f) ((cs.drop (R f)).take (P.cellsOf (ty f)))with
 | none=>rw[ha]at h;simp at h
 | some y =>
   rw[ha]at h;cases hl:l.mapM (λf=>Pr enc P w B S Q fuel (ty f) ((cs.drop (R f)).take (P.cellsOf (ty f))))with
   | none=>simp only[hl]at h;simp at h
   | some ys =>
     obtain⟨a,k1,k2⟩:=h1 S B Q _ y ha;obtain⟨b,k3,k4⟩:=h2 S B Q cs ys hl;refine⟨(a,b),?_,k2,k4⟩;have e:(cs.drop o).take (z - o)=(cs.drop (R f)).take (P.cellsOf (ty f))++(cs.drop o').take (z - o'):=by
      rw[ho,show z - o=P.cellsOf (ty f)+(z - o')by omega,List.take_add,List.drop_drop,hz]
     rw[e];exact k1.append k3
theorem VJ {fs:Array Field}{z:Nat}{R:β->List C}{Q:β->Prop}(hu:P.underlying t=J (.struct fs))(hc:P.cellsOf t=z)(h:C6 Field.type Field.offset enc P w fuel fs.toList 0 z R Q):Dq enc P w (fuel+1) t R Q:=by
 intro sp B S cs x q;unfold Pr at q;rw[hu]at q;change (if G cs=P.cellsOf t then(fs.toList.mapM λf=>Pr enc P w B sp S fuel f.type ((cs.drop f.offset).take (P.cellsOf f.type))).map (λxs=>(DataW.agg (xs.map (·.1)),xs.flatMap (·.2)))else E)=J x at q;split at q;rename_i hl;cases hm:fs.toList.mapM (λf=>Pr enc P w B sp S fuel f.type ((cs.drop f.offset).take (P.cellsOf f.type)))with
 | none=>simp only[hm]at q;cases q
 | some xs=>obtain⟨b,k1,k2⟩:=h sp B S cs xs hm;refine⟨b,?_,k2⟩;simpa [<-hc,<-hl]using k1
 cases q
end
section
open Go.RowKit Go.ChangeShapes
section
variable {H:Type} {enc:TypeId×Value->H} {P:Program}
theorem ALd (z:laidOutB P=I){W S:World}(hb:Ay W S):∀ {B:List TypeId} {vs:List Value} {Q:List (DataW H)} {ps:List MemPlace},(∀t∈B,P.readableRec t=I/\t<P.types.size)->fh enc P W 0 (λ_=>I) I B vs Q ps->(∀x∈ps,x.block<W.heap.size)->
 fh enc P S 0 (λb=>decide (b<W.heap.size)) I B vs Q ps
 | [],[],[],ps,_,h,_=>h
 | t::B,v::vs,d::Q,ps,ht,h,hp=>by
   obtain⟨p,q,h1,h2,rfl⟩:=h;obtain⟨r1,r2⟩:=ht t ZA;exact⟨p,q,Below.trod z r1 r2 h1 hb (λx R=>hp x (by simp[R])),ALd z hb (λt h=>ht t (by simp[h])) h2 (λx R=>hp x (by simp[R])),F⟩
theorem rX {f:Func}{s:ChangeSpec}{W W':World}{args:Array Value}{B Q:List (DataW H)}{before:List MemPlace}{tb:TypeId}(hW:DataW.Whole enc P f.params.toList s.vars U W args.toList B Q before)(hv:s.vars=[])(hr:f.resultTypes=#[tb])(hb:P.underlying tb=J .bool)(hl:laidOutB P=I)(hk:Ay W W')(ht : ∀t∈f.params.toList,P.readableRec t=I/\t<P.types.size)(hs:(s.fn H B).results=[.lit (.bool I)])(rE:(s.fn H B).args=B)(z:(s.fn H B).vars=[]):s.post enc P f U I U U W args (.bool I) W':=by
 have QJ:=hW;obtain⟨p,q,hA,R,rfl,cm,TV⟩:=hW;have S : ∀x∈p++q,x.block<W.heap.size:=λx hx=>by simpa using QJ.lt x hx
 rw[hv]at R;have OE:Q=[]/\q=[]:=by
  cases Q with
  | nil=>exact⟨F,R⟩
  | cons _ _=>exact R.elim
 obtain⟨rfl,rfl⟩:=OE;refine⟨B,[],p++[],[],p,[],QJ,?_,?_,?_,Below.frame hk _,λh=>nomatch h⟩;rw[hr,E5,hs];exact trodAll_mk1 (shut_bool hb _);rw[E5,rE];exact ALd hl hk ht hA (λx hx=>S x (by simp[hx]));rw[hv,E5,z];rfl
theorem rW {f:FuncId}{args:Array Value}{vs:List V}{Q:Value->World->Prop}(h:AC P f vs (.c (.bool I)))(S:AO (Cx.bare (X3 W)) W vs args.toList)(q : ∀B,Ay W B->Q (.bool I) B):Calls P f args W λe B=>∃v,e=.returned v/\Q v B:=by
 have:=h (X3 W) W args.toList (λb j h=>h) S;rw[show args.toList.toArray=args by simp]at this;refine this.mono ?_;rintro e B ⟨u,S',rfl,z,_,_,R⟩;simp only[CV,Ab]at R;subst R;exact⟨_,F,q B z⟩
theorem Qi {t:TypeId}{fs:Array Field}{S z:Nat}{sp:Nat->Bool}{q:Bool}{r:Reach}{v:Value}{d:DataW H}{ps:List MemPlace}{R:α->List C}{Q:α->Prop}(hu:P.underlying t=J (.struct fs))(B:iB P W r z t v)(hd:DataW.Trod enc P W S sp q t v d ps)(ho : ∀fuel,Dq enc P W fuel t R Q):∃a,Q a/\CV (Cx.bare (X3 W)) W (.agg ((R a).map V.c)) v:=by
 unfold iB at B;rw[hu]at B;obtain⟨cs,rfl,_,_⟩:=B;obtain⟨fuel,hf⟩:=hd;obtain⟨a,h1,h2⟩:=ho fuel sp S q _ _ hf;refine⟨a,h2,?_⟩;simp only[CV];exact⟨cs,F,AO.OS h1⟩
end
theorem own:ownKnob AF.godebug=none:=ZC
theorem laid:laidOutB AF=true:=ZC
end
section
variable {H:Type} {enc:TypeId×Value->H} {w:World}
theorem AVb :Dq enc AF w fuel 103 BG.row (λg=>g.name.size<=maxLen):=by
 cases fuel with
 | zero=>exact Dq.zero
 | succ fuel=>exact(VJ underlying103 ZC (C6.cons (o:=0) (o':=1) rfl ZC ZB (Zf Lb) (C6.cons (o:=1) (o':=2) rfl ZC ZB (Ge Fo) (C6.cons (o:=2) (o':=3) rfl ZC ZB (Ge Fo) (C6.cons (o:=3) (o':=4) rfl ZC ZB (Ge Fo) (C6.cons (o:=4) (o':=5) rfl ZC ZB (Ge Fo) (C6.cons (o:=5) (o':=6) rfl ZC ZB (Ge Fo) (C6.nil)))))))).conv (λq=>⟨q.1,q.2.1,q.2.2.1,q.2.2.2.1,q.2.2.2.2.1,q.2.2.2.2.2.1⟩) (λq=>rfl) (λq h=>h.1)
theorem AVf :Dq enc AF w fuel 142 CR.row (λ_=>True):=by
 cases fuel with
 | zero=>exact Dq.zero
 | succ fuel=>exact(VJ underlying142 ZC (C6.cons (o:=0) (o':=1) rfl ZC ZB (Zf Lb) (C6.cons (o:=1) (o':=2) rfl ZC ZB (AAw underlying4) (C6.nil)))).conv (λq=>⟨q.1,q.2.1⟩) (λq=>rfl) (λq h=>trivial)
theorem AVh :Dq enc AF w fuel 71 (λl:List ByteArray=>[.sl (l.map λs=>[.str s])]) (λl=>G l<=maxLen/\∀a∈l,a.size<=maxLen):=by
 cases fuel with
 | zero=>exact Dq.zero
 | succ fuel=>exact dq (n:=1) underlying71 ZC ZB (Zf Lb)
theorem AVg :Dq enc AF w fuel 72 (λl:List CR=>[.sl (l.map CR.row)]) (λl=>G l<=maxLen/\∀a∈l,True):=by
 cases fuel with
 | zero=>exact Dq.zero
 | succ fuel=>exact dq (n:=2) underlying72 ZC ZB AVf
theorem AVi :Dq enc AF w fuel 74 Bc.row (λs=>s.name.size<=maxLen):=by
 cases fuel with
 | zero=>exact Dq.zero
 | succ fuel=>exact(VJ underlying74 ZC (C6.cons (o:=0) (o':=1) rfl ZC ZB (Zf Lb) (C6.cons (o:=1) (o':=2) rfl ZC ZB (AVh) (C6.cons (o:=2) (o':=3) rfl ZC ZB (AVg) (C6.cons (o:=3) (o':=4) rfl ZC ZB (Ge Fo) (C6.nil)))))).conv (λq=>⟨q.1,q.2.1,q.2.2.1,q.2.2.2.1⟩) (λq=>rfl) (λq h=>h.1)
theorem AVc :Dq enc AF w fuel 22 (λl:List BG=>[.sl (l.map BG.row)]) (λl=>G l<=maxLen/\∀a∈l,a.name.size<=maxLen):=by
 cases fuel with
 | zero=>exact Dq.zero
 | succ fuel=>exact dq (n:=6) underlying22 ZC ZB AVb
theorem AVj :Dq enc AF w fuel 23 (λl:List Bc=>[.sl (l.map Bc.row)]) (λl=>G l<=maxLen/\∀a∈l,a.name.size<=maxLen):=by
 cases fuel with
 | zero=>exact Dq.zero
 | succ fuel=>exact dq (n:=4) underlying23 ZC ZB AVi
theorem AVe :Dq enc AF w fuel 25 (λp:Params=>p.list.map (C.int .i64)) (λ_=>True):=by
 cases fuel with
 | zero=>exact Dq.zero
 | succ fuel=>exact(VJ underlying25 ZC (C6.cons (o:=0) (o':=1) rfl ZC ZB (Ge Fo) (C6.cons (o:=1) (o':=2) rfl ZC ZB (Ge Fo) (C6.cons (o:=2) (o':=3) rfl ZC ZB (Ge Fo) (C6.cons (o:=3) (o':=4) rfl ZC ZB (Ge Fo) (C6.cons (o:=4) (o':=5) rfl ZC ZB (Ge Fo) (C6.cons (o:=5) (o':=6) rfl ZC ZB (Ge Fo) (C6.cons (o:=6) (o':=7) rfl ZC ZB (Ge Fo) (C6.cons (o:=7) (o':=8) rfl ZC ZB (Ge Fo) (C6.cons (o:=8) (o':=9) rfl ZC ZB (Ge Fo) (C6.cons (o:=9) (o':=10) rfl ZC ZB (Ge Fo) (C6.cons (o:=10) (o':=11) rfl ZC ZB (Ge Fo) (C6.cons (o:=11) (o':=12) rfl ZC ZB (Ge Fo) (C6.cons (o:=12) (o':=13) rfl ZC ZB (Ge Fo) (C6.cons (o:=13) (o':=14) rfl ZC ZB (Ge Fo) (C6.cons (o:=14) (o':=15) rfl ZC ZB (Ge Fo) (C6.cons (o:=15) (o':=16) rfl ZC ZB (Ge Fo) (C6.cons (o:=16) (o':=17) rfl ZC ZB (Ge Fo) (C6.cons (o:=17) (o':=18) rfl ZC ZB (Ge Fo) (C6.cons (o:=18) (o':=19) rfl ZC ZB (Ge Fo) (C6.cons (o:=19) (o':=20) rfl ZC ZB (Ge Fo) (C6.nil)))))))))))))))))))))).conv (λq=>⟨q.1,q.2.1,q.2.2.1,q.2.2.2.1,q.2.2.2.2.1,q.2.2.2.2.2.1,q.2.2.2.2.2.2.1,q.2.2.2.2.2.2.2.1,q.2.2.2.2.2.2.2.2.1,q.2.2.2.2.2.2.2.2.2.1,q.2.2.2.2.2.2.2.2.2.2.1,q.2.2.2.2.2.2.2.2.2.2.2.1,q.2.2.2.2.2.2.2.2.2.2.2.2.1,q.2.2.2.2.2.2.2.2.2.2.2.2.2.1,q.2.2.2.2.2.2.2.2.2.2.2.2.2.2.1,q.2.2.2.2.2.2.2.2.2.2.2.2.2.2.2.1,q.2.2.2.2.2.2.2.2.2.2.2.2.2.2.2.2.1,q.2.2.2.2.2.2.2.2.2.2.2.2.2.2.2.2.2.1,q.2.2.2.2.2.2.2.2.2.2.2.2.2.2.2.2.2.2.1,q.2.2.2.2.2.2.2.2.2.2.2.2.2.2.2.2.2.2.2.1⟩) (λq=>rfl) (λq h=>trivial)
theorem AVa :Dq enc AF w fuel 27 AP.row AP.Fit:=by
 cases fuel with
 | zero=>exact Dq.zero
 | succ fuel=>exact(VJ underlying27 ZC (C6.cons (o:=0) (o':=1) rfl ZC ZB (AVc) (C6.cons (o:=1) (o':=2) rfl ZC ZB (AVj) (C6.cons (o:=2) (o':=22) rfl ZC ZB (AVe) (C6.nil))))).conv (λq=>⟨q.1,q.2.1,q.2.2.1⟩) (λq=>by simp[AP.row,O8,MG]) (λq h=>⟨h.1.1,h.2.1.1,h.1.2,h.2.1.2⟩)
end
def H2 (k:Int):Int:=if k=5\/k=6\/k=7\/k=8 then 2 else if k=9 then 3 else if k=10\/k=11 then 1 else if k=12 then 256 else 0
def VU (l:Int):Int:=if l<=1 then 2 else 3
def GB (k i:Int)(s:Aa):Aa:=
 if k=5 then⟨if s.By+1<=3 then s.By+1 else 3,s.Hd || decide (i=1)⟩
 else if k=6 then(if i=0 then⟨3,s.Hd⟩else⟨s.By,I⟩)
 else if k=7\/k=8\/k=9 then(if i=0 then s else⟨VU s.By,s.Hd || (decide (i=1) && !decide (k=8))⟩)
 else if k=10 then⟨s.By,I⟩
 else if k=12 then⟨if s.By<1 then 1 else s.By,s.Hd⟩
 else s
def XW (k i:Int)(s:Aa):Aa×Int:=
 if s.ok=U\/H2 k=0 then(⟨0,U⟩,1)else if i<0\/H2 k<=i then(⟨0,U⟩,2)else(GB k i s,0)
def Zx (r:Aa×Int):V:=.A7 [Aj r.1,AR r.2]
theorem Ani (k:Int):AC AF 271 [k] (H2 k:Int):=by
 unfold H2;by_cases B:k=5\/k=6\/k=7\/k=8;rw[Awd B];refine en nn AGI ?_;rcases B with h|h|h|h
 exact wz (cj @h<|AGW) W;exact wz (cj @h<|AGW) W;exact wz (cj @h<|AGW) W;exact wz (cj @h<|AGW) W;rw[Awf B];by_cases R:k=9;rw[Awd R];refine en nn AGI ?_;exact wz (cj @R<|AGW) W;rw[Awf R];by_cases Q:k=10\/k=11;rw[Awd Q];refine en nn AGI ?_;rcases Q with h|h
 exact wz (cj @h<|AGW) W;exact wz (cj @h<|AGW) W;rw[Awf Q];by_cases S:k=12;rw[Awd S];refine en nn AGI ?_;exact wz (cj @S<|AGW) W;rw[Awf S];simp only[not_or]at B Q;obtain⟨q,z,a3,a4⟩:=B;obtain⟨b1,b2⟩:=Q;refine en nn AGI ?_;exact wz (cj8 @q @z @a3 @a4 @R @b1 @b2 @S AGW) W
theorem AnX :AC AF 272 [l] (VU l:Int):=by
 unfold VU;by_cases B:l<=1;rw[Awd B];refine en func272 ntmps272 ?_;exact wz (cj @B<|results272) W;rw[Awf B];refine en func272 ntmps272 ?_;exact wz (cj @B<|results272) W
theorem AJp (B:0<=l)(Q:l<=3):AC AF 261 [l] (if l+1<=3 then l+1 else 3:Int):=by
 have w:AZ.wrap (l+1)=l+1:=Ac;have e:(if (3:Int)<l+1 then(3:Int)else l+1)=if l+1<=3 then l+1 else 3:=by split<;>split<;>omega
 refine en func261 ntmps261 ?_;exact wz (cj2 @w @e results261) W
theorem sJ (Q:0<=l)(R:l<=3):AC AF 264 [l] (VU l:Int):=by
 have B:l=0\/l=1\/l=2\/l=3:=Ux;refine en func264 ntmps264 ?_;rcases B with rfl|rfl|rfl|rfl
 exact wz (cj @VU.eq_1<|Ny) W;exact wz (cj @VU.eq_1<|Ny) W;exact wz (cj @VU.eq_1<|Ny) W;exact wz (cj @VU.eq_1<|Ny) W
theorem AWZ :AC AF 262 [l] (3:Int):=by
 refine en func262 ntmps262 ?_;exact wz results262 W
theorem eJ :AC AF 263 [l] l:=by
 refine en func263 ntmps263 ?_;exact wz results263 W
theorem AV4 :AC AF 265 [l] (if l<1 then 1 else l:Int):=by
 refine en func265 ntmps265 ?_;exact wz results265 W
def Nl (f:FuncId)(b:Bool):List C:=[.EV f,.bool b]
def Zt:List V:=[.c (.sl []),.c (.sl []),.c (.sl []),.c (.sl []),.c (.sl []),.c (.sl [Nl 261 U,Nl 261 I]),.c (.sl [Nl 262 U,Nl 263 I]),.c (.sl [Nl 263 U,Nl 264 I]),.c (.sl [Nl 263 U,Nl 264 U]),.c (.sl [Nl 263 U,Nl 264 I,Nl 264 U]),.c (.sl [Nl 263 I]),.c (.sl [Nl 263 U]),.c (.sl [Nl 265 U])]
theorem AJy:AC AF 210 [] (.agg Zt):=by
 unfold Zt Nl;refine en func210 ntmps210 ?_;exact wz results210 W
theorem AXD (k i:Int)(s:Aa)(h:s.ok=U\/H2 k=0):AC AF 166 [k,i,Aj s] (Zx (XW k i s)):=by
 have z:XW k i s=(⟨0,U⟩,1):=Awd h;have B:=fI s;rw[z];generalize q:s.ok=OK at B h;unfold Zx AR Aj;unfold Aj at B;refine en func166 ntmps166 ?_;cases OK with
 | false=>exact wz gq (cj B<|trivial)
 | true =>
   have h:H2 k=0:=h.resolve_left ZA;by_cases R:k<5;exact wz (cj @R<|gq) (cj B<|trivial);have Q:12<k:=by
    unfold H2 at h;by_cases q1:k=5\/k=6\/k=7\/k=8;rw[Awd q1]at h;omega;rw[Awf q1]at h;by_cases q2:k=9;rw[Awd q2]at h;omega;rw[Awf q2]at h;by_cases S:k=10\/k=11;rw[Awd S]at h;omega;rw[Awf S]at h;by_cases q4:k=12;rw[Awd q4]at h;omega;omega
   exact wz (cj2 @R @Q gq) (cj B<|trivial)
theorem toCs_app : ∀ {a b:List V} {x y:List C},toCs a=J x->toCs b=J y->toCs (a++b)=J (x++y)
 | [],b,x,y,h,B=>by simp[toCs]at h;subst h;simpa using B
 | v::a,b,x,y,h,B=>by
   simp only[toCs]at h;split at h;rename_i c r Q R;cases h;simp only[BK,toCs,Q,toCs_app R B];cases h
theorem toCs_rep {z:List V}{c:List C}(h:toCs z=J c):∀n:Nat,toCs (Aq n z).flatten=J (Aq n c).flatten
 | 0=>rfl
 | n+1=>by simp only[BY,Hp];exact toCs_app h (toCs_rep h n)
def vx (P:Program)(o:Oper)(a:Act)(S0:BF)(w0:Bs)(x:Cx)(w:World)(H:Bx)(v:V)(t:Option (Nat×O)):Prop:=
 ∃nx w' x' u,(execOp a.eval o).run P w=.ok nx w'/\(nx=.value u\/(nx=.skip/\u=undef))/\CV x' w' v u/\Good S0 w0 x' w' (H.upd t)/\Ext x x' w w'
theorem TW.ub {ops:List Oper}{K:List Ef->St->Prop}{r:List Oper}{B:List Ef}{s:St}(e:Ef)(hg:BQ ops s.t o.guard=J I)(q : ∀k ob,e.t=J (k,ob)->k<=G s.h)(hR : ∀(S0:BF) (w0:Bs) (x:Cx) (a:Act) (w:World) (H:Bx),Good S0 w0 x w H->(∀y∈o.op.operands.toList,CV x w (ev s.t y) (a.eval y))->(∀k,e.rk=J k->H k=s.h[k]?)->vx P o a S0 w0 x w H e.v e.t)(h:TW P ops K r (B++[e]) (s.step o.dst e.v e.t)):TW P ops K (o::r) B s:=by
 obtain⟨es,s2,h2,h3⟩:=h;refine⟨e::es,s2,⟨e,es,F,?_,q,h2⟩,by simpa using h3⟩;intro S0 w0 x w a H g hl hr _ Q next hn;rw[QF hl hg];obtain⟨nx,w',x',u,S,EH,R,z,he⟩:=hR S0 w0 x a w H g (QR hl) λk q=>hr k (.inl q)
 show o.wp P a w next Q;unfold Er;rw[S];rcases EH with rfl|⟨rfl,rfl⟩
 exact hn u x' w' z he R;exact hn undef x' w' z he R
theorem AIy {a:Act}{S0:BF}{w0:Bs}{x:Cx}{w:World}{H:Bx}(g:Good S0 w0 x w H){t:TypeId}{y z:Operand}(ho:o.op=.makeSlice t y z){Ae:TypeId}{es Bq:Nat}(ht:Dk P t=J (Ae,es,Bq)){k k':IntKind}{l:Int}(hy:CV x w (.c (.int k l)) (a.eval y))(hz:CV x w (.c (.int k' l)) (a.eval z)){zl:List V}(A1:C2 P Ae=J zl){zc:List C}(Ww:toCs zl=J zc)(h0:0<=l)(h1:(Bq:Int)*l<=281474976710656)(h2:l<=140737488355328):vx P o a S0 w0 x w H (.Bg (Aq l.toNat zc)) none:=by
 obtain⟨hu,ie,B,EB,VD,A0,R,A2⟩:=JS ht;obtain⟨zk,Y9,IN,i2,J9,R8⟩:=Z2 (x:=x) (w:=w) A1;rw[EB]at J9;cases J9;rw[VD]at R8;cases R8;simp only[CV,Ab]at hy hz;have Q:=run_make (P:=P) w t Ae ie B hu EB VD k k' l l h0 (Int.le_refl _) (by rw[R];exact h1) Ux;rw[A0]at Q;have S:AO x w (Aq l.toNat zl).flatten (madeCells B.cells (l.toNat*es)).toList:=by rw[AAd B.cells A2];exact IN.px _
 have DK:=toCs_ok (toCs_rep Ww l.toNat) S;have Rr:(madeCells B.cells (l.toNat*es)).size=l.toNat*es:=by simp[size_madeCells]
 obtain⟨S',g',he,Fh⟩:=g.AIf Ae (madeCells B.cells (l.toNat*es)) (l.toNat*es) Ux w (Ay.refl w) rfl (l:=(Aq l.toNat zc).flatten) (by rw[Gl (by rw[FW];omega)];exact DK);have q:G zc=es:=by
  have q1:=IN.len;have q2:=toCs_len Ww;simp only[FW]at q1;omega
 refine⟨_,_,_,.slice (J ⟨w.heap.size,0,E⟩) l.toNat l.toNat,by simp only[execOp,ho,hy.1,hz.1,Jt,Q,Oo];rfl,.inl F,?_,g',he⟩;simp only[CV,Ab,H6];exact⟨J ⟨w.heap.size,0,E⟩,F,J ⟨w.heap.size,0,E⟩,l.toNat,F,BN _,by unfold maxLen;omega,λ_=>⟨w.heap.size,0,es,rfl,λr Q=>by rw[List.eq_of_mem_replicate Q,q],D9.flat.2 Fh⟩⟩
section
variable {P:Program} {S0:BF} {w0:Bs} {x:Cx} {w:World} {H:Bx} {a:Act} {o:Oper} {e:Operand->V} {v:V}
theorem AVM (g:Good S0 w0 x w H){R:Nat->Obj->Prop}(q : ∀b,R b (.map #[] 0)){t:TypeId}{r:Option Operand}(ho:o.op=.makeMap t r)(hr:(mG t (r.map a.eval)).run P w=.ok (.map (J w.heap.size)) (w.alloc (.map #[] 0)))(k:Nat)(hk : ¬x.dom k):BW P o a S0 w0 x w H (.mp k) (J (k,.mp R)):=by
 have B:Ay w (w.alloc (.map #[] 0)):=(Ay.refl w).alloc _;have Q:Ext x (x.C4 k ⟨w.heap.size,0,U,0,U⟩) w (w.alloc (.map #[] 0)):=Good.ext1 k _ hk λb j v _ z=>B.cell z
 have S:=g.H5 k (.mp R) Q (.FR B) (λi=>Iff.rfl) (λi hi=>by simp[Cx.C4,hi]) (λ_=>.inr (by simp[Cx.C4])) ⟨by simp[Cx.C4],by simp[Cx.C4],_,by simp only[Cx.C4,Awg];exact heap_alloc_new w _,rfl,q _⟩ (λb j h=>.inl h) (λj hx hs=>hx);refine⟨_,_,_,.map (J w.heap.size),?_,.inl F,?_,S,Q,λk' h=>h.elim .inl λe=>.inr ⟨.mp R,by rw[e]⟩,λ_=>rfl⟩;simp only[execOp,ho,Jt,hr,Oo];rfl;simp only[CV,Cx.C4,Awg];exact⟨.inr W,W,W⟩
theorem AYE (t:TypeId)(w:World):(mG t E).run P w=.ok (.map (J w.heap.size)) (w.alloc (.map #[] 0)):=by simp[mG]
theorem AZi {t:TypeId}(h:lV P t=I):∃te,P.underlying t=J (.pointer te):=by
 unfold lV at h;split at h;rename_i te e;exact⟨te,e⟩;cases h
theorem AI3 (g:Good S0 w0 x w H){op:BinOp}{t t':TypeId}{y z:Operand}{b:Bool}(q:o.op=.binOp op t y z t')(Q:op=.eql/\b=U\/op=.neq/\b=I)(ht:lV P t=I){A:Option Addr}(hy:a.eval y=.pointer A)(hz:a.eval z=.pointer E):BW P o a S0 w0 x w H (.c (.bool (b ^^ A.isNone))) none:=by
 obtain⟨te,hu⟩:=AZi ht;have S:(Pt t (.pointer A) (.pointer E)).run P w=.ok A.isNone w:=by
  have e:Pt t (.pointer A) (.pointer E)=aP (9999+1) t (.pointer A) (.pointer E):=F;rw[e];unfold aP;cases A<;>simp[run_underlying hu]
 refine BW.pure g (u:=.bool (b ^^ A.isNone)) ?_ (by simp only[CV,Ab]);rcases Q with ⟨rfl,rfl⟩|⟨rfl,rfl⟩
 have R:(eqGuard .eql t y z (.pointer A) (.pointer E)).run P w=.ok () w:=F;have B:binOp .eql t (.pointer A) (.pointer E)=(do pure (.bool (<-Pt t (.pointer A) (.pointer E)))):=F;simp[execOp,q,hy,hz,Jt,R,B,S];have R:(eqGuard .neq t y z (.pointer A) (.pointer E)).run P w=.ok () w:=F;have B:binOp .neq t (.pointer A) (.pointer E)=(do pure (.bool (!(<-Pt t (.pointer A) (.pointer E))))):=F;simp[execOp,q,hy,hz,Jt,R,B,S]
end
section
variable {S0:BF} {w0:Bs} {x:Cx} {w:World} {H:Bx} {a:Act} {o:Oper} {e:Operand->V} {v:V}
theorem ABg (B:Bool)(s:ByteArray)(n:Int)(w:World):(uG B 10000 183 (.agg #[.string s,.int .i64 n])).run AF w=.ok () w:=by
 have h:(10000:Nat)=9999+1:=F;rw[h];unfold uG;have Q : ∀w,(uG B 9999 9 (.string s)).run AF w=.ok () w:=λw=>AMu (k:=.string s) Lb trivial B 9998
 have R : ∀w,(uG B 9999 3 (.int .i64 n)).run AF w=.ok () w:=λw=>AMu (k:=.int .i64 n) Fo (by simp[MapKept.IsKey]) B 9998
 have S : ∀w,(part 9 #[.string s,.int .i64 n] 0).run AF w=.ok (.string s) w:=λw=>by
  have:(isAgg 9).run AF w=.ok U w:=ZC;simp[part,this]
 have q : ∀w,(part 3 #[.string s,.int .i64 n] 1).run AF w=.ok (.int .i64 n) w:=λw=>by
  have:(isAgg 3).run AF w=.ok U w:=ZC;simp[part,this]
 simp[run_underlying Ak7,Q,R,S,q]
theorem AFy {n:Int}{u:Value}(h:CV x w (.agg [.c (.str s),.c (.int .i64 n)]) u):u=.agg #[.string s,.int .i64 n]:=by
 simp only[CV,AO,Ab]at h;obtain⟨vs,rfl,S,Q,B,⟨rfl,_⟩,q,R,rfl,⟨rfl,_⟩,rfl⟩:=h;congr 1
 exact Gx.1 B
end
theorem AQ.AVk {f:FuncId}{args:List V}{m:Nat}{ι:Type}{R:ι->Obj->Prop}{R':Obj->Prop}{out:Out}(h : ∀i,AQ P f args m (R i) R' out):AQ P f args m (λB=>∃i,R i B) R' out:=λS w us B Q q z h4 h5=>let ⟨i,hi⟩:=h4;h i S w us B Q q z hi h5
def ADf (f:AP)(e:MapEntry):Prop:=∃(s:ByteArray) (n:Int),e.key=.agg #[.string s,.int .i64 n]/\∀x w,CV x w (Ao (DB f s n).1) e.val
def P0 (f:AP)(M:ByteArray->Int->Bool)(ob:Obj):Prop:=∃es cl,ob=.map es cl/\(∀e∈es.toList,ADf f e)/\∀s n,M s n=I↔∃e∈es.toList,e.key=.agg #[.string s,.int .i64 n]
def BM (f:AP)(ob:Obj):Prop:=∃M,P0 f M ob
def fP (M:ByteArray->Int->Bool)(s:ByteArray)(n:Int):ByteArray->Int->Bool:=λs' n'=>M s' n' || (decide (s'=s) && decide (n'=n))
theorem AN8 {s s':ByteArray}(h:s≠s'):(s==s')=false:=by
 cases B:(s==s')with
 | false=>rfl
 | true=>exact absurd ((MapKept.bytes_beq _ _).1 B) h
theorem geq (s s':ByteArray)(n n':Int)(w:World):(Pt 183 (.agg #[.string s,.int .i64 n]) (.agg #[.string s',.int .i64 n'])).run AF w=.ok (decide (s=s') && decide (n=n')) w:=by
 have e:Pt 183 (.agg #[.string s,.int .i64 n]) (.agg #[.string s',.int .i64 n'])=aP (9999+1) 183 (.agg #[.string s,.int .i64 n]) (.agg #[.string s',.int .i64 n']):=F;rw[e,run_equalIn_agg _ _ _ _ _ ZC ZC];have h1:(s.toList==s'.toList)=decide (s=s'):=by
  rw[<-beq_toListBytes];by_cases h:s=s';subst h;simp[(MapKept.bytes_beq s s).2 rfl];simp[AN8 h,h]
 have h2:(n==n')=decide (n=n'):=by
  by_cases h:n=n'<;>simp[h]
 go_simp;by_cases h3:s=s'<;>by_cases h4:n=n'<;>simp[h3,h4]
theorem xf (f:AP)(s:ByteArray)(n:Int)(w:World):∀(es:List MapEntry) (i:Nat),(∀e∈es,ADf f e)->∃r,(fj 183 (.agg #[.string s,.int .i64 n]) es i).run AF w=.ok r w/\(r=E->∀e∈es,e.key≠.agg #[.string s,.int .i64 n])/\∀j v,r=J (j,v)->(∃e∈es,e.key=.agg #[.string s,.int .i64 n])/\∀x w,CV x w (Ao (DB f s n).1) v
 | [],i,_=>⟨E,by simp[fj],(λ_ e z=>by cases z),(λ_ _ h=>by cases h)⟩
 | e::es,i,h=>by
   obtain⟨s',n',R,hv⟩:=h e GH;obtain⟨r,i1,i2,i3⟩:=xf f s n w es (i+1) λe z=>h e (Gk _ z)
   by_cases q:s=s'/\n=n';obtain⟨rfl,rfl⟩:=q;refine⟨J (i,e.val),?_,λh=>by(cases h),λj v hj=>?_⟩;simp[fj,R,geq];cases hj;exact⟨⟨e,GH,R⟩,hv⟩;have hd:(decide (s=s') && decide (n=n'))=false:=by
    by_cases a:s=s';have b:n≠n':=λb=>q ⟨a,b⟩
    simp[b];simp[a]
   refine⟨r,?_,λhr S B=>?_,λj v hj=>?_⟩;simp only[fj,R,Jt,geq,hd];simpa using i1;rcases Cf.1 B with rfl|B
   rw[R];intro Q;injection Q with Q
   simp only[ACd,Vb,AM3,Value.int.injEq,and_true,true_and]at Q;exact q ⟨Q.1.symm,Q.2.symm⟩;exact i2 hr S B;obtain⟨⟨S,B,Hh⟩,A0⟩:=i3 j v hj;exact⟨⟨S,Gk _ B,Hh⟩,A0⟩
theorem AFx {n:Int}{es:List MapEntry}{r:Option (Nat×Value)}{w:World}(h:(fj 183 (.agg #[.string s,.int .i64 n]) es 0).run AF w=.ok r w):(ACk 183 (.agg #[.string s,.int .i64 n]) es).run AF w=.ok r w:=by
 cases es with
 | nil=>simpa [ACk,run_underlying Ak7,Instr.findNow,fj]using h
 | cons e es=>simpa [ACk,run_underlying Ak7,Instr.findNow,Instr.sameNow]using h
theorem Aa6 (x:Cx)(w:World):∃z,(zeroValue 56).run AF w=.ok z w/\CV x w (Ao AA.zero) z:=by
 refine⟨.agg #[.int .i64 0,.string ⟨#[]⟩,.int .i64 0,.int .i64 0,.int .i64 0,.int .i64 0,.int .i64 0,.int .i64 0,.slice E 0 0,.int .i64 0,.slice E 0 0],ZC,?_⟩;have B:(Lit.int .i64 0).wf=true:=by decide +kernel
 simp only[Ao,AA.zero,AA.row,AA.AG,AV,Ap,BB,CV,AO,Ab];exact⟨_,F,_,_,F,⟨F,B⟩,_,_,F,⟨F,by decide +kernel⟩,_,_,F,⟨F,B⟩,_,_,F,⟨F,B⟩,_,_,F,⟨F,B⟩,_,_,F,⟨F,B⟩,_,_,F,⟨F,B⟩,_,_,F,⟨F,B⟩,_,_,F,⟨E,0,F,BN _,CI _,λh=>absurd rfl h⟩,_,_,F,⟨F,B⟩,_,_,F,⟨E,0,F,BN _,CI _,λh=>absurd rfl h⟩,F⟩
section
variable {S0:BF} {w0:Bs} {x:Cx} {w:World} {H:Bx} {a:Act} {o:Oper}
theorem AVK (g:Good S0 w0 x w H){y z:Operand}(ho:o.op=.lookup 127 y z I){k m:Nat}{n:Int}{f:AP}(hy:CV x w (.c (.MA m)) (a.eval y))(Q:CV x w (.agg [.c (.str s),.c (.int .i64 n)]) (a.eval z))(hk:H k=J (.mp (Ci m (P0 f M)))):
 BW AF o a S0 w0 x w H (.A7 [Ao (if M s n=I then(DB f s n).1 else AA.zero),.c (.bool (M s n))]) none:=by
 have Q:=AFy Q;simp only[CV,Ab]at hy;obtain⟨_,_,_,ob,q,_,hm,es,cl,rfl,hE,hM⟩:=g.ok k _ hk;rw[hm]at q;obtain⟨r,h1,h2,h3⟩:=xf f s n w es.toList 0 hE;have qf:=AFx h1;obtain⟨zv,Y9,IN⟩:=Aa6 x w;cases r with
 | none =>
   have R:M s n=false:=by
    cases hc:M s n with
    | false=>rfl
    | true=>obtain⟨e,he,hk⟩:=(hM s n).1 hc;exact absurd hk (h2 rfl e he)
   rw[R];refine BW.pure g (u:=.tuple #[zv,.bool U]) ?_ ?_;have B:(fk 127 (.map (J m)) (.agg #[.string s,.int .i64 n]) I).run AF w=.ok (.tuple #[zv,.bool U]) w:=by
    simp[fk,run_underlying Ak6,ACz q,ABg,qf,Y9]
   simp[execOp,ho,hy,Q,B];rw[Awf ZA];simp only[CV,AO,Ab];exact⟨_,F,_,_,F,IN,_,_,F,F,F⟩
 | some p =>
   obtain⟨j,v⟩:=p;obtain⟨⟨e,he,A0⟩,hv⟩:=h3 j v F;have S:M s n=true:=(hM s n).2 ⟨e,he,A0⟩;rw[S];refine BW.pure g (u:=.tuple #[v,.bool I]) ?_ ?_;have B:(fk 127 (.map (J m)) (.agg #[.string s,.int .i64 n]) I).run AF w=.ok (.tuple #[v,.bool I]) w:=by
    simp[fk,run_underlying Ak6,ACz q,ABg,qf]
   simp[execOp,ho,hy,Q,B];rw[Awd rfl];simp only[CV,AO,Ab];exact⟨_,F,_,_,F,hv x w,_,_,F,F,F⟩
theorem AVL (g:Good S0 w0 x w H){y z q:Operand}(ho:o.op=.mapUpdate 127 y z q){k m:Nat}{n:Int}{f:AP}(hy:CV x w (.c (.MA m)) (a.eval y))(hz:CV x w (.agg [.c (.str s),.c (.int .i64 n)]) (a.eval z))(hq : ∀x w,CV x w (Ao (DB f s n).1) (a.eval q))(A0:M s n=U)(hk:H k=J (.mp (Ci m (P0 f M)))):
 BW AF o a S0 w0 x w H .any (J (k,.mp (Ci m (P0 f (fP M s n))))):=by
 have hz:=AFy hz;simp only[CV,Ab]at hy;obtain⟨hd,h1,h2,ob,hb,A3,hm,es,cl,rfl,hE,hM⟩:=g.ok k _ hk;obtain⟨r,f1,f2,f3⟩:=xf f s n w es.toList 0 hE;have qf:=AFx f1;have hr:r=none:=by
  cases r with
  | none=>rfl
  | some p =>
    obtain⟨j,v⟩:=p;have:=(hM s n).2 (f3 j v F).1;rw[A0]at this;cases this
 subst hr;obtain⟨Q,Iw⟩:∃Q,Q=Obj.map (es.push { key:=.agg #[.string s,.int .i64 n],val:=a.eval q,born:=cl }) (cl+1):=⟨_,rfl⟩
 have R:(mJ 127 (.map (J (x.loc k).b)) (.agg #[.string s,.int .i64 n]) (a.eval q)).run AF w=.ok () (w.putObj (x.loc k).b Q):=by
  rw[Iw];simp[mJ,run_underlying Ak6,ACz hb,ABg,qf,MapKept.run_setObj_map _ hb];rfl
 have jT:P0 f (fP M s n) Q:=by
  refine⟨_,_,Iw,λe B=>?_,λs' n'=>?_⟩;simp only[AMP,MJ,LY]at B;rcases B with B|rfl
  exact hE e B;exact⟨s,n,F,hq⟩;simp only[fP,T9,Ak,Awe,hM,AMP,MJ,LY];constructor;rintro (⟨e,B,h⟩|⟨rfl,rfl⟩);exact⟨e,.inl B,h⟩;exact⟨_,.inr F,F⟩;rintro ⟨e,B|rfl,h⟩;exact .inl ⟨e,B,h⟩;simp only at h;injection h with h
  simp only[ACd,Vb,AM3,Value.int.injEq,and_true,true_and]at h;exact .inr ⟨h.1.symm,h.2.symm⟩
 have hg:w.grownBy (w.putObj (x.loc k).b Q) (J (x.loc k).b):=grownBy_putObj' w _ _;have A1:=(DO.1 hb).1;have CT:(w.putObj (x.loc k).b Q).heap[(x.loc k).b]?=J Q:=iD A1;have ar:Ar x.S x.S w (w.putObj (x.loc k).b Q):=⟨λ_ _ h=>h,λb j v hS hc=>by
  have A2:b≠(x.loc k).b:=λe=>by
   subst e;unfold iC at hc;simp[hb]at hc
  exact(RK (hg.block b (g.ex b j hS) λe=>A2 (ML e))).trans hc⟩
 have B:Ext x x w (w.putObj (x.loc k).b Q):=⟨ar,λ_ h=>h,λ_ _=>FM.refl _⟩
 have g':=g.H5 k (.mp (Ci m (P0 f (fP M s n)))) B ⟨hg.os,hg.tape,hg.output,hg.size,λb Fc KY=>hg.block b Fc λe=>KY ⟨hd,h2,(ML e).symm⟩⟩ (λi=>⟨.inl,λh=>h.elim id λe=>e ▸ hd⟩) (λ_ _=>rfl) (λ_=>.inl ⟨hd,h2,rfl⟩) ⟨h1,h2,Q,CT,(by rw[Iw];rfl),hm,jT⟩ (λb j h=>.inl h) (λj hx=>hx.elim);refine⟨.skip,_,x,undef,?_,.inr ⟨F,F⟩,by simp only[CV],g',B,λ_ h=>.inl h,λ_=>rfl⟩;rw[hm]at R;simp[execOp,ho,hy,hz,R,hm]
end
theorem AOg {b:AA}(B:b.AE=[])(hs:b.src=[]){x:Cx}{w:World}{u:Value}(h:CV x w (Ao b) u)(x':Cx)(w':World):CV x' w' (Ao b) u:=by
 obtain⟨Q,R,S,q,z,b5,b6,b7,AE,o,src⟩:=b;simp only at B hs;subst B hs;simpa [Ao,AA.row,AA.AG,AV,CV,AO,Ab]using h
theorem AYz {k:Int}(h:H2 k≠0):5<=k/\k<=12:=by
 unfold H2 at h;by_cases q1:k=5\/k=6\/k=7\/k=8;omega;rw[Awf q1]at h;by_cases q2:k=9;omega;rw[Awf q2]at h;by_cases B:k=10\/k=11;omega;rw[Awf B]at h;by_cases Q:k=12;omega;rw[Awf Q]at h;exact absurd rfl h
theorem AXE (i:Int)(s:Aa)(A5:s.ok=I)(h5:5<=k)(A0:k<=12)(AG:List (List C))(Q:Zt[k]?=J (.c (.sl AG)))(n:Nat)(hn:G AG=n)(N:Int)(hN:(if k=12 then 256 else(n:Int))=N)(B:i<0\/N<=i):AC AF 166 [(k:Int),i,Aj s] (.A7 [Aj ⟨0,U⟩,(2:Int)]):=by
 have R:=fI s;have S:=AJy;rw[A5]at R;obtain⟨RV,jU⟩:=AI Zt;have hl:G RV=13:=by rw[<-jU];rfl
 rw[jU]at S Q;have k1 : ¬(k:Int)<5:=Ux;have k2 : ¬(12:Int)<(k:Int):=Ux;have k3:(k:Int)<13:=Ux;have k4:k<13:=Ux;have U9:=gx Q;unfold Aj;unfold Aj at R;refine en func166 ntmps166 ?_;by_cases q:k=12;have z:((k:Int)=12)↔True:=⟨λ_=>trivial,λ_=>by omega⟩
 rw[Awd q]at hN;subst hN;rcases B with B|B
 exact wz (cj9 @k1 @k2 @k3 @k4 @Q @U9 @z @hn @hl<|cj @B gq) (cj2 R S W);have JM : ¬i<0:=Ux;exact wz (cj9 @k1 @k2 @k3 @k4 @Q @U9 @z @hn @hl<|cj2 @B @JM gq) (cj2 R S W);have z : ¬(k:Int)=12:=Ux;rw[Awf q]at hN;subst hN;rcases B with B|B
 exact wz (cj9 @k1 @k2 @k3 @k4 @Q @U9 @z @hn @hl<|cj @B gq) (cj2 R S W);have JM : ¬i<0:=Ux;exact wz (cj9 @k1 @k2 @k3 @k4 @Q @U9 @z @hn @hl<|cj2 @B @JM gq) (cj2 R S W)
theorem AXC (i:Int)(s:Aa)(A5:s.ok=I)(h5:5<=k)(A0:k<=12)(AG:List (List C))(B:Zt[k]?=J (.c (.sl AG)))(n:Nat)(hn:G AG=n)(N:Int)(hN:(if k=12 then 256 else(n:Int))=N)(h0:0<=i)(hi:i<N)(j:Nat)(hj:(if (n:Int) - 1<i then(n:Int) - 1 else i)=(j:Int))(GN:j<n)(Hy:n<=100)(g:FuncId)(b:Bool)(L:Int)(z:AG[j]?=J [.EV g,.bool b])(R:AC AF g [.c (.int .i64 s.By)] (.c (.int .i64 L)))(Rl:Fp AF g=I):AC AF 166 [(k:Int),i,Aj s] (.A7 [Aj ⟨L,s.Hd || b⟩,(0:Int)]):=by
 have Q:=fI s;have hr:=AJy;rw[A5]at Q;obtain⟨RV,jU⟩:=AI Zt;have hl:G RV=13:=by rw[<-jU];rfl
 rw[jU]at hr B;have k1 : ¬(k:Int)<5:=Ux;have k2 : ¬(12:Int)<(k:Int):=Ux;have k3:(k:Int)<13:=Ux;have k4:k<13:=Ux;have hw:AZ.wrap ((n:Int) - 1)=(n:Int) - 1:=Ac;have cq : ¬i<0:=Ux;have U9:=gx B;have Ei:=gx z;have qi:j<G AG:=Ux;obtain⟨l,c⟩:=s;unfold Aj;unfold Aj at Q;simp only at R;refine en func166 ntmps166 ?_;by_cases q:k=12;have q':((k:Int)=12)↔True:=⟨λ_=>trivial,λ_=>by omega⟩
 rw[Awd q]at hN;subst hN;have S : ¬256<=i:=Ux;cases c with
 | true=>exact wz (cj9 @k1 @k2 @k3 @k4 @B @U9 @q' @hn @hl<|cj9 @cq @S @hw @hj @GN @qi @z @Ei @Rl gq) (cj3 Q hr R W)
 | false=>exact wz (cj9 @k1 @k2 @k3 @k4 @B @U9 @q' @hn @hl<|cj9 @cq @S @hw @hj @GN @qi @z @Ei @Rl gq) (cj3 Q hr R W)
 have q' : ¬(k:Int)=12:=Ux;rw[Awf q]at hN;subst hN;have Is:i=(j:Int):=by rw[Awf Ux]at hj;exact hj
 subst Is;have S : ¬(n:Int)<=(j:Int):=Ux;have J9 : ¬n<=j:=Ux;cases c with
 | true=>exact wz (cj9 @k1 @k2 @k3 @k4 @B @U9 @q' @hn @hl<|cj9 @cq @S @J9 @hw @GN @qi @z @Ei @Rl gq) (cj3 Q hr R W)
 | false=>exact wz (cj9 @k1 @k2 @k3 @k4 @B @U9 @q' @hn @hl<|cj9 @cq @S @J9 @hw @GN @qi @z @Ei @Rl gq) (cj3 Q hr R W)
theorem ABI (k i:Int)(s:Aa):AC AF 166 [k,i,Aj s] (Zx (XW k i s)):=by
 by_cases he:s.ok=U\/H2 k=0;exact AXD k i s he;have z:s.ok=true:=by cases h:s.ok with
  | true=>rfl
  | false=>exact absurd (.inl h) he
 have Iu:H2 k≠0:=λh=>he (.inr h)
 obtain⟨h5,A3⟩:=AYz Iu;have Q:0<=s.By/\s.By<=3:=by
  unfold Aa.ok at z;simpa using z
 obtain⟨n,rfl⟩:∃n:Nat,k=(n:Int):=⟨k.toNat,Ux⟩
 have A1:5<=n:=Ux;have A0:n<=12:=Ux;unfold XW;rw[Awf he];by_cases hr:i<0\/H2 (n:Int)<=i
 . rw[Awd hr];have hc:n=5\/n=6\/n=7\/n=8\/n=9\/n=10\/n=11\/n=12:=Ux;rcases hc with rfl|rfl|rfl|rfl|rfl|rfl|rfl|rfl
   all_goals exact AXE _ i s z Ux Ux _ rfl _ rfl _ rfl (by simpa [H2]using hr)
 rw[Awf hr];have h0:0<=i:=Ux;have R:i<H2 (n:Int):=Ux;have key : ∀(j:Nat) (S:List (List C)) (m:Nat) (g:FuncId) (b:Bool) (L:Int),Zt[n]?=J (.c (.sl S))->G S=m->m<=100->(if n=12 then 256 else(m:Int))=H2 (n:Int)->(if (m:Int) - 1<i then(m:Int) - 1 else i)=(j:Int)->j<m->S[j]?=J [.EV g,.bool b]->AC AF g [.c (.int .i64 s.By)] (.c (.int .i64 L))->Fp AF g=I->GB (n:Int) i s=⟨L,s.Hd || b⟩->AC AF 166 [(n:Int),i,Aj s] (Zx (GB (n:Int) i s,0)):=by
  intro j S m g b L q1 q2 q3 q4 q5 q6 q7 q8 q9 A2;rw[A2];exact AXC n i s z A1 A0 S q1 m q2 _ q4 h0 R j q5 q6 q3 g b L q7 q8 q9
 have hc:n=5\/n=6\/n=7\/n=8\/n=9\/n=10\/n=11\/n=12:=Ux;have q:i=0\/i=1\/2<=i:=Ux;obtain⟨B,cr⟩:=s;simp only at Q;rcases hc with rfl|rfl|rfl|rfl|rfl|rfl|rfl|rfl
 rcases q with rfl|rfl|h2
 exact key 0 _ 2 _ U _ rfl rfl Ux rfl rfl Ux rfl (AJp B Q.1 Q.2) ZC (by simp[GB]);exact key 1 _ 2 _ I _ rfl rfl Ux rfl rfl Ux rfl (AJp B Q.1 Q.2) ZC (by simp[GB]);simp[H2]at R;omega;rcases q with rfl|rfl|h2
 exact key 0 _ 2 _ U _ rfl rfl Ux rfl rfl Ux rfl (AWZ B) ZC (by simp[GB]);exact key 1 _ 2 _ I _ rfl rfl Ux rfl rfl Ux rfl (eJ B) ZC (by simp[GB]);simp[H2]at R;omega;rcases q with rfl|rfl|h2
 exact key 0 _ 2 _ U _ rfl rfl Ux rfl rfl Ux rfl (eJ B) ZC (by simp[GB]);exact key 1 _ 2 _ I _ rfl rfl Ux rfl rfl Ux rfl (sJ B Q.1 Q.2) ZC (by simp[GB]);simp[H2]at R;omega;rcases q with rfl|rfl|h2
 exact key 0 _ 2 _ U _ rfl rfl Ux rfl rfl Ux rfl (eJ B) ZC (by simp[GB]);exact key 1 _ 2 _ U _ rfl rfl Ux rfl rfl Ux rfl (sJ B Q.1 Q.2) ZC (by simp[GB]);simp[H2]at R;omega;rcases q with rfl|rfl|h2
 exact key 0 _ 3 _ U _ rfl rfl Ux rfl rfl Ux rfl (eJ B) ZC (by simp[GB]);exact key 1 _ 3 _ I _ rfl rfl Ux rfl rfl Ux rfl (sJ B Q.1 Q.2) ZC (by simp[GB]);have e2:i=2:=by simp[H2]at R;omega
 subst e2;exact key 2 _ 3 _ U _ rfl rfl Ux rfl rfl Ux rfl (sJ B Q.1 Q.2) ZC (by simp[GB]);have e0:i=0:=by simp[H2]at R;omega
 subst e0;exact key 0 _ 1 _ I _ rfl rfl Ux rfl rfl Ux rfl (eJ B) ZC (by simp[GB]);have e0:i=0:=by simp[H2]at R;omega
 subst e0;exact key 0 _ 1 _ U _ rfl rfl Ux rfl rfl Ux rfl (eJ B) ZC (by simp[GB]);exact key 0 _ 1 _ U _ rfl rfl Ux rfl (by split<;>omega) Ux rfl (AV4 B) ZC (by simp[GB])
theorem APw (A:Option Addr)(n:Nat)(h0:0<n)(hn:n<=1000000)(w:World):Calls AF 142 #[.slice A 0 0,.int .i64 n] w λr w' =>
 ∃cap vs,r=.returned (.slice (J ⟨w.heap.size,0,E⟩) 0 cap)/\w'=w.drew.alloc (.cells vs 3)/\vs.size=cap/\cap<=maxLen:=by
 have hi : ¬((n:Int)<0):=Ux;have hw:AZ.wrap (n:Int)=n:=Ac;have zL:(n:Int) > 0:=Ux;obtain⟨hu,ie,R,S,hz,hsz,hby,hzs⟩:=JS (show Dk AF 39=J (3,1,8)by kernel_rfl);have q:Builtin.nextslicecap (0+n) 0*ie.bytes<=281474976710656:=by rw[hby];exact growslice_fits Ux Ux
 have Q:=Go.Lib.run_append_grow_zeros (P:=AF) w 39 3 39 3 ie R .i64 .i64 hu ZC S hz A 0 0 [] (by cases A with
  | none=>simp[fc]
  | some ad=>simpa [fc]using run_loadCells_list (P:=AF) w.drew ad [] ZA) n h0 Ux Ux Ux (by rw[hby];omega) q
 have z:=grownCap_ge w (0+n) 0 3;have hle:=grownCap_le_maxLen w (0+n) 0 3 (by unfold maxLen;omega);obtain⟨arr,B⟩:=AI (([]:List Value).toArray++KN R.cells n++KN R.cells (grownCap w (0+n) 0 3 - (0+n)));rw[B]at Q;have hsize:arr.size=grownCap w (0+n) 0 3:=by rw[<-B];simp[size_zeroCells,hzs];rw[Cz]at z;omega
 obtain⟨cap,Mf⟩:∃cap,grownCap w (0+n) 0 3=cap:=⟨_,rfl⟩
 rw[Mf]at Q z hle hsize;have cX : ¬((cap:Int)<0):=Ux;clear Mf B q hz S hu;go_enter func142,ntmps142;go_wp2_with (at_builtin;refine Go.Lib.wpList_append_run _ rfl _ _ _ _ rfl _ _ rfl rfl _ _ Q ?_)
 simp[bodyPost,results,results142];exact⟨arr,F,hsize,hle⟩
theorem APv (n:Nat)(q:0<n)(hn:n<=1000000)(h:List O):HC AF 142 [.Bg [],.c (.int .i64 n)] h (.ret (.gr (G h) 1 [])) (h++[.tok 3 1 0]):=by
 refine⟨ZC,λ{S0 w0 x w us} g R=>?_⟩;simp only[AO,CV,Ab]at R;obtain⟨u1,r1,rfl,⟨A,rfl,_⟩,u2,r2,rfl,⟨rfl,_⟩,rfl⟩:=R;refine(APw A n q hn w).mono ?_;rintro r w' ⟨cap,vs,rfl,rfl,A0,B⟩;have hk : ¬x.dom (G h):=λz=>by obtain⟨o,Q⟩:=g.dom _ z;simp at Q
 obtain⟨S,he,_⟩:=g.xi (G h) (Ae:=3) (es:=1) (m:=0) (cap:=cap) (vs:=vs) (λo Q=>by simp at Q) Ux (l:=[]) (by simp[B4]) ZA Ux;have e:=Kj h (J (G h,O.tok 3 1 0)) (λk o e=>by cases e;exact BN _);simp only[Bk,IY,Awh,Bx.upd]at e;refine⟨_,by rw[e];exact S,he,.FR ((Ay.refl w).drew.alloc _),_,rfl,?_⟩;simp only[CV,Ab,Cx.grow,Awg,List.length_nil,GW,Awh];refine⟨.inr W,W,⟨J ⟨w.heap.size,0,E⟩,cap,F,Ux,B,λh=>absurd rfl h⟩,ZA,BN _,λ_=>⟨cap,F,F⟩⟩
theorem pR (a b:List Int)(ha:G a<=100000)(hb:G b<=100000)(hp:0<G b):AC AF 96 [.c (.sl [[AV a],[AV b]])] (.c (AV (a++b))):=by
 obtain⟨A,R⟩:=AI (a.map (λn=>[C.int .i64 n]));obtain⟨B,q⟩:=AI (b.map (λn=>[C.int .i64 n]));have KV:G A=G a:=by rw[<-R];simp
 have A2:G B=G b:=by rw[<-q];simp
 have S : ∀r∈A,G r=1:=by rw[<-R];simp
 have z : ∀r∈B,G r=1:=by rw[<-q];simp
 unfold AV;rw[Fm,R,q];have A1:AZ.wrap (G A:Int)=(G A:Int):=Ac;obtain⟨N,hN⟩:=AI (G A+G B);have EK:AZ.wrap ((G A:Int)+(G B:Int))=(N:Int):=by rw[Ac];omega
 have A0 : ¬((G A:Int)<0):=Ux;have dC : ¬((N:Int)<0):=Ux;have k1:AZ.wrap (0+1)=1:=by decide +kernel
 have k2:AZ.wrap (1+1)=2:=by decide +kernel
 have k3:AZ.wrap 1=1:=by decide +kernel
 have k4:AZ.wrap 2=2:=by decide +kernel
 refine en func96 ntmps96 ?_;refine Ah ?_;refine LA.loop (LA.round ?_);refine go (cj3 @A1 @A0 @k1 @k3) ?_;refine LA.round ?_;refine go (cj3 @EK @dC @k2 @k4) ?_;refine LA.round ?_;refine wu (.mk 9) ADX trivial ⟨?_⟩;refine Og (.mk 1) trivial ?_;refine SW.wZ (APv N Ux Ux []) (by simp[BQ]) (by simp[C7,ev]) ?_;refine CY (.mk 1) trivial ?_;refine SW.nil ?_;refine Ah ?_;refine LA.loop (LA.round ?_);have g1:G A<=maxLen:=by unfold maxLen;omega
 have g2:G A*8<=140737488355328:=Ux;have g3:G A+G B<=maxLen:=by unfold maxLen;omega
 have g4:(G A+G B)*8<=140737488355328:=Ux;have Q:(∀r∈A,G r=1)↔True:=Awn S;have xq:(∀r∈B,G r=1)↔True:=Awn z;refine go (cj4 @k1 @k3 @g1 @g2 @Q) ?_;refine LA.round ?_;refine go (cj5 @k2 @k4 @g3 @g4 @Q @xq) ?_;refine LA.round ?_;refine Ah ?_;exact At ADX
section
variable {P:Program} {m:Mo}
def HZ (m:Mo)(P:Program)(c:Code)(K:Exit->St->Prop)(s:St):Prop:=
 ∀(n:Nat) (S0:BF) (w0:Bs) (x:Cx) (a:Act) (w:World),w0.n0<=m.n0->2<=n->(∃lp,m.rd=J lp/\w0.F lp/\∃r,w0.w.heap[lp]?=J (.loop r))->Bo S0 w0 x s a w->c.wpIn (fz m) n P (λe a w=>∃x s,Bo S0 w0 x s a w/\K e s) a w
theorem HZ.of {c:Code}{s:St}(h:AW m P c K s):HZ m P c K s:=λn S0 w0 x a w Q _ _ B=>h n S0 w0 x a w Q B
theorem HZ.seq {c d:Code}{s:St}(h:HZ m P c (NH (HZ m P d K) K) s):HZ m P (.seq c d) K s:=λn S0 w0 x a w S q R z=>wpIn_seq (wpIn_mono (h n S0 w0 x a w S q R z) λe a w ⟨x,s,B,Q⟩=>by
 cases e with
 | normal=>exact Q n S0 w0 x a w S q R B
 | _=>exact⟨x,s,B,Q⟩)
theorem HZ.le {c:Code}{s s':St}(q:Le m s s')(h:HZ m P c K s'):HZ m P c K s:=λn S0 w0 x a w Q z B S=>let ⟨x',R⟩:=q S0 w0 x a w Q S;h n S0 w0 x' a w Q z B R
theorem HZ.block {id:Nat}{c:Code}{s:St}(h:HZ m P c (Sz id K) s):HZ m P (.block id c) K s:=λn S0 w0 x a w q z S R=>wpIn_block (wpIn_mono (h n S0 w0 x a w q z S R) λe a w ⟨x,s,Q,B⟩=>by
 cases e with
 | exit i=>simp only[Sz,Exit.inBlock]at B ⊢;split;rename_i e;rw[Awd e]at B;exact⟨x,s,Q,B⟩;rename_i e;rw[Awf e]at B;exact⟨x,s,Q,B⟩
 | _=>exact⟨x,s,Q,B⟩)
theorem AW.AXa {n1:Nat}{s:St}{p d:Tmp}{id:Nat}{caps Lj:List V}(ho:o.op=.assign (.tmp p))(Rs:o.dst=some d)(hgd:o.guard=none)(hg:ev s.t g=.fn gf caps)(hp:V.CF caps=some Lj)(Ff:P.funcs[gf]?=some fn)(Iq:fn.body.isSome=true)(Hy:(fn.name == "runtime.NumGoroutine")=false)(enc:α->Value)(Ij:α->V)(Wb : ∀x' W y,CV x' W (Ij y) (enc y))(Sx:List α->Prop)(N:Nat)(NU:UU P gf Lj (λy=>#[enc y]) Sx N)(hf:List α->List O)(h0:s.h=hf [])(n0:Nat)(hlen : ∀pre,(hf pre).length=n0)(hpl:p<s.t.length)(HK : ∀(lp:Nat) (pre:List α) (y:α),pre.length<N->HZ ⟨some lp,n0⟩ P body (λe s'=>e=.normal/\∃t',Le ⟨some lp,n0⟩ s' ⟨t',hf (pre++[y])⟩) ⟨(s.t.set p (Ij y)).set d (Ij y),hf pre⟩)(hdone : ∀xs,Sx xs->K .normal ⟨s.t,hf xs⟩)(Hi : ∀pre,((hf pre).all O.Tn)=true:=by intro _;rfl):AW ⟨none,n1⟩ P (.rangeFunc g #[p] (.region id #[o] false) body) K s:=λn S0 w0 x a w hm hA=>by
 have FI:=CW hA.tm g;rw[hg]at FI;simp only[CV]at FI;obtain⟨lb,FI,EP⟩:=FI;have hc':=MC _ _ _ hp EP;have hb:fn.body≠none:=by intro e;rw[e]at Iq;cases Iq
 have hn:fn.name≠ "runtime.NumGoroutine":=by simpa using Hy
 have eg : ∀args w,(callFunc gf args).run P w=.ok (.enter gf args) w:=λargs w=>by simp[callFunc,program,Sem.run,Ff,hn,hb]
 have hsize : ∀ {D:Nat},w.heap.size<=D->¬w0.F D:=λh=>hA.good.fresh h
 have PA : ∀Ds:List Nat,a.defers=Ds.map (λD=>{ target:=.collected D,args:=#[] })->∀D∈Ds,D<w.heap.size:=by
  intro Ds e D hD;obtain⟨n9,f1,f2,f3⟩:=hA.df;have hm:({ target:=.collected D,args:=#[] }:Deferred)∈a.defers:=by rw[e];exact Da.2 ⟨D,hD,rfl⟩
  rw[f1]at hm;obtain⟨D',Fs,e'⟩:=Da.1 hm;have:D'=D:=by injection e' with e1 e2;injection e1
  subst this;exact(DO.1 (f3 D' Fs).2).1
 have hs:s=⟨s.t,hf []⟩:=by rw[<-h0]
 refine wpIn_wide.2 ((wpIn_wide (n:=5)).1 (wpIn_rangeFunc_ownH (F:=Fence.wide) (n:=5) (α:=α) (ps:=#[p]) (encs:=λy=>#[enc y]) (Kp:=F3 x.S) (S:=Sx) (Sp:=λ_=>True) (N:=N) (w0:=w) rfl Ux FI trivial eg (NU _ x.S w lb hA.good.ex hc') (λh k=>h.trans k) (λW l o o' _ h hc _=>F3.put W l o o' h hc) (Below.refl _ _) (λ_=>rfl)
  (λpre W=>∃x',Bo S0 w0 x' ⟨s.t,hf pre⟩ a W/\Ar x.S x'.S w W) (λ_ _ _=>False) ?_ (λ_ _ _ _ _ h=>h.elim) ⟨x,by rw[<-hs];exact hA,Ar.refl _ _⟩
  (λy a' _=>a'={ tmps:=((#[p].zip #[enc y]).foldl (λt (p,v)=>t.setIfInBounds p v) a.tmps).setIfInBounds d (((#[p].zip #[enc y]).foldl (λt (p,v)=>t.setIfInBounds p v) a.tmps).getD p undef),defers:=[] }) (λ_ _ _ _ _ _ h _ _=>h) ?_ ?_ ?_ (λ_ _ _ _ _ _ h _=>h.elim)))
 rintro pre W W' row ⟨x',Au,CZ⟩ hgr hr;obtain⟨g',he⟩:=Au.good.jI (To (Hi pre)) hgr λr e=>⟨hsize (hr r e).1,(hr r e).2⟩
 refine⟨x',⟨g',AO.mono he _ _ Au.tm,?_⟩,CZ.trans he.ar⟩;obtain⟨Ds,e1,e2,e3⟩:=Au.df;refine⟨Ds,e1,e2,λD hD=>⟨(e3 D hD).1,?_⟩⟩;have h2:=(e3 D hD).2;rw[hgr.block D (DO.1 h2).1 (λe=>by have:=(hr D e.symm).1;have:=PA Ds e1 D hD;omega)];exact h2;intro l pre y W K hI hK;exact iP ho Rs hgd (hK _ W (KeepsFrom.refl _ _) (F3.refl _ _) hI rfl);rintro l pre y a' W hl Iz ⟨x',Au,CZ⟩ rfl hN;have Ls : ∀k,x'.dom k->k<n0:=λk hk=>by
  obtain⟨o,ho⟩:=Au.good.dom k hk;have:=(Br.1 ho).1;rw[<-hlen pre];exact this
 have DJ:AO x' W ((s.t.set p (Ij y)).set d (Ij y)) (((#[p].zip #[enc y]).foldl (λt (p,v)=>t.setIfInBounds p v) a.tmps).setIfInBounds d (((#[p].zip #[enc y]).foldl (λt (p,v)=>t.setIfInBounds p v) a.tmps).getD p undef)).toList:=by
  have e1:((#[p].zip #[enc y]).foldl (λ(t:Array Value) (q:Tmp×Value)=>t.setIfInBounds q.1 q.2) a.tmps)=a.tmps.setIfInBounds p (enc y):=ZA;have hl:a.tmps.size=s.t.length:=by have:=Au.tm.len;simpa using this
  have e2:(a.tmps.setIfInBounds p (enc y)).getD p undef=enc y:=by
   rw[Kl,Array.getElem?_setIfInBounds_self_of_lt (by rw[hl];exact hpl)];rfl
  rw[e1,e2];simp only[Array.toList_setIfInBounds];exact(Au.tm.set p (Wb _ _ _)).set d (Wb _ _ _)
 have Ec:Bo x'.S (w0.XQ W Au.good.keep.size x' n0 Ls) x' ⟨(s.t.set p (Ij y)).set d (Ij y),hf pre⟩ { tmps:=((#[p].zip #[enc y]).foldl (λt (p,v)=>t.setIfInBounds p v) a.tmps).setIfInBounds d (((#[p].zip #[enc y]).foldl (λt (p,v)=>t.setIfInBounds p v) a.tmps).getD p undef),defers:=[] } W:=⟨Au.good.lB (To (Hi pre)) n0 Ls,DJ,Marks.nil _ _⟩
 refine wpIn_mono (HK l pre y hN _ _ _ _ _ _ (BN _) Ux ⟨l,rfl,?_,Iz⟩ Ec) λe oL Xx Rd=>?_
 obtain⟨r,hr⟩:=Iz;exact .inr ⟨_,hr,rfl⟩;obtain⟨x2,s2,Fb,rfl,t',hle⟩:=Rd;obtain⟨x3,Ik⟩:=hle _ _ _ _ _ (BN _) Fb;obtain⟨g3,CB⟩:=Au.good.lZ Ik.good;have Fe:Ext x' x3 W Xx:=Ik.good.ext;exact⟨⟨CB.size,λk o _ hk ho=>CB.same k o hk ho⟩,⟨CB.size,λ_ _ h=>h,λb j v h hc=>Fe.ar.cell b j v (CZ.sub b j h) hc⟩,x3,⟨g3,AO.mono Fe _ _ Au.tm,Au.df.mono CB.nc⟩,CZ.trans Fe.ar⟩;rintro D xs W hD hS ⟨x',Au,CZ⟩ Rm;obtain⟨Ds,e1,e2,e3⟩:=Au.df;refine⟨x',⟨s.t,hf xs⟩,⟨Au.good,Au.tm,D::Ds,by simp[e1],List.nodup_cons.2 ⟨λh=>by have:=PA Ds e1 D h;omega,e2⟩,λD' Fs=>?_⟩,hdone xs hS⟩;rcases Cf.1 Fs with rfl|h
 exact⟨hsize hD,Rm⟩;exact e3 D' h
theorem HZ.range {l0 n1:Nat}{s:St}{p d:Tmp}{id:Nat}{caps Lj:List V}(ho:o.op=.assign (.tmp p))(Rs:o.dst=some d)(hgd:o.guard=none)(hg:ev s.t g=.fn gf caps)(hp:V.CF caps=some Lj)(Ff:P.funcs[gf]?=some fn)(Iq:fn.body.isSome=true)(Hy:(fn.name == "runtime.NumGoroutine")=false)(enc:α->Value)(Ij:α->V)(Wb : ∀x' W y,CV x' W (Ij y) (enc y))(Sx:List α->Prop)(N:Nat)(NU:UU P gf Lj (λy=>#[enc y]) Sx N)(hf:List α->List O)(h0:s.h=hf [])(n0:Nat)(hlen : ∀pre,(hf pre).length=n0)(hpl:p<s.t.length)(HK : ∀(lp:Nat) (pre:List α) (y:α),pre.length<N->AW ⟨some lp,n0⟩ P body (λe s'=>e=.normal/\∃t',Le ⟨some lp,n0⟩ s' ⟨t',hf (pre++[y])⟩) ⟨(s.t.set p (Ij y)).set d (Ij y),hf pre⟩)(hdone : ∀xs,Sx xs->K .normal ⟨s.t,hf xs⟩)(Hi : ∀pre,((hf pre).all O.Tn)=true:=by intro _;rfl):HZ ⟨some l0,n1⟩ P (.rangeFunc g #[p] (.region id #[o] false) body) K s:=λn S0 w0 x a w hm KY Av hA=>by
 obtain⟨lp0,e0,hF0,r0,Jh⟩:=Av;cases e0;have hL0:w.heap[l0]?=some (.loop r0):=(hA.good.keep.block l0 (DO.1 Jh).1 λhn=>hn hF0).trans Jh;have FI:=CW hA.tm g;rw[hg]at FI;simp only[CV]at FI;obtain⟨lb,FI,EP⟩:=FI;have hc':=MC _ _ _ hp EP;have hb:fn.body≠none:=by intro e;rw[e]at Iq;cases Iq
 have hn:fn.name≠ "runtime.NumGoroutine":=by simpa using Hy
 have eg : ∀args w,(callFunc gf args).run P w=.ok (.enter gf args) w:=λargs w=>by simp[callFunc,program,Sem.run,Ff,hn,hb]
 have hsize : ∀ {D:Nat},w.heap.size<=D->¬w0.F D:=λh=>hA.good.fresh h
 have PA : ∀Ds:List Nat,a.defers=Ds.map (λD=>{ target:=.collected D,args:=#[] })->∀D∈Ds,D<w.heap.size:=by
  intro Ds e D hD;obtain⟨n9,f1,f2,f3⟩:=hA.df;have hm:({ target:=.collected D,args:=#[] }:Deferred)∈a.defers:=by rw[e];exact Da.2 ⟨D,hD,rfl⟩
  rw[f1]at hm;obtain⟨D',Fs,e'⟩:=Da.1 hm;have:D'=D:=by injection e' with e1 e2;injection e1
  subst this;exact(DO.1 (f3 D' Fs).2).1
 have hs:s=⟨s.t,hf []⟩:=by rw[<-h0]
 refine wpIn_rangeFunc_ownN (F:=Fence.wide.inRound l0) (n:=n) (α:=α) (ps:=#[p]) (encs:=λy=>#[enc y]) (Kp:=F3 x.S) (S:=Sx) (Sp:=λ_=>True) (N:=N) (w0:=w) rfl hL0 Ux FI trivial eg ((NU _ x.S w lb hA.good.ex hc').inRound l0) (λh k=>h.trans k) (λW l o o' _ h hc _=>F3.put W l o o' h hc) (Below.refl _ _) (λ_=>rfl)
  (λpre W=>∃x',Bo S0 w0 x' ⟨s.t,hf pre⟩ a W/\Ar x.S x'.S w W) (λ_ _ _=>False) ?_ (λ_ _ _ _ _ h=>h.elim) ⟨x,by rw[<-hs];exact hA,Ar.refl _ _⟩
  (λy a' _=>a'={ tmps:=((#[p].zip #[enc y]).foldl (λt (p,v)=>t.setIfInBounds p v) a.tmps).setIfInBounds d (((#[p].zip #[enc y]).foldl (λt (p,v)=>t.setIfInBounds p v) a.tmps).getD p undef),defers:=[] }) (λ_ _ _ _ _ _ h _ _=>h) ?_ ?_ ?_ (λ_ _ _ _ h _=>h.elim)
 rintro pre W W' row ⟨x',Au,CZ⟩ hgr hr;obtain⟨g',he⟩:=Au.good.jI (To (Hi pre)) hgr λr e=>⟨hsize (hr r e).1,(hr r e).2⟩
 refine⟨x',⟨g',AO.mono he _ _ Au.tm,?_⟩,CZ.trans he.ar⟩;obtain⟨Ds,e1,e2,e3⟩:=Au.df;refine⟨Ds,e1,e2,λD hD=>⟨(e3 D hD).1,?_⟩⟩;have h2:=(e3 D hD).2;rw[hgr.block D (DO.1 h2).1 (λe=>by have:=(hr D e.symm).1;have:=PA Ds e1 D hD;omega)];exact h2;intro l pre y W K hI hK;exact iP ho Rs hgd (hK _ W (KeepsFrom.refl _ _) (F3.refl _ _) hI rfl);rintro l pre y a' W hl Iz ⟨x',Au,CZ⟩ rfl hN;have Ls : ∀k,x'.dom k->k<n0:=λk hk=>by
  obtain⟨o,ho⟩:=Au.good.dom k hk;have:=(Br.1 ho).1;rw[<-hlen pre];exact this
 have DJ:AO x' W ((s.t.set p (Ij y)).set d (Ij y)) (((#[p].zip #[enc y]).foldl (λt (p,v)=>t.setIfInBounds p v) a.tmps).setIfInBounds d (((#[p].zip #[enc y]).foldl (λt (p,v)=>t.setIfInBounds p v) a.tmps).getD p undef)).toList:=by
  have e1:((#[p].zip #[enc y]).foldl (λ(t:Array Value) (q:Tmp×Value)=>t.setIfInBounds q.1 q.2) a.tmps)=a.tmps.setIfInBounds p (enc y):=ZA;have hl:a.tmps.size=s.t.length:=by have:=Au.tm.len;simpa using this
  have e2:(a.tmps.setIfInBounds p (enc y)).getD p undef=enc y:=by
   rw[Kl,Array.getElem?_setIfInBounds_self_of_lt (by rw[hl];exact hpl)];rfl
  rw[e1,e2];simp only[Array.toList_setIfInBounds];exact(Au.tm.set p (Wb _ _ _)).set d (Wb _ _ _)
 have Ec:Bo x'.S (w0.XQ W Au.good.keep.size x' n0 Ls) x' ⟨(s.t.set p (Ij y)).set d (Ij y),hf pre⟩ { tmps:=((#[p].zip #[enc y]).foldl (λt (p,v)=>t.setIfInBounds p v) a.tmps).setIfInBounds d (((#[p].zip #[enc y]).foldl (λt (p,v)=>t.setIfInBounds p v) a.tmps).getD p undef),defers:=[] } W:=⟨Au.good.lB (To (Hi pre)) n0 Ls,DJ,Marks.nil _ _⟩
 refine wpIn_mono (HK l pre y hN _ _ _ _ _ _ (BN _) Ec) λe oL Xx Rd=>?_
 obtain⟨x2,s2,Fb,rfl,t',hle⟩:=Rd;obtain⟨x3,Ik⟩:=hle _ _ _ _ _ (BN _) Fb;obtain⟨g3,CB⟩:=Au.good.lZ Ik.good;have Fe:Ext x' x3 W Xx:=Ik.good.ext;exact⟨⟨CB.size,λk o _ hk ho=>CB.same k o hk ho⟩,⟨CB.size,λ_ _ h=>h,λb j v h hc=>Fe.ar.cell b j v (CZ.sub b j h) hc⟩,x3,⟨g3,AO.mono Fe _ _ Au.tm,Au.df.mono CB.nc⟩,CZ.trans Fe.ar⟩;rintro xs W hS ⟨x',Au,CZ⟩;exact⟨x',⟨s.t,hf xs⟩,Au,hdone xs hS⟩
end
theorem AOE (p q:Addr)(w:World):CallsD AF 83 #[.pointer (J p),.pointer (J q)] .returning w λe Q w'=>e=.returned (.tuple #[])/\Q=.returning/\w'=w:=by
 refine callsD_of_wpS func83 rfl λB cs hu=>?_
 apply wpS_seq;apply wpS_region;simp[wpOpsS,go_sem,recoverD,hu,ntmps83,uF];refine wpS_of_wp ?_;cases B;go_wp2;simp_all [bodyPostS,results,Abv]
theorem X2:ND AF 56 11:=ND.mk' underlying56 rfl ZC
def DZ:Array Value:=#[.int .i64 0,.string ⟨#[]⟩,.int .i64 0,.int .i64 0,.int .i64 0,.int .i64 0,.int .i64 0,.int .i64 0,.slice E 0 0,.int .i64 0,.slice E 0 0]
theorem AOD (f:FuncId)(caps:Array Value)(w:World)(Z:Array Value->World->Prop)(q : ∀w1,Ay w w1->w1.heap.size=w.heap.size+2->Calls AF f caps w1 λr w2=>∃cs,r=.returned (.agg cs)/\cs.size=11/\Xw cs/\Ay w1 w2/\Z cs w2)(hf : ∃fn,AF.funcs[f]?=J fn/\fn.body≠E/\fn.name≠ "runtime.NumGoroutine") :
 Calls AF 49 #[.func (.func f) #[] caps] w λr w'=>∃cs w2,r=.returned (.tuple #[.agg cs,.int .i64 0])/\Ay w w'/\Z cs w2/\KB (λb=>b=w.heap.size\/b=w.heap.size+1) w2 w':=by
 have A0 : ∀(fn:Fn) (first cap:Array Value) (w:World),(uH fn first cap).run AF w=.ok (.func fn first cap) w:=λ_ _ _ _=>rfl
 obtain⟨fn,Ff,HK,U6⟩:=hf;go_enter_defers Hs,vD
 have hrun : ∀W:World,(callFunc f caps).run AF W=.ok (.enter f caps) W:=λW=>by simp[callFunc,program,HW,Ff,U6,HK]
 go_wp2;refine(q _ (by repeat (with_reducible first|exact Ay.refl _|assumption|apply Ay.alloc|apply Ay.drew|apply Ay.drewN|(refine Ay.setRow ?_ Ux _)|refine Ay.trans ?_ Awa)) ZA).mono ?_;rintro r w2 ⟨cs,rfl,hs,h1,hk,hz⟩;have S:ND AF 56 cs.size:=by rw[hs];exact X2
 have IN:=hk.size;simp only[vl]at IN;have b0:Cb w2 w.heap.size 56 DZ:=hk.blk ((Cb.new _ _ _).alloc _);have b1:Cb w2 (w.heap.size+1) 40 #[.int .i64 0]:=hk.blk (Cb.AS _ _ _ ZA);have c1:(w2.setRow w.heap.size cs).cell? ⟨w.heap.size+1,0,E⟩=J (.int .i64 0):=(Cb.Ja b1 cs (g:=w.heap.size) Ux).cell 0;have d1:=(Cb.Ja b1 cs (g:=w.heap.size) Ux).frozen 0;have B:=Xl b0;have Q:=Xl b1;clear b0 b1;go_wp2_with (((with_reducible refine ll (ty:=56) (w.heap.size) (cs) ?_ ?_ ?_ ?_ ?_ ?_ ?_);(focus rfl);(focus rfl);(focus exact⟨_,_,B.out,Eq.symm (hs)⟩);(focus exact h1);(focus exact S);(focus rfl)))
 have hs1:(w2.setRow w.heap.size cs).setCell ⟨w.heap.size+1,0,E⟩ (.int .i64 0)=(w2.setRow w.heap.size cs).setRow (w.heap.size+1) #[.int .i64 0]:=by
  rw[setCell_eq_setRow _ _ 0 #[.int .i64 0] 40 (0,0) _ (Cb.Ja Q.out cs (g:=w.heap.size) Ux)];rfl
 rw[hs1];have NO:Cb ((w2.setRow w.heap.size cs).setRow (w.heap.size+1) #[.int .i64 0]) w.heap.size 56 cs:=Cb.Ja (B.out.Tz cs) _ Ux;have R:Cb ((w2.setRow w.heap.size cs).setRow (w.heap.size+1) #[.int .i64 0]) (w.heap.size+1) 40 #[.int .i64 0]:=(Cb.Ja Q.out cs (g:=w.heap.size) Ux).Tz _;obtain⟨W,hW⟩:=AI ((w2.setRow w.heap.size cs).setRow (w.heap.size+1) #[.int .i64 0]);have hkb:KB (λb=>b=w.heap.size\/b=w.heap.size+1) w2 W:=by
  rw[<-hW];refine⟨F,F,F,ZA,λk _ hn=>?_⟩;rw[setRow_other _ _ _ _ (λe=>hn (.inr e)),setRow_other _ _ _ _ (λe=>hn (.inl e))]
 rw[hW]at NO R ⊢;refine leaves_cons (f:=83) (args:=#[.pointer (J ⟨w.heap.size,0,E⟩),.pointer (J ⟨w.heap.size+1,0,E⟩)]) ZA (by simp[go_sem]) ?_;refine(AOE ⟨w.heap.size,0,E⟩ ⟨w.heap.size+1,0,E⟩ W).mono ?_;rintro e u' w'' ⟨rfl,rfl,rfl⟩;have Lu:(loadVar 56 ⟨w.heap.size,0,E⟩).run AF w''=.ok (.agg cs) w'':=lI NO.row S;have z:(loadVar 40 ⟨w.heap.size+1,0,E⟩).run AF w''=.ok (.int .i64 0) w'':=by
  have:(isAgg 40).run AF w''=.ok U w'':=ZC;simp[loadVar,this,load,HW,R.cell]
 have U2:Ay w w'':=by
  have:=hkb.after (w:=w) (Ay.trans ((((Ay.refl w).alloc _).alloc _)) hk) (λk EG=>by omega);exact this
 refine⟨.tuple #[.agg cs,.int .i64 0],?_,cs,w2,F,U2,hz,hkb⟩;simp[results,Jz,asAddr,Lu,z]
theorem AOC (g:FuncId)(caps:List V)(l:List V)(C9:AC AF g caps (.agg l))(A5:Fp AF g=I)(hl:G l=11)(h1:l.all V.one=I):AC AF 49 [.fn g caps] (.A7 [.agg l,(0:Int)]):=by
 intro S w us hS B7;simp only[AO,CV]at B7;obtain⟨u,r,rfl,⟨vs,rfl,EP⟩,rfl⟩:=B7;obtain⟨fn,hf,hb,hn⟩:=P7 A5;refine(AOD g vs w (λcs w2=>∃B,(∀b j,S b j->B b j)/\(∀b j,B b j->S b j\/(w.heap.size+2<=b/\b<w2.heap.size))/\CV (Cx.bare B) w2 (.agg l) (.agg cs)) (λw1 FJ A2=>?_) ⟨fn,hf,(by intro e;rw[e]at hb;cases hb),by simpa using hn⟩).mono ?_;have yt:=AO.mono (x':=Cx.bare S) (w':=w1) ⟨⟨λ_ _ h=>h,λb j v _ z=>FJ.cell z⟩,λ_ h=>h.elim,λ_ h=>h.elim⟩ _ _ EP;refine(C9 S w1 vs.toList (λb j h=>H7 (hS b j h) FJ.size) yt).mono ?_;rintro r w2 ⟨u,B,rfl,EG,CZ,Gc,Q⟩;have q:=Q;simp only[CV]at q;obtain⟨cs,rfl,A1⟩:=q;refine⟨cs,F,by have:=A1.len;simpa [hl]using this,λy hy=>?_,EG,B,CZ.sub,λb j h=>(Gc b j h).imp id λh=>⟨Ux,h.2⟩,Q⟩;have Yk:=CV.cells (v:=.agg l) Q (by simpa [V.flat]using h1);exact Yk.2 y (by simpa [ny]using hy);rintro r w' ⟨cs,w2,rfl,hk,⟨B,PU,Gc,Q⟩,A0⟩;have CZ:Ar B B w2 w':=⟨λ_ _ h=>h,λb j v hs z=>A0.cell (by
  rcases Gc b j hs with h|h
  have:=hS b j h;omega;omega) z⟩
 have R:=CV.mono (x:=Cx.bare B) (x':=Cx.bare B) (w':=w') ⟨CZ,λ_ h=>h.elim,λ_ h=>h.elim⟩ _ _ Q;refine⟨_,B,F,hk,⟨PU,λb j v _ z=>hk.cell z⟩,λb j h=>(Gc b j h).imp id λh=>⟨Ux,H7 h.2 A0.size⟩,?_⟩;simp only[CV,AO,Ab]at R ⊢;exact⟨_,F,_,_,F,R,_,_,F,⟨F,by decide +kernel⟩,F⟩
theorem AMH:Xw DZ:=by
 intro y B;simp[DZ]at B;rcases B with rfl|rfl|rfl|rfl|rfl|rfl|rfl|rfl|rfl|rfl|rfl<;>rfl
theorem ALT (n:Int)(w:World):(Instr.typeAssert (.iface 40 (.int .i64 n)) 20 40 I).run AF w=.ok (.tuple #[.int .i64 n,.bool I]) w:=by
 unfold Instr.typeAssert;simp only[Jt,run_underlying underlying40,Oo];rfl
theorem AOG (g0 g1:Nat)(hne:g0≠g1)(n:Int)(cs0:Array Value)(w:World)(b0:Cb w g0 56 cs0)(S:cs0.size=11)(b1:Cb w g1 40 #[.int .i64 0]) :
 CallsD AF 83 #[.pointer (J ⟨g0,0,E⟩),.pointer (J ⟨g1,0,E⟩)] (.panicking [⟨.iface 40 (.int .i64 n),U,U⟩]) w λe z w'=>e=.returned (.tuple #[])/\z=.panicking [⟨.iface 40 (.int .i64 n),I,U⟩]/\w'=(w.setRow g0 DZ).setRow g1 #[.int .i64 n]:=by
 refine callsD_of_wpS func83 rfl λR cs hu=>?_
 apply wpS_seq;apply wpS_region;simp[wpOpsS,go_sem,recoverD,hu,ntmps83,uF];refine wpS_of_wp ?_;have hz:(zeroValue 56).run AF w=.ok (.agg DZ) w:=ZC;have B:=Xl b0;have Q:=Xl b1;have Wr:=ALT n w;have q:ND AF 56 DZ.size:=X2;have c1:(w.setRow g0 DZ).cell? ⟨g1,0,E⟩=J (.int .i64 0):=(Cb.Ja b1 DZ (g:=g0) Ux).cell 0;have d1:=(Cb.Ja b1 DZ (g:=g0) Ux).frozen 0;clear b0 b1;cases R;change Code.wp _ _ _ { tmps:=#[.pointer (J ⟨g0,0,E⟩),.pointer (J ⟨g1,0,E⟩),undef,undef,undef,.iface 40 (.int .i64 n),undef,undef,undef,undef,undef,undef,undef],defers:=[] } w;go_wp2_with (((with_reducible refine ll (ty:=56) (g0) (DZ) ?_ ?_ ?_ ?_ ?_ ?_ ?_);(focus rfl);(focus rfl);(focus exact⟨_,_,B.out,Eq.symm (S.symm)⟩);(focus exact AMH);(focus exact q);(focus rfl)))
 have hs1:(w.setRow g0 DZ).setCell ⟨g1,0,E⟩ (.int .i64 n)=(w.setRow g0 DZ).setRow g1 #[.int .i64 n]:=by
  rw[setCell_eq_setRow _ _ 0 #[.int .i64 0] 40 (0,0) _ (Cb.Ja Q.out DZ (g:=g0) Ux)];rfl
 exact⟨F,_,F,.tuple #[],by simp[results,Abv],rfl,rfl,hs1⟩
theorem AOF (f:FuncId)(caps:Array Value)(w:World)(n:Int)(Q : ∀w1,Ay w w1->w1.heap.size=w.heap.size+2->Calls AF f caps w1 λr w2=>r=.panicked [⟨.iface 40 (.int .i64 n),U,U⟩]/\Ay w1 w2)(hf : ∃fn,AF.funcs[f]?=J fn/\fn.body≠E/\fn.name≠ "runtime.NumGoroutine") :
 Calls AF 49 #[.func (.func f) #[] caps] w λr w'=>r=.returned (.tuple #[.agg DZ,.int .i64 n])/\Ay w w':=by
 have A0 : ∀(fn:Fn) (first cap:Array Value) (w:World),(uH fn first cap).run AF w=.ok (.func fn first cap) w:=λ_ _ _ _=>rfl
 obtain⟨fn,S,HK,U6⟩:=hf;go_enter_defers Hs,vD
 have hrun : ∀W:World,(callFunc f caps).run AF W=.ok (.enter f caps) W:=λW=>by simp[callFunc,program,HW,S,U6,HK]
 go_wp2;refine(Q _ (by repeat (with_reducible first|exact Ay.refl _|assumption|apply Ay.alloc|apply Ay.drew|apply Ay.drewN|(refine Ay.setRow ?_ Ux _)|refine Ay.trans ?_ Awa)) ZA).mono ?_;rintro r w2 ⟨rfl,hk⟩;have IN:=hk.size;simp only[vl]at IN;have b0:Cb w2 w.heap.size 56 DZ:=hk.blk ((Cb.new _ _ _).alloc _);have b1:Cb w2 (w.heap.size+1) 40 #[.int .i64 0]:=hk.blk (Cb.AS _ _ _ ZA);have z:ND AF 56 DZ.size:=X2;have NO:Cb ((w2.setRow w.heap.size DZ).setRow (w.heap.size+1) #[.int .i64 n]) w.heap.size 56 DZ:=Cb.Ja (b0.Tz DZ) _ Ux;have B:Cb ((w2.setRow w.heap.size DZ).setRow (w.heap.size+1) #[.int .i64 n]) (w.heap.size+1) 40 #[.int .i64 n]:=(Cb.Ja b1 DZ (g:=w.heap.size) Ux).Tz _;obtain⟨W,hW⟩:=AI ((w2.setRow w.heap.size DZ).setRow (w.heap.size+1) #[.int .i64 n]);have hkb:KB (λb=>b=w.heap.size\/b=w.heap.size+1) w2 W:=by
  rw[<-hW];refine⟨F,F,F,ZA,λk _ hn=>?_⟩;rw[setRow_other _ _ _ _ (λe=>hn (.inr e)),setRow_other _ _ _ _ (λe=>hn (.inl e))]
 refine leaves_cons (f:=83) (args:=#[.pointer (J ⟨w.heap.size,0,E⟩),.pointer (J ⟨w.heap.size+1,0,E⟩)]) ZA (by simp[go_sem]) ?_;refine(AOG w.heap.size (w.heap.size+1) Ux n DZ w2 b0 rfl b1).mono ?_;rintro e u' w'' ⟨rfl,rfl,rfl⟩;rw[hW]at NO B ⊢;have q:(loadVar 56 ⟨w.heap.size,0,E⟩).run AF W=.ok (.agg DZ) W:=lI NO.row z;have R:(loadVar 40 ⟨w.heap.size+1,0,E⟩).run AF W=.ok (.int .i64 n) W:=by
  have:(isAgg 40).run AF W=.ok U W:=ZC;simp[loadVar,this,load,HW,B.cell]
 have U2:Ay w W:=hkb.after (w:=w) (Ay.trans ((((Ay.refl w).alloc _).alloc _)) hk) (λk EG=>by omega);refine⟨.tuple #[.agg DZ,.int .i64 n],?_,F,U2⟩;simp[results,Jz,asAddr,q,R]
section
variable {P:Program} {S0:BF} {w0:Bs} {x:Cx} {w:World} {H:Bx} {a:Act} {o:Oper} {v:V}
theorem AVB (g:Good S0 w0 x w H){t:TypeId}(R:o.op=.call ⟨.builtin .len,#[y],#[t]⟩)(hs:KJ P t=I){k es:Nat}{AG:List (List C)}(B:CV x w (.Be k es AG) (a.eval y))(Q:G AG+1<=maxLen):BW P o a S0 w0 x w H (.c (.int .i64 ((G AG+1:Nat):Int))) none:=by
 simp only[CV]at B;obtain⟨_,_,_,_,A,cap,B,_⟩:=B;obtain⟨el,S⟩:=AB1 hs;refine BW.pure g (u:=_) (by simp[execOp,R,resolve,invoke,builtin,B,Builtin.len_,run_underlying S,goInt];rfl) ?_;simp only[CV,Ab];exact⟨ZA,Q8 Q⟩
theorem AIx (g:Good S0 w0 x w H){s:TypeId}{f:Nat}(q:o.op=.fieldAddr s y f){off n:Nat}(z:Bp P s f=J (off,n,ag))(S:n≠0){k m pos:Nat}(B:CV x w (.hp k m pos) (a.eval y)){es:Nat}(R:H k=J (.Be ty es m cs)):BW P o a S0 w0 x w H (.hp k m (pos+off)) none:=by
 obtain⟨_,_,_,k3,_⟩:=g.ok k _ R;simp only[CV]at B;obtain⟨d1,d2,d3,A,B,Q⟩:=B;have Q:=Q k3.symm;subst Q;refine BW.pure g (u:=_) (by simp[execOp,q,B,ABf z S];rfl) ?_;simp only[CV];exact⟨d1,d2,d3,_,F,λ_=>rfl⟩
theorem AVD (g:Good S0 w0 x w H){t:TypeId}(ho:o.op=.load t y){q:Bool×Nat}(hq:B6 P t=J q){k n es off:Nat}(Q:CV x w (.hp k n ((n - 1)*es+off)) (a.eval y))(hH:H k=J (.Be ty es n cs))(h:CJ q cs off=J v):BW P o a S0 w0 x w H v none:=by
 obtain⟨hd,z⟩:=g.ok k _ hH;obtain⟨k1,k2,k3,k4,k5,vs,hb,hn,Mf,S⟩:=z;simp only[CV]at Q;obtain⟨_,_,_,A,Q,R⟩:=Q;have R:=R k3.symm;subst R;obtain⟨u,hr,hv⟩:=dY (x:=x) (w:=w) (b:=(x.loc k).b) (o:=(n - 1)*es) hq (λj v hj=>by
  obtain⟨u,B,h2⟩:=S.get j v hj;refine⟨u,?_,h2⟩;rw[cell_of_row w _ _ vs ty (0,0) hb];rw[KO]at B;split at B;rw[List.getElem?_drop]at B;simpa using B;cases B) h
 refine BW.pure g (u:=u) ?_ hv;simp[execOp,ho,Instr.loadAt,Q,Ol,hr]
theorem AVQ (g:Good S0 w0 x w H){e:Operand->V}{t:TypeId}{y z:Operand}(ho:o.op=.store t y z)(hq:B6 P t=J (ag,1)){k n pos es:Nat}(hy:CV x w (.hp k n pos) (a.eval y))(hz:CV x w (e z) (a.eval z)){c:V}(hH:H k=J (.Be ty es n (c::cs)))(h1:(e z).flat=I)(h2:(e z).cells=[e z])(h4:pos=(n - 1)*es):BW P o a S0 w0 x w H .any (J (k,.Be ty es n (e z::cs))):=by
 obtain⟨R,A5⟩:=g.ok k _ hH;obtain⟨k1,k2,k3,k4,k5,vs,hb,hn,Mf,A0⟩:=A5;simp only[CV]at hy;obtain⟨_,_,_,A,hy,hA⟩:=hy;have hA:=hA k3.symm;subst hA;obtain⟨c1,c2⟩:=hz.cells h1;rw[h2]at c1;obtain⟨_,hs,_⟩:=T3 (w:=w) (P:=P) (ag:=ag) (n:=1) hq;have OL:(a.eval z).cells.size=1:=by have:=c1.len;simpa using this
 simp only[BA]at k5;have A2:n*es=(n - 1)*es+es:=by
  obtain⟨m,rfl⟩:∃m,n=m+1:=⟨n - 1,Ux⟩
  rw[Gz,Nat.add_sub_cancel];omega
 have Dz:pos+es<=vs.size:=Ux;have hr:=run_storeCells_at (P:=P) (t:=ty) (off:=pos) (a.eval z).cells.toList 0 w vs hb (by simp;omega) c2;have q:=cC (a.eval z).cells.toList 0 pos vs (by simp;omega);generalize dM:((a.eval z).cells.toList.zipIdx 0).foldl (λ(c:Array Value) (p:Value×Nat)=>c.setIfInBounds (pos+p.2) p.1) vs=B at hr q;simp only[Nat.add_zero,FW,OL]at q;have Q:B.size=vs.size:=by
  have:=congrArg List.length q;simp only[FW,Cp,Fa,List.length_drop,OL]at this;omega
 have FF:(w.setRow (x.loc k).b B).heap[(x.loc k).b]?=J (.cells B ty (0,0)):=setRow_heap w _ vs B ty (0,0) hb;have ar:Ar x.S x.S w (w.setRow (x.loc k).b B):=by
  refine⟨λ_ _ h=>h,λb j v hS hc=>?_⟩;by_cases Ga:b=(x.loc k).b;subst Ga;rw[cell_of_row w _ j vs ty (0,0) hb]at hc;rw[cell_of_row _ _ j _ ty (0,0) FF];have hj:j<vs.size:=(DO.1 hc).1;have GN:j<(n - 1)*es:=by
   rcases MK j ((n - 1)*es)with h|h
   exact h;exact absurd hS (g.EA k _ j hH ⟨h,Ux⟩)
  have:B.toList[j]?=vs.toList[j]?:=by
   rw[q,GX,EJ (by simp;omega),KO,Awd Ux]
  have h2:B[j]?=vs[j]?:=by simpa using this
  rw[h2];exact hc;rw[RK (w:=w) (a:=⟨b,j,E⟩) (setRow_other w _ b _ Ga)];exact hc
 have he:Ext x x w (w.setRow (x.loc k).b B):=⟨ar,λ_ h=>h,λ_ _=>FM.refl _⟩
 have Gc:AO x w (e z::cs) ((B.toList.drop ((n - 1)*es)).take es):=by
  have e1:G (vs.toList.take pos)=(n - 1)*es:=by simp;omega
  rw[q,GX,List.drop_left' e1];obtain⟨m,rfl⟩:∃m,es=m+1:=⟨es - 1,Ux⟩
  obtain⟨u,hu⟩:∃u,(a.eval z).cells.toList=[u]:=List.length_eq_one_iff.1 (by simpa using OL);rw[hu]at c1 ⊢;simp only[AO]at c1 A0 ⊢;obtain⟨u',A3,e2,h3,_⟩:=c1;obtain⟨u2,A1,e3,_,h5⟩:=A0;refine⟨u,_,by rw[BK,DP,BU],by cases e2;exact h3,?_⟩;have e4:A1=(vs.toList.drop (pos+1)).take m:=by
   have:(vs.toList.drop ((n - 1)*(m+1))).take (m+1)=u2::A1:=e3;cases R:vs.toList.drop ((n - 1)*(m+1))with
   | nil=>rw[R]at this;simp at this
   | cons v r=>rw[R,DP]at this;rw[h4,<-List.tail_drop,R];exact(List.cons.inj this).2.symm
  rw[<-e4];exact h5
 have g':=g.H5 k (.Be ty es n (e z::cs)) he ⟨rfl,rfl,rfl,ZA,λi _ hn=>setRow_other w _ i _ (λe=>hn ⟨R,k2,e.symm⟩)⟩ (λi=>⟨.inl,λh=>h.elim id (λe=>e ▸ R)⟩) (λ_ _=>rfl) (λ_=>.inl ⟨R,k2,rfl⟩)
  ⟨k1,k2,k3,k4,by simpa using k5,B,FF,by rw[Q,hn],by rw[Q];exact Mf,AO.mono he _ _ Gc⟩ (λb j h=>.inl h) (λj hx=>g.EA k _ j hH hx)
 refine⟨.skip,_,x,undef,?_,.inr ⟨F,F⟩,by simp only[CV],g',he,λ_ h=>.inl h,λ_=>rfl⟩;simp[execOp,ho,mM,hy,Ol,storeVar,hs,OL,hr]
end
def O.off (t:TypeId):O->Bool
 | .box ty _ _=>decide (ty≠t)
 | .tok ty _ _=>decide (ty≠t)
 | .Be ty _ _ _=>decide (ty≠t)
 | .mp _=>I
section
variable {P:Program} {S0:BF} {w0:Bs} {x:Cx} {w:World} {H:Bx}
theorem Good.data (g:Good S0 w0 x w H){B:Nat}{vs:Array Value}(hb:w.heap[B]?=J (.cells vs ty (0,0)))(hF : ¬w0.F B)(Y5 : ∀k o,H k=J o->o.off ty=I):
 Good S0 w0 { x with S:=λb j=>x.S b j\/b=B } w H/\Ext x { x with S:=λb j=>x.S b j\/b=B } w w:=by
 have he:Ext x { x with S:=λb j=>x.S b j\/b=B } w w:=⟨⟨λ_ _ h=>.inl h,λ_ _ _ _ h=>h⟩,λ_ h=>h,λ_ _=>FM.refl _⟩
 refine⟨⟨λk o h=>⟨(g.ok k o h).1,(g.ok k o h).2.mono he rfl λ_=>rfl⟩,g.dom,g.inj,λk o j h hx Q=>?_,λb j Q=>Q.elim (g.ex b j) λe=>e ▸ (DO.1 hb).1,g.own,λb j Q=>Q.elim (g.new b j) λe=>.inr (e ▸ hF),λb j h=>.inl (g.sub b j h),g.keep,g.ext.trans he⟩,he⟩;rcases Q with Q|Q
 cases o<;>exact g.EA k _ j h hx Q;have ht:=Y5 k o h;have z:=(g.ok k o h).2;replace Q:(x.loc k).b=B:=Q;cases o with
 | box GV cs fr=>obtain⟨_,_,Bz,q,_⟩:=z;rw[Q,hb]at q;cases q;simp[O.off]at ht
 | tok GV es A0=>obtain⟨_,_,h3⟩:=z;obtain⟨Bz,q,_⟩:=h3 hx.1;rw[Q,hb]at q;cases q;simp[O.off]at ht
 | Be GV es A0 cs=>obtain⟨_,_,_,_,_,Bz,q,_⟩:=z;rw[Q,hb]at q;cases q;simp[O.off]at ht
 | mp R=>exact hx.elim
theorem AUq {h:List O}(B:(h.all (O.off ty))=I)(k:Nat)(o:O)(e:h[k]?=J o):o.off ty=true:=ES.1 B _ (Cj e)
theorem ANf {lp n:Nat}{R S:Oper}{p d:Tmp}(qC:R.op=.alloc ty)(xj:R.dst=J d)(xk:R.guard=E)(qD:S.op=.store ty (.tmp d) (.tmp p))(xl:S.dst=E)(xm:S.guard=E){id:Nat}{t:Array Value}{K:Act->World->Prop}{cs:Array Value}(hp:t[p]?=J (.agg cs))(kC:p≠d)(Ls:d<t.size){z:List V}(hz:C2 P ty=J z)(A1:G z=cs.size)(h1 : ∀v∈cs.toList,v.oneCell'=I)(hq:B6 P ty=J (ag,cs.size))(h : ∀q,Ay W q->q.heap[W.heap.size]?=J (.cells cs ty (0,0))->K { tmps:=t.setIfInBounds d (.pointer (J ⟨W.heap.size,0,E⟩)),defers:=[] } q):
 (Code.region id #[R,S] U).wpIn (Cg.inRound lp) n P (Exit.then K (λ_ _ _=>False)) { tmps:=t,defers:=[] } W:=by
 refine wpIn_region_lit (l:=[R,S]) ?_;unfold wpListIn;rw[Awd (by simp[FB,xk])];refine dm (λc e=>by rw[qC]at e;cases e) ?_;obtain⟨zv,z1,z2,_⟩:=Z2 (x:=Cx.bare λ_ _=>False) (w:=W) hz;have B:zv.cells.size=cs.size:=by have:=z2.len;simp only[FW]at this;omega
 have e1:(execOp (JT { tmps:=t,defers:=[] }) R).run P W=.ok (.value (.pointer (J ⟨W.heap.size,0,E⟩))) (W.alloc (.cells zv.cells ty)):=by simp[execOp,qC,Instr.alloc,z1,newVar,newRow]
 clear z1 z2;generalize Ww:zv.cells=Q at B e1;unfold Er;rw[e1];simp only[xj,Act.put,Nt];unfold wpListIn;rw[Awd (by simp[FB,xm])];refine dm (λc e=>by rw[qD]at e;cases e) ?_;have hb:(W.alloc (.cells Q ty)).heap[W.heap.size]?=J (.cells Q ty (0,0)):=heap_alloc_new W _;have hr:=run_storeCells_at (P:=P) (t:=ty) (off:=0) cs.toList 0 _ Q hb (by simp[B]) h1;have FH:=cC cs.toList 0 0 Q (by simp[B]);obtain⟨_,hs,_⟩:=T3 (w:=W.alloc (.cells Q ty)) (P:=P) (ag:=ag) (n:=cs.size) hq;generalize Ml:(cs.toList.zipIdx 0).foldl (λ(c:Array Value) (p:Value×Nat)=>c.setIfInBounds (0+p.2) p.1) Q=vs at hr FH;have A0:vs=cs:=by
  apply Gx.1;rw[FH];simp[B]
 subst A0;have PH:(t.setIfInBounds d (.pointer (J ⟨W.heap.size,0,E⟩)))[d]?=J (.pointer (J ⟨W.heap.size,0,E⟩)):=Xi Ls;have G8:(t.setIfInBounds d (.pointer (J ⟨W.heap.size,0,E⟩)))[p]?=J (.agg vs):=by rw[Array.getElem?_setIfInBounds_ne (λe=>kC e.symm)];exact hp
 have e2:(execOp (JT { tmps:=t.setIfInBounds d (.pointer (J ⟨W.heap.size,0,E⟩)),defers:=[] }) S).run P (W.alloc (.cells Q ty))=.ok .skip ((W.alloc (.cells Q ty)).setRow W.heap.size vs):=by
  simp[execOp,qD,mM,JT,PH,G8,Ol,storeVar,hs,ny,hr]
 unfold Er;rw[e2];simp only[xl,Nt,wpListIn,Exit.then];exact h _ (((Ay.refl W).alloc _).setRow (BN _) _) (setRow_heap _ _ _ _ _ _ hb)
theorem Aaz {P:Program}{n:Nat}{ps:Array Tmp}{assign body:Code}{Q:Exit->Act->World->Prop}{a:Act}{w:World}(h1:1<=n){gf:Nat}{lb:Array Value}(hg:a.eval g=.func (.func gf) #[] lb)(eg : ∀args w,(callFunc gf args).run P w=.ok (.enter gf args) w){encs:List α->α->Array Value}{S:BF}{Sx:List α->Prop}{N:Nat}(NU:vy (n - 1) P gf lb encs (F3 S) Sx N w)(Ru : ∀pre x,(encs pre x).size=ps.size)(I:List α->World->Prop)(hI:OwnFrom w.heap.size I)(h0:I [] w)(Ax:List α->α->Act->World->Prop)(xp : ∀pre x a',OwnFrom w.heap.size (λ(_:Unit) W=>Ax pre x a' W))(ym : ∀(l:Nat) (pre:List α) (x:α) (W:World) (K:Act->World->Prop),I pre W->(∀a' W',KeepsFrom w.heap.size W W'->F3 S W W'->I pre W'->Ax pre x a' W'->K a' W')->
   assign.wpIn (Cg.inRound l) (n - 1 - 1) P (Exit.then K (λ_ _ _=>False)) { tmps:=(ps.zip (encs pre x)).foldl (λt (p,v)=>t.setIfInBounds p v) a.tmps,defers:=[] } W)(HK : ∀(l:Nat) (pre:List α) (x:α) (a':Act) (W:World),I pre W->Ax pre x a' W->G pre<N->body.wpIn (Cg.inRound l) (n - 1 - 1) P (λe _ W'=>e=.normal/\KeepsFrom w.heap.size W W'/\F3 S W W'/\I (pre++[x]) W') a' W)(hdone : ∀(D:Nat) (xs:List α) (W:World),w.heap.size<=D->Sx xs->I xs W->W.heap[D]?=J (.deferred (J []))->Q .normal { a with defers:={ target:=.collected D,args:=#[] }::a.defers } W):
 (Code.rangeFunc g ps assign body).wpIn Cg n P Q a w:=by
 refine wpIn_rangeFunc λfn Ff=>?_
 rw[show Cg.round=E from rfl];obtain⟨rec,q⟩:∃rec:LoopState->Loop,rec=λst=>{ state:=st,pending:=E,fn,tmps:=a.tmps,params:=ps,assign,body,defers:=w.heap.size }:=⟨_,rfl⟩
 obtain⟨L,hL⟩:=AI (w.heap.size+1);obtain⟨R,z⟩:=AI ((w.alloc (.deferred (J []))).alloc (.loop (rec .ready)));have PH:R.heap[w.heap.size]?=J (.deferred (J [])):=by
  rw[<-z];exact(Below.heap_alloc _ _ _ ZA).trans (An6 w _)
 have FO:R.heap[L]?=J (.loop (rec .ready)):=by
  rw[<-z,<-hL];have:=An6 (w.alloc (.deferred (J []))) (.loop (rec .ready));rwa [vl]at this
 have yB:I [] R:=by rw[<-z];exact hI.alloc _ (hI.alloc _ h0)
 have EK:R.heap.size=w.heap.size+2:=by rw[<-z];simp
 refine⟨L,[{ target:=.collected w.heap.size,args:=#[] }],R,{ target:=.fn (.func gf) lb,args:=#[.func (.yield L) #[] #[]] },R,gf,#[.func (.yield L) #[] #[]]++lb,R,?_,?_,λf' jl=>trivial,?_,λ_=>h1,?_⟩;rw[<-z,q,<-hL];exact run_enterLoop_outer _ _ _ _ _
 . simp only[resolve,hg];simp[go_sem]
 . simp[invoke,go_sem,eg]
 have G5:Below w.heap.size w R:=by
  rw[<-z];exact(((Below.refl _ w).alloc (BN _) _).alloc ZA _)
 have hcell : ∀ {A B:World} {row:Option Nat} (hr : ∀r,row=J r->R.heap.size<=r/\∃o:Obj,A.heap[r]?=J o/\o.isWalk=true),∀r,row=J r->w.heap.size<=r/\∃o:Obj,A.heap[r]?=J o/\o.isCells=false:=λhr r e=>by
  obtain⟨h1,o,h2,h3⟩:=hr r e;exact⟨Ux,o,h2,Obj.not_cells_of_walk h3⟩
 refine(NU L (λpre W=>I pre W/\W.heap[L]?=J (.loop (rec .ready))/\W.heap[w.heap.size]?=J (.deferred (J []))) (λ_ _=>False) R G5 (λs A B row hs Ei hr=>⟨hI s A B row hs.1 Ei (hcell (B:=B) hr),(grownBy_keeps Ei (λr e=>(hr r e).2) hs.2.1 F).trans hs.2.1,(grownBy_keeps Ei (λr e=>(hr r e).2) hs.2.2 F).trans hs.2.2⟩) (λ_ _ _ _ hs _ _=>hs) ?_ ⟨yB,FO,PH⟩).mono ?_;rintro pre x W ⟨hi,hl,hd⟩ hN;have hy:=run_yield (P:=P) (args:=encs pre x) hl (by rw[q];exact Ru pre x);rw[q]at hy;refine⟨fn,_,assign,body,hy,roundIn_of_wpIn Ff (ym _ pre x W _ hi λa' W2 EG HN J9 Wt=>?_)⟩;have EX:=EG.same _ _ Ux hl F;have QL:=EG.same _ _ (BN _) hd F;have hlt:=(DO.1 EX).1;refine⟨_,run_beginRound EX (by rw[q]),?_⟩;obtain⟨rb,U8⟩:=AI (({ rec .ready with state:=.busy }:Loop));rw[U8];have ql:(W2.putObj L (.loop rb)).heap[L]?=J (.loop rb):=iD hlt;have cZ:(W2.putObj L (.loop rb)).heap[w.heap.size]?=J (.deferred (J [])):=(Pz Ux).trans QL;refine wpIn_mono (HK _ pre x a' _ (hI.putObj _ J9 Ux EX F) ((xp pre x a').putObj (s:=()) _ Wt Ux EX F) hN) ?_;rintro e a3 W3 ⟨rfl,QN,Yx,jr⟩;have PJ:=QN.same _ _ Ux ql F;have A0:=QN.same _ _ (BN _) cZ F;have hr:=run_endRound (P:=P) E PJ;have e1:({ rb with state:=if (E:Option Code).isNone then .ready else .done,pending:=E }:Loop)=rec .ready:=by rw[<-U8,q];rfl
 rw[e1]at hr;exact⟨_,_,hr,.inl ⟨F,⟨hI.putObj _ jr Ux PJ F,iD (DO.1 PJ).1,(Pz Ux).trans A0⟩,HN.trans ((F3.put _ _ _ _ EX F).trans (Yx.trans (F3.put _ _ _ _ PJ F)))⟩⟩;rintro e W2 ⟨⟨v,rfl⟩,⟨xs,hS,hi,hl,hd⟩|⟨_,_,h⟩⟩;exact⟨E,_,by have:=run_endLoop (P:=P) hl (by rw[q];simp);rw[q]at this;exact this,hdone _ xs _ (BN _) hS (hI.putObj _ hi Ux hl F) ((Pz Ux).trans hd)⟩;exact h.elim
theorem AW.AXb {n1:Nat}{s:St}{p d:Tmp}{id:Nat}{o1 o2:Oper}{caps Lj:List V}(qC:o1.op=.alloc ty)(xj:o1.dst=J d)(xk:o1.guard=E)(qD:o2.op=.store ty (.tmp d) (.tmp p))(xl:o2.dst=E)(xm:o2.guard=E)(hg:ev s.t g=.fn gf caps)(hp:V.CF caps=J Lj)(Ff:P.funcs[gf]?=J fn)(Iq:fn.body.isSome=I)(Hy:(fn.name == "runtime.NumGoroutine")=U)(Q:List α->α->List Value)(row:List α->α->List C)(N:Nat)(Bn : ∀pre y S W,G pre<N->B4 S W (row pre y) (Q pre y))(B0 : ∀pre y,∀v∈Q pre y,v.oneCell'=I){z:List V}(hz:C2 P ty=J z)(B7 : ∀pre y,G z=G (Q pre y))(hq:B6 P ty=J (ag,G z))(Sx:List α->Prop)(NU:MS P gf Lj (λpre y=>#[.agg (Q pre y).toArray]) Sx N)(hf:List α->List O)(h0:s.h=hf [])(n0:Nat)(A7 : ∀pre,G (hf pre)=n0)(B3:p<G s.t)(Ls:d<G s.t)(kC:p≠d)(HK : ∀(lp:Nat) (pre:List α) (y:α),G pre<N->AW ⟨J lp,n0⟩ P body (λe s'=>e=.normal/\∃t',Le ⟨J lp,n0⟩ s' ⟨t',hf (pre++[y])⟩) ⟨(s.t.set p (.agg ((row pre y).map V.c))).set d (.cp (row pre y) 0),hf pre⟩)(A3 : ∀xs,Sx xs->K .normal ⟨s.t,hf xs⟩)(Hi : ∀pre,((hf pre).all O.Tn)=I)(A9 : ∀pre,((hf pre).all (O.off ty))=I):AW ⟨E,n1⟩ P (.rangeFunc g #[p] (.region id #[o1,o2] U) body) K s:=λn S0 w0 x a w hm hA=>by
 have FI:=CW hA.tm g;rw[hg]at FI;simp only[CV]at FI;obtain⟨lb,FI,EP⟩:=FI;have B1:=MC _ _ _ hp EP;have hb:fn.body≠none:=by intro e;rw[e]at Iq;cases Iq
 have hn:fn.name≠ "runtime.NumGoroutine":=by simpa using Hy
 have eg : ∀args w,(callFunc gf args).run P w=.ok (.enter gf args) w:=λargs w=>by simp[callFunc,program,HW,Ff,hn,hb]
 have A0 : ∀ {D:Nat},w.heap.size<=D->¬w0.F D:=λh=>hA.good.fresh h
 have PA : ∀Ds:List Nat,a.defers=Ds.map (λD=>{ target:=.collected D,args:=#[] })->∀D∈Ds,D<w.heap.size:=by
  intro Ds e D hD;obtain⟨n9,f1,f2,f3⟩:=hA.df;have hm:({ target:=.collected D,args:=#[] }:Deferred)∈a.defers:=by rw[e];exact Da.2 ⟨D,hD,rfl⟩
  rw[f1]at hm;obtain⟨D',Fs,e'⟩:=Da.1 hm;have:D'=D:=by injection e' with e1 e2;injection e1
  subst this;exact(DO.1 (f3 D' Fs).2).1
 have hs:s=⟨s.t,hf []⟩:=by rw[<-h0]
 have FE:a.tmps.size=G s.t:=by have:=hA.tm.len;simpa using this
 have A6:OwnFrom w.heap.size (λ(pre:List α) (W:World)=>w.heap.size<=W.heap.size/\∃R,Bo S0 w0 R ⟨s.t,hf pre⟩ a W/\Ar x.S R.S w W):=by
  rintro pre W W' row ⟨A5,R,Au,CZ⟩ A1 hr;obtain⟨g',he⟩:=Au.good.jI (To (Hi pre)) A1 λr e=>⟨A0 (hr r e).1,(hr r e).2⟩
  refine⟨Ps A5 A1.size,R,⟨g',AO.mono he _ _ Au.tm,?_⟩,CZ.trans he.ar⟩;obtain⟨Ds,e1,e2,e3⟩:=Au.df;refine⟨Ds,e1,e2,λD hD=>⟨(e3 D hD).1,?_⟩⟩;have h2:=(e3 D hD).2;rw[A1.block D (DO.1 h2).1 (λe=>by have:=(hr D e.symm).1;have:=PA Ds e1 D hD;omega)];exact h2
 refine wpIn_wide.2 ((wpIn_wide (n:=2)).1 (Aaz (n:=2) (α:=α) (ps:=#[p]) (encs:=λpre y=>#[.agg (Q pre y).toArray]) (S:=x.S) (Sx:=Sx) (N:=N) Ux FI eg (NU _ x.S w lb hA.good.ex B1) (λ_ _=>rfl)
  (λpre W=>w.heap.size<=W.heap.size/\∃R,Bo S0 w0 R ⟨s.t,hf pre⟩ a W/\Ar x.S R.S w W) A6 ⟨BN _,x,by rw[<-hs];exact hA,Ar.refl _ _⟩
  (λpre y a' W=>∃B,w.heap.size<=B/\a'={ tmps:=(a.tmps.setIfInBounds p (.agg (Q pre y).toArray)).setIfInBounds d (.pointer (J ⟨B,0,E⟩)),defers:=[] }/\W.heap[B]?=J (.cells (Q pre y).toArray ty (0,0))) ?_ ?_ ?_ ?_))
 rintro pre y a' _ W W' r ⟨B,h1,h2,h3⟩ A1 hr;refine⟨B,h1,h2,(A1.block B (DO.1 h3).1 λe=>?_).trans h3⟩;obtain⟨_,o,h4,h5⟩:=hr B e.symm;rw[h3]at h4;cases h4;cases h5;intro l pre y W K hI hK;have e1:((#[p].zip #[Value.agg (Q pre y).toArray]).foldl (λ(t:Array Value) (q:Tmp×Value)=>t.setIfInBounds q.1 q.2) a.tmps)=a.tmps.setIfInBounds p (.agg (Q pre y).toArray):=ZA;rw[show ((#[p].zip #[Value.agg (Q pre y).toArray]).foldl (λt (p,v)=>t.setIfInBounds p v) a.tmps)=a.tmps.setIfInBounds p (.agg (Q pre y).toArray)from e1];have A8:=B7 pre y;refine ANf (ag:=ag) qC xj xk qD xl xm (Xi (by rw[FE];exact B3)) kC (by simpa [FE]using Ls) hz (by simpa using A8) (by simpa using B0 pre y) (by simpa [A8]using hq) λW' hk hB=>?_
 refine hK _ W' ⟨hk.size,λk o _ h _=>(hk.block k (DO.1 h).1).trans h⟩ ⟨hk.size,λ_ _ h=>h,λb j v _ hc=>hk.cell hc⟩ (A6 pre W W' E hI ⟨hk.os,hk.tape,hk.output,hk.size,λk Hh _=>hk.block k Hh⟩ (λr e=>by cases e)) ⟨_,hI.1,rfl,hB⟩;rintro l pre y a' W ⟨A5,R,Au,CZ⟩ ⟨B,Il,rfl,O9⟩ hN;obtain⟨gd,ca⟩:=Au.good.data O9 (A0 Il) λk o h=>AUq (A9 pre) k o h
 have I1 : ∀k,R.dom k->k<n0:=λk hk=>by
  obtain⟨o,ho⟩:=Au.good.dom k hk;have:=(Br.1 ho).1;rw[<-A7 pre];exact this
 have A2:B5 (λb j=>R.S b j\/b=B) W (row pre y) B 0:=B5.Pe (Bn pre y _ _ hN) (λj u hu=>by
  rw[cell_of_row W B _ _ ty (0,0) O9];simpa using hu) λj _=>.inr rfl
 have DJ:AO { R with S:=λb j=>R.S b j\/b=B } W ((s.t.set p (.agg ((row pre y).map V.c))).set d (.cp (row pre y) 0)) ((a.tmps.setIfInBounds p (.agg (Q pre y).toArray)).setIfInBounds d (.pointer (J ⟨B,0,E⟩))).toList:=by
  simp only[Array.toList_setIfInBounds];refine((AO.mono ca _ _ Au.tm).set p ?_).set d ?_;simp only[CV];exact⟨_,F,AO.OS (Bn pre y _ _ hN)⟩;simp only[CV];exact⟨B,0,F,A2⟩
 refine wpIn_mono (HK l pre y hN _ _ (w0.XQ W Au.good.keep.size { R with S:=λb j=>R.S b j\/b=B } n0 I1) _ _ _ (BN _) ⟨gd.lB (To (Hi pre)) n0 I1,DJ,Marks.nil _ _⟩) λe oL Xx Rd=>?_
 obtain⟨x2,s2,Fb,rfl,t',B2⟩:=Rd;obtain⟨x3,Ik⟩:=B2 _ _ _ _ _ (BN _) Fb;obtain⟨g3,CB⟩:=gd.lZ Ik.good;have Fe:=ca.trans Ik.good.ext;exact⟨F,⟨CB.size,λk o _ hk ho=>CB.same k o hk ho⟩,⟨CB.size,λ_ _ h=>h,λb j v h hc=>Fe.ar.cell b j v (CZ.sub b j h) hc⟩,Ps A5 CB.size,x3,⟨g3,AO.mono Fe _ _ Au.tm,Au.df.mono CB.nc⟩,CZ.trans Fe.ar⟩;rintro D xs W hD hS ⟨_,R,Au,CZ⟩ Rm;obtain⟨Ds,e1,e2,e3⟩:=Au.df;refine⟨R,⟨s.t,hf xs⟩,⟨Au.good,Au.tm,D::Ds,by simp[e1],List.nodup_cons.2 ⟨λh=>by have:=PA Ds e1 D h;omega,e2⟩,λD' Fs=>?_⟩,A3 xs hS⟩;rcases Cf.1 Fs with rfl|h
 exact⟨A0 hD,Rm⟩;exact e3 D' h
theorem AW.lC {m:Mo}{ops:List Oper}{id:Nat}{s:St}(hd:Pb ops=I)(h:SW P ops (λe s=>e=.normal/\K .normal s) ops s):AW m P (.region id ops.toArray U) K s:=λn S0 w0 x a w hm z=>by
 obtain⟨rd,n0⟩:=m;have Q:=h S0 w0 x a w z;have B : ∀e a w,(∃x s,Bo S0 w0 x s a w/\e=.normal/\K .normal s)->∃x s,Bo S0 w0 x s a w/\K e s:=λe a w ⟨x,s,R,S,q⟩=>⟨x,s,R,S ▸ q⟩
 have hl : ¬LetsOut (λe a w=>∃x s,Bo S0 w0 x s a w/\e=Exit.normal/\K .normal s):=λ⟨_,_,_,_,_,h,_⟩=>nomatch h
 cases rd with
 | none=>exact wpIn_mono (wpIn_wide.2 (wp_region_lit Q)) B
 | some l=>exact wpIn_mono (wpIn_region_lit (AUJ hl ops a w hd Q)) B
end
theorem Anc (i l N:Int)(c:Bool)(q : ¬N=0)(R : ¬i<0)(S : ¬N<=i)(hw:AZ.wrap (l+1)=l+1)(hs:AC AF 19 [.agg [l,.c (.bool c)]] (.c (.bool I)))(z:AC AF 271 [(5:Int)] N)(A0:AC AF 272 [l] (if l<=1 then 2 else 3:Int)) :
 AC AF 223 [(5:Int),i,.agg [l,.c (.bool c)]] (.A7 [.agg [.c (.int .i64 (GB 5 i ⟨l,c⟩).By),.c (.bool (GB 5 i ⟨l,c⟩).Hd)],(0:Int)]):=by
 have e:(GB 5 i ⟨l,c⟩)=⟨if l+1<=3 then l+1 else 3,c || decide (i=1)⟩:=F;rw[e];by_cases h3:l+1<=3;rw[Awd h3];have Q : ¬3<l+1:=Ux;have B : ¬3<=l:=Ux;refine en UO Vm ?_;cases c with
 | true=>exact wz (cj6 @q @R @S @hw @Q @B G0) (cj2 hs z W)
 | false=>exact wz (cj6 @q @R @S @hw @Q @B G0) (cj2 hs z W)
 rw[Awf h3];have Q:3<l+1:=Ux;have B:3<=l:=Ux;refine en UO Vm ?_;cases c with
 | true=>exact wz (cj6 @q @R @S @hw @Q @B G0) (cj2 hs z W)
 | false=>exact wz (cj6 @q @R @S @hw @Q @B G0) (cj2 hs z W)
theorem Ane (i l N:Int)(c:Bool)(S : ¬N=0)(Q : ¬i<0)(R : ¬N<=i)(hw:AZ.wrap (l+1)=l+1)(hs:AC AF 19 [.agg [l,.c (.bool c)]] (.c (.bool I)))(q:AC AF 271 [(6:Int)] N)(z:AC AF 272 [l] (if l<=1 then 2 else 3:Int)) :
 AC AF 223 [(6:Int),i,.agg [l,.c (.bool c)]] (.A7 [.agg [.c (.int .i64 (GB 6 i ⟨l,c⟩).By),.c (.bool (GB 6 i ⟨l,c⟩).Hd)],(0:Int)]):=by
 by_cases B:i=0;subst B;have e:(GB 6 0 ⟨l,c⟩)=⟨3,c⟩:=F;rw[e];refine en UO Vm ?_;exact wz (cj3 @S @Q @R G0) (cj2 hs q W);have e:(GB 6 i ⟨l,c⟩)=⟨l,I⟩:=by simp[GB,B]
 rw[e];refine en UO Vm ?_;exact wz (cj4 @S @Q @R @B G0) (cj2 hs q W)
theorem Anf (i l N:Int)(c:Bool)(S : ¬N=0)(Q : ¬i<0)(R : ¬N<=i)(hw:AZ.wrap (l+1)=l+1)(hs:AC AF 19 [.agg [l,.c (.bool c)]] (.c (.bool I)))(q:AC AF 271 [(7:Int)] N)(B:AC AF 272 [l] (if l<=1 then 2 else 3:Int)) :
 AC AF 223 [(7:Int),i,.agg [l,.c (.bool c)]] (.A7 [.agg [.c (.int .i64 (GB 7 i ⟨l,c⟩).By),.c (.bool (GB 7 i ⟨l,c⟩).Hd)],(0:Int)]):=by
 by_cases hi:i=0;subst hi;have e:(GB 7 0 ⟨l,c⟩)=⟨l,c⟩:=by simp[GB]
 rw[e];refine en UO Vm ?_;exact wz (cj3 @S @Q @R G0) (cj2 hs q W);by_cases z:i=1;subst z;have e:(GB 7 1 ⟨l,c⟩)=⟨if l<=1 then 2 else 3,c || true⟩:=by simp[GB,VU]
 rw[e];obtain⟨L,hL⟩:∃L:Int,(if l<=1 then 2 else 3)=L:=⟨_,rfl⟩
 rw[hL]at B ⊢;refine en UO Vm ?_;cases c with
 | true=>exact wz (cj3 @S @Q @R G0) (cj3 hs q B W)
 | false=>exact wz (cj3 @S @Q @R G0) (cj3 hs q B W)
 have e:(GB 7 i ⟨l,c⟩)=⟨if l<=1 then 2 else 3,c || false⟩:=by simp[GB,VU,hi,z]
 rw[e];obtain⟨L,hL⟩:∃L:Int,(if l<=1 then 2 else 3)=L:=⟨_,rfl⟩
 rw[hL]at B ⊢;refine en UO Vm ?_;cases c with
 | true=>exact wz (cj5 @S @Q @R @hi @z G0) (cj3 hs q B W)
 | false=>exact wz (cj5 @S @Q @R @hi @z G0) (cj3 hs q B W)
theorem Ang (i l N:Int)(c:Bool)(S : ¬N=0)(Q : ¬i<0)(R : ¬N<=i)(hw:AZ.wrap (l+1)=l+1)(hs:AC AF 19 [.agg [l,.c (.bool c)]] (.c (.bool I)))(q:AC AF 271 [(8:Int)] N)(B:AC AF 272 [l] (if l<=1 then 2 else 3:Int)) :
 AC AF 223 [(8:Int),i,.agg [l,.c (.bool c)]] (.A7 [.agg [.c (.int .i64 (GB 8 i ⟨l,c⟩).By),.c (.bool (GB 8 i ⟨l,c⟩).Hd)],(0:Int)]):=by
 by_cases hi:i=0;subst hi;have e:(GB 8 0 ⟨l,c⟩)=⟨l,c⟩:=by simp[GB]
 rw[e];refine en UO Vm ?_;exact wz (cj3 @S @Q @R G0) (cj2 hs q W);by_cases z:i=1;subst z;have e:(GB 8 1 ⟨l,c⟩)=⟨if l<=1 then 2 else 3,c || false⟩:=by simp[GB,VU]
 rw[e];obtain⟨L,hL⟩:∃L:Int,(if l<=1 then 2 else 3)=L:=⟨_,rfl⟩
 rw[hL]at B ⊢;refine en UO Vm ?_;cases c with
 | true=>exact wz (cj3 @S @Q @R G0) (cj3 hs q B W)
 | false=>exact wz (cj3 @S @Q @R G0) (cj3 hs q B W)
 have e:(GB 8 i ⟨l,c⟩)=⟨if l<=1 then 2 else 3,c || false⟩:=by simp[GB,VU,hi,z]
 rw[e];obtain⟨L,hL⟩:∃L:Int,(if l<=1 then 2 else 3)=L:=⟨_,rfl⟩
 rw[hL]at B ⊢;refine en UO Vm ?_;cases c with
 | true=>exact wz (cj5 @S @Q @R @hi @z G0) (cj3 hs q B W)
 | false=>exact wz (cj5 @S @Q @R @hi @z G0) (cj3 hs q B W)
theorem Anh (i l N:Int)(c:Bool)(S : ¬N=0)(Q : ¬i<0)(R : ¬N<=i)(hw:AZ.wrap (l+1)=l+1)(hs:AC AF 19 [.agg [l,.c (.bool c)]] (.c (.bool I)))(q:AC AF 271 [(9:Int)] N)(B:AC AF 272 [l] (if l<=1 then 2 else 3:Int)) :
 AC AF 223 [(9:Int),i,.agg [l,.c (.bool c)]] (.A7 [.agg [.c (.int .i64 (GB 9 i ⟨l,c⟩).By),.c (.bool (GB 9 i ⟨l,c⟩).Hd)],(0:Int)]):=by
 by_cases hi:i=0;subst hi;have e:(GB 9 0 ⟨l,c⟩)=⟨l,c⟩:=by simp[GB]
 rw[e];refine en UO Vm ?_;exact wz (cj3 @S @Q @R G0) (cj2 hs q W);by_cases z:i=1;subst z;have e:(GB 9 1 ⟨l,c⟩)=⟨if l<=1 then 2 else 3,c || true⟩:=by simp[GB,VU]
 rw[e];obtain⟨L,hL⟩:∃L:Int,(if l<=1 then 2 else 3)=L:=⟨_,rfl⟩
 rw[hL]at B ⊢;refine en UO Vm ?_;cases c with
 | true=>exact wz (cj3 @S @Q @R G0) (cj3 hs q B W)
 | false=>exact wz (cj3 @S @Q @R G0) (cj3 hs q B W)
 have e:(GB 9 i ⟨l,c⟩)=⟨if l<=1 then 2 else 3,c || false⟩:=by simp[GB,VU,hi,z]
 rw[e];obtain⟨L,hL⟩:∃L:Int,(if l<=1 then 2 else 3)=L:=⟨_,rfl⟩
 rw[hL]at B ⊢;refine en UO Vm ?_;cases c with
 | true=>exact wz (cj5 @S @Q @R @hi @z G0) (cj3 hs q B W)
 | false=>exact wz (cj5 @S @Q @R @hi @z G0) (cj3 hs q B W)
theorem AnZ (i l N:Int)(c:Bool)(R : ¬N=0)(B : ¬i<0)(Q : ¬N<=i)(z:AZ.wrap (l+1)=l+1)(hs:AC AF 19 [.agg [l,.c (.bool c)]] (.c (.bool I)))(S:AC AF 271 [(10:Int)] N)(q:AC AF 272 [l] (if l<=1 then 2 else 3:Int)) :
 AC AF 223 [(10:Int),i,.agg [l,.c (.bool c)]] (.A7 [.agg [.c (.int .i64 (GB 10 i ⟨l,c⟩).By),.c (.bool (GB 10 i ⟨l,c⟩).Hd)],(0:Int)]):=by
 have e:(GB 10 i ⟨l,c⟩)=⟨l,I⟩:=by simp[GB]
 rw[e];refine en UO Vm ?_;exact wz (cj3 @R @B @Q G0) (cj2 hs S W)
theorem Ana (i l N:Int)(c:Bool)(R : ¬N=0)(B : ¬i<0)(Q : ¬N<=i)(z:AZ.wrap (l+1)=l+1)(hs:AC AF 19 [.agg [l,.c (.bool c)]] (.c (.bool I)))(S:AC AF 271 [(11:Int)] N)(q:AC AF 272 [l] (if l<=1 then 2 else 3:Int)) :
 AC AF 223 [(11:Int),i,.agg [l,.c (.bool c)]] (.A7 [.agg [.c (.int .i64 (GB 11 i ⟨l,c⟩).By),.c (.bool (GB 11 i ⟨l,c⟩).Hd)],(0:Int)]):=by
 have e:(GB 11 i ⟨l,c⟩)=⟨l,c⟩:=by simp[GB]
 rw[e];refine en UO Vm ?_;exact wz (cj3 @R @B @Q G0) (cj2 hs S W)
theorem Anb (i l N:Int)(c:Bool)(R : ¬N=0)(B : ¬i<0)(Q : ¬N<=i)(z:AZ.wrap (l+1)=l+1)(hs:AC AF 19 [.agg [l,.c (.bool c)]] (.c (.bool I)))(S:AC AF 271 [(12:Int)] N)(q:AC AF 272 [l] (if l<=1 then 2 else 3:Int)) :
 AC AF 223 [(12:Int),i,.agg [l,.c (.bool c)]] (.A7 [.agg [.c (.int .i64 (GB 12 i ⟨l,c⟩).By),.c (.bool (GB 12 i ⟨l,c⟩).Hd)],(0:Int)]):=by
 have e:(GB 12 i ⟨l,c⟩)=⟨if l<1 then 1 else l,c⟩:=by simp[GB]
 rw[e];refine en UO Vm ?_;exact wz (cj3 @R @B @Q G0) (cj2 hs S W)
theorem Ajt (k i:Int)(s:Aa):AC AF 223 [k,i,Aj s] (Zx (XW k i s)):=by
 have Q:=AAA s;have S:=Ani k;have B:=AnX s.By;obtain⟨N,hN⟩:=AI (H2 k);obtain⟨ok,A5⟩:=AI s.ok;unfold XW;rw[A5,hN];rw[A5]at Q;rw[hN]at S;cases ok with
 | false=>rw[Awd (.inl F)];obtain⟨l,c⟩:=s;unfold Zx Aj AR;unfold Aj at Q;refine en UO Vm ?_;exact wz G0 (cj Q<|trivial)
 | true =>
 have hl:0<=s.By/\s.By<=3:=by unfold Aa.ok at A5;simpa using A5
 by_cases R:N=0;rw[Awd (.inr R)];subst R;obtain⟨l,c⟩:=s;unfold Zx Aj AR;unfold Aj at Q;refine en UO Vm ?_;exact wz G0 (cj2 Q S W);rw[Awf (λh=>h.elim (λh=>by cases h) R)];by_cases q:i<0\/N<=i;rw[Awd q];obtain⟨l,c⟩:=s;unfold Zx Aj AR;unfold Aj at Q;refine en UO Vm ?_;rcases q with q|q
 exact wz (cj2 @R @q G0) (cj2 Q S W);by_cases hi:i<0;exact wz (cj2 @R @hi G0) (cj2 Q S W);exact wz (cj3 @R @hi @q G0) (cj2 Q S W);rw[Awf q];have z : ¬i<0:=λh=>q (.inl h)
 have J9 : ¬N<=i:=λh=>q (.inr h)
 have hk:k=5\/k=6\/k=7\/k=8\/k=9\/k=10\/k=11\/k=12:=by
  have:=AYz (k:=k) (by rw[hN];exact R);omega
 obtain⟨l,c⟩:=s;simp only at hl B;have hw:AZ.wrap (l+1)=l+1:=Ac;unfold Zx Aj AR;unfold Aj at Q;unfold VU at B;clear q A5;rcases hk with rfl|rfl|rfl|rfl|rfl|rfl|rfl|rfl
 exact Anc i l N c R z J9 hw Q S B;exact Ane i l N c R z J9 hw Q S B;exact Anf i l N c R z J9 hw Q S B;exact Ang i l N c R z J9 hw Q S B;exact Anh i l N c R z J9 hw Q S B;exact AnZ i l N c R z J9 hw Q S B;exact Ana i l N c R z J9 hw Q S B;exact Anb i l N c R z J9 hw Q S B
end Go.Proofs.YtegconioojpgmaaGreat
