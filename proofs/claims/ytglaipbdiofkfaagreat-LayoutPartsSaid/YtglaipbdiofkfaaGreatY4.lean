/- Part of the proof of some laws. Conditions: none. -/
import Derived.ProofKit
import Derived.Carry
import Derived.Test.YtglaipbdiofkfaaGreatY3
set_option linter.unusedVariables false
set_option linter.unusedSimpArgs false
set_option maxRecDepth 100000
set_option maxHeartbeats 16000000
open Go.DataW renaming trod→Pr,TrodAll→fh
open List renaming mapM_cons→uQ,getElem?_eq_some_iff→Br,map_nil→BB,range→E6,getElem?_eq_getElem→BE,map_map→M7,mem_map→Da,mem_range→KP,getElem?_map→CM,append_nil→E5,length_cons→BA,length_nil→BO,cons_append→BK,nil_append→BU,take_of_length_le→Gl,map_cons→Ap,foldl_cons→Bw,foldl_nil→CO,set_cons_zero→Ag,set_cons_succ→Ai,drop_eq_getElem_cons→D5,drop_of_length_le→FA,replicate_succ→BY,replicate→Aq
open Function renaming comp→ACj
open Go.Value renaming okWide→iB
open Go.Proofs.Tryz renaming prog→AF,func100→L0,func101→ey,ntmps101→tt,results101→tz,func52→ID,ntmps52→ARU,results52→gy,func176→L6,results229→Abm,results260→ADL,results74→ve,func173→R3,results175→vJ,func263→Sa,results263→ADN
open Int renaming lt_tmod_of_pos→ft,tmod_lt_of_pos→aG,mul_assoc→AEW
open Go.IntKind renaming i64→AZ
open Array renaming length_toList→FW
open Option renaming some→J,none→E
open Bool renaming false→U,true→I
open List renaming length→G
namespace Go.Proofs.YtglaipbdiofkfaaGreat
open Go.RowKit Tryz
variable {s:St}{α:Type}{K:Exit->St->Prop}{o:Oper}{c:Code}
def X3 (w:World):BF:=λb _=>b<w.heap.size
section
variable {H α β:Type} {enc:TypeId×Value->H} {P:Program} {w:World} {fuel:Nat} {t e:TypeId}
def Dq (enc:TypeId×Value->H)(P:Program)(w:World)(fuel:Nat)(t:TypeId)(R:α->List C)(Q:α->Prop):Prop:=
 ∀(sp:Nat->Bool) (base:Nat) (held:Bool) (cs:List Value) (x:DataW H×List MemPlace),Pr enc P w base sp held fuel t cs=J x->∃a,B4 (X3 w) w (R a) cs/\Q a
theorem Dq.zero {R:α->List C}{Q:α->Prop}:Dq enc P w 0 t R Q:=by intro q B M S x h;simp[Pr]at h
theorem Dq.conv {R:α->List C}{Q:α->Prop}{R':β->List C}{S:β->Prop}(h:Dq enc P w fuel t R Q)(f:α->β)(hR : ∀a,R a=R' (f a))(hQ : ∀a,Q a->S (f a)):Dq enc P w fuel t R' S:=by
 intro sp B M q x hx;obtain⟨a,z,h2⟩:=h sp B M q x hx;exact⟨f a,by rw[<-hR];exact z,hQ a h2⟩
theorem Ge {k:IntKind}(S:P.underlying t=J (.int k)):Dq enc P w fuel t (λn:Int=>[.int k n]) (λ_=>True):=by
 cases fuel with
 | zero=>exact Dq.zero
 | succ fuel =>
   intro sp B M z x h;unfold Pr at h;rw[S]at h;split at h<;>try (exfalso;simp_all;done)
   rename_i k1 k2 n R;cases R;split at h;rename_i Q;obtain⟨rfl,q⟩:=Q;simp only[B4,Ab];exact⟨n,⟨_,_,F,⟨F,q⟩,F⟩,W⟩;cases h
theorem AAw (Q:P.underlying t=J .bool):Dq enc P w fuel t (λb:Bool=>[.bool b]) (λ_=>True):=by
 cases fuel with
 | zero=>exact Dq.zero
 | succ fuel =>
   intro q B M R x h;unfold Pr at h;rw[Q]at h;split at h<;>try (exfalso;simp_all;done)
   rename_i b S;simp only[B4,Ab];exact⟨b,⟨_,_,F,F,F⟩,W⟩
theorem Zf (R:P.underlying t=J .string):Dq enc P w fuel t (λs:ByteArray=>[.str s]) (λs=>s.size<=maxLen):=by
 cases fuel with
 | zero=>exact Dq.zero
 | succ fuel =>
   intro z B M S x h;unfold Pr at h;rw[R]at h;split at h<;>try (exfalso;simp_all;done)
   rename_i s q;split at h;rename_i Q;simp only[B4,Ab];exact⟨s,⟨_,_,F,⟨F,Q⟩,F⟩,Q⟩;cases h
theorem D9.AIq {S:BF}{es:Nat} : ∀ {AG:List (List C)} {b off:Nat},(∀r∈AG,G r=es)->(∀(i:Nat) (r:List C),AG[i]?=J r->B5 S w r b (off+i*es))->D9 S w AG b off
 | [],_,_,_,_=>by simp only[D9]
 | r::q,b,off,B,h=>by
   simp only[D9];refine⟨by simpa using h 0 r rfl,D9.AIq (λr Q=>B r (by simp[Q])) λi R M=>?_⟩;have:=h (i+1) R (by simpa using M);rw[B r (by simp)];rw[show off+es+i*es=off+(i+1)*es by rw[Nat.add_mul];omega];exact this
theorem AIT {R S:Type}{f:R->Option S} : ∀ {l:List R} {xs:List S},l.mapM f=J xs->∀y∈l,∃x,f y=J x
 | [],_,_,y,B=>by cases B
 | a::l,xs,h,y,B=>by
   rw[uQ]at h;cases M:f a with
   | none=>rw[M]at h;simp at h
   | some z =>
     rw[M]at h;cases Q:l.mapM f with
     | none=>rw[Q]at h;simp at h
     | some q =>
       rcases List.mem_cons.1 B with rfl|B
       exact⟨z,M⟩;exact AIT Q y B
theorem AIU {R S:Type}{f:R->Option S} : ∀ {l:List R} {xs:List S},l.mapM f=J xs->G xs=G l/\∀(i:Nat) (y:R),l[i]?=J y->f y=xs[i]?
 | [],xs,h=>by simp at h;subst h;exact⟨F,λi y h=>by simp at h⟩
 | a::l,xs,h=>by
   rw[uQ]at h;cases M:f a with
   | none=>rw[M]at h;simp at h
   | some z =>
     rw[M]at h;cases Q:l.mapM f with
     | none=>rw[Q]at h;simp at h
     | some zs =>
       rw[Q]at h;simp at h;subst h;obtain⟨q,h2⟩:=AIU Q;refine⟨by simp[q],λi y B=>?_⟩;match i,B with
       | 0,B=>simp at B;subst B;simpa using M
       | i+1,B=>simpa using h2 i y (by simpa using B)
theorem wh {B n:Nat}{a:Addr}{cs:List Value}(h:w.cells? B a n=J cs):G cs=n/\∀j v,cs[j]?=J v->w.cell? (a.add j)=J v:=by
 unfold World.cells? at h;split at h;obtain⟨Q,S⟩:=AIU h;refine⟨by simpa using Q,λj v R=>?_⟩;have M:j<n:=by have:=(Br.1 R).1;rw[Q]at this;simpa using this
 have:=S j j (by simp[M]);rw[this,R];cases h
theorem dq {n:Nat}{R:α->List C}{Q:α->Prop}(hu:P.underlying t=J (.slice e))(hc:P.cellsOf e=n)(hn:0<n)(h:Dq enc P w fuel e R Q):Dq enc P w (fuel+1) t (λl:List α=>[.sl (l.map R)]) (λl=>G l<=maxLen/\∀a∈l,Q a):=by
 intro sp B A0 cs x hx;unfold Pr at hx;rw[hu]at hx;split at hx<;>try (exfalso;simp_all;done)
 refine⟨[],?_,by simp,by simp⟩;simp only[B4,Ab,BB];exact⟨_,_,F,⟨E,0,F,by simp,by simp[maxLen],λh=>absurd rfl h⟩,F⟩;rename_i e' a len cap he;cases he;split at hx;rename_i A6;obtain⟨hb,A9,A2⟩:=A6;cases hm:(E6 len).mapM (λi=>(w.cells? B (a.add (i*P.cellsOf e)) (P.cellsOf e)).bind (Pr enc P w B sp A0 fuel e))with
 | none=>simp only[hm]at hx;cases hx
 | some A7 =>
   have Mh : ∀i,i<len->∃ai,∃S,w.cells? B (a.add (i*n)) n=J S/\B4 (X3 w) w (R ai) S/\Q ai:=by
    intro i M;obtain⟨y,z⟩:=AIT hm i (by simpa using M);rw[hc]at z;cases A3:w.cells? B (a.add (i*n)) n with
    | none=>rw[A3]at z;simp at z
    | some S=>rw[A3]at z;simp only[Option.bind_some]at z;obtain⟨ai,h1,h2⟩:=h sp B A0 S y z;exact⟨ai,S,F,h1,h2⟩
   by_cases h0:len=0;subst h0;refine⟨[],?_,by simp,by simp⟩;simp only[B4,Ab,BB];exact⟨_,_,F,⟨J a,cap,F,by simp,A2,λh=>absurd rfl h⟩,F⟩;have A5:a.spot=none:=by
    obtain⟨a0,c0,h1,h2,_⟩:=Mh 0 (by omega);obtain⟨l1,l2⟩:=wh h1;have q:0<G c0:=by omega
    have:=l2 0 c0[0] (BE q);simp only[Nat.zero_mul,Addr.add,if_true]at this;unfold World.cell? at this;split at this;split at this;cases this;rename_i hs;simpa using hs;cases this
   obtain⟨b,A1,B0⟩:=a;simp only at A5;subst A5;have A8 : ∃g:Nat->α,∀i,i<len->∃S,w.cells? B ((⟨b,A1,E⟩:Addr).add (i*n)) n=J S/\B4 (X3 w) w (R (g i)) S/\Q (g i):=by
    have Ca:Nonempty α:=⟨(Mh 0 (by omega)).choose⟩
    refine⟨λi=>if M:i<len then(Mh i M).choose else Classical.choice Ca,λi M=>?_⟩;simp only[M,dif_pos];exact(Mh i M).choose_spec
   obtain⟨g,hg⟩:=A8;have Bn : ∀i,i<len->G (R (g i))=n:=by
    intro i M;obtain⟨S,h1,h2,_⟩:=hg i M;rw[<-h2.len,(wh h1).1]
   refine⟨(E6 len).map g,?_,by simp;omega,?_⟩;simp only[B4,Ab];refine⟨_,_,F,⟨J ⟨b,A1,E⟩,cap,by simp,by simpa using A9,A2,λ_=>⟨b,A1,n,rfl,?_,?_⟩⟩,F⟩;intro r hr;simp only[M7,Da,KP,ACj]at hr;obtain⟨i,M,rfl⟩:=hr;exact Bn i M;refine D9.AIq (es:=n) ?_ ?_;intro r hr;simp only[M7,Da,KP,ACj]at hr;obtain⟨i,M,rfl⟩:=hr;exact Bn i M;intro i r hr;simp only[M7,CM,Option.map_eq_some_iff,ACj]at hr;obtain⟨j,hj,rfl⟩:=hr;obtain⟨q,rfl⟩:=Br.1 hj;simp only[List.length_range]at q;simp only[List.getElem_range];obtain⟨S,h1,h2,_⟩:=hg i q;obtain⟨l1,l2⟩:=wh h1;refine B5.Pe h2 (λj u hu=>?_) (λj hj=>?_);have:=l2 j u hu;rw[J0,J0]at this;exact this;have OG:j<G S:=by rw[h2.len];exact hj
   have:=l2 j S[j] (BE OG);rw[J0,J0]at this;exact block_lt_of_cell this;intro y z;simp only[Da,KP]at z;obtain⟨i,M,rfl⟩:=z;obtain⟨S,_,_,h3⟩:=hg i M;exact h3
 cases hx
def C6 {φ:Type}(ty:φ->TypeId)(I5:φ->Nat)(enc:TypeId×Value->H)(P:Program)(w:World)(fuel:Nat)(l:List φ)(o z:Nat)(R:β->List C)(Q:β->Prop):Prop:=
 ∀(sp:Nat->Bool) (base:Nat) (held:Bool) (cs:List Value) (xs:List (DataW H×List MemPlace)),l.mapM (λf=>Pr enc P w base sp held fuel (ty f) ((cs.drop (I5 f)).take (P.cellsOf (ty f))))=J xs->∃b,B4 (X3 w) w (R b) ((cs.drop o).take (z - o))/\Q b
theorem C6.nil {Q:Type}{ty:Q->TypeId}{R:Q->Nat}{z:Nat}:C6 ty R enc P w fuel [] z z (λ_:Unit=>[]) (λ_=>True):=by
 intro q B M S xs h;exact⟨(),by simp[B4],trivial⟩
theorem C6.cons {φ:Type}{ty:φ->TypeId}{Q:φ->Nat}{f:φ}{l:List φ}{o o' z:Nat}{R1:α->List C}{Q1:α->Prop}{R2:β->List C}{Q2:β->Prop}(ho:Q f=o)(hz:o+P.cellsOf (ty f)=o')(A0:o'<=z)(h1:Dq enc P w fuel (ty f) R1 Q1)(h2:C6 ty Q enc P w fuel l o' z R2 Q2) :
 C6 ty Q enc P w fuel (f::l) o z (λq:α×β=>R1 q.1++R2 q.2) (λq=>Q1 q.1/\Q2 q.2):=by
 intro S B M R xs h;rw[uQ]at h;cases ha:Pr enc P w B S M fuel (ty f) ((R.drop (Q f)).take (P.cellsOf (ty f)))with
 | none=>rw[ha]at h;simp at h
 | some y =>
   rw[ha]at h;cases hl:l.mapM (λf=>Pr enc P w B S M fuel (ty f) ((R.drop (Q f)).take (P.cellsOf (ty f))))with
   | none=>simp only[hl]at h;simp at h
   | some ys =>
     obtain⟨a,k1,k2⟩:=h1 S B M _ y ha;obtain⟨b,k3,k4⟩:=h2 S B M R ys hl;refine⟨(a,b),?_,k2,k4⟩;have e:(R.drop o).take (z - o)=(R.drop (Q f)).take (P.cellsOf (ty f))++(R.drop o').take (z - o'):=by
      rw[ho,show z - o=P.cellsOf (ty f)+(z - o')by omega,List.take_add,List.drop_drop,hz]
     rw[e];exact k1.append k3
theorem VJ {fs:Array Field}{z:Nat}{R:β->List C}{Q:β->Prop}(hu:P.underlying t=J (.struct fs))(hc:P.cellsOf t=z)(h:C6 Field.type Field.offset enc P w fuel fs.toList 0 z R Q):Dq enc P w (fuel+1) t R Q:=by
 intro sp B M q x S;unfold Pr at S;rw[hu]at S;change (if G q=P.cellsOf t then(fs.toList.mapM λf=>Pr enc P w B sp M fuel f.type ((q.drop f.offset).take (P.cellsOf f.type))).map (λxs=>(DataW.agg (xs.map (·.1)),xs.flatMap (·.2)))else E)=J x at S;split at S;rename_i hl;cases hm:fs.toList.mapM (λf=>Pr enc P w B sp M fuel f.type ((q.drop f.offset).take (P.cellsOf f.type)))with
 | none=>simp only[hm]at S;cases S
 | some xs=>obtain⟨b,k1,k2⟩:=h sp B M q xs hm;refine⟨b,?_,k2⟩;simpa [<-hc,<-hl]using k1
 cases S
end
section
open Go.RowKit Go.ChangeShapes
section
variable {H:Type} {enc:TypeId×Value->H} {P:Program}
theorem ALd (S:laidOutB P=I){W R:World}(hb:Ay W R):∀ {B:List TypeId} {vs:List Value} {M:List (DataW H)} {ps:List MemPlace},(∀t∈B,P.readableRec t=I/\t<P.types.size)->fh enc P W 0 (λ_=>I) I B vs M ps->(∀x∈ps,x.block<W.heap.size)->
 fh enc P R 0 (λb=>decide (b<W.heap.size)) I B vs M ps
 | [],[],[],ps,_,h,_=>h
 | t::B,v::vs,d::M,ps,ht,h,z=>by
   obtain⟨p,q,h1,h2,rfl⟩:=h;obtain⟨r1,r2⟩:=ht t (by simp);exact⟨p,q,Below.trod S r1 r2 h1 hb (λx Q=>z x (by simp[Q])),ALd S hb (λt h=>ht t (by simp[h])) h2 (λx Q=>z x (by simp[Q])),F⟩
theorem rX {f:Func}{s:ChangeSpec}{W W':World}{args:Array Value}{B M:List (DataW H)}{before:List MemPlace}{tb:TypeId}(hW:DataW.Whole enc P f.params.toList s.vars U W args.toList B M before)(hv:s.vars=[])(hr:f.resultTypes=#[tb])(hb:P.underlying tb=J .bool)(hl:laidOutB P=I)(hk:Ay W W')(ht : ∀t∈f.params.toList,P.readableRec t=I/\t<P.types.size)(hs:(s.fn H B).results=[.lit (.bool I)])(rE:(s.fn H B).args=B)(S:(s.fn H B).vars=[]):s.post enc P f U I U U W args (.bool I) W':=by
 have QJ:=hW;obtain⟨p,q,hA,Q,rfl,cm,TV⟩:=hW;have R : ∀x∈p++q,x.block<W.heap.size:=λx z=>by simpa using QJ.lt x z
 rw[hv]at Q;have OE:M=[]/\q=[]:=by
  cases M with
  | nil=>exact⟨F,Q⟩
  | cons _ _=>exact Q.elim
 obtain⟨rfl,rfl⟩:=OE;refine⟨B,[],p++[],[],p,[],QJ,?_,?_,?_,Below.frame hk _,λh=>nomatch h⟩;rw[hr,E5,hs];exact trodAll_mk1 (shut_bool hb _);rw[E5,rE];exact ALd hl hk ht hA (λx z=>R x (by simp[z]));rw[hv,E5,S];rfl
theorem rW {f:FuncId}{W:World}{args:Array Value}{vs:List V}{Q:Value->World->Prop}(h:AC P f vs (.c (.bool I)))(R:AO (Cx.bare (X3 W)) W vs args.toList)(S : ∀B,Ay W B->Q (.bool I) B):Calls P f args W λe B=>∃v,e=.returned v/\Q v B:=by
 have:=h (X3 W) W args.toList (λb j h=>h) R;rw[show args.toList.toArray=args by simp]at this;refine this.mono ?_;rintro e B ⟨u,z,rfl,q,_,_,M⟩;simp only[CV,Ab]at M;subst M;exact⟨_,F,S B q⟩
theorem Qi {t:TypeId}{fs:Array Field}{W:World}{M q:Nat}{sp:Nat->Bool}{S:Bool}{r:Reach}{v:Value}{d:DataW H}{ps:List MemPlace}{R:α->List C}{Q:α->Prop}(hu:P.underlying t=J (.struct fs))(B:iB P W r q t v)(hd:DataW.Trod enc P W M sp S t v d ps)(ho : ∀fuel,Dq enc P W fuel t R Q):∃a,Q a/\CV (Cx.bare (X3 W)) W (.agg ((R a).map V.c)) v:=by
 unfold iB at B;rw[hu]at B;obtain⟨z,rfl,_,_⟩:=B;obtain⟨fuel,hf⟩:=hd;obtain⟨a,h1,h2⟩:=ho fuel sp M S _ _ hf;refine⟨a,h2,?_⟩;simp only[CV];exact⟨z,F,AO.OS h1⟩
end
theorem own:ownKnob AF.godebug=none:=by kernel_rfl
theorem laid:laidOutB AF=true:=by kernel_rfl
end
def BG.row (g:BG):List C:=[.str g.name,.int .i64 g.w,.int .i64 g.h,.int .i64 g.d,.int .i64 g.Ey,.int .i64 g.attach]
def CR.row (p:CR):List C:=[.str p.name,.bool p.ext]
def Gv (l:List ByteArray):C:=.sl (l.map λn=>[.str n])
def Ek (l:List CR):C:=.sl (l.map CR.row)
def Bc.row (s:Bc):List C:=[.str s.name,Gv s.sizes,Ek s.parts,.int .i64 s.Dc]
def O8 (l:List BG):C:=.sl (l.map BG.row)
def MG (l:List Bc):C:=.sl (l.map Bc.row)
def Params.list (p:Params):List Int:=[p.Al,p.Gj,p.FD,p.rule,p.VH,p.Tp,p.Uf,p.TE,p.Zy,p.Zz,p.Z0,p.Qx,p.Qy,p.Q5,p.Qz,p.script,p.Qr,p.TD,p.RY,p.RO]
def AP.row (f:AP):List C:=O8 f.DR::MG f.C5::f.params.list.map (C.int .i64)
def AP.vs (f:AP):List V:=f.row.map V.c
def AV (l:List Int):C:=.sl (l.map λn=>[.int .i64 n])
structure AA where
 kind:Int
 name:ByteArray
 size:Int
 w:Int
 h:Int
 d:Int
 x:Int
 y:Int
 AE:List AA
 of_:Int
 src:List Int
mutual
def AA.row:AA->List C
 | ⟨k,n,s,w,h,d,x,y,AE,o,src⟩=>[.int .i64 k,.str n,.int .i64 s,.int .i64 w,.int .i64 h,.int .i64 d,.int .i64 x,.int .i64 y,.sl (AA.AG AE),.int .i64 o,AV src]
def AA.AG:List AA->List (List C)
 | []=>[]
 | b::l=>AA.row b::AA.AG l
end
def AA.zero:AA:=⟨0,⟨#[]⟩,0,0,0,0,0,0,[],0,[]⟩
def Hg (g:BG):V:=.agg (g.row.map V.c)
def Ao (b:AA):V:=.agg (b.row.map V.c)
def AR (n:Int):V:=.c (.int .i64 n)
def N7 (g:BG)(p:Int):AA:=⟨1,g.name,p,g.w+mx 0 g.Ey,g.h,g.d,0,0,[],0,[]⟩
theorem AJ6 : ∀(vs cs:List V) (pre:List V),G cs=G vs->E8 (pre++cs) (G pre) vs=pre++vs
 | [],cs,pre,h=>by have:cs=[]:=(List.eq_nil_of_length_eq_zero (by simpa using h));subst this;simp[E8]
 | v::vs,c::cs,pre,h=>by
   simp only[E8];have:=AJ6 vs cs (pre++[v]) (by simpa using h);simp only[List.length_append,BA,BO,Nat.zero_add,List.append_assoc,BK,BU]at this;rw[<-this];congr 1
   simp
theorem kz {vs cs:List V}(h:G cs=G vs):E8 cs 0 vs=vs:=by simpa using AJ6 vs cs [] h
section
variable (f:AP)
@[simp] theorem AP.Xf:G f.vs=22:=by simp[AP.vs,AP.row,Params.list]
@[simp] theorem AP.ACP:f.vs.all V.one=true:=by simp[AP.vs,V.one]
@[simp] theorem AP.ACR:f.vs.take 22=f.vs:=Gl (by simp)
@[simp] theorem AP.ACN:f.vs[0]?=J (.c (O8 f.DR)):=F
@[simp] theorem AP.ACG (h:0<G f.vs):f.vs[0]'h=.c (O8 f.DR):=F
@[simp] theorem AP.AL7:f.vs[1]?=J (.c (MG f.C5)):=F
@[simp] theorem AP.AL5 (h:1<G f.vs):f.vs[1]'h=.c (MG f.C5):=F
@[simp] theorem AP.AL8:f.vs[2]?=J (.c (.int .i64 f.params.Al)):=F
@[simp] theorem AP.AL6 (h:2<G f.vs):f.vs[2]'h=.c (.int .i64 f.params.Al):=F
@[simp] theorem AP.ACO:f.vs[3]?=J (.c (.int .i64 f.params.Gj)):=F
@[simp] theorem AP.ACI (h:3<G f.vs):f.vs[3]'h=.c (.int .i64 f.params.Gj):=F
@[simp] theorem AP.Aad:f.vs[4]?=J (.c (.int .i64 f.params.FD)):=F
@[simp] theorem AP.AaV (h:4<G f.vs):f.vs[4]'h=.c (.int .i64 f.params.FD):=F
@[simp] theorem AP.Aae:f.vs[5]?=J (.c (.int .i64 f.params.rule)):=F
@[simp] theorem AP.AaW (h:5<G f.vs):f.vs[5]'h=.c (.int .i64 f.params.rule):=F
@[simp] theorem AP.AiF:f.vs[19]?=J (.c (.int .i64 f.params.TD)):=F
@[simp] theorem AP.Ah2 (h:19<G f.vs):f.vs[19]'h=.c (.int .i64 f.params.TD):=F
@[simp] theorem AP.AiG:f.vs[20]?=J (.c (.int .i64 f.params.RY)):=F
@[simp] theorem AP.Ah3 (h:20<G f.vs):f.vs[20]'h=.c (.int .i64 f.params.RY):=F
theorem Zq : ∀l:List C,V.CF (l.map V.c)=J (l.map V.c)
 | []=>rfl
 | c::l=>by simp[V.CF,V.CP,Zq l]
@[simp] theorem AP.tX:V.CF f.vs=J f.vs:=Zq f.row
theorem toCs_c : ∀l:List C,toCs (l.map V.c)=J l
 | []=>rfl
 | c::l=>by simp[toCs,toC,toCs_c l]
@[simp] theorem AP.ACS:toCs f.vs=J f.row:=toCs_c f.row
def Params.vs (p:Params):List V:=p.list.map λn=>V.c (.int .i64 n)
@[simp] theorem AP.AiJ (f:AP):(f.vs.drop 2).take 20=f.params.vs:=by simp[AP.vs,AP.row,Params.vs,Params.list]
@[simp] theorem Params.tX (p:Params):V.CF p.vs=J p.vs:=by
 have e:p.vs=(p.list.map (C.int .i64)).map V.c:=by simp[Params.vs]
 rw[e];exact Zq _
@[simp] theorem AP.tW (f:AP)(n:Nat):V.BI n f.vs=true:=by
 have : ∀l:List C,V.BI n (l.map V.c)=true:=by
  intro l;induction l with
  | nil=>rfl
  | cons c l ih=>simp[V.BI,V.A8,ih]
 exact this f.row
@[simp] theorem Params.tW (p:Params)(n:Nat):V.BI n p.vs=true:=by simp[Params.vs,Params.list,V.BI,V.A8]
@[simp] theorem Params.ACQ (p:Params)(k:Nat)(row:List C):V.Cs k row p.vs=p.vs:=by simp[Params.vs,Params.list,V.Cs,V.Bi]
theorem YN (k:Nat)(row:List C):∀l:List C,V.Cs k row (l.map V.c)=l.map V.c
 | []=>rfl
 | c::l=>by simp only[Ap,V.Cs,V.Bi,YN k row l]
@[simp] theorem AFm (k:Nat)(row:List C)(f:AP):V.Cs k row f.vs=f.vs:=YN k row f.row
end
theorem Ng (n:Int):AC AF 100 [.c (.int .i64 n)] (.c (.bool (An n))):=by
 by_cases B : -1073741824<=n;refine en L0 ntmps100 ?_;refine go @B ?_;exact At (cj2 results100 @An.eq_1 @B);refine en L0 ntmps100 ?_;refine go @B ?_;exact At (cj2 results100 @An.eq_1 @B)
theorem AKG (a b:Int)(ha : -9000000000000000000<=a)(A0:a<=9000000000000000000)(hb:b=100\/b=2):AC AF 101 [.c (.int .i64 a),.c (.int .i64 b)] (.c (.int .i64 (quot a b))):=by
 have h1:=Int.mul_tdiv_add_tmod a b;have Ew : -b<a.tmod b/\a.tmod b<b:=by
  rcases hb with rfl|rfl
  exact⟨by have:=ft a (b:=100) (by omega);omega,aG a (by omega)⟩;exact⟨by have:=ft a (b:=2) (by omega);omega,aG a (by omega)⟩
 have NO : ¬b<0:=by omega
 have z : ¬b=0:=by omega
 obtain⟨q,S⟩:=AI (a.tdiv b);obtain⟨r,R⟩:=AI (a.tmod b);have hQ:quot a b=if 0<=r/\b - r<=r then q+1 else if r<0/\b+r<= -r then q - 1 else q:=by unfold quot;rw[S,R]
 rw[S,R]at h1;rw[R]at Ew;have A1 : -9000000000000000001<=q/\q<=9000000000000000001:=by rcases hb with rfl|rfl<;>omega
 have w1:AZ.wrap q=q:=Ac;have w2:AZ.wrap r=r:=Ac;have w3:AZ.wrap (b - r)=b - r:=Ac;have w4:AZ.wrap (b+r)=b+r:=Ac;have w5:AZ.wrap (-r)= -r:=Ac;have w6:AZ.wrap (q+1)=q+1:=Ac;have w7:AZ.wrap (q - 1)=q - 1:=Ac;rw[hQ];clear hQ h1;by_cases M:0<=r;by_cases B:b - r<=r;refine en ey tt ?_;refine go (cj9 @NO @z @S @R @w1 @w2 @w3 @w6 @M @B) ?_;exact At (cj2 tz @M @B);have Q : ¬r<0:=by omega
 refine en ey tt ?_;refine go (cj9 @NO @z @S @R @w1 @w2 @w3 @w6 @M<|cj @B @Q) ?_;exact At (cj3 tz @M @B @Q);have Q:r<0:=by omega
 by_cases B:b+r<= -r;refine en ey tt ?_;refine go (cj9 @NO @z @S @R @w1 @w2 @w4 @w5 @w7<|cj2 @M @B @Q) ?_;exact At (cj3 tz @M @B @Q);refine en ey tt ?_;refine go (cj9 @NO @z @S @R @w1 @w2 @w4 @w5 @w7<|cj2 @M @B @Q) ?_;exact At (cj3 tz @M @B @Q)
theorem EI (n p:Int):AC AF 52 [.c (.int .i64 n),.c (.int .i64 p)] (.c (.int .i64 (AU n p))):=by
 cases B:An n with
 | false =>
   have M:AU n p=0:=by simp[AU,B]
   refine en ID ARU ?_;refine Ah ?_;refine gc @B (Ng n) L0 ?_;refine go @B ?_;exact At (cj gy<| @M)
 | true =>
   have R:=B;simp[An]at R;by_cases Q:p<0;have M:AU n p=0:=by unfold AU;rw[if_neg];omega
   refine en ID ARU ?_;refine Ah ?_;refine gc (cj @B<|@Q) (Ng n) L0 ?_;refine go @B ?_;exact At (cj gy<| @M);by_cases S:10000<p;have M:AU n p=0:=by unfold AU;rw[if_neg];omega
   refine en ID ARU ?_;refine Ah ?_;refine gc (cj2 @B @Q @S) (Ng n) L0 ?_;refine go @B ?_;exact At (cj gy<| @M);have M:AU n p=quot (n*p) 100:=by rw[AXT];unfold AU;rw[if_pos ⟨B,by omega,by omega⟩]
   have z:=Qh n p 1073741824 10000 (by omega) (by omega) (by omega) (by omega);have q:AZ.wrap (n*p)=n*p:=Ac;refine en ID ARU ?_;refine Ah ?_;refine gc (cj2 @B @Q @S) (Ng n) L0 ?_;refine go (cj @B<|@q) ?_;refine BZ (AKG (n*p) 100 (by omega) (by omega) (.inl F)) ey ?_;refine Ah ?_;exact At (cj gy<| @M)
def YK (o:Option BG):V:=.A7 [.agg ((o.getD BG.zero).row.map V.c),.c (.bool o.isSome)]
theorem xX (f:AP)(name:ByteArray)(q:G f.DR<=maxLen):AC AF 88 [.agg f.vs,.c (.str name)] (YK (f.find name)):=by
 unfold maxLen at q;refine en func88 ntmps88 ?_;refine go @O8.eq_1 ?_;refine lp (ι:={ k:Nat // k<=G f.DR/\f.find name=KU name (f.DR.drop k) }) (λk=>[(10,.c (.int .i64 (k.1:Int))),(5,.c (.bool U))]) (λ_=>[.box 27 f.vs U,.box 54 (BG.zero.row.map V.c) U]) (λk=>G f.DR - k.1) ⟨0,by simp[AP.find]⟩ ?_ ?_;all_goals simp only[CG,Bw,CO,Ag,Ai]
 exact ER (cj @BG.zero.eq_1<|@BG.row.eq_1);rintro ⟨k,hk,Q⟩;by_cases B:k<G f.DR;obtain⟨g,S⟩:=AI (f.DR[k]);rw[D5 B,S]at Q;by_cases M:g.name=name;have R:f.find name=J g:=by rw[Q];simp[KU,M]
 refine go (cj4 @B @S @M @O8.eq_1 @BG.row.eq_1) ?_;exact At (cj4 results88 @YK.eq_1 @R @BG.row.eq_1 @M);have z:AZ.wrap ((k:Int)+1)=((k+1:Nat):Int):=by rw[Ac];simp
 refine go (cj5 @B @S @M @O8.eq_1 @BG.row.eq_1 @z) ?_;refine⟨⟨k+1,by omega,by rw[Q];simp[KU,M]⟩,by simp only;omega,?_⟩;exact ER (cj @BG.zero.eq_1<|@BG.row.eq_1);have R:f.find name=none:=by rw[Q,FA (by omega)];rfl
 refine go (cj2 @B @BG.zero.eq_1 @BG.row.eq_1) ?_;exact At (cj4 results88 @YK.eq_1 @R @BG.zero.eq_1 @BG.row.eq_1)
theorem L5 (f:AP)(name:ByteArray)(q:G f.DR<=maxLen):AC AF 176 [.agg f.vs,.c (.str name)] (YK (f.find name)):=by
 unfold maxLen at q;refine en L6 ntmps176 ?_;refine go @O8.eq_1 ?_;refine lp (ι:={ k:Nat // k<=G f.DR/\f.find name=KU name (f.DR.drop k) }) (λk=>[(6,.c (.int .i64 (k.1:Int))),(5,.c (.bool U))]) (λ_=>[.box 27 f.vs U,.box 54 (BG.zero.row.map V.c) U]) (λk=>G f.DR - k.1) ⟨0,by simp[AP.find]⟩ ?_ ?_;all_goals simp only[CG,Bw,CO,Ag,Ai]
 exact ER (cj @BG.zero.eq_1<|@BG.row.eq_1);rintro ⟨k,hk,Q⟩;by_cases B:k<G f.DR;obtain⟨g,S⟩:=AI (f.DR[k]);rw[D5 B,S]at Q;by_cases M:g.name=name;have R:f.find name=J g:=by rw[Q];simp[KU,M]
 refine go (cj4 @B @S @M @O8.eq_1 @BG.row.eq_1) ?_;exact At (cj4 results176 @YK.eq_1 @R @BG.row.eq_1 @M);have z:AZ.wrap ((k:Int)+1)=((k+1:Nat):Int):=by rw[Ac];simp
 refine go (cj5 @B @S @M @O8.eq_1 @BG.row.eq_1 @z) ?_;refine⟨⟨k+1,by omega,by rw[Q];simp[KU,M]⟩,by simp only;omega,?_⟩;exact ER (cj @BG.zero.eq_1<|@BG.row.eq_1);have R:f.find name=none:=by rw[Q,FA (by omega)];rfl
 refine go (cj3 @B @BG.zero.eq_1 @BG.row.eq_1 @O8.eq_1) ?_;exact At (cj4 results176 @YK.eq_1 @R @BG.zero.eq_1 @BG.row.eq_1)
theorem dy (f:AP)(name:ByteArray)(M:G f.DR<=maxLen):AC AF 229 [.agg f.vs,.c (.str name)] (Hg (f.pick name)):=by
 refine en func229 ntmps229 ?_;refine Ah ?_;refine gc (cj @YK.eq_1<|@BG.row.eq_1) (xX f name M) func88 ?_;cases B:f.find name with
 | some g=>refine go @BG.row.eq_1 ?_;exact At (cj4 Abm @Hg.eq_1 @AP.pick.eq_1 @B @BG.row.eq_1)
 | none =>
   refine go (cj @BG.zero.eq_1<|@BG.row.eq_1) ?_;refine gc (cj @YK.eq_1<|@BG.row.eq_1) (xX f ⟨#[63]⟩ M) func88 ?_;cases Q:f.find ⟨#[63]⟩with
   | some g=>refine go @BG.row.eq_1 ?_;exact At (cj5 Abm @Hg.eq_1 @AP.pick.eq_1 @B @Q @BG.row.eq_1)
   | none=>refine go (cj @BG.zero.eq_1<|@BG.row.eq_1) ?_;exact At (cj6 Abm @Hg.eq_1 @AP.pick.eq_1 @B @Q @BG.zero.eq_1 @BG.row.eq_1)
theorem AP2 (f:AP)(name:ByteArray)(M:G f.DR<=maxLen):AC AF 260 [.agg f.vs,.c (.str name)] (Hg (f.pick name)):=by
 refine en func260 ntmps260 ?_;refine Ah ?_;refine gc (cj @YK.eq_1<|@BG.row.eq_1) (L5 f name M) L6 ?_;cases B:f.find name with
 | some g=>refine go @BG.row.eq_1 ?_;exact At (cj4 ADL @Hg.eq_1 @AP.pick.eq_1 @B @BG.row.eq_1)
 | none =>
   refine go (cj @BG.zero.eq_1<|@BG.row.eq_1) ?_;refine gc (cj @YK.eq_1<|@BG.row.eq_1) (L5 f ⟨#[63]⟩ M) L6 ?_;cases Q:f.find ⟨#[63]⟩with
   | some g=>refine go @BG.row.eq_1 ?_;exact At (cj5 ADL @Hg.eq_1 @AP.pick.eq_1 @B @Q @BG.row.eq_1)
   | none=>refine go (cj @BG.zero.eq_1<|@BG.row.eq_1) ?_;exact At (cj6 ADL @Hg.eq_1 @AP.pick.eq_1 @B @Q @BG.zero.eq_1 @BG.row.eq_1)
theorem Xg (Q M:Int)(l:List Int)(hl:G l<=maxLen):AC AF 74 [.c (.int .i64 Q),.c (.int .i64 M),.c (AV l)] (.c (.bool (DX Q M l))):=by
 unfold maxLen at hl;refine en func74 ntmps74 ?_;refine go @AV.eq_1 ?_;refine lp (ι:={ k:Nat // k<=G l/\DX Q M l=DX Q M (l.drop k) }) (λk=>[(11,.c (.int .i64 (k.1:Int))),(6,.c (.bool U))]) (λ_=>[]) (λk=>G l - k.1) ⟨0,by simp⟩ ?_ ?_;all_goals simp only[CG,Bw,CO,Ag,Ai]
 exact DH;rintro ⟨k,hk,R⟩;by_cases B:k<G l;obtain⟨n,S⟩:=AI (l[k]);rw[D5 B,S]at R;by_cases q:n<Q;have e:DX Q M l=false:=by rw[R];simp[DX];omega
 refine go (cj3 @B @S @q @AV.eq_1) ?_;exact At (cj ve<| @e);by_cases z:M<n;have e:DX Q M l=false:=by rw[R];simp[DX];omega
 refine go (cj4 @B @S @q @z @AV.eq_1) ?_;exact At (cj ve<| @e);have hw:AZ.wrap ((k:Int)+1)=((k+1:Nat):Int):=by rw[Ac];simp
 refine go (cj5 @B @S @q @z @AV.eq_1 @hw) ?_;refine⟨⟨k+1,by omega,by rw[R];simp[DX];omega⟩,by simp only;omega,?_⟩;exact DH;have e:DX Q M l=true:=by rw[R,FA (by omega)];rfl
 refine go (cj @B<|@AV.eq_1) ?_;exact At (cj ve<| @e)
theorem bf (n M Q:Int):AC AF 173 [.c (.int .i64 n),.c (.int .i64 M),.c (.int .i64 Q)] (.c (.bool (DX M Q [n]))):=by
 by_cases B:M<=n;refine en R3 ntmps173 ?_;refine go @B ?_;exact At (cj2 results173 @DX.eq_1 @B);refine en R3 ntmps173 ?_;refine go @B ?_;exact At (cj2 results173 @DX.eq_1 @B)
theorem AHO (g:BG):AC AF 175 [Hg g] (.c (.bool (DX (-20000) 20000 g.OQ))):=by
 unfold Hg;refine AC.intro func175 rfl ?_;simp only[ntmps175,Ap,BB,BA,BO,Nat.reduceAdd,Nat.reduceSub,BY,List.replicate_zero,BK,BU,BG.row];refine Ah ?_;refine lp (ι:={ k:Nat // k<=5/\DX (-20000) 20000 g.OQ=DX (-20000) 20000 (g.OQ.drop k) }) (λk=>[(4,.c (.int .i64 (k.1:Int))),(2,.c (.bool U))]) (λ_=>[.box 54 (g.row.map V.c) U]) (λk=>5 - k.1) ⟨0,by simp⟩ ?_ ?_;all_goals simp only[CG,Bw,CO,Ag,Ai]
 exact ER @BG.row.eq_1;rintro ⟨k,hk,M⟩;by_cases B:k<5;have S:G g.OQ=5:=F;obtain⟨n,hn⟩:∃n,g.OQ[k]'(by rw[S];exact B)=n:=⟨_,rfl⟩
 rw[D5 (by rw[S];exact B),hn]at M;have q:([[C.int AZ g.w],[C.int AZ g.h],[C.int AZ g.d],[C.int AZ g.Ey],[C.int AZ g.attach]]:List (List C))[k]?=J [.int .i64 n]:=by
  have e:([[C.int AZ g.w],[C.int AZ g.h],[C.int AZ g.d],[C.int AZ g.Ey],[C.int AZ g.attach]]:List (List C))=g.OQ.map λn=>[C.int .i64 n]:=F
  rw[e,CM,BE (by rw[S];exact B),hn];rfl
 have R:(k:Int)<5:=by omega
 refine go (cj @R<|@q) ?_;refine BZ (bf n (-20000) 20000) R3 ?_;cases Q:DX (-20000) 20000 [n]with
 | false =>
   have e:DX (-20000) 20000 g.OQ=false:=by rw[M];simp[DX]at Q ⊢;omega
   refine go @Q ?_;exact At (cj vJ<| @e)
 | true =>
   have z:AZ.wrap ((k:Int)+1)=((k+1:Nat):Int):=by rw[Ac];simp
   refine go (cj @Q<|@z) ?_;refine⟨⟨k+1,by omega,by rw[M];simp[DX]at Q ⊢;omega⟩,by simp only;omega,?_⟩;exact ER @BG.row.eq_1
 have e:DX (-20000) 20000 g.OQ=true:=by rw[M,FA (by show 5<=k;omega)];rfl
 have R : ¬(k:Int)<5:=by omega
 refine go @R ?_;exact At (cj vJ<| @e)
theorem Ajp (n p:Int)(Q:0<=n)(R:n<=1099511627776)(M:0<=p)(S:p<=10000):AC AF 263 [.c (.int .i64 n),.c (.int .i64 p)] (.c (.int .i64 (Ea (n*p) 100))):=by
 have hb:=Qh n p 1099511627776 10000 (by omega) R M S;have q:0<=n*p:=Int.mul_nonneg Q M;have B : ¬n<0:=by omega
 have z:AZ.wrap (2*n)=2*n:=Ac;have w2:AZ.wrap (2*n*p)=2*n*p:=wrap_i64 (by rw[AEW];omega) (by rw[AEW];omega);have w3:AZ.wrap (2*n*p+100)=2*n*p+100:=wrap_i64 (by rw[AEW];omega) (by rw[AEW];omega);have e:Ea (n*p) 100=(2*n*p+100).tdiv 200:=by
  unfold Ea;rw[if_pos q,Int.tdiv_eq_ediv_of_nonneg (by rw[AEW];omega),AEW];rfl
 have w4:AZ.wrap ((2*n*p+100).tdiv 200)=Ea (n*p) 100:=by
  rw[<-e];have:=AKS (n*p) 109951162777600 (by omega) (by omega);exact Ac
 refine en Sa ntmps263 ?_;refine go (cj4 @B @z @w2 @w3 @w4) ?_;exact At ADN
theorem Am6 (a:Int):Ea (-a) 100= -Ea a 100:=by
 unfold Ea;split<;>split<;>omega
theorem Ajo (n p:Int)(S : -1099511627776<=n)(R:n<=1099511627776)(M:0<=p)(Q:p<=10000):AC AF 263 [.c (.int .i64 n),.c (.int .i64 p)] (.c (.int .i64 (Ea (n*p) 100))):=by
 by_cases B:n<0;have hb:=Qh n p 1099511627776 10000 S R M Q;have q:AZ.wrap (-n)= -n:=Ac;have hr:=AKS (n*p) 109951162777600 (by omega) (by omega);have z:AZ.wrap (Ea (n*p) 100)=Ea (n*p) 100:=Ac;have e:Ea (-n*p) 100= -Ea (n*p) 100:=by rw[Int.neg_mul,Am6]
 refine en Sa ntmps263 ?_;refine go (cj @B<|@q) ?_;refine gc (cj @e<|@z) (Ajp (-n) p (by omega) (by omega) M Q) Sa ?_;refine Ah ?_;exact At ADN;exact Ajp n p (by omega) R M Q
theorem toCs_app : ∀ {a b:List V} {x y:List C},toCs a=J x->toCs b=J y->toCs (a++b)=J (x++y)
 | [],b,x,y,h,B=>by simp[toCs]at h;subst h;simpa using B
 | v::a,b,x,y,h,B=>by
   simp only[toCs]at h;split at h;rename_i c r M Q;cases h;simp only[BK,toCs,M,toCs_app Q B];cases h
theorem toCs_rep {z:List V}{c:List C}(h:toCs z=J c):∀n:Nat,toCs (Aq n z).flatten=J (Aq n c).flatten
 | 0=>rfl
 | n+1=>by simp only[BY,List.flatten_cons];exact toCs_app h (toCs_rep h n)
def vx (P:Program)(o:Oper)(a:Act)(S0:BF)(w0:Bs)(x:Cx)(w:World)(H:Bx)(v:V)(t:Option (Nat×O)):Prop:=
 ∃nx w' x' u,(execOp a.eval o).run P w=.ok nx w'/\(nx=.value u\/(nx=.skip/\u=undef))/\CV x' w' v u/\Good S0 w0 x' w' (H.upd t)/\Ext x x' w w'
theorem TW.ub {P:Program}{ops:List Oper}{K:List Ef->St->Prop}{r:List Oper}{B:List Ef}(e:Ef)(hg:BQ ops s.t o.guard=J I)(q : ∀k ob,e.t=J (k,ob)->k<=G s.h)(hR : ∀(S:BF) (w0:Bs) (x:Cx) (a:Act) (w:World) (H:Bx),Good S w0 x w H->(∀y∈o.op.operands.toList,CV x w (ev s.t y) (a.eval y))->(∀k,e.rk=J k->H k=s.h[k]?)->vx P o a S w0 x w H e.v e.t)(h:TW P ops K r (B++[e]) (s.step o.dst e.v e.t)):TW P ops K (o::r) B s:=by
 obtain⟨es,s2,h2,h3⟩:=h;refine⟨e::es,s2,⟨e,es,F,?_,q,h2⟩,by simpa using h3⟩;intro S w0 x w a H g hl hr _ Q next hn;rw[QF hl hg];obtain⟨nx,w',x',u,R,EH,M,z,he⟩:=hR S w0 x a w H g (QR hl) λk q=>hr k (.inl q)
 show o.wp P a w next Q;unfold Oper.wp;rw[R];rcases EH with rfl|⟨rfl,rfl⟩
 exact hn u x' w' z he M;exact hn undef x' w' z he M
theorem AIy {P:Program}{a:Act}{S0:BF}{w0:Bs}{x:Cx}{w:World}{H:Bx}(g:Good S0 w0 x w H){t:TypeId}{y z:Operand}(ho:o.op=.makeSlice t y z){Ae:TypeId}{es Bq:Nat}(ht:Dk P t=J (Ae,es,Bq)){k k':IntKind}{l:Int}(hy:CV x w (.c (.int k l)) (a.eval y))(hz:CV x w (.c (.int k' l)) (a.eval z)){zl:List V}(A0:C2 P Ae=J zl){zc:List C}(Ww:toCs zl=J zc)(h0:0<=l)(h1:(Bq:Int)*l<=281474976710656)(h2:l<=140737488355328):vx P o a S0 w0 x w H (.Bg (Aq l.toNat zc)) none:=by
 obtain⟨hu,ie,B,EB,VD,q,Q,A1⟩:=JS ht;obtain⟨zk,Y9,IN,i2,J9,R8⟩:=Z2 (x:=x) (w:=w) A0;rw[EB]at J9;cases J9;rw[VD]at R8;cases R8;simp only[CV,Ab]at hy hz;have M:=run_make (P:=P) w t Ae ie B hu EB VD k k' l l h0 (Int.le_refl _) (by rw[Q];exact h1) (by omega);rw[q]at M;have R:AO x w (Aq l.toNat zl).flatten (madeCells B.cells (l.toNat*es)).toList:=by rw[AAd B.cells A1];exact IN.px _
 have DK:=toCs_ok (toCs_rep Ww l.toNat) R;have Rr:(madeCells B.cells (l.toNat*es)).size=l.toNat*es:=by simp[size_madeCells]
 obtain⟨S',g',he,Fh⟩:=g.AIf Ae (madeCells B.cells (l.toNat*es)) (l.toNat*es) (by omega) w (Ay.refl w) rfl (l:=(Aq l.toNat zc).flatten) (by rw[Gl (by rw[FW];omega)];exact DK);have S:G zc=es:=by
  have q1:=IN.len;have q2:=toCs_len Ww;simp only[FW]at q1;omega
 refine⟨_,_,_,.slice (J ⟨w.heap.size,0,E⟩) l.toNat l.toNat,by simp only[execOp,ho,hy.1,hz.1,Sem.run_bind,M,Result.andThen_ok];rfl,.inl F,?_,g',he⟩;simp only[CV,Ab,List.length_replicate];exact⟨J ⟨w.heap.size,0,E⟩,F,J ⟨w.heap.size,0,E⟩,l.toNat,F,Nat.le_refl _,by unfold maxLen;omega,λ_=>⟨w.heap.size,0,es,rfl,λr M=>by rw[List.eq_of_mem_replicate M,S],D9.flat.2 Fh⟩⟩
section
variable {P:Program} {m:Mo}
def HZ (m:Mo)(P:Program)(c:Code)(K:Exit->St->Prop)(s:St):Prop:=
 ∀(n:Nat) (S0:BF) (w0:Bs) (x:Cx) (a:Act) (w:World),w0.n0<=m.n0->2<=n->(∃lp,m.rd=J lp/\w0.F lp/\∃r,w0.w.heap[lp]?=J (.loop r))->Bo S0 w0 x s a w->c.wpIn (fz m) n P (λe a w=>∃x s,Bo S0 w0 x s a w/\K e s) a w
theorem HZ.of (h:AW m P c K s):HZ m P c K s:=λn B R x a w Q _ _ M=>h n B R x a w Q M
theorem HZ.seq {c d:Code}(h:HZ m P c (NH (HZ m P d K) K) s):HZ m P (.seq c d) K s:=λn B z x a w S q R hA=>wpIn_seq (wpIn_mono (h n B z x a w S q R hA) λe a w ⟨x,s,M,Q⟩=>by
 cases e with
 | normal=>exact Q n B z x a w S q R M
 | _=>exact⟨x,s,M,Q⟩)
theorem HZ.le {s s':St}(z:Le m s s')(h:HZ m P c K s'):HZ m P c K s:=λn M R x a w Q hn B q=>let ⟨x',S⟩:=z M R x a w Q q;h n M R x' a w Q hn B S
theorem HZ.block {id:Nat}(h:HZ m P c (Sz id K) s):HZ m P (.block id c) K s:=λn Q w0 x a w q z S R=>wpIn_block (wpIn_mono (h n Q w0 x a w q z S R) λe a w ⟨x,s,M,B⟩=>by
 cases e with
 | exit i=>simp only[Sz,Exit.inBlock]at B ⊢;split;rename_i e;rw[if_pos e]at B;exact⟨x,s,M,B⟩;rename_i e;rw[if_neg e]at B;exact⟨x,s,M,B⟩
 | _=>exact⟨x,s,M,B⟩)
theorem AW.AXa {n1:Nat}{g:Operand}{p d:Tmp}{id:Nat}{body:Code}{gf:FuncId}{caps Lj:List V}{fn:Func}(ho:o.op=.assign (.tmp p))(Rs:o.dst=some d)(hgd:o.guard=none)(hg:ev s.t g=.fn gf caps)(hp:V.CF caps=some Lj)(Ff:P.funcs[gf]?=some fn)(Iq:fn.body.isSome=true)(Hy:(fn.name == "runtime.NumGoroutine")=false)(enc:α->Value)(Ij:α->V)(Wb : ∀x' W y,CV x' W (Ij y) (enc y))(Sx:List α->Prop)(N:Nat)(NU:UU P gf Lj (λy=>#[enc y]) Sx N)(hf:List α->List O)(h0:s.h=hf [])(n0:Nat)(hlen : ∀pre,(hf pre).length=n0)(hpl:p<s.t.length)(HK : ∀(lp:Nat) (pre:List α) (y:α),pre.length<N->HZ ⟨some lp,n0⟩ P body (λe s'=>e=.normal/\∃t',Le ⟨some lp,n0⟩ s' ⟨t',hf (pre++[y])⟩) ⟨(s.t.set p (Ij y)).set d (Ij y),hf pre⟩)(hdone : ∀xs,Sx xs->K .normal ⟨s.t,hf xs⟩)(Hi : ∀pre,((hf pre).all O.Tn)=true:=by intro _;rfl):AW ⟨none,n1⟩ P (.rangeFunc g #[p] (.region id #[o] false) body) K s:=λn S0 w0 x a w hm hA=>by
 have FI:=CW hA.tm g;rw[hg]at FI;simp only[CV]at FI;obtain⟨lb,FI,EP⟩:=FI;have hc':=MC _ _ _ hp EP;have hb:fn.body≠none:=by intro e;rw[e]at Iq;cases Iq
 have hn:fn.name≠ "runtime.NumGoroutine":=by simpa using Hy
 have eg : ∀args w,(callFunc gf args).run P w=.ok (.enter gf args) w:=λargs w=>by simp[callFunc,program,Sem.run,Ff,hn,hb]
 have hsize : ∀ {D:Nat},w.heap.size<=D->¬w0.F D:=λh=>hA.good.fresh h
 have PA : ∀Ds:List Nat,a.defers=Ds.map (λD=>{ target:=.collected D,args:=#[] })->∀D∈Ds,D<w.heap.size:=by
  intro Ds e D hD;obtain⟨n9,f1,f2,f3⟩:=hA.df;have hm:({ target:=.collected D,args:=#[] }:Deferred)∈a.defers:=by rw[e];exact List.mem_map.2 ⟨D,hD,rfl⟩
  rw[f1]at hm;obtain⟨D',Fs,e'⟩:=List.mem_map.1 hm;have:D'=D:=by injection e' with e1 e2;injection e1
  subst this;exact(Array.getElem?_eq_some_iff.1 (f3 D' Fs).2).1
 have hs:s=⟨s.t,hf []⟩:=by rw[<-h0]
 refine wpIn_wide.2 ((wpIn_wide (n:=5)).1 (wpIn_rangeFunc_ownH (F:=Fence.wide) (n:=5) (α:=α) (ps:=#[p]) (encs:=λy=>#[enc y]) (Kp:=F3 x.S) (S:=Sx) (Sp:=λ_=>True) (N:=N) (w0:=w) rfl (by omega) FI trivial eg (NU _ x.S w lb hA.good.ex hc') (λh k=>h.trans k) (λW l o o' _ h hc _=>F3.put W l o o' h hc) (Below.refl _ _) (λ_=>rfl)
  (λpre W=>∃x',Bo S0 w0 x' ⟨s.t,hf pre⟩ a W/\Ar x.S x'.S w W) (λ_ _ _=>False) ?_ (λ_ _ _ _ _ h=>h.elim) ⟨x,by rw[<-hs];exact hA,Ar.refl _ _⟩
  (λy a' _=>a'={ tmps:=((#[p].zip #[enc y]).foldl (λt (p,v)=>t.setIfInBounds p v) a.tmps).setIfInBounds d (((#[p].zip #[enc y]).foldl (λt (p,v)=>t.setIfInBounds p v) a.tmps).getD p undef),defers:=[] }) (λ_ _ _ _ _ _ h _ _=>h) ?_ ?_ ?_ (λ_ _ _ _ _ _ h _=>h.elim)))
 rintro pre W W' row ⟨x',Au,CZ⟩ hgr hr;obtain⟨g',he⟩:=Au.good.jI (To (Hi pre)) hgr λr e=>⟨hsize (hr r e).1,(hr r e).2⟩
 refine⟨x',⟨g',AO.mono he _ _ Au.tm,?_⟩,CZ.trans he.ar⟩;obtain⟨Ds,e1,e2,e3⟩:=Au.df;refine⟨Ds,e1,e2,λD hD=>⟨(e3 D hD).1,?_⟩⟩;have h2:=(e3 D hD).2;rw[hgr.block D (Array.getElem?_eq_some_iff.1 h2).1 (λe=>by have:=(hr D e.symm).1;have:=PA Ds e1 D hD;omega)];exact h2;intro l pre y W K hI hK;exact iP ho Rs hgd (hK _ W (KeepsFrom.refl _ _) (F3.refl _ _) hI rfl);rintro l pre y a' W hl Iz ⟨x',Au,CZ⟩ rfl hN;have Ls : ∀k,x'.dom k->k<n0:=λk hk=>by
  obtain⟨o,ho⟩:=Au.good.dom k hk;have:=(List.getElem?_eq_some_iff.1 ho).1;rw[<-hlen pre];exact this
 have DJ:AO x' W ((s.t.set p (Ij y)).set d (Ij y)) (((#[p].zip #[enc y]).foldl (λt (p,v)=>t.setIfInBounds p v) a.tmps).setIfInBounds d (((#[p].zip #[enc y]).foldl (λt (p,v)=>t.setIfInBounds p v) a.tmps).getD p undef)).toList:=by
  have e1:((#[p].zip #[enc y]).foldl (λ(t:Array Value) (q:Tmp×Value)=>t.setIfInBounds q.1 q.2) a.tmps)=a.tmps.setIfInBounds p (enc y):=by simp
  have hl:a.tmps.size=s.t.length:=by have:=Au.tm.len;simpa using this
  have e2:(a.tmps.setIfInBounds p (enc y)).getD p undef=enc y:=by
   rw[Array.getD_eq_getD_getElem?,Array.getElem?_setIfInBounds_self_of_lt (by rw[hl];exact hpl)];rfl
  rw[e1,e2];simp only[Array.toList_setIfInBounds];exact(Au.tm.set p (Wb _ _ _)).set d (Wb _ _ _)
 have Ec:Bo x'.S (w0.XQ W Au.good.keep.size x' n0 Ls) x' ⟨(s.t.set p (Ij y)).set d (Ij y),hf pre⟩ { tmps:=((#[p].zip #[enc y]).foldl (λt (p,v)=>t.setIfInBounds p v) a.tmps).setIfInBounds d (((#[p].zip #[enc y]).foldl (λt (p,v)=>t.setIfInBounds p v) a.tmps).getD p undef),defers:=[] } W:=⟨Au.good.lB (To (Hi pre)) n0 Ls,DJ,Marks.nil _ _⟩
 refine wpIn_mono (HK l pre y hN _ _ _ _ _ _ (Nat.le_refl _) (by omega) ⟨l,rfl,?_,Iz⟩ Ec) λe oL Xx Rd=>?_
 obtain⟨r,hr⟩:=Iz;exact .inr ⟨_,hr,rfl⟩;obtain⟨x2,s2,Fb,rfl,t',hle⟩:=Rd;obtain⟨x3,Ik⟩:=hle _ _ _ _ _ (Nat.le_refl _) Fb;obtain⟨g3,CB⟩:=Au.good.lZ Ik.good;have Fe:Ext x' x3 W Xx:=Ik.good.ext;exact⟨⟨CB.size,λk o _ hk ho=>CB.same k o hk ho⟩,⟨CB.size,λ_ _ h=>h,λb j v h hc=>Fe.ar.cell b j v (CZ.sub b j h) hc⟩,x3,⟨g3,AO.mono Fe _ _ Au.tm,Au.df.mono CB.nc⟩,CZ.trans Fe.ar⟩;rintro D xs W hD hS ⟨x',Au,CZ⟩ Rm;obtain⟨Ds,e1,e2,e3⟩:=Au.df;refine⟨x',⟨s.t,hf xs⟩,⟨Au.good,Au.tm,D::Ds,by simp[e1],List.nodup_cons.2 ⟨λh=>by have:=PA Ds e1 D h;omega,e2⟩,λD' Fs=>?_⟩,hdone xs hS⟩;rcases List.mem_cons.1 Fs with rfl|h
 exact⟨hsize hD,Rm⟩;exact e3 D' h
theorem HZ.range {l0 n1:Nat}{g:Operand}{p d:Tmp}{id:Nat}{body:Code}{gf:FuncId}{caps Lj:List V}{fn:Func}(ho:o.op=.assign (.tmp p))(Rs:o.dst=some d)(hgd:o.guard=none)(hg:ev s.t g=.fn gf caps)(hp:V.CF caps=some Lj)(Ff:P.funcs[gf]?=some fn)(Iq:fn.body.isSome=true)(Hy:(fn.name == "runtime.NumGoroutine")=false)(enc:α->Value)(Ij:α->V)(Wb : ∀x' W y,CV x' W (Ij y) (enc y))(Sx:List α->Prop)(N:Nat)(NU:UU P gf Lj (λy=>#[enc y]) Sx N)(hf:List α->List O)(h0:s.h=hf [])(n0:Nat)(hlen : ∀pre,(hf pre).length=n0)(hpl:p<s.t.length)(HK : ∀(lp:Nat) (pre:List α) (y:α),pre.length<N->AW ⟨some lp,n0⟩ P body (λe s'=>e=.normal/\∃t',Le ⟨some lp,n0⟩ s' ⟨t',hf (pre++[y])⟩) ⟨(s.t.set p (Ij y)).set d (Ij y),hf pre⟩)(hdone : ∀xs,Sx xs->K .normal ⟨s.t,hf xs⟩)(Hi : ∀pre,((hf pre).all O.Tn)=true:=by intro _;rfl):HZ ⟨some l0,n1⟩ P (.rangeFunc g #[p] (.region id #[o] false) body) K s:=λn S0 w0 x a w hm KY Av hA=>by
 obtain⟨lp0,e0,hF0,r0,Jh⟩:=Av;cases e0;have hL0:w.heap[l0]?=some (.loop r0):=(hA.good.keep.block l0 (Array.getElem?_eq_some_iff.1 Jh).1 λhn=>hn hF0).trans Jh;have FI:=CW hA.tm g;rw[hg]at FI;simp only[CV]at FI;obtain⟨lb,FI,EP⟩:=FI;have hc':=MC _ _ _ hp EP;have hb:fn.body≠none:=by intro e;rw[e]at Iq;cases Iq
 have hn:fn.name≠ "runtime.NumGoroutine":=by simpa using Hy
 have eg : ∀args w,(callFunc gf args).run P w=.ok (.enter gf args) w:=λargs w=>by simp[callFunc,program,Sem.run,Ff,hn,hb]
 have hsize : ∀ {D:Nat},w.heap.size<=D->¬w0.F D:=λh=>hA.good.fresh h
 have PA : ∀Ds:List Nat,a.defers=Ds.map (λD=>{ target:=.collected D,args:=#[] })->∀D∈Ds,D<w.heap.size:=by
  intro Ds e D hD;obtain⟨n9,f1,f2,f3⟩:=hA.df;have hm:({ target:=.collected D,args:=#[] }:Deferred)∈a.defers:=by rw[e];exact List.mem_map.2 ⟨D,hD,rfl⟩
  rw[f1]at hm;obtain⟨D',Fs,e'⟩:=List.mem_map.1 hm;have:D'=D:=by injection e' with e1 e2;injection e1
  subst this;exact(Array.getElem?_eq_some_iff.1 (f3 D' Fs).2).1
 have hs:s=⟨s.t,hf []⟩:=by rw[<-h0]
 refine wpIn_rangeFunc_ownN (F:=Fence.wide.inRound l0) (n:=n) (α:=α) (ps:=#[p]) (encs:=λy=>#[enc y]) (Kp:=F3 x.S) (S:=Sx) (Sp:=λ_=>True) (N:=N) (w0:=w) rfl hL0 (by omega) FI trivial eg ((NU _ x.S w lb hA.good.ex hc').inRound l0) (λh k=>h.trans k) (λW l o o' _ h hc _=>F3.put W l o o' h hc) (Below.refl _ _) (λ_=>rfl)
  (λpre W=>∃x',Bo S0 w0 x' ⟨s.t,hf pre⟩ a W/\Ar x.S x'.S w W) (λ_ _ _=>False) ?_ (λ_ _ _ _ _ h=>h.elim) ⟨x,by rw[<-hs];exact hA,Ar.refl _ _⟩
  (λy a' _=>a'={ tmps:=((#[p].zip #[enc y]).foldl (λt (p,v)=>t.setIfInBounds p v) a.tmps).setIfInBounds d (((#[p].zip #[enc y]).foldl (λt (p,v)=>t.setIfInBounds p v) a.tmps).getD p undef),defers:=[] }) (λ_ _ _ _ _ _ h _ _=>h) ?_ ?_ ?_ (λ_ _ _ _ h _=>h.elim)
 rintro pre W W' row ⟨x',Au,CZ⟩ hgr hr;obtain⟨g',he⟩:=Au.good.jI (To (Hi pre)) hgr λr e=>⟨hsize (hr r e).1,(hr r e).2⟩
 refine⟨x',⟨g',AO.mono he _ _ Au.tm,?_⟩,CZ.trans he.ar⟩;obtain⟨Ds,e1,e2,e3⟩:=Au.df;refine⟨Ds,e1,e2,λD hD=>⟨(e3 D hD).1,?_⟩⟩;have h2:=(e3 D hD).2;rw[hgr.block D (Array.getElem?_eq_some_iff.1 h2).1 (λe=>by have:=(hr D e.symm).1;have:=PA Ds e1 D hD;omega)];exact h2;intro l pre y W K hI hK;exact iP ho Rs hgd (hK _ W (KeepsFrom.refl _ _) (F3.refl _ _) hI rfl);rintro l pre y a' W hl Iz ⟨x',Au,CZ⟩ rfl hN;have Ls : ∀k,x'.dom k->k<n0:=λk hk=>by
  obtain⟨o,ho⟩:=Au.good.dom k hk;have:=(List.getElem?_eq_some_iff.1 ho).1;rw[<-hlen pre];exact this
 have DJ:AO x' W ((s.t.set p (Ij y)).set d (Ij y)) (((#[p].zip #[enc y]).foldl (λt (p,v)=>t.setIfInBounds p v) a.tmps).setIfInBounds d (((#[p].zip #[enc y]).foldl (λt (p,v)=>t.setIfInBounds p v) a.tmps).getD p undef)).toList:=by
  have e1:((#[p].zip #[enc y]).foldl (λ(t:Array Value) (q:Tmp×Value)=>t.setIfInBounds q.1 q.2) a.tmps)=a.tmps.setIfInBounds p (enc y):=by simp
  have hl:a.tmps.size=s.t.length:=by have:=Au.tm.len;simpa using this
  have e2:(a.tmps.setIfInBounds p (enc y)).getD p undef=enc y:=by
   rw[Array.getD_eq_getD_getElem?,Array.getElem?_setIfInBounds_self_of_lt (by rw[hl];exact hpl)];rfl
  rw[e1,e2];simp only[Array.toList_setIfInBounds];exact(Au.tm.set p (Wb _ _ _)).set d (Wb _ _ _)
 have Ec:Bo x'.S (w0.XQ W Au.good.keep.size x' n0 Ls) x' ⟨(s.t.set p (Ij y)).set d (Ij y),hf pre⟩ { tmps:=((#[p].zip #[enc y]).foldl (λt (p,v)=>t.setIfInBounds p v) a.tmps).setIfInBounds d (((#[p].zip #[enc y]).foldl (λt (p,v)=>t.setIfInBounds p v) a.tmps).getD p undef),defers:=[] } W:=⟨Au.good.lB (To (Hi pre)) n0 Ls,DJ,Marks.nil _ _⟩
 refine wpIn_mono (HK l pre y hN _ _ _ _ _ _ (Nat.le_refl _) Ec) λe oL Xx Rd=>?_
 obtain⟨x2,s2,Fb,rfl,t',hle⟩:=Rd;obtain⟨x3,Ik⟩:=hle _ _ _ _ _ (Nat.le_refl _) Fb;obtain⟨g3,CB⟩:=Au.good.lZ Ik.good;have Fe:Ext x' x3 W Xx:=Ik.good.ext;exact⟨⟨CB.size,λk o _ hk ho=>CB.same k o hk ho⟩,⟨CB.size,λ_ _ h=>h,λb j v h hc=>Fe.ar.cell b j v (CZ.sub b j h) hc⟩,x3,⟨g3,AO.mono Fe _ _ Au.tm,Au.df.mono CB.nc⟩,CZ.trans Fe.ar⟩;rintro xs W hS ⟨x',Au,CZ⟩;exact⟨x',⟨s.t,hf xs⟩,Au,hdone xs hS⟩
end
end Go.Proofs.YtglaipbdiofkfaaGreat
