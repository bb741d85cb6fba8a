/- Part of the proof of breakpointLength.proved. Conditions: none. (Joined and shortened by a program.) -/
import Derived.Carry
import Derived.Test.YtpodcjcajanldaaGreatP28
import Derived.Test.YtpodcjcajanldaaGreatP31
set_option linter.unusedVariables false
set_option linter.unusedSimpArgs false
set_option maxRecDepth 100000
set_option maxHeartbeats 16000000
open Go.DataW renaming trod→OG,TrodAll→Zx
open List renaming mapM_cons→oR,mem_cons→Cb,getElem?_eq_some_iff→Bv,map_nil→A8,range→E8,getElem?_eq_getElem→BP,map_map→Mi,mem_map→DC,mem_range→Lo,getElem?_map→Co,append_nil→D8,getElem?_cons_succ→Kd,take_succ_cons→E9,length_cons→BQ,replicate→As,replicate_succ→Ao,map_cons→Al,mem_cons_self→Er,mem_cons_of_mem→Ff,drop_succ_cons→Be,drop_zero→BO,set_cons_zero→BC,set_cons_succ→Az,take_of_length_le→D9
open Function renaming comp→xb
open Option renaming map_eq_some_iff→G6
open Go.Value renaming okWide→bK
open Go.Proofs.Tryz renaming prog→AD,results112→aZ,func163→aG,ntmps163→aT,func97→Q4,results163→Vl,func224→Hh
open Bool renaming and_self→GR,and_eq_true→An
open Go.IntKind renaming i64→Ad
open Option.some renaming inj→JW
namespace Go.Proofs.YtpodcjcajanldaaGreat
open Go.RowKit
def CM (w:World):Ba:=fun b _=>b<w.heap.size
section
variable {H α β:Type} {enc:TypeId×Value->H} {P:Program} {w:World} {fuel:Nat} {t e:TypeId}
def DD (enc:TypeId×Value->H)(P:Program)(w:World)(fuel:Nat)(t:TypeId)(R:α->List C)(Q:α->Prop):Prop:=
 ∀(sp:Nat->Bool) (base:Nat) (held:Bool) (cs:List Value) (x:DataW H×List MemPlace),OG enc P w base sp held fuel t cs=some x->∃a,Bj (CM w) w (R a) cs/\Q a
theorem DD.zero {R:α->List C}{Q:α->Prop}:DD enc P w 0 t R Q:=by intro sp base held cs x h;simp[OG]at h
theorem DD.conv {R:α->List C}{Q:α->Prop}{R':β->List C}{Q':β->Prop}(h:DD enc P w fuel t R Q)(f:α->β)(hR : ∀a,R a=R' (f a))(hQ : ∀a,Q a->Q' (f a)):DD enc P w fuel t R' Q':=by
 intro sp base held cs x hx;obtain⟨a,h1,h2⟩:=h sp base held cs x hx;exact⟨f a,by rw[<-hR];exact h1,hQ a h2⟩
theorem FU {k:IntKind}(hu:P.underlying t=some (.int k)):DD enc P w fuel t (fun n:Int=>[.int k n]) (fun _=>True):=by
 cases fuel with
 | zero=>exact DD.zero
 | succ fuel =>
   intro sp base held cs x h;unfold OG at h;rw[hu]at h;split at h<;>try (exfalso;simp_all;done)
   rename_i k1 k2 n he;cases he;split at h
   . rename_i hc;obtain⟨rfl,hw⟩:=hc;simp only[Bj,Ap];exact⟨n,⟨_,_,rfl,⟨rfl,hw⟩,rfl⟩,trivial⟩
   . cases h
theorem mS (hu:P.underlying t=some .bool):DD enc P w fuel t (fun b:Bool=>[.bool b]) (fun _=>True):=by
 cases fuel with
 | zero=>exact DD.zero
 | succ fuel =>
   intro sp base held cs x h;unfold OG at h;rw[hu]at h;split at h<;>try (exfalso;simp_all;done)
   rename_i b he;simp only[Bj,Ap];exact⟨b,⟨_,_,rfl,rfl,rfl⟩,trivial⟩
theorem ZW (hu:P.underlying t=some .string):DD enc P w fuel t (fun s:ByteArray=>[.str s]) (fun s=>s.size<=maxLen):=by
 cases fuel with
 | zero=>exact DD.zero
 | succ fuel =>
   intro sp base held cs x h;unfold OG at h;rw[hu]at h;split at h<;>try (exfalso;simp_all;done)
   rename_i s he;split at h
   . rename_i hs;simp only[Bj,Ap];exact⟨s,⟨_,_,rfl,⟨rfl,hs⟩,rfl⟩,hs⟩
   . cases h
theorem Df.vF {S:Ba}{es:Nat} : ∀ {rows:List (List C)} {b off:Nat},(∀r∈rows,r.length=es)->(∀(i:Nat) (r:List C),rows[i]?=some r->CR S w r b (off+i*es))->Df S w rows b off
 | [],_,_,_,_=>by simp only[Df]
 | r::rs,b,off,hl,h=>by
   simp only[Df];refine⟨by simpa using h 0 r rfl,Df.vF (fun r hr=>hl r (by simp[hr])) fun i r' hi=>?_⟩;have:=h (i+1) r' (by simpa using hi);rw[hl r (by simp)];rw[show off+es+i*es=off+(i+1)*es by rw[Nat.add_mul];omega];exact this
theorem ADj {γ δ:Type}{f:γ->Option δ} : ∀ {l:List γ} {xs:List δ},l.mapM f=some xs->∀y∈l,∃x,f y=some x
 | [],_,_,y,hy=>by cases hy
 | a::l,xs,h,y,hy=>by
   rw[oR]at h;cases ha:f a with
   | none=>rw[ha]at h;simp at h
   | some z =>
     rw[ha]at h;cases hl:l.mapM f with
     | none=>rw[hl]at h;simp at h
     | some zs =>
       rcases Cb.1 hy with rfl|hy
       . exact⟨z,ha⟩
       . exact ADj hl y hy
theorem ADk {γ δ:Type}{f:γ->Option δ} : ∀ {l:List γ} {xs:List δ},l.mapM f=some xs->xs.length=l.length/\∀(i:Nat) (y:γ),l[i]?=some y->f y=xs[i]?
 | [],xs,h=>by simp at h;subst h;exact⟨rfl,fun i y h=>by simp at h⟩
 | a::l,xs,h=>by
   rw[oR]at h;cases ha:f a with
   | none=>rw[ha]at h;simp at h
   | some z =>
     rw[ha]at h;cases hl:l.mapM f with
     | none=>rw[hl]at h;simp at h
     | some zs =>
       rw[hl]at h;simp at h;subst h;obtain⟨h1,h2⟩:=ADk hl;refine⟨by simp[h1],fun i y hi=>?_⟩;match i,hi with
       | 0,hi=>simp at hi;subst hi;simpa using ha
       | i+1,hi=>simpa using h2 i y (by simpa using hi)
theorem rH {base n:Nat}{a:Addr}{cs:List Value}(h:w.cells? base a n=some cs):cs.length=n/\∀j v,cs[j]?=some v->w.cell? (a.add j)=some v:=by
 unfold World.cells? at h;split at h
 . obtain⟨h1,h2⟩:=ADk h;refine⟨by simpa using h1,fun j v hj=>?_⟩;have hlt:j<n:=by have:=(Bv.1 hj).1;rw[h1]at this;simpa using this
   have:=h2 j j (by simp[hlt]);rw[this,hj]
 . cases h
theorem XV {n:Nat}{R:α->List C}{Q:α->Prop}(hu:P.underlying t=some (.slice e))(hc:P.cellsOf e=n)(hn:0<n)(h:DD enc P w fuel e R Q):DD enc P w (fuel+1) t (fun l:List α=>[.sl (l.map R)]) (fun l=>l.length<=maxLen/\∀a∈l,Q a):=by
 intro sp base held cs x hx;unfold OG at hx;rw[hu]at hx;split at hx<;>try (exfalso;simp_all;done)
 . refine⟨[],?_,by simp,by simp⟩;simp only[Bj,Ap,A8];exact⟨_,_,rfl,⟨none,0,rfl,by simp,by simp[maxLen],fun h=>absurd rfl h⟩,rfl⟩
 . rename_i e' a len cap he;cases he;split at hx
   . rename_i AMR;obtain⟨hb,hlc,hcm⟩:=AMR;cases hm:(E8 len).mapM (fun i=>(w.cells? base (a.add (i*P.cellsOf e)) (P.cellsOf e)).bind (OG enc P w base sp held fuel e))with
     | none=>simp only[hm]at hx;cases hx
     | some elems =>
       have MG : ∀i,i<len->∃ai,∃ci,w.cells? base (a.add (i*n)) n=some ci/\Bj (CM w) w (R ai) ci/\Q ai:=by
        intro i hi;obtain⟨y,hy⟩:=ADj hm i (by simpa using hi);rw[hc]at hy;cases hcs:w.cells? base (a.add (i*n)) n with
        | none=>rw[hcs]at hy;simp at hy
        | some ci =>
          rw[hcs]at hy;simp only[Option.bind_some]at hy;obtain⟨ai,h1,h2⟩:=h sp base held ci y hy;exact⟨ai,ci,rfl,h1,h2⟩
       by_cases h0:len=0
       . subst h0;refine⟨[],?_,by simp,by simp⟩;simp only[Bj,Ap,A8];exact⟨_,_,rfl,⟨some a,cap,rfl,by simp,hcm,fun h=>absurd rfl h⟩,rfl⟩
       . have hsp:a.spot=none:=by
          obtain⟨a0,c0,h1,h2,_⟩:=MG 0 (by omega);obtain⟨l1,l2⟩:=rH h1;have hlt:0<c0.length:=by omega
          have:=l2 0 c0[0] (BP hlt);simp only[Nat.zero_mul,Addr.add,if_true]at this;unfold World.cell? at this;split at this
          . split at this
            . cases this
            . rename_i hs;simpa using hs
          . cases this
         obtain⟨b,off,sp'⟩:=a;simp only at hsp;subst hsp;have hch : ∃g:Nat->α,∀i,i<len->∃ci,w.cells? base ((⟨b,off,none⟩:Addr).add (i*n)) n=some ci/\Bj (CM w) w (R (g i)) ci/\Q (g i):=by
          have hin:Nonempty α:=⟨(MG 0 (by omega)).choose⟩
          refine⟨fun i=>if hi:i<len then(MG i hi).choose else Classical.choice hin,fun i hi=>?_⟩;simp only[hi,dif_pos];exact(MG i hi).choose_spec
         obtain⟨g,hg⟩:=hch;have BU : ∀i,i<len->(R (g i)).length=n:=by
          intro i hi;obtain⟨ci,h1,h2,_⟩:=hg i hi;rw[<-h2.len,(rH h1).1]
         refine⟨(E8 len).map g,?_,by simp;omega,?_⟩
         . simp only[Bj,Ap];refine⟨_,_,rfl,⟨some ⟨b,off,none⟩,cap,by simp,by simpa using hlc,hcm,fun _=>⟨b,off,n,rfl,?_,?_⟩⟩,rfl⟩
           . intro r hr;simp only[Mi,DC,Lo,xb]at hr;obtain⟨i,hi,rfl⟩:=hr;exact BU i hi
           . refine Df.vF (es:=n) ?_ ?_
             . intro r hr;simp only[Mi,DC,Lo,xb]at hr;obtain⟨i,hi,rfl⟩:=hr;exact BU i hi
             . intro i r hr;simp only[Mi,Co,G6,xb]at hr;obtain⟨j,hj,rfl⟩:=hr;obtain⟨hlt,rfl⟩:=Bv.1 hj;simp only[List.length_range]at hlt;simp only[List.getElem_range];obtain⟨ci,h1,h2,_⟩:=hg i hlt;obtain⟨l1,l2⟩:=rH h1;refine CR.QX h2 (fun j u hu=>?_) (fun j hj=>?_)
               . have:=l2 j u hu;rw[I9,I9]at this;exact this
               . have JP:j<ci.length:=by rw[h2.len];exact hj
                 have:=l2 j ci[j] (BP JP);rw[I9,I9]at this;exact block_lt_of_cell this
         . intro y hy;simp only[DC,Lo]at hy;obtain⟨i,hi,rfl⟩:=hy;obtain⟨ci,_,_,h3⟩:=hg i hi;exact h3
   . cases hx
def Cj {φ:Type}(ty:φ->TypeId)(Hy:φ->Nat)(enc:TypeId×Value->H)(P:Program)(w:World)(fuel:Nat)(l:List φ)(o z:Nat)(R:β->List C)(Q:β->Prop):Prop:=
 ∀(sp:Nat->Bool) (base:Nat) (held:Bool) (cs:List Value) (xs:List (DataW H×List MemPlace)),l.mapM (fun f=>OG enc P w base sp held fuel (ty f) ((cs.drop (Hy f)).take (P.cellsOf (ty f))))=some xs->∃b,Bj (CM w) w (R b) ((cs.drop o).take (z - o))/\Q b
theorem Cj.nil {φ:Type}{ty:φ->TypeId}{Hy:φ->Nat}{z:Nat}:Cj ty Hy enc P w fuel [] z z (fun _:Unit=>[]) (fun _=>True):=by
 intro sp base held cs xs h;exact⟨(),by simp[Bj],trivial⟩
theorem Cj.cons {φ:Type}{ty:φ->TypeId}{Hy:φ->Nat}{f:φ}{l:List φ}{o o' z:Nat}{R1:α->List C}{Q1:α->Prop}{R2:β->List C}{Q2:β->Prop}(ho:Hy f=o)(hz:o+P.cellsOf (ty f)=o')(hle:o'<=z)(h1:DD enc P w fuel (ty f) R1 Q1)(h2:Cj ty Hy enc P w fuel l o' z R2 Q2) :
 Cj ty Hy enc P w fuel (f::l) o z (fun q:α×β=>R1 q.1++R2 q.2) (fun q=>Q1 q.1/\Q2 q.2):=by
 intro sp base held cs xs h;rw[oR]at h;cases ha:OG enc P w base sp held fuel (ty f) ((cs.drop (Hy f)).take (P.cellsOf (ty f)))with
 | none=>rw[ha]at h;simp at h
 | some y =>
   rw[ha]at h;cases hl:l.mapM (fun f=>OG enc P w base sp held fuel (ty f) ((cs.drop (Hy f)).take (P.cellsOf (ty f))))with
   | none=>simp only[hl]at h;simp at h
   | some ys =>
     obtain⟨a,k1,k2⟩:=h1 sp base held _ y ha;obtain⟨b,k3,k4⟩:=h2 sp base held cs ys hl;refine⟨(a,b),?_,k2,k4⟩;have e:(cs.drop o).take (z - o)=(cs.drop (Hy f)).take (P.cellsOf (ty f))++(cs.drop o').take (z - o'):=by
      rw[ho,show z - o=P.cellsOf (ty f)+(z - o')by omega,List.take_add,List.drop_drop,hz]
     rw[e];exact k1.append k3
theorem Rr {fs:Array Field}{z:Nat}{R:β->List C}{Q:β->Prop}(hu:P.underlying t=some (.struct fs))(hc:P.cellsOf t=z)(h:Cj Field.type Field.offset enc P w fuel fs.toList 0 z R Q):DD enc P w (fuel+1) t R Q:=by
 intro sp base held cs x hx;unfold OG at hx;rw[hu]at hx;change (if cs.length=P.cellsOf t then(fs.toList.mapM fun f=>OG enc P w base sp held fuel f.type ((cs.drop f.offset).take (P.cellsOf f.type))).map (fun xs=>(DataW.agg (xs.map (·.1)),xs.flatMap (·.2)))else none)=some x at hx;split at hx
 . rename_i hl;cases hm:fs.toList.mapM (fun f=>OG enc P w base sp held fuel f.type ((cs.drop f.offset).take (P.cellsOf f.type)))with
   | none=>simp only[hm]at hx;cases hx
   | some xs =>
     obtain⟨b,k1,k2⟩:=h sp base held cs xs hm;refine⟨b,?_,k2⟩;simpa [<-hc,<-hl]using k1
 . cases hx
end
section
open Go.RowKit Go.ChangeShapes
section
variable {H:Type} {enc:TypeId×Value->H} {P:Program}
theorem AHH (hl:laidOutB P=true){W W':World}(hb:AS W W'):∀ {ts:List TypeId} {vs:List Value} {ds:List (DataW H)} {ps:List MemPlace},(∀t∈ts,P.readableRec t=true/\t<P.types.size)->Zx enc P W 0 (fun _=>true) true ts vs ds ps->(∀x∈ps,x.block<W.heap.size)->
 Zx enc P W' 0 (fun b=>decide (b<W.heap.size)) true ts vs ds ps
 | [],[],[],ps,_,h,_=>h
 | t::ts,v::vs,d::ds,ps,ht,h,hp=>by
   obtain⟨p,q,h1,h2,rfl⟩:=h;obtain⟨r1,r2⟩:=ht t (by simp);exact⟨p,q,Below.trod hl r1 r2 h1 hb (fun x hx=>hp x (by simp[hx])),AHH hl hb (fun t h=>ht t (by simp[h])) h2 (fun x hx=>hp x (by simp[hx])),rfl⟩
theorem mA {f:Func}{s:ChangeSpec}{W W':World}{args:Array Value}{ds gs:List (DataW H)}{before:List MemPlace}{tb:TypeId}(hW:DataW.Whole enc P f.params.toList s.vars false W args.toList ds gs before)(hv:s.vars=[])(hr:f.resultTypes=#[tb])(hb:P.underlying tb=some .bool)(hl:laidOutB P=true)(hk:AS W W')(ht : ∀t∈f.params.toList,P.readableRec t=true/\t<P.types.size)(hs:(s.fn H ds).results=[.lit (.bool true)])(Oz:(s.fn H ds).args=ds)(hs3:(s.fn H ds).vars=[]):s.post enc P f false true false false W args (.bool true) W':=by
 have Oi:=hW;obtain⟨p,q,hA,hV,rfl,lJ,ZB⟩:=hW;have hlt : ∀x∈p++q,x.block<W.heap.size:=fun x hx=>by simpa using Oi.lt x hx
 rw[hv]at hV;have dZ:gs=[]/\q=[]:=by
  cases gs with
  | nil=>exact⟨rfl,hV⟩
  | cons _ _=>exact hV.elim
 obtain⟨rfl,rfl⟩:=dZ;refine⟨ds,[],p++[],[],p,[],Oi,?_,?_,?_,Below.frame hk _,fun h=>nomatch h⟩
 . rw[hr,D8,hs];exact trodAll_mk1 (shut_bool hb _)
 . rw[D8,Oz];exact AHH hl hk ht hA (fun x hx=>hlt x (by simp[hx]))
 . rw[hv,D8,hs3];rfl
theorem l9 {f:FuncId}{W:World}{args:Array Value}{vs:List V}{Q:Value->World->Prop}(h:AC P f vs (.c (.bool true)))(Ik:AL (Cx.bare (CM W)) W vs args.toList)(hQ : ∀W',AS W W'->Q (.bool true) W'):Calls P f args W fun e W'=>∃v,e=.returned v/\Q v W':=by
 have:=h (CM W) W args.toList (fun b j h=>h) Ik;rw[show args.toList.toArray=args by simp]at this;refine this.mono ?_;rintro e W' ⟨u,S',rfl,hk,_,_,hu⟩;simp only[CV,Ap]at hu;subst hu;exact⟨_,rfl,hQ W' hk⟩
theorem ABg {α:Type}{t:TypeId}{fs:Array Field}{W:World}{base b0:Nat}{sp:Nat->Bool}{held:Bool}{r:Reach}{v:Value}{d:DataW H}{ps:List MemPlace}{R:α->List C}{Q:α->Prop}(hu:P.underlying t=some (.struct fs))(hval:bK P W r b0 t v)(hd:DataW.Trod enc P W base sp held t v d ps)(ho : ∀fuel,DD enc P W fuel t R Q):∃a,Q a/\CV (Cx.bare (CM W)) W (.agg ((R a).map V.c)) v:=by
 unfold bK at hval;rw[hu]at hval;obtain⟨cs,rfl,_,_⟩:=hval;obtain⟨fuel,hf⟩:=hd;obtain⟨a,h1,h2⟩:=ho fuel sp base held _ _ hf;refine⟨a,h2,?_⟩;simp only[CV];exact⟨cs,rfl,AL.N2 h1⟩
end
theorem own:ownKnob AD.godebug=none:=by kernel_rfl
theorem laid:laidOutB AD=true:=by kernel_rfl
end
def Eh:List AA->List Int->Int->Int
 | b::l,s::t,e=>Eh l t (e+s+b.w)
 | _,_,e=>e
def FG:List AA->List Int->Int->List Int
 | b::l,s::t,e=>(e+s)::FG l t (e+s+b.w)
 | _,_,_=>[]
def El (kids:List AA)(sp:List Int):AA×Int:=
 if kids.all AA.Av=false then(AA.zero,1)
 else if sp.length≠kids.length\/sp.all Aw=false then(AA.zero,2)
 else Rl kids (FG kids sp 0) (Eh kids sp 0)
theorem rz : ∀ {l:List AA} {t:List Int} {k:Nat} {b:AA} {s:Int} (e:Int),l[k]?=some b->t[k]?=some s->Eh (l.take (k+1)) (t.take (k+1)) e=Eh (l.take k) (t.take k) e+s+b.w
 | b'::l,s'::t,0,b,s,e,h1,h2=>by simp at h1 h2;subst h1 h2;rfl
 | b'::l,s'::t,k+1,b,s,e,h1,h2=>by
   simp only[Kd]at h1 h2;simp only[E9,Eh];exact rz _ h1 h2
 | [],_,_,_,_,_,h,_=>by simp at h
 | _::_,[],_,_,_,_,_,h=>by simp at h
theorem AEu : ∀ {l:List AA} {t:List Int} {k:Nat} {b:AA} {s:Int} (e:Int),l[k]?=some b->t[k]?=some s->FG (l.take (k+1)) (t.take (k+1)) e=FG (l.take k) (t.take k) e++[Eh (l.take k) (t.take k) e+s]
 | b'::l,s'::t,0,b,s,e,h1,h2=>by simp at h1 h2;subst h1 h2;rfl
 | b'::l,s'::t,k+1,b,s,e,h1,h2=>by
   simp only[Kd]at h1 h2;simp only[E9,FG,Eh,List.cons_append];rw[AEu _ h1 h2]
 | [],_,_,_,_,_,h,_=>by simp at h
 | _::_,[],_,_,_,_,_,h=>by simp at h
theorem U6 : ∀ {l:List AA} {t:List Int} (e:Int),t.length=l.length->(FG l t e).length=l.length
 | [],[],_,_=>rfl
 | b::l,s::t,e,h=>by simp only[FG,BQ];rw[U6 _ (by simpa using h)]
 | b::l,[],_,h=>by simp at h
 | [],_::_,_,h=>by simp at h
def MO (l:List Int)(n:Nat):List V:=l.map (fun n=>V.c (.int .i64 n))++As n (.c (.int .i64 0))
theorem ACs (l:List Int)(n:Nat):(MO l n).length=l.length+n:=by simp[MO]
theorem AOA (l:List Int)(n:Nat)(v:Int):(MO l (n+1)).set l.length (.c (.int .i64 v))=MO (l++[v]) n:=by
 unfold MO;rw[List.set_append_right _ _ (by simp)];simp[Ao]
theorem AN9 (l:List Int)(n:Nat)(v:Int):(MO (l++[v]) n)[l.length]?=some (.c (.int .i64 v)):=by
 unfold MO;rw[List.getElem?_append_left (by simp)];simp
@[simp] theorem AXS (m:Nat)(l:List Int)(n:Nat):V.BT m (MO l n)=true:=by
 unfold MO;rw[j6];have h1:V.BT m (l.map fun n=>V.c (.int .i64 n))=true:=by
  induction l with
  | nil=>rfl
  | cons c r ih=>simp only[Al,V.BT,V.BA,ih,GR]
 have h2:V.BT m (As n (.c (.int .i64 0)))=true:=by
  induction n with
  | zero=>rfl
  | succ n ih=>simp only[Ao,V.BT,V.BA,ih,GR]
 rw[h1,h2];rfl
theorem AOB (l:List Int):toCs (MO l 0)=some (l.map (C.int .i64)):=by
 have e:MO l 0=(l.map (C.int .i64)).map V.c:=by simp[MO]
 rw[e];exact toCs_c _
theorem AAI : ∀l:List Int,Gr 1 l.length (l.map (C.int .i64))=l.map fun n=>[C.int .i64 n]
 | []=>rfl
 | n::l=>by simp only[BQ,Al,Gr];rw[show (C.int Ad n::List.map (C.int Ad) l).drop 1=l.map (C.int .i64)from rfl,AAI l];rfl
theorem AJA {l:List AA}(h:l.all AA.Av=true):∀b∈l,b.Av=true:=fun b hb=>List.all_eq_true.1 h b hb
theorem zJ : ∀ {l:List AA},(∀b∈l,b.Av=true)->AA.Jb l
 | [],_=>trivial
 | b::l,h=>⟨Fz (h b Er),zJ fun c hc=>h c (Ff _ hc)⟩
theorem mf (kids:List AA)(sp:List Int)(ho:AA.GB kids)(hc:AA.A9 kids<=900000)(hk9:kids.length<=10000)(hs9:sp.length<=1000000):AC AD 112 [.c (.sl (AA.rows kids)),.c (Ab sp)] (Bd (El kids sp)):=by
 obtain⟨rs,Ak⟩:=AE (AA.rows kids);have Am:rs.length=kids.length:=by rw[<-Ak,Ed];simp
 obtain⟨ps,HU⟩:=AE (sp.map (fun n=>[C.int .i64 n]));have hpl:ps.length=sp.length:=by rw[<-HU,List.length_map]
 have de:Ab sp=.sl ps:=by rw[<-HU];rfl
 have hval:=ANu kids ho (by omega);rw[Ak]at hval;unfold El;rw[Ak,de];have S8:8*(kids.length:Int)<=281474976710656:=by omega
 have tj:(kids.length:Int)<=9223372036854775807:=by omega
 refine en Tryz.func112 Tryz.ntmps112 ?_;have ff:=(cj @Am<|cj @hpl<|cj @S8<|cj @tj<|cj @Bd.eq_1<|cj @Ay<|cj @Af.eq_1<|cj @Eo<|aZ)
 repeat any_goals (first|refine PN (CJ.mk 6) ?_|exact Bq ff|refine Bt ff ?_|refine A4 ff (hval) ?_|refine Bi ff ?_|((first|refine By ff ?_ ?_|refine B4 ff ?_ ?_|refine Bz ff ?_ ?_|refine B3 ff ?_ ?_)<;>intro h<;>try (exfalso;first|omega|contradiction)))
 . have hne:sp.length≠kids.length:=by omega
   exact wz (cj @Am<|cj @hpl<|cj @Bd.eq_1<|cj @Ay<|cj @Af.eq_1<|cj @Eo<|aZ) trivial
 . have hl:sp.length=kids.length:=by omega
   have lh:kids.all AA.Av=true:=‹_›;have Rg:=AJA lh;rw[if_neg (by simp[lh])];rw[show As kids.length (V.c (C.int Ad 0))=MO [] kids.length from rfl];refine AW.DM ?_;refine SW.AJ0 APQ (cs:=[.int .i64 0]) (fun S w=>by simp only[Bj,Ap];exact⟨_,_,rfl,⟨rfl,by decide +kernel⟩,rfl⟩) Tryz.func176 rfl rfl rfl rfl ?_;refine SW.take 1 ?_;with_reducible refine Bw (by simp[Ao];first|exact rfl|exact⟨rfl,rfl⟩) ?_
   refine B9 ?_;simp only[Be,BO];refine SW.nil ?_;have ff:=(cj @Am<|cj @hpl<|cj @S8<|aZ)
   repeat any_goals (first|refine CC ?_|exact Bq ff|refine Bt ff ?_|refine Bi ff ?_|((first|refine By ff ?_ ?_|refine B4 ff ?_ ?_|refine Bz ff ?_ ?_|refine B3 ff ?_ ?_)<;>intro h<;>try (exfalso;first|omega|contradiction)))
   refine lp (ι:={ k:Nat // k<=kids.length/\sp.all Aw=(sp.drop k).all Aw/\ -(k:Int)*2147483648<=Eh (kids.take k) (sp.take k) 0/\Eh (kids.take k) (sp.take k) 0<=(k:Int)*2147483648 }) (fun k=>[(5,.c (.int .i64 0)),(8,.c (.int .i64 (Eh (kids.take k.1) (sp.take k.1) 0))),(26,.c (.int .i64 (k.1:Int)))]) (fun k=>[.box 41 Bo false,.box 3 (MO (FG (kids.take k.1) (sp.take k.1) 0) (kids.length - k.1)) false,.box 3 [.c (.int .i64 (Eh (kids.take k.1) (sp.take k.1) 0))] false]) (fun k=>kids.length - k.1) ⟨0,by simp[Eh]⟩ ?_ ?_;all_goals simp only[Br,List.foldl_cons,List.foldl_nil,BC,Az]
   . refine Le.BV (by simp[A5,Eh])
   . rintro ⟨k,hk,hI,b1,b2⟩;simp only;by_cases hlt:k<kids.length
     . obtain⟨c,hcc⟩:=AE (kids[k]);have JK:kids[k]?=some c:=by rw[BP hlt,hcc]
       have ACS:k<sp.length:=by omega
       obtain⟨s,hss⟩:=AE (sp[k]);have dZ:sp[k]?=some s:=by rw[BP ACS,hss]
       rw[List.drop_eq_getElem_cons ACS,hss,List.all_cons]at hI;have BN:rs[k]?=some c.row:=by rw[<-Ak,Ed,Co,JK];rfl
       have CW:k<rs.length:=by omega
       have lT:k<ps.length:=by omega
       have CH : ∀hx:k<rs.length,rs[k]'hx=c.row:=by intro hx;rw[BP hx]at BN;exact JW BN
       have Ft:ps[k]?=some [.int .i64 s]:=by rw[<-HU,Co,dZ];rfl
       have M2 : ∀hx:k<ps.length,ps[k]'hx=[.int .i64 s]:=by intro hx;rw[BP hx]at Ft;exact JW Ft
       obtain⟨cw,ch,cd,_⟩:=DS (Rg c (List.mem_of_getElem? JK));have hE:=rz 0 JK dZ;have eI:=AEu 0 JK dZ;have Ey:(FG (kids.take k) (sp.take k) 0).length=k:=by rw[U6 _ (by simp[hl]),List.length_take];omega
       have hput:=AOA (FG (kids.take k) (sp.take k) 0) (kids.length - (k+1)) (Eh (kids.take k) (sp.take k) 0+s);have JL:=AN9 (FG (kids.take k) (sp.take k) 0) (kids.length - (k+1)) (Eh (kids.take k) (sp.take k) 0+s);have Et:=ACs (FG (kids.take k) (sp.take k) 0) (kids.length - k);have ku:=ACs (FG (kids.take (k+1)) (sp.take (k+1)) 0) (kids.length - (k+1));rw[<-eI,Ey]at hput JL;rw[Ey,show k+(kids.length - k)=kids.length by omega]at Et;rw[eI,List.length_append,Ey,List.length_singleton,<-eI,show k+1+(kids.length - (k+1))=kids.length by omega]at ku;rw[show kids.length - (k+1)+1=kids.length - k by omega]at hput;obtain⟨X0,Sv⟩:=AE (MO (FG (kids.take k) (sp.take k) 0) (kids.length - k));obtain⟨E,RL⟩:=AE (Eh (kids.take k) (sp.take k) 0);rw[Sv]at hput Et ⊢;rw[RL]at hput JL hE b1 b2 ⊢;have Gy:=NB s;have ff:=(cj @Am<|cj @hpl<|cj @hlt<|cj @CW<|cj @lT<|cj @BN<|cj @CH<|cj @Ft<|cj @M2<|cj @Bd.eq_1<|cj @Ay<|cj @Af.eq_1<|cj @Eo<|cj @Bo.eq_1<|aZ)
       repeat any_goals (first|refine PN (CJ.mk 13) ?_|exact Bq ff|refine Bt ff ?_|refine A4 ff (Gy) ?_|refine Bi ff ?_|((first|refine By ff ?_ ?_|refine B4 ff ?_ ?_|refine Bz ff ?_ ?_|refine B3 ff ?_ ?_)<;>intro h<;>try (exfalso;first|omega|contradiction)))
       have hs:Aw s=true:=‹_›;simp[Aw]at hs;have Ev:k+1<=kids.length:=by omega
       refine AW.Py GZ (.inl rfl) ?_;refine TW.take 12 (Fh (by simp[Am,hlt,CW,lT,BN,CH,Ft,M2];first|exact rfl|exact⟨rfl,rfl⟩|exact⟨rfl,rfl,rfl⟩) (Ly ?_));simp only[Be,BO];refine TW.kE 2 (APP E s c.w (by omega) (by omega) (by omega) (by omega)) Tryz.func247 rfl rfl rfl rfl rfl rfl rfl ?_;simp only[St.step,St.put,CG,BQ,List.length_nil,Nat.reduceAdd,Nat.reduceLT,if_true,Az,BC,Al,A8];refine TW.take 2 (Fh (by simp[hlt,Ev,Et,hput];first|exact rfl|exact⟨rfl,rfl⟩|exact⟨rfl,rfl,rfl⟩) (Ly (TW.nil ⟨by kernel_rfl,?_⟩)));have AMl:=gx JL;refine wy (cj @Am<|cj @hlt<|cj @CW<|cj @BN<|cj @CH<|cj @JL<|cj @AMl<|cj @ku<|cj @hE.symm<|aZ) trivial ⟨?_⟩;refine⟨⟨k+1,by omega,by rw[hI];simp[h],by rw[hE];omega,by rw[hE];omega⟩,by simp only;omega,?_⟩;refine Le.H5 3 (Nat.le_of_ble_eq_true rfl) (by simp[A5,Bo]) (by simp[Bo]) (by simp[V.BT,V.BA]) (by simp[O.BA,V.BT,V.BA,Bo])
     . have hz:kids.length - k=0:=by omega
       have e1:kids.take k=kids:=D9 (by omega);have e2:sp.take k=sp:=D9 (by omega);rw[List.drop_of_length_le (by omega),List.all_nil]at hI;rw[e1,e2]at b1 b2 ⊢;rw[hz,if_neg (by simp[hI,hl])];have BL:=AM3 kids (FG kids sp 0) (Eh kids sp 0) Rg ho (zJ Rg) (U6 0 hl) hc hk9;have hch:=AAI (FG kids sp 0);rw[U6 0 hl]at hch;rw[Ak]at BL;obtain⟨E,RL⟩:=AE (Eh kids sp 0);obtain⟨L,hL⟩:=AE (FG kids sp 0);obtain⟨R,hR⟩:=AE (Rl kids L E);rw[RL,hL]at BL ⊢;rw[hL]at hch;rw[hR]at BL ⊢;simp only[Bd,Ay,Af,Ab]at BL ⊢;refine AW.AR 1 rfl (AOB L) (by simp[V.BG,V.AR,hch];exact rfl) (by simp[O.AR,V.BG,V.AR,Bo];exact rfl) ?_;exact wz (cj @Am<|cj @hlt<|cj @Bo.eq_1<|aZ) (cj BL<|trivial)
theorem Lf {n:Int}(h1 : -1073741824<=n)(h2:n<=1073741824):Aw n=true:=by simp[Aw,h1,h2]
theorem AQ1 {f:AI}(hv:f.valid=true)(name:ByteArray)(hn:F2 name=true):F2 (f.pick name).name=true:=by
 have Au : ∀g∈f.CO,F2 g.name=true:=by
  intro g hg;have:=X4 hv g hg;simp only[GK,An]at this;exact this.1
 unfold AI.pick;split
 . rename_i g hg;exact Au g (WD hg).1
 . split
   . rename_i g hg;exact Au g (WD hg).1
   . exact hn
theorem ACi {f:AI}(hv:f.valid=true){name:ByteArray}{h:Int}(e:f.ht name=some h):F2 name=true:=by
 simp only[AI.ht,G6]at e;obtain⟨g,hg,_⟩:=e;obtain⟨m,rfl⟩:=WD hg;have:=X4 hv g m;simp only[GK,An]at this;exact this.1
theorem wU {f:AI}(hv:f.valid=true){p:Int}(h1:1<=p)(h2:p<=100){name:ByteArray}(hn:F2 name=true){y:Int}(hy:Aw y=true):({ (Cl f name p).1 with y:=y }:AA).EE=true/\({ (Cl f name p).1 with y:=y }:AA).nest=1:=by
 obtain⟨e,_⟩:=N8 hv h1 h2 name;have hb:=Xq hv h1 h2 name;have hk:=AQ1 hv name hn;rw[e];have hn':F2 ((f.pick name).scaled p).name=true:=hk;obtain⟨G,hG⟩:=AE ((f.pick name).scaled p);rw[hG]at hb hn' ⊢;have hm:0<=mx 0 G.DY/\mx 0 G.DY<=200000:=by rw[D6];omega
 refine⟨?_,rfl⟩;have k1:Aw (G.w+mx 0 G.DY)=true:=Lf (by omega) (by omega);have k2:Aw G.h=true:=Lf (by omega) (by omega);have k3:Aw G.d=true:=Lf (by omega) (by omega);have k4:Aw 0=true:=Lf (by omega) (by omega);simp[Mw,AA.EE,AA.Hb,AA.CZ,AA.lens,AA.Ej,AA.I0,k1,k2,k3,k4,hy,hn',h1,show p<=1000 by omega,Dm,Gg]
theorem AGP {f:AI}(hv:f.valid=true){p:Int}(h1:1<=p)(h2:p<=100)(name:ByteArray):({ (Cl f name p).1 with y:=0 }:AA)=(Cl f name p).1:=by
 obtain⟨e,_⟩:=N8 hv h1 h2 name;rw[e];rfl
theorem zd {f:AI}(hv:f.valid=true){p:Int}(h1:1<=p)(h2:p<=100)(ov:Int)(ho:0<=ov):∀(l:List Part) (b:Int),0<=b->b+40000*(l.length:Int)<=400000000->(∀q∈l,F2 q.name=true/\ov<(f.pick q.name).Ch)->AA.Hb (FM f ov p b l)=true/\AA.Nz (FM f ov p b l)<=1
 | [],b,_,_,_=>⟨rfl,Nat.zero_le _⟩
 | q::l,b,hb,hl,hq=>by
   obtain⟨hqn,hqh⟩:=hq q Er;have hs:=PH hv q.name;unfold Ag.Small at hs;have hhe:(f.pick q.name).Ch=(f.pick q.name).h+(f.pick q.name).d:=rfl;simp only[BQ]at hl;obtain⟨i1,i2⟩:=zd hv h1 h2 ov ho l (b+((f.pick q.name).Ch - ov)) (by omega) (by omega) fun x hx=>hq x (Ff _ hx)
   have hsb:=AF9 (n:=b) (p:=p) (by omega) (by omega) (by omega) (by omega);have hsd : -200000<=(Cl f q.name p).1.d/\(Cl f q.name p).1.d<=200000:=by
    rw[(N8 hv h1 h2 q.name).1];have:=Xq hv h1 h2 q.name;simp only[Mw];omega
   obtain⟨j1,j2⟩:=wU hv h1 h2 hqn (y:=scale b p+(Cl f q.name p).1.d) (Lf (by omega) (by omega));simp only[FM,ZY,AA.Hb,AA.Nz];rw[j1,i1,j2];exact⟨rfl,Nat.max_le.2 ⟨Nat.le_refl _,i2⟩⟩
theorem wV {f:AI}(hv:f.valid=true):∀(l:List ByteArray) (a:Int),Jr f.ht a l=true->∀n∈l,F2 n=true
 | [],a,_,n,hn=>by cases hn
 | x::l,a,h,n,hn=>by
   simp only[Jr]at h;cases hx:f.ht x with
   | none=>rw[hx]at h;cases h
   | some y =>
     rw[hx]at h;simp only[An]at h;rcases Cb.1 hn with rfl|hn
     . exact ACi hv hx
     . exact wV hv l _ h.2 n hn
theorem AQl {f:AI}(hv:f.valid=true){s:A6}(hs:s∈f.CD):∀q∈s.parts,F2 q.name=true:=by
 intro q hq;have h:=X5 hv s hs;simp only[Hd,An]at h;obtain⟨_,_,h4⟩:=h;rw[if_neg (by intro e;rw[e]at hq;cases hq)]at h4;unfold QZ at h4;cases hf:Gb f.ht 60000 false s.parts with
 | none=>rw[hf]at h4;cases h4
 | some x =>
   obtain⟨y,hy⟩:=vR _ _ _ _ _ hf q hq;exact ACi hv hy
theorem cG {b:AA}(h1:b.EE=true)(h2:b.cnt<=20000)(h3:b.nest<=100):b.Av=true:=by
 unfold AA.Av;rw[h1,decide_eq_true h2,decide_eq_true h3];rfl
theorem AA5 {f:AI}(hv:f.valid=true){p:Int}(h1:1<=p)(h2:p<=100){name:ByteArray}(hn:F2 name=true)(need:Int):(F4 f name need p).1.Av=true/\ -1000400000<=(F4 f name need p).1.h - (F4 f name need p).1.d/\(F4 f name need p).1.h - (F4 f name need p).1.d<=1000400000:=by
 have hk:IE f p=0:=by unfold IE;rw[if_neg (by simp[hv]),if_neg (by omega)]
 have Ip:=AAG hv name need p;obtain⟨c,hc⟩:=AE (JC f name need p);unfold F4;rw[if_neg (by simp[hk]),hc];rw[hc]at Ip;unfold Ja;rw[if_neg (by simp[hk]),if_neg (by simp[Ip])];have sv : ∀n,F2 n=true->(Cl f n p).1.Av=true/\ -1000400000<=(Cl f n p).1.h - (Cl f n p).1.d/\(Cl f n p).1.h - (Cl f n p).1.d<=1000400000:=fun n hn=>by
  have hb:=Xq hv h1 h2 n;have hE : -1000400000<=(Cl f n p).1.h - (Cl f n p).1.d/\(Cl f n p).1.h - (Cl f n p).1.d<=1000400000:=by rw[(N8 hv h1 h2 n).1];simp only[Mw];omega
  refine⟨?_,hE⟩;obtain⟨j1,j2⟩:=wU hv h1 h2 hn (y:=0) (Lf (by omega) (by omega));rw[AGP hv h1 h2]at j1 j2;have:=(fx hv h1 h2 (fF hn)).2.2;exact cG j1 (by omega) (by omega)
 by_cases h0:c.Iy=0
 . rw[if_pos h0];refine sv _ ?_;unfold JS at Ip;cases hst:f.H2 name with
   | none=>rw[hst]at Ip;simp[h0]at Ip;rw[Ip];exact hn
   | some s =>
     rw[hst]at Ip;simp[h0]at Ip;have hs:=(Qm hst).1;have h:=X5 hv s hs;simp only[Hd,An]at h;exact wV hv _ _ h.2.1 _ (s6 Ip)
 . rw[if_neg h0];obtain⟨s,hst,Ey,r1,r2,_⟩:=uR (cg:=c.J7) (cr:=c.Iy) h0 Ip;have hs:=(Qm hst).1;obtain⟨_,_,g3,g4,g5,g6⟩:=Oh hv hs;have hl:=mc r1 r2 s.parts;have Ht : ∀q∈IM c.Iy s.parts,F2 q.name=true/\s.CX<(f.pick q.name).Ch:=fun q hq=>⟨AQl hv hs q (ma hq),g6 q (ma hq)⟩
   obtain⟨i1,i2⟩:=zd hv h1 h2 s.CX g4 (IM c.Iy s.parts) 0 (by omega) (by omega) Ht;obtain⟨k1,k2,k3,k4,k5⟩:=vU hv h1 h2 s.CX (IM c.Iy s.parts) 0 fun q hq=>fF (Ht q hq).1
   have hw:=k5 0 (by omega) (by omega);obtain⟨t1,t2⟩:=wo hv hs r1 r2;have hh:=AF8 (n:=KX f s c.Iy) (p:=p) t1 t2 (by omega) h2;rw[hst];simp only[Option.getD_some,Se];refine⟨cG ?_ ?_ ?_,by omega,by omega⟩
   . have q1:Aw (GO 0 (FM f s.CX p 0 (IM c.Iy s.parts)))=true:=Lf (by omega) (by omega);have q2:Aw (scale (KX f s c.Iy) p)=true:=Lf (by omega) (by omega);have q3:Aw 0=true:=Lf (by omega) (by omega);simp[AA.EE,AA.CZ,AA.lens,AA.Ej,AA.I0,q1,q2,q3,i1,Dm,Gg]
   . simp only[AA.cnt];omega
   . simp only[AA.nest];omega
theorem AMD {n:Int}(h1 : -1000400000<=n)(h2:n<=1000400000): -500200001<=half n/\half n<=500200001/\ -1<=n - 2*half n/\n - 2*half n<=1:=by
 unfold half;rw[if_pos (Lf (by omega) (by omega))];unfold FI;split<;>omega
theorem zi {f:AI}(hv:f.valid=true){p:Int}(h1:1<=p)(h2:p<=100):0<=Gu f p/\Gu f p<=20001:=by
 have hp:JU f.params=true:=by simp only[AI.valid,An]at hv;exact hv.1.2.2
 simp[JU,Bn,Params.lens]at hp;unfold Gu;have m1:0<=f.params.EB*p:=Int.mul_nonneg (by omega) (by omega);have m2:=Int.mul_le_mul_of_nonneg_left h2 (show 0<=f.params.EB by omega);rw[<-wB (by omega) (by omega) (by omega) (by omega)];unfold FI;rw[if_pos m1];omega
theorem rf {f:AI}(hv:f.valid=true){p:Int}(h1:1<=p)(h2:p<=100){name:ByteArray}(hn:F2 name=true)(need:Int):(name=Yk/\Hl f name need p=(CB 0 0 0 [],0))\/(name≠Yk/\∃S,jS S/\S.Av=true/\(F4 f name need p).1=S/\Aw (Gu f p - half (S.h - S.d))=true/\Aw (S.h - S.d)=true/\Hl f name need p=(S.at_ S.x (Gu f p - half (S.h - S.d)),0)):=by
 unfold Hl;rw[if_neg (by simp[hv,hn]),if_neg (by omega)];by_cases hd:name=Yk
 . rw[if_pos hd];exact .inl ⟨hd,rfl⟩
 . rw[if_neg hd];refine .inr ⟨hd,_,(find_ok hv h1 h2 (fF hn) need).2,(AA5 hv h1 h2 hn need).1,rfl,?_⟩;have hs:=(find_ok hv h1 h2 (fF hn) need).2;obtain⟨hb,b1,b2⟩:=AA5 hv h1 h2 hn need;obtain⟨S,hS⟩:=AE ((F4 f name need p).1);rw[hS]at hs hb b1 b2 ⊢;obtain⟨a1,a2⟩:=zi hv h1 h2;obtain⟨c1,c2,_⟩:=AMD b1 b2;have q1:Aw (Gu f p)=true:=Lf (by omega) (by omega);have q2:Aw (S.h - S.d)=true:=Lf (by omega) (by omega);have q3:Aw (Gu f p - half (S.h - S.d))=true:=Lf (by omega) (by omega);refine⟨q3,q2,?_⟩;unfold Ic;rw[if_neg (by simp[hb]),if_neg (by simp[q1,q2]),if_neg (by simp[q3])]
theorem AEv (f:AI)(s:AM)(b:AA)(rs:List (List C))(hx:s.ok=false\/f.valid=false):AC AD 163 [.agg f.vs,Ai s,BD b,.c (.sl rs)] (Bd (AA.zero,1)):=by
 have Cq:=KL f s;have e0:Ha f s=(0,1):=if_pos hx;rw[e0]at Cq;unfold Ai Af Bd at *
 simp only[Ay,Af]at Cq ⊢;refine en aG aT ?_;refine Ac ?_;refine BY (Cq) Q4 ?_;refine Ac ?_;simp[Aj,AV,AZ,Aa,V.AP,V.AO,AU,Vl,Eo]
theorem ARN (f:AI)(s:AM)(b:AA)(rs:List (List C))(hv:f.valid=true)(ho:s.ok=true)(hb:b.Av=false)(DW:b.Bc)(Kn:b.cnt<=1000000):AC AD 163 [.agg f.vs,Ai s,BD b,.c (.sl rs)] (Bd (AA.zero,1)):=by
 have Cq:=KL f s;have e0:Ha f s=(EU f s,0):=if_neg (by simp[ho,hv]);rw[e0]at Cq;have Cd:=D2 b DW Kn;rw[hb]at Cd;unfold Ai Af Bd at *
 simp only[Ay,Af]at Cq Cd ⊢;refine en aG aT ?_;refine Ac ?_;refine BY (Cq) Q4 ?_;refine Ac ?_;refine BY (Cd) Hh ?_;refine Ac ?_;simp[Aj,AV,AZ,Aa,V.AP,V.AO,AU,Vl,Eo]
theorem ARO (f:AI)(s:AM)(b:AA)(rs:List (List C))(hv:f.valid=true)(ho:s.ok=true)(hb:b.Av=true)(DW:b.Bc)(Kn:b.cnt<=1000000)(hl:1<rs.length):AC AD 163 [.agg f.vs,Ai s,BD b,.c (.sl rs)] (Bd (AA.zero,1)):=by
 have Cq:=KL f s;have e0:Ha f s=(EU f s,0):=if_neg (by simp[ho,hv]);rw[e0]at Cq;have Cd:=D2 b DW Kn;rw[hb]at Cd;have hl':(1:Int)<(rs.length:Int):=by omega
 unfold Ai Af Bd at *
 simp only[Ay,Af]at Cq Cd ⊢;refine en aG aT ?_;refine Ac ?_;refine BY (Cq) Q4 ?_;refine Ac ?_;refine gc (cj @hl'<|@hl) (Cd) Hh ?_;refine Ac ?_;simp[Aj,AV,AZ,Aa,V.AP,V.AO,AU,Vl,Eo]
theorem ARP (f:AI)(s:AM)(b g:AA)(hv:f.valid=true)(ho:s.ok=true)(hb:b.Av=true)(DW:b.Bc)(Kn:b.cnt<=1000000)(hg:g.Av=false)(hgo:g.Bc)(JK:g.cnt<=1000000):AC AD 163 [.agg f.vs,Ai s,BD b,.c (.sl [g.row])] (Bd (AA.zero,1)):=by
 have Cq:=KL f s;have e0:Ha f s=(EU f s,0):=if_neg (by simp[ho,hv]);rw[e0]at Cq;have Cd:=D2 b DW Kn;rw[hb]at Cd;have F7:=D2 g hgo JK;rw[hg]at F7;unfold Ai Af Bd at *
 simp only[Ay,Af]at Cq Cd F7 ⊢;refine en aG aT ?_;refine Ac ?_;refine BY (Cq) Q4 ?_;refine Ac ?_;refine BY (Cd) Hh ?_;refine BY (F7) Hh ?_;refine Ac ?_;simp[Aj,AV,AZ,Aa,V.AP,V.AO,AU,Vl,Eo]
theorem ARM (f:AI)(s:AM)(b:AA)(G8:List AA)(hf:f.Fit)(DW:b.Bc)(Kn:b.cnt<=1000000)(hd : ∀g∈G8,g.Bc/\g.cnt<=1000000):AC AD 163 [.agg f.vs,Ai s,BD b,.c (.sl (AA.rows G8))] (Bd (Ta f s b G8)):=by
 cases hv:f.valid with
 | false =>
   have e:Ta f s b G8=(AA.zero,1):=if_pos (.inl hv);rw[e];exact AEv f s b _ (.inr hv)
 | true =>
   cases ho:s.ok with
   | false =>
     have e:Ta f s b G8=(AA.zero,1):=if_pos (.inr (.inl ho));rw[e];exact AEv f s b _ (.inl ho)
   | true =>
     cases hb:b.Av with
     | false =>
       have e:Ta f s b G8=(AA.zero,1):=if_pos (.inr (.inr (.inl hb)));rw[e];exact ARN f s b _ hv ho hb DW Kn
     | true =>
       match G8,hd with
       | [],_ =>
         have e:Ta f s b []=Cm (Jn f s b []):=if_neg (by simp[hv,ho,hb]);rw[e];exact ARQ f s b hf hv ho hb DW
       | [g],hd =>
         obtain⟨g1,g2⟩:=hd g Er;cases hg:g.Av with
         | false =>
           have e:Ta f s b [g]=(AA.zero,1):=if_pos (.inr (.inr (.inr (.inl (by simp[hg])))));rw[e];exact ARP f s b g hv ho hb DW Kn hg g1 g2
         | true =>
           have e:Ta f s b [g]=Cm (Jn f s b [g]):=if_neg (by simp[hv,ho,hb,hg]);rw[e];exact ARR f s b g hf hv ho hb DW hg g1
       | g::g'::l,_ =>
         have e:Ta f s b (g::g'::l)=(AA.zero,1):=if_pos (.inr (.inr (.inr (.inr (by simp)))));rw[e];exact ARO f s b _ hv ho hb DW Kn (by simp[AA.rows])
end Go.Proofs.YtpodcjcajanldaaGreat
