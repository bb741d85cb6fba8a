/- Part of the proof of breakpointPieces.proved. Conditions: none. -/
import Derived.Scope
import Derived.Test.YtegconioojpgmaaGreatY2
set_option linter.unusedVariables false
set_option linter.unusedSimpArgs false
set_option maxRecDepth 100000
set_option maxHeartbeats 16000000
open Prod.mk renaming injEq->Cr
open Go.IntKind renaming i64->AZ,u8->uL,i32->uK
open Go.Lit renaming wf->So
open Iff renaming rfl->RA
open List renaming ext_getElem?->Vc,getElem?_set->RD,mem_append_right->AMm,range->E6,countP_eq_zero->fx,length_drop->Ns,take_add->uX,take_left'->fZ,drop_left'->tn,take_append_drop->aL,getElem?_toArray->mV,length_nil->BO,flatten_append->Vd,flatten_nil->RC,replicate->Aq
open Go.Region renaming wanted->FB,ready->mr
open Go.Oper renaming looksAt->Gm,wp->Er,apart_spec->AC9,upon->Nt,uponIn->ue
open Go.Op renaming operands->Bl
open Go.Call renaming operands->Df
open Go.Deferred renaming ofValue->M5
open Array renaming replicate->M4
open Nat renaming lt_trichotomy->aN,add_sub_cancel->aM
open Go.World renaming cell?_of_block->RK
open Go.Fence renaming wide->Cg
open Go.Value renaming func->ADc
open Option renaming some->J,none->E
open Bool renaming false->U,true->I
open List renaming length->G
namespace Go.Proofs.YtegconioojpgmaaGreat
open Go.RowKit Tryz
variable {e:Operand->V}{o:Oper}{s:St}{r:List Oper}{res:V}{fn:Func}{c:Code}{b:Bool}{l:List Oper}{m:Mo}{S0:BF}{w0:Bs}{x:Cx}{w:World}{ty:TypeId}{cs:List V}{P:Program}{K:Exit->St->Prop}{ι:Type}{Z:List PanicEntry->Prop}{ops:List Oper}{a:Act}{args:List V}{Q:Exit->Act->World->Prop}{Bd:List V}{S:BF}{Fk:Array TypeId}(n:Nat)(k:Nat)
section
def Ka:Op->Bool
 | .call ⟨.value _,_,_⟩=>I
 | _=>U
def Qw (P:Program)(o:Oper)(s:St):Option St:=
 match (P2 P (ev s.t) o.op).ap (λk=>s.h[k]?) (G s.h) with
 | some (v,t)=>J (s.step o.dst v t)
 | none=>E
def BQ (ops:List Oper)(t:List V):Option (Nat×Bool)->Option Bool
 | none=>J I
 | some (j,w)=>match (ops[j]?).bind (·.dst)with
   | some d=>match t.getD d .any with
     | .c (.bool b)=>J (b==w)
     | .A7 []=>J U
     | _=>E
   | none=>E
def VS (P:Program)(ops:List Oper):List Oper->St->Option (List Oper×St)
 | [],s=>J ([],s)
 | o::r,s=>match BQ ops s.t o.guard with
   | some I=>match Ka o.op with
     | false=>match Qw P o s with
       | some s'=>VS P ops r s'
       | none=>E
     | true=>J (o::r,s)
   | some U=>VS P ops r (s.put o.dst (.A7 []))
   | none=>E
variable {m:Mo} {P:Program} {K:St->Prop} {ops:List Oper}
theorem YC {op:Op}(h:Ka op=U):C7 e op=none:=by
 unfold Ka at h;split at h;cases h;rename_i B;unfold C7;split;rename_i f args Fk;exact absurd rfl (B f args Fk);rfl
theorem IF {t:List V}{K1 K2:Prop}(B:BQ ops t o.guard=J I)(h:K1):S9 ops t o K1 K2:=by
 unfold BQ at B;unfold S9;cases q:o.guard with
 | none=>exact h
 | some p =>
   obtain⟨j,w⟩:=p;rw[q]at B;simp only at B ⊢;cases M:(ops[j]?).bind (·.dst)with
   | none=>rw[M]at B;cases B
   | some d =>
     rw[M]at B;simp only at B ⊢;split at B;rename_i b R;rw[R];simp only[BL,beq_iff_eq]at B;subst B;exact⟨λ_=>h,λe=>absurd e (by cases b<;>simp)⟩;cases B;cases B
theorem X8 {t:List V}{K1 K2:Prop}(B:BQ ops t o.guard=J U)(h:K2):S9 ops t o K1 K2:=by
 unfold BQ at B;unfold S9;cases q:o.guard with
 | none=>rw[q]at B;cases B
 | some p =>
   obtain⟨j,w⟩:=p;rw[q]at B;simp only at B ⊢;cases R:(ops[j]?).bind (·.dst)with
   | none=>rw[R]at B;cases B
   | some d =>
     rw[R]at B;simp only at B ⊢;split at B;rename_i b M;rw[M];simp only[BL,beq_eq_false_iff_ne,ne_eq]at B;exact⟨λe=>absurd e B,λ_=>h⟩;rename_i M;rw[M];exact h;cases B
theorem If : ∀ {l R:List Oper} {s s':St},VS P ops l s=J (R,s')->Eg P ops K R s'->Eg P ops K l s
 | [],R,s,s',h,B=>by simp only[VS,BL,Cr]at h;obtain⟨rfl,rfl⟩:=h;exact B
 | o::r,R,s,s',h,B=>by
   unfold VS at h;split at h;rename_i z;split at h;rename_i hc;split at h;rename_i s1 M;have ih:=If h B;unfold Qw at M;split at M;rename_i v t q;cases M;unfold Eg;refine IF z ?_;unfold RP;rw[YC hc];simp only;rw[q];exact ih;cases M;cases h;simp only[BL,Cr]at h;obtain⟨rfl,rfl⟩:=h;exact B;rename_i z;unfold Eg;exact X8 z (If h B);cases h
theorem Kz (h:K s):Eg P ops K [] s:=h
theorem ANR {f:FuncId}{args Bd:List V}(B:AC P f Bd res)(q:BQ ops s.t o.guard=J I)(M:C7 (ev s.t) o.op=J (f,args))(hp:V.CF args=J Bd)(R:P.funcs[f]?=J fn)(hb:fn.body.isSome=I)(z:(fn.name == "runtime.NumGoroutine")=U)(h:Eg P ops K r (s.step o.dst res E)):Eg P ops K (o::r) s:=by
 unfold Eg;refine IF q ?_;unfold RP;rw[M];simp only;exact⟨Bd,res,hp,B,⟨fn,R,hb,by simpa using z⟩,h⟩
section
variable {n:St->Prop} {K:Exit->St->Prop} {s:St} {i id:Nat}
theorem G3 (h:n s):NH n K .normal s:=h
theorem S7 (h:K .ret s):NH n K .ret s:=h
theorem S6 (h:K (.exit i) s):NH n K (.exit i) s:=h
theorem MV (h:K .normal s):Sz id K .normal s:=h
theorem S4 (h:K .ret s):Sz id K .ret s:=h
theorem RN (h:K .normal s):Sz id K (.exit id) s:=by simp only[Sz,Awg];exact h
theorem S3 (B:(i==id)=U)(h:K (.exit i) s):Sz id K (.exit i) s:=by simp only[Sz];rw[Awf (by simpa using B)];exact h
theorem xE {c:Operand}{d B:Code}(M:ev s.t c=.c (.bool I))(h:AW m P d K s):AW m P (.cond c d B) K s:=AW.cond (by rw[M];exact⟨λ_=>h,λe=>by cases e⟩)
theorem xD {c:Operand}{d B:Code}(M:ev s.t c=.c (.bool U))(h:AW m P B K s):AW m P (.cond c d B) K s:=AW.cond (by rw[M];exact⟨λe=>(by cases e),λ_=>h⟩)
end
theorem wrap_i64 {n:Int}(R : -9223372036854775808<=n)(q:n<=9223372036854775807):AZ.wrap n=n:=by
 have B:AZ.min= -9223372036854775808:=by decide +kernel
 have M:AZ.max=9223372036854775807:=by decide +kernel
 exact AMD (by simp[So,B,M,R,q])
theorem Ac {n : Int}(h1 : -9223372036854775808<=n :=by omega)(h2 : n<=9223372036854775807 :=by omega):IntKind.i64.wrap n=n:=wrap_i64 h1 h2
theorem AZ8 {n:Int}(R : -9223372036854775808<=n)(q:n<=9223372036854775807):v1 (.int .i64 n)=.c (.int .i64 n):=by
 have B:AZ.min= -9223372036854775808:=by decide +kernel
 have M:AZ.max=9223372036854775807:=by decide +kernel
 simp[v1,So,B,M,R,q]
theorem AaD {n:Int}(R:0<=n)(q:n<=255):v1 (.int .u8 n)=.c (.int .u8 n):=by
 have B:uL.min=0:=by decide +kernel
 have M:uL.max=255:=by decide +kernel
 simp[v1,So,B,M,R,q]
theorem AZ7 {n:Int}(R : -2147483648<=n)(q:n<=2147483647):v1 (.int .i32 n)=.c (.int .i32 n):=by
 have B:uK.min= -2147483648:=by decide +kernel
 have M:uK.max=2147483647:=by decide +kernel
 simp[v1,So,B,M,R,q]
theorem AZ6 :v1 (.bool b)=.c (.bool b):=F
theorem AaC {d:Array UInt8}(h:d.size<=1000):v1 (.string ⟨d⟩)=.c (.str ⟨d⟩):=by
 have:(ByteArray.mk d).size<=maxLen:=by show d.size<=maxLen;unfold maxLen;omega
 simp[v1,this]
theorem AaA:v1 (.pointer E)=.c .XF:=F
theorem AZ9:v1 .nilFunc=.c .Cv:=F
theorem AaB:v1 (.slice E 0 0)=.Bg []:=F
theorem AaF {l:List Value}:T5 (.agg l.toArray)=.agg (l.map v1):=F
theorem AaH {k:IntKind}{n:Int}:T5 (.int k n)=v1 (.int k n):=F
theorem AaG :T5 (.bool b)=.c (.bool b):=F
theorem AaL {d:ByteArray}:T5 (.string d)=v1 (.string d):=F
theorem AaJ:T5 (.pointer E)=.c .XF:=F
theorem AaI:T5 .nilFunc=.c .Cv:=F
theorem AaK:T5 (.slice E 0 0)=.Bg []:=F
end
def DG:List V->List V->Prop
 | [],t'=>t'=[]
 | v::t,v'::t'=>(v'=.any\/v=v')/\DG t t'
 | _::_,[]=>False
theorem tI {x:Cx}{w:World} : ∀ {t M:List V} {us:List Value},DG t M->AO x w t us->AO x w M us
 | [],M,us,h,B=>by simp only[DG]at h;subst h;exact B
 | v::t,[],us,h,_=>by simp[DG]at h
 | v::t,v'::M,us,h,B=>by
   simp only[DG]at h;simp only[AO]at B ⊢;obtain⟨u,z,e,R,q⟩:=B;refine⟨u,z,e,?_,tI h.2 q⟩;rcases h.1 with rfl|rfl
   simp only[CV];exact R
theorem Le.tg {t M:List V}{h:List O}(hs:DG t M):Le m ⟨t,h⟩ ⟨M,h⟩:=λS0 w0 x a w R B=>⟨x,B.good,tI hs B.tm,B.df⟩
mutual
def V.A8 (n:Nat):V->Bool
 | .ptr k _=>decide (k<n)
 | .own k _ _ _=>decide (k<n)
 | .gr k _ _=>decide (k<n)
 | .agg l=>V.BI n l
 | .A7 l=>V.BI n l
 | .fn _ l=>V.BI n l
 | .any=>I
 | .c _=>I
 | .cp _ _=>I
 | .Bg _=>I
 | .Be k _ _=>decide (k<n)
 | .hp k _ _=>decide (k<n)
 | .yl _=>I
 | .mp k=>decide (k<n)
def V.BI (n:Nat):List V->Bool
 | []=>I
 | v::l=>v.A8 n && V.BI n l
end
def O.A8 (n:Nat):O->Bool
 | .box _ cs _=>V.BI n cs
 | .tok _ _ _=>I
 | .Be _ _ _ cs=>V.BI n cs
 | .mp _=>I
def Cx.cut (x:Cx)(n:Nat):Cx:={ x with dom:=λk=>x.dom k/\k<n }
mutual
theorem CV.cut {x:Cx}{w:World}{n:Nat} : ∀(v:V) (u:Value),v.A8 n=I->CV x w v u->CV (x.cut n) w v u
 | .ptr k M,u,B,h=>by simp only[V.A8,Awe]at B;simp only[CV,Cx.cut]at h ⊢;exact⟨⟨h.1,B⟩,h.2⟩
 | .own k M len es,u,B,h=>by simp only[V.A8,Awe]at B;simp only[CV,Cx.cut]at h ⊢;exact⟨⟨h.1,B⟩,h.2⟩
 | .gr k es R,u,B,h=>by simp only[V.A8,Awe]at B;simp only[CV,Cx.cut]at h ⊢;exact⟨⟨h.1,B⟩,h.2⟩
 | .agg l,u,B,h=>by simp only[V.A8]at B;simp only[CV]at h ⊢;obtain⟨vs,e,h⟩:=h;exact⟨vs,e,AO.cut l _ B h⟩
 | .A7 l,u,B,h=>by simp only[V.A8]at B;simp only[CV]at h ⊢;obtain⟨vs,e,h⟩:=h;exact⟨vs,e,AO.cut l _ B h⟩
 | .fn f l,u,B,h=>by simp only[V.A8]at B;simp only[CV]at h ⊢;obtain⟨vs,e,h⟩:=h;exact⟨vs,e,AO.cut l _ B h⟩
 | .any,u,_,h=>by simp only[CV]
 | .c _,u,_,h=>by simpa only[CV,Cx.cut]using h
 | .cp _ _,u,_,h=>by simpa only[CV,Cx.cut]using h
 | .Bg _,u,_,h=>by simpa only[CV,Cx.cut]using h
 | .Be k es R,u,B,h=>by simp only[V.A8,Awe]at B;simp only[CV,Cx.cut]at h ⊢;exact⟨⟨h.1,B⟩,h.2⟩
 | .hp k m pos,u,B,h=>by simp only[V.A8,Awe]at B;simp only[CV,Cx.cut]at h ⊢;exact⟨⟨h.1,B⟩,h.2⟩
 | .yl l,u,_,h=>by simpa only[CV]using h
 | .mp k,u,B,h=>by simp only[V.A8,Awe]at B;simp only[CV,Cx.cut]at h ⊢;exact⟨⟨h.1,B⟩,h.2⟩
theorem AO.cut {x:Cx}{w:World}{n:Nat} : ∀(l:List V) (us:List Value),V.BI n l=I->AO x w l us->AO (x.cut n) w l us
 | [],us,_,h=>by simpa only[AO]using h
 | v::l,us,B,h=>by
   simp only[V.BI,Ak]at B;simp only[AO]at h ⊢;obtain⟨u,M,e,R,q⟩:=h;exact⟨u,M,e,CV.cut v u B.1 R,AO.cut l M B.2 q⟩
end
theorem Le.drop {t:List V}{h h':List O}(hn:m.n0<=n)(hh:h.take n=h')(hb:V.BI n t=I)(z:(h'.all (O.A8 n))=I):Le m ⟨t,h⟩ ⟨t,h'⟩:=λS0 w0 x a w hm hA=>by
 subst hh;have M : ∀k o,(h.take n)[k]?=J o->h[k]?=J o/\k<n:=by
  intro k o B;rw[KO]at B;split at B;exact⟨B,Awa⟩;cases B
 have g:=hA.good;refine⟨x.cut n,⟨λk o B=>?_,λk B=>?_,λk k' o o' h1 h2=>g.inj k k' o o' (M k o h1).1 (M k' o' h2).1,λk o j B hx=>g.EA k o j (M k o B).1 (by cases o<;>exact hx),g.ex,λk o B=>g.own k o (M k o B).1,g.new,g.sub,g.keep,g.ext.ar,λk B=>⟨g.ext.dom k B,H7 (w0.dl k B) (Ps hm hn)⟩,g.ext.loc⟩,AO.cut t _ hb hA.tm,hA.df⟩;obtain⟨h1,h2⟩:=M k o B;obtain⟨h3,q⟩:=g.ok k o h1;refine⟨⟨h3,h2⟩,?_⟩;cases o with
 | box ty cs fr=>obtain⟨a1,a2,vs,a3,a4,a5⟩:=q;rw[ES]at z;exact⟨a1,a2,vs,a3,a4,AO.cut cs _ (z _ (Cj B)) a5⟩
 | tok ty es A0=>exact q
 | mp R=>exact q
 | Be ty es A0 cs=>obtain⟨a1,a2,a3,a4,a5,vs,a6,a7,a8,a9⟩:=q;rw[ES]at z;exact⟨a1,a2,a3,a4,a5,vs,a6,a7,a8,AO.cut cs _ (z _ (Cj B)) a9⟩
 obtain⟨o,Hz⟩:=g.dom k B.1;refine⟨o,?_⟩;rw[KO,Awd B.2];exact Hz
theorem ALa {h:List O}(g:Good S0 w0 x w (λk=>h[k]?))(Ae:TypeId)(es:Nat):
 Good S0 w0 (x.grow (G h) ⟨0,0,I,0,I⟩ 0) w (λk=>(h++[O.tok Ae es 0])[k]?)/\Ext x (x.grow (G h) ⟨0,0,I,0,I⟩ 0) w w:=by
 have z : ¬x.dom (G h):=λq=>by obtain⟨o,ho⟩:=g.dom _ q;simp at ho
 have M:Ext x (x.grow (G h) ⟨0,0,I,0,I⟩ 0) w w:=⟨⟨λ_ _ h=>.inl h,λ_ _ _ _ h=>h⟩,λ_ h=>.inl h,λi B=>by
  have:i≠G h:=λe=>z (e ▸ B)
  simp[Cx.grow,this,FM.refl]⟩
 have R:=g.H5 (G h) (.tok Ae es 0) M (.FR (Ay.refl w)) (λi=>RA) (λi B=>by simp[Cx.grow,B]) (λh=>by simp[Cx.grow]at h) ⟨by simp[Cx.grow],by simp[Cx.grow],λh=>by simp[Cx.grow]at h⟩ (λb j h=>h.elim .inl λh=>by omega) (λj hx=>by have:=hx.1;simp[Cx.grow]at this);refine⟨?_,M⟩;have e:=Kj h (J (G h,O.tok Ae es 0)) (λk o e=>by cases e;exact BN _);simp only[Bk,IY,Awh,Bx.upd]at e;rw[e];exact R
theorem AF1 {k es:Nat}{u:Value}(h:CV x w (.Bg []) u):CV (x.grow k ⟨0,0,I,0,I⟩ 0) w (.gr k es []) u:=by
 simp only[CV]at h ⊢;obtain⟨A,e,h⟩:=h;refine⟨.inr F,by simp[Cx.grow],Ab.mono ⟨λ_ _ h=>.inl h,λ_ _ _ _ h=>h⟩ _ _ h,ZA,ZA,λ_=>?_⟩;simp only[Cx.grow,Awg];exact⟨A,e⟩
theorem Le.tL {t:List V}{h:List O}(i:Nat)(Ae:TypeId)(es:Nat)(hi:t[i]?=J (.Bg [])):Le m ⟨t,h⟩ ⟨t.set i (.gr (G h) es []),h++[.tok Ae es 0]⟩:=λS0 w0 x a w hm B=>by
 obtain⟨R,z⟩:=ALa B.good Ae es;obtain⟨u,M,q⟩:=B.tm.get i _ hi;refine⟨_,R,?_,B.df⟩;have:=(AO.mono z _ _ B.tm).set i (AF1 (k:=G h) (es:=es) q);have e:a.tmps.toList.set i u=a.tmps.toList:=by
  apply Vc;intro j;rw[RD];by_cases e:i=j;subst e;have hl:=(Br.1 M).1;simp only[Awg,hl];exact M.symm;simp[e]
 rwa [e]at this
theorem Le.T4 {t:List V}{h:List O}(k i:Nat)(Ae:TypeId)(es:Nat)(hk:h[k]?=J (.box ty cs U))(hi:cs[i]?=J (.Bg [])):Le m ⟨t,h⟩ ⟨t,(h.set k (.box ty (cs.set i (.gr (G h) es [])) U))++[.tok Ae es 0]⟩:=λS0 w0 x a w hm z=>by
 obtain⟨g',he⟩:=ALa z.good Ae es;have M:k<G h:=(Br.1 hk).1;have Hh:(h++[O.tok Ae es 0])[k]?=J (.box ty cs U):=by rw[EJ M];exact hk
 obtain⟨hd,b1,b2,vs,b3,b4,b5⟩:=g'.ok k _ Hh;obtain⟨u,hu,hc⟩:=b5.get i _ hi;obtain⟨_,_,_,Dl,c3,c4,c5⟩:=z.good.ok k _ hk;have B:(x.grow (G h) ⟨0,0,I,0,I⟩ 0).loc k=x.loc k:=by simp[Cx.grow,Nat.ne_of_lt M]
 rw[B,c3]at b3;cases b3;obtain⟨u0,QX,cX⟩:=c5.get i _ hi;have q:=(AO.mono he _ _ c5).set i (AF1 (k:=G h) (es:=es) cX);have e:vs.toList.set i u0=vs.toList:=by
  apply Vc;intro j;rw[RD];by_cases e:i=j;subst e;have R:=(Br.1 QX).1;simp only[Awg,R];exact QX.symm;simp[e]
 rw[e]at q;have hH:(λj=>((h.set k (.box ty (cs.set i (.gr (G h) es [])) U))++[O.tok Ae es 0])[j]?)=Bx.set (λj=>(h++[O.tok Ae es 0])[j]?) k (.box ty (cs.set i (.gr (G h) es [])) U):=by
  funext j;simp only[Bx.set];by_cases e:j=k;subst e;rw[EJ (by simpa using M)];simp[M];simp only[e,Awh];rcases MK j (G h) with R|R
  rw[EJ (by simpa using R),EJ R,RD];have e' : ¬k=j:=λh=>e h.symm
  rw[Awf e'];rw[Gy (by simpa using R),Gy R];simp
 refine⟨x.grow (G h) ⟨0,0,I,0,I⟩ 0,?_,AO.mono he _ _ z.tm,z.df⟩;rw[hH];refine g'.H5 k _ (Ext.refl _ _) (.FR (Ay.refl w)) (λi=>⟨.inl,λh=>h.elim id (λe=>e ▸ hd)⟩) (λ_ _=>rfl) (λ_=>.inl ⟨hd,b2,rfl⟩) ?_ (λb j h=>.inl h) (λj hx=>g'.EA k _ j Hh hx);exact⟨b1,b2,vs,by rw[B];exact c3,by rw[B];exact c4,q⟩
def jb (l:List Nat)(t:List V):List V:=l.foldl (λt i=>t.set i .any) t
def CG (l:List (Nat×V))(t:List V):List V:=l.foldl (λt p=>t.set p.1 p.2) t
def lq:List Oper->List Nat
 | []=>[]
 | o::r=>match o.dst with
   | some d=>d::lq r
   | none=>lq r
def wr:Code->List Nat
 | .region _ ops _=>lq ops.toList
 | .seq c d=>wr c++wr d
 | .cond _ c d=>wr c++wr d
 | .block _ c=>wr c
 | .loop c=>wr c
 | .scope c=>wr c
 | .rangeFunc _ ps c d=>ps.toList++(wr c++wr d)
 | _=>[]
theorem AW.AUO {t:List V}{h:List O}(f:ι->List (Nat×V))(B:ι->List O)(R:ι->Nat)(M:ι)(ws:List Nat)(hw:wr c=ws)(t0:List V)(ht:jb ws t=t0)(q:Le m ⟨t,h⟩ ⟨CG (f M) t0,B M⟩)(z : ∀i,AW m P c (NH (λs'=>∃j,R j<R i/\Le m s' ⟨CG (f j) t0,B j⟩) K) ⟨CG (f i) t0,B i⟩):AW m P (.loop c) K ⟨t,h⟩:=
 AW.loop (λi=>⟨CG (f i) t0,B i⟩) R M q z
section
structure Ef where
 v:V
 t:Option (Nat×O)
 rk:Option Nat
def Pl.key:Pl->Option Nat
 | .rd k _=>J k
 | .wr k _=>J k
 | _=>E
def iN (P:Program)(o:Oper)(s:St)(K:Ef->Prop):Prop:=
 match C7 (ev s.t) o.op with
 | some (f,args)=>iE P f args λv=>K ⟨v,E,E⟩
 | none=>match (P2 P (ev s.t) o.op).ap (λk=>s.h[k]?) (G s.h) with
   | some (v,t)=>K ⟨v,t,(P2 P (ev s.t) o.op).key⟩
   | none=>False
def Ie (P:Program)(ops:List Oper)(K:List Ef->St->Prop):List Oper->List Ef->St->Prop
 | [],acc,s=>K acc s
 | o::r,acc,s=>S9 ops s.t o (iN P o s λe=>Ie P ops K r (acc++[e]) (s.step o.dst e.v e.t)) (Ie P ops K r (acc++[⟨.A7 [],E,E⟩]) (s.put o.dst (.A7 [])))
def Xu (P:Program)(ops:List Oper)(o:Oper)(s:St)(e:Ef):Prop:=
 ∀(S0:BF) (w0:Bs) (x:Cx) (w:World) (a:Act) (H:Bx),Good S0 w0 x w H->(∀t∈o.looksAt ops.toArray,CV x w (s.t.getD t .any) (a.tmps.getD t undef))->(∀k,(e.rk=J k\/e.t.map (·.1)=J k)->H k=s.h[k]?)->(∀ob,e.t=J (G s.h,ob)->¬x.dom (G s.h))->
  ∀(Q:Exit->Act->World->Prop) (next:Act->World->Prop),(∀u x' w',Good S0 w0 x' w' (H.upd e.t)->Ext x x' w w'->CV x' w' e.v u->next (a.put o.dst u) w')->
   if FB o (yielded ops.toArray a.tmps)then o.wp P a w next Q else next (a.put o.dst undef) w
def oA (P:Program)(Z:List PanicEntry->Prop)(ops:List Oper)(o:Oper)(s:St)(e:Ef):Prop:=
 ∀(S0:BF) (w0:Bs) (x:Cx) (w:World) (a:Act) (H:Bx),Good S0 w0 x w H->(∀t∈o.looksAt ops.toArray,CV x w (s.t.getD t .any) (a.tmps.getD t undef))->(∀k,(e.rk=J k\/e.t.map (·.1)=J k)->H k=s.h[k]?)->(∀ob,e.t=J (G s.h,ob)->¬x.dom (G s.h))->
  ∀(Q:Exit->Act->World->Prop) (next:Act->World->Prop),(∀ch x' w',Z ch->Good S0 w0 x' w' H->Ext x x' w w'->Q (.panic ch) a w')->(∀u x' w',Good S0 w0 x' w' (H.upd e.t)->Ext x x' w w'->CV x' w' e.v u->next (a.put o.dst u) w')->
   if FB o (yielded ops.toArray a.tmps)then o.wp P a w next Q else next (a.put o.dst undef) w
theorem Xu.z {e:Ef}(h:Xu P ops o s e):oA P Z ops o s e:=λS0 w0 x w a H g B M R Q next _ q=>h S0 w0 x w a H g B M R Q next q
variable {P:Program}
theorem QR (h : ∀t∈o.looksAt ops.toArray,CV x w (s.t.getD t .any) (a.tmps.getD t undef)):∀y∈o.op.operands.toList,CV x w (ev s.t y) (a.eval y):=by
 intro y B;cases y with
 | tmp t =>
   have:=h t (by
    unfold Gm;exact List.mem_append_left _ (List.mem_filterMap.2 ⟨_,B,rfl⟩))
   exact this
 | const v=>exact ALv x w v
 | func f=>simp only[ev,Act.eval,CV];exact⟨#[],F,by simp only[AO]⟩
 | global g=>simp only[ev,CV]
theorem QF {B:Bool}(ht : ∀t∈o.looksAt ops.toArray,CV x w (s.t.getD t .any) (a.tmps.getD t undef))(h:BQ ops s.t o.guard=J B):FB o (yielded ops.toArray a.tmps)=B:=by
 unfold BQ at h;unfold FB;cases z:o.guard with
 | none=>rw[z]at h;simp only[BL]at h;exact h
 | some p =>
   obtain⟨j,q⟩:=p;rw[z]at h;simp only at h ⊢;cases hd:(ops[j]?).bind (·.dst)with
   | none=>rw[hd]at h;cases h
   | some d =>
     rw[hd]at h;simp only at h;have qW:(ops.toArray[j]?).bind (·.dst)=J d:=by simpa using hd
     split at h;rename_i b hb;simp only[BL]at h;have hm:d∈o.looksAt ops.toArray:=by
      unfold Gm;refine AMm _ ?_;rw[z];simp only[qW];simp
     have M:=ht d hm;rw[hb]at M;simp only[CV,Ab]at M;have hy:yielded ops.toArray a.tmps j=J b:=by
      unfold yielded;rw[qW];have R:a.tmps[d]?=J (.bool b):=by
       rw[Kl]at M;cases hq:a.tmps[d]? with
       | none=>rw[hq]at M;cases M
       | some y=>rw[hq]at M;simp only[Dm]at M;subst M;rfl
      simp[R]
     rw[hy,<-h];cases b<;>cases q<;>rfl;rename_i hb;simp only[BL]at h;subst h;have hm:d∈o.looksAt ops.toArray:=by
      unfold Gm;refine AMm _ ?_;rw[z];simp only[qW];simp
     have M:=ht d hm;rw[hb]at M;simp only[CV]at M;obtain⟨vs,M,_⟩:=M;have hy:yielded ops.toArray a.tmps j=none:=by
      unfold yielded;rw[qW];have R:a.tmps[d]?=E\/a.tmps[d]?=J (.tuple vs):=by
       rw[Kl]at M;cases hq:a.tmps[d]? with
       | none=>exact .inl F
       | some y=>rw[hq]at M;simp only[Dm]at M;subst M;exact .inr F
      rcases R with R|R<;>simp[R]
     rw[hy];rfl;cases h
theorem APo {t:List V}{K1 K2:Prop}(h:S9 ops t o K1 K2):∃B,BQ ops t o.guard=J B/\(B=I->K1)/\(B=U->K2):=by
 unfold S9 at h;unfold BQ;cases z:o.guard with
 | none=>rw[z]at h;exact⟨I,F,λ_=>h,λe=>by cases e⟩
 | some p =>
   obtain⟨j,M⟩:=p;rw[z]at h;simp only at h ⊢;cases q:(ops[j]?).bind (·.dst)with
   | none=>rw[q]at h;exact h.elim
   | some d =>
     rw[q]at h;simp only at h ⊢;split at h
     . rename_i b R;rw[R];refine⟨b==M,F,λe=>h.1 (by simpa using e),λe=>h.2 ?_⟩;cases b<;>cases M<;>simp_all
     rename_i R;rw[R];exact⟨U,F,λe=>(by cases e),λ_=>h⟩;exact h.elim
theorem AEa {H:Bx}(g:Good S0 w0 x w H)(z : ∀y∈o.op.operands.toList,CV x w (ev s.t y) (a.eval y)){f:FuncId}(B:C7 (ev s.t) o.op=J (f,args)){K:V->Prop}(h:iE P f args K){next:Act->World->Prop}(hn : ∀v u x' w',K v->Good S0 w0 x' w' H->Ext x x' w w'->CV x' w' v u->next (a.put o.dst u) w'):o.wp P a w next Q:=by
 obtain⟨Bd,res,hp,C9,⟨fn,Ff,HK,U6⟩,hK⟩:=h;unfold C7 at B;split at B
 case h_2=>cases B
 rename_i fo R Fk ho;split at B
 case h_2=>cases B
 rename_i f' q hf;simp only[BL,Cr]at B;obtain⟨rfl,rfl⟩:=B;have M:=Pp (z fo (by simp[ho,Bl,Df]));rw[hf]at M;simp only[CV]at M;obtain⟨vs,M,EP⟩:=M;have Hw:AO x w (R.toList.map (ev s.t)++q) (R.toList.map a.eval++vs.toList):=(AO.of_map λy hy=>z y (by simp[ho,Bl,Df];exact .inr (by simpa using hy))).append EP;have:=C9 x.S w _ g.ex (MC _ _ _ hp Hw);have hb:fn.body≠none:=by intro e;rw[e]at HK;cases HK
 have A0:(execOp a.eval o).run P w=.ok (.enter f' (R.toList.map a.eval++vs.toList).toArray) w:=by
  have e1:(R.map a.eval++vs)=(R.toList.map a.eval++vs.toList).toArray:=by apply Gx.1;simp
  simp[execOp,ho,resolve,M,M5,invoke,callFunc,program,Sem.run,Ff,U6,hb,e1]
 unfold Er;rw[A0];refine this.mono ?_;rintro r w' ⟨u,S',rfl,Gb,CZ,Gc,A1⟩;obtain⟨g',he⟩:=g.MF (x':={ x with S:=S' }) Gb CZ rfl rfl Gc;exact hn res u _ w' hK g' he (CV.mono (Ub S' x w') _ _ A1)
theorem ADz {p:Pl}{H B:Bx}{M:Nat}(h : ∀k,p.key=J k->H k=B k):p.ap H M=p.ap B M:=by
 cases p with
 | rd k g=>simp only[Pl.ap,h k rfl]
 | wr k g=>simp only[Pl.ap,h k rfl]
 | _=>rfl
theorem AFK (h:BQ ops s.t o.guard=J U):Xu P ops o s ⟨.A7 [],E,E⟩:=by
 intro S0 w0 x w a H g B q R Q next M;rw[QF B h];exact M undef x w g (Ext.refl x w) (ld x w)
def Ov (P:Program)(ops:List Oper):List Oper->St->List Ef->St->Prop
 | [],s,es,s'=>es=[]/\s'=s
 | o::r,s,es,s'=>∃e er,es=e::er/\Xu P ops o s e/\(∀k ob,e.t=J (k,ob)->k<=G s.h)/\Ov P ops r (s.step o.dst e.v e.t) er s'
def iI (P:Program)(Z:List PanicEntry->Prop)(ops:List Oper):List Oper->St->List Ef->St->Prop
 | [],s,es,s'=>es=[]/\s'=s
 | o::r,s,es,s'=>∃e er,es=e::er/\oA P Z ops o s e/\(∀k ob,e.t=J (k,ob)->k<=G s.h)/\iI P Z ops r (s.step o.dst e.v e.t) er s'
theorem Ov.z {Z:List PanicEntry->Prop}{ops:List Oper} : ∀ {r:List Oper} {s:St} {es:List Ef} {s':St},Ov P ops r s es s'->iI P Z ops r s es s'
 | [],_,_,_,h=>h
 | _::_,_,_,_,⟨e,B,M,R,q,h4⟩=>⟨e,B,M,R.z,q,Ov.z h4⟩
theorem iL {ops:List Oper}{K:List Ef->St->Prop} : ∀(r:List Oper) (M:List Ef) (s:St),Ie P ops K r M s->∃es s',Ov P ops r s es s'/\K (M++es) s'
 | [],M,s,h=>⟨[],s,⟨rfl,rfl⟩,by simpa [Ie]using h⟩
 | o::r,M,s,h=>by
   unfold Ie at h;obtain⟨B,hB,q,h2⟩:=APo h;cases B with
   | false =>
     obtain⟨es,s',ht,z⟩:=iL r _ _ (h2 F);exact⟨⟨.A7 [],E,E⟩::es,s',⟨_,es,F,AFK hB,λk ob e=>(by cases e),ht⟩,by simpa using z⟩
   | true =>
     have q:=q F;unfold iN at q;split at q
     . rename_i f args hc;obtain⟨Bd,res,hp,C9,Ff,z⟩:=q;obtain⟨es,s',ht,z⟩:=iL r _ _ z;refine⟨⟨res,E,E⟩::es,s',⟨_,es,F,?_,λk ob e=>(by cases e),ht⟩,by simpa using z⟩;intro S0 w0 x w a H g hl hr hk Q next hn;rw[QF hl hB];exact AEa g (QR hl) hc (K:=λv=>v=res) ⟨Bd,res,hp,C9,Ff,rfl⟩ λv u x' w' hv g' he R=>by subst hv;exact hn u x' w' g' he R
     . rename_i hc;split at q
       . rename_i v t A0;obtain⟨es,s',ht,z⟩:=iL r _ _ q;refine⟨⟨v,t,_⟩::es,s',⟨_,es,F,?_,oZ A0,ht⟩,by simpa using z⟩;intro S0 w0 x w a H g hl hr hk Q next hn;rw[QF hl hB];have ye:(P2 P (ev s.t) o.op).ap H (G s.h)=J (v,t):=by rw[<-A0];exact ADz λk hk=>hr k (.inl hk)
         obtain⟨nx,w',x',u,A1,EH,R,g',he,_⟩:=oW g (QR hl) hk ye;show o.wp P a w next Q;unfold Er;rw[A1];rcases EH with rfl|⟨rfl,rfl⟩
         exact hn u x' w' g' he R;exact hn undef x' w' g' he R
       exact q.elim
section
variable {α:Type}
def Fx (f:Nat->Option α)(X:Nat->Bool):Nat->α->α
 | 0,d=>d
 | n+1,d=>if X n=I then(match f n with|some v=>v|none=>Fx f X n d)else Fx f X n d
theorem Wz {f:Nat->Option α}{X Y:Nat->Bool}{d:α} : ∀n,(∀j,j<n->(f j).isSome=I->X j=Y j)->Fx f X n d=Fx f Y n d
 | 0,_=>rfl
 | n+1,h=>by
   have ih:=Wz (d:=d) n λj M=>h j Ux
   simp only[Fx];cases B:f n with
   | none=>simp only[ih,ite_self]
   | some v=>rw[h n Ux (by rw[B];rfl),ih]
theorem rV {f:Nat->Option α}{X:Nat->Bool}{d:α} : ∀n,(∀j,j<n->X j=I->f j=E)->Fx f X n d=d
 | 0,_=>rfl
 | n+1,h=>by
   simp only[Fx];split;rename_i M;rw[h n Ux M];exact rV n λj B=>h j Ux
   exact rV n λj B=>h j Ux
theorem AAT {f:Nat->Option α}{X:Nat->Bool}{d v:α}{i:Nat} : ∀n,i<n->X i=I->f i=J v->(∀j,i<j->j<n->X j=I->f j=E)->Fx f X n d=v
 | 0,h,_,_,_=>Ux
 | n+1,h,q,M,R=>by
   simp only[Fx];by_cases e:i=n;subst e;rw[Awd q,M];have ih:=AAT (d:=d) n Ux q M λj z h2=>R j z Ux
   split;rename_i B;rw[R n Ux Ux B];exact ih;exact ih
theorem AAV {f:Nat->Option α}{X:Nat->Bool}{d:α} : ∀n,(∀j v,f j=J v->v=d)->Fx f X n d=d
 | 0,_=>rfl
 | n+1,h=>by
   simp only[Fx];split;split;rename_i v B;exact h _ _ B;exact AAV n h;exact AAV n h
theorem AAU {f:Nat->Option α}{d:α} : ∀(n i:Nat),i<=n->Fx f (λj=>decide (j<i)) n d=Fx f (λ_=>I) i d
 | 0,i,h=>by have:i=0:=Ux;subst this;rfl
 | n+1,i,h=>by
   by_cases e:i=n+1;subst e;exact Wz _ λj B _=>by simp[B]
   simp only[Fx];rw[Awf (by simp;omega)];exact AAU n i Ux
end
theorem ALe {Z:List PanicEntry->Prop}{ops:List Oper} : ∀ {r:List Oper} {s:St} {es:List Ef} {s':St},iI P Z ops r s es s'->
 ∃B:Nat->St,B 0=s/\B (G r)=s'/\(G es)=G r/\∀i o,r[i]?=J o->∃e,es[i]?=J e/\oA P Z ops o (B i) e/\(∀k ob,e.t=J (k,ob)->k<=(B i).h.length)/\B (i+1)=(B i).step o.dst e.v e.t
 | [],s,es,s',h=>by
   obtain⟨rfl,rfl⟩:=h;exact⟨λ_=>s',F,F,F,λi o h=>by simp at h⟩
 | o::r,s,es,s',h=>by
   obtain⟨e,er,rfl,R,q,z⟩:=h;obtain⟨B,k1,k2,k3,k4⟩:=ALe z;refine⟨λi=>match i with|0=>s|i+1=>B i,rfl,k2,by simp[k3],λi o' M=>?_⟩;match i,M with
   | 0,M=>simp only[LX,BL]at M;subst M;exact⟨e,F,R,q,k1⟩
   | i+1,M=>simp only[JU]at M ⊢;exact k4 i o' M
def eI (l:List Oper):List (List Nat):=l.foldl (λacc o=>acc++[(GL o).flatMap λj=>j::acc.getD j []]) []
theorem ABC (X:Nat->Prop):∀(l pre:List Oper) (B:List (List Nat)),G B=G pre->(∀i o,(pre++l)[i]?=J o->X i->∀j∈GL o,X j)->(∀i r,B[i]?=J r->X i->∀j∈r,X j)->
 ∀i r,(l.foldl (λB o=>B++[(GL o).flatMap λj=>j::B.getD j []]) B)[i]?=J r->X i->∀j∈r,X j
 | [],pre,B,_,_,h=>by simpa using h
 | o::l,pre,B,hl,hX,h=>by
   simp only[Bw];refine ABC X l (pre++[o]) _ (by simp[hl]) (by simpa using hX) λi r R hx j M=>?_
   rcases MK i (G B) with A0|JL
   rw[EJ A0]at R;exact h i r R hx j M;rw[Gy JL]at R;have cq:i - G B=0:=by
    rcases Nat.eq_zero_or_pos (i - G B)with h|h
    exact h;have:=(Br.1 R).1;simp at this;omega
   rw[cq]at R;simp only[LX,BL]at R;subst R;have z:(pre++o::l)[i]?=J o:=by
    rw[Gy Ux,show i - G pre=0 by omega];rfl
   obtain⟨k,hk,M⟩:=List.mem_flatMap.1 M;have q:=hX i o z hx k hk;rcases Cf.1 M with rfl|M
   exact q;rw[Bv]at M;cases hq:B[k]? with
   | none=>rw[hq]at M;simp at M
   | some r'=>rw[hq]at M;exact h k r' hq q j M
abbrev Ks:=List (Option Nat×Option Nat)
def dQ (a b:Option Nat×Option Nat):Bool:=
 (match a.1 with|some k=>b.1 !=J k && b.2 !=J k|none=>I) && (match b.1 with|some k=>a.2 !=J k|none=>I)
def WB (l:List Oper)(ks:Ks)(T:List (List Nat))(i:Nat):Bool:=
 match l[i]?,ks[i]? with
 | some o,J q=>((GL o).all (λj=>decide (j<i)) && (T.getD i []).all (λj=>decide (j<i))) && (E6 i).all λj=>(T.getD i []).contains j ||
    match l[j]?,ks[j]? with
    | some p,J r=>p.apart l.toArray o && dQ r q
    | _,_=>U
 | _,_=>U
def Lk (l:List Oper)(ks:Ks):Bool:=(E6 (G l)).all (WB l ks (eI l))
def Ef.ks (e:Ef):Option Nat×Option Nat:=(e.t.map (·.1),e.rk)
theorem AAR {a b:Option Nat×Option Nat}(h:dQ a b=I):(∀k,a.1=J k->b.1≠J k/\b.2≠J k)/\∀k,b.1=J k->a.2≠J k:=by
 unfold dQ at h;rw[Ak]at h;refine⟨λk B=>?_,λk B=>?_⟩;have:=h.1;rw[B]at this;simpa using this;have:=h.2;rw[B]at this;simpa using this
theorem xC {ks:Ks}(h:Lk l ks=I){i:Nat}(z:l[i]?=J o):∃q r,ks[i]?=J q/\(eI l).getD i []=r/\((∀j∈GL o,j<i)/\∀j∈r,j<i)/\∀j p,j<i->l[j]?=J p->j∈r\/∃B,ks[j]?=J B/\p.apart l.toArray o=I/\dQ B q=true:=by
 have M:i<G l:=(Br.1 z).1;unfold Lk at h;rw[ES]at h;have:=h i (KP.2 M);unfold WB at this;rw[z]at this;cases R:ks[i]? with
 | none=>rw[R]at this;cases this
 | some q =>
   rw[R]at this;simp only[Ak,ES,Awe,KP,T9,List.contains_iff_mem]at this;refine⟨q,_,F,F,this.1,λj p hj hp=>?_⟩;rcases this.2 j hj with h|h
   exact .inl h;rw[hp]at h;cases hq:ks[j]? with
   | none=>rw[hq]at h;cases h
   | some B=>rw[hq]at h;simp only[Ak]at h;exact .inr ⟨B,rfl,h.1,h.2⟩
section
variable {l:List Oper} {es:List Ef} {n:Nat}
def fT (l:List Oper)(es:List Ef)(n τ:Nat)(i:Nat):Option V:=
 match l[i]?,es[i]? with
 | some o,J e=>if o.dst=J τ/\τ<n then J e.v else E
 | _,_=>E
def fH (es:List Ef)(k:Nat)(i:Nat):Option (Option O):=
 match es[i]? with
 | some e=>match e.t with
   | some (k',ob)=>if k=k' then J (J ob)else E
   | none=>E
 | none=>E
theorem AZW (s:St)(d:Option Tmp)(v:V)(t:Option (Nat×O)):(s.step d v t).t.length=G s.t:=by cases d<;>simp[St.step,St.put]
theorem AZX (s:St)(d:Option Tmp)(v:V)(t:Option (Nat×O))(B:Nat):(s.step d v t).t.getD B .any=if d=J B/\B<G s.t then v else s.t.getD B .any:=by
 cases d with
 | none=>simp[St.step,St.put]
 | some d =>
   simp only[St.step,St.put,Bv,RD,BL];by_cases e:d=B;subst e;by_cases M:d<G s.t;simp[M];simp[M,M6 (Hq M)];simp[e]
def cG (t:Option (Nat×O))(k:Nat)(d:Option O):Option O:=
 match t with
 | some (k',ob)=>if k=k' then J ob else d
 | none=>d
theorem AZV (s:St)(d:Option Tmp)(v:V)(t:Option (Nat×O))(M : ∀k R,t=J (k,R)->k<=G s.h)(k:Nat):(s.step d v t).h[k]?=cG t k (s.h[k]?):=by
 have e:=congrFun (Kj s.h t M) k;have B:(s.step d v t).h=Bk s.h t:=by cases d<;>rfl
 rw[B,e];cases t with
 | none=>rfl
 | some p=>rfl
theorem pY {K:St->Prop}{n:Nat}{s s':St}(ht:iI P Z l l s es s')(hc:Lk l (es.map Ef.ks)=I)(hK:K s')(hQ : ∀x s a w,K s->Bo S0 w0 x s a w->Q .normal a w)(Gb : ∀e∈es,∀k ob,k<n->e.t=J (k,ob)->s.h[k]?=J ob)(hP : ∀ch x a w H,Z ch->Good S0 w0 x w H->(∀k,k<n->H k=s.h[k]?)->a.tmps.size=G s.t->Marks w0 a.defers w->Q (.panic ch) a w)(hA:Bo S0 w0 x s a w):wpAny P .any l.toArray Q l.toArray.size (M4 l.toArray.size U) a w:=by
 obtain⟨ss,s0,sN,Mh,A6⟩:=ALe ht;have rG : ∀i,i<=G l->(ss i).t.length=G s.t:=by
  intro i;induction i with
  | zero=>intro _;rw[s0]
  | succ i ih=>intro hi;obtain⟨e,_,_,_,h4⟩:=A6 i l[i] (BE Ux);rw[h4,AZW,ih Ux]
 have hT : ∀i R,i<=G l->(ss i).t.getD R .any=Fx (fT l es (G s.t) R) (λ_=>I) i (s.t.getD R .any):=by
  intro i R;induction i with
  | zero=>intro _;rw[s0];rfl
  | succ i ih=>intro hi;have BD:l[i]?=J l[i]:=BE Ux;obtain⟨e,he,_,_,h4⟩:=A6 i l[i] BD;rw[h4,AZX,rG i Ux,ih Ux];simp only[Fx,Awg,fT,BD,he];split<;>rfl
 have D1 : ∀i k,i<=G l->(ss i).h[k]?=Fx (fH es k) (λ_=>I) i (s.h[k]?):=by
  intro i k;induction i with
  | zero=>intro _;rw[s0];rfl
  | succ i ih =>
    intro hi;have BD:l[i]?=J l[i]:=BE Ux;obtain⟨e,he,_,h3,h4⟩:=A6 i l[i] BD;rw[h4,AZV _ _ _ _ h3,ih Ux];simp only[Fx,Awg,fH,he,cG];cases e.t with
    | none=>rfl
    | some p=>obtain⟨k',ob⟩:=p;simp only;split<;>rfl
 have F7 : ∀i j,i<=j->j<=G l->(ss i).h.length<=(ss j).h.length:=by
  intro i j Is z;induction j with
  | zero=>have:i=0:=Ux;subst this;exact BN _
  | succ j ih =>
    by_cases e:i=j+1;subst e;exact BN _;refine Ps (ih Ux Ux) ?_;obtain⟨e,_,_,_,h4⟩:=A6 j l[j] (BE Ux);rw[h4];have e2:((ss j).step l[j].dst e.v e.t).h=Bk (ss j).h e.t:=by cases l[j].dst<;>rfl
    rw[e2];unfold Bk;split;exact BN _;split<;>simp
 have A8 : ∀(B:Array Bool) (x:Cx) (a:Act) (w:World),(E6 (G l)).countP (λi=> !B.getD i U)<=0->B.size=G l->
  (∀(i:Nat) (o:Oper),l[i]?=J o->B.getD i U=I->∀j∈GL o,B.getD j U=I)->a.tmps.size=G s.t->Marks w0 a.defers w->
  (∀R,R<G s.t->CV x w (Fx (fT l es (G s.t) R) (λi=>B.getD i U) (G l) (s.t.getD R .any)) (a.tmps.getD R undef))->
  Good S0 w0 x w (λk=>Fx (fH es k) (λi=>B.getD i U) (G l) (s.h[k]?))->wpAny P .any l.toArray Q 0 B a w:=by
  intro B x a w B2 B1 DK FK Fu R5 hg;have A0 : ∀i,i<G l->B.getD i U=true:=by
   intro i hi;have h0:=fx.1 (Nat.le_zero.1 B2) i (KP.2 hi);simpa using h0
  have TX:mr .any l.toArray B=[]:=by
   rw[List.eq_nil_iff_forall_not_mem];intro j z;rw[mem_ready]at z;obtain⟨h0,o,ho,_⟩:=z;have A3:j<G l:=(Br.1 (show l[j]?=J o by simpa using ho)).1;rw[WS _ _ Ux,A0 j A3]at h0;cases h0
  refine⟨TX,hQ x s' a w hK ⟨?_,?_,Fu⟩⟩;have e:(λk=>s'.h[k]?)=λk=>Fx (fH es k) (λi=>B.getD i U) (G l) (s.h[k]?):=by
   funext k;rw[<-sN,D1 (G l) k (BN _)];exact Wz _ λj z _=>by rw[A0 j z]
  rw[e];exact hg;refine AO.SI (by simp[FK,<-sN,rG (G l) (BN _)]) λR v u hv hu=>?_
  have SA:R<G s.t:=by have:=(Br.1 hv).1;rw[<-sN,rG (G l) (BN _)]at this;exact this
  have h1:=R5 R SA;have e:Fx (fT l es (G s.t) R) (λi=>B.getD i U) (G l) (s.t.getD R .any)=v:=by
   have:s'.t.getD R .any=v:=by rw[Bv,hv];rfl
   rw[<-this,<-sN,hT (G l) R (BN _)];exact Wz _ λj z _=>by rw[A0 j z]
  rw[e]at h1;have:a.tmps.getD R undef=u:=by
   have Te:a.tmps[R]?=J u:=by simpa using hu
   rw[Kl,Te];rfl
  rwa [this]at h1
 have key : ∀(A1:Nat) (B:Array Bool) (x:Cx) (a:Act) (w:World),(E6 (G l)).countP (λi=> !B.getD i U)<=A1->B.size=G l->
  (∀(i:Nat) (o:Oper),l[i]?=J o->B.getD i U=I->∀j∈GL o,B.getD j U=I)->a.tmps.size=G s.t->Marks w0 a.defers w->
  (∀R,R<G s.t->CV x w (Fx (fT l es (G s.t) R) (λi=>B.getD i U) (G l) (s.t.getD R .any)) (a.tmps.getD R undef))->
  Good S0 w0 x w (λk=>Fx (fH es k) (λi=>B.getD i U) (G l) (s.h[k]?))->wpAny P .any l.toArray Q A1 B a w:=by
  intro A1;induction A1 with
  | zero=>exact A8
  | succ A1 ih =>
    intro B x a w B2 B1 DK FK Fu R5 hg;refine⟨λTX=>?_,λi hi=>?_⟩
    .
      have A0 : ∀i,i<G l->B.getD i U=true:=by
       intro i;induction i using Nat.strongRecOn with
       | _ i mv =>
         intro hi;cases M:B.getD i U with
         | true=>rfl
         | false =>
           have BD:l[i]?=J l[i]:=BE hi;obtain⟨_,_,_,_,⟨hb,_⟩,_⟩:=xC hc BD;have:i∈mr .any l.toArray B:=by
            rw[mem_ready];refine⟨by rw[WS _ _ Ux];exact M,l[i],ZA,λe he qV=>?_⟩;have z:=hb e.on (dZ.2 ⟨e,he,qV,rfl⟩);exact mv e.on z Ux
           rw[TX]at this;cases this
      have hz:(E6 (G l)).countP (λi=> !B.getD i U)<=0:=by
       rw[Nat.le_zero,fx];intro i hi;simp[A0 i (KP.1 hi)]
      exact(A8 B x a w hz B1 DK FK Fu R5 hg).2
    rw[mem_ready]at hi;obtain⟨h0,o,ho,A0⟩:=hi;have ho:l[i]?=J o:=by simpa using ho
    have A3:i<G l:=(Br.1 ho).1;rw[WS _ _ Ux]at h0;have B7 : ∀j∈GL o,B.getD j U=true:=by
     intro j z;rw[dZ]at z;obtain⟨e,Mg,TO,jk⟩:=z;rw[<-jk];exact A0 e Mg TO
    obtain⟨e,he,A5,G2,F6⟩:=A6 i o ho;obtain⟨q,r,hq,hr,⟨_,D8⟩,D7⟩:=xC hc ho;have Iy:q=e.ks:=by rw[CM,he]at hq;simpa using hq.symm
    subst Iy;have kD : ∀j∈r,B.getD j U=true:=by
     intro j z;have:=ABC (λj=>B.getD j U=I\/j=i) l [] [] rfl (λi' o' JM M j z=>by
      rcases M with M|rfl
      exact .inl (DK i' o' JM M j z);simp only[BU]at JM;rw[ho]at JM;cases JM;exact .inl (B7 j z)) (λi' r' h=>by simp at h) i r (by
      have:(eI l)[i]?=J r\/r=[]:=by
       rw[Bv]at hr;cases M:(eI l)[i]? with
       | none=>rw[M]at hr;exact .inr hr.symm
       | some y=>rw[M]at hr;exact .inl (by rw[<-hr];rfl)
      rcases this with h|h
      exact h;subst h;cases z) (.inr F) j z
     exact this.resolve_right λe=>by have:=D8 j z;omega
    have Au : ∀j p,j<i->l[j]?=J p->B.getD j U=U->∃ej,es[j]?=J ej/\p.apart l.toArray o=I/\dQ ej.ks e.ks=true:=by
     intro j p z hp M;rcases D7 j p z hp with h|⟨q',h1,h2,h3⟩
     rw[kD j h]at M;cases M;rw[CM,Ia]at h1;obtain⟨ej,h4,rfl⟩:=h1;exact⟨ej,h4,h2,h3⟩
    have Um : ∀j p,i<j->l[j]?=J p->B.getD j U=I->∃ej,es[j]?=J ej/\o.apart l.toArray p=I/\dQ e.ks ej.ks=true:=by
     intro j p z hp M;obtain⟨qj,rj,QU,Rx,_,E9⟩:=xC hc hp;rw[CM,Ia]at QU;obtain⟨ej,h4,rfl⟩:=QU;rcases E9 i o z ho with h|⟨q',h1,h2,h3⟩
     have:=ABC (λj=>B.getD j U=I) l [] [] rfl (λi' o' JM M j z=>DK i' o' (by simpa using JM) M j z) (λi' r' h=>by simp at h) j rj (by
      rw[Bv]at Rx;cases M:(eI l)[j]? with
      | none=>rw[M]at Rx;simp only[Hr]at Rx;subst Rx;cases h
      | some y=>rw[M]at Rx;simp only[Dm]at Rx;rw[<-Rx];exact M) M i h
     rw[h0]at this;cases this;rw[CM,he]at h1;simp only[Nu,BL]at h1;subst h1;exact⟨ej,h4,h2,h3⟩
    have D2 : ∀R∈o.looksAt l.toArray,∀j,j<G l->(fT l es (G s.t) R j).isSome=I->B.getD j U=decide (j<i):=by
     intro R SA j z hw;have hp:l[j]?=J l[j]:=BE z;have B3:l[j].dst=J R:=by
      unfold fT at hw;rw[hp]at hw;cases M:es[j]? with
      | none=>rw[M]at hw;cases hw
      | some ej=>rw[M]at hw;simp only at hw;split at hw;(· (rename_i h;exact h.1));(· cases hw)
     rcases aN j i with h|h|h
     cases M:B.getD j U with
     | true=>simp[h]
     | false=>obtain⟨ej,_,h2,_⟩:=Au j l[j] h hp M;exact absurd SA ((AC9 h2).1 R B3)
     subst h;simp[h0];cases M:B.getD j U with
     | false=>simp;omega
     | true=>obtain⟨ej,_,h2,_⟩:=Um j l[j] h hp M;exact absurd SA ((AC9 h2).2.2 R B3)
    have A9 : ∀k,(e.rk=J k\/e.t.map (·.1)=J k)->∀j,j<G l->(fH es k j).isSome=I->j≠i->B.getD j U=decide (j<i):=by
     intro k hk j z hw A7;have hp:l[j]?=J l[j]:=BE z;obtain⟨ej,qa,OM⟩:∃ej,es[j]?=J ej/\ej.t.map (·.1)=J k:=by
      unfold fH at hw;cases M:es[j]? with
      | none=>rw[M]at hw;cases hw
      | some ej =>
        rw[M]at hw;simp only at hw;refine⟨ej,F,?_⟩;cases ht:ej.t with
        | none=>rw[ht]at hw;cases hw
        | some p =>
          obtain⟨k',ob⟩:=p;rw[ht]at hw;simp only at hw;split at hw;rename_i h;subst h;rfl;cases hw
     rcases aN j i with h|h|h
     cases M:B.getD j U with
     | true=>simp[h]
     | false =>
       obtain⟨E0,J7,_,h3⟩:=Au j l[j] h hp M;rw[qa]at J7;cases J7;have:=(AAR h3).1 k OM;rcases hk with hk|hk
       exact absurd hk this.2;exact absurd hk this.1
     exact absurd h A7;cases M:B.getD j U with
     | false=>simp;omega
     | true =>
       obtain⟨E0,J7,_,h3⟩:=Um j l[j] h hp M;rw[qa]at J7;cases J7;rcases hk with hk|hk
       exact absurd hk ((AAR h3).2 k OM);exact absurd OM ((AAR h3).1 k hk).1
    have D0 : ∀k,(e.rk=J k\/e.t.map (·.1)=J k)->Fx (fH es k) (λj=>B.getD j U) (G l) (s.h[k]?)=(ss i).h[k]?:=by
     intro k hk;rw[D1 i k Ux,<-AAU (G l) i Ux];refine Wz _ λj z hw=>?_
     by_cases A7:j=i;subst A7;simp[h0];exact A9 k hk j z hw A7
    show wpOp P l.toArray Q i _ a w;unfold wpOp;have E4:l.toArray[i]?=J o:=by simpa using ho
    rw[E4];simp only;have cb:=A5 x.S (w0.re w hg.keep.size) x w a _ hg.XR (λR SA=>?_) D0 (λob Iw zE=>?_) Q (wpAny P .any l.toArray Q A1 (B.setIfInBounds i I)) (λch x' w' hz g' Fe=>hP ch x' a w' _ hz (hg.Sg Fe g').1 (λk hk=>AAV _ λj v hv=>by
     unfold fH at hv;cases M:es[j]? with
     | none=>rw[M]at hv;cases hv
     | some ej =>
       rw[M]at hv;simp only at hv;cases ht:ej.t with
       | none=>rw[ht]at hv;cases hv
       | some p =>
         obtain⟨k',ob⟩:=p;rw[ht]at hv;simp only at hv;split at hv;rename_i h;subst h;cases hv;exact(Gb ej (Cj M) _ _ hk ht).symm;cases hv) FK (Fu.mono (hg.Sg Fe g').2)) (λu x' w' g' Fe E1=>?_)
    split;rename_i hw;rw[Awd hw]at cb;exact .inl cb;rename_i hw;rw[Awf hw]at cb;exact cb
    .
      rcases MK R (G s.t) with B0|B0
      rw[hT i R Ux,<-AAU (G l) i Ux,<-Wz (G l) (D2 R SA)];exact R5 R B0;have:(ss i).t.getD R .any=.any:=by
       rw[Bv,M6 (by rw[rG i Ux];exact B0)];rfl
      rw[this];simp only[CV]
    .
      obtain⟨Cw,B8⟩:=hg.dom _ zE;rw[D0 _ (.inr (by rw[Iw];rfl))]at B8;simp at B8
    .
      have A2 : ∀j,(B.setIfInBounds i I).getD j U=if i=j then I else B.getD j false:=λj=>Rb B i j Ux
      refine ih _ x' _ w' ?_ (by simpa using B1) (λi' o' JM M j z=>?_) (by rw[ABO];exact FK) (by rw[SM];exact Fu.mono (hg.Sg Fe g').2) (λR SA=>?_) ?_;have:=AE2 (p:=λj=> !B.getD j U) (p':=λj=> !(B.setIfInBounds i I).getD j U) (E6 (G l)) (λj _ h=>by
       simp only[A2]at h;split at h;cases h;exact h) i (KP.2 A3) (by simp[h0]) (by simp only[A2];simp)
      omega;rw[A2]at M ⊢;split;rfl;split at M;rename_i e1;subst e1;rw[ho]at JM;cases JM;exact B7 j z;exact DK i' o' JM M j z;by_cases hd:o.dst=J R;have e1:Fx (fT l es (G s.t) R) (λj=>(B.setIfInBounds i I).getD j U) (G l) (s.t.getD R .any)=e.v:=by
       refine AAT (G l) A3 (by simp[A2]) (by simp[fT,ho,he,hd,SA]) λj Is z M=>?_
       rw[A2,Awf Ux]at M;have hp:l[j]?=J l[j]:=BE z;obtain⟨ej,qa,h2,_⟩:=Um j l[j] Is hp M;unfold fT;rw[hp,qa];simp only;rw[Awf];rintro ⟨h5,_⟩;exact(AC9 h2).2.1 R hd h5
      rw[e1,hd,YP,Awd F,Awd (by rw[FK];exact SA)];exact E1;have e1:Fx (fT l es (G s.t) R) (λj=>(B.setIfInBounds i I).getD j U) (G l) (s.t.getD R .any)=Fx (fT l es (G s.t) R) (λj=>B.getD j U) (G l) (s.t.getD R .any):=by
       refine Wz _ λj z hw=>?_
       rw[A2];split;rename_i e2;subst e2;simp[fT,ho,he,hd]at hw;rfl
      rw[e1];have e2:(a.put o.dst u).tmps.getD R undef=a.tmps.getD R undef:=by
       cases E2:o.dst with
       | none=>rfl
       | some d=>rw[YP,Awf (λe=>hd (by rw[E2,e]))]
      rw[e2];exact CV.mono Fe _ _ (R5 R SA);have e1:(λk=>Fx (fH es k) (λj=>(B.setIfInBounds i I).getD j U) (G l) (s.h[k]?))=Bx.upd (λk=>Fx (fH es k) (λj=>B.getD j U) (G l) (s.h[k]?)) e.t:=by
       funext k;have Ja:(fH es k i=E)->Fx (fH es k) (λj=>(B.setIfInBounds i I).getD j U) (G l) (s.h[k]?)=Fx (fH es k) (λj=>B.getD j U) (G l) (s.h[k]?):=by
        intro hn;refine Wz _ λj z hw=>?_
        rw[A2];split;rename_i e2;subst e2;rw[hn]at hw;cases hw;rfl
       cases dI:e.t with
       | none=>exact Ja (by simp[fH,he,dI])
       | some pp =>
         obtain⟨k',ob⟩:=pp;simp only[Bx.upd,Bx.set];by_cases EC:k=k';subst EC;rw[Awd rfl];refine AAT (G l) A3 (by simp[A2]) (by simp[fH,he,dI]) λj Is z M=>?_
         rw[A2,Awf Ux]at M;cases E3:fH es k j with
         | none=>rfl
         | some y=>have:=A9 k (.inr (by rw[dI];rfl)) j z (by rw[E3];rfl) Ux;rw[M]at this;simp at this;omega
         rw[Awf EC];exact Ja (by simp[fH,he,dI,EC])
      rw[e1];exact(hg.Sg Fe g').1
 refine key _ _ x a w ?_ ZA (λi o hi M=>by rw[r5]at M;cases M) (by have:=hA.tm.len;simpa using this) hA.df (λR SA=>?_) ?_;have:=List.countP_le_length (p:=λi=> !(M4 l.toArray.size U).getD i U) (l:=E6 (G l));simpa using this;rw[rV (G l) λj _ M=>by rw[r5]at M;cases M];have:=hA.tm.getD R undef;simpa [Kl,Bv]using this;have e:(λk=>Fx (fH es k) (λi=>(M4 l.toArray.size U).getD i U) (G l) (s.h[k]?))=λk=>s.h[k]?:=by
  funext k;exact rV (G l) λj _ M=>by rw[r5]at M;cases M
 rw[e];exact hA.good
end
theorem AW.AFD {id:Nat}{s s':St}{es:List Ef}(hm:P.follows .mixedOrders=I)(R:m.rd=E\/Pb ops=I)(ht:Ov P ops ops s es s')(M:Lk ops (es.map Ef.ks)=I)(hK:K .normal s'):AW m P (.region id ops.toArray I) K s:=λn S0 w0 x a w qq B=>by
 have e:({ w with drawn:=w.drawn+1 }:World)=w.drew:=F;have Au:Bo S0 w0 x s a w.drew:=by
  obtain⟨g,he⟩:=B.good.MF (x':=x) (w':=w.drew) (Ay.refl w).drew ⟨λ_ _ h=>h,λb j v _ M=>(Ay.refl w).drew.cell M⟩ rfl rfl (λb j h=>.inl h);exact⟨g,AO.mono he _ _ B.tm,B.df.mono (.FR (Ay.refl w).drew)⟩
 obtain⟨rd,n0⟩:=m;cases rd with
 | none=>refine wpIn_wide.2 (wp_region_any hm ?_);rw[e];exact pY (K:=K .normal) (Z:=λ_=>False) (n:=0) ht.z M hK (λx s a w h B=>⟨x,s,B,h⟩) (λ_ _ k _ q=>absurd q (UE k)) (λ_ _ _ _ _ h=>h.elim) Au
 | some l =>
   have R:=R.resolve_left ZA;refine Code.wpIn_mono (Q:=ADj λa w=>∃x s,Bo S0 w0 x s a w/\K .normal s) (λe a w h=>?_) (wpIn_region_any hm (ANO (AVW _) R _ _ _ _ ?_));cases e<;>first|exact h|exact h.elim
   rw[e];exact pY (K:=K .normal) (Z:=λ_=>False) (n:=0) ht.z M hK (λx s a w h B=>⟨x,s,B,h⟩) (λ_ _ k _ q=>absurd q (UE k)) (λ_ _ _ _ _ h=>h.elim) Au
theorem AW.draw {id:Nat}(q:P.follows .mixedOrders=I)(R:m.rd=E\/Pb ops=I)(h:Ie P ops (λes s'=>Lk ops (es.map Ef.ks)=I/\K .normal s') ops [] s):AW m P (.region id ops.toArray I) K s:=by
 obtain⟨es,s',z,M,B⟩:=iL _ _ _ h;exact AW.AFD q R z (by simpa using M) B
end
section
theorem Fz:Tryz.prog.follows .mixedOrders=true:=ZC
def Qv (P:Program)(o:Oper)(s:St):Option (Ef×St):=
 match (P2 P (ev s.t) o.op).ap (λk=>s.h[k]?) (G s.h) with
 | some (v,t)=>J (⟨v,t,(P2 P (ev s.t) o.op).key⟩,s.step o.dst v t)
 | none=>E
def eo (P:Program)(ops:List Oper):List Oper->List Ef->St->Option (List Oper×List Ef×St)
 | [],acc,s=>J ([],acc,s)
 | o::r,acc,s=>match BQ ops s.t o.guard with
   | some I=>match Ka o.op with
     | false=>match Qv P o s with
       | some (e,s')=>eo P ops r (acc++[e]) s'
       | none=>E
     | true=>J (o::r,acc,s)
   | some U=>eo P ops r (acc++[⟨.A7 [],E,E⟩]) (s.put o.dst (.A7 []))
   | none=>E
variable {P:Program} {ops:List Oper} {K:List Ef->St->Prop}
theorem Es : ∀ {l z:List Oper} {B q:List Ef} {s s':St},eo P ops l B s=J (z,q,s')->Ie P ops K z q s'->Ie P ops K l B s
 | [],z,B,q,s,s',h,M=>by simp only[eo,BL,Cr]at h;obtain⟨rfl,rfl,rfl⟩:=h;exact M
 | o::r,z,B,q,s,s',h,M=>by
   unfold eo at h;split at h;rename_i hg;split at h;rename_i hc;split at h;rename_i e s1 R;have ih:=Es h M;unfold Qv at R;split at R;rename_i v t A0;simp only[BL,Cr]at R;obtain⟨rfl,rfl⟩:=R;unfold Ie;refine IF hg ?_;unfold iN;rw[YC hc];simp only;rw[A0];exact ih;cases R;cases h;simp only[BL,Cr]at h;obtain⟨rfl,rfl,rfl⟩:=h;exact M;rename_i hg;unfold Ie;exact X8 hg (Es h M);cases h
theorem ANF {B:List Ef}{f:FuncId}{args Bd:List V}(M:AC P f Bd res)(z:BQ ops s.t o.guard=J I)(R:C7 (ev s.t) o.op=J (f,args))(hp:V.CF args=J Bd)(q:P.funcs[f]?=J fn)(hb:fn.body.isSome=I)(hn:(fn.name == "runtime.NumGoroutine")=U)(h:Ie P ops K r (B++[⟨res,E,E⟩]) (s.step o.dst res E)):Ie P ops K (o::r) B s:=by
 unfold Ie;refine IF z ?_;unfold iN;rw[R];simp only;exact⟨Bd,res,hp,M,⟨fn,q,hb,by simpa using hn⟩,h⟩
theorem ADs {K:St->Prop}{B:List Ef}(M:Lk ops (B.map Ef.ks)=I)(h:K s):Ie P ops (λes s'=>Lk ops (es.map Ef.ks)=I/\K s') [] B s:=⟨M,h⟩
def Ee (e:Operand->V)(op:Op):Option (FuncId×List V):=
 match C7 e op with
 | some (f,args)=>match V.CF args with
   | some a=>J (f,a)
   | none=>E
 | none=>E
theorem Tv {op:Op}{f:FuncId}(h:Ee e op=J (f,Bd)):∃args,C7 e op=J (f,args)/\V.CF args=J Bd:=by
 unfold Ee at h;split at h;rename_i R args M;split at h;rename_i a B;simp only[BL,Cr]at h;obtain⟨rfl,rfl⟩:=h;exact⟨args,M,B⟩;cases h;cases h
theorem oX {K:St->Prop}{f:FuncId}(B:AC P f Bd res)(z:P.funcs[f]?=J fn)(hb:fn.body.isSome=I)(hn:(fn.name == "runtime.NumGoroutine")=U)(hg:BQ ops s.t o.guard=J I)(q:Ee (ev s.t) o.op=J (f,Bd))(h:Eg P ops K r (s.step o.dst res E)):Eg P ops K (o::r) s:=by
 obtain⟨args,M,R⟩:=Tv q;exact ANR B hg M R z hb hn h
theorem Xz {B:List Ef}{f:FuncId}(M:AC P f Bd res)(hf:P.funcs[f]?=J fn)(hb:fn.body.isSome=I)(hn:(fn.name == "runtime.NumGoroutine")=U)(hg:BQ ops s.t o.guard=J I)(z:Ee (ev s.t) o.op=J (f,Bd))(h:Ie P ops K r (B++[⟨res,E,E⟩]) (s.step o.dst res E)):Ie P ops K (o::r) B s:=by
 obtain⟨args,R,q⟩:=Tv z;exact ANF M hg R q hf hb hn h
theorem HI {P:Program}{ops:List Oper}{K:List Ef->St->Prop}{B:List Ef}(h:K B s):Ie P ops K [] B s:=h
end
def Hc {α:Type}(es:Nat):Nat->List α->List (List α)
 | 0,_=>[]
 | n+1,l=>l.take es::Hc es n (l.drop es)
theorem wj {α:Type}{es:Nat} : ∀(n:Nat) (l:List α),G (Hc es n l)=n
 | 0,_=>rfl
 | n+1,l=>by simp[Hc,wj n]
theorem AEp {α:Type}{es:Nat} : ∀(n:Nat) (l:List α),n*es<=G l->∀r∈Hc es n l,G r=es
 | 0,_,_,r,h=>by cases h
 | n+1,l,B,r,h=>by
   rw[Gz]at B;rcases Cf.1 h with rfl|h
   rw[Fa];omega;exact AEp n _ (by rw[Ns];omega) r h
theorem AEn {α:Type}{es:Nat} : ∀(n:Nat) (l:List α),(Hc es n l).flatten=l.take (n*es)
 | 0,l=>by simp[Hc]
 | n+1,l=>by
   simp only[Hc,Hp,AEn n];rw[show (n+1)*es=es+n*es by rw[Gz];omega,uX]
theorem bZ {α:Type}{es:Nat} : ∀(AG:List (List α)),(∀r∈AG,G r=es)->Hc es (G AG) AG.flatten=AG
 | [],_=>rfl
 | r::M,h=>by
   have B:=h r ZA;simp only[BA,Hc,Hp];rw[fZ B,tn B,bZ M λr B=>h r (by simp[B])]
mutual
def V.Bi (k:Nat)(row:List C):V->V
 | .ptr i off=>if i=k then .cp row off else .ptr i off
 | .agg l=>.agg (V.Cs k row l)
 | .A7 l=>.A7 (V.Cs k row l)
 | .fn f l=>.fn f (V.Cs k row l)
 | .any=>.any
 | .c d=>.c d
 | .own i off len es=>if i=k then .c (.sl (Hc es len (row.drop off)))else .own i off len es
 | .cp r off=>.cp r off
 | .Bg r=>.Bg r
 | .gr i es r=>.gr i es r
 | .Be i es r=>.Be i es r
 | .hp i n p=>.hp i n p
 | .yl l=>.yl l
 | .mp i=>.mp i
def V.Cs (k:Nat)(row:List C):List V->List V
 | []=>[]
 | v::l=>V.Bi k row v::V.Cs k row l
end
def O.Bi (k:Nat)(row:List C):O->O
 | .box ty cs fr=>.box ty (V.Cs k row cs) fr
 | .tok ty es cur=>.tok ty es cur
 | .Be ty es cur cs=>.Be ty es cur (V.Cs k row cs)
 | .mp R=>.mp R
mutual
theorem CV.Bi {x x':Cx}{w:World}{k:Nat}{row:List C}(M:Ext x x' w w)(R:B5 x'.S w row (x.loc k).b 0)(q:G row=(x.loc k).n):∀(v:V) (u:Value),CV x w v u->CV x' w (V.Bi k row v) u
 | .ptr i B,u,h=>by
   simp only[V.Bi];split;rename_i e;subst e;simp only[CV]at h ⊢;exact⟨(x.loc i).b,0,by rw[Cz];exact h.2.2,R⟩;exact CV.mono M _ _ h
 | .agg l,u,h=>by simp only[V.Bi,CV]at h ⊢;obtain⟨vs,e,h⟩:=h;exact⟨vs,e,AO.Bi M R q l _ h⟩
 | .A7 l,u,h=>by simp only[V.Bi,CV]at h ⊢;obtain⟨vs,e,h⟩:=h;exact⟨vs,e,AO.Bi M R q l _ h⟩
 | .fn f l,u,h=>by simp only[V.Bi,CV]at h ⊢;obtain⟨vs,e,h⟩:=h;exact⟨vs,e,AO.Bi M R q l _ h⟩
 | .any,u,h=>by simp only[V.Bi,CV]
 | .c d,u,h=>by rw[V.Bi];exact CV.mono M _ _ h
 | .own i B len es,u,h=>by
   simp only[V.Bi];split;rename_i e;subst e;simp only[CV,Ab]at h ⊢;obtain⟨_,_,cap,rfl,z,h2,h3⟩:=h;have hm:len*es<=cap*es:=Vj _ z;have hl:len*es<=G (row.drop B):=by rw[Ns];omega
   refine⟨_,cap,by rw[wj],by rw[wj];exact z,h2,λ_=>⟨(x.loc i).b,B,es,rfl,AEp len _ hl,?_⟩⟩;rw[D9.flat,AEn];have h4:=(B5.append (l:=row.take B) (m:=row.drop B)).1 (by rw[aL];exact R);have h5:=h4.2;rw[Fa,Vi Ux,Cz]at h5;exact((B5.append (l:=(row.drop B).take (len*es)) (m:=(row.drop B).drop (len*es))).1 (by rw[aL];exact h5)).1;exact CV.mono M _ _ h
 | .cp r B,u,h=>by rw[V.Bi];exact CV.mono M _ _ h
 | .Bg r,u,h=>by rw[V.Bi];exact CV.mono M _ _ h
 | .gr i es r,u,h=>by rw[V.Bi];exact CV.mono M _ _ h
 | .Be i es r,u,h=>by rw[V.Bi];exact CV.mono M _ _ h
 | .hp i n p,u,h=>by rw[V.Bi];exact CV.mono M _ _ h
 | .yl l,u,h=>by rw[V.Bi];exact CV.mono M _ _ h
 | .mp i,u,h=>by rw[V.Bi];exact CV.mono M _ _ h
theorem AO.Bi {x x':Cx}{w:World}{k:Nat}{row:List C}(B:Ext x x' w w)(M:B5 x'.S w row (x.loc k).b 0)(R:G row=(x.loc k).n):∀(l:List V) (us:List Value),AO x w l us->AO x' w (V.Cs k row l) us
 | [],us,h=>by simpa only[V.Cs,AO]using h
 | v::l,us,h=>by
   simp only[V.Cs,AO]at h ⊢;obtain⟨u,q,e,z,h2⟩:=h;exact⟨u,q,e,CV.Bi B M R v u z,AO.Bi B M R l q h2⟩
end
theorem AFo (k:Nat)(row:List C):∀l:List V,G (V.Cs k row l)=G l
 | []=>rfl
 | v::l=>by simp only[V.Cs,BA,AFo k row l]
theorem Le.freeze {t:List V}{h:List O}{row:List C}(hk:h[k]?=J (.box ty cs U))(hr:toCs cs=J row):Le m ⟨t,h⟩ ⟨V.Cs k row t,(h.set k (.box ty cs I)).map (O.Bi k row)⟩:=λS0 w0 x a w hm hA=>by
 have g:=hA.good;obtain⟨hd,b1,b2,vs,b3,b4,b5⟩:=g.ok k _ hk;have Av:=toCs_ok hr b5;have OI:G row=(x.loc k).n:=by rw[<-b4,<-FW,Av.len]
 have ar:Ar x.S (λb j=>x.S b j\/(b=(x.loc k).b/\j<(x.loc k).n)) w w:=⟨λ_ _ h=>.inl h,λ_ _ _ _ h=>h⟩
 have he:Ext x { x with S:=λb j=>x.S b j\/(b=(x.loc k).b/\j<(x.loc k).n) } w w:=⟨ar,λ_ h=>h,λ_ _=>FM.refl _⟩
 have Bn:B5 (λb j=>x.S b j\/(b=(x.loc k).b/\j<(x.loc k).n)) w row (x.loc k).b 0:=by
  refine B5.Pe (B4.mono ar _ _ Av) (λj u hu=>?_) (λj hj=>.inr ⟨rfl,Ux⟩);rw[Cz,cell_of_row w _ j vs ty (0,0) b3];simpa using hu
 have A2:k<G h:=(Br.1 hk).1;have Iw : ∀i o,((h.set k (.box ty cs I)).map (O.Bi k row))[i]?=J o->∃M,h[i]?=J M/\((i≠k/\o=M.Bi k row)\/(i=k/\o=(O.box ty cs I).Bi k row)):=by
  intro i o ho;rw[CM,Ia]at ho;obtain⟨o1,B,rfl⟩:=ho;rw[RD]at B;by_cases e:k=i;subst e;simp only[A2,Awg]at B;cases B;exact⟨_,hk,.inr ⟨F,F⟩⟩;simp only[e,Awh]at B;exact⟨o1,B,.inl ⟨λh=>e h.symm,F⟩⟩
 refine⟨{ x with S:=λb j=>x.S b j\/(b=(x.loc k).b/\j<(x.loc k).n) },⟨λi o ho=>?_,λi hi=>?_,λi i' o o' B h2 A1 hv A3=>?_,λi o j ho hx q=>?_,λb j q=>?_,λi o ho hv=>?_,λb j q=>?_,λb j q=>.inl (g.sub b j q),g.keep,g.ext.trans he⟩,AO.Bi he Bn OI t _ hA.tm,hA.df⟩;obtain⟨M,B,h2⟩:=Iw i o ho;obtain⟨h3,h4⟩:=g.ok i M B;refine⟨h3,?_⟩;rcases h2 with ⟨_,rfl⟩|⟨rfl,rfl⟩
 cases M with
 | box GV z fr=>obtain⟨a1,a2,Bz,a3,a4,a5⟩:=h4;exact⟨a1,a2,Bz,a3,a4,AO.Bi he Bn OI z _ a5⟩
 | tok GV es A0=>exact h4
 | mp R=>exact h4
 | Be GV es A0 z=>obtain⟨a1,a2,a3,a4,a5,Bz,a6,a7,a8,a9⟩:=h4;exact⟨a1,a2,a3,a4,by rw[AFo];exact a5,Bz,a6,a7,a8,AO.Bi he Bn OI z _ a9⟩
 exact⟨b1,b2,vs,b3,b4,AO.Bi he Bn OI cs _ b5⟩;obtain⟨o,ho⟩:=g.dom i hi;have OF:i<G h:=(Br.1 ho).1;exact⟨_,BE (by simpa using OF)⟩;obtain⟨M,k1,_⟩:=Iw i o B;obtain⟨kg,k2,_⟩:=Iw i' o' h2;exact g.inj i i' M kg k1 k2 A1 hv A3;obtain⟨M,B,h2⟩:=Iw i o ho;rcases h2 with ⟨A1,rfl⟩|⟨rfl,rfl⟩
 have ON:Ex x i M j:=by cases M<;>exact hx
 rcases q with q|⟨hb,_⟩
 exact g.EA i M j B ON q;have hv:(x.loc i).void=false:=by
  cases M with
  | box GV z fr=>exact(g.ok i _ B).2.2.1
  | tok GV es A0=>exact ON.1
  | Be GV es A0 z=>exact(g.ok i _ B).2.2.1
  | mp R=>exact(g.ok i _ B).2.2.1
 exact g.inj i k M _ B hk A1 hv b2 hb;cases hx.1;rcases q with q|⟨rfl,_⟩
 exact g.ex b j q;exact(DO.1 b3).1;obtain⟨M,B,_⟩:=Iw i o ho;exact g.own i M B hv;rcases q with q|⟨rfl,_⟩
 exact g.new b j q;exact .inr (g.own k _ hk b2)
theorem AW.Bi {t:List V}{h:List O}{row:List C}(R:h[k]?=J (.box ty cs U))(q:toCs cs=J row){M:List V}{B:List O}(z:V.Cs k row t=M)(hh:(h.set k (.box ty cs I)).map (O.Bi k row)=B)(hw:AW m P c K ⟨M,B⟩):AW m P c K ⟨t,h⟩:=
 AW.le (Le.freeze k R q) (by rw[z,hh];exact hw)
theorem Le.MI {t M:List V}{h B:List O}(R:m.n0<=n)(hs:DG t M)(hh:h.take n=B)(hb:V.BI n M=I)(q:(B.all (O.A8 n))=I):Le m ⟨t,h⟩ ⟨M,B⟩:=Le.trans (Le.tg hs) (Le.drop n R hh hb q)
def z6 (K:Exit->St->Prop):Exit->St->Prop
 | .goto _,_=>False
 | e,s=>K e s
section
variable {P:Program} {K:Exit->St->Prop} {s:St} {i:Nat}
theorem S5 (h:K .ret s):z6 K .ret s:=h
theorem AW.scope {M:Nat}(h:AW ⟨E,M⟩ P c (z6 K) s):AW ⟨E,M⟩ P (.scope c) K s:=λn S0 w0 x a w z q=>wpIn_wide.2 (wp_scope_straight (wp_mono (wpIn_wide.1 (h n S0 w0 x a w z q)) λe a w ⟨x,s,R,B⟩=>by
 cases e with
 | goto l=>exact B.elim
 | _=>exact⟨x,s,R,B⟩))
end
section
def QE (ds:List (Option Nat))(t:List V):Option (Nat×Bool)->Option Bool
 | none=>J I
 | some (j,w)=>match ds[j]? with
   | some (J d)=>match t.getD d .any with
     | .c (.bool b)=>J (b==w)
     | .A7 []=>J U
     | _=>E
   | _=>E
theorem jG (ops:List Oper)(t:List V)(g:Option (Nat×Bool)):QE (ops.map (·.dst)) t g=BQ ops t g:=by
 cases g with
 | none=>rfl
 | some p =>
   obtain⟨j,w⟩:=p;simp only[QE,BQ,CM];cases h:ops[j]? with
   | none=>rfl
   | some o=>cases B:o.dst<;>simp only[Nu,Option.bind_some,B]<;>rfl
variable {P:Program} {K:St->Prop} {ops:List Oper}
end
def SW (P:Program)(ops:List Oper)(K:Exit->St->Prop)(l:List Oper)(s:St):Prop:=
 ∀(S0:BF) (w0:Bs) (x:Cx) (a:Act) (w:World),Bo S0 w0 x s a w->wpList P ops.toArray (λe a w=>∃x s,Bo S0 w0 x s a w/\K e s) l a w
section
variable {P:Program} {K:Exit->St->Prop} {ops:List Oper} {s:St}
theorem AW.DA {M id:Nat}(h:SW P ops K ops s):AW ⟨E,M⟩ P (.region id ops.toArray U) K s:=λn S0 w0 x a w R B=>wpIn_wide.2 (wp_region_lit (h S0 w0 x a w B))
theorem SW.nil (h:K .normal s):SW P ops K [] s:=λS0 w0 x a w B=>⟨x,s,B,h⟩
theorem SW.pre {R:List Oper} : ∀(l:List Oper) (s:St),Eg P ops (λs'=>SW P ops K R s') l s->SW P ops K (l++R) s
 | [],s,h=>h
 | o::r,s,h=>λS0 w0 x a w B=>by
   unfold Eg at h;obtain⟨z,h2⟩:=KR B.tm h;rw[BK];unfold wpList;split;rename_i M;refine .inl (wH B (z M) λv t u x' w' hK g he q hv=>?_);exact SW.pre r _ hK S0 w0 x' _ w' (Bo.put B.tm (B.df.mono q) he g hv o.dst);rename_i M;exact SW.pre r _ (h2 M) S0 w0 x _ w (Bo.put (v:=.A7 []) (u:=undef) B.tm B.df (Ext.refl x w) B.good (ld x w) o.dst)
theorem SW.take (h:Eg P ops (λs'=>SW P ops K (l.drop n) s') (l.take n) s):SW P ops K l s:=by
 have:=SW.pre (l.take n) s h;rwa [aL]at this
theorem SW.op (v:V)(hg:BQ ops s.t o.guard=J I)(hc:Ka o.op=U)(hR : ∀(S0:BF) (w0:Bs) (x:Cx) (a:Act) (w:World),Good S0 w0 x w (λk=>s.h[k]?)/\AO x w s.t a.tmps.toList->BW P o a S0 w0 x w (λk=>s.h[k]?) v E)(h:SW P ops K r (s.step o.dst v E)):SW P ops K (o::r) s:=λS0 w0 x a w B=>by
 have hw:FB o (yielded ops.toArray a.tmps)=true:=by
  have:=KR (o:=o) B.tm (IF (ops:=ops) (K1:=True) (K2:=False) hg W);exact Kn λh=>this.2 h
 unfold wpList;rw[Awd hw];refine .inl ?_;obtain⟨nx,w',x',u,hr,EH,M,R,q,_⟩:=hR x.S (w0.re w B.good.keep.size) x a w ⟨B.good.XR,B.tm⟩;obtain⟨R,z⟩:=B.good.Sg q R;unfold Er;rw[hr];rcases EH with rfl|⟨rfl,rfl⟩
 exact h S0 w0 x' _ w' (Bo.put B.tm (B.df.mono z) q R M o.dst);exact h S0 w0 x' _ w' (Bo.put B.tm (B.df.mono z) q R M o.dst)
end
section
variable {P:Program} {S0:BF} {w0:Bs} {x:Cx} {w:World} {H:Bx} {a:Act} {o:Oper}
theorem Good.APu (g:Good S0 w0 x w H)(k:Nat){Ae:TypeId}{es n:Nat}(hk : ∀o,H k=J o->∃ty es B,o=.tok ty es B/\B<n+1){vs:Array Value}{cap:Nat}(R:vs.size=cap*es){l:List C}{row:List V}(hl:B4 x.S w l (vs.toList.take (n*es)))(Mi:G l=n*es)(hm:n+1<=cap)(Av:G row=es)(Bn:AO x w row ((vs.toList.drop (n*es)).take es)) :
 let x':=x.grow k ⟨w.heap.size,cap*es,I,n+1,U⟩ (n*es)
 Good S0 w0 x' (w.drew.alloc (.cells vs Ae)) (H.set k (.Be Ae es (n+1) row))/\Ext x x' w (w.drew.alloc (.cells vs Ae))/\B5 x'.S (w.drew.alloc (.cells vs Ae)) l w.heap.size 0:=by
 intro x';have QP:Ay w (w.drew.alloc (.cells vs Ae)):=(Ay.refl w).drew.alloc _;have FF:(w.drew.alloc (.cells vs Ae)).heap[w.heap.size]?=J (.cells vs Ae (0,0)):=heap_alloc_new w.drew _;have ar:Ar x.S x'.S w (w.drew.alloc (.cells vs Ae)):=⟨λ_ _ h=>.inl h,λb j v _ hc=>QP.cell hc⟩
 have z:Ext x x' w (w.drew.alloc (.cells vs Ae)):=by
  refine⟨ar,λ_ h=>.inl h,λi hi=>?_⟩;by_cases e:i=k;subst e;obtain⟨o,ho⟩:=g.dom i hi;obtain⟨ty,A1,B,rfl,A0⟩:=hk o ho;obtain⟨_,h1,h2,_⟩:=g.ok i _ ho;simp only[x',Cx.grow,Awg];exact⟨h1.symm,.inr ⟨h1,by rw[h2];exact A0⟩⟩;simp only[x',Cx.grow,e,Awh];exact FM.refl _
 have M:(n+1)*es<=cap*es:=Vj _ hm;refine⟨g.H5 k _ z (.FR QP) (λi=>RA) (λi hi=>by simp[x',Cx.grow,hi]) (λ_=>.inr (by simp[x',Cx.grow])) ?_ (λb j h=>?_) (λj hx hs=>?_),z,?_⟩;exact⟨by simp[x',Cx.grow],by simp[x',Cx.grow],by simp[x',Cx.grow],Ux,Av,vs,by simp only[x',Cx.grow,Awg];exact FF,by simp[x',Cx.grow,R],by rw[R];exact M,AO.mono z _ _ (by simpa using Bn)⟩;rcases h with h|⟨rfl,h⟩
 exact .inl h;refine .inr ⟨ZA,.inl (BN _),λ_ hx=>?_⟩;have:=hx.1;simp at this;omega;simp only[x',Cx.grow,Awg]at hs;have:=g.ex _ _ hs;omega;refine B5.Pe (B4.mono ar _ _ hl) (λj u q=>?_) (λj hj=>.inr ⟨rfl,by rw[Mi]at hj;omega⟩);rw[Cz,cell_of_row _ _ j vs Ae (0,0) FF];rw[KO]at q;split at q;simpa using q;cases q
theorem Good.AXu (g:Good S0 w0 x w H)(k:Nat){Ae:TypeId}{es n:Nat}(hH:H k=J (.tok Ae es n))(M:(x.loc k).void=U){B:Array Value}(hb:w.heap[(x.loc k).b]?=J (.cells B Ae (0,0))){news:List Value}{l:List C}{row:List V}(IJ:G news=es)(Dz:n*es+es<=B.size)(hl:B4 x.S w l (B.toList.take (n*es)))(Av:G row=es)(Bn:AO x w row news) :
 let x':=x.grow k ⟨(x.loc k).b,(x.loc k).n,I,n+1,U⟩ (n*es)
 let w':=w.setRow (x.loc k).b (B.toList.take (n*es)++news++B.toList.drop (n*es+G news)).toArray
 Good S0 w0 x' w' (H.set k (.Be Ae es (n+1) row))/\Ext x x' w w'/\B5 x'.S w' l (x.loc k).b 0:=by
 intro x' w';obtain⟨hd,h1,h2,h3⟩:=g.ok k _ hH;obtain⟨vs,CT,hn⟩:=h3 M;rw[hb]at CT;cases CT;have FF:w'.heap[(x.loc k).b]?=J (.cells (B.toList.take (n*es)++news++B.toList.drop (n*es+G news)).toArray Ae (0,0)):=setRow_heap w _ B _ Ae (0,0) hb;have R:(B.toList.take (n*es)++news++B.toList.drop (n*es+G news)).toArray.size=B.size:=by
  simp only[List.size_toArray,Cp,Fa,Ns,FW];omega
 have ar:Ar x.S x'.S w w':=by
  refine⟨λ_ _ h=>.inl h,λb j v hS q=>?_⟩;by_cases Ga:b=(x.loc k).b;subst Ga;rw[cell_of_row w _ j B Ae (0,0) hb]at q;rw[cell_of_row w' _ j _ Ae (0,0) FF];have hj:j<B.size:=(DO.1 q).1;have GN:j<n*es:=by
   rcases MK j (n*es)with h|h
   exact h;exact absurd hS (g.EA k _ j hH ⟨M,h,Ux⟩)
  rw[mV,GX,EJ (by simp;omega),KO,Awd GN];simpa using q;rw[RK (w:=w) (a:=⟨b,j,E⟩) (setRow_other w _ b _ Ga)];exact q
 have he:Ext x x' w w':=by
  refine⟨ar,λ_ h=>.inl h,λi hi=>?_⟩;by_cases e:i=k;subst e;simp only[x',Cx.grow,Awg];exact⟨h1.symm,.inr ⟨h1,by rw[h2];simp⟩⟩;simp only[x',Cx.grow,e,Awh];exact FM.refl _
 refine⟨g.H5 k _ he ⟨F,F,F,by simp[w'],λi _ hn=>setRow_other w _ i _ (λe=>hn ⟨hd,M,e.symm⟩)⟩ (λi=>RA) (λi hi=>by simp[x',Cx.grow,hi]) (λ_=>.inl ⟨hd,M,by simp[x',Cx.grow]⟩) ?_ (λb j h=>?_) (λj z hs=>?_),he,?_⟩;refine⟨by simp[x',Cx.grow],by simp[x',Cx.grow],by simp[x',Cx.grow],Ux,Av,_,by simp only[x',Cx.grow,Awg];exact FF,by simp only[x',Cx.grow,Awg];rw[R,hn],by rw[R,Gz];omega,AO.mono he _ _ ?_⟩;have e1:G (B.toList.take (n*es))=n*es:=by simp;omega
 simp only[aM];rw[GX,tn e1,fZ IJ];exact Bn;rcases h with h|⟨rfl,h⟩
 exact .inl h;refine .inr ⟨by simp[w'];exact(DO.1 hb).1,.inr ⟨hd,M,rfl⟩,λ_ z=>?_⟩;have:=z.1;simp at this;omega;simp only[x',Cx.grow,Awg]at hs;refine g.EA k _ j hH ⟨M,?_,?_⟩ hs;have:=z.1;simpa using this;have:=z.2;simpa [x',Cx.grow]using this;have Mi:G l=n*es:=by
  have:=hl.len;simp only[Fa,FW]at this;omega
 refine B5.Pe (B4.mono ar _ _ hl) (λj u hu=>?_) (λj hj=>.inr ⟨rfl,by rw[Mi]at hj;omega⟩);rw[Cz,cell_of_row w' _ j _ Ae (0,0) FF,mV,GX,EJ ((Br.1 hu).1)];exact hu
theorem AZj {vs A B:List Value}{n es:Nat}(h:vs.take ((n+1)*es)=A++B)(R:G A=n*es)(M:(n+1)*es<=G vs):A=vs.take (n*es)/\B=(vs.drop (n*es)).take es:=by
 rw[show (n+1)*es=n*es+es by rw[Gz];omega,uX]at h;rw[Gz]at M;have:=List.append_inj h (by rw[R,Fa];omega);exact⟨this.1.symm,this.2.symm⟩
theorem dk (g:Good S0 w0 x w H){t:TypeId}{y z:Operand}(ho:o.op=.call ⟨.builtin .append,#[y,z],#[t,t]⟩){Ae:TypeId}{es Bq:Nat}(hT:Dk P t=J (Ae,es,Bq)){AG:List (List C)}{row:List C}{k:Nat}(hY:CV x w (.gr k es AG) (a.eval y))(hZ:Ab x.S w (.sl [row]) (a.eval z))(B3:0<es)(hy:G row=es)(A7:G AG+1<=maxLen)(hb:(G AG+1)*Bq<=140737488355328)(hH:H k=J (.tok Ae es (G AG))) :
 BW P o a S0 w0 x w H (.Be k es AG) (J (k,.Be Ae es (G AG+1) (row.map V.c))):=by
 simp only[CV]at hY;obtain⟨zE,B0,hd,hr,B7,Lr⟩:=hY;obtain⟨_,_,GM,NP⟩:=g.ok k _ hH;have Lr:=Lr GM.symm;obtain⟨A,c,xs,hu,q1,q2,q3,q4,q5,q6⟩:=T0 hd hr;have Wu : ∀r∈[row],G r=es:=by simpa using hy
 have A5:(∀A n c,a.eval y=.slice A n c->c<n + [row].length/\(A=E->c=0))->BW P o a S0 w0 x w H (.Be k es AG) (J (k,.Be Ae es (G AG+1) (row.map V.c))):=by
  intro Mf;obtain⟨vs,cap,M,q,h1,h2,hl⟩:=wL (ty:=o.type) hT hd hr hZ Wu ZA Mf A7 hb;simp only[BA,BO,Cz]at M h1 hl;rw[Vd]at hl;obtain⟨A1,B1,e1,l1,l2⟩:=B4.split hl;have A0:(G AG+1)*es<=cap*es:=Vj _ h1;have Ec:G A1=G AG*es:=by rw[l1.len,K7 hr]
  have dK:G vs.toList=cap*es:=by rw[FW,q]
  obtain⟨rfl,rfl⟩:=AZj e1 Ec (by rw[dK];exact A0);simp only[Hp,RC,E5]at l2;obtain⟨g',he,Fh⟩:=g.APu k (Ae:=Ae) (n:=G AG) (λob h=>by rw[hH]at h;cases h;exact⟨_,_,_,F,Ux⟩) q l1 (K7 hr) h1 (row:=row.map V.c) (by simpa using hy) (AO.OS l2);refine⟨_,_,_,_,by simp[execOp,ho,resolve,invoke,builtin,M];rfl,.inl F,?_,g',he,λk h=>h.elim .inl λe=>.inr ⟨.Be Ae es (G AG+1) (row.map V.c),by rw[e]⟩,λhb=>by rw[ho]at hb;cases hb⟩;simp only[CV];refine⟨.inr F,by simp[Cx.grow],hr,by simp[Cx.grow],_,cap,rfl,λ_=>?_⟩;simp only[Cx.grow,Awg];exact⟨W,W,h1,h2,W,Fh⟩
 cases hv:(x.loc k).void with
 | true =>
   rw[hv]at Lr;simp only[Awg]at Lr;obtain⟨A',Au⟩:=Lr;refine A5 λA2 n c2 e=>?_
   rw[Au]at e;cases e;refine⟨ZA,λhn=>?_⟩;by_cases h:AG=[]
   rw[h];rfl;obtain⟨b,A6,CT,_⟩:=q6 h;rw[Au]at hu;cases hu;rw[hn]at CT;cases CT
 | false =>
   rw[hv]at Lr;simp only[GW,Awh]at Lr;obtain⟨cap,Au,FX⟩:=Lr;by_cases R:G AG+1<=cap;obtain⟨Te,ie,zv,EB,hz,q,B2,B8⟩:=JS hT;obtain⟨A3,FF,A9⟩:=NP hv;obtain⟨B,c',zs,VE,k1,k2,k3,k4,k5,k6⟩:=T0 hZ Wu;obtain⟨b,A6,rfl,_⟩:=k6 ZA;simp only[BA,BO,Cz,gE]at VE k4;simp only[Hp,RC,E5]at k3;have A0:(G AG+1)*es<=cap*es:=Vj _ R;rw[Gz,gE]at A0;have M:=run_append_room (P:=P) w t o.type Ae ie Te EB (x.loc k).b (G AG) cap A3 FF ⟨b,A6,E⟩ 1 c' zs (by rw[k4,q];omega) (k5 _ F) k3.r8 R (by rw[q,k4];omega);rw[q]at M;have zt:A3.toList.take (G AG*es)=xs:=by
    apply Vc;intro j;rw[KO];rw[Au]at hu;cases hu;split;rename_i hj;have jt:j<G xs:=Ux;have:=q5 _ rfl j xs[j] (BE jt);rw[J0,Cz,cell_of_row w _ j A3 Ae (0,0) FF]at this;rw[BE jt];simpa using this;rw[M6 Ux]
   obtain⟨g',he,Fh⟩:=g.AXu k hH hv FF (news:=zs) (l:=AG.flatten) (row:=row.map V.c) k4 Ux (by rw[zt];exact q3) (by simpa using hy) (AO.OS k3);refine⟨_,_,_,_,by simp[execOp,ho,resolve,invoke,builtin,Au,VE,M];rfl,.inl F,?_,g',he,λk h=>h.elim .inl λe=>.inr ⟨.Be Ae es (G AG+1) (row.map V.c),by rw[e]⟩,λhb=>by rw[ho]at hb;cases hb⟩;have A8:cap<=maxLen:=by rw[Au]at hu;cases hu;exact q2
   simp only[CV];refine⟨.inr F,by simp[Cx.grow],hr,by simp[Cx.grow],_,cap,rfl,λ_=>?_⟩;simp only[Cx.grow,Awg];exact⟨W,W,R,A8,FX,Fh⟩;refine A5 λA2 n c2 e=>?_
   rw[Au]at e;cases e;exact⟨by simp;omega,λhn=>by cases hn⟩
theorem r7 (g:Good S0 w0 x w H){t:TypeId}{y z:Operand}(ho:o.op=.indexAddr t y z){k es:Nat}{AG:List (List C)}{kd:IntKind}(B:CV x w (.Be k es AG) (a.eval y))(q:CV x w (.c (.int kd (G AG:Int))) (a.eval z)){Ae:TypeId}{Bq:Nat}(hT:Dk P t=J (Ae,es,Bq))(hH:H k=J (.Be Ae es (G AG+1) cs)):
 BW P o a S0 w0 x w H (.hp k (G AG+1) (G AG*es)) none:=by
 obtain⟨_,h1,h2,h3,_⟩:=g.ok k _ hH;simp only[CV,Ab]at B q;obtain⟨d1,d2,d3,d4,A,cap,B,d5⟩:=B;obtain⟨_,hA,_⟩:=d5 h3.symm;obtain⟨hu,A0,zv,hi,_,R,_,_⟩:=JS hT;refine BW.pure g (u:=.pointer (J ⟨(x.loc k).b,G AG*es,E⟩)) ?_ (by simp only[CV];exact⟨d1,d2,Ux,_,F,λ_=>rfl⟩);have M:(G AG:Int)<((G AG+1:Nat):Int):=Ux;simp[execOp,ho,B,q.1,hA,Instr.indexAt,asIntOf,run_underlying hu,sizeOf,typeInfo,hi,R,J0,M]
theorem AI5 (g:Good S0 w0 x w H){t:TypeId}{y z:Operand}(ho:o.op=.store t y z){q:Bool×Nat}(hq:B6 P t=J q){k n pos es:Nat}(hy:CV x w (.hp k n pos) (a.eval y))(hz:CV x w (e z) (a.eval z))(hH:H k=J (.Be ty es n cs))(h1:(e z).flat=I)(h2:(e z).cells.length=es)(h3:q.2=es)(h4:pos=(n - 1)*es):BW P o a S0 w0 x w H .any (J (k,.Be ty es n (e z).cells)):=by
 obtain⟨hd,A5⟩:=g.ok k _ hH;obtain⟨k1,k2,k3,k4,k5,vs,hb,hn,Mf,A1⟩:=A5;simp only[CV]at hy;obtain⟨_,_,_,A,hy,hA⟩:=hy;have hA:=hA k3.symm;subst hA;obtain⟨c1,c2⟩:=hz.cells h1;obtain⟨_,hs,_⟩:=T3 (w:=w) (P:=P) (ag:=q.1) (n:=q.2) hq;have OL:(a.eval z).cells.size=es:=by have:=c1.len;simp only[FW]at this;omega
 have A0:n*es=(n - 1)*es+es:=by
  obtain⟨m,rfl⟩:∃m,n=m+1:=⟨n - 1,Ux⟩
  rw[Gz,aM];omega
 have Dz:pos+es<=vs.size:=Ux;have hr:=run_storeCells_at (P:=P) (t:=ty) (off:=pos) (a.eval z).cells.toList 0 w vs hb (by simp;omega) c2;have R:=cC (a.eval z).cells.toList 0 pos vs (by simp;omega);generalize dM:((a.eval z).cells.toList.zipIdx 0).foldl (λ(c:Array Value) (p:Value×Nat)=>c.setIfInBounds (pos+p.2) p.1) vs=B at hr R;simp only[Nat.add_zero,FW,OL]at R;have M:B.size=vs.size:=by
  have:=congrArg List.length R;simp only[FW,Cp,Fa,Ns,OL]at this;omega
 have FF:(w.setRow (x.loc k).b B).heap[(x.loc k).b]?=J (.cells B ty (0,0)):=setRow_heap w _ vs B ty (0,0) hb;have ar:Ar x.S x.S w (w.setRow (x.loc k).b B):=by
  refine⟨λ_ _ h=>h,λb j v hS hc=>?_⟩;by_cases Ga:b=(x.loc k).b;subst Ga;rw[cell_of_row w _ j vs ty (0,0) hb]at hc;rw[cell_of_row _ _ j _ ty (0,0) FF];have hj:j<vs.size:=(DO.1 hc).1;have GN:j<(n - 1)*es:=by
   rcases MK j ((n - 1)*es)with h|h
   exact h;exact absurd hS (g.EA k _ j hH ⟨h,Ux⟩)
  have:B.toList[j]?=vs.toList[j]?:=by
   rw[R,GX,EJ (by simp;omega),KO,Awd Ux]
  have h2:B[j]?=vs[j]?:=by simpa using this
  rw[h2];exact hc;rw[RK (w:=w) (a:=⟨b,j,E⟩) (setRow_other w _ b _ Ga)];exact hc
 have he:Ext x x w (w.setRow (x.loc k).b B):=⟨ar,λ_ h=>h,λ_ _=>FM.refl _⟩
 have g':=g.H5 k (.Be ty es n (e z).cells) he ⟨rfl,rfl,rfl,ZA,λi _ hn=>setRow_other w _ i _ (λe=>hn ⟨hd,k2,e.symm⟩)⟩ (λi=>⟨.inl,λh=>h.elim id (λe=>e ▸ hd)⟩) (λ_ _=>rfl) (λ_=>.inl ⟨hd,k2,rfl⟩)
  ⟨k1,k2,k3,k4,h2,B,FF,by rw[M,hn],by rw[M];exact Mf,by
    have e1:G (vs.toList.take pos)=(n - 1)*es:=by simp;omega
    rw[R,GX,tn e1,fZ (by simpa using OL)];exact AO.mono he _ _ c1⟩ (λb j h=>.inl h) (λj hx=>g.EA k _ j hH hx)
 refine⟨.skip,_,x,undef,?_,.inr ⟨F,F⟩,by simp only[CV],g',he,λ_ h=>.inl h,λ_=>rfl⟩;simp[execOp,ho,Instr.storeAt,hy,Instr.sureAddr,storeVar,hs,h3,OL,hr]
end
def V.Db (k es n:Nat)(row:List C):V->V
 | .Be i es' AG=>if i=k/\es'=es/\(G AG)=n then .gr k es (AG++[row])else .any
 | .hp _ _ _=>.any
 | v=>v
def O.Db (k es n:Nat)(row:List C):O->O
 | .box ty cs fr=>.box ty (cs.map (V.Db k es n row)) fr
 | .tok ty es cur=>.tok ty es cur
 | .Be ty es cur cs=>.tok ty es cur
 | .mp R=>.mp R
theorem CV.Db {x x':Cx}{k es n:Nat}{row:List C}(M:Ext x x' w w)(R:x'.loc=x.loc)(z:(x.loc k).cur=n+1)(q:G row=es)(hk:B5 x'.S w row (x.loc k).b (n*es))(v:V)(u:Value)(h:CV x w v u):CV x' w (v.Db k es n row) u:=by
 cases v with
 | Be i B AG =>
   simp only[V.Db];split;rename_i e;obtain⟨rfl,rfl,rfl⟩:=e;simp only[CV]at h ⊢;obtain⟨d1,d2,d3,d4,A,cap,rfl,d5⟩:=h;obtain⟨e1,rfl,e3,e4,e5,e6⟩:=d5 z.symm;refine⟨M.dom i d1,by rw[R,d2],?_,Ty d3 (by simpa using q),by rw[R,z];simp,λ_=>?_⟩;have:=Ab.of_flat (S:=x'.S) (W:=w) (AG:=AG++[row]) (es:=B) (b:=(x.loc i).b) (cap:=cap) (Ty d3 (by simpa using q)) (by simpa using e3) e4 (by
    rw[Vd,B5.append,K7 d3];refine⟨B5.mono M.ar _ _ _ e6,?_⟩;simpa using hk)
   simpa using this;rw[R,e1];simp only[GW,Awh];exact⟨cap,ZA,e5⟩;simp only[CV]
 | hp i m pos=>simp only[V.Db,CV]
 | _=>exact CV.mono M _ _ h
theorem AO.Db {x x':Cx}{w:World}{k es n:Nat}{row:List C}(R:Ext x x' w w)(z:x'.loc=x.loc)(M:(x.loc k).cur=n+1)(B:G row=es)(q:B5 x'.S w row (x.loc k).b (n*es)):∀(l:List V) (us:List Value),AO x w l us->AO x' w (l.map (V.Db k es n row)) us
 | [],us,h=>by simpa only[BB,AO]using h
 | v::l,us,h=>by
   simp only[Ap,AO]at h ⊢;obtain⟨u,ur,e,h1,h2⟩:=h;exact⟨u,ur,e,CV.Db R z M B q v u h1,AO.Db R z M B q l ur h2⟩
def AI8 (k:Nat)(h:List O):Prop:=∀(i:Nat) (ty:TypeId) (es cur:Nat) (cs:List V),h[i]?=J (O.Be ty es cur cs)->i=k
theorem Le.Db {t:List V}{h:List O}{es n:Nat}{row:List C}(hk:h[k]?=J (.Be ty es (n+1) cs))(hr:toCs cs=J row)(A6:AI8 k h):Le m ⟨t,h⟩ ⟨t.map (V.Db k es n row),h.map (O.Db k es n row)⟩:=λS0 w0 x a w hm hA=>by
 have g:=hA.good;obtain⟨hd,b1,b2,b3,b4,b5,vs,b6,b7,b8,b9⟩:=g.ok k _ hk;have Av:=toCs_ok hr b9;have OI:G row=es:=by rw[toCs_len hr,b5]
 have A8:(n+1)*es=n*es+es:=by rw[Gz];omega
 let S':BF:=λb j=>x.S b j\/(b=(x.loc k).b/\n*es<=j/\j<(n+1)*es)
 have ar:Ar x.S S' w w:=⟨λ_ _ h=>.inl h,λ_ _ _ _ h=>h⟩
 have he:Ext x { x with S:=S' } w w:=⟨ar,λ_ h=>h,λ_ _=>FM.refl _⟩
 have Bn:B5 S' w row (x.loc k).b (n*es):=by
  refine B5.Pe (B4.mono ar _ _ Av) (λj u hu=>?_) (λj hj=>.inr ⟨rfl,Ux,Ux⟩);rw[cell_of_row w _ _ vs ty (0,0) b6];simp only[aM]at hu;rw[KO]at hu;split at hu;rw[List.getElem?_drop]at hu;simpa using hu;cases hu
 have Iw : ∀(i:Nat) (o:O),(h.map (O.Db k es n row))[i]?=J o->∃B:O,h[i]?=J B/\o=B.Db k es n row:=by
  intro i o ho;rw[CM,Ia]at ho;obtain⟨o1,M,rfl⟩:=ho;exact⟨o1,M,F⟩
 have A1 : ∀(i:Nat) (B:O) (j:Nat),h[i]?=J B->Ex { x with S:=S' } i (B.Db k es n row) j->Ex x i B j/\(i=k->(n+1)*es<=j):=by
  intro i B j hi hx;cases B with
  | box GV q fr=>exact⟨hx,λe=>by subst e;rw[hk]at hi;cases hi⟩
  | tok GV A0 YE=>exact⟨hx,λe=>by subst e;rw[hk]at hi;cases hi⟩
  | mp R=>exact⟨hx,λe=>by subst e;rw[hk]at hi;cases hi⟩
  | Be GV A0 YE q =>
    have e:=A6 i _ _ _ _ hi;subst e;rw[hk]at hi;cases hi;obtain⟨M,h2,h3⟩:=hx;exact⟨⟨by simp;omega,h3⟩,λ_=>h2⟩
 refine⟨{ x with S:=S' },⟨λi o ho=>?_,λi hi=>?_,λi i' o o' M h2 A5 hv A7=>?_,λi o j ho hx z=>?_,λb j z=>?_,λi o ho hv=>?_,λb j z=>?_,λb j z=>.inl (g.sub b j z),g.keep,g.ext.trans he⟩,AO.Db he rfl b3 OI Bn t _ hA.tm,hA.df⟩;obtain⟨B,M,rfl⟩:=Iw i o ho;obtain⟨h3,h4⟩:=g.ok i B M;refine⟨h3,?_⟩;cases B with
 | box GV q fr=>obtain⟨a1,a2,Bz,a3,a4,a5⟩:=h4;exact⟨a1,a2,Bz,a3,a4,AO.Db he rfl b3 OI Bn q _ a5⟩
 | tok GV A0 YE=>exact h4
 | mp R=>exact h4
 | Be GV A0 YE q=>obtain⟨a1,a2,a3,a4,a5,Bz,a6,a7,_⟩:=h4;exact⟨a1,a3,λ_=>⟨Bz,a6,a7⟩⟩
 obtain⟨o,ho⟩:=g.dom i hi;have OF:i<G h:=(Br.1 ho).1;exact⟨_,BE (by simpa using OF)⟩;obtain⟨B,k1,_⟩:=Iw i o M;obtain⟨kg,k2,_⟩:=Iw i' o' h2;exact g.inj i i' B kg k1 k2 A5 hv A7;obtain⟨B,M,rfl⟩:=Iw i o ho;obtain⟨ON,A3⟩:=A1 i B j M hx;rcases z with z|⟨hb,_,hj⟩
 exact g.EA i B j M ON z;by_cases e:i=k;have:=A3 e;omega;have hv:(x.loc i).void=false:=by
  cases B with
  | box GV q fr=>exact(g.ok i _ M).2.2.1
  | tok GV es A2=>exact ON.1
  | Be GV es A2 q=>exact(g.ok i _ M).2.2.1
  | mp R=>exact(g.ok i _ M).2.2.1
 exact g.inj i k B _ M hk e hv b2 hb;rcases z with z|⟨rfl,_⟩
 exact g.ex b j z;exact(DO.1 b6).1;obtain⟨B,M,_⟩:=Iw i o ho;exact g.own i B M hv;rcases z with z|⟨rfl,_⟩
 exact g.new b j z;exact .inr (g.own k _ hk b2)
section
variable {P:Program} {ops:List Oper} {K:List Ef->St->Prop}
def TW (P:Program)(ops:List Oper)(K:List Ef->St->Prop)(l:List Oper)(acc:List Ef)(s:St):Prop:=∃es s',Ov P ops l s es s'/\K (acc++es) s'
theorem Ov.append : ∀ {l M:List Oper} {s R q:St} {es B:List Ef},Ov P ops l s es R->Ov P ops M R B q->Ov P ops (l++M) s (es++B) q
 | [],M,s,R,q,es,B,h,z=>by obtain⟨rfl,rfl⟩:=h;exact z
 | o::r,M,s,R,q,es,B,h,z=>by
   obtain⟨e,er,rfl,h1,h2,h3⟩:=h;exact⟨e,er++B,F,h1,h2,Ov.append h3 z⟩
theorem TW.nil {B:List Ef}(h:K B s):TW P ops K [] B s:=⟨[],s,⟨rfl,rfl⟩,by simpa using h⟩
theorem TW.take {B:List Ef}(h:Ie P ops (λR s'=>TW P ops K (l.drop n) R s') (l.take n) B s):TW P ops K l B s:=by
 obtain⟨es,s1,q,M,s2,z,h3⟩:=iL _ _ _ h;refine⟨es++M,s2,?_,by simpa using h3⟩;have:=Ov.append q z;rwa [aL]at this
theorem TW.op {B:List Ef}(e:Ef)(hg:BQ ops s.t o.guard=J I)(q : ∀k ob,e.t=J (k,ob)->k<=G s.h)(hR : ∀(S0:BF) (w0:Bs) (x:Cx) (a:Act) (w:World) (H:Bx),Good S0 w0 x w H->(∀y∈o.op.operands.toList,CV x w (ev s.t y) (a.eval y))->(∀k,e.rk=J k->H k=s.h[k]?)->BW P o a S0 w0 x w H e.v e.t)(h:TW P ops K r (B++[e]) (s.step o.dst e.v e.t)):TW P ops K (o::r) B s:=by
 obtain⟨es,s2,h2,h3⟩:=h;refine⟨e::es,s2,⟨e,es,F,?_,q,h2⟩,by simpa using h3⟩;intro S0 w0 x w a H g hl hr _ Q next hn;rw[QF hl hg];obtain⟨nx,w',x',u,R,EH,M,z,he,_⟩:=hR S0 w0 x a w H g (QR hl) λk q=>hr k (.inl q)
 show o.wp P a w next Q;unfold Er;rw[R];rcases EH with rfl|⟨rfl,rfl⟩
 exact hn u x' w' z he M;exact hn undef x' w' z he M
theorem AW.Lm {id:Nat}{K:Exit->St->Prop}(q:P.follows .mixedOrders=I)(R:m.rd=E\/Pb ops=I)(h:TW P ops (λes s'=>Lk ops (es.map Ef.ks)=I/\K .normal s') ops [] s):AW m P (.region id ops.toArray I) K s:=by
 obtain⟨es,s',z,M,B⟩:=h;exact AW.AFD q R z (by simpa using M) B
end
def F3 (S:BF)(W W':World):Prop:=W.heap.size<=W'.heap.size/\Ar S S W W'
theorem F3.refl (S:BF)(W:World):F3 S W W:=⟨BN _,Ar.refl _ _⟩
theorem F3.trans {A B C:World}(h:F3 S A B)(k:F3 S B C):F3 S A C:=⟨Ps h.1 k.1,h.2.trans k.2⟩
theorem AEh {b j:Nat}{v:Value}(B:w.cell? ⟨b,j,E⟩=J v):∃vs ty R,w.heap[b]?=J (.cells vs ty R):=by
 unfold World.cell? at B;cases M:w.heap[b]? with
 | none=>simp[M]at B
 | some o=>cases o<;>first|exact⟨_,_,_,F⟩|simp[M]at B
theorem F3.put (W:World)(l:Nat)(o o':Obj)(h:W.heap[l]?=J o)(q:o.isCells=U):F3 S W (W.putObj l o'):=by
 refine⟨by simp[World.putObj],λ_ _ h=>h,λb j v _ R=>?_⟩;obtain⟨vs,ty,z,M⟩:=AEh R;have B:b≠l:=λe=>by subst e;rw[h]at M;cases M;cases q
 exact(RK (w:=W) (a:=⟨b,j,E⟩) (World.putObj_heap_other B)).trans R
def UU {α:Type}(P:Program)(gf:FuncId)(caps:List V)(encs:α->Array Value)(Sx:List α->Prop)(N:Nat):Prop:=
 ∀(n:Nat) (S:BF) (w:World) (lb:Array Value),(∀b j,S b j->b<w.heap.size)->AO (Cx.bare S) w caps lb.toList->SeqStopsK Cg n P gf lb encs (F3 S) Sx (λ_=>True) N w
section
variable {P:Program} {S0:BF} {w0:Bs} {x x':Cx} {w w':World} {H:Bx}
def O.Tn:O->Bool
 | .mp _=>U
 | _=>I
def vt (H:Bx):Prop:=∀k R,H k≠J (.mp R)
theorem To {h:List O}(B:(h.all O.Tn)=I):vt (λk=>h[k]?):=λk R e=>by
 have:=ES.1 B _ (Cj e);cases this
structure vq (w w':World):Prop where
 size:w.heap.size<=w'.heap.size
 same : ∀(b:Nat) (o:Obj),w.heap[b]?=J o->o.isCells=U->w'.heap[b]?=J o
theorem AZY {o:Obj}(h:still o=I):o.isCells=false:=by cases o<;>first|rfl|cases h
theorem vq.nc {w w':World}(h:vq w w'):NC w w':=⟨h.size,λb o B M=>h.same b o B (AZY M)⟩
theorem Ld.AEi {k:Nat}{o:O}(h:Ld x w k o)(M : ∀R,o≠.mp R)(q:(x.loc k).void=U):∃vs ty,w.heap[(x.loc k).b]?=J (.cells vs ty (0,0)):=by
 cases o with
 | box ty cells z=>obtain⟨_,_,vs,h,_⟩:=h;exact⟨vs,ty,h⟩
 | tok ty es B=>obtain⟨_,_,h⟩:=h;obtain⟨vs,h,_⟩:=h q;exact⟨vs,ty,h⟩
 | Be ty es B cells=>obtain⟨_,_,_,_,_,vs,h,_⟩:=h;exact⟨vs,ty,h⟩
 | mp R=>exact absurd rfl (M R)
def Bs.XQ (w0:Bs)(w:World)(h:w0.w.heap.size<=w.heap.size)(x:Cx)(n0:Nat)(hd : ∀k,x.dom k->k<n0):Bs:=
 ⟨w,λb=>w0.F b\/∃o:Obj,w.heap[b]?=J o/\o.isCells=U,λb hb=>by
   rcases hb with hb|⟨o,hb,_⟩
   exact H7 (w0.lt b hb) h;exact(DO.1 hb).1,x,n0,hd⟩
theorem Good.lB (g:Good S0 w0 x w H)(Hi:vt H)(z:Nat)(hd : ∀k,x.dom k->k<z):Good x.S (w0.XQ w g.keep.size x z hd) x w H:=by
 refine⟨g.ok,g.dom,g.inj,g.EA,g.ex,λk o h q B=>?_,λb j h=>.inl h,λ_ _ h=>h,.FR (Ay.refl w),Ext.refl x w⟩;rcases B with B|⟨ob,M,h2⟩
 exact g.own k o h q B;obtain⟨vs,ty,h3⟩:=(g.ok k o h).2.AEi (λR e=>Hi k R (by rw[h,e])) q;rw[h3]at M;cases M;cases h2
theorem Good.lZ {q:Bx}{z:Nat}{hd : ∀k,x.dom k->k<z}(g:Good S0 w0 x w H)(B:Good x.S (w0.XQ w g.keep.size x z hd) x' w' q):Good S0 w0 x' w' q/\vq w w':=by
 refine⟨⟨B.ok,B.dom,B.inj,B.EA,B.ex,λk o h hv M=>B.own k o h hv (.inl M),λb j h=>?_,λb j h=>B.sub b j (g.sub b j h),g.keep.trans (B.keep.wide λb R M=>R (.inl M)),g.ext.trans B.ext⟩,B.keep.size,λb o R ho=>?_⟩;rcases B.new b j h with h|h
 exact g.new b j h;exact .inr λM=>h (.inl M)
 exact(B.keep.block b (DO.1 R).1 λhn=>hn (.inr ⟨o,R,ho⟩)).trans R
theorem Good.jI {row:Option Nat}(g:Good S0 w0 x w H)(Hi:vt H)(B:w.grownBy w' row)(hr : ∀r,row=J r->¬w0.F r/\∃o:Obj,w.heap[r]?=J o/\o.isCells=U):Good S0 w0 x w' H/\Ext x x w w':=by
 have hb : ∀(b:Nat) (vs:Array Value) (ty:TypeId) (M:Nat×Nat),w.heap[b]?=J (Obj.cells vs ty M)->w'.heap[b]?=w.heap[b]?:=λb vs ty M h=>B.block b (DO.1 h).1 λe=>by
  obtain⟨_,o,q,z⟩:=hr b e.symm;rw[h]at q;cases q;cases z
 have he:Ext x x w w':=⟨⟨λ_ _ h=>h,λb j v _ hc=>by
  obtain⟨vs,ty,M,hh⟩:=AEh hc;exact(RK (hb b vs ty M hh)).trans hc⟩,λ_ h=>h,λ_ _=>FM.refl _⟩
 refine⟨⟨λk o h=>?_,g.dom,g.inj,g.EA,λb j h=>H7 (g.ex b j h) B.size,g.own,g.new,g.sub,g.keep.trans ⟨B.os,B.tape,B.output,B.size,λk hk hn=>B.block k hk λe=>hn (hr k e.symm).1⟩,g.ext.trans he⟩,he⟩;obtain⟨q,z⟩:=g.ok k o h;exact⟨q,z.mono he rfl λhv=>by obtain⟨vs,ty,h3⟩:=z.AEi (λR e=>Hi k R (by rw[h,e])) hv;exact hb _ _ _ _ h3⟩
theorem iP {lp n:Nat}{p d:Tmp}(B:o.op=.assign (.tmp p))(M:o.dst=J d)(R:o.guard=E){id:Nat}{t:Array Value}{W:World}{K:Act->World->Prop}(h:K { tmps:=t.setIfInBounds d (t.getD p undef),defers:=[] } W):
 (Code.region id #[o] U).wpIn (Cg.inRound lp) n P (Exit.then K (λ_ _ _=>False)) { tmps:=t,defers:=[] } W:=by
 refine wpIn_region_lit (l:=[o]) ?_;unfold wpListIn;rw[Awd (by simp[FB,R])];refine dm (λc e=>by rw[B]at e;cases e) ?_;unfold Er;simp only[execOp,B,Sem.run_pure,M,Act.put,Act.eval,Nt,wpListIn,Exit.then];exact h
theorem AW.range {α:Type}{n1:Nat}{g:Operand}{p d:Tmp}{id:Nat}{body:Code}{gf:FuncId}{caps Lj:List V}(ho:o.op=.assign (.tmp p))(Rs:o.dst=some d)(hgd:o.guard=none)(hg:ev s.t g=.fn gf caps)(hp:V.CF caps=some Lj)(Ff:P.funcs[gf]?=some fn)(Iq:fn.body.isSome=true)(Hy:(fn.name == "runtime.NumGoroutine")=false)(enc:α->Value)(Ij:α->V)(Wb : ∀x' W y,CV x' W (Ij y) (enc y))(Sx:List α->Prop)(N:Nat)(NU:UU P gf Lj (λy=>#[enc y]) Sx N)(hf:List α->List O)(h0:s.h=hf [])(n0:Nat)(hlen : ∀pre,(hf pre).length=n0)(hpl:p<s.t.length)(HK : ∀(lp:Nat) (pre:List α) (y:α),pre.length<N->AW ⟨some lp,n0⟩ P body (λe s'=>e=.normal/\∃t',Le ⟨some lp,n0⟩ s' ⟨t',hf (pre++[y])⟩) ⟨(s.t.set p (Ij y)).set d (Ij y),hf pre⟩)(hdone : ∀xs,Sx xs->K .normal ⟨s.t,hf xs⟩)(Hi : ∀pre,((hf pre).all O.Tn)=true:=by intro _;rfl):AW ⟨none,n1⟩ P (.rangeFunc g #[p] (.region id #[o] false) body) K s:=λn S0 w0 x a w hm hA=>by
 have FI:=CW hA.tm g;rw[hg]at FI;simp only[CV]at FI;obtain⟨lb,FI,EP⟩:=FI;have hc':=MC _ _ _ hp EP;have hb:fn.body≠none:=by intro e;rw[e]at Iq;cases Iq
 have hn:fn.name≠ "runtime.NumGoroutine":=by simpa using Hy
 have eg : ∀args w,(callFunc gf args).run P w=.ok (.enter gf args) w:=λargs w=>by simp[callFunc,program,Sem.run,Ff,hn,hb]
 have hsize : ∀ {D:Nat},w.heap.size<=D->¬w0.F D:=λh=>hA.good.fresh h
 have PA : ∀Ds:List Nat,a.defers=Ds.map (λD=>{ target:=.collected D,args:=#[] })->∀D∈Ds,D<w.heap.size:=by
  intro Ds e D hD;obtain⟨n9,f1,f2,f3⟩:=hA.df;have hm:({ target:=.collected D,args:=#[] }:Deferred)∈a.defers:=by rw[e];exact Da.2 ⟨D,hD,rfl⟩
  rw[f1]at hm;obtain⟨D',Fs,e'⟩:=Da.1 hm;have:D'=D:=by injection e' with e1 e2;injection e1
  subst this;exact(DO.1 (f3 D' Fs).2).1
 have hs:s=⟨s.t,hf []⟩:=by rw[<-h0]
 refine wpIn_wide.2 ((wpIn_wide (n:=2)).1 (wpIn_rangeFunc_ownH (F:=Fence.wide) (n:=2) (α:=α) (ps:=#[p]) (encs:=λy=>#[enc y]) (Kp:=F3 x.S) (S:=Sx) (Sp:=λ_=>True) (N:=N) (w0:=w) rfl Ux FI trivial eg (NU _ x.S w lb hA.good.ex hc') (λh k=>h.trans k) (λW l o o' _ h hc _=>F3.put W l o o' h hc) (Below.refl _ _) (λ_=>rfl)
  (λpre W=>∃x',Bo S0 w0 x' ⟨s.t,hf pre⟩ a W/\Ar x.S x'.S w W) (λ_ _ _=>False) ?_ (λ_ _ _ _ _ h=>h.elim) ⟨x,by rw[<-hs];exact hA,Ar.refl _ _⟩
  (λy a' _=>a'={ tmps:=((#[p].zip #[enc y]).foldl (λt (p,v)=>t.setIfInBounds p v) a.tmps).setIfInBounds d (((#[p].zip #[enc y]).foldl (λt (p,v)=>t.setIfInBounds p v) a.tmps).getD p undef),defers:=[] }) (λ_ _ _ _ _ _ h _ _=>h) ?_ ?_ ?_ (λ_ _ _ _ _ _ h _=>h.elim)))
 rintro pre W W' row ⟨x',Au,CZ⟩ hgr hr;obtain⟨g',he⟩:=Au.good.jI (To (Hi pre)) hgr λr e=>⟨hsize (hr r e).1,(hr r e).2⟩
 refine⟨x',⟨g',AO.mono he _ _ Au.tm,?_⟩,CZ.trans he.ar⟩;obtain⟨Ds,e1,e2,e3⟩:=Au.df;refine⟨Ds,e1,e2,λD hD=>⟨(e3 D hD).1,?_⟩⟩;have h2:=(e3 D hD).2;rw[hgr.block D (DO.1 h2).1 (λe=>by have:=(hr D e.symm).1;have:=PA Ds e1 D hD;omega)];exact h2;intro l pre y W K hI hK;exact iP ho Rs hgd (hK _ W (KeepsFrom.refl _ _) (F3.refl _ _) hI rfl);rintro l pre y a' W hl Iz ⟨x',Au,CZ⟩ rfl hN;have Ls : ∀k,x'.dom k->k<n0:=λk hk=>by
  obtain⟨o,ho⟩:=Au.good.dom k hk;have:=(Br.1 ho).1;rw[<-hlen pre];exact this
 have DJ:AO x' W ((s.t.set p (Ij y)).set d (Ij y)) (((#[p].zip #[enc y]).foldl (λt (p,v)=>t.setIfInBounds p v) a.tmps).setIfInBounds d (((#[p].zip #[enc y]).foldl (λt (p,v)=>t.setIfInBounds p v) a.tmps).getD p undef)).toList:=by
  have e1:((#[p].zip #[enc y]).foldl (λ(t:Array Value) (q:Tmp×Value)=>t.setIfInBounds q.1 q.2) a.tmps)=a.tmps.setIfInBounds p (enc y):=ZA;have hl:a.tmps.size=s.t.length:=by have:=Au.tm.len;simpa using this
  have e2:(a.tmps.setIfInBounds p (enc y)).getD p undef=enc y:=by
   rw[Kl,Array.getElem?_setIfInBounds_self_of_lt (by rw[hl];exact hpl)];rfl
  rw[e1,e2];simp only[Array.toList_setIfInBounds];exact(Au.tm.set p (Wb _ _ _)).set d (Wb _ _ _)
 have Ec:Bo x'.S (w0.XQ W Au.good.keep.size x' n0 Ls) x' ⟨(s.t.set p (Ij y)).set d (Ij y),hf pre⟩ { tmps:=((#[p].zip #[enc y]).foldl (λt (p,v)=>t.setIfInBounds p v) a.tmps).setIfInBounds d (((#[p].zip #[enc y]).foldl (λt (p,v)=>t.setIfInBounds p v) a.tmps).getD p undef),defers:=[] } W:=⟨Au.good.lB (To (Hi pre)) n0 Ls,DJ,Marks.nil _ _⟩
 refine wpIn_mono (HK l pre y hN _ _ _ _ _ _ (BN _) Ec) λe oL Xx Rd=>?_
 obtain⟨x2,s2,Fb,rfl,t',hle⟩:=Rd;obtain⟨x3,Ik⟩:=hle _ _ _ _ _ (BN _) Fb;obtain⟨g3,CB⟩:=Au.good.lZ Ik.good;have Fe:Ext x' x3 W Xx:=Ik.good.ext;exact⟨⟨CB.size,λk o _ hk ho=>CB.same k o hk ho⟩,⟨CB.size,λ_ _ h=>h,λb j v h hc=>Fe.ar.cell b j v (CZ.sub b j h) hc⟩,x3,⟨g3,AO.mono Fe _ _ Au.tm,Au.df.mono CB.nc⟩,CZ.trans Fe.ar⟩;rintro D xs W hD hS ⟨x',Au,CZ⟩ Rm;obtain⟨Ds,e1,e2,e3⟩:=Au.df;refine⟨x',⟨s.t,hf xs⟩,⟨Au.good,Au.tm,D::Ds,by simp[e1],List.nodup_cons.2 ⟨λh=>by have:=PA Ds e1 D h;omega,e2⟩,λD' Fs=>?_⟩,hdone xs hS⟩;rcases Cf.1 Fs with rfl|h
 exact⟨hsize hD,Rm⟩;exact e3 D' h
end
section
def vy {α:Type}(n:Nat)(P:Program)(g:Nat)(lb:Array Value)(encs:List α->α->Array Value)(Kp:World->World->Prop)(Sx:List α->Prop)(N:Nat)(w:World):Prop:=
 ∀(l:Nat) (J Jx:List α->World->Prop) (W:World),Below w.heap.size w W->AbidesFrom W.heap.size J->AbidesFrom W.heap.size Jx->
  (∀pre x W1,J pre W1->G pre<N->YieldAt Cg (n - 1) P l (encs pre x) W1 λe W'=>(e=.returned (.bool I)/\J (pre++[x]) W'/\Kp W1 W')\/(e=.returned (.bool U)/\Jx (pre++[x]) W'))->
  J [] W->CallsIn Cg n P g (#[.func (.yield l) #[] #[]]++lb) W λe W'=>(∃v,e=.returned v)/\((∃xs,Sx xs/\J xs W')\/(∃pre,True/\Jx pre W'))
def MS {α:Type}(P:Program)(gf:FuncId)(caps:List V)(encs:List α->α->Array Value)(Sx:List α->Prop)(N:Nat):Prop:=
 ∀(n:Nat) (S:BF) (w:World) (lb:Array Value),(∀b j,S b j->b<w.heap.size)->AO (Cx.bare S) w caps lb.toList->vy n P gf lb encs (F3 S) Sx N w
structure Gh (α:Type) where
 pre:List α
 off:Bool
structure Ic (α:Type)(P:Program)(encs:List α->α->Array Value)(N:Nat) where
 n:Nat
 l:Nat
 S:BF
 J:List α->World->Prop
 Jx:List α->World->Prop
 aj : ∀pre W W',J pre W->Ay W W'->J pre W'
 ax : ∀pre W W',Jx pre W->Ay W W'->Jx pre W'
 yd : ∀pre x W1,J pre W1->G pre<N->YieldAt Cg (n - 1) P l (encs pre x) W1 λe W' =>
  (e=.returned (.bool I)/\J (pre++[x]) W'/\F3 S W1 W')\/(e=.returned (.bool U)/\Jx (pre++[x]) W')
variable {α:Type} {P:Program} {encs:List α->α->Array Value} {N:Nat} {Y:Ic α P encs N}
def Ic.G (Y:Ic α P encs N)(g:Gh α)(W:World):Prop:=if g.off then Y.Jx g.pre W else Y.J g.pre W
def Ic.A (Y:Ic α P encs N)(g:Gh α):BF:=λb j=>g.off=U/\Y.S b j
theorem Ic.keep {g:Gh α}{W B:World}(h:Y.G g W)(M:Ay W B):Y.G g B:=by
 unfold Ic.G at *
 split at h;rename_i e;rw[Awd e];exact Y.ax _ _ _ h M;rename_i e;rw[Awf e];exact Y.aj _ _ _ h M
def IA (Y:Ic α P encs N)(g:Gh α)(s:St)(a:Act)(w:World):Prop:=∃W1 x,Y.G g W1/\x.S=Y.A g/\a.defers=[]/\Bo (Y.A g) (Bs.of W1) x s a w
def IW (Y:Ic α P encs N)(c:Code)(K:Exit->Gh α->St->Prop)(g:Gh α)(s:St):Prop:=∀a w,IA Y g s a w->c.wpIn Cg Y.n P (λe a w=>∃g s,IA Y g s a w/\K e g s) a w
def kL (nx:Gh α->St->Prop)(K:Exit->Gh α->St->Prop):Exit->Gh α->St->Prop
 | .normal,g,s=>nx g s
 | e,g,s=>K e g s
def dO (id:Nat)(K:Exit->Gh α->St->Prop):Exit->Gh α->St->Prop
 | .exit i,g,s=>if i=id then K .normal g s else K (.exit i) g s
 | e,g,s=>K e g s
section
variable {K:Exit->Gh α->St->Prop} {g:Gh α} {s:St}
theorem AHn {B:Gh α->St->Prop}(h:B g s):kL B K .normal g s:=h
theorem AHo {B:Gh α->St->Prop}(h:K .ret g s):kL B K .ret g s:=h
theorem AHm {B:Gh α->St->Prop}{i:Nat}(h:K (.exit i) g s):kL B K (.exit i) g s:=h
theorem AHk {id:Nat}(h:K .normal g s):dO id K .normal g s:=h
theorem AHl {id:Nat}(h:K .ret g s):dO id K .ret g s:=h
theorem AHj {id:Nat}(h:K .normal g s):dO id K (.exit id) g s:=by simp only[dO,Awg];exact h
theorem IW.skip (h:K .normal g s):IW Y .skip K g s:=λa w B=>wpIn_skip ⟨g,s,B,h⟩
theorem IW.ret (h:K .ret g s):IW Y .ret K g s:=λa w B=>wpIn_ret ⟨g,s,B,h⟩
theorem IW.exit {id:Nat}(h:K (.exit id) g s):IW Y (.exit id) K g s:=λa w B=>wpIn_exit ⟨g,s,B,h⟩
theorem IW.seq {c d:Code}(h:IW Y c (kL (IW Y d K) K) g s):IW Y (.seq c d) K g s:=λa w R=>wpIn_seq (wpIn_mono (h a w R) λe a w ⟨g,s,B,M⟩=>by
 cases e with
 | normal=>exact M a w B
 | _=>exact⟨g,s,B,M⟩)
theorem IW.block {id:Nat}(h:IW Y c (dO id K) g s):IW Y (.block id c) K g s:=λa w R=>wpIn_block (wpIn_mono (h a w R) λe a w ⟨g,s,M,B⟩=>by
 cases e with
 | exit i=>simp only[dO,Exit.inBlock]at B ⊢;split;rename_i e;rw[Awd e]at B;exact⟨g,s,M,B⟩;rename_i e;rw[Awf e]at B;exact⟨g,s,M,B⟩
 | _=>exact⟨g,s,M,B⟩)
theorem IW.cond {c:Operand}{d z:Code}(hc:ev s.t c=.c (.bool b))(h:b=I->IW Y d K g s)(h':b=U->IW Y z K g s):IW Y (.cond c d z) K g s:=λa w hA=>by
 obtain⟨q,x,h1,h2,R,B⟩:=hA;have M:=CW B.tm c;rw[hc]at M;simp only[CV,Ab]at M;exact wpIn_cond_split M (λe=>h e a w ⟨q,x,h1,h2,R,B⟩) (λe=>h' e a w ⟨q,x,h1,h2,R,B⟩)
def G1 (s s':St):Prop:=∀(S0:BF) (w0:Bs) (x:Cx) (a:Act) (w:World),w0.n0=0->Bo S0 w0 x s a w->∃x',x'.S=x.S/\Bo S0 w0 x' s' a w
theorem G1.refl (s:St):G1 s s:=λ_ _ x _ _ _ h=>⟨x,rfl,h⟩
theorem IW.le {s':St}(hl:G1 s s')(h:IW Y c K g s'):IW Y c K g s:=λa w ⟨M,x,q,z,B,h3⟩=>by
 obtain⟨x',e,R⟩:=hl _ _ _ _ _ rfl h3;exact h a w ⟨M,x',q,e.trans z,B,R⟩
theorem IW.loop (I:ι->Gh α×St)(q:ι->Nat)(R:ι)(hg:(I R).1=g)(h0:G1 s (I R).2)(h : ∀i,IW Y c (kL (λg' s'=>∃j,q j<q i/\(I j).1=g'/\G1 s' (I j).2) K) (I i).1 (I i).2):IW Y (.loop c) K g s:=λa w ⟨W1,x,B,M,z,h3⟩=>by
 obtain⟨x',e,h'⟩:=h0 _ _ _ _ _ rfl h3;subst hg;refine AMC (λi a w=>IA Y (I i).1 (I i).2 a w) q R ⟨W1,x',B,e.trans M,z,h'⟩ λi a w hi=>?_
 refine wpIn_mono (h i a w hi) λe a w ⟨g,s,B,M⟩=>?_
 cases e with
 | normal=>obtain⟨j,hj,rfl,hl⟩:=M;obtain⟨W2,x2,k1,k2,kd,k3⟩:=B;obtain⟨x3,e3,k4⟩:=hl _ _ _ _ _ rfl k3;exact⟨j,⟨W2,x3,k1,e3.trans k2,kd,k4⟩,hj⟩
 | _=>exact⟨g,s,B,M⟩
def IL (Y:Ic α P encs N)(ops:List Oper)(K:Exit->Gh α->St->Prop)(l:List Oper)(g:Gh α)(s:St):Prop:=∀a w,IA Y g s a w->wpListIn Cg Y.n P ops.toArray (λe a w=>∃g s,IA Y g s a w/\K e g s) l a w
variable {ops:List Oper}
theorem IW.region {id:Nat}(h:IL Y ops K ops g s):IW Y (.region id ops.toArray U) K g s:=λa w B=>wpIn_region_lit (h a w B)
theorem IL.nil (h:K .normal g s):IL Y ops K [] g s:=λa w B=>⟨g,s,B,h⟩
theorem AI9 {n:Nat}{K:Act->World->Prop}(h:o.wp P a w K Q):o.wpIn Cg n P a w K Q:=by
 refine⟨λ_ _=>trivial,?_⟩;rw[show Cg.round=E from rfl,Oper.semAt_none];unfold Er at h;generalize (execOp a.eval o).run P w=r at h ⊢;cases r with
 | ok x w' =>
   cases x<;>simp only[Nt,ue]at h ⊢<;>
    first
     | exact h
     | exact h.elim
     | exact⟨λe=>(by cases e),callsIn_wide.2 h⟩
     | exact⟨λe=>(by cases e),λc cs _=>let ⟨v,w',r,s⟩:=h c cs;⟨v,w',r,stepsIn_wide.2 s⟩⟩
 | halt x w'=>cases x<;>simp only[Nt,ue]at h ⊢<;>exact h
theorem IL.run : ∀ {l l':List Oper} {s s':St},VS P ops l s=J (l',s')->(l.all λo=> !AAH o.op)=I->IL Y ops K l' g s'->IL Y ops K l g s
 | [],l',s,s',h,_,M=>by simp only[VS,BL,Cr]at h;obtain⟨rfl,rfl⟩:=h;exact M
 | o::r,l',s,s',h,hb,M=>by
   unfold VS at h;simp only[Ep,Ak,Bool.not_eq_true']at hb;have hr:(r.all λo=> !AAH o.op)=true:=hb.2;split at h;rename_i hg;split at h;rename_i hc;split at h;rename_i s1 hs;unfold Qw at hs;split at hs;rename_i v t q;cases hs;intro a w ⟨W1,x,h1,h2,Fu,B⟩;have hw:FB o (yielded ops.toArray a.tmps)=true:=by
    have:=KR (o:=o) B.tm (IF (ops:=ops) (K1:=True) (K2:=False) hg W);exact Kn λh=>this.2 h
   unfold wpListIn;rw[Awd hw];refine AI9 ?_;obtain⟨nx,w',x',u,A0,EH,z,R,he,_,hS⟩:=oW B.good.XR (λy _=>CW B.tm y) (λ_ _=>B.fresh) q;rw[<-Kj _ _ (oZ q)]at R;obtain⟨R,CB⟩:=B.good.Sg he R;unfold Er;rw[A0];rcases EH with rfl|⟨rfl,rfl⟩
   exact IL.run h hr M _ _ ⟨W1,x',h1,(hS hb.1).trans h2,by rw[SM];exact Fu,Bo.put B.tm (B.df.mono CB) he R z o.dst⟩;exact IL.run h hr M _ _ ⟨W1,x',h1,(hS hb.1).trans h2,by rw[SM];exact Fu,Bo.put B.tm (B.df.mono CB) he R z o.dst⟩;cases hs;cases h;simp only[BL,Cr]at h;obtain⟨rfl,rfl⟩:=h;exact M;rename_i hg;intro a w ⟨W1,x,h1,h2,Fu,B⟩;have hw : ¬FB o (yielded ops.toArray a.tmps)=true:=by
    have:=KR (o:=o) B.tm (X8 (ops:=ops) (K1:=False) (K2:=True) hg W);exact λh=>this.1 h
   unfold wpListIn;rw[Awf hw];exact⟨λ_ _=>trivial,IL.run h hr M _ _ ⟨W1,x,h1,h2,by rw[SM];exact Fu,Bo.put (v:=.A7 []) (u:=undef) B.tm B.df (Ext.refl x w) B.good (ld x w) o.dst⟩⟩;cases h
end
mutual
theorem CV.bare {x:Cx}{w:World} : ∀(v:V) (u:Value),v.A8 0=I->CV x w v u->CV (Cx.bare x.S) w v u
 | .ptr k M,u,B,h=>by simp[V.A8]at B
 | .own k M len es,u,B,h=>by simp[V.A8]at B
 | .gr k es R,u,B,h=>by simp[V.A8]at B
 | .Be k es R,u,B,h=>by simp[V.A8]at B
 | .hp k n pos,u,B,h=>by simp[V.A8]at B
 | .agg l,u,B,h=>by simp only[V.A8]at B;simp only[CV]at h ⊢;obtain⟨vs,e,h⟩:=h;exact⟨vs,e,AO.bare l _ B h⟩
 | .A7 l,u,B,h=>by simp only[V.A8]at B;simp only[CV]at h ⊢;obtain⟨vs,e,h⟩:=h;exact⟨vs,e,AO.bare l _ B h⟩
 | .fn f l,u,B,h=>by simp only[V.A8]at B;simp only[CV]at h ⊢;obtain⟨vs,e,h⟩:=h;exact⟨vs,e,AO.bare l _ B h⟩
 | .any,u,_,h=>by simp only[CV]
 | .c _,u,_,h=>by simpa only[CV,Cx.bare]using h
 | .cp _ _,u,_,h=>by simpa only[CV,Cx.bare]using h
 | .Bg _,u,_,h=>by simpa only[CV,Cx.bare]using h
 | .yl _,u,_,h=>by simpa only[CV]using h
 | .mp k,u,B,_=>by simp[V.A8]at B
theorem AO.bare {x:Cx}{w:World} : ∀(l:List V) (us:List Value),V.BI 0 l=I->AO x w l us->AO (Cx.bare x.S) w l us
 | [],us,_,h=>by simpa only[AO]using h
 | v::l,us,B,h=>by
   simp only[V.BI,Ak]at B;simp only[AO]at h ⊢;obtain⟨u,M,e,R,q⟩:=h;exact⟨u,M,e,CV.bare v u B.1 R,AO.bare l M B.2 q⟩
end
theorem wE {W:World}{t:List V}(B : ∀b j,S b j->b<W.heap.size)(R:AO (Cx.bare S) W t a.tmps.toList)(M:Marks (Bs.of W) a.defers W):Bo S (Bs.of W) (Cx.bare S) ⟨t,[]⟩ a W:=
 ⟨⟨λk o h=>by simp at h,λk h=>h.elim,λk k' o q h=>by simp at h,λk o j h=>by simp at h,B,λk o h=>by simp at h,λb j h=>.inl h,λb j h=>h,.FR (Ay.refl W),Ext.none _ _ _⟩,R,M⟩
theorem G1.drop {t R:List V}{h:List O}(hs:DG t R)(hb:V.BI 0 R=I):G1 ⟨t,h⟩ ⟨R,[]⟩:=λS0 w0 x a w z B=>by
 have:=tI hs B.tm;refine⟨Cx.bare x.S,F,⟨λk o h=>by simp at h,λk h=>h.elim,λk k' o o' h=>by simp at h,λk o j h=>by simp at h,B.good.ex,λk o h=>by simp at h,B.good.new,B.good.sub,B.good.keep,?_⟩,AO.bare _ _ hb this,B.df⟩;have q : ∀k,¬w0.x0.dom k:=λk M=>by have:=w0.dl k M;omega
 exact⟨⟨B.good.ext.ar.sub,B.good.ext.ar.cell⟩,λk M=>absurd M (q k),λk M=>absurd M (q k)⟩
section
variable {K:Exit->Gh α->St->Prop} {s:St} {ops:List Oper}
theorem tc (M:AO x w s.t a.tmps.toList)(B:BQ ops s.t o.guard=J I):FB o (yielded ops.toArray a.tmps)=true:=by
 have:=KR (o:=o) M (IF (ops:=ops) (K1:=True) (K2:=False) B W);exact Kn λh=>this.2 h
theorem IL.AME {f:Operand}{ys:Array Operand}{pre:List α}(z:α)(t' t2:List V)(h2 : ∀(x x':Cx) (w w':World) (us:List Value),AO x w s.t us->AO x' w' t2 us)(ho:o.op=.call ⟨.value f,ys,Fk⟩)(hg:BQ ops s.t o.guard=J I)(hf:ev s.t f=.yl Y.l)(hy : ∀(x:Cx) (w:World) (us:List Value),AO x w (ys.toList.map (ev s.t)) us->encs pre z=us.toArray)(hN:G pre<N)(hs:DG s.t t')(hb:V.BI 0 t'=I)(ht:IL Y ops K r ⟨pre++[z],U⟩ (St.put ⟨t',[]⟩ o.dst (.c (.bool I))))(hx:IL Y ops K r ⟨pre++[z],I⟩ (St.put ⟨t2,[]⟩ o.dst (.c (.bool U)))):IL Y ops K (o::r) ⟨pre,U⟩ s:=λa w ⟨W1,x,h1,A5,Fu,B⟩=>by
 have hk:Ay W1 w:=B.good.keep.all;have hJ:Y.J pre w:=Y.aj _ _ _ (by simpa [Ic.G]using h1) hk;obtain⟨fn,A0,A2,bd,R,hR⟩:=Y.yd pre z w hJ hN;have EW:=CW B.tm f;rw[hf]at EW;simp only[CV]at EW;have PW:encs pre z=ys.map a.eval:=(hy _ _ _ (AO.of_map λy _=>CW B.tm y)).trans (by apply Gx.1;simp);unfold wpListIn;rw[Awd (tc B.tm hg)];refine⟨λ_ _=>trivial,?_⟩;rw[show Cg.round=E from rfl,Oper.semAt_none];have A1:(execOp a.eval o).run P w=.ok (.round Y.l fn A0 A2 bd) w:=by
  rw[PW]at R;simp[execOp,ho,resolve,EW,M5,invoke,R]
 rw[A1];refine⟨λe=>(by cases e),hR.mono ?_⟩;have qS:x.S=Y.S:=by rw[A5];funext b j;simp[Ic.A]
 have Gr:Y.A ⟨pre++[z],U⟩=Y.S:=by funext b j;simp[Ic.A]
 have Ec:Y.A ⟨pre++[z],I⟩=λ_ _=>False:=by funext b j;simp[Ic.A]
 have FE:a.tmps.size=G s.t:=by have:=B.tm.len;simpa using this
 have M : ∀(t:List V) (S:BF) (W:World) (b:Bool),AO (Cx.bare S) W t a.tmps.toList->AO (Cx.bare S) W (St.put ⟨t,[]⟩ o.dst (.c (.bool b))).t (a.put o.dst (.bool b)).tmps.toList:=by
  intro t S W b h;rw[AJ7];cases o.dst with
  | none=>exact h
  | some d=>exact h.set d (by simp only[CV,Ab])
 have hh : ∀(t:List V) (b:Bool),(St.put ⟨t,[]⟩ o.dst (.c (.bool b))).h=[]:=by intro t b;cases o.dst<;>rfl
 have q : ∀(t:List V) (b:Bool),St.put ⟨t,[]⟩ o.dst (.c (.bool b))=⟨(St.put ⟨t,[]⟩ o.dst (.c (.bool b))).t,[]⟩:=by intro t b;cases o.dst<;>rfl
 rintro e W' (⟨rfl,yE,A3,CZ⟩|⟨rfl,yE⟩);refine ht _ _ ⟨W',Cx.bare Y.S,by simpa [Ic.G]using yE,Gr.symm,by rw[SM];exact Fu,?_⟩;rw[Gr,q];refine wE (λb j h=>H7 (B.good.ex b j (by rw[qS];exact h)) A3) (M _ _ _ _ ?_) (by rw[SM,Fu];exact Marks.nil _ _);have h4:=AO.bare _ _ hb (tI hs B.tm);rw[qS]at h4;have kI:Ext (Cx.bare Y.S) (Cx.bare Y.S) w W':=⟨CZ,λ_ h=>h,λ_ h=>h.elim⟩
 exact AO.mono kI _ _ h4;refine hx _ _ ⟨W',Cx.bare λ_ _=>False,by simpa [Ic.G]using yE,Ec.symm,by rw[SM];exact Fu,?_⟩;rw[Ec,q];exact wE (λb j h=>h.elim) (M _ _ _ _ (h2 _ _ _ _ _ B.tm)) (by rw[SM,Fu];exact Marks.nil _ _)
theorem IL.AMF {f y:Operand}{pre:List α}(z:α)(M:List V)(ho:o.op=.call ⟨.value f,#[y],Fk⟩)(hg:o.guard=E)(hf:ev s.t f=.yl Y.l)(hy : ∀(x:Cx) (w:World) (u:Value),CV x w (ev s.t y) u->encs pre z=#[u])(q:G pre<N)(hs:DG s.t M)(hb:V.BI 0 M=I)(ht:IL Y ops K r ⟨pre++[z],U⟩ (St.put ⟨M,[]⟩ o.dst (.c (.bool I))))(hx:IL Y ops K r ⟨pre++[z],I⟩ (St.put ⟨Aq (G s.t) .any,[]⟩ o.dst (.c (.bool U)))):IL Y ops K (o::r) ⟨pre,U⟩ s:=IL.AME z M _ (λx x' w w' us h=>by
 rw[<-h.len];exact AO.SI ZA λj v u B hu=>by
  rw[List.getElem?_replicate]at B;split at B;cases B;simp only[CV];cases B) ho (by rw[hg];rfl) hf (λx w us h=>by
 simp only[Ap,BB,AO]at h;obtain⟨u,_,rfl,R,rfl⟩:=h;exact hy x w u R) q hs hb ht hx
theorem IL.yield {f y:Operand}{pre:List α}(z:α)(B:List V)(ho:o.op=.call ⟨.value f,#[y],Fk⟩)(hg:o.guard=E)(q:ev s.t f=.yl Y.l){M:IntKind}{i:Int}(hy:ev s.t y=.c (.int M i))(hz:encs pre z=#[.int M i])(R:G pre<N)(hs:DG s.t B)(hb:V.BI 0 B=I)(ht:IL Y ops K r ⟨pre++[z],U⟩ (St.put ⟨B,[]⟩ o.dst (.c (.bool I))))(hx:IL Y ops K r ⟨pre++[z],I⟩ (St.put ⟨Aq (G s.t) .any,[]⟩ o.dst (.c (.bool U)))):IL Y ops K (o::r) ⟨pre,U⟩ s:=IL.AMF z B ho hg q (λx w u h=>by rw[hy]at h;simp only[CV,Ab]at h;rw[hz,h.1]) R hs hb ht hx
theorem MS.intro {gf:FuncId}{caps:List V}{Sx:List α->Prop}{fn:Func}{c:Code}(Ff:P.funcs[gf]?=some fn)(hb:fn.body=some c)(Rw:fn.results=#[])(h : ∀Y:Ic α P encs N,IW Y c (λe g s=>(e=.normal\/e=.ret)/\(g.off=U->Sx g.pre)) ⟨[],U⟩ ⟨(.yl Y.l::caps)++Aq (fn.ntmps - (G caps+1)) .any,[]⟩):MS P gf caps encs Sx N:=by
 intro n S w z hS EP l J Jx W A0 A2 A3 A5 A1;have U2:Ay w W:=A0;have aj : ∀pre A B,J pre A->Ay A B->J pre B:=λpre A B h M=>A2 pre A B E h ⟨M.os,M.tape,M.output,M.size,λk Hh _=>M.block k Hh⟩ (λr e=>by cases e)
 have ax : ∀pre A B,Jx pre A->Ay A B->Jx pre B:=λpre A B h M=>A3 pre A B E h ⟨M.os,M.tape,M.output,M.size,λk Hh _=>M.block k Hh⟩ (λr e=>by cases e)
 let Y:Ic α P encs N:=⟨n,l,S,J,Jx,aj,ax,A5⟩
 refine callsIn_of_wp_marks (F:=Cg) Ff hb trivial ?_;have Gr:Y.A ⟨[],U⟩=S:=by funext b j;simp[Ic.A,Y]
 have DK:z.size=G caps:=by have:=EP.len;simpa using this
 have qK:IA Y ⟨[],U⟩ ⟨(.yl Y.l::caps)++Aq (fn.ntmps - (G caps+1)) .any,[]⟩ { tmps:=(#[ADc (.yield l) #[] #[]]++z)++M4 (fn.ntmps - (#[ADc (.yield l) #[] #[]]++z).size) undef,defers:=[] } W:=by
  refine⟨W,Cx.bare S,by simpa [Ic.G,Y]using A1,Gr.symm,rfl,?_⟩;rw[Gr];refine wE (λb j h=>H7 (hS b j h) U2.size) ?_ (Marks.nil _ _);have e1:(#[ADc (.yield l) #[] #[]]++z).size=G caps+1:=by simp[DK];omega
  simp only[Pq,Array.toList_replicate,e1];refine AO.append ?_ (SQ _ _ _ _);have kI:Ext (Cx.bare S) (Cx.bare S) w W:=⟨⟨λ_ _ h=>h,λb j v _ hc=>U2.cell hc⟩,λ_ h=>h,λ_ h=>h.elim⟩
  simp only[BK,BU,AO];exact⟨_,z.toList,rfl,by simp[CV,Y],AO.mono kI _ _ EP⟩
 refine wpIn_mono (h Y _ _ qK) λe a' w' ⟨g,s,⟨W1,x,k1,k2,k3,k4⟩,he,qS⟩=>?_
 have R:LeavesInM Cg n P fn a'.tmps (λe W'=>(∃v,e=.returned v)/\((∃xs,Sx xs/\J xs W')\/(∃pre,True/\Jx pre W'))) a'.defers .returning w':=by
  rw[k3];refine⟨.tuple #[],by simp[results,Rw],⟨_,rfl⟩,?_⟩;have q:=Y.keep k1 k4.good.keep.all;unfold Ic.G at q;cases hg:g.off with
  | false=>rw[hg]at q;exact .inl ⟨g.pre,qS hg,by simpa using q⟩
  | true=>rw[hg]at q;exact .inr ⟨g.pre,trivial,by simpa using q⟩
 rcases he with rfl|rfl
 exact R;exact R
theorem UU.intro {encs:α->Array Value}{B:FuncId}{caps:List V}{Sx:List α->Prop}(M:P.funcs[B]?=J fn)(hb:fn.body=J c)(R:fn.results=#[])(h : ∀Y:Ic α P (λ_=>encs) N,IW Y c (λe g s=>(e=.normal\/e=.ret)/\(g.off=U->Sx g.pre)) ⟨[],U⟩ ⟨(.yl Y.l::caps)++Aq (fn.ntmps - (G caps+1)) .any,[]⟩):UU P B caps encs Sx N:=MS.intro M hb R h
end
attribute [simp] VS eo Qv Pl.key BQ Ka Qw P2 oV Pl.ap Mv ev AZ8 AaD AZ7 AZ6 AaC AaA AZ9 AaB AaF AaH AaG AaL AaJ AaI AaK St.step St.put Bk oN oq oO oQ oR oP oT az Vz V3 X4 wD Xe toC toCs CJ E8 YI V.flat V.cells V.one V.tR Ee C7 V.CF V.CP
end
theorem cj {p q:Prop}(x:p)(y:q):p/\q:=⟨x,y⟩
theorem cj2 {B M r:Prop}(R:B)(q:M)(h:r):B/\M/\r:=⟨R,q,h⟩
theorem cj3 {B M R r:Prop}(q:B)(z:M)(h2:R)(h:r):B/\M/\R/\r:=⟨q,z,h2,h⟩
theorem cj4 {B M R q r:Prop}(z:B)(h1:M)(h2:R)(h3:q)(h:r):B/\M/\R/\q/\r:=⟨z,h1,h2,h3,h⟩
theorem cj5 {B M R q z r:Prop}(h0:B)(h1:M)(h2:R)(h3:q)(h4:z)(h:r):B/\M/\R/\q/\z/\r:=⟨h0,h1,h2,h3,h4,h⟩
theorem cj6 {B M R q z p5 r:Prop}(h0:B)(h1:M)(h2:R)(h3:q)(h4:z)(h5:p5)(h:r):B/\M/\R/\q/\z/\p5/\r:=⟨h0,h1,h2,h3,h4,h5,h⟩
theorem cj7 {B M R q z p5 p6 r:Prop}(h0:B)(h1:M)(h2:R)(h3:q)(h4:z)(h5:p5)(h6:p6)(h:r):B/\M/\R/\q/\z/\p5/\p6/\r:=⟨h0,h1,h2,h3,h4,h5,h6,h⟩
theorem cj8 {B M R q z p5 p6 p7 r:Prop}(h0:B)(h1:M)(h2:R)(h3:q)(h4:z)(h5:p5)(h6:p6)(h7:p7)(h:r):B/\M/\R/\q/\z/\p5/\p6/\p7/\r:=⟨h0,h1,h2,h3,h4,h5,h6,h7,h⟩
theorem cj9 {B M R q z p5 p6 p7 p8 r:Prop}(h0:B)(h1:M)(h2:R)(h3:q)(h4:z)(h5:p5)(h6:p6)(h7:p7)(h8:p8)(h:r):B/\M/\R/\q/\z/\p5/\p6/\p7/\p8/\r:=⟨h0,h1,h2,h3,h4,h5,h6,h7,h8,h⟩
theorem Ah {p q:Prop}(h:q)(k:q->p:=by
 intro h;repeat (first
  | (with_reducible first|refine AW.seq ?_|refine AW.block ?_|refine G3 ?_|refine MV ?_|refine AW.ret ?_|refine S7 ?_|refine S4 ?_|refine Kz ?_|refine AW.skip ?_|refine AW.exit ?_|refine S6 ?_|refine RN ?_|refine AW.label ?_|refine AW.scope ?_|refine UY ?_|refine S5 ?_|refine UX ?_)
  | ((with_reducible refine AW.region ?_);with_reducible refine If (by simp[BY];first|exact rfl|exact⟨rfl,rfl⟩) ?_)
  | ((with_reducible refine AW.draw Fz ?_ ?_);(focus first|exact .inl rfl|exact .inr ZB);with_reducible refine Es (by simp[BY];first|exact rfl|exact⟨rfl,rfl,rfl⟩) ?_)
  | (with_reducible refine ADs ZC ?_)
  | ((with_reducible refine S3 ?_ ?_);focus decide)
  | ((with_reducible refine xE ?_ ?_);focus (simp[ev];done))
  | ((with_reducible refine xD ?_ ?_);focus (simp[ev];done)))
 exact h):p:=k h
theorem go {F p q:Prop}(f:F)(h:q)(k:F->q->p:=by
 intro f h;repeat (first
  | (with_reducible first|refine AW.seq ?_|refine AW.block ?_|refine G3 ?_|refine MV ?_|refine AW.ret ?_|refine S7 ?_|refine S4 ?_|refine Kz ?_|refine AW.skip ?_|refine AW.exit ?_|refine S6 ?_|refine RN ?_|refine AW.label ?_|refine AW.scope ?_|refine UY ?_|refine S5 ?_|refine UX ?_)
  | ((with_reducible refine AW.region ?_);with_reducible refine If (by simp[BY,f];first|exact rfl|exact⟨rfl,rfl⟩) ?_)
  | ((with_reducible refine AW.draw Fz ?_ ?_);(focus first|exact .inl rfl|exact .inr ZB);with_reducible refine Es (by simp[BY,f];first|exact rfl|exact⟨rfl,rfl,rfl⟩) ?_)
  | (with_reducible refine ADs ZC ?_)
  | ((with_reducible refine S3 ?_ ?_);focus decide)
  | ((with_reducible refine xE ?_ ?_);focus (simp[ev,f];done))
  | ((with_reducible refine xD ?_ ?_);focus (simp[ev,f];done)))
 exact h):p:=k f h
theorem BZ {p q:Prop}{g:FuncId}(C9:AC P g args res)(hf:P.funcs[g]?=some fn)(h:q)(k:AC P g args res->P.funcs[g]?=some fn->q->p:=by
 intro c n h;(with_reducible first|refine oX c n ZC ZC ?_ ?_ ?_|refine Xz c n ZC ZC ?_ ?_ ?_)
 focus (simp[BQ];done)
 focus (simp[Ee];done)
 first|(with_reducible refine If (by simp[BY];first|exact rfl|exact⟨rfl,rfl⟩) ?_)|(with_reducible refine Es (by simp[BY];first|exact rfl|exact⟨rfl,rfl,rfl⟩) ?_)
 exact h):p:=k C9 hf h
theorem gc {F p q:Prop}{g:FuncId}(f:F)(C9:AC P g args res)(hf:P.funcs[g]?=some fn)(h:q)(k:F->AC P g args res->P.funcs[g]?=some fn->q->p:=by
 intro f c n h;(with_reducible first|refine oX c n ZC ZC ?_ ?_ ?_|refine Xz c n ZC ZC ?_ ?_ ?_)
 focus (simp[BQ,f];done)
 focus (simp[Ee,f];done)
 first|(with_reducible refine If (by simp[BY,f];first|exact rfl|exact⟨rfl,rfl⟩) ?_)|(with_reducible refine Es (by simp[BY,f];first|exact rfl|exact⟨rfl,rfl,rfl⟩) ?_)
 exact h):p:=k f C9 hf h
theorem en {q:Prop}{g:FuncId}{n:Nat}(hf:P.funcs[g]?=some fn)(hn:fn.ntmps=n)(h:q)(hb:fn.body=some c:=by exact rfl)(k:fn.ntmps=n->q->AW ⟨none,0⟩ P c (iK P fn.results.toList res) ⟨args++List.replicate (fn.ntmps - args.length) .any,[]⟩:=by
   intro hn h;simp only[hn,Ap,BB,BA,List.length_nil,Nat.reduceAdd,Nat.reduceSub,BY,Cy,BK,BU];exact h):AC P g args res:=AC.intro hf hb (k hn h)
theorem lp {t:List V}{h:List O}(f:ι->List (Nat×V))(hf:ι->List O)(μ:ι->Nat)(i0:ι){ws:List Nat}{t0:List V}(h0:Le m ⟨t,h⟩ ⟨CG (f i0) t0,hf i0⟩)(hr : ∀i,AW m P c (NH (λs'=>∃j,μ j<μ i/\Le m s' ⟨CG (f j) t0,hf j⟩) K) ⟨CG (f i) t0,hf i⟩)(hw:wr c=ws:=by simp only[wr,lq,BK,BU,E5,GX];exact rfl)(ht:jb ws t=t0:=by simp only[jb,Bw,CO,Ag,Ai];exact rfl):AW m P (.loop c) K ⟨t,h⟩:=
 AW.AUO f hf μ i0 ws hw t0 ht h0 hr
theorem CX {t:List V}{h:List O}(f:ι->List (Nat×V))(hf:ι->List O)(μ:ι->Nat)(i0:ι){ws:List Nat}{t0 T:List V}{H:List O}{g:ι->List V}(h0:Le m ⟨t,h⟩ ⟨T,H⟩)(hr : ∀i,AW m P c (NH (λs'=>∃j,μ j<μ i/\Le m s' ⟨g j,hf j⟩) K) ⟨g i,hf i⟩)(hw:wr c=ws:=by simp only[wr,lq,BK,BU,E5,GX];exact rfl)(ht:jb ws t=t0:=by simp only[jb,Bw,CO,Ag,Ai];exact rfl)(hg : ∀i,CG (f i) t0=g i:=by intro i;simp only[CG,Bw,CO,Ag,Ai];exact rfl)(hT:g i0=T:=by first|exact rfl|(simp only;exact rfl))(hH:hf i0=H:=by first|(simp only;exact rfl)|exact rfl):AW m P (.loop c) K ⟨t,h⟩:=by
 subst hT hH;exact lp f hf μ i0 (by rw[hg];exact h0) (λi=>by rw[hg];simp only[hg];exact hr i) hw ht
theorem wd {t t':List V}{h h':List O}(hn:m.n0<=n:=by exact F2 rfl)(hs:DG t t':=by simp[DG])(hh:h.take n=h':=by simp)(hb:V.BI n t'=true:=by simp[V.BI,V.A8])(ho:(h'.all (O.A8 n))=true:=by simp[O.A8,V.BI,V.A8]):Le m ⟨t,h⟩ ⟨t',h'⟩:=Le.MI n hn hs hh hb ho
theorem At {F p:Prop}(f:F)(k:F->p:=by intro f;simp[iK,DV,C0,DE,V.CP,V.CF,CJ,f]):p:=k f
theorem Cn {t:List V}{h:List O}{row:List C}{t':List V}{h':List O}(hw:AW m P c K ⟨t',h'⟩)(hk:h[k]?=some (.box ty cs false):=by exact rfl)(hr:toCs cs=some row:=by simp[toCs,toC];exact rfl)(ht:V.Cs k row t=t':=by simp[V.Cs,V.Bi];exact rfl)(hh:(h.set k (.box ty cs true)).map (O.Bi k row)=h':=by simp[O.Bi,V.Cs,V.Bi];exact rfl):AW m P c K ⟨t,h⟩:=AW.Bi k hk hr ht hh hw
def KQ (_:Nat):Prop:=True
theorem KQ.mk :KQ n:=W
theorem ED {F p q:Prop}(f:F)(h:q)(k:F->q->p:=by
 intro f h;try ((with_reducible refine IL.run (by simp[BY,f];first|exact rfl|exact⟨rfl,rfl⟩) ?_ ?_);(focus (first|exact rfl|decide)))
 repeat (first
  | (with_reducible first|refine IW.seq ?_|refine IW.block ?_|refine IW.skip ?_|refine IW.ret ?_|refine IW.exit ?_|refine AHn ?_|refine AHo ?_|refine AHm ?_|refine AHk ?_|refine AHl ?_|refine AHj ?_|refine IL.nil ?_)
  | ((with_reducible refine IW.region ?_);(with_reducible refine IL.run (by simp[BY,f];first|exact rfl|exact⟨rfl,rfl⟩) ?_ ?_);(focus (first|exact rfl|decide)))
  | (with_reducible refine IW.cond (b:=true) ?_ (λ_=>?_) (λe=>nomatch e);(focus (simp[ev,f];done)))
  | (with_reducible refine IW.cond (b:=false) ?_ (λe=>nomatch e) (λ_=>?_);(focus (simp[ev,f];done))))
 with_reducible exact h):p:=k f h
theorem SW.takeN {n:Nat}(_:KQ n)(h:Eg P ops (λs'=>SW P ops K (l.drop n) s') (l.take n) s):SW P ops K l s:=SW.take n h
theorem CY {F p q:Prop}{n:Nat}(m:KQ n)(f:F)(h:q)(k:KQ n->F->q->p:=by
 intro m f h;refine SW.takeN m ?_;with_reducible refine If (by simp[BY,f];first|exact rfl|exact⟨rfl,rfl⟩) ?_
 refine Kz ?_;simp only[CU,B9];with_reducible exact h):p:=k m f h
theorem Og {F p q:Prop}{n:Nat}(m:KQ n)(f:F)(h:q)(k:KQ n->F->q->p:=by
 intro m f h;with_reducible refine AW.DA ?_
 refine SW.takeN m ?_;with_reducible refine If (by simp[BY,f];first|exact rfl|exact⟨rfl,rfl⟩) ?_
 refine Kz ?_;simp only[CU,B9];with_reducible exact h):p:=k m f h
theorem DH {t t':List V}{h:List O}(hs:DG t t':=by simp[DG]):Le m ⟨t,h⟩ ⟨t',h⟩:=Le.tg hs
theorem ER {F:Prop}{t t':List V}{h:List O}(f:F)(hs:F->DG t t':=by intro f;simp[DG,f]):Le m ⟨t,h⟩ ⟨t',h⟩:=Le.tg (hs f)
section
variable {P:Program} {ops:List Oper} {K:St->Prop}
def AK (P:Program)(ops:List Oper)(K:St->Prop)(l:List Oper)(ks:List (Option Nat×Option Nat))(s:St):Prop:=∀acc:List Ef,acc.map Ef.ks=ks->Ie P ops (λes s'=>Lk ops (es.map Ef.ks)=I/\K s') l acc s
theorem AW.AO9 {id:Nat}{K:Exit->St->Prop}(M:P.follows .mixedOrders=I)(B:m.rd=E\/Pb ops=I)(h:AK P ops (K .normal) ops [] s):AW m P (.region id ops.toArray I) K s:=AW.draw M B (h [] F)
theorem ANJ {ks:List (Option Nat×Option Nat)}(M:Lk ops ks=I)(h:K s):AK P ops K [] ks s:=λB e=>by unfold Ie;rw[e];exact⟨M,h⟩
theorem ANH {ks:List (Option Nat×Option Nat)}{f:FuncId}(B:AC P f Bd res)(q:P.funcs[f]?=J fn)(hb:fn.body.isSome=I)(hn:(fn.name == "runtime.NumGoroutine")=U)(z:BQ ops s.t o.guard=J I)(R:Ee (ev s.t) o.op=J (f,Bd))(h:AK P ops K r (ks++[(E,E)]) (s.step o.dst res E)):AK P ops K (o::r) ks s:=λM e=>Xz B q hb hn z R (h _ (by rw[Fm,e];rfl))
end
theorem AZs {h:List O}(g:Good S0 w0 x w (λk=>h[k]?))(Ae:TypeId)(es n:Nat):
 Good S0 w0 (x.grow (G h) ⟨0,0,I,n,I⟩ 0) w (λk=>(h++[O.tok Ae es n])[k]?)/\Ext x (x.grow (G h) ⟨0,0,I,n,I⟩ 0) w w:=by
 have z : ¬x.dom (G h):=λq=>by obtain⟨o,ho⟩:=g.dom _ q;simp at ho
 have M:Ext x (x.grow (G h) ⟨0,0,I,n,I⟩ 0) w w:=⟨⟨λ_ _ h=>.inl h,λ_ _ _ _ h=>h⟩,λ_ h=>.inl h,λi B=>by
  have:i≠G h:=λe=>z (e ▸ B)
  simp[Cx.grow,this,FM.refl]⟩
 have R:=g.H5 (G h) (.tok Ae es n) M (.FR (Ay.refl w)) (λi=>RA) (λi B=>by simp[Cx.grow,B]) (λh=>by simp[Cx.grow]at h) ⟨by simp[Cx.grow],by simp[Cx.grow],λh=>by simp[Cx.grow]at h⟩ (λb j h=>h.elim .inl λh=>by omega) (λj hx=>by have:=hx.1;simp[Cx.grow]at this);refine⟨?_,M⟩;have e:=Kj h (J (G h,O.tok Ae es n)) (λk o e=>by cases e;exact BN _);simp only[Bk,IY,Awh,Bx.upd]at e;rw[e];exact R
theorem APt {k es:Nat}{AG:List (List C)}{u:Value}(B : ∀r∈AG,G r=es)(h:CV x w (.Bg AG) u):CV (x.grow k ⟨0,0,I,G AG,I⟩ 0) w (.gr k es AG) u:=by
 simp only[CV]at h ⊢;obtain⟨A,e,h⟩:=h;refine⟨.inr F,by simp[Cx.grow],Ab.mono ⟨λ_ _ h=>.inl h,λ_ _ _ _ h=>h⟩ _ _ h,B,by simp[Cx.grow],λ_=>?_⟩;simp only[Cx.grow,Awg];exact⟨A,e⟩
theorem Le.AZr {t:List V}{h:List O}(i:Nat)(Ae:TypeId)(es:Nat)(AG:List (List C))(z:t[i]?=J (.Bg AG))(hr : ∀r∈AG,G r=es):Le m ⟨t,h⟩ ⟨t.set i (.gr (G h) es AG),h++[.tok Ae es (G AG)]⟩:=λS0 w0 x a w hm B=>by
 obtain⟨M,q⟩:=AZs B.good Ae es (G AG);obtain⟨u,hu,R⟩:=B.tm.get i _ z;refine⟨_,M,?_,B.df⟩;have:=(AO.mono q _ _ B.tm).set i (APt (k:=G h) (es:=es) hr R);have e:a.tmps.toList.set i u=a.tmps.toList:=by
  apply Vc;intro j;rw[RD];split;rename_i e;subst e;split;rw[hu];rename_i A0;rw[M6 Ux];rfl
 rw[e]at this;exact this
end Go.Proofs.YtegconioojpgmaaGreat
