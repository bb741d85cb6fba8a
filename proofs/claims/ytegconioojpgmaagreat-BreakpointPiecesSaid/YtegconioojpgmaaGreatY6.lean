/- Part of the proof of breakpointPieces.proved. Conditions: none. -/
import Derived.Lib.Bytealg
import Derived.Lib.Strings
import Derived.Lib.Slices
import Derived.Lib.Walk
import Derived.Test.YtegconioojpgmaaGreatY4
set_option linter.unusedVariables false
set_option linter.unusedSimpArgs false
set_option maxRecDepth 100000
set_option maxHeartbeats 16000000
open SizeOf renaming sizeOf->UF
open Go.Lib renaming indexByte->EF
open Bool renaming not_false->ly,not_eq_true'->tl,not_true->tv,false_or->tf
open UInt8 renaming toNat_inj->ADb
open ByteArray renaming size_extract->fg
open Go.Proofs.Tryz renaming prog->AF,func256->AKA,ntmps256->ARH,results256->aU,results156->gz,results160->Aio,results122->AbK,func120->APK,ntmps120->AQC,results120->gb,func121->ADq,ntmps121->AGr,results121->AbH,func124->JV,ntmps124->JW,results124->JX,results111->ANk,results109->AbG,results108->Aii,func106->Sq,ntmps106->nO,results106->nW,results107->vH,func69->nJ,ntmps69->nK,results69->MP,func70->nL,ntmps70->nV,results70->RJ,results39->Ak2,results40->Ak3,results25->Yc,results38->g7,func18->Aap,ntmps18->AiY,results18->Aip,func125->M9,results125->AbS,func82->AP9,results82->aX,func47->ALI,ntmps47->AMh,results47->Th,func44->gS,ntmps44->gv,results44->kn
open Go.Extern.BytealgIndexByte renaming indexByte->AMT
open Go.IntKind renaming i64->AZ
open List renaming any_cons->mP,any_nil->mQ,length_nil->BO,map->Vf,map_set->fy,replicate->Aq
open Nat renaming lt_succ_self->AC6,mul_le_mul->ua
open Go.Builtin renaming zeroCells->KN
open Go.Value renaming int->vj
open Prod.mk renaming injEq->Cr
open Go.Deferred renaming ofValue->M5
open Go.Op renaming operands->Bl
open Go.Call renaming operands->Df
open Option renaming some->J,none->E
open Bool renaming false->U,true->I
open List renaming length->G
namespace Go.Proofs.YtegconioojpgmaaGreat
open Go.RowKit Tryz
variable {k:Nat}(s:ByteArray)(c:Int)(n:Nat)(m:Nat)
structure Nd where
 kind:Int
 text:ByteArray
 AL:Int
 AE:List Nd
mutual
def Nd.row:Nd->List C
 | ⟨k,t,c,AE⟩=>[.int .i64 k,.str t,.int .i64 c,.sl (Nd.AG AE)]
def Nd.AG:List Nd->List (List C)
 | []=>[]
 | n::l=>n.row::Nd.AG l
end
theorem Zd : ∀l:List Nd,Nd.AG l=l.map Nd.row
 | []=>rfl
 | n::l=>by simp only[Nd.AG,Ap,Zd l]
mutual
def Nd.cnt:Nd->Nat
 | ⟨_,_,_,AE⟩=>1+Nd.Az AE
def Nd.Az:List Nd->Nat
 | []=>0
 | n::l=>n.cnt+Nd.Az l
end
mutual
def Nd.BR:Nd->Nat
 | ⟨_,_,_,AE⟩=>Nd.deps AE+1
def Nd.deps:List Nd->Nat
 | []=>0
 | n::l=>max n.BR (Nd.deps l)
end
mutual
def Nd.BX:Nd->Prop
 | ⟨_,t,_,AE⟩=>t.size<=maxLen/\(G AE)<=maxLen/\Nd.FY AE
def Nd.FY:List Nd->Prop
 | []=>True
 | n::l=>n.BX/\Nd.FY l
end
theorem ry (b:Nd):0<b.cnt:=by cases b;simp only[Nd.cnt];omega
theorem SH : ∀l:List Nd,G l<=Nd.Az l
 | []=>BN _
 | b::l=>by have:=SH l;have:=ry b;simp only[Nd.Az,BA];omega
theorem AjG : ∀(l:List Nd) (i:Nat) (b:Nd),l[i]?=J b->i+b.cnt<=Nd.Az l
 | [],i,b,h=>by simp at h
 | x::l,0,b,h=>by simp at h;subst h;simp only[Nd.Az];omega
 | x::l,i+1,b,h=>by have:=AjG l i b (by simpa using h);have:=ry x;simp only[Nd.Az];omega
theorem di : ∀ {l:List Nd},Nd.FY l->∀b∈l,b.BX
 | _::_,h,b,B=>by
   rcases Cf.1 B with rfl|B
   exact h.1;exact di h.2 b B
theorem AjJ : ∀n:Nat,∀b:Nd,UF b<n->b.BR<=b.cnt
 | 0,b,h=>absurd h Ux
 | n+1,⟨k,t,c,B⟩,h=>by
   have M : ∀l:List Nd,UF l<n->Nd.deps l<=Nd.Az l:=by
    intro l;induction l with
    | nil=>intro _;exact BN _
    | cons x l ih=>intro Q;simp only[List.cons.sizeOf_spec]at Q;have R:=AjJ n x Ux;have S:=ih Ux;simp only[Nd.deps,Nd.Az];omega
   simp only[Nd.mk.sizeOf_spec]at h;have:=M B Ux;simp only[Nd.BR,Nd.cnt];omega
def Nd.vs (b:Nd):List V:=b.row.map V.c
def Am (b:Nd):V:=.agg b.vs
section
variable (b:Nd)
@[simp] theorem Nd.Xf:G b.vs=4:=by cases b;rfl
@[simp] theorem Nd.ACP:b.vs.all V.one=true:=by cases b;rfl
@[simp] theorem Nd.ACR:b.vs.take 4=b.vs:=Gl ZA
@[simp] theorem Nd.ACN:b.vs[0]?=J (.c (.int .i64 b.kind)):=by cases b;rfl
@[simp] theorem Nd.ACG (h:0<G b.vs):b.vs[0]'h=.c (.int .i64 b.kind):=by cases b;rfl
@[simp] theorem Nd.AL7:b.vs[1]?=J (.c (.str b.text)):=by cases b;rfl
@[simp] theorem Nd.AL5 (h:1<G b.vs):b.vs[1]'h=.c (.str b.text):=by cases b;rfl
@[simp] theorem Nd.AL8:b.vs[2]?=J (.c (.int .i64 b.AL)):=by cases b;rfl
@[simp] theorem Nd.AL6 (h:2<G b.vs):b.vs[2]'h=.c (.int .i64 b.AL):=by cases b;rfl
@[simp] theorem Nd.ACO:b.vs[3]?=J (.c (.sl (Nd.AG b.AE))):=by cases b;rfl
@[simp] theorem Nd.ACI (h:3<G b.vs):b.vs[3]'h=.c (.sl (Nd.AG b.AE)):=by cases b;rfl
@[simp] theorem Nd.tX:V.CF b.vs=J b.vs:=Zq b.row
@[simp] theorem Nd.ACS:toCs b.vs=J b.row:=toCs_c b.row
@[simp] theorem Nd.AL9 (cs:List V)(h:G cs=4):E8 cs 0 b.vs=b.vs:=kz (by simp[h])
@[simp] theorem Nd.Nk:G b.row=4:=by cases b;rfl
@[simp] theorem Nd.ABb:b.row.map V.c=b.vs:=F
@[simp] theorem Nd.AKV:b.row.take 4=b.row:=Gl ZA
@[simp] theorem Nd.AXz:b.row[0]?=J (.int .i64 b.kind):=by cases b;rfl
@[simp] theorem Nd.AX0:b.row[1]?=J (.str b.text):=by cases b;rfl
@[simp] theorem Nd.AX1:b.row[2]?=J (.int .i64 b.AL):=by cases b;rfl
@[simp] theorem Nd.AX2:b.row[3]?=J (.sl (Nd.AG b.AE)):=by cases b;rfl
@[simp] theorem Nd.tW :V.BI n b.vs=true:=by cases b;simp[Nd.vs,Nd.row,V.BI,V.A8]
@[simp] theorem Nd.ACQ (k:Nat)(row:List C):V.Cs k row b.vs=b.vs:=by cases b;simp[Nd.vs,Nd.row,V.Cs,V.Bi]
end
theorem Pc (l:List Nd):G (Nd.AG l)=G l:=by rw[Zd,Ch]
theorem XG {l:List Nd}{i:Nat}{b:Nd}(h:l[i]?=J b):(Nd.AG l)[i]?=J b.row:=by rw[Zd,CM,h];rfl
theorem kf (b:Nd)(h:b.BX):b.text.size<=maxLen/\(G b.AE)<=maxLen/\Nd.FY b.AE:=by cases b;simpa only[Nd.BX]using h
theorem Tm (b:Nd):b.cnt=1+Nd.Az b.AE:=by cases b;rfl
theorem ke (b:Nd):b.BR=Nd.deps b.AE+1:=by cases b;rfl
mutual
def Nd.Qb:Nd->Int->Int
 | ⟨_,_,_,AE⟩,m=>Nd.OO AE (m - 1)
def Nd.OO:List Nd->Int->Int
 | [],m=>m
 | b::l,m=>if 0<=m then Nd.OO l (b.Qb m)else m
end
mutual
theorem AAX : ∀(b:Nd) (m:Int),0<=m-> -1<=b.Qb m/\b.Qb m<=m/\(0<=b.Qb m->b.Qb m=m - b.cnt)/\((b.cnt:Int)<=m->0<=b.Qb m)
 | ⟨_,_,_,M⟩,m,Q=>by
   have:=AID M (m - 1);simp only[Nd.Qb,Nd.cnt];have B:=this Ux;refine⟨Ux,Ux,λh=>?_,λh=>?_⟩;have:=B.2.2.1 h;omega;exact B.2.2.2 Ux Ux
theorem AID : ∀(l:List Nd) (m:Int),-1<=m-> -1<=Nd.OO l m/\Nd.OO l m<=m/\(0<=Nd.OO l m->Nd.OO l m=m - Nd.Az l)/\((Nd.Az l:Int)<=m->0<=m->0<=Nd.OO l m)
 | [],m,q=>by simp only[Nd.OO,Nd.Az];omega
 | b::l,m,q=>by
   simp only[Nd.OO,Nd.Az];split;rename_i Q;have B:=AAX b m Q;have R:=AID l (b.Qb m) B.1;refine⟨Ux,Ux,λh=>?_,λh _=>?_⟩;have M:=R.2.2.1 h;have S:=B.2.2.1 Ux;omega;have M:=B.2.2.2 Ux;have S:=B.2.2.1 M;exact R.2.2.2 Ux M;refine⟨Ux,Ux,λh=>by omega,λh Q=>by omega⟩
end
theorem AUh (b:Nd)(m:Int)(M:0<=m):decide (0<=b.Qb m)=decide ((b.cnt:Int)<=m):=by
 have h:=AAX b m M;rw[Awi];constructor;intro B;have:=h.2.2.1 B;omega;exact h.2.2.2
def Nc (c:Int):Bool:=decide (97<=c/\c<=122) || decide (65<=c/\c<=90)
def NJ (c:Int):Bool:=decide (48<=c/\c<=57)
def Qm (c:Int):Bool:=decide (32<=c/\c<=126)
def Lq (s:ByteArray)(c:Int):Bool:=s.data.toList.any λb=>decide ((b.toNat:Int)=c)
def lP:ByteArray:=⟨#[43,45,42,47,61,60,62,44,59,58,33,124,39,63,126,64]⟩
def RX:ByteArray:=⟨#[40,41,91,93,123,125,124,60,62,47,46]⟩
def TC:ByteArray:=⟨#[40,41,91,93,123,125,60,62,47,124,46]⟩
def bT (c:Int):Bool:=Nc c || Lq lP c
def FC (p:Int->Bool)(s:ByteArray):Bool:=s.data.toList.all λb=>p b.toNat
def kQ:List ByteArray:=[⟨#[102,114,97,99]⟩,⟨#[114,111,111,116]⟩,⟨#[109,97,116,114,105,120]⟩,⟨#[102,101,110,99,101]⟩]
def N0:List ByteArray:=[⟨#[104,97,116]⟩,⟨#[98,97,114]⟩,⟨#[118,101,99]⟩,⟨#[100,111,116]⟩,⟨#[116,105,108,100,101]⟩,⟨#[99,104,101,99,107]⟩]
def NY (l:List ByteArray)(s:ByteArray):Bool:=l.any λt=>decide (t=s)
def Z1 (s:ByteArray):Bool:=if s.size=1 then FC bT s else FC Nc s && (decide (2<=s.size) && (decide (s.size<=16) && (!NY kQ s && !NY N0 s)))
def Mu (n:Nat):List UInt8->Nat->Int->Option Int
 | [],_,p=>J p
 | b::l,k,p=>if (b.toNat:Int)=46/\0<k/\k+1<n then Mu n l (k+1) (p+1)else if NJ b.toNat=I then Mu n l (k+1) p else E
def dj (s:ByteArray):Bool:=match Mu s.size s.data.toList 0 0 with
 | none=>U
 | some p=>decide (0<s.size) && (decide (s.size<=20) && decide (p<=1))
def Ug (s:ByteArray):Bool:=FC NJ s && !decide (s.size=0)
def AAn (s:ByteArray):Bool:=
 decide (s.size<=20) && (if 0<=EF s.data.toList 46 then Ug (s.extract 0 (EF s.data.toList 46).toNat) && Ug (s.extract ((EF s.data.toList 46).toNat+1) s.size)else Ug s)
def Ki (k:Int)(s:ByteArray):Bool:=
 if k=2 then Z1 s
 else if k=3 then dj s
 else if k=4 then decide (s.size<=200) && FC Qm s
 else if k=10 then NY N0 s
 else if k=11 then decide (s.size=2) && FC (Lq RX) s
 else decide (s=⟨#[]⟩)
def FL (k c:Int)(n:Nat):Bool:=
 if k=12 then decide (1<=c) && (decide (c<=16) && (decide (1<=n) && (decide (n<=256) && decide ((n:Int).tmod c=0))))
 else if c≠0 then U
 else if k=1 then decide (n<=200)
 else if k=2\/k=3\/k=4 then decide (n=0)
 else if k=5\/k=6\/k=7\/k=8 then decide (n=2)
 else if k=9 then decide (n=3)
 else if k=10\/k=11 then decide (n=1)
 else U
def Nd.Cl (b:Nd):Bool:=Ki b.kind b.text && FL b.kind b.AL (G b.AE)
def Pa (k k':Int):Bool:=decide (k'=1)==decide (k=1)
mutual
def Nd.Jb:Nd->Bool
 | ⟨k,t,c,AE⟩=>(Ki k t && FL k c (G AE)) && Nd.MY k AE
def Nd.MY (k:Int):List Nd->Bool
 | []=>I
 | b::l=>(!Pa k b.kind && b.Jb) && Nd.MY k l
end
def Nd.Ad (b:Nd):Bool:=decide (b.kind=1) && (b.Jb && (decide (b.cnt<=1000) && decide (b.BR<=24)))
theorem dg (b:Nd):b.Jb=(b.Cl && Nd.MY b.kind b.AE):=by cases b;simp only[Nd.Jb,Nd.Cl]
mutual
def Nd.pv (BR:Nat):Nd->Nat->Bool×Nat
 | ⟨k,t,c,AE⟩,n=>if 1000<n+1\/24<BR\/(Ki k t && FL k c (G AE))=U then(U,n+1)else Nd.HU (BR+1) k AE (n+1)
def Nd.HU (BR:Nat)(k:Int):List Nd->Nat->Bool×Nat
 | [],n=>(I,n)
 | b::l,n=>if Pa k b.kind=I then(U,n)else if (b.pv BR n).1=I then Nd.HU BR k l (b.pv BR n).2 else(U,(b.pv BR n).2)
end
mutual
theorem AAj (Q:Nat):∀(b:Nd) (n:Nat),(b.pv Q n).2<=n+b.cnt/\((b.pv Q n).1=I->(b.pv Q n).2=n+b.cnt)/\((b.pv Q n).1=I↔b.Jb=I/\n+b.cnt<=1000/\Q+b.BR<=25)
 | ⟨k,t,c,R⟩,n=>by
   have hk:=AIk (Q+1) k R (n+1);simp only[Nd.pv,Nd.cnt,Nd.Jb,Nd.BR];generalize hB:(Ki k t && FL k c (G R))=B;have hc:=SH R;split;rename_i M;refine⟨by simp only;omega,λh=>(by cases h),⟨λh=>(by cases h),λh=>?_⟩⟩;simp only[Ak]at h;rcases M with M|M|M
   omega;omega;rw[M]at h;cases h.1.1;rename_i M;have h1:B=true:=by cases B with
    | true=>rfl
    | false=>exact absurd (.inr (.inr F)) M
   refine⟨Ux,λh=>by have:=hk.2.1 h;omega,?_⟩;rw[hk.2.2,h1,Cd];have A0:Q<=24:=Hq λh=>M (.inr (.inl h))
   have A1:n+1<=1000:=Hq λh=>M (.inl h)
   constructor;rintro ⟨S,q,z⟩;refine⟨S,?_,?_⟩;rcases q with q|rfl
   omega;simp only[Nd.Az];omega;rcases z with rfl|z
   simp only[Nd.deps];omega;omega;rintro ⟨S,q,z⟩;exact⟨S,.inl Ux,.inr Ux⟩
theorem AIk (B:Nat)(k:Int):∀(l:List Nd) (n:Nat),(Nd.HU B k l n).2<=n+Nd.Az l/\((Nd.HU B k l n).1=I->(Nd.HU B k l n).2=n+Nd.Az l)/\((Nd.HU B k l n).1=I↔Nd.MY k l=I/\(n+Nd.Az l<=1000\/l=[])/\(l=[]\/B+Nd.deps l<=25))
 | [],n=>by simp[Nd.HU,Nd.Az,Nd.MY]
 | b::l,n=>by
   have z:=AAj B b n;have h2:=AIk B k l (b.pv B n).2;have hp:=ry b;simp only[Nd.HU,Nd.Az,Nd.MY,Nd.deps];by_cases R:Pa k b.kind=I;rw[Awd R,R];refine⟨by simp only;omega,λh=>(by cases h),⟨λh=>(by cases h),λh=>?_⟩⟩;simp at h;rw[Awf R];have qq:Pa k b.kind=false:=by simpa using R
   rw[qq,ly,Cd];split;rename_i S;have e:=z.2.1 S;rw[e]at h2;obtain⟨p1,p2,p3⟩:=z.2.2.1 S;rw[e];refine⟨Ux,λh=>by have:=h2.2.1 h;omega,?_⟩;rw[h2.2.2,p1,Cd];constructor;rintro ⟨q,M,Q⟩;refine⟨q,.inl ?_,.inr ?_⟩;rcases M with M|rfl
   omega;simp only[Nd.Az];omega;rcases Q with rfl|Q
   simp only[Nd.deps];omega;omega;rintro ⟨q,M,Q⟩;simp only[reduceCtorEq,Awj,false_or]at M Q;exact⟨q,.inl Ux,.inr Ux⟩;rename_i S;refine⟨by simp only;omega,λh=>(by cases h),⟨λh=>(by cases h),λh=>?_⟩⟩;simp only[Ak,reduceCtorEq,Awj,false_or]at h;exact absurd (z.2.2.2 ⟨h.1.1,Ux,Ux⟩) S
end
theorem AUj (b:Nd)(B:b.kind=1):(b.pv 1 0).1=b.Ad:=by
 have h:=(AAj 1 b 0).2.2;unfold Nd.Ad;rw[Oj,h];simp only[Ak,Awe];constructor;rintro ⟨a,b,c⟩;exact⟨B,a,Ux,Ux⟩;rintro ⟨_,a,b,c⟩;exact⟨a,Ux,Ux⟩
theorem r6 (n:Nat):∀(w r:List UInt8) (k:Nat) (p:Int),(∀b∈w,¬(b.toNat:Int)=46)->Mu n (w++r) k p=if w.all (λb=>NJ b.toNat)=I then Mu n r (k+G w) p else E
 | [],r,k,p,_=>ZA
 | b::w,r,k,p,h=>by
   have M:=h b GH;simp only[BK,Mu];rw[Awf (λe=>M e.1)];rw[r6 n w r (k+1) p (λx Q=>h x (Gk _ Q))];rw[BA,show k+1+G w=k+(G w+1)by omega];by_cases B:NJ b.toNat=I;rw[Awd B];simp only[Ep,B,Cd];rw[Awf B];simp[B]
theorem xI:NJ 46=false:=ZB
theorem AAk (n:Nat):∀(l:List UInt8) (k:Nat) (p q:Int),Mu n l k p=J q->p<=q/\((∃b∈l,(b.toNat:Int)=46)->p+1<=q)
 | [],k,p,q,h=>by simp[Mu]at h;subst h;simp
 | b::l,k,p,q,h=>by
   simp only[Mu]at h;split at h;rename_i Q;have:=(AAk n l (k+1) (p+1) q h).1;exact⟨Ux,λ_=>by omega⟩;split at h;rename_i M;have:=AAk n l (k+1) p q h;refine⟨this.1,λ⟨x,B,e⟩=>?_⟩;rcases Cf.1 B with rfl|B
   rw[e,xI]at M;cases M;exact this.2 ⟨x,B,e⟩;cases h
theorem kM : ∀(l:List UInt8) (c:UInt8),(EF l c= -1/\∀b∈l,b≠c)\/∃w r,l=w++c::r/\EF l c=G w/\∀b∈w,b≠c
 | [],c=>.inl ⟨rfl,ZA⟩
 | b::l,c=>by
   by_cases h:b=c;subst h;exact .inr ⟨[],l,rfl,by simp[EF],ZA⟩;rcases kM l c with ⟨M,Q⟩|⟨w,r,M,Q,R⟩
   refine .inl ⟨by simp[EF,h,M],λx B=>?_⟩;rcases Cf.1 B with rfl|B
   exact h;exact Q x B;refine .inr ⟨b::w,r,by rw[M];rfl,?_,λx B=>?_⟩;simp only[EF,beq_iff_eq,h,Awh,Q];rw[Awf Ux];simp;rcases Cf.1 B with rfl|B
   exact h;exact R x B
theorem rl {b:UInt8}(h:b≠46):¬(b.toNat:Int)=46:=λe=>h (ADb.1 (by have:(46:UInt8).toNat=46:=F;omega))
theorem ADv (p:Int->Bool)(s:ByteArray)(a e:Nat):FC p (s.extract a e)=((s.data.toList.drop a).take (e - a)).all λb=>p b.toNat:=by
 unfold FC;rw[ByteArray.data_extract,Array.toList_extract]
theorem AUl :AAn s=dj s:=by
 obtain⟨l,S⟩:=AI s.data.toList;have hs:s.size=G l:=by rw[<-S];simp
 unfold AAn dj;rw[S];rcases kM l 46 with ⟨M,h2⟩|⟨w,r,M,h2,h3⟩
 rw[M,Awf Ux];have R:=r6 s.size l [] 0 0 (λb B=>rl (h2 b B));rw[E5]at R;rw[R];unfold Ug FC;rw[S];cases l.all (λb=>NJ b.toNat)with
 | false=>simp
 | true=>simp only[Awg,Mu,Cd];rw[Oj];simp only[Ak,Awe,tl,decide_eq_false_iff_not,Cd,Cp,BA];omega
 rw[h2,Awd Ux];have hw : ∀b∈w,¬(b.toNat:Int)=46:=λb B=>rl (h3 b B)
 have Q:G l=G w+(G r+1):=by rw[M];simp
 rw[M,r6 s.size w (46::r) 0 0 hw];unfold Ug;rw[ADv,ADv,S,M];have e1:(((w++46::r).drop 0).take ((G w:Int).toNat - 0))=w:=ZA;have e2:(((w++46::r).drop ((G w:Int).toNat+1)).take (s.size - ((G w:Int).toNat+1)))=r:=by
  rw[hs,Q];have:(w++46::r).drop ((G w:Int).toNat+1)=r:=by
   rw[show (G w:Int).toNat+1=G w+1 by simp,List.drop_append];simp
  rw[this];exact Gl (by simp;omega)
 rw[e1,e2];have z1:(s.extract 0 (G w:Int).toNat).size=G w:=by rw[fg];simp;omega
 have z2:(s.extract ((G w:Int).toNat+1) s.size).size=G r:=by rw[fg];simp;omega
 rw[z1,z2];cases A1:w.all (λb=>NJ b.toNat)with
 | false=>simp
 | true =>
   rw[Awd rfl];simp only[Mu,Cz,Cd];by_cases c1:0<G w/\(G w)+1<s.size;rw[Awd ⟨ZB,c1⟩];have Jh:0<G r:=Ux;by_cases hr : ∀b∈r,b≠46;have R:=r6 s.size r [] (G w+1) 1 (λb B=>rl (hr b B));rw[E5]at R;rw[show (0:Int)+1=1 from rfl,R];cases r.all (λb=>NJ b.toNat)with
   | false=>simp
   | true=>simp only[Awg,Mu];rw[Oj];simp only[Ak,Awe,tl,decide_eq_false_iff_not,Cd,Cp,BA];omega
   have hx : ∃b∈r,(b.toNat:Int)=46:=by
    simp only[ne_eq,Classical.not_forall,Classical.not_not]at hr;obtain⟨b,B,rfl⟩:=hr;exact⟨_,B,F⟩
   have hd:r.all (λb=>NJ b.toNat)=false:=by
    obtain⟨b,B,e⟩:=hx;rw[List.all_eq_false];exact⟨b,B,by rw[e,xI];simp⟩
   rw[hd];simp only[D4,LV];cases hf:Mu s.size r (G w+1) (0+1)with
   | none=>rfl
   | some q=>have:=(AAk _ _ _ _ _ hf).2 hx;simp;omega
   rw[Awf (λh=>c1 h.2)];have A0:((46:UInt8).toNat:Int)=46:=F;rw[A0,xI];have z:G w=0\/G r=0:=Ux;rcases z with z|z<;>simp only[z,GW,Awh,decide_true,tv,LV,D4]
theorem bS {s:ByteArray}(h:k<s.size):∃b,s.data.toList[k]?=J b/\s.data[k]?=J b/\s.data.toList.drop k=b::s.data.toList.drop (k+1)/\(k:Int)<(s.size:Int)/\(b.toNat<256):=by
 have B:k<G s.data.toList:=by simpa using h
 refine⟨s.data.toList[k],BE B,?_,D5 B,Ux,UInt8.toNat_lt _⟩;rw[<-VZ];exact BE B
theorem ij {s:ByteArray}(h : ¬k<s.size):s.data.toList.drop k=[]:=FA (by simp;omega)
theorem AYx (w:World):Calls AF 205 #[.string s,.int .u8 c] w λe w'=>e=.returned (.int .i64 (EF s.data.toList c.toNat.toUInt8))/\w'=w:=by
 go_enter func205,ntmps205;go_wp2;rw[run_callFunc_extern func257 ZC ZC ZC (e:=AMT) ZC,Lib.run_indexByteString];simp only[Result.andThen];rw[Oper.upon_value];go_wp2;go_ret;exact⟨F,F⟩
theorem ATS (l:List UInt8)(c:UInt8)(h:G l<=maxLen):(Lit.int .i64 (EF l c)).wf=true:=by
 have S:=Lib.indexByte_ge l c;have q:EF l c<=(G l:Int):=by
  rcases kM l c with ⟨e,_⟩|⟨w,r,Q,R,_⟩
  omega;have:G l=G w+(G r+1):=by rw[Q];simp
  omega
 have B:AZ.min= -9223372036854775808:=by decide +kernel
 have M:AZ.max=9223372036854775807:=by decide +kernel
 unfold maxLen at h;simp[Lit.wf,B,M];omega
theorem AKz :AC AF 205 [.c (.str s),.c (.int .u8 c)] (EF s.data.toList c.toNat.toUInt8:Int):=by
 intro S w us R B;simp only[AO,CV,Ab]at B;obtain⟨u,z,rfl,⟨rfl,M⟩,q,Q,rfl,⟨rfl,_⟩,rfl⟩:=B;refine(AYx _ _ w).mono ?_;rintro e w' ⟨rfl,rfl⟩;exact⟨_,S,F,Ay.refl _,Ar.refl _ _,λb j h=>.inl h,by simp only[CV,Ab];exact⟨W,ATS _ _ (by simpa using M)⟩⟩
theorem AYS :AC AF 161 [.c (.str s),.c (.int .u8 c)] (EF s.data.toList c.toNat.toUInt8:Int):=by
 have h:=AKz s c;refine en func161 ntmps161 ?_;exact wz results161 (cj h<|trivial)
theorem AKc (s t:ByteArray)(b:UInt8)(h1:t.size=1)(hb:t.data.toList[0]?=J b):AC AF 256 [.c (.str s),.c (.str t)] (EF s.data.toList b:Int):=by
 have Q:=AKz s b.toNat;rw[show ((b.toNat:Int)).toNat.toUInt8=b by simp]at Q;have S:t.data[0]?=J b:=by rw[<-VZ];exact hb
 have M:(t.size:Int)=1:=Ux;have q:t=s->EF s.data.toList b=0:=λe=>by
  subst e;cases R:t.data.toList with
  | nil=>rw[R]at hb;simp at hb
  | cons c r=>rw[R]at hb;simp at hb;subst hb;simp[EF]
 by_cases B:t=s;have z:=q B;subst B;refine en AKA ARH ?_;exact wz (cj2 @M @z aU) W;refine en AKA ARH ?_;exact wz (cj4 @M @hb @S @B aU) (cj Q<|trivial)
theorem AYT (s t:ByteArray)(b:UInt8)(B:t.size=1)(hb:t.data.toList[0]?=J b):AC AF 203 [.c (.str s),.c (.str t)] (EF s.data.toList b:Int):=by
 have h:=AKc s t b B hb;refine en func203 ntmps203 ?_;exact wz results203 (cj h<|trivial)
theorem AHs (l:List UInt8)(c:UInt8):decide (0<=EF l c)=l.any λb=>decide ((b.toNat:Int)=(c.toNat:Int)):=by
 rw[Oj,decide_eq_true_iff,List.any_eq_true];have e : ∀b:UInt8,((b.toNat:Int)=(c.toNat:Int))↔b=c:=λb=>⟨λh=>ADb.1 Ux,λh=>by rw[h]⟩
 simp only[Awe,e];rcases kM l c with ⟨B,M⟩|⟨w,r,B,M,_⟩
 rw[B];exact⟨λh=>by omega,λ⟨x,Q,e⟩=>absurd e (M x Q)⟩;rw[M];exact⟨λ_=>⟨c,by rw[B];simp,rfl⟩,λ_=>by omega⟩
theorem AYP (s t:ByteArray)(b:UInt8)(B:t.size=1)(hb:t.data.toList[0]?=J b):AC AF 157 [.c (.str s),.c (.str t)] (.c (.bool (Lq s b.toNat))):=by
 have h:=AYT s t b B hb;have e:Lq s b.toNat=decide (0<=EF s.data.toList b):=(AHs _ _).symm;rw[e];refine en func157 ntmps157 ?_;exact wz results157 (cj h<|trivial)
def im (s:ByteArray)(b:UInt8):V:=
 if 0<=EF s.data.toList b then .A7 [.c (.str (s.extract 0 (EF s.data.toList b).toNat)),.c (.str (s.extract ((EF s.data.toList b).toNat+1) s.size)),.c (.bool I)]
 else .A7 [.c (.str s),.c (.str ⟨#[]⟩),.c (.bool U)]
theorem AYQ (s t:ByteArray)(b:UInt8)(hs:s.size<=maxLen)(R:t.size=1)(hb:t.data.toList[0]?=J b):AC AF 204 [.c (.str s),.c (.str t)] (im s b):=by
 unfold maxLen at hs;have B:=AKc s t b R hb;have Q:(t.size:Int)=1:=Ux;unfold im;rcases kM s.data.toList b with ⟨M,_⟩|⟨w,r,M,S,_⟩
 rw[M]at B ⊢;rw[Awf Ux];refine en func204 ntmps204 ?_;exact wz (cj @Q<|results204) (cj B<|trivial);have hl:s.size=G w+(G r+1):=by
  have:G s.data.toList=G w+(G r+1):=by rw[M];simp
  simpa using this
 rw[S]at B ⊢;rw[Awd Ux];have q1:(0:Int)<=(G w:Int):=Ux;have q2:(G w:Int)<=(s.size:Int):=Ux;have q:(G w:Int)+1<=(s.size:Int):=Ux;have z:G w<=s.size:=Ux;have q5:((G w:Int)+1).toNat=G w+1:=Ux;have q6:(0:Int)<=(G w:Int)+1:=Ux;rw[show (G w:Int).toNat=G w by simp];refine en func204 ntmps204 ?_;exact wz (cj7 @Q @q1 @q2 @q @z @q5 @q6 results204) (cj B<|trivial)
theorem AYR (s t:ByteArray)(b:UInt8)(hs:s.size<=maxLen)(M:t.size=1)(hb:t.data.toList[0]?=J b):AC AF 159 [.c (.str s),.c (.str t)] (im s b):=by
 have h:=AYQ s t b hs M hb;unfold im at h ⊢;split at h;rename_i B;rw[Awd B];refine en func159 ntmps159 ?_;exact wz results159 (cj h<|trivial);rename_i B;rw[Awf B];refine en func159 ntmps159 ?_;exact wz results159 (cj h<|trivial)
theorem AVl : ∀b:Fin 256,Nc (b.val:Int)=(decide (97<=Zg .u8 (b.val:Int) 32) && decide (Zg .u8 (b.val:Int) 32<=122)):=by decide +kernel
theorem AWa (hs:s.size<=maxLen):AC AF 156 [.c (.str s)] (.c (.bool (FC Nc s))):=by
 unfold maxLen at hs;refine en func156 ntmps156 ?_;refine wy gz trivial ⟨?_⟩;refine CX (ι:={ k:Nat // k<=s.size/\FC Nc s=(s.data.toList.drop k).all λb=>Nc b.toNat }) (λk=>[(2,.c (.bool U)),(3,(k.1:Int))]) (λ_=>[]) (λk=>s.size - k.1) ⟨0,by simp[FC]⟩ ?_ ?_;exact DH;rintro ⟨k,hk,M⟩;simp only;by_cases B:k<s.size;obtain⟨b,hb,CT,hd,q,R⟩:=bS B;rw[hd,Ep]at M;have z:=AVl ⟨b.toNat,R⟩;simp only at z;obtain⟨c,hc⟩:∃c:Int,(b.toNat:Int)=c:=⟨_,rfl⟩
 rw[hc]at M z;rw[z]at M;obtain⟨d,Q⟩:=AI (Zg .u8 c 32);rw[Q]at M;clear z;by_cases h:97<=d/\d<=122;rw[Awk h.1,Awk h.2,Cd,Cd]at M;refine wy (cj @B<|cj @q<|cj @hb<|cj @CT<|cj @hc<|cj @Q<|cj (h.1)<|cj (h.2)<|gz) trivial ⟨?_⟩;exact⟨⟨k+1,Ux,M⟩,by simp only;omega,wd 0⟩;have A0:FC Nc s=false:=by
  rw[M];by_cases S:97<=d;rw[Awl (λe=>h ⟨S,e⟩),LV,D4];rw[Awl S,D4,D4]
 clear M;exact wz (cj6 @B @q @hb @CT @hc @Q gz) W;rw[ij B]at M;have q : ¬(k:Int)<(s.size:Int):=Ux;exact wz (cj2 @B @q gz) W
theorem AYu :decide (s=⟨#[]⟩)=decide (s.size=0):=by
 rw[Awi];exact⟨λh=>by rw[h];rfl,λh=>by
  cases s with
  | mk d=>congr 1;exact Array.eq_empty_of_size_eq_zero h⟩
theorem AA7 (hs:s.size<=maxLen):AC AF 160 [.c (.str s)] (.c (.bool (Ug s))):=by
 have z:=AYu s;unfold maxLen at hs;unfold Ug;rw[<-z];refine en func160 ntmps160 ?_;refine wy Aio trivial ⟨?_⟩;refine CX (ι:={ k:Nat // k<=s.size/\FC NJ s=(s.data.toList.drop k).all λb=>NJ b.toNat }) (λk=>[(2,.c (.bool U)),(3,(k.1:Int))]) (λ_=>[]) (λk=>s.size - k.1) ⟨0,by simp[FC]⟩ ?_ ?_;exact DH;rintro ⟨k,hk,M⟩;simp only;by_cases B:k<s.size;obtain⟨b,q,S,hd,Q,_⟩:=bS B;rw[hd,Ep]at M;obtain⟨c,R⟩:∃c:Int,(b.toNat:Int)=c:=⟨_,rfl⟩
 rw[R]at M;cases e:NJ c with
 | true=>rw[e,Cd]at M;simp[NJ]at e;refine wy (cj @B<|cj @Q<|cj @q<|cj @S<|cj @R<|cj (e.1)<|cj (e.2)<|Aio) trivial ⟨?_⟩;exact⟨⟨k+1,Ux,M⟩,by simp only;omega,wd 0⟩
 | false=>rw[e,D4]at M;simp[NJ]at e;exact wz (cj5 @B @Q @q @S @R Aio) W
 rw[ij B,Nq]at M;rw[M,Cd];have Q : ¬(k:Int)<(s.size:Int):=Ux;exact wz (cj2 @B @Q Aio) W
theorem AW5 (hs:s.size<=maxLen):AC AF 122 [.c (.str s)] (.c (.bool (decide (s.size<=200) && FC Qm s))):=by
 unfold maxLen at hs;refine en func122 ntmps122 ?_;refine wy AbK trivial ⟨?_⟩;refine CX (ι:={ k:Nat // k<=s.size/\FC Qm s=(s.data.toList.drop k).all λb=>Qm b.toNat }) (λk=>[(2,.c (.bool U)),(3,(k.1:Int))]) (λ_=>[]) (λk=>s.size - k.1) ⟨0,by simp[FC]⟩ ?_ ?_;exact DH;rintro ⟨k,hk,M⟩;simp only;by_cases B:k<s.size;obtain⟨b,q,S,z,Q,_⟩:=bS B;rw[z,Ep]at M;obtain⟨c,R⟩:∃c:Int,(b.toNat:Int)=c:=⟨_,rfl⟩
 rw[R]at M;cases e:Qm c with
 | true=>rw[e,Cd]at M;simp[Qm]at e;refine wy (cj @B<|cj @Q<|cj @q<|cj @S<|cj @R<|cj (e.1)<|cj (e.2)<|AbK) trivial ⟨?_⟩;exact⟨⟨k+1,Ux,M⟩,by simp only;omega,wd 0⟩
 | false=>rw[e,D4]at M;simp[Qm]at e;rw[M,LV];exact wz (cj5 @B @Q @q @S @R AbK) W
 rw[ij B,Nq]at M;rw[M,Km];have Q : ¬(k:Int)<(s.size:Int):=Ux;have e:((s.size:Int)<=200)=(s.size<=200):=by rw[Awm];omega
 exact wz (cj3 @B @Q @e AbK) W
theorem AJF :AC AF 123 [.c (.str s)] (.c (.bool (NY N0 s))):=by
 have e:NY N0 s=(decide (s=⟨#[104,97,116]⟩) || (decide (s=⟨#[98,97,114]⟩) || (decide (s=⟨#[118,101,99]⟩) || (decide (s=⟨#[100,111,116]⟩) || (decide (s=⟨#[116,105,108,100,101]⟩) || decide (s=⟨#[99,104,101,99,107]⟩)))))):=by
  simp only[NY,N0,mP,mQ,lz,@eq_comm _ _ s]
 rw[e];refine en func123 ntmps123 ?_;exact wz results123 W
theorem AWP :AC AF 158 [.c (.str s)] (.c (.bool (NY kQ s))):=by
 have e:NY kQ s=(decide (s=⟨#[102,114,97,99]⟩) || (decide (s=⟨#[114,111,111,116]⟩) || (decide (s=⟨#[109,97,116,114,105,120]⟩) || decide (s=⟨#[102,101,110,99,101]⟩)))):=by
  simp only[NY,kQ,mP,mQ,lz,@eq_comm _ _ s]
 rw[e];refine en func158 ntmps158 ?_;exact wz results158 W
theorem AV7 :AC AF 119 [.c (.str s)] (.c (.bool (decide (s=⟨#[]⟩)))):=by
 refine en func119 ntmps119 ?_;exact wz results119 W
theorem AWo (hs:s.size<=maxLen):AC AF 120 [.c (.str s)] (.c (.bool (Z1 s))):=by
 have M:=AWa s hs;have h2:=AWP s;have h3:=AJF s;unfold maxLen at hs;unfold Z1;by_cases g:s.size=1;rw[Awd g];obtain⟨b,hb,CT,hd,_,_⟩:=bS (s:=s) (k:=0) Ux;rw[B9]at hd;rw[ij Ux]at hd;have S:FC Nc s=Nc b.toNat:=by unfold FC;rw[hd];simp
 have q:FC bT s=(Nc b.toNat || Lq lP b.toNat):=by unfold FC;rw[hd];simp[bT]
 have h4:=AYP lP s b g hb;unfold lP at *
 rw[q];rw[S]at M;have Q:(s.size:Int)=1:=Ux;cases z:Nc b.toNat with
 | true=>rw[z]at M;refine en APK AQC ?_;exact wz (cj @Q<|gb) (cj M<|trivial)
 | false=>rw[z]at M;refine en APK AQC ?_;exact wz (cj @Q<|gb) (cj2 M h4 W)
 . rw[Awf g];have Q : ¬(s.size:Int)=1:=Ux;have S:((s.size:Int)<=16)=(s.size<=16):=by rw[Awm];omega
   have q:((2:Int)<=(s.size:Int))=(2<=s.size):=by rw[Awm];omega
   obtain⟨A,hA⟩:=AI (FC Nc s);obtain⟨B,hB⟩:=AI (NY kQ s);obtain⟨D,hD⟩:=AI (NY N0 s);rw[hA]at M ⊢;rw[hB]at h2 ⊢;rw[hD]at h3 ⊢;clear hA hB hD;by_cases R:2<=s.size
   . by_cases g2:s.size<=16
     . rw[Awk R,Awk g2];cases A<;>cases B<;>cases D;all_goals
        refine en APK AQC ?_;exact wz (cj5 @Q @S @q @R @g2 gb) (cj3 M h2 h3 W)
     rw[Awk R,Awl g2,D4,LV,LV];refine en APK AQC ?_;exact wz (cj5 @Q @S @q @R @g2 gb) W
   rw[Awl R,D4,LV];refine en APK AQC ?_;exact wz (cj4 @Q @S @q @R gb) W
theorem AFM (a e:Nat)(h:s.size<=maxLen):(s.extract a e).size<=maxLen:=by
 rw[fg];omega
theorem AWn (hs:s.size<=maxLen):AC AF 121 [.c (.str s)] (.c (.bool (dj s))):=by
 have B:=AYR s ⟨#[46]⟩ 46 hs rfl F;have R:=AA7 s hs;rw[<-AUl];unfold AAn;unfold im at B;have M:((s.size:Int)<=20)=(s.size<=20):=by rw[Awm];omega
 by_cases g:s.size<=20;rw[Awk g,Cd];by_cases c:0<=EF s.data.toList 46;rw[Awd c]at B ⊢;have Q:=AA7 (s.extract 0 (EF s.data.toList 46).toNat) (AFM _ _ _ hs);have S:=AA7 (s.extract ((EF s.data.toList 46).toNat+1) s.size) (AFM _ _ _ hs);obtain⟨X,q⟩:=AI (s.extract 0 (EF s.data.toList 46).toNat);obtain⟨Y,z⟩:=AI (s.extract ((EF s.data.toList 46).toNat+1) s.size);rw[q]at B Q ⊢;rw[z]at B S ⊢;cases D:Ug X with
 | true=>rw[D]at Q;refine en ADq AGr ?_;exact wz (cj2 @M @g AbH) (cj3 B Q S W)
 | false=>rw[D]at Q;refine en ADq AGr ?_;exact wz (cj2 @M @g AbH) (cj2 B Q W)
 rw[Awf c]at B ⊢;cases D:Ug s with
 | true=>rw[D]at R;refine en ADq AGr ?_;exact wz (cj2 @M @g AbH) (cj2 B R W)
 | false=>rw[D]at R;refine en ADq AGr ?_;exact wz (cj2 @M @g AbH) (cj2 B R W)
 rw[Awl g,D4];by_cases c:0<=EF s.data.toList 46;rw[Awd c]at B;refine en ADq AGr ?_;exact wz (cj2 @M @g AbH) (cj B<|trivial);rw[Awf c]at B;refine en ADq AGr ?_;exact wz (cj2 @M @g AbH) (cj B<|trivial)
theorem AOu :Lq RX c=Lq TC c:=by
 rw[Oj];simp[Lq,RX,TC];omega
theorem AJY (b:UInt8):AC AF 161 [.c (.str s),.c (.int .u8 b.toNat)] (EF s.data.toList b:Int):=by
 have h:=AYS s b.toNat;rwa [show ((b.toNat:Int)).toNat.toUInt8=b by simp]at h
theorem AWm :AC AF 124 [.c (.str s)] (.c (.bool (decide (s.size=2) && FC (Lq RX) s))):=by
 by_cases g:s.size=2;obtain⟨Q,S,q,z,c4,_⟩:=bS (s:=s) (k:=0) Ux;obtain⟨d0,d1,d2,d3,d4,_⟩:=bS (s:=s) (k:=1) Ux;have R : ∀b:UInt8,Lq RX b.toNat=decide (0<=EF TC.data.toList b):=λb=>by rw[AOu];exact(AHs _ _).symm
 have hR:FC (Lq RX) s=(decide (0<=EF TC.data.toList Q) && decide (0<=EF TC.data.toList d0)):=by
  unfold FC;rw[B9]at z;rw[z,d3,ij Ux,Ep,Ep,Nq,Km,R,R]
 have q1:=AJY TC Q;have q2:=AJY TC d0;rw[Awk g,Cd,hR];have B:(s.size:Int)=2:=Ux;obtain⟨X,hX⟩:=AI (EF TC.data.toList Q);obtain⟨Y,hY⟩:=AI (EF TC.data.toList d0);rw[hX]at q1 ⊢;rw[hY]at q2 ⊢;unfold TC at *
 clear R hR hX hY;by_cases M:0<=X;rw[Awk M,Cd];refine en JV JW ?_;exact wz (cj6 @B @S @q @d1 @d2 @M JX) (cj2 q1 q2 W);rw[Awl M,D4];refine en JV JW ?_;exact wz (cj6 @B @S @q @d1 @d2 @M JX) (cj q1<|trivial);rw[Awl g,D4];have B : ¬(s.size:Int)=2:=Ux;refine en JV JW ?_;exact wz (cj @B<|JX) W
def rU:List V:=[.c (.str ⟨#[]⟩),.c (.int .i64 0),.c .Cv,
 .c (.str ⟨#[114,111,119]⟩),.c (.int .i64 0),.fn 119 [],
 .c (.str ⟨#[115,121,109]⟩),.c (.int .i64 0),.fn 120 [],
 .c (.str ⟨#[110,117,109]⟩),.c (.int .i64 0),.fn 121 [],
 .c (.str ⟨#[116,101,120,116]⟩),.c (.int .i64 0),.fn 122 [],
 .c (.str ⟨#[102,114,97,99]⟩),.c (.int .i64 2),.fn 119 [],
 .c (.str ⟨#[114,111,111,116]⟩),.c (.int .i64 2),.fn 119 [],
 .c (.str ⟨#[115,117,98]⟩),.c (.int .i64 2),.fn 119 [],
 .c (.str ⟨#[115,117,112]⟩),.c (.int .i64 2),.fn 119 [],
 .c (.str ⟨#[98,111,116,104]⟩),.c (.int .i64 3),.fn 119 [],
 .c (.str ⟨#[97,99,99,101,110,116]⟩),.c (.int .i64 1),.fn 123 [],
 .c (.str ⟨#[102,101,110,99,101]⟩),.c (.int .i64 1),.fn 124 [],
 .c (.str ⟨#[109,97,116,114,105,120]⟩),.c (.int .i64 0),.fn 119 []]
theorem AWQ:AC AF 81 [] (.agg rU):=by
 unfold rU;refine en func81 ntmps81 ?_;exact wz results81 W
theorem o5 {s:ByteArray}(h:k<s.size):∃b,s.data.toList[k]?=J b/\s.data[k]?=J b/\s.data.toList.drop k=b::s.data.toList.drop (k+1)/\(k:Int)<(s.size:Int)/\(b.toNat<256):=by
 have B:k<G s.data.toList:=by simpa using h
 refine⟨s.data.toList[k],BE B,?_,D5 B,Ux,UInt8.toNat_lt _⟩;rw[<-VZ];exact BE B
theorem ACW {s:ByteArray}(h : ¬k<s.size):s.data.toList.drop k=[]:=FA (by simp;omega)
theorem Ajf :AC AF 148 [.c (.int .u8 c)] (.c (.bool (Nc c))):=by
 refine en func148 ntmps148 ?_;exact wz (cj @Nc.eq_1<|results148) W
theorem Amt :AC AF 150 [.c (.int .u8 c)] (.c (.bool (NJ c))):=by
 refine en func150 ntmps150 ?_;exact wz (cj @NJ.eq_1<|results150) W
theorem AXr (hs:s.size<=maxLen):AC AF 111 [.c (.str s),.c (.int .u8 c)] (.c (.bool (Lq s c))):=by
 unfold maxLen at hs;refine en func111 ntmps111 ?_;refine wy ANk trivial ⟨?_⟩;refine CX (ι:={ k:Nat // k<=s.size/\Lq s c=(s.data.toList.drop k).any λb=>decide ((b.toNat:Int)=c) }) (λk=>[(4,.c (.bool U)),(5,(k.1:Int))]) (λ_=>[]) (λk=>s.size - k.1) ⟨0,by simp[Lq]⟩ ?_ ?_;exact DH;rintro ⟨k,z,M⟩;simp only;by_cases B:k<s.size;obtain⟨b,S,R,q,Q,_⟩:=o5 B;rw[q,mP]at M;by_cases h:(b.toNat:Int)=c;rw[Awk h,Bool.true_or]at M;exact wz (cj5 @B @Q @S @R @h ANk) W;rw[Awl h,tf]at M;refine wy (cj5 @B @Q @S @R @h ANk) trivial ⟨?_⟩;exact⟨⟨k+1,Ux,M⟩,by simp only;omega,wd 0⟩;rw[ACW B]at M;have Q : ¬(k:Int)<(s.size:Int):=Ux;exact wz (cj2 @B @Q ANk) W
theorem Amh :AC AF 147 [.c (.int .u8 c)] (.c (.bool (bT c))):=by
 have B:=Ajf c;have Q:=AXr lP c (by unfold maxLen;decide);unfold bT;unfold lP at *
 cases M:Nc c with
 | true=>rw[M]at B;refine en func147 ntmps147 ?_;exact wz results147 (cj B<|trivial)
 | false=>rw[M]at B;refine en func147 ntmps147 ?_;exact wz results147 (cj2 B Q W)
def AES (l:List ByteArray):C:=.sl (l.map λt=>[.str t])
theorem AYB (l:List ByteArray)(s:ByteArray)(hl:G l<=1000000):AC AF 109 [.c (AES l),.c (.str s)] (.c (.bool (NY l s))):=by
 obtain⟨z,S⟩:=AI ((l.map λt=>[C.str t]));have Q:G z=G l:=by rw[<-S,Ch]
 unfold AES;rw[S];refine en func109 ntmps109 ?_;refine wy (cj @Q<|AbG) trivial ⟨?_⟩;refine CX (ι:={ k:Nat // k<=G l/\NY l s=NY (l.drop k) s }) (λk=>[(4,.c (.bool U)),(5,(k.1:Int))]) (λ_=>[]) (λk=>G l - k.1) ⟨0,ZA⟩ ?_ ?_;exact DH;rintro ⟨k,hk,M⟩;simp only;by_cases B:k<G l;obtain⟨t,ht⟩:∃t,l[k]?=J t:=⟨_,BE B⟩
 have R:z[k]?=J [C.str t]:=by rw[<-S,CM,ht];rfl
 have Dp:k<G z:=Ux;have Bu:=gx R;rw[D5 B,gx ht]at M;have q:NY (t::l.drop (k+1)) s=(decide (t=s) || NY (l.drop (k+1)) s):=F;rw[q]at M;by_cases h:t=s;rw[Awk h,Bool.true_or]at M;exact wz (cj6 @Q @B @Dp @R @Bu @h AbG) W;rw[Awl h,tf]at M;refine wy (cj6 @Q @B @Dp @R @Bu @h AbG) trivial ⟨?_⟩;exact⟨⟨k+1,Ux,M⟩,by simp only;omega,wd 0⟩;rw[FA Ux]at M;have e:NY [] s=false:=F;rw[e]at M;exact wz (cj2 @Q @B AbG) W
theorem AjY:AC AF 110 [] (.c (AES N0)):=by
 refine en func110 ntmps110 ?_;exact wz (cj2 @AES.eq_1 @N0.eq_1 results110) W
theorem Amz:AC AF 149 [] (.c (AES kQ)):=by
 refine en func149 ntmps149 ?_;exact wz (cj2 @AES.eq_1 @kQ.eq_1 results149) W
theorem AnE (hs:s.size<=maxLen):AC AF 108 [.c (.str s)] (.c (.bool (FC Qm s))):=by
 unfold maxLen at hs;refine en func108 ntmps108 ?_;refine wy Aii trivial ⟨?_⟩;refine CX (ι:={ k:Nat // k<=s.size/\FC Qm s=(s.data.toList.drop k).all λb=>Qm b.toNat }) (λk=>[(2,.c (.bool U)),(3,(k.1:Int))]) (λ_=>[]) (λk=>s.size - k.1) ⟨0,by simp[FC]⟩ ?_ ?_;exact DH;rintro ⟨k,hk,M⟩;simp only;by_cases B:k<s.size;obtain⟨b,q,S,z,Q,_⟩:=o5 B;rw[z,Ep]at M;obtain⟨c,R⟩:∃c:Int,(b.toNat:Int)=c:=⟨_,rfl⟩
 rw[R]at M;cases e:Qm c with
 | true=>rw[e,Cd]at M;simp[Qm]at e;refine wy (cj @B<|cj @Q<|cj @q<|cj @S<|cj @R<|cj (e.1)<|cj (e.2)<|Aii) trivial ⟨?_⟩;exact⟨⟨k+1,Ux,M⟩,by simp only;omega,wd 0⟩
 | false=>rw[e,D4]at M;simp[Qm]at e;exact wz (cj5 @B @Q @q @S @R Aii) W
 rw[ACW B]at M;have Q : ¬(k:Int)<(s.size:Int):=Ux;exact wz (cj2 @B @Q Aii) W
theorem Anm (hs:s.size<=maxLen):AC AF 106 [.c (.str s)] (.c (.bool (Z1 s))):=by
 unfold maxLen at hs;have k1:=Amz;have k2:=AjY;have i1:=AYB kQ s ZB;have i2:=AYB N0 s ZB;by_cases h1:s.size=1;obtain⟨b,z,q,hd,Q,_⟩:=o5 (s:=s) (k:=0) Ux;have e:Z1 s=bT b.toNat:=by
  unfold Z1 FC;rw[Awd h1];rw[B9]at hd;rw[hd,ACW Ux,Ep,Nq,Km]
 rw[e];have S:=Amh b.toNat;have Jc:(s.size:Int)=1:=Ux;refine en Sq nO ?_;exact wz (cj3 @Jc @z @q nW) (cj S<|trivial);have Jc : ¬(s.size:Int)=1:=Ux;have e:Z1 s=(FC Nc s && (decide (2<=s.size) && (decide (s.size<=16) && (!NY kQ s && !NY N0 s)))):=Awf h1;rw[e];refine en Sq nO ?_;refine wy (cj @Jc<|nW) trivial ⟨?_⟩;refine CX (ι:={ k:Nat // k<=s.size/\FC Nc s=(s.data.toList.drop k).all λb=>Nc b.toNat }) (λk=>[(2,.c (.bool U)),(3,(k.1:Int))]) (λ_=>[]) (λk=>s.size - k.1) ⟨0,by simp[FC]⟩ ?_ ?_;exact DH;rintro ⟨k,hk,M⟩;simp only;by_cases B:k<s.size;obtain⟨b,z,q,hd,Q,_⟩:=o5 B;rw[hd,Ep]at M;obtain⟨c,S⟩:∃c:Int,(b.toNat:Int)=c:=⟨_,rfl⟩
 rw[S]at M;have hl:=Ajf c;cases e:Nc c with
 | true=>rw[e,Cd]at M;rw[e]at hl;refine wy (cj5 @B @Q @z @q @S nW) (cj hl<|trivial) ⟨?_⟩;exact⟨⟨k+1,Ux,M⟩,by simp only;omega,wd 0⟩
 | false=>rw[e,D4]at M;rw[e]at hl;exact wz (cj5 @B @Q @z @q @S nW) (cj hl<|trivial)
 rw[ACW B]at M;rw[Nq]at M;rw[M,Cd];have Q : ¬(k:Int)<(s.size:Int):=Ux;by_cases g1:2<=s.size;by_cases g2:s.size<=16;have R:(2:Int)<=(s.size:Int):=Ux;have xe:(s.size:Int)<=16:=Ux;rw[Awk g1,Awk g2,Cd,Cd];exact wz (cj4 @B @Q @R @xe nW) (cj4 k1 k2 i1 i2 W);have R:(2:Int)<=(s.size:Int):=Ux;have xe : ¬(s.size:Int)<=16:=Ux;rw[Awk g1,Awl g2,Cd,D4];exact wz (cj4 @B @Q @R @xe nW) W;have R : ¬(2:Int)<=(s.size:Int):=Ux;rw[Awl g1,D4];exact wz (cj3 @B @Q @R nW) W
theorem AnA (hs:s.size<=maxLen):AC AF 107 [.c (.str s)] (.c (.bool (dj s))):=by
 unfold maxLen at hs;obtain⟨R,hR⟩:=AI (dj s);rw[hR];refine en func107 ntmps107 ?_;refine wy vH trivial ⟨?_⟩;refine CX (ι:={ k:Nat×Nat // k.1<=s.size/\k.2<=k.1/\R=(match Mu s.size (s.data.toList.drop k.1) k.1 k.2 with|none=>U|some p=>decide (0<s.size) && (decide (s.size<=20) && decide (p<=1))) }) (λk=>[(2,.c (.bool U)),(3,(k.1.2:Int)),(4,(k.1.1:Int))]) (λ_=>[]) (λk=>s.size - k.1.1) ⟨(0,0),ZA,ZA,by rw[<-hR];rfl⟩ ?_ ?_;exact DH
 . rintro ⟨⟨k,p⟩,hk,hp,B⟩;simp only at hk hp B ⊢;by_cases M:k<s.size
   . obtain⟨b,hb,CT,hd,S,_⟩:=o5 M;rw[hd]at B;simp only[Mu]at B;obtain⟨c,q⟩:∃c:Int,(b.toNat:Int)=c:=⟨_,rfl⟩
     rw[q]at B;have z:=Amt c;by_cases g:c=46/\0<k/\k+1<s.size;rw[Awd g]at B;obtain⟨g1,g2,g3⟩:=g;have xe:(0:Int)<(k:Int):=Ux;have A0:(k:Int)<(s.size:Int) - 1:=Ux;refine wy (cj8 @M @S @hb @CT @q @g1 @xe @A0 vH) trivial ⟨?_⟩;exact⟨⟨(k+1,p+1),by simp only;omega,by simp only;omega,by rw[B];rfl⟩,by simp only;omega,wd 0⟩
     . rw[Awf g]at B;cases e:NJ c with
       | true =>
         rw[Awd e]at B;rw[e]at z;have Q:=(cj5 @M @S @hb @CT @q vH)
         have cc:=(cj z<|trivial)
         repeat any_goals (first|refine Du Q cc ⟨?_⟩|exact Bt Q|(refine Dv Q ?_ ?_<;>intro h<;>try exact Dw))
         all_goals first
          | (exfalso;simp at *;omega)
          | exact⟨⟨(k+1,p),by simp only;omega,by simp only;omega,B⟩,by simp only;omega,wd 0⟩
       | false =>
         rw[Awf (by rw[e];simp)]at B;rw[e]at z;simp only at B;have Q:=(cj5 @M @S @hb @CT @q vH)
         have cc:=(cj z<|trivial)
         repeat any_goals (first|refine Du Q cc ⟨?_⟩|exact Bt Q|(refine Dv Q ?_ ?_<;>intro h<;>try exact Dw))
         all_goals (exfalso;simp at *;omega)
   rw[ACW M]at B;simp only[Mu]at B;have S : ¬(k:Int)<(s.size:Int):=Ux;rw[B];have e:((s.size:Int)<=20)=(s.size<=20):=by rw[Awm];omega
   exact wz (cj3 @M @S @e vH) W
theorem Ann (b:Nd)(hb:b.BX):AC AF 69 [Am b] (.c (.bool (Ki b.kind b.text))):=by
 have hs:=(kf b hb).1;have h1:=Anm b.text hs;have h2:=AnA b.text hs;have h3:=AnE b.text hs;have h4:=AYB N0 b.text ZB;have h5:=AjY;unfold maxLen at hs;unfold Ki Am;obtain⟨k,B⟩:=AI b.kind;rw[B];by_cases M:k=2;rw[Awd M];refine en nJ nK ?_;exact wz (cj2 @B @M MP) (cj h1<|trivial);by_cases Q:k=3;rw[Awf M,Awd Q];refine en nJ nK ?_;exact wz (cj2 @B @Q MP) (cj h2<|trivial);by_cases R:k=4;rw[Awf M,Awf Q,Awd R];have e:((b.text.size:Int)<=200)=(b.text.size<=200):=by rw[Awm];omega
 by_cases g:b.text.size<=200;rw[Awk g,Cd];refine en nJ nK ?_;exact wz (cj4 @B @R @e @g MP) (cj h3<|trivial);rw[Awl g,D4];refine en nJ nK ?_;exact wz (cj4 @B @R @e @g MP) W;by_cases q:k=10;rw[Awf M,Awf Q,Awf R,Awd q];refine en nJ nK ?_;exact wz (cj2 @B @q MP) (cj2 h5 h4 W);by_cases S:k=11;rw[Awf M,Awf Q,Awf R,Awf q,Awd S];by_cases g:b.text.size=2;obtain⟨c0,c1,c2,c3,c4,_⟩:=o5 (s:=b.text) (k:=0) Ux;obtain⟨d0,d1,d2,d3,d4,_⟩:=o5 (s:=b.text) (k:=1) Ux;have hR:FC (Lq RX) b.text=(Lq RX c0.toNat && Lq RX d0.toNat):=by
  unfold FC;rw[B9]at c3;rw[c3,d3,ACW Ux,Ep,Ep,Nq,Km]
 rw[Awk g,Cd,hR];have z:(b.text.size:Int)=2:=Ux;have q1:=AXr RX c0.toNat (by unfold maxLen;decide);have q2:=AXr RX d0.toNat (by unfold maxLen;decide);unfold RX at *
 generalize hX:Lq ⟨#[40,41,91,93,123,125,124,60,62,47,46]⟩ c0.toNat=X at q1 ⊢;cases X with
 | true=>refine en nJ nK ?_;exact wz (cj7 @B @S @z @c1 @c2 @d1 @d2 MP) (cj2 q1 q2 W)
 | false=>refine en nJ nK ?_;exact wz (cj7 @B @S @z @c1 @c2 @d1 @d2 MP) (cj q1<|trivial)
 rw[Awl g,D4];have z : ¬(b.text.size:Int)=2:=Ux;refine en nJ nK ?_;exact wz (cj3 @B @S @z MP) W;rw[Awf M,Awf Q,Awf R,Awf q,Awf S];refine en nJ nK ?_;exact wz (cj6 @B @M @Q @R @q @S MP) W
theorem Am0 (b:Nd)(hb:b.BX):AC AF 70 [Am b] (.c (.bool (FL b.kind b.AL (G b.AE)))):=by
 have hs:=(kf b hb).2.1;have Q:=Pc b.AE;unfold maxLen at hs;unfold FL Am;obtain⟨k,M⟩:=AI b.kind;obtain⟨c,B⟩:=AI b.AL;obtain⟨n,hn⟩:=AI (G b.AE);rw[hn]at Q hs;rw[M,B,hn];have e0 : ∀m:Nat,((n:Int)=(m:Int))=(n=m):=λm=>by rw[Awm];omega
 have e1:((n:Int)=1)=(n=1):=e0 1;have e2:((n:Int)=2)=(n=2):=e0 2;have e3:((n:Int)=3)=(n=3):=e0 3;have e4:((n:Int)<=200)=(n<=200):=by rw[Awm];omega
 have e5:((n:Int)<=256)=(n<=256):=by rw[Awm];omega
 have e6:((1:Int)<=(n:Int))=(1<=n):=by rw[Awm];omega
 by_cases m6:k=12;rw[Awd m6];by_cases g1:1<=c;by_cases g2:c<=16;rw[Awk g1,Awk g2,Cd,Cd];by_cases g3:1<=n;by_cases g4:n<=256;rw[Awk g3,Awk g4,Cd,Cd];have R : ¬c=0:=Ux;have w0:AZ.wrap ((n:Int).tmod c)=(n:Int).tmod c:=by
  have h1:=Sl c (show (0:Int)<=(n:Int)by omega);have h2:=aG (n:Int) (show (0:Int)<c by omega);exact Ac
 refine en nL nV ?_;exact wz (cj9 @M @B @Q @m6 @g1 @g2 @e5 @e6 @g3<|cj3 @g4 @R @w0 RJ) W;rw[Awk g3,Awl g4,Cd,D4];refine en nL nV ?_;exact wz (cj9 @M @B @Q @m6 @g1 @g2 @e5 @e6 @g3<|cj @g4 RJ) W;rw[Awl g3,D4];refine en nL nV ?_;exact wz (cj9 @M @B @Q @m6 @g1 @g2 @e5 @e6 @g3 RJ) W;rw[Awk g1,Awl g2,Cd,D4];refine en nL nV ?_;exact wz (cj6 @M @B @Q @m6 @g1 @g2 RJ) W;rw[Awl g1,D4];refine en nL nV ?_;exact wz (cj5 @M @B @Q @m6 @g1 RJ) W;rw[Awf m6];by_cases R:c=0;rw[Awf Ux];by_cases k1:k=1;rw[Awd k1];refine en nL nV ?_;exact wz (cj6 @M @B @Q @k1 @R @e4 RJ) W;rw[Awf k1];by_cases q:k=2\/k=3\/k=4;rw[Awd q];refine en nL nV ?_;rcases q with q|q|q
 exact wz (cj5 @M @B @Q @q @R RJ) W;exact wz (cj5 @M @B @Q @q @R RJ) W;exact wz (cj5 @M @B @Q @q @R RJ) W;rw[Awf q];by_cases S:k=5\/k=6\/k=7\/k=8;rw[Awd S];refine en nL nV ?_;rcases S with S|S|S|S
 exact wz (cj6 @M @B @Q @S @R @e2 RJ) W;exact wz (cj6 @M @B @Q @S @R @e2 RJ) W;exact wz (cj6 @M @B @Q @S @R @e2 RJ) W;exact wz (cj6 @M @B @Q @S @R @e2 RJ) W;rw[Awf S];by_cases k9:k=9;rw[Awd k9];refine en nL nV ?_;exact wz (cj6 @M @B @Q @k9 @R @e3 RJ) W;rw[Awf k9];by_cases z:k=10\/k=11;rw[Awd z];refine en nL nV ?_;rcases z with z|z
 exact wz (cj6 @M @B @Q @z @R @e1 RJ) W;exact wz (cj6 @M @B @Q @z @R @e1 RJ) W;rw[Awf z];simp only[not_or]at q S z;obtain⟨x1,x2,x3⟩:=q;obtain⟨y1,y2,y3,y4⟩:=S;obtain⟨z1,z2⟩:=z;refine en nL nV ?_;exact wz (cj9 @M @B @Q @m6 @R @k1 @x1 @x2 @x3<|cj7 @y1 @y2 @y3 @y4 @k9 @z1 @z2 RJ) W;rw[Awd R];refine en nL nV ?_;exact wz (cj5 @M @B @Q @m6 @R RJ) W
theorem AjH : ∀(l:List Nd) (k:Nat) (b:Nd),l[k]?=J b->Nd.Az (l.take (k+1))=Nd.Az (l.take k)+b.cnt
 | [],_,_,h=>by simp at h
 | x::l,0,b,h=>by simp at h;subst h;simp[Nd.Az]
 | x::l,k+1,b,h=>by simp only[DP,Nd.Az];rw[AjH l k b (by simpa using h)];omega
theorem AjI : ∀(l:List Nd) (k:Nat),Nd.Az (l.take k)<=Nd.Az l
 | [],k=>by simp[Nd.Az]
 | x::l,0=>by simp[Nd.Az]
 | x::l,k+1=>by simp only[DP,Nd.Az];have:=AjI l k;omega
theorem AjK : ∀(l:List Nd) (k:Nat) (b:Nd),l[k]?=J b->Nd.deps (l.take (k+1))=max (Nd.deps (l.take k)) b.BR
 | [],_,_,h=>by simp at h
 | x::l,0,b,h=>by simp at h;subst h;simp[Nd.deps]
 | x::l,k+1,b,h=>by simp only[DP,Nd.deps];rw[AjK l k b (by simpa using h)];omega
theorem AAi {Q:Nd->Prop}(h : ∀b:Nd,(∀k∈b.AE,Q k)->Q b):∀b:Nd,Q b:=by
 have : ∀(n:Nat) (b:Nd),UF b<n->Q b:=by
  intro n;induction n with
  | zero=>intro b B;omega
  | succ n ih =>
    intro b B;refine h b λk M=>ih k ?_
    have:=List.sizeOf_lt_of_mem M;cases b;simp only[Nd.mk.sizeOf_spec]at B this;omega
 exact λb=>this _ b (AC6 _)
theorem AmG : ∀b:Nd,b.cnt<=100000->AC AF 39 [Am b] (b.cnt:Int):=AAi λb ih hc=>by
 have S:=Pc b.AE;have Ce:=SH b.AE;have FN:=Tm b;obtain⟨z,R⟩:=AI (Nd.AG b.AE);rw[R]at S;unfold Am;rw[FN];refine en func39 ntmps39 ?_;refine wy (cj2 @R @S Ak2) trivial ⟨?_⟩;refine CX (ι:={ k:Nat // k<=G b.AE }) (λk=>[(2,(0:Int)),(3,(1+(Nd.Az (b.AE.take k.1):Int):Int)),(4,(k.1:Int))]) (λ_=>[.box 33 b.vs U]) (λk=>G b.AE - k.1) ⟨0,ZA⟩ ?_ ?_;exact ER (cj @Nd.Az.eq_1<|@Nd.Az.eq_2);rintro ⟨k,hk⟩;simp only;by_cases M:k<G b.AE;obtain⟨c,B⟩:∃c,b.AE[k]?=J c:=⟨_,BE M⟩
 have q:z[k]?=J c.row:=by rw[<-R];exact XG B
 have Dp:k<G z:=Ux;have Bu:=gx q;have ht:=AjH b.AE k c B;have A0:=AjI b.AE (k+1);have Q:=ih c (Cj B) Ux;unfold Am at Q;have w1:AZ.wrap (1+(Nd.Az (b.AE.take k):Int)+(c.cnt:Int))=1+(Nd.Az (b.AE.take (k+1)):Int):=by rw[Ac,ht];omega
 refine wy (cj7 @R @S @M @Dp @q @Bu @w1 Ak2) (cj Q<|trivial) ⟨?_⟩;exact⟨⟨k+1,Ux⟩,by simp only;omega,wd 1⟩;have e:b.AE.take k=b.AE:=Gl Ux;rw[e];exact wz (cj3 @R @S @M Ak2) W
theorem Ams : ∀b:Nd,b.cnt<=100000->AC AF 40 [Am b] (b.BR:Int):=AAi λb ih hc=>by
 have S:=Pc b.AE;have Ce:=SH b.AE;have FN:=Tm b;have Ls:=AjJ _ b (AC6 _);obtain⟨rs,R⟩:=AI (Nd.AG b.AE);rw[R]at S;unfold Am;have qW:=ke b;have q:AZ.wrap ((Nd.deps b.AE:Int)+1)=(b.BR:Int):=by rw[Ac];omega
 refine en func40 ntmps40 ?_;refine wy (cj2 @R @S Ak3) trivial ⟨?_⟩;refine CX (ι:={ k:Nat // k<=G b.AE }) (λk=>[(2,(0:Int)),(3,(Nd.deps (b.AE.take k.1):Int)),(4,(k.1:Int))]) (λ_=>[.box 33 b.vs U]) (λk=>G b.AE - k.1) ⟨0,ZA⟩ ?_ ?_;exact ER (cj @Nd.deps.eq_1<|@Nd.deps.eq_2);rintro ⟨k,hk⟩;simp only;by_cases M:k<G b.AE;obtain⟨c,B⟩:∃c,b.AE[k]?=J c:=⟨_,BE M⟩
 have z:rs[k]?=J c.row:=by rw[<-R];exact XG B
 have Dp:k<G rs:=Ux;have Bu:=gx z;have ht:=AjK b.AE k c B;have FX:=AjG b.AE k c B;have Q:=ih c (Cj B) Ux;unfold Am at Q;generalize hD:Nd.deps (b.AE.take k)=D at ht ⊢;have w1:(if D<c.BR then(c.BR:Int)else(D:Int))=(Nd.deps (b.AE.take (k+1)):Int):=by rw[ht];split<;>omega
 refine wy (cj7 @R @S @M @Dp @z @Bu @w1 Ak3) (cj Q<|trivial) ⟨?_⟩;exact⟨⟨k+1,Ux⟩,by simp only;omega,wd 1⟩;have e:b.AE.take k=b.AE:=Gl Ux;rw[e];exact wz (cj4 @R @S @M @q Ak3) W
theorem AXs : ∀b:Nd,∀m:Int,b.BX->0<=m->m<=100000->AC AF 25 [Am b,m] (b.Qb m:Int):=AAi λb ih m A5 hm FP=>by
 obtain⟨_,A0,rA⟩:=kf b A5;have hl:=Pc b.AE;have hA:b.Qb m=Nd.OO b.AE (m - 1):=by cases b;rfl
 obtain⟨R,hR⟩:=AI (Nd.OO b.AE (m - 1));rw[hA,hR];obtain⟨rs,S⟩:=AI (Nd.AG b.AE);rw[S]at hl;unfold Am;unfold maxLen at A0;refine en func25 ntmps25 ?_;refine wy (cj2 @S @hl Yc) trivial ⟨?_⟩;refine CX (ι:={ k:Nat×Int // k.1<=G b.AE/\ -1<=k.2/\k.2<=100000/\R=Nd.OO (b.AE.drop k.1) k.2 }) (λk=>[(1,k.1.2),(4,(0:Int)),(5,(k.1.1:Int))]) (λ_=>[.box 33 b.vs U]) (λk=>G b.AE - k.1.1) ⟨(0,m - 1),ZA,by simp only;omega,by simp only;omega,by simp[hR]⟩ ?_ ?_;exact DH;rintro ⟨⟨k,n⟩,hk,n1,n2,Q⟩;simp only at hk n1 n2 Q ⊢;by_cases B:k<G b.AE;obtain⟨c,M⟩:∃c,b.AE[k]?=J c:=⟨_,BE B⟩
 have A9:rs[k]?=J c.row:=by rw[<-S];exact XG M
 have Dp:k<G rs:=Ux;have Bu:=gx A9;rw[D5 B,gx M]at Q;simp only[Nd.OO]at Q;by_cases q:0<=n;rw[Awd q]at Q;have z:=ih c (Cj M) n (di rA c (Cj M)) q n2;have Iq:=AAX c n q;unfold Am at z;refine wy (cj7 @S @hl @B @Dp @A9 @Bu @q Yc) (cj z<|trivial) ⟨?_⟩;exact⟨⟨(k+1,c.Qb n),by simp only;omega,by simp only;omega,by simp only;omega,Q⟩,by simp only;omega,wd 1⟩;rw[Awf q]at Q;exact wz (cj5 @S @hl @B @Dp @q Yc) W;rw[FA Ux]at Q;simp only[Nd.OO]at Q;exact wz (cj3 @S @hl @B Yc) W
theorem AXo (b:Nd)(m:Int)(M:b.BX)(B:0<=m)(Q:m<=100000):AC AF 11 [Am b,m] (.c (.bool (decide ((b.cnt:Int)<=m)))):=by
 have h:=AXs b m M B Q;rw[<-AUh b m B];unfold Am at h ⊢;refine en func11 ntmps11 ?_;exact wz results11 (cj h<|trivial)
theorem Amv : ∀b:Nd,b.BX->AC AF 38 [Am b] (.c (.bool b.Jb)):=AAi λb ih A5=>by
 obtain⟨_,A0,rA⟩:=kf b A5;have hl:=Pc b.AE;have ht:=Ann b A5;have z:=Am0 b A5;rw[dg];unfold Nd.Cl;obtain⟨K,hK⟩:=AI b.kind;obtain⟨rs,S⟩:=AI (Nd.AG b.AE);rw[S]at hl;unfold Am at ht z ⊢;unfold maxLen at A0;cases e1:Ki b.kind b.text with
 | false=>rw[e1]at ht;refine en func38 ntmps38 ?_;exact wz g7 (cj ht<|trivial)
 | true =>
 rw[e1]at ht;cases e2:FL b.kind b.AL (G b.AE) with
 | false=>rw[e2]at z;refine en func38 ntmps38 ?_;exact wz g7 (cj2 ht z W)
 | true =>
 rw[e2]at z;rw[Cd,Cd];rw[hK];refine en func38 ntmps38 ?_;refine wy (cj2 @S @hl g7) (cj2 ht z W) ⟨?_⟩;refine CX (ι:={ k:Nat // k<=G b.AE/\Nd.MY K b.AE=Nd.MY K (b.AE.drop k) }) (λk=>[(2,.c (.bool U)),(3,(k.1:Int))]) (λ_=>[.box 33 b.vs U]) (λk=>G b.AE - k.1) ⟨0,ZA⟩ ?_ ?_;exact DH;rintro ⟨k,z,Q⟩;simp only;by_cases B:k<G b.AE;obtain⟨c,R⟩:∃c,b.AE[k]?=J c:=⟨_,BE B⟩
 have A9:rs[k]?=J c.row:=by rw[<-S];exact XG R
 have Dp:k<G rs:=Ux;have Bu:=gx A9;rw[D5 B,gx R]at Q;simp only[Nd.MY]at Q;have M:=ih c (Cj R) (di rA c (Cj R));unfold Am at M;cases q:Pa K c.kind with
 | true=>rw[q,tv,D4,D4]at Q;unfold Pa at q;exact wz (cj8 @S @hl @B @Dp @A9 @Bu @hK @q g7) W
 | false =>
   rw[q,ly,Cd]at Q;unfold Pa at q;cases ef:c.Jb with
   | true=>rw[ef,Cd]at Q;rw[ef]at M;refine wy (cj8 @S @hl @B @Dp @A9 @Bu @hK @q g7) (cj M<|trivial) ⟨?_⟩;exact⟨⟨k+1,Ux,Q⟩,by simp only;omega,wd 1⟩
   | false=>rw[ef,D4]at Q;rw[ef]at M;exact wz (cj8 @S @hl @B @Dp @A9 @Bu @hK @q g7) (cj M<|trivial)
 rw[FA Ux]at Q;simp only[Nd.MY]at Q;exact wz (cj3 @S @hl @B g7) W
theorem Ajx (b:Nd)(z:b.BX)(q:b.cnt<=100000):AC AF 18 [Am b] (.c (.bool b.Ad)):=by
 have M:=Amv b z;have S:=AmG b q;have h3:=Ams b q;unfold Nd.Ad;have Q:((b.cnt:Int)<=1000)=(b.cnt<=1000):=by rw[Awm];omega
 have R:((b.BR:Int)<=24)=(b.BR<=24):=by rw[Awm];omega
 unfold Am at *
 by_cases B:b.kind=1;rw[Awk B,Cd];generalize hF:b.Jb=F at M ⊢;cases F with
 | false=>refine en Aap AiY ?_;exact wz (cj @B<|Aip) (cj M<|trivial)
 | true =>
   rw[Cd];by_cases g:b.cnt<=1000;rw[Awk g,Cd];refine en Aap AiY ?_;exact wz (cj4 @B @Q @R @g Aip) (cj3 M S h3 W);rw[Awl g,D4];refine en Aap AiY ?_;exact wz (cj4 @B @Q @R @g Aip) (cj2 M S W)
 rw[Awl B,D4];refine en Aap AiY ?_;exact wz (cj @B<|Aip) W
def Dd (l:List Nd):Nd:=⟨1,⟨#[]⟩,0,l⟩
theorem AYC (l:List Nd):AC AF 73 [.c (.sl (Nd.AG l))] (Am (Dd l)):=by
 have e:Am (Dd l)=.agg [.c (.int .i64 1),.c (.str ⟨#[]⟩),.c (.int .i64 0),.c (.sl (Nd.AG l))]:=F;rw[e];refine en func73 ntmps73 ?_;exact wz results73 W
theorem Ajy (l:List Nd)(B:(Dd l).BX)(R:(Dd l).cnt<=100000):AC AF 42 [.c (.sl (Nd.AG l))] (.c (.bool (Dd l).Ad)):=by
 have M:=AYC l;have Q:=Ajx (Dd l) B R;unfold Am at *
 refine en func42 ntmps42 ?_;exact wz results42 (cj2 M Q W)
def JG (n:Nat):List V:=rU++[.c (.int .i64 (n:Int))]
@[simp] theorem AbX :G (JG n)=40:=F
@[simp] theorem AbV :(JG n)[39]?=J (.c (.int .i64 (n:Int))):=F
@[simp] theorem AbZ (h:39<G (JG n)):(JG n)[39]'h=.c (.int .i64 (n:Int)):=F
@[simp] theorem AbY :(JG n).set 39 (.c (.int .i64 (m:Int)))=JG m:=F
@[simp] theorem pM :V.Dj 0 (JG n)=J (JG n):=F
@[simp] theorem AEs :V.Pn (JG n)=true:=F
def kR (k c:Int)(n:Nat)(sl:Nat):Bool:=
 if k=1 then decide (c=0) && decide (n<=200)
 else if k=12 then decide (1<=c) && (decide (c<=16) && (decide (1<=n) && (decide (n<=256) && decide ((n:Int).tmod c=0))))
 else decide (c=0) && decide (n=sl)
theorem QZ {c:Int}{n R:Nat}(hs:(k≠1/\k≠12)->FL (k:Int) c n=(decide (c=0) && decide (n=R))):kR k c n R=FL k c n:=by
 unfold kR;by_cases M:k=1;subst M;have e:((1:Nat):Int)=1:=F;have S : ¬((1:Nat):Int)=12:=ZB;rw[Awd e];unfold FL;rw[Awf S];by_cases B:c=0;rw[Awk B,Cd,Awf (λh=>h B),Awd e];rw[Awl B,D4,Awd B];rw[Awf Ux];by_cases Q:k=12;subst Q;have e:((12:Nat):Int)=12:=F;rw[Awd e];unfold FL;rw[Awd e];rw[Awf Ux,hs ⟨M,Q⟩]
theorem Tg {c:Int}{n:Nat}(M:k≠12):FL k c n=(decide (c=0) && FL k 0 n):=by
 have e : ¬(k:Int)=12:=Ux;by_cases B:c=0;subst B;simp;rw[Awl B,D4];unfold FL;rw[Awf e,Awd B]
theorem ATs (k:Nat)(R:1<=k)(S:k<=12)(s:ByteArray)(hs:s.size<=maxLen)(n:Nat):∃(g:FuncId) (Q:Nat),(JG n)[k*3+2]?=J (.fn g [])/\(JG n)[k*3+1]?=J (.c (.int .i64 (Q:Int)))/\Fp AF g=I/\AC AF g [.c (.str s)] (.c (.bool (Ki k s)))/\∀c m,kR k c m Q=FL k c m:=by
 have M:=AV7 s;have B : ∀k:Int,k≠2->k≠3->k≠4->k≠10->k≠11->Ki k s=decide (s=⟨#[]⟩):=λk a b c d e=>by unfold Ki;rw[Awf a,Awf b,Awf c,Awf d,Awf e]
 match k,R,S with
 | 1,_,_=>exact⟨_,0,F,F,ZC,by rw[B _ ZB ZB ZB ZB ZB];exact M,λc m=>QZ λh=>absurd rfl h.1⟩
 | 2,_,_=>exact⟨_,0,F,F,ZC,AWo s hs,λc m=>QZ λh=>Tg ZB⟩
 | 3,_,_=>exact⟨_,0,F,F,ZC,AWn s hs,λc m=>QZ λh=>Tg ZB⟩
 | 4,_,_=>exact⟨_,0,F,F,ZC,AW5 s hs,λc m=>QZ λh=>Tg ZB⟩
 | 5,_,_=>exact⟨_,2,F,F,ZC,by rw[B _ ZB ZB ZB ZB ZB];exact M,λc m=>QZ λh=>Tg ZB⟩
 | 6,_,_=>exact⟨_,2,F,F,ZC,by rw[B _ ZB ZB ZB ZB ZB];exact M,λc m=>QZ λh=>Tg ZB⟩
 | 7,_,_=>exact⟨_,2,F,F,ZC,by rw[B _ ZB ZB ZB ZB ZB];exact M,λc m=>QZ λh=>Tg ZB⟩
 | 8,_,_=>exact⟨_,2,F,F,ZC,by rw[B _ ZB ZB ZB ZB ZB];exact M,λc m=>QZ λh=>Tg ZB⟩
 | 9,_,_=>exact⟨_,3,F,F,ZC,by rw[B _ ZB ZB ZB ZB ZB];exact M,λc m=>QZ λh=>Tg ZB⟩
 | 10,_,_=>exact⟨_,1,F,F,ZC,AJF s,λc m=>QZ λh=>Tg ZB⟩
 | 11,_,_=>exact⟨_,1,F,F,ZC,AWm s,λc m=>QZ λh=>Tg ZB⟩
 | 12,_,_=>exact⟨_,0,F,F,ZC,by rw[B _ ZB ZB ZB ZB ZB];exact M,λc m=>QZ λh=>absurd rfl h.2⟩
theorem AVm {b:Nd}(h:b.kind<1\/12<b.kind):b.Cl=false:=by
 unfold Nd.Cl;have e:FL b.kind b.AL (G b.AE)=false:=by
  unfold FL;generalize z:b.kind=k at h ⊢;have B : ¬k=12:=Ux;have M : ¬k=1:=Ux;have Q : ¬(k=2\/k=3\/k=4):=Ux;have R : ¬(k=5\/k=6\/k=7\/k=8):=Ux;have S : ¬k=9:=Ux;have q : ¬(k=10\/k=11):=Ux;rw[Awf B,Awf M,Awf Q,Awf R,Awf S,Awf q];split<;>rfl
 rw[e,LV]
theorem AWu (b:Nd)(n:Nat)(A5:b.BX):AY AF 125 [.ptr 0 0,.cp b.row 0] 124 (JG n) (JG n) (.c (.bool b.Cl)):=by
 obtain⟨FK,zT,_⟩:=kf b A5;have R:=Pc b.AE;obtain⟨rs,S⟩:=AI (Nd.AG b.AE);rw[S]at R;obtain⟨m,hm⟩:=AI (G b.AE);rw[hm]at R zT;unfold maxLen at zT;by_cases hr:b.kind<1\/12<b.kind
 . rw[AVm hr];refine AY.intro M9 rfl ?_;simp only[ntmps125,Ap,BB,BA,BO,Nat.reduceAdd,Nat.reduceSub,BY,Cy,BK,BU];rcases hr with hr|hr
   . have B:=(cj @hr<|AbS)
     have M:=W;repeat any_goals (first|refine Du B M ⟨?_⟩|exact Bt B|(refine Dv B ?_ ?_<;>intro h<;>try exact Dw))
     all_goals simp[GI,DV,C0,DE,V.CP,V.CF,CJ,AbS, *]
   . have PS : ¬b.kind<1:=Ux;have B:=(cj2 @hr @PS AbS)
     have M:=W;repeat any_goals (first|refine Du B M ⟨?_⟩|exact Bt B|(refine Dv B ?_ ?_<;>intro h<;>try exact Dw))
     all_goals simp[GI,DV,C0,DE,V.CP,V.CF,CJ,AbS, *]
 . obtain⟨k,hk⟩:∃k:Nat,b.kind=(k:Int):=⟨b.kind.toNat,Ux⟩
   obtain⟨g,sl,f2,f1,Rl,q,QP⟩:=ATs k Ux Ux b.text FK n;have hO:b.Cl=(Ki k b.text && kR k b.AL m sl):=by unfold Nd.Cl;rw[hk,hm,QP]
   rw[hO];clear QP hO;have k1 : ¬(k:Int)<1:=Ux;have k2 : ¬(12:Int)<(k:Int):=Ux;have k3:(k:Int)<13:=Ux;have k4:k<13:=Ux;generalize A1:Ki k b.text=TB at q ⊢;obtain⟨c,z⟩:=AI b.AL;rw[z];refine AY.intro M9 rfl ?_;simp only[ntmps125,Ap,BB,BA,BO,Nat.reduceAdd,Nat.reduceSub,BY,Cy,BK,BU];cases TB with
   | false =>
     have B:=(cj9 @hk @k1 @k2 @k3 @k4 @f1 @f2 @Rl @S<|cj2 @R @z AbS)
     have M:=(cj q<|trivial)
     repeat any_goals (first|refine Du B M ⟨?_⟩|exact Bt B|(refine Dv B ?_ ?_<;>intro h<;>try exact Dw))
     all_goals simp[GI,DV,C0,DE,V.CP,V.CF,CJ,AbS, *]
   | true =>
     rw[Cd];unfold kR;by_cases q1:k=1
     . have Q:(k:Int)=1:=Ux;rw[Awd Q];have A0:((k:Int)=1)↔True:=⟨λ_=>trivial,λ_=>Q⟩
       have e4:((m:Int)<=200)=(m<=200):=by rw[Awm];omega
       have B:=(cj9 @hk @k1 @k2 @k3 @k4 @f1 @f2 @Rl @S<|cj4 @R @z @A0 @e4 AbS)
       have M:=(cj q<|trivial)
       repeat any_goals (first|refine Du B M ⟨?_⟩|exact Bt B|(refine Dv B ?_ ?_<;>intro h<;>try exact Dw))
       all_goals simp[GI,DV,C0,DE,V.CP,V.CF,CJ,AbS, *]
     . have Q : ¬(k:Int)=1:=Ux;rw[Awf Q];by_cases q2:k=12
       . have lA:(k:Int)=12:=Ux;rw[Awd lA];have xx:((k:Int)=12)↔True:=⟨λ_=>trivial,λ_=>lA⟩
         have e5:((m:Int)<=256)=(m<=256):=by rw[Awm];omega
         have e6:((1:Int)<=(m:Int))=(1<=m):=by rw[Awm];omega
         by_cases g1:1<=c
         . by_cases g2:c<=16
           . have c0 : ¬c=0:=Ux;have w0:AZ.wrap ((m:Int).tmod c)=(m:Int).tmod c:=by
              have h1:=Sl c (show (0:Int)<=(m:Int)by omega);have h2:=aG (m:Int) (show (0:Int)<c by omega);exact Ac
             rw[Awk g1,Awk g2,Cd,Cd];have B:=(cj9 @hk @k1 @k2 @k3 @k4 @f1 @f2 @Rl @S<|cj9 @R @z @Q @xx @e5 @e6 @g1 @g2 @c0<|cj @w0 AbS)
             have M:=(cj q<|trivial)
             repeat any_goals (first|refine Du B M ⟨?_⟩|exact Bt B|(refine Dv B ?_ ?_<;>intro h<;>try exact Dw))
             all_goals simp[GI,DV,C0,DE,V.CP,V.CF,CJ,AbS, *]
           . rw[Awk g1,Awl g2,Cd,D4];have B:=(cj9 @hk @k1 @k2 @k3 @k4 @f1 @f2 @Rl @S<|cj8 @R @z @Q @xx @e5 @e6 @g1 @g2 AbS)
             have M:=(cj q<|trivial)
             repeat any_goals (first|refine Du B M ⟨?_⟩|exact Bt B|(refine Dv B ?_ ?_<;>intro h<;>try exact Dw))
             all_goals simp[GI,DV,C0,DE,V.CP,V.CF,CJ,AbS, *]
         . rw[Awl g1,D4];have B:=(cj9 @hk @k1 @k2 @k3 @k4 @f1 @f2 @Rl @S<|cj7 @R @z @Q @xx @e5 @e6 @g1 AbS)
           have M:=(cj q<|trivial)
           repeat any_goals (first|refine Du B M ⟨?_⟩|exact Bt B|(refine Dv B ?_ ?_<;>intro h<;>try exact Dw))
           all_goals simp[GI,DV,C0,DE,V.CP,V.CF,CJ,AbS, *]
       . have lA : ¬(k:Int)=12:=Ux;rw[Awf lA];have e7:((m:Int)=(sl:Int))=(m=sl):=by rw[Awm];omega
         have B:=(cj9 @hk @k1 @k2 @k3 @k4 @f1 @f2 @Rl @S<|cj5 @R @z @Q @lA @e7 AbS)
         have M:=(cj q<|trivial)
         repeat any_goals (first|refine Du B M ⟨?_⟩|exact Bt B|(refine Dv B ?_ ?_<;>intro h<;>try exact Dw))
         all_goals simp[GI,DV,C0,DE,V.CP,V.CF,CJ,AbS, *]
@[simp] theorem AbW (k n:Nat):V.BI k (JG n)=true:=F
theorem AWs (b:Nd)(A5:b.BX)(M c:Nat)(hd:M<=25)(hc:c+b.cnt<=1000000)(ih : ∀k∈b.AE,∀(M c:Nat),M<=25->c+k.cnt<=1000000->AY AF 82 [.ptr 0 0,.cp k.row 0,(M:Int)] 124 (JG c) (JG (k.pv M c).2) (.c (.bool (k.pv M c).1))):AY AF 82 [.ptr 0 0,.cp b.row 0,(M:Int)] 124 (JG c) (JG (b.pv M c).2) (.c (.bool (b.pv M c).1)):=by
 have FX:=Tm b;have Ce:=SH b.AE;have z:=AWu b (c+1) A5;have hl:=Pc b.AE;obtain⟨rs,Aw⟩:=AI (Nd.AG b.AE);rw[Aw]at hl;have hR:b.pv M c=if 1000<c+1\/24<M\/b.Cl=U then(U,c+1)else Nd.HU (M+1) b.kind b.AE (c+1):=by cases b;rw[Nd.pv];rfl
 generalize qR:b.Cl=OB at z hR;have A0:AZ.wrap ((c:Int)+1)=((c+1:Nat):Int):=by rw[Ac];simp
 generalize A2:c+1=C1 at A0 z hR;obtain⟨K,hK⟩:=AI b.kind;rw[hK]at hR;have e1:((1000:Int)<(C1:Int))=(1000<C1):=by rw[Awm];omega
 have e2:((24:Int)<(M:Int))=(24<M):=by rw[Awm];omega
 rw[hR];by_cases h1:1000<C1
 . rw[Awd (.inl h1)];refine AY.intro AP9 rfl ?_;simp only[ntmps82,Ap,BB,BA,BO,Nat.reduceAdd,Nat.reduceSub,BY,Cy,BK,BU];have B:=(cj3 @A0 @e1 @h1 aX)
   have R:=W;repeat any_goals (first|refine Du B R ⟨?_⟩|exact Bt B|(refine Dv B ?_ ?_<;>intro h<;>try exact Dw))
   all_goals simp[GI,DV,C0,DE,V.CP,V.CF,CJ,aX, *]
 by_cases h2:24<M
 . rw[Awd (.inr (.inl h2))];refine AY.intro AP9 rfl ?_;simp only[ntmps82,Ap,BB,BA,BO,Nat.reduceAdd,Nat.reduceSub,BY,Cy,BK,BU];have B:=(cj5 @A0 @e1 @e2 @h1 @h2 aX)
   have R:=W;repeat any_goals (first|refine Du B R ⟨?_⟩|exact Bt B|(refine Dv B ?_ ?_<;>intro h<;>try exact Dw))
   all_goals simp[GI,DV,C0,DE,V.CP,V.CF,CJ,aX, *]
 refine AY.intro AP9 rfl ?_;simp only[ntmps82,Ap,BB,BA,BO,Nat.reduceAdd,Nat.reduceSub,BY,Cy,BK,BU];have B:=(cj @A0<|aX)
 repeat any_goals (first|refine Qu (.mk 2) ?_|exact Bt B|refine De B ?_|refine DI B ?_|((first|refine JC B ?_ ?_|refine JE B ?_ ?_|refine JD B ?_ ?_|refine JY B ?_ ?_)<;>intro h<;>try (exfalso;first|omega|contradiction)))
 refine AW.DA ?_;refine CY (.mk 12) (cj3 @e1 @e2 @h1 @h2) ?_;refine SW.V9 0 z M9 ZC ZC (by simp[BQ]) (by simp[C7];first|exact rfl|exact⟨F,F⟩) (by simp[V.Dj,V.Di];try exact rfl) (by rfl) (pM _) (pM _) (AEs _) ?_;simp only[St.step,St.put,Bk,BA,BO,Nat.reduceAdd,Nat.reduceLT,Awg,Ai,Ag];cases OB with
 | false =>
   rw[Awd (.inr (.inr F))];refine CY (.mk 2) trivial ?_;refine SW.nil ?_;have B:=(aX)
   have R:=W;repeat any_goals (first|refine Du B R ⟨?_⟩|exact Bt B|(refine Dv B ?_ ?_<;>intro h<;>try exact Dw))
   all_goals simp[GI,DV,C0,DE,V.CP,V.CF,CJ,aX, *]
 | true =>
   rw[Awf (by rintro (h|h|h)<;>first|omega|cases h)];refine CY (.mk 2) trivial ?_;refine SW.nil ?_;have A1:AZ.wrap ((M:Int)+1)=((M+1:Nat):Int):=by rw[Ac];simp
   obtain⟨Q,hQ⟩:=AI (Nd.HU (M+1) K b.AE C1);rw[hQ];have B:=(cj2 @Aw @hl aX)
   have R:=W;repeat any_goals (first|refine Du B R ⟨?_⟩|exact Bt B|(refine Dv B ?_ ?_<;>intro h<;>try exact Dw))
   refine CX (ι:={ k:Nat×Nat // k.1<=G b.AE/\k.2+Nd.Az (b.AE.drop k.1)<=1000000/\Q=Nd.HU (M+1) K (b.AE.drop k.1) k.2 }) (λk=>[(35,(k.1.1:Int)),(6,.c (.bool U))]) (λk=>[.box 124 (JG k.1.2) U]) (λk=>G b.AE - k.1.1) ⟨(0,C1),ZA,by simp;omega,by simp[hQ]⟩ ?_ ?_;exact DH
   . rintro ⟨⟨j,n⟩,hj,hb,S⟩;simp only at hj hb S ⊢;by_cases q:j<G b.AE
     . obtain⟨k,EC⟩:∃k,b.AE[j]?=J k:=⟨_,BE q⟩
       have A9:rs[j]?=J k.row:=by rw[<-Aw];exact XG EC
       have Dp:j<G rs:=Ux;have Bu:=gx A9;rw[D5 q,gx EC]at S hb;simp only[Nd.Az]at hb;simp only[Nd.HU]at S;have VF:=ih k (Cj EC) (M+1) n Ux Ux;have KE:=(AAj (M+1) k n).1;have hw:AZ.wrap ((j:Int)+1)=((j+1:Nat):Int):=by rw[Ac];simp
       obtain⟨⟨r,n'⟩,hr⟩:=AI (Nd.pv (M+1) k n);rw[hr]at VF S KE;simp only at VF S KE;obtain⟨D,hD⟩:∃D:Int,((M+1:Nat):Int)=D:=⟨_,rfl⟩
       rw[hD]at VF A1;cases em:Pa K k.kind with
       | true =>
         rw[em,Awd rfl]at S;have xT:(decide (K=1)==decide (k.kind=1))=true:=by unfold Pa at em;rw[<-em];cases decide (K=1)<;>cases decide (k.kind=1)<;>rfl
         have B:=(cj9 @Aw @hl @q @Dp @A9 @Bu @hK @xT @S aX)
         have R:=W;repeat any_goals (first|refine Du B R ⟨?_⟩|exact Bt B|(refine Dv B ?_ ?_<;>intro h<;>try exact Dw))
         all_goals simp[GI,DV,C0,DE,V.CP,V.CF,CJ,aX, *]
       | false =>
         rw[em,Awf ZA]at S;have xT:(decide (K=1)==decide (k.kind=1))=false:=by unfold Pa at em;rw[<-em];cases decide (K=1)<;>cases decide (k.kind=1)<;>rfl
         have B:=(cj7 @Aw @hl @q @Dp @A9 @Bu @hK aX)
         repeat any_goals (first|refine Qu (.mk 7) ?_|exact Bt B|refine De B ?_|refine DI B ?_|((first|refine JC B ?_ ?_|refine JE B ?_ ?_|refine JD B ?_ ?_|refine JY B ?_ ?_)<;>intro h<;>try (exfalso;first|omega|contradiction)))
         refine AW.Lm Fz (.inl F) ?_;refine TW.take 25 (Es (by simp[Aw,hl,q,Dp,A9,Bu,hK,xT,A1];first|exact rfl|exact⟨F,F⟩|exact⟨F,F,F⟩) (UZ ?_));simp only[CU,B9];refine TW.V9 0 VF AP9 ZC ZC (by simp[BQ]) (by simp[C7];first|exact rfl|exact⟨F,F⟩) (by simp[V.Dj,V.Di];try exact rfl) (by rfl) (pM _) (pM _) (AEs _) ?_;simp only[St.step,St.put,Bk,BA,BO,Nat.reduceAdd,Nat.reduceLT,Awg,Ai,Ag];cases r with
         | false =>
           rw[Awf ZA]at S;refine TW.take 2 (Es (by simp;first|exact rfl|exact⟨F,F⟩|exact⟨F,F,F⟩) (UZ (TW.nil ⟨ZC,?_⟩)));have B:=(aX)
           have R:=W;repeat any_goals (first|refine Du B R ⟨?_⟩|exact Bt B|(refine Dv B ?_ ?_<;>intro h<;>try exact Dw))
           all_goals simp[GI,DV,C0,DE,V.CP,V.CF,CJ,aX, *]
         | true =>
           rw[Awd rfl]at S;refine TW.take 2 (Es (by simp;first|exact rfl|exact⟨F,F⟩|exact⟨F,F,F⟩) (UZ (TW.nil ⟨ZC,?_⟩)));have B:=(cj @hw<|aX)
           have R:=W;repeat any_goals (first|refine Du B R ⟨?_⟩|exact Bt B|(refine Dv B ?_ ?_<;>intro h<;>try exact Dw))
           exact⟨⟨(j+1,n'),by simp only;omega,by simp only;omega,S⟩,by simp only;omega,wd 1⟩
     . rw[FA Ux]at S;simp only[Nd.HU]at S;have B:=(cj4 @Aw @hl @q @S aX)
       have R:=W;repeat any_goals (first|refine Du B R ⟨?_⟩|exact Bt B|(refine Dv B ?_ ?_<;>intro h<;>try exact Dw))
       all_goals simp[GI,DV,C0,DE,V.CP,V.CF,CJ,aX, *]
theorem AWr : ∀b:Nd,b.BX->∀(B c:Nat),B<=25->c+b.cnt<=1000000->AY AF 82 [.ptr 0 0,.cp b.row 0,(B:Int)] 124 (JG c) (JG (b.pv B c).2) (.c (.bool (b.pv B c).1)):=AAi λb ih M B c S R=>AWs b M B c S R λk Q=>ih k Q (di (kf b M).2.2 k Q)
theorem ABQ (b:Nd)(q:b.BX)(hc:b.cnt<=900000):AC AF 47 [Am b] (.c (.bool b.Ad)):=by
 have S:=AWr b q 1 0 Ux Ux;have R:=AWQ;unfold rU at R;unfold Am;by_cases M:b.kind=1
 . rw[<-AUj b M];obtain⟨⟨r,n⟩,z⟩:=AI (b.pv 1 0);rw[z]at S ⊢;simp only at S ⊢;refine en ALI AMh ?_;have B:=(Th)
   repeat any_goals (first|refine Qu (.mk 2) ?_|exact Bt B|refine De B ?_|refine BV B (R) ?_|refine DI B ?_|((first|refine JC B ?_ ?_|refine JE B ?_ ?_|refine JD B ?_ ?_|refine JY B ?_ ?_)<;>intro h<;>try (exfalso;first|omega|contradiction)))
   refine Cn 0 ?_;refine AW.DA ?_;refine CY (.mk 5) @M ?_;refine SW.V9 1 S AP9 ZC ZC (by simp[BQ]) (by simp[C7];first|exact rfl|exact⟨F,F⟩) (by simp[V.Dj,V.Di];try exact rfl) (by rfl) (by rfl) (cs':=JG n) (by rfl) (by rfl) ?_;simp only[St.step,St.put,Bk,BA,BO,Nat.reduceAdd,Nat.reduceLT,Awg,Ai,Ag];refine CY (.mk 2) trivial ?_;refine SW.nil ?_;have B:=(Th)
   have Q:=W;repeat any_goals (first|refine Du B Q ⟨?_⟩|exact Bt B|(refine Dv B ?_ ?_<;>intro h<;>try exact Dw))
 . have e:b.Ad=false:=by unfold Nd.Ad;rw[Awl M,D4]
   rw[e];refine en ALI AMh ?_;have B:=(cj @M<|Th)
   have Q:=(cj R<|trivial)
   repeat any_goals (first|refine Du B Q ⟨?_⟩|exact Bt B|(refine Dv B ?_ ?_<;>intro h<;>try exact Dw))
theorem ABR (l:List Nd)(Q:(Dd l).BX)(S:(Dd l).cnt<=900000):AC AF 28 [.c (.sl (Nd.AG l))] (.c (.bool (Dd l).Ad)):=by
 have M:=ABQ (Dd l) Q S;have e:Am (Dd l)=.agg [.c (.int .i64 1),.c (.str ⟨#[]⟩),.c (.int .i64 0),.c (.sl (Nd.AG l))]:=F;rw[e]at M;refine en func28 ntmps28 ?_;have B:=(results28)
 have R:=(cj M<|trivial)
 repeat any_goals (first|refine Du B R ⟨?_⟩|exact Bt B|(refine Dv B ?_ ?_<;>intro h<;>try exact Dw))
def CK (l:List Int):List V:=l.map λn=>V.c (.int .i64 n)
theorem Ts (l:List Int):G (CK l)=G l:=by simp[CK]
theorem AWM (l r:List Int):CK (l++r)=CK l++CK r:=by simp[CK]
@[simp] theorem AcU (l:List Int):V.BI m (CK l)=true:=by
 induction l with
 | nil=>rfl
 | cons c r ih=>simp only[CK,Ap,V.BI,V.A8,Cd];exact ih
theorem XK : ∀l:List Int,toCs (CK l)=J (l.map (C.int .i64))
 | []=>rfl
 | c::r=>by simp only[CK,Ap,toCs,toC];rw[show Vf (λn=>V.c (C.int AZ n)) r=CK r from rfl,XK r]
@[simp] theorem Zm (k:Nat)(row:List C):∀l:List Int,V.Cs k row (CK l)=CK l
 | []=>rfl
 | c::r=>by simp only[CK,Ap,V.Cs,V.Bi];rw[show Vf (λn=>V.c (C.int AZ n)) r=CK r from rfl,Zm k row r]
theorem Zl : ∀(l r:List Int),Hc 1 (G l) ((l++r).map (C.int .i64))=l.map λn=>[C.int .i64 n]
 | [],_=>rfl
 | c::l,r=>by simp only[BA,BK,Ap,Hc,DP,ET,CU,B9];rw[Zl l r]
section
variable {D r:List Int} {c:Int} {k:Nat}
theorem AWB (h:G D=k):(CK (D++c::r))[k]?=J (.c (.int .i64 c)):=by
 subst h;simp[CK]
theorem ABG (h:G D=k)(v:Int):(CK (D++c::r)).set k (.c (.int .i64 v))=CK (D++v::r):=by
 subst h;unfold CK;rw[<-fy (f:=λn=>V.c (.int .i64 n))];congr 1
 rw[List.set_append_right _ _ (BN _)];simp
theorem AJX (h:G D=k+1):(CK (D++r))[k]?=J (.c (.int .i64 (D.getD k 0))):=by
 have B:k<G D:=Ux;unfold CK;rw[CM,EJ B,BE B];simp[Bv,BE B]
theorem AJz (h:G D=k+1)(v:Int):(CK (D++r)).set k (.c (.int .i64 v))=CK (D.set k v++r):=by
 unfold CK;rw[<-fy (f:=λn=>V.c (.int .i64 n))];congr 1
 rw[List.set_append_left _ _ Ux]
end
section
variable {P:Program} {S0:BF} {w0:Bs} {x:Cx} {w:World} {H:Bx} {a:Act} {o:Oper}
theorem Aa9 {z:Array Value}(h:z.toList=[.int .i64 0])(m:Nat):(KN z m).toList=(CK (Aq m 0)).map (λ_=>vj .i64 0):=by
 have B:z=#[.int .i64 0]:=Gx.1 h;subst B;apply List.ext_getElem;simp[KN,CK];intro i M Q;simp[KN,CK,Nat.mod_one]
theorem Aa7 :AO x w (CK (Aq m 0)) ((CK (Aq m 0)).map (λ_=>vj .i64 0)):=by
 induction m with
 | zero=>simp[CK,AO]
 | succ m ih=>rw[BY];simp only[CK,Ap,AO,CV,Ab];exact⟨_,_,F,⟨F,by decide +kernel⟩,ih⟩
theorem pr : ∀l:List Int,(l.map λn=>[C.int .i64 n]).flatten=l.map (C.int .i64)
 | []=>rfl
 | c::r=>by rw[Ap,Hp,pr r];rfl
theorem AUr (g:Good S0 w0 x w H){t:TypeId}{y z:Operand}(ho:o.op=.call ⟨.builtin .append,#[y,z],#[t,t]⟩){Ae:TypeId}{Bq:Nat}(hT:Dk P t=J (Ae,1,Bq))(R7:C2 P Ae=J [.c (.int .i64 0)]){l:List Int}(hY:CV x w (.Bg []) (a.eval y))(hZ:CV x w (.c (AV l)) (a.eval z))(q:l≠[])(Q:G l<=1000000)(R:Bq<=8)(k0:Nat)(hk : ¬x.dom k0) :
 ∃m:Nat,BW P o a S0 w0 x w H (.own k0 0 (G l) 1) (J (k0,.box Ae (CK (l++Aq m 0)) U)):=by
 obtain⟨hu,ie,zv,EB,hz,A0,je,A5⟩:=JS hT;obtain⟨zk,Y9,IN,i2,J9,R8⟩:=Z2 (x:=x) (w:=w) R7;rw[EB]at J9;cases J9;rw[hz]at R8;cases R8;simp only[AO,CV,Ab]at IN;obtain⟨u0,A6,IN,⟨rfl,_⟩,rfl⟩:=IN;simp only[CV]at hY hZ;obtain⟨A,hA,_⟩:=hY;have Av : ∀r∈(l.map λn=>[C.int .i64 n]),G r=1:=by intro r hr;obtain⟨n,_,rfl⟩:=Da.1 hr;rfl
 obtain⟨B,c',zs,VE,k1,k2,k3,k4,k5,k6⟩:=T0 hZ Av;obtain⟨b,A1,rfl,_⟩:=k6 (by simpa using q);rw[Ch]at VE k1 k4;have FH:=pr l;rw[FH]at k3;have Gs:0<G l:=Kr.2 q;have Dz:G l*ie.bytes<=281474976710656:=by rw[je];have:=ua Q R;omega
 have Gb:Ay w w.drew:=(Ay.refl w).drew;obtain⟨g1,Mg⟩:=g.MF (x':=x) (w':=w.drew) Gb ⟨λ_ _ h=>h,λb j v _ hc=>Gb.cell hc⟩ rfl rfl (λb j h=>.inl h);have M : ∃m cap:Nat,(Builtin.append_ #[t,t] o.type #[a.eval y,a.eval z]).run P w=.ok (.slice (J ⟨w.heap.size,0,E⟩) (G l) cap) (w.drew.alloc (.cells (zs.toArray++KN zv.cells m) Ae))/\cap=G l+m/\cap<=maxLen:=by
  have JL:=grownCap_ge w (G l) 0 Ae;have A3:=grownCap_le_maxLen w (G l) 0 Ae (by unfold maxLen;omega);refine⟨grownCap w (G l) 0 Ae - G l,grownCap w (G l) 0 Ae,?_,Ux,A3⟩;rw[hA,VE];cases A with
  | none=>exact run_append_nil (P:=P) w t o.type Ae ie zv hu EB hz ⟨b,A1,E⟩ (G l) c' zs (by rw[k4,A0]) (k5 _ F) Gs Ux Dz
  | some ad=>have:=run_append_grow (P:=P) w t o.type Ae ie zv hu EB hz ad 0 0 [] ZA (λj v h=>by simp at h) ⟨b,A1,E⟩ (G l) c' zs (by rw[k4,A0]) (k5 _ F) Ux (by simp only[Cz];omega) (growslice_fits Ux (by rw[je];simp only[Cz];have:=ua Q R;omega));simp only[Cz,BU]at this;refine this.trans ?_;simp
 obtain⟨m,cap,M,Mf,A2⟩:=M;have S:AO x w.drew (CK (l++Aq m 0)) (zs.toArray++KN zv.cells m).toList:=by
  rw[Pq,Aa9 IN,AWM];refine AO.append ?_ (Aa7 m);have:=AO.mono Mg _ _ (AO.OS k3);rwa [List.map_map]at this
 obtain⟨g',he⟩:=g1.Zc k0 hk Ae _ _ S;refine⟨m,_,_,_,_,by simp[execOp,ho,resolve,invoke,builtin,M];rfl,.inl F,?_,g',Mg.trans he,λk h=>h.elim .inl λe=>.inr ⟨.box Ae (CK (l++Aq m 0)) U,by rw[e]⟩,λhb=>by rw[ho]at hb;cases hb⟩;simp only[CV,Cx.C4,Awg];refine⟨.inr W,W,cap,F,Ux,A2,?_⟩;have:=S.len;rw[Ts]at this;simp only[Cp,H6,FW]at this;show 0+cap*1<=(zs.toArray++KN zv.cells m).size;omega
theorem AUt (g:Good S0 w0 x w H){t:TypeId}{y z:Operand}(ho:o.op=.call ⟨.builtin .append,#[y,z],#[t,t]⟩){Ae:TypeId}{Bq:Nat}(hT:Dk P t=J (Ae,1,Bq))(R7:C2 P Ae=J [.c (.int .i64 0)]){l:List Int}(hY:CV x w (.Bg []) (a.eval y))(hZ:CV x w (.c (AV l)) (a.eval z))(R:l≠[])(B:G l<=1000000)(Q:Bq<=8)(M:Nat)(hk : ¬x.dom M) :
 ∃v S,(∀k q,S=J (k,q)->k<=M)/\(∃m:Nat,v=.own M 0 (G l) 1/\S=J (M,.box Ae (CK (l++Aq m 0)) U))/\BW P o a S0 w0 x w H v S:=by
 obtain⟨m,hm⟩:=AUr g ho hT R7 hY hZ R B Q M hk;exact⟨_,_,λk q e=>by cases e;exact BN _,⟨m,rfl,rfl⟩,hm⟩
end
def dr (c:Int):Bool:=decide (c=2) || (decide (c=1) || (decide (c=3) || (decide (c=4) || decide (c=6))))
def YD (c:Int):Bool:=decide (c=3) || (decide (c=5) || decide (c=6))
def Lx (d:List Int):Int:=d.getD (G d - 1) 0
def Pm (d:List Int)(c:Int):List Int:=
 if c=2/\(G d=0\/dr (Lx d)=I)then d++[0]
 else if YD c=I/\0<G d/\Lx d=2 then d.set (G d - 1) 0++[c]
 else d++[c]
theorem AZU (d:List Int)(c:Int):G (Pm d c)=G d+1:=by
 unfold Pm;split;simp;split<;>simp
def K8 (own:List Int):List Int:=own.foldl Pm []
def Uj (d:List Int):List Int:=if 0<G d/\Lx d=2 then d.set (G d - 1) 0 else d
def I6 (own:List Int):List Int:=Uj (K8 own)
theorem APb {own:List Int}{c:Int}(h:own[k]?=J c):K8 (own.take (k+1))=Pm (K8 (own.take k)) c:=by
 unfold K8;rw[List.take_add_one,h,List.foldl_append];rfl
theorem AFi : ∀(own d:List Int),G (own.foldl Pm d)=G d+G own
 | [],d=>ZA
 | c::r,d=>by simp only[Bw,AFi r,AZU,BA];omega
theorem xZ (own:List Int):G (K8 own)=G own:=by unfold K8;rw[AFi];simp
theorem APW (d:List Int):G (Uj d)=G d:=by unfold Uj;split<;>simp
theorem ef (own:List Int):G (I6 own)=G own:=by unfold I6;rw[APW,xZ]
theorem AnB :AC AF 75 [c] (.c (.bool (dr c))):=by
 unfold dr;refine en func75 ntmps75 ?_;exact wz results75 W
theorem Aml :AC AF 76 [c] (.c (.bool (YD c))):=by
 unfold YD;refine en func76 ntmps76 ?_;exact wz results76 W
theorem AV2 :AC AF 55 [c] (.c (.bool (dr c))):=by
 unfold dr;refine en func55 ntmps55 ?_;exact wz results55 W
theorem AIC {D:List Int}{j:Nat}(h:G D=j+1):Lx D=D.getD j 0:=by unfold Lx;rw[h];rfl
theorem ALJ {D:List Int}{c:Int}(h:c=2)(B:G D=0\/dr (Lx D)=I):Pm D c=D++[0]:=Awd ⟨h,B⟩
theorem AZS {D:List Int}{c:Int}(h : ¬c=2)(B:YD c=I)(M:0<G D)(Q:Lx D=2):Pm D c=D.set (G D - 1) 0++[c]:=by unfold Pm;rw[Awf (λe=>h e.1),Awd ⟨B,M,Q⟩]
theorem tF {D:List Int}{c:Int}(h : ¬(c=2/\(G D=0\/dr (Lx D)=I)))(B : ¬(YD c=I/\0<G D/\Lx D=2)):Pm D c=D++[c]:=by unfold Pm;rw[Awf h,Awf B]
theorem AOP:YD 2=false:=ZB
theorem bB (D:List Int)(c:Int)(r:List Int):(D++[c])++r=D++c::r:=ZA
theorem AnP (own:List Int)(hl:G own<=1000000):AC AF 44 [.c (AV own)] (.c (AV (I6 own))):=by
 by_cases A2:own=[]
 subst A2;have e:AV (I6 [])=.sl []:=F;have e2:AV []=.sl []:=F;rw[e,e2];refine en gS gv ?_;refine wu (.mk 1) kn trivial ⟨?_⟩;refine AW.DA ?_;refine SW.op (.Bg []) rfl rfl (λS0 w0 x a w ⟨g,_⟩=>AIv g rfl (by simp;exact⟨F,F,F⟩)) ?_;simp only[St.step,St.put,Bk,Ai,Ag];refine CY (.mk 3) trivial ?_;refine SW.nil ?_;refine wy kn trivial ⟨?_⟩;refine LA.loop (LA.round ?_);exact wz kn W;have Av:G (own.map λn=>[C.int .i64 n])=G own:=by rw[Ch]
 obtain⟨n,hn⟩:=AI (G own);have B1:0<n:=by rw[<-hn];exact Kr.2 A2
 refine en gS gv ?_;refine wu (.mk 1) kn trivial ⟨?_⟩;refine AW.DA ?_;refine SW.op (.Bg []) rfl rfl (λS0 w0 x a w ⟨g,_⟩=>AIv g rfl (by simp;exact⟨F,F,F⟩)) ?_;simp only[St.step,St.put,Bk,Ai,Ag];refine CY (.mk 1) trivial ?_;refine SW.OU (λv t=>∃m:Nat,v=.own 0 0 (G own) 1/\t=J (0,.box 3 (CK (own++Aq m 0)) U)) rfl (λS0 w0 x a w g ht hd=>?_) ?_;exact AUt (t:=39) (Ae:=3) (Bq:=8) g rfl ZA ZA (CW ht (.tmp 6)) (CW ht (.tmp 7)) A2 hl ZB 0 hd;rintro v t ⟨m,rfl,rfl⟩;simp only[St.step,St.put,Bk,BO,BU,IY,Awh,Ai,Ag];refine CY (.mk 1) trivial ?_;refine SW.nil ?_;rw[hn];refine wy kn trivial ⟨?_⟩;refine CX (ι:={ k:Nat // k<=n }) (λk=>[(4,(k.1:Int))]) (λk=>[.box 3 (CK (K8 (own.take k.1)++(own.drop k.1++Aq m 0))) U]) (λk=>n - k.1) ⟨0,ZA⟩ ?_ ?_;exact ER @K8.eq_1;rintro ⟨k,hk⟩;simp only;by_cases B:k<n;obtain⟨c,A5⟩:∃c,own[k]?=J c:=⟨_,BE Ux⟩
 have A9:own.drop k=c::own.drop (k+1):=by rw[D5 Ux,gx A5]
 have S:=APb A5;have M:G (K8 (own.take k))=k:=by rw[xZ,Fa];omega
 have B0:G (own.drop (k+1))=n - (k+1):=by rw[List.length_drop,hn]
 rw[A9,BK];obtain⟨D,hD⟩:=AI (K8 (own.take k));rw[hD]at S M ⊢;obtain⟨X,Q⟩:=AI (CK (D++c::(own.drop (k+1)++Aq m 0)));have Rh:G X=n+m:=by rw[<-Q,Ts];simp;omega
 have g0:X[k]?=J (.c (.int .i64 c)):=by rw[<-Q];exact AWB M
 have YO:=gx g0;have s0:X.set k (.c (.int .i64 0))=CK ((D++[0])++(own.drop (k+1)++Aq m 0)):=by rw[<-Q,ABG M 0,bB]
 have Ys:k+1<=n+m:=Ux;have xz:k<n+m:=Ux;rw[Q];have DK:=Aml c;clear Av;by_cases R:c=2;cases k with
 | zero=>rw[ALJ R (.inl M)]at S;rw[<-S]at s0;refine wy (cj8 @B @Rh @g0 @YO @s0 @Ys @xz @R kn) trivial ⟨?_⟩;exact⟨⟨0+1,Ux⟩,by simp only;omega,wd 1⟩
 | succ j =>
   have q:X[j]?=J (.c (.int .i64 (Lx D))):=by rw[<-Q,AIC M];exact AJX M
   have O7:=gx q;have A1:=AnB (Lx D);have hj:j<n:=Ux;have TS:(j:Int)+1<(n:Int):=Ux;have Wg : ¬(j:Int)+1=0:=Ux;have Rq:(0:Int)<=(j:Int)+1:=Ux;have A0:j<n+m:=Ux;cases ho:dr (Lx D)with
   | true=>rw[ALJ R (.inr ho)]at S;rw[<-S]at s0;rw[ho]at A1;refine wy (cj9 @B @Rh @g0 @YO @s0 @Ys @xz @R @q<|cj6 @O7 @hj @TS @Wg @Rq @A0 kn) (cj A1<|trivial) ⟨?_⟩;exact⟨⟨j+1+1,Ux⟩,by simp only;omega,wd 1⟩
   | false =>
     rw[tF (λe=>by rcases e.2 with e|e;omega;rw[ho]at e;cases e) (λe=>by rw[R,AOP]at e;cases e.1)]at S;rw[R,AOP]at DK;rw[ho]at A1;have Ye:X=CK (K8 (own.take (j+1+1))++(own.drop (j+1+1)++Aq m 0)):=by rw[<-Q,S,bB]
     refine wy (cj9 @B @Rh @g0 @YO @Ys @xz @R @q @O7<|cj5 @hj @TS @Wg @Rq @A0 kn) (cj2 A1 DK W) ⟨?_⟩;rw[Ye];exact⟨⟨j+1+1,Ux⟩,by simp only;omega,wd 1⟩
 cases Yj:YD c with
 | false =>
   rw[tF (λe=>R e.1) (λe=>by rw[Yj]at e;cases e.1)]at S;rw[Yj]at DK;have Ye:X=CK (K8 (own.take (k+1))++(own.drop (k+1)++Aq m 0)):=by rw[<-Q,S,bB]
   refine wy (cj7 @B @Rh @g0 @YO @Ys @xz @R kn) (cj DK<|trivial) ⟨?_⟩;rw[Ye];exact⟨⟨k+1,Ux⟩,by simp only;omega,wd 1⟩
 | true =>
   rw[Yj]at DK;cases k with
   | zero =>
     rw[tF (λe=>R e.1) (λe=>by have:=e.2.1;omega)]at S;have Ye:X=CK (K8 (own.take (0+1))++(own.drop (0+1)++Aq m 0)):=by rw[<-Q,S,bB]
     refine wy (cj7 @B @Rh @g0 @YO @Ys @xz @R kn) (cj DK<|trivial) ⟨?_⟩;rw[Ye];exact⟨⟨0+1,Ux⟩,by simp only;omega,wd 1⟩
   | succ j =>
     have q:X[j]?=J (.c (.int .i64 (Lx D))):=by rw[<-Q,AIC M];exact AJX M
     have O7:=gx q;have hj:j<n:=Ux;have TS:(j:Int)+1<(n:Int):=Ux;have Wg:(0:Int)<(j:Int)+1:=Ux;have Rq:(0:Int)<=(j:Int)+1:=Ux;have A0:j<n+m:=Ux;have A8:j+1<=n+m:=Ux;by_cases PK:Lx D=2;rw[AZS R Yj Ux PK,M,show j+1 - 1=j by omega]at S;have s1:X.set j (.c (.int .i64 0))=CK (K8 (own.take (j+1+1))++(own.drop (j+1+1)++Aq m 0)):=by rw[<-Q,AJz M 0,S,bB]
     refine wy (cj9 @B @Rh @g0 @YO @Ys @xz @R @q @O7<|cj8 @hj @TS @Wg @Rq @A0 @A8 @PK @s1 kn) (cj DK<|trivial) ⟨?_⟩;exact⟨⟨j+1+1,Ux⟩,by simp only;omega,wd 1⟩;rw[tF (λe=>R e.1) (λe=>PK e.2.2)]at S;have Ye:X=CK (K8 (own.take (j+1+1))++(own.drop (j+1+1)++Aq m 0)):=by rw[<-Q,S,bB]
     refine wy (cj9 @B @Rh @g0 @YO @Ys @xz @R @q @O7<|cj6 @hj @TS @Wg @Rq @A0 @PK kn) (cj DK<|trivial) ⟨?_⟩;rw[Ye];exact⟨⟨j+1+1,Ux⟩,by simp only;omega,wd 1⟩
 have e1:own.take k=own:=Gl Ux;have e2:own.drop k=[]:=FA Ux;have ek:k=n:=Ux;rw[e1,e2,BU];have M:G (K8 own)=n:=by rw[xZ,hn]
 unfold I6;generalize hD:K8 own=D at M ⊢;obtain⟨p,hp⟩:∃p,n=p+1:=⟨n - 1,Ux⟩
 subst ek;subst hp;obtain⟨X,Q⟩:=AI (CK (D++Aq m 0));have Rh:G X=p+1+m:=by rw[<-Q,Ts];simp;omega
 have q:X[p]?=J (.c (.int .i64 (Lx D))):=by rw[<-Q,AIC M];exact AJX M
 have O7:=gx q;have A6:p<p+1+m:=Ux;have A3:p+1<=p+1+m:=Ux;have A7:(p:Int)<(p:Int)+1:=Ux;by_cases PK:Lx D=2;have hF:Uj D=D.set p 0:=by unfold Uj;rw[Awd ⟨Ux,PK⟩,M];rfl
 have s1:X.set p (.c (.int .i64 0))=CK (D.set p 0++Aq m 0):=by rw[<-Q];exact AJz M 0
 have z:=Zl (D.set p 0) (Aq m 0);rw[List.length_set,M]at z;rw[hF,Q];refine wu (.mk 12) (cj9 @B @Rh @q @O7 @A6 @A3 @A7 @PK @s1 kn) trivial ⟨?_⟩;refine AW.Bi 0 rfl (XK _) (by simp only[V.Cs,V.Bi,B9,z,Awg];exact rfl) (by simp only[Ag,Ap,BB,O.Bi,Zm];exact rfl) ?_;unfold AV;exact wz kn W;have hF:Uj D=D:=by unfold Uj;rw[Awf (λe=>PK e.2)]
 have z:=Zl D (Aq m 0);rw[M]at z;rw[hF,Q];refine wu (.mk 12) (cj8 @B @Rh @q @O7 @A6 @A3 @A7 @PK kn) trivial ⟨?_⟩;rw[<-Q];refine AW.Bi 0 rfl (XK _) (by simp only[V.Cs,V.Bi,B9,z,Awg];exact rfl) (by simp only[Ag,Ap,BB,O.Bi,Zm];exact rfl) ?_;unfold AV;exact wz kn W
section
variable {P:Program} {K:Exit->St->Prop} {ops:List Oper} {s:St}
theorem SW.AOB {o:Oper}{r:List Oper}{f gf:FuncId}{ty:TypeId}{cs:List C}{vs:Array Value}{fn:Func}(hN : ∀w:World,Calls P f #[] w λe w'=>e=.returned (.func (.func gf) #[] #[.pointer (J ⟨w.heap.size,0,E⟩)])/\w'=w.alloc (.cells vs ty))(Ml : ∀(S:BF) (w:World),B4 S w cs vs.toList)(hf:P.funcs[f]?=J fn)(hb:fn.body.isSome=I)(hn:(fn.name == "runtime.NumGoroutine")=U)(hg:BQ ops s.t o.guard=J I)(B:C7 (ev s.t) o.op=J (f,[]))(h:SW P ops K r (s.step o.dst (.fn gf [.ptr (G s.h) 0]) (J (G s.h,.box ty (cs.map V.c) U)))):SW P ops K (o::r) s:=λS0 w0 x a w Q=>by
 have hw:Region.wanted o (yielded ops.toArray a.tmps)=true:=by
  have:=KR (o:=o) Q.tm (IF (ops:=ops) (K1:=True) (K2:=False) hg W);exact Kn λh=>this.2 h
 unfold wpList;rw[Awd hw];refine .inl ?_;unfold C7 at B;split at B
 case h_2=>cases B
 rename_i fo ar Fk ho;split at B
 case h_2=>cases B
 rename_i f' A1 FG;simp only[BL,Cr,List.append_eq_nil_iff,List.map_eq_nil_iff]at B;obtain⟨rfl,CZ,rfl⟩:=B;have q:ar=#[]:=Gx.1 CZ;subst q;have M:=Pp (CW Q.tm fo);rw[FG]at M;simp only[CV]at M;obtain⟨Dl,M,EP⟩:=M;have A0:Dl=#[]:=by
  simp only[AO]at EP;exact Gx.1 EP
 subst A0;have g:=Q.good;have CT:fn.body≠none:=by intro e;rw[e]at hb;cases hb
 have F6:fn.name≠ "runtime.NumGoroutine":=by simpa using hn
 have R:(execOp a.eval o).run P w=.ok (.enter f' #[]) w:=by
  simp[execOp,ho,resolve,M,M5,invoke,callFunc,program,Sem.run,hf,F6,CT]
 unfold Oper.wp;rw[R];refine(hN w).mono ?_;rintro r' w' ⟨rfl,rfl⟩;have hk : ¬x.dom (G s.h):=λhd=>by
  obtain⟨ob,h⟩:=g.dom _ hd;simp at h
 obtain⟨g',he⟩:=g.Zc (G s.h) hk ty (cs.map V.c) vs (AO.OS (Ml x.S w));have CB:NC w (w.alloc (.cells vs ty)):=.FR ((Ay.refl w).alloc _);have e:=Kj s.h (J (G s.h,O.box ty (cs.map V.c) U)) (λk' o' e=>by cases e;exact BN _);have z:Good S0 w0 (x.C4 (G s.h) ⟨w.heap.size,vs.size,U,0,U⟩) (w.alloc (.cells vs ty)) (λi=>(Bk s.h (J (G s.h,O.box ty (cs.map V.c) U)))[i]?):=by rw[e];exact g'
 exact h S0 w0 _ _ _ (Bo.put Q.tm (Q.df.mono CB) he z (by
  simp only[CV,AO,Cx.C4,Awg];exact⟨_,F,_,_,F,⟨.inr W,W,F⟩,F⟩) o.dst)
end
section
variable {P:Program} {ops:List Oper} {K:List Ef->St->Prop}
theorem TW.pJ {o:Oper}{r:List Oper}{q:List Ef}{s:St}{f:FuncId}{args Bd:List V}{ty:TypeId}{cs:List V}{cells B:List C}{res:V}{fn:Func}(k:Nat)(K9:AX P f Bd ty cells B res)(hf:P.funcs[f]?=J fn)(hb:fn.body.isSome=I)(hn:(fn.name == "runtime.NumGoroutine")=U)(hg:BQ ops s.t o.guard=J I)(M:C7 (ev s.t) o.op=J (f,args))(hp:V.Dj k args=J Bd)(hk:s.h[k]?=J (.box ty cs U))(A5:toCs cs=J cells)(h:TW P ops K r (q++[⟨res,J (k,.box ty (B.map V.c) U),J k⟩]) (s.step o.dst res (J (k,.box ty (B.map V.c) U)))):TW P ops K (o::r) q s:=by
 obtain⟨es,s2,h2,h3⟩:=h;refine⟨⟨res,J (k,.box ty (B.map V.c) U),J k⟩::es,s2,⟨_,es,F,?_,(λk' ob e=>by cases e;exact LZ (Br.1 hk).1),h2⟩,by simpa using h3⟩;intro S0 w0 x w a H g hl hr _ Q next EH;rw[QF hl hg];show o.wp P a w next Q;have A2:=QR hl;have QH:H k=J (.box ty cs U):=(hr k (.inl F)).trans hk;unfold C7 at M;split at M
 case h_2=>cases M
 rename_i fo z Fk ho;split at M
 case h_2=>cases M
 rename_i f' A0 FG;simp only[BL,Cr]at M;obtain⟨rfl,rfl⟩:=M;have R:=Pp (A2 fo (by simp[ho,Bl,Df]));rw[FG]at R;simp only[CV]at R;obtain⟨Dl,R,EP⟩:=R;have Hw:AO x w (z.toList.map (ev s.t)++A0) (z.toList.map a.eval++Dl.toList):=(AO.of_map λy hy=>A2 y (by simp[ho,Bl,Df];exact .inr (by simpa using hy))).append EP;obtain⟨hd,b1,b2,vs,b3,b4,b5⟩:=g.ok k _ QH;have Fh:=toCs_ok A5 b5;have PO : ∀j,j<vs.size->¬x.S (x.loc k).b j:=λj hj=>g.EA k _ j QH ⟨rfl,Ux⟩
 have Co:=K9 x.S w _ (x.loc k).b vs g.ex PO b3 Fh (Qn _ _ _ hp Hw);have CT:fn.body≠none:=by intro e;rw[e]at hb;cases hb
 have F6:fn.name≠ "runtime.NumGoroutine":=by simpa using hn
 have A3:(execOp a.eval o).run P w=.ok (.enter f' (z.toList.map a.eval++Dl.toList).toArray) w:=by
  have e1:(z.map a.eval++Dl)=(z.toList.map a.eval++Dl.toList).toArray:=by apply Gx.1;simp
  simp[execOp,ho,resolve,R,M5,invoke,callFunc,program,Sem.run,hf,F6,CT,e1]
 unfold Oper.wp;rw[A3];refine Co.mono ?_;rintro r' w' ⟨u,S',Bz,rfl,A1,CZ,Gc,h1,h2,h3,h4⟩;have A6:=(g.ok k _ QH).2.lt b2;have he:Ext x { x with S:=S' } w w':=⟨CZ,λ_ h=>h,λ_ _=>FM.refl _⟩
 have g':=g.H5 (x':={ x with S:=S' }) k (.box ty (B.map V.c) U) he (A1.wide λb e=>⟨hd,b2,e.symm⟩) (λi=>⟨.inl,λh=>h.elim id λe=>e ▸ hd⟩) (λ_ _=>rfl) (λ_=>.inl ⟨hd,b2,rfl⟩)
  ⟨b1,b2,Bz,h1,by rw[h2,b4],AO.OS h3⟩ (λb j hs=>(Gc b j hs).imp id λh=>h.elim (λh=>⟨h.2,.inl h.1,λe=>by have:(x.loc k).b=b:=e;omega⟩) (λh=>⟨by rw[h.1];exact H7 A6 A1.size,.inr ⟨hd,b2,h.1.symm⟩,λ_ hx=>by have h5:j<(x.loc k).n:=hx.2;have h6:=h.2;omega⟩)) (λj hx=>g.EA k _ j QH hx)
 exact EH u _ w' g' he (CV.mono (Ub S' x w') _ _ h4)
end
theorem AUa (w:World):Calls AF 144 #[] w λe w'=>e=.returned (.func (.func 190) #[] #[.pointer (J ⟨w.heap.size,0,E⟩)])/\w'=w.alloc (.cells #[.int .i64 0] 3):=by
 go_enter func144,ntmps144;go_wp2;go_ret;exact⟨F,F⟩
theorem AUZ (e sp wd:Int)(Q : -9000000000000000000<=e+sp)(R:e+sp<=9000000000000000000)(S : -9000000000000000000<=e+sp+wd)(q:e+sp+wd<=9000000000000000000):AX AF 190 [sp,wd,.ptr 0 0] 3 [.int .i64 e] [.int .i64 (e+sp+wd)] (.c (.int .i64 (e+sp))):=by
 have B:AZ.wrap (e+sp)=e+sp:=Ac;have M:AZ.wrap (e+sp+wd)=e+sp+wd:=Ac;refine AX.intro func190 rfl ?_;simp only[ntmps190,Ap,BB,BA,BO,Nat.reduceAdd,Nat.reduceSub,BY,Cy,BK,BU];refine go (cj @B<|@M) ?_;simp[Xy,DV,C0,DE,V.CP,V.CF,CJ,toCs,toC,results190]
end Go.Proofs.YtegconioojpgmaaGreat
