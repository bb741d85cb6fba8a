/- Part of the proof of displayBest.proved. Conditions: none. -/
import Derived.Lib.Bytealg
import Derived.Test.YtlpomcliejmedaaGreatW3
set_option linter.unusedVariables false
set_option linter.unusedSimpArgs false
set_option maxRecDepth 100000
set_option maxHeartbeats 16000000
open List renaming map_cons→Ap,length_cons→BA,mem_cons→Cf,take_of_length_le→Gl,length_map→Ch,getElem?_map→CM,cons_append→BK,append_nil→E5,length_append→Cp,getElem?_eq_some_iff→Br,replicate→Aq,nodup_cons→Xm,any_eq_true→aH,getElem?_take→KO,all_eq_true→ES,mem_of_getElem?→Cj,nil_append→BU,mem_append→MJ,map_append→Fm,getD_eq_getElem?_getD→Bv,replicate_succ→BY,mem_map→Da,getElem?_set→RD,length_set→GF,getElem?_append_left→EJ,getElem?_append_right→Gy,getElem?_set_self→IX,replicate_zero→Cy,getElem?_set_ne→HF,set_append_right→Vg,set_cons_zero→Ag,set_cons_succ→Ai,set_set→aK,length_replicate→H6,append_assoc→GX,set_append_left→gC,map→Vf,map_set→fy,getElem?_eq_getElem→BE
open Nat renaming le_refl→BN,le_of_not_lt→Hq,zero_add→Cz,lt_of_lt_of_le→H7,le_of_lt→LZ,mul_le_mul→ua
open Go.Lib renaming indexByte→EF
open Bool renaming and_eq_true→Ak,true_and→Cd,eq_iff_iff→Oj,not_eq_true'→tl,false_and→D4,and_false→LV
open ByteArray renaming size_extract→fg
open Option.some renaming injEq→BL,inj→ML
open Option renaming map_eq_some_iff→Ia
open Go.Region renaming wanted→FB
open Classical renaming byContradiction→Kn
open Prod.mk renaming injEq→Cr
open Array renaming toList_inj→Gx,getElem?_eq_some_iff→DO,replicate→M4,toList_append→Pq,toList_replicate→T8
open Go.Deferred renaming ofValue→M5
open Go.Sem renaming run→HW
open Go.Oper renaming wp→Er
open Go.Fence renaming wide→Cg
open Go.Op renaming operands→Bl
open Go.Call renaming operands→Df
open Go.Proofs.Tryz renaming prog→AF,underlying9→Lb,underlying154→ADY,underlying4→Vq,func118→ug,f130→mw
open Go.Maps renaming string_keyed→me
open Go.WideMaps renaming keyOf_string_mk→n6
open Go.DataW.lit renaming injEq→ACh
open Go.Lit renaming string→Vh
open Go.World renaming putObj_heap_other→Pz
open Go.IntKind renaming i64→AZ
open Go.Builtin renaming zeroCells→KN
open Go.Value renaming int→vj
namespace Go.Proofs.YtlpomcliejmedaaGreat
open Go.RowKit Tryz
variable {i:Nat}{m:Nat}{s:ByteArray}{o:Oper}{r:List Oper}{ty:TypeId}{res:V}{fn:Func}{acc:List Ef}{P:Program}{K:Exit->St->Prop}{w:World}{e:Ef}{M:ByteArray->Bool}{args:List V}{h':List O}{ch:List PanicEntry}{x:Cx}{s1:St}{Bd:List V}{R:Nat->Obj->Prop}{N:Nat}(l:List Int)(H:List O)(k:Nat)
structure Nd where
 kind:Int
 text:ByteArray
 AL:Int
 AE:List Nd
mutual
def Nd.row:Nd->List C
 | ⟨k,t,c,AE⟩=>[.int .i64 k,.str t,.int .i64 c,.sl (Nd.AG AE)]
def Nd.AG:List Nd->List (List C)
 | []=>[]
 | n::l=>n.row::Nd.AG l
end
theorem Zd : ∀l:List Nd,Nd.AG l=l.map Nd.row
 | []=>rfl
 | n::l=>by simp only[Nd.AG,Ap,Zd l]
mutual
def Nd.cnt:Nd->Nat
 | ⟨_,_,_,AE⟩=>1+Nd.Az AE
def Nd.Az:List Nd->Nat
 | []=>0
 | n::l=>n.cnt+Nd.Az l
end
mutual
def Nd.dep:Nd->Nat
 | ⟨_,_,_,AE⟩=>Nd.deps AE+1
def Nd.deps:List Nd->Nat
 | []=>0
 | n::l=>max n.dep (Nd.deps l)
end
mutual
def Nd.BX:Nd->Prop
 | ⟨_,t,_,AE⟩=>t.size<=maxLen/\AE.length<=maxLen/\Nd.FY AE
def Nd.FY:List Nd->Prop
 | []=>True
 | n::l=>n.BX/\Nd.FY l
end
theorem ry (b:Nd):0<b.cnt:=by cases b;simp only[Nd.cnt];omega
theorem SH : ∀l:List Nd,l.length<=Nd.Az l
 | []=>BN _
 | b::l=>by have:=SH l;have:=ry b;simp only[Nd.Az,BA];omega
theorem di : ∀ {l:List Nd},Nd.FY l->∀b∈l,b.BX
 | _::_,h,b,B=>by
   rcases Cf.1 B with rfl|B
   exact h.1;exact di h.2 b B
def Nd.vs (b:Nd):List V:=b.row.map V.c
def Am (b:Nd):V:=.agg b.vs
section
variable (b:Nd)
@[simp] theorem Nd.Xf:b.vs.length=4:=by cases b;rfl
@[simp] theorem Nd.ACP:b.vs.all V.one=true:=by cases b;rfl
@[simp] theorem Nd.ACR:b.vs.take 4=b.vs:=Gl (by simp)
@[simp] theorem Nd.ACN:b.vs[0]?=some (.c (.int .i64 b.kind)):=by cases b;rfl
@[simp] theorem Nd.ACG (h:0<b.vs.length):b.vs[0]'h=.c (.int .i64 b.kind):=by cases b;rfl
@[simp] theorem Nd.AL7:b.vs[1]?=some (.c (.str b.text)):=by cases b;rfl
@[simp] theorem Nd.AL5 (h:1<b.vs.length):b.vs[1]'h=.c (.str b.text):=by cases b;rfl
@[simp] theorem Nd.AL8:b.vs[2]?=some (.c (.int .i64 b.AL)):=by cases b;rfl
@[simp] theorem Nd.AL6 (h:2<b.vs.length):b.vs[2]'h=.c (.int .i64 b.AL):=by cases b;rfl
@[simp] theorem Nd.ACO:b.vs[3]?=some (.c (.sl (Nd.AG b.AE))):=by cases b;rfl
@[simp] theorem Nd.ACI (h:3<b.vs.length):b.vs[3]'h=.c (.sl (Nd.AG b.AE)):=by cases b;rfl
@[simp] theorem Nd.tX:V.CF b.vs=some b.vs:=Zq b.row
@[simp] theorem Nd.ACS:toCs b.vs=some b.row:=toCs_c b.row
@[simp] theorem Nd.AL9 (cs:List V)(h:cs.length=4):E8 cs 0 b.vs=b.vs:=kz (by simp[h])
@[simp] theorem Nd.Nk:b.row.length=4:=by cases b;rfl
@[simp] theorem Nd.ABb:b.row.map V.c=b.vs:=rfl
@[simp] theorem Nd.AKV:b.row.take 4=b.row:=Gl (by simp)
@[simp] theorem Nd.AXz:b.row[0]?=some (.int .i64 b.kind):=by cases b;rfl
@[simp] theorem Nd.AX0:b.row[1]?=some (.str b.text):=by cases b;rfl
@[simp] theorem Nd.AX1:b.row[2]?=some (.int .i64 b.AL):=by cases b;rfl
@[simp] theorem Nd.AX2:b.row[3]?=some (.sl (Nd.AG b.AE)):=by cases b;rfl
@[simp] theorem Nd.tW (n:Nat):V.BI n b.vs=true:=by cases b;simp[Nd.vs,Nd.row,V.BI,V.A8]
@[simp] theorem Nd.ACQ (row:List C):V.Cs k row b.vs=b.vs:=by cases b;simp[Nd.vs,Nd.row,V.Cs,V.Bi]
end
theorem Pc (l:List Nd):(Nd.AG l).length=l.length:=by rw[Zd,Ch]
theorem XG {l:List Nd}{b:Nd}(h:l[i]?=some b):(Nd.AG l)[i]?=some b.row:=by rw[Zd,CM,h];rfl
theorem kf (b:Nd)(h:b.BX):b.text.size<=maxLen/\b.AE.length<=maxLen/\Nd.FY b.AE:=by cases b;simpa only[Nd.BX]using h
theorem Tm (b:Nd):b.cnt=1+Nd.Az b.AE:=by cases b;rfl
theorem ke (b:Nd):b.dep=Nd.deps b.AE+1:=by cases b;rfl
mutual
def Nd.Qb:Nd->Int->Int
 | ⟨_,_,_,AE⟩,m=>Nd.OO AE (m - 1)
def Nd.OO:List Nd->Int->Int
 | [],m=>m
 | b::l,m=>if 0<=m then Nd.OO l (b.Qb m)else m
end
mutual
theorem AAX : ∀(b:Nd) (m:Int),0<=m-> -1<=b.Qb m/\b.Qb m<=m/\(0<=b.Qb m->b.Qb m=m - b.cnt)/\((b.cnt:Int)<=m->0<=b.Qb m)
 | ⟨_,_,_,E⟩,m,F=>by
   have:=AID E (m - 1);simp only[Nd.Qb,Nd.cnt];have B:=this (by omega);refine⟨by omega,by omega,λh=>?_,λh=>?_⟩;have:=B.2.2.1 h;omega;exact B.2.2.2 (by omega) (by omega)
theorem AID : ∀(l:List Nd) (m:Int),-1<=m-> -1<=Nd.OO l m/\Nd.OO l m<=m/\(0<=Nd.OO l m->Nd.OO l m=m - Nd.Az l)/\((Nd.Az l:Int)<=m->0<=m->0<=Nd.OO l m)
 | [],m,J=>by simp only[Nd.OO,Nd.Az];omega
 | b::l,m,J=>by
   simp only[Nd.OO,Nd.Az];split;rename_i F;have B:=AAX b m F;have G:=AID l (b.Qb m) B.1;refine⟨by omega,by omega,λh=>?_,λh _=>?_⟩;have E:=G.2.2.1 h;have I:=B.2.2.1 (by omega);omega;have E:=B.2.2.2 (by omega);have I:=B.2.2.1 E;exact G.2.2.2 (by omega) E;refine⟨by omega,by omega,λh=>by omega,λh F=>by omega⟩
end
theorem AUh (b:Nd)(m:Int)(E:0<=m):decide (0<=b.Qb m)=decide ((b.cnt:Int)<=m):=by
 have h:=AAX b m E;rw[decide_eq_decide];constructor;intro B;have:=h.2.2.1 B;omega;exact h.2.2.2
def Nc (c:Int):Bool:=decide (97<=c/\c<=122) || decide (65<=c/\c<=90)
def NJ (c:Int):Bool:=decide (48<=c/\c<=57)
def Qm (c:Int):Bool:=decide (32<=c/\c<=126)
def Lq (s:ByteArray)(c:Int):Bool:=s.data.toList.any λb=>decide ((b.toNat:Int)=c)
def lP:ByteArray:=⟨#[43,45,42,47,61,60,62,44,59,58,33,124,39,63,126,64]⟩
def RX:ByteArray:=⟨#[40,41,91,93,123,125,124,60,62,47,46]⟩
def TC:ByteArray:=⟨#[40,41,91,93,123,125,60,62,47,124,46]⟩
def bT (c:Int):Bool:=Nc c || Lq lP c
def FC (p:Int->Bool)(s:ByteArray):Bool:=s.data.toList.all λb=>p b.toNat
def kQ:List ByteArray:=[⟨#[102,114,97,99]⟩,⟨#[114,111,111,116]⟩,⟨#[109,97,116,114,105,120]⟩,⟨#[102,101,110,99,101]⟩]
def N0:List ByteArray:=[⟨#[104,97,116]⟩,⟨#[98,97,114]⟩,⟨#[118,101,99]⟩,⟨#[100,111,116]⟩,⟨#[116,105,108,100,101]⟩,⟨#[99,104,101,99,107]⟩]
def NY (l:List ByteArray)(s:ByteArray):Bool:=l.any λt=>decide (t=s)
def Z1 (s:ByteArray):Bool:=if s.size=1 then FC bT s else FC Nc s && (decide (2<=s.size) && (decide (s.size<=16) && (!NY kQ s && !NY N0 s)))
def Mu (n:Nat):List UInt8->Nat->Int->Option Int
 | [],_,p=>some p
 | b::l,k,p=>if (b.toNat:Int)=46/\0<k/\k+1<n then Mu n l (k+1) (p+1)else if NJ b.toNat=true then Mu n l (k+1) p else none
def dj (s:ByteArray):Bool:=match Mu s.size s.data.toList 0 0 with
 | none=>false
 | some p=>decide (0<s.size) && (decide (s.size<=20) && decide (p<=1))
def Ug (s:ByteArray):Bool:=FC NJ s && !decide (s.size=0)
def AAn (s:ByteArray):Bool:=
 decide (s.size<=20) && (if 0<=EF s.data.toList 46 then Ug (s.extract 0 (EF s.data.toList 46).toNat) && Ug (s.extract ((EF s.data.toList 46).toNat+1) s.size)else Ug s)
def Ki (k:Int)(s:ByteArray):Bool:=
 if k=2 then Z1 s
 else if k=3 then dj s
 else if k=4 then decide (s.size<=200) && FC Qm s
 else if k=10 then NY N0 s
 else if k=11 then decide (s.size=2) && FC (Lq RX) s
 else decide (s=⟨#[]⟩)
def FL (k c:Int)(n:Nat):Bool:=
 if k=12 then decide (1<=c) && (decide (c<=16) && (decide (1<=n) && (decide (n<=256) && decide ((n:Int).tmod c=0))))
 else if c≠0 then false
 else if k=1 then decide (n<=200)
 else if k=2\/k=3\/k=4 then decide (n=0)
 else if k=5\/k=6\/k=7\/k=8 then decide (n=2)
 else if k=9 then decide (n=3)
 else if k=10\/k=11 then decide (n=1)
 else false
def Nd.Cl (b:Nd):Bool:=Ki b.kind b.text && FL b.kind b.AL b.AE.length
def Pa (k k':Int):Bool:=decide (k'=1)==decide (k=1)
mutual
def Nd.Jb:Nd->Bool
 | ⟨k,t,c,AE⟩=>(Ki k t && FL k c AE.length) && Nd.MY k AE
def Nd.MY (k:Int):List Nd->Bool
 | []=>true
 | b::l=>(!Pa k b.kind && b.Jb) && Nd.MY k l
end
def Nd.Ad (b:Nd):Bool:=decide (b.kind=1) && (b.Jb && (decide (b.cnt<=1000) && decide (b.dep<=24)))
theorem dg (b:Nd):b.Jb=(b.Cl && Nd.MY b.kind b.AE):=by cases b;simp only[Nd.Jb,Nd.Cl]
mutual
def Nd.pv (dep:Nat):Nd->Nat->Bool×Nat
 | ⟨k,t,c,AE⟩,n=>if 1000<n+1\/24<dep\/(Ki k t && FL k c AE.length)=false then(false,n+1)else Nd.HU (dep+1) k AE (n+1)
def Nd.HU (dep:Nat)(k:Int):List Nd->Nat->Bool×Nat
 | [],n=>(true,n)
 | b::l,n=>if Pa k b.kind=true then(false,n)else if (b.pv dep n).1=true then Nd.HU dep k l (b.pv dep n).2 else(false,(b.pv dep n).2)
end
mutual
theorem AAj (E:Nat):∀(b:Nd) (n:Nat),(b.pv E n).2<=n+b.cnt/\((b.pv E n).1=true->(b.pv E n).2=n+b.cnt)/\((b.pv E n).1=true↔b.Jb=true/\n+b.cnt<=1000/\E+b.dep<=25)
 | ⟨k,t,c,G⟩,n=>by
   have S:=AIk (E+1) k G (n+1);simp only[Nd.pv,Nd.cnt,Nd.Jb,Nd.dep];generalize z:(Ki k t && FL k c G.length)=B;have hc:=SH G;split;rename_i F;refine⟨by simp only;omega,λh=>(by cases h),⟨λh=>(by cases h),λh=>?_⟩⟩;simp only[Ak]at h;rcases F with F|F|F
   omega;omega;rw[F]at h;cases h.1.1;rename_i F;have W:B=true:=by cases B with
    | true=>rfl
    | false=>exact absurd (.inr (.inr rfl)) F
   refine⟨by omega,λh=>by have:=S.2.1 h;omega,?_⟩;rw[S.2.2,W,Cd];have U:E<=24:=Hq λh=>F (.inr (.inl h))
   have q:n+1<=1000:=Hq λh=>F (.inl h)
   constructor;rintro ⟨I,J,Q⟩;refine⟨I,?_,?_⟩;rcases J with J|rfl
   omega;simp only[Nd.Az];omega;rcases Q with rfl|Q
   simp only[Nd.deps];omega;omega;rintro ⟨I,J,Q⟩;exact⟨I,.inl (by omega),.inr (by omega)⟩
theorem AIk (B:Nat)(k:Int):∀(l:List Nd) (n:Nat),(Nd.HU B k l n).2<=n+Nd.Az l/\((Nd.HU B k l n).1=true->(Nd.HU B k l n).2=n+Nd.Az l)/\((Nd.HU B k l n).1=true↔Nd.MY k l=true/\(n+Nd.Az l<=1000\/l=[])/\(l=[]\/B+Nd.deps l<=25))
 | [],n=>by simp[Nd.HU,Nd.Az,Nd.MY]
 | b::l,n=>by
   have Q:=AAj B b n;have S:=AIk B k l (b.pv B n).2;have q:=ry b;simp only[Nd.HU,Nd.Az,Nd.MY,Nd.deps];by_cases G:Pa k b.kind=true;rw[if_pos G,G];refine⟨by simp only;omega,λh=>(by cases h),⟨λh=>(by cases h),λh=>?_⟩⟩;simp at h;rw[if_neg G];have W:Pa k b.kind=false:=by simpa using G
   rw[W,Bool.not_false,Cd];split;rename_i I;have e:=Q.2.1 I;rw[e]at S;obtain⟨U,z,p3⟩:=Q.2.2.1 I;rw[e];refine⟨by omega,λh=>by have:=S.2.1 h;omega,?_⟩;rw[S.2.2,U,Cd];constructor;rintro ⟨J,E,F⟩;refine⟨J,.inl ?_,.inr ?_⟩;rcases E with E|rfl
   omega;simp only[Nd.Az];omega;rcases F with rfl|F
   simp only[Nd.deps];omega;omega;rintro ⟨J,E,F⟩;simp only[reduceCtorEq,or_false,false_or]at E F;exact⟨J,.inl (by omega),.inr (by omega)⟩;rename_i I;refine⟨by simp only;omega,λh=>(by cases h),⟨λh=>(by cases h),λh=>?_⟩⟩;simp only[Ak,reduceCtorEq,or_false,false_or]at h;exact absurd (Q.2.2.2 ⟨h.1.1,by omega,by omega⟩) I
end
theorem AUj (b:Nd)(B:b.kind=1):(b.pv 1 0).1=b.Ad:=by
 have h:=(AAj 1 b 0).2.2;unfold Nd.Ad;rw[Oj,h];simp only[Ak,decide_eq_true_eq];constructor;rintro ⟨a,b,c⟩;exact⟨B,a,by omega,by omega⟩;rintro ⟨_,a,b,c⟩;exact⟨a,by omega,by omega⟩
theorem r6 (n:Nat):∀(w r:List UInt8) (k:Nat) (p:Int),(∀b∈w,¬(b.toNat:Int)=46)->Mu n (w++r) k p=if w.all (λb=>NJ b.toNat)=true then Mu n r (k+w.length) p else none
 | [],r,k,p,_=>by simp
 | b::w,r,k,p,h=>by
   have E:=h b List.mem_cons_self;simp only[BK,Mu];rw[if_neg (λe=>E e.1)];rw[r6 n w r (k+1) p (λx F=>h x (List.mem_cons_of_mem _ F))];rw[BA,show k+1+w.length=k+(w.length+1)by omega];by_cases B:NJ b.toNat=true;rw[if_pos B];simp only[List.all_cons,B,Cd];rw[if_neg B];simp[B]
theorem xI:NJ 46=false:=by decide
theorem AAk (n:Nat):∀(l:List UInt8) (k:Nat) (p q:Int),Mu n l k p=some q->p<=q/\((∃b∈l,(b.toNat:Int)=46)->p+1<=q)
 | [],k,p,q,h=>by simp[Mu]at h;subst h;simp
 | b::l,k,p,q,h=>by
   simp only[Mu]at h;split at h;rename_i F;have:=(AAk n l (k+1) (p+1) q h).1;exact⟨by omega,λ_=>by omega⟩;split at h;rename_i E;have:=AAk n l (k+1) p q h;refine⟨this.1,λ⟨x,B,e⟩=>?_⟩;rcases Cf.1 B with rfl|B
   rw[e,xI]at E;cases E;exact this.2 ⟨x,B,e⟩;cases h
theorem kM : ∀(l:List UInt8) (c:UInt8),(EF l c= -1/\∀b∈l,b≠c)\/∃w r,l=w++c::r/\EF l c=w.length/\∀b∈w,b≠c
 | [],c=>.inl ⟨rfl,by simp⟩
 | b::l,c=>by
   by_cases h:b=c;subst h;exact .inr ⟨[],l,rfl,by simp[EF],by simp⟩;rcases kM l c with ⟨E,F⟩|⟨w,r,E,F,G⟩
   refine .inl ⟨by simp[EF,h,E],λx B=>?_⟩;rcases Cf.1 B with rfl|B
   exact h;exact F x B;refine .inr ⟨b::w,r,by rw[E];rfl,?_,λx B=>?_⟩;simp only[EF,beq_iff_eq,h,if_false,F];rw[if_neg (by omega)];simp;rcases Cf.1 B with rfl|B
   exact h;exact G x B
theorem rl {b:UInt8}(h:b≠46):¬(b.toNat:Int)=46:=λe=>h (UInt8.toNat_inj.1 (by have:(46:UInt8).toNat=46:=rfl;omega))
theorem ADv (p:Int->Bool)(s:ByteArray)(a e:Nat):FC p (s.extract a e)=((s.data.toList.drop a).take (e - a)).all λb=>p b.toNat:=by
 unfold FC;rw[ByteArray.data_extract,Array.toList_extract]
theorem AUl (s:ByteArray):AAn s=dj s:=by
 obtain⟨l,I⟩:=AI s.data.toList;have hs:s.size=l.length:=by rw[<-I];simp
 unfold AAn dj;rw[I];rcases kM l 46 with ⟨E,S⟩|⟨w,r,E,S,h3⟩
 rw[E,if_neg (by omega)];have G:=r6 s.size l [] 0 0 (λb B=>rl (S b B));rw[E5]at G;rw[G];unfold Ug FC;rw[I];cases l.all (λb=>NJ b.toNat)with
 | false=>simp
 | true=>simp only[if_true,Mu,Cd];rw[Oj];simp only[Ak,decide_eq_true_eq,tl,decide_eq_false_iff_not,Cd,Cp,BA];omega
 rw[S,if_pos (by omega)];have hw : ∀b∈w,¬(b.toNat:Int)=46:=λb B=>rl (h3 b B)
 have F:l.length=w.length+(r.length+1):=by rw[E];simp
 rw[E,r6 s.size w (46::r) 0 0 hw];unfold Ug;rw[ADv,ADv,I,E];have e1:(((w++46::r).drop 0).take ((w.length:Int).toNat - 0))=w:=by simp
 have e2:(((w++46::r).drop ((w.length:Int).toNat+1)).take (s.size - ((w.length:Int).toNat+1)))=r:=by
  rw[hs,F];have:(w++46::r).drop ((w.length:Int).toNat+1)=r:=by
   rw[show (w.length:Int).toNat+1=w.length+1 by simp,List.drop_append];simp
  rw[this];exact Gl (by simp;omega)
 rw[e1,e2];have z1:(s.extract 0 (w.length:Int).toNat).size=w.length:=by rw[fg];simp;omega
 have z2:(s.extract ((w.length:Int).toNat+1) s.size).size=r.length:=by rw[fg];simp;omega
 rw[z1,z2];cases A0:w.all (λb=>NJ b.toNat)with
 | false=>simp
 | true =>
   rw[if_pos rfl];simp only[Mu,Cz,Cd];by_cases W:0<w.length/\w.length+1<s.size;rw[if_pos ⟨by decide,W⟩];have Jh:0<r.length:=by omega
   by_cases U : ∀b∈r,b≠46;have G:=r6 s.size r [] (w.length+1) 1 (λb B=>rl (U b B));rw[E5]at G;rw[show (0:Int)+1=1 from rfl,G];cases r.all (λb=>NJ b.toNat)with
   | false=>simp
   | true=>simp only[if_true,Mu];rw[Oj];simp only[Ak,decide_eq_true_eq,tl,decide_eq_false_iff_not,Cd,Cp,BA];omega
   have z : ∃b∈r,(b.toNat:Int)=46:=by
    simp only[ne_eq,Classical.not_forall,Classical.not_not]at U;obtain⟨b,B,rfl⟩:=U;exact⟨_,B,rfl⟩
   have hd:r.all (λb=>NJ b.toNat)=false:=by
    obtain⟨b,B,e⟩:=z;rw[List.all_eq_false];exact⟨b,B,by rw[e,xI];simp⟩
   rw[hd];simp only[D4,LV];cases hf:Mu s.size r (w.length+1) (0+1)with
   | none=>rfl
   | some q=>have:=(AAk _ _ _ _ _ hf).2 z;simp;omega
   rw[if_neg (λh=>W h.2)];have Q:((46:UInt8).toNat:Int)=46:=rfl;rw[Q,xI];have J:w.length=0\/r.length=0:=by omega
   rcases J with J|J<;>simp only[J,Bool.false_eq_true,if_false,decide_true,Bool.not_true,LV,D4]
mutual
def V.Q6:V->Bool
 | .ptr _ _=>true
 | .c _=>true
 | .cp _ _=>true
 | .agg l=>V.Pn l
 | .A7 l=>V.Pn l
 | .fn _ l=>V.Pn l
 | .yl _=>true
 | .any=>true
 | _=>false
def V.Pn:List V->Bool
 | []=>true
 | v::l=>v.Q6 && V.Pn l
end
mutual
theorem AXH {x:Cx}{w:World}{k b n:Nat}(I:x.dom k)(J:(x.loc k).tok=false)(hb:(x.loc k).b=b):∀(v F:V) (u:Value),V.Q6 v=true->V.Di k v=some F->CV (Cx.one x.S b n) w F u->CV x w v u
 | .ptr i Q,F,u,_,h,B=>by
   simp only[V.Di]at h;split at h;rename_i e;cases h;subst e;simp only[CV,Cx.one]at B ⊢;exact⟨I,J,by rw[hb];exact B.2.2⟩;cases h
 | .c c,F,u,_,h,B=>by simp only[V.Di,BL]at h;subst h;simpa only[CV,Cx.one]using B
 | .cp row Q,F,u,_,h,B=>by simp only[V.Di,BL]at h;subst h;simpa only[CV,Cx.one]using B
 | .yl l,F,u,_,h,B=>by simp only[V.Di,BL]at h;subst h;simpa only[CV]using B
 | .agg l,F,u,E,h,B=>by
   simp only[V.Di,Ia]at h;obtain⟨r,h,rfl⟩:=h;simp only[V.Q6]at E;simp only[CV]at B ⊢;obtain⟨vs,e,B⟩:=B;exact⟨vs,e,Zo I J hb l r _ E h B⟩
 | .A7 l,F,u,E,h,B=>by
   simp only[V.Di,Ia]at h;obtain⟨r,h,rfl⟩:=h;simp only[V.Q6]at E;simp only[CV]at B ⊢;obtain⟨vs,e,B⟩:=B;exact⟨vs,e,Zo I J hb l r _ E h B⟩
 | .fn f G,F,u,E,h,B=>by
   simp only[V.Di,Ia]at h;obtain⟨r,h,rfl⟩:=h;simp only[V.Q6]at E;simp only[CV]at B ⊢;obtain⟨vs,e,B⟩:=B;exact⟨vs,e,Zo I J hb G r _ E h B⟩
 | .any,F,u,_,h,B=>by simp only[CV]
 | .Bg _,_,_,E,_,_=>by simp[V.Q6]at E
 | .gr _ _ _,_,_,E,_,_=>by simp[V.Q6]at E
 | .own _ _ _ _,_,_,E,_,_=>by simp[V.Q6]at E
 | .mp _,_,_,E,_,_=>by simp[V.Q6]at E
 | .Be _ _ _,_,_,E,_,_=>by simp[V.Q6]at E
 | .hp _ _ _,_,_,E,_,_=>by simp[V.Q6]at E
theorem Zo {x:Cx}{w:World}{k b n:Nat}(G:x.dom k)(I:(x.loc k).tok=false)(hb:(x.loc k).b=b):∀(l E:List V) (us:List Value),V.Pn l=true->V.Dj k l=some E->AO (Cx.one x.S b n) w E us->AO x w l us
 | [],E,us,_,h,B=>by simp only[V.Dj,BL]at h;subst h;simpa only[AO]using B
 | v::l,E,us,F,h,B=>by
   simp only[V.Pn,Ak]at F;unfold V.Dj at h;split at h;rename_i y r q W;cases h;simp only[AO]at B ⊢;obtain⟨u,J,rfl,Q,U⟩:=B;exact⟨u,J,rfl,AXH G I hb v y u F.1 q Q,Zo G I hb l r J F.2 W U⟩;cases h
end
def AY (P:Program)(f:FuncId)(args:List V)(ty:TypeId)(cells cells':List V)(res:V):Prop:=
 ∀(S:BF) (w:World) (us:List Value) (b:Nat) (vs:Array Value),(∀b' j,S b' j->b'<w.heap.size)->(∀j,j<vs.size->¬S b j)->w.heap[b]?=some (.cells vs ty (0,0))->AO (Cx.one S b vs.size) w cells vs.toList->AO (Cx.one S b vs.size) w args us->
  Calls P f us.toArray w λr w'=>∃u S' Bz,r=.returned u/\KB (λk=>k=b) w w'/\Ar S S' w w'/\(∀b' j,S' b' j->S b' j\/(w.heap.size<=b'/\b'<w'.heap.size)\/(b'=b/\vs.size<=j))/\w'.heap[b]?=some (.cells Bz ty (0,0))/\Bz.size=vs.size/\AO (Cx.one S' b vs.size) w' cells' Bz.toList/\CV (Cx.bare S') w' res u
section
variable {P:Program} {K:Exit->St->Prop} {ops:List Oper} {s:St}
theorem SW.V9 {f:FuncId}{args Bd:List V}{cells B cs cs':List V}(K9:AY P f Bd ty cells B res)(hf:P.funcs[f]?=some fn)(hb:fn.body.isSome=true)(hn:(fn.name == "runtime.NumGoroutine")=false)(hg:BQ ops s.t o.guard=some true)(F:C7 (ev s.t) o.op=some (f,args))(hp:V.Dj k args=some Bd)(z:s.h[k]?=some (.box ty cs false))(A2:V.Dj k cs=some cells)(jg:V.Dj k cs'=some B)(R5:V.Pn cs'=true)(h:SW P ops K r (s.step o.dst res (some (k,.box ty cs' false)))):SW P ops K (o::r) s:=λS0 w0 x a w G=>by
 have hw:FB o (yielded ops.toArray a.tmps)=true:=by
  have:=KR (o:=o) G.tm (IF (ops:=ops) (K1:=True) (K2:=False) hg trivial);exact Kn λh=>this.2 h
 unfold wpList;rw[if_pos hw];refine .inl ?_;unfold C7 at F;split at F
 case h_2=>cases F
 rename_i fo Q Fk ho;split at F
 case h_2=>cases F
 rename_i f' W FG;simp only[BL,Cr]at F;obtain⟨rfl,rfl⟩:=F;have I:=Pp (CW G.tm fo);rw[FG]at I;simp only[CV]at I;obtain⟨Dl,I,EP⟩:=I;have Hw:AO x w (Q.toList.map (ev s.t)++W) (Q.toList.map a.eval++Dl.toList):=(AO.of_map λy _=>CW G.tm y).append EP;have g:=G.good;obtain⟨q,b1,U,vs,b3,b4,b5⟩:=g.ok k _ z;have Fh:=Qn (n:=vs.size) _ _ _ A2 b5;have PO : ∀j,j<vs.size->¬x.S (x.loc k).b j:=λj hj=>g.EA k _ j z ⟨rfl,by omega⟩
 have Co:=K9 x.S w _ (x.loc k).b vs g.ex PO b3 Fh (Qn _ _ _ hp Hw);have CT:fn.body≠none:=by intro e;rw[e]at hb;cases hb
 have F6:fn.name≠ "runtime.NumGoroutine":=by simpa using hn
 have A0:(execOp a.eval o).run P w=.ok (.enter f' (Q.toList.map a.eval++Dl.toList).toArray) w:=by
  have e1:(Q.map a.eval++Dl)=(Q.toList.map a.eval++Dl.toList).toArray:=by apply Gx.1;simp
  simp[execOp,ho,resolve,I,M5,invoke,callFunc,program,HW,hf,F6,CT,e1]
 unfold Er;rw[A0];refine Co.mono ?_;rintro r' w' ⟨u,J,Bz,rfl,E,CZ,Gc,h1,h2,h3,h4⟩;have A3:=(g.ok k _ z).2.lt U;have he:Ext x { x with S:=J } w w':=⟨CZ,λ_ h=>h,λ_ _=>FM.refl _⟩
 have g':=g.H5 (x':={ x with S:=J }) k (.box ty cs' false) he (E.wide λb e=>⟨q,U,e.symm⟩) (λi=>⟨.inl,λh=>h.elim id λe=>e ▸ q⟩) (λ_ _=>rfl) (λ_=>.inl ⟨q,U,rfl⟩)
  ⟨b1,U,Bz,h1,by rw[h2,b4],Zo (x:={ x with S:=J }) q b1 rfl _ _ _ R5 jg h3⟩ (λb j hs=>(Gc b j hs).imp id λh=>h.elim (λh=>⟨h.2,.inl h.1,λe=>by have:(x.loc k).b=b:=e;omega⟩) (λh=>⟨by rw[h.1];exact H7 A3 E.size,.inr ⟨q,U,h.1.symm⟩,λ_ hx=>by have h5:j<(x.loc k).n:=hx.2;have h6:=h.2;omega⟩)) (λj hx=>g.EA k _ j z hx)
 have CB:NC w w':=⟨E.size,λb ob D7 II=>(E.block b (DO.1 D7).1 λe=>by subst e;rw[b3]at D7;cases D7;cases II).trans D7⟩
 have e:=Kj s.h (some (k,O.box ty cs' false)) (λk' o' e=>by cases e;exact LZ (Br.1 z).1);have A1:Good S0 w0 { x with S:=J } w' (λi=>(Bk s.h (some (k,O.box ty cs' false)))[i]?):=by rw[e];exact g'
 exact h S0 w0 _ _ w' (Bo.put G.tm (G.df.mono CB) he A1 (CV.mono (Ub J x w') _ _ h4) o.dst)
def GI (P:Program)(l:List ResultVar)(res:V)(ty:TypeId)(cells':List V):Exit->St->Prop
 | .normal,s=>DV P s l=some res/\s.h[0]?=some (.box ty cells' false)/\V.Dj 0 cells'=some cells'
 | .ret,s=>DV P s l=some res/\s.h[0]?=some (.box ty cells' false)/\V.Dj 0 cells'=some cells'
 | _,_=>False
theorem AY.intro {f:FuncId}{fn:Func}{c:Code}{args:List V}{ty:TypeId}{cells E:List V}{res:V}(hf:P.funcs[f]?=some fn)(hb:fn.body=some c)(h:AW ⟨none,1⟩ P c (GI P fn.results.toList res ty E) ⟨args++Aq (fn.ntmps - args.length) .any,[.box ty cells false]⟩):AY P f args ty cells E res:=by
 intro S w us b vs hS PO FF Fh B7;have A2:b<w.heap.size:=(DO.1 FF).1;refine callsIn_wide.1 (callsIn_of_wp_marks (F:=Cg) (n:=0) hf hb trivial ?_);let B:Bs:=⟨w,λk=>k<w.heap.size/\k≠b,λ_ h=>h.1,Cx.one S b vs.size,1,λk hk=>by have:k=0:=hk;omega⟩
 have hA:Bo S B (Cx.one S b vs.size) ⟨args++Aq (fn.ntmps - args.length) .any,[.box ty cells false]⟩ { tmps:=us.toArray++M4 (fn.ntmps - us.toArray.size) undef,defers:=[] } w:=by
  refine⟨⟨λk o h=>?_,λk h=>?_,λk k' o o' h h' U=>?_,λk o j h hx=>?_,hS,λk o h _ hF=>hF.2 rfl,λb j h=>.inl h,λb j h=>h,.FR (Ay.refl w),Ext.refl _ _⟩,?_,Marks.nil _ _⟩;match k,h with
  | 0,h =>
    cases h;exact⟨rfl,rfl,rfl,vs,FF,rfl,Fh⟩
  | k+1,h=>simp at h
  have:k=0:=h;subst this;exact⟨_,rfl⟩;match k,k',h,h' with
  | 0,0,_,_=>exact absurd rfl U
  | 0,k'+1,_,h'=>simp at h'
  | k+1,_,h,_=>simp at h
  match k,h with
  | 0,h=>cases h;exact PO j hx.2
  | k+1,h=>simp at h
  simp only[Pq,T8];have hl:us.toArray.size=args.length:=by simpa using B7.len
  rw[hl];exact B7.append (SQ _ _ _ _)
 refine wpIn_mono (h 0 S B _ _ w (BN _) hA) λe a' w' ⟨x,s,Au,hK⟩=>?_
 have W : ∀ {R:Ending->World->Prop},(∀u w' Q J,KB (λk=>k=b) w w'->Ar S Q w w'->(∀I j,Q I j->S I j\/(w.heap.size<=I/\I<w'.heap.size)\/(I=b/\vs.size<=j))->w'.heap[b]?=some (.cells J ty (0,0))->J.size=vs.size->AO (Cx.one Q b vs.size) w' E J.toList->CV (Cx.bare Q) w' res u->R (.returned u) w')->
  (DV P s fn.results.toList=some res/\s.h[0]?=some (.box ty E false)/\V.Dj 0 E=some E)->LeavesInM Cg 0 P fn a'.tmps R a'.defers .returning w':=by
  rintro R hR ⟨hr,h0,A0⟩;obtain⟨Ds,e,q,z⟩:=Au.df;rw[e];refine kS hr Ds w' q z Au.good Au.tm λw2 u g hu=>?_
  have Lu:=g.ext.loc 0 rfl;have G:x.loc 0=⟨b,vs.size,false,0,false⟩:=by
   rcases Lu.2 with e|e
   exact e.symm;cases e.1
  obtain⟨_,_,_,J,k3,k4,k5⟩:=g.ok 0 _ h0;rw[G]at k3 k4;refine hR u w2 x.S J ⟨g.keep.os,g.keep.tape,g.keep.output,g.keep.size,λk hk U=>g.keep.block k hk λhn=>hn ⟨hk,U⟩⟩ ⟨g.sub,λI j v hs hc=>g.ext.ar.cell I j v hs hc⟩ (λI j hs=>?_) k3 k4 (by have:=Qn (n:=vs.size) _ _ _ A0 k5;rwa [G]at this) hu;rcases g.new I j hs with hq|hq
  exact .inl hq;by_cases e:I=b;subst e;by_cases hj:j<vs.size;exact absurd (by rw[G];exact hs) (g.EA 0 _ j h0 ⟨rfl,by rw[G];exact hj⟩);exact .inr (.inr ⟨rfl,by omega⟩);exact .inr (.inl ⟨Hq λA1=>hq ⟨A1,e⟩,g.ex I j hs⟩)
 cases e with
 | normal=>exact W (λu w' Q J q z h3 h4 h5 h6 h7=>⟨u,Q,J,rfl,q,z,h3,h4,h5,h6,h7⟩) hK
 | ret=>exact W (λu w' Q J q z h3 h4 h5 h6 h7=>⟨u,Q,J,rfl,q,z,h3,h4,h5,h6,h7⟩) hK
 | _=>exact hK.elim
end
section
variable {P:Program} {ops:List Oper} {K:List Ef->St->Prop}
theorem TW.V9 {s:St}{f:FuncId}{args Bd:List V}{cells B cs cs':List V}(K9:AY P f Bd ty cells B res)(hf:P.funcs[f]?=some fn)(hb:fn.body.isSome=true)(hn:(fn.name == "runtime.NumGoroutine")=false)(hg:BQ ops s.t o.guard=some true)(E:C7 (ev s.t) o.op=some (f,args))(hp:V.Dj k args=some Bd)(hk:s.h[k]?=some (.box ty cs false))(A0:V.Dj k cs=some cells)(jg:V.Dj k cs'=some B)(R5:V.Pn cs'=true)(h:TW P ops K r (acc++[⟨res,some (k,.box ty cs' false),some k⟩]) (s.step o.dst res (some (k,.box ty cs' false)))):TW P ops K (o::r) acc s:=by
 obtain⟨es,s2,h2,h3⟩:=h;refine⟨⟨res,some (k,.box ty cs' false),some k⟩::es,s2,⟨_,es,rfl,?_,(λk' ob e=>by cases e;exact LZ (Br.1 hk).1),h2⟩,by simpa using h3⟩;intro S0 w0 x w a H g hl hr _ Q next EH;rw[QF hl hg];show o.wp P a w next Q;have q:=QR hl;have QH:H k=some (.box ty cs false):=(hr k (.inl rfl)).trans hk;unfold C7 at E;split at E
 case h_2=>cases E
 rename_i fo G Fk ho;split at E
 case h_2=>cases E
 rename_i f' J FG;simp only[BL,Cr]at E;obtain⟨rfl,rfl⟩:=E;have F:=Pp (q fo (by simp[ho,Bl,Df]));rw[FG]at F;simp only[CV]at F;obtain⟨Dl,F,EP⟩:=F;have Hw:AO x w (G.toList.map (ev s.t)++J) (G.toList.map a.eval++Dl.toList):=(AO.of_map λy hy=>q y (by simp[ho,Bl,Df];exact .inr (by simpa using hy))).append EP;obtain⟨U,b1,I,vs,b3,b4,b5⟩:=g.ok k _ QH;have Fh:=Qn (n:=vs.size) _ _ _ A0 b5;have PO : ∀j,j<vs.size->¬x.S (x.loc k).b j:=λj hj=>g.EA k _ j QH ⟨rfl,by omega⟩
 have Co:=K9 x.S w _ (x.loc k).b vs g.ex PO b3 Fh (Qn _ _ _ hp Hw);have CT:fn.body≠none:=by intro e;rw[e]at hb;cases hb
 have F6:fn.name≠ "runtime.NumGoroutine":=by simpa using hn
 have z:(execOp a.eval o).run P w=.ok (.enter f' (G.toList.map a.eval++Dl.toList).toArray) w:=by
  have e1:(G.map a.eval++Dl)=(G.toList.map a.eval++Dl.toList).toArray:=by apply Gx.1;simp
  simp[execOp,ho,resolve,F,M5,invoke,callFunc,program,HW,hf,F6,CT,e1]
 unfold Er;rw[z];refine Co.mono ?_;rintro r' w' ⟨u,S',Bz,rfl,W,CZ,Gc,h1,h2,h3,h4⟩;have A1:=(g.ok k _ QH).2.lt I;have he:Ext x { x with S:=S' } w w':=⟨CZ,λ_ h=>h,λ_ _=>FM.refl _⟩
 have g':=g.H5 (x':={ x with S:=S' }) k (.box ty cs' false) he (W.wide λb e=>⟨U,I,e.symm⟩) (λi=>⟨.inl,λh=>h.elim id λe=>e ▸ U⟩) (λ_ _=>rfl) (λ_=>.inl ⟨U,I,rfl⟩)
  ⟨b1,I,Bz,h1,by rw[h2,b4],Zo (x:={ x with S:=S' }) U b1 rfl _ _ _ R5 jg h3⟩ (λb j hs=>(Gc b j hs).imp id λh=>h.elim (λh=>⟨h.2,.inl h.1,λe=>by have:(x.loc k).b=b:=e;omega⟩) (λh=>⟨by rw[h.1];exact H7 A1 W.size,.inr ⟨U,I,h.1.symm⟩,λ_ hx=>by have h5:j<(x.loc k).n:=hx.2;have h6:=h.2;omega⟩)) (λj hx=>g.EA k _ j QH hx)
 exact EH u _ w' g' he (CV.mono (Ub S' x w') _ _ h4)
end
theorem UZ {ops:List Oper}{K:List Ef->St->Prop}{s:St}(h:K acc s):Ie P ops K [] acc s:=h
section
variable {P:Program} {K:Exit->St->Prop} {ops:List Oper} {s:St}
theorem SW.Tq (v:V)(t:Option (Nat×O))(Q : ∀k ob,t=some (k,ob)->k<=s.h.length)(q:BQ ops s.t o.guard=some true)(W : ∀(S0:BF) (w0:Bs) (x:Cx) (a:Act) (w:World),Good S0 w0 x w (λk=>s.h[k]?)->AO x w s.t a.tmps.toList->BW P o a S0 w0 x w (λk=>s.h[k]?) v t)(h:SW P ops K r (s.step o.dst v t)):SW P ops K (o::r) s:=λS0 w0 x a w B=>by
 have hw:FB o (yielded ops.toArray a.tmps)=true:=by
  have:=KR (o:=o) B.tm (IF (ops:=ops) (K1:=True) (K2:=False) q trivial);exact Kn λh=>this.2 h
 unfold wpList;rw[if_pos hw];refine .inl ?_;obtain⟨nx,w',x',u,z,U,F,G,I,_⟩:=W x.S (w0.re w B.good.keep.size) x a w B.good.XR B.tm;obtain⟨G,J⟩:=B.good.Sg I G;have e:=Kj s.h t Q;have E:Good S0 w0 x' w' (λi=>(Bk s.h t)[i]?):=by rw[e];exact G
 unfold Er;rw[z];rcases U with rfl|⟨rfl,rfl⟩
 exact h S0 w0 x' _ w' (Bo.put B.tm (B.df.mono J) I E F o.dst);exact h S0 w0 x' _ w' (Bo.put B.tm (B.df.mono J) I E F o.dst)
end
def Kt (n:Nat)(M:ByteArray->Bool)(_:Nat)(ob:Obj):Prop:=
 ∀(w:World) (b:Nat),w.heap[b]?=some ob->∃D:DataW Unit,w.ownsMap AF 9 (plainElem AF 4) b n D/\Maps.IsMap D/\
  ∀s:ByteArray,s.size<=maxLen->D.atKey (.string s.data.toList) (.lit (.bool false))=.lit (.bool (M s))
def Z6 (M:ByteArray->Bool)(s:ByteArray):ByteArray->Bool:=λx=>decide (x=s) || M x
theorem AbA (w:World):(zeroValue 4).run AF w=.ok (.bool false) w:=by kernel_rfl
theorem AWX {H:Type}{e:TypeId}(B:P.underlying e=some .bool){v:Value}{z:DataW H×List MemPlace}(h:plainElem P e v=some z):∃a,v=.bool a/\z=(.lit (.bool a),[]):=by
 unfold plainElem at h;rw[B]at h;cases v<;>simp at h;subst h;exact⟨_,rfl,rfl⟩
theorem Kt.made {B:Nat}:Kt 0 (λ_=>false) B (.map #[] 0):=λw b E=>⟨.map [],⟨#[],0,E,⟨by simp,MapKept.stamped_empty 0,by simp⟩,BN _,rfl⟩,Maps.isMap_empty,λ_ _=>rfl⟩
theorem Kt.look {b Q n:Nat}{J:Obj}(h:Kt n M Q J)(hb:w.heap[b]?=some J)(hs:s.size<=maxLen):
 (Instr.lookup 154 (.map (some b)) (.string s) false).run AF w=.ok (.bool (M s)) w:=by
 obtain⟨D,⟨es,clock,W,F,_,rfl⟩,_,q⟩:=h w b hb;have G:=q s hs;rcases Maps.fit_look (t:=154) false (me Lb) ADY (AbA w) W F (n6 Lb hs)with ⟨B,_,E⟩|⟨z,y,_,_,B,I,E,_⟩
 rw[E]at G;rw[B];simp only[ACh,Lit.bool.injEq]at G;simp[<-G];rw[E]at G;rw[B];obtain⟨c,S,U⟩:=AWX Vq I;rw[U]at G;simp only[ACh,Lit.bool.injEq]at G;rw[S,G];rfl
theorem Kt.store {b Q n:Nat}{U:Obj}(h:Kt n M Q U)(hb:w.heap[b]?=some U)(hn:n<maxLen)(hs:s.size<=maxLen):
 ∃w' G,(Instr.mapUpdate 154 (.map (some b)) (.string s) (.bool true)).run AF w=.ok () w'/\w.grownBy w' (some b)/\w'.heap[b]?=some G/\still G=false/\Kt (n+1) (Z6 M s) Q G:=by
 obtain⟨D,ho,S,hM⟩:=h w b hb;obtain⟨w',E,q,hg⟩:=ho.update (t:=154) (me Lb) ADY hn (n6 Lb hs) (plainElem_bool Vq true);obtain⟨I,B,z,F,h2,h3⟩:=q;refine⟨w',_,E,hg,z,rfl,λw2 b2 W=>⟨_,⟨I,B,W,F,h2,h3⟩,S.put _ _,λx hx=>?_⟩⟩;by_cases e:x=s;subst e;have hk:WideAt.IsKeyLit (Vh x.data.toList):=trivial;rw[Maps.atKey_put_same S hk];simp[Z6];have J:Vh x.data.toList≠Vh s.data.toList:=λh=>e (by cases x;cases s;simpa using h)
 rw[Maps.atKey_put_other J];simp only[Z6,decide_eq_false e,Bool.false_or];exact hM x hx
section
variable {S0:BF} {w0:Bs} {x:Cx} {w:World} {H:Bx} {a:Act} {o:Oper}
theorem AVJ (g:Good S0 w0 x w H){y:Operand}(ho:o.op=.makeMap 154 (some y)){U:IntKind}{l:Int}(F:CV x w (.c (.int U l)) (a.eval y))(k:Nat)(Q : ¬x.dom k):BW AF o a S0 w0 x w H (.mp k) (some (k,.mp (Kt 0 (λ_=>false)))):=by
 simp only[CV,Ab]at F;have B:Ay w (w.alloc (.map #[] 0)):=(Ay.refl w).alloc _;have E:Ext x (x.C4 k ⟨w.heap.size,0,false,0,false⟩) w (w.alloc (.map #[] 0)):=Good.ext1 k _ Q λb j v _ I=>B.cell I
 have G:=g.H5 k (.mp (Kt 0 (λ_=>false))) E (.FR B) (λi=>Iff.rfl) (λi J=>by simp[Cx.C4,J]) (λ_=>.inr (by simp[Cx.C4])) ⟨by simp[Cx.C4],by simp[Cx.C4],_,by simp only[Cx.C4,if_true];exact heap_alloc_new w _,rfl,Kt.made⟩ (λb j h=>.inl h) (λj S W=>S);refine⟨_,_,_,.map (some w.heap.size),?_,.inl rfl,?_,G,E,λk' h=>h.elim .inl λe=>.inr ⟨.mp (Kt 0 (λ_=>false)),by rw[e]⟩,λ_=>rfl⟩;simp[execOp,ho,F.1,Instr.makeMap,run_underlying ADY];rfl;simp only[CV,Cx.C4,if_true];exact⟨.inr trivial,trivial,trivial⟩
theorem AVF (g:Good S0 w0 x w H){y z:Operand}(ho:o.op=.lookup 154 y z false){k n:Nat}(B:CV x w (.mp k) (a.eval y))(E:CV x w (.c (.str s)) (a.eval z))(I:H k=some (.mp (Kt n M))):BW AF o a S0 w0 x w H (.c (.bool (M s))) none:=by
 simp only[CV,Ab]at B E;obtain⟨Q,S,B⟩:=B;obtain⟨E,J⟩:=E;obtain⟨_,_,_,U,G,_,F⟩:=g.ok k _ I;exact BW.pure g (u:=.bool (M s)) (by simp[execOp,ho,B,E,F.look G J]) (by simp only[CV,Ab])
theorem AVH (g:Good S0 w0 x w H){y z v:Operand}(ho:o.op=.mapUpdate 154 y z v){k n:Nat}(F:CV x w (.mp k) (a.eval y))(G:CV x w (.c (.str s)) (a.eval z))(hv:a.eval v=.bool true)(hk:H k=some (.mp (Kt n M)))(hn:n<maxLen):BW AF o a S0 w0 x w H .any (some (k,.mp (Kt (n+1) (Z6 M s)))):=by
 simp only[CV,Ab]at F G;obtain⟨Q,ht,F⟩:=F;obtain⟨G,hs⟩:=G;obtain⟨_,h1,I,ob,hb,A0,q⟩:=g.ok k _ hk;obtain⟨w',Cw,E,B,CT,VB,jT⟩:=q.store hb hn hs;have ar:Ar x.S x.S w w':=⟨λ_ _ h=>h,λb j v hS J=>by
  have W:b≠(x.loc k).b:=λe=>by
   subst e;obtain⟨D,⟨es,clock,yp,_⟩,_⟩:=q w _ hb;unfold World.cell? at J;simp[yp]at J
  have U:b<w.heap.size:=g.ex b j hS;exact(World.cell?_of_block (B.block b U λe=>W (ML e))).trans J⟩
 have he:Ext x x w w':=⟨ar,λ_ h=>h,λ_ _=>FM.refl _⟩
 have g':=g.H5 k (.mp (Kt (n+1) (Z6 M s))) he ⟨B.os,B.tape,B.output,B.size,λb Fc KY=>B.block b Fc λe=>KY ⟨Q,I,(ML e).symm⟩⟩ (λi=>⟨.inl,λh=>h.elim id λe=>e ▸ Q⟩) (λ_ _=>rfl) (λ_=>.inl ⟨Q,I,rfl⟩) ⟨h1,I,Cw,CT,VB,jT⟩ (λb j h=>.inl h) (λj hx=>hx.elim);refine⟨.skip,w',x,undef,?_,.inr ⟨rfl,rfl⟩,by simp only[CV],g',he,λ_ h=>.inl h,λ_=>rfl⟩;simp[execOp,ho,F,G,hv,E]
end
section
variable {P:Program} {S0:BF} {w0:Bs} {x x':Cx} {w w':World} {H:Bx} {s:St} {a:Act}
def GJ (P:Program)(s:St)(l:List ResultVar):Option V:=
 match C0 P s l with
 | some [v]=>some v
 | some vs=>some (.A7 vs)
 | none=>none
theorem AD8 (J:Bo S0 w0 x s a w)(h:GJ P s fn.results.toList=some res):∃u,(results fn a.tmps).run P w=.ok u w/\CV x w res u:=by
 unfold GJ at h;cases F:C0 P s fn.results.toList with
 | none=>rw[F]at h;cases h
 | some vs =>
   rw[F]at h;obtain⟨us,Q,B⟩:=wO J F;have I:(results fn a.tmps).run P w=.ok (if h:us.toArray.size=1 then us.toArray[0]else .tuple us.toArray) w:=by
    have e:results fn a.tmps=(fn.results.mapM (lD a.tmps) >>=λvs=>pure (if h:vs.size=1 then vs[0]else .tuple vs)):=rfl;rw[e,Array.mapM_eq_mapM_toList];simp[Q]
   refine⟨_,I,?_⟩;match vs,h,B with
   | [v],h,B =>
     simp only[AO]at B;obtain⟨u,S,rfl,G,rfl⟩:=B;cases h;exact G
   | [],h,B =>
     simp only[AO]at B;subst B;cases h;simp only[CV];exact⟨#[],rfl,by simp only[AO]⟩
   | v::U::r,h,B =>
     have E:=B.len;rw[dif_neg (by simp[E])];cases h;simp only[CV];exact⟨_,rfl,B⟩
theorem dR {fn:Func}{R:Ending->World->Prop}{res:V}(z:GJ P s fn.results.toList=some res){tmps:Array Value} : ∀(B:List Nat) (w:World),B.Nodup->(∀D∈B,¬w0.F D/\w.heap[D]?=some (.deferred (some [])))->Good S0 w0 x w (λk=>s.h[k]?)->AO x w s.t tmps.toList->
 (∀w u,Good S0 w0 x w (λk=>s.h[k]?)->CV x w res u->R (.returned u) w)->LeavesInM Cg 0 P fn tmps R (B.map λD=>{ target:=.collected D,args:=#[] }) .returning w
 | [],w,_,_,g,S,I=>by
   obtain⟨u,G,E⟩:=AD8 (fn:=fn) (a:={ tmps:=tmps,defers:=[] }) ⟨g,S,Marks.nil _ _⟩ z;exact⟨u,G,I w u g E⟩
 | D::B,w,J,q,g,S,I=>by
   obtain⟨G,E⟩:=q D (by simp);have hg:w.grownBy (w.putObj D (.deferred none)) (some D):=grownBy_putObj' w D _;obtain⟨g',he⟩:=g.grown hg λr e=>by cases e;exact⟨G,_,E,rfl⟩
   rw[Xm]at J;refine⟨by simp,.inl ⟨D,_,rfl,run_takeDeferred E,dR z B _ J.2 (λU W=>?_) g' (AO.mono he _ _ S) I⟩⟩;obtain⟨k1,k2⟩:=q U (by simp[W]);have Q:U≠D:=λe=>J.1 (by rw[<-e];exact W)
   exact⟨k1,by rw[Pz Q];exact k2⟩
def Bs.Zr (w0:Bs)(w:World)(h:w0.w.heap.size<=w.heap.size)(x:Cx)(n0:Nat)(hd : ∀k,x.dom k->k<n0):Bs:=⟨w,(w0.re w h).F,(w0.re w h).lt,x,n0,hd⟩
theorem Good.sY (g:Good S0 w0 x w H)(B:Nat)(E : ∀k,x.dom k->k<B):Good x.S (w0.Zr w g.keep.size x B E) x w H:=
 let r:=g.XR
 ⟨r.ok,r.dom,r.inj,r.EA,r.ex,r.own,r.new,r.sub,r.keep,Ext.refl x w⟩
theorem Good.Z5 {E:Bx}{F:Nat}{G : ∀k,x.dom k->k<F}(g:Good S0 w0 x w H)(B:Good x.S (w0.Zr w g.keep.size x F G) x' w' E):(Good S0 w0 x' w' E/\NC w w')/\Ext x x' w w':=
 ⟨g.Sg (x':=x') B.ext ⟨B.ok,B.dom,B.inj,B.EA,B.ex,B.own,B.new,B.sub,B.keep,Ext.none _ _ _⟩,B.ext⟩
end
inductive Out where
 | ret (v:V)
 | HB (ch:List PanicEntry)
def Lf (x:Cx)(w:World):Out->Ending->Prop
 | .ret v,r=>∃u,r=.returned u/\CV x w v u
 | .HB ch,r=>r=.panicked ch
def AM9 (P:Program)(l:List ResultVar)(n0:Nat)(out:Out)(h':List O):Exit->St->Prop
 | .normal,s=>∃v,out=.ret v/\∃s',Le ⟨none,n0⟩ s s'/\GJ P s' l=some v/\s'.h=h'
 | .ret,s=>∃v,out=.ret v/\∃s',Le ⟨none,n0⟩ s s'/\GJ P s' l=some v/\s'.h=h'
 | .panic ch,s=>out=.HB ch/\∃s',Le ⟨none,n0⟩ s s'/\s'.h=h'
 | _,_=>False
structure HC (P:Program)(f:FuncId)(args:List V)(h:List O)(out:Out)(h':List O):Prop where
 ok:Fp P f=true
 calls : ∀ {S0:BF} {w0:Bs} {x:Cx} {w:World} {us:List Value},Good S0 w0 x w (λk=>h[k]?)->AO x w args us->
  Calls P f us.toArray w λr w'=>∃x',Good S0 w0 x' w' (λk=>h'[k]?)/\Ext x x' w w'/\NC w w'/\Lf x' w' out r
theorem kT {P:Program}{S0:BF}{w0:Bs}{x:Cx}{s:St}{fn:Func}{R:Ending->World->Prop}{ch:List PanicEntry}{tmps:Array Value} : ∀(B:List Nat) (w:World),B.Nodup->(∀D∈B,¬w0.F D/\w.heap[D]?=some (.deferred (some [])))->Good S0 w0 x w (λk=>s.h[k]?)->AO x w s.t tmps.toList->
 (∀w,Good S0 w0 x w (λk=>s.h[k]?)->R (.panicked ch) w)->LeavesInM Cg 0 P fn tmps R (B.map λD=>{ target:=.collected D,args:=#[] }) (.panicking ch) w
 | [],w,_,_,g,W,E=>E w g
 | D::B,w,G,U,g,W,E=>by
   obtain⟨z,S⟩:=U D (by simp);have hg:w.grownBy (w.putObj D (.deferred none)) (some D):=grownBy_putObj' w D _;obtain⟨q,he⟩:=g.grown hg λr e=>by cases e;exact⟨z,_,S,rfl⟩
   rw[Xm]at G;refine⟨by simp,.inl ⟨D,_,rfl,run_takeDeferred S,kT B _ G.2 (λJ Q=>?_) q (AO.mono he _ _ W) E⟩⟩;obtain⟨k1,k2⟩:=U J (by simp[Q]);have I:J≠D:=λe=>G.1 (by rw[<-e];exact Q)
   exact⟨k1,by rw[Pz I];exact k2⟩
theorem HC.intro {f:FuncId}{c:Code}{h h':List O}{out:Out}(hf:P.funcs[f]?=some fn)(hb:fn.body=some c)(Yg:AW ⟨none,h.length⟩ P c (AM9 P fn.results.toList h.length out h') ⟨args++List.replicate (fn.ntmps - args.length) .any,h⟩)(hn:(fn.name == "runtime.NumGoroutine")=false:=by kernel_rfl):HC P f args h out h':=by
 refine⟨by unfold Fp;rw[hf];simp[hb,hn],λ{S0 w0 x w us} g B7=>?_⟩;have hd : ∀k,x.dom k->k<h.length:=λk hk=>by obtain⟨o,ho⟩:=g.dom k hk;exact(List.getElem?_eq_some_iff.1 ho).1
 refine callsIn_wide.1 (callsIn_of_wp_marks (F:=Fence.wide) (n:=0) hf hb trivial ?_);have hA:Bo x.S (w0.Zr w g.keep.size x h.length hd) x ⟨args++List.replicate (fn.ntmps - args.length) .any,h⟩ { tmps:=us.toArray++Array.replicate (fn.ntmps - us.toArray.size) undef,defers:=[] } w:=by
  refine⟨g.sY h.length hd,?_,Marks.nil _ _⟩;simp only[Array.toList_append,Array.toList_replicate];have hl:us.toArray.size=args.length:=by simpa using B7.len
  rw[hl];exact B7.append (SQ _ _ _ _)
 refine wpIn_mono (Yg 0 x.S _ _ _ w (Nat.le_refl _) hA) λe a' w' ⟨x1,s,Au,hK⟩=>?_
 have fin : ∀ {R:Ending->World->Prop},(∀r w' x',Good S0 w0 x' w' (λk=>h'[k]?)->Ext x x' w w'->NC w w'->Lf x' w' out r->R r w')->(∃v,out=.ret v/\∃s',Le ⟨none,h.length⟩ s s'/\GJ P s' fn.results.toList=some v/\s'.h=h')->LeavesInM Fence.wide 0 P fn a'.tmps R a'.defers .returning w':=by
  rintro R hR ⟨v,rfl,s',hle,hr,rfl⟩;obtain⟨x2,Fb⟩:=hle x.S _ x1 a' w' (Nat.le_refl _) Au;obtain⟨Ds,e,h1,h2⟩:=Fb.df;rw[e];refine dR hr Ds w' h1 h2 Fb.good Fb.tm λw2 u g2 hu=>?_
  obtain⟨⟨g3,CB⟩,Fe⟩:=g.Z5 g2;exact hR _ w2 x2 g3 Fe CB ⟨u,rfl,hu⟩
 cases e with
 | normal=>exact fin (λr w' x' h1 h2 h3 h4=>⟨x',h1,h2,h3,h4⟩) hK
 | ret=>exact fin (λr w' x' h1 h2 h3 h4=>⟨x',h1,h2,h3,h4⟩) hK
 | panic ch =>
   obtain⟨rfl,s',hle,rfl⟩:=hK;obtain⟨x2,Fb⟩:=hle x.S _ x1 a' w' (Nat.le_refl _) Au;obtain⟨Ds,e,h1,h2⟩:=Fb.df;show LeavesInM Fence.wide 0 P fn a'.tmps _ a'.defers (.panicking ch) w';rw[e];refine kT Ds w' h1 h2 Fb.good Fb.tm λw2 g2=>?_
   obtain⟨⟨g3,CB⟩,Fe⟩:=g.Z5 g2;exact⟨x2,g3,Fe,CB,rfl⟩
 | _=>exact hK.elim
section
variable {P:Program} {K:Exit->St->Prop} {ops:List Oper} {s:St}
theorem SW.AEZ {f:FuncId}{out:Out}(z:HC P f args s.h out h')(hg:BQ ops s.t o.guard=some true)(E:C7 (ev s.t) o.op=some (f,args))(hr : ∀v,out=.ret v->SW P ops K r (St.put ⟨s.t,h'⟩ o.dst v))(hp : ∀ch,out=.HB ch->K (.panic ch) ⟨s.t,h'⟩):SW P ops K (o::r) s:=λS0 w0 x a w B=>by
 have hw:FB o (yielded ops.toArray a.tmps)=true:=by
  have:=KR (o:=o) B.tm (IF (ops:=ops) (K1:=True) (K2:=False) hg trivial);exact Kn λh=>this.2 h
 unfold wpList;rw[if_pos hw];refine .inl ?_;unfold C7 at E;split at E
 case h_2=>cases E
 rename_i fo G Fk ho;split at E
 case h_2=>cases E
 rename_i f' I FG;simp only[BL,Cr]at E;obtain⟨rfl,rfl⟩:=E;have F:=Pp (CW B.tm fo);rw[FG]at F;simp only[CV]at F;obtain⟨Q,F,EP⟩:=F;have Hw:AO x w (G.toList.map (ev s.t)++I) (G.toList.map a.eval++Q.toList):=(AO.of_map λy _=>CW B.tm y).append EP;obtain⟨fn,hf,q,hn⟩:=P7 z.ok;have CT:fn.body≠none:=by intro e;rw[e]at q;cases q
 have F6:fn.name≠ "runtime.NumGoroutine":=by simpa using hn
 have J:(execOp a.eval o).run P w=.ok (.enter f' (G.toList.map a.eval++Q.toList).toArray) w:=by
  have e1:(G.map a.eval++Q)=(G.toList.map a.eval++Q.toList).toArray:=by apply Gx.1;simp
  simp[execOp,ho,resolve,F,M5,invoke,callFunc,program,HW,hf,F6,CT,e1]
 unfold Er;rw[J];refine(z.calls B.good Hw).mono ?_;rintro r' w' ⟨x',W,he,S,U⟩;cases out with
 | ret v=>obtain⟨u,rfl,hv⟩:=U;exact hr v rfl S0 w0 x' _ w' (Bo.put B.tm (B.df.mono S) he W hv o.dst)
 | HB ch=>have e:r'=.panicked ch:=U;subst e;exact⟨x',⟨s.t,h'⟩,⟨W,AO.mono he _ _ B.tm,B.df.mono S⟩,hp ch rfl⟩
theorem SW.wZ {f:FuncId}(E:HC P f args s.h (.ret res) h')(F:BQ ops s.t o.guard=some true)(B:C7 (ev s.t) o.op=some (f,args))(h:SW P ops K r (St.put ⟨s.t,h'⟩ o.dst res)):SW P ops K (o::r) s:=SW.AEZ E F B (λv e=>by cases e;exact h) (λ_ e=>nomatch e)
theorem SW.wa {f:FuncId}(E:HC P f args s.h (.HB ch) h')(F:BQ ops s.t o.guard=some true)(B:C7 (ev s.t) o.op=some (f,args))(h:K (.panic ch) ⟨s.t,h'⟩):SW P ops K (o::r) s:=SW.AEZ E F B (λ_ e=>nomatch e) (λc e=>by cases e;exact h)
end
def Cx.de (S:BF)(m:Nat):Cx:={ dom:=λk=>k=0,loc:=λ_=>⟨m,0,false,0,false⟩,S:=S }
def Ci (m:Nat)(R:Obj->Prop)(b:Nat)(ob:Obj):Prop:=b=m/\R ob
def AQ (P:Program)(f:FuncId)(args:List V)(m:Nat)(R R':Obj->Prop)(out:Out):Prop:=
 ∀(S:BF) (w:World) (us:List Value) (ob:Obj),(∀b j,S b j->b<w.heap.size)->w.heap[m]?=some ob->still ob=false->R ob->AO (Cx.bare S) w args us->
  Calls P f us.toArray w λr w'=>∃S' Cw,KB (λk=>k=m) w w'/\Ar S S' w w'/\(∀b j,S' b j->S b j\/(w.heap.size<=b/\b<w'.heap.size)\/b=m)/\w'.heap[m]?=some Cw/\still Cw=false/\R' Cw/\Lf (Cx.bare S') w' out r
theorem AQ.mono {f:FuncId}{R R' E F:Obj->Prop}{out:Out}(h:AQ P f args m R R' out)(h1 : ∀B,E B->R B)(h2 : ∀B,R' B->F B):AQ P f args m E F out:=λS w us B k1 k2 k3 k4 k5 =>
 (h S w us B k1 k2 k3 (h1 _ k4) k5).mono λr w' ⟨I,G,J,Q,U,W,q,z,a7⟩=>⟨I,G,J,Q,U,W,q,h2 _ z,a7⟩
def oM (P:Program)(l:List ResultVar)(out:Out)(m:Nat)(R':Obj->Prop):Exit->St->Prop
 | .normal,s=>∃v,out=.ret v/\DV P s l=some v/\s.h[0]?=some (.mp (Ci m R'))
 | .ret,s=>∃v,out=.ret v/\DV P s l=some v/\s.h[0]?=some (.mp (Ci m R'))
 | .panic ch,s=>out=.HB ch/\s.h[0]?=some (.mp (Ci m R'))
 | _,_=>False
theorem AQ.intro {P:Program}{f:FuncId}{fn:Func}{c:Code}{args:List V}{m:Nat}{R R':Obj->Prop}{out:Out}(hf:P.funcs[f]?=some fn)(hb:fn.body=some c)(h:AW ⟨none,1⟩ P c (oM P fn.results.toList out m R') ⟨args++Aq (fn.ntmps - args.length) .any,[.mp (Ci m R)]⟩):AQ P f args m R R' out:=by
 intro S w us ob hS FF A3 hR B7;refine callsIn_wide.1 (callsIn_of_wp_marks (F:=Cg) (n:=0) hf hb trivial ?_);let B:Bs:=⟨w,λk=>k<w.heap.size/\k≠m,λ_ h=>h.1,Cx.de S m,1,λk hk=>by have:k=0:=hk;omega⟩
 have zF:Ext (Cx.bare S) (Cx.de S m) w w:=⟨Ar.refl _ _,λ_ h=>h.elim,λ_ h=>h.elim⟩
 have hA:Bo S B (Cx.de S m) ⟨args++Aq (fn.ntmps - args.length) .any,[.mp (Ci m R)]⟩ { tmps:=us.toArray++M4 (fn.ntmps - us.toArray.size) undef,defers:=[] } w:=by
  refine⟨⟨λk o h=>?_,λk h=>?_,λk k' o o' h h' W=>?_,λk o j h hx=>?_,hS,λk o h _ hF=>hF.2 rfl,λb j h=>.inl h,λb j h=>h,.FR (Ay.refl w),Ext.refl _ _⟩,?_,Marks.nil _ _⟩;match k,h with
  | 0,h=>cases h;exact⟨rfl,rfl,rfl,ob,FF,A3,rfl,hR⟩
  | k+1,h=>simp at h
  have:k=0:=h;subst this;exact⟨_,rfl⟩;match k,k',h,h' with
  | 0,0,_,_=>exact absurd rfl W
  | 0,k'+1,_,h'=>simp at h'
  | k+1,_,h,_=>simp at h
  match k,h with
  | 0,h=>cases h;exact hx.elim
  | k+1,h=>simp at h
  simp only[Pq,T8];have hl:us.toArray.size=args.length:=by simpa using B7.len
  rw[hl];exact(AO.mono zF _ _ B7).append (SQ _ _ _ _)
 refine wpIn_mono (h 0 S B _ _ w (BN _) hA) λe a' w' ⟨x,s,q,hK⟩=>?_
 have post : ∀ {x:Cx} {J:World} {I:Bx},Good S B x J I->I 0=some (.mp (Ci m R'))->∃G E,G=x.S/\KB (λk=>k=m) w J/\Ar S G w J/\(∀b j,G b j->S b j\/(w.heap.size<=b/\b<J.heap.size)\/b=m)/\J.heap[m]?=some E/\still E=false/\R' E:=by
  intro x J I g h0;have Lu:=g.ext.loc 0 rfl;have A1:x.loc 0=⟨m,0,false,0,false⟩:=by
   rcases Lu.2 with e|e
   exact e.symm;cases e.1
  obtain⟨_,_,_,E,k3,k4,_,k5⟩:=g.ok 0 _ h0;rw[A1]at k3;refine⟨x.S,E,rfl,⟨g.keep.os,g.keep.tape,g.keep.output,g.keep.size,λk hk W=>g.keep.block k hk λhn=>hn ⟨hk,W⟩⟩,⟨g.sub,λz j v hs hc=>g.ext.ar.cell z j v hs hc⟩,λz j hs=>?_,k3,k4,k5⟩;rcases g.new z j hs with hq|hq
  exact .inl hq;by_cases e:z=m;exact .inr (.inr e);exact .inr (.inl ⟨Hq λA2=>hq ⟨A2,e⟩,g.ex z j hs⟩)
 have A0 : ∀ {Q:Ending->World->Prop},(∀r w' G E,KB (λk=>k=m) w w'->Ar S G w w'->(∀b j,G b j->S b j\/(w.heap.size<=b/\b<w'.heap.size)\/b=m)->w'.heap[m]?=some E->still E=false->R' E->Lf (Cx.bare G) w' out r->Q r w')->
  (∃v,out=.ret v/\DV P s fn.results.toList=some v/\s.h[0]?=some (.mp (Ci m R')))->LeavesInM Cg 0 P fn a'.tmps Q a'.defers .returning w':=by
  rintro Q hQ ⟨v,rfl,hr,h0⟩;obtain⟨Ds,e,U,I⟩:=q.df;rw[e];refine kS hr Ds w' U I q.good q.tm λJ u g hu=>?_
  obtain⟨G,E,rfl,p1,p2,p3,p4,p5,p6⟩:=post g h0;exact hQ _ J _ E p1 p2 p3 p4 p5 p6 ⟨u,rfl,hu⟩
 cases e with
 | normal=>exact A0 (λr w' G E U I h3 h4 h5 h6 h7=>⟨G,E,U,I,h3,h4,h5,h6,h7⟩) hK
 | ret=>exact A0 (λr w' G E U I h3 h4 h5 h6 h7=>⟨G,E,U,I,h3,h4,h5,h6,h7⟩) hK
 | panic ch =>
   obtain⟨rfl,h0⟩:=hK;obtain⟨Ds,e,U,I⟩:=q.df;show LeavesInM Cg 0 P fn a'.tmps _ a'.defers (.panicking ch) w';rw[e];refine kT Ds w' U I q.good q.tm λJ g=>?_
   obtain⟨G,E,rfl,p1,p2,p3,p4,p5,p6⟩:=post g h0;exact⟨_,E,p1,p2,p3,p4,p5,p6,rfl⟩
 | _=>exact hK.elim
section
variable {P:Program} {ops:List Oper} {S0:BF} {w0:Bs} {x:Cx} {w:World} {H:Bx} {a:Act} {o:Oper} {s:St}
theorem pF {f:FuncId}{args Bd:List V}{R R':Obj->Prop}{out:Out}(g:Good S0 w0 x w H)(J : ∀y∈o.op.operands.toList,CV x w (ev s.t y) (a.eval y))(KW:AQ P f Bd m R R' out)(A5:Fp P f=true)(E:C7 (ev s.t) o.op=some (f,args))(hp:V.CF args=some Bd)(hk:H k=some (.mp (Ci m R))){next:Act->World->Prop}{Q:Exit->Act->World->Prop}(hn : ∀res,out=.ret res->∀u x' w',Good S0 w0 x' w' (H.upd (some (k,.mp (Ci m R'))))->Ext x x' w w'->NC w w'->CV x' w' res u->next (a.put o.dst u) w')(HO : ∀ch,out=.HB ch->∀x' w',Good S0 w0 x' w' (H.upd (some (k,.mp (Ci m R'))))->Ext x x' w w'->NC w w'->Q (.panic ch) a w'):o.wp P a w next Q:=by
 unfold C7 at E;split at E
 case h_2=>cases E
 rename_i fo G Fk ho;split at E
 case h_2=>cases E
 rename_i f' I FG;simp only[BL,Cr]at E;obtain⟨rfl,rfl⟩:=E;have F:=Pp (J fo (by simp[ho,Bl,Df]));rw[FG]at F;simp only[CV]at F;obtain⟨q,F,EP⟩:=F;have Hw:AO x w (G.toList.map (ev s.t)++I) (G.toList.map a.eval++q.toList):=(AO.of_map λy hy=>J y (by simp[ho,Bl,Df];exact .inr (by simpa using hy))).append EP;obtain⟨fn,hf,hb,F6⟩:=P7 A5;have CT:fn.body≠none:=by intro e;rw[e]at hb;cases hb
 have F6:fn.name≠ "runtime.NumGoroutine":=by simpa using F6
 have U:(execOp a.eval o).run P w=.ok (.enter f' (G.toList.map a.eval++q.toList).toArray) w:=by
  have e1:(G.map a.eval++q)=(G.toList.map a.eval++q.toList).toArray:=by apply Gx.1;simp
  simp[execOp,ho,resolve,F,M5,invoke,callFunc,program,HW,hf,F6,CT,e1]
 obtain⟨hd,b1,z,ob,b3,b4,hm,b5⟩:=g.ok k _ hk;subst hm;unfold Er;rw[U];refine(KW x.S w _ ob g.ex b3 b4 b5 (MC _ _ _ hp Hw)).mono ?_;rintro r' w' ⟨S',Cw,B,CZ,Gc,h1,h2,h3,Hz⟩;have A0:=(DO.1 b3).1;have he:Ext x { x with S:=S' } w w':=⟨CZ,λ_ h=>h,λ_ _=>FM.refl _⟩
 have g':=g.H5 (x':={ x with S:=S' }) k (.mp (Ci (x.loc k).b R')) he (B.wide λb e=>⟨hd,z,e.symm⟩) (λi=>⟨.inl,λh=>h.elim id λe=>e ▸ hd⟩) (λ_ _=>rfl) (λ_=>.inl ⟨hd,z,rfl⟩)
  ⟨b1,z,Cw,h1,h2,rfl,h3⟩ (λb j hs=>(Gc b j hs).imp id λh=>h.elim (λh=>⟨h.2,.inl h.1,λe=>by have:(x.loc k).b=b:=e;omega⟩) (λh=>⟨by rw[h];exact H7 A0 B.size,.inr ⟨hd,z,h.symm⟩,λ_ hx=>hx.elim⟩)) (λj hx=>hx.elim)
 have CB:NC w w':=⟨B.size,λb A1 W II=>(B.block b (DO.1 W).1 λe=>by subst e;rw[b3]at W;cases W;rw[b4]at II;cases II).trans W⟩
 cases out with
 | ret v=>obtain⟨u,rfl,h4⟩:=Hz;exact hn v rfl u _ w' g' he CB (CV.mono (Ub S' x w') _ _ h4)
 | HB ch=>have e:r'=.panicked ch:=Hz;subst e;exact HO ch rfl _ w' g' he CB
theorem SW.pE {f:FuncId}{args Bd:List V}{R R':Obj->Prop}(S:AQ P f Bd m R R' (.ret res))(I:Fp P f=true)(z:BQ ops s.t o.guard=some true)(Q:C7 (ev s.t) o.op=some (f,args))(hp:V.CF args=some Bd)(G:s.h[k]?=some (.mp (Ci m R)))(h:SW P ops K r (s.step o.dst res (some (k,.mp (Ci m R'))))):SW P ops K (o::r) s:=λS0 w0 x a w B=>by
 have hw:FB o (yielded ops.toArray a.tmps)=true:=by
  have:=KR (o:=o) B.tm (IF (ops:=ops) (K1:=True) (K2:=False) z trivial);exact Kn λh=>this.2 h
 unfold wpList;rw[if_pos hw];refine .inl ?_;refine pF k B.good (λy _=>CW B.tm y) S I Q hp G (λ_ U u x' w' W q J F=>?_) (λ_ e=>nomatch e);cases U;have e:=Kj s.h (some (k,O.mp (Ci m R'))) (λk' o' e=>by cases e;exact LZ (Br.1 G).1);have E:Good S0 w0 x' w' (λi=>(Bk s.h (some (k,O.mp (Ci m R'))))[i]?):=by rw[e];exact W
 exact h S0 w0 _ _ w' (Bo.put B.tm (B.df.mono J) q E F o.dst)
theorem SW.AEd {f:FuncId}{args Bd:List V}{R R':Obj->Prop}(Q:AQ P f Bd m R R' (.HB ch))(G:Fp P f=true)(z:BQ ops s.t o.guard=some true)(J:C7 (ev s.t) o.op=some (f,args))(hp:V.CF args=some Bd)(F:s.h[k]?=some (.mp (Ci m R)))(h:K (.panic ch) ⟨s.t,Bk s.h (some (k,.mp (Ci m R')))⟩):SW P ops K (o::r) s:=λS0 w0 x a w B=>by
 have hw:FB o (yielded ops.toArray a.tmps)=true:=by
  have:=KR (o:=o) B.tm (IF (ops:=ops) (K1:=True) (K2:=False) z trivial);exact Kn λh=>this.2 h
 unfold wpList;rw[if_pos hw];refine .inl ?_;refine pF k B.good (λy _=>CW B.tm y) Q G J hp F (λ_ e=>nomatch e) λS U x' w' W q I=>?_
 cases U;have e:=Kj s.h (some (k,O.mp (Ci m R'))) (λk' o' e=>by cases e;exact LZ (Br.1 F).1);have E:Good S0 w0 x' w' (λi=>(Bk s.h (some (k,O.mp (Ci m R'))))[i]?):=by rw[e];exact W
 exact⟨x',⟨s.t,Bk s.h (some (k,.mp (Ci m R')))⟩,⟨E,AO.mono q _ _ B.tm,B.df.mono I⟩,h⟩
end
def Tf:V:=.c (.int .i64 100000000000000000000)
def V.Wx:V->Bool
 | .c (.int .i64 n)=>n==100000000000000000000
 | _=>false
theorem AHv {v:V}{u:Value}(h:v.Wx=true)(B:CV x w v u):False:=by
 unfold V.Wx at h;split at h;have e:=eq_of_beq h;subst e;simp only[CV,Ab]at B;exact absurd B.2 (by decide +kernel);cases h
def yi (t:List V):Prop:=∃(d:Nat) (v:V),t[d]?=some v/\v.Wx=true
def TZ (P:Program)(Z:List PanicEntry->Prop)(ops:List Oper)(K:List Ef->St->Prop)(l:List Oper)(acc:List Ef)(s:St):Prop:=∃es s',iI P Z ops l s es s'/\K (acc++es) s'
section
variable {P:Program} {Z:List PanicEntry->Prop} {ops:List Oper} {K:List Ef->St->Prop} {acc:List Ef} {s:St}
theorem TZ.nil (h:K acc s):TZ P Z ops K [] acc s:=⟨[],s,⟨rfl,rfl⟩,by simpa using h⟩
theorem TZ.cons (e:Ef)(B:oA P Z ops o s e)(E : ∀k I,e.t=some (k,I)->k<=s.h.length)(h:TZ P Z ops K r (acc++[e]) (s.step o.dst e.v e.t)):TZ P Z ops K (o::r) acc s:=by
 obtain⟨es,J,F,G⟩:=h;exact⟨e::es,J,⟨e,es,rfl,B,E,F⟩,by simpa using G⟩
theorem TZ.step (q:BQ ops s.t o.guard=some true)(hc:Ka o.op=false)(hs:Qv P o s=some (e,s1))(h:TZ P Z ops K r (acc++[e]) s1):TZ P Z ops K (o::r) acc s:=by
 unfold Qv at hs;split at hs
 . rename_i v t B;simp only[BL,Cr]at hs;obtain⟨rfl,rfl⟩:=hs;refine TZ.cons _ (Xu.z ?_) (oZ B) h;intro S0 w0 x w a H g S hr G Q next U;rw[QF S q];have ye:(P2 P (ev s.t) o.op).ap H s.h.length=some (v,t):=by rw[<-B];exact ADz λk G=>hr k (.inl G)
   obtain⟨nx,w',x',u,F,W,E,I,J,_⟩:=oW g (QR S) G ye;show o.wp P a w next Q;unfold Er;rw[F];rcases W with rfl|⟨rfl,rfl⟩
   exact U u x' w' I J E;exact U undef x' w' I J E
 cases hs
theorem TZ.off (B:BQ ops s.t o.guard=some false)(h:TZ P Z ops K r (acc++[⟨.A7 [],none,none⟩]) (s.put o.dst (.A7 []))):TZ P Z ops K (o::r) acc s:=TZ.cons _ (AFK B).z (λ_ _ e=>by cases e) h
theorem TZ.call {f:FuncId}(I:AC P f Bd res)(G:Fp P f=true)(hg:BQ ops s.t o.guard=some true)(B:Ee (ev s.t) o.op=some (f,Bd))(h:TZ P Z ops K r (acc++[⟨res,none,none⟩]) (s.step o.dst res none)):TZ P Z ops K (o::r) acc s:=by
 obtain⟨args,B,hp⟩:=Tv B;refine TZ.cons ⟨res,none,none⟩ (Xu.z ?_) (λ_ _ e=>by cases e) h;intro S0 w0 x w a H g F hr hk Q next hn;rw[QF F hg];obtain⟨fn,S,U,W⟩:=P7 G;exact AEa g (QR F) B (K:=λv=>v=res) ⟨Bd,res,hp,I,⟨fn,S,U,by simpa using W⟩,rfl⟩ λv u x' w' hv J q E=>by subst hv;exact hn u x' w' J q E
theorem TZ.pE {f:FuncId}{R R':Obj->Prop}(S:AQ P f Bd m R R' (.ret res))(G:Fp P f=true)(hg:BQ ops s.t o.guard=some true)(q:Ee (ev s.t) o.op=some (f,Bd))(E:s.h[k]?=some (.mp (Ci m R)))(h:TZ P Z ops K r (acc++[⟨res,some (k,.mp (Ci m R')),some k⟩]) (s.step o.dst res (some (k,.mp (Ci m R'))))):TZ P Z ops K (o::r) acc s:=by
 obtain⟨args,I,hp⟩:=Tv q;refine TZ.cons ⟨res,some (k,.mp (Ci m R')),some k⟩ (Xu.z ?_) (λk' ob e=>by cases e;exact LZ (Br.1 E).1) h;intro S0 w0 x w a H g F hr _ Q next J;rw[QF F hg];show o.wp P a w next Q;exact pF k g (QR F) S G I hp ((hr k (.inl rfl)).trans E) (λ_ U u x' w' W he _ B=>by cases U;exact J u x' w' W he B) (λ_ e=>nomatch e)
theorem TZ.HB {f:FuncId}{R:Obj->Prop}(J:AQ P f Bd m R R (.HB ch))(F:Fp P f=true)(hg:BQ ops s.t o.guard=some true)(q:Ee (ev s.t) o.op=some (f,Bd))(hk:s.h[k]?=some (.mp (Ci m R)))(hz:Z ch)(h:TZ P Z ops K r (acc++[⟨Tf,none,some k⟩]) (s.step o.dst Tf none)):TZ P Z ops K (o::r) acc s:=by
 obtain⟨args,G,hp⟩:=Tv q;refine TZ.cons ⟨Tf,none,some k⟩ ?_ (λ_ _ e=>by cases e) h;intro S0 w0 x w a H g E hr _ Q next I EH;rw[QF E hg];show o.wp P a w next Q;have B:=(hr k (.inl rfl)).trans hk;refine pF k g (QR E) J F G hp B (λ_ e=>nomatch e) λS U x' w' W z CB=>?_
 cases U;refine I ch x' w' hz ?_ z;have e:H.upd (some (k,O.mp (Ci m R)))=H:=by
  funext i;simp only[Bx.upd,Bx.set];split;rename_i h;subst h;exact B.symm;rfl
 rwa [e]at W
theorem TZ.dead (B:o.op.operands.toList.any (λy=>(ev s.t y).Wx)=true)(h:TZ P Z ops K r (acc++[⟨Tf,none,none⟩]) (s.step o.dst Tf none)):TZ P Z ops K (o::r) acc s:=by
 refine TZ.cons ⟨Tf,none,none⟩ ?_ (λ_ _ e=>by cases e) h;intro S0 w0 x w a H g F S _ Q next J I;obtain⟨y,G,E⟩:=aH.1 B;exact(AHv E (QR F y G)).elim
end
theorem Good.AOf {S0:BF}{w0:Bs}{H:Bx}{h:List O}(g:Good S0 w0 x w H)(n:Nat)(hn:w0.n0<=n)(hH : ∀k,k<n->H k=h[k]?)(ho:((h.take n).all (O.A8 n))=true):Good S0 w0 (x.cut n) w (λk=>(h.take n)[k]?):=by
 have E : ∀k o,(h.take n)[k]?=some o->H k=some o/\k<n:=by
  intro k o B;rw[KO]at B;split at B;rename_i h;exact⟨(hH k h).trans B,h⟩;cases B
 refine⟨λk o B=>?_,λk B=>?_,λk k' o o' q z=>g.inj k k' o o' (E k o q).1 (E k' o' z).1,λk o j B hx=>g.EA k o j (E k o B).1 (by cases o<;>exact hx),g.ex,λk o B=>g.own k o (E k o B).1,g.new,g.sub,g.keep,g.ext.ar,λk B=>⟨g.ext.dom k B,H7 (w0.dl k B) hn⟩,g.ext.loc⟩;obtain⟨q,z⟩:=E k o B;obtain⟨h3,F⟩:=g.ok k o q;refine⟨⟨h3,z⟩,?_⟩;cases o with
 | box ty U fr=>obtain⟨G,I,vs,J,Q,S⟩:=F;rw[ES]at ho;exact⟨G,I,vs,J,Q,AO.cut U _ (ho _ (Cj B)) S⟩
 | tok ty es W=>exact F
 | mp R=>exact F
 | Be ty es W U=>obtain⟨G,I,J,Q,S,vs,a6,a7,a8,a9⟩:=F;rw[ES]at ho;exact⟨G,I,J,Q,S,vs,a6,a7,a8,AO.cut U _ (ho _ (Cj B)) a9⟩
 obtain⟨o,Hz⟩:=g.dom k B.1;refine⟨o,?_⟩;rw[KO,if_pos B.2,<-hH k B.2];exact Hz
def ZW (O0:O)(e:Ef):Prop:=∀ob,e.t=some (0,ob)->ob=O0
theorem AW.APA {Z:List PanicEntry->Prop}{z id:Nat}{ops:List Oper}{s:St}(hm:P.follows .mixedOrders=true)(hn:z<=1)(B:s.h[0]?=some (.mp R))(h:TZ P Z ops (λes s'=>Lk ops (es.map Ef.ks)=true/\(∀e∈es,ZW (.mp R) e)/\(yi s'.t\/K .normal s')) ops [] s)(hp : ∀ch,Z ch->K (.panic ch) ⟨Aq s.t.length .any,[.mp R]⟩):AW ⟨none,z⟩ P (.region id ops.toArray true) K s:=λn S0 w0 x a w qq E=>by
 have e:({ w with drawn:=w.drawn+1 }:World)=w.drew:=rfl;have Au:Bo S0 w0 x s a w.drew:=by
  obtain⟨g,I⟩:=E.good.MF (x':=x) (w':=w.drew) (Ay.refl w).drew ⟨λ_ _ h=>h,λb j v _ F=>(Ay.refl w).drew.cell F⟩ rfl rfl (λb j h=>.inl h);exact⟨g,AO.mono I _ _ E.tm,E.df.mono (.FR (Ay.refl w).drew)⟩
 obtain⟨es,s',J,F,Q,W⟩:=h;simp only[BU]at F Q W;refine wpIn_wide.2 (wp_region_any hm ?_);rw[e];refine pY (K:=λs=>yi s.t\/K .normal s) (n:=1) J F W (λx s a w h E=>?_) (λe I k ob hk J=>?_) (λch x a w H hz g hH FK Fu=>?_) Au;rcases h with ⟨d,v,h1,h2⟩|h
 obtain⟨u,_,hu⟩:=E.tm.get d v h1;exact(AHv h2 hu).elim;exact⟨x,s,E,h⟩;have:k=0:=by omega
 subst this;rw[Q e I ob J];exact B;have S:s.h.take 1=[.mp R]:=by
  cases q:s.h with
  | nil=>rw[q]at B;simp at B
  | cons o r=>rw[q]at B;simp only[List.getElem?_cons_zero,BL]at B;rw[B];rfl
 have U:=g.AOf 1 (Nat.le_trans qq hn) hH (by rw[S];rfl);rw[S]at U;refine⟨x.cut 1,⟨Aq s.t.length .any,[.mp R]⟩,⟨U,?_,Fu⟩,hp ch hz⟩;have:=SQ (x.cut 1) w s.t.length;refine AO.SI (by simp[FK]) λi v u G _=>?_
 rw[List.getElem?_replicate]at G;split at G;cases G;simp only[CV];cases G
section
variable {P:Program} {K:Exit->St->Prop} {ops:List Oper} {s:St}
structure BH (P:Program)(ops:List Oper)(K:Exit->St->Prop)(l:List Oper)(s:St):Prop where
 out:SW P ops K l s
theorem BH.I2 {B id:Nat}(h:BH P ops K ops s):AW ⟨none,B⟩ P (.region id ops.toArray false) K s:=AW.DA h.out
theorem BH.done (h:K .normal s):BH P ops K [] s:=⟨SW.nil h⟩
theorem ALP (F:BQ ops s.t o.guard=some true)(E:Ka o.op=false)(hs:Qw P o s=some s1)(h:SW P ops K r s1):SW P ops K (o::r) s:=SW.take 1 (by
 show Eg P ops _ [o] s;unfold Qw at hs;split at hs;rename_i v t B;cases hs;unfold Eg;refine IF F ?_;unfold RP;rw[YC E];simp only;rw[B];exact h;cases hs)
theorem AZe (B:BQ ops s.t o.guard=some false)(h:SW P ops K r (s.put o.dst (.A7 []))):SW P ops K (o::r) s:=SW.take 1 (by
 show Eg P ops _ [o] s;unfold Eg;exact X8 B h)
theorem BH.h {J:List (Option Nat)}(Q:ops.map (·.dst)=J):∀(n:Nat) (b:Bool) {l E:List Oper} {s s':St},LL P J n b l s=some (E,s')->BH P ops K E s'->BH P ops K l s
 | n,true,[],E,s,s',h,B=>by simp[LL]at h
 | n,false,[],E,s,s',h,B=>by simp only[LL,BL,Cr]at h;obtain⟨rfl,rfl⟩:=h;exact B
 | 0,b,o::r,E,s,s',h,B=>by simp only[LL,BL,Cr]at h;obtain⟨rfl,rfl⟩:=h;exact B
 | n+1,true,o::r,E,s,s',h,B=>by
   subst Q;unfold LL at h;rw[jG]at h;split at h;rename_i F;split at h;rename_i G;split at h;rename_i s1 I;exact⟨ALP F G I (BH.h rfl n _ h B).out⟩;cases h;cases h;rename_i F;exact⟨AZe F (BH.h rfl n _ h B).out⟩;cases h
 | n+1,false,o::r,E,s,s',h,B=>by
   subst Q;unfold LL at h;split at h;simp only[BL,Cr]at h;obtain⟨rfl,rfl⟩:=h;exact B;rename_i S;have F:BQ ops s.t o.guard=some true:=by rw[S];rfl
   split at h;rename_i G;split at h;rename_i s1 I;exact⟨ALP F G I (BH.h rfl n _ h B).out⟩;cases h;simp only[BL,Cr]at h;obtain⟨rfl,rfl⟩:=h;exact B
theorem BH.c2 {f:FuncId}(E:AC P f Bd res)(B:Fp P f=true)(G:BQ ops s.t o.guard=some true)(F:Ee (ev s.t) o.op=some (f,Bd))(h:BH P ops K r (s.step o.dst res none)):BH P ops K (o::r) s:=⟨SW.take 1 (ADy E B G F h.out)⟩
theorem BH.q {f:FuncId}{R R':Obj->Prop}(F:AQ P f Bd m R R' (.ret res))(B:Fp P f=true)(I:BQ ops s.t o.guard=some true)(G:Ee (ev s.t) o.op=some (f,Bd))(J:s.h[0]?=some (.mp (Ci m R)))(h:BH P ops K r (s.step o.dst res (some (0,.mp (Ci m R'))))):BH P ops K (o::r) s:=by
 obtain⟨args,E,Q⟩:=Tv G;exact⟨SW.pE 0 F B I E Q J h.out⟩
theorem BH.p {f:FuncId}{R R':Obj->Prop}(F:AQ P f Bd m R R' (.HB ch))(B:Fp P f=true)(I:BQ ops s.t o.guard=some true)(G:Ee (ev s.t) o.op=some (f,Bd))(J:s.h[0]?=some (.mp (Ci m R)))(h:K (.panic ch) ⟨s.t,Bk s.h (some (0,.mp (Ci m R')))⟩):BH P ops K (o::r) s:=by
 obtain⟨args,E,Q⟩:=Tv G;exact⟨SW.AEd 0 F B I E Q J h⟩
end
def SY (P:Program)(ds:List (Option Nat)):Nat->Bool->List Oper->List (Option Nat×Option Nat)->St->Option (List Oper×List (Option Nat×Option Nat)×St)
 | _,true,[],_,_=>none
 | _,false,[],ks,s=>some ([],ks,s)
 | 0,_,l,ks,s=>some (l,ks,s)
 | n+1,true,o::r,ks,s=>match QE ds s.t o.guard with
   | some true=>match Ka o.op with
     | false=>match Qv P o s with
       | some (e,s')=>if e.ks.1=some 0 then none else SY P ds n false r (ks++[e.ks]) s'
       | none=>none
     | true=>none
   | some false=>SY P ds n false r (ks++[(none,none)]) (s.put o.dst (.A7 []))
   | none=>none
 | n+1,false,o::r,ks,s=>match o.guard with
   | some _=>some (o::r,ks,s)
   | none=>match Ka o.op with
     | false=>match Qv P o s with
       | some (e,s')=>if e.ks.1=some 0 then none else SY P ds n false r (ks++[e.ks]) s'
       | none=>none
     | true=>some (o::r,ks,s)
section
variable {P:Program} {Z:List PanicEntry->Prop} {O0:O} {K:St->Prop} {ops:List Oper} {ks:List (Option Nat×Option Nat)} {s:St}
structure BJ (P:Program)(Z:List PanicEntry->Prop)(O0:O)(ops:List Oper)(K:St->Prop)(l:List Oper)(ks:List (Option Nat×Option Nat))(s:St):Prop where
 out : ∀acc:List Ef,acc.map Ef.ks=ks->(∀e∈acc,ZW O0 e)->TZ P Z ops (λes s'=>Lk ops (es.map Ef.ks)=true/\(∀e∈es,ZW O0 e)/\(yi s'.t\/K s')) l acc s
theorem BJ.I2 {B id:Nat}{K:Exit->St->Prop}(F:P.follows .mixedOrders=true)(G:B<=1)(E:s.h[0]?=some (.mp R))(h:BJ P (λch=>K (.panic ch) ⟨Aq s.t.length .any,[.mp R]⟩) (.mp R) ops (K .normal) ops [] s):AW ⟨none,B⟩ P (.region id ops.toArray true) K s:=AW.APA F G E (h.out [] rfl (by simp)) λ_ h=>h
theorem BJ.done (B:Lk ops ks=true)(h:K s):BJ P Z O0 ops K [] ks s:=⟨λacc e E=>TZ.nil ⟨by rw[e];exact B,E,.inr h⟩⟩
theorem BJ.gone (B:Lk ops ks=true)(h:s.t.any V.Wx=true):BJ P Z O0 ops K [] ks s:=⟨λacc e G=>TZ.nil ⟨by rw[e];exact B,G,.inl (by
 obtain⟨v,I,F⟩:=aH.1 h;obtain⟨d,E⟩:=List.mem_iff_getElem?.1 I;exact⟨d,v,E,F⟩)⟩⟩
theorem dP (h : ∀e∈acc,ZW O0 e)(h':ZW O0 e):∀E∈acc++[e],ZW O0 E:=by
 intro E B;rcases MJ.1 B with B|B
 exact h E B;rw[List.mem_singleton.1 B];exact h'
theorem ATo (h:e.ks.1≠some 0):ZW O0 e:=λE B=>by
 unfold Ef.ks at h;rw[B]at h;exact absurd rfl h
theorem BJ.step (F:BQ ops s.t o.guard=some true)(E:Ka o.op=false)(hs:Qv P o s=some (e,s1))(G:e.ks.1≠some 0)(h:BJ P Z O0 ops K r (ks++[e.ks]) s1):BJ P Z O0 ops K (o::r) ks s:=⟨λacc B I=>TZ.step F E hs (h.out _ (by rw[Fm,B];rfl) (dP I (ATo G)))⟩
theorem BJ.off (E:BQ ops s.t o.guard=some false)(h:BJ P Z O0 ops K r (ks++[(none,none)]) (s.put o.dst (.A7 []))):BJ P Z O0 ops K (o::r) ks s:=⟨λacc B F=>TZ.off E (h.out _ (by rw[Fm,B];rfl) (dP F λG e=>by cases e))⟩
theorem BJ.h {S:List (Option Nat)}(U:ops.map (·.dst)=S):∀(n:Nat) (b:Bool) {l F:List Oper} {ks E:List (Option Nat×Option Nat)} {s s':St},SY P S n b l ks s=some (F,E,s')->BJ P Z O0 ops K F E s'->BJ P Z O0 ops K l ks s
 | n,true,[],F,ks,E,s,s',h,B=>by simp[SY]at h
 | n,false,[],F,ks,E,s,s',h,B=>by simp only[SY,BL,Cr]at h;obtain⟨rfl,rfl,rfl⟩:=h;exact B
 | 0,b,o::r,F,ks,E,s,s',h,B=>by simp only[SY,BL,Cr]at h;obtain⟨rfl,rfl,rfl⟩:=h;exact B
 | n+1,true,o::r,F,ks,E,s,s',h,B=>by
   subst U;unfold SY at h;rw[jG]at h;split at h;rename_i G;split at h;rename_i I;split at h;rename_i e s1 Q;split at h;cases h;rename_i J;exact BJ.step G I Q J (BJ.h rfl n _ h B);cases h;cases h;rename_i G;exact BJ.off G (BJ.h rfl n _ h B);cases h
 | n+1,false,o::r,F,ks,E,s,s',h,B=>by
   subst U;unfold SY at h;split at h;simp only[BL,Cr]at h;obtain⟨rfl,rfl,rfl⟩:=h;exact B;rename_i W;have G:BQ ops s.t o.guard=some true:=by rw[W];rfl
   split at h;rename_i I;split at h;rename_i e s1 Q;split at h;cases h;rename_i J;exact BJ.step G I Q J (BJ.h rfl n _ h B);cases h;simp only[BL,Cr]at h;obtain⟨rfl,rfl,rfl⟩:=h;exact B
theorem BJ.c2 {f:FuncId}(E:AC P f Bd res)(B:Fp P f=true)(I:BQ ops s.t o.guard=some true)(G:Ee (ev s.t) o.op=some (f,Bd))(h:BJ P Z O0 ops K r (ks++[(none,none)]) (s.step o.dst res none)):BJ P Z O0 ops K (o::r) ks s:=⟨λacc F J=>TZ.call E B I G (h.out _ (by rw[Fm,F];rfl) (dP J λQ e=>by cases e))⟩
theorem BJ.q {f:FuncId}{R:Obj->Prop}(E:AQ P f Bd m R R (.ret res))(B:Fp P f=true)(I:BQ ops s.t o.guard=some true)(G:Ee (ev s.t) o.op=some (f,Bd))(J:s.h[0]?=some (.mp (Ci m R)))(h:BJ P Z (.mp (Ci m R)) ops K r (ks++[(some 0,some 0)]) (s.step o.dst res (some (0,.mp (Ci m R))))):BJ P Z (.mp (Ci m R)) ops K (o::r) ks s:=⟨λacc F Q=>TZ.pE 0 E B I G J (h.out _ (by rw[Fm,F];rfl) (dP Q λS e=>by cases e;rfl))⟩
theorem BJ.p {f:FuncId}{R:Obj->Prop}(E:AQ P f Bd m R R (.HB ch))(B:Fp P f=true)(I:BQ ops s.t o.guard=some true)(G:Ee (ev s.t) o.op=some (f,Bd))(J:s.h[0]?=some (.mp (Ci m R)))(S:Z ch)(h:BJ P Z O0 ops K r (ks++[(none,some 0)]) (s.step o.dst Tf none)):BJ P Z O0 ops K (o::r) ks s:=⟨λacc F Q=>TZ.HB 0 E B I G J S (h.out _ (by rw[Fm,F];rfl) (dP Q λU e=>by cases e))⟩
theorem BJ.d (E:o.op.operands.toList.any (λy=>(ev s.t y).Wx)=true)(h:BJ P Z O0 ops K r (ks++[(none,none)]) (s.step o.dst Tf none)):BJ P Z O0 ops K (o::r) ks s:=⟨λacc B F=>TZ.dead E (h.out _ (by rw[Fm,B];rfl) (dP F λG e=>by cases e))⟩
end
section
variable {P:Program} {K:Exit->St->Prop} {ops:List Oper} {s:St}
theorem BJ.ABV {id:Nat}{t:List V}{h:List O}(B:P.follows .mixedOrders=true)(_:true=true)(hh:BJ P (λch=>K (.panic ch) ⟨Aq t.length .any,[.mp R]⟩) (.mp R) ops (K .normal) ops [] ⟨t,.mp R::h⟩):AW ⟨none,1⟩ P (.region id ops.toArray true) K ⟨t,.mp R::h⟩:=BJ.I2 B (BN 1) rfl hh
theorem BH.Pj {B id n:Nat}(_:KQ n)(_:Nat.beq id n=false)(h:BH P ops K ops s):AW ⟨none,B⟩ P (.region id ops.toArray false) K s:=BH.I2 h
theorem BJ.Pj {id n:Nat}{t:List V}{h:List O}(_:KQ n)(_:Nat.beq id n=false)(B:P.follows .mixedOrders=true)(_:true=true)(hh:BJ P (λch=>K (.panic ch) ⟨Aq t.length .any,[.mp R]⟩) (.mp R) ops (K .normal) ops [] ⟨t,.mp R::h⟩):AW ⟨none,1⟩ P (.region id ops.toArray true) K ⟨t,.mp R::h⟩:=BJ.ABV B rfl hh
end
@[simp] theorem Z7 (h:List O):Bk h none=h:=rfl
@[simp] theorem ALo (o o':O)(h:List O):Bk (o::h) (some (0,o'))=o'::h:=by simp[Bk]
theorem CH {q:Prop}{g:FuncId}{c:Code}{R R':Obj->Prop}{out:Out}{n:Nat}(hf:P.funcs[g]?=some fn)(hn:fn.ntmps=n)(h:q)(hb:fn.body=some c:=by exact rfl)(k:fn.ntmps=n->q->AW ⟨none,1⟩ P c (oM P fn.results.toList out m R') ⟨args++List.replicate (fn.ntmps - args.length) .any,[.mp (Ci m R)]⟩:=by
   intro hn h;simp only[hn,List.map_cons,List.map_nil,List.length_cons,List.length_nil,Nat.reduceAdd,Nat.reduceSub,List.replicate_succ,List.replicate_zero,List.cons_append,List.nil_append];exact h):AQ P g args m R R' out:=AQ.intro hf hb (k hn h)
theorem stQ {p q:Prop}(h:q)(k:q->p:=by
 intro h;(with_reducible first|refine AW.seq ?_|refine AW.block ?_|refine G3 ?_|refine MV ?_|refine AW.ret ?_|refine S7 ?_|refine S4 ?_|refine BH.done ?_|refine AW.skip ?_|refine AW.exit ?_|refine S6 ?_|refine RN ?_|refine AW.label ?_|refine AW.scope ?_|refine UY ?_|refine S5 ?_|refine UX ?_|refine wC ?_|refine wA ?_|refine wB ?_|refine BJ.done (bl (by kernel_rfl)) ?_|refine S3 (by decide) ?_|refine BH.I2 ?_|refine BJ.ABV Fz rfl ?_)
 repeat (with_reducible first|refine AW.seq ?_|refine AW.block ?_|refine G3 ?_|refine MV ?_|refine AW.ret ?_|refine S7 ?_|refine S4 ?_|refine BH.done ?_|refine AW.skip ?_|refine AW.exit ?_|refine S6 ?_|refine RN ?_|refine AW.label ?_|refine AW.scope ?_|refine UY ?_|refine S5 ?_|refine UX ?_|refine wC ?_|refine wA ?_|refine wB ?_|refine BJ.done (bl (by kernel_rfl)) ?_|refine S3 (by decide) ?_|refine BH.I2 ?_|refine BJ.ABV Fz rfl ?_)
 with_reducible exact h):p:=k h
theorem lT {p q:Prop}{n:Nat}(m:KQ n)(h:q)(k:KQ n->q->p:=by
 intro m h;(with_reducible first|refine AW.seq ?_|refine AW.block ?_|refine G3 ?_|refine MV ?_|refine AW.ret ?_|refine S7 ?_|refine S4 ?_|refine BH.done ?_|refine AW.skip ?_|refine AW.exit ?_|refine S6 ?_|refine RN ?_|refine AW.label ?_|refine AW.scope ?_|refine UY ?_|refine S5 ?_|refine UX ?_|refine wC ?_|refine wA ?_|refine wB ?_|refine BJ.done (bl (by kernel_rfl)) ?_|refine S3 (by decide) ?_|refine BH.Pj m rfl ?_|refine BJ.Pj m rfl Fz rfl ?_)
 repeat (with_reducible first|refine AW.seq ?_|refine AW.block ?_|refine G3 ?_|refine MV ?_|refine AW.ret ?_|refine S7 ?_|refine S4 ?_|refine BH.done ?_|refine AW.skip ?_|refine AW.exit ?_|refine S6 ?_|refine RN ?_|refine AW.label ?_|refine AW.scope ?_|refine UY ?_|refine S5 ?_|refine UX ?_|refine wC ?_|refine wA ?_|refine wB ?_|refine BJ.done (bl (by kernel_rfl)) ?_|refine S3 (by decide) ?_|refine BH.Pj m rfl ?_|refine BJ.Pj m rfl Fz rfl ?_)
 with_reducible exact h):p:=k m h
theorem Zs {F p q:Prop}(f:F)(h:q)(k:F->q->p:=by
 intro f h;first
 | (with_reducible refine BH.h (by simp only[List.append_eq,List.cons_append,List.nil_append,List.map_cons,List.map_nil];exact rfl) 4 true (by as_aux_lemma=>(simp (disch:=first|assumption|(simp<;>fail)|omega) [LL,QE,Ef.ks,wrap_i64,if_pos,if_neg,List.replicate_succ,f];first|exact rfl|exact⟨rfl,rfl⟩)) ?_)
 | (with_reducible refine BJ.h (by simp only[List.append_eq,List.cons_append,List.nil_append,List.map_cons,List.map_nil];exact rfl) 4 true (by as_aux_lemma=>(simp (disch:=first|assumption|(simp<;>fail)|omega) [SY,QE,Ef.ks,wrap_i64,if_pos,if_neg,List.replicate_succ,f];first|exact rfl|exact⟨rfl,rfl,rfl⟩)) ?_)
 with_reducible exact h):p:=k f h
theorem F5 {F p q:Prop}{g:FuncId}(f:F)(C9:AC P g args res)(h:q)(k:F->AC P g args res->q->p:=by
 intro f c h;(with_reducible first|refine BH.c2 c (by first|(simp only[f];done)|kernel_rfl) ?_ ?_ ?_|refine BJ.c2 c (by first|(simp only[f];done)|kernel_rfl) ?_ ?_ ?_)
 focus (simp[BQ,f]<;>fail)
 focus (simp (disch:=first|assumption|(simp<;>fail)|omega) [Ee,wrap_i64,f]<;>fail)
 (simp only[St.step,St.put,Z7];with_reducible exact h)):p:=k f C9 h
theorem WD {F p q:Prop}{g:FuncId}{R:Obj->Prop}(f:F)(C9:AQ P g args m R R (.ret res))(h:q)(k:F->AQ P g args m R R (.ret res)->q->p:=by
 intro f c h;(with_reducible first|refine BH.q c (by first|(simp only[f];done)|kernel_rfl) ?_ ?_ ?_ ?_|refine BJ.q c (by first|(simp only[f];done)|kernel_rfl) ?_ ?_ ?_ ?_)
 focus (simp[BQ,f]<;>fail)
 focus (simp (disch:=first|assumption|(simp<;>fail)|omega) [Ee,wrap_i64,f]<;>fail)
 focus exact rfl
 (simp only[St.step,St.put,ALo];with_reducible exact h)):p:=k f C9 h
theorem WC {F p:Prop}{g:FuncId}{R:Obj->Prop}(f:F)(C9:AQ P g args m R R (.HB ch))(k:F->AQ P g args m R R (.HB ch)->p:=by
 intro f c;first
 | ((with_reducible refine BH.p c (by first|(simp only[f];done)|kernel_rfl) ?_ ?_ ?_ ?_)
    focus (simp[BQ,f]<;>fail)
    focus (simp (disch:=first|assumption|(simp<;>fail)|omega) [Ee,wrap_i64,f]<;>fail)
    focus exact rfl
    (exact⟨by first|rfl|assumption|(simp[*]<;>fail),rfl⟩))
 | ((with_reducible refine BJ.p c (by first|(simp only[f];done)|kernel_rfl) ?_ ?_ ?_ ?_ ?_)
    focus (simp[BQ,f]<;>fail)
    focus (simp (disch:=first|assumption|(simp<;>fail)|omega) [Ee,wrap_i64,f]<;>fail)
    focus exact rfl
    focus (exact⟨by first|rfl|assumption|(simp[*]<;>fail),rfl⟩)
    (simp only[St.step,St.put,Z7])
    repeat (first
     | ((with_reducible refine BJ.d ?_ ?_);(focus (simp[Op.operands,Call.operands,ev,V.Wx,Tf]<;>fail));(simp only[St.step,St.put,Z7]))
     | (with_reducible refine BJ.h (by simp only[List.append_eq,List.cons_append,List.nil_append,List.map_cons,List.map_nil];exact rfl) 1 true (by as_aux_lemma=>(simp (disch:=first|assumption|(simp<;>fail)|omega) [SY,QE,Ef.ks,wrap_i64,if_pos,if_neg,List.replicate_succ,f];first|exact rfl|exact⟨rfl,rfl,rfl⟩)) ?_))
    exact BJ.gone (bl (by kernel_rfl)) (by simp[V.Wx,Tf]))):p:=k f C9
theorem ZX {F p:Prop}(f:F)(k:F->p:=by
 intro f;with_reducible show oM _ _ _ _ _ _ _
 simp (disch:=first|assumption|(simp<;>fail)|omega) [oM,DV,C0,DE,V.CP,V.CF,CJ,wrap_i64, *]<;>fail):p:=k f
theorem X9 {F p q q' c:Prop}[Decidable c](f:F)(h1:c->q)(h2 : ¬c->q')(k:F->(decide c=true->q)->(decide c=false->q')->p:=by
 intro f h1 h2;first
 | (with_reducible refine pS (by simp[ev,f];exact rfl) (by with_reducible exact rfl) (by(fail_if_success with_reducible exact D6.t);(fail_if_success with_reducible exact D6.f);exact D6.mk _) h1 h2)
 | (with_reducible refine BH.VY (by simp[N8,f];exact rfl) (by with_reducible exact rfl) (by(fail_if_success with_reducible exact D6.t);(fail_if_success with_reducible exact D6.f);exact D6.mk _) (by simp[Hn];exact rfl) (by simp[Hn];exact rfl) h1 h2)
 | (with_reducible refine BJ.VY (by simp[N8,f];exact rfl) (by with_reducible exact rfl) (by(fail_if_success with_reducible exact D6.t);(fail_if_success with_reducible exact D6.f);exact D6.mk _) (by simp[Hn];exact rfl) (by simp[Hn];exact rfl) h1 h2)):p:=k f (λh=>h1 (of_decide_eq_true h)) λh=>h2 (of_decide_eq_false h)
theorem wg {F C p q:Prop}(f:F)(c:C)(h:q)(k:F->C->q->p:=by
 intro f c h;first
 | ((first|refine F5 f c.1 ?_|refine WD f c.1 ?_);exact h)
 | ((first|refine F5 f c.2.1 ?_|refine WD f c.2.1 ?_);exact h)
 | ((first|refine F5 f c.2.2.1 ?_|refine WD f c.2.2.1 ?_);exact h)
 | ((first|refine F5 f c.2.2.2.1 ?_|refine WD f c.2.2.2.1 ?_);exact h)
 | ((first|refine F5 f c.2.2.2.2.1 ?_|refine WD f c.2.2.2.2.1 ?_);exact h)
 | ((first|refine F5 f c.2.2.2.2.2.1 ?_|refine WD f c.2.2.2.2.2.1 ?_);exact h)
 | ((first|refine F5 f c.2.2.2.2.2.2.1 ?_|refine WD f c.2.2.2.2.2.2.1 ?_);exact h)
 | ((first|refine F5 f c.2.2.2.2.2.2.2.1 ?_|refine WD f c.2.2.2.2.2.2.2.1 ?_);exact h)):p:=k f c h
theorem xF {F C p:Prop}(f:F)(c:C)(k:F->C->p:=by
 intro f c;first
 | exact WC f c.1
 | exact WC f c.2.1
 | exact WC f c.2.2.1
 | exact WC f c.2.2.2.1
 | exact WC f c.2.2.2.2.1
 | exact WC f c.2.2.2.2.2.1
 | exact WC f c.2.2.2.2.2.2.1
 | exact WC f c.2.2.2.2.2.2.2.1):p:=k f c
theorem qz {F C p:Prop}(f:F)(c:C)(k:F->C->p:=by
 intro ff cc;repeat any_goals (first|refine stQ ?_|exact ZX ff|refine Zs ff ?_|refine wg ff cc ?_|exact xF ff cc|refine DI ff ?_|((first|refine X9 ff ?_ ?_|refine bQ ff ?_ ?_|refine bO ff ?_ ?_|refine bP ff ?_ ?_)<;>intro h<;>try (exfalso;first|omega|contradiction)))):p:=k f c
theorem qy {F C p q:Prop}(f:F)(c:C)(h:Sw q)(k:F->C->Sw q->p:=by
 intro ff cc hh;repeat any_goals (first|refine stQ ?_|exact ZX ff|refine Zs ff ?_|refine wg ff cc ?_|exact xF ff cc|refine DI ff ?_|((first|refine X9 ff ?_ ?_|refine bQ ff ?_ ?_|refine bO ff ?_ ?_|refine bP ff ?_ ?_)<;>intro h<;>try (exfalso;first|omega|contradiction)))
 with_reducible exact hh.out):p:=k f c h
theorem qu {F C p q:Prop}{n:Nat}(m:KQ n)(f:F)(c:C)(h:Sw q)(k:KQ n->F->C->Sw q->p:=by
 intro mm ff cc hh;repeat any_goals (first|refine lT mm ?_|exact ZX ff|refine Zs ff ?_|refine wg ff cc ?_|exact xF ff cc|refine DI ff ?_|((first|refine X9 ff ?_ ?_|refine bQ ff ?_ ?_|refine bO ff ?_ ?_|refine bP ff ?_ ?_)<;>intro h<;>try (exfalso;first|omega|contradiction)))
 with_reducible exact hh.out):p:=k m f c h
theorem O4 {t:List V}{a:Act}(h:AO x w t a.tmps.toList){v:V}(B:t[i]?=some v):CV x w v (a.eval (.tmp i)):=by
 have:=CW h (.tmp i);simpa [ev,Bv,B]using this
theorem pj {t:List V}{a:Act}(h:AO x w t a.tmps.toList){c:C}(B:t[i]?=some (.c c)):Ab x.S w c (a.eval (.tmp i)):=by
 have:=O4 h B;simpa only[CV]using this
theorem pO (G:l.length<=1000000):AC AF 118 [.c (AV l)] (.c (AV l)):=by
 have f1:l.length<=maxLen:=by unfold maxLen;omega
 have f2:l.length*8<=140737488355328:=by omega
 unfold AV;refine en ug ntmps118 ?_;with_reducible refine AW.seq ?_
 with_reducible refine AW.region ?_
 with_reducible refine If (by simp[BY];first|exact rfl|exact⟨rfl,rfl⟩) ?_
 with_reducible refine Kz ?_
 with_reducible refine G3 ?_
 with_reducible refine AW.seq ?_
 with_reducible refine AW.seq ?_
 refine Og (.mk 1) trivial ?_;refine SW.OU (λv t=>t=none/\∃b:Bool,v=.c (.bool b)/\(b=true->l.map (λn=>[C.int AZ n])=[])) (by simp[BQ]) ?_ ?_;intro S0 w0 x a w g B F;exact AI2 (P:=AF) g _ rfl (by simp;exact⟨rfl,rfl,rfl⟩) (pj B rfl) rfl;rintro v t ⟨rfl,b,rfl,E⟩;cases b with
 | true =>
   have:l=[]:=by simpa using E rfl
   subst this;refine SW.nil ?_;refine Ah ?_;exact At results118
 | false =>
   refine SW.nil ?_;refine Ah ?_;with_reducible refine AW.DA ?_
   refine SW.OU (λv t=>t=none/\v=.Bg []) (by simp[BQ]) ?_ ?_;intro S0 w0 x a w g B F;exact⟨_,_,λ_ _ h=>(by cases h),⟨rfl,rfl⟩,AIv (P:=AF) g (t:=39) rfl (Ae:=3) (es:=1) (Bq:=8) (by simp)⟩;rintro v t ⟨rfl,rfl⟩;refine CY (.mk 3) (cj @f1<|@f2) ?_;refine SW.nil ?_;refine Ah ?_;exact At results118
mutual
def V.sf (N:Nat):V->Bool
 | .ptr k _=>decide (k<N) && decide (k≠2)
 | .own k _ _ _=>decide (k<N) && decide (k≠2)
 | .gr k _ _=>decide (k<N) && decide (k≠2)
 | .Be k _ _=>decide (k<N) && decide (k≠2)
 | .hp k _ _=>decide (k<N) && decide (k≠2)
 | .mp _=>false
 | .agg l=>V.Em N l
 | .A7 l=>V.Em N l
 | .fn _ l=>V.Em N l
 | .any=>true
 | .c _=>true
 | .cp _ _=>true
 | .Bg _=>true
 | .yl _=>true
def V.Em (N:Nat):List V->Bool
 | []=>true
 | v::l=>v.sf N && V.Em N l
end
mutual
theorem AKn {N:Nat}{ρ:Nat->Nat}(B : ∀k,k<N->k≠2->ρ k=k):∀v:V,v.sf N=true->v.GS ρ=v
 | .ptr k _,h=>by simp only[V.sf,Ak,decide_eq_true_eq]at h;simp only[V.GS,B k h.1 h.2]
 | .own k _ _ _,h=>by simp only[V.sf,Ak,decide_eq_true_eq]at h;simp only[V.GS,B k h.1 h.2]
 | .gr k _ _,h=>by simp only[V.sf,Ak,decide_eq_true_eq]at h;simp only[V.GS,B k h.1 h.2]
 | .Be k _ _,h=>by simp only[V.sf,Ak,decide_eq_true_eq]at h;simp only[V.GS,B k h.1 h.2]
 | .hp k _ _,h=>by simp only[V.sf,Ak,decide_eq_true_eq]at h;simp only[V.GS,B k h.1 h.2]
 | .mp _,h=>by simp[V.sf]at h
 | .agg l,h=>by simp only[V.sf]at h;simp only[V.GS,lM B l h]
 | .A7 l,h=>by simp only[V.sf]at h;simp only[V.GS,lM B l h]
 | .fn _ l,h=>by simp only[V.sf]at h;simp only[V.GS,lM B l h]
 | .any,_=>rfl
 | .c _,_=>rfl
 | .cp _ _,_=>rfl
 | .Bg _,_=>rfl
 | .yl _,_=>rfl
theorem lM {N:Nat}{ρ:Nat->Nat}(B : ∀k,k<N->k≠2->ρ k=k):∀l:List V,V.Em N l=true->V.SO ρ l=l
 | [],_=>rfl
 | v::l,h=>by simp only[V.Em,Ak]at h;simp only[V.SO,AKn B v h.1,lM B l h.2]
end
mutual
theorem AKm {N M:Nat}(B:N<=M):∀v:V,v.sf N=true->v.A8 M=true/\v.sf M=true
 | .ptr k _,h=>by simp only[V.sf,V.A8,Ak,decide_eq_true_eq]at h ⊢;omega
 | .own k _ _ _,h=>by simp only[V.sf,V.A8,Ak,decide_eq_true_eq]at h ⊢;omega
 | .gr k _ _,h=>by simp only[V.sf,V.A8,Ak,decide_eq_true_eq]at h ⊢;omega
 | .Be k _ _,h=>by simp only[V.sf,V.A8,Ak,decide_eq_true_eq]at h ⊢;omega
 | .hp k _ _,h=>by simp only[V.sf,V.A8,Ak,decide_eq_true_eq]at h ⊢;omega
 | .mp _,h=>by simp[V.sf]at h
 | .agg l,h=>by simp only[V.sf,V.A8]at h ⊢;exact SZ B l h
 | .A7 l,h=>by simp only[V.sf,V.A8]at h ⊢;exact SZ B l h
 | .fn _ l,h=>by simp only[V.sf,V.A8]at h ⊢;exact SZ B l h
 | .any,_=>⟨rfl,rfl⟩
 | .c _,_=>⟨rfl,rfl⟩
 | .cp _ _,_=>⟨rfl,rfl⟩
 | .Bg _,_=>⟨rfl,rfl⟩
 | .yl _,_=>⟨rfl,rfl⟩
theorem SZ {N M:Nat}(F:N<=M):∀l:List V,V.Em N l=true->V.BI M l=true/\V.Em M l=true
 | [],_=>⟨rfl,rfl⟩
 | v::l,h=>by
   simp only[V.Em,Ak]at h;have B:=AKm F v h.1;have E:=SZ F l h.2;simp only[V.BI,V.Em,B.1,B.2,E.1,E.2,Bool.and_self,and_self]
end
mutual
theorem AYa {N L:Nat}{row:List C}(B:N<=L):∀v:V,v.sf N=true->v.Bi L row=v
 | .ptr k _,h=>by simp only[V.sf,Ak,decide_eq_true_eq]at h;simp only[V.Bi];rw[if_neg (by omega)]
 | .own k _ _ _,h=>by simp only[V.sf,Ak,decide_eq_true_eq]at h;simp only[V.Bi];rw[if_neg (by omega)]
 | .gr k _ _,h=>rfl
 | .Be k _ _,h=>rfl
 | .hp k _ _,h=>rfl
 | .mp _,h=>by simp[V.sf]at h
 | .agg l,h=>by simp only[V.sf]at h;simp only[V.Bi,Zw B l h]
 | .A7 l,h=>by simp only[V.sf]at h;simp only[V.Bi,Zw B l h]
 | .fn _ l,h=>by simp only[V.sf]at h;simp only[V.Bi,Zw B l h]
 | .any,_=>rfl
 | .c _,_=>rfl
 | .cp _ _,_=>rfl
 | .Bg _,_=>rfl
 | .yl _,_=>rfl
theorem Zw {N L:Nat}{row:List C}(B:N<=L):∀l:List V,V.Em N l=true->V.Cs L row l=l
 | [],_=>rfl
 | v::l,h=>by simp only[V.Em,Ak]at h;simp only[V.Cs,AYa B v h.1,Zw B l h.2]
end
theorem fC {N:Nat} : ∀ {l:List V},V.Em N l=true↔∀v∈l,v.sf N=true
 | []=>by simp[V.Em]
 | v::l=>by simp only[V.Em,Ak,fC (l:=l),List.forall_mem_cons]
theorem sy {l k:List V}:V.Em N (l++k)=true↔V.Em N l=true/\V.Em N k=true:=by
 simp only[fC,MJ];exact⟨λh=>⟨λv B=>h v (.inl B),λv B=>h v (.inr B)⟩,λh v B=>B.elim (h.1 v) (h.2 v)⟩
theorem AKo {l:List V}{v:V}(h:V.Em N l=true)(E:v.sf N=true):V.Em N (l.set i v)=true:=by
 rw[fC]at h ⊢;intro u B;rcases List.mem_or_eq_of_mem_set B with B|rfl
 exact h u B;exact E
theorem ABl (l:List C):V.Em N (l.map V.c)=true:=by
 rw[fC];intro v B;obtain⟨c,_,rfl⟩:=Da.1 B;rfl
theorem xd {k:Nat}{row:List C} : ∀(l:List V),V.Cs k row l=l.map (V.Bi k row)
 | []=>rfl
 | v::l=>by simp only[V.Cs,Ap,xd l]
def Jq (q i:Nat):Nat:=if i=2 then q else i
theorem UW {q N M:Nat}{l:List V}(h:V.Em N l=true)(B:N<=M):EM (Jq q) M l l:=
 EM.same (lM (N:=N) (λk _ E=>by simp[Jq,E]) l h) (SZ B l h).1
theorem Le.Gw {t J:List V}{g h:List O}(q:Nat)(hq:q=2\/h.length<=q)(U:EM (Jq q) h.length t J)(Q : ∃o o',g[q]?=some o/\h[2]?=some o'/\Wo (Jq q) h.length o o')(hh : ∀i o',i≠2->h[i]?=some o'->∃o,g[i]?=some o/\Wo (Jq q) h.length o o'):Le ⟨none,0⟩ ⟨t,g⟩ ⟨J,h⟩:=by
 refine Le.GS (Jq q) (λi j W z e=>?_) U (λi o' I=>?_);unfold Jq at e;by_cases E:i=2;by_cases B:j=2;omega;rw[if_pos E,if_neg B]at e;omega;by_cases B:j=2;rw[if_neg E,if_pos B]at e;omega;rw[if_neg E,if_neg B]at e;exact e;by_cases e:i=2;subst e;obtain⟨o,o2,F,G,S⟩:=Q;rw[G]at I;cases I;exact⟨o,by simpa [Jq]using F,S⟩;obtain⟨o,F,G⟩:=hh i o' e I;exact⟨o,by simpa [Jq,e]using F,G⟩
def Kw (h:List O):Prop:=∀(i:Nat) (o:O),i≠2->h[i]?=some o->∃ty cs fr,o=.box ty cs fr/\V.Em h.length cs=true
theorem oJ {q N M:Nat}{o:O}(h : ∃ty cs B,o=.box ty cs B/\V.Em N cs=true)(E:N<=M):Wo (Jq q) M o o:=by
 obtain⟨ty,cs,B,rfl,h⟩:=h;exact⟨rfl,rfl,UW h E⟩
theorem Kw.set {h:List O}(hs:Kw h){k:Nat}{cs:List V}{E:Bool}(F:V.Em h.length cs=true):Kw (h.set k (.box ty cs E)):=by
 intro i o G B;rw[RD]at B;rw[GF];by_cases e:k=i;subst e;rw[if_pos rfl]at B;split at B;cases B;exact⟨ty,cs,E,rfl,F⟩;cases B;rw[if_neg e]at B;exact hs i o G B
theorem Kw.push {h:List O}(hs:Kw h){cs:List V}{E:Bool}(I:V.Em h.length cs=true):Kw (h++[.box ty cs E]):=by
 intro i o J B;rw[Cp,List.length_singleton];rcases Nat.lt_trichotomy i h.length with F|F|F
 rw[EJ F]at B;obtain⟨ty,cs,E,rfl,G⟩:=hs i o J B;exact⟨ty,cs,E,rfl,(SZ (Nat.le_succ _) cs G).2⟩;subst F;rw[Gy (BN _)]at B;simp at B;subst B;exact⟨ty,cs,E,rfl,(SZ (Nat.le_succ _) cs I).2⟩;rw[Gy (by omega),List.getElem?_eq_none (by simp;omega)]at B;cases B
def il:Option Code->Code
 | some (.seq _ (.seq _ (.seq (.loop c) _)))=>c
 | some (.seq _ (.seq _ (.seq (.block _ (.loop c)) _)))=>c
 | some (.seq _ (.seq _ (.seq c _)))=>c
 | _=>.skip
def Gw (st:List V)(j:Nat):O:=.box 186 (st++Aq j .any) false
def dT (n:Nat):List V:=[.any,.ptr 0 0,.ptr 1 0,.own 2 0 n 1]++Aq 67 .any
noncomputable def P8:Code:=il (mw).body
noncomputable def AE3:Code:=match P8 with
 | .seq _ (.block _ (.seq _ (.seq _ (.seq _ (.seq _ (.seq _ (.seq _ (.seq _ (.seq _ (.block _ (.loop c)))))))))))=>c
 | _=>.skip
theorem ez {α:Type}{l:List α}{v:α}(h:l[i]?=some v):l.set i v=l:=by
 apply List.ext_getElem?;intro j;rw[RD];by_cases e:i=j;subst e;have B:=(Br.1 h).1;simp only[if_true,B];exact h.symm;simp[e]
theorem AOo (n k off:Nat)(ty:TypeId)(cs J:List V)(src:List Int)(W:H[2]?=some (.box 186 J false))(F:H[k]?=some (.box ty cs false))(EG:k≠2)(hp:J[n]?=some (.ptr k off))(hn:n<1000000)(hs:src.length<=1000000)(Q:cs[off+8]?=some (.c (.sl [])))(G:cs[off+10]?=some (.c (AV src)))(hK : ∀t,t.length=71->t.take 4=[.any,.ptr 0 0,.ptr 1 0,.own 2 0 n 1]->LA ⟨none,0⟩ AF P8 K ⟨t,H.set k (.box ty (cs.set (off+8) (.Bg [])) false)⟩):
 AW ⟨none,0⟩ AF P8 (NH (LA ⟨none,0⟩ AF P8 K) K) ⟨dT (n+1),H⟩:=by
 have E:k<H.length:=(Br.1 F).1;have N9:2<H.length:=(Br.1 W).1;have q:AZ.wrap (n:Int)=(n:Int):=Ac;have U:off+8<cs.length:=(Br.1 Q).1;have zf:off+10<cs.length:=(Br.1 G).1;have z:H[k]'E=.box ty cs false:=(Br.1 F).2;have zg:off+10+1<=cs.length:=zf;have qx:off+8+1<=cs.length:=U;have KG:cs.set (off+10) (.c (AV src))=cs:=ez G;have xy:H.set k (.box ty cs false)=H:=ez F;have S:(H.set k (.box ty (cs.set (off+8) (.Bg [])) false))[k]?=some (.box ty (cs.set (off+8) (.Bg [])) false):=by rw[IX E]
 have yr:(cs.set (off+8) (.Bg []))[off+8]?=some (.Bg []):=by rw[IX U]
 conv=>arg 3;unfold P8
 simp only[il,mw,dT,BY,Cy,BK,BU];have I:(0:Int)<(n:Int)+1:=by omega
 have kA:(n:Int)<(n:Int)+1:=by omega
 refine go (cj5 @q @W @hp @hn @I @kA) ?_;refine Og (.mk 4) @q ?_;refine SW.OU (λv t=>t=none/\v=.own 2 0 n 1) (by simp[BQ]) ?_ ?_;intro S0 w0 x a w g B EC;exact⟨_,_,λ_ _ h=>(by cases h),⟨rfl,rfl⟩,AI4 (P:=AF) (n:=n) (len:=n+1) g rfl (by simp;exact⟨rfl,rfl⟩) (O4 B rfl) (O4 B rfl) (by omega)⟩;rintro v t ⟨rfl,rfl⟩;refine CY (.mk 1) trivial ?_;refine SW.nil ?_;refine go (cj2 @F @Q @G) ?_;refine gc (cj4 @z @E @zg @KG @xy) (pO src hs) ug ?_;refine go (cj2 @z @E @qx) ?_;refine Og (.mk 5) (cj @S<|@yr) ?_;refine SW.OU (λv t=>t=none/\v=.c (.int .i64 0)) (by simp[BQ]) ?_ ?_;intro S0 w0 x a w g B EC;exact⟨_,_,λ_ _ h=>(by cases h),⟨rfl,rfl⟩,AU1 (P:=AF) g rfl (by simp;exact⟨rfl,rfl,rfl⟩) (by have:=O4 (v:=.Bg []) B (i:=49) rfl;simp only[CV]at this;obtain⟨_,_,h⟩:=this;exact h) (pj B rfl)⟩;rintro v t ⟨rfl,rfl⟩;refine SW.nil ?_;refine go (cj @S<|@yr) ?_;with_reducible refine LA.loop ?_
 with_reducible refine LA.round ?_
 refine Ah ?_;exact hK _ rfl rfl
def TI (n m i k off:Nat):List V:=[.any,.ptr 0 0,.ptr 1 0,.own 2 0 (n+i) 1,.ptr k off]++Aq 51 .any++[.c (.int .i64 (m:Int)),.c (.int .i64 (i:Int))]++Aq 13 .any
def F0 (L m:Nat):List V:=(List.range m).map λi=>.ptr L (i*11)
theorem ABM (L m:Nat):F0 L (m+1)=F0 L m++[.ptr L (m*11)]:=by simp[F0,List.range_succ]
theorem AJ0 (L m:Nat):(F0 L m).length=m:=by simp[F0]
theorem ABL {L N:Nat}(m:Nat)(h:L<N)(E:L≠2):V.Em N (F0 L m)=true:=by
 rw[fC];intro v B;simp only[F0,Da]at B;obtain⟨i,_,rfl⟩:=B;simp[V.sf,h,E]
theorem AJ4 {G h':List O}{t:List V}{n m i k off L q:Nat}{st:List V}{B:List V}(hG:Kw G)(z:2<G.length)(ju:k<G.length)(EG:k≠2)(qN:L<G.length)(W:L≠2)(J:V.Em G.length st=true)(hn:st.length=n)(hq:q=2\/G.length<=q)(S:h'[q]?=some (.box 186 (st++F0 L (i+1)++B) false))(hh : ∀a,a<G.length->a≠2->h'[a]?=G[a]?)(ht:EM (Jq q) G.length t (TI n m (i+1) k off)):Le ⟨none,0⟩ ⟨t,h'⟩ ⟨TI n m (i+1) k off,G.set 2 (Gw (st++F0 L (i+1)) B.length)⟩:=by
 have E:(G.set 2 (Gw (st++F0 L (i+1)) B.length)).length=G.length:=GF ..;refine Le.Gw q (by rw[E];exact hq) (by rw[E];exact ht) ⟨_,_,S,IX z,?_⟩ (λa Q I F=>?_);rw[E];refine⟨rfl,rfl,?_⟩;refine EM.append ?_ (EM.any B);exact UW (N:=G.length) (sy.2 ⟨J,ABL _ qN W⟩) (BN _);rw[HF (λe=>I e.symm)]at F;have U:a<G.length:=(Br.1 F).1;exact⟨Q,by rw[hh a U I];exact F,by rw[E];exact oJ (hG a Q I F) (BN _)⟩
theorem AYZ {α:Type}{l:List α}{n j:Nat}{x v:α}(h:l.length=n):(l++Aq (j+1) x).set n v=l++[v]++Aq j x:=by
 subst h;rw[Vg _ _ (BN _),Nat.sub_self,BY,Ag];simp
theorem AOq (n k off L m j:Nat)(ty:TypeId)(cs st:List V)(h2:H[2]?=some (Gw st j))(Q:st.length=n)(hk:H[k]?=some (.box ty cs false))(S:k≠2)(hc:cs[off+8]?=some (.own L 0 m 11))(hL:L<H.length)(Us:L≠2)(QI:Kw H)(VA:V.Em H.length st=true)(hb:n+m<1000000)(hK : ∀F,K (.exit 2) ⟨(TI n m m k off).set 58 (.c (.bool false)),H.set 2 (Gw (st++F0 L m) F)⟩):AW ⟨none,0⟩ AF (.loop AE3) K ⟨TI n m 0 k off,H⟩:=by
 have Ce:k<H.length:=(Br.1 hk).1;have N9:2<H.length:=(Br.1 h2).1;refine AW.loop (ι:={ p:Nat×Nat // p.1<=m }) (λp=>⟨TI n m p.1.1 k off,H.set 2 (Gw (st++F0 L p.1.1) p.1.2)⟩) (λp=>m - p.1.1) ⟨(0,j),Nat.zero_le _⟩ ?_ ?_;have e:H.set 2 (Gw (st++F0 L 0) j)=H:=by
  have:F0 L 0=[]:=rfl;rw[this,E5];exact ez h2
 simp only[e];exact Le.refl _;rintro ⟨⟨i,j⟩,hi⟩;simp only at hi ⊢;obtain⟨G,J⟩:∃G,G=H.set 2 (Gw (st++F0 L i) j):=⟨_,rfl⟩
 have g2:G[2]?=some (Gw (st++F0 L i) j):=by rw[J,IX N9]
 have gk:G[k]?=some (.box ty cs false):=by rw[J,HF (λe=>S e.symm)];exact hk
 have gl:G.length=H.length:=by rw[J,GF]
 rw[<-J];conv=>arg 3;unfold AE3
 simp only[P8,il,mw,TI,BY,Cy,BK,BU];by_cases A7:i<m;have Dn:(i:Int)<(m:Int):=by omega
 have hw:AZ.wrap ((i:Int)+1)=((i+1:Nat):Int):=by rw[Ac];simp
 with_reducible refine AW.seq ?_
 refine go @Dn ?_;refine Og (.mk 7) (cj2 @gk @hc @A7) ?_;refine SW.OU (λv t=>v=.own G.length 0 1 1/\t=some (G.length,.box 186 [.ptr L (i*11)] false)) (by simp[BQ]) ?_ ?_;intro S0 w0 x a w g ht EC;exact⟨_,_,λ_ _ h=>(by cases h;exact BN _),⟨rfl,rfl⟩,AIw (P:=AF) (Bq:=8) g rfl (by simp) (O4 ht (i:=66) rfl) rfl _ EC⟩;rintro v t ⟨rfl,rfl⟩;simp only[St.step,St.put,Bk,Nat.lt_irrefl,if_false,Ai,Ag];have A1 : ∀X,H.set 2 X=G.set 2 X:=by intro X;rw[J,aK]
 have jJ:2<G.length:=by omega
 have A0:1<G.length:=by omega
 have z:0<G.length:=by omega
 have ju:k<G.length:=by omega
 have qN:L<G.length:=by omega
 have A2:Kw G:=by rw[J];intro a o E ho;rw[HF (λe=>E e.symm)]at ho;rw[GF];exact QI a o E ho
 have A3:V.Em G.length st=true:=by rw[gl];exact VA
 obtain⟨B,jN⟩:∃B,B=G++[.box 186 [.ptr L (i*11)] false]:=⟨_,rfl⟩
 have xe:B[2]?=some (.box 186 (st++F0 L i++Aq j V.any) false):=by rw[jN,EJ jJ];exact g2
 have A5:B[G.length]?=some (.box 186 [.ptr L (i*11)] false):=by rw[jN,Gy (BN _)];simp
 have A9:B.length=G.length+1:=by rw[jN];simp
 have W : ∀a,a<G.length->B[a]?=G[a]?:=λa E=>by rw[jN,EJ E]
 have qt:(st++F0 L i).length=n+i:=by rw[Cp,Q,AJ0]
 rw[<-jN];refine SW.OU (λ(v:V) (t:Option (Nat×O))=>(n+i<(st++F0 L i++Aq j V.any).length/\v=.own 2 0 (n+i+1) 1/\t=some (2,.box 186 ((st++F0 L i++Aq j V.any).set (n+i) (.ptr L (i*11))) false))\/∃F,v=.own B.length 0 (n+i+1) 1/\t=some (B.length,.box 186 ((st++F0 L i++Aq j V.any).take (n+i)++ .ptr L (i*11)::Aq F V.any) false)) (by simp[BQ]) ?_ ?_;intro S0 w0 x a w g ht EC;exact AUx (P:=AF) (Bq:=8) g _ rfl (by simp) (O4 ht (i:=60) rfl) (O4 ht (i:=67) rfl) xe A5 rfl (by unfold maxLen;omega) (by omega) (by rw[Cp,qt];omega) EC (by show 2<=B.length;omega);rintro v t (⟨OG,rfl,rfl⟩|⟨F,rfl,rfl⟩);have hu:Bk B (some (2,.box 186 ((st++F0 L i++Aq j V.any).set (n+i) (.ptr L (i*11))) false))=B.set 2 (.box 186 ((st++F0 L i++Aq j V.any).set (n+i) (.ptr L (i*11))) false):=by simp only[Bk];rw[if_pos (by omega)]
 obtain⟨U,I⟩:∃U,U=B.set 2 (.box 186 ((st++F0 L i++Aq j V.any).set (n+i) (.ptr L (i*11))) false):=⟨_,rfl⟩
 simp only[St.step,St.put,hu,<-I,Ai,Ag];have hj : ∃jj,j=jj+1:=by rw[Cp,qt,H6]at OG;exact⟨j - 1,by omega⟩
 obtain⟨jj,rfl⟩:=hj;refine CY (.mk 1) trivial ?_;refine SW.nil ?_;refine go @hw ?_;refine⟨⟨(i+1,(Aq jj (V.any)).length),by omega⟩,by simp only;omega,?_⟩;simp only[A1];refine AJ4 (q:=2) A2 jJ ju S qN Us A3 Q (.inl rfl) ?_ ?_ ?_;rw[I,IX (by omega),ABM,AYZ qt];simp;intro a E jY;rw[I,HF (λe=>jY e.symm)];exact W a E;simp[EM,Wk,V.GS,V.A8,TI,Jq,ju,S,jJ,z,A0];omega;have hu:Bk B (some (B.length,.box 186 ((st++F0 L i++Aq j V.any).take (n+i)++ .ptr L (i*11)::Aq F V.any) false))=B++[.box 186 ((st++F0 L i++Aq j V.any).take (n+i)++ .ptr L (i*11)::Aq F V.any) false]:=by simp only[Bk];rw[if_neg (by omega)]
 obtain⟨U,I⟩:∃U,U=B++[.box 186 ((st++F0 L i++Aq j V.any).take (n+i)++ .ptr L (i*11)::Aq F V.any) false]:=⟨_,rfl⟩
 obtain⟨q,hq⟩:∃q,q=B.length:=⟨_,rfl⟩
 simp only[St.step,St.put,hu,<-I,Ai,Ag];rw[<-hq];refine CY (.mk 1) trivial ?_;refine SW.nil ?_;refine go @hw ?_;refine⟨⟨(i+1,(Aq F (V.any)).length),by omega⟩,by simp only;omega,?_⟩;simp only[A1];refine AJ4 (q:=q) A2 jJ ju S qN Us A3 Q (.inr (by omega)) ?_ ?_ ?_;rw[I,hq,Gy (BN _),ABM,List.take_left' qt];simp;intro a E jY;rw[I,EJ (by omega)];exact W a E;simp[EM,Wk,V.GS,V.A8,TI,Jq,ju,S,jJ,z,A0];omega;have Dn : ¬(i:Int)<(m:Int):=by omega
 have A6:i=m:=by omega
 subst A6;refine go @Dn ?_;rw[J];exact hK j
theorem AOp (n k off:Nat)(ty:TypeId)(cs:List V)(src:List Int)(AG:List (List C))(st:List V)(j:Nat)(W:st.length=n)(Q:H[2]?=some (Gw (st++[.ptr k off]) j))(U:H[k]?=some (.box ty cs false))(J:k≠2)(hn:n<1000000)(hs:src.length<=1000000)(Rk:cs[off+8]?=some (.c (.sl AG)))(Rj:cs[off+10]?=some (.c (AV src)))(Jh:0<AG.length)(HP:AG.length<=1000000)(A6 : ∀r∈AG,r.length=11)(QI:Kw H)(VA:V.Em H.length st=true)(hb:n+AG.length<1000000)(hK : ∀j',LA ⟨none,0⟩ AF P8 K ⟨(TI n AG.length AG.length k off).set 58 (.c (.bool false)),(H.set k (O.box ty (cs.set (off+8) (.own H.length 0 AG.length 11)) false)++[O.box 41 (AG.flatten.map V.c) false]).set 2 (Gw (st++F0 H.length AG.length) j')⟩):
 AW ⟨none,0⟩ AF P8 (NH (LA ⟨none,0⟩ AF P8 K) K) ⟨dT (n+1),H⟩:=by
 have hp:(st++[V.ptr k off]++Aq j .any)[n]?=some (.ptr k off):=by rw[GX,Gy (by omega),W];simp
 obtain⟨O3,jh⟩:∃O3,O3=st++[V.ptr k off]++Aq j .any:=⟨_,rfl⟩
 unfold Gw at Q;rw[<-jh]at hp Q;have E:k<H.length:=(Br.1 U).1;have N9:2<H.length:=(Br.1 Q).1;have hw:AZ.wrap (n:Int)=(n:Int):=Ac;have dD:off+8<cs.length:=(Br.1 Rk).1;have zf:off+10<cs.length:=(Br.1 Rj).1;have jv:H[k]'E=.box ty cs false:=(Br.1 U).2;have zg:off+10+1<=cs.length:=zf;have qx:off+8+1<=cs.length:=dD;have KG:cs.set (off+10) (.c (AV src))=cs:=ez Rj;have xy:H.set k (.box ty cs false)=H:=ez U;have WT:(H.set k (.box ty (cs.set (off+8) (.Bg [])) false))[k]?=some (.box ty (cs.set (off+8) (.Bg [])) false):=by rw[IX E]
 have yr:(cs.set (off+8) (.Bg []))[off+8]?=some (.Bg []):=by rw[IX dD]
 conv=>arg 3;unfold P8
 simp only[il,mw,dT,BY,Cy,BK,BU];have A5:(0:Int)<(n:Int)+1:=by omega
 have kA:(n:Int)<(n:Int)+1:=by omega
 refine go (cj5 @hw @Q @hp @hn @A5 @kA) ?_;refine Og (.mk 4) @hw ?_;refine SW.OU (λv t=>t=none/\v=.own 2 0 n 1) (by simp[BQ]) ?_ ?_;intro S0 w0 x a w g q EC;exact⟨_,_,λ_ _ h=>(by cases h),⟨rfl,rfl⟩,AI4 (P:=AF) (n:=n) (len:=n+1) g rfl (by simp;exact⟨rfl,rfl⟩) (O4 q rfl) (O4 q rfl) (by omega)⟩;rintro v t ⟨rfl,rfl⟩;refine CY (.mk 1) trivial ?_;refine SW.nil ?_;refine go (cj2 @U @Rk @Rj) ?_;refine gc (cj4 @jv @E @zg @KG @xy) (pO src hs) ug ?_;have Rv:(0:Int)<(AG.length:Int):=by omega
 have zq:128*(AG.length:Int)<=281474976710656:=by omega
 have Wp:(AG.length:Int)<=9223372036854775807:=by omega
 refine go (cj4 @jv @E @qx @Jh @Rv) ?_;refine Og (.mk 4) (cj @zq<|@Wp) ?_;have A0 : ∀a b:List O,(if k<H.length+1 then a else b)=a:=λa b=>if_pos (by omega)
 have z : ∀(o:O) (X:O),(H.set k o++[X])[k]?=some o:=λo X=>by rw[EJ (by simpa using E),IX E]
 have A1 : ∀(o I:O) (X:O),(H.set k o++[X]).set k I=H.set k I++[X]:=λo I X=>by rw[gC _ _ (by simpa using E),aK]
 have Cu : ∀a b:V,(cs.set (off+8) a).set (off+8) b=cs.set (off+8) b:=λa b=>aK ..
 refine CY (.mk 3) (cj4 @A0 @z @A1 @Cu @qx) ?_;refine SW.nil ?_;obtain⟨Z,hZ⟩:∃Z:List V,Z=(Aq AG.length [V.c (C.int AZ 0),V.c (C.str { data:=#[] }),V.c (C.int AZ 0),V.c (C.int AZ 0),V.c (C.int AZ 0),V.c (C.int AZ 0),V.c (C.int AZ 0),V.c (C.int AZ 0),V.Bg [],V.c (C.int AZ 0),V.Bg []]).flatten:=⟨_,rfl⟩
 rw[<-hZ];have G4:Z.length=AG.length*11:=by rw[hZ];simp[List.length_flatten]
 have NP:(cs.set (off+8) (.own H.length 0 AG.length 11))[off+8]?=some (.own H.length 0 AG.length 11):=by rw[IX dD]
 refine Ah ?_;refine Og (.mk 5) (cj @z<|@NP) ?_;obtain⟨F,qJ⟩:∃F,F=H.set k (O.box ty (cs.set (off+8) (.own H.length 0 AG.length 11)) false)++[O.box 41 Z false]:=⟨_,rfl⟩
 rw[<-qJ];have A2:F[H.length]?=some (.box 41 Z false):=by rw[qJ,Gy (by simp)];simp
 have A7:F.length=H.length+1:=by rw[qJ];simp
 refine SW.OU (λv t=>v=.c (.int .i64 AG.length)/\t=some (H.length,.box 41 (AG.flatten.map V.c) false)) (by simp[BQ]) ?_ ?_;intro S0 w0 x a w g q EC;exact⟨_,_,λ_ _ h=>(by cases h;show H.length<=F.length;omega),⟨rfl,rfl⟩,AU2 (P:=AF) (Bq:=128) (es:=11) g rfl (by simp;exact rfl) (O4 q (i:=49) rfl) (pj q (i:=50) rfl) A6 A2 G4⟩;rintro v t ⟨rfl,rfl⟩;have hu:Bk F (some (H.length,.box 41 (AG.flatten.map V.c) false))=H.set k (O.box ty (cs.set (off+8) (.own H.length 0 AG.length 11)) false)++[O.box 41 (AG.flatten.map V.c) false]:=by
  simp only[Bk];rw[if_pos (by omega),qJ,Vg _ _ (by simp)];simp
 simp only[St.step,St.put,hu,Ai,Ag];refine SW.nil ?_;obtain⟨D,hD⟩:∃D,D=AG.flatten.map V.c:=⟨_,rfl⟩
 have A3:V.Em H.length D=true:=by rw[hD];exact ABl _
 rw[<-hD]at hK ⊢;refine go (cj @z<|@NP) ?_;obtain⟨B,Uq⟩:∃B,B=H.set k (O.box ty (cs.set (off+8) (.own H.length 0 AG.length 11)) false)++[O.box 41 D false]:=⟨_,rfl⟩
 rw[<-Uq]at hK ⊢;have e4:B=(H++[O.box 41 D false]).set k (O.box ty (cs.set (off+8) (.own H.length 0 AG.length 11)) false):=by rw[Uq,gC _ _ E]
 have l4:B.length=H.length+1:=by rw[Uq];simp
 obtain⟨_,_,_,Iw,Ym⟩:=QI k _ J U;cases Iw;have s4:Kw B:=by
  rw[e4];refine Kw.set (Kw.push QI A3) (AKo ?_ ?_);exact(SZ (by simp) cs Ym).2;simp[V.sf];omega
 have k4:B[k]?=some (.box ty (cs.set (off+8) (.own H.length 0 AG.length 11)) false):=by rw[Uq];exact z _ _
 have g4:B[2]?=some (.box 186 O3 false):=by rw[e4,HF J,EJ N9];exact Q
 have lL:V.Em B.length st=true:=(SZ (by omega) st VA).2;refine AW.le (s':=⟨TI n AG.length 0 k off,B.set 2 (Gw st (j+1))⟩) ?_ ?_;refine Le.Gw 2 (.inl rfl) ?_ ⟨_,_,g4,IX (by omega),?_⟩ (λa I S G=>?_);rw[GF];simp[EM,Wk,V.GS,V.A8,TI,Jq,J,l4];omega;rw[GF,jh,GX];exact⟨rfl,rfl,EM.append (UW lL (BN _)) (by have:=EM.any (ρ:=Jq 2) (N:=B.length) ([V.ptr k off]++Aq j .any);simpa [Nat.add_comm]using this)⟩;rw[HF (λe=>S e.symm)]at G;exact⟨I,G,by rw[GF];exact oJ (s4 a I S G) (BN _)⟩;refine AOq (B.set 2 (Gw st (j+1))) n k off H.length AG.length (j+1) ty (cs.set (off+8) (.own H.length 0 AG.length 11)) st (IX (by omega)) W (by rw[HF (λe=>J e.symm)];exact k4) J NP (by rw[GF];omega) (by omega) ?_ (by rw[GF];exact lL) hb (λj'=>?_);intro a o S G;rw[HF (λe=>S e.symm)]at G;rw[GF];exact s4 a o S G;rw[aK];with_reducible refine RN ?_
 refine Ah ?_;exact hK j'
def CK (l:List Int):List V:=l.map λn=>V.c (.int .i64 n)
theorem Ts :(CK l).length=l.length:=by simp[CK]
theorem AWM (l r:List Int):CK (l++r)=CK l++CK r:=by simp[CK]
@[simp] theorem AcU (m:Nat)(l:List Int):V.BI m (CK l)=true:=by
 induction l with
 | nil=>rfl
 | cons c r ih=>simp only[CK,Ap,V.BI,V.A8,Cd];exact ih
theorem XK : ∀l:List Int,toCs (CK l)=some (l.map (C.int .i64))
 | []=>rfl
 | c::r=>by simp only[CK,Ap,toCs,toC];rw[show Vf (λn=>V.c (C.int AZ n)) r=CK r from rfl,XK r]
@[simp] theorem Zm (k:Nat)(row:List C):∀l:List Int,V.Cs k row (CK l)=CK l
 | []=>rfl
 | c::r=>by simp only[CK,Ap,V.Cs,V.Bi];rw[show Vf (λn=>V.c (C.int AZ n)) r=CK r from rfl,Zm k row r]
theorem Zl : ∀(l r:List Int),Hc 1 l.length ((l++r).map (C.int .i64))=l.map λn=>[C.int .i64 n]
 | [],_=>rfl
 | c::l,r=>by simp only[BA,BK,Ap,Hc,List.take_succ_cons,List.take_zero,List.drop_succ_cons,List.drop_zero];rw[Zl l r]
section
variable {D r:List Int} {c:Int} {k:Nat}
theorem AWB (h:D.length=k):(CK (D++c::r))[k]?=some (.c (.int .i64 c)):=by
 subst h;simp[CK]
theorem ABG (h:D.length=k)(v:Int):(CK (D++c::r)).set k (.c (.int .i64 v))=CK (D++v::r):=by
 subst h;unfold CK;rw[<-fy (f:=λn=>V.c (.int .i64 n))];congr 1
 rw[Vg _ _ (BN _)];simp
theorem AJX (h:D.length=k+1):(CK (D++r))[k]?=some (.c (.int .i64 (D.getD k 0))):=by
 have B:k<D.length:=by omega
 unfold CK;rw[CM,EJ B,BE B];simp[Bv,BE B]
theorem AJz (h:D.length=k+1)(v:Int):(CK (D++r)).set k (.c (.int .i64 v))=CK (D.set k v++r):=by
 unfold CK;rw[<-fy (f:=λn=>V.c (.int .i64 n))];congr 1
 rw[gC _ _ (by omega)]
end
section
variable {P:Program} {S0:BF} {w0:Bs} {x:Cx} {w:World} {H:Bx} {a:Act} {o:Oper}
theorem Aa9 {z:Array Value}(h:z.toList=[.int .i64 0])(m:Nat):(KN z m).toList=(CK (Aq m 0)).map (λ_=>vj .i64 0):=by
 have B:z=#[.int .i64 0]:=Gx.1 h;subst B;apply List.ext_getElem;simp[KN,CK];intro i E F;simp[KN,CK,Nat.mod_one]
theorem Aa7 (m:Nat):AO x w (CK (Aq m 0)) ((CK (Aq m 0)).map (λ_=>vj .i64 0)):=by
 induction m with
 | zero=>simp[CK,AO]
 | succ m ih=>rw[BY];simp only[CK,Ap,AO,CV,Ab];exact⟨_,_,rfl,⟨rfl,by decide +kernel⟩,ih⟩
theorem pr : ∀l:List Int,(l.map λn=>[C.int .i64 n]).flatten=l.map (C.int .i64)
 | []=>rfl
 | c::r=>by rw[Ap,List.flatten_cons,pr r];rfl
theorem AUr (g:Good S0 w0 x w H){t:TypeId}{y z:Operand}(ho:o.op=.call ⟨.builtin .append,#[y,z],#[t,t]⟩){Ae:TypeId}{Bq:Nat}(hT:Dk P t=some (Ae,1,Bq))(R7:C2 P Ae=some [.c (.int .i64 0)]){l:List Int}(hY:CV x w (.Bg []) (a.eval y))(hZ:CV x w (.c (AV l)) (a.eval z))(J:l≠[])(F:l.length<=1000000)(G:Bq<=8)(q:Nat)(hk : ¬x.dom q) :
 ∃m:Nat,BW P o a S0 w0 x w H (.own q 0 l.length 1) (some (q,.box Ae (CK (l++Aq m 0)) false)):=by
 obtain⟨hu,ie,W,EB,hz,Q,je,A2⟩:=JS hT;obtain⟨zk,Y9,IN,i2,J9,R8⟩:=Z2 (x:=x) (w:=w) R7;rw[EB]at J9;cases J9;rw[hz]at R8;cases R8;simp only[AO,CV,Ab]at IN;obtain⟨u0,A3,IN,⟨rfl,_⟩,rfl⟩:=IN;simp only[CV]at hY hZ;obtain⟨A,hA,_⟩:=hY;have Av : ∀r∈(l.map λn=>[C.int .i64 n]),r.length=1:=by intro r hr;obtain⟨n,_,rfl⟩:=Da.1 hr;rfl
 obtain⟨B,c',U,VE,k1,k2,k3,k4,k5,k6⟩:=T0 hZ Av;obtain⟨b,S,rfl,_⟩:=k6 (by simpa using J);rw[Ch]at VE k1 k4;have FH:=pr l;rw[FH]at k3;have Gs:0<l.length:=List.length_pos_iff.2 J;have Dz:l.length*ie.bytes<=281474976710656:=by rw[je];have:=ua F G;omega
 have Gb:Ay w w.drew:=(Ay.refl w).drew;obtain⟨g1,Mg⟩:=g.MF (x':=x) (w':=w.drew) Gb ⟨λ_ _ h=>h,λb j v _ hc=>Gb.cell hc⟩ rfl rfl (λb j h=>.inl h);have E : ∃m cap:Nat,(Builtin.append_ #[t,t] o.type #[a.eval y,a.eval z]).run P w=.ok (.slice (some ⟨w.heap.size,0,none⟩) l.length cap) (w.drew.alloc (.cells (U.toArray++KN W.cells m) Ae))/\cap=l.length+m/\cap<=maxLen:=by
  have JL:=grownCap_ge w l.length 0 Ae;have A1:=grownCap_le_maxLen w l.length 0 Ae (by unfold maxLen;omega);refine⟨grownCap w l.length 0 Ae - l.length,grownCap w l.length 0 Ae,?_,by omega,A1⟩;rw[hA,VE];cases A with
  | none=>exact run_append_nil (P:=P) w t o.type Ae ie W hu EB hz ⟨b,S,none⟩ l.length c' U (by rw[k4,Q]) (k5 _ rfl) Gs (by omega) Dz
  | some ad=>have:=run_append_grow (P:=P) w t o.type Ae ie W hu EB hz ad 0 0 [] (by simp) (λj v h=>by simp at h) ⟨b,S,none⟩ l.length c' U (by rw[k4,Q]) (k5 _ rfl) (by omega) (by simp only[Cz];omega) (growslice_fits (by omega) (by rw[je];simp only[Cz];have:=ua F G;omega));simp only[Cz,BU]at this;refine this.trans ?_;simp
 obtain⟨m,cap,E,Mf,A0⟩:=E;have I:AO x w.drew (CK (l++Aq m 0)) (U.toArray++KN W.cells m).toList:=by
  rw[Pq,Aa9 IN,AWM];refine AO.append ?_ (Aa7 m);have:=AO.mono Mg _ _ (AO.OS k3);rwa [List.map_map]at this
 obtain⟨g',he⟩:=g1.Zc q hk Ae _ _ I;refine⟨m,_,_,_,_,by simp[execOp,ho,resolve,invoke,builtin,E];rfl,.inl rfl,?_,g',Mg.trans he,λk h=>h.elim .inl λe=>.inr ⟨.box Ae (CK (l++Aq m 0)) false,by rw[e]⟩,λhb=>by rw[ho]at hb;cases hb⟩;simp only[CV,Cx.C4,if_true];refine⟨.inr trivial,trivial,cap,rfl,by omega,A0,?_⟩;have:=I.len;rw[Ts]at this;simp only[Cp,H6,Array.length_toList]at this;show 0+cap*1<=(U.toArray++KN W.cells m).size;omega
theorem AUt (g:Good S0 w0 x w H){t:TypeId}{y z:Operand}(ho:o.op=.call ⟨.builtin .append,#[y,z],#[t,t]⟩){Ae:TypeId}{Bq:Nat}(S:Dk P t=some (Ae,1,Bq))(Q:C2 P Ae=some [.c (.int .i64 0)]){l:List Int}(U:CV x w (.Bg []) (a.eval y))(W:CV x w (.c (AV l)) (a.eval z))(G:l≠[])(B:l.length<=1000000)(F:Bq<=8)(E:Nat)(q : ¬x.dom E) :
 ∃v I,(∀k J,I=some (k,J)->k<=E)/\(∃m:Nat,v=.own E 0 l.length 1/\I=some (E,.box Ae (CK (l++Aq m 0)) false))/\BW P o a S0 w0 x w H v I:=by
 obtain⟨m,hm⟩:=AUr g ho S Q U W G B F E q;exact⟨_,_,λk J e=>by cases e;exact BN _,⟨m,rfl,rfl⟩,hm⟩
end
def dr (c:Int):Bool:=decide (c=2) || (decide (c=1) || (decide (c=3) || (decide (c=4) || decide (c=6))))
def YD (c:Int):Bool:=decide (c=3) || (decide (c=5) || decide (c=6))
def Lx (d:List Int):Int:=d.getD (d.length - 1) 0
def Pm (d:List Int)(c:Int):List Int:=
 if c=2/\(d.length=0\/dr (Lx d)=true)then d++[0]
 else if YD c=true/\0<d.length/\Lx d=2 then d.set (d.length - 1) 0++[c]
 else d++[c]
theorem AZU (d:List Int)(c:Int):(Pm d c).length=d.length+1:=by
 unfold Pm;split;simp;split<;>simp
def K8 (own:List Int):List Int:=own.foldl Pm []
def Uj (d:List Int):List Int:=if 0<d.length/\Lx d=2 then d.set (d.length - 1) 0 else d
def I6 (own:List Int):List Int:=Uj (K8 own)
theorem APb {own:List Int}{k:Nat}{c:Int}(h:own[k]?=some c):K8 (own.take (k+1))=Pm (K8 (own.take k)) c:=by
 unfold K8;rw[List.take_add_one,h,List.foldl_append];rfl
theorem AFi : ∀(own d:List Int),(own.foldl Pm d).length=d.length+own.length
 | [],d=>by simp
 | c::r,d=>by simp only[List.foldl_cons,AFi r,AZU,BA];omega
theorem xZ (own:List Int):(K8 own).length=own.length:=by unfold K8;rw[AFi];simp
theorem APW (d:List Int):(Uj d).length=d.length:=by unfold Uj;split<;>simp
theorem ef (own:List Int):(I6 own).length=own.length:=by unfold I6;rw[APW,xZ]
end Go.Proofs.YtlpomcliejmedaaGreat
