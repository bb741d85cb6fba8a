/- Part of the proof of some laws. Conditions: none. -/
import Derived.Lib.Bytealg
import Derived.Lib.Strings
import Derived.Lib.Slices
import Derived.Lib.Walk
import Derived.Test.YtglaipbdiofkfaaGreatY4
import Derived.Test.YtglaipbdiofkfaaGreatY5
set_option linter.unusedVariables false
set_option linter.unusedSimpArgs false
set_option maxRecDepth 100000
set_option maxHeartbeats 16000000
open List renaming map_cons→Ap,length_cons→BA,mem_cons→Cf,take_of_length_le→Gl,length_map→Ch,getElem?_map→CM,cons_append→BK,all_cons→Ep,append_nil→E5,length_append→Cp,getElem?_eq_getElem→BE,drop_eq_getElem_cons→D5,drop_of_length_le→FA,foldl_cons→Bw,foldl_nil→CO,set_cons_zero→Ag,set_cons_succ→Ai,all_nil→Nq,any_cons→mP,any_nil→mQ,replicate_succ→BY,mem_map→Da,getElem?_set→RD,length_set→GF,getElem?_append_left→EJ,getElem?_append_right→Gy,replicate→Aq,getElem?_eq_some_iff→Br,getElem?_set_self→IX,replicate_zero→Cy,nil_append→BU,getElem?_set_ne→HF,set_append_right→Vg,set_set→aK,append_assoc→GX,set_append_left→gC
open Nat renaming le_refl→BN,le_of_not_lt→Hq
open SizeOf renaming sizeOf→UF
open Go.Lib renaming indexByte→EF
open Bool renaming and_eq_true→Ak,true_and→Cd,eq_iff_iff→Oj,not_eq_true'→tl,false_and→D4,and_false→LV,and_true→Km,or_false→lz,false_or→tf
open UInt8 renaming toNat_inj→ADb
open ByteArray renaming size_extract→fg
open Array renaming getElem?_toList→VZ
open Go.Proofs.Tryz renaming prog→AF,results133→ARi,results137→ARl,results81→ASR,results183→vL,results244→vN,results181→ADF,results180→AR3,func178→gG,ntmps178→gT,results178→gg,results179→vK,func102→my,results102→RH,f103→AHW,func39→AAp,func28→AF8,results28→nj,func253→AIp,ntmps253→AMG,results253→n5,results254→ng,results277→ASG,results144→ea
open Go.Extern.BytealgIndexByte renaming indexByte→AMT
open Go.IntKind renaming i64→AZ
open Option renaming some→J,none→E
open Bool renaming false→U,true→I
open List renaming length→G
namespace Go.Proofs.YtglaipbdiofkfaaGreat
open Go.RowKit Tryz
variable {k:Nat}{i:Nat}{N:Nat}{K:Exit->St->Prop}(l:Int)(s:ByteArray)(c:Int)(H:List O)
structure Nd where
 kind:Int
 text:ByteArray
 AL:Int
 AE:List Nd
mutual
def Nd.row:Nd->List C
 | ⟨k,t,c,AE⟩=>[.int .i64 k,.str t,.int .i64 c,.sl (Nd.AG AE)]
def Nd.AG:List Nd->List (List C)
 | []=>[]
 | n::l=>n.row::Nd.AG l
end
theorem Zd : ∀l:List Nd,Nd.AG l=l.map Nd.row
 | []=>rfl
 | n::l=>by simp only[Nd.AG,Ap,Zd l]
mutual
def Nd.cnt:Nd->Nat
 | ⟨_,_,_,AE⟩=>1+Nd.Az AE
def Nd.Az:List Nd->Nat
 | []=>0
 | n::l=>n.cnt+Nd.Az l
end
mutual
def Nd.BR:Nd->Nat
 | ⟨_,_,_,AE⟩=>Nd.deps AE+1
def Nd.deps:List Nd->Nat
 | []=>0
 | n::l=>max n.BR (Nd.deps l)
end
mutual
def Nd.BX:Nd->Prop
 | ⟨_,t,_,AE⟩=>t.size<=maxLen/\(G AE)<=maxLen/\Nd.FY AE
def Nd.FY:List Nd->Prop
 | []=>True
 | n::l=>n.BX/\Nd.FY l
end
theorem ry (b:Nd):0<b.cnt:=by cases b;simp only[Nd.cnt];omega
theorem SH : ∀l:List Nd,G l<=Nd.Az l
 | []=>BN _
 | b::l=>by have:=SH l;have:=ry b;simp only[Nd.Az,BA];omega
theorem AjG : ∀(l:List Nd) (i:Nat) (b:Nd),l[i]?=J b->i+b.cnt<=Nd.Az l
 | [],i,b,h=>by simp at h
 | x::l,0,b,h=>by simp at h;subst h;simp only[Nd.Az];omega
 | x::l,i+1,b,h=>by have:=AjG l i b (by simpa using h);have:=ry x;simp only[Nd.Az];omega
theorem di : ∀ {l:List Nd},Nd.FY l->∀b∈l,b.BX
 | _::_,h,b,B=>by
   rcases Cf.1 B with rfl|B
   exact h.1;exact di h.2 b B
theorem AjJ : ∀n:Nat,∀b:Nd,UF b<n->b.BR<=b.cnt
 | 0,b,h=>absurd h (by omega)
 | n+1,⟨k,t,c,B⟩,h=>by
   have M : ∀l:List Nd,UF l<n->Nd.deps l<=Nd.Az l:=by
    intro l;induction l with
    | nil=>intro _;exact BN _
    | cons x l ih=>intro Q;simp only[List.cons.sizeOf_spec]at Q;have R:=AjJ n x (by omega);have S:=ih (by omega);simp only[Nd.deps,Nd.Az];omega
   simp only[Nd.mk.sizeOf_spec]at h;have:=M B (by omega);simp only[Nd.BR,Nd.cnt];omega
def Nd.vs (b:Nd):List V:=b.row.map V.c
def Am (b:Nd):V:=.agg b.vs
section
variable (b:Nd)
@[simp] theorem Nd.Xf:G b.vs=4:=by cases b;rfl
@[simp] theorem Nd.ACP:b.vs.all V.one=true:=by cases b;rfl
@[simp] theorem Nd.ACR:b.vs.take 4=b.vs:=Gl (by simp)
@[simp] theorem Nd.ACN:b.vs[0]?=J (.c (.int .i64 b.kind)):=by cases b;rfl
@[simp] theorem Nd.ACG (h:0<G b.vs):b.vs[0]'h=.c (.int .i64 b.kind):=by cases b;rfl
@[simp] theorem Nd.AL7:b.vs[1]?=J (.c (.str b.text)):=by cases b;rfl
@[simp] theorem Nd.AL5 (h:1<G b.vs):b.vs[1]'h=.c (.str b.text):=by cases b;rfl
@[simp] theorem Nd.AL8:b.vs[2]?=J (.c (.int .i64 b.AL)):=by cases b;rfl
@[simp] theorem Nd.AL6 (h:2<G b.vs):b.vs[2]'h=.c (.int .i64 b.AL):=by cases b;rfl
@[simp] theorem Nd.ACO:b.vs[3]?=J (.c (.sl (Nd.AG b.AE))):=by cases b;rfl
@[simp] theorem Nd.ACI (h:3<G b.vs):b.vs[3]'h=.c (.sl (Nd.AG b.AE)):=by cases b;rfl
@[simp] theorem Nd.tX:V.CF b.vs=J b.vs:=Zq b.row
@[simp] theorem Nd.ACS:toCs b.vs=J b.row:=toCs_c b.row
@[simp] theorem Nd.AL9 (cs:List V)(h:G cs=4):E8 cs 0 b.vs=b.vs:=kz (by simp[h])
@[simp] theorem Nd.Nk:G b.row=4:=by cases b;rfl
@[simp] theorem Nd.ABb:b.row.map V.c=b.vs:=F
@[simp] theorem Nd.AKV:b.row.take 4=b.row:=Gl (by simp)
@[simp] theorem Nd.AXz:b.row[0]?=J (.int .i64 b.kind):=by cases b;rfl
@[simp] theorem Nd.AX0:b.row[1]?=J (.str b.text):=by cases b;rfl
@[simp] theorem Nd.AX1:b.row[2]?=J (.int .i64 b.AL):=by cases b;rfl
@[simp] theorem Nd.AX2:b.row[3]?=J (.sl (Nd.AG b.AE)):=by cases b;rfl
@[simp] theorem Nd.tW (n:Nat):V.BI n b.vs=true:=by cases b;simp[Nd.vs,Nd.row,V.BI,V.A8]
@[simp] theorem Nd.ACQ (k:Nat)(row:List C):V.Cs k row b.vs=b.vs:=by cases b;simp[Nd.vs,Nd.row,V.Cs,V.Bi]
end
theorem Pc (l:List Nd):G (Nd.AG l)=G l:=by rw[Zd,Ch]
theorem XG {l:List Nd}{b:Nd}(h:l[i]?=J b):(Nd.AG l)[i]?=J b.row:=by rw[Zd,CM,h];rfl
theorem kf (b:Nd)(h:b.BX):b.text.size<=maxLen/\(G b.AE)<=maxLen/\Nd.FY b.AE:=by cases b;simpa only[Nd.BX]using h
theorem Tm (b:Nd):b.cnt=1+Nd.Az b.AE:=by cases b;rfl
theorem ke (b:Nd):b.BR=Nd.deps b.AE+1:=by cases b;rfl
mutual
def Nd.Qb:Nd->Int->Int
 | ⟨_,_,_,AE⟩,m=>Nd.OO AE (m - 1)
def Nd.OO:List Nd->Int->Int
 | [],m=>m
 | b::l,m=>if 0<=m then Nd.OO l (b.Qb m)else m
end
mutual
theorem AAX : ∀(b:Nd) (m:Int),0<=m-> -1<=b.Qb m/\b.Qb m<=m/\(0<=b.Qb m->b.Qb m=m - b.cnt)/\((b.cnt:Int)<=m->0<=b.Qb m)
 | ⟨_,_,_,M⟩,m,Q=>by
   have:=AID M (m - 1);simp only[Nd.Qb,Nd.cnt];have B:=this (by omega);refine⟨by omega,by omega,λh=>?_,λh=>?_⟩;have:=B.2.2.1 h;omega;exact B.2.2.2 (by omega) (by omega)
theorem AID : ∀(l:List Nd) (m:Int),-1<=m-> -1<=Nd.OO l m/\Nd.OO l m<=m/\(0<=Nd.OO l m->Nd.OO l m=m - Nd.Az l)/\((Nd.Az l:Int)<=m->0<=m->0<=Nd.OO l m)
 | [],m,o=>by simp only[Nd.OO,Nd.Az];omega
 | b::l,m,o=>by
   simp only[Nd.OO,Nd.Az];split;rename_i Q;have B:=AAX b m Q;have R:=AID l (b.Qb m) B.1;refine⟨by omega,by omega,λh=>?_,λh _=>?_⟩;have M:=R.2.2.1 h;have S:=B.2.2.1 (by omega);omega;have M:=B.2.2.2 (by omega);have S:=B.2.2.1 M;exact R.2.2.2 (by omega) M;refine⟨by omega,by omega,λh=>by omega,λh Q=>by omega⟩
end
theorem AUh (b:Nd)(m:Int)(M:0<=m):decide (0<=b.Qb m)=decide ((b.cnt:Int)<=m):=by
 have h:=AAX b m M;rw[decide_eq_decide];constructor;intro B;have:=h.2.2.1 B;omega;exact h.2.2.2
def Nc (c:Int):Bool:=decide (97<=c/\c<=122) || decide (65<=c/\c<=90)
def NJ (c:Int):Bool:=decide (48<=c/\c<=57)
def Qm (c:Int):Bool:=decide (32<=c/\c<=126)
def Lq (s:ByteArray)(c:Int):Bool:=s.data.toList.any λb=>decide ((b.toNat:Int)=c)
def lP:ByteArray:=⟨#[43,45,42,47,61,60,62,44,59,58,33,124,39,63,126,64]⟩
def RX:ByteArray:=⟨#[40,41,91,93,123,125,124,60,62,47,46]⟩
def TC:ByteArray:=⟨#[40,41,91,93,123,125,60,62,47,124,46]⟩
def bT (c:Int):Bool:=Nc c || Lq lP c
def FC (p:Int->Bool)(s:ByteArray):Bool:=s.data.toList.all λb=>p b.toNat
def kQ:List ByteArray:=[⟨#[102,114,97,99]⟩,⟨#[114,111,111,116]⟩,⟨#[109,97,116,114,105,120]⟩,⟨#[102,101,110,99,101]⟩]
def N0:List ByteArray:=[⟨#[104,97,116]⟩,⟨#[98,97,114]⟩,⟨#[118,101,99]⟩,⟨#[100,111,116]⟩,⟨#[116,105,108,100,101]⟩,⟨#[99,104,101,99,107]⟩]
def NY (l:List ByteArray)(s:ByteArray):Bool:=l.any λt=>decide (t=s)
def Z1 (s:ByteArray):Bool:=if s.size=1 then FC bT s else FC Nc s && (decide (2<=s.size) && (decide (s.size<=16) && (!NY kQ s && !NY N0 s)))
def Mu (n:Nat):List UInt8->Nat->Int->Option Int
 | [],_,p=>J p
 | b::l,k,p=>if (b.toNat:Int)=46/\0<k/\k+1<n then Mu n l (k+1) (p+1)else if NJ b.toNat=I then Mu n l (k+1) p else E
def dj (s:ByteArray):Bool:=match Mu s.size s.data.toList 0 0 with
 | none=>U
 | some p=>decide (0<s.size) && (decide (s.size<=20) && decide (p<=1))
def Ug (s:ByteArray):Bool:=FC NJ s && !decide (s.size=0)
def AAn (s:ByteArray):Bool:=
 decide (s.size<=20) && (if 0<=EF s.data.toList 46 then Ug (s.extract 0 (EF s.data.toList 46).toNat) && Ug (s.extract ((EF s.data.toList 46).toNat+1) s.size)else Ug s)
def Ki (k:Int)(s:ByteArray):Bool:=
 if k=2 then Z1 s
 else if k=3 then dj s
 else if k=4 then decide (s.size<=200) && FC Qm s
 else if k=10 then NY N0 s
 else if k=11 then decide (s.size=2) && FC (Lq RX) s
 else decide (s=⟨#[]⟩)
def FL (k c:Int)(n:Nat):Bool:=
 if k=12 then decide (1<=c) && (decide (c<=16) && (decide (1<=n) && (decide (n<=256) && decide ((n:Int).tmod c=0))))
 else if c≠0 then U
 else if k=1 then decide (n<=200)
 else if k=2\/k=3\/k=4 then decide (n=0)
 else if k=5\/k=6\/k=7\/k=8 then decide (n=2)
 else if k=9 then decide (n=3)
 else if k=10\/k=11 then decide (n=1)
 else U
def Nd.Cl (b:Nd):Bool:=Ki b.kind b.text && FL b.kind b.AL (G b.AE)
def Pa (k k':Int):Bool:=decide (k'=1)==decide (k=1)
mutual
def Nd.Jb:Nd->Bool
 | ⟨k,t,c,AE⟩=>(Ki k t && FL k c (G AE)) && Nd.MY k AE
def Nd.MY (k:Int):List Nd->Bool
 | []=>I
 | b::l=>(!Pa k b.kind && b.Jb) && Nd.MY k l
end
def Nd.Ad (b:Nd):Bool:=decide (b.kind=1) && (b.Jb && (decide (b.cnt<=1000) && decide (b.BR<=24)))
theorem dg (b:Nd):b.Jb=(b.Cl && Nd.MY b.kind b.AE):=by cases b;simp only[Nd.Jb,Nd.Cl]
mutual
def Nd.pv (BR:Nat):Nd->Nat->Bool×Nat
 | ⟨k,t,c,AE⟩,n=>if 1000<n+1\/24<BR\/(Ki k t && FL k c (G AE))=U then(U,n+1)else Nd.HU (BR+1) k AE (n+1)
def Nd.HU (BR:Nat)(k:Int):List Nd->Nat->Bool×Nat
 | [],n=>(I,n)
 | b::l,n=>if Pa k b.kind=I then(U,n)else if (b.pv BR n).1=I then Nd.HU BR k l (b.pv BR n).2 else(U,(b.pv BR n).2)
end
mutual
theorem AAj (Q:Nat):∀(b:Nd) (n:Nat),(b.pv Q n).2<=n+b.cnt/\((b.pv Q n).1=I->(b.pv Q n).2=n+b.cnt)/\((b.pv Q n).1=I↔b.Jb=I/\n+b.cnt<=1000/\Q+b.BR<=25)
 | ⟨k,t,c,R⟩,n=>by
   have z:=AIk (Q+1) k R (n+1);simp only[Nd.pv,Nd.cnt,Nd.Jb,Nd.BR];generalize hB:(Ki k t && FL k c (G R))=B;have hc:=SH R;split;rename_i M;refine⟨by simp only;omega,λh=>(by cases h),⟨λh=>(by cases h),λh=>?_⟩⟩;simp only[Ak]at h;rcases M with M|M|M
   omega;omega;rw[M]at h;cases h.1.1;rename_i M;have h1:B=true:=by cases B with
    | true=>rfl
    | false=>exact absurd (.inr (.inr F)) M
   refine⟨by omega,λh=>by have:=z.2.1 h;omega,?_⟩;rw[z.2.2,h1,Cd];have A0:Q<=24:=Hq λh=>M (.inr (.inl h))
   have A1:n+1<=1000:=Hq λh=>M (.inl h)
   constructor;rintro ⟨S,o,q⟩;refine⟨S,?_,?_⟩;rcases o with o|rfl
   omega;simp only[Nd.Az];omega;rcases q with rfl|q
   simp only[Nd.deps];omega;omega;rintro ⟨S,o,q⟩;exact⟨S,.inl (by omega),.inr (by omega)⟩
theorem AIk (B:Nat)(k:Int):∀(l:List Nd) (n:Nat),(Nd.HU B k l n).2<=n+Nd.Az l/\((Nd.HU B k l n).1=I->(Nd.HU B k l n).2=n+Nd.Az l)/\((Nd.HU B k l n).1=I↔Nd.MY k l=I/\(n+Nd.Az l<=1000\/l=[])/\(l=[]\/B+Nd.deps l<=25))
 | [],n=>by simp[Nd.HU,Nd.Az,Nd.MY]
 | b::l,n=>by
   have q:=AAj B b n;have z:=AIk B k l (b.pv B n).2;have hp:=ry b;simp only[Nd.HU,Nd.Az,Nd.MY,Nd.deps];by_cases R:Pa k b.kind=I;rw[if_pos R,R];refine⟨by simp only;omega,λh=>(by cases h),⟨λh=>(by cases h),λh=>?_⟩⟩;simp at h;rw[if_neg R];have qq:Pa k b.kind=false:=by simpa using R
   rw[qq,Bool.not_false,Cd];split;rename_i S;have e:=q.2.1 S;rw[e]at z;obtain⟨p1,p2,p3⟩:=q.2.2.1 S;rw[e];refine⟨by omega,λh=>by have:=z.2.1 h;omega,?_⟩;rw[z.2.2,p1,Cd];constructor;rintro ⟨o,M,Q⟩;refine⟨o,.inl ?_,.inr ?_⟩;rcases M with M|rfl
   omega;simp only[Nd.Az];omega;rcases Q with rfl|Q
   simp only[Nd.deps];omega;omega;rintro ⟨o,M,Q⟩;simp only[reduceCtorEq,or_false,false_or]at M Q;exact⟨o,.inl (by omega),.inr (by omega)⟩;rename_i S;refine⟨by simp only;omega,λh=>(by cases h),⟨λh=>(by cases h),λh=>?_⟩⟩;simp only[Ak,reduceCtorEq,or_false,false_or]at h;exact absurd (q.2.2.2 ⟨h.1.1,by omega,by omega⟩) S
end
theorem AUj (b:Nd)(B:b.kind=1):(b.pv 1 0).1=b.Ad:=by
 have h:=(AAj 1 b 0).2.2;unfold Nd.Ad;rw[Oj,h];simp only[Ak,decide_eq_true_eq];constructor;rintro ⟨a,b,c⟩;exact⟨B,a,by omega,by omega⟩;rintro ⟨_,a,b,c⟩;exact⟨a,by omega,by omega⟩
theorem r6 (n:Nat):∀(w r:List UInt8) (k:Nat) (p:Int),(∀b∈w,¬(b.toNat:Int)=46)->Mu n (w++r) k p=if w.all (λb=>NJ b.toNat)=I then Mu n r (k+G w) p else E
 | [],r,k,p,_=>by simp
 | b::w,r,k,p,h=>by
   have M:=h b List.mem_cons_self;simp only[BK,Mu];rw[if_neg (λe=>M e.1)];rw[r6 n w r (k+1) p (λx Q=>h x (List.mem_cons_of_mem _ Q))];rw[BA,show k+1+G w=k+(G w+1)by omega];by_cases B:NJ b.toNat=I;rw[if_pos B];simp only[Ep,B,Cd];rw[if_neg B];simp[B]
theorem xI:NJ 46=false:=by decide
theorem AAk (n:Nat):∀(l:List UInt8) (k:Nat) (p q:Int),Mu n l k p=J q->p<=q/\((∃b∈l,(b.toNat:Int)=46)->p+1<=q)
 | [],k,p,q,h=>by simp[Mu]at h;subst h;simp
 | b::l,k,p,q,h=>by
   simp only[Mu]at h;split at h;rename_i Q;have:=(AAk n l (k+1) (p+1) q h).1;exact⟨by omega,λ_=>by omega⟩;split at h;rename_i M;have:=AAk n l (k+1) p q h;refine⟨this.1,λ⟨x,B,e⟩=>?_⟩;rcases Cf.1 B with rfl|B
   rw[e,xI]at M;cases M;exact this.2 ⟨x,B,e⟩;cases h
theorem kM : ∀(l:List UInt8) (c:UInt8),(EF l c= -1/\∀b∈l,b≠c)\/∃w r,l=w++c::r/\EF l c=G w/\∀b∈w,b≠c
 | [],c=>.inl ⟨rfl,by simp⟩
 | b::l,c=>by
   by_cases h:b=c;subst h;exact .inr ⟨[],l,rfl,by simp[EF],by simp⟩;rcases kM l c with ⟨M,Q⟩|⟨w,r,M,Q,R⟩
   refine .inl ⟨by simp[EF,h,M],λx B=>?_⟩;rcases Cf.1 B with rfl|B
   exact h;exact Q x B;refine .inr ⟨b::w,r,by rw[M];rfl,?_,λx B=>?_⟩;simp only[EF,beq_iff_eq,h,if_false,Q];rw[if_neg (by omega)];simp;rcases Cf.1 B with rfl|B
   exact h;exact R x B
theorem rl {b:UInt8}(h:b≠46):¬(b.toNat:Int)=46:=λe=>h (ADb.1 (by have:(46:UInt8).toNat=46:=F;omega))
theorem ADv (p:Int->Bool)(s:ByteArray)(a e:Nat):FC p (s.extract a e)=((s.data.toList.drop a).take (e - a)).all λb=>p b.toNat:=by
 unfold FC;rw[ByteArray.data_extract,Array.toList_extract]
theorem AUl :AAn s=dj s:=by
 obtain⟨l,S⟩:=AI s.data.toList;have hs:s.size=G l:=by rw[<-S];simp
 unfold AAn dj;rw[S];rcases kM l 46 with ⟨M,h2⟩|⟨w,r,M,h2,h3⟩
 rw[M,if_neg (by omega)];have R:=r6 s.size l [] 0 0 (λb B=>rl (h2 b B));rw[E5]at R;rw[R];unfold Ug FC;rw[S];cases l.all (λb=>NJ b.toNat)with
 | false=>simp
 | true=>simp only[if_true,Mu,Cd];rw[Oj];simp only[Ak,decide_eq_true_eq,tl,decide_eq_false_iff_not,Cd,Cp,BA];omega
 rw[h2,if_pos (by omega)];have hw : ∀b∈w,¬(b.toNat:Int)=46:=λb B=>rl (h3 b B)
 have Q:G l=G w+(G r+1):=by rw[M];simp
 rw[M,r6 s.size w (46::r) 0 0 hw];unfold Ug;rw[ADv,ADv,S,M];have e1:(((w++46::r).drop 0).take ((G w:Int).toNat - 0))=w:=by simp
 have e2:(((w++46::r).drop ((G w:Int).toNat+1)).take (s.size - ((G w:Int).toNat+1)))=r:=by
  rw[hs,Q];have:(w++46::r).drop ((G w:Int).toNat+1)=r:=by
   rw[show (G w:Int).toNat+1=G w+1 by simp,List.drop_append];simp
  rw[this];exact Gl (by simp;omega)
 rw[e1,e2];have z1:(s.extract 0 (G w:Int).toNat).size=G w:=by rw[fg];simp;omega
 have z2:(s.extract ((G w:Int).toNat+1) s.size).size=G r:=by rw[fg];simp;omega
 rw[z1,z2];cases A0:w.all (λb=>NJ b.toNat)with
 | false=>simp
 | true =>
   rw[if_pos rfl];simp only[Mu,Nat.zero_add,Cd];by_cases c1:0<G w/\(G w)+1<s.size;rw[if_pos ⟨by decide,c1⟩];have Jh:0<G r:=by omega
   by_cases hr : ∀b∈r,b≠46;have R:=r6 s.size r [] (G w+1) 1 (λb B=>rl (hr b B));rw[E5]at R;rw[show (0:Int)+1=1 from rfl,R];cases r.all (λb=>NJ b.toNat)with
   | false=>simp
   | true=>simp only[if_true,Mu];rw[Oj];simp only[Ak,decide_eq_true_eq,tl,decide_eq_false_iff_not,Cd,Cp,BA];omega
   have hx : ∃b∈r,(b.toNat:Int)=46:=by
    simp only[ne_eq,Classical.not_forall,Classical.not_not]at hr;obtain⟨b,B,rfl⟩:=hr;exact⟨_,B,F⟩
   have hd:r.all (λb=>NJ b.toNat)=false:=by
    obtain⟨b,B,e⟩:=hx;rw[List.all_eq_false];exact⟨b,B,by rw[e,xI];simp⟩
   rw[hd];simp only[D4,LV];cases hf:Mu s.size r (G w+1) (0+1)with
   | none=>rfl
   | some q=>have:=(AAk _ _ _ _ _ hf).2 hx;simp;omega
   rw[if_neg (λh=>c1 h.2)];have z:((46:UInt8).toNat:Int)=46:=F;rw[z,xI];have o:G w=0\/G r=0:=by omega
   rcases o with o|o<;>simp only[o,Bool.false_eq_true,if_false,decide_true,Bool.not_true,LV,D4]
theorem bS {s:ByteArray}(h:k<s.size):∃b,s.data.toList[k]?=J b/\s.data[k]?=J b/\s.data.toList.drop k=b::s.data.toList.drop (k+1)/\(k:Int)<(s.size:Int)/\(b.toNat<256):=by
 have B:k<G s.data.toList:=by simpa using h
 refine⟨s.data.toList[k],BE B,?_,D5 B,by omega,UInt8.toNat_lt _⟩;rw[<-VZ];exact BE B
theorem ij {s:ByteArray}(h : ¬k<s.size):s.data.toList.drop k=[]:=FA (by simp;omega)
theorem AYx (w:World):Calls AF 223 #[.string s,.int .u8 c] w λe w'=>e=.returned (.int .i64 (EF s.data.toList c.toNat.toUInt8))/\w'=w:=by
 go_enter func223,ntmps223;go_wp2;rw[run_callFunc_extern func270 (by kernel_rfl) (by kernel_rfl) (by kernel_rfl) (e:=AMT) (by kernel_rfl),Lib.run_indexByteString];simp only[Result.andThen];rw[Oper.upon_value];go_wp2;go_ret;exact⟨F,F⟩
theorem ATS (l:List UInt8)(c:UInt8)(h:G l<=maxLen):(Lit.int .i64 (EF l c)).wf=true:=by
 have S:=Lib.indexByte_ge l c;have o:EF l c<=(G l:Int):=by
  rcases kM l c with ⟨e,_⟩|⟨w,r,Q,R,_⟩
  omega;have:G l=G w+(G r+1):=by rw[Q];simp
  omega
 have B:AZ.min= -9223372036854775808:=by decide +kernel
 have M:AZ.max=9223372036854775807:=by decide +kernel
 unfold maxLen at h;simp[Lit.wf,B,M];omega
theorem AKz :AC AF 223 [.c (.str s),.c (.int .u8 c)] (.c (.int .i64 (EF s.data.toList c.toNat.toUInt8))):=by
 intro S w us R B;simp only[AO,CV,Ab]at B;obtain⟨u,q,rfl,⟨rfl,M⟩,o,Q,rfl,⟨rfl,_⟩,rfl⟩:=B;refine(AYx _ _ w).mono ?_;rintro e z ⟨rfl,rfl⟩;exact⟨_,S,F,Ay.refl _,Ar.refl _ _,λb j h=>.inl h,by simp only[CV,Ab];exact⟨W,ATS _ _ (by simpa using M)⟩⟩
theorem AYS :AC AF 138 [.c (.str s),.c (.int .u8 c)] (.c (.int .i64 (EF s.data.toList c.toNat.toUInt8))):=by
 have h:=AKz s c;refine en func138 ntmps138 ?_;exact wz results138 (cj h<|trivial)
theorem AKc (s t:ByteArray)(b:UInt8)(z:t.size=1)(hb:t.data.toList[0]?=J b):AC AF 269 [.c (.str s),.c (.str t)] (.c (.int .i64 (EF s.data.toList b))):=by
 have Q:=AKz s b.toNat;rw[show ((b.toNat:Int)).toNat.toUInt8=b by simp]at Q;have S:t.data[0]?=J b:=by rw[<-VZ];exact hb
 have M:(t.size:Int)=1:=by omega
 have o:t=s->EF s.data.toList b=0:=λe=>by
  subst e;cases R:t.data.toList with
  | nil=>rw[R]at hb;simp at hb
  | cons c r=>rw[R]at hb;simp at hb;subst hb;simp[EF]
 by_cases B:t=s;have q:=o B;subst B;refine en func269 ntmps269 ?_;exact wz (cj2 @M @q results269) W;refine en func269 ntmps269 ?_;exact wz (cj4 @M @hb @S @B results269) (cj Q<|trivial)
theorem AYT (s t:ByteArray)(b:UInt8)(B:t.size=1)(hb:t.data.toList[0]?=J b):AC AF 221 [.c (.str s),.c (.str t)] (.c (.int .i64 (EF s.data.toList b))):=by
 have h:=AKc s t b B hb;refine en func221 ntmps221 ?_;exact wz results221 (cj h<|trivial)
theorem AHs (l:List UInt8)(c:UInt8):decide (0<=EF l c)=l.any λb=>decide ((b.toNat:Int)=(c.toNat:Int)):=by
 rw[Oj,decide_eq_true_iff,List.any_eq_true];have e : ∀b:UInt8,((b.toNat:Int)=(c.toNat:Int))↔b=c:=λb=>⟨λh=>ADb.1 (by omega),λh=>by rw[h]⟩
 simp only[decide_eq_true_eq,e];rcases kM l c with ⟨B,M⟩|⟨w,r,B,M,_⟩
 rw[B];exact⟨λh=>by omega,λ⟨x,Q,e⟩=>absurd e (M x Q)⟩;rw[M];exact⟨λ_=>⟨c,by rw[B];simp,rfl⟩,λ_=>by omega⟩
theorem AYP (s t:ByteArray)(b:UInt8)(B:t.size=1)(hb:t.data.toList[0]?=J b):AC AF 134 [.c (.str s),.c (.str t)] (.c (.bool (Lq s b.toNat))):=by
 have h:=AYT s t b B hb;have e:Lq s b.toNat=decide (0<=EF s.data.toList b):=(AHs _ _).symm;rw[e];refine en func134 ntmps134 ?_;exact wz results134 (cj h<|trivial)
def im (s:ByteArray)(b:UInt8):V:=
 if 0<=EF s.data.toList b then .A7 [.c (.str (s.extract 0 (EF s.data.toList b).toNat)),.c (.str (s.extract ((EF s.data.toList b).toNat+1) s.size)),.c (.bool I)]
 else .A7 [.c (.str s),.c (.str ⟨#[]⟩),.c (.bool U)]
theorem AYQ (s t:ByteArray)(b:UInt8)(S:s.size<=maxLen)(R:t.size=1)(hb:t.data.toList[0]?=J b):AC AF 222 [.c (.str s),.c (.str t)] (im s b):=by
 unfold maxLen at S;have B:=AKc s t b R hb;have Q:(t.size:Int)=1:=by omega
 unfold im;rcases kM s.data.toList b with ⟨M,_⟩|⟨w,r,M,o,_⟩
 rw[M]at B ⊢;rw[if_neg (by omega)];refine en func222 ntmps222 ?_;exact wz (cj @Q<|results222) (cj B<|trivial);have hl:s.size=G w+(G r+1):=by
  have:G s.data.toList=G w+(G r+1):=by rw[M];simp
  simpa using this
 rw[o]at B ⊢;rw[if_pos (by omega)];have q:(0:Int)<=(G w:Int):=by omega
 have z:(G w:Int)<=(s.size:Int):=by omega
 have q3:(G w:Int)+1<=(s.size:Int):=by omega
 have q4:G w<=s.size:=by omega
 have q5:((G w:Int)+1).toNat=G w+1:=by omega
 have q6:(0:Int)<=(G w:Int)+1:=by omega
 rw[show (G w:Int).toNat=G w by simp];refine en func222 ntmps222 ?_;exact wz (cj7 @Q @q @z @q3 @q4 @q5 @q6 results222) (cj B<|trivial)
theorem AYR (s t:ByteArray)(b:UInt8)(Q:s.size<=maxLen)(M:t.size=1)(hb:t.data.toList[0]?=J b):AC AF 136 [.c (.str s),.c (.str t)] (im s b):=by
 have h:=AYQ s t b Q M hb;unfold im at h ⊢;split at h;rename_i B;rw[if_pos B];refine en func136 ntmps136 ?_;exact wz results136 (cj h<|trivial);rename_i B;rw[if_neg B];refine en func136 ntmps136 ?_;exact wz results136 (cj h<|trivial)
theorem AVl : ∀b:Fin 256,Nc (b.val:Int)=(decide (97<=Zg .u8 (b.val:Int) 32) && decide (Zg .u8 (b.val:Int) 32<=122)):=by decide +kernel
theorem AWa (hs:s.size<=maxLen):AC AF 133 [.c (.str s)] (.c (.bool (FC Nc s))):=by
 unfold maxLen at hs;refine en func133 ntmps133 ?_;refine wy ARi trivial ⟨?_⟩;refine lp (ι:={ k:Nat // k<=s.size/\FC Nc s=(s.data.toList.drop k).all λb=>Nc b.toNat }) (λk=>[(2,.c (.bool U)),(3,.c (.int .i64 (k.1:Int)))]) (λ_=>[]) (λk=>s.size - k.1) ⟨0,by simp[FC]⟩ ?_ ?_;all_goals simp only[CG,Bw,CO,Ag,Ai]
 exact DH;rintro ⟨k,hk,M⟩;simp only;by_cases B:k<s.size;obtain⟨b,hb,CT,hd,o,R⟩:=bS B;rw[hd,Ep]at M;have q:=AVl ⟨b.toNat,R⟩;simp only at q;obtain⟨c,z⟩:∃c:Int,(b.toNat:Int)=c:=⟨_,rfl⟩
 rw[z]at M q;rw[q]at M;obtain⟨d,Q⟩:=AI (Zg .u8 c 32);rw[Q]at M;clear q;by_cases h:97<=d/\d<=122;rw[decide_eq_true h.1,decide_eq_true h.2,Cd,Cd]at M;refine wy (cj @B<|cj @o<|cj @hb<|cj @CT<|cj @z<|cj @Q<|cj (h.1)<|cj (h.2)<|ARi) trivial ⟨?_⟩;exact⟨⟨k+1,by omega,M⟩,by simp only;omega,wd 0⟩;have A0:FC Nc s=false:=by
  rw[M];by_cases S:97<=d;rw[decide_eq_false (λe=>h ⟨S,e⟩),LV,D4];rw[decide_eq_false S,D4,D4]
 clear M;exact wz (cj6 @B @o @hb @CT @z @Q ARi) W;rw[ij B]at M;have o : ¬(k:Int)<(s.size:Int):=by omega
 exact wz (cj2 @B @o ARi) W
theorem AYu :decide (s=⟨#[]⟩)=decide (s.size=0):=by
 rw[decide_eq_decide];exact⟨λh=>by rw[h];rfl,λh=>by
  cases s with
  | mk d=>congr 1;exact Array.eq_empty_of_size_eq_zero h⟩
theorem AA7 (hs:s.size<=maxLen):AC AF 137 [.c (.str s)] (.c (.bool (Ug s))):=by
 have q:=AYu s;unfold maxLen at hs;unfold Ug;rw[<-q];refine en func137 ntmps137 ?_;refine wy ARl trivial ⟨?_⟩;refine lp (ι:={ k:Nat // k<=s.size/\FC NJ s=(s.data.toList.drop k).all λb=>NJ b.toNat }) (λk=>[(2,.c (.bool U)),(3,.c (.int .i64 (k.1:Int)))]) (λ_=>[]) (λk=>s.size - k.1) ⟨0,by simp[FC]⟩ ?_ ?_;all_goals simp only[CG,Bw,CO,Ag,Ai]
 exact DH;rintro ⟨k,hk,M⟩;simp only;by_cases B:k<s.size;obtain⟨b,o,S,z,Q,_⟩:=bS B;rw[z,Ep]at M;obtain⟨c,R⟩:∃c:Int,(b.toNat:Int)=c:=⟨_,rfl⟩
 rw[R]at M;cases e:NJ c with
 | true=>rw[e,Cd]at M;simp[NJ]at e;refine wy (cj @B<|cj @Q<|cj @o<|cj @S<|cj @R<|cj (e.1)<|cj (e.2)<|ARl) trivial ⟨?_⟩;exact⟨⟨k+1,by omega,M⟩,by simp only;omega,wd 0⟩
 | false=>rw[e,D4]at M;simp[NJ]at e;exact wz (cj5 @B @Q @o @S @R ARl) W
 rw[ij B,Nq]at M;rw[M,Cd];have Q : ¬(k:Int)<(s.size:Int):=by omega
 exact wz (cj2 @B @Q ARl) W
theorem AW5 (z:s.size<=maxLen):AC AF 81 [.c (.str s)] (.c (.bool (decide (s.size<=200) && FC Qm s))):=by
 unfold maxLen at z;refine en func81 ntmps81 ?_;refine wy ASR trivial ⟨?_⟩;refine lp (ι:={ k:Nat // k<=s.size/\FC Qm s=(s.data.toList.drop k).all λb=>Qm b.toNat }) (λk=>[(2,.c (.bool U)),(3,.c (.int .i64 (k.1:Int)))]) (λ_=>[]) (λk=>s.size - k.1) ⟨0,by simp[FC]⟩ ?_ ?_;all_goals simp only[CG,Bw,CO,Ag,Ai]
 exact DH;rintro ⟨k,hk,M⟩;simp only;by_cases B:k<s.size;obtain⟨b,o,S,q,Q,_⟩:=bS B;rw[q,Ep]at M;obtain⟨c,R⟩:∃c:Int,(b.toNat:Int)=c:=⟨_,rfl⟩
 rw[R]at M;cases e:Qm c with
 | true=>rw[e,Cd]at M;simp[Qm]at e;refine wy (cj @B<|cj @Q<|cj @o<|cj @S<|cj @R<|cj (e.1)<|cj (e.2)<|ASR) trivial ⟨?_⟩;exact⟨⟨k+1,by omega,M⟩,by simp only;omega,wd 0⟩
 | false=>rw[e,D4]at M;simp[Qm]at e;rw[M,LV];exact wz (cj5 @B @Q @o @S @R ASR) W
 rw[ij B,Nq]at M;rw[M,Km];have Q : ¬(k:Int)<(s.size:Int):=by omega
 have e:((s.size:Int)<=200)=(s.size<=200):=by rw[eq_iff_iff];omega
 exact wz (cj3 @B @Q @e ASR) W
theorem AJF :AC AF 82 [.c (.str s)] (.c (.bool (NY N0 s))):=by
 have e:NY N0 s=(decide (s=⟨#[104,97,116]⟩) || (decide (s=⟨#[98,97,114]⟩) || (decide (s=⟨#[118,101,99]⟩) || (decide (s=⟨#[100,111,116]⟩) || (decide (s=⟨#[116,105,108,100,101]⟩) || decide (s=⟨#[99,104,101,99,107]⟩)))))):=by
  simp only[NY,N0,mP,mQ,lz,@eq_comm _ _ s]
 rw[e];refine en func82 ntmps82 ?_;exact wz results82 W
theorem AWP :AC AF 135 [.c (.str s)] (.c (.bool (NY kQ s))):=by
 have e:NY kQ s=(decide (s=⟨#[102,114,97,99]⟩) || (decide (s=⟨#[114,111,111,116]⟩) || (decide (s=⟨#[109,97,116,114,105,120]⟩) || decide (s=⟨#[102,101,110,99,101]⟩)))):=by
  simp only[NY,kQ,mP,mQ,lz,@eq_comm _ _ s]
 rw[e];refine en func135 ntmps135 ?_;exact wz results135 W
theorem AV7 :AC AF 78 [.c (.str s)] (.c (.bool (decide (s=⟨#[]⟩)))):=by
 refine en func78 ntmps78 ?_;exact wz results78 W
theorem o5 {s:ByteArray}(h:k<s.size):∃b,s.data.toList[k]?=J b/\s.data[k]?=J b/\s.data.toList.drop k=b::s.data.toList.drop (k+1)/\(k:Int)<(s.size:Int)/\(b.toNat<256):=by
 have B:k<G s.data.toList:=by simpa using h
 refine⟨s.data.toList[k],BE B,?_,D5 B,by omega,UInt8.toNat_lt _⟩;rw[<-VZ];exact BE B
theorem ACW {s:ByteArray}(h : ¬k<s.size):s.data.toList.drop k=[]:=FA (by simp;omega)
theorem Ajf :AC AF 245 [.c (.int .u8 c)] (.c (.bool (Nc c))):=by
 refine en func245 ntmps245 ?_;exact wz (cj @Nc.eq_1<|results245) W
theorem Amt :AC AF 247 [.c (.int .u8 c)] (.c (.bool (NJ c))):=by
 refine en func247 ntmps247 ?_;exact wz (cj @NJ.eq_1<|results247) W
theorem AXr (q:s.size<=maxLen):AC AF 183 [.c (.str s),.c (.int .u8 c)] (.c (.bool (Lq s c))):=by
 unfold maxLen at q;refine en func183 ntmps183 ?_;refine wy vL trivial ⟨?_⟩;refine lp (ι:={ k:Nat // k<=s.size/\Lq s c=(s.data.toList.drop k).any λb=>decide ((b.toNat:Int)=c) }) (λk=>[(4,.c (.bool U)),(5,.c (.int .i64 (k.1:Int)))]) (λ_=>[]) (λk=>s.size - k.1) ⟨0,by simp[Lq]⟩ ?_ ?_;all_goals simp only[CG,Bw,CO,Ag,Ai]
 exact DH;rintro ⟨k,z,M⟩;simp only;by_cases B:k<s.size;obtain⟨b,S,R,o,Q,_⟩:=o5 B;rw[o,mP]at M;by_cases h:(b.toNat:Int)=c;rw[decide_eq_true h,Bool.true_or]at M;exact wz (cj5 @B @Q @S @R @h vL) W;rw[decide_eq_false h,tf]at M;refine wy (cj5 @B @Q @S @R @h vL) trivial ⟨?_⟩;exact⟨⟨k+1,by omega,M⟩,by simp only;omega,wd 0⟩;rw[ACW B]at M;have Q : ¬(k:Int)<(s.size:Int):=by omega
 exact wz (cj2 @B @Q vL) W
theorem Amh :AC AF 244 [.c (.int .u8 c)] (.c (.bool (bT c))):=by
 have B:=Ajf c;have Q:=AXr lP c (by unfold maxLen;decide);unfold bT;unfold lP at *
 cases M:Nc c with
 | true=>rw[M]at B;refine en func244 ntmps244 ?_;exact wz vN (cj B<|trivial)
 | false=>rw[M]at B;refine en func244 ntmps244 ?_;exact wz vN (cj2 B Q W)
def AES (l:List ByteArray):C:=.sl (l.map λt=>[.str t])
theorem AYB (l:List ByteArray)(s:ByteArray)(hl:G l<=1000000):AC AF 181 [.c (AES l),.c (.str s)] (.c (.bool (NY l s))):=by
 obtain⟨q,S⟩:=AI ((l.map λt=>[C.str t]));have Q:G q=G l:=by rw[<-S,Ch]
 unfold AES;rw[S];refine en func181 ntmps181 ?_;refine wy (cj @Q<|ADF) trivial ⟨?_⟩;refine lp (ι:={ k:Nat // k<=G l/\NY l s=NY (l.drop k) s }) (λk=>[(4,.c (.bool U)),(5,.c (.int .i64 (k.1:Int)))]) (λ_=>[]) (λk=>G l - k.1) ⟨0,by simp⟩ ?_ ?_;all_goals simp only[CG,Bw,CO,Ag,Ai]
 exact DH;rintro ⟨k,hk,M⟩;simp only;by_cases B:k<G l;obtain⟨t,ht⟩:∃t,l[k]?=J t:=⟨_,BE B⟩
 have R:q[k]?=J [C.str t]:=by rw[<-S,CM,ht];rfl
 have Dp:k<G q:=by omega
 have z:=gx R;rw[D5 B,gx ht]at M;have o:NY (t::l.drop (k+1)) s=(decide (t=s) || NY (l.drop (k+1)) s):=F;rw[o]at M;by_cases h:t=s;rw[decide_eq_true h,Bool.true_or]at M;exact wz (cj6 @Q @B @Dp @R @z @h ADF) W;rw[decide_eq_false h,tf]at M;refine wy (cj6 @Q @B @Dp @R @z @h ADF) trivial ⟨?_⟩;exact⟨⟨k+1,by omega,M⟩,by simp only;omega,wd 0⟩;rw[FA (by omega)]at M;have e:NY [] s=false:=F;rw[e]at M;exact wz (cj2 @Q @B ADF) W
theorem AjY:AC AF 182 [] (.c (AES N0)):=by
 refine en func182 ntmps182 ?_;exact wz (cj2 @AES.eq_1 @N0.eq_1 results182) W
theorem Amz:AC AF 246 [] (.c (AES kQ)):=by
 refine en func246 ntmps246 ?_;exact wz (cj2 @AES.eq_1 @kQ.eq_1 results246) W
theorem AnE (z:s.size<=maxLen):AC AF 180 [.c (.str s)] (.c (.bool (FC Qm s))):=by
 unfold maxLen at z;refine en func180 ntmps180 ?_;refine wy AR3 trivial ⟨?_⟩;refine lp (ι:={ k:Nat // k<=s.size/\FC Qm s=(s.data.toList.drop k).all λb=>Qm b.toNat }) (λk=>[(2,.c (.bool U)),(3,.c (.int .i64 (k.1:Int)))]) (λ_=>[]) (λk=>s.size - k.1) ⟨0,by simp[FC]⟩ ?_ ?_;all_goals simp only[CG,Bw,CO,Ag,Ai]
 exact DH;rintro ⟨k,hk,M⟩;simp only;by_cases B:k<s.size;obtain⟨b,o,S,q,Q,_⟩:=o5 B;rw[q,Ep]at M;obtain⟨c,R⟩:∃c:Int,(b.toNat:Int)=c:=⟨_,rfl⟩
 rw[R]at M;cases e:Qm c with
 | true=>rw[e,Cd]at M;simp[Qm]at e;refine wy (cj @B<|cj @Q<|cj @o<|cj @S<|cj @R<|cj (e.1)<|cj (e.2)<|AR3) trivial ⟨?_⟩;exact⟨⟨k+1,by omega,M⟩,by simp only;omega,wd 0⟩
 | false=>rw[e,D4]at M;simp[Qm]at e;exact wz (cj5 @B @Q @o @S @R AR3) W
 rw[ACW B]at M;have Q : ¬(k:Int)<(s.size:Int):=by omega
 exact wz (cj2 @B @Q AR3) W
theorem Anm (hs:s.size<=maxLen):AC AF 178 [.c (.str s)] (.c (.bool (Z1 s))):=by
 unfold maxLen at hs;have k1:=Amz;have k2:=AjY;have i1:=AYB kQ s (by decide);have i2:=AYB N0 s (by decide);by_cases h1:s.size=1;obtain⟨b,q,o,z,Q,_⟩:=o5 (s:=s) (k:=0) (by omega);have e:Z1 s=bT b.toNat:=by
  unfold Z1 FC;rw[if_pos h1];rw[List.drop_zero]at z;rw[z,ACW (by omega),Ep,Nq,Km]
 rw[e];have S:=Amh b.toNat;have Jc:(s.size:Int)=1:=by omega
 refine en gG gT ?_;exact wz (cj3 @Jc @q @o gg) (cj S<|trivial)
 . have Jc : ¬(s.size:Int)=1:=by omega
   have e:Z1 s=(FC Nc s && (decide (2<=s.size) && (decide (s.size<=16) && (!NY kQ s && !NY N0 s)))):=if_neg h1;rw[e];refine en gG gT ?_;refine wy (cj @Jc<|gg) trivial ⟨?_⟩;refine lp (ι:={ k:Nat // k<=s.size/\FC Nc s=(s.data.toList.drop k).all λb=>Nc b.toNat }) (λk=>[(2,.c (.bool U)),(3,.c (.int .i64 (k.1:Int)))]) (λ_=>[]) (λk=>s.size - k.1) ⟨0,by simp[FC]⟩ ?_ ?_;all_goals simp only[CG,Bw,CO,Ag,Ai]
   exact DH;rintro ⟨k,hk,M⟩;simp only;by_cases B:k<s.size;obtain⟨b,q,o,z,Q,_⟩:=o5 B;rw[z,Ep]at M;obtain⟨c,S⟩:∃c:Int,(b.toNat:Int)=c:=⟨_,rfl⟩
   rw[S]at M;have hl:=Ajf c;cases e:Nc c with
   | true=>rw[e,Cd]at M;rw[e]at hl;refine wy (cj5 @B @Q @q @o @S gg) (cj hl<|trivial) ⟨?_⟩;exact⟨⟨k+1,by omega,M⟩,by simp only;omega,wd 0⟩
   | false=>rw[e,D4]at M;rw[e]at hl;exact wz (cj5 @B @Q @q @o @S gg) (cj hl<|trivial)
   rw[ACW B]at M;rw[Nq]at M;rw[M,Cd];have Q : ¬(k:Int)<(s.size:Int):=by omega
   by_cases g1:2<=s.size;by_cases g2:s.size<=16;have R:(2:Int)<=(s.size:Int):=by omega
   have xe:(s.size:Int)<=16:=by omega
   rw[decide_eq_true g1,decide_eq_true g2,Cd,Cd];exact wz (cj4 @B @Q @R @xe gg) (cj4 k1 k2 i1 i2 W);have R:(2:Int)<=(s.size:Int):=by omega
   have xe : ¬(s.size:Int)<=16:=by omega
   rw[decide_eq_true g1,decide_eq_false g2,Cd,D4];exact wz (cj4 @B @Q @R @xe gg) W;have R : ¬(2:Int)<=(s.size:Int):=by omega
   rw[decide_eq_false g1,D4];exact wz (cj3 @B @Q @R gg) W
theorem AnA (hs:s.size<=maxLen):AC AF 179 [.c (.str s)] (.c (.bool (dj s))):=by
 unfold maxLen at hs;obtain⟨R,hR⟩:=AI (dj s);rw[hR];refine en func179 ntmps179 ?_;refine wy vK trivial ⟨?_⟩;refine lp (ι:={ k:Nat×Nat // k.1<=s.size/\k.2<=k.1/\R=(match Mu s.size (s.data.toList.drop k.1) k.1 k.2 with|none=>U|some p=>decide (0<s.size) && (decide (s.size<=20) && decide (p<=1))) }) (λk=>[(2,.c (.bool U)),(3,.c (.int .i64 (k.1.2:Int))),(4,.c (.int .i64 (k.1.1:Int)))]) (λ_=>[]) (λk=>s.size - k.1.1) ⟨(0,0),by simp,by simp,by rw[<-hR];rfl⟩ ?_ ?_;all_goals simp only[CG,Bw,CO,Ag,Ai]
 exact DH
 . rintro ⟨⟨k,p⟩,hk,hp,B⟩;simp only at hk hp B ⊢;by_cases M:k<s.size
   . obtain⟨b,hb,z,hd,S,_⟩:=o5 M;rw[hd]at B;simp only[Mu]at B;obtain⟨c,o⟩:∃c:Int,(b.toNat:Int)=c:=⟨_,rfl⟩
     rw[o]at B;have q:=Amt c;by_cases g:c=46/\0<k/\k+1<s.size;rw[if_pos g]at B;obtain⟨g1,g2,g3⟩:=g;have xe:(0:Int)<(k:Int):=by omega
     have A0:(k:Int)<(s.size:Int) - 1:=by omega
     refine wy (cj8 @M @S @hb @z @o @g1 @xe @A0 vK) trivial ⟨?_⟩;exact⟨⟨(k+1,p+1),by simp only;omega,by simp only;omega,by rw[B];rfl⟩,by simp only;omega,wd 0⟩
     . rw[if_neg g]at B;cases e:NJ c with
       | true =>
         rw[if_pos e]at B;rw[e]at q;have Q:=(cj5 @M @S @hb @z @o vK)
         have cc:=(cj q<|trivial)
         repeat any_goals (first|refine Du Q cc ⟨?_⟩|exact Bt Q|(refine Dv Q ?_ ?_<;>intro h<;>try exact Dw))
         all_goals first
          | (exfalso;simp at *;omega)
          | exact⟨⟨(k+1,p),by simp only;omega,by simp only;omega,B⟩,by simp only;omega,wd 0⟩
       | false =>
         rw[if_neg (by rw[e];simp)]at B;rw[e]at q;simp only at B;have Q:=(cj5 @M @S @hb @z @o vK)
         have cc:=(cj q<|trivial)
         repeat any_goals (first|refine Du Q cc ⟨?_⟩|exact Bt Q|(refine Dv Q ?_ ?_<;>intro h<;>try exact Dw))
         all_goals (exfalso;simp at *;omega)
   rw[ACW M]at B;simp only[Mu]at B;have S : ¬(k:Int)<(s.size:Int):=by omega
   rw[B];have e:((s.size:Int)<=20)=(s.size<=20):=by rw[eq_iff_iff];omega
   exact wz (cj3 @M @S @e vK) W
theorem O4 {x:Cx}{w:World}{t:List V}{a:Act}(h:AO x w t a.tmps.toList){v:V}(B:t[i]?=J v):CV x w v (a.eval (.tmp i)):=by
 have:=CW h (.tmp i);simpa [ev,List.getD_eq_getElem?_getD,B]using this
theorem pj {x:Cx}{w:World}{t:List V}{a:Act}(h:AO x w t a.tmps.toList){c:C}(B:t[i]?=J (.c c)):Ab x.S w c (a.eval (.tmp i)):=by
 have:=O4 h B;simpa only[CV]using this
theorem pO (l:List Int)(o:G l<=1000000):AC AF 102 [.c (AV l)] (.c (AV l)):=by
 have f1:G l<=maxLen:=by unfold maxLen;omega
 have f2:G l*8<=140737488355328:=by omega
 unfold AV;refine en my ntmps102 ?_;with_reducible refine AW.seq ?_
 with_reducible refine AW.region ?_
 with_reducible refine If (by simp[BY];first|exact rfl|exact⟨F,F⟩) ?_
 with_reducible refine Kz ?_
 with_reducible refine G3 ?_
 with_reducible refine AW.seq ?_
 with_reducible refine AW.seq ?_
 refine Og (.mk 1) trivial ?_;refine SW.OU (λv t=>t=E/\∃b:Bool,v=.c (.bool b)/\(b=I->l.map (λn=>[C.int AZ n])=[])) (by simp[BQ]) ?_ ?_;intro M S x a w g B R;exact AI2 (P:=AF) g _ rfl (by simp;exact⟨F,F,F⟩) (pj B F) F;rintro v t ⟨rfl,b,rfl,Q⟩;cases b with
 | true =>
   have:l=[]:=by simpa using Q rfl
   subst this;refine SW.nil ?_;refine Ah ?_;exact At RH
 | false =>
   refine SW.nil ?_;refine Ah ?_;with_reducible refine AW.DA ?_
   refine SW.OU (λv t=>t=E/\v=.Bg []) (by simp[BQ]) ?_ ?_;intro M S x a w g B R;exact⟨_,_,λ_ _ h=>(by cases h),⟨F,F⟩,AIv (P:=AF) g (t:=39) rfl (Ae:=3) (es:=1) (Bq:=8) (by simp)⟩;rintro v t ⟨rfl,rfl⟩;refine CY (.mk 3) (cj @f1<|@f2) ?_;refine SW.nil ?_;refine Ah ?_;exact At RH
mutual
def V.sf (N:Nat):V->Bool
 | .ptr k _=>decide (k<N) && decide (k≠2)
 | .own k _ _ _=>decide (k<N) && decide (k≠2)
 | .gr k _ _=>decide (k<N) && decide (k≠2)
 | .Be k _ _=>decide (k<N) && decide (k≠2)
 | .hp k _ _=>decide (k<N) && decide (k≠2)
 | .mp _=>U
 | .agg l=>V.Em N l
 | .A7 l=>V.Em N l
 | .fn _ l=>V.Em N l
 | .any=>I
 | .c _=>I
 | .cp _ _=>I
 | .Bg _=>I
 | .yl _=>I
def V.Em (N:Nat):List V->Bool
 | []=>I
 | v::l=>v.sf N && V.Em N l
end
mutual
theorem AKn {N:Nat}{ρ:Nat->Nat}(B : ∀k,k<N->k≠2->ρ k=k):∀v:V,v.sf N=I->v.GS ρ=v
 | .ptr k _,h=>by simp only[V.sf,Ak,decide_eq_true_eq]at h;simp only[V.GS,B k h.1 h.2]
 | .own k _ _ _,h=>by simp only[V.sf,Ak,decide_eq_true_eq]at h;simp only[V.GS,B k h.1 h.2]
 | .gr k _ _,h=>by simp only[V.sf,Ak,decide_eq_true_eq]at h;simp only[V.GS,B k h.1 h.2]
 | .Be k _ _,h=>by simp only[V.sf,Ak,decide_eq_true_eq]at h;simp only[V.GS,B k h.1 h.2]
 | .hp k _ _,h=>by simp only[V.sf,Ak,decide_eq_true_eq]at h;simp only[V.GS,B k h.1 h.2]
 | .mp _,h=>by simp[V.sf]at h
 | .agg l,h=>by simp only[V.sf]at h;simp only[V.GS,lM B l h]
 | .A7 l,h=>by simp only[V.sf]at h;simp only[V.GS,lM B l h]
 | .fn _ l,h=>by simp only[V.sf]at h;simp only[V.GS,lM B l h]
 | .any,_=>rfl
 | .c _,_=>rfl
 | .cp _ _,_=>rfl
 | .Bg _,_=>rfl
 | .yl _,_=>rfl
theorem lM {N:Nat}{ρ:Nat->Nat}(B : ∀k,k<N->k≠2->ρ k=k):∀l:List V,V.Em N l=I->V.SO ρ l=l
 | [],_=>rfl
 | v::l,h=>by simp only[V.Em,Ak]at h;simp only[V.SO,AKn B v h.1,lM B l h.2]
end
mutual
theorem AKm {N M:Nat}(B:N<=M):∀v:V,v.sf N=I->v.A8 M=I/\v.sf M=I
 | .ptr k _,h=>by simp only[V.sf,V.A8,Ak,decide_eq_true_eq]at h ⊢;omega
 | .own k _ _ _,h=>by simp only[V.sf,V.A8,Ak,decide_eq_true_eq]at h ⊢;omega
 | .gr k _ _,h=>by simp only[V.sf,V.A8,Ak,decide_eq_true_eq]at h ⊢;omega
 | .Be k _ _,h=>by simp only[V.sf,V.A8,Ak,decide_eq_true_eq]at h ⊢;omega
 | .hp k _ _,h=>by simp only[V.sf,V.A8,Ak,decide_eq_true_eq]at h ⊢;omega
 | .mp _,h=>by simp[V.sf]at h
 | .agg l,h=>by simp only[V.sf,V.A8]at h ⊢;exact SZ B l h
 | .A7 l,h=>by simp only[V.sf,V.A8]at h ⊢;exact SZ B l h
 | .fn _ l,h=>by simp only[V.sf,V.A8]at h ⊢;exact SZ B l h
 | .any,_=>⟨rfl,rfl⟩
 | .c _,_=>⟨rfl,rfl⟩
 | .cp _ _,_=>⟨rfl,rfl⟩
 | .Bg _,_=>⟨rfl,rfl⟩
 | .yl _,_=>⟨rfl,rfl⟩
theorem SZ {N M:Nat}(R:N<=M):∀l:List V,V.Em N l=I->V.BI M l=I/\V.Em M l=I
 | [],_=>⟨rfl,rfl⟩
 | v::l,h=>by
   simp only[V.Em,Ak]at h;have B:=AKm R v h.1;have Q:=SZ R l h.2;simp only[V.BI,V.Em,B.1,B.2,Q.1,Q.2,Bool.and_self,and_self]
end
mutual
theorem AYa {N L:Nat}{row:List C}(B:N<=L):∀v:V,v.sf N=I->v.Bi L row=v
 | .ptr k _,h=>by simp only[V.sf,Ak,decide_eq_true_eq]at h;simp only[V.Bi];rw[if_neg (by omega)]
 | .own k _ _ _,h=>by simp only[V.sf,Ak,decide_eq_true_eq]at h;simp only[V.Bi];rw[if_neg (by omega)]
 | .gr k _ _,h=>rfl
 | .Be k _ _,h=>rfl
 | .hp k _ _,h=>rfl
 | .mp _,h=>by simp[V.sf]at h
 | .agg l,h=>by simp only[V.sf]at h;simp only[V.Bi,Zw B l h]
 | .A7 l,h=>by simp only[V.sf]at h;simp only[V.Bi,Zw B l h]
 | .fn _ l,h=>by simp only[V.sf]at h;simp only[V.Bi,Zw B l h]
 | .any,_=>rfl
 | .c _,_=>rfl
 | .cp _ _,_=>rfl
 | .Bg _,_=>rfl
 | .yl _,_=>rfl
theorem Zw {N L:Nat}{row:List C}(B:N<=L):∀l:List V,V.Em N l=I->V.Cs L row l=l
 | [],_=>rfl
 | v::l,h=>by simp only[V.Em,Ak]at h;simp only[V.Cs,AYa B v h.1,Zw B l h.2]
end
theorem fC {N:Nat} : ∀ {l:List V},V.Em N l=I↔∀v∈l,v.sf N=I
 | []=>by simp[V.Em]
 | v::l=>by simp only[V.Em,Ak,fC (l:=l),List.forall_mem_cons]
theorem sy {l k:List V}:V.Em N (l++k)=I↔V.Em N l=I/\V.Em N k=true:=by
 simp only[fC,List.mem_append];exact⟨λh=>⟨λv B=>h v (.inl B),λv B=>h v (.inr B)⟩,λh v B=>B.elim (h.1 v) (h.2 v)⟩
theorem AKo {l:List V}{v:V}(h:V.Em N l=I)(M:v.sf N=I):V.Em N (l.set i v)=true:=by
 rw[fC]at h ⊢;intro u B;rcases List.mem_or_eq_of_mem_set B with B|rfl
 exact h u B;exact M
theorem ABl (l:List C):V.Em N (l.map V.c)=true:=by
 rw[fC];intro v B;obtain⟨c,_,rfl⟩:=Da.1 B;rfl
theorem xd {k:Nat}{row:List C} : ∀(l:List V),V.Cs k row l=l.map (V.Bi k row)
 | []=>rfl
 | v::l=>by simp only[V.Cs,Ap,xd l]
def Jq (q i:Nat):Nat:=if i=2 then q else i
theorem UW {q N M:Nat}{l:List V}(h:V.Em N l=I)(B:N<=M):EM (Jq q) M l l:=
 EM.same (lM (N:=N) (λk _ Q=>by simp[Jq,Q]) l h) (SZ B l h).1
theorem Le.Gw {t z:List V}{g h:List O}(q:Nat)(hq:q=2\/G h<=q)(ht:EM (Jq q) (G h) t z)(h2 : ∃o o',g[q]?=J o/\h[2]?=J o'/\Wo (Jq q) (G h) o o')(hh : ∀i o',i≠2->h[i]?=J o'->∃o,g[i]?=J o/\Wo (Jq q) (G h) o o'):Le ⟨E,0⟩ ⟨t,g⟩ ⟨z,h⟩:=by
 refine Le.GS (Jq q) (λi j hi hj e=>?_) ht (λi o' S=>?_);unfold Jq at e;by_cases M:i=2;by_cases B:j=2;omega;rw[if_pos M,if_neg B]at e;omega;by_cases B:j=2;rw[if_neg M,if_pos B]at e;omega;rw[if_neg M,if_neg B]at e;exact e;by_cases e:i=2;subst e;obtain⟨o,o2,Q,R,h5⟩:=h2;rw[R]at S;cases S;exact⟨o,by simpa [Jq]using Q,h5⟩;obtain⟨o,Q,R⟩:=hh i o' e S;exact⟨o,by simpa [Jq,e]using Q,R⟩
def Kw (h:List O):Prop:=∀(i:Nat) (o:O),i≠2->h[i]?=J o->∃ty cs fr,o=.box ty cs fr/\V.Em (G h) cs=I
theorem oJ {q N M:Nat}{o:O}(h : ∃ty cs B,o=.box ty cs B/\V.Em N cs=I)(Q:N<=M):Wo (Jq q) M o o:=by
 obtain⟨ty,cs,B,rfl,h⟩:=h;exact⟨F,F,UW h Q⟩
theorem Kw.set {h:List O}(S:Kw h){ty:TypeId}{cs:List V}{M:Bool}(Q:V.Em (G h) cs=I):Kw (h.set k (.box ty cs M)):=by
 intro i o R B;rw[RD]at B;rw[GF];by_cases e:k=i;subst e;rw[if_pos rfl]at B;split at B;cases B;exact⟨ty,cs,M,F,Q⟩;cases B;rw[if_neg e]at B;exact S i o R B
theorem Kw.push {h:List O}(z:Kw h){ty:TypeId}{cs:List V}{M:Bool}(S:V.Em (G h) cs=I):Kw (h++[.box ty cs M]):=by
 intro i o q B;rw[Cp,List.length_singleton];rcases Nat.lt_trichotomy i (G h) with Q|Q|Q
 rw[EJ Q]at B;obtain⟨ty,cs,M,rfl,R⟩:=z i o q B;exact⟨ty,cs,M,F,(SZ (Nat.le_succ _) cs R).2⟩;subst Q;rw[Gy (BN _)]at B;simp at B;subst B;exact⟨ty,cs,M,F,(SZ (Nat.le_succ _) cs S).2⟩;rw[Gy (by omega),List.getElem?_eq_none (by simp;omega)]at B;cases B
def il:Option Code->Code
 | some (.seq _ (.seq _ (.seq (.loop c) _)))=>c
 | some (.seq _ (.seq _ (.seq (.block _ (.loop c)) _)))=>c
 | some (.seq _ (.seq _ (.seq c _)))=>c
 | _=>.skip
def Gw (st:List V)(j:Nat):O:=.box 199 (st++Aq j .any) U
def dT (n:Nat):List V:=[.any,.ptr 0 0,.ptr 1 0,.own 2 0 n 1]++Aq 67 .any
noncomputable def P8:Code:=il (AHW).body
noncomputable def AE3:Code:=match P8 with
 | .seq _ (.block _ (.seq _ (.seq _ (.seq _ (.seq _ (.seq _ (.seq _ (.seq _ (.seq _ (.block _ (.loop c)))))))))))=>c
 | _=>.skip
theorem ez {α:Type}{l:List α}{v:α}(h:l[i]?=J v):l.set i v=l:=by
 apply List.ext_getElem?;intro j;rw[RD];by_cases e:i=j;subst e;have B:=(Br.1 h).1;simp only[if_true,B];exact h.symm;simp[e]
theorem AOo (n k off:Nat)(ty:TypeId)(cs o:List V)(src:List Int)(h2:H[2]?=J (.box 199 o U))(Q:H[k]?=J (.box ty cs U))(EG:k≠2)(hp:o[n]?=J (.ptr k off))(hn:n<1000000)(hs:G src<=1000000)(q:cs[off+8]?=J (.c (.sl [])))(R:cs[off+10]?=J (.c (AV src)))(hK : ∀t,G t=71->t.take 4=[.any,.ptr 0 0,.ptr 1 0,.own 2 0 n 1]->LA ⟨E,0⟩ AF P8 K ⟨t,H.set k (.box ty (cs.set (off+8) (.Bg [])) U)⟩):
 AW ⟨E,0⟩ AF P8 (NH (LA ⟨E,0⟩ AF P8 K) K) ⟨dT (n+1),H⟩:=by
 have M:k<G H:=(Br.1 Q).1;have N9:2<G H:=(Br.1 h2).1;have hw:AZ.wrap (n:Int)=(n:Int):=Ac;have dD:off+8<G cs:=(Br.1 q).1;have zf:off+10<G cs:=(Br.1 R).1;have jv:H[k]'M=.box ty cs false:=(Br.1 Q).2;have zg:off+10+1<=G cs:=zf;have qx:off+8+1<=G cs:=dD;have KG:cs.set (off+10) (.c (AV src))=cs:=ez R;have xy:H.set k (.box ty cs U)=H:=ez Q;have z:(H.set k (.box ty (cs.set (off+8) (.Bg [])) U))[k]?=J (.box ty (cs.set (off+8) (.Bg [])) U):=by rw[IX M]
 have yr:(cs.set (off+8) (.Bg []))[off+8]?=J (.Bg []):=by rw[IX dD]
 conv=>arg 3;unfold P8
 simp only[il,AHW,dT,BY,Cy,BK,BU];have S:(0:Int)<(n:Int)+1:=by omega
 have kA:(n:Int)<(n:Int)+1:=by omega
 refine go (cj5 @hw @h2 @hp @hn @S @kA) ?_;refine Og (.mk 4) @hw ?_;refine SW.OU (λv t=>t=E/\v=.own 2 0 n 1) (by simp[BQ]) ?_ ?_;intro S0 w0 x a w g B EC;exact⟨_,_,λ_ _ h=>(by cases h),⟨F,F⟩,AI4 (P:=AF) (n:=n) (len:=n+1) g rfl (by simp;exact⟨F,F⟩) (O4 B F) (O4 B F) (by omega)⟩;rintro v t ⟨rfl,rfl⟩;refine CY (.mk 1) trivial ?_;refine SW.nil ?_;refine go (cj2 @Q @q @R) ?_;refine gc (cj4 @jv @M @zg @KG @xy) (pO src hs) my ?_;refine go (cj2 @jv @M @qx) ?_;refine Og (.mk 5) (cj @z<|@yr) ?_;refine SW.OU (λv t=>t=E/\v=.c (.int .i64 0)) (by simp[BQ]) ?_ ?_;intro S0 w0 x a w g B EC;exact⟨_,_,λ_ _ h=>(by cases h),⟨F,F⟩,AU1 (P:=AF) g rfl (by simp;exact⟨F,F,F⟩) (by have:=O4 (v:=.Bg []) B (i:=49) F;simp only[CV]at this;obtain⟨_,_,h⟩:=this;exact h) (pj B F)⟩;rintro v t ⟨rfl,rfl⟩;refine SW.nil ?_;refine go (cj @z<|@yr) ?_;with_reducible refine LA.loop ?_
 with_reducible refine LA.round ?_
 refine Ah ?_;exact hK _ rfl F
def TI (n m i k off:Nat):List V:=[.any,.ptr 0 0,.ptr 1 0,.own 2 0 (n+i) 1,.ptr k off]++Aq 51 .any++[.c (.int .i64 (m:Int)),.c (.int .i64 (i:Int))]++Aq 13 .any
def F0 (L m:Nat):List V:=(List.range m).map λi=>.ptr L (i*11)
theorem ABM (L m:Nat):F0 L (m+1)=F0 L m++[.ptr L (m*11)]:=by simp[F0,List.range_succ]
theorem AJ0 (L m:Nat):G (F0 L m)=m:=by simp[F0]
theorem ABL {L N:Nat}(m:Nat)(h:L<N)(M:L≠2):V.Em N (F0 L m)=true:=by
 rw[fC];intro v B;simp only[F0,Da]at B;obtain⟨i,_,rfl⟩:=B;simp[V.sf,h,M]
theorem AJ4 {G R:List O}{t:List V}{n m i k off L q:Nat}{st:List V}{B:List V}(hG:Kw G)(h2:2<G.length)(ju:k<G.length)(EG:k≠2)(qN:L<G.length)(Us:L≠2)(o:V.Em G.length st=I)(hn:st.length=n)(hq:q=2\/G.length<=q)(DT:R[q]?=J (.box 199 (st++F0 L (i+1)++B) U))(hh : ∀a,a<G.length->a≠2->R[a]?=G[a]?)(ht:EM (Jq q) G.length t (TI n m (i+1) k off)):Le ⟨E,0⟩ ⟨t,R⟩ ⟨TI n m (i+1) k off,G.set 2 (Gw (st++F0 L (i+1)) B.length)⟩:=by
 have M:(G.set 2 (Gw (st++F0 L (i+1)) B.length)).length=G.length:=GF ..;refine Le.Gw q (by rw[M];exact hq) (by rw[M];exact ht) ⟨_,_,DT,IX h2,?_⟩ (λa z S Q=>?_);rw[M];refine⟨F,F,?_⟩;refine EM.append ?_ (EM.any B);exact UW (N:=G.length) (sy.2 ⟨o,ABL _ qN Us⟩) (BN _);rw[HF (λe=>S e.symm)]at Q;have FE:a<G.length:=(Br.1 Q).1;exact⟨z,by rw[hh a FE S];exact Q,by rw[M];exact oJ (hG a z S Q) (BN _)⟩
theorem AYZ {α:Type}{l:List α}{n j:Nat}{x v:α}(h:G l=n):(l++Aq (j+1) x).set n v=l++[v]++Aq j x:=by
 subst h;rw[Vg _ _ (BN _),Nat.sub_self,BY,Ag];simp
theorem AOq (n k off L m j:Nat)(ty:TypeId)(cs st:List V)(h2:H[2]?=J (Gw st j))(z:st.length=n)(hk:H[k]?=J (.box ty cs U))(EG:k≠2)(hc:cs[off+8]?=J (.own L 0 m 11))(hL:L<H.length)(Us:L≠2)(QI:Kw H)(VA:V.Em H.length st=I)(hb:n+m<1000000)(hK : ∀Q,K (.exit 2) ⟨(TI n m m k off).set 58 (.c (.bool U)),H.set 2 (Gw (st++F0 L m) Q)⟩):AW ⟨E,0⟩ AF (.loop AE3) K ⟨TI n m 0 k off,H⟩:=by
 have Ce:k<H.length:=(Br.1 hk).1;have N9:2<H.length:=(Br.1 h2).1;refine AW.loop (ι:={ p:Nat×Nat // p.1<=m }) (λp=>⟨TI n m p.1.1 k off,H.set 2 (Gw (st++F0 L p.1.1) p.1.2)⟩) (λp=>m - p.1.1) ⟨(0,j),Nat.zero_le _⟩ ?_ ?_;have e:H.set 2 (Gw (st++F0 L 0) j)=H:=by
  have:F0 L 0=[]:=F;rw[this,E5];exact ez h2
 simp only[e];exact Le.refl _;rintro ⟨⟨i,j⟩,hi⟩;simp only at hi ⊢;obtain⟨G,S⟩:∃G,G=H.set 2 (Gw (st++F0 L i) j):=⟨_,rfl⟩
 have g2:G[2]?=J (Gw (st++F0 L i) j):=by rw[S,IX N9]
 have gk:G[k]?=J (.box ty cs U):=by rw[S,HF (λe=>EG e.symm)];exact hk
 have gl:G.length=H.length:=by rw[S,GF]
 rw[<-S];conv=>arg 3;unfold AE3
 simp only[P8,il,AHW,TI,BY,Cy,BK,BU];by_cases B0:i<m;have Dn:(i:Int)<(m:Int):=by omega
 have hw:AZ.wrap ((i:Int)+1)=((i+1:Nat):Int):=by rw[Ac];simp
 with_reducible refine AW.seq ?_
 refine go @Dn ?_;refine Og (.mk 7) (cj2 @gk @hc @B0) ?_;refine SW.OU (λv t=>v=.own G.length 0 1 1/\t=J (G.length,.box 199 [.ptr L (i*11)] U)) (by simp[BQ]) ?_ ?_;intro S0 w0 x a w g ht EC;exact⟨_,_,λ_ _ h=>(by cases h;exact BN _),⟨F,F⟩,AIw (P:=AF) (Bq:=8) g rfl (by simp) (O4 ht (i:=66) F) rfl _ EC⟩;rintro v t ⟨rfl,rfl⟩;simp only[St.step,St.put,Bk,Nat.lt_irrefl,if_false,Ai,Ag];have A3 : ∀X,H.set 2 X=G.set 2 X:=by intro X;rw[S,aK]
 have jJ:2<G.length:=by omega
 have A2:1<G.length:=by omega
 have A1:0<G.length:=by omega
 have ju:k<G.length:=by omega
 have qN:L<G.length:=by omega
 have A5:Kw G:=by rw[S];intro a o M ho;rw[HF (λe=>M e.symm)]at ho;rw[GF];exact QI a o M ho
 have A6:V.Em G.length st=true:=by rw[gl];exact VA
 obtain⟨B,jN⟩:∃B,B=G++[.box 199 [.ptr L (i*11)] U]:=⟨_,rfl⟩
 have xe:B[2]?=J (.box 199 (st++F0 L i++Aq j V.any) U):=by rw[jN,EJ jJ];exact g2
 have A7:B[G.length]?=J (.box 199 [.ptr L (i*11)] U):=by rw[jN,Gy (BN _)];simp
 have B1:B.length=G.length+1:=by rw[jN];simp
 have A0 : ∀a,a<G.length->B[a]?=G[a]?:=λa M=>by rw[jN,EJ M]
 have qt:(st++F0 L i).length=n+i:=by rw[Cp,z,AJ0]
 rw[<-jN];refine SW.OU (λ(v:V) (t:Option (Nat×O))=>(n+i<(st++F0 L i++Aq j V.any).length/\v=.own 2 0 (n+i+1) 1/\t=J (2,.box 199 ((st++F0 L i++Aq j V.any).set (n+i) (.ptr L (i*11))) U))\/∃Q,v=.own B.length 0 (n+i+1) 1/\t=J (B.length,.box 199 ((st++F0 L i++Aq j V.any).take (n+i)++ .ptr L (i*11)::Aq Q V.any) U)) (by simp[BQ]) ?_ ?_;intro S0 w0 x a w g ht EC;exact AUx (P:=AF) (Bq:=8) g _ rfl (by simp) (O4 ht (i:=60) F) (O4 ht (i:=67) F) xe A7 rfl (by unfold maxLen;omega) (by omega) (by rw[Cp,qt];omega) EC (by show 2<=B.length;omega);rintro v t (⟨OG,rfl,rfl⟩|⟨Q,rfl,rfl⟩);have hu:Bk B (J (2,.box 199 ((st++F0 L i++Aq j V.any).set (n+i) (.ptr L (i*11))) U))=B.set 2 (.box 199 ((st++F0 L i++Aq j V.any).set (n+i) (.ptr L (i*11))) U):=by simp only[Bk];rw[if_pos (by omega)]
 obtain⟨G2,R⟩:∃G2,G2=B.set 2 (.box 199 ((st++F0 L i++Aq j V.any).set (n+i) (.ptr L (i*11))) U):=⟨_,rfl⟩
 simp only[St.step,St.put,hu,<-R,Ai,Ag];have hj : ∃jj,j=jj+1:=by rw[Cp,qt,List.length_replicate]at OG;exact⟨j - 1,by omega⟩
 obtain⟨jj,rfl⟩:=hj;refine CY (.mk 1) trivial ?_;refine SW.nil ?_;refine go @hw ?_;refine⟨⟨(i+1,(Aq jj (V.any)).length),by omega⟩,by simp only;omega,?_⟩;simp only[A3];refine AJ4 (q:=2) A5 jJ ju EG qN Us A6 z (.inl F) ?_ ?_ ?_;rw[R,IX (by omega),ABM,AYZ qt];simp;intro a M jY;rw[R,HF (λe=>jY e.symm)];exact A0 a M;simp[EM,Wk,V.GS,V.A8,TI,Jq,ju,EG,jJ,A1,A2];omega;have hu:Bk B (J (B.length,.box 199 ((st++F0 L i++Aq j V.any).take (n+i)++ .ptr L (i*11)::Aq Q V.any) U))=B++[.box 199 ((st++F0 L i++Aq j V.any).take (n+i)++ .ptr L (i*11)::Aq Q V.any) U]:=by simp only[Bk];rw[if_neg (by omega)]
 obtain⟨G2,R⟩:∃G2,G2=B++[.box 199 ((st++F0 L i++Aq j V.any).take (n+i)++ .ptr L (i*11)::Aq Q V.any) U]:=⟨_,rfl⟩
 obtain⟨q,hq⟩:∃q,q=B.length:=⟨_,rfl⟩
 simp only[St.step,St.put,hu,<-R,Ai,Ag];rw[<-hq];refine CY (.mk 1) trivial ?_;refine SW.nil ?_;refine go @hw ?_;refine⟨⟨(i+1,(Aq Q (V.any)).length),by omega⟩,by simp only;omega,?_⟩;simp only[A3];refine AJ4 (q:=q) A5 jJ ju EG qN Us A6 z (.inr (by omega)) ?_ ?_ ?_;rw[R,hq,Gy (BN _),ABM,List.take_left' qt];simp;intro a M jY;rw[R,EJ (by omega)];exact A0 a M;simp[EM,Wk,V.GS,V.A8,TI,Jq,ju,EG,jJ,A1,A2];omega;have Dn : ¬(i:Int)<(m:Int):=by omega
 have A9:i=m:=by omega
 subst A9;refine go @Dn ?_;rw[S];exact hK j
theorem AOp (n k off:Nat)(ty:TypeId)(cs:List V)(src:List Int)(AG:List (List C))(st:List V)(j:Nat)(A0:G st=n)(z:H[2]?=J (Gw (st++[.ptr k off]) j))(hk:H[k]?=J (.box ty cs U))(q:k≠2)(hn:n<1000000)(hs:G src<=1000000)(Rk:cs[off+8]?=J (.c (.sl AG)))(Rj:cs[off+10]?=J (.c (AV src)))(Jh:0<G AG)(HP:G AG<=1000000)(ml : ∀r∈AG,G r=11)(QI:Kw H)(VA:V.Em (G H) st=I)(hb:n+G AG<1000000)(hK : ∀j',LA ⟨E,0⟩ AF P8 K ⟨(TI n (G AG) (G AG) k off).set 58 (.c (.bool U)),(H.set k (O.box ty (cs.set (off+8) (.own (G H) 0 (G AG) 11)) U)++[O.box 41 (AG.flatten.map V.c) U]).set 2 (Gw (st++F0 (G H) (G AG)) j')⟩):
 AW ⟨E,0⟩ AF P8 (NH (LA ⟨E,0⟩ AF P8 K) K) ⟨dT (n+1),H⟩:=by
 have hp:(st++[V.ptr k off]++Aq j .any)[n]?=J (.ptr k off):=by rw[GX,Gy (by omega),A0];simp
 obtain⟨O3,jh⟩:∃O3,O3=st++[V.ptr k off]++Aq j .any:=⟨_,rfl⟩
 unfold Gw at z;rw[<-jh]at hp z;have M:k<G H:=(Br.1 hk).1;have N9:2<G H:=(Br.1 z).1;have hw:AZ.wrap (n:Int)=(n:Int):=Ac;have dD:off+8<G cs:=(Br.1 Rk).1;have zf:off+10<G cs:=(Br.1 Rj).1;have jv:H[k]'M=.box ty cs false:=(Br.1 hk).2;have zg:off+10+1<=G cs:=zf;have qx:off+8+1<=G cs:=dD;have KG:cs.set (off+10) (.c (AV src))=cs:=ez Rj;have xy:H.set k (.box ty cs U)=H:=ez hk;have WT:(H.set k (.box ty (cs.set (off+8) (.Bg [])) U))[k]?=J (.box ty (cs.set (off+8) (.Bg [])) U):=by rw[IX M]
 have yr:(cs.set (off+8) (.Bg []))[off+8]?=J (.Bg []):=by rw[IX dD]
 conv=>arg 3;unfold P8
 simp only[il,AHW,dT,BY,Cy,BK,BU];have A6:(0:Int)<(n:Int)+1:=by omega
 have kA:(n:Int)<(n:Int)+1:=by omega
 refine go (cj5 @hw @z @hp @hn @A6 @kA) ?_;refine Og (.mk 4) @hw ?_;refine SW.OU (λv t=>t=E/\v=.own 2 0 n 1) (by simp[BQ]) ?_ ?_;intro S0 w0 x a w g ht EC;exact⟨_,_,λ_ _ h=>(by cases h),⟨F,F⟩,AI4 (P:=AF) (n:=n) (len:=n+1) g rfl (by simp;exact⟨F,F⟩) (O4 ht F) (O4 ht F) (by omega)⟩;rintro v t ⟨rfl,rfl⟩;refine CY (.mk 1) trivial ?_;refine SW.nil ?_;refine go (cj2 @hk @Rk @Rj) ?_;refine gc (cj4 @jv @M @zg @KG @xy) (pO src hs) my ?_;have Rv:(0:Int)<(G AG:Int):=by omega
 have zq:128*(G AG:Int)<=281474976710656:=by omega
 have Wp:(G AG:Int)<=9223372036854775807:=by omega
 refine go (cj4 @jv @M @qx @Jh @Rv) ?_;refine Og (.mk 4) (cj @zq<|@Wp) ?_;have A1 : ∀a b:List O,(if k<G H+1 then a else b)=a:=λa b=>if_pos (by omega)
 have Ir : ∀(o:O) (X:O),(H.set k o++[X])[k]?=J o:=λo X=>by rw[EJ (by simpa using M),IX M]
 have A2 : ∀(o S:O) (X:O),(H.set k o++[X]).set k S=H.set k S++[X]:=λo S X=>by rw[gC _ _ (by simpa using M),aK]
 have Cu : ∀a b:V,(cs.set (off+8) a).set (off+8) b=cs.set (off+8) b:=λa b=>aK ..
 refine CY (.mk 3) (cj4 @A1 @Ir @A2 @Cu @qx) ?_;refine SW.nil ?_;obtain⟨Z,hZ⟩:∃Z:List V,Z=(Aq (G AG) [V.c (C.int AZ 0),V.c (C.str { data:=#[] }),V.c (C.int AZ 0),V.c (C.int AZ 0),V.c (C.int AZ 0),V.c (C.int AZ 0),V.c (C.int AZ 0),V.c (C.int AZ 0),V.Bg [],V.c (C.int AZ 0),V.Bg []]).flatten:=⟨_,rfl⟩
 rw[<-hZ];have G4:G Z=G AG*11:=by rw[hZ];simp[List.length_flatten]
 have NP:(cs.set (off+8) (.own (G H) 0 (G AG) 11))[off+8]?=J (.own (G H) 0 (G AG) 11):=by rw[IX dD]
 refine Ah ?_;refine Og (.mk 5) (cj @Ir<|@NP) ?_;obtain⟨Q,qJ⟩:∃Q,Q=H.set k (O.box ty (cs.set (off+8) (.own (G H) 0 (G AG) 11)) U)++[O.box 41 Z U]:=⟨_,rfl⟩
 rw[<-qJ];have A3:Q[G H]?=J (.box 41 Z U):=by rw[qJ,Gy (by simp)];simp
 have A7:G Q=G H+1:=by rw[qJ];simp
 refine SW.OU (λv t=>v=.c (.int .i64 (G AG))/\t=J (G H,.box 41 (AG.flatten.map V.c) U)) (by simp[BQ]) ?_ ?_;intro S0 w0 x a w g ht EC;exact⟨_,_,λ_ _ h=>(by cases h;show G H<=G Q;omega),⟨F,F⟩,AU2 (P:=AF) (Bq:=128) (es:=11) g rfl (by simp;exact rfl) (O4 ht (i:=49) F) (pj ht (i:=50) F) ml A3 G4⟩;rintro v t ⟨rfl,rfl⟩;have hu:Bk Q (J (G H,.box 41 (AG.flatten.map V.c) U))=H.set k (O.box ty (cs.set (off+8) (.own (G H) 0 (G AG) 11)) U)++[O.box 41 (AG.flatten.map V.c) U]:=by
  simp only[Bk];rw[if_pos (by omega),qJ,Vg _ _ (by simp)];simp
 simp only[St.step,St.put,hu,Ai,Ag];refine SW.nil ?_;obtain⟨D,hD⟩:∃D,D=AG.flatten.map V.c:=⟨_,rfl⟩
 have A5:V.Em (G H) D=true:=by rw[hD];exact ABl _
 rw[<-hD]at hK ⊢;refine go (cj @Ir<|@NP) ?_;obtain⟨B,Uq⟩:∃B,B=H.set k (O.box ty (cs.set (off+8) (.own (G H) 0 (G AG) 11)) U)++[O.box 41 D U]:=⟨_,rfl⟩
 rw[<-Uq]at hK ⊢;have e4:B=(H++[O.box 41 D U]).set k (O.box ty (cs.set (off+8) (.own (G H) 0 (G AG) 11)) U):=by rw[Uq,gC _ _ M]
 have l4:G B=G H+1:=by rw[Uq];simp
 obtain⟨_,_,_,Iw,Ym⟩:=QI k _ q hk;cases Iw;have s4:Kw B:=by
  rw[e4];refine Kw.set (Kw.push QI A5) (AKo ?_ ?_);exact(SZ (by simp) cs Ym).2;simp[V.sf];omega
 have k4:B[k]?=J (.box ty (cs.set (off+8) (.own (G H) 0 (G AG) 11)) U):=by rw[Uq];exact Ir _ _
 have g4:B[2]?=J (.box 199 O3 U):=by rw[e4,HF q,EJ N9];exact z
 have lL:V.Em (G B) st=true:=(SZ (by omega) st VA).2;refine AW.le (s':=⟨TI n (G AG) 0 k off,B.set 2 (Gw st (j+1))⟩) ?_ ?_;refine Le.Gw 2 (.inl F) ?_ ⟨_,_,g4,IX (by omega),?_⟩ (λa S ha R=>?_);rw[GF];simp[EM,Wk,V.GS,V.A8,TI,Jq,q,l4];omega;rw[GF,jh,GX];exact⟨F,F,EM.append (UW lL (BN _)) (by have:=EM.any (ρ:=Jq 2) (N:=G B) ([V.ptr k off]++Aq j .any);simpa [Nat.add_comm]using this)⟩;rw[HF (λe=>ha e.symm)]at R;exact⟨S,R,by rw[GF];exact oJ (s4 a S ha R) (BN _)⟩;refine AOq (B.set 2 (Gw st (j+1))) n k off (G H) (G AG) (j+1) ty (cs.set (off+8) (.own (G H) 0 (G AG) 11)) st (IX (by omega)) A0 (by rw[HF (λe=>q e.symm)];exact k4) q NP (by rw[GF];omega) (by omega) ?_ (by rw[GF];exact lL) hb (λj'=>?_);intro a o ha R;rw[HF (λe=>ha e.symm)]at R;rw[GF];exact s4 a o ha R;rw[aK];with_reducible refine RN ?_
 refine Ah ?_;exact hK j'
structure Aa where
 By:Int
 Hd:Bool
def Aj (s:Aa):V:=.agg [.c (.int .i64 s.By),.c (.bool s.Hd)]
def Aa.ok (s:Aa):Bool:=decide (0<=s.By) && decide (s.By<=3)
theorem fI (s:Aa):AC AF 39 [Aj s] (.c (.bool s.ok)):=by
 obtain⟨l,c⟩:=s;unfold Aj;by_cases h:0<=l;have e:Aa.ok ⟨l,c⟩=decide (l<=3):=by unfold Aa.ok;rw[decide_eq_true h,Cd]
 refine en AAp ntmps39 ?_;refine go @h ?_;exact At (cj results39<| @e);have e:Aa.ok ⟨l,c⟩=false:=by unfold Aa.ok;rw[decide_eq_false h,D4]
 refine en AAp ntmps39 ?_;refine go @h ?_;exact At (cj results39<| @e)
theorem AAA (s:Aa):AC AF 28 [Aj s] (.c (.bool s.ok)):=by
 obtain⟨l,c⟩:=s;unfold Aj;by_cases h:0<=l;have e:Aa.ok ⟨l,c⟩=decide (l<=3):=by unfold Aa.ok;rw[decide_eq_true h,Cd]
 refine en AF8 ntmps28 ?_;refine go @h ?_;exact At (cj nj<| @e);have e:Aa.ok ⟨l,c⟩=false:=by unfold Aa.ok;rw[decide_eq_false h,D4]
 refine en AF8 ntmps28 ?_;refine go @h ?_;exact At (cj nj<| @e)
def BS (p:Params)(s:Aa):Int:=if s.ok=U then 0 else if s.By=2 then p.script else if s.By=3 then p.Qr else 100
def H2 (k:Int):Int:=if k=5\/k=6\/k=7\/k=8 then 2 else if k=9 then 3 else if k=10\/k=11 then 1 else if k=12 then 256 else 0
def VU (l:Int):Int:=if l<=1 then 2 else 3
def GB (k i:Int)(s:Aa):Aa:=
 if k=5 then⟨if s.By+1<=3 then s.By+1 else 3,s.Hd || decide (i=1)⟩
 else if k=6 then(if i=0 then⟨3,s.Hd⟩else⟨s.By,I⟩)
 else if k=7\/k=8\/k=9 then(if i=0 then s else⟨VU s.By,s.Hd || (decide (i=1) && !decide (k=8))⟩)
 else if k=10 then⟨s.By,I⟩
 else if k=12 then⟨if s.By<1 then 1 else s.By,s.Hd⟩
 else s
def XW (k i:Int)(s:Aa):Aa×Int:=
 if s.ok=U\/H2 k=0 then(⟨0,U⟩,1)else if i<0\/H2 k<=i then(⟨0,U⟩,2)else(GB k i s,0)
def Zx (r:Aa×Int):V:=.A7 [Aj r.1,AR r.2]
theorem Ani (k:Int):AC AF 253 [.c (.int .i64 k)] (.c (.int .i64 (H2 k))):=by
 unfold H2;by_cases B:k=5\/k=6\/k=7\/k=8;rw[if_pos B];refine en AIp AMG ?_;rcases B with h|h|h|h
 exact wz (cj @h<|n5) W;exact wz (cj @h<|n5) W;exact wz (cj @h<|n5) W;exact wz (cj @h<|n5) W;rw[if_neg B];by_cases Q:k=9;rw[if_pos Q];refine en AIp AMG ?_;exact wz (cj @Q<|n5) W;rw[if_neg Q];by_cases M:k=10\/k=11;rw[if_pos M];refine en AIp AMG ?_;rcases M with h|h
 exact wz (cj @h<|n5) W;exact wz (cj @h<|n5) W;rw[if_neg M];by_cases R:k=12;rw[if_pos R];refine en AIp AMG ?_;exact wz (cj @R<|n5) W;rw[if_neg R];simp only[not_or]at B M;obtain⟨S,o,q,z⟩:=B;obtain⟨b1,b2⟩:=M;refine en AIp AMG ?_;exact wz (cj8 @S @o @q @z @Q @b1 @b2 @R n5) W
theorem AnX :AC AF 254 [.c (.int .i64 l)] (.c (.int .i64 (VU l))):=by
 unfold VU;by_cases B:l<=1;rw[if_pos B];refine en func254 ntmps254 ?_;exact wz (cj @B<|ng) W;rw[if_neg B];refine en func254 ntmps254 ?_;exact wz (cj @B<|ng) W
theorem AJp (B:0<=l)(M:l<=3):AC AF 274 [.c (.int .i64 l)] (.c (.int .i64 (if l+1<=3 then l+1 else 3))):=by
 have w:AZ.wrap (l+1)=l+1:=Ac;have e:(if (3:Int)<l+1 then(3:Int)else l+1)=if l+1<=3 then l+1 else 3:=by split<;>split<;>omega
 refine en func274 ntmps274 ?_;exact wz (cj2 @w @e results274) W
theorem sJ (M:0<=l)(Q:l<=3):AC AF 277 [.c (.int .i64 l)] (.c (.int .i64 (VU l))):=by
 have B:l=0\/l=1\/l=2\/l=3:=by omega
 refine en func277 ntmps277 ?_;rcases B with rfl|rfl|rfl|rfl
 exact wz (cj @VU.eq_1<|ASG) W;exact wz (cj @VU.eq_1<|ASG) W;exact wz (cj @VU.eq_1<|ASG) W;exact wz (cj @VU.eq_1<|ASG) W
theorem AWZ :AC AF 275 [.c (.int .i64 l)] (.c (.int .i64 3)):=by
 refine en func275 ntmps275 ?_;exact wz results275 W
theorem eJ :AC AF 276 [.c (.int .i64 l)] (.c (.int .i64 l)):=by
 refine en func276 ntmps276 ?_;exact wz results276 W
theorem AV4 :AC AF 278 [.c (.int .i64 l)] (.c (.int .i64 (if l<1 then 1 else l))):=by
 refine en func278 ntmps278 ?_;exact wz results278 W
def Nl (f:FuncId)(b:Bool):List C:=[.EV f,.bool b]
def Zt:List V:=[.c (.sl []),.c (.sl []),.c (.sl []),.c (.sl []),.c (.sl []),.c (.sl [Nl 274 U,Nl 274 I]),.c (.sl [Nl 275 U,Nl 276 I]),.c (.sl [Nl 276 U,Nl 277 I]),.c (.sl [Nl 276 U,Nl 277 U]),.c (.sl [Nl 276 U,Nl 277 I,Nl 277 U]),.c (.sl [Nl 276 I]),.c (.sl [Nl 276 U]),.c (.sl [Nl 278 U])]
theorem AJy:AC AF 230 [] (.agg Zt):=by
 unfold Zt Nl;refine en func230 ntmps230 ?_;exact wz results230 W
theorem AXD (k i:Int)(s:Aa)(h:s.ok=U\/H2 k=0):AC AF 144 [.c (.int .i64 k),.c (.int .i64 i),Aj s] (Zx (XW k i s)):=by
 have z:XW k i s=(⟨0,U⟩,1):=if_pos h;have B:=fI s;rw[z];generalize q:s.ok=OK at B h;unfold Zx AR Aj;unfold Aj at B;refine en func144 ntmps144 ?_;cases OK with
 | false=>exact wz ea (cj B<|trivial)
 | true =>
   have h:H2 k=0:=h.resolve_left (by simp);by_cases Q:k<5;exact wz (cj @Q<|ea) (cj B<|trivial);have M:12<k:=by
    unfold H2 at h;by_cases R:k=5\/k=6\/k=7\/k=8;rw[if_pos R]at h;omega;rw[if_neg R]at h;by_cases S:k=9;rw[if_pos S]at h;omega;rw[if_neg S]at h;by_cases o:k=10\/k=11;rw[if_pos o]at h;omega;rw[if_neg o]at h;by_cases q4:k=12;rw[if_pos q4]at h;omega;omega
   exact wz (cj2 @Q @M ea) (cj B<|trivial)
theorem AYz {k:Int}(h:H2 k≠0):5<=k/\k<=12:=by
 unfold H2 at h;by_cases B:k=5\/k=6\/k=7\/k=8;omega;rw[if_neg B]at h;by_cases M:k=9;omega;rw[if_neg M]at h;by_cases Q:k=10\/k=11;omega;rw[if_neg Q]at h;by_cases R:k=12;omega;rw[if_neg R]at h;exact absurd rfl h
theorem AXE (k:Nat)(i:Int)(s:Aa)(A5:s.ok=I)(h5:5<=k)(A0:k<=12)(AG:List (List C))(M:Zt[k]?=J (.c (.sl AG)))(n:Nat)(hn:G AG=n)(N:Int)(z:(if k=12 then 256 else(n:Int))=N)(B:i<0\/N<=i):AC AF 144 [.c (.int .i64 (k:Int)),.c (.int .i64 i),Aj s] (.A7 [Aj ⟨0,U⟩,.c (.int .i64 2)]):=by
 have Q:=fI s;have R:=AJy;rw[A5]at Q;obtain⟨RV,jU⟩:=AI Zt;have hl:G RV=13:=by rw[<-jU];rfl
 rw[jU]at R M;have k1 : ¬(k:Int)<5:=by omega
 have k2 : ¬(12:Int)<(k:Int):=by omega
 have k3:(k:Int)<13:=by omega
 have k4:k<13:=by omega
 have o:=gx M;unfold Aj;unfold Aj at Q;refine en func144 ntmps144 ?_;by_cases q:k=12;have S:((k:Int)=12)↔True:=⟨λ_=>trivial,λ_=>by omega⟩
 rw[if_pos q]at z;subst z;rcases B with B|B
 exact wz (cj9 @k1 @k2 @k3 @k4 @M @o @S @hn @hl<|cj @B ea) (cj2 Q R W);have JM : ¬i<0:=by omega
 exact wz (cj9 @k1 @k2 @k3 @k4 @M @o @S @hn @hl<|cj2 @B @JM ea) (cj2 Q R W);have S : ¬(k:Int)=12:=by omega
 rw[if_neg q]at z;subst z;rcases B with B|B
 exact wz (cj9 @k1 @k2 @k3 @k4 @M @o @S @hn @hl<|cj @B ea) (cj2 Q R W);have JM : ¬i<0:=by omega
 exact wz (cj9 @k1 @k2 @k3 @k4 @M @o @S @hn @hl<|cj2 @B @JM ea) (cj2 Q R W)
theorem AXC (k:Nat)(i:Int)(s:Aa)(A5:s.ok=I)(h5:5<=k)(A0:k<=12)(AG:List (List C))(B:Zt[k]?=J (.c (.sl AG)))(n:Nat)(hn:G AG=n)(N:Int)(hN:(if k=12 then 256 else(n:Int))=N)(h0:0<=i)(hi:i<N)(j:Nat)(hj:(if (n:Int) - 1<i then(n:Int) - 1 else i)=(j:Int))(GN:j<n)(Hy:n<=100)(g:FuncId)(b:Bool)(L:Int)(S:AG[j]?=J [.EV g,.bool b])(Q:AC AF g [.c (.int .i64 s.By)] (.c (.int .i64 L)))(Rl:Fp AF g=I):AC AF 144 [.c (.int .i64 (k:Int)),.c (.int .i64 i),Aj s] (.A7 [Aj ⟨L,s.Hd || b⟩,.c (.int .i64 0)]):=by
 have M:=fI s;have o:=AJy;rw[A5]at M;obtain⟨RV,jU⟩:=AI Zt;have hl:G RV=13:=by rw[<-jU];rfl
 rw[jU]at o B;have k1 : ¬(k:Int)<5:=by omega
 have k2 : ¬(12:Int)<(k:Int):=by omega
 have k3:(k:Int)<13:=by omega
 have k4:k<13:=by omega
 have hw:AZ.wrap ((n:Int) - 1)=(n:Int) - 1:=Ac;have cq : ¬i<0:=by omega
 have U9:=gx B;have Ei:=gx S;have qi:j<G AG:=by omega
 obtain⟨l,c⟩:=s;unfold Aj;unfold Aj at M;simp only at Q;refine en func144 ntmps144 ?_;by_cases q:k=12;have z:((k:Int)=12)↔True:=⟨λ_=>trivial,λ_=>by omega⟩
 rw[if_pos q]at hN;subst hN;have R : ¬256<=i:=by omega
 cases c with
 | true=>exact wz (cj9 @k1 @k2 @k3 @k4 @B @U9 @z @hn @hl<|cj9 @cq @R @hw @hj @GN @qi @S @Ei @Rl ea) (cj3 M o Q W)
 | false=>exact wz (cj9 @k1 @k2 @k3 @k4 @B @U9 @z @hn @hl<|cj9 @cq @R @hw @hj @GN @qi @S @Ei @Rl ea) (cj3 M o Q W)
 have z : ¬(k:Int)=12:=by omega
 rw[if_neg q]at hN;subst hN;have Is:i=(j:Int):=by rw[if_neg (by omega)]at hj;exact hj
 subst Is;have R : ¬(n:Int)<=(j:Int):=by omega
 have J9 : ¬n<=j:=by omega
 cases c with
 | true=>exact wz (cj9 @k1 @k2 @k3 @k4 @B @U9 @z @hn @hl<|cj9 @cq @R @J9 @hw @GN @qi @S @Ei @Rl ea) (cj3 M o Q W)
 | false=>exact wz (cj9 @k1 @k2 @k3 @k4 @B @U9 @z @hn @hl<|cj9 @cq @R @J9 @hw @GN @qi @S @Ei @Rl ea) (cj3 M o Q W)
theorem ABI (k i:Int)(s:Aa):AC AF 144 [.c (.int .i64 k),.c (.int .i64 i),Aj s] (Zx (XW k i s)):=by
 by_cases z:s.ok=U\/H2 k=0;exact AXD k i s z;have o:s.ok=true:=by cases h:s.ok with
  | true=>rfl
  | false=>exact absurd (.inl h) z
 have Iu:H2 k≠0:=λh=>z (.inr h)
 obtain⟨h5,A3⟩:=AYz Iu;have M:0<=s.By/\s.By<=3:=by
  unfold Aa.ok at o;simpa using o
 obtain⟨n,rfl⟩:∃n:Nat,k=(n:Int):=⟨k.toNat,by omega⟩
 have A1:5<=n:=by omega
 have A0:n<=12:=by omega
 unfold XW;rw[if_neg z];by_cases hr:i<0\/H2 (n:Int)<=i
 . rw[if_pos hr];have hc:n=5\/n=6\/n=7\/n=8\/n=9\/n=10\/n=11\/n=12:=by omega
   rcases hc with rfl|rfl|rfl|rfl|rfl|rfl|rfl|rfl
   all_goals exact AXE _ i s o (by omega) (by omega) _ rfl _ rfl _ rfl (by simpa [H2]using hr)
 rw[if_neg hr];have h0:0<=i:=by omega
 have Q:i<H2 (n:Int):=by omega
 have key : ∀(j:Nat) (R:List (List C)) (m:Nat) (g:FuncId) (b:Bool) (L:Int),Zt[n]?=J (.c (.sl R))->G R=m->m<=100->(if n=12 then 256 else(m:Int))=H2 (n:Int)->(if (m:Int) - 1<i then(m:Int) - 1 else i)=(j:Int)->j<m->R[j]?=J [.EV g,.bool b]->AC AF g [.c (.int .i64 s.By)] (.c (.int .i64 L))->Fp AF g=I->GB (n:Int) i s=⟨L,s.Hd || b⟩->AC AF 144 [.c (.int .i64 (n:Int)),.c (.int .i64 i),Aj s] (Zx (GB (n:Int) i s,0)):=by
  intro j R m g b L q1 q2 q3 q4 q5 q6 q7 q8 q9 A2;rw[A2];exact AXC n i s o A1 A0 R q1 m q2 _ q4 h0 Q j q5 q6 q3 g b L q7 q8 q9
 have hc:n=5\/n=6\/n=7\/n=8\/n=9\/n=10\/n=11\/n=12:=by omega
 have S:i=0\/i=1\/2<=i:=by omega
 obtain⟨B,cr⟩:=s;simp only at M;rcases hc with rfl|rfl|rfl|rfl|rfl|rfl|rfl|rfl
 rcases S with rfl|rfl|q
 exact key 0 _ 2 _ U _ rfl rfl (by omega) rfl rfl (by omega) rfl (AJp B M.1 M.2) (by kernel_rfl) (by simp[GB]);exact key 1 _ 2 _ I _ rfl rfl (by omega) rfl rfl (by omega) rfl (AJp B M.1 M.2) (by kernel_rfl) (by simp[GB]);simp[H2]at Q;omega;rcases S with rfl|rfl|q
 exact key 0 _ 2 _ U _ rfl rfl (by omega) rfl rfl (by omega) rfl (AWZ B) (by kernel_rfl) (by simp[GB]);exact key 1 _ 2 _ I _ rfl rfl (by omega) rfl rfl (by omega) rfl (eJ B) (by kernel_rfl) (by simp[GB]);simp[H2]at Q;omega;rcases S with rfl|rfl|q
 exact key 0 _ 2 _ U _ rfl rfl (by omega) rfl rfl (by omega) rfl (eJ B) (by kernel_rfl) (by simp[GB]);exact key 1 _ 2 _ I _ rfl rfl (by omega) rfl rfl (by omega) rfl (sJ B M.1 M.2) (by kernel_rfl) (by simp[GB]);simp[H2]at Q;omega;rcases S with rfl|rfl|q
 exact key 0 _ 2 _ U _ rfl rfl (by omega) rfl rfl (by omega) rfl (eJ B) (by kernel_rfl) (by simp[GB]);exact key 1 _ 2 _ U _ rfl rfl (by omega) rfl rfl (by omega) rfl (sJ B M.1 M.2) (by kernel_rfl) (by simp[GB]);simp[H2]at Q;omega;rcases S with rfl|rfl|q
 exact key 0 _ 3 _ U _ rfl rfl (by omega) rfl rfl (by omega) rfl (eJ B) (by kernel_rfl) (by simp[GB]);exact key 1 _ 3 _ I _ rfl rfl (by omega) rfl rfl (by omega) rfl (sJ B M.1 M.2) (by kernel_rfl) (by simp[GB]);have e2:i=2:=by simp[H2]at Q;omega
 subst e2;exact key 2 _ 3 _ U _ rfl rfl (by omega) rfl rfl (by omega) rfl (sJ B M.1 M.2) (by kernel_rfl) (by simp[GB]);have e0:i=0:=by simp[H2]at Q;omega
 subst e0;exact key 0 _ 1 _ I _ rfl rfl (by omega) rfl rfl (by omega) rfl (eJ B) (by kernel_rfl) (by simp[GB]);have e0:i=0:=by simp[H2]at Q;omega
 subst e0;exact key 0 _ 1 _ U _ rfl rfl (by omega) rfl rfl (by omega) rfl (eJ B) (by kernel_rfl) (by simp[GB]);exact key 0 _ 1 _ U _ rfl rfl (by omega) rfl (by split<;>omega) (by omega) rfl (AV4 B) (by kernel_rfl) (by simp[GB])
end Go.Proofs.YtglaipbdiofkfaaGreat
