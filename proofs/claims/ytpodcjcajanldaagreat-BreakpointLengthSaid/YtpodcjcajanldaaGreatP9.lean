/- Part of the proof of breakpointLength.proved. Conditions: none. (Joined and shortened by a program.) -/
import Derived.Lib.Bytealg
import Derived.Lib.Strings
import Derived.Lib.Slices
import Derived.Lib.Walk
import Derived.Test.YtpodcjcajanldaaGreatP7
set_option linter.unusedVariables false
set_option linter.unusedSimpArgs false
set_option maxRecDepth 100000
set_option maxHeartbeats 16000000
open List renaming length_cons→BQ,mem_cons→Cb,take_of_length_le→D9,all_cons→Dr,append_nil→D8,length_append→C3,getElem?_eq_getElem→BP,drop_eq_getElem_cons→Cz,drop_of_length_le→C5,foldl_cons→Bl,foldl_nil→B7,set_cons_zero→BC,set_cons_succ→Az,all_nil→Kc,any_cons→Z5,any_nil→gj,mem_of_getElem?→C6
open Go.Lib renaming indexByte→De
open Bool renaming and_eq_true→An,true_and→B5,eq_iff_iff→Ka,not_eq_true'→gR,false_and→C2,and_false→PZ,or_false→gX
open Nat renaming le_of_not_lt→NT
open UInt8 renaming toNat_inj→yY
open ByteArray renaming size_extract→Zw
open Array renaming getElem?_toList→Th
open Go.Proofs.Tryz renaming prog→AD,results213→pq,results217→pr,results151→pe,results58→qB
open Go.Extern.BytealgIndexByte renaming indexByte→AH1
open Go.IntKind renaming i64→Ad
namespace Go.Proofs.YtpodcjcajanldaaGreat
open Go.RowKit
structure Nd where
 kind:Int
 text:ByteArray
 AF:Int
 kids:List Nd
mutual
def Nd.row:Nd->List C
 | ⟨k,t,c,kids⟩=>[.int .i64 k,.str t,.int .i64 c,.sl (Nd.rows kids)]
def Nd.rows:List Nd->List (List C)
 | []=>[]
 | n::l=>n.row::Nd.rows l
end
theorem ND : ∀l:List Nd,Nd.rows l=l.map Nd.row
 | []=>rfl
 | n::l=>by simp only[Nd.rows,List.map_cons,ND l]
mutual
def Nd.cnt:Nd->Nat
 | ⟨_,_,_,kids⟩=>1+Nd.A9 kids
def Nd.A9:List Nd->Nat
 | []=>0
 | n::l=>n.cnt+Nd.A9 l
end
mutual
def Nd.BB:Nd->Nat
 | ⟨_,_,_,kids⟩=>Nd.deps kids+1
def Nd.deps:List Nd->Nat
 | []=>0
 | n::l=>max n.BB (Nd.deps l)
end
mutual
def Nd.Bc:Nd->Prop
 | ⟨_,t,_,kids⟩=>t.size<=maxLen/\kids.length<=maxLen/\Nd.GB kids
def Nd.GB:List Nd->Prop
 | []=>True
 | n::l=>n.Bc/\Nd.GB l
end
theorem fJ (b:Nd):0<b.cnt:=by cases b;simp only[Nd.cnt];omega
theorem Ny : ∀l:List Nd,l.length<=Nd.A9 l
 | []=>Nat.le_refl _
 | b::l=>by have:=Ny l;have:=fJ b;simp only[Nd.A9,BQ];omega
theorem N0 : ∀ {l:List Nd},Nd.GB l->∀b∈l,b.Bc
 | _::_,h,b,hb=>by
   rcases Cb.1 hb with rfl|hb
   . exact h.1
   . exact N0 h.2 b hb
def Nd.vs (b:Nd):List V:=b.row.map V.c
def At (b:Nd):V:=.agg b.vs
section
variable (b:Nd)
@[simp] theorem Nd.VV:b.vs.length=4:=by cases b;rfl
@[simp] theorem Nd.xH:b.vs.all V.one=true:=by cases b;rfl
@[simp] theorem Nd.xI:b.vs.take 4=b.vs:=D9 (by simp)
@[simp] theorem Nd.xE:b.vs[0]?=some (.c (.int .i64 b.kind)):=by cases b;rfl
@[simp] theorem Nd.xC (h:0<b.vs.length):b.vs[0]'h=.c (.int .i64 b.kind):=by cases b;rfl
@[simp] theorem Nd.AHb:b.vs[1]?=some (.c (.str b.text)):=by cases b;rfl
@[simp] theorem Nd.AHZ (h:1<b.vs.length):b.vs[1]'h=.c (.str b.text):=by cases b;rfl
@[simp] theorem Nd.AHc:b.vs[2]?=some (.c (.int .i64 b.AF)):=by cases b;rfl
@[simp] theorem Nd.AHa (h:2<b.vs.length):b.vs[2]'h=.c (.int .i64 b.AF):=by cases b;rfl
@[simp] theorem Nd.xF:b.vs[3]?=some (.c (.sl (Nd.rows b.kids))):=by cases b;rfl
@[simp] theorem Nd.xD (h:3<b.vs.length):b.vs[3]'h=.c (.sl (Nd.rows b.kids)):=by cases b;rfl
@[simp] theorem Nd.nt:V.AO b.vs=some b.vs:=Xg b.row
@[simp] theorem Nd.xJ:toCs b.vs=some b.row:=toCs_c b.row
@[simp] theorem Nd.AHe (cs:List V)(h:cs.length=4):Ek cs 0 b.vs=b.vs:=Zd (by simp[h])
@[simp] theorem Nd.Lh:b.row.length=4:=by cases b;rfl
@[simp] theorem Nd.wE:b.row.map V.c=b.vs:=rfl
@[simp] theorem Nd.AFm:b.row.take 4=b.row:=D9 (by simp)
@[simp] theorem Nd.ASu:b.row[0]?=some (.int .i64 b.kind):=by cases b;rfl
@[simp] theorem Nd.ASv:b.row[1]?=some (.str b.text):=by cases b;rfl
@[simp] theorem Nd.ASw:b.row[2]?=some (.int .i64 b.AF):=by cases b;rfl
@[simp] theorem Nd.ASx:b.row[3]?=some (.sl (Nd.rows b.kids)):=by cases b;rfl
@[simp] theorem Nd.xG (n:Nat):V.BT n b.vs=true:=by cases b;simp[Nd.vs,Nd.row,V.BT,V.BA]
@[simp] theorem Nd.AHd (k:Nat)(row:List C):V.BG k row b.vs=b.vs:=by cases b;simp[Nd.vs,Nd.row,V.BG,V.AR]
end
theorem G0 (l:List Nd):(Nd.rows l).length=l.length:=by rw[ND,List.length_map]
theorem N1 {l:List Nd}{i:Nat}{b:Nd}(h:l[i]?=some b):(Nd.rows l)[i]?=some b.row:=by rw[ND,List.getElem?_map,h];rfl
theorem K7 (b:Nd)(h:b.Bc):b.text.size<=maxLen/\b.kids.length<=maxLen/\Nd.GB b.kids:=by cases b;simpa only[Nd.Bc]using h
theorem Jk (b:Nd):b.cnt=1+Nd.A9 b.kids:=by cases b;rfl
theorem TU (b:Nd):b.BB=Nd.deps b.kids+1:=by cases b;rfl
mutual
def Nd.O6:Nd->Int->Int
 | ⟨_,_,_,kids⟩,m=>Nd.M9 kids (m - 1)
def Nd.M9:List Nd->Int->Int
 | [],m=>m
 | b::l,m=>if 0<=m then Nd.M9 l (b.O6 m)else m
end
mutual
theorem uo : ∀(b:Nd) (m:Int),0<=m-> -1<=b.O6 m/\b.O6 m<=m/\(0<=b.O6 m->b.O6 m=m - b.cnt)/\((b.cnt:Int)<=m->0<=b.O6 m)
 | ⟨_,_,_,kids⟩,m,hm=>by
   have:=ADc kids (m - 1);simp only[Nd.O6,Nd.cnt];have h1:=this (by omega);refine⟨by omega,by omega,fun h=>?_,fun h=>?_⟩
   . have:=h1.2.2.1 h;omega
   . exact h1.2.2.2 (by omega) (by omega)
theorem ADc : ∀(l:List Nd) (m:Int),-1<=m-> -1<=Nd.M9 l m/\Nd.M9 l m<=m/\(0<=Nd.M9 l m->Nd.M9 l m=m - Nd.A9 l)/\((Nd.A9 l:Int)<=m->0<=m->0<=Nd.M9 l m)
 | [],m,hm=>by simp only[Nd.M9,Nd.A9];omega
 | b::l,m,hm=>by
   simp only[Nd.M9,Nd.A9];split
   . rename_i h0;have h1:=uo b m h0;have h2:=ADc l (b.O6 m) h1.1;refine⟨by omega,by omega,fun h=>?_,fun h _=>?_⟩
     . have h3:=h2.2.2.1 h;have h4:=h1.2.2.1 (by omega);omega
     . have h3:=h1.2.2.2 (by omega);have h4:=h1.2.2.1 h3;exact h2.2.2.2 (by omega) h3
   . refine⟨by omega,by omega,fun h=>by omega,fun h h0=>by omega⟩
end
theorem APU (b:Nd)(m:Int)(hm:0<=m):decide (0<=b.O6 m)=decide ((b.cnt:Int)<=m):=by
 have h:=uo b m hm;rw[decide_eq_decide];constructor
 . intro h1;have:=h.2.2.1 h1;omega
 . exact h.2.2.2
def IJ (c:Int):Bool:=decide (97<=c/\c<=122) || decide (65<=c/\c<=90)
def J4 (c:Int):Bool:=decide (48<=c/\c<=57)
def MY (c:Int):Bool:=decide (32<=c/\c<=126)
def hasB (s:ByteArray)(c:Int):Bool:=s.data.toList.any fun b=>decide ((b.toNat:Int)=c)
def Xu:ByteArray:=⟨#[43,45,42,47,61,60,62,44,59,58,33,124,39,63,126,64]⟩
def Kj:ByteArray:=⟨#[40,41,91,93,123,125,124,60,62,47,46]⟩
def RC:ByteArray:=⟨#[40,41,91,93,123,125,60,62,47,124,46]⟩
def Sg (c:Int):Bool:=IJ c || hasB Xu c
def Da (p:Int->Bool)(s:ByteArray):Bool:=s.data.toList.all fun b=>p b.toNat
def TO:List ByteArray:=[⟨#[102,114,97,99]⟩,⟨#[114,111,111,116]⟩,⟨#[109,97,116,114,105,120]⟩,⟨#[102,101,110,99,101]⟩]
def JY:List ByteArray:=[⟨#[104,97,116]⟩,⟨#[98,97,114]⟩,⟨#[118,101,99]⟩,⟨#[100,111,116]⟩,⟨#[116,105,108,100,101]⟩,⟨#[99,104,101,99,107]⟩]
def Hw (l:List ByteArray)(s:ByteArray):Bool:=l.any fun t=>decide (t=s)
def Qn (s:ByteArray):Bool:=if s.size=1 then Da Sg s else Da IJ s && (decide (2<=s.size) && (decide (s.size<=16) && (!Hw TO s && !Hw JY s)))
def Jl (n:Nat):List UInt8->Nat->Int->Option Int
 | [],_,p=>some p
 | b::l,k,p=>if (b.toNat:Int)=46/\0<k/\k+1<n then Jl n l (k+1) (p+1)else if J4 b.toNat=true then Jl n l (k+1) p else none
def U3 (s:ByteArray):Bool:=match Jl s.size s.data.toList 0 0 with
 | none=>false
 | some p=>decide (0<s.size) && (decide (s.size<=20) && decide (p<=1))
def Si (s:ByteArray):Bool:=Da J4 s && !decide (s.size=0)
def vD (s:ByteArray):Bool:=
 decide (s.size<=20) && (if 0<=De s.data.toList 46 then Si (s.extract 0 (De s.data.toList 46).toNat) && Si (s.extract ((De s.data.toList 46).toNat+1) s.size)else Si s)
def I2 (k:Int)(s:ByteArray):Bool:=
 if k=2 then Qn s
 else if k=3 then U3 s
 else if k=4 then decide (s.size<=200) && Da MY s
 else if k=10 then Hw JY s
 else if k=11 then decide (s.size=2) && Da (hasB Kj) s
 else decide (s=⟨#[]⟩)
def Dh (k c:Int)(n:Nat):Bool:=
 if k=12 then decide (1<=c) && (decide (c<=16) && (decide (1<=n) && (decide (n<=256) && decide ((n:Int).tmod c=0))))
 else if c≠0 then false
 else if k=1 then decide (n<=200)
 else if k=2\/k=3\/k=4 then decide (n=0)
 else if k=5\/k=6\/k=7\/k=8 then decide (n=2)
 else if k=9 then decide (n=3)
 else if k=10\/k=11 then decide (n=1)
 else false
def Nd.CZ (b:Nd):Bool:=I2 b.kind b.text && Dh b.kind b.AF b.kids.length
def IK (k k':Int):Bool:=decide (k'=1)==decide (k=1)
mutual
def Nd.F5:Nd->Bool
 | ⟨k,t,c,kids⟩=>(I2 k t && Dh k c kids.length) && Nd.GX k kids
def Nd.GX (k:Int):List Nd->Bool
 | []=>true
 | b::l=>(!IK k b.kind && b.F5) && Nd.GX k l
end
def Nd.Av (b:Nd):Bool:=decide (b.kind=1) && (b.F5 && (decide (b.cnt<=1000) && decide (b.BB<=24)))
theorem U2 (b:Nd):b.F5=(b.CZ && Nd.GX b.kind b.kids):=by cases b;simp only[Nd.F5,Nd.CZ]
mutual
def Nd.pv (BB:Nat):Nd->Nat->Bool×Nat
 | ⟨k,t,c,kids⟩,n=>if 1000<n+1\/24<BB\/(I2 k t && Dh k c kids.length)=false then(false,n+1)else Nd.GP (BB+1) k kids (n+1)
def Nd.GP (BB:Nat)(k:Int):List Nd->Nat->Bool×Nat
 | [],n=>(true,n)
 | b::l,n=>if IK k b.kind=true then(false,n)else if (b.pv BB n).1=true then Nd.GP BB k l (b.pv BB n).2 else(false,(b.pv BB n).2)
end
mutual
theorem vA (BB:Nat):∀(b:Nd) (n:Nat),(b.pv BB n).2<=n+b.cnt/\((b.pv BB n).1=true->(b.pv BB n).2=n+b.cnt)/\((b.pv BB n).1=true↔b.F5=true/\n+b.cnt<=1000/\BB+b.BB<=25)
 | ⟨k,t,c,kids⟩,n=>by
   have hk:=AEB (BB+1) k kids (n+1);simp only[Nd.pv,Nd.cnt,Nd.F5,Nd.BB];obtain⟨B,hB⟩:=AE ((I2 k t && Dh k c kids.length));rw[hB];have hc:=Ny kids;split
   . rename_i hq;refine⟨by simp only;omega,fun h=>(by cases h),⟨fun h=>(by cases h),fun h=>?_⟩⟩;simp only[An]at h;rcases hq with hq|hq|hq
     . omega
     . omega
     . rw[hq]at h;cases h.1.1
   . rename_i hq;have h1:B=true:=by cases B with
      | true=>rfl
      | false=>exact absurd (.inr (.inr rfl)) hq
     refine⟨by omega,fun h=>by have:=hk.2.1 h;omega,?_⟩;rw[hk.2.2,h1,B5];have AMZ:BB<=24:=NT fun h=>hq (.inr (.inl h))
     have hcc:n+1<=1000:=NT fun h=>hq (.inl h)
     constructor
     . rintro ⟨a1,a2,a3⟩;refine⟨a1,?_,?_⟩
       . rcases a2 with a2|rfl
         . omega
         . simp only[Nd.A9];omega
       . rcases a3 with rfl|a3
         . simp only[Nd.deps];omega
         . omega
     . rintro ⟨a1,a2,a3⟩;exact⟨a1,.inl (by omega),.inr (by omega)⟩
theorem AEB (BB:Nat)(k:Int):∀(l:List Nd) (n:Nat),(Nd.GP BB k l n).2<=n+Nd.A9 l/\((Nd.GP BB k l n).1=true->(Nd.GP BB k l n).2=n+Nd.A9 l)/\((Nd.GP BB k l n).1=true↔Nd.GX k l=true/\(n+Nd.A9 l<=1000\/l=[])/\(l=[]\/BB+Nd.deps l<=25))
 | [],n=>by simp[Nd.GP,Nd.A9,Nd.GX]
 | b::l,n=>by
   have h1:=vA BB b n;have h2:=AEB BB k l (b.pv BB n).2;have hp:=fJ b;simp only[Nd.GP,Nd.A9,Nd.GX,Nd.deps];by_cases hm:IK k b.kind=true
   . rw[if_pos hm,hm];refine⟨by simp only;omega,fun h=>(by cases h),⟨fun h=>(by cases h),fun h=>?_⟩⟩;simp at h
   rw[if_neg hm];have ZA:IK k b.kind=false:=by simpa using hm
   rw[ZA,Bool.not_false,B5];split
   . rename_i hq;have e:=h1.2.1 hq;rw[e]at h2;obtain⟨p1,p2,p3⟩:=h1.2.2.1 hq;rw[e];refine⟨by omega,fun h=>by have:=h2.2.1 h;omega,?_⟩;rw[h2.2.2,p1,B5];constructor
     . rintro ⟨a1,a2,a3⟩;refine⟨a1,.inl ?_,.inr ?_⟩
       . rcases a2 with a2|rfl
         . omega
         . simp only[Nd.A9];omega
       . rcases a3 with rfl|a3
         . simp only[Nd.deps];omega
         . omega
     . rintro ⟨a1,a2,a3⟩;simp only[reduceCtorEq,or_false,false_or]at a2 a3;exact⟨a1,.inl (by omega),.inr (by omega)⟩
   . rename_i hq;refine⟨by simp only;omega,fun h=>(by cases h),⟨fun h=>(by cases h),fun h=>?_⟩⟩;simp only[An,reduceCtorEq,or_false,false_or]at h;exact absurd (h1.2.2.2 ⟨h.1.1,by omega,by omega⟩) hq
end
theorem APX (b:Nd)(h1:b.kind=1):(b.pv 1 0).1=b.Av:=by
 have h:=(vA 1 b 0).2.2;unfold Nd.Av;rw[Ka,h];simp only[An,decide_eq_true_eq];constructor
 . rintro ⟨a,b,c⟩;exact⟨h1,a,by omega,by omega⟩
 . rintro ⟨_,a,b,c⟩;exact⟨a,by omega,by omega⟩
theorem mO (n:Nat):∀(w r:List UInt8) (k:Nat) (p:Int),(∀b∈w,¬(b.toNat:Int)=46)->Jl n (w++r) k p=if w.all (fun b=>J4 b.toNat)=true then Jl n r (k+w.length) p else none
 | [],r,k,p,_=>by simp
 | b::w,r,k,p,h=>by
   have hb:=h b List.mem_cons_self;simp only[List.cons_append,Jl];rw[if_neg (fun e=>hb e.1)];rw[mO n w r (k+1) p (fun x hx=>h x (List.mem_cons_of_mem _ hx))];rw[BQ,show k+1+w.length=k+(w.length+1)by omega];by_cases hd:J4 b.toNat=true
   . rw[if_pos hd];simp only[Dr,hd,B5]
   . rw[if_neg hd];simp[hd]
theorem ABf:J4 46=false:=by decide
theorem vB (n:Nat):∀(l:List UInt8) (k:Nat) (p q:Int),Jl n l k p=some q->p<=q/\((∃b∈l,(b.toNat:Int)=46)->p+1<=q)
 | [],k,p,q,h=>by simp[Jl]at h;subst h;simp
 | b::l,k,p,q,h=>by
   simp only[Jl]at h;split at h
   . rename_i hb;have:=(vB n l (k+1) (p+1) q h).1;exact⟨by omega,fun _=>by omega⟩
   . split at h
     . rename_i hd;have:=vB n l (k+1) p q h;refine⟨this.1,fun ⟨x,hx,e⟩=>?_⟩;rcases Cb.1 hx with rfl|hx
       . rw[e,ABf]at hd;cases hd
       . exact this.2 ⟨x,hx,e⟩
     . cases h
theorem ed : ∀(l:List UInt8) (c:UInt8),(De l c= -1/\∀b∈l,b≠c)\/∃w r,l=w++c::r/\De l c=w.length/\∀b∈w,b≠c
 | [],c=>.inl ⟨rfl,by simp⟩
 | b::l,c=>by
   by_cases h:b=c
   . subst h;exact .inr ⟨[],l,rfl,by simp[De],by simp⟩
   . rcases ed l c with ⟨h1,h2⟩|⟨w,r,h1,h2,h3⟩
     . refine .inl ⟨by simp[De,h,h1],fun x hx=>?_⟩;rcases Cb.1 hx with rfl|hx
       . exact h
       . exact h2 x hx
     . refine .inr ⟨b::w,r,by rw[h1];rfl,?_,fun x hx=>?_⟩
       . simp only[De,beq_iff_eq,h,if_false,h2];rw[if_neg (by omega)];simp
       . rcases Cb.1 hx with rfl|hx
         . exact h
         . exact h3 x hx
theorem u5 {b:UInt8}(h:b≠46):¬(b.toNat:Int)=46:=fun e=>h (yY.1 (by have:(46:UInt8).toNat=46:=rfl;omega))
theorem zG (p:Int->Bool)(s:ByteArray)(a e:Nat):Da p (s.extract a e)=((s.data.toList.drop a).take (e - a)).all fun b=>p b.toNat:=by
 unfold Da;rw[ByteArray.data_extract,Array.toList_extract]
theorem APY (s:ByteArray):vD s=U3 s:=by
 obtain⟨l,hl⟩:=AE s.data.toList;have hs:s.size=l.length:=by rw[<-hl];simp
 unfold vD U3;rw[hl];rcases ed l 46 with ⟨h1,h2⟩|⟨w,r,h1,h2,h3⟩
 . rw[h1,if_neg (by omega)];have hn:=mO s.size l [] 0 0 (fun b hb=>u5 (h2 b hb));rw[D8]at hn;rw[hn];unfold Si Da;rw[hl];cases l.all (fun b=>J4 b.toNat)with
   | false=>simp
   | true =>
     simp only[if_true,Jl,B5];rw[Ka];simp only[An,decide_eq_true_eq,gR,decide_eq_false_iff_not,B5,C3,BQ];omega
 . rw[h2,if_pos (by omega)];have hw : ∀b∈w,¬(b.toNat:Int)=46:=fun b hb=>u5 (h3 b hb)
   have hlen:l.length=w.length+(r.length+1):=by rw[h1];simp
   rw[h1,mO s.size w (46::r) 0 0 hw];unfold Si;rw[zG,zG,hl,h1];have e1:(((w++46::r).drop 0).take ((w.length:Int).toNat - 0))=w:=by simp
   have e2:(((w++46::r).drop ((w.length:Int).toNat+1)).take (s.size - ((w.length:Int).toNat+1)))=r:=by
    rw[hs,hlen];have:(w++46::r).drop ((w.length:Int).toNat+1)=r:=by
     rw[show (w.length:Int).toNat+1=w.length+1 by simp,List.drop_append];simp
    rw[this];exact D9 (by simp;omega)
   rw[e1,e2];have z1:(s.extract 0 (w.length:Int).toNat).size=w.length:=by rw[Zw];simp;omega
   have z2:(s.extract ((w.length:Int).toNat+1) s.size).size=r.length:=by rw[Zw];simp;omega
   rw[z1,z2];cases hwd:w.all (fun b=>J4 b.toNat)with
   | false=>simp
   | true =>
     rw[if_pos rfl];simp only[Jl,Nat.zero_add,B5];by_cases c1:0<w.length/\w.length+1<s.size
     . rw[if_pos ⟨by decide,c1⟩];have FT:0<r.length:=by omega
       by_cases hr : ∀b∈r,b≠46
       . have hn:=mO s.size r [] (w.length+1) 1 (fun b hb=>u5 (hr b hb));rw[D8]at hn;rw[show (0:Int)+1=1 from rfl,hn];cases r.all (fun b=>J4 b.toNat)with
         | false=>simp
         | true =>
           simp only[if_true,Jl];rw[Ka];simp only[An,decide_eq_true_eq,gR,decide_eq_false_iff_not,B5,C3,BQ];omega
       . have hx : ∃b∈r,(b.toNat:Int)=46:=by
          simp only[ne_eq,Classical.not_forall,Classical.not_not]at hr;obtain⟨b,hb,rfl⟩:=hr;exact⟨_,hb,rfl⟩
         have hd:r.all (fun b=>J4 b.toNat)=false:=by
          obtain⟨b,hb,e⟩:=hx;rw[List.all_eq_false];exact⟨b,hb,by rw[e,ABf];simp⟩
         rw[hd];simp only[C2,PZ];cases hf:Jl s.size r (w.length+1) (0+1)with
         | none=>rfl
         | some q =>
           have:=(vB _ _ _ _ _ hf).2 hx;simp;omega
     . rw[if_neg (fun h=>c1 h.2)];have e46:((46:UInt8).toNat:Int)=46:=rfl;rw[e46,ABf];have hz:w.length=0\/r.length=0:=by omega
       rcases hz with hz|hz<;>simp only[hz,Bool.false_eq_true,if_false,decide_true,Bool.not_true,PZ,C2]
theorem Yh {s:ByteArray}{k:Nat}(h:k<s.size):∃b,s.data.toList[k]?=some b/\s.data[k]?=some b/\s.data.toList.drop k=b::s.data.toList.drop (k+1)/\(k:Int)<(s.size:Int)/\(b.toNat<256):=by
 have hl:k<s.data.toList.length:=by simpa using h
 refine⟨s.data.toList[k],BP hl,?_,Cz hl,by omega,UInt8.toNat_lt _⟩;rw[<-Th];exact BP hl
theorem cI {s:ByteArray}{k:Nat}(h : ¬k<s.size):s.data.toList.drop k=[]:=C5 (by simp;omega)
theorem AUB (s:ByteArray)(c:Int)(w:World):Calls AD 285 #[.string s,.int .u8 c] w fun e w'=>e=.returned (.int .i64 (De s.data.toList c.toNat.toUInt8))/\w'=w:=by
 go_enter Tryz.func285,Tryz.ntmps285;go_wp2;rw[run_callFunc_extern Tryz.func319 (by kernel_rfl) (by kernel_rfl) (by kernel_rfl) (e:=AH1) (by kernel_rfl),Lib.run_indexByteString];simp only[Result.andThen];rw[Oper.upon_value];go_wp2;go_ret;exact⟨rfl,rfl⟩
theorem AOD (l:List UInt8)(c:UInt8)(h:l.length<=maxLen):(Lit.int .i64 (De l c)).wf=true:=by
 have h1:=Lib.indexByte_ge l c;have h2:De l c<=(l.length:Int):=by
  rcases ed l c with ⟨e,_⟩|⟨w,r,e1,e2,_⟩
  . omega
  . have:l.length=w.length+(r.length+1):=by rw[e1];simp
    omega
 have a1:Ad.min= -9223372036854775808:=by decide +kernel
 have a2:Ad.max=9223372036854775807:=by decide +kernel
 unfold maxLen at h;simp[Lit.wf,a1,a2];omega
theorem AGT (s:ByteArray)(c:Int):AC AD 285 [.c (.str s),.c (.int .u8 c)] (.c (.int .i64 (De s.data.toList c.toNat.toUInt8))):=by
 intro S w us hS C9;simp only[AL,CV,Ap]at C9;obtain⟨u,ur,rfl,⟨rfl,hs⟩,u',ur',rfl,⟨rfl,_⟩,rfl⟩:=C9;refine(AUB _ _ w).mono ?_;rintro e w' ⟨rfl,rfl⟩;exact⟨_,S,rfl,AS.refl _,Ar.refl _ _,fun b j h=>.inl h,by simp only[CV,Ap];exact⟨trivial,AOD _ _ (by simpa using hs)⟩⟩
theorem ATU (s:ByteArray)(c:Int):AC AD 218 [.c (.str s),.c (.int .u8 c)] (.c (.int .i64 (De s.data.toList c.toNat.toUInt8))):=by
 have h:=AGT s c;refine en Tryz.func218 Tryz.ntmps218 ?_;exact wz Tryz.results218 (cj h<|trivial)
theorem AF6 (s t:ByteArray)(b:UInt8)(h1:t.size=1)(hb:t.data.toList[0]?=some b):AC AD 318 [.c (.str s),.c (.str t)] (.c (.int .i64 (De s.data.toList b))):=by
 have hL:=AGT s b.toNat;rw[show ((b.toNat:Int)).toNat.toUInt8=b by simp]at hL;have hb':t.data[0]?=some b:=by rw[<-Th];exact hb
 have e1:(t.size:Int)=1:=by omega
 have QL:t=s->De s.data.toList b=0:=fun e=>by
  subst e;cases hd:t.data.toList with
  | nil=>rw[hd]at hb;simp at hb
  | cons c r=>rw[hd]at hb;simp at hb;subst hb;simp[De]
 by_cases uG:t=s
 . have hz:=QL uG;subst uG;refine en Tryz.func318 Tryz.ntmps318 ?_;exact wz (cj @e1<|cj @hz<|Tryz.results318) trivial
 . refine en Tryz.func318 Tryz.ntmps318 ?_;exact wz (cj @e1<|cj @hb<|cj @hb'<|cj @uG<|Tryz.results318) (cj hL<|trivial)
theorem ATV (s t:ByteArray)(b:UInt8)(h1:t.size=1)(hb:t.data.toList[0]?=some b):AC AD 283 [.c (.str s),.c (.str t)] (.c (.int .i64 (De s.data.toList b))):=by
 have h:=AF6 s t b h1 hb;refine en Tryz.func283 Tryz.ntmps283 ?_;exact wz Tryz.results283 (cj h<|trivial)
theorem ACv (l:List UInt8)(c:UInt8):decide (0<=De l c)=l.any fun b=>decide ((b.toNat:Int)=(c.toNat:Int)):=by
 rw[Ka,decide_eq_true_iff,List.any_eq_true];have e : ∀b:UInt8,((b.toNat:Int)=(c.toNat:Int))↔b=c:=fun b=>⟨fun h=>yY.1 (by omega),fun h=>by rw[h]⟩
 simp only[decide_eq_true_eq,e];rcases ed l c with ⟨h1,h2⟩|⟨w,r,h1,h2,_⟩
 . rw[h1];exact⟨fun h=>by omega,fun ⟨x,hx,e⟩=>absurd e (h2 x hx)⟩
 . rw[h2];exact⟨fun _=>⟨c,by rw[h1];simp,rfl⟩,fun _=>by omega⟩
theorem ATR (s t:ByteArray)(b:UInt8)(h1:t.size=1)(hb:t.data.toList[0]?=some b):AC AD 214 [.c (.str s),.c (.str t)] (.c (.bool (hasB s b.toNat))):=by
 have h:=ATV s t b h1 hb;have e:hasB s b.toNat=decide (0<=De s.data.toList b):=(ACv _ _).symm;rw[e];refine en Tryz.func214 Tryz.ntmps214 ?_;exact wz Tryz.results214 (cj h<|trivial)
def cP (s:ByteArray)(b:UInt8):V:=
 if 0<=De s.data.toList b then .Bk [.c (.str (s.extract 0 (De s.data.toList b).toNat)),.c (.str (s.extract ((De s.data.toList b).toNat+1) s.size)),.c (.bool true)]
 else .Bk [.c (.str s),.c (.str ⟨#[]⟩),.c (.bool false)]
theorem ATS (s t:ByteArray)(b:UInt8)(hs:s.size<=maxLen)(h1:t.size=1)(hb:t.data.toList[0]?=some b):AC AD 284 [.c (.str s),.c (.str t)] (cP s b):=by
 unfold maxLen at hs;have hL:=AF6 s t b h1 hb;have e1:(t.size:Int)=1:=by omega
 unfold cP;rcases ed s.data.toList b with ⟨i1,_⟩|⟨w,r,i1,i2,_⟩
 . rw[i1]at hL ⊢;rw[if_neg (by omega)];refine en Tryz.func284 Tryz.ntmps284 ?_;exact wz (cj @e1<|Tryz.results284) (cj hL<|trivial)
 . have hl:s.size=w.length+(r.length+1):=by
    have:s.data.toList.length=w.length+(r.length+1):=by rw[i1];simp
    simpa using this
   rw[i2]at hL ⊢;rw[if_pos (by omega)];have q1:(0:Int)<=(w.length:Int):=by omega
   have q2:(w.length:Int)<=(s.size:Int):=by omega
   have q3:(w.length:Int)+1<=(s.size:Int):=by omega
   have q4:w.length<=s.size:=by omega
   have q5:((w.length:Int)+1).toNat=w.length+1:=by omega
   have q6:(0:Int)<=(w.length:Int)+1:=by omega
   rw[show (w.length:Int).toNat=w.length by simp];refine en Tryz.func284 Tryz.ntmps284 ?_;exact wz (cj @e1<|cj @q1<|cj @q2<|cj @q3<|cj @q4<|cj @q5<|cj @q6<|Tryz.results284) (cj hL<|trivial)
theorem ATT (s t:ByteArray)(b:UInt8)(hs:s.size<=maxLen)(h1:t.size=1)(hb:t.data.toList[0]?=some b):AC AD 216 [.c (.str s),.c (.str t)] (cP s b):=by
 have h:=ATS s t b hs h1 hb;unfold cP at h ⊢;split at h
 . rename_i hq;rw[if_pos hq];refine en Tryz.func216 Tryz.ntmps216 ?_;exact wz Tryz.results216 (cj h<|trivial)
 . rename_i hq;rw[if_neg hq];refine en Tryz.func216 Tryz.ntmps216 ?_;exact wz Tryz.results216 (cj h<|trivial)
theorem AQX : ∀b:Fin 256,IJ (b.val:Int)=(decide (97<=XW .u8 (b.val:Int) 32) && decide (XW .u8 (b.val:Int) 32<=122)):=by decide +kernel
theorem ARH (s:ByteArray)(hs:s.size<=maxLen):AC AD 213 [.c (.str s)] (.c (.bool (Da IJ s))):=by
 unfold maxLen at hs;refine en Tryz.func213 Tryz.ntmps213 ?_;refine wy pq trivial ⟨?_⟩;refine lp (ι:={ k:Nat // k<=s.size/\Da IJ s=(s.data.toList.drop k).all fun b=>IJ b.toNat }) (fun k=>[(2,.c (.bool false)),(3,.c (.int .i64 (k.1:Int)))]) (fun _=>[]) (fun k=>s.size - k.1) ⟨0,by simp[Da]⟩ ?_ ?_;all_goals simp only[Br,Bl,B7,BC,Az]
 . refine Le.BV (by simp[A5])
 . rintro ⟨k,hk,hI⟩;simp only;by_cases hlt:k<s.size
   . obtain⟨b,hb,hb',hd,CA,h256⟩:=Yh hlt;rw[hd,Dr]at hI;have ho:=AQX ⟨b.toNat,h256⟩;simp only at ho;obtain⟨c,hc⟩:∃c:Int,(b.toNat:Int)=c:=⟨_,rfl⟩
     rw[hc]at hI ho;rw[ho]at hI;obtain⟨d,hdd⟩:=AE (XW .u8 c 32);rw[hdd]at hI;clear ho;by_cases h:97<=d/\d<=122
     . rw[decide_eq_true h.1,decide_eq_true h.2,B5,B5]at hI;refine wy (cj @hlt<|cj @CA<|cj @hb<|cj @hb'<|cj @hc<|cj @hdd<|cj (h.1)<|cj (h.2)<|pq) trivial ⟨?_⟩;exact⟨⟨k+1,by omega,hI⟩,by simp only;omega,wd 0⟩
     . have hI':Da IJ s=false:=by
        rw[hI];by_cases h97:97<=d
        . rw[decide_eq_false (fun e=>h ⟨h97,e⟩),PZ,C2]
        . rw[decide_eq_false h97,C2,C2]
       clear hI;exact wz (cj @hlt<|cj @CA<|cj @hb<|cj @hb'<|cj @hc<|cj @hdd<|pq) trivial
   . rw[cI hlt]at hI;have CA : ¬(k:Int)<(s.size:Int):=by omega
     exact wz (cj @hlt<|cj @CA<|pq) trivial
theorem AT3 (s:ByteArray):decide (s=⟨#[]⟩)=decide (s.size=0):=by
 rw[decide_eq_decide];exact⟨fun h=>by rw[h];rfl,fun h=>by
  cases s with
  | mk d=>congr 1;exact Array.eq_empty_of_size_eq_zero h⟩
theorem vS (s:ByteArray)(hs:s.size<=maxLen):AC AD 217 [.c (.str s)] (.c (.bool (Si s))):=by
 have h0:=AT3 s;unfold maxLen at hs;unfold Si;rw[<-h0];refine en Tryz.func217 Tryz.ntmps217 ?_;refine wy pr trivial ⟨?_⟩;refine lp (ι:={ k:Nat // k<=s.size/\Da J4 s=(s.data.toList.drop k).all fun b=>J4 b.toNat }) (fun k=>[(2,.c (.bool false)),(3,.c (.int .i64 (k.1:Int)))]) (fun _=>[]) (fun k=>s.size - k.1) ⟨0,by simp[Da]⟩ ?_ ?_;all_goals simp only[Br,Bl,B7,BC,Az]
 . refine Le.BV (by simp[A5])
 . rintro ⟨k,hk,hI⟩;simp only;by_cases hlt:k<s.size
   . obtain⟨b,hb,hb',hd,CA,_⟩:=Yh hlt;rw[hd,Dr]at hI;obtain⟨c,hc⟩:∃c:Int,(b.toNat:Int)=c:=⟨_,rfl⟩
     rw[hc]at hI;cases e:J4 c with
     | true =>
       rw[e,B5]at hI;simp[J4]at e;refine wy (cj @hlt<|cj @CA<|cj @hb<|cj @hb'<|cj @hc<|cj (e.1)<|cj (e.2)<|pr) trivial ⟨?_⟩;exact⟨⟨k+1,by omega,hI⟩,by simp only;omega,wd 0⟩
     | false =>
       rw[e,C2]at hI;simp[J4]at e;exact wz (cj @hlt<|cj @CA<|cj @hb<|cj @hb'<|cj @hc<|pr) trivial
   . rw[cI hlt,Kc]at hI;rw[hI,B5];have CA : ¬(k:Int)<(s.size:Int):=by omega
     exact wz (cj @hlt<|cj @CA<|pr) trivial
theorem ARk (s:ByteArray)(hs:s.size<=maxLen):AC AD 151 [.c (.str s)] (.c (.bool (decide (s.size<=200) && Da MY s))):=by
 unfold maxLen at hs;refine en Tryz.func151 Tryz.ntmps151 ?_;refine wy pe trivial ⟨?_⟩;refine lp (ι:={ k:Nat // k<=s.size/\Da MY s=(s.data.toList.drop k).all fun b=>MY b.toNat }) (fun k=>[(2,.c (.bool false)),(3,.c (.int .i64 (k.1:Int)))]) (fun _=>[]) (fun k=>s.size - k.1) ⟨0,by simp[Da]⟩ ?_ ?_;all_goals simp only[Br,Bl,B7,BC,Az]
 . refine Le.BV (by simp[A5])
 . rintro ⟨k,hk,hI⟩;simp only;by_cases hlt:k<s.size
   . obtain⟨b,hb,hb',hd,CA,_⟩:=Yh hlt;rw[hd,Dr]at hI;obtain⟨c,hc⟩:∃c:Int,(b.toNat:Int)=c:=⟨_,rfl⟩
     rw[hc]at hI;cases e:MY c with
     | true =>
       rw[e,B5]at hI;simp[MY]at e;refine wy (cj @hlt<|cj @CA<|cj @hb<|cj @hb'<|cj @hc<|cj (e.1)<|cj (e.2)<|pe) trivial ⟨?_⟩;exact⟨⟨k+1,by omega,hI⟩,by simp only;omega,wd 0⟩
     | false =>
       rw[e,C2]at hI;simp[MY]at e;rw[hI,PZ];exact wz (cj @hlt<|cj @CA<|cj @hb<|cj @hb'<|cj @hc<|pe) trivial
   . rw[cI hlt,Kc]at hI;rw[hI,Bool.and_true];have CA : ¬(k:Int)<(s.size:Int):=by omega
     have e:((s.size:Int)<=200)=(s.size<=200):=by rw[eq_iff_iff];omega
     exact wz (cj @hlt<|cj @CA<|cj @e<|pe) trivial
theorem AEW (s:ByteArray):AC AD 152 [.c (.str s)] (.c (.bool (Hw JY s))):=by
 have e:Hw JY s=(decide (s=⟨#[104,97,116]⟩) || (decide (s=⟨#[98,97,114]⟩) || (decide (s=⟨#[118,101,99]⟩) || (decide (s=⟨#[100,111,116]⟩) || (decide (s=⟨#[116,105,108,100,101]⟩) || decide (s=⟨#[99,104,101,99,107]⟩)))))):=by
  simp only[Hw,JY,Z5,gj,gX,@eq_comm _ _ s]
 rw[e];refine en Tryz.func152 Tryz.ntmps152 ?_;exact wz Tryz.results152 trivial
theorem ARA (s:ByteArray):AC AD 215 [.c (.str s)] (.c (.bool (Hw TO s))):=by
 have e:Hw TO s=(decide (s=⟨#[102,114,97,99]⟩) || (decide (s=⟨#[114,111,111,116]⟩) || (decide (s=⟨#[109,97,116,114,105,120]⟩) || decide (s=⟨#[102,101,110,99,101]⟩)))):=by
  simp only[Hw,TO,Z5,gj,gX,@eq_comm _ _ s]
 rw[e];refine en Tryz.func215 Tryz.ntmps215 ?_;exact wz Tryz.results215 trivial
theorem AQw (s:ByteArray):AC AD 148 [.c (.str s)] (.c (.bool (decide (s=⟨#[]⟩)))):=by
 refine en Tryz.func148 Tryz.ntmps148 ?_;exact wz Tryz.results148 trivial
theorem ZR {Q:Nd->Prop}(h : ∀b:Nd,(∀k∈b.kids,Q k)->Q b):∀b:Nd,Q b:=by
 have : ∀(n:Nat) (b:Nd),SizeOf.sizeOf b<n->Q b:=by
  intro n;induction n with
  | zero=>intro b hb;omega
  | succ n ih =>
    intro b hb;refine h b fun k hk=>ih k ?_
    have:=List.sizeOf_lt_of_mem hk;cases b;simp only[Nd.mk.sizeOf_spec]at hb this;omega
 exact fun b=>this _ b (Nat.lt_succ_self _)
theorem ASk : ∀b:Nd,∀m:Int,b.Bc->0<=m->m<=100000->AC AD 58 [At b,.c (.int .i64 m)] (.c (.int .i64 (b.O6 m))):=ZR fun b ih m Au hm Ew=>by
 obtain⟨_,hlen,Ov⟩:=K7 b Au;have hl:=G0 b.kids;have hA:b.O6 m=Nd.M9 b.kids (m - 1):=by cases b;rfl
 obtain⟨R,hR⟩:=AE (Nd.M9 b.kids (m - 1));rw[hA,hR];obtain⟨rs,Ak⟩:=AE (Nd.rows b.kids);rw[Ak]at hl;unfold At;unfold maxLen at hlen;refine en Tryz.func58 Tryz.ntmps58 ?_;refine wy (cj @Ak<|cj @hl<|qB) trivial ⟨?_⟩;refine lp (ι:={ k:Nat×Int // k.1<=b.kids.length/\ -1<=k.2/\k.2<=100000/\R=Nd.M9 (b.kids.drop k.1) k.2 }) (fun k=>[(1,.c (.int .i64 k.1.2)),(4,.c (.int .i64 0)),(5,.c (.int .i64 (k.1.1:Int)))]) (fun _=>[.box 33 b.vs false]) (fun k=>b.kids.length - k.1.1) ⟨(0,m - 1),by simp,by simp only;omega,by simp only;omega,by simp[hR]⟩ ?_ ?_;all_goals simp only[Br,Bl,B7,BC,Az]
 . refine Le.BV (by simp[A5])
 . rintro ⟨⟨k,n⟩,hk,n1,n2,hI⟩;simp only at hk n1 n2 hI ⊢;by_cases hlt:k<b.kids.length
   . obtain⟨c,hcc⟩:∃c,b.kids[k]?=some c:=⟨_,BP hlt⟩
     have BN:rs[k]?=some c.row:=by rw[<-Ak];exact N1 hcc
     have CW:k<rs.length:=by omega
     have CH:=gx BN;rw[Cz hlt,gx hcc]at hI;simp only[Nd.M9]at hI;by_cases h0:0<=n
     . rw[if_pos h0]at hI;have Mz:=ih c (C6 hcc) n (N0 Ov c (C6 hcc)) h0 n2;have MC:=uo c n h0;unfold At at Mz;refine wy (cj @Ak<|cj @hl<|cj @hlt<|cj @CW<|cj @BN<|cj @CH<|cj @h0<|qB) (cj Mz<|trivial) ⟨?_⟩;exact⟨⟨(k+1,c.O6 n),by simp only;omega,by simp only;omega,by simp only;omega,hI⟩,by simp only;omega,wd 1⟩
     . rw[if_neg h0]at hI;exact wz (cj @Ak<|cj @hl<|cj @hlt<|cj @CW<|cj @h0<|qB) trivial
   . rw[C5 (by omega)]at hI;simp only[Nd.M9]at hI;exact wz (cj @Ak<|cj @hl<|cj @hlt<|qB) trivial
theorem ASa (b:Nd)(m:Int)(Au:b.Bc)(hm:0<=m)(Ew:m<=100000):AC AD 27 [At b,.c (.int .i64 m)] (.c (.bool (decide ((b.cnt:Int)<=m)))):=by
 have h:=ASk b m Au hm Ew;rw[<-APU b m hm];unfold At at h ⊢;refine en Tryz.func27 Tryz.ntmps27 ?_;exact wz Tryz.results27 (cj h<|trivial)
def EV (l:List Nd):Nd:=⟨1,⟨#[]⟩,0,l⟩
end Go.Proofs.YtpodcjcajanldaaGreat
