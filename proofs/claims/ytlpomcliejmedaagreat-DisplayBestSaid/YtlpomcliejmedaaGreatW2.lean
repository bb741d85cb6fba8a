/- Part of the proof of displayBest.proved. Conditions: none. -/
import Derived.Scope
import Derived.Test.YtlpomcliejmedaaGreatW1
set_option linter.unusedVariables false
set_option linter.unusedSimpArgs false
set_option maxRecDepth 100000
set_option maxHeartbeats 16000000
open Go.Proofs.Tryz renaming prog→AF
open Option.some renaming injEq→BL
open Prod.mk renaming injEq→Cr
open Go.IntKind renaming i64→AZ,u8→uL,i32→uK
open Go.Lit renaming wf→So
open Bool renaming and_eq_true→Ak,false_eq_true→GW
open List renaming getElem?_take→KO,all_eq_true→ES,mem_of_getElem?→Cj,ext_getElem?→Vc,getElem?_set→RD,getElem?_eq_some_iff→Br,getElem?_append_left→EJ,getElem?_append_right→Gy,mem_append_right→AMm,getElem?_cons_zero→LX,mem_cons→Cf,getD_eq_getElem?_getD→Bv,range→E6,mem_range→KP,getElem?_eq_none→M6,getElem?_eq_getElem→BE,countP_eq_zero→fx,getElem?_map→CM,nil_append→BU,length_take→Fa,length_drop→Ns,flatten_cons→Hp,take_add→uX,length_cons→BA,take_left'→fZ,drop_left'→tn,take_append_drop→aL,cons_append→BK,length_append→Cp,getElem?_toArray→mV,append_assoc→GX,length_nil→BO,flatten_append→Vd,flatten_nil→RC,append_nil→E5,map_nil→BB,map_cons→Ap,replicate→Aq
open Nat renaming lt_of_lt_of_le→H7,le_trans→Ps,le_refl→BN,lt_or_ge→MK,lt_trichotomy→aN,not_lt_zero→UE,add_mul→Gz,zero_add→Cz,mul_le_mul_right→Vj,add_sub_cancel→aM,one_mul→gE
open Iff renaming rfl→RA
open Go.Region renaming wanted→FB,ready→mr
open Go.Oper renaming looksAt→Gm,wp→Er,apart_spec→AC9,upon→Nt,uponIn→ue
open Array renaming getD_eq_getD_getElem?→Kl,toList_inj→Gx,replicate→M4,length_toList→FW,getElem?_eq_some_iff→DO
open Option renaming getD_some→Dm,map_eq_some_iff→Ia,map_some→Nu
open Go.Op renaming operands→Bl
open Go.Call renaming operands→Df
open Go.Deferred renaming ofValue→M5
open Classical renaming byContradiction→Kn
open Go.World renaming cell?_of_block→RK
open Go.Fence renaming wide→Cg
open Go.Value renaming func→ADc
namespace Go.Proofs.YtlpomcliejmedaaGreat
open Go.RowKit Tryz
variable {e:Operand->V}{o:Oper}{s:St}{r:List Oper}{res:V}{fn:Func}{b:Bool}{l:List Oper}{m:Mo}{S0:BF}{w0:Bs}{x:Cx}{w:World}{ty:TypeId}{cs:List V}{P:Program}{K:Exit->St->Prop}{ι:Type}{Z:List PanicEntry->Prop}{ops:List Oper}{a:Act}{args:List V}{Q:Exit->Act->World->Prop}{Bd:List V}{S:BF}{Fk:Array TypeId}(k:Nat)
@[simp] theorem ALi : B6 AF 3=some (false,1) :=by kernel_rfl
@[simp] theorem tN : B6 AF 27=some (true,22) :=by kernel_rfl
@[simp] theorem ALh : B6 AF 28=some (false,1) :=by kernel_rfl
@[simp] theorem AB8 : B6 AF 33=some (true,4) :=by kernel_rfl
@[simp] theorem lX : Dk AF 38=some (41,11,128) :=by kernel_rfl
@[simp] theorem ALj : B6 AF 39=some (false,1) :=by kernel_rfl
@[simp] theorem AZy : Dk AF 39=some (3,1,8) :=by kernel_rfl
@[simp] theorem tO : B6 AF 41=some (true,11) :=by kernel_rfl
@[simp] theorem ALk : B6 AF 42=some (false,1) :=by kernel_rfl
@[simp] theorem AZz : KJ AF 59=true :=by kernel_rfl
@[simp] theorem lY : Dk AF 59=some (105,3,24) :=by kernel_rfl
@[simp] theorem ALl : B6 AF 63=some (true,2) :=by kernel_rfl
@[simp] theorem AZv : B6 AF 102=some (true,3) :=by kernel_rfl
@[simp] theorem AZ1 : C2 AF 102=some [.c (.int .i64 0),.c (.int .i64 0),.c (.int .i64 0)] :=by kernel_rfl
@[simp] theorem ALm : Bp AF 105 0=some (0,1,false) :=by kernel_rfl
@[simp] theorem tyG0 : C2 AF 3=some [.c (.int .i64 0)]/\B6 AF 4=some (false,1)/\C2 AF 4=some [.c (.bool false)]/\lU AF 4=true/\B6 AF 5=some (false,1)/\B6 AF 9=some (false,1)/\C2 AF 9=some [.c (.str ⟨#[]⟩)]/\fL AF 9=true/\B6 AF 12=some (false,1)/\B6 AF 13=some (true,2)/\B6 AF 14=some (true,2)/\B6 AF 20=some (false,1)/\B6 AF 22=some (false,1)/\KJ AF 22=true/\Dk AF 22=some (70,6,56)/\B6 AF 23=some (false,1)/\KJ AF 23=true/\Dk AF 23=some (117,4,72)/\B6 AF 25=some (true,20)/\C2 AF 25=some [.c (.int .i64 0),.c (.int .i64 0),.c (.int .i64 0),.c (.int .i64 0),.c (.int .i64 0),.c (.int .i64 0),.c (.int .i64 0),.c (.int .i64 0),.c (.int .i64 0),.c (.int .i64 0),.c (.int .i64 0),.c (.int .i64 0),.c (.int .i64 0),.c (.int .i64 0),.c (.int .i64 0),.c (.int .i64 0),.c (.int .i64 0),.c (.int .i64 0),.c (.int .i64 0),.c (.int .i64 0)]/\(Fj AF 25=some λi=>([(0,1),(1,1),(2,1),(3,1),(4,1),(5,1),(6,1),(7,1),(8,1),(9,1),(10,1),(11,1),(12,1),(13,1),(14,1),(15,1),(16,1),(17,1),(18,1),(19,1)]:List (Nat×Nat))[i]?)/\Bp AF 25 0=some (0,1,false)/\Bp AF 25 1=some (1,1,false)/\Bp AF 25 2=some (2,1,false)/\Bp AF 25 3=some (3,1,false)/\Bp AF 25 4=some (4,1,false)/\Bp AF 25 5=some (5,1,false)/\Bp AF 25 6=some (6,1,false)/\Bp AF 25 7=some (7,1,false)/\Bp AF 25 8=some (8,1,false)/\Bp AF 25 9=some (9,1,false)/\Bp AF 25 10=some (10,1,false)/\Bp AF 25 11=some (11,1,false)/\Bp AF 25 12=some (12,1,false)/\Bp AF 25 13=some (13,1,false)/\Bp AF 25 14=some (14,1,false)/\Bp AF 25 15=some (15,1,false)/\Bp AF 25 16=some (16,1,false)/\Bp AF 25 17=some (17,1,false)/\Bp AF 25 18=some (18,1,false):=by and_intros<;>kernel_rfl
@[simp] theorem tyG1 : Bp AF 25 19=some (19,1,false)/\C2 AF 27=some [.Bg [],.Bg [],.c (.int .i64 0),.c (.int .i64 0),.c (.int .i64 0),.c (.int .i64 0),.c (.int .i64 0),.c (.int .i64 0),.c (.int .i64 0),.c (.int .i64 0),.c (.int .i64 0),.c (.int .i64 0),.c (.int .i64 0),.c (.int .i64 0),.c (.int .i64 0),.c (.int .i64 0),.c (.int .i64 0),.c (.int .i64 0),.c (.int .i64 0),.c (.int .i64 0),.c (.int .i64 0),.c (.int .i64 0)]/\(Fj AF 27=some λi=>([(0,1),(1,1),(2,20)]:List (Nat×Nat))[i]?)/\Bp AF 27 0=some (0,1,false)/\Bp AF 27 1=some (1,1,false)/\Bp AF 27 2=some (2,20,true)/\KJ AF 28=true/\Dk AF 28=some (156,4,32)/\B6 AF 29=some (true,23)/\B6 AF 30=some (true,23)/\Bp AF 30 0=some (0,22,true)/\Bp AF 30 1=some (22,1,false)/\B6 AF 31=some (false,1)/\C2 AF 31=some [.Bg []]/\KJ AF 31=true/\Dk AF 31=some (33,4,56)/\C2 AF 33=some [.c (.int .i64 0),.c (.str ⟨#[]⟩),.c (.int .i64 0),.Bg []]/\(Fj AF 33=some λi=>([(0,1),(1,1),(2,1),(3,1)]:List (Nat×Nat))[i]?)/\Bp AF 33 0=some (0,1,false)/\Bp AF 33 1=some (1,1,false)/\Bp AF 33 2=some (2,1,false)/\Bp AF 33 3=some (3,1,false)/\B6 AF 35=some (true,2)/\Bp AF 35 0=some (0,1,false)/\Bp AF 35 1=some (1,1,false)/\B6 AF 36=some (false,1)/\B6 AF 37=some (false,1)/\B6 AF 38=some (false,1)/\C2 AF 38=some [.Bg []]/\KJ AF 38=true/\C2 AF 39=some [.Bg []]/\KJ AF 39=true/\C2 AF 41=some [.c (.int .i64 0),.c (.str ⟨#[]⟩),.c (.int .i64 0),.c (.int .i64 0),.c (.int .i64 0),.c (.int .i64 0),.c (.int .i64 0),.c (.int .i64 0),.Bg [],.c (.int .i64 0),.Bg []]/\(Fj AF 41=some λi=>([(0,1),(1,1),(2,1),(3,1),(4,1),(5,1),(6,1),(7,1),(8,1),(9,1),(10,1)]:List (Nat×Nat))[i]?)/\Bp AF 41 0=some (0,1,false)/\Bp AF 41 1=some (1,1,false)/\Bp AF 41 2=some (2,1,false)/\Bp AF 41 3=some (3,1,false)/\Bp AF 41 4=some (4,1,false)/\Bp AF 41 5=some (5,1,false):=by and_intros<;>kernel_rfl
@[simp] theorem tyG2 : Bp AF 41 6=some (6,1,false)/\Bp AF 41 7=some (7,1,false)/\Bp AF 41 8=some (8,1,false)/\Bp AF 41 9=some (9,1,false)/\Bp AF 41 10=some (10,1,false)/\C2 AF 42=some [.c (.int .i64 0)]/\B6 AF 45=some (false,1)/\B6 AF 46=some (false,1)/\B6 AF 48=some (false,1)/\C2 AF 48=some [.Bg []]/\KJ AF 48=true/\Dk AF 48=some (57,3,40)/\B6 AF 57=some (true,3)/\C2 AF 57=some [.Bg [],.c (.int .i64 0),.c (.int .i64 0)]/\(Fj AF 57=some λi=>([(0,1),(1,1),(2,1)]:List (Nat×Nat))[i]?)/\Bp AF 57 0=some (0,1,false)/\Bp AF 57 1=some (1,1,false)/\Bp AF 57 2=some (2,1,false)/\B6 AF 59=some (false,1)/\C2 AF 59=some [.Bg []]/\C2 AF 63=some [.c (.int .i64 0),.c (.bool false)]/\(Fj AF 63=some λi=>([(0,1),(1,1)]:List (Nat×Nat))[i]?)/\Bp AF 63 0=some (0,1,false)/\Bp AF 63 1=some (1,1,false)/\B6 AF 68=some (false,1)/\B6 AF 70=some (true,6)/\C2 AF 70=some [.c (.str ⟨#[]⟩),.c (.int .i64 0),.c (.int .i64 0),.c (.int .i64 0),.c (.int .i64 0),.c (.int .i64 0)]/\(Fj AF 70=some λi=>([(0,1),(1,1),(2,1),(3,1),(4,1),(5,1)]:List (Nat×Nat))[i]?)/\Bp AF 70 0=some (0,1,false)/\Bp AF 70 1=some (1,1,false)/\Bp AF 70 2=some (2,1,false)/\Bp AF 70 3=some (3,1,false)/\Bp AF 70 4=some (4,1,false)/\Bp AF 70 5=some (5,1,false)/\B6 AF 75=some (false,1)/\B6 AF 76=some (false,1)/\B6 AF 77=some (false,1)/\C2 AF 86=some [.c (.int .i64 0),.c (.int .i64 0),.c (.int .i64 0),.c (.int .i64 0)]/\(Fj AF 86=some λi=>some (i * 1,1))/\Np AF 86=some (4,1,false):=by and_intros<;>kernel_rfl
@[simp] theorem tyG3 : (Fj AF 102=some λi=>([(0,1),(1,1),(2,1)]:List (Nat×Nat))[i]?)/\Bp AF 102 0=some (0,1,false)/\Bp AF 102 1=some (1,1,false)/\Bp AF 102 2=some (2,1,false)/\B6 AF 105=some (true,3)/\C2 AF 105=some [.c (.int .i64 0),.c (.int .i64 0),.c (.int .i64 0)]/\(Fj AF 105=some λi=>([(0,1),(1,1),(2,1)]:List (Nat×Nat))[i]?)/\Bp AF 105 1=some (1,1,false)/\Bp AF 105 2=some (2,1,false)/\B6 AF 109=some (true,3)/\C2 AF 109=some [.Bg [],.c (.int .i64 0),.c (.int .i64 0)]/\(Fj AF 109=some λi=>([(0,1),(1,1),(2,1)]:List (Nat×Nat))[i]?)/\Bp AF 109 0=some (0,1,false)/\Bp AF 109 1=some (1,1,false)/\Bp AF 109 2=some (2,1,false)/\B6 AF 114=some (false,1)/\KJ AF 114=true/\Dk AF 114=some (9,1,16)/\B6 AF 115=some (false,1)/\KJ AF 115=true/\Dk AF 115=some (205,2,24)/\B6 AF 117=some (true,4)/\C2 AF 117=some [.c (.str ⟨#[]⟩),.Bg [],.Bg [],.c (.int .i64 0)]/\(Fj AF 117=some λi=>([(0,1),(1,1),(2,1),(3,1)]:List (Nat×Nat))[i]?)/\Bp AF 117 0=some (0,1,false)/\Bp AF 117 1=some (1,1,false)/\Bp AF 117 2=some (2,1,false)/\Bp AF 117 3=some (3,1,false):=by and_intros<;>kernel_rfl
section
def Ka:Op->Bool
 | .call ⟨.value _,_,_⟩=>true
 | _=>false
def Qw (P:Program)(o:Oper)(s:St):Option St:=
 match (P2 P (ev s.t) o.op).ap (λk=>s.h[k]?) s.h.length with
 | some (v,t)=>some (s.step o.dst v t)
 | none=>none
def BQ (ops:List Oper)(t:List V):Option (Nat×Bool)->Option Bool
 | none=>some true
 | some (j,w)=>match (ops[j]?).bind (·.dst)with
   | some d=>match t.getD d .any with
     | .c (.bool b)=>some (b==w)
     | .A7 []=>some false
     | _=>none
   | none=>none
def VS (P:Program)(ops:List Oper):List Oper->St->Option (List Oper×St)
 | [],s=>some ([],s)
 | o::r,s=>match BQ ops s.t o.guard with
   | some true=>match Ka o.op with
     | false=>match Qw P o s with
       | some s'=>VS P ops r s'
       | none=>none
     | true=>some (o::r,s)
   | some false=>VS P ops r (s.put o.dst (.A7 []))
   | none=>none
variable {m:Mo} {P:Program} {K:St->Prop} {ops:List Oper}
theorem YC {op:Op}(h:Ka op=false):C7 e op=none:=by
 unfold Ka at h;split at h;cases h;rename_i B;unfold C7;split;rename_i f args Fk;exact absurd rfl (B f args Fk);rfl
theorem IF {t:List V}{K1 K2:Prop}(B:BQ ops t o.guard=some true)(h:K1):S9 ops t o K1 K2:=by
 unfold BQ at B;unfold S9;cases G:o.guard with
 | none=>exact h
 | some p =>
   obtain⟨j,w⟩:=p;rw[G]at B;simp only at B ⊢;cases E:(ops[j]?).bind (·.dst)with
   | none=>rw[E]at B;cases B
   | some d =>
     rw[E]at B;simp only at B ⊢;split at B;rename_i b F;rw[F];simp only[BL,beq_iff_eq]at B;subst B;exact⟨λ_=>h,λe=>absurd e (by cases b<;>simp)⟩;cases B;cases B
theorem X8 {t:List V}{K1 K2:Prop}(B:BQ ops t o.guard=some false)(h:K2):S9 ops t o K1 K2:=by
 unfold BQ at B;unfold S9;cases G:o.guard with
 | none=>rw[G]at B;cases B
 | some p =>
   obtain⟨j,w⟩:=p;rw[G]at B;simp only at B ⊢;cases F:(ops[j]?).bind (·.dst)with
   | none=>rw[F]at B;cases B
   | some d =>
     rw[F]at B;simp only at B ⊢;split at B;rename_i b E;rw[E];simp only[BL,beq_eq_false_iff_ne,ne_eq]at B;exact⟨λe=>absurd e B,λ_=>h⟩;rename_i E;rw[E];exact h;cases B
theorem If : ∀ {l F:List Oper} {s s':St},VS P ops l s=some (F,s')->Eg P ops K F s'->Eg P ops K l s
 | [],F,s,s',h,B=>by simp only[VS,BL,Cr]at h;obtain⟨rfl,rfl⟩:=h;exact B
 | o::r,F,s,s',h,B=>by
   unfold VS at h;split at h;rename_i I;split at h;rename_i J;split at h;rename_i M E;have ih:=If h B;unfold Qw at E;split at E;rename_i v t G;cases E;unfold Eg;refine IF I ?_;unfold RP;rw[YC J];simp only;rw[G];exact ih;cases E;cases h;simp only[BL,Cr]at h;obtain⟨rfl,rfl⟩:=h;exact B;rename_i I;unfold Eg;exact X8 I (If h B);cases h
theorem Kz (h:K s):Eg P ops K [] s:=h
theorem ANR {f:FuncId}{args Bd:List V}(B:AC P f Bd res)(G:BQ ops s.t o.guard=some true)(E:C7 (ev s.t) o.op=some (f,args))(J:V.CF args=some Bd)(F:P.funcs[f]?=some fn)(hb:fn.body.isSome=true)(I:(fn.name == "runtime.NumGoroutine")=false)(h:Eg P ops K r (s.step o.dst res none)):Eg P ops K (o::r) s:=by
 unfold Eg;refine IF G ?_;unfold RP;rw[E];simp only;exact⟨Bd,res,J,B,⟨fn,F,hb,by simpa using I⟩,h⟩
section
variable {n:St->Prop} {K:Exit->St->Prop} {s:St} {i id:Nat}
theorem G3 (h:n s):NH n K .normal s:=h
theorem S7 (h:K .ret s):NH n K .ret s:=h
theorem S6 (h:K (.exit i) s):NH n K (.exit i) s:=h
theorem MV (h:K .normal s):Sz id K .normal s:=h
theorem S4 (h:K .ret s):Sz id K .ret s:=h
theorem RN (h:K .normal s):Sz id K (.exit id) s:=by simp only[Sz,if_true];exact h
theorem S3 (B:(i==id)=false)(h:K (.exit i) s):Sz id K (.exit i) s:=by simp only[Sz];rw[if_neg (by simpa using B)];exact h
theorem xE {c:Operand}{d B:Code}(E:ev s.t c=.c (.bool true))(h:AW m P d K s):AW m P (.cond c d B) K s:=AW.cond (by rw[E];exact⟨λ_=>h,λe=>by cases e⟩)
theorem xD {c:Operand}{d B:Code}(E:ev s.t c=.c (.bool false))(h:AW m P B K s):AW m P (.cond c d B) K s:=AW.cond (by rw[E];exact⟨λe=>(by cases e),λ_=>h⟩)
end
theorem wrap_i64 {n:Int}(F : -9223372036854775808<=n)(G:n<=9223372036854775807):AZ.wrap n=n:=by
 have B:AZ.min= -9223372036854775808:=by decide +kernel
 have E:AZ.max=9223372036854775807:=by decide +kernel
 exact AMD (by simp[So,B,E,F,G])
theorem Ac {n : Int}(h1 : -9223372036854775808<=n :=by omega)(h2 : n<=9223372036854775807 :=by omega):IntKind.i64.wrap n=n:=wrap_i64 h1 h2
theorem AZ8 {n:Int}(F : -9223372036854775808<=n)(G:n<=9223372036854775807):v1 (.int .i64 n)=.c (.int .i64 n):=by
 have B:AZ.min= -9223372036854775808:=by decide +kernel
 have E:AZ.max=9223372036854775807:=by decide +kernel
 simp[v1,So,B,E,F,G]
theorem AaD {n:Int}(F:0<=n)(G:n<=255):v1 (.int .u8 n)=.c (.int .u8 n):=by
 have B:uL.min=0:=by decide +kernel
 have E:uL.max=255:=by decide +kernel
 simp[v1,So,B,E,F,G]
theorem AZ7 {n:Int}(F : -2147483648<=n)(G:n<=2147483647):v1 (.int .i32 n)=.c (.int .i32 n):=by
 have B:uK.min= -2147483648:=by decide +kernel
 have E:uK.max=2147483647:=by decide +kernel
 simp[v1,So,B,E,F,G]
theorem AZ6 :v1 (.bool b)=.c (.bool b):=rfl
theorem AaC {d:Array UInt8}(h:d.size<=1000):v1 (.string ⟨d⟩)=.c (.str ⟨d⟩):=by
 have:(ByteArray.mk d).size<=maxLen:=by show d.size<=maxLen;unfold maxLen;omega
 simp[v1,this]
theorem AaA:v1 (.pointer none)=.c .XF:=rfl
theorem AZ9:v1 .nilFunc=.c .Cv:=rfl
theorem AaB:v1 (.slice none 0 0)=.Bg []:=rfl
theorem AaF {l:List Value}:T5 (.agg l.toArray)=.agg (l.map v1):=rfl
theorem AaH {k:IntKind}{n:Int}:T5 (.int k n)=v1 (.int k n):=rfl
theorem AaG :T5 (.bool b)=.c (.bool b):=rfl
theorem AaL {d:ByteArray}:T5 (.string d)=v1 (.string d):=rfl
theorem AaJ:T5 (.pointer none)=.c .XF:=rfl
theorem AaI:T5 .nilFunc=.c .Cv:=rfl
theorem AaK:T5 (.slice none 0 0)=.Bg []:=rfl
end
def DG:List V->List V->Prop
 | [],t'=>t'=[]
 | v::t,v'::t'=>(v'=.any\/v=v')/\DG t t'
 | _::_,[]=>False
theorem tI {x:Cx}{w:World} : ∀ {t E:List V} {us:List Value},DG t E->AO x w t us->AO x w E us
 | [],E,us,h,B=>by simp only[DG]at h;subst h;exact B
 | v::t,[],us,h,_=>by simp[DG]at h
 | v::t,J::E,us,h,B=>by
   simp only[DG]at h;simp only[AO]at B ⊢;obtain⟨u,I,e,F,G⟩:=B;refine⟨u,I,e,?_,tI h.2 G⟩;rcases h.1 with rfl|rfl
   simp only[CV];exact F
theorem Le.weak {t E:List V}{h:List O}(hs:DG t E):Le m ⟨t,h⟩ ⟨E,h⟩:=λS0 w0 x a w F B=>⟨x,B.good,tI hs B.tm,B.df⟩
mutual
def V.A8 (n:Nat):V->Bool
 | .ptr k _=>decide (k<n)
 | .own k _ _ _=>decide (k<n)
 | .gr k _ _=>decide (k<n)
 | .agg l=>V.BI n l
 | .A7 l=>V.BI n l
 | .fn _ l=>V.BI n l
 | .any=>true
 | .c _=>true
 | .cp _ _=>true
 | .Bg _=>true
 | .Be k _ _=>decide (k<n)
 | .hp k _ _=>decide (k<n)
 | .yl _=>true
 | .mp k=>decide (k<n)
def V.BI (n:Nat):List V->Bool
 | []=>true
 | v::l=>v.A8 n && V.BI n l
end
def O.A8 (n:Nat):O->Bool
 | .box _ cs _=>V.BI n cs
 | .tok _ _ _=>true
 | .Be _ _ _ cs=>V.BI n cs
 | .mp _=>true
def Cx.cut (x:Cx)(n:Nat):Cx:={ x with dom:=λk=>x.dom k/\k<n }
mutual
theorem CV.cut {x:Cx}{w:World}{n:Nat} : ∀(v:V) (u:Value),v.A8 n=true->CV x w v u->CV (x.cut n) w v u
 | .ptr k E,u,B,h=>by simp only[V.A8,decide_eq_true_eq]at B;simp only[CV,Cx.cut]at h ⊢;exact⟨⟨h.1,B⟩,h.2⟩
 | .own k E len es,u,B,h=>by simp only[V.A8,decide_eq_true_eq]at B;simp only[CV,Cx.cut]at h ⊢;exact⟨⟨h.1,B⟩,h.2⟩
 | .gr k es F,u,B,h=>by simp only[V.A8,decide_eq_true_eq]at B;simp only[CV,Cx.cut]at h ⊢;exact⟨⟨h.1,B⟩,h.2⟩
 | .agg l,u,B,h=>by simp only[V.A8]at B;simp only[CV]at h ⊢;obtain⟨vs,e,h⟩:=h;exact⟨vs,e,AO.cut l _ B h⟩
 | .A7 l,u,B,h=>by simp only[V.A8]at B;simp only[CV]at h ⊢;obtain⟨vs,e,h⟩:=h;exact⟨vs,e,AO.cut l _ B h⟩
 | .fn f l,u,B,h=>by simp only[V.A8]at B;simp only[CV]at h ⊢;obtain⟨vs,e,h⟩:=h;exact⟨vs,e,AO.cut l _ B h⟩
 | .any,u,_,h=>by simp only[CV]
 | .c _,u,_,h=>by simpa only[CV,Cx.cut]using h
 | .cp _ _,u,_,h=>by simpa only[CV,Cx.cut]using h
 | .Bg _,u,_,h=>by simpa only[CV,Cx.cut]using h
 | .Be k es F,u,B,h=>by simp only[V.A8,decide_eq_true_eq]at B;simp only[CV,Cx.cut]at h ⊢;exact⟨⟨h.1,B⟩,h.2⟩
 | .hp k m pos,u,B,h=>by simp only[V.A8,decide_eq_true_eq]at B;simp only[CV,Cx.cut]at h ⊢;exact⟨⟨h.1,B⟩,h.2⟩
 | .yl l,u,_,h=>by simpa only[CV]using h
 | .mp k,u,B,h=>by simp only[V.A8,decide_eq_true_eq]at B;simp only[CV,Cx.cut]at h ⊢;exact⟨⟨h.1,B⟩,h.2⟩
theorem AO.cut {x:Cx}{w:World}{n:Nat} : ∀(l:List V) (us:List Value),V.BI n l=true->AO x w l us->AO (x.cut n) w l us
 | [],us,_,h=>by simpa only[AO]using h
 | v::l,us,B,h=>by
   simp only[V.BI,Ak]at B;simp only[AO]at h ⊢;obtain⟨u,E,e,F,G⟩:=h;exact⟨u,E,e,CV.cut v u B.1 F,AO.cut l E B.2 G⟩
end
theorem Le.drop {t:List V}{h q:List O}(n:Nat)(hn:m.n0<=n)(hh:h.take n=q)(hb:V.BI n t=true)(ho:(q.all (O.A8 n))=true):Le m ⟨t,h⟩ ⟨t,q⟩:=λS0 w0 x a w hm hA=>by
 subst hh;have E : ∀k o,(h.take n)[k]?=some o->h[k]?=some o/\k<n:=by
  intro k o B;rw[KO]at B;split at B;exact⟨B,by assumption⟩;cases B
 have g:=hA.good;refine⟨x.cut n,⟨λk o B=>?_,λk B=>?_,λk k' o o' z h2=>g.inj k k' o o' (E k o z).1 (E k' o' h2).1,λk o j B hx=>g.EA k o j (E k o B).1 (by cases o<;>exact hx),g.ex,λk o B=>g.own k o (E k o B).1,g.new,g.sub,g.keep,g.ext.ar,λk B=>⟨g.ext.dom k B,H7 (w0.dl k B) (Ps hm hn)⟩,g.ext.loc⟩,AO.cut t _ hb hA.tm,hA.df⟩;obtain⟨z,h2⟩:=E k o B;obtain⟨h3,F⟩:=g.ok k o z;refine⟨⟨h3,h2⟩,?_⟩;cases o with
 | box ty cs fr=>obtain⟨G,I,vs,J,M,U⟩:=F;rw[ES]at ho;exact⟨G,I,vs,J,M,AO.cut cs _ (ho _ (Cj B)) U⟩
 | tok ty es W=>exact F
 | mp R=>exact F
 | Be ty es W cs=>obtain⟨G,I,J,M,U,vs,a6,a7,a8,a9⟩:=F;rw[ES]at ho;exact⟨G,I,J,M,U,vs,a6,a7,a8,AO.cut cs _ (ho _ (Cj B)) a9⟩
 obtain⟨o,Hz⟩:=g.dom k B.1;refine⟨o,?_⟩;rw[KO,if_pos B.2];exact Hz
theorem ALa {h:List O}(g:Good S0 w0 x w (λk=>h[k]?))(Ae:TypeId)(es:Nat):
 Good S0 w0 (x.grow h.length ⟨0,0,true,0,true⟩ 0) w (λk=>(h++[O.tok Ae es 0])[k]?)/\Ext x (x.grow h.length ⟨0,0,true,0,true⟩ 0) w w:=by
 have I : ¬x.dom h.length:=λG=>by obtain⟨o,J⟩:=g.dom _ G;simp at J
 have E:Ext x (x.grow h.length ⟨0,0,true,0,true⟩ 0) w w:=⟨⟨λ_ _ h=>.inl h,λ_ _ _ _ h=>h⟩,λ_ h=>.inl h,λi B=>by
  have:i≠h.length:=λe=>I (e ▸ B)
  simp[Cx.grow,this,FM.refl]⟩
 have F:=g.H5 h.length (.tok Ae es 0) E (.FR (Ay.refl w)) (λi=>RA) (λi B=>by simp[Cx.grow,B]) (λh=>by simp[Cx.grow]at h) ⟨by simp[Cx.grow],by simp[Cx.grow],λh=>by simp[Cx.grow]at h⟩ (λb j h=>h.elim .inl λh=>by omega) (λj M=>by have:=M.1;simp[Cx.grow]at this);refine⟨?_,E⟩;have e:=Kj h (some (h.length,O.tok Ae es 0)) (λk o e=>by cases e;exact BN _);simp only[Bk,Nat.lt_irrefl,if_false,Bx.upd]at e;rw[e];exact F
theorem AF1 {k es:Nat}{u:Value}(h:CV x w (.Bg []) u):CV (x.grow k ⟨0,0,true,0,true⟩ 0) w (.gr k es []) u:=by
 simp only[CV]at h ⊢;obtain⟨A,e,h⟩:=h;refine⟨.inr rfl,by simp[Cx.grow],Ab.mono ⟨λ_ _ h=>.inl h,λ_ _ _ _ h=>h⟩ _ _ h,by simp,by simp,λ_=>?_⟩;simp only[Cx.grow,if_true];exact⟨A,e⟩
theorem Le.tL {t:List V}{h:List O}(i:Nat)(Ae:TypeId)(es:Nat)(J:t[i]?=some (.Bg [])):Le m ⟨t,h⟩ ⟨t.set i (.gr h.length es []),h++[.tok Ae es 0]⟩:=λS0 w0 x a w R B=>by
 obtain⟨F,I⟩:=ALa B.good Ae es;obtain⟨u,E,G⟩:=B.tm.get i _ J;refine⟨_,F,?_,B.df⟩;have:=(AO.mono I _ _ B.tm).set i (AF1 (k:=h.length) (es:=es) G);have e:a.tmps.toList.set i u=a.tmps.toList:=by
  apply Vc;intro j;rw[RD];by_cases e:i=j;subst e;have M:=(Br.1 E).1;simp only[if_true,M];exact E.symm;simp[e]
 rwa [e]at this
theorem Le.T4 {t:List V}{h:List O}(k i:Nat)(Ae:TypeId)(es:Nat)(M:h[k]?=some (.box ty cs false))(hi:cs[i]?=some (.Bg [])):Le m ⟨t,h⟩ ⟨t,(h.set k (.box ty (cs.set i (.gr h.length es [])) false))++[.tok Ae es 0]⟩:=λS0 w0 x a w hm I=>by
 obtain⟨J,he⟩:=ALa I.good Ae es;have E:k<h.length:=(Br.1 M).1;have R:(h++[O.tok Ae es 0])[k]?=some (.box ty cs false):=by rw[EJ E];exact M
 obtain⟨hd,b1,W,vs,q,b4,b5⟩:=J.ok k _ R;obtain⟨u,hu,hc⟩:=b5.get i _ hi;obtain⟨_,_,_,Dl,z,c4,c5⟩:=I.good.ok k _ M;have B:(x.grow h.length ⟨0,0,true,0,true⟩ 0).loc k=x.loc k:=by simp[Cx.grow,Nat.ne_of_lt E]
 rw[B,z]at q;cases q;obtain⟨u0,U,cX⟩:=c5.get i _ hi;have G:=(AO.mono he _ _ c5).set i (AF1 (k:=h.length) (es:=es) cX);have e:vs.toList.set i u0=vs.toList:=by
  apply Vc;intro j;rw[RD];by_cases e:i=j;subst e;have F:=(Br.1 U).1;simp only[if_true,F];exact U.symm;simp[e]
 rw[e]at G;have hH:(λj=>((h.set k (.box ty (cs.set i (.gr h.length es [])) false))++[O.tok Ae es 0])[j]?)=Bx.set (λj=>(h++[O.tok Ae es 0])[j]?) k (.box ty (cs.set i (.gr h.length es [])) false):=by
  funext j;simp only[Bx.set];by_cases e:j=k;subst e;rw[EJ (by simpa using E)];simp[E];simp only[e,if_false];rcases MK j h.length with F|F
  rw[EJ (by simpa using F),EJ F,RD];have e' : ¬k=j:=λh=>e h.symm
  rw[if_neg e'];rw[Gy (by simpa using F),Gy F];simp
 refine⟨x.grow h.length ⟨0,0,true,0,true⟩ 0,?_,AO.mono he _ _ I.tm,I.df⟩;rw[hH];refine J.H5 k _ (Ext.refl _ _) (.FR (Ay.refl w)) (λi=>⟨.inl,λh=>h.elim id (λe=>e ▸ hd)⟩) (λ_ _=>rfl) (λ_=>.inl ⟨hd,W,rfl⟩) ?_ (λb j h=>.inl h) (λj hx=>J.EA k _ j R hx);exact⟨b1,W,vs,by rw[B];exact z,by rw[B];exact c4,G⟩
def jb (l:List Nat)(t:List V):List V:=l.foldl (λt i=>t.set i .any) t
def puts (l:List (Nat×V))(t:List V):List V:=l.foldl (λt p=>t.set p.1 p.2) t
def lq:List Oper->List Nat
 | []=>[]
 | o::r=>match o.dst with
   | some d=>d::lq r
   | none=>lq r
def wr:Code->List Nat
 | .region _ ops _=>lq ops.toList
 | .seq c d=>wr c++wr d
 | .cond _ c d=>wr c++wr d
 | .block _ c=>wr c
 | .loop c=>wr c
 | .scope c=>wr c
 | .rangeFunc _ ps c d=>ps.toList++(wr c++wr d)
 | _=>[]
theorem AW.AUO {c:Code}{t:List V}{h:List O}(f:ι->List (Nat×V))(B:ι->List O)(F:ι->Nat)(E:ι)(ws:List Nat)(M:wr c=ws)(t0:List V)(J:jb ws t=t0)(G:Le m ⟨t,h⟩ ⟨puts (f E) t0,B E⟩)(I : ∀i,AW m P c (NH (λs'=>∃j,F j<F i/\Le m s' ⟨puts (f j) t0,B j⟩) K) ⟨puts (f i) t0,B i⟩):AW m P (.loop c) K ⟨t,h⟩:=
 AW.loop (λi=>⟨puts (f i) t0,B i⟩) F E G I
section
structure Ef where
 v:V
 t:Option (Nat×O)
 rk:Option Nat
def Pl.key:Pl->Option Nat
 | .rd k _=>some k
 | .wr k _=>some k
 | _=>none
def iN (P:Program)(o:Oper)(s:St)(K:Ef->Prop):Prop:=
 match C7 (ev s.t) o.op with
 | some (f,args)=>iE P f args λv=>K ⟨v,none,none⟩
 | none=>match (P2 P (ev s.t) o.op).ap (λk=>s.h[k]?) s.h.length with
   | some (v,t)=>K ⟨v,t,(P2 P (ev s.t) o.op).key⟩
   | none=>False
def Ie (P:Program)(ops:List Oper)(K:List Ef->St->Prop):List Oper->List Ef->St->Prop
 | [],acc,s=>K acc s
 | o::r,acc,s=>S9 ops s.t o (iN P o s λe=>Ie P ops K r (acc++[e]) (s.step o.dst e.v e.t)) (Ie P ops K r (acc++[⟨.A7 [],none,none⟩]) (s.put o.dst (.A7 [])))
def Xu (P:Program)(ops:List Oper)(o:Oper)(s:St)(e:Ef):Prop:=
 ∀(S0:BF) (w0:Bs) (x:Cx) (w:World) (a:Act) (H:Bx),Good S0 w0 x w H->(∀t∈o.looksAt ops.toArray,CV x w (s.t.getD t .any) (a.tmps.getD t undef))->(∀k,(e.rk=some k\/e.t.map (·.1)=some k)->H k=s.h[k]?)->(∀ob,e.t=some (s.h.length,ob)->¬x.dom s.h.length)->
  ∀(Q:Exit->Act->World->Prop) (next:Act->World->Prop),(∀u x' w',Good S0 w0 x' w' (H.upd e.t)->Ext x x' w w'->CV x' w' e.v u->next (a.put o.dst u) w')->
   if FB o (yielded ops.toArray a.tmps)then o.wp P a w next Q else next (a.put o.dst undef) w
def oA (P:Program)(Z:List PanicEntry->Prop)(ops:List Oper)(o:Oper)(s:St)(e:Ef):Prop:=
 ∀(S0:BF) (w0:Bs) (x:Cx) (w:World) (a:Act) (H:Bx),Good S0 w0 x w H->(∀t∈o.looksAt ops.toArray,CV x w (s.t.getD t .any) (a.tmps.getD t undef))->(∀k,(e.rk=some k\/e.t.map (·.1)=some k)->H k=s.h[k]?)->(∀ob,e.t=some (s.h.length,ob)->¬x.dom s.h.length)->
  ∀(Q:Exit->Act->World->Prop) (next:Act->World->Prop),(∀ch x' w',Z ch->Good S0 w0 x' w' H->Ext x x' w w'->Q (.panic ch) a w')->(∀u x' w',Good S0 w0 x' w' (H.upd e.t)->Ext x x' w w'->CV x' w' e.v u->next (a.put o.dst u) w')->
   if FB o (yielded ops.toArray a.tmps)then o.wp P a w next Q else next (a.put o.dst undef) w
theorem Xu.z {e:Ef}(h:Xu P ops o s e):oA P Z ops o s e:=λS0 w0 x w a H g B E F Q next _ G=>h S0 w0 x w a H g B E F Q next G
variable {P:Program}
theorem QR (h : ∀t∈o.looksAt ops.toArray,CV x w (s.t.getD t .any) (a.tmps.getD t undef)):∀y∈o.op.operands.toList,CV x w (ev s.t y) (a.eval y):=by
 intro y B;cases y with
 | tmp t =>
   have:=h t (by
    unfold Gm;exact List.mem_append_left _ (List.mem_filterMap.2 ⟨_,B,rfl⟩))
   exact this
 | const v=>exact ALv x w v
 | func f=>simp only[ev,Act.eval,CV];exact⟨#[],rfl,by simp only[AO]⟩
 | global g=>simp only[ev,CV]
theorem QF {B:Bool}(z : ∀t∈o.looksAt ops.toArray,CV x w (s.t.getD t .any) (a.tmps.getD t undef))(h:BQ ops s.t o.guard=some B):FB o (yielded ops.toArray a.tmps)=B:=by
 unfold BQ at h;unfold FB;cases I:o.guard with
 | none=>rw[I]at h;simp only[BL]at h;exact h
 | some p =>
   obtain⟨j,G⟩:=p;rw[I]at h;simp only at h ⊢;cases U:(ops[j]?).bind (·.dst)with
   | none=>rw[U]at h;cases h
   | some d =>
     rw[U]at h;simp only at h;have M:(ops.toArray[j]?).bind (·.dst)=some d:=by simpa using U
     split at h;rename_i b R;simp only[BL]at h;have W:d∈o.looksAt ops.toArray:=by
      unfold Gm;refine AMm _ ?_;rw[I];simp only[M];simp
     have E:=z d W;rw[R]at E;simp only[CV,Ab]at E;have q:yielded ops.toArray a.tmps j=some b:=by
      unfold yielded;rw[M];have F:a.tmps[d]?=some (.bool b):=by
       rw[Kl]at E;cases J:a.tmps[d]? with
       | none=>rw[J]at E;cases E
       | some y=>rw[J]at E;simp only[Dm]at E;subst E;rfl
      simp[F]
     rw[q,<-h];cases b<;>cases G<;>rfl;rename_i R;simp only[BL]at h;subst h;have W:d∈o.looksAt ops.toArray:=by
      unfold Gm;refine AMm _ ?_;rw[I];simp only[M];simp
     have E:=z d W;rw[R]at E;simp only[CV]at E;obtain⟨vs,E,_⟩:=E;have q:yielded ops.toArray a.tmps j=none:=by
      unfold yielded;rw[M];have F:a.tmps[d]?=none\/a.tmps[d]?=some (.tuple vs):=by
       rw[Kl]at E;cases J:a.tmps[d]? with
       | none=>exact .inl rfl
       | some y=>rw[J]at E;simp only[Dm]at E;subst E;exact .inr rfl
      rcases F with F|F<;>simp[F]
     rw[q];rfl;cases h
theorem APo {t:List V}{K1 K2:Prop}(h:S9 ops t o K1 K2):∃B,BQ ops t o.guard=some B/\(B=true->K1)/\(B=false->K2):=by
 unfold S9 at h;unfold BQ;cases I:o.guard with
 | none=>rw[I]at h;exact⟨true,rfl,λ_=>h,λe=>by cases e⟩
 | some p =>
   obtain⟨j,E⟩:=p;rw[I]at h;simp only at h ⊢;cases G:(ops[j]?).bind (·.dst)with
   | none=>rw[G]at h;exact h.elim
   | some d =>
     rw[G]at h;simp only at h ⊢;split at h
     . rename_i b F;rw[F];refine⟨b==E,rfl,λe=>h.1 (by simpa using e),λe=>h.2 ?_⟩;cases b<;>cases E<;>simp_all
     rename_i F;rw[F];exact⟨false,rfl,λe=>(by cases e),λ_=>h⟩;exact h.elim
theorem AEa {H:Bx}(g:Good S0 w0 x w H)(I : ∀y∈o.op.operands.toList,CV x w (ev s.t y) (a.eval y)){f:FuncId}(B:C7 (ev s.t) o.op=some (f,args)){K:V->Prop}(h:iE P f args K){next:Act->World->Prop}(hn : ∀v u x' w',K v->Good S0 w0 x' w' H->Ext x x' w w'->CV x' w' v u->next (a.put o.dst u) w'):o.wp P a w next Q:=by
 obtain⟨Bd,res,hp,q,⟨fn,Ff,U,U6⟩,hK⟩:=h;unfold C7 at B;split at B
 case h_2=>cases B
 rename_i fo F Fk R;split at B
 case h_2=>cases B
 rename_i f' G hf;simp only[BL,Cr]at B;obtain⟨rfl,rfl⟩:=B;have E:=Pp (I fo (by simp[R,Bl,Df]));rw[hf]at E;simp only[CV]at E;obtain⟨vs,E,EP⟩:=E;have Hw:AO x w (F.toList.map (ev s.t)++G) (F.toList.map a.eval++vs.toList):=(AO.of_map λy hy=>I y (by simp[R,Bl,Df];exact .inr (by simpa using hy))).append EP;have:=q x.S w _ g.ex (MC _ _ _ hp Hw);have hb:fn.body≠none:=by intro e;rw[e]at U;cases U
 have J:(execOp a.eval o).run P w=.ok (.enter f' (F.toList.map a.eval++vs.toList).toArray) w:=by
  have e1:(F.map a.eval++vs)=(F.toList.map a.eval++vs.toList).toArray:=by apply Gx.1;simp
  simp[execOp,R,resolve,E,M5,invoke,callFunc,program,Sem.run,Ff,U6,hb,e1]
 unfold Er;rw[J];refine this.mono ?_;rintro r w' ⟨u,W,rfl,Gb,z,Gc,M⟩;obtain⟨g',he⟩:=g.MF (x':={ x with S:=W }) Gb z rfl rfl Gc;exact hn res u _ w' hK g' he (CV.mono (Ub W x w') _ _ M)
theorem ADz {p:Pl}{H B:Bx}{E:Nat}(h : ∀k,p.key=some k->H k=B k):p.ap H E=p.ap B E:=by
 cases p with
 | rd k g=>simp only[Pl.ap,h k rfl]
 | wr k g=>simp only[Pl.ap,h k rfl]
 | _=>rfl
theorem AFK (h:BQ ops s.t o.guard=some false):Xu P ops o s ⟨.A7 [],none,none⟩:=by
 intro S0 w0 x w a H g B G F Q next E;rw[QF B h];exact E undef x w g (Ext.refl x w) (ld x w)
def Ov (P:Program)(ops:List Oper):List Oper->St->List Ef->St->Prop
 | [],s,es,s'=>es=[]/\s'=s
 | o::r,s,es,s'=>∃e er,es=e::er/\Xu P ops o s e/\(∀k ob,e.t=some (k,ob)->k<=s.h.length)/\Ov P ops r (s.step o.dst e.v e.t) er s'
def iI (P:Program)(Z:List PanicEntry->Prop)(ops:List Oper):List Oper->St->List Ef->St->Prop
 | [],s,es,s'=>es=[]/\s'=s
 | o::r,s,es,s'=>∃e er,es=e::er/\oA P Z ops o s e/\(∀k ob,e.t=some (k,ob)->k<=s.h.length)/\iI P Z ops r (s.step o.dst e.v e.t) er s'
theorem Ov.z {Z:List PanicEntry->Prop}{ops:List Oper} : ∀ {r:List Oper} {s:St} {es:List Ef} {s':St},Ov P ops r s es s'->iI P Z ops r s es s'
 | [],_,_,_,h=>h
 | _::_,_,_,_,⟨e,B,E,F,G,I⟩=>⟨e,B,E,F.z,G,Ov.z I⟩
theorem iL {ops:List Oper}{K:List Ef->St->Prop} : ∀(r:List Oper) (E:List Ef) (s:St),Ie P ops K r E s->∃es s',Ov P ops r s es s'/\K (E++es) s'
 | [],E,s,h=>⟨[],s,⟨rfl,rfl⟩,by simpa [Ie]using h⟩
 | o::r,E,s,h=>by
   unfold Ie at h;obtain⟨B,hB,G,h2⟩:=APo h;cases B with
   | false =>
     obtain⟨es,s',U,I⟩:=iL r _ _ (h2 rfl);exact⟨⟨.A7 [],none,none⟩::es,s',⟨_,es,rfl,AFK hB,λk ob e=>(by cases e),U⟩,by simpa using I⟩
   | true =>
     have G:=G rfl;unfold iN at G;split at G
     . rename_i f args hc;obtain⟨Bd,res,hp,C9,Ff,I⟩:=G;obtain⟨es,s',U,I⟩:=iL r _ _ I;refine⟨⟨res,none,none⟩::es,s',⟨_,es,rfl,?_,λk ob e=>(by cases e),U⟩,by simpa using I⟩;intro S0 w0 x w a H g M hr z Q next hn;rw[QF M hB];exact AEa g (QR M) hc (K:=λv=>v=res) ⟨Bd,res,hp,C9,Ff,rfl⟩ λv u x' w' hv W q F=>by subst hv;exact hn u x' w' W q F
     . rename_i hc;split at G
       . rename_i v t J;obtain⟨es,s',U,I⟩:=iL r _ _ G;refine⟨⟨v,t,_⟩::es,s',⟨_,es,rfl,?_,oZ J,U⟩,by simpa using I⟩;intro S0 w0 x w a H g M hr z Q next hn;rw[QF M hB];have ye:(P2 P (ev s.t) o.op).ap H s.h.length=some (v,t):=by rw[<-J];exact ADz λk z=>hr k (.inl z)
         obtain⟨nx,w',x',u,R,EH,F,W,q,_⟩:=oW g (QR M) z ye;show o.wp P a w next Q;unfold Er;rw[R];rcases EH with rfl|⟨rfl,rfl⟩
         exact hn u x' w' W q F;exact hn undef x' w' W q F
       exact G.elim
section
variable {α:Type}
def Fx (f:Nat->Option α)(X:Nat->Bool):Nat->α->α
 | 0,d=>d
 | n+1,d=>if X n=true then(match f n with|some v=>v|none=>Fx f X n d)else Fx f X n d
theorem Wz {f:Nat->Option α}{X Y:Nat->Bool}{d:α} : ∀n,(∀j,j<n->(f j).isSome=true->X j=Y j)->Fx f X n d=Fx f Y n d
 | 0,_=>rfl
 | n+1,h=>by
   have ih:=Wz (d:=d) n λj E=>h j (by omega)
   simp only[Fx];cases B:f n with
   | none=>simp only[ih,ite_self]
   | some v=>rw[h n (by omega) (by rw[B];rfl),ih]
theorem rV {f:Nat->Option α}{X:Nat->Bool}{d:α} : ∀n,(∀j,j<n->X j=true->f j=none)->Fx f X n d=d
 | 0,_=>rfl
 | n+1,h=>by
   simp only[Fx];split;rename_i E;rw[h n (by omega) E];exact rV n λj B=>h j (by omega)
   exact rV n λj B=>h j (by omega)
theorem AAT {f:Nat->Option α}{X:Nat->Bool}{d v:α}{i:Nat} : ∀n,i<n->X i=true->f i=some v->(∀j,i<j->j<n->X j=true->f j=none)->Fx f X n d=v
 | 0,h,_,_,_=>by omega
 | n+1,h,G,E,F=>by
   simp only[Fx];by_cases e:i=n;subst e;rw[if_pos G,E];have ih:=AAT (d:=d) n (by omega) G E λj I J=>F j I (by omega)
   split;rename_i B;rw[F n (by omega) (by omega) B];exact ih;exact ih
theorem AAV {f:Nat->Option α}{X:Nat->Bool}{d:α} : ∀n,(∀j v,f j=some v->v=d)->Fx f X n d=d
 | 0,_=>rfl
 | n+1,h=>by
   simp only[Fx];split;split;rename_i v B;exact h _ _ B;exact AAV n h;exact AAV n h
theorem AAU {f:Nat->Option α}{d:α} : ∀(n i:Nat),i<=n->Fx f (λj=>decide (j<i)) n d=Fx f (λ_=>true) i d
 | 0,i,h=>by have:i=0:=(by omega);subst this;rfl
 | n+1,i,h=>by
   by_cases e:i=n+1;subst e;exact Wz _ λj B _=>by simp[B]
   simp only[Fx];rw[if_neg (by simp;omega)];exact AAU n i (by omega)
end
theorem ALe {Z:List PanicEntry->Prop}{ops:List Oper} : ∀ {r:List Oper} {s:St} {es:List Ef} {s':St},iI P Z ops r s es s'->
 ∃B:Nat->St,B 0=s/\B r.length=s'/\es.length=r.length/\∀i o,r[i]?=some o->∃e,es[i]?=some e/\oA P Z ops o (B i) e/\(∀k q,e.t=some (k,q)->k<=(B i).h.length)/\B (i+1)=(B i).step o.dst e.v e.t
 | [],s,es,s',h=>by
   obtain⟨rfl,rfl⟩:=h;exact⟨λ_=>s',rfl,rfl,rfl,λi o h=>by simp at h⟩
 | o::r,s,es,s',h=>by
   obtain⟨e,z,rfl,F,G,I⟩:=h;obtain⟨B,J,M,R,U⟩:=ALe I;refine⟨λi=>match i with|0=>s|i+1=>B i,rfl,M,by simp[R],λi W E=>?_⟩;match i,E with
   | 0,E=>simp only[LX,BL]at E;subst E;exact⟨e,rfl,F,G,J⟩
   | i+1,E=>simp only[List.getElem?_cons_succ]at E ⊢;exact U i W E
def eI (l:List Oper):List (List Nat):=l.foldl (λacc o=>acc++[(GL o).flatMap λj=>j::acc.getD j []]) []
theorem ABC (X:Nat->Prop):∀(l pre:List Oper) (B:List (List Nat)),B.length=pre.length->(∀i o,(pre++l)[i]?=some o->X i->∀j∈GL o,X j)->(∀i r,B[i]?=some r->X i->∀j∈r,X j)->
 ∀i r,(l.foldl (λB o=>B++[(GL o).flatMap λj=>j::B.getD j []]) B)[i]?=some r->X i->∀j∈r,X j
 | [],pre,B,_,_,h=>by simpa using h
 | o::l,pre,B,hl,R,h=>by
   simp only[List.foldl_cons];refine ABC X l (pre++[o]) _ (by simp[hl]) (by simpa using R) λi r F U j E=>?_
   rcases MK i B.length with J|W
   rw[EJ J]at F;exact h i r F U j E;rw[Gy W]at F;have q:i - B.length=0:=by
    rcases Nat.eq_zero_or_pos (i - B.length)with h|h
    exact h;have:=(Br.1 F).1;simp at this;omega
   rw[q]at F;simp only[LX,BL]at F;subst F;have I:(pre++o::l)[i]?=some o:=by
    rw[Gy (by omega),show i - pre.length=0 by omega];rfl
   obtain⟨k,z,E⟩:=List.mem_flatMap.1 E;have G:=R i o I U k z;rcases Cf.1 E with rfl|E
   exact G;rw[Bv]at E;cases M:B[k]? with
   | none=>rw[M]at E;simp at E
   | some r'=>rw[M]at E;exact h k r' M G j E
abbrev Ks:=List (Option Nat×Option Nat)
def dQ (a b:Option Nat×Option Nat):Bool:=
 (match a.1 with|some k=>b.1 !=some k && b.2 !=some k|none=>true) && (match b.1 with|some k=>a.2 !=some k|none=>true)
def WB (l:List Oper)(ks:Ks)(T:List (List Nat))(i:Nat):Bool:=
 match l[i]?,ks[i]? with
 | some o,some q=>((GL o).all (λj=>decide (j<i)) && (T.getD i []).all (λj=>decide (j<i))) && (E6 i).all λj=>(T.getD i []).contains j ||
    match l[j]?,ks[j]? with
    | some p,some r=>p.apart l.toArray o && dQ r q
    | _,_=>false
 | _,_=>false
def Lk (l:List Oper)(ks:Ks):Bool:=(E6 l.length).all (WB l ks (eI l))
def Ef.ks (e:Ef):Option Nat×Option Nat:=(e.t.map (·.1),e.rk)
theorem AAR {a b:Option Nat×Option Nat}(h:dQ a b=true):(∀k,a.1=some k->b.1≠some k/\b.2≠some k)/\∀k,b.1=some k->a.2≠some k:=by
 unfold dQ at h;rw[Ak]at h;refine⟨λk B=>?_,λk B=>?_⟩;have:=h.1;rw[B]at this;simpa using this;have:=h.2;rw[B]at this;simpa using this
theorem xC {ks:Ks}(h:Lk l ks=true){i:Nat}(ho:l[i]?=some o):∃q r,ks[i]?=some q/\(eI l).getD i []=r/\((∀j∈GL o,j<i)/\∀j∈r,j<i)/\∀j p,j<i->l[j]?=some p->j∈r\/∃B,ks[j]?=some B/\p.apart l.toArray o=true/\dQ B q=true:=by
 have E:i<l.length:=(Br.1 ho).1;unfold Lk at h;rw[ES]at h;have:=h i (KP.2 E);unfold WB at this;rw[ho]at this;cases F:ks[i]? with
 | none=>rw[F]at this;cases this
 | some q =>
   rw[F]at this;simp only[Ak,ES,decide_eq_true_eq,KP,Bool.or_eq_true,List.contains_iff_mem]at this;refine⟨q,_,rfl,rfl,this.1,λj p I J=>?_⟩;rcases this.2 j I with h|h
   exact .inl h;rw[J]at h;cases G:ks[j]? with
   | none=>rw[G]at h;cases h
   | some B=>rw[G]at h;simp only[Ak]at h;exact .inr ⟨B,rfl,h.1,h.2⟩
section
variable {l:List Oper} {es:List Ef} {n:Nat}
def fT (l:List Oper)(es:List Ef)(n τ:Nat)(i:Nat):Option V:=
 match l[i]?,es[i]? with
 | some o,some e=>if o.dst=some τ/\τ<n then some e.v else none
 | _,_=>none
def fH (es:List Ef)(k:Nat)(i:Nat):Option (Option O):=
 match es[i]? with
 | some e=>match e.t with
   | some (k',ob)=>if k=k' then some (some ob)else none
   | none=>none
 | none=>none
theorem AZW (s:St)(d:Option Tmp)(v:V)(t:Option (Nat×O)):(s.step d v t).t.length=s.t.length:=by cases d<;>simp[St.step,St.put]
theorem AZX (s:St)(d:Option Tmp)(v:V)(t:Option (Nat×O))(B:Nat):(s.step d v t).t.getD B .any=if d=some B/\B<s.t.length then v else s.t.getD B .any:=by
 cases d with
 | none=>simp[St.step,St.put]
 | some d =>
   simp only[St.step,St.put,Bv,RD,BL];by_cases e:d=B;subst e;by_cases E:d<s.t.length;simp[E];simp[E,M6 (Nat.le_of_not_lt E)];simp[e]
def cG (t:Option (Nat×O))(k:Nat)(d:Option O):Option O:=
 match t with
 | some (k',ob)=>if k=k' then some ob else d
 | none=>d
theorem AZV (s:St)(d:Option Tmp)(v:V)(t:Option (Nat×O))(E : ∀k F,t=some (k,F)->k<=s.h.length)(k:Nat):(s.step d v t).h[k]?=cG t k (s.h[k]?):=by
 have e:=congrFun (Kj s.h t E) k;have B:(s.step d v t).h=Bk s.h t:=by cases d<;>rfl
 rw[B,e];cases t with
 | none=>rfl
 | some p=>rfl
theorem pY {K:St->Prop}{n:Nat}{s s':St}(ht:iI P Z l l s es s')(hc:Lk l (es.map Ef.ks)=true)(hK:K s')(hQ : ∀x s a w,K s->Bo S0 w0 x s a w->Q .normal a w)(Gb : ∀e∈es,∀k ob,k<n->e.t=some (k,ob)->s.h[k]?=some ob)(hP : ∀ch x a w H,Z ch->Good S0 w0 x w H->(∀k,k<n->H k=s.h[k]?)->a.tmps.size=s.t.length->Marks w0 a.defers w->Q (.panic ch) a w)(hA:Bo S0 w0 x s a w):wpAny P .any l.toArray Q l.toArray.size (M4 l.toArray.size false) a w:=by
 obtain⟨ss,s0,sN,Mh,A1⟩:=ALe ht;have rG : ∀i,i<=l.length->(ss i).t.length=s.t.length:=by
  intro i;induction i with
  | zero=>intro _;rw[s0]
  | succ i ih=>intro hi;obtain⟨e,_,_,_,h4⟩:=A1 i l[i] (BE (by omega));rw[h4,AZW,ih (by omega)]
 have hT : ∀i F,i<=l.length->(ss i).t.getD F .any=Fx (fT l es s.t.length F) (λ_=>true) i (s.t.getD F .any):=by
  intro i F;induction i with
  | zero=>intro _;rw[s0];rfl
  | succ i ih=>intro hi;have BD:l[i]?=some l[i]:=BE (by omega);obtain⟨e,he,_,_,h4⟩:=A1 i l[i] BD;rw[h4,AZX,rG i (by omega),ih (by omega)];simp only[Fx,if_true,fT,BD,he];split<;>rfl
 have B8 : ∀i k,i<=l.length->(ss i).h[k]?=Fx (fH es k) (λ_=>true) i (s.h[k]?):=by
  intro i k;induction i with
  | zero=>intro _;rw[s0];rfl
  | succ i ih =>
    intro hi;have BD:l[i]?=some l[i]:=BE (by omega);obtain⟨e,he,_,h3,h4⟩:=A1 i l[i] BD;rw[h4,AZV _ _ _ _ h3,ih (by omega)];simp only[Fx,if_true,fH,he,cG];cases e.t with
    | none=>rfl
    | some p=>obtain⟨k',ob⟩:=p;simp only;split<;>rfl
 have F6 : ∀i j,i<=j->j<=l.length->(ss i).h.length<=(ss j).h.length:=by
  intro i j Is G;induction j with
  | zero=>have:i=0:=(by omega);subst this;exact BN _
  | succ j ih =>
    by_cases e:i=j+1;subst e;exact BN _;refine Ps (ih (by omega) (by omega)) ?_;obtain⟨e,_,_,_,h4⟩:=A1 j l[j] (BE (by omega));rw[h4];have e2:((ss j).step l[j].dst e.v e.t).h=Bk (ss j).h e.t:=by cases l[j].dst<;>rfl
    rw[e2];unfold Bk;split;exact BN _;split<;>simp
 have A3 : ∀(B:Array Bool) (x:Cx) (a:Act) (w:World),(E6 l.length).countP (λi=> !B.getD i false)<=0->B.size=l.length->
  (∀(i:Nat) (o:Oper),l[i]?=some o->B.getD i false=true->∀j∈GL o,B.getD j false=true)->a.tmps.size=s.t.length->Marks w0 a.defers w->
  (∀F,F<s.t.length->CV x w (Fx (fT l es s.t.length F) (λi=>B.getD i false) l.length (s.t.getD F .any)) (a.tmps.getD F undef))->
  Good S0 w0 x w (λk=>Fx (fH es k) (λi=>B.getD i false) l.length (s.h[k]?))->wpAny P .any l.toArray Q 0 B a w:=by
  intro B x a w A9 A8 DK FK Fu R5 hg;have M : ∀i,i<l.length->B.getD i false=true:=by
   intro i hi;have h0:=fx.1 (Nat.le_zero.1 A9) i (KP.2 hi);simpa using h0
  have TX:mr .any l.toArray B=[]:=by
   rw[List.eq_nil_iff_forall_not_mem];intro j G;rw[mem_ready]at G;obtain⟨h0,o,ho,_⟩:=G;have A0:j<l.length:=(Br.1 (show l[j]?=some o by simpa using ho)).1;rw[WS _ _ (by omega),M j A0]at h0;cases h0
  refine⟨TX,hQ x s' a w hK ⟨?_,?_,Fu⟩⟩;have e:(λk=>s'.h[k]?)=λk=>Fx (fH es k) (λi=>B.getD i false) l.length (s.h[k]?):=by
   funext k;rw[<-sN,B8 l.length k (BN _)];exact Wz _ λj G _=>by rw[M j G]
  rw[e];exact hg;refine AO.SI (by simp[FK,<-sN,rG l.length (BN _)]) λF v u W hu=>?_
  have SA:F<s.t.length:=by have:=(Br.1 W).1;rw[<-sN,rG l.length (BN _)]at this;exact this
  have h1:=R5 F SA;have e:Fx (fT l es s.t.length F) (λi=>B.getD i false) l.length (s.t.getD F .any)=v:=by
   have:s'.t.getD F .any=v:=by rw[Bv,W];rfl
   rw[<-this,<-sN,hT l.length F (BN _)];exact Wz _ λj G _=>by rw[M j G]
  rw[e]at h1;have:a.tmps.getD F undef=u:=by
   have Te:a.tmps[F]?=some u:=by simpa using hu
   rw[Kl,Te];rfl
  rwa [this]at h1
 have key : ∀(R:Nat) (B:Array Bool) (x:Cx) (a:Act) (w:World),(E6 l.length).countP (λi=> !B.getD i false)<=R->B.size=l.length->
  (∀(i:Nat) (o:Oper),l[i]?=some o->B.getD i false=true->∀j∈GL o,B.getD j false=true)->a.tmps.size=s.t.length->Marks w0 a.defers w->
  (∀F,F<s.t.length->CV x w (Fx (fT l es s.t.length F) (λi=>B.getD i false) l.length (s.t.getD F .any)) (a.tmps.getD F undef))->
  Good S0 w0 x w (λk=>Fx (fH es k) (λi=>B.getD i false) l.length (s.h[k]?))->wpAny P .any l.toArray Q R B a w:=by
  intro R;induction R with
  | zero=>exact A3
  | succ R ih =>
    intro B x a w A9 A8 DK FK Fu R5 hg;refine⟨λTX=>?_,λi hi=>?_⟩
    .
      have M : ∀i,i<l.length->B.getD i false=true:=by
       intro i;induction i using Nat.strongRecOn with
       | _ i mv =>
         intro hi;cases E:B.getD i false with
         | true=>rfl
         | false =>
           have BD:l[i]?=some l[i]:=BE hi;obtain⟨_,_,_,_,⟨hb,_⟩,_⟩:=xC hc BD;have:i∈mr .any l.toArray B:=by
            rw[mem_ready];refine⟨by rw[WS _ _ (by omega)];exact E,l[i],by simp,λe he qV=>?_⟩;have G:=hb e.on (dZ.2 ⟨e,he,qV,rfl⟩);exact mv e.on G (by omega)
           rw[TX]at this;cases this
      have hz:(E6 l.length).countP (λi=> !B.getD i false)<=0:=by
       rw[Nat.le_zero,fx];intro i hi;simp[M i (KP.1 hi)]
      exact(A3 B x a w hz A8 DK FK Fu R5 hg).2
    rw[mem_ready]at hi;obtain⟨h0,o,ho,M⟩:=hi;have ho:l[i]?=some o:=by simpa using ho
    have A0:i<l.length:=(Br.1 ho).1;rw[WS _ _ (by omega)]at h0;have B1 : ∀j∈GL o,B.getD j false=true:=by
     intro j G;rw[dZ]at G;obtain⟨e,Mg,TO,jk⟩:=G;rw[<-jk];exact M e Mg TO
    obtain⟨e,he,A5,F7,E4⟩:=A1 i o ho;obtain⟨q,r,hq,hr,⟨_,D2⟩,D1⟩:=xC hc ho;have Iy:q=e.ks:=by rw[CM,he]at hq;simpa using hq.symm
    subst Iy;have kD : ∀j∈r,B.getD j false=true:=by
     intro j G;have:=ABC (λj=>B.getD j false=true\/j=i) l [] [] rfl (λi' o' JM E j G=>by
      rcases E with E|rfl
      exact .inl (DK i' o' JM E j G);simp only[BU]at JM;rw[ho]at JM;cases JM;exact .inl (B1 j G)) (λi' r' h=>by simp at h) i r (by
      have:(eI l)[i]?=some r\/r=[]:=by
       rw[Bv]at hr;cases E:(eI l)[i]? with
       | none=>rw[E]at hr;exact .inr hr.symm
       | some y=>rw[E]at hr;exact .inl (by rw[<-hr];rfl)
      rcases this with h|h
      exact h;subst h;cases G) (.inr rfl) j G
     exact this.resolve_right λe=>by have:=D2 j G;omega
    have Au : ∀j p,j<i->l[j]?=some p->B.getD j false=false->∃J,es[j]?=some J/\p.apart l.toArray o=true/\dQ J.ks e.ks=true:=by
     intro j p G hp E;rcases D1 j p G hp with h|⟨q',h1,h2,h3⟩
     rw[kD j h]at E;cases E;rw[CM,Ia]at h1;obtain⟨J,h4,rfl⟩:=h1;exact⟨J,h4,h2,h3⟩
    have Um : ∀j p,i<j->l[j]?=some p->B.getD j false=true->∃J,es[j]?=some J/\o.apart l.toArray p=true/\dQ e.ks J.ks=true:=by
     intro j p G hp E;obtain⟨qj,rj,QU,Rx,_,E3⟩:=xC hc hp;rw[CM,Ia]at QU;obtain⟨J,h4,rfl⟩:=QU;rcases E3 i o G ho with h|⟨q',h1,h2,h3⟩
     have:=ABC (λj=>B.getD j false=true) l [] [] rfl (λi' o' JM E j G=>DK i' o' (by simpa using JM) E j G) (λi' r' h=>by simp at h) j rj (by
      rw[Bv]at Rx;cases E:(eI l)[j]? with
      | none=>rw[E]at Rx;simp only[Option.getD_none]at Rx;subst Rx;cases h
      | some y=>rw[E]at Rx;simp only[Dm]at Rx;rw[<-Rx];exact E) E i h
     rw[h0]at this;cases this;rw[CM,he]at h1;simp only[Nu,BL]at h1;subst h1;exact⟨J,h4,h2,h3⟩
    have D0 : ∀F∈o.looksAt l.toArray,∀j,j<l.length->(fT l es s.t.length F j).isSome=true->B.getD j false=decide (j<i):=by
     intro F SA j G I;have hp:l[j]?=some l[j]:=BE G;have B0:l[j].dst=some F:=by
      unfold fT at I;rw[hp]at I;cases E:es[j]? with
      | none=>rw[E]at I;cases I
      | some J=>rw[E]at I;simp only at I;split at I;(· (rename_i h;exact h.1));(· cases I)
     rcases aN j i with h|h|h
     cases E:B.getD j false with
     | true=>simp[h]
     | false=>obtain⟨J,_,h2,_⟩:=Au j l[j] h hp E;exact absurd SA ((AC9 h2).1 F B0)
     subst h;simp[h0];cases E:B.getD j false with
     | false=>simp;omega
     | true=>obtain⟨J,_,h2,_⟩:=Um j l[j] h hp E;exact absurd SA ((AC9 h2).2.2 F B0)
    have A6 : ∀k,(e.rk=some k\/e.t.map (·.1)=some k)->∀j,j<l.length->(fH es k j).isSome=true->j≠i->B.getD j false=decide (j<i):=by
     intro k z j G I A2;have hp:l[j]?=some l[j]:=BE G;obtain⟨J,qa,OM⟩:∃J,es[j]?=some J/\J.t.map (·.1)=some k:=by
      unfold fH at I;cases E:es[j]? with
      | none=>rw[E]at I;cases I
      | some J =>
        rw[E]at I;simp only at I;refine⟨J,rfl,?_⟩;cases ht:J.t with
        | none=>rw[ht]at I;cases I
        | some p =>
          obtain⟨k',ob⟩:=p;rw[ht]at I;simp only at I;split at I;rename_i h;subst h;rfl;cases I
     rcases aN j i with h|h|h
     cases E:B.getD j false with
     | true=>simp[h]
     | false =>
       obtain⟨D7,J7,_,h3⟩:=Au j l[j] h hp E;rw[qa]at J7;cases J7;have:=(AAR h3).1 k OM;rcases z with z|z
       exact absurd z this.2;exact absurd z this.1
     exact absurd h A2;cases E:B.getD j false with
     | false=>simp;omega
     | true =>
       obtain⟨D7,J7,_,h3⟩:=Um j l[j] h hp E;rw[qa]at J7;cases J7;rcases z with z|z
       exact absurd z ((AAR h3).2 k OM);exact absurd OM ((AAR h3).1 k z).1
    have B7 : ∀k,(e.rk=some k\/e.t.map (·.1)=some k)->Fx (fH es k) (λj=>B.getD j false) l.length (s.h[k]?)=(ss i).h[k]?:=by
     intro k z;rw[B8 i k (by omega),<-AAU l.length i (by omega)];refine Wz _ λj G I=>?_
     by_cases A2:j=i;subst A2;simp[h0];exact A6 k z j G I A2
    show wpOp P l.toArray Q i _ a w;unfold wpOp;have E2:l.toArray[i]?=some o:=by simpa using ho
    rw[E2];simp only;have cb:=A5 x.S (w0.re w hg.keep.size) x w a _ hg.XR (λF SA=>?_) B7 (λob Iw zE=>?_) Q (wpAny P .any l.toArray Q R (B.setIfInBounds i true)) (λch x' w' hz g' Fe=>hP ch x' a w' _ hz (hg.Sg Fe g').1 (λk z=>AAV _ λj v W=>by
     unfold fH at W;cases E:es[j]? with
     | none=>rw[E]at W;cases W
     | some J =>
       rw[E]at W;simp only at W;cases ht:J.t with
       | none=>rw[ht]at W;cases W
       | some p =>
         obtain⟨k',ob⟩:=p;rw[ht]at W;simp only at W;split at W;rename_i h;subst h;cases W;exact(Gb J (Cj E) _ _ z ht).symm;cases W) FK (Fu.mono (hg.Sg Fe g').2)) (λu x' w' g' Fe D8=>?_)
    split;rename_i I;rw[if_pos I]at cb;exact .inl cb;rename_i I;rw[if_neg I]at cb;exact cb
    .
      rcases MK F s.t.length with A7|A7
      rw[hT i F (by omega),<-AAU l.length i (by omega),<-Wz l.length (D0 F SA)];exact R5 F A7;have:(ss i).t.getD F .any=.any:=by
       rw[Bv,M6 (by rw[rG i (by omega)];exact A7)];rfl
      rw[this];simp only[CV]
    .
      obtain⟨Cw,B2⟩:=hg.dom _ zE;rw[B7 _ (.inr (by rw[Iw];rfl))]at B2;simp at B2
    .
      have U : ∀j,(B.setIfInBounds i true).getD j false=if i=j then true else B.getD j false:=λj=>Rb B i j (by omega)
      refine ih _ x' _ w' ?_ (by simpa using A8) (λi' o' JM E j G=>?_) (by rw[ABO];exact FK) (by rw[SM];exact Fu.mono (hg.Sg Fe g').2) (λF SA=>?_) ?_;have:=AE2 (p:=λj=> !B.getD j false) (p':=λj=> !(B.setIfInBounds i true).getD j false) (E6 l.length) (λj _ h=>by
       simp only[U]at h;split at h;cases h;exact h) i (KP.2 A0) (by simp[h0]) (by simp only[U];simp)
      omega;rw[U]at E ⊢;split;rfl;split at E;rename_i e1;subst e1;rw[ho]at JM;cases JM;exact B1 j G;exact DK i' o' JM E j G;by_cases hd:o.dst=some F;have e1:Fx (fT l es s.t.length F) (λj=>(B.setIfInBounds i true).getD j false) l.length (s.t.getD F .any)=e.v:=by
       refine AAT l.length A0 (by simp[U]) (by simp[fT,ho,he,hd,SA]) λj Is G E=>?_
       rw[U,if_neg (by omega)]at E;have hp:l[j]?=some l[j]:=BE G;obtain⟨J,qa,h2,_⟩:=Um j l[j] Is hp E;unfold fT;rw[hp,qa];simp only;rw[if_neg];rintro ⟨h5,_⟩;exact(AC9 h2).2.1 F hd h5
      rw[e1,hd,YP,if_pos rfl,if_pos (by rw[FK];exact SA)];exact D8;have e1:Fx (fT l es s.t.length F) (λj=>(B.setIfInBounds i true).getD j false) l.length (s.t.getD F .any)=Fx (fT l es s.t.length F) (λj=>B.getD j false) l.length (s.t.getD F .any):=by
       refine Wz _ λj G I=>?_
       rw[U];split;rename_i e2;subst e2;simp[fT,ho,he,hd]at I;rfl
      rw[e1];have e2:(a.put o.dst u).tmps.getD F undef=a.tmps.getD F undef:=by
       cases E0:o.dst with
       | none=>rfl
       | some d=>rw[YP,if_neg (λe=>hd (by rw[E0,e]))]
      rw[e2];exact CV.mono Fe _ _ (R5 F SA);have e1:(λk=>Fx (fH es k) (λj=>(B.setIfInBounds i true).getD j false) l.length (s.h[k]?))=Bx.upd (λk=>Fx (fH es k) (λj=>B.getD j false) l.length (s.h[k]?)) e.t:=by
       funext k;have B3:(fH es k i=none)->Fx (fH es k) (λj=>(B.setIfInBounds i true).getD j false) l.length (s.h[k]?)=Fx (fH es k) (λj=>B.getD j false) l.length (s.h[k]?):=by
        intro hn;refine Wz _ λj G I=>?_
        rw[U];split;rename_i e2;subst e2;rw[hn]at I;cases I;rfl
       cases dI:e.t with
       | none=>exact B3 (by simp[fH,he,dI])
       | some pp =>
         obtain⟨k',ob⟩:=pp;simp only[Bx.upd,Bx.set];by_cases EC:k=k';subst EC;rw[if_pos rfl];refine AAT l.length A0 (by simp[U]) (by simp[fH,he,dI]) λj Is G E=>?_
         rw[U,if_neg (by omega)]at E;cases E1:fH es k j with
         | none=>rfl
         | some y=>have:=A6 k (.inr (by rw[dI];rfl)) j G (by rw[E1];rfl) (by omega);rw[E]at this;simp at this;omega
         rw[if_neg EC];exact B3 (by simp[fH,he,dI,EC])
      rw[e1];exact(hg.Sg Fe g').1
 refine key _ _ x a w ?_ (by simp) (λi o hi E=>by rw[r5]at E;cases E) (by have:=hA.tm.len;simpa using this) hA.df (λF SA=>?_) ?_;have:=List.countP_le_length (p:=λi=> !(M4 l.toArray.size false).getD i false) (l:=E6 l.length);simpa using this;rw[rV l.length λj _ E=>by rw[r5]at E;cases E];have:=hA.tm.getD F undef;simpa [Kl,Bv]using this;have e:(λk=>Fx (fH es k) (λi=>(M4 l.toArray.size false).getD i false) l.length (s.h[k]?))=λk=>s.h[k]?:=by
  funext k;exact rV l.length λj _ E=>by rw[r5]at E;cases E
 rw[e];exact hA.good
end
theorem AW.AFD {id:Nat}{s s':St}{es:List Ef}(M:P.follows .mixedOrders=true)(F:m.rd=none\/Pb ops=true)(R:Ov P ops ops s es s')(E:Lk ops (es.map Ef.ks)=true)(J:K .normal s'):AW m P (.region id ops.toArray true) K s:=λn S0 w0 x a w qq B=>by
 have e:({ w with drawn:=w.drawn+1 }:World)=w.drew:=rfl;have I:Bo S0 w0 x s a w.drew:=by
  obtain⟨g,U⟩:=B.good.MF (x':=x) (w':=w.drew) (Ay.refl w).drew ⟨λ_ _ h=>h,λb j v _ E=>(Ay.refl w).drew.cell E⟩ rfl rfl (λb j h=>.inl h);exact⟨g,AO.mono U _ _ B.tm,B.df.mono (.FR (Ay.refl w).drew)⟩
 obtain⟨W,q⟩:=m;cases W with
 | none=>refine wpIn_wide.2 (wp_region_any M ?_);rw[e];exact pY (K:=K .normal) (Z:=λ_=>False) (n:=0) R.z E J (λx s a w h B=>⟨x,s,B,h⟩) (λ_ _ k _ G=>absurd G (UE k)) (λ_ _ _ _ _ h=>h.elim) I
 | some l =>
   have F:=F.resolve_left (by simp);refine Code.wpIn_mono (Q:=ADj λa w=>∃x s,Bo S0 w0 x s a w/\K .normal s) (λe a w h=>?_) (wpIn_region_any M (ANO (AVW _) F _ _ _ _ ?_));cases e<;>first|exact h|exact h.elim
   rw[e];exact pY (K:=K .normal) (Z:=λ_=>False) (n:=0) R.z E J (λx s a w h B=>⟨x,s,B,h⟩) (λ_ _ k _ G=>absurd G (UE k)) (λ_ _ _ _ _ h=>h.elim) I
theorem AW.draw {id:Nat}(G:P.follows .mixedOrders=true)(F:m.rd=none\/Pb ops=true)(h:Ie P ops (λes s'=>Lk ops (es.map Ef.ks)=true/\K .normal s') ops [] s):AW m P (.region id ops.toArray true) K s:=by
 obtain⟨es,s',I,E,B⟩:=iL _ _ _ h;exact AW.AFD G F I (by simpa using E) B
end
section
theorem Fz:AF.follows .mixedOrders=true:=by kernel_rfl
def Qv (P:Program)(o:Oper)(s:St):Option (Ef×St):=
 match (P2 P (ev s.t) o.op).ap (λk=>s.h[k]?) s.h.length with
 | some (v,t)=>some (⟨v,t,(P2 P (ev s.t) o.op).key⟩,s.step o.dst v t)
 | none=>none
def eo (P:Program)(ops:List Oper):List Oper->List Ef->St->Option (List Oper×List Ef×St)
 | [],acc,s=>some ([],acc,s)
 | o::r,acc,s=>match BQ ops s.t o.guard with
   | some true=>match Ka o.op with
     | false=>match Qv P o s with
       | some (e,s')=>eo P ops r (acc++[e]) s'
       | none=>none
     | true=>some (o::r,acc,s)
   | some false=>eo P ops r (acc++[⟨.A7 [],none,none⟩]) (s.put o.dst (.A7 []))
   | none=>none
variable {P:Program} {ops:List Oper} {K:List Ef->St->Prop}
theorem Es : ∀ {l I:List Oper} {B G:List Ef} {s s':St},eo P ops l B s=some (I,G,s')->Ie P ops K I G s'->Ie P ops K l B s
 | [],I,B,G,s,s',h,E=>by simp only[eo,BL,Cr]at h;obtain⟨rfl,rfl,rfl⟩:=h;exact E
 | o::r,I,B,G,s,s',h,E=>by
   unfold eo at h;split at h;rename_i M;split at h;rename_i R;split at h;rename_i e U F;have ih:=Es h E;unfold Qv at F;split at F;rename_i v t J;simp only[BL,Cr]at F;obtain⟨rfl,rfl⟩:=F;unfold Ie;refine IF M ?_;unfold iN;rw[YC R];simp only;rw[J];exact ih;cases F;cases h;simp only[BL,Cr]at h;obtain⟨rfl,rfl,rfl⟩:=h;exact E;rename_i M;unfold Ie;exact X8 M (Es h E);cases h
theorem ANF {B:List Ef}{f:FuncId}{args Bd:List V}(E:AC P f Bd res)(I:BQ ops s.t o.guard=some true)(F:C7 (ev s.t) o.op=some (f,args))(M:V.CF args=some Bd)(G:P.funcs[f]?=some fn)(hb:fn.body.isSome=true)(J:(fn.name == "runtime.NumGoroutine")=false)(h:Ie P ops K r (B++[⟨res,none,none⟩]) (s.step o.dst res none)):Ie P ops K (o::r) B s:=by
 unfold Ie;refine IF I ?_;unfold iN;rw[F];simp only;exact⟨Bd,res,M,E,⟨fn,G,hb,by simpa using J⟩,h⟩
theorem ADs {K:St->Prop}{B:List Ef}(E:Lk ops (B.map Ef.ks)=true)(h:K s):Ie P ops (λes s'=>Lk ops (es.map Ef.ks)=true/\K s') [] B s:=⟨E,h⟩
def Ee (e:Operand->V)(op:Op):Option (FuncId×List V):=
 match C7 e op with
 | some (f,args)=>match V.CF args with
   | some a=>some (f,a)
   | none=>none
 | none=>none
theorem Tv {op:Op}{f:FuncId}(h:Ee e op=some (f,Bd)):∃args,C7 e op=some (f,args)/\V.CF args=some Bd:=by
 unfold Ee at h;split at h;rename_i F args E;split at h;rename_i a B;simp only[BL,Cr]at h;obtain⟨rfl,rfl⟩:=h;exact⟨args,E,B⟩;cases h;cases h
theorem oX {K:St->Prop}{f:FuncId}(B:AC P f Bd res)(I:P.funcs[f]?=some fn)(hb:fn.body.isSome=true)(M:(fn.name == "runtime.NumGoroutine")=false)(J:BQ ops s.t o.guard=some true)(G:Ee (ev s.t) o.op=some (f,Bd))(h:Eg P ops K r (s.step o.dst res none)):Eg P ops K (o::r) s:=by
 obtain⟨args,E,F⟩:=Tv G;exact ANR B J E F I hb M h
theorem Xz {B:List Ef}{f:FuncId}(E:AC P f Bd res)(J:P.funcs[f]?=some fn)(hb:fn.body.isSome=true)(R:(fn.name == "runtime.NumGoroutine")=false)(M:BQ ops s.t o.guard=some true)(I:Ee (ev s.t) o.op=some (f,Bd))(h:Ie P ops K r (B++[⟨res,none,none⟩]) (s.step o.dst res none)):Ie P ops K (o::r) B s:=by
 obtain⟨args,F,G⟩:=Tv I;exact ANF E M F G J hb R h
theorem HI {P:Program}{ops:List Oper}{K:List Ef->St->Prop}{B:List Ef}(h:K B s):Ie P ops K [] B s:=h
end
def Hc {α:Type}(es:Nat):Nat->List α->List (List α)
 | 0,_=>[]
 | n+1,l=>l.take es::Hc es n (l.drop es)
theorem wj {α:Type}{es:Nat} : ∀(n:Nat) (l:List α),(Hc es n l).length=n
 | 0,_=>rfl
 | n+1,l=>by simp[Hc,wj n]
theorem AEp {α:Type}{es:Nat} : ∀(n:Nat) (l:List α),n*es<=l.length->∀r∈Hc es n l,r.length=es
 | 0,_,_,r,h=>by cases h
 | n+1,l,B,r,h=>by
   rw[Gz]at B;rcases Cf.1 h with rfl|h
   rw[Fa];omega;exact AEp n _ (by rw[Ns];omega) r h
theorem AEn {α:Type}{es:Nat} : ∀(n:Nat) (l:List α),(Hc es n l).flatten=l.take (n*es)
 | 0,l=>by simp[Hc]
 | n+1,l=>by
   simp only[Hc,Hp,AEn n];rw[show (n+1)*es=es+n*es by rw[Gz];omega,uX]
theorem bZ {α:Type}{es:Nat} : ∀(AG:List (List α)),(∀r∈AG,r.length=es)->Hc es AG.length AG.flatten=AG
 | [],_=>rfl
 | r::E,h=>by
   have B:=h r (by simp);simp only[BA,Hc,Hp];rw[fZ B,tn B,bZ E λr B=>h r (by simp[B])]
mutual
def V.Bi (k:Nat)(row:List C):V->V
 | .ptr i off=>if i=k then .cp row off else .ptr i off
 | .agg l=>.agg (V.Cs k row l)
 | .A7 l=>.A7 (V.Cs k row l)
 | .fn f l=>.fn f (V.Cs k row l)
 | .any=>.any
 | .c d=>.c d
 | .own i off len es=>if i=k then .c (.sl (Hc es len (row.drop off)))else .own i off len es
 | .cp r off=>.cp r off
 | .Bg r=>.Bg r
 | .gr i es r=>.gr i es r
 | .Be i es r=>.Be i es r
 | .hp i n p=>.hp i n p
 | .yl l=>.yl l
 | .mp i=>.mp i
def V.Cs (k:Nat)(row:List C):List V->List V
 | []=>[]
 | v::l=>V.Bi k row v::V.Cs k row l
end
def O.Bi (k:Nat)(row:List C):O->O
 | .box ty cs fr=>.box ty (V.Cs k row cs) fr
 | .tok ty es cur=>.tok ty es cur
 | .Be ty es cur cs=>.Be ty es cur (V.Cs k row cs)
 | .mp R=>.mp R
mutual
theorem CV.Bi {x x':Cx}{w:World}{k:Nat}{row:List C}(E:Ext x x' w w)(F:B5 x'.S w row (x.loc k).b 0)(G:row.length=(x.loc k).n):∀(v:V) (u:Value),CV x w v u->CV x' w (V.Bi k row v) u
 | .ptr i B,u,h=>by
   simp only[V.Bi];split;rename_i e;subst e;simp only[CV]at h ⊢;exact⟨(x.loc i).b,0,by rw[Cz];exact h.2.2,F⟩;exact CV.mono E _ _ h
 | .agg l,u,h=>by simp only[V.Bi,CV]at h ⊢;obtain⟨vs,e,h⟩:=h;exact⟨vs,e,AO.Bi E F G l _ h⟩
 | .A7 l,u,h=>by simp only[V.Bi,CV]at h ⊢;obtain⟨vs,e,h⟩:=h;exact⟨vs,e,AO.Bi E F G l _ h⟩
 | .fn f l,u,h=>by simp only[V.Bi,CV]at h ⊢;obtain⟨vs,e,h⟩:=h;exact⟨vs,e,AO.Bi E F G l _ h⟩
 | .any,u,h=>by simp only[V.Bi,CV]
 | .c d,u,h=>by rw[V.Bi];exact CV.mono E _ _ h
 | .own i B len es,u,h=>by
   simp only[V.Bi];split;rename_i e;subst e;simp only[CV,Ab]at h ⊢;obtain⟨_,_,cap,rfl,I,M,W⟩:=h;have q:len*es<=cap*es:=Vj _ I;have U:len*es<=(row.drop B).length:=by rw[Ns];omega
   refine⟨_,cap,by rw[wj],by rw[wj];exact I,M,λ_=>⟨(x.loc i).b,B,es,rfl,AEp len _ U,?_⟩⟩;rw[D9.flat,AEn];have R:=(B5.append (l:=row.take B) (m:=row.drop B)).1 (by rw[aL];exact F);have J:=R.2;rw[Fa,Nat.min_eq_left (by omega),Cz]at J;exact((B5.append (l:=(row.drop B).take (len*es)) (m:=(row.drop B).drop (len*es))).1 (by rw[aL];exact J)).1;exact CV.mono E _ _ h
 | .cp r B,u,h=>by rw[V.Bi];exact CV.mono E _ _ h
 | .Bg r,u,h=>by rw[V.Bi];exact CV.mono E _ _ h
 | .gr i es r,u,h=>by rw[V.Bi];exact CV.mono E _ _ h
 | .Be i es r,u,h=>by rw[V.Bi];exact CV.mono E _ _ h
 | .hp i n p,u,h=>by rw[V.Bi];exact CV.mono E _ _ h
 | .yl l,u,h=>by rw[V.Bi];exact CV.mono E _ _ h
 | .mp i,u,h=>by rw[V.Bi];exact CV.mono E _ _ h
theorem AO.Bi {x x':Cx}{w:World}{k:Nat}{row:List C}(B:Ext x x' w w)(E:B5 x'.S w row (x.loc k).b 0)(F:row.length=(x.loc k).n):∀(l:List V) (us:List Value),AO x w l us->AO x' w (V.Cs k row l) us
 | [],us,h=>by simpa only[V.Cs,AO]using h
 | v::l,us,h=>by
   simp only[V.Cs,AO]at h ⊢;obtain⟨u,G,e,I,J⟩:=h;exact⟨u,G,e,CV.Bi B E F v u I,AO.Bi B E F l G J⟩
end
theorem AFo (k:Nat)(row:List C):∀l:List V,(V.Cs k row l).length=l.length
 | []=>rfl
 | v::l=>by simp only[V.Cs,BA,AFo k row l]
theorem Le.freeze {t:List V}{h:List O}{row:List C}(hk:h[k]?=some (.box ty cs false))(hr:toCs cs=some row):Le m ⟨t,h⟩ ⟨V.Cs k row t,(h.set k (.box ty cs true)).map (O.Bi k row)⟩:=λS0 w0 x a w hm hA=>by
 have g:=hA.good;obtain⟨hd,b1,b2,vs,b3,b4,b5⟩:=g.ok k _ hk;have Av:=toCs_ok hr b5;have OI:row.length=(x.loc k).n:=by rw[<-b4,<-FW,Av.len]
 have ar:Ar x.S (λb j=>x.S b j\/(b=(x.loc k).b/\j<(x.loc k).n)) w w:=⟨λ_ _ h=>.inl h,λ_ _ _ _ h=>h⟩
 have z:Ext x { x with S:=λb j=>x.S b j\/(b=(x.loc k).b/\j<(x.loc k).n) } w w:=⟨ar,λ_ h=>h,λ_ _=>FM.refl _⟩
 have Bn:B5 (λb j=>x.S b j\/(b=(x.loc k).b/\j<(x.loc k).n)) w row (x.loc k).b 0:=by
  refine B5.Pe (B4.mono ar _ _ Av) (λj u hu=>?_) (λj hj=>.inr ⟨rfl,by omega⟩);rw[Cz,cell_of_row w _ j vs ty (0,0) b3];simpa using hu
 have A0:k<h.length:=(Br.1 hk).1;have W : ∀i o,((h.set k (.box ty cs true)).map (O.Bi k row))[i]?=some o->∃E,h[i]?=some E/\((i≠k/\o=E.Bi k row)\/(i=k/\o=(O.box ty cs true).Bi k row)):=by
  intro i o J;rw[CM,Ia]at J;obtain⟨o1,B,rfl⟩:=J;rw[RD]at B;by_cases e:k=i;subst e;simp only[A0,if_true]at B;cases B;exact⟨_,hk,.inr ⟨rfl,rfl⟩⟩;simp only[e,if_false]at B;exact⟨o1,B,.inl ⟨λh=>e h.symm,rfl⟩⟩
 refine⟨{ x with S:=λb j=>x.S b j\/(b=(x.loc k).b/\j<(x.loc k).n) },⟨λi o J=>?_,λi hi=>?_,λi i' o o' B q U hv A1=>?_,λi o j J hx F=>?_,λb j F=>?_,λi o J hv=>?_,λb j F=>?_,λb j F=>.inl (g.sub b j F),g.keep,g.ext.trans z⟩,AO.Bi z Bn OI t _ hA.tm,hA.df⟩;obtain⟨E,B,q⟩:=W i o J;obtain⟨h3,h4⟩:=g.ok i E B;refine⟨h3,?_⟩;rcases q with ⟨_,rfl⟩|⟨rfl,rfl⟩
 cases E with
 | box I G fr=>obtain⟨a1,a2,Bz,a3,a4,a5⟩:=h4;exact⟨a1,a2,Bz,a3,a4,AO.Bi z Bn OI G _ a5⟩
 | tok I es M=>exact h4
 | mp R=>exact h4
 | Be I es M G=>obtain⟨a1,a2,a3,a4,a5,Bz,a6,a7,a8,a9⟩:=h4;exact⟨a1,a2,a3,a4,by rw[AFo];exact a5,Bz,a6,a7,a8,AO.Bi z Bn OI G _ a9⟩
 exact⟨b1,b2,vs,b3,b4,AO.Bi z Bn OI cs _ b5⟩;obtain⟨o,J⟩:=g.dom i hi;have OF:i<h.length:=(Br.1 J).1;exact⟨_,BE (by simpa using OF)⟩;obtain⟨E,k1,_⟩:=W i o B;obtain⟨kg,k2,_⟩:=W i' o' q;exact g.inj i i' E kg k1 k2 U hv A1;obtain⟨E,B,q⟩:=W i o J;rcases q with ⟨U,rfl⟩|⟨rfl,rfl⟩
 have ON:Ex x i E j:=by cases E<;>exact hx
 rcases F with F|⟨hb,_⟩
 exact g.EA i E j B ON F;have hv:(x.loc i).void=false:=by
  cases E with
  | box I G fr=>exact(g.ok i _ B).2.2.1
  | tok I es M=>exact ON.1
  | Be I es M G=>exact(g.ok i _ B).2.2.1
  | mp R=>exact(g.ok i _ B).2.2.1
 exact g.inj i k E _ B hk U hv b2 hb;cases hx.1;rcases F with F|⟨rfl,_⟩
 exact g.ex b j F;exact(DO.1 b3).1;obtain⟨E,B,_⟩:=W i o J;exact g.own i E B hv;rcases F with F|⟨rfl,_⟩
 exact g.new b j F;exact .inr (g.own k _ hk b2)
theorem AW.Bi {c:Code}{t:List V}{h:List O}{row:List C}(F:h[k]?=some (.box ty cs false))(G:toCs cs=some row){E:List V}{B:List O}(I:V.Cs k row t=E)(hh:(h.set k (.box ty cs true)).map (O.Bi k row)=B)(J:AW m P c K ⟨E,B⟩):AW m P c K ⟨t,h⟩:=
 AW.le (Le.freeze k F G) (by rw[I,hh];exact J)
theorem Le.MI {t E:List V}{h B:List O}(n:Nat)(F:m.n0<=n)(hs:DG t E)(hh:h.take n=B)(hb:V.BI n E=true)(ho:(B.all (O.A8 n))=true):Le m ⟨t,h⟩ ⟨E,B⟩:=Le.trans (Le.weak hs) (Le.drop n F hh hb ho)
def z6 (K:Exit->St->Prop):Exit->St->Prop
 | .goto _,_=>False
 | e,s=>K e s
section
variable {P:Program} {K:Exit->St->Prop} {s:St} {i:Nat}
theorem S5 (h:K .ret s):z6 K .ret s:=h
theorem AW.scope {E:Nat}{c:Code}(h:AW ⟨none,E⟩ P c (z6 K) s):AW ⟨none,E⟩ P (.scope c) K s:=λn S0 w0 x a w I G=>wpIn_wide.2 (wp_scope_straight (wp_mono (wpIn_wide.1 (h n S0 w0 x a w I G)) λe a w ⟨x,s,F,B⟩=>by
 cases e with
 | goto l=>exact B.elim
 | _=>exact⟨x,s,F,B⟩))
end
section
def QE (ds:List (Option Nat))(t:List V):Option (Nat×Bool)->Option Bool
 | none=>some true
 | some (j,w)=>match ds[j]? with
   | some (some d)=>match t.getD d .any with
     | .c (.bool b)=>some (b==w)
     | .A7 []=>some false
     | _=>none
   | _=>none
theorem jG (ops:List Oper)(t:List V)(g:Option (Nat×Bool)):QE (ops.map (·.dst)) t g=BQ ops t g:=by
 cases g with
 | none=>rfl
 | some p =>
   obtain⟨j,w⟩:=p;simp only[QE,BQ,CM];cases h:ops[j]? with
   | none=>rfl
   | some o=>cases B:o.dst<;>simp only[Nu,Option.bind_some,B]<;>rfl
variable {P:Program} {K:St->Prop} {ops:List Oper}
end
def SW (P:Program)(ops:List Oper)(K:Exit->St->Prop)(l:List Oper)(s:St):Prop:=
 ∀(S0:BF) (w0:Bs) (x:Cx) (a:Act) (w:World),Bo S0 w0 x s a w->wpList P ops.toArray (λe a w=>∃x s,Bo S0 w0 x s a w/\K e s) l a w
section
variable {P:Program} {K:Exit->St->Prop} {ops:List Oper} {s:St}
theorem AW.DA {E id:Nat}(h:SW P ops K ops s):AW ⟨none,E⟩ P (.region id ops.toArray false) K s:=λn S0 w0 x a w F B=>wpIn_wide.2 (wp_region_lit (h S0 w0 x a w B))
theorem SW.nil (h:K .normal s):SW P ops K [] s:=λS0 w0 x a w B=>⟨x,s,B,h⟩
theorem SW.pre {F:List Oper} : ∀(l:List Oper) (s:St),Eg P ops (λs'=>SW P ops K F s') l s->SW P ops K (l++F) s
 | [],s,h=>h
 | o::r,s,h=>λS0 w0 x a w B=>by
   unfold Eg at h;obtain⟨I,J⟩:=KR B.tm h;rw[BK];unfold wpList;split;rename_i E;refine .inl (wH B (I E) λv t u x' w' M g R G U=>?_);exact SW.pre r _ M S0 w0 x' _ w' (Bo.put B.tm (B.df.mono G) R g U o.dst);rename_i E;exact SW.pre r _ (J E) S0 w0 x _ w (Bo.put (v:=.A7 []) (u:=undef) B.tm B.df (Ext.refl x w) B.good (ld x w) o.dst)
theorem SW.take (n:Nat)(h:Eg P ops (λs'=>SW P ops K (l.drop n) s') (l.take n) s):SW P ops K l s:=by
 have:=SW.pre (l.take n) s h;rwa [aL]at this
theorem SW.op (v:V)(R:BQ ops s.t o.guard=some true)(q:Ka o.op=false)(M : ∀(S0:BF) (w0:Bs) (x:Cx) (a:Act) (w:World),Good S0 w0 x w (λk=>s.h[k]?)/\AO x w s.t a.tmps.toList->BW P o a S0 w0 x w (λk=>s.h[k]?) v none)(h:SW P ops K r (s.step o.dst v none)):SW P ops K (o::r) s:=λS0 w0 x a w B=>by
 have W:FB o (yielded ops.toArray a.tmps)=true:=by
  have:=KR (o:=o) B.tm (IF (ops:=ops) (K1:=True) (K2:=False) R trivial);exact Kn λh=>this.2 h
 unfold wpList;rw[if_pos W];refine .inl ?_;obtain⟨z,w',x',u,U,J,E,F,G,_⟩:=M x.S (w0.re w B.good.keep.size) x a w ⟨B.good.XR,B.tm⟩;obtain⟨F,I⟩:=B.good.Sg G F;unfold Er;rw[U];rcases J with rfl|⟨rfl,rfl⟩
 exact h S0 w0 x' _ w' (Bo.put B.tm (B.df.mono I) G F E o.dst);exact h S0 w0 x' _ w' (Bo.put B.tm (B.df.mono I) G F E o.dst)
end
section
variable {P:Program} {S0:BF} {w0:Bs} {x:Cx} {w:World} {H:Bx} {a:Act} {o:Oper}
theorem Good.APu (g:Good S0 w0 x w H)(k:Nat){Ae:TypeId}{es n:Nat}(hk : ∀o,H k=some o->∃ty es B,o=.tok ty es B/\B<n+1){vs:Array Value}{cap:Nat}(F:vs.size=cap*es){l:List C}{row:List V}(hl:B4 x.S w l (vs.toList.take (n*es)))(Mi:l.length=n*es)(hm:n+1<=cap)(Av:row.length=es)(Bn:AO x w row ((vs.toList.drop (n*es)).take es)) :
 let x':=x.grow k ⟨w.heap.size,cap*es,true,n+1,false⟩ (n*es)
 Good S0 w0 x' (w.drew.alloc (.cells vs Ae)) (H.set k (.Be Ae es (n+1) row))/\Ext x x' w (w.drew.alloc (.cells vs Ae))/\B5 x'.S (w.drew.alloc (.cells vs Ae)) l w.heap.size 0:=by
 intro x';have U:Ay w (w.drew.alloc (.cells vs Ae)):=(Ay.refl w).drew.alloc _;have R:(w.drew.alloc (.cells vs Ae)).heap[w.heap.size]?=some (.cells vs Ae (0,0)):=heap_alloc_new w.drew _;have W:Ar x.S x'.S w (w.drew.alloc (.cells vs Ae)):=⟨λ_ _ h=>.inl h,λb j v _ hc=>U.cell hc⟩
 have I:Ext x x' w (w.drew.alloc (.cells vs Ae)):=by
  refine⟨W,λ_ h=>.inl h,λi J=>?_⟩;by_cases e:i=k;subst e;obtain⟨o,z⟩:=g.dom i J;obtain⟨ty,A0,B,rfl,M⟩:=hk o z;obtain⟨_,q,h2,_⟩:=g.ok i _ z;simp only[x',Cx.grow,if_true];exact⟨q.symm,.inr ⟨q,by rw[h2];exact M⟩⟩;simp only[x',Cx.grow,e,if_false];exact FM.refl _
 have E:(n+1)*es<=cap*es:=Vj _ hm;refine⟨g.H5 k _ I (.FR U) (λi=>RA) (λi J=>by simp[x',Cx.grow,J]) (λ_=>.inr (by simp[x',Cx.grow])) ?_ (λb j h=>?_) (λj hx hs=>?_),I,?_⟩;exact⟨by simp[x',Cx.grow],by simp[x',Cx.grow],by simp[x',Cx.grow],by omega,Av,vs,by simp only[x',Cx.grow,if_true];exact R,by simp[x',Cx.grow,F],by rw[F];exact E,AO.mono I _ _ (by simpa using Bn)⟩;rcases h with h|⟨rfl,h⟩
 exact .inl h;refine .inr ⟨by simp,.inl (BN _),λ_ hx=>?_⟩;have:=hx.1;simp at this;omega;simp only[x',Cx.grow,if_true]at hs;have:=g.ex _ _ hs;omega;refine B5.Pe (B4.mono W _ _ hl) (λj u G=>?_) (λj hj=>.inr ⟨rfl,by rw[Mi]at hj;omega⟩);rw[Cz,cell_of_row _ _ j vs Ae (0,0) R];rw[KO]at G;split at G;simpa using G;cases G
theorem Good.AXu (g:Good S0 w0 x w H)(k:Nat){Ae:TypeId}{es n:Nat}(M:H k=some (.tok Ae es n))(E:(x.loc k).void=false){B:Array Value}(hb:w.heap[(x.loc k).b]?=some (.cells B Ae (0,0))){news:List Value}{l:List C}{row:List V}(IJ:news.length=es)(Dz:n*es+es<=B.size)(hl:B4 x.S w l (B.toList.take (n*es)))(Av:row.length=es)(Bn:AO x w row news) :
 let x':=x.grow k ⟨(x.loc k).b,(x.loc k).n,true,n+1,false⟩ (n*es)
 let w':=w.setRow (x.loc k).b (B.toList.take (n*es)++news++B.toList.drop (n*es+news.length)).toArray
 Good S0 w0 x' w' (H.set k (.Be Ae es (n+1) row))/\Ext x x' w w'/\B5 x'.S w' l (x.loc k).b 0:=by
 intro x' w';obtain⟨R,h1,h2,h3⟩:=g.ok k _ M;obtain⟨vs,q,W⟩:=h3 E;rw[hb]at q;cases q;have J:w'.heap[(x.loc k).b]?=some (.cells (B.toList.take (n*es)++news++B.toList.drop (n*es+news.length)).toArray Ae (0,0)):=setRow_heap w _ B _ Ae (0,0) hb;have F:(B.toList.take (n*es)++news++B.toList.drop (n*es+news.length)).toArray.size=B.size:=by
  simp only[List.size_toArray,Cp,Fa,Ns,FW];omega
 have ar:Ar x.S x'.S w w':=by
  refine⟨λ_ _ h=>.inl h,λb j v hS G=>?_⟩;by_cases z:b=(x.loc k).b;subst z;rw[cell_of_row w _ j B Ae (0,0) hb]at G;rw[cell_of_row w' _ j _ Ae (0,0) J];have hj:j<B.size:=(DO.1 G).1;have GN:j<n*es:=by
   rcases MK j (n*es)with h|h
   exact h;exact absurd hS (g.EA k _ j M ⟨E,h,by omega⟩)
  rw[mV,GX,EJ (by simp;omega),KO,if_pos GN];simpa using G;rw[RK (w:=w) (a:=⟨b,j,none⟩) (setRow_other w _ b _ z)];exact G
 have U:Ext x x' w w':=by
  refine⟨ar,λ_ h=>.inl h,λi hi=>?_⟩;by_cases e:i=k;subst e;simp only[x',Cx.grow,if_true];exact⟨h1.symm,.inr ⟨h1,by rw[h2];simp⟩⟩;simp only[x',Cx.grow,e,if_false];exact FM.refl _
 refine⟨g.H5 k _ U ⟨rfl,rfl,rfl,by simp[w'],λi _ W=>setRow_other w _ i _ (λe=>W ⟨R,E,e.symm⟩)⟩ (λi=>RA) (λi hi=>by simp[x',Cx.grow,hi]) (λ_=>.inl ⟨R,E,by simp[x',Cx.grow]⟩) ?_ (λb j h=>?_) (λj I hs=>?_),U,?_⟩;refine⟨by simp[x',Cx.grow],by simp[x',Cx.grow],by simp[x',Cx.grow],by omega,Av,_,by simp only[x',Cx.grow,if_true];exact J,by simp only[x',Cx.grow,if_true];rw[F,W],by rw[F,Gz];omega,AO.mono U _ _ ?_⟩;have e1:(B.toList.take (n*es)).length=n*es:=by simp;omega
 simp only[aM];rw[GX,tn e1,fZ IJ];exact Bn;rcases h with h|⟨rfl,h⟩
 exact .inl h;refine .inr ⟨by simp[w'];exact(DO.1 hb).1,.inr ⟨R,E,rfl⟩,λ_ I=>?_⟩;have:=I.1;simp at this;omega;simp only[x',Cx.grow,if_true]at hs;refine g.EA k _ j M ⟨E,?_,?_⟩ hs;have:=I.1;simpa using this;have:=I.2;simpa [x',Cx.grow]using this;have Mi:l.length=n*es:=by
  have:=hl.len;simp only[Fa,FW]at this;omega
 refine B5.Pe (B4.mono ar _ _ hl) (λj u hu=>?_) (λj hj=>.inr ⟨rfl,by rw[Mi]at hj;omega⟩);rw[Cz,cell_of_row w' _ j _ Ae (0,0) J,mV,GX,EJ ((Br.1 hu).1)];exact hu
theorem AZj {vs A B:List Value}{n es:Nat}(h:vs.take ((n+1)*es)=A++B)(F:A.length=n*es)(E:(n+1)*es<=vs.length):A=vs.take (n*es)/\B=(vs.drop (n*es)).take es:=by
 rw[show (n+1)*es=n*es+es by rw[Gz];omega,uX]at h;rw[Gz]at E;have:=List.append_inj h (by rw[F,Fa];omega);exact⟨this.1.symm,this.2.symm⟩
theorem dk (g:Good S0 w0 x w H){t:TypeId}{y z:Operand}(ho:o.op=.call ⟨.builtin .append,#[y,z],#[t,t]⟩){Ae:TypeId}{es Bq:Nat}(hT:Dk P t=some (Ae,es,Bq)){AG:List (List C)}{row:List C}{k:Nat}(hY:CV x w (.gr k es AG) (a.eval y))(hZ:Ab x.S w (.sl [row]) (a.eval z))(A9:0<es)(hy:row.length=es)(A3:AG.length+1<=maxLen)(hb:(AG.length+1)*Bq<=140737488355328)(hH:H k=some (.tok Ae es AG.length)) :
 BW P o a S0 w0 x w H (.Be k es AG) (some (k,.Be Ae es (AG.length+1) (row.map V.c))):=by
 simp only[CV]at hY;obtain⟨zE,A7,hd,U,B0,J⟩:=hY;obtain⟨_,_,GM,NP⟩:=g.ok k _ hH;have J:=J GM.symm;obtain⟨A,c,xs,W,q1,q2,q3,q4,q5,q6⟩:=T0 hd U;have Wu : ∀r∈[row],r.length=es:=by simpa using hy
 have q:(∀A n c,a.eval y=.slice A n c->c<n + [row].length/\(A=none->c=0))->BW P o a S0 w0 x w H (.Be k es AG) (some (k,.Be Ae es (AG.length+1) (row.map V.c))):=by
  intro Mf;obtain⟨vs,cap,E,G,h1,h2,hl⟩:=wL (ty:=o.type) hT hd U hZ Wu (by simp) Mf A3 hb;simp only[BA,BO,Cz]at E h1 hl;rw[Vd]at hl;obtain⟨A1,B1,e1,l1,l2⟩:=B4.split hl;have I:(AG.length+1)*es<=cap*es:=Vj _ h1;have Ec:A1.length=AG.length*es:=by rw[l1.len,K7 U]
  have dK:vs.toList.length=cap*es:=by rw[FW,G]
  obtain⟨rfl,rfl⟩:=AZj e1 Ec (by rw[dK];exact I);simp only[Hp,RC,E5]at l2;obtain⟨g',he,Fh⟩:=g.APu k (Ae:=Ae) (n:=AG.length) (λob h=>by rw[hH]at h;cases h;exact⟨_,_,_,rfl,by omega⟩) G l1 (K7 U) h1 (row:=row.map V.c) (by simpa using hy) (AO.OS l2);refine⟨_,_,_,_,by simp[execOp,ho,resolve,invoke,builtin,E];rfl,.inl rfl,?_,g',he,λk h=>h.elim .inl λe=>.inr ⟨.Be Ae es (AG.length+1) (row.map V.c),by rw[e]⟩,λhb=>by rw[ho]at hb;cases hb⟩;simp only[CV];refine⟨.inr rfl,by simp[Cx.grow],U,by simp[Cx.grow],_,cap,rfl,λ_=>?_⟩;simp only[Cx.grow,if_true];exact⟨trivial,trivial,h1,h2,trivial,Fh⟩
 cases hv:(x.loc k).void with
 | true =>
   rw[hv]at J;simp only[if_true]at J;obtain⟨A',M⟩:=J;refine q λA2 n c2 e=>?_
   rw[M]at e;cases e;refine⟨by simp,λhn=>?_⟩;by_cases h:AG=[]
   rw[h];rfl;obtain⟨b,A0,CT,_⟩:=q6 h;rw[M]at W;cases W;rw[hn]at CT;cases CT
 | false =>
   rw[hv]at J;simp only[GW,if_false]at J;obtain⟨cap,M,FX⟩:=J;by_cases F:AG.length+1<=cap;obtain⟨Te,ie,zv,EB,hz,G,A8,B2⟩:=JS hT;obtain⟨R,FF,A6⟩:=NP hv;obtain⟨B,c',zs,VE,k1,k2,k3,k4,k5,k6⟩:=T0 hZ Wu;obtain⟨b,A0,rfl,_⟩:=k6 (by simp);simp only[BA,BO,Cz,gE]at VE k4;simp only[Hp,RC,E5]at k3;have I:(AG.length+1)*es<=cap*es:=Vj _ F;rw[Gz,gE]at I;have E:=run_append_room (P:=P) w t o.type Ae ie Te EB (x.loc k).b AG.length cap R FF ⟨b,A0,none⟩ 1 c' zs (by rw[k4,G];omega) (k5 _ rfl) k3.ones F (by rw[G,k4];omega);rw[G]at E;have zt:R.toList.take (AG.length*es)=xs:=by
    apply Vc;intro j;rw[KO];rw[M]at W;cases W;split;rename_i hj;have jt:j<xs.length:=by omega
    have:=q5 _ rfl j xs[j] (BE jt);rw[J0,Cz,cell_of_row w _ j R Ae (0,0) FF]at this;rw[BE jt];simpa using this;rw[M6 (by omega)]
   obtain⟨g',he,Fh⟩:=g.AXu k hH hv FF (news:=zs) (l:=AG.flatten) (row:=row.map V.c) k4 (by omega) (by rw[zt];exact q3) (by simpa using hy) (AO.OS k3);refine⟨_,_,_,_,by simp[execOp,ho,resolve,invoke,builtin,M,VE,E];rfl,.inl rfl,?_,g',he,λk h=>h.elim .inl λe=>.inr ⟨.Be Ae es (AG.length+1) (row.map V.c),by rw[e]⟩,λhb=>by rw[ho]at hb;cases hb⟩;have A5:cap<=maxLen:=by rw[M]at W;cases W;exact q2
   simp only[CV];refine⟨.inr rfl,by simp[Cx.grow],U,by simp[Cx.grow],_,cap,rfl,λ_=>?_⟩;simp only[Cx.grow,if_true];exact⟨trivial,trivial,F,A5,FX,Fh⟩;refine q λA2 n c2 e=>?_
   rw[M]at e;cases e;exact⟨by simp;omega,λhn=>by cases hn⟩
theorem r7 (g:Good S0 w0 x w H){t:TypeId}{y z:Operand}(ho:o.op=.indexAddr t y z){k es:Nat}{AG:List (List C)}{kd:IntKind}(B:CV x w (.Be k es AG) (a.eval y))(G:CV x w (.c (.int kd (AG.length:Int))) (a.eval z)){Ae:TypeId}{Bq:Nat}(R:Dk P t=some (Ae,es,Bq))(M:H k=some (.Be Ae es (AG.length+1) cs)):
 BW P o a S0 w0 x w H (.hp k (AG.length+1) (AG.length*es)) none:=by
 obtain⟨_,h1,h2,I,_⟩:=g.ok k _ M;simp only[CV,Ab]at B G;obtain⟨d1,d2,d3,d4,A,cap,B,d5⟩:=B;obtain⟨_,J,_⟩:=d5 I.symm;obtain⟨W,q,zv,U,_,F,_,_⟩:=JS R;refine BW.pure g (u:=.pointer (some ⟨(x.loc k).b,AG.length*es,none⟩)) ?_ (by simp only[CV];exact⟨d1,d2,by omega,_,rfl,λ_=>rfl⟩);have E:(AG.length:Int)<((AG.length+1:Nat):Int):=by omega
 simp[execOp,ho,B,G.1,J,Instr.indexAt,asIntOf,run_underlying W,sizeOf,typeInfo,U,F,J0,E]
theorem AI5 (g:Good S0 w0 x w H){t:TypeId}{y z:Operand}(ho:o.op=.store t y z){q:Bool×Nat}(hq:B6 P t=some q){k n pos es:Nat}(J:CV x w (.hp k n pos) (a.eval y))(hz:CV x w (e z) (a.eval z))(U:H k=some (.Be ty es n cs))(h1:(e z).flat=true)(M:(e z).cells.length=es)(h3:q.2=es)(h4:pos=(n - 1)*es):BW P o a S0 w0 x w H .any (some (k,.Be ty es n (e z).cells)):=by
 obtain⟨hd,A5⟩:=g.ok k _ U;obtain⟨k1,k2,k3,k4,k5,vs,W,hn,Mf,A1⟩:=A5;simp only[CV]at J;obtain⟨_,_,_,A,J,R⟩:=J;have R:=R k3.symm;subst R;obtain⟨c1,c2⟩:=hz.cells h1;obtain⟨_,hs,_⟩:=T3 (w:=w) (P:=P) (ag:=q.1) (n:=q.2) hq;have G:(a.eval z).cells.size=es:=by have:=c1.len;simp only[FW]at this;omega
 have A0:n*es=(n - 1)*es+es:=by
  obtain⟨m,rfl⟩:∃m,n=m+1:=⟨n - 1,by omega⟩
  rw[Gz,aM];omega
 have Dz:pos+es<=vs.size:=by omega
 have hr:=run_storeCells_at (P:=P) (t:=ty) (off:=pos) (a.eval z).cells.toList 0 w vs W (by simp;omega) c2;have F:=cC (a.eval z).cells.toList 0 pos vs (by simp;omega);generalize dM:((a.eval z).cells.toList.zipIdx 0).foldl (λ(c:Array Value) (p:Value×Nat)=>c.setIfInBounds (pos+p.2) p.1) vs=B at hr F;simp only[Nat.add_zero,FW,G]at F;have E:B.size=vs.size:=by
  have:=congrArg List.length F;simp only[FW,Cp,Fa,Ns,G]at this;omega
 have FF:(w.setRow (x.loc k).b B).heap[(x.loc k).b]?=some (.cells B ty (0,0)):=setRow_heap w _ vs B ty (0,0) W;have ar:Ar x.S x.S w (w.setRow (x.loc k).b B):=by
  refine⟨λ_ _ h=>h,λb j v hS I=>?_⟩;by_cases Ga:b=(x.loc k).b;subst Ga;rw[cell_of_row w _ j vs ty (0,0) W]at I;rw[cell_of_row _ _ j _ ty (0,0) FF];have hj:j<vs.size:=(DO.1 I).1;have GN:j<(n - 1)*es:=by
   rcases MK j ((n - 1)*es)with h|h
   exact h;exact absurd hS (g.EA k _ j U ⟨h,by omega⟩)
  have:B.toList[j]?=vs.toList[j]?:=by
   rw[F,GX,EJ (by simp;omega),KO,if_pos (by omega)]
  have M:B[j]?=vs[j]?:=by simpa using this
  rw[M];exact I;rw[RK (w:=w) (a:=⟨b,j,none⟩) (setRow_other w _ b _ Ga)];exact I
 have he:Ext x x w (w.setRow (x.loc k).b B):=⟨ar,λ_ h=>h,λ_ _=>FM.refl _⟩
 have g':=g.H5 k (.Be ty es n (e z).cells) he ⟨rfl,rfl,rfl,by simp,λi _ hn=>setRow_other w _ i _ (λe=>hn ⟨hd,k2,e.symm⟩)⟩ (λi=>⟨.inl,λh=>h.elim id (λe=>e ▸ hd)⟩) (λ_ _=>rfl) (λ_=>.inl ⟨hd,k2,rfl⟩)
  ⟨k1,k2,k3,k4,M,B,FF,by rw[E,hn],by rw[E];exact Mf,by
    have e1:(vs.toList.take pos).length=(n - 1)*es:=by simp;omega
    rw[F,GX,tn e1,fZ (by simpa using G)];exact AO.mono he _ _ c1⟩ (λb j h=>.inl h) (λj hx=>g.EA k _ j U hx)
 refine⟨.skip,_,x,undef,?_,.inr ⟨rfl,rfl⟩,by simp only[CV],g',he,λ_ h=>.inl h,λ_=>rfl⟩;simp[execOp,ho,Instr.storeAt,J,Instr.sureAddr,storeVar,hs,h3,G,hr]
end
def V.Db (k es n:Nat)(row:List C):V->V
 | .Be i es' AG=>if i=k/\es'=es/\AG.length=n then .gr k es (AG++[row])else .any
 | .hp _ _ _=>.any
 | v=>v
def O.Db (k es n:Nat)(row:List C):O->O
 | .box ty cs fr=>.box ty (cs.map (V.Db k es n row)) fr
 | .tok ty es cur=>.tok ty es cur
 | .Be ty es cur cs=>.tok ty es cur
 | .mp R=>.mp R
theorem CV.Db {x x':Cx}{k es n:Nat}{row:List C}(E:Ext x x' w w)(F:x'.loc=x.loc)(I:(x.loc k).cur=n+1)(G:row.length=es)(hk:B5 x'.S w row (x.loc k).b (n*es))(v:V)(u:Value)(h:CV x w v u):CV x' w (v.Db k es n row) u:=by
 cases v with
 | Be i B J =>
   simp only[V.Db];split;rename_i e;obtain⟨rfl,rfl,rfl⟩:=e;simp only[CV]at h ⊢;obtain⟨d1,d2,d3,d4,A,cap,rfl,d5⟩:=h;obtain⟨M,rfl,R,U,q,z⟩:=d5 I.symm;refine⟨E.dom i d1,by rw[F,d2],?_,Ty d3 (by simpa using G),by rw[F,I];simp,λ_=>?_⟩;have:=Ab.of_flat (S:=x'.S) (W:=w) (AG:=J++[row]) (es:=B) (b:=(x.loc i).b) (cap:=cap) (Ty d3 (by simpa using G)) (by simpa using R) U (by
    rw[Vd,B5.append,K7 d3];refine⟨B5.mono E.ar _ _ _ z,?_⟩;simpa using hk)
   simpa using this;rw[F,M];simp only[GW,if_false];exact⟨cap,by simp,q⟩;simp only[CV]
 | hp i m pos=>simp only[V.Db,CV]
 | _=>exact CV.mono E _ _ h
theorem AO.Db {x x':Cx}{w:World}{k es n:Nat}{row:List C}(F:Ext x x' w w)(I:x'.loc=x.loc)(E:(x.loc k).cur=n+1)(B:row.length=es)(G:B5 x'.S w row (x.loc k).b (n*es)):∀(l:List V) (us:List Value),AO x w l us->AO x' w (l.map (V.Db k es n row)) us
 | [],us,h=>by simpa only[BB,AO]using h
 | v::l,us,h=>by
   simp only[Ap,AO]at h ⊢;obtain⟨u,J,e,M,R⟩:=h;exact⟨u,J,e,CV.Db F I E B G v u M,AO.Db F I E B G l J R⟩
def AI8 (k:Nat)(h:List O):Prop:=∀(i:Nat) (ty:TypeId) (es cur:Nat) (cs:List V),h[i]?=some (O.Be ty es cur cs)->i=k
theorem Le.Db {t:List V}{h:List O}{es n:Nat}{row:List C}(W:h[k]?=some (.Be ty es (n+1) cs))(hr:toCs cs=some row)(A5:AI8 k h):Le m ⟨t,h⟩ ⟨t.map (V.Db k es n row),h.map (O.Db k es n row)⟩:=λS0 w0 x a w hm hA=>by
 have g:=hA.good;obtain⟨hd,b1,b2,b3,b4,b5,vs,b6,b7,b8,b9⟩:=g.ok k _ W;have Av:=toCs_ok hr b9;have OI:row.length=es:=by rw[toCs_len hr,b5]
 have A7:(n+1)*es=n*es+es:=by rw[Gz];omega
 let S':BF:=λb j=>x.S b j\/(b=(x.loc k).b/\n*es<=j/\j<(n+1)*es)
 have ar:Ar x.S S' w w:=⟨λ_ _ h=>.inl h,λ_ _ _ _ h=>h⟩
 have he:Ext x { x with S:=S' } w w:=⟨ar,λ_ h=>h,λ_ _=>FM.refl _⟩
 have Bn:B5 S' w row (x.loc k).b (n*es):=by
  refine B5.Pe (B4.mono ar _ _ Av) (λj u q=>?_) (λj hj=>.inr ⟨rfl,by omega,by omega⟩);rw[cell_of_row w _ _ vs ty (0,0) b6];simp only[aM]at q;rw[KO]at q;split at q;rw[List.getElem?_drop]at q;simpa using q;cases q
 have Iw : ∀(i:Nat) (o:O),(h.map (O.Db k es n row))[i]?=some o->∃B:O,h[i]?=some B/\o=B.Db k es n row:=by
  intro i o M;rw[CM,Ia]at M;obtain⟨o1,F,rfl⟩:=M;exact⟨o1,F,rfl⟩
 have A0 : ∀(i:Nat) (B:O) (j:Nat),h[i]?=some B->Ex { x with S:=S' } i (B.Db k es n row) j->Ex x i B j/\(i=k->(n+1)*es<=j):=by
  intro i B j J z;cases B with
  | box E G fr=>exact⟨z,λe=>by subst e;rw[W]at J;cases J⟩
  | tok E U YE=>exact⟨z,λe=>by subst e;rw[W]at J;cases J⟩
  | mp R=>exact⟨z,λe=>by subst e;rw[W]at J;cases J⟩
  | Be E U YE G =>
    have e:=A5 i _ _ _ _ J;subst e;rw[W]at J;cases J;obtain⟨F,h2,h3⟩:=z;exact⟨⟨by simp;omega,h3⟩,λ_=>h2⟩
 refine⟨{ x with S:=S' },⟨λi o M=>?_,λi J=>?_,λi i' o o' F h2 A3 hv A6=>?_,λi o j M z I=>?_,λb j I=>?_,λi o M hv=>?_,λb j I=>?_,λb j I=>.inl (g.sub b j I),g.keep,g.ext.trans he⟩,AO.Db he rfl b3 OI Bn t _ hA.tm,hA.df⟩;obtain⟨B,F,rfl⟩:=Iw i o M;obtain⟨h3,h4⟩:=g.ok i B F;refine⟨h3,?_⟩;cases B with
 | box E G fr=>obtain⟨a1,a2,Bz,a3,a4,a5⟩:=h4;exact⟨a1,a2,Bz,a3,a4,AO.Db he rfl b3 OI Bn G _ a5⟩
 | tok E U YE=>exact h4
 | mp R=>exact h4
 | Be E U YE G=>obtain⟨a1,a2,a3,a4,a5,Bz,a6,a7,_⟩:=h4;exact⟨a1,a3,λ_=>⟨Bz,a6,a7⟩⟩
 obtain⟨o,M⟩:=g.dom i J;have OF:i<h.length:=(Br.1 M).1;exact⟨_,BE (by simpa using OF)⟩;obtain⟨B,k1,_⟩:=Iw i o F;obtain⟨kg,k2,_⟩:=Iw i' o' h2;exact g.inj i i' B kg k1 k2 A3 hv A6;obtain⟨B,F,rfl⟩:=Iw i o M;obtain⟨ON,A2⟩:=A0 i B j F z;rcases I with I|⟨hb,_,hj⟩
 exact g.EA i B j F ON I;by_cases e:i=k;have:=A2 e;omega;have hv:(x.loc i).void=false:=by
  cases B with
  | box E G fr=>exact(g.ok i _ F).2.2.1
  | tok E es A1=>exact ON.1
  | Be E es A1 G=>exact(g.ok i _ F).2.2.1
  | mp R=>exact(g.ok i _ F).2.2.1
 exact g.inj i k B _ F W e hv b2 hb;rcases I with I|⟨rfl,_⟩
 exact g.ex b j I;exact(DO.1 b6).1;obtain⟨B,F,_⟩:=Iw i o M;exact g.own i B F hv;rcases I with I|⟨rfl,_⟩
 exact g.new b j I;exact .inr (g.own k _ W b2)
section
variable {P:Program} {ops:List Oper} {K:List Ef->St->Prop}
def TW (P:Program)(ops:List Oper)(K:List Ef->St->Prop)(l:List Oper)(acc:List Ef)(s:St):Prop:=∃es s',Ov P ops l s es s'/\K (acc++es) s'
theorem Ov.append : ∀ {l E:List Oper} {s F G:St} {es B:List Ef},Ov P ops l s es F->Ov P ops E F B G->Ov P ops (l++E) s (es++B) G
 | [],E,s,F,G,es,B,h,I=>by obtain⟨rfl,rfl⟩:=h;exact I
 | o::r,E,s,F,G,es,B,h,I=>by
   obtain⟨e,J,rfl,M,R,U⟩:=h;exact⟨e,J++B,rfl,M,R,Ov.append U I⟩
theorem TW.nil {B:List Ef}(h:K B s):TW P ops K [] B s:=⟨[],s,⟨rfl,rfl⟩,by simpa using h⟩
theorem TW.take (n:Nat){B:List Ef}(h:Ie P ops (λF s'=>TW P ops K (l.drop n) F s') (l.take n) B s):TW P ops K l B s:=by
 obtain⟨es,R,G,E,M,I,J⟩:=iL _ _ _ h;refine⟨es++E,M,?_,by simpa using J⟩;have:=Ov.append G I;rwa [aL]at this
theorem TW.op {B:List Ef}(e:Ef)(hg:BQ ops s.t o.guard=some true)(G : ∀k ob,e.t=some (k,ob)->k<=s.h.length)(z : ∀(S0:BF) (w0:Bs) (x:Cx) (a:Act) (w:World) (H:Bx),Good S0 w0 x w H->(∀y∈o.op.operands.toList,CV x w (ev s.t y) (a.eval y))->(∀k,e.rk=some k->H k=s.h[k]?)->BW P o a S0 w0 x w H e.v e.t)(h:TW P ops K r (B++[e]) (s.step o.dst e.v e.t)):TW P ops K (o::r) B s:=by
 obtain⟨es,s2,W,q⟩:=h;refine⟨e::es,s2,⟨e,es,rfl,?_,G,W⟩,by simpa using q⟩;intro S0 w0 x w a H g M hr _ Q next R;rw[QF M hg];obtain⟨nx,w',x',u,F,U,E,I,J,_⟩:=z S0 w0 x a w H g (QR M) λk G=>hr k (.inl G)
 show o.wp P a w next Q;unfold Er;rw[F];rcases U with rfl|⟨rfl,rfl⟩
 exact R u x' w' I J E;exact R undef x' w' I J E
theorem AW.Lm {id:Nat}{K:Exit->St->Prop}(G:P.follows .mixedOrders=true)(F:m.rd=none\/Pb ops=true)(h:TW P ops (λes s'=>Lk ops (es.map Ef.ks)=true/\K .normal s') ops [] s):AW m P (.region id ops.toArray true) K s:=by
 obtain⟨es,s',I,E,B⟩:=h;exact AW.AFD G F I (by simpa using E) B
end
def F3 (S:BF)(W W':World):Prop:=W.heap.size<=W'.heap.size/\Ar S S W W'
theorem F3.refl (S:BF)(W:World):F3 S W W:=⟨BN _,Ar.refl _ _⟩
theorem F3.trans {A B C:World}(h:F3 S A B)(k:F3 S B C):F3 S A C:=⟨Ps h.1 k.1,h.2.trans k.2⟩
theorem AEh {b j:Nat}{v:Value}(B:w.cell? ⟨b,j,none⟩=some v):∃vs ty F,w.heap[b]?=some (.cells vs ty F):=by
 unfold World.cell? at B;cases E:w.heap[b]? with
 | none=>simp[E]at B
 | some o=>cases o<;>first|exact⟨_,_,_,rfl⟩|simp[E]at B
theorem F3.put (W:World)(l:Nat)(o o':Obj)(h:W.heap[l]?=some o)(G:o.isCells=false):F3 S W (W.putObj l o'):=by
 refine⟨by simp[World.putObj],λ_ _ h=>h,λb j v _ F=>?_⟩;obtain⟨vs,ty,I,E⟩:=AEh F;have B:b≠l:=λe=>by subst e;rw[h]at E;cases E;cases G
 exact(RK (w:=W) (a:=⟨b,j,none⟩) (World.putObj_heap_other B)).trans F
def UU {α:Type}(P:Program)(gf:FuncId)(caps:List V)(encs:α->Array Value)(Sx:List α->Prop)(N:Nat):Prop:=
 ∀(n:Nat) (S:BF) (w:World) (lb:Array Value),(∀b j,S b j->b<w.heap.size)->AO (Cx.bare S) w caps lb.toList->SeqStopsK Cg n P gf lb encs (F3 S) Sx (λ_=>True) N w
section
variable {P:Program} {S0:BF} {w0:Bs} {x x':Cx} {w w':World} {H:Bx}
def O.Tn:O->Bool
 | .mp _=>false
 | _=>true
def vt (H:Bx):Prop:=∀k R,H k≠some (.mp R)
theorem To {h:List O}(B:(h.all O.Tn)=true):vt (λk=>h[k]?):=λk R e=>by
 have:=ES.1 B _ (Cj e);cases this
structure vq (w w':World):Prop where
 size:w.heap.size<=w'.heap.size
 same : ∀(b:Nat) (o:Obj),w.heap[b]?=some o->o.isCells=false->w'.heap[b]?=some o
theorem AZY {o:Obj}(h:still o=true):o.isCells=false:=by cases o<;>first|rfl|cases h
theorem vq.nc {w w':World}(h:vq w w'):NC w w':=⟨h.size,λb o B E=>h.same b o B (AZY E)⟩
theorem Ld.AEi {k:Nat}{o:O}(h:Ld x w k o)(E : ∀R,o≠.mp R)(F:(x.loc k).void=false):∃vs ty,w.heap[(x.loc k).b]?=some (.cells vs ty (0,0)):=by
 cases o with
 | box ty cells G=>obtain⟨_,_,vs,h,_⟩:=h;exact⟨vs,ty,h⟩
 | tok ty es B=>obtain⟨_,_,h⟩:=h;obtain⟨vs,h,_⟩:=h F;exact⟨vs,ty,h⟩
 | Be ty es B cells=>obtain⟨_,_,_,_,_,vs,h,_⟩:=h;exact⟨vs,ty,h⟩
 | mp R=>exact absurd rfl (E R)
def Bs.XQ (w0:Bs)(w:World)(h:w0.w.heap.size<=w.heap.size)(x:Cx)(n0:Nat)(hd : ∀k,x.dom k->k<n0):Bs:=
 ⟨w,λb=>w0.F b\/∃o:Obj,w.heap[b]?=some o/\o.isCells=false,λb hb=>by
   rcases hb with hb|⟨o,hb,_⟩
   exact H7 (w0.lt b hb) h;exact(DO.1 hb).1,x,n0,hd⟩
theorem Good.lB (g:Good S0 w0 x w H)(I:vt H)(G:Nat)(U : ∀k,x.dom k->k<G):Good x.S (w0.XQ w g.keep.size x G U) x w H:=by
 refine⟨g.ok,g.dom,g.inj,g.EA,g.ex,λk o h F B=>?_,λb j h=>.inl h,λ_ _ h=>h,.FR (Ay.refl w),Ext.refl x w⟩;rcases B with B|⟨W,E,J⟩
 exact g.own k o h F B;obtain⟨vs,ty,M⟩:=(g.ok k o h).2.AEi (λR e=>I k R (by rw[h,e])) F;rw[M]at E;cases E;cases J
theorem Good.lZ {G:Bx}{I:Nat}{J : ∀k,x.dom k->k<I}(g:Good S0 w0 x w H)(B:Good x.S (w0.XQ w g.keep.size x I J) x' w' G):Good S0 w0 x' w' G/\vq w w':=by
 refine⟨⟨B.ok,B.dom,B.inj,B.EA,B.ex,λk o h U E=>B.own k o h U (.inl E),λb j h=>?_,λb j h=>B.sub b j (g.sub b j h),g.keep.trans (B.keep.wide λb F E=>F (.inl E)),g.ext.trans B.ext⟩,B.keep.size,λb o F R=>?_⟩;rcases B.new b j h with h|h
 exact g.new b j h;exact .inr λE=>h (.inl E)
 exact(B.keep.block b (DO.1 F).1 λM=>M (.inr ⟨o,F,R⟩)).trans F
theorem Good.jI {row:Option Nat}(g:Good S0 w0 x w H)(q:vt H)(B:w.grownBy w' row)(W : ∀r,row=some r->¬w0.F r/\∃o:Obj,w.heap[r]?=some o/\o.isCells=false):Good S0 w0 x w' H/\Ext x x w w':=by
 have M : ∀(b:Nat) (vs:Array Value) (ty:TypeId) (E:Nat×Nat),w.heap[b]?=some (Obj.cells vs ty E)->w'.heap[b]?=w.heap[b]?:=λb vs ty E h=>B.block b (DO.1 h).1 λe=>by
  obtain⟨_,o,G,I⟩:=W b e.symm;rw[h]at G;cases G;cases I
 have J:Ext x x w w':=⟨⟨λ_ _ h=>h,λb j v _ U=>by
  obtain⟨vs,ty,E,hh⟩:=AEh U;exact(RK (M b vs ty E hh)).trans U⟩,λ_ h=>h,λ_ _=>FM.refl _⟩
 refine⟨⟨λk o h=>?_,g.dom,g.inj,g.EA,λb j h=>H7 (g.ex b j h) B.size,g.own,g.new,g.sub,g.keep.trans ⟨B.os,B.tape,B.output,B.size,λk hk hn=>B.block k hk λe=>hn (W k e.symm).1⟩,g.ext.trans J⟩,J⟩;obtain⟨G,I⟩:=g.ok k o h;exact⟨G,I.mono J rfl λhv=>by obtain⟨vs,ty,z⟩:=I.AEi (λR e=>q k R (by rw[h,e])) hv;exact M _ _ _ _ z⟩
theorem iP {lp n:Nat}{p d:Tmp}(ho:o.op=.assign (.tmp p))(B:o.dst=some d)(E:o.guard=none){id:Nat}{t:Array Value}{W:World}{K:Act->World->Prop}(h:K { tmps:=t.setIfInBounds d (t.getD p undef),defers:=[] } W):
 (Code.region id #[o] false).wpIn (Cg.inRound lp) n P (Exit.then K (λ_ _ _=>False)) { tmps:=t,defers:=[] } W:=by
 refine wpIn_region_lit (l:=[o]) ?_;unfold wpListIn;rw[if_pos (by simp[FB,E])];refine dm (λc e=>by rw[ho]at e;cases e) ?_;unfold Er;simp only[execOp,ho,Sem.run_pure,B,Act.put,Act.eval,Nt,wpListIn,Exit.then];exact h
theorem AW.range {α:Type}{n1:Nat}{g:Operand}{p d:Tmp}{id:Nat}{body:Code}{gf:FuncId}{caps Lj:List V}(ho:o.op=.assign (.tmp p))(Rs:o.dst=some d)(hgd:o.guard=none)(hg:ev s.t g=.fn gf caps)(hp:V.CF caps=some Lj)(Ff:P.funcs[gf]?=some fn)(Iq:fn.body.isSome=true)(Hy:(fn.name == "runtime.NumGoroutine")=false)(enc:α->Value)(Ij:α->V)(Wb : ∀x' W y,CV x' W (Ij y) (enc y))(Sx:List α->Prop)(N:Nat)(NU:UU P gf Lj (λy=>#[enc y]) Sx N)(hf:List α->List O)(h0:s.h=hf [])(n0:Nat)(hlen : ∀pre,(hf pre).length=n0)(hpl:p<s.t.length)(HK : ∀(lp:Nat) (pre:List α) (y:α),pre.length<N->AW ⟨some lp,n0⟩ P body (λe s'=>e=.normal/\∃t',Le ⟨some lp,n0⟩ s' ⟨t',hf (pre++[y])⟩) ⟨(s.t.set p (Ij y)).set d (Ij y),hf pre⟩)(hdone : ∀xs,Sx xs->K .normal ⟨s.t,hf xs⟩)(Hi : ∀pre,((hf pre).all O.Tn)=true:=by intro _;rfl):AW ⟨none,n1⟩ P (.rangeFunc g #[p] (.region id #[o] false) body) K s:=λn S0 w0 x a w hm hA=>by
 have FI:=CW hA.tm g;rw[hg]at FI;simp only[CV]at FI;obtain⟨lb,FI,EP⟩:=FI;have hc':=MC _ _ _ hp EP;have hb:fn.body≠none:=by intro e;rw[e]at Iq;cases Iq
 have hn:fn.name≠ "runtime.NumGoroutine":=by simpa using Hy
 have eg : ∀args w,(callFunc gf args).run P w=.ok (.enter gf args) w:=λargs w=>by simp[callFunc,program,Sem.run,Ff,hn,hb]
 have hsize : ∀ {D:Nat},w.heap.size<=D->¬w0.F D:=λh=>hA.good.fresh h
 have PA : ∀Ds:List Nat,a.defers=Ds.map (λD=>{ target:=.collected D,args:=#[] })->∀D∈Ds,D<w.heap.size:=by
  intro Ds e D hD;obtain⟨n9,f1,f2,f3⟩:=hA.df;have hm:({ target:=.collected D,args:=#[] }:Deferred)∈a.defers:=by rw[e];exact List.mem_map.2 ⟨D,hD,rfl⟩
  rw[f1]at hm;obtain⟨D',Fs,e'⟩:=List.mem_map.1 hm;have:D'=D:=by injection e' with e1 e2;injection e1
  subst this;exact(Array.getElem?_eq_some_iff.1 (f3 D' Fs).2).1
 have hs:s=⟨s.t,hf []⟩:=by rw[<-h0]
 refine wpIn_wide.2 ((wpIn_wide (n:=2)).1 (wpIn_rangeFunc_ownH (F:=Fence.wide) (n:=2) (α:=α) (ps:=#[p]) (encs:=λy=>#[enc y]) (Kp:=F3 x.S) (S:=Sx) (Sp:=λ_=>True) (N:=N) (w0:=w) rfl (by omega) FI trivial eg (NU _ x.S w lb hA.good.ex hc') (λh k=>h.trans k) (λW l o o' _ h hc _=>F3.put W l o o' h hc) (Below.refl _ _) (λ_=>rfl)
  (λpre W=>∃x',Bo S0 w0 x' ⟨s.t,hf pre⟩ a W/\Ar x.S x'.S w W) (λ_ _ _=>False) ?_ (λ_ _ _ _ _ h=>h.elim) ⟨x,by rw[<-hs];exact hA,Ar.refl _ _⟩
  (λy a' _=>a'={ tmps:=((#[p].zip #[enc y]).foldl (λt (p,v)=>t.setIfInBounds p v) a.tmps).setIfInBounds d (((#[p].zip #[enc y]).foldl (λt (p,v)=>t.setIfInBounds p v) a.tmps).getD p undef),defers:=[] }) (λ_ _ _ _ _ _ h _ _=>h) ?_ ?_ ?_ (λ_ _ _ _ _ _ h _=>h.elim)))
 rintro pre W W' row ⟨x',Au,CZ⟩ hgr hr;obtain⟨g',he⟩:=Au.good.jI (To (Hi pre)) hgr λr e=>⟨hsize (hr r e).1,(hr r e).2⟩
 refine⟨x',⟨g',AO.mono he _ _ Au.tm,?_⟩,CZ.trans he.ar⟩;obtain⟨Ds,e1,e2,e3⟩:=Au.df;refine⟨Ds,e1,e2,λD hD=>⟨(e3 D hD).1,?_⟩⟩;have h2:=(e3 D hD).2;rw[hgr.block D (Array.getElem?_eq_some_iff.1 h2).1 (λe=>by have:=(hr D e.symm).1;have:=PA Ds e1 D hD;omega)];exact h2;intro l pre y W K hI hK;exact iP ho Rs hgd (hK _ W (KeepsFrom.refl _ _) (F3.refl _ _) hI rfl);rintro l pre y a' W hl Iz ⟨x',Au,CZ⟩ rfl hN;have Ls : ∀k,x'.dom k->k<n0:=λk hk=>by
  obtain⟨o,ho⟩:=Au.good.dom k hk;have:=(List.getElem?_eq_some_iff.1 ho).1;rw[<-hlen pre];exact this
 have hsl:AO x' W ((s.t.set p (Ij y)).set d (Ij y)) (((#[p].zip #[enc y]).foldl (λt (p,v)=>t.setIfInBounds p v) a.tmps).setIfInBounds d (((#[p].zip #[enc y]).foldl (λt (p,v)=>t.setIfInBounds p v) a.tmps).getD p undef)).toList:=by
  have e1:((#[p].zip #[enc y]).foldl (λ(t:Array Value) (q:Tmp×Value)=>t.setIfInBounds q.1 q.2) a.tmps)=a.tmps.setIfInBounds p (enc y):=by simp
  have hl:a.tmps.size=s.t.length:=by have:=Au.tm.len;simpa using this
  have e2:(a.tmps.setIfInBounds p (enc y)).getD p undef=enc y:=by
   rw[Array.getD_eq_getD_getElem?,Array.getElem?_setIfInBounds_self_of_lt (by rw[hl];exact hpl)];rfl
  rw[e1,e2];simp only[Array.toList_setIfInBounds];exact(Au.tm.set p (Wb _ _ _)).set d (Wb _ _ _)
 have Ec:Bo x'.S (w0.XQ W Au.good.keep.size x' n0 Ls) x' ⟨(s.t.set p (Ij y)).set d (Ij y),hf pre⟩ { tmps:=((#[p].zip #[enc y]).foldl (λt (p,v)=>t.setIfInBounds p v) a.tmps).setIfInBounds d (((#[p].zip #[enc y]).foldl (λt (p,v)=>t.setIfInBounds p v) a.tmps).getD p undef),defers:=[] } W:=⟨Au.good.lB (To (Hi pre)) n0 Ls,hsl,Marks.nil _ _⟩
 refine wpIn_mono (HK l pre y hN _ _ _ _ _ _ (Nat.le_refl _) Ec) λe oL Xx Rd=>?_
 obtain⟨x2,s2,Fb,rfl,t',hle⟩:=Rd;obtain⟨x3,Ik⟩:=hle _ _ _ _ _ (Nat.le_refl _) Fb;obtain⟨g3,CB⟩:=Au.good.lZ Ik.good;have Fe:Ext x' x3 W Xx:=Ik.good.ext;exact⟨⟨CB.size,λk o _ hk ho=>CB.same k o hk ho⟩,⟨CB.size,λ_ _ h=>h,λb j v h hc=>Fe.ar.cell b j v (CZ.sub b j h) hc⟩,x3,⟨g3,AO.mono Fe _ _ Au.tm,Au.df.mono CB.nc⟩,CZ.trans Fe.ar⟩;rintro D xs W hD hS ⟨x',Au,CZ⟩ Rm;obtain⟨Ds,e1,e2,e3⟩:=Au.df;refine⟨x',⟨s.t,hf xs⟩,⟨Au.good,Au.tm,D::Ds,by simp[e1],List.nodup_cons.2 ⟨λh=>by have:=PA Ds e1 D h;omega,e2⟩,λD' Fs=>?_⟩,hdone xs hS⟩;rcases List.mem_cons.1 Fs with rfl|h
 exact⟨hsize hD,Rm⟩;exact e3 D' h
end
section
def vy {α:Type}(n:Nat)(P:Program)(g:Nat)(lb:Array Value)(encs:List α->α->Array Value)(Kp:World->World->Prop)(Sx:List α->Prop)(N:Nat)(w:World):Prop:=
 ∀(l:Nat) (J Jx:List α->World->Prop) (W:World),Below w.heap.size w W->AbidesFrom W.heap.size J->AbidesFrom W.heap.size Jx->
  (∀pre x W1,J pre W1->pre.length<N->YieldAt Cg (n - 1) P l (encs pre x) W1 λe W'=>(e=.returned (.bool true)/\J (pre++[x]) W'/\Kp W1 W')\/(e=.returned (.bool false)/\Jx (pre++[x]) W'))->
  J [] W->CallsIn Cg n P g (#[.func (.yield l) #[] #[]]++lb) W λe W'=>(∃v,e=.returned v)/\((∃xs,Sx xs/\J xs W')\/(∃pre,True/\Jx pre W'))
def MS {α:Type}(P:Program)(gf:FuncId)(caps:List V)(encs:List α->α->Array Value)(Sx:List α->Prop)(N:Nat):Prop:=
 ∀(n:Nat) (S:BF) (w:World) (lb:Array Value),(∀b j,S b j->b<w.heap.size)->AO (Cx.bare S) w caps lb.toList->vy n P gf lb encs (F3 S) Sx N w
structure Gh (α:Type) where
 pre:List α
 off:Bool
structure Ic (α:Type)(P:Program)(encs:List α->α->Array Value)(N:Nat) where
 n:Nat
 l:Nat
 S:BF
 J:List α->World->Prop
 Jx:List α->World->Prop
 aj : ∀pre W W',J pre W->Ay W W'->J pre W'
 ax : ∀pre W W',Jx pre W->Ay W W'->Jx pre W'
 yd : ∀pre x W1,J pre W1->pre.length<N->YieldAt Cg (n - 1) P l (encs pre x) W1 λe W' =>
  (e=.returned (.bool true)/\J (pre++[x]) W'/\F3 S W1 W')\/(e=.returned (.bool false)/\Jx (pre++[x]) W')
variable {α:Type} {P:Program} {encs:List α->α->Array Value} {N:Nat} {Y:Ic α P encs N}
def Ic.G (Y:Ic α P encs N)(g:Gh α)(W:World):Prop:=if g.off then Y.Jx g.pre W else Y.J g.pre W
def Ic.A (Y:Ic α P encs N)(g:Gh α):BF:=λb j=>g.off=false/\Y.S b j
theorem Ic.keep {g:Gh α}{W B:World}(h:Y.G g W)(E:Ay W B):Y.G g B:=by
 unfold Ic.G at *
 split at h;rename_i e;rw[if_pos e];exact Y.ax _ _ _ h E;rename_i e;rw[if_neg e];exact Y.aj _ _ _ h E
def IA (Y:Ic α P encs N)(g:Gh α)(s:St)(a:Act)(w:World):Prop:=∃W1 x,Y.G g W1/\x.S=Y.A g/\a.defers=[]/\Bo (Y.A g) (Bs.of W1) x s a w
def IW (Y:Ic α P encs N)(c:Code)(K:Exit->Gh α->St->Prop)(g:Gh α)(s:St):Prop:=∀a w,IA Y g s a w->c.wpIn Cg Y.n P (λe a w=>∃g s,IA Y g s a w/\K e g s) a w
def kL (nx:Gh α->St->Prop)(K:Exit->Gh α->St->Prop):Exit->Gh α->St->Prop
 | .normal,g,s=>nx g s
 | e,g,s=>K e g s
def dO (id:Nat)(K:Exit->Gh α->St->Prop):Exit->Gh α->St->Prop
 | .exit i,g,s=>if i=id then K .normal g s else K (.exit i) g s
 | e,g,s=>K e g s
section
variable {K:Exit->Gh α->St->Prop} {g:Gh α} {s:St}
theorem AHn {B:Gh α->St->Prop}(h:B g s):kL B K .normal g s:=h
theorem AHo {B:Gh α->St->Prop}(h:K .ret g s):kL B K .ret g s:=h
theorem AHm {B:Gh α->St->Prop}{i:Nat}(h:K (.exit i) g s):kL B K (.exit i) g s:=h
theorem AHk {id:Nat}(h:K .normal g s):dO id K .normal g s:=h
theorem AHl {id:Nat}(h:K .ret g s):dO id K .ret g s:=h
theorem AHj {id:Nat}(h:K .normal g s):dO id K (.exit id) g s:=by simp only[dO,if_true];exact h
theorem IW.skip (h:K .normal g s):IW Y .skip K g s:=λa w B=>wpIn_skip ⟨g,s,B,h⟩
theorem IW.ret (h:K .ret g s):IW Y .ret K g s:=λa w B=>wpIn_ret ⟨g,s,B,h⟩
theorem IW.exit {id:Nat}(h:K (.exit id) g s):IW Y (.exit id) K g s:=λa w B=>wpIn_exit ⟨g,s,B,h⟩
theorem IW.seq {c d:Code}(h:IW Y c (kL (IW Y d K) K) g s):IW Y (.seq c d) K g s:=λa w F=>wpIn_seq (wpIn_mono (h a w F) λe a w ⟨g,s,B,E⟩=>by
 cases e with
 | normal=>exact E a w B
 | _=>exact⟨g,s,B,E⟩)
theorem IW.block {id:Nat}{c:Code}(h:IW Y c (dO id K) g s):IW Y (.block id c) K g s:=λa w F=>wpIn_block (wpIn_mono (h a w F) λe a w ⟨g,s,E,B⟩=>by
 cases e with
 | exit i=>simp only[dO,Exit.inBlock]at B ⊢;split;rename_i e;rw[if_pos e]at B;exact⟨g,s,E,B⟩;rename_i e;rw[if_neg e]at B;exact⟨g,s,E,B⟩
 | _=>exact⟨g,s,E,B⟩)
theorem IW.cond {c:Operand}{d I:Code}(W:ev s.t c=.c (.bool b))(h:b=true->IW Y d K g s)(R:b=false->IW Y I K g s):IW Y (.cond c d I) K g s:=λa w U=>by
 obtain⟨G,x,J,M,F,B⟩:=U;have E:=CW B.tm c;rw[W]at E;simp only[CV,Ab]at E;exact wpIn_cond_split E (λe=>h e a w ⟨G,x,J,M,F,B⟩) (λe=>R e a w ⟨G,x,J,M,F,B⟩)
def G1 (s s':St):Prop:=∀(S0:BF) (w0:Bs) (x:Cx) (a:Act) (w:World),w0.n0=0->Bo S0 w0 x s a w->∃x',x'.S=x.S/\Bo S0 w0 x' s' a w
theorem G1.refl (s:St):G1 s s:=λ_ _ x _ _ _ h=>⟨x,rfl,h⟩
theorem IW.le {c:Code}{s':St}(M:G1 s s')(h:IW Y c K g s'):IW Y c K g s:=λa w ⟨E,x,G,I,B,J⟩=>by
 obtain⟨x',e,F⟩:=M _ _ _ _ _ rfl J;exact h a w ⟨E,x',G,e.trans I,B,F⟩
theorem IW.loop {c:Code}(I:ι->Gh α×St)(G:ι->Nat)(F:ι)(hg:(I F).1=g)(z:G1 s (I F).2)(h : ∀i,IW Y c (kL (λW s'=>∃j,G j<G i/\(I j).1=W/\G1 s' (I j).2) K) (I i).1 (I i).2):IW Y (.loop c) K g s:=λa w ⟨M,x,B,E,J,h3⟩=>by
 obtain⟨x',e,q⟩:=z _ _ _ _ _ rfl h3;subst hg;refine AMC (λi a w=>IA Y (I i).1 (I i).2 a w) G F ⟨M,x',B,e.trans E,J,q⟩ λi a w hi=>?_
 refine wpIn_mono (h i a w hi) λe a w ⟨g,s,B,E⟩=>?_
 cases e with
 | normal=>obtain⟨j,hj,rfl,hl⟩:=E;obtain⟨R,x2,k1,k2,kd,k3⟩:=B;obtain⟨x3,U,k4⟩:=hl _ _ _ _ _ rfl k3;exact⟨j,⟨R,x3,k1,U.trans k2,kd,k4⟩,hj⟩
 | _=>exact⟨g,s,B,E⟩
def IL (Y:Ic α P encs N)(ops:List Oper)(K:Exit->Gh α->St->Prop)(l:List Oper)(g:Gh α)(s:St):Prop:=∀a w,IA Y g s a w->wpListIn Cg Y.n P ops.toArray (λe a w=>∃g s,IA Y g s a w/\K e g s) l a w
variable {ops:List Oper}
theorem IW.region {id:Nat}(h:IL Y ops K ops g s):IW Y (.region id ops.toArray false) K g s:=λa w B=>wpIn_region_lit (h a w B)
theorem IL.nil (h:K .normal g s):IL Y ops K [] g s:=λa w B=>⟨g,s,B,h⟩
theorem AI9 {n:Nat}{K:Act->World->Prop}(h:o.wp P a w K Q):o.wpIn Cg n P a w K Q:=by
 refine⟨λ_ _=>trivial,?_⟩;rw[show Cg.round=none from rfl,Oper.semAt_none];unfold Er at h;generalize (execOp a.eval o).run P w=r at h ⊢;cases r with
 | ok x w' =>
   cases x<;>simp only[Nt,ue]at h ⊢<;>
    first
     | exact h
     | exact h.elim
     | exact⟨λe=>(by cases e),callsIn_wide.2 h⟩
     | exact⟨λe=>(by cases e),λc cs _=>let ⟨v,w',r,s⟩:=h c cs;⟨v,w',r,stepsIn_wide.2 s⟩⟩
 | halt x w'=>cases x<;>simp only[Nt,ue]at h ⊢<;>exact h
theorem IL.run : ∀ {l l':List Oper} {s s':St},VS P ops l s=some (l',s')->(l.all λo=> !AAH o.op)=true->IL Y ops K l' g s'->IL Y ops K l g s
 | [],l',s,s',h,_,E=>by simp only[VS,BL,Cr]at h;obtain⟨rfl,rfl⟩:=h;exact E
 | o::r,l',s,s',h,q,E=>by
   unfold VS at h;simp only[List.all_cons,Ak,Bool.not_eq_true']at q;have hr:(r.all λo=> !AAH o.op)=true:=q.2;split at h;rename_i hg;split at h;rename_i hc;split at h;rename_i s1 z;unfold Qw at z;split at z;rename_i v t G;cases z;intro a w ⟨R,x,U,W,M,B⟩;have hw:FB o (yielded ops.toArray a.tmps)=true:=by
    have:=KR (o:=o) B.tm (IF (ops:=ops) (K1:=True) (K2:=False) hg trivial);exact Kn λh=>this.2 h
   unfold wpListIn;rw[if_pos hw];refine AI9 ?_;obtain⟨nx,w',x',u,J,EH,I,F,he,_,hS⟩:=oW B.good.XR (λy _=>CW B.tm y) (λ_ _=>B.fresh) G;rw[<-Kj _ _ (oZ G)]at F;obtain⟨F,CB⟩:=B.good.Sg he F;unfold Er;rw[J];rcases EH with rfl|⟨rfl,rfl⟩
   exact IL.run h hr E _ _ ⟨R,x',U,(hS q.1).trans W,by rw[SM];exact M,Bo.put B.tm (B.df.mono CB) he F I o.dst⟩;exact IL.run h hr E _ _ ⟨R,x',U,(hS q.1).trans W,by rw[SM];exact M,Bo.put B.tm (B.df.mono CB) he F I o.dst⟩;cases z;cases h;simp only[BL,Cr]at h;obtain⟨rfl,rfl⟩:=h;exact E;rename_i hg;intro a w ⟨R,x,U,W,M,B⟩;have hw : ¬FB o (yielded ops.toArray a.tmps)=true:=by
    have:=KR (o:=o) B.tm (X8 (ops:=ops) (K1:=False) (K2:=True) hg trivial);exact λh=>this.1 h
   unfold wpListIn;rw[if_neg hw];exact⟨λ_ _=>trivial,IL.run h hr E _ _ ⟨R,x,U,W,by rw[SM];exact M,Bo.put (v:=.A7 []) (u:=undef) B.tm B.df (Ext.refl x w) B.good (ld x w) o.dst⟩⟩;cases h
end
mutual
theorem CV.bare {x:Cx}{w:World} : ∀(v:V) (u:Value),v.A8 0=true->CV x w v u->CV (Cx.bare x.S) w v u
 | .ptr k E,u,B,h=>by simp[V.A8]at B
 | .own k E len es,u,B,h=>by simp[V.A8]at B
 | .gr k es F,u,B,h=>by simp[V.A8]at B
 | .Be k es F,u,B,h=>by simp[V.A8]at B
 | .hp k n pos,u,B,h=>by simp[V.A8]at B
 | .agg l,u,B,h=>by simp only[V.A8]at B;simp only[CV]at h ⊢;obtain⟨vs,e,h⟩:=h;exact⟨vs,e,AO.bare l _ B h⟩
 | .A7 l,u,B,h=>by simp only[V.A8]at B;simp only[CV]at h ⊢;obtain⟨vs,e,h⟩:=h;exact⟨vs,e,AO.bare l _ B h⟩
 | .fn f l,u,B,h=>by simp only[V.A8]at B;simp only[CV]at h ⊢;obtain⟨vs,e,h⟩:=h;exact⟨vs,e,AO.bare l _ B h⟩
 | .any,u,_,h=>by simp only[CV]
 | .c _,u,_,h=>by simpa only[CV,Cx.bare]using h
 | .cp _ _,u,_,h=>by simpa only[CV,Cx.bare]using h
 | .Bg _,u,_,h=>by simpa only[CV,Cx.bare]using h
 | .yl _,u,_,h=>by simpa only[CV]using h
 | .mp k,u,B,_=>by simp[V.A8]at B
theorem AO.bare {x:Cx}{w:World} : ∀(l:List V) (us:List Value),V.BI 0 l=true->AO x w l us->AO (Cx.bare x.S) w l us
 | [],us,_,h=>by simpa only[AO]using h
 | v::l,us,B,h=>by
   simp only[V.BI,Ak]at B;simp only[AO]at h ⊢;obtain⟨u,E,e,F,G⟩:=h;exact⟨u,E,e,CV.bare v u B.1 F,AO.bare l E B.2 G⟩
end
theorem wE {W:World}{t:List V}(B : ∀b j,S b j->b<W.heap.size)(F:AO (Cx.bare S) W t a.tmps.toList)(E:Marks (Bs.of W) a.defers W):Bo S (Bs.of W) (Cx.bare S) ⟨t,[]⟩ a W:=
 ⟨⟨λk o h=>by simp at h,λk h=>h.elim,λk k' o G h=>by simp at h,λk o j h=>by simp at h,B,λk o h=>by simp at h,λb j h=>.inl h,λb j h=>h,.FR (Ay.refl W),Ext.none _ _ _⟩,F,E⟩
theorem G1.drop {t F:List V}{h:List O}(hs:DG t F)(hb:V.BI 0 F=true):G1 ⟨t,h⟩ ⟨F,[]⟩:=λS0 w0 x a w I B=>by
 have:=tI hs B.tm;refine⟨Cx.bare x.S,rfl,⟨λk o h=>by simp at h,λk h=>h.elim,λk k' o J h=>by simp at h,λk o j h=>by simp at h,B.good.ex,λk o h=>by simp at h,B.good.new,B.good.sub,B.good.keep,?_⟩,AO.bare _ _ hb this,B.df⟩;have G : ∀k,¬w0.x0.dom k:=λk E=>by have:=w0.dl k E;omega
 exact⟨⟨B.good.ext.ar.sub,B.good.ext.ar.cell⟩,λk E=>absurd E (G k),λk E=>absurd E (G k)⟩
section
variable {K:Exit->Gh α->St->Prop} {s:St} {ops:List Oper}
theorem tc (E:AO x w s.t a.tmps.toList)(B:BQ ops s.t o.guard=some true):FB o (yielded ops.toArray a.tmps)=true:=by
 have:=KR (o:=o) E (IF (ops:=ops) (K1:=True) (K2:=False) B trivial);exact Kn λh=>this.2 h
theorem IL.AME {f:Operand}{ys:Array Operand}{pre:List α}(z:α)(t' t2:List V)(h2 : ∀(x x':Cx) (w w':World) (us:List Value),AO x w s.t us->AO x' w' t2 us)(ho:o.op=.call ⟨.value f,ys,Fk⟩)(hg:BQ ops s.t o.guard=some true)(hf:ev s.t f=.yl Y.l)(hy : ∀(x:Cx) (w:World) (us:List Value),AO x w (ys.toList.map (ev s.t)) us->encs pre z=us.toArray)(hN:pre.length<N)(hs:DG s.t t')(hb:V.BI 0 t'=true)(ht:IL Y ops K r ⟨pre++[z],false⟩ (St.put ⟨t',[]⟩ o.dst (.c (.bool true))))(hx:IL Y ops K r ⟨pre++[z],true⟩ (St.put ⟨t2,[]⟩ o.dst (.c (.bool false)))):IL Y ops K (o::r) ⟨pre,false⟩ s:=λa w ⟨W1,x,h1,A2,R,B⟩=>by
 have hk:Ay W1 w:=B.good.keep.all;have hJ:Y.J pre w:=Y.aj _ _ _ (by simpa [Ic.G]using h1) hk;obtain⟨fn,M,A0,bd,F,hR⟩:=Y.yd pre z w hJ hN;have q:=CW B.tm f;rw[hf]at q;simp only[CV]at q;have PW:encs pre z=ys.map a.eval:=(hy _ _ _ (AO.of_map λy _=>CW B.tm y)).trans (by apply Gx.1;simp);unfold wpListIn;rw[if_pos (tc B.tm hg)];refine⟨λ_ _=>trivial,?_⟩;rw[show Cg.round=none from rfl,Oper.semAt_none];have U:(execOp a.eval o).run P w=.ok (.round Y.l fn M A0 bd) w:=by
  rw[PW]at F;simp[execOp,ho,resolve,q,M5,invoke,F]
 rw[U];refine⟨λe=>(by cases e),hR.mono ?_⟩;have qS:x.S=Y.S:=by rw[A2];funext b j;simp[Ic.A]
 have Gr:Y.A ⟨pre++[z],false⟩=Y.S:=by funext b j;simp[Ic.A]
 have Ec:Y.A ⟨pre++[z],true⟩=λ_ _=>False:=by funext b j;simp[Ic.A]
 have FE:a.tmps.size=s.t.length:=by have:=B.tm.len;simpa using this
 have E : ∀(t:List V) (S:BF) (W:World) (b:Bool),AO (Cx.bare S) W t a.tmps.toList->AO (Cx.bare S) W (St.put ⟨t,[]⟩ o.dst (.c (.bool b))).t (a.put o.dst (.bool b)).tmps.toList:=by
  intro t S W b h;rw[AJ7];cases o.dst with
  | none=>exact h
  | some d=>exact h.set d (by simp only[CV,Ab])
 have hh : ∀(t:List V) (b:Bool),(St.put ⟨t,[]⟩ o.dst (.c (.bool b))).h=[]:=by intro t b;cases o.dst<;>rfl
 have I : ∀(t:List V) (b:Bool),St.put ⟨t,[]⟩ o.dst (.c (.bool b))=⟨(St.put ⟨t,[]⟩ o.dst (.c (.bool b))).t,[]⟩:=by intro t b;cases o.dst<;>rfl
 rintro e W' (⟨rfl,yE,A1,CZ⟩|⟨rfl,yE⟩);refine ht _ _ ⟨W',Cx.bare Y.S,by simpa [Ic.G]using yE,Gr.symm,by rw[SM];exact R,?_⟩;rw[Gr,I];refine wE (λb j h=>H7 (B.good.ex b j (by rw[qS];exact h)) A1) (E _ _ _ _ ?_) (by rw[SM,R];exact Marks.nil _ _);have h4:=AO.bare _ _ hb (tI hs B.tm);rw[qS]at h4;have kI:Ext (Cx.bare Y.S) (Cx.bare Y.S) w W':=⟨CZ,λ_ h=>h,λ_ h=>h.elim⟩
 exact AO.mono kI _ _ h4;refine hx _ _ ⟨W',Cx.bare λ_ _=>False,by simpa [Ic.G]using yE,Ec.symm,by rw[SM];exact R,?_⟩;rw[Ec,I];exact wE (λb j h=>h.elim) (E _ _ _ _ (h2 _ _ _ _ _ B.tm)) (by rw[SM,R];exact Marks.nil _ _)
theorem IL.AMF {f y:Operand}{pre:List α}(z:α)(E:List V)(ho:o.op=.call ⟨.value f,#[y],Fk⟩)(J:o.guard=none)(I:ev s.t f=.yl Y.l)(U : ∀(x:Cx) (w:World) (u:Value),CV x w (ev s.t y) u->encs pre z=#[u])(G:pre.length<N)(hs:DG s.t E)(hb:V.BI 0 E=true)(M:IL Y ops K r ⟨pre++[z],false⟩ (St.put ⟨E,[]⟩ o.dst (.c (.bool true))))(R:IL Y ops K r ⟨pre++[z],true⟩ (St.put ⟨Aq s.t.length .any,[]⟩ o.dst (.c (.bool false)))):IL Y ops K (o::r) ⟨pre,false⟩ s:=IL.AME z E _ (λx x' w w' us h=>by
 rw[<-h.len];exact AO.SI (by simp) λj v u B W=>by
  rw[List.getElem?_replicate]at B;split at B;cases B;simp only[CV];cases B) ho (by rw[J];rfl) I (λx w us h=>by
 simp only[Ap,BB,AO]at h;obtain⟨u,_,rfl,F,rfl⟩:=h;exact U x w u F) G hs hb M R
theorem IL.yield {f y:Operand}{pre:List α}(z:α)(B:List V)(ho:o.op=.call ⟨.value f,#[y],Fk⟩)(I:o.guard=none)(G:ev s.t f=.yl Y.l){E:IntKind}{i:Int}(R:ev s.t y=.c (.int E i))(U:encs pre z=#[.int E i])(F:pre.length<N)(hs:DG s.t B)(hb:V.BI 0 B=true)(J:IL Y ops K r ⟨pre++[z],false⟩ (St.put ⟨B,[]⟩ o.dst (.c (.bool true))))(M:IL Y ops K r ⟨pre++[z],true⟩ (St.put ⟨Aq s.t.length .any,[]⟩ o.dst (.c (.bool false)))):IL Y ops K (o::r) ⟨pre,false⟩ s:=IL.AMF z B ho I G (λx w u h=>by rw[R]at h;simp only[CV,Ab]at h;rw[U,h.1]) F hs hb J M
theorem MS.intro {gf:FuncId}{caps:List V}{Sx:List α->Prop}{fn:Func}{c:Code}(Ff:P.funcs[gf]?=some fn)(hb:fn.body=some c)(Rw:fn.results=#[])(h : ∀Y:Ic α P encs N,IW Y c (λe g s=>(e=.normal\/e=.ret)/\(g.off=false->Sx g.pre)) ⟨[],false⟩ ⟨(.yl Y.l::caps)++Aq (fn.ntmps - (caps.length+1)) .any,[]⟩):MS P gf caps encs Sx N:=by
 intro n S w R hS EP l J U W q A1 A2 A3 A0;have U2:Ay w W:=q;have aj : ∀pre A B,J pre A->Ay A B->J pre B:=λpre A B h E=>A1 pre A B none h ⟨E.os,E.tape,E.output,E.size,λk z _=>E.block k z⟩ (λr e=>by cases e)
 have ax : ∀pre A B,U pre A->Ay A B->U pre B:=λpre A B h E=>A2 pre A B none h ⟨E.os,E.tape,E.output,E.size,λk z _=>E.block k z⟩ (λr e=>by cases e)
 let Y:Ic α P encs N:=⟨n,l,S,J,U,aj,ax,A3⟩
 refine callsIn_of_wp_marks (F:=Cg) Ff hb trivial ?_;have Gr:Y.A ⟨[],false⟩=S:=by funext b j;simp[Ic.A,Y]
 have DK:R.size=caps.length:=by have:=EP.len;simpa using this
 have qK:IA Y ⟨[],false⟩ ⟨(.yl Y.l::caps)++Aq (fn.ntmps - (caps.length+1)) .any,[]⟩ { tmps:=(#[ADc (.yield l) #[] #[]]++R)++M4 (fn.ntmps - (#[ADc (.yield l) #[] #[]]++R).size) undef,defers:=[] } W:=by
  refine⟨W,Cx.bare S,by simpa [Ic.G,Y]using A0,Gr.symm,rfl,?_⟩;rw[Gr];refine wE (λb j h=>H7 (hS b j h) U2.size) ?_ (Marks.nil _ _);have e1:(#[ADc (.yield l) #[] #[]]++R).size=caps.length+1:=by simp[DK];omega
  simp only[Array.toList_append,Array.toList_replicate,e1];refine AO.append ?_ (SQ _ _ _ _);have kI:Ext (Cx.bare S) (Cx.bare S) w W:=⟨⟨λ_ _ h=>h,λb j v _ hc=>U2.cell hc⟩,λ_ h=>h,λ_ h=>h.elim⟩
  simp only[BK,BU,AO];exact⟨_,R.toList,rfl,by simp[CV,Y],AO.mono kI _ _ EP⟩
 refine wpIn_mono (h Y _ _ qK) λe a' w' ⟨g,s,⟨W1,x,k1,k2,k3,k4⟩,he,qS⟩=>?_
 have I:LeavesInM Cg n P fn a'.tmps (λe W'=>(∃v,e=.returned v)/\((∃xs,Sx xs/\J xs W')\/(∃pre,True/\U pre W'))) a'.defers .returning w':=by
  rw[k3];refine⟨.tuple #[],by simp[results,Rw],⟨_,rfl⟩,?_⟩;have M:=Y.keep k1 k4.good.keep.all;unfold Ic.G at M;cases hg:g.off with
  | false=>rw[hg]at M;exact .inl ⟨g.pre,qS hg,by simpa using M⟩
  | true=>rw[hg]at M;exact .inr ⟨g.pre,trivial,by simpa using M⟩
 rcases he with rfl|rfl
 exact I;exact I
theorem UU.intro {encs:α->Array Value}{B:FuncId}{caps:List V}{Sx:List α->Prop}{c:Code}(E:P.funcs[B]?=some fn)(hb:fn.body=some c)(F:fn.results=#[])(h : ∀Y:Ic α P (λ_=>encs) N,IW Y c (λe g s=>(e=.normal\/e=.ret)/\(g.off=false->Sx g.pre)) ⟨[],false⟩ ⟨(.yl Y.l::caps)++Aq (fn.ntmps - (caps.length+1)) .any,[]⟩):UU P B caps encs Sx N:=MS.intro E hb F h
end
attribute [simp] VS eo Qv Pl.key BQ Ka Qw P2 oV Pl.ap Mv ev AZ8 AaD AZ7 AZ6 AaC AaA AZ9 AaB AaF AaH AaG AaL AaJ AaI AaK St.step St.put Bk oN oq oO oQ oR oP oT az Vz V3 X4 wD Xe toC toCs CJ E8 YI V.flat V.cells V.one V.tR Ee C7 V.CF V.CP
end
theorem cj {p q:Prop}(x:p)(y:q):p/\q:=⟨x,y⟩
theorem cj2 {B E r:Prop}(F:B)(G:E)(h:r):B/\E/\r:=⟨F,G,h⟩
theorem cj3 {B E F r:Prop}(G:B)(I:E)(J:F)(h:r):B/\E/\F/\r:=⟨G,I,J,h⟩
theorem cj4 {B E F G r:Prop}(I:B)(J:E)(M:F)(R:G)(h:r):B/\E/\F/\G/\r:=⟨I,J,M,R,h⟩
theorem cj5 {B E F G I r:Prop}(J:B)(M:E)(R:F)(U:G)(W:I)(h:r):B/\E/\F/\G/\I/\r:=⟨J,M,R,U,W,h⟩
theorem cj6 {B E F G I J r:Prop}(M:B)(R:E)(U:F)(W:G)(q:I)(z:J)(h:r):B/\E/\F/\G/\I/\J/\r:=⟨M,R,U,W,q,z,h⟩
theorem cj7 {B E F G I J M r:Prop}(R:B)(U:E)(W:F)(q:G)(z:I)(h5:J)(h6:M)(h:r):B/\E/\F/\G/\I/\J/\M/\r:=⟨R,U,W,q,z,h5,h6,h⟩
theorem cj8 {B E F G I J M R r:Prop}(U:B)(W:E)(q:F)(z:G)(h4:I)(h5:J)(h6:M)(h7:R)(h:r):B/\E/\F/\G/\I/\J/\M/\R/\r:=⟨U,W,q,z,h4,h5,h6,h7,h⟩
theorem cj9 {B E F G I J M R U r:Prop}(W:B)(q:E)(z:F)(h3:G)(h4:I)(h5:J)(h6:M)(h7:R)(h8:U)(h:r):B/\E/\F/\G/\I/\J/\M/\R/\U/\r:=⟨W,q,z,h3,h4,h5,h6,h7,h8,h⟩
theorem Ah {p q:Prop}(h:q)(k:q->p:=by
 intro h;repeat (first
  | (with_reducible first|refine AW.seq ?_|refine AW.block ?_|refine G3 ?_|refine MV ?_|refine AW.ret ?_|refine S7 ?_|refine S4 ?_|refine Kz ?_|refine AW.skip ?_|refine AW.exit ?_|refine S6 ?_|refine RN ?_|refine AW.label ?_|refine AW.scope ?_|refine UY ?_|refine S5 ?_|refine UX ?_)
  | ((with_reducible refine AW.region ?_);with_reducible refine If (by simp[List.replicate_succ];first|exact rfl|exact⟨rfl,rfl⟩) ?_)
  | ((with_reducible refine AW.draw Fz ?_ ?_);(focus first|exact .inl rfl|exact .inr (by decide));with_reducible refine Es (by simp[List.replicate_succ];first|exact rfl|exact⟨rfl,rfl,rfl⟩) ?_)
  | (with_reducible refine ADs (by kernel_rfl) ?_)
  | ((with_reducible refine S3 ?_ ?_);focus decide)
  | ((with_reducible refine xE ?_ ?_);focus (simp[ev];done))
  | ((with_reducible refine xD ?_ ?_);focus (simp[ev];done)))
 exact h):p:=k h
theorem go {F p q:Prop}(f:F)(h:q)(k:F->q->p:=by
 intro f h;repeat (first
  | (with_reducible first|refine AW.seq ?_|refine AW.block ?_|refine G3 ?_|refine MV ?_|refine AW.ret ?_|refine S7 ?_|refine S4 ?_|refine Kz ?_|refine AW.skip ?_|refine AW.exit ?_|refine S6 ?_|refine RN ?_|refine AW.label ?_|refine AW.scope ?_|refine UY ?_|refine S5 ?_|refine UX ?_)
  | ((with_reducible refine AW.region ?_);with_reducible refine If (by simp[List.replicate_succ,f];first|exact rfl|exact⟨rfl,rfl⟩) ?_)
  | ((with_reducible refine AW.draw Fz ?_ ?_);(focus first|exact .inl rfl|exact .inr (by decide));with_reducible refine Es (by simp[List.replicate_succ,f];first|exact rfl|exact⟨rfl,rfl,rfl⟩) ?_)
  | (with_reducible refine ADs (by kernel_rfl) ?_)
  | ((with_reducible refine S3 ?_ ?_);focus decide)
  | ((with_reducible refine xE ?_ ?_);focus (simp[ev,f];done))
  | ((with_reducible refine xD ?_ ?_);focus (simp[ev,f];done)))
 exact h):p:=k f h
theorem BZ {p q:Prop}{g:FuncId}(C9:AC P g args res)(hf:P.funcs[g]?=some fn)(h:q)(k:AC P g args res->P.funcs[g]?=some fn->q->p:=by
 intro c n h;(with_reducible first|refine oX c n (by kernel_rfl) (by kernel_rfl) ?_ ?_ ?_|refine Xz c n (by kernel_rfl) (by kernel_rfl) ?_ ?_ ?_)
 focus (simp[BQ];done)
 focus (simp[Ee];done)
 first|(with_reducible refine If (by simp[List.replicate_succ];first|exact rfl|exact⟨rfl,rfl⟩) ?_)|(with_reducible refine Es (by simp[List.replicate_succ];first|exact rfl|exact⟨rfl,rfl,rfl⟩) ?_)
 exact h):p:=k C9 hf h
theorem gc {F p q:Prop}{g:FuncId}(f:F)(C9:AC P g args res)(hf:P.funcs[g]?=some fn)(h:q)(k:F->AC P g args res->P.funcs[g]?=some fn->q->p:=by
 intro f c n h;(with_reducible first|refine oX c n (by kernel_rfl) (by kernel_rfl) ?_ ?_ ?_|refine Xz c n (by kernel_rfl) (by kernel_rfl) ?_ ?_ ?_)
 focus (simp[BQ,f];done)
 focus (simp[Ee,f];done)
 first|(with_reducible refine If (by simp[List.replicate_succ,f];first|exact rfl|exact⟨rfl,rfl⟩) ?_)|(with_reducible refine Es (by simp[List.replicate_succ,f];first|exact rfl|exact⟨rfl,rfl,rfl⟩) ?_)
 exact h):p:=k f C9 hf h
theorem en {q:Prop}{g:FuncId}{c:Code}{n:Nat}(hf:P.funcs[g]?=some fn)(hn:fn.ntmps=n)(h:q)(hb:fn.body=some c:=by exact rfl)(k:fn.ntmps=n->q->AW ⟨none,0⟩ P c (iK P fn.results.toList res) ⟨args++List.replicate (fn.ntmps - args.length) .any,[]⟩:=by
   intro hn h;simp only[hn,List.map_cons,List.map_nil,List.length_cons,List.length_nil,Nat.reduceAdd,Nat.reduceSub,List.replicate_succ,List.replicate_zero,List.cons_append,List.nil_append];exact h):AC P g args res:=AC.intro hf hb (k hn h)
theorem lp {c:Code}{t:List V}{h:List O}(f:ι->List (Nat×V))(hf:ι->List O)(μ:ι->Nat)(i0:ι){ws:List Nat}{t0:List V}(h0:Le m ⟨t,h⟩ ⟨puts (f i0) t0,hf i0⟩)(hr : ∀i,AW m P c (NH (λs'=>∃j,μ j<μ i/\Le m s' ⟨puts (f j) t0,hf j⟩) K) ⟨puts (f i) t0,hf i⟩)(hw:wr c=ws:=by simp only[wr,lq,List.cons_append,List.nil_append,List.append_nil,List.append_assoc];exact rfl)(ht:jb ws t=t0:=by simp only[jb,List.foldl_cons,List.foldl_nil,List.set_cons_zero,List.set_cons_succ];exact rfl):AW m P (.loop c) K ⟨t,h⟩:=
 AW.AUO f hf μ i0 ws hw t0 ht h0 hr
theorem wd {t t':List V}{h h':List O}(n:Nat)(hn:m.n0<=n:=by exact Nat.le_of_ble_eq_true rfl)(hs:DG t t':=by simp[DG])(hh:h.take n=h':=by simp)(hb:V.BI n t'=true:=by simp[V.BI,V.A8])(ho:(h'.all (O.A8 n))=true:=by simp[O.A8,V.BI,V.A8]):Le m ⟨t,h⟩ ⟨t',h'⟩:=Le.MI n hn hs hh hb ho
theorem At {F p:Prop}(f:F)(k:F->p:=by intro f;simp[iK,DV,C0,DE,V.CP,V.CF,CJ,f]):p:=k f
theorem Cn {c:Code}{t:List V}{h:List O}{row:List C}{t':List V}{h':List O}(hw:AW m P c K ⟨t',h'⟩)(hk:h[k]?=some (.box ty cs false):=by exact rfl)(hr:toCs cs=some row:=by simp[toCs,toC];exact rfl)(ht:V.Cs k row t=t':=by simp[V.Cs,V.Bi];exact rfl)(hh:(h.set k (.box ty cs true)).map (O.Bi k row)=h':=by simp[O.Bi,V.Cs,V.Bi];exact rfl):AW m P c K ⟨t,h⟩:=AW.Bi k hk hr ht hh hw
def KQ (_:Nat):Prop:=True
theorem KQ.mk (n:Nat):KQ n:=trivial
theorem ED {F p q:Prop}(f:F)(h:q)(k:F->q->p:=by
 intro f h;try ((with_reducible refine IL.run (by simp[List.replicate_succ,f];first|exact rfl|exact⟨rfl,rfl⟩) ?_ ?_);(focus (first|exact rfl|decide)))
 repeat (first
  | (with_reducible first|refine IW.seq ?_|refine IW.block ?_|refine IW.skip ?_|refine IW.ret ?_|refine IW.exit ?_|refine AHn ?_|refine AHo ?_|refine AHm ?_|refine AHk ?_|refine AHl ?_|refine AHj ?_|refine IL.nil ?_)
  | ((with_reducible refine IW.region ?_);(with_reducible refine IL.run (by simp[List.replicate_succ,f];first|exact rfl|exact⟨rfl,rfl⟩) ?_ ?_);(focus (first|exact rfl|decide)))
  | (with_reducible refine IW.cond (b:=true) ?_ (λ_=>?_) (λe=>nomatch e);(focus (simp[ev,f];done)))
  | (with_reducible refine IW.cond (b:=false) ?_ (λe=>nomatch e) (λ_=>?_);(focus (simp[ev,f];done))))
 with_reducible exact h):p:=k f h
theorem SW.takeN {n:Nat}(_:KQ n)(h:Eg P ops (λs'=>SW P ops K (l.drop n) s') (l.take n) s):SW P ops K l s:=SW.take n h
theorem CY {F p q:Prop}{n:Nat}(m:KQ n)(f:F)(h:q)(k:KQ n->F->q->p:=by
 intro m f h;refine SW.takeN m ?_;with_reducible refine If (by simp[List.replicate_succ,f];first|exact rfl|exact⟨rfl,rfl⟩) ?_
 refine Kz ?_;simp only[List.drop_succ_cons,List.drop_zero];with_reducible exact h):p:=k m f h
theorem Og {F p q:Prop}{n:Nat}(m:KQ n)(f:F)(h:q)(k:KQ n->F->q->p:=by
 intro m f h;with_reducible refine AW.DA ?_
 refine SW.takeN m ?_;with_reducible refine If (by simp[List.replicate_succ,f];first|exact rfl|exact⟨rfl,rfl⟩) ?_
 refine Kz ?_;simp only[List.drop_succ_cons,List.drop_zero];with_reducible exact h):p:=k m f h
theorem DH {t t':List V}{h:List O}(hs:DG t t':=by simp[DG]):Le m ⟨t,h⟩ ⟨t',h⟩:=Le.weak hs
theorem ER {F:Prop}{t t':List V}{h:List O}(f:F)(hs:F->DG t t':=by intro f;simp[DG,f]):Le m ⟨t,h⟩ ⟨t',h⟩:=Le.weak (hs f)
@[simp] theorem AZ2 : C2 AF 212=some [.c (.int .i64 0),.c (.int .i64 0),.c (.int .i64 0),.c (.int .i64 0),.c (.int .i64 0),.c (.int .i64 0),.c (.int .i64 0),.c (.int .i64 0),.c (.int .i64 0),.c (.int .i64 0),.c (.int .i64 0),.c (.int .i64 0),.c (.int .i64 0),.c (.int .i64 0),.c (.int .i64 0),.c (.int .i64 0),.c (.int .i64 0),.c (.int .i64 0),.c (.int .i64 0),.c (.int .i64 0),.c (.int .i64 0),.c (.int .i64 0),.c (.int .i64 0),.c (.int .i64 0),.c (.int .i64 0),.c (.int .i64 0),.c (.int .i64 0),.c (.int .i64 0),.c (.int .i64 0),.c (.int .i64 0),.c (.int .i64 0),.c (.int .i64 0),.c (.int .i64 0),.c (.int .i64 0),.c (.int .i64 0),.c (.int .i64 0),.c (.int .i64 0),.c (.int .i64 0),.c (.int .i64 0),.c (.int .i64 0),.c (.int .i64 0),.c (.int .i64 0),.c (.int .i64 0),.c (.int .i64 0),.c (.int .i64 0),.c (.int .i64 0),.c (.int .i64 0),.c (.int .i64 0),.c (.int .i64 0),.c (.int .i64 0),.c (.int .i64 0),.c (.int .i64 0),.c (.int .i64 0),.c (.int .i64 0),.c (.int .i64 0),.c (.int .i64 0),.c (.int .i64 0),.c (.int .i64 0),.c (.int .i64 0),.c (.int .i64 0),.c (.int .i64 0),.c (.int .i64 0),.c (.int .i64 0),.c (.int .i64 0)] :=by kernel_rfl
@[simp] theorem AZ0 : Fj AF 212=some λi=>some (i * 8,8) :=by kernel_rfl
@[simp] theorem tzG0 : B6 AF 130=some (false,1)/\C2 AF 130=some [.c .Cv]/\B6 AF 134=some (false,1)/\B6 AF 139=some (false,1)/\C2 AF 139=some [.any]/\B6 AF 152=some (false,1)/\B6 AF 156=some (true,4)/\C2 AF 156=some [.c (.str ⟨#[]⟩),.c (.int .i64 0),.c (.bool false),.c (.bool false)]/\(Fj AF 156=some λi=>([(0,1),(1,1),(2,1),(3,1)]:List (Nat×Nat))[i]?)/\Bp AF 156 0=some (0,1,false)/\Bp AF 156 1=some (1,1,false)/\Bp AF 156 2=some (2,1,false)/\Bp AF 156 3=some (3,1,false)/\C2 AF 160=some [.c (.str ⟨#[]⟩),.c (.int .i64 0),.c .Cv]/\(Fj AF 160=some λi=>([(0,1),(1,1),(2,1)]:List (Nat×Nat))[i]?)/\Bp AF 160 1=some (1,1,false)/\Bp AF 160 2=some (2,1,false)/\B6 AF 161=some (true,39)/\C2 AF 161=some [.c (.str ⟨#[]⟩),.c (.int .i64 0),.c .Cv,.c (.str ⟨#[]⟩),.c (.int .i64 0),.c .Cv,.c (.str ⟨#[]⟩),.c (.int .i64 0),.c .Cv,.c (.str ⟨#[]⟩),.c (.int .i64 0),.c .Cv,.c (.str ⟨#[]⟩),.c (.int .i64 0),.c .Cv,.c (.str ⟨#[]⟩),.c (.int .i64 0),.c .Cv,.c (.str ⟨#[]⟩),.c (.int .i64 0),.c .Cv,.c (.str ⟨#[]⟩),.c (.int .i64 0),.c .Cv,.c (.str ⟨#[]⟩),.c (.int .i64 0),.c .Cv,.c (.str ⟨#[]⟩),.c (.int .i64 0),.c .Cv,.c (.str ⟨#[]⟩),.c (.int .i64 0),.c .Cv,.c (.str ⟨#[]⟩),.c (.int .i64 0),.c .Cv,.c (.str ⟨#[]⟩),.c (.int .i64 0),.c .Cv]/\(Fj AF 161=some λi=>some (i * 3,3))/\Np AF 161=some (13,3,true)/\C2 AF 164=some [.c (.str ⟨#[]⟩),.c (.int .i64 0),.c .Cv,.c (.str ⟨#[]⟩),.c (.int .i64 0),.c .Cv,.c (.str ⟨#[]⟩),.c (.int .i64 0),.c .Cv,.c (.str ⟨#[]⟩),.c (.int .i64 0),.c .Cv,.c (.str ⟨#[]⟩),.c (.int .i64 0),.c .Cv,.c (.str ⟨#[]⟩),.c (.int .i64 0),.c .Cv,.c (.str ⟨#[]⟩),.c (.int .i64 0),.c .Cv,.c (.str ⟨#[]⟩),.c (.int .i64 0),.c .Cv,.c (.str ⟨#[]⟩),.c (.int .i64 0),.c .Cv,.c (.str ⟨#[]⟩),.c (.int .i64 0),.c .Cv,.c (.str ⟨#[]⟩),.c (.int .i64 0),.c .Cv,.c (.str ⟨#[]⟩),.c (.int .i64 0),.c .Cv,.c (.str ⟨#[]⟩),.c (.int .i64 0),.c .Cv,.c (.int .i64 0)]/\(Fj AF 164=some λi=>([(0,39),(39,1)]:List (Nat×Nat))[i]?)/\Bp AF 164 0=some (0,39,true)/\Bp AF 164 1=some (39,1,false)/\B6 AF 168=some (true,3)/\C2 AF 168=some [.Bg [],.c (.int .i64 0),.c (.int .i64 0)]/\(Fj AF 168=some λi=>([(0,1),(1,1),(2,1)]:List (Nat×Nat))[i]?)/\Bp AF 168 0=some (0,1,false)/\Bp AF 168 1=some (1,1,false)/\Bp AF 168 2=some (2,1,false)/\B6 AF 169=some (false,1)/\C2 AF 169=some [.Bg []]/\KJ AF 169=true/\Dk AF 169=some (171,3,24)/\B6 AF 171=some (true,3)/\C2 AF 171=some [.c (.bool false),.c (.int .i64 0),.c (.int .i64 0)]/\(Fj AF 171=some λi=>([(0,1),(1,1),(2,1)]:List (Nat×Nat))[i]?)/\Bp AF 171 0=some (0,1,false)/\Bp AF 171 1=some (1,1,false):=by and_intros<;>kernel_rfl
@[simp] theorem tzG1 : Bp AF 171 2=some (2,1,false)/\B6 AF 179=some (false,1)/\B6 AF 186=some (false,1)/\B6 AF 205=some (true,2)/\C2 AF 205=some [.c (.str ⟨#[]⟩),.c (.bool false)]/\Bp AF 205 0=some (0,1,false)/\Bp AF 205 1=some (1,1,false)/\C2 AF 211=some [.c (.int .i64 0),.c (.int .i64 0),.c (.int .i64 0),.c (.int .i64 0),.c (.int .i64 0),.c (.int .i64 0),.c (.int .i64 0),.c (.int .i64 0)]/\(Fj AF 211=some λi=>some (i * 1,1))/\Np AF 211=some (8,1,false)/\B6 AF 212=some (true,64)/\Np AF 212=some (8,8,true)/\B6 AF 219=some (false,1)/\B6 AF 221=some (false,1)/\B6 AF 222=some (true,13)/\C2 AF 222=some [.c .Cv,.c .Cv,.c .Cv,.c .Cv,.c .Cv,.c .Cv,.c .Cv,.c .Cv,.c .Cv,.c .Cv,.c .Cv,.c .Cv,.c .Cv]/\(Fj AF 222=some λi=>some (i * 1,1))/\Np AF 222=some (13,1,false)/\C2 AF 224=some [.Bg [],.Bg [],.c (.int .i64 0),.c (.int .i64 0),.c (.int .i64 0),.c (.int .i64 0),.c (.int .i64 0),.c (.int .i64 0),.c (.int .i64 0),.c (.int .i64 0),.c (.int .i64 0),.c (.int .i64 0),.c (.int .i64 0),.c (.int .i64 0),.c (.int .i64 0),.c (.int .i64 0),.c (.int .i64 0),.c (.int .i64 0),.c (.int .i64 0),.c (.int .i64 0),.c (.int .i64 0),.c (.int .i64 0),.Bg [],.c (.int .i64 0),.c (.int .i64 0),.c (.int .i64 0),.c (.int .i64 0),.any,.c .Cv,.c .Cv,.c .Cv,.c .Cv,.c .Cv,.c .Cv,.c .Cv,.c .Cv,.c .Cv,.c .Cv,.c .Cv,.c .Cv,.c .Cv]/\(Fj AF 224=some λi=>([(0,22),(22,1),(23,4),(27,1),(28,13)]:List (Nat×Nat))[i]?)/\Bp AF 224 0=some (0,22,true)/\Bp AF 224 1=some (22,1,false)/\Bp AF 224 2=some (23,4,true)/\Bp AF 224 3=some (27,1,false)/\Bp AF 224 4=some (28,13,true)/\B6 AF 225=some (false,1)/\KJ AF 226=true/\Dk AF 226=some (186,1,8)/\B6 AF 256=some (false,1)/\C2 AF 256=some [.c .Cv]/\C2 AF 265=some [.c (.int .i64 0),.c (.int .i64 0),.c (.int .i64 0),.c (.int .i64 0),.c (.int .i64 0)]/\(Fj AF 265=some λi=>some (i * 1,1))/\Np AF 265=some (5,1,false)/\KJ AF 283=true/\Dk AF 283=some (39,1,24)/\B6 AF 287=some (true,2)/\C2 AF 287=some [.c (.str ⟨#[]⟩),.c (.int .i64 0)]/\(Fj AF 287=some λi=>([(0,1),(1,1)]:List (Nat×Nat))[i]?)/\Bp AF 287 0=some (0,1,false)/\Bp AF 287 1=some (1,1,false):=by and_intros<;>kernel_rfl
@[simp] theorem tzG2 : B6 AF 290=some (true,2)/\C2 AF 290=some [.c (.str ⟨#[]⟩),.c (.int .i64 0)]/\(Fj AF 290=some λi=>([(0,1),(1,1)]:List (Nat×Nat))[i]?)/\Bp AF 290 1=some (1,1,false)/\B6 AF 292=some (true,5)/\C2 AF 292=some [.c (.int .i64 0),.c (.int .i64 0),.c (.int .i64 0),.c (.int .i64 0),.c (.int .i64 0)]/\(Fj AF 292=some λi=>([(0,1),(1,1),(2,1),(3,1),(4,1)]:List (Nat×Nat))[i]?)/\Bp AF 292 0=some (0,1,false)/\Bp AF 292 1=some (1,1,false)/\Bp AF 292 2=some (2,1,false)/\Bp AF 292 3=some (3,1,false)/\Bp AF 292 4=some (4,1,false)/\B6 AF 295=some (true,3)/\C2 AF 295=some [.Bg [],.Bg [],.Bg []]/\(Fj AF 295=some λi=>some (i * 1,1))/\Np AF 295=some (3,1,false)/\B6 AF 296=some (true,3)/\C2 AF 296=some [.c (.int .i64 0),.c (.int .i64 0),.c (.int .i64 0)]/\Np AF 296=some (3,1,false)/\B6 AF 303=some (false,1)/\C2 AF 303=some [.Bg []]/\KJ AF 303=true/\Dk AF 303=some (306,2,16)/\B6 AF 306=some (true,2)/\C2 AF 306=some [.c (.int .i64 0),.c (.int .i64 0)]/\(Fj AF 306=some λi=>([(0,1),(1,1)]:List (Nat×Nat))[i]?)/\Bp AF 306 0=some (0,1,false)/\Bp AF 306 1=some (1,1,false)/\KJ AF 318=true/\Dk AF 318=some (322,2,16)/\B6 AF 319=some (true,13)/\C2 AF 319=some [.Bg [],.Bg [],.Bg [],.Bg [],.Bg [],.Bg [],.Bg [],.Bg [],.Bg [],.Bg [],.Bg [],.Bg [],.Bg []]/\(Fj AF 319=some λi=>some (i * 1,1))/\Np AF 319=some (13,1,false)/\B6 AF 322=some (true,2)/\C2 AF 322=some [.c .Cv,.c (.bool false)]/\(Fj AF 322=some λi=>([(0,1),(1,1)]:List (Nat×Nat))[i]?)/\Bp AF 322 0=some (0,1,false)/\Bp AF 322 1=some (1,1,false)/\B6 AF 326=some (true,6):=by and_intros<;>kernel_rfl
@[simp] theorem tzG3 : C2 AF 326=some [.c (.str ⟨#[]⟩),.c (.str ⟨#[]⟩),.c (.str ⟨#[]⟩),.c (.str ⟨#[]⟩),.c (.str ⟨#[]⟩),.c (.str ⟨#[]⟩)]/\(Fj AF 326=some λi=>some (i * 1,1))/\B6 AF 334=some (true,8)/\C2 AF 334=some [.c (.int .i64 0),.c (.int .i64 0),.c (.int .i64 0),.c (.int .i64 0),.c (.int .i64 0),.c (.int .i64 0),.c (.int .i64 0),.c (.int .i64 0)]/\(Fj AF 334=some λi=>some (i * 4,4))/\Np AF 334=some (2,4,true):=by and_intros<;>kernel_rfl
end Go.Proofs.YtlpomcliejmedaaGreat
