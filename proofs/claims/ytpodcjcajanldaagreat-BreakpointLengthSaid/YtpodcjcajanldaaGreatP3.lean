/- Part of the proof of breakpointLength.proved. Conditions: none. (Joined and shortened by a program.) -/
import Derived.Scope
import Derived.Test.YtpodcjcajanldaaGreatP2
set_option linter.unusedVariables false
set_option linter.unusedSimpArgs false
set_option maxRecDepth 100000
set_option maxHeartbeats 16000000
open Option.some renaming injEq→BE
open Prod.mk renaming injEq→Cp
open Go.IntKind renaming i64→Ad,u8→oM,i32→oL
open Go.Lit renaming wf→Pd
open Bool renaming and_eq_true→An,false_eq_true→Fe
open List renaming getElem?_take→Jv,all_eq_true→Ee,mem_of_getElem?→C6,ext_getElem?→R7,getElem?_set→OH,getElem?_eq_some_iff→Bv,getElem?_append_left→FK,getElem?_append_right→IP,mem_append_right→xp,getElem?_cons_zero→LK,mem_cons→Cb,getD_eq_getElem?_getD→G5,range→E8,mem_range→Lo,getElem?_eq_none→Ln,getElem?_eq_getElem→BP,countP_eq_zero→oN,getElem?_map→Co,nil_append→Bh,length_take→FW,length_drop→R8,flatten_cons→GS,take_add→xv,length_cons→BQ,take_left'→Zs,drop_left'→xS,take_append_drop→Tm,cons_append→Bg,length_append→C3,getElem?_toArray→gz,append_assoc→EW,length_nil→B6,flatten_append→Tk,flatten_nil→Pc,append_nil→D8,replicate→As
open Nat renaming lt_of_lt_of_le→H6,le_trans→Tn,le_refl→BW,lt_or_ge→Lq,lt_trichotomy→aC,not_lt_zero→Q3,add_mul→F1,zero_add→Cu,mul_le_mul_right→Tp,add_sub_cancel→oU,one_mul→aD
open Iff renaming rfl→Qv
open Go.Region renaming wanted→DV,ready→iH
open Go.Oper renaming looksAt→GG,wp→EL,apart_spec→x5,upon→iG,uponIn→oe
open Array renaming getD_eq_getD_getElem?→NO,replicate→PY,length_toList→Ep,getElem?_eq_some_iff→Dy
open Option renaming getD_some→EM,map_eq_some_iff→G6,map_some→H8
open Go.Op renaming operands→CN
open Go.Call renaming operands→D7
open Go.Deferred renaming ofValue→Pa
open Classical renaming byContradiction→Kb
open Go.World renaming cell?_of_block→SR
open Go.Fence renaming wide→EF
open Go.Value renaming func→ye
namespace Go.Proofs.YtpodcjcajanldaaGreat
open Go.RowKit
section
def Jj:Op->Bool
 | .call ⟨.value _,_,_⟩=>true
 | _=>false
def PQ (P:Program)(o:Oper)(s:St):Option St:=
 match (OP P (ev s.t) o.op).ap (fun k=>s.h[k]?) s.h.length with
 | some (v,t)=>some (s.step o.dst v t)
 | none=>none
def gate (ops:List Oper)(t:List V):Option (Nat×Bool)->Option Bool
 | none=>some true
 | some (j,w)=>match (ops[j]?).bind (·.dst)with
   | some d=>match t.getD d .any with
     | .c (.bool b)=>some (b==w)
     | .Bk []=>some false
     | _=>none
   | none=>none
def Te (P:Program)(ops:List Oper):List Oper->St->Option (List Oper×St)
 | [],s=>some ([],s)
 | o::r,s=>match gate ops s.t o.guard with
   | some true=>match Jj o.op with
     | false=>match PQ P o s with
       | some s'=>Te P ops r s'
       | none=>none
     | true=>some (o::r,s)
   | some false=>Te P ops r (s.put o.dst (.Bk []))
   | none=>none
variable {m:Mo} {P:Program} {K:St->Prop} {ops:List Oper}
theorem V7 {e:Operand->V}{op:Op}(h:Jj op=false):DE e op=none:=by
 unfold Jj at h;split at h
 . cases h
 . rename_i hn;unfold DE;split
   . rename_i f args He;exact absurd rfl (hn f args He)
   . rfl
theorem Hj {t:List V}{o:Oper}{K1 K2:Prop}(hg:gate ops t o.guard=some true)(h:K1):RA ops t o K1 K2:=by
 unfold gate at hg;unfold RA;cases ho:o.guard with
 | none=>exact h
 | some p =>
   obtain⟨j,w⟩:=p;rw[ho]at hg;simp only at hg ⊢;cases hd:(ops[j]?).bind (·.dst)with
   | none=>rw[hd]at hg;cases hg
   | some d =>
     rw[hd]at hg;simp only at hg ⊢;split at hg
     . rename_i b hb;rw[hb];simp only[BE,beq_iff_eq]at hg;subst hg;exact⟨fun _=>h,fun e=>absurd e (by cases b<;>simp)⟩
     . cases hg
     . cases hg
theorem Vy {t:List V}{o:Oper}{K1 K2:Prop}(hg:gate ops t o.guard=some false)(h:K2):RA ops t o K1 K2:=by
 unfold gate at hg;unfold RA;cases ho:o.guard with
 | none=>rw[ho]at hg;cases hg
 | some p =>
   obtain⟨j,w⟩:=p;rw[ho]at hg;simp only at hg ⊢;cases hd:(ops[j]?).bind (·.dst)with
   | none=>rw[hd]at hg;cases hg
   | some d =>
     rw[hd]at hg;simp only at hg ⊢;split at hg
     . rename_i b hb;rw[hb];simp only[BE,beq_eq_false_iff_ne,ne_eq]at hg;exact⟨fun e=>absurd e hg,fun _=>h⟩
     . rename_i hb;rw[hb];exact h
     . cases hg
theorem Bw : ∀ {l l':List Oper} {s s':St},Te P ops l s=some (l',s')->EA P ops K l' s'->EA P ops K l s
 | [],l',s,s',h,hK=>by simp only[Te,BE,Cp]at h;obtain⟨rfl,rfl⟩:=h;exact hK
 | o::r,l',s,s',h,hK=>by
   unfold Te at h;split at h
   . rename_i hg;split at h
     . rename_i hc;split at h
       . rename_i s1 hs;have ih:=Bw h hK;unfold PQ at hs;split at hs
         . rename_i v t hap;cases hs;unfold EA;refine Hj hg ?_;unfold Pw;rw[V7 hc];simp only;rw[hap];exact ih
         . cases hs
       . cases h
     . simp only[BE,Cp]at h;obtain⟨rfl,rfl⟩:=h;exact hK
   . rename_i hg;unfold EA;exact Vy hg (Bw h hK)
   . cases h
theorem B9 {s:St}(h:K s):EA P ops K [] s:=h
theorem AJE {o:Oper}{r:List Oper}{s:St}{f:FuncId}{args Bx:List V}{res:V}{fn:Func}(Cs:AC P f Bx res)(hg:gate ops s.t o.guard=some true)(hc:DE (ev s.t) o.op=some (f,args))(hp:V.AO args=some Bx)(hf:P.funcs[f]?=some fn)(hb:fn.body.isSome=true)(hn:(fn.name == "runtime.NumGoroutine")=false)(h:EA P ops K r (s.step o.dst res none)):EA P ops K (o::r) s:=by
 unfold EA;refine Hj hg ?_;unfold Pw;rw[hc];simp only;exact⟨Bx,res,hp,Cs,⟨fn,hf,hb,by simpa using hn⟩,h⟩
section
variable {n:St->Prop} {K:Exit->St->Prop} {s:St} {i id:Nat}
theorem G7 (h:n s):LM n K .normal s:=h
theorem Pu (h:K .ret s):LM n K .ret s:=h
theorem Pt (h:K (.exit i) s):LM n K (.exit i) s:=h
theorem OM (h:K .normal s):Pn id K .normal s:=h
theorem Pp (h:K .ret s):Pn id K .ret s:=h
theorem NZ (h:K .normal s):Pn id K (.exit id) s:=by simp only[Pn,if_true];exact h
theorem Po (hne:(i==id)=false)(h:K (.exit i) s):Pn id K (.exit i) s:=by simp only[Pn];rw[if_neg (by simpa using hne)];exact h
theorem kO {c:Operand}{d d':Code}(hv:ev s.t c=.c (.bool true))(h:AW m P d K s):AW m P (.cond c d d') K s:=AW.cond (by rw[hv];exact⟨fun _=>h,fun e=>by cases e⟩)
theorem kN {c:Operand}{d d':Code}(hv:ev s.t c=.c (.bool false))(h:AW m P d' K s):AW m P (.cond c d d') K s:=AW.cond (by rw[hv];exact⟨fun e=>(by cases e),fun _=>h⟩)
end
theorem wrap_i64 {n:Int}(h1 : -9223372036854775808<=n)(h2:n<=9223372036854775807):Ad.wrap n=n:=by
 have e1:Ad.min= -9223372036854775808:=by decide +kernel
 have e2:Ad.max=9223372036854775807:=by decide +kernel
 exact AHn (by simp[Pd,e1,e2,h1,h2])
theorem Aq {n : Int}(h1 : -9223372036854775808<=n :=by omega)(h2 : n<=9223372036854775807 :=by omega):IntKind.i64.wrap n=n:=wrap_i64 h1 h2
theorem AVK {n:Int}(h1 : -9223372036854775808<=n)(h2:n<=9223372036854775807):v1 (.int .i64 n)=.c (.int .i64 n):=by
 have e1:Ad.min= -9223372036854775808:=by decide +kernel
 have e2:Ad.max=9223372036854775807:=by decide +kernel
 simp[v1,Pd,e1,e2,h1,h2]
theorem AVP {n:Int}(h1:0<=n)(h2:n<=255):v1 (.int .u8 n)=.c (.int .u8 n):=by
 have e1:oM.min=0:=by decide +kernel
 have e2:oM.max=255:=by decide +kernel
 simp[v1,Pd,e1,e2,h1,h2]
theorem AVJ {n:Int}(h1 : -2147483648<=n)(h2:n<=2147483647):v1 (.int .i32 n)=.c (.int .i32 n):=by
 have e1:oL.min= -2147483648:=by decide +kernel
 have e2:oL.max=2147483647:=by decide +kernel
 simp[v1,Pd,e1,e2,h1,h2]
theorem AVI {b:Bool}:v1 (.bool b)=.c (.bool b):=rfl
theorem AVO {d:Array UInt8}(h:d.size<=1000):v1 (.string ⟨d⟩)=.c (.str ⟨d⟩):=by
 have:(ByteArray.mk d).size<=maxLen:=by show d.size<=maxLen;unfold maxLen;omega
 simp[v1,this]
theorem AVM:v1 (.pointer none)=.c .Rn:=rfl
theorem AVL:v1 .nilFunc=.c .Cn:=rfl
theorem AVN:v1 (.slice none 0 0)=.full []:=rfl
theorem AVR {l:List Value}:R3 (.agg l.toArray)=.agg (l.map v1):=rfl
theorem AVT {k:IntKind}{n:Int}:R3 (.int k n)=v1 (.int k n):=rfl
theorem AVS {b:Bool}:R3 (.bool b)=.c (.bool b):=rfl
theorem AVX {d:ByteArray}:R3 (.string d)=v1 (.string d):=rfl
theorem AVV:R3 (.pointer none)=.c .Rn:=rfl
theorem AVU:R3 .nilFunc=.c .Cn:=rfl
theorem AVW:R3 (.slice none 0 0)=.full []:=rfl
end
def A5:List V->List V->Prop
 | [],t'=>t'=[]
 | v::t,v'::t'=>(v'=.any\/v=v')/\A5 t t'
 | _::_,[]=>False
theorem gC {x:Cx}{w:World} : ∀ {t t':List V} {us:List Value},A5 t t'->AL x w t us->AL x w t' us
 | [],t',us,h,hc=>by simp only[A5]at h;subst h;exact hc
 | v::t,[],us,h,_=>by simp[A5]at h
 | v::t,v'::t',us,h,hc=>by
   simp only[A5]at h;simp only[AL]at hc ⊢;obtain⟨u,ur,e,h1,h2⟩:=hc;refine⟨u,ur,e,?_,gC h.2 h2⟩;rcases h.1 with rfl|rfl
   . simp only[CV]
   . exact h1
theorem Le.BV {m:Mo}{t t':List V}{h:List O}(hs:A5 t t'):Le m ⟨t,h⟩ ⟨t',h⟩:=fun S0 w0 x a w hm hA=>⟨x,hA.good,gC hs hA.tm,hA.df⟩
mutual
def V.BA (n:Nat):V->Bool
 | .ptr k _=>decide (k<n)
 | .own k _ _ _=>decide (k<n)
 | .gr k _ _=>decide (k<n)
 | .agg l=>V.BT n l
 | .Bk l=>V.BT n l
 | .fn _ l=>V.BT n l
 | .any=>true
 | .c _=>true
 | .cp _ _=>true
 | .full _=>true
 | .hot k _ _=>decide (k<n)
 | .hp k _ _=>decide (k<n)
 | .yl _=>true
 | .mp k=>decide (k<n)
def V.BT (n:Nat):List V->Bool
 | []=>true
 | v::l=>v.BA n && V.BT n l
end
def O.BA (n:Nat):O->Bool
 | .box _ cs _=>V.BT n cs
 | .tok _ _ _=>true
 | .hot _ _ _ cs=>V.BT n cs
 | .mp _=>true
def Cx.cut (x:Cx)(n:Nat):Cx:={ x with dom:=fun k=>x.dom k/\k<n }
mutual
theorem CV.cut {x:Cx}{w:World}{n:Nat} : ∀(v:V) (u:Value),v.BA n=true->CV x w v u->CV (x.cut n) w v u
 | .ptr k off,u,hb,h=>by simp only[V.BA,decide_eq_true_eq]at hb;simp only[CV,Cx.cut]at h ⊢;exact⟨⟨h.1,hb⟩,h.2⟩
 | .own k off len es,u,hb,h=>by simp only[V.BA,decide_eq_true_eq]at hb;simp only[CV,Cx.cut]at h ⊢;exact⟨⟨h.1,hb⟩,h.2⟩
 | .gr k es rows,u,hb,h=>by simp only[V.BA,decide_eq_true_eq]at hb;simp only[CV,Cx.cut]at h ⊢;exact⟨⟨h.1,hb⟩,h.2⟩
 | .agg l,u,hb,h=>by simp only[V.BA]at hb;simp only[CV]at h ⊢;obtain⟨vs,e,h⟩:=h;exact⟨vs,e,AL.cut l _ hb h⟩
 | .Bk l,u,hb,h=>by simp only[V.BA]at hb;simp only[CV]at h ⊢;obtain⟨vs,e,h⟩:=h;exact⟨vs,e,AL.cut l _ hb h⟩
 | .fn f l,u,hb,h=>by simp only[V.BA]at hb;simp only[CV]at h ⊢;obtain⟨vs,e,h⟩:=h;exact⟨vs,e,AL.cut l _ hb h⟩
 | .any,u,_,h=>by simp only[CV]
 | .c _,u,_,h=>by simpa only[CV,Cx.cut]using h
 | .cp _ _,u,_,h=>by simpa only[CV,Cx.cut]using h
 | .full _,u,_,h=>by simpa only[CV,Cx.cut]using h
 | .hot k es rows,u,hb,h=>by simp only[V.BA,decide_eq_true_eq]at hb;simp only[CV,Cx.cut]at h ⊢;exact⟨⟨h.1,hb⟩,h.2⟩
 | .hp k m pos,u,hb,h=>by simp only[V.BA,decide_eq_true_eq]at hb;simp only[CV,Cx.cut]at h ⊢;exact⟨⟨h.1,hb⟩,h.2⟩
 | .yl l,u,_,h=>by simpa only[CV]using h
 | .mp k,u,hb,h=>by simp only[V.BA,decide_eq_true_eq]at hb;simp only[CV,Cx.cut]at h ⊢;exact⟨⟨h.1,hb⟩,h.2⟩
theorem AL.cut {x:Cx}{w:World}{n:Nat} : ∀(l:List V) (us:List Value),V.BT n l=true->AL x w l us->AL (x.cut n) w l us
 | [],us,_,h=>by simpa only[AL]using h
 | v::l,us,hb,h=>by
   simp only[V.BT,An]at hb;simp only[AL]at h ⊢;obtain⟨u,ur,e,h1,h2⟩:=h;exact⟨u,ur,e,CV.cut v u hb.1 h1,AL.cut l ur hb.2 h2⟩
end
theorem Le.drop {m:Mo}{t:List V}{h h':List O}(n:Nat)(hn:m.n0<=n)(hh:h.take n=h')(hb:V.BT n t=true)(ho:(h'.all (O.BA n))=true):Le m ⟨t,h⟩ ⟨t,h'⟩:=fun S0 w0 x a w hm hA=>by
 subst hh;have Nr : ∀k o,(h.take n)[k]?=some o->h[k]?=some o/\k<n:=by
  intro k o hk;rw[Jv]at hk;split at hk
  . exact⟨hk,by assumption⟩
  . cases hk
 have g:=hA.good;refine⟨x.cut n,⟨fun k o hk=>?_,fun k hk=>?_,fun k k' o o' h1 h2=>g.inj k k' o o' (Nr k o h1).1 (Nr k' o' h2).1,fun k o j hk hx=>g.EI k o j (Nr k o hk).1 (by cases o<;>exact hx),g.ex,fun k o hk=>g.own k o (Nr k o hk).1,g.new,g.sub,g.keep,g.ext.ar,fun k hk=>⟨g.ext.dom k hk,H6 (w0.dl k hk) (Tn hm hn)⟩,g.ext.loc⟩,AL.cut t _ hb hA.tm,hA.df⟩
 . obtain⟨h1,h2⟩:=Nr k o hk;obtain⟨h3,h4⟩:=g.ok k o h1;refine⟨⟨h3,h2⟩,?_⟩;cases o with
   | box ty cs fr =>
     obtain⟨a1,a2,vs,a3,a4,a5⟩:=h4;rw[Ee]at ho;exact⟨a1,a2,vs,a3,a4,AL.cut cs _ (ho _ (C6 hk)) a5⟩
   | tok ty es cur=>exact h4
   | mp R=>exact h4
   | hot ty es cur cs =>
     obtain⟨a1,a2,a3,a4,a5,vs,a6,a7,a8,a9⟩:=h4;rw[Ee]at ho;exact⟨a1,a2,a3,a4,a5,vs,a6,a7,a8,AL.cut cs _ (ho _ (C6 hk)) a9⟩
 . obtain⟨o,ho'⟩:=g.dom k hk.1;refine⟨o,?_⟩;rw[Jv,if_pos hk.2];exact ho'
theorem AHD {S0:Ba}{w0:Bs}{x:Cx}{w:World}{h:List O}(g:Good S0 w0 x w (fun k=>h[k]?))(Ah:TypeId)(es:Nat) :
 Good S0 w0 (x.grow h.length ⟨0,0,true,0,true⟩ 0) w (fun k=>(h++[O.tok Ah es 0])[k]?)/\Ext x (x.grow h.length ⟨0,0,true,0,true⟩ 0) w w:=by
 have hk : ¬x.dom h.length:=fun hd=>by obtain⟨o,ho⟩:=g.dom _ hd;simp at ho
 have he:Ext x (x.grow h.length ⟨0,0,true,0,true⟩ 0) w w:=⟨⟨fun _ _ h=>.inl h,fun _ _ _ _ h=>h⟩,fun _ h=>.inl h,fun i hi=>by
  have:i≠h.length:=fun e=>hk (e ▸ hi)
  simp[Cx.grow,this,Es.refl]⟩
 have g':=g.IN h.length (.tok Ah es 0) he (.GA (AS.refl w)) (fun i=>Qv) (fun i hi=>by simp[Cx.grow,hi]) (fun h=>by simp[Cx.grow]at h) ⟨by simp[Cx.grow],by simp[Cx.grow],fun h=>by simp[Cx.grow]at h⟩ (fun b j h=>h.elim .inl fun h=>by omega) (fun j hx=>by have:=hx.1;simp[Cx.grow]at this);refine⟨?_,he⟩;have e:=Lm h (some (h.length,O.tok Ah es 0)) (fun k o e=>by cases e;exact BW _);simp only[CG,Nat.lt_irrefl,if_false,Heap.upd]at e;rw[e];exact g'
theorem ABS {x:Cx}{w:World}{k es:Nat}{u:Value}(h:CV x w (.full []) u):CV (x.grow k ⟨0,0,true,0,true⟩ 0) w (.gr k es []) u:=by
 simp only[CV]at h ⊢;obtain⟨A,e,h⟩:=h;refine⟨.inr rfl,by simp[Cx.grow],Ap.mono ⟨fun _ _ h=>.inl h,fun _ _ _ _ h=>h⟩ _ _ h,by simp,by simp,fun _=>?_⟩;simp only[Cx.grow,if_true];exact⟨A,e⟩
theorem Le.gH {m:Mo}{t:List V}{h:List O}(i:Nat)(Ah:TypeId)(es:Nat)(hi:t[i]?=some (.full [])):Le m ⟨t,h⟩ ⟨t.set i (.gr h.length es []),h++[.tok Ah es 0]⟩:=fun S0 w0 x a w hm hA=>by
 obtain⟨g',he⟩:=AHD hA.good Ah es;obtain⟨u,hu,hc⟩:=hA.tm.get i _ hi;refine⟨_,g',?_,hA.df⟩;have:=(AL.mono he _ _ hA.tm).set i (ABS (k:=h.length) (es:=es) hc);have e:a.tmps.toList.set i u=a.tmps.toList:=by
  apply R7;intro j;rw[OH];by_cases e:i=j
  . subst e;have hl:=(Bv.1 hu).1;simp only[if_true,hl];exact hu.symm
  . simp[e]
 rwa [e]at this
theorem Le.Zm {m:Mo}{t:List V}{h:List O}(k i:Nat)(Ah:TypeId)(es:Nat){ty:TypeId}{cs:List V}(hk:h[k]?=some (.box ty cs false))(hi:cs[i]?=some (.full [])):Le m ⟨t,h⟩ ⟨t,(h.set k (.box ty (cs.set i (.gr h.length es [])) false))++[.tok Ah es 0]⟩:=fun S0 w0 x a w hm hA=>by
 obtain⟨g',he⟩:=AHD hA.good Ah es;have hlt:k<h.length:=(Bv.1 hk).1;have hk':(h++[O.tok Ah es 0])[k]?=some (.box ty cs false):=by rw[FK hlt];exact hk
 obtain⟨hd,b1,b2,vs,b3,b4,b5⟩:=g'.ok k _ hk';obtain⟨u,hu,hc⟩:=b5.get i _ hi;obtain⟨_,_,_,Dx,c3,c4,c5⟩:=hA.good.ok k _ hk;have hloc:(x.grow h.length ⟨0,0,true,0,true⟩ 0).loc k=x.loc k:=by simp[Cx.grow,Nat.ne_of_lt hlt]
 rw[hloc,c3]at b3;cases b3;obtain⟨u0,Wt,ky⟩:=c5.get i _ hi;have hcs:=(AL.mono he _ _ c5).set i (ABS (k:=h.length) (es:=es) ky);have e:vs.toList.set i u0=vs.toList:=by
  apply R7;intro j;rw[OH];by_cases e:i=j
  . subst e;have hl:=(Bv.1 Wt).1;simp only[if_true,hl];exact Wt.symm
  . simp[e]
 rw[e]at hcs;have hH:(fun j=>((h.set k (.box ty (cs.set i (.gr h.length es [])) false))++[O.tok Ah es 0])[j]?)=Heap.set (fun j=>(h++[O.tok Ah es 0])[j]?) k (.box ty (cs.set i (.gr h.length es [])) false):=by
  funext j;simp only[Heap.set];by_cases e:j=k
  . subst e;rw[FK (by simpa using hlt)];simp[hlt]
  . simp only[e,if_false];rcases Lq j h.length with hl|hl
    . rw[FK (by simpa using hl),FK hl,OH];have e' : ¬k=j:=fun h=>e h.symm
      rw[if_neg e']
    . rw[IP (by simpa using hl),IP hl];simp
 refine⟨x.grow h.length ⟨0,0,true,0,true⟩ 0,?_,AL.mono he _ _ hA.tm,hA.df⟩;rw[hH];refine g'.IN k _ (Ext.refl _ _) (.GA (AS.refl w)) (fun i=>⟨.inl,fun h=>h.elim id (fun e=>e ▸ hd)⟩) (fun _ _=>rfl) (fun _=>.inl ⟨hd,b2,rfl⟩) ?_ (fun b j h=>.inl h) (fun j hx=>g'.EI k _ j hk' hx);exact⟨b1,b2,vs,by rw[hloc];exact c3,by rw[hloc];exact c4,hcs⟩
def dP (l:List Nat)(t:List V):List V:=l.foldl (fun t i=>t.set i .any) t
def Br (l:List (Nat×V))(t:List V):List V:=l.foldl (fun t p=>t.set p.1 p.2) t
def gQ:List Oper->List Nat
 | []=>[]
 | o::r=>match o.dst with
   | some d=>d::gQ r
   | none=>gQ r
def wr:Code->List Nat
 | .region _ ops _=>gQ ops.toList
 | .seq c d=>wr c++wr d
 | .cond _ c d=>wr c++wr d
 | .block _ c=>wr c
 | .loop c=>wr c
 | .scope c=>wr c
 | .rangeFunc _ ps c d=>ps.toList++(wr c++wr d)
 | _=>[]
theorem AW.AO7 {m:Mo}{P:Program}{c:Code}{K:Exit->St->Prop}{t:List V}{h:List O}{ι:Type}(f:ι->List (Nat×V))(hf:ι->List O)(μ:ι->Nat)(i0:ι)(ws:List Nat)(hw:wr c=ws)(t0:List V)(ht:dP ws t=t0)(h0:Le m ⟨t,h⟩ ⟨Br (f i0) t0,hf i0⟩)(hr : ∀i,AW m P c (LM (fun s'=>∃j,μ j<μ i/\Le m s' ⟨Br (f j) t0,hf j⟩) K) ⟨Br (f i) t0,hf i⟩):AW m P (.loop c) K ⟨t,h⟩:=
 AW.loop (fun i=>⟨Br (f i) t0,hf i⟩) μ i0 h0 hr
section
structure Ef where
 v:V
 t:Option (Nat×O)
 rk:Option Nat
def Pl.key:Pl->Option Nat
 | .rd k _=>some k
 | .wr k _=>some k
 | _=>none
def bl (P:Program)(o:Oper)(s:St)(K:Ef->Prop):Prop:=
 match DE (ev s.t) o.op with
 | some (f,args)=>jE P f args fun v=>K ⟨v,none,none⟩
 | none=>match (OP P (ev s.t) o.op).ap (fun k=>s.h[k]?) s.h.length with
   | some (v,t)=>K ⟨v,t,(OP P (ev s.t) o.op).key⟩
   | none=>False
def Hi (P:Program)(ops:List Oper)(K:List Ef->St->Prop):List Oper->List Ef->St->Prop
 | [],acc,s=>K acc s
 | o::r,acc,s=>RA ops s.t o (bl P o s fun e=>Hi P ops K r (acc++[e]) (s.step o.dst e.v e.t)) (Hi P ops K r (acc++[⟨.Bk [],none,none⟩]) (s.put o.dst (.Bk [])))
def Vq (P:Program)(ops:List Oper)(o:Oper)(s:St)(e:Ef):Prop:=
 ∀(S0:Ba) (w0:Bs) (x:Cx) (w:World) (a:Act) (H:Heap),Good S0 w0 x w H->(∀t∈o.looksAt ops.toArray,CV x w (s.t.getD t .any) (a.tmps.getD t undef))->(∀k,(e.rk=some k\/e.t.map (·.1)=some k)->H k=s.h[k]?)->(∀ob,e.t=some (s.h.length,ob)->¬x.dom s.h.length)->
  ∀(Q:Exit->Act->World->Prop) (next:Act->World->Prop),(∀u x' w',Good S0 w0 x' w' (H.upd e.t)->Ext x x' w w'->CV x' w' e.v u->next (a.put o.dst u) w')->
   if DV o (yielded ops.toArray a.tmps)then o.wp P a w next Q else next (a.put o.dst undef) w
def jJ (P:Program)(Z:List PanicEntry->Prop)(ops:List Oper)(o:Oper)(s:St)(e:Ef):Prop:=
 ∀(S0:Ba) (w0:Bs) (x:Cx) (w:World) (a:Act) (H:Heap),Good S0 w0 x w H->(∀t∈o.looksAt ops.toArray,CV x w (s.t.getD t .any) (a.tmps.getD t undef))->(∀k,(e.rk=some k\/e.t.map (·.1)=some k)->H k=s.h[k]?)->(∀ob,e.t=some (s.h.length,ob)->¬x.dom s.h.length)->
  ∀(Q:Exit->Act->World->Prop) (next:Act->World->Prop),(∀ch x' w',Z ch->Good S0 w0 x' w' H->Ext x x' w w'->Q (.panic ch) a w')->(∀u x' w',Good S0 w0 x' w' (H.upd e.t)->Ext x x' w w'->CV x' w' e.v u->next (a.put o.dst u) w')->
   if DV o (yielded ops.toArray a.tmps)then o.wp P a w next Q else next (a.put o.dst undef) w
theorem Vq.z {P:Program}{Z:List PanicEntry->Prop}{ops:List Oper}{o:Oper}{s:St}{e:Ef}(h:Vq P ops o s e):jJ P Z ops o s e:=fun S0 w0 x w a H g h1 h2 h3 Q next _ hn=>h S0 w0 x w a H g h1 h2 h3 Q next hn
variable {P:Program}
theorem Ow {ops:List Oper}{o:Oper}{s:St}{x:Cx}{w:World}{a:Act}(h : ∀t∈o.looksAt ops.toArray,CV x w (s.t.getD t .any) (a.tmps.getD t undef)):∀y∈o.op.operands.toList,CV x w (ev s.t y) (a.eval y):=by
 intro y hy;cases y with
 | tmp t =>
   have:=h t (by
    unfold GG;exact List.mem_append_left _ (List.mem_filterMap.2 ⟨_,hy,rfl⟩))
   exact this
 | const v=>exact AHW x w v
 | func f=>simp only[ev,Act.eval,CV];exact⟨#[],rfl,by simp only[AL]⟩
 | global g=>simp only[ev,CV]
theorem Og {ops:List Oper}{o:Oper}{s:St}{x:Cx}{w:World}{a:Act}{B:Bool}(ht : ∀t∈o.looksAt ops.toArray,CV x w (s.t.getD t .any) (a.tmps.getD t undef))(h:gate ops s.t o.guard=some B):DV o (yielded ops.toArray a.tmps)=B:=by
 unfold gate at h;unfold DV;cases hg:o.guard with
 | none=>rw[hg]at h;simp only[BE]at h;exact h
 | some p =>
   obtain⟨j,want⟩:=p;rw[hg]at h;simp only at h ⊢;cases hd:(ops[j]?).bind (·.dst)with
   | none=>rw[hd]at h;cases h
   | some d =>
     rw[hd]at h;simp only at h;have dW:(ops.toArray[j]?).bind (·.dst)=some d:=by simpa using hd
     split at h
     . rename_i b hb;simp only[BE]at h;have hm:d∈o.looksAt ops.toArray:=by
        unfold GG;refine xp _ ?_;rw[hg];simp only[dW];simp
       have hv:=ht d hm;rw[hb]at hv;simp only[CV,Ap]at hv;have hy:yielded ops.toArray a.tmps j=some b:=by
        unfold yielded;rw[dW];have hx:a.tmps[d]?=some (.bool b):=by
         rw[NO]at hv;cases hq:a.tmps[d]? with
         | none=>rw[hq]at hv;cases hv
         | some y=>rw[hq]at hv;simp only[EM]at hv;subst hv;rfl
        simp[hx]
       rw[hy,<-h];cases b<;>cases want<;>rfl
     . rename_i hb;simp only[BE]at h;subst h;have hm:d∈o.looksAt ops.toArray:=by
        unfold GG;refine xp _ ?_;rw[hg];simp only[dW];simp
       have hv:=ht d hm;rw[hb]at hv;simp only[CV]at hv;obtain⟨vs,hv,_⟩:=hv;have hy:yielded ops.toArray a.tmps j=none:=by
        unfold yielded;rw[dW];have hx:a.tmps[d]?=none\/a.tmps[d]?=some (.tuple vs):=by
         rw[NO]at hv;cases hq:a.tmps[d]? with
         | none=>exact .inl rfl
         | some y=>rw[hq]at hv;simp only[EM]at hv;subst hv;exact .inr rfl
        rcases hx with hx|hx<;>simp[hx]
       rw[hy];rfl
     . cases h
theorem ALD {ops:List Oper}{t:List V}{o:Oper}{K1 K2:Prop}(h:RA ops t o K1 K2):∃B,gate ops t o.guard=some B/\(B=true->K1)/\(B=false->K2):=by
 unfold RA at h;unfold gate;cases hg:o.guard with
 | none=>rw[hg]at h;exact⟨true,rfl,fun _=>h,fun e=>by cases e⟩
 | some p =>
   obtain⟨j,want⟩:=p;rw[hg]at h;simp only at h ⊢;cases hd:(ops[j]?).bind (·.dst)with
   | none=>rw[hd]at h;exact h.elim
   | some d =>
     rw[hd]at h;simp only at h ⊢;split at h
     . rename_i b hb;rw[hb];refine⟨b==want,rfl,fun e=>h.1 (by simpa using e),fun e=>h.2 ?_⟩;cases b<;>cases want<;>simp_all
     . rename_i hb;rw[hb];exact⟨false,rfl,fun e=>(by cases e),fun _=>h⟩
     . exact h.elim
theorem z8 {o:Oper}{s:St}{S0:Ba}{w0:Bs}{x:Cx}{w:World}{a:Act}{H:Heap}(g:Good S0 w0 x w H)(hop : ∀y∈o.op.operands.toList,CV x w (ev s.t y) (a.eval y)){f:FuncId}{args:List V}(hc:DE (ev s.t) o.op=some (f,args)){K:V->Prop}(h:jE P f args K){next:Act->World->Prop}{Q:Exit->Act->World->Prop}(hn : ∀v u x' w',K v->Good S0 w0 x' w' H->Ext x x' w w'->CV x' w' v u->next (a.put o.dst u) w'):o.wp P a w next Q:=by
 obtain⟨Bx,res,hp,Cs,⟨fn,EP,ME,hname⟩,hK⟩:=h;unfold DE at hc;split at hc
 case h_2=>cases hc
 rename_i fo ar He ho;split at hc
 case h_2=>cases hc
 rename_i f' caps hf;simp only[BE,Cp]at hc;obtain⟨rfl,rfl⟩:=hc;have CY:=Qq (hop fo (by simp[ho,CN,D7]));rw[hf]at CY;simp only[CV]at CY;obtain⟨vs,CY,EZ⟩:=CY;have Ik:AL x w (ar.toList.map (ev s.t)++caps) (ar.toList.map a.eval++vs.toList):=(AL.of_map fun y hy=>hop y (by simp[ho,CN,D7];exact .inr (by simpa using hy))).append EZ;have:=Cs x.S w _ g.ex (PJ _ _ _ hp Ik);have hb:fn.body≠none:=by intro e;rw[e]at ME;cases ME
 have hrun:(execOp a.eval o).run P w=.ok (.enter f' (ar.toList.map a.eval++vs.toList).toArray) w:=by
  have e1:(ar.map a.eval++vs)=(ar.toList.map a.eval++vs.toList).toArray:=by apply Array.toList_inj.1;simp
  simp[execOp,ho,resolve,CY,Pa,invoke,callFunc,program,Sem.run,EP,hname,hb,e1]
 unfold EL;rw[hrun];refine this.mono ?_;rintro r w' ⟨u,S',rfl,Oo,DF,Hs,hcv⟩;obtain⟨g',he⟩:=g.Tf (x':={ x with S:=S' }) Oo DF rfl rfl Hs;exact hn res u _ w' hK g' he (CV.mono (UA S' x w') _ _ hcv)
theorem zO {p:Pl}{H H':Heap}{k0:Nat}(h : ∀k,p.key=some k->H k=H' k):p.ap H k0=p.ap H' k0:=by
 cases p with
 | rd k g=>simp only[Pl.ap,h k rfl]
 | wr k g=>simp only[Pl.ap,h k rfl]
 | _=>rfl
theorem AAn {ops:List Oper}{o:Oper}{s:St}(h:gate ops s.t o.guard=some false):Vq P ops o s ⟨.Bk [],none,none⟩:=by
 intro S0 w0 x w a H g hl hr hk Q next hn;rw[Og hl h];exact hn undef x w g (Ext.refl x w) (gJ x w)
def NY (P:Program)(ops:List Oper):List Oper->St->List Ef->St->Prop
 | [],s,es,s'=>es=[]/\s'=s
 | o::r,s,es,s'=>∃e er,es=e::er/\Vq P ops o s e/\(∀k ob,e.t=some (k,ob)->k<=s.h.length)/\NY P ops r (s.step o.dst e.v e.t) er s'
def bZ (P:Program)(Z:List PanicEntry->Prop)(ops:List Oper):List Oper->St->List Ef->St->Prop
 | [],s,es,s'=>es=[]/\s'=s
 | o::r,s,es,s'=>∃e er,es=e::er/\jJ P Z ops o s e/\(∀k ob,e.t=some (k,ob)->k<=s.h.length)/\bZ P Z ops r (s.step o.dst e.v e.t) er s'
theorem NY.z {Z:List PanicEntry->Prop}{ops:List Oper} : ∀ {r:List Oper} {s:St} {es:List Ef} {s':St},NY P ops r s es s'->bZ P Z ops r s es s'
 | [],_,_,_,h=>h
 | _::_,_,_,_,⟨e,er,h1,h2,h3,h4⟩=>⟨e,er,h1,h2.z,h3,NY.z h4⟩
theorem bg {ops:List Oper}{K:List Ef->St->Prop} : ∀(r:List Oper) (acc:List Ef) (s:St),Hi P ops K r acc s->∃es s',NY P ops r s es s'/\K (acc++es) s'
 | [],acc,s,h=>⟨[],s,⟨rfl,rfl⟩,by simpa [Hi]using h⟩
 | o::r,acc,s,h=>by
   unfold Hi at h;obtain⟨B,hB,h1,h2⟩:=ALD h;cases B with
   | false =>
     obtain⟨es,s',ht,hK⟩:=bg r _ _ (h2 rfl);exact⟨⟨.Bk [],none,none⟩::es,s',⟨_,es,rfl,AAn hB,fun k ob e=>(by cases e),ht⟩,by simpa using hK⟩
   | true =>
     have h1:=h1 rfl;unfold bl at h1;split at h1
     . rename_i f args hc;obtain⟨Bx,res,hp,Cs,EP,hK⟩:=h1;obtain⟨es,s',ht,hK⟩:=bg r _ _ hK;refine⟨⟨res,none,none⟩::es,s',⟨_,es,rfl,?_,fun k ob e=>(by cases e),ht⟩,by simpa using hK⟩;intro S0 w0 x w a H g hl hr hk Q next hn;rw[Og hl hB];exact z8 g (Ow hl) hc (K:=fun v=>v=res) ⟨Bx,res,hp,Cs,EP,rfl⟩ fun v u x' w' hv g' he hcv=>by subst hv;exact hn u x' w' g' he hcv
     . rename_i hc;split at h1
       . rename_i v t hap;obtain⟨es,s',ht,hK⟩:=bg r _ _ h1;refine⟨⟨v,t,_⟩::es,s',⟨_,es,rfl,?_,jo hap,ht⟩,by simpa using hK⟩;intro S0 w0 x w a H g hl hr hk Q next hn;rw[Og hl hB];have su:(OP P (ev s.t) o.op).ap H s.h.length=some (v,t):=by rw[<-hap];exact zO fun k hk=>hr k (.inl hk)
         obtain⟨nx,w',x',u,hrun,D5,hcv,g',he,_⟩:=jk g (Ow hl) hk su;show o.wp P a w next Q;unfold EL;rw[hrun];rcases D5 with rfl|⟨rfl,rfl⟩
         . exact hn u x' w' g' he hcv
         . exact hn undef x' w' g' he hcv
       . exact h1.elim
section
variable {α:Type}
def E5 (f:Nat->Option α)(X:Nat->Bool):Nat->α->α
 | 0,d=>d
 | n+1,d=>if X n=true then(match f n with|some v=>v|none=>E5 f X n d)else E5 f X n d
theorem Uo {f:Nat->Option α}{X Y:Nat->Bool}{d:α} : ∀n,(∀j,j<n->(f j).isSome=true->X j=Y j)->E5 f X n d=E5 f Y n d
 | 0,_=>rfl
 | n+1,h=>by
   have ih:=Uo (d:=d) n fun j hj=>h j (by omega)
   simp only[E5];cases hf:f n with
   | none=>simp only[ih,ite_self]
   | some v =>
     rw[h n (by omega) (by rw[hf];rfl),ih]
theorem l8 {f:Nat->Option α}{X:Nat->Bool}{d:α} : ∀n,(∀j,j<n->X j=true->f j=none)->E5 f X n d=d
 | 0,_=>rfl
 | n+1,h=>by
   simp only[E5];split
   . rename_i hx;rw[h n (by omega) hx];exact l8 n fun j hj=>h j (by omega)
   . exact l8 n fun j hj=>h j (by omega)
theorem uh {f:Nat->Option α}{X:Nat->Bool}{d v:α}{i:Nat} : ∀n,i<n->X i=true->f i=some v->(∀j,i<j->j<n->X j=true->f j=none)->E5 f X n d=v
 | 0,h,_,_,_=>by omega
 | n+1,h,hx,hf,hl=>by
   simp only[E5];by_cases e:i=n
   . subst e;rw[if_pos hx,hf]
   . have ih:=uh (d:=d) n (by omega) hx hf fun j h1 h2=>hl j h1 (by omega)
     split
     . rename_i hxn;rw[hl n (by omega) (by omega) hxn];exact ih
     . exact ih
theorem uj {f:Nat->Option α}{X:Nat->Bool}{d:α} : ∀n,(∀j v,f j=some v->v=d)->E5 f X n d=d
 | 0,_=>rfl
 | n+1,h=>by
   simp only[E5];split
   . split
     . rename_i v hv;exact h _ _ hv
     . exact uj n h
   . exact uj n h
theorem ui {f:Nat->Option α}{d:α} : ∀(n i:Nat),i<=n->E5 f (fun j=>decide (j<i)) n d=E5 f (fun _=>true) i d
 | 0,i,h=>by have:i=0:=(by omega);subst this;rfl
 | n+1,i,h=>by
   by_cases e:i=n+1
   . subst e;exact Uo _ fun j hj _=>by simp[hj]
   . simp only[E5];rw[if_neg (by simp;omega)];exact ui n i (by omega)
end
theorem AHI {Z:List PanicEntry->Prop}{ops:List Oper} : ∀ {r:List Oper} {s:St} {es:List Ef} {s':St},bZ P Z ops r s es s'->
 ∃ss:Nat->St,ss 0=s/\ss r.length=s'/\es.length=r.length/\∀i o,r[i]?=some o->∃e,es[i]?=some e/\jJ P Z ops o (ss i) e/\(∀k ob,e.t=some (k,ob)->k<=(ss i).h.length)/\ss (i+1)=(ss i).step o.dst e.v e.t
 | [],s,es,s',h=>by
   obtain⟨rfl,rfl⟩:=h;exact⟨fun _=>s',rfl,rfl,rfl,fun i o h=>by simp at h⟩
 | o::r,s,es,s',h=>by
   obtain⟨e,er,rfl,h1,h2,h3⟩:=h;obtain⟨ss,k1,k2,k3,k4⟩:=AHI h3;refine⟨fun i=>match i with|0=>s|i+1=>ss i,rfl,k2,by simp[k3],fun i o' hi=>?_⟩;match i,hi with
   | 0,hi =>
     simp only[LK,BE]at hi;subst hi;exact⟨e,rfl,h1,h2,k1⟩
   | i+1,hi =>
     simp only[List.getElem?_cons_succ]at hi ⊢;exact k4 i o' hi
def Zb (l:List Oper):List (List Nat):=l.foldl (fun acc o=>acc++[(FN o).flatMap fun j=>j::acc.getD j []]) []
theorem vX (X:Nat->Prop):∀(l pre:List Oper) (acc:List (List Nat)),acc.length=pre.length->(∀i o,(pre++l)[i]?=some o->X i->∀j∈FN o,X j)->(∀i r,acc[i]?=some r->X i->∀j∈r,X j)->
 ∀i r,(l.foldl (fun acc o=>acc++[(FN o).flatMap fun j=>j::acc.getD j []]) acc)[i]?=some r->X i->∀j∈r,X j
 | [],pre,acc,_,_,h=>by simpa using h
 | o::l,pre,acc,hl,hX,h=>by
   simp only[List.foldl_cons];refine vX X l (pre++[o]) _ (by simp[hl]) (by simpa using hX) fun i r hi hx j hj=>?_
   rcases Lq i acc.length with hlt|hge
   . rw[FK hlt]at hi;exact h i r hi hx j hj
   . rw[IP hge]at hi;have Y3:i - acc.length=0:=by
      rcases Nat.eq_zero_or_pos (i - acc.length)with h|h
      . exact h
      . have:=(Bv.1 hi).1;simp at this;omega
     rw[Y3]at hi;simp only[LK,BE]at hi;subst hi;have hio:(pre++o::l)[i]?=some o:=by
      rw[IP (by omega),show i - pre.length=0 by omega];rfl
     obtain⟨k,hk,hj⟩:=List.mem_flatMap.1 hj;have hXk:=hX i o hio hx k hk;rcases Cb.1 hj with rfl|hj
     . exact hXk
     . rw[G5]at hj;cases hq:acc[k]? with
       | none=>rw[hq]at hj;simp at hj
       | some r'=>rw[hq]at hj;exact h k r' hq hXk j hj
abbrev Ks:=List (Option Nat×Option Nat)
def ZL (a b:Option Nat×Option Nat):Bool:=
 (match a.1 with|some k=>b.1 !=some k && b.2 !=some k|none=>true) && (match b.1 with|some k=>a.2 !=some k|none=>true)
def UF (l:List Oper)(ks:Ks)(T:List (List Nat))(i:Nat):Bool:=
 match l[i]?,ks[i]? with
 | some o,some q=>((FN o).all (fun j=>decide (j<i)) && (T.getD i []).all (fun j=>decide (j<i))) && (E8 i).all fun j=>(T.getD i []).contains j ||
    match l[j]?,ks[j]? with
    | some p,some r=>p.apart l.toArray o && ZL r q
    | _,_=>false
 | _,_=>false
def LP (l:List Oper)(ks:Ks):Bool:=(E8 l.length).all (UF l ks (Zb l))
def Ef.ks (e:Ef):Option Nat×Option Nat:=(e.t.map (·.1),e.rk)
theorem uc {a b:Option Nat×Option Nat}(h:ZL a b=true):(∀k,a.1=some k->b.1≠some k/\b.2≠some k)/\∀k,b.1=some k->a.2≠some k:=by
 unfold ZL at h;rw[An]at h;refine⟨fun k hk=>?_,fun k hk=>?_⟩
 . have:=h.1;rw[hk]at this;simpa using this
 . have:=h.2;rw[hk]at this;simpa using this
theorem rS {l:List Oper}{ks:Ks}(h:LP l ks=true){i:Nat}{o:Oper}(ho:l[i]?=some o):∃q r,ks[i]?=some q/\(Zb l).getD i []=r/\((∀j∈FN o,j<i)/\∀j∈r,j<i)/\∀j p,j<i->l[j]?=some p->j∈r\/∃q',ks[j]?=some q'/\p.apart l.toArray o=true/\ZL q' q=true:=by
 have hlt:i<l.length:=(Bv.1 ho).1;unfold LP at h;rw[Ee]at h;have:=h i (Lo.2 hlt);unfold UF at this;rw[ho]at this;cases hk:ks[i]? with
 | none=>rw[hk]at this;cases this
 | some q =>
   rw[hk]at this;simp only[An,Ee,decide_eq_true_eq,Lo,Bool.or_eq_true,List.contains_iff_mem]at this;refine⟨q,_,rfl,rfl,this.1,fun j p hj hp=>?_⟩;rcases this.2 j hj with h|h
   . exact .inl h
   . rw[hp]at h;cases hq:ks[j]? with
     | none=>rw[hq]at h;cases h
     | some q'=>rw[hq]at h;simp only[An]at h;exact .inr ⟨q',rfl,h.1,h.2⟩
section
variable {l:List Oper} {es:List Ef} {n:Nat}
def fT (l:List Oper)(es:List Ef)(n τ:Nat)(i:Nat):Option V:=
 match l[i]?,es[i]? with
 | some o,some e=>if o.dst=some τ/\τ<n then some e.v else none
 | _,_=>none
def fH (es:List Ef)(k:Nat)(i:Nat):Option (Option O):=
 match es[i]? with
 | some e=>match e.t with
   | some (k',ob)=>if k=k' then some (some ob)else none
   | none=>none
 | none=>none
theorem AUp (s:St)(d:Option Tmp)(v:V)(t:Option (Nat×O)):(s.step d v t).t.length=s.t.length:=by cases d<;>simp[St.step,St.put]
theorem AUq (s:St)(d:Option Tmp)(v:V)(t:Option (Nat×O))(τ:Nat):(s.step d v t).t.getD τ .any=if d=some τ/\τ<s.t.length then v else s.t.getD τ .any:=by
 cases d with
 | none=>simp[St.step,St.put]
 | some d =>
   simp only[St.step,St.put,G5,OH,BE];by_cases e:d=τ
   . subst e;by_cases hl:d<s.t.length
     . simp[hl]
     . simp[hl,Ln (Nat.le_of_not_lt hl)]
   . simp[e]
def hAt (t:Option (Nat×O))(k:Nat)(d:Option O):Option O:=
 match t with
 | some (k',ob)=>if k=k' then some ob else d
 | none=>d
theorem AUo (s:St)(d:Option Tmp)(v:V)(t:Option (Nat×O))(ht : ∀k ob,t=some (k,ob)->k<=s.h.length)(k:Nat):(s.step d v t).h[k]?=hAt t k (s.h[k]?):=by
 have e:=congrFun (Lm s.h t ht) k;have e2:(s.step d v t).h=CG s.h t:=by cases d<;>rfl
 rw[e2,e];cases t with
 | none=>rfl
 | some p=>rfl
theorem ri {Q:Exit->Act->World->Prop}{K:St->Prop}{Z:List PanicEntry->Prop}{n:Nat}{S0:Ba}{w0:Bs}{s s':St}(ht:bZ P Z l l s es s')(hc:LP l (es.map Ef.ks)=true)(hK:K s')(hQ : ∀x s a w,K s->CT S0 w0 x s a w->Q .normal a w)(Oo : ∀e∈es,∀k ob,k<n->e.t=some (k,ob)->s.h[k]?=some ob)(hP : ∀ch x a w H,Z ch->Good S0 w0 x w H->(∀k,k<n->H k=s.h[k]?)->a.tmps.size=s.t.length->Marks w0 a.defers w->Q (.panic ch) a w){x:Cx}{a:Act}{w:World}(hA:CT S0 w0 x s a w):wpAny P .any l.toArray Q l.toArray.size (PY l.toArray.size false) a w:=by
 obtain⟨ss,s0,sN,MG,hst⟩:=AHI ht;have ld : ∀i,i<=l.length->(ss i).t.length=s.t.length:=by
  intro i;induction i with
  | zero=>intro _;rw[s0]
  | succ i ih =>
    intro hi;obtain⟨e,_,_,_,h4⟩:=hst i l[i] (BP (by omega));rw[h4,AUp,ih (by omega)]
 have hT : ∀i τ,i<=l.length->(ss i).t.getD τ .any=E5 (fT l es s.t.length τ) (fun _=>true) i (s.t.getD τ .any):=by
  intro i τ;induction i with
  | zero=>intro _;rw[s0];rfl
  | succ i ih =>
    intro hi;have BL:l[i]?=some l[i]:=BP (by omega);obtain⟨e,he,_,_,h4⟩:=hst i l[i] BL;rw[h4,AUq,ld i (by omega),ih (by omega)];simp only[E5,if_true,fT,BL,he];split<;>rfl
 have hHt : ∀i k,i<=l.length->(ss i).h[k]?=E5 (fH es k) (fun _=>true) i (s.h[k]?):=by
  intro i k;induction i with
  | zero=>intro _;rw[s0];rfl
  | succ i ih =>
    intro hi;have BL:l[i]?=some l[i]:=BP (by omega);obtain⟨e,he,_,h3,h4⟩:=hst i l[i] BL;rw[h4,AUo _ _ _ _ h3,ih (by omega)];simp only[E5,if_true,fH,he,hAt];cases e.t with
    | none=>rfl
    | some p =>
      obtain⟨k',ob⟩:=p;simp only;split<;>rfl
 have AW8 : ∀i j,i<=j->j<=l.length->(ss i).h.length<=(ss j).h.length:=by
  intro i j hij hj;induction j with
  | zero=>have:i=0:=(by omega);subst this;exact BW _
  | succ j ih =>
    by_cases e:i=j+1
    . subst e;exact BW _
    . refine Tn (ih (by omega) (by omega)) ?_;obtain⟨e,_,_,_,h4⟩:=hst j l[j] (BP (by omega));rw[h4];have e2:((ss j).step l[j].dst e.v e.t).h=CG (ss j).h e.t:=by cases l[j].dst<;>rfl
      rw[e2];unfold CG;split
      . exact BW _
      . split<;>simp
 have base : ∀(listed:Array Bool) (x:Cx) (a:Act) (w:World),(E8 l.length).countP (fun i=> !listed.getD i false)<=0->listed.size=l.length->
  (∀(i:Nat) (o:Oper),l[i]?=some o->listed.getD i false=true->∀j∈FN o,listed.getD j false=true)->a.tmps.size=s.t.length->Marks w0 a.defers w->
  (∀τ,τ<s.t.length->CV x w (E5 (fT l es s.t.length τ) (fun i=>listed.getD i false) l.length (s.t.getD τ .any)) (a.tmps.getD τ undef))->
  Good S0 w0 x w (fun k=>E5 (fH es k) (fun i=>listed.getD i false) l.length (s.h[k]?))->wpAny P .any l.toArray Q 0 listed a w:=by
  intro listed x a w AB4 hsz CU FE GM QN hg;have hall : ∀i,i<l.length->listed.getD i false=true:=by
   intro i hi;have h0:=oN.1 (Nat.le_zero.1 AB4) i (Lo.2 hi);simpa using h0
  have RX:iH .any l.toArray listed=[]:=by
   rw[List.eq_nil_iff_forall_not_mem];intro j hj;rw[mem_ready]at hj;obtain⟨h0,o,ho,_⟩:=hj;have hlt:j<l.length:=(Bv.1 (show l[j]?=some o by simpa using ho)).1;rw[UU _ _ (by omega),hall j hlt]at h0;cases h0
  refine⟨RX,hQ x s' a w hK ⟨?_,?_,GM⟩⟩
  . have e:(fun k=>s'.h[k]?)=fun k=>E5 (fH es k) (fun i=>listed.getD i false) l.length (s.h[k]?):=by
     funext k;rw[<-sN,hHt l.length k (BW _)];exact Uo _ fun j hj _=>by rw[hall j hj]
    rw[e];exact hg
  . refine AL.Rp (by simp[FE,<-sN,ld l.length (BW _)]) fun τ v u hv hu=>?_
    have QR:τ<s.t.length:=by have:=(Bv.1 hv).1;rw[<-sN,ld l.length (BW _)]at this;exact this
    have h1:=QN τ QR;have e:E5 (fT l es s.t.length τ) (fun i=>listed.getD i false) l.length (s.t.getD τ .any)=v:=by
     have:s'.t.getD τ .any=v:=by rw[G5,hv];rfl
     rw[<-this,<-sN,hT l.length τ (BW _)];exact Uo _ fun j hj _=>by rw[hall j hj]
    rw[e]at h1;have:a.tmps.getD τ undef=u:=by
     have Ui:a.tmps[τ]?=some u:=by simpa using hu
     rw[NO,Ui];rfl
    rwa [this]at h1
 have key : ∀(fuel:Nat) (listed:Array Bool) (x:Cx) (a:Act) (w:World),(E8 l.length).countP (fun i=> !listed.getD i false)<=fuel->listed.size=l.length->
  (∀(i:Nat) (o:Oper),l[i]?=some o->listed.getD i false=true->∀j∈FN o,listed.getD j false=true)->a.tmps.size=s.t.length->Marks w0 a.defers w->
  (∀τ,τ<s.t.length->CV x w (E5 (fT l es s.t.length τ) (fun i=>listed.getD i false) l.length (s.t.getD τ .any)) (a.tmps.getD τ undef))->
  Good S0 w0 x w (fun k=>E5 (fH es k) (fun i=>listed.getD i false) l.length (s.h[k]?))->wpAny P .any l.toArray Q fuel listed a w:=by
  intro fuel;induction fuel with
  | zero=>exact base
  | succ fuel ih =>
    intro listed x a w AB4 hsz CU FE GM QN hg;refine⟨fun RX=>?_,fun i hi=>?_⟩
    .
      have hall : ∀i,i<l.length->listed.getD i false=true:=by
       intro i;induction i using Nat.strongRecOn with
       | _ i uO =>
         intro hi;cases hx:listed.getD i false with
         | true=>rfl
         | false =>
           have BL:l[i]?=some l[i]:=BP hi;obtain⟨_,_,_,_,⟨hb,_⟩,_⟩:=rS hc BL;have:i∈iH .any l.toArray listed:=by
            rw[mem_ready];refine⟨by rw[UU _ _ (by omega)];exact hx,l[i],by simp,fun e he hbn=>?_⟩;have hj:=hb e.on (ZP.2 ⟨e,he,hbn,rfl⟩);exact uO e.on hj (by omega)
           rw[RX]at this;cases this
      have hz:(E8 l.length).countP (fun i=> !listed.getD i false)<=0:=by
       rw[Nat.le_zero,oN];intro i hi;simp[hall i (Lo.1 hi)]
      exact(base listed x a w hz hsz CU FE GM QN hg).2
    . rw[mem_ready]at hi;obtain⟨h0,o,ho,hall⟩:=hi;have ho:l[i]?=some o:=by simpa using ho
      have hlt:i<l.length:=(Bv.1 ho).1;rw[UU _ _ (by omega)]at h0;have ACB : ∀j∈FN o,listed.getD j false=true:=by
       intro j hj;rw[ZP]at hj;obtain⟨e,RT,Y1,tK⟩:=hj;rw[<-tK];exact hall e RT Y1
      obtain⟨e,he,Au,hkb,AXC⟩:=hst i o ho;obtain⟨q,r,hq,hr,⟨_,ANX⟩,ANN⟩:=rS hc ho;have hqe:q=e.ks:=by rw[Co,he]at hq;simpa using hq.symm
      subst hqe;have eG : ∀j∈r,listed.getD j false=true:=by
       intro j hj;have:=vX (fun j=>listed.getD j false=true\/j=i) l [] [] rfl (fun i' o' II hx j hj=>by
        rcases hx with hx|rfl
        . exact .inl (CU i' o' II hx j hj)
        . simp only[Bh]at II;rw[ho]at II;cases II;exact .inl (ACB j hj)) (fun i' r' h=>by simp at h) i r (by
        have:(Zb l)[i]?=some r\/r=[]:=by
         rw[G5]at hr;cases hx:(Zb l)[i]? with
         | none=>rw[hx]at hr;exact .inr hr.symm
         | some y=>rw[hx]at hr;exact .inl (by rw[<-hr];rfl)
        rcases this with h|h
        . exact h
        . subst h;cases hj) (.inr rfl) j hj
       exact this.resolve_right fun e=>by have:=ANX j hj;omega
      have BR : ∀j p,j<i->l[j]?=some p->listed.getD j false=false->∃ej,es[j]?=some ej/\p.apart l.toArray o=true/\ZL ej.ks e.ks=true:=by
       intro j p hj hp hx;rcases ANN j p hj hp with h|⟨q',h1,h2,h3⟩
       . rw[eG j h]at hx;cases hx
       . rw[Co,G6]at h1;obtain⟨ej,h4,rfl⟩:=h1;exact⟨ej,h4,h2,h3⟩
      have hB' : ∀j p,i<j->l[j]?=some p->listed.getD j false=true->∃ej,es[j]?=some ej/\o.apart l.toArray p=true/\ZL e.ks ej.ks=true:=by
       intro j p hj hp hx;obtain⟨qj,rj,Oy,QI,_,hpj⟩:=rS hc hp;rw[Co,G6]at Oy;obtain⟨ej,h4,rfl⟩:=Oy;rcases hpj i o hj ho with h|⟨q',h1,h2,h3⟩
       . have:=vX (fun j=>listed.getD j false=true) l [] [] rfl (fun i' o' II hx j hj=>CU i' o' (by simpa using II) hx j hj) (fun i' r' h=>by simp at h) j rj (by
          rw[G5]at QI;cases hx:(Zb l)[j]? with
          | none=>rw[hx]at QI;simp only[Option.getD_none]at QI;subst QI;cases h
          | some y=>rw[hx]at QI;simp only[EM]at QI;rw[<-QI];exact hx) hx i h
         rw[h0]at this;cases this
       . rw[Co,he]at h1;simp only[H8,BE]at h1;subst h1;exact⟨ej,h4,h2,h3⟩
      have AM4 : ∀τ∈o.looksAt l.toArray,∀j,j<l.length->(fT l es s.t.length τ j).isSome=true->listed.getD j false=decide (j<i):=by
       intro τ QR j hj hw;have hp:l[j]?=some l[j]:=BP hj;have hdst:l[j].dst=some τ:=by
        unfold fT at hw;rw[hp]at hw;cases hx:es[j]? with
        | none=>rw[hx]at hw;cases hw
        | some ej=>rw[hx]at hw;simp only at hw;split at hw;(· (rename_i h;exact h.1));(· cases hw)
       rcases aC j i with h|h|h
       . cases hx:listed.getD j false with
         | true=>simp[h]
         | false =>
           obtain⟨ej,_,h2,_⟩:=BR j l[j] h hp hx;exact absurd QR ((x5 h2).1 τ hdst)
       . subst h;simp[h0]
       . cases hx:listed.getD j false with
         | false=>simp;omega
         | true =>
           obtain⟨ej,_,h2,_⟩:=hB' j l[j] h hp hx;exact absurd QR ((x5 h2).2.2 τ hdst)
      have hkey : ∀k,(e.rk=some k\/e.t.map (·.1)=some k)->∀j,j<l.length->(fH es k j).isSome=true->j≠i->listed.getD j false=decide (j<i):=by
       intro k hk j hj hw hne;have hp:l[j]?=some l[j]:=BP hj;obtain⟨ej,lG,uK⟩:∃ej,es[j]?=some ej/\ej.t.map (·.1)=some k:=by
        unfold fH at hw;cases hx:es[j]? with
        | none=>rw[hx]at hw;cases hw
        | some ej =>
          rw[hx]at hw;simp only at hw;refine⟨ej,rfl,?_⟩;cases ht:ej.t with
          | none=>rw[ht]at hw;cases hw
          | some p =>
            obtain⟨k',ob⟩:=p;rw[ht]at hw;simp only at hw;split at hw
            . rename_i h;subst h;rfl
            . cases hw
       rcases aC j i with h|h|h
       . cases hx:listed.getD j false with
         | true=>simp[h]
         | false =>
           obtain⟨ej',P9,_,h3⟩:=BR j l[j] h hp hx;rw[lG]at P9;cases P9;have:=(uc h3).1 k uK;rcases hk with hk|hk
           . exact absurd hk this.2
           . exact absurd hk this.1
       . exact absurd h hne
       . cases hx:listed.getD j false with
         | false=>simp;omega
         | true =>
           obtain⟨ej',P9,_,h3⟩:=hB' j l[j] h hp hx;rw[lG]at P9;cases P9;rcases hk with hk|hk
           . exact absurd hk ((uc h3).2 k uK)
           . exact absurd uK ((uc h3).1 k hk).1
      have hHX : ∀k,(e.rk=some k\/e.t.map (·.1)=some k)->E5 (fH es k) (fun j=>listed.getD j false) l.length (s.h[k]?)=(ss i).h[k]?:=by
       intro k hk;rw[hHt i k (by omega),<-ui l.length i (by omega)];refine Uo _ fun j hj hw=>?_
       by_cases hne:j=i
       . subst hne;simp[h0]
       . exact hkey k hk j hj hw hne
      show wpOp P l.toArray Q i _ a w;unfold wpOp;have hoa:l.toArray[i]?=some o:=by simpa using ho
      rw[hoa];simp only;have Y2:=Au x.S (w0.re w hg.keep.size) x w a _ hg.VA (fun τ QR=>?_) hHX (fun ob Fs tI=>?_) Q (wpAny P .any l.toArray Q fuel (listed.setIfInBounds i true)) (fun ch x' w' hz g' IH=>hP ch x' a w' _ hz (hg.Qp IH g').1 (fun k hk=>uj _ fun j v hv=>by
       unfold fH at hv;cases hx:es[j]? with
       | none=>rw[hx]at hv;cases hv
       | some ej =>
         rw[hx]at hv;simp only at hv;cases ht:ej.t with
         | none=>rw[ht]at hv;cases hv
         | some p =>
           obtain⟨k',ob⟩:=p;rw[ht]at hv;simp only at hv;split at hv
           . rename_i h;subst h;cases hv;exact(Oo ej (C6 hx) _ _ hk ht).symm
           . cases hv) FE (GM.mono (hg.Qp IH g').2)) (fun u x' w' g' IH hcv=>?_)
      . split
        . rename_i hw;rw[if_pos hw]at Y2;exact .inl Y2
        . rename_i hw;rw[if_neg hw]at Y2;exact Y2
      .
        rcases Lq τ s.t.length with uM|uM
        . rw[hT i τ (by omega),<-ui l.length i (by omega),<-Uo l.length (AM4 τ QR)];exact QN τ uM
        . have:(ss i).t.getD τ .any=.any:=by
           rw[G5,Ln (by rw[ld i (by omega)];exact uM)];rfl
          rw[this];simp only[CV]
      .
        obtain⟨Cy,ACX⟩:=hg.dom _ tI;rw[hHX _ (.inr (by rw[Fs];rfl))]at ACX;simp at ACX
      .
        have hgd : ∀j,(listed.setIfInBounds i true).getD j false=if i=j then true else listed.getD j false:=fun j=>P1 listed i j (by omega)
        refine ih _ x' _ w' ?_ (by simpa using hsz) (fun i' o' II hx j hj=>?_) (by rw[vi];exact FE) (by rw[Rs];exact GM.mono (hg.Qp IH g').2) (fun τ QR=>?_) ?_
        . have:=AAZ (p:=fun j=> !listed.getD j false) (p':=fun j=> !(listed.setIfInBounds i true).getD j false) (E8 l.length) (fun j _ h=>by
           simp only[hgd]at h;split at h
           . cases h
           . exact h) i (Lo.2 hlt) (by simp[h0]) (by simp only[hgd];simp)
          omega
        . rw[hgd]at hx ⊢;split
          . rfl
          . split at hx
            . rename_i e1;subst e1;rw[ho]at II;cases II;exact ACB j hj
            . exact CU i' o' II hx j hj
        . by_cases hd:o.dst=some τ
          . have e1:E5 (fT l es s.t.length τ) (fun j=>(listed.setIfInBounds i true).getD j false) l.length (s.t.getD τ .any)=e.v:=by
             refine uh l.length hlt (by simp[hgd]) (by simp[fT,ho,he,hd,QR]) fun j hij hj hx=>?_
             rw[hgd,if_neg (by omega)]at hx;have hp:l[j]?=some l[j]:=BP hj;obtain⟨ej,lG,h2,_⟩:=hB' j l[j] hij hp hx;unfold fT;rw[hp,lG];simp only;rw[if_neg];rintro ⟨h5,_⟩;exact(x5 h2).2.1 τ hd h5
            rw[e1,hd,WJ,if_pos rfl,if_pos (by rw[FE];exact QR)];exact hcv
          . have e1:E5 (fT l es s.t.length τ) (fun j=>(listed.setIfInBounds i true).getD j false) l.length (s.t.getD τ .any)=E5 (fT l es s.t.length τ) (fun j=>listed.getD j false) l.length (s.t.getD τ .any):=by
             refine Uo _ fun j hj hw=>?_
             rw[hgd];split
             . rename_i e2;subst e2;simp[fT,ho,he,hd]at hw
             . rfl
            rw[e1];have e2:(a.put o.dst u).tmps.getD τ undef=a.tmps.getD τ undef:=by
             cases hdd:o.dst with
             | none=>rfl
             | some d=>rw[WJ,if_neg (fun e=>hd (by rw[hdd,e]))]
            rw[e2];exact CV.mono IH _ _ (QN τ QR)
        . have e1:(fun k=>E5 (fH es k) (fun j=>(listed.setIfInBounds i true).getD j false) l.length (s.h[k]?))=Heap.upd (fun k=>E5 (fH es k) (fun j=>listed.getD j false) l.length (s.h[k]?)) e.t:=by
           funext k;have LU:(fH es k i=none)->E5 (fH es k) (fun j=>(listed.setIfInBounds i true).getD j false) l.length (s.h[k]?)=E5 (fH es k) (fun j=>listed.getD j false) l.length (s.h[k]?):=by
            intro hn;refine Uo _ fun j hj hw=>?_
            rw[hgd];split
            . rename_i e2;subst e2;rw[hn]at hw;cases hw
            . rfl
           cases ZF:e.t with
           | none=>exact LU (by simp[fH,he,ZF])
           | some pp =>
             obtain⟨k',ob⟩:=pp;simp only[Heap.upd,Heap.set];by_cases hkk:k=k'
             . subst hkk;rw[if_pos rfl];refine uh l.length hlt (by simp[hgd]) (by simp[fH,he,ZF]) fun j hij hj hx=>?_
               rw[hgd,if_neg (by omega)]at hx;cases hfj:fH es k j with
               | none=>rfl
               | some y =>
                 have:=hkey k (.inr (by rw[ZF];rfl)) j hj (by rw[hfj];rfl) (by omega);rw[hx]at this;simp at this;omega
             . rw[if_neg hkk];exact LU (by simp[fH,he,ZF,hkk])
          rw[e1];exact(hg.Qp IH g').1
 refine key _ _ x a w ?_ (by simp) (fun i o hi hx=>by rw[mN]at hx;cases hx) (by have:=hA.tm.len;simpa using this) hA.df (fun τ QR=>?_) ?_
 . have:=List.countP_le_length (p:=fun i=> !(PY l.toArray.size false).getD i false) (l:=E8 l.length);simpa using this
 . rw[l8 l.length fun j _ hx=>by rw[mN]at hx;cases hx];have:=hA.tm.getD τ undef;simpa [NO,G5]using this
 . have e:(fun k=>E5 (fH es k) (fun i=>(PY l.toArray.size false).getD i false) l.length (s.h[k]?))=fun k=>s.h[k]?:=by
    funext k;exact l8 l.length fun j _ hx=>by rw[mN]at hx;cases hx
   rw[e];exact hA.good
end
theorem AW.AAi {m:Mo}{id:Nat}{ops:List Oper}{K:Exit->St->Prop}{s s':St}{es:List Ef}(hm:P.follows .mixedOrders=true)(hd:m.rd=none\/TV ops=true)(ht:NY P ops ops s es s')(hc:LP ops (es.map Ef.ks)=true)(hK:K .normal s'):AW m P (.region id ops.toArray true) K s:=fun n S0 w0 x a w ZA hA=>by
 have e:({ w with drawn:=w.drawn+1 }:World)=w.drew:=rfl;have BR:CT S0 w0 x s a w.drew:=by
  obtain⟨g,he⟩:=hA.good.Tf (x':=x) (w':=w.drew) (AS.refl w).drew ⟨fun _ _ h=>h,fun b j v _ hc=>(AS.refl w).drew.cell hc⟩ rfl rfl (fun b j h=>.inl h);exact⟨g,AL.mono he _ _ hA.tm,hA.df.mono (.GA (AS.refl w).drew)⟩
 obtain⟨rd,n0⟩:=m;cases rd with
 | none =>
   refine wpIn_wide.2 (wp_region_any hm ?_);rw[e];exact ri (K:=K .normal) (Z:=fun _=>False) (n:=0) ht.z hc hK (fun x s a w h hA=>⟨x,s,hA,h⟩) (fun _ _ k _ hk=>absurd hk (Q3 k)) (fun _ _ _ _ _ h=>h.elim) BR
 | some l =>
   have hd:=hd.resolve_left (by simp);refine Code.wpIn_mono (Q:=yw fun a w=>∃x s,CT S0 w0 x s a w/\K .normal s) (fun e a w h=>?_) (wpIn_region_any hm (AJB (AQE _) hd _ _ _ _ ?_))
   . cases e<;>first|exact h|exact h.elim
   . rw[e];exact ri (K:=K .normal) (Z:=fun _=>False) (n:=0) ht.z hc hK (fun x s a w h hA=>⟨x,s,hA,h⟩) (fun _ _ k _ hk=>absurd hk (Q3 k)) (fun _ _ _ _ _ h=>h.elim) BR
theorem AW.draw {m:Mo}{id:Nat}{ops:List Oper}{K:Exit->St->Prop}{s:St}(hm:P.follows .mixedOrders=true)(hd:m.rd=none\/TV ops=true)(h:Hi P ops (fun es s'=>LP ops (es.map Ef.ks)=true/\K .normal s') ops [] s):AW m P (.region id ops.toArray true) K s:=by
 obtain⟨es,s',ht,hc,hK⟩:=bg _ _ _ h;exact AW.AAi hm hd ht (by simpa using hc) hK
end
section
theorem GZ:Tryz.prog.follows .mixedOrders=true:=by kernel_rfl
def PO (P:Program)(o:Oper)(s:St):Option (Ef×St):=
 match (OP P (ev s.t) o.op).ap (fun k=>s.h[k]?) s.h.length with
 | some (v,t)=>some (⟨v,t,(OP P (ev s.t) o.op).key⟩,s.step o.dst v t)
 | none=>none
def Zf (P:Program)(ops:List Oper):List Oper->List Ef->St->Option (List Oper×List Ef×St)
 | [],acc,s=>some ([],acc,s)
 | o::r,acc,s=>match gate ops s.t o.guard with
   | some true=>match Jj o.op with
     | false=>match PO P o s with
       | some (e,s')=>Zf P ops r (acc++[e]) s'
       | none=>none
     | true=>some (o::r,acc,s)
   | some false=>Zf P ops r (acc++[⟨.Bk [],none,none⟩]) (s.put o.dst (.Bk []))
   | none=>none
variable {P:Program} {ops:List Oper} {K:List Ef->St->Prop}
theorem Fh : ∀ {l l':List Oper} {acc YY:List Ef} {s s':St},Zf P ops l acc s=some (l',YY,s')->Hi P ops K l' YY s'->Hi P ops K l acc s
 | [],l',acc,YY,s,s',h,hK=>by simp only[Zf,BE,Cp]at h;obtain⟨rfl,rfl,rfl⟩:=h;exact hK
 | o::r,l',acc,YY,s,s',h,hK=>by
   unfold Zf at h;split at h
   . rename_i hg;split at h
     . rename_i hc;split at h
       . rename_i e s1 hs;have ih:=Fh h hK;unfold PO at hs;split at hs
         . rename_i v t hap;simp only[BE,Cp]at hs;obtain⟨rfl,rfl⟩:=hs;unfold Hi;refine Hj hg ?_;unfold bl;rw[V7 hc];simp only;rw[hap];exact ih
         . cases hs
       . cases h
     . simp only[BE,Cp]at h;obtain⟨rfl,rfl,rfl⟩:=h;exact hK
   . rename_i hg;unfold Hi;exact Vy hg (Fh h hK)
   . cases h
theorem AIz {o:Oper}{r:List Oper}{acc:List Ef}{s:St}{f:FuncId}{args Bx:List V}{res:V}{fn:Func}(Cs:AC P f Bx res)(hg:gate ops s.t o.guard=some true)(hc:DE (ev s.t) o.op=some (f,args))(hp:V.AO args=some Bx)(hf:P.funcs[f]?=some fn)(hb:fn.body.isSome=true)(hn:(fn.name == "runtime.NumGoroutine")=false)(h:Hi P ops K r (acc++[⟨res,none,none⟩]) (s.step o.dst res none)):Hi P ops K (o::r) acc s:=by
 unfold Hi;refine Hj hg ?_;unfold bl;rw[hc];simp only;exact⟨Bx,res,hp,Cs,⟨fn,hf,hb,by simpa using hn⟩,h⟩
theorem zB {K:St->Prop}{acc:List Ef}{s:St}(hc:LP ops (acc.map Ef.ks)=true)(h:K s):Hi P ops (fun es s'=>LP ops (es.map Ef.ks)=true/\K s') [] acc s:=⟨hc,h⟩
def Fv (e:Operand->V)(op:Op):Option (FuncId×List V):=
 match DE e op with
 | some (f,args)=>match V.AO args with
   | some a=>some (f,a)
   | none=>none
 | none=>none
theorem Xe {e:Operand->V}{op:Op}{f:FuncId}{Bx:List V}(h:Fv e op=some (f,Bx)):∃args,DE e op=some (f,args)/\V.AO args=some Bx:=by
 unfold Fv at h;split at h
 . rename_i f' args hc;split at h
   . rename_i a ha;simp only[BE,Cp]at h;obtain⟨rfl,rfl⟩:=h;exact⟨args,hc,ha⟩
   . cases h
 . cases h
theorem jl {K:St->Prop}{o:Oper}{r:List Oper}{s:St}{f:FuncId}{Bx:List V}{res:V}{fn:Func}(Cs:AC P f Bx res)(hf:P.funcs[f]?=some fn)(hb:fn.body.isSome=true)(hn:(fn.name == "runtime.NumGoroutine")=false)(hg:gate ops s.t o.guard=some true)(hc:Fv (ev s.t) o.op=some (f,Bx))(h:EA P ops K r (s.step o.dst res none)):EA P ops K (o::r) s:=by
 obtain⟨args,h1,h2⟩:=Xe hc;exact AJE Cs hg h1 h2 hf hb hn h
theorem ja {o:Oper}{r:List Oper}{acc:List Ef}{s:St}{f:FuncId}{Bx:List V}{res:V}{fn:Func}(Cs:AC P f Bx res)(hf:P.funcs[f]?=some fn)(hb:fn.body.isSome=true)(hn:(fn.name == "runtime.NumGoroutine")=false)(hg:gate ops s.t o.guard=some true)(hc:Fv (ev s.t) o.op=some (f,Bx))(h:Hi P ops K r (acc++[⟨res,none,none⟩]) (s.step o.dst res none)):Hi P ops K (o::r) acc s:=by
 obtain⟨args,h1,h2⟩:=Xe hc;exact AIz Cs hg h1 h2 hf hb hn h
end
def Gr {α:Type}(es:Nat):Nat->List α->List (List α)
 | 0,_=>[]
 | n+1,l=>l.take es::Gr es n (l.drop es)
theorem rI {α:Type}{es:Nat} : ∀(n:Nat) (l:List α),(Gr es n l).length=n
 | 0,_=>rfl
 | n+1,l=>by simp[Gr,rI n]
theorem AAJ {α:Type}{es:Nat} : ∀(n:Nat) (l:List α),n*es<=l.length->∀r∈Gr es n l,r.length=es
 | 0,_,_,r,h=>by cases h
 | n+1,l,hl,r,h=>by
   rw[F1]at hl;rcases Cb.1 h with rfl|h
   . rw[FW];omega
   . exact AAJ n _ (by rw[R8];omega) r h
theorem AAH {α:Type}{es:Nat} : ∀(n:Nat) (l:List α),(Gr es n l).flatten=l.take (n*es)
 | 0,l=>by simp[Gr]
 | n+1,l=>by
   simp only[Gr,GS,AAH n];rw[show (n+1)*es=es+n*es by rw[F1];omega,xv]
theorem V8 {α:Type}{es:Nat} : ∀(rows:List (List α)),(∀r∈rows,r.length=es)->Gr es rows.length rows.flatten=rows
 | [],_=>rfl
 | r::rs,h=>by
   have hr:=h r (by simp);simp only[BQ,Gr,GS];rw[Zs hr,xS hr,V8 rs fun r hr=>h r (by simp[hr])]
mutual
def V.AR (k:Nat)(row:List C):V->V
 | .ptr i off=>if i=k then .cp row off else .ptr i off
 | .agg l=>.agg (V.BG k row l)
 | .Bk l=>.Bk (V.BG k row l)
 | .fn f l=>.fn f (V.BG k row l)
 | .any=>.any
 | .c d=>.c d
 | .own i off len es=>if i=k then .c (.sl (Gr es len (row.drop off)))else .own i off len es
 | .cp r off=>.cp r off
 | .full r=>.full r
 | .gr i es r=>.gr i es r
 | .hot i es r=>.hot i es r
 | .hp i n p=>.hp i n p
 | .yl l=>.yl l
 | .mp i=>.mp i
def V.BG (k:Nat)(row:List C):List V->List V
 | []=>[]
 | v::l=>V.AR k row v::V.BG k row l
end
def O.AR (k:Nat)(row:List C):O->O
 | .box ty cs fr=>.box ty (V.BG k row cs) fr
 | .tok ty es cur=>.tok ty es cur
 | .hot ty es cur cs=>.hot ty es cur (V.BG k row cs)
 | .mp R=>.mp R
mutual
theorem CV.AR {x x':Cx}{w:World}{k:Nat}{row:List C}(he:Ext x x' w w)(hk:CR x'.S w row (x.loc k).b 0)(hn:row.length=(x.loc k).n):∀(v:V) (u:Value),CV x w v u->CV x' w (V.AR k row v) u
 | .ptr i off,u,h=>by
   simp only[V.AR];split
   . rename_i e;subst e;simp only[CV]at h ⊢;exact⟨(x.loc i).b,0,by rw[Cu];exact h.2.2,hk⟩
   . exact CV.mono he _ _ h
 | .agg l,u,h=>by simp only[V.AR,CV]at h ⊢;obtain⟨vs,e,h⟩:=h;exact⟨vs,e,AL.AR he hk hn l _ h⟩
 | .Bk l,u,h=>by simp only[V.AR,CV]at h ⊢;obtain⟨vs,e,h⟩:=h;exact⟨vs,e,AL.AR he hk hn l _ h⟩
 | .fn f l,u,h=>by simp only[V.AR,CV]at h ⊢;obtain⟨vs,e,h⟩:=h;exact⟨vs,e,AL.AR he hk hn l _ h⟩
 | .any,u,h=>by simp only[V.AR,CV]
 | .c d,u,h=>by rw[V.AR];exact CV.mono he _ _ h
 | .own i off len es,u,h=>by
   simp only[V.AR];split
   . rename_i e;subst e;simp only[CV,Ap]at h ⊢;obtain⟨_,_,cap,rfl,h1,h2,h3⟩:=h;have hm:len*es<=cap*es:=Tp _ h1;have hl:len*es<=(row.drop off).length:=by rw[R8];omega
     refine⟨_,cap,by rw[rI],by rw[rI];exact h1,h2,fun _=>⟨(x.loc i).b,off,es,rfl,AAJ len _ hl,?_⟩⟩;rw[Df.flat,AAH];have h4:=(CR.append (l:=row.take off) (m:=row.drop off)).1 (by rw[Tm];exact hk);have h5:=h4.2;rw[FW,Nat.min_eq_left (by omega),Cu]at h5;exact((CR.append (l:=(row.drop off).take (len*es)) (m:=(row.drop off).drop (len*es))).1 (by rw[Tm];exact h5)).1
   . exact CV.mono he _ _ h
 | .cp r off,u,h=>by rw[V.AR];exact CV.mono he _ _ h
 | .full r,u,h=>by rw[V.AR];exact CV.mono he _ _ h
 | .gr i es r,u,h=>by rw[V.AR];exact CV.mono he _ _ h
 | .hot i es r,u,h=>by rw[V.AR];exact CV.mono he _ _ h
 | .hp i n p,u,h=>by rw[V.AR];exact CV.mono he _ _ h
 | .yl l,u,h=>by rw[V.AR];exact CV.mono he _ _ h
 | .mp i,u,h=>by rw[V.AR];exact CV.mono he _ _ h
theorem AL.AR {x x':Cx}{w:World}{k:Nat}{row:List C}(he:Ext x x' w w)(hk:CR x'.S w row (x.loc k).b 0)(hn:row.length=(x.loc k).n):∀(l:List V) (us:List Value),AL x w l us->AL x' w (V.BG k row l) us
 | [],us,h=>by simpa only[V.BG,AL]using h
 | v::l,us,h=>by
   simp only[V.BG,AL]at h ⊢;obtain⟨u,ur,e,h1,h2⟩:=h;exact⟨u,ur,e,CV.AR he hk hn v u h1,AL.AR he hk hn l ur h2⟩
end
theorem ABJ (k:Nat)(row:List C):∀l:List V,(V.BG k row l).length=l.length
 | []=>rfl
 | v::l=>by simp only[V.BG,BQ,ABJ k row l]
theorem Le.freeze {m:Mo}{t:List V}{h:List O}(k:Nat){ty:TypeId}{cs:List V}{row:List C}(hk:h[k]?=some (.box ty cs false))(hr:toCs cs=some row):Le m ⟨t,h⟩ ⟨V.BG k row t,(h.set k (.box ty cs true)).map (O.AR k row)⟩:=fun S0 w0 x a w hm hA=>by
 have g:=hA.good;obtain⟨hd,b1,b2,vs,b3,b4,b5⟩:=g.ok k _ hk;have Am:=toCs_ok hr b5;have TF:row.length=(x.loc k).n:=by rw[<-b4,<-Ep,Am.len]
 have ar:Ar x.S (fun b j=>x.S b j\/(b=(x.loc k).b/\j<(x.loc k).n)) w w:=⟨fun _ _ h=>.inl h,fun _ _ _ _ h=>h⟩
 have he:Ext x { x with S:=fun b j=>x.S b j\/(b=(x.loc k).b/\j<(x.loc k).n) } w w:=⟨ar,fun _ h=>h,fun _ _=>Es.refl _⟩
 have BU:CR (fun b j=>x.S b j\/(b=(x.loc k).b/\j<(x.loc k).n)) w row (x.loc k).b 0:=by
  refine CR.QX (Bj.mono ar _ _ Am) (fun j u hu=>?_) (fun j hj=>.inr ⟨rfl,by omega⟩);rw[Cu,cell_of_row w _ j vs ty (0,0) b3];simpa using hu
 have hlt:k<h.length:=(Bv.1 hk).1;have Fs : ∀i o,((h.set k (.box ty cs true)).map (O.AR k row))[i]?=some o->∃o0,h[i]?=some o0/\((i≠k/\o=o0.AR k row)\/(i=k/\o=(O.box ty cs true).AR k row)):=by
  intro i o ho;rw[Co,G6]at ho;obtain⟨o1,h1,rfl⟩:=ho;rw[OH]at h1;by_cases e:k=i
  . subst e;simp only[hlt,if_true]at h1;cases h1;exact⟨_,hk,.inr ⟨rfl,rfl⟩⟩
  . simp only[e,if_false]at h1;exact⟨o1,h1,.inl ⟨fun h=>e h.symm,rfl⟩⟩
 refine⟨{ x with S:=fun b j=>x.S b j\/(b=(x.loc k).b/\j<(x.loc k).n) },⟨fun i o ho=>?_,fun i hi=>?_,fun i i' o o' h1 h2 hne hv hv'=>?_,fun i o j ho hx hs=>?_,fun b j hs=>?_,fun i o ho hv=>?_,fun b j hs=>?_,fun b j hs=>.inl (g.sub b j hs),g.keep,g.ext.trans he⟩,AL.AR he BU TF t _ hA.tm,hA.df⟩
 . obtain⟨o0,h1,h2⟩:=Fs i o ho;obtain⟨h3,h4⟩:=g.ok i o0 h1;refine⟨h3,?_⟩;rcases h2 with ⟨_,rfl⟩|⟨rfl,rfl⟩
   . cases o0 with
     | box Fy cs' fr=>obtain⟨a1,a2,CQ,a3,a4,a5⟩:=h4;exact⟨a1,a2,CQ,a3,a4,AL.AR he BU TF cs' _ a5⟩
     | tok Fy es cur=>exact h4
     | mp R=>exact h4
     | hot Fy es cur cs' =>
       obtain⟨a1,a2,a3,a4,a5,CQ,a6,a7,a8,a9⟩:=h4;exact⟨a1,a2,a3,a4,by rw[ABJ];exact a5,CQ,a6,a7,a8,AL.AR he BU TF cs' _ a9⟩
   . exact⟨b1,b2,vs,b3,b4,AL.AR he BU TF cs _ b5⟩
 . obtain⟨o,ho⟩:=g.dom i hi;have M0:i<h.length:=(Bv.1 ho).1;exact⟨_,BP (by simpa using M0)⟩
 . obtain⟨o0,k1,_⟩:=Fs i o h1;obtain⟨vE,k2,_⟩:=Fs i' o' h2;exact g.inj i i' o0 vE k1 k2 hne hv hv'
 . obtain⟨o0,h1,h2⟩:=Fs i o ho;rcases h2 with ⟨hne,rfl⟩|⟨rfl,rfl⟩
   . have M8:Ex x i o0 j:=by cases o0<;>exact hx
     rcases hs with hs|⟨hb,_⟩
     . exact g.EI i o0 j h1 M8 hs
     . have hv:(x.loc i).void=false:=by
        cases o0 with
        | box Fy cs' fr=>exact(g.ok i _ h1).2.2.1
        | tok Fy es cur=>exact M8.1
        | hot Fy es cur cs'=>exact(g.ok i _ h1).2.2.1
        | mp R=>exact(g.ok i _ h1).2.2.1
       exact g.inj i k o0 _ h1 hk hne hv b2 hb
   . cases hx.1
 . rcases hs with hs|⟨rfl,_⟩
   . exact g.ex b j hs
   . exact(Dy.1 b3).1
 . obtain⟨o0,h1,_⟩:=Fs i o ho;exact g.own i o0 h1 hv
 . rcases hs with hs|⟨rfl,_⟩
   . exact g.new b j hs
   . exact .inr (g.own k _ hk b2)
theorem AW.AR {m:Mo}{P:Program}{c:Code}{K:Exit->St->Prop}{t:List V}{h:List O}(k:Nat){ty:TypeId}{cs:List V}{row:List C}(hk:h[k]?=some (.box ty cs false))(hr:toCs cs=some row){t':List V}{h':List O}(ht:V.BG k row t=t')(hh:(h.set k (.box ty cs true)).map (O.AR k row)=h')(hw:AW m P c K ⟨t',h'⟩):AW m P c K ⟨t,h⟩:=
 AW.le (Le.freeze k hk hr) (by rw[ht,hh];exact hw)
theorem Le.H5 {m:Mo}{t t':List V}{h h':List O}(n:Nat)(hn:m.n0<=n)(hs:A5 t t')(hh:h.take n=h')(hb:V.BT n t'=true)(ho:(h'.all (O.BA n))=true):Le m ⟨t,h⟩ ⟨t',h'⟩:=Le.trans (Le.BV hs) (Le.drop n hn hh hb ho)
def be (K:Exit->St->Prop):Exit->St->Prop
 | .goto _,_=>False
 | e,s=>K e s
section
variable {P:Program} {K:Exit->St->Prop} {s:St} {i:Nat}
theorem Pr (h:K .normal s):be K .normal s:=h
theorem Ps (h:K .ret s):be K .ret s:=h
theorem Pq (h:K (.exit i) s):be K (.exit i) s:=h
theorem AW.scope {n0:Nat}{c:Code}(h:AW ⟨none,n0⟩ P c (be K) s):AW ⟨none,n0⟩ P (.scope c) K s:=fun n S0 w0 x a w hm hA=>wpIn_wide.2 (wp_scope_straight (wp_mono (wpIn_wide.1 (h n S0 w0 x a w hm hA)) fun e a w ⟨x,s,h1,h2⟩=>by
 cases e with
 | goto l=>exact h2.elim
 | _=>exact⟨x,s,h1,h2⟩))
end
section
def Of (ds:List (Option Nat))(t:List V):Option (Nat×Bool)->Option Bool
 | none=>some true
 | some (j,w)=>match ds[j]? with
   | some (some d)=>match t.getD d .any with
     | .c (.bool b)=>some (b==w)
     | .Bk []=>some false
     | _=>none
   | _=>none
theorem ABV (ops:List Oper)(t:List V)(g:Option (Nat×Bool)):Of (ops.map (·.dst)) t g=gate ops t g:=by
 cases g with
 | none=>rfl
 | some p =>
   obtain⟨j,w⟩:=p;simp only[Of,gate,Co];cases h:ops[j]? with
   | none=>rfl
   | some o=>cases h2:o.dst<;>simp only[H8,Option.bind_some,h2]<;>rfl
variable {P:Program} {K:St->Prop} {ops:List Oper}
end
def SW (P:Program)(ops:List Oper)(K:Exit->St->Prop)(l:List Oper)(s:St):Prop:=
 ∀(S0:Ba) (w0:Bs) (x:Cx) (a:Act) (w:World),CT S0 w0 x s a w->wpList P ops.toArray (fun e a w=>∃x s,CT S0 w0 x s a w/\K e s) l a w
section
variable {P:Program} {K:Exit->St->Prop} {ops:List Oper} {s:St}
theorem AW.DM {n0 id:Nat}(h:SW P ops K ops s):AW ⟨none,n0⟩ P (.region id ops.toArray false) K s:=fun n S0 w0 x a w hm hA=>wpIn_wide.2 (wp_region_lit (h S0 w0 x a w hA))
theorem SW.nil (h:K .normal s):SW P ops K [] s:=fun S0 w0 x a w hA=>⟨x,s,hA,h⟩
theorem SW.pre {l':List Oper} : ∀(l:List Oper) (s:St),EA P ops (fun s'=>SW P ops K l' s') l s->SW P ops K (l++l') s
 | [],s,h=>h
 | o::r,s,h=>fun S0 w0 x a w hA=>by
   unfold EA at h;obtain⟨h1,h2⟩:=J2 hA.tm h;rw[Bg];unfold wpList;split
   . rename_i hw;refine .inl (qX hA (h1 hw) fun v t u x' w' hK g he hnc hv=>?_);exact SW.pre r _ hK S0 w0 x' _ w' (CT.put hA.tm (hA.df.mono hnc) he g hv o.dst)
   . rename_i hw;exact SW.pre r _ (h2 hw) S0 w0 x _ w (CT.put (v:=.Bk []) (u:=undef) hA.tm hA.df (Ext.refl x w) hA.good (gJ x w) o.dst)
theorem SW.take (n:Nat){l:List Oper}(h:EA P ops (fun s'=>SW P ops K (l.drop n) s') (l.take n) s):SW P ops K l s:=by
 have:=SW.pre (l.take n) s h;rwa [Tm]at this
theorem SW.op {o:Oper}{r:List Oper}(v:V)(hg:gate ops s.t o.guard=some true)(hc:Jj o.op=false)(hR : ∀(S0:Ba) (w0:Bs) (x:Cx) (a:Act) (w:World),Good S0 w0 x w (fun k=>s.h[k]?)/\AL x w s.t a.tmps.toList->Bm P o a S0 w0 x w (fun k=>s.h[k]?) v none)(h:SW P ops K r (s.step o.dst v none)):SW P ops K (o::r) s:=fun S0 w0 x a w hA=>by
 have hw:DV o (yielded ops.toArray a.tmps)=true:=by
  have:=J2 (o:=o) hA.tm (Hj (ops:=ops) (K1:=True) (K2:=False) hg trivial);exact Kb fun h=>this.2 h
 unfold wpList;rw[if_pos hw];refine .inl ?_;obtain⟨nx,w',x',u,hr,D5,hcv,g',he,_⟩:=hR x.S (w0.re w hA.good.keep.size) x a w ⟨hA.good.VA,hA.tm⟩;obtain⟨g',hnc⟩:=hA.good.Qp he g';unfold EL;rw[hr];rcases D5 with rfl|⟨rfl,rfl⟩
 . exact h S0 w0 x' _ w' (CT.put hA.tm (hA.df.mono hnc) he g' hcv o.dst)
 . exact h S0 w0 x' _ w' (CT.put hA.tm (hA.df.mono hnc) he g' hcv o.dst)
end
section
variable {P:Program} {S0:Ba} {w0:Bs} {x:Cx} {w:World} {H:Heap} {a:Act} {o:Oper}
theorem Good.ALM (g:Good S0 w0 x w H)(k:Nat){Ah:TypeId}{es n:Nat}(hk : ∀o,H k=some o->∃ty es cur,o=.tok ty es cur/\cur<n+1){vs:Array Value}{cap:Nat}(hsz:vs.size=cap*es){l:List C}{row:List V}(hl:Bj x.S w l (vs.toList.take (n*es)))(Fq:l.length=n*es)(hm:n+1<=cap)(Am:row.length=es)(BU:AL x w row ((vs.toList.drop (n*es)).take es)) :
 let x':=x.grow k ⟨w.heap.size,cap*es,true,n+1,false⟩ (n*es)
 Good S0 w0 x' (w.drew.alloc (.cells vs Ah)) (H.set k (.hot Ah es (n+1) row))/\Ext x x' w (w.drew.alloc (.cells vs Ah))/\CR x'.S (w.drew.alloc (.cells vs Ah)) l w.heap.size 0:=by
 intro x';have hkp:AS w (w.drew.alloc (.cells vs Ah)):=(AS.refl w).drew.alloc _;have hblk:(w.drew.alloc (.cells vs Ah)).heap[w.heap.size]?=some (.cells vs Ah (0,0)):=heap_alloc_new w.drew _;have ar:Ar x.S x'.S w (w.drew.alloc (.cells vs Ah)):=⟨fun _ _ h=>.inl h,fun b j v _ hc=>hkp.cell hc⟩
 have he:Ext x x' w (w.drew.alloc (.cells vs Ah)):=by
  refine⟨ar,fun _ h=>.inl h,fun i hi=>?_⟩;by_cases e:i=k
  . subst e;obtain⟨o,ho⟩:=g.dom i hi;obtain⟨ty,es',cur,rfl,hlt⟩:=hk o ho;obtain⟨_,h1,h2,_⟩:=g.ok i _ ho;simp only[x',Cx.grow,if_true];exact⟨h1.symm,.inr ⟨h1,by rw[h2];exact hlt⟩⟩
  . simp only[x',Cx.grow,e,if_false];exact Es.refl _
 have hmul:(n+1)*es<=cap*es:=Tp _ hm;refine⟨g.IN k _ he (.GA hkp) (fun i=>Qv) (fun i hi=>by simp[x',Cx.grow,hi]) (fun _=>.inr (by simp[x',Cx.grow])) ?_ (fun b j h=>?_) (fun j hx hs=>?_),he,?_⟩
 . exact⟨by simp[x',Cx.grow],by simp[x',Cx.grow],by simp[x',Cx.grow],by omega,Am,vs,by simp only[x',Cx.grow,if_true];exact hblk,by simp[x',Cx.grow,hsz],by rw[hsz];exact hmul,AL.mono he _ _ (by simpa using BU)⟩
 . rcases h with h|⟨rfl,h⟩
   . exact .inl h
   . refine .inr ⟨by simp,.inl (BW _),fun _ hx=>?_⟩;have:=hx.1;simp at this;omega
 . simp only[x',Cx.grow,if_true]at hs;have:=g.ex _ _ hs;omega
 . refine CR.QX (Bj.mono ar _ _ hl) (fun j u hu=>?_) (fun j hj=>.inr ⟨rfl,by rw[Fq]at hj;omega⟩);rw[Cu,cell_of_row _ _ j vs Ah (0,0) hblk];rw[Jv]at hu;split at hu
   . simpa using hu
   . cases hu
theorem Good.ASp (g:Good S0 w0 x w H)(k:Nat){Ah:TypeId}{es n:Nat}(hH:H k=some (.tok Ah es n))(hv:(x.loc k).void=false){cur:Array Value}(hb:w.heap[(x.loc k).b]?=some (.cells cur Ah (0,0))){news:List Value}{l:List C}{row:List V}(KE:news.length=es)(hfit:n*es+es<=cur.size)(hl:Bj x.S w l (cur.toList.take (n*es)))(Am:row.length=es)(BU:AL x w row news) :
 let x':=x.grow k ⟨(x.loc k).b,(x.loc k).n,true,n+1,false⟩ (n*es)
 let w':=w.setRow (x.loc k).b (cur.toList.take (n*es)++news++cur.toList.drop (n*es+news.length)).toArray
 Good S0 w0 x' w' (H.set k (.hot Ah es (n+1) row))/\Ext x x' w w'/\CR x'.S w' l (x.loc k).b 0:=by
 intro x' w';obtain⟨hd,h1,h2,h3⟩:=g.ok k _ hH;obtain⟨vs,hb',hn⟩:=h3 hv;rw[hb]at hb';cases hb';have hblk:w'.heap[(x.loc k).b]?=some (.cells (cur.toList.take (n*es)++news++cur.toList.drop (n*es+news.length)).toArray Ah (0,0)):=setRow_heap w _ cur _ Ah (0,0) hb;have hsz:(cur.toList.take (n*es)++news++cur.toList.drop (n*es+news.length)).toArray.size=cur.size:=by
  simp only[List.size_toArray,C3,FW,R8,Ep];omega
 have ar:Ar x.S x'.S w w':=by
  refine⟨fun _ _ h=>.inl h,fun b j v hS hc=>?_⟩;by_cases Il:b=(x.loc k).b
  . subst Il;rw[cell_of_row w _ j cur Ah (0,0) hb]at hc;rw[cell_of_row w' _ j _ Ah (0,0) hblk];have hj:j<cur.size:=(Dy.1 hc).1;have hjn:j<n*es:=by
     rcases Lq j (n*es)with h|h
     . exact h
     . exact absurd hS (g.EI k _ j hH ⟨hv,h,by omega⟩)
    rw[gz,EW,FK (by simp;omega),Jv,if_pos hjn];simpa using hc
  . rw[SR (w:=w) (a:=⟨b,j,none⟩) (setRow_other w _ b _ Il)];exact hc
 have he:Ext x x' w w':=by
  refine⟨ar,fun _ h=>.inl h,fun i hi=>?_⟩;by_cases e:i=k
  . subst e;simp only[x',Cx.grow,if_true];exact⟨h1.symm,.inr ⟨h1,by rw[h2];simp⟩⟩
  . simp only[x',Cx.grow,e,if_false];exact Es.refl _
 refine⟨g.IN k _ he ⟨rfl,rfl,rfl,by simp[w'],fun i _ hn=>setRow_other w _ i _ (fun e=>hn ⟨hd,hv,e.symm⟩)⟩ (fun i=>Qv) (fun i hi=>by simp[x',Cx.grow,hi]) (fun _=>.inl ⟨hd,hv,by simp[x',Cx.grow]⟩) ?_ (fun b j h=>?_) (fun j hx hs=>?_),he,?_⟩
 . refine⟨by simp[x',Cx.grow],by simp[x',Cx.grow],by simp[x',Cx.grow],by omega,Am,_,by simp only[x',Cx.grow,if_true];exact hblk,by simp only[x',Cx.grow,if_true];rw[hsz,hn],by rw[hsz,F1];omega,AL.mono he _ _ ?_⟩;have e1:(cur.toList.take (n*es)).length=n*es:=by simp;omega
   simp only[oU];rw[EW,xS e1,Zs KE];exact BU
 . rcases h with h|⟨rfl,h⟩
   . exact .inl h
   . refine .inr ⟨by simp[w'];exact(Dy.1 hb).1,.inr ⟨hd,hv,rfl⟩,fun _ hx=>?_⟩;have:=hx.1;simp at this;omega
 . simp only[x',Cx.grow,if_true]at hs;refine g.EI k _ j hH ⟨hv,?_,?_⟩ hs
   . have:=hx.1;simpa using this
   . have:=hx.2;simpa [x',Cx.grow]using this
 . have Fq:l.length=n*es:=by
    have:=hl.len;simp only[FW,Ep]at this;omega
   refine CR.QX (Bj.mono ar _ _ hl) (fun j u hu=>?_) (fun j hj=>.inr ⟨rfl,by rw[Fq]at hj;omega⟩);rw[Cu,cell_of_row w' _ j _ Ah (0,0) hblk,gz,EW,FK ((Bv.1 hu).1)];exact hu
theorem AU5 {vs A B:List Value}{n es:Nat}(h:vs.take ((n+1)*es)=A++B)(hA:A.length=n*es)(hle:(n+1)*es<=vs.length):A=vs.take (n*es)/\B=(vs.drop (n*es)).take es:=by
 rw[show (n+1)*es=n*es+es by rw[F1];omega,xv]at h;rw[F1]at hle;have:=List.append_inj h (by rw[hA,FW];omega);exact⟨this.1.symm,this.2.symm⟩
theorem APj (g:Good S0 w0 x w H){t:TypeId}{y z:Operand}(ho:o.op=.call ⟨.builtin .append,#[y,z],#[t,t]⟩){Ah:TypeId}{es Bu:Nat}(hT:Dd P t=some (Ah,es,Bu)){rows:List (List C)}{row:List C}{k:Nat}(hY:CV x w (.gr k es rows) (a.eval y))(hZ:Ap x.S w (.sl [row]) (a.eval z))(hes:0<es)(hy:row.length=es)(h63:rows.length+1<=maxLen)(hb:(rows.length+1)*Bu<=140737488355328)(hH:H k=some (.tok Ah es rows.length)) :
 Bm P o a S0 w0 x w H (.hot k es rows) (some (k,.hot Ah es (rows.length+1) (row.map V.c))):=by
 simp only[CV]at hY;obtain⟨tI,ANp,hd,hr,hle,Ko⟩:=hY;obtain⟨_,_,Dk,hc3⟩:=g.ok k _ hH;have Ko:=Ko Dk.symm;obtain⟨A,c,xs,hu,q1,q2,q3,q4,q5,q6⟩:=Ry hd hr;have hy' : ∀r∈[row],r.length=es:=by simpa using hy
 have fin:(∀A n c,a.eval y=.slice A n c->c<n + [row].length/\(A=none->c=0))->Bm P o a S0 w0 x w H (.hot k es rows) (some (k,.hot Ah es (rows.length+1) (row.map V.c))):=by
  intro hcap;obtain⟨vs,cap,hrun,hsz,h1,h2,hl⟩:=qe (ty:=o.type) hT hd hr hZ hy' (by simp) hcap h63 hb;simp only[BQ,B6,Cu]at hrun h1 hl;rw[Tk]at hl;obtain⟨A1,B1,e1,l1,l2⟩:=Bj.split hl;have hmul:(rows.length+1)*es<=cap*es:=Tp _ h1;have Gv:A1.length=rows.length*es:=by rw[l1.len,J5 hr]
  have ZG:vs.toList.length=cap*es:=by rw[Ep,hsz]
  obtain⟨rfl,rfl⟩:=AU5 e1 Gv (by rw[ZG];exact hmul);simp only[GS,Pc,D8]at l2;obtain⟨g',he,EK⟩:=g.ALM k (Ah:=Ah) (n:=rows.length) (fun ob h=>by rw[hH]at h;cases h;exact⟨_,_,_,rfl,by omega⟩) hsz l1 (J5 hr) h1 (row:=row.map V.c) (by simpa using hy) (AL.N2 l2);refine⟨_,_,_,_,by simp[execOp,ho,resolve,invoke,builtin,hrun];rfl,.inl rfl,?_,g',he,fun k h=>h.elim .inl fun e=>.inr ⟨.hot Ah es (rows.length+1) (row.map V.c),by rw[e]⟩,fun hb=>by rw[ho]at hb;cases hb⟩;simp only[CV];refine⟨.inr rfl,by simp[Cx.grow],hr,by simp[Cx.grow],_,cap,rfl,fun _=>?_⟩;simp only[Cx.grow,if_true];exact⟨trivial,trivial,h1,h2,trivial,EK⟩
 cases hv:(x.loc k).void with
 | true =>
   rw[hv]at Ko;simp only[if_true]at Ko;obtain⟨A',BR⟩:=Ko;refine fin fun A2 n c2 e=>?_
   rw[BR]at e;cases e;refine⟨by simp,fun hn=>?_⟩;by_cases h:rows=[]
   . rw[h];rfl
   . obtain⟨b,off,hb',_⟩:=q6 h;rw[BR]at hu;cases hu;rw[hn]at hb';cases hb'
 | false =>
   rw[hv]at Ko;simp only[Fe,if_false]at Ko;obtain⟨cap,BR,Im⟩:=Ko;by_cases hroom:rows.length+1<=cap
   . obtain⟨Ui,ie,zv,hie,hz,hsz,hby,hzs⟩:=I1 hT;obtain⟨cur,hblk,AMU⟩:=hc3 hv;obtain⟨B,c',zs,TJ,k1,k2,k3,k4,k5,k6⟩:=Ry hZ hy';obtain⟨b,off,rfl,_⟩:=k6 (by simp);simp only[BQ,B6,Cu,aD]at TJ k4;simp only[GS,Pc,D8]at k3;have hmul:(rows.length+1)*es<=cap*es:=Tp _ hroom;rw[F1,aD]at hmul;have hrun:=run_append_room (P:=P) w t o.type Ah ie Ui hie (x.loc k).b rows.length cap cur hblk ⟨b,off,none⟩ 1 c' zs (by rw[k4,hsz];omega) (k5 _ rfl) k3.Rq hroom (by rw[hsz,k4];omega);rw[hsz]at hrun;have htake:cur.toList.take (rows.length*es)=xs:=by
      apply R7;intro j;rw[Jv];rw[BR]at hu;cases hu;split
      . rename_i hj;have dj:j<xs.length:=by omega
        have:=q5 _ rfl j xs[j] (BP dj);rw[I9,Cu,cell_of_row w _ j cur Ah (0,0) hblk]at this;rw[BP dj];simpa using this
      . rw[Ln (by omega)]
     obtain⟨g',he,EK⟩:=g.ASp k hH hv hblk (news:=zs) (l:=rows.flatten) (row:=row.map V.c) k4 (by omega) (by rw[htake];exact q3) (by simpa using hy) (AL.N2 k3);refine⟨_,_,_,_,by simp[execOp,ho,resolve,invoke,builtin,BR,TJ,hrun];rfl,.inl rfl,?_,g',he,fun k h=>h.elim .inl fun e=>.inr ⟨.hot Ah es (rows.length+1) (row.map V.c),by rw[e]⟩,fun hb=>by rw[ho]at hb;cases hb⟩;have hcm:cap<=maxLen:=by rw[BR]at hu;cases hu;exact q2
     simp only[CV];refine⟨.inr rfl,by simp[Cx.grow],hr,by simp[Cx.grow],_,cap,rfl,fun _=>?_⟩;simp only[Cx.grow,if_true];exact⟨trivial,trivial,hroom,hcm,Im,EK⟩
   . refine fin fun A2 n c2 e=>?_
     rw[BR]at e;cases e;exact⟨by simp;omega,fun hn=>by cases hn⟩
theorem APt (g:Good S0 w0 x w H){t:TypeId}{y z:Operand}(ho:o.op=.indexAddr t y z){k es:Nat}{rows:List (List C)}{kd:IntKind}(hy:CV x w (.hot k es rows) (a.eval y))(hz:CV x w (.c (.int kd (rows.length:Int))) (a.eval z)){Ah:TypeId}{Bu:Nat}(hT:Dd P t=some (Ah,es,Bu)){cs:List V}(hH:H k=some (.hot Ah es (rows.length+1) cs)) :
 Bm P o a S0 w0 x w H (.hp k (rows.length+1) (rows.length*es)) none:=by
 obtain⟨_,h1,h2,h3,_⟩:=g.ok k _ hH;simp only[CV,Ap]at hy hz;obtain⟨d1,d2,d3,d4,A,cap,hy,d5⟩:=hy;obtain⟨_,hA,_⟩:=d5 h3.symm;obtain⟨hu,inf,zv,hi,_,hsz,_,_⟩:=I1 hT;refine Bm.pure g (u:=.pointer (some ⟨(x.loc k).b,rows.length*es,none⟩)) ?_ (by simp only[CV];exact⟨d1,d2,by omega,_,rfl,fun _=>rfl⟩);have hlt:(rows.length:Int)<((rows.length+1:Nat):Int):=by omega
 simp[execOp,ho,hy,hz.1,hA,Instr.indexAt,asIntOf,run_underlying hu,sizeOf,typeInfo,hi,hsz,I9,hlt]
theorem AP8 (g:Good S0 w0 x w H){e:Operand->V}{t:TypeId}{y z:Operand}(ho:o.op=.store t y z){q:Bool×Nat}(hq:Ct P t=some q){k n pos es:Nat}(hy:CV x w (.hp k n pos) (a.eval y))(hz:CV x w (e z) (a.eval z)){ty:TypeId}{cs:List V}(hH:H k=some (.hot ty es n cs))(h1:(e z).flat=true)(h2:(e z).cells.length=es)(h3:q.2=es)(h4:pos=(n - 1)*es):Bm P o a S0 w0 x w H .any (some (k,.hot ty es n (e z).cells)):=by
 obtain⟨hd,Au⟩:=g.ok k _ hH;obtain⟨k1,k2,k3,k4,k5,vs,hb,hn,hcap,hcs⟩:=Au;simp only[CV]at hy;obtain⟨_,_,_,A,hy,hA⟩:=hy;have hA:=hA k3.symm;subst hA;obtain⟨c1,c2⟩:=hz.cells h1;obtain⟨_,hs,_⟩:=VT (w:=w) (P:=P) (ag:=q.1) (n:=q.2) hq;have TG:(a.eval z).cells.size=es:=by have:=c1.len;simp only[Ep]at this;omega
 have hmul:n*es=(n - 1)*es+es:=by
  obtain⟨m,rfl⟩:∃m,n=m+1:=⟨n - 1,by omega⟩
  rw[F1,oU];omega
 have hfit:pos+es<=vs.size:=by omega
 have hr:=run_storeCells_at (P:=P) (t:=ty) (off:=pos) (a.eval z).cells.toList 0 w vs hb (by simp;omega) c2;have Eu:=kc (a.eval z).cells.toList 0 pos vs (by simp;omega);generalize eS:((a.eval z).cells.toList.zipIdx 0).foldl (fun (c:Array Value) (p:Value×Nat)=>c.setIfInBounds (pos+p.2) p.1) vs=CQ at hr Eu;simp only[Nat.add_zero,Ep,TG]at Eu;have hsz':CQ.size=vs.size:=by
  have:=congrArg List.length Eu;simp only[Ep,C3,FW,R8,TG]at this;omega
 have hblk:(w.setRow (x.loc k).b CQ).heap[(x.loc k).b]?=some (.cells CQ ty (0,0)):=setRow_heap w _ vs CQ ty (0,0) hb;have ar:Ar x.S x.S w (w.setRow (x.loc k).b CQ):=by
  refine⟨fun _ _ h=>h,fun b j v hS hc=>?_⟩;by_cases Il:b=(x.loc k).b
  . subst Il;rw[cell_of_row w _ j vs ty (0,0) hb]at hc;rw[cell_of_row _ _ j _ ty (0,0) hblk];have hj:j<vs.size:=(Dy.1 hc).1;have hjn:j<(n - 1)*es:=by
     rcases Lq j ((n - 1)*es)with h|h
     . exact h
     . exact absurd hS (g.EI k _ j hH ⟨h,by omega⟩)
    have:CQ.toList[j]?=vs.toList[j]?:=by
     rw[Eu,EW,FK (by simp;omega),Jv,if_pos (by omega)]
    have h2:CQ[j]?=vs[j]?:=by simpa using this
    rw[h2];exact hc
  . rw[SR (w:=w) (a:=⟨b,j,none⟩) (setRow_other w _ b _ Il)];exact hc
 have he:Ext x x w (w.setRow (x.loc k).b CQ):=⟨ar,fun _ h=>h,fun _ _=>Es.refl _⟩
 have g':=g.IN k (.hot ty es n (e z).cells) he ⟨rfl,rfl,rfl,by simp,fun i _ hn=>setRow_other w _ i _ (fun e=>hn ⟨hd,k2,e.symm⟩)⟩ (fun i=>⟨.inl,fun h=>h.elim id (fun e=>e ▸ hd)⟩) (fun _ _=>rfl) (fun _=>.inl ⟨hd,k2,rfl⟩)
  ⟨k1,k2,k3,k4,h2,CQ,hblk,by rw[hsz',hn],by rw[hsz'];exact hcap,by
    have e1:(vs.toList.take pos).length=(n - 1)*es:=by simp;omega
    rw[Eu,EW,xS e1,Zs (by simpa using TG)];exact AL.mono he _ _ c1⟩ (fun b j h=>.inl h) (fun j hx=>g.EI k _ j hH hx)
 refine⟨.skip,_,x,undef,?_,.inr ⟨rfl,rfl⟩,by simp only[CV],g',he,fun _ h=>.inl h,fun _=>rfl⟩;simp[execOp,ho,Instr.storeAt,hy,Instr.sureAddr,storeVar,hs,h3,TG,hr]
end
def V.Gs (k es n:Nat)(row:List C):V->V
 | .hot i es' rows=>if i=k/\es'=es/\rows.length=n then .gr k es (rows++[row])else .any
 | .hp _ _ _=>.any
 | v=>v
def O.Gs (k es n:Nat)(row:List C):O->O
 | .box ty cs fr=>.box ty (cs.map (V.Gs k es n row)) fr
 | .tok ty es cur=>.tok ty es cur
 | .hot ty es cur cs=>.tok ty es cur
 | .mp R=>.mp R
theorem CV.Gs {x x':Cx}{w:World}{k es n:Nat}{row:List C}(he:Ext x x' w w)(hl:x'.loc=x.loc)(hc:(x.loc k).cur=n+1)(Am:row.length=es)(hk:CR x'.S w row (x.loc k).b (n*es))(v:V)(u:Value)(h:CV x w v u):CV x' w (v.Gs k es n row) u:=by
 cases v with
 | hot i es' rows =>
   simp only[V.Gs];split
   . rename_i e;obtain⟨rfl,rfl,rfl⟩:=e;simp only[CV]at h ⊢;obtain⟨d1,d2,d3,d4,A,cap,rfl,d5⟩:=h;obtain⟨e1,rfl,e3,e4,e5,e6⟩:=d5 hc.symm;refine⟨he.dom i d1,by rw[hl,d2],?_,Ru d3 (by simpa using Am),by rw[hl,hc];simp,fun _=>?_⟩
     . have:=Ap.of_flat (S:=x'.S) (W:=w) (rows:=rows++[row]) (es:=es') (b:=(x.loc i).b) (cap:=cap) (Ru d3 (by simpa using Am)) (by simpa using e3) e4 (by
        rw[Tk,CR.append,J5 d3];refine⟨CR.mono he.ar _ _ _ e6,?_⟩;simpa using hk)
       simpa using this
     . rw[hl,e1];simp only[Fe,if_false];exact⟨cap,by simp,e5⟩
   . simp only[CV]
 | hp i m pos=>simp only[V.Gs,CV]
 | _=>exact CV.mono he _ _ h
theorem AL.Gs {x x':Cx}{w:World}{k es n:Nat}{row:List C}(he:Ext x x' w w)(hl:x'.loc=x.loc)(hc:(x.loc k).cur=n+1)(Am:row.length=es)(hk:CR x'.S w row (x.loc k).b (n*es)):∀(l:List V) (us:List Value),AL x w l us->AL x' w (l.map (V.Gs k es n row)) us
 | [],us,h=>by simpa only[List.map_nil,AL]using h
 | v::l,us,h=>by
   simp only[List.map_cons,AL]at h ⊢;obtain⟨u,ur,e,h1,h2⟩:=h;exact⟨u,ur,e,CV.Gs he hl hc Am hk v u h1,AL.Gs he hl hc Am hk l ur h2⟩
def AQD (k:Nat)(h:List O):Prop:=∀(i:Nat) (ty:TypeId) (es cur:Nat) (cs:List V),h[i]?=some (O.hot ty es cur cs)->i=k
theorem Le.Gs {m:Mo}{t:List V}{h:List O}(k:Nat){ty:TypeId}{es n:Nat}{cs:List V}{row:List C}(hk:h[k]?=some (.hot ty es (n+1) cs))(hr:toCs cs=some row)(hoh:AQD k h):Le m ⟨t,h⟩ ⟨t.map (V.Gs k es n row),h.map (O.Gs k es n row)⟩:=fun S0 w0 x a w hm hA=>by
 have g:=hA.good;obtain⟨hd,b1,b2,b3,b4,b5,vs,b6,b7,b8,b9⟩:=g.ok k _ hk;have Am:=toCs_ok hr b9;have TF:row.length=es:=by rw[toCs_len hr,b5]
 have hmul:(n+1)*es=n*es+es:=by rw[F1];omega
 let S':Ba:=fun b j=>x.S b j\/(b=(x.loc k).b/\n*es<=j/\j<(n+1)*es)
 have ar:Ar x.S S' w w:=⟨fun _ _ h=>.inl h,fun _ _ _ _ h=>h⟩
 have he:Ext x { x with S:=S' } w w:=⟨ar,fun _ h=>h,fun _ _=>Es.refl _⟩
 have BU:CR S' w row (x.loc k).b (n*es):=by
  refine CR.QX (Bj.mono ar _ _ Am) (fun j u hu=>?_) (fun j hj=>.inr ⟨rfl,by omega,by omega⟩);rw[cell_of_row w _ _ vs ty (0,0) b6];simp only[oU]at hu;rw[Jv]at hu;split at hu
  . rw[List.getElem?_drop]at hu;simpa using hu
  . cases hu
 have Fs : ∀(i:Nat) (o:O),(h.map (O.Gs k es n row))[i]?=some o->∃o0:O,h[i]?=some o0/\o=o0.Gs k es n row:=by
  intro i o ho;rw[Co,G6]at ho;obtain⟨o1,h1,rfl⟩:=ho;exact⟨o1,h1,rfl⟩
 have AMg : ∀(i:Nat) (o0:O) (j:Nat),h[i]?=some o0->Ex { x with S:=S' } i (o0.Gs k es n row) j->Ex x i o0 j/\(i=k->(n+1)*es<=j):=by
  intro i o0 j hi hx;cases o0 with
  | box Fy cs' fr=>exact⟨hx,fun e=>by subst e;rw[hk]at hi;cases hi⟩
  | tok Fy es' WA=>exact⟨hx,fun e=>by subst e;rw[hk]at hi;cases hi⟩
  | mp R=>exact⟨hx,fun e=>by subst e;rw[hk]at hi;cases hi⟩
  | hot Fy es' WA cs' =>
    have e:=hoh i _ _ _ _ hi;subst e;rw[hk]at hi;cases hi;obtain⟨h1,h2,h3⟩:=hx;exact⟨⟨by simp;omega,h3⟩,fun _=>h2⟩
 refine⟨{ x with S:=S' },⟨fun i o ho=>?_,fun i hi=>?_,fun i i' o o' h1 h2 hne hv hv'=>?_,fun i o j ho hx hs=>?_,fun b j hs=>?_,fun i o ho hv=>?_,fun b j hs=>?_,fun b j hs=>.inl (g.sub b j hs),g.keep,g.ext.trans he⟩,AL.Gs he rfl b3 TF BU t _ hA.tm,hA.df⟩
 . obtain⟨o0,h1,rfl⟩:=Fs i o ho;obtain⟨h3,h4⟩:=g.ok i o0 h1;refine⟨h3,?_⟩;cases o0 with
   | box Fy cs' fr=>obtain⟨a1,a2,CQ,a3,a4,a5⟩:=h4;exact⟨a1,a2,CQ,a3,a4,AL.Gs he rfl b3 TF BU cs' _ a5⟩
   | tok Fy es' WA=>exact h4
   | mp R=>exact h4
   | hot Fy es' WA cs'=>obtain⟨a1,a2,a3,a4,a5,CQ,a6,a7,_⟩:=h4;exact⟨a1,a3,fun _=>⟨CQ,a6,a7⟩⟩
 . obtain⟨o,ho⟩:=g.dom i hi;have M0:i<h.length:=(Bv.1 ho).1;exact⟨_,BP (by simpa using M0)⟩
 . obtain⟨o0,k1,_⟩:=Fs i o h1;obtain⟨vE,k2,_⟩:=Fs i' o' h2;exact g.inj i i' o0 vE k1 k2 hne hv hv'
 . obtain⟨o0,h1,rfl⟩:=Fs i o ho;obtain⟨M8,hlt⟩:=AMg i o0 j h1 hx;rcases hs with hs|⟨hb,_,hj⟩
   . exact g.EI i o0 j h1 M8 hs
   . by_cases e:i=k
     . have:=hlt e;omega
     . have hv:(x.loc i).void=false:=by
        cases o0 with
        | box Fy cs' fr=>exact(g.ok i _ h1).2.2.1
        | tok Fy es cur=>exact M8.1
        | hot Fy es cur cs'=>exact(g.ok i _ h1).2.2.1
        | mp R=>exact(g.ok i _ h1).2.2.1
       exact g.inj i k o0 _ h1 hk e hv b2 hb
 . rcases hs with hs|⟨rfl,_⟩
   . exact g.ex b j hs
   . exact(Dy.1 b6).1
 . obtain⟨o0,h1,_⟩:=Fs i o ho;exact g.own i o0 h1 hv
 . rcases hs with hs|⟨rfl,_⟩
   . exact g.new b j hs
   . exact .inr (g.own k _ hk b2)
section
variable {P:Program} {ops:List Oper} {K:List Ef->St->Prop}
def TW (P:Program)(ops:List Oper)(K:List Ef->St->Prop)(l:List Oper)(acc:List Ef)(s:St):Prop:=∃es s',NY P ops l s es s'/\K (acc++es) s'
theorem NY.append : ∀ {l l':List Oper} {s s1 s2:St} {es es':List Ef},NY P ops l s es s1->NY P ops l' s1 es' s2->NY P ops (l++l') s (es++es') s2
 | [],l',s,s1,s2,es,es',h,h'=>by obtain⟨rfl,rfl⟩:=h;exact h'
 | o::r,l',s,s1,s2,es,es',h,h'=>by
   obtain⟨e,er,rfl,h1,h2,h3⟩:=h;exact⟨e,er++es',rfl,h1,h2,NY.append h3 h'⟩
theorem TW.nil {acc:List Ef}{s:St}(h:K acc s):TW P ops K [] acc s:=⟨[],s,⟨rfl,rfl⟩,by simpa using h⟩
theorem TW.take (n:Nat){l:List Oper}{acc:List Ef}{s:St}(h:Hi P ops (fun YY s'=>TW P ops K (l.drop n) YY s') (l.take n) acc s):TW P ops K l acc s:=by
 obtain⟨es,s1,h1,es',s2,h2,h3⟩:=bg _ _ _ h;refine⟨es++es',s2,?_,by simpa using h3⟩;have:=NY.append h1 h2;rwa [Tm]at this
theorem TW.op {o:Oper}{r:List Oper}{acc:List Ef}{s:St}(e:Ef)(hg:gate ops s.t o.guard=some true)(hk : ∀k ob,e.t=some (k,ob)->k<=s.h.length)(hR : ∀(S0:Ba) (w0:Bs) (x:Cx) (a:Act) (w:World) (H:Heap),Good S0 w0 x w H->(∀y∈o.op.operands.toList,CV x w (ev s.t y) (a.eval y))->(∀k,e.rk=some k->H k=s.h[k]?)->Bm P o a S0 w0 x w H e.v e.t)(h:TW P ops K r (acc++[e]) (s.step o.dst e.v e.t)):TW P ops K (o::r) acc s:=by
 obtain⟨es,s2,h2,h3⟩:=h;refine⟨e::es,s2,⟨e,es,rfl,?_,hk,h2⟩,by simpa using h3⟩;intro S0 w0 x w a H g hl hr _ Q next hn;rw[Og hl hg];obtain⟨nx,w',x',u,hrun,D5,hcv,g',he,_⟩:=hR S0 w0 x a w H g (Ow hl) fun k hk=>hr k (.inl hk)
 show o.wp P a w next Q;unfold EL;rw[hrun];rcases D5 with rfl|⟨rfl,rfl⟩
 . exact hn u x' w' g' he hcv
 . exact hn undef x' w' g' he hcv
theorem AW.Py {m:Mo}{id:Nat}{K:Exit->St->Prop}{s:St}(hm:P.follows .mixedOrders=true)(hd:m.rd=none\/TV ops=true)(h:TW P ops (fun es s'=>LP ops (es.map Ef.ks)=true/\K .normal s') ops [] s):AW m P (.region id ops.toArray true) K s:=by
 obtain⟨es,s',ht,hc,hK⟩:=h;exact AW.AAi hm hd ht (by simpa using hc) hK
end
def JX (S:Ba)(W W':World):Prop:=W.heap.size<=W'.heap.size/\Ar S S W W'
theorem JX.refl (S:Ba)(W:World):JX S W W:=⟨BW _,Ar.refl _ _⟩
theorem JX.trans {S:Ba}{A B C:World}(h:JX S A B)(k:JX S B C):JX S A C:=⟨Tn h.1 k.1,h.2.trans k.2⟩
theorem AAB {w:World}{b j:Nat}{v:Value}(hc:w.cell? ⟨b,j,none⟩=some v):∃vs ty fl,w.heap[b]?=some (.cells vs ty fl):=by
 unfold World.cell? at hc;cases hx:w.heap[b]? with
 | none=>simp[hx]at hc
 | some o=>cases o<;>first|exact⟨_,_,_,rfl⟩|simp[hx]at hc
theorem JX.put {S:Ba}(W:World)(l:Nat)(o o':Obj)(h:W.heap[l]?=some o)(hc:o.isCells=false):JX S W (W.putObj l o'):=by
 refine⟨by simp[World.putObj],fun _ _ h=>h,fun b j v _ hv=>?_⟩;obtain⟨vs,ty,fl,hb⟩:=AAB hv;have hne:b≠l:=fun e=>by subst e;rw[h]at hb;cases hb;cases hc
 exact(SR (w:=W) (a:=⟨b,j,none⟩) (World.putObj_heap_other hne)).trans hv
def SS {α:Type}(P:Program)(gf:FuncId)(caps:List V)(encs:α->Array Value)(Sx:List α->Prop)(N:Nat):Prop:=
 ∀(n:Nat) (S:Ba) (w:World) (lb:Array Value),(∀b j,S b j->b<w.heap.size)->AL (Cx.bare S) w caps lb.toList->SeqStopsK EF n P gf lb encs (JX S) Sx (fun _=>True) N w
section
variable {P:Program} {S0:Ba} {w0:Bs} {x x':Cx} {w w':World} {H:Heap}
def O.mM:O->Bool
 | .mp _=>false
 | _=>true
def qN (H:Heap):Prop:=∀k R,H k≠some (.mp R)
theorem ZS {h:List O}(hm:(h.all O.mM)=true):qN (fun k=>h[k]?):=fun k R e=>by
 have:=Ee.1 hm _ (C6 e);cases this
structure qM (w w':World):Prop where
 size:w.heap.size<=w'.heap.size
 same : ∀(b:Nat) (o:Obj),w.heap[b]?=some o->o.isCells=false->w'.heap[b]?=some o
theorem AUr {o:Obj}(h:still o=true):o.isCells=false:=by cases o<;>first|rfl|cases h
theorem qM.nc {w w':World}(h:qM w w'):NC w w':=⟨h.size,fun b o h1 h2=>h.same b o h1 (AUr h2)⟩
theorem NX.AAC {k:Nat}{o:O}(h:NX x w k o)(hm : ∀R,o≠.mp R)(hv:(x.loc k).void=false):∃vs ty,w.heap[(x.loc k).b]?=some (.cells vs ty (0,0)):=by
 cases o with
 | box ty cells fr=>obtain⟨_,_,vs,h,_⟩:=h;exact⟨vs,ty,h⟩
 | tok ty es cur=>obtain⟨_,_,h⟩:=h;obtain⟨vs,h,_⟩:=h hv;exact⟨vs,ty,h⟩
 | hot ty es cur cells=>obtain⟨_,_,_,_,_,vs,h,_⟩:=h;exact⟨vs,ty,h⟩
 | mp R=>exact absurd rfl (hm R)
def Bs.fa (w0:Bs)(w:World)(h:w0.w.heap.size<=w.heap.size)(x:Cx)(n0:Nat)(hd : ∀k,x.dom k->k<n0):Bs:=
 ⟨w,fun b=>w0.F b\/∃o:Obj,w.heap[b]?=some o/\o.isCells=false,fun b hb=>by
   rcases hb with hb|⟨o,hb,_⟩
   . exact H6 (w0.lt b hb) h
   . exact(Dy.1 hb).1,x,n0,hd⟩
theorem Good.vv (g:Good S0 w0 x w H)(Ou:qN H)(n0:Nat)(hd : ∀k,x.dom k->k<n0):Good x.S (w0.fa w g.keep.size x n0 hd) x w H:=by
 refine⟨g.ok,g.dom,g.inj,g.EI,g.ex,fun k o h hv hF=>?_,fun b j h=>.inl h,fun _ _ h=>h,.GA (AS.refl w),Ext.refl x w⟩;rcases hF with hF|⟨ob,h1,h2⟩
 . exact g.own k o h hv hF
 . obtain⟨vs,ty,h3⟩:=(g.ok k o h).2.AAC (fun R e=>Ou k R (by rw[h,e])) hv;rw[h3]at h1;cases h1;cases h2
theorem Good.wx {H':Heap}{n0:Nat}{hd : ∀k,x.dom k->k<n0}(g:Good S0 w0 x w H)(g':Good x.S (w0.fa w g.keep.size x n0 hd) x' w' H'):Good S0 w0 x' w' H'/\qM w w':=by
 refine⟨⟨g'.ok,g'.dom,g'.inj,g'.EI,g'.ex,fun k o h hv hF=>g'.own k o h hv (.inl hF),fun b j h=>?_,fun b j h=>g'.sub b j (g.sub b j h),g.keep.trans (g'.keep.wide fun b hb hF=>hb (.inl hF)),g.ext.trans g'.ext⟩,g'.keep.size,fun b o hb ho=>?_⟩
 . rcases g'.new b j h with h|h
   . exact g.new b j h
   . exact .inr fun hF=>h (.inl hF)
 . exact(g'.keep.block b (Dy.1 hb).1 fun hn=>hn (.inr ⟨o,hb,ho⟩)).trans hb
theorem Good.sK {row:Option Nat}(g:Good S0 w0 x w H)(Ou:qN H)(hg:w.grownBy w' row)(hr : ∀r,row=some r->¬w0.F r/\∃o:Obj,w.heap[r]?=some o/\o.isCells=false):Good S0 w0 x w' H/\Ext x x w w':=by
 have hb : ∀(b:Nat) (vs:Array Value) (ty:TypeId) (fl:Nat×Nat),w.heap[b]?=some (Obj.cells vs ty fl)->w'.heap[b]?=w.heap[b]?:=fun b vs ty fl h=>hg.block b (Dy.1 h).1 fun e=>by
  obtain⟨_,o,h1,h2⟩:=hr b e.symm;rw[h]at h1;cases h1;cases h2
 have he:Ext x x w w':=⟨⟨fun _ _ h=>h,fun b j v _ hc=>by
  obtain⟨vs,ty,fl,hh⟩:=AAB hc;exact(SR (hb b vs ty fl hh)).trans hc⟩,fun _ h=>h,fun _ _=>Es.refl _⟩
 refine⟨⟨fun k o h=>?_,g.dom,g.inj,g.EI,fun b j h=>H6 (g.ex b j h) hg.size,g.own,g.new,g.sub,g.keep.trans ⟨hg.os,hg.tape,hg.output,hg.size,fun k hk hn=>hg.block k hk fun e=>hn (hr k e.symm).1⟩,g.ext.trans he⟩,he⟩;obtain⟨h1,h2⟩:=g.ok k o h;exact⟨h1,h2.mono he rfl fun hv=>by obtain⟨vs,ty,h3⟩:=h2.AAC (fun R e=>Ou k R (by rw[h,e])) hv;exact hb _ _ _ _ h3⟩
theorem ql {lp n:Nat}{o:Oper}{p d:Tmp}(ho:o.op=.assign (.tmp p))(hd:o.dst=some d)(hg:o.guard=none){id:Nat}{t:Array Value}{W:World}{K:Act->World->Prop}(h:K { tmps:=t.setIfInBounds d (t.getD p undef),defers:=[] } W) :
 (Code.region id #[o] false).wpIn (EF.inRound lp) n P (Exit.then K (fun _ _ _=>False)) { tmps:=t,defers:=[] } W:=by
 refine wpIn_region_lit (l:=[o]) ?_;unfold wpListIn;rw[if_pos (by simp[DV,hg])];refine vL (fun c e=>by rw[ho]at e;cases e) ?_;unfold EL;simp only[execOp,ho,Sem.run_pure,hd,Act.put,Act.eval,iG,wpListIn,Exit.then];exact h
theorem AW.range {α:Type}{n1:Nat}{K:Exit->St->Prop}{s:St}{g:Operand}{p d:Tmp}{id:Nat}{o:Oper}{body:Code}{gf:FuncId}{caps UD:List V}{fn:Func}(ho:o.op=.assign (.tmp p))(TC:o.dst=some d)(hgd:o.guard=none)(hg:ev s.t g=.fn gf caps)(hp:V.AO caps=some UD)(EP:P.funcs[gf]?=some fn)(MC:fn.body.isSome=true)(Ht:(fn.name == "runtime.NumGoroutine")=false)(enc:α->Value)(Hm:α->V)(UZ : ∀x' W y,CV x' W (Hm y) (enc y))(Sx:List α->Prop)(N:Nat)(eN:SS P gf UD (fun y=>#[enc y]) Sx N)(hf:List α->List O)(h0:s.h=hf [])(n0:Nat)(hlen : ∀pre,(hf pre).length=n0)(hpl:p<s.t.length)(ME : ∀(lp:Nat) (pre:List α) (y:α),pre.length<N->AW ⟨some lp,n0⟩ P body (fun e s'=>e=.normal/\∃t',Le ⟨some lp,n0⟩ s' ⟨t',hf (pre++[y])⟩) ⟨(s.t.set p (Hm y)).set d (Hm y),hf pre⟩)(hdone : ∀xs,Sx xs->K .normal ⟨s.t,hf xs⟩)(Ou : ∀pre,((hf pre).all O.mM)=true:=by intro _;rfl):AW ⟨none,n1⟩ P (.rangeFunc g #[p] (.region id #[o] false) body) K s:=fun n S0 w0 x a w hm hA=>by
 have F7:=EH hA.tm g;rw[hg]at F7;simp only[CV]at F7;obtain⟨lb,F7,EZ⟩:=F7;have hc':=PJ _ _ _ hp EZ;have hb:fn.body≠none:=by intro e;rw[e]at MC;cases MC
 have hn:fn.name≠ "runtime.NumGoroutine":=by simpa using Ht
 have eg : ∀args w,(callFunc gf args).run P w=.ok (.enter gf args) w:=fun args w=>by simp[callFunc,program,Sem.run,EP,hn,hb]
 have hsize : ∀ {D:Nat},w.heap.size<=D->¬w0.F D:=fun h=>hA.good.fresh h
 have WM : ∀Ds:List Nat,a.defers=Ds.map (fun D=>{ target:=.collected D,args:=#[] })->∀D∈Ds,D<w.heap.size:=by
  intro Ds e D hD;obtain⟨yh,f1,f2,f3⟩:=hA.df;have hm:({ target:=.collected D,args:=#[] }:Deferred)∈a.defers:=by rw[e];exact List.mem_map.2 ⟨D,hD,rfl⟩
  rw[f1]at hm;obtain⟨D',J9,e'⟩:=List.mem_map.1 hm;have:D'=D:=by injection e' with e1 e2;injection e1
  subst this;exact(Array.getElem?_eq_some_iff.1 (f3 D' J9).2).1
 have hs:s=⟨s.t,hf []⟩:=by rw[<-h0]
 refine wpIn_wide.2 ((wpIn_wide (n:=2)).1 (wpIn_rangeFunc_ownH (F:=Fence.wide) (n:=2) (α:=α) (ps:=#[p]) (encs:=fun y=>#[enc y]) (Kp:=JX x.S) (S:=Sx) (Sp:=fun _=>True) (N:=N) (w0:=w) rfl (by omega) F7 trivial eg (eN _ x.S w lb hA.good.ex hc') (fun h k=>h.trans k) (fun W l o o' _ h hc _=>JX.put W l o o' h hc) (Below.refl _ _) (fun _=>rfl)
  (fun pre W=>∃x',CT S0 w0 x' ⟨s.t,hf pre⟩ a W/\Ar x.S x'.S w W) (fun _ _ _=>False) ?_ (fun _ _ _ _ _ h=>h.elim) ⟨x,by rw[<-hs];exact hA,Ar.refl _ _⟩
  (fun y a' _=>a'={ tmps:=((#[p].zip #[enc y]).foldl (fun t (p,v)=>t.setIfInBounds p v) a.tmps).setIfInBounds d (((#[p].zip #[enc y]).foldl (fun t (p,v)=>t.setIfInBounds p v) a.tmps).getD p undef),defers:=[] }) (fun _ _ _ _ _ _ h _ _=>h) ?_ ?_ ?_ (fun _ _ _ _ _ _ h _=>h.elim)))
 . rintro pre W W' row ⟨x',BR,DF⟩ hgr hr;obtain⟨g',he⟩:=BR.good.sK (ZS (Ou pre)) hgr fun r e=>⟨hsize (hr r e).1,(hr r e).2⟩
   refine⟨x',⟨g',AL.mono he _ _ BR.tm,?_⟩,DF.trans he.ar⟩;obtain⟨Ds,e1,e2,e3⟩:=BR.df;refine⟨Ds,e1,e2,fun D hD=>⟨(e3 D hD).1,?_⟩⟩;have h2:=(e3 D hD).2;rw[hgr.block D (Array.getElem?_eq_some_iff.1 h2).1 (fun e=>by have:=(hr D e.symm).1;have:=WM Ds e1 D hD;omega)];exact h2
 . intro l pre y W K hI hK;exact ql ho TC hgd (hK _ W (KeepsFrom.refl _ _) (JX.refl _ _) hI rfl)
 . rintro l pre y a' W hl lX ⟨x',BR,DF⟩ rfl hN;have hdl : ∀k,x'.dom k->k<n0:=fun k hk=>by
    obtain⟨o,ho⟩:=BR.good.dom k hk;have:=(List.getElem?_eq_some_iff.1 ho).1;rw[<-hlen pre];exact this
   have DG:AL x' W ((s.t.set p (Hm y)).set d (Hm y)) (((#[p].zip #[enc y]).foldl (fun t (p,v)=>t.setIfInBounds p v) a.tmps).setIfInBounds d (((#[p].zip #[enc y]).foldl (fun t (p,v)=>t.setIfInBounds p v) a.tmps).getD p undef)).toList:=by
    have e1:((#[p].zip #[enc y]).foldl (fun (t:Array Value) (q:Tmp×Value)=>t.setIfInBounds q.1 q.2) a.tmps)=a.tmps.setIfInBounds p (enc y):=by simp
    have hl:a.tmps.size=s.t.length:=by have:=BR.tm.len;simpa using this
    have e2:(a.tmps.setIfInBounds p (enc y)).getD p undef=enc y:=by
     rw[Array.getD_eq_getD_getElem?,Array.getElem?_setIfInBounds_self_of_lt (by rw[hl];exact hpl)];rfl
    rw[e1,e2];simp only[Array.toList_setIfInBounds];exact(BR.tm.set p (UZ _ _ _)).set d (UZ _ _ _)
   have Gv:CT x'.S (w0.fa W BR.good.keep.size x' n0 hdl) x' ⟨(s.t.set p (Hm y)).set d (Hm y),hf pre⟩ { tmps:=((#[p].zip #[enc y]).foldl (fun t (p,v)=>t.setIfInBounds p v) a.tmps).setIfInBounds d (((#[p].zip #[enc y]).foldl (fun t (p,v)=>t.setIfInBounds p v) a.tmps).getD p undef),defers:=[] } W:=⟨BR.good.vv (ZS (Ou pre)) n0 hdl,DG,Marks.nil _ _⟩
   refine wpIn_mono (ME l pre y hN _ _ _ _ _ _ (Nat.le_refl _) Gv) fun e y8 ba eC=>?_
   obtain⟨x2,s2,Hp,rfl,t',hle⟩:=eC;obtain⟨x3,Kl⟩:=hle _ _ _ _ _ (Nat.le_refl _) Hp;obtain⟨g3,hnc⟩:=BR.good.wx Kl.good;have IH:Ext x' x3 W ba:=Kl.good.ext;exact⟨⟨hnc.size,fun k o _ hk ho=>hnc.same k o hk ho⟩,⟨hnc.size,fun _ _ h=>h,fun b j v h hc=>IH.ar.cell b j v (DF.sub b j h) hc⟩,x3,⟨g3,AL.mono IH _ _ BR.tm,BR.df.mono hnc.nc⟩,DF.trans IH.ar⟩
 . rintro D xs W hD hS ⟨x',BR,DF⟩ tG;obtain⟨Ds,e1,e2,e3⟩:=BR.df;refine⟨x',⟨s.t,hf xs⟩,⟨BR.good,BR.tm,D::Ds,by simp[e1],List.nodup_cons.2 ⟨fun h=>by have:=WM Ds e1 D h;omega,e2⟩,fun D' J9=>?_⟩,hdone xs hS⟩;rcases List.mem_cons.1 J9 with rfl|h
   . exact⟨hsize hD,tG⟩
   . exact e3 D' h
end
section
def SeqG {α:Type}(n:Nat)(P:Program)(g:Nat)(lb:Array Value)(encs:List α->α->Array Value)(Kp:World->World->Prop)(Sx:List α->Prop)(N:Nat)(w:World):Prop:=
 ∀(l:Nat) (J Jx:List α->World->Prop) (W:World),Below w.heap.size w W->AbidesFrom W.heap.size J->AbidesFrom W.heap.size Jx->
  (∀pre x W1,J pre W1->pre.length<N->YieldAt EF (n - 1) P l (encs pre x) W1 fun e W'=>(e=.returned (.bool true)/\J (pre++[x]) W'/\Kp W1 W')\/(e=.returned (.bool false)/\Jx (pre++[x]) W'))->
  J [] W->CallsIn EF n P g (#[.func (.yield l) #[] #[]]++lb) W fun e W'=>(∃v,e=.returned v)/\((∃xs,Sx xs/\J xs W')\/(∃pre,True/\Jx pre W'))
def ISeqG {α:Type}(P:Program)(gf:FuncId)(caps:List V)(encs:List α->α->Array Value)(Sx:List α->Prop)(N:Nat):Prop:=
 ∀(n:Nat) (S:Ba) (w:World) (lb:Array Value),(∀b j,S b j->b<w.heap.size)->AL (Cx.bare S) w caps lb.toList->SeqG n P gf lb encs (JX S) Sx N w
structure Gh (α:Type) where
 pre:List α
 off:Bool
structure Ia (α:Type)(P:Program)(encs:List α->α->Array Value)(N:Nat) where
 n:Nat
 l:Nat
 S:Ba
 J:List α->World->Prop
 Jx:List α->World->Prop
 aj : ∀pre W W',J pre W->AS W W'->J pre W'
 ax : ∀pre W W',Jx pre W->AS W W'->Jx pre W'
 yd : ∀pre x W1,J pre W1->pre.length<N->YieldAt EF (n - 1) P l (encs pre x) W1 fun e W' =>
  (e=.returned (.bool true)/\J (pre++[x]) W'/\JX S W1 W')\/(e=.returned (.bool false)/\Jx (pre++[x]) W')
variable {α:Type} {P:Program} {encs:List α->α->Array Value} {N:Nat} {Y:Ia α P encs N}
def Ia.G (Y:Ia α P encs N)(g:Gh α)(W:World):Prop:=if g.off then Y.Jx g.pre W else Y.J g.pre W
def Ia.A (Y:Ia α P encs N)(g:Gh α):Ba:=fun b j=>g.off=false/\Y.S b j
theorem Ia.keep {g:Gh α}{W W':World}(h:Y.G g W)(hk:AS W W'):Y.G g W':=by
 unfold Ia.G at *
 split at h
 . rename_i e;rw[if_pos e];exact Y.ax _ _ _ h hk
 . rename_i e;rw[if_neg e];exact Y.aj _ _ _ h hk
def IA (Y:Ia α P encs N)(g:Gh α)(s:St)(a:Act)(w:World):Prop:=∃W1 x,Y.G g W1/\x.S=Y.A g/\a.defers=[]/\CT (Y.A g) (Bs.of W1) x s a w
def IW (Y:Ia α P encs N)(c:Code)(K:Exit->Gh α->St->Prop)(g:Gh α)(s:St):Prop:=∀a w,IA Y g s a w->c.wpIn EF Y.n P (fun e a w=>∃g s,IA Y g s a w/\K e g s) a w
def y4 (nx:Gh α->St->Prop)(K:Exit->Gh α->St->Prop):Exit->Gh α->St->Prop
 | .normal,g,s=>nx g s
 | e,g,s=>K e g s
def ZI (id:Nat)(K:Exit->Gh α->St->Prop):Exit->Gh α->St->Prop
 | .exit i,g,s=>if i=id then K .normal g s else K (.exit i) g s
 | e,g,s=>K e g s
section
variable {K:Exit->Gh α->St->Prop} {g:Gh α} {s:St}
theorem Kz {nx:Gh α->St->Prop}(h:nx g s):y4 nx K .normal g s:=h
theorem K0 {nx:Gh α->St->Prop}(h:K .ret g s):y4 nx K .ret g s:=h
theorem Ky {nx:Gh α->St->Prop}{i:Nat}(h:K (.exit i) g s):y4 nx K (.exit i) g s:=h
theorem Kw {id:Nat}(h:K .normal g s):ZI id K .normal g s:=h
theorem Kx {id:Nat}(h:K .ret g s):ZI id K .ret g s:=h
theorem Kv {id:Nat}(h:K .normal g s):ZI id K (.exit id) g s:=by simp only[ZI,if_true];exact h
theorem IW.skip (h:K .normal g s):IW Y .skip K g s:=fun a w hA=>wpIn_skip ⟨g,s,hA,h⟩
theorem IW.ret (h:K .ret g s):IW Y .ret K g s:=fun a w hA=>wpIn_ret ⟨g,s,hA,h⟩
theorem IW.exit {id:Nat}(h:K (.exit id) g s):IW Y (.exit id) K g s:=fun a w hA=>wpIn_exit ⟨g,s,hA,h⟩
theorem IW.seq {c d:Code}(h:IW Y c (y4 (IW Y d K) K) g s):IW Y (.seq c d) K g s:=fun a w hA=>wpIn_seq (wpIn_mono (h a w hA) fun e a w ⟨g,s,h1,h2⟩=>by
 cases e with
 | normal=>exact h2 a w h1
 | _=>exact⟨g,s,h1,h2⟩)
theorem IW.block {id:Nat}{c:Code}(h:IW Y c (ZI id K) g s):IW Y (.block id c) K g s:=fun a w hA=>wpIn_block (wpIn_mono (h a w hA) fun e a w ⟨g,s,h1,h2⟩=>by
 cases e with
 | exit i =>
   simp only[ZI,Exit.inBlock]at h2 ⊢;split
   . rename_i e;rw[if_pos e]at h2;exact⟨g,s,h1,h2⟩
   . rename_i e;rw[if_neg e]at h2;exact⟨g,s,h1,h2⟩
 | _=>exact⟨g,s,h1,h2⟩)
theorem IW.cond {c:Operand}{d d':Code}{b:Bool}(hc:ev s.t c=.c (.bool b))(h:b=true->IW Y d K g s)(h':b=false->IW Y d' K g s):IW Y (.cond c d d') K g s:=fun a w hA=>by
 obtain⟨W1,x,h1,h2,GM,h3⟩:=hA;have hv:=EH h3.tm c;rw[hc]at hv;simp only[CV,Ap]at hv;exact wpIn_cond_split hv (fun e=>h e a w ⟨W1,x,h1,h2,GM,h3⟩) (fun e=>h' e a w ⟨W1,x,h1,h2,GM,h3⟩)
def Jy (s s':St):Prop:=∀(S0:Ba) (w0:Bs) (x:Cx) (a:Act) (w:World),w0.n0=0->CT S0 w0 x s a w->∃x',x'.S=x.S/\CT S0 w0 x' s' a w
theorem Jy.refl (s:St):Jy s s:=fun _ _ x _ _ _ h=>⟨x,rfl,h⟩
theorem Jy.BV {t t':List V}{h:List O}(hs:A5 t t'):Jy ⟨t,h⟩ ⟨t',h⟩:=fun _ _ x _ _ _ hA=>⟨x,rfl,hA.good,gC hs hA.tm,hA.df⟩
theorem IW.le {c:Code}{s':St}(hl:Jy s s')(h:IW Y c K g s'):IW Y c K g s:=fun a w ⟨W1,x,h1,h2,GM,h3⟩=>by
 obtain⟨x',e,h'⟩:=hl _ _ _ _ _ rfl h3;exact h a w ⟨W1,x',h1,e.trans h2,GM,h'⟩
theorem IW.loop {c:Code}{ι:Type}(I:ι->Gh α×St)(μ:ι->Nat)(i0:ι)(hg:(I i0).1=g)(h0:Jy s (I i0).2)(h : ∀i,IW Y c (y4 (fun g' s'=>∃j,μ j<μ i/\(I j).1=g'/\Jy s' (I j).2) K) (I i).1 (I i).2):IW Y (.loop c) K g s:=fun a w ⟨W1,x,h1,h2,GM,h3⟩=>by
 obtain⟨x',e,h'⟩:=h0 _ _ _ _ _ rfl h3;subst hg;refine AHm (fun i a w=>IA Y (I i).1 (I i).2 a w) μ i0 ⟨W1,x',h1,e.trans h2,GM,h'⟩ fun i a w hi=>?_
 refine wpIn_mono (h i a w hi) fun e a w ⟨g,s,h1,h2⟩=>?_
 cases e with
 | normal =>
   obtain⟨j,hj,rfl,hl⟩:=h2;obtain⟨W2,x2,k1,k2,kd,k3⟩:=h1;obtain⟨x3,e3,k4⟩:=hl _ _ _ _ _ rfl k3;exact⟨j,⟨W2,x3,k1,e3.trans k2,kd,k4⟩,hj⟩
 | _=>exact⟨g,s,h1,h2⟩
def IL (Y:Ia α P encs N)(ops:List Oper)(K:Exit->Gh α->St->Prop)(l:List Oper)(g:Gh α)(s:St):Prop:=∀a w,IA Y g s a w->wpListIn EF Y.n P ops.toArray (fun e a w=>∃g s,IA Y g s a w/\K e g s) l a w
variable {ops:List Oper}
theorem IW.region {id:Nat}(h:IL Y ops K ops g s):IW Y (.region id ops.toArray false) K g s:=fun a w hA=>wpIn_region_lit (h a w hA)
theorem IL.nil (h:K .normal g s):IL Y ops K [] g s:=fun a w hA=>⟨g,s,hA,h⟩
theorem AQF {n:Nat}{o:Oper}{a:Act}{w:World}{K:Act->World->Prop}{Q:Exit->Act->World->Prop}(h:o.wp P a w K Q):o.wpIn EF n P a w K Q:=by
 refine⟨fun _ _=>trivial,?_⟩;rw[show EF.round=none from rfl,Oper.semAt_none];unfold EL at h;generalize (execOp a.eval o).run P w=r at h ⊢;cases r with
 | ok x w' =>
   cases x<;>simp only[iG,oe]at h ⊢<;>
    first
     | exact h
     | exact h.elim
     | exact⟨fun e=>(by cases e),callsIn_wide.2 h⟩
     | exact⟨fun e=>(by cases e),fun c cs _=>let ⟨v,w',r,s⟩:=h c cs;⟨v,w',r,stepsIn_wide.2 s⟩⟩
 | halt x w'=>cases x<;>simp only[iG,oe]at h ⊢<;>exact h
theorem IL.run : ∀ {l l':List Oper} {s s':St},Te P ops l s=some (l',s')->(l.all fun o=> !uQ o.op)=true->IL Y ops K l' g s'->IL Y ops K l g s
 | [],l',s,s',h,_,hK=>by simp only[Te,BE,Cp]at h;obtain⟨rfl,rfl⟩:=h;exact hK
 | o::r,l',s,s',h,hb,hK=>by
   unfold Te at h;simp only[List.all_cons,An,Bool.not_eq_true']at hb;have hr:(r.all fun o=> !uQ o.op)=true:=hb.2;split at h
   . rename_i hg;split at h
     . rename_i hc;split at h
       . rename_i s1 hs;unfold PQ at hs;split at hs
         . rename_i v t hap;cases hs;intro a w ⟨W1,x,h1,h2,GM,h3⟩;have hw:DV o (yielded ops.toArray a.tmps)=true:=by
            have:=J2 (o:=o) h3.tm (Hj (ops:=ops) (K1:=True) (K2:=False) hg trivial);exact Kb fun h=>this.2 h
           unfold wpListIn;rw[if_pos hw];refine AQF ?_;obtain⟨nx,w',x',u,hrun,D5,hcv,g',he,_,hS⟩:=jk h3.good.VA (fun y _=>EH h3.tm y) (fun _ _=>h3.fresh) hap;rw[<-Lm _ _ (jo hap)]at g';obtain⟨g',hnc⟩:=h3.good.Qp he g';unfold EL;rw[hrun];rcases D5 with rfl|⟨rfl,rfl⟩
           . exact IL.run h hr hK _ _ ⟨W1,x',h1,(hS hb.1).trans h2,by rw[Rs];exact GM,CT.put h3.tm (h3.df.mono hnc) he g' hcv o.dst⟩
           . exact IL.run h hr hK _ _ ⟨W1,x',h1,(hS hb.1).trans h2,by rw[Rs];exact GM,CT.put h3.tm (h3.df.mono hnc) he g' hcv o.dst⟩
         . cases hs
       . cases h
     . simp only[BE,Cp]at h;obtain⟨rfl,rfl⟩:=h;exact hK
   . rename_i hg;intro a w ⟨W1,x,h1,h2,GM,h3⟩;have hw : ¬DV o (yielded ops.toArray a.tmps)=true:=by
      have:=J2 (o:=o) h3.tm (Vy (ops:=ops) (K1:=False) (K2:=True) hg trivial);exact fun h=>this.1 h
     unfold wpListIn;rw[if_neg hw];exact⟨fun _ _=>trivial,IL.run h hr hK _ _ ⟨W1,x,h1,h2,by rw[Rs];exact GM,CT.put (v:=.Bk []) (u:=undef) h3.tm h3.df (Ext.refl x w) h3.good (gJ x w) o.dst⟩⟩
   . cases h
end
mutual
theorem CV.bare {x:Cx}{w:World} : ∀(v:V) (u:Value),v.BA 0=true->CV x w v u->CV (Cx.bare x.S) w v u
 | .ptr k off,u,hb,h=>by simp[V.BA]at hb
 | .own k off len es,u,hb,h=>by simp[V.BA]at hb
 | .gr k es rows,u,hb,h=>by simp[V.BA]at hb
 | .hot k es rows,u,hb,h=>by simp[V.BA]at hb
 | .hp k n pos,u,hb,h=>by simp[V.BA]at hb
 | .agg l,u,hb,h=>by simp only[V.BA]at hb;simp only[CV]at h ⊢;obtain⟨vs,e,h⟩:=h;exact⟨vs,e,AL.bare l _ hb h⟩
 | .Bk l,u,hb,h=>by simp only[V.BA]at hb;simp only[CV]at h ⊢;obtain⟨vs,e,h⟩:=h;exact⟨vs,e,AL.bare l _ hb h⟩
 | .fn f l,u,hb,h=>by simp only[V.BA]at hb;simp only[CV]at h ⊢;obtain⟨vs,e,h⟩:=h;exact⟨vs,e,AL.bare l _ hb h⟩
 | .any,u,_,h=>by simp only[CV]
 | .c _,u,_,h=>by simpa only[CV,Cx.bare]using h
 | .cp _ _,u,_,h=>by simpa only[CV,Cx.bare]using h
 | .full _,u,_,h=>by simpa only[CV,Cx.bare]using h
 | .yl _,u,_,h=>by simpa only[CV]using h
 | .mp k,u,hb,_=>by simp[V.BA]at hb
theorem AL.bare {x:Cx}{w:World} : ∀(l:List V) (us:List Value),V.BT 0 l=true->AL x w l us->AL (Cx.bare x.S) w l us
 | [],us,_,h=>by simpa only[AL]using h
 | v::l,us,hb,h=>by
   simp only[V.BT,An]at hb;simp only[AL]at h ⊢;obtain⟨u,ur,e,h1,h2⟩:=h;exact⟨u,ur,e,CV.bare v u hb.1 h1,AL.bare l ur hb.2 h2⟩
end
theorem qS {S:Ba}{W:World}{t:List V}{a:Act}(hS : ∀b j,S b j->b<W.heap.size)(ht:AL (Cx.bare S) W t a.tmps.toList)(hd:Marks (Bs.of W) a.defers W):CT S (Bs.of W) (Cx.bare S) ⟨t,[]⟩ a W:=
 ⟨⟨fun k o h=>by simp at h,fun k h=>h.elim,fun k k' o o' h=>by simp at h,fun k o j h=>by simp at h,hS,fun k o h=>by simp at h,fun b j h=>.inl h,fun b j h=>h,.GA (AS.refl W),Ext.none _ _ _⟩,ht,hd⟩
theorem Jy.drop {t t':List V}{h:List O}(hs:A5 t t')(hb:V.BT 0 t'=true):Jy ⟨t,h⟩ ⟨t',[]⟩:=fun S0 w0 x a w h0 hA=>by
 have:=gC hs hA.tm;refine⟨Cx.bare x.S,rfl,⟨fun k o h=>by simp at h,fun k h=>h.elim,fun k k' o o' h=>by simp at h,fun k o j h=>by simp at h,hA.good.ex,fun k o h=>by simp at h,hA.good.new,hA.good.sub,hA.good.keep,?_⟩,AL.bare _ _ hb this,hA.df⟩;have hd : ∀k,¬w0.x0.dom k:=fun k hk=>by have:=w0.dl k hk;omega
 exact⟨⟨hA.good.ext.ar.sub,hA.good.ext.ar.cell⟩,fun k hk=>absurd hk (hd k),fun k hk=>absurd hk (hd k)⟩
section
variable {K:Exit->Gh α->St->Prop} {s:St} {ops:List Oper}
theorem IL.yieldV {o:Oper}{r:List Oper}{f y:Operand}{He:Array TypeId}{pre:List α}(z:α)(t':List V)(ho:o.op=.call ⟨.value f,#[y],He⟩)(hg:o.guard=none)(hf:ev s.t f=.yl Y.l)(hy : ∀(x:Cx) (w:World) (u:Value),CV x w (ev s.t y) u->encs pre z=#[u])(hN:pre.length<N)(hs:A5 s.t t')(hb:V.BT 0 t'=true)(ht:IL Y ops K r ⟨pre++[z],false⟩ (St.put ⟨t',[]⟩ o.dst (.c (.bool true))))(hx:IL Y ops K r ⟨pre++[z],true⟩ (St.put ⟨As s.t.length .any,[]⟩ o.dst (.c (.bool false)))):IL Y ops K (o::r) ⟨pre,false⟩ s:=fun a w ⟨W1,x,h1,h2,GM,h3⟩=>by
 have hk:AS W1 w:=h3.good.keep.all;have hJ:Y.J pre w:=Y.aj _ _ _ (by simpa [Ia.G]using h1) hk;obtain⟨fn,tmps,asn,bd,hrun,hR⟩:=Y.yd pre z w hJ hN;have ED:=EH h3.tm f;rw[hf]at ED;simp only[CV]at ED;have ML:=hy _ _ _ (EH h3.tm y);unfold wpListIn;rw[if_pos (by simp[DV,hg])];refine⟨fun _ _=>trivial,?_⟩;rw[show EF.round=none from rfl,Oper.semAt_none];have AMf:(execOp a.eval o).run P w=.ok (.round Y.l fn tmps asn bd) w:=by
  rw[ML]at hrun;simp[execOp,ho,resolve,ED,Pa,invoke,hrun]
 rw[AMf];refine⟨fun e=>(by cases e),hR.mono ?_⟩;have kt:x.S=Y.S:=by rw[h2];funext b j;simp[Ia.A]
 have FD:Y.A ⟨pre++[z],false⟩=Y.S:=by funext b j;simp[Ia.A]
 have Gv:Y.A ⟨pre++[z],true⟩=fun _ _=>False:=by funext b j;simp[Ia.A]
 have Et:a.tmps.size=s.t.length:=by have:=h3.tm.len;simpa using this
 have hput : ∀(t:List V) (S:Ba) (W:World) (b:Bool),AL (Cx.bare S) W t a.tmps.toList->AL (Cx.bare S) W (St.put ⟨t,[]⟩ o.dst (.c (.bool b))).t (a.put o.dst (.bool b)).tmps.toList:=by
  intro t S W b h;rw[AFG];cases o.dst with
  | none=>exact h
  | some d=>exact h.set d (by simp only[CV,Ap])
 have hh : ∀(t:List V) (b:Bool),(St.put ⟨t,[]⟩ o.dst (.c (.bool b))).h=[]:=by intro t b;cases o.dst<;>rfl
 have hst : ∀(t:List V) (b:Bool),St.put ⟨t,[]⟩ o.dst (.c (.bool b))=⟨(St.put ⟨t,[]⟩ o.dst (.c (.bool b))).t,[]⟩:=by intro t b;cases o.dst<;>rfl
 rintro e W' (⟨rfl,sW,hle,DF⟩|⟨rfl,sW⟩)
 . refine ht _ _ ⟨W',Cx.bare Y.S,by simpa [Ia.G]using sW,FD.symm,by rw[Rs];exact GM,?_⟩;rw[FD,hst];refine qS (fun b j h=>H6 (h3.good.ex b j (by rw[kt];exact h)) hle) (hput _ _ _ _ ?_) (by rw[Rs,GM];exact Marks.nil _ _);have h4:=AL.bare _ _ hb (gC hs h3.tm);rw[kt]at h4;have eY:Ext (Cx.bare Y.S) (Cx.bare Y.S) w W':=⟨DF,fun _ h=>h,fun _ h=>h.elim⟩
   exact AL.mono eY _ _ h4
 . refine hx _ _ ⟨W',Cx.bare fun _ _=>False,by simpa [Ia.G]using sW,Gv.symm,by rw[Rs];exact GM,?_⟩;rw[Gv,hst];refine qS (fun b j h=>h.elim) (hput _ _ _ _ ?_) (by rw[Rs,GM];exact Marks.nil _ _);exact AL.Rp (by simp[Et]) fun j v u hv hu=>by
    rw[List.getElem?_replicate]at hv;split at hv
    . cases hv;simp only[CV]
    . cases hv
theorem IL.yield {o:Oper}{r:List Oper}{f y:Operand}{He:Array TypeId}{pre:List α}(z:α)(t':List V)(ho:o.op=.call ⟨.value f,#[y],He⟩)(hg:o.guard=none)(hf:ev s.t f=.yl Y.l){kd:IntKind}{i:Int}(hy:ev s.t y=.c (.int kd i))(hz:encs pre z=#[.int kd i])(hN:pre.length<N)(hs:A5 s.t t')(hb:V.BT 0 t'=true)(ht:IL Y ops K r ⟨pre++[z],false⟩ (St.put ⟨t',[]⟩ o.dst (.c (.bool true))))(hx:IL Y ops K r ⟨pre++[z],true⟩ (St.put ⟨As s.t.length .any,[]⟩ o.dst (.c (.bool false)))):IL Y ops K (o::r) ⟨pre,false⟩ s:=IL.yieldV z t' ho hg hf (fun x w u h=>by rw[hy]at h;simp only[CV,Ap]at h;rw[hz,h.1]) hN hs hb ht hx
theorem ISeqG.intro {gf:FuncId}{caps:List V}{Sx:List α->Prop}{fn:Func}{c:Code}(EP:P.funcs[gf]?=some fn)(hb:fn.body=some c)(eJ:fn.results=#[])(h : ∀Y:Ia α P encs N,IW Y c (fun e g s=>(e=.normal\/e=.ret)/\(g.off=false->Sx g.pre)) ⟨[],false⟩ ⟨(.yl Y.l::caps)++As (fn.ntmps - (caps.length+1)) .any,[]⟩):ISeqG P gf caps encs Sx N:=by
 intro n S w lb hS EZ l J Jx W AMH haJ haX hyd hJ0;have Y7:AS w W:=AMH;have aj : ∀pre A B,J pre A->AS A B->J pre B:=fun pre A B h hk=>haJ pre A B none h ⟨hk.os,hk.tape,hk.output,hk.size,fun k hk' _=>hk.block k hk'⟩ (fun r e=>by cases e)
 have ax : ∀pre A B,Jx pre A->AS A B->Jx pre B:=fun pre A B h hk=>haX pre A B none h ⟨hk.os,hk.tape,hk.output,hk.size,fun k hk' _=>hk.block k hk'⟩ (fun r e=>by cases e)
 let Y:Ia α P encs N:=⟨n,l,S,J,Jx,aj,ax,hyd⟩
 refine callsIn_of_wp_marks (F:=EF) EP hb trivial ?_;have FD:Y.A ⟨[],false⟩=S:=by funext b j;simp[Ia.A,Y]
 have CU:lb.size=caps.length:=by have:=EZ.len;simpa using this
 have kl:IA Y ⟨[],false⟩ ⟨(.yl Y.l::caps)++As (fn.ntmps - (caps.length+1)) .any,[]⟩ { tmps:=(#[ye (.yield l) #[] #[]]++lb)++PY (fn.ntmps - (#[ye (.yield l) #[] #[]]++lb).size) undef,defers:=[] } W:=by
  refine⟨W,Cx.bare S,by simpa [Ia.G,Y]using hJ0,FD.symm,rfl,?_⟩;rw[FD];refine qS (fun b j h=>H6 (hS b j h) Y7.size) ?_ (Marks.nil _ _);have e1:(#[ye (.yield l) #[] #[]]++lb).size=caps.length+1:=by simp[CU];omega
  simp only[Array.toList_append,Array.toList_replicate,e1];refine AL.append ?_ (Tc _ _ _ _);have eY:Ext (Cx.bare S) (Cx.bare S) w W:=⟨⟨fun _ _ h=>h,fun b j v _ hc=>Y7.cell hc⟩,fun _ h=>h,fun _ h=>h.elim⟩
  simp only[Bg,Bh,AL];exact⟨_,lb.toList,rfl,by simp[CV,Y],AL.mono eY _ _ EZ⟩
 refine wpIn_mono (h Y _ _ kl) fun e a' w' ⟨g,s,⟨W1,x,k1,k2,k3,k4⟩,he,kt⟩=>?_
 have fin:LeavesInM EF n P fn a'.tmps (fun e W'=>(∃v,e=.returned v)/\((∃xs,Sx xs/\J xs W')\/(∃pre,True/\Jx pre W'))) a'.defers .returning w':=by
  rw[k3];refine⟨.tuple #[],by simp[results,eJ],⟨_,rfl⟩,?_⟩;have hG:=Y.keep k1 k4.good.keep.all;unfold Ia.G at hG;cases hg:g.off with
  | false=>rw[hg]at hG;exact .inl ⟨g.pre,kt hg,by simpa using hG⟩
  | true=>rw[hg]at hG;exact .inr ⟨g.pre,trivial,by simpa using hG⟩
 rcases he with rfl|rfl
 . exact fin
 . exact fin
theorem SS.intro {encs:α->Array Value}{gf:FuncId}{caps:List V}{Sx:List α->Prop}{fn:Func}{c:Code}(EP:P.funcs[gf]?=some fn)(hb:fn.body=some c)(eJ:fn.results=#[])(h : ∀Y:Ia α P (fun _=>encs) N,IW Y c (fun e g s=>(e=.normal\/e=.ret)/\(g.off=false->Sx g.pre)) ⟨[],false⟩ ⟨(.yl Y.l::caps)++As (fn.ntmps - (caps.length+1)) .any,[]⟩):SS P gf caps encs Sx N:=ISeqG.intro EP hb eJ h
end
attribute [simp] Te Zf PO Pl.key gate Jj PQ OP ji Pl.ap Lg ev AVK AVP AVJ AVI AVO AVM AVL AVN AVR AVT AVS AVX AVV AVU AVW St.step St.put CG jY ju jZ je jf jb jh Ya T3 jt Vu qR X3 toC toCs AU Ek WC V.flat V.cells V.one V.nl Fv DE V.AO V.AP
end
theorem cj {p q:Prop}(x:p)(y:q):p/\q:=⟨x,y⟩
theorem Ac {p q:Prop}(h:q)(k:q->p:=by
 intro h;repeat (first
  | (with_reducible first|refine AW.seq ?_|refine AW.block ?_|refine G7 ?_|refine OM ?_|refine AW.ret ?_|refine Pu ?_|refine Pp ?_|refine B9 ?_|refine AW.skip ?_|refine AW.exit ?_|refine Pt ?_|refine NZ ?_|refine AW.label ?_|refine AW.scope ?_|refine Pr ?_|refine Ps ?_|refine Pq ?_)
  | ((with_reducible refine AW.region ?_);with_reducible refine Bw (by simp[List.replicate_succ];first|exact rfl|exact⟨rfl,rfl⟩) ?_)
  | ((with_reducible refine AW.draw GZ ?_ ?_);(focus first|exact .inl rfl|exact .inr (by decide));with_reducible refine Fh (by simp[List.replicate_succ];first|exact rfl|exact⟨rfl,rfl,rfl⟩) ?_)
  | (with_reducible refine zB (by kernel_rfl) ?_)
  | ((with_reducible refine Po ?_ ?_);focus decide)
  | ((with_reducible refine kO ?_ ?_);focus (simp[ev];done))
  | ((with_reducible refine kN ?_ ?_);focus (simp[ev];done)))
 exact h):p:=k h
theorem go {F p q:Prop}(f:F)(h:q)(k:F->q->p:=by
 intro f h;repeat (first
  | (with_reducible first|refine AW.seq ?_|refine AW.block ?_|refine G7 ?_|refine OM ?_|refine AW.ret ?_|refine Pu ?_|refine Pp ?_|refine B9 ?_|refine AW.skip ?_|refine AW.exit ?_|refine Pt ?_|refine NZ ?_|refine AW.label ?_|refine AW.scope ?_|refine Pr ?_|refine Ps ?_|refine Pq ?_)
  | ((with_reducible refine AW.region ?_);with_reducible refine Bw (by simp[List.replicate_succ,f];first|exact rfl|exact⟨rfl,rfl⟩) ?_)
  | ((with_reducible refine AW.draw GZ ?_ ?_);(focus first|exact .inl rfl|exact .inr (by decide));with_reducible refine Fh (by simp[List.replicate_succ,f];first|exact rfl|exact⟨rfl,rfl,rfl⟩) ?_)
  | (with_reducible refine zB (by kernel_rfl) ?_)
  | ((with_reducible refine Po ?_ ?_);focus decide)
  | ((with_reducible refine kO ?_ ?_);focus (simp[ev,f];done))
  | ((with_reducible refine kN ?_ ?_);focus (simp[ev,f];done)))
 exact h):p:=k f h
theorem BY {p q:Prop}{P:Program}{g:FuncId}{args:List V}{res:V}{fn:Func}(Cs:AC P g args res)(hf:P.funcs[g]?=some fn)(h:q)(k:AC P g args res->P.funcs[g]?=some fn->q->p:=by
 intro c n h;(with_reducible first|refine jl c n (by kernel_rfl) (by kernel_rfl) ?_ ?_ ?_|refine ja c n (by kernel_rfl) (by kernel_rfl) ?_ ?_ ?_)
 focus (simp[gate];done)
 focus (simp[Fv];done)
 first|(with_reducible refine Bw (by simp[List.replicate_succ];first|exact rfl|exact⟨rfl,rfl⟩) ?_)|(with_reducible refine Fh (by simp[List.replicate_succ];first|exact rfl|exact⟨rfl,rfl,rfl⟩) ?_)
 exact h):p:=k Cs hf h
theorem gc {F p q:Prop}{P:Program}{g:FuncId}{args:List V}{res:V}{fn:Func}(f:F)(Cs:AC P g args res)(hf:P.funcs[g]?=some fn)(h:q)(k:F->AC P g args res->P.funcs[g]?=some fn->q->p:=by
 intro f c n h;(with_reducible first|refine jl c n (by kernel_rfl) (by kernel_rfl) ?_ ?_ ?_|refine ja c n (by kernel_rfl) (by kernel_rfl) ?_ ?_ ?_)
 focus (simp[gate,f];done)
 focus (simp[Fv,f];done)
 first|(with_reducible refine Bw (by simp[List.replicate_succ,f];first|exact rfl|exact⟨rfl,rfl⟩) ?_)|(with_reducible refine Fh (by simp[List.replicate_succ,f];first|exact rfl|exact⟨rfl,rfl,rfl⟩) ?_)
 exact h):p:=k f Cs hf h
theorem en {q:Prop}{P:Program}{g:FuncId}{fn:Func}{c:Code}{args:List V}{res:V}{n:Nat}(hf:P.funcs[g]?=some fn)(hn:fn.ntmps=n)(h:q)(hb:fn.body=some c:=by exact rfl)(k:fn.ntmps=n->q->AW ⟨none,0⟩ P c (Aj P fn.results.toList res) ⟨args++List.replicate (fn.ntmps - args.length) .any,[]⟩:=by
   intro hn h;simp only[hn,List.map_cons,List.map_nil,List.length_cons,List.length_nil,Nat.reduceAdd,Nat.reduceSub,List.replicate_succ,List.replicate_zero,List.cons_append,List.nil_append];exact h):AC P g args res:=AC.intro hf hb (k hn h)
theorem lp {m:Mo}{P:Program}{c:Code}{K:Exit->St->Prop}{t:List V}{h:List O}{ι:Type}(f:ι->List (Nat×V))(hf:ι->List O)(μ:ι->Nat)(i0:ι){ws:List Nat}{t0:List V}(h0:Le m ⟨t,h⟩ ⟨Br (f i0) t0,hf i0⟩)(hr : ∀i,AW m P c (LM (fun s'=>∃j,μ j<μ i/\Le m s' ⟨Br (f j) t0,hf j⟩) K) ⟨Br (f i) t0,hf i⟩)(hw:wr c=ws:=by simp only[wr,gQ,List.cons_append,List.nil_append,List.append_nil,List.append_assoc];exact rfl)(ht:dP ws t=t0:=by simp only[dP,List.foldl_cons,List.foldl_nil,List.set_cons_zero,List.set_cons_succ];exact rfl):AW m P (.loop c) K ⟨t,h⟩:=
 AW.AO7 f hf μ i0 ws hw t0 ht h0 hr
theorem wd {m:Mo}{t t':List V}{h h':List O}(n:Nat)(hn:m.n0<=n:=by exact Nat.le_of_ble_eq_true rfl)(hs:A5 t t':=by simp[A5])(hh:h.take n=h':=by simp)(hb:V.BT n t'=true:=by simp[V.BT,V.BA])(ho:(h'.all (O.BA n))=true:=by simp[O.BA,V.BT,V.BA]):Le m ⟨t,h⟩ ⟨t',h'⟩:=Le.H5 n hn hs hh hb ho
end Go.Proofs.YtpodcjcajanldaaGreat
