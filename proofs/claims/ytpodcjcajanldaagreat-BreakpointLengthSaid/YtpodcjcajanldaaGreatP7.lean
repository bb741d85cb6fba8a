/- Part of the proof of breakpointLength.proved. Conditions: none. (Joined and shortened by a program.) -/
import Derived.Test.YtpodcjcajanldaaGreatRows
import Derived.ProofKit
import Derived.Test.YtpodcjcajanldaaGreatP5
set_option linter.unusedVariables false
set_option linter.unusedSimpArgs false
set_option maxRecDepth 100000
set_option maxHeartbeats 16000000
open Go.Proofs.Tryz renaming prog→AD
open Option.some renaming injEq→BE,inj→JW
open Prod.mk renaming injEq→Cp
open List renaming map_append→EX,getD_eq_getElem?_getD→G5,getElem?_eq_getElem→BP,getElem?_eq_none→Ln,all_eq_true→Ee,contains_iff_mem→gm
open Bool renaming eq_iff_iff→Ka
namespace Go.Proofs.YtpodcjcajanldaaGreat
open Go.RowKit
section
open Go.ChangeShapes Go.WideShapes Go.ChangeAt Go.RowKit
theorem my:AD.stopsHeard=true:=by kernel_rfl
theorem m5:AD.mayEnter=true:=by kernel_rfl
end
def KP (P:Program)(ds:List (Option Nat)):Nat->Bool->List Oper->St->Option (List Oper×St)
 | _,true,[],_=>none
 | _,false,[],s=>some ([],s)
 | 0,_,l,s=>some (l,s)
 | n+1,true,o::r,s=>match Of ds s.t o.guard with
   | some true=>match Jj o.op with
     | false=>match PQ P o s with
       | some s'=>KP P ds n false r s'
       | none=>none
     | true=>none
   | some false=>KP P ds n false r (s.put o.dst (.Bk []))
   | none=>none
 | n+1,false,o::r,s=>match o.guard with
   | some _=>some (o::r,s)
   | none=>match Jj o.op with
     | false=>match PQ P o s with
       | some s'=>KP P ds n false r s'
       | none=>none
     | true=>some (o::r,s)
section
variable {P:Program} {K:St->Prop} {ops:List Oper}
theorem jm {ds:List (Option Nat)}(hd:ops.map (·.dst)=ds):∀(n:Nat) (b:Bool) {l l':List Oper} {s s':St},KP P ds n b l s=some (l',s')->EA P ops K l' s'->EA P ops K l s
 | n,true,[],l',s,s',h,hK=>by simp[KP]at h
 | n,false,[],l',s,s',h,hK=>by simp only[KP,BE,Cp]at h;obtain⟨rfl,rfl⟩:=h;exact hK
 | 0,b,o::r,l',s,s',h,hK=>by simp only[KP,BE,Cp]at h;obtain⟨rfl,rfl⟩:=h;exact hK
 | n+1,true,o::r,l',s,s',h,hK=>by
   subst hd;unfold KP at h;rw[ABV]at h;split at h
   . rename_i hg;split at h
     . rename_i hc;split at h
       . rename_i s1 hs;have ih:=jm rfl n _ h hK;unfold PQ at hs;split at hs
         . rename_i v t hap;cases hs;unfold EA;refine Hj hg ?_;unfold Pw;rw[V7 hc];simp only;rw[hap];exact ih
         . cases hs
       . cases h
     . cases h
   . rename_i hg;unfold EA;exact Vy hg (jm rfl n _ h hK)
   . cases h
 | n+1,false,o::r,l',s,s',h,hK=>by
   subst hd;unfold KP at h;split at h
   . simp only[BE,Cp]at h;obtain⟨rfl,rfl⟩:=h;exact hK
   . rename_i QB;have hg:gate ops s.t o.guard=some true:=by rw[QB];rfl
     split at h
     . rename_i hc;split at h
       . rename_i s1 hs;have ih:=jm rfl n _ h hK;unfold PQ at hs;split at hs
         . rename_i v t hap;cases hs;unfold EA;refine Hj hg ?_;unfold Pw;rw[V7 hc];simp only;rw[hap];exact ih
         . cases hs
       . cases h
     . simp only[BE,Cp]at h;obtain⟨rfl,rfl⟩:=h;exact hK
end
def Qg (P:Program)(ds:List (Option Nat)):Nat->Bool->List Oper->List (Option Nat×Option Nat)->St->Option (List Oper×List (Option Nat×Option Nat)×St)
 | _,true,[],_,_=>none
 | _,false,[],ks,s=>some ([],ks,s)
 | 0,_,l,ks,s=>some (l,ks,s)
 | n+1,true,o::r,ks,s=>match Of ds s.t o.guard with
   | some true=>match Jj o.op with
     | false=>match PO P o s with
       | some (e,s')=>Qg P ds n false r (ks++[e.ks]) s'
       | none=>none
     | true=>none
   | some false=>Qg P ds n false r (ks++[(none,none)]) (s.put o.dst (.Bk []))
   | none=>none
 | n+1,false,o::r,ks,s=>match o.guard with
   | some _=>some (o::r,ks,s)
   | none=>match Jj o.op with
     | false=>match PO P o s with
       | some (e,s')=>Qg P ds n false r (ks++[e.ks]) s'
       | none=>none
     | true=>some (o::r,ks,s)
section
variable {P:Program} {K:St->Prop} {ops:List Oper}
theorem zF {o:Oper}{r:List Oper}{ks:List (Option Nat×Option Nat)}{s s1:St}{e:Ef}(hg:gate ops s.t o.guard=some true)(hc:Jj o.op=false)(hs:PO P o s=some (e,s1))(ih:AK P ops K r (ks++[e.ks]) s1):AK P ops K (o::r) ks s:=fun acc WT=>by
 unfold PO at hs;split at hs
 . rename_i v t hap;simp only[BE,Cp]at hs;obtain⟨rfl,rfl⟩:=hs;unfold Hi;refine Hj hg ?_;unfold bl;rw[V7 hc];simp only;rw[hap];exact ih _ (by rw[EX,WT];rfl)
 . cases hs
theorem AI5 {o:Oper}{r:List Oper}{ks:List (Option Nat×Option Nat)}{s:St}(hg:gate ops s.t o.guard=some false)(ih:AK P ops K r (ks++[(none,none)]) (s.put o.dst (.Bk []))):AK P ops K (o::r) ks s:=fun acc WT=>by
 unfold Hi;exact Vy hg (ih _ (by rw[EX,WT];rfl))
theorem jg {ds:List (Option Nat)}(hd:ops.map (·.dst)=ds):∀(n:Nat) (b:Bool) {l l':List Oper} {ks KG:List (Option Nat×Option Nat)} {s s':St},Qg P ds n b l ks s=some (l',KG,s')->AK P ops K l' KG s'->AK P ops K l ks s
 | n,true,[],l',ks,KG,s,s',h,hK=>by simp[Qg]at h
 | n,false,[],l',ks,KG,s,s',h,hK=>by simp only[Qg,BE,Cp]at h;obtain⟨rfl,rfl,rfl⟩:=h;exact hK
 | 0,b,o::r,l',ks,KG,s,s',h,hK=>by simp only[Qg,BE,Cp]at h;obtain⟨rfl,rfl,rfl⟩:=h;exact hK
 | n+1,true,o::r,l',ks,KG,s,s',h,hK=>by
   subst hd;unfold Qg at h;rw[ABV]at h;split at h
   . rename_i hg;split at h
     . rename_i hc;split at h
       . rename_i e s1 hs;exact zF hg hc hs (jg rfl n _ h hK)
       . cases h
     . cases h
   . rename_i hg;exact AI5 hg (jg rfl n _ h hK)
   . cases h
 | n+1,false,o::r,l',ks,KG,s,s',h,hK=>by
   subst hd;unfold Qg at h;split at h
   . simp only[BE,Cp]at h;obtain⟨rfl,rfl,rfl⟩:=h;exact hK
   . rename_i QB;have hg:gate ops s.t o.guard=some true:=by rw[QB];rfl
     split at h
     . rename_i hc;split at h
       . rename_i e s1 hs;exact zF hg hc hs (jg rfl n _ h hK)
       . cases h
     . simp only[BE,Cp]at h;obtain⟨rfl,rfl,rfl⟩:=h;exact hK
def GI (P:Program)(f:FuncId):Bool:=match P.funcs[f]? with
 | some fn=>fn.body.isSome && !(fn.name == "runtime.NumGoroutine")
 | none=>false
theorem UB {f:FuncId}(h:GI P f=true):∃fn,P.funcs[f]?=some fn/\fn.body.isSome=true/\(fn.name == "runtime.NumGoroutine")=false:=by
 unfold GI at h;split at h
 . rename_i fn hf;simp only[Bool.and_eq_true,Bool.not_eq_true']at h;exact⟨fn,hf,h.1,h.2⟩
 . cases h
theorem zN {o:Oper}{r:List Oper}{s:St}{f:FuncId}{Bx:List V}{res:V}(Cs:AC P f Bx res)(Au:GI P f=true)(hg:gate ops s.t o.guard=some true)(hc:Fv (ev s.t) o.op=some (f,Bx))(h:EA P ops K r (s.step o.dst res none)):EA P ops K (o::r) s:=
 let ⟨_,h1,h2,h3⟩:=UB Au
 jl Cs h1 h2 h3 hg hc h
theorem AI2 {o:Oper}{r:List Oper}{ks:List (Option Nat×Option Nat)}{s:St}{f:FuncId}{Bx:List V}{res:V}(Cs:AC P f Bx res)(Au:GI P f=true)(hg:gate ops s.t o.guard=some true)(hc:Fv (ev s.t) o.op=some (f,Bx))(h:AK P ops K r (ks++[(none,none)]) (s.step o.dst res none)):AK P ops K (o::r) ks s:=
 let ⟨_,h1,h2,h3⟩:=UB Au
 zE Cs h1 h2 h3 hg hc h
theorem wN {α:Type}{l:List α}{d:Nat}{v dflt:α}(h:l.getD d dflt=v)(hd:d<l.length):l.set d v=l:=by
 have e:l[d]=v:=by
  rw[G5,BP hd]at h;simpa using h
 rw[<-e];exact List.set_getElem_self hd
theorem AUR {s:St}{d:Nat}{b b':Bool}(hv:s.t.getD d .any=.c (.bool b))(e:b=b'):(⟨s.t.set d (.c (.bool b')),s.h⟩:St)=s:=by
 subst e;have hd:d<s.t.length:=Classical.byContradiction fun h=>by
  rw[G5,Ln (by omega)]at hv;cases hv
 rw[wN hv hd]
end
def AE0 (l:List Oper):List (List Nat):=l.foldl (fun acc o=>acc++[((FN o).flatMap fun j=>j::acc.getD j []).eraseDups]) []
theorem ABL {α:Type}(l:List α)(x d:α)(i:Nat):(l++[x]).getD i d=if i=l.length then x else l.getD i d:=by
 simp only[G5];rcases Nat.lt_trichotomy i l.length with h|h|h
 . rw[List.getElem?_append_left h,if_neg (by omega)]
 . subst h;simp
 . rw[Ln (by simp;omega),Ln (by omega),if_neg (by omega)]
theorem AE1 : ∀(l:List Oper) (A B:List (List Nat)),A.length=B.length->(∀i j,j∈A.getD i []↔j∈B.getD i [])->∀i j,j∈(l.foldl (fun acc o=>acc++[(FN o).flatMap fun j=>j::acc.getD j []]) A).getD i []↔j∈(l.foldl (fun acc o=>acc++[((FN o).flatMap fun j=>j::acc.getD j []).eraseDups]) B).getD i []
 | [],_,_,_,h=>h
 | o::l,A,B,hl,h=>by
   simp only[List.foldl_cons];refine AE1 l _ _ (by simp[hl]) fun i j=>?_
   rw[ABL,ABL,hl];split
   . simp only[List.mem_eraseDups,List.mem_flatMap,List.mem_cons,h]
   . exact h i j
theorem AKG {l:List Oper}{ks:Ks}{T U:List (List Nat)}(h : ∀i j,j∈T.getD i []↔j∈U.getD i [])(i:Nat):UF l ks T i=UF l ks U i:=by
 have e1:(T.getD i []).all (fun j=>decide (j<i))=(U.getD i []).all (fun j=>decide (j<i)):=by
  rw[Ka,Ee,Ee];exact⟨fun k j hj=>k j ((h i j).2 hj),fun k j hj=>k j ((h i j).1 hj)⟩
 have e2 : ∀j,(T.getD i []).contains j=(U.getD i []).contains j:=fun j=>by
  rw[Ka,gm,gm];exact h i j
 unfold UF;simp only[e1,e2]
def kL (l:List Oper)(ks:Ks):Bool:=(List.range l.length).all (UF l ks (AE0 l))
theorem Yj {l:List Oper}{ks:Ks}(h:kL l ks=true):LP l ks=true:=by
 unfold kL at h;unfold LP;have e:UF l ks (Zb l)=UF l ks (AE0 l):=funext fun i=>AKG (AE1 l [] [] rfl fun _ _=>Iff.rfl) i
 rw[e];exact h
theorem AI4 {P:Program}{ops:List Oper}{K:St->Prop}{ks:List (Option Nat×Option Nat)}{s:St}(hc:kL ops ks=true)(h:K s):AK P ops K [] ks s:=AI3 (Yj hc) h
structure AH (P:Program)(ops:List Oper)(K:St->Prop)(l:List Oper)(s:St):Prop where
 out:EA P ops K l s
structure AJ (P:Program)(ops:List Oper)(K:St->Prop)(l:List Oper)(ks:List (Option Nat×Option Nat))(s:St):Prop where
 out:AK P ops K l ks s
section
variable {P:Program} {ops:List Oper}
theorem AH.MZ {m:Mo}{id:Nat}{K:Exit->St->Prop}{s:St}(h:AH P ops (K .normal) ops s):AW m P (.region id ops.toArray false) K s:=AW.region h.out
theorem AH.done {K:St->Prop}{s:St}(h:K s):AH P ops K [] s:=⟨h⟩
theorem AH.h {K:St->Prop}{ds:List (Option Nat)}(hd:ops.map (·.dst)=ds)(n:Nat)(b:Bool){l l':List Oper}{s s':St}(hr:KP P ds n b l s=some (l',s'))(h:AH P ops K l' s'):AH P ops K l s:=⟨jm hd n b hr h.out⟩
theorem AH.c2 {K:St->Prop}{o:Oper}{r:List Oper}{s:St}{f:FuncId}{Bx:List V}{res:V}(Cs:AC P f Bx res)(Au:GI P f=true)(hg:gate ops s.t o.guard=some true)(hc:Fv (ev s.t) o.op=some (f,Bx))(h:AH P ops K r (s.step o.dst res none)):AH P ops K (o::r) s:=⟨zN Cs Au hg hc h.out⟩
theorem AJ.MZ {m:Mo}{id:Nat}{K:Exit->St->Prop}{s:St}(hm:P.follows .mixedOrders=true)(hd:m.rd=none\/TV ops=true)(h:AJ P ops (K .normal) ops [] s):AW m P (.region id ops.toArray true) K s:=AW.AKc hm hd h.out
theorem AJ.done {K:St->Prop}{ks:List (Option Nat×Option Nat)}{s:St}(hc:kL ops ks=true)(h:K s):AJ P ops K [] ks s:=⟨AI4 hc h⟩
theorem AJ.h {K:St->Prop}{ds:List (Option Nat)}(hd:ops.map (·.dst)=ds)(n:Nat)(b:Bool){l l':List Oper}{ks KG:List (Option Nat×Option Nat)}{s s':St}(hr:Qg P ds n b l ks s=some (l',KG,s'))(h:AJ P ops K l' KG s'):AJ P ops K l ks s:=⟨jg hd n b hr h.out⟩
theorem AJ.c2 {K:St->Prop}{o:Oper}{r:List Oper}{ks:List (Option Nat×Option Nat)}{s:St}{f:FuncId}{Bx:List V}{res:V}(Cs:AC P f Bx res)(Au:GI P f=true)(hg:gate ops s.t o.guard=some true)(hc:Fv (ev s.t) o.op=some (f,Bx))(h:AJ P ops K r (ks++[(none,none)]) (s.step o.dst res none)):AJ P ops K (o::r) ks s:=⟨AI2 Cs Au hg hc h.out⟩
end
theorem CC {p q:Prop}(h:q)(k:q->p:=by
 intro h;(with_reducible first|refine AW.seq ?_|refine AW.block ?_|refine G7 ?_|refine OM ?_|refine AW.ret ?_|refine Pu ?_|refine Pp ?_|refine AH.done ?_|refine AW.skip ?_|refine AW.exit ?_|refine Pt ?_|refine NZ ?_|refine AW.label ?_|refine AW.scope ?_|refine Pr ?_|refine Ps ?_|refine Pq ?_|refine AH.MZ ?_|refine AJ.MZ GZ (.inl rfl) ?_|refine AJ.MZ GZ (.inr (by decide)) ?_|refine AJ.done (by kernel_rfl) ?_|refine Po (by decide) ?_)
 repeat (with_reducible first|refine AW.seq ?_|refine AW.block ?_|refine G7 ?_|refine OM ?_|refine AW.ret ?_|refine Pu ?_|refine Pp ?_|refine AH.done ?_|refine AW.skip ?_|refine AW.exit ?_|refine Pt ?_|refine NZ ?_|refine AW.label ?_|refine AW.scope ?_|refine Pr ?_|refine Ps ?_|refine Pq ?_|refine AH.MZ ?_|refine AJ.MZ GZ (.inl rfl) ?_|refine AJ.MZ GZ (.inr (by decide)) ?_|refine AJ.done (by kernel_rfl) ?_|refine Po (by decide) ?_)
 with_reducible exact h):p:=k h
def CJ (_:Nat):Prop:=True
theorem CJ.mk (n:Nat):CJ n:=trivial
theorem AH.N6 {m:Mo}{P:Program}{id:Nat}{ops:List Oper}{K:Exit->St->Prop}{s:St}{n:Nat}(_:CJ n)(_:Nat.beq id n=false)(h:AH P ops (K .normal) ops s):AW m P (.region id ops.toArray false) K s:=AH.MZ h
theorem AJ.N6 {m:Mo}{P:Program}{id:Nat}{ops:List Oper}{K:Exit->St->Prop}{s:St}{n:Nat}(_:CJ n)(_:Nat.beq id n=false)(hm:P.follows .mixedOrders=true)(hd:m.rd=none\/TV ops=true)(h:AJ P ops (K .normal) ops [] s):AW m P (.region id ops.toArray true) K s:=AJ.MZ hm hd h
theorem PN {p q:Prop}{n:Nat}(m:CJ n)(h:q)(k:CJ n->q->p:=by
 intro m h;(with_reducible first|refine AW.seq ?_|refine AW.block ?_|refine G7 ?_|refine OM ?_|refine AW.ret ?_|refine Pu ?_|refine Pp ?_|refine AH.done ?_|refine AW.skip ?_|refine AW.exit ?_|refine Pt ?_|refine NZ ?_|refine AW.label ?_|refine AW.scope ?_|refine Pr ?_|refine Ps ?_|refine Pq ?_|refine AH.N6 m rfl ?_|refine AJ.N6 m rfl GZ (.inl rfl) ?_|refine AJ.N6 m rfl GZ (.inr (by decide)) ?_|refine AJ.done (by kernel_rfl) ?_|refine Po (by decide) ?_)
 repeat (with_reducible first|refine AW.seq ?_|refine AW.block ?_|refine G7 ?_|refine OM ?_|refine AW.ret ?_|refine Pu ?_|refine Pp ?_|refine AH.done ?_|refine AW.skip ?_|refine AW.exit ?_|refine Pt ?_|refine NZ ?_|refine AW.label ?_|refine AW.scope ?_|refine Pr ?_|refine Ps ?_|refine Pq ?_|refine AH.N6 m rfl ?_|refine AJ.N6 m rfl GZ (.inl rfl) ?_|refine AJ.N6 m rfl GZ (.inr (by decide)) ?_|refine AJ.done (by kernel_rfl) ?_|refine Po (by decide) ?_)
 with_reducible exact h):p:=k m h
theorem Bt {F p q:Prop}(f:F)(h:q)(k:F->q->p:=by
 intro f h;first
 | (with_reducible refine AH.h (by simp only[List.append_eq,List.cons_append,List.nil_append,List.map_cons,List.map_nil];exact rfl) 4 true (by as_aux_lemma=>(simp (disch:=first|assumption|(simp<;>fail)|omega) [KP,Of,wrap_i64,if_pos,if_neg,List.replicate_succ,f];first|exact rfl|exact⟨rfl,rfl⟩)) ?_)
 | (with_reducible refine AJ.h (by simp only[List.append_eq,List.cons_append,List.nil_append,List.map_cons,List.map_nil];exact rfl) 4 true (by as_aux_lemma=>(simp (disch:=first|assumption|(simp<;>fail)|omega) [Qg,Of,Ef.ks,wrap_i64,if_pos,if_neg,List.replicate_succ,f];first|exact rfl|exact⟨rfl,rfl,rfl⟩)) ?_)
 with_reducible exact h):p:=k f h
theorem A4 {F p q:Prop}{P:Program}{g:FuncId}{args:List V}{res:V}(f:F)(Cs:AC P g args res)(h:q)(k:F->AC P g args res->q->p:=by
 intro f c h;(with_reducible first|refine AH.c2 c (by first|(simp only[f];done)|kernel_rfl) ?_ ?_ ?_|refine AJ.c2 c (by first|(simp only[f];done)|kernel_rfl) ?_ ?_ ?_)
 focus (simp[gate,f]<;>fail)
 focus (simp (disch:=first|assumption|(simp<;>fail)|omega) [Fv,wrap_i64,f]<;>fail)
 (simp only[St.step,St.put,CG];with_reducible exact h)):p:=k f Cs h
theorem Bq {F p:Prop}(f:F)(k:F->p:=by
 intro f;with_reducible show Aj _ _ _ _ _
 simp (disch:=first|assumption|(simp<;>fail)|omega) [Aj,AV,AZ,Aa,V.AP,V.AO,AU,wrap_i64, *]<;>fail):p:=k f
theorem Bi {F p q:Prop}(f:F)(h:q)(k:F->q->p:=by
 intro f h;first
 | ((with_reducible refine kO ?_ ?_);focus (simp[ev,f];done))
 | ((with_reducible refine kN ?_ ?_);focus (simp[ev,f];done))
 with_reducible exact h):p:=k f h
def CI (_:Bool):Prop:=True
theorem CI.t:CI true:=trivial
theorem CI.f:CI false:=trivial
theorem CI.mk (b:Bool):CI b:=trivial
theorem UG {m:Mo}{P:Program}{K:Exit->St->Prop}{s:St}{c:Operand}{d d':Code}{b:Bool}{v:V}(hv:ev s.t c=v)(hb:v=.c (.bool b))(hl:CI b)(h:b=true->AW m P d K s)(h':b=false->AW m P d' K s):AW m P (.cond c d d') K s:=AW.cond (by rw[hv,hb];exact⟨h,h'⟩)
def HK (ops:List Oper)(t:List V):Option (Nat×Bool)->V
 | none=>.any
 | some (j,_)=>match (ops[j]?).bind (·.dst)with
   | some d=>t.getD d .any
   | none=>.any
def Dc (ops:List Oper)(t:List V)(b:Bool):Option (Nat×Bool)->List V
 | none=>t
 | some (j,_)=>match (ops[j]?).bind (·.dst)with
   | some d=>t.set d (.c (.bool b))
   | none=>t
theorem VH {ops:List Oper}{s:St}{g:Option (Nat×Bool)}{b b':Bool}{v:V}(hv:HK ops s.t g=v)(hb:v=.c (.bool b))(e:b=b'):(⟨Dc ops s.t b' g,s.h⟩:St)=s:=by
 subst hb;unfold HK at hv;unfold Dc;cases g with
 | none=>rfl
 | some p =>
   obtain⟨j,w⟩:=p;simp only at hv ⊢;cases hd:(ops[j]?).bind (·.dst)with
   | none=>rfl
   | some d=>rw[hd]at hv;exact AUR hv e
theorem AJF {P:Program}{K:St->Prop}{ops:List Oper}{o:Oper}{r:List Oper}{s:St}{b:Bool}{v:V}{t1 t2:List V}(hv:HK ops s.t o.guard=v)(hb:v=.c (.bool b))(hl:CI b)(e1:Dc ops s.t true o.guard=t1)(e2:Dc ops s.t false o.guard=t2)(h1:b=true->EA P ops K (o::r) ⟨t1,s.h⟩)(h2:b=false->EA P ops K (o::r) ⟨t2,s.h⟩):EA P ops K (o::r) s:=by
 subst e1 e2;cases e:b with
 | true=>have:=h1 e;rwa [VH hv hb e]at this
 | false=>have:=h2 e;rwa [VH hv hb e]at this
theorem AH.Js {P:Program}{K:St->Prop}{ops:List Oper}{o:Oper}{r:List Oper}{s:St}{b:Bool}{v:V}{t1 t2:List V}(hv:HK ops s.t o.guard=v)(hb:v=.c (.bool b))(hl:CI b)(e1:Dc ops s.t true o.guard=t1)(e2:Dc ops s.t false o.guard=t2)(h1:b=true->AH P ops K (o::r) ⟨t1,s.h⟩)(h2:b=false->AH P ops K (o::r) ⟨t2,s.h⟩):AH P ops K (o::r) s:=⟨AJF hv hb hl e1 e2 (fun e=>(h1 e).out) (fun e=>(h2 e).out)⟩
theorem AI6 {P:Program}{K:St->Prop}{ops:List Oper}{o:Oper}{r:List Oper}{ks:List (Option Nat×Option Nat)}{s:St}{b:Bool}{v:V}{t1 t2:List V}(hv:HK ops s.t o.guard=v)(hb:v=.c (.bool b))(hl:CI b)(e1:Dc ops s.t true o.guard=t1)(e2:Dc ops s.t false o.guard=t2)(h1:b=true->AK P ops K (o::r) ks ⟨t1,s.h⟩)(h2:b=false->AK P ops K (o::r) ks ⟨t2,s.h⟩):AK P ops K (o::r) ks s:=by
 subst e1 e2;cases e:b with
 | true=>have:=h1 e;rwa [VH hv hb e]at this
 | false=>have:=h2 e;rwa [VH hv hb e]at this
theorem AJ.Js {P:Program}{K:St->Prop}{ops:List Oper}{o:Oper}{r:List Oper}{ks:List (Option Nat×Option Nat)}{s:St}{b:Bool}{v:V}{t1 t2:List V}(hv:HK ops s.t o.guard=v)(hb:v=.c (.bool b))(hl:CI b)(e1:Dc ops s.t true o.guard=t1)(e2:Dc ops s.t false o.guard=t2)(h1:b=true->AJ P ops K (o::r) ks ⟨t1,s.h⟩)(h2:b=false->AJ P ops K (o::r) ks ⟨t2,s.h⟩):AJ P ops K (o::r) ks s:=⟨AI6 hv hb hl e1 e2 (fun e=>(h1 e).out) (fun e=>(h2 e).out)⟩
theorem B3 {F p q q':Prop}{b:Bool}(f:F)(h1:b=true->q)(h2:b=false->q')(k:F->(b=true->q)->(b=false->q')->p:=by
 intro f h1 h2;first
 | (with_reducible refine UG (by simp[ev,f];exact rfl) (by with_reducible exact rfl) (by(fail_if_success with_reducible exact CI.t);(fail_if_success with_reducible exact CI.f);exact CI.mk _) h1 h2)
 | (with_reducible refine AH.Js (by simp[HK,f];exact rfl) (by with_reducible exact rfl) (by(fail_if_success with_reducible exact CI.t);(fail_if_success with_reducible exact CI.f);exact CI.mk _) (by simp[Dc];exact rfl) (by simp[Dc];exact rfl) h1 h2)
 | (with_reducible refine AJ.Js (by simp[HK,f];exact rfl) (by with_reducible exact rfl) (by(fail_if_success with_reducible exact CI.t);(fail_if_success with_reducible exact CI.f);exact CI.mk _) (by simp[Dc];exact rfl) (by simp[Dc];exact rfl) h1 h2)):p:=k f h1 h2
theorem By {F p q q' c:Prop}[Decidable c](f:F)(h1:c->q)(h2 : ¬c->q')(k:F->(decide c=true->q)->(decide c=false->q')->p:=by
 intro f h1 h2;first
 | (with_reducible refine UG (by simp[ev,f];exact rfl) (by with_reducible exact rfl) (by(fail_if_success with_reducible exact CI.t);(fail_if_success with_reducible exact CI.f);exact CI.mk _) h1 h2)
 | (with_reducible refine AH.Js (by simp[HK,f];exact rfl) (by with_reducible exact rfl) (by(fail_if_success with_reducible exact CI.t);(fail_if_success with_reducible exact CI.f);exact CI.mk _) (by simp[Dc];exact rfl) (by simp[Dc];exact rfl) h1 h2)
 | (with_reducible refine AJ.Js (by simp[HK,f];exact rfl) (by with_reducible exact rfl) (by(fail_if_success with_reducible exact CI.t);(fail_if_success with_reducible exact CI.f);exact CI.mk _) (by simp[Dc];exact rfl) (by simp[Dc];exact rfl) h1 h2)):p:=k f (fun h=>h1 (of_decide_eq_true h)) fun h=>h2 (of_decide_eq_false h)
theorem Bz {F p q q':Prop}{c:Bool}(f:F)(h1:c=false->q)(h2:c=true->q')(k:F->((!c)=true->q)->((!c)=false->q')->p:=by
 intro f h1 h2;first
 | (with_reducible refine UG (by simp[ev,f];exact rfl) (by with_reducible exact rfl) (by(fail_if_success with_reducible exact CI.t);(fail_if_success with_reducible exact CI.f);exact CI.mk _) h1 h2)
 | (with_reducible refine AH.Js (by simp[HK,f];exact rfl) (by with_reducible exact rfl) (by(fail_if_success with_reducible exact CI.t);(fail_if_success with_reducible exact CI.f);exact CI.mk _) (by simp[Dc];exact rfl) (by simp[Dc];exact rfl) h1 h2)
 | (with_reducible refine AJ.Js (by simp[HK,f];exact rfl) (by with_reducible exact rfl) (by(fail_if_success with_reducible exact CI.t);(fail_if_success with_reducible exact CI.f);exact CI.mk _) (by simp[Dc];exact rfl) (by simp[Dc];exact rfl) h1 h2)):p:=k f (fun h=>h1 (by simpa using h)) fun h=>h2 (by simpa using h)
theorem B4 {F p q q' c:Prop}[Decidable c](f:F)(h1 : ¬c->q)(h2:c->q')(k:F->((!decide c)=true->q)->((!decide c)=false->q')->p:=by
 intro f h1 h2;first
 | (with_reducible refine UG (by simp[ev,f];exact rfl) (by with_reducible exact rfl) (by(fail_if_success with_reducible exact CI.t);(fail_if_success with_reducible exact CI.f);exact CI.mk _) h1 h2)
 | (with_reducible refine AH.Js (by simp[HK,f];exact rfl) (by with_reducible exact rfl) (by(fail_if_success with_reducible exact CI.t);(fail_if_success with_reducible exact CI.f);exact CI.mk _) (by simp[Dc];exact rfl) (by simp[Dc];exact rfl) h1 h2)
 | (with_reducible refine AJ.Js (by simp[HK,f];exact rfl) (by with_reducible exact rfl) (by(fail_if_success with_reducible exact CI.t);(fail_if_success with_reducible exact CI.f);exact CI.mk _) (by simp[Dc];exact rfl) (by simp[Dc];exact rfl) h1 h2)):p:=k f (fun h=>h1 (by simpa using h)) fun h=>h2 (by simpa using h)
theorem gx {α:Type}{l:List α}{k:Nat}{x:α}(h:l[k]?=some x):∀hx:k<l.length,l[k]'hx=x:=fun hx=>by rw[BP hx]at h;exact JW h
structure Tz (p:Prop):Prop where
 out:p
theorem rG {F C p q:Prop}(f:F)(c:C)(h:q)(k:F->C->q->p:=by
 intro f c h;first
 | (refine A4 f c.1 ?_;exact h)
 | (refine A4 f c.2.1 ?_;exact h)
 | (refine A4 f c.2.2.1 ?_;exact h)
 | (refine A4 f c.2.2.2.1 ?_;exact h)
 | (refine A4 f c.2.2.2.2.1 ?_;exact h)
 | (refine A4 f c.2.2.2.2.2.1 ?_;exact h)
 | (refine A4 f c.2.2.2.2.2.2.1 ?_;exact h)
 | (refine A4 f c.2.2.2.2.2.2.2.1 ?_;exact h)):p:=k f c h
theorem wz {F C p:Prop}(f:F)(c:C)(k:F->C->p:=by
 intro ff cc;repeat any_goals (first|refine CC ?_|exact Bq ff|refine Bt ff ?_|refine rG ff cc ?_|refine Bi ff ?_|((first|refine By ff ?_ ?_|refine B4 ff ?_ ?_|refine Bz ff ?_ ?_|refine B3 ff ?_ ?_)<;>intro h<;>try (exfalso;first|omega|contradiction)))):p:=k f c
theorem wy {F C p q:Prop}(f:F)(c:C)(h:Tz q)(k:F->C->Tz q->p:=by
 intro ff cc hh;repeat any_goals (first|refine CC ?_|exact Bq ff|refine Bt ff ?_|refine rG ff cc ?_|refine Bi ff ?_|((first|refine By ff ?_ ?_|refine B4 ff ?_ ?_|refine Bz ff ?_ ?_|refine B3 ff ?_ ?_)<;>intro h<;>try (exfalso;first|omega|contradiction)))
 with_reducible exact hh.out):p:=k f c h
theorem wu {F C p q:Prop}{n:Nat}(m:CJ n)(f:F)(c:C)(h:Tz q)(k:CJ n->F->C->Tz q->p:=by
 intro mm ff cc hh;repeat any_goals (first|refine PN mm ?_|exact Bq ff|refine Bt ff ?_|refine rG ff cc ?_|refine Bi ff ?_|((first|refine By ff ?_ ?_|refine B4 ff ?_ ?_|refine Bz ff ?_ ?_|refine B3 ff ?_ ?_)<;>intro h<;>try (exfalso;first|omega|contradiction)))
 with_reducible exact hh.out):p:=k m f c h
@[simp] theorem AYf : Ct AD 119=some (true,4) :=by kernel_rfl
@[simp] theorem AbW : DR AD 119=some [.c (.str ⟨#[]⟩),.c (.int .i64 0),.c (.bool false),.c (.bool false)] :=by kernel_rfl
@[simp] theorem Aa5 : Fx AD 119=some fun i=>([(0,1),(1,1),(2,1),(3,1)]:List (Nat×Nat))[i]? :=by kernel_rfl
@[simp] theorem AZe : CE AD 119 0=some (0,1,false) :=by kernel_rfl
@[simp] theorem AZf : CE AD 119 1=some (1,1,false) :=by kernel_rfl
@[simp] theorem AZg : CE AD 119 2=some (2,1,false) :=by kernel_rfl
@[simp] theorem AZh : CE AD 119 3=some (3,1,false) :=by kernel_rfl
@[simp] theorem ty1_124 : Ct AD 124=some (true,3) :=by kernel_rfl
@[simp] theorem tyz_124 : DR AD 124=some [.c (.int .i64 0),.c (.int .i64 0),.c (.int .i64 0)] :=by kernel_rfl
@[simp] theorem typ_124 : Fx AD 124=some fun i=>([(0,1),(1,1),(2,1)]:List (Nat×Nat))[i]? :=by kernel_rfl
@[simp] theorem tyf_124_0 : CE AD 124 0=some (0,1,false) :=by kernel_rfl
@[simp] theorem tyf_124_1 : CE AD 124 1=some (1,1,false) :=by kernel_rfl
@[simp] theorem tyf_124_2 : CE AD 124 2=some (2,1,false) :=by kernel_rfl
@[simp] theorem AYg : Ct AD 128=some (false,1) :=by kernel_rfl
@[simp] theorem AbX : DR AD 130=some [.c (.str ⟨#[]⟩),.c (.int .i64 0),.c .Cn] :=by kernel_rfl
@[simp] theorem Aa6 : Fx AD 130=some fun i=>([(0,1),(1,1),(2,1)]:List (Nat×Nat))[i]? :=by kernel_rfl
@[simp] theorem AZi : CE AD 130 1=some (1,1,false) :=by kernel_rfl
@[simp] theorem AZj : CE AD 130 2=some (2,1,false) :=by kernel_rfl
@[simp] theorem AYh : Ct AD 131=some (true,39) :=by kernel_rfl
@[simp] theorem AbY : DR AD 131=some [.c (.str ⟨#[]⟩),.c (.int .i64 0),.c .Cn,.c (.str ⟨#[]⟩),.c (.int .i64 0),.c .Cn,.c (.str ⟨#[]⟩),.c (.int .i64 0),.c .Cn,.c (.str ⟨#[]⟩),.c (.int .i64 0),.c .Cn,.c (.str ⟨#[]⟩),.c (.int .i64 0),.c .Cn,.c (.str ⟨#[]⟩),.c (.int .i64 0),.c .Cn,.c (.str ⟨#[]⟩),.c (.int .i64 0),.c .Cn,.c (.str ⟨#[]⟩),.c (.int .i64 0),.c .Cn,.c (.str ⟨#[]⟩),.c (.int .i64 0),.c .Cn,.c (.str ⟨#[]⟩),.c (.int .i64 0),.c .Cn,.c (.str ⟨#[]⟩),.c (.int .i64 0),.c .Cn,.c (.str ⟨#[]⟩),.c (.int .i64 0),.c .Cn,.c (.str ⟨#[]⟩),.c (.int .i64 0),.c .Cn] :=by kernel_rfl
@[simp] theorem Aa7 : Fx AD 131=some fun i=>some (i * 3,3) :=by kernel_rfl
@[simp] theorem AZB : Mg AD 131=some (13,3,true) :=by kernel_rfl
@[simp] theorem AbZ : DR AD 134=some [.c (.str ⟨#[]⟩),.c (.int .i64 0),.c .Cn,.c (.str ⟨#[]⟩),.c (.int .i64 0),.c .Cn,.c (.str ⟨#[]⟩),.c (.int .i64 0),.c .Cn,.c (.str ⟨#[]⟩),.c (.int .i64 0),.c .Cn,.c (.str ⟨#[]⟩),.c (.int .i64 0),.c .Cn,.c (.str ⟨#[]⟩),.c (.int .i64 0),.c .Cn,.c (.str ⟨#[]⟩),.c (.int .i64 0),.c .Cn,.c (.str ⟨#[]⟩),.c (.int .i64 0),.c .Cn,.c (.str ⟨#[]⟩),.c (.int .i64 0),.c .Cn,.c (.str ⟨#[]⟩),.c (.int .i64 0),.c .Cn,.c (.str ⟨#[]⟩),.c (.int .i64 0),.c .Cn,.c (.str ⟨#[]⟩),.c (.int .i64 0),.c .Cn,.c (.str ⟨#[]⟩),.c (.int .i64 0),.c .Cn,.c (.int .i64 0)] :=by kernel_rfl
@[simp] theorem Aa8 : Fx AD 134=some fun i=>([(0,39),(39,1)]:List (Nat×Nat))[i]? :=by kernel_rfl
@[simp] theorem AZk : CE AD 134 0=some (0,39,true) :=by kernel_rfl
@[simp] theorem AZl : CE AD 134 1=some (39,1,false) :=by kernel_rfl
@[simp] theorem AYj : Ct AD 137=some (false,1) :=by kernel_rfl
@[simp] theorem Aba : DR AD 138=some [.c (.int .i64 0),.c (.int .i64 0),.c (.int .i64 0),.c (.int .i64 0)] :=by kernel_rfl
@[simp] theorem Aa9 : Fx AD 138=some fun i=>some (i * 1,1) :=by kernel_rfl
@[simp] theorem AZC : Mg AD 138=some (4,1,false) :=by kernel_rfl
@[simp] theorem AYk : Ct AD 140=some (false,1) :=by kernel_rfl
@[simp] theorem AYl : Ct AD 141=some (true,13) :=by kernel_rfl
@[simp] theorem Abb : DR AD 141=some [.c .Cn,.c .Cn,.c .Cn,.c .Cn,.c .Cn,.c .Cn,.c .Cn,.c .Cn,.c .Cn,.c .Cn,.c .Cn,.c .Cn,.c .Cn] :=by kernel_rfl
@[simp] theorem AbA : Fx AD 141=some fun i=>some (i * 1,1) :=by kernel_rfl
@[simp] theorem AZD : Mg AD 141=some (13,1,false) :=by kernel_rfl
@[simp] theorem Abc : DR AD 143=some [.full [],.full [],.c (.int .i64 0),.c (.int .i64 0),.c (.int .i64 0),.c (.int .i64 0),.c (.int .i64 0),.c (.int .i64 0),.c (.int .i64 0),.c (.int .i64 0),.c (.int .i64 0),.c (.int .i64 0),.c (.int .i64 0),.c (.int .i64 0),.c (.int .i64 0),.c (.int .i64 0),.c (.int .i64 0),.c (.int .i64 0),.c (.int .i64 0),.c (.int .i64 0),.c (.int .i64 0),.c (.int .i64 0),.full [],.c (.int .i64 0),.c (.int .i64 0),.c (.int .i64 0),.c (.int .i64 0),.any,.c .Cn,.c .Cn,.c .Cn,.c .Cn,.c .Cn,.c .Cn,.c .Cn,.c .Cn,.c .Cn,.c .Cn,.c .Cn,.c .Cn,.c .Cn] :=by kernel_rfl
@[simp] theorem AbB : Fx AD 143=some fun i=>([(0,22),(22,1),(23,4),(27,1),(28,13)]:List (Nat×Nat))[i]? :=by kernel_rfl
@[simp] theorem AZm : CE AD 143 0=some (0,22,true) :=by kernel_rfl
@[simp] theorem AZn : CE AD 143 1=some (22,1,false) :=by kernel_rfl
@[simp] theorem AZo : CE AD 143 2=some (23,4,true) :=by kernel_rfl
@[simp] theorem AZp : CE AD 143 3=some (27,1,false) :=by kernel_rfl
@[simp] theorem AZq : CE AD 143 4=some (28,13,true) :=by kernel_rfl
@[simp] theorem Aat : LG AD 168=true :=by kernel_rfl
@[simp] theorem AZO : Dd AD 168=some (173,2,16) :=by kernel_rfl
@[simp] theorem AYm : Ct AD 169=some (true,13) :=by kernel_rfl
@[simp] theorem Abd : DR AD 169=some [.full [],.full [],.full [],.full [],.full [],.full [],.full [],.full [],.full [],.full [],.full [],.full [],.full []] :=by kernel_rfl
@[simp] theorem AbC : Fx AD 169=some fun i=>some (i * 1,1) :=by kernel_rfl
@[simp] theorem AZE : Mg AD 169=some (13,1,false) :=by kernel_rfl
@[simp] theorem AYn : Ct AD 171=some (false,1) :=by kernel_rfl
@[simp] theorem AYo : Ct AD 173=some (true,2) :=by kernel_rfl
@[simp] theorem Abe : DR AD 173=some [.c .Cn,.c (.bool false)] :=by kernel_rfl
@[simp] theorem AbD : Fx AD 173=some fun i=>([(0,1),(1,1)]:List (Nat×Nat))[i]? :=by kernel_rfl
@[simp] theorem AZr : CE AD 173 0=some (0,1,false) :=by kernel_rfl
@[simp] theorem AZs : CE AD 173 1=some (1,1,false) :=by kernel_rfl
@[simp] theorem ty1_176 : Ct AD 176=some (false,1) :=by kernel_rfl
@[simp] theorem tyz_176 : DR AD 176=some [.c .Cn] :=by kernel_rfl
@[simp] theorem Abf : DR AD 200=some [.c (.int .i64 0),.c (.int .i64 0),.c (.int .i64 0),.c (.int .i64 0),.c (.int .i64 0),.c (.int .i64 0),.c (.int .i64 0),.c (.int .i64 0)] :=by kernel_rfl
@[simp] theorem AbE : Fx AD 200=some fun i=>some (i * 1,1) :=by kernel_rfl
@[simp] theorem AZF : Mg AD 200=some (8,1,false) :=by kernel_rfl
@[simp] theorem AYp : Ct AD 201=some (true,64) :=by kernel_rfl
@[simp] theorem AHN : DR AD 201=some [.c (.int .i64 0),.c (.int .i64 0),.c (.int .i64 0),.c (.int .i64 0),.c (.int .i64 0),.c (.int .i64 0),.c (.int .i64 0),.c (.int .i64 0),.c (.int .i64 0),.c (.int .i64 0),.c (.int .i64 0),.c (.int .i64 0),.c (.int .i64 0),.c (.int .i64 0),.c (.int .i64 0),.c (.int .i64 0),.c (.int .i64 0),.c (.int .i64 0),.c (.int .i64 0),.c (.int .i64 0),.c (.int .i64 0),.c (.int .i64 0),.c (.int .i64 0),.c (.int .i64 0),.c (.int .i64 0),.c (.int .i64 0),.c (.int .i64 0),.c (.int .i64 0),.c (.int .i64 0),.c (.int .i64 0),.c (.int .i64 0),.c (.int .i64 0),.c (.int .i64 0),.c (.int .i64 0),.c (.int .i64 0),.c (.int .i64 0),.c (.int .i64 0),.c (.int .i64 0),.c (.int .i64 0),.c (.int .i64 0),.c (.int .i64 0),.c (.int .i64 0),.c (.int .i64 0),.c (.int .i64 0),.c (.int .i64 0),.c (.int .i64 0),.c (.int .i64 0),.c (.int .i64 0),.c (.int .i64 0),.c (.int .i64 0),.c (.int .i64 0),.c (.int .i64 0),.c (.int .i64 0),.c (.int .i64 0),.c (.int .i64 0),.c (.int .i64 0),.c (.int .i64 0),.c (.int .i64 0),.c (.int .i64 0),.c (.int .i64 0),.c (.int .i64 0),.c (.int .i64 0),.c (.int .i64 0),.c (.int .i64 0)] :=by kernel_rfl
@[simp] theorem AHM : Fx AD 201=some fun i=>some (i * 8,8) :=by kernel_rfl
@[simp] theorem AZG : Mg AD 201=some (8,8,true) :=by kernel_rfl
@[simp] theorem AYq : Ct AD 219=some (true,2) :=by kernel_rfl
@[simp] theorem Abg : DR AD 219=some [.c (.str ⟨#[]⟩),.c (.int .i64 0)] :=by kernel_rfl
@[simp] theorem AbF : Fx AD 219=some fun i=>([(0,1),(1,1)]:List (Nat×Nat))[i]? :=by kernel_rfl
@[simp] theorem AZt : CE AD 219 0=some (0,1,false) :=by kernel_rfl
@[simp] theorem AZu : CE AD 219 1=some (1,1,false) :=by kernel_rfl
@[simp] theorem AYs : Ct AD 225=some (true,2) :=by kernel_rfl
@[simp] theorem Abh : DR AD 225=some [.c (.str ⟨#[]⟩),.c (.int .i64 0)] :=by kernel_rfl
@[simp] theorem AbG : Fx AD 225=some fun i=>([(0,1),(1,1)]:List (Nat×Nat))[i]? :=by kernel_rfl
@[simp] theorem AZv : CE AD 225 1=some (1,1,false) :=by kernel_rfl
@[simp] theorem AYt : Ct AD 229=some (true,5) :=by kernel_rfl
@[simp] theorem Abi : DR AD 229=some [.c (.int .i64 0),.c (.int .i64 0),.c (.int .i64 0),.c (.int .i64 0),.c (.int .i64 0)] :=by kernel_rfl
@[simp] theorem AbH : Fx AD 229=some fun i=>([(0,1),(1,1),(2,1),(3,1),(4,1)]:List (Nat×Nat))[i]? :=by kernel_rfl
@[simp] theorem AZw : CE AD 229 0=some (0,1,false) :=by kernel_rfl
@[simp] theorem AZx : CE AD 229 1=some (1,1,false) :=by kernel_rfl
@[simp] theorem AZy : CE AD 229 2=some (2,1,false) :=by kernel_rfl
@[simp] theorem AZz : CE AD 229 3=some (3,1,false) :=by kernel_rfl
@[simp] theorem AZ0 : CE AD 229 4=some (4,1,false) :=by kernel_rfl
@[simp] theorem AYv : Ct AD 233=some (true,3) :=by kernel_rfl
@[simp] theorem Abj : DR AD 233=some [.full [],.full [],.full []] :=by kernel_rfl
@[simp] theorem AbI : Fx AD 233=some fun i=>some (i * 1,1) :=by kernel_rfl
@[simp] theorem AZH : Mg AD 233=some (3,1,false) :=by kernel_rfl
@[simp] theorem AYw : Ct AD 234=some (true,3) :=by kernel_rfl
@[simp] theorem Abk : DR AD 234=some [.c (.int .i64 0),.c (.int .i64 0),.c (.int .i64 0)] :=by kernel_rfl
@[simp] theorem AZI : Mg AD 234=some (3,1,false) :=by kernel_rfl
@[simp] theorem AYx : Ct AD 246=some (false,1) :=by kernel_rfl
@[simp] theorem Abl : DR AD 246=some [.full []] :=by kernel_rfl
@[simp] theorem Aax : LG AD 246=true :=by kernel_rfl
@[simp] theorem AZS : Dd AD 246=some (249,2,16) :=by kernel_rfl
@[simp] theorem AYy : Ct AD 249=some (true,2) :=by kernel_rfl
@[simp] theorem Abm : DR AD 249=some [.c (.int .i64 0),.c (.int .i64 0)] :=by kernel_rfl
@[simp] theorem AbJ : Fx AD 249=some fun i=>([(0,1),(1,1)]:List (Nat×Nat))[i]? :=by kernel_rfl
@[simp] theorem AZ1 : CE AD 249 0=some (0,1,false) :=by kernel_rfl
@[simp] theorem AZ2 : CE AD 249 1=some (1,1,false) :=by kernel_rfl
@[simp] theorem AY0 : Ct AD 253=some (false,1) :=by kernel_rfl
@[simp] theorem Aay : LG AD 254=true :=by kernel_rfl
@[simp] theorem AZT : Dd AD 254=some (253,1,8) :=by kernel_rfl
@[simp] theorem AY1 : Ct AD 268=some (false,1) :=by kernel_rfl
@[simp] theorem Abo : DR AD 268=some [.c .Cn] :=by kernel_rfl
@[simp] theorem AY2 : Ct AD 280=some (true,6) :=by kernel_rfl
@[simp] theorem Abq : DR AD 280=some [.c (.str ⟨#[]⟩),.c (.str ⟨#[]⟩),.c (.str ⟨#[]⟩),.c (.str ⟨#[]⟩),.c (.str ⟨#[]⟩),.c (.str ⟨#[]⟩)] :=by kernel_rfl
@[simp] theorem AbM : Fx AD 280=some fun i=>some (i * 1,1) :=by kernel_rfl
@[simp] theorem AY3 : Ct AD 293=some (true,8) :=by kernel_rfl
@[simp] theorem Abr : DR AD 293=some [.c (.int .i64 0),.c (.int .i64 0),.c (.int .i64 0),.c (.int .i64 0),.c (.int .i64 0),.c (.int .i64 0),.c (.int .i64 0),.c (.int .i64 0)] :=by kernel_rfl
@[simp] theorem AbN : Fx AD 293=some fun i=>some (i * 4,4) :=by kernel_rfl
@[simp] theorem AZJ : Mg AD 293=some (2,4,true) :=by kernel_rfl
@[simp] theorem Abu : DR AD 303=some [.c (.int .i64 0),.c (.int .i64 0),.c (.int .i64 0),.c (.int .i64 0),.c (.int .i64 0)] :=by kernel_rfl
@[simp] theorem AbO : Fx AD 303=some fun i=>some (i * 1,1) :=by kernel_rfl
@[simp] theorem AZK : Mg AD 303=some (5,1,false) :=by kernel_rfl
end Go.Proofs.YtpodcjcajanldaaGreat
