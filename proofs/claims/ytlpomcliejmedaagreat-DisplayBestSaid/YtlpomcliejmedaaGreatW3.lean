/- Part of the proof of displayBest.proved. Conditions: none. -/
import Derived.Test.YtlpomcliejmedaaGreatW2
set_option linter.unusedVariables false
set_option linter.unusedSimpArgs false
set_option maxRecDepth 100000
set_option maxHeartbeats 16000000
open List renaming map_append→Fm,getD_eq_getElem?_getD→Bv,getElem?_eq_getElem→BE,getElem?_eq_none→M6,foldl_cons→Bw,all_eq_true→ES,contains_iff_mem→mR,eq_nil_of_length_eq_zero→Nr,length_append→Cp,length_cons→BA,length_nil→BO,take_of_length_le→Gl,map_cons→Ap,foldl_nil→CO,set_cons_zero→Ag,set_cons_succ→Ai,drop_eq_getElem_cons→D5,drop_of_length_le→FA,getElem?_eq_some_iff→Br,replicate→Aq,map_toArray→AMl,map_nil→BB,length_take→Fa
open Option.some renaming injEq→BL,inj→ML
open Prod.mk renaming injEq→Cr
open Bool renaming and_eq_true→Ak,eq_iff_iff→Oj
open Classical renaming byContradiction→Kn
open Nat renaming zero_add→Cz,lt_of_lt_of_le→H7,le_of_lt→LZ,le_refl→BN
open Go.Proofs.Tryz renaming prog→AF,func125→M9,func126→UG,ntmps126→Xp,results126→Xq,func72→JA,ntmps72→vF,results72→va,results342→ADT,results96→ADX
open Int renaming lt_tmod_of_pos→ft,tmod_lt_of_pos→aG
open Go.IntKind renaming i64→AZ
open Option renaming map_eq_some_iff→Ia
open Go.Region renaming wanted→FB
open Array renaming toList_inj→Gx,getElem?_eq_some_iff→DO,length_toList→FW,getElem?_toList→VZ
open Go.Deferred renaming ofValue→M5
open Go.Sem renaming run→HW,run_bind→Jt
open Go.Oper renaming wp→Er
open Go.Fence renaming wide→Cg
open Go.Addr renaming add→aD
open Go.Instr renaming fill→fi
open Go.Result renaming andThen_ok→Oo
open Go.Op renaming equal→Pt,equalIn→aP,operands→Bl
open Go.Builtin renaming copy_→tw,firstCells→fc,lenOf→tx,append_→aE,zeroCells→KN
open Go.Call renaming operands→Df
namespace Go.Proofs.YtlpomcliejmedaaGreat
open Go.RowKit Tryz
variable {m:Mo}{s:St}{o:Oper}{r:List Oper}{Bd:List V}{res:V}{fn:Func}{α:Type}{P:Program}{ops:List Oper}{K:Exit->St->Prop}{b:Bool}{v:V}{ty:TypeId}{cs:List V}{Ae:TypeId}{Bq:Nat}{Q:Exit->Act->World->Prop}{w:World}{acc:List (Option Tmp×Post)}{fin:List (Option Tmp×Post)->Prop}(k:Nat)
section
variable {P:Program} {ops:List Oper} {K:St->Prop}
def AK (P:Program)(ops:List Oper)(K:St->Prop)(l:List Oper)(ks:List (Option Nat×Option Nat))(s:St):Prop:=∀acc:List Ef,acc.map Ef.ks=ks->Ie P ops (λes s'=>Lk ops (es.map Ef.ks)=true/\K s') l acc s
theorem AW.AO9 {id:Nat}{K:Exit->St->Prop}(E:P.follows .mixedOrders=true)(B:m.rd=none\/Pb ops=true)(h:AK P ops (K .normal) ops [] s):AW m P (.region id ops.toArray true) K s:=AW.draw E B (h [] rfl)
theorem ANJ {ks:List (Option Nat×Option Nat)}(B:Lk ops ks=true)(h:K s):AK P ops K [] ks s:=λacc e=>by unfold Ie;rw[e];exact⟨B,h⟩
theorem ANH {ks:List (Option Nat×Option Nat)}{f:FuncId}(B:AC P f Bd res)(F:P.funcs[f]?=some fn)(hb:fn.body.isSome=true)(I:(fn.name == "runtime.NumGoroutine")=false)(G:BQ ops s.t o.guard=some true)(E:Ee (ev s.t) o.op=some (f,Bd))(h:AK P ops K r (ks++[(none,none)]) (s.step o.dst res none)):AK P ops K (o::r) ks s:=λacc e=>Xz B F hb I G E (h _ (by rw[Fm,e];rfl))
end
def LL (P:Program)(ds:List (Option Nat)):Nat->Bool->List Oper->St->Option (List Oper×St)
 | _,true,[],_=>none
 | _,false,[],s=>some ([],s)
 | 0,_,l,s=>some (l,s)
 | n+1,true,o::r,s=>match QE ds s.t o.guard with
   | some true=>match Ka o.op with
     | false=>match Qw P o s with
       | some s'=>LL P ds n false r s'
       | none=>none
     | true=>none
   | some false=>LL P ds n false r (s.put o.dst (.A7 []))
   | none=>none
 | n+1,false,o::r,s=>match o.guard with
   | some _=>some (o::r,s)
   | none=>match Ka o.op with
     | false=>match Qw P o s with
       | some s'=>LL P ds n false r s'
       | none=>none
     | true=>some (o::r,s)
section
variable {P:Program} {K:St->Prop} {ops:List Oper}
theorem oY {M:List (Option Nat)}(R:ops.map (·.dst)=M):∀(n:Nat) (b:Bool) {l G:List Oper} {s s':St},LL P M n b l s=some (G,s')->Eg P ops K G s'->Eg P ops K l s
 | n,true,[],G,s,s',h,B=>by simp[LL]at h
 | n,false,[],G,s,s',h,B=>by simp only[LL,BL,Cr]at h;obtain⟨rfl,rfl⟩:=h;exact B
 | 0,b,o::r,G,s,s',h,B=>by simp only[LL,BL,Cr]at h;obtain⟨rfl,rfl⟩:=h;exact B
 | n+1,true,o::r,G,s,s',h,B=>by
   subst R;unfold LL at h;rw[jG]at h;split at h;rename_i I;split at h;rename_i J;split at h;rename_i U E;have ih:=oY rfl n _ h B;unfold Qw at E;split at E;rename_i v t F;cases E;unfold Eg;refine IF I ?_;unfold RP;rw[YC J];simp only;rw[F];exact ih;cases E;cases h;cases h;rename_i I;unfold Eg;exact X8 I (oY rfl n _ h B);cases h
 | n+1,false,o::r,G,s,s',h,B=>by
   subst R;unfold LL at h;split at h;simp only[BL,Cr]at h;obtain⟨rfl,rfl⟩:=h;exact B;rename_i S;have I:BQ ops s.t o.guard=some true:=by rw[S];rfl
   split at h;rename_i J;split at h;rename_i U E;have ih:=oY rfl n _ h B;unfold Qw at E;split at E;rename_i v t F;cases E;unfold Eg;refine IF I ?_;unfold RP;rw[YC J];simp only;rw[F];exact ih;cases E;cases h;simp only[BL,Cr]at h;obtain⟨rfl,rfl⟩:=h;exact B
end
def SX (P:Program)(ds:List (Option Nat)):Nat->Bool->List Oper->List (Option Nat×Option Nat)->St->Option (List Oper×List (Option Nat×Option Nat)×St)
 | _,true,[],_,_=>none
 | _,false,[],ks,s=>some ([],ks,s)
 | 0,_,l,ks,s=>some (l,ks,s)
 | n+1,true,o::r,ks,s=>match QE ds s.t o.guard with
   | some true=>match Ka o.op with
     | false=>match Qv P o s with
       | some (e,s')=>SX P ds n false r (ks++[e.ks]) s'
       | none=>none
     | true=>none
   | some false=>SX P ds n false r (ks++[(none,none)]) (s.put o.dst (.A7 []))
   | none=>none
 | n+1,false,o::r,ks,s=>match o.guard with
   | some _=>some (o::r,ks,s)
   | none=>match Ka o.op with
     | false=>match Qv P o s with
       | some (e,s')=>SX P ds n false r (ks++[e.ks]) s'
       | none=>none
     | true=>some (o::r,ks,s)
section
variable {P:Program} {K:St->Prop} {ops:List Oper}
theorem ADu {ks:List (Option Nat×Option Nat)}{s E:St}{e:Ef}(I:BQ ops s.t o.guard=some true)(G:Ka o.op=false)(hs:Qv P o s=some (e,E))(ih:AK P ops K r (ks++[e.ks]) E):AK P ops K (o::r) ks s:=λacc F=>by
 unfold Qv at hs;split at hs;rename_i v t B;simp only[BL,Cr]at hs;obtain⟨rfl,rfl⟩:=hs;unfold Ie;refine IF I ?_;unfold iN;rw[YC G];simp only;rw[B];exact ih _ (by rw[Fm,F];rfl);cases hs
theorem ANL {ks:List (Option Nat×Option Nat)}(E:BQ ops s.t o.guard=some false)(ih:AK P ops K r (ks++[(none,none)]) (s.put o.dst (.A7 []))):AK P ops K (o::r) ks s:=λacc B=>by
 unfold Ie;exact X8 E (ih _ (by rw[Fm,B];rfl))
theorem oS {M:List (Option Nat)}(R:ops.map (·.dst)=M):∀(n:Nat) (b:Bool) {l F:List Oper} {ks E:List (Option Nat×Option Nat)} {s s':St},SX P M n b l ks s=some (F,E,s')->AK P ops K F E s'->AK P ops K l ks s
 | n,true,[],F,ks,E,s,s',h,B=>by simp[SX]at h
 | n,false,[],F,ks,E,s,s',h,B=>by simp only[SX,BL,Cr]at h;obtain⟨rfl,rfl,rfl⟩:=h;exact B
 | 0,b,o::r,F,ks,E,s,s',h,B=>by simp only[SX,BL,Cr]at h;obtain⟨rfl,rfl,rfl⟩:=h;exact B
 | n+1,true,o::r,F,ks,E,s,s',h,B=>by
   subst R;unfold SX at h;rw[jG]at h;split at h;rename_i G;split at h;rename_i I;split at h;rename_i e U J;exact ADu G I J (oS rfl n _ h B);cases h;cases h;rename_i G;exact ANL G (oS rfl n _ h B);cases h
 | n+1,false,o::r,F,ks,E,s,s',h,B=>by
   subst R;unfold SX at h;split at h;simp only[BL,Cr]at h;obtain⟨rfl,rfl,rfl⟩:=h;exact B;rename_i S;have G:BQ ops s.t o.guard=some true:=by rw[S];rfl
   split at h;rename_i I;split at h;rename_i e U J;exact ADu G I J (oS rfl n _ h B);cases h;simp only[BL,Cr]at h;obtain⟨rfl,rfl,rfl⟩:=h;exact B
def Fp (P:Program)(f:FuncId):Bool:=match P.funcs[f]? with
 | some fn=>fn.body.isSome && !(fn.name == "runtime.NumGoroutine")
 | none=>false
theorem P7 {f:FuncId}(h:Fp P f=true):∃fn,P.funcs[f]?=some fn/\fn.body.isSome=true/\(fn.name == "runtime.NumGoroutine")=false:=by
 unfold Fp at h;split at h;rename_i fn B;simp only[Ak,Bool.not_eq_true']at h;exact⟨fn,B,h.1,h.2⟩;cases h
theorem ADy {f:FuncId}(E:AC P f Bd res)(B:Fp P f=true)(M:BQ ops s.t o.guard=some true)(J:Ee (ev s.t) o.op=some (f,Bd))(h:Eg P ops K r (s.step o.dst res none)):Eg P ops K (o::r) s:=
 let ⟨_,F,G,I⟩:=P7 B
 oX E F G I M J h
theorem ANI {ks:List (Option Nat×Option Nat)}{f:FuncId}(E:AC P f Bd res)(B:Fp P f=true)(M:BQ ops s.t o.guard=some true)(J:Ee (ev s.t) o.op=some (f,Bd))(h:AK P ops K r (ks++[(none,none)]) (s.step o.dst res none)):AK P ops K (o::r) ks s:=
 let ⟨_,F,G,I⟩:=P7 B
 ANH E F G I M J h
theorem ABk {l:List α}{d:Nat}{v B:α}(h:l.getD d B=v)(E:d<l.length):l.set d v=l:=by
 have e:l[d]=v:=by
  rw[Bv,BE E]at h;simpa using h
 rw[<-e];exact List.set_getElem_self E
theorem AY8 {d:Nat}{b b':Bool}(B:s.t.getD d .any=.c (.bool b))(e:b=b'):(⟨s.t.set d (.c (.bool b')),s.h⟩:St)=s:=by
 subst e;have E:d<s.t.length:=Kn λh=>by
  rw[Bv,M6 (by omega)]at B;cases B
 rw[ABk B E]
end
def AJt (l:List Oper):List (List Nat):=l.foldl (λacc o=>acc++[((GL o).flatMap λj=>j::acc.getD j []).eraseDups]) []
theorem AFw (l:List α)(x d:α)(i:Nat):(l++[x]).getD i d=if i=l.length then x else l.getD i d:=by
 simp only[Bv];rcases Nat.lt_trichotomy i l.length with h|h|h
 rw[List.getElem?_append_left h,if_neg (by omega)];subst h;simp;rw[M6 (by simp;omega),M6 (by omega),if_neg (by omega)]
theorem AJu : ∀(l:List Oper) (A B:List (List Nat)),A.length=B.length->(∀i j,j∈A.getD i []↔j∈B.getD i [])->∀i j,j∈(l.foldl (λacc o=>acc++[(GL o).flatMap λj=>j::acc.getD j []]) A).getD i []↔j∈(l.foldl (λacc o=>acc++[((GL o).flatMap λj=>j::acc.getD j []).eraseDups]) B).getD i []
 | [],_,_,_,h=>h
 | o::l,A,B,E,h=>by
   simp only[Bw];refine AJu l _ _ (by simp[E]) λi j=>?_
   rw[AFw,AFw,E];split;simp only[List.mem_eraseDups,List.mem_flatMap,List.mem_cons,h];exact h i j
theorem AOa {l:List Oper}{ks:Ks}{T U:List (List Nat)}(h : ∀i j,j∈T.getD i []↔j∈U.getD i [])(i:Nat):WB l ks T i=WB l ks U i:=by
 have E:(T.getD i []).all (λj=>decide (j<i))=(U.getD i []).all (λj=>decide (j<i)):=by
  rw[Oj,ES,ES];exact⟨λk j B=>k j ((h i j).2 B),λk j B=>k j ((h i j).1 B)⟩
 have F : ∀j,(T.getD i []).contains j=(U.getD i []).contains j:=λj=>by
  rw[Oj,mR,mR];exact h i j
 unfold WB;simp only[E,F]
def pQ (l:List Oper)(ks:Ks):Bool:=(List.range l.length).all (WB l ks (AJt l))
theorem bl {l:List Oper}{ks:Ks}(h:pQ l ks=true):Lk l ks=true:=by
 unfold pQ at h;unfold Lk;have e:WB l ks (eI l)=WB l ks (AJt l):=funext λi=>AOa (AJu l [] [] rfl λ_ _=>Iff.rfl) i
 rw[e];exact h
theorem ANK {K:St->Prop}{ks:List (Option Nat×Option Nat)}(B:pQ ops ks=true)(h:K s):AK P ops K [] ks s:=ANJ (bl B) h
structure AH (P:Program)(ops:List Oper)(K:St->Prop)(l:List Oper)(s:St):Prop where
 out:Eg P ops K l s
structure AJ (P:Program)(ops:List Oper)(K:St->Prop)(l:List Oper)(ks:List (Option Nat×Option Nat))(s:St):Prop where
 out:AK P ops K l ks s
section
variable {P:Program} {ops:List Oper}
theorem AH.I2 {id:Nat}(h:AH P ops (K .normal) ops s):AW m P (.region id ops.toArray false) K s:=AW.region h.out
theorem AH.done {K:St->Prop}(h:K s):AH P ops K [] s:=⟨h⟩
theorem AH.h {K:St->Prop}{B:List (Option Nat)}(F:ops.map (·.dst)=B)(n:Nat)(b:Bool){l E:List Oper}{s s':St}(G:LL P B n b l s=some (E,s'))(h:AH P ops K E s'):AH P ops K l s:=⟨oY F n b G h.out⟩
theorem AH.c2 {K:St->Prop}{f:FuncId}(E:AC P f Bd res)(B:Fp P f=true)(G:BQ ops s.t o.guard=some true)(F:Ee (ev s.t) o.op=some (f,Bd))(h:AH P ops K r (s.step o.dst res none)):AH P ops K (o::r) s:=⟨ADy E B G F h.out⟩
theorem AJ.I2 {id:Nat}(E:P.follows .mixedOrders=true)(B:m.rd=none\/Pb ops=true)(h:AJ P ops (K .normal) ops [] s):AW m P (.region id ops.toArray true) K s:=AW.AO9 E B h.out
theorem AJ.done {K:St->Prop}{ks:List (Option Nat×Option Nat)}(B:pQ ops ks=true)(h:K s):AJ P ops K [] ks s:=⟨ANK B h⟩
theorem AJ.h {K:St->Prop}{E:List (Option Nat)}(G:ops.map (·.dst)=E)(n:Nat)(b:Bool){l F:List Oper}{ks B:List (Option Nat×Option Nat)}{s s':St}(I:SX P E n b l ks s=some (F,B,s'))(h:AJ P ops K F B s'):AJ P ops K l ks s:=⟨oS G n b I h.out⟩
theorem AJ.c2 {K:St->Prop}{ks:List (Option Nat×Option Nat)}{f:FuncId}(E:AC P f Bd res)(B:Fp P f=true)(G:BQ ops s.t o.guard=some true)(F:Ee (ev s.t) o.op=some (f,Bd))(h:AJ P ops K r (ks++[(none,none)]) (s.step o.dst res none)):AJ P ops K (o::r) ks s:=⟨ANI E B G F h.out⟩
end
theorem Eo {p q:Prop}(h:q)(k:q->p:=by
 intro h;(with_reducible first|refine AW.seq ?_|refine AW.block ?_|refine G3 ?_|refine MV ?_|refine AW.ret ?_|refine S7 ?_|refine S4 ?_|refine AH.done ?_|refine AW.skip ?_|refine AW.exit ?_|refine S6 ?_|refine RN ?_|refine AW.label ?_|refine AW.scope ?_|refine UY ?_|refine S5 ?_|refine UX ?_|refine AH.I2 ?_|refine AJ.I2 Fz (.inl rfl) ?_|refine AJ.I2 Fz (.inr (by decide)) ?_|refine AJ.done (by kernel_rfl) ?_|refine S3 (by decide) ?_)
 repeat (with_reducible first|refine AW.seq ?_|refine AW.block ?_|refine G3 ?_|refine MV ?_|refine AW.ret ?_|refine S7 ?_|refine S4 ?_|refine AH.done ?_|refine AW.skip ?_|refine AW.exit ?_|refine S6 ?_|refine RN ?_|refine AW.label ?_|refine AW.scope ?_|refine UY ?_|refine S5 ?_|refine UX ?_|refine AH.I2 ?_|refine AJ.I2 Fz (.inl rfl) ?_|refine AJ.I2 Fz (.inr (by decide)) ?_|refine AJ.done (by kernel_rfl) ?_|refine S3 (by decide) ?_)
 with_reducible exact h):p:=k h
theorem AH.Pj {id:Nat}{n:Nat}(_:KQ n)(_:Nat.beq id n=false)(h:AH P ops (K .normal) ops s):AW m P (.region id ops.toArray false) K s:=AH.I2 h
theorem AJ.Pj {id:Nat}{n:Nat}(_:KQ n)(_:Nat.beq id n=false)(E:P.follows .mixedOrders=true)(B:m.rd=none\/Pb ops=true)(h:AJ P ops (K .normal) ops [] s):AW m P (.region id ops.toArray true) K s:=AJ.I2 E B h
theorem Qu {p q:Prop}{n:Nat}(m:KQ n)(h:q)(k:KQ n->q->p:=by
 intro m h;(with_reducible first|refine AW.seq ?_|refine AW.block ?_|refine G3 ?_|refine MV ?_|refine AW.ret ?_|refine S7 ?_|refine S4 ?_|refine AH.done ?_|refine AW.skip ?_|refine AW.exit ?_|refine S6 ?_|refine RN ?_|refine AW.label ?_|refine AW.scope ?_|refine UY ?_|refine S5 ?_|refine UX ?_|refine AH.Pj m rfl ?_|refine AJ.Pj m rfl Fz (.inl rfl) ?_|refine AJ.Pj m rfl Fz (.inr (by decide)) ?_|refine AJ.done (by kernel_rfl) ?_|refine S3 (by decide) ?_)
 repeat (with_reducible first|refine AW.seq ?_|refine AW.block ?_|refine G3 ?_|refine MV ?_|refine AW.ret ?_|refine S7 ?_|refine S4 ?_|refine AH.done ?_|refine AW.skip ?_|refine AW.exit ?_|refine S6 ?_|refine RN ?_|refine AW.label ?_|refine AW.scope ?_|refine UY ?_|refine S5 ?_|refine UX ?_|refine AH.Pj m rfl ?_|refine AJ.Pj m rfl Fz (.inl rfl) ?_|refine AJ.Pj m rfl Fz (.inr (by decide)) ?_|refine AJ.done (by kernel_rfl) ?_|refine S3 (by decide) ?_)
 with_reducible exact h):p:=k m h
theorem De {F p q:Prop}(f:F)(h:q)(k:F->q->p:=by
 intro f h;first
 | (with_reducible refine AH.h (by simp only[List.append_eq,List.cons_append,List.nil_append,List.map_cons,List.map_nil];exact rfl) 4 true (by as_aux_lemma=>(simp (disch:=first|assumption|(simp<;>fail)|omega) [LL,QE,wrap_i64,if_pos,if_neg,List.replicate_succ,f];first|exact rfl|exact⟨rfl,rfl⟩)) ?_)
 | (with_reducible refine AJ.h (by simp only[List.append_eq,List.cons_append,List.nil_append,List.map_cons,List.map_nil];exact rfl) 4 true (by as_aux_lemma=>(simp (disch:=first|assumption|(simp<;>fail)|omega) [SX,QE,Ef.ks,wrap_i64,if_pos,if_neg,List.replicate_succ,f];first|exact rfl|exact⟨rfl,rfl,rfl⟩)) ?_)
 with_reducible exact h):p:=k f h
theorem BV {F p q:Prop}{g:FuncId}{args:List V}(f:F)(C9:AC P g args res)(h:q)(k:F->AC P g args res->q->p:=by
 intro f c h;(with_reducible first|refine AH.c2 c (by first|(simp only[f];done)|kernel_rfl) ?_ ?_ ?_|refine AJ.c2 c (by first|(simp only[f];done)|kernel_rfl) ?_ ?_ ?_)
 focus (simp[BQ,f]<;>fail)
 focus (simp (disch:=first|assumption|(simp<;>fail)|omega) [Ee,wrap_i64,f]<;>fail)
 (simp only[St.step,St.put,Bk];with_reducible exact h)):p:=k f C9 h
theorem Bt {F p:Prop}(f:F)(k:F->p:=by
 intro f;with_reducible show iK _ _ _ _ _
 simp (disch:=first|assumption|(simp<;>fail)|omega) [iK,DV,C0,DE,V.CP,V.CF,CJ,wrap_i64, *]<;>fail):p:=k f
theorem DI {F p q:Prop}(f:F)(h:q)(k:F->q->p:=by
 intro f h;first
 | ((with_reducible refine xE ?_ ?_);focus (simp[ev,f];done))
 | ((with_reducible refine xD ?_ ?_);focus (simp[ev,f];done))
 with_reducible exact h):p:=k f h
def D6 (_:Bool):Prop:=True
theorem D6.t:D6 true:=trivial
theorem D6.f:D6 false:=trivial
theorem D6.mk (b:Bool):D6 b:=trivial
theorem pS {c:Operand}{d B:Code}(F:ev s.t c=v)(hb:v=.c (.bool b))(G:D6 b)(h:b=true->AW m P d K s)(E:b=false->AW m P B K s):AW m P (.cond c d B) K s:=AW.cond (by rw[F,hb];exact⟨h,E⟩)
def N8 (ops:List Oper)(t:List V):Option (Nat×Bool)->V
 | none=>.any
 | some (j,_)=>match (ops[j]?).bind (·.dst)with
   | some d=>t.getD d .any
   | none=>.any
def Hn (ops:List Oper)(t:List V)(b:Bool):Option (Nat×Bool)->List V
 | none=>t
 | some (j,_)=>match (ops[j]?).bind (·.dst)with
   | some d=>t.set d (.c (.bool b))
   | none=>t
theorem sx {g:Option (Nat×Bool)}{b b':Bool}(B:N8 ops s.t g=v)(hb:v=.c (.bool b))(e:b=b'):(⟨Hn ops s.t b' g,s.h⟩:St)=s:=by
 subst hb;unfold N8 at B;unfold Hn;cases g with
 | none=>rfl
 | some p =>
   obtain⟨j,w⟩:=p;simp only at B ⊢;cases E:(ops[j]?).bind (·.dst)with
   | none=>rfl
   | some d=>rw[E]at B;exact AY8 B e
theorem ANS {K:St->Prop}{t1 t2:List V}(B:N8 ops s.t o.guard=v)(hb:v=.c (.bool b))(J:D6 b)(E:Hn ops s.t true o.guard=t1)(F:Hn ops s.t false o.guard=t2)(G:b=true->Eg P ops K (o::r) ⟨t1,s.h⟩)(I:b=false->Eg P ops K (o::r) ⟨t2,s.h⟩):Eg P ops K (o::r) s:=by
 subst E F;cases e:b with
 | true=>have:=G e;rwa [sx B hb e]at this
 | false=>have:=I e;rwa [sx B hb e]at this
theorem AH.VY {K:St->Prop}{t1 t2:List V}(J:N8 ops s.t o.guard=v)(hb:v=.c (.bool b))(I:D6 b)(B:Hn ops s.t true o.guard=t1)(E:Hn ops s.t false o.guard=t2)(F:b=true->AH P ops K (o::r) ⟨t1,s.h⟩)(G:b=false->AH P ops K (o::r) ⟨t2,s.h⟩):AH P ops K (o::r) s:=⟨ANS J hb I B E (λe=>(F e).out) (λe=>(G e).out)⟩
theorem ANM {K:St->Prop}{ks:List (Option Nat×Option Nat)}{t1 t2:List V}(B:N8 ops s.t o.guard=v)(hb:v=.c (.bool b))(J:D6 b)(E:Hn ops s.t true o.guard=t1)(F:Hn ops s.t false o.guard=t2)(G:b=true->AK P ops K (o::r) ks ⟨t1,s.h⟩)(I:b=false->AK P ops K (o::r) ks ⟨t2,s.h⟩):AK P ops K (o::r) ks s:=by
 subst E F;cases e:b with
 | true=>have:=G e;rwa [sx B hb e]at this
 | false=>have:=I e;rwa [sx B hb e]at this
theorem AJ.VY {K:St->Prop}{ks:List (Option Nat×Option Nat)}{t1 t2:List V}(J:N8 ops s.t o.guard=v)(hb:v=.c (.bool b))(I:D6 b)(B:Hn ops s.t true o.guard=t1)(E:Hn ops s.t false o.guard=t2)(F:b=true->AJ P ops K (o::r) ks ⟨t1,s.h⟩)(G:b=false->AJ P ops K (o::r) ks ⟨t2,s.h⟩):AJ P ops K (o::r) ks s:=⟨ANM J hb I B E (λe=>(F e).out) (λe=>(G e).out)⟩
theorem JC {F p q q' c:Prop}[Decidable c](f:F)(h1:c->q)(h2 : ¬c->q')(k:F->(decide c=true->q)->(decide c=false->q')->p:=by
 intro f h1 h2;first
 | (with_reducible refine pS (by simp[ev,f];exact rfl) (by with_reducible exact rfl) (by(fail_if_success with_reducible exact D6.t);(fail_if_success with_reducible exact D6.f);exact D6.mk _) h1 h2)
 | (with_reducible refine AH.VY (by simp[N8,f];exact rfl) (by with_reducible exact rfl) (by(fail_if_success with_reducible exact D6.t);(fail_if_success with_reducible exact D6.f);exact D6.mk _) (by simp[Hn];exact rfl) (by simp[Hn];exact rfl) h1 h2)
 | (with_reducible refine AJ.VY (by simp[N8,f];exact rfl) (by with_reducible exact rfl) (by(fail_if_success with_reducible exact D6.t);(fail_if_success with_reducible exact D6.f);exact D6.mk _) (by simp[Hn];exact rfl) (by simp[Hn];exact rfl) h1 h2)):p:=k f (λh=>h1 (of_decide_eq_true h)) λh=>h2 (of_decide_eq_false h)
theorem JD {F p q q':Prop}{c:Bool}(f:F)(h1:c=false->q)(h2:c=true->q')(k:F->((!c)=true->q)->((!c)=false->q')->p:=by
 intro f h1 h2;first
 | (with_reducible refine pS (by simp[ev,f];exact rfl) (by with_reducible exact rfl) (by(fail_if_success with_reducible exact D6.t);(fail_if_success with_reducible exact D6.f);exact D6.mk _) h1 h2)
 | (with_reducible refine AH.VY (by simp[N8,f];exact rfl) (by with_reducible exact rfl) (by(fail_if_success with_reducible exact D6.t);(fail_if_success with_reducible exact D6.f);exact D6.mk _) (by simp[Hn];exact rfl) (by simp[Hn];exact rfl) h1 h2)
 | (with_reducible refine AJ.VY (by simp[N8,f];exact rfl) (by with_reducible exact rfl) (by(fail_if_success with_reducible exact D6.t);(fail_if_success with_reducible exact D6.f);exact D6.mk _) (by simp[Hn];exact rfl) (by simp[Hn];exact rfl) h1 h2)):p:=k f (λh=>h1 (by simpa using h)) λh=>h2 (by simpa using h)
theorem JE {F p q q' c:Prop}[Decidable c](f:F)(h1 : ¬c->q)(h2:c->q')(k:F->((!decide c)=true->q)->((!decide c)=false->q')->p:=by
 intro f h1 h2;first
 | (with_reducible refine pS (by simp[ev,f];exact rfl) (by with_reducible exact rfl) (by(fail_if_success with_reducible exact D6.t);(fail_if_success with_reducible exact D6.f);exact D6.mk _) h1 h2)
 | (with_reducible refine AH.VY (by simp[N8,f];exact rfl) (by with_reducible exact rfl) (by(fail_if_success with_reducible exact D6.t);(fail_if_success with_reducible exact D6.f);exact D6.mk _) (by simp[Hn];exact rfl) (by simp[Hn];exact rfl) h1 h2)
 | (with_reducible refine AJ.VY (by simp[N8,f];exact rfl) (by with_reducible exact rfl) (by(fail_if_success with_reducible exact D6.t);(fail_if_success with_reducible exact D6.f);exact D6.mk _) (by simp[Hn];exact rfl) (by simp[Hn];exact rfl) h1 h2)):p:=k f (λh=>h1 (by simpa using h)) λh=>h2 (by simpa using h)
theorem gx {l:List α}{k:Nat}{x:α}(h:l[k]?=some x):∀B:k<l.length,l[k]'B=x:=λB=>by rw[BE B]at h;exact ML h
structure Sw (p:Prop):Prop where
 out:p
theorem pK {F C p q:Prop}(f:F)(c:C)(h:q)(k:F->C->q->p:=by
 intro f c h;first
 | (refine BV f c.1 ?_;exact h)
 | (refine BV f c.2.1 ?_;exact h)
 | (refine BV f c.2.2.1 ?_;exact h)
 | (refine BV f c.2.2.2.1 ?_;exact h)
 | (refine BV f c.2.2.2.2.1 ?_;exact h)
 | (refine BV f c.2.2.2.2.2.1 ?_;exact h)
 | (refine BV f c.2.2.2.2.2.2.1 ?_;exact h)
 | (refine BV f c.2.2.2.2.2.2.2.1 ?_;exact h)):p:=k f c h
theorem Du {F C p q:Prop}(f:F)(c:C)(h:Sw q)(k:F->C->Sw q->p:=by
 intro ff cc hh;first|refine Eo ?_|refine De ff ?_|refine pK ff cc ?_|refine DI ff ?_
 with_reducible exact hh.out):p:=k f c h
theorem Dv {F p q q' a b:Prop}(f:F)(h1:a->q)(h2:b->q')(k:F->(a->q)->(b->q')->p:=by
 intro ff h1 h2;first|exact JC ff h1 h2|exact JE ff h1 h2|exact JD ff h1 h2|exact JY ff h1 h2):p:=k f h1 h2
theorem Dw {p:Prop}(h:False:=by first|omega|contradiction):p:=h.elim
theorem wz {F C p:Prop}(f:F)(c:C)(k:F->C->p:=by
 intro ff cc;repeat any_goals (first|refine Eo ?_|exact Bt ff|refine De ff ?_|refine pK ff cc ?_|refine DI ff ?_|((first|refine JC ff ?_ ?_|refine JE ff ?_ ?_|refine JD ff ?_ ?_|refine JY ff ?_ ?_)<;>intro h<;>try (exfalso;first|omega|contradiction)))):p:=k f c
theorem wy {F C p q:Prop}(f:F)(c:C)(h:Sw q)(k:F->C->Sw q->p:=by
 intro ff cc hh;repeat any_goals (first|refine Eo ?_|exact Bt ff|refine De ff ?_|refine pK ff cc ?_|refine DI ff ?_|((first|refine JC ff ?_ ?_|refine JE ff ?_ ?_|refine JD ff ?_ ?_|refine JY ff ?_ ?_)<;>intro h<;>try (exfalso;first|omega|contradiction)))
 with_reducible exact hh.out):p:=k f c h
theorem wu {F C p q:Prop}{n:Nat}(m:KQ n)(f:F)(c:C)(h:Sw q)(k:KQ n->F->C->Sw q->p:=by
 intro mm ff cc hh;repeat any_goals (first|refine Qu mm ?_|exact Bt ff|refine De ff ?_|refine pK ff cc ?_|refine DI ff ?_|((first|refine JC ff ?_ ?_|refine JE ff ?_ ?_|refine JD ff ?_ ?_|refine JY ff ?_ ?_)<;>intro h<;>try (exfalso;first|omega|contradiction)))
 with_reducible exact hh.out):p:=k m f c h
def BG.row (g:BG):List C:=[.str g.name,.int .i64 g.w,.int .i64 g.h,.int .i64 g.d,.int .i64 g.Ey,.int .i64 g.attach]
def CR.row (p:CR):List C:=[.str p.name,.bool p.ext]
def Gv (l:List ByteArray):C:=.sl (l.map λn=>[.str n])
def Ek (l:List CR):C:=.sl (l.map CR.row)
def Bc.row (s:Bc):List C:=[.str s.name,Gv s.sizes,Ek s.parts,.int .i64 s.overlap]
def O8 (l:List BG):C:=.sl (l.map BG.row)
def MG (l:List Bc):C:=.sl (l.map Bc.row)
def Params.list (p:Params):List Int:=[p.Al,p.Gj,p.FD,p.rule,p.VH,p.Tp,p.Uf,p.TE,p.Zy,p.Zz,p.Z0,p.Qx,p.Qy,p.Q5,p.Qz,p.script,p.Qr,p.TD,p.RY,p.RO]
def AP.row (f:AP):List C:=O8 f.DR::MG f.C5::f.params.list.map (C.int .i64)
def AP.vs (f:AP):List V:=f.row.map V.c
def AV (l:List Int):C:=.sl (l.map λn=>[.int .i64 n])
structure AA where
 kind:Int
 name:ByteArray
 size:Int
 w:Int
 h:Int
 d:Int
 x:Int
 y:Int
 AE:List AA
 of_:Int
 src:List Int
mutual
def AA.row:AA->List C
 | ⟨k,n,s,w,h,d,x,y,AE,o,src⟩=>[.int .i64 k,.str n,.int .i64 s,.int .i64 w,.int .i64 h,.int .i64 d,.int .i64 x,.int .i64 y,.sl (AA.AG AE),.int .i64 o,AV src]
def AA.AG:List AA->List (List C)
 | []=>[]
 | b::l=>AA.row b::AA.AG l
end
def AA.zero:AA:=⟨0,⟨#[]⟩,0,0,0,0,0,0,[],0,[]⟩
def Hg (g:BG):V:=.agg (g.row.map V.c)
def Ao (b:AA):V:=.agg (b.row.map V.c)
def AR (n:Int):V:=.c (.int .i64 n)
def N7 (g:BG)(p:Int):AA:=⟨1,g.name,p,g.w+mx 0 g.Ey,g.h,g.d,0,0,[],0,[]⟩
theorem AJ6 : ∀(vs cs:List V) (pre:List V),cs.length=vs.length->E8 (pre++cs) pre.length vs=pre++vs
 | [],cs,pre,h=>by have:cs=[]:=(Nr (by simpa using h));subst this;simp[E8]
 | v::vs,c::cs,pre,h=>by
   simp only[E8];have:=AJ6 vs cs (pre++[v]) (by simpa using h);simp only[Cp,BA,BO,Cz,List.append_assoc,List.cons_append,List.nil_append]at this;rw[<-this];congr 1
   simp
theorem kz {vs cs:List V}(h:cs.length=vs.length):E8 cs 0 vs=vs:=by simpa using AJ6 vs cs [] h
section
variable (f:AP)
@[simp] theorem AP.Xf:f.vs.length=22:=by simp[AP.vs,AP.row,Params.list]
@[simp] theorem AP.ACP:f.vs.all V.one=true:=by simp[AP.vs,V.one]
@[simp] theorem AP.ACR:f.vs.take 22=f.vs:=Gl (by simp)
@[simp] theorem AP.ACN:f.vs[0]?=some (.c (O8 f.DR)):=rfl
@[simp] theorem AP.ACG (h:0<f.vs.length):f.vs[0]'h=.c (O8 f.DR):=rfl
@[simp] theorem AP.AL7:f.vs[1]?=some (.c (MG f.C5)):=rfl
@[simp] theorem AP.AL5 (h:1<f.vs.length):f.vs[1]'h=.c (MG f.C5):=rfl
@[simp] theorem AP.AL8:f.vs[2]?=some (.c (.int .i64 f.params.Al)):=rfl
@[simp] theorem AP.AL6 (h:2<f.vs.length):f.vs[2]'h=.c (.int .i64 f.params.Al):=rfl
@[simp] theorem AP.ACO:f.vs[3]?=some (.c (.int .i64 f.params.Gj)):=rfl
@[simp] theorem AP.ACI (h:3<f.vs.length):f.vs[3]'h=.c (.int .i64 f.params.Gj):=rfl
@[simp] theorem AP.Aad:f.vs[4]?=some (.c (.int .i64 f.params.FD)):=rfl
@[simp] theorem AP.AaV (h:4<f.vs.length):f.vs[4]'h=.c (.int .i64 f.params.FD):=rfl
@[simp] theorem AP.Aae:f.vs[5]?=some (.c (.int .i64 f.params.rule)):=rfl
@[simp] theorem AP.AaW (h:5<f.vs.length):f.vs[5]'h=.c (.int .i64 f.params.rule):=rfl
@[simp] theorem AP.AiF:f.vs[19]?=some (.c (.int .i64 f.params.TD)):=rfl
@[simp] theorem AP.Ah2 (h:19<f.vs.length):f.vs[19]'h=.c (.int .i64 f.params.TD):=rfl
@[simp] theorem AP.AiG:f.vs[20]?=some (.c (.int .i64 f.params.RY)):=rfl
@[simp] theorem AP.Ah3 (h:20<f.vs.length):f.vs[20]'h=.c (.int .i64 f.params.RY):=rfl
theorem Zq : ∀l:List C,V.CF (l.map V.c)=some (l.map V.c)
 | []=>rfl
 | c::l=>by simp[V.CF,V.CP,Zq l]
@[simp] theorem AP.tX:V.CF f.vs=some f.vs:=Zq f.row
theorem toCs_c : ∀l:List C,toCs (l.map V.c)=some l
 | []=>rfl
 | c::l=>by simp[toCs,toC,toCs_c l]
@[simp] theorem AP.ACS:toCs f.vs=some f.row:=toCs_c f.row
def Params.vs (p:Params):List V:=p.list.map λn=>V.c (.int .i64 n)
@[simp] theorem AP.AiJ (f:AP):(f.vs.drop 2).take 20=f.params.vs:=by simp[AP.vs,AP.row,Params.vs,Params.list]
@[simp] theorem Params.tX (p:Params):V.CF p.vs=some p.vs:=by
 have e:p.vs=(p.list.map (C.int .i64)).map V.c:=by simp[Params.vs]
 rw[e];exact Zq _
@[simp] theorem AP.tW (f:AP)(n:Nat):V.BI n f.vs=true:=by
 have : ∀l:List C,V.BI n (l.map V.c)=true:=by
  intro l;induction l with
  | nil=>rfl
  | cons c l ih=>simp[V.BI,V.A8,ih]
 exact this f.row
@[simp] theorem Params.tW (p:Params)(n:Nat):V.BI n p.vs=true:=by simp[Params.vs,Params.list,V.BI,V.A8]
@[simp] theorem Params.ACQ (p:Params)(k:Nat)(row:List C):V.Cs k row p.vs=p.vs:=by simp[Params.vs,Params.list,V.Cs,V.Bi]
theorem YN (k:Nat)(row:List C):∀l:List C,V.Cs k row (l.map V.c)=l.map V.c
 | []=>rfl
 | c::l=>by simp only[Ap,V.Cs,V.Bi,YN k row l]
@[simp] theorem AFm (row:List C)(f:AP):V.Cs k row f.vs=f.vs:=YN k row f.row
end
theorem Ng (n:Int):AC AF 125 [.c (.int .i64 n)] (.c (.bool (An n))):=by
 by_cases B : -1073741824<=n;refine en M9 ntmps125 ?_;refine go @B ?_;exact At (cj2 results125 @An.eq_1 @B);refine en M9 ntmps125 ?_;refine go @B ?_;exact At (cj2 results125 @An.eq_1 @B)
theorem AKG (a b:Int)(ha : -9000000000000000000<=a)(A0:a<=9000000000000000000)(hb:b=100\/b=2):AC AF 126 [.c (.int .i64 a),.c (.int .i64 b)] (.c (.int .i64 (quot a b))):=by
 have S:=Int.mul_tdiv_add_tmod a b;have Ew : -b<a.tmod b/\a.tmod b<b:=by
  rcases hb with rfl|rfl
  exact⟨by have:=ft a (b:=100) (by omega);omega,aG a (by omega)⟩;exact⟨by have:=ft a (b:=2) (by omega);omega,aG a (by omega)⟩
 have NO : ¬b<0:=by omega
 have J : ¬b=0:=by omega
 obtain⟨q,I⟩:=AI (a.tdiv b);obtain⟨r,G⟩:=AI (a.tmod b);have U:quot a b=if 0<=r/\b - r<=r then q+1 else if r<0/\b+r<= -r then q - 1 else q:=by unfold quot;rw[I,G]
 rw[I,G]at S;rw[G]at Ew;have A1 : -9000000000000000001<=q/\q<=9000000000000000001:=by rcases hb with rfl|rfl<;>omega
 have M:AZ.wrap q=q:=Ac;have R:AZ.wrap r=r:=Ac;have W:AZ.wrap (b - r)=b - r:=Ac;have z:AZ.wrap (b+r)=b+r:=Ac;have w5:AZ.wrap (-r)= -r:=Ac;have w6:AZ.wrap (q+1)=q+1:=Ac;have w7:AZ.wrap (q - 1)=q - 1:=Ac;rw[U];clear U S;by_cases E:0<=r;by_cases B:b - r<=r;refine en UG Xp ?_;refine go (cj9 @NO @J @I @G @M @R @W @w6 @E @B) ?_;exact At (cj2 Xq @E @B);have F : ¬r<0:=by omega
 refine en UG Xp ?_;refine go (cj9 @NO @J @I @G @M @R @W @w6 @E<|cj @B @F) ?_;exact At (cj3 Xq @E @B @F);have F:r<0:=by omega
 by_cases B:b+r<= -r;refine en UG Xp ?_;refine go (cj9 @NO @J @I @G @M @R @z @w5 @w7<|cj2 @E @B @F) ?_;exact At (cj3 Xq @E @B @F);refine en UG Xp ?_;refine go (cj9 @NO @J @I @G @M @R @z @w5 @w7<|cj2 @E @B @F) ?_;exact At (cj3 Xq @E @B @F)
theorem EI (n p:Int):AC AF 72 [.c (.int .i64 n),.c (.int .i64 p)] (.c (.int .i64 (AU n p))):=by
 cases B:An n with
 | false =>
   have E:AU n p=0:=by simp[AU,B]
   refine en JA vF ?_;refine Ah ?_;refine gc @B (Ng n) M9 ?_;refine go @B ?_;exact At (cj va<| @E)
 | true =>
   have G:=B;simp[An]at G;by_cases F:p<0;have E:AU n p=0:=by unfold AU;rw[if_neg];omega
   refine en JA vF ?_;refine Ah ?_;refine gc (cj @B<|@F) (Ng n) M9 ?_;refine go @B ?_;exact At (cj va<| @E);by_cases I:10000<p;have E:AU n p=0:=by unfold AU;rw[if_neg];omega
   refine en JA vF ?_;refine Ah ?_;refine gc (cj2 @B @F @I) (Ng n) M9 ?_;refine go @B ?_;exact At (cj va<| @E);have E:AU n p=quot (n*p) 100:=by rw[AXT];unfold AU;rw[if_pos ⟨B,by omega,by omega⟩]
   have M:=Qh n p 1073741824 10000 (by omega) (by omega) (by omega) (by omega);have J:AZ.wrap (n*p)=n*p:=Ac;refine en JA vF ?_;refine Ah ?_;refine gc (cj2 @B @F @I) (Ng n) M9 ?_;refine go (cj @B<|@J) ?_;refine BZ (AKG (n*p) 100 (by omega) (by omega) (.inl rfl)) UG ?_;refine Ah ?_;exact At (cj va<| @E)
def YK (o:Option BG):V:=.A7 [.agg ((o.getD BG.zero).row.map V.c),.c (.bool o.isSome)]
theorem xX (f:AP)(name:ByteArray)(J:f.DR.length<=maxLen):AC AF 253 [.agg f.vs,.c (.str name)] (YK (f.find name)):=by
 unfold maxLen at J;refine en func253 ntmps253 ?_;refine go @O8.eq_1 ?_;refine lp (ι:={ k:Nat // k<=f.DR.length/\f.find name=KU name (f.DR.drop k) }) (λk=>[(10,.c (.int .i64 (k.1:Int))),(5,.c (.bool false))]) (λ_=>[.box 27 f.vs false,.box 70 (BG.zero.row.map V.c) false]) (λk=>f.DR.length - k.1) ⟨0,by simp[AP.find]⟩ ?_ ?_;all_goals simp only[puts,Bw,CO,Ag,Ai]
 exact ER (cj @BG.zero.eq_1<|@BG.row.eq_1);rintro ⟨k,R,F⟩;by_cases B:k<f.DR.length;obtain⟨g,I⟩:=AI (f.DR[k]);rw[D5 B,I]at F;by_cases E:g.name=name;have G:f.find name=some g:=by rw[F];simp[KU,E]
 refine go (cj4 @B @I @E @O8.eq_1 @BG.row.eq_1) ?_;exact At (cj4 results253 @YK.eq_1 @G @BG.row.eq_1 @E);have M:AZ.wrap ((k:Int)+1)=((k+1:Nat):Int):=by rw[Ac];simp
 refine go (cj5 @B @I @E @O8.eq_1 @BG.row.eq_1 @M) ?_;refine⟨⟨k+1,by omega,by rw[F];simp[KU,E]⟩,by simp only;omega,?_⟩;exact ER (cj @BG.zero.eq_1<|@BG.row.eq_1);have G:f.find name=none:=by rw[F,FA (by omega)];rfl
 refine go (cj2 @B @BG.zero.eq_1 @BG.row.eq_1) ?_;exact At (cj4 results253 @YK.eq_1 @G @BG.zero.eq_1 @BG.row.eq_1)
theorem dy (f:AP)(name:ByteArray)(E:f.DR.length<=maxLen):AC AF 342 [.agg f.vs,.c (.str name)] (Hg (f.pick name)):=by
 refine en func342 ntmps342 ?_;refine Ah ?_;refine gc (cj @YK.eq_1<|@BG.row.eq_1) (xX f name E) func253 ?_;cases B:f.find name with
 | some g=>refine go @BG.row.eq_1 ?_;exact At (cj4 ADT @Hg.eq_1 @AP.pick.eq_1 @B @BG.row.eq_1)
 | none =>
   refine go (cj @BG.zero.eq_1<|@BG.row.eq_1) ?_;refine gc (cj @YK.eq_1<|@BG.row.eq_1) (xX f ⟨#[63]⟩ E) func253 ?_;cases F:f.find ⟨#[63]⟩with
   | some g=>refine go @BG.row.eq_1 ?_;exact At (cj5 ADT @Hg.eq_1 @AP.pick.eq_1 @B @F @BG.row.eq_1)
   | none=>refine go (cj @BG.zero.eq_1<|@BG.row.eq_1) ?_;exact At (cj6 ADT @Hg.eq_1 @AP.pick.eq_1 @B @F @BG.zero.eq_1 @BG.row.eq_1)
theorem Xg (F E:Int)(l:List Int)(R:l.length<=maxLen):AC AF 96 [.c (.int .i64 F),.c (.int .i64 E),.c (AV l)] (.c (.bool (DX F E l))):=by
 unfold maxLen at R;refine en func96 ntmps96 ?_;refine go @AV.eq_1 ?_;refine lp (ι:={ k:Nat // k<=l.length/\DX F E l=DX F E (l.drop k) }) (λk=>[(11,.c (.int .i64 (k.1:Int))),(6,.c (.bool false))]) (λ_=>[]) (λk=>l.length - k.1) ⟨0,by simp⟩ ?_ ?_;all_goals simp only[puts,Bw,CO,Ag,Ai]
 exact DH;rintro ⟨k,U,G⟩;by_cases B:k<l.length;obtain⟨n,I⟩:=AI (l[k]);rw[D5 B,I]at G;by_cases J:n<F;have e:DX F E l=false:=by rw[G];simp[DX];omega
 refine go (cj3 @B @I @J @AV.eq_1) ?_;exact At (cj ADX<| @e);by_cases M:E<n;have e:DX F E l=false:=by rw[G];simp[DX];omega
 refine go (cj4 @B @I @J @M @AV.eq_1) ?_;exact At (cj ADX<| @e);have S:AZ.wrap ((k:Int)+1)=((k+1:Nat):Int):=by rw[Ac];simp
 refine go (cj5 @B @I @J @M @AV.eq_1 @S) ?_;refine⟨⟨k+1,by omega,by rw[G];simp[DX];omega⟩,by simp only;omega,?_⟩;exact DH;have e:DX F E l=true:=by rw[G,FA (by omega)];rfl
 refine go (cj @B<|@AV.eq_1) ?_;exact At (cj ADX<| @e)
def Cx.one (S:BF)(b n:Nat):Cx:={ dom:=λk=>k=0,loc:=λ_=>⟨b,n,false,0,false⟩,S:=S }
def AX (P:Program)(f:FuncId)(args:List V)(ty:TypeId)(cells cells':List C)(res:V):Prop:=
 ∀(S:BF) (w:World) (us:List Value) (b:Nat) (vs:Array Value),(∀b' j,S b' j->b'<w.heap.size)->(∀j,j<vs.size->¬S b j)->w.heap[b]?=some (.cells vs ty (0,0))->B4 S w cells vs.toList->AO (Cx.one S b vs.size) w args us->
  Calls P f us.toArray w λr w'=>∃u S' Bz,r=.returned u/\KB (λk=>k=b) w w'/\Ar S S' w w'/\(∀b' j,S' b' j->S b' j\/(w.heap.size<=b'/\b'<w'.heap.size)\/(b'=b/\vs.size<=j))/\w'.heap[b]?=some (.cells Bz ty (0,0))/\Bz.size=vs.size/\B4 S' w' cells' Bz.toList/\CV (Cx.bare S') w' res u
mutual
def V.Di (k:Nat):V->Option V
 | .ptr i off=>if i=k then some (.ptr 0 off)else none
 | .c d=>some (.c d)
 | .Bg r=>some (.c (.sl r))
 | .gr _ _ r=>some (.c (.sl r))
 | .cp row off=>some (.cp row off)
 | .agg l=>(V.Dj k l).map V.agg
 | .A7 l=>(V.Dj k l).map V.A7
 | .fn f caps=>(V.Dj k caps).map (V.fn f)
 | .yl l=>some (.yl l)
 | .mp _=>none
 | .any=>some .any
 | .own _ _ _ _=>none
 | .Be _ _ _=>none
 | .hp _ _ _=>none
def V.Dj (k:Nat):List V->Option (List V)
 | []=>some []
 | v::l=>match V.Di k v,V.Dj k l with
   | some y,some r=>some (y::r)
   | _,_=>none
end
mutual
theorem AJ1 {x:Cx}{w:World}{k n:Nat} : ∀(v E:V) (u:Value),V.Di k v=some E->CV x w v u->CV (Cx.one x.S (x.loc k).b n) w E u
 | .ptr i G,E,u,h,B=>by
   simp only[V.Di]at h;split at h;rename_i e;cases h;subst e;simp only[CV,Cx.one]at B ⊢;exact⟨trivial,trivial,B.2.2⟩;cases h
 | .c c,E,u,h,B=>by simp only[V.Di,BL]at h;subst h;simpa only[CV,Cx.one]using B
 | .Bg r,E,u,h,B=>by simp only[V.Di,BL]at h;subst h;simp only[CV]at B ⊢;obtain⟨_,_,B⟩:=B;exact B
 | .gr k es r,E,u,h,B=>by simp only[V.Di,BL]at h;subst h;simp only[CV]at B ⊢;exact B.2.2.1
 | .cp row G,E,u,h,B=>by simp only[V.Di,BL]at h;subst h;simpa only[CV,Cx.one]using B
 | .yl l,E,u,h,B=>by simp only[V.Di,BL]at h;subst h;simpa only[CV]using B
 | .mp _,_,_,h,_=>by simp[V.Di]at h
 | .agg l,E,u,h,B=>by
   simp only[V.Di,Ia]at h;obtain⟨r,h,rfl⟩:=h;simp only[CV]at B ⊢;obtain⟨vs,e,B⟩:=B;exact⟨vs,e,Qn l r _ h B⟩
 | .A7 l,E,u,h,B=>by
   simp only[V.Di,Ia]at h;obtain⟨r,h,rfl⟩:=h;simp only[CV]at B ⊢;obtain⟨vs,e,B⟩:=B;exact⟨vs,e,Qn l r _ h B⟩
 | .fn f F,E,u,h,B=>by
   simp only[V.Di,Ia]at h;obtain⟨r,h,rfl⟩:=h;simp only[CV]at B ⊢;obtain⟨vs,e,B⟩:=B;exact⟨vs,e,Qn F r _ h B⟩
 | .any,E,u,h,_=>by simp only[V.Di,BL]at h;subst h;simp only[CV]
 | .own _ _ _ _,_,_,h,_=>by simp[V.Di]at h
 | .Be _ _ _,_,_,h,_=>by simp[V.Di]at h
 | .hp _ _ _,_,_,h,_=>by simp[V.Di]at h
theorem Qn {x:Cx}{w:World}{k n:Nat} : ∀(l E:List V) (us:List Value),V.Dj k l=some E->AO x w l us->AO (Cx.one x.S (x.loc k).b n) w E us
 | [],E,us,h,B=>by simp only[V.Dj,BL]at h;subst h;simpa only[AO]using B
 | v::l,E,us,h,B=>by
   simp only[AO]at B;obtain⟨u,F,rfl,G,I⟩:=B;unfold V.Dj at h;split at h;rename_i y r M J;cases h;simp only[AO];exact⟨u,F,rfl,AJ1 v y u M G,Qn l r F J I⟩;cases h
end
section
variable {P:Program} {K:Exit->St->Prop} {ops:List Oper} {s:St}
theorem SW.pJ {f:FuncId}{args Bd:List V}{cells B:List C}(K9:AX P f Bd ty cells B res)(hf:P.funcs[f]?=some fn)(hb:fn.body.isSome=true)(hn:(fn.name == "runtime.NumGoroutine")=false)(hg:BQ ops s.t o.guard=some true)(F:C7 (ev s.t) o.op=some (f,args))(hp:V.Dj k args=some Bd)(U:s.h[k]?=some (.box ty cs false))(A1:toCs cs=some cells)(h:SW P ops K r (s.step o.dst res (some (k,.box ty (B.map V.c) false)))):SW P ops K (o::r) s:=λS0 w0 x a w G=>by
 have hw:FB o (yielded ops.toArray a.tmps)=true:=by
  have:=KR (o:=o) G.tm (IF (ops:=ops) (K1:=True) (K2:=False) hg trivial);exact Kn λh=>this.2 h
 unfold wpList;rw[if_pos hw];refine .inl ?_;unfold C7 at F;split at F
 case h_2=>cases F
 rename_i fo J Fk ho;split at F
 case h_2=>cases F
 rename_i f' R FG;simp only[BL,Cr]at F;obtain⟨rfl,rfl⟩:=F;have I:=Pp (CW G.tm fo);rw[FG]at I;simp only[CV]at I;obtain⟨Dl,I,EP⟩:=I;have Hw:AO x w (J.toList.map (ev s.t)++R) (J.toList.map a.eval++Dl.toList):=(AO.of_map λy _=>CW G.tm y).append EP;have g:=G.good;obtain⟨hd,b1,M,vs,b3,b4,b5⟩:=g.ok k _ U;have Fh:=toCs_ok A1 b5;have PO : ∀j,j<vs.size->¬x.S (x.loc k).b j:=λj hj=>g.EA k _ j U ⟨rfl,by omega⟩
 have Co:=K9 x.S w _ (x.loc k).b vs g.ex PO b3 Fh (Qn _ _ _ hp Hw);have CT:fn.body≠none:=by intro e;rw[e]at hb;cases hb
 have F6:fn.name≠ "runtime.NumGoroutine":=by simpa using hn
 have W:(execOp a.eval o).run P w=.ok (.enter f' (J.toList.map a.eval++Dl.toList).toArray) w:=by
  have e1:(J.map a.eval++Dl)=(J.toList.map a.eval++Dl.toList).toArray:=by apply Gx.1;simp
  simp[execOp,ho,resolve,I,M5,invoke,callFunc,program,HW,hf,F6,CT,e1]
 unfold Er;rw[W];refine Co.mono ?_;rintro r' q ⟨u,S',Bz,rfl,E,CZ,Gc,h1,h2,h3,h4⟩;have A2:=(g.ok k _ U).2.lt M;have he:Ext x { x with S:=S' } w q:=⟨CZ,λ_ h=>h,λ_ _=>FM.refl _⟩
 have g':=g.H5 (x':={ x with S:=S' }) k (.box ty (B.map V.c) false) he (E.wide λb e=>⟨hd,M,e.symm⟩) (λi=>⟨.inl,λh=>h.elim id λe=>e ▸ hd⟩) (λ_ _=>rfl) (λ_=>.inl ⟨hd,M,rfl⟩)
  ⟨b1,M,Bz,h1,by rw[h2,b4],AO.OS h3⟩ (λb j hs=>(Gc b j hs).imp id λh=>h.elim (λh=>⟨h.2,.inl h.1,λe=>by have:(x.loc k).b=b:=e;omega⟩) (λh=>⟨by rw[h.1];exact H7 A2 E.size,.inr ⟨hd,M,h.1.symm⟩,λ_ hx=>by have h5:j<(x.loc k).n:=hx.2;have h6:=h.2;omega⟩)) (λj hx=>g.EA k _ j U hx)
 have CB:NC w q:=⟨E.size,λb ob z II=>(E.block b (DO.1 z).1 λe=>by subst e;rw[b3]at z;cases z;cases II).trans z⟩
 have e:=Kj s.h (some (k,O.box ty (B.map V.c) false)) (λk' o' e=>by cases e;exact LZ (Br.1 U).1);have A0:Good S0 w0 { x with S:=S' } q (λi=>(Bk s.h (some (k,O.box ty (B.map V.c) false)))[i]?):=by rw[e];exact g'
 exact h S0 w0 _ _ q (Bo.put G.tm (G.df.mono CB) he A0 (CV.mono (Ub S' x q) _ _ h4) o.dst)
def Xy (P:Program)(l:List ResultVar)(res:V)(ty:TypeId)(cells':List C):Exit->St->Prop
 | .normal,s=>DV P s l=some res/\∃cs,s.h[0]?=some (.box ty cs false)/\toCs cs=some cells'
 | .ret,s=>DV P s l=some res/\∃cs,s.h[0]?=some (.box ty cs false)/\toCs cs=some cells'
 | _,_=>False
theorem AX.intro {f:FuncId}{fn:Func}{c:Code}{args:List V}{ty:TypeId}{cells E:List C}{res:V}(hf:P.funcs[f]?=some fn)(hb:fn.body=some c)(h:AW ⟨none,1⟩ P c (Xy P fn.results.toList res ty E) ⟨args++Aq (fn.ntmps - args.length) .any,[.box ty (cells.map V.c) false]⟩):AX P f args ty cells E res:=by
 intro S w us b vs hS PO FF Fh B7;have A2:b<w.heap.size:=(DO.1 FF).1;refine callsIn_wide.1 (callsIn_of_wp_marks (F:=Cg) (n:=0) hf hb trivial ?_);let B:Bs:=⟨w,λk=>k<w.heap.size/\k≠b,λ_ h=>h.1,Cx.one S b vs.size,1,λk hk=>by have:k=0:=hk;omega⟩
 have hA:Bo S B (Cx.one S b vs.size) ⟨args++Aq (fn.ntmps - args.length) .any,[.box ty (cells.map V.c) false]⟩ { tmps:=us.toArray++Array.replicate (fn.ntmps - us.toArray.size) undef,defers:=[] } w:=by
  refine⟨⟨λk o h=>?_,λk h=>?_,λk k' o o' h h' W=>?_,λk o j h hx=>?_,hS,λk o h _ hF=>hF.2 rfl,λb j h=>.inl h,λb j h=>h,.FR (Ay.refl w),Ext.refl _ _⟩,?_,Marks.nil _ _⟩;match k,h with
  | 0,h =>
    cases h;exact⟨rfl,rfl,rfl,vs,FF,rfl,AO.OS Fh⟩
  | k+1,h=>simp at h
  have:k=0:=h;subst this;exact⟨_,rfl⟩;match k,k',h,h' with
  | 0,0,_,_=>exact absurd rfl W
  | 0,k'+1,_,h'=>simp at h'
  | k+1,_,h,_=>simp at h
  match k,h with
  | 0,h=>cases h;exact PO j hx.2
  | k+1,h=>simp at h
  simp only[Array.toList_append,Array.toList_replicate];have hl:us.toArray.size=args.length:=by simpa using B7.len
  rw[hl];exact B7.append (SQ _ _ _ _)
 refine wpIn_mono (h 0 S B _ _ w (BN _) hA) λe a' G ⟨x,s,Au,hK⟩=>?_
 have fin : ∀ {R:Ending->World->Prop},(∀u G U M,KB (λk=>k=b) w G->Ar S U w G->(∀I j,U I j->S I j\/(w.heap.size<=I/\I<G.heap.size)\/(I=b/\vs.size<=j))->G.heap[b]?=some (.cells M ty (0,0))->M.size=vs.size->B4 U G E M.toList->CV (Cx.bare U) G res u->R (.returned u) G)->
  (DV P s fn.results.toList=some res/\∃cs,s.h[0]?=some (.box ty cs false)/\toCs cs=some E)->LeavesInM Cg 0 P fn a'.tmps R a'.defers .returning G:=by
  rintro R hR ⟨hr,cs,h0,A0⟩;obtain⟨Ds,e,q,z⟩:=Au.df;rw[e];refine kS hr Ds G q z Au.good Au.tm λw2 u g hu=>?_
  have Lu:=g.ext.loc 0 rfl;have J:x.loc 0=⟨b,vs.size,false,0,false⟩:=by
   rcases Lu.2 with e|e
   exact e.symm;cases e.1
  obtain⟨_,_,_,M,k3,k4,k5⟩:=g.ok 0 _ h0;rw[J]at k3 k4;refine hR u w2 x.S M ⟨g.keep.os,g.keep.tape,g.keep.output,g.keep.size,λk hk W=>g.keep.block k hk λhn=>hn ⟨hk,W⟩⟩ ⟨g.sub,λI j v hs hc=>g.ext.ar.cell I j v hs hc⟩ (λI j hs=>?_) k3 k4 (toCs_ok A0 k5) hu;rcases g.new I j hs with hq|hq
  exact .inl hq;by_cases e:I=b;subst e;by_cases hj:j<vs.size;exact absurd (by rw[J];exact hs) (g.EA 0 _ j h0 ⟨rfl,by rw[J];exact hj⟩);exact .inr (.inr ⟨rfl,by omega⟩);exact .inr (.inl ⟨Nat.le_of_not_lt λA1=>hq ⟨A1,e⟩,g.ex I j hs⟩)
 cases e with
 | normal=>exact fin (λu G U M q z h3 h4 h5 h6 h7=>⟨u,U,M,rfl,q,z,h3,h4,h5,h6,h7⟩) hK
 | ret=>exact fin (λu G U M q z h3 h4 h5 h6 h7=>⟨u,U,M,rfl,q,z,h3,h4,h5,h6,h7⟩) hK
 | _=>exact hK.elim
end
section
variable {P:Program} {K:Exit->St->Prop} {ops:List Oper} {s:St}
theorem SW.OU (G:V->Option (Nat×O)->Prop)(hg:BQ ops s.t o.guard=some true)(z : ∀(S0:BF) (w0:Bs) (x:Cx) (a:Act) (w:World),Good S0 w0 x w (λk=>s.h[k]?)->AO x w s.t a.tmps.toList->¬x.dom s.h.length->∃v t,(∀k ob,t=some (k,ob)->k<=s.h.length)/\G v t/\BW P o a S0 w0 x w (λk=>s.h[k]?) v t)(h : ∀v t,G v t->SW P ops K r (s.step o.dst v t)):SW P ops K (o::r) s:=λS0 w0 x a w B=>by
 have hw:FB o (yielded ops.toArray a.tmps)=true:=by
  have:=KR (o:=o) B.tm (IF (ops:=ops) (K1:=True) (K2:=False) hg trivial);exact Kn λh=>this.2 h
 unfold wpList;rw[if_pos hw];refine .inl ?_;obtain⟨v,t,J,R,nx,U,W,u,hr,q,F,E,I,_⟩:=z x.S (w0.re w B.good.keep.size) x a w B.good.XR B.tm B.fresh;rw[<-Kj _ _ J]at E;obtain⟨E,M⟩:=B.good.Sg I E;unfold Er;rw[hr];rcases q with rfl|⟨rfl,rfl⟩
 exact h v t R S0 w0 W _ U (Bo.put B.tm (B.df.mono M) I E F o.dst);exact h v t R S0 w0 W _ U (Bo.put B.tm (B.df.mono M) I E F o.dst)
end
section
variable {P:Program} {S0:BF} {w0:Bs} {x:Cx} {w:World} {H:Bx} {a:Act} {o:Oper} {v:V}
theorem AI4 (g:Good S0 w0 x w H){t:TypeId}{y z:Operand}(ho:o.op=.slice t y none (some z) none){es Bq:Nat}(U:Dk P t=some (Ae,es,Bq)){k off len n:Nat}{q:IntKind}(B:CV x w (.own k off len es) (a.eval y))(F:CV x w (.c (.int q (n:Int))) (a.eval z))(hn:n<=len):
 BW P o a S0 w0 x w H (.own k off n es) none:=by
 obtain⟨W,ie,zv,G,_,E,_,_⟩:=JS U;simp only[CV,Ab]at B F;obtain⟨I,J,cap,B,h3,M,R⟩:=B;have S:(n:Int)<=(cap:Int):=by omega
 refine BW.pure g (u:=.slice (some ⟨(x.loc k).b,off,none⟩) n cap) ?_ ?_;simp[execOp,ho,B,F.1,Instr.sliceAt,Instr.slice,run_underlying W,Instr.sliceBounds,Instr.sliceBound,asIntOf,sizeOf,typeInfo,G,S,E,aD];intro h;omega;simp only[CV];exact⟨I,J,cap,rfl,by omega,M,R⟩
theorem AIw (g:Good S0 w0 x w H){t:TypeId}{y:Operand}(ho:o.op=.buildSlice t 1 #[(0,y)])(R:Dk P t=some (Ae,1,Bq))(I:CV x w v (a.eval y))(F:v.one=true)(E:Nat)(U : ¬x.dom E):
 BW P o a S0 w0 x w H (.own E 0 1 1) (some (E,.box Ae [v] false)):=by
 obtain⟨q,ie,zv,J,z,B,_,_⟩:=JS R;have ze:=I.one F;have W:=run_buildSlice (P:=P) w t Ae 1 #[(0,a.eval y)] #[a.eval y] ie zv q J z (by rw[B];omega) (by rw[B];omega) (by
  rw[B];simp only[fi,AEj ze];simp;refine Array.ext (by simp) λi F G=>?_
  simp at G;subst G;simp)
 obtain⟨M,S⟩:=g.Zc E U Ae [v] #[a.eval y] (by simp only[AO];exact⟨_,[],rfl,I,rfl⟩);refine⟨_,_,_,.slice (some ⟨w.heap.size,0,none⟩) 1 1,by simp only[execOp,ho,Jt,AMl,Ap,BB,W,Oo];rfl,.inl rfl,?_,M,S,λk h=>h.elim .inl λe=>.inr ⟨.box Ae [v] false,by rw[e]⟩,λ_=>rfl⟩;simp only[CV,Cx.C4,if_true];exact⟨.inr trivial,trivial,1,rfl,BN _,by unfold maxLen;omega,by simp⟩
theorem AIv (g:Good S0 w0 x w H){t:TypeId}(ho:o.op=.buildSlice t 0 #[]){es Bq:Nat}(I:Dk P t=some (Ae,es,Bq)):BW P o a S0 w0 x w H (.Bg []) none:=by
 obtain⟨U,z,zv,F,W,S,_,_⟩:=JS I;obtain⟨A,B,R,E,q⟩:∃A B,(Instr.buildSlice t 0 #[]).run P w=.ok (.slice A 0 0) B/\Ay w B/\B.heap.size>=w.heap.size:=by
  refine⟨some ⟨w.heap.size,0,none⟩,w.alloc (.cells (Array.map (λx=>default) (Array.range 0)) Ae),?_,(Ay.refl w).alloc _,by simp⟩;simp[Instr.buildSlice,run_underlying U,sizeOf,typeInfo,zeroValue,F,W,fi,newRow]
 obtain⟨G,M⟩:=g.MF (x':=x) E ⟨λ_ _ h=>h,λb j v _ J=>E.cell J⟩ rfl rfl (λb j h=>.inl h);refine⟨_,_,x,.slice A 0 0,by simp only[execOp,ho,Jt,AMl,BB,R,Oo];rfl,.inl rfl,?_,G,M,λk h=>.inl h,λ_=>rfl⟩;simp only[CV,Ab];exact⟨A,rfl,A,0,rfl,BN _,by omega,λh=>absurd rfl h⟩
theorem AVN (g:Good S0 w0 x w H){t W:TypeId}{y z:Operand}(ho:o.op=.binOp .eql t y z W){es Bq:Nat}(F:Dk P t=some (Ae,es,Bq)){AG:List (List C)}(B:Ab x.S w (.sl AG) (a.eval y))(U:a.eval z=.slice none 0 0):
 ∃b:Bool,(b=true->AG=[])/\BW P o a S0 w0 x w H (.c (.bool b)) none:=by
 obtain⟨R,ie,zv,q,_,M,_,_⟩:=JS F;simp only[Ab]at B;obtain⟨A,c,B,h1,h2,E⟩:=B;refine⟨A.isNone,λh=>?_,BW.pure g (u:=.bool A.isNone) ?_ (by simp only[CV,Ab])⟩;cases A with
 | none =>
   by_cases e:AG=[]
   exact e;obtain⟨_,_,_,h,_⟩:=E e;cases h
 | some _=>cases h
 have G : ∀A n c,(binOp .eql t (.slice A n c) (.slice none 0 0))=(do pure (.bool (<-Pt t (.slice A n c) (.slice none 0 0)))):=λ_ _ _=>rfl
 have I : ∀A n c,(Pt t (.slice A n c) (.slice none 0 0)).run P w=.ok A.isNone w:=by
  intro A n c;have e:Pt t (.slice A n c) (.slice none 0 0)=aP (9999+1) t (.slice A n c) (.slice none 0 0):=rfl;rw[e];unfold aP;cases A<;>simp[run_underlying R]
 have J:(eqGuard .eql t y z (.slice A AG.length c) (.slice none 0 0)).run P w=.ok () w:=rfl;simp only[execOp,ho,B,U,Jt,J,G,I,Oo,Sem.run_pure]
theorem AI2 (g:Good S0 w0 x w H)(n:Nat){t M:TypeId}{y z:Operand}(ho:o.op=.binOp .eql t y z M){es Bq:Nat}(F:Dk P t=some (Ae,es,Bq)){AG:List (List C)}(G:Ab x.S w (.sl AG) (a.eval y))(I:a.eval z=.slice none 0 0):
 ∃v t,(∀k J,t=some (k,J)->k<=n)/\(t=none/\∃b:Bool,v=.c (.bool b)/\(b=true->AG=[]))/\BW P o a S0 w0 x w H v t:=by
 obtain⟨b,B,E⟩:=AVN g ho F G I;exact⟨_,_,λ_ _ h=>(by cases h),⟨rfl,b,rfl,B⟩,E⟩
theorem AU2 (g:Good S0 w0 x w H){t:TypeId}{y z:Operand}(ho:o.op=.call ⟨.builtin .copy,#[y,z],#[t,t]⟩){es Bq:Nat}(hT:Dk P t=some (Ae,es,Bq)){k:Nat}{AG:List (List C)}(I:CV x w (.own k 0 AG.length es) (a.eval y))(hz:Ab x.S w (.sl AG) (a.eval z))(hr : ∀r∈AG,r.length=es)(hk:H k=some (.box ty cs false))(hl:cs.length=AG.length*es):BW P o a S0 w0 x w H (.c (.int .i64 AG.length)) (some (k,.box ty (AG.flatten.map V.c) false)):=by
 obtain⟨hu,ie,zv,EB,_,R,_,_⟩:=JS hT;obtain⟨hd,A5⟩:=g.ok k _ hk;obtain⟨b1,b2,vs,q,hn,M⟩:=A5;simp only[CV]at I;obtain⟨_,_,cap,I,h3,h4,h5⟩:=I;obtain⟨A,c,B,e,k1,k2,k3,U,k5,k6⟩:=T0 hz hr;have dK:vs.size=AG.length*es:=by have:=M.len;simp only[FW]at this;omega
 have J:=k3.ones;have G:=run_storeCells_at (P:=P) (t:=ty) (off:=0) B 0 w vs q (by simp;omega) J;have W:=cC B 0 0 vs (by simp;omega);obtain⟨E,dM⟩:∃E,((B.zipIdx 0).foldl (λ(c:Array Value) (p:Value×Nat)=>c.setIfInBounds (0+p.2) p.1) vs)=E:=⟨_,rfl⟩
 rw[dM]at G W;have kH:E.toList=B:=by rw[W];simp;omega
 have F:(tw #[t,t] o.type #[.slice (some ⟨(x.loc k).b,0,none⟩) AG.length cap,.slice A AG.length c]).run P w=.ok (goInt AG.length) (w.setRow (x.loc k).b E):=by
  have zH:(fc es AG.length (.slice A AG.length c)).run P w=.ok B.toArray w:=by
   cases A with
   | none =>
     have:AG=[]:=by
      by_cases e:AG=[]
      exact e;obtain⟨_,_,h,_⟩:=k6 e;cases h
     subst this;have:B=[]:=Nr (by simpa using U);subst this;simp[fc]
   | some ad=>exact run_firstCells_some (P:=P) w es AG.length ad AG.length c B U (k5 _ rfl)
  simp[tw,run_underlying hu,tx,sizeOf,typeInfo,EB,R,zH,G]
 obtain⟨g',he⟩:=g.ACa k ty cs (AG.flatten.map V.c) hk vs E q (by rw[<-FW,kH,U,dK]) (by rw[kH];exact AO.OS k3);refine⟨_,_,x,goInt AG.length,by simp[execOp,ho,resolve,invoke,builtin,I,e,F],.inl rfl,?_,g',he,λ_ h=>.inl h,λ_=>rfl⟩;simp only[CV,Ab,goInt];exact⟨trivial,Q8 (by omega)⟩
theorem AU1 (g:Good S0 w0 x w H){t:TypeId}{y z:Operand}(ho:o.op=.call ⟨.builtin .copy,#[y,z],#[t,t]⟩){es Bq:Nat}(J:Dk P t=some (Ae,es,Bq))(F:Ab x.S w (.sl []) (a.eval y))(G:Ab x.S w (.sl []) (a.eval z)):BW P o a S0 w0 x w H (.c (.int .i64 0)) none:=by
 obtain⟨U,W,q,I,_,R,_,_⟩:=JS J;simp only[Ab,BO]at F G;obtain⟨A,c,F,_⟩:=F;obtain⟨B,d,G,_⟩:=G;have M : ∀(y:Addr),(loadCells y 0).run P w=.ok #[] w:=λy=>by simpa using run_loadCells_list (P:=P) w y [] (by simp)
 have E:(tw #[t,t] o.type #[.slice A 0 c,.slice B 0 d]).run P w=.ok (goInt 0) w:=by
  cases A<;>cases B<;>simp[tw,run_underlying U,tx,fc,sizeOf,typeInfo,I,storeCells,M]
 refine BW.pure g (u:=goInt 0) (by simp[execOp,ho,resolve,invoke,builtin,F,G,E]) ?_;simp only[CV,Ab,goInt];exact⟨trivial,Q8 (n:=0) (by omega)⟩
theorem AUw (g:Good S0 w0 x w H){t:TypeId}{y z:Operand}(ho:o.op=.call ⟨.builtin .append,#[y,z],#[t,t]⟩)(hT:Dk P t=some (Ae,1,Bq)){k J len:Nat}(W:CV x w (.own k 0 len 1) (a.eval y))(hz:CV x w (.own J 0 1 1) (a.eval z))(hk:H k=some (.box Ae cs false)){tP:TypeId}{fr:Bool}(EG:H J=some (.box tP [v] fr))(Fv:v.one=true)(hm:len+1<=maxLen)(hb:(len+1)*Bq<=140737488355328)(hl:len<=cs.length)(k0:Nat)(Iu : ¬x.dom k0):
 (len<cs.length/\BW P o a S0 w0 x w H (.own k 0 (len+1) 1) (some (k,.box Ae (cs.set len v) false)))\/(∃n,BW P o a S0 w0 x w H (.own k0 0 (len+1) 1) (some (k0,.box Ae (cs.take len++v::Aq n .any) false))):=by
 obtain⟨hu,ie,zv,EB,R7,G,A1,A7⟩:=JS hT;obtain⟨hd,b1,b2,vs,cW,hn,F⟩:=g.ok k _ hk;obtain⟨QL,c1,c2,us,NP,KY,jh⟩:=g.ok J _ EG;simp only[CV]at W hz;obtain⟨_,_,cap,W,h3,h4,h5⟩:=W;obtain⟨_,_,wc,hz,_,_,_⟩:=hz;simp only[AO]at jh;obtain⟨u,ur,B7,Y6,rfl⟩:=jh;have dK:vs.size=cs.length:=by have:=F.len;simpa using this
 have A6:=Y6.one Fv;have R : ∀(j:Nat) (q:Value),([u]:List Value)[j]?=some q->w.cell? (aD ⟨(x.loc J).b,0,none⟩ j)=some q:=by
  intro j q M;rw[J0,Cz,cell_of_row w _ j us tP (0,0) NP];rw[<-VZ,B7];exact M
 by_cases E:len+1<=cap;left;have S:len<cs.length:=by omega
 refine⟨S,?_⟩;have DK:w.cell? ⟨(x.loc k).b,len,none⟩=some vs[len]:=by rw[cell_of_row w _ len vs Ae (0,0) cW];simp[dK,S]
 have A5:(storeCells ⟨(x.loc k).b,len,none⟩ [u] 0).run P w=.ok () (w.setRow (x.loc k).b (vs.setIfInBounds len u)):=by
  have:=run_storeCells_at (P:=P) (t:=Ae) (off:=len) [u] 0 w vs cW (by simp;omega) (by simpa using A6);simpa using this
 have zH:=run_firstCells_some (P:=P) w 1 1 ⟨(x.loc J).b,0,none⟩ 1 wc [u] (by simp) R;have B:(aE #[t,t] o.type #[.slice (some ⟨(x.loc k).b,0,none⟩) len cap,.slice (some ⟨(x.loc J).b,0,none⟩) 1 wc]).run P w=.ok (.slice (some ⟨(x.loc k).b,0,none⟩) (len+1) cap) (w.setRow (x.loc k).b (vs.setIfInBounds len u)):=by
  simp[aE,run_underlying hu,sizeOf,typeInfo,EB,G,tx,E,zH,Addr.add_lit,A5]
 obtain⟨g',he⟩:=g.ACa k Ae cs (cs.set len v) hk vs (vs.setIfInBounds len u) cW (by simp) (by simpa using F.set len Y6);refine⟨.value (.slice (some ⟨(x.loc k).b,0,none⟩) (len+1) cap),w.setRow (x.loc k).b (vs.setIfInBounds len u),x,.slice (some ⟨(x.loc k).b,0,none⟩) (len+1) cap,by simp[execOp,ho,resolve,invoke,builtin,W,hz,B],.inl rfl,?_,g',he,λ_ h=>.inl h,λOD=>rfl⟩;simp only[CV];exact⟨hd,b1,cap,rfl,E,h4,h5⟩;right;have DK:cap=len:=by omega
 subst DK;have U : ∀(j:Nat) (q:Value),(vs.toList.take cap)[j]?=some q->w.cell? (aD ⟨(x.loc k).b,0,none⟩ j)=some q:=by
  intro j q M;rw[J0,Cz,cell_of_row w _ j vs Ae (0,0) cW,<-VZ];rw[List.getElem?_take]at M;split at M;exact M;cases M
 have B:=run_append_grow (P:=P) w t o.type Ae ie zv hu EB R7 ⟨(x.loc k).b,0,none⟩ cap cap (vs.toList.take cap) (by rw[Fa,G];simp;omega) U ⟨(x.loc J).b,0,none⟩ 1 wc [u] (by rw[G];rfl) R (by omega) (by unfold maxLen at hm;omega) (growslice_fits (by omega) (by rw[A1];exact hb));have JL:=grownCap_ge w (cap+1) cap Ae;have A3:=grownCap_le_maxLen w (cap+1) cap Ae hm;refine⟨grownCap w (cap+1) cap Ae - (cap+1),?_⟩;obtain⟨arr,Ft⟩:=AI ((vs.toList.take cap).toArray++[u].toArray++KN zv.cells (grownCap w (cap+1) cap Ae - (cap+1)));rw[Ft]at B;have I:(KN zv.cells (grownCap w (cap+1) cap Ae - (cap+1))).toList.length=grownCap w (cap+1) cap Ae - (cap+1):=by simp[size_zeroCells,A7]
 have FE:arr.toList=vs.toList.take cap++u::(KN zv.cells (grownCap w (cap+1) cap Ae - (cap+1))).toList:=by rw[<-Ft];simp
 have A0:arr.size=grownCap w (cap+1) cap Ae:=by rw[<-FW,FE];simp only[Cp,BA,Fa,FW,I];rw[FW]at I;omega
 have LB:Ay w w.drew:=(Ay.refl w).drew;obtain⟨gd,ca⟩:=g.MF (x':=x) LB ⟨λ_ _ h=>h,λb j v _ hc=>LB.cell hc⟩ rfl rfl (λb j h=>.inl h);have A2:AO x w.drew (cs.take cap++v::Aq (grownCap w (cap+1) cap Ae - (cap+1)) .any) arr.toList:=by
  rw[FE];refine(AO.mono ca _ _ (F.take cap)).append ?_;simp only[AO];refine⟨u,_,rfl,CV.mono ca _ _ Y6,AO.SI (by rw[I];simp) λi v' u' h1 _=>?_⟩;rw[List.getElem?_replicate]at h1;split at h1;cases h1;simp only[CV];cases h1
 obtain⟨g',he⟩:=gd.Zc k0 Iu Ae _ arr A2;refine⟨.value (.slice (some ⟨w.heap.size,0,none⟩) (cap+1) (grownCap w (cap+1) cap Ae)),w.drew.alloc (.cells arr Ae),_,.slice (some ⟨w.heap.size,0,none⟩) (cap+1) (grownCap w (cap+1) cap Ae),by simp[execOp,ho,resolve,invoke,builtin,W,hz,B],.inl rfl,?_,g',ca.trans he,λk h=>h.elim .inl λe=>.inr ⟨.box Ae (cs.take cap++v::Aq (grownCap w (cap+1) cap Ae - (cap+1)) .any) false,by rw[e]⟩,λOD=>by rw[ho]at OD;cases OD⟩;simp only[CV,Cx.C4,if_true];exact⟨.inr trivial,trivial,_,rfl,JL,A3,by rw[A0];omega⟩
theorem AUx (g:Good S0 w0 x w H)(n:Nat){t:TypeId}{y z:Operand}(ho:o.op=.call ⟨.builtin .append,#[y,z],#[t,t]⟩)(U:Dk P t=some (Ae,1,Bq)){k G len:Nat}(hy:CV x w (.own k 0 len 1) (a.eval y))(hz:CV x w (.own G 0 1 1) (a.eval z))(W:H k=some (.box Ae cs false)){tP:TypeId}{R:Bool}(I:H G=some (.box tP [v] R))(M:v.one=true)(hm:len+1<=maxLen)(hb:(len+1)*Bq<=140737488355328)(q:len<=cs.length)(hn : ¬x.dom n)(J:k<=n):
 ∃F B,(∀k ob,B=some (k,ob)->k<=n)/\((len<cs.length/\F=.own k 0 (len+1) 1/\B=some (k,.box Ae (cs.set len v) false))\/∃j,F=.own n 0 (len+1) 1/\B=some (n,.box Ae (cs.take len++v::Aq j .any) false))/\BW P o a S0 w0 x w H F B:=by
 rcases AUw g ho U hy hz W I M hm hb q n hn with ⟨S,E⟩|⟨j,E⟩
 exact⟨_,_,λ_ _ h=>(by cases h;exact J),.inl ⟨S,rfl,rfl⟩,E⟩;exact⟨_,_,λ_ _ h=>(by cases h;exact BN _),.inr ⟨j,rfl,rfl⟩,E⟩
end
section
variable {P:Program} {m:Mo}
def Xv (F:Fence)(n:Nat)(P:Program)(c:Code)(Q:Exit->Act->World->Prop)(a:Act)(w:World):Prop:=
 ∀(b:Frame) (k:List Item) (cs:List Frame),b.roundOf=F.round->F.fn b.fn->F.room (cs.length+1+n)->
  ∃e a' w',Q e a' w'/\ArrivesIn (Machine.fenced P F) P (lone (b.atR a (.code c:: .inLoop c::k)) cs w) b k cs e a' w'
theorem Xv.round {F:Fence}{n:Nat}{c:Code}{a:Act}(h:c.wpIn F n P (Exit.then (Xv F n P c Q) Q) a w):Xv F n P c Q a w:=by
 intro b k cs R U W;obtain⟨e,B,E,I,G⟩:=h b (.inLoop c::k) cs R U W;cases e with
 | normal=>obtain⟨M,J,S,z,q⟩:=I b k cs R U W;exact⟨M,J,S,z,.of_steps (StepsIn.trans G (.one (fenced_calm U W rfl) stepR_inLoop)) q⟩
 | exit id=>exact⟨_,B,E,I,.pass (x:=.inLoop c) rfl (λ_ _=>.inl (by simp)) G⟩
 | goto l=>exact⟨_,B,E,I,.pass (x:=.inLoop c) rfl (λ_ _=>.inl (by simp)) G⟩
 | ret=>exact⟨_,B,E,I,.pass (x:=.inLoop c) rfl (λ_ _=>.inl (by simp)) G⟩
 | panic ch=>exact⟨_,B,E,I,.pass (x:=.inLoop c) rfl (λ_ _=>.inl (by simp)) G⟩
 | outgrown=>exact⟨_,B,E,I,.pass (x:=.inLoop c) rfl (λ_ _=>.inl (by simp)) G⟩
theorem Xv.loop {F:Fence}{n:Nat}{c:Code}{a:Act}(h:Xv F n P c Q a w):(Code.loop c).wpIn F n P Q a w:=by
 intro b k cs B E G;obtain⟨e,J,R,M,I⟩:=h b k cs B E G;exact⟨e,J,R,M,.of_steps (.one (fenced_calm E G rfl) stepR_loop) I⟩
def LA (m:Mo)(P:Program)(c:Code)(K:Exit->St->Prop)(s:St):Prop:=
 ∀(n:Nat) (S0:BF) (w0:Bs) (x:Cx) (a:Act) (w:World),w0.n0<=m.n0->Bo S0 w0 x s a w->Xv (fz m) n P c (λe a w=>∃x s,Bo S0 w0 x s a w/\K e s) a w
theorem LA.loop {c:Code}(h:LA m P c K s):AW m P (.loop c) K s:=λn S0 w0 x a w E B=>(h n S0 w0 x a w E B).loop
theorem LA.round {c:Code}(h:AW m P c (NH (LA m P c K) K) s):LA m P c K s:=λn S0 w0 x a w F G=>Xv.round (wpIn_mono (h n S0 w0 x a w F G) λe a w ⟨x,s,B,E⟩=>by
 cases e with
 | normal=>exact E n S0 w0 x a w F B
 | _=>exact⟨x,s,B,E⟩)
theorem LA.le {c:Code}{s s':St}(G:Le m s s')(h:LA m P c K s'):LA m P c K s:=λn S0 w0 x a w B F=>let ⟨I,E⟩:=G S0 w0 x a w B F;h n S0 w0 I a w B E
end
mutual
def V.GS (ρ:Nat->Nat):V->V
 | .ptr k off=>.ptr (ρ k) off
 | .own k off len es=>.own (ρ k) off len es
 | .gr k es AG=>.gr (ρ k) es AG
 | .Be k es AG=>.Be (ρ k) es AG
 | .hp k n pos=>.hp (ρ k) n pos
 | .agg l=>.agg (V.SO ρ l)
 | .A7 l=>.A7 (V.SO ρ l)
 | .fn f l=>.fn f (V.SO ρ l)
 | .any=>.any
 | .c d=>.c d
 | .cp r off=>.cp r off
 | .Bg r=>.Bg r
 | .yl l=>.yl l
 | .mp k=>.mp (ρ k)
def V.SO (ρ:Nat->Nat):List V->List V
 | []=>[]
 | v::l=>V.GS ρ v::V.SO ρ l
end
def Cx.pull (x:Cx)(ρ:Nat->Nat)(N:Nat):Cx:={ dom:=λk=>k<N/\x.dom (ρ k),loc:=λk=>x.loc (ρ k),S:=x.S }
mutual
theorem CV.pull {x:Cx}{w:World}{ρ:Nat->Nat}{N:Nat} : ∀(v:V) (u:Value),v.A8 N=true->CV x w (V.GS ρ v) u->CV (x.pull ρ N) w v u
 | .ptr k E,u,B,h=>by simp only[V.A8,decide_eq_true_eq]at B;simp only[V.GS,CV,Cx.pull]at h ⊢;exact⟨⟨B,h.1⟩,h.2⟩
 | .own k E len es,u,B,h=>by simp only[V.A8,decide_eq_true_eq]at B;simp only[V.GS,CV,Cx.pull]at h ⊢;exact⟨⟨B,h.1⟩,h.2⟩
 | .gr k es F,u,B,h=>by simp only[V.A8,decide_eq_true_eq]at B;simp only[V.GS,CV,Cx.pull]at h ⊢;exact⟨⟨B,h.1⟩,h.2⟩
 | .Be k es F,u,B,h=>by simp only[V.A8,decide_eq_true_eq]at B;simp only[V.GS,CV,Cx.pull]at h ⊢;exact⟨⟨B,h.1⟩,h.2⟩
 | .hp k m pos,u,B,h=>by simp only[V.A8,decide_eq_true_eq]at B;simp only[V.GS,CV,Cx.pull]at h ⊢;exact⟨⟨B,h.1⟩,h.2⟩
 | .agg l,u,B,h=>by simp only[V.A8]at B;simp only[V.GS,CV]at h ⊢;obtain⟨vs,e,h⟩:=h;exact⟨vs,e,AO.pull l _ B h⟩
 | .A7 l,u,B,h=>by simp only[V.A8]at B;simp only[V.GS,CV]at h ⊢;obtain⟨vs,e,h⟩:=h;exact⟨vs,e,AO.pull l _ B h⟩
 | .fn f l,u,B,h=>by simp only[V.A8]at B;simp only[V.GS,CV]at h ⊢;obtain⟨vs,e,h⟩:=h;exact⟨vs,e,AO.pull l _ B h⟩
 | .any,u,_,h=>by simp only[CV]
 | .c _,u,_,h=>by simpa only[V.GS,CV,Cx.pull]using h
 | .cp _ _,u,_,h=>by simpa only[V.GS,CV,Cx.pull]using h
 | .Bg _,u,_,h=>by simpa only[V.GS,CV,Cx.pull]using h
 | .yl l,u,_,h=>by simpa only[V.GS,CV]using h
 | .mp k,u,B,h=>by simp only[V.A8,decide_eq_true_eq]at B;simp only[V.GS,CV,Cx.pull]at h ⊢;exact⟨⟨B,h.1⟩,h.2⟩
theorem AO.pull {x:Cx}{w:World}{ρ:Nat->Nat}{N:Nat} : ∀(l:List V) (us:List Value),V.BI N l=true->AO x w (V.SO ρ l) us->AO (x.pull ρ N) w l us
 | [],us,_,h=>by simpa only[V.SO,AO]using h
 | v::l,us,B,h=>by
   simp only[V.BI,Ak]at B;simp only[V.SO,AO]at h ⊢;obtain⟨u,E,e,F,G⟩:=h;exact⟨u,E,e,CV.pull v u B.1 F,AO.pull l E B.2 G⟩
end
def Wk (ρ:Nat->Nat)(N:Nat)(v v':V):Prop:=v'=.any\/(v=v'.GS ρ/\v'.A8 N=true)\/∃AG,v=.Bg AG/\v'=.c (.sl AG)
def EM (ρ:Nat->Nat)(N:Nat):List V->List V->Prop
 | [],l'=>l'=[]
 | v::l,v'::l'=>Wk ρ N v v'/\EM ρ N l l'
 | _::_,[]=>False
theorem Wk.ok {x:Cx}{ρ:Nat->Nat}{N:Nat}{v E:V}{u:Value}(h:Wk ρ N v E)(B:CV x w v u):CV (x.pull ρ N) w E u:=by
 rcases h with rfl|⟨rfl,h⟩|⟨F,rfl,rfl⟩
 simp only[CV];exact CV.pull E u h B;simp only[CV]at B ⊢;obtain⟨_,_,B⟩:=B;exact B
theorem EM.ok {x:Cx}{w:World}{ρ:Nat->Nat}{N:Nat} : ∀ {l E:List V} {us:List Value},EM ρ N l E->AO x w l us->AO (x.pull ρ N) w E us
 | [],E,us,h,B=>by simp only[EM]at h;subst h;simpa only[AO]using B
 | v::l,[],us,h,_=>by simp[EM]at h
 | v::l,J::E,us,h,B=>by
   simp only[EM]at h;simp only[AO]at B ⊢;obtain⟨u,I,e,F,G⟩:=B;exact⟨u,I,e,h.1.ok F,EM.ok h.2 G⟩
theorem EM.append {ρ:Nat->Nat}{N:Nat} : ∀ {l B k k':List V},EM ρ N l B->EM ρ N k k'->EM ρ N (l++k) (B++k')
 | [],B,k,k',h,E=>by simp only[EM]at h;subst h;exact E
 | v::l,[],k,k',h,_=>by simp[EM]at h
 | v::l,F::B,k,k',h,E=>by simp only[EM]at h;exact⟨h.1,EM.append h.2 E⟩
theorem EM.any {ρ:Nat->Nat}{N:Nat} : ∀(l:List V),EM ρ N l (Aq l.length .any)
 | []=>rfl
 | v::l=>⟨.inl rfl,EM.any l⟩
theorem EM.same {ρ:Nat->Nat}{N:Nat} : ∀ {l:List V},V.SO ρ l=l->V.BI N l=true->EM ρ N l l
 | [],_,_=>rfl
 | v::l,h,B=>by
   simp only[V.SO,List.cons.injEq]at h;simp only[V.BI,Ak]at B;exact⟨.inr (.inl ⟨h.1.symm,B.1⟩),EM.same h.2 B.2⟩
def Wo (ρ:Nat->Nat)(N:Nat):O->O->Prop
 | .box ty cs fr,.box ty' cs' py=>ty=ty'/\fr=py/\EM ρ N cs cs'
 | .tok ty es cur,.tok ty' es' YE=>ty=ty'/\es=es'/\cur=YE
 | _,_=>False
theorem Le.GS {rd:Option Nat}{t t':List V}{h F:List O}(ρ:Nat->Nat)(J : ∀i j,i<F.length->j<F.length->ρ i=ρ j->i=j)(ht:EM ρ F.length t t')(hh : ∀k o',F[k]?=some o'->∃o,h[ρ k]?=some o/\Wo ρ F.length o o'):Le ⟨rd,0⟩ ⟨t,h⟩ ⟨t',F⟩:=λS0 w0 x a w hm hA=>by
 have g:=hA.good;have NR : ∀k,¬w0.x0.dom k:=λk E=>by have:=w0.dl k E;have:w0.n0<=0:=hm;omega
 have G : ∀ {k o'},F[k]?=some o'->k<F.length:=λE=>(Br.1 E).1
 have zh : ∀ {k o o'},Wo ρ F.length o o'->Ld x w (ρ k) o->Ld (x.pull ρ F.length) w k o':=by
  intro k o o' B A5;cases o with
  | box ty cs fr =>
    cases o' with
    | box I W py=>obtain⟨rfl,rfl,hc⟩:=B;obtain⟨a1,a2,vs,a3,a4,a5⟩:=A5;exact⟨a1,a2,vs,a3,a4,hc.ok a5⟩
    | tok _ _ _=>exact B.elim
    | Be _ _ _ _=>exact B.elim
    | mp _=>exact B.elim
  | tok ty es q =>
    cases o' with
    | tok I z YE=>obtain⟨rfl,rfl,rfl⟩:=B;exact A5
    | box _ _ _=>exact B.elim
    | Be _ _ _ _=>exact B.elim
    | mp _=>exact B.elim
  | Be _ _ _ _=>exact B.elim
  | mp _=>exact B.elim
 have A0 : ∀ {k o o' j},Wo ρ F.length o o'->Ex (x.pull ρ F.length) k o' j->Ex x (ρ k) o j:=by
  intro k o o' j B U;cases o with
  | box ty cs fr =>
    cases o' with
    | box I W py=>obtain⟨rfl,rfl,hc⟩:=B;exact U
    | tok _ _ _=>exact B.elim
    | Be _ _ _ _=>exact B.elim
    | mp _=>exact B.elim
  | tok ty es q =>
    cases o' with
    | tok I z YE=>obtain⟨rfl,rfl,rfl⟩:=B;exact U
    | box _ _ _=>exact B.elim
    | Be _ _ _ _=>exact B.elim
    | mp _=>exact B.elim
  | Be _ _ _ _=>exact B.elim
  | mp _=>exact B.elim
 refine⟨x.pull ρ F.length,⟨λk o' E=>?_,λk E=>?_,λk k' o o' R S A1 hv A2=>?_,λk o' j E U=>?_,g.ex,λk o' E hv=>?_,g.new,g.sub,g.keep,g.ext.ar,λk E=>(NR k E).elim,λk E=>(NR k E).elim⟩,ht.ok hA.tm,hA.df⟩;obtain⟨o,M,B⟩:=hh k o' E;obtain⟨R,S⟩:=g.ok _ o M;exact⟨⟨G E,R⟩,zh B S⟩;exact⟨_,BE E.1⟩;obtain⟨p,hp,_⟩:=hh k o R;obtain⟨p',U7,_⟩:=hh k' o' S;exact g.inj _ _ p p' hp U7 (λe=>A1 (J _ _ (G R) (G S) e)) hv A2;obtain⟨o,M,B⟩:=hh k o' E;exact g.EA _ o j M (A0 B U);obtain⟨o,M,_⟩:=hh k o' E;exact g.own _ o M hv
theorem jn {c d:Code}{t:List V}{h:List O}{ι:Type}(f:ι->List (Nat×V)){ws:List Nat}{t0:List V}(hc:AW m P c (NH (λs'=>∃i:ι,Le m s' ⟨puts (f i) t0,h⟩) K) ⟨t,h⟩)(hr : ∀i:ι,AW m P d K ⟨puts (f i) t0,h⟩)(hw:wr c=ws:=by simp only[wr,lq,List.cons_append,List.nil_append,List.append_nil,List.append_assoc];exact rfl)(ht:jb ws t=t0:=by simp only[jb,List.foldl_cons,List.foldl_nil,List.set_cons_zero,List.set_cons_succ];exact rfl):AW m P c (NH (AW m P d K) K) ⟨t,h⟩:=
 hc.mono λe s h=>by
  cases e with
  | normal=>obtain⟨i,hi⟩:=h;exact AW.le hi (hr i)
  | _=>exact h
section
variable {P:Program} {K:Exit->St->Prop} {ops:List Oper} {s:St}
theorem SW.AOB {f W:FuncId}{cs:List C}{vs:Array Value}(hN : ∀w:World,Calls P f #[] w λe w'=>e=.returned (.func (.func W) #[] #[.pointer (some ⟨w.heap.size,0,none⟩)])/\w'=w.alloc (.cells vs ty))(Ml : ∀(S:BF) (w:World),B4 S w cs vs.toList)(hf:P.funcs[f]?=some fn)(hb:fn.body.isSome=true)(hn:(fn.name == "runtime.NumGoroutine")=false)(hg:BQ ops s.t o.guard=some true)(B:C7 (ev s.t) o.op=some (f,[]))(h:SW P ops K r (s.step o.dst (.fn W [.ptr s.h.length 0]) (some (s.h.length,.box ty (cs.map V.c) false)))):SW P ops K (o::r) s:=λS0 w0 x a w F=>by
 have hw:FB o (yielded ops.toArray a.tmps)=true:=by
  have:=KR (o:=o) F.tm (IF (ops:=ops) (K1:=True) (K2:=False) hg trivial);exact Kn λh=>this.2 h
 unfold wpList;rw[if_pos hw];refine .inl ?_;unfold C7 at B;split at B
 case h_2=>cases B
 rename_i fo ar Fk ho;split at B
 case h_2=>cases B
 rename_i f' U FG;simp only[BL,Cr,List.append_eq_nil_iff,List.map_eq_nil_iff]at B;obtain⟨rfl,CZ,rfl⟩:=B;have I:ar=#[]:=Gx.1 CZ;subst I;have E:=Pp (CW F.tm fo);rw[FG]at E;simp only[CV]at E;obtain⟨Dl,E,R⟩:=E;have M:Dl=#[]:=by
  simp only[AO]at R;exact Gx.1 R
 subst M;have g:=F.good;have z:fn.body≠none:=by intro e;rw[e]at hb;cases hb
 have F6:fn.name≠ "runtime.NumGoroutine":=by simpa using hn
 have G:(execOp a.eval o).run P w=.ok (.enter f' #[]) w:=by
  simp[execOp,ho,resolve,E,M5,invoke,callFunc,program,HW,hf,F6,z]
 unfold Er;rw[G];refine(hN w).mono ?_;rintro r' w' ⟨rfl,rfl⟩;have hk : ¬x.dom s.h.length:=λhd=>by
  obtain⟨ob,h⟩:=g.dom _ hd;simp at h
 obtain⟨g',he⟩:=g.Zc s.h.length hk ty (cs.map V.c) vs (AO.OS (Ml x.S w));have q:NC w (w.alloc (.cells vs ty)):=.FR ((Ay.refl w).alloc _);have e:=Kj s.h (some (s.h.length,O.box ty (cs.map V.c) false)) (λk' o' e=>by cases e;exact BN _);have J:Good S0 w0 (x.C4 s.h.length ⟨w.heap.size,vs.size,false,0,false⟩) (w.alloc (.cells vs ty)) (λi=>(Bk s.h (some (s.h.length,O.box ty (cs.map V.c) false)))[i]?):=by rw[e];exact g'
 exact h S0 w0 _ _ _ (Bo.put F.tm (F.df.mono q) he J (by
  simp only[CV,AO,Cx.C4,if_true];exact⟨_,rfl,_,_,rfl,⟨.inr trivial,trivial,rfl⟩,rfl⟩) o.dst)
end
section
variable {P:Program} {ops:List Oper} {K:List Ef->St->Prop}
theorem TW.pJ {acc:List Ef}{f:FuncId}{args Bd:List V}{cells B:List C}(K9:AX P f Bd ty cells B res)(hf:P.funcs[f]?=some fn)(hb:fn.body.isSome=true)(hn:(fn.name == "runtime.NumGoroutine")=false)(hg:BQ ops s.t o.guard=some true)(E:C7 (ev s.t) o.op=some (f,args))(hp:V.Dj k args=some Bd)(hk:s.h[k]?=some (.box ty cs false))(A0:toCs cs=some cells)(h:TW P ops K r (acc++[⟨res,some (k,.box ty (B.map V.c) false),some k⟩]) (s.step o.dst res (some (k,.box ty (B.map V.c) false)))):TW P ops K (o::r) acc s:=by
 obtain⟨es,s2,h2,h3⟩:=h;refine⟨⟨res,some (k,.box ty (B.map V.c) false),some k⟩::es,s2,⟨_,es,rfl,?_,(λk' ob e=>by cases e;exact LZ (Br.1 hk).1),h2⟩,by simpa using h3⟩;intro S0 w0 x w a H g hl hr _ Q next EH;rw[QF hl hg];show o.wp P a w next Q;have R:=QR hl;have q:H k=some (.box ty cs false):=(hr k (.inl rfl)).trans hk;unfold C7 at E;split at E
 case h_2=>cases E
 rename_i fo G Fk ho;split at E
 case h_2=>cases E
 rename_i f' J FG;simp only[BL,Cr]at E;obtain⟨rfl,rfl⟩:=E;have F:=Pp (R fo (by simp[ho,Bl,Df]));rw[FG]at F;simp only[CV]at F;obtain⟨W,F,EP⟩:=F;have Hw:AO x w (G.toList.map (ev s.t)++J) (G.toList.map a.eval++W.toList):=(AO.of_map λy hy=>R y (by simp[ho,Bl,Df];exact .inr (by simpa using hy))).append EP;obtain⟨z,b1,I,vs,b3,b4,b5⟩:=g.ok k _ q;have Fh:=toCs_ok A0 b5;have PO : ∀j,j<vs.size->¬x.S (x.loc k).b j:=λj hj=>g.EA k _ j q ⟨rfl,by omega⟩
 have Co:=K9 x.S w _ (x.loc k).b vs g.ex PO b3 Fh (Qn _ _ _ hp Hw);have CT:fn.body≠none:=by intro e;rw[e]at hb;cases hb
 have F6:fn.name≠ "runtime.NumGoroutine":=by simpa using hn
 have U:(execOp a.eval o).run P w=.ok (.enter f' (G.toList.map a.eval++W.toList).toArray) w:=by
  have e1:(G.map a.eval++W)=(G.toList.map a.eval++W.toList).toArray:=by apply Gx.1;simp
  simp[execOp,ho,resolve,F,M5,invoke,callFunc,program,HW,hf,F6,CT,e1]
 unfold Er;rw[U];refine Co.mono ?_;rintro r' w' ⟨u,S',Bz,rfl,M,CZ,Gc,h1,h2,h3,h4⟩;have A1:=(g.ok k _ q).2.lt I;have he:Ext x { x with S:=S' } w w':=⟨CZ,λ_ h=>h,λ_ _=>FM.refl _⟩
 have g':=g.H5 (x':={ x with S:=S' }) k (.box ty (B.map V.c) false) he (M.wide λb e=>⟨z,I,e.symm⟩) (λi=>⟨.inl,λh=>h.elim id λe=>e ▸ z⟩) (λ_ _=>rfl) (λ_=>.inl ⟨z,I,rfl⟩)
  ⟨b1,I,Bz,h1,by rw[h2,b4],AO.OS h3⟩ (λb j hs=>(Gc b j hs).imp id λh=>h.elim (λh=>⟨h.2,.inl h.1,λe=>by have:(x.loc k).b=b:=e;omega⟩) (λh=>⟨by rw[h.1];exact H7 A1 M.size,.inr ⟨z,I,h.1.symm⟩,λ_ hx=>by have h5:j<(x.loc k).n:=hx.2;have h6:=h.2;omega⟩)) (λj hx=>g.EA k _ j q hx)
 exact EH u _ w' g' he (CV.mono (Ub S' x w') _ _ h4)
end
section
variable {P:Program} {Q:Exit->Act->World->Prop} {K:World->World->Prop} {a0:Act} {w0:World} {l:List Oper} {m n:Nat}
theorem ABW [P1 K]{id:Nat}(n:Nat)(U:P.follows .mixedOrders=true)(E:(Oa l 0 n && lN l n l.length)=true)(hz:((l.take n).all λo=>match o.dst with|some d=>decide (d<a0.tmps.size)|none=>true)=true)(h : ∀G,Ay w0 G->RG P l.toArray Q K a0 G (l.take n) [] λacc=>∀W,K G W->MR (wpList P l.toArray Q (l.drop n)) acc.reverse a0 W):(Code.region id l.toArray true).wp P Q a0 w0:=by
 rw[Ak]at E;refine AXh U (Aax (K:=K) E.1 hz ?_);have:=h w0.drew (Ay.refl _).drew;have z:=ABY E.1;have B : ∀(r:List (Option Tmp×Post)) (a:Act) (W:World),MR (wpList P l.toArray Q (l.drop n)) r a W->MR (Si P l Q n) r a W:=by
  intro r;induction r with
  | nil=>intro a W h;simp only[MR]at h ⊢;refine Aay E.2 z (l.length - n) n a W (by omega) (BN _) ?_;rw[Gl (by simp)];exact ACY h
  | cons q r ih=>obtain⟨d,p⟩:=q;intro a W h v hv;exact ih _ _ (h v hv)
 have F : ∀(r:List Oper) (acc:List (Option Tmp×Post)) (f g:List (Option Tmp×Post)->Prop),(∀x,f x->g x)->RG P l.toArray Q K a0 w0.drew r acc f->RG P l.toArray Q K a0 w0.drew r acc g:=by
  intro r;induction r with
  | nil=>intro acc f g I h;exact I _ h
  | cons o r ih=>intro acc f g I h;obtain⟨p,J,M,R⟩:=h;exact⟨p,J,M,ih _ _ _ I R⟩
 exact F _ _ (λacc=>∀W,K w0.drew W->MR (wpList P l.toArray Q (l.drop n)) acc.reverse a0 W) _ (λacc h W S=>B _ _ _ (h W S)) (by simpa using this)
theorem LK [P1 K]{ops:Array Oper}(p:Post)(E:Vu K p)(M:o.guard=none)(h : ∀(a:Act) (W:World),K w0 W->(∀t∈looks ops o,know a0 acc t (a.tmps.getD t undef) W)->∃v B,(execOp a.eval o).run P W=.ok (.value v) B/\p v B/\K W B)(S:RG P ops Q K a0 w0 r ((o.dst,p)::acc) fin):RG P ops Q K a0 w0 (o::r) acc fin:=by
 refine⟨p,E,λa W R J=>?_,S⟩;have U:FB o (yielded ops a.tmps)=true:=by simp[FB,M]
 rw[if_pos U];unfold Er;obtain⟨v,B,F,G,I⟩:=h a W R J;rw[F];exact⟨v,rfl,I,G⟩
theorem ABX [P1 K]{ops:Array Oper}(p:Post)(E:Vu K p)(M:o.guard=none)(h : ∀(a:Act) (W:World),K w0 W->(∀t∈looks ops o,know a0 acc t (a.tmps.getD t undef) W)->∃f args,(execOp a.eval o).run P W=.ok (.enter f args) W/\
   Calls P f args W λe B=>∃v,e=.returned v/\p v B/\K W B)(S:RG P ops Q K a0 w0 r ((o.dst,p)::acc) fin):RG P ops Q K a0 w0 (o::r) acc fin:=by
 refine⟨p,E,λa W R J=>?_,S⟩;have q:FB o (yielded ops a.tmps)=true:=by simp[FB,M]
 rw[if_pos q];unfold Er;obtain⟨f,args,G,I⟩:=h a W R J;rw[G];refine I.mono ?_;rintro e B ⟨v,rfl,U,F⟩;exact⟨v,rfl,F,U⟩
end
end Go.Proofs.YtlpomcliejmedaaGreat
