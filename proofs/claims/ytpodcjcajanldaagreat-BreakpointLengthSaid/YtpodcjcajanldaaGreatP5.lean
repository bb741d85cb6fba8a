/- Part of the proof of breakpointLength.proved. Conditions: none. (Joined and shortened by a program.) -/
import Derived.Test.YtpodcjcajanldaaGreatP3
import Derived.Test.YtpodcjcajanldaaGreatP4
set_option linter.unusedVariables false
set_option linter.unusedSimpArgs false
set_option maxRecDepth 100000
set_option maxHeartbeats 16000000
open List renaming length_cons→BQ,length_nil→B6,cons_append→Bg,nil_append→Bh,foldl_cons→Bl,foldl_nil→B7,set_cons_zero→BC,set_cons_succ→Az,drop_eq_getElem_cons→Cz,drop_of_length_le→C5,map_cons→Al,map_nil→A8,replicate_succ→Ao,replicate_zero→C8,length_map→Cg
open Go.Proofs.Tryz renaming prog→AD,func170→Ls,func171→SG,ntmps171→Vk,results171→Vm,func106→IB,ntmps106→pG,results106→pU,func291→aM,results291→yQ,func144→oq,results144→yC,func322→aP,results290→yP,func223→o5,func92→Gm,results223→yL
open Int renaming lt_tmod_of_pos→Z3,tmod_lt_of_pos→Va
open Go.IntKind renaming i64→Ad
namespace Go.Proofs.YtpodcjcajanldaaGreat
open Go.RowKit
section
variable {P:Program} {ops:List Oper} {K:St->Prop}
def AK (P:Program)(ops:List Oper)(K:St->Prop)(l:List Oper)(ks:List (Option Nat×Option Nat))(s:St):Prop:=∀acc:List Ef,acc.map Ef.ks=ks->Hi P ops (fun es s'=>LP ops (es.map Ef.ks)=true/\K s') l acc s
theorem AW.AKc {m:Mo}{id:Nat}{K:Exit->St->Prop}{s:St}(hm:P.follows .mixedOrders=true)(hd:m.rd=none\/TV ops=true)(h:AK P ops (K .normal) ops [] s):AW m P (.region id ops.toArray true) K s:=AW.draw hm hd (h [] rfl)
theorem AI3 {ks:List (Option Nat×Option Nat)}{s:St}(hc:LP ops ks=true)(h:K s):AK P ops K [] ks s:=fun acc e=>by unfold Hi;rw[e];exact⟨hc,h⟩
theorem zE {o:Oper}{r:List Oper}{ks:List (Option Nat×Option Nat)}{s:St}{f:FuncId}{Bx:List V}{res:V}{fn:Func}(Cs:AC P f Bx res)(hf:P.funcs[f]?=some fn)(hb:fn.body.isSome=true)(hn:(fn.name == "runtime.NumGoroutine")=false)(hg:gate ops s.t o.guard=some true)(hc:Fv (ev s.t) o.op=some (f,Bx))(h:AK P ops K r (ks++[(none,none)]) (s.step o.dst res none)):AK P ops K (o::r) ks s:=fun acc e=>ja Cs hf hb hn hg hc (h _ (by rw[List.map_append,e];rfl))
end
theorem dc {F:Prop}{P:Program}{ops:List Oper}{K:St->Prop}{o:Oper}{r:List Oper}{ks:List (Option Nat×Option Nat)}{s s':St}{g:FuncId}{args:List V}{res:V}{fn:Func}(f:F)(Cs:AC P g args res)(hf:P.funcs[g]?=some fn)(h:AK P ops K r (ks++[(none,none)]) s')(hb:fn.body.isSome=true:=by kernel_rfl)(hn:(fn.name == "runtime.NumGoroutine")=false:=by kernel_rfl)(hg:F->gate ops s.t o.guard=some true:=by intro f;(simp[gate,f];done))(hc:F->Fv (ev s.t) o.op=some (g,args):=by intro f;(simp[Fv,f];done))(hs:s.step o.dst res none=s':=by simp[St.step,St.put,CG];exact rfl):AK P ops K (o::r) ks s:=zE Cs hf hb hn (hg f) (hc f) (hs ▸ h)
theorem gn {F p q:Prop}(f:F)(h:q)(k:F->q->p:=by
 intro f h;repeat (first
  | (with_reducible first|refine AW.seq ?_|refine AW.block ?_|refine G7 ?_|refine OM ?_|refine AW.ret ?_|refine Pu ?_|refine Pp ?_|refine B9 ?_|refine AW.skip ?_|refine AW.exit ?_|refine Pt ?_|refine NZ ?_|refine AW.label ?_|refine AW.scope ?_|refine Pr ?_|refine Ps ?_|refine Pq ?_)
  | ((with_reducible refine AW.region ?_);with_reducible refine Bw (by simp[List.replicate_succ,f];first|exact rfl|exact⟨rfl,rfl⟩) ?_)
  | ((with_reducible refine Po ?_ ?_);focus decide)
  | ((with_reducible refine kO ?_ ?_);focus (simp[ev,f];done))
  | ((with_reducible refine kN ?_ ?_);focus (simp[ev,f];done)))
 exact h):p:=k f h
def Ag.row (g:Ag):List C:=[.str g.name,.int .i64 g.w,.int .i64 g.h,.int .i64 g.d,.int .i64 g.DY,.int .i64 g.attach]
def Part.row (p:Part):List C:=[.str p.name,.bool p.ext]
def DT (l:List ByteArray):C:=.sl (l.map fun n=>[.str n])
def Ci (l:List Part):C:=.sl (l.map Part.row)
def A6.row (s:A6):List C:=[.str s.name,DT s.Bb,Ci s.parts,.int .i64 s.CX]
def FZ (l:List Ag):C:=.sl (l.map Ag.row)
def G3 (l:List A6):C:=.sl (l.map A6.row)
def Params.list (p:Params):List Int:=[p.BZ,p.FV,p.EB,p.rule,p.Ro,p.QW,p.RD,p.Px,p.VQ,p.VR,p.VS,p.OA,p.OC,p.OE,p.OD,p.Jo,p.Jp,p.Nf,p.OZ,p.OO]
def AI.row (f:AI):List C:=FZ f.CO::G3 f.CD::f.params.list.map (C.int .i64)
def AI.vs (f:AI):List V:=f.row.map V.c
def Ab (l:List Int):C:=.sl (l.map fun n=>[.int .i64 n])
structure AA where
 kind:Int
 name:ByteArray
 size:Int
 w:Int
 h:Int
 d:Int
 x:Int
 y:Int
 kids:List AA
 KJ:Int
 src:List Int
mutual
def AA.row:AA->List C
 | ⟨k,n,s,w,h,d,x,y,kids,o,src⟩=>[.int .i64 k,.str n,.int .i64 s,.int .i64 w,.int .i64 h,.int .i64 d,.int .i64 x,.int .i64 y,.sl (AA.rows kids),.int .i64 o,Ab src]
def AA.rows:List AA->List (List C)
 | []=>[]
 | b::l=>AA.row b::AA.rows l
end
def AA.zero:AA:=⟨0,⟨#[]⟩,0,0,0,0,0,0,[],0,[]⟩
def Dp (g:Ag):V:=.agg (g.row.map V.c)
def BD (b:AA):V:=.agg (b.row.map V.c)
def Af (n:Int):V:=.c (.int .i64 n)
def Mw (g:Ag)(p:Int):AA:=⟨1,g.name,p,g.w+mx 0 g.DY,g.h,g.d,0,0,[],0,[]⟩
theorem AFF : ∀(vs cs:List V) (pre:List V),cs.length=vs.length->Ek (pre++cs) pre.length vs=pre++vs
 | [],cs,pre,h=>by have:cs=[]:=(List.eq_nil_of_length_eq_zero (by simpa using h));subst this;simp[Ek]
 | v::vs,c::cs,pre,h=>by
   simp only[Ek];have:=AFF vs cs (pre++[v]) (by simpa using h);simp only[List.length_append,BQ,B6,Nat.zero_add,List.append_assoc,Bg,Bh]at this;rw[<-this];congr 1
   simp
theorem Zd {vs cs:List V}(h:cs.length=vs.length):Ek cs 0 vs=vs:=by simpa using AFF vs cs [] h
section
variable (f:AI)
@[simp] theorem AI.VV:f.vs.length=22:=by simp[AI.vs,AI.row,Params.list]
@[simp] theorem AI.xH:f.vs.all V.one=true:=by simp[AI.vs,V.one]
@[simp] theorem AI.xI:f.vs.take 22=f.vs:=List.take_of_length_le (by simp)
@[simp] theorem AI.xE:f.vs[0]?=some (.c (FZ f.CO)):=rfl
@[simp] theorem AI.xC (h:0<f.vs.length):f.vs[0]'h=.c (FZ f.CO):=rfl
@[simp] theorem AI.AHb:f.vs[1]?=some (.c (G3 f.CD)):=rfl
@[simp] theorem AI.AHZ (h:1<f.vs.length):f.vs[1]'h=.c (G3 f.CD):=rfl
@[simp] theorem AI.AHc:f.vs[2]?=some (.c (.int .i64 f.params.BZ)):=rfl
@[simp] theorem AI.AHa (h:2<f.vs.length):f.vs[2]'h=.c (.int .i64 f.params.BZ):=rfl
@[simp] theorem AI.xF:f.vs[3]?=some (.c (.int .i64 f.params.FV)):=rfl
@[simp] theorem AI.xD (h:3<f.vs.length):f.vs[3]'h=.c (.int .i64 f.params.FV):=rfl
@[simp] theorem AI.AVi:f.vs[4]?=some (.c (.int .i64 f.params.EB)):=rfl
@[simp] theorem AI.AVd (h:4<f.vs.length):f.vs[4]'h=.c (.int .i64 f.params.EB):=rfl
@[simp] theorem AI.AVj:f.vs[5]?=some (.c (.int .i64 f.params.rule)):=rfl
@[simp] theorem AI.AVe (h:5<f.vs.length):f.vs[5]'h=.c (.int .i64 f.params.rule):=rfl
@[simp] theorem AI.AcQ:f.vs[19]?=some (.c (.int .i64 f.params.Nf)):=rfl
@[simp] theorem AI.AcD (h:19<f.vs.length):f.vs[19]'h=.c (.int .i64 f.params.Nf):=rfl
@[simp] theorem AI.AcR:f.vs[20]?=some (.c (.int .i64 f.params.OZ)):=rfl
@[simp] theorem AI.AcE (h:20<f.vs.length):f.vs[20]'h=.c (.int .i64 f.params.OZ):=rfl
theorem Xg : ∀l:List C,V.AO (l.map V.c)=some (l.map V.c)
 | []=>rfl
 | c::l=>by simp[V.AO,V.AP,Xg l]
@[simp] theorem AI.nt:V.AO f.vs=some f.vs:=Xg f.row
theorem toCs_c : ∀l:List C,toCs (l.map V.c)=some l
 | []=>rfl
 | c::l=>by simp[toCs,toC,toCs_c l]
@[simp] theorem AI.xJ:toCs f.vs=some f.row:=toCs_c f.row
end
theorem NB (n:Int):AC AD 170 [.c (.int .i64 n)] (.c (.bool (Aw n))):=by
 by_cases h1 : -1073741824<=n
 . refine en Ls Tryz.ntmps170 ?_;refine go @h1 ?_;simp[Aj,AV,AZ,Aa,V.AP,V.AO,AU,Tryz.results170,Aw,h1]
 . refine en Ls Tryz.ntmps170 ?_;refine go @h1 ?_;simp[Aj,AV,AZ,Aa,V.AP,V.AO,AU,Tryz.results170,Aw,h1]
theorem AFK (a b:Int)(ha : -9000000000000000000<=a)(ha':a<=9000000000000000000)(hb:b=100\/b=2):AC AD 171 [.c (.int .i64 a),.c (.int .i64 b)] (.c (.int .i64 (quot a b))):=by
 have h1:=Int.mul_tdiv_add_tmod a b;have ER : -b<a.tmod b/\a.tmod b<b:=by
  rcases hb with rfl|rfl
  . exact⟨by have:=Z3 a (b:=100) (by omega);omega,Va a (by omega)⟩
  . exact⟨by have:=Z3 a (b:=2) (by omega);omega,Va a (by omega)⟩
 have hb0 : ¬b<0:=by omega
 have JJ : ¬b=0:=by omega
 obtain⟨q,hq⟩:=AE (a.tdiv b);obtain⟨r,hr⟩:=AE (a.tmod b);have hQ:quot a b=if 0<=r/\b - r<=r then q+1 else if r<0/\b+r<= -r then q - 1 else q:=by unfold quot;rw[hq,hr]
 rw[hq,hr]at h1;rw[hr]at ER;have hqb : -9000000000000000001<=q/\q<=9000000000000000001:=by rcases hb with rfl|rfl<;>omega
 have w1:Ad.wrap q=q:=Aq;have w2:Ad.wrap r=r:=Aq;have w3:Ad.wrap (b - r)=b - r:=Aq;have w4:Ad.wrap (b+r)=b+r:=Aq;have w5:Ad.wrap (-r)= -r:=Aq;have w6:Ad.wrap (q+1)=q+1:=Aq;have w7:Ad.wrap (q - 1)=q - 1:=Aq;rw[hQ];clear hQ h1;by_cases c1:0<=r
 . by_cases c2:b - r<=r
   . refine en SG Vk ?_;refine go (cj @hb0<|cj @JJ<|cj @hq<|cj @hr<|cj @w1<|cj @w2<|cj @w3<|cj @w6<|cj @c1<|@c2) ?_;simp[Aj,AV,AZ,Aa,V.AP,V.AO,AU,Vm,c1,c2]
   . have c3 : ¬r<0:=by omega
     refine en SG Vk ?_;refine go (cj @hb0<|cj @JJ<|cj @hq<|cj @hr<|cj @w1<|cj @w2<|cj @w3<|cj @w6<|cj @c1<|cj @c2<|@c3) ?_;simp[Aj,AV,AZ,Aa,V.AP,V.AO,AU,Vm,c1,c2,c3]
 . have c3:r<0:=by omega
   by_cases c2:b+r<= -r
   . refine en SG Vk ?_;refine go (cj @hb0<|cj @JJ<|cj @hq<|cj @hr<|cj @w1<|cj @w2<|cj @w4<|cj @w5<|cj @w7<|cj @c1<|cj @c2<|@c3) ?_;simp[Aj,AV,AZ,Aa,V.AP,V.AO,AU,Vm,c1,c2,c3]
   . refine en SG Vk ?_;refine go (cj @hb0<|cj @JJ<|cj @hq<|cj @hr<|cj @w1<|cj @w2<|cj @w4<|cj @w5<|cj @w7<|cj @c1<|cj @c2<|@c3) ?_;simp[Aj,AV,AZ,Aa,V.AP,V.AO,AU,Vm,c1,c2,c3]
theorem Dn (n p:Int):AC AD 106 [.c (.int .i64 n),.c (.int .i64 p)] (.c (.int .i64 (scale n p))):=by
 cases hv:Aw n with
 | false =>
   have hs:scale n p=0:=by simp[scale,hv]
   refine en IB pG ?_;refine Ac ?_;refine gc @hv (NB n) Ls ?_;refine go @hv ?_;simp[Aj,AV,AZ,Aa,V.AP,V.AO,AU,pU,hs]
 | true =>
   have hv':=hv;simp[Aw]at hv';by_cases h1:p<0
   . have hs:scale n p=0:=by unfold scale;rw[if_neg];omega
     refine en IB pG ?_;refine Ac ?_;refine gc (cj @hv<|@h1) (NB n) Ls ?_;refine go @hv ?_;simp[Aj,AV,AZ,Aa,V.AP,V.AO,AU,pU,hs]
   . by_cases h2:10000<p
     . have hs:scale n p=0:=by unfold scale;rw[if_neg];omega
       refine en IB pG ?_;refine Ac ?_;refine gc (cj @hv<|cj @h1<|@h2) (NB n) Ls ?_;refine go @hv ?_;simp[Aj,AV,AZ,Aa,V.AP,V.AO,AU,pU,hs]
     . have hs:scale n p=quot (n*p) 100:=by rw[AR8];unfold scale;rw[if_pos ⟨hv,by omega,by omega⟩]
       have hb:=PA n p 1073741824 10000 (by omega) (by omega) (by omega) (by omega);have hw:Ad.wrap (n*p)=n*p:=Aq;refine en IB pG ?_;refine Ac ?_;refine gc (cj @hv<|cj @h1<|@h2) (NB n) Ls ?_;refine go (cj @hv<|@hw) ?_;refine BY (AFK (n*p) 100 (by omega) (by omega) (.inl rfl)) SG ?_;refine Ac ?_;simp[Aj,AV,AZ,Aa,V.AP,V.AO,AU,pU,hs]
def J6 (o:Option Ag):V:=.Bk [.agg ((o.getD Ag.zero).row.map V.c),.c (.bool o.isSome)]
theorem r8 (f:AI)(name:ByteArray)(hl:f.CO.length<=maxLen):AC AD 158 [.agg f.vs,.c (.str name)] (J6 (f.find name)):=by
 unfold maxLen at hl;refine en Tryz.func158 Tryz.ntmps158 ?_;refine go @FZ.eq_1 ?_;refine lp (ι:={ k:Nat // k<=f.CO.length/\f.find name=G9 name (f.CO.drop k) }) (fun k=>[(10,.c (.int .i64 (k.1:Int))),(5,.c (.bool false))]) (fun _=>[.box 27 f.vs false,.box 84 (Ag.zero.row.map V.c) false]) (fun k=>f.CO.length - k.1) ⟨0,by simp[AI.find]⟩ ?_ ?_;all_goals simp only[Br,Bl,B7,BC,Az]
 . refine Le.BV (by simp[A5,Ag.zero,Ag.row])
 . rintro ⟨k,hk,hI⟩;by_cases hlt:k<f.CO.length
   . obtain⟨g,hg⟩:=AE (f.CO[k]);rw[Cz hlt,hg]at hI;by_cases he:g.name=name
     . have hF:f.find name=some g:=by rw[hI];simp[G9,he]
       refine go (cj @hlt<|cj @hg<|cj @he<|cj @FZ.eq_1<|@Ag.row.eq_1) ?_;simp[Aj,AV,AZ,Aa,V.AP,V.AO,AU,Tryz.results158,J6,hF,Ag.row,he]
     . have hw:Ad.wrap ((k:Int)+1)=((k+1:Nat):Int):=by rw[Aq];simp
       refine go (cj @hlt<|cj @hg<|cj @he<|cj @FZ.eq_1<|cj @Ag.row.eq_1<|@hw) ?_;refine⟨⟨k+1,by omega,by rw[hI];simp[G9,he]⟩,by simp only;omega,?_⟩;refine Le.BV (by simp[A5,Ag.zero,Ag.row])
   . have hF:f.find name=none:=by rw[hI,C5 (by omega)];rfl
     refine go (cj @hlt<|cj @Ag.zero.eq_1<|@Ag.row.eq_1) ?_;simp[Aj,AV,AZ,Aa,V.AP,V.AO,AU,Tryz.results158,J6,hF,Ag.zero,Ag.row]
theorem ZX (f:AI)(name:ByteArray)(hl:f.CO.length<=maxLen):AC AD 291 [.agg f.vs,.c (.str name)] (Dp (f.pick name)):=by
 refine en aM Tryz.ntmps291 ?_;refine Ac ?_;refine gc (cj @J6.eq_1<|@Ag.row.eq_1) (r8 f name hl) Tryz.func158 ?_;cases hf:f.find name with
 | some g =>
   refine go @Ag.row.eq_1 ?_;simp[Aj,AV,AZ,Aa,V.AP,V.AO,AU,yQ,Dp,AI.pick,hf,Ag.row]
 | none =>
   refine go (cj @Ag.zero.eq_1<|@Ag.row.eq_1) ?_;refine gc (cj @J6.eq_1<|@Ag.row.eq_1) (r8 f ⟨#[63]⟩ hl) Tryz.func158 ?_;cases hq:f.find ⟨#[63]⟩with
   | some g =>
     refine go @Ag.row.eq_1 ?_;simp[Aj,AV,AZ,Aa,V.AP,V.AO,AU,yQ,Dp,AI.pick,hf,hq,Ag.row]
   | none =>
     refine go (cj @Ag.zero.eq_1<|@Ag.row.eq_1) ?_;simp[Aj,AV,AZ,Aa,V.AP,V.AO,AU,yQ,Dp,AI.pick,hf,hq,Ag.zero,Ag.row]
theorem AHh (lo hi:Int)(l:List Int)(hl:l.length<=maxLen):AC AD 144 [.c (.int .i64 lo),.c (.int .i64 hi),.c (Ab l)] (.c (.bool (Bn lo hi l))):=by
 unfold maxLen at hl;refine en oq Tryz.ntmps144 ?_;refine go @Ab.eq_1 ?_;refine lp (ι:={ k:Nat // k<=l.length/\Bn lo hi l=Bn lo hi (l.drop k) }) (fun k=>[(11,.c (.int .i64 (k.1:Int))),(6,.c (.bool false))]) (fun _=>[]) (fun k=>l.length - k.1) ⟨0,by simp⟩ ?_ ?_;all_goals simp only[Br,Bl,B7,BC,Az]
 . refine Le.BV (by simp[A5])
 . rintro ⟨k,hk,hI⟩;by_cases hlt:k<l.length
   . obtain⟨n,hn⟩:=AE (l[k]);rw[Cz hlt,hn]at hI;by_cases h1:n<lo
     . have e:Bn lo hi l=false:=by rw[hI];simp[Bn];omega
       refine go (cj @hlt<|cj @hn<|cj @h1<|@Ab.eq_1) ?_;simp[Aj,AV,AZ,Aa,V.AP,V.AO,AU,yC,e]
     . by_cases h2:hi<n
       . have e:Bn lo hi l=false:=by rw[hI];simp[Bn];omega
         refine go (cj @hlt<|cj @hn<|cj @h1<|cj @h2<|@Ab.eq_1) ?_;simp[Aj,AV,AZ,Aa,V.AP,V.AO,AU,yC,e]
       . have hw:Ad.wrap ((k:Int)+1)=((k+1:Nat):Int):=by rw[Aq];simp
         refine go (cj @hlt<|cj @hn<|cj @h1<|cj @h2<|cj @Ab.eq_1<|@hw) ?_;refine⟨⟨k+1,by omega,by rw[hI];simp[Bn];omega⟩,by simp only;omega,?_⟩;refine Le.BV (by simp[A5])
   . have e:Bn lo hi l=true:=by rw[hI,C5 (by omega)];rfl
     refine go (cj @hlt<|@Ab.eq_1) ?_;simp[Aj,AV,AZ,Aa,V.AP,V.AO,AU,yC,e]
theorem kY (g:Ag):AC AD 337 [Dp g] (.c (.int .i64 (Ad.wrap (g.h+g.d)))):=by
 unfold Dp;refine AC.intro Tryz.func337 rfl ?_;simp only[Tryz.ntmps337,Al,A8,BQ,B6,Nat.reduceAdd,Nat.reduceSub,Ao,C8,Bg,Bh,Ag.row];refine Ac ?_;simp[Aj,AV,AZ,Aa,V.AP,V.AO,AU,Tryz.results337]
theorem fq (n p:Int):AC AD 322 [.c (.int .i64 n),.cp [.int .i64 p] 0] (.c (.int .i64 (scale n p))):=by
 refine en aP Tryz.ntmps322 ?_;refine Ac ?_;refine BY (Dn n p) IB ?_;refine Ac ?_;simp[Aj,AV,AZ,Aa,V.AP,V.AO,AU,Tryz.results322]
def VF (q:Ag×Int):V:=.Bk [Dp q.1,Af q.2]
theorem nQ (g:Ag)(p:Int):AC AD 290 [Dp g,.c (.int .i64 p)] (VF (Ge g p)):=by
 unfold Dp;refine AC.intro Tryz.func290 rfl ?_;simp only[Tryz.ntmps290,Al,A8,BQ,B6,Nat.reduceAdd,Nat.reduceSub,Ao,C8,Bg,Bh,Ag.row];with_reducible refine AW.seq ?_
 with_reducible refine AW.region ?_
 with_reducible refine Bw (by simp[Ao];first|exact rfl|exact⟨rfl,rfl⟩) ?_
 with_reducible refine B9 ?_
 with_reducible refine G7 ?_
 refine AW.AR 1 rfl (by simp[toCs,toC];exact rfl) (by simp[V.BG,V.AR];exact rfl) (by simp[O.AR,V.BG,V.AR];exact rfl) ?_;refine Ac ?_;refine gc @Ab.eq_1 (AHh 1 1000 [p] (by simp[maxLen])) oq ?_;cases h1:Bn 1 1000 [p]with
 | false =>
   refine Ac ?_;simp[Aj,AV,AZ,Aa,V.AP,V.AO,AU,yP,VF,Dp,Af,Ge,h1,Ag.zero,Ag.row]
 | true =>
   refine Ac ?_;refine gc (cj @Ab.eq_1<|@Ag.Gz.eq_1) (AHh (-20000) 20000 g.Gz (by simp[maxLen,Ag.Gz])) oq ?_;cases h2:Bn (-20000) 20000 g.Gz with
   | false =>
     have Fa:=h2;simp only[Ag.Gz]at Fa;refine go @Fa ?_;simp[Aj,AV,AZ,Aa,V.AP,V.AO,AU,yP,VF,Dp,Af,Ge,h1,h2,Ag.zero,Ag.row]
   | true =>
     have Fa:=h2;simp only[Ag.Gz]at Fa;refine go @Fa ?_;refine BY (fq g.w p) aP ?_;refine BY (fq g.h p) aP ?_;refine BY (fq g.d p) aP ?_;refine BY (fq g.DY p) aP ?_;refine BY (fq g.attach p) aP ?_;refine Ac ?_;simp[Aj,AV,AZ,Aa,V.AP,V.AO,AU,yP,VF,Dp,Af,Ge,h1,h2,Ag.scaled,Ag.row]
def Cl (f:AI)(name:ByteArray)(p:Int):AA×Int:=
 if (Ge (f.pick name) p).2=0 then(Mw (Ge (f.pick name) p).1 p,0)else(AA.zero,(Ge (f.pick name) p).2)
def Bd (q:AA×Int):V:=.Bk [BD q.1,Af q.2]
section
variable {S:Ba} {w:World}
theorem ASy {l:List C}{b off:Nat}(h:CR S w l b off):∃row:Array Value,IC w b off row/\Bj S w l row.toList/\row.size=l.length:=by
 obtain⟨vs,h1,h2,_⟩:=CR.vals l b off h;refine⟨vs.toArray,fun j hj=>?_,by simpa using h1,by simpa using h1.len⟩;have hj':j<vs.length:=by simpa using hj
 rw[h2 j vs[j] (List.getElem?_eq_getElem hj')];simp[hj']
theorem nU {α:Type}(r:α->List C)(d:α->D)(h : ∀x vs,Bj S w (r x) vs->Rd w (d x) vs):∀(l:List α) (v:Value),Ap S w (.sl (l.map r)) v->Rd w (.sl (l.map d)) [v]:=by
 have key : ∀(l:List α) (b off:Nat),Df S w (l.map r) b off->I8 w (l.map d) b off:=by
  intro l;induction l with
  | nil=>intro b off _;simp only[A8,I8]
  | cons x l ih =>
    intro b off hx;simp only[Al,Df]at hx;obtain⟨row,k1,k2,k3⟩:=ASy hx.1;simp only[Al,I8];exact⟨row,k1,h x _ k2,by rw[k3];exact ih b _ hx.2⟩
 intro l v hv;simp only[Ap,Cg]at hv;obtain⟨A,c,rfl,h1,h2,h3⟩:=hv;simp only[Rd,Cg];refine⟨A,c,rfl,h1,h2,fun hne=>?_⟩;obtain⟨b,off,es,hA,_,hr⟩:=h3 (by intro e;apply hne;cases l with|nil=>rfl|cons x l=>simp at e);exact⟨b,off,hA,key l b off hr⟩
theorem ALJ (g:Ag)(vs:List Value)(h:Bj S w g.row vs):Rd w g.ds vs:=by
 simp only[Ag.row,Bj,Ap]at h;obtain⟨v0,r0,rfl,⟨rfl,h0⟩,v1,r1,rfl,⟨rfl,h1⟩,v2,r2,rfl,⟨rfl,h2⟩,v3,r3,rfl,⟨rfl,h3⟩,v4,r4,rfl,⟨rfl,h4⟩,v5,r5,rfl,⟨rfl,h5⟩,rfl⟩:=h;rw[AFR];exact⟨rfl,h0,TK.1 h1,TK.1 h2,TK.1 h3,TK.1 h4,TK.1 h5⟩
theorem AQk (p:Part)(vs:List Value)(h:Bj S w p.row vs):Rd w p.ds vs:=by
 simp only[Part.row,Bj,Ap]at h;obtain⟨v0,r0,rfl,⟨rfl,h0⟩,v1,r1,rfl,rfl,rfl⟩:=h;rw[AFT];exact⟨rfl,h0⟩
theorem AUu (s:A6)(vs:List Value)(h:Bj S w s.row vs):Rd w s.ds vs:=by
 simp only[A6.row,Bj]at h;obtain⟨v0,r0,rfl,h0,v1,r1,rfl,h1,v2,r2,rfl,h2,v3,r3,rfl,h3,rfl⟩:=h;simp only[Ap]at h0 h3;obtain⟨rfl,h0⟩:=h0;obtain⟨rfl,h3⟩:=h3;rw[AFU];exact⟨v1,v2,rfl,h0,nU (fun n=>[.str n]) D.str (fun n vs h=>by
  simp only[Bj,Ap]at h;obtain⟨v,r,rfl,⟨rfl,hs⟩,rfl⟩:=h;rw[vo];exact⟨rfl,hs⟩) s.Bb v1 h1,nU Part.row Part.ds AQk s.parts v2 h2,TK.1 h3⟩
theorem AC2 : ∀(l:List Int) (vs:List Value),Bj S w (l.map (C.int .i64)) vs->vs=l.map (Value.int .i64)/\∀n∈l,Lw n
 | [],vs,h=>by simp only[A8,Bj]at h;exact⟨h,by simp⟩
 | n::l,vs,h=>by
   simp only[Al,Bj,Ap]at h;obtain⟨v,r,rfl,⟨rfl,hw⟩,h⟩:=h;obtain⟨rfl,h2⟩:=AC2 l r h;exact⟨rfl,fun m hm=>by rcases List.mem_cons.1 hm with rfl|hm;exact TK.1 hw;exact h2 m hm⟩
theorem AK6 (f:AI)(vs:List Value)(h:Bj S w f.row vs):Rd w f.ds vs:=by
 simp only[AI.row,Bj]at h;obtain⟨v0,r0,rfl,h0,v1,r1,rfl,h1,h2⟩:=h;obtain⟨rfl,h3⟩:=AC2 _ _ h2;rw[AFQ];exact⟨v0,v1,rfl,nU Ag.row Ag.ds ALJ _ v0 h0,nU A6.row A6.ds AUu _ v1 h1,h3⟩
theorem AL.toC {x:Cx} : ∀(l:List C) (vs:List Value),AL x w (l.map V.c) vs->Bj x.S w l vs
 | [],vs,h=>by simpa only[A8,AL,Bj]using h
 | c::l,vs,h=>by
   simp only[Al,AL,CV]at h;obtain⟨v,r,rfl,h1,h2⟩:=h;simp only[Bj];exact⟨v,r,rfl,h1,AL.toC l r h2⟩
end
theorem Mv (f:AI):AC AD 92 [.agg f.vs] (.c (.bool f.valid)):=by
 intro S w us hS C9;simp only[AL,CV]at C9;obtain⟨u,ur,rfl,⟨cs,rfl,hcs⟩,rfl⟩:=C9;have hf:Rd w f.ds cs.toList:=AK6 f _ (AL.toC f.row _ hcs);refine(AVa f cs w hf).mono ?_;rintro r w' ⟨rfl,hk⟩;exact⟨_,S,rfl,hk,⟨fun _ _ h=>h,fun b j v _ hc=>hk.cell hc⟩,fun b j h=>.inl h,by simp only[CV,Ap]⟩
def Oa (f:AI)(name:ByteArray)(p:Int):AA×Int:=if f.valid=true then Cl f name p else(AA.zero,1)
theorem kW (f:AI)(name:ByteArray)(p:Int)(hl:f.CO.length<=maxLen):AC AD 223 [.agg f.vs,.c (.str name),.c (.int .i64 p)] (Bd (Oa f name p)):=by
 have hR:Cl f name p=if (Ge (f.pick name) p).2=0 then(Mw (Ge (f.pick name) p).1 p,0)else(AA.zero,(Ge (f.pick name) p).2):=rfl
 have hb:(Ge (f.pick name) p).2=0->(-200000<=(Ge (f.pick name) p).1.w/\(Ge (f.pick name) p).1.w<=200000)/\(-200000<=(Ge (f.pick name) p).1.DY/\(Ge (f.pick name) p).1.DY<=200000):=by
  intro h;obtain⟨h1,h2,h3⟩:=ATZ _ _ h;have:=AGB _ _ h1 h2;rw[h3];exact⟨this.1,this.2.2.2⟩
 cases hv:f.valid with
 | false =>
   refine en o5 Tryz.ntmps223 ?_;refine Ac ?_;refine gc @hv (Mv f) Gm ?_;refine Ac ?_;simp[Aj,AV,AZ,Aa,V.AP,V.AO,AU,yL,Bd,BD,Af,Oa,hv,AA.zero,AA.row,AA.rows,Ab]
 | true =>
   refine en o5 Tryz.ntmps223 ?_;refine Ac ?_;refine gc @hv (Mv f) Gm ?_;refine Ac ?_;refine gc (cj @Dp.eq_1<|@Ag.row.eq_1) (ZX f name hl) aM ?_;refine gc (cj @VF.eq_1<|cj @Dp.eq_1<|cj @Af.eq_1<|@Ag.row.eq_1) (nQ (f.pick name) p) Tryz.func290 ?_;obtain⟨q,hq⟩:=AE (Ge (f.pick name) p);rw[hq]at hR hb ⊢;obtain⟨g,er⟩:=q;simp only at hR hb ⊢;by_cases he:er=0
   . obtain⟨b1,b2⟩:=hb he;have hw:Ad.wrap (g.w+if 0<g.DY then g.DY else 0)=g.w+if 0<g.DY then g.DY else 0:=by split<;>exact Aq
     refine go (cj @he<|@hw) ?_;simp[Aj,AV,AZ,Aa,V.AP,V.AO,AU,yL,Bd,BD,Af,Oa,hv,hR,he,Mw,AA.row,AA.rows,Ab,mx]
   . refine go @he ?_;simp[Aj,AV,AZ,Aa,V.AP,V.AO,AU,yL,Bd,BD,Af,Oa,hv,hR,he,AA.zero,AA.row,AA.rows,Ab]
def A6.zero:A6:=⟨⟨#[]⟩,[],[],0⟩
def GF (s:A6):V:=.agg (s.row.map V.c)
def L3 (o:Option A6):V:=.Bk [GF (o.getD A6.zero),.c (.bool o.isSome)]
end Go.Proofs.YtpodcjcajanldaaGreat
