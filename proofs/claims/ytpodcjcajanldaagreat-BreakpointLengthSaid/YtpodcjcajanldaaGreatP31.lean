/- Part of the proof of breakpointLength.proved. Conditions: none. (Joined and shortened by a program.) -/
import Derived.Test.YtpodcjcajanldaaGreatP30
set_option linter.unusedVariables false
set_option linter.unusedSimpArgs false
set_option maxRecDepth 100000
set_option maxHeartbeats 16000000
open Int renaming mul_tdiv_add_tmod→gb,lt_or_le→Z2,tmod_nonneg→Pb,neg_tmod→gg,lt_tmod_of_pos→Z3,tmod_lt_of_pos→Va
open Go.Proofs.Tryz renaming prog→AD,func171→SG,ntmps171→Vk,results171→Vm,func243→aK,ntmps243→aV,func92→Gm,results243→az,func301→aN
open Go.IntKind renaming i64→Ad
open List renaming replicate_succ→Ao,drop_succ_cons→Be,drop_zero→BO,any_eq_true→X9,getElem?_take→Jv,all_eq_true→Ee,mem_of_getElem?→C6,replicate→As,map_append→EX
open Option.some renaming injEq→BE
open Prod.mk renaming injEq→Cp
namespace Go.Proofs.YtpodcjcajanldaaGreat
open Go.RowKit
theorem AR9 (a:Int):quot a 18=FI a 18:=by
 unfold quot FI;have h1:=gb a 18;rcases Z2 a 0 with h|h
 . have h2:a.tmod 18<=0:=by have:=Pb (a:= -a) 18 (by omega);rw[gg]at this;omega
   have h3 : -18<a.tmod 18:=by have:=Z3 a (b:=18) (by omega);omega
   generalize a.tmod 18=r at *
   generalize a.tdiv 18=q at *
   repeat' split
   all_goals omega
 . have h2:0<=a.tmod 18:=Pb 18 h;have h3:a.tmod 18<18:=Va a (by omega);generalize a.tmod 18=r at *
   generalize a.tdiv 18=q at *
   repeat' split
   all_goals omega
theorem ASB (a:Int)(ha : -9000000000000000000<=a)(ha':a<=9000000000000000000):AC AD 171 [.c (.int .i64 a),.c (.int .i64 18)] (.c (.int .i64 (quot a 18))):=by
 have h1:=gb a 18;have hr : -18<a.tmod 18/\a.tmod 18<18:=by
  rcases Z2 a 0 with h|h
  . have h2:a.tmod 18<=0:=by have:=Pb (a:= -a) 18 (by omega);rw[gg]at this;omega
    have h3 : -18<a.tmod 18:=by have:=Z3 a (b:=18) (by omega);omega
    omega
  . have h2:0<=a.tmod 18:=Pb 18 h;have h3:a.tmod 18<18:=Va a (by omega);omega
 have e:quot a 18=if 0<=a.tmod 18/\18 - a.tmod 18<=a.tmod 18 then a.tdiv 18+1 else if a.tmod 18<0/\18+a.tmod 18<= -a.tmod 18 then a.tdiv 18 - 1 else a.tdiv 18:=rfl
 rw[e];have hw1:Ad.wrap (a.tdiv 18)=a.tdiv 18:=Aq;have hw2:Ad.wrap (a.tmod 18)=a.tmod 18:=Aq;obtain⟨R,hR⟩:=AE (a.tmod 18);obtain⟨D,hD⟩:=AE (a.tdiv 18);rw[hR]at hr hw2 h1 ⊢;rw[hD]at hw1 h1 ⊢;have bD : -9000000000000000000<=D/\D<=9000000000000000000:=by omega
 clear h1 e;by_cases c1:0<=R
 . by_cases c2:18 - R<=R
   . rw[if_pos ⟨c1,c2⟩];have OW:=iff_true_intro c1;have rD:=iff_true_intro c2;refine en SG Vk ?_;exact wz (cj @hR<|cj @hD<|cj @hw1<|cj @hw2<|cj @OW<|cj @rD<|Vm) trivial
   . rw[if_neg (fun h=>c2 h.2),if_neg (fun h=>by omega)];have OW:=iff_true_intro c1;have c3 : ¬R<0:=by omega
     refine en SG Vk ?_;exact wz (cj @hR<|cj @hD<|cj @hw1<|cj @hw2<|cj @OW<|cj @c2<|cj @c3<|Vm) trivial
 . have c3:R<0:=by omega
   have z7:=iff_true_intro c3;by_cases c4:18+R<= -R
   . rw[if_neg (fun h=>c1 h.1),if_pos ⟨c3,c4⟩];have c4':=iff_true_intro c4;refine en SG Vk ?_;exact wz (cj @hR<|cj @hD<|cj @hw1<|cj @hw2<|cj @c1<|cj @z7<|cj @c4'<|Vm) trivial
   . rw[if_neg (fun h=>c1 h.1),if_neg (fun h=>c4 h.2)];refine en SG Vk ?_;exact wz (cj @hR<|cj @hD<|cj @hw1<|cj @hw2<|cj @c1<|cj @z7<|cj @c4<|Vm) trivial
def XP (n a:Int):Int:=if Aw n=true then FI (n*a) 18 else 0
theorem AD1 {n a:Int}(hn : -1073741824<=n/\n<=1073741824)(ha:1<=a/\a<=10): -10737418240<=n*a/\n*a<=10737418240:=by
 have:=PA n a 1073741824 10 (by omega) (by omega) (by omega) (by omega);omega
theorem AEw (n a:Int)(ha:1<=a/\a<=10):AC AD 212 [.c (.int .i64 n),.c (.int .i64 a),.c (.int .i64 18)] (.c (.int .i64 (XP n a))):=by
 have h1:=NB n;have h2:=NB a;have h3:=NB 18;rw[show Aw a=true by simp[Aw];omega]at h2;rw[show Aw 18=true by decide +kernel]at h3;unfold XP;cases hv:Aw n with
 | false =>
   rw[hv]at h1;rw[if_neg (by simp)];refine en Tryz.func212 Tryz.ntmps212 ?_;exact wz (cj @Af.eq_1<|Tryz.results212) (cj h1<|cj h2<|cj h3<|trivial)
 | true =>
   rw[hv]at h1;rw[if_pos rfl];simp[Aw]at hv;have hb:=AD1 hv ha;have h4:=ASB (n*a) (by omega) (by omega);rw[AR9]at h4;have hw:Ad.wrap (n*a)=n*a:=Aq;obtain⟨M,hM⟩:=AE (n*a);rw[hM]at h4 hw ⊢;refine en Tryz.func212 Tryz.ntmps212 ?_;exact wz (cj @Af.eq_1<|cj @hM<|cj @hw<|Tryz.results212) (cj h1<|cj h2<|cj h3<|cj h4<|trivial)
def VL:List (List Int):=[[0,1,-2,-3,0,0,0,-1],[1,1,0,-3,0,0,0,-1],[-2,-2,0,0,-2,0,0,-2],[-3,-3,0,0,-3,0,0,-3],[0,0,0,0,0,0,0,0],[0,1,-2,-3,0,0,0,-1],[-1,-1,0,-1,-1,-1,-1,-1],[-1,1,-2,-3,-1,0,-1,-1]]
def PM (l r:Nat):Int:=(VL.getD l []).getD r 0
def Lk (l r:Nat)(v:Int):Int:=if PM l r<0 then(if v > 1 then 0 else -(PM l r))else PM l r
def Md (q:Int)(l r:Nat)(v:Int):Int:=if Lk l r v=0 then 0 else XP q (Lk l r v+2)
def wh:V:=.agg (VL.flatten.map fun n=>.c (.int .i64 n))
theorem ARx:AC AD 211 [] wh:=by
 unfold wh;obtain⟨CS,RK⟩:=AE ((VL.flatten.map fun n=>V.c (.int .i64 n)));have CU:CS.length=64:=by rw[<-RK];rfl
 have hput : ∀cs:List V,cs.length=64->Ek cs 0 CS=CS:=fun cs h=>Zd (by rw[CU,h])
 have Eu:CS.all V.one=true:=by rw[<-RK];rfl
 have Dv:CS.take 64=CS:=List.take_of_length_le (by omega);have hpb:V.AO CS=some CS:=by rw[<-RK];rfl
 rw[RK];refine en Tryz.func211 Tryz.ntmps211 ?_;refine wu (CJ.mk 1) Tryz.results211 trivial ⟨?_⟩;refine AW.DM ?_;refine SW.take 8 ?_;with_reducible refine Bw (by simp[Ao];first|exact rfl|exact⟨rfl,rfl⟩) ?_
 refine B9 ?_;simp only[Be,BO];refine SW.op (.agg CS) (by simp[gate]) rfl (fun S0 w0 x a w hA=>vH hA.1 rfl (fun p _=>EH hA.2 p.2) AHN AHM (by rw[<-RK];kernel_rfl)) ?_;simp only[St.step,St.put,CG,List.set_cons_succ,List.set_cons_zero];refine SW.take 1 ?_;with_reducible refine Bw (by simp[Ao,hput,CU,Eu];first|exact rfl|exact⟨rfl,rfl⟩) ?_
 refine B9 ?_;simp only[Be,BO];refine SW.nil ?_;exact wz (cj @CU<|cj @Eu<|cj @hpb<|cj @Dv<|Tryz.results211) trivial
def Yk:ByteArray:=⟨#[46]⟩
def Hl (f:AI)(name:ByteArray)(need p:Int):AA×Int:=
 if f.valid=false\/F2 name=false then(AA.zero,1)
 else if p<1\/100<p then(AA.zero,2)
 else if name=Yk then(CB 0 0 0 [],0)
 else Ic (F4 f name need p).1 (Gu f p)
theorem fF {s:ByteArray}(h:F2 s=true):s.size<=16:=by simp[F2]at h;omega
theorem ARS (f:AI)(name:ByteArray)(need p:Int)(hf:f.Fit)(hn:name.size<=maxLen)(hz : ∀s∈f.CD,s.Bb.length<=1000):AC AD 243 [.agg f.vs,.c (.str name),.c (.int .i64 need),.c (.int .i64 p)] (Bd (Hl f name need p)):=by
 have ED:=Mv f;have HO:=AKa name;cases hv:f.valid with
 | false =>
   have e:Hl f name need p=(AA.zero,1):=if_pos (.inl hv);rw[e];rw[hv]at ED;simp only[Bd,Ay,Af];refine en aK aV ?_;refine Ac ?_;refine BY (ED) Gm ?_;refine Ac ?_;simp[Aj,AV,AZ,Aa,V.AP,V.AO,AU,az,Eo]
 | true =>
   rw[hv]at ED;cases hb:F2 name with
   | false =>
     have e:Hl f name need p=(AA.zero,1):=if_pos (.inr hb);rw[e];rw[hb]at HO;simp only[Bd,Ay,Af];refine en aK aV ?_;refine Ac ?_;refine BY (ED) Gm ?_;refine BY (HO) aN ?_;refine Ac ?_;simp[Aj,AV,AZ,Aa,V.AP,V.AO,AU,az,Eo]
   | true =>
     rw[hb]at HO;have e1:Hl f name need p=if p<1\/100<p then(AA.zero,2)else if name=Yk then(CB 0 0 0 [],0)else Ic (F4 f name need p).1 (Gu f p):=if_neg (by simp[hv,hb])
     rw[e1];by_cases h1:p<1
     . rw[if_pos (.inl h1)];simp only[Bd,Ay,Af];refine en aK aV ?_;refine Ac ?_;refine BY (ED) Gm ?_;refine BY (HO) aN ?_;refine go @h1 ?_;simp[Aj,AV,AZ,Aa,V.AP,V.AO,AU,az,Eo]
     . by_cases h2:100<p
       . rw[if_pos (.inr h2)];simp only[Bd,Ay,Af];refine en aK aV ?_;refine Ac ?_;refine BY (ED) Gm ?_;refine BY (HO) aN ?_;refine go (cj @h1<|@h2) ?_;simp[Aj,AV,AZ,Aa,V.AP,V.AO,AU,az,Eo]
       . rw[if_neg (by omega)];by_cases h3:name=Yk
         . rw[if_pos h3];have J8:name=⟨#[46]⟩↔True:=iff_true_intro h3;have hl:=MX 0 0 0 [] trivial (by simp[AA.A9]);simp only[Bd,Ay,Af,AA.rows]at hl ⊢;refine en aK aV ?_;refine Ac ?_;refine BY (ED) Gm ?_;refine BY (HO) aN ?_;refine go (cj @h1<|cj @h2<|@J8) ?_;refine BY (hl) Tryz.func109 ?_;refine Ac ?_;simp[Aj,AV,AZ,Aa,V.AP,V.AO,AU,az]
         . rw[if_neg h3];have J8 : ¬name=⟨#[46]⟩:=h3;have DX:=xB nq f name need p hf;obtain⟨q1,q2⟩:=find_ok hv (by omega) (by omega) (fF hb) need (p:=p);have Fo:F4 f name need p=((F4 f name need p).1,0):=Prod.ext rfl q1;rw[Fo]at DX;obtain⟨S,hS⟩:=AE ((F4 f name need p).1);rw[hS]at DX q2 ⊢;have KC:=Dn f.params.EB p;have eA:scale f.params.EB p=Gu f p:=rfl;rw[eA]at KC;have hce:=AEk S (Gu f p) q2.Bc (by have:=q2.cnt;omega);obtain⟨A,hA⟩:=AE (Gu f p);rw[hA]at KC hce ⊢;obtain⟨Y,hY⟩:=AE (Ic S A);rw[hY]at hce ⊢;simp only[Bd,Ay,Af]at DX hce ⊢;refine en aK aV ?_;refine Ac ?_;refine BY (ED) Gm ?_;refine BY (HO) aN ?_;refine go (cj @h1<|cj @h2<|@J8) ?_;refine BY (DX) Tryz.func231 ?_;refine Ac ?_;refine BY (KC) Tryz.func106 ?_;refine BY (hce) Tryz.func222 ?_;refine Ac ?_;simp[Aj,AV,AZ,Aa,V.AP,V.AO,AU,az]
def Ri:V:=.c (.int .i64 100000000000000000000)
def V.Uk:V->Bool
 | .c (.int .i64 n)=>n==100000000000000000000
 | _=>false
theorem ACy {x:Cx}{w:World}{v:V}{u:Value}(h:v.Uk=true)(hv:CV x w v u):False:=by
 unfold V.Uk at h;split at h
 . have e:=eq_of_beq h;subst e;simp only[CV,Ap]at hv;exact absurd hv.2 (by decide +kernel)
 . cases h
def sy (t:List V):Prop:=∃(d:Nat) (v:V),t[d]?=some v/\v.Uk=true
def TZ (P:Program)(Z:List PanicEntry->Prop)(ops:List Oper)(K:List Ef->St->Prop)(l:List Oper)(acc:List Ef)(s:St):Prop:=∃es s',bZ P Z ops l s es s'/\K (acc++es) s'
section
variable {P:Program} {Z:List PanicEntry->Prop} {ops:List Oper} {K:List Ef->St->Prop} {acc:List Ef} {s:St}
theorem TZ.nil (h:K acc s):TZ P Z ops K [] acc s:=⟨[],s,⟨rfl,rfl⟩,by simpa using h⟩
theorem TZ.cons {o:Oper}{r:List Oper}(e:Ef)(h1:jJ P Z ops o s e)(h2 : ∀k ob,e.t=some (k,ob)->k<=s.h.length)(h:TZ P Z ops K r (acc++[e]) (s.step o.dst e.v e.t)):TZ P Z ops K (o::r) acc s:=by
 obtain⟨es,s2,h3,h4⟩:=h;exact⟨e::es,s2,⟨e,es,rfl,h1,h2,h3⟩,by simpa using h4⟩
theorem TZ.step {o:Oper}{r:List Oper}{e:Ef}{s1:St}(hg:gate ops s.t o.guard=some true)(hc:Jj o.op=false)(hs:PO P o s=some (e,s1))(h:TZ P Z ops K r (acc++[e]) s1):TZ P Z ops K (o::r) acc s:=by
 unfold PO at hs;split at hs
 . rename_i v t hap;simp only[BE,Cp]at hs;obtain⟨rfl,rfl⟩:=hs;refine TZ.cons _ (Vq.z ?_) (jo hap) h;intro S0 w0 x w a H g hl hr hk Q next hn;rw[Og hl hg];have su:(OP P (ev s.t) o.op).ap H s.h.length=some (v,t):=by rw[<-hap];exact zO fun k hk=>hr k (.inl hk)
   obtain⟨nx,w',x',u,hrun,D5,hcv,g',he,_⟩:=jk g (Ow hl) hk su;show o.wp P a w next Q;unfold Oper.wp;rw[hrun];rcases D5 with rfl|⟨rfl,rfl⟩
   . exact hn u x' w' g' he hcv
   . exact hn undef x' w' g' he hcv
 . cases hs
theorem TZ.off {o:Oper}{r:List Oper}(hg:gate ops s.t o.guard=some false)(h:TZ P Z ops K r (acc++[⟨.Bk [],none,none⟩]) (s.put o.dst (.Bk []))):TZ P Z ops K (o::r) acc s:=TZ.cons _ (AAn hg).z (fun _ _ e=>by cases e) h
theorem TZ.call {o:Oper}{r:List Oper}{f:FuncId}{Bx:List V}{res:V}(Cs:AC P f Bx res)(Au:GI P f=true)(hg:gate ops s.t o.guard=some true)(hc:Fv (ev s.t) o.op=some (f,Bx))(h:TZ P Z ops K r (acc++[⟨res,none,none⟩]) (s.step o.dst res none)):TZ P Z ops K (o::r) acc s:=by
 obtain⟨args,hc,hp⟩:=Xe hc;refine TZ.cons ⟨res,none,none⟩ (Vq.z ?_) (fun _ _ e=>by cases e) h;intro S0 w0 x w a H g hl hr hk Q next hn;rw[Og hl hg];obtain⟨fn,h1,h2,h3⟩:=UB Au;exact z8 g (Ow hl) hc (K:=fun v=>v=res) ⟨Bx,res,hp,Cs,⟨fn,h1,h2,by simpa using h3⟩,rfl⟩ fun v u x' w' hv g' he hcv=>by subst hv;exact hn u x' w' g' he hcv
theorem TZ.kC {o:Oper}{r:List Oper}{f:FuncId}{Bx:List V}{m:Nat}{R R':Obj->Prop}{res:V}(k:Nat)(Ij:AQ P f Bx m R R' (.ret res))(Au:GI P f=true)(hg:gate ops s.t o.guard=some true)(hc:Fv (ev s.t) o.op=some (f,Bx))(hk:s.h[k]?=some (.mp (Cf m R)))(h:TZ P Z ops K r (acc++[⟨res,some (k,.mp (Cf m R')),some k⟩]) (s.step o.dst res (some (k,.mp (Cf m R'))))):TZ P Z ops K (o::r) acc s:=by
 obtain⟨args,hcall,hp⟩:=Xe hc;refine TZ.cons ⟨res,some (k,.mp (Cf m R')),some k⟩ (Vq.z ?_) (fun k' ob e=>by cases e;exact Nat.le_of_lt (List.getElem?_eq_some_iff.1 hk).1) h;intro S0 w0 x w a H g hl hr _ Q next D5;rw[Og hl hg];show o.wp P a w next Q;exact cJ k g (Ow hl) Ij Au hcall hp ((hr k (.inl rfl)).trans hk) (fun _ er u x' w' g' he _ hcv=>by cases er;exact D5 u x' w' g' he hcv) (fun _ e=>nomatch e)
theorem TZ.JT {o:Oper}{r:List Oper}{f:FuncId}{Bx:List V}{m:Nat}{R:Obj->Prop}{ch:List PanicEntry}(k:Nat)(Ij:AQ P f Bx m R R (.JT ch))(Au:GI P f=true)(hg:gate ops s.t o.guard=some true)(hc:Fv (ev s.t) o.op=some (f,Bx))(hk:s.h[k]?=some (.mp (Cf m R)))(hz:Z ch)(h:TZ P Z ops K r (acc++[⟨Ri,none,some k⟩]) (s.step o.dst Ri none)):TZ P Z ops K (o::r) acc s:=by
 obtain⟨args,hcall,hp⟩:=Xe hc;refine TZ.cons ⟨Ri,none,some k⟩ ?_ (fun _ _ e=>by cases e) h;intro S0 w0 x w a H g hl hr _ Q next Ey D5;rw[Og hl hg];show o.wp P a w next Q;have hHk:=(hr k (.inl rfl)).trans hk;refine cJ k g (Ow hl) Ij Au hcall hp hHk (fun _ e=>nomatch e) fun ch' er x' w' g' he hnc=>?_
 cases er;refine Ey ch x' w' hz ?_ he;have e:H.upd (some (k,O.mp (Cf m R)))=H:=by
  funext i;simp only[Heap.upd,Heap.set];split
  . rename_i h;subst h;exact hHk.symm
  . rfl
 rwa [e]at g'
theorem TZ.dead {o:Oper}{r:List Oper}(hd:o.op.operands.toList.any (fun y=>(ev s.t y).Uk)=true)(h:TZ P Z ops K r (acc++[⟨Ri,none,none⟩]) (s.step o.dst Ri none)):TZ P Z ops K (o::r) acc s:=by
 refine TZ.cons ⟨Ri,none,none⟩ ?_ (fun _ _ e=>by cases e) h;intro S0 w0 x w a H g hl hr _ Q next Ey D5;obtain⟨y,hy,hi⟩:=X9.1 hd;exact(ACy hi (Ow hl y hy)).elim
end
theorem Good.AKK {S0:Ba}{w0:Bs}{x:Cx}{w:World}{H:Heap}{h:List O}(g:Good S0 w0 x w H)(n:Nat)(hn:w0.n0<=n)(hH : ∀k,k<n->H k=h[k]?)(ho:((h.take n).all (O.BA n))=true):Good S0 w0 (x.cut n) w (fun k=>(h.take n)[k]?):=by
 have Nr : ∀k o,(h.take n)[k]?=some o->H k=some o/\k<n:=by
  intro k o hk;rw[Jv]at hk;split at hk
  . rename_i h;exact⟨(hH k h).trans hk,h⟩
  . cases hk
 refine⟨fun k o hk=>?_,fun k hk=>?_,fun k k' o o' h1 h2=>g.inj k k' o o' (Nr k o h1).1 (Nr k' o' h2).1,fun k o j hk hx=>g.EI k o j (Nr k o hk).1 (by cases o<;>exact hx),g.ex,fun k o hk=>g.own k o (Nr k o hk).1,g.new,g.sub,g.keep,g.ext.ar,fun k hk=>⟨g.ext.dom k hk,Nat.lt_of_lt_of_le (w0.dl k hk) hn⟩,g.ext.loc⟩
 . obtain⟨h1,h2⟩:=Nr k o hk;obtain⟨h3,h4⟩:=g.ok k o h1;refine⟨⟨h3,h2⟩,?_⟩;cases o with
   | box ty cs fr =>
     obtain⟨a1,a2,vs,a3,a4,a5⟩:=h4;rw[Ee]at ho;exact⟨a1,a2,vs,a3,a4,AL.cut cs _ (ho _ (C6 hk)) a5⟩
   | tok ty es cur=>exact h4
   | mp R=>exact h4
   | hot ty es cur cs =>
     obtain⟨a1,a2,a3,a4,a5,vs,a6,a7,a8,a9⟩:=h4;rw[Ee]at ho;exact⟨a1,a2,a3,a4,a5,vs,a6,a7,a8,AL.cut cs _ (ho _ (C6 hk)) a9⟩
 . obtain⟨o,ho'⟩:=g.dom k hk.1;refine⟨o,?_⟩;rw[Jv,if_pos hk.2,<-hH k hk.2];exact ho'
def XN (O0:O)(e:Ef):Prop:=∀ob,e.t=some (0,ob)->ob=O0
theorem AW.AKd {P:Program}{Z:List PanicEntry->Prop}{n0 id:Nat}{ops:List Oper}{K:Exit->St->Prop}{s:St}{R:Nat->Obj->Prop}(hm:P.follows .mixedOrders=true)(hn:n0<=1)(h0:s.h[0]?=some (.mp R))(h:TZ P Z ops (fun es s'=>LP ops (es.map Ef.ks)=true/\(∀e∈es,XN (.mp R) e)/\(sy s'.t\/K .normal s')) ops [] s)(hp : ∀ch,Z ch->K (.panic ch) ⟨As s.t.length .any,[.mp R]⟩):AW ⟨none,n0⟩ P (.region id ops.toArray true) K s:=fun n S0 w0 x a w ZA hA=>by
 have e:({ w with drawn:=w.drawn+1 }:World)=w.drew:=rfl;have BR:CT S0 w0 x s a w.drew:=by
  obtain⟨g,he⟩:=hA.good.Tf (x':=x) (w':=w.drew) (AS.refl w).drew ⟨fun _ _ h=>h,fun b j v _ hc=>(AS.refl w).drew.cell hc⟩ rfl rfl (fun b j h=>.inl h);exact⟨g,AL.mono he _ _ hA.tm,hA.df.mono (.GA (AS.refl w).drew)⟩
 obtain⟨es,s',ht,hc,hkp,hK⟩:=h;simp only[List.nil_append]at hc hkp hK;refine wpIn_wide.2 (wp_region_any hm ?_);rw[e];refine ri (K:=fun s=>sy s.t\/K .normal s) (n:=1) ht hc hK (fun x s a w h hA=>?_) (fun e he k ob hk ht=>?_) (fun ch x a w H hz g hH FE GM=>?_) BR
 . rcases h with ⟨d,v,h1,h2⟩|h
   . obtain⟨u,_,hu⟩:=hA.tm.get d v h1;exact(ACy h2 hu).elim
   . exact⟨x,s,hA,h⟩
 . have:k=0:=by omega
   subst this;rw[hkp e he ob ht];exact h0
 . have Uh:s.h.take 1=[.mp R]:=by
    cases hs:s.h with
    | nil=>rw[hs]at h0;simp at h0
    | cons o r=>rw[hs]at h0;simp only[List.getElem?_cons_zero,BE]at h0;rw[h0];rfl
   have g2:=g.AKK 1 (Nat.le_trans ZA hn) hH (by rw[Uh];rfl);rw[Uh]at g2;refine⟨x.cut 1,⟨As s.t.length .any,[.mp R]⟩,⟨g2,?_,GM⟩,hp ch hz⟩;have:=Tc (x.cut 1) w s.t.length;refine AL.Rp (by simp[FE]) fun i v u hi _=>?_
   rw[List.getElem?_replicate]at hi;split at hi
   . cases hi;simp only[CV]
   . cases hi
section
variable {P:Program} {K:Exit->St->Prop} {ops:List Oper} {s:St}
structure BH (P:Program)(ops:List Oper)(K:Exit->St->Prop)(l:List Oper)(s:St):Prop where
 out:SW P ops K l s
theorem BH.MZ {n0 id:Nat}(h:BH P ops K ops s):AW ⟨none,n0⟩ P (.region id ops.toArray false) K s:=AW.DM h.out
theorem BH.done (h:K .normal s):BH P ops K [] s:=⟨SW.nil h⟩
theorem AG6 {o:Oper}{r:List Oper}{s1:St}(hg:gate ops s.t o.guard=some true)(hc:Jj o.op=false)(hs:PQ P o s=some s1)(h:SW P ops K r s1):SW P ops K (o::r) s:=SW.take 1 (by
 show EA P ops _ [o] s;unfold PQ at hs;split at hs
 . rename_i v t hap;cases hs;unfold EA;refine Hj hg ?_;unfold Pw;rw[V7 hc];simp only;rw[hap];exact h
 . cases hs)
theorem AUy {o:Oper}{r:List Oper}(hg:gate ops s.t o.guard=some false)(h:SW P ops K r (s.put o.dst (.Bk []))):SW P ops K (o::r) s:=SW.take 1 (by
 show EA P ops _ [o] s;unfold EA;exact Vy hg h)
theorem BH.h {ds:List (Option Nat)}(hd:ops.map (·.dst)=ds):∀(n:Nat) (b:Bool) {l l':List Oper} {s s':St},KP P ds n b l s=some (l',s')->BH P ops K l' s'->BH P ops K l s
 | n,true,[],l',s,s',h,hK=>by simp[KP]at h
 | n,false,[],l',s,s',h,hK=>by simp only[KP,BE,Cp]at h;obtain⟨rfl,rfl⟩:=h;exact hK
 | 0,b,o::r,l',s,s',h,hK=>by simp only[KP,BE,Cp]at h;obtain⟨rfl,rfl⟩:=h;exact hK
 | n+1,true,o::r,l',s,s',h,hK=>by
   subst hd;unfold KP at h;rw[ABV]at h;split at h
   . rename_i hg;split at h
     . rename_i hc;split at h
       . rename_i s1 hs;exact⟨AG6 hg hc hs (BH.h rfl n _ h hK).out⟩
       . cases h
     . cases h
   . rename_i hg;exact⟨AUy hg (BH.h rfl n _ h hK).out⟩
   . cases h
 | n+1,false,o::r,l',s,s',h,hK=>by
   subst hd;unfold KP at h;split at h
   . simp only[BE,Cp]at h;obtain⟨rfl,rfl⟩:=h;exact hK
   . rename_i QB;have hg:gate ops s.t o.guard=some true:=by rw[QB];rfl
     split at h
     . rename_i hc;split at h
       . rename_i s1 hs;exact⟨AG6 hg hc hs (BH.h rfl n _ h hK).out⟩
       . cases h
     . simp only[BE,Cp]at h;obtain⟨rfl,rfl⟩:=h;exact hK
theorem BH.c2 {o:Oper}{r:List Oper}{f:FuncId}{Bx:List V}{res:V}(Cs:AC P f Bx res)(Au:GI P f=true)(hg:gate ops s.t o.guard=some true)(hc:Fv (ev s.t) o.op=some (f,Bx))(h:BH P ops K r (s.step o.dst res none)):BH P ops K (o::r) s:=⟨SW.take 1 (zN Cs Au hg hc h.out)⟩
theorem BH.q {o:Oper}{r:List Oper}{f:FuncId}{Bx:List V}{m:Nat}{R R':Obj->Prop}{res:V}(Ij:AQ P f Bx m R R' (.ret res))(Au:GI P f=true)(hg:gate ops s.t o.guard=some true)(hc:Fv (ev s.t) o.op=some (f,Bx))(hk:s.h[0]?=some (.mp (Cf m R)))(h:BH P ops K r (s.step o.dst res (some (0,.mp (Cf m R'))))):BH P ops K (o::r) s:=by
 obtain⟨args,hcall,hp⟩:=Xe hc;exact⟨SW.kC 0 Ij Au hg hcall hp hk h.out⟩
theorem BH.p {o:Oper}{r:List Oper}{f:FuncId}{Bx:List V}{m:Nat}{R R':Obj->Prop}{ch:List PanicEntry}(Ij:AQ P f Bx m R R' (.JT ch))(Au:GI P f=true)(hg:gate ops s.t o.guard=some true)(hc:Fv (ev s.t) o.op=some (f,Bx))(hk:s.h[0]?=some (.mp (Cf m R)))(h:K (.panic ch) ⟨s.t,CG s.h (some (0,.mp (Cf m R')))⟩):BH P ops K (o::r) s:=by
 obtain⟨args,hcall,hp⟩:=Xe hc;exact⟨SW.z9 0 Ij Au hg hcall hp hk h⟩
theorem BH.Js {o:Oper}{r:List Oper}{b:Bool}{v:V}{t1 t2:List V}(hv:HK ops s.t o.guard=v)(hb:v=.c (.bool b))(hl:CI b)(e1:Dc ops s.t true o.guard=t1)(e2:Dc ops s.t false o.guard=t2)(h1:b=true->BH P ops K (o::r) ⟨t1,s.h⟩)(h2:b=false->BH P ops K (o::r) ⟨t2,s.h⟩):BH P ops K (o::r) s:=by
 subst e1 e2;cases e:b with
 | true=>have:=h1 e;rwa [VH hv hb e]at this
 | false=>have:=h2 e;rwa [VH hv hb e]at this
end
def Qh (P:Program)(ds:List (Option Nat)):Nat->Bool->List Oper->List (Option Nat×Option Nat)->St->Option (List Oper×List (Option Nat×Option Nat)×St)
 | _,true,[],_,_=>none
 | _,false,[],ks,s=>some ([],ks,s)
 | 0,_,l,ks,s=>some (l,ks,s)
 | n+1,true,o::r,ks,s=>match Of ds s.t o.guard with
   | some true=>match Jj o.op with
     | false=>match PO P o s with
       | some (e,s')=>if e.ks.1=some 0 then none else Qh P ds n false r (ks++[e.ks]) s'
       | none=>none
     | true=>none
   | some false=>Qh P ds n false r (ks++[(none,none)]) (s.put o.dst (.Bk []))
   | none=>none
 | n+1,false,o::r,ks,s=>match o.guard with
   | some _=>some (o::r,ks,s)
   | none=>match Jj o.op with
     | false=>match PO P o s with
       | some (e,s')=>if e.ks.1=some 0 then none else Qh P ds n false r (ks++[e.ks]) s'
       | none=>none
     | true=>some (o::r,ks,s)
section
variable {P:Program} {Z:List PanicEntry->Prop} {O0:O} {K:St->Prop} {ops:List Oper} {ks:List (Option Nat×Option Nat)} {s:St}
structure BJ (P:Program)(Z:List PanicEntry->Prop)(O0:O)(ops:List Oper)(K:St->Prop)(l:List Oper)(ks:List (Option Nat×Option Nat))(s:St):Prop where
 out : ∀acc:List Ef,acc.map Ef.ks=ks->(∀e∈acc,XN O0 e)->TZ P Z ops (fun es s'=>LP ops (es.map Ef.ks)=true/\(∀e∈es,XN O0 e)/\(sy s'.t\/K s')) l acc s
theorem BJ.MZ {n0 id:Nat}{R:Nat->Obj->Prop}{K:Exit->St->Prop}(hm:P.follows .mixedOrders=true)(hn:n0<=1)(h0:s.h[0]?=some (.mp R))(h:BJ P (fun ch=>K (.panic ch) ⟨As s.t.length .any,[.mp R]⟩) (.mp R) ops (K .normal) ops [] s):AW ⟨none,n0⟩ P (.region id ops.toArray true) K s:=AW.AKd hm hn h0 (h.out [] rfl (by simp)) fun _ h=>h
theorem BJ.done (hc:LP ops ks=true)(h:K s):BJ P Z O0 ops K [] ks s:=⟨fun acc e hk=>TZ.nil ⟨by rw[e];exact hc,hk,.inr h⟩⟩
theorem BJ.gone (hc:LP ops ks=true)(h:s.t.any V.Uk=true):BJ P Z O0 ops K [] ks s:=⟨fun acc e hk=>TZ.nil ⟨by rw[e];exact hc,hk,.inl (by
 obtain⟨v,hv,hi⟩:=X9.1 h;obtain⟨d,hd⟩:=List.mem_iff_getElem?.1 hv;exact⟨d,v,hd,hi⟩)⟩⟩
theorem ZJ {acc:List Ef}{e:Ef}(h : ∀e∈acc,XN O0 e)(h':XN O0 e):∀e'∈acc++[e],XN O0 e':=by
 intro e' he;rcases List.mem_append.1 he with he|he
 . exact h e' he
 . rw[List.mem_singleton.1 he];exact h'
theorem AOd {e:Ef}(h:e.ks.1≠some 0):XN O0 e:=fun ob ht=>by
 unfold Ef.ks at h;rw[ht]at h;exact absurd rfl h
theorem BJ.step {o:Oper}{r:List Oper}{e:Ef}{s1:St}(hg:gate ops s.t o.guard=some true)(hc:Jj o.op=false)(hs:PO P o s=some (e,s1))(hk:e.ks.1≠some 0)(h:BJ P Z O0 ops K r (ks++[e.ks]) s1):BJ P Z O0 ops K (o::r) ks s:=⟨fun acc ha hp=>TZ.step hg hc hs (h.out _ (by rw[EX,ha];rfl) (ZJ hp (AOd hk)))⟩
theorem BJ.off {o:Oper}{r:List Oper}(hg:gate ops s.t o.guard=some false)(h:BJ P Z O0 ops K r (ks++[(none,none)]) (s.put o.dst (.Bk []))):BJ P Z O0 ops K (o::r) ks s:=⟨fun acc ha hp=>TZ.off hg (h.out _ (by rw[EX,ha];rfl) (ZJ hp fun ob e=>by cases e))⟩
theorem BJ.h {ds:List (Option Nat)}(hd:ops.map (·.dst)=ds):∀(n:Nat) (b:Bool) {l l':List Oper} {ks KG:List (Option Nat×Option Nat)} {s s':St},Qh P ds n b l ks s=some (l',KG,s')->BJ P Z O0 ops K l' KG s'->BJ P Z O0 ops K l ks s
 | n,true,[],l',ks,KG,s,s',h,hK=>by simp[Qh]at h
 | n,false,[],l',ks,KG,s,s',h,hK=>by simp only[Qh,BE,Cp]at h;obtain⟨rfl,rfl,rfl⟩:=h;exact hK
 | 0,b,o::r,l',ks,KG,s,s',h,hK=>by simp only[Qh,BE,Cp]at h;obtain⟨rfl,rfl,rfl⟩:=h;exact hK
 | n+1,true,o::r,l',ks,KG,s,s',h,hK=>by
   subst hd;unfold Qh at h;rw[ABV]at h;split at h
   . rename_i hg;split at h
     . rename_i hc;split at h
       . rename_i e s1 hs;split at h
         . cases h
         . rename_i hk;exact BJ.step hg hc hs hk (BJ.h rfl n _ h hK)
       . cases h
     . cases h
   . rename_i hg;exact BJ.off hg (BJ.h rfl n _ h hK)
   . cases h
 | n+1,false,o::r,l',ks,KG,s,s',h,hK=>by
   subst hd;unfold Qh at h;split at h
   . simp only[BE,Cp]at h;obtain⟨rfl,rfl,rfl⟩:=h;exact hK
   . rename_i QB;have hg:gate ops s.t o.guard=some true:=by rw[QB];rfl
     split at h
     . rename_i hc;split at h
       . rename_i e s1 hs;split at h
         . cases h
         . rename_i hk;exact BJ.step hg hc hs hk (BJ.h rfl n _ h hK)
       . cases h
     . simp only[BE,Cp]at h;obtain⟨rfl,rfl,rfl⟩:=h;exact hK
theorem BJ.c2 {o:Oper}{r:List Oper}{f:FuncId}{Bx:List V}{res:V}(Cs:AC P f Bx res)(Au:GI P f=true)(hg:gate ops s.t o.guard=some true)(hc:Fv (ev s.t) o.op=some (f,Bx))(h:BJ P Z O0 ops K r (ks++[(none,none)]) (s.step o.dst res none)):BJ P Z O0 ops K (o::r) ks s:=⟨fun acc ha hp=>TZ.call Cs Au hg hc (h.out _ (by rw[EX,ha];rfl) (ZJ hp fun ob e=>by cases e))⟩
theorem BJ.q {o:Oper}{r:List Oper}{f:FuncId}{Bx:List V}{m:Nat}{R:Obj->Prop}{res:V}(Ij:AQ P f Bx m R R (.ret res))(Au:GI P f=true)(hg:gate ops s.t o.guard=some true)(hc:Fv (ev s.t) o.op=some (f,Bx))(hk:s.h[0]?=some (.mp (Cf m R)))(h:BJ P Z (.mp (Cf m R)) ops K r (ks++[(some 0,some 0)]) (s.step o.dst res (some (0,.mp (Cf m R))))):BJ P Z (.mp (Cf m R)) ops K (o::r) ks s:=⟨fun acc ha hp=>TZ.kC 0 Ij Au hg hc hk (h.out _ (by rw[EX,ha];rfl) (ZJ hp fun ob e=>by cases e;rfl))⟩
theorem BJ.p {o:Oper}{r:List Oper}{f:FuncId}{Bx:List V}{m:Nat}{R:Obj->Prop}{ch:List PanicEntry}(Ij:AQ P f Bx m R R (.JT ch))(Au:GI P f=true)(hg:gate ops s.t o.guard=some true)(hc:Fv (ev s.t) o.op=some (f,Bx))(hk:s.h[0]?=some (.mp (Cf m R)))(hz:Z ch)(h:BJ P Z O0 ops K r (ks++[(none,some 0)]) (s.step o.dst Ri none)):BJ P Z O0 ops K (o::r) ks s:=⟨fun acc ha hp=>TZ.JT 0 Ij Au hg hc hk hz (h.out _ (by rw[EX,ha];rfl) (ZJ hp fun ob e=>by cases e))⟩
theorem BJ.d {o:Oper}{r:List Oper}(hd:o.op.operands.toList.any (fun y=>(ev s.t y).Uk)=true)(h:BJ P Z O0 ops K r (ks++[(none,none)]) (s.step o.dst Ri none)):BJ P Z O0 ops K (o::r) ks s:=⟨fun acc ha hp=>TZ.dead hd (h.out _ (by rw[EX,ha];rfl) (ZJ hp fun ob e=>by cases e))⟩
theorem BJ.Js {o:Oper}{r:List Oper}{b:Bool}{v:V}{t1 t2:List V}(hv:HK ops s.t o.guard=v)(hb:v=.c (.bool b))(hl:CI b)(e1:Dc ops s.t true o.guard=t1)(e2:Dc ops s.t false o.guard=t2)(h1:b=true->BJ P Z O0 ops K (o::r) ks ⟨t1,s.h⟩)(h2:b=false->BJ P Z O0 ops K (o::r) ks ⟨t2,s.h⟩):BJ P Z O0 ops K (o::r) ks s:=by
 subst e1 e2;cases e:b with
 | true=>have:=h1 e;rwa [VH hv hb e]at this
 | false=>have:=h2 e;rwa [VH hv hb e]at this
end
theorem jX {n:St->Prop}{K:Exit->St->Prop}{ch:List PanicEntry}{s:St}(h:K (.panic ch) s):LM n K (.panic ch) s:=h
theorem jU {id:Nat}{K:Exit->St->Prop}{ch:List PanicEntry}{s:St}(h:K (.panic ch) s):Pn id K (.panic ch) s:=h
theorem jV {K:Exit->St->Prop}{ch:List PanicEntry}{s:St}(h:K (.panic ch) s):be K (.panic ch) s:=h
section
variable {P:Program} {K:Exit->St->Prop} {ops:List Oper} {s:St}
theorem BJ.vw {id:Nat}{t:List V}{h:List O}{R:Nat->Obj->Prop}(hm:P.follows .mixedOrders=true)(_:true=true)(hh:BJ P (fun ch=>K (.panic ch) ⟨As t.length .any,[.mp R]⟩) (.mp R) ops (K .normal) ops [] ⟨t,.mp R::h⟩):AW ⟨none,1⟩ P (.region id ops.toArray true) K ⟨t,.mp R::h⟩:=BJ.MZ hm (Nat.le_refl 1) rfl hh
theorem BH.N6 {n0 id n:Nat}(_:CJ n)(_:Nat.beq id n=false)(h:BH P ops K ops s):AW ⟨none,n0⟩ P (.region id ops.toArray false) K s:=BH.MZ h
theorem BJ.N6 {id n:Nat}{t:List V}{h:List O}{R:Nat->Obj->Prop}(_:CJ n)(_:Nat.beq id n=false)(hm:P.follows .mixedOrders=true)(_:true=true)(hh:BJ P (fun ch=>K (.panic ch) ⟨As t.length .any,[.mp R]⟩) (.mp R) ops (K .normal) ops [] ⟨t,.mp R::h⟩):AW ⟨none,1⟩ P (.region id ops.toArray true) K ⟨t,.mp R::h⟩:=BJ.vw hm rfl hh
end
@[simp] theorem Zo (h:List O):CG h none=h:=rfl
@[simp] theorem AHQ (o o':O)(h:List O):CG (o::h) (some (0,o'))=o'::h:=by simp[CG]
theorem CP {q:Prop}{P:Program}{g:FuncId}{fn:Func}{c:Code}{args:List V}{m:Nat}{R R':Obj->Prop}{out:Out}{n:Nat}(hf:P.funcs[g]?=some fn)(hn:fn.ntmps=n)(h:q)(hb:fn.body=some c:=by exact rfl)(k:fn.ntmps=n->q->AW ⟨none,1⟩ P c (jW P fn.results.toList out m R') ⟨args++List.replicate (fn.ntmps - args.length) .any,[.mp (Cf m R)]⟩:=by
   intro hn h;simp only[hn,List.map_cons,List.map_nil,List.length_cons,List.length_nil,Nat.reduceAdd,Nat.reduceSub,List.replicate_succ,List.replicate_zero,List.cons_append,List.nil_append];exact h):AQ P g args m R R' out:=AQ.intro hf hb (k hn h)
theorem stQ {p q:Prop}(h:q)(k:q->p:=by
 intro h;(with_reducible first|refine AW.seq ?_|refine AW.block ?_|refine G7 ?_|refine OM ?_|refine AW.ret ?_|refine Pu ?_|refine Pp ?_|refine BH.done ?_|refine AW.skip ?_|refine AW.exit ?_|refine Pt ?_|refine NZ ?_|refine AW.label ?_|refine AW.scope ?_|refine Pr ?_|refine Ps ?_|refine Pq ?_|refine jX ?_|refine jU ?_|refine jV ?_|refine BJ.done (Yj (by kernel_rfl)) ?_|refine Po (by decide) ?_|refine BH.MZ ?_|refine BJ.vw GZ rfl ?_)
 repeat (with_reducible first|refine AW.seq ?_|refine AW.block ?_|refine G7 ?_|refine OM ?_|refine AW.ret ?_|refine Pu ?_|refine Pp ?_|refine BH.done ?_|refine AW.skip ?_|refine AW.exit ?_|refine Pt ?_|refine NZ ?_|refine AW.label ?_|refine AW.scope ?_|refine Pr ?_|refine Ps ?_|refine Pq ?_|refine jX ?_|refine jU ?_|refine jV ?_|refine BJ.done (Yj (by kernel_rfl)) ?_|refine Po (by decide) ?_|refine BH.MZ ?_|refine BJ.vw GZ rfl ?_)
 with_reducible exact h):p:=k h
theorem gB {p q:Prop}{n:Nat}(m:CJ n)(h:q)(k:CJ n->q->p:=by
 intro m h;(with_reducible first|refine AW.seq ?_|refine AW.block ?_|refine G7 ?_|refine OM ?_|refine AW.ret ?_|refine Pu ?_|refine Pp ?_|refine BH.done ?_|refine AW.skip ?_|refine AW.exit ?_|refine Pt ?_|refine NZ ?_|refine AW.label ?_|refine AW.scope ?_|refine Pr ?_|refine Ps ?_|refine Pq ?_|refine jX ?_|refine jU ?_|refine jV ?_|refine BJ.done (Yj (by kernel_rfl)) ?_|refine Po (by decide) ?_|refine BH.N6 m rfl ?_|refine BJ.N6 m rfl GZ rfl ?_)
 repeat (with_reducible first|refine AW.seq ?_|refine AW.block ?_|refine G7 ?_|refine OM ?_|refine AW.ret ?_|refine Pu ?_|refine Pp ?_|refine BH.done ?_|refine AW.skip ?_|refine AW.exit ?_|refine Pt ?_|refine NZ ?_|refine AW.label ?_|refine AW.scope ?_|refine Pr ?_|refine Ps ?_|refine Pq ?_|refine jX ?_|refine jU ?_|refine jV ?_|refine BJ.done (Yj (by kernel_rfl)) ?_|refine Po (by decide) ?_|refine BH.N6 m rfl ?_|refine BJ.N6 m rfl GZ rfl ?_)
 with_reducible exact h):p:=k m h
theorem Xn {F p q:Prop}(f:F)(h:q)(k:F->q->p:=by
 intro f h;first
 | (with_reducible refine BH.h (by simp only[List.append_eq,List.cons_append,List.nil_append,List.map_cons,List.map_nil];exact rfl) 4 true (by as_aux_lemma=>(simp (disch:=first|assumption|(simp<;>fail)|omega) [KP,Of,Ef.ks,wrap_i64,if_pos,if_neg,List.replicate_succ,f];first|exact rfl|exact⟨rfl,rfl⟩)) ?_)
 | (with_reducible refine BJ.h (by simp only[List.append_eq,List.cons_append,List.nil_append,List.map_cons,List.map_nil];exact rfl) 4 true (by as_aux_lemma=>(simp (disch:=first|assumption|(simp<;>fail)|omega) [Qh,Of,Ef.ks,wrap_i64,if_pos,if_neg,List.replicate_succ,f];first|exact rfl|exact⟨rfl,rfl,rfl⟩)) ?_)
 with_reducible exact h):p:=k f h
theorem FB {F p q:Prop}{P:Program}{g:FuncId}{args:List V}{res:V}(f:F)(Cs:AC P g args res)(h:q)(k:F->AC P g args res->q->p:=by
 intro f c h;(with_reducible first|refine BH.c2 c (by first|(simp only[f];done)|kernel_rfl) ?_ ?_ ?_|refine BJ.c2 c (by first|(simp only[f];done)|kernel_rfl) ?_ ?_ ?_)
 focus (simp[gate,f]<;>fail)
 focus (simp (disch:=first|assumption|(simp<;>fail)|omega) [Fv,wrap_i64,f]<;>fail)
 (simp only[St.step,St.put,Zo];with_reducible exact h)):p:=k f Cs h
theorem UI {F p q:Prop}{P:Program}{g:FuncId}{args:List V}{res:V}{m:Nat}{R:Obj->Prop}(f:F)(Cs:AQ P g args m R R (.ret res))(h:q)(k:F->AQ P g args m R R (.ret res)->q->p:=by
 intro f c h;(with_reducible first|refine BH.q c (by first|(simp only[f];done)|kernel_rfl) ?_ ?_ ?_ ?_|refine BJ.q c (by first|(simp only[f];done)|kernel_rfl) ?_ ?_ ?_ ?_)
 focus (simp[gate,f]<;>fail)
 focus (simp (disch:=first|assumption|(simp<;>fail)|omega) [Fv,wrap_i64,f]<;>fail)
 focus exact rfl
 (simp only[St.step,St.put,AHQ];with_reducible exact h)):p:=k f Cs h
theorem UH {F p:Prop}{P:Program}{g:FuncId}{args:List V}{ch:List PanicEntry}{m:Nat}{R:Obj->Prop}(f:F)(Cs:AQ P g args m R R (.JT ch))(k:F->AQ P g args m R R (.JT ch)->p:=by
 intro f c;first
 | ((with_reducible refine BH.p c (by first|(simp only[f];done)|kernel_rfl) ?_ ?_ ?_ ?_)
    focus (simp[gate,f]<;>fail)
    focus (simp (disch:=first|assumption|(simp<;>fail)|omega) [Fv,wrap_i64,f]<;>fail)
    focus exact rfl
    (exact⟨by first|rfl|assumption|(simp[*]<;>fail),rfl⟩))
 | ((with_reducible refine BJ.p c (by first|(simp only[f];done)|kernel_rfl) ?_ ?_ ?_ ?_ ?_)
    focus (simp[gate,f]<;>fail)
    focus (simp (disch:=first|assumption|(simp<;>fail)|omega) [Fv,wrap_i64,f]<;>fail)
    focus exact rfl
    focus (exact⟨by first|rfl|assumption|(simp[*]<;>fail),rfl⟩)
    (simp only[St.step,St.put,Zo])
    repeat (first
     | ((with_reducible refine BJ.d ?_ ?_);(focus (simp[Op.operands,Call.operands,ev,V.Uk,Ri]<;>fail));(simp only[St.step,St.put,Zo]))
     | (with_reducible refine BJ.h (by simp only[List.append_eq,List.cons_append,List.nil_append,List.map_cons,List.map_nil];exact rfl) 1 true (by as_aux_lemma=>(simp (disch:=first|assumption|(simp<;>fail)|omega) [Qh,Of,Ef.ks,wrap_i64,if_pos,if_neg,List.replicate_succ,f];first|exact rfl|exact⟨rfl,rfl,rfl⟩)) ?_))
    exact BJ.gone (Yj (by kernel_rfl)) (by simp[V.Uk,Ri]))):p:=k f Cs
theorem XO {F p:Prop}(f:F)(k:F->p:=by
 intro f;with_reducible show jW _ _ _ _ _ _ _
 simp (disch:=first|assumption|(simp<;>fail)|omega) [jW,AV,AZ,Aa,V.AP,V.AO,AU,wrap_i64, *]<;>fail):p:=k f
theorem V4 {F p q q':Prop}{b:Bool}(f:F)(h1:b=true->q)(h2:b=false->q')(k:F->(b=true->q)->(b=false->q')->p:=by
 intro f h1 h2;first
 | (with_reducible refine UG (by simp[ev,f];exact rfl) (by with_reducible exact rfl) (by(fail_if_success with_reducible exact CI.t);(fail_if_success with_reducible exact CI.f);exact CI.mk _) h1 h2)
 | (with_reducible refine BH.Js (by simp[HK,f];exact rfl) (by with_reducible exact rfl) (by(fail_if_success with_reducible exact CI.t);(fail_if_success with_reducible exact CI.f);exact CI.mk _) (by simp[Dc];exact rfl) (by simp[Dc];exact rfl) h1 h2)
 | (with_reducible refine BJ.Js (by simp[HK,f];exact rfl) (by with_reducible exact rfl) (by(fail_if_success with_reducible exact CI.t);(fail_if_success with_reducible exact CI.f);exact CI.mk _) (by simp[Dc];exact rfl) (by simp[Dc];exact rfl) h1 h2)):p:=k f h1 h2
theorem V1 {F p q q' c:Prop}[Decidable c](f:F)(h1:c->q)(h2 : ¬c->q')(k:F->(decide c=true->q)->(decide c=false->q')->p:=by
 intro f h1 h2;first
 | (with_reducible refine UG (by simp[ev,f];exact rfl) (by with_reducible exact rfl) (by(fail_if_success with_reducible exact CI.t);(fail_if_success with_reducible exact CI.f);exact CI.mk _) h1 h2)
 | (with_reducible refine BH.Js (by simp[HK,f];exact rfl) (by with_reducible exact rfl) (by(fail_if_success with_reducible exact CI.t);(fail_if_success with_reducible exact CI.f);exact CI.mk _) (by simp[Dc];exact rfl) (by simp[Dc];exact rfl) h1 h2)
 | (with_reducible refine BJ.Js (by simp[HK,f];exact rfl) (by with_reducible exact rfl) (by(fail_if_success with_reducible exact CI.t);(fail_if_success with_reducible exact CI.f);exact CI.mk _) (by simp[Dc];exact rfl) (by simp[Dc];exact rfl) h1 h2)):p:=k f (fun h=>h1 (of_decide_eq_true h)) fun h=>h2 (of_decide_eq_false h)
theorem V3 {F p q q':Prop}{c:Bool}(f:F)(h1:c=false->q)(h2:c=true->q')(k:F->((!c)=true->q)->((!c)=false->q')->p:=by
 intro f h1 h2;first
 | (with_reducible refine UG (by simp[ev,f];exact rfl) (by with_reducible exact rfl) (by(fail_if_success with_reducible exact CI.t);(fail_if_success with_reducible exact CI.f);exact CI.mk _) h1 h2)
 | (with_reducible refine BH.Js (by simp[HK,f];exact rfl) (by with_reducible exact rfl) (by(fail_if_success with_reducible exact CI.t);(fail_if_success with_reducible exact CI.f);exact CI.mk _) (by simp[Dc];exact rfl) (by simp[Dc];exact rfl) h1 h2)
 | (with_reducible refine BJ.Js (by simp[HK,f];exact rfl) (by with_reducible exact rfl) (by(fail_if_success with_reducible exact CI.t);(fail_if_success with_reducible exact CI.f);exact CI.mk _) (by simp[Dc];exact rfl) (by simp[Dc];exact rfl) h1 h2)):p:=k f (fun h=>h1 (by simpa using h)) fun h=>h2 (by simpa using h)
theorem V5 {F p q q' c:Prop}[Decidable c](f:F)(h1 : ¬c->q)(h2:c->q')(k:F->((!decide c)=true->q)->((!decide c)=false->q')->p:=by
 intro f h1 h2;first
 | (with_reducible refine UG (by simp[ev,f];exact rfl) (by with_reducible exact rfl) (by(fail_if_success with_reducible exact CI.t);(fail_if_success with_reducible exact CI.f);exact CI.mk _) h1 h2)
 | (with_reducible refine BH.Js (by simp[HK,f];exact rfl) (by with_reducible exact rfl) (by(fail_if_success with_reducible exact CI.t);(fail_if_success with_reducible exact CI.f);exact CI.mk _) (by simp[Dc];exact rfl) (by simp[Dc];exact rfl) h1 h2)
 | (with_reducible refine BJ.Js (by simp[HK,f];exact rfl) (by with_reducible exact rfl) (by(fail_if_success with_reducible exact CI.t);(fail_if_success with_reducible exact CI.f);exact CI.mk _) (by simp[Dc];exact rfl) (by simp[Dc];exact rfl) h1 h2)):p:=k f (fun h=>h1 (by simpa using h)) fun h=>h2 (by simpa using h)
theorem rF {F C p q:Prop}(f:F)(c:C)(h:q)(k:F->C->q->p:=by
 intro f c h;first
 | ((first|refine FB f c.1 ?_|refine UI f c.1 ?_);exact h)
 | ((first|refine FB f c.2.1 ?_|refine UI f c.2.1 ?_);exact h)
 | ((first|refine FB f c.2.2.1 ?_|refine UI f c.2.2.1 ?_);exact h)
 | ((first|refine FB f c.2.2.2.1 ?_|refine UI f c.2.2.2.1 ?_);exact h)
 | ((first|refine FB f c.2.2.2.2.1 ?_|refine UI f c.2.2.2.2.1 ?_);exact h)
 | ((first|refine FB f c.2.2.2.2.2.1 ?_|refine UI f c.2.2.2.2.2.1 ?_);exact h)
 | ((first|refine FB f c.2.2.2.2.2.2.1 ?_|refine UI f c.2.2.2.2.2.2.1 ?_);exact h)
 | ((first|refine FB f c.2.2.2.2.2.2.2.1 ?_|refine UI f c.2.2.2.2.2.2.2.1 ?_);exact h)):p:=k f c h
theorem rV {F C p:Prop}(f:F)(c:C)(k:F->C->p:=by
 intro f c;first
 | exact UH f c.1
 | exact UH f c.2.1
 | exact UH f c.2.2.1
 | exact UH f c.2.2.2.1
 | exact UH f c.2.2.2.2.1
 | exact UH f c.2.2.2.2.2.1
 | exact UH f c.2.2.2.2.2.2.1
 | exact UH f c.2.2.2.2.2.2.2.1):p:=k f c
theorem qz {F C p:Prop}(f:F)(c:C)(k:F->C->p:=by
 intro ff cc;repeat any_goals (first|refine stQ ?_|exact XO ff|refine Xn ff ?_|refine rF ff cc ?_|exact rV ff cc|refine Bi ff ?_|((first|refine V1 ff ?_ ?_|refine V5 ff ?_ ?_|refine V3 ff ?_ ?_|refine V4 ff ?_ ?_)<;>intro h<;>try (exfalso;first|omega|contradiction)))):p:=k f c
theorem qy {F C p q:Prop}(f:F)(c:C)(h:Tz q)(k:F->C->Tz q->p:=by
 intro ff cc hh;repeat any_goals (first|refine stQ ?_|exact XO ff|refine Xn ff ?_|refine rF ff cc ?_|exact rV ff cc|refine Bi ff ?_|((first|refine V1 ff ?_ ?_|refine V5 ff ?_ ?_|refine V3 ff ?_ ?_|refine V4 ff ?_ ?_)<;>intro h<;>try (exfalso;first|omega|contradiction)))
 with_reducible exact hh.out):p:=k f c h
theorem qu {F C p q:Prop}{n:Nat}(m:CJ n)(f:F)(c:C)(h:Tz q)(k:CJ n->F->C->Tz q->p:=by
 intro mm ff cc hh;repeat any_goals (first|refine gB mm ?_|exact XO ff|refine Xn ff ?_|refine rF ff cc ?_|exact rV ff cc|refine Bi ff ?_|((first|refine V1 ff ?_ ?_|refine V5 ff ?_ ?_|refine V3 ff ?_ ?_|refine V4 ff ?_ ?_)<;>intro h<;>try (exfalso;first|omega|contradiction)))
 with_reducible exact hh.out):p:=k m f c h
end Go.Proofs.YtpodcjcajanldaaGreat
