/- Part of the proof of breakpointLength.proved. Conditions: none. (Joined and shortened by a program.) -/
import Derived.Test.YtpodcjcajanldaaGreatP44
set_option linter.unusedVariables false
set_option linter.unusedSimpArgs false
set_option maxRecDepth 100000
set_option maxHeartbeats 16000000
open Go.Proofs.Tryz renaming prog→AD,underlying9→Mp,underlying3→Eg,underlying4→SQ,results51→bF,func24→iQ,ntmps24→ia,results24→Ph,results14→yB
open Option.some renaming injEq→BE
open List renaming replicate→As,map_cons→Al,map_nil→A8,length_cons→BQ,length_nil→B6,replicate_succ→Ao,cons_append→Bg,nil_append→Bh,drop_succ_cons→Be,drop_zero→BO,set_cons_succ→Az,set_cons_zero→BC,setIfInBounds_toArray→Z9
open Go.Fence renaming wide→EF
open Nat renaming le_refl→BW,le_of_not_lt→NT,lt_of_lt_of_le→H6,zero_le→Cc
open Array renaming getElem?_eq_some_iff→Dy
open Go.Oper renaming looksAt→GG
open Go.Op renaming operands→CN
open Go.Call renaming operands→D7
open Go.Act renaming eval→NN,put→PX
open Bool renaming and_eq_true→An
namespace Go.Proofs.YtpodcjcajanldaaGreat
open Go.RowKit
section
variable {H:Type} {enc:TypeId×Value->H}
variable {w:World}
theorem AQI {fuel:Nat}:DD enc AD w fuel 119 En.row (fun e=>e.text.size<=maxLen):=by
 cases fuel with
 | zero=>exact DD.zero
 | succ fuel=>exact(Rr Tryz.underlying119 (by kernel_rfl) (Cj.cons (o:=0) (o':=1) rfl (by kernel_rfl) (by decide) (ZW Mp) (Cj.cons (o:=1) (o':=2) rfl (by kernel_rfl) (by decide) (FU Eg) (Cj.cons (o:=2) (o':=3) rfl (by kernel_rfl) (by decide) (mS SQ) (Cj.cons (o:=3) (o':=4) rfl (by kernel_rfl) (by decide) (mS SQ) (Cj.nil)))))).conv (fun q=>⟨q.1,q.2.1,q.2.2.1,q.2.2.2.1⟩) (fun q=>rfl) (fun q h=>h.1)
theorem AQH {fuel:Nat}:DD enc AD w fuel 28 (fun l:List En=>[Dj l]) (fun l=>l.length<=maxLen/\∀a∈l,a.text.size<=maxLen):=by
 cases fuel with
 | zero=>exact DD.zero
 | succ fuel=>exact XV (n:=4) Tryz.underlying28 (by kernel_rfl) (by decide) AQI
theorem AEA : ∀ {l:List Nd},(∀a∈l,a.Bc)->Nd.GB l
 | [],_=>trivial
 | b::l,h=>⟨h b List.mem_cons_self,AEA fun a ha=>h a (List.mem_cons_of_mem _ ha)⟩
theorem AEU {fuel:Nat}(hk:DD enc AD w fuel 31 (fun l:List Nd=>[.sl (l.map Nd.row)]) (fun l=>l.length<=maxLen/\∀a∈l,a.Bc)):DD enc AD w (fuel+1) 33 Nd.row (fun b=>b.Bc):=
 (Rr Tryz.underlying33 (by kernel_rfl) (Cj.cons (o:=0) (o':=1) rfl (by kernel_rfl) (by decide) (FU Eg) (Cj.cons (o:=1) (o':=2) rfl (by kernel_rfl) (by decide) (ZW Mp) (Cj.cons (o:=2) (o':=3) rfl (by kernel_rfl) (by decide) (FU Eg) (Cj.cons (o:=3) (o':=4) rfl (by kernel_rfl) (by decide) hk (Cj.nil)))))).conv (fun q=>⟨q.1,q.2.1,q.2.2.1,q.2.2.2.1⟩) (fun q=>by simp[Nd.row,ND,-Nd.wE]) (fun q h=>⟨h.2.1,h.2.2.2.1.1,AEA h.2.2.2.1.2⟩)
theorem AQM {fuel:Nat}(h:DD enc AD w fuel 33 Nd.row (fun b=>b.Bc)):DD enc AD w (fuel+1) 31 (fun l:List Nd=>[.sl (l.map Nd.row)]) (fun l=>l.length<=maxLen/\∀a∈l,a.Bc):=
 XV (n:=4) Tryz.underlying31 (by kernel_rfl) (by decide) h
theorem fO : ∀fuel,DD enc AD w fuel 33 Nd.row (fun b=>b.Bc)
 | 0=>DD.zero
 | 1=>AEU DD.zero
 | k+2=>AEU (AQM (fO k))
end
def toCm1 (j m:Nat):V->Option C
 | .c c=>some c
 | .mp i=>if i=j then some (.Rm m)else none
 | .fn f []=>some (.Du f)
 | .full r=>some (.sl r)
 | _=>none
def toCm (j m:Nat):List V->Option (List C)
 | []=>some []
 | v::l=>match toCm1 j m v,toCm j m l with
   | some c,some r=>some (c::r)
   | _,_=>none
theorem toCm1_ok {x:Cx}{w:World}{j:Nat} : ∀ {v:V} {c:C} {u:Value},toCm1 j (x.loc j).b v=some c->CV x w v u->Ap x.S w c u:=by
 intro v c u h hv;unfold toCm1 at h;split at h
 . cases h;simpa only[CV]using hv
 . split at h
   . rename_i i e;cases h;subst e;simp only[CV,Ap]at hv ⊢;exact hv.2.2
   . cases h
 . cases h;simp only[CV,AL,Ap]at hv ⊢;obtain⟨vs,e,hv⟩:=hv;have:vs=#[]:=Array.toList_inj.1 hv;rw[e,this]
 . cases h;simp only[CV]at hv;obtain⟨_,_,hv⟩:=hv;exact hv
 . cases h
theorem toCm_ok {x:Cx}{w:World}{j:Nat} : ∀ {l:List V} {cs:List C} {us:List Value},toCm j (x.loc j).b l=some cs->AL x w l us->Bj x.S w cs us
 | [],cs,us,h,hv=>by simp only[toCm,BE]at h;subst h;simpa only[AL,Bj]using hv
 | v::l,cs,us,h,hv=>by
   simp only[AL]at hv;obtain⟨u,ur,rfl,h1,h2⟩:=hv;unfold toCm at h;split at h
   . rename_i c r hc hr;cases h;exact⟨u,ur,rfl,toCm1_ok hc h1,toCm_ok hr h2⟩
   . cases h
def AN (P:Program)(f:FuncId)(args:List V)(R:Obj->Prop)(row:Nat->List C):Prop:=
 ∀(S:Ba) (w:World) (us:List Value),(∀b j,S b j->b<w.heap.size)->AL (Cx.bare S) w args us->
  Calls P f us.toArray w fun r w'=>∃(S':Ba) (b m:Nat) (ob:Obj),r=.returned (.pointer (some ⟨b,0,none⟩))/\AS w w'/\Ar S S' w w'/\(∀b' j,S' b' j->S b' j\/(w.heap.size<=b'/\b'<w'.heap.size))/\w.heap.size<=m/\w'.heap[m]?=some ob/\still ob=false/\R ob/\CR S' w' (row m) b 0
def AIu (P:Program)(l:List ResultVar)(R:Obj->Prop)(row:Nat->List C):Exit->St->Prop
 | .ret,s=>∃(k j:Nat) (ty:TypeId) (cells:List V),OT P s l=some (.ptr k 0)/\s.h[k]?=some (.box ty cells false)/\s.h[j]?=some (.mp (fun _=>R))/\∀m,toCm j m cells=some (row m)
 | _,_=>False
theorem AN.intro {P:Program}{f:FuncId}{fn:Func}{c:Code}{args:List V}{R:Obj->Prop}{row:Nat->List C}(hf:P.funcs[f]?=some fn)(hb:fn.body=some c)(h:AW ⟨none,0⟩ P c (AIu P fn.results.toList R row) ⟨args++As (fn.ntmps - args.length) .any,[]⟩):AN P f args R row:=by
 intro S w us hS C9;refine callsIn_wide.1 (callsIn_of_wp_marks (F:=EF) (n:=0) hf hb trivial ?_);have hA:CT S (Bs.of w) (Cx.bare S) ⟨args++As (fn.ntmps - args.length) .any,[]⟩ { tmps:=us.toArray++Array.replicate (fn.ntmps - us.toArray.size) undef,defers:=[] } w:=by
  refine⟨⟨fun k o h=>by simp at h,fun k h=>h.elim,fun k k' o o' h=>by simp at h,fun k o j h=>by simp at h,hS,fun k o h=>by simp at h,fun b j h=>.inl h,fun b j h=>h,.GA (AS.refl w),Ext.none _ _ _⟩,?_,Marks.nil _ _⟩;simp only[Array.toList_append,Array.toList_replicate];have hl:us.toArray.size=args.length:=by simpa using C9.len
  rw[hl];exact C9.append (Tc _ _ _ _)
 refine wpIn_mono (h 0 S (Bs.of w) _ _ w (BW _) hA) fun e a' w' ⟨x,s,BR,hK⟩=>?_
 cases e with
 | ret =>
   obtain⟨k,j,ty,cells,hr,hk,hj,BU⟩:=hK;obtain⟨Ds,e,h1,h2⟩:=BR.df;show LeavesInM EF 0 P fn a'.tmps _ a'.defers .returning w';rw[e];refine mB hr Ds w' h1 h2 BR.good BR.tm fun w2 u g hu=>?_
   obtain⟨q1,q2,q3,vs,q4,q5,q6⟩:=g.ok k _ hk;obtain⟨_,k1,k2,ob,k3,k4,k5⟩:=g.ok j _ hj;simp only[CV]at hu;obtain⟨_,_,rfl⟩:=hu;have EK:=toCm_ok (BU (x.loc j).b) q6;have DF:Ar x.S (fun i jj=>x.S i jj\/(i=(x.loc k).b/\jj<vs.size)) w2 w2:=⟨fun _ _ h=>.inl h,fun _ _ _ _ h=>h⟩
   have hlt:(x.loc k).b<w2.heap.size:=(Dy.1 q4).1;refine⟨fun i jj=>x.S i jj\/(i=(x.loc k).b/\jj<vs.size),(x.loc k).b,(x.loc j).b,ob,rfl,g.keep.all,⟨fun b' jj hs=>.inl (g.sub b' jj hs),fun b' jj v hs hc=>g.keep.all.cell hc⟩,fun i jj hs=>?_,NT fun JP=>g.own j _ hj k2 JP,k3,k4,k5,?_⟩
   . rcases hs with hs|⟨rfl,_⟩
     . rcases g.new i jj hs with h|h
       . exact .inl h
       . exact .inr ⟨NT h,g.ex i jj hs⟩
     . exact .inr ⟨NT fun JP=>g.own k _ hk q3 JP,hlt⟩
   . have hlen:=EK.len;refine CR.QX (Bj.mono DF _ _ EK) (fun jj u hu=>?_) fun jj hj2=>.inr ⟨rfl,by rw[<-hlen]at hj2;simpa using hj2⟩
     rw[cell_of_row w2 _ _ vs ty (0,0) q4];simpa using hu
 | _=>exact hK.elim
theorem BI.empty (f:AI):BI f (.map #[] 0):=⟨fun _ _=>false,#[],0,rfl,fun e he=>by simp at he,fun s n=>by simp⟩
theorem APT (x:Ae)(hx:x.Ok):AN AD 54 [.agg x.f.vs,.c (Dj x.d)] (BI x.f) (Ce x):=by
 have hp : ∀l:Int,0<=l->l<=3->AC AD 97 [.agg x.f.vs,.agg [.c (.int .i64 l),.c (.bool false)]] (.Bk [.c (.int .i64 (BK x.f.params ⟨l,false⟩)),.c (.int .i64 0)]):=fun l h0 h3=>by
  have h:=KL x.f ⟨l,false⟩;have ho:(⟨l,false⟩:AM).ok=true:=by simp[AM.ok];omega
  rw[show Ha x.f ⟨l,false⟩=(BK x.f.params ⟨l,false⟩,0)from if_neg (by simp[ho,hx.val])]at h;simp only[Af]at h;exact h
 have Ue:=hp 0 (by omega) (by omega);have HQ:=hp 1 (by omega) (by omega);have hp2:=hp 2 (by omega) (by omega);have tu:=hp 3 (by omega) (by omega);rw[show BK x.f.params ⟨0,false⟩=100 from rfl]at Ue;rw[show BK x.f.params ⟨1,false⟩=100 from rfl]at HQ;rw[show BK x.f.params ⟨2,false⟩=x.f.params.Jo from rfl]at hp2;rw[show BK x.f.params ⟨3,false⟩=x.f.params.Jp from rfl]at tu;refine AN.intro Tryz.func54 rfl ?_;simp only[Tryz.ntmps54,Al,A8,BQ,B6,Nat.reduceAdd,Nat.reduceSub,Ao,List.replicate_zero,Bg,Bh];have Fo:x.f.vs=[.c (FZ x.f.CO),.c (G3 x.f.CD)]++x.f.params.list.map fun n=>.c (.int .i64 n):=by
  simp[AI.vs,AI.row]
 simp only[Params.list,Al,A8,Bg,Bh]at Fo;rw[Fo]at Ue HQ hp2 tu ⊢;clear Fo;refine Ac ?_;refine AW.DM ?_;refine SW.take 2 ?_;with_reducible refine Bw (by simp[Ao];first|exact rfl|exact⟨rfl,rfl⟩) ?_
 refine B9 ?_;simp only[Be,BO];refine SW.mR (.mp 1) (some (1,.mp (fun _=>BI x.f))) (by intro k ob h;cases h;simp) rfl (fun S0 w0 y a w g ht=>AP3 g (R:=fun _=>BI x.f) (fun _=>BI.empty _) rfl (ATI _ w) 1 (fun hd=>by obtain⟨o,ho⟩:=g.dom 1 hd;simp at ho)) ?_;simp only[St.step,St.put,CG,BQ,B6,Nat.reduceAdd,Nat.lt_irrefl,if_false,Az,BC,Bg,Bh];refine SW.take 1 ?_;with_reducible refine Bw (by simp[Ao];first|exact rfl|exact⟨rfl,rfl⟩) ?_
 refine B9 ?_;simp only[Be,BO];refine SW.take 1 ?_;with_reducible refine Bw (by simp[Ao];first|exact rfl|exact⟨rfl,rfl⟩) ?_
 refine B9 ?_;simp only[Be,BO];refine SW.take 1 ?_;with_reducible refine Bw (by simp[Ao];first|exact rfl|exact⟨rfl,rfl⟩) ?_
 refine B9 ?_;simp only[Be,BO];refine SW.nil ?_;have ff:=(Tryz.results54)
 repeat any_goals (first|refine CC ?_|exact Bq ff|(with_reducible refine LA.loop (LA.round ?_))|(with_reducible refine LA.round ?_)|refine Bt ff ?_|refine A4 ff (Ue) ?_|refine A4 ff (HQ) ?_|refine A4 ff (hp2) ?_|refine A4 ff (tu) ?_|refine Bi ff ?_|((first|refine By ff ?_ ?_|refine B4 ff ?_ ?_|refine Bz ff ?_ ?_|refine B3 ff ?_ ?_)<;>intro h<;>try (exfalso;first|omega|contradiction)))
 refine⟨2,1,143,_,by simp[OT,AZ,Aa,AU,Tryz.results54],rfl,rfl,fun m=>by simp[toCm,toCm1,Ce,AI.row,Params.list]⟩
theorem AS.Oe {W W':World}(h:AS W W')(S:Ba):Ar S S W W':=⟨fun _ _ q=>q,fun _ _ _ _ hc=>h.cell hc⟩
theorem AKp {S:Ba}{W W':World}(hk:AS W W'):Ext (Cx.bare S) (Cx.bare S) W W':=⟨hk.Oe S,fun _ h=>h.elim,fun _ h=>h.elim⟩
theorem ei (S:Ba)(v:V):Q8 AS (fun u W=>CV (Cx.bare S) W v u):=fun u W W' hk h=>CV.mono (AKp hk) v u h
theorem cO {P:Program}{S:Ba}{W:World}{a:Act}{o:Oper}{t:TypeId}{y:Operand}(ho:o.op=.load t y){q:Bool×Nat}(hq:Ct P t=some q){row:List C}{off:Nat}(hy:CV (Cx.bare S) W (.cp row off) (a.eval y)){v:V}(h:AU q (row.map V.c) off=some v):∃u W',(execOp a.eval o).run P W=.ok (.value u) W'/\CV (Cx.bare S) W' v u/\AS W W':=by
 simp only[CV]at hy;obtain⟨b,Hy,hy,hr⟩:=hy;obtain⟨u,hr,hv⟩:=mF (x:=Cx.bare S) (w:=W) (b:=b) (o:=Hy) hq (fun j v hj=>by
  rw[List.getElem?_map,Option.map_eq_some_iff]at hj;obtain⟨c,hc,rfl⟩:=hj;obtain⟨u,h1,h2⟩:=hr.get hc;exact⟨u,h1,by simpa only[CV]using h2⟩) h
 exact⟨u,W,by simp[execOp,ho,Instr.loadAt,hy,Instr.sureAddr,hr],hv,AS.refl W⟩
def yg (P:Program)(g:FuncId)(caps:List V)(out:Out):Prop:=
 ∀(S:Ba) (w:World) (us:List Value),(∀b j,S b j->b<w.heap.size)->AL (Cx.bare S) w caps us->
  Calls P g us.toArray w fun r w'=>∃S':Ba,AS w w'/\Ar S S' w w'/\(∀b j,S' b j->S b j\/(w.heap.size<=b/\b<w'.heap.size))/\SX (Cx.bare S') w' out r
theorem AV6 {P:Program}{ops:Array Oper}{Q:Exit->Act->World->Prop}{a:Act}{w:World}{rest:List Oper}{o:Oper}{f:FuncId}{args:Array Value}{R:Ending->World->Prop}(hg:o.guard=none)(hrun:(execOp a.eval o).run P w=.ok (.enter f args) w)(hc:Calls P f args w R)(hout : ∀e W',R e W'->(∃v,e=.returned v/\wpList P ops Q rest (a.put o.dst v) W')\/∃ch,e=.panicked ch/\Q (.panic ch) a W'):wpList P ops Q (o::rest) a w:=by
 unfold wpList;rw[if_pos (by simp[Region.wanted,hg])];refine .inl ?_;unfold Oper.wp;rw[hrun,Oper.upon_enter];refine hc.mono fun e W' h=>?_
 rcases hout e W' h with ⟨v,rfl,h2⟩|⟨ch,rfl,h2⟩
 . exact h2
 . exact h2
def pN (S:Ba)(B:Nat)(x:Ae):Post:=fun v W=>∃(S':Ba) (b m:Nat) (ob:Obj),v=.pointer (some ⟨b,0,none⟩)/\(∀b j,S b j->S' b j)/\(∀b' j,S' b' j->S b' j\/(B<=b'/\b'<W.heap.size))/\B<=m/\W.heap[m]?=some ob/\still ob=false/\BI x.f ob/\CR S' W (Ce x m) b 0
theorem AQa (S:Ba)(B:Nat)(x:Ae):Q8 AS (pN S B x):=fun v W W' hk ⟨S',b,m,ob,h1,h2,h3,h4,h5,h6,h7,h8⟩ =>
 ⟨S',b,m,ob,h1,h2,fun b' j Jh=>(h3 b' j Jh).imp id fun h=>⟨h.1,H6 h.2 hk.size⟩,h4,(hk.heap (Dy.1 h5).1).trans h5,h6,h7,CR.mono (hk.Oe S') _ _ _ h8⟩
theorem AKD (x:Ae)(n:Nd)(src:List Int)(s:AM)(o:Option AA)(hx:x.Ok)(hq : ∀m,AQ AD 55 [Bf x m,At n,.c (Ab src),Ai s] m (BI x.f) (BI x.f) (BS o)) :
 yg AD 53 [.cp x.f.row 0,.cp [Dj x.d] 0,.cp n.row 0,.cp [Ab src] 0,.cp [.int .i64 s.level,.bool s.GJ] 0] (BS o):=by
 intro S w us hS C9;simp only[AL,CV,Nat.add_zero]at C9;obtain⟨_,_,rfl,⟨b0,o0,rfl,r0⟩,_,_,rfl,⟨b1,o1,rfl,r1⟩,_,_,rfl,⟨b2,o2,rfl,r2⟩,_,_,rfl,⟨b3,o3,rfl,r3⟩,_,_,rfl,⟨b4,o4,rfl,r4⟩,rfl⟩:=C9;go_enter Tryz.func53,Tryz.ntmps53;go_wp2;obtain⟨W0,hW0⟩:=AE (w.alloc (.cells F0 41));change Code.wp _ _ _ _ (w.alloc (.cells F0 41));have hk0:AS w W0:=by rw[<-hW0];exact(AS.refl w).alloc _
 have dD:B8 W0 w.heap.size 41 F0:=by rw[<-hW0];exact B8.new _ _ _
 have Rh:W0.heap.size=w.heap.size+1:=by rw[<-hW0];simp
 rw[hW0];obtain⟨B0,RJ⟩:=AE W0.heap.size;refine AST (K:=AS) 6 GZ (by kernel_rfl) rfl ?_;intro w1 Ev;simp only[List.take_succ_cons,List.take_zero];have hk:AS w w1:=hk0.trans Ev;have hz1:B0<=w1.heap.size:=by rw[<-RJ];exact Ev.size
 with_reducible refine fe (fun u W=>CV (Cx.bare S) W (.agg x.f.vs) u) (ei S _) rfl ?_ ?_
 . intro a W Jg hf;have ht:=hf 0 (by simp[looks,GG,CN,D7]);simp[C0]at ht;exact cO (t:=27) (y:=.tmp 0) (row:=x.f.row) (off:=0) rfl AVA (by simp only[CV];exact⟨b0,o0,by simpa [NN]using ht,CR.mono (Jg.Oe S) _ _ _ (CR.mono (hk.Oe S) _ _ _ r0)⟩) (by simp[AU,AI.row,Params.list,AI.vs])
 with_reducible refine fe (fun u W=>CV (Cx.bare S) W (.c (Dj x.d)) u) (ei S _) rfl ?_ ?_
 . intro a W Jg hf;have ht:=hf 1 (by simp[looks,GG,CN,D7]);simp[C0]at ht;exact cO (t:=28) (y:=.tmp 1) (row:=[Dj x.d]) (off:=0) rfl AVB (by simp only[CV];exact⟨b1,o1,by simpa [NN]using ht,CR.mono (Jg.Oe S) _ _ _ (CR.mono (hk.Oe S) _ _ _ r1)⟩) (by simp[AU])
 with_reducible refine ASf (pN S B0 x) (AQa S _ x) rfl ?_ ?_
 . intro a W Jg hf;have h6:=hf 6 (by simp[looks,GG,CN,D7]);have h7:=hf 7 (by simp[looks,GG,CN,D7]);simp[C0]at h6 h7;have hzW:=Jg.size;refine⟨54,#[a.tmps.getD 6 undef,a.tmps.getD 7 undef],by go_simp,?_⟩;refine(APT x hx S W [a.tmps.getD 6 undef,a.tmps.getD 7 undef] (fun b j h=>by have:=hS b j h;have:=hk.size;omega) ?_).mono ?_
   . simp only[AL];exact⟨_,_,rfl,by simpa using h6,_,_,rfl,by simpa using h7,rfl⟩
   . rintro r W' ⟨S',b,m,ob,rfl,e1,e2,e3,e4,e5,e6,e7,e8⟩;refine⟨_,rfl,⟨S',b,m,ob,rfl,e2.sub,fun b' j hs=>(e3 b' j hs).imp id fun h=>⟨by omega,h.2⟩,by omega,e5,e6,e7,e8⟩,e1⟩
 with_reducible refine fe (fun u W=>CV (Cx.bare S) W (.agg n.vs) u) (ei S _) rfl ?_ ?_
 . intro a W Jg hf;have ht:=hf 2 (by simp[looks,GG,CN,D7]);simp[C0]at ht;exact cO (t:=33) (y:=.tmp 2) (row:=n.row) (off:=0) rfl AVC (by simp only[CV];exact⟨b2,o2,by simpa [NN]using ht,CR.mono (Jg.Oe S) _ _ _ (CR.mono (hk.Oe S) _ _ _ r2)⟩) (by cases n;simp[AU,Nd.row,Nd.vs])
 with_reducible refine fe (fun u W=>CV (Cx.bare S) W (.c (Ab src)) u) (ei S _) rfl ?_ ?_
 . intro a W Jg hf;have ht:=hf 3 (by simp[looks,GG,CN,D7]);simp[C0]at ht;exact cO (t:=39) (y:=.tmp 3) (row:=[Ab src]) (off:=0) rfl AVE (by simp only[CV];exact⟨b3,o3,by simpa [NN]using ht,CR.mono (Jg.Oe S) _ _ _ (CR.mono (hk.Oe S) _ _ _ r3)⟩) (by simp[AU])
 with_reducible refine fe (fun u W=>CV (Cx.bare S) W (.agg [.c (.int .i64 s.level),.c (.bool s.GJ)]) u) (ei S _) rfl ?_ ?_
 . intro a W Jg hf;have ht:=hf 4 (by simp[looks,GG,CN,D7]);simp[C0]at ht;exact cO (t:=35) (y:=.tmp 4) (row:=[.int .i64 s.level,.bool s.GJ]) (off:=0) rfl AVD (by simp only[CV];exact⟨b4,o4,by simpa [NN]using ht,CR.mono (Jg.Oe S) _ _ _ (CR.mono (hk.Oe S) _ _ _ r4)⟩) (by simp[AU])
 with_reducible refine fc ?_
 intro W Jg;intro v6 h6 v7 h7 v8 h8 v9 h9 v10 h10 v11 h11;obtain⟨S',b,m,ob,rfl,e1,e2,e3,e4,e5,e6,e7⟩:=h8;simp only[Be,BO];with_reducible apply cY
 simp only[PX,Z9,Az,BC];have hzW:=Jg.size;have hex:Ext (Cx.bare S) (Cx.bare S') W W:=⟨⟨e1,fun _ _ _ _ h=>h⟩,fun _ h=>h.elim,fun _ h=>h.elim⟩
 have GL : ∀b j,S' b j->b<W.heap.size:=fun b j h=>(e2 b j h).elim (fun h=>by have:=hS b j h;have:=hk.size;omega) fun h=>h.2
 have hcall:=hq m S' W [.pointer (some ⟨b,0,none⟩),v9,v10,v11] ob GL e4 e5 e6 (by
  simp only[AL,Bf];exact⟨_,_,rfl,by simp only[CV];exact⟨b,0,rfl,e7⟩,_,_,rfl,CV.mono hex _ _ h9,_,_,rfl,CV.mono hex _ _ h10,_,_,rfl,CV.mono hex _ _ h11,rfl⟩)
 with_reducible refine AV6 rfl (f:=55) (args:=#[.pointer (some ⟨b,0,none⟩),v9,v10,v11]) (by go_simp) hcall ?_
 rintro e W' ⟨S2,Cy,f1,f2,f3,f4,f5,f6,f7⟩;have tW:AS w W':=f1.after (hk.trans Jg) fun k e=>by omega
 have Ni:B8 W' w.heap.size 41 F0:=by
  have hb:=Jg.blk (Ev.blk dD);exact(f1.block w.heap.size hb.lt (fun e=>by omega)).trans hb
 have r6 : ∀b j,S2 b j->S b j\/(W0.heap.size<=b/\b<W'.heap.size):=fun b j h=>by
  have hz':=f1.size;have hm:=(Dy.1 f4).1;rcases f3 b j h with h|h|h
  . rcases e2 b j h with h|h
    . exact .inl h
    . exact .inr (by omega)
  . exact .inr (by omega)
  . exact .inr (by omega)
 have ABy:Ar S S2 w W':=⟨fun b j h=>f2.sub b j (e1 b j h),fun b j v _ hc=>tW.cell hc⟩
 cases o with
 | none =>
   right;simp only[BS,SX]at f7;refine⟨_,f7,?_⟩;refine And.intro rfl ?_;refine⟨S2,tW,ABy,fun b j h=>(r6 b j h).imp id fun h=>by omega,?_⟩;simp only[BS,SX]
 | some bx =>
   left;simp only[BS,SX]at f7;obtain⟨u,rfl,hu⟩:=f7;refine⟨u,rfl,?_⟩;simp only[PX,Z9,Az,BC];obtain⟨l,hl⟩:∃l,BD bx=.agg l:=⟨_,rfl⟩
   have AMz:l.length=11:=by cases bx;simp[BD]at hl;rw[<-hl];simp
   have F8:l.all V.one=true:=by cases bx;simp[BD]at hl;rw[<-hl];simp[V.one]
   have Wt:=hu;rw[hl]at Wt;have dS:=CV.cells (v:=.agg l) Wt (by simpa [V.flat]using F8);simp only[CV]at Wt;obtain⟨cs,rfl,hcs⟩:=Wt;have hs:cs.size=11:=by have:=hcs.len;simpa [AMz]using this
   have h1:SU cs:=fun y hy=>dS.2 y (by simpa [Value.cells]using hy)
   have Sy:I7 AD 41 cs.size:=by rw[hs];exact jc
   have B1:=Lib.hid Ni;go_wp2_with (((with_reducible refine xP (ty:=41) (w.heap.size) (cs) ?_ ?_ ?_ ?_ ?_ ?_ ?_);(focus rfl);(focus rfl);(focus exact⟨_,_,B1.out,Eq.symm (hs)⟩);(focus exact h1);(focus exact Sy);(focus rfl)))
   have Gx:B8 (W'.setRow w.heap.size cs) w.heap.size 41 cs:=B1.out.Xr cs;obtain⟨W2,hW2⟩:=AE (W'.setRow w.heap.size cs);have hkb:KB (fun b=>b=w.heap.size) W' W2:=by
    rw[<-hW2];exact⟨rfl,rfl,rfl,by simp,fun k _ hn=>setRow_other _ _ _ _ hn⟩
   rw[hW2]at Gx ⊢;have hl0:(loadVar 41 ⟨w.heap.size,0,none⟩).run AD W2=.ok (.agg cs) W2:=nP Gx.row Sy;have hk2:AS w W2:=hkb.after tW fun k e=>by omega
   have Is:=hkb.size;refine And.intro rfl ?_;refine⟨.agg cs,by simp[results,Tryz.results53,asAddr,hl0,PX],S2,hk2,⟨ABy.sub,fun b j v _ hc=>hk2.cell hc⟩,fun b j h=>(r6 b j h).imp id fun h=>by omega,?_⟩;simp only[BS,SX];refine⟨_,rfl,?_⟩;refine CV.mono (x:=Cx.bare S2) (x':=Cx.bare S2) (w:=W') ⟨⟨fun _ _ h=>h,fun b j v hs hc=>hkb.cell (by
    rcases r6 b j hs with h|h
    . have:=hS b j h;omega
    . omega) hc⟩,fun _ h=>h.elim,fun _ h=>h.elim⟩ _ _ hu
def outT:Option AA->V
 | some b=>.Bk [BD b,Af 0]
 | none=>.Bk [BD AA.zero,Af 6]
theorem AJ3 (g:FuncId)(caps:List V)(o:Option AA)(h:yg AD g caps (BS o))(Au:GI AD g=true):AC AD 52 [.fn g caps] (outT o):=by
 cases o with
 | some b =>
   refine AJ1 g caps (b.row.map V.c) (fun S w us hS C9=>(h S w us hS C9).mono ?_) Au (by cases b;simp[AA.row]) (by cases b;simp[AA.row,V.one]);rintro r w' ⟨S',h1,h2,h3,u,h4,h5⟩;exact⟨u,S',h4,h1,h2,h3,h5⟩
 | none =>
   intro S w us hS C9;simp only[AL,CV]at C9;obtain⟨u,r,rfl,⟨vs,rfl,EZ⟩,rfl⟩:=C9;obtain⟨fn,hf,hb,hn⟩:=UB Au;refine(AJ5 g vs w 6 (fun w1 Ev hs1=>?_) ⟨fn,hf,(by intro e;rw[e]at hb;cases hb),by simpa using hn⟩).mono ?_
   . have tA:=AL.mono (x':=Cx.bare S) (w':=w1) ⟨⟨fun _ _ h=>h,fun b j v _ hc=>Ev.cell hc⟩,fun _ h=>h.elim,fun _ h=>h.elim⟩ _ _ EZ;refine(h S w1 vs.toList (fun b j h=>H6 (hS b j h) Ev.size) tA).mono ?_;rintro r w2 ⟨S',hk2,DF,Hs,hout⟩;exact⟨hout,hk2⟩
   . rintro r w' ⟨rfl,hk⟩;refine⟨_,S,rfl,hk,⟨fun _ _ h=>h,fun b j v _ hc=>hk.cell hc⟩,fun b j h=>.inl h,?_⟩;simp only[outT,BD,Af,AA.zero,AA.row,AA.rows,Ab,Al,A8,CV,AL];refine⟨_,rfl,_,_,rfl,⟨_,rfl,?_⟩,_,_,rfl,(by unfold Ap;exact⟨rfl,by decide +kernel⟩),rfl⟩;refine⟨_,_,rfl,(by unfold Ap;exact⟨rfl,by decide +kernel⟩),_,_,rfl,(by unfold Ap;exact⟨rfl,by decide +kernel⟩),?_⟩;iterate 6 refine⟨_,_,rfl,(by unfold Ap;exact⟨rfl,by decide +kernel⟩),?_⟩
     refine⟨_,_,rfl,?_,_,_,rfl,(by unfold Ap;exact⟨rfl,by decide +kernel⟩),_,_,rfl,?_,rfl⟩;all_goals
      unfold Ap;exact⟨none,0,rfl,BW _,Cc _,fun h=>absurd rfl h⟩
def Ql (src:List Int)(p:Nat):Bool:=Dm src && (decide (src.length<=25) && decide (src.length % 2=p))
theorem AO8 (src:List Int)(hs:src.length<=maxLen)(p:Nat)(hp:p=0\/p=1):AC AD 51 [.c (Ab src),.c (.int .i64 p)] (.c (.bool (Ql src p))):=by
 unfold maxLen at hs;have hm:=AD0 src.length hs;unfold Ql;refine en Tryz.func51 Tryz.ntmps51 ?_;refine go @Ab.eq_1 ?_;refine lp (ι:={ k:Nat // k<=src.length/\Dm src=Dm (src.drop k) }) (fun k=>[(9,.c (.int .i64 (k.1:Int))),(4,.c (.bool false))]) (fun _=>[]) (fun k=>src.length - k.1) ⟨0,by simp⟩ ?_ ?_;all_goals simp only[Br,List.foldl_cons,List.foldl_nil,BC,Az]
 . refine Le.BV (by simp[A5])
 . rintro ⟨k,hk,hI⟩;by_cases hlt:k<src.length
   . rw[List.drop_eq_getElem_cons hlt]at hI;obtain⟨z,hz⟩:=AE (src[k]);rw[hz]at hI;have hw:IntKind.i64.wrap ((k:Int)+1)=((k+1:Nat):Int):=by rw[Aq];simp
     by_cases h1:z<0
     . have e:Dm src=false:=by rw[hI];simp[Dm];omega
       refine go (cj @hlt<|cj @hz<|@h1) ?_;simp[Aj,AV,AZ,Aa,V.AP,V.AO,AU,bF,e]
     . have e:Dm src=Dm (src.drop (k+1)):=by rw[hI];simp[Dm];intro;omega
       refine go (cj @hlt<|cj @hz<|cj @h1<|@hw) ?_;refine⟨⟨k+1,by omega,e⟩,by simp only;omega,?_⟩;refine Le.BV (by simp[A5])
   . have e:Dm src=true:=by rw[hI,List.drop_of_length_le (by omega)];rfl
     by_cases h25:src.length<=25
     . rcases hp with rfl|rfl
       . by_cases hq:src.length % 2=0
         . have Sm:(src.length:Int)<=25:=by omega
           refine go (cj @hlt<|cj @Ab.eq_1<|cj @hm<|cj @hq<|@Sm) ?_;simp[Aj,AV,AZ,Aa,V.AP,V.AO,AU,bF,e,h25,hq]
         . have C7:src.length % 2=1:=by omega
           have Sm:(src.length:Int)<=25:=by omega
           refine go (cj @hlt<|cj @Ab.eq_1<|cj @hm<|cj @C7<|@Sm) ?_;simp[Aj,AV,AZ,Aa,V.AP,V.AO,AU,bF,e,h25,C7]
       . by_cases hq:src.length % 2=0
         . have Sm:(src.length:Int)<=25:=by omega
           refine go (cj @hlt<|cj @Ab.eq_1<|cj @hm<|cj @hq<|@Sm) ?_;simp[Aj,AV,AZ,Aa,V.AP,V.AO,AU,bF,e,h25,hq]
         . have C7:src.length % 2=1:=by omega
           have Sm:(src.length:Int)<=25:=by omega
           refine go (cj @hlt<|cj @Ab.eq_1<|cj @hm<|cj @C7<|@Sm) ?_;simp[Aj,AV,AZ,Aa,V.AP,V.AO,AU,bF,e,h25,C7]
     . have Sm : ¬(src.length:Int)<=25:=by omega
       refine go (cj @hlt<|cj @Ab.eq_1<|@Sm) ?_;simp[Aj,AV,AZ,Aa,V.AP,V.AO,AU,bF,e,h25]
theorem APA (x:Ae)(s:AM)(hl:x.d.length<=300)(hs : ∀e∈x.d,e.text.size<=maxLen):AC AD 49 [.agg x.f.vs,.c (Dj x.d),Ai s] (.c (.bool (x.f.valid && (Mr x.d && s.ok)))):=by
 have h1:=Mv x.f;have h2:=AFH x.d (by omega) hs;have h3:=Xy s;unfold Ai at h3 ⊢;refine en Tryz.func49 Tryz.ntmps49 ?_;cases hv:x.f.valid<;>cases hd:Mr x.d<;>rw[hv]at h1<;>rw[hd]at h2;all_goals
  exact wz (cj @h1<|Tryz.results49) (cj h1<|cj h2<|cj h3<|trivial)
def T9 (e:Int):V:=.Bk [BD AA.zero,Af e]
def Ae.okB (x:Ae)(s:AM):Bool:=x.f.valid && (Mr x.d && s.ok)
def LD (x:Ae)(s:AM)(src:List Int)(n:Nd):V:=if (x.okB s && n.Av)=false then T9 1 else if Ql src 0=false then T9 2 else outT (Db x s src n)
theorem ez (x:Ae)(n:Nd)(src:List Int)(s:AM)(hf:x.f.Fit)(hl:x.d.length<=300)(Nl : ∀e∈x.d,e.text.size<=maxLen)(hn:n.Bc)(hc:n.cnt<=80)(DG:src.length<=maxLen):AC AD 24 [.agg x.f.vs,.c (Dj x.d),At n,.c (Ab src),Ai s] (LD x s src n):=by
 have k1:=APA x s hl Nl;have k2:=mr n hn (by omega);have k3:=AO8 src DG 0 (.inl rfl);have WX:x.okB s=true->n.Av=true->Ql src 0=true->AC AD 52 [.fn 53 [.cp x.f.row 0,.cp [Dj x.d] 0,.cp n.row 0,.cp [Ab src] 0,.cp [.int .i64 s.level,.bool s.GJ] 0]] (outT (Db x s src n)):=fun hv HO ES=>by
  unfold Ae.okB at hv;simp only[An]at hv;unfold Nd.Av at HO;simp only[An,decide_eq_true_eq]at HO;unfold Ql at ES;simp only[An,decide_eq_true_eq]at ES;have hx:x.Ok:=⟨hf,hv.1,hl,hv.2.1⟩
  exact AJ3 _ _ _ (AKD x n src s _ hx fun m=>(AS1 x m n).1 src s ⟨hx,hv.2.2,HO.1,HO.2.1,hn,hc,HO.2.2.2,⟨ES.1,ES.2.2,by omega⟩⟩) (by decide)
 change AC _ _ _ (.c (.bool (x.okB s)))at k1;obtain⟨OV,hOV⟩:=AE (x.okB s);obtain⟨NV,hNV⟩:=AE n.Av;obtain⟨SV,hSV⟩:=AE (Ql src 0);obtain⟨o,ho⟩:=AE (Db x s src n);unfold LD;rw[hOV]at k1 WX ⊢;rw[hNV]at k2 WX ⊢;rw[hSV]at k3 WX ⊢;rw[ho]at WX ⊢;clear hOV hNV hSV ho;obtain⟨f,d⟩:=x;obtain⟨kd,t,c,kids⟩:=n;obtain⟨lv,cr⟩:=s;simp only[At,Nd.vs,Ai,Nd.row]at k1 k2 k3 WX ⊢;cases OV with
 | false =>
   refine en iQ ia ?_;refine wy Ph (cj k1<|cj k2<|cj k3<|trivial) ⟨?_⟩;simp[Aj,AV,AZ,Aa,V.AP,V.AO,AU,Ph,T9,BD,Af,AA.zero,AA.row,AA.rows,Ab]
 | true =>
   cases NV with
   | false =>
     refine en iQ ia ?_;refine wy Ph (cj k1<|cj k2<|cj k3<|trivial) ⟨?_⟩;simp[Aj,AV,AZ,Aa,V.AP,V.AO,AU,Ph,T9,BD,Af,AA.zero,AA.row,AA.rows,Ab]
   | true =>
     cases SV with
     | false =>
       refine en iQ ia ?_;refine wy Ph (cj k1<|cj k2<|cj k3<|trivial) ⟨?_⟩;simp[Aj,AV,AZ,Aa,V.AP,V.AO,AU,Ph,T9,BD,Af,AA.zero,AA.row,AA.rows,Ab]
     | true =>
       have h4:=WX rfl rfl rfl;obtain⟨sr,ES⟩:=AE (Ab src);rw[ES]at h4 k3 ⊢;clear WX ES;cases o with
       | none =>
         refine en iQ ia ?_;refine wu (CJ.mk 5) Ph (cj k1<|cj k2<|cj k3<|trivial) ⟨?_⟩;refine AW.AR 0 rfl (by simp[toCs,toC];exact rfl) (by simp[V.BG,V.AR];exact rfl) (by simp[O.AR,V.BG,V.AR];exact rfl) ?_;refine AW.AR 1 rfl (by simp[toCs,toC];exact rfl) (by simp[V.BG,V.AR];exact rfl) (by simp[O.AR,V.BG,V.AR];exact rfl) ?_;refine AW.AR 2 rfl (by simp[toCs,toC];exact rfl) (by simp[V.BG,V.AR];exact rfl) (by simp[O.AR,V.BG,V.AR];exact rfl) ?_;refine AW.AR 3 rfl (by simp[toCs,toC];exact rfl) (by simp[V.BG,V.AR];exact rfl) (by simp[O.AR,V.BG,V.AR];exact rfl) ?_;refine AW.AR 4 rfl (by simp[toCs,toC];exact rfl) (by simp[V.BG,V.AR];exact rfl) (by simp[O.AR,V.BG,V.AR];exact rfl) ?_;simp only[outT,BD,Af,AA.zero,AA.row,AA.rows,Ab,Al,A8]at h4;refine wy Ph (cj h4<|trivial) ⟨?_⟩;simp[Aj,AV,AZ,Aa,V.AP,V.AO,AU,Ph,outT,BD,Af,AA.zero,AA.row,AA.rows,Ab]
       | some bx =>
         obtain⟨b0,b1,b2,b3,b4,b5,b6,b7,bk,bo,bs⟩:=bx;simp only[outT,BD,Af,AA.row,Al,A8]at h4;obtain⟨zp,Il⟩:=AE (AA.rows bk);obtain⟨bsr,S3⟩:=AE (Ab bs);rw[Il,S3]at h4;refine en iQ ia ?_;refine wu (CJ.mk 5) Ph (cj k1<|cj k2<|cj k3<|trivial) ⟨?_⟩;refine AW.AR 0 rfl (by simp[toCs,toC];exact rfl) (by simp[V.BG,V.AR];exact rfl) (by simp[O.AR,V.BG,V.AR];exact rfl) ?_;refine AW.AR 1 rfl (by simp[toCs,toC];exact rfl) (by simp[V.BG,V.AR];exact rfl) (by simp[O.AR,V.BG,V.AR];exact rfl) ?_;refine AW.AR 2 rfl (by simp[toCs,toC];exact rfl) (by simp[V.BG,V.AR];exact rfl) (by simp[O.AR,V.BG,V.AR];exact rfl) ?_;refine AW.AR 3 rfl (by simp[toCs,toC];exact rfl) (by simp[V.BG,V.AR];exact rfl) (by simp[O.AR,V.BG,V.AR];exact rfl) ?_;refine AW.AR 4 rfl (by simp[toCs,toC];exact rfl) (by simp[V.BG,V.AR];exact rfl) (by simp[O.AR,V.BG,V.AR];exact rfl) ?_;refine wy Ph (cj h4<|trivial) ⟨?_⟩;simp[Aj,AV,AZ,Aa,V.AP,V.AO,AU,Ph,outT,BD,Af,AA.row,Il,S3]
def Gf (x:Ae):List V:=x.f.vs++[.c (Dj x.d)]
@[simp] theorem AXo (x:Ae):(Gf x).length=23:=by simp[Gf]
@[simp] theorem AXm (x:Ae):(Gf x).all V.one=true:=by simp[Gf,V.one]
@[simp] theorem AXr (x:Ae):(Gf x).take 23=Gf x:=List.take_of_length_le (by simp)
@[simp] theorem AXl (x:Ae):(Gf x).take 22=x.f.vs:=by rfl
@[simp] theorem AXk (x:Ae):(Gf x)[22]?=some (.c (Dj x.d)):=by rfl
@[simp] theorem AXn (x:Ae)(h:22<(Gf x).length):(Gf x)[22]=.c (Dj x.d):=rfl
@[simp] theorem AXp (x:Ae):V.AO (Gf x)=some (Gf x):=by
 have:Gf x=(x.f.row++[Dj x.d]).map V.c:=by rfl
 rw[this];exact Xg _
@[simp] theorem AXq (x:Ae)(cs:List V)(h:cs.length=23):Ek cs 0 (Gf x)=Gf x:=Zd (by simp[h])
@[simp] theorem AXj (x:Ae)(n:Nat):V.BT n (Gf x)=true:=by simp[Gf,AI.vs,AI.row,Params.list,V.BT,V.BA]
theorem AFi (x:Ae)(s:AM)(src:List Int)(n:Nd):∃b e,LD x s src n=.Bk [BD b,Af e]:=by
 unfold LD T9 outT;split
 . exact⟨_,_,rfl⟩
 . split
   . exact⟨_,_,rfl⟩
   . split
     . exact⟨_,_,rfl⟩
     . exact⟨_,_,rfl⟩
theorem uv (x:Ae)(n:Nd)(s:AM)(hf:x.f.Fit)(hl:x.d.length<=300)(Nl : ∀e∈x.d,e.text.size<=maxLen)(hn:n.Bc)(hc:n.cnt<=80):AC AD 15 [.agg x.f.vs,.c (Dj x.d),At n,Ai s] (LD x s [] n):=by
 have h:=ez x n [] s hf hl Nl hn hc (Cc _);obtain⟨b,e,hr⟩:=AFi x s [] n;rw[hr]at h ⊢;obtain⟨b0,b1,b2,b3,b4,b5,b6,b7,bk,bo,bs⟩:=b;simp only[BD,Af,AA.row,Al,A8]at h ⊢;obtain⟨zp,Il⟩:=AE (AA.rows bk);obtain⟨bsr,S3⟩:=AE (Ab bs);rw[Il,S3]at h ⊢;clear Il S3 hr;obtain⟨kd,t,c,kids⟩:=n;obtain⟨lv,cr⟩:=s;simp only[At,Nd.vs,Ai,Nd.row,Ab,A8]at h ⊢;refine en Tryz.func15 Tryz.ntmps15 ?_;exact wz Tryz.results15 (cj h<|trivial)
def RE (x:Ae)(n:Nd)(m:Int):Bool:=Ng x.f && (decide (x.d.length<=300) && decide ((n.cnt:Int)<=m))
theorem kX (x:Ae)(n:Nd)(m:Int)(hf:x.f.Fit)(hl:x.d.length<=maxLen)(hn:n.Bc)(hm:0<=m)(Ew:m<=100000):AC AD 14 [.agg (Gf x),At n,.c (.int .i64 m)] (.c (.bool (RE x n m))):=by
 have h1:=AKw x.f hf.gl;have h2:=ASa n m hn hm Ew;unfold RE;obtain⟨B1,Ni⟩:=AE (Ng x.f);obtain⟨B2,WL⟩:=AE (decide ((n.cnt:Int)<=m));rw[Ni]at h1 ⊢;rw[WL]at h2 ⊢;clear Ni WL;have hde:decide (x.d.length<=300)=decide ((x.d.length:Int)<=300):=by simp;omega
 rw[hde];have MG:(Dj x.d)=.sl (x.d.map En.row):=rfl;obtain⟨kd,t,c,kids⟩:=n;simp only[At,Nd.vs,Nd.row]at h2 ⊢;cases B1 with
 | false =>
   refine en Tryz.func14 Tryz.ntmps14 ?_;exact wz yB (cj h1<|cj h2<|trivial)
 | true =>
   by_cases h3:(x.d.length:Int)<=300
   . rw[decide_eq_true h3];refine en Tryz.func14 Tryz.ntmps14 ?_;exact wz (cj @MG<|cj @h3<|yB) (cj h1<|cj h2<|trivial)
   . rw[decide_eq_false h3];refine en Tryz.func14 Tryz.ntmps14 ?_;exact wz (cj @MG<|cj @h3<|yB) (cj h1<|cj h2<|trivial)
section
variable {H:Type} {enc:TypeId×Value->H} {w:World}
theorem mV {fuel:Nat}:DD enc AD w fuel 35 (fun s:AM=>[.int .i64 s.level,.bool s.GJ]) (fun _=>True):=by
 cases fuel with
 | zero=>exact DD.zero
 | succ fuel=>exact(Rr Tryz.underlying35 (by kernel_rfl) (Cj.cons (o:=0) (o':=1) rfl (by kernel_rfl) (by decide) (FU Eg) (Cj.cons (o:=1) (o':=2) rfl (by kernel_rfl) (by decide) (mS SQ) (Cj.nil)))).conv (fun q=>⟨q.1,q.2.1⟩) (fun q=>rfl) (fun q h=>trivial)
theorem mT {fuel:Nat}:DD enc AD w fuel 30 (fun x:Ae=>x.f.row++[Dj x.d]) (fun x=>x.f.Fit/\x.d.length<=maxLen/\∀a∈x.d,a.text.size<=maxLen):=by
 cases fuel with
 | zero=>exact DD.zero
 | succ fuel=>exact(Rr Tryz.underlying30 (by kernel_rfl) (Cj.cons (o:=0) (o':=22) rfl (by kernel_rfl) (by decide) (AQJ) (Cj.cons (o:=22) (o':=23) rfl (by kernel_rfl) (by decide) (AQH) (Cj.nil)))).conv (fun q=>⟨q.1,q.2.1⟩) (fun q=>by simp) (fun q h=>⟨h.1,h.2.1.1,h.2.1.2⟩)
end
end Go.Proofs.YtpodcjcajanldaaGreat
