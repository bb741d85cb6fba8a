/- Part of the proof of some laws. Conditions: none. -/
import Derived.Test.YtglaipbdiofkfaaGreatY16
set_option linter.unusedVariables false
set_option linter.unusedSimpArgs false
set_option maxRecDepth 100000
set_option maxHeartbeats 16000000
open List renaming map→Vf,map_cons→Ap,map_nil→BB,drop_succ_cons→CU,drop_zero→B9,set_cons_succ→Ai,set_cons_zero→Ag,replicate→Aq,length_map→Ch,length_append→Cp,length_take→Fa,length_replicate→H6,eq_of_mem_replicate→UA,mem_map→Da,replicate_succ→BY,map_append→Fm,mem_flatten→gA,mem_cons→Cf,replicate_zero→Cy,drop_eq_getElem_cons→D5,all_eq_true→ES,mem_cons_of_mem→Gk,mem_cons_self→GH,length_cons→BA,foldl_cons→Bw,foldl_nil→CO,map_replicate→uR,take_succ_cons→DP,take_zero→ET,getElem?_eq_some_iff→Br,length_set→GF,getD→mS,getElem_mem→Kq,getElem?_cons_zero→LX,getElem?_cons_succ→JU,getElem?_eq_getElem→BE,mem_of_getElem?→Cj,ext_getElem→UB,getElem_map→mW,ext_getElem?→Vc,getElem?_map→CM,getElem?_set→RD,getElem?_eq_none→M6,length_nil→BO,cons_append→BK,nil_append→BU
open Bool renaming and_eq_true→Ak,false_eq_true→GW,eq_iff_iff→Oj
open Go.Proofs.Tryz renaming prog→AF,func94→AQo,ntmps94→ARd,results94→ASS,results89→APB,results90→AGa,func86→AQl,ntmps86→ARY,results86→We,func44→gS,ntmps44→gv,results44→kn,func167→AFL,func242→AF3
open Go.Region renaming wanted→FB
open Classical renaming byContradiction→Kn
open Go.Oper renaming wp→Er
open Nat renaming le_of_ble_eq_true→F2,zero_le→CI,min_eq_left→Vi,add_mul→Gz,le_of_lt→LZ,sub_self→La,le_refl→BN,le_of_not_lt→Hq,add_zero→M8,zero_add→Cz,mod_eq_of_lt→uZ,mod_lt→mh,div_lt_iff_lt_mul→AC4,mul_comm→aO,mul_succ→AQH,mul_le_mul_left→mj,mul_zero→AbF,mod_add_div→AMz
open Go.Op renaming operands→Bl
open Array renaming length_toList→FW,toList_inj→Gx,getElem?_eq_some_iff→DO
open Go.IntKind renaming i64→AZ
open Option renaming getD_some→Dm,isSome_some→IZ,getD_none→Hr,isSome_none→H8,map_some→Nu,bind_some→aQ
open Go.Fence renaming wide→Cg
open Option.some renaming injEq→BL
open Go.Call renaming operands→Df
open Option renaming some→J,none→E
open Bool renaming false→U,true→I
open List renaming length→G
namespace Go.Proofs.YtglaipbdiofkfaaGreat
open Go.RowKit Tryz
variable {r:List Oper}{ty:TypeId}{o:Oper}{P:Program}{i:Nat}{α:Type}(x:Af)(b:AA)(m:Nat)(l:List AA)(Z:List C)(n:Nd)(k:Nat)(s:Aa)
@[simp] theorem En.AL8 (b:En):b.vs[2]?=J (.c (.bool b.dW)):=F
@[simp] theorem En.AL6 (b:En)(h:2<G b.vs):b.vs[2]'h=.c (.bool b.dW):=F
@[simp] theorem En.ACO (b:En):b.vs[3]?=J (.c (.bool b.str)):=F
@[simp] theorem En.ACI (b:En)(h:3<G b.vs):b.vs[3]'h=.c (.bool b.str):=F
@[simp] theorem En.AX1 (b:En):b.row[2]?=J (.bool b.dW):=F
@[simp] theorem En.AX2 (b:En):b.row[3]?=J (.bool b.str):=F
def Cm (x:Af)(m:Nat):List C:=x.f.row++[Cc x.d,.int .i64 100,.int .i64 100,.int .i64 x.f.params.script,.int .i64 x.f.params.Qr,.MA m,.Cv,.Cv,.EV 44,.EV 45,.EV 45,.EV 46,.EV 47,.EV 48,.EV 48,.EV 48,.EV 49,.EV 50,.EV 51]
def Bb (x:Af)(m:Nat):V:=.cp (Cm x m) 0
section
variable (x:Af) (m:Nat)
@[simp] theorem AdT:G (Cm x m)=41:=F
@[simp] theorem AdR:(Vf V.c (Cm x m)).take 22=x.f.vs:=F
@[simp] theorem AdS:Vf V.c ((Cm x m).take 22)=x.f.vs:=F
@[simp] theorem Ac7:(Cm x m)[2]?=J (.int .i64 x.f.params.Al):=F
@[simp] theorem Acl (h:2<G (Cm x m)):(Cm x m)[2]'h=.int .i64 x.f.params.Al:=F
@[simp] theorem AdE:(Cm x m)[3]?=J (.int .i64 x.f.params.Gj):=F
@[simp] theorem Acs (h:3<G (Cm x m)):(Cm x m)[3]'h=.int .i64 x.f.params.Gj:=F
@[simp] theorem AdP:(Cm x m)[4]?=J (.int .i64 x.f.params.FD):=F
@[simp] theorem Ac4 (h:4<G (Cm x m)):(Cm x m)[4]'h=.int .i64 x.f.params.FD:=F
@[simp] theorem Ac8:(Cm x m)[22]?=J (Cc x.d):=F
@[simp] theorem Acm (h:22<G (Cm x m)):(Cm x m)[22]'h=Cc x.d:=F
@[simp] theorem Ac9:(Cm x m)[23]?=J (.int .i64 100):=F
@[simp] theorem Acn (h:23<G (Cm x m)):(Cm x m)[23]'h=.int .i64 100:=F
@[simp] theorem AdA:(Cm x m)[24]?=J (.int .i64 100):=F
@[simp] theorem Aco (h:24<G (Cm x m)):(Cm x m)[24]'h=.int .i64 100:=F
@[simp] theorem AdB:(Cm x m)[25]?=J (.int .i64 x.f.params.script):=F
@[simp] theorem Acp (h:25<G (Cm x m)):(Cm x m)[25]'h=.int .i64 x.f.params.script:=F
@[simp] theorem AdC:(Cm x m)[26]?=J (.int .i64 x.f.params.Qr):=F
@[simp] theorem Acq (h:26<G (Cm x m)):(Cm x m)[26]'h=.int .i64 x.f.params.Qr:=F
@[simp] theorem AdD:(Cm x m)[27]?=J (.MA m):=F
@[simp] theorem Acr (h:27<G (Cm x m)):(Cm x m)[27]'h=.MA m:=F
@[simp] theorem AdF:(Cm x m)[30]?=J (.EV 44):=F
@[simp] theorem Acu (h:30<G (Cm x m)):(Cm x m)[30]'h=.EV 44:=F
@[simp] theorem AdG:(Cm x m)[31]?=J (.EV 45):=F
@[simp] theorem Acv (h:31<G (Cm x m)):(Cm x m)[31]'h=.EV 45:=F
@[simp] theorem AdH:(Cm x m)[32]?=J (.EV 45):=F
@[simp] theorem Acw (h:32<G (Cm x m)):(Cm x m)[32]'h=.EV 45:=F
@[simp] theorem AdI:(Cm x m)[33]?=J (.EV 46):=F
@[simp] theorem Acx (h:33<G (Cm x m)):(Cm x m)[33]'h=.EV 46:=F
@[simp] theorem AdJ:(Cm x m)[34]?=J (.EV 47):=F
@[simp] theorem Acy (h:34<G (Cm x m)):(Cm x m)[34]'h=.EV 47:=F
@[simp] theorem AdK:(Cm x m)[35]?=J (.EV 48):=F
@[simp] theorem Acz (h:35<G (Cm x m)):(Cm x m)[35]'h=.EV 48:=F
@[simp] theorem AdL:(Cm x m)[36]?=J (.EV 48):=F
@[simp] theorem Ac0 (h:36<G (Cm x m)):(Cm x m)[36]'h=.EV 48:=F
@[simp] theorem AdM:(Cm x m)[37]?=J (.EV 48):=F
@[simp] theorem Ac1 (h:37<G (Cm x m)):(Cm x m)[37]'h=.EV 48:=F
@[simp] theorem AdN:(Cm x m)[38]?=J (.EV 49):=F
@[simp] theorem Ac2 (h:38<G (Cm x m)):(Cm x m)[38]'h=.EV 49:=F
@[simp] theorem AdO:(Cm x m)[39]?=J (.EV 50):=F
@[simp] theorem Ac3 (h:39<G (Cm x m)):(Cm x m)[39]'h=.EV 50:=F
@[simp] theorem AdQ:(Cm x m)[40]?=J (.EV 51):=F
@[simp] theorem Ac5 (h:40<G (Cm x m)):(Cm x m)[40]'h=.EV 51:=F
end
theorem kW {s:Aa}(h:s.ok=I):s.By=0\/s.By=1\/s.By=2\/s.By=3:=by
 simp only[Aa.ok,Ak,decide_eq_true_eq]at h;omega
theorem tE {s:Aa}(h:s.ok=I):(Cm x m)[23+s.By.toNat]?=J (.int .i64 (x.sz s)):=by
 obtain⟨l,c⟩:=s;rcases kW h with B|B|B|B
 all_goals
  simp only at B;subst B;simp[Af.sz,BS,h]
structure Af.Ok (x:Af):Prop where
 fit:x.f.Fit
 val:x.f.valid=I
 dl:G x.d<=300
 dv:Ll x.d=I
theorem tC (n:Int)(s:Aa)(B:s.ok=I):AC AF 53 [Bb x m,.c (.int .i64 n),Aj s] (.c (.int .i64 (AU n (x.sz s)))):=by
 have H:=tE x m B;have R:=kW B;have M:0<=s.By:=by omega
 have Q:s.By<4:=by omega
 unfold Bb Aj;refine en func53 ntmps53 ?_;exact wz (cj3 @H @M @Q results53) (cj (EI n (x.sz s))<|trivial)
def ko:List PanicEntry:=[⟨.iface 42 (.int .i64 6),U,U⟩]
def BP:Option AA->Out
 | some b=>.ret (Ao b)
 | none=>.HB ko
section
variable {P:Program} {K:Exit->St->Prop} {ops:List Oper} {s:St}
theorem SW.rp {B M:Oper}{y:Operand}{d:Nat}{k k0:IntKind}{n:Int}(Y5:P.underlying ty=J (.int k0))(h1:B.op=.makeInterface ty y)(hd:B.dst=J d)(h2:M.op=.panic (.tmp d))(hg:BQ ops s.t B.guard=J I)(zK:M.guard=E)(hy:ev s.t y=.c (.int k n))(Ls:d<G s.t)(h:K (.panic [⟨.iface ty (.int k n),U,U⟩]) (s.put (J d) .any)):SW P ops K (B::M::r) s:=λS0 w0 x a w H=>by
 have hw:FB B (yielded ops.toArray a.tmps)=true:=by
  have:=KR (o:=B) H.tm (IF (ops:=ops) (K1:=True) (K2:=False) hg W);exact Kn λh=>this.2 h
 have S:=CW H.tm y;rw[hy]at S;simp only[CV,Ab]at S;have Q:(execOp a.eval B).run P w=.ok (.value (.iface ty (.int k n))) w:=by simp[execOp,h1,S.1,Instr.makeInterface,run_underlying Y5]
 have Fb:Bo S0 w0 x (s.put (J d) .any) (a.put (J d) (.iface ty (.int k n))) w:=by
  have:=Bo.put H.tm H.df (Ext.refl x w) H.good (v:=.any) (u:=.iface ty (.int k n)) (by simp only[CV]) (J d);exact this
 have q:(a.put (J d) (.iface ty (.int k n))).eval (.tmp d)=.iface ty (.int k n):=by
  have hl:d<a.tmps.size:=by have:=H.tm.len;simp at this;omega
  simp[Act.put,Act.eval,hl]
 have R:(execOp (a.put (J d) (.iface ty (.int k n))).eval M).run P w=.halt (.panic (.iface ty (.int k n))) w:=by simp[execOp,h2,q,Instr.panic,goPanic,Sem.run,Result.andThen]
 have z:FB M (yielded ops.toArray (a.put (J d) (.iface ty (.int k n))).tmps)=true:=by simp[FB,zK]
 unfold wpList;rw[if_pos hw];refine .inl ?_;unfold Er;rw[Q];show wpList P ops.toArray _ (M::r) (a.put B.dst _) w;rw[hd];unfold wpList;rw[if_pos z];refine .inl ?_;unfold Er;rw[R];exact⟨x,_,Fb,h⟩
end
theorem Jl :AC AF 58 [Ao b,AR 0] (Ao b):=by
 unfold AR;simp only[As];refine en func58 ntmps58 ?_;exact wz results58 W
theorem LG (R:Obj->Prop):AQ AF 58 [Ao b,AR 6] m R R (.HB ko):=by
 unfold AR;simp only[As];refine CH func58 ntmps58 ?_;refine qu (.mk 2) results58 trivial ⟨?_⟩;refine AW.DA ?_;refine CY (.mk 1) trivial ?_;exact SW.rp (Y5:=underlying42) rfl rfl rfl rfl rfl rfl (F2 F) ⟨rfl,rfl⟩
theorem ABr (hx:x.Ok):AC AF 94 [Bb x m,Am n,Aj s] (.c (.bool (PZ x s n))):=by
 have hd:G x.d<=1000000:=by have:=hx.dl;omega
 obtain⟨k,t,c,B⟩:=n;unfold Bb Aj;simp only[Am,Nd.vs,Nd.row,Ap,BB];by_cases H:s.By=0;by_cases Q:G B=1;match B,Q with
 | [⟨k',R,q,M⟩],_ =>
   simp only[Nd.AG,Nd.row];by_cases S:k'=2;subst S;have z:=AA8 x.d R hd;have e:PZ x s ⟨k,t,c,[⟨2,R,q,M⟩]⟩=(He x.d R).dW:=by simp[PZ,H]
   rw[e];unfold WH at z;refine en AQo ARd ?_;exact wz (cj @H<|ASS) (cj z<|trivial);have e:PZ x s ⟨k,t,c,[⟨k',R,q,M⟩]⟩=false:=by simp[PZ,S]
   rw[e];refine en AQo ARd ?_;exact wz (cj2 @H @S ASS) W
 have e:PZ x s ⟨k,t,c,B⟩=false:=by
  unfold PZ;split;rename_i hk;simp only at hk;rw[hk]at Q;exact absurd rfl Q;rfl
 rw[e];have hl:=Pc B;generalize Aw:Nd.AG B=rs at hl ⊢;rw[<-hl]at Q;refine en AQo ARd ?_;exact wz (cj2 @H @Q ASS) W;have e:PZ x s ⟨k,t,c,B⟩=false:=by
  unfold PZ;split<;>simp[H]
 rw[e];refine en AQo ARd ?_;exact wz (cj @H<|ASS) W
theorem APp (name:ByteArray):(x.gl s name).AE=[]/\(x.gl s name).src=[]:=by
 unfold Af.gl DB;split<;>exact⟨F,F⟩
theorem AI0 {B:BF}{w0:Bs}{x:Cx}{w:World}{H:Bx}{a:Act}(g:Good B w0 x w H){y z:Operand}(R:o.op=.lookup 87 y z I){k m:Nat}{s:ByteArray}{n:Int}{f:AP}{M:ByteArray->Int->Bool}{v:V}(S : .A7 [Ao (if M s n=I then(DB f s n).1 else AA.zero),.c (.bool (M s n))]=v)(q:CV x w (.c (.MA m)) (a.eval y))(hz:CV x w (.agg [.c (.str s),.c (.int .i64 n)]) (a.eval z))(Q:H k=J (.mp (Ci m (P0 f M)))):
 BW AF o a B w0 x w H v none:=S ▸ AVK g R q hz Q
theorem AKp (name:ByteArray)(s:Aa)(z:x.Ok)(hs:s.ok=I):AQ AF 89 [Bb x m,.c (.str name),Aj s] m (BM x.f) (BM x.f) (.ret (Ao (x.gl s name))):=by
 have hz:=tE x m hs;have hl:=kW hs;have k0:0<=s.By:=by omega
 have k1:s.By<4:=by omega
 obtain⟨p1,p2⟩:=HE z.val hs;have q:=pn x.f name (x.sz s) z.fit.1;rw[show QC x.f name (x.sz s)=(x.gl s name,0)from by
  have:=(Pk z.val p1 p2 name).1;unfold QC Af.gl Af.sz;rw[if_pos z.val,this]]at q
 have CD:=Jl (x.gl s name);obtain⟨gk,gs⟩:=APp x s name;have TQ:(DB x.f name (x.sz s)).1=x.gl s name:=F;generalize hB:x.gl s name=B at gk gs q CD TQ ⊢;simp only[Ba,AR,As]at q CD ⊢;refine AQ.AVk λM=>?_
 cases hM:M name (x.sz s)with
 | true =>
   refine AQ.mono (R:=P0 x.f M) (R':=P0 x.f M) ?_ (λ_ h=>h) λob h=>⟨M,h⟩
   unfold Bb Aj;refine CH func89 ntmps89 ?_;refine qu (.mk 2) (cj3 @hz @k0 @k1 APB) trivial ⟨?_⟩;refine AW.Lm Fz (.inl F) ?_;refine TW.take 5 (Es (by simp;first|exact rfl|exact⟨F,F⟩|exact⟨F,F,F⟩) (HI ?_));simp only[CU,B9];refine TW.op ⟨.A7 [.agg B.vs,.c (.bool I)],E,J 0⟩ rfl (λ_ _ h=>by cases h) ?_ ?_;intro S0 w0 y w a H g Q S;exact AI0 (M:=M) (s:=name) (n:=x.sz s) (f:=x.f) g rfl (by rw[hM,if_pos F,TQ];rfl) (Q (.tmp 23) (by simp[Bl])) (Q (.tmp 24) (by simp[Bl])) (S 0 F);simp only[St.step,St.put,Z7,Ai,Ag];refine TW.take 6 (Es (by simp;first|exact rfl|exact⟨F,F⟩|exact⟨F,F,F⟩) (HI (TW.nil ⟨by kernel_rfl,?_⟩)));exact qz APB W
 | false =>
   refine AQ.mono (R:=P0 x.f M) (R':=P0 x.f (fP M name (x.sz s))) ?_ (λ_ h=>h) λob h=>⟨_,h⟩
   unfold Bb Aj;refine CH func89 ntmps89 ?_;refine qu (.mk 2) (cj3 @hz @k0 @k1 APB) trivial ⟨?_⟩;refine AW.Lm Fz (.inl F) ?_;refine TW.take 5 (Es (by simp;first|exact rfl|exact⟨F,F⟩|exact⟨F,F,F⟩) (HI ?_));simp only[CU,B9];refine TW.op ⟨.A7 [.agg AA.zero.vs,.c (.bool U)],E,J 0⟩ rfl (λ_ _ h=>by cases h) ?_ ?_;intro S0 w0 y w a H g Q S;exact AI0 (M:=M) (s:=name) (n:=x.sz s) (f:=x.f) g rfl (by rw[hM,if_neg (by simp)];rfl) (Q (.tmp 23) (by simp[Bl])) (Q (.tmp 24) (by simp[Bl])) (S 0 F);simp only[St.step,St.put,Z7,Ai,Ag];refine TW.take 6 (Es (by simp;first|exact rfl|exact⟨F,F⟩|exact⟨F,F,F⟩) (HI (TW.nil ⟨by kernel_rfl,?_⟩)));refine qu (.mk 5) APB (cj2 q CD W) ⟨?_⟩;refine AW.Lm Fz (.inl F) ?_;refine TW.take 6 (Es (by simp;first|exact rfl|exact⟨F,F⟩|exact⟨F,F,F⟩) (HI ?_));simp only[CU,B9];refine TW.op ⟨.any,J (0,.mp (Ci m (P0 x.f (fP M name (x.sz s))))),J 0⟩ rfl (λk ob e=>by cases e;exact CI _) ?_ ?_;intro S0 w0 y w a H g Q S;have hb:=Q (.tmp 46) (by simp[Bl]);refine AVL (M:=M) (s:=name) (n:=x.sz s) (f:=x.f) g rfl (Q (.tmp 44) (by simp[Bl])) (Q (.tmp 45) (by simp[Bl])) ?_ hM (S 0 F);intro y' w';rw[TQ];exact AOg gk gs (b:=B) hb y' w';simp only[St.step,St.put,Ai,Ag,ALo];refine TW.nil ⟨by kernel_rfl,?_⟩;exact qz APB W
structure Xt (b:AA):Prop where
 v:b.Ad=I
 o:b.BX
 w:0<=b.w
theorem qA {x:Af}(B:x.Ok){s:Aa}(hs:s.ok=I){name:ByteArray}(M:Ck name=I):Xt (x.gl s name)/\(x.gl s name).cnt=1:=by
 obtain⟨Q,R⟩:=HE B.val hs;have H:name.size<=16:=by simp only[Ck,Ak,decide_eq_true_eq]at M;exact M.2.2
 obtain⟨S,a2,z⟩:=lQ B.val Q R H;obtain⟨q,b2⟩:=ABp B.val Q R M (y:=0) (by decide);rw[AKv B.val Q R name]at q b2;have e:x.gl s name=(DB x.f name (BS x.f.params s)).1:=F;rw[e];exact⟨⟨ic q (by omega) (by omega),S.BX,S.w1⟩,z⟩
theorem AUQ {w h:Int}(Q:An w=I)(M:An h=I)(H:0<=w):Xt (Bf w h 0 [])/\(Bf w h 0 []).cnt=1:=by
 refine⟨⟨ic ?_ (by simp[Bf,AA.cnt,AA.Az]) (by simp[Bf,AA.nest,AA.Hk]),⟨(CI _:0<=maxLen),(CI _:0<=maxLen),W⟩,H⟩,F⟩;have B:An 0=true:=by decide
 simp[AA.D8,AA.FU,AA.Cl,AA.lens,AA.Fi,AA.Js,Bf,Q,M,B,HT,I7]
theorem VN {x:Af}(B:x.Ok){s:Aa}(H:s.ok=I):0<=x.Al s:=by
 obtain⟨M,Q⟩:=HE B.val H;refine ew ?_ (by unfold Af.sz;omega);have:=B.val;simp[AP.valid,Qk,Params.lens,Params.SK,DX]at this;omega
theorem AOL {x:Af}(H:x.Ok){s:Aa}(B:s.ok=I){c:UInt8}(Q:Dx c=I):Xt (x.RW s c)/\(x.RW s c).cnt=1:=by
 unfold Af.RW;split;have M:=VN H B;have R:=DM (p:=25) (x.Al s) (by omega) (by omega);refine AUQ ?_ (by decide) (ew M (by omega));simp[An];omega;refine qA H B ?_;simp[Ck,Q,ByteArray.size]
def Ht (l:List AA)(k:Nat):List V:=((l.take k).map AA.vs).flatten++(Aq (G l - k) BT).flatten
theorem iY {n:Nat}(h:n=G l):(Aq n BT).flatten=Ht l 0:=by subst h;simp[Ht]
theorem Xf :G b.vs=11:=by unfold AA.vs;rw[Ch,Nk]
theorem iZ (h:k<=G l):G (Ht l k)=G l*11:=by
 unfold Ht;rw[Cp,K7 (es:=11),K7 (es:=11)];simp only[Ch,Fa,H6,Vi h,<-Gz];congr 1
 omega;intro r B;rw[UA B];rfl;intro r B;obtain⟨q,_,rfl⟩:=Da.1 B;exact Xf q
theorem ia (h:k<G l):E8 (Ht l k) (k*11) (l[k]).vs=Ht l (k+1):=by
 have B:G (((l.take k).map AA.vs).flatten)=k*11:=by
  rw[K7 (es:=11)];simp only[Ch,Fa,Vi (LZ h)];intro r H;obtain⟨q,_,rfl⟩:=Da.1 H;exact Xf q
 have e:G l - k=(G l - (k+1))+1:=by omega
 unfold Ht;rw[e,BY,List.flatten_cons,<-List.append_assoc,<-B,sK _ _ _ _ (by rw[Xf];rfl),List.take_succ_eq_append_getElem h,Fm,List.flatten_append];simp
theorem P4 (n:Nat)(l:List AA)(k:Nat):V.BI n (Ht l k)=true:=by
 rw[oy];intro v B;unfold Ht at B;rcases List.mem_append.1 B with h|h
 obtain⟨r,H,B⟩:=gA.1 h;obtain⟨q,_,rfl⟩:=Da.1 H;obtain⟨c,_,rfl⟩:=Da.1 B;rfl;obtain⟨r,H,B⟩:=gA.1 h;rw[UA H]at B;simp only[BT,Cf,List.not_mem_nil,or_false]at B;rcases B with rfl|rfl|rfl|rfl|rfl|rfl|rfl|rfl|rfl|rfl|rfl<;>rfl
theorem lF : ∀l:List AA,AA.AG l=l.map AA.row
 | []=>rfl
 | b::l=>by simp only[AA.AG,Ap,lF l]
theorem wU :Ht l (G l)=(AA.AG l).flatten.map V.c:=by
 unfold Ht;rw[List.take_length,La,Cy,List.flatten_nil,List.append_nil,<-WN,lF,List.map_map];rfl
theorem AEL :toCs (Ht l (G l))=J (AA.AG l).flatten:=by rw[wU,toCs_mapV]
theorem ox :Hc 11 (G l) (AA.AG l).flatten=AA.AG l:=by
 have:=bZ (es:=11) (AA.AG l) (by intro r B;rw[lF]at B;obtain⟨q,_,rfl⟩:=Da.1 B;exact Nk _);rwa [show G (AA.AG l)=G l by rw[lF,Ch]]at this
theorem AEM (row:List C)(l:List AA):V.Cs k row (Ht l (G l))=Ht l (G l):=by rw[wU,YN]
theorem SW.ub {K:Exit->St->Prop}{ops:List Oper}{s:St}(v:V)(hg:BQ ops s.t o.guard=J I)(hR : ∀(H:BF) (w0:Bs) (x:Cx) (a:Act) (w:World),Good H w0 x w (λk=>s.h[k]?)->AO x w s.t a.tmps.toList->vx P o a H w0 x w (λk=>s.h[k]?) v E)(h:SW P ops K r (s.step o.dst v E)):SW P ops K (o::r) s:=λH w0 x a w B=>by
 have hw:FB o (yielded ops.toArray a.tmps)=true:=by
  have:=KR (o:=o) B.tm (IF (ops:=ops) (K1:=True) (K2:=False) hg W);exact Kn λh=>this.2 h
 unfold wpList;rw[if_pos hw];refine .inl ?_;obtain⟨nx,z,x',u,hr,EH,M,Q,R⟩:=hR x.S (w0.re w B.good.keep.size) x a w B.good.XR B.tm;obtain⟨Q,q⟩:=B.good.Sg R Q;unfold Er;rw[hr];rcases EH with rfl|⟨rfl,rfl⟩
 exact h H w0 x' _ z (Bo.put B.tm (B.df.mono q) R Q M o.dst);exact h H w0 x' _ z (Bo.put B.tm (B.df.mono q) R Q M o.dst)
theorem AKh (c:UInt8)(s:Aa)(hx:x.Ok)(z:s.ok=I):AQ AF 87 [Bb x m,.c (.str ⟨#[c]⟩),Aj s] m (BM x.f) (BM x.f) (.ret (Ao (x.RW s c))):=by
 by_cases H:c=32;subst H;have S:=tC x m x.f.params.Al s z;have hS:=EI (AU x.f.params.Al (x.sz s)) 25;have Q:=My (AU (AU x.f.params.Al (x.sz s)) 25) 0 0 [] trivial (by simp[AA.Az]);have e:x.RW s 32=Bf (AU (AU x.f.params.Al (x.sz s)) 25) 0 0 []:=F;rw[e];obtain⟨B,q⟩:=AI (Bf (AU (AU x.f.params.Al (x.sz s)) 25) 0 0 []);rw[q]at Q ⊢;simp only[As,AA.AG]at Q ⊢;unfold Bb Aj at *
 refine CH func87 ntmps87 ?_;exact qz results87 (cj3 S hS Q W);have e:x.RW s c=x.gl s ⟨#[c]⟩:=if_neg H;have M:=AKp x m ⟨#[c]⟩ s hx z;rw[e];generalize q:x.gl s ⟨#[c]⟩=B at M ⊢;simp only[As]at M ⊢;have R : ¬(⟨#[c]⟩:ByteArray)=⟨#[32]⟩:=by
  intro h;injection h with h
  simp only[Array.mk.injEq,List.cons.injEq,and_true]at h;exact H h
 unfold Bb Aj at *
 refine CH func87 ntmps87 ?_;exact qz (cj @R<|results87) (cj M<|trivial)
theorem AFU (t:ByteArray)(k:Nat)(h:k<t.size):t.extract k (k+1)=⟨#[t.data.toList[k]'(by rw[FW];exact h)]⟩:=by
 have B:k<G t.data.toList:=by rw[FW];exact h
 have e:(t.extract k (k+1)).data.toList=[t.data.toList[k]]:=by
  rw[ByteArray.data_extract,Array.toList_extract];simp only[List.extract_eq_take_drop];rw[D5 B];simp
 apply ByteArray.ext;apply Gx.1;rw[e]
theorem AEq (t:ByteArray):G (x.Uc s t)=t.size:=by
 unfold Af.Uc;rw[Ch,FW];rfl
theorem AEr {x:Af}(R:x.Ok){s:Aa}(M:s.ok=I){t:ByteArray}(Q:t.data.toList.all Dx=I):∀b∈x.Uc s t,Xt b/\b.cnt=1:=by
 intro b B;obtain⟨c,H,rfl⟩:=Da.1 B;exact AOL R M (ES.1 Q c H)
theorem AI7 : ∀ {l:List AA},(∀b∈l,Xt b)->AA.FY l/\l.all AA.Ad=I
 | [],_=>⟨trivial,rfl⟩
 | b::l,h=>by
   obtain⟨H,M⟩:=AI7 λc Q=>h c (Gk _ Q)
   have B:=h b GH;exact⟨⟨B.o,H⟩,by simp[B.v,M]⟩
theorem wx {n:Nat} : ∀ {l:List AA},(∀b∈l,b.cnt<=n)->AA.Az l<=G l*n
 | [],_=>by simp[AA.Az]
 | b::l,h=>by
   have H:=wx λc B=>h c (Gk _ B)
   have M:=h b GH;simp only[AA.Az,BA,Gz];omega
theorem sm {AE:List AA}{sp:List Int}(B:AE.all AA.Ad=I)(H:G sp=G AE)(M:sp.all An=I):F9 AE sp=((Bj (F9 AE sp)).getD AA.zero,if (Bj (F9 AE sp)).isSome=I then 0 else 6):=by
 unfold F9;rw[if_neg (by rw[B];simp),if_neg (by rw[M];simp[H])];unfold Tk;split;simp[Bj];simp[Bj]
theorem AKi (t:ByteArray)(s:Aa)(hx:x.Ok)(hs:s.ok=I)(ht:t.data.toList.all Dx=I)(hn:t.size<=1000):AQ AF 90 [Bb x m,.c (.str t),Aj s] m (BM x.f) (BM x.f) (BP (x.Po s t)):=by
 have A5:=AEr hx hs ht;obtain⟨o1,o2⟩:=AI7 λb hb=>(A5 b hb).1
 have H:=AEq x s t;have FX:AA.Az (x.Uc s t)<=900000:=by
  have:=wx (n:=1) λb hb=>Nat.le_of_eq (A5 b hb).2
  omega
 have S:=kx (x.Uc s t) (Aq t.size 0) o1 FX (by omega) (by rw[H6];omega);have Tb:=sm (sp:=Aq t.size 0) o2 (by rw[H6,H]) (by rw[ES];intro i hi;rw[UA hi];decide);have Mj:x.Po s t=Bj (F9 (x.Uc s t) (Aq t.size 0)):=F;rw[<-Mj]at Tb;rw[Tb]at S;obtain⟨L,hL⟩:=AI (x.Uc s t);have Ir : ∀k (h:k<t.size) (h':k<G L),L[k]=x.RW s (t.data.toList[k]'(by rw[FW];exact h)):=by intro k h h';subst hL;simp[Af.Uc]
 rw[hL]at H S;unfold Bb Aj;refine CH func90 ntmps90 ?_;refine qy (cj @H<|AGa) trivial ⟨?_⟩;have e0:=iY L H.symm;simp only[BT]at e0;rw[e0];refine lp (ι:={ k:Nat // k<=t.size }) (λk=>[(14,.c (.int .i64 (k.1:Int)))]) (λk=>[O.mp (Ci m (BM x.f)),O.box 35 [.c (.int .i64 s.By),.c (.bool s.Hd)] U,O.box 41 BT U,O.box 41 (Ht L k.1) U]) (λk=>t.size - k.1) ⟨0,CI _⟩ ?_ ?_;all_goals simp only[CG,Bw,CO,Ag,Ai]
 exact ER @BT.eq_1
 . rintro ⟨k,hk⟩;simp only at hk ⊢;by_cases M:k<t.size;have hw:AZ.wrap ((k:Int)+1)=((k+1:Nat):Int):=by rw[Ac];simp
   have OC:k<G L:=by omega
   have z:=AKh x m (t.data.toList[k]'(by rw[FW];exact M)) s hx hs;have A0:t.extract k (k+1)=⟨#[t.data.toList[k]'(by rw[FW];exact M)]⟩:=AFU t k M;have Q:=ia L k OC;have Dz:k*11+11<=G (Ht L k):=by rw[iZ _ _ (by omega)];omega
   rw[Ir k M OC]at Q;obtain⟨c,hcc⟩:∃c,t.data.toList[k]'(by rw[FW];exact M)=c:=⟨_,rfl⟩
   rw[hcc]at z A0 Q;generalize hB:x.RW s c=B at z Q;unfold Bb Aj at z;simp only[As]at z;have A1:k<=k+1:=Nat.le_succ k;have A2:k+1<=t.size:=M;refine qy (cj7 @M @hw @A0 @Dz @Q @A1 @A2 AGa) (cj z<|trivial) ⟨?_⟩;refine⟨⟨k+1,by omega⟩,by simp only;omega,?_⟩;exact ER @BT.eq_1
   . obtain rfl:k=t.size:=by omega
     refine qu (.mk 7) AGa trivial ⟨?_⟩;rw[<-H]at S ⊢;refine AW.Bi 3 rfl (AEL L) (by simp[V.Cs,V.Bi,ox];exact rfl) (by simp[O.Bi,V.Cs,V.Bi,ox,AEM,BT];exact rfl) ?_;refine AW.DA ?_;refine CY (.mk 3) trivial ?_;refine SW.ub (.Bg (Aq (G L) [.int .i64 0])) rfl ?_ ?_;intro S0 w0 y w a g ht;have h1:=CW ht (.tmp 31);have dI:Dk AF 39=J (3,1,8):=by simp
     have A3:C2 AF 3=J [.c (.int .i64 0)]:=by simp
     exact AIy g rfl dI h1 h1 A3 rfl (by omega) (by omega) (by omega);simp only[St.step,St.put,Z7,Ai,Ag];cases hq:x.Po s t with
     | some b =>
       have q:=Jl b;rw[hq]at S;simp only[Dm,IZ,if_true,Ba,AR,As,AV,uR]at S q;simp only[BP,As];refine SW.take 5 (AH.out ?_);simp only[DP,ET];have R:=(AGa)
       repeat any_goals (first|refine Eo ?_|exact Bt R|refine De R ?_|refine BV R (S) ?_|refine BV R (q) ?_|refine DI R ?_)
       simp only[CU,B9];refine SW.nil ?_;exact qz (cj2 @BP.eq_1 @BP.eq_2 AGa) W
     | none =>
       have q:=LG AA.zero m (BM x.f);rw[hq]at S;simp only[Hr,H8,GW,if_false,Ba,AR,As,AV,uR]at S q;simp only[BP,As];refine SW.take 3 (AH.out ?_);simp only[DP,ET];have R:=(AGa)
       repeat any_goals (first|refine Eo ?_|exact Bt R|refine De R ?_|refine BV R (S) ?_|refine DI R ?_)
       simp only[CU,B9];refine SW.AEd 0 q (by kernel_rfl) (by simp[BQ]) (by simp[C7];first|exact rfl|exact⟨F,F⟩) (by simp[V.CF,V.CP]) rfl ⟨rfl,rfl⟩
def Sv (P:Program)(f:FuncId)(args:List V)(m:Nat)(R R':Obj->Prop)(ty:TypeId)(row:List C)(len es:Nat):Prop:=
 ∀(S:BF) (w:World) (us:List Value) (ob:Obj),(∀b j,S b j->b<w.heap.size)->w.heap[m]?=J ob->still ob=U->R ob->AO (Cx.bare S) w args us->
  Calls P f us.toArray w λr w'=>∃(S':BF) (Cw:Obj) (b cap:Nat) (vs:Array Value),KB (λk=>k=m) w w'/\Ar S S' w w'/\(∀b j,S' b j->S b j\/(w.heap.size<=b/\b<w'.heap.size)\/b=m)/\w'.heap[m]?=J Cw/\still Cw=U/\R' Cw/\
   r=.returned (.slice (J ⟨b,0,E⟩) len cap)/\len<=cap/\cap<=maxLen/\cap*es<=vs.size/\w'.heap[b]?=J (.cells vs ty (0,0))/\B4 S' w' row vs.toList/\w.heap.size<=b/\∀j,j<vs.size->¬S' b j
def ADr (P:Program)(l:List ResultVar)(m:Nat)(R':Obj->Prop)(ty:TypeId)(row:List C)(len es:Nat):Exit->St->Prop
 | .normal,s=>∃k,k≠0/\GJ P s l=J (.own k 0 len es)/\s.h[0]?=J (.mp (Ci m R'))/\s.h[k]?=J (.box ty (row.map V.c) U)
 | .ret,s=>∃k,k≠0/\GJ P s l=J (.own k 0 len es)/\s.h[0]?=J (.mp (Ci m R'))/\s.h[k]?=J (.box ty (row.map V.c) U)
 | _,_=>False
theorem Sv.intro {P:Program}{f:FuncId}{fn:Func}{c:Code}{args:List V}{m:Nat}{R R':Obj->Prop}{ty:TypeId}{row:List C}{len es:Nat}(hf:P.funcs[f]?=J fn)(hb:fn.body=J c)(h:AW ⟨E,1⟩ P c (ADr P fn.results.toList m R' ty row len es) ⟨args++Aq (fn.ntmps - G args) .any,[.mp (Ci m R)]⟩):Sv P f args m R R' ty row len es:=by
 intro S w us ob hS FF A1 hR B7;refine callsIn_wide.1 (callsIn_of_wp_marks (F:=Cg) (n:=0) hf hb trivial ?_);let B:Bs:=⟨w,λk=>k<w.heap.size/\k≠m,λ_ h=>h.1,Cx.de S m,1,λk M=>by have:k=0:=M;omega⟩
 have zF:Ext (Cx.bare S) (Cx.de S m) w w:=⟨Ar.refl _ _,λ_ h=>h.elim,λ_ h=>h.elim⟩
 have hA:Bo S B (Cx.de S m) ⟨args++Aq (fn.ntmps - G args) .any,[.mp (Ci m R)]⟩ { tmps:=us.toArray++Array.replicate (fn.ntmps - us.toArray.size) undef,defers:=[] } w:=by
  refine⟨⟨λk o h=>?_,λk h=>?_,λk k' o o' h h' H=>?_,λk o j h hx=>?_,hS,λk o h _ hF=>hF.2 rfl,λb j h=>.inl h,λb j h=>h,.FR (Ay.refl w),Ext.refl _ _⟩,?_,Marks.nil _ _⟩;match k,h with
  | 0,h=>cases h;exact⟨rfl,rfl,rfl,ob,FF,A1,rfl,hR⟩
  | k+1,h=>simp at h
  have:k=0:=h;subst this;exact⟨_,rfl⟩;match k,k',h,h' with
  | 0,0,_,_=>exact absurd rfl H
  | 0,k'+1,_,h'=>simp at h'
  | k+1,_,h,_=>simp at h
  match k,h with
  | 0,h=>cases h;exact hx.elim
  | k+1,h=>simp at h
  simp only[Array.toList_append,Array.toList_replicate];have hl:us.toArray.size=G args:=by simpa using B7.len
  rw[hl];exact(AO.mono zF _ _ B7).append (SQ _ _ _ _)
 refine wpIn_mono (h 0 S B _ _ w (BN _) hA) λe a' Q ⟨x,s,Au,hK⟩=>?_
 have A0:(∃k,k≠0/\GJ P s fn.results.toList=J (.own k 0 len es)/\s.h[0]?=J (.mp (Ci m R'))/\s.h[k]?=J (.box ty (row.map V.c) U))->LeavesInM Cg 0 P fn a'.tmps (λr Q=>∃(S':BF) (Cw:Obj) (b cap:Nat) (vs:Array Value),KB (λk=>k=m) w Q/\Ar S S' w Q/\(∀b j,S' b j->S b j\/(w.heap.size<=b/\b<Q.heap.size)\/b=m)/\Q.heap[m]?=J Cw/\still Cw=U/\R' Cw/\
  r=.returned (.slice (J ⟨b,0,E⟩) len cap)/\len<=cap/\cap<=maxLen/\cap*es<=vs.size/\Q.heap[b]?=J (.cells vs ty (0,0))/\B4 S' Q row vs.toList/\w.heap.size<=b/\∀j,j<vs.size->¬S' b j) a'.defers .returning Q:=by
  rintro ⟨k,Iu,hr,h0,M⟩;obtain⟨Ds,e,h1,h2⟩:=Au.df;rw[e];refine dR hr Ds Q h1 h2 Au.good Au.tm λw2 u g hu=>?_
  have Lu:=g.ext.loc 0 rfl;have q:x.loc 0=⟨m,0,U,0,U⟩:=by
   rcases Lu.2 with e|e
   exact e.symm;cases e.1
  obtain⟨_,k1,k2,Cw,k3,k4,_,k5⟩:=g.ok 0 _ h0;rw[q]at k3;obtain⟨q1,q2,q3,vs,q4,q5,q6⟩:=g.ok k _ M;simp only[CV]at hu;obtain⟨p1,p2,cap,rfl,p3,p4,p5⟩:=hu;have H:(x.loc k).b≠m:=by
   have:=g.inj k 0 _ _ M h0 Iu q3 k2;rwa [q]at this
  refine⟨x.S,Cw,(x.loc k).b,cap,vs,⟨g.keep.os,g.keep.tape,g.keep.output,g.keep.size,λk M H=>g.keep.block k M λhn=>hn ⟨M,H⟩⟩,⟨g.sub,λb' j v hs hc=>g.ext.ar.cell b' j v hs hc⟩,λb' j hs=>?_,k3,k4,k5,rfl,p3,p4,by omega,q4,toCs_ok (toCs_mapV row) q6,Hq λz=>g.own k _ M q3 ⟨z,H⟩,λj hj=>g.EA k _ j M ⟨rfl,by omega⟩⟩;rcases g.new b' j hs with hq|hq
  exact .inl hq;by_cases e:b'=m;exact .inr (.inr e);exact .inr (.inl ⟨Hq λz=>hq ⟨z,e⟩,g.ex b' j hs⟩)
 cases e with
 | normal=>exact A0 hK
 | ret=>exact A0 hK
 | _=>exact hK.elim
theorem enO {q:Prop}{g:FuncId}{fn:Func}{c:Code}{args:List V}{m:Nat}{R R':Obj->Prop}{row:List C}{len es n:Nat}(hf:P.funcs[g]?=some fn)(hn:fn.ntmps=n)(h:q)(hb:fn.body=some c:=by exact rfl)(k:fn.ntmps=n->q->AW ⟨none,1⟩ P c (ADr P fn.results.toList m R' ty row len es) ⟨args++List.replicate (fn.ntmps - args.length) .any,[.mp (Ci m R)]⟩:=by
   intro hn h;simp only[hn,List.map_cons,List.map_nil,List.length_cons,List.length_nil,Nat.reduceAdd,Nat.reduceSub,List.replicate_succ,List.replicate_zero,List.cons_append,List.nil_append];exact h):Sv P g args m R R' ty row len es:=Sv.intro hf hb (k hn h)
theorem Sv.data {f:FuncId}{args:List V}{m:Nat}{R R':Obj->Prop}{AG:List (List C)}{es:Nat}(h:Sv P f args m R R' ty AG.flatten (G AG) es)(A0 : ∀r∈AG,G r=es):AQ P f args m R R' (.ret (.c (.sl AG))):=λS w us ob k1 k2 k3 k4 k5 =>
 (h S w us ob k1 k2 k3 k4 k5).mono λr Q ⟨q,Cw,b,cap,vs,a1,a2,a3,a4,a5,a6,a7,a8,a9,A2,B,H,z,A3⟩=>by
   have CZ:Ar q (λi j=>q i j\/(i=b/\j<vs.size)) Q Q:=⟨λ_ _ h=>.inl h,λ_ _ _ _ h=>h⟩
   have M:=H.len;have A1:b<Q.heap.size:=(DO.1 B).1;refine⟨λi j=>q i j\/(i=b/\j<vs.size),Cw,a1,a2.trans CZ,λi j hs=>?_,a4,a5,a6,_,a7,?_⟩;rcases hs with hs|⟨rfl,_⟩
   exact a3 i j hs;exact .inr (.inl ⟨z,A1⟩);simp only[CV,Ab];refine⟨_,cap,F,a8,a9,λ_=>⟨b,0,es,F,A0,?_⟩⟩;rw[D9.flat];refine B5.Pe (B4.mono CZ _ _ H) (λj u hu=>?_) λj hj=>.inr ⟨rfl,by rw[<-M]at hj;simpa using hj⟩
   rw[cell_of_row Q _ _ vs ty (0,0) B];simpa using hu
theorem Good.join {S0:BF}{w0:Bs}{x:Cx}{w:World}{H:Bx}(g:Good S0 w0 x w H)(k b:Nat)(hk : ¬x.dom k)(ty:TypeId)(cells:List V)(vs:Array Value)(hb:w.heap[b]?=J (.cells vs ty (0,0)))(hv:AO x w cells vs.toList)(hF : ¬w0.F b)(hS : ∀j,j<vs.size->¬x.S b j)(z : ∀k' o',H k'=J o'->(x.loc k').void=U->(x.loc k').b≠b) :
 Good S0 w0 (x.C4 k ⟨b,vs.size,U,0,U⟩) w (H.set k (.box ty cells U))/\Ext x (x.C4 k ⟨b,vs.size,U,0,U⟩) w w:=by
 have he:Ext x (x.C4 k ⟨b,vs.size,U,0,U⟩) w w:=Good.ext1 k _ hk λb j v _ hc=>hc
 have B:(x.C4 k ⟨b,vs.size,U,0,U⟩).loc k=⟨b,vs.size,U,0,U⟩:=by simp[Cx.C4]
 have M : ∀i,i≠k->(x.C4 k ⟨b,vs.size,U,0,U⟩).loc i=x.loc i:=λi hi=>by simp[Cx.C4,hi]
 have R : ∀i o,(H.set k (.box ty cells U)) i=J o->(i=k/\o=.box ty cells U)\/(i≠k/\H i=J o):=by
  intro i o h;by_cases e:i=k;subst e;simp[Bx.set]at h;exact .inl ⟨rfl,h.symm⟩;simp only[Bx.set,e,if_false]at h;exact .inr ⟨e,h⟩
 refine⟨⟨λi o h=>?_,λi h=>?_,λi q o o2 h h' Wf Q IK=>?_,λi o j h hx=>?_,g.ex,λi o h Q=>?_,g.new,g.sub,g.keep,g.ext.trans he⟩,he⟩;rcases R i o h with ⟨rfl,rfl⟩|⟨e,h⟩
 exact⟨.inr F,by rw[B],by rw[B],vs,by rw[B];exact hb,by rw[B],AO.mono he _ _ hv⟩;obtain⟨h1,h2⟩:=g.ok i o h;exact⟨.inl h1,h2.mono he (M i e) λ_=>rfl⟩;rcases h with h|rfl
 obtain⟨o,ho⟩:=g.dom i h;have e:i≠k:=λe=>hk (e ▸ h)
 exact⟨o,by simp[Bx.set,e,ho]⟩;exact⟨_,by simp[Bx.set];rfl⟩;rcases R i o h with ⟨e1,e2⟩|⟨e,h0⟩
 rcases R q o2 h' with ⟨e3,e4⟩|⟨e',JJ⟩
 exact absurd (e1.trans e3.symm) Wf;rw[M q e']at IK ⊢;rw[e1,B];exact λe=>z q o2 JJ IK e.symm
 rcases R q o2 h' with ⟨e3,e4⟩|⟨e',JJ⟩
 rw[M i e]at Q ⊢;rw[e3,B];exact z i o h0 Q;rw[M i e]at Q ⊢;rw[M q e']at IK ⊢;exact g.inj i q o o2 h0 JJ Wf Q IK;rcases R i o h with ⟨rfl,rfl⟩|⟨e,h⟩
 rw[B];have:=hx.2;rw[B]at this;exact hS j this;rw[M i e];exact g.EA i o j h (Ex.loc (M i e) hx);rcases R i o h with ⟨rfl,rfl⟩|⟨e,h⟩
 rw[B];exact hF;rw[M i e]at Q ⊢;exact g.own i o h Q
section
variable {P:Program} {K:Exit->St->Prop} {ops:List Oper} {s:St}
theorem SW.pI {f:FuncId}{args Bd:List V}{m:Nat}{R R':Obj->Prop}{row:List C}{len es:Nat}(KW:Sv P f Bd m R R' ty row len es)(A5:Fp P f=I)(hg:BQ ops s.t o.guard=J I)(H:C7 (ev s.t) o.op=J (f,args))(hp:V.CF args=J Bd)(hk:s.h[k]?=J (.mp (Ci m R)))(h:SW P ops K r (St.step ⟨s.t,Bk s.h (J (k,.mp (Ci m R')))⟩ o.dst (.own (G s.h) 0 len es) (J (G s.h,.box ty (row.map V.c) U)))):SW P ops K (o::r) s:=λS0 w0 x a w hA=>by
 have hw:FB o (yielded ops.toArray a.tmps)=true:=by
  have:=KR (o:=o) hA.tm (IF (ops:=ops) (K1:=True) (K2:=False) hg W);exact Kn λh=>this.2 h
 have g:=hA.good;have A3 : ∀y∈o.op.operands.toList,CV x w (ev s.t y) (a.eval y):=λy _=>CW hA.tm y
 unfold wpList;rw[if_pos hw];refine .inl ?_;unfold C7 at H;split at H
 case h_2=>cases H
 rename_i fo z Fk ho;split at H
 case h_2=>cases H
 rename_i f' A0 FG;simp only[BL,Prod.mk.injEq]at H;obtain⟨rfl,rfl⟩:=H;have Q:=Pp (A3 fo (by simp[ho,Bl,Df]));rw[FG]at Q;simp only[CV]at Q;obtain⟨Dl,Q,EP⟩:=Q;have Hw:AO x w (z.toList.map (ev s.t)++A0) (z.toList.map a.eval++Dl.toList):=(AO.of_map λy hy=>A3 y (by simp[ho,Bl,Df];exact .inr (by simpa using hy))).append EP;obtain⟨fn,hf,hb,F6⟩:=P7 A5;have CT:fn.body≠none:=by intro e;rw[e]at hb;cases hb
 have F6:fn.name≠ "runtime.NumGoroutine":=by simpa using F6
 have A6:(execOp a.eval o).run P w=.ok (.enter f' (z.toList.map a.eval++Dl.toList).toArray) w:=by
  have e1:(z.map a.eval++Dl)=(z.toList.map a.eval++Dl.toList).toArray:=by apply Gx.1;simp
  simp[execOp,ho,resolve,Q,Deferred.ofValue,invoke,callFunc,program,Sem.run,hf,F6,CT,e1]
 obtain⟨M,b1,b2,ob,b3,b4,hm,b5⟩:=g.ok k _ hk;subst hm;unfold Er;rw[A6];refine(KW x.S w _ ob g.ex b3 b4 b5 (MC _ _ _ hp Hw)).mono ?_;rintro r' w' ⟨q,Cw,b,cap,vs,B,CZ,Gc,h1,h2,h3,rfl,c1,c2,c3,c4,c5,c6,c7⟩;have A2:=(DO.1 b3).1;have he:Ext x { x with S:=q } w w':=⟨CZ,λ_ h=>h,λ_ _=>FM.refl _⟩
 have g':=g.H5 (x':={ x with S:=q }) k (.mp (Ci (x.loc k).b R')) he (B.wide λb e=>⟨M,b2,e.symm⟩) (λi=>⟨.inl,λh=>h.elim id λe=>e ▸ M⟩) (λ_ _=>rfl) (λ_=>.inl ⟨M,b2,rfl⟩)
  ⟨b1,b2,Cw,h1,h2,rfl,h3⟩ (λb j hs=>(Gc b j hs).imp id λh=>h.elim (λh=>⟨h.2,.inl h.1,λe=>by have:(x.loc k).b=b:=e;omega⟩) (λh=>⟨by rw[h];exact Nat.lt_of_lt_of_le A2 B.size,.inr ⟨M,b2,h.symm⟩,λ_ hx=>hx.elim⟩)) (λj hx=>hx.elim)
 have CB:NC w w':=⟨B.size,λb A8 D7 II=>(B.block b (DO.1 D7).1 λe=>by subst e;rw[b3]at D7;cases D7;rw[b4]at II;cases II).trans D7⟩
 have Ce:k<G s.h:=(Br.1 hk).1;have TV : ¬x.dom (G s.h):=λM=>by
  obtain⟨ob,h⟩:=g.dom _ M;simp at h
 obtain⟨g2,TO⟩:=g'.join (G s.h) b TV ty (row.map V.c) vs c4 (AO.OS c5) (g.fresh c6) c7 (λk' o' h hv=>by
  have hb:(x.loc k').b<w.heap.size:=by
   by_cases e:k'=k;subst e;exact A2;simp only[Bx.set,e,if_false]at h;exact((g.ok k' o' h).2).lt hv
  have e:({ x with S:=q }:Cx).loc k'=x.loc k':=F;rw[e];omega)
 have e:=Kj s.h (J (k,O.mp (Ci (x.loc k).b R'))) (λk' o' e=>by cases e;exact LZ Ce);have A1:G (Bk s.h (J (k,O.mp (Ci (x.loc k).b R'))))=G s.h:=by
  simp only[Bk,if_pos Ce,GF]
 have e2:=Kj (Bk s.h (J (k,O.mp (Ci (x.loc k).b R')))) (J (G s.h,O.box ty (row.map V.c) U)) (λk' o' e=>by cases e;rw[A1];exact BN _);have A7:Good S0 w0 (({ x with S:=q }:Cx).C4 (G s.h) ⟨b,vs.size,U,0,U⟩) w' (λi=>(Bk (Bk s.h (J (k,O.mp (Ci (x.loc k).b R')))) (J (G s.h,O.box ty (row.map V.c) U)))[i]?):=by
  rw[e2];have e3:(λi=>(Bk s.h (J (k,O.mp (Ci (x.loc k).b R'))))[i]?)=Bx.set (λi=>s.h[i]?) k (.mp (Ci (x.loc k).b R')):=e;rw[e3];exact g2
 have Ec:Bo S0 w0 (({ x with S:=q }:Cx).C4 (G s.h) ⟨b,vs.size,U,0,U⟩) ⟨s.t,Bk (Bk s.h (J (k,O.mp (Ci (x.loc k).b R')))) (J (G s.h,O.box ty (row.map V.c) U))⟩ a w':=⟨A7,AO.mono (he.trans TO) _ _ hA.tm,hA.df.mono CB⟩
 exact h S0 w0 _ _ w' (Bo.put Ec.tm Ec.df (Ext.refl _ _) Ec.good (v:=.own (G s.h) 0 len es) (by
  simp only[CV,Cx.C4,if_true];exact⟨.inr W,W,cap,F,c1,c2,by omega⟩) o.dst)
end
theorem AGf {y:ByteArray} : ∀ {l:List ByteArray},y∈l->KX y l=I
 | z::l,h=>by
   simp only[KX];split;rfl;rename_i B;rcases Cf.1 h with rfl|h
   exact absurd rfl B;exact AGf h
theorem AAu {x:Af}(M:x.Ok)(s:Aa){t:ByteArray}(z:Ck t=I):KH x.f t (x.Mw s t)=I/\Ck (x.Mw s t).Ln=I/\(x.Mw s t).Jo=0:=by
 unfold KH Af.Mw;cases H:x.f.I8 t with
 | none=>simp[z]
 | some st =>
   have S:=(Se H).1;have g1:=(QG M.val S).AKw;have h:=Z9 M.val st S;simp only[Oh,Ak]at h;have B:(if s.By=0/\2<=G st.sizes then 1 else 0)<G st.sizes:=by split<;>omega
   obtain⟨i,Q⟩:=AI ((if s.By=0/\2<=G st.sizes then 1 else 0));rw[Q]at B;have q:st.sizes.getD i ⟨#[]⟩=st.sizes[i]:=by simp[mS,B]
   have R:st.sizes[i]∈st.sizes:=Kq B;simp only[Q,q];refine⟨?_,ABq M.val _ _ h.2.1 _ R,W⟩;simp only[if_true];exact AGf R
theorem AVX {x:Af}(B:x.Ok){s:Aa}(S:s.ok=I){t:ByteArray}(R:Ck t=I):K5 x.f t (x.Mw s t) (x.sz s)=(x.gl s (x.Mw s t).Ln,0):=by
 obtain⟨z,p2⟩:=HE B.val S;obtain⟨H,q,M⟩:=AAu B s R;have Q:JF x.f (x.sz s)=0:=by unfold JF Af.sz;rw[if_neg (by simp[B.val]),if_neg (by omega)]
 unfold K5;rw[if_neg (by simp[Q]),if_neg (by simp[H]),if_pos M];rfl
theorem AOI {b:AA}{a:Int}(hb:Xt b)(R : -200000<=b.h/\b.h<=200000)(S : -200000<=b.d/\b.d<=200000)(q : -1000000<=a/\a<=1000000):∃c,KS b a=(c,0)/\Xt c/\c.cnt=b.cnt:=by
 have z:=J6 (b.h - b.d);have Q : -200001<=Bm (b.h - b.d)/\Bm (b.h - b.d)<=200001:=by
  unfold Bm Ea;repeat' split
  all_goals omega
 have H:An a=true:=Mp (by omega) (by omega);have M:An (b.h - b.d)=true:=Mp (by omega) (by omega);have B:An (a - Bm (b.h - b.d))=true:=Mp (by omega) (by omega);refine⟨b.AS b.x (a - Bm (b.h - b.d)),?_,⟨?_,F4 _ _ hb.o,hb.w⟩,Hb _ _ _⟩;unfold KS;rw[if_neg (by simp[hb.v]),if_neg (by simp[H,M]),if_neg (by simp[B])];rw[AEE hb.v];exact B
theorem APq {x:Af}(B:x.Ok){s:Aa}(Q:s.ok=I)(name:ByteArray):(-200000<=(x.gl s name).h/\(x.gl s name).h<=200000)/\(-200000<=(x.gl s name).d/\(x.gl s name).d<=200000):=by
 obtain⟨H,M⟩:=HE B.val Q;have R:=Zv B.val H M name;have e:x.gl s name=(DB x.f name (BS x.f.params s)).1:=F;rw[e,(Pk B.val H M name).1];simp only[N7];omega
theorem AY3 (t:ByteArray)(s:Aa)(q:x.Ok)(hs:s.ok=I)(hn:Ck t=I):AQ AF 86 [Bb x m,.c (.str t),Aj s] m (BM x.f) (BM x.f) (BP (x.VI s t)):=by
 obtain⟨h1,h2,h3⟩:=AAu q s hn;have hz:=tE x m hs;have hl:=kW hs;have k0:0<=s.By:=by omega
 have k1:s.By<4:=by omega
 have Q:=T7 x.f t q.fit q.val;have Ct:=AaE tU x.f t (x.Mw s t) (x.sz s) q.fit;rw[AVX q hs hn]at Ct;have z:=tC x m x.f.params.FD s hs;obtain⟨g1,g2⟩:=qA q hs h2;obtain⟨d1,d2⟩:=APq q hs (x.Mw s t).Ln;obtain⟨p1,p2⟩:=HE q.val hs;have ab:0<=AU x.f.params.FD (x.sz s)/\AU x.f.params.FD (x.sz s)<=20001:=AEI q.val p1 p2;obtain⟨c,e1,e2,e3⟩:=AOI g1 d1 d2 (a:=AU x.f.params.FD (x.sz s)) (by omega);have R:=AJT (x.gl s (x.Mw s t).Ln) (AU x.f.params.FD (x.sz s)) g1.o (by omega);rw[e1]at R;have hR:x.VI s t=Bj (F9 [c] [0]):=by unfold Af.VI;rw[e1];rfl
 have M:=kx [c] [0] ⟨e2.o,trivial⟩ (by simp only[AA.Az];omega) (by simp) (by simp);have Tb:=sm (AE:=[c]) (sp:=[0]) (by simp[e2.v]) rfl (by decide);rw[<-hR]at Tb;rw[Tb]at M;have Ew:=Jl (x.gl s (x.Mw s t).Ln);have FP:=Jl c;obtain⟨G,hG⟩:=AI (x.gl s (x.Mw s t).Ln);rw[hG]at Ct R Ew;generalize ho:x.VI s t=o at M ⊢;have A0:(x.Mw s t)=⟨(x.Mw s t).Ln,0⟩:=by rw[<-h3]
 obtain⟨gn,Ro⟩:=AI ((x.Mw s t).Ln);rw[Ro]at A0;rw[A0]at Ct;have H:gn=match x.f.I8 t with
  | none=>t
  | some st=>st.sizes.getD (if s.By=0/\2<=st.sizes.length then 1 else 0) ⟨#[]⟩:=by
  rw[<-Ro];unfold Af.Mw;cases x.f.I8 t<;>rfl
 clear A0 Ro h1 h2 h3 hG hR Tb e1 g1 g2 d1 d2;simp only[N4,Ba,AR,As,AA.AG,AV,Ap,BB]at Ct R M Ew FP;unfold Bb Aj at *
 cases VB:x.f.I8 t with
 | none =>
   rw[VB]at Q H;simp only at H;subst H;simp only[NK,IU,Bc.row,Bc.zero,Hr,H8,Ap,BB]at Q;refine CH AQl ARY ?_;have B:=(cj3 @hz @k0 @k1 We)
   repeat any_goals (first|refine lT (.mk 10) ?_|exact ZX B|refine Zs B ?_|refine F5 B (Q) ?_|refine F5 B (Ct) ?_|refine F5 B (Ew) ?_|refine F5 B (z) ?_|refine F5 B (R) ?_|refine F5 B (FP) ?_|refine DI B ?_|((first|refine X9 B ?_ ?_|refine bQ B ?_ ?_|refine bO B ?_ ?_|refine bP B ?_ ?_)<;>intro h<;>try (exfalso;first|omega|contradiction)))
   cases o with
   | some b=>have GO:=Jl b;simp only[Dm,IZ,if_true,AR,As]at M GO;simp only[BP,As];exact qz We (cj2 M GO W)
   | none=>have GO:=LG AA.zero m (BM x.f);simp only[Hr,H8,GW,if_false,AR,As]at M GO;simp only[BP];exact qz We (cj2 M GO W)
 | some st =>
   have A1:=(Se VB).1;have z1:=(QG q.val A1).AKw;rw[VB]at Q H;simp only at H;simp only[NK,IU,Bc.row,Dm,IZ,Ap,BB]at Q;have DJ:Gv st.sizes=.sl (st.sizes.map λn=>[.str n]):=F;obtain⟨rs,Aw⟩:=AI ((st.sizes.map λn=>[C.str n]));have Av:rs.length=st.sizes.length:=by rw[<-Aw,Ch]
   rw[DJ,Aw]at Q;have Jh:0<rs.length:=by omega
   have Ir : ∀i (h:i<st.sizes.length),rs[i]?=J [.str (st.sizes.getD i ⟨#[]⟩)]:=by
    intro i h;rw[<-Aw];simp[mS,h]
   by_cases c1:s.By=0
   . have pC:=iff_true_intro c1;by_cases c2:2<=st.sizes.length
     . rw[if_pos ⟨c1,c2⟩]at H;have S:=Ir 1 (by omega);rw[<-H]at S;have jo:=gx S;have c3:1<rs.length:=by omega
       have c4:(2:Int)<=(rs.length:Int):=by omega
       refine CH AQl ARY ?_;have B:=(cj8 @hz @k0 @k1 @pC @c3 @c4 @S @jo We)
       repeat any_goals (first|refine lT (.mk 10) ?_|exact ZX B|refine Zs B ?_|refine F5 B (Q) ?_|refine F5 B (Ct) ?_|refine F5 B (Ew) ?_|refine F5 B (z) ?_|refine F5 B (R) ?_|refine F5 B (FP) ?_|refine DI B ?_|((first|refine X9 B ?_ ?_|refine bQ B ?_ ?_|refine bO B ?_ ?_|refine bP B ?_ ?_)<;>intro h<;>try (exfalso;first|omega|contradiction)))
       cases o with
       | some b=>have GO:=Jl b;simp only[Dm,IZ,if_true,AR,As]at M GO;simp only[BP,As];exact qz We (cj2 M GO W)
       | none=>have GO:=LG AA.zero m (BM x.f);simp only[Hr,H8,GW,if_false,AR,As]at M GO;simp only[BP];exact qz We (cj2 M GO W)
     . rw[if_neg (λh=>c2 h.2)]at H;have S:=Ir 0 (by omega);rw[<-H]at S;have jo:=gx S;have c4 : ¬(2:Int)<=(rs.length:Int):=by omega
       refine CH AQl ARY ?_;have B:=(cj8 @hz @k0 @k1 @pC @Jh @c4 @S @jo We)
       repeat any_goals (first|refine lT (.mk 10) ?_|exact ZX B|refine Zs B ?_|refine F5 B (Q) ?_|refine F5 B (Ct) ?_|refine F5 B (Ew) ?_|refine F5 B (z) ?_|refine F5 B (R) ?_|refine F5 B (FP) ?_|refine DI B ?_|((first|refine X9 B ?_ ?_|refine bQ B ?_ ?_|refine bO B ?_ ?_|refine bP B ?_ ?_)<;>intro h<;>try (exfalso;first|omega|contradiction)))
       cases o with
       | some b=>have GO:=Jl b;simp only[Dm,IZ,if_true,AR,As]at M GO;simp only[BP,As];exact qz We (cj2 M GO W)
       | none=>have GO:=LG AA.zero m (BM x.f);simp only[Hr,H8,GW,if_false,AR,As]at M GO;simp only[BP];exact qz We (cj2 M GO W)
   . have pC:=c1;rw[if_neg (λh=>c1 h.1)]at H;have S:=Ir 0 (by omega);rw[<-H]at S;have jo:=gx S;refine CH AQl ARY ?_;have B:=(cj7 @hz @k0 @k1 @pC @Jh @S @jo We)
     repeat any_goals (first|refine lT (.mk 10) ?_|exact ZX B|refine Zs B ?_|refine F5 B (Q) ?_|refine F5 B (Ct) ?_|refine F5 B (Ew) ?_|refine F5 B (z) ?_|refine F5 B (R) ?_|refine F5 B (FP) ?_|refine DI B ?_|((first|refine X9 B ?_ ?_|refine bQ B ?_ ?_|refine bO B ?_ ?_|refine bP B ?_ ?_)<;>intro h<;>try (exfalso;first|omega|contradiction)))
     cases o with
     | some b=>have GO:=Jl b;simp only[Dm,IZ,if_true,AR,As]at M GO;simp only[BP,As];exact qz We (cj2 M GO W)
     | none=>have GO:=LG AA.zero m (BM x.f);simp only[Hr,H8,GW,if_false,AR,As]at M GO;simp only[BP];exact qz We (cj2 M GO W)
mutual
theorem AI6 : ∀b:AA,b.D8=I->b.BX
 | ⟨k,n,s,w,h,d,x,y,S,o,src⟩,R=>by
   simp only[AA.D8,Ak]at R;obtain⟨M,q⟩:=R;have z:(1000:Nat)<=maxLen:=by decide
   simp only[AA.Cl,Ak]at M;obtain⟨_,B,Q⟩:=M;refine⟨?_,?_,Ze S q⟩;simp only[AA.Fi]at B;split at B;simp only[Ck,Ak,decide_eq_true_eq]at B;omega;split at B;simp only[Ak,decide_eq_true_eq]at B;rw[B.1];exact CI _;split at B;simp only[Ak,decide_eq_true_eq]at B;rw[B.1];exact CI _;cases B;simp only[AA.Js,Ak,I7]at Q;have H:=Q.2;split at H;simp only[decide_eq_true_eq]at H;omega;split at H;simp only[Ak,decide_eq_true_eq]at H;omega;split at H;simp only[Ak,decide_eq_true_eq]at H;omega;cases H
theorem Ze : ∀l:List AA,AA.FU l=I->AA.FY l
 | [],_=>trivial
 | b::l,h=>by
   simp only[AA.FU,Ak]at h;exact⟨AI6 b h.1,Ze l h.2⟩
end
theorem kj {b:AA}(h:b.Ad=I):b.BX:=by
 simp only[AA.Ad,Ak]at h;exact AI6 b h.1
theorem ik {b:AA}(h:b.Ad=I):b.cnt<=20000:=by
 simp only[AA.Ad,Ak,decide_eq_true_eq]at h;exact h.2.1
theorem AVT {l:List AA}(h : ∀b∈l,b.Ad=I):AA.FY l/\l.all AA.Ad=true:=by
 induction l with
 | nil=>exact⟨W,F⟩
 | cons b l ih =>
   obtain⟨H,M⟩:=ih λc Q=>h c (Gk _ Q)
   have B:=h b GH;exact⟨⟨kj B,H⟩,by simp[B,M]⟩
mutual
theorem AFf : ∀b:AA,b.BX->b.cnt<=1000000->b.fit
 | ⟨_,_,_,_,_,_,_,_,B,_,src⟩,h,H=>by
   simp only[AA.BX]at h;simp only[AA.cnt]at H;have:=Ud B;simp only[AA.fit];exact⟨by unfold maxLen;omega,h.2.1,xY B h.2.2 (by omega)⟩
theorem xY : ∀l:List AA,AA.FY l->AA.Az l<=1000000->AA.fits l
 | [],_,_=>trivial
 | b::l,h,B=>by
   simp only[AA.Az]at B;exact⟨AFf b h.1 (by omega),xY l h.2 (by omega)⟩
end
theorem AaO {b:AA}(h:b.Ad=I):b.fit:=by
 simp only[AA.Ad,Ak,decide_eq_true_eq]at h;refine AFf b ?_ (by omega);have:=Ze [b] (by simp only[AA.FU,h.1,Bool.and_self]);exact this.1
theorem AAe {b:AA}(h:b.Ad=I){o:Int}{src:List Int}(z:HT src=I)(h2:I7 o (G src)=I):(b.mark o src).Ad=I/\(b.mark o src).cnt=b.cnt:=by
 obtain⟨k,n,s,w,H,d,x,y,B,R,Q⟩:=b;refine⟨?_,F⟩;have S:(AA.mark ⟨k,n,s,w,H,d,x,y,B,R,Q⟩ o src).cnt=(⟨k,n,s,w,H,d,x,y,B,R,Q⟩:AA).cnt:=F;have q:(AA.mark ⟨k,n,s,w,H,d,x,y,B,R,Q⟩ o src).nest=(⟨k,n,s,w,H,d,x,y,B,R,Q⟩:AA).nest:=F;unfold AA.Ad at h ⊢;rw[S,q];rw[Ak]at h ⊢;refine⟨?_,h.2⟩;have M:=h.1;simp only[AA.D8,AA.Cl,AA.mark,AA.lens,AA.Fi,AA.Js,Ak]at M ⊢;exact⟨⟨M.1.1,M.1.2.1,z,h2⟩,M.2⟩
theorem OT {b c:AA}(h:Bj (C8 b)=J c):c=b/\c.Ad=true:=by
 unfold C8 at h;by_cases B:b.Ad=I;rw[if_pos B]at h;simp only[Bj,if_true,BL]at h;exact⟨h.symm,h ▸ B⟩;rw[if_neg B]at h;simp[Bj]at h
theorem kh {AE:List AA}{sp:List Int}{c:AA}(h:Bj (F9 AE sp)=J c):c.Ad=true:=by
 unfold F9 at h;split at h;simp[Bj]at h;split at h;simp[Bj]at h;unfold Tk at h;split at h;simp[Bj]at h;rename_i B;simp only[Bj,if_true,BL]at h;subst h;simpa using B
theorem AIr {r:AA×Int}(h:r.2=0\/r=(AA.zero,6)):r=((Bj r).getD AA.zero,if (Bj r).isSome=I then 0 else 6):=by
 obtain⟨b,e⟩:=r;rcases h with h|h
 simp only at h;subst h;simp[Bj];cases h;simp[Bj]
theorem Uh :C8 b=((Bj (C8 b)).getD AA.zero,if (Bj (C8 b)).isSome=I then 0 else 6):=by
 apply AIr;unfold C8;split;exact .inl F;exact .inr F
section
variable (x:Af) (s:Aa) (src:List Int)
def M2 (k:Int)(i:Nat)(n:Nd):Option AA:=GU x (GB k i s) (src++[(i:Int)]) n
def Oe (k:Int):Nat->List Nd->List AA
 | _,[]=>[]
 | i,n::l=>(M2 x s src k i n).getD AA.zero::Oe k (i+1) l
theorem tB (k:Int):∀(i:Nat) (l:List Nd),G (Oe x s src k i l)=G l
 | _,[]=>rfl
 | i,n::l=>by simp only[Oe,BA,tB k (i+1) l]
theorem AK1 (k:Int):∀(i:Nat) (l:List Nd) (j:Nat) (n:Nd),l[j]?=J n->(Oe x s src k i l)[j]?=J ((M2 x s src k (i+j) n).getD AA.zero)
 | _,[],j,n,h=>by simp at h
 | i,a::l,0,n,h=>by simp only[LX,BL]at h;subst h;rfl
 | i,a::l,j+1,n,h=>by
   simp only[JU]at h;simp only[Oe,JU];rw[AK1 k (i+1) l j n h,show i+1+j=i+(j+1)by omega]
theorem AK2 (k:Int):∀(i:Nat) (l:List Nd),(∀j n,l[j]?=J n->M2 x s src k (i+j) n≠E)->Kh x s src k i l=J (Oe x s src k i l)
 | _,[],_=>by simp only[Kh,Oe]
 | i,n::l,h=>by
   have B:=h 0 n F;rw[M8]at B;have Q:=AK2 k (i+1) l λj m M=>by have:=h (j+1) m (by simpa using M);rwa [show i+(j+1)=i+1+j by omega]at this
   unfold M2 at B;simp only[Kh,Oe,Q,M2];cases H:GU x (GB k i s) (src++[(i:Int)]) n with
   | none=>exact absurd H B
   | some b=>rfl
theorem AK3 (k:Int):∀(i:Nat) (l:List Nd) (j:Nat) (n:Nd),l[j]?=J n->M2 x s src k (i+j) n=E->Kh x s src k i l=E
 | _,[],j,n,h,_=>by simp at h
 | i,a::l,0,n,h,B=>by
   simp only[LX,BL]at h;subst h;unfold M2 at B;rw[M8]at B;simp only[Kh,B]
 | i,a::l,j+1,n,h,B=>by
   simp only[JU]at h;have H:=AK3 k (i+1) l j n h (by rwa [show i+1+j=i+(j+1)by omega]);simp only[Kh,H];cases GU x (GB k i s) (src++[(i:Int)]) a<;>rfl
def NZ (i:Nat)(n:Nd):Option AA:=Fw x s (src++[(i:Int)]) n
def QY:Nat->List Nd->List AA
 | _,[]=>[]
 | i,n::l=>(NZ x s src i n).getD AA.zero::QY (i+1) l
theorem AAK : ∀(i:Nat) (l:List Nd),G (QY x s src i l)=G l
 | _,[]=>rfl
 | i,n::l=>by simp only[QY,BA,AAK (i+1) l]
theorem AH2 : ∀(i:Nat) (l:List Nd) (j:Nat) (n:Nd),l[j]?=J n->(QY x s src i l)[j]?=J ((NZ x s src (i+j) n).getD AA.zero)
 | _,[],j,n,h=>by simp at h
 | i,a::l,0,n,h=>by simp only[LX,BL]at h;subst h;rfl
 | i,a::l,j+1,n,h=>by
   simp only[JU]at h;simp only[QY,JU];rw[AH2 (i+1) l j n h,show i+1+j=i+(j+1)by omega]
theorem AH4 : ∀(i:Nat) (l:List Nd),(∀j n,l[j]?=J n->NZ x s src (i+j) n≠E)->Kb x s src i l=J (QY x s src i l)
 | _,[],_=>by simp only[Kb,QY]
 | i,n::l,h=>by
   have B:=h 0 n F;rw[M8]at B;have Q:=AH4 (i+1) l λj m M=>by have:=h (j+1) m (by simpa using M);rwa [show i+(j+1)=i+1+j by omega]at this
   unfold NZ at B;simp only[Kb,QY,Q,NZ];cases H:Fw x s (src++[(i:Int)]) n with
   | none=>exact absurd H B
   | some b=>rfl
theorem AH5 : ∀(i:Nat) (l:List Nd) (j:Nat) (n:Nd),l[j]?=J n->NZ x s src (i+j) n=E->Kb x s src i l=E
 | _,[],j,n,h,_=>by simp at h
 | i,a::l,0,n,h,B=>by
   simp only[LX,BL]at h;subst h;unfold NZ at B;rw[M8]at B;simp only[Kb,B]
 | i,a::l,j+1,n,h,B=>by
   simp only[JU]at h;have H:=AH5 (i+1) l j n h (by rwa [show i+1+j=i+(j+1)by omega]);simp only[Kb,H];cases Fw x s (src++[(i:Int)]) a<;>rfl
end
theorem AOM {c:Int}(h:bT c=I):33<=c/\c<=126:=by
 unfold bT Nc Lq lP at h;simp at h;omega
theorem ALQ {t:ByteArray}(h:Z1 t=I):Ck t=I/\t.data.toList.all Dx=I/\∀c,t=⟨#[c]⟩->c≠32:=by
 unfold Z1 at h;have key : ∀p:Int->Bool,(∀c,p c=I->33<=c/\c<=126)->FC p t=I->t.data.toList.all Dx=I/\∀c,t=⟨#[c]⟩->c≠32:=by
  intro p Q H;rw[FC,ES]at H;refine⟨?_,?_⟩;rw[ES];intro b S;have:=Q _ (H b S);simp only[Dx,Ak,decide_eq_true_eq];omega;rintro c rfl rfl;have:=Q _ (H 32 (by simp));simp at this
 split at h;rename_i R;obtain⟨B,M⟩:=key bT (λc=>AOM) h;exact⟨by simp[Ck,B,R],B,M⟩;simp only[Ak,decide_eq_true_eq]at h;obtain⟨B,M⟩:=key Nc (λc q=>by simp[Nc]at q;omega) h.1;exact⟨by simp[Ck,B];omega,B,M⟩
theorem AVU {t:ByteArray}(h:t.size=1):∃c,t=⟨#[c]⟩:=by
 obtain⟨⟨l⟩⟩:=t;match l,h with
 | [c],_=>exact⟨c,F⟩
theorem AZP (src:List Int)(s:Aa)(hx:x.Ok)(hs:s.ok=I)(hn:Z1 n.text=I):AQ AF 44 [Bb x m,Am n,.c (AV src),Aj s] m (BM x.f) (BM x.f) (BP (x.sym s n.text)):=by
 obtain⟨k,t,c,AE⟩:=n;simp only at hn;obtain⟨n1,n2,n3⟩:=ALQ hn;have hd:G x.d<=1000000:=by have:=hx.dl;omega
 have S:=AA8 x.d t hd;have A0:t.size<=1000:=by simp only[Ck,Ak,decide_eq_true_eq]at n1;omega
 obtain⟨rs,Aw⟩:=AI (Nd.AG AE);simp only[Am,Nd.vs,Nd.row,Ap,BB,Aw];unfold Af.sym;unfold WH at S;by_cases z:(He x.d t).cls=1/\(He x.d t).str=I;rw[if_pos z];obtain⟨z,H⟩:=z;have Q:=AY3 x m t s hx hs n1;cases ho:x.VI s t with
 | some b =>
   rw[ho]at Q;simp only[BP,As]at Q ⊢;unfold Bb Aj at *
   refine CH gS gv ?_;exact qz (cj2 @z @H kn) (cj2 S Q W)
 | none =>
   rw[ho]at Q;simp only[BP,As]at Q ⊢;unfold Bb Aj at *
   refine CH gS gv ?_;exact qz (cj2 @z @H kn) (cj2 S Q W)
 rw[if_neg z];have P6:((He x.d t).cls=1->(He x.d t).str=U):=λh=>by
  by_cases h2:(He x.d t).str=I;exact absurd ⟨h,h2⟩ z;simpa using h2
 by_cases H:t.size=1;rw[if_pos (.inl H)];obtain⟨ch,rfl⟩:=AVU H;have B:=AKh x m ch s hx hs;have e:x.RW s ch=x.gl s ⟨#[ch]⟩:=if_neg (n3 ch F);rw[e]at B;simp only[BP,As]at B ⊢;unfold Bb Aj at *
 by_cases q:(He x.d ⟨#[ch]⟩).cls=1;have M:=P6 q;refine CH gS gv ?_;exact qz (cj3 @q @M @H kn) (cj2 S B W);refine CH gS gv ?_;exact qz (cj2 @q @H kn) (cj2 S B W);have R:=xX x.f t hx.fit.1;by_cases q:(x.f.find t).isSome=I;rw[if_pos (.inr q)];have TQ:=AKp x m t s hx hs;unfold YK at R;obtain⟨g,hg⟩:=AI ((x.f.find t).getD BG.zero);rw[q,hg]at R;simp only[BG.row,Ap,BB]at R;simp only[BP,As]at TQ ⊢;unfold Bb Aj at *
 by_cases M:(He x.d t).cls=1;have c5:=P6 M;refine CH gS gv ?_;exact qz (cj3 @M @c5 @H kn) (cj3 S R TQ W);refine CH gS gv ?_;exact qz (cj2 @M @H kn) (cj3 S R TQ W);rw[if_neg (by simp[H,q])];have B:=AKi x m t s hx hs n2 A0;unfold YK at R;obtain⟨g,hg⟩:=AI ((x.f.find t).getD BG.zero);rw[show (x.f.find t).isSome=U by simpa using q,hg]at R;simp only[BG.row,Ap,BB]at R;generalize ho:x.Po s t=o at B ⊢;cases o with
 | some b =>
   simp only[BP,As]at B ⊢;unfold Bb Aj at *
   by_cases M:(He x.d t).cls=1;have c5:=P6 M;refine CH gS gv ?_;exact qz (cj3 @M @c5 @H kn) (cj3 S R B W);refine CH gS gv ?_;exact qz (cj2 @M @H kn) (cj3 S R B W)
 | none =>
   simp only[BP,As]at B ⊢;unfold Bb Aj at *
   by_cases M:(He x.d t).cls=1;have c5:=P6 M;refine CH gS gv ?_;exact qz (cj3 @M @c5 @H kn) (cj3 S R B W);refine CH gS gv ?_;exact qz (cj2 @M @H kn) (cj3 S R B W)
theorem ALK (src:List Int)(s:Aa)(q:x.Ok)(R:s.ok=I)(S:n.text.data.toList.all Dx=I)(Q:n.text.size<=1000):AQ AF 45 [Bb x m,Am n,.c (AV src),Aj s] m (BM x.f) (BM x.f) (BP (x.Po s n.text)):=by
 obtain⟨k,t,c,H⟩:=n;have B:=AKi x m t s q R S Q;obtain⟨rs,M⟩:=AI (Nd.AG H);simp only[Am,Nd.vs,Nd.row,Ap,BB,M];generalize z:x.Po s t=o at B ⊢;cases o with
 | some b =>
   simp only[BP,As]at B ⊢;unfold Bb Aj at *
   refine CH func45 ntmps45 ?_;exact qz results45 (cj B<|trivial)
 | none =>
   simp only[BP,As]at B ⊢;unfold Bb Aj at *
   refine CH func45 ntmps45 ?_;exact qz results45 (cj B<|trivial)
theorem AEz (B:Nat):∀(l:List AA) (i:Nat) (w:Int),K6 B (i+B) w l=K6 B i w l
 | [],_,_=>rfl
 | b::l,i,w=>by
   simp only[K6,Nat.add_mod_right];rw[show i+B+1=i+1+B by omega];exact AEz B l _ _
theorem AEy (B:Nat):∀(l:List AA) (i:Nat) (w:Int),0<i->i<=B->K6 B i w l=K6 B 0 w (l.drop (B - i))
 | [],i,w,_,_=>by rw[List.drop_nil];rfl
 | b::l,i,w,M,Q=>by
   by_cases e:i=B;subst e;rw[La,B9];have:=AEz i (b::l) 0 w;rwa [Cz]at this
   have H:i % B≠0:=by rw[uZ (by omega)];omega
   simp only[K6,if_neg H];rw[AEy B l (i+1) w (by omega) (by omega),show B - i=(B - (i+1))+1 by omega,CU]
theorem AOW {B:Nat}(H:0<B)(b:AA)(l:List AA)(w:Int):K6 B 0 w (b::l)=K6 B 0 (mx w b.w) ((b::l).drop B):=by
 simp only[K6,Nat.zero_mod,if_true,Cz];rw[AEy B l 1 _ (by omega) H];obtain⟨k,rfl⟩:∃k,B=k+1:=⟨B - 1,by omega⟩
 rw[CU,Nat.add_sub_cancel]
def A4 (cells:List AA)(i:Nat):AA:=cells.getD i AA.zero
theorem bJ {cells:List AA}(h:i<G cells):A4 cells i=cells[i]:=by simp[A4,h]
theorem wQ {cells:List AA}(h:i<G cells):cells[i]?=J (A4 cells i):=by rw[bJ h];exact BE h
theorem bK {cells:List AA}(h:i<G cells):A4 cells i∈cells:=by rw[bJ h];exact Kq h
theorem xA {α:Type}(val:α->Nat){B c:Nat}(R:0<B)(cells:List AA):∀(l:List α) (j:Nat) (w:Int),(∀y∈l,val y<G cells)->(∀k y,l[k]?=J y->val y=c+B*(j+k))->G cells<=c+B*(j+G l)->(l.map λi=>(A4 cells (val i)).w).foldl mx w=K6 B 0 w (cells.drop (c+B*j))
 | [],j,w,_,_,h=>by
   rw[List.drop_eq_nil_of_le (by simpa using h)];rfl
 | y::l,j,w,Q,S,h=>by
   have q:val y=c+B*j:=by have:=S 0 y F;simpa using this
   have H:c+B*j<G cells:=by have:=Q y GH;omega
   rw[D5 H,AOW R,Ap,Bw];have e:(cells[c+B*j]::cells.drop (c+B*j+1)).drop B=cells.drop (c+B*(j+1)):=by
    rw[<-D5 H,List.drop_drop,Nat.mul_add,Nat.mul_one];congr 1
    omega
   rw[e,<-xA val R cells l (j+1) _ (λz M=>Q z (Gk _ M)) (λk z M=>by have:=S (k+1) z (by simpa using M);rw[this];congr 2;omega) (by rw[BA]at h;rw[show j+1+G l=j+(G l+1)by omega];exact h)];rw[q,bJ H]
theorem kO {p:Nat->Prop}(b d B:Nat)(h : ∀k,k<B->p (b+d*k)):∃l:List { i:Nat // p i },G l=B/\∀(k:Nat) (y : { i:Nat // p i }),l[k]?=J y->y.val=b+d*k:=by
 refine⟨List.ofFn λk:Fin B=>⟨b+d*k.val,h k.val k.isLt⟩,List.length_ofFn,λk y H=>?_⟩;obtain⟨M,e⟩:=Br.1 H;rw[List.getElem_ofFn]at e;rw[<-e]
theorem ANY (val:α->Nat){B r:Nat}(cells:List AA)(l:List α)(hb : ∀y∈l,val y<G cells)(q:G l=B)(R : ∀k y,l[k]?=J y->val y=r*B+k):l.map (λi=>A4 cells (val i))=Ha B cells r:=by
 unfold Ha;have z:B=0\/r*B+B<=G cells:=by
  rcases Nat.eq_zero_or_pos B with h|h
  exact .inl h;right;have H:l[B - 1]?=J (l[B - 1]'(by omega)):=BE (by omega);have M:=R _ _ H;have S:=hb _ (Cj H);omega
 apply UB;rw[Ch,q,Fa,List.length_drop];omega;intro i M S;rw[Ch]at M;rw[mW,List.getElem_take,List.getElem_drop];have H:l[i]?=J l[i]:=BE M;have:=R _ _ H;have Q:=hb _ (Cj H);rw[bJ Q];simp only[this]
theorem ANV (val:α->Nat){B r:Nat}(q:Int)(cells:List AA)(l:List α)(hb : ∀y∈l,val y<G cells)(H:G l=B)(M : ∀k y,l[k]?=J y->val y=r*B+k):(l.map λi=>(A4 cells (val i)).h).foldl mx (AU q 70)=MW q (Ha B cells r)/\(l.map λi=>(A4 cells (val i)).d).foldl mx (AU q 30)=N1 q (Ha B cells r):=by
 have e:=ANY val cells l hb H M;unfold MW N1;rw[<-e];simp only[List.foldl_map];exact⟨W,W⟩
theorem AFj : ∀(l:List Int) (a:Int),a<=l.foldl mx a/\∀x∈l,x<=l.foldl mx a
 | [],a=>⟨Int.le_refl _,λ_ h=>by cases h⟩
 | x::l,a=>by
   rw[Bw];obtain⟨M,H⟩:=AFj l (mx a x);have Q:a<=mx a x/\x<=mx a x:=by unfold mx;split<;>omega
   refine⟨by omega,λy B=>?_⟩;rcases Cf.1 B with rfl|B
   omega;exact H y B
def Ho (p:Nat->Bool)(g:Nat->AA->AA)(l:List AA):List AA:=l.mapIdx λi b=>if p i=I then g i b else b
theorem Xd (p:Nat->Bool)(g:Nat->AA->AA)(l:List AA):G (Ho p g l)=G l:=by simp[Ho]
theorem fQ (p:Nat->Bool)(g:Nat->AA->AA)(l:List AA)(i:Nat):(Ho p g l)[i]?=l[i]?.map λb=>if p i=I then g i b else b:=by simp[Ho]
theorem lf (p:Nat->Bool)(g:Nat->AA->AA)(l:List AA)(i:Nat)(h:i<G l):(Ho p g l)[i]'(by rw[Xd];exact h)=if p i=I then g i l[i]else l[i]:=by simp[Ho]
theorem AZ3 (p:Nat->Bool)(g:Nat->AA->AA)(l:List AA)(i:Nat)(h:i<G l):(Ho p g l).set i (g i l[i])=Ho (λj=>p j || decide (j=i)) g l:=by
 apply UB;simp[Ho];intro j B M;rw[List.getElem_set];rw[GF,Xd]at B;rw[lf _ _ _ _ B,lf _ _ _ _ B];by_cases e:i=j;subst e;simp;have H : ¬j=i:=λh=>e h.symm
 simp[e,H]
theorem ALr (val:α->Nat)(p:Nat->Bool)(g:Nat->AA->AA)(l:List AA)(pre:List α)(y:α)(h:val y<G l):(Ho (λj=>p j || pre.any λz=>decide (j=val z)) g l).set (val y) (g (val y) l[val y])=Ho (λj=>p j || (pre++[y]).any λz=>decide (j=val z)) g l:=by
 rw[AZ3 _ _ _ _ h];congr 1
 funext j;simp[Bool.or_assoc]
theorem ALq (p:Nat->Bool)(g:Nat->AA->AA)(l:List AA)(h : ∀i,i<G l->p i=U):Ho p g l=l:=by
 apply UB;simp[Ho];intro j H B;rw[lf _ _ _ _ B,h j B];simp
theorem ALp {p p':Nat->Bool}{g:Nat->AA->AA}{l:List AA}(h : ∀i,i<G l->p i=p' i):Ho p g l=Ho p' g l:=by
 apply UB;simp[Ho];intro j B H;rw[Xd]at B;rw[lf _ _ _ _ B,lf _ _ _ _ B,h j B]
def Ua (q:Int)(AL:Nat)(cells:List AA)(i:Nat)(b:AA):AA:={ b with x:=Ig q AL cells (i % AL)+Bm (Lh AL cells (i % AL) - b.w) }
def V1 (q:Int)(AL:Nat)(cells:List AA)(top:Int)(i:Nat)(b:AA):AA:={ b with y:=top - N3 q AL cells (i / AL) - MW q (Ha AL cells (i / AL)) }
def Gn (q:Int)(AL:Nat)(cells:List AA)(c:Nat):List AA:=Ho (λi=>decide (i % AL<c)) (Ua q AL cells) cells
def P3 (q:Int)(AL:Nat)(cells:List AA)(top:Int)(r:Nat):List AA:=Ho (λi=>decide (i / AL<r)) (V1 q AL cells top) (Gn q AL cells AL)
theorem AD4 (q:Int)(H:Nat)(cells:List AA)(B:Int):∀(l:List AA) (i j:Nat),(Ox q H cells B i l)[j]?=l[j]?.map λb=>wN q H cells B (i+j) b
 | [],i,j=>by simp[Ox]
 | b::l,i,0=>by simp[Ox]
 | b::l,i,j+1=>by
   simp only[Ox,JU];rw[AD4 q H cells B l (i+1) j,show i+1+j=i+(j+1)by omega]
theorem ANW (q:Int){B AG:Nat}(Q:0<B)(cells:List AA)(hn:G cells=AG*B)(H:Int):P3 q B cells H AG=Ox q B cells H 0 cells:=by
 apply Vc;intro j;rw[AD4,Cz];unfold P3 Gn;rw[fQ,fQ];cases z:cells[j]? with
 | none=>rfl
 | some b =>
   have M:j<AG*B:=by rw[<-hn];exact(Br.1 z).1
   have R:j % B<B:=mh _ Q;have S:j / B<AG:=(AC4 Q).2 M;simp only[Nu,R,S,decide_true,if_true];rfl
def EN (l:List AA)(Z:List C):List V:=((AA.AG l).flatten++Z).map V.c
theorem X5 :(AA.AG l).flatten.length=G l*11:=by
 rw[List.length_flatten];have:(AA.AG l).map List.length=Aq (G l) 11:=by
  apply UB;simp[GA];intro i B H;simp only[mW,List.getElem_replicate];exact lE l _ (Kq _)
 rw[this];simp
theorem iO {l:List AA}{Z:List C}{i q:Nat}{b:AA}(h:l[i]?=J b)(B:q<11):(EN l Z)[i*11+q]?=(b.row.map V.c)[q]?:=by
 have H:i<G l:=(Br.1 h).1;unfold EN;rw[Fm,List.getElem?_append_left (by rw[Ch,X5];omega),flat_get h B]
theorem bC :G (EN l Z)=G l*11+G Z:=by
 unfold EN;rw[Ch,Cp,X5]
@[simp] theorem RQ (n:Nat)(l:List AA)(Z:List C):V.BI n (EN l Z)=true:=by
 unfold EN;generalize ((AA.AG l).flatten++Z)=r;induction r with
 | nil=>rfl
 | cons c r ih=>simp only[Ap,V.BI,V.A8,Bool.true_and];exact ih
theorem og {l:List AA}{Z:List C}{i q:Nat}{b H:AA}{v:C}(h:l[i]?=J b)(hq:q<11)(hb:H.row=b.row.set q v):(EN l Z).set (i*11+q) (.c v)=EN (l.set i H) Z:=by
 have hi:i<G l:=(Br.1 h).1;unfold EN;rw[<-List.map_set (f:=V.c),List.set_append_left _ _ (by rw[X5];omega)];congr 2
 apply Vc;intro j;have e : ∀(m:List AA) (j:Nat),j<G m*11->(AA.AG m).flatten[j]?=(m[j / 11]?.bind λb=>b.row[j % 11]?):=by
  intro m j M;have hm:j / 11<G m:=by omega
  have hg:m[j / 11]?=J m[j / 11]:=BE hm;have B:=flat_get hg (mh j (by omega:0<11));rw[show j / 11*11+j % 11=j by omega,CM,CM]at B;rw[hg,aQ];cases S:(AA.AG m).flatten[j]? with
  | none=>rw[List.getElem?_eq_none_iff,X5]at S;omega
  | some a =>
    rw[S]at B;cases z:(m[j / 11]).row[j % 11]? with
    | none=>rw[z]at B;cases B
    | some c=>rw[z]at B;simp only[Nu,BL,V.c.injEq]at B;rw[B]
 by_cases M:j<G l*11;rw[e (l.set i H) j (by rw[GF];exact M),RD,RD];by_cases Q:i*11+q=j;subst Q;rw[if_pos rfl,if_pos (by rw[X5];omega),if_pos (by omega),if_pos hi,aQ,hb,show (i*11+q) % 11=q by omega,List.getElem?_set_self (by rw[Nk];exact hq)];rw[if_neg Q,e l j M];by_cases R:i=j / 11;subst R;rw[if_pos rfl,if_pos hi,h,aQ,aQ,hb,List.getElem?_set_ne (by omega)];rw[if_neg R];rw[M6 (by rw[GF,X5];omega),M6 (by rw[X5,GF];omega)]
theorem AD1 :V.Pn (EN l Z)=true:=AIW _
theorem bE (l:List AA)(Z:List C):V.Dj k (EN l Z)=J (EN l Z):=AIV k _
structure aZ (q:Int)(AL AG:Nat)(cells:List AA):Prop where
 n:G cells=AG*AL
 c1:1<=AL
 c2:AL<=16
 r1:1<=AG
 n2:G cells<=256
 q0:0<=q
 q1:q<=1073741824
 w : ∀b∈cells,0<=b.w/\b.w<=1073741824
theorem AD5 {q:Int}{B AG:Nat}{cells:List AA}(h:aZ q B AG cells)(c:Nat):0<=Lh B cells c/\Lh B cells c<=1073741824:=by
 have key : ∀(l:List AA) (i:Nat) (w:Int),0<=w->w<=1073741824->(∀b∈l,b.w<=1073741824)->0<=K6 B i w l/\K6 B i w l<=1073741824:=by
  intro l;induction l with
  | nil=>intro i w M Q _;exact⟨M,Q⟩
  | cons b l ih =>
    intro i w M Q H;simp only[K6];have NO:=H b GH;refine ih _ _ ?_ ?_ λb R=>H b (Gk _ R)
    split;unfold mx;split<;>omega;exact M;split;unfold mx;split<;>omega;exact Q
 exact key _ _ _ (by omega) (by omega) λb H=>(h.w b (List.mem_of_mem_drop H)).2
theorem AD6 {q:Int}{B AG:Nat}{cells:List AA}(h:aZ q B AG cells):∀c,0<=Ig q B cells c/\Ig q B cells c<=(c:Int)*2147483648
 | 0=>by simp[Ig]
 | c+1=>by
   have H:=AD6 h c;have M:=AD5 h c;have Q:=h.q0;have R:=h.q1;simp only[Ig];push_cast
   omega
theorem ANZ {q:Int}{B AG:Nat}{cells:List AA}(h:aZ q B AG cells)(hi:i<G cells):(A4 cells i).w<=Lh B cells (i % B):=by
 have M:0<B:=h.c1;have hm:=mh i M;have Q:=h.n;obtain⟨l,z,hv⟩:=kO (p:=λj=>j<G cells) (i % B) B AG λk H=>by
  rw[Q];have:B*k+B<=AG*B:=by rw[aO AG B,<-AQH];exact mj _ H
  omega
 have S:=xA (λy : { j:Nat // j<G cells }=>y.val) (c:=i % B) M cells l 0 0 (λy _=>y.2) (λk y R=>by rw[Cz];exact hv k y R) (by rw[Cz,z,Q,aO AG B];omega);rw[AbF,M8]at S;show _<=K6 B 0 0 (cells.drop (i % B));rw[<-S];have H:i / B<G l:=by rw[z];exact(AC4 M).2 (by rw[<-Q];exact hi)
 have hg:l[i / B]?=J l[i / B]:=BE H;have R:=hv _ _ hg;have he:l[i / B].val=i:=by rw[R,AMz]
 refine(AFj _ 0).2 _ (Da.2 ⟨_,Kq H,?_⟩);rw[he]
theorem AXM (x:Int):({ b with x:=x }:AA).row=b.row.set 6 (.int .i64 x):=by cases b;rfl
theorem ABh :(b.row.map V.c)[3]?=J (.c (.int .i64 b.w)):=by cases b;rfl
def X6 (q:Int)(AL:Nat)(cells:List AA)(c:Nat):Int:=if c=0 then 0 else Ig q AL cells (c - 1)+Lh AL cells (c - 1)
theorem AE0 (cells:List AA)(Z:List C)(H AG:Nat)(q:Int)(h:aZ q H AG cells):AY AF 165 [.own 0 0 (G cells) 11,.c (.int .i64 (H:Int)),.c (.int .i64 q)] 41 (EN cells Z) (EN (Gn q H cells H) Z) (.A7 [.c (.int .i64 (Ig q H cells (H - 1)+Lh H cells (H - 1))),.c (.bool I)]):=by
 obtain⟨hn,HL,GM,HP,KY,rC,NT,Ws⟩:=id h;obtain⟨N,hN⟩:=AI (G cells);rw[hN]at hn KY ⊢;have DK : ∀c,G (Gn q H cells c)=N:=λc=>by unfold Gn;rw[Xd,hN]
 have cX:Gn q H cells 0=cells:=ALq _ _ _ λi _=>by simp
 have G9:AG<=256:=by have:AG*1<=AG*H:=mj _ HL;omega
 have B2:(H:Int)<=9223372036854775807:=by omega
 refine AY.intro func165 rfl ?_;simp only[ntmps165,Ap,BB,BA,BO,Nat.reduceAdd,Nat.reduceSub,BY,Cy,BK,BU];refine Ah ?_;have e0:EN cells Z=EN (Gn q H cells 0) Z:=by rw[cX]
 rw[e0];refine lp (ι:={ c:Nat // c<=H }) (λc=>[(15,.c (.int .i64 (c.1:Int)))]) (λc=>[O.box 41 (EN (Gn q H cells c.1) Z) U,O.box 38 [.own 0 0 N 11] U,O.box 3 [.c (.int .i64 (X6 q H cells c.1))] U,O.box 4 [.c (.bool U)] U,O.box 3 [.c (.int .i64 (Ig q H cells c.1))] U]) (λc=>H - c.1) ⟨0,CI _⟩ ?_ ?_;all_goals simp only[CG,Bw,CO,Ag,Ai]
 exact ER (cj2 @X6.eq_1 @Ig.eq_1 @Ig.eq_2)
 . rintro ⟨c,hc⟩;simp only at hc ⊢;by_cases A2:c<H;have A9 : ∀k,k<AG->c+H*k<N/\(c+H*k) % H=c:=λk hk=>by
    have h1:H*k+H<=AG*H:=by rw[aO AG H,<-AQH];exact mj _ hk
    refine⟨by omega,?_⟩;rw[Nat.add_mul_mod_self_left,uZ A2]
   obtain⟨l,hl,hv⟩:=kO (p:=λj=>j<N/\j % H=c) c H AG A9;have JN : ∀y∈l,y.val<G cells:=λy _=>by rw[hN];exact y.2.1
   have dG:=pk (λy : { j:Nat // j<N/\j % H=c }=>((y.val:Nat):Int)) l (c:Int) (N:Int) (H:Int) (by omega) (by omega) (by omega) (by omega) (by omega) (λk y hy=>by have:=hv k y hy;rw[this];push_cast;rfl) (λy _=>by have:=y.2.1;omega) (by
    rw[hl];have e:(N:Int)=(AG:Int)*(H:Int):=by rw[hn];push_cast;rfl
    rw[e,Int.mul_comm];omega)
   have hW:=xA (λy : { j:Nat // j<N/\j % H=c }=>y.val) (c:=c) HL cells l 0 0 JN (λk y hy=>by rw[Cz];exact hv k y hy) (by rw[Cz,hl,hN,hn,aO AG H];omega);rw[AbF,M8]at hW;have QJ:(l.map λi=>(A4 cells i.val).w).foldl mx 0=Lh H cells c:=hW;obtain⟨A,hA⟩:=AI (EN (Gn q H cells c) Z);have KV:N*11<=G A:=by rw[<-hA,bC,DK];omega
   have Rc : ∀n,V.BI n A=true:=λn=>by rw[<-hA];exact RQ n _ _
   have A3 : ∀y : { j:Nat // j<N/\j % H=c },A[y.val*11+3]?=J (.c (.int .i64 (A4 cells y.val).w)):=λy=>by
    have hy:y.val<G cells:=by rw[hN];exact y.2.1
    rw[<-hA,iO (b:=if (decide (y.val % H<c))=I then Ua q H cells y.val cells[y.val]else cells[y.val]) (by unfold Gn;rw[fQ,BE hy];rfl) (by omega),bJ hy];split;exact ABh _;exact ABh _
   rw[hA];refine go @A2 ?_;refine BZ (iw (c:Int) (N:Int) (H:Int)) AFL ?_;refine Ah ?_;refine AW.le (Le.T4 5 0 3 1 rfl F) ?_;simp only[BA,BO,Nat.reduceAdd,Ag,Ai,BK,BU];refine AW.range (α:={ j:Nat // j<N/\j % H=c }) rfl rfl rfl (caps:=[.cp [.int .i64 (c:Int)] 0,.cp [.int .i64 (N:Int)] 0,.cp [.int .i64 (H:Int)] 0]) rfl rfl AF3 (by kernel_rfl) (by kernel_rfl) (λy=>.int .i64 ((y.val:Nat):Int)) (λy=>.c (.int .i64 ((y.val:Nat):Int))) ?_ (λxs=>xs=l) (G l) dG
    (λpre=>[O.box 41 A U,O.box 38 [.own 0 0 N 11] U,O.box 3 [.c (.int .i64 (X6 q H cells c))] U,O.box 4 [.c (.bool U)] U,O.box 3 [.c (.int .i64 (Ig q H cells c))] U,O.box 39 [.gr 6 1 ((pre.map λi=>(A4 cells i.val).w).map λn=>[C.int .i64 n])] U,O.tok 3 1 (G ((pre.map λi=>(A4 cells i.val).w).map λn=>[C.int .i64 n]))]) ?_ 7 (λ_=>rfl) (by simp) ?_ ?_
   intro x' W y;simp only[CV,Ab];exact⟨trivial,Q8 (by have:=y.2.1;unfold maxLen;omega)⟩;simp;rintro lp pre y kD;have Lv:=y.2.1;have M:=A3 y;have Ei:=gx M;have Dz:y.val*11+3<G A:=by omega
   obtain⟨wv,rN⟩:=AI ((A4 cells y.val).w);rw[rN]at M Ei;simp only[Fm,Ap,BB,rN];obtain⟨R,hR⟩:=AI (((pre.map λi=>(A4 cells i.val).w).map λn=>[C.int .i64 n]));have Md:G R<AG:=by rw[<-hR];simp;omega
   rw[hR];have FO:G R+1<=maxLen:=by unfold maxLen;omega
   have EX:(G R+1)*8<=140737488355328:=by omega
   obtain⟨yv,PW⟩:=AI y.val;rw[PW]at Lv M Ei Dz ⊢;refine go (cj5 @Lv @M @Ei @Dz @FO @EX) ?_;refine⟨F,_,Le.ct 7 (F2 F) ?_ ?_⟩;simp;simp[O.A8,V.BI,V.A8,Rc];rintro xs NW;rw[NW];clear NW xs;have A0:=xh 0 (l.map λi=>(A4 cells i.val).w) (by simp;omega);rw[QJ]at A0;unfold AV at A0;obtain⟨R,hR⟩:=AI (((l.map λi=>(A4 cells i.val).w).map λn=>[C.int .i64 n]));rw[hR]at A0 ⊢;refine Ah ?_;refine BZ (A0) func241 ?_;refine Ah ?_;refine BZ (iw (c:Int) (N:Int) (H:Int)) AFL ?_;refine Ah ?_;have yW:=AD5 h c;have A6:=AD6 h c;have yJ:A=EN (Ho (λj=>decide (j % H<c) || ([]:List { j:Nat // j<N/\j % H=c }).any λz=>decide (j=z.val)) (Ua q H cells) cells) Z:=by
    rw[<-hA];unfold Gn;simp
   have yz:Ho (λj=>decide (j % H<c) || l.any λz=>decide (j=z.val)) (Ua q H cells) cells=Gn q H cells (c+1):=by
    unfold Gn;refine ALp λi hi=>?_
    rw[hN]at hi;have key:(l.any λz=>decide (i=z.val))=decide (i % H=c):=by
     rw[Oj,List.any_eq_true,decide_eq_true_eq];constructor;rintro ⟨z,_,hz⟩;rw[decide_eq_true_eq]at hz;rw[hz];exact z.2.2;intro hm;have hk:i / H<G l:=by rw[hl];exact(AC4 HL).2 (by rw[<-hn];exact hi)
     refine⟨l[i / H],Kq hk,?_⟩;rw[decide_eq_true_eq,hv _ _ (BE hk)];have:=AMz i H;omega
    rw[key,Oj];simp only[Bool.or_eq_true,decide_eq_true_eq];omega
   obtain⟨X,hX⟩:=AI (Ig q H cells c);obtain⟨W,cS⟩:=AI (Lh H cells c);have A5:Ig q H cells (c+1)=X+W+q:=by simp only[Ig,hX,cS]
   have xt:X6 q H cells (c+1)=X+W:=by simp[X6,hX,cS]
   obtain⟨E,hE⟩:=AI (X6 q H cells c);rw[hX]at A6;rw[cS]at yW;rw[hX,cS,hE];refine AW.range (α:={ j:Nat // j<N/\j % H=c }) rfl rfl rfl (caps:=[.cp [.int .i64 (c:Int)] 0,.cp [.int .i64 (N:Int)] 0,.cp [.int .i64 (H:Int)] 0]) rfl rfl AF3 (by kernel_rfl) (by kernel_rfl) (λy=>.int .i64 ((y.val:Nat):Int)) (λy=>.c (.int .i64 ((y.val:Nat):Int))) ?_ (λxs=>xs=l) (G l) dG
    (λpre=>[O.box 41 (EN (Ho (λj=>decide (j % H<c) || pre.any λz=>decide (j=z.val)) (Ua q H cells) cells) Z) U,O.box 38 [.own 0 0 N 11] U,O.box 3 [.c (.int .i64 E)] U,O.box 4 [.c (.bool U)] U,O.box 3 [.c (.int .i64 X)] U,O.box 39 [.gr 6 1 R] U,O.tok 3 1 (G R),O.box 3 [.c (.int .i64 W)] U]) ?_ 8 (λ_=>rfl) (by simp) ?_ ?_
   intro x' W y;simp only[CV,Ab];exact⟨trivial,Q8 (by have:=y.2.1;unfold maxLen;omega)⟩;rw[yJ];rintro lp pre y kD;have Lv:=y.2.1;have Wv:y.val<G cells:=by rw[hN];exact Lv
   have S:=ALr (λy : { j:Nat // j<N/\j % H=c }=>y.val) (λj=>decide (j % H<c)) (Ua q H cells) cells pre y Wv;obtain⟨Q,hQ⟩:=AI (Ho (λj=>decide (j % H<c) || pre.any λz=>decide (j=z.val)) (Ua q H cells) cells);have yO:G Q=N:=by rw[<-hQ,Xd,hN]
   have yN : ∃B,Q[y.val]?=J B/\B.w=(A4 cells y.val).w/\Ua q H cells y.val cells[y.val]={ B with x:=X+Bm (W - (A4 cells y.val).w) }:=by
    rw[<-hQ,fQ,BE Wv,Nu,bJ Wv];refine⟨_,F,?_,?_⟩;split<;>rfl;unfold Ua;rw[y.2.2,hX,cS];split<;>rfl
   obtain⟨B,Il,O9,TK⟩:=yN;have yq:=Ws _ (bK Wv);have JL:=ANZ h Wv;rw[y.2.2,cS]at JL;rw[hQ]at S ⊢;rw[<-S];clear S;rw[TK];have M:=iO (Z:=Z) Il (q:=3) (by omega);rw[ABh,O9]at M;have KG:=og (Z:=Z) (v:=.int .i64 (X+Bm (W - (A4 cells y.val).w))) Il (by omega:6<11) (AXM B _);generalize rN:(A4 cells y.val).w=wv at M KG yq JL TK ⊢;obtain⟨Q',jS⟩:∃Q',EN (Q.set y.val { B with x:=X+Bm (W - wv) }) Z=Q':=⟨_,rfl⟩
   rw[jS]at KG ⊢;have yM : ∀n,V.BI n Q'=true:=λn=>by rw[<-jS];exact RQ n _ _
   obtain⟨A',Au⟩:∃A',EN Q Z=A':=⟨_,rfl⟩
   have B1:N*11<=G A':=by rw[<-Au,bC,yO];omega
   rw[Au]at M KG ⊢;have Ei:=gx M;have Dz:y.val*11+3<G A':=by omega
   have Yn:y.val*11+6+1<=G A':=by omega
   have B3:=J6 (W - wv);have EK:AZ.wrap (W - wv)=W - wv:=Ac;have A1:AZ.wrap (X+Bm (W - wv))=X+Bm (W - wv):=Ac;have G7:=Ng (W - wv);rw[show An (W - wv)=I by unfold An;simp;omega]at G7;have qh:=Ke (W - wv);generalize J8:Bm (W - wv)=hf at A1 qh KG;generalize PW:y.val=yv at Lv M Ei Dz Yn KG ⊢;refine go (cj4 @Lv @M @Ei @Dz @EK) ?_;refine BZ (G7) func100 ?_;refine go (cj4 @Lv @M @Ei @Dz @EK) ?_;refine gc (cj7 @Lv @M @Ei @Dz @Yn @EK @A1 @KG) (qh) func149 ?_;refine Ah ?_;refine⟨F,_,Le.ct 8 (F2 F) ?_ ?_⟩;simp;simp[O.A8,V.BI,V.A8,yM];rintro xs NW;rw[NW,yz];have EK:AZ.wrap (X+W)=X+W:=Ac;have A1:AZ.wrap (X+W+q)=X+W+q:=Ac;have B0:AZ.wrap ((c:Int)+1)=((c+1:Nat):Int):=by rw[Ac];push_cast;rfl
   refine go (cj2 @EK @A1 @B0) ?_;refine⟨⟨c+1,by omega⟩,by simp only;omega,?_⟩;simp only[A5,xt];exact wd 5
   . obtain rfl:c=H:=by omega
     have xt:X6 q c cells c=Ig q c cells (c - 1)+Lh c cells (c - 1):=if_neg (by omega);rw[xt];have KE:=bE 0 (Gn q c cells c) Z;refine go @A2 ?_;all_goals simp[GI,DV,C0,DE,V.CP,V.CF,CJ,results165, *]
end Go.Proofs.YtglaipbdiofkfaaGreat
