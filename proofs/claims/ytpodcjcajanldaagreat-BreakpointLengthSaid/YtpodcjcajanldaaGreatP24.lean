/- Part of the proof of breakpointLength.proved. Conditions: none. (Joined and shortened by a program.) -/
import Derived.Test.YtpodcjcajanldaaGreatP21
set_option linter.unusedVariables false
set_option linter.unusedSimpArgs false
set_option maxRecDepth 100000
set_option maxHeartbeats 16000000
open Go.Proofs.Tryz renaming prog→AD,results235→SL
open List renaming set_cons_succ→Az,set_cons_zero→BC
namespace Go.Proofs.YtpodcjcajanldaaGreat
open Go.RowKit
theorem SW.ARX {P:Program}{K:Exit->St->Prop}{ops:List Oper}{s:St}{o:Oper}{r:List Oper}{t t':TypeId}{j:Nat}{q:Option AA}(ho:o.op=.binOp .eql t (.tmp j) (.const (.pointer none)) t')(ht:gG P t=true)(hg:gate ops s.t o.guard=some true)(hc:Jj o.op=false)(hv:s.t[j]?=some (N4 q))(h:SW P ops K r (s.step o.dst (.c (.bool q.isNone)) none)):SW P ops K (o::r) s:=by
 cases q with
 | none=>exact SW.Za (b:=false) ho (.inl ⟨rfl,rfl⟩) ht hg hc hv (.inl ⟨rfl,rfl⟩) h
 | some g=>exact SW.Za (b:=false) ho (.inl ⟨rfl,rfl⟩) ht hg hc hv (.inr ⟨⟨_,_,rfl⟩,rfl⟩) h
@[simp] theorem Params.nt (p:Params):V.AO p.vs=some p.vs:=by
 have e:p.vs=(p.list.map (C.int .i64)).map V.c:=by simp[Params.vs]
 rw[e];exact Xg _
theorem Zj (l:List AA)(hl:l.length<=1)(hv : ∀c∈l,c.Av=true/\c.Bc):AC AD 234 [.c (.sl (AA.rows l))] (.c (.bool true)):=by
 match l,hl with
 | [],_ =>
   simp only[AA.rows];refine en Tryz.func234 Tryz.ntmps234 ?_;exact wz (cj @Af.eq_1<|Tryz.results234) trivial
 | [c],_ =>
   obtain⟨h1,h2⟩:=hv c (by simp);have h:=D2 c h2 (by have:=(DS h1).2.2.2;omega);rw[h1,Ay]at h;simp only[AA.rows];refine en Tryz.func234 Tryz.ntmps234 ?_;exact wz (cj @Af.eq_1<|Tryz.results234) (cj h<|trivial)
theorem ADe {s:AM}(ho:s.ok=true):s.level=0\/s.level=1\/s.level=2\/s.level=3:=by simp[AM.ok]at ho;omega
theorem ARl (p:Params)(s:AM)(ho:s.ok=true):AC AD 297 [.agg p.vs,Ai s] (.c (.int .i64 (U9 p s))):=by
 have hc:=ADe ho;obtain⟨l,c⟩:=s;simp only at hc;unfold Ai U9 Params.vs Params.list;simp only[List.map_cons,List.map_nil];rcases hc with rfl|rfl|rfl|rfl<;>cases c
 all_goals
  refine en Tryz.func297 Tryz.ntmps297 ?_;exact wz (cj @Af.eq_1<|Tryz.results297) trivial
theorem fw (n p:Int):AC AD 296 [.c (.int .i64 n),.cp [.int .i64 p] 0] (.c (.int .i64 (scale n p))):=by
 refine en Tryz.func296 Tryz.ntmps296 ?_;exact wz (cj @Af.eq_1<|Tryz.results296) (cj (Dn n p)<|trivial)
theorem AUC {s:AM}(ho:s.ok=true):Rz 8 1 s=(Jq s,0)/\(Jq s).ok=true:=by
 have hc:=ADe ho;refine⟨?_,?_⟩
 . unfold Rz;rw[if_neg (by simp[ho,GQ]),if_neg (by simp[GQ])];rfl
 . unfold Jq DZ;obtain⟨l,c⟩:=s;simp only at hc;rcases hc with rfl|rfl|rfl|rfl<;>simp[AM.ok,Rv]
theorem va (f:AI)(s:AM)(b:AA)(sub sup:List AA)(hv:f.valid=true)(ho:s.ok=true)(hb:b.Av=true)(l1:sub.length<=1)(l2:sup.length<=1)(h1 : ∀c∈sub,c.Av=true)(h2 : ∀c∈sup,c.Av=true) :
 AC AD 235 [.agg f.vs,Ai s,.c (.int .i64 (BK f.params s)),BD b,.c (.sl (AA.rows sub)),.c (.sl (AA.rows sup))] (.Bk [.c (.int .i64 (Dq f s b sub sup).1),.c (.int .i64 (Dq f s b sub sup).2)]):=by
 obtain⟨p1,p2⟩:=GD hv ho;obtain⟨bw,bh,bd,bc⟩:=DS hb;obtain⟨e8,vG⟩:=AUC ho;obtain⟨q1,q2⟩:=GD hv vG;have hin:=vV b;have DG:=mj 8 1 s;rw[e8]at DG;have Ir:=KL f (Jq s);rw[show Ha f (Jq s)=(BK f.params (Jq s),0)from if_neg (by simp[vG,hv])]at Ir;have Hu:=ARl f.params s ho;have Yu:Mc f s b=if b.simp.isSome then 0 else b.h - scale f.params.OE (BK f.params (Jq s)):=rfl
 have Yv:KS f s b=if b.simp.isSome then 0 else b.d+scale f.params.OD (BK f.params (Jq s)):=rfl
 have sm:Li f s=scale f.params.FV (BK f.params s):=rfl;have rB:=DA (p:=BK f.params (Jq s)) f.params.OE (by omega) q2;have rC:=DA (p:=BK f.params (Jq s)) f.params.OD (by omega) q2;have bU : -2147483648<=Mc f s b/\Mc f s b<=2147483648:=by rw[Yu];split<;>omega
 have bV : -2147483648<=KS f s b/\KS f s b<=2147483648:=by rw[Yv];split<;>omega
 have bR:=DA (p:=BK f.params s) (U9 f.params s) (by omega) p2;have qq:=DA (p:=BK f.params s) f.params.OA (by omega) p2;have qt:=DA (p:=BK f.params s) f.params.OC (by omega) p2;have qp:=DA (p:=BK f.params s) f.params.rule (by omega) p2;have cB:=DA (p:=25) (Li f s) (by omega) (by omega);have qn:=DA (p:=80) (Li f s) (by omega) (by omega);have hx:=fw f.params.FV (BK f.params s);rw[<-sm]at hx;have h25:=Dn (Li f s) 25;have h80:=Dn (Li f s) 80;have hsd:=Dn f.params.OE (BK f.params (Jq s));have MC:=Dn f.params.OD (BK f.params (Jq s));have P5:=fw (U9 f.params s) (BK f.params s);have Su:=fw f.params.OA (BK f.params s);have JG:=fw f.params.OC (BK f.params s);have dK:=fw f.params.rule (BK f.params s);have dU : ∀c l,Fw f s b (c::l)=mx (mx (Mc f s b) (scale (U9 f.params s) (BK f.params s))) (c.d+scale (Li f s) 25):=fun _ _=>rfl
 have WB:KT f s b=mx (KS f s b) (scale f.params.OC (BK f.params s)):=rfl;have dL:Qk f s=4*scale f.params.rule (BK f.params s):=rfl;have cQ : ∀c l,Dq f s b (c::l) []=(Mc f s b,mx (mx (KS f s b) (scale f.params.OA (BK f.params s))) (c.h - scale (Li f s) 80)):=fun _ _=>rfl
 have kP:Dq f s b [] []=(Mc f s b,KS f s b):=rfl;have rX : ∀c l,Dq f s b [] (c::l)=(Fw f s b (c::l),KS f s b):=fun _ _=>rfl
 have kQ : ∀c d,Dq f s b [c] [d]=if Fw f s b [d] - d.d - (c.h - KT f s b)<Qk f s then(if 0<scale (Li f s) 80 - (Fw f s b [d] - d.d)then(Fw f s b [d]+(scale (Li f s) 80 - (Fw f s b [d] - d.d)),KT f s b+(Qk f s - (Fw f s b [d] - d.d - (c.h - KT f s b))) - (scale (Li f s) 80 - (Fw f s b [d] - d.d)))else(Fw f s b [d],KT f s b+(Qk f s - (Fw f s b [d] - d.d - (c.h - KT f s b)))))else(Fw f s b [d],KT f s b):=fun _ _=>rfl
 obtain⟨RES,LW⟩:=AE (Dq f s b sub sup);rw[LW];obtain⟨T,hT⟩:=AE (Jq s);rw[hT]at DG Ir Yu Yv rB rC hsd MC q1 q2;obtain⟨P,hP⟩:=AE (BK f.params s);obtain⟨Q,hQ⟩:=AE (BK f.params T);rw[hQ]at Ir Yu Yv rB rC hsd MC q1 q2;rw[hP]at p1 p2 bR qq qt qp hx P5 Su JG dK WB dL sm ⊢;simp only[hP]at dU cQ;obtain⟨X,hX⟩:=AE (Li f s);rw[hX]at cB qn hx h25 h80;simp only[hX]at dU cQ kQ;obtain⟨bb,rl⟩:=AE (scale X 25);obtain⟨jT,kS⟩:=AE (scale X 80);obtain⟨U0,ru⟩:=AE (Mc f s b);obtain⟨V0,kT⟩:=AE (KS f s b);obtain⟨RS,rq⟩:=AE (scale (U9 f.params s) P);obtain⟨S1,rr⟩:=AE (scale f.params.OA P);obtain⟨S2,eS2⟩:=AE (scale f.params.OC P);obtain⟨RU,eRU⟩:=AE (scale f.params.rule P);obtain⟨V2,rv⟩:=AE (KT f s b);obtain⟨LS,rm⟩:=AE (Qk f s);rw[rl]at cB h25;rw[kS]at qn h80;rw[ru]at Yu bU kP;rw[kT]at Yv bV kP WB;rw[rq]at bR P5;rw[rr]at qq Su;rw[eS2]at qt JG WB;rw[eRU]at qp dK dL;rw[rv]at WB;rw[rm]at dL;simp only[ru,rl,rq,kT,rr,kS]at dU cQ;simp only[kS,rv,rm]at kQ;simp only[kT]at rX;have bV2 : -2147483648<=V2/\V2<=2147483648:=by rw[WB,D6];omega
 have bL : -4294967296<=LS/\LS<=4294967296:=by omega
 clear sm hX hP hQ hT rl kS ru kT rq rr eS2 eRU rv rm hb ho hv e8 vG;rw[Ay];unfold Ai VO at *
 simp only[Ai,Af]at DG Ir;obtain⟨rs1,HW⟩:=AE (AA.rows sub);obtain⟨PK,hr2⟩:=AE (AA.rows sup);rw[HW,hr2];refine en Tryz.func235 Tryz.ntmps235 ?_;refine wu (CJ.mk 1) (cj @Af.eq_1<|SL) trivial ⟨?_⟩;refine AW.AR 2 rfl (by simp[toCs,toC];exact rfl) (by simp[V.BG,V.AR];exact rfl) (by simp[O.AR,V.BG,V.AR];exact rfl) ?_;refine AW.AR 3 rfl (by simp[toCs,toC];exact rfl) (by simp[V.BG,V.AR];exact rfl) (by simp[O.AR,V.BG,V.AR];exact rfl) ?_;refine wu (CJ.mk 2) (cj @Af.eq_1<|SL) trivial ⟨?_⟩;refine AW.DM ?_;refine SW.take 1 (AH.out ?_);simp only[List.take_succ_cons,List.take_zero];have ff:=(cj @Af.eq_1<|SL)
 repeat any_goals (first|refine CC ?_|exact Bq ff|refine Bt ff ?_|refine A4 ff (hin) ?_|refine Bi ff ?_)
 simp only[List.drop_succ_cons,List.drop_zero];refine SW.ARX rfl (by kernel_rfl) rfl rfl rfl ?_;simp only[St.step,St.put,CG,Az,BC];refine SW.nil ?_;refine G7 ?_;refine jn (fun _:Unit=>[(12,.c (.int .i64 U0)),(13,.c (.int .i64 V0))]) ?_ ?_;all_goals simp only[Br,List.foldl_cons,List.foldl_nil,BC,Az]
 . cases hs:b.simp with
   | some g =>
     have e1:U0=0:=by rw[Yu,hs];rfl
     have e2:V0=0:=by rw[Yv,hs];rfl
     refine go @e1 ?_;refine⟨(),?_⟩;refine Le.BV (by simp[A5,e1,e2])
   | none =>
     have e1:b.h - scale f.params.OE Q=U0:=by rw[Yu,hs];rfl
     have e2:b.d+scale f.params.OD Q=V0:=by rw[Yv,hs];rfl
     refine wy (cj @Af.eq_1<|cj @e1<|cj @e2<|SL) (cj DG<|cj Ir<|cj hsd<|cj MC<|trivial) ⟨?_⟩;refine⟨(),?_⟩;exact wd 4 (hb:=by simp[V.BT,V.BA,N4])
 . intro _;match sub,sup,l1,l2 with
   | [],[],_,_ =>
     simp only[AA.rows]at HW hr2;subst HW hr2;rw[kP]at LW;subst LW;have ff:=(cj @Af.eq_1<|SL)
     repeat any_goals (first|refine CC ?_|exact Bq ff|(with_reducible refine LA.loop (LA.round ?_))|(with_reducible refine LA.round ?_)|refine Bt ff ?_|refine A4 ff (hx) ?_|refine A4 ff (h80) ?_|refine Bi ff ?_|((first|refine By ff ?_ ?_|refine B4 ff ?_ ?_|refine Bz ff ?_ ?_|refine B3 ff ?_ ?_)<;>intro h<;>try (exfalso;first|omega|contradiction)))
   | [],[d],_,_ =>
     simp only[AA.rows]at HW hr2;subst HW hr2;obtain⟨dw,dh,dd,_⟩:=DS (h2 d (by simp));rw[rX,dU]at LW;subst LW;have m1:(if U0<RS then RS else U0)=mx U0 RS:=rfl;have bM : -2147483648<=mx U0 RS/\mx U0 RS<=2147483648:=by rw[D6];omega
     obtain⟨M,hM⟩:=AE (mx U0 RS);rw[hM]at m1 bM ⊢;have m2:(if M<d.d+bb then d.d+bb else M)=mx M (d.d+bb):=rfl;have ff:=(cj @Af.eq_1<|cj @m1<|cj @m2<|SL)
     repeat any_goals (first|refine CC ?_|exact Bq ff|(with_reducible refine LA.loop (LA.round ?_))|(with_reducible refine LA.round ?_)|refine Bt ff ?_|refine A4 ff (hx) ?_|refine A4 ff (h80) ?_|refine A4 ff (Hu) ?_|refine A4 ff (P5) ?_|refine A4 ff (h25) ?_|refine Bi ff ?_|((first|refine By ff ?_ ?_|refine B4 ff ?_ ?_|refine Bz ff ?_ ?_|refine B3 ff ?_ ?_)<;>intro h<;>try (exfalso;first|omega|contradiction)))
   | [c],[],_,_ =>
     simp only[AA.rows]at HW hr2;subst HW hr2;obtain⟨cw,ch,cd,_⟩:=DS (h1 c (by simp));rw[cQ]at LW;subst LW;have m1:(if V0<S1 then S1 else V0)=mx V0 S1:=rfl;have bM : -2147483648<=mx V0 S1/\mx V0 S1<=2147483648:=by rw[D6];omega
     obtain⟨M,hM⟩:=AE (mx V0 S1);rw[hM]at m1 bM ⊢;have m2:(if M<c.h - jT then c.h - jT else M)=mx M (c.h - jT):=rfl;have ff:=(cj @Af.eq_1<|cj @m1<|cj @m2<|SL)
     repeat any_goals (first|refine CC ?_|exact Bq ff|(with_reducible refine LA.loop (LA.round ?_))|(with_reducible refine LA.round ?_)|refine Bt ff ?_|refine A4 ff (hx) ?_|refine A4 ff (h80) ?_|refine A4 ff (Su) ?_|refine Bi ff ?_|((first|refine By ff ?_ ?_|refine B4 ff ?_ ?_|refine Bz ff ?_ ?_|refine B3 ff ?_ ?_)<;>intro h<;>try (exfalso;first|omega|contradiction)))
   | [c],[d],_,_ =>
     simp only[AA.rows]at HW hr2;subst HW hr2;obtain⟨cw,ch,cd,_⟩:=DS (h1 c (by simp));obtain⟨dw,dh,dd,_⟩:=DS (h2 d (by simp));rw[kQ]at LW;have cR:=dU d [];obtain⟨U1,hU1⟩:=AE (Fw f s b [d]);rw[hU1]at LW cR;have m1:(if U0<RS then RS else U0)=mx U0 RS:=rfl;have bM : -2147483648<=mx U0 RS/\mx U0 RS<=2147483648:=by rw[D6];omega
     obtain⟨M,hM⟩:=AE (mx U0 RS);rw[hM]at m1 bM cR;have m2:(if M<d.d+bb then d.d+bb else M)=U1:=cR.symm;have bU1 : -2147483648<=U1/\U1<=2147483648:=by rw[cR,D6];omega
     have m3:(if V0<S2 then S2 else V0)=V2:=WB.symm;have m4:4*RU=LS:=dL.symm;clear cR hM hU1 dU kP rX cQ kQ WB dL;by_cases c1:U1 - d.d - (c.h - V2)<LS
     . rw[if_pos c1]at LW;by_cases c2:0<jT - (U1 - d.d)
       . rw[if_pos c2]at LW;subst LW;have OW:=iff_true_intro c1;have rD:=iff_true_intro c2;have ff:=(cj @Af.eq_1<|cj @m1<|cj @m2<|cj @m3<|cj @m4<|cj @OW<|cj @rD<|SL)
         repeat any_goals (first|refine CC ?_|exact Bq ff|(with_reducible refine LA.loop (LA.round ?_))|(with_reducible refine LA.round ?_)|refine Bt ff ?_|refine A4 ff (hx) ?_|refine A4 ff (h80) ?_|refine A4 ff (Hu) ?_|refine A4 ff (P5) ?_|refine A4 ff (h25) ?_|refine A4 ff (JG) ?_|refine A4 ff (dK) ?_|refine Bi ff ?_|((first|refine By ff ?_ ?_|refine B4 ff ?_ ?_|refine Bz ff ?_ ?_|refine B3 ff ?_ ?_)<;>intro h<;>try (exfalso;first|omega|contradiction)))
       . rw[if_neg c2]at LW;subst LW;have OW:=iff_true_intro c1;have ff:=(cj @Af.eq_1<|cj @m1<|cj @m2<|cj @m3<|cj @m4<|cj @OW<|cj @c2<|SL)
         repeat any_goals (first|refine CC ?_|exact Bq ff|(with_reducible refine LA.loop (LA.round ?_))|(with_reducible refine LA.round ?_)|refine Bt ff ?_|refine A4 ff (hx) ?_|refine A4 ff (h80) ?_|refine A4 ff (Hu) ?_|refine A4 ff (P5) ?_|refine A4 ff (h25) ?_|refine A4 ff (JG) ?_|refine A4 ff (dK) ?_|refine Bi ff ?_|((first|refine By ff ?_ ?_|refine B4 ff ?_ ?_|refine Bz ff ?_ ?_|refine B3 ff ?_ ?_)<;>intro h<;>try (exfalso;first|omega|contradiction)))
     . rw[if_neg c1]at LW;subst LW;have ff:=(cj @Af.eq_1<|cj @m1<|cj @m2<|cj @m3<|cj @m4<|cj @c1<|SL)
       repeat any_goals (first|refine CC ?_|exact Bq ff|(with_reducible refine LA.loop (LA.round ?_))|(with_reducible refine LA.round ?_)|refine Bt ff ?_|refine A4 ff (hx) ?_|refine A4 ff (h80) ?_|refine A4 ff (Hu) ?_|refine A4 ff (P5) ?_|refine A4 ff (h25) ?_|refine A4 ff (JG) ?_|refine A4 ff (dK) ?_|refine Bi ff ?_|((first|refine By ff ?_ ?_|refine B4 ff ?_ ?_|refine Bz ff ?_ ?_|refine B3 ff ?_ ?_)<;>intro h<;>try (exfalso;first|omega|contradiction)))
end Go.Proofs.YtpodcjcajanldaaGreat
