/- Part of the proof of breakpointLength.proved. Conditions: none. (Joined and shortened by a program.) -/
import Derived.Test.YtpodcjcajanldaaGreatP21
set_option linter.unusedVariables false
set_option linter.unusedSimpArgs false
set_option maxRecDepth 100000
set_option maxHeartbeats 16000000
open Go.Proofs.Tryz renaming prog→AD,results225→pw,func162→ow,ntmps162→pL,results162→il,results237→yN,results299→bB
open Nat renaming zero_le→Cc
open List renaming any_cons→Z5,any_nil→gj,map_cons→Al,map_nil→A8,set_cons_succ→Az,set_cons_zero→BC,drop_succ_cons→Be,drop_zero→BO,replicate_succ→Ao
open Bool renaming or_false→gX,or_eq_true→Qu
open Option renaming getD_none→Gl,isSome_none→H7,getD_some→EM,isSome_some→Hg
namespace Go.Proofs.YtpodcjcajanldaaGreat
open Go.RowKit
theorem UT (n p:Int):AC AD 293 [.c (.int .i64 n),.cp [.int .i64 p] 0] (.c (.int .i64 (scale n p))):=by
 refine en Tryz.func293 Tryz.ntmps293 ?_;exact wz (cj @Af.eq_1<|Tryz.results293) (cj (Dn n p)<|trivial)
def sC (f:AI)(s:AM):V:=.agg [.c (.int .i64 (L6 f s)),.c (.int .i64 (LV f s)),.c (.int .i64 (RI f s)),.c (.int .i64 (WH f s)),.c (.int .i64 (WE f s))]
theorem AK2 (f:AI)(s:AM)(hv:f.valid=true)(ho:s.ok=true):AC AD 225 [.agg f.vs,Ai s,.c (.int .i64 (BK f.params s))] (sC f s):=by
 obtain⟨p1,p2⟩:=GD hv ho;unfold sC LV RI WH WE L6 Ai;obtain⟨P,hP⟩:=AE (BK f.params s);rw[hP]at p1 p2 ⊢;have b1:=DA (p:=P) f.params.rule (by omega) p2;have b2:=DA (p:=P) f.params.EB (by omega) p2;have h1:=UT f.params.rule P;have h2:=UT f.params.EB P;obtain⟨R,hR⟩:=AE (scale f.params.rule P);obtain⟨A,hA⟩:=AE (scale f.params.EB P);rw[hR]at b1 h1 ⊢;rw[hA]at b2 h2 ⊢;have b3:=JI R;have h3:=KM R;obtain⟨H,hH⟩:=AE (half R);rw[hH]at b3 h3 ⊢;by_cases h0:s.level=0
 . have Mx:s.level=0↔True:=iff_true_intro h0;simp only[Mx,if_true];refine en Tryz.func225 Tryz.ntmps225 ?_;refine wu (CJ.mk 2) (cj @Af.eq_1<|pw) trivial ⟨?_⟩;refine AW.AR 2 rfl (by simp[toCs,toC];exact rfl) (by simp[V.BG,V.AR];exact rfl) (by simp[O.AR,V.BG,V.AR];exact rfl) ?_;exact wz (cj @Mx<|pw) (cj h1<|cj h2<|cj h3<|cj (UT f.params.Ro P)<|cj (UT f.params.RD P)<|cj (UT f.params.QW P)<|cj (UT f.params.Px P)<|trivial)
 . simp only[h0,if_false];refine en Tryz.func225 Tryz.ntmps225 ?_;refine wu (CJ.mk 2) (cj @Af.eq_1<|pw) trivial ⟨?_⟩;refine AW.AR 2 rfl (by simp[toCs,toC];exact rfl) (by simp[V.BG,V.AR];exact rfl) (by simp[O.AR,V.BG,V.AR];exact rfl) ?_;exact wz (cj @h0<|pw) (cj h1<|cj h2<|cj h3<|cj (UT f.params.QW P)<|cj (UT f.params.Px P)<|trivial)
theorem ABG (b:AA)(y w:Int)(hs:b.src.length<=1000000)(h1 : -4000000000<=w - b.w)(h2:w - b.w<=4000000000):AC AD 226 [.agg b.vs,.c (.int .i64 y),.cp [.int .i64 w] 0] (.agg (b.at_ (half (w - b.w)) y).vs):=by
 have h:=Gc b (half (w - b.w)) y hs;have hh:=KM (w - b.w);rw[Ay,Ay]at h;refine en Tryz.func226 Tryz.ntmps226 ?_;exact wz (cj @Af.eq_1<|Tryz.results226) (cj hh<|cj h<|trivial)
theorem AGr {b:AA}(h:b.Av=true):b.src.length<=1000000:=by have:=Fz h;cases b;simp only[AA.Fk]at this;exact this.1
theorem AQ0 (f:AI)(s:AM)(n d:AA)(hn:n.Bc)(hnc:n.cnt<=1000000)(hd:d.Bc)(hdc:d.cnt<=1000000):AC AD 162 [.agg f.vs,Ai s,BD n,BD d] (Bd (Yq f s n d)):=by
 have Cq:=KL f s;have HO:=D2 n hn hnc;have HN:=D2 d hd hdc;by_cases hg:s.ok=false\/f.valid=false
 . have e:Yq f s n d=(AA.zero,1):=if_pos (by rcases hg with h|h<;>simp[h]);have e0:Ha f s=(0,1):=if_pos hg;rw[e];rw[e0]at Cq;unfold Ai at *
   simp only[Bd,Ay,Af]at Cq HO HN ⊢;refine en ow pL ?_;exact wz (cj @Eo<|il) (cj Cq<|cj HO<|cj HN<|trivial)
 . obtain⟨ho,hv⟩:s.ok=true/\f.valid=true:=by simpa using hg
   have e0:Ha f s=(BK f.params s,0):=if_neg hg;rw[e0]at Cq;cases O2:n.Av with
   | false =>
     have e:Yq f s n d=(AA.zero,1):=if_pos (by simp[O2]);rw[e];rw[O2]at HO;unfold Ai at *
     simp only[Bd,Ay,Af]at Cq HO HN ⊢;refine en ow pL ?_;exact wz (cj @Eo<|il) (cj Cq<|cj HO<|cj HN<|trivial)
   | true =>
     rw[O2]at HO;cases Wu:d.Av with
     | false =>
       have e:Yq f s n d=(AA.zero,1):=if_pos (by simp[Wu]);rw[e];rw[Wu]at HN;unfold Ai at *
       simp only[Bd,Ay,Af]at Cq HO HN ⊢;refine en ow pL ?_;exact wz (cj @Eo<|il) (cj Cq<|cj HO<|cj HN<|trivial)
     | true =>
       rw[Wu]at HN;have e:Yq f s n d=Cm (L5 f s n d):=if_neg (by simp[O2,Wu,hv,ho]);rw[e];obtain⟨nw,nh,nd,nc⟩:=DS O2;obtain⟨dw,dh,dd,dc⟩:=DS Wu;obtain⟨p1,p2⟩:=GD hv ho;have hm:=AK2 f s hv ho;have bR:=DA (p:=BK f.params s) f.params.rule (by omega) p2;have bA:=DA (p:=BK f.params s) f.params.EB (by omega) p2;have bN:=DA (p:=BK f.params s) (if s.level=0 then f.params.Ro else f.params.QW) (by omega) p2;have bD:=DA (p:=BK f.params s) (if s.level=0 then f.params.RD else f.params.Px) (by omega) p2;have bH:=JI (L6 f s);have bY : -2147483648<=LV f s/\LV f s<=2147483648:=by unfold LV;omega
       have bR' : -1073741824<=L6 f s/\L6 f s<=1073741824:=bR;have bG : -3221225472<=RI f s/\RI f s<=3221225472:=by unfold RI;split<;>omega
       have bN' : -1073741824<=WH f s/\WH f s<=1073741824:=bN;have bD' : -1073741824<=WE f s/\WE f s<=1073741824:=bD;have eB:L5 f s n d=CB (P0 n d) (mx (WI f s n+n.h) (LV f s+L6 f s)) (mx (d.d+WG f s d) (-(LV f s))) [n.at_ (half (P0 n d - n.w)) (WI f s n),(Dw (P0 n d) (L6 f s) 0).at_ 0 (LV f s),d.at_ (half (P0 n d - d.w)) (-(WG f s d))]:=rfl;have eU:WI f s n=mx (WH f s) (LV f s+L6 f s+RI f s+n.d):=rfl;have eL:WG f s d=mx (WE f s) (d.h+RI f s - LV f s):=rfl;have eW:P0 n d=mx (mx 0 n.w) d.w:=rfl;rw[eB];unfold sC at hm;obtain⟨U,hU⟩:=AE (WI f s n);obtain⟨L,hL⟩:=AE (WG f s d);obtain⟨W,hW⟩:=AE (P0 n d);rw[hU]at eU;rw[hL]at eL;rw[hW]at eW;rw[hU,hL,hW];clear eB e hU hL hW bR bA bN bD bH;obtain⟨R,hR⟩:=AE (L6 f s);obtain⟨Y,hY⟩:=AE (LV f s);obtain⟨G,hG⟩:=AE (RI f s);obtain⟨N,hN⟩:=AE (WH f s);obtain⟨D,hD⟩:=AE (WE f s);rw[hR,hY,hG,hN,hD]at hm;rw[hN,hY,hR,hG]at eU;rw[hD,hG,hY]at eL;rw[hR]at bR' ⊢;rw[hY]at bY ⊢;rw[hG]at bG;rw[hN]at bN';rw[hD]at bD';clear hR hY hG hN hD;have bU : -1073741824<=U/\U<=8589934592:=by rw[eU,D6];omega
       have bL : -1073741824<=L/\L<=8589934592:=by rw[eL,D6];omega
       have bW:0<=W/\W<=1073741824:=by rw[eW,D6,D6];omega
       have Ys:(if 0<n.w then n.w else 0)=mx 0 n.w:=rfl;obtain⟨M,hM⟩:=AE (mx 0 n.w);rw[hM]at eW Ys;have eU':(if N<Y+R+G+n.d then Y+R+G+n.d else N)=U:=eU.symm;have eL':(if D<d.h+G - Y then d.h+G - Y else D)=L:=eL.symm;have eW':(if M<d.w then d.w else M)=W:=eW.symm;have HQ:=ABG n U W (AGr O2) (by omega) (by omega);have hp2:=ABG d (-L) W (AGr Wu) (by omega) (by omega);have Nq:=vZ W R 0;have hat:=Gc (Dw W R 0) 0 Y (by simp[Dw]);obtain⟨hk,hkk⟩:AA.Jb [n.at_ (half (W - n.w)) U,(Dw W R 0).at_ 0 Y,d.at_ (half (W - d.w)) (-L)]/\AA.GB [n.at_ (half (W - n.w)) U,(Dw W R 0).at_ 0 Y,d.at_ (half (W - d.w)) (-L)]:=⟨⟨GH _ _ (Fz O2),GH _ _ (wI _ _ _),GH _ _ (Fz Wu),trivial⟩,FA _ _ hn,FA _ _ (wJ _ _ _),FA _ _ hd,trivial⟩
       have hkc:AA.A9 [n.at_ (half (W - n.w)) U,(Dw W R 0).at_ 0 Y,d.at_ (half (W - d.w)) (-L)]<=50000:=by simp only[AA.A9,GW,fk];omega
       have hl:=MX W (mx (U+n.h) (Y+R)) (mx (d.d+L) (-Y)) [n.at_ (half (W - n.w)) U,(Dw W R 0).at_ 0 Y,d.at_ (half (W - d.w)) (-L)] hk (by omega);have Cw:=D2 (CB W (mx (U+n.h) (Y+R)) (mx (d.d+L) (-Y)) [n.at_ (half (W - n.w)) U,(Dw W R 0).at_ 0 Y,d.at_ (half (W - d.w)) (-L)]) ⟨(Cc _:0<=maxLen),(Cc _:0<=maxLen),hkk⟩ (by simp only[CB,AA.cnt];omega);obtain⟨Z,hZ⟩:=AE (CB W (mx (U+n.h) (Y+R)) (mx (d.d+L) (-Y)) [n.at_ (half (W - n.w)) U,(Dw W R 0).at_ 0 Y,d.at_ (half (W - d.w)) (-L)]);rw[hZ]at hl Cw ⊢;clear hZ hk hkk hkc;have Wj:(if U+n.h<Y+R then Y+R else U+n.h)=mx (U+n.h) (Y+R):=rfl;have Wi:(if d.d+L < -Y then -Y else d.d+L)=mx (d.d+L) (-Y):=rfl;obtain⟨MT,ko⟩:=AE (mx (U+n.h) (Y+R));obtain⟨MB,kn⟩:=AE (mx (d.d+L) (-Y));rw[ko]at Wj hl;rw[kn]at Wi hl;unfold Ai at *
       simp only[AA.rows,Ay,Af]at Cq hl Cw hat Nq HO HN ⊢;obtain⟨A0,FD⟩:=AE (n.at_ (half (W - n.w)) U);obtain⟨A2,Hp⟩:=AE (d.at_ (half (W - d.w)) (-L));obtain⟨A3,Kl⟩:=AE (Dw W R 0);rw[Kl]at Nq hat hl;obtain⟨A1,Gv⟩:=AE (A3.at_ 0 Y);rw[FD]at HQ hl;rw[Hp]at hp2 hl;rw[Gv]at hat hl;clear FD Gv Hp Kl ko kn hM eU eL eW;unfold Cm;refine en ow pL ?_;refine wu (CJ.mk 10) (cj @Ys<|cj @eU'<|cj @eL'<|cj @eW'<|il) (cj Cq<|cj HO<|cj HN<|cj hm<|trivial) ⟨?_⟩;refine AW.AR 6 rfl (by simp[toCs,toC];exact rfl) (by simp[V.BG,V.AR];exact rfl) (by simp[O.AR,V.BG,V.AR];exact rfl) ?_;exact wz (cj @Wj<|cj @Wi<|cj @Bd.eq_1<|cj @Ay<|cj @Af.eq_1<|cj @Eo<|il) (cj Nq<|cj hat<|cj HQ<|cj hp2<|cj hl<|cj Cw<|trivial)
theorem AP6 {P:Program}{S0:Ba}{w0:Bs}{x:Cx}{w:World}{H:Heap}{a:Act}{o:Oper}(g:Good S0 w0 x w H){t te:TypeId}{n sz:Nat}{y:Operand}(ho:o.op=.slice t y none none none)(h1:P.underlying t=some (.array n te))(hsz : ∀w:World,(sizeOf te).run P w=.ok sz w){rows:List (List C)}{es:Nat}(hes : ∀r∈rows,r.length=es)(hn:rows.length=n)(KD:n<=maxLen)(hp:0<n)(hy:CV x w (.cp rows.flatten 0) (a.eval y)):Bm P o a S0 w0 x w H (.c (.sl rows)) none:=by
 simp only[CV]at hy;obtain⟨b,o',hy,hr⟩:=hy;refine Bm.pure g (u:=.slice (some ⟨b,o',none⟩) n n) ?_ ?_
 . have : ¬n=0:=by omega
   simp[execOp,ho,hy,Instr.sliceAt,Instr.sureAddr,run_underlying h1,Instr.sliceBounds,hsz,Addr.add,this]
 . simp only[CV,Ap];exact⟨_,n,by rw[hn],by omega,KD,fun _=>⟨b,o',es,rfl,hes,Df.flat.2 hr⟩⟩
theorem AQc (name:ByteArray)(h:Hw JY name=true):AC AD 237 [.c (.str name)] (.c (.bool true)):=by
 have hc:=AAY JY name (by decide);have e:Jf name JY=true:=by
  simp only[Hw,JY,Z5,gj,gX,Qu,decide_eq_true_eq]at h;unfold JY;rcases h with h|h|h|h|h|h<;>(subst h;decide +kernel)
 rw[e]at hc;unfold DT JY at hc;simp only[Al,A8]at hc;refine en Tryz.func237 Tryz.ntmps237 ?_;refine wu (CJ.mk 2) (cj @Af.eq_1<|yN) trivial ⟨?_⟩;refine AW.AR 0 rfl (by simp[toCs,toC];exact rfl) (by simp[V.BG,V.AR];exact rfl) (by simp[O.AR,V.BG,V.AR];exact rfl) ?_;refine AW.DM ?_;refine SW.op (.c (.sl [[.str ⟨#[104,97,116]⟩],[.str ⟨#[98,97,114]⟩],[.str ⟨#[118,101,99]⟩],[.str ⟨#[100,111,116]⟩],[.str ⟨#[116,105,108,100,101]⟩],[.str ⟨#[99,104,101,99,107]⟩]])) rfl rfl ?_ ?_
 . intro S0 w0 x a w hA;exact AP6 (n:=6) (sz:=1) (te:=9) (es:=1) hA.1 rfl (by kernel_rfl) (fun w=>by kernel_rfl) (by simp) rfl (by unfold maxLen;omega) (by omega) (Hn hA.2 rfl)
 simp only[St.step,St.put,CG,Az,BC];refine SW.take 3 (AH.out ?_);simp only[List.take_succ_cons,List.take_zero];have ff:=(cj @Af.eq_1<|yN)
 repeat any_goals (first|refine CC ?_|exact Bq ff|refine Bt ff ?_|refine A4 ff (hc) ?_|refine Bi ff ?_)
 simp only[Be,BO];refine SW.nil ?_;exact wz (cj @Af.eq_1<|yN) trivial
theorem zf (f:AI)(name:ByteArray)(p:Int)(hf:f.Fit)(hv:f.valid=true)(h1:1<=p)(h2:p<=1000):AC AD 239 [.agg f.vs,.c (.str name),.c (.int .i64 p)] (.c (.int .i64 (scale (f.pick name).attach p))):=by
 have Ft:=ZX f name hf.1;have hsc:=nQ (f.pick name) p;rw[AGA hv h1 h2 name]at hsc;obtain⟨G,hG⟩:=AE (f.pick name);rw[hG]at Ft hsc ⊢;simp only[VF,Dp,Ag.row,Ag.scaled,Af,Al,A8]at Ft hsc;refine en Tryz.func239 Tryz.ntmps239 ?_;exact wz (cj @Af.eq_1<|Tryz.results239) (cj Ft<|cj hsc<|trivial)
def wS (o:Option AA):V:=.Bk [.agg (o.getD AA.zero).vs,.c (.bool o.isSome)]
theorem ATo : ∀(b g:AA),b.EE=true->b.simp=some g->g.Fk:=fun b g h hs=>vY g (wT b g h hs).1
mutual
theorem AGM : ∀(b g:AA),b.simp=some g->g.cnt<=b.cnt
 | ⟨k,n,s,w,h,d,x,y,kids,o,src⟩,g,hs=>by
   simp only[AA.simp]at hs;split at hs
   . cases hs;exact Nat.le_refl _
   . split at hs
     . have:=ATn kids g hs;simp only[AA.cnt];omega
     . cases hs
theorem ATn : ∀(l:List AA) (g:AA),AA.N7 l=some g->g.cnt<=AA.A9 l
 | [],g,hs=>by cases hs
 | c::l,g,hs=>by
   match l,hs with
   | [],hs =>
     simp only[AA.N7]at hs;split at hs
     . have:=AGM c g hs;simp only[AA.A9];omega
     . cases hs
   | _::_,hs=>cases hs
end
theorem ARq (b:AA)(hb:b.Av=true):AC AD 299 [BD b] (wS b.simp):=by
 have hin:=vV b;rw[Ay];unfold wS;have hb':=hb;simp only[AA.Av,Bool.and_eq_true,decide_eq_true_eq]at hb';cases hs:b.simp with
 | none =>
   rw[hs]at hin;simp only[N4]at hin;simp only[Gl,H7];refine en Tryz.func299 Tryz.ntmps299 ?_;refine wu (CJ.mk 1) (cj @Af.eq_1<|bB) trivial ⟨?_⟩;refine AW.AR 0 rfl (by simp[toCs,toC];exact rfl) (by simp[V.BG,V.AR];exact rfl) (by simp[O.AR,V.BG,V.AR];exact rfl) ?_;refine wu (CJ.mk 2) bB (cj hin<|trivial) ⟨?_⟩;with_reducible refine AW.DM ?_
   refine SW.take 1 ?_;with_reducible refine Bw (by simp[Ao];first|exact rfl|exact⟨rfl,rfl⟩) ?_
   refine B9 ?_;simp only[Be,BO];refine SW.Za (b:=true) (res:=false) rfl (.inr ⟨rfl,rfl⟩) (by kernel_rfl) rfl rfl rfl (.inl ⟨rfl,rfl⟩) ?_;simp only[St.step,St.put,CG,Az,BC];refine SW.nil ?_;exact wz (cj @Af.eq_1<|cj @Eo<|bB) trivial
 | some g =>
   have hd:=ra g (ATo b g hb'.1 hs) (by have:=AGM b g hs;omega);rw[hs]at hin;simp only[N4]at hin;rw[Ay]at hd;simp only[EM,Hg];refine en Tryz.func299 Tryz.ntmps299 ?_;refine wu (CJ.mk 1) (cj @Af.eq_1<|bB) trivial ⟨?_⟩;refine AW.AR 0 rfl (by simp[toCs,toC];exact rfl) (by simp[V.BG,V.AR];exact rfl) (by simp[O.AR,V.BG,V.AR];exact rfl) ?_;refine wu (CJ.mk 2) bB (cj hin<|trivial) ⟨?_⟩;with_reducible refine AW.DM ?_
   refine SW.take 1 ?_;with_reducible refine Bw (by simp[Ao];first|exact rfl|exact⟨rfl,rfl⟩) ?_
   refine B9 ?_;simp only[Be,BO];refine SW.Za (b:=true) (res:=true) rfl (.inr ⟨rfl,rfl⟩) (by kernel_rfl) rfl rfl rfl (.inr ⟨⟨_,_,rfl⟩,rfl⟩) ?_;simp only[St.step,St.put,CG,Az,BC];refine SW.nil ?_;exact wz (cj @Af.eq_1<|bB) (cj hd<|trivial)
theorem AQZ (f:AI)(b:AA)(hf:f.Fit)(hv:f.valid=true)(hb:b.Av=true)(ho:b.Bc):AC AD 238 [.agg f.vs,BD b] (.c (.int .i64 (atR f b))):=by
 have ED:=Mv f;rw[hv]at ED;have Cd:=D2 b ho (by have:=(DS hb).2.2.2;omega);rw[hb]at Cd;have Rb:=ARq b hb;have e:atR f b=match b.simp with|some g=>scale (f.pick g.name).attach g.size|none=>half b.w:=rfl
 rw[e];rw[Ay]at *
 unfold wS at Rb;cases hs:b.simp with
 | none =>
   rw[hs]at Rb;simp only[Gl,H7]at Rb;refine en Tryz.func238 Tryz.ntmps238 ?_;exact wz (cj @Af.eq_1<|cj @Eo<|Tryz.results238) (cj ED<|cj Cd<|cj Rb<|cj (KM b.w)<|trivial)
 | some g =>
   obtain⟨z1,z2⟩:=nT hb hs;rw[hs]at Rb;simp only[EM,Hg]at Rb;have hat:=zf f g.name g.size hf hv z1 z2;obtain⟨k,n,sz,w,h,d,x,y,kids,o,src⟩:=g;simp only[AA.vs,AA.row,Al,A8]at Rb hat ⊢;refine en Tryz.func238 Tryz.ntmps238 ?_;exact wz (cj @Af.eq_1<|Tryz.results238) (cj ED<|cj Cd<|cj Rb<|cj hat<|trivial)
theorem AQj (f:AI)(s:AM)(name:ByteArray)(b:AA)(hf:f.Fit)(hv:f.valid=true)(ho:s.ok=true)(hb:b.Av=true)(ob:b.Bc)(hn:Hw JY name=true):AC AD 167 [.agg f.vs,Ai s,.c (.str name),BD b] (Bd (Cm (Na f s name b (Cl f name (BK f.params s)).1))):=by
 obtain⟨bw,bh,bd,bn⟩:=DS hb;obtain⟨p1,p2⟩:=GD hv ho;have Cd:=D2 b ob (by omega);rw[hb]at Cd;have Cq:=KL f s;rw[show Ha f s=(BK f.params s,0)from if_neg (by simp[hv,ho])]at Cq;have Cs:=AQc name hn;have Nk:=kW f name (BK f.params s) hf.1;rw[show Oa f name (BK f.params s)=Cl f name (BK f.params s)from if_pos hv]at Nk;have KF:name.size<=16:=by
  simp only[Hw,JY,Z5,gj,gX,Qu,decide_eq_true_eq]at hn;rcases hn with h|h|h|h|h|h<;>(subst h;decide)
 obtain⟨sg,sk,sc⟩:=fx hv p1 p2 KF;have sz0:=(N8 hv p1 p2 name).1;have Is:(Cl f name (BK f.params s))=((Cl f name (BK f.params s)).1,0):=by rw[sz0]
 rw[Is]at Nk;have WT:=Dn f.params.OO (BK f.params s);have bA:=DA (p:=BK f.params s) f.params.OO (by omega) p2;have hAt:=AQZ f b hf hv hb ob;have DO : -1073741824<=atR f b/\atR f b<=1073741824:=by
  unfold atR;split
  . rename_i g hs;obtain⟨z1,z2⟩:=nT hb hs;unfold scale;split
    . rename_i hh;have Jh:=PH hv g.name;unfold Ag.Small at Jh;have:=PA (f.pick g.name).attach g.size 20000 1000 (by omega) (by omega) (by omega) (by omega);unfold FI;split<;>omega
    . omega
  . exact JI _
 have hat:=zf f name (BK f.params s) hf hv p1 (by omega);have zm:=DA (p:=BK f.params s) (f.pick name).attach (by omega) p2;obtain⟨S,hS⟩:=AE ((Cl f name (BK f.params s)).1);rw[hS]at Nk sg ⊢;have eB:Na f s name b S=CB (mx (mx 0 (SZ f s name b+Pv f s name b+S.w)) (Pv f s name b+b.w)) (mx b.h (SY f s b+S.h)) (mx b.d (S.d - SY f s b)) [S.at_ (SZ f s name b+Pv f s name b) (SY f s b),b.at_ (Pv f s name b) 0]:=rfl;have eX:SZ f s name b=atR f b - scale (f.pick name).attach (BK f.params s):=rfl;have eM:Pv f s name b=mx 0 (-(SZ f s name b)):=rfl;have eU:SY f s b=b.h - mn b.h (scale f.params.OO (BK f.params s)):=rfl;rw[eB];clear eB;obtain⟨X,hX⟩:=AE (SZ f s name b);obtain⟨M,hM⟩:=AE (Pv f s name b);obtain⟨U,hU⟩:=AE (SY f s b);rw[hX]at eX eM ⊢;rw[hM]at eM ⊢;rw[hU]at eU ⊢;obtain⟨P,hP⟩:=AE (BK f.params s);rw[hP]at Cq Nk WT bA hat zm eX eU p1 p2;obtain⟨Ty,ABW⟩:=AE (scale f.params.OO P);obtain⟨AT,hAT⟩:=AE (scale (f.pick name).attach P);obtain⟨AB,hAB⟩:=AE (atR f b);rw[ABW]at WT bA eU;rw[hAT]at hat zm eX;rw[hAB]at hAt DO eX;have fm:(if Ty<b.h then Ty else b.h)=mn b.h Ty:=rfl;have bm : -1073741824<=mn b.h Ty/\mn b.h Ty<=1073741824:=by rw[show mn b.h Ty=min b.h Ty by unfold mn;omega];omega
 obtain⟨MN,hMN⟩:=AE (mn b.h Ty);rw[hMN]at fm bm eU;have fU:b.h - MN=U:=eU.symm;have fX:AB - AT=X:=eX.symm;have fM:(if X<0 then -X else 0)=M:=by rw[eM,D6];split<;>omega
 have bX : -2147483648<=X/\X<=2147483648:=by omega
 have bU : -2147483648<=U/\U<=2147483648:=by omega
 have bM:0<=M/\M<=2147483648:=by rw[eM,D6];omega
 clear hX hM hU hP ABW hAT hAB hMN hS Is sz0;obtain⟨sd,so,sf,scn,sh1,sh2,sd1,sd2,sw1,sw2⟩:=sg;have a0:=Gc S (X+M) U (by cases S;simp only[AA.Fk]at sd;exact sd.1);have a1:=Gc b M 0 (Me hb);have hex:=mZ [S.at_ (X+M) U,b.at_ M 0] (by simp) (by
  intro c hc;simp only[List.mem_cons,List.not_mem_nil,or_false]at hc;rcases hc with rfl|rfl
  . constructor<;>(unfold Qo;simp only[br,bq,bp,bu,bz];omega)
  . constructor<;>(unfold Qo;simp only[br,bq,bp,bu,bz];omega))
 have eE:EN [S.at_ (X+M) U,b.at_ M 0]=(mn (X+M) M,mx (X+M+S.w) (M+b.w),mx (U+S.h) (0+b.h),mx (S.d - U) (b.d - 0)):=rfl;rw[eE,Int.zero_add,Int.sub_zero]at hex;unfold Ym at hex;have eW:mx (mx 0 (X+M+S.w)) (M+b.w)=mx 0 (mx (X+M+S.w) (M+b.w)):=by simp only[D6];omega
 have eH:mx b.h (U+S.h)=mx (U+S.h) b.h:=by simp only[D6];omega
 have eD:mx b.d (S.d - U)=mx (S.d - U) b.d:=by simp only[D6];omega
 rw[eW,eH,eD];have fW:(if 0<mx (X+M+S.w) (M+b.w)then mx (X+M+S.w) (M+b.w)else 0)=mx 0 (mx (X+M+S.w) (M+b.w)):=rfl;obtain⟨E0,h0⟩:=AE (mn (X+M) M);obtain⟨E1,h1⟩:=AE (mx (X+M+S.w) (M+b.w));obtain⟨E2,h2⟩:=AE (mx (U+S.h) b.h);obtain⟨E3,h3⟩:=AE (mx (S.d - U) b.d);rw[h0,h1,h2,h3]at hex;rw[h1]at fW ⊢;rw[h2,h3];obtain⟨E4,h4⟩:=AE (mx 0 E1);rw[h4]at fW ⊢;clear h0 h1 h2 h3 h4 eE eW eH eD eX eM eU;have BL:=MX E4 E2 E3 [S.at_ (X+M) U,b.at_ M 0] ⟨GH _ _ sd,GH _ _ (Fz hb),trivial⟩ (by simp only[AA.A9,GW];omega);have Cw:=D2 (CB E4 E2 E3 [S.at_ (X+M) U,b.at_ M 0]) ⟨(Cc _:0<=maxLen),(Cc _:0<=maxLen),FA _ _ so,FA _ _ ob,trivial⟩ (by simp only[CB,AA.cnt,AA.A9,GW];omega);obtain⟨Z,hZ⟩:=AE (CB E4 E2 E3 [S.at_ (X+M) U,b.at_ M 0]);rw[hZ]at BL Cw ⊢;clear hZ;obtain⟨A0,m0⟩:=AE (S.at_ (X+M) U);obtain⟨A1,m1⟩:=AE (b.at_ M 0);rw[m0]at a0 BL hex;rw[m1]at a1 BL hex;clear m0 m1;unfold Ai at *
 simp only[AA.rows,Ay,Af,Bd]at Cq Nk BL Cw Cd hAt a0 a1 hex ⊢;unfold Cm;refine en Tryz.func167 Tryz.ntmps167 ?_;have ff:=(cj @fm<|cj @fU<|cj @fX<|cj @fM<|cj @fW<|cj @Bd.eq_1<|cj @Ay<|cj @Af.eq_1<|cj @Eo<|Tryz.results167)
 repeat any_goals (first|refine CC ?_|exact Bq ff|refine Bt ff ?_|refine A4 ff (Cq) ?_|refine A4 ff (Cd) ?_|refine A4 ff (Cs) ?_|refine A4 ff (Nk) ?_|refine A4 ff (WT) ?_|refine A4 ff (hAt) ?_|refine A4 ff (hat) ?_|refine A4 ff (a0) ?_|refine A4 ff (a1) ?_|refine A4 ff (hex) ?_|refine A4 ff (BL) ?_|refine A4 ff (Cw) ?_|refine Bi ff ?_|((first|refine By ff ?_ ?_|refine B4 ff ?_ ?_|refine Bz ff ?_ ?_|refine B3 ff ?_ ?_)<;>intro h<;>try (exfalso;first|omega|contradiction)))
end Go.Proofs.YtpodcjcajanldaaGreat
