/- Part of the proof of breakpointPieces.proved. Conditions: none. -/
import Derived.Test.YtegconioojpgmaaGreatY13
set_option linter.unusedVariables false
set_option linter.unusedSimpArgs false
set_option maxRecDepth 100000
set_option maxHeartbeats 16000000
open Go.Proofs.Tryz renaming prog->AF,func136->Aam,ntmps136->AiW,results136->Aik,func135->aS,ntmps135->AiU,results135->Aij
open List renaming not_mem_nil->RE,getD_cons_zero->On,getD_cons_succ->Om
open Bool renaming true->I
open List renaming length->G
namespace Go.Proofs.YtegconioojpgmaaGreat
open Go.RowKit Tryz
theorem AY0 {s:Aa}(H:s.ok=I):(Kf s).ok=true:=by
 have B:s.By=0\/s.By=1\/s.By=2\/s.By=3:=by simp[Aa.ok]at H;omega
 unfold Kf GB;obtain⟨l,c⟩:=s;simp only at B;rcases B with rfl|rfl|rfl|rfl<;>simp[Aa.ok,VU]
theorem AHz {f:AP}{b:AA}(K:f.valid=I)(hb:b.Ad=I):0<=F8 f b/\F8 f b<=1073741824:=by
 unfold F8;split;rename_i g H;obtain⟨Q,R⟩:=tA hb H;rw[DU];unfold AU;split;rename_i M;have B:=Ql K g.name;unfold BG.Small at B;have:=Qh (f.pick g.name).Ey g.size 20000 1000 Ux Ux Ux Ux;unfold Ea;split<;>omega;omega;omega
theorem ABm {f:AP}{s:Aa}{b:AA}{sub sup:List AA}(Q:f.valid=I)(M:s.ok=I)(hb:b.Ad=I)(l1:G sub<=1)(l2:G sup<=1)(H : ∀c∈sub,c.Ad=I)(K : ∀c∈sup,c.Ad=I) :
 (-100000000000<=(Ez f s b sub sup).1/\(Ez f s b sub sup).1<=100000000000)/\ -100000000000<=(Ez f s b sub sup).2/\(Ez f s b sub sup).2<=100000000000:=by
 obtain⟨p1,B⟩:=HE Q M;obtain⟨bw,bh,bd,bc⟩:=D3 hb;obtain⟨q1,q2⟩:=HE Q (AY0 M);have wV:=DM (p:=BS f.params (Kf s)) f.params.Q5 Ux q2;have wW:=DM (p:=BS f.params (Kf s)) f.params.Qz Ux q2;have bU : -2147483648<=Qs f s b/\Qs f s b<=2147483648:=by unfold Qs;split<;>omega
 have bV : -2147483648<=Od f s b/\Od f s b<=2147483648:=by unfold Od;split<;>omega
 have bR:=DM (p:=BS f.params s) (XO f.params s) Ux B;have wS:=DM (p:=BS f.params s) f.params.Qx Ux B;have wT:=DM (p:=BS f.params s) f.params.Qy Ux B;have wR:=DM (p:=BS f.params s) f.params.rule Ux B;have iX:=DM (p:=25) (M1 f s) Ux Ux;have wP:=DM (p:=80) (M1 f s) Ux Ux;have S : -2147483648<=Nm f s b/\Nm f s b<=2147483648:=by unfold Nm;rw[DU];omega
 have bL : -4294967296<=Sb f s/\Sb f s<=4294967296:=by unfold Sb;omega
 match sub,sup,l1,l2 with
 | [],[],_,_=>simp only[Ez,H0];omega
 | [],[d],_,_=>obtain⟨dw,dh,dd,_⟩:=D3 (K d ZA);simp only[Ez,H0,DU];omega
 | [c],[],_,_=>obtain⟨z,q,o,_⟩:=D3 (H c ZA);simp only[Ez,H0,DU];omega
 | [c],[d],_,_ =>
   obtain⟨z,q,o,_⟩:=D3 (H c ZA);obtain⟨dw,dh,dd,_⟩:=D3 (K d ZA);have R : -4294967296<=H0 f s b [d]/\H0 f s b [d]<=4294967296:=by simp only[H0,DU];omega
   simp only[Ez];unfold s8 s9;split;split<;>(simp only;omega);simp only;omega
theorem AWD (f:AP)(s:Aa)(b:AA)(sub sup:List AA)(hf:f.Fit)(hv:f.valid=true)(ho:s.ok=true)(hb:b.Ad=true)(ob:b.BX)(l1:G sub<=1)(l2:G sup<=1)(h1 : ∀c∈sub,c.Ad=true/\c.BX)(h2 : ∀c∈sup,c.Ad=true/\c.BX):AC AF 136 [.agg f.vs,Aj s,Ao b,.c (.sl (AA.AG sub)),.c (.sl (AA.AG sup))] (Ba (C8 (Oc f s b sub sup))):=by
 have g1:=λc hc=>(h1 c hc).1
 have g2:=λc hc=>(h2 c hc).1
 obtain⟨bw,bh,bd,bn⟩:=D3 hb;obtain⟨p1,p2⟩:=HE hv ho;have vb:=EL b ob Ux;rw[hb]at vb;have C3:=LI f s;rw[show IT f s=(BS f.params s,0)from Awf (by simp[hv,ho])]at C3;have s1:=fK sub Ux h1;have s2:=fK sup Ux h2;have R0:=ABH f s b sub sup hv ho hb l1 l2 g1 g2;have ig:=ABm hv ho hb l1 l2 g1 g2;have Q:=ku f b hf hv hb ob;have bit:=AHz (f:=f) (b:=b) hv hb;have eK:eu f s b sub sup=b.AS 0 0::((match (generalizing:=false) sub with | []=>[]|c::_=>[c.AS (b.w - F8 f b) (-(Ez f s b sub sup).2)])++(match (generalizing:=false) sup with | []=>[]|c::_=>[c.AS b.w (Ez f s b sub sup).1])):=F;unfold Oc;rw[eK];clear eK;obtain⟨u,hu⟩:=AI ((Ez f s b sub sup).1);obtain⟨v,FQ⟩:=AI ((Ez f s b sub sup).2);obtain⟨I,hI⟩:=AI (F8 f b);rw[hu,FQ]at R0 ig ⊢;rw[hI]at Q bit ⊢;clear hu FQ hI;have q:=Gu b 0 0 (Nn hb);have SF:(2:Nat)<=maxLen:=by unfold maxLen;omega
 have SG:(3:Nat)<=maxLen:=by unfold maxLen;omega
 have z0:(0:Nat)<=maxLen:=CI _;match sub,sup,l1,l2 with
 | [],[],_,_ =>
   have H:=kq [b.AS 0 0] ZA (by
    intro x hx;simp only[Cf,RE,Awj]at hx;rcases hx with rfl
    all_goals (constructor<;>(unfold Oi;simp only[iU,iT,iS,iV,iW];omega)))
   dsimp only[List.cons_append,List.nil_append];obtain⟨⟨E0,R,S,o⟩,hE⟩:=AI (DQ [b.AS 0 0]);rw[hE]at H ⊢;clear hE;have K:=My R S o [b.AS 0 0] ⟨HJ _ _ (GD hb),trivial⟩ (by simp only[AA.Az,Hb];omega);have M:=EL (Bf R S o [b.AS 0 0]) ⟨z0,z0,F4 _ _ ob,trivial⟩ (by simp only[Bf,AA.cnt,AA.Az,Hb];omega);obtain⟨A0,z⟩:=AI (b.AS 0 0);rw[z]at q H K M ⊢;obtain⟨Z,hZ⟩:=AI (Bf R S o [A0]);dsimp only;rw[hZ]at K M ⊢;clear hZ z;unfold Aj YG at *
   simp only[AA.AG,As,AR,Ba]at R0 K M H q vb C3 s1 s2 Q ⊢;unfold C8;refine en Aam AiW ?_;have B:=(cj6 @SF @SG @Ba.eq_1 @As @AR.eq_1 @Fl Aik)
   repeat any_goals (first|refine Eo ?_|exact Bt B|(with_reducible refine LA.loop (LA.round ?_))|(with_reducible refine LA.round ?_)|refine De B ?_|refine BV B (C3) ?_|refine BV B (vb) ?_|refine BV B (s1) ?_|refine BV B (s2) ?_|refine BV B (R0) ?_|refine BV B (Q) ?_|refine BV B (q) ?_|refine BV B (H) ?_|refine BV B (K) ?_|refine BV B (M) ?_|refine DI B ?_|((first|refine JC B ?_ ?_|refine JE B ?_ ?_|refine JD B ?_ ?_|refine JY B ?_ ?_)<;>intro h<;>try (exfalso;first|omega|contradiction)))
 | [],[d],_,_ =>
   obtain⟨hd,od⟩:=h2 d ZA;obtain⟨dw,dh,dd,dn⟩:=D3 hd;have a2:=Gu d b.w u (Nn hd);have H:=kq [b.AS 0 0,d.AS b.w u] ZA (by
    intro x hx;simp only[Cf,RE,Awj]at hx;rcases hx with rfl|rfl
    all_goals (constructor<;>(unfold Oi;simp only[iU,iT,iS,iV,iW];omega)))
   dsimp only[List.cons_append,List.nil_append];obtain⟨⟨E0,R,S,o⟩,hE⟩:=AI (DQ [b.AS 0 0,d.AS b.w u]);rw[hE]at H ⊢;clear hE;have K:=My R S o [b.AS 0 0,d.AS b.w u] ⟨HJ _ _ (GD hb),HJ _ _ (GD hd),trivial⟩ (by simp only[AA.Az,Hb];omega);have M:=EL (Bf R S o [b.AS 0 0,d.AS b.w u]) ⟨z0,z0,F4 _ _ ob,F4 _ _ od,trivial⟩ (by simp only[Bf,AA.cnt,AA.Az,Hb];omega);obtain⟨A0,z⟩:=AI (b.AS 0 0);rw[z]at q H K M ⊢;obtain⟨A2,kX⟩:=AI (d.AS b.w u);rw[kX]at a2 H K M ⊢;obtain⟨Z,hZ⟩:=AI (Bf R S o [A0,A2]);dsimp only;rw[hZ]at K M ⊢;clear hZ z kX;unfold Aj YG at *
   simp only[AA.AG,As,AR,Ba]at R0 K M H q a2 vb C3 s1 s2 Q ⊢;unfold C8;refine en Aam AiW ?_;have B:=(cj6 @SF @SG @Ba.eq_1 @As @AR.eq_1 @Fl Aik)
   repeat any_goals (first|refine Eo ?_|exact Bt B|(with_reducible refine LA.loop (LA.round ?_))|(with_reducible refine LA.round ?_)|refine De B ?_|refine BV B (C3) ?_|refine BV B (vb) ?_|refine BV B (s1) ?_|refine BV B (s2) ?_|refine BV B (R0) ?_|refine BV B (Q) ?_|refine BV B (q) ?_|refine BV B (a2) ?_|refine BV B (H) ?_|refine BV B (K) ?_|refine BV B (M) ?_|refine DI B ?_|((first|refine JC B ?_ ?_|refine JE B ?_ ?_|refine JD B ?_ ?_|refine JY B ?_ ?_)<;>intro h<;>try (exfalso;first|omega|contradiction)))
 | [c],[],_,_ =>
   obtain⟨hc,oc⟩:=h1 c ZA;obtain⟨cw,ch,cd,cn⟩:=D3 hc;have a1:=Gu c (b.w - I) (-v) (Nn hc);have H:=kq [b.AS 0 0,c.AS (b.w - I) (-v)] ZA (by
    intro x hx;simp only[Cf,RE,Awj]at hx;rcases hx with rfl|rfl
    all_goals (constructor<;>(unfold Oi;simp only[iU,iT,iS,iV,iW];omega)))
   dsimp only[List.cons_append,List.nil_append];obtain⟨⟨E0,R,S,o⟩,hE⟩:=AI (DQ [b.AS 0 0,c.AS (b.w - I) (-v)]);rw[hE]at H ⊢;clear hE;have K:=My R S o [b.AS 0 0,c.AS (b.w - I) (-v)] ⟨HJ _ _ (GD hb),HJ _ _ (GD hc),trivial⟩ (by simp only[AA.Az,Hb];omega);have M:=EL (Bf R S o [b.AS 0 0,c.AS (b.w - I) (-v)]) ⟨z0,z0,F4 _ _ ob,F4 _ _ oc,trivial⟩ (by simp only[Bf,AA.cnt,AA.Az,Hb];omega);obtain⟨A0,z⟩:=AI (b.AS 0 0);rw[z]at q H K M ⊢;obtain⟨A1,Lz⟩:=AI (c.AS (b.w - I) (-v));rw[Lz]at a1 H K M ⊢;obtain⟨Z,hZ⟩:=AI (Bf R S o [A0,A1]);dsimp only;rw[hZ]at K M ⊢;clear hZ z Lz;unfold Aj YG at *
   simp only[AA.AG,As,AR,Ba]at R0 K M H q a1 vb C3 s1 s2 Q ⊢;unfold C8;refine en Aam AiW ?_;have B:=(cj6 @SF @SG @Ba.eq_1 @As @AR.eq_1 @Fl Aik)
   repeat any_goals (first|refine Eo ?_|exact Bt B|(with_reducible refine LA.loop (LA.round ?_))|(with_reducible refine LA.round ?_)|refine De B ?_|refine BV B (C3) ?_|refine BV B (vb) ?_|refine BV B (s1) ?_|refine BV B (s2) ?_|refine BV B (R0) ?_|refine BV B (Q) ?_|refine BV B (q) ?_|refine BV B (a1) ?_|refine BV B (H) ?_|refine BV B (K) ?_|refine BV B (M) ?_|refine DI B ?_|((first|refine JC B ?_ ?_|refine JE B ?_ ?_|refine JD B ?_ ?_|refine JY B ?_ ?_)<;>intro h<;>try (exfalso;first|omega|contradiction)))
 | [c],[d],_,_ =>
   obtain⟨hc,oc⟩:=h1 c ZA;obtain⟨cw,ch,cd,cn⟩:=D3 hc;have a1:=Gu c (b.w - I) (-v) (Nn hc);obtain⟨hd,od⟩:=h2 d ZA;obtain⟨dw,dh,dd,dn⟩:=D3 hd;have a2:=Gu d b.w u (Nn hd);have H:=kq [b.AS 0 0,c.AS (b.w - I) (-v),d.AS b.w u] ZA (by
    intro x hx;simp only[Cf,RE,Awj]at hx;rcases hx with rfl|rfl|rfl
    all_goals (constructor<;>(unfold Oi;simp only[iU,iT,iS,iV,iW];omega)))
   dsimp only[List.cons_append,List.nil_append];obtain⟨⟨E0,R,S,o⟩,hE⟩:=AI (DQ [b.AS 0 0,c.AS (b.w - I) (-v),d.AS b.w u]);rw[hE]at H ⊢;clear hE;have K:=My R S o [b.AS 0 0,c.AS (b.w - I) (-v),d.AS b.w u] ⟨HJ _ _ (GD hb),HJ _ _ (GD hc),HJ _ _ (GD hd),trivial⟩ (by simp only[AA.Az,Hb];omega);have M:=EL (Bf R S o [b.AS 0 0,c.AS (b.w - I) (-v),d.AS b.w u]) ⟨z0,z0,F4 _ _ ob,F4 _ _ oc,F4 _ _ od,trivial⟩ (by simp only[Bf,AA.cnt,AA.Az,Hb];omega);obtain⟨A0,z⟩:=AI (b.AS 0 0);rw[z]at q H K M ⊢;obtain⟨A1,Lz⟩:=AI (c.AS (b.w - I) (-v));rw[Lz]at a1 H K M ⊢;obtain⟨A2,kX⟩:=AI (d.AS b.w u);rw[kX]at a2 H K M ⊢;obtain⟨Z,hZ⟩:=AI (Bf R S o [A0,A1,A2]);dsimp only;rw[hZ]at K M ⊢;clear hZ z Lz kX;unfold Aj YG at *
   simp only[AA.AG,As,AR,Ba]at R0 K M H q a1 a2 vb C3 s1 s2 Q ⊢;unfold C8;refine en Aam AiW ?_;have B:=(cj6 @SF @SG @Ba.eq_1 @As @AR.eq_1 @Fl Aik)
   repeat any_goals (first|refine Eo ?_|exact Bt B|(with_reducible refine LA.loop (LA.round ?_))|(with_reducible refine LA.round ?_)|refine De B ?_|refine BV B (C3) ?_|refine BV B (vb) ?_|refine BV B (s1) ?_|refine BV B (s2) ?_|refine BV B (R0) ?_|refine BV B (Q) ?_|refine BV B (q) ?_|refine BV B (a1) ?_|refine BV B (a2) ?_|refine BV B (H) ?_|refine BV B (K) ?_|refine BV B (M) ?_|refine DI B ?_|((first|refine JC B ?_ ?_|refine JE B ?_ ?_|refine JD B ?_ ?_|refine JY B ?_ ?_)<;>intro h<;>try (exfalso;first|omega|contradiction)))
theorem v5 (f:AP)(s:Aa)(b:AA)(sub sup:List AA)(hf:f.Fit)(hv:f.valid=I)(ho:s.ok=I)(hb:b.Ad=I)(ob:b.BX)(l1:G sub<=1)(l2:G sup<=1)(h1 : ∀c∈sub,c.Ad=I/\c.BX)(h2 : ∀c∈sup,c.Ad=I/\c.BX):AC AF 135 [.agg f.vs,Aj s,Ao b,.c (.sl (AA.AG sub)),.c (.sl (AA.AG sup))] (Ba (C8 (OP f s b sub sup))):=by
 obtain⟨bw,bh,bd,bn⟩:=D3 hb;have vb:=EL b ob Ux;rw[hb]at vb;obtain⟨p1,p2⟩:=HE hv ho;have C3:=LI f s;rw[show IT f s=(BS f.params s,0)from Awf (by simp[hv,ho])]at C3;have R:=ku f b hf hv hb ob;have J8:=Ke (F8 f b);rw[show Bm (F8 f b)=Jk f b from rfl]at J8;have Q:=ATJ f s b sub sup hb l1 l2 (λc q=>(h1 c q).1) λc q=>(h2 c q).1
 have hq:=EI f.params.Al (BS f.params s);have hQ:=λp=>EI (AU f.params.Al (BS f.params s)) p
 have bQ:=λp h=>DM (p:=p) (AU f.params.Al (BS f.params s)) h
 have o:AC _ _ _ (.c (.int .i64 (Gd f s 10))):=hQ 10;have A5:AC _ _ _ (.c (.int .i64 (Gd f s 17))):=hQ 17;have A3:AC _ _ _ (.c (.int .i64 (Gd f s 11))):=hQ 11;have Oz : -1073741824<=Gd f s 10/\Gd f s 10<=1073741824:=bQ 10 Ux Ux;have V7 : -1073741824<=Gd f s 17/\Gd f s 17<=1073741824:=bQ 17 Ux Ux;have V6 : -1073741824<=Gd f s 11/\Gd f s 11<=1073741824:=bQ 11 Ux Ux;have eB:OP f s b sub sup=Bf (Qe f s b sub sup) (match sup with | []=>b.h|c::_=>mx b.h (b.h+Gd f s 11+c.d+c.h+Gd f s 10)) (match sub with | []=>b.d|c::_=>mx b.d (b.d+Gd f s 17+c.h+c.d+Gd f s 10)) (b.AS ((VG f b sub sup).getD 0 0) 0::((match sub with | []=>[]|c::_=>[c.AS ((VG f b sub sup).getD 1 0) (-(b.d+Gd f s 17+c.h))])++(match sup with | []=>[]|c::_=>[c.AS ((VG f b sub sup).getD 2 0) (b.h+Gd f s 11+c.d)]))):=by
  match sub,sup with
  | [],[]=>rfl
  | [],_::_=>rfl
  | _::_,[]=>rfl
  | _::_,_::_=>rfl
 rw[eB];clear eB hQ bQ;obtain⟨E,hE⟩:=AI (Qe f s b sub sup);obtain⟨x0,x1,x2,hP⟩:∃x0 x1 x2,VG f b sub sup=[x0,x1,x2]:=⟨_,_,_,rfl⟩
 obtain⟨z,Qg⟩:=AI (Gd f s 10);obtain⟨oE,W8⟩:=AI (Gd f s 17);obtain⟨S,W7⟩:=AI (Gd f s 11);obtain⟨QD,mq⟩:=AI (AU f.params.Al (BS f.params s));rw[mq]at hq o A5 A3;rw[hE,hP]at Q ⊢;rw[Qg]at o Oz ⊢;rw[W8]at A5 V7 ⊢;rw[W7]at A3 V6 ⊢;clear hE hP Qg W8 W7 mq;have a0:=Gu b x0 0 (Nn hb);have H:=λh d K=>My E h d K
 have M:=λh d K=>EL (Bf E h d K)
 have SF:(2:Nat)<=maxLen:=by unfold maxLen;omega
 have SG:(3:Nat)<=maxLen:=by unfold maxLen;omega
 have z0:(0:Nat)<=maxLen:=CI _;match sub,sup,l1,l2 with
 | [],[],_,_ =>
   have H:=H b.h b.d [b.AS x0 0] ⟨HJ _ _ (GD hb),trivial⟩ (by simp only[AA.Az,Hb];omega);have M:=M b.h b.d [b.AS x0 0] ⟨z0,z0,F4 _ _ ob,trivial⟩ (by simp only[Bf,AA.cnt,AA.Az,Hb];omega);unfold Aj at *
   simp only[Ap,BB,On,Om,BU,BK]at Q ⊢;obtain⟨A0,Ly⟩:=AI (b.AS x0 0);rw[Ly]at a0 H M ⊢;obtain⟨Z,hZ⟩:=AI (Bf E b.h b.d [A0]);rw[hZ]at H M ⊢;clear hZ Ly;simp only[AA.AG,As,AR]at C3 Q H M R vb a0 ⊢;unfold C8;refine en aS AiU ?_;have B:=(cj6 @SF @SG @Ba.eq_1 @As @AR.eq_1 @Fl Aij)
   repeat any_goals (first|refine Eo ?_|exact Bt B|(with_reducible refine LA.loop (LA.round ?_))|(with_reducible refine LA.round ?_)|refine De B ?_|refine BV B (C3) ?_|refine BV B (vb) ?_|refine BV B (hq) ?_|refine BV B (o) ?_|refine BV B (R) ?_|refine BV B (J8) ?_|refine BV B (Q) ?_|refine BV B (a0) ?_|refine BV B (H) ?_|refine BV B (M) ?_|refine DI B ?_|((first|refine JC B ?_ ?_|refine JE B ?_ ?_|refine JD B ?_ ?_|refine JY B ?_ ?_)<;>intro h<;>try (exfalso;first|omega|contradiction)))
 | [],[d],_,_ =>
   obtain⟨hd,od⟩:=h2 d ZA;obtain⟨dw,dh,dd,dn⟩:=D3 hd;have vd:=EL d od Ux;rw[hd]at vd;have a2:=Gu d x2 (b.h+S+d.d) (Nn hd);have H:=H (mx b.h (b.h+S+d.d+d.h+z)) b.d [b.AS x0 0,d.AS x2 (b.h+S+d.d)] ⟨HJ _ _ (GD hb),HJ _ _ (GD hd),trivial⟩ (by simp only[AA.Az,Hb];omega);have M:=M (mx b.h (b.h+S+d.d+d.h+z)) b.d [b.AS x0 0,d.AS x2 (b.h+S+d.d)] ⟨z0,z0,F4 _ _ ob,F4 _ _ od,trivial⟩ (by simp only[Bf,AA.cnt,AA.Az,Hb];omega);unfold Aj at *
   simp only[Ap,BB,On,Om,BU,BK]at Q ⊢;obtain⟨A0,Ly⟩:=AI (b.AS x0 0);rw[Ly]at a0 H M ⊢;obtain⟨A2,kX⟩:=AI (d.AS x2 (b.h+S+d.d));rw[kX]at a2 H M ⊢;obtain⟨Z,hZ⟩:=AI (Bf E (mx b.h (b.h+S+d.d+d.h+z)) b.d [A0,A2]);rw[hZ]at H M ⊢;clear hZ Ly kX;simp only[AA.AG,As,AR]at C3 Q H M R vb vd a0 a2 ⊢;unfold C8;refine en aS AiU ?_;have B:=(cj7 @SF @SG @Yb @Ba.eq_1 @As @AR.eq_1 @Fl Aij)
   repeat any_goals (first|refine Eo ?_|exact Bt B|(with_reducible refine LA.loop (LA.round ?_))|(with_reducible refine LA.round ?_)|refine De B ?_|refine BV B (C3) ?_|refine BV B (vb) ?_|refine BV B (vd) ?_|refine BV B (hq) ?_|refine BV B (o) ?_|refine BV B (A3) ?_|refine BV B (R) ?_|refine BV B (J8) ?_|refine BV B (Q) ?_|refine BV B (a0) ?_|refine BV B (a2) ?_|refine BV B (H) ?_|refine BV B (M) ?_|refine DI B ?_|((first|refine JC B ?_ ?_|refine JE B ?_ ?_|refine JD B ?_ ?_|refine JY B ?_ ?_)<;>intro h<;>try (exfalso;first|omega|contradiction)))
 | [c],[],_,_ =>
   obtain⟨q,oc⟩:=h1 c ZA;obtain⟨cw,ch,cd,cn⟩:=D3 q;have vc:=EL c oc Ux;rw[q]at vc;have a1:=Gu c x1 (-(b.d+oE+c.h)) (Nn q);have H:=H b.h (mx b.d (b.d+oE+c.h+c.d+z)) [b.AS x0 0,c.AS x1 (-(b.d+oE+c.h))] ⟨HJ _ _ (GD hb),HJ _ _ (GD q),trivial⟩ (by simp only[AA.Az,Hb];omega);have M:=M b.h (mx b.d (b.d+oE+c.h+c.d+z)) [b.AS x0 0,c.AS x1 (-(b.d+oE+c.h))] ⟨z0,z0,F4 _ _ ob,F4 _ _ oc,trivial⟩ (by simp only[Bf,AA.cnt,AA.Az,Hb];omega);unfold Aj at *
   simp only[Ap,BB,On,Om,BU,BK]at Q ⊢;obtain⟨A0,Ly⟩:=AI (b.AS x0 0);rw[Ly]at a0 H M ⊢;obtain⟨A1,Lz⟩:=AI (c.AS x1 (-(b.d+oE+c.h)));rw[Lz]at a1 H M ⊢;obtain⟨Z,hZ⟩:=AI (Bf E b.h (mx b.d (b.d+oE+c.h+c.d+z)) [A0,A1]);rw[hZ]at H M ⊢;clear hZ Ly Lz;simp only[AA.AG,As,AR]at C3 Q H M R vb vc a0 a1 ⊢;unfold C8;refine en aS AiU ?_;have B:=(cj7 @SF @SG @Yb @Ba.eq_1 @As @AR.eq_1 @Fl Aij)
   repeat any_goals (first|refine Eo ?_|exact Bt B|(with_reducible refine LA.loop (LA.round ?_))|(with_reducible refine LA.round ?_)|refine De B ?_|refine BV B (C3) ?_|refine BV B (vb) ?_|refine BV B (vc) ?_|refine BV B (hq) ?_|refine BV B (o) ?_|refine BV B (A5) ?_|refine BV B (R) ?_|refine BV B (J8) ?_|refine BV B (Q) ?_|refine BV B (a0) ?_|refine BV B (a1) ?_|refine BV B (H) ?_|refine BV B (M) ?_|refine DI B ?_|((first|refine JC B ?_ ?_|refine JE B ?_ ?_|refine JD B ?_ ?_|refine JY B ?_ ?_)<;>intro h<;>try (exfalso;first|omega|contradiction)))
 | [c],[d],_,_ =>
   obtain⟨q,oc⟩:=h1 c ZA;obtain⟨cw,ch,cd,cn⟩:=D3 q;have vc:=EL c oc Ux;rw[q]at vc;obtain⟨hd,od⟩:=h2 d ZA;obtain⟨dw,dh,dd,dn⟩:=D3 hd;have vd:=EL d od Ux;rw[hd]at vd;have a1:=Gu c x1 (-(b.d+oE+c.h)) (Nn q);have a2:=Gu d x2 (b.h+S+d.d) (Nn hd);have H:=H (mx b.h (b.h+S+d.d+d.h+z)) (mx b.d (b.d+oE+c.h+c.d+z)) [b.AS x0 0,c.AS x1 (-(b.d+oE+c.h)),d.AS x2 (b.h+S+d.d)] ⟨HJ _ _ (GD hb),HJ _ _ (GD q),HJ _ _ (GD hd),trivial⟩ (by simp only[AA.Az,Hb];omega);have M:=M (mx b.h (b.h+S+d.d+d.h+z)) (mx b.d (b.d+oE+c.h+c.d+z)) [b.AS x0 0,c.AS x1 (-(b.d+oE+c.h)),d.AS x2 (b.h+S+d.d)] ⟨z0,z0,F4 _ _ ob,F4 _ _ oc,F4 _ _ od,trivial⟩ (by simp only[Bf,AA.cnt,AA.Az,Hb];omega);unfold Aj at *
   simp only[Ap,BB,On,Om,BU,BK]at Q ⊢;obtain⟨A0,Ly⟩:=AI (b.AS x0 0);rw[Ly]at a0 H M ⊢;obtain⟨A1,Lz⟩:=AI (c.AS x1 (-(b.d+oE+c.h)));rw[Lz]at a1 H M ⊢;obtain⟨A2,kX⟩:=AI (d.AS x2 (b.h+S+d.d));rw[kX]at a2 H M ⊢;obtain⟨Z,hZ⟩:=AI (Bf E (mx b.h (b.h+S+d.d+d.h+z)) (mx b.d (b.d+oE+c.h+c.d+z)) [A0,A1,A2]);rw[hZ]at H M ⊢;clear hZ Ly Lz kX;simp only[AA.AG,As,AR]at C3 Q H M R vb vc vd a0 a1 a2 ⊢;unfold C8;refine en aS AiU ?_;have B:=(cj7 @SF @SG @Yb @Ba.eq_1 @As @AR.eq_1 @Fl Aij)
   repeat any_goals (first|refine Eo ?_|exact Bt B|(with_reducible refine LA.loop (LA.round ?_))|(with_reducible refine LA.round ?_)|refine De B ?_|refine BV B (C3) ?_|refine BV B (vb) ?_|refine BV B (vc) ?_|refine BV B (vd) ?_|refine BV B (hq) ?_|refine BV B (o) ?_|refine BV B (A5) ?_|refine BV B (A3) ?_|refine BV B (R) ?_|refine BV B (J8) ?_|refine BV B (Q) ?_|refine BV B (a0) ?_|refine BV B (a1) ?_|refine BV B (a2) ?_|refine BV B (H) ?_|refine BV B (M) ?_|refine DI B ?_|((first|refine JC B ?_ ?_|refine JE B ?_ ?_|refine JD B ?_ ?_|refine JY B ?_ ?_)<;>intro h<;>try (exfalso;first|omega|contradiction)))
end Go.Proofs.YtegconioojpgmaaGreat
