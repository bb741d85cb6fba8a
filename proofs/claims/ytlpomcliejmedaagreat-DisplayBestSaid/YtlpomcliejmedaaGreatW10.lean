/- Part of the proof of displayBest.proved. Conditions: none. -/
import Derived.Test.YtlpomcliejmedaaGreatW8
set_option linter.unusedVariables false
set_option linter.unusedSimpArgs false
set_option maxRecDepth 100000
set_option maxHeartbeats 16000000
open Go.Proofs.Tryz renaming prog→AF,func309→fB,ntmps309→gW,results309→ADP,func260→fA,ntmps260→gL,results260→ADL
open List renaming map_cons→Ap,map_nil→BB,nil_append→BU,cons_append→BK,getD_cons_zero→On,getD_cons_succ→Om
namespace Go.Proofs.YtlpomcliejmedaaGreat
open Go.RowKit Tryz
theorem Zb (a b:Int):mn a b=min a b:=by unfold mn;omega
theorem Yb (a b:Int):(if a<b then b else a)=mx a b:=rfl
theorem et (a b:Int):(if b<a then b else a)=mn a b:=rfl
def VG (f:AP)(b:AA)(sub sup:List AA):List Int:=[HR f b sub sup - DY f b sub sup,(match sub with | []=>0|c::_=>Kd f b sub sup c) - DY f b sub sup,(match sup with | []=>0|c::_=>Kc f b sub sup c) - DY f b sub sup]
def Qe (f:AP)(s:Aa)(b:AA)(sub sup:List AA):Int:=kV (I4 b sub sup) (ri f s b sub sup)
theorem ATJ (f:AP)(s:Aa)(b:AA)(sub sup:List AA)(hb:b.Ad=true)(l1:sub.length<=1)(l2:sup.length<=1)(M : ∀c∈sub,c.Ad=true)(Q : ∀c∈sup,c.Ad=true):AC AF 309 [.agg [.c (.sl [b.row]),.c (.sl (AA.AG sub)),.c (.sl (AA.AG sup))],.c (.int .i64 (Jk f b))] (.A7 [.agg ((VG f b sub sup).map λn=>.c (.int .i64 n)),.c (.int .i64 (Qe f s b sub sup))]):=by
 obtain⟨bw,bh,z,bn⟩:=D3 hb;have bH : -1073741824<=Jk f b/\Jk f b<=1073741824:=J6 (F8 f b);have E : ∀c:AA,c.Ad=true-> -1073741824<=c.w/\c.w<=1073741824:=λc h=>(D3 h).1
 have hW:0<=I4 b sub sup/\I4 b sub sup<=1073741824:=by
  match sub,sup,l1,l2 with
  | [],[],_,_=>simp only[I4,IS,DU];omega
  | [],[d],_,_=>have:=E d (Q d (by simp));simp only[I4,IS,DU];omega
  | [c],[],_,_=>have:=E c (M c (by simp));simp only[I4,IS,DU];omega
  | [c],[d],_,_=>have:=E c (M c (by simp));have:=E d (Q d (by simp));simp only[I4,IS,DU];omega
 obtain⟨W,F⟩:=AI (I4 b sub sup);have I:=λ(c:AA)=>Ke (W - c.w)
 have J:=λ(c:AA)=>J6 (W - c.w)
 have R:=I b;have qb:=J b;unfold VG Qe ri DY HR Kd Kc;rw[F]at hW ⊢;generalize hH:Jk f b=H at bH ⊢;generalize hX:Bm (W - b.w)=X at R qb ⊢;match sub,sup,l1,l2 with
 | [],[],_,_ =>
   have U : -4294967296<=mn 0 X/\mn 0 X<=0:=by rw[Zb];omega
   simp only[I4,IS]at F;simp only[kV,AA.AG,Ap,BB,BU,iU,iV];refine en fB gW ?_;have B:=(cj4 @AR.eq_1 @Yb @et @F ADP)
   have K:=(cj R<|trivial)
   repeat any_goals (first|refine Du B K ⟨?_⟩|exact Bt B|(with_reducible refine LA.loop (LA.round ?_))|(with_reducible refine LA.round ?_)|(refine Dv B ?_ ?_<;>intro h<;>try exact Dw))
 | [],[d],_,_ =>
   have z:=E d (Q d (by simp));have S:=I d;have q:=J d;obtain⟨Y,G⟩:=AI (Bm (W - d.w));rw[G]at S q;have U : -4294967296<=mn (mn 0 X) (Y+H)/\mn (mn 0 X) (Y+H)<=0:=by simp only[Zb];omega
   simp only[I4,IS]at F;simp only[kV,AA.AG,Ap,BB,BU,iU,iV,G];clear I J E M Q;refine en fB gW ?_;have B:=(cj4 @AR.eq_1 @Yb @et @F ADP)
   have K:=(cj2 R S trivial)
   repeat any_goals (first|refine Du B K ⟨?_⟩|exact Bt B|(with_reducible refine LA.loop (LA.round ?_))|(with_reducible refine LA.round ?_)|(refine Dv B ?_ ?_<;>intro h<;>try exact Dw))
 | [c],[],_,_ =>
   have bc:=E c (M c (by simp));have pc:=I c;have o:=J c;obtain⟨Y,G⟩:=AI (Bm (W - c.w));rw[G]at pc o;have U : -4294967296<=mn (mn 0 X) (Y - H)/\mn (mn 0 X) (Y - H)<=0:=by simp only[Zb];omega
   simp only[I4,IS]at F;simp only[kV,AA.AG,Ap,BB,BK,BU,iU,iV,G];clear I J E M Q;refine en fB gW ?_;have B:=(cj4 @AR.eq_1 @Yb @et @F ADP)
   have K:=(cj2 R pc trivial)
   repeat any_goals (first|refine Du B K ⟨?_⟩|exact Bt B|(with_reducible refine LA.loop (LA.round ?_))|(with_reducible refine LA.round ?_)|(refine Dv B ?_ ?_<;>intro h<;>try exact Dw))
 | [c],[d],_,_ =>
   have bc:=E c (M c (by simp));have pc:=I c;have o:=J c;obtain⟨Y,G⟩:=AI (Bm (W - c.w));rw[G]at pc o;have z:=E d (Q d (by simp));have S:=I d;have q:=J d;obtain⟨Z,hZ⟩:=AI (Bm (W - d.w));rw[hZ]at S q;have U : -4294967296<=mn (mn (mn 0 X) (Y - H)) (Z+H)/\mn (mn (mn 0 X) (Y - H)) (Z+H)<=0:=by simp only[Zb];omega
   simp only[I4,IS]at F;simp only[kV,AA.AG,Ap,BB,BK,BU,iU,iV,G,hZ];clear I J E M Q;refine en fB gW ?_;have B:=(cj4 @AR.eq_1 @Yb @et @F ADP)
   have K:=(cj3 R pc S trivial)
   repeat any_goals (first|refine Du B K ⟨?_⟩|exact Bt B|(with_reducible refine LA.loop (LA.round ?_))|(with_reducible refine LA.round ?_)|(refine Dv B ?_ ?_<;>intro h<;>try exact Dw))
theorem v5 (f:AP)(s:Aa)(b:AA)(sub sup:List AA)(hf:f.Fit)(hv:f.valid=true)(ho:s.ok=true)(hb:b.Ad=true)(ob:b.BX)(l1:sub.length<=1)(l2:sup.length<=1)(h1 : ∀c∈sub,c.Ad=true/\c.BX)(h2 : ∀c∈sup,c.Ad=true/\c.BX):AC AF 260 [.agg f.vs,Aj s,Ao b,.c (.sl (AA.AG sub)),.c (.sl (AA.AG sup))] (Ba (C8 (OP f s b sub sup))):=by
 obtain⟨bw,bh,bd,bn⟩:=D3 hb;have vb:=EL b ob (by omega);rw[hb]at vb;obtain⟨p1,p2⟩:=HE hv ho;have C3:=LI f s;rw[show IT f s=(BS f.params s,0)from if_neg (by simp[hv,ho])]at C3;have I:=ku f b hf hv hb ob;have J8:=Ke (F8 f b);rw[show Bm (F8 f b)=Jk f b from rfl]at J8;have H:=ATJ f s b sub sup hb l1 l2 (λc R=>(h1 c R).1) λc R=>(h2 c R).1
 have hq:=EI f.params.Al (BS f.params s);have hQ:=λp=>EI (AU f.params.Al (BS f.params s)) p
 have bQ:=λp h=>DM (p:=p) (AU f.params.Al (BS f.params s)) h
 have Q:AC _ _ _ (.c (.int .i64 (Gd f s 10))):=hQ 10;have A5:AC _ _ _ (.c (.int .i64 (Gd f s 17))):=hQ 17;have A3:AC _ _ _ (.c (.int .i64 (Gd f s 11))):=hQ 11;have Oz : -1073741824<=Gd f s 10/\Gd f s 10<=1073741824:=bQ 10 (by omega) (by omega);have V7 : -1073741824<=Gd f s 17/\Gd f s 17<=1073741824:=bQ 17 (by omega) (by omega);have V6 : -1073741824<=Gd f s 11/\Gd f s 11<=1073741824:=bQ 11 (by omega) (by omega);have eB:OP f s b sub sup=Bf (Qe f s b sub sup) (match sup with | []=>b.h|c::_=>mx b.h (b.h+Gd f s 11+c.d+c.h+Gd f s 10)) (match sub with | []=>b.d|c::_=>mx b.d (b.d+Gd f s 17+c.h+c.d+Gd f s 10)) (b.AS ((VG f b sub sup).getD 0 0) 0::((match sub with | []=>[]|c::_=>[c.AS ((VG f b sub sup).getD 1 0) (-(b.d+Gd f s 17+c.h))])++(match sup with | []=>[]|c::_=>[c.AS ((VG f b sub sup).getD 2 0) (b.h+Gd f s 11+c.d)]))):=by
  match sub,sup with
  | [],[]=>rfl
  | [],_::_=>rfl
  | _::_,[]=>rfl
  | _::_,_::_=>rfl
 rw[eB];clear eB hQ bQ;obtain⟨E,hE⟩:=AI (Qe f s b sub sup);obtain⟨x0,q,z,hP⟩:∃x0 q z,VG f b sub sup=[x0,q,z]:=⟨_,_,_,rfl⟩
 obtain⟨S,Qg⟩:=AI (Gd f s 10);obtain⟨M,W8⟩:=AI (Gd f s 17);obtain⟨J,W7⟩:=AI (Gd f s 11);obtain⟨QD,mq⟩:=AI (AU f.params.Al (BS f.params s));rw[mq]at hq Q A5 A3;rw[hE,hP]at H ⊢;rw[Qg]at Q Oz ⊢;rw[W8]at A5 V7 ⊢;rw[W7]at A3 V6 ⊢;clear hE hP Qg W8 W7 mq;have U:=Gu b x0 0 (Nn hb);have F:=λh d K=>My E h d K
 have G:=λh d K=>EL (Bf E h d K)
 have SF:(2:Nat)<=maxLen:=by unfold maxLen;omega
 have SG:(3:Nat)<=maxLen:=by unfold maxLen;omega
 have z0:(0:Nat)<=maxLen:=Nat.zero_le _;match sub,sup,l1,l2 with
 | [],[],_,_ =>
   have F:=F b.h b.d [b.AS x0 0] ⟨HJ _ _ (GD hb),trivial⟩ (by simp only[AA.Az,Hb];omega);have G:=G b.h b.d [b.AS x0 0] ⟨z0,z0,F4 _ _ ob,trivial⟩ (by simp only[Bf,AA.cnt,AA.Az,Hb];omega);unfold Aj at *
   simp only[Ap,BB,On,Om,BU,BK]at H ⊢;obtain⟨A0,W⟩:=AI (b.AS x0 0);rw[W]at U F G ⊢;obtain⟨Z,o⟩:=AI (Bf E b.h b.d [A0]);rw[o]at F G ⊢;clear o W;simp only[AA.AG,As,AR]at C3 H F G I vb U ⊢;unfold C8;refine en fA gL ?_;have B:=(cj6 @SF @SG @Ba.eq_1 @As @AR.eq_1 @Fl ADL)
   repeat any_goals (first|refine Eo ?_|exact Bt B|(with_reducible refine LA.loop (LA.round ?_))|(with_reducible refine LA.round ?_)|refine De B ?_|refine BV B (C3) ?_|refine BV B (vb) ?_|refine BV B (hq) ?_|refine BV B (Q) ?_|refine BV B (I) ?_|refine BV B (J8) ?_|refine BV B (H) ?_|refine BV B (U) ?_|refine BV B (F) ?_|refine BV B (G) ?_|refine DI B ?_|((first|refine JC B ?_ ?_|refine JE B ?_ ?_|refine JD B ?_ ?_|refine JY B ?_ ?_)<;>intro h<;>try (exfalso;first|omega|contradiction)))
 | [],[d],_,_ =>
   obtain⟨hd,od⟩:=h2 d (by simp);obtain⟨dw,dh,dd,dn⟩:=D3 hd;have vd:=EL d od (by omega);rw[hd]at vd;have a2:=Gu d z (b.h+J+d.d) (Nn hd);have F:=F (mx b.h (b.h+J+d.d+d.h+S)) b.d [b.AS x0 0,d.AS z (b.h+J+d.d)] ⟨HJ _ _ (GD hb),HJ _ _ (GD hd),trivial⟩ (by simp only[AA.Az,Hb];omega);have G:=G (mx b.h (b.h+J+d.d+d.h+S)) b.d [b.AS x0 0,d.AS z (b.h+J+d.d)] ⟨z0,z0,F4 _ _ ob,F4 _ _ od,trivial⟩ (by simp only[Bf,AA.cnt,AA.Az,Hb];omega);unfold Aj at *
   simp only[Ap,BB,On,Om,BU,BK]at H ⊢;obtain⟨A0,W⟩:=AI (b.AS x0 0);rw[W]at U F G ⊢;obtain⟨A2,kX⟩:=AI (d.AS z (b.h+J+d.d));rw[kX]at a2 F G ⊢;obtain⟨Z,o⟩:=AI (Bf E (mx b.h (b.h+J+d.d+d.h+S)) b.d [A0,A2]);rw[o]at F G ⊢;clear o W kX;simp only[AA.AG,As,AR]at C3 H F G I vb vd U a2 ⊢;unfold C8;refine en fA gL ?_;have B:=(cj7 @SF @SG @Yb @Ba.eq_1 @As @AR.eq_1 @Fl ADL)
   repeat any_goals (first|refine Eo ?_|exact Bt B|(with_reducible refine LA.loop (LA.round ?_))|(with_reducible refine LA.round ?_)|refine De B ?_|refine BV B (C3) ?_|refine BV B (vb) ?_|refine BV B (vd) ?_|refine BV B (hq) ?_|refine BV B (Q) ?_|refine BV B (A3) ?_|refine BV B (I) ?_|refine BV B (J8) ?_|refine BV B (H) ?_|refine BV B (U) ?_|refine BV B (a2) ?_|refine BV B (F) ?_|refine BV B (G) ?_|refine DI B ?_|((first|refine JC B ?_ ?_|refine JE B ?_ ?_|refine JD B ?_ ?_|refine JY B ?_ ?_)<;>intro h<;>try (exfalso;first|omega|contradiction)))
 | [c],[],_,_ =>
   obtain⟨R,oc⟩:=h1 c (by simp);obtain⟨cw,ch,cd,cn⟩:=D3 R;have vc:=EL c oc (by omega);rw[R]at vc;have a1:=Gu c q (-(b.d+M+c.h)) (Nn R);have F:=F b.h (mx b.d (b.d+M+c.h+c.d+S)) [b.AS x0 0,c.AS q (-(b.d+M+c.h))] ⟨HJ _ _ (GD hb),HJ _ _ (GD R),trivial⟩ (by simp only[AA.Az,Hb];omega);have G:=G b.h (mx b.d (b.d+M+c.h+c.d+S)) [b.AS x0 0,c.AS q (-(b.d+M+c.h))] ⟨z0,z0,F4 _ _ ob,F4 _ _ oc,trivial⟩ (by simp only[Bf,AA.cnt,AA.Az,Hb];omega);unfold Aj at *
   simp only[Ap,BB,On,Om,BU,BK]at H ⊢;obtain⟨A0,W⟩:=AI (b.AS x0 0);rw[W]at U F G ⊢;obtain⟨A1,Lz⟩:=AI (c.AS q (-(b.d+M+c.h)));rw[Lz]at a1 F G ⊢;obtain⟨Z,o⟩:=AI (Bf E b.h (mx b.d (b.d+M+c.h+c.d+S)) [A0,A1]);rw[o]at F G ⊢;clear o W Lz;simp only[AA.AG,As,AR]at C3 H F G I vb vc U a1 ⊢;unfold C8;refine en fA gL ?_;have B:=(cj7 @SF @SG @Yb @Ba.eq_1 @As @AR.eq_1 @Fl ADL)
   repeat any_goals (first|refine Eo ?_|exact Bt B|(with_reducible refine LA.loop (LA.round ?_))|(with_reducible refine LA.round ?_)|refine De B ?_|refine BV B (C3) ?_|refine BV B (vb) ?_|refine BV B (vc) ?_|refine BV B (hq) ?_|refine BV B (Q) ?_|refine BV B (A5) ?_|refine BV B (I) ?_|refine BV B (J8) ?_|refine BV B (H) ?_|refine BV B (U) ?_|refine BV B (a1) ?_|refine BV B (F) ?_|refine BV B (G) ?_|refine DI B ?_|((first|refine JC B ?_ ?_|refine JE B ?_ ?_|refine JD B ?_ ?_|refine JY B ?_ ?_)<;>intro h<;>try (exfalso;first|omega|contradiction)))
 | [c],[d],_,_ =>
   obtain⟨R,oc⟩:=h1 c (by simp);obtain⟨cw,ch,cd,cn⟩:=D3 R;have vc:=EL c oc (by omega);rw[R]at vc;obtain⟨hd,od⟩:=h2 d (by simp);obtain⟨dw,dh,dd,dn⟩:=D3 hd;have vd:=EL d od (by omega);rw[hd]at vd;have a1:=Gu c q (-(b.d+M+c.h)) (Nn R);have a2:=Gu d z (b.h+J+d.d) (Nn hd);have F:=F (mx b.h (b.h+J+d.d+d.h+S)) (mx b.d (b.d+M+c.h+c.d+S)) [b.AS x0 0,c.AS q (-(b.d+M+c.h)),d.AS z (b.h+J+d.d)] ⟨HJ _ _ (GD hb),HJ _ _ (GD R),HJ _ _ (GD hd),trivial⟩ (by simp only[AA.Az,Hb];omega);have G:=G (mx b.h (b.h+J+d.d+d.h+S)) (mx b.d (b.d+M+c.h+c.d+S)) [b.AS x0 0,c.AS q (-(b.d+M+c.h)),d.AS z (b.h+J+d.d)] ⟨z0,z0,F4 _ _ ob,F4 _ _ oc,F4 _ _ od,trivial⟩ (by simp only[Bf,AA.cnt,AA.Az,Hb];omega);unfold Aj at *
   simp only[Ap,BB,On,Om,BU,BK]at H ⊢;obtain⟨A0,W⟩:=AI (b.AS x0 0);rw[W]at U F G ⊢;obtain⟨A1,Lz⟩:=AI (c.AS q (-(b.d+M+c.h)));rw[Lz]at a1 F G ⊢;obtain⟨A2,kX⟩:=AI (d.AS z (b.h+J+d.d));rw[kX]at a2 F G ⊢;obtain⟨Z,o⟩:=AI (Bf E (mx b.h (b.h+J+d.d+d.h+S)) (mx b.d (b.d+M+c.h+c.d+S)) [A0,A1,A2]);rw[o]at F G ⊢;clear o W Lz kX;simp only[AA.AG,As,AR]at C3 H F G I vb vc vd U a1 a2 ⊢;unfold C8;refine en fA gL ?_;have B:=(cj7 @SF @SG @Yb @Ba.eq_1 @As @AR.eq_1 @Fl ADL)
   repeat any_goals (first|refine Eo ?_|exact Bt B|(with_reducible refine LA.loop (LA.round ?_))|(with_reducible refine LA.round ?_)|refine De B ?_|refine BV B (C3) ?_|refine BV B (vb) ?_|refine BV B (vc) ?_|refine BV B (vd) ?_|refine BV B (hq) ?_|refine BV B (Q) ?_|refine BV B (A5) ?_|refine BV B (A3) ?_|refine BV B (I) ?_|refine BV B (J8) ?_|refine BV B (H) ?_|refine BV B (U) ?_|refine BV B (a1) ?_|refine BV B (a2) ?_|refine BV B (F) ?_|refine BV B (G) ?_|refine DI B ?_|((first|refine JC B ?_ ?_|refine JE B ?_ ?_|refine JD B ?_ ?_|refine JY B ?_ ?_)<;>intro h<;>try (exfalso;first|omega|contradiction)))
end Go.Proofs.YtlpomcliejmedaaGreat
