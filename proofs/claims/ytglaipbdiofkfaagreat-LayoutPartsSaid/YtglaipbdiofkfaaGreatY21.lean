/- Part of the proof of some laws. Conditions: none. -/
import Derived.Test.YtglaipbdiofkfaaGreatY18
set_option linter.unusedVariables false
set_option linter.unusedSimpArgs false
set_option maxRecDepth 100000
set_option maxHeartbeats 16000000
open Go.Proofs.Tryz renaming prog→AF,func95→AQp,ntmps95→ARf,results95→vg
open List renaming map_cons→Ap,map_nil→BB,getD_cons_zero→On,getD_cons_succ→Om,nil_append→BU,cons_append→BK
open Option renaming none→E
open Bool renaming true→I
open List renaming length→G
namespace Go.Proofs.YtglaipbdiofkfaaGreat
open Go.RowKit Tryz
theorem v5 (f:AP)(s:Aa)(b:AA)(sub sup:List AA)(hf:f.Fit)(hv:f.valid=I)(ho:s.ok=I)(hb:b.Ad=I)(ob:b.BX)(l1:G sub<=1)(l2:G sup<=1)(h1 : ∀c∈sub,c.Ad=I/\c.BX)(h2 : ∀c∈sup,c.Ad=I/\c.BX):AC AF 95 [.agg f.vs,Aj s,Ao b,.c (.sl (AA.AG sub)),.c (.sl (AA.AG sup))] (Ba (C8 (OP f s b sub sup))):=by
 obtain⟨bw,bh,bd,bn⟩:=D3 hb;have vb:=EL b ob (by omega);rw[hb]at vb;obtain⟨p1,p2⟩:=HE hv ho;have C3:=LI f s;rw[show IT f s=(BS f.params s,0)from if_neg (by simp[hv,ho])]at C3;have R:=ku f b hf hv hb ob;have J8:=Ke (F8 f b);rw[show Bm (F8 f b)=Jk f b from rfl]at J8;have Q:=ATJ f s b sub sup hb l1 l2 (λc q=>(h1 c q).1) λc q=>(h2 c q).1
 have hq:=EI f.params.Al (BS f.params s);have hQ:=λp=>EI (AU f.params.Al (BS f.params s)) p
 have bQ:=λp h=>DM (p:=p) (AU f.params.Al (BS f.params s)) h
 have o:AC _ _ _ (.c (.int .i64 (Gd f s 10))):=hQ 10;have A5:AC _ _ _ (.c (.int .i64 (Gd f s 17))):=hQ 17;have A3:AC _ _ _ (.c (.int .i64 (Gd f s 11))):=hQ 11;have Oz : -1073741824<=Gd f s 10/\Gd f s 10<=1073741824:=bQ 10 (by omega) (by omega);have V7 : -1073741824<=Gd f s 17/\Gd f s 17<=1073741824:=bQ 17 (by omega) (by omega);have V6 : -1073741824<=Gd f s 11/\Gd f s 11<=1073741824:=bQ 11 (by omega) (by omega);have eB:OP f s b sub sup=Bf (Qe f s b sub sup) (match sup with | []=>b.h|c::_=>mx b.h (b.h+Gd f s 11+c.d+c.h+Gd f s 10)) (match sub with | []=>b.d|c::_=>mx b.d (b.d+Gd f s 17+c.h+c.d+Gd f s 10)) (b.AS ((VG f b sub sup).getD 0 0) 0::((match sub with | []=>[]|c::_=>[c.AS ((VG f b sub sup).getD 1 0) (-(b.d+Gd f s 17+c.h))])++(match sup with | []=>[]|c::_=>[c.AS ((VG f b sub sup).getD 2 0) (b.h+Gd f s 11+c.d)]))):=by
  match sub,sup with
  | [],[]=>rfl
  | [],_::_=>rfl
  | _::_,[]=>rfl
  | _::_,_::_=>rfl
 rw[eB];clear eB hQ bQ;obtain⟨E,hE⟩:=AI (Qe f s b sub sup);obtain⟨x0,x1,x2,hP⟩:∃x0 x1 x2,VG f b sub sup=[x0,x1,x2]:=⟨_,_,_,rfl⟩
 obtain⟨z,Qg⟩:=AI (Gd f s 10);obtain⟨oE,W8⟩:=AI (Gd f s 17);obtain⟨S,W7⟩:=AI (Gd f s 11);obtain⟨QD,mq⟩:=AI (AU f.params.Al (BS f.params s));rw[mq]at hq o A5 A3;rw[hE,hP]at Q ⊢;rw[Qg]at o Oz ⊢;rw[W8]at A5 V7 ⊢;rw[W7]at A3 V6 ⊢;clear hE hP Qg W8 W7 mq;have a0:=Gu b x0 0 (Nn hb);have H:=λh d K=>My E h d K
 have M:=λh d K=>EL (Bf E h d K)
 have SF:(2:Nat)<=maxLen:=by unfold maxLen;omega
 have SG:(3:Nat)<=maxLen:=by unfold maxLen;omega
 have z0:(0:Nat)<=maxLen:=Nat.zero_le _;match sub,sup,l1,l2 with
 | [],[],_,_ =>
   have H:=H b.h b.d [b.AS x0 0] ⟨HJ _ _ (GD hb),trivial⟩ (by simp only[AA.Az,Hb];omega);have M:=M b.h b.d [b.AS x0 0] ⟨z0,z0,F4 _ _ ob,trivial⟩ (by simp only[Bf,AA.cnt,AA.Az,Hb];omega);unfold Aj at *
   simp only[Ap,BB,On,Om,BU,BK]at Q ⊢;obtain⟨A0,Ly⟩:=AI (b.AS x0 0);rw[Ly]at a0 H M ⊢;obtain⟨Z,hZ⟩:=AI (Bf E b.h b.d [A0]);rw[hZ]at H M ⊢;clear hZ Ly;simp only[AA.AG,As,AR]at C3 Q H M R vb a0 ⊢;unfold C8;refine en AQp ARf ?_;have B:=(cj6 @SF @SG @Ba.eq_1 @As @AR.eq_1 @Fl vg)
   repeat any_goals (first|refine Eo ?_|exact Bt B|(with_reducible refine LA.loop (LA.round ?_))|(with_reducible refine LA.round ?_)|refine De B ?_|refine BV B (C3) ?_|refine BV B (vb) ?_|refine BV B (hq) ?_|refine BV B (o) ?_|refine BV B (R) ?_|refine BV B (J8) ?_|refine BV B (Q) ?_|refine BV B (a0) ?_|refine BV B (H) ?_|refine BV B (M) ?_|refine DI B ?_|((first|refine JC B ?_ ?_|refine JE B ?_ ?_|refine JD B ?_ ?_|refine JY B ?_ ?_)<;>intro h<;>try (exfalso;first|omega|contradiction)))
 | [],[d],_,_ =>
   obtain⟨hd,od⟩:=h2 d (by simp);obtain⟨dw,dh,dd,dn⟩:=D3 hd;have vd:=EL d od (by omega);rw[hd]at vd;have a2:=Gu d x2 (b.h+S+d.d) (Nn hd);have H:=H (mx b.h (b.h+S+d.d+d.h+z)) b.d [b.AS x0 0,d.AS x2 (b.h+S+d.d)] ⟨HJ _ _ (GD hb),HJ _ _ (GD hd),trivial⟩ (by simp only[AA.Az,Hb];omega);have M:=M (mx b.h (b.h+S+d.d+d.h+z)) b.d [b.AS x0 0,d.AS x2 (b.h+S+d.d)] ⟨z0,z0,F4 _ _ ob,F4 _ _ od,trivial⟩ (by simp only[Bf,AA.cnt,AA.Az,Hb];omega);unfold Aj at *
   simp only[Ap,BB,On,Om,BU,BK]at Q ⊢;obtain⟨A0,Ly⟩:=AI (b.AS x0 0);rw[Ly]at a0 H M ⊢;obtain⟨A2,kX⟩:=AI (d.AS x2 (b.h+S+d.d));rw[kX]at a2 H M ⊢;obtain⟨Z,hZ⟩:=AI (Bf E (mx b.h (b.h+S+d.d+d.h+z)) b.d [A0,A2]);rw[hZ]at H M ⊢;clear hZ Ly kX;simp only[AA.AG,As,AR]at C3 Q H M R vb vd a0 a2 ⊢;unfold C8;refine en AQp ARf ?_;have B:=(cj7 @SF @SG @Yb @Ba.eq_1 @As @AR.eq_1 @Fl vg)
   repeat any_goals (first|refine Eo ?_|exact Bt B|(with_reducible refine LA.loop (LA.round ?_))|(with_reducible refine LA.round ?_)|refine De B ?_|refine BV B (C3) ?_|refine BV B (vb) ?_|refine BV B (vd) ?_|refine BV B (hq) ?_|refine BV B (o) ?_|refine BV B (A3) ?_|refine BV B (R) ?_|refine BV B (J8) ?_|refine BV B (Q) ?_|refine BV B (a0) ?_|refine BV B (a2) ?_|refine BV B (H) ?_|refine BV B (M) ?_|refine DI B ?_|((first|refine JC B ?_ ?_|refine JE B ?_ ?_|refine JD B ?_ ?_|refine JY B ?_ ?_)<;>intro h<;>try (exfalso;first|omega|contradiction)))
 | [c],[],_,_ =>
   obtain⟨q,oc⟩:=h1 c (by simp);obtain⟨cw,ch,cd,cn⟩:=D3 q;have vc:=EL c oc (by omega);rw[q]at vc;have a1:=Gu c x1 (-(b.d+oE+c.h)) (Nn q);have H:=H b.h (mx b.d (b.d+oE+c.h+c.d+z)) [b.AS x0 0,c.AS x1 (-(b.d+oE+c.h))] ⟨HJ _ _ (GD hb),HJ _ _ (GD q),trivial⟩ (by simp only[AA.Az,Hb];omega);have M:=M b.h (mx b.d (b.d+oE+c.h+c.d+z)) [b.AS x0 0,c.AS x1 (-(b.d+oE+c.h))] ⟨z0,z0,F4 _ _ ob,F4 _ _ oc,trivial⟩ (by simp only[Bf,AA.cnt,AA.Az,Hb];omega);unfold Aj at *
   simp only[Ap,BB,On,Om,BU,BK]at Q ⊢;obtain⟨A0,Ly⟩:=AI (b.AS x0 0);rw[Ly]at a0 H M ⊢;obtain⟨A1,Lz⟩:=AI (c.AS x1 (-(b.d+oE+c.h)));rw[Lz]at a1 H M ⊢;obtain⟨Z,hZ⟩:=AI (Bf E b.h (mx b.d (b.d+oE+c.h+c.d+z)) [A0,A1]);rw[hZ]at H M ⊢;clear hZ Ly Lz;simp only[AA.AG,As,AR]at C3 Q H M R vb vc a0 a1 ⊢;unfold C8;refine en AQp ARf ?_;have B:=(cj7 @SF @SG @Yb @Ba.eq_1 @As @AR.eq_1 @Fl vg)
   repeat any_goals (first|refine Eo ?_|exact Bt B|(with_reducible refine LA.loop (LA.round ?_))|(with_reducible refine LA.round ?_)|refine De B ?_|refine BV B (C3) ?_|refine BV B (vb) ?_|refine BV B (vc) ?_|refine BV B (hq) ?_|refine BV B (o) ?_|refine BV B (A5) ?_|refine BV B (R) ?_|refine BV B (J8) ?_|refine BV B (Q) ?_|refine BV B (a0) ?_|refine BV B (a1) ?_|refine BV B (H) ?_|refine BV B (M) ?_|refine DI B ?_|((first|refine JC B ?_ ?_|refine JE B ?_ ?_|refine JD B ?_ ?_|refine JY B ?_ ?_)<;>intro h<;>try (exfalso;first|omega|contradiction)))
 | [c],[d],_,_ =>
   obtain⟨q,oc⟩:=h1 c (by simp);obtain⟨cw,ch,cd,cn⟩:=D3 q;have vc:=EL c oc (by omega);rw[q]at vc;obtain⟨hd,od⟩:=h2 d (by simp);obtain⟨dw,dh,dd,dn⟩:=D3 hd;have vd:=EL d od (by omega);rw[hd]at vd;have a1:=Gu c x1 (-(b.d+oE+c.h)) (Nn q);have a2:=Gu d x2 (b.h+S+d.d) (Nn hd);have H:=H (mx b.h (b.h+S+d.d+d.h+z)) (mx b.d (b.d+oE+c.h+c.d+z)) [b.AS x0 0,c.AS x1 (-(b.d+oE+c.h)),d.AS x2 (b.h+S+d.d)] ⟨HJ _ _ (GD hb),HJ _ _ (GD q),HJ _ _ (GD hd),trivial⟩ (by simp only[AA.Az,Hb];omega);have M:=M (mx b.h (b.h+S+d.d+d.h+z)) (mx b.d (b.d+oE+c.h+c.d+z)) [b.AS x0 0,c.AS x1 (-(b.d+oE+c.h)),d.AS x2 (b.h+S+d.d)] ⟨z0,z0,F4 _ _ ob,F4 _ _ oc,F4 _ _ od,trivial⟩ (by simp only[Bf,AA.cnt,AA.Az,Hb];omega);unfold Aj at *
   simp only[Ap,BB,On,Om,BU,BK]at Q ⊢;obtain⟨A0,Ly⟩:=AI (b.AS x0 0);rw[Ly]at a0 H M ⊢;obtain⟨A1,Lz⟩:=AI (c.AS x1 (-(b.d+oE+c.h)));rw[Lz]at a1 H M ⊢;obtain⟨A2,kX⟩:=AI (d.AS x2 (b.h+S+d.d));rw[kX]at a2 H M ⊢;obtain⟨Z,hZ⟩:=AI (Bf E (mx b.h (b.h+S+d.d+d.h+z)) (mx b.d (b.d+oE+c.h+c.d+z)) [A0,A1,A2]);rw[hZ]at H M ⊢;clear hZ Ly Lz kX;simp only[AA.AG,As,AR]at C3 Q H M R vb vc vd a0 a1 a2 ⊢;unfold C8;refine en AQp ARf ?_;have B:=(cj7 @SF @SG @Yb @Ba.eq_1 @As @AR.eq_1 @Fl vg)
   repeat any_goals (first|refine Eo ?_|exact Bt B|(with_reducible refine LA.loop (LA.round ?_))|(with_reducible refine LA.round ?_)|refine De B ?_|refine BV B (C3) ?_|refine BV B (vb) ?_|refine BV B (vc) ?_|refine BV B (vd) ?_|refine BV B (hq) ?_|refine BV B (o) ?_|refine BV B (A5) ?_|refine BV B (A3) ?_|refine BV B (R) ?_|refine BV B (J8) ?_|refine BV B (Q) ?_|refine BV B (a0) ?_|refine BV B (a1) ?_|refine BV B (a2) ?_|refine BV B (H) ?_|refine BV B (M) ?_|refine DI B ?_|((first|refine JC B ?_ ?_|refine JE B ?_ ?_|refine JD B ?_ ?_|refine JY B ?_ ?_)<;>intro h<;>try (exfalso;first|omega|contradiction)))
theorem Ajz (l:List Int)(i:Int)(o:G l<=1000000):AC AF 68 [.c (AV l),.c (.int .i64 i)] (.c (AV (l++[i]))):=by
 unfold AV;rw[List.map_append];obtain⟨M,H⟩:=AI (l.map (λn=>[C.int .i64 n]));have Q:G M=G l:=by rw[<-H,List.length_map]
 have B:(∀x:List C,x∈M->G x=1)↔True:=⟨λ_=>trivial,λ_ x K=>by rw[<-H]at K;obtain⟨n,_,rfl⟩:=List.mem_map.1 K;rfl⟩
 rw[H,Ap,BB];have f1:G l<=maxLen:=by unfold maxLen;omega
 have f2:G l*8<=140737488355328:=by omega
 have f3:G l+1<=maxLen:=by unfold maxLen;omega
 have f4:(G l+1)*8<=140737488355328:=by omega
 refine en func68 ntmps68 ?_;refine wu (.mk 1) results68 trivial ⟨?_⟩;refine AW.DA ?_;refine SW.OU (λv t=>t=E/\v=.Bg []) (by simp[BQ]) ?_ ?_;intro R z x a w g q S;exact⟨_,_,λ_ _ h=>(by cases h),⟨F,F⟩,AIv g rfl (Ae:=3) (es:=1) (Bq:=8) (by simp)⟩;rintro v t ⟨rfl,rfl⟩;refine CY (.mk 6) (cj5 @f1 @f2 @f3 @f4 @Q @B) ?_;refine SW.nil ?_;exact wz results68 W
end Go.Proofs.YtglaipbdiofkfaaGreat
