/- Part of the proof of some laws. Conditions: none. -/
import Derived.Test.YtglaipbdiofkfaaGreatY16
import Derived.Test.YtglaipbdiofkfaaGreatY20
set_option linter.unusedVariables false
set_option linter.unusedSimpArgs false
set_option maxRecDepth 100000
set_option maxHeartbeats 16000000
open SizeOf renaming sizeOf→UF
open Go.Proofs.Tryz renaming prog→AF,func262→AAh,ntmps262→AAt,results262→ABi,func265→gI,results265→vQ,results267→uz,results127→eV,results268→ASD,func220→AQX,ntmps220→AQ9,results220→AR8,results121→AbH,results122→AbK,results123→ARh,results70→RJ
open List renaming map_cons→Ap,map_nil→BB,foldl_cons→Bw,foldl_nil→CO,set_cons_zero→Ag,set_cons_succ→Ai,all_eq_true→ES,getElem?_eq_getElem→BE,getElem?_map→CM,mem_of_getElem?→Cj,take_of_length_le→Gl,mem_cons→Cf,not_mem_nil→RE,drop_eq_getElem_cons→D5,all_cons→Ep,drop_of_length_le→FA,all_nil→Nq,take_succ_cons→DP,cons_append→BK,length_map→Ch,length_cons→BA,length_take→Fa
open Option renaming getD_some→Dm,isSome_some→IZ,getD_none→Hr,isSome_none→H8
open Nat renaming zero_le→CI
open Bool renaming true_and→Cd,and_eq_true→Ak,and_true→Km
open Go.IntKind renaming i64→AZ
open ByteArray renaming size_extract→fg
open Option renaming some→J
open Bool renaming false→U,true→I
open List renaming length→G
namespace Go.Proofs.YtglaipbdiofkfaaGreat
open Go.RowKit Tryz
variable (AE:List AA)(b:AA)
def AAB (o:Option AA):V:=.A7 [.agg (o.getD AA.zero).vs,.c (.bool o.isSome)]
theorem Ajr : ∀(m:Nat) (b:AA),UF b<m->AC AF 262 [Ao b] (AAB b.simp)
 | 0,b,h=>absurd h (by omega)
 | m+1,⟨k,n,s,w,h,d,x,y,AE,o,src⟩,hm=>by
   rw[AYe];unfold AAB;simp only[Ao,AA.row,Ap,BB];by_cases B:k=1;have Jc:k=1↔True:=iff_true_intro B;rw[if_pos B];simp only[Dm,IZ,AA.vs,AA.row,Ap,BB];refine en AAh AAt ?_;exact wz (cj2 @Jc @AR.eq_1 ABi) W;rw[if_neg B];by_cases R:k=3;have M:k=3↔True:=iff_true_intro R;rw[if_pos R];match AE,hm with
   | [],_=>simp only[AA.VW,AA.AG,Hr,H8];refine en AAh AAt ?_;exact wz (cj4 @B @M @Fl @AR.eq_1 ABi) W
   | [⟨k2,n2,s2,w2,h2,d2,z,y2,H,o2,K⟩],hm =>
     simp only[AA.VW,AA.AG];by_cases S:z=0;have ON:z=0↔True:=iff_true_intro S;by_cases q:y2=0;have Wu:y2=0↔True:=iff_true_intro q;rw[if_pos ⟨S,q⟩];have ih:=Ajr m ⟨k2,n2,s2,w2,h2,d2,z,y2,H,o2,K⟩ (by simp only[AA.mk.sizeOf_spec,List.cons.sizeOf_spec]at hm ⊢;omega);generalize hQ:AA.simp ⟨k2,n2,s2,w2,h2,d2,z,y2,H,o2,K⟩=Q at ih ⊢;unfold AAB at ih;generalize hG:Q.getD AA.zero=G at ih ⊢;simp only[Ao,AA.row,Ap,BB]at ih ⊢;refine en AAh AAt ?_;exact wz (cj5 @B @M @ON @Wu @AR.eq_1 ABi) (cj ih<|trivial);rw[if_neg (λh=>q h.2)];simp only[AA.row,Hr,H8];refine en AAh AAt ?_;exact wz (cj6 @B @M @ON @q @Fl @AR.eq_1 ABi) W;rw[if_neg (λh=>S h.1)];simp only[AA.row,Hr,H8];refine en AAh AAt ?_;exact wz (cj5 @B @M @S @Fl @AR.eq_1 ABi) W
   | c::c2::l,_ =>
     have hl : ¬(AA.AG l).length+1+1=1:=by omega
     have A0 : ¬((AA.AG l).length:Int)+1+1=1:=by omega
     simp only[AA.VW,AA.AG,Hr,H8];refine en AAh AAt ?_;exact wz (cj6 @B @M @hl @A0 @Fl @AR.eq_1 ABi) W
   rw[if_neg R];simp only[Hr,H8];refine en AAh AAt ?_;exact wz (cj4 @B @R @Fl @AR.eq_1 ABi) W
theorem AYO :AC AF 262 [Ao b] (AAB b.simp):=Ajr (UF b+1) b (by omega)
theorem Aj0 (f:AP)(s:Aa)(p:Int)(Q:0<=p/\p<=100)(R:f.valid=I)(M:s.ok=I):AC AF 290 [.agg f.vs,Aj s,.c (.int .i64 p)] (.c (.int .i64 (AU (M1 f s) p))):=by
 obtain⟨o,S⟩:=HE R M;have H:=Jp f s f.params.Gj;have B:=DM (p:=BS f.params s) f.params.Gj (by omega) S;rw[show AU f.params.Gj (BS f.params s)=M1 f s from rfl]at H B;have K:=ee (p:=p) B.1 B.2 Q.1 (by omega);unfold Aj at *
 refine en func290 ntmps290 ?_;exact wz (cj @AR.eq_1<|results290) (cj2 H K W)
theorem AYM (f:AP)(b:AA)(z:f.Fit)(hv:f.valid=I)(hb:b.Ad=I):AC AF 265 [.agg f.vs,Ao b] (.c (.int .i64 (F8 f b))):=by
 have B:=AYO b;have R:F8 f b=match b.simp with|some g=>mx 0 (AU (f.pick g.name).Ey g.size)|none=>0:=F
 rw[R];rw[As]at *
 unfold AAB at B;cases S:b.simp with
 | none=>rw[S]at B;simp only[Hr,H8]at B;refine en gI ntmps265 ?_;exact wz (cj2 @AR.eq_1 @Fl vQ) (cj B<|trivial)
 | some g=>obtain⟨z1,z2⟩:=tA hb S;rw[S]at B;simp only[Dm,IZ]at B;have K:=AP2 f g.name z.1;have q:=Ql hv g.name;unfold BG.Small at q;have H:=ee (n:=(f.pick g.name).Ey) (p:=g.size) (by omega) (by omega) (by omega) (by omega);have Q:(if 0<AU (f.pick g.name).Ey g.size then AU (f.pick g.name).Ey g.size else 0)=mx 0 (AU (f.pick g.name).Ey g.size):=F;simp only;generalize hM:mx 0 (AU (f.pick g.name).Ey g.size)=M at Q ⊢;obtain⟨k,n,sz,w,h,d,x,y,AE,o,src⟩:=g;simp only at K H Q;generalize hG:f.pick n=G at K H Q;simp only[AA.vs,AA.row,Ap,BB]at B;simp only[Hg,BG.row,Ap,BB]at K;refine en gI ntmps265 ?_;exact wz (cj2 @AR.eq_1 @Q vQ) (cj3 B K H W)
theorem Anr {s:Aa}(H:s.ok=I):XW 8 1 s=(Kf s,0)/\(Kf s).ok=true:=by
 have B:s.By=0\/s.By=1\/s.By=2\/s.By=3:=by simp[Aa.ok]at H;omega
 refine⟨?_,?_⟩;unfold XW;rw[if_neg (by simp[H,H2]),if_neg (by simp[H2])];rfl;unfold Kf GB;obtain⟨l,c⟩:=s;simp only at B;rcases B with rfl|rfl|rfl|rfl<;>simp[Aa.ok,VU]
theorem AP3 (f:AP)(s:Aa)(b:AA)(sub sup:List AA)(hv:f.valid=I)(ho:s.ok=I)(hb:b.Ad=I)(l1:G sub<=1)(l2:G sup<=1)(h1 : ∀c∈sub,c.Ad=I)(h2 : ∀c∈sup,c.Ad=I) :
 AC AF 267 [.agg f.vs,Aj s,Ao b,.c (.sl (AA.AG sub)),.c (.sl (AA.AG sup))] (.A7 [.c (.int .i64 (Ez f s b sub sup).1),.c (.int .i64 (Ez f s b sub sup).2)]):=by
 obtain⟨p1,p2⟩:=HE hv ho;obtain⟨bw,bh,bd,bc⟩:=D3 hb;obtain⟨e8,rz⟩:=Anr ho;obtain⟨q1,q2⟩:=HE hv rz;have Tc:=AYO b;have DJ:=Ajt 8 1 s;rw[e8]at DJ;have cQ:Qs f s b=if b.simp.isSome then 0 else b.h - AU f.params.Q5 (BS f.params (Kf s)):=F
 have cR:Od f s b=if b.simp.isSome then 0 else b.d+AU f.params.Qz (BS f.params (Kf s)):=F
 have wV:=DM (p:=BS f.params (Kf s)) f.params.Q5 (by omega) q2;have wW:=DM (p:=BS f.params (Kf s)) f.params.Qz (by omega) q2;have bU : -2147483648<=Qs f s b/\Qs f s b<=2147483648:=by rw[cQ];split<;>omega
 have bV : -2147483648<=Od f s b/\Od f s b<=2147483648:=by rw[cR];split<;>omega
 have bR:=DM (p:=BS f.params s) (XO f.params s) (by omega) p2;have wS:=DM (p:=BS f.params s) f.params.Qx (by omega) p2;have wT:=DM (p:=BS f.params s) f.params.Qy (by omega) p2;have wR:=DM (p:=BS f.params s) f.params.rule (by omega) p2;have iX:=DM (p:=25) (M1 f s) (by omega) (by omega);have wP:=DM (p:=80) (M1 f s) (by omega) (by omega);have S:=Aj0 f s 25 (by omega) hv ho;have A0:=Aj0 f s 80 (by omega) hv ho;have kF:=Jp f (Kf s) f.params.Q5;have Iq:=Jp f (Kf s) f.params.Qz;have cM:=Jp f s (XO f.params s);have cO:=Jp f s f.params.Qx;have YX:=Jp f s f.params.Qy;have jV:=Jp f s f.params.rule;have dU : ∀c l,H0 f s b (c::l)=mx (mx (Qs f s b) (AU (XO f.params s) (BS f.params s))) (c.d+AU (M1 f s) 25):=λ_ _=>rfl
 have YF:Nm f s b=mx (Od f s b) (AU f.params.Qy (BS f.params s)):=F;have dL:Sb f s=4*AU f.params.rule (BS f.params s):=F;have iq : ∀c l,Ez f s b (c::l) []=(Qs f s b,mx (mx (Od f s b) (AU f.params.Qx (BS f.params s))) (c.h - AU (M1 f s) 80)):=λ_ _=>rfl
 have pU:Ez f s b [] []=(Qs f s b,Od f s b):=F;have xG : ∀c l,Ez f s b [] (c::l)=(H0 f s b (c::l),Od f s b):=λ_ _=>rfl
 have pV : ∀c d,Ez f s b [c] [d]=if H0 f s b [d] - d.d - (c.h - Nm f s b)<Sb f s then(if 0<AU (M1 f s) 80 - (H0 f s b [d] - d.d)then(H0 f s b [d]+(AU (M1 f s) 80 - (H0 f s b [d] - d.d)),Nm f s b+(Sb f s - (H0 f s b [d] - d.d - (c.h - Nm f s b))) - (AU (M1 f s) 80 - (H0 f s b [d] - d.d)))else(H0 f s b [d],Nm f s b+(Sb f s - (H0 f s b [d] - d.d - (c.h - Nm f s b)))))else(H0 f s b [d],Nm f s b):=λ_ _=>rfl
 have mi:XO f.params s=if s.Hd=I then f.params.Z0 else if s.By=0 then f.params.Zy else f.params.Zz:=F
 obtain⟨Xo,B⟩:=AI (Ez f s b sub sup);rw[B];obtain⟨T,hT⟩:=AI (Kf s);rw[hT]at DJ cQ cR wV wW kF Iq q1 q2;obtain⟨iJ,xN⟩:=AI (AU (M1 f s) 25);obtain⟨oK,pg⟩:=AI (AU (M1 f s) 80);obtain⟨H,xR⟩:=AI (Qs f s b);obtain⟨R,ph⟩:=AI (Od f s b);obtain⟨K,xP⟩:=AI (AU (XO f.params s) (BS f.params s));obtain⟨S1,xQ⟩:=AI (AU f.params.Qx (BS f.params s));obtain⟨S2,fB⟩:=AI (AU f.params.Qy (BS f.params s));obtain⟨RU,aX⟩:=AI (AU f.params.rule (BS f.params s));obtain⟨V2,xS⟩:=AI (Nm f s b);obtain⟨LS,xO⟩:=AI (Sb f s);rw[xN]at iX S;rw[pg]at wP A0;rw[xR]at cQ bU pU;rw[ph]at cR bV pU YF;rw[xP]at bR cM;rw[xQ]at wS cO;rw[fB]at wT YX YF;rw[aX]at wR jV dL;rw[xS]at YF;rw[xO]at dL;simp only[xR,xN,xP,ph,xQ,pg]at dU iq;simp only[pg,xS,xO]at pV;simp only[ph]at xG;obtain⟨K3,A2⟩:=AI (XO f.params s);rw[A2]at cM mi;have A5 : -2147483648<=V2/\V2<=2147483648:=by rw[YF,DU];omega
 have bL : -4294967296<=LS/\LS<=4294967296:=by omega
 clear hT xN pg xR ph xP xQ fB aX xS xO hb ho hv e8 rz A2;rw[As]at *
 unfold Aj Zx AAB at *
 simp only[Aj,AR]at DJ;obtain⟨A6,z⟩:=AI (AA.AG sub);obtain⟨ei,q⟩:=AI (AA.AG sup);rw[z,q];generalize b.simp=Q at Tc cQ cR;refine en func267 ntmps267 ?_;refine wu (.mk 3) (cj @AR.eq_1<|uz) (cj Tc<|trivial) ⟨?_⟩;refine Ah ?_;refine jn (λ_:Unit=>[(12,.c (.int .i64 H)),(13,.c (.int .i64 R))]) ?_ ?_;all_goals simp only[CG,Bw,CO,Ag,Ai]
 cases Q with
 | some g =>
   have e1:H=0:=by rw[cQ];rfl
   have e2:R=0:=by rw[cR];rfl
   refine go @e1 ?_;refine⟨(),?_⟩;exact ER (cj @e1<|@e2)
 | none =>
   have e1:b.h - AU f.params.Q5 (BS f.params T)=H:=by rw[cQ];rfl
   have e2:b.d+AU f.params.Qz (BS f.params T)=R:=by rw[cR];rfl
   refine wy (cj3 @AR.eq_1 @e1 @e2 uz) (cj3 DJ kF Iq W) ⟨?_⟩;refine⟨(),?_⟩;exact wd 4
 . intro _;have mid:sup≠[]->True:=λ_=>trivial
   match sub,sup,l1,l2 with
   | [],[],_,_=>simp only[AA.AG]at z q;subst z q;rw[pU]at B;subst B;exact wz (cj @AR.eq_1<|uz) W
   | [c],[],_,_ =>
     simp only[AA.AG]at z q;subst z q;obtain⟨cw,ch,cd,_⟩:=D3 (h1 c (by simp));rw[iq]at B;subst B;have o:(if R<S1 then S1 else R)=mx R S1:=F;have bM : -2147483648<=mx R S1/\mx R S1<=2147483648:=by rw[DU];omega
     obtain⟨M,hM⟩:=AI (mx R S1);rw[hM]at o bM ⊢;have m2:(if M<c.h - oK then c.h - oK else M)=mx M (c.h - oK):=F;exact wz (cj3 @AR.eq_1 @o @m2 uz) (cj2 cO A0 W)
   | [],[d],_,_ =>
     simp only[AA.AG]at z q;subst z q;obtain⟨dw,dh,dd,_⟩:=D3 (h2 d (by simp));rw[xG,dU]at B;subst B;have o:(if H<K then K else H)=mx H K:=F;have bM : -2147483648<=mx H K/\mx H K<=2147483648:=by rw[DU];omega
     obtain⟨M,hM⟩:=AI (mx H K);rw[hM]at o bM ⊢;have m2:(if M<d.d+iJ then d.d+iJ else M)=mx M (d.d+iJ):=F;refine Ah ?_;refine jn (λ_:Unit=>[(18,.c (.int .i64 (if s.By=0 then f.params.Zy else f.params.Zz)))]) ?_ ?_;all_goals simp only[CG,Bw,CO,Ag,Ai]
     by_cases h0:s.By=0;have JJ:s.By=0↔True:=iff_true_intro h0;refine go @JJ ?_;refine⟨(),?_⟩;exact ER @JJ;refine go @h0 ?_;refine⟨(),?_⟩;exact ER @h0
     . intro _;refine Ah ?_;refine jn (λ_:Unit=>[(18,.c (.int .i64 K3))]) ?_ ?_;all_goals simp only[CG,Bw,CO,Ag,Ai]
       by_cases hc:s.Hd=I;rw[if_pos hc]at mi;have A1:=iff_true_intro hc;refine go @A1 ?_;refine⟨(),?_⟩;exact ER @mi;rw[if_neg hc]at mi;refine go @hc ?_;refine⟨(),?_⟩;exact ER @mi;intro _;exact wz (cj3 @AR.eq_1 @o @m2 uz) (cj2 cM S W)
   | [c],[d],_,_ =>
     simp only[AA.AG]at z q;subst z q;obtain⟨cw,ch,cd,_⟩:=D3 (h1 c (by simp));obtain⟨dw,dh,dd,_⟩:=D3 (h2 d (by simp));rw[pV]at B;have iu:=dU d [];obtain⟨U1,gQ⟩:=AI (H0 f s b [d]);rw[gQ]at B iu;have o:(if H<K then K else H)=mx H K:=F;have bM : -2147483648<=mx H K/\mx H K<=2147483648:=by rw[DU];omega
     obtain⟨M,hM⟩:=AI (mx H K);rw[hM]at o bM iu;have m2:(if M<d.d+iJ then d.d+iJ else M)=U1:=iu.symm;have A3 : -2147483648<=U1/\U1<=2147483648:=by rw[iu,DU];omega
     have m3:(if R<S2 then S2 else R)=V2:=YF.symm;have m4:4*RU=LS:=dL.symm;clear iu hM gQ dU pU xG iq pV YF dL;refine Ah ?_;refine jn (λ_:Unit=>[(18,.c (.int .i64 (if s.By=0 then f.params.Zy else f.params.Zz)))]) ?_ ?_;all_goals simp only[CG,Bw,CO,Ag,Ai]
     by_cases h0:s.By=0;have JJ:s.By=0↔True:=iff_true_intro h0;refine go @JJ ?_;refine⟨(),?_⟩;exact ER @JJ;refine go @h0 ?_;refine⟨(),?_⟩;exact ER @h0
     . intro _;refine Ah ?_;refine jn (λ_:Unit=>[(18,.c (.int .i64 K3))]) ?_ ?_;all_goals simp only[CG,Bw,CO,Ag,Ai]
       by_cases hc:s.Hd=I;rw[if_pos hc]at mi;have A1:=iff_true_intro hc;refine go @A1 ?_;refine⟨(),?_⟩;exact ER @mi;rw[if_neg hc]at mi;refine go @hc ?_;refine⟨(),?_⟩;exact ER @mi;intro _;have w1:V2+LS - (U1 - d.d - (c.h - V2))=V2+(LS - (U1 - d.d - (c.h - V2))):=by omega
       by_cases c1:U1 - d.d - (c.h - V2)<LS;rw[if_pos c1]at B;have P6:=iff_true_intro c1;by_cases c2:0<oK - (U1 - d.d)
       rw[if_pos c2]at B;subst B;have wX:=iff_true_intro c2;exact wz (cj8 @AR.eq_1 @o @m2 @m3 @m4 @P6 @wX @w1 uz) (cj5 cM S YX jV A0 W);rw[if_neg c2]at B;subst B;exact wz (cj8 @AR.eq_1 @o @m2 @m3 @m4 @P6 @c2 @w1 uz) (cj5 cM S YX jV A0 W);rw[if_neg c1]at B;subst B;exact wz (cj6 @AR.eq_1 @o @m2 @m3 @m4 @c1 uz) (cj4 cM S YX jV W)
theorem Amx (f:AP)(s:Aa)(hv:f.valid=I)(ho:s.ok=I):AC AF 197 [.agg f.vs,Aj s] (.A7 [.c (.int .i64 (TH f s)),.c (.int .i64 (MZ f s))]):=by
 obtain⟨p1,S⟩:=HE hv ho;have B:=Jp f s f.params.rule;have K:=Jp f s f.params.FD;have q:=DM (p:=BS f.params s) f.params.rule (by omega) S;have z:=DM (p:=BS f.params s) f.params.FD (by omega) S;unfold TH MZ NL Aj;unfold Aj at B K;generalize hP:BS f.params s=P at p1 S B K q z ⊢;obtain⟨R,hR⟩:=AI (AU f.params.rule P);obtain⟨A,hA⟩:=AI (AU f.params.FD P);rw[hR]at q B ⊢;rw[hA]at z K ⊢;have b3:=J6 R;have Q:=x6 R;generalize hH:Bm R=H at b3 Q ⊢;by_cases M:s.By=0;have o:s.By=0↔True:=iff_true_intro M;simp only[o,if_true];refine en func197 ntmps197 ?_;exact wz (cj2 @o @AR.eq_1 results197) (cj3 B K Q W);simp only[M,if_false];refine en func197 ntmps197 ?_;exact wz (cj2 @M @AR.eq_1 results197) (cj3 B K Q W)
theorem vh {f:AP}{s:Aa}{l:List AA}(K:f.valid=I)(H:s.ok=I)(B:l.all AA.Ad=I):eb f s l=0:=by
 unfold eb;rw[if_neg (by simp[K,H,B])]
theorem Akc {f:AP}{s:Aa}{l:List AA}(h : ¬(f.valid=I/\s.ok=I/\l.all AA.Ad=I)):eb f s l=1:=by
 unfold eb;rw[if_pos];cases B:f.valid<;>cases H:s.ok<;>cases K:l.all AA.Ad<;>simp_all
theorem Amw (f:AP)(s:Aa)(n d:AA)(hf:f.Fit)(hn:n.BX)(CB:n.cnt<=1000000)(hd:d.BX)(A8:d.cnt<=1000000):AC AF 127 [.agg f.vs,Aj s,Ao n,Ao d] (Ba (cE f s n d)):=by
 have S:=pe f s [n,d] hf (by intro b hb;simp at hb;rcases hb with rfl|rfl;exact⟨hn,CB⟩;exact⟨hd,A8⟩) (by simp);by_cases hg:f.valid=I/\s.ok=I/\[n,d].all AA.Ad=I;obtain⟨hv,ho,H⟩:=hg;rw[vh hv ho H]at S;have PV:n.Ad=true:=ES.1 H n (by simp);have VC:d.Ad=true:=ES.1 H d (by simp);have e:cE f s n d=C8 (WO f s n d):=if_neg (by simp[PV,VC,hv,ho]);rw[e];obtain⟨nw,nh,nd,nc⟩:=D3 PV;obtain⟨dw,dh,dd,dc⟩:=D3 VC;obtain⟨p1,p2⟩:=HE hv ho;have A5:=Amx f s hv ho;have hr:=Jp f s f.params.rule;have q1:=Jp f s f.params.Tp;have q2:=Jp f s f.params.TE;have q3:=Jp f s f.params.VH;have q4:=Jp f s f.params.Uf;have bR : -1073741824<=NL f s/\NL f s<=1073741824:=DM f.params.rule (by omega) p2;have bA:=DM (p:=BS f.params s) f.params.FD (by omega) p2;have bN : -1073741824<=YM f s/\YM f s<=1073741824:=DM _ (by omega) p2;have bD : -1073741824<=YL f s/\YL f s<=1073741824:=DM _ (by omega) p2;have bH:=J6 (NL f s);have bY : -2147483648<=MZ f s/\MZ f s<=2147483648:=by unfold MZ;omega
 have bG : -3221225472<=TH f s/\TH f s<=3221225472:=by unfold TH;split<;>omega
 have eB:WO f s n d=Bf (TJ n d) (mx (cF f s n+n.h) (MZ f s+NL f s)) (mx (d.d+cD f s d) (-(MZ f s))) [n.AS (Bm (TJ n d - n.w)) (cF f s n),(FV (TJ n d) (NL f s) 0).AS 0 (MZ f s),d.AS (Bm (TJ n d - d.w)) (-(cD f s d))]:=F;have eU:cF f s n=mx (YM f s) (MZ f s+NL f s+TH f s+n.d):=F;have eL:cD f s d=mx (YL f s) (d.h+TH f s - MZ f s):=F;have eW:TJ n d=mx (mx 0 n.w) d.w:=F;have eN:YM f s=AU (if s.By=0 then f.params.VH else f.params.Tp) (BS f.params s):=F;have eD:YL f s=AU (if s.By=0 then f.params.Uf else f.params.TE) (BS f.params s):=F;have eR:AU f.params.rule (BS f.params s)=NL f s:=F;rw[eR]at hr;rw[eB];obtain⟨U,hU⟩:=AI (cF f s n);obtain⟨L,hL⟩:=AI (cD f s d);obtain⟨W,hW⟩:=AI (TJ n d);obtain⟨R,hR⟩:=AI (NL f s);obtain⟨Y,hY⟩:=AI (MZ f s);obtain⟨G,hG⟩:=AI (TH f s);obtain⟨N,hN⟩:=AI (YM f s);obtain⟨D,hD⟩:=AI (YL f s);rw[hU,hN,hY,hR,hG]at eU;rw[hL,hD,hG,hY]at eL;rw[hW]at eW;rw[hN]at eN bN;rw[hD]at eD bD;rw[hG,hY]at A5;rw[hR]at hr bR;rw[hY]at bY;rw[hG]at bG;rw[hU,hL,hW,hR,hY];clear eB e hU hL hW hR hY hG hN hD bA bH eR;have bU : -1073741824<=U/\U<=8589934592:=by rw[eU,DU];omega
 have bL : -1073741824<=L/\L<=8589934592:=by rw[eL,DU];omega
 have bW:0<=W/\W<=1073741824:=by rw[eW,DU,DU];omega
 have qB:(if 0<n.w then n.w else 0)=mx 0 n.w:=F;obtain⟨M,hM⟩:=AI (mx 0 n.w);rw[hM]at eW qB;have ed:(if M<d.w then d.w else M)=W:=eW.symm;have A6:N - n.d - (Y+R)<G->Y+R+G+n.d=U:=λh=>by rw[eU,DU];omega
 have A7 : ¬N - n.d - (Y+R)<G->N=U:=λh=>by rw[eU,DU];omega
 have gm:Y - (-D+d.h)<G->Y - G - d.h= -L:=λh=>by rw[eL,DU];omega
 have gp : ¬Y - (-D+d.h)<G-> -D= -L:=λh=>by rw[eL,DU];omega
 have G8:=AKJ n (Bm (W - n.w)) U;have HN:=AKJ d (Bm (W - d.w)) (-L);have l7:=x6 (W - n.w);have l8:=x6 (W - d.w);have PT:=Ajn W R 0;have B:=AKJ (FV W R 0) 0 Y;have EC:AA.FY [n.AS (Bm (W - n.w)) U,(FV W R 0).AS 0 Y,d.AS (Bm (W - d.w)) (-L)]:=⟨F4 _ _ hn,F4 _ _ (ABe _ _ _),F4 _ _ hd,trivial⟩
 have Sr:AA.Az [n.AS (Bm (W - n.w)) U,(FV W R 0).AS 0 Y,d.AS (Bm (W - d.w)) (-L)]<=50000:=by simp only[AA.Az,Hb,lH];omega
 have H:=aY W (mx (U+n.h) (Y+R)) (mx (d.d+L) (-Y)) [n.AS (Bm (W - n.w)) U,(FV W R 0).AS 0 Y,d.AS (Bm (W - d.w)) (-L)] (by simp);have q:=Xn (Bf W (mx (U+n.h) (Y+R)) (mx (d.d+L) (-Y)) [n.AS (Bm (W - n.w)) U,(FV W R 0).AS 0 Y,d.AS (Bm (W - d.w)) (-L)]) ⟨(CI _:0<=maxLen),(CI _:0<=maxLen),EC⟩ (by simp only[Bf,AA.cnt];omega);obtain⟨Z,hZ⟩:=AI (Bf W (mx (U+n.h) (Y+R)) (mx (d.d+L) (-Y)) [n.AS (Bm (W - n.w)) U,(FV W R 0).AS 0 Y,d.AS (Bm (W - d.w)) (-L)]);rw[hZ]at H q ⊢;clear hZ EC Sr;have Yv:(if U+n.h<Y+R then Y+R else U+n.h)=mx (U+n.h) (Y+R):=F;have Yu:(if d.d+L < -Y then -Y else d.d+L)=mx (d.d+L) (-Y):=F;obtain⟨MT,qP⟩:=AI (mx (U+n.h) (Y+R));obtain⟨MB,qO⟩:=AI (mx (d.d+L) (-Y));rw[qP]at Yv H;rw[qO]at Yu H;have w9:d.d - -L=d.d+L:=by omega
 unfold Aj at *
 simp only[AA.AG,As,AR,Ba]at S H q B PT G8 HN l7 l8 ⊢;obtain⟨A0,Gr⟩:=AI (n.AS (Bm (W - n.w)) U);obtain⟨A2,Fb⟩:=AI (d.AS (Bm (W - d.w)) (-L));obtain⟨A3,Ik⟩:=AI (FV W R 0);rw[Ik]at PT B H;obtain⟨A1,Ec⟩:=AI (A3.AS 0 Y);rw[Gr]at G8 H;rw[Fb]at HN H;rw[Ec]at B H;obtain⟨Q,hQ⟩:=AI (C8 Z);rw[hQ]at q ⊢;clear Gr Ec Fb Ik qP qO hM eU eL eW hQ;have A9 : ∀(b1 b2 b3:Prop),True:=λ_ _ _=>trivial
 by_cases h0:s.By=0;have JJ:s.By=0↔True:=iff_true_intro h0;rw[if_pos h0]at eN eD;rw[<-eN]at q3;rw[<-eD]at q4;refine en func127 ntmps127 ?_;refine wu (.mk 9) (cj @JJ<|eV) (cj7 S hr A5 q1 q2 q3 q4 trivial) ⟨?_⟩;by_cases z:N - n.d - (Y+R)<G;have P6:=iff_true_intro z;have e1:=A6 z;by_cases K:Y - (-D+d.h)<G;have wX:=iff_true_intro K;have o:=gm K;exact wz (cj9 @P6 @wX @e1 @o @qB @ed @Yv @Yu @w9 eV) (cj8 PT B l7 G8 l8 HN H q trivial);have o:=gp K;exact wz (cj9 @P6 @K @e1 @o @qB @ed @Yv @Yu @w9 eV) (cj8 PT B l7 G8 l8 HN H q trivial);have e1:=A7 z;by_cases K:Y - (-D+d.h)<G;have wX:=iff_true_intro K;have o:=gm K;subst e1;exact wz (cj8 @z @wX @o @qB @ed @Yv @Yu @w9 eV) (cj8 PT B l7 G8 l8 HN H q trivial);have o:=gp K;subst e1;exact wz (cj8 @z @K @o @qB @ed @Yv @Yu @w9 eV) (cj8 PT B l7 G8 l8 HN H q trivial);rw[if_neg h0]at eN eD;rw[<-eN]at q1;rw[<-eD]at q2;refine en func127 ntmps127 ?_;refine wu (.mk 9) (cj @h0<|eV) (cj5 S hr A5 q1 q2 trivial) ⟨?_⟩;by_cases z:N - n.d - (Y+R)<G;have P6:=iff_true_intro z;have e1:=A6 z;by_cases K:Y - (-D+d.h)<G;have wX:=iff_true_intro K;have o:=gm K;exact wz (cj9 @P6 @wX @e1 @o @qB @ed @Yv @Yu @w9 eV) (cj8 PT B l7 G8 l8 HN H q trivial);have o:=gp K;exact wz (cj9 @P6 @K @e1 @o @qB @ed @Yv @Yu @w9 eV) (cj8 PT B l7 G8 l8 HN H q trivial);have e1:=A7 z;by_cases K:Y - (-D+d.h)<G;have wX:=iff_true_intro K;have o:=gm K;subst e1;exact wz (cj8 @z @wX @o @qB @ed @Yv @Yu @w9 eV) (cj8 PT B l7 G8 l8 HN H q trivial);have o:=gp K;subst e1;exact wz (cj8 @z @K @o @qB @ed @Yv @Yu @w9 eV) (cj8 PT B l7 G8 l8 HN H q trivial)
 . rw[Akc hg]at S;have e:cE f s n d=(AA.zero,1):=if_pos (by
    cases h1:f.valid<;>cases h2:s.ok<;>cases h3:n.Ad<;>cases h4:d.Ad<;>simp_all)
   rw[e];unfold Aj at *
   simp only[AA.AG,As,AR,Ba]at S ⊢;refine en func127 ntmps127 ?_;exact wz (cj @Fl<|eV) (cj S<|trivial)
theorem AP0 (l:List AA)(hl:G l<=1000000)(q:l≠[])(ht : ∀b∈l,oI b):AC AF 268 [.c (.sl (AA.AG l))] (.agg (YG (DQ l))):=by
 obtain⟨rs,R⟩:=AI (AA.AG l);have K:G rs=G l:=by rw[<-R,Dt];simp
 have Lu : ¬G l=0:=λh=>q (List.eq_nil_of_length_eq_zero h)
 have Q : ¬(G l:Int)=0:=by omega
 rw[R];refine en func268 ntmps268 ?_;refine wy (cj3 @K @Q @Lu ASD) trivial ⟨?_⟩;refine lp (ι:={ k:Nat // k<=G l }) (λk=>[(4,.c (.int .i64 (k.1:Int)))]) (λk=>[.box 88 [.c (.int .i64 0),.c (.int .i64 0),.c (.int .i64 0),.c (.int .i64 0)] U,.box 88 (YG (DQ (l.take k.1))) U]) (λk=>G l - k.1) ⟨0,by simp⟩ ?_ ?_;all_goals simp only[CG,Bw,CO,Ag,Ai]
 exact ER (cj2 @DQ.eq_1 @DQ.eq_2 @YG.eq_1);rintro ⟨k,hk⟩;simp only;by_cases B:k<G l;obtain⟨c,o⟩:=AI (l[k]);have S:l[k]?=J c:=by rw[BE B,o]
 have M:rs[k]?=J c.row:=by rw[<-R,Dt,CM,S];rfl
 have Dp:k<G rs:=by omega
 have Bu:=gx M;obtain⟨cx,cy,cw,ch,cd⟩:=ht c (Cj S);unfold Oi at cx cy cw ch cd;have H:=APO S;obtain⟨E,cH⟩:=AI (DQ (l.take k));obtain⟨E',xu⟩:=AI (DQ (l.take (k+1)));rw[cH,xu]at H;rw[cH];unfold YG;by_cases h0:k=0;rw[if_pos h0]at H;have z:(k:Int)=0↔True:=iff_true_intro (by omega);refine wy (cj6 @K @B @Dp @M @Bu @z ASD) trivial ⟨?_⟩;refine⟨⟨k+1,by omega⟩,by simp only;omega,?_⟩;simp only[xu,H];exact wd 2;rw[if_neg h0]at H;have z : ¬(k:Int)=0:=by omega
 simp only[mx,mn]at H;refine wy (cj6 @K @B @Dp @M @Bu @z ASD) trivial ⟨?_⟩;refine⟨⟨k+1,by omega⟩,by simp only;omega,?_⟩;simp only[xu,H];exact wd 2;have e:l.take k=l:=Gl (by omega);rw[e];unfold YG;exact wz (cj2 @K @B ASD) W
theorem AnT (f:AP)(s:Aa)(b:AA)(hf:f.Fit)(R:f.valid=I)(Q:s.ok=I)(hb:b.Ad=I)(ob:b.BX):AC AF 220 [.agg f.vs,Aj s,Ao b,.c (.sl (AA.AG [])),.c (.sl (AA.AG []))] (Ba (C8 (Oc f s b [] []))):=by
 obtain⟨bw,bh,bd,bn⟩:=D3 hb;obtain⟨p1,p2⟩:=HE R Q;have o:=pe f s [b] hf (by intro x K;simp only[Cf,RE,or_false]at K;rcases K with rfl<;>exact⟨by assumption,by omega⟩) (by simp);rw[vh R Q (by simp[hb])]at o;have S:=AP3 f s b [] [] R Q hb (by simp) (by simp) (by simp) (by simp);have ig:=ABm (f:=f) (s:=s) (b:=b) (sub:=[]) (sup:=[]) R Q hb (by simp) (by simp) (by simp) (by simp);have eB:Oc f s b [] []=Bf (DQ [b.AS 0 0]).2.1 (DQ [b.AS 0 0]).2.2.1 (DQ [b.AS 0 0]).2.2.2 [b.AS 0 0]:=F;rw[eB];clear eB;obtain⟨u,hu⟩:=AI ((Ez f s b [] []).1);obtain⟨v,FQ⟩:=AI ((Ez f s b [] []).2);rw[hu,FQ]at S ig;clear hu FQ;have q:=AKJ b 0 0;have B:=AP0 [b.AS 0 0] (by simp) (by simp) (by
  intro x K;simp only[Cf,RE,or_false]at K;rcases K with rfl
  all_goals (constructor<;>(unfold Oi;simp only[iU,iT,iS,iV,iW];omega)))
 generalize DQ [b.AS 0 0]=E at B ⊢;unfold YG at B;have H:=aY E.2.1 E.2.2.1 E.2.2.2 [b.AS 0 0] (by simp);have M:=Xn (Bf E.2.1 E.2.2.1 E.2.2.2 [b.AS 0 0]) ⟨(CI _:0<=maxLen),(CI _:0<=maxLen),F4 _ _ ob,trivial⟩ (by simp only[Bf,AA.cnt,AA.Az,Hb];omega);generalize (Bf E.2.1 E.2.2.1 E.2.2.2 [b.AS 0 0])=Z at H M ⊢;obtain⟨E1,g1⟩:=AI E.2.1;obtain⟨E2,g2⟩:=AI E.2.2.1;obtain⟨E3,g3⟩:=AI E.2.2.2;obtain⟨E0,g0⟩:=AI E.1;rw[g0,g1,g2,g3]at B;rw[g1,g2,g3]at H;clear g0 g1 g2 g3;generalize b.AS 0 0=A0 at q H B;generalize C8 Z=DZ at M ⊢;unfold Aj at *
 simp only[AA.AG,As,AR,Ba,Ap,BB]at S H M B q o ⊢;have SF:(2:Nat)<=maxLen:=by unfold maxLen;omega
 have SG:(3:Nat)<=maxLen:=by unfold maxLen;omega
 refine en AQX AQ9 ?_;have z:=(cj6 @SF @SG @Ba.eq_1 @As @AR.eq_1 @Fl AR8)
 have cc:=(cj6 o S q B H M W)
 repeat any_goals (first|refine Du z cc ⟨?_⟩|exact Bt z|(with_reducible refine LA.loop (LA.round ?_))|(with_reducible refine LA.round ?_)|(refine Dv z ?_ ?_<;>intro h<;>try exact Dw))
theorem AnU (f:AP)(s:Aa)(b d:AA)(hf:f.Fit)(S:f.valid=I)(R:s.ok=I)(hb:b.Ad=I)(ob:b.BX)(Q:d.Ad=I)(od:d.BX):AC AF 220 [.agg f.vs,Aj s,Ao b,.c (.sl (AA.AG [])),.c (.sl (AA.AG [d]))] (Ba (C8 (Oc f s b [] [d]))):=by
 obtain⟨bw,bh,bd,bn⟩:=D3 hb;obtain⟨dw,dh,dd,dn⟩:=D3 Q;obtain⟨p1,p2⟩:=HE S R;have q:=pe f s [b,d] hf (by intro x K;simp only[Cf,RE,or_false]at K;rcases K with rfl|rfl<;>exact⟨by assumption,by omega⟩) (by simp);rw[vh S R (by simp[hb,Q])]at q;have o:=AP3 f s b [] [d] S R hb (by simp) (by simp) (by simp) (by simpa using Q);have ig:=ABm (f:=f) (s:=s) (b:=b) (sub:=[]) (sup:=[d]) S R hb (by simp) (by simp) (by simp) (by simpa using Q);have eB:Oc f s b [] [d]=Bf (DQ [b.AS 0 0,d.AS b.w (Ez f s b [] [d]).1]).2.1 (DQ [b.AS 0 0,d.AS b.w (Ez f s b [] [d]).1]).2.2.1 (DQ [b.AS 0 0,d.AS b.w (Ez f s b [] [d]).1]).2.2.2 [b.AS 0 0,d.AS b.w (Ez f s b [] [d]).1]:=F;rw[eB];clear eB;obtain⟨u,hu⟩:=AI ((Ez f s b [] [d]).1);obtain⟨v,FQ⟩:=AI ((Ez f s b [] [d]).2);rw[hu,FQ]at o ig;rw[hu];clear hu FQ;have z:=AKJ b 0 0;have a2:=AKJ d b.w u;have B:=AP0 [b.AS 0 0,d.AS b.w u] (by simp) (by simp) (by
  intro x K;simp only[Cf,RE,or_false]at K;rcases K with rfl|rfl
  all_goals (constructor<;>(unfold Oi;simp only[iU,iT,iS,iV,iW];omega)))
 generalize DQ [b.AS 0 0,d.AS b.w u]=E at B ⊢;unfold YG at B;have H:=aY E.2.1 E.2.2.1 E.2.2.2 [b.AS 0 0,d.AS b.w u] (by simp);have M:=Xn (Bf E.2.1 E.2.2.1 E.2.2.2 [b.AS 0 0,d.AS b.w u]) ⟨(CI _:0<=maxLen),(CI _:0<=maxLen),F4 _ _ ob,F4 _ _ od,trivial⟩ (by simp only[Bf,AA.cnt,AA.Az,Hb];omega);generalize (Bf E.2.1 E.2.2.1 E.2.2.2 [b.AS 0 0,d.AS b.w u])=Z at H M ⊢;obtain⟨E1,g1⟩:=AI E.2.1;obtain⟨E2,g2⟩:=AI E.2.2.1;obtain⟨E3,g3⟩:=AI E.2.2.2;obtain⟨E0,g0⟩:=AI E.1;rw[g0,g1,g2,g3]at B;rw[g1,g2,g3]at H;clear g0 g1 g2 g3;generalize b.AS 0 0=A0 at z H B;generalize d.AS b.w u=A1 at a2 H B;generalize C8 Z=DZ at M ⊢;unfold Aj at *
 simp only[AA.AG,As,AR,Ba,Ap,BB]at o H M B z a2 q ⊢;have SF:(2:Nat)<=maxLen:=by unfold maxLen;omega
 have SG:(3:Nat)<=maxLen:=by unfold maxLen;omega
 refine en AQX AQ9 ?_;have ff:=(cj6 @SF @SG @Ba.eq_1 @As @AR.eq_1 @Fl AR8)
 have cc:=(cj7 q o z a2 B H M W)
 repeat any_goals (first|refine Du ff cc ⟨?_⟩|exact Bt ff|(with_reducible refine LA.loop (LA.round ?_))|(with_reducible refine LA.round ?_)|(refine Dv ff ?_ ?_<;>intro h<;>try exact Dw))
theorem AnV (f:AP)(s:Aa)(b c:AA)(hf:f.Fit)(M:f.valid=true)(o:s.ok=true)(hb:b.Ad=true)(ob:b.BX)(S:c.Ad=true)(oc:c.BX):AC AF 220 [.agg f.vs,Aj s,Ao b,.c (.sl (AA.AG [c])),.c (.sl (AA.AG []))] (Ba (C8 (Oc f s b [c] []))):=by
 obtain⟨bw,bh,bd,bn⟩:=D3 hb;obtain⟨cw,ch,cd,cn⟩:=D3 S;obtain⟨p1,p2⟩:=HE M o;have Yl:=pe f s [b,c] hf (by intro x Q;simp only[Cf,RE,or_false]at Q;rcases Q with rfl|rfl<;>exact⟨by assumption,by omega⟩) (by simp);rw[vh M o (by simp[hb,S])]at Yl;have z:=AP3 f s b [c] [] M o hb (by simp) (by simp) (by simpa using S) (by simp);have H:=AYM f b hf M hb;have ig:=ABm (f:=f) (s:=s) (b:=b) (sub:=[c]) (sup:=[]) M o hb (by simp) (by simp) (by simpa using S) (by simp);have bit:=AHz (f:=f) (b:=b) M hb;have eB:Oc f s b [c] []=Bf (DQ [b.AS 0 0,c.AS (b.w - F8 f b) (-(Ez f s b [c] []).2)]).2.1 (DQ [b.AS 0 0,c.AS (b.w - F8 f b) (-(Ez f s b [c] []).2)]).2.2.1 (DQ [b.AS 0 0,c.AS (b.w - F8 f b) (-(Ez f s b [c] []).2)]).2.2.2 [b.AS 0 0,c.AS (b.w - F8 f b) (-(Ez f s b [c] []).2)]:=F;rw[eB];clear eB;obtain⟨u,hu⟩:=AI ((Ez f s b [c] []).1);obtain⟨v,q⟩:=AI ((Ez f s b [c] []).2);rw[hu,q]at z ig;rw[q];clear hu q;generalize F8 f b=I at H bit ⊢;have a0:=AKJ b 0 0;have a1:=AKJ c (b.w - I) (-v);have B:=AP0 [b.AS 0 0,c.AS (b.w - I) (-v)] (by simp) (by simp) (by
  intro x Q;simp only[Cf,RE,or_false]at Q;rcases Q with rfl|rfl
  all_goals (constructor<;>(unfold Oi;simp only[iU,iT,iS,iV,iW];omega)))
 generalize DQ [b.AS 0 0,c.AS (b.w - I) (-v)]=E at B ⊢;unfold YG at B;have K:=aY E.2.1 E.2.2.1 E.2.2.2 [b.AS 0 0,c.AS (b.w - I) (-v)] (by simp);have R:=Xn (Bf E.2.1 E.2.2.1 E.2.2.2 [b.AS 0 0,c.AS (b.w - I) (-v)]) ⟨(CI _:0<=maxLen),(CI _:0<=maxLen),F4 _ _ ob,F4 _ _ oc,trivial⟩ (by simp only[Bf,AA.cnt,AA.Az,Hb];omega);generalize (Bf E.2.1 E.2.2.1 E.2.2.2 [b.AS 0 0,c.AS (b.w - I) (-v)])=Z at K R ⊢;obtain⟨E1,g1⟩:=AI E.2.1;obtain⟨E2,g2⟩:=AI E.2.2.1;obtain⟨E3,g3⟩:=AI E.2.2.2;obtain⟨E0,g0⟩:=AI E.1;rw[g0,g1,g2,g3]at B;rw[g1,g2,g3]at K;clear g0 g1 g2 g3;generalize b.AS 0 0=A0 at a0 K B;generalize c.AS (b.w - I) (-v)=A1 at a1 K B;generalize C8 Z=DZ at R ⊢;unfold Aj at *
 simp only[AA.AG,As,AR,Ba,Ap,BB]at z K R B a0 a1 Yl H ⊢;have SF:(2:Nat)<=maxLen:=by unfold maxLen;omega
 have SG:(3:Nat)<=maxLen:=by unfold maxLen;omega
 refine en AQX AQ9 ?_;have ff:=(cj6 @SF @SG @Ba.eq_1 @As @AR.eq_1 @Fl AR8)
 have cc:=(cj8 Yl z H a0 a1 B K R W)
 repeat any_goals (first|refine Du ff cc ⟨?_⟩|exact Bt ff|(with_reducible refine LA.loop (LA.round ?_))|(with_reducible refine LA.round ?_)|(refine Dv ff ?_ ?_<;>intro h<;>try exact Dw))
theorem AnW (f:AP)(s:Aa)(b c d:AA)(hf:f.Fit)(Q:f.valid=true)(z:s.ok=true)(hb:b.Ad=true)(ob:b.BX)(o:c.Ad=true)(oc:c.BX)(q:d.Ad=true)(od:d.BX):AC AF 220 [.agg f.vs,Aj s,Ao b,.c (.sl (AA.AG [c])),.c (.sl (AA.AG [d]))] (Ba (C8 (Oc f s b [c] [d]))):=by
 obtain⟨bw,bh,bd,bn⟩:=D3 hb;obtain⟨cw,ch,cd,cn⟩:=D3 o;obtain⟨dw,dh,dd,dn⟩:=D3 q;obtain⟨p1,p2⟩:=HE Q z;have Yl:=pe f s [b,c,d] hf (by intro x R;simp only[Cf,RE,or_false]at R;rcases R with rfl|rfl|rfl<;>exact⟨by assumption,by omega⟩) (by simp);rw[vh Q z (by simp[hb,o,q])]at Yl;have R0:=AP3 f s b [c] [d] Q z hb (by simp) (by simp) (by simpa using o) (by simpa using q);have M:=AYM f b hf Q hb;have ig:=ABm (f:=f) (s:=s) (b:=b) (sub:=[c]) (sup:=[d]) Q z hb (by simp) (by simp) (by simpa using o) (by simpa using q);have bit:=AHz (f:=f) (b:=b) Q hb;have eB:Oc f s b [c] [d]=Bf (DQ [b.AS 0 0,c.AS (b.w - F8 f b) (-(Ez f s b [c] [d]).2),d.AS b.w (Ez f s b [c] [d]).1]).2.1 (DQ [b.AS 0 0,c.AS (b.w - F8 f b) (-(Ez f s b [c] [d]).2),d.AS b.w (Ez f s b [c] [d]).1]).2.2.1 (DQ [b.AS 0 0,c.AS (b.w - F8 f b) (-(Ez f s b [c] [d]).2),d.AS b.w (Ez f s b [c] [d]).1]).2.2.2 [b.AS 0 0,c.AS (b.w - F8 f b) (-(Ez f s b [c] [d]).2),d.AS b.w (Ez f s b [c] [d]).1]:=F;rw[eB];clear eB;obtain⟨u,hu⟩:=AI ((Ez f s b [c] [d]).1);obtain⟨v,FQ⟩:=AI ((Ez f s b [c] [d]).2);rw[hu,FQ]at R0 ig;rw[FQ];rw[hu];clear hu FQ;generalize F8 f b=I at M bit ⊢;have a0:=AKJ b 0 0;have a1:=AKJ c (b.w - I) (-v);have a2:=AKJ d b.w u;have B:=AP0 [b.AS 0 0,c.AS (b.w - I) (-v),d.AS b.w u] (by simp) (by simp) (by
  intro x R;simp only[Cf,RE,or_false]at R;rcases R with rfl|rfl|rfl
  all_goals (constructor<;>(unfold Oi;simp only[iU,iT,iS,iV,iW];omega)))
 generalize DQ [b.AS 0 0,c.AS (b.w - I) (-v),d.AS b.w u]=E at B ⊢;unfold YG at B;have K:=aY E.2.1 E.2.2.1 E.2.2.2 [b.AS 0 0,c.AS (b.w - I) (-v),d.AS b.w u] (by simp);have S:=Xn (Bf E.2.1 E.2.2.1 E.2.2.2 [b.AS 0 0,c.AS (b.w - I) (-v),d.AS b.w u]) ⟨(CI _:0<=maxLen),(CI _:0<=maxLen),F4 _ _ ob,F4 _ _ oc,F4 _ _ od,trivial⟩ (by simp only[Bf,AA.cnt,AA.Az,Hb];omega);generalize (Bf E.2.1 E.2.2.1 E.2.2.2 [b.AS 0 0,c.AS (b.w - I) (-v),d.AS b.w u])=Z at K S ⊢;obtain⟨E1,g1⟩:=AI E.2.1;obtain⟨E2,g2⟩:=AI E.2.2.1;obtain⟨E3,g3⟩:=AI E.2.2.2;obtain⟨E0,g0⟩:=AI E.1;rw[g0,g1,g2,g3]at B;rw[g1,g2,g3]at K;clear g0 g1 g2 g3;generalize b.AS 0 0=A0 at a0 K B;generalize c.AS (b.w - I) (-v)=A1 at a1 K B;generalize d.AS b.w u=A2 at a2 K B;generalize C8 Z=DZ at S ⊢;unfold Aj at *
 simp only[AA.AG,As,AR,Ba,Ap,BB]at R0 K S B a0 a1 a2 Yl M ⊢;have SF:(2:Nat)<=maxLen:=by unfold maxLen;omega
 have SG:(3:Nat)<=maxLen:=by unfold maxLen;omega
 refine en AQX AQ9 ?_;have H:=(cj6 @SF @SG @Ba.eq_1 @As @AR.eq_1 @Fl AR8)
 repeat any_goals (first|refine Eo ?_|exact Bt H|(with_reducible refine LA.loop (LA.round ?_))|(with_reducible refine LA.round ?_)|refine De H ?_|refine BV H (Yl) ?_|refine BV H (R0) ?_|refine BV H (M) ?_|refine BV H (a0) ?_|refine BV H (a1) ?_|refine BV H (a2) ?_|refine BV H (B) ?_|refine BV H (K) ?_|refine BV H (S) ?_|refine DI H ?_|((first|refine JC H ?_ ?_|refine JE H ?_ ?_|refine JD H ?_ ?_|refine JY H ?_ ?_)<;>intro h<;>try (exfalso;first|omega|contradiction)))
theorem AmR (ho:AA.FY AE)(hc:AA.Az AE<=1000000):AC AF 121 [.c (.sl (AA.AG AE))] (.c (.bool (AE.all AA.Ad))):=by
 obtain⟨o,M⟩:=AI (AA.AG AE);have K:G o=G AE:=by rw[<-M,Dt];simp
 have Ce:=Ud AE;rw[M];refine en func121 ntmps121 ?_;refine wy (cj @K<|AbH) trivial ⟨?_⟩;refine lp (ι:={ k:Nat // k<=G AE/\AE.all AA.Ad=(AE.drop k).all AA.Ad }) (λk=>[(2,.c (.bool U)),(3,.c (.int .i64 (k.1:Int)))]) (λ_=>[]) (λk=>G AE - k.1) ⟨0,by simp⟩ ?_ ?_;all_goals simp only[CG,Bw,CO,Ag,Ai]
 exact DH
 . rintro ⟨k,hk,S⟩;simp only;by_cases B:k<G AE
   . obtain⟨c,H⟩:=AI (AE[k]);have Q:AE[k]?=J c:=by rw[BE B,H]
     rw[D5 B,H,Ep]at S;have q:o[k]?=J c.row:=by rw[<-M,Dt,CM,Q];rfl
     have Dp:k<G o:=by omega
     have Bu:=gx q;have FX:=bj AE k c Q;have z:=m7 c (kl ho c (Cj Q)) (by omega);rw[As]at z;have R:=(cj5 @K @B @Dp @q @Bu AbH)
     have cc:=(cj z<|trivial)
     repeat any_goals (first|refine Du R cc ⟨?_⟩|exact Bt R|(refine Dv R ?_ ?_<;>intro h<;>try exact Dw))
     all_goals exact⟨⟨k+1,by omega,by rw[S,h,Cd]⟩,by simp only;omega,wd 0⟩
   rw[FA (by omega),Nq]at S;exact wz (cj2 @K @B AbH) W
def HX:List AA->Int->Int
 | [],w=>w
 | b::l,w=>HX l (w+b.w)
theorem AkC : ∀(l:List AA) (k:Nat) (b:AA) (w:Int),l[k]?=J b->HX (l.take (k+1)) w=HX (l.take k) w+b.w
 | [],_,_,_,h=>by simp at h
 | x::l,0,b,w,h=>by simp at h;subst h;rfl
 | x::l,k+1,b,w,h=>by simp only[DP,HX];exact AkC l k b _ (by simpa using h)
theorem AmS (hv : ∀b∈AE,b.Ad=I)(IP:G AE<=1000000):AC AF 122 [.c (.sl (AA.AG AE))] (.c (.int .i64 (HX AE 0))):=by
 obtain⟨S,M⟩:=AI (AA.AG AE);have K:G S=G AE:=by rw[<-M,Dt];simp
 rw[M];refine en func122 ntmps122 ?_;refine wy (cj @K<|AbK) trivial ⟨?_⟩;refine lp (ι:={ k:Nat // k<=G AE/\ -(k:Int)*1073741824<=HX (AE.take k) 0/\HX (AE.take k) 0<=(k:Int)*1073741824 }) (λk=>[(2,.c (.int .i64 0)),(3,.c (.int .i64 (HX (AE.take k.1) 0))),(4,.c (.int .i64 (k.1:Int)))]) (λ_=>[]) (λk=>G AE - k.1) ⟨0,by simp[HX]⟩ ?_ ?_;all_goals simp only[CG,Bw,CO,Ag,Ai]
 exact ER (cj @HX.eq_1<|@HX.eq_2);rintro ⟨k,hk,b1,b2⟩;simp only;by_cases B:k<G AE;obtain⟨c,R⟩:=AI (AE[k]);have Q:AE[k]?=J c:=by rw[BE B,R]
 have o:S[k]?=J c.row:=by rw[<-M,Dt,CM,Q];rfl
 have z:k<G S:=by omega
 have q:=gx o;have H:=AkC AE k c 0 Q;obtain⟨cw,_⟩:=D3 (hv c (Cj Q));generalize hE:HX (AE.take k) 0=E at b1 b2 H ⊢;refine wy (cj6 @K @B @z @o @q @H.symm AbK) trivial ⟨?_⟩;exact⟨⟨k+1,by omega,by rw[H];omega,by rw[H];omega⟩,by simp only;omega,wd 0⟩;have e1:AE.take k=AE:=Gl (by omega);rw[e1];exact wz (cj2 @K @B AbK) W
@[simp] theorem AA.ArY (x:Int):b.vs.set 6 (.c (.int .i64 x))=(b.AS x b.y).vs:=by cases b;rfl
theorem AjS : ∀ {a:List AA} {p:List Int} (b:AA) (x:Int),G a=G p->EY (a++[b]) (p++[x])=EY a p++[b.AS x b.y]
 | [],[],b,x,_=>rfl
 | c::a,q::p,b,x,h=>by simp only[BK,EY];rw[AjS b x (by simpa using h)]
 | [],_::_,_,_,h=>by simp at h
 | _::_,[],_,_,h=>by simp at h
def Ix (w h d:Int)(AE:V):List V:=[.c (.int .i64 3),.c (.str ⟨#[]⟩),.c (.int .i64 0),.c (.int .i64 w),.c (.int .i64 h),.c (.int .i64 d),.c (.int .i64 0),.c (.int .i64 0),AE,.c (.int .i64 0),.Bg []]
theorem AmQ (sp:List Int)(w:Int)(hv : ∀b∈AE,b.Ad=I)(hs : ∀s∈sp,An s=I)(ho:AA.FY AE)(hl:G sp=G AE)(hc:AA.Az AE<=900000)(IP:G AE<=10000):AC AF 123 [.c (.sl (AA.AG AE)),.c (AV sp),.c (.int .i64 w)] (Ba (Tk AE (FT AE sp 0) w)):=by
 obtain⟨rs,Aw⟩:=AI (AA.AG AE);have q:G rs=G AE:=by rw[<-Aw,Dt];simp
 obtain⟨ps,Ru⟩:=AI (sp.map (λn=>[C.int .i64 n]));have o:G ps=G AE:=by rw[<-Ru,Ch,hl]
 have Wd:AV sp=.sl ps:=by rw[<-Ru];rfl
 have A1:=VK 0 hl;have K:=m7 (Qf AE (FT AE sp 0) w) (show AA.BX (Bf _ _ _ _)from⟨(CI _:0<=maxLen),(CI _:0<=maxLen),AJd ho⟩) (by show AA.cnt (Bf _ _ _ _)<=_;simp only[Bf,AA.cnt,dz A1];omega);rw[Aw,Wd];refine en func123 ntmps123 ?_;refine wy (cj2 @q @o ARh) trivial ⟨?_⟩;refine AW.le (Le.T4 1 8 41 11 rfl F) ?_;simp only[BA,List.length_nil,Nat.reduceAdd,Ag,Ai,BK,List.nil_append];refine lp (ι:={ k:Nat // k<=G AE/\KL (AE.take k) 0<=3000000000/\0<=KL (AE.take k) 0/\J1 (AE.take k) 0<=3000000000/\0<=J1 (AE.take k) 0/\ -(k:Int)*2147483648<=Eh (AE.take k) (sp.take k) 0/\Eh (AE.take k) (sp.take k) 0<=(k:Int)*2147483648 }) (λk=>[(9,.c (.int .i64 (Eh (AE.take k.1) (sp.take k.1) 0))),(10,.c (.int .i64 (k.1:Int)))]) (λk=>[.box 41 BT U,.box 41 (Ix w (KL (AE.take k.1) 0) (J1 (AE.take k.1) 0) (.gr 2 11 (AA.AG (EY (AE.take k.1) (FT (AE.take k.1) (sp.take k.1) 0))))) U,.tok 41 11 k.1]) (λk=>G AE - k.1) ⟨0,by simp[KL,J1,Eh]⟩ ?_ ?_;all_goals simp only[CG,Bw,CO,Ag,Ai]
 exact ER (cj9 @KL.eq_1 @KL.eq_2 @J1.eq_1 @J1.eq_2 @Eh.eq_1 @Eh.eq_2 @BT.eq_1 @Ix.eq_1 @EY.eq_1<|cj4 @EY.eq_2 @FT.eq_1 @FT.eq_2 @AA.AG.eq_1 @AA.AG.eq_2);rintro ⟨k,hk,t1,t2,b1,b2,e1,e2⟩;simp only;by_cases B:k<G AE;obtain⟨c,A2⟩:=AI (AE[k]);have H:AE[k]?=J c:=by rw[BE B,A2]
 have A0:k<G sp:=by omega
 obtain⟨s,Cu⟩:=AI (sp[k]);have z:sp[k]?=J s:=by rw[BE A0,Cu]
 have A9:rs[k]?=J c.row:=by rw[<-Aw,Dt,CM,H];rfl
 have Dp:k<G rs:=by omega
 have qo:k<G ps:=by omega
 have Bu:=gx A9;have KZ:ps[k]?=J [.int .i64 s]:=by rw[<-Ru,CM,z];rfl
 have rB:=gx KZ;have S:=hv c (Cj H);obtain⟨cw,ch,cd,_⟩:=D3 S;obtain⟨cx,cy⟩:=AaP S;have QW:=hs s (Cj z);simp[An]at QW;have hE:=xV 0 H z;have kE:=AJl 0 H z;have Q:=ALc AE k c 0 H;have M:=AEP AE k c 0 H;have GP:AE.take (k+1)=AE.take k++[c]:=by rw[List.take_add_one,H];rfl
 have HO:G (FT (AE.take k) (sp.take k) 0)=k:=by rw[VK _ (by simp[hl]),Fa];omega
 have Jg:=AjS c (Eh (AE.take k) (sp.take k) 0+s) (show G (AE.take k)=G (FT (AE.take k) (sp.take k) 0) by rw[HO,Fa];omega);rw[<-GP,<-kE]at Jg;have ml:AA.AG (EY (AE.take (k+1)) (FT (AE.take (k+1)) (sp.take (k+1)) 0))=AA.AG (EY (AE.take k) (FT (AE.take k) (sp.take k) 0))++[(c.AS (Eh (AE.take k) (sp.take k) 0+s) c.y).row]:=by rw[Jg,Dt,Dt,List.map_append];rfl
 have Md:G (AA.AG (EY (AE.take k) (FT (AE.take k) (sp.take k) 0)))=k:=by rw[Dt,Ch,kv (by rw[HO,Fa];omega),Fa];omega
 obtain⟨RR,R⟩:=AI (AA.AG (EY (AE.take k) (FT (AE.take k) (sp.take k) 0)));rw[R]at ml Md ⊢;generalize cH:Eh (AE.take k) (sp.take k) 0=E at hE ml e1 e2 ⊢;obtain⟨T,hT⟩:=AI (KL (AE.take k) 0);obtain⟨D,hD⟩:=AI (J1 (AE.take k) 0);rw[hT]at Q t1 t2 ⊢;rw[hD]at M b1 b2 ⊢;have Ew:(if T<c.y+c.h then c.y+c.h else T)=KL (AE.take (k+1)) 0:=Q.symm;have FP:(if D<c.d - c.y then c.d - c.y else D)=J1 (AE.take (k+1)) 0:=M.symm;have FO:k+1<=maxLen:=by unfold maxLen;omega
 have EX:(k+1)*128<=140737488355328:=by omega
 have A3:(RR.all λr=>G r==11)=true:=by rw[<-R];rw[ES];intro r hr;simpa using lE _ r hr
 have w1:AZ.wrap (E+s)=E+s:=Ac;have w2:AZ.wrap (E+s+c.w)=Eh (AE.take (k+1)) (sp.take (k+1)) 0:=by rw[hE];exact Ac
 have w3:AZ.wrap (c.y+c.h)=c.y+c.h:=Ac;have w4:AZ.wrap (c.d - c.y)=c.d - c.y:=Ac;clear Ew FP;have Ew:(if T<c.y+c.h then c.y+c.h else T)=KL (AE.take (k+1)) 0:=Q.symm;have FP:(if D<c.d - c.y then c.d - c.y else D)=J1 (AE.take (k+1)) 0:=M.symm;refine wy (cj9 @q @o @B @Dp @qo @A9 @Bu @KZ @rB<|cj9 @w1 @w2 @w3 @w4 @Ew @FP @FO @EX @Md<|cj2 @ml.symm @Ix.eq_1 ARh) trivial ⟨?_⟩;refine⟨⟨k+1,by omega,by rw[Q,DU];omega,by rw[Q,DU];omega,by rw[M,DU];omega,by rw[M,DU];omega,by rw[hE];omega,by rw[hE];omega⟩,by simp only;omega,?_⟩;refine Le.MI 3 (Nat.le_of_ble_eq_true F) (by simp[DG,BT,Ix]) (by simp[BT,Ix]) (by simp[V.BI,V.A8]) (by simp[O.A8,V.BI,V.A8,BT,Ix]);have x1:AE.take k=AE:=Gl (by omega);have x2:sp.take k=sp:=Gl (by omega);rw[x1,x2];unfold Tk;have eL:Qf AE (FT AE sp 0) w=⟨3,⟨#[]⟩,0,w,KL AE 0,J1 AE 0,0,0,EY AE (FT AE sp 0),0,[]⟩:=F;generalize A5:(Qf AE (FT AE sp 0) w).Ad=vb at K ⊢;rw[eL]at K ⊢;obtain⟨T,hT⟩:=AI (KL AE 0);obtain⟨D,hD⟩:=AI (J1 AE 0);obtain⟨RR,R⟩:=AI (AA.AG (EY AE (FT AE sp 0)));simp only[Ao,AA.row,AV,Ap,BB,hT,hD,R]at K ⊢;cases vb with
 | false=>rw[if_pos rfl];simp only[Ba,As,AR,Fl];exact wz (cj4 @q @B @Ix.eq_1 @BT.eq_1 ARh) (cj K<|trivial)
 | true=>rw[if_neg (by simp)];simp only[Ba,Ao,AR,AA.row,AV,Ap,BB,R];exact wz (cj4 @q @B @Ix.eq_1 @BT.eq_1 ARh) (cj K<|trivial)
def Jw:List Int->Int->Int
 | [],w=>w
 | s::l,w=>Jw l (w+s)
theorem Aj5 : ∀(l:List Int) (k:Nat) (b:Int) (w:Int),l[k]?=J b->Jw (l.take (k+1)) w=Jw (l.take k) w+b
 | [],_,_,_,h=>by simp at h
 | x::l,0,b,w,h=>by simp at h;subst h;rfl
 | x::l,k+1,b,w,h=>by simp only[DP,Jw];exact Aj5 l k b _ (by simpa using h)
theorem AQD : ∀(l:List Int) (w:Int),Jw l w=w+Jw l 0
 | [],w=>by simp[Jw]
 | s::l,w=>by simp only[Jw];rw[AQD l (w+s),AQD l (0+s)];omega
theorem Aaq : ∀(l:List AA) (w:Int),HX l w=w+HX l 0
 | [],w=>by simp[HX]
 | b::l,w=>by simp only[HX];rw[Aaq l (w+b.w),Aaq l (0+b.w)];omega
theorem AiM : ∀(l:List AA) (t:List Int) (e:Int),G t=G l->Eh l t e=e+HX l 0+Jw t 0
 | [],[],e,_=>by simp[Eh,HX,Jw]
 | b::l,s::t,e,h=>by
   simp only[Eh,HX,Jw];rw[AiM l t _ (by simpa using h),Aaq l (0+b.w),AQD t (0+s)];omega
 | [],_::_,_,h=>by simp at h
 | _::_,[],_,h=>by simp at h
theorem AkB : ∀(l:List AA) (w:Int),(∀b∈l,b.Ad=I)->w - (G l:Int)*1073741824<=HX l w/\HX l w<=w+(G l:Int)*1073741824
 | [],w,_=>by simp[HX]
 | b::l,w,h=>by
   obtain⟨H,_⟩:=D3 (h b List.mem_cons_self);have:=AkB l (w+b.w) λc B=>h c (List.mem_cons_of_mem _ B)
   simp only[HX,BA];omega
theorem AXX (sp:List Int)(ho:AA.FY AE)(hc:AA.Az AE<=900000)(IP:G AE<=10000)(A0:G sp<=10000):AC AF 70 [.c (.sl (AA.AG AE)),.c (AV sp)] (Ba (F9 AE sp)):=by
 have K:=AmR AE ho (by omega);obtain⟨rs,o⟩:=AI (AA.AG AE);have S:G rs=G AE:=by rw[<-o,Dt];simp
 obtain⟨ps,Ru⟩:=AI (sp.map (λn=>[C.int .i64 n]));have H:G ps=G sp:=by rw[<-Ru,Ch]
 have Wd:AV sp=.sl ps:=by rw[<-Ru];rfl
 rw[o]at K;unfold F9;rw[o,Wd];refine en func70 ntmps70 ?_;have ff:=(cj6 @S @H @Ba.eq_1 @As @AR.eq_1 @Fl RJ)
 have cc:=(cj K<|trivial)
 repeat any_goals (first|refine Du ff cc ⟨?_⟩|exact Bt ff|(refine Dv ff ?_ ?_<;>intro h<;>try exact Dw))
 have dJ:AE.all AA.Ad=true:=‹_›;have Mk:=ANN dJ;rw[if_neg (by simp[dJ])];have R:=AmS AE Mk (by omega);have Ws:=AkB AE 0 Mk;rw[o]at R;obtain⟨Xo,z⟩:=AI ((if G sp≠G AE\/sp.all An=U then(AA.zero,2)else Tk AE (FT AE sp 0) (Eh AE sp 0)));rw[z];obtain⟨W,hW⟩:=AI (HX AE 0);rw[hW]at R Ws;refine wy (cj2 @S @H RJ) (cj R<|trivial) ⟨?_⟩;refine lp (ι:={ k:Nat // k<=G sp/\sp.all An=(sp.drop k).all An/\W - (k:Int)*1073741824<=Jw (sp.take k) W/\Jw (sp.take k) W<=W+(k:Int)*1073741824 }) (λk=>[(5,.c (.int .i64 0)),(6,.c (.int .i64 (Jw (sp.take k.1) W))),(7,.c (.int .i64 (k.1:Int)))]) (λk=>[.box 41 BT U]) (λk=>G sp - k.1) ⟨0,by simp[Jw]⟩ ?_ ?_;all_goals simp only[CG,Bw,CO,Ag,Ai]
 exact ER (cj2 @Jw.eq_1 @Jw.eq_2 @BT.eq_1);rintro ⟨k,hk,M,b1,b2⟩;simp only;by_cases B:k<G sp;obtain⟨s,Cu⟩:=AI (sp[k]);have OE:sp[k]?=J s:=by rw[BE B,Cu]
 rw[D5 B,Cu,Ep]at M;have qo:k<G ps:=by omega
 have KZ:ps[k]?=J [.int .i64 s]:=by rw[<-Ru,CM,OE];rfl
 have rB:=gx KZ;have q:=sb s;have hw:=Aj5 sp k s W OE;generalize hE:Jw (sp.take k) W=E at b1 b2 hw ⊢;cases Q:An s with
 | false =>
   have e:Xo=(AA.zero,2):=by rw[<-z,if_pos (.inr (by rw[M,Q];rfl))]
   rw[e];rw[Q]at q;exact wz (cj9 @S @H @B @qo @KZ @rB @Ba.eq_1 @As @AR.eq_1<|cj2 @Fl @BT.eq_1 RJ) (cj q<|trivial)
 | true =>
   rw[Q]at q;rw[Q,Cd]at M;simp[An]at Q;have w1:AZ.wrap (E+s)=Jw (sp.take (k+1)) W:=by rw[hw];exact Ac
   refine wy (cj7 @S @H @B @qo @KZ @rB @w1 RJ) (cj q<|trivial) ⟨?_⟩;exact⟨⟨k+1,by omega,M,by rw[hw];omega,by rw[hw];omega⟩,by simp only;omega,wd 1⟩
 have e1:sp.take k=sp:=Gl (by omega);rw[FA (by omega),Nq]at M;rw[e1];by_cases hl:G sp=G AE;have zG:Jw sp W=Eh AE sp 0:=by rw[AiM AE sp 0 hl,AQD,hW];omega
 have e:Xo=Tk AE (FT AE sp 0) (Eh AE sp 0):=by rw[<-z,if_neg (by simp[M,hl])]
 have hp:=AmQ AE sp (Eh AE sp 0) Mk (λs Q=>ES.1 M s Q) ho hl hc IP;have BD:(G sp:Int)=(G AE:Int):=by omega
 rw[o,Wd]at hp;rw[e,zG];generalize hY:Tk AE (FT AE sp 0) (Eh AE sp 0)=Y at hp ⊢;simp only[Ba,As,AR]at hp ⊢;exact wz (cj5 @S @H @B @BD @BT.eq_1 RJ) (cj hp<|trivial);have e:Xo=(AA.zero,2):=by rw[<-z,if_pos (.inl hl)]
 have BD : ¬(G sp:Int)=(G AE:Int):=by omega
 rw[e];exact wz (cj9 @S @H @B @BD @Ba.eq_1 @As @AR.eq_1 @Fl @BT.eq_1 RJ) trivial
theorem AcM {b:AA}(h:b.Ad=I)(x y:Int):(b.AS x y).Ad=(An x && An y):=by
 obtain⟨Q,R,o,q,M,K,bx,Bq,B,S,H⟩:=b;simp only[AA.Ad,Ak,decide_eq_true_eq]at h;obtain⟨z,h2,h3⟩:=h;simp only[AA.D8,AA.Cl,AA.lens,Ak,Ep,Nq]at z;obtain⟨⟨⟨l1,l2,l3,l4,l5,_⟩,k1,k2⟩,h4⟩:=z;have nE:AA.Fi ⟨Q,R,o,q,M,K,x,y,B,S,H⟩=true:=k1;have kP:AA.Js ⟨Q,R,o,q,M,K,x,y,B,S,H⟩=true:=k2;have J3:AA.cnt ⟨Q,R,o,q,M,K,x,y,B,S,H⟩<=20000:=h2;have Jd:AA.nest ⟨Q,R,o,q,M,K,x,y,B,S,H⟩<=100:=h3;have ho:AA.Cl ⟨Q,R,o,q,M,K,x,y,B,S,H⟩=(An x && An y):=by
  unfold AA.Cl;rw[nE,kP];simp only[AA.lens,Ep,Nq,l1,l2,l3,Cd,Km]
 have hp:AA.D8 ⟨Q,R,o,q,M,K,x,y,B,S,H⟩=(An x && An y):=by
  show (AA.Cl ⟨Q,R,o,q,M,K,x,y,B,S,H⟩ && AA.FU B)=_;rw[ho,h4,Km]
 show (AA.D8 ⟨Q,R,o,q,M,K,x,y,B,S,H⟩ && (decide (AA.cnt ⟨Q,R,o,q,M,K,x,y,B,S,H⟩<=20000) && decide (AA.nest ⟨Q,R,o,q,M,K,x,y,B,S,H⟩<=100)))=_;rw[hp,decide_eq_true J3,decide_eq_true Jd,Bool.and_self,Km]
theorem AnC {b:AA}(hb:b.Ad=I)(L R:AA):F9 [L,b.AS b.x 0,R] [0,0,0]=F9 [L,b.AS 0 0,R] [0,0,0]:=by
 obtain⟨H,_⟩:=AaP hb;have B:An 0=true:=Mp (by omega) (by omega);have K:(b.AS b.x 0).Ad=true:=by rw[AcM hb,Mp H.1 H.2,B];rfl
 have M:(b.AS 0 0).Ad=true:=by rw[AcM hb,B];rfl
 have q1:([L,b.AS b.x 0,R].all AA.Ad)=([L,b.AS 0 0,R].all AA.Ad):=by simp only[Ep,K,M]
 have q2:G ([0,0,0]:List Int)≠[L,b.AS b.x 0,R].length↔G ([0,0,0]:List Int)≠[L,b.AS 0 0,R].length:=Iff.rfl;have Q:Tk [L,b.AS b.x 0,R] (FT [L,b.AS b.x 0,R] [0,0,0] 0) (Eh [L,b.AS b.x 0,R] [0,0,0] 0)=Tk [L,b.AS 0 0,R] (FT [L,b.AS 0 0,R] [0,0,0] 0) (Eh [L,b.AS 0 0,R] [0,0,0] 0):=F;unfold F9;rw[q1,Q];rfl
theorem Amu (f:AP)(B:ByteArray)(b:AA)(p:Int)(q:f.Fit)(hz : ∀s∈f.C5,G s.sizes<=1000)(z:b.BX)(hc:b.cnt<=800000)(hn:B.size<=maxLen):AC AF 130 [.agg f.vs,.c (.str B),Ao b,.c (.int .i64 p)] (Ba (O5 f B b p)):=by
 have EW:=ba f q;have CA:=m7 b z (by omega);have Wm:=AmF B hn;have M:=Am7 f b p q z (by omega);obtain⟨N,hN⟩:=AI (P9 f b p);unfold O5;rw[hN]at M ⊢;simp only[Ba,As,AR]at CA M ⊢;refine en func130 ntmps130 ?_;have H:=(cj4 @Ba.eq_1 @As @AR.eq_1 @Fl results130)
 repeat any_goals (first|refine Qu (.mk 6) ?_|exact Bt H|refine De H ?_|refine BV H (EW) ?_|refine BV H (CA) ?_|refine BV H (Wm) ?_|refine BV H (M) ?_|refine DI H ?_|((first|refine JC H ?_ ?_|refine JE H ?_ ?_|refine JD H ?_ ?_|refine JY H ?_ ?_)<;>intro h<;>try (exfalso;first|omega|contradiction)))
 have hv:f.valid=true:=‹_›;have D7:b.Ad=true:=‹_›;have S:Nh B=true:=‹_›;have p1:1<=p:=by omega
 have p2:p<=100:=by omega
 rw[if_neg (by simp[hv,D7,S]),if_neg (by omega)];obtain⟨L,hL,l1,l2⟩:=AE7 hv p1 p2 (sB S 0 (by omega)) N;obtain⟨R,hR,r1,r2⟩:=AE7 hv p1 p2 (sB S 1 (by omega)) N;have rE:=sC S;have o:=Ajh f (Kg B 0) N p q (by unfold Kg;rw[fg,rE];unfold maxLen;omega) hz;have K:=Ajh f (Kg B 1) N p q (by unfold Kg;rw[fg,rE];unfold maxLen;omega) hz;have Q:=AXX [L,b.AS b.x 0,R] [0,0,0] ⟨l1,F4 _ _ z,r1,trivial⟩ (by simp only[AA.Az,Hb];omega) (by simp) (by simp);rw[AnC D7]at Q;rw[hL]at o ⊢;rw[hR]at K ⊢;obtain⟨Y,hY⟩:=AI (F9 [L,b.AS 0 0,R] [0,0,0]);simp only[hY]at Q ⊢;obtain⟨A,hA⟩:=AI (b.AS b.x 0);rw[hA]at Q;unfold Kg at o K;simp only[Ba,As,AR,AA.AG,AV,Ap,BB,Nat.zero_add,Nat.reduceAdd]at o K Q ⊢;exact wz (cj2 @rE @hA results130) (cj3 o K Q W)
end Go.Proofs.YtglaipbdiofkfaaGreat
