/- Part of the proof of some laws. Conditions: none. -/
import Derived.Test.YtglaipbdiofkfaaGreatY15
set_option linter.unusedVariables false
set_option linter.unusedSimpArgs false
set_option maxRecDepth 100000
set_option maxHeartbeats 16000000
open Go.Proofs.Tryz renaming prog→AF,results146→ARn,func92→AQm,ntmps92→ARc,results92→APC,results156→gz,func96→AQw,ntmps96→ARg,results96→ADX
open Nat renaming zero_le→CI
open List renaming set_cons_succ→Ai,set_cons_zero→Ag,mem_cons→Cf,not_mem_nil→RE,cons_append→BK,nil_append→BU
open Option renaming some→J,none→E
open Bool renaming false→U,true→I
open List renaming length→G
namespace Go.Proofs.YtglaipbdiofkfaaGreat
open Go.RowKit Tryz
theorem WR (n p:Int):AC AF 232 [.c (.int .i64 n),.cp [.int .i64 p] 0] (.c (.int .i64 (AU n p))):=by
 refine en func232 ntmps232 ?_;exact wz (cj @AR.eq_1<|results232) (cj (EI n p)<|trivial)
def xb (f:AP)(s:Aa):V:=.agg [.c (.int .i64 (NL f s)),.c (.int .i64 (MZ f s)),.c (.int .i64 (TH f s)),.c (.int .i64 (YM f s)),.c (.int .i64 (YL f s))]
theorem APa (f:AP)(s:Aa)(hv:f.valid=I)(ho:s.ok=I):AC AF 146 [.agg f.vs,Aj s,.c (.int .i64 (BS f.params s))] (xb f s):=by
 obtain⟨p1,S⟩:=HE hv ho;unfold xb MZ TH YM YL NL Aj;generalize hP:BS f.params s=P at p1 S ⊢;have q:=DM (p:=P) f.params.rule (by omega) S;have z:=DM (p:=P) f.params.FD (by omega) S;have K:=WR f.params.rule P;have M:=WR f.params.FD P;obtain⟨R,hR⟩:=AI (AU f.params.rule P);obtain⟨A,hA⟩:=AI (AU f.params.FD P);rw[hR]at q K ⊢;rw[hA]at z M ⊢;have b3:=J6 R;have Q:=Ke R;generalize hH:Bm R=H at b3 Q ⊢;by_cases B:s.By=0;have o:s.By=0↔True:=iff_true_intro B;simp only[o,if_true];refine en func146 ntmps146 ?_;refine wu (.mk 2) (cj @AR.eq_1<|ARn) trivial ⟨?_⟩;refine Cn 2 ?_;exact wz (cj @o<|ARn) (cj K<|cj M<|cj Q<|cj (WR f.params.VH P)<|cj (WR f.params.Uf P)<|cj (WR f.params.Tp P)<|cj (WR f.params.TE P)<|trivial);simp only[B,if_false];refine en func146 ntmps146 ?_;refine wu (.mk 2) (cj @AR.eq_1<|ARn) trivial ⟨?_⟩;refine Cn 2 ?_;exact wz (cj @B<|ARn) (cj K<|cj M<|cj Q<|cj (WR f.params.Tp P)<|cj (WR f.params.TE P)<|trivial)
theorem AFk (b:AA)(y w:Int)(H:G b.src<=1000000)(K : -4000000000<=w - b.w)(M:w - b.w<=4000000000):AC AF 147 [.agg b.vs,.c (.int .i64 y),.cp [.int .i64 w] 0] (.agg (b.AS (Bm (w - b.w)) y).vs):=by
 have h:=Gu b (Bm (w - b.w)) y H;have B:=Ke (w - b.w);rw[As,As]at h;refine en func147 ntmps147 ?_;exact wz (cj @AR.eq_1<|results147) (cj2 B h W)
theorem ALF {b:AA}(h:b.Ad=I):G b.src<=1000000:=by have:=GD h;cases b;simp only[AA.Fq]at this;exact this.1
theorem AWA (f:AP)(s:Aa)(n d:AA)(hn:n.BX)(CB:n.cnt<=1000000)(hd:d.BX)(B0:d.cnt<=1000000):AC AF 92 [.agg f.vs,Aj s,Ao n,Ao d] (Ba (cE f s n d)):=by
 have B:=LI f s;have H:=EL n hn CB;have K:=EL d hd B0;by_cases hg:s.ok=false\/f.valid=false;have e:cE f s n d=(AA.zero,1):=if_pos (by rcases hg with h|h<;>simp[h]);have e0:IT f s=(0,1):=if_pos hg;rw[e];rw[e0]at B;unfold Aj at *
 simp only[Ba,As,AR]at B H K ⊢;refine en AQm ARc ?_;exact wz (cj @Fl<|APC) (cj3 B H K trivial);obtain⟨ho,hv⟩:s.ok=I/\f.valid=true:=by simpa using hg
 have e0:IT f s=(BS f.params s,0):=if_neg hg;rw[e0]at B;cases o:n.Ad with
 | false =>
   have e:cE f s n d=(AA.zero,1):=if_pos (by simp[o]);rw[e];rw[o]at H;unfold Aj at *
   simp only[Ba,As,AR]at B H K ⊢;refine en AQm ARc ?_;exact wz (cj @Fl<|APC) (cj3 B H K trivial)
 | true =>
   rw[o]at H;cases q:d.Ad with
   | false =>
     have e:cE f s n d=(AA.zero,1):=if_pos (by simp[q]);rw[e];rw[q]at K;unfold Aj at *
     simp only[Ba,As,AR]at B H K ⊢;refine en AQm ARc ?_;exact wz (cj @Fl<|APC) (cj3 B H K trivial)
   | true =>
     rw[q]at K;have e:cE f s n d=C8 (WO f s n d):=if_neg (by simp[o,q,hv,ho]);rw[e];obtain⟨nw,nh,nd,nc⟩:=D3 o;obtain⟨dw,dh,dd,dc⟩:=D3 q;obtain⟨p1,p2⟩:=HE hv ho;have hm:=APa f s hv ho;have bR:=DM (p:=BS f.params s) f.params.rule (by omega) p2;have bA:=DM (p:=BS f.params s) f.params.FD (by omega) p2;have bN:=DM (p:=BS f.params s) (if s.By=0 then f.params.VH else f.params.Tp) (by omega) p2;have bD:=DM (p:=BS f.params s) (if s.By=0 then f.params.Uf else f.params.TE) (by omega) p2;have bH:=J6 (NL f s);have bY : -2147483648<=MZ f s/\MZ f s<=2147483648:=by unfold MZ;omega
     have A7 : -1073741824<=NL f s/\NL f s<=1073741824:=bR;have bG : -3221225472<=TH f s/\TH f s<=3221225472:=by unfold TH;split<;>omega
     have A6 : -1073741824<=YM f s/\YM f s<=1073741824:=bN;have A5 : -1073741824<=YL f s/\YL f s<=1073741824:=bD;have eB:WO f s n d=Bf (TJ n d) (mx (cF f s n+n.h) (MZ f s+NL f s)) (mx (d.d+cD f s d) (-(MZ f s))) [n.AS (Bm (TJ n d - n.w)) (cF f s n),(FV (TJ n d) (NL f s) 0).AS 0 (MZ f s),d.AS (Bm (TJ n d - d.w)) (-(cD f s d))]:=F;have eU:cF f s n=mx (YM f s) (MZ f s+NL f s+TH f s+n.d):=F;have z:cD f s d=mx (YL f s) (d.h+TH f s - MZ f s):=F;have eW:TJ n d=mx (mx 0 n.w) d.w:=F;rw[eB];unfold xb at hm;obtain⟨U,hU⟩:=AI (cF f s n);obtain⟨L,hL⟩:=AI (cD f s d);obtain⟨W,hW⟩:=AI (TJ n d);rw[hU]at eU;rw[hL]at z;rw[hW]at eW;rw[hU,hL,hW];clear eB e hU hL hW bR bA bN bD bH;obtain⟨R,hR⟩:=AI (NL f s);obtain⟨Y,hY⟩:=AI (MZ f s);obtain⟨G,hG⟩:=AI (TH f s);obtain⟨N,hN⟩:=AI (YM f s);obtain⟨D,hD⟩:=AI (YL f s);rw[hR,hY,hG,hN,hD]at hm;rw[hN,hY,hR,hG]at eU;rw[hD,hG,hY]at z;rw[hR]at A7 ⊢;rw[hY]at bY ⊢;rw[hG]at bG;rw[hN]at A6;rw[hD]at A5;clear hR hY hG hN hD;have bU : -1073741824<=U/\U<=8589934592:=by rw[eU,DU];omega
     have bL : -1073741824<=L/\L<=8589934592:=by rw[z,DU];omega
     have bW:0<=W/\W<=1073741824:=by rw[eW,DU,DU];omega
     have qB:(if 0<n.w then n.w else 0)=mx 0 n.w:=F;obtain⟨M,hM⟩:=AI (mx 0 n.w);rw[hM]at eW qB;have A9:(if N<Y+R+G+n.d then Y+R+G+n.d else N)=U:=eU.symm;have A8:(if D<d.h+G - Y then d.h+G - Y else D)=L:=z.symm;have ed:(if M<d.w then d.w else M)=W:=eW.symm;have G8:=AFk n U W (ALF o) (by omega) (by omega);have HN:=AFk d (-L) W (ALF q) (by omega) (by omega);have PT:=ABF W R 0;have Q:=Gu (FV W R 0) 0 Y (by simp[FV]);obtain⟨hk,EC⟩:AA.JH [n.AS (Bm (W - n.w)) U,(FV W R 0).AS 0 Y,d.AS (Bm (W - d.w)) (-L)]/\AA.FY [n.AS (Bm (W - n.w)) U,(FV W R 0).AS 0 Y,d.AS (Bm (W - d.w)) (-L)]:=⟨⟨HJ _ _ (GD o),HJ _ _ (ABd _ _ _),HJ _ _ (GD q),trivial⟩,F4 _ _ hn,F4 _ _ (ABe _ _ _),F4 _ _ hd,trivial⟩
     have Sr:AA.Az [n.AS (Bm (W - n.w)) U,(FV W R 0).AS 0 Y,d.AS (Bm (W - d.w)) (-L)]<=50000:=by simp only[AA.Az,Hb,lH];omega
     have S:=My W (mx (U+n.h) (Y+R)) (mx (d.d+L) (-Y)) [n.AS (Bm (W - n.w)) U,(FV W R 0).AS 0 Y,d.AS (Bm (W - d.w)) (-L)] hk (by omega);have Ct:=EL (Bf W (mx (U+n.h) (Y+R)) (mx (d.d+L) (-Y)) [n.AS (Bm (W - n.w)) U,(FV W R 0).AS 0 Y,d.AS (Bm (W - d.w)) (-L)]) ⟨(CI _:0<=maxLen),(CI _:0<=maxLen),EC⟩ (by simp only[Bf,AA.cnt];omega);obtain⟨Z,hZ⟩:=AI (Bf W (mx (U+n.h) (Y+R)) (mx (d.d+L) (-Y)) [n.AS (Bm (W - n.w)) U,(FV W R 0).AS 0 Y,d.AS (Bm (W - d.w)) (-L)]);rw[hZ]at S Ct ⊢;clear hZ hk EC Sr;have Yv:(if U+n.h<Y+R then Y+R else U+n.h)=mx (U+n.h) (Y+R):=F;have Yu:(if d.d+L < -Y then -Y else d.d+L)=mx (d.d+L) (-Y):=F;obtain⟨MT,qP⟩:=AI (mx (U+n.h) (Y+R));obtain⟨MB,qO⟩:=AI (mx (d.d+L) (-Y));rw[qP]at Yv S;rw[qO]at Yu S;unfold Aj at *
     simp only[AA.AG,As,AR]at B S Ct Q PT H K ⊢;obtain⟨A0,Gr⟩:=AI (n.AS (Bm (W - n.w)) U);obtain⟨A2,Fb⟩:=AI (d.AS (Bm (W - d.w)) (-L));obtain⟨A3,Ik⟩:=AI (FV W R 0);rw[Ik]at PT Q S;obtain⟨A1,Ec⟩:=AI (A3.AS 0 Y);rw[Gr]at G8 S;rw[Fb]at HN S;rw[Ec]at Q S;clear Gr Ec Fb Ik qP qO hM eU z eW;unfold C8;refine en AQm ARc ?_;refine wu (.mk 10) (cj4 @qB @A9 @A8 @ed APC) (cj4 B H K hm trivial) ⟨?_⟩;refine Cn 6 ?_;exact wz (cj6 @Yv @Yu @Ba.eq_1 @As @AR.eq_1 @Fl APC) (cj6 PT Q G8 HN S Ct trivial)
theorem SW.AWq {P:Program}{K:Exit->St->Prop}{ops:List Oper}{s:St}{o:Oper}{r:List Oper}{t S:TypeId}{j:Nat}{q:Option AA}(M:o.op=.binOp .eql t (.tmp j) (.const (.pointer E)) S)(Q:lV P t=I)(H:BQ ops s.t o.guard=J I)(B:Ka o.op=U)(R:s.t[j]?=J (Pf q))(h:SW P ops K r (s.step o.dst (.c (.bool q.isNone)) E)):SW P ops K (o::r) s:=by
 cases q with
 | none=>exact SW.eF (b:=U) M (.inl ⟨rfl,rfl⟩) Q H B R (.inl ⟨rfl,rfl⟩) h
 | some g=>exact SW.eF (b:=U) M (.inl ⟨rfl,rfl⟩) Q H B R (.inr ⟨⟨_,_,rfl⟩,rfl⟩) h
theorem fK (l:List AA)(K:G l<=1)(M : ∀c∈l,c.Ad=I/\c.BX):AC AF 155 [.c (.sl (AA.AG l))] (.c (.bool I)):=by
 match l,K with
 | [],_=>simp only[AA.AG];refine en func155 ntmps155 ?_;exact wz (cj @AR.eq_1<|results155) W
 | [c],_=>obtain⟨B,H⟩:=M c (by simp);have h:=EL c H (by have:=(D3 B).2.2.2;omega);rw[B,As]at h;simp only[AA.AG];refine en func155 ntmps155 ?_;exact wz (cj @AR.eq_1<|results155) (cj h<|trivial)
theorem AIH {s:Aa}(B:s.ok=I):s.By=0\/s.By=1\/s.By=2\/s.By=3:=by simp[Aa.ok]at B;omega
theorem AW6 (p:Params)(s:Aa)(H:s.ok=I):AC AF 236 [.agg p.vs,Aj s] (.c (.int .i64 (XO p s))):=by
 have B:=AIH H;obtain⟨l,c⟩:=s;simp only at B;unfold Aj XO Params.vs Params.list;simp only[List.map_cons,List.map_nil];rcases B with rfl|rfl|rfl|rfl<;>cases c
 all_goals
  refine en func236 ntmps236 ?_;exact wz (cj @AR.eq_1<|results236) W
theorem lO (n p:Int):AC AF 235 [.c (.int .i64 n),.cp [.int .i64 p] 0] (.c (.int .i64 (AU n p))):=by
 refine en func235 ntmps235 ?_;exact wz (cj @AR.eq_1<|results235) (cj (EI n p)<|trivial)
theorem AYy {s:Aa}(H:s.ok=I):XW 8 1 s=(Kf s,0)/\(Kf s).ok=true:=by
 have B:=AIH H;refine⟨?_,?_⟩;unfold XW;rw[if_neg (by simp[H,H2]),if_neg (by simp[H2])];rfl;unfold Kf GB;obtain⟨l,c⟩:=s;simp only at B;rcases B with rfl|rfl|rfl|rfl<;>simp[Aa.ok,VU]
theorem ABH (f:AP)(s:Aa)(b:AA)(sub sup:List AA)(hv:f.valid=I)(ho:s.ok=I)(hb:b.Ad=I)(l1:G sub<=1)(l2:G sup<=1)(h1 : ∀c∈sub,c.Ad=I)(h2 : ∀c∈sup,c.Ad=I) :
 AC AF 156 [.agg f.vs,Aj s,.c (.int .i64 (BS f.params s)),Ao b,.c (.sl (AA.AG sub)),.c (.sl (AA.AG sup))] (.A7 [.c (.int .i64 (Ez f s b sub sup).1),.c (.int .i64 (Ez f s b sub sup).2)]):=by
 obtain⟨p1,p2⟩:=HE hv ho;obtain⟨bw,bh,bd,bc⟩:=D3 hb;obtain⟨e8,rz⟩:=AYy ho;obtain⟨q1,q2⟩:=HE hv rz;have Ca:=ABA b;have DJ:=ABI 8 1 s;rw[e8]at DJ;have Jg:=LI f (Kf s);rw[show IT f (Kf s)=(BS f.params (Kf s),0)from if_neg (by simp[rz,hv])]at Jg;have Yz:=AW6 f.params s ho;have cQ:Qs f s b=if b.simp.isSome then 0 else b.h - AU f.params.Q5 (BS f.params (Kf s)):=F
 have cR:Od f s b=if b.simp.isSome then 0 else b.d+AU f.params.Qz (BS f.params (Kf s)):=F
 have yY:M1 f s=AU f.params.Gj (BS f.params s):=F;have wV:=DM (p:=BS f.params (Kf s)) f.params.Q5 (by omega) q2;have wW:=DM (p:=BS f.params (Kf s)) f.params.Qz (by omega) q2;have bU : -2147483648<=Qs f s b/\Qs f s b<=2147483648:=by rw[cQ];split<;>omega
 have bV : -2147483648<=Od f s b/\Od f s b<=2147483648:=by rw[cR];split<;>omega
 have bR:=DM (p:=BS f.params s) (XO f.params s) (by omega) p2;have wS:=DM (p:=BS f.params s) f.params.Qx (by omega) p2;have wT:=DM (p:=BS f.params s) f.params.Qy (by omega) p2;have wR:=DM (p:=BS f.params s) f.params.rule (by omega) p2;have iX:=DM (p:=25) (M1 f s) (by omega) (by omega);have wP:=DM (p:=80) (M1 f s) (by omega) (by omega);have hx:=lO f.params.Gj (BS f.params s);rw[<-yY]at hx;have S:=EI (M1 f s) 25;have H:=EI (M1 f s) 80;have kF:=EI f.params.Q5 (BS f.params (Kf s));have Iq:=EI f.params.Qz (BS f.params (Kf s));have cM:=lO (XO f.params s) (BS f.params s);have cO:=lO f.params.Qx (BS f.params s);have YX:=lO f.params.Qy (BS f.params s);have jV:=lO f.params.rule (BS f.params s);have dU : ∀c l,H0 f s b (c::l)=mx (mx (Qs f s b) (AU (XO f.params s) (BS f.params s))) (c.d+AU (M1 f s) 25):=λ_ _=>rfl
 have YF:Nm f s b=mx (Od f s b) (AU f.params.Qy (BS f.params s)):=F;have dL:Sb f s=4*AU f.params.rule (BS f.params s):=F;have iq : ∀c l,Ez f s b (c::l) []=(Qs f s b,mx (mx (Od f s b) (AU f.params.Qx (BS f.params s))) (c.h - AU (M1 f s) 80)):=λ_ _=>rfl
 have pU:Ez f s b [] []=(Qs f s b,Od f s b):=F;have xG : ∀c l,Ez f s b [] (c::l)=(H0 f s b (c::l),Od f s b):=λ_ _=>rfl
 have pV : ∀c d,Ez f s b [c] [d]=if H0 f s b [d] - d.d - (c.h - Nm f s b)<Sb f s then(if 0<AU (M1 f s) 80 - (H0 f s b [d] - d.d)then(H0 f s b [d]+(AU (M1 f s) 80 - (H0 f s b [d] - d.d)),Nm f s b+(Sb f s - (H0 f s b [d] - d.d - (c.h - Nm f s b))) - (AU (M1 f s) 80 - (H0 f s b [d] - d.d)))else(H0 f s b [d],Nm f s b+(Sb f s - (H0 f s b [d] - d.d - (c.h - Nm f s b)))))else(H0 f s b [d],Nm f s b):=λ_ _=>rfl
 obtain⟨Xo,K⟩:=AI (Ez f s b sub sup);rw[K];obtain⟨T,hT⟩:=AI (Kf s);rw[hT]at DJ Jg cQ cR wV wW kF Iq q1 q2;obtain⟨P,hP⟩:=AI (BS f.params s);obtain⟨Q,hQ⟩:=AI (BS f.params T);rw[hQ]at Jg cQ cR wV wW kF Iq q1 q2;rw[hP]at p1 p2 bR wS wT wR hx cM cO YX jV YF dL yY ⊢;simp only[hP]at dU iq;obtain⟨X,hX⟩:=AI (M1 f s);rw[hX]at iX wP hx S H;simp only[hX]at dU iq pV;obtain⟨iJ,xN⟩:=AI (AU X 25);obtain⟨oK,pg⟩:=AI (AU X 80);obtain⟨R,xR⟩:=AI (Qs f s b);obtain⟨q,ph⟩:=AI (Od f s b);obtain⟨o,xP⟩:=AI (AU (XO f.params s) P);obtain⟨S1,xQ⟩:=AI (AU f.params.Qx P);obtain⟨S2,fB⟩:=AI (AU f.params.Qy P);obtain⟨RU,aX⟩:=AI (AU f.params.rule P);obtain⟨V2,xS⟩:=AI (Nm f s b);obtain⟨LS,xO⟩:=AI (Sb f s);rw[xN]at iX S;rw[pg]at wP H;rw[xR]at cQ bU pU;rw[ph]at cR bV pU YF;rw[xP]at bR cM;rw[xQ]at wS cO;rw[fB]at wT YX YF;rw[aX]at wR jV dL;rw[xS]at YF;rw[xO]at dL;simp only[xR,xN,xP,ph,xQ,pg]at dU iq;simp only[pg,xS,xO]at pV;simp only[ph]at xG;have A1 : -2147483648<=V2/\V2<=2147483648:=by rw[YF,DU];omega
 have bL : -4294967296<=LS/\LS<=4294967296:=by omega
 clear yY hX hP hQ hT xN pg xR ph xP xQ fB aX xS xO hb ho hv e8 rz;rw[As];unfold Aj Zx at *
 simp only[Aj,AR]at DJ Jg;obtain⟨A2,HP⟩:=AI (AA.AG sub);obtain⟨ei,G9⟩:=AI (AA.AG sup);rw[HP,G9];refine en func156 ntmps156 ?_;refine wu (.mk 1) (cj @AR.eq_1<|gz) trivial ⟨?_⟩;refine Cn 2 ?_;refine Cn 3 ?_;refine wu (.mk 2) (cj @AR.eq_1<|gz) trivial ⟨?_⟩;refine AW.DA ?_;refine SW.take 1 (AH.out ?_);simp only[List.take_succ_cons,List.take_zero];have B:=(cj @AR.eq_1<|gz)
 repeat any_goals (first|refine Eo ?_|exact Bt B|refine De B ?_|refine BV B (Ca) ?_|refine DI B ?_)
 simp only[List.drop_succ_cons,List.drop_zero];refine SW.AWq rfl (by kernel_rfl) rfl rfl rfl ?_;simp only[St.step,St.put,Bk,Ai,Ag];refine SW.nil ?_;refine G3 ?_;refine jn (λ_:Unit=>[(12,.c (.int .i64 R)),(13,.c (.int .i64 q))]) ?_ ?_;all_goals simp only[CG,List.foldl_cons,List.foldl_nil,Ag,Ai]
 cases hs:b.simp with
 | some g =>
   have e1:R=0:=by rw[cQ,hs];rfl
   have e2:q=0:=by rw[cR,hs];rfl
   refine go @e1 ?_;refine⟨(),?_⟩;exact ER (cj @e1<|@e2)
 | none =>
   have e1:b.h - AU f.params.Q5 Q=R:=by rw[cQ,hs];rfl
   have e2:b.d+AU f.params.Qz Q=q:=by rw[cR,hs];rfl
   refine wy (cj3 @AR.eq_1 @e1 @e2 gz) (cj4 DJ Jg kF Iq W) ⟨?_⟩;refine⟨(),?_⟩;exact wd 4 (hb:=by simp[V.BI,V.A8,Pf])
 . intro _;match sub,sup,l1,l2 with
   | [],[],_,_ =>
     simp only[AA.AG]at HP G9;subst HP G9;rw[pU]at K;subst K;have B:=(cj @AR.eq_1<|gz)
     have z:=(cj2 hx H W)
     repeat any_goals (first|refine Du B z ⟨?_⟩|exact Bt B|(with_reducible refine LA.loop (LA.round ?_))|(with_reducible refine LA.round ?_)|(refine Dv B ?_ ?_<;>intro h<;>try exact Dw))
   | [],[d],_,_ =>
     simp only[AA.AG]at HP G9;subst HP G9;obtain⟨dw,dh,dd,_⟩:=D3 (h2 d (by simp));rw[xG,dU]at K;subst K;have m1:(if R<o then o else R)=mx R o:=F;have bM : -2147483648<=mx R o/\mx R o<=2147483648:=by rw[DU];omega
     obtain⟨M,hM⟩:=AI (mx R o);rw[hM]at m1 bM ⊢;have m2:(if M<d.d+iJ then d.d+iJ else M)=mx M (d.d+iJ):=F;have B:=(cj3 @AR.eq_1 @m1 @m2 gz)
     have z:=(cj5 hx H Yz cM S W)
     repeat any_goals (first|refine Du B z ⟨?_⟩|exact Bt B|(with_reducible refine LA.loop (LA.round ?_))|(with_reducible refine LA.round ?_)|(refine Dv B ?_ ?_<;>intro h<;>try exact Dw))
   | [c],[],_,_ =>
     simp only[AA.AG]at HP G9;subst HP G9;obtain⟨cw,ch,cd,_⟩:=D3 (h1 c (by simp));rw[iq]at K;subst K;have m1:(if q<S1 then S1 else q)=mx q S1:=F;have bM : -2147483648<=mx q S1/\mx q S1<=2147483648:=by rw[DU];omega
     obtain⟨M,hM⟩:=AI (mx q S1);rw[hM]at m1 bM ⊢;have m2:(if M<c.h - oK then c.h - oK else M)=mx M (c.h - oK):=F;have B:=(cj3 @AR.eq_1 @m1 @m2 gz)
     have z:=(cj3 hx H cO W)
     repeat any_goals (first|refine Du B z ⟨?_⟩|exact Bt B|(with_reducible refine LA.loop (LA.round ?_))|(with_reducible refine LA.round ?_)|(refine Dv B ?_ ?_<;>intro h<;>try exact Dw))
   | [c],[d],_,_ =>
     simp only[AA.AG]at HP G9;subst HP G9;obtain⟨cw,ch,cd,_⟩:=D3 (h1 c (by simp));obtain⟨dw,dh,dd,_⟩:=D3 (h2 d (by simp));rw[pV]at K;have iu:=dU d [];obtain⟨U1,gQ⟩:=AI (H0 f s b [d]);rw[gQ]at K iu;have m1:(if R<o then o else R)=mx R o:=F;have bM : -2147483648<=mx R o/\mx R o<=2147483648:=by rw[DU];omega
     obtain⟨M,hM⟩:=AI (mx R o);rw[hM]at m1 bM iu;have m2:(if M<d.d+iJ then d.d+iJ else M)=U1:=iu.symm;have A0 : -2147483648<=U1/\U1<=2147483648:=by rw[iu,DU];omega
     have m3:(if q<S2 then S2 else q)=V2:=YF.symm;have m4:4*RU=LS:=dL.symm;clear iu hM gQ dU pU xG iq pV YF dL;by_cases c1:U1 - d.d - (c.h - V2)<LS
     . rw[if_pos c1]at K;by_cases c2:0<oK - (U1 - d.d)
       . rw[if_pos c2]at K;subst K;have P6:=iff_true_intro c1;have wX:=iff_true_intro c2;have B:=(cj7 @AR.eq_1 @m1 @m2 @m3 @m4 @P6 @wX gz)
         have z:=(cj7 hx H Yz cM S YX jV W)
         repeat any_goals (first|refine Du B z ⟨?_⟩|exact Bt B|(with_reducible refine LA.loop (LA.round ?_))|(with_reducible refine LA.round ?_)|(refine Dv B ?_ ?_<;>intro h<;>try exact Dw))
       . rw[if_neg c2]at K;subst K;have P6:=iff_true_intro c1;have B:=(cj7 @AR.eq_1 @m1 @m2 @m3 @m4 @P6 @c2 gz)
         have z:=(cj7 hx H Yz cM S YX jV W)
         repeat any_goals (first|refine Du B z ⟨?_⟩|exact Bt B|(with_reducible refine LA.loop (LA.round ?_))|(with_reducible refine LA.round ?_)|(refine Dv B ?_ ?_<;>intro h<;>try exact Dw))
     . rw[if_neg c1]at K;subst K;have B:=(cj6 @AR.eq_1 @m1 @m2 @m3 @m4 @c1 gz)
       have z:=(cj7 hx H Yz cM S YX jV W)
       repeat any_goals (first|refine Du B z ⟨?_⟩|exact Bt B|(with_reducible refine LA.loop (LA.round ?_))|(with_reducible refine LA.round ?_)|(refine Dv B ?_ ?_<;>intro h<;>try exact Dw))
theorem AY0 {s:Aa}(H:s.ok=I):(Kf s).ok=true:=by
 have B:s.By=0\/s.By=1\/s.By=2\/s.By=3:=by simp[Aa.ok]at H;omega
 unfold Kf GB;obtain⟨l,c⟩:=s;simp only at B;rcases B with rfl|rfl|rfl|rfl<;>simp[Aa.ok,VU]
theorem AHz {f:AP}{b:AA}(K:f.valid=I)(hb:b.Ad=I):0<=F8 f b/\F8 f b<=1073741824:=by
 unfold F8;split;rename_i g H;obtain⟨Q,R⟩:=tA hb H;rw[DU];unfold AU;split;rename_i M;have B:=Ql K g.name;unfold BG.Small at B;have:=Qh (f.pick g.name).Ey g.size 20000 1000 (by omega) (by omega) (by omega) (by omega);unfold Ea;split<;>omega;omega;omega
theorem ABm {f:AP}{s:Aa}{b:AA}{sub sup:List AA}(Q:f.valid=I)(M:s.ok=I)(hb:b.Ad=I)(l1:G sub<=1)(l2:G sup<=1)(H : ∀c∈sub,c.Ad=I)(K : ∀c∈sup,c.Ad=I) :
 (-100000000000<=(Ez f s b sub sup).1/\(Ez f s b sub sup).1<=100000000000)/\ -100000000000<=(Ez f s b sub sup).2/\(Ez f s b sub sup).2<=100000000000:=by
 obtain⟨p1,B⟩:=HE Q M;obtain⟨bw,bh,bd,bc⟩:=D3 hb;obtain⟨q1,q2⟩:=HE Q (AY0 M);have wV:=DM (p:=BS f.params (Kf s)) f.params.Q5 (by omega) q2;have wW:=DM (p:=BS f.params (Kf s)) f.params.Qz (by omega) q2;have bU : -2147483648<=Qs f s b/\Qs f s b<=2147483648:=by unfold Qs;split<;>omega
 have bV : -2147483648<=Od f s b/\Od f s b<=2147483648:=by unfold Od;split<;>omega
 have bR:=DM (p:=BS f.params s) (XO f.params s) (by omega) B;have wS:=DM (p:=BS f.params s) f.params.Qx (by omega) B;have wT:=DM (p:=BS f.params s) f.params.Qy (by omega) B;have wR:=DM (p:=BS f.params s) f.params.rule (by omega) B;have iX:=DM (p:=25) (M1 f s) (by omega) (by omega);have wP:=DM (p:=80) (M1 f s) (by omega) (by omega);have S : -2147483648<=Nm f s b/\Nm f s b<=2147483648:=by unfold Nm;rw[DU];omega
 have bL : -4294967296<=Sb f s/\Sb f s<=4294967296:=by unfold Sb;omega
 match sub,sup,l1,l2 with
 | [],[],_,_=>simp only[Ez,H0];omega
 | [],[d],_,_=>obtain⟨dw,dh,dd,_⟩:=D3 (K d (by simp));simp only[Ez,H0,DU];omega
 | [c],[],_,_=>obtain⟨z,q,o,_⟩:=D3 (H c (by simp));simp only[Ez,H0,DU];omega
 | [c],[d],_,_ =>
   obtain⟨z,q,o,_⟩:=D3 (H c (by simp));obtain⟨dw,dh,dd,_⟩:=D3 (K d (by simp));have R : -4294967296<=H0 f s b [d]/\H0 f s b [d]<=4294967296:=by simp only[H0,DU];omega
   simp only[Ez];unfold s8 s9;split;split<;>(simp only;omega);simp only;omega
theorem AWD (f:AP)(s:Aa)(b:AA)(sub sup:List AA)(hf:f.Fit)(hv:f.valid=true)(ho:s.ok=true)(hb:b.Ad=true)(ob:b.BX)(l1:G sub<=1)(l2:G sup<=1)(h1 : ∀c∈sub,c.Ad=true/\c.BX)(h2 : ∀c∈sup,c.Ad=true/\c.BX):AC AF 96 [.agg f.vs,Aj s,Ao b,.c (.sl (AA.AG sub)),.c (.sl (AA.AG sup))] (Ba (C8 (Oc f s b sub sup))):=by
 have g1:=λc hc=>(h1 c hc).1
 have g2:=λc hc=>(h2 c hc).1
 obtain⟨bw,bh,bd,bn⟩:=D3 hb;obtain⟨p1,p2⟩:=HE hv ho;have vb:=EL b ob (by omega);rw[hb]at vb;have C3:=LI f s;rw[show IT f s=(BS f.params s,0)from if_neg (by simp[hv,ho])]at C3;have s1:=fK sub (by omega) h1;have s2:=fK sup (by omega) h2;have R0:=ABH f s b sub sup hv ho hb l1 l2 g1 g2;have ig:=ABm hv ho hb l1 l2 g1 g2;have Q:=ku f b hf hv hb ob;have bit:=AHz (f:=f) (b:=b) hv hb;have eK:eu f s b sub sup=b.AS 0 0::((match (generalizing:=false) sub with | []=>[]|c::_=>[c.AS (b.w - F8 f b) (-(Ez f s b sub sup).2)])++(match (generalizing:=false) sup with | []=>[]|c::_=>[c.AS b.w (Ez f s b sub sup).1])):=F;unfold Oc;rw[eK];clear eK;obtain⟨u,hu⟩:=AI ((Ez f s b sub sup).1);obtain⟨v,FQ⟩:=AI ((Ez f s b sub sup).2);obtain⟨I,hI⟩:=AI (F8 f b);rw[hu,FQ]at R0 ig ⊢;rw[hI]at Q bit ⊢;clear hu FQ hI;have q:=Gu b 0 0 (Nn hb);have SF:(2:Nat)<=maxLen:=by unfold maxLen;omega
 have SG:(3:Nat)<=maxLen:=by unfold maxLen;omega
 have z0:(0:Nat)<=maxLen:=CI _;match sub,sup,l1,l2 with
 | [],[],_,_ =>
   have H:=kq [b.AS 0 0] (by simp) (by
    intro x hx;simp only[Cf,RE,or_false]at hx;rcases hx with rfl
    all_goals (constructor<;>(unfold Oi;simp only[iU,iT,iS,iV,iW];omega)))
   dsimp only[BK,BU];obtain⟨⟨E0,R,S,o⟩,hE⟩:=AI (DQ [b.AS 0 0]);rw[hE]at H ⊢;clear hE;have K:=My R S o [b.AS 0 0] ⟨HJ _ _ (GD hb),trivial⟩ (by simp only[AA.Az,Hb];omega);have M:=EL (Bf R S o [b.AS 0 0]) ⟨z0,z0,F4 _ _ ob,trivial⟩ (by simp only[Bf,AA.cnt,AA.Az,Hb];omega);obtain⟨A0,z⟩:=AI (b.AS 0 0);rw[z]at q H K M ⊢;obtain⟨Z,hZ⟩:=AI (Bf R S o [A0]);dsimp only;rw[hZ]at K M ⊢;clear hZ z;unfold Aj YG at *
   simp only[AA.AG,As,AR,Ba]at R0 K M H q vb C3 s1 s2 Q ⊢;unfold C8;refine en AQw ARg ?_;have B:=(cj6 @SF @SG @Ba.eq_1 @As @AR.eq_1 @Fl ADX)
   repeat any_goals (first|refine Eo ?_|exact Bt B|(with_reducible refine LA.loop (LA.round ?_))|(with_reducible refine LA.round ?_)|refine De B ?_|refine BV B (C3) ?_|refine BV B (vb) ?_|refine BV B (s1) ?_|refine BV B (s2) ?_|refine BV B (R0) ?_|refine BV B (Q) ?_|refine BV B (q) ?_|refine BV B (H) ?_|refine BV B (K) ?_|refine BV B (M) ?_|refine DI B ?_|((first|refine JC B ?_ ?_|refine JE B ?_ ?_|refine JD B ?_ ?_|refine JY B ?_ ?_)<;>intro h<;>try (exfalso;first|omega|contradiction)))
 | [],[d],_,_ =>
   obtain⟨hd,od⟩:=h2 d (by simp);obtain⟨dw,dh,dd,dn⟩:=D3 hd;have a2:=Gu d b.w u (Nn hd);have H:=kq [b.AS 0 0,d.AS b.w u] (by simp) (by
    intro x hx;simp only[Cf,RE,or_false]at hx;rcases hx with rfl|rfl
    all_goals (constructor<;>(unfold Oi;simp only[iU,iT,iS,iV,iW];omega)))
   dsimp only[BK,BU];obtain⟨⟨E0,R,S,o⟩,hE⟩:=AI (DQ [b.AS 0 0,d.AS b.w u]);rw[hE]at H ⊢;clear hE;have K:=My R S o [b.AS 0 0,d.AS b.w u] ⟨HJ _ _ (GD hb),HJ _ _ (GD hd),trivial⟩ (by simp only[AA.Az,Hb];omega);have M:=EL (Bf R S o [b.AS 0 0,d.AS b.w u]) ⟨z0,z0,F4 _ _ ob,F4 _ _ od,trivial⟩ (by simp only[Bf,AA.cnt,AA.Az,Hb];omega);obtain⟨A0,z⟩:=AI (b.AS 0 0);rw[z]at q H K M ⊢;obtain⟨A2,kX⟩:=AI (d.AS b.w u);rw[kX]at a2 H K M ⊢;obtain⟨Z,hZ⟩:=AI (Bf R S o [A0,A2]);dsimp only;rw[hZ]at K M ⊢;clear hZ z kX;unfold Aj YG at *
   simp only[AA.AG,As,AR,Ba]at R0 K M H q a2 vb C3 s1 s2 Q ⊢;unfold C8;refine en AQw ARg ?_;have B:=(cj6 @SF @SG @Ba.eq_1 @As @AR.eq_1 @Fl ADX)
   repeat any_goals (first|refine Eo ?_|exact Bt B|(with_reducible refine LA.loop (LA.round ?_))|(with_reducible refine LA.round ?_)|refine De B ?_|refine BV B (C3) ?_|refine BV B (vb) ?_|refine BV B (s1) ?_|refine BV B (s2) ?_|refine BV B (R0) ?_|refine BV B (Q) ?_|refine BV B (q) ?_|refine BV B (a2) ?_|refine BV B (H) ?_|refine BV B (K) ?_|refine BV B (M) ?_|refine DI B ?_|((first|refine JC B ?_ ?_|refine JE B ?_ ?_|refine JD B ?_ ?_|refine JY B ?_ ?_)<;>intro h<;>try (exfalso;first|omega|contradiction)))
 | [c],[],_,_ =>
   obtain⟨hc,oc⟩:=h1 c (by simp);obtain⟨cw,ch,cd,cn⟩:=D3 hc;have a1:=Gu c (b.w - I) (-v) (Nn hc);have H:=kq [b.AS 0 0,c.AS (b.w - I) (-v)] (by simp) (by
    intro x hx;simp only[Cf,RE,or_false]at hx;rcases hx with rfl|rfl
    all_goals (constructor<;>(unfold Oi;simp only[iU,iT,iS,iV,iW];omega)))
   dsimp only[BK,BU];obtain⟨⟨E0,R,S,o⟩,hE⟩:=AI (DQ [b.AS 0 0,c.AS (b.w - I) (-v)]);rw[hE]at H ⊢;clear hE;have K:=My R S o [b.AS 0 0,c.AS (b.w - I) (-v)] ⟨HJ _ _ (GD hb),HJ _ _ (GD hc),trivial⟩ (by simp only[AA.Az,Hb];omega);have M:=EL (Bf R S o [b.AS 0 0,c.AS (b.w - I) (-v)]) ⟨z0,z0,F4 _ _ ob,F4 _ _ oc,trivial⟩ (by simp only[Bf,AA.cnt,AA.Az,Hb];omega);obtain⟨A0,z⟩:=AI (b.AS 0 0);rw[z]at q H K M ⊢;obtain⟨A1,Lz⟩:=AI (c.AS (b.w - I) (-v));rw[Lz]at a1 H K M ⊢;obtain⟨Z,hZ⟩:=AI (Bf R S o [A0,A1]);dsimp only;rw[hZ]at K M ⊢;clear hZ z Lz;unfold Aj YG at *
   simp only[AA.AG,As,AR,Ba]at R0 K M H q a1 vb C3 s1 s2 Q ⊢;unfold C8;refine en AQw ARg ?_;have B:=(cj6 @SF @SG @Ba.eq_1 @As @AR.eq_1 @Fl ADX)
   repeat any_goals (first|refine Eo ?_|exact Bt B|(with_reducible refine LA.loop (LA.round ?_))|(with_reducible refine LA.round ?_)|refine De B ?_|refine BV B (C3) ?_|refine BV B (vb) ?_|refine BV B (s1) ?_|refine BV B (s2) ?_|refine BV B (R0) ?_|refine BV B (Q) ?_|refine BV B (q) ?_|refine BV B (a1) ?_|refine BV B (H) ?_|refine BV B (K) ?_|refine BV B (M) ?_|refine DI B ?_|((first|refine JC B ?_ ?_|refine JE B ?_ ?_|refine JD B ?_ ?_|refine JY B ?_ ?_)<;>intro h<;>try (exfalso;first|omega|contradiction)))
 | [c],[d],_,_ =>
   obtain⟨hc,oc⟩:=h1 c (by simp);obtain⟨cw,ch,cd,cn⟩:=D3 hc;have a1:=Gu c (b.w - I) (-v) (Nn hc);obtain⟨hd,od⟩:=h2 d (by simp);obtain⟨dw,dh,dd,dn⟩:=D3 hd;have a2:=Gu d b.w u (Nn hd);have H:=kq [b.AS 0 0,c.AS (b.w - I) (-v),d.AS b.w u] (by simp) (by
    intro x hx;simp only[Cf,RE,or_false]at hx;rcases hx with rfl|rfl|rfl
    all_goals (constructor<;>(unfold Oi;simp only[iU,iT,iS,iV,iW];omega)))
   dsimp only[BK,BU];obtain⟨⟨E0,R,S,o⟩,hE⟩:=AI (DQ [b.AS 0 0,c.AS (b.w - I) (-v),d.AS b.w u]);rw[hE]at H ⊢;clear hE;have K:=My R S o [b.AS 0 0,c.AS (b.w - I) (-v),d.AS b.w u] ⟨HJ _ _ (GD hb),HJ _ _ (GD hc),HJ _ _ (GD hd),trivial⟩ (by simp only[AA.Az,Hb];omega);have M:=EL (Bf R S o [b.AS 0 0,c.AS (b.w - I) (-v),d.AS b.w u]) ⟨z0,z0,F4 _ _ ob,F4 _ _ oc,F4 _ _ od,trivial⟩ (by simp only[Bf,AA.cnt,AA.Az,Hb];omega);obtain⟨A0,z⟩:=AI (b.AS 0 0);rw[z]at q H K M ⊢;obtain⟨A1,Lz⟩:=AI (c.AS (b.w - I) (-v));rw[Lz]at a1 H K M ⊢;obtain⟨A2,kX⟩:=AI (d.AS b.w u);rw[kX]at a2 H K M ⊢;obtain⟨Z,hZ⟩:=AI (Bf R S o [A0,A1,A2]);dsimp only;rw[hZ]at K M ⊢;clear hZ z Lz kX;unfold Aj YG at *
   simp only[AA.AG,As,AR,Ba]at R0 K M H q a1 a2 vb C3 s1 s2 Q ⊢;unfold C8;refine en AQw ARg ?_;have B:=(cj6 @SF @SG @Ba.eq_1 @As @AR.eq_1 @Fl ADX)
   repeat any_goals (first|refine Eo ?_|exact Bt B|(with_reducible refine LA.loop (LA.round ?_))|(with_reducible refine LA.round ?_)|refine De B ?_|refine BV B (C3) ?_|refine BV B (vb) ?_|refine BV B (s1) ?_|refine BV B (s2) ?_|refine BV B (R0) ?_|refine BV B (Q) ?_|refine BV B (q) ?_|refine BV B (a1) ?_|refine BV B (a2) ?_|refine BV B (H) ?_|refine BV B (K) ?_|refine BV B (M) ?_|refine DI B ?_|((first|refine JC B ?_ ?_|refine JE B ?_ ?_|refine JD B ?_ ?_|refine JY B ?_ ?_)<;>intro h<;>try (exfalso;first|omega|contradiction)))
end Go.Proofs.YtglaipbdiofkfaaGreat
