/- Part of the proof of breakpointPieces.proved. Conditions: none. -/
import Derived.Test.YtegconioojpgmaaGreatY10
import Derived.Test.YtegconioojpgmaaGreatY24
set_option linter.unusedVariables false
set_option linter.unusedSimpArgs false
set_option maxRecDepth 100000
set_option maxHeartbeats 16000000
open Go.Proofs.Tryz renaming prog->AF,results168->Abe,func132->Aak,ntmps132->AiQ,results132->ADC,func177->nB,ntmps177->nP,results177->na,results178->gg,func175->AFV,ntmps175->AiX,results175->vJ
open Option renaming some->J,none->E
open Bool renaming false->U,true->I
open List renaming length->G
namespace Go.Proofs.YtegconioojpgmaaGreat
open Go.RowKit Tryz
theorem WR (n p:Int):AC AF 212 [n,.cp [.int .i64 p] 0] (AU n p:Int):=by
 refine en func212 ntmps212 ?_;exact wz (cj @AR.eq_1<|results212) (cj (EI n p)<|trivial)
def xb (f:AP)(s:Aa):V:=.agg [.c (.int .i64 (NL f s)),.c (.int .i64 (MZ f s)),.c (.int .i64 (TH f s)),.c (.int .i64 (YM f s)),.c (.int .i64 (YL f s))]
theorem APa (f:AP)(s:Aa)(hv:f.valid=I)(ho:s.ok=I):AC AF 168 [.agg f.vs,Aj s,(BS f.params s:Int)] (xb f s):=by
 obtain⟨p1,S⟩:=HE hv ho;unfold xb MZ TH YM YL NL Aj;generalize hP:BS f.params s=P at p1 S ⊢;have q:=DM (p:=P) f.params.rule Ux S;have z:=DM (p:=P) f.params.FD Ux S;have K:=WR f.params.rule P;have M:=WR f.params.FD P;obtain⟨R,hR⟩:=AI (AU f.params.rule P);obtain⟨A,hA⟩:=AI (AU f.params.FD P);rw[hR]at q K ⊢;rw[hA]at z M ⊢;have b3:=J6 R;have Q:=Ke R;generalize hH:Bm R=H at b3 Q ⊢;by_cases B:s.By=0;have o:s.By=0↔True:=Awn B;simp only[o,Awg];refine en func168 ntmps168 ?_;refine wu (.mk 2) (cj @AR.eq_1<|Abe) trivial ⟨?_⟩;refine Cn 2 ?_;exact wz (cj @o<|Abe) (cj K<|cj M<|cj Q<|cj (WR f.params.VH P)<|cj (WR f.params.Uf P)<|cj (WR f.params.Tp P)<|cj (WR f.params.TE P)<|trivial);simp only[B,Awh];refine en func168 ntmps168 ?_;refine wu (.mk 2) (cj @AR.eq_1<|Abe) trivial ⟨?_⟩;refine Cn 2 ?_;exact wz (cj @B<|Abe) (cj K<|cj M<|cj Q<|cj (WR f.params.Tp P)<|cj (WR f.params.TE P)<|trivial)
theorem AFk (b:AA)(y w:Int)(hs:G b.src<=1000000)(H : -4000000000<=w - b.w)(K:w - b.w<=4000000000):AC AF 169 [.agg b.vs,y,.cp [.int .i64 w] 0] (.agg (b.AS (Bm (w - b.w)) y).vs):=by
 have h:=Gu b (Bm (w - b.w)) y hs;have B:=Ke (w - b.w);rw[As,As]at h;refine en func169 ntmps169 ?_;exact wz (cj @AR.eq_1<|results169) (cj2 B h W)
theorem ALF {b:AA}(h:b.Ad=I):G b.src<=1000000:=by have:=GD h;cases b;simp only[AA.Fq]at this;exact this.1
theorem AWA (f:AP)(s:Aa)(n d:AA)(hn:n.BX)(CB:n.cnt<=1000000)(hd:d.BX)(B0:d.cnt<=1000000):AC AF 132 [.agg f.vs,Aj s,Ao n,Ao d] (Ba (cE f s n d)):=by
 have B:=LI f s;have H:=EL n hn CB;have K:=EL d hd B0;by_cases hg:s.ok=false\/f.valid=false;have e:cE f s n d=(AA.zero,1):=Awd (by rcases hg with h|h<;>simp[h]);have e0:IT f s=(0,1):=Awd hg;rw[e];rw[e0]at B;unfold Aj at *
 simp only[Ba,As,AR]at B H K ⊢;refine en Aak AiQ ?_;exact wz (cj @Fl<|ADC) (cj3 B H K trivial);obtain⟨ho,hv⟩:s.ok=I/\f.valid=true:=by simpa using hg
 have e0:IT f s=(BS f.params s,0):=Awf hg;rw[e0]at B;cases o:n.Ad with
 | false =>
   have e:cE f s n d=(AA.zero,1):=Awd (by simp[o]);rw[e];rw[o]at H;unfold Aj at *
   simp only[Ba,As,AR]at B H K ⊢;refine en Aak AiQ ?_;exact wz (cj @Fl<|ADC) (cj3 B H K trivial)
 | true =>
   rw[o]at H;cases q:d.Ad with
   | false =>
     have e:cE f s n d=(AA.zero,1):=Awd (by simp[q]);rw[e];rw[q]at K;unfold Aj at *
     simp only[Ba,As,AR]at B H K ⊢;refine en Aak AiQ ?_;exact wz (cj @Fl<|ADC) (cj3 B H K trivial)
   | true =>
     rw[q]at K;have e:cE f s n d=C8 (WO f s n d):=Awf (by simp[o,q,hv,ho]);rw[e];obtain⟨nw,nh,nd,nc⟩:=D3 o;obtain⟨dw,dh,dd,dc⟩:=D3 q;obtain⟨p1,p2⟩:=HE hv ho;have hm:=APa f s hv ho;have bR:=DM (p:=BS f.params s) f.params.rule Ux p2;have bA:=DM (p:=BS f.params s) f.params.FD Ux p2;have bN:=DM (p:=BS f.params s) (if s.By=0 then f.params.VH else f.params.Tp) Ux p2;have bD:=DM (p:=BS f.params s) (if s.By=0 then f.params.Uf else f.params.TE) Ux p2;have bH:=J6 (NL f s);have bY : -2147483648<=MZ f s/\MZ f s<=2147483648:=by unfold MZ;omega
     have A7 : -1073741824<=NL f s/\NL f s<=1073741824:=bR;have bG : -3221225472<=TH f s/\TH f s<=3221225472:=by unfold TH;split<;>omega
     have A6 : -1073741824<=YM f s/\YM f s<=1073741824:=bN;have A5 : -1073741824<=YL f s/\YL f s<=1073741824:=bD;have eB:WO f s n d=Bf (TJ n d) (mx (cF f s n+n.h) (MZ f s+NL f s)) (mx (d.d+cD f s d) (-(MZ f s))) [n.AS (Bm (TJ n d - n.w)) (cF f s n),(FV (TJ n d) (NL f s) 0).AS 0 (MZ f s),d.AS (Bm (TJ n d - d.w)) (-(cD f s d))]:=F;have eU:cF f s n=mx (YM f s) (MZ f s+NL f s+TH f s+n.d):=F;have z:cD f s d=mx (YL f s) (d.h+TH f s - MZ f s):=F;have eW:TJ n d=mx (mx 0 n.w) d.w:=F;rw[eB];unfold xb at hm;obtain⟨U,hU⟩:=AI (cF f s n);obtain⟨L,hL⟩:=AI (cD f s d);obtain⟨W,hW⟩:=AI (TJ n d);rw[hU]at eU;rw[hL]at z;rw[hW]at eW;rw[hU,hL,hW];clear eB e hU hL hW bR bA bN bD bH;obtain⟨R,hR⟩:=AI (NL f s);obtain⟨Y,hY⟩:=AI (MZ f s);obtain⟨G,hG⟩:=AI (TH f s);obtain⟨N,hN⟩:=AI (YM f s);obtain⟨D,hD⟩:=AI (YL f s);rw[hR,hY,hG,hN,hD]at hm;rw[hN,hY,hR,hG]at eU;rw[hD,hG,hY]at z;rw[hR]at A7 ⊢;rw[hY]at bY ⊢;rw[hG]at bG;rw[hN]at A6;rw[hD]at A5;clear hR hY hG hN hD;have bU : -1073741824<=U/\U<=8589934592:=by rw[eU,DU];omega
     have bL : -1073741824<=L/\L<=8589934592:=by rw[z,DU];omega
     have bW:0<=W/\W<=1073741824:=by rw[eW,DU,DU];omega
     have qB:(if 0<n.w then n.w else 0)=mx 0 n.w:=F;obtain⟨M,hM⟩:=AI (mx 0 n.w);rw[hM]at eW qB;have A9:(if N<Y+R+G+n.d then Y+R+G+n.d else N)=U:=eU.symm;have A8:(if D<d.h+G - Y then d.h+G - Y else D)=L:=z.symm;have ed:(if M<d.w then d.w else M)=W:=eW.symm;have G8:=AFk n U W (ALF o) Ux Ux;have HN:=AFk d (-L) W (ALF q) Ux Ux;have PT:=ABF W R 0;have Q:=Gu (FV W R 0) 0 Y (by simp[FV]);obtain⟨hk,EC⟩:AA.JH [n.AS (Bm (W - n.w)) U,(FV W R 0).AS 0 Y,d.AS (Bm (W - d.w)) (-L)]/\AA.FY [n.AS (Bm (W - n.w)) U,(FV W R 0).AS 0 Y,d.AS (Bm (W - d.w)) (-L)]:=⟨⟨HJ _ _ (GD o),HJ _ _ (ABd _ _ _),HJ _ _ (GD q),trivial⟩,F4 _ _ hn,F4 _ _ (ABe _ _ _),F4 _ _ hd,trivial⟩
     have nu:AA.Az [n.AS (Bm (W - n.w)) U,(FV W R 0).AS 0 Y,d.AS (Bm (W - d.w)) (-L)]<=50000:=by simp only[AA.Az,Hb,lH];omega
     have S:=My W (mx (U+n.h) (Y+R)) (mx (d.d+L) (-Y)) [n.AS (Bm (W - n.w)) U,(FV W R 0).AS 0 Y,d.AS (Bm (W - d.w)) (-L)] hk Ux;have Ct:=EL (Bf W (mx (U+n.h) (Y+R)) (mx (d.d+L) (-Y)) [n.AS (Bm (W - n.w)) U,(FV W R 0).AS 0 Y,d.AS (Bm (W - d.w)) (-L)]) ⟨(CI _:0<=maxLen),(CI _:0<=maxLen),EC⟩ (by simp only[Bf,AA.cnt];omega);obtain⟨Z,hZ⟩:=AI (Bf W (mx (U+n.h) (Y+R)) (mx (d.d+L) (-Y)) [n.AS (Bm (W - n.w)) U,(FV W R 0).AS 0 Y,d.AS (Bm (W - d.w)) (-L)]);rw[hZ]at S Ct ⊢;clear hZ hk EC nu;have Yv:(if U+n.h<Y+R then Y+R else U+n.h)=mx (U+n.h) (Y+R):=F;have Yu:(if d.d+L < -Y then -Y else d.d+L)=mx (d.d+L) (-Y):=F;obtain⟨MT,qP⟩:=AI (mx (U+n.h) (Y+R));obtain⟨MB,qO⟩:=AI (mx (d.d+L) (-Y));rw[qP]at Yv S;rw[qO]at Yu S;unfold Aj at *
     simp only[AA.AG,As,AR]at B S Ct Q PT H K ⊢;obtain⟨A0,Gr⟩:=AI (n.AS (Bm (W - n.w)) U);obtain⟨A2,Fb⟩:=AI (d.AS (Bm (W - d.w)) (-L));obtain⟨A3,Ik⟩:=AI (FV W R 0);rw[Ik]at PT Q S;obtain⟨A1,Ec⟩:=AI (A3.AS 0 Y);rw[Gr]at G8 S;rw[Fb]at HN S;rw[Ec]at Q S;clear Gr Ec Fb Ik qP qO hM eU z eW;unfold C8;refine en Aak AiQ ?_;refine wu (.mk 10) (cj4 @qB @A9 @A8 @ed ADC) (cj4 B H K hm trivial) ⟨?_⟩;refine Cn 6 ?_;exact wz (cj6 @Yv @Yu @Ba.eq_1 @As @AR.eq_1 @Fl ADC) (cj6 PT Q G8 HN S Ct trivial)
theorem SW.AWq {P:Program}{K:Exit->St->Prop}{ops:List Oper}{s:St}{o:Oper}{r:List Oper}{t S:TypeId}{j:Nat}{q:Option AA}(M:o.op=.binOp .eql t (.tmp j) (.const (.pointer E)) S)(Q:lV P t=I)(H:BQ ops s.t o.guard=J I)(B:Ka o.op=U)(R:s.t[j]?=J (Pf q))(h:SW P ops K r (s.step o.dst (.c (.bool q.isNone)) E)):SW P ops K (o::r) s:=by
 cases q with
 | none=>exact SW.eF (b:=U) M (.inl ⟨rfl,rfl⟩) Q H B R (.inl ⟨rfl,rfl⟩) h
 | some g=>exact SW.eF (b:=U) M (.inl ⟨rfl,rfl⟩) Q H B R (.inr ⟨⟨_,_,rfl⟩,rfl⟩) h
theorem fK (l:List AA)(K:G l<=1)(M : ∀c∈l,c.Ad=I/\c.BX):AC AF 177 [.c (.sl (AA.AG l))] (.c (.bool I)):=by
 match l,K with
 | [],_=>simp only[AA.AG];refine en nB nP ?_;exact wz (cj @AR.eq_1<|na) W
 | [c],_=>obtain⟨B,H⟩:=M c ZA;have h:=EL c H (by have:=(D3 B).2.2.2;omega);rw[B,As]at h;simp only[AA.AG];refine en nB nP ?_;exact wz (cj @AR.eq_1<|na) (cj h<|trivial)
theorem AIH {s:Aa}(B:s.ok=I):s.By=0\/s.By=1\/s.By=2\/s.By=3:=by simp[Aa.ok]at B;omega
theorem AW6 (p:Params)(s:Aa)(H:s.ok=I):AC AF 216 [.agg p.vs,Aj s] (XO p s:Int):=by
 have B:=AIH H;obtain⟨l,c⟩:=s;simp only at B;unfold Aj XO Params.vs Params.list;simp only[Ap,BB];rcases B with rfl|rfl|rfl|rfl<;>cases c
 all_goals
  refine en func216 ntmps216 ?_;exact wz (cj @AR.eq_1<|results216) W
theorem lO (n p:Int):AC AF 215 [n,.cp [.int .i64 p] 0] (AU n p:Int):=by
 refine en func215 ntmps215 ?_;exact wz (cj @AR.eq_1<|results215) (cj (EI n p)<|trivial)
theorem AYy {s:Aa}(H:s.ok=I):XW 8 1 s=(Kf s,0)/\(Kf s).ok=true:=by
 have B:=AIH H;refine⟨?_,?_⟩;unfold XW;rw[Awf (by simp[H,H2]),Awf (by simp[H2])];rfl;unfold Kf GB;obtain⟨l,c⟩:=s;simp only at B;rcases B with rfl|rfl|rfl|rfl<;>simp[Aa.ok,VU]
theorem ABH (f:AP)(s:Aa)(b:AA)(sub sup:List AA)(hv:f.valid=I)(ho:s.ok=I)(hb:b.Ad=I)(l1:G sub<=1)(l2:G sup<=1)(h1 : ∀c∈sub,c.Ad=I)(h2 : ∀c∈sup,c.Ad=I) :
 AC AF 178 [.agg f.vs,Aj s,(BS f.params s:Int),Ao b,.c (.sl (AA.AG sub)),.c (.sl (AA.AG sup))] (.A7 [.c (.int .i64 (Ez f s b sub sup).1),.c (.int .i64 (Ez f s b sub sup).2)]):=by
 obtain⟨p1,p2⟩:=HE hv ho;obtain⟨bw,bh,bd,bc⟩:=D3 hb;obtain⟨e8,rz⟩:=AYy ho;obtain⟨q1,q2⟩:=HE hv rz;have Ca:=ABA b;have DJ:=ABI 8 1 s;rw[e8]at DJ;have Jg:=LI f (Kf s);rw[show IT f (Kf s)=(BS f.params (Kf s),0)from Awf (by simp[rz,hv])]at Jg;have Yz:=AW6 f.params s ho;have cQ:Qs f s b=if b.simp.isSome then 0 else b.h - AU f.params.Q5 (BS f.params (Kf s)):=F
 have cR:Od f s b=if b.simp.isSome then 0 else b.d+AU f.params.Qz (BS f.params (Kf s)):=F
 have yY:M1 f s=AU f.params.Gj (BS f.params s):=F;have wV:=DM (p:=BS f.params (Kf s)) f.params.Q5 Ux q2;have wW:=DM (p:=BS f.params (Kf s)) f.params.Qz Ux q2;have bU : -2147483648<=Qs f s b/\Qs f s b<=2147483648:=by rw[cQ];split<;>omega
 have bV : -2147483648<=Od f s b/\Od f s b<=2147483648:=by rw[cR];split<;>omega
 have bR:=DM (p:=BS f.params s) (XO f.params s) Ux p2;have wS:=DM (p:=BS f.params s) f.params.Qx Ux p2;have wT:=DM (p:=BS f.params s) f.params.Qy Ux p2;have wR:=DM (p:=BS f.params s) f.params.rule Ux p2;have iX:=DM (p:=25) (M1 f s) Ux Ux;have wP:=DM (p:=80) (M1 f s) Ux Ux;have hx:=lO f.params.Gj (BS f.params s);rw[<-yY]at hx;have S:=EI (M1 f s) 25;have H:=EI (M1 f s) 80;have kF:=EI f.params.Q5 (BS f.params (Kf s));have Iq:=EI f.params.Qz (BS f.params (Kf s));have cM:=lO (XO f.params s) (BS f.params s);have cO:=lO f.params.Qx (BS f.params s);have YX:=lO f.params.Qy (BS f.params s);have jV:=lO f.params.rule (BS f.params s);have dU : ∀c l,H0 f s b (c::l)=mx (mx (Qs f s b) (AU (XO f.params s) (BS f.params s))) (c.d+AU (M1 f s) 25):=λ_ _=>rfl
 have YF:Nm f s b=mx (Od f s b) (AU f.params.Qy (BS f.params s)):=F;have dL:Sb f s=4*AU f.params.rule (BS f.params s):=F;have iq : ∀c l,Ez f s b (c::l) []=(Qs f s b,mx (mx (Od f s b) (AU f.params.Qx (BS f.params s))) (c.h - AU (M1 f s) 80)):=λ_ _=>rfl
 have pU:Ez f s b [] []=(Qs f s b,Od f s b):=F;have xG : ∀c l,Ez f s b [] (c::l)=(H0 f s b (c::l),Od f s b):=λ_ _=>rfl
 have pV : ∀c d,Ez f s b [c] [d]=if H0 f s b [d] - d.d - (c.h - Nm f s b)<Sb f s then(if 0<AU (M1 f s) 80 - (H0 f s b [d] - d.d)then(H0 f s b [d]+(AU (M1 f s) 80 - (H0 f s b [d] - d.d)),Nm f s b+(Sb f s - (H0 f s b [d] - d.d - (c.h - Nm f s b))) - (AU (M1 f s) 80 - (H0 f s b [d] - d.d)))else(H0 f s b [d],Nm f s b+(Sb f s - (H0 f s b [d] - d.d - (c.h - Nm f s b)))))else(H0 f s b [d],Nm f s b):=λ_ _=>rfl
 obtain⟨A3,K⟩:=AI (Ez f s b sub sup);rw[K];obtain⟨T,hT⟩:=AI (Kf s);rw[hT]at DJ Jg cQ cR wV wW kF Iq q1 q2;obtain⟨P,hP⟩:=AI (BS f.params s);obtain⟨Q,hQ⟩:=AI (BS f.params T);rw[hQ]at Jg cQ cR wV wW kF Iq q1 q2;rw[hP]at p1 p2 bR wS wT wR hx cM cO YX jV YF dL yY ⊢;simp only[hP]at dU iq;obtain⟨X,hX⟩:=AI (M1 f s);rw[hX]at iX wP hx S H;simp only[hX]at dU iq pV;obtain⟨iJ,xN⟩:=AI (AU X 25);obtain⟨oK,pg⟩:=AI (AU X 80);obtain⟨R,xR⟩:=AI (Qs f s b);obtain⟨q,ph⟩:=AI (Od f s b);obtain⟨o,xP⟩:=AI (AU (XO f.params s) P);obtain⟨S1,xQ⟩:=AI (AU f.params.Qx P);obtain⟨S2,A1⟩:=AI (AU f.params.Qy P);obtain⟨RU,A0⟩:=AI (AU f.params.rule P);obtain⟨V2,xS⟩:=AI (Nm f s b);obtain⟨LS,xO⟩:=AI (Sb f s);rw[xN]at iX S;rw[pg]at wP H;rw[xR]at cQ bU pU;rw[ph]at cR bV pU YF;rw[xP]at bR cM;rw[xQ]at wS cO;rw[A1]at wT YX YF;rw[A0]at wR jV dL;rw[xS]at YF;rw[xO]at dL;simp only[xR,xN,xP,ph,xQ,pg]at dU iq;simp only[pg,xS,xO]at pV;simp only[ph]at xG;have A6 : -2147483648<=V2/\V2<=2147483648:=by rw[YF,DU];omega
 have bL : -4294967296<=LS/\LS<=4294967296:=Ux;clear yY hX hP hQ hT xN pg xR ph xP xQ A1 A0 xS xO hb ho hv e8 rz;rw[As];unfold Aj Zx at *
 simp only[Aj,AR]at DJ Jg;obtain⟨A9,HP⟩:=AI (AA.AG sub);obtain⟨ei,G9⟩:=AI (AA.AG sup);rw[HP,G9];refine en func178 ntmps178 ?_;refine wu (.mk 1) (cj @AR.eq_1<|gg) trivial ⟨?_⟩;refine Cn 2 ?_;refine Cn 3 ?_;refine wu (.mk 2) (cj @AR.eq_1<|gg) trivial ⟨?_⟩;refine AW.DA ?_;refine SW.take 1 (AH.out ?_);simp only[DP,ET];have B:=(cj @AR.eq_1<|gg)
 repeat any_goals (first|refine Eo ?_|exact Bt B|refine De B ?_|refine BV B (Ca) ?_|refine DI B ?_)
 simp only[CU,B9];refine SW.AWq rfl ZC rfl rfl rfl ?_;simp only[St.step,St.put,Bk,Ai,Ag];refine SW.nil ?_;refine G3 ?_;refine jn (λ_:Unit=>[(12,.c (.int .i64 R)),(13,.c (.int .i64 q))]) ?_ ?_;all_goals simp only[CG,Bw,CO,Ag,Ai]
 cases hs:b.simp with
 | some g =>
   have e1:R=0:=by rw[cQ,hs];rfl
   have e2:q=0:=by rw[cR,hs];rfl
   refine go @e1 ?_;refine⟨(),?_⟩;exact ER (cj @e1<|@e2)
 | none =>
   have e1:b.h - AU f.params.Q5 Q=R:=by rw[cQ,hs];rfl
   have e2:b.d+AU f.params.Qz Q=q:=by rw[cR,hs];rfl
   refine wy (cj3 @AR.eq_1 @e1 @e2 gg) (cj4 DJ Jg kF Iq W) ⟨?_⟩;refine⟨(),?_⟩;exact wd 4 (hb:=by simp[V.BI,V.A8,Pf])
 . intro _;match sub,sup,l1,l2 with
   | [],[],_,_ =>
     simp only[AA.AG]at HP G9;subst HP G9;rw[pU]at K;subst K;have B:=(cj @AR.eq_1<|gg)
     have z:=(cj2 hx H W)
     repeat any_goals (first|refine Du B z ⟨?_⟩|exact Bt B|(with_reducible refine LA.loop (LA.round ?_))|(with_reducible refine LA.round ?_)|(refine Dv B ?_ ?_<;>intro h<;>try exact Dw))
   | [],[d],_,_ =>
     simp only[AA.AG]at HP G9;subst HP G9;obtain⟨dw,dh,dd,_⟩:=D3 (h2 d ZA);rw[xG,dU]at K;subst K;have m1:(if R<o then o else R)=mx R o:=F;have bM : -2147483648<=mx R o/\mx R o<=2147483648:=by rw[DU];omega
     obtain⟨M,hM⟩:=AI (mx R o);rw[hM]at m1 bM ⊢;have m2:(if M<d.d+iJ then d.d+iJ else M)=mx M (d.d+iJ):=F;have B:=(cj3 @AR.eq_1 @m1 @m2 gg)
     have z:=(cj5 hx H Yz cM S W)
     repeat any_goals (first|refine Du B z ⟨?_⟩|exact Bt B|(with_reducible refine LA.loop (LA.round ?_))|(with_reducible refine LA.round ?_)|(refine Dv B ?_ ?_<;>intro h<;>try exact Dw))
   | [c],[],_,_ =>
     simp only[AA.AG]at HP G9;subst HP G9;obtain⟨cw,ch,cd,_⟩:=D3 (h1 c ZA);rw[iq]at K;subst K;have m1:(if q<S1 then S1 else q)=mx q S1:=F;have bM : -2147483648<=mx q S1/\mx q S1<=2147483648:=by rw[DU];omega
     obtain⟨M,hM⟩:=AI (mx q S1);rw[hM]at m1 bM ⊢;have m2:(if M<c.h - oK then c.h - oK else M)=mx M (c.h - oK):=F;have B:=(cj3 @AR.eq_1 @m1 @m2 gg)
     have z:=(cj3 hx H cO W)
     repeat any_goals (first|refine Du B z ⟨?_⟩|exact Bt B|(with_reducible refine LA.loop (LA.round ?_))|(with_reducible refine LA.round ?_)|(refine Dv B ?_ ?_<;>intro h<;>try exact Dw))
   | [c],[d],_,_ =>
     simp only[AA.AG]at HP G9;subst HP G9;obtain⟨cw,ch,cd,_⟩:=D3 (h1 c ZA);obtain⟨dw,dh,dd,_⟩:=D3 (h2 d ZA);rw[pV]at K;have iu:=dU d [];obtain⟨U1,A2⟩:=AI (H0 f s b [d]);rw[A2]at K iu;have m1:(if R<o then o else R)=mx R o:=F;have bM : -2147483648<=mx R o/\mx R o<=2147483648:=by rw[DU];omega
     obtain⟨M,hM⟩:=AI (mx R o);rw[hM]at m1 bM iu;have m2:(if M<d.d+iJ then d.d+iJ else M)=U1:=iu.symm;have A5 : -2147483648<=U1/\U1<=2147483648:=by rw[iu,DU];omega
     have m3:(if q<S2 then S2 else q)=V2:=YF.symm;have m4:4*RU=LS:=dL.symm;clear iu hM A2 dU pU xG iq pV YF dL;by_cases c1:U1 - d.d - (c.h - V2)<LS
     . rw[Awd c1]at K;by_cases c2:0<oK - (U1 - d.d)
       . rw[Awd c2]at K;subst K;have P6:=Awn c1;have wX:=Awn c2;have B:=(cj7 @AR.eq_1 @m1 @m2 @m3 @m4 @P6 @wX gg)
         have z:=(cj7 hx H Yz cM S YX jV W)
         repeat any_goals (first|refine Du B z ⟨?_⟩|exact Bt B|(with_reducible refine LA.loop (LA.round ?_))|(with_reducible refine LA.round ?_)|(refine Dv B ?_ ?_<;>intro h<;>try exact Dw))
       . rw[Awf c2]at K;subst K;have P6:=Awn c1;have B:=(cj7 @AR.eq_1 @m1 @m2 @m3 @m4 @P6 @c2 gg)
         have z:=(cj7 hx H Yz cM S YX jV W)
         repeat any_goals (first|refine Du B z ⟨?_⟩|exact Bt B|(with_reducible refine LA.loop (LA.round ?_))|(with_reducible refine LA.round ?_)|(refine Dv B ?_ ?_<;>intro h<;>try exact Dw))
     . rw[Awf c1]at K;subst K;have B:=(cj6 @AR.eq_1 @m1 @m2 @m3 @m4 @c1 gg)
       have z:=(cj7 hx H Yz cM S YX jV W)
       repeat any_goals (first|refine Du B z ⟨?_⟩|exact Bt B|(with_reducible refine LA.loop (LA.round ?_))|(with_reducible refine LA.round ?_)|(refine Dv B ?_ ?_<;>intro h<;>try exact Dw))
theorem Zb (a b:Int):mn a b=min a b:=by unfold mn;omega
theorem Yb (a b:Int):(if a<b then b else a)=mx a b:=F
theorem et (a b:Int):(if b<a then b else a)=mn a b:=F
def VG (f:AP)(b:AA)(sub sup:List AA):List Int:=[HR f b sub sup - DY f b sub sup,(match sub with | []=>0|c::_=>Kd f b sub sup c) - DY f b sub sup,(match sup with | []=>0|c::_=>Kc f b sub sup c) - DY f b sub sup]
def Qe (f:AP)(s:Aa)(b:AA)(sub sup:List AA):Int:=kV (I4 b sub sup) (ri f s b sub sup)
theorem ATJ (f:AP)(s:Aa)(b:AA)(sub sup:List AA)(hb:b.Ad=I)(l1:G sub<=1)(l2:G sup<=1)(q : ∀c∈sub,c.Ad=I)(z : ∀c∈sup,c.Ad=I):AC AF 175 [.agg [.c (.sl [b.row]),.c (.sl (AA.AG sub)),.c (.sl (AA.AG sup))],(Jk f b:Int)] (.A7 [.agg ((VG f b sub sup).map λn=>.c (.int .i64 n)),(Qe f s b sub sup:Int)]):=by
 obtain⟨bw,bh,bd,bn⟩:=D3 hb;have bH : -1073741824<=Jk f b/\Jk f b<=1073741824:=J6 (F8 f b);have K : ∀c:AA,c.Ad=I-> -1073741824<=c.w/\c.w<=1073741824:=λc h=>(D3 h).1
 have hW:0<=I4 b sub sup/\I4 b sub sup<=1073741824:=by
  match sub,sup,l1,l2 with
  | [],[],_,_=>simp only[I4,IS,DU];omega
  | [],[d],_,_=>have:=K d (z d ZA);simp only[I4,IS,DU];omega
  | [c],[],_,_=>have:=K c (q c ZA);simp only[I4,IS,DU];omega
  | [c],[d],_,_=>have:=K c (q c ZA);have:=K d (z d ZA);simp only[I4,IS,DU];omega
 obtain⟨W,M⟩:=AI (I4 b sub sup);have R:=λ(c:AA)=>Ke (W - c.w)
 have S:=λ(c:AA)=>J6 (W - c.w)
 have pb:=R b;have qb:=S b;unfold VG Qe ri DY HR Kd Kc;rw[M]at hW ⊢;generalize hH:Jk f b=H at bH ⊢;generalize hX:Bm (W - b.w)=X at pb qb ⊢;match sub,sup,l1,l2 with
 | [],[],_,_ =>
   have hL : -4294967296<=mn 0 X/\mn 0 X<=0:=by rw[Zb];omega
   simp only[I4,IS]at M;simp only[kV,AA.AG,Ap,BB,BU,iU,iV];refine en AFV AiX ?_;have B:=(cj4 @AR.eq_1 @Yb @et @M vJ)
   have o:=(cj pb<|trivial)
   repeat any_goals (first|refine Du B o ⟨?_⟩|exact Bt B|(with_reducible refine LA.loop (LA.round ?_))|(with_reducible refine LA.round ?_)|(refine Dv B ?_ ?_<;>intro h<;>try exact Dw))
 | [],[d],_,_ =>
   have bd:=K d (z d ZA);have pd:=R d;have qd:=S d;obtain⟨Y,Q⟩:=AI (Bm (W - d.w));rw[Q]at pd qd;have hL : -4294967296<=mn (mn 0 X) (Y+H)/\mn (mn 0 X) (Y+H)<=0:=by simp only[Zb];omega
   simp only[I4,IS]at M;simp only[kV,AA.AG,Ap,BB,BU,iU,iV,Q];clear R S K q z;refine en AFV AiX ?_;have B:=(cj4 @AR.eq_1 @Yb @et @M vJ)
   have o:=(cj2 pb pd trivial)
   repeat any_goals (first|refine Du B o ⟨?_⟩|exact Bt B|(with_reducible refine LA.loop (LA.round ?_))|(with_reducible refine LA.round ?_)|(refine Dv B ?_ ?_<;>intro h<;>try exact Dw))
 | [c],[],_,_ =>
   have bc:=K c (q c ZA);have pc:=R c;have qc:=S c;obtain⟨Y,Q⟩:=AI (Bm (W - c.w));rw[Q]at pc qc;have hL : -4294967296<=mn (mn 0 X) (Y - H)/\mn (mn 0 X) (Y - H)<=0:=by simp only[Zb];omega
   simp only[I4,IS]at M;simp only[kV,AA.AG,Ap,BB,BK,BU,iU,iV,Q];clear R S K q z;refine en AFV AiX ?_;have B:=(cj4 @AR.eq_1 @Yb @et @M vJ)
   have o:=(cj2 pb pc trivial)
   repeat any_goals (first|refine Du B o ⟨?_⟩|exact Bt B|(with_reducible refine LA.loop (LA.round ?_))|(with_reducible refine LA.round ?_)|(refine Dv B ?_ ?_<;>intro h<;>try exact Dw))
 | [c],[d],_,_ =>
   have bc:=K c (q c ZA);have pc:=R c;have qc:=S c;obtain⟨Y,Q⟩:=AI (Bm (W - c.w));rw[Q]at pc qc;have bd:=K d (z d ZA);have pd:=R d;have qd:=S d;obtain⟨Z,hZ⟩:=AI (Bm (W - d.w));rw[hZ]at pd qd;have hL : -4294967296<=mn (mn (mn 0 X) (Y - H)) (Z+H)/\mn (mn (mn 0 X) (Y - H)) (Z+H)<=0:=by simp only[Zb];omega
   simp only[I4,IS]at M;simp only[kV,AA.AG,Ap,BB,BK,BU,iU,iV,Q,hZ];clear R S K q z;refine en AFV AiX ?_;have B:=(cj4 @AR.eq_1 @Yb @et @M vJ)
   have o:=(cj3 pb pc pd trivial)
   repeat any_goals (first|refine Du B o ⟨?_⟩|exact Bt B|(with_reducible refine LA.loop (LA.round ?_))|(with_reducible refine LA.round ?_)|(refine Dv B ?_ ?_<;>intro h<;>try exact Dw))
end Go.Proofs.YtegconioojpgmaaGreat
