/- Part of the proof of layoutParts.proved. Conditions: none. -/
import Derived.Test.YtglaipbdiofkfaaGreatY27
set_option linter.unusedVariables false
set_option linter.unusedSimpArgs false
set_option maxRecDepth 100000
set_option maxHeartbeats 16000000
open Go.Proofs.Tryz renaming prog→AF,func12→AHe,ntmps12→ALY,results12→IE,results13→AbU,func4→AKb
open Go.Oper renaming looksAt→Gm
open Go.Op renaming operands→Bl
open Go.Call renaming operands→Df
open Go.Act renaming eval→JT,put→Q9
open List renaming setIfInBounds_toArray→uV,set_cons_succ→Ai,set_cons_zero→Ag,mem_singleton→LY,map_cons→Ap,map_nil→BB
open And renaming intro→tu
open Nat renaming zero_le→CI
open Bool renaming and_eq_true→Ak,and_self→LW,true_eq_false→AQF,not_eq_false→ACg
open Option renaming some→J,none→E
open Bool renaming false→U,true→I
open List renaming length→G
namespace Go.Proofs.YtglaipbdiofkfaaGreat
open Go.RowKit Tryz
variable (x:Af)(n:Nd)(src:List Int)(s:Aa)
theorem AON (o:Option AA)(hx:x.Ok)(hq : ∀m,AQ AF 33 [Bb x m,Am n,.c (AV src),Aj s] m (BM x.f) (BM x.f) (BP o)):
 vn AF 32 [.cp x.f.row 0,.cp [Cc x.d] 0,.cp n.row 0,.cp [AV src] 0,.cp [.int .i64 s.By,.bool s.Hd] 0] (BP o):=by
 intro S w us hS B7;simp only[AO,CV,Nat.add_zero]at B7;obtain⟨_,_,rfl,⟨b0,o0,rfl,r0⟩,_,_,rfl,⟨b1,o1,rfl,r1⟩,_,_,rfl,⟨b2,o2,rfl,r2⟩,_,_,rfl,⟨b3,o3,rfl,r3⟩,_,_,rfl,⟨b4,o4,rfl,r4⟩,rfl⟩:=B7;go_enter func32,ntmps32;go_wp2;obtain⟨Q,q⟩:=AI (w.alloc (.cells DZ 41));change Code.wp _ _ _ _ (w.alloc (.cells DZ 41));have Iu:Ay w Q:=by rw[<-q];exact(Ay.refl w).alloc _
 have YR:Cb Q w.heap.size 41 DZ:=by rw[<-q];exact Cb.new _ _ _
 have R7:Q.heap.size=w.heap.size+1:=by rw[<-q];simp
 rw[q];obtain⟨B0,OA⟩:=AI Q.heap.size;refine ABW (K:=Ay) 6 Fz (by kernel_rfl) rfl ?_;intro w1 FJ;simp only[List.take_succ_cons,List.take_zero];have hk:Ay w w1:=Iu.trans FJ;have Y9:B0<=w1.heap.size:=by rw[<-OA];exact FJ.size
 with_reducible refine LK (λu W=>CV (Cx.bare S) W (.agg x.f.vs) u) (LD S _) rfl ?_ ?_
 intro a W B hf;have ht:=hf 0 (by simp[looks,Gm,Bl,Df]);simp[know]at ht;exact TA (t:=27) (y:=.tmp 0) (row:=x.f.row) (off:=0) rfl tN (by simp only[CV];exact⟨b0,o0,by simpa [JT]using ht,B5.mono (B.JI S) _ _ _ (B5.mono (hk.JI S) _ _ _ r0)⟩) (by simp[CJ,AP.row,Params.list,AP.vs]);with_reducible refine LK (λu W=>CV (Cx.bare S) W (.c (Cc x.d)) u) (LD S _) rfl ?_ ?_
 intro a W B hf;have ht:=hf 1 (by simp[looks,Gm,Bl,Df]);simp[know]at ht;exact TA (t:=28) (y:=.tmp 1) (row:=[Cc x.d]) (off:=0) rfl ALh (by simp only[CV];exact⟨b1,o1,by simpa [JT]using ht,B5.mono (B.JI S) _ _ _ (B5.mono (hk.JI S) _ _ _ r1)⟩) (by simp[CJ]);with_reducible refine ABX (pN S B0 x) (AJE S _ x) rfl ?_ ?_
 . intro a W B hf;have h6:=hf 6 (by simp[looks,Gm,Bl,Df]);have h7:=hf 7 (by simp[looks,Gm,Bl,Df]);simp[know]at h6 h7;have mc:=B.size;refine⟨24,#[a.tmps.getD 6 undef,a.tmps.getD 7 undef],by go_simp,?_⟩;refine(AIg x hx S W [a.tmps.getD 6 undef,a.tmps.getD 7 undef] (λb j h=>by have:=hS b j h;have:=hk.size;omega) ?_).mono ?_;simp only[AO];exact⟨_,_,F,by simpa using h6,_,_,rfl,by simpa using h7,rfl⟩;rintro r W' ⟨M,b,m,ob,rfl,e1,e2,e3,e4,e5,e6,e7,e8⟩;refine⟨_,F,⟨M,b,m,ob,F,e2.sub,λb' j hs=>(e3 b' j hs).imp id λh=>⟨by omega,h.2⟩,by omega,e5,e6,e7,e8⟩,e1⟩
 with_reducible refine LK (λu W=>CV (Cx.bare S) W (.agg n.vs) u) (LD S _) rfl ?_ ?_
 intro a W B hf;have ht:=hf 2 (by simp[looks,Gm,Bl,Df]);simp[know]at ht;exact TA (t:=33) (y:=.tmp 2) (row:=n.row) (off:=0) rfl AB8 (by simp only[CV];exact⟨b2,o2,by simpa [JT]using ht,B5.mono (B.JI S) _ _ _ (B5.mono (hk.JI S) _ _ _ r2)⟩) (by cases n;simp[CJ,Nd.row,Nd.vs]);with_reducible refine LK (λu W=>CV (Cx.bare S) W (.c (AV src)) u) (LD S _) rfl ?_ ?_
 intro a W B hf;have ht:=hf 3 (by simp[looks,Gm,Bl,Df]);simp[know]at ht;exact TA (t:=39) (y:=.tmp 3) (row:=[AV src]) (off:=0) rfl ALj (by simp only[CV];exact⟨b3,o3,by simpa [JT]using ht,B5.mono (B.JI S) _ _ _ (B5.mono (hk.JI S) _ _ _ r3)⟩) (by simp[CJ]);with_reducible refine LK (λu W=>CV (Cx.bare S) W (.agg [.c (.int .i64 s.By),.c (.bool s.Hd)]) u) (LD S _) rfl ?_ ?_
 intro a W B hf;have ht:=hf 4 (by simp[looks,Gm,Bl,Df]);simp[know]at ht;exact TA (t:=35) (y:=.tmp 4) (row:=[.int .i64 s.By,.bool s.Hd]) (off:=0) rfl AeC (by simp only[CV];exact⟨b4,o4,by simpa [JT]using ht,B5.mono (B.JI S) _ _ _ (B5.mono (hk.JI S) _ _ _ r4)⟩) (by simp[CJ]);with_reducible refine ABZ ?_
 intro W B;intro v6 h6 v7 h7 v8 h8 v9 h9 v10 A0 v11 A1;obtain⟨M,b,m,ob,rfl,e1,e2,e3,e4,e5,e6,e7⟩:=h8;simp only[List.drop_succ_cons,List.drop_zero];with_reducible apply xW
 simp only[Q9,uV,Ai,Ag];have mc:=B.size;have hex:Ext (Cx.bare S) (Cx.bare M) W W:=⟨⟨e1,λ_ _ _ _ h=>h⟩,λ_ h=>h.elim,λ_ h=>h.elim⟩
 have PD : ∀b j,M b j->b<W.heap.size:=λb j h=>(e2 b j h).elim (λh=>by have:=hS b j h;have:=hk.size;omega) λh=>h.2
 have Co:=hq m M W [.pointer (J ⟨b,0,E⟩),v9,v10,v11] ob PD e4 e5 e6 (by
  simp only[AO,Bb];exact⟨_,_,F,by simp only[CV];exact⟨b,0,F,e7⟩,_,_,rfl,CV.mono hex _ _ h9,_,_,rfl,CV.mono hex _ _ A0,_,_,rfl,CV.mono hex _ _ A1,rfl⟩)
 with_reducible refine ACZ rfl (f:=33) (args:=#[.pointer (J ⟨b,0,E⟩),v9,v10,v11]) (by go_simp) Co ?_
 rintro e W' ⟨H,Cw,f1,f2,f3,f4,f5,f6,f7⟩;have Yr:Ay w W':=f1.after (hk.trans B) λk e=>by omega
 have Il:Cb W' w.heap.size 41 DZ:=by
  have hb:=B.blk (FJ.blk YR);exact(f1.block w.heap.size hb.lt (λe=>by omega)).trans hb
 have YH : ∀b j,H b j->S b j\/(Q.heap.size<=b/\b<W'.heap.size):=λb j h=>by
  have F7:=f1.size;have hm:=(Array.getElem?_eq_some_iff.1 f4).1;rcases f3 b j h with h|h|h
  rcases e2 b j h with h|h
  exact .inl h;exact .inr (by omega);exact .inr (by omega);exact .inr (by omega)
 have jZ:Ar S H w W':=⟨λb j h=>f2.sub b j (e1 b j h),λb j v _ hc=>Yr.cell hc⟩
 cases o with
 | none=>right;simp only[BP,Lf]at f7;refine⟨_,f7,?_⟩;refine tu rfl ?_;refine⟨H,Yr,jZ,λb j h=>(YH b j h).imp id λh=>by omega,?_⟩;simp only[BP,Lf]
 | some bx =>
   left;simp only[BP,Lf]at f7;obtain⟨u,rfl,hu⟩:=f7;refine⟨u,F,?_⟩;simp only[Q9,uV,Ai,Ag];obtain⟨l,hl⟩:∃l,Ao bx=.agg l:=⟨_,rfl⟩
   have zO:G l=11:=by cases bx;simp[Ao]at hl;rw[<-hl];simp
   have FO:l.all V.one=true:=by cases bx;simp[Ao]at hl;rw[<-hl];simp[V.one]
   have R:=hu;rw[hl]at R;have Yk:=CV.cells (v:=.agg l) R (by simpa [V.flat]using FO);simp only[CV]at R;obtain⟨cs,rfl,hcs⟩:=R;have hs:cs.size=11:=by have:=hcs.len;simpa [zO]using this
   have h1:Xw cs:=λy hy=>Yk.2 y (by simpa [Value.cells]using hy)
   have Me:ND AF 41 cs.size:=by rw[hs];exact X2
   have B1:=Lib.hid Il;go_wp2_with (((with_reducible refine ll (ty:=41) (w.heap.size) (cs) ?_ ?_ ?_ ?_ ?_ ?_ ?_);(focus rfl);(focus rfl);(focus exact⟨_,_,B1.out,Eq.symm (hs)⟩);(focus exact h1);(focus exact Me);(focus rfl)))
   have Fc:Cb (W'.setRow w.heap.size cs) w.heap.size 41 cs:=B1.out.Tz cs;obtain⟨z,WX⟩:=AI (W'.setRow w.heap.size cs);have hkb:KB (λb=>b=w.heap.size) W' z:=by
    rw[<-WX];exact⟨F,F,F,by simp,λk _ hn=>setRow_other _ _ _ _ hn⟩
   rw[WX]at Fc ⊢;have Lu:(loadVar 41 ⟨w.heap.size,0,E⟩).run AF z=.ok (.agg cs) z:=lI Fc.row Me;have EG:Ay w z:=hkb.after Yr λk e=>by omega
   have IN:=hkb.size;refine tu rfl ?_;refine⟨.agg cs,by simp[results,results32,asAddr,Lu,Q9],H,EG,⟨jZ.sub,λb j v _ hc=>EG.cell hc⟩,λb j h=>(YH b j h).imp id λh=>by omega,?_⟩;simp only[BP,Lf];refine⟨_,F,?_⟩;refine CV.mono (x:=Cx.bare H) (x':=Cx.bare H) (w:=W') ⟨⟨λ_ _ h=>h,λb j v hs hc=>hkb.cell (by
    rcases YH b j hs with h|h
    have:=hS b j h;omega;omega) hc⟩,λ_ h=>h.elim,λ_ h=>h.elim⟩ _ _ hu
def Wy (x:Af)(s:Aa)(src:List Int)(n:Nd):V:=if (x.Bj s && (Dd [n]).Ad)=U then O1 1 else if Sd src 1=U then O1 2 else outT (Fw x s src n)
theorem AUM (hf:x.f.Fit)(hl:G x.d<=300)(DS : ∀e∈x.d,e.text.size<=maxLen)(hn:n.BX)(hc:n.cnt<=80)(DJ:G src<=maxLen):AC AF 12 [.agg x.f.vs,.c (Cc x.d),Am n,.c (AV src),Aj s] (Wy x s src n):=by
 have z:(Dd [n]).BX:=by
  simp only[Dd,Nd.BX,Nd.FY];exact⟨CI _,by simp[maxLen],hn,trivial⟩
 have B:=AIR x s hl DS;have H:=ABR [n] z (by simp only[Dd,Nd.cnt,Nd.Az];omega);have K:=AIP src DJ 1 (.inr F);have Q:x.Bj s=I->(Dd [n]).Ad=I->Sd src 1=I->AC AF 22 [.fn 32 [.cp x.f.row 0,.cp [Cc x.d] 0,.cp n.row 0,.cp [AV src] 0,.cp [.int .i64 s.By,.bool s.Hd] 0]] (outT (Fw x s src n)):=λS q M=>by
  unfold Af.Bj at S;simp only[Ak]at S;unfold Nd.Ad at q;simp only[Ak,decide_eq_true_eq]at q;unfold Sd at M;simp only[Ak,decide_eq_true_eq]at M;obtain⟨f1,f2,_,_,f5⟩:=AAP q.2.1 z (LY.2 F);have FJ:n.kind≠1:=by
   intro e;rw[e]at f2;simp[Dd,Pa]at f2
  have hx:x.Ok:=⟨hf,S.1,hl,S.2.1⟩
  exact AEg _ _ _ (AON x n src s _ hx λm=>(AKX x m n).2 src s ⟨hx,S.2.2,FJ,f1,hn,hc,by omega,⟨M.1,M.2.2,by omega⟩⟩) (by decide)
 change AC _ _ _ (.c (.bool (x.Bj s)))at B;simp only[Nd.AG]at H;obtain⟨OV,jR⟩:=AI (x.Bj s);obtain⟨NV,jQ⟩:=AI ((Dd [n]).Ad);obtain⟨SV,jX⟩:=AI (Sd src 1);obtain⟨o,ho⟩:=AI (Fw x s src n);unfold Wy;rw[jR]at B Q ⊢;rw[jQ]at H Q ⊢;rw[jX]at K Q ⊢;rw[ho]at Q ⊢;clear jR jQ jX ho;obtain⟨f,d⟩:=x;obtain⟨kd,t,c,AE⟩:=n;obtain⟨lv,cr⟩:=s;simp only[Am,Nd.vs,Aj,Nd.row]at B H K Q ⊢;cases OV with
 | false=>refine en AHe ALY ?_;refine wy IE (cj3 B H K W) ⟨?_⟩;exact At (cj8 IE @O1.eq_1 @Ao.eq_1 @AR.eq_1 @AA.zero.eq_1 @AA.row.eq_1 @AA.AG.eq_1 @AA.AG.eq_2 @AV.eq_1)
 | true =>
   cases NV with
   | false=>refine en AHe ALY ?_;refine wy IE (cj3 B H K W) ⟨?_⟩;exact At (cj8 IE @O1.eq_1 @Ao.eq_1 @AR.eq_1 @AA.zero.eq_1 @AA.row.eq_1 @AA.AG.eq_1 @AA.AG.eq_2 @AV.eq_1)
   | true =>
     cases SV with
     | false=>refine en AHe ALY ?_;refine wy IE (cj3 B H K W) ⟨?_⟩;exact At (cj8 IE @O1.eq_1 @Ao.eq_1 @AR.eq_1 @AA.zero.eq_1 @AA.row.eq_1 @AA.AG.eq_1 @AA.AG.eq_2 @AV.eq_1)
     | true =>
       have R:=Q rfl rfl F;obtain⟨sr,M⟩:=AI (AV src);rw[M]at R K ⊢;clear Q M;cases o with
       | none=>refine en AHe ALY ?_;refine wu (.mk 5) IE (cj3 B H K W) ⟨?_⟩;refine Cn 0 ?_;refine Cn 1 ?_;refine Cn 2 ?_;refine Cn 3 ?_;refine Cn 4 ?_;simp only[outT,Ao,AR,AA.zero,AA.row,AA.AG,AV,Ap,BB]at R;refine wy IE (cj R<|trivial) ⟨?_⟩;exact At (cj9 IE @outT.eq_1 @outT.eq_2 @Ao.eq_1 @AR.eq_1 @AA.zero.eq_1 @AA.row.eq_1 @AA.AG.eq_1 @AA.AG.eq_2 @AV.eq_1)
       | some bx=>obtain⟨b0,b1,b2,b3,b4,b5,b6,b7,bk,bo,bs⟩:=bx;simp only[outT,Ao,AR,AA.row,Ap,BB]at R;obtain⟨A0,Ga⟩:=AI (AA.AG bk);obtain⟨A1,OD⟩:=AI (AV bs);rw[Ga,OD]at R;refine en AHe ALY ?_;refine wu (.mk 5) IE (cj3 B H K W) ⟨?_⟩;refine Cn 0 ?_;refine Cn 1 ?_;refine Cn 2 ?_;refine Cn 3 ?_;refine Cn 4 ?_;refine wy IE (cj R<|trivial) ⟨?_⟩;exact At (cj7 IE @outT.eq_1 @outT.eq_2 @Ao.eq_1 @AR.eq_1 @AA.row.eq_1 @Ga @OD)
theorem AmT (hf:x.f.Fit)(hl:G x.d<=300)(DS : ∀e∈x.d,e.text.size<=maxLen)(hn:n.BX)(hc:n.cnt<=80)(DJ:G src<=maxLen):AC AF 13 [.agg (HD x),Am n,.c (AV src),Aj s] (Wy x s src n):=by
 have A9:(Dd [n]).BX:=by
  simp only[Dd,Nd.BX,Nd.FY];exact⟨CI _,by simp[maxLen],hn,trivial⟩
 have o:=AjX x hf (by omega) DS;have H:=Ajy [n] A9 (by simp only[Dd,Nd.cnt,Nd.Az];omega);have q:=AAA s;have Q:=AjW src DJ 1 (.inr F);have B:x.Bj s=I->(Dd [n]).Ad=I->Sd src 1=I->AC AF 35 [.agg (HD x),Am n,.c (AV src),Aj s] (outT (Fw x s src n)):=λM z K=>by
  unfold Af.Bj at M;simp only[Ak]at M;unfold Nd.Ad at z;simp only[Ak,decide_eq_true_eq]at z;unfold Sd at K;simp only[Ak,decide_eq_true_eq]at K;obtain⟨f1,f2,_,_,f5⟩:=AAP z.2.1 A9 (LY.2 F);have FJ:n.kind≠1:=by
   intro e;rw[e]at f2;simp[Dd,Pa]at f2
  rw[APx];exact(AjU x n).2 src s ⟨⟨hf,M.1,hl,M.2.1⟩,M.2.2,FJ,f1,hn,hc,by omega,⟨K.1,K.2.2,by omega⟩⟩
 unfold Wy;have ho:x.Bj s=((x.f.valid && Ll x.d) && s.ok):=by unfold Af.Bj;rw[Bool.and_assoc]
 rw[ho]at B ⊢;obtain⟨DV,gK⟩:=AI ((x.f.valid && Ll x.d));obtain⟨TV,gO⟩:=AI s.ok;obtain⟨NV,jQ⟩:=AI ((Dd [n]).Ad);obtain⟨SV,jX⟩:=AI (Sd src 1);rw[gK]at o B ⊢;rw[gO]at q B ⊢;rw[jQ]at H B ⊢;rw[jX]at Q B ⊢;obtain⟨sr,K⟩:=AI (AV src);rw[K]at Q B ⊢;simp only[Nd.AG,Nd.row]at H;clear gK gO jQ jX ho K;unfold O1;by_cases S:((DV && TV) && NV)=I;simp only[Ak]at S;obtain⟨⟨rfl,rfl⟩,rfl⟩:=S;cases SV with
 | false =>
   simp only[As,AR,Fl,LW,AQF,if_false,if_true];obtain⟨kd,t,c,AE⟩:=n;simp only[Am,Nd.vs,Nd.row,Ap,BB]at H ⊢;unfold Aj at *
   refine en func13 ntmps13 ?_;exact wz AbU (cj4 o H q Q W)
 | true =>
   have R:=B rfl rfl F;obtain⟨⟨rb,re⟩,hR⟩:=AI (oE (Fw x s src n));rw[APx,hR]at R ⊢;simp only[Ba,As,AR,LW,AQF,if_false]at R ⊢;clear B hR;obtain⟨kd,t,c,AE⟩:=n;simp only[Am,Nd.vs,Nd.row,Ap,BB]at H R ⊢;unfold Aj at *
   refine en func13 ntmps13 ?_;exact wz AbU (cj5 o H q Q R W)
 . rw[if_pos (by simpa using S)];clear B;simp only[As,AR,Fl];obtain⟨kd,t,c,AE⟩:=n;simp only[Am,Nd.vs,Nd.row,Ap,BB]at H ⊢;unfold Aj at *
   cases DV<;>cases NV<;>cases TV;all_goals first
    | exact absurd rfl S
    | skip
   all_goals
    refine en func13 ntmps13 ?_;exact wz AbU (cj4 o H q Q W)
theorem Al7 {x:Af}{s:Aa}{n:Nd}{src:List Int}(S:x.f.Fit)(o:G x.d<=300)(q:n.BX):∃b e,b.fit/\Wy x s src n=.A7 [Ao b,AR e]:=by
 unfold Wy O1;split;exact⟨_,_,ACb,F⟩;rename_i M;split;exact⟨_,_,ACb,F⟩;rename_i H;cases h:Fw x s src n with
 | none=>exact⟨_,_,ACb,F⟩
 | some b =>
   refine⟨b,_,AaO ?_,F⟩;have Q:(Dd [n]).BX:=by
    simp only[Dd,Nd.BX,Nd.FY];exact⟨CI _,by simp[maxLen],q,trivial⟩
   simp only[ACg,Ak]at M;have B:=M.1;unfold Af.Bj at B;simp only[Ak]at B;have K:=M.2;unfold Nd.Ad at K;simp only[Ak,decide_eq_true_eq]at K;simp only[ACg]at H;unfold Sd at H;simp only[Ak,decide_eq_true_eq]at H;obtain⟨f1,f2,_,_,f5⟩:=AAP K.2.1 Q (LY.2 F);have R:n.kind≠1:=by
    intro e;rw[e]at f2;simp[Dd,Pa]at f2
   rw[dg,Ak]at f1;exact(AH0 ⟨S,B.1,o,B.2.1⟩ B.2.2 f1.1 R ⟨H.1,H.2.2,by omega⟩ h).1
theorem AmM (H:x.f.Fit)(hl:G x.d<=maxLen)(S : ∀e∈x.d,e.text.size<=maxLen)(K:n.BX)(hs:G src<=maxLen):AC AF 4 [.agg (HD x),Am n,.agg [.c (AV src),.c (.int .i64 s.By),.c (.bool s.Hd)]] (.c (.bool I)):=by
 have h0:=AcQ;have M:=APU x n 40 H hl K (by omega) (by omega);have R:G (src.map λn=>[C.int .i64 n])=G src:=List.length_map _;cases B:jA x n 40 with
 | false =>
   rw[B]at M;unfold Am at *
   refine en AKb ntmps4 ?_;exact wz results4 (cj2 h0 M W)
 | true =>
   rw[B]at M;unfold jA at B;simp only[Ak,decide_eq_true_eq]at B;have o:=AUP x n src s H B.2.1 S K (by omega) hs;have q:=AjT x n src s H B.2.1 S K (by omega) hs;have z:=AUM x n src s H B.2.1 S K (by omega) hs;have h6:=AmT x n src s H B.2.1 S K (by omega) hs;obtain⟨b,e,hb,hr⟩:=Ajk (s:=s) (n:=n) (src:=src) H B.2.1;obtain⟨c,e',hc,PS⟩:=Al7 (s:=s) (src:=src) H B.2.1 K;have h4:=AKO b hb;have h7:=AKO c hc;rw[hr]at o q;rw[PS]at z h6;unfold AV at *
   obtain⟨ss,Cu⟩:=AI ((src.map λn=>[C.int .i64 n]));rw[Cu]at o q z h6 R ⊢;generalize hN:G src=N at R;simp only[As,AR]at o q h4 z h6 h7;unfold Aj Am at *
   by_cases Q:(60:Int)<(N:Int);refine en AKb ntmps4 ?_;exact wz (cj2 @R @Q results4) (cj2 h0 M W);refine en AKb ntmps4 ?_;exact wz (cj2 @R @Q results4) (cj8 h0 M o q h4 z h6 h7 W)
end Go.Proofs.YtglaipbdiofkfaaGreat
