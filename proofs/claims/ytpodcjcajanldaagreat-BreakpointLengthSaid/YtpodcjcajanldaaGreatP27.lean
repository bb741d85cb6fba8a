/- Part of the proof of breakpointLength.proved. Conditions: none. (Joined and shortened by a program.) -/
import Derived.Test.YtpodcjcajanldaaGreatP20
set_option linter.unusedVariables false
set_option linter.unusedSimpArgs false
set_option maxRecDepth 100000
set_option maxHeartbeats 16000000
open Nat renaming zero_le→Cc
open Go.IntKind renaming i64→Ad
open Go.Proofs.Tryz renaming func224→Hh,func106→IB,func227→Ts,results163→Vl
open List renaming foldl_cons→Bl,foldl_nil→B7,set_cons_zero→BC,set_cons_succ→Az
namespace Go.Proofs.YtpodcjcajanldaaGreat
open Go.RowKit
theorem ARQ (f:AI)(s:AM)(b:AA)(hf:f.Fit)(hv:f.valid=true)(ho:s.ok=true)(hb:b.Av=true)(DW:b.Bc):AC Tryz.prog 163 [.agg f.vs,Ai s,BD b,.c (.sl [])] (Bd (Cm (Jn f s b []))):=by
 obtain⟨p1,p2,r1,r2,l1,l2,sg,g1,g2⟩:=AFS (b:=b) hv ho;obtain⟨bw,bh,bd,bc⟩:=DS hb;have hsrc:b.src.length<=1000000:=by have:=Fz hb;cases b;simp only[AA.Fk]at this;exact this.1
 have Cq:=KL f s;have e0:Ha f s=(EU f s,0):=if_neg (by simp[ho,hv]);rw[e0]at Cq;have Cd:=D2 b DW (by omega);rw[hb]at Cd;have hL:KN f s=if s.level=0 then Gd f s+scale (scale f.params.FV (EU f s)) 25 else Gd f s+scale (Gd f s) 25:=rfl
 have hN:GC f s b=b.h+b.d+KN f s+Gd f s:=rfl;have QA:=xB nq f KO (GC f s b) (EU f s) hf;have CY:=(find_ok hv p1 p2 (name:=KO) (by simp[KO,ByteArray.size]) (GC f s b)).1;have Fo:F4 f KO (GC f s b) (EU f s)=(DQ f s b,0):=Prod.ext rfl CY;rw[Fo]at QA;have hG:Qb f s b=if GC f s b<(DQ f s b).h+(DQ f s b).d then KN f s+half ((DQ f s b).h+(DQ f s b).d - GC f s b)else KN f s:=rfl
 have hY:Qc f s b=b.h+Qb f s b:=rfl;have hT:K9 f s b=Qc f s b+Gd f s:=rfl;have hB:N5 f s b=K9 f s b - (DQ f s b).h - (DQ f s b).d:=rfl;have hX:Jn f s b []=CB (0+(DQ f s b).w+mx 0 b.w) (mx (K9 f s b) b.h) (mx (-(N5 f s b)) b.d) [(DQ f s b).at_ 0 (K9 f s b - (DQ f s b).h),(Dw (mx 0 b.w) (Gd f s) 0).at_ (0+(DQ f s b).w) (Qc f s b),b.at_ (0+(DQ f s b).w) 0]:=rfl;have ES:=Dn f.params.rule (EU f s);have eR:scale f.params.rule (EU f s)=Gd f s:=rfl;rw[eR]at ES;have eZ:=mY f.params.FV (EU f s) 25;rw[hX];obtain⟨P,hP⟩:=AE (EU f s);obtain⟨R,hR⟩:=AE (Gd f s);obtain⟨L,P4⟩:=AE (KN f s);obtain⟨N,Ss⟩:=AE (GC f s b);obtain⟨S,hS⟩:=AE (DQ f s b);obtain⟨G,So⟩:=AE (Qb f s b);obtain⟨Y,Sw⟩:=AE (Qc f s b);obtain⟨T,Nj⟩:=AE (K9 f s b);obtain⟨B,RJ⟩:=AE (N5 f s b);rw[hP,hR,P4]at hL;rw[Ss,P4,hR]at hN;rw[So,Ss,hS,P4]at hG;rw[Sw,So]at hY;rw[Nj,Sw,hR]at hT;rw[RJ,Nj,hS]at hB;rw[Ss,hP,hS]at QA;rw[hP]at Cq ES eZ p1 p2;rw[hR]at ES r1 r2;rw[P4]at l1 l2;rw[hS]at sg;rw[So]at g1 g2;rw[Nj,RJ,Sw,hR,hS];clear hP hR P4 Ss hS So Sw Nj RJ hX e0 CY Fo eR;obtain⟨sd,sk,sf,sc,sh1,sh2,sd1,sd2,sw1,sw2⟩:=sg;have UW:=Gc S 0 (T - S.h) (by cases S;simp only[AA.Fk]at sd;exact sd.1);have Nq:=vZ (mx 0 b.w) R 0;have Ol:=Gc (Dw (mx 0 b.w) R 0) (0+S.w) Y (by simp[Dw]);have UX:=Gc b (0+S.w) 0 hsrc;have ER:mx 0 b.w=if 0<b.w then b.w else 0:=rfl
 obtain⟨W,hW⟩:=AE (mx 0 b.w);have bW:0<=W/\W<=1073741824:=by rw[hW]at ER;omega
 rw[hW]at Nq Ol ⊢;have hl:=MX (0+S.w+W) (mx T b.h) (mx (-B) b.d) [S.at_ 0 (T - S.h),(Dw W R 0).at_ (0+S.w) Y,b.at_ (0+S.w) 0] ⟨GH _ _ sd,GH _ _ (wI _ _ _),GH _ _ (Fz hb),trivial⟩ (by simp only[AA.A9,GW,fk];omega);have Cw:=D2 (CB (0+S.w+W) (mx T b.h) (mx (-B) b.d) [S.at_ 0 (T - S.h),(Dw W R 0).at_ (0+S.w) Y,b.at_ (0+S.w) 0]) ⟨(Cc _:0<=maxLen),(Cc _:0<=maxLen),FA _ _ sk,FA _ _ (wJ _ _ _),FA _ _ DW,trivial⟩ (by simp only[CB,AA.cnt,AA.A9,GW,fk];omega);obtain⟨Z,hZ⟩:=AE (CB (0+S.w+W) (mx T b.h) (mx (-B) b.d) [S.at_ 0 (T - S.h),(Dw W R 0).at_ (0+S.w) Y,b.at_ (0+S.w) 0]);rw[hZ]at hl Cw ⊢;clear hZ;simp only[AA.rows,Ay]at hl Cw UW Ol UX Nq Cd ⊢;obtain⟨A1,Gv⟩:=AE (S.at_ 0 (T - S.h));obtain⟨U,hU⟩:=AE (Dw W R 0);rw[hU]at hl Ol Nq;obtain⟨A2,Hp⟩:=AE (U.at_ (0+S.w) Y);obtain⟨A3,Kl⟩:=AE (b.at_ (0+S.w) 0);rw[Gv]at hl UW;rw[Hp]at hl Ol;rw[Kl]at hl UX;clear Gv Hp Kl hU;have cB:=DA (p:=25) R (by omega) (by omega);have AJn:=DA (p:=25) (scale f.params.FV P) (by omega) (by omega);have hh:=JI (S.h+S.d - N);have w1:Ad.wrap (R+scale R 25)=R+scale R 25:=Aq;have w2:Ad.wrap (R+scale (scale f.params.FV P) 25)=R+scale (scale f.params.FV P) 25:=Aq;have w3:Ad.wrap (b.h+b.d)=b.h+b.d:=Aq;have w4:Ad.wrap (b.h+b.d+L)=b.h+b.d+L:=Aq;have w5:Ad.wrap (b.h+b.d+L+R)=N:=by rw[hN];exact Aq
 have w6:Ad.wrap (S.h+S.d)=S.h+S.d:=Aq;have w7:Ad.wrap (S.h+S.d - N)=S.h+S.d - N:=Aq;have w8:Ad.wrap (L+half (S.h+S.d - N))=L+half (S.h+S.d - N):=Aq;have w9:Ad.wrap (b.h+G)=Y:=by rw[hY];exact Aq
 have xL:Ad.wrap (Y+R)=T:=by rw[hT];exact Aq
 have gN:Ad.wrap (T - S.h)=T - S.h:=Aq;have xM:Ad.wrap (T - S.h - S.d)=B:=by rw[hB];exact Aq
 have nu:Ad.wrap (0+S.w)=0+S.w:=Aq;have nv:Ad.wrap (0+S.w+W)=0+S.w+W:=Aq;have xN:Ad.wrap (-B)= -B:=Aq;have tg:(if 0<b.w then b.w else 0)=W:=by rw[<-ER];exact hW
 unfold Ai Af Bd at *
 simp only[Ay,Af]at QA ⊢;unfold KO at QA;clear ER;simp only[Int.zero_add]at hl UW Ol UX nu nv;refine en Tryz.func163 Tryz.ntmps163 ?_;refine Ac ?_;refine BY (Cq) Tryz.func97 ?_;refine Ac ?_;refine BY (Cd) Hh ?_;refine Ac ?_;refine BY (ES) IB ?_;refine Ac ?_;refine gc @w1 (Dn R 25) IB ?_;refine Ac ?_;refine AW.AR 4 rfl (by simp[toCs,toC];exact rfl) (by simp[V.BG,V.AR];exact rfl) (by simp[O.AR,V.BG,V.AR];exact rfl) ?_;refine jn (fun _:Unit=>[(14,.c (.int .i64 L))]) ?_ ?_;all_goals simp only[Br,Bl,B7,BC,Az]
 . by_cases h0:s.level=0
   . have Mx:s.level=0↔True:=iff_true_intro h0;rw[if_pos h0]at hL;refine go @Mx ?_;refine gc @w2 (eZ) Tryz.func230 ?_;refine Ac ?_;refine⟨(),?_⟩;refine Le.BV (by simp[A5,hL,Mx])
   . rw[if_neg h0]at hL;refine go @h0 ?_;refine⟨(),?_⟩;refine Le.BV (by simp[A5,hL,h0])
 . intro _;have Wj:(if T<b.h then b.h else T)=mx T b.h:=rfl;have Wi:(if -B<b.d then b.d else -B)=mx (-B) b.d:=rfl;refine go (cj @w3<|cj @w4<|@w5) ?_;refine BY (QA) Tryz.func231 ?_;refine go @w6 ?_;refine jn (fun _:Unit=>[(14,.c (.int .i64 G))]) ?_ ?_;all_goals simp only[Br,Bl,B7,BC,Az]
   . by_cases h1:N<S.h+S.d
     . have FO:N<S.h+S.d↔True:=iff_true_intro h1;rw[if_pos h1]at hG;refine go (cj @FO<|@w7) ?_;refine gc @w8 (KM (S.h+S.d - N)) Tryz.func228 ?_;refine Ac ?_;refine⟨(),?_⟩;refine Le.BV (by simp[A5,hG,FO])
     . rw[if_neg h1]at hG;refine go @h1 ?_;refine⟨(),?_⟩;refine Le.BV (by simp[A5,hG,h1])
   . intro _;refine go (cj @w9<|cj @xL<|cj @gN<|cj @xM<|cj @xN<|cj @Wj<|@Wi) ?_;refine AW.le (Le.gH 21 41 11 rfl) ?_;simp only[List.length_cons,List.length_nil,Nat.reduceAdd,BC,Az,List.cons_append,List.nil_append];refine LA.loop (LA.round ?_);refine go (cj @nu<|cj @tg<|@gN) ?_;refine BY (UW) Ts ?_;refine BY (Nq) Tryz.func229 ?_;refine BY (Ol) Ts ?_;have uL:3<=maxLen:=by unfold maxLen;omega
     refine gc @uL (UX) Ts ?_;refine go @nv ?_;refine BY (hl) Tryz.func109 ?_;refine Ac ?_;cases hz:Z.Av with
     | false =>
       rw[hz]at Cw;have e:Cm Z=(AA.zero,6):=if_neg (by simp[hz]);rw[e];refine BY (Cw) Hh ?_;refine Ac ?_;simp[Aj,AV,AZ,Aa,V.AP,V.AO,AU,Vl,Eo]
     | true =>
       rw[hz]at Cw;have e:Cm Z=(Z,0):=if_pos hz;rw[e];refine BY (Cw) Hh ?_;refine Ac ?_;simp[Aj,AV,AZ,Aa,V.AP,V.AO,AU,Vl]
end Go.Proofs.YtpodcjcajanldaaGreat
