/- Part of the proof of breakpointLength.proved. Conditions: none. (Joined and shortened by a program.) -/
import Derived.Test.YtpodcjcajanldaaGreatP24
set_option linter.unusedVariables false
set_option linter.unusedSimpArgs false
set_option maxRecDepth 100000
set_option maxHeartbeats 16000000
open Go.Proofs.Tryz renaming prog→AD,results166→yF
open List renaming mem_cons→Cb,not_mem_nil→Qz,map_cons→Al,map_nil→A8
open Nat renaming zero_le→Cc
namespace Go.Proofs.YtpodcjcajanldaaGreat
open Go.RowKit
theorem AUE {s:AM}(ho:s.ok=true):(Jq s).ok=true:=by
 have hc:s.level=0\/s.level=1\/s.level=2\/s.level=3:=by simp[AM.ok]at ho;omega
 unfold Jq DZ;obtain⟨l,c⟩:=s;simp only at hc;rcases hc with rfl|rfl|rfl|rfl<;>simp[AM.ok,Rv]
theorem AC5 {f:AI}{b:AA}(hv:f.valid=true)(hb:b.Av=true):0<=Ea f b/\Ea f b<=1073741824:=by
 unfold Ea;split
 . rename_i g hs;obtain⟨z1,z2⟩:=nT hb hs;rw[D6];unfold scale;split
   . rename_i hh;have Jh:=PH hv g.name;unfold Ag.Small at Jh;have:=PA (f.pick g.name).DY g.size 20000 1000 (by omega) (by omega) (by omega) (by omega);unfold FI;split<;>omega
   . omega
 . omega
theorem wQ {f:AI}{s:AM}{b:AA}{sub sup:List AA}(hv:f.valid=true)(ho:s.ok=true)(hb:b.Av=true)(l1:sub.length<=1)(l2:sup.length<=1)(h1 : ∀c∈sub,c.Av=true)(h2 : ∀c∈sup,c.Av=true) :
 (-100000000000<=(Dq f s b sub sup).1/\(Dq f s b sub sup).1<=100000000000)/\ -100000000000<=(Dq f s b sub sup).2/\(Dq f s b sub sup).2<=100000000000:=by
 obtain⟨p1,p2⟩:=GD hv ho;obtain⟨bw,bh,bd,bc⟩:=DS hb;obtain⟨q1,q2⟩:=GD hv (AUE ho);have rB:=DA (p:=BK f.params (Jq s)) f.params.OE (by omega) q2;have rC:=DA (p:=BK f.params (Jq s)) f.params.OD (by omega) q2;have bU : -2147483648<=Mc f s b/\Mc f s b<=2147483648:=by unfold Mc;split<;>omega
 have bV : -2147483648<=KS f s b/\KS f s b<=2147483648:=by unfold KS;split<;>omega
 have bR:=DA (p:=BK f.params s) (U9 f.params s) (by omega) p2;have qq:=DA (p:=BK f.params s) f.params.OA (by omega) p2;have qt:=DA (p:=BK f.params s) f.params.OC (by omega) p2;have qp:=DA (p:=BK f.params s) f.params.rule (by omega) p2;have cB:=DA (p:=25) (Li f s) (by omega) (by omega);have qn:=DA (p:=80) (Li f s) (by omega) (by omega);have bV2 : -2147483648<=KT f s b/\KT f s b<=2147483648:=by unfold KT;rw[D6];omega
 have bL : -4294967296<=Qk f s/\Qk f s<=4294967296:=by unfold Qk;omega
 match sub,sup,l1,l2 with
 | [],[],_,_=>simp only[Dq,Fw];omega
 | [],[d],_,_ =>
   obtain⟨dw,dh,dd,_⟩:=DS (h2 d (by simp));simp only[Dq,Fw,D6];omega
 | [c],[],_,_ =>
   obtain⟨cw,ch,cd,_⟩:=DS (h1 c (by simp));simp only[Dq,Fw,D6];omega
 | [c],[d],_,_ =>
   obtain⟨cw,ch,cd,_⟩:=DS (h1 c (by simp));obtain⟨dw,dh,dd,_⟩:=DS (h2 d (by simp));have bU1 : -4294967296<=Fw f s b [d]/\Fw f s b [d]<=4294967296:=by simp only[Fw,D6];omega
   simp only[Dq];unfold Xs Xt;split
   . split<;>(simp only;omega)
   . simp only;omega
theorem ARn (f:AI)(s:AM)(b d:AA)(hf:f.Fit)(hv:f.valid=true)(ho:s.ok=true)(hb:b.Av=true)(ob:b.Bc)(hd:d.Av=true)(od:d.Bc):AC AD 166 [.agg f.vs,Ai s,BD b,.c (.sl (AA.rows [])),.c (.sl (AA.rows [d]))] (Bd (Cm (Iz f s b [] [d]))):=by
 obtain⟨bw,bh,bd,bn⟩:=DS hb;obtain⟨dw,dh,dd,dn⟩:=DS hd;obtain⟨p1,p2⟩:=GD hv ho;have vb:=D2 b ob (by omega);rw[hb]at vb;have Cq:=KL f s;rw[show Ha f s=(BK f.params s,0)from if_neg (by simp[hv,ho])]at Cq;have s1:=Zj [] (by simp) (by simp);have s2:=Zj [d] (by simp) (by simpa using ⟨hd,od⟩);have QM:=va f s b [] [d] hv ho hb (by simp) (by simp) (by simp) (by simpa using hd);have cH:=wQ (f:=f) (s:=s) (b:=b) (sub:=[]) (sup:=[d]) hv ho hb (by simp) (by simp) (by simp) (by simpa using hd);have eB:Iz f s b [] [d]=CB (EN [b.at_ 0 0,d.at_ b.w (Dq f s b [] [d]).1]).2.1 (EN [b.at_ 0 0,d.at_ b.w (Dq f s b [] [d]).1]).2.2.1 (EN [b.at_ 0 0,d.at_ b.w (Dq f s b [] [d]).1]).2.2.2 [b.at_ 0 0,d.at_ b.w (Dq f s b [] [d]).1]:=rfl;rw[eB];clear eB;obtain⟨u,hu⟩:=AE ((Dq f s b [] [d]).1);obtain⟨v,M7⟩:=AE ((Dq f s b [] [d]).2);rw[hu,M7]at QM cH;rw[hu];clear hu M7;have a0:=Gc b 0 0 (Me hb);have a2:=Gc d b.w u (Me hd);have hex:=mZ [b.at_ 0 0,d.at_ b.w u] (by simp) (by
  intro x hx;simp only[Cb,Qz,or_false]at hx;rcases hx with rfl|rfl
  all_goals (constructor<;>(unfold Qo;simp only[br,bq,bp,bu,bz];omega)))
 obtain⟨E,hE⟩:=AE (EN [b.at_ 0 0,d.at_ b.w u]);rw[hE]at hex ⊢;clear hE;unfold Ym at hex;have BL:=MX E.2.1 E.2.2.1 E.2.2.2 [b.at_ 0 0,d.at_ b.w u] ⟨GH _ _ (Fz hb),GH _ _ (Fz hd),trivial⟩ (by simp only[AA.A9,GW];omega);have Cw:=D2 (CB E.2.1 E.2.2.1 E.2.2.2 [b.at_ 0 0,d.at_ b.w u]) ⟨(Cc _:0<=maxLen),(Cc _:0<=maxLen),FA _ _ ob,FA _ _ od,trivial⟩ (by simp only[CB,AA.cnt,AA.A9,GW];omega);obtain⟨Z,hZ⟩:=AE ((CB E.2.1 E.2.2.1 E.2.2.2 [b.at_ 0 0,d.at_ b.w u]));rw[hZ]at BL Cw ⊢;clear hZ;obtain⟨E1,g1⟩:=AE E.2.1;obtain⟨E2,g2⟩:=AE E.2.2.1;obtain⟨E3,g3⟩:=AE E.2.2.2;obtain⟨E0,g0⟩:=AE E.1;rw[g0,g1,g2,g3]at hex;rw[g1,g2,g3]at BL;clear g0 g1 g2 g3;obtain⟨A0,K5⟩:=AE (b.at_ 0 0);rw[K5]at a0 BL hex;clear K5;obtain⟨A1,K6⟩:=AE (d.at_ b.w u);rw[K6]at a2 BL hex;clear K6;unfold Ai at *
 simp only[AA.rows,Ay,Af,Bd,Al,A8]at QM BL Cw hex a0 a2 vb Cq s1 s2 ⊢;unfold Cm;have QU:(2:Nat)<=maxLen:=by unfold maxLen;omega
 have QV:(3:Nat)<=maxLen:=by unfold maxLen;omega
 refine en Tryz.func166 Tryz.ntmps166 ?_;have ff:=(cj @QU<|cj @QV<|cj @Bd.eq_1<|cj @Ay<|cj @Af.eq_1<|cj @Eo<|yF)
 repeat any_goals (first|refine CC ?_|exact Bq ff|(with_reducible refine LA.loop (LA.round ?_))|(with_reducible refine LA.round ?_)|refine Bt ff ?_|refine A4 ff (Cq) ?_|refine A4 ff (vb) ?_|refine A4 ff (s1) ?_|refine A4 ff (s2) ?_|refine A4 ff (QM) ?_|refine A4 ff (a0) ?_|refine A4 ff (a2) ?_|refine A4 ff (hex) ?_|refine A4 ff (BL) ?_|refine A4 ff (Cw) ?_|refine Bi ff ?_|((first|refine By ff ?_ ?_|refine B4 ff ?_ ?_|refine Bz ff ?_ ?_|refine B3 ff ?_ ?_)<;>intro h<;>try (exfalso;first|omega|contradiction)))
theorem ARo (f:AI)(s:AM)(b c:AA)(hf:f.Fit)(hv:f.valid=true)(ho:s.ok=true)(hb:b.Av=true)(ob:b.Bc)(hc:c.Av=true)(oc:c.Bc):AC AD 166 [.agg f.vs,Ai s,BD b,.c (.sl (AA.rows [c])),.c (.sl (AA.rows []))] (Bd (Cm (Iz f s b [c] []))):=by
 obtain⟨bw,bh,bd,bn⟩:=DS hb;obtain⟨cw,ch,cd,cn⟩:=DS hc;obtain⟨p1,p2⟩:=GD hv ho;have vb:=D2 b ob (by omega);rw[hb]at vb;have Cq:=KL f s;rw[show Ha f s=(BK f.params s,0)from if_neg (by simp[hv,ho])]at Cq;have s1:=Zj [c] (by simp) (by simpa using ⟨hc,oc⟩);have s2:=Zj [] (by simp) (by simp);have QM:=va f s b [c] [] hv ho hb (by simp) (by simp) (by simpa using hc) (by simp);have hit:=fS f b hf hv hb ob;have cH:=wQ (f:=f) (s:=s) (b:=b) (sub:=[c]) (sup:=[]) hv ho hb (by simp) (by simp) (by simpa using hc) (by simp);have bit:=AC5 (f:=f) (b:=b) hv hb;have eB:Iz f s b [c] []=CB (EN [b.at_ 0 0,c.at_ (b.w - Ea f b) (-(Dq f s b [c] []).2)]).2.1 (EN [b.at_ 0 0,c.at_ (b.w - Ea f b) (-(Dq f s b [c] []).2)]).2.2.1 (EN [b.at_ 0 0,c.at_ (b.w - Ea f b) (-(Dq f s b [c] []).2)]).2.2.2 [b.at_ 0 0,c.at_ (b.w - Ea f b) (-(Dq f s b [c] []).2)]:=rfl;rw[eB];clear eB;obtain⟨u,hu⟩:=AE ((Dq f s b [c] []).1);obtain⟨v,M7⟩:=AE ((Dq f s b [c] []).2);rw[hu,M7]at QM cH;rw[M7];clear hu M7;obtain⟨I,hI⟩:=AE (Ea f b);rw[hI]at hit bit ⊢;clear hI;have a0:=Gc b 0 0 (Me hb);have a1:=Gc c (b.w - I) (-v) (Me hc);have hex:=mZ [b.at_ 0 0,c.at_ (b.w - I) (-v)] (by simp) (by
  intro x hx;simp only[Cb,Qz,or_false]at hx;rcases hx with rfl|rfl
  all_goals (constructor<;>(unfold Qo;simp only[br,bq,bp,bu,bz];omega)))
 obtain⟨E,hE⟩:=AE (EN [b.at_ 0 0,c.at_ (b.w - I) (-v)]);rw[hE]at hex ⊢;clear hE;unfold Ym at hex;have BL:=MX E.2.1 E.2.2.1 E.2.2.2 [b.at_ 0 0,c.at_ (b.w - I) (-v)] ⟨GH _ _ (Fz hb),GH _ _ (Fz hc),trivial⟩ (by simp only[AA.A9,GW];omega);have Cw:=D2 (CB E.2.1 E.2.2.1 E.2.2.2 [b.at_ 0 0,c.at_ (b.w - I) (-v)]) ⟨(Cc _:0<=maxLen),(Cc _:0<=maxLen),FA _ _ ob,FA _ _ oc,trivial⟩ (by simp only[CB,AA.cnt,AA.A9,GW];omega);obtain⟨Z,hZ⟩:=AE ((CB E.2.1 E.2.2.1 E.2.2.2 [b.at_ 0 0,c.at_ (b.w - I) (-v)]));rw[hZ]at BL Cw ⊢;clear hZ;obtain⟨E1,g1⟩:=AE E.2.1;obtain⟨E2,g2⟩:=AE E.2.2.1;obtain⟨E3,g3⟩:=AE E.2.2.2;obtain⟨E0,g0⟩:=AE E.1;rw[g0,g1,g2,g3]at hex;rw[g1,g2,g3]at BL;clear g0 g1 g2 g3;obtain⟨A0,K5⟩:=AE (b.at_ 0 0);rw[K5]at a0 BL hex;clear K5;obtain⟨A1,K6⟩:=AE (c.at_ (b.w - I) (-v));rw[K6]at a1 BL hex;clear K6;unfold Ai at *
 simp only[AA.rows,Ay,Af,Bd,Al,A8]at QM BL Cw hex a0 a1 vb Cq s1 s2 hit ⊢;unfold Cm;have QU:(2:Nat)<=maxLen:=by unfold maxLen;omega
 have QV:(3:Nat)<=maxLen:=by unfold maxLen;omega
 refine en Tryz.func166 Tryz.ntmps166 ?_;have ff:=(cj @QU<|cj @QV<|cj @Bd.eq_1<|cj @Ay<|cj @Af.eq_1<|cj @Eo<|yF)
 repeat any_goals (first|refine CC ?_|exact Bq ff|(with_reducible refine LA.loop (LA.round ?_))|(with_reducible refine LA.round ?_)|refine Bt ff ?_|refine A4 ff (Cq) ?_|refine A4 ff (vb) ?_|refine A4 ff (s1) ?_|refine A4 ff (s2) ?_|refine A4 ff (QM) ?_|refine A4 ff (hit) ?_|refine A4 ff (a0) ?_|refine A4 ff (a1) ?_|refine A4 ff (hex) ?_|refine A4 ff (BL) ?_|refine A4 ff (Cw) ?_|refine Bi ff ?_|((first|refine By ff ?_ ?_|refine B4 ff ?_ ?_|refine Bz ff ?_ ?_|refine B3 ff ?_ ?_)<;>intro h<;>try (exfalso;first|omega|contradiction)))
theorem ARp (f:AI)(s:AM)(b c d:AA)(hf:f.Fit)(hv:f.valid=true)(ho:s.ok=true)(hb:b.Av=true)(ob:b.Bc)(hc:c.Av=true)(oc:c.Bc)(hd:d.Av=true)(od:d.Bc):AC AD 166 [.agg f.vs,Ai s,BD b,.c (.sl (AA.rows [c])),.c (.sl (AA.rows [d]))] (Bd (Cm (Iz f s b [c] [d]))):=by
 obtain⟨bw,bh,bd,bn⟩:=DS hb;obtain⟨cw,ch,cd,cn⟩:=DS hc;obtain⟨dw,dh,dd,dn⟩:=DS hd;obtain⟨p1,p2⟩:=GD hv ho;have vb:=D2 b ob (by omega);rw[hb]at vb;have Cq:=KL f s;rw[show Ha f s=(BK f.params s,0)from if_neg (by simp[hv,ho])]at Cq;have s1:=Zj [c] (by simp) (by simpa using ⟨hc,oc⟩);have s2:=Zj [d] (by simp) (by simpa using ⟨hd,od⟩);have QM:=va f s b [c] [d] hv ho hb (by simp) (by simp) (by simpa using hc) (by simpa using hd);have hit:=fS f b hf hv hb ob;have cH:=wQ (f:=f) (s:=s) (b:=b) (sub:=[c]) (sup:=[d]) hv ho hb (by simp) (by simp) (by simpa using hc) (by simpa using hd);have bit:=AC5 (f:=f) (b:=b) hv hb;have eB:Iz f s b [c] [d]=CB (EN [b.at_ 0 0,c.at_ (b.w - Ea f b) (-(Dq f s b [c] [d]).2),d.at_ b.w (Dq f s b [c] [d]).1]).2.1 (EN [b.at_ 0 0,c.at_ (b.w - Ea f b) (-(Dq f s b [c] [d]).2),d.at_ b.w (Dq f s b [c] [d]).1]).2.2.1 (EN [b.at_ 0 0,c.at_ (b.w - Ea f b) (-(Dq f s b [c] [d]).2),d.at_ b.w (Dq f s b [c] [d]).1]).2.2.2 [b.at_ 0 0,c.at_ (b.w - Ea f b) (-(Dq f s b [c] [d]).2),d.at_ b.w (Dq f s b [c] [d]).1]:=rfl;rw[eB];clear eB;obtain⟨u,hu⟩:=AE ((Dq f s b [c] [d]).1);obtain⟨v,M7⟩:=AE ((Dq f s b [c] [d]).2);rw[hu,M7]at QM cH;rw[M7];rw[hu];clear hu M7;obtain⟨I,hI⟩:=AE (Ea f b);rw[hI]at hit bit ⊢;clear hI;have a0:=Gc b 0 0 (Me hb);have a1:=Gc c (b.w - I) (-v) (Me hc);have a2:=Gc d b.w u (Me hd);have hex:=mZ [b.at_ 0 0,c.at_ (b.w - I) (-v),d.at_ b.w u] (by simp) (by
  intro x hx;simp only[Cb,Qz,or_false]at hx;rcases hx with rfl|rfl|rfl
  all_goals (constructor<;>(unfold Qo;simp only[br,bq,bp,bu,bz];omega)))
 obtain⟨E,hE⟩:=AE (EN [b.at_ 0 0,c.at_ (b.w - I) (-v),d.at_ b.w u]);rw[hE]at hex ⊢;clear hE;unfold Ym at hex;have BL:=MX E.2.1 E.2.2.1 E.2.2.2 [b.at_ 0 0,c.at_ (b.w - I) (-v),d.at_ b.w u] ⟨GH _ _ (Fz hb),GH _ _ (Fz hc),GH _ _ (Fz hd),trivial⟩ (by simp only[AA.A9,GW];omega);have Cw:=D2 (CB E.2.1 E.2.2.1 E.2.2.2 [b.at_ 0 0,c.at_ (b.w - I) (-v),d.at_ b.w u]) ⟨(Cc _:0<=maxLen),(Cc _:0<=maxLen),FA _ _ ob,FA _ _ oc,FA _ _ od,trivial⟩ (by simp only[CB,AA.cnt,AA.A9,GW];omega);obtain⟨Z,hZ⟩:=AE ((CB E.2.1 E.2.2.1 E.2.2.2 [b.at_ 0 0,c.at_ (b.w - I) (-v),d.at_ b.w u]));rw[hZ]at BL Cw ⊢;clear hZ;obtain⟨E1,g1⟩:=AE E.2.1;obtain⟨E2,g2⟩:=AE E.2.2.1;obtain⟨E3,g3⟩:=AE E.2.2.2;obtain⟨E0,g0⟩:=AE E.1;rw[g0,g1,g2,g3]at hex;rw[g1,g2,g3]at BL;clear g0 g1 g2 g3;obtain⟨A0,K5⟩:=AE (b.at_ 0 0);rw[K5]at a0 BL hex;clear K5;obtain⟨A1,K6⟩:=AE (c.at_ (b.w - I) (-v));rw[K6]at a1 BL hex;clear K6;obtain⟨A2,e9⟩:=AE (d.at_ b.w u);rw[e9]at a2 BL hex;clear e9;unfold Ai at *
 simp only[AA.rows,Ay,Af,Bd,Al,A8]at QM BL Cw hex a0 a1 a2 vb Cq s1 s2 hit ⊢;unfold Cm;have QU:(2:Nat)<=maxLen:=by unfold maxLen;omega
 have QV:(3:Nat)<=maxLen:=by unfold maxLen;omega
 refine en Tryz.func166 Tryz.ntmps166 ?_;have ff:=(cj @QU<|cj @QV<|cj @Bd.eq_1<|cj @Ay<|cj @Af.eq_1<|cj @Eo<|yF)
 repeat any_goals (first|refine CC ?_|exact Bq ff|(with_reducible refine LA.loop (LA.round ?_))|(with_reducible refine LA.round ?_)|refine Bt ff ?_|refine A4 ff (Cq) ?_|refine A4 ff (vb) ?_|refine A4 ff (s1) ?_|refine A4 ff (s2) ?_|refine A4 ff (QM) ?_|refine A4 ff (hit) ?_|refine A4 ff (a0) ?_|refine A4 ff (a1) ?_|refine A4 ff (a2) ?_|refine A4 ff (hex) ?_|refine A4 ff (BL) ?_|refine A4 ff (Cw) ?_|refine Bi ff ?_|((first|refine By ff ?_ ?_|refine B4 ff ?_ ?_|refine Bz ff ?_ ?_|refine B3 ff ?_ ?_)<;>intro h<;>try (exfalso;first|omega|contradiction)))
end Go.Proofs.YtpodcjcajanldaaGreat
