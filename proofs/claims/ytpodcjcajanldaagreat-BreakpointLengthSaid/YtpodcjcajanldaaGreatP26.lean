/- Part of the proof of breakpointLength.proved. Conditions: none. (Joined and shortened by a program.) -/
import Derived.Test.YtpodcjcajanldaaGreatP21
set_option linter.unusedVariables false
set_option linter.unusedSimpArgs false
set_option maxRecDepth 100000
set_option maxHeartbeats 16000000
open Go.Proofs.Tryz renaming prog→AD,results232→yM
open List renaming map_cons→Al,map_nil→A8
namespace Go.Proofs.YtpodcjcajanldaaGreat
open Go.RowKit
theorem XT (a b:Int):mn a b=min a b:=by unfold mn;omega
def TR (f:AI)(b:AA)(sub sup:List AA):List Int:=[Fu f b sub sup - C4 f b sub sup,(match sub with | []=>0|c::_=>Iw f b sub sup c) - C4 f b sub sup,(match sup with | []=>0|c::_=>Iv f b sub sup c) - C4 f b sub sup]
def O8 (f:AI)(s:AM)(b:AA)(sub sup:List AA):Int:=Uq (GY b sub sup) (TQ f s b sub sup)
theorem ARC (f:AI)(s:AM)(b:AA)(d:AA)(hb:b.Av=true)(hd:d.Av=true):AC AD 232 [.agg [.c (.sl [b.row]),.c (.sl []),.c (.sl [d.row])],.c (.int .i64 (Hx f b))] (.Bk [.agg ((TR f b [] [d]).map fun n=>.c (.int .i64 n)),.c (.int .i64 (O8 f s b [] [d]))]):=by
 obtain⟨bw,bh,bd,bn⟩:=DS hb;obtain⟨dw,dh,dd,dn⟩:=DS hd;have bH:=JI (Ea f b);have eP:TR f b [] [d]=[Fu f b [] [d] - C4 f b [] [d],0 - C4 f b [] [d],Iv f b [] [d] d - C4 f b [] [d]]:=rfl;have eW:GY b [] [d]=mx (mx 0 b.w) d.w:=rfl;have eX:Fu f b [] [d]=half (GY b [] [d] - b.w):=rfl;have eA:Iv f b [] [d] d=half (GY b [] [d] - d.w)+Hx f b:=rfl;have eL:C4 f b [] [d]=mn (mn 0 (Fu f b [] [d])) (Iv f b [] [d] d):=rfl;have eE:O8 f s b [] [d]=mx (mx (GY b [] [d]) (Fu f b [] [d] - C4 f b [] [d]+b.w)) (Iv f b [] [d] d - C4 f b [] [d]+d.w):=rfl;rw[eP,eE];clear eP eE;have eH:Hx f b=half (Ea f b):=rfl;rw[<-eH]at bH;clear eH;obtain⟨H,hH⟩:=AE (Hx f b);rw[hH]at bH eA ⊢;obtain⟨W,hW⟩:=AE (GY b [] [d]);obtain⟨X,hX⟩:=AE (Fu f b [] [d]);obtain⟨A,hA⟩:=AE (Iv f b [] [d] d);obtain⟨L,hL⟩:=AE (C4 f b [] [d]);rw[hW]at eW eX eA ⊢;rw[hX]at eX eL ⊢;rw[hA]at eA eL ⊢;rw[hL]at eL ⊢;clear hW hX hL hH hA;have UQ:(if 0<b.w then b.w else 0)=mx 0 b.w:=rfl;have ct:0<=mx 0 b.w/\mx 0 b.w<=1073741824:=by rw[D6];omega
 obtain⟨W0,Uz⟩:=AE (mx 0 b.w);rw[Uz]at UQ ct eW;have Yo:(if W0<d.w then d.w else W0)=W:=eW.symm;have gW:0<=W/\W<=1073741824:=by rw[eW,D6];omega
 have pb:=KM (W - b.w);have qb:=JI (W - b.w);obtain⟨Yb,yb⟩:=AE (half (W - b.w));rw[yb]at pb qb eX;subst eX;have pd:=KM (W - d.w);have qd:=JI (W - d.w);obtain⟨Yd,yd⟩:=AE (half (W - d.w));rw[yd]at pd qd eA;have fA:Yd+H=A:=eA.symm;have UO:(if X<0 then X else 0)=mn 0 X:=rfl;have cq : -4294967296<=mn 0 X/\mn 0 X<=0:=by rw[XT];omega
 obtain⟨L0,Uy⟩:=AE (mn 0 X);rw[Uy]at UO cq eL;have Yn:(if A<L0 then A else L0)=L:=eL.symm;have gL : -4294967296<=L/\L<=0:=by rw[eL,XT];omega
 have UM:(if W<X - L+b.w then X - L+b.w else W)=mx W (X - L+b.w):=rfl;have cf:0<=mx W (X - L+b.w)/\mx W (X - L+b.w)<=100000000000:=by rw[D6];omega
 obtain⟨E0,Uw⟩:=AE (mx W (X - L+b.w));rw[Uw]at UM cf ⊢;have UN:(if E0<A - L+d.w then A - L+d.w else E0)=mx E0 (A - L+d.w):=rfl;have cm:0<=mx E0 (A - L+d.w)/\mx E0 (A - L+d.w)<=100000000000:=by rw[D6];omega
 obtain⟨E1,Ux⟩:=AE (mx E0 (A - L+d.w));rw[Ux]at UN cm ⊢;simp only[Al,A8];try clear eW
 try clear eA
 try clear eB
 try clear eL
 try clear Uz
 try clear mK
 try clear Uy
 try clear mJ
 try clear Uw
 try clear Ux
 try clear mG
 try clear yb
 try clear yc
 try clear yd
 refine en Tryz.func232 Tryz.ntmps232 ?_;have ff:=(cj @Af.eq_1<|cj @UQ<|cj @Yo<|cj @fA<|cj @UO<|cj @Yn<|cj @UM<|cj @UN<|yM)
 repeat any_goals (first|refine CC ?_|exact Bq ff|(with_reducible refine LA.loop (LA.round ?_))|(with_reducible refine LA.round ?_)|refine Bt ff ?_|refine A4 ff (pb) ?_|refine A4 ff (pd) ?_|refine Bi ff ?_|((first|refine By ff ?_ ?_|refine B4 ff ?_ ?_|refine Bz ff ?_ ?_|refine B3 ff ?_ ?_)<;>intro h<;>try (exfalso;first|omega|contradiction)))
theorem ARD (f:AI)(s:AM)(b:AA)(c:AA)(hb:b.Av=true)(hc:c.Av=true):AC AD 232 [.agg [.c (.sl [b.row]),.c (.sl [c.row]),.c (.sl [])],.c (.int .i64 (Hx f b))] (.Bk [.agg ((TR f b [c] []).map fun n=>.c (.int .i64 n)),.c (.int .i64 (O8 f s b [c] []))]):=by
 obtain⟨bw,bh,bd,bn⟩:=DS hb;obtain⟨cw,ch,cd,cn⟩:=DS hc;have bH:=JI (Ea f b);have eP:TR f b [c] []=[Fu f b [c] [] - C4 f b [c] [],Iw f b [c] [] c - C4 f b [c] [],0 - C4 f b [c] []]:=rfl;have eW:GY b [c] []=mx (mx 0 b.w) c.w:=rfl;have eX:Fu f b [c] []=half (GY b [c] [] - b.w):=rfl;have eB:Iw f b [c] [] c=half (GY b [c] [] - c.w) - Hx f b:=rfl;have eL:C4 f b [c] []=mn (mn 0 (Fu f b [c] [])) (Iw f b [c] [] c):=rfl;have eE:O8 f s b [c] []=mx (mx (GY b [c] []) (Fu f b [c] [] - C4 f b [c] []+b.w)) (Iw f b [c] [] c - C4 f b [c] []+c.w):=rfl;rw[eP,eE];clear eP eE;have eH:Hx f b=half (Ea f b):=rfl;rw[<-eH]at bH;clear eH;obtain⟨H,hH⟩:=AE (Hx f b);rw[hH]at bH eB ⊢;obtain⟨W,hW⟩:=AE (GY b [c] []);obtain⟨X,hX⟩:=AE (Fu f b [c] []);obtain⟨B,hB⟩:=AE (Iw f b [c] [] c);obtain⟨L,hL⟩:=AE (C4 f b [c] []);rw[hW]at eW eX eB ⊢;rw[hX]at eX eL ⊢;rw[hB]at eB eL ⊢;rw[hL]at eL ⊢;clear hW hX hL hH hB;have UQ:(if 0<b.w then b.w else 0)=mx 0 b.w:=rfl;have ct:0<=mx 0 b.w/\mx 0 b.w<=1073741824:=by rw[D6];omega
 obtain⟨W0,Uz⟩:=AE (mx 0 b.w);rw[Uz]at UQ ct eW;have Yo:(if W0<c.w then c.w else W0)=W:=eW.symm;have gW:0<=W/\W<=1073741824:=by rw[eW,D6];omega
 have pb:=KM (W - b.w);have qb:=JI (W - b.w);obtain⟨Yb,yb⟩:=AE (half (W - b.w));rw[yb]at pb qb eX;subst eX;have pc:=KM (W - c.w);have qc:=JI (W - c.w);obtain⟨Yc,yc⟩:=AE (half (W - c.w));rw[yc]at pc qc eB;have fB:Yc - H=B:=eB.symm;have UO:(if X<0 then X else 0)=mn 0 X:=rfl;have cq : -4294967296<=mn 0 X/\mn 0 X<=0:=by rw[XT];omega
 obtain⟨L0,Uy⟩:=AE (mn 0 X);rw[Uy]at UO cq eL;have Yn:(if B<L0 then B else L0)=L:=eL.symm;have gL : -4294967296<=L/\L<=0:=by rw[eL,XT];omega
 have UM:(if W<X - L+b.w then X - L+b.w else W)=mx W (X - L+b.w):=rfl;have cf:0<=mx W (X - L+b.w)/\mx W (X - L+b.w)<=100000000000:=by rw[D6];omega
 obtain⟨E0,Uw⟩:=AE (mx W (X - L+b.w));rw[Uw]at UM cf ⊢;have UN:(if E0<B - L+c.w then B - L+c.w else E0)=mx E0 (B - L+c.w):=rfl;have cm:0<=mx E0 (B - L+c.w)/\mx E0 (B - L+c.w)<=100000000000:=by rw[D6];omega
 obtain⟨E1,Ux⟩:=AE (mx E0 (B - L+c.w));rw[Ux]at UN cm ⊢;simp only[Al,A8];try clear eW
 try clear eA
 try clear eB
 try clear eL
 try clear Uz
 try clear mK
 try clear Uy
 try clear mJ
 try clear Uw
 try clear Ux
 try clear mG
 try clear yb
 try clear yc
 try clear yd
 refine en Tryz.func232 Tryz.ntmps232 ?_;have ff:=(cj @Af.eq_1<|cj @UQ<|cj @Yo<|cj @fB<|cj @UO<|cj @Yn<|cj @UM<|cj @UN<|yM)
 repeat any_goals (first|refine CC ?_|exact Bq ff|(with_reducible refine LA.loop (LA.round ?_))|(with_reducible refine LA.round ?_)|refine Bt ff ?_|refine A4 ff (pb) ?_|refine A4 ff (pc) ?_|refine Bi ff ?_|((first|refine By ff ?_ ?_|refine B4 ff ?_ ?_|refine Bz ff ?_ ?_|refine B3 ff ?_ ?_)<;>intro h<;>try (exfalso;first|omega|contradiction)))
theorem ARE (f:AI)(s:AM)(b:AA)(c:AA)(d:AA)(hb:b.Av=true)(hc:c.Av=true)(hd:d.Av=true):AC AD 232 [.agg [.c (.sl [b.row]),.c (.sl [c.row]),.c (.sl [d.row])],.c (.int .i64 (Hx f b))] (.Bk [.agg ((TR f b [c] [d]).map fun n=>.c (.int .i64 n)),.c (.int .i64 (O8 f s b [c] [d]))]):=by
 obtain⟨bw,bh,bd,bn⟩:=DS hb;obtain⟨cw,ch,cd,cn⟩:=DS hc;obtain⟨dw,dh,dd,dn⟩:=DS hd;have bH:=JI (Ea f b);have eP:TR f b [c] [d]=[Fu f b [c] [d] - C4 f b [c] [d],Iw f b [c] [d] c - C4 f b [c] [d],Iv f b [c] [d] d - C4 f b [c] [d]]:=rfl;have eW:GY b [c] [d]=mx (mx (mx 0 b.w) c.w) d.w:=rfl;have eX:Fu f b [c] [d]=half (GY b [c] [d] - b.w):=rfl;have eB:Iw f b [c] [d] c=half (GY b [c] [d] - c.w) - Hx f b:=rfl;have eA:Iv f b [c] [d] d=half (GY b [c] [d] - d.w)+Hx f b:=rfl;have eL:C4 f b [c] [d]=mn (mn (mn 0 (Fu f b [c] [d])) (Iw f b [c] [d] c)) (Iv f b [c] [d] d):=rfl;have eE:O8 f s b [c] [d]=mx (mx (mx (GY b [c] [d]) (Fu f b [c] [d] - C4 f b [c] [d]+b.w)) (Iw f b [c] [d] c - C4 f b [c] [d]+c.w)) (Iv f b [c] [d] d - C4 f b [c] [d]+d.w):=rfl;rw[eP,eE];clear eP eE;have eH:Hx f b=half (Ea f b):=rfl;rw[<-eH]at bH;clear eH;obtain⟨H,hH⟩:=AE (Hx f b);rw[hH]at bH eB eA ⊢;obtain⟨W,hW⟩:=AE (GY b [c] [d]);obtain⟨X,hX⟩:=AE (Fu f b [c] [d]);obtain⟨B,hB⟩:=AE (Iw f b [c] [d] c);obtain⟨A,hA⟩:=AE (Iv f b [c] [d] d);obtain⟨L,hL⟩:=AE (C4 f b [c] [d]);rw[hW]at eW eX eB eA ⊢;rw[hX]at eX eL ⊢;rw[hB]at eB eL ⊢;rw[hA]at eA eL ⊢;rw[hL]at eL ⊢;clear hW hX hL hH hB hA;have UQ:(if 0<b.w then b.w else 0)=mx 0 b.w:=rfl;have ct:0<=mx 0 b.w/\mx 0 b.w<=1073741824:=by rw[D6];omega
 obtain⟨W0,Uz⟩:=AE (mx 0 b.w);rw[Uz]at UQ ct eW;have Yo:(if W0<c.w then c.w else W0)=mx W0 c.w:=rfl;have gW1:0<=mx W0 c.w/\mx W0 c.w<=1073741824:=by rw[D6];omega
 obtain⟨W1,mK⟩:=AE (mx W0 c.w);rw[mK]at Yo gW1 eW;have fW2:(if W1<d.w then d.w else W1)=W:=eW.symm;have gW:0<=W/\W<=1073741824:=by rw[eW,D6];omega
 have pb:=KM (W - b.w);have qb:=JI (W - b.w);obtain⟨Yb,yb⟩:=AE (half (W - b.w));rw[yb]at pb qb eX;subst eX;have pc:=KM (W - c.w);have qc:=JI (W - c.w);obtain⟨Yc,yc⟩:=AE (half (W - c.w));rw[yc]at pc qc eB;have fB:Yc - H=B:=eB.symm;have pd:=KM (W - d.w);have qd:=JI (W - d.w);obtain⟨Yd,yd⟩:=AE (half (W - d.w));rw[yd]at pd qd eA;have fA:Yd+H=A:=eA.symm;have UO:(if X<0 then X else 0)=mn 0 X:=rfl;have cq : -4294967296<=mn 0 X/\mn 0 X<=0:=by rw[XT];omega
 obtain⟨L0,Uy⟩:=AE (mn 0 X);rw[Uy]at UO cq eL;have Yn:(if B<L0 then B else L0)=mn L0 B:=rfl;have gL1 : -4294967296<=mn L0 B/\mn L0 B<=0:=by rw[XT];omega
 obtain⟨L1,mJ⟩:=AE (mn L0 B);rw[mJ]at Yn gL1 eL;have fL2:(if A<L1 then A else L1)=L:=eL.symm;have gL : -4294967296<=L/\L<=0:=by rw[eL,XT];omega
 have UM:(if W<X - L+b.w then X - L+b.w else W)=mx W (X - L+b.w):=rfl;have cf:0<=mx W (X - L+b.w)/\mx W (X - L+b.w)<=100000000000:=by rw[D6];omega
 obtain⟨E0,Uw⟩:=AE (mx W (X - L+b.w));rw[Uw]at UM cf ⊢;have UN:(if E0<B - L+c.w then B - L+c.w else E0)=mx E0 (B - L+c.w):=rfl;have cm:0<=mx E0 (B - L+c.w)/\mx E0 (B - L+c.w)<=100000000000:=by rw[D6];omega
 obtain⟨E1,Ux⟩:=AE (mx E0 (B - L+c.w));rw[Ux]at UN cm ⊢;have fE2:(if E1<A - L+d.w then A - L+d.w else E1)=mx E1 (A - L+d.w):=rfl;have gE2:0<=mx E1 (A - L+d.w)/\mx E1 (A - L+d.w)<=100000000000:=by rw[D6];omega
 obtain⟨E2,mG⟩:=AE (mx E1 (A - L+d.w));rw[mG]at fE2 gE2 ⊢;simp only[Al,A8];try clear eW
 try clear eA
 try clear eB
 try clear eL
 try clear Uz
 try clear mK
 try clear Uy
 try clear mJ
 try clear Uw
 try clear Ux
 try clear mG
 try clear yb
 try clear yc
 try clear yd
 refine en Tryz.func232 Tryz.ntmps232 ?_;have ff:=(cj @Af.eq_1<|cj @UQ<|cj @Yo<|cj @fW2<|cj @fB<|cj @fA<|cj @UO<|cj @Yn<|cj @fL2<|cj @UM<|cj @UN<|cj @fE2<|yM)
 repeat any_goals (first|refine CC ?_|exact Bq ff|(with_reducible refine LA.loop (LA.round ?_))|(with_reducible refine LA.round ?_)|refine Bt ff ?_|refine A4 ff (pb) ?_|refine A4 ff (pc) ?_|refine A4 ff (pd) ?_|refine Bi ff ?_|((first|refine By ff ?_ ?_|refine B4 ff ?_ ?_|refine Bz ff ?_ ?_|refine B3 ff ?_ ?_)<;>intro h<;>try (exfalso;first|omega|contradiction)))
end Go.Proofs.YtpodcjcajanldaaGreat
