/- Part of the proof of some laws. Conditions: none. -/
import Derived.Test.YtlpomcliejmedaaGreatU8
set_option linter.unusedVariables false
set_option linter.unusedSimpArgs false
set_option maxRecDepth 100000
set_option maxHeartbeats 16000000
open Go.Proofs.Tryz renaming prog→AF,results309→ADP
open List renaming map_cons→Ap,map_nil→BB
namespace Go.Proofs.YtlpomcliejmedaaGreat
open Go.RowKit Tryz
theorem Zb (a b:Int):mn a b=min a b:=by unfold mn;omega
def VG (f:AP)(b:AA)(sub sup:List AA):List Int:=[HR f b sub sup - DY f b sub sup,(match sub with | []=>0|c::_=>Kd f b sub sup c) - DY f b sub sup,(match sup with | []=>0|c::_=>Kc f b sub sup c) - DY f b sub sup]
def Qe (f:AP)(s:Aa)(b:AA)(sub sup:List AA):Int:=kV (I4 b sub sup) (ri f s b sub sup)
theorem AWU (f:AP)(s:Aa)(b:AA)(d:AA)(hb:b.Ad=true)(hd:d.Ad=true):AC AF 309 [.agg [.c (.sl [b.row]),.c (.sl []),.c (.sl [d.row])],.c (.int .i64 (Jk f b))] (.A7 [.agg ((VG f b [] [d]).map λn=>.c (.int .i64 n)),.c (.int .i64 (Qe f s b [] [d]))]):=by
 obtain⟨bw,bh,bd,bn⟩:=D3 hb;obtain⟨dw,dh,dd,dn⟩:=D3 hd;have bH:=J6 (F8 f b);have eP:VG f b [] [d]=[HR f b [] [d] - DY f b [] [d],0 - DY f b [] [d],Kc f b [] [d] d - DY f b [] [d]]:=rfl;have G:I4 b [] [d]=mx (mx 0 b.w) d.w:=rfl;have I:HR f b [] [d]=Bm (I4 b [] [d] - b.w):=rfl;have F:Kc f b [] [d] d=Bm (I4 b [] [d] - d.w)+Jk f b:=rfl;have B:DY f b [] [d]=mn (mn 0 (HR f b [] [d])) (Kc f b [] [d] d):=rfl;have eE:Qe f s b [] [d]=mx (mx (I4 b [] [d]) (HR f b [] [d] - DY f b [] [d]+b.w)) (Kc f b [] [d] d - DY f b [] [d]+d.w):=rfl;rw[eP,eE];clear eP eE;have eH:Jk f b=Bm (F8 f b):=rfl;rw[<-eH]at bH;clear eH;obtain⟨H,hH⟩:=AI (Jk f b);rw[hH]at bH F ⊢;obtain⟨W,hW⟩:=AI (I4 b [] [d]);obtain⟨X,hX⟩:=AI (HR f b [] [d]);obtain⟨A,hA⟩:=AI (Kc f b [] [d] d);obtain⟨L,hL⟩:=AI (DY f b [] [d]);rw[hW]at G I F ⊢;rw[hX]at I B ⊢;rw[hA]at F B ⊢;rw[hL]at B ⊢;clear hW hX hL hH hA;have U:(if 0<b.w then b.w else 0)=mx 0 b.w:=rfl;have jE:0<=mx 0 b.w/\mx 0 b.w<=1073741824:=by rw[DU];omega
 obtain⟨M,XD⟩:=AI (mx 0 b.w);rw[XD]at U jE G;have bz:(if M<d.w then d.w else M)=W:=G.symm;have gW:0<=W/\W<=1073741824:=by rw[G,DU];omega
 have pb:=Ke (W - b.w);have qb:=J6 (W - b.w);obtain⟨Yb,yb⟩:=AI (Bm (W - b.w));rw[yb]at pb qb I;subst I;have pd:=Ke (W - d.w);have qd:=J6 (W - d.w);obtain⟨Yd,yd⟩:=AI (Bm (W - d.w));rw[yd]at pd qd F;have fA:Yd+H=A:=F.symm;have S:(if X<0 then X else 0)=mn 0 X:=rfl;have jD : -4294967296<=mn 0 X/\mn 0 X<=0:=by rw[Zb];omega
 obtain⟨K,z⟩:=AI (mn 0 X);rw[z]at S jD B;have bu:(if A<K then A else K)=L:=B.symm;have gL : -4294967296<=L/\L<=0:=by rw[B,Zb];omega
 have Q:(if W<X - L+b.w then X - L+b.w else W)=mx W (X - L+b.w):=rfl;have jB:0<=mx W (X - L+b.w)/\mx W (X - L+b.w)<=100000000000:=by rw[DU];omega
 obtain⟨E,o⟩:=AI (mx W (X - L+b.w));rw[o]at Q jB ⊢;have R:(if E<A - L+d.w then A - L+d.w else E)=mx E (A - L+d.w):=rfl;have jC:0<=mx E (A - L+d.w)/\mx E (A - L+d.w)<=100000000000:=by rw[DU];omega
 obtain⟨E1,q⟩:=AI (mx E (A - L+d.w));rw[q]at R jC ⊢;simp only[Ap,BB];try clear G
 try clear F
 try clear eB
 try clear B
 try clear XD
 try clear rv
 try clear z
 try clear ru
 try clear o
 try clear q
 try clear rr
 try clear yb
 try clear yc
 try clear yd
 refine en func309 ntmps309 ?_;have J:=(cj8 @AR.eq_1 @U @bz @fA @S @bu @Q @R ADP)
 have cc:=(cj2 pb pd trivial)
 repeat any_goals (first|refine Du J cc ⟨?_⟩|exact Bt J|(with_reducible refine LA.loop (LA.round ?_))|(with_reducible refine LA.round ?_)|(refine Dv J ?_ ?_<;>intro h<;>try exact Dw))
theorem AWV (f:AP)(s:Aa)(b:AA)(c:AA)(hb:b.Ad=true)(hc:c.Ad=true):AC AF 309 [.agg [.c (.sl [b.row]),.c (.sl [c.row]),.c (.sl [])],.c (.int .i64 (Jk f b))] (.A7 [.agg ((VG f b [c] []).map λn=>.c (.int .i64 n)),.c (.int .i64 (Qe f s b [c] []))]):=by
 obtain⟨bw,bh,bd,bn⟩:=D3 hb;obtain⟨cw,ch,cd,cn⟩:=D3 hc;have bH:=J6 (F8 f b);have eP:VG f b [c] []=[HR f b [c] [] - DY f b [c] [],Kd f b [c] [] c - DY f b [c] [],0 - DY f b [c] []]:=rfl;have I:I4 b [c] []=mx (mx 0 b.w) c.w:=rfl;have J:HR f b [c] []=Bm (I4 b [c] [] - b.w):=rfl;have G:Kd f b [c] [] c=Bm (I4 b [c] [] - c.w) - Jk f b:=rfl;have E:DY f b [c] []=mn (mn 0 (HR f b [c] [])) (Kd f b [c] [] c):=rfl;have eE:Qe f s b [c] []=mx (mx (I4 b [c] []) (HR f b [c] [] - DY f b [c] []+b.w)) (Kd f b [c] [] c - DY f b [c] []+c.w):=rfl;rw[eP,eE];clear eP eE;have eH:Jk f b=Bm (F8 f b):=rfl;rw[<-eH]at bH;clear eH;obtain⟨H,hH⟩:=AI (Jk f b);rw[hH]at bH G ⊢;obtain⟨W,hW⟩:=AI (I4 b [c] []);obtain⟨X,hX⟩:=AI (HR f b [c] []);obtain⟨B,hB⟩:=AI (Kd f b [c] [] c);obtain⟨L,hL⟩:=AI (DY f b [c] []);rw[hW]at I J G ⊢;rw[hX]at J E ⊢;rw[hB]at G E ⊢;rw[hL]at E ⊢;clear hW hX hL hH hB;have o:(if 0<b.w then b.w else 0)=mx 0 b.w:=rfl;have jE:0<=mx 0 b.w/\mx 0 b.w<=1073741824:=by rw[DU];omega
 obtain⟨Q,XD⟩:=AI (mx 0 b.w);rw[XD]at o jE I;have bz:(if Q<c.w then c.w else Q)=W:=I.symm;have gW:0<=W/\W<=1073741824:=by rw[I,DU];omega
 have pb:=Ke (W - b.w);have qb:=J6 (W - b.w);obtain⟨Yb,yb⟩:=AI (Bm (W - b.w));rw[yb]at pb qb J;subst J;have pc:=Ke (W - c.w);have qc:=J6 (W - c.w);obtain⟨Yc,yc⟩:=AI (Bm (W - c.w));rw[yc]at pc qc G;have fB:Yc - H=B:=G.symm;have U:(if X<0 then X else 0)=mn 0 X:=rfl;have jD : -4294967296<=mn 0 X/\mn 0 X<=0:=by rw[Zb];omega
 obtain⟨M,XC⟩:=AI (mn 0 X);rw[XC]at U jD E;have bu:(if B<M then B else M)=L:=E.symm;have gL : -4294967296<=L/\L<=0:=by rw[E,Zb];omega
 have R:(if W<X - L+b.w then X - L+b.w else W)=mx W (X - L+b.w):=rfl;have jB:0<=mx W (X - L+b.w)/\mx W (X - L+b.w)<=100000000000:=by rw[DU];omega
 obtain⟨F,q⟩:=AI (mx W (X - L+b.w));rw[q]at R jB ⊢;have S:(if F<B - L+c.w then B - L+c.w else F)=mx F (B - L+c.w):=rfl;have jC:0<=mx F (B - L+c.w)/\mx F (B - L+c.w)<=100000000000:=by rw[DU];omega
 obtain⟨E1,z⟩:=AI (mx F (B - L+c.w));rw[z]at S jC ⊢;simp only[Ap,BB];try clear I
 try clear eA
 try clear G
 try clear E
 try clear XD
 try clear rv
 try clear XC
 try clear ru
 try clear q
 try clear z
 try clear rr
 try clear yb
 try clear yc
 try clear yd
 refine en func309 ntmps309 ?_;have K:=(cj8 @AR.eq_1 @o @bz @fB @U @bu @R @S ADP)
 have cc:=(cj2 pb pc trivial)
 repeat any_goals (first|refine Du K cc ⟨?_⟩|exact Bt K|(with_reducible refine LA.loop (LA.round ?_))|(with_reducible refine LA.round ?_)|(refine Dv K ?_ ?_<;>intro h<;>try exact Dw))
theorem AWW (f:AP)(s:Aa)(b:AA)(c:AA)(d:AA)(hb:b.Ad=true)(hc:c.Ad=true)(hd:d.Ad=true):AC AF 309 [.agg [.c (.sl [b.row]),.c (.sl [c.row]),.c (.sl [d.row])],.c (.int .i64 (Jk f b))] (.A7 [.agg ((VG f b [c] [d]).map λn=>.c (.int .i64 n)),.c (.int .i64 (Qe f s b [c] [d]))]):=by
 obtain⟨bw,bh,bd,bn⟩:=D3 hb;obtain⟨cw,ch,cd,cn⟩:=D3 hc;obtain⟨dw,dh,dd,dn⟩:=D3 hd;have bH:=J6 (F8 f b);have eP:VG f b [c] [d]=[HR f b [c] [d] - DY f b [c] [d],Kd f b [c] [d] c - DY f b [c] [d],Kc f b [c] [d] d - DY f b [c] [d]]:=rfl;have Q:I4 b [c] [d]=mx (mx (mx 0 b.w) c.w) d.w:=rfl;have S:HR f b [c] [d]=Bm (I4 b [c] [d] - b.w):=rfl;have M:Kd f b [c] [d] c=Bm (I4 b [c] [d] - c.w) - Jk f b:=rfl;have K:Kc f b [c] [d] d=Bm (I4 b [c] [d] - d.w)+Jk f b:=rfl;have E:DY f b [c] [d]=mn (mn (mn 0 (HR f b [c] [d])) (Kd f b [c] [d] c)) (Kc f b [c] [d] d):=rfl;have eE:Qe f s b [c] [d]=mx (mx (mx (I4 b [c] [d]) (HR f b [c] [d] - DY f b [c] [d]+b.w)) (Kd f b [c] [d] c - DY f b [c] [d]+c.w)) (Kc f b [c] [d] d - DY f b [c] [d]+d.w):=rfl;rw[eP,eE];clear eP eE;have eH:Jk f b=Bm (F8 f b):=rfl;rw[<-eH]at bH;clear eH;obtain⟨H,hH⟩:=AI (Jk f b);rw[hH]at bH M K ⊢;obtain⟨W,hW⟩:=AI (I4 b [c] [d]);obtain⟨X,hX⟩:=AI (HR f b [c] [d]);obtain⟨B,hB⟩:=AI (Kd f b [c] [d] c);obtain⟨A,hA⟩:=AI (Kc f b [c] [d] d);obtain⟨L,hL⟩:=AI (DY f b [c] [d]);rw[hW]at Q S M K ⊢;rw[hX]at S E ⊢;rw[hB]at M E ⊢;rw[hA]at K E ⊢;rw[hL]at E ⊢;clear hW hX hL hH hB hA;have WM:(if 0<b.w then b.w else 0)=mx 0 b.w:=rfl;have jE:0<=mx 0 b.w/\mx 0 b.w<=1073741824:=by rw[DU];omega
 obtain⟨J,XD⟩:=AI (mx 0 b.w);rw[XD]at WM jE Q;have bz:(if J<c.w then c.w else J)=mx J c.w:=rfl;have A1:0<=mx J c.w/\mx J c.w<=1073741824:=by rw[DU];omega
 obtain⟨W1,rv⟩:=AI (mx J c.w);rw[rv]at bz A1 Q;have o:(if W1<d.w then d.w else W1)=W:=Q.symm;have gW:0<=W/\W<=1073741824:=by rw[Q,DU];omega
 have pb:=Ke (W - b.w);have qb:=J6 (W - b.w);obtain⟨Yb,yb⟩:=AI (Bm (W - b.w));rw[yb]at pb qb S;subst S;have pc:=Ke (W - c.w);have qc:=J6 (W - c.w);obtain⟨Yc,yc⟩:=AI (Bm (W - c.w));rw[yc]at pc qc M;have fB:Yc - H=B:=M.symm;have pd:=Ke (W - d.w);have qd:=J6 (W - d.w);obtain⟨Yd,yd⟩:=AI (Bm (W - d.w));rw[yd]at pd qd K;have fA:Yd+H=A:=K.symm;have WL:(if X<0 then X else 0)=mn 0 X:=rfl;have jD : -4294967296<=mn 0 X/\mn 0 X<=0:=by rw[Zb];omega
 obtain⟨I,XC⟩:=AI (mn 0 X);rw[XC]at WL jD E;have bu:(if B<I then B else I)=mn I B:=rfl;have A0 : -4294967296<=mn I B/\mn I B<=0:=by rw[Zb];omega
 obtain⟨L1,ru⟩:=AI (mn I B);rw[ru]at bu A0 E;have U:(if A<L1 then A else L1)=L:=E.symm;have gL : -4294967296<=L/\L<=0:=by rw[E,Zb];omega
 have WJ:(if W<X - L+b.w then X - L+b.w else W)=mx W (X - L+b.w):=rfl;have jB:0<=mx W (X - L+b.w)/\mx W (X - L+b.w)<=100000000000:=by rw[DU];omega
 obtain⟨F,XA⟩:=AI (mx W (X - L+b.w));rw[XA]at WJ jB ⊢;have WK:(if F<B - L+c.w then B - L+c.w else F)=mx F (B - L+c.w):=rfl;have jC:0<=mx F (B - L+c.w)/\mx F (B - L+c.w)<=100000000000:=by rw[DU];omega
 obtain⟨G,XB⟩:=AI (mx F (B - L+c.w));rw[XB]at WK jC ⊢;have R:(if G<A - L+d.w then A - L+d.w else G)=mx G (A - L+d.w):=rfl;have z:0<=mx G (A - L+d.w)/\mx G (A - L+d.w)<=100000000000:=by rw[DU];omega
 obtain⟨E2,rr⟩:=AI (mx G (A - L+d.w));rw[rr]at R z ⊢;simp only[Ap,BB];try clear Q
 try clear K
 try clear M
 try clear E
 try clear XD
 try clear rv
 try clear XC
 try clear ru
 try clear XA
 try clear XB
 try clear rr
 try clear yb
 try clear yc
 try clear yd
 refine en func309 ntmps309 ?_;have q:=(cj9 @AR.eq_1 @WM @bz @o @fB @fA @WL @bu @U<|cj3 @WJ @WK @R ADP)
 have cc:=(cj3 pb pc pd trivial)
 repeat any_goals (first|refine Du q cc ⟨?_⟩|exact Bt q|(with_reducible refine LA.loop (LA.round ?_))|(with_reducible refine LA.round ?_)|(refine Dv q ?_ ?_<;>intro h<;>try exact Dw))
end Go.Proofs.YtlpomcliejmedaaGreat
