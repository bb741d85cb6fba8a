/- Part of the proof of some laws. Conditions: none. -/
import Derived.Test.YtglaipbdiofkfaaGreatY15
set_option linter.unusedVariables false
set_option linter.unusedSimpArgs false
set_option maxRecDepth 100000
set_option maxHeartbeats 16000000
open List renaming map_cons→Ap,map_nil→BB,nil_append→BU,cons_append→BK
open Go.Proofs.Tryz renaming func153→AQQ,ntmps153→AQy,results153→ARo
open Bool renaming true→I
open List renaming length→G
namespace Go.Proofs.YtglaipbdiofkfaaGreat
open Go.RowKit Tryz
theorem Zb (a b:Int):mn a b=min a b:=by unfold mn;omega
theorem Yb (a b:Int):(if a<b then b else a)=mx a b:=F
theorem et (a b:Int):(if b<a then b else a)=mn a b:=F
def VG (f:AP)(b:AA)(sub sup:List AA):List Int:=[HR f b sub sup - DY f b sub sup,(match sub with | []=>0|c::_=>Kd f b sub sup c) - DY f b sub sup,(match sup with | []=>0|c::_=>Kc f b sub sup c) - DY f b sub sup]
def Qe (f:AP)(s:Aa)(b:AA)(sub sup:List AA):Int:=kV (I4 b sub sup) (ri f s b sub sup)
theorem ATJ (f:AP)(s:Aa)(b:AA)(sub sup:List AA)(hb:b.Ad=I)(l1:G sub<=1)(l2:G sup<=1)(q : ∀c∈sub,c.Ad=I)(z : ∀c∈sup,c.Ad=I):AC Tryz.prog 153 [.agg [.c (.sl [b.row]),.c (.sl (AA.AG sub)),.c (.sl (AA.AG sup))],.c (.int .i64 (Jk f b))] (.A7 [.agg ((VG f b sub sup).map λn=>.c (.int .i64 n)),.c (.int .i64 (Qe f s b sub sup))]):=by
 obtain⟨bw,bh,bd,bn⟩:=D3 hb;have bH : -1073741824<=Jk f b/\Jk f b<=1073741824:=J6 (F8 f b);have K : ∀c:AA,c.Ad=I-> -1073741824<=c.w/\c.w<=1073741824:=λc h=>(D3 h).1
 have hW:0<=I4 b sub sup/\I4 b sub sup<=1073741824:=by
  match sub,sup,l1,l2 with
  | [],[],_,_=>simp only[I4,IS,DU];omega
  | [],[d],_,_=>have:=K d (z d (by simp));simp only[I4,IS,DU];omega
  | [c],[],_,_=>have:=K c (q c (by simp));simp only[I4,IS,DU];omega
  | [c],[d],_,_=>have:=K c (q c (by simp));have:=K d (z d (by simp));simp only[I4,IS,DU];omega
 obtain⟨W,M⟩:=AI (I4 b sub sup);have R:=λ(c:AA)=>Ke (W - c.w)
 have S:=λ(c:AA)=>J6 (W - c.w)
 have pb:=R b;have qb:=S b;unfold VG Qe ri DY HR Kd Kc;rw[M]at hW ⊢;generalize hH:Jk f b=H at bH ⊢;generalize hX:Bm (W - b.w)=X at pb qb ⊢;match sub,sup,l1,l2 with
 | [],[],_,_ =>
   have hL : -4294967296<=mn 0 X/\mn 0 X<=0:=by rw[Zb];omega
   simp only[I4,IS]at M;simp only[kV,AA.AG,Ap,BB,BU,iU,iV];refine en AQQ AQy ?_;have B:=(cj4 @AR.eq_1 @Yb @et @M ARo)
   have o:=(cj pb<|trivial)
   repeat any_goals (first|refine Du B o ⟨?_⟩|exact Bt B|(with_reducible refine LA.loop (LA.round ?_))|(with_reducible refine LA.round ?_)|(refine Dv B ?_ ?_<;>intro h<;>try exact Dw))
 | [],[d],_,_ =>
   have bd:=K d (z d (by simp));have pd:=R d;have qd:=S d;obtain⟨Y,Q⟩:=AI (Bm (W - d.w));rw[Q]at pd qd;have hL : -4294967296<=mn (mn 0 X) (Y+H)/\mn (mn 0 X) (Y+H)<=0:=by simp only[Zb];omega
   simp only[I4,IS]at M;simp only[kV,AA.AG,Ap,BB,BU,iU,iV,Q];clear R S K q z;refine en AQQ AQy ?_;have B:=(cj4 @AR.eq_1 @Yb @et @M ARo)
   have o:=(cj2 pb pd trivial)
   repeat any_goals (first|refine Du B o ⟨?_⟩|exact Bt B|(with_reducible refine LA.loop (LA.round ?_))|(with_reducible refine LA.round ?_)|(refine Dv B ?_ ?_<;>intro h<;>try exact Dw))
 | [c],[],_,_ =>
   have bc:=K c (q c (by simp));have pc:=R c;have qc:=S c;obtain⟨Y,Q⟩:=AI (Bm (W - c.w));rw[Q]at pc qc;have hL : -4294967296<=mn (mn 0 X) (Y - H)/\mn (mn 0 X) (Y - H)<=0:=by simp only[Zb];omega
   simp only[I4,IS]at M;simp only[kV,AA.AG,Ap,BB,BK,BU,iU,iV,Q];clear R S K q z;refine en AQQ AQy ?_;have B:=(cj4 @AR.eq_1 @Yb @et @M ARo)
   have o:=(cj2 pb pc trivial)
   repeat any_goals (first|refine Du B o ⟨?_⟩|exact Bt B|(with_reducible refine LA.loop (LA.round ?_))|(with_reducible refine LA.round ?_)|(refine Dv B ?_ ?_<;>intro h<;>try exact Dw))
 | [c],[d],_,_ =>
   have bc:=K c (q c (by simp));have pc:=R c;have qc:=S c;obtain⟨Y,Q⟩:=AI (Bm (W - c.w));rw[Q]at pc qc;have bd:=K d (z d (by simp));have pd:=R d;have qd:=S d;obtain⟨Z,hZ⟩:=AI (Bm (W - d.w));rw[hZ]at pd qd;have hL : -4294967296<=mn (mn (mn 0 X) (Y - H)) (Z+H)/\mn (mn (mn 0 X) (Y - H)) (Z+H)<=0:=by simp only[Zb];omega
   simp only[I4,IS]at M;simp only[kV,AA.AG,Ap,BB,BK,BU,iU,iV,Q,hZ];clear R S K q z;refine en AQQ AQy ?_;have B:=(cj4 @AR.eq_1 @Yb @et @M ARo)
   have o:=(cj3 pb pc pd trivial)
   repeat any_goals (first|refine Du B o ⟨?_⟩|exact Bt B|(with_reducible refine LA.loop (LA.round ?_))|(with_reducible refine LA.round ?_)|(refine Dv B ?_ ?_<;>intro h<;>try exact Dw))
end Go.Proofs.YtglaipbdiofkfaaGreat
