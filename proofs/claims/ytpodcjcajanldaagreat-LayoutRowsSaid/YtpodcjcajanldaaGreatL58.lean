/- Part of the proof of layoutRows.proved. Conditions: none. (Joined and shortened by a program.) -/
import Derived.Test.YtpodcjcajanldaaGreatL48
set_option linter.unusedVariables false
set_option linter.unusedSimpArgs false
set_option maxRecDepth 100000
set_option maxHeartbeats 16000000
open Go.Proofs.Tryz renaming prog→AD,results134→YM
open Option.some renaming injEq→BE
open List renaming length_cons→BQ
namespace Go.Proofs.YtpodcjcajanldaaGreat
open Go.RowKit
@[simp] theorem AYi : Ct AD 136=some (false,1) :=by kernel_rfl
@[simp] theorem Aau : LG AD 211=true :=by kernel_rfl
@[simp] theorem AZP : Dd AD 211=some (136,1,8) :=by kernel_rfl
theorem ASE (b:AA)(x y:Int):AC AD 39 [BD b,.c (.int .i64 x),.c (.int .i64 y)] (BD (b.at_ x y)):=by
 obtain⟨b0,b1,b2,b3,b4,b5,b6,b7,kids,o,src⟩:=b;simp only[BD,AA.at_,AA.row,List.map_cons,List.map_nil];refine en Tryz.func39 Tryz.ntmps39 ?_;refine Ac ?_;simp[Aj,AV,AZ,Aa,V.AP,V.AO,AU,Tryz.results39]
def Oc:Nd->List Int->V×Bool
 | n,[]=>(.cp n.row 0,true)
 | n,[_]=>(.cp n.row 0,false)
 | n,i::j::r=>match Ez n i with
   | none=>(.c .Rn,false)
   | some m=>match Ez m j with
     | none=>(.c .Rn,false)
     | some q=>Oc q r
theorem AA2 : ∀(n:Nd) (l:List Int),(∀m,EO n l=some m->Oc n l=(.cp m.row 0,true))/\(EO n l=none->(Oc n l).2=false)
 | n,[]=>⟨fun m h=>by simp only[EO,BE]at h;subst h;rfl,fun h=>by simp[EO]at h⟩
 | n,[_]=>⟨fun m h=>by simp[EO]at h,fun h=>rfl⟩
 | n,i::j::r=>by
   simp only[EO,Oc];cases Ez n i with
   | none=>exact⟨fun m h=>by simp at h,fun _=>rfl⟩
   | some m =>
     simp only;cases Ez m j with
     | none=>exact⟨fun m h=>by simp at h,fun _=>rfl⟩
     | some q=>exact AA2 q r
theorem AQz (n:Nd)(l:List Int)(Au:n.Bc)(hl:l.length<=1000000):AC AD 134 [.cp n.row 0,.c (Ab l)] (.Bk [(Oc n l).1,.c (.bool (Oc n l).2)]):=by
 obtain⟨R,hR⟩:=AE (Oc n l);rw[hR];unfold Ab;refine en Tryz.func134 Tryz.ntmps134 ?_;refine Ac ?_;refine lp (ι:={ p:Nd×List Int // Oc p.1 p.2=R/\p.1.Bc/\p.2.length<=1000000 }) (fun p=>[(0,.cp p.1.1.row 0),(1,.c (.sl (p.1.2.map fun n=>[.int .i64 n])))]) (fun _=>[]) (fun p=>p.1.2.length) ⟨(n,l),hR,Au,hl⟩ ?_ ?_;all_goals simp only[Br,List.foldl_cons,List.foldl_nil,List.set_cons_zero,List.set_cons_succ]
 . exact wd 0
 rintro ⟨⟨n,l⟩,hR,Au,hl⟩;simp only at hR Au hl ⊢;match l,hR,hl with
 | [],hR,hl =>
   simp only[Oc]at hR;subst hR;exact wz YM trivial
 | [i],hR,hl =>
   simp only[Oc]at hR;subst hR;exact wz YM trivial
 | i::j::r,hR,hl =>
   simp only[Oc]at hR;have h2 : ¬((r.length:Int)+1+1<2):=by omega
   have Fa:(2:Int)<=(r.length:Int)+1+1:=by omega
   have Ev:=K7 n Au;have KE:=G0 n.kids;cases hk:Ez n i with
   | none =>
     rw[hk]at hR;simp only at hR;subst hR;have:=lq hk;by_cases hi:i<0
     . exact wz (cj @h2<|cj @Fa<|cj @hi<|YM) trivial
     . have hi2:(n.kids.length:Int)<=i:=by omega
       exact wz (cj @h2<|cj @Fa<|cj @hi<|cj @hi2<|cj @KE<|YM) trivial
   | some m =>
     rw[hk]at hR;simp only at hR;have tq:=ZT Au hk;obtain⟨a,rfl,ha,Hu,_⟩:=Nv hk;have Np:=gx Hu;have ha0 : ¬((a:Int)<0):=by omega
     have IG : ¬((n.kids.length:Int)<=(a:Int)):=by omega
     have WS : ¬(n.kids.length<=a):=by omega
     have M1:=G0 m.kids;cases hj:Ez m j with
     | none =>
       rw[hj]at hR;simp only at hR;subst hR;have:=lq hj;by_cases hi:j<0
       . exact wz (cj @h2<|cj @Fa<|cj @ha<|cj @ha0<|cj @IG<|cj @WS<|cj @Hu<|cj @Np<|cj @KE<|cj @hi<|YM) trivial
       . have hi2:(m.kids.length:Int)<=j:=by omega
         exact wz (cj @h2<|cj @Fa<|cj @ha<|cj @ha0<|cj @IG<|cj @WS<|cj @Hu<|cj @Np<|cj @KE<|cj @hi<|cj @hi2<|cj @M1<|YM) trivial
     | some q =>
       rw[hj]at hR;simp only at hR;have tt:=ZT tq hj;obtain⟨b,rfl,hb,Kt,_⟩:=Nv hj;have TE:=gx Kt;have hb0 : ¬((b:Int)<0):=by omega
       have Gx : ¬((m.kids.length:Int)<=(b:Int)):=by omega
       have P6 : ¬(m.kids.length<=b):=by omega
       refine wy (cj @h2<|cj @Fa<|cj @ha<|cj @ha0<|cj @IG<|cj @WS<|cj @Hu<|cj @Np<|cj @KE<|cj @hb<|cj @hb0<|cj @Gx<|cj @P6<|cj @Kt<|cj @TE<|cj @M1<|YM) trivial ⟨?_⟩;rw[rU a b r];refine⟨⟨(q,r),hR,tt,by simp only[BQ]at hl;show r.length<=1000000;omega⟩,by simp only[BQ];omega,?_⟩;exact wd 0
end Go.Proofs.YtpodcjcajanldaaGreat
