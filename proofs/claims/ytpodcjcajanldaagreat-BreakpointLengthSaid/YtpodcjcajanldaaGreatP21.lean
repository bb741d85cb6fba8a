/- Part of the proof of breakpointLength.proved. Conditions: none. (Joined and shortened by a program.) -/
import Derived.Laws.RangeAny
import Derived.Laws.RangeString
import Derived.LoopTactic
import Derived.Lib.AppendZerosOnto
import Derived.Tactics
import Derived.Tactics2
import Derived.Test.YtpodcjcajanldaaGreatP16
import Derived.Test.YtpodcjcajanldaaGreatP20
set_option linter.unusedVariables false
set_option linter.unusedSimpArgs false
set_option maxRecDepth 100000
set_option maxHeartbeats 16000000
open Bool renaming and_eq_true→An,true_and→B5,and_true→G4,false_and→C2
open List renaming all_cons→Dr,all_nil→Kc,map_cons→Al,map_nil→A8,take_succ_cons→E9,foldl_cons→Bl,foldl_nil→B7,set_cons_zero→BC,set_cons_succ→Az,take_of_length_le→D9,length_nil→B6,replicate_succ→Ao,cons_append→Bg,drop_zero→BO,replicate→As,drop_succ_cons→Be
open Go.Proofs.Tryz renaming prog→AD,func222→aI,ntmps222→iZ,func224→Hh,results222→iu,func170→Ls,func173→oz,func228→YG,results236→py,results295→Vn,results233→au
open Go.IntKind renaming i64→Ad
open Go.Instr renaming next→VZ
open Go.Utf8 renaming decode→bI
open Go.Lib renaming indexByte→De
open Go.Extern.BytealgIndexByte renaming indexByte→AH1
open Array renaming length_toList→Ep
open Nat renaming le_refl→BW
open Go.Builtin renaming firstCells→Zv,zeroCells→JV
namespace Go.Proofs.YtpodcjcajanldaaGreat
open Go.RowKit
@[simp] theorem AI.AVk (f:AI):f.vs[6]?=some (.c (.int .i64 f.params.Ro)):=rfl
@[simp] theorem AI.AVf (f:AI)(h:6<f.vs.length):f.vs[6]'h=.c (.int .i64 f.params.Ro):=rfl
@[simp] theorem AI.AVl (f:AI):f.vs[7]?=some (.c (.int .i64 f.params.QW)):=rfl
@[simp] theorem AI.AVg (f:AI)(h:7<f.vs.length):f.vs[7]'h=.c (.int .i64 f.params.QW):=rfl
@[simp] theorem AI.AVm (f:AI):f.vs[8]?=some (.c (.int .i64 f.params.RD)):=rfl
@[simp] theorem AI.AVh (f:AI)(h:8<f.vs.length):f.vs[8]'h=.c (.int .i64 f.params.RD):=rfl
@[simp] theorem AI.AcT (f:AI):f.vs[9]?=some (.c (.int .i64 f.params.Px)):=rfl
@[simp] theorem AI.AcG (f:AI)(h:9<f.vs.length):f.vs[9]'h=.c (.int .i64 f.params.Px):=rfl
@[simp] theorem AI.AcH (f:AI):f.vs[10]?=some (.c (.int .i64 f.params.VQ)):=rfl
@[simp] theorem AI.Ab4 (f:AI)(h:10<f.vs.length):f.vs[10]'h=.c (.int .i64 f.params.VQ):=rfl
@[simp] theorem AI.AcI (f:AI):f.vs[11]?=some (.c (.int .i64 f.params.VR)):=rfl
@[simp] theorem AI.Ab5 (f:AI)(h:11<f.vs.length):f.vs[11]'h=.c (.int .i64 f.params.VR):=rfl
@[simp] theorem AI.AcJ (f:AI):f.vs[12]?=some (.c (.int .i64 f.params.VS)):=rfl
@[simp] theorem AI.Ab6 (f:AI)(h:12<f.vs.length):f.vs[12]'h=.c (.int .i64 f.params.VS):=rfl
@[simp] theorem AI.AcK (f:AI):f.vs[13]?=some (.c (.int .i64 f.params.OA)):=rfl
@[simp] theorem AI.Ab7 (f:AI)(h:13<f.vs.length):f.vs[13]'h=.c (.int .i64 f.params.OA):=rfl
@[simp] theorem AI.AcL (f:AI):f.vs[14]?=some (.c (.int .i64 f.params.OC)):=rfl
@[simp] theorem AI.Ab8 (f:AI)(h:14<f.vs.length):f.vs[14]'h=.c (.int .i64 f.params.OC):=rfl
@[simp] theorem AI.AcM (f:AI):f.vs[15]?=some (.c (.int .i64 f.params.OE)):=rfl
@[simp] theorem AI.Ab9 (f:AI)(h:15<f.vs.length):f.vs[15]'h=.c (.int .i64 f.params.OE):=rfl
@[simp] theorem AI.AcN (f:AI):f.vs[16]?=some (.c (.int .i64 f.params.OD)):=rfl
@[simp] theorem AI.AcA (f:AI)(h:16<f.vs.length):f.vs[16]'h=.c (.int .i64 f.params.OD):=rfl
@[simp] theorem AI.AcS (f:AI):f.vs[21]?=some (.c (.int .i64 f.params.OO)):=rfl
@[simp] theorem AI.AcF (f:AI)(h:21<f.vs.length):f.vs[21]'h=.c (.int .i64 f.params.OO):=rfl
def L6 (f:AI)(s:AM):Int:=scale f.params.rule (BK f.params s)
def LV (f:AI)(s:AM):Int:=scale f.params.EB (BK f.params s) - half (L6 f s)
def RI (f:AI)(s:AM):Int:=if s.level=0 then 3*L6 f s else L6 f s
def WH (f:AI)(s:AM):Int:=scale (if s.level=0 then f.params.Ro else f.params.QW) (BK f.params s)
def WE (f:AI)(s:AM):Int:=scale (if s.level=0 then f.params.RD else f.params.Px) (BK f.params s)
def WI (f:AI)(s:AM)(n:AA):Int:=mx (WH f s) (LV f s+L6 f s+RI f s+n.d)
def WG (f:AI)(s:AM)(d:AA):Int:=mx (WE f s) (d.h+RI f s - LV f s)
def P0 (n d:AA):Int:=mx (mx 0 n.w) d.w
def L5 (f:AI)(s:AM)(n d:AA):AA:=
 CB (P0 n d) (mx (WI f s n+n.h) (LV f s+L6 f s)) (mx (d.d+WG f s d) (-(LV f s)))
  [n.at_ (half (P0 n d - n.w)) (WI f s n),(Dw (P0 n d) (L6 f s) 0).at_ 0 (LV f s),d.at_ (half (P0 n d - d.w)) (-(WG f s d))]
def Yq (f:AI)(s:AM)(n d:AA):AA×Int:=if f.valid=false\/s.ok=false\/n.Av=false\/d.Av=false then(AA.zero,1)else Cm (L5 f s n d)
mutual
def AA.simp:AA->Option AA
 | ⟨k,n,s,w,h,d,x,y,kids,o,src⟩=>if k=1 then some ⟨k,n,s,w,h,d,x,y,kids,o,src⟩else if k=3 then AA.N7 kids else none
def AA.N7:List AA->Option AA
 | []=>none
 | c::l=>match l with
   | []=>if c.x=0/\c.y=0 then c.simp else none
   | _::_=>none
end
theorem ATm (b:AA):b.simp=if b.kind=1 then some b else if b.kind=3 then AA.N7 b.kids else none:=by cases b;rfl
def Ea (f:AI)(b:AA):Int:=match b.simp with
 | some g=>mx 0 (scale (f.pick g.name).DY g.size)
 | none=>0
def atR (f:AI)(b:AA):Int:=match b.simp with
 | some g=>scale (f.pick g.name).attach g.size
 | none=>half b.w
def Mu:Int×Int×Int×Int->List AA->Int×Int×Int×Int
 | e,[]=>e
 | e,b::l=>Mu (mn e.1 b.x,mx e.2.1 (b.x+b.w),mx e.2.2.1 (b.y+b.h),mx e.2.2.2 (b.d - b.y)) l
def EN:List AA->Int×Int×Int×Int
 | []=>(0,0,0,0)
 | b::l=>Mu (b.x,b.x+b.w,b.y+b.h,b.d - b.y) l
def Jq (s:AM):AM:=DZ 8 1 s
def Li (f:AI)(s:AM):Int:=scale f.params.FV (BK f.params s)
def Mc (f:AI)(s:AM)(b:AA):Int:=if b.simp.isSome then 0 else b.h - scale f.params.OE (BK f.params (Jq s))
def KS (f:AI)(s:AM)(b:AA):Int:=if b.simp.isSome then 0 else b.d+scale f.params.OD (BK f.params (Jq s))
def U9 (p:Params)(s:AM):Int:=if s.GJ=true then p.VS else if s.level=0 then p.VQ else p.VR
def Fw (f:AI)(s:AM)(b:AA):List AA->Int
 | []=>Mc f s b
 | c::_=>mx (mx (Mc f s b) (scale (U9 f.params s) (BK f.params s))) (c.d+scale (Li f s) 25)
def KT (f:AI)(s:AM)(b:AA):Int:=mx (KS f s b) (scale f.params.OC (BK f.params s))
def Xs (f:AI)(s:AM)(b c d:AA):Int:=Fw f s b [d] - d.d - (c.h - KT f s b)
def Qk (f:AI)(s:AM):Int:=4*scale f.params.rule (BK f.params s)
def Xt (f:AI)(s:AM)(b d:AA):Int:=scale (Li f s) 80 - (Fw f s b [d] - d.d)
def Dq (f:AI)(s:AM)(b:AA):List AA->List AA->Int×Int
 | [],sup=>(Fw f s b sup,KS f s b)
 | c::_,[]=>(Fw f s b [],mx (mx (KS f s b) (scale f.params.OA (BK f.params s))) (c.h - scale (Li f s) 80))
 | c::_,d::_ =>
   if Xs f s b c d<Qk f s then
    (if 0<Xt f s b d then(Fw f s b [d]+Xt f s b d,KT f s b+(Qk f s - Xs f s b c d) - Xt f s b d)
     else(Fw f s b [d],KT f s b+(Qk f s - Xs f s b c d)))
   else(Fw f s b [d],KT f s b)
def Qi (f:AI)(s:AM)(b:AA)(sub sup:List AA):List AA:=
 b.at_ 0 0::((match sub with | []=>[]|c::_=>[c.at_ (b.w - Ea f b) (-(Dq f s b sub sup).2)])++(match sup with | []=>[]|c::_=>[c.at_ b.w (Dq f s b sub sup).1]))
def Iz (f:AI)(s:AM)(b:AA)(sub sup:List AA):AA:=
 CB (EN (Qi f s b sub sup)).2.1 (EN (Qi f s b sub sup)).2.2.1 (EN (Qi f s b sub sup)).2.2.2 (Qi f s b sub sup)
def Fb (f:AI)(s:AM)(p:Int):Int:=scale (scale f.params.BZ (BK f.params s)) p
def GY (b:AA)(sub sup:List AA):Int:=GO (GO (mx 0 b.w) sub) sup
def Hx (f:AI)(b:AA):Int:=half (Ea f b)
def Fu (f:AI)(b:AA)(sub sup:List AA):Int:=half (GY b sub sup - b.w)
def Iw (f:AI)(b:AA)(sub sup:List AA)(c:AA):Int:=half (GY b sub sup - c.w) - Hx f b
def Iv (f:AI)(b:AA)(sub sup:List AA)(c:AA):Int:=half (GY b sub sup - c.w)+Hx f b
def C4 (f:AI)(b:AA)(sub sup:List AA):Int:=
 let l:=mn 0 (Fu f b sub sup)
 let l:=match sub with | []=>l|c::_=>mn l (Iw f b sub sup c)
 match sup with | []=>l|c::_=>mn l (Iv f b sub sup c)
def O7 (f:AI)(s:AM)(b c:AA):Int:=b.d+Fb f s 17+c.h
def O9 (f:AI)(s:AM)(b c:AA):Int:=b.h+Fb f s 11+c.d
def TQ (f:AI)(s:AM)(b:AA)(sub sup:List AA):List AA:=
 b.at_ (Fu f b sub sup - C4 f b sub sup) 0::
  ((match sub with | []=>[]|c::_=>[c.at_ (Iw f b sub sup c - C4 f b sub sup) (-(O7 f s b c))])++
   (match sup with | []=>[]|c::_=>[c.at_ (Iv f b sub sup c - C4 f b sub sup) (O9 f s b c)]))
def Uq:Int->List AA->Int
 | w,[]=>w
 | w,b::l=>Uq (mx w (b.x+b.w)) l
def Iu (f:AI)(s:AM)(b:AA)(sub sup:List AA):AA:=
 CB (Uq (GY b sub sup) (TQ f s b sub sup))
  (match sup with | []=>b.h|c::_=>mx b.h (O9 f s b c+c.h+Fb f s 10))
  (match sub with | []=>b.d|c::_=>mx b.d (O7 f s b c+c.d+Fb f s 10)) (TQ f s b sub sup)
def SY (f:AI)(s:AM)(b:AA):Int:=b.h - mn b.h (scale f.params.OO (BK f.params s))
def SZ (f:AI)(s:AM)(name:ByteArray)(b:AA):Int:=atR f b - scale (f.pick name).attach (BK f.params s)
def Pv (f:AI)(s:AM)(name:ByteArray)(b:AA):Int:=mx 0 (-(SZ f s name b))
def Na (f:AI)(s:AM)(name:ByteArray)(b a:AA):AA:=
 CB (mx (mx 0 (SZ f s name b+Pv f s name b+a.w)) (Pv f s name b+b.w)) (mx b.h (SY f s b+a.h)) (mx b.d (a.d - SY f s b))
  [a.at_ (SZ f s name b+Pv f s name b) (SY f s b),b.at_ (Pv f s name b) 0]
def Gu (f:AI)(p:Int):Int:=scale f.params.EB p
def Ms (f:AI)(b:AA)(p:Int):Int:=mx (mx 0 (b.h - Gu f p)) (b.d+Gu f p)
def JD (f:AI)(b:AA)(p:Int):Int:=
 if f.valid=false\/b.Av=false\/p<1\/100<p then 0
 else if 536870912<Ms f b p then 0
 else mx (scale (2*Ms f b p) f.params.Nf) (2*Ms f b p - scale f.params.OZ p)
def Ic (b:AA)(a:Int):AA×Int:=
 if b.Av=false then(AA.zero,1)
 else if Aw a=false\/Aw (b.h - b.d)=false then(AA.zero,2)
 else if Aw (a - half (b.h - b.d))=false then(AA.zero,6)
 else(b.at_ b.x (a - half (b.h - b.d)),0)
theorem ze {b:AA}(h:b.Av=true)(y:Int):(b.at_ b.x y).Av=Aw y:=by
 obtain⟨bk,bn,bs,bw,bh,bd,bx,Bu,Dt,bo,EC⟩:=b;simp only[AA.Av,An,decide_eq_true_eq]at h;obtain⟨h1,h2,h3⟩:=h;simp only[AA.EE,AA.CZ,AA.lens,An,Dr,Kc]at h1;obtain⟨⟨⟨l1,l2,l3,l4,l5,_⟩,k1,k2⟩,h4⟩:=h1;have uV:AA.Ej ⟨bk,bn,bs,bw,bh,bd,bx,y,Dt,bo,EC⟩=true:=k1;have uW:AA.I0 ⟨bk,bn,bs,bw,bh,bd,bx,y,Dt,bo,EC⟩=true:=k2;have Fa:AA.cnt ⟨bk,bn,bs,bw,bh,bd,bx,y,Dt,bo,EC⟩<=20000:=h2;have J8:AA.nest ⟨bk,bn,bs,bw,bh,bd,bx,y,Dt,bo,EC⟩<=100:=h3;have ho:AA.CZ ⟨bk,bn,bs,bw,bh,bd,bx,y,Dt,bo,EC⟩=Aw y:=by
  unfold AA.CZ;rw[uV,uW];simp only[AA.lens,Dr,Kc,l1,l2,l3,l4,B5,G4]
 have hp:AA.EE ⟨bk,bn,bs,bw,bh,bd,bx,y,Dt,bo,EC⟩=Aw y:=by
  show (AA.CZ ⟨bk,bn,bs,bw,bh,bd,bx,y,Dt,bo,EC⟩ && AA.Hb Dt)=_;rw[ho,h4,G4]
 show (AA.EE ⟨bk,bn,bs,bw,bh,bd,bx,y,Dt,bo,EC⟩ && (decide (AA.cnt ⟨bk,bn,bs,bw,bh,bd,bx,y,Dt,bo,EC⟩<=20000) && decide (AA.nest ⟨bk,bn,bs,bw,bh,bd,bx,y,Dt,bo,EC⟩<=100)))=_;rw[hp,decide_eq_true Fa,decide_eq_true J8,Bool.and_self,G4]
@[simp] theorem AA.AcV (b:AA)(y:Int):b.vs.set 7 (.c (.int .i64 y))=(b.at_ b.x y).vs:=by cases b;rfl
@[simp] theorem br (b:AA)(x y:Int):(b.at_ x y).w=b.w:=rfl
@[simp] theorem bq (b:AA)(x y:Int):(b.at_ x y).h=b.h:=rfl
@[simp] theorem bp (b:AA)(x y:Int):(b.at_ x y).d=b.d:=rfl
@[simp] theorem bu (b:AA)(x y:Int):(b.at_ x y).x=x:=rfl
@[simp] theorem bz (b:AA)(x y:Int):(b.at_ x y).y=y:=rfl
theorem AEk (b:AA)(a:Int)(ho:b.Bc)(hc:b.cnt<=900000):AC AD 222 [BD b,.c (.int .i64 a)] (Bd (Ic b a)):=by
 have Cd:=D2 b ho (by omega);cases hv:b.Av with
 | false =>
   have e:Ic b a=(AA.zero,1):=if_pos hv;rw[e];rw[hv]at Cd;simp only[Bd,Ay,Af]at Cd ⊢;refine en aI iZ ?_;refine Ac ?_;refine BY (Cd) Hh ?_;refine Ac ?_;simp[Aj,AV,AZ,Aa,V.AP,V.AO,AU,iu,Eo]
 | true =>
   rw[hv]at Cd;obtain⟨bw,bh,bd,bc⟩:=DS hv;have F8:=NB a;have Fp:=NB (b.h - b.d);have w1:Ad.wrap (b.h - b.d)=b.h - b.d:=Aq;cases ha:Aw a with
   | false =>
     have e:Ic b a=(AA.zero,2):=by unfold Ic;rw[if_neg (by simp[hv]),if_pos (.inl ha)]
     rw[e];rw[ha]at F8;simp only[Bd,Ay,Af]at Cd ⊢;refine en aI iZ ?_;refine Ac ?_;refine BY (Cd) Hh ?_;refine Ac ?_;refine BY (F8) Ls ?_;refine Ac ?_;simp[Aj,AV,AZ,Aa,V.AP,V.AO,AU,iu,Eo]
   | true =>
     rw[ha]at F8;cases hd:Aw (b.h - b.d)with
     | false =>
       have e:Ic b a=(AA.zero,2):=by unfold Ic;rw[if_neg (by simp[hv]),if_pos (.inr hd)]
       rw[e];rw[hd]at Fp;simp only[Bd,Ay,Af]at Cd ⊢;refine en aI iZ ?_;refine Ac ?_;refine BY (Cd) Hh ?_;refine Ac ?_;refine gc @w1 (F8) Ls ?_;refine BY (Fp) Ls ?_;refine Ac ?_;simp[Aj,AV,AZ,Aa,V.AP,V.AO,AU,iu,Eo]
     | true =>
       rw[hd]at Fp;have Gx:=JI (b.h - b.d);have JM:=KM (b.h - b.d);simp[Aw]at ha;have hav:Aw a=true:=by simp[Aw];omega
       have Wa:=ra b (Fz hv) (by omega);have hm:=ze hv (a - half (b.h - b.d));have Uc:=D2 (b.at_ b.x (a - half (b.h - b.d))) (FA _ _ ho) (by rw[GW];omega);rw[hm]at Uc;have e:Ic b a=if Aw (a - half (b.h - b.d))=false then(AA.zero,6)else(b.at_ b.x (a - half (b.h - b.d)),0):=by unfold Ic;rw[if_neg (by simp[hv]),if_neg (by simp[hav,hd])]
       rw[e];obtain⟨Hf,hHf⟩:=AE (half (b.h - b.d));rw[hHf]at Gx JM Uc ⊢;have w2:Ad.wrap (a - Hf)=a - Hf:=Aq;cases hy:Aw (a - Hf)with
       | false =>
         rw[if_pos rfl];rw[hy]at Uc;simp only[Bd,Ay,Af]at Cd Wa Uc ⊢;refine en aI iZ ?_;refine Ac ?_;refine BY (Cd) Hh ?_;refine Ac ?_;refine gc @w1 (F8) Ls ?_;refine BY (Fp) Ls ?_;refine Ac ?_;refine BY (Wa) oz ?_;refine go @w1 ?_;refine gc @w2 (JM) YG ?_;refine Ac ?_;refine BY (Uc) Hh ?_;refine Ac ?_;simp[Aj,AV,AZ,Aa,V.AP,V.AO,AU,iu,Eo]
       | true =>
         rw[if_neg (by simp)];rw[hy]at Uc;simp only[Bd,Ay,Af]at Cd Wa Uc ⊢;refine en aI iZ ?_;refine Ac ?_;refine BY (Cd) Hh ?_;refine Ac ?_;refine gc @w1 (F8) Ls ?_;refine BY (Fp) Ls ?_;refine Ac ?_;refine BY (Wa) oz ?_;refine go @w1 ?_;refine gc @w2 (JM) YG ?_;refine Ac ?_;refine BY (Uc) Hh ?_;refine Ac ?_;simp[Aj,AV,AZ,Aa,V.AP,V.AO,AU,iu]
def AA.mark (b:AA)(o:Int)(src:List Int):AA:={ b with KJ:=o,src:=src }
theorem N3 (b:AA)(o:Int)(src:List Int)(hs:src.length<=1000000):AC AD 108 [BD b,.c (.int .i64 o),.c (Ab src)] (BD (b.mark o src)):=by
 have hc:=kH src hs;obtain⟨b0,b1,b2,b3,b4,b5,b6,b7,kids,o',gA⟩:=b;simp only[BD,AA.mark,AA.row,Al,A8];refine en Tryz.func108 Tryz.ntmps108 ?_;exact wz (cj @Af.eq_1<|Tryz.results108) (cj hc<|trivial)
theorem AAr : ∀(l:List AA) (k:Nat) (b:AA) (e:Int×Int×Int×Int),l[k]?=some b->Mu e (l.take (k+1))=(mn (Mu e (l.take k)).1 b.x,mx (Mu e (l.take k)).2.1 (b.x+b.w),mx (Mu e (l.take k)).2.2.1 (b.y+b.h),mx (Mu e (l.take k)).2.2.2 (b.d - b.y))
 | [],_,_,_,h=>by simp at h
 | x::l,0,b,e,h=>by simp at h;subst h;rfl
 | x::l,k+1,b,e,h=>by simp only[E9,Mu];exact AAr l k b _ (by simpa using h)
def Qo (n:Int):Prop:= -1000000000000<=n/\n<=1000000000000
structure AIs (b:AA):Prop where
 x:Qo b.x
 y:Qo b.y
 w:Qo b.w
 h:Qo b.h
 d:Qo b.d
theorem AKo {l:List AA}{k:Nat}{b:AA}(hk:l[k]?=some b):EN (l.take (k+1))=if k=0 then(b.x,b.x+b.w,b.y+b.h,b.d - b.y)else(mn (EN (l.take k)).1 b.x,mx (EN (l.take k)).2.1 (b.x+b.w),mx (EN (l.take k)).2.2.1 (b.y+b.h),mx (EN (l.take k)).2.2.2 (b.d - b.y)):=by
 match l,k,hk with
 | [],_,h=>simp at h
 | c::l,0,h=>simp at h;subst h;simp[EN,Mu]
 | c::l,k+1,h =>
   rw[if_neg (by omega)];simp only[E9,EN];exact AAr l k b _ (by simpa using h)
def Ym (e:Int×Int×Int×Int):List V:=[.c (.int .i64 e.1),.c (.int .i64 e.2.1),.c (.int .i64 e.2.2.1),.c (.int .i64 e.2.2.2)]
theorem mZ (l:List AA)(hl:l.length<=1000000)(ht : ∀b∈l,AIs b):AC AD 236 [.c (.sl (AA.rows l))] (.Bk (Ym (EN l))):=by
 obtain⟨rs,Ak⟩:=AE (AA.rows l);have Am:rs.length=l.length:=by rw[<-Ak,Ed];simp
 rw[Ak];refine en Tryz.func236 Tryz.ntmps236 ?_;refine wy (cj @Am<|cj @Af.eq_1<|py) trivial ⟨?_⟩;refine lp (ι:={ k:Nat // k<=l.length }) (fun k=>[(2,.c (.int .i64 (EN (l.take k.1)).1)),(3,.c (.int .i64 (EN (l.take k.1)).2.1)),(4,.c (.int .i64 (EN (l.take k.1)).2.2.1)),(5,.c (.int .i64 (EN (l.take k.1)).2.2.2)),(10,.c (.int .i64 (k.1:Int)))]) (fun _=>[]) (fun k=>l.length - k.1) ⟨0,by simp⟩ ?_ ?_;all_goals simp only[Br,Bl,B7,BC,Az]
 . refine Le.BV (by simp[A5,EN])
 . rintro ⟨k,hk⟩;simp only;by_cases hlt:k<l.length
   . obtain⟨c,hcc⟩:=AE (l[k]);have JK:l[k]?=some c:=by rw[List.getElem?_eq_getElem hlt,hcc]
     have BN:rs[k]?=some c.row:=by rw[<-Ak,Ed,List.getElem?_map,JK];rfl
     have CW:k<rs.length:=by omega
     have CH:=gx BN;obtain⟨cx,cy,cw,ch,cd⟩:=ht c (List.mem_of_getElem? JK);unfold Qo at cx cy cw ch cd;have hE:=AKo JK;obtain⟨E,RL⟩:=AE (EN (l.take k));obtain⟨E',sT⟩:=AE (EN (l.take (k+1)));rw[RL,sT]at hE;rw[RL];have fin : ∀(K:Exit->St->Prop),True:=fun _=>trivial
     by_cases h0:k=0
     . rw[if_pos h0]at hE;have hki:(k:Int)=0↔True:=iff_true_intro (by omega);refine wy (cj @Am<|cj @hlt<|cj @CW<|cj @BN<|cj @CH<|cj @hki<|py) trivial ⟨?_⟩;exact⟨⟨k+1,by omega⟩,by simp only;omega,by rw[sT,hE];exact wd 0⟩
     . rw[if_neg h0]at hE;have hki : ¬(k:Int)=0:=by omega
       simp only[mx,mn]at hE;refine wy (cj @Am<|cj @hlt<|cj @CW<|cj @BN<|cj @CH<|cj @hki<|py) trivial ⟨?_⟩;exact⟨⟨k+1,by omega⟩,by simp only;omega,by rw[sT,hE];exact wd 0⟩
   . have e:l.take k=l:=D9 (by omega);rw[e];unfold Ym;exact wz (cj @Am<|cj @hlt<|py) trivial
theorem APQ (w:World):Calls AD 176 #[] w fun e w'=>e=.returned (.func (.func 247) #[] #[.pointer (some ⟨w.heap.size,0,none⟩)])/\w'=w.alloc (.cells #[.int .i64 0] 3):=by
 go_enter Tryz.func176,Tryz.ntmps176;go_wp2;go_ret;exact⟨rfl,rfl⟩
theorem APP (e sp wd:Int)(h1 : -9000000000000000000<=e+sp)(h2:e+sp<=9000000000000000000)(h3 : -9000000000000000000<=e+sp+wd)(h4:e+sp+wd<=9000000000000000000):AX AD 247 [.c (.int .i64 sp),.c (.int .i64 wd),.ptr 0 0] 3 [.int .i64 e] [.int .i64 (e+sp+wd)] (.c (.int .i64 (e+sp))):=by
 have w1:Ad.wrap (e+sp)=e+sp:=Aq;have w2:Ad.wrap (e+sp+wd)=e+sp+wd:=Aq;refine AX.intro Tryz.func247 rfl ?_;simp only[Tryz.ntmps247,Al,A8,List.length_cons,B6,Nat.reduceAdd,Nat.reduceSub,Ao,List.replicate_zero,Bg,List.nil_append];refine go (cj @w1<|@w2) ?_;simp[Vs,AV,AZ,Aa,V.AP,V.AO,AU,toCs,toC,Tryz.results247]
def Qe (s:ByteArray)(pos:Nat):Bool:=(s.data.toList.drop pos).all DH
theorem ASW {s:ByteArray}{pos:Nat}(h : ¬pos<s.size):Qe s pos=true:=by
 unfold Qe;rw[List.drop_of_length_le (by simpa using h)];rfl
theorem ASX {s:ByteArray}{pos:Nat}(h:pos<s.size):Qe s pos=(DH (s[pos]'h) && Qe s (pos+1)):=by
 unfold Qe;have hl:pos<s.data.toList.length:=by simpa using h
 rw[List.drop_eq_getElem_cons hl,Dr];rfl
theorem AD3 {s:ByteArray}(h:Qe s 0=false):F2 s=false:=by
 unfold Qe at h;rw[BO]at h;unfold F2;rw[h,C2]
theorem APR {s:ByteArray}(h:Qe s 0=true):F2 s=(decide (1<=s.size) && decide (s.size<=16)):=by
 unfold Qe at h;rw[BO]at h;unfold F2;rw[h,B5]
theorem z4 {b:UInt8}(h:b.toNat<32\/126<b.toNat):DH b=false:=by simp[DH];omega
theorem AJt {b:UInt8}(h:32<=b.toNat/\b.toNat<=126):DH b=true:=by simp[DH];omega
theorem AKb (s:ByteArray)(w:World):Calls AD 301 #[.string s] w fun e w'=>e=.returned (.bool (F2 s))/\∃pos,w'=w.iter s pos:=by
 go_enter Tryz.func301,Tryz.ntmps301;go_wp2;go_loopw [2,4] (fun r c w'=>∃(pos:Nat),w'=w.iter s pos/\r=.bool false/\Qe s pos=Qe s 0) (fun _ _ w'=>s.size - w'.iterPos w.heap.size)
 case atStart=>exact⟨0,rfl,rfl,rfl⟩
 case round =>
  obtain⟨pos,rfl,rfl,hc⟩:=hrel;by_cases hp:pos<s.size
  . obtain⟨b,hb⟩:=AE ((s[pos]'hp));have hst:=ASX hp;rw[hb]at hst;by_cases ha:b.toNat<128
    . have D5 : ∀ty,(VZ (.pointer (some ⟨w.heap.size,0,none⟩)) true ty).run AD (w.iter s pos)=.ok (.tuple #[.bool true,.int .i64 pos,.int .i32 (b.toNat:Int)]) (w.iter s (pos+1)):=fun ty=>by rw[run_next_ascii w s pos ty hp (by rw[hb];exact ha),hb]
      go_wp2;all_goals first
       | (refine⟨⟨pos+1,rfl,rfl,?_⟩,?_⟩
          . rw[<-hc,hst,AJt (by omega),B5]
          . simp;omega)
       | (go_ret
          have e:F2 s=false:=AD3 (by rw[<-hc,hst,z4 (by omega),C2]);rw[e];exact⟨rfl,_,rfl⟩)
       | (exfalso;omega)
    . have hh:=decode_high s pos hp (by rw[hb];omega);obtain⟨D,hD⟩:=AE ((bI s pos).1);rw[hD]at hh;have D5 : ∀ty,(VZ (.pointer (some ⟨w.heap.size,0,none⟩)) true ty).run AD (w.iter s pos)=.ok (.tuple #[.bool true,.int .i64 pos,.int .i32 (D:Int)]) (w.iter s (pos+(bI s pos).2)):=fun ty=>by rw[run_next_any w s pos ty hp,hD]
      go_wp2;all_goals first
       | (exfalso;omega)
       | (go_ret
          have e:F2 s=false:=AD3 (by rw[<-hc,hst,z4 (by omega),C2]);rw[e];exact⟨rfl,_,rfl⟩)
  . have D5 : ∀ty,(VZ (.pointer (some ⟨w.heap.size,0,none⟩)) true ty).run AD (w.iter s pos)=_:=fun ty=>run_next_end w s pos ty hp
    have ht:=APR (hc.symm.trans (ASW hp));go_wp2;all_goals go_ret
    all_goals try rw[ht]
    all_goals refine⟨?_,_,rfl⟩
    all_goals simp
    all_goals first|omega|(rw[decide_eq_decide];omega)|(rw[decide_eq_true (show 1<=s.size by omega),B5,decide_eq_decide];omega)|trace_state
theorem ee (w:World)(s:ByteArray)(pos:Nat):AS w (w.iter s pos):=(AS.refl w).alloc _
theorem AKa (s:ByteArray):AC AD 301 [.c (.str s)] (.c (.bool (F2 s))):=by
 intro S w us hS C9;simp only[AL,CV,Ap]at C9;obtain⟨u,ur,rfl,⟨rfl,_⟩,rfl⟩:=C9;refine(AKb s w).mono ?_;rintro e w' ⟨rfl,pos,rfl⟩;have hk:=ee w s pos;exact⟨_,S,rfl,hk,⟨fun _ _ h=>h,fun b j v _ hc=>hk.cell hc⟩,fun b j h=>.inl h,by simp only[CV,Ap]⟩
theorem AO4 (s:ByteArray)(c:Int)(w:World):Calls AD 285 #[.string s,.int .u8 c] w fun e w'=>e=.returned (.int .i64 (De s.data.toList c.toNat.toUInt8))/\w'=w:=by
 go_enter Tryz.func285,Tryz.ntmps285;go_wp2;rw[run_callFunc_extern Tryz.func319 (by kernel_rfl) (by kernel_rfl) (by kernel_rfl) (e:=AH1) (by kernel_rfl),Lib.run_indexByteString];simp only[Result.andThen];rw[Oper.upon_value];go_wp2;go_ret;exact⟨rfl,rfl⟩
theorem ACz (s:ByteArray)(c:Int)(w:World):Calls AD 218 #[.string s,.int .u8 c] w fun e w'=>e=.returned (.int .i64 (De s.data.toList c.toNat.toUInt8))/\w'=w:=by
 go_enter Tryz.func218,Tryz.ntmps218;go_wp2_with (go_at_call 285;refine(AO4 _ _ _).mono ?_;rintro e w' ⟨rfl,rfl⟩)
 go_ret;exact⟨rfl,rfl⟩
theorem AOF (s:ByteArray)(r:Int)(w:World)(h0:0<=r)(h1:r<128):Calls AD 327 #[.string s,.int .i32 r] w fun e w'=>e=.returned (.int .i64 (De s.data.toList r.toNat.toUInt8))/\w'=w:=by
 go_enter Tryz.func327,Tryz.ntmps327;go_wp2_with (go_at_call 218;refine(ACz _ _ _).mono ?_;rintro e w' ⟨rfl,rfl⟩)
 go_ret;exact⟨rfl,rfl⟩
theorem AKH (s:ByteArray)(r:Int)(w:World)(h0:0<=r)(h1:r<128):Calls AD 300 #[.string s,.int .i32 r] w fun e w'=>e=.returned (.bool (decide (0<=De s.data.toList r.toNat.toUInt8)))/\w'=w:=by
 go_enter Tryz.func300,Tryz.ntmps300;go_wp2_with (go_at_call 327;refine(AOF _ _ _ h0 h1).mono ?_;rintro e w' ⟨rfl,rfl⟩)
 go_ret;exact⟨rfl,rfl⟩
def Fc:ByteArray:=⟨#[40,41,123,125,91,93,124,60,62,47,46]⟩
theorem toCs_app : ∀ {a b:List V} {x y:List C},toCs a=some x->toCs b=some y->toCs (a++b)=some (x++y)
 | [],b,x,y,h,h'=>by simp[toCs]at h;subst h;simpa using h'
 | v::a,b,x,y,h,h'=>by
   simp only[toCs]at h;split at h
   . rename_i c r hc hr;cases h;simp only[Bg,toCs,hc,toCs_app hr h']
   . cases h
theorem toCs_rep {z:List V}{c:List C}(h:toCs z=some c):∀n:Nat,toCs (As n z).flatten=some (As n c).flatten
 | 0=>rfl
 | n+1=>by simp only[Ao,List.flatten_cons];exact toCs_app h (toCs_rep h n)
def qP (P:Program)(o:Oper)(a:Act)(S0:Ba)(w0:Bs)(x:Cx)(w:World)(H:Heap)(v:V)(t:Option (Nat×O)):Prop:=
 ∃nx w' x' u,(execOp a.eval o).run P w=.ok nx w'/\(nx=.value u\/(nx=.skip/\u=undef))/\CV x' w' v u/\Good S0 w0 x' w' (H.upd t)/\Ext x x' w w'
theorem TW.vM {P:Program}{ops:List Oper}{K:List Ef->St->Prop}{o:Oper}{r:List Oper}{acc:List Ef}{s:St}(e:Ef)(hg:gate ops s.t o.guard=some true)(hk : ∀k ob,e.t=some (k,ob)->k<=s.h.length)(hR : ∀(S0:Ba) (w0:Bs) (x:Cx) (a:Act) (w:World) (H:Heap),Good S0 w0 x w H->(∀y∈o.op.operands.toList,CV x w (ev s.t y) (a.eval y))->(∀k,e.rk=some k->H k=s.h[k]?)->qP P o a S0 w0 x w H e.v e.t)(h:TW P ops K r (acc++[e]) (s.step o.dst e.v e.t)):TW P ops K (o::r) acc s:=by
 obtain⟨es,s2,h2,h3⟩:=h;refine⟨e::es,s2,⟨e,es,rfl,?_,hk,h2⟩,by simpa using h3⟩;intro S0 w0 x w a H g hl hr _ Q next hn;rw[Og hl hg];obtain⟨nx,w',x',u,hrun,D5,hcv,g',he⟩:=hR S0 w0 x a w H g (Ow hl) fun k hk=>hr k (.inl hk)
 show o.wp P a w next Q;unfold Oper.wp;rw[hrun];rcases D5 with rfl|⟨rfl,rfl⟩
 . exact hn u x' w' g' he hcv
 . exact hn undef x' w' g' he hcv
theorem AEK {P:Program}{o:Oper}{a:Act}{S0:Ba}{w0:Bs}{x:Cx}{w:World}{H:Heap}(g:Good S0 w0 x w H){t:TypeId}{y z:Operand}(ho:o.op=.makeSlice t y z){Ah:TypeId}{es Bu:Nat}(ht:Dd P t=some (Ah,es,Bu)){k k':IntKind}{l:Int}(hy:CV x w (.c (.int k l)) (a.eval y))(hz:CV x w (.c (.int k' l)) (a.eval z)){zl:List V}(hzl:DR P Ah=some zl){zc:List C}(hzc:toCs zl=some zc)(h0:0<=l)(h1:(Bu:Int)*l<=281474976710656)(h2:l<=140737488355328):qP P o a S0 w0 x w H (.full (As l.toNat zc)) none:=by
 obtain⟨hu,ie,zv,hie,TH,hsz,hby,hzs⟩:=I1 ht;obtain⟨xR,hz1,Is,i2,hi2,QP⟩:=Zl (x:=x) (w:=w) hzl;rw[hie]at hi2;cases hi2;rw[TH]at QP;cases QP;simp only[CV,Ap]at hy hz;have hr:=run_make (P:=P) w t Ah ie zv hu hie TH k k' l l h0 (Int.le_refl _) (by rw[hby];exact h1) (by omega);rw[hsz]at hr;have hcv:AL x w (As l.toNat zl).flatten (madeCells zv.cells (l.toNat*es)).toList:=by rw[uw zv.cells hzs];exact Is.kb _
 have CU:=toCs_ok (toCs_rep hzc l.toNat) hcv;have Wl:(madeCells zv.cells (l.toNat*es)).size=l.toNat*es:=by simp[size_madeCells]
 obtain⟨S',g',he,EK⟩:=g.AD8 Ah (madeCells zv.cells (l.toNat*es)) (l.toNat*es) (by omega) w (AS.refl w) rfl (l:=(As l.toNat zc).flatten) (by rw[D9 (by rw[Ep];omega)];exact CU);have hes:zc.length=es:=by
  have q1:=Is.len;have q2:=toCs_len hzc;simp only[Ep]at q1;omega
 refine⟨_,_,_,.slice (some ⟨w.heap.size,0,none⟩) l.toNat l.toNat,by simp only[execOp,ho,hy.1,hz.1,Sem.run_bind,hr,Result.andThen_ok];rfl,.inl rfl,?_,g',he⟩;simp only[CV,Ap,List.length_replicate];exact⟨some ⟨w.heap.size,0,none⟩,rfl,some ⟨w.heap.size,0,none⟩,l.toNat,rfl,BW _,by unfold maxLen;omega,fun _=>⟨w.heap.size,0,es,rfl,fun r hr=>by rw[List.eq_of_mem_replicate hr,hes],Df.flat.2 EK⟩⟩
theorem ALO (A:Option Addr)(n:Nat)(h0:0<n)(hn:n<=1000000)(w:World):Calls AD 174 #[.slice A 0 0,.int .i64 n] w fun r w' =>
 ∃cap vs,r=.returned (.slice (some ⟨w.heap.size,0,none⟩) 0 cap)/\w'=w.drew.alloc (.cells vs 3)/\vs.size=cap/\cap<=maxLen:=by
 have hi : ¬((n:Int)<0):=by omega
 have hw:Ad.wrap (n:Int)=n:=Aq;have tQ:(n:Int) > 0:=by omega
 obtain⟨hu,ie,zv,hie,hz,hsz,hby,hzs⟩:=I1 (show Dd AD 39=some (3,1,8)by kernel_rfl);have D5:Builtin.nextslicecap (0+n) 0*ie.bytes<=281474976710656:=by rw[hby];exact growslice_fits (by omega) (by omega)
 have Sz:=Go.Lib.run_append_grow_zeros (P:=AD) w 39 3 39 3 ie zv .i64 .i64 hu (by kernel_rfl) hie hz A 0 0 [] (by cases A with
  | none=>simp[Zv]
  | some ad=>simpa [Zv]using run_loadCells_list (P:=AD) w.drew ad [] (by simp)) n h0 (by omega) (by omega) (by omega) (by rw[hby];omega) D5
 have hge:=grownCap_ge w (0+n) 0 3;have hle:=grownCap_le_maxLen w (0+n) 0 3 (by unfold maxLen;omega);obtain⟨arr,harr⟩:=AE (([]:List Value).toArray++JV zv.cells n++JV zv.cells (grownCap w (0+n) 0 3 - (0+n)));rw[harr]at Sz;have hsize:arr.size=grownCap w (0+n) 0 3:=by rw[<-harr];simp[size_zeroCells,hzs];rw[Nat.zero_add]at hge;omega
 obtain⟨cap,hcap⟩:∃cap,grownCap w (0+n) 0 3=cap:=⟨_,rfl⟩
 rw[hcap]at Sz hge hle hsize;have ky : ¬((cap:Int)<0):=by omega
 clear hcap harr D5 hz hie hu;go_enter Tryz.func174,Tryz.ntmps174;go_wp2_with (at_builtin;refine Go.Lib.wpList_append_run _ rfl _ _ _ _ rfl _ _ rfl rfl _ _ Sz ?_)
 simp[bodyPost,results,Tryz.results174];exact⟨arr,rfl,hsize,hle⟩
theorem ALN (n:Nat)(h0:0<n)(hn:n<=1000000)(h:List O):HC AD 174 [.full [],.c (.int .i64 n)] h (.ret (.gr h.length 1 [])) (h++[.tok 3 1 0]):=by
 refine⟨by kernel_rfl,fun {S0 w0 x w us} g C9=>?_⟩;simp only[AL,CV,Ap]at C9;obtain⟨u1,r1,rfl,⟨A,rfl,_⟩,u2,r2,rfl,⟨rfl,_⟩,rfl⟩:=C9;refine(ALO A n h0 hn w).mono ?_;rintro r w' ⟨cap,vs,rfl,rfl,hsz,hle⟩;have hk : ¬x.dom h.length:=fun hd=>by obtain⟨o,ho⟩:=g.dom _ hd;simp at ho
 obtain⟨g',he,_⟩:=g.sJ h.length (Ah:=3) (es:=1) (m:=0) (cap:=cap) (vs:=vs) (fun o ho=>by simp at ho) (by omega) (l:=[]) (by simp[Bj]) (by simp) (by omega);have e:=Lm h (some (h.length,O.tok 3 1 0)) (fun k o e=>by cases e;exact BW _);simp only[CG,Nat.lt_irrefl,if_false,Heap.upd]at e;refine⟨_,by rw[e];exact g',he,.GA ((AS.refl w).drew.alloc _),_,rfl,?_⟩;simp only[CV,Ap,Cx.grow,if_true,B6,Bool.false_eq_true,if_false];refine⟨.inr trivial,trivial,⟨some ⟨w.heap.size,0,none⟩,cap,rfl,by omega,hle,fun h=>absurd rfl h⟩,by simp,BW _,fun _=>⟨cap,rfl,rfl⟩⟩
theorem kM (a b:List Int)(ha:a.length<=100000)(hb:b.length<=100000)(hp:0<b.length):AC AD 110 [.c (.sl [[Ab a],[Ab b]])] (.c (Ab (a++b))):=by
 obtain⟨A,hA⟩:=AE (a.map (fun n=>[C.int .i64 n]));obtain⟨B,hB⟩:=AE (b.map (fun n=>[C.int .i64 n]));have WK:A.length=a.length:=by rw[<-hA];simp
 have hBl:B.length=b.length:=by rw[<-hB];simp
 have dC : ∀r∈A,r.length=1:=by rw[<-hA];simp
 have hBr : ∀r∈B,r.length=1:=by rw[<-hB];simp
 unfold Ab;rw[List.map_append,hA,hB];have hw0:Ad.wrap (A.length:Int)=(A.length:Int):=Aq;obtain⟨N,hN⟩:=AE (A.length+B.length);have hw1:Ad.wrap ((A.length:Int)+(B.length:Int))=(N:Int):=by rw[Aq];omega
 have hn0 : ¬((A.length:Int)<0):=by omega
 have S8 : ¬((N:Int)<0):=by omega
 have k1:Ad.wrap (0+1)=1:=by decide +kernel
 have k2:Ad.wrap (1+1)=2:=by decide +kernel
 have k3:Ad.wrap 1=1:=by decide +kernel
 have k4:Ad.wrap 2=2:=by decide +kernel
 refine en Tryz.func110 Tryz.ntmps110 ?_;refine Ac ?_;refine LA.loop (LA.round ?_);refine go (cj @hw0<|cj @hn0<|cj @k1<|@k3) ?_;refine LA.round ?_;refine go (cj @hw1<|cj @S8<|cj @k2<|@k4) ?_;refine LA.round ?_;refine wu (CJ.mk 9) Tryz.results110 trivial ⟨?_⟩;with_reducible refine AW.DM ?_
 refine SW.take 1 ?_;with_reducible refine Bw (by simp[Ao];first|exact rfl|exact⟨rfl,rfl⟩) ?_
 refine B9 ?_;simp only[Be,BO];refine SW.AJz (ALN N (by omega) (by omega) []) (by simp[gate]) (by simp[DE,ev]) ?_;refine SW.take 1 ?_;with_reducible refine Bw (by simp[Ao];first|exact rfl|exact⟨rfl,rfl⟩) ?_
 refine B9 ?_;simp only[Be,BO];refine SW.nil ?_;refine Ac ?_;refine LA.loop (LA.round ?_);have g1:A.length<=maxLen:=by unfold maxLen;omega
 have g2:A.length*8<=140737488355328:=by omega
 have g3:A.length+B.length<=maxLen:=by unfold maxLen;omega
 have g4:(A.length+B.length)*8<=140737488355328:=by omega
 have hAi:(∀r∈A,r.length=1)↔True:=iff_true_intro dC;have hBi:(∀r∈B,r.length=1)↔True:=iff_true_intro hBr;refine go (cj @k1<|cj @k3<|cj @g1<|cj @g2<|@hAi) ?_;refine LA.round ?_;refine go (cj @k2<|cj @k4<|cj @g3<|cj @g4<|cj @hAi<|@hBi) ?_;refine LA.round ?_;refine Ac ?_;simp[Aj,AV,AZ,Aa,V.AP,V.AO,AU,Tryz.results110]
section
variable {P:Program} {K:Exit->St->Prop} {ops:List Oper} {s:St}
theorem SW.Za {o:Oper}{r:List Oper}{op:BinOp}{t t':TypeId}{j:Nat}{v:V}{b res:Bool}(ho:o.op=.binOp op t (.tmp j) (.const (.pointer none)) t')(hop:op=.eql/\b=false\/op=.neq/\b=true)(ht:gG P t=true)(hg:gate ops s.t o.guard=some true)(hc:Jj o.op=false)(hv:s.t[j]?=some v)(eJ:(v=.c .Rn/\res= !b)\/(∃row off,v=.cp row off)/\res=b)(h:SW P ops K r (s.step o.dst (.c (.bool res)) none)):SW P ops K (o::r) s:=by
 refine SW.op (.c (.bool res)) hg hc ?_ h;intro S0 w0 x a w hA;have hy:=Hn hA.2 hv;rcases eJ with ⟨rfl,rfl⟩|⟨⟨row,off,rfl⟩,rfl⟩
 . simp only[CV,Ap]at hy;have:=AEO hA.1 ho hop ht hy rfl;simpa using this
 . simp only[CV]at hy;obtain⟨b',o',hy,_⟩:=hy;have:=AEO hA.1 ho hop ht hy rfl;simpa using this
end
theorem Me {b:AA}(h:b.Av=true):b.src.length<=1000000:=by have:=Fz h;cases b;simp only[AA.Fk]at this;exact this.1
def N4:Option AA->V
 | some g=>.cp g.row 0
 | none=>.c .Rn
theorem vV (b:AA):AC AD 295 [.cp b.row 0] (N4 b.simp):=by
 refine en Tryz.func295 Tryz.ntmps295 ?_;refine wy (cj @Af.eq_1<|Vn) trivial ⟨?_⟩;refine lp (ι:={ c:AA // c.simp=b.simp }) (fun c=>[(0,.cp c.1.row 0)]) (fun _=>[]) (fun c=>SizeOf.sizeOf c.1) ⟨b,rfl⟩ ?_ ?_;all_goals simp only[Br,Bl,B7,BC,Az]
 . refine Le.BV (by simp[A5])
 . rintro ⟨⟨k,n,s,w,h,d,x,y,kids,o,src⟩,hI⟩;simp only;rw[<-hI,ATm];simp only[AA.row];by_cases h1:k=1
   . have FO:k=1↔True:=iff_true_intro h1;rw[if_pos h1];unfold N4;simp only[AA.row];exact wz (cj @FO<|Vn) trivial
   . rw[if_neg h1];by_cases h3:k=3
     . have J8:k=3↔True:=iff_true_intro h3;rw[if_pos h3];match kids with
       | [] =>
         simp only[AA.N7,AA.rows,N4];exact wz (cj @h1<|cj @J8<|Vn) trivial
       | [⟨k2,n2,s2,w2,h2,d2,x2,y2,AOg,o2,AUX⟩] =>
         simp only[AA.N7,AA.rows];by_cases hx:x2=0
         . have M8:x2=0↔True:=iff_true_intro hx;by_cases hy:y2=0
           . have hy':y2=0↔True:=iff_true_intro hy;rw[if_pos ⟨hx,hy⟩];simp only[AA.row];refine wy (cj @h1<|cj @J8<|cj @M8<|cj @hy'<|Vn) trivial ⟨?_⟩;refine⟨⟨⟨k2,n2,s2,w2,h2,d2,x2,y2,AOg,o2,AUX⟩,?_⟩,?_,?_⟩
             . rfl
             . simp only[AA.mk.sizeOf_spec,List.cons.sizeOf_spec];omega
             . simp only[AA.row];exact wd 0
           . rw[if_neg (fun h=>hy h.2)];simp only[AA.row,N4];exact wz (cj @h1<|cj @J8<|cj @M8<|cj @hy<|Vn) trivial
         . rw[if_neg (fun h=>hx h.1)];simp only[AA.row,N4];exact wz (cj @h1<|cj @J8<|cj @hx<|Vn) trivial
       | c::c2::l =>
         have hl : ¬(AA.rows l).length+1+1=1:=by omega
         have hl' : ¬((AA.rows l).length:Int)+1+1=1:=by omega
         simp only[AA.N7,AA.rows,N4];exact wz (cj @h1<|cj @J8<|cj @hl<|cj @hl'<|Vn) trivial
     . rw[if_neg h3];simp only[N4];exact wz (cj @h1<|cj @h3<|Vn) trivial
mutual
theorem wT : ∀(b g:AA),b.EE=true->b.simp=some g->g.EE=true/\g.kind=1
 | ⟨k,n,s,w,h,d,x,y,kids,o,src⟩,g,hp,hs=>by
   simp only[AA.simp]at hs;split at hs
   . rename_i hk;cases hs;exact⟨hp,hk⟩
   . split at hs
     . simp only[AA.EE,An]at hp;exact ATq kids g hp.2 hs
     . cases hs
theorem ATq : ∀(l:List AA) (g:AA),AA.Hb l=true->AA.N7 l=some g->g.EE=true/\g.kind=1
 | [],g,hp,hs=>by cases hs
 | c::l,g,hp,hs=>by
   simp only[AA.Hb,An]at hp;match l,hs with
   | [],hs =>
     simp only[AA.N7]at hs;split at hs
     . exact wT c g hp.1 hs
     . cases hs
   | _::_,hs=>cases hs
end
theorem nT {b g:AA}(hb:b.Av=true)(hs:b.simp=some g):1<=g.size/\g.size<=1000:=by
 simp only[AA.Av,An]at hb;obtain⟨h1,h2⟩:=wT b g hb.1 hs;obtain⟨k,n,s,w,h,d,x,y,kids,o,src⟩:=g;simp only at h2;subst h2;simp only[AA.EE,AA.CZ,AA.Ej,An,if_true,decide_eq_true_eq]at h1;exact⟨h1.1.2.1.2.1,h1.1.2.1.2.2.1⟩
theorem AGA {f:AI}(hv:f.valid=true){p:Int}(h1:1<=p)(h2:p<=1000)(name:ByteArray):Ge (f.pick name) p=((f.pick name).scaled p,0):=by
 have hs:=PH hv name;unfold Ge;rw[if_neg (by simp[Bn];omega),if_neg];unfold Ag.Small at hs;simp[Bn,Ag.Gz];omega
theorem fS (f:AI)(b:AA)(hf:f.Fit)(hv:f.valid=true)(hb:b.Av=true)(ho:b.Bc):AC AD 233 [.agg f.vs,BD b] (.c (.int .i64 (Ea f b))):=by
 have ED:=Mv f;rw[hv]at ED;have Cd:=D2 b ho (by have:=(DS hb).2.2.2;omega);rw[hb]at Cd;have hin:=vV b;have AMp:Ea f b=match b.simp with|some g=>mx 0 (scale (f.pick g.name).DY g.size)|none=>0:=rfl
 rw[AMp];rw[Ay]at *
 cases hs:b.simp with
 | none =>
   rw[hs]at hin;simp only[N4]at hin;refine en Tryz.func233 Tryz.ntmps233 ?_;refine wu (CJ.mk 3) (cj @Af.eq_1<|au) (cj ED<|cj Cd<|trivial) ⟨?_⟩;refine AW.AR 1 rfl (by simp[toCs,toC];exact rfl) (by simp[V.BG,V.AR];exact rfl) (by simp[O.AR,V.BG,V.AR];exact rfl) ?_;refine wu (CJ.mk 4) au (cj hin<|trivial) ⟨?_⟩;with_reducible refine AW.DM ?_
   refine SW.take 1 ?_;with_reducible refine Bw (by simp[Ao];first|exact rfl|exact⟨rfl,rfl⟩) ?_
   refine B9 ?_;simp only[Be,BO];refine SW.Za (b:=false) (res:=true) rfl (.inl ⟨rfl,rfl⟩) (by kernel_rfl) rfl rfl rfl (.inl ⟨rfl,rfl⟩) ?_;simp only[St.step,St.put,CG,Az,BC];refine SW.nil ?_;exact wz (cj @Af.eq_1<|au) trivial
 | some g =>
   obtain⟨z1,z2⟩:=nT hb hs;have Ft:=ZX f g.name hf.1;have hsc:=nQ (f.pick g.name) g.size;rw[AGA hv z1 z2 g.name]at hsc;have hm:(if 0<scale (f.pick g.name).DY g.size then scale (f.pick g.name).DY g.size else 0)=mx 0 (scale (f.pick g.name).DY g.size):=rfl;simp only;obtain⟨M,hM⟩:=AE (mx 0 (scale (f.pick g.name).DY g.size));rw[hM]at hm ⊢;obtain⟨k,n,sz,w,h,d,x,y,kids,o,src⟩:=g;simp only at Ft hsc hm;obtain⟨G,hG⟩:=AE (f.pick n);rw[hG]at Ft hsc hm;rw[hs]at hin;simp only[N4,AA.row]at hin;simp only[VF,Dp,Ag.row,Ag.scaled,Af,Al,A8]at Ft hsc;refine en Tryz.func233 Tryz.ntmps233 ?_;refine wu (CJ.mk 3) (cj @Af.eq_1<|au) (cj ED<|cj Cd<|trivial) ⟨?_⟩;refine AW.AR 1 rfl (by simp[toCs,toC];exact rfl) (by simp[V.BG,V.AR];exact rfl) (by simp[O.AR,V.BG,V.AR];exact rfl) ?_;refine wu (CJ.mk 4) au (cj hin<|trivial) ⟨?_⟩;with_reducible refine AW.DM ?_
   refine SW.take 1 ?_;with_reducible refine Bw (by simp[Ao];first|exact rfl|exact⟨rfl,rfl⟩) ?_
   refine B9 ?_;simp only[Be,BO];refine SW.Za (b:=false) (res:=false) rfl (.inl ⟨rfl,rfl⟩) (by kernel_rfl) rfl rfl rfl (.inr ⟨⟨_,_,rfl⟩,rfl⟩) ?_;simp only[St.step,St.put,CG,Az,BC];refine SW.nil ?_;exact wz (cj @hm<|au) (cj Ft<|cj hsc<|trivial)
end Go.Proofs.YtpodcjcajanldaaGreat
