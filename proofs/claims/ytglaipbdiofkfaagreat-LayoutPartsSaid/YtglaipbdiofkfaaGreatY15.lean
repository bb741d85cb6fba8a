/- Part of the proof of some laws. Conditions: none. -/
import Derived.Test.YtglaipbdiofkfaaGreatY13
import Derived.Test.YtglaipbdiofkfaaGreatY14
set_option linter.unusedVariables false
set_option linter.unusedSimpArgs false
set_option maxRecDepth 100000
set_option maxHeartbeats 16000000
open List renaming mem_cons_self→GH,mem_cons_of_mem→Gk,mem_cons→Cf,all_cons→Ep,all_nil→Nq,map_cons→Ap,map_nil→BB,take_succ_cons→DP,foldl_cons→Bw,foldl_nil→CO,set_cons_zero→Ag,set_cons_succ→Ai
open Bool renaming and_eq_true→Ak,and_true→Km
open Nat renaming zero_le→CI
open Go.Proofs.Tryz renaming prog→AF,func142→AE6,ntmps142→ALt,func145→H9,results142→ANo,func100→L0,func103→AQL,func149→AAS,results67→Vp,results157→ARp,results234→uy,results154→AGN
open Go.IntKind renaming i64→AZ
open Option renaming some→J,none→E
open Bool renaming false→U,true→I
open List renaming length→G
namespace Go.Proofs.YtglaipbdiofkfaaGreat
open Go.RowKit Tryz
variable {name:ByteArray}(b:AA)
theorem DM {p:Int}(n:Int)(H:0<=p)(M:p<=100): -1073741824<=AU n p/\AU n p<=1073741824:=by
 unfold AU;split;rename_i h;obtain⟨B,_,_⟩:=h;simp[An]at B;have:=Qh n p 1073741824 100 (by omega) (by omega) (by omega) (by omega);exact AKS _ _ (by omega) (by omega);omega
theorem J6 (n:Int): -1073741824<=Bm n/\Bm n<=1073741824:=by
 unfold Bm;split;rename_i B;simp[An]at B;unfold Ea;split<;>omega;omega
theorem YJ {name:ByteArray}{g:BG} : ∀ {l:List BG},KU name l=J g->g∈l/\g.name=name
 | [],h=>by simp[KU]at h
 | x::r,h=>by
   simp only[KU]at h;split at h;cases h;exact⟨GH,by assumption⟩;have:=YJ h;exact⟨Gk _ this.1,this.2⟩
theorem AWE {f:AP}(Q:f.valid=I)(name:ByteArray)(M:name.size<=16):0<=(f.pick name).w/\(f.pick name).name.size<=16:=by
 have H : ∀g∈f.DR,0<=g.w/\g.name.size<=16:=by
  intro g B;have:=Z8 Q g B;simp[Lo,DX,Ck]at this;omega
 unfold AP.pick;split;rename_i g B;exact H g (YJ B).1;split;rename_i g B;exact H g (YJ B).1;simp[BG.zero,M]
structure oH (b:AA):Prop where
 Fq:b.Fq
 BX:b.BX
 fit:b.fit
 cnt:b.cnt<=8001
 h1 : -1000000001<=b.h
 h2:b.h<=1000000001
 d1 : -1000000001<=b.d
 d2:b.d<=1000000001
 w1:0<=b.w
 w2:b.w<=400000
theorem lQ {f:AP}(B:f.valid=I){p:Int}(H:1<=p)(M:p<=100)(S:name.size<=16):oH (DB f name p).1/\(DB f name p).1.AE=[]/\(DB f name p).1.cnt=1:=by
 obtain⟨e,_⟩:=Pk B H M name;have R:=Zv B H M name;obtain⟨q,z⟩:=AWE B name S;rw[e];have o:0<=((f.pick name).scaled p).w:=ew q (by omega);have Q:((f.pick name).scaled p).name.size<=16:=z;generalize hG:(f.pick name).scaled p=G at R o Q ⊢;have hm:0<=mx 0 G.Ey/\mx 0 G.Ey<=200000:=by rw[DU];omega
 refine⟨⟨?_,?_,?_,?_,?_,?_,?_,?_,?_,?_⟩,F,?_⟩;simp[N7,AA.Fq,AA.JH];simp[N7,AA.BX,AA.FY,maxLen];omega;simp[N7,AA.fit,AA.fits,maxLen];simp[N7,AA.cnt,AA.Az];all_goals simp only[N7,AA.cnt,AA.Az]
 all_goals omega
theorem AA9 {f:AP}(hv:f.valid=I){p:Int}(M:1<=p)(Q:p<=100)(H:Int):∀(l:List CR) (b:Int),(∀q∈l,q.name.size<=16)->AA.JH (Gp f H p b l)/\AA.FY (Gp f H p b l)/\AA.fits (Gp f H p b l)/\AA.Az (Gp f H p b l)=G l/\∀m,0<=m->m<=400000->0<=IS m (Gp f H p b l)/\IS m (Gp f H p b l)<=400000
 | [],b,_=>by
   simp only[Gp,AA.JH,AA.FY,AA.fits,AA.Az,IS,List.length_nil,true_and];exact λm M Q=>⟨M,Q⟩
 | q::l,b,z=>by
   obtain⟨i1,i2,i3,i4,i5⟩:=AA9 hv M Q H l (b+((f.pick q.name).Dy - H)) λx hx=>z x (Gk _ hx)
   obtain⟨o,hk,R⟩:=lQ hv M Q (z q GH);simp only[Gp,kt,AA.JH,AA.FY,AA.fits,AA.Az,IS];generalize hB:(DB f q.name p).1=B at o hk R ⊢;obtain⟨o1,o2,o3,o4,_,_,_,_,o9,S⟩:=o;obtain⟨bk,bn,bs,bw,bh,bd,bx,Bq,EU,bo,Et⟩:=B;simp only[AA.Fq,AA.BX,AA.fit,AA.cnt]at o1 o2 o3 R o9 S ⊢;refine⟨⟨o1,i1⟩,⟨o2,i2⟩,⟨o3,i3⟩,by rw[R,i4,List.length_cons];omega,λm m1 m2=>i5 _ ?_ ?_⟩;all_goals (rw[DU];omega)
theorem AA0 (H:ByteArray->Option Int):∀(l:List CR) (a:Int) (e:Bool) (r:Int×Bool),OW H a e l=J r->∀q∈l,∃h,H q.name=J h
 | [],a,e,r,_,q,B=>by cases B
 | x::l,a,e,r,h,q,B=>by
   simp only[OW]at h;cases M:H x.name with
   | none=>rw[M]at h;cases h
   | some y =>
     rw[M]at h;rcases Cf.1 B with rfl|B
     exact⟨y,M⟩;exact AA0 H l _ _ r h q B
theorem AHX {f:AP}(H:f.valid=I){h:Int}(e:f.ht name=J h):name.size<=16:=by
 simp only[AP.ht,Option.map_eq_some_iff]at e;obtain⟨g,B,_⟩:=e;obtain⟨m,rfl⟩:=YJ B;have:=Z8 H g m;simp[Lo,Ck]at this;omega
theorem AV1 {f:AP}(Q:f.valid=I){s:Bc}(R:s∈f.C5):∀q∈s.parts,q.name.size<=16:=by
 intro q H;have h:=Z9 Q s R;simp only[Oh,Ak]at h;obtain⟨_,_,B⟩:=h;rw[if_neg (by intro e;rw[e]at H;cases H)]at B;unfold du at B;cases M:OW f.ht 60000 U s.parts with
 | none=>rw[M]at B;cases B
 | some x=>obtain⟨y,S⟩:=AA0 _ _ _ _ _ M q H;exact AHX Q S
theorem AKy {f:AP}(M:f.valid=I):∀(l:List ByteArray) (a:Int),Sc f.ht a l=I->∀n∈l,n.size<=16
 | [],a,_,n,B=>by cases B
 | x::l,a,h,n,B=>by
   simp only[Sc]at h;cases H:f.ht x with
   | none=>rw[H]at h;cases h
   | some y =>
     rw[H]at h;simp only[Ak]at h;rcases Cf.1 B with rfl|B
     exact AHX M H;exact AKy M l _ h.2 n B
theorem yj {x:ByteArray} : ∀ {l:List ByteArray},KX x l=I->x∈l
 | [],h=>by simp[KX]at h
 | y::l,h=>by
   simp only[KX]at h;split at h;rename_i e;subst e;exact GH;exact Gk _ (yj h)
theorem sG {r:Int} : ∀ {l:List CR} {q:CR},q∈JR r l->q∈l
 | [],q,h=>by simp[JR]at h
 | x::l,q,h=>by
   simp only[JR,List.mem_append]at h;rcases h with h|h
   rw[List.eq_of_mem_replicate h];exact GH;exact Gk _ (sG h)
theorem find_ok {f:AP}(M:f.valid=I){p:Int}(z:1<=p)(o:p<=100)(hn:name.size<=16)(S:Int):(Hv f name S p).2=0/\oH (Hv f name S p).1:=by
 have hk:JF f p=0:=by unfold JF;rw[if_neg (by simp[M]),if_neg (by omega)]
 have H:=AEm M name S p;obtain⟨c,hc⟩:=AI (J2 f name S p);unfold Hv;rw[if_neg (by simp[hk]),hc];rw[hc]at H;unfold K5;rw[if_neg (by simp[hk]),if_neg (by simp[H])];by_cases Q:c.Jo=0;rw[if_pos Q];refine⟨by first|rfl|(rw[(Pk M z o c.Ln).1]),(lQ M z o ?_).1⟩;unfold KH at H;cases B:f.I8 name with
 | none=>rw[B]at H;simp[Q]at H;rw[H];exact hn
 | some s=>rw[B]at H;simp[Q]at H;have R:=(Se B).1;have h:=Z9 M s R;simp only[Oh,Ak]at h;exact AKy M _ _ h.2.1 _ (yj H)
 . rw[if_neg Q];obtain⟨s,B,HO,r1,r2,_⟩:=AAI (cg:=c.Ln) (cr:=c.Jo) Q H;have R:=(Se B).1;obtain⟨_,_,g3,_⟩:=QG M R;have hl:=sH r1 r2 s.parts;have Hy : ∀q∈JR c.Jo s.parts,q.name.size<=16:=λq hq=>AV1 M R q (sG hq)
   obtain⟨i1,i2,i3,i4,i5⟩:=AA9 M z o s.Dc (JR c.Jo s.parts) 0 Hy;have hw:=i5 0 (by omega) (by omega);obtain⟨t1,t2⟩:=AB3 M R r1 r2;have hh:=AKd (n:=LO f s c.Jo) (p:=p) t1 t2 (by omega) o;refine⟨F,?_⟩;rw[B];simp only[Option.getD_some,V4];refine⟨?_,?_,?_,?_,?_,?_,?_,?_,?_,?_⟩;simp only[AA.Fq];exact⟨by simp,i1⟩;simp only[AA.BX];exact⟨(CI _:0<=maxLen),(CI _:0<=maxLen),i2⟩;simp only[AA.fit];exact⟨by rw[AAQ];unfold maxLen;omega,(CI _:0<=maxLen),i3⟩;simp only[AA.cnt];omega;all_goals simp only
   all_goals omega
theorem HE {f:AP}{s:Aa}(B:f.valid=I)(H:s.ok=I):1<=BS f.params s/\BS f.params s<=100:=by
 have M:Qk f.params=true:=by simp only[AP.valid,Ak]at B;exact B.1.2.2
 simp[Qk,DX,Params.SK]at M;unfold BS;rw[if_neg (by simp[H])];split;omega;split<;>omega
def Nj:ByteArray:=⟨#[114,111,111,116]⟩
def F1 (f:AP)(s:Aa):Int:=BS f.params s
def Hl (f:AP)(s:Aa):Int:=AU f.params.rule (F1 f s)
def LJ (f:AP)(s:Aa):Int:=if s.By=0 then Hl f s+AU (AU f.params.Gj (F1 f s)) 25 else Hl f s+AU (Hl f s) 25
def Jm (f:AP)(s:Aa)(b:AA):Int:=b.h+b.d+LJ f s+Hl f s
def EZ (f:AP)(s:Aa)(b:AA):AA:=(Hv f Nj (Jm f s b) (F1 f s)).1
def Tw (f:AP)(s:Aa)(b:AA):Int:=if Jm f s b<(EZ f s b).h+(EZ f s b).d then LJ f s+Bm ((EZ f s b).h+(EZ f s b).d - Jm f s b)else LJ f s
def Tx (f:AP)(s:Aa)(b:AA):Int:=b.h+Tw f s b
def M0 (f:AP)(s:Aa)(b:AA):Int:=Tx f s b+Hl f s
def Qo (f:AP)(s:Aa)(b:AA):Int:=M0 f s b - (EZ f s b).h - (EZ f s b).d
def x8 (f:AP)(s:Aa):Int:=AU f.params.Al (F1 f s)
def VO (f:AP)(s:Aa)(g:AA):Int:=mx 0 (AU (x8 f s) 28+g.w - AU (x8 f s) 56)
def XP (f:AP)(s:Aa)(b g:AA):Int:=Qo f s b+AU (M0 f s b - Qo f s b) 60+mx 0 g.d
def eO (f:AP)(s:Aa):List AA->Int
 | []=>0
 | g::_=>VO f s g
def rdH (f:AP)(s:Aa)(b:AA):List AA->Int
 | []=>mx (M0 f s b) b.h
 | g::_=>mx (mx (M0 f s b) b.h) (XP f s b g+g.h)
def rdD (f:AP)(s:Aa)(b:AA):List AA->Int
 | []=>mx (-(Qo f s b)) b.d
 | g::_=>mx (mx (-(Qo f s b)) b.d) (g.d - XP f s b g)
def rdK (f:AP)(s:Aa)(b:AA):List AA->List AA
 | []=>[]
 | g::_=>[g.AS (VO f s g+AU (x8 f s) 56 - g.w) (XP f s b g)]
def Qp (f:AP)(s:Aa)(b:AA)(IG:List AA):AA:=
 Bf (eO f s IG+(EZ f s b).w+mx 0 b.w) (rdH f s b IG) (rdD f s b IG)
  (rdK f s b IG++[(EZ f s b).AS (eO f s IG) (M0 f s b - (EZ f s b).h),(FV (mx 0 b.w) (Hl f s) 0).AS (eO f s IG+(EZ f s b).w) (Tx f s b),b.AS (eO f s IG+(EZ f s b).w) 0])
def VP (f:AP)(s:Aa)(b:AA)(IG:List AA):AA×Int:=
 if f.valid=U\/s.ok=U\/b.Ad=U\/IG.all AA.Ad=U\/1<G IG then(AA.zero,1)else C8 (Qp f s b IG)
theorem D3 {b:AA}(h:b.Ad=I):(-1073741824<=b.w/\b.w<=1073741824)/\(-1073741824<=b.h/\b.h<=1073741824)/\(-1073741824<=b.d/\b.d<=1073741824)/\b.cnt<=20000:=by
 simp only[AA.Ad,Ak,decide_eq_true_eq]at h;obtain⟨B,h2,h3⟩:=h;obtain⟨o,q,bs,bw,S,R,bx,H,M,z,Q⟩:=b;simp only[AA.D8,AA.Cl,AA.lens,Ak,Ep]at B;simp[An]at B;simp only;omega
mutual
theorem ABD : ∀b:AA,b.D8=I->b.Fq
 | ⟨o,q,bs,bw,S,R,bx,M,H,z,Q⟩,h=>by
   simp only[AA.D8,AA.Cl,Ak,AA.Js]at h;simp only[AA.Fq];refine⟨?_,AJw H h.2⟩;have B:=h.1.2.2.2;simp only[I7]at B;split at B;simp only[decide_eq_true_eq]at B;omega;split at B;simp only[Ak,decide_eq_true_eq]at B;omega;split at B;simp only[Ak,decide_eq_true_eq]at B;omega;cases B
theorem AJw : ∀l:List AA,AA.FU l=I->AA.JH l
 | [],_=>by simp[AA.JH]
 | b::l,h=>by
   simp only[AA.FU,Ak]at h;simp only[AA.JH];exact⟨ABD b h.1,AJw l h.2⟩
end
theorem GD {b:AA}(h:b.Ad=I):b.Fq:=by
 simp only[AA.Ad,Ak]at h;exact ABD b h.1
theorem HJ {b:AA}(x y:Int)(h:b.Fq):(b.AS x y).Fq:=by cases b;exact h
theorem F4 {b:AA}(x y:Int)(h:b.BX):(b.AS x y).BX:=by cases b;exact h
theorem Hb (x y:Int):(b.AS x y).cnt=b.cnt:=by cases b;rfl
theorem ABd (w h d:Int):(FV w h d).Fq:=by simp[FV,AA.Fq,AA.JH]
theorem ABe (w h d:Int):(FV w h d).BX:=⟨(CI _:0<=maxLen),(CI _:0<=maxLen),trivial⟩
theorem lH (w h d:Int):(FV w h d).cnt=1:=by simp[FV,AA.cnt,AA.Az]
structure AM6 (f:AP)(s:Aa)(b:AA):Prop where
 p1:1<=F1 f s
 p2:F1 f s<=100
 r1 : -1073741824<=Hl f s
 r2:Hl f s<=1073741824
 l1 : -2147483648<=LJ f s
 l2:LJ f s<=2147483648
 sg:oH (EZ f s b)
 g1 : -4294967296<=Tw f s b
 g2:Tw f s b<=4294967296
theorem AKM {f:AP}{s:Aa}{b:AA}(Q:f.valid=I)(S:s.ok=I):AM6 f s b:=by
 obtain⟨R,B⟩:=HE Q S;have M:=DM (p:=F1 f s) f.params.rule (by unfold F1;omega) B;have hx:=DM (p:=25) (AU f.params.Gj (F1 f s)) (by omega) (by omega);have q:=DM (p:=25) (Hl f s) (by omega) (by omega);have H : -2147483648<=LJ f s/\LJ f s<=2147483648:=by
  unfold LJ Hl at *
  split<;>omega
 have o:=(find_ok Q R B (name:=Nj) (by simp[Nj,ByteArray.size]) (Jm f s b)).2;have z:=J6 ((EZ f s b).h+(EZ f s b).d - Jm f s b);refine⟨R,B,M.1,M.2,H.1,H.2,o,?_,?_⟩;all_goals
  unfold Tw;split<;>omega
@[simp] theorem AA.ACQ (k:Nat)(row:List C):V.Cs k row b.vs=b.vs:=by cases b;simp[AA.vs,AA.row,V.Cs,V.Bi]
section
variable (b:AA) (x y:Int)
@[simp] theorem AbP:(b.AS x y).w=b.w:=F
@[simp] theorem AbO:(b.AS x y).h=b.h:=F
@[simp] theorem AbM:(b.AS x y).d=b.d:=F
@[simp] theorem AbQ:(b.AS x y).x=x:=F
@[simp] theorem AbR:(b.AS x y).y=y:=F
theorem at_at (x' B:Int):(b.AS x y).AS x' B=b.AS x' B:=F
end
@[simp] theorem AcZ (w h d:Int):(FV w h d).w=w:=F
@[simp] theorem AcY (w h d:Int):(FV w h d).h=h:=F
@[simp] theorem AcX (w h d:Int):(FV w h d).d=d:=F
@[simp] theorem AP.Aaf (f:AP):f.vs[6]?=J (.c (.int .i64 f.params.VH)):=F
@[simp] theorem AP.AaX (f:AP)(h:6<G f.vs):f.vs[6]'h=.c (.int .i64 f.params.VH):=F
@[simp] theorem AP.Aag (f:AP):f.vs[7]?=J (.c (.int .i64 f.params.Tp)):=F
@[simp] theorem AP.AaY (f:AP)(h:7<G f.vs):f.vs[7]'h=.c (.int .i64 f.params.Tp):=F
@[simp] theorem AP.Aah (f:AP):f.vs[8]?=J (.c (.int .i64 f.params.Uf)):=F
@[simp] theorem AP.AaZ (f:AP)(h:8<G f.vs):f.vs[8]'h=.c (.int .i64 f.params.Uf):=F
@[simp] theorem AP.AiI (f:AP):f.vs[9]?=J (.c (.int .i64 f.params.TE)):=F
@[simp] theorem AP.Ah5 (f:AP)(h:9<G f.vs):f.vs[9]'h=.c (.int .i64 f.params.TE):=F
@[simp] theorem AP.Ah6 (f:AP):f.vs[10]?=J (.c (.int .i64 f.params.Zy)):=F
@[simp] theorem AP.Aht (f:AP)(h:10<G f.vs):f.vs[10]'h=.c (.int .i64 f.params.Zy):=F
@[simp] theorem AP.Ah7 (f:AP):f.vs[11]?=J (.c (.int .i64 f.params.Zz)):=F
@[simp] theorem AP.Ahu (f:AP)(h:11<G f.vs):f.vs[11]'h=.c (.int .i64 f.params.Zz):=F
@[simp] theorem AP.Ah8 (f:AP):f.vs[12]?=J (.c (.int .i64 f.params.Z0)):=F
@[simp] theorem AP.Ahv (f:AP)(h:12<G f.vs):f.vs[12]'h=.c (.int .i64 f.params.Z0):=F
@[simp] theorem AP.Ah9 (f:AP):f.vs[13]?=J (.c (.int .i64 f.params.Qx)):=F
@[simp] theorem AP.Ahw (f:AP)(h:13<G f.vs):f.vs[13]'h=.c (.int .i64 f.params.Qx):=F
@[simp] theorem AP.AiA (f:AP):f.vs[14]?=J (.c (.int .i64 f.params.Qy)):=F
@[simp] theorem AP.Ahx (f:AP)(h:14<G f.vs):f.vs[14]'h=.c (.int .i64 f.params.Qy):=F
@[simp] theorem AP.AiB (f:AP):f.vs[15]?=J (.c (.int .i64 f.params.Q5)):=F
@[simp] theorem AP.Ahy (f:AP)(h:15<G f.vs):f.vs[15]'h=.c (.int .i64 f.params.Q5):=F
@[simp] theorem AP.AiC (f:AP):f.vs[16]?=J (.c (.int .i64 f.params.Qz)):=F
@[simp] theorem AP.Ahz (f:AP)(h:16<G f.vs):f.vs[16]'h=.c (.int .i64 f.params.Qz):=F
@[simp] theorem AP.AiH (f:AP):f.vs[21]?=J (.c (.int .i64 f.params.RO)):=F
@[simp] theorem AP.Ah4 (f:AP)(h:21<G f.vs):f.vs[21]'h=.c (.int .i64 f.params.RO):=F
def NL (f:AP)(s:Aa):Int:=AU f.params.rule (BS f.params s)
def MZ (f:AP)(s:Aa):Int:=AU f.params.FD (BS f.params s) - Bm (NL f s)
def TH (f:AP)(s:Aa):Int:=if s.By=0 then 3*NL f s else NL f s
def YM (f:AP)(s:Aa):Int:=AU (if s.By=0 then f.params.VH else f.params.Tp) (BS f.params s)
def YL (f:AP)(s:Aa):Int:=AU (if s.By=0 then f.params.Uf else f.params.TE) (BS f.params s)
def cF (f:AP)(s:Aa)(n:AA):Int:=mx (YM f s) (MZ f s+NL f s+TH f s+n.d)
def cD (f:AP)(s:Aa)(d:AA):Int:=mx (YL f s) (d.h+TH f s - MZ f s)
def TJ (n d:AA):Int:=mx (mx 0 n.w) d.w
def WO (f:AP)(s:Aa)(n d:AA):AA:=
 Bf (TJ n d) (mx (cF f s n+n.h) (MZ f s+NL f s)) (mx (d.d+cD f s d) (-(MZ f s)))
  [n.AS (Bm (TJ n d - n.w)) (cF f s n),(FV (TJ n d) (NL f s) 0).AS 0 (MZ f s),d.AS (Bm (TJ n d - d.w)) (-(cD f s d))]
def cE (f:AP)(s:Aa)(n d:AA):AA×Int:=if f.valid=U\/s.ok=U\/n.Ad=U\/d.Ad=U then(AA.zero,1)else C8 (WO f s n d)
mutual
def AA.simp:AA->Option AA
 | ⟨k,n,s,w,h,d,x,y,AE,o,src⟩=>if k=1 then J ⟨k,n,s,w,h,d,x,y,AE,o,src⟩else if k=3 then AA.VW AE else E
def AA.VW:List AA->Option AA
 | []=>E
 | c::l=>match l with
   | []=>if c.x=0/\c.y=0 then c.simp else E
   | _::_=>E
end
theorem AYe :b.simp=if b.kind=1 then J b else if b.kind=3 then AA.VW b.AE else none:=by cases b;rfl
def F8 (f:AP)(b:AA):Int:=match b.simp with
 | some g=>mx 0 (AU (f.pick g.name).Ey g.size)
 | none=>0
def atR (f:AP)(b:AA):Int:=match b.simp with
 | some g=>AU (f.pick g.name).attach g.size
 | none=>Bm b.w
def JZ:Int×Int×Int×Int->List AA->Int×Int×Int×Int
 | e,[]=>e
 | e,b::l=>JZ (mn e.1 b.x,mx e.2.1 (b.x+b.w),mx e.2.2.1 (b.y+b.h),mx e.2.2.2 (b.d - b.y)) l
def DQ:List AA->Int×Int×Int×Int
 | []=>(0,0,0,0)
 | b::l=>JZ (b.x,b.x+b.w,b.y+b.h,b.d - b.y) l
def Kf (s:Aa):Aa:=GB 8 1 s
def M1 (f:AP)(s:Aa):Int:=AU f.params.Gj (BS f.params s)
def Qs (f:AP)(s:Aa)(b:AA):Int:=if b.simp.isSome then 0 else b.h - AU f.params.Q5 (BS f.params (Kf s))
def Od (f:AP)(s:Aa)(b:AA):Int:=if b.simp.isSome then 0 else b.d+AU f.params.Qz (BS f.params (Kf s))
def XO (p:Params)(s:Aa):Int:=if s.Hd=I then p.Z0 else if s.By=0 then p.Zy else p.Zz
def H0 (f:AP)(s:Aa)(b:AA):List AA->Int
 | []=>Qs f s b
 | c::_=>mx (mx (Qs f s b) (AU (XO f.params s) (BS f.params s))) (c.d+AU (M1 f s) 25)
def Nm (f:AP)(s:Aa)(b:AA):Int:=mx (Od f s b) (AU f.params.Qy (BS f.params s))
def s8 (f:AP)(s:Aa)(b c d:AA):Int:=H0 f s b [d] - d.d - (c.h - Nm f s b)
def Sb (f:AP)(s:Aa):Int:=4*AU f.params.rule (BS f.params s)
def s9 (f:AP)(s:Aa)(b d:AA):Int:=AU (M1 f s) 80 - (H0 f s b [d] - d.d)
def Ez (f:AP)(s:Aa)(b:AA):List AA->List AA->Int×Int
 | [],sup=>(H0 f s b sup,Od f s b)
 | c::_,[]=>(H0 f s b [],mx (mx (Od f s b) (AU f.params.Qx (BS f.params s))) (c.h - AU (M1 f s) 80))
 | c::_,d::_ =>
   if s8 f s b c d<Sb f s then
    (if 0<s9 f s b d then(H0 f s b [d]+s9 f s b d,Nm f s b+(Sb f s - s8 f s b c d) - s9 f s b d)
     else(H0 f s b [d],Nm f s b+(Sb f s - s8 f s b c d)))
   else(H0 f s b [d],Nm f s b)
def eu (f:AP)(s:Aa)(b:AA)(sub sup:List AA):List AA:=
 b.AS 0 0::((match sub with | []=>[]|c::_=>[c.AS (b.w - F8 f b) (-(Ez f s b sub sup).2)])++(match sup with | []=>[]|c::_=>[c.AS b.w (Ez f s b sub sup).1]))
def Oc (f:AP)(s:Aa)(b:AA)(sub sup:List AA):AA:=
 Bf (DQ (eu f s b sub sup)).2.1 (DQ (eu f s b sub sup)).2.2.1 (DQ (eu f s b sub sup)).2.2.2 (eu f s b sub sup)
def Gd (f:AP)(s:Aa)(p:Int):Int:=AU (AU f.params.Al (BS f.params s)) p
def I4 (b:AA)(sub sup:List AA):Int:=IS (IS (mx 0 b.w) sub) sup
def Jk (f:AP)(b:AA):Int:=Bm (F8 f b)
def HR (f:AP)(b:AA)(sub sup:List AA):Int:=Bm (I4 b sub sup - b.w)
def Kd (f:AP)(b:AA)(sub sup:List AA)(c:AA):Int:=Bm (I4 b sub sup - c.w) - Jk f b
def Kc (f:AP)(b:AA)(sub sup:List AA)(c:AA):Int:=Bm (I4 b sub sup - c.w)+Jk f b
def DY (f:AP)(b:AA)(sub sup:List AA):Int:=
 let l:=mn 0 (HR f b sub sup)
 let l:=match sub with | []=>l|c::_=>mn l (Kd f b sub sup c)
 match sup with | []=>l|c::_=>mn l (Kc f b sub sup c)
def Ti (f:AP)(s:Aa)(b c:AA):Int:=b.d+Gd f s 17+c.h
def Tj (f:AP)(s:Aa)(b c:AA):Int:=b.h+Gd f s 11+c.d
def ri (f:AP)(s:Aa)(b:AA)(sub sup:List AA):List AA:=
 b.AS (HR f b sub sup - DY f b sub sup) 0::
  ((match sub with | []=>[]|c::_=>[c.AS (Kd f b sub sup c - DY f b sub sup) (-(Ti f s b c))])++
   (match sup with | []=>[]|c::_=>[c.AS (Kc f b sub sup c - DY f b sub sup) (Tj f s b c)]))
def kV:Int->List AA->Int
 | w,[]=>w
 | w,b::l=>kV (mx w (b.x+b.w)) l
def OP (f:AP)(s:Aa)(b:AA)(sub sup:List AA):AA:=
 Bf (kV (I4 b sub sup) (ri f s b sub sup))
  (match sup with | []=>b.h|c::_=>mx b.h (Tj f s b c+c.h+Gd f s 10))
  (match sub with | []=>b.d|c::_=>mx b.d (Ti f s b c+c.d+Gd f s 10)) (ri f s b sub sup)
def Vx (f:AP)(s:Aa)(b:AA):Int:=b.h - mn b.h (AU f.params.RO (BS f.params s))
def Vy (f:AP)(s:Aa)(name:ByteArray)(b:AA):Int:=atR f b - AU (f.pick name).attach (BS f.params s)
def S8 (f:AP)(s:Aa)(name:ByteArray)(b:AA):Int:=mx 0 (-(Vy f s name b))
def al (f:AP)(s:Aa)(name:ByteArray)(b a:AA):AA:=
 Bf (mx (mx 0 (Vy f s name b+S8 f s name b+a.w)) (S8 f s name b+b.w)) (mx b.h (Vx f s b+a.h)) (mx b.d (a.d - Vx f s b))
  [a.AS (Vy f s name b+S8 f s name b) (Vx f s b),b.AS (S8 f s name b) 0]
def Hu (f:AP)(p:Int):Int:=AU f.params.FD p
def Ra (f:AP)(b:AA)(p:Int):Int:=mx (mx 0 (b.h - Hu f p)) (b.d+Hu f p)
def P9 (f:AP)(b:AA)(p:Int):Int:=
 if f.valid=U\/b.Ad=U\/p<1\/100<p then 0
 else if 536870912<Ra f b p then 0
 else mx (AU (2*Ra f b p) f.params.TD) (2*Ra f b p - AU f.params.RY p)
def KS (b:AA)(a:Int):AA×Int:=
 if b.Ad=U then(AA.zero,1)
 else if An a=U\/An (b.h - b.d)=U then(AA.zero,2)
 else if An (a - Bm (b.h - b.d))=U then(AA.zero,6)
 else(b.AS b.x (a - Bm (b.h - b.d)),0)
theorem AEE {b:AA}(h:b.Ad=I)(y:Int):(b.AS b.x y).Ad=An y:=by
 obtain⟨R,S,q,z,Q,M,bx,Bq,B,o,H⟩:=b;simp only[AA.Ad,Ak,decide_eq_true_eq]at h;obtain⟨h1,h2,h3⟩:=h;simp only[AA.D8,AA.Cl,AA.lens,Ak,Ep,Nq]at h1;obtain⟨⟨⟨l1,l2,l3,l4,l5,_⟩,k1,k2⟩,h4⟩:=h1;have nE:AA.Fi ⟨R,S,q,z,Q,M,bx,y,B,o,H⟩=true:=k1;have kP:AA.Js ⟨R,S,q,z,Q,M,bx,y,B,o,H⟩=true:=k2;have J3:AA.cnt ⟨R,S,q,z,Q,M,bx,y,B,o,H⟩<=20000:=h2;have Jd:AA.nest ⟨R,S,q,z,Q,M,bx,y,B,o,H⟩<=100:=h3;have ho:AA.Cl ⟨R,S,q,z,Q,M,bx,y,B,o,H⟩=An y:=by
  unfold AA.Cl;rw[nE,kP];simp only[AA.lens,Ep,Nq,l1,l2,l3,l4,Bool.true_and,Km]
 have hp:AA.D8 ⟨R,S,q,z,Q,M,bx,y,B,o,H⟩=An y:=by
  show (AA.Cl ⟨R,S,q,z,Q,M,bx,y,B,o,H⟩ && AA.FU B)=_;rw[ho,h4,Km]
 show (AA.D8 ⟨R,S,q,z,Q,M,bx,y,B,o,H⟩ && (decide (AA.cnt ⟨R,S,q,z,Q,M,bx,y,B,o,H⟩<=20000) && decide (AA.nest ⟨R,S,q,z,Q,M,bx,y,B,o,H⟩<=100)))=_;rw[hp,decide_eq_true J3,decide_eq_true Jd,Bool.and_self,Km]
@[simp] theorem AA.AiK (y:Int):b.vs.set 7 (.c (.int .i64 y))=(b.AS b.x y).vs:=by cases b;rfl
@[simp] theorem iU (b:AA)(x y:Int):(b.AS x y).w=b.w:=F
@[simp] theorem iT (x y:Int):(b.AS x y).h=b.h:=F
@[simp] theorem iS (x y:Int):(b.AS x y).d=b.d:=F
@[simp] theorem iV (b:AA)(x y:Int):(b.AS x y).x=x:=F
@[simp] theorem iW (b:AA)(x y:Int):(b.AS x y).y=y:=F
theorem AJT (a:Int)(ho:b.BX)(hc:b.cnt<=900000):AC AF 142 [Ao b,.c (.int .i64 a)] (Ba (KS b a)):=by
 have B:=EL b ho (by omega);cases H:b.Ad with
 | false=>have e:KS b a=(AA.zero,1):=if_pos H;rw[e];rw[H]at B;simp only[Ba,As,AR]at B ⊢;refine en AE6 ALt ?_;refine Ah ?_;refine BZ (B) H9 ?_;refine Ah ?_;exact At (cj ANo<| @Fl)
 | true =>
   rw[H]at B;obtain⟨bw,bh,bd,bc⟩:=D3 H;have Q:=Ng a;have R:=Ng (b.h - b.d);have S:AZ.wrap (b.h - b.d)=b.h - b.d:=Ac;cases q:An a with
   | false =>
     have e:KS b a=(AA.zero,2):=by unfold KS;rw[if_neg (by simp[H]),if_pos (.inl q)]
     rw[e];rw[q]at Q;simp only[Ba,As,AR]at B ⊢;refine en AE6 ALt ?_;refine Ah ?_;refine BZ (B) H9 ?_;refine Ah ?_;refine BZ (Q) L0 ?_;refine Ah ?_;exact At (cj ANo<| @Fl)
   | true =>
     rw[q]at Q;cases z:An (b.h - b.d)with
     | false =>
       have e:KS b a=(AA.zero,2):=by unfold KS;rw[if_neg (by simp[H]),if_pos (.inr z)]
       rw[e];rw[z]at R;simp only[Ba,As,AR]at B ⊢;refine en AE6 ALt ?_;refine Ah ?_;refine BZ (B) H9 ?_;refine Ah ?_;refine gc @S (Q) L0 ?_;refine BZ (R) L0 ?_;refine Ah ?_;exact At (cj ANo<| @Fl)
     | true =>
       rw[z]at R;have Fc:=J6 (b.h - b.d);have J8:=Ke (b.h - b.d);simp[An]at q;have A0:An a=true:=by simp[An];omega
       have o:=pW b (GD H) (by omega);have hm:=AEE H (a - Bm (b.h - b.d));have M:=EL (b.AS b.x (a - Bm (b.h - b.d))) (F4 _ _ ho) (by rw[Hb];omega);rw[hm]at M;have e:KS b a=if An (a - Bm (b.h - b.d))=U then(AA.zero,6)else(b.AS b.x (a - Bm (b.h - b.d)),0):=by unfold KS;rw[if_neg (by simp[H]),if_neg (by simp[A0,z])]
       rw[e];generalize A1:Bm (b.h - b.d)=Hf at Fc J8 M ⊢;have w2:AZ.wrap (a - Hf)=a - Hf:=Ac;cases hy:An (a - Hf)with
       | false=>rw[if_pos rfl];rw[hy]at M;simp only[Ba,As,AR]at B o M ⊢;refine en AE6 ALt ?_;refine Ah ?_;refine BZ (B) H9 ?_;refine Ah ?_;refine gc @S (Q) L0 ?_;refine BZ (R) L0 ?_;refine Ah ?_;refine BZ (o) AQL ?_;refine go @S ?_;refine gc @w2 (J8) AAS ?_;refine Ah ?_;refine BZ (M) H9 ?_;refine Ah ?_;exact At (cj ANo<| @Fl)
       | true=>rw[if_neg (by simp)];rw[hy]at M;simp only[Ba,As,AR]at B o M ⊢;refine en AE6 ALt ?_;refine Ah ?_;refine BZ (B) H9 ?_;refine Ah ?_;refine gc @S (Q) L0 ?_;refine BZ (R) L0 ?_;refine Ah ?_;refine BZ (o) AQL ?_;refine go @S ?_;refine gc @w2 (J8) AAS ?_;refine Ah ?_;refine BZ (M) H9 ?_;refine Ah ?_;exact At ANo
def AA.mark (b:AA)(o:Int)(src:List Int):AA:={ b with of_:=o,src:=src }
theorem OZ (o:Int)(src:List Int)(H:G src<=1000000):AC AF 54 [Ao b,.c (.int .i64 o),.c (AV src)] (Ao (b.mark o src)):=by
 have B:=pO src H;obtain⟨Q,R,S,q,z,b5,b6,b7,M,o',lS⟩:=b;simp only[Ao,AA.mark,AA.row,Ap,BB];refine en func54 ntmps54 ?_;exact wz (cj @AR.eq_1<|results54) (cj B<|trivial)
theorem Ajg (o:Int)(src:List Int)(hs:G src<=1000000):AC AF 67 [Ao b,.c (.int .i64 o),.c (AV src)] (Ao (b.mark o src)):=by
 obtain⟨z,b1,b2,b3,b4,b5,b6,b7,S,o',lS⟩:=b;simp only[Ao,AA.mark,AA.row,Ap,BB,AV];obtain⟨Q,H⟩:=AI (src.map (λn=>[C.int .i64 n]));have R:G Q=G src:=by rw[<-H,List.length_map]
 have B:(∀x:List C,x∈Q->G x=1)↔True:=⟨λ_=>trivial,λ_ x M=>by rw[<-H]at M;obtain⟨n,_,rfl⟩:=List.mem_map.1 M;rfl⟩
 rw[H];have f1:G src<=maxLen:=by unfold maxLen;omega
 have f2:G src*8<=140737488355328:=by omega
 refine en func67 ntmps67 ?_;refine wu (.mk 1) (cj @AR.eq_1<|Vp) trivial ⟨?_⟩;refine Og (.mk 1) trivial ?_;refine SW.OU (λv t=>t=E/\v=.Bg []) (by simp[BQ]) ?_ ?_;intro q w0 x a w g ht hk;exact⟨_,_,λ_ _ h=>(by cases h),⟨F,F⟩,AIv g rfl (Ae:=3) (es:=1) (Bq:=8) (by simp)⟩;rintro v t ⟨rfl,rfl⟩;refine CY (.mk 6) (cj3 @f1 @f2 @R @B) ?_;refine SW.nil ?_;exact wz (cj @AR.eq_1<|Vp) W
theorem AFP : ∀(l:List AA) (k:Nat) (b:AA) (e:Int×Int×Int×Int),l[k]?=J b->JZ e (l.take (k+1))=(mn (JZ e (l.take k)).1 b.x,mx (JZ e (l.take k)).2.1 (b.x+b.w),mx (JZ e (l.take k)).2.2.1 (b.y+b.h),mx (JZ e (l.take k)).2.2.2 (b.d - b.y))
 | [],_,_,_,h=>by simp at h
 | x::l,0,b,e,h=>by simp at h;subst h;rfl
 | x::l,k+1,b,e,h=>by simp only[DP,JZ];exact AFP l k b _ (by simpa using h)
def Oi (n:Int):Prop:= -1000000000000<=n/\n<=1000000000000
structure oI (b:AA):Prop where
 x:Oi b.x
 y:Oi b.y
 w:Oi b.w
 h:Oi b.h
 d:Oi b.d
theorem APO {l:List AA}{k:Nat}{b:AA}(B:l[k]?=J b):DQ (l.take (k+1))=if k=0 then(b.x,b.x+b.w,b.y+b.h,b.d - b.y)else(mn (DQ (l.take k)).1 b.x,mx (DQ (l.take k)).2.1 (b.x+b.w),mx (DQ (l.take k)).2.2.1 (b.y+b.h),mx (DQ (l.take k)).2.2.2 (b.d - b.y)):=by
 match l,k,B with
 | [],_,h=>simp at h
 | c::l,0,h=>simp at h;subst h;simp[DQ,JZ]
 | c::l,k+1,h=>rw[if_neg (by omega)];simp only[DP,DQ];exact AFP l k b _ (by simpa using h)
def YG (e:Int×Int×Int×Int):List V:=[.c (.int .i64 e.1),.c (.int .i64 e.2.1),.c (.int .i64 e.2.2.1),.c (.int .i64 e.2.2.2)]
theorem kq (l:List AA)(hl:G l<=1000000)(ht : ∀b∈l,oI b):AC AF 157 [.c (.sl (AA.AG l))] (.A7 (YG (DQ l))):=by
 obtain⟨z,R⟩:=AI (AA.AG l);have M:G z=G l:=by rw[<-R,Dt];simp
 rw[R];refine en func157 ntmps157 ?_;refine wy (cj2 @M @AR.eq_1 ARp) trivial ⟨?_⟩;refine lp (ι:={ k:Nat // k<=G l }) (λk=>[(2,.c (.int .i64 (DQ (l.take k.1)).1)),(3,.c (.int .i64 (DQ (l.take k.1)).2.1)),(4,.c (.int .i64 (DQ (l.take k.1)).2.2.1)),(5,.c (.int .i64 (DQ (l.take k.1)).2.2.2)),(10,.c (.int .i64 (k.1:Int)))]) (λ_=>[]) (λk=>G l - k.1) ⟨0,by simp⟩ ?_ ?_;all_goals simp only[CG,Bw,CO,Ag,Ai]
 exact ER (cj @DQ.eq_1<|@DQ.eq_2);rintro ⟨k,hk⟩;simp only;by_cases B:k<G l;obtain⟨c,o⟩:=AI (l[k]);have S:l[k]?=J c:=by rw[List.getElem?_eq_getElem B,o]
 have Q:z[k]?=J c.row:=by rw[<-R,Dt,List.getElem?_map,S];rfl
 have Dp:k<G z:=by omega
 have Bu:=gx Q;obtain⟨cx,cy,cw,ch,cd⟩:=ht c (List.mem_of_getElem? S);unfold Oi at cx cy cw ch cd;have H:=APO S;obtain⟨E,cH⟩:=AI (DQ (l.take k));obtain⟨E',xu⟩:=AI (DQ (l.take (k+1)));rw[cH,xu]at H;rw[cH];have A0 : ∀(K:Exit->St->Prop),True:=λ_=>trivial
 by_cases h0:k=0;rw[if_pos h0]at H;have q:(k:Int)=0↔True:=iff_true_intro (by omega);refine wy (cj6 @M @B @Dp @Q @Bu @q ARp) trivial ⟨?_⟩;exact⟨⟨k+1,by omega⟩,by simp only;omega,by rw[xu,H];exact wd 0⟩;rw[if_neg h0]at H;have q : ¬(k:Int)=0:=by omega
 simp only[mx,mn]at H;refine wy (cj6 @M @B @Dp @Q @Bu @q ARp) trivial ⟨?_⟩;exact⟨⟨k+1,by omega⟩,by simp only;omega,by rw[xu,H];exact wd 0⟩;have e:l.take k=l:=List.take_of_length_le (by omega);rw[e];unfold YG;exact wz (cj2 @M @B ARp) W
section
variable {P:Program} {K:Exit->St->Prop} {ops:List Oper} {s:St}
theorem SW.eF {o:Oper}{r:List Oper}{op:BinOp}{t t':TypeId}{j:Nat}{v:V}{b res:Bool}(Q:o.op=.binOp op t (.tmp j) (.const (.pointer E)) t')(H:op=.eql/\b=U\/op=.neq/\b=I)(R:lV P t=I)(z:BQ ops s.t o.guard=J I)(q:Ka o.op=U)(hv:s.t[j]?=J v)(S:(v=.c .XF/\res= !b)\/(∃row off,v=.cp row off)/\res=b)(h:SW P ops K r (s.step o.dst (.c (.bool res)) E)):SW P ops K (o::r) s:=by
 refine SW.op (.c (.bool res)) z q ?_ h;intro S0 w0 x a w M;have B:=O4 M.2 hv;rcases S with ⟨rfl,rfl⟩|⟨⟨row,off,rfl⟩,rfl⟩
 simp only[CV,Ab]at B;have:=AI3 M.1 Q H R B F;simpa using this;simp only[CV]at B;obtain⟨b',o',B,_⟩:=B;have:=AI3 M.1 Q H R B F;simpa using this
end
theorem Nn {b:AA}(h:b.Ad=I):G b.src<=1000000:=by have:=GD h;cases b;simp only[AA.Fq]at this;exact this.1
def Pf:Option AA->V
 | some g=>.cp g.row 0
 | none=>.c .XF
theorem ABA :AC AF 234 [.cp b.row 0] (Pf b.simp):=by
 refine en func234 ntmps234 ?_;refine wy (cj @AR.eq_1<|uy) trivial ⟨?_⟩;refine lp (ι:={ c:AA // c.simp=b.simp }) (λc=>[(0,.cp c.1.row 0)]) (λ_=>[]) (λc=>SizeOf.sizeOf c.1) ⟨b,rfl⟩ ?_ ?_;all_goals simp only[CG,Bw,CO,Ag,Ai]
 exact DH;rintro ⟨⟨k,n,s,w,h,d,x,y,AE,o,src⟩,hI⟩;simp only;rw[<-hI,AYe];simp only[AA.row];by_cases B:k=1;have Jc:k=1↔True:=iff_true_intro B;rw[if_pos B];unfold Pf;simp only[AA.row];exact wz (cj @Jc<|uy) W;rw[if_neg B];by_cases M:k=3;have H:k=3↔True:=iff_true_intro M;rw[if_pos M];match AE with
 | []=>simp only[AA.VW,AA.AG,Pf];exact wz (cj2 @B @H uy) W
 | [⟨k2,n2,s2,w2,h2,d2,x2,y2,S,o2,q⟩] =>
   simp only[AA.VW,AA.AG];by_cases Q:x2=0;have ON:x2=0↔True:=iff_true_intro Q;by_cases R:y2=0;have Wu:y2=0↔True:=iff_true_intro R;rw[if_pos ⟨Q,R⟩];simp only[AA.row];refine wy (cj4 @B @H @ON @Wu uy) trivial ⟨?_⟩;refine⟨⟨⟨k2,n2,s2,w2,h2,d2,x2,y2,S,o2,q⟩,?_⟩,?_,?_⟩;rfl;simp only[AA.mk.sizeOf_spec,List.cons.sizeOf_spec];omega;simp only[AA.row];exact wd 0;rw[if_neg (λh=>R h.2)];simp only[AA.row,Pf];exact wz (cj4 @B @H @ON @R uy) W;rw[if_neg (λh=>Q h.1)];simp only[AA.row,Pf];exact wz (cj3 @B @H @Q uy) W
 | c::c2::l =>
   have hl : ¬G (AA.AG l)+1+1=1:=by omega
   have z : ¬(G (AA.AG l):Int)+1+1=1:=by omega
   simp only[AA.VW,AA.AG,Pf];exact wz (cj4 @B @H @hl @z uy) W
 rw[if_neg M];simp only[Pf];exact wz (cj2 @B @M uy) W
mutual
theorem ABo : ∀(b g:AA),b.D8=I->b.simp=J g->g.D8=I/\g.kind=1
 | ⟨k,n,s,w,h,d,x,y,M,o,src⟩,g,H,B=>by
   simp only[AA.simp]at B;split at B;rename_i Q;cases B;exact⟨H,Q⟩;split at B;simp only[AA.D8,Ak]at H;exact AYh M g H.2 B;cases B
theorem AYh : ∀(l:List AA) (g:AA),AA.FU l=I->AA.VW l=J g->g.D8=I/\g.kind=1
 | [],g,H,B=>by cases B
 | c::l,g,H,B=>by
   simp only[AA.FU,Ak]at H;match l,B with
   | [],B =>
     simp only[AA.VW]at B;split at B;exact ABo c g H.1 B;cases B
   | _::_,B=>cases B
end
theorem tA {b g:AA}(hb:b.Ad=I)(M:b.simp=J g):1<=g.size/\g.size<=1000:=by
 simp only[AA.Ad,Ak]at hb;obtain⟨B,H⟩:=ABo b g hb.1 M;obtain⟨k,n,s,w,h,d,x,y,Q,o,src⟩:=g;simp only at H;subst H;simp only[AA.D8,AA.Cl,AA.Fi,Ak,if_true,decide_eq_true_eq]at B;exact⟨B.1.2.1.2.1,B.1.2.1.2.2.1⟩
theorem AKf {f:AP}(H:f.valid=I){p:Int}(M:1<=p)(Q:p<=1000)(name:ByteArray):Hm (f.pick name) p=((f.pick name).scaled p,0):=by
 have B:=Ql H name;unfold Hm;rw[if_neg (by simp[DX];omega),if_neg];unfold BG.Small at B;simp[DX,BG.OQ];omega
theorem ku (f:AP)(b:AA)(hf:f.Fit)(hv:f.valid=I)(hb:b.Ad=I)(ho:b.BX):AC AF 154 [.agg f.vs,Ao b] (.c (.int .i64 (F8 f b))):=by
 have z:=Ma f;rw[hv]at z;have q:=EL b ho (by have:=(D3 hb).2.2.2;omega);rw[hb]at q;have H:=ABA b;have S:F8 f b=match b.simp with|some g=>mx 0 (AU (f.pick g.name).Ey g.size)|none=>0:=F
 rw[S];rw[As]at *
 cases hs:b.simp with
 | none=>rw[hs]at H;simp only[Pf]at H;refine en func154 ntmps154 ?_;refine wu (.mk 3) (cj @AR.eq_1<|AGN) (cj2 z q W) ⟨?_⟩;refine Cn 1 ?_;refine wu (.mk 4) AGN (cj H<|trivial) ⟨?_⟩;refine Og (.mk 1) trivial ?_;refine SW.eF (b:=U) (res:=I) rfl (.inl ⟨rfl,rfl⟩) (by kernel_rfl) rfl rfl rfl (.inl ⟨rfl,rfl⟩) ?_;simp only[St.step,St.put,Bk,Ai,Ag];refine SW.nil ?_;exact wz (cj @AR.eq_1<|AGN) W
 | some g=>obtain⟨z1,z2⟩:=tA hb hs;have Q:=dy f g.name hf.1;have B:=sw (f.pick g.name) g.size;rw[AKf hv z1 z2 g.name]at B;have R:(if 0<AU (f.pick g.name).Ey g.size then AU (f.pick g.name).Ey g.size else 0)=mx 0 (AU (f.pick g.name).Ey g.size):=F;simp only;generalize hM:mx 0 (AU (f.pick g.name).Ey g.size)=M at R ⊢;obtain⟨k,n,sz,w,h,d,x,y,AE,o,src⟩:=g;simp only at Q B R;generalize hG:f.pick n=G at Q B R;rw[hs]at H;simp only[Pf,AA.row]at H;simp only[XT,Hg,BG.row,BG.scaled,AR,Ap,BB]at Q B;refine en func154 ntmps154 ?_;refine wu (.mk 3) (cj @AR.eq_1<|AGN) (cj2 z q W) ⟨?_⟩;refine Cn 1 ?_;refine wu (.mk 4) AGN (cj H<|trivial) ⟨?_⟩;refine Og (.mk 1) trivial ?_;refine SW.eF (b:=U) (res:=U) rfl (.inl ⟨rfl,rfl⟩) (by kernel_rfl) rfl rfl rfl (.inr ⟨⟨_,_,rfl⟩,rfl⟩) ?_;simp only[St.step,St.put,Bk,Ai,Ag];refine SW.nil ?_;exact wz (cj @R<|AGN) (cj2 Q B W)
end Go.Proofs.YtglaipbdiofkfaaGreat
