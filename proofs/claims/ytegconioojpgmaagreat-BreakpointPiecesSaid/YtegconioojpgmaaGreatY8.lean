/- Part of the proof of breakpointPieces.proved. Conditions: none. -/
import Derived.Test.YtegconioojpgmaaGreatY5
set_option linter.unusedVariables false
set_option linter.unusedSimpArgs false
set_option maxRecDepth 100000
set_option maxHeartbeats 16000000
open List renaming replicate->Aq,length_nil->BO,getElem?_set_self->IX,getElem?_set_ne->HF,length_set->GF,sizeOf_lt_of_mem->gD,getElem_cons_succ->AkF
open Go.IntKind renaming i64->AZ
open Int renaming mul_comm->fu,sub_zero->Aa3
open Go.Proofs.Tryz renaming prog->AF,func296->AF9,ntmps296->Aie,func36->Sr,results296->ASK,func298->AP6,func297->AQi,ntmps297->ACo,func273->AF6,results297->AB9,func304->Ahs,func104->fB,func105->aR,func300->AP7,results300->AHC,func281->AQf,func299->UJ,func274->APj,ntmps274->Aid,results274->Aiv,func279->ns,ntmps279->AAv,results279->CQ,results293->Aiw,results294->ADP,func287->AKB,results287->ADO,func254->AcW,func255->cf,func253->AIp,ntmps253->AMG,results253->n5,func102->my,func202->Xk,results202->Aku
open SizeOf renaming sizeOf->UF
open Option renaming some->J,none->E
open Bool renaming false->U,true->I
open List renaming length->G
namespace Go.Proofs.YtegconioojpgmaaGreat
open Go.RowKit Tryz
variable (b:AA)(b0:Int)(b1:ByteArray)
def JF (f:AP)(p:Int):Int:=if f.valid=U then 1 else if p<1\/100<p then 2 else 0
def times (r:Int)(q:CR):Int:=if q.ext=I then r else 1
def M3 (f:AP)(r:Int):Int->Int->List CR->Int×Int
 | h,c,[]=>(h,c)
 | h,c,q::l=>M3 f r (h+times r q*(f.pick q.name).Dy) (c+times r q) l
def LO (f:AP)(s:Bc)(r:Int):Int:=(M3 f r 0 0 s.parts).1 - ((M3 f r 0 0 s.parts).2 - 1)*s.Dc
def XV (f:AP)(name:ByteArray)(p:Int):Int:=(Hm (f.pick name) p).1.h+(Hm (f.pick name) p).1.d
structure Choice where
 Ln:ByteArray
 Jo:Int
def BG.Small (g:BG):Prop:=(-20000<=g.w/\g.w<=20000)/\(-20000<=g.h/\g.h<=20000)/\(-20000<=g.d/\g.d<=20000)/\(-20000<=g.Ey/\g.Ey<=20000)/\(-20000<=g.attach/\g.attach<=20000)
theorem AK5 {g:BG}(h:Lo g=I):g.Small:=by
 simp[Lo,DX]at h;unfold BG.Small;omega
theorem AY1 (name:ByteArray):({ BG.zero with name:=name }:BG).Small:=by simp[BG.Small,BG.zero]
theorem AF0 : ∀(l seen:List BG),Ul seen l=I->∀g∈l,Lo g=I
 | [],_,_,g,B=>by cases B
 | x::r,seen,h,g,B=>by
   simp only[Ul,Ak]at h;rcases Cf.1 B with rfl|B
   exact h.1.1;exact AF0 r _ h.2 g B
theorem ALL (H:ByteArray->Option Int):∀(l seen:List Bc),Xa H seen l=I->∀s∈l,Oh H s=I
 | [],_,_,g,B=>by cases B
 | x::r,seen,h,g,B=>by
   simp only[Xa,Ak]at h;rcases Cf.1 B with rfl|B
   exact h.1.1;exact ALL H r _ h.2 g B
theorem Z8 {f:AP}(h:f.valid=I):∀g∈f.DR,Lo g=true:=by
 simp only[AP.valid,Ak]at h;exact AF0 _ _ h.2.1
theorem Ql {f:AP}(h:f.valid=I)(name:ByteArray):(f.pick name).Small:=by
 unfold AP.pick;cases B:f.find name with
 | some g=>exact AK5 (Z8 h g (cA B))
 | none =>
   cases H:f.find ⟨#[63]⟩with
   | some g=>exact AK5 (Z8 h g (cA H))
   | none=>exact AY1 name
theorem Z9 {f:AP}(h:f.valid=I):∀s∈f.C5,Oh f.ht s=true:=by
 simp only[AP.valid,Ak]at h;exact ALL _ _ _ h.2.2
theorem Se {name:ByteArray}{s:Bc} : ∀ {l:List Bc},XZ name l=J s->s∈l/\s.name=name
 | [],h=>by simp[XZ]at h
 | x::r,h=>by
   simp only[XZ]at h;split at h;simp only[BL]at h;subst h;exact⟨ZA,Awa⟩;have:=Se h;exact⟨Gk _ this.1,this.2⟩
theorem AJM (H:ByteArray->Option Int):∀(l:List CR) (a:Int) (e:Bool) (b:Int) (B:Bool),OW H a e l=J (b,B)->b<=a/\∀q∈l,∃h,H q.name=J h/\b<=h
 | [],a,e,b,B,h=>by simp[OW]at h;exact⟨Ux,ZA⟩
 | q::r,a,e,b,B,h=>by
   simp only[OW]at h;cases M:H q.name with
   | none=>rw[M]at h;cases h
   | some y =>
     rw[M]at h;obtain⟨S,o⟩:=AJM H r _ _ b B h;have R:b<=a/\b<=y:=by split at S<;>omega
     refine⟨R.1,λx Q=>?_⟩;rcases Cf.1 Q with rfl|Q
     exact⟨y,M,R.2⟩;exact o x Q
structure AM5 (f:AP)(s:Bc):Prop where
 AKw:1<=G s.sizes
 AKx:G s.sizes<=16
 parts:G s.parts<=8
 AcS:0<=s.Dc
 AcT:s.Dc<=60000
 AdU : ∀q∈s.parts,s.Dc<(f.pick q.name).Dy
theorem ASt {f:AP}{name:ByteArray}{h:Int}(e:f.ht name=J h):(f.pick name).Dy=h:=by
 simp only[AP.ht,Ia]at e;obtain⟨g,B,rfl⟩:=e;simp[AP.pick,B]
theorem QG {f:AP}(hv:f.valid=I){s:Bc}(hs:s∈f.C5):AM5 f s:=by
 have h:=Z9 hv s hs;simp only[Oh,Ak]at h;obtain⟨⟨_,R,H⟩,h3,B⟩:=h;simp[DX]at R H;by_cases Q:s.parts=[]
 rw[Awd Q]at B;simp at B;exact⟨Ux,Ux,H,Ux,Ux,by simp[Q]⟩;rw[Awf Q]at B;unfold du at B;cases M:OW f.ht 60000 U s.parts with
 | none=>rw[M]at B;cases B
 | some x=>obtain⟨b,e⟩:=x;rw[M]at B;simp[DX]at B;obtain⟨hb,z⟩:=AJM _ _ _ _ _ _ M;refine⟨Ux,Ux,H,Ux,Ux,λq o=>?_⟩;obtain⟨y,hy,S⟩:=z q o;rw[ASt hy];omega
def TG (f:AP)(p AD:Int):List ByteArray->Option ByteArray
 | []=>E
 | n::r=>if AD<=XV f n p then J n else TG f p AD r
def LM (f:AP)(s:Bc)(p AD:Int):Nat->Int
 | 0=>1000
 | n+1=>if AD<=AU (LO f s (1000 - ((n:Int)+1))) p then 1000 - ((n:Int)+1)else LM f s p AD n
def WA (f:AP)(s:Bc)(AD p:Int):Choice:=
 match TG f p AD s.sizes with
 | some n=>⟨n,0⟩
 | none=>if s.parts=[]then⟨s.sizes.getD (G s.sizes - 1) ⟨#[]⟩,0⟩else⟨⟨#[]⟩,LM f s p AD 999⟩
def J2 (f:AP)(name:ByteArray)(AD p:Int):Choice:=
 match f.I8 name with
 | none=>⟨name,0⟩
 | some s=>WA f s AD p
def N4 (c:Choice):V:=.agg [.c (.str c.Ln),.c (.int .i64 c.Jo)]
def JR (r:Int):List CR->List CR
 | []=>[]
 | q::l=>Aq (times r q).toNat q++JR r l
def kt (f:AP)(p ANy:Int)(q:CR):AA:={ (DB f q.name p).1 with y:=AU ANy p+(DB f q.name p).1.d }
def Gp (f:AP)(ov p:Int):Int->List CR->List AA
 | _,[]=>[]
 | b,q::l=>kt f p b q::Gp f ov p (b+((f.pick q.name).Dy - ov)) l
def IS:Int->List AA->Int
 | m,[]=>m
 | m,b::l=>IS (mx m b.w) l
def V4 (f:AP)(s:Bc)(r p:Int):AA:=⟨3,⟨#[]⟩,0,IS 0 (Gp f s.Dc p 0 (JR r s.parts)),AU (LO f s r) p,0,0,0,Gp f s.Dc p 0 (JR r s.parts),0,[]⟩
def KX (x:ByteArray):List ByteArray->Bool
 | []=>U
 | y::r=>if y=x then I else KX x r
def KH (f:AP)(name:ByteArray)(c:Choice):Bool:=
 match f.I8 name with
 | none=>decide (c.Jo=0) && decide (c.Ln=name)
 | some s=>if c.Jo=0 then KX c.Ln s.sizes else decide (c.Ln=⟨#[]⟩) && (decide (0<G s.parts) && (decide (1<=c.Jo) && decide (c.Jo<=1000)))
def K5 (f:AP)(name:ByteArray)(c:Choice)(p:Int):AA×Int:=
 if JF f p≠0 then(AA.zero,JF f p)
 else if KH f name c=U then(AA.zero,8)
 else if c.Jo=0 then((DB f c.Ln p).1,0)
 else(V4 f ((f.I8 name).getD Bc.zero) c.Jo p,0)
def ec (f:AP)(name:ByteArray)(AD p:Int):Choice×Int:=
 if JF f p≠0 then(⟨⟨#[]⟩,0⟩,JF f p)else(J2 f name AD p,0)
theorem AjR {f:AP}{name:ByteArray}{g:BG}(h:f.find name=J g):f.pick name=g:=by simp[AP.pick,h]
theorem AB4 {r:Int}(B:1<=r)(H:r<=1000)(q:CR):1<=times r q/\times r q<=1000:=by unfold times;split<;>omega
theorem Pk {f:AP}(H:f.valid=I){p:Int}(M:1<=p)(Q:p<=100)(name:ByteArray):DB f name p=(N7 ((f.pick name).scaled p) p,0)/\Hm (f.pick name) p=((f.pick name).scaled p,0):=by
 have B:=Ql H name;have e:Hm (f.pick name) p=((f.pick name).scaled p,0):=by
  unfold Hm;rw[Awf (by simp[DX];omega),Awf];unfold BG.Small at B;simp[DX,BG.OQ];omega
 unfold DB;rw[e];simp
theorem Zv {f:AP}(H:f.valid=I){p:Int}(M:1<=p)(Q:p<=100)(name:ByteArray):(-200000<=((f.pick name).scaled p).w/\((f.pick name).scaled p).w<=200000)/\(-200000<=((f.pick name).scaled p).h/\((f.pick name).scaled p).h<=200000)/\(-200000<=((f.pick name).scaled p).d/\((f.pick name).scaled p).d<=200000)/\(-200000<=((f.pick name).scaled p).Ey/\((f.pick name).scaled p).Ey<=200000):=by
 have B:=Ql H name;unfold BG.Small at B;exact AKg _ _ (by simp[DX];omega) (by simp[DX,BG.OQ];omega)
theorem Anq {f:AP}(M:f.valid=I){p:Int}(B:1<=p)(H:p<=100)(name:ByteArray):AZ.wrap ((DB f name p).1.h+(DB f name p).1.d)=XV f name p:=by
 obtain⟨Q,R⟩:=Pk M B H name;have:=Zv M B H name;rw[Q];unfold XV;rw[R];exact wrap_i64 (by simp only[N7];omega) (by simp only[N7];omega)
theorem ALV (f:AP)(r:Int)(B : ∀name,(f.pick name).Small)(H:1<=r)(M:r<=1000):∀(l:List CR) (h c:Int),h - 40000000*(G l:Int)<=(M3 f r h c l).1/\(M3 f r h c l).1<=h+40000000*(G l:Int)/\c+(G l:Int)<=(M3 f r h c l).2/\(M3 f r h c l).2<=c+1000*(G l:Int)
 | [],h,c=>by simp[M3]
 | q::l,h,c=>by
   have ih:=ALV f r B H M l (h+times r q*(f.pick q.name).Dy) (c+times r q);have Q:=B q.name;unfold BG.Small at Q;obtain⟨t1,t2⟩:=AB4 H M q;have m:=Qh (f.pick q.name).Dy (times r q) 40000 1000 (by unfold BG.Dy;omega) (by unfold BG.Dy;omega) Ux t2;rw[fu (f.pick q.name).Dy]at m;simp only[M3,BA]at ih ⊢;simp only[Int.natCast_add,Int.natCast_one]at ih ⊢;omega
theorem AB3 {f:AP}(B:f.valid=I){s:Bc}(hs:s∈f.C5){r:Int}(M:1<=r)(Q:r<=1000): -1000000000<=LO f s r/\LO f s r<=1000000000:=by
 obtain⟨_,_,R,S,H,o⟩:=QG B hs;have:=ALV f r (Ql B) M Q s.parts 0 0;have m:=Qh s.Dc ((M3 f r 0 0 s.parts).2) 60000 8000 Ux H Ux Ux;rw[fu s.Dc]at m;unfold LO;rw[Int.sub_mul];omega
theorem ABa {n p:Int}(B : -1073741824<=n)(H:n<=1073741824)(M:0<=p)(Q:p<=10000):Ea (n*p) 100=AU n p:=by
 unfold AU;rw[Awd ⟨by simp[An];omega,Ux,Ux⟩]
theorem AZF (f:AP)(s:Bc)(p B r:Int)(R:1<=r)(S:r<1000):LM f s p B (1000 - r).toNat=if B<=AU (LO f s r) p then r else LM f s p B (1000 - (r+1)).toNat:=by
 obtain⟨n,Q⟩:∃n:Nat,r=1000 - ((n:Int)+1):=⟨(999 - r).toNat,Ux⟩
 subst Q;have H:(1000 - (1000 - ((n:Int)+1))).toNat=n+1:=Ux;have M:(1000 - (1000 - ((n:Int)+1)+1)).toNat=n:=Ux;rw[H,M];rfl
def ls (q:Choice×Int):V:=.A7 [N4 q.1,AR q.2]
theorem AIZ : ∀(l:List AA) (m:Int) (b:AA),IS m (l++[b])=mx (IS m l) b.w
 | [],m,b=>rfl
 | x::l,m,b=>by simp only[BK,IS];exact AIZ l _ b
theorem lG : ∀(l:List AA) (b:AA),AA.AG (l++[b])=AA.AG l++[b.row]
 | [],b=>rfl
 | x::l,b=>by simp only[BK,AA.AG];rw[lG l b]
@[simp] theorem GA : ∀(l:List AA),G (AA.AG l)=G l
 | []=>rfl
 | x::l=>by simp only[AA.AG,BA];rw[GA l]
theorem sH {r:Int}(B:1<=r)(H:r<=1000):∀l:List CR,G (JR r l)<=1000*G l
 | []=>by simp[JR]
 | q::l=>by
   have:=sH B H l;obtain⟨t1,t2⟩:=AB4 B H q;simp only[JR,Cp,H6,BA];omega
theorem AKe {n p:Int}(B:0<=n)(S:n<=1000000000)(H:0<=p)(M:p<=100):0<=AU n p/\AU n p<=1000000001:=by
 have Q:0<=n*p:=Int.mul_nonneg B H;have R:n*p<=n*100:=aF M B;rw[<-ABa Ux Ux H Ux];unfold Ea;rw[Awd Q];omega
def Nf (w h:Int)(AE:V):List V:=[.c (.int .i64 3),.c (.str ⟨#[]⟩),.c (.int .i64 0),.c (.int .i64 w),.c (.int .i64 h),.c (.int .i64 0),.c (.int .i64 0),.c (.int .i64 0),AE,.c (.int .i64 0),.Bg []]
def BT:List V:=[.c (.int .i64 0),.c (.str ⟨#[]⟩),.c (.int .i64 0),.c (.int .i64 0),.c (.int .i64 0),.c (.int .i64 0),.c (.int .i64 0),.c (.int .i64 0),.Bg [],.c (.int .i64 0),.Bg []]
theorem AEl {f:AP}{p:Int}(B:JF f p=0):f.valid=I/\1<=p/\p<=100:=by
 unfold JF at B;have H:f.valid=true:=by cases h:f.valid<;>simp[h]at B;rfl
 rw[Awf (by simp[H])]at B;refine⟨H,?_⟩;split at B<;>omega
theorem AAI {f:AP}{name cg:ByteArray}{cr:Int}(M : ¬cr=0)(B:KH f name ⟨cg,cr⟩=I):∃s,f.I8 name=J s/\s.parts≠[]/\1<=cr/\cr<=1000/\cg=⟨#[]⟩:=by
 unfold KH at B;cases H:f.I8 name with
 | none=>rw[H]at B;simp[M]at B
 | some s=>rw[H]at B;simp[M]at B;exact⟨s,F,Kr.1 B.2.1,Ux,Ux,B.1⟩
def Hv (f:AP)(name:ByteArray)(AD p:Int):AA×Int:=if JF f p≠0 then(AA.zero,JF f p)else K5 f name (J2 f name AD p) p
theorem x5 (f:AP)(p:Int)(Q:f.Fit):AC AF 296 [.agg f.vs,p] (AR (JF f p)):=by
 cases B:f.valid with
 | false=>refine en AF9 Aie ?_;refine Ah ?_;refine gc @B (ba f Q) Sr ?_;refine Ah ?_;exact At (cj3 ASK @AR.eq_1 @JF.eq_1 @B)
 | true =>
   by_cases H:p<1;refine en AF9 Aie ?_;refine Ah ?_;refine gc @B (ba f Q) Sr ?_;refine go @H ?_;exact At (cj4 ASK @AR.eq_1 @JF.eq_1 @B @H);by_cases M:100<p;refine en AF9 Aie ?_;refine Ah ?_;refine gc @B (ba f Q) Sr ?_;refine go (cj @H<|@M) ?_;exact At (cj5 ASK @AR.eq_1 @JF.eq_1 @B @H @M);refine en AF9 Aie ?_;refine Ah ?_;refine gc @B (ba f Q) Sr ?_;refine go (cj @H<|@M) ?_;exact At (cj5 ASK @AR.eq_1 @JF.eq_1 @B @H @M)
theorem AZk (f:AP)(name:ByteArray)(p:Int)(H:G f.DR<=maxLen):AC AF 298 [.agg f.vs,.c (.str name),p] (Ao (DB f name p).1):=by
 have B:=AQA f name p H;generalize Q:DB f name p=q at B ⊢;obtain⟨b,e⟩:=q;obtain⟨k,n,s,w,h,d,x,y,M,o,src⟩:=b;simp only[Ba,Ao,AR,AA.row,Ap,BB]at B ⊢;refine en AP6 ntmps298 ?_;refine Ah ?_;refine BZ (B) func225 ?_;refine Ah ?_;exact At results298
theorem AYL (f:AP)(name:ByteArray)(c:Choice)(q:G f.C5<=maxLen)(hz : ∀s∈f.C5,G s.sizes<=1000):AC AF 297 [.agg f.vs,.c (.str name),N4 c] (.c (.bool (KH f name c))):=by
 obtain⟨M,R⟩:=c;unfold N4;cases B:f.I8 name with
 | none =>
   have H:KH f name ⟨M,R⟩=(decide (R=0) && decide (M=name)):=by unfold KH;rw[B]
   by_cases Q:R=0;subst Q;refine en AQi ACo ?_;refine Ah ?_;refine gc (cj4 @NK.eq_1 @IU.eq_1 @Bc.row.eq_1 @B @Bc.zero.eq_1) (ae f name q) AF6 ?_;refine Ah ?_;exact At (cj AB9<| @H);refine en AQi ACo ?_;refine Ah ?_;refine gc (cj4 @NK.eq_1 @IU.eq_1 @Bc.row.eq_1 @B @Bc.zero.eq_1) (ae f name q) AF6 ?_;refine go @Q ?_;exact At (cj2 AB9 @H @Q)
 | some s =>
   have DJ:=hz s (Se B).1;have H:KH f name ⟨M,R⟩=if R=0 then KX M s.sizes else decide (M=⟨#[]⟩) && (decide (0<G s.parts) && (decide (1<=R) && decide (R<=1000))):=by unfold KH;rw[B]
   by_cases Q:R=0;rw[Awd Q]at H;subst Q;refine en AQi ACo ?_;refine Ah ?_;refine gc (cj3 @NK.eq_1 @IU.eq_1 @Bc.row.eq_1 @B) (ae f name q) AF6 ?_;refine Ah ?_;refine CX (ι:={ k:Nat // k<=G s.sizes/\KX M s.sizes=KX M (s.sizes.drop k) }) (λk=>[(9,(k.1:Int)),(6,.c (.bool U))]) (λ_=>[.box 27 f.vs U,.box 262 [.c (.str M),(0:Int)] U,.box 74 (s.row.map V.c) U]) (λk=>G s.sizes - k.1) ⟨0,ZA⟩ ?_ ?_;exact ER @Bc.row.eq_1;rintro ⟨k,hk,o⟩;by_cases S:k<G s.sizes;obtain⟨n,hn⟩:=AI (s.sizes[k]);rw[D5 S,hn]at o;simp only[KX]at o;by_cases he:n=M;rw[Awd he]at o;rw[o]at H;refine go (cj4 @S @hn @he @Bc.row.eq_1 @Gv.eq_1) ?_;exact At (cj AB9<| @H);rw[Awf he]at o;have hw:AZ.wrap ((k:Int)+1)=((k+1:Nat):Int):=by rw[Ac];simp
   refine go (cj5 @S @hn @he @Bc.row.eq_1 @Gv.eq_1 @hw) ?_;refine⟨⟨k+1,Ux,o⟩,by simp only;omega,?_⟩;exact ER (cj @Bc.row.eq_1<|@Gv.eq_1);have e:KX M s.sizes=false:=by rw[o,FA Ux];rfl
   rw[e]at H;refine go (cj2 @S @Bc.row.eq_1 @Gv.eq_1) ?_;exact At (cj AB9<| @H);rw[Awf Q]at H;by_cases h2:M=⟨#[]⟩
   subst h2;by_cases h3:(0:Int)<(G s.parts:Int);have Jd:0<G s.parts:=Ux;by_cases h4:1<=R;refine en AQi ACo ?_;refine Ah ?_;refine gc (cj3 @NK.eq_1 @IU.eq_1 @Bc.row.eq_1 @B) (ae f name q) AF6 ?_;refine go (cj4 @Q @h3 @Jd @h4 @Ek.eq_1) ?_;exact At (cj3 AB9 @H @Jd @h4);refine en AQi ACo ?_;refine Ah ?_;refine gc (cj3 @NK.eq_1 @IU.eq_1 @Bc.row.eq_1 @B) (ae f name q) AF6 ?_;refine go (cj4 @Q @h3 @Jd @h4 @Ek.eq_1) ?_;exact At (cj3 AB9 @H @Jd @h4);have Jd : ¬0<G s.parts:=Ux;have z:s.parts=[]:=Nr Ux;refine en AQi ACo ?_;refine Ah ?_;refine gc (cj3 @NK.eq_1 @IU.eq_1 @Bc.row.eq_1 @B) (ae f name q) AF6 ?_;refine go (cj2 @Q @z @Ek.eq_1) ?_;exact At (cj2 AB9 @H @z);refine en AQi ACo ?_;refine Ah ?_;refine gc (cj3 @NK.eq_1 @IU.eq_1 @Bc.row.eq_1 @B) (ae f name q) AF6 ?_;refine go (cj @Q<|@h2) ?_;exact At (cj2 AB9 @H @h2)
theorem AjQ {f:AP}(z:f.valid=I){s:Bc}(hs:s∈f.C5):∀q∈s.parts,∃g,f.find q.name=J g:=by
 have h:=Z9 z s hs;simp only[Oh,Ak]at h;obtain⟨⟨_,_,_⟩,_,H⟩:=h;intro q M;have o : ¬s.parts=[]:=λe=>by rw[e]at M;cases M
 rw[Awf o]at H;unfold du at H;cases Q:OW f.ht 60000 U s.parts with
 | none=>rw[Q]at H;cases H
 | some x=>obtain⟨b,e⟩:=x;obtain⟨_,B⟩:=AJM _ _ _ _ _ _ Q;obtain⟨h,R,_⟩:=B q M;simp only[AP.ht,Ia]at R;obtain⟨g,S,_⟩:=R;exact⟨g,S⟩
theorem AXc (f:AP)(s:Bc)(r:Int)(hf:f.Fit)(hv:f.valid=I)(hs:s∈f.C5)(HP:1<=r)(G9:r<=1000)(hp:s.parts≠[]):AC AF 304 [.agg f.vs,IU s,r] (LO f s r:Int):=by
 obtain⟨_,_,g3,g4,g5,g6⟩:=QG hv hs;have A0:=AjQ hv hs;have A5:=Z8 hv;have A3:0<G s.parts:=Kr.2 hp;have hT:LO f s r=(M3 f r 0 0 s.parts).1 - ((M3 f r 0 0 s.parts).2 - 1)*s.Dc:=F;unfold IU;refine AC.intro Ahs rfl ?_;simp only[ntmps304,Ap,BB,BA,BO,Nat.reduceAdd,Nat.reduceSub,BY,Cy,BK,BU,Bc.row];refine Ah ?_;refine CX (ι:={ q:Nat×Int×Int // q.1<=G s.parts/\M3 f r 0 0 s.parts=M3 f r q.2.1 q.2.2 (s.parts.drop q.1)/\ -(40000000*(q.1:Int))<=q.2.1/\q.2.1<=40000000*(q.1:Int)/\(q.1:Int)<=q.2.2/\q.2.2<=1000*(q.1:Int) }) (λq=>[(9,(q.1.1:Int)),(7,(q.1.2.1 - q.1.2.2*s.Dc:Int)),(8,q.1.2.2),(6,(0:Int))]) (λ_=>[.box 27 f.vs U,.box 74 (s.row.map V.c) U]) (λq=>G s.parts - q.1.1) ⟨(0,0,0),ZA⟩ ?_ ?_;exact ER @Bc.row.eq_1;rintro ⟨⟨k,Q,B⟩,hk,M,b1,b2,b3,b4⟩;simp only at hk M b1 b2 b3 b4 ⊢;have zh:=Qh s.Dc B 60000 8000 Ux g5 Ux Ux;rw[fu s.Dc B]at zh;by_cases H:k<G s.parts;obtain⟨q,hq⟩:=AI (s.parts[k]);rw[D5 H,hq]at M;simp only[M3]at M;obtain⟨g,o⟩:=A0 s.parts[k] (Kq H);rw[hq]at o;obtain⟨e1,e2,e3⟩:=ADk A5 o;rw[AjR o]at M;obtain⟨t1,t2⟩:=AB4 HP G9 q;have hw:AZ.wrap ((k:Int)+1)=((k+1:Nat):Int):=by rw[Ac];simp
 have w1:AZ.wrap (g.Dy - s.Dc)=g.Dy - s.Dc:=Ac;have m1:=Qh (g.Dy - s.Dc) (times r q) 100000 1000 Ux Ux Ux t2;rw[fu (g.Dy - s.Dc)]at m1;have m2:=Qh g.Dy (times r q) 40000 1000 Ux Ux Ux t2;rw[fu g.Dy]at m2;have z:AZ.wrap (times r q*(g.Dy - s.Dc))=times r q*(g.Dy - s.Dc):=Ac;have S:AZ.wrap (Q - B*s.Dc+times r q*(g.Dy - s.Dc))=Q - B*s.Dc+times r q*(g.Dy - s.Dc):=Ac;have w4:AZ.wrap (B+times r q)=B+times r q:=Ac;have R:Q - B*s.Dc+times r q*(g.Dy - s.Dc)=(Q+times r q*g.Dy) - (B+times r q)*s.Dc:=by rw[Int.mul_sub,Int.add_mul];omega
 rw[R]at S;have A2:=R;cases hx:q.ext with
 | true =>
   have ht:times r q=r:=by simp[times,hx]
   rw[ht]at z S w4 M m2 t1 t2 R;refine go (cj5 @H @hq @Bc.row.eq_1 @Ek.eq_1 @CR.row.eq_1 @hx) ?_;refine gc (cj2 @YK.eq_1 @o @BG.row.eq_1) (L5 f q.name hf.gl) fB ?_;refine go @Bc.row.eq_1 ?_;refine gc (cj6 @e3 @Hg.eq_1 @BG.row.eq_1 @w1 @z @R @S) (Y0 g) aR ?_;refine go (cj @w4<|@hw) ?_;refine⟨⟨(k+1,Q+r*g.Dy,B+r),Ux,M,by simp only;omega,by simp only;omega,by simp only;omega,by simp only;omega⟩,by simp only;omega,?_⟩;refine Le.MI 2 (F2 F) (by simp[DG,Bc.row,Ek]) (by simp[Bc.row,Ek]) (by simp[V.BI,V.A8]) (by simp[O.A8,V.BI,V.A8,Bc.row,Ek])
 | false =>
   have ht:times r q=1:=by simp[times,hx]
   rw[ht]at z S w4 M m2 t1 t2 R;simp only[Int.one_mul]at z S R M m2;refine go (cj5 @H @hq @Bc.row.eq_1 @Ek.eq_1 @CR.row.eq_1 @hx) ?_;refine gc (cj2 @YK.eq_1 @o @BG.row.eq_1) (L5 f q.name hf.gl) fB ?_;refine go @Bc.row.eq_1 ?_;refine gc (cj6 @e3 @Hg.eq_1 @BG.row.eq_1 @w1 @z @R @S) (Y0 g) aR ?_;refine go (cj @w4<|@hw) ?_;refine⟨⟨(k+1,Q+g.Dy,B+1),Ux,M,by simp only;omega,by simp only;omega,by simp only;omega,by simp only;omega⟩,by simp only;omega,?_⟩;refine Le.MI 2 (F2 F) (by simp[DG,Bc.row,Ek]) (by simp[Bc.row,Ek]) (by simp[V.BI,V.A8]) (by simp[O.A8,V.BI,V.A8,Bc.row,Ek])
 have e:M3 f r 0 0 s.parts=(Q,B):=by rw[M,FA Ux];rfl
 have A1 : ¬B=0:=Ux;have hR:LO f s r=Q - B*s.Dc+s.Dc:=by rw[hT,e];simp only[Int.sub_mul];omega
 have w1:AZ.wrap (Q - B*s.Dc+s.Dc)=Q - B*s.Dc+s.Dc:=Ac;refine go (cj4 @H @Bc.row.eq_1 @Ek.eq_1 @A1 @w1) ?_;exact At (cj results304<| @hR)
theorem ee {n p:Int}(B : -1073741824<=n)(H:n<=1073741824)(M:0<=p)(Q:p<=10000):AC AF 281 [n,p] (AU n p:Int):=by
 rw[<-ABa B H M Q];exact Ajo n p Ux Ux Ux Ux
theorem Ajv (f:AP)(name g:ByteArray)(p:Int)(R:f.Fit)(S:f.valid=I)(M:1<=p)(Q:p<=100):AC AF 305 [.agg f.vs,.c (.str name),.agg [.c (.str g),(0:Int)],p] (XV f g p:Int):=by
 have B:=AZk f g p R.gl;have H:=Anq S M Q g;generalize z:(DB f g p).1=b at B H;obtain⟨k,n,s,w,h,d,x,y,q,o,src⟩:=b;simp only[Ao,AA.row,Ap,BB]at B H;refine en func305 ntmps305 ?_;refine Ah ?_;refine BZ (B) AP6 ?_;refine go @H ?_;exact At results305
theorem Amj (f:AP)(name:ByteArray)(B p:Int)(S:f.Fit):AC AF 300 [.agg f.vs,.c (.str name),B,p] (ls (ec f name B p)):=by
 by_cases hc:JF f p=0;have hk:=hc;unfold JF at hk;have hv:f.valid=true:=by cases h:f.valid<;>simp[h]at hk;rfl
 have o:1<=p/\p<=100:=by
  rw[Awf (by simp[hv])]at hk;split at hk<;>omega
 have Q:ec f name B p=(J2 f name B p,0):=by unfold ec;rw[Awf (by simp[hc])]
 cases R:f.I8 name with
 | none =>
   have YU:J2 f name B p=⟨name,0⟩:=by unfold J2;rw[R]
   rw[YU]at Q;refine en AP7 ntmps300 ?_;refine Ah ?_;refine gc (cj @hc<|@AR.eq_1) (x5 f p S) AF9 ?_;refine Ah ?_;refine gc (cj4 @NK.eq_1 @IU.eq_1 @Bc.row.eq_1 @R @Bc.zero.eq_1) (ae f name S.sl) AF6 ?_;refine Ah ?_;exact At (cj4 AHC @Q @ls.eq_1 @N4.eq_1 @AR.eq_1)
 | some s =>
   have hs:=(Se R).1;have hG:=QG hv hs;obtain⟨g1,g2,g3,g4,g5,g6⟩:=hG;have YU:J2 f name B p=WA f s B p:=by unfold J2;rw[R]
   rw[YU]at Q;clear YU hk;refine en AP7 ntmps300 ?_;refine Ah ?_;refine gc (cj @hc<|@AR.eq_1) (x5 f p S) AF9 ?_;refine Ah ?_;refine gc (cj3 @NK.eq_1 @IU.eq_1 @Bc.row.eq_1 @R) (ae f name S.sl) AF6 ?_;refine Ah ?_;refine CX (ι:={ k:Nat // k<=G s.sizes/\TG f p B s.sizes=TG f p B (s.sizes.drop k) }) (λk=>[(13,(k.1:Int)),(9,(0:Int))]) (λ_=>[.box 27 f.vs U,.box 262 [.c (.str ⟨#[]⟩),(0:Int)] U,.box 74 (s.row.map V.c) U]) (λk=>G s.sizes - k.1) ⟨0,ZA⟩ ?_ ?_;exact ER @Bc.row.eq_1;rintro ⟨k,Ce,hI⟩;by_cases H:k<G s.sizes;obtain⟨n,M⟩:=AI (s.sizes[k]);rw[D5 H,M]at hI;simp only[TG]at hI;by_cases he:B<=XV f n p;rw[Awd he]at hI;have z:ec f name B p=(⟨n,0⟩,0):=by rw[Q];unfold WA;rw[hI]
   refine go (cj3 @H @M @Bc.row.eq_1 @Gv.eq_1) ?_;refine gc @he (Ajv f name n p S hv o.1 o.2) func305 ?_;refine go (cj4 @H @M @he @Bc.row.eq_1 @Gv.eq_1) ?_;exact At (cj4 AHC @z @ls.eq_1 @N4.eq_1 @AR.eq_1);rw[Awf he]at hI;have hw:AZ.wrap ((k:Int)+1)=((k+1:Nat):Int):=by rw[Ac];simp
   refine go (cj3 @H @M @Bc.row.eq_1 @Gv.eq_1) ?_;refine gc @he (Ajv f name n p S hv o.1 o.2) func305 ?_;refine go (cj5 @H @M @he @Bc.row.eq_1 @Gv.eq_1 @hw) ?_;refine⟨⟨k+1,Ux,hI⟩,by simp only;omega,?_⟩;exact ER (cj @Bc.row.eq_1<|@Gv.eq_1);have e:TG f p B s.sizes=none:=by rw[hI,FA Ux];rfl
   have z:WA f s B p=if s.parts=[]then⟨s.sizes.getD (G s.sizes - 1) ⟨#[]⟩,0⟩else⟨⟨#[]⟩,LM f s p B 999⟩:=by unfold WA;rw[e]
   by_cases q:s.parts=[]
   rw[Awd q]at z;obtain⟨m,hm⟩:∃m,G s.sizes=m+1:=⟨G s.sizes - 1,Ux⟩
   have A0:m<G s.sizes:=Ux;obtain⟨n,M⟩:=AI (s.sizes[m]);have hw:AZ.wrap ((G s.sizes:Int) - 1)=(m:Int):=by rw[Ac];omega
   have hg:s.sizes.getD (G s.sizes - 1) ⟨#[]⟩=n:=by rw[hm];simp[List.getD,A0,M]
   rw[hg]at z;rw[z]at Q;refine go (cj7 @H @q @Bc.row.eq_1 @Gv.eq_1 @Ek.eq_1 @hw @A0 @M) ?_;exact At (cj4 AHC @Q @ls.eq_1 @N4.eq_1 @AR.eq_1);rw[Awf q]at z;have A1 : ¬G s.parts=0:=by simpa using q
   rw[z]at Q;refine go (cj5 @H @q @A1 @Bc.row.eq_1 @Gv.eq_1 @Ek.eq_1) ?_;refine CX (ι:={ r:Int // 1<=r/\r<=1000/\LM f s p B 999=LM f s p B (1000 - r).toNat }) (λr=>[(14,r.1)]) (λ_=>[.box 27 f.vs U,.box 262 [.c (.str ⟨#[]⟩),(0:Int)] U,.box 74 (s.row.map V.c) U]) (λr=>(1000 - r.1).toNat) ⟨1,ZA⟩ ?_ ?_;exact ER @Bc.row.eq_1;rintro ⟨r,r1,r2,hS⟩;by_cases hr:r<1000;rw[AZF f s p B r r1 hr]at hS;obtain⟨b1,b2⟩:=AB3 hv hs r1 r2;by_cases M:B<=AU (LO f s r) p;rw[Awd M]at hS;rw[hS]at Q;have F6 : ¬AU (LO f s r) p<B:=Ux;refine go (cj @hr<|@Bc.row.eq_1) ?_;refine gc (cj2 @IU.eq_1 @Bc.row.eq_1 @hr) (AXc f s r S hv hs r1 r2 q) Ahs ?_;refine gc (cj @F6<|@M) (ee (n:=LO f s r) (p:=p) Ux Ux Ux Ux) AQf ?_;refine go (cj @M<|@F6) ?_;exact At (cj4 AHC @Q @ls.eq_1 @N4.eq_1 @AR.eq_1);rw[Awf M]at hS;have F6:AU (LO f s r) p<B:=Ux;have hw:AZ.wrap (r+1)=r+1:=Ac;refine go (cj @hr<|@Bc.row.eq_1) ?_;refine gc (cj2 @IU.eq_1 @Bc.row.eq_1 @hr) (AXc f s r S hv hs r1 r2 q) Ahs ?_;refine gc (cj @F6<|@M) (ee (n:=LO f s r) (p:=p) Ux Ux Ux Ux) AQf ?_;refine go (cj2 @M @F6 @hw) ?_;refine⟨⟨r+1,Ux,Ux,hS⟩,by simp only;omega,?_⟩;exact ER @Bc.row.eq_1;have e1:r=1000:=Ux;subst e1;have e2:LM f s p B (1000 - 1000:Int).toNat=1000:=F;rw[e2]at hS;rw[hS]at Q;refine go @Bc.row.eq_1 ?_;exact At (cj4 AHC @Q @ls.eq_1 @N4.eq_1 @AR.eq_1)
 have Q:ec f name B p=(⟨⟨#[]⟩,0⟩,JF f p):=by unfold ec;rw[Awd (by simp[hc])]
 refine en AP7 ntmps300 ?_;refine Ah ?_;refine gc @AR.eq_1 (x5 f p S) AF9 ?_;refine go @hc ?_;exact At (cj4 AHC @Q @ls.eq_1 @N4.eq_1 @AR.eq_1)
theorem Amf (f:AP)(s:Bc)(r p:Int)(hf:f.Fit)(hv:f.valid=I)(hs:s∈f.C5)(HP:1<=r)(G9:r<=1000)(G8:1<=p)(HN:p<=100)(hp:s.parts≠[]):AC AF 299 [.agg f.vs,IU s,r,p] (Ao (V4 f s r p)):=by
 obtain⟨_,_,g3,g4,g5,g6⟩:=QG hv hs;have A3:=AjQ hv hs;have A5:=Z8 hv;have B3:0<G s.parts:=Kr.2 hp;obtain⟨B0,B1⟩:=AB3 hv hs HP G9;have B2:=sH HP G9 s.parts;have hR:Ao (V4 f s r p)=.agg [.c (.int .i64 3),.c (.str ⟨#[]⟩),.c (.int .i64 0),.c (.int .i64 (IS 0 (Gp f s.Dc p 0 (JR r s.parts)))),.c (.int .i64 (AU (LO f s r) p)),.c (.int .i64 0),.c (.int .i64 0),.c (.int .i64 0),.c (.sl (AA.AG (Gp f s.Dc p 0 (JR r s.parts)))),.c (.int .i64 0),.c (.sl [])]:=by simp[Ao,V4,AA.row,AV]
 rw[hR];clear hR;obtain⟨ALL,A1⟩:=AI (Gp f s.Dc p 0 (JR r s.parts));rw[A1];have yS:=AXc f s r hf hv hs HP G9 hp;generalize hT:LO f s r=T at yS B0 B1 ⊢;unfold IU at yS ⊢;refine AC.intro UJ rfl ?_;simp only[ntmps299,Ap,BB,BA,BO,Nat.reduceAdd,Nat.reduceSub,BY,Cy,BK,BU,Bc.row];refine Ah ?_;refine gc @Bc.row.eq_1 (yS) Ahs ?_;refine BZ (ee (n:=T) (p:=p) Ux Ux Ux Ux) AQf ?_;refine Ah ?_;refine AW.le (Le.T4 3 8 56 11 rfl F) ?_;simp only[BA,BO,Nat.reduceAdd,Ag,Ai,BK,BU];refine CX (ι:={ q:Nat×Int×List AA // q.1<=G s.parts/\ALL=q.2.2++Gp f s.Dc p q.2.1 (JR r (s.parts.drop q.1))/\0<=q.2.1/\q.2.1<=40000*(q.2.2.length:Int)/\q.2.2.length+G (JR r (s.parts.drop q.1))<=8000 }) (λq=>[(11,(q.1.1:Int)),(10,q.1.2.1)]) (λq=>[.box 27 f.vs U,.box 74 (s.row.map V.c) U,.box 56 BT U,.box 56 (Nf (IS 0 q.1.2.2) (AU T p) (.gr 4 11 (AA.AG q.1.2.2))) U,.tok 56 11 q.1.2.2.length]) (λq=>G s.parts - q.1.1) ⟨(0,0,[]),by simp[A1];omega⟩ ?_ ?_;exact ER (cj6 @Bc.row.eq_1 @BT.eq_1 @Nf.eq_1 @IS.eq_1 @IS.eq_2 @AA.AG.eq_1 @AA.AG.eq_2);rintro ⟨⟨k,b,M⟩,hk,H,b1,b2,R⟩;simp only at hk H b1 b2 R ⊢;by_cases S:k<G s.parts;obtain⟨q,hq⟩:=AI (s.parts[k]);have U5:q∈s.parts:=hq ▸ Kq S;have A9:=g6 q U5;obtain⟨g,hg⟩:=A3 q U5;obtain⟨e1,e2,e3⟩:=ADk A5 hg;have KZ:=AjR hg;rw[KZ]at A9;rw[D5 S,hq]at H R;simp only[JR,Cp,H6]at H R;obtain⟨t1,t2⟩:=AB4 HP G9 q;have hw:AZ.wrap ((k:Int)+1)=((k+1:Nat):Int):=by rw[Ac];simp
 have hc:=AZk f q.name p hf.gl;have YR : ∃B,(DB f q.name p).1=B/\ -200000<=B.d/\B.d<=200000:=by
  refine⟨_,F,?_⟩;rw[(Pk hv G8 HN q.name).1];have:=Zv hv G8 HN q.name;simp only[N7];omega
 obtain⟨⟨bk,bn,bs,o,bh,Q,bx,Bq,EU,bo,Et⟩,hB,A6,A7⟩:=YR;have yK : ∀z,kt f p z q=⟨bk,bn,bs,o,bh,Q,bx,AU z p+Q,EU,bo,Et⟩:=by intro z;simp only[kt,hB]
 rw[hB]at hc;simp only[Ao,AA.row,Ap,BB]at hc A6 A7;have A2:AZ.wrap (g.Dy - s.Dc)=g.Dy - s.Dc:=Ac;cases hx:q.ext with
 | true =>
   have ht:times r q=r:=by simp[times,hx]
   rw[ht]at H R t1 t2;refine go (cj5 @S @hq @Bc.row.eq_1 @Ek.eq_1 @CR.row.eq_1 @hx) ?_;refine gc (cj2 @YK.eq_1 @hg @BG.row.eq_1) (L5 f q.name hf.gl) fB ?_;refine Ah ?_;refine CX (ι:={ x:Int×Int×List AA // 0<=x.1/\x.1<=r/\ALL=x.2.2++Gp f s.Dc p x.2.1 (Aq (r - x.1).toNat q++JR r (s.parts.drop (k+1)))/\0<=x.2.1/\x.2.1<=40000*(x.2.2.length:Int)/\x.2.2.length+((r - x.1).toNat+G (JR r (s.parts.drop (k+1))))<=8000 }) (λx=>[(15,x.1.1),(10,x.1.2.1)]) (λx=>[.box 27 f.vs U,.box 74 (s.row.map V.c) U,.box 56 BT U,.box 56 (Nf (IS 0 x.1.2.2) (AU T p) (.gr 4 11 (AA.AG x.1.2.2))) U,.tok 56 11 x.1.2.2.length,.box 103 (g.row.map V.c) U]) (λx=>(r - x.1.1).toNat) ⟨(0,b,M),by simp only[Aa3];exact⟨Ux,Ux,H,b1,b2,R⟩⟩ ?_ ?_;exact ER (cj @Bc.row.eq_1<|@BG.row.eq_1);clear H b1 b2 R;rintro ⟨⟨j,b,M⟩,j1,j2,H,b1,b2,R⟩;simp only at j1 j2 H b1 b2 R ⊢;by_cases hj:j<r;have hd:(r - j).toNat=(r - (j+1)).toNat+1:=Ux;rw[hd]at H R;simp only[BY,BK,Gp,yK,KZ]at H;have Y2:=AKe (n:=b) (p:=p) Ux Ux Ux Ux;have PC:AZ.wrap (j+1)=j+1:=Ac;have A0:AZ.wrap (AU b p+Q)=AU b p+Q:=Ac;have Ws:AZ.wrap (b+(g.Dy - s.Dc))=b+(g.Dy - s.Dc):=Ac;have FO:G M+1<=maxLen:=by unfold maxLen;omega
   have EX:(G M+1)*128<=140737488355328:=Ux;have Bn:AA.AG (M++[⟨bk,bn,bs,o,bh,Q,bx,AU b p+Q,EU,bo,Et⟩])=AA.AG M++[[.int .i64 bk,.str bn,.int .i64 bs,.int .i64 o,.int .i64 bh,.int .i64 Q,.int .i64 bx,.int .i64 (AU b p+Q),.sl (AA.AG EU),.int .i64 bo,AV Et]]:=by rw[lG];rfl
   have l9:IS 0 (M++[⟨bk,bn,bs,o,bh,Q,bx,AU b p+Q,EU,bo,Et⟩])=if IS 0 M<o then o else IS 0 M:=by rw[AIZ];rfl
   refine go (cj5 @hj @S @hq @Bc.row.eq_1 @Ek.eq_1 @CR.row.eq_1) ?_;refine BZ (hc) AP6 ?_;refine Ah ?_;refine gc @A0 (ee (n:=b) (p:=p) Ux Ux Ux Ux) AQf ?_;refine go (cj3 @Nf.eq_1 @FO @EX @BG.row.eq_1) ?_;refine gc (cj5 @e3 @Hg.eq_1 @BG.row.eq_1 @A2 @Ws @Bc.row.eq_1) (Y0 g) aR ?_;refine go @PC ?_;refine⟨⟨(j+1,b+(g.Dy - s.Dc),M++[⟨bk,bn,bs,o,bh,Q,bx,AU b p+Q,EU,bo,Et⟩]),by simp only;omega,by simp only;omega,by simpa using H,by simp only;omega,by simp;omega,by simp;omega⟩,by simp only;omega,?_⟩;refine Le.MI 6 (F2 F) (by simp[DG,Bc.row,Ek,BG.row,Nf,Bn,l9,BT]) (by simp[Bc.row,Ek,BG.row,Nf,Bn,l9,BT]) (by simp[V.BI,V.A8]) (by simp[O.A8,V.BI,V.A8,Bc.row,Ek,BG.row,Nf,Bn,l9,BT]);have hd:(r - j).toNat=0:=Ux;rw[hd]at H R;simp only[Cy,BU,Cz]at H R;refine go (cj @hj<|@hw) ?_;refine⟨⟨(k+1,b,M),Ux,H,b1,b2,R⟩,by simp only;omega,?_⟩;refine Le.MI 5 (F2 F) (by simp[DG,Bc.row,Ek,Nf,BT]) (by simp[Bc.row,Ek,Nf,BT]) (by simp[V.BI,V.A8]) (by simp[O.A8,V.BI,V.A8,Bc.row,Ek,Nf,BT])
 | false =>
   have ht:times r q=1:=by simp[times,hx]
   rw[ht]at H R t1 t2;refine go (cj5 @S @hq @Bc.row.eq_1 @Ek.eq_1 @CR.row.eq_1 @hx) ?_;refine gc (cj2 @YK.eq_1 @hg @BG.row.eq_1) (L5 f q.name hf.gl) fB ?_;refine Ah ?_;refine CX (ι:={ x:Int×Int×List AA // 0<=x.1/\x.1<=1/\ALL=x.2.2++Gp f s.Dc p x.2.1 (Aq (1 - x.1).toNat q++JR r (s.parts.drop (k+1)))/\0<=x.2.1/\x.2.1<=40000*(x.2.2.length:Int)/\x.2.2.length+((1 - x.1).toNat+G (JR r (s.parts.drop (k+1))))<=8000 }) (λx=>[(15,x.1.1),(10,x.1.2.1)]) (λx=>[.box 27 f.vs U,.box 74 (s.row.map V.c) U,.box 56 BT U,.box 56 (Nf (IS 0 x.1.2.2) (AU T p) (.gr 4 11 (AA.AG x.1.2.2))) U,.tok 56 11 x.1.2.2.length,.box 103 (g.row.map V.c) U]) (λx=>(1 - x.1.1).toNat) ⟨(0,b,M),by simp only[Aa3];exact⟨Ux,Ux,H,b1,b2,R⟩⟩ ?_ ?_;exact ER (cj @Bc.row.eq_1<|@BG.row.eq_1);clear H b1 b2 R;rintro ⟨⟨j,b,M⟩,j1,j2,H,b1,b2,R⟩;simp only at j1 j2 H b1 b2 R ⊢;by_cases hj:j<1;have hd:(1 - j).toNat=(1 - (j+1)).toNat+1:=Ux;rw[hd]at H R;simp only[BY,BK,Gp,yK,KZ]at H;have Y2:=AKe (n:=b) (p:=p) Ux Ux Ux Ux;have PC:AZ.wrap (j+1)=j+1:=Ac;have A0:AZ.wrap (AU b p+Q)=AU b p+Q:=Ac;have Ws:AZ.wrap (b+(g.Dy - s.Dc))=b+(g.Dy - s.Dc):=Ac;have FO:G M+1<=maxLen:=by unfold maxLen;omega
   have EX:(G M+1)*128<=140737488355328:=Ux;have Bn:AA.AG (M++[⟨bk,bn,bs,o,bh,Q,bx,AU b p+Q,EU,bo,Et⟩])=AA.AG M++[[.int .i64 bk,.str bn,.int .i64 bs,.int .i64 o,.int .i64 bh,.int .i64 Q,.int .i64 bx,.int .i64 (AU b p+Q),.sl (AA.AG EU),.int .i64 bo,AV Et]]:=by rw[lG];rfl
   have l9:IS 0 (M++[⟨bk,bn,bs,o,bh,Q,bx,AU b p+Q,EU,bo,Et⟩])=if IS 0 M<o then o else IS 0 M:=by rw[AIZ];rfl
   refine go (cj5 @hj @S @hq @Bc.row.eq_1 @Ek.eq_1 @CR.row.eq_1) ?_;refine BZ (hc) AP6 ?_;refine Ah ?_;refine gc @A0 (ee (n:=b) (p:=p) Ux Ux Ux Ux) AQf ?_;refine go (cj3 @Nf.eq_1 @FO @EX @BG.row.eq_1) ?_;refine gc (cj5 @e3 @Hg.eq_1 @BG.row.eq_1 @A2 @Ws @Bc.row.eq_1) (Y0 g) aR ?_;refine go @PC ?_;refine⟨⟨(j+1,b+(g.Dy - s.Dc),M++[⟨bk,bn,bs,o,bh,Q,bx,AU b p+Q,EU,bo,Et⟩]),by simp only;omega,by simp only;omega,by simpa using H,by simp only;omega,by simp;omega,by simp;omega⟩,by simp only;omega,?_⟩;refine Le.MI 6 (F2 F) (by simp[DG,Bc.row,Ek,BG.row,Nf,Bn,l9,BT]) (by simp[Bc.row,Ek,BG.row,Nf,Bn,l9,BT]) (by simp[V.BI,V.A8]) (by simp[O.A8,V.BI,V.A8,Bc.row,Ek,BG.row,Nf,Bn,l9,BT]);have hd:(1 - j).toNat=0:=Ux;rw[hd]at H R;simp only[Cy,BU,Cz]at H R;refine go (cj @hj<|@hw) ?_;refine⟨⟨(k+1,b,M),Ux,H,b1,b2,R⟩,by simp only;omega,?_⟩;refine Le.MI 5 (F2 F) (by simp[DG,Bc.row,Ek,Nf,BT]) (by simp[Bc.row,Ek,Nf,BT]) (by simp[V.BI,V.A8]) (by simp[O.A8,V.BI,V.A8,Bc.row,Ek,Nf,BT])
 have e:ALL=M:=by rw[H,FA Ux];simp[JR,Gp]
 subst e;refine go (cj4 @S @Bc.row.eq_1 @Ek.eq_1 @Nf.eq_1 @BT.eq_1) ?_;exact At (cj results299<| @Nf.eq_1)
theorem AjZ (f:AP)(name:ByteArray)(c:Choice)(p:Int)(M:f.Fit)(hz : ∀s∈f.C5,G s.sizes<=1000):AC AF 274 [.agg f.vs,.c (.str name),N4 c,p] (Ba (K5 f name c p)):=by
 obtain⟨B,H⟩:=c;by_cases Q:JF f p=0;obtain⟨hv,G8,HN⟩:=AEl Q;cases q:KH f name ⟨B,H⟩with
 | false =>
   have S:K5 f name ⟨B,H⟩ p=(AA.zero,8):=by unfold K5;rw[Awf (by simp[Q]),Awd q]
   rw[S];unfold N4;refine en APj Aid ?_;refine Ah ?_;refine gc (cj @Q<|@AR.eq_1) (x5 f p M) AF9 ?_;refine Ah ?_;refine gc (cj @q<|@N4.eq_1) (AYL f name ⟨B,H⟩ M.sl hz) AQi ?_;refine Ah ?_;exact At (cj8 Aiv @AR.eq_1 @Ba.eq_1 @Ao.eq_1 @AA.zero.eq_1 @AA.row.eq_1 @AA.AG.eq_1 @AA.AG.eq_2 @AV.eq_1)
 | true =>
   by_cases h0:H=0;subst h0;have S:K5 f name ⟨B,0⟩ p=((DB f B p).1,0):=by unfold K5;rw[Awf (by simp[Q]),Awf (by simp[q]),Awd rfl]
   rw[S];have R:=AZk f B p M.gl;obtain⟨b,hq⟩:=AI ((DB f B p).1);rw[hq]at R ⊢;obtain⟨k,n,s,w,h,d,x,y,AE,o,src⟩:=b;simp only[Ba,AR,Ao,AA.row,Ap,BB]at R ⊢;unfold N4;refine en APj Aid ?_;refine Ah ?_;refine gc (cj @Q<|@AR.eq_1) (x5 f p M) AF9 ?_;refine Ah ?_;refine gc (cj @q<|@N4.eq_1) (AYL f name ⟨B,0⟩ M.sl hz) AQi ?_;refine Ah ?_;refine BZ (R) AP6 ?_;refine Ah ?_;exact At Aiv;obtain⟨s,z,HO,r1,r2,_⟩:=AAI h0 q;have hs:=(Se z).1;have S:K5 f name ⟨B,H⟩ p=(V4 f s H p,0):=by unfold K5;rw[Awf (by simp[Q]),Awf (by simp[q]),Awf h0,z];rfl
   rw[S];have R:=Amf f s H p M hv hs r1 r2 G8 HN HO;generalize hq:V4 f s H p=b at R ⊢;obtain⟨bk,bn,bs,bw,bh,bd,bx,Bq,AE,bo,src⟩:=b;simp only[Ba,AR,Ao,AA.row,Ap,BB]at R ⊢;unfold N4;refine en APj Aid ?_;refine Ah ?_;refine gc (cj @Q<|@AR.eq_1) (x5 f p M) AF9 ?_;refine Ah ?_;refine gc (cj @q<|@N4.eq_1) (AYL f name ⟨B,H⟩ M.sl hz) AQi ?_;refine go @h0 ?_;refine gc (cj3 @NK.eq_1 @IU.eq_1 @Bc.row.eq_1 @z) (ae f name M.sl) AF6 ?_;refine Ah ?_;refine gc (cj @IU.eq_1<|@Bc.row.eq_1) (R) UJ ?_;refine Ah ?_;exact At Aiv
 have S:K5 f name ⟨B,H⟩ p=(AA.zero,JF f p):=by unfold K5;rw[Awd (by simp[Q])]
 rw[S];unfold N4;refine en APj Aid ?_;refine Ah ?_;refine gc @AR.eq_1 (x5 f p M) AF9 ?_;refine go @Q ?_;exact At (cj8 Aiv @AR.eq_1 @Ba.eq_1 @Ao.eq_1 @AA.zero.eq_1 @AA.row.eq_1 @AA.AG.eq_1 @AA.AG.eq_2 @AV.eq_1)
theorem Ajd (f:AP)(name:ByteArray)(H p:Int)(hf:f.Fit)(hz : ∀s∈f.C5,G s.sizes<=1000):AC AF 279 [.agg f.vs,.c (.str name),H,p] (Ba (Hv f name H p)):=by
 have B:=Amj f name H p hf;by_cases M:JF f p=0;have S:Hv f name H p=K5 f name (J2 f name H p) p:=by unfold Hv;rw[Awf (by simp[M])]
 have R:ec f name H p=(J2 f name H p,0):=by unfold ec;rw[Awf (by simp[M])]
 rw[S];rw[R]at B;generalize A0:J2 f name H p=c at B ⊢;obtain⟨o,z⟩:=c;simp only[ls,N4,AR]at B;have Q:=AjZ f name ⟨o,z⟩ p hf hz;generalize hq:K5 f name ⟨o,z⟩ p=q at Q ⊢;obtain⟨⟨bk,bn,bs,bw,bh,bd,bx,Bq,AE,bo,src⟩,e⟩:=q;simp only[N4,Ba,AR,Ao,AA.row,Ap,BB]at Q ⊢;refine en ns AAv ?_;refine Ah ?_;refine BZ (B) AP7 ?_;refine Ah ?_;refine BZ (Q) APj ?_;refine Ah ?_;exact At CQ;have S:Hv f name H p=(AA.zero,JF f p):=by unfold Hv;rw[Awd (by simp[M])]
 have R:ec f name H p=(⟨⟨#[]⟩,0⟩,JF f p):=by unfold ec;rw[Awd (by simp[M])]
 rw[S];rw[R]at B;simp only[ls,N4,AR]at B;refine en ns AAv ?_;refine Ah ?_;refine BZ (B) AP7 ?_;refine go @M ?_;exact At (cj8 CQ @AR.eq_1 @Ba.eq_1 @Ao.eq_1 @AA.zero.eq_1 @AA.row.eq_1 @AA.AG.eq_1 @AA.AG.eq_2 @AV.eq_1)
mutual
def AA.fit:AA->Prop
 | ⟨_,_,_,_,_,_,_,_,AE,_,src⟩=>G AE<=maxLen/\(G src)<=maxLen/\AA.fits AE
def AA.fits:List AA->Prop
 | []=>True
 | b::l=>b.fit/\AA.fits l
end
theorem Dt : ∀l:List AA,AA.AG l=l.map AA.row
 | []=>rfl
 | x::l=>by simp only[AA.AG,Ap];rw[Dt l]
mutual
def AA.cnt:AA->Nat
 | ⟨_,_,_,_,_,_,_,_,AE,_,_⟩=>1+AA.Az AE
def AA.Az:List AA->Nat
 | []=>0
 | b::l=>b.cnt+AA.Az l
end
mutual
def AA.Fq:AA->Prop
 | ⟨_,_,_,_,_,_,_,_,AE,_,src⟩=>G src<=1000000/\AA.JH AE
def AA.JH:List AA->Prop
 | []=>True
 | b::l=>b.Fq/\AA.JH l
end
theorem wm :0<b.cnt:=by cases b;simp only[AA.cnt];omega
theorem Ud : ∀l:List AA,G l<=AA.Az l
 | []=>BN _
 | b::l=>by have:=Ud l;have:=wm b;simp only[AA.Az,BA];omega
theorem bj : ∀(l:List AA) (i:Nat) (b:AA),l[i]?=J b->i+b.cnt<=AA.Az l
 | [],i,b,h=>by simp at h
 | x::l,0,b,h=>by simp at h;subst h;simp only[AA.Az];omega
 | x::l,i+1,b,h=>by have:=bj l i b (by simpa using h);have:=wm x;simp only[AA.Az];omega
theorem pX : ∀(l:List AA) (i:Nat) (b:AA),AA.JH l->l[i]?=J b->b.Fq
 | [],i,b,_,h=>by simp at h
 | x::l,0,b,B,h=>by simp at h;subst h;exact B.1
 | x::l,i+1,b,B,h=>pX l i b B.2 (by simpa using h)
theorem Nk :G b.row=11:=by cases b;rfl
theorem lE (l:List AA):∀r∈AA.AG l,G r=11:=by
 rw[Dt];intro r B;obtain⟨b,_,rfl⟩:=Da.1 B;exact Nk b
theorem flat_get {l:List AA}{i q:Nat}{b:AA}(h:l[i]?=J b)(B:q<11):((AA.AG l).flatten.map V.c)[i*11+q]?=(b.row.map V.c)[q]?:=by
 rw[CM,CM];congr 1
 rw[Dt];induction l generalizing i with
 | nil=>simp at h
 | cons x l ih =>
   cases i with
   | zero=>simp at h;subst h;rw[Ap,Hp,Nat.zero_mul,Cz,EJ (by rw[Nk];exact B)]
   | succ i =>
     rw[Ap,Hp,Gy (by rw[Nk];omega),Nk,<-ih (i:=i) (by simpa using h)];congr 1
     omega
theorem ADp {N:Nat} : ∀ {l:List V} {i:Nat},l[i]?=J (.c (.sl []))->V.Em N l=I->EM (Jq 2) N (l.set i (.Bg [])) l
 | [],i,h,_=>by simp at h
 | v::l,0,h,B=>by
   simp at h;subst h;simp only[V.Em,Ak]at B;exact⟨.inr (.inr ⟨[],F,F⟩),UW B.2 (BN _)⟩
 | v::l,i+1,h,B=>by
   simp only[V.Em,Ak]at B;rw[Ai];exact⟨.inr (.inl ⟨(AKn (N:=N) (λk _ H=>by simp[Jq,H]) v B.1).symm,(AKm (BN _) v B.1).1⟩),ADp (by simpa using h) B.2⟩
theorem xH {N n:Nat}{t:List V}(Q:2<N)(R:G t=71)(S:t.take 4=[.any,.ptr 0 0,.ptr 1 0,.own 2 0 n 1]):EM (Jq 2) N t (dT n):=by
 have e:t=[.any,.ptr 0 0,.ptr 1 0,.own 2 0 n 1]++t.drop 4:=by rw[<-S,List.take_append_drop]
 rw[e];have B:(67:Nat)=G (t.drop 4):=by rw[List.length_drop,R]
 unfold dT;rw[B];refine EM.append ?_ (EM.any _);have H:0<N:=Ux;have M:1<N:=Ux;simp[EM,Wk,V.GS,V.A8,Jq,Q,H,M]
section
variable {K:Exit->St->Prop}
abbrev DL (K:Exit->St->Prop)(s:St):Prop:=LA ⟨E,0⟩ AF P8 K s
def iF (K:Exit->St->Prop)(b:AA):Prop:=∀(H:List O) (st:List V) (j k off:Nat) (ty:TypeId) (cs:List V),H[2]?=J (Gw (st++[.ptr k off]) j)->H[k]?=J (.box ty cs U)->k≠2->(∀q,q<11->cs[off+q]?=(b.row.map V.c)[q]?)->Kw H->V.Em (G H) st=I->G st+b.cnt<1000000->
 (∀j',DL K ⟨dT (G st),H.set 2 (Gw st j')⟩)->DL K ⟨dT (G st+1),H⟩
theorem AE4 (AE:List AA)(hk : ∀(i:Nat) (b:AA),AE[i]?=J b->iF K b)(G:List O)(st:List V)(L:Nat)(Q:G[L]?=J (.box 56 ((AA.AG AE).flatten.map V.c) U))(H:L≠2)(h2:2<G.length)(hG:Kw G)(B:V.Em G.length st=I)(hb:st.length+AA.Az AE<1000000)(hK : ∀z,DL K ⟨dT st.length,G.set 2 (Gw st z)⟩):∀(i j:Nat),i<=AE.length->DL K ⟨dT (st.length+i),G.set 2 (Gw (st++F0 L i) j)⟩
 | 0,j,_=>by
   have:F0 L 0=[]:=F;rw[this,E5];exact hK j
 | i+1,j,hi=>by
   have S:i<AE.length:=hi;obtain⟨b,M⟩:∃b,AE[i]?=J b:=⟨_,BE S⟩
   have Io:L<G.length:=(Br.1 Q).1;have:=bj AE i b M;have R:(st++F0 L i).length=st.length+i:=by rw[Cp,AJ0]
   have:=hk i b M (G.set 2 (Gw (st++F0 L (i+1)) j)) (st++F0 L i) j L (i*11) 56 _ (by rw[IX h2,ABM,GX]) (by rw[HF (λe=>H e.symm)];exact Q) H (λq hq=>flat_get M hq)
    (by intro a o ha ho;rw[HF (λe=>ha e.symm)]at ho;rw[GF];exact hG a o ha ho) (by rw[GF];exact sy.2 ⟨B,ABL _ Io H⟩) (by rw[R];omega)
    (λz=>by rw[List.set_set,R];exact AE4 AE hk G st L Q H h2 hG B hb hK i z Ux)
   rw[R]at this;exact this
theorem AOr (z:b.AE=[])(hd:b.Fq):iF K b:=by
 intro H st j k B ty S o Q R q QI VA hb hK;obtain⟨b0,b1,b2,b3,b4,b5,b6,b7,AE,b9,src⟩:=b;simp only at z;subst z;have Rk:S[B+8]?=J (.c (.sl [])):=q 8 Ux;have Rj:S[B+10]?=J (.c (AV src)):=q 10 Ux;have N9:2<G H:=(Br.1 o).1;obtain⟨_,_,_,Iw,Ym⟩:=QI k _ R Q;cases Iw;refine LA.round (AOo H (G st) k B ty S _ src o Q R ?_ Ux hd.1 Rk Rj λt hl ht=>?_);rw[GX,Gy (BN _)];simp;refine LA.le (Le.Gw 2 (.inl F) ?_ ⟨Gw (st++[.ptr k B]) j,_,?_,IX N9,?_⟩ (λa o' ha M=>?_)) (hK (j+1));rw[GF];exact xH N9 hl ht;rw[HF R];exact o;rw[GF];unfold Gw;rw[GX];exact⟨F,F,EM.append (UW VA (BN _)) (by have:=EM.any (ρ:=Jq 2) (N:=G H) ([V.ptr k B]++Aq j .any);simpa [Nat.add_comm]using this)⟩;rw[HF (λe=>ha e.symm)]at M;rw[GF];by_cases e:a=k;subst e;rw[Q]at M;cases M;exact⟨_,IX (Br.1 Q).1,F,F,ADp Rk Ym⟩;exact⟨o',by rw[HF (λh=>e h.symm)];exact M,oJ (QI a o' ha M) (BN _)⟩
theorem toCs_map : ∀l:List C,toCs (l.map V.c)=J l
 | []=>rfl
 | c::l=>by simp only[Ap,toCs,toC,toCs_map l]
theorem AOs (Iu:b.AE≠[])(hd:b.Fq)(ih : ∀(i:Nat) (c:AA),b.AE[i]?=J c->iF K c):iF K b:=by
 intro H st j k B ty R h2 hk EG Bn q VA hb hK;obtain⟨b0,b1,b2,b3,b4,b5,b6,b7,AE,b9,src⟩:=b;simp only at Iu ih;simp only[AA.cnt]at hb;have Rk:R[B+8]?=J (.c (.sl (AA.AG AE))):=Bn 8 Ux;have Rj:R[B+10]?=J (.c (AV src)):=Bn 10 Ux;have N9:2<G H:=(Br.1 h2).1;have Ce:k<G H:=(Br.1 hk).1;have Av:G (AA.AG AE)=G AE:=by rw[Dt];simp
 have QP:0<G AE:=Kr.2 Iu;have DK:=Ud AE;obtain⟨_,_,_,Iw,Ym⟩:=q k _ EG hk;cases Iw;refine LA.round (AOp H (G st) k B ty R src (AA.AG AE) st j rfl h2 hk EG Ux hd.1 Rk Rj Ux Ux (lE AE) q VA Ux λj'=>?_);obtain⟨Q,z⟩:∃Q,Q=H.set k (O.box ty (R.set (B+8) (.own (G H) 0 (G (AA.AG AE)) 11)) U)++[O.box 56 ((AA.AG AE).flatten.map V.c) U]:=⟨_,rfl⟩
 have e4:Q=(H++[O.box 56 ((AA.AG AE).flatten.map V.c) U]).set k (O.box ty (R.set (B+8) (.own (G H) 0 (G (AA.AG AE)) 11)) U):=by rw[z,List.set_append_left _ _ Ce]
 have l4:G Q=G H+1:=by rw[z];simp
 have s4:Kw Q:=by
  rw[e4];refine Kw.set (Kw.push q (ABl _)) (AKo ?_ ?_);exact(SZ ZA R Ym).2;simp[V.sf];omega
 have L4:Q[G H]?=J (.box 56 ((AA.AG AE).flatten.map V.c) U):=by rw[z,Gy ZA];simp
 rw[<-z];have lL:V.Em (G Q) st=true:=(SZ Ux st VA).2;have key:=AE4 AE ih Q st (G H) L4 Ux Ux s4 lL Ux (λj2=>?_) (G AE) j' (BN _);refine LA.le (Le.Gw 2 (.inl F) ?_ ⟨_,_,IX Ux,IX Ux,?_⟩ (λa o' S M=>?_)) key;rw[GF];rw[Av];exact xH Ux rfl F;rw[GF,Av];exact⟨F,F,EM.append (UW (sy.2 ⟨lL,ABL _ Ux Ux⟩) (BN _)) (by have:=EM.any (ρ:=Jq 2) (N:=G Q) (Aq j' V.any);simpa using this)⟩;rw[GF];rw[HF (λe=>S e.symm)]at M;exact⟨o',by rw[HF (λe=>S e.symm)];exact M,oJ (s4 a o' S M) (BN _)⟩
 .
   refine LA.le (Le.trans (Le.freeze (G H) (row:=(AA.AG AE).flatten) (by rw[HF Ux];exact L4) (toCs_map _)) (Le.Gw 2 (.inl F) ?_ ⟨O.Bi (G H) (AA.AG AE).flatten (Gw st j2),_,?_,IX N9,?_⟩ (λa o' S M=>?_))) (hK j2);rw[GF];have:V.Cs (G H) (AA.AG AE).flatten (dT (G st))=dT (G st):=by
    have A1 : ¬2=G H:=Ux;have A0 : ¬1=G H:=Ux;have qB : ¬0=G H:=Ux;simp[dT,BY,V.Cs,V.Bi,A1,A0,qB]
   rw[this];exact xH N9 rfl F;rw[CM,HF Ux,IX Ux];rfl;rw[GF];have o:V.Em (G H) (st++Aq j2 .any)=true:=sy.2 ⟨VA,fC.2 λv hv=>by rw[(List.mem_replicate.1 hv).2];rfl⟩;simp only[O.Bi,Gw];rw[Zw (BN _) _ o];exact⟨F,F,UW o (BN _)⟩;rw[GF];rw[HF (λe=>S e.symm)]at M;have FE:a<G H:=(Br.1 M).1;rw[CM,HF Ux,HF (λe=>S e.symm),e4];by_cases e:a=k;subst e;rw[hk]at M;cases M;rw[IX (by simp;omega)];refine⟨_,F,?_⟩;simp only[O.Bi];have:V.Cs (G H) (AA.AG AE).flatten (R.set (B+8) (.own (G H) 0 (G (AA.AG AE)) 11))=R:=by
    rw[xd,List.map_set,<-xd,Zw (BN _) _ Ym];simp only[V.Bi,Awg,B9];rw[bZ _ (lE AE)];exact ez Rk
   rw[this];exact⟨F,F,UW Ym (BN _)⟩;rw[HF (λh=>e h.symm),EJ FE,M];obtain⟨GV,A2,py,rfl,o⟩:=q a o' S M;refine⟨_,F,?_⟩;simp only[O.Bi];rw[Zw (BN _) _ o];exact⟨F,F,UW o (BN _)⟩
theorem AE5 : ∀(b:AA),b.Fq->iF K b
 | ⟨b0,b1,S,o,q,z,b6,b7,B,b9,src⟩,H=>by
   by_cases M:B=[]
   exact AOr _ M H;refine AOs _ M H λi c Q=>?_
   have R:c∈B:=Cj Q;exact AE5 c (pX B i c H.2 Q)
 termination_by b=>UF b
 decreasing_by
 have:=gD R;simp only[AA.mk.sizeOf_spec];omega
end
theorem pW (hd:b.Fq)(hc:b.cnt<999999):AC AF 141 [Ao b] (Ao b):=by
 obtain⟨R,H⟩:∃R,R=b.row.map V.c:=⟨_,rfl⟩
 have z:G R=11:=by rw[H,Ch,Nk]
 have Q:R.all V.one=true:=by rw[H];simp[V.one]
 have M : ∀x∈R,x.one=true:=by simpa using Q
 unfold Ao;refine en func141 ntmps141 ?_;rw[<-H];refine go (cj2 @z @Q @M) ?_;with_reducible refine AW.DA ?_
 refine SW.OU (λv t=>v=.own 2 0 1 1/\t=J (2,.box 216 [.ptr 0 0] U)) (by simp[BQ]) ?_ ?_;intro S0 w0 x a w g ht S;exact⟨_,_,λ_ _ h=>(by cases h;exact BN _),⟨F,F⟩,AIw (P:=AF) (Bq:=8) g rfl ZA (O4 ht (i:=1) F) rfl _ S⟩;rintro v t ⟨rfl,rfl⟩;simp only[St.step,St.put,Bk,BA,BO,Nat.reduceAdd,IY,Awh,Ai,Ag,BK,BU];refine CY (.mk 1) trivial ?_;refine SW.nil ?_;with_reducible refine G3 ?_
 with_reducible refine AW.seq ?_
 with_reducible refine AW.block ?_
 with_reducible refine LA.loop ?_
 refine LA.le (s':=⟨dT 1,_⟩) (Le.tg (by simp[DG,dT,BY])) ?_;refine AE5 b hd _ [] 0 0 0 56 R rfl rfl Ux (λq hq=>by rw[H,Cz]) ?_ rfl (by simp only[BO];omega) (λj'=>?_);intro a o ha B;match a,B with
 | 0,B=>cases B;exact⟨_,_,_,F,by rw[H];exact ABl _⟩
 | 1,B=>cases B;exact⟨_,_,_,F,F⟩
 | 2,B=>exact absurd rfl ha
 | a+3,B=>simp at B
 refine LA.round ?_;conv=>arg 3;unfold P8
 obtain⟨b0,b1,b2,b3,b4,b5,b6,b7,AE,b9,src⟩:=b;simp only[AA.row,Ap,BB]at H;subst H;simp only[il,Tryz.f141,dT,BY,Cy,BK,BU,BO,Ai,Ag,Gw];refine Ah ?_;exact At (cj results141<| @AA.row.eq_1)
def I7 (o:Int)(n:Nat):Bool:=if o=0 then decide (n=0)else if o=1 then(decide (n % 2=0) && decide (n<=48))else if o=2 then(decide (n % 2=1) && decide (n<=49))else U
def HT (l:List Int):Bool:=l.all λn=>decide (0<=n)
def AA.Js (b:AA):Bool:=HT b.src && I7 b.of_ (G b.src)
def AA.lens (b:AA):List Int:=[b.w,b.h,b.d,b.x,b.y]
def AA.Fi (b:AA):Bool:=
 if b.kind=1 then Ck b.name && (decide (1<=b.size) && (decide (b.size<=1000) && decide (G b.AE=0)))
 else if b.kind=2 then decide (b.name=⟨#[]⟩) && (decide (b.size=0) && decide (G b.AE=0))
 else if b.kind=3 then decide (b.name=⟨#[]⟩) && decide (b.size=0)
 else U
def AA.Cl (b:AA):Bool:=b.lens.all An && (b.Fi && b.Js)
mutual
def AA.D8:AA->Bool
 | ⟨k,n,s,w,h,d,x,y,AE,o,src⟩=>AA.Cl ⟨k,n,s,w,h,d,x,y,AE,o,src⟩ && AA.FU AE
def AA.FU:List AA->Bool
 | []=>I
 | b::l=>b.D8 && AA.FU l
end
mutual
def AA.nest:AA->Nat
 | ⟨_,_,_,_,_,_,_,_,AE,_,_⟩=>AA.Hk AE+1
def AA.Hk:List AA->Nat
 | []=>0
 | b::l=>max b.nest (AA.Hk l)
end
def AA.Ad (b:AA):Bool:=b.D8 && (decide (b.cnt<=20000) && decide (b.nest<=100))
mutual
def AA.pv (BR:Nat):AA->Nat->Bool×Nat
 | ⟨k,n,s,w,h,d,x,y,AE,o,src⟩,c=>if 20000<c+1\/100<BR\/AA.Cl ⟨k,n,s,w,h,d,x,y,AE,o,src⟩=U then(U,c+1)else AA.HU (BR+1) AE (c+1)
def AA.HU (BR:Nat):List AA->Nat->Bool×Nat
 | [],c=>(I,c)
 | b::l,c=>if (b.pv BR c).1=I then AA.HU BR l (b.pv BR c).2 else(U,(b.pv BR c).2)
end
mutual
theorem ABP (M:Nat):∀(b:AA) (c:Nat),(b.pv M c).2<=c+b.cnt/\((b.pv M c).1=I->(b.pv M c).2=c+b.cnt)/\((b.pv M c).1=I↔b.D8=I/\c+b.cnt<=20000/\M+b.nest<=101)
 | ⟨k,n,s,w,h,d,x,y,Q,o,src⟩,c=>by
   have z:=AJ9 (M+1) Q (c+1);simp only[AA.pv,AA.cnt,AA.D8,AA.nest];generalize hB:AA.Cl ⟨k,n,s,w,h,d,x,y,Q,o,src⟩=B;have hc:=Ud Q;split;rename_i H;refine⟨by simp only;omega,λh=>(by cases h),⟨λh=>(by cases h),λh=>?_⟩⟩;simp only[Ak]at h;rcases H with H|H|H
   omega;omega;rw[H]at h;cases h.1.1;rename_i H;have h1:B=true:=by cases B with
    | true=>rfl
    | false=>exact absurd (.inr (.inr F)) H
   refine⟨Ux,λh=>by have:=z.2.1 h;omega,?_⟩;rw[z.2.2,h1,Cd];have A0:M<=100:=Hq λh=>H (.inr (.inl h))
   have A1:c+1<=20000:=Hq λh=>H (.inl h)
   constructor;rintro ⟨R,S,q⟩;refine⟨R,?_,?_⟩;rcases S with S|rfl
   omega;simp only[AA.Az];omega;rcases q with rfl|q
   simp only[AA.Hk];omega;omega;rintro ⟨R,S,q⟩;exact⟨R,.inl Ux,.inr Ux⟩
theorem AJ9 (B:Nat):∀(l:List AA) (c:Nat),(AA.HU B l c).2<=c+AA.Az l/\((AA.HU B l c).1=I->(AA.HU B l c).2=c+AA.Az l)/\((AA.HU B l c).1=I↔AA.FU l=I/\(c+AA.Az l<=20000\/l=[])/\(l=[]\/B+AA.Hk l<=101))
 | [],c=>by simp[AA.HU,AA.Az,AA.FU]
 | b::l,c=>by
   have S:=ABP B b c;have o:=AJ9 B l (b.pv B c).2;have z:=wm b;simp only[AA.HU,AA.Az,AA.FU,AA.Hk];split;rename_i Q;have e:=S.2.1 Q;rw[e]at o;obtain⟨q,p2,p3⟩:=S.2.2.1 Q;rw[e];refine⟨Ux,λh=>by have:=o.2.1 h;omega,?_⟩;rw[o.2.2,q,Cd];constructor;rintro ⟨R,H,M⟩;refine⟨R,.inl ?_,.inr ?_⟩;rcases H with H|rfl
   omega;simp only[AA.Az];omega;rcases M with rfl|M
   simp only[AA.Hk];omega;omega;rintro ⟨R,H,M⟩;simp only[reduceCtorEq,Awj,false_or]at H M;exact⟨R,.inl Ux,.inr Ux⟩;rename_i Q;refine⟨by simp only;omega,λh=>(by cases h),⟨λh=>(by cases h),λh=>?_⟩⟩;simp only[Ak,reduceCtorEq,Awj,false_or]at h;exact absurd (S.2.2.2 ⟨h.1.1,Ux,Ux⟩) Q
end
theorem AXK :(b.pv 1 0).1=b.Ad:=by
 have h:=(ABP 1 b 0).2.2;unfold AA.Ad;rw[Oj,h];simp only[Ak,Awe];constructor;rintro ⟨a,b,c⟩;exact⟨a,Ux,Ux⟩;rintro ⟨a,b,c⟩;exact⟨a,Ux,Ux⟩
theorem ANx (s:ByteArray)(hs:s.size<=maxLen):AC AF 293 [.c (.str s)] (.c (.bool (Ck s))):=by
 unfold maxLen at hs;refine en func293 ntmps293 ?_;refine Ah ?_;refine CX (ι:={ k:Nat // k<=s.size/\s.data.toList.all Dx=(s.data.toList.drop k).all Dx }) (λk=>[(3,(k.1:Int)),(2,.c (.bool U))]) (λ_=>[]) (λk=>s.size - k.1) ⟨0,ZA⟩ ?_ ?_;exact DH;rintro ⟨k,hk,M⟩;by_cases B:k<s.size;have o:s.data.toList.drop k=(s.data[k]'B)::s.data.toList.drop (k+1):=by rw[D5 (by simpa using B)];simp
 rw[o,Ep]at M;obtain⟨b,Q⟩:=AI (s.data[k]'B);rw[Q]at M;have q:AZ.wrap ((k:Int)+1)=((k+1:Nat):Int):=by rw[Ac];simp
 by_cases H:(b.toNat:Int)<32;have e:Dx b=false:=by simp[Dx];omega
 refine go (cj2 @B @Q @H) ?_;exact At (cj3 Aiw @Ck.eq_1 @M @e);by_cases S:(126:Int)<(b.toNat:Int);have e:Dx b=false:=by simp[Dx];omega
 refine go (cj3 @B @Q @H @S) ?_;exact At (cj3 Aiw @Ck.eq_1 @M @e);have e:Dx b=true:=by simp[Dx];omega
 refine go (cj4 @B @Q @H @S @q) ?_;refine⟨⟨k+1,Ux,by rw[M,e,Cd]⟩,by simp only;omega,?_⟩;exact DH;have Hh:k=s.size:=Ux;have e:s.data.toList.all Dx=true:=by rw[M,FA (by simp;omega)];rfl
 have z:s.size=s.data.size:=F;by_cases H:(1:Int)<=(s.size:Int);have R:Ck s=decide ((s.size:Int)<=16):=by
  unfold Ck;rw[e,Cd,Awk (show 1<=s.size by omega),Cd,Awi];omega
 refine go (cj @B<|@H) ?_;exact At (cj Aiw<| @R);have R:Ck s=false:=by
  unfold Ck;rw[Awl (show ¬1<=s.size by omega),D4,LV]
 refine go (cj @B<|@H) ?_;exact At (cj Aiw<| @R)
theorem AIb (n:Nat)(h:n<=9223372036854775807):AZ.wrap ((n:Int).tmod 2)=((n % 2:Nat):Int):=by
 have B:(n:Int).tmod 2=((n % 2:Nat):Int):=by rw[Int.tmod_eq_emod_of_nonneg Ux];omega
 rw[B];exact Ac
theorem Zn (q b3 b4 b5 b6 b7:Int)(AE:List AA)(o:Int)(src:List Int)(hs:G src<=maxLen):AC AF 294 [.cp (AA.row ⟨b0,b1,q,b3,b4,b5,b6,b7,AE,o,src⟩) 0] (.c (.bool (AA.Js ⟨b0,b1,q,b3,b4,b5,b6,b7,AE,o,src⟩))):=by
 unfold maxLen at hs;have hR:AA.Js ⟨b0,b1,q,b3,b4,b5,b6,b7,AE,o,src⟩=(HT src && I7 o (G src)):=F;rw[hR];have R:=AIb (G src) hs;simp only[AA.row];refine en func294 ntmps294 ?_;refine go @AV.eq_1 ?_;refine CX (ι:={ k:Nat // k<=G src/\HT src=HT (src.drop k) }) (λk=>[(11,(k.1:Int)),(2,.c (.bool U))]) (λ_=>[]) (λk=>G src - k.1) ⟨0,ZA⟩ ?_ ?_;exact DH;rintro ⟨k,hk,Q⟩;by_cases B:k<G src;rw[D5 B]at Q;obtain⟨z,hz⟩:=AI (src[k]);rw[hz]at Q;have hw:AZ.wrap ((k:Int)+1)=((k+1:Nat):Int):=by rw[Ac];simp
 by_cases h1:z<0;have e:HT src=false:=by rw[Q];simp[HT];omega
 refine go (cj2 @B @hz @h1) ?_;exact At (cj ADP<| @e);have e:HT src=HT (src.drop (k+1)):=by rw[Q];simp[HT];intro;omega
 refine go (cj3 @B @hz @h1 @hw) ?_;refine⟨⟨k+1,Ux,e⟩,by simp only;omega,?_⟩;exact DH;have e:HT src=true:=by rw[Q,FA Ux];rfl
 by_cases o0:o=0;subst o0;have H:I7 0 (G src)=decide (G src=0):=F;refine go (cj @B<|@AV.eq_1) ?_;exact At (cj2 ADP @e @H);by_cases o1:o=1;subst o1;by_cases M:G src % 2=0;have H:I7 1 (G src)=decide ((G src:Int)<=48):=by simp[I7,M];omega
 refine go (cj3 @B @AV.eq_1 @R @M) ?_;exact At (cj2 ADP @e @H);have H:I7 1 (G src)=false:=by simp[I7,M]
 have S:G src % 2=1:=Ux;refine go (cj3 @B @AV.eq_1 @R @S) ?_;exact At (cj2 ADP @e @H);by_cases o2:o=2;subst o2;by_cases M:G src % 2=1;have H:I7 2 (G src)=decide ((G src:Int)<=49):=by simp[I7,M];omega
 refine go (cj3 @B @AV.eq_1 @R @M) ?_;exact At (cj2 ADP @e @H);have H:I7 2 (G src)=false:=by simp[I7,M]
 have S:G src % 2=0:=Ux;refine go (cj3 @B @AV.eq_1 @R @S) ?_;exact At (cj2 ADP @e @H);have H:I7 o (G src)=false:=by simp[I7,o0,o1,o2]
 refine go (cj4 @B @AV.eq_1 @o0 @o1 @o2) ?_;exact At (cj2 ADP @e @H)
theorem AP5 (S q b4 b5 b6 b7:Int)(AE:List AA)(o:Int)(src:List Int)(hs:G src<=maxLen):AC AF 287 [Ao ⟨b0,b1,S,q,b4,b5,b6,b7,AE,o,src⟩] (.c (.bool (AA.Js ⟨b0,b1,S,q,b4,b5,b6,b7,AE,o,src⟩))):=by
 unfold maxLen at hs;have hR:AA.Js ⟨b0,b1,S,q,b4,b5,b6,b7,AE,o,src⟩=(HT src && I7 o (G src)):=F;rw[hR];have hm:=AIb (G src) hs;simp only[Ao,AA.row,Ap,BB];obtain⟨BC,H⟩:∃BC,BC=([.c (.int .i64 b0),.c (.str b1),.c (.int .i64 S),.c (.int .i64 q),.c (.int .i64 b4),.c (.int .i64 b5),.c (.int .i64 b6),.c (.int .i64 b7),.c (.sl (AA.AG AE)),.c (.int .i64 o),.c (AV src)]:List V):=⟨_,rfl⟩
 refine en AKB ntmps287 ?_;refine go @AV.eq_1 ?_;refine CX (ι:={ k:Nat // k<=G src/\HT src=HT (src.drop k) }) (λk=>[(3,(k.1:Int)),(2,.c (.bool U))]) (λ_=>[.box 56 BC U]) (λk=>G src - k.1) ⟨0,ZA⟩ ?_ ?_;refine Le.MI 1 (F2 F) (by simp[DG,H,AV]) (by simp[H,AV]) (by simp[V.BI,V.A8]) (by simp[O.A8,V.BI,V.A8,H,AV]);rintro ⟨k,hk,R⟩;by_cases B:k<G src;rw[D5 B]at R;obtain⟨z,hz⟩:=AI (src[k]);rw[hz]at R;have hw:AZ.wrap ((k:Int)+1)=((k+1:Nat):Int):=by rw[Ac];simp
 by_cases h1:z<0;have e:HT src=false:=by rw[R];simp[HT];omega
 refine go (cj4 @H @AV.eq_1 @B @hz @h1) ?_;exact At (cj ADO<| @e);have e:HT src=HT (src.drop (k+1)):=by rw[R];simp[HT];intro;omega
 refine go (cj5 @H @AV.eq_1 @B @hz @h1 @hw) ?_;refine⟨⟨k+1,Ux,e⟩,by simp only;omega,?_⟩;refine Le.MI 1 (F2 F) (by simp[DG,H,AV]) (by simp[H,AV]) (by simp[V.BI,V.A8]) (by simp[O.A8,V.BI,V.A8,H,AV]);have e:HT src=true:=by rw[R,FA Ux];rfl
 by_cases o0:o=0;subst o0;have M:I7 0 (G src)=decide (G src=0):=F;refine go (cj2 @H @AV.eq_1 @B) ?_;exact At (cj2 ADO @e @M);by_cases o1:o=1;subst o1;by_cases Q:G src % 2=0;have M:I7 1 (G src)=decide ((G src:Int)<=48):=by simp[I7,Q];omega
 refine go (cj4 @H @AV.eq_1 @B @hm @Q) ?_;exact At (cj2 ADO @e @M);have M:I7 1 (G src)=false:=by simp[I7,Q]
 have U7:G src % 2=1:=Ux;refine go (cj4 @H @AV.eq_1 @B @hm @U7) ?_;exact At (cj2 ADO @e @M);by_cases o2:o=2;subst o2;by_cases Q:G src % 2=1;have M:I7 2 (G src)=decide ((G src:Int)<=49):=by simp[I7,Q];omega
 refine go (cj4 @H @AV.eq_1 @B @hm @Q) ?_;exact At (cj2 ADO @e @M);have M:I7 2 (G src)=false:=by simp[I7,Q]
 have U7:G src % 2=0:=Ux;refine go (cj4 @H @AV.eq_1 @B @hm @U7) ?_;exact At (cj2 ADO @e @M);have M:I7 o (G src)=false:=by simp[I7,o0,o1,o2]
 refine go (cj5 @H @AV.eq_1 @B @o0 @o1 @o2) ?_;exact At (cj2 ADO @e @M)
theorem Ahr : ∀(l:List AA) (k:Nat) (h:k<G l),AA.Az (l.take (k+1))=AA.Az (l.take k)+(l[k]).cnt
 | [],k,h=>by simp at h
 | b::l,0,h=>by simp[AA.Az]
 | b::l,k+1,h=>by simp only[DP,AA.Az,AkF];rw[Ahr l k (by simpa using h)];omega
theorem wq : ∀(l:List AA) (k:Nat),AA.Az (l.take k)<=AA.Az l
 | [],k=>by simp[AA.Az]
 | b::l,0=>by simp[AA.Az]
 | b::l,k+1=>by have:=wq l k;simp only[DP,AA.Az];omega
theorem AEv : ∀(l:List AA) (b:AA),b∈l->b.cnt<=AA.Az l
 | [],b,h=>by cases h
 | x::l,b,h=>by
   simp only[AA.Az];rcases Cf.1 h with rfl|h
   omega;have:=AEv l b h;omega
theorem AjL : ∀(l:List AA) (k:Nat) (h:k<G l),AA.Hk (l.take (k+1))=max (AA.Hk (l.take k)) (l[k]).nest
 | [],k,h=>by simp at h
 | b::l,0,h=>by simp[AA.Hk]
 | b::l,k+1,h=>by simp only[DP,AA.Hk,AkF];rw[AjL l k (by simpa using h)];omega
mutual
theorem AmH : ∀b:AA,b.nest<=b.cnt
 | ⟨_,_,_,_,_,_,_,_,B,_,_⟩=>by have:=AUX B;simp only[AA.nest,AA.cnt];omega
theorem AUX : ∀l:List AA,AA.Hk l<=AA.Az l
 | []=>BN _
 | b::l=>by have:=AmH b;have:=AUX l;simp only[AA.Hk,AA.Az];omega
end
theorem Amo (Q R S q z b7:Int)(AE:List AA)(o:Int)(src:List Int)(hc:AA.cnt ⟨b0,b1,Q,R,S,q,z,b7,AE,o,src⟩<=1000000)(ih : ∀c∈AE,AC AF 254 [Ao c] (c.cnt:Int)):AC AF 254 [Ao ⟨b0,b1,Q,R,S,q,z,b7,AE,o,src⟩] (AA.cnt ⟨b0,b1,Q,R,S,q,z,b7,AE,o,src⟩:Int):=by
 have hR:AA.cnt ⟨b0,b1,Q,R,S,q,z,b7,AE,o,src⟩=1+AA.Az AE:=F;rw[hR]at hc ⊢;have Ce:=Ud AE;simp only[Ao,AA.row,Ap,BB];rw[Dt];obtain⟨BC,B⟩:∃BC,BC=([.c (.int .i64 b0),.c (.str b1),.c (.int .i64 Q),.c (.int .i64 R),.c (.int .i64 S),.c (.int .i64 q),.c (.int .i64 z),.c (.int .i64 b7),.c (.sl (AE.map AA.row)),.c (.int .i64 o),.c (AV src)]:List V):=⟨_,rfl⟩
 refine en AcW ntmps254 ?_;refine Ah ?_;refine CX (ι:={ k:Nat // k<=G AE }) (λk=>[(3,((1+AA.Az (AE.take k.1):Nat):Int)),(4,(k.1:Int))]) (λ_=>[.box 56 BC U]) (λk=>G AE - k.1) ⟨0,ZA⟩ ?_ ?_;refine Le.MI 1 (F2 F) (by simp[DG,B,AV,AA.Az]) (by simp[B,AV,AA.Az]) (by simp[V.BI,V.A8]) (by simp[O.A8,V.BI,V.A8,B,AV,AA.Az]);rintro ⟨j,hj⟩;have Hx:=wq AE j;by_cases U4:j<G AE;obtain⟨c,H⟩:=AI (AE[j]);have Ax:=ih c (H ▸ Kq U4);have Av:G c.row=11:=by cases c;rfl
 have hw:AZ.wrap ((j:Int)+1)=((j+1:Nat):Int):=by rw[Ac];simp
 have ht:=Ahr AE j U4;rw[H]at ht;have A3:=wq AE (j+1);have A0:AZ.wrap (((1+AA.Az (AE.take j):Nat):Int)+(c.cnt:Int))=((1+AA.Az (AE.take (j+1)):Nat):Int):=by rw[Ac,ht];omega
 obtain⟨N,hN⟩:=AI c.cnt;obtain⟨M,hM⟩:∃M:Int,((1+AA.Az (AE.take j):Nat):Int)=M:=⟨_,rfl⟩
 rw[hN]at Ax;rw[hN,hM]at A0;rw[hM];obtain⟨ck,cn,cs,cw,ch,cd,cx,cy,A1,co,A2⟩:=c;simp only[Ao,AA.row,Ap,BB]at Ax;refine go (cj3 @B @U4 @H @AA.row.eq_1) ?_;refine gc @A0 (Ax) AcW ?_;refine go (cj @B<|@hw) ?_;refine⟨⟨j+1,Ux⟩,by simp only;omega,?_⟩;refine Le.MI 1 (F2 F) (by simp[DG,B,AV]) (by simp[B,AV]) (by simp[V.BI,V.A8]) (by simp[O.A8,V.BI,V.A8,B,AV]);have e:AE.take j=AE:=Gl Ux;rw[e];refine go (cj @B<|@U4) ?_;exact At results254
theorem Ajb : ∀(n:Nat) (b:AA),UF b<n->b.cnt<=1000000->AC AF 254 [Ao b] (b.cnt:Int)
 | 0,b,h,_=>absurd h Ux
 | n+1,⟨b0,b1,Q,R,S,q,z,b7,B,o,src⟩,hn,H=>by
   have hq:=H;simp only[AA.cnt]at hq;exact Amo b0 b1 Q R S q z b7 B o src H λc M=>Ajb n c (by
    have:=gD M;simp only[AA.mk.sizeOf_spec]at hn;omega) (by have:=AEv B c M;omega)
theorem Amn (h:b.cnt<=1000000):AC AF 254 [Ao b] (b.cnt:Int):=Ajb (UF b+1) b Ux h
theorem Am9 (Q R S q z b7:Int)(AE:List AA)(o:Int)(src:List Int)(hc:AA.cnt ⟨b0,b1,Q,R,S,q,z,b7,AE,o,src⟩<=1000000)(ih : ∀c∈AE,AC AF 255 [Ao c] (c.nest:Int)):AC AF 255 [Ao ⟨b0,b1,Q,R,S,q,z,b7,AE,o,src⟩] (AA.nest ⟨b0,b1,Q,R,S,q,z,b7,AE,o,src⟩:Int):=by
 have hR:AA.nest ⟨b0,b1,Q,R,S,q,z,b7,AE,o,src⟩=AA.Hk AE+1:=F;have jT:AA.cnt ⟨b0,b1,Q,R,S,q,z,b7,AE,o,src⟩=1+AA.Az AE:=F;rw[jT]at hc;rw[hR];have Ce:=Ud AE;have IJ:=AUX AE;simp only[Ao,AA.row,Ap,BB];rw[Dt];obtain⟨BC,B⟩:∃BC,BC=([.c (.int .i64 b0),.c (.str b1),.c (.int .i64 Q),.c (.int .i64 R),.c (.int .i64 S),.c (.int .i64 q),.c (.int .i64 z),.c (.int .i64 b7),.c (.sl (AE.map AA.row)),.c (.int .i64 o),.c (AV src)]:List V):=⟨_,rfl⟩
 refine en cf ntmps255 ?_;refine Ah ?_;refine CX (ι:={ k:Nat // k<=G AE }) (λk=>[(3,((AA.Hk (AE.take k.1):Nat):Int)),(4,(k.1:Int))]) (λ_=>[.box 56 BC U]) (λk=>G AE - k.1) ⟨0,ZA⟩ ?_ ?_;refine Le.MI 1 (F2 F) (by simp[DG,B,AV,AA.Hk]) (by simp[B,AV,AA.Hk]) (by simp[V.BI,V.A8]) (by simp[O.A8,V.BI,V.A8,B,AV,AA.Hk]);rintro ⟨j,hj⟩;by_cases U4:j<G AE;obtain⟨c,H⟩:=AI (AE[j]);have Ax:=ih c (H ▸ Kq U4);have Av:G c.row=11:=by cases c;rfl
 have hw:AZ.wrap ((j:Int)+1)=((j+1:Nat):Int):=by rw[Ac];simp
 have ht:=AjL AE j U4;rw[H]at ht;have A0:(if ((AA.Hk (AE.take j):Nat):Int)<(c.nest:Int)then(c.nest:Int)else((AA.Hk (AE.take j):Nat):Int))=((AA.Hk (AE.take (j+1)):Nat):Int):=by rw[ht];split<;>omega
 obtain⟨N,hN⟩:∃N:Int,(c.nest:Int)=N:=⟨_,rfl⟩
 obtain⟨M,hM⟩:∃M:Int,((AA.Hk (AE.take j):Nat):Int)=M:=⟨_,rfl⟩
 rw[hN]at Ax;rw[hN,hM]at A0;rw[hM];obtain⟨ck,cn,cs,cw,ch,cd,cx,cy,A1,co,A2⟩:=c;simp only[Ao,AA.row,Ap,BB]at Ax;refine go (cj3 @B @U4 @H @AA.row.eq_1) ?_;refine gc @A0 (Ax) cf ?_;refine go (cj @B<|@hw) ?_;refine⟨⟨j+1,Ux⟩,by simp only;omega,?_⟩;refine Le.MI 1 (F2 F) (by simp[DG,B,AV]) (by simp[B,AV]) (by simp[V.BI,V.A8]) (by simp[O.A8,V.BI,V.A8,B,AV]);have e:AE.take j=AE:=Gl Ux;have hw:AZ.wrap ((AA.Hk AE:Int)+1)=((AA.Hk AE+1:Nat):Int):=by rw[Ac];simp
 rw[e];refine go (cj2 @B @U4 @hw) ?_;exact At results255
theorem Ajj : ∀(n:Nat) (b:AA),UF b<n->b.cnt<=1000000->AC AF 255 [Ao b] (b.nest:Int)
 | 0,b,h,_=>absurd h Ux
 | n+1,⟨b0,b1,Q,R,S,q,z,b7,B,o,src⟩,hn,H=>by
   have hq:=H;simp only[AA.cnt]at hq;exact Am9 b0 b1 Q R S q z b7 B o src H λc M=>Ajj n c (by
    have:=gD M;simp only[AA.mk.sizeOf_spec]at hn;omega) (by have:=AEv B c M;omega)
theorem Am8 (h:b.cnt<=1000000):AC AF 255 [Ao b] (b.nest:Int):=Ajj (UF b+1) b Ux h
mutual
def AA.BX:AA->Prop
 | ⟨_,n,_,_,_,_,_,_,AE,_,src⟩=>n.size<=maxLen/\(G src)<=maxLen/\AA.FY AE
def AA.FY:List AA->Prop
 | []=>True
 | b::l=>b.BX/\AA.FY l
end
theorem kl : ∀ {l:List AA},AA.FY l->∀b∈l,b.BX
 | [],_,b,h=>by cases h
 | x::l,B,b,h=>by
   simp only[AA.FY]at B;rcases Cf.1 h with rfl|h
   exact B.1;exact kl B.2 b h
theorem AnH (H Q R S q b7:Int)(AE:List AA)(o:Int)(src:List Int)(hn:b1.size<=maxLen)(hs:G src<=maxLen)(Ce:G AE<=1000000)(ih : ∀c∈AE,AC AF 253 [Ao c] (.c (.bool c.D8))):AC AF 253 [Ao ⟨1,b1,H,Q,R,S,q,b7,AE,o,src⟩] (.c (.bool (AA.D8 ⟨1,b1,H,Q,R,S,q,b7,AE,o,src⟩))):=by
 have Gt:=AP5 (1) b1 H Q R S q b7 AE o src hs;obtain⟨SB,J5⟩:=AI (AA.Js ⟨1,b1,H,Q,R,S,q,b7,AE,o,src⟩);rw[J5]at Gt;obtain⟨KB,J4⟩:=AI (AA.Fi ⟨1,b1,H,Q,R,S,q,b7,AE,o,src⟩);obtain⟨L,hL⟩:∃L,L=[Q,R,S,q,b7]:=⟨_,rfl⟩
 have Io:G L=5:=by rw[hL];rfl
 have hR:AA.D8 ⟨1,b1,H,Q,R,S,q,b7,AE,o,src⟩=(L.all An && (KB && SB) && AA.FU AE):=by
  simp only[AA.D8,AA.Cl,J5,J4,AA.lens,hL]
 have A5:KB=AA.Fi ⟨1,b1,H,Q,R,S,q,b7,AE,o,src⟩:=J4.symm;rw[hR];simp only[Ao,AA.row,Ap,BB]at Gt;rw[Dt]at Gt;simp only[Ao,AA.row,Ap,BB];rw[Dt];obtain⟨BC,B⟩:∃BC,BC=([.c (.int .i64 1),.c (.str b1),.c (.int .i64 H),.c (.int .i64 Q),.c (.int .i64 R),.c (.int .i64 S),.c (.int .i64 q),.c (.int .i64 b7),.c (.sl (AE.map AA.row)),.c (.int .i64 o),.c (AV src)]:List V):=⟨_,rfl⟩
 refine en AIp AMG ?_;refine Ah ?_;refine CX (ι:={ k:Nat // k<=5/\L.all An=(L.drop k).all An }) (λk=>[(3,.Bg (L.map λn=>[.int .i64 n])),(4,(k.1:Int)),(2,.c (.bool U))]) (λ_=>[.box 56 BC U]) (λk=>5 - k.1) ⟨0,ZA⟩ ?_ ?_;refine Le.MI 1 (F2 F) (by simp[DG,B,AV,hL]) (by simp[B,AV,hL]) (by simp[V.BI,V.A8]) (by simp[O.A8,V.BI,V.A8,B,AV,hL]);rintro ⟨i,hi,hA⟩;by_cases A1:i<5;have Dn:i<G L:=Ux;have M:(i:Int)<5:=Ux;rw[D5 Dn,Ep]at hA;obtain⟨z,hz⟩:=AI (L[i]);rw[hz]at hA;have hw:AZ.wrap ((i:Int)+1)=((i+1:Nat):Int):=by rw[Ac];simp
 by_cases h1:z < -1073741824;have e:L.all An=false:=by rw[hA];simp[An];omega
 refine go (cj6 @B @Io @A1 @M @Dn @hz @h1) ?_;exact At (cj2 n5 @hR @e);by_cases h2:1073741824<z;have e:L.all An=false:=by rw[hA];simp[An];omega
 refine go (cj7 @B @Io @A1 @M @Dn @hz @h1 @h2) ?_;exact At (cj2 n5 @hR @e);have e:L.all An=(L.drop (i+1)).all An:=by
  have:An z=true:=by simp[An];omega
  rw[hA,this,Cd]
 refine go (cj8 @B @Io @A1 @M @Dn @hz @h1 @h2 @hw) ?_;refine⟨⟨i+1,Ux,e⟩,by simp only;omega,?_⟩;refine Le.MI 1 (F2 F) (by simp[DG,B,AV]) (by simp[B,AV]) (by simp[V.BI,V.A8]) (by simp[O.A8,V.BI,V.A8,B,AV]);have Au:L.all An=true:=by rw[hA,FA Ux];rfl
 have M : ¬(i:Int)<5:=Ux;have hA:=Au;have Hy:=XN b1 hn;have LB:KB=(Ck b1 && (decide (1<=H) && (decide (H<=1000) && decide (G AE=0)))):=A5;cases II:Ck b1 with
 | false=>rw[II]at Hy LB;have hK:KB=false:=LB;refine go (cj2 @B @Io @M) ?_;refine BZ (Hy) my ?_;refine Ah ?_;exact At (cj2 n5 @hR @hK)
 | true =>
   rw[II]at Hy LB;by_cases s1:H<1;have hK:KB=false:=by rw[LB];simp;omega
   refine go (cj2 @B @Io @M) ?_;refine gc (cj @B<|@s1) (Hy) my ?_;refine Ah ?_;exact At (cj2 n5 @hR @hK);by_cases s2:1000<H;have hK:KB=false:=by rw[LB];simp;omega
   refine go (cj2 @B @Io @M) ?_;refine gc (cj2 @B @s1 @s2) (Hy) my ?_;refine Ah ?_;exact At (cj2 n5 @hR @hK);by_cases s3:0<G AE;have hK:KB=false:=by rw[LB];simp;intro _ _ h;rw[h]at s3;simp at s3
   refine go (cj2 @B @Io @M) ?_;refine gc (cj3 @B @s1 @s2 @s3) (Hy) my ?_;refine Ah ?_;exact At (cj2 n5 @hR @hK);have hK:KB=true:=by rw[LB];simp;exact⟨Ux,Ux,Nr Ux⟩
   refine go (cj2 @B @Io @M) ?_;refine gc (cj3 @B @s1 @s2 @s3) (Hy) my ?_;refine go (cj @B<|@AV.eq_1) ?_;refine CX (ι:={ k:Nat // k<=G AE/\AA.FU AE=AA.FU (AE.drop k) }) (λk=>[(5,(k.1:Int)),(2,.c (.bool U))]) (λ_=>[.box 56 BC U]) (λk=>G AE - k.1) ⟨0,ZA⟩ ?_ ?_;refine Le.MI 1 (F2 F) (by simp[DG,B,AV]) (by simp[B,AV]) (by simp[V.BI,V.A8]) (by simp[O.A8,V.BI,V.A8,B,AV]);rintro ⟨j,hj,hI⟩;by_cases U4:j<G AE;rw[D5 U4]at hI;obtain⟨c,A0⟩:=AI (AE[j]);rw[A0]at hI;simp only[AA.FU]at hI;have Ax:=ih c (A0 ▸ Kq U4);have hw:AZ.wrap ((j:Int)+1)=((j+1:Nat):Int):=by rw[Ac];simp
   cases hp:c.D8 with
   | false =>
     rw[hp]at Ax hI;have e:AA.FU AE=false:=by rw[hI];rfl
     obtain⟨ck,cn,cs,cw,ch,cd,cx,cy,A2,co,A3⟩:=c;simp only[Ao,AA.row,Ap,BB]at Ax;refine go (cj3 @B @U4 @A0 @AA.row.eq_1) ?_;refine BZ (Ax) AIp ?_;refine go @B ?_;exact At (cj2 n5 @hR @e)
   | true =>
     rw[hp]at Ax hI;have e:AA.FU AE=AA.FU (AE.drop (j+1)):=by rw[hI];rfl
     obtain⟨ck,cn,cs,cw,ch,cd,cx,cy,A2,co,A3⟩:=c;simp only[Ao,AA.row,Ap,BB]at Ax;refine go (cj3 @B @U4 @A0 @AA.row.eq_1) ?_;refine BZ (Ax) AIp ?_;refine go (cj @B<|@hw) ?_;refine⟨⟨j+1,Ux,e⟩,by simp only;omega,?_⟩;refine Le.MI 1 (F2 F) (by simp[DG,B,AV]) (by simp[B,AV]) (by simp[V.BI,V.A8]) (by simp[O.A8,V.BI,V.A8,B,AV])
   have e:AA.FU AE=true:=by rw[hI,FA Ux];rfl
   refine go (cj @B<|@U4) ?_;refine BZ (Gt) AKB ?_;refine Ah ?_;exact At (cj4 n5 @hR @e @hK @hA)
theorem AnI (H M Q R S q:Int)(AE:List AA)(o:Int)(src:List Int)(hn:b1.size<=maxLen)(hs:G src<=maxLen)(Ce:G AE<=1000000)(ih : ∀c∈AE,AC AF 253 [Ao c] (.c (.bool c.D8))):AC AF 253 [Ao ⟨2,b1,H,M,Q,R,S,q,AE,o,src⟩] (.c (.bool (AA.D8 ⟨2,b1,H,M,Q,R,S,q,AE,o,src⟩))):=by
 have Gt:=AP5 (2) b1 H M Q R S q AE o src hs;obtain⟨SB,J5⟩:=AI (AA.Js ⟨2,b1,H,M,Q,R,S,q,AE,o,src⟩);rw[J5]at Gt;obtain⟨KB,J4⟩:=AI (AA.Fi ⟨2,b1,H,M,Q,R,S,q,AE,o,src⟩);obtain⟨L,hL⟩:∃L,L=[M,Q,R,S,q]:=⟨_,rfl⟩
 have Io:G L=5:=by rw[hL];rfl
 have hR:AA.D8 ⟨2,b1,H,M,Q,R,S,q,AE,o,src⟩=(L.all An && (KB && SB) && AA.FU AE):=by
  simp only[AA.D8,AA.Cl,J5,J4,AA.lens,hL]
 have A1:KB=AA.Fi ⟨2,b1,H,M,Q,R,S,q,AE,o,src⟩:=J4.symm;rw[hR];simp only[Ao,AA.row,Ap,BB]at Gt;rw[Dt]at Gt;simp only[Ao,AA.row,Ap,BB];rw[Dt];obtain⟨BC,B⟩:∃BC,BC=([.c (.int .i64 2),.c (.str b1),.c (.int .i64 H),.c (.int .i64 M),.c (.int .i64 Q),.c (.int .i64 R),.c (.int .i64 S),.c (.int .i64 q),.c (.sl (AE.map AA.row)),.c (.int .i64 o),.c (AV src)]:List V):=⟨_,rfl⟩
 refine en AIp AMG ?_;refine Ah ?_;refine CX (ι:={ k:Nat // k<=5/\L.all An=(L.drop k).all An }) (λk=>[(3,.Bg (L.map λn=>[.int .i64 n])),(4,(k.1:Int)),(2,.c (.bool U))]) (λ_=>[.box 56 BC U]) (λk=>5 - k.1) ⟨0,ZA⟩ ?_ ?_;refine Le.MI 1 (F2 F) (by simp[DG,B,AV,hL]) (by simp[B,AV,hL]) (by simp[V.BI,V.A8]) (by simp[O.A8,V.BI,V.A8,B,AV,hL]);rintro ⟨i,hi,hA⟩;by_cases A2:i<5;have Dn:i<G L:=Ux;have BD:(i:Int)<5:=Ux;rw[D5 Dn,Ep]at hA;obtain⟨z,hz⟩:=AI (L[i]);rw[hz]at hA;have hw:AZ.wrap ((i:Int)+1)=((i+1:Nat):Int):=by rw[Ac];simp
 by_cases h1:z < -1073741824;have e:L.all An=false:=by rw[hA];simp[An];omega
 refine go (cj6 @B @Io @A2 @BD @Dn @hz @h1) ?_;exact At (cj2 n5 @hR @e);by_cases h2:1073741824<z;have e:L.all An=false:=by rw[hA];simp[An];omega
 refine go (cj7 @B @Io @A2 @BD @Dn @hz @h1 @h2) ?_;exact At (cj2 n5 @hR @e);have e:L.all An=(L.drop (i+1)).all An:=by
  have:An z=true:=by simp[An];omega
  rw[hA,this,Cd]
 refine go (cj8 @B @Io @A2 @BD @Dn @hz @h1 @h2 @hw) ?_;refine⟨⟨i+1,Ux,e⟩,by simp only;omega,?_⟩;refine Le.MI 1 (F2 F) (by simp[DG,B,AV]) (by simp[B,AV]) (by simp[V.BI,V.A8]) (by simp[O.A8,V.BI,V.A8,B,AV]);have Au:L.all An=true:=by rw[hA,FA Ux];rfl
 have BD : ¬(i:Int)<5:=Ux;have hA:=Au;by_cases n1:b1=⟨#[]⟩
 by_cases s0:H=0;subst n1 s0;by_cases s3:0<G AE;have hK:KB=false:=by rw[A1];simp[AA.Fi];intro h;rw[h]at s3;simp at s3
 refine go (cj3 @B @Io @BD @s3) ?_;exact At (cj2 n5 @hR @hK);have hK:KB=true:=by rw[A1];simp[AA.Fi];exact Nr Ux
 refine go (cj4 @B @AV.eq_1 @Io @BD @s3) ?_;refine CX (ι:={ k:Nat // k<=G AE/\AA.FU AE=AA.FU (AE.drop k) }) (λk=>[(5,(k.1:Int)),(2,.c (.bool U))]) (λ_=>[.box 56 BC U]) (λk=>G AE - k.1) ⟨0,ZA⟩ ?_ ?_;refine Le.MI 1 (F2 F) (by simp[DG,B,AV]) (by simp[B,AV]) (by simp[V.BI,V.A8]) (by simp[O.A8,V.BI,V.A8,B,AV]);rintro ⟨j,hj,hI⟩;by_cases U4:j<G AE;rw[D5 U4]at hI;obtain⟨c,A0⟩:=AI (AE[j]);rw[A0]at hI;simp only[AA.FU]at hI;have Ax:=ih c (A0 ▸ Kq U4);have hw:AZ.wrap ((j:Int)+1)=((j+1:Nat):Int):=by rw[Ac];simp
 cases hp:c.D8 with
 | false =>
   rw[hp]at Ax hI;have e:AA.FU AE=false:=by rw[hI];rfl
   obtain⟨ck,cn,cs,cw,ch,cd,cx,cy,A3,co,A5⟩:=c;simp only[Ao,AA.row,Ap,BB]at Ax;refine go (cj3 @B @U4 @A0 @AA.row.eq_1) ?_;refine BZ (Ax) AIp ?_;refine go @B ?_;exact At (cj2 n5 @hR @e)
 | true =>
   rw[hp]at Ax hI;have e:AA.FU AE=AA.FU (AE.drop (j+1)):=by rw[hI];rfl
   obtain⟨ck,cn,cs,cw,ch,cd,cx,cy,A3,co,A5⟩:=c;simp only[Ao,AA.row,Ap,BB]at Ax;refine go (cj3 @B @U4 @A0 @AA.row.eq_1) ?_;refine BZ (Ax) AIp ?_;refine go (cj @B<|@hw) ?_;refine⟨⟨j+1,Ux,e⟩,by simp only;omega,?_⟩;refine Le.MI 1 (F2 F) (by simp[DG,B,AV]) (by simp[B,AV]) (by simp[V.BI,V.A8]) (by simp[O.A8,V.BI,V.A8,B,AV])
 have e:AA.FU AE=true:=by rw[hI,FA Ux];rfl
 refine go (cj @B<|@U4) ?_;refine BZ (Gt) AKB ?_;refine Ah ?_;exact At (cj4 n5 @hR @e @hK @hA);have hK:KB=false:=by rw[A1];simp[AA.Fi,s0]
 subst n1;refine go (cj3 @B @Io @BD @s0) ?_;exact At (cj2 n5 @hR @hK);have hK:KB=false:=by rw[A1];simp[AA.Fi,n1]
 refine go (cj3 @B @Io @BD @n1) ?_;exact At (cj2 n5 @hR @hK)
theorem AnJ (H M Q R S q:Int)(AE:List AA)(o:Int)(src:List Int)(hn:b1.size<=maxLen)(hs:G src<=maxLen)(Ce:G AE<=1000000)(ih : ∀c∈AE,AC AF 253 [Ao c] (.c (.bool c.D8))):AC AF 253 [Ao ⟨3,b1,H,M,Q,R,S,q,AE,o,src⟩] (.c (.bool (AA.D8 ⟨3,b1,H,M,Q,R,S,q,AE,o,src⟩))):=by
 have Gt:=AP5 (3) b1 H M Q R S q AE o src hs;obtain⟨SB,J5⟩:=AI (AA.Js ⟨3,b1,H,M,Q,R,S,q,AE,o,src⟩);rw[J5]at Gt;obtain⟨KB,J4⟩:=AI (AA.Fi ⟨3,b1,H,M,Q,R,S,q,AE,o,src⟩);obtain⟨L,hL⟩:∃L,L=[M,Q,R,S,q]:=⟨_,rfl⟩
 have Io:G L=5:=by rw[hL];rfl
 have hR:AA.D8 ⟨3,b1,H,M,Q,R,S,q,AE,o,src⟩=(L.all An && (KB && SB) && AA.FU AE):=by
  simp only[AA.D8,AA.Cl,J5,J4,AA.lens,hL]
 have A1:KB=AA.Fi ⟨3,b1,H,M,Q,R,S,q,AE,o,src⟩:=J4.symm;rw[hR];simp only[Ao,AA.row,Ap,BB]at Gt;rw[Dt]at Gt;simp only[Ao,AA.row,Ap,BB];rw[Dt];obtain⟨BC,B⟩:∃BC,BC=([.c (.int .i64 3),.c (.str b1),.c (.int .i64 H),.c (.int .i64 M),.c (.int .i64 Q),.c (.int .i64 R),.c (.int .i64 S),.c (.int .i64 q),.c (.sl (AE.map AA.row)),.c (.int .i64 o),.c (AV src)]:List V):=⟨_,rfl⟩
 refine en AIp AMG ?_;refine Ah ?_;refine CX (ι:={ k:Nat // k<=5/\L.all An=(L.drop k).all An }) (λk=>[(3,.Bg (L.map λn=>[.int .i64 n])),(4,(k.1:Int)),(2,.c (.bool U))]) (λ_=>[.box 56 BC U]) (λk=>5 - k.1) ⟨0,ZA⟩ ?_ ?_;refine Le.MI 1 (F2 F) (by simp[DG,B,AV,hL]) (by simp[B,AV,hL]) (by simp[V.BI,V.A8]) (by simp[O.A8,V.BI,V.A8,B,AV,hL]);rintro ⟨i,hi,hA⟩;by_cases A2:i<5;have Dn:i<G L:=Ux;have BD:(i:Int)<5:=Ux;rw[D5 Dn,Ep]at hA;obtain⟨z,hz⟩:=AI (L[i]);rw[hz]at hA;have hw:AZ.wrap ((i:Int)+1)=((i+1:Nat):Int):=by rw[Ac];simp
 by_cases h1:z < -1073741824;have e:L.all An=false:=by rw[hA];simp[An];omega
 refine go (cj6 @B @Io @A2 @BD @Dn @hz @h1) ?_;exact At (cj2 n5 @hR @e);by_cases h2:1073741824<z;have e:L.all An=false:=by rw[hA];simp[An];omega
 refine go (cj7 @B @Io @A2 @BD @Dn @hz @h1 @h2) ?_;exact At (cj2 n5 @hR @e);have e:L.all An=(L.drop (i+1)).all An:=by
  have:An z=true:=by simp[An];omega
  rw[hA,this,Cd]
 refine go (cj8 @B @Io @A2 @BD @Dn @hz @h1 @h2 @hw) ?_;refine⟨⟨i+1,Ux,e⟩,by simp only;omega,?_⟩;refine Le.MI 1 (F2 F) (by simp[DG,B,AV]) (by simp[B,AV]) (by simp[V.BI,V.A8]) (by simp[O.A8,V.BI,V.A8,B,AV]);have Au:L.all An=true:=by rw[hA,FA Ux];rfl
 have BD : ¬(i:Int)<5:=Ux;have hA:=Au;by_cases n1:b1=⟨#[]⟩
 by_cases s0:H=0;subst n1 s0;have hK:KB=true:=by rw[A1];simp[AA.Fi]
 refine go (cj3 @B @AV.eq_1 @Io @BD) ?_;refine CX (ι:={ k:Nat // k<=G AE/\AA.FU AE=AA.FU (AE.drop k) }) (λk=>[(5,(k.1:Int)),(2,.c (.bool U))]) (λ_=>[.box 56 BC U]) (λk=>G AE - k.1) ⟨0,ZA⟩ ?_ ?_;refine Le.MI 1 (F2 F) (by simp[DG,B,AV]) (by simp[B,AV]) (by simp[V.BI,V.A8]) (by simp[O.A8,V.BI,V.A8,B,AV]);rintro ⟨j,hj,hI⟩;by_cases U4:j<G AE;rw[D5 U4]at hI;obtain⟨c,A0⟩:=AI (AE[j]);rw[A0]at hI;simp only[AA.FU]at hI;have Ax:=ih c (A0 ▸ Kq U4);have hw:AZ.wrap ((j:Int)+1)=((j+1:Nat):Int):=by rw[Ac];simp
 cases hp:c.D8 with
 | false =>
   rw[hp]at Ax hI;have e:AA.FU AE=false:=by rw[hI];rfl
   obtain⟨ck,cn,cs,cw,ch,cd,cx,cy,A3,co,A5⟩:=c;simp only[Ao,AA.row,Ap,BB]at Ax;refine go (cj3 @B @U4 @A0 @AA.row.eq_1) ?_;refine BZ (Ax) AIp ?_;refine go @B ?_;exact At (cj2 n5 @hR @e)
 | true =>
   rw[hp]at Ax hI;have e:AA.FU AE=AA.FU (AE.drop (j+1)):=by rw[hI];rfl
   obtain⟨ck,cn,cs,cw,ch,cd,cx,cy,A3,co,A5⟩:=c;simp only[Ao,AA.row,Ap,BB]at Ax;refine go (cj3 @B @U4 @A0 @AA.row.eq_1) ?_;refine BZ (Ax) AIp ?_;refine go (cj @B<|@hw) ?_;refine⟨⟨j+1,Ux,e⟩,by simp only;omega,?_⟩;refine Le.MI 1 (F2 F) (by simp[DG,B,AV]) (by simp[B,AV]) (by simp[V.BI,V.A8]) (by simp[O.A8,V.BI,V.A8,B,AV])
 have e:AA.FU AE=true:=by rw[hI,FA Ux];rfl
 refine go (cj @B<|@U4) ?_;refine BZ (Gt) AKB ?_;refine Ah ?_;exact At (cj4 n5 @hR @e @hK @hA);have hK:KB=false:=by rw[A1];simp[AA.Fi,s0]
 subst n1;refine go (cj3 @B @Io @BD @s0) ?_;exact At (cj2 n5 @hR @hK);have hK:KB=false:=by rw[A1];simp[AA.Fi,n1]
 refine go (cj3 @B @Io @BD @n1) ?_;exact At (cj2 n5 @hR @hK)
theorem AnK (q H M Q R S:Int)(AE:List AA)(o:Int)(src:List Int)(k1 : ¬b0=1)(k2 : ¬b0=2)(k3 : ¬b0=3)(hn:b1.size<=maxLen)(hs:G src<=maxLen)(Ce:G AE<=1000000)(ih : ∀c∈AE,AC AF 253 [Ao c] (.c (.bool c.D8))):AC AF 253 [Ao ⟨b0,b1,q,H,M,Q,R,S,AE,o,src⟩] (.c (.bool (AA.D8 ⟨b0,b1,q,H,M,Q,R,S,AE,o,src⟩))):=by
 have Gt:=AP5 b0 b1 q H M Q R S AE o src hs;obtain⟨SB,J5⟩:=AI (AA.Js ⟨b0,b1,q,H,M,Q,R,S,AE,o,src⟩);rw[J5]at Gt;obtain⟨KB,J4⟩:=AI (AA.Fi ⟨b0,b1,q,H,M,Q,R,S,AE,o,src⟩);obtain⟨L,hL⟩:∃L,L=[H,M,Q,R,S]:=⟨_,rfl⟩
 have Io:G L=5:=by rw[hL];rfl
 have hR:AA.D8 ⟨b0,b1,q,H,M,Q,R,S,AE,o,src⟩=(L.all An && (KB && SB) && AA.FU AE):=by
  simp only[AA.D8,AA.Cl,J5,J4,AA.lens,hL]
 have A1:KB=AA.Fi ⟨b0,b1,q,H,M,Q,R,S,AE,o,src⟩:=J4.symm;rw[hR];simp only[Ao,AA.row,Ap,BB]at Gt;rw[Dt]at Gt;simp only[Ao,AA.row,Ap,BB];rw[Dt];obtain⟨BC,B⟩:∃BC,BC=([.c (.int .i64 b0),.c (.str b1),.c (.int .i64 q),.c (.int .i64 H),.c (.int .i64 M),.c (.int .i64 Q),.c (.int .i64 R),.c (.int .i64 S),.c (.sl (AE.map AA.row)),.c (.int .i64 o),.c (AV src)]:List V):=⟨_,rfl⟩
 refine en AIp AMG ?_;refine Ah ?_;refine CX (ι:={ k:Nat // k<=5/\L.all An=(L.drop k).all An }) (λk=>[(3,.Bg (L.map λn=>[.int .i64 n])),(4,(k.1:Int)),(2,.c (.bool U))]) (λ_=>[.box 56 BC U]) (λk=>5 - k.1) ⟨0,ZA⟩ ?_ ?_;refine Le.MI 1 (F2 F) (by simp[DG,B,AV,hL]) (by simp[B,AV,hL]) (by simp[V.BI,V.A8]) (by simp[O.A8,V.BI,V.A8,B,AV,hL]);rintro ⟨i,hi,hA⟩;by_cases A0:i<5;have Dn:i<G L:=Ux;have BD:(i:Int)<5:=Ux;rw[D5 Dn,Ep]at hA;obtain⟨z,hz⟩:=AI (L[i]);rw[hz]at hA;have hw:AZ.wrap ((i:Int)+1)=((i+1:Nat):Int):=by rw[Ac];simp
 by_cases h1:z < -1073741824;have e:L.all An=false:=by rw[hA];simp[An];omega
 refine go (cj6 @B @Io @A0 @BD @Dn @hz @h1) ?_;exact At (cj2 n5 @hR @e);by_cases h2:1073741824<z;have e:L.all An=false:=by rw[hA];simp[An];omega
 refine go (cj7 @B @Io @A0 @BD @Dn @hz @h1 @h2) ?_;exact At (cj2 n5 @hR @e);have e:L.all An=(L.drop (i+1)).all An:=by
  have:An z=true:=by simp[An];omega
  rw[hA,this,Cd]
 refine go (cj8 @B @Io @A0 @BD @Dn @hz @h1 @h2 @hw) ?_;refine⟨⟨i+1,Ux,e⟩,by simp only;omega,?_⟩;refine Le.MI 1 (F2 F) (by simp[DG,B,AV]) (by simp[B,AV]) (by simp[V.BI,V.A8]) (by simp[O.A8,V.BI,V.A8,B,AV]);have Au:L.all An=true:=by rw[hA,FA Ux];rfl
 have BD : ¬(i:Int)<5:=Ux;have hA:=Au;have hK:KB=false:=by rw[A1];simp[AA.Fi,k1,k2,k3]
 refine go (cj5 @B @Io @BD @k1 @k2 @k3) ?_;exact At (cj2 n5 @hR @hK)
theorem AnL (B H M Q R S:Int)(AE:List AA)(o:Int)(src:List Int)(z:b1.size<=maxLen)(hs:G src<=maxLen)(q:G AE<=1000000)(ih : ∀c∈AE,AC AF 253 [Ao c] (.c (.bool c.D8))):AC AF 253 [Ao ⟨b0,b1,B,H,M,Q,R,S,AE,o,src⟩] (.c (.bool (AA.D8 ⟨b0,b1,B,H,M,Q,R,S,AE,o,src⟩))):=by
 by_cases k1:b0=1;subst k1;exact AnH b1 B H M Q R S AE o src z hs q ih;by_cases k2:b0=2;subst k2;exact AnI b1 B H M Q R S AE o src z hs q ih;by_cases k3:b0=3;subst k3;exact AnJ b1 B H M Q R S AE o src z hs q ih;exact AnK b0 b1 B H M Q R S AE o src k1 k2 k3 z hs q ih
theorem Ajm : ∀(n:Nat) (b:AA),UF b<n->b.BX/\b.cnt<=1000000->AC AF 253 [Ao b] (.c (.bool b.D8))
 | 0,b,h,_=>absurd h Ux
 | n+1,⟨b0,b1,Q,R,S,q,z,b7,H,o,src⟩,hn,B=>by
   have hq:=B.2;simp only[AA.cnt]at hq;have hl:=Ud H;exact AnL b0 b1 Q R S q z b7 H o src B.1.1 B.1.2.1 Ux λc M=>Ajm n c (by
    have:=gD M;simp only[AA.mk.sizeOf_spec]at hn;omega) ⟨kl B.1.2.2 c M,by have:=AEv H c M;omega⟩
theorem AnG (h:b.BX/\b.cnt<=1000000):AC AF 253 [Ao b] (.c (.bool b.D8)):=Ajm (UF b+1) b Ux h
theorem m7 (ho:b.BX)(S:b.cnt<=1000000):AC AF 202 [Ao b] (.c (.bool b.Ad)):=by
 have B:=AnG b ⟨ho,S⟩;have H:=Amn b S;have R:=Am8 b S;have hR:b.Ad=(b.D8 && (decide ((b.cnt:Int)<=20000) && decide ((b.nest:Int)<=100))):=by
  unfold AA.Ad;congr 2<;>rw[Awi]<;>omega
 rw[hR];obtain⟨N,hN⟩:∃N:Int,(b.cnt:Int)=N:=⟨_,rfl⟩
 obtain⟨M,hM⟩:∃M:Int,(b.nest:Int)=M:=⟨_,rfl⟩
 rw[hN]at H ⊢;rw[hM]at R ⊢;cases q:b.D8 with
 | false=>rw[q]at B;obtain⟨b0,b1,b2,b3,b4,b5,b6,b7,z,o,src⟩:=b;simp only[Ao,AA.row,Ap,BB]at B H R ⊢;refine en Xk ntmps202 ?_;refine Ah ?_;refine BZ (B) AIp ?_;refine Ah ?_;exact At Aku
 | true =>
   rw[q]at B;obtain⟨b0,b1,b2,b3,b4,b5,b6,b7,z,o,src⟩:=b;simp only[Ao,AA.row,Ap,BB]at B H R ⊢;by_cases Q:N<=20000;refine en Xk ntmps202 ?_;refine Ah ?_;refine BZ (B) AIp ?_;refine gc @Q (H) AcW ?_;refine BZ (R) cf ?_;refine Ah ?_;exact At (cj Aku<| @Q);refine en Xk ntmps202 ?_;refine Ah ?_;refine BZ (B) AIp ?_;refine gc @Q (H) AcW ?_;refine Ah ?_;exact At (cj Aku<| @Q)
end Go.Proofs.YtegconioojpgmaaGreat
