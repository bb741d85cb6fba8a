/- Part of the proof of breakpointLength.proved. Conditions: none. (Joined and shortened by a program.) -/
import Derived.Test.YtpodcjcajanldaaGreatP6
import Derived.Test.YtpodcjcajanldaaGreatP7
set_option linter.unusedVariables false
set_option linter.unusedSimpArgs false
set_option maxRecDepth 100000
set_option maxHeartbeats 16000000
open Bool renaming and_eq_true→An
open List renaming mem_cons→Cb,length_cons→BQ,cons_append→Bg
open Option.some renaming injEq→BE
open Int renaming mul_comm→Z4
namespace Go.Proofs.YtpodcjcajanldaaGreat
open Go.RowKit
def IE (f:AI)(p:Int):Int:=if f.valid=false then 1 else if p<1\/100<p then 2 else 0
def times (r:Int)(q:Part):Int:=if q.ext=true then r else 1
def Ll (f:AI)(r:Int):Int->Int->List Part->Int×Int
 | h,c,[]=>(h,c)
 | h,c,q::l=>Ll f r (h+times r q*(f.pick q.name).Ch) (c+times r q) l
def KX (f:AI)(s:A6)(r:Int):Int:=(Ll f r 0 0 s.parts).1 - ((Ll f r 0 0 s.parts).2 - 1)*s.CX
def VK (f:AI)(name:ByteArray)(p:Int):Int:=(Ge (f.pick name) p).1.h+(Ge (f.pick name) p).1.d
structure Choice where
 J7:ByteArray
 Iy:Int
theorem AGi {g:Ag}(h:GK g=true):g.Small:=by
 simp[GK,Bn]at h;unfold Ag.Small;omega
theorem AUG (name:ByteArray):({ Ag.zero with name:=name }:Ag).Small:=by simp[Ag.Small,Ag.zero]
theorem ABP : ∀(l seen:List Ag),HH seen l=true->∀g∈l,GK g=true
 | [],_,_,g,hg=>by cases hg
 | x::r,seen,h,g,hg=>by
   simp only[HH,An]at h;rcases Cb.1 hg with rfl|hg
   . exact h.1.1
   . exact ABP r _ h.2 g hg
theorem AGz (ht:ByteArray->Option Int):∀(l seen:List A6),Mf ht seen l=true->∀s∈l,Hd ht s=true
 | [],_,_,g,hg=>by cases hg
 | x::r,seen,h,g,hg=>by
   simp only[Mf,An]at h;rcases Cb.1 hg with rfl|hg
   . exact h.1.1
   . exact AGz ht r _ h.2 g hg
theorem X4 {f:AI}(h:f.valid=true):∀g∈f.CO,GK g=true:=by
 simp only[AI.valid,An]at h;exact ABP _ _ h.2.1
theorem PH {f:AI}(h:f.valid=true)(name:ByteArray):(f.pick name).Small:=by
 unfold AI.pick;cases h1:f.find name with
 | some g=>exact AGi (X4 h g (Yp h1))
 | none =>
   cases h2:f.find ⟨#[63]⟩with
   | some g=>exact AGi (X4 h g (Yp h2))
   | none=>exact AUG name
theorem X5 {f:AI}(h:f.valid=true):∀s∈f.CD,Hd f.ht s=true:=by
 simp only[AI.valid,An]at h;exact AGz _ _ _ h.2.2
theorem Qm {name:ByteArray}{s:A6} : ∀ {l:List A6},VN name l=some s->s∈l/\s.name=name
 | [],h=>by simp[VN]at h
 | x::r,h=>by
   simp only[VN]at h;split at h
   . simp only[BE]at h;subst h;exact⟨by simp,by assumption⟩
   . have:=Qm h;exact⟨List.mem_cons_of_mem _ this.1,this.2⟩
theorem AEd (ht:ByteArray->Option Int):∀(l:List Part) (a:Int) (e:Bool) (b:Int) (e':Bool),Gb ht a e l=some (b,e')->b<=a/\∀q∈l,∃h,ht q.name=some h/\b<=h
 | [],a,e,b,e',h=>by simp[Gb]at h;exact⟨by omega,by simp⟩
 | q::r,a,e,b,e',h=>by
   simp only[Gb]at h;cases hq:ht q.name with
   | none=>rw[hq]at h;cases h
   | some y =>
     rw[hq]at h;obtain⟨h1,h2⟩:=AEd ht r _ _ b e' h;have hb:b<=a/\b<=y:=by split at h1<;>omega
     refine⟨hb.1,fun x hx=>?_⟩;rcases Cb.1 hx with rfl|hx
     . exact⟨y,hq,hb.2⟩
     . exact h2 x hx
structure AIh (f:AI)(s:A6):Prop where
 AGQ:1<=s.Bb.length
 AGR:s.Bb.length<=16
 parts:s.parts.length<=8
 AXa:0<=s.CX
 AXb:s.CX<=60000
 AYa : ∀q∈s.parts,s.CX<(f.pick q.name).Ch
theorem ANm {f:AI}{name:ByteArray}{h:Int}(e:f.ht name=some h):(f.pick name).Ch=h:=by
 simp only[AI.ht,Option.map_eq_some_iff]at e;obtain⟨g,hg,rfl⟩:=e;simp[AI.pick,hg]
theorem Oh {f:AI}(hv:f.valid=true){s:A6}(hs:s∈f.CD):AIh f s:=by
 have h:=X5 hv s hs;simp only[Hd,An]at h;obtain⟨⟨_,h1,h2⟩,h3,h4⟩:=h;simp[Bn]at h1 h2;by_cases hp:s.parts=[]
 . rw[if_pos hp]at h4;simp at h4;exact⟨by omega,by omega,h2,by omega,by omega,by simp[hp]⟩
 . rw[if_neg hp]at h4;unfold QZ at h4;cases hf:Gb f.ht 60000 false s.parts with
   | none=>rw[hf]at h4;cases h4
   | some x =>
     obtain⟨b,e⟩:=x;rw[hf]at h4;simp[Bn]at h4;obtain⟨hb,hq⟩:=AEd _ _ _ _ _ _ hf;refine⟨by omega,by omega,h2,by omega,by omega,fun q hm=>?_⟩;obtain⟨y,hy,hby⟩:=hq q hm;rw[ANm hy];omega
def RF (f:AI)(p need:Int):List ByteArray->Option ByteArray
 | []=>none
 | n::r=>if need<=VK f n p then some n else RF f p need r
def KU (f:AI)(s:A6)(p need:Int):Nat->Int
 | 0=>1000
 | n+1=>if need<=scale (KX f s (1000 - ((n:Int)+1))) p then 1000 - ((n:Int)+1)else KU f s p need n
def UE (f:AI)(s:A6)(need p:Int):Choice:=
 match RF f p need s.Bb with
 | some n=>⟨n,0⟩
 | none=>if s.parts=[]then⟨s.Bb.getD (s.Bb.length - 1) ⟨#[]⟩,0⟩else⟨⟨#[]⟩,KU f s p need 999⟩
def JC (f:AI)(name:ByteArray)(need p:Int):Choice:=
 match f.H2 name with
 | none=>⟨name,0⟩
 | some s=>UE f s need p
def Mq (c:Choice):V:=.agg [.c (.str c.J7),.c (.int .i64 c.Iy)]
def IM (r:Int):List Part->List Part
 | []=>[]
 | q::l=>List.replicate (times r q).toNat q++IM r l
def ZY (f:AI)(p AJk:Int)(q:Part):AA:={ (Cl f q.name p).1 with y:=scale AJk p+(Cl f q.name p).1.d }
def FM (f:AI)(ov p:Int):Int->List Part->List AA
 | _,[]=>[]
 | b,q::l=>ZY f p b q::FM f ov p (b+((f.pick q.name).Ch - ov)) l
def GO:Int->List AA->Int
 | m,[]=>m
 | m,b::l=>GO (mx m b.w) l
def Se (f:AI)(s:A6)(r p:Int):AA:=⟨3,⟨#[]⟩,0,GO 0 (FM f s.CX p 0 (IM r s.parts)),scale (KX f s r) p,0,0,0,FM f s.CX p 0 (IM r s.parts),0,[]⟩
def Jf (x:ByteArray):List ByteArray->Bool
 | []=>false
 | y::r=>if y=x then true else Jf x r
def JS (f:AI)(name:ByteArray)(c:Choice):Bool:=
 match f.H2 name with
 | none=>decide (c.Iy=0) && decide (c.J7=name)
 | some s=>if c.Iy=0 then Jf c.J7 s.Bb else decide (c.J7=⟨#[]⟩) && (decide (0<s.parts.length) && (decide (1<=c.Iy) && decide (c.Iy<=1000)))
def Ja (f:AI)(name:ByteArray)(c:Choice)(p:Int):AA×Int:=
 if IE f p≠0 then(AA.zero,IE f p)
 else if JS f name c=false then(AA.zero,8)
 else if c.Iy=0 then((Cl f c.J7 p).1,0)
 else(Se f ((f.H2 name).getD A6.zero) c.Iy p,0)
theorem wt {r:Int}(h1:1<=r)(h2:r<=1000)(q:Part):1<=times r q/\times r q<=1000:=by unfold times;split<;>omega
theorem N8 {f:AI}(hv:f.valid=true){p:Int}(h1:1<=p)(h2:p<=100)(name:ByteArray):Cl f name p=(Mw ((f.pick name).scaled p) p,0)/\Ge (f.pick name) p=((f.pick name).scaled p,0):=by
 have hs:=PH hv name;have e:Ge (f.pick name) p=((f.pick name).scaled p,0):=by
  unfold Ge;rw[if_neg (by simp[Bn];omega),if_neg];unfold Ag.Small at hs;simp[Bn,Ag.Gz];omega
 unfold Cl;rw[e];simp
theorem Xq {f:AI}(hv:f.valid=true){p:Int}(h1:1<=p)(h2:p<=100)(name:ByteArray):(-200000<=((f.pick name).scaled p).w/\((f.pick name).scaled p).w<=200000)/\(-200000<=((f.pick name).scaled p).h/\((f.pick name).scaled p).h<=200000)/\(-200000<=((f.pick name).scaled p).d/\((f.pick name).scaled p).d<=200000)/\(-200000<=((f.pick name).scaled p).DY/\((f.pick name).scaled p).DY<=200000):=by
 have hs:=PH hv name;unfold Ag.Small at hs;exact AGB _ _ (by simp[Bn];omega) (by simp[Bn,Ag.Gz];omega)
theorem AHB (f:AI)(r:Int)(hsm : ∀name,(f.pick name).Small)(h1:1<=r)(h2:r<=1000):∀(l:List Part) (h c:Int),h - 40000000*(l.length:Int)<=(Ll f r h c l).1/\(Ll f r h c l).1<=h+40000000*(l.length:Int)/\c+(l.length:Int)<=(Ll f r h c l).2/\(Ll f r h c l).2<=c+1000*(l.length:Int)
 | [],h,c=>by simp[Ll]
 | q::l,h,c=>by
   have ih:=AHB f r hsm h1 h2 l (h+times r q*(f.pick q.name).Ch) (c+times r q);have hs:=hsm q.name;unfold Ag.Small at hs;obtain⟨t1,t2⟩:=wt h1 h2 q;have m:=PA (f.pick q.name).Ch (times r q) 40000 1000 (by unfold Ag.Ch;omega) (by unfold Ag.Ch;omega) (by omega) t2;rw[Z4 (f.pick q.name).Ch]at m;simp only[Ll,BQ]at ih ⊢;simp only[Int.natCast_add,Int.natCast_one]at ih ⊢;omega
theorem wo {f:AI}(hv:f.valid=true){s:A6}(hs:s∈f.CD){r:Int}(h1:1<=r)(h2:r<=1000): -1000000000<=KX f s r/\KX f s r<=1000000000:=by
 obtain⟨_,_,g3,g4,g5,g6⟩:=Oh hv hs;have:=AHB f r (PH hv) h1 h2 s.parts 0 0;have m:=PA s.CX ((Ll f r 0 0 s.parts).2) 60000 8000 (by omega) g5 (by omega) (by omega);rw[Z4 s.CX]at m;unfold KX;rw[Int.sub_mul];omega
theorem wB {n p:Int}(h1 : -1073741824<=n)(h2:n<=1073741824)(h3:0<=p)(h4:p<=10000):FI (n*p) 100=scale n p:=by
 unfold scale;rw[if_pos ⟨by simp[Aw];omega,by omega,by omega⟩]
theorem AUb (f:AI)(s:A6)(p need r:Int)(h1:1<=r)(h2:r<1000):KU f s p need (1000 - r).toNat=if need<=scale (KX f s r) p then r else KU f s p need (1000 - (r+1)).toNat:=by
 obtain⟨n,hn⟩:∃n:Nat,r=1000 - ((n:Int)+1):=⟨(999 - r).toNat,by omega⟩
 subst hn;have e1:(1000 - (1000 - ((n:Int)+1))).toNat=n+1:=by omega
 have e2:(1000 - (1000 - ((n:Int)+1)+1)).toNat=n:=by omega
 rw[e1,e2];rfl
theorem ADs : ∀(l:List AA) (m:Int) (b:AA),GO m (l++[b])=mx (GO m l) b.w
 | [],m,b=>rfl
 | x::l,m,b=>by simp only[Bg,GO];exact ADs l _ b
theorem AFs : ∀(l:List AA) (b:AA),AA.rows (l++[b])=AA.rows l++[b.row]
 | [],b=>rfl
 | x::l,b=>by simp only[Bg,AA.rows];rw[AFs l b]
@[simp] theorem LF : ∀(l:List AA),(AA.rows l).length=l.length
 | []=>rfl
 | x::l=>by simp only[AA.rows,BQ];rw[LF l]
theorem mc {r:Int}(h1:1<=r)(h2:r<=1000):∀l:List Part,(IM r l).length<=1000*l.length
 | []=>by simp[IM]
 | q::l=>by
   have:=mc h1 h2 l;obtain⟨t1,t2⟩:=wt h1 h2 q;simp only[IM,List.length_append,List.length_replicate,BQ];omega
theorem AF9 {n p:Int}(h1:0<=n)(h2:n<=1000000000)(h3:0<=p)(h4:p<=100):0<=scale n p/\scale n p<=1000000001:=by
 have hm:0<=n*p:=Int.mul_nonneg h1 h3;have Ew:n*p<=n*100:=Int.mul_le_mul_of_nonneg_left h4 h1;rw[<-wB (by omega) (by omega) h3 (by omega)];unfold FI;rw[if_pos hm];omega
def MV (w h:Int)(kids:V):List V:=[.c (.int .i64 3),.c (.str ⟨#[]⟩),.c (.int .i64 0),.c (.int .i64 w),.c (.int .i64 h),.c (.int .i64 0),.c (.int .i64 0),.c (.int .i64 0),kids,.c (.int .i64 0),.full []]
def Bo:List V:=[.c (.int .i64 0),.c (.str ⟨#[]⟩),.c (.int .i64 0),.c (.int .i64 0),.c (.int .i64 0),.c (.int .i64 0),.c (.int .i64 0),.c (.int .i64 0),.full [],.c (.int .i64 0),.full []]
theorem AAF {f:AI}{p:Int}(hk:IE f p=0):f.valid=true/\1<=p/\p<=100:=by
 unfold IE at hk;have hv:f.valid=true:=by cases h:f.valid<;>simp[h]at hk;rfl
 rw[if_neg (by simp[hv])]at hk;refine⟨hv,?_⟩;split at hk<;>omega
theorem uR {f:AI}{name cg:ByteArray}{cr:Int}(h0 : ¬cr=0)(hi:JS f name ⟨cg,cr⟩=true):∃s,f.H2 name=some s/\s.parts≠[]/\1<=cr/\cr<=1000/\cg=⟨#[]⟩:=by
 unfold JS at hi;cases hst:f.H2 name with
 | none=>rw[hst]at hi;simp[h0]at hi
 | some s =>
   rw[hst]at hi;simp[h0]at hi;exact⟨s,rfl,List.length_pos_iff.1 hi.2.1,by omega,by omega,hi.1⟩
def F4 (f:AI)(name:ByteArray)(need p:Int):AA×Int:=if IE f p≠0 then(AA.zero,IE f p)else Ja f name (JC f name need p) p
end Go.Proofs.YtpodcjcajanldaaGreat
