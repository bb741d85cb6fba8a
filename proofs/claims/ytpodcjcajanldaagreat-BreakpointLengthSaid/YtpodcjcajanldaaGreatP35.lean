/- Part of the proof of breakpointLength.proved. Conditions: none. (Joined and shortened by a program.) -/
import Derived.Test.YtpodcjcajanldaaGreatP34
set_option linter.unusedVariables false
set_option linter.unusedSimpArgs false
set_option maxRecDepth 100000
set_option maxHeartbeats 16000000
open Bool renaming and_eq_true→An
open Nat renaming zero_le→Cc,add_zero→SA,not_lt_zero→Q3,le_refl→BW,le_of_ble_eq_true→Fg
open List renaming mem_cons_of_mem→Ff,mem_cons_self→Er,length_cons→BQ,getElem?_cons_zero→LK,getElem?_cons_succ→Kd,all_eq_true→Ee,map_cons→Al,map_nil→A8,length_append→C3,length_singleton→oQ,all_cons→Dr,getElem?_eq_getElem→BP,getElem?_eq_some_iff→Bv,foldl_cons→Bl,foldl_nil→B7,set_cons_zero→BC,set_cons_succ→Az,mem_append→I4,mem_singleton→Qy,mem_or_eq_of_mem_set→xt,mem_cons→Cb,mem_map→DC
open Option.some renaming injEq→BE,inj→JW
open Go.Proofs.Tryz renaming prog→AD,func98→SJ,ntmps98→SK,results98→SO,results161→YN
open Go.IntKind renaming i64→Ad
open Int renaming le_refl→Mh,le_trans→Ti
namespace Go.Proofs.YtpodcjcajanldaaGreat
open Go.RowKit
mutual
theorem AEP : ∀b:AA,b.EE=true->b.Bc
 | ⟨k,n,s,w,h,d,x,y,kids,o,src⟩,hp=>by
   simp only[AA.EE,An]at hp;obtain⟨h1,h2⟩:=hp;have hm:(1000:Nat)<=maxLen:=by decide
   simp only[AA.CZ,An]at h1;obtain⟨_,h3,h4⟩:=h1;refine⟨?_,?_,AEQ kids h2⟩
   . simp only[AA.Ej]at h3;split at h3
     . simp only[F2,An,decide_eq_true_eq]at h3;omega
     . split at h3
       . simp only[An,decide_eq_true_eq]at h3;rw[h3.1];exact Cc _
       . split at h3
         . simp only[An,decide_eq_true_eq]at h3;rw[h3.1];exact Cc _
         . cases h3
   . simp only[AA.I0,An,Gg]at h4;have h5:=h4.2;split at h5
     . simp only[decide_eq_true_eq]at h5;omega
     . split at h5
       . simp only[An,decide_eq_true_eq]at h5;omega
       . split at h5
         . simp only[An,decide_eq_true_eq]at h5;omega
         . cases h5
theorem AEQ : ∀l:List AA,AA.Hb l=true->AA.GB l
 | [],_=>trivial
 | b::l,h=>by
   simp only[AA.Hb,An]at h;exact⟨AEP b h.1,AEQ l h.2⟩
end
theorem fN {b:AA}(h:b.Av=true):b.Bc:=by
 simp only[AA.Av,An]at h;exact AEP b h.1
theorem cK {b:AA}(h:b.Av=true):b.cnt<=20000:=by
 simp only[AA.Av,An,decide_eq_true_eq]at h;exact h.2.1
theorem AQB {l:List AA}(h : ∀b∈l,b.Av=true):AA.GB l/\l.all AA.Av=true:=by
 induction l with
 | nil=>exact⟨trivial,rfl⟩
 | cons b l ih =>
   obtain⟨h1,h2⟩:=ih fun c hc=>h c (Ff _ hc)
   have hb:=h b Er;exact⟨⟨fN hb,h1⟩,by simp[hb,h2]⟩
theorem ADo {b:AA}(h:b.Av=true){o:Int}{src:List Int}(h1:Dm src=true)(h2:Gg o src.length=true):(b.mark o src).Av=true/\(b.mark o src).cnt=b.cnt:=by
 obtain⟨k,n,s,w,h',d,x,y,kids,o',gA⟩:=b;refine⟨?_,rfl⟩;have e1:(AA.mark ⟨k,n,s,w,h',d,x,y,kids,o',gA⟩ o src).cnt=(⟨k,n,s,w,h',d,x,y,kids,o',gA⟩:AA).cnt:=rfl;have e2:(AA.mark ⟨k,n,s,w,h',d,x,y,kids,o',gA⟩ o src).nest=(⟨k,n,s,w,h',d,x,y,kids,o',gA⟩:AA).nest:=rfl;unfold AA.Av at h ⊢;rw[e1,e2];rw[An]at h ⊢;refine⟨?_,h.2⟩;have h3:=h.1;simp only[AA.EE,AA.CZ,AA.mark,AA.lens,AA.Ej,AA.I0,An]at h3 ⊢;exact⟨⟨h3.1.1,h3.1.2.1,h1,h2⟩,h3.2⟩
theorem ET {b c:AA}(h:okB (Cm b)=some c):c=b/\c.Av=true:=by
 unfold Cm at h;by_cases h2:b.Av=true
 . rw[if_pos h2]at h;simp only[okB,if_true,BE]at h;exact⟨h.symm,h ▸ h2⟩
 . rw[if_neg h2]at h;simp[okB]at h
theorem ZV {kids:List AA}{sp:List Int}{c:AA}(h:okB (El kids sp)=some c):c.Av=true:=by
 unfold El at h;split at h
 . simp[okB]at h
 . split at h
   . simp[okB]at h
   . unfold Rl at h;split at h
     . simp[okB]at h
     . rename_i hv;simp only[okB,if_true,BE]at h;subst h;simpa using hv
theorem AEF {r:AA×Int}(h:r.2=0\/r=(AA.zero,6)):r=((okB r).getD AA.zero,if (okB r).isSome=true then 0 else 6):=by
 obtain⟨b,e⟩:=r;rcases h with h|h
 . simp only at h;subst h;simp[okB]
 . cases h;simp[okB]
theorem Sj (b:AA):Cm b=((okB (Cm b)).getD AA.zero,if (okB (Cm b)).isSome=true then 0 else 6):=by
 apply AEF;unfold Cm;split
 . exact .inl rfl
 . exact .inr rfl
section
variable (x:Ae) (s:AM) (src:List Int)
def Lj (k:Int)(i:Nat)(n:Nd):Option AA:=Db x (DZ k i s) (src++[(i:Int)]) n
def NI (k:Int):Nat->List Nd->List AA
 | _,[]=>[]
 | i,n::l=>(Lj x s src k i n).getD AA.zero::NI k (i+1) l
theorem nV (k:Int):∀(i:Nat) (l:List Nd),(NI x s src k i l).length=l.length
 | _,[]=>rfl
 | i,n::l=>by simp only[NI,BQ,nV k (i+1) l]
theorem AGW (k:Int):∀(i:Nat) (l:List Nd) (j:Nat) (n:Nd),l[j]?=some n->(NI x s src k i l)[j]?=some ((Lj x s src k (i+j) n).getD AA.zero)
 | _,[],j,n,h=>by simp at h
 | i,a::l,0,n,h=>by simp only[LK,BE]at h;subst h;rfl
 | i,a::l,j+1,n,h=>by
   simp only[Kd]at h;simp only[NI,Kd];rw[AGW k (i+1) l j n h,show i+1+j=i+(j+1)by omega]
theorem AGY (k:Int):∀(i:Nat) (l:List Nd),(∀j n,l[j]?=some n->Lj x s src k (i+j) n≠none)->FJ x s src k i l=some (NI x s src k i l)
 | _,[],_=>by simp only[FJ,NI]
 | i,n::l,h=>by
   have h0:=h 0 n rfl;rw[SA]at h0;have hr:=AGY k (i+1) l fun j m hm=>by have:=h (j+1) m (by simpa using hm);rwa [show i+(j+1)=i+1+j by omega]at this
   unfold Lj at h0;simp only[FJ,NI,hr,Lj];cases hb:Db x (DZ k i s) (src++[(i:Int)]) n with
   | none=>exact absurd hb h0
   | some b=>rfl
theorem AGa (k:Int):∀(i:Nat) (l:List Nd) (j:Nat) (n:Nd),l[j]?=some n->Lj x s src k (i+j) n=none->FJ x s src k i l=none
 | _,[],j,n,h,_=>by simp at h
 | i,a::l,0,n,h,hn=>by
   simp only[LK,BE]at h;subst h;unfold Lj at hn;rw[SA]at hn;simp only[FJ,hn]
 | i,a::l,j+1,n,h,hn=>by
   simp only[Kd]at h;have hr:=AGa k (i+1) l j n h (by rwa [show i+1+j=i+(j+1)by omega]);simp only[FJ,hr];cases Db x (DZ k i s) (src++[(i:Int)]) a<;>rfl
def MP (i:Nat)(n:Nd):Option AA:=Ei x s (src++[(i:Int)]) n
def O3:Nat->List Nd->List AA
 | _,[]=>[]
 | i,n::l=>(MP x s src i n).getD AA.zero::O3 (i+1) l
theorem uU : ∀(i:Nat) (l:List Nd),(O3 x s src i l).length=l.length
 | _,[]=>rfl
 | i,n::l=>by simp only[O3,BQ,uU (i+1) l]
theorem AC7 : ∀(i:Nat) (l:List Nd) (j:Nat) (n:Nd),l[j]?=some n->(O3 x s src i l)[j]?=some ((MP x s src (i+j) n).getD AA.zero)
 | _,[],j,n,h=>by simp at h
 | i,a::l,0,n,h=>by simp only[LK,BE]at h;subst h;rfl
 | i,a::l,j+1,n,h=>by
   simp only[Kd]at h;simp only[O3,Kd];rw[AC7 (i+1) l j n h,show i+1+j=i+(j+1)by omega]
theorem AC9 : ∀(i:Nat) (l:List Nd),(∀j n,l[j]?=some n->MP x s src (i+j) n≠none)->FF x s src i l=some (O3 x s src i l)
 | _,[],_=>by simp only[FF,O3]
 | i,n::l,h=>by
   have h0:=h 0 n rfl;rw[SA]at h0;have hr:=AC9 (i+1) l fun j m hm=>by have:=h (j+1) m (by simpa using hm);rwa [show i+(j+1)=i+1+j by omega]at this
   unfold MP at h0;simp only[FF,O3,hr,MP];cases hb:Ei x s (src++[(i:Int)]) n with
   | none=>exact absurd hb h0
   | some b=>rfl
theorem ADB : ∀(i:Nat) (l:List Nd) (j:Nat) (n:Nd),l[j]?=some n->MP x s src (i+j) n=none->FF x s src i l=none
 | _,[],j,n,h,_=>by simp at h
 | i,a::l,0,n,h,hn=>by
   simp only[LK,BE]at h;subst h;unfold MP at hn;rw[SA]at hn;simp only[FF,hn]
 | i,a::l,j+1,n,h,hn=>by
   simp only[Kd]at h;have hr:=ADB (i+1) l j n h (by rwa [show i+1+j=i+(j+1)by omega]);simp only[FF,hr];cases Ei x s (src++[(i:Int)]) a<;>rfl
end
theorem AKC {c:Int}(h:Sg c=true):33<=c/\c<=126:=by
 unfold Sg IJ hasB Xu at h;simp at h;omega
theorem AG7 {t:ByteArray}(h:Qn t=true):F2 t=true/\t.data.toList.all DH=true/\∀c,t=⟨#[c]⟩->c≠32:=by
 unfold Qn at h;have key : ∀p:Int->Bool,(∀c,p c=true->33<=c/\c<=126)->Da p t=true->t.data.toList.all DH=true/\∀c,t=⟨#[c]⟩->c≠32:=by
  intro p hp ha;rw[Da,Ee]at ha;refine⟨?_,?_⟩
  . rw[Ee];intro b hb;have:=hp _ (ha b hb);simp only[DH,An,decide_eq_true_eq];omega
  . rintro c rfl rfl;have:=hp _ (ha 32 (by simp));simp at this
 split at h
 . rename_i h1;obtain⟨k1,k2⟩:=key Sg (fun c=>AKC) h;exact⟨by simp[F2,k1,h1],k1,k2⟩
 . simp only[An,decide_eq_true_eq]at h;obtain⟨k1,k2⟩:=key IJ (fun c hc=>by simp[IJ]at hc;omega) h.1;exact⟨by simp[F2,k1];omega,k1,k2⟩
theorem AQC {t:ByteArray}(h:t.size=1):∃c,t=⟨#[c]⟩:=by
 obtain⟨⟨l⟩⟩:=t;match l,h with
 | [c],_=>exact⟨c,rfl⟩
theorem AUl (x:Ae)(m:Nat)(n:Nd)(src:List Int)(s:AM)(hx:x.Ok)(hs:s.ok=true)(hn:Qn n.text=true):AQ AD 98 [Bf x m,At n,.c (Ab src),Ai s] m (BI x.f) (BI x.f) (BS (x.sym s n.text)):=by
 obtain⟨k,t,c,kids⟩:=n;simp only at hn;obtain⟨n1,n2,n3⟩:=AG7 hn;have hd:x.d.length<=1000000:=by have:=hx.dl;omega
 have hf:=vT x.d t hd;have hsz:t.size<=1000:=by simp only[F2,An,decide_eq_true_eq]at n1;omega
 obtain⟨rs,Ak⟩:=AE (Nd.rows kids);simp only[At,Nd.vs,Nd.row,Al,A8,Ak];unfold Ae.sym;unfold Mt at hf;by_cases c1:(FC x.d t).cls=1/\(FC x.d t).str=true
 . rw[if_pos c1];obtain⟨c1,c2⟩:=c1;have hop:=AUI x m t s hx hs n1;cases ho:x.QY s t with
   | some b =>
     rw[ho]at hop;simp only[BS,Ay]at hop ⊢;unfold Bf Ai at *
     refine CP SJ SK ?_;exact qz (cj @c1<|cj @c2<|SO) (cj hf<|cj hop<|trivial)
   | none =>
     rw[ho]at hop;simp only[BS,Ay]at hop ⊢;unfold Bf Ai at *
     refine CP SJ SK ?_;exact qz (cj @c1<|cj @c2<|SO) (cj hf<|cj hop<|trivial)
 . rw[if_neg c1];have OW:((FC x.d t).cls=1->(FC x.d t).str=false):=fun h=>by
    by_cases h2:(FC x.d t).str=true
    . exact absurd ⟨h,h2⟩ c1
    . simpa using h2
   by_cases c2:t.size=1
   . rw[if_pos (.inl c2)];obtain⟨ch,rfl⟩:=AQC c2;have hch:=AGC x m ch s hx hs;have e:x.OX s ch=x.gl s ⟨#[ch]⟩:=if_neg (n3 ch rfl);rw[e]at hch;simp only[BS,Ay]at hch ⊢;unfold Bf Ai at *
     by_cases c3:(FC x.d ⟨#[ch]⟩).cls=1
     . have c4:=OW c3;refine CP SJ SK ?_;exact qz (cj @c3<|cj @c4<|cj @c2<|SO) (cj hf<|cj hch<|trivial)
     . refine CP SJ SK ?_;exact qz (cj @c3<|cj @c2<|SO) (cj hf<|cj hch<|trivial)
   . have DX:=r8 x.f t hx.fit.1;by_cases c3:(x.f.find t).isSome=true
     . rw[if_pos (.inr c3)];have LX:=AGH x m t s hx hs;unfold J6 at DX;obtain⟨g,hg⟩:=AE ((x.f.find t).getD Ag.zero);rw[c3,hg]at DX;simp only[Ag.row,Al,A8]at DX;simp only[BS,Ay]at LX ⊢;unfold Bf Ai at *
       by_cases c4:(FC x.d t).cls=1
       . have c5:=OW c4;refine CP SJ SK ?_;exact qz (cj @c4<|cj @c5<|cj @c2<|SO) (cj hf<|cj DX<|cj LX<|trivial)
       . refine CP SJ SK ?_;exact qz (cj @c4<|cj @c2<|SO) (cj hf<|cj DX<|cj LX<|trivial)
     . rw[if_neg (by simp[c2,c3])];have hch:=AGD x m t s hx hs n2 hsz;unfold J6 at DX;obtain⟨g,hg⟩:=AE ((x.f.find t).getD Ag.zero);rw[show (x.f.find t).isSome=false by simpa using c3,hg]at DX;simp only[Ag.row,Al,A8]at DX;obtain⟨o,ho⟩:=AE (x.NM s t);rw[ho]at hch ⊢;cases o with
       | some b =>
         simp only[BS,Ay]at hch ⊢;unfold Bf Ai at *
         by_cases c4:(FC x.d t).cls=1
         . have c5:=OW c4;refine CP SJ SK ?_;exact qz (cj @c4<|cj @c5<|cj @c2<|SO) (cj hf<|cj DX<|cj hch<|trivial)
         . refine CP SJ SK ?_;exact qz (cj @c4<|cj @c2<|SO) (cj hf<|cj DX<|cj hch<|trivial)
       | none =>
         simp only[BS,Ay]at hch ⊢;unfold Bf Ai at *
         by_cases c4:(FC x.d t).cls=1
         . have c5:=OW c4;refine CP SJ SK ?_;exact qz (cj @c4<|cj @c5<|cj @c2<|SO) (cj hf<|cj DX<|cj hch<|trivial)
         . refine CP SJ SK ?_;exact qz (cj @c4<|cj @c2<|SO) (cj hf<|cj DX<|cj hch<|trivial)
theorem AGx (x:Ae)(m:Nat)(n:Nd)(src:List Int)(s:AM)(hx:x.Ok)(hs:s.ok=true)(ht:n.text.data.toList.all DH=true)(hn:n.text.size<=1000):AQ AD 99 [Bf x m,At n,.c (Ab src),Ai s] m (BI x.f) (BI x.f) (BS (x.NM s n.text)):=by
 obtain⟨k,t,c,kids⟩:=n;have hch:=AGD x m t s hx hs ht hn;obtain⟨rs,Ak⟩:=AE (Nd.rows kids);simp only[At,Nd.vs,Nd.row,Al,A8,Ak];obtain⟨o,ho⟩:=AE (x.NM s t);rw[ho]at hch ⊢;cases o with
 | some b =>
   simp only[BS,Ay]at hch ⊢;unfold Bf Ai at *
   refine CP Tryz.func99 Tryz.ntmps99 ?_;exact qz Tryz.results99 (cj hch<|trivial)
 | none =>
   simp only[BS,Ay]at hch ⊢;unfold Bf Ai at *
   refine CP Tryz.func99 Tryz.ntmps99 ?_;exact qz Tryz.results99 (cj hch<|trivial)
theorem wX {k:Int}{i:Int}{s:AM}(hs:s.ok=true):(DZ k i s).ok=true:=by
 have h:=hs;simp only[AM.ok,An,decide_eq_true_eq]at h;unfold DZ Rv;repeat' split
 all_goals first
  | exact hs
  | (simp only[AM.ok,An,decide_eq_true_eq];omega)
theorem AGU {k:Int}{i n:Nat}{c:Int}{s:AM}(hs:s.ok=true)(hk:Dh k c n=true)(h1:k≠1)(hi:i<n):Rz k i s=(DZ k i s,0):=by
 have key:GQ k≠0/\((n:Int)<=GQ k):=by
  unfold Dh at hk;unfold GQ;repeat' split at hk
  all_goals first
   | (cases hk;done)
   | skip
  all_goals simp only[An,decide_eq_true_eq]at hk
  all_goals (repeat' split)
  all_goals omega
 unfold Rz;rw[if_neg (by simp[hs,key.1]),if_neg (by omega)]
structure Src (src:List Int)(p:Nat)(d:Nat):Prop where
 pos:Dm src=true
 par:src.length % 2=p
 len:src.length+d<=49
theorem Src.add {src:List Int}{p d e:Nat}(h:Src src p (d+1))(i:Nat)(he:e<=d):Src (src++[(i:Int)]) ((p+1) % 2) e:=by
 refine⟨?_,?_,?_⟩
 . have:=h.pos;unfold Dm at this ⊢;rw[List.all_append,this];simp
 . rw[C3,oQ];have:=h.par;omega
 . rw[C3,oQ];have:=h.len;omega
theorem ADn {b:AA}(h:b.Av=true){src:List Int}{d:Nat}(hs:Src src 0 (d+1)):(b.mark 1 src).Av=true/\(b.mark 1 src).cnt=b.cnt:=by
 refine ADo h hs.pos ?_;have h1:=hs.par;have h2:=hs.len;simp[Gg];omega
theorem APB {b:AA}(h:b.Av=true){src:List Int}{d:Nat}(hs:Src src 1 (d+1)):(b.mark 2 src).Av=true/\(b.mark 2 src).cnt=b.cnt:=by
 refine ADo h hs.pos ?_;have h1:=hs.par;have h2:=hs.len;simp[Gg];omega
theorem AV9 {x:Ae}(hx:x.Ok){s:AM}(hs:s.ok=true):Aw (scale x.f.params.FV (x.sz s))=true:=by
 obtain⟨p1,p2⟩:=GD hx.val hs;have:=hx.val;simp only[AI.valid,JU,Params.lens,Params.PG,Bn,An,Dr,Aw,decide_eq_true_eq]at this;have h2:=DA (p:=x.sz s) x.f.params.FV (by unfold Ae.sz;omega) (by unfold Ae.sz;omega);simp[Aw];omega
theorem AR7 {x:Ae}(hx:x.Ok){s:AM}(hs:s.ok=true):Aw (scale (x.BZ s) 50)=true:=by
 obtain⟨p1,p2⟩:=GD hx.val hs;have:=hx.val;simp only[AI.valid,JU,Params.lens,Params.PG,Bn,An,Dr,Aw,decide_eq_true_eq]at this;have h2:=DA (p:=x.sz s) x.f.params.BZ (by unfold Ae.sz;omega) (by unfold Ae.sz;omega);have h3:=DA (p:=50) (x.BZ s) (by omega) (by omega);have e:x.BZ s=scale x.f.params.BZ (x.sz s):=rfl;rw[<-e]at h2;simp[Aw];omega
theorem AO3 {w h:Int}(hw:Aw w=true)(hh:Aw h=true):(CB w h 0 []).Av=true/\(CB w h 0 []).cnt=1:=by
 refine⟨cG ?_ (by simp[CB,AA.cnt,AA.A9]) (by simp[CB,AA.nest,AA.Nz]),rfl⟩;have e0:Aw 0=true:=by decide
 simp[AA.EE,AA.Hb,AA.CZ,AA.lens,AA.Ej,AA.I0,CB,hw,hh,e0,Dm,Gg]
theorem ASz {x:Ae}(hx:x.Ok){s:AM}(hs:s.ok=true){src:List Int}{n:Nd}(hr:Src src 0 n.BB){b:AA}(h:Db x s src n=some b):b.Av=true/\b.cnt<=10000*n.cnt:=by
 obtain⟨k,t,c,kids⟩:=n;have hc:=Jk ⟨k,t,c,kids⟩;rw[TU]at hr;unfold Db at h;split at h
 . rename_i hk;simp only[BE]at h;have e:(CB (if src=[]then 0 else scale (x.BZ s) 50) (scale x.f.params.FV (x.sz s)) 0 []).Av=true/\(CB (if src=[]then 0 else scale (x.BZ s) 50) (scale x.f.params.FV (x.sz s)) 0 []).cnt=1:=by
    refine AO3 ?_ (AV9 hx hs);split
    . decide
    . exact AR7 hx hs
   obtain⟨e1,e2⟩:=ADn e.1 hr;subst h;unfold Ae.empty;exact⟨e1,by rw[e2,e.2];omega⟩
 . rename_i hk;split at h
   . cases h
   . split at h
     . cases h
     . rename_i b' hb;simp only[BE]at h;subst h;have hv:=ZV hb;obtain⟨e1,e2⟩:=ADn hv hr;refine⟨e1,?_⟩;rw[e2];have:=cK hv;match kids,hk with
       | a::l,_ =>
         simp only[Nd.A9]at hc;have:=fJ a;omega
theorem AEG {kids:List AA}{sp:List Int}{c:AA}(h:okB (El kids sp)=some c):c.cnt=1+AA.A9 kids:=by
 unfold El at h;split at h
 . simp[okB]at h
 . split at h
   . simp[okB]at h
   . rename_i hl;unfold Rl at h;split at h
     . simp[okB]at h
     . simp only[okB,if_true,BE]at h;subst h;have e:sp.length=kids.length:=Classical.byContradiction fun e=>hl (.inl e)
       unfold NA CB;simp only[AA.cnt];rw[me (U6 0 e)]
theorem AHJ {x:Ae}(hx:x.Ok){s:AM}(hs:s.ok=true){t:ByteArray}(ht:t.data.toList.all DH=true)(hn:t.size<=1000){b:AA}(h:x.NM s t=some b):b.Av=true/\b.cnt<=10000:=by
 unfold Ae.NM at h;refine⟨ZV h,?_⟩;rw[AEG h];have:=rO (n:=1) fun b hb=>Nat.le_of_eq (AAM hx hs ht b hb).2
 rw[AAL]at this;omega
theorem ABO {x:Ae}(hx:x.Ok){s:AM}(hs:s.ok=true){t:ByteArray}(hn:F2 t=true):(x.gl s t).Av=true/\(x.gl s t).cnt=1:=⟨(kf hx hs hn).1.v,(kf hx hs hn).2⟩
theorem AJ7 {b:AA}{a:Int}{c:AA}(h:okB (Ic b a)=some c):c.cnt=b.cnt:=by
 unfold Ic at h;repeat' split at h
 all_goals simp[okB]at h
 subst h;exact GW _ _ _
theorem AU0 {x:Ae}(hx:x.Ok){s:AM}(hs:s.ok=true){t:ByteArray}(ht:Qn t=true){b:AA}(h:x.sym s t=some b):b.Av=true/\b.cnt<=10000:=by
 obtain⟨n1,n2,n3⟩:=AG7 ht;have hsz:t.size<=1000:=by simp only[F2,An,decide_eq_true_eq]at n1;omega
 unfold Ae.sym at h;split at h
 . unfold Ae.QY at h;obtain⟨h1,h2,h3⟩:=vK hx s n1;have hg:=ABO hx hs h2;split at h
   . cases h
   . rename_i c hc;refine⟨ZV h,?_⟩;rw[AEG h];have:=AJ7 hc;simp only[AA.A9];omega
 . split at h
   . cases h;have hg:=ABO hx hs n1;exact⟨hg.1,by omega⟩
   . exact AHJ hx hs n2 hsz h
theorem vC (n:Nat):∀(l:List UInt8) (k:Nat) (p q:Int),Jl n l k p=some q->l.all DH=true
 | [],_,_,_,_=>rfl
 | b::l,k,p,q,h=>by
   rw[Dr];unfold Jl at h;split at h
   . rename_i hb;have e:=vC n l _ _ _ h;rw[e];have:(b.toNat:Int)=46:=hb.1;simp[DH];omega
   . split at h
     . rename_i hd;have e:=vC n l _ _ _ h;rw[e];simp[J4]at hd;simp[DH];omega
     . cases h
theorem AED {t:ByteArray}(h:U3 t=true):t.data.toList.all DH=true/\t.size<=1000:=by
 unfold U3 at h;cases hq:Jl t.size t.data.toList 0 0 with
 | none=>rw[hq]at h;cases h
 | some q =>
   rw[hq]at h;refine⟨vC _ _ _ _ _ hq,?_⟩;simp only[An,decide_eq_true_eq]at h;omega
theorem AE4 {t:ByteArray}(h:(decide (t.size<=200) && Da MY t)=true):t.data.toList.all DH=true/\t.size<=1000:=by
 simp only[An,decide_eq_true_eq,Da,Ee]at h;refine⟨?_,by omega⟩;rw[Ee];intro b hb;have:=h.2 b hb;simp only[MY,decide_eq_true_eq]at this;simp[DH];omega
theorem AOY {x:Ae}(hx:x.Ok){s:AM}(hs:s.ok=true){src:List Int}{n:Nd}(hf:n.CZ=true)(h1:n.kind≠1)(hr:Src src 1 n.BB){b:AA}(h:Ei x s src n=some b):b.Av=true/\b.cnt<=10000*n.cnt:=by
 obtain⟨k,t,c,kids⟩:=n;have hc:=Jk ⟨k,t,c,kids⟩;rw[TU]at hr;simp only at h1 hc;simp only[Nd.CZ,An]at hf;obtain⟨f1,f2⟩:=hf;unfold Ei at h;split at h
 . cases h
 . rename_i L hL;split at h
   . cases h
   . rename_i b' hb;simp only[BE]at h;subst h;have key:b'.Av=true/\b'.cnt<=10000*(1+Nd.A9 kids):=by
      have big:kids≠[]->b'.Av=true->b'.Av=true/\b'.cnt<=10000*(1+Nd.A9 kids):=fun hk hv=>by
       refine⟨hv,?_⟩;have:=cK hv;match kids,hk with
       | a::l,_ =>
         simp only[Nd.A9];have:=fJ a;omega
      have sml:b'.Av=true/\b'.cnt<=10000->b'.Av=true/\b'.cnt<=10000*(1+Nd.A9 kids):=fun hv=>⟨hv.1,by omega⟩
      unfold Dz at hb;by_cases k2:k=2
      . rw[if_pos k2]at hb;subst k2;exact sml (AU0 hx hs f1 hb)
      . rw[if_neg k2]at hb;by_cases k3:k=3\/k=4
        . rw[if_pos k3]at hb;have:t.data.toList.all DH=true/\t.size<=1000:=by
           rcases k3 with k3|k3
           . subst k3;exact AED f1
           . subst k3;exact AE4 f1
          exact sml (AHJ hx hs this.1 this.2 hb)
        . rw[if_neg k3]at hb;have hne:kids≠[]:=by
           rintro rfl;unfold Dh at f2;repeat' split at f2
           all_goals first
            | (cases f2;done)
            | skip
           all_goals simp at f2
           all_goals omega
          refine big hne ?_;repeat' split at hb
          all_goals first
           | exact(ET hb).2
           | skip
          . unfold Ig at hb;repeat' split at hb
            . simp[okB]at hb
            . simp[okB]at hb
            . exact ZV hb
          . unfold ID at hb;repeat' split at hb
            . simp[okB]at hb
            . exact(ET hb).2
     obtain⟨e1,e2⟩:=APB key.1 hr;exact⟨e1,by rw[e2,hc];exact key.2⟩
theorem AA6 {p:Nat->Nd->Prop}(kids:List Nd)(h : ¬ ∀j n,kids[j]?=some n->p j n):∃j n,kids[j]?=some n/\¬p j n/\∀i k,i<j->kids[i]?=some k->p i k:=by
 have key : ∀L,L<=kids.length->(∀i k,i<L->kids[i]?=some k->p i k)\/∃j n,kids[j]?=some n/\¬p j n/\∀i k,i<j->kids[i]?=some k->p i k:=by
  intro L;induction L with
  | zero=>intro _;exact .inl fun i k h _=>absurd h (Q3 _)
  | succ L ih =>
    intro hL;rcases ih (by omega)with h1|h1
    . have hg:kids[L]?=some kids[L]:=BP (by omega);by_cases hp:p L kids[L]
      . refine .inl fun i k hi hk=>?_
        by_cases e:i=L
        . subst e;rw[hg]at hk;cases hk;exact hp
        . exact h1 i k (by omega) hk
      . exact .inr ⟨L,_,hg,hp,h1⟩
    . exact .inr h1
 rcases key kids.length (BW _)with h1|h1
 . exact absurd (fun j n hj=>h1 j n (Bv.1 hj).1 hj) h
 . exact h1
def jR (x:Ae)(m:Nat)(n:Nd)(src:List Int)(s:AM):Prop:=∀(j:Nat) (k:Nd),n.kids[j]?=some k->AQ AD 55 [Bf x m,At k,.c (Ab (src++[(j:Int)])),Ai (DZ n.kind j s)] m (BI x.f) (BI x.f) (BS (Lj x s src n.kind j k))
theorem AGt (x:Ae)(m:Nat)(n:Nd)(src:List Int)(s:AM)(J:Nat)(hs:s.ok=true)(hk:Dh n.kind n.AF n.kids.length=true)(Ev:n.kind≠1)(hl:n.kids.length<=1000)(DG:src.length<=100)(BU:jR x m n src s)(hJ:J<=n.kids.length)(ha : ∀j k,j<J->n.kids[j]?=some k->Lj x s src n.kind j k≠none)(L:List AA)(hL:NI x s src n.kind 0 n.kids=L)(j:Nat)(hj:j<J) :
 ∃k B,n.kids[j]?=some k/\L[j]?=some B/\Lj x s src n.kind j k=some B/\AQ AD 55 [Bf x m,At k,.c (Ab (src++[(j:Int)])),Ai (DZ n.kind j s)] m (BI x.f) (BI x.f) (.ret (BD B)):=by
 obtain⟨k,hkj⟩:∃k,n.kids[j]?=some k:=⟨_,BP (by omega)⟩
 have h1:=BU j k hkj;cases hb:Lj x s src n.kind j k with
 | none=>exact absurd hb (ha j k hj hkj)
 | some B =>
   rw[hb]at h1;refine⟨k,B,hkj,?_,hb,h1⟩;rw[<-hL,AGW x s src n.kind 0 n.kids j k hkj,Nat.zero_add,hb];rfl
theorem AUj (x:Ae)(m:Nat)(n:Nd)(src:List Int)(s:AM)(hs:s.ok=true)(hk:Dh n.kind n.AF n.kids.length=true)(Ev:n.kind≠1)(hl:n.kids.length<=1000)(DG:src.length<=100)(BU:jR x m n src s)(ha : ∀j k,n.kids[j]?=some k->Lj x s src n.kind j k≠none) :
 Q7 AD 161 [Bf x m,At n,.c (Ab src),Ai s] m (BI x.f) (BI x.f) 41 (AA.rows (NI x s src n.kind 0 n.kids)).flatten n.kids.length 11:=by
 have hlen:=nV x s src n.kind 0 n.kids;obtain⟨L,hL⟩:=AE (NI x s src n.kind 0 n.kids);have hR:=AGt x m n src s n.kids.length hs hk Ev hl DG BU (BW _) (fun j k _ h=>ha j k h) L hL;rw[hL]at hlen ⊢;obtain⟨kd,t,c,kids⟩:=n;simp only at hk Ev hl hR hlen ⊢;obtain⟨rs,Ak⟩:=AE (Nd.rows kids);have Am:rs.length=kids.length:=by rw[<-Ak,G0]
 obtain⟨ss,hss⟩:=AE (Ab src);have ER:(kids.length:Int)<=9223372036854775807:=by omega
 have Ew:128*(kids.length:Int)<=281474976710656:=by omega
 obtain⟨N,hN⟩:=AE kids.length;rw[hN]at hk hl hR hlen Am ER Ew ⊢;simp only[At,Nd.vs,Nd.row,Al,A8,Ak,hss];unfold Bf Ai;refine enO Tryz.func161 Tryz.ntmps161 ?_;refine qy (cj @Am<|cj @ER<|cj @Ew<|YN) trivial ⟨?_⟩;have e0:=cD L hlen.symm;simp only[Bo]at e0;rw[e0];refine lp (ι:={ k:Nat // k<=N }) (fun k=>[(21,.c (.int .i64 (k.1:Int)))]) (fun k=>[O.mp (Cf m (BI x.f)),O.box 33 [.c (.int .i64 kd),.c (.str t),.c (.int .i64 c),.c (.sl rs)] false,O.box 35 [.c (.int .i64 s.level),.c (.bool s.GJ)] false,O.box 41 (Gq L k.1) false]) (fun k=>N - k.1) ⟨0,Cc _⟩ ?_ ?_;all_goals simp only[Br,Bl,B7,BC,Az]
 . refine Le.BV (by simp[A5])
 . rintro ⟨k,hkN⟩;simp only at hkN ⊢;by_cases hlt:k<N
   . obtain⟨q,B,hq,hB,_,hc⟩:=hR k hlt;have BN:rs[k]?=some q.row:=by rw[<-Ak];exact N1 hq
     have CH:=gx BN;have QJ:k<rs.length:=by omega
     have M5:=mj kd (k:Int) s;rw[AGU hs hk Ev hlt]at M5;have hcon:=kM src [(k:Int)] (by omega) (by simp) (by simp);have hw:Ad.wrap ((k:Int)+1)=((k+1:Nat):Int):=by rw[Aq];simp
     have My:k<L.length:=by omega
     have hput:=cF L k My;have Wd:L[k]=B:=by rw[BP My]at hB;exact JW hB
     have hfit:k*11+11<=(Gq L k).length:=by rw[cE _ _ (by omega)];omega
     rw[Wd]at hput;obtain⟨S',GL⟩:∃S',DZ kd (k:Int) s=S':=⟨_,rfl⟩
     rw[GL]at M5 hc;unfold VO at M5;unfold Bf Ai At at hc;simp only[Ay]at hc;unfold Ai at M5;have LY:Ab [(k:Int)]=.sl [[.int .i64 (k:Int)]]:=rfl;rw[LY,hss]at hcon;obtain⟨sk,hsk⟩:=AE (Ab (src++[(k:Int)]));rw[hsk]at hcon hc;simp only[Af]at M5;refine qy (cj @hlt<|cj @hw<|cj @Am<|cj @BN<|cj @CH<|cj @QJ<|cj @hfit<|cj @hput<|YN) (cj M5<|cj hcon<|cj hc<|trivial) ⟨?_⟩;refine⟨⟨k+1,hlt⟩,by simp only;omega,?_⟩;refine Le.H5 4 (Fg rfl) (by simp[A5,OU]) (by simp[OU]) (by simp[V.BT,V.BA]) (by simp[O.BA,V.BT,V.BA,OU])
   . obtain rfl:k=N:=by omega
     have WV:Gq L k=(AA.rows L).flatten.map V.c:=by rw[<-hlen];exact rA L
     rw[WV];refine qy (cj @hlt<|cj @Am<|YN) trivial ⟨?_⟩;refine⟨3,by decide,by simp[OT,AZ,Aa,AU,YN],rfl,by simp⟩
theorem AUk (x:Ae)(m:Nat)(n:Nd)(src:List Int)(s:AM)(hs:s.ok=true)(hk:Dh n.kind n.AF n.kids.length=true)(Ev:n.kind≠1)(hl:n.kids.length<=1000)(DG:src.length<=100)(BU:jR x m n src s)(J:Nat)(q0:Nd)(hJ:n.kids[J]?=some q0)(km:Lj x s src n.kind J q0=none)(ha : ∀j k,j<J->n.kids[j]?=some k->Lj x s src n.kind j k≠none) :
 AQ AD 161 [Bf x m,At n,.c (Ab src),Ai s] m (BI x.f) (BI x.f) (.JT fP):=by
 have WN:J<n.kids.length:=(Bv.1 hJ).1;have hlen:=nV x s src n.kind 0 n.kids;obtain⟨L,hL⟩:=AE (NI x s src n.kind 0 n.kids);have hR:=AGt x m n src s J hs hk Ev hl DG BU (by omega) ha L hL;have hP:=BU J q0 hJ;rw[km]at hP;rw[hL]at hlen;obtain⟨kd,t,c,kids⟩:=n;simp only at hk Ev hl hR hlen hJ WN hP ⊢;obtain⟨rs,Ak⟩:=AE (Nd.rows kids);have Am:rs.length=kids.length:=by rw[<-Ak,G0]
 obtain⟨ss,hss⟩:=AE (Ab src);have ER:(kids.length:Int)<=9223372036854775807:=by omega
 have Ew:128*(kids.length:Int)<=281474976710656:=by omega
 obtain⟨N,hN⟩:=AE kids.length;rw[hN]at hk hl hlen Am ER Ew WN;simp only[At,Nd.vs,Nd.row,Al,A8,Ak,hss];unfold Bf Ai;refine CP Tryz.func161 Tryz.ntmps161 ?_;refine qy (cj @Am<|cj @ER<|cj @Ew<|YN) trivial ⟨?_⟩;have e0:=cD L hlen.symm;simp only[Bo]at e0;rw[e0];refine lp (ι:={ k:Nat // k<=J }) (fun k=>[(21,.c (.int .i64 (k.1:Int)))]) (fun k=>[O.mp (Cf m (BI x.f)),O.box 33 [.c (.int .i64 kd),.c (.str t),.c (.int .i64 c),.c (.sl rs)] false,O.box 35 [.c (.int .i64 s.level),.c (.bool s.GJ)] false,O.box 41 (Gq L k.1) false]) (fun k=>J - k.1) ⟨0,Cc _⟩ ?_ ?_;all_goals simp only[Br,Bl,B7,BC,Az]
 . refine Le.BV (by simp[A5])
 . rintro ⟨k,hkN⟩;simp only at hkN ⊢;have Y9:k<N:=by omega
   have QJ:k<rs.length:=by omega
   have M5:=mj kd (k:Int) s;rw[AGU hs hk Ev Y9]at M5;have hcon:=kM src [(k:Int)] (by omega) (by simp) (by simp);have hw:Ad.wrap ((k:Int)+1)=((k+1:Nat):Int):=by rw[Aq];simp
   have My:k<L.length:=by omega
   have hput:=cF L k My;have hfit:k*11+11<=(Gq L k).length:=by rw[cE _ _ (by omega)];omega
   have LY:Ab [(k:Int)]=.sl [[.int .i64 (k:Int)]]:=rfl;rw[LY,hss]at hcon;unfold VO Ai at M5;simp only[Af]at M5;by_cases hlt:k<J
   . obtain⟨q,B,hq,hB,_,hc⟩:=hR k hlt;have BN:rs[k]?=some q.row:=by rw[<-Ak];exact N1 hq
     have CH:=gx BN;have Wd:L[k]=B:=by rw[BP My]at hB;exact JW hB
     rw[Wd]at hput;obtain⟨S',GL⟩:∃S',DZ kd (k:Int) s=S':=⟨_,rfl⟩
     rw[GL]at M5 hc;unfold Bf Ai At at hc;simp only[Ay]at hc;obtain⟨sk,hsk⟩:=AE (Ab (src++[(k:Int)]));rw[hsk]at hcon hc;refine qy (cj @Y9<|cj @hw<|cj @Am<|cj @BN<|cj @CH<|cj @QJ<|cj @hfit<|cj @hput<|YN) (cj M5<|cj hcon<|cj hc<|trivial) ⟨?_⟩;refine⟨⟨k+1,hlt⟩,by simp only;omega,?_⟩;refine Le.H5 4 (Fg rfl) (by simp[A5,OU]) (by simp[OU]) (by simp[V.BT,V.BA]) (by simp[O.BA,V.BT,V.BA,OU])
   . obtain rfl:k=J:=by omega
     have BN:rs[k]?=some q0.row:=by rw[<-Ak];exact N1 hJ
     have CH:=gx BN;obtain⟨S',GL⟩:∃S',DZ kd (k:Int) s=S':=⟨_,rfl⟩
     rw[GL]at M5 hP;unfold Bf Ai At at hP;simp only[BS]at hP;obtain⟨sk,hsk⟩:=AE (Ab (src++[(k:Int)]));rw[hsk]at hcon hP;exact qz (cj @Y9<|cj @hw<|cj @Am<|cj @BN<|cj @CH<|cj @QJ<|cj @hfit<|YN) (cj M5<|cj hcon<|cj hP<|trivial)
theorem AUm {d:List Int}{c:Int}(hd : ∀k∈d,0<=k/\k<=7)(hc:0<=c/\c<=7):∀k∈N9 d c,0<=k/\k<=7:=by
 intro k hk;unfold N9 at hk;split at hk
 . rcases I4.1 hk with h|h
   . exact hd k h
   . simp only[Qy]at h;omega
 . split at hk
   . rcases I4.1 hk with h|h
     . rcases xt h with h|h
       . exact hd k h
       . omega
     . simp only[Qy]at h;omega
   . rcases I4.1 hk with h|h
     . exact hd k h
     . simp only[Qy]at h;omega
theorem ABC : ∀(own d:List Int),(∀k∈d,0<=k/\k<=7)->(∀k∈own,0<=k/\k<=7)->∀k∈own.foldl N9 d,0<=k/\k<=7
 | [],d,hd,_=>hd
 | c::r,d,hd,ho=>by
   rw[Bl];exact ABC r _ (AUm hd (ho c Er)) fun k hk=>ho k (Ff _ hk)
theorem ASs {own:List Int}(h : ∀k∈own,0<=k/\k<=7):∀k∈LB own,0<=k/\k<=7:=by
 intro k hk;have hf:=ABC own [] (fun k h=>by cases h) h;unfold LB Nh Fl at hk;split at hk
 . rcases xt hk with h|h
   . exact hf k h
   . omega
 . exact hf k hk
theorem sD : ∀(l pre:List En),Od pre l=true->∀e∈l,e.ok=true
 | [],_,_,e,he=>by cases he
 | a::l,pre,h,e,he=>by
   simp only[Od,An]at h;rcases Cb.1 he with rfl|he
   . exact h.1
   . exact sD l _ h.2.2 e he
theorem AKz {l:List En}(h : ∀e∈l,e.ok=true)(t:ByteArray):0<=(FC l t).cls/\(FC l t).cls<=7:=by
 induction l with
 | nil=>simp[FC]
 | cons a l ih =>
   simp only[FC];split
   . have:=h a Er;simp only[En.ok,An,decide_eq_true_eq]at this;omega
   . exact ih fun e he=>h e (Ff _ he)
theorem AAR {l:List En}(h : ∀e∈l,e.ok=true):∀n:Nat,∀b:Nd,SizeOf.sizeOf b<n->0<=LO l b/\LO l b<=7
 | 0,_,hn=>absurd hn (Q3 _)
 | n+1,b,hn=>by
   rw[rK];split
   . exact AKz h _
   . split
     . obtain⟨k,t,c,kids⟩:=b;simp only;unfold V9;match kids,hn with
       | [],_=>simp only;omega
       | ⟨k',t',c',[]⟩::_,_=>simp only;omega
       | ⟨k',t',c',[y]⟩::_,hn =>
         simp only;refine AAR h n y ?_;simp at hn;omega
       | ⟨k',t',c',_::_::_⟩::_,_=>simp only;omega
     . split<;>omega
theorem vN {l:List En}(h:Mr l=true)(kids:List Nd):∀k∈LB (Ga l kids),0<=k/\k<=7:=by
 refine ASs fun k hk=>?_
 obtain⟨b,_,rfl⟩:=DC.1 hk;unfold Mr at h;rw[An]at h;exact AAR (sD l [] h.1) _ b (Nat.lt_succ_self _)
theorem AUP (l r:Nat)(hl:l<8)(hr:r<8):(VL.flatten[l*8+r]?)=some (PM l r):=by
 match l,hl with
 | 0,_|1,_|2,_|3,_|4,_|5,_|6,_|7,_ =>
   all_goals
    match r,hr with
    | 0,_|1,_|2,_|3,_|4,_|5,_|6,_|7,_=>all_goals rfl
theorem AUQ (l r:Nat)(hl:l<8)(hr:r<8):(((VL.flatten.map fun n=>V.c (.int .i64 n)).drop (l*8)).take 8)[r]?=some (.c (.int .i64 (PM l r))):=by
 rw[List.getElem?_take,if_pos hr,List.getElem?_drop,List.getElem?_map,AUP l r hl hr];rfl
theorem wg (l r:Nat)(hl:l<8)(hr:r<8): -3<=PM l r/\PM l r<=1:=by
 match l,hl with
 | 0,_|1,_|2,_|3,_|4,_|5,_|6,_|7,_ =>
   all_goals
    match r,hr with
    | 0,_|1,_|2,_|3,_|4,_|5,_|6,_|7,_=>all_goals decide
theorem Nx (a b:Int):a<=mx a b:=by unfold mx;split<;>omega
theorem AD2 (a b:Int):b<=mx a b:=by unfold mx;split<;>omega
theorem ASn {a b:Int}(ha:0<=a)(hb:0<b):0<=FI a b:=by
 unfold FI;rw[if_pos ha];exact Int.ediv_nonneg (by omega) (by omega)
theorem AUN (l r:Nat){v:Int}:0<=Lk l r v:=by
 unfold Lk;repeat' split
 all_goals omega
theorem AGl {q:Int}(hq:0<=q)(l r:Nat)(v:Int):0<=Md q l r v:=by
 unfold Md XP;split
 . omega
 . split
   . have:=AUN l r (v:=v);exact ASn (Int.mul_nonneg hq (by omega)) (by omega)
   . omega
theorem AGp {q:Int}(hq:0<=q)(v:Int):∀(l:List Int) (p:Int),∀k∈R0 q v p l,0<=k
 | [],_,k,hk=>by cases hk
 | c::l,p,k,hk=>by
   simp only[R0,Cb]at hk;rcases hk with rfl|hk
   . exact AGl hq _ _ _
   . exact AGp hq v l c k hk
theorem AUV {q:Int}(hq:0<=q)(v:Int)(l:List Int):∀k∈DK q v l,0<=k:=by
 intro k hk;match l with
 | []=>cases hk
 | c::l =>
   simp only[DK,Cb]at hk;rcases hk with rfl|hk
   . omega
   . exact AGp hq v l c k hk
theorem AAm : ∀ {kids:List AA} {sp:List Int} {e:Int},0<=e->(∀b∈kids,0<=b.w)->(∀k∈sp,0<=k)->0<=Eh kids sp e
 | b::l,k::t,e,he,hb,hk=>by
   simp only[Eh];have h1:=hb b Er;have h2:=hk k Er;exact AAm (by omega) (fun c hc=>hb c (Ff _ hc)) fun j hj=>hk j (Ff _ hj)
 | [],_,e,he,_,_=>by unfold Eh;exact he
 | _::_,[],e,he,_,_=>by unfold Eh;exact he
theorem nK {kids:List AA}{sp:List Int}{c:AA}(h:okB (El kids sp)=some c)(hb : ∀b∈kids,0<=b.w)(hk : ∀k∈sp,0<=k):0<=c.w:=by
 unfold El at h;split at h
 . simp[okB]at h
 . split at h
   . simp[okB]at h
   . unfold Rl at h;split at h
     . simp[okB]at h
     . simp only[okB,if_true,BE]at h;subst h;exact AAm (by omega) hb hk
theorem sG {x:Ae}(hx:x.Ok){s:AM}(hs:s.ok=true)(t:ByteArray):0<=(x.gl s t).w:=by
 obtain⟨p1,p2⟩:=GD hx.val hs;exact(xO hx.val p1 p2 t).1
theorem ASU (n:Nat):∀k∈List.replicate n (0:Int),0<=k:=fun k hk=>by rw[List.eq_of_mem_replicate hk];omega
theorem AHK {x:Ae}(hx:x.Ok){s:AM}(hs:s.ok=true){t:ByteArray}{b:AA}(h:x.NM s t=some b):0<=b.w:=by
 unfold Ae.NM at h;refine nK h (fun c hc=>?_) (ASU _);obtain⟨ch,_,rfl⟩:=DC.1 hc;unfold Ae.OX;split
 . exact Zg (U8 hx hs) (by omega)
 . exact sG hx hs _
theorem AJ9 {b:AA}{a:Int}{c:AA}(h:okB (Ic b a)=some c):c.w=b.w:=by
 unfold Ic at h;repeat' split at h
 all_goals simp[okB]at h
 subst h;rfl
theorem AU1 {x:Ae}(hx:x.Ok){s:AM}(hs:s.ok=true){t:ByteArray}{b:AA}(h:x.sym s t=some b):0<=b.w:=by
 unfold Ae.sym at h;split at h
 . unfold Ae.QY at h;split at h
   . cases h
   . rename_i c hc;refine nK h (fun d hd=>?_) (by simp);simp only[Qy]at hd;subst hd;rw[AJ9 hc];exact sG hx hs _
 . split at h
   . cases h;exact sG hx hs t
   . exact AHK hx hs h
theorem AAs : ∀(l:List AA) (e:Int×Int×Int×Int),e.2.1<=(Mu e l).2.1
 | [],e=>Mh _
 | b::l,e=>by
   have h1:=AAs l (mn e.1 b.x,mx e.2.1 (b.x+b.w),mx e.2.2.1 (b.y+b.h),mx e.2.2.2 (b.d - b.y));have h2:=Nx e.2.1 (b.x+b.w);simp only[Mu];simp only at h1;omega
theorem ATY {f:AI}{s:AM}{b:AA}{sub sup:List AA}(hb:0<=b.w):0<=(Iz f s b sub sup).w:=by
 show 0<=(EN (Qi f s b sub sup)).2.1;unfold Qi EN;refine Ti ?_ (AAs _ _);simp only[AA.at_];omega
theorem ADg : ∀(l:List AA) (w:Int),w<=Uq w l
 | [],w=>Mh _
 | b::l,w=>Ti (Nx _ _) (ADg l _)
theorem ux : ∀(l:List AA) (w:Int),w<=GO w l
 | [],w=>Mh _
 | b::l,w=>Ti (Nx _ _) (ux l _)
theorem AO6 {f:AI}{s:AM}{b:AA}{sub sup:List AA}:0<=(Iu f s b sub sup).w:=by
 show 0<=Uq (GY b sub sup) (TQ f s b sub sup);refine Ti ?_ (ADg _ _);unfold GY;exact Ti (Nx 0 b.w) (Ti (ux sub _) (ux sup _))
theorem AK8 {f:AI}{s:AM}{n d:AA}:0<=(L5 f s n d).w:=Ti (Nx 0 n.w) (Nx _ d.w)
theorem ASN {x:Ae}(hx:x.Ok){s:AM}(hs:s.ok=true){b:AA}{G8:List AA}:0<=(Jn x.f s b G8).w:=by
 show 0<=Xh x.f s G8+(DQ x.f s b).w+mx 0 b.w;obtain⟨p1,p2⟩:=GD hx.val hs;have h1:=(find_ok hx.val p1 p2 (name:=KO) (by decide) (GC x.f s b)).2.w1;have e:DQ x.f s b=(F4 x.f KO (GC x.f s b) (BK x.f.params s)).1:=rfl;rw[<-e]at h1;have h2:=Nx 0 b.w;have h3:0<=Xh x.f s G8:=by
  cases G8 with
  | nil=>exact Mh _
  | cons g l=>exact Nx 0 _
 omega
theorem AIw {f:AI}{s:AM}{name:ByteArray}{b a:AA}:0<=(Na f s name b a).w:=by
 show 0<=mx (mx 0 _) _;exact Ti (Nx 0 _) (Nx _ _)
theorem AAh {x:Ae}(hx:x.Ok){s:AM}(hs:s.ok=true){name:ByteArray}(hn:F2 name=true)(need:Int):0<=(Hl x.f name need (x.sz s)).1.w:=by
 obtain⟨p1,p2⟩:=GD hx.val hs;rcases rf hx.val p1 p2 hn need with h|⟨_,S,h1,_,_,_,_,h2⟩
 . unfold Ae.sz;rw[h.2];exact Mh _
 . unfold Ae.sz;rw[h2];exact h1.w1
theorem AQi {t:ByteArray}(h:(decide (t.size=2) && Da (hasB Kj) t)=true):F2 (Hc t 0)=true/\F2 (Hc t 1)=true:=by
 simp only[An,decide_eq_true_eq,Da,Ee]at h;obtain⟨h1,h2⟩:=h;have key : ∀i,i<t.size->F2 (Hc t i)=true:=by
  intro i hi;unfold Hc;rw[AAt t i hi];have hl:i<t.data.toList.length:=by rw[Array.length_toList];exact hi
  have:=h2 (t.data.toList[i]) (List.getElem_mem hl);unfold hasB Kj at this;simp at this;simp[F2,DH,ByteArray.size];omega
 exact⟨key 0 (by omega),key 1 (by omega)⟩
theorem rR (AF:Nat):∀(l:List AA) (i:Nat) (w:Int),w<=If AF i w l
 | [],i,w=>Mh _
 | b::l,i,w=>by
   simp only[If];refine Ti ?_ (rR AF l _ _);split
   . exact Nx _ _
   . exact Mh _
theorem zb {q:Int}(hq:0<=q)(AF:Nat)(cells:List AA):∀c,0<=Gp q AF cells c
 | 0=>Mh _
 | c+1=>by
   simp only[Gp];have h1:=zb hq AF cells c;have h2:0<=JB AF cells c:=rR _ _ _ _;omega
theorem AJT {x:Ae}(hx:x.Ok){s:AM}(hs:s.ok=true){AF:Nat}{cells:List AA}{b:AA}(h:okB (ID x.f s AF cells)=some b):0<=b.w:=by
 unfold ID at h;split at h
 . simp[okB]at h
 . rw[(ET h).1];have h1:=zb (U8 hx hs) AF cells (AF - 1);have h2:0<=JB AF cells (AF - 1):=rR _ _ _ _;show 0<=Gp _ AF cells (AF - 1)+JB AF cells (AF - 1);have e:x.BZ s=scale x.f.params.BZ (BK x.f.params s):=rfl;rw[<-e];omega
theorem AOM {x:Ae}(hx:x.Ok){s:AM}(hs:s.ok=true){k:Int}{t:ByteArray}{c:Int}{kids:List Nd}{L:List AA}(ht:I2 k t=true)(hL : ∀b∈L,0<=b.w){b:AA}(h:Dz x s k t c kids L=some b):0<=b.w:=by
 have hg : ∀i,0<=(L.getD i AA.zero).w:=by
  intro i;rw[List.getD_eq_getElem?_getD];cases hi:L[i]? with
  | none=>exact Mh _
  | some b=>exact hL b (List.mem_of_getElem? hi)
 unfold Dz at h;split at h
 . exact AU1 hx hs h
 . split at h
   . exact AHK hx hs h
   . split at h
     . rw[(ET h).1];exact AK8
     . split at h
       . rw[(ET h).1];exact ASN hx hs
       . split at h
         . rw[(ET h).1];exact AIw
         . split at h
           . rename_i Ul;subst Ul;obtain⟨n1,n2⟩:=AQi ht;unfold Ig at h;split at h
             . simp[okB]at h
             . split at h
               . simp[okB]at h
               . refine nK h (fun d hd=>?_) (by simp);simp only[Cb,List.not_mem_nil,or_false]at hd;rcases hd with rfl|rfl|rfl
                 . exact AAh hx hs n1 _
                 . exact hg 0
                 . exact AAh hx hs n2 _
           . split at h
             . exact AJT hx hs h
             . split at h
               . rw[(ET h).1];exact AO6
               . rw[(ET h).1];exact ATY (hg 0)
mutual
theorem AS0 {x:Ae}(hx:x.Ok):∀(n:Nd) (s:AM) (src:List Int) (b:AA),s.ok=true->n.F5=true->Db x s src n=some b->0<=b.w
 | ⟨k,t,c,kids⟩,s,src,b,hs,hf,h=>by
   simp only[Nd.F5,An]at hf;unfold Db at h;split at h
   . cases h;unfold Ae.empty;show 0<=if src=[]then 0 else scale (x.BZ s) 50
     split
     . omega
     . exact Zg (U8 hx hs) (by omega)
   . split at h
     . cases h
     . rename_i L hL;split at h
       . cases h
       . rename_i c' hc;cases h;show 0<=c'.w;exact nK hc (ADJ hx kids k s src 0 L hs hf.2 hL) (AUV (U8 hx hs) _ _)
theorem ADJ {x:Ae}(hx:x.Ok):∀(l:List Nd) (k:Int) (s:AM) (src:List Int) (i:Nat) (L:List AA),s.ok=true->Nd.GX k l=true->FF x s src i l=some L->∀b∈L,0<=b.w
 | [],k,s,src,i,L,hs,hf,h,b,hb=>by
   simp only[FF,BE]at h;subst h;cases hb
 | n::l,k,s,src,i,L,hs,hf,h,b,hb=>by
   simp only[Nd.GX,An]at hf;unfold FF at h;split at h
   . cases h
   . rename_i a ha;split at h
     . cases h
     . rename_i r hr;cases h;rcases Cb.1 hb with rfl|hb
       . exact AOZ hx n s _ _ hs hf.1.2 ha
       . exact ADJ hx l k s src (i+1) r hs hf.2 hr b hb
theorem AOZ {x:Ae}(hx:x.Ok):∀(n:Nd) (s:AM) (src:List Int) (b:AA),s.ok=true->n.F5=true->Ei x s src n=some b->0<=b.w
 | ⟨k,t,c,kids⟩,s,src,b,hs,hf,h=>by
   simp only[Nd.F5,An]at hf;unfold Ei at h;split at h
   . cases h
   . rename_i L hL;split at h
     . cases h
     . rename_i c' hc;cases h;show 0<=c'.w;exact AOM hx hs hf.1.1 (wZ hx kids k k s src 0 L hs hf.2 hL) hc
theorem wZ {x:Ae}(hx:x.Ok):∀(l:List Nd) (k k':Int) (s:AM) (src:List Int) (i:Nat) (L:List AA),s.ok=true->Nd.GX k' l=true->FJ x s src k i l=some L->∀b∈L,0<=b.w
 | [],k,k',s,src,i,L,hs,hf,h,b,hb=>by
   simp only[FJ,BE]at h;subst h;cases hb
 | n::l,k,k',s,src,i,L,hs,hf,h,b,hb=>by
   simp only[Nd.GX,An]at hf;unfold FJ at h;split at h
   . cases h
   . rename_i a ha;split at h
     . cases h
     . rename_i r hr;cases h;rcases Cb.1 hb with rfl|hb
       . exact AS0 hx n _ _ _ (wX hs) hf.1.2 ha
       . exact wZ hx l k k' s src (i+1) r hs hf.2 hr b hb
end
end Go.Proofs.YtpodcjcajanldaaGreat
