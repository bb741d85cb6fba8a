/- Part of the proof of breakpointLength.proved. Conditions: none. (Joined and shortened by a program.) -/
import Derived.Test.YtpodcjcajanldaaGreatP45
set_option linter.unusedVariables false
set_option linter.unusedSimpArgs false
set_option maxRecDepth 100000
set_option maxHeartbeats 16000000
open Option.some renaming injEq→BE
open List renaming mem_cons→Cb,getElem?_cons_succ→Kd,take_of_length_le→D9,getElem?_eq_getElem→BP,mem_of_getElem?→C6
open Int renaming le_refl→Mh
open Bool renaming and_eq_true→An
namespace Go.Proofs.YtpodcjcajanldaaGreat
open Go.RowKit
theorem nL {kids:List AA}{sp:List Int}{c:AA}(h:okB (El kids sp)=some c):c.y=0:=by
 rw[(VD h).1];rfl
theorem ALI (x:Ae)(s:AM)(t:ByteArray):(x.gl s t).y=0:=by
 unfold Ae.gl Cl;split<;>rfl
theorem AU2 {x:Ae}{s:AM}{t:ByteArray}{b:AA}(h:x.sym s t=some b):b.y=0:=by
 unfold Ae.sym at h;split at h
 . unfold Ae.QY at h;split at h
   . cases h
   . exact nL h
 . split at h
   . cases h;exact ALI x s t
   . exact nL h
theorem AON {x:Ae}{s:AM}{k:Int}{t:ByteArray}{c:Int}{kids:List Nd}{L:List AA}{b:AA}(h:Dz x s k t c kids L=some b):b.y=0:=by
 unfold Dz at h;split at h
 . exact AU2 h
 . split at h
   . exact nL h
   . split at h
     . rw[(ET h).1];rfl
     . split at h
       . rw[(ET h).1];rfl
       . split at h
         . rw[(ET h).1];rfl
         . split at h
           . unfold Ig at h;split at h
             . simp[okB]at h
             . split at h
               . simp[okB]at h
               . exact nL h
           . split at h
             . unfold ID at h;split at h
               . simp[okB]at h
               . rw[(ET h).1];rfl
             . split at h
               . rw[(ET h).1];rfl
               . rw[(ET h).1];rfl
theorem AOa {x:Ae} : ∀(n:Nd) {s:AM} {src:List Int} {b:AA},Ei x s src n=some b->b.y=0
 | ⟨k,t,c,kids⟩,s,src,b,h=>by
   unfold Ei at h;split at h
   . cases h
   . split at h
     . cases h
     . rename_i c' hc;cases h;have h2:=AON hc;show c'.y=0;exact h2
theorem ADK {x:Ae}{s:AM}{src:List Int} : ∀(l:List Nd) (i:Nat) (L:List AA),FF x s src i l=some L->(∀b∈L,b.y=0)/\L.length=l.length
 | [],i,L,h=>by
   simp only[FF,BE]at h;subst h;exact⟨fun b hb=>(by cases hb),rfl⟩
 | n::l,i,L,h=>by
   unfold FF at h;split at h
   . cases h
   . rename_i a ha;split at h
     . cases h
     . rename_i r hr;cases h;obtain⟨h1,h2⟩:=ADK l (i+1) r hr;refine⟨fun b hb=>?_,by simp[h2]⟩;rcases Cb.1 hb with rfl|hb
       . exact AOa n ha
       . exact h1 b hb
theorem AHF : ∀(l:List AA) (h:Int),h<=I3 l h/\∀b∈l,b.y+b.h<=I3 l h
 | [],h=>⟨Mh _,fun b hb=>by cases hb⟩
 | c::l,h=>by
   obtain⟨h1,h2⟩:=AHF l (mx h (c.y+c.h));have e1:=Nx h (c.y+c.h);have e2:=AD2 h (c.y+c.h);simp only[I3];refine⟨by omega,fun b hb=>?_⟩;rcases Cb.1 hb with rfl|hb
   . omega
   . exact h2 b hb
theorem zt : ∀(l:List AA) (h:Int),h<=Ib l h/\∀b∈l,b.d - b.y<=Ib l h
 | [],h=>⟨Mh _,fun b hb=>by cases hb⟩
 | c::l,h=>by
   obtain⟨h1,h2⟩:=zt l (mx h (c.d - c.y));have e1:=Nx h (c.d - c.y);have e2:=AD2 h (c.d - c.y);simp only[Ib];refine⟨by omega,fun b hb=>?_⟩;rcases Cb.1 hb with rfl|hb
   . omega
   . exact h2 b hb
theorem AEs : ∀ {l:List AA} {t:List Int} {k:Nat} {b:AA} {s:Int} (e:Int),l[k]?=some b->t[k]?=some s->(FG l t e)[k]?=some (Eh (l.take k) (t.take k) e+s)
 | b'::l,s'::t,0,b,s,e,h1,h2=>by simp at h1 h2;subst h1 h2;rfl
 | b'::l,s'::t,k+1,b,s,e,h1,h2=>by
   simp only[Kd]at h1 h2;simp only[FG,Kd,List.take_succ_cons,Eh];exact AEs _ h1 h2
 | [],_,_,_,_,_,h,_=>by simp at h
 | _::_,[],_,_,_,_,_,h=>by simp at h
theorem AE3 : ∀ {l:List AA},AA.Hb l=true->∀c∈l,c.EE=true
 | b::l,h,c,hc=>by
   simp only[AA.Hb,An]at h;rcases Cb.1 hc with rfl|hc
   . exact h.1
   . exact AE3 h.2 c hc
theorem AO0 {b:AA}(h:b.EE=true):(-1073741824<=b.w/\b.w<=1073741824)/\(-1073741824<=b.h/\b.h<=1073741824)/\(-1073741824<=b.d/\b.d<=1073741824)/\(-1073741824<=b.x/\b.x<=1073741824):=by
 obtain⟨k,n,s,w,h',d,x,y,kids,o,src⟩:=b;simp only[AA.EE,An,AA.CZ,AA.lens,List.all_cons,Aw,decide_eq_true_eq]at h;show (-1073741824<=w/\w<=1073741824)/\(-1073741824<=h'/\h'<=1073741824)/\(-1073741824<=d/\d<=1073741824)/\(-1073741824<=x/\x<=1073741824)
 omega
structure yf (B:AA)(sp:List Int)(A:Nat->Int):Prop where
 len:sp.length=B.kids.length
 k9:B.kids.length<=20000
 a0:A 0=0
 ae:A B.kids.length=B.w
 FI : ∀k,k<B.kids.length->∃c v,B.kids[k]?=some c/\sp[k]?=some v/\c.x=A k+v/\c.y=0/\c.h<=B.h/\c.d<=B.d/\A (k+1)=c.x+c.w/\c.EE=true
theorem AI0 {x:Ae}{s:AM}{n:Nd}{b:AA}(h:Db x s [] n=some b):∃A,yf b (x.DK s n.kids) A:=by
 obtain⟨k,t,c,kids⟩:=n;unfold Db at h;split at h
 . rename_i hk;cases h;subst hk;exact⟨fun _=>0,rfl,Nat.zero_le _,rfl,rfl,fun k hk=>absurd hk (Nat.not_lt_zero _)⟩
 . split at h
   . cases h
   . rename_i L hL;split at h
     . cases h
     . rename_i C hC;cases h;obtain⟨h1,h2⟩:=ADK _ _ _ hL;obtain⟨r1,r2,r3⟩:=VD hC;obtain⟨v1,v2,v3,v4⟩:=DS r3;have hpl:=U6 (l:=L) 0 r2;have Bp:(D3 L (FG L (x.DK s kids) 0)).length=L.length:=ZZ hpl;have Oq:(C.mark 1 []).kids=D3 L (FG L (x.DK s kids) 0):=by rw[r1];rfl
       have eF:AA.Hb C.kids=true:=by
        have:C.EE=true:=by
         simp only[AA.Av,An]at r3;exact r3.1
        cases C;simp only[AA.EE,An]at this;exact this.2
       have hck:C.kids=D3 L (FG L (x.DK s kids) 0):=Oq;have Im:(C.mark 1 []).kids.length<=20000:=by
        have e:C.cnt=1+AA.A9 C.kids:=by cases C;rfl
        have:=OY C.kids;show C.kids.length<=20000;omega
       refine⟨fun k=>Eh (L.take k) ((x.DK s kids).take k) 0,by rw[Oq,Bp];exact r2,Im,by simp[Eh],?_,fun k hk=>?_⟩
       . rw[Oq,Bp,D9 (Nat.le_refl _),D9 (by omega)];show _=C.w;rw[r1];rfl
       . rw[Oq,Bp]at hk;obtain⟨c,hc⟩:∃c,L[k]?=some c:=⟨_,BP hk⟩
         obtain⟨v,hv⟩:∃v,(x.DK s kids)[k]?=some v:=⟨_,BP (by omega)⟩
         have hy:=h1 c (C6 hc);have hg:=vW hc (AEs 0 hc hv);refine⟨c.at_ (Eh (L.take k) ((x.DK s kids).take k) 0+v) c.y,v,by rw[Oq];exact hg,hv,rfl,hy,?_,?_,(by have e:=rz 0 hc hv;exact e),AE3 eF _ (by rw[hck];exact C6 hg)⟩
         . have:=(AHF L 0).2 c (C6 hc);show c.h<=C.h;rw[r1];show c.h<=I3 L 0;omega
         . have:=(zt L 0).2 c (C6 hc);show c.d<=C.d;rw[r1];show c.d<=Ib L 0;omega
theorem wD (x:Ae)(s:AM)(n:Nd):(∃e:Int,e≠0/\LD x s [] n=.Bk [BD AA.zero,Af e])\/(∃b,x.okB s=true/\n.Av=true/\Db x s [] n=some b/\LD x s [] n=.Bk [BD b,Af 0]):=by
 unfold LD T9;split
 . exact .inl ⟨1,by decide,rfl⟩
 . rename_i h;have hs:Ql [] 0=true:=rfl;simp only[Bool.not_eq_false,An]at h;rw[hs,if_neg (by simp)];cases hr:Db x s [] n with
   | none=>exact .inl ⟨6,by decide,rfl⟩
   | some b=>exact .inr ⟨b,h.1,h.2,rfl,rfl⟩
end Go.Proofs.YtpodcjcajanldaaGreat
