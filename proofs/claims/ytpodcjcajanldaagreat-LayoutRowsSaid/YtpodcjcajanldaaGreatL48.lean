/- Part of the proof of layoutBoxes.proved and layoutRows.proved. Conditions: none. (Joined and shortened by a program.) -/
import Derived.Test.YtpodcjcajanldaaGreatL46
import Derived.Test.YtpodcjcajanldaaGreatL47
set_option linter.unusedVariables false
set_option linter.unusedSimpArgs false
set_option maxRecDepth 100000
set_option maxHeartbeats 16000000
open Bool renaming and_eq_true→An,and_self→GR
open List renaming append_nil→D8,nil_append→Bh,cons_append→Bg,eq_nil_of_length_eq_zero→LJ,length_cons→BQ,length_nil→B6,getElem?_cons_zero→LK,filter_append→Z7,length_append→C3,getElem?_eq_some_iff→Bv,getElem?_eq_getElem→BP,filter_cons_of_neg→gq,filter_cons_of_pos→oO,map_append→EX,length_map→Cg,mem_map→DC,map_cons→Al,map_nil→A8,drop_succ_cons→Be,drop_zero→BO,foldl_cons→Bl,foldl_nil→B7,set_cons_zero→Ax,set_cons_succ→Az,getElem?_map→Co,take_add_one→Ve,take_of_length_le→D9,length→YA,mem_cons→Cb,mem_append→I4,pairwise_cons→AIR,pairwise_append→AIQ,append_assoc→EW,drop_eq_getElem_cons→Cz,mem_of_getElem?→C6,drop_of_length_le→C5
open Option.some renaming injEq→BE,inj→JW
open Nat renaming zero_add→Cu,le_refl→BW
open Go.IntKind renaming i64→Ad
open Go.Proofs.Tryz renaming prog→AD,func22→iN,results22→aq,results18→im,results48→YS,results19→yJ
namespace Go.Proofs.YtpodcjcajanldaaGreat
open Go.RowKit
def XQ (b:AA):List AA:=if b.KJ=0 then []else [b.at_ 0 0]
mutual
def AA.F9:AA->List AA
 | ⟨k,n,s,w,h,d,x,y,kids,o,src⟩=>XQ ⟨k,n,s,w,h,d,x,y,kids,o,src⟩++AA.Eb kids
def AA.Eb:List AA->List AA
 | []=>[]
 | b::l=>b.F9++AA.Eb l
end
theorem Uv (b:AA)(x y:Int):(b.at_ x y).F9=b.F9:=by cases b;rfl
theorem XS (w h d:Int)(kids:List AA):(CB w h d kids).F9=AA.Eb kids:=rfl
theorem ADw (w h d:Int):(Dw w h d).F9=[]:=rfl
mutual
theorem XR : ∀b:AA,b.CM J3=true->b.F9=[]
 | ⟨k,n,s,w,h,d,x,y,kids,o,src⟩,e=>by
   simp only[AA.CM,J3,An,decide_eq_true_eq]at e;simp only[AA.F9,ADx kids e.2,XQ,e.1.1,if_true,D8]
theorem ADx : ∀l:List AA,AA.Ca J3 l=true->AA.Eb l=[]
 | [],_=>rfl
 | b::l,e=>by
   simp only[AA.Ca,An]at e;simp only[AA.Eb,XR b e.1,ADx l e.2,D8]
end
theorem ADy : ∀(l:List AA) (t:List Int),t.length=l.length->AA.Eb (D3 l t)=AA.Eb l
 | [],t,_=>by cases t<;>rfl
 | b::l,[],h=>by simp at h
 | b::l,t::r,h=>by simp only[D3,AA.Eb,Uv,ADy l r (by simpa using h)]
theorem ADv {l:List AA}{sp:List Int}{b:AA}(e:okB (El l sp)=some b):b.F9=AA.Eb l:=by
 have h:=VD e;rw[h.1,NA,XS,ADy _ _ (U6 0 h.2.1)]
theorem AOj {l:List AA}{sp:List Int}{b:AA}(e:okB (El l sp)=some b):b.kids=D3 l (FG l sp 0):=by
 rw[(VD e).1];rfl
theorem APM (f:AI)(s:AM)(a b:AA):(L5 f s a b).F9=AA.Eb [a,b]:=by
 simp only[L5,XS,AA.Eb,Uv,ADw,Bh]
theorem APO (f:AI)(s:AM)(a b:AA):(Jn f s a [b]).F9=AA.Eb [b,a]:=by
 have hS:=XR _ (jw f KO (GC f s a) (EU f s));have GL:(DQ f s a).F9=[]:=hS;simp only[Jn,m8,XS,Bg,Bh,AA.Eb,Uv,ADw,GL]
theorem APJ (f:AI)(s:AM)(t:ByteArray)(b a:AA)(ha:a.CM J3=true):(Na f s t b a).F9=AA.Eb [b]:=by
 simp only[Na,XS,AA.Eb,Uv,XR a ha,Bh]
theorem u4 (f:AI)(s:AM)(b:AA)(l r:List AA)(hl:l.length<=1)(hr:r.length<=1):(Iz f s b l r).F9=AA.Eb (b::(l++r)):=by
 unfold Iz Qi;rw[XS];rcases l with _|⟨c,_|⟨c',l⟩⟩<;>rcases r with _|⟨d,_|⟨d',r⟩⟩<;>first|(simp only[AA.Eb,Bh,Bg,Uv,D8];done)|(simp at hl hr;done)|(simp at hl;done)|(simp at hr;done)
theorem uz (f:AI)(s:AM)(b:AA)(l r:List AA)(hl:l.length<=1)(hr:r.length<=1):(Iu f s b l r).F9=AA.Eb (b::(l++r)):=by
 unfold Iu TQ;rw[XS];rcases l with _|⟨c,_|⟨c',l⟩⟩<;>rcases r with _|⟨d,_|⟨d',r⟩⟩<;>first|(simp only[AA.Eb,Bh,Bg,Uv,D8];done)|(simp at hl hr;done)|(simp at hl;done)|(simp at hr;done)
theorem APL {f:AI}{t:ByteArray}{b c:AA}{z:Int}(h:okB (Ig f t b z)=some c):c.F9=AA.Eb [b]:=by
 unfold Ig at h;split at h
 . simp[okB]at h
 . split at h
   . simp[okB]at h
   . rw[ADv h];simp only[AA.Eb,Uv,XR _ (qv _ _ _ _),Bh,D8]
theorem ADu (q:Int)(AF:Nat)(cells:List AA)(top:Int):∀(l:List AA) (i:Nat),AA.Eb (JA q AF cells top i l)=AA.Eb l
 | [],i=>rfl
 | b::l,i=>by simp only[JA,AA.Eb,Yf,Uv,ADu q AF cells top l]
theorem APK {f:AI}{s:AM}{AF:Nat}{l:List AA}{c:AA}(e:okB (ID f s AF l)=some c):c.F9=AA.Eb l:=by
 unfold ID at e;split at e
 . simp[okB]at e
 . rw[(ET e).1];simp only[T4,XS,ADu]
def fy (k:Int)(kids:List Nd):List AA->List AA
 | []=>[]
 | b::l=>(if k=6 then LR kids b else b)::l
theorem AOh {k:Int}{t:ByteArray}{c:Int}{kids:List Nd}(h:(⟨k,t,c,kids⟩:Nd).F5=true):Dh k c kids.length=true:=by
 unfold Nd.F5 at h;simp only[An]at h;exact h.1.2
theorem AOi {k c:Int}{n:Nat}(h:Dh k c n=true)(h1:k≠1):k=12\/((k=2\/k=3\/k=4)/\n=0)\/((k=5\/k=6\/k=7\/k=8)/\n=2)\/(k=9/\n=3)\/((k=10\/k=11)/\n=1):=by
 unfold Dh at h;repeat' split at h
 all_goals first|omega|(simp only[decide_eq_true_eq]at h;omega)|cases h
theorem Xv {k:Int}(h:k≠6)(kids:List Nd)(l:List AA):fy k kids l=l:=by
 cases l with
 | nil=>rfl
 | cons b l=>simp only[fy,if_neg h]
theorem APN {x:Ae}{s:AM}{k:Int}{t:ByteArray}{c:Int}{kids:List Nd}{l:List AA}{b:AA}(hk:Dh k c kids.length=true)(Ot:k≠1)(hl:l.length=kids.length)(h:Dz x s k t c kids l=some b):b.F9=AA.Eb (fy k kids l):=by
 rcases AOi hk Ot with rfl|⟨hk,hn⟩|⟨hk,hn⟩|⟨rfl,hn⟩|⟨hk,hn⟩
 . rw[Xv (by decide)];simp only[Dz,Int.reduceEq,reduceIte,or_self]at h;exact APK h
 . obtain rfl:l=[]:=LJ (by omega);rcases hk with rfl|rfl|rfl
   . simp only[Dz,Int.reduceEq,reduceIte,or_self]at h;exact XR b (qx h)
   . simp only[Dz,Int.reduceEq,reduceIte,or_self,true_or]at h;exact XR b (cC h)
   . simp only[Dz,Int.reduceEq,reduceIte,or_self,or_true]at h;exact XR b (cC h)
 . rcases l with _|⟨b0,_|⟨b1,_|⟨b2,l⟩⟩⟩<;>try (exfalso;simp only[BQ,B6]at hl;omega)
   rcases hk with rfl|rfl|rfl|rfl
   . rw[Xv (by decide)];simp only[Dz,Int.reduceEq,reduceIte,or_self]at h;rw[(ET h).1];exact APM _ _ _ _
   . simp only[Dz,Int.reduceEq,reduceIte,or_self]at h;rw[(ET h).1];exact APO _ _ _ _
   . rw[Xv (by decide)];simp only[Dz,Int.reduceEq,reduceIte,or_self]at h;split at h
     . rw[(ET h).1,uz _ _ _ _ _ (by simp[Jt]) (by simp[Ju])];rfl
     . rw[(ET h).1,u4 _ _ _ _ _ (by simp[Jt]) (by simp[Ju])];rfl
   . rw[Xv (by decide)];simp only[Dz,Int.reduceEq,reduceIte,or_self]at h;split at h
     . rw[(ET h).1,uz _ _ _ _ _ (by simp[Jt]) (by simp[Ju])];rfl
     . rw[(ET h).1,u4 _ _ _ _ _ (by simp[Jt]) (by simp[Ju])];rfl
 . rcases l with _|⟨b0,_|⟨b1,_|⟨b2,_|⟨b3,l⟩⟩⟩⟩<;>try (exfalso;simp only[BQ,B6]at hl;omega)
   rw[Xv (by decide)];simp only[Dz,Int.reduceEq,reduceIte,or_self]at h;split at h
   . rw[(ET h).1,uz _ _ _ _ _ (by simp[Jt]) (by simp[Ju])];rfl
   . rw[(ET h).1,u4 _ _ _ _ _ (by simp[Jt]) (by simp[Ju])];rfl
 . rcases l with _|⟨b0,_|⟨b1,l⟩⟩<;>try (exfalso;simp only[BQ,B6]at hl;omega)
   rcases hk with rfl|rfl
   . rw[Xv (by decide)];simp only[Dz,Int.reduceEq,reduceIte,or_self]at h;rw[(ET h).1];exact APJ _ _ _ _ _ (Vz _ _ _)
   . rw[Xv (by decide)];simp only[Dz,Int.reduceEq,reduceIte,or_self]at h;exact APL h
def F2 {α β:Type}(R:α->β->Prop):List α->List β->Prop
 | [],[]=>True
 | a::l,b::r=>R a b/\F2 R l r
 | _,_=>False
section
variable {α β:Type} {R:α->β->Prop}
theorem F2.app : ∀ {l l':List α} {r r':List β},F2 R l r->F2 R l' r'->F2 R (l++l') (r++r')
 | [],l',[],r',_,h=>h
 | a::l,l',b::r,r',h,h'=>⟨h.1,F2.app h.2 h'⟩
 | [],_,_::_,_,h,_=>h.elim
 | _::_,_,[],_,h,_=>h.elim
theorem F2.len : ∀ {l:List α} {r:List β},F2 R l r->l.length=r.length
 | [],[],_=>rfl
 | a::l,b::r,h=>by rw[BQ,BQ,F2.len h.2]
 | [],_::_,h=>h.elim
 | _::_,[],h=>h.elim
theorem F2.get : ∀ {l:List α} {r:List β} {i:Nat} {b:β},F2 R l r->r[i]?=some b->∃a,l[i]?=some a/\R a b
 | a::l,b'::r,0,b,h,e=>by
   simp only[LK,BE]at e;subst e;exact⟨a,rfl,h.1⟩
 | a::l,b'::r,i+1,b,h,e=>by
   simp only[List.getElem?_cons_succ]at e ⊢;exact F2.get h.2 e
 | [],[],_,_,_,e=>by simp at e
 | [],_::_,_,_,h,_=>h.elim
 | _::_,[],_,_,h,_=>h.elim
end
structure Rw where
 path:List Int
 nd:Nd
 NJ:AM
mutual
def G1 (s:AM)(src:List Int):Nd->List Rw
 | ⟨k,t,c,kids⟩=>⟨src,⟨k,t,c,kids⟩,s⟩::It s src 0 kids
def It (s:AM)(src:List Int)(i:Nat):List Nd->List Rw
 | []=>[]
 | n::l=>K3 s (src++[(i:Int)]) n++It s src (i+1) l
def K3 (s:AM)(src:List Int):Nd->List Rw
 | ⟨k,_,_,kids⟩=>Hz s src k 0 kids
def Hz (s:AM)(src:List Int)(k:Int)(i:Nat):List Nd->List Rw
 | []=>[]
 | n::l=>G1 (DZ k i s) (src++[(i:Int)]) n++Hz s src k (i+1) l
end
def Gi:List Rw->Nat
 | []=>0
 | r::l=>r.nd.kids.length+Gi l
theorem gD : ∀l r:List Rw,Gi (l++r)=Gi l+Gi r
 | [],r=>by simp only[Bh,Gi,Cu]
 | a::l,r=>by simp only[Bg,Gi,gD l r];omega
structure RM (x:Ae)(m:AA)(r:Rw):Prop where
 of1:m.KJ=1
 src:m.src=r.path
 len:m.kids.length=r.nd.kids.length
 kid : ∀(j:Nat) (c:AA),m.kids[j]?=some c->c.KJ=2/\c.src=r.path++[(j:Int)]
 box:r.nd.kids≠[]->∃m',Db x r.NJ r.path r.nd=some m'/\m=m'.at_ 0 0
structure MS (x:Ae)(M:List AA)(T:List Rw)(e:Nat):Prop where
 rows:F2 (RM x) (M.filter fun m=>decide (m.KJ=1)) T
 items:(M.filter fun m=>decide (m.KJ=2)).length=Gi T+e
theorem MS.app {x:Ae}{M M':List AA}{T T':List Rw}{e e':Nat}(h:MS x M T e)(h':MS x M' T' e'):MS x (M++M') (T++T') (e+e'):=by
 refine⟨?_,?_⟩
 . rw[Z7];exact h.rows.app h'.rows
 . rw[Z7,C3,h.items,h'.items,gD];omega
theorem MS.nil {x:Ae}:MS x [] [] 0:=⟨trivial,rfl⟩
def kR:List Nd->List AA->List AA
 | n::_,b::r=>(if n.kids=[]then b.Pz else b)::r
 | _,r=>r
theorem AT5 (k:Int)(kids:List Nd)(l:List AA)(h:l.length=kids.length):fy k kids l=if k=6 then kR kids l else l:=by
 cases kids with
 | nil =>
   obtain rfl:l=[]:=LJ h;split<;>rfl
 | cons n kids =>
   cases l with
   | nil=>simp at h
   | cons b l =>
     simp only[fy,kR,LR,List.getD_cons_zero];split<;>rfl
theorem ALH (x:Ae)(s:AM)(t:ByteArray):(x.gl s t).KJ=0:=by
 unfold Ae.gl Cl;split<;>rfl
theorem fg {kids:List AA}{sp:List Int}{c:AA}(h:okB (El kids sp)=some c):c.KJ=0:=by
 rw[(VD h).1];rfl
theorem AOL {x:Ae}{s:AM}{k:Int}{t:ByteArray}{c:Int}{kids:List Nd}{L:List AA}{b:AA}(h:Dz x s k t c kids L=some b):b.KJ=0:=by
 unfold Dz at h;split at h
 . unfold Ae.sym at h;split at h
   . unfold Ae.QY at h;split at h
     . cases h
     . exact fg h
   . split at h
     . cases h;exact ALH x s t
     . exact fg h
 . split at h
   . exact fg h
   . split at h
     . rw[(ET h).1];rfl
     . split at h
       . rw[(ET h).1];rfl
       . split at h
         . rw[(ET h).1];rfl
         . split at h
           . unfold Ig at h;split at h
             . simp[okB]at h
             . split at h
               . simp[okB]at h
               . exact fg h
           . split at h
             . unfold ID at h;split at h
               . simp[okB]at h
               . rw[(ET h).1];rfl
             . split at h
               . rw[(ET h).1];rfl
               . rw[(ET h).1];rfl
theorem u3 (b:AA)(o:Int)(s:List Int)(ho:o≠0)(h0:b.KJ=0):(b.mark o s).F9=(b.mark o s).at_ 0 0::b.F9:=by
 cases b;simp only[AA.mark,AA.F9,XQ]at h0 ⊢;rw[if_neg ho,if_pos h0];rfl
theorem APG {k:Int}(h:(!IK 1 k)=true):k≠1:=by
 rintro rfl;simp[IK]at h
theorem APH {k k':Int}(hk:k≠1)(h:(!IK k k')=true):k'=1:=by
 by_cases e:k'=1
 . exact e
 . simp[IK,hk,e]at h
mutual
theorem AFg (x:Ae):∀(n:Nd) (s:AM) (src:List Int) (b:AA),n.kind=1->n.F5=true->Db x s src n=some b->MS x b.F9 (G1 s src n) 0
 | ⟨k,t,c,kids⟩,s,src,b,hk,hf,h=>by
   have h':=h;unfold Db at h;simp only[Nd.F5,An]at hf;simp only at hk;subst hk;by_cases hkn:kids=[]
   . rw[if_pos hkn]at h;cases h;subst hkn;unfold Ae.empty;rw[u3 _ _ _ (by decide) rfl];refine⟨⟨⟨rfl,rfl,rfl,fun j c hc=>by simp[AA.mark,AA.at_,CB]at hc,fun h=>absurd rfl h⟩,trivial⟩,rfl⟩
   . rw[if_neg hkn]at h;split at h
     . cases h
     . rename_i L hL;split at h
       . cases h
       . rename_i C hC;cases h;obtain⟨i1,i2,i3⟩:=AC8 x kids s src 0 L hf.2 hL;rw[u3 _ _ _ (by decide) (fg hC),ADv hC];have hkC:=AOj hC;have hpl:=U6 (l:=L) 0 (VD hC).2.1;refine⟨⟨⟨rfl,rfl,?_,fun j c hc=>?_,fun _=>⟨_,h',rfl⟩⟩,?_⟩,?_⟩
         . show C.kids.length=kids.length;rw[hkC,ZZ hpl,i2]
         . have hc':C.kids[j]?=some c:=hc;rw[hkC]at hc';have hj:j<L.length:=by
            have:=(Bv.1 hc').1;rwa [ZZ hpl]at this
           obtain⟨d,hd⟩:∃d,L[j]?=some d:=⟨_,BP hj⟩
           obtain⟨p,hp⟩:∃p,(FG L (x.DK s kids) 0)[j]?=some p:=⟨_,BP (by rw[hpl];exact hj)⟩
           rw[vW hd hp]at hc';cases hc';have:=i3 j d hd;rw[Cu]at this;exact this
         . exact i1.rows
         . have:=i1.items;simp only[G1,Gi];rw[gq (by simp[AA.mark,AA.at_])];omega
theorem AC8 (x:Ae):∀(l:List Nd) (s:AM) (src:List Int) (i:Nat) (L:List AA),Nd.GX 1 l=true->FF x s src i l=some L->MS x (AA.Eb L) (It s src i l) L.length/\L.length=l.length/\∀j c,L[j]?=some c->c.KJ=2/\c.src=src++[((i+j:Nat):Int)]
 | [],s,src,i,L,hf,h=>by
   simp only[FF,BE]at h;subst h;exact⟨MS.nil,rfl,fun j c hc=>by simp at hc⟩
 | n::l,s,src,i,L,hf,h=>by
   unfold FF at h;split at h
   . cases h
   . rename_i b hb;split at h
     . cases h
     . rename_i r hr;cases h;simp only[Nd.GX,An]at hf;obtain⟨j1,j2,j3⟩:=AOQ x n s (src++[(i:Int)]) b (APG hf.1.1) hf.1.2 hb;obtain⟨k1,k2,k3⟩:=AC8 x l s src (i+1) r hf.2 hr;refine⟨?_,by simp[k2],fun j c hc=>?_⟩
       . have:=j1.app k1;simp only[AA.Eb,It,BQ];rw[show r.length+1=1+r.length from Nat.add_comm _ _];exact this
       . cases j with
         | zero =>
           simp only[LK,BE]at hc;subst hc;exact⟨j2,j3⟩
         | succ j =>
           have:=k3 j c (by simpa using hc);rw[show i+1+j=i+(j+1)by omega]at this;exact this
theorem AOQ (x:Ae):∀(n:Nd) (s:AM) (src:List Int) (b:AA),n.kind≠1->n.F5=true->Ei x s src n=some b->MS x b.F9 (K3 s src n) 1/\b.KJ=2/\b.src=src
 | ⟨k,t,c,kids⟩,s,src,b,hk,hf,h=>by
   unfold Ei at h;have Bp:=AOh hf;simp only[Nd.F5,An]at hf;split at h
   . cases h
   . rename_i L hL;split at h
     . cases h
     . rename_i C hC;cases h;obtain⟨i1,i2,i3⟩:=AGX x kids s src k 0 L hk hf.2 hL;refine⟨?_,rfl,rfl⟩;rw[u3 _ _ _ (by decide) (AOL hC),APN Bp hk i3 hC,AT5 _ _ _ i3];have key : ∀M,MS x M (Hz s src k 0 kids) 0->MS x ((C.mark 2 src).at_ 0 0::M) (K3 s src ⟨k,t,c,kids⟩) 1:=fun M hM=>by
        refine⟨?_,?_⟩
        . rw[gq (by simp[AA.mark,AA.at_])];exact hM.rows
        . rw[oO (by simp[AA.mark,AA.at_])];have:=hM.items;simp only[BQ,K3];omega
       split
       . exact key _ i2
       . exact key _ i1
theorem AGX (x:Ae):∀(l:List Nd) (s:AM) (src:List Int) (k:Int) (i:Nat) (L:List AA),k≠1->Nd.GX k l=true->FJ x s src k i l=some L->MS x (AA.Eb L) (Hz s src k i l) 0/\MS x (AA.Eb (kR l L)) (Hz s src k i l) 0/\L.length=l.length
 | [],s,src,k,i,L,hk,hf,h=>by
   simp only[FJ,BE]at h;subst h;exact⟨MS.nil,MS.nil,rfl⟩
 | n::l,s,src,k,i,L,hk,hf,h=>by
   unfold FJ at h;split at h
   . cases h
   . rename_i b hb;split at h
     . cases h
     . rename_i r hr;cases h;simp only[Nd.GX,An]at hf;have j1:=AFg x n (DZ k i s) (src++[(i:Int)]) b (APH hk hf.1.1) hf.1.2 hb;obtain⟨k1,_,k2⟩:=AGX x l s src k (i+1) r hk hf.2 hr;refine⟨j1.app k1,?_,by simp[k2]⟩;simp only[kR,AA.Eb,Hz];refine MS.app (e:=0) (e':=0) ?_ k1;split
       . rename_i hn;obtain⟨k',t',c',uZ⟩:=n;simp only at hn;subst hn;unfold Db at hb;rw[if_pos rfl]at hb;cases hb;refine⟨⟨⟨rfl,rfl,rfl,fun j c hc=>by simp[Ae.empty,AA.mark,AA.at_,CB,AA.Pz]at hc,fun h=>absurd rfl h⟩,trivial⟩,rfl⟩
       . exact j1
end
mutual
def AA.JE (o:Int)(p:List Int):AA->Option (AA×Int×Int)
 | ⟨k,n,s,w,h,d,x,y,kids,o',src⟩=>if o'=o/\src=p then some (⟨k,n,s,w,h,d,x,y,kids,o',src⟩,0,0)else AA.US o p kids
def AA.US (o:Int)(p:List Int):List AA->Option (AA×Int×Int)
 | []=>none
 | c::l=>match c.JE o p with
   | some t=>some (t.1,Ad.wrap (t.2.1+c.x),Ad.wrap (t.2.2+c.y))
   | none=>AA.US o p l
end
mutual
def AA.Ie (q:Int->List Int->Bool):AA->Nat
 | ⟨_,_,_,_,_,_,_,_,kids,o,src⟩=>(if q o src=true then 1 else 0)+AA.F3 q kids
def AA.F3 (q:Int->List Int->Bool):List AA->Nat
 | []=>0
 | b::l=>b.Ie q+AA.F3 q l
end
theorem AF4 (l:List Int)(i:Int)(hl:l.length<=1000000):AC AD 47 [.c (Ab l),.c (.int .i64 i)] (.c (Ab (l++[i]))):=by
 unfold Ab;rw[EX];obtain⟨rs,Ak⟩:=AE (l.map (fun n=>[C.int .i64 n]));have Am:rs.length=l.length:=by rw[<-Ak,Cg]
 have hall:(∀x:List C,x∈rs->x.length=1)↔True:=⟨fun _=>trivial,fun _ x hx=>by rw[<-Ak]at hx;obtain⟨n,_,rfl⟩:=DC.1 hx;rfl⟩
 rw[Ak,Al,A8];have f1:l.length<=maxLen:=by unfold maxLen;omega
 have f2:l.length*8<=140737488355328:=by omega
 have f3:l.length+1<=maxLen:=by unfold maxLen;omega
 have f4:(l.length+1)*8<=140737488355328:=by omega
 refine en Tryz.func47 Tryz.ntmps47 ?_;refine wu (CJ.mk 1) Tryz.results47 trivial ⟨?_⟩;refine AW.DM ?_;refine SW.Jm (fun v t=>t=none/\v=.full []) (by simp[gate]) ?_ ?_
 . intro S0 w0 x a w g ht hk;exact⟨_,_,fun _ _ h=>(by cases h),⟨rfl,rfl⟩,fL g rfl (Ah:=3) (es:=1) (Bu:=8) (by simp)⟩
 rintro v t ⟨rfl,rfl⟩;refine SW.take 6 ?_;with_reducible refine Bw (by simp[List.replicate_succ,f1,f2,f3,f4,Am,hall];first|exact rfl|exact⟨rfl,rfl⟩) ?_
 refine B9 ?_;simp only[Be,BO];refine SW.nil ?_;exact wz Tryz.results47 trivial
theorem wH (l r:List Int)(hl:l.length<=1000000)(hr:r.length<=1000000):AC AD 22 [.c (Ab l),.c (Ab r)] (.c (.bool (decide (l=r)))):=by
 obtain⟨B,hB⟩:=AE (decide (l=r));rw[hB];unfold Ab;obtain⟨L,hL⟩:=AE (l.map (fun n=>[C.int .i64 n]));obtain⟨R,hR⟩:=AE (r.map (fun n=>[C.int .i64 n]));have Fm:L.length=l.length:=by rw[<-hL,Cg]
 have L9:R.length=r.length:=by rw[<-hR,Cg]
 rw[hL,hR];by_cases hlen:l.length=r.length
 . have tZ:(l.length:Int)=(r.length:Int):=by omega
   obtain⟨n,hn⟩:=AE r.length;rw[hn]at L9 hlen tZ hr;rw[hlen]at Fm;refine en iN Tryz.ntmps22 ?_;refine wy (cj @Fm<|cj @L9<|aq) trivial ⟨?_⟩;refine lp (ι:={ k:Nat // k<=n/\l.take k=r.take k }) (fun k=>[(4,.c (.bool false)),(5,.c (.int .i64 (k.1:Int)))]) (fun _=>[]) (fun k=>n - k.1) ⟨0,by simp⟩ ?_ ?_;all_goals simp only[Br,Bl,B7,Ax,Az]
   . refine Le.BV (by simp[A5])
   . rintro ⟨k,hk,dk⟩;simp only;by_cases hlt:k<n
     . obtain⟨a,ha⟩:∃a,l[k]?=some a:=⟨_,BP (by omega)⟩
       obtain⟨b,hb⟩:∃b,r[k]?=some b:=⟨_,BP (by omega)⟩
       have h1:L[k]?=some [.int .i64 a]:=by rw[<-hL,Co,ha];rfl
       have h2:R[k]?=some [.int .i64 b]:=by rw[<-hR,Co,hb];rfl
       have FO:=gx h1;have Fa:=gx h2;have hw:Ad.wrap ((k:Int)+1)=((k+1:Nat):Int):=by rw[Aq];simp
       by_cases hab:a=b
       . subst hab;refine wy (cj @Fm<|cj @L9<|cj @hlt<|cj @h1<|cj @h2<|cj @FO<|cj @Fa<|cj @hw<|aq) trivial ⟨?_⟩;refine⟨⟨k+1,hlt,?_⟩,by simp only;omega,?_⟩
         . rw[Ve,Ve,dk,ha,hb]
         . refine Le.BV (by simp[A5])
       . have sP:B=false:=by
          rw[<-hB];refine decide_eq_false fun e=>hab ?_
          rw[e,hb]at ha;exact(JW ha).symm
         subst sP;exact wz (cj @Fm<|cj @L9<|cj @hlt<|cj @h1<|cj @h2<|cj @FO<|cj @Fa<|cj @hab<|aq) trivial
     . obtain rfl:k=n:=by omega
       have hBt:B=true:=by
        rw[<-hB];refine decide_eq_true ?_;rw[D9 (by omega),D9 (by omega)]at dk;exact dk
       subst hBt;exact wz (cj @Fm<|cj @L9<|cj @hlt<|aq) trivial
 . have sP:B=false:=by
    rw[<-hB];exact decide_eq_false fun e=>hlen (congrArg YA e)
   subst sP;have tZ : ¬(l.length:Int)=(r.length:Int):=by omega
   refine en iN Tryz.ntmps22 ?_;exact wz (cj @Fm<|cj @L9<|cj @tZ<|aq) trivial
mutual
def AA.small:AA->Prop
 | ⟨_,_,_,_,_,_,_,_,kids,_,src⟩=>src.length<=1000000/\AA.smalls kids
def AA.smalls:List AA->Prop
 | []=>True
 | b::l=>b.small/\AA.smalls l
end
theorem we : ∀ {l:List AA},AA.smalls l->∀b∈l,b.small
 | b::l,h,c,hc=>by
   rcases Cb.1 hc with rfl|hc
   . exact h.1
   . exact we h.2 c hc
def Y5 (o:Int)(p:List Int)(m:AA):Bool:=decide (m.KJ=o) && decide (m.src=p)
mutual
theorem AA9 {o:Int}(ho:o≠0)(p:List Int):∀b:AA,(b.JE o p).map (fun t=>t.1.at_ 0 0)=(b.F9.filter (Y5 o p)).head?
 | ⟨k,n,s,w,h,d,x,y,kids,o',src⟩=>by
   simp only[AA.JE,AA.F9];rw[Z7];split
   . rename_i e;obtain⟨rfl,rfl⟩:=e;simp only[XQ,if_neg ho];rw[oO (by simp[Y5,AA.at_])];rfl
   . rename_i e;have:(XQ ⟨k,n,s,w,h,d,x,y,kids,o',src⟩).filter (Y5 o p)=[]:=by
      unfold XQ;split
      . rfl
      . rw[gq (by
         show ¬(decide (o'=o) && decide (src=p))=true;simp only[An,decide_eq_true_eq];exact e)];rfl
     rw[this,Bh];exact ABA ho p kids
theorem ABA {o:Int}(ho:o≠0)(p:List Int):∀l:List AA,(AA.US o p l).map (fun t=>t.1.at_ 0 0)=((AA.Eb l).filter (Y5 o p)).head?
 | []=>rfl
 | c::l=>by
   have h1:=AA9 ho p c;have h2:=ABA ho p l;simp only[AA.US,AA.Eb];rw[Z7,List.head?_append,<-h1];cases hc:c.JE o p with
   | none=>simpa using h2
   | some t=>rfl
end
mutual
theorem kI {q:Int->List Int->Bool}(hq : ∀s,q 0 s=false):∀b:AA,b.Ie q=(b.F9.filter fun m=>q m.KJ m.src).length
 | ⟨k,n,s,w,h,d,x,y,kids,o,src⟩=>by
   simp only[AA.Ie,AA.F9];rw[Z7,C3,AAS hq kids];congr 1
   unfold XQ;by_cases ho:o=0
   . subst ho;simp[hq]
   . simp only[if_neg ho];by_cases e:q o src=true
     . rw[if_pos e,oO (by exact e)];rfl
     . rw[if_neg e,gq (by exact e)];rfl
theorem AAS {q:Int->List Int->Bool}(hq : ∀s,q 0 s=false):∀l:List AA,AA.F3 q l=((AA.Eb l).filter fun m=>q m.KJ m.src).length
 | []=>rfl
 | b::l=>by
   simp only[AA.F3,AA.Eb];rw[Z7,C3,kI hq b,AAS hq l]
end
mutual
theorem AFp : ∀(n:Nd) (s:AM) (src:List Int) (r:Rw),r∈G1 s src n->∃t,r.path=src++t
 | ⟨k,t,c,kids⟩,s,src,r,h=>by
   simp only[G1,Cb]at h;rcases h with rfl|h
   . exact⟨[],by simp⟩
   . obtain⟨j,t,_,e⟩:=ll kids s src 0 r h;exact⟨_,e⟩
theorem ll : ∀(l:List Nd) (s:AM) (src:List Int) (i:Nat) (r:Rw),r∈It s src i l->∃(j:Nat) (t:List Int),i<=j/\r.path=src++(j:Int)::t
 | [],s,src,i,r,h=>by simp[It]at h
 | n::l,s,src,i,r,h=>by
   simp only[It,I4]at h;rcases h with h|h
   . obtain⟨j,t,e⟩:=AC6 n s _ r h;exact⟨i,(j:Int)::t,BW _,by rw[e];simp⟩
   . obtain⟨j,t,hj,e⟩:=ll l s src (i+1) r h;exact⟨j,t,by omega,e⟩
theorem AC6 : ∀(n:Nd) (s:AM) (src:List Int) (r:Rw),r∈K3 s src n->∃(j:Nat) (t:List Int),r.path=src++(j:Int)::t
 | ⟨k,t,c,kids⟩,s,src,r,h=>by
   simp only[K3]at h;obtain⟨j,t,_,e⟩:=wY kids s src k 0 r h;exact⟨j,t,e⟩
theorem wY : ∀(l:List Nd) (s:AM) (src:List Int) (k:Int) (i:Nat) (r:Rw),r∈Hz s src k i l->∃(j:Nat) (t:List Int),i<=j/\r.path=src++(j:Int)::t
 | [],s,src,k,i,r,h=>by simp[Hz]at h
 | n::l,s,src,k,i,r,h=>by
   simp only[Hz,I4]at h;rcases h with h|h
   . obtain⟨t,e⟩:=AFp n _ _ r h;exact⟨i,t,BW _,by rw[e];simp⟩
   . obtain⟨j,t,hj,e⟩:=wY l s src k (i+1) r h;exact⟨j,t,by omega,e⟩
end
theorem AEf {src t u:List Int}{i j:Nat}(h:i<j):src++(i:Int)::t≠src++(j:Int)::u:=by
 intro e;have:=List.append_cancel_left e;simp only[List.cons.injEq]at this;omega
mutual
theorem AFo : ∀(n:Nd) (s:AM) (src:List Int),((G1 s src n).map Rw.path).Pairwise (·≠·)
 | ⟨k,t,c,kids⟩,s,src=>by
   simp only[G1,Al,AIR];refine⟨fun p hp=>?_,ADF kids s src 0⟩;obtain⟨r,hr,rfl⟩:=DC.1 hp;obtain⟨j,t,_,e⟩:=ll kids s src 0 r hr;intro h;rw[e]at h;have:=congrArg YA h;simp at this
theorem ADF : ∀(l:List Nd) (s:AM) (src:List Int) (i:Nat),((It s src i l).map Rw.path).Pairwise (·≠·)
 | [],s,src,i=>by simp[It]
 | n::l,s,src,i=>by
   simp only[It,EX,AIQ];refine⟨AOV n s _,ADF l s src (i+1),fun p hp q hq=>?_⟩;obtain⟨r,hr,rfl⟩:=DC.1 hp;obtain⟨r',hr',rfl⟩:=DC.1 hq;obtain⟨j,t,e⟩:=AC6 n s _ r hr;obtain⟨j',t',hj,e'⟩:=ll l s src (i+1) r' hr';rw[e,e',EW];exact AEf (by omega)
theorem AOV : ∀(n:Nd) (s:AM) (src:List Int),((K3 s src n).map Rw.path).Pairwise (·≠·)
 | ⟨k,t,c,kids⟩,s,src=>by
   simp only[K3];exact AGe kids s src k 0
theorem AGe : ∀(l:List Nd) (s:AM) (src:List Int) (k:Int) (i:Nat),((Hz s src k i l).map Rw.path).Pairwise (·≠·)
 | [],s,src,k,i=>by simp[Hz]
 | n::l,s,src,k,i=>by
   simp only[Hz,EX,AIQ];refine⟨AFo n _ _,AGe l s src k (i+1),fun p hp q hq=>?_⟩;obtain⟨r,hr,rfl⟩:=DC.1 hp;obtain⟨r',hr',rfl⟩:=DC.1 hq;obtain⟨t,e⟩:=AFp n _ _ r hr;obtain⟨j',t',hj,e'⟩:=wY l s src k (i+1) r' hr';rw[e,e',EW];exact AEf (by omega)
end
theorem F2.mem {α β:Type}{R:α->β->Prop} : ∀ {l:List α} {r:List β},F2 R l r->∀a∈l,∃b∈r,R a b
 | a::l,b::r,h,a',ha=>by
   rcases Cb.1 ha with rfl|ha
   . exact⟨b,List.mem_cons_self,h.1⟩
   . obtain⟨b',hb,hr⟩:=F2.mem h.2 a' ha;exact⟨b',List.mem_cons_of_mem _ hb,hr⟩
 | [],_,_,a',ha=>by cases ha
 | _::_,[],h,_,_=>h.elim
theorem AAu {x:Ae} : ∀ {M:List AA} {T:List Rw},F2 (RM x) M T->(T.map Rw.path).Pairwise (·≠·)->∀r∈T,∃m,M.filter (fun m=>decide (m.src=r.path))=[m]/\RM x m r
 | m::M,t::T,h,hn,r,hr=>by
   simp only[Al,AIR]at hn;rcases Cb.1 hr with rfl|hr
   . refine⟨m,?_,h.1⟩;rw[oO (by simpa using h.1.src)];congr 1
     rw[List.filter_eq_nil_iff];intro m' ZA;obtain⟨r',hr',hR⟩:=F2.mem h.2 m' ZA;have:=hn.1 r'.path (DC.2 ⟨r',hr',rfl⟩);simp only[decide_eq_true_eq];rw[hR.src];exact fun e=>this e.symm
   . obtain⟨m',h1,h2⟩:=AAu h.2 hn.2 r hr;refine⟨m',?_,h2⟩;rw[gq,h1];have:=hn.1 r.path (DC.2 ⟨r,hr,rfl⟩);simp only[decide_eq_true_eq];rw[h.1.src];exact this
 | [],[],_,_,r,hr=>by cases hr
 | [],_::_,h,_,_,_=>h.elim
 | _::_,[],h,_,_,_=>h.elim
structure AIg (x:Ae)(b:AA)(T:List Rw):Prop where
 one : ∀r∈T,b.Ie (fun o s=>decide (o=1) && decide (s=r.path))=1
 JE : ∀r∈T,∃m X Y,b.JE 1 r.path=some (m,X,Y)/\RM x (m.at_ 0 0) r
 AI7:b.Ie (fun o _=>decide (o=1))=T.length
 AI8:b.Ie (fun o _=>decide (o=2))=Gi T
theorem zy {x:Ae}{s:AM}{n:Nd}{b:AA}(hv:n.Av=true)(h:Db x s [] n=some b):AIg x b (G1 s [] n):=by
 unfold Nd.Av at hv;simp only[An,decide_eq_true_eq]at hv;have hM:=AFg x n s [] b hv.1 hv.2.1 h;have hh : ∀r∈G1 s [] n,∃m,b.F9.filter (Y5 1 r.path)=[m]/\RM x m r:=fun r hr=>by
  obtain⟨m,h1,h2⟩:=AAu hM.rows (AFo n s []) r hr;refine⟨m,?_,h2⟩;rw[<-h1,List.filter_filter];congr 1
  funext m;unfold Y5;rw[Bool.and_comm]
 refine⟨fun r hr=>?_,fun r hr=>?_,?_,?_⟩
 . obtain⟨m,h1,_⟩:=hh r hr;rw[kI (by simp)];have:(b.F9.filter fun m=>decide (m.KJ=1) && decide (m.src=r.path))=[m]:=h1;rw[this];rfl
 . obtain⟨m,h1,h2⟩:=hh r hr;have h3:=AA9 (o:=1) (by decide) r.path b;rw[h1]at h3;cases hf:b.JE 1 r.path with
   | none=>rw[hf]at h3;cases h3
   | some t =>
     rw[hf]at h3;simp only[Option.map_some,List.head?_cons,BE]at h3;exact⟨t.1,t.2.1,t.2.2,rfl,by rw[h3];exact h2⟩
 . rw[kI (by simp)];exact hM.rows.len
 . rw[kI (by simp)];exact hM.items
theorem AU9 {S0:Ba}{w0:Bs}{x:Cx}{w:World}{h:List O}(g:Good S0 w0 x w (fun k=>h[k]?))(Ah:TypeId)(es n:Nat) :
 Good S0 w0 (x.grow h.length ⟨0,0,true,n,true⟩ 0) w (fun k=>(h++[O.tok Ah es n])[k]?)/\Ext x (x.grow h.length ⟨0,0,true,n,true⟩ 0) w w:=by
 have hk : ¬x.dom h.length:=fun hd=>by obtain⟨o,ho⟩:=g.dom _ hd;simp at ho
 have he:Ext x (x.grow h.length ⟨0,0,true,n,true⟩ 0) w w:=⟨⟨fun _ _ h=>.inl h,fun _ _ _ _ h=>h⟩,fun _ h=>.inl h,fun i hi=>by
  have:i≠h.length:=fun e=>hk (e ▸ hi)
  simp[Cx.grow,this,Es.refl]⟩
 have g':=g.IN h.length (.tok Ah es n) he (.GA (AS.refl w)) (fun i=>Iff.rfl) (fun i hi=>by simp[Cx.grow,hi]) (fun h=>by simp[Cx.grow]at h) ⟨by simp[Cx.grow],by simp[Cx.grow],fun h=>by simp[Cx.grow]at h⟩ (fun b j h=>h.elim .inl fun h=>by omega) (fun j hx=>by have:=hx.1;simp[Cx.grow]at this);refine⟨?_,he⟩;have e:=Lm h (some (h.length,O.tok Ah es n)) (fun k o e=>by cases e;exact BW _);simp only[CG,Nat.lt_irrefl,if_false,Heap.upd]at e;rw[e];exact g'
theorem ALK {x:Cx}{w:World}{k es:Nat}{rows:List (List C)}{u:Value}(hr : ∀r∈rows,r.length=es)(h:CV x w (.full rows) u):CV (x.grow k ⟨0,0,true,rows.length,true⟩ 0) w (.gr k es rows) u:=by
 simp only[CV]at h ⊢;obtain⟨A,e,h⟩:=h;refine⟨.inr rfl,by simp[Cx.grow],Ap.mono ⟨fun _ _ h=>.inl h,fun _ _ _ _ h=>h⟩ _ _ h,hr,by simp[Cx.grow],fun _=>?_⟩;simp only[Cx.grow,if_true];exact⟨A,e⟩
theorem Le.AU8 {m:Mo}{t:List V}{h:List O}(i:Nat)(Ah:TypeId)(es:Nat)(rows:List (List C))(hi:t[i]?=some (.full rows))(hr : ∀r∈rows,r.length=es):Le m ⟨t,h⟩ ⟨t.set i (.gr h.length es rows),h++[.tok Ah es rows.length]⟩:=fun S0 w0 x a w hm hA=>by
 obtain⟨g',he⟩:=AU9 hA.good Ah es rows.length;obtain⟨u,hu,hc⟩:=hA.tm.get i _ hi;refine⟨_,g',?_,hA.df⟩;have:=(AL.mono he _ _ hA.tm).set i (ALK (k:=h.length) (es:=es) hr hc);have e:a.tmps.toList.set i u=a.tmps.toList:=by
  apply List.ext_getElem?;intro j;rw[List.getElem?_set];split
  . rename_i e;subst e;split
    . rw[hu]
    . rename_i hlt;rw[List.getElem?_eq_none (by omega)]
  . rfl
 rw[e]at this;exact this
mutual
def PF (src:List Int):Nd->List (List Int)
 | ⟨_,_,_,kids⟩=>src::PE src 0 kids
def PE (src:List Int)(i:Nat):List Nd->List (List Int)
 | []=>[]
 | n::l=>fQ (src++[(i:Int)]) n++PE src (i+1) l
def fQ (src:List Int):Nd->List (List Int)
 | ⟨_,_,_,kids⟩=>Qa src 0 kids
def Qa (src:List Int)(k:Nat):List Nd->List (List Int)
 | []=>[]
 | n::l=>PF (src++[(k:Int)]) n++Qa src (k+1) l
end
mutual
theorem AEh : ∀(n:Nd) (src:List Int),(PF src n).length<=n.cnt
 | ⟨_,_,_,kids⟩,src=>by
   have:=AEg kids src 0;simp only[PF,Nd.cnt,BQ];omega
theorem AEg : ∀(l:List Nd) (src:List Int) (i:Nat),(PE src i l).length<=Nd.A9 l
 | [],src,i=>BW _
 | n::l,src,i=>by
   have:=AQo n (src++[(i:Int)]);have:=AEg l src (i+1);simp only[PE,Nd.A9,C3];omega
theorem AQo : ∀(n:Nd) (src:List Int),(fQ src n).length<=n.cnt
 | ⟨_,_,_,kids⟩,src=>by
   have:=AEi kids src 0;simp only[fQ,Nd.cnt];omega
theorem AEi : ∀(l:List Nd) (src:List Int) (k:Nat),(Qa src k l).length<=Nd.A9 l
 | [],src,k=>BW _
 | n::l,src,k=>by
   have:=AEh n (src++[(k:Int)]);have:=AEi l src (k+1);simp only[Qa,Nd.A9,C3];omega
end
def KK (p:List Int):List C:=[Ab p]
theorem AQb (l:List (List Int)):(∀r:List C,r∈l.map KK->r.length=1)↔True:=⟨fun _=>trivial,fun _ r hr=>by obtain⟨p,_,rfl⟩:=DC.1 hr;rfl⟩
theorem AQn {src:List Int}{kids:List Nd}{i:Nat}{b:Nd}(h:kids[i]?=some b):PE src i (kids.drop i)=Qa (src++[(i:Int)]) 0 b.kids++PE src (i+1) (kids.drop (i+1)):=by
 have hk:=(Bv.1 h).1;rw[Cz hk];have:kids[i]=b:=by rw[BP hk]at h;exact JW h
 rw[this];cases b;rfl
theorem AQp {src:List Int}{kids:List Nd}{i:Nat}{b:Nd}(h:kids[i]?=some b):Qa src i (kids.drop i)=PF (src++[(i:Int)]) b++Qa src (i+1) (kids.drop (i+1)):=by
 have hk:=(Bv.1 h).1;rw[Cz hk];have:kids[i]=b:=by rw[BP hk]at h;exact JW h
 rw[this];rfl
theorem mL : ∀ {l:List Nd} {b:Nd},b∈l->b.cnt<=Nd.A9 l
 | x::l,b,h=>by
   simp only[Nd.A9];rcases Cb.1 h with rfl|h
   . omega
   . have:=mL h;omega
theorem AQq (n:Nd)(src:List Int)(Au:n.Bc)(hc:n.cnt+src.length<=1000)(ih : ∀(a:Nd) (b:Nd) (p:List Int),a∈n.kids->b∈a.kids->p.length=src.length+2->AC AD 18 [At b,.c (Ab p)] (.c (.sl ((PF p b).map KK)))) :
 AC AD 18 [At n,.c (Ab src)] (.c (.sl ((PF src n).map KK))):=by
 have hpl:=AEh n src;obtain⟨jG,ABX⟩:=AE (PF src n);have FD:src::PE src 0 n.kids=jG:=by rw[<-ABX];cases n;rfl
 rw[ABX]at hpl ⊢;have FP:=Jk n;have Bp:=Ny n.kids;obtain⟨_,_,Ov⟩:=K7 n Au;have hw0 : ∀i:Int,AC AD 47 [.c (Ab src),.c (.int .i64 i)] (.c (Ab (src++[i]))):=fun i=>AF4 src i (by omega)
 have hw1 : ∀i j:Int,AC AD 47 [.c (Ab (src++[i])),.c (.int .i64 j)] (.c (Ab (src++[i]++[j]))):=fun i j=>AF4 (src++[i]) j (by simp;omega)
 obtain⟨k,t,c,kids⟩:=n;simp only at FD FP Bp Ov ih;obtain⟨rs,Ak⟩:=AE (Nd.rows kids);have Am:rs.length=kids.length:=by rw[<-Ak,ND,Cg]
 obtain⟨n,hn⟩:=AE kids.length;rw[hn]at Am Bp;simp only[At,Nd.vs,Nd.row,Al,A8,Ak];refine en Tryz.func18 Tryz.ntmps18 ?_;refine wy (cj @Am<|im) trivial ⟨?_⟩;refine AW.le (Le.AU8 5 39 1 [[Ab src]] rfl (by simp)) ?_;simp only[B6,BQ,Nat.reduceAdd,Ax,Az,Bh,Bg];refine lp (ι:={ q:Nat×List (List Int) // q.1<=n/\q.2++PE src q.1 (kids.drop q.1)=jG }) (fun q=>[(5,.gr 1 1 (q.1.2.map KK)),(6,.c (.int .i64 (q.1.1:Int)))]) (fun q=>[.box 33 [.c (.int .i64 k),.c (.str t),.c (.int .i64 c),.c (.sl rs)] false,.tok 39 1 q.1.2.length]) (fun q=>n - q.1.1) ⟨(0,[src]),by simp,by simpa using FD⟩ ?_ ?_;all_goals simp only[Br,Bl,B7,Ax,Az]
 . refine Le.BV (by simp[A5,KK])
 . rintro ⟨⟨i,out⟩,hi,hO⟩;simp only at hi hO ⊢;by_cases hlt:i<n
   . obtain⟨a,ha⟩:∃a,kids[i]?=some a:=⟨_,BP (by omega)⟩
     have BN:rs[i]?=some a.row:=by rw[<-Ak,ND,Co,ha];rfl
     have CW:i<rs.length:=by omega
     have sq:=C6 ha;have hwr:Ad.wrap ((i:Int)+1)=((i+1:Nat):Int):=by rw[Aq];simp
     rw[AQn ha]at hO;have Cs:=mL sq;have WU:=Jk a;have Et:=Ny a.kids;have hao:=(K7 a (N0 Ov a sq)).2.2;have ih':=fun b p hb hp=>ih a b p sq hb hp
     obtain⟨ak,at_,acl,ks⟩:=a;simp only at hO WU Et hao ih';obtain⟨qs,TD⟩:=AE (Nd.rows ks);have RY:qs.length=ks.length:=by rw[<-TD,ND,Cg]
     obtain⟨m,hm⟩:=AE ks.length;rw[hm]at RY Et;simp only[Nd.row,TD]at BN;have CH:=gx BN;have ANv:=hw0 i;refine wy (cj @Am<|cj @hlt<|cj @BN<|cj @CH<|cj @CW<|cj @RY<|im) trivial ⟨?_⟩;refine lp (ι:={ q:Nat×List (List Int) // q.1<=m/\q.2++(Qa (src++[(i:Int)]) q.1 (ks.drop q.1)++PE src (i+1) (kids.drop (i+1)))=jG }) (fun q=>[(5,.gr 1 1 (q.1.2.map KK)),(7,.c (.int .i64 (q.1.1:Int)))]) (fun q=>[.box 33 [.c (.int .i64 k),.c (.str t),.c (.int .i64 c),.c (.sl rs)] false,.tok 39 1 q.1.2.length]) (fun q=>m - q.1.1) ⟨(0,out),by simp,by simpa using hO⟩ ?_ ?_;all_goals simp only[Br,Bl,B7,Ax,Az]
     . refine Le.BV (by simp[A5])
     . rintro ⟨⟨j,out⟩,hj,hO⟩;simp only at hj hO ⊢;by_cases QG:j<m
       . obtain⟨b,hb⟩:∃a,ks[j]?=some a:=⟨_,BP (by omega)⟩
         have MI:qs[j]?=some b.row:=by rw[<-TD,ND,Co,hb];rfl
         have ANR:=gx MI;have AM8:j<qs.length:=by omega
         have Yx:=C6 hb;have uJ:Ad.wrap ((j:Int)+1)=((j+1:Nat):Int):=by rw[Aq];simp
         rw[AQp hb]at hO;have ANw:=hw1 i j;have hi:=ih' b (src++[(i:Int)]++[(j:Int)]) Yx (by simp);obtain⟨PB,dG⟩:=AE (PF (src++[(i:Int)]++[(j:Int)]) b);rw[dG]at hO hi;have hall:=AQb PB;have hl0:=congrArg YA hO;simp only[C3]at hl0;have F8:out.length+PB.length<=maxLen:=by unfold maxLen;omega
         have Fp:(out.length+PB.length)*24<=140737488355328:=by omega
         have La:(out.map KK).length=out.length:=Cg _;have dz:(PB.map KK).length=PB.length:=Cg _;have Sz:out.map KK++PB.map KK=(out++PB).map KK:=(EX).symm;simp only[At,Nd.vs]at hi;obtain⟨OR,hOR⟩:=AE (out.map KK);obtain⟨PR,hPR⟩:=AE (PB.map KK);rw[hOR]at La Sz ⊢;rw[hPR]at dz Sz hi hall;refine wy (cj @Am<|cj @BN<|cj @CH<|cj @CW<|cj @RY<|cj @QG<|cj @MI<|cj @ANR<|cj @AM8<|cj @uJ<|cj @La<|cj @dz<|cj @F8<|cj @Fp<|cj @hall<|im) (cj ANv<|cj ANw<|cj hi<|trivial) ⟨?_⟩;refine⟨⟨(j+1,out++PB),QG,?_⟩,by simp only;omega,?_⟩
         . rw[<-hO];simp only[EW]
         . refine Le.H5 2 (Nat.le_of_ble_eq_true rfl) (by simp[A5,Sz,La,dz]) (by simp[Sz,La,dz]) (by simp[V.BT,V.BA]) (by simp[O.BA,V.BT,V.BA,Sz,La,dz])
       . obtain rfl:j=m:=by omega
         rw[C5 (by omega)]at hO;refine wy (cj @Am<|cj @BN<|cj @CH<|cj @CW<|cj @RY<|cj @QG<|cj @hwr<|im) trivial ⟨?_⟩;refine⟨⟨(i+1,out),hlt,by simpa [Qa]using hO⟩,by simp only;omega,?_⟩;exact wd 2
   . rw[C5 (by omega)]at hO;obtain rfl:out=jG:=by simpa [PE]using hO
     exact wz (cj @Am<|cj @hlt<|im) trivial
theorem AEj (n:Nd):∀(src:List Int),n.Bc->n.cnt+src.length<=1000->AC AD 18 [At n,.c (Ab src)] (.c (.sl ((PF src n).map KK))):=by
 have key : ∀(N:Nat) (n:Nd),n.cnt<N->∀(src:List Int),n.Bc->n.cnt+src.length<=1000->AC AD 18 [At n,.c (Ab src)] (.c (.sl ((PF src n).map KK))):=by
  intro N;induction N with
  | zero=>intro n h;exact absurd h (Nat.not_lt_zero _)
  | succ N ih =>
    intro n hN src Au hc;refine AQq n src Au hc fun a b p ha hb hp=>?_
    have h1:=mL ha;have h2:=Jk n;have h3:=mL hb;have h4:=Jk a;exact ih b (by omega) p (N0 (K7 a (N0 (K7 n Au).2.2 a ha)).2.2 b hb) (by omega)
 exact key _ n (Nat.lt_succ_self _)
def X6:Nd:=⟨0,⟨#[]⟩,0,[]⟩
def Ez (n:Nd)(i:Int):Option Nd:=if i<0 then none else n.kids[i.toNat]?
def EO:Nd->List Int->Option Nd
 | n,[]=>some n
 | _,[_]=>none
 | n,i::j::r=>match Ez n i with
   | none=>none
   | some m=>match Ez m j with
     | none=>none
     | some q=>EO q r
def Ob:Nd->List Int->Nd×Bool
 | n,[]=>(n,true)
 | n,[_]=>(n,false)
 | n,i::j::r=>match Ez n i with
   | none=>(X6,false)
   | some m=>match Ez m j with
     | none=>(X6,false)
     | some q=>Ob q r
theorem lq {n:Nd}{i:Int}(h:Ez n i=none):i<0\/(n.kids.length:Int)<=i:=by
 unfold Ez at h;split at h
 . left;assumption
 . right;have:=List.getElem?_eq_none_iff.1 h;omega
theorem Nv {n m:Nd}{i:Int}(h:Ez n i=some m):∃a:Nat,i=(a:Int)/\a<n.kids.length/\(Nd.rows n.kids)[a]?=some m.row/\n.kids[a]?=some m:=by
 unfold Ez at h;split at h
 . cases h
 . have hl:=(Bv.1 h).1;exact⟨i.toNat,by omega,hl,N1 h,h⟩
theorem AA3 : ∀(n:Nd) (l:List Int),(∀m,EO n l=some m->Ob n l=(m,true))/\(EO n l=none->(Ob n l).2=false)
 | n,[]=>⟨fun m h=>by simp only[EO,BE]at h;subst h;rfl,fun h=>by simp[EO]at h⟩
 | n,[_]=>⟨fun m h=>by simp[EO]at h,fun h=>rfl⟩
 | n,i::j::r=>by
   simp only[EO,Ob];cases Ez n i with
   | none=>exact⟨fun m h=>by simp at h,fun _=>rfl⟩
   | some m =>
     simp only;cases Ez m j with
     | none=>exact⟨fun m h=>by simp at h,fun _=>rfl⟩
     | some q=>exact AA3 q r
theorem ZT {n m:Nd}{i:Int}(Au:n.Bc)(h:Ez n i=some m):m.Bc:=by
 obtain⟨a,_,_,_,h4⟩:=Nv h;exact N0 (K7 n Au).2.2 m (C6 h4)
theorem rU (a b:Nat)(r:List Int):List.drop 2 (List.take ((r.length:Int)+1+1).toNat ([C.int .i64 (a:Int)]::[C.int .i64 (b:Int)]::r.map (fun n=>[C.int .i64 n])))=r.map (fun n=>[C.int .i64 n]):=by
 have:((r.length:Int)+1+1).toNat=r.length+2:=by omega
 rw[this];simp only[List.take_succ_cons,Be,BO];exact D9 (by simp)
theorem ASc (n:Nd)(l:List Int)(Au:n.Bc)(hl:l.length<=1000000):AC AD 48 [At n,.c (Ab l)] (.Bk [At (Ob n l).1,.c (.bool (Ob n l).2)]):=by
 obtain⟨R,hR⟩:=AE (Ob n l);have hz:X6.vs=[.c (.int .i64 0),.c (.str ⟨#[]⟩),.c (.int .i64 0),.c (.sl [])]:=rfl;rw[hR];unfold Ab At;refine en Tryz.func48 Tryz.ntmps48 ?_;refine Ac ?_;refine lp (ι:={ p:Nd×List Int // Ob p.1 p.2=R/\p.1.Bc/\p.2.length<=1000000 }) (fun p=>[(1,.c (.sl (p.1.2.map fun n=>[.int .i64 n])))]) (fun p=>[.box 33 p.1.1.vs false,.box 33 [.c (.int .i64 0),.c (.str ⟨#[]⟩),.c (.int .i64 0),.full []] false]) (fun p=>p.1.2.length) ⟨(n,l),hR,Au,hl⟩ ?_ ?_;all_goals simp only[Br,Bl,B7,Ax,Az]
 . exact wd 2
 rintro ⟨⟨n,l⟩,hR,Au,hl⟩;simp only at hR Au hl ⊢;match l,hR,hl with
 | [],hR,hl =>
   simp only[Ob]at hR;subst hR;exact wz YS trivial
 | [i],hR,hl =>
   simp only[Ob]at hR;subst hR;exact wz YS trivial
 | i::j::r,hR,hl =>
   simp only[Ob]at hR;have h2 : ¬((r.length:Int)+1+1<2):=by omega
   have Fa:(2:Int)<=(r.length:Int)+1+1:=by omega
   have Ev:=K7 n Au;have KE:=G0 n.kids;cases hk:Ez n i with
   | none =>
     rw[hk]at hR;simp only at hR;subst hR;have:=lq hk;by_cases hi:i<0
     . exact wz (cj @h2<|cj @Fa<|cj @hi<|cj @hz<|YS) trivial
     . have hi2:(n.kids.length:Int)<=i:=by omega
       exact wz (cj @h2<|cj @Fa<|cj @hi<|cj @hi2<|cj @KE<|cj @hz<|YS) trivial
   | some m =>
     rw[hk]at hR;simp only at hR;have tq:=ZT Au hk;obtain⟨a,rfl,ha,Hu,_⟩:=Nv hk;have Np:=gx Hu;have ha0 : ¬((a:Int)<0):=by omega
     have IG : ¬((n.kids.length:Int)<=(a:Int)):=by omega
     have WS : ¬(n.kids.length<=a):=by omega
     have M1:=G0 m.kids;cases hj:Ez m j with
     | none =>
       rw[hj]at hR;simp only at hR;subst hR;have:=lq hj;by_cases hi:j<0
       . exact wz (cj @h2<|cj @Fa<|cj @ha<|cj @ha0<|cj @IG<|cj @WS<|cj @Hu<|cj @Np<|cj @KE<|cj @hi<|cj @hz<|YS) trivial
       . have hi2:(m.kids.length:Int)<=j:=by omega
         exact wz (cj @h2<|cj @Fa<|cj @ha<|cj @ha0<|cj @IG<|cj @WS<|cj @Hu<|cj @Np<|cj @KE<|cj @hi<|cj @hi2<|cj @M1<|cj @hz<|YS) trivial
     | some q =>
       rw[hj]at hR;simp only at hR;have tt:=ZT tq hj;obtain⟨b,rfl,hb,Kt,_⟩:=Nv hj;have TE:=gx Kt;have hb0 : ¬((b:Int)<0):=by omega
       have Gx : ¬((m.kids.length:Int)<=(b:Int)):=by omega
       have P6 : ¬(m.kids.length<=b):=by omega
       refine wy (cj @h2<|cj @Fa<|cj @ha<|cj @ha0<|cj @IG<|cj @WS<|cj @Hu<|cj @Np<|cj @KE<|cj @hb<|cj @hb0<|cj @Gx<|cj @P6<|cj @Kt<|cj @TE<|cj @M1<|YS) trivial ⟨?_⟩;rw[rU a b r];refine⟨⟨(q,r),hR,tt,by simp only[BQ]at hl;show r.length<=1000000;omega⟩,by simp only[BQ];omega,?_⟩;exact wd 2
def Xm (n:Nd)(l:List Int):Nd×Int:=if n.Av=false then(X6,1)else match EO n l with
 | some m=>(m,0)
 | none=>(X6,8)
def fK (r:Nd×Int):V:=.Bk [At r.1,.c (.int .i64 r.2)]
mutual
theorem fI : ∀(l:List Nd) (m:Nd),m∈l->m.cnt<=Nd.A9 l
 | b::l,m,h=>by
   simp only[Nd.A9];rcases Cb.1 h with rfl|h
   . omega
   . have:=fI l m h;omega
end
theorem ka : ∀(n:Nd) (l:List Int) (m:Nd),EO n l=some m->m.cnt<=n.cnt
 | n,[],m,h=>by simp only[EO,BE]at h;subst h;exact BW _
 | n,[_],m,h=>by simp[EO]at h
 | n,i::j::r,m,h=>by
   simp only[EO]at h;cases hk:Ez n i with
   | none=>rw[hk]at h;simp at h
   | some p =>
     rw[hk]at h;simp only at h;cases hj:Ez p j with
     | none=>rw[hj]at h;simp at h
     | some q =>
       rw[hj]at h;simp only at h;have h1:=ka q r m h;obtain⟨a,_,_,_,ha⟩:=Nv hk;obtain⟨b,_,_,_,hb⟩:=Nv hj;have h2:=fI _ _ (C6 hb);have h3:=fI _ _ (C6 ha);have h4:=Jk n;have h5:=Jk p;omega
theorem AFw (n:Nd)(l:List Int)(Au:n.Bc)(hc:n.cnt<=100000)(hl:l.length<=1000000):AC AD 19 [At n,.c (Ab l)] (fK (Xm n l)):=by
 have hv:=AF3 n Au hc;have hf:=ASc n l Au hl;have hz:X6.vs=[.c (.int .i64 0),.c (.str ⟨#[]⟩),.c (.int .i64 0),.c (.sl [])]:=rfl;obtain⟨L,hL⟩:=AE (Ab l);rw[hL]at hf ⊢;obtain⟨k1,k2⟩:=AA3 n l;unfold Xm fK;cases Ns:n.Av with
 | false =>
   rw[Ns]at hv;simp only[if_true];unfold At at *
   refine en Tryz.func19 Tryz.ntmps19 ?_;exact wz (cj @hz<|yJ) (cj hv<|trivial)
 | true =>
   rw[Ns]at hv;simp only[Bool.true_eq_false,if_false];cases EP:EO n l with
   | none =>
     have:=k2 EP;obtain⟨⟨p,b⟩,hp⟩:=AE (Ob n l);rw[hp]at hf this;simp only at hf this;subst this;unfold At at *
     refine en Tryz.func19 Tryz.ntmps19 ?_;exact wz (cj @hz<|yJ) (cj hv<|cj hf<|trivial)
   | some m =>
     rw[k1 m EP]at hf;simp only at hf ⊢;unfold At at *
     refine en Tryz.func19 Tryz.ntmps19 ?_;exact wz yJ (cj hv<|cj hf<|trivial)
mutual
theorem wF : ∀(n:Nd) (s:AM) (src:List Int),(G1 s src n).map Rw.path=PF src n
 | ⟨k,t,c,kids⟩,s,src=>by simp only[G1,PF,Al,ADG kids]
theorem ADG : ∀(l:List Nd) (s:AM) (src:List Int) (i:Nat),(It s src i l).map Rw.path=PE src i l
 | [],s,src,i=>rfl
 | n::l,s,src,i=>by simp only[It,PE,EX,AOW n,ADG l]
theorem AOW : ∀(n:Nd) (s:AM) (src:List Int),(K3 s src n).map Rw.path=fQ src n
 | ⟨k,t,c,kids⟩,s,src=>by simp only[K3,fQ,AGf kids]
theorem AGf : ∀(l:List Nd) (s:AM) (src:List Int) (k:Int) (i:Nat),(Hz s src k i l).map Rw.path=Qa src i l
 | [],s,src,k,i=>rfl
 | n::l,s,src,k,i=>by simp only[Hz,Qa,EX,wF n,AGf l]
end
theorem uY (n:Nd)(i:Nat):Ez n (i:Int)=n.kids[i]?:=by
 unfold Ez;rw[if_neg (by omega)];rfl
mutual
theorem nO : ∀(n:Nd) (s:AM) (src:List Int) (r:Rw),r∈G1 s src n->∃t,r.path=src++t/\EO n t=some r.nd
 | ⟨k,t,c,kids⟩,s,src,r,h=>by
   simp only[G1,Cb]at h;rcases h with rfl|h
   . exact⟨[],by simp,rfl⟩
   . obtain⟨j,q,u,a,b,e,h1,h2,h3⟩:=ADE kids s src 0 r h;refine⟨_,e,?_⟩;simp only[Cu,EO,uY,h1,h2];exact h3
theorem ADE : ∀(l:List Nd) (s:AM) (src:List Int) (i:Nat) (r:Rw),r∈It s src i l->∃(j q:Nat) (u:List Int) (a b:Nd),r.path=src++(((i+j:Nat):Int)::(q:Int)::u)/\l[j]?=some a/\a.kids[q]?=some b/\EO b u=some r.nd
 | [],s,src,i,r,h=>by simp[It]at h
 | n::l,s,src,i,r,h=>by
   simp only[It,I4]at h;rcases h with h|h
   . obtain⟨q,u,b,e,h2,h3⟩:=AOU n s _ r h;exact⟨0,q,u,n,b,by rw[e];simp,rfl,h2,h3⟩
   . obtain⟨j,q,u,a,b,e,h1,h2,h3⟩:=ADE l s src (i+1) r h;exact⟨j+1,q,u,a,b,by rw[e,show i+1+j=i+(j+1)by omega],by simpa using h1,h2,h3⟩
theorem AOU : ∀(n:Nd) (s:AM) (src:List Int) (r:Rw),r∈K3 s src n->∃(q:Nat) (u:List Int) (b:Nd),r.path=src++((q:Int)::u)/\n.kids[q]?=some b/\EO b u=some r.nd
 | ⟨k,t,c,kids⟩,s,src,r,h=>by
   simp only[K3]at h;obtain⟨q,u,b,e,h2,h3⟩:=AGd kids s src k 0 r h;exact⟨q,u,b,by rw[e,Cu],h2,h3⟩
theorem AGd : ∀(l:List Nd) (s:AM) (src:List Int) (k:Int) (i:Nat) (r:Rw),r∈Hz s src k i l->∃(q:Nat) (u:List Int) (b:Nd),r.path=src++(((i+q:Nat):Int)::u)/\l[q]?=some b/\EO b u=some r.nd
 | [],s,src,k,i,r,h=>by simp[Hz]at h
 | n::l,s,src,k,i,r,h=>by
   simp only[Hz,I4]at h;rcases h with h|h
   . obtain⟨u,e,h3⟩:=nO n _ _ r h;exact⟨0,u,n,by rw[e];simp,rfl,h3⟩
   . obtain⟨q,u,b,e,h2,h3⟩:=AGd l s src k (i+1) r h;exact⟨q+1,u,b,by rw[e,show i+1+q=i+(q+1)by omega],by simpa using h2,h3⟩
end
theorem AFq {n:Nd}{s:AM}{r:Rw}(hv:n.Av=true)(h:r∈G1 s [] n):Xm n r.path=(r.nd,0):=by
 obtain⟨t,e,h2⟩:=nO n s [] r h;rw[Bh]at e;unfold Xm;rw[if_neg (by rw[hv];simp),e,h2]
mutual
theorem wG : ∀(n:Nd) (s:AM) (src:List Int),(G1 s src n).length+Gi (G1 s src n)<=n.cnt
 | ⟨k,t,c,kids⟩,s,src=>by
   have:=ADH kids s src 0;simp only[G1,Gi,BQ,Nd.cnt];omega
theorem ADH : ∀(l:List Nd) (s:AM) (src:List Int) (i:Nat),(It s src i l).length+Gi (It s src i l)+l.length<=Nd.A9 l
 | [],s,src,i=>BW _
 | n::l,s,src,i=>by
   have:=AOX n s (src++[(i:Int)]);have:=ADH l s src (i+1);simp only[It,C3,gD,BQ,Nd.A9];omega
theorem AOX : ∀(n:Nd) (s:AM) (src:List Int),(K3 s src n).length+Gi (K3 s src n)+1<=n.cnt
 | ⟨k,t,c,kids⟩,s,src=>by
   have:=AGg kids s src k 0;simp only[K3,Nd.cnt];omega
theorem AGg : ∀(l:List Nd) (s:AM) (src:List Int) (k:Int) (i:Nat),(Hz s src k i l).length+Gi (Hz s src k i l)<=Nd.A9 l
 | [],s,src,k,i=>BW _
 | n::l,s,src,k,i=>by
   have:=wG n (DZ k i s) (src++[(i:Int)]);have:=AGg l s src k (i+1);simp only[Hz,C3,gD,Nd.A9];omega
end
theorem r7 : ∀(n:Nd) (l:List Int) (m:Nd),EO n l=some m->l.length<=2*n.cnt
 | n,[],m,h=>Nat.zero_le _
 | n,[_],m,h=>by simp[EO]at h
 | n,i::j::r,m,h=>by
   simp only[EO]at h;cases hk:Ez n i with
   | none=>rw[hk]at h;simp at h
   | some p =>
     rw[hk]at h;simp only at h;cases hj:Ez p j with
     | none=>rw[hj]at h;simp at h
     | some q =>
       rw[hj]at h;simp only at h;have h1:=r7 q r m h;obtain⟨a,_,_,_,ha⟩:=Nv hk;obtain⟨b,_,_,_,hb⟩:=Nv hj;have h2:=fI _ _ (C6 hb);have h3:=fI _ _ (C6 ha);have h4:=Jk n;have h5:=Jk p;simp only[BQ];omega
mutual
theorem wc : ∀b:AA,b.CM (fun o s=>decide (s.length<=1000))=true->b.small
 | ⟨_,_,_,_,_,_,_,_,kids,o,src⟩,h=>by
   simp only[AA.CM,An,decide_eq_true_eq]at h;exact⟨by omega,AGj kids h.2⟩
theorem AGj : ∀l:List AA,AA.Ca (fun o s=>decide (s.length<=1000)) l=true->AA.smalls l
 | [],_=>trivial
 | b::l,h=>by
   simp only[AA.Ca,An]at h;exact⟨wc b h.1,AGj l h.2⟩
end
mutual
theorem nJ (x:Ae):∀(n:Nd) (s:AM) (t:List Int) (b:AA),t.length+n.BB<=1000->Db x s t n=some b->b.CM (fun o s=>decide (s.length<=1000))=true
 | ⟨k,tx,c,kids⟩,s,t,b,hd,h=>by
   simp only[Nd.BB]at hd;have hs:decide (t.length<=1000)=true:=decide_eq_true (by omega);unfold Db at h;split at h
   . cases h;exact YZ (by simp[AA.Ca]) hs
   . split at h
     . cases h
     . rename_i L hL;split at h
       . cases h
       . rename_i C hC;cases h;exact YZ (fh (by simp) (ADC x kids s t 0 L (by omega) hL) hC) hs
theorem ADC (x:Ae):∀(l:List Nd) (s:AM) (t:List Int) (i:Nat) (L:List AA),t.length+Nd.deps l+1<=1000->FF x s t i l=some L->AA.Ca (fun o s=>decide (s.length<=1000)) L=true
 | [],s,t,i,L,hd,h=>by simp only[FF,BE]at h;subst h;rfl
 | n::l,s,t,i,L,hd,h=>by
   simp only[Nd.deps]at hd;unfold FF at h;split at h
   . cases h
   . rename_i b hb;split at h
     . cases h
     . rename_i r hr;cases h;simp only[AA.Ca,AOS x n s _ b (by simp;omega) hb,ADC x l s t (i+1) r (by omega) hr,GR]
theorem AOS (x:Ae):∀(n:Nd) (s:AM) (t:List Int) (b:AA),t.length+n.BB<=1000->Ei x s t n=some b->b.CM (fun o s=>decide (s.length<=1000))=true
 | ⟨k,tx,c,kids⟩,s,t,b,hd,h=>by
   simp only[Nd.BB]at hd;have hs:decide (t.length<=1000)=true:=decide_eq_true (by omega);unfold Ei at h;split at h
   . cases h
   . rename_i L hL;split at h
     . cases h
     . rename_i C hC;cases h;exact YZ (AC1 (by simp) (AGb x kids s t k 0 L (by omega) hL) hC) hs
theorem AGb (x:Ae):∀(l:List Nd) (s:AM) (t:List Int) (k:Int) (i:Nat) (L:List AA),t.length+Nd.deps l+1<=1000->FJ x s t k i l=some L->AA.Ca (fun o s=>decide (s.length<=1000)) L=true
 | [],s,t,k,i,L,hd,h=>by simp only[FJ,BE]at h;subst h;rfl
 | n::l,s,t,k,i,L,hd,h=>by
   simp only[Nd.deps]at hd;unfold FJ at h;split at h
   . cases h
   . rename_i b hb;split at h
     . cases h
     . rename_i r hr;cases h;simp only[AA.Ca,nJ x n _ _ b (by simp;omega) hb,AGb x l s t k (i+1) r (by omega) hr,GR]
end
end Go.Proofs.YtpodcjcajanldaaGreat
