/- Part of the proof of laws of layer 38 and 43. Conditions: none. (Joined and shortened by a program.) -/
import Derived.Test.YtpodcjcajanldaaGreatL45
set_option linter.unusedVariables false
set_option linter.unusedSimpArgs false
set_option maxRecDepth 100000
set_option maxHeartbeats 16000000
open List renaming mem_cons→Cb,cons_append→Bg,nil_append→Bh
open Bool renaming and_eq_true→An,and_true→G4,and_self→GR,true_and→B5
namespace Go.Proofs.YtpodcjcajanldaaGreat
open Go.RowKit
theorem cL : ∀(l:List AA) (b:AA),b∈l->b.cnt<=AA.A9 l
 | [],b,h=>by cases h
 | x::l,b,h=>by
   simp only[AA.A9];rcases Cb.1 h with rfl|h
   . omega
   . have:=cL l b h;omega
mutual
def AA.A7 (g:Int->List Int->List Int):AA->AA
 | ⟨k,n,s,w,h,d,x,y,kids,o,src⟩=>⟨k,n,s,w,h,d,x,y,AA.GN g kids,o,g o src⟩
def AA.GN (g:Int->List Int->List Int):List AA->List AA
 | []=>[]
 | b::l=>b.A7 g::AA.GN g l
end
mutual
def AA.CM (p:Int->List Int->Bool):AA->Bool
 | ⟨_,_,_,_,_,_,_,_,kids,o,src⟩=>p o src && AA.Ca p kids
def AA.Ca (p:Int->List Int->Bool):List AA->Bool
 | []=>true
 | b::l=>b.CM p && AA.Ca p l
end
def J3 (o:Int)(s:List Int):Bool:=decide (o=0) && decide (s=[])
section
variable {g:Int->List Int->List Int} {p q:Int->List Int->Bool}
theorem qU : ∀ {l:List AA},AA.Ca p l=true↔∀b∈l,b.CM p=true
 | []=>by simp[AA.Ca]
 | b::l=>by simp only[AA.Ca,An,Cb,forall_eq_or_imp,qU (l:=l)]
mutual
theorem Vt (h : ∀o s,p o s=true->q o s=true):∀b:AA,b.CM p=true->b.CM q=true
 | ⟨_,_,_,_,_,_,_,_,kids,o,src⟩,e=>by
   simp only[AA.CM,An]at e ⊢;exact⟨h _ _ e.1,qT h kids e.2⟩
theorem qT (h : ∀o s,p o s=true->q o s=true):∀l:List AA,AA.Ca p l=true->AA.Ca q l=true
 | [],e=>rfl
 | b::l,e=>by
   simp only[AA.Ca,An]at e ⊢;exact⟨Vt h b e.1,qT h l e.2⟩
end
theorem Sf {b:AA}(hp:p 0 []=true)(h:b.CM J3=true):b.CM p=true:=Vt (fun o s e=>by
 simp only[J3,An,decide_eq_true_eq]at e;rw[e.1,e.2,hp]) b h
@[simp] theorem K4 (b:AA):(b.A7 g).w=b.w:=by cases b;rfl
@[simp] theorem MR (b:AA):(b.A7 g).h=b.h:=by cases b;rfl
@[simp] theorem Ld (b:AA):(b.A7 g).d=b.d:=by cases b;rfl
@[simp] theorem ly (b:AA):(b.A7 g).x=b.x:=by cases b;rfl
@[simp] theorem ZN (b:AA):(b.A7 g).y=b.y:=by cases b;rfl
@[simp] theorem AXU (b:AA):(b.A7 g).kind=b.kind:=by cases b;rfl
@[simp] theorem ADP (b:AA):(b.A7 g).name=b.name:=by cases b;rfl
@[simp] theorem ADT (b:AA):(b.A7 g).size=b.size:=by cases b;rfl
@[simp] theorem Um (b:AA)(x y:Int):(b.at_ x y).A7 g=(b.A7 g).at_ x y:=by cases b;rfl
@[simp] theorem uf (b:AA)(o:Int)(s:List Int):(b.mark o s).A7 g=(b.A7 g).mark o (g o s):=by cases b;rfl
@[simp] theorem AXT (b:AA):b.Pz.A7 g=(b.A7 g).Pz:=by cases b;rfl
@[simp] theorem Sb (b:AA)(x y:Int):(b.at_ x y).CM p=b.CM p:=by cases b;rfl
@[simp] theorem AWQ (b:AA):b.Pz.CM p=b.CM p:=by cases b;rfl
@[simp] theorem Sc (w h d:Int)(kids:List AA):(CB w h d kids).CM p=(p 0 [] && AA.Ca p kids):=rfl
@[simp] theorem zH (w h d:Int):(Dw w h d).CM p=p 0 []:=by simp only[Dw,AA.CM,AA.Ca,G4]
@[simp] theorem AWR:AA.zero.CM p=p 0 []:=by simp only[AA.zero,AA.CM,AA.Ca,G4]
theorem YZ {b:AA}{o:Int}{s:List Int}(h:b.CM p=true)(hs:p o s=true):(b.mark o s).CM p=true:=by
 cases b;simp only[AA.CM,AA.mark,An]at h ⊢;exact⟨hs,h.2⟩
theorem qw (f:AI)(n:ByteArray)(z:Int):(Cl f n z).1.CM J3=true:=by
 unfold Cl;split<;>rfl
theorem zk (f:AI)(ov z:Int):∀(l:List Part) (b:Int),AA.Ca J3 (FM f ov z b l)=true
 | [],b=>rfl
 | q::l,b=>by
   have h:=qw f q.name z;simp only[FM,AA.Ca,zk f ov z l,G4,ZY];generalize (Cl f q.name z).1=B at h ⊢;cases B;exact h
theorem jw (f:AI)(n:ByteArray)(need z:Int):(F4 f n need z).1.CM J3=true:=by
 unfold F4 Ja;repeat' split
 all_goals first|rfl|exact qw _ _ _|(simp only[Se,AA.CM,zk];rfl)
theorem AAE (b:AA)(a:Int)(hp:p 0 []=true)(h:b.CM p=true):(Ic b a).1.CM p=true:=by
 unfold Ic;split
 . simp[hp]
 . split
   . simp[hp]
   . split
     . simp[hp]
     . simp[h]
theorem qv (f:AI)(n:ByteArray)(need z:Int):(Hl f n need z).1.CM J3=true:=by
 unfold Hl;split
 . rfl
 . split
   . rfl
   . split
     . rfl
     . exact AAE _ _ rfl (jw _ _ _ _)
theorem qV : ∀(l:List AA) (t:List Int),AA.Ca p l=true->AA.Ca p (D3 l t)=true
 | [],_,_=>by cases ‹List Int›<;>rfl
 | _::_,[],_=>rfl
 | b::l,t::r,h=>by
   simp only[AA.Ca,An]at h;simp only[D3,AA.Ca,Sb,h.1,qV l r h.2,G4]
theorem fh {l:List AA}{sp:List Int}{b:AA}(hp:p 0 []=true)(h:AA.Ca p l=true)(e:okB (El l sp)=some b):b.CM p=true:=by
 rw[(VD e).1];simp only[NA,Sc,hp,qV l _ h,GR]
theorem Vz (x:Ae)(s:AM)(t:ByteArray):(x.gl s t).CM J3=true:=qw _ _ _
theorem cC {x:Ae}{s:AM}{t:ByteArray}{b:AA}(h:x.NM s t=some b):b.CM J3=true:=by
 refine fh rfl ?_ h;refine qU.2 fun c hc=>?_
 obtain⟨u,_,rfl⟩:=List.mem_map.1 hc;unfold Ae.OX;split
 . rfl
 . exact Vz _ _ _
theorem qx {x:Ae}{s:AM}{t:ByteArray}{b:AA}(h:x.sym s t=some b):b.CM J3=true:=by
 unfold Ae.sym at h;split at h
 . unfold Ae.QY at h;split at h
   . cases h
   . rename_i c hc;have h1:=AAE (p:=J3) (x.gl s (x.K8 s t).J7) (scale x.f.params.EB (x.sz s)) rfl (Vz _ _ _);unfold okB at hc;split at hc
     . cases hc;exact fh rfl (by simp[AA.Ca,h1]) h
     . cases hc
 . split at h
   . cases h;exact Vz x s t
   . exact cC h
end
section
variable {g:Int->List Int->List Int} {p:Int->List Int->Bool}
theorem ABF (hp:p 0 []=true){f:AI}{s:AM}{a b:AA}(ha:a.CM p=true)(hb:b.CM p=true):(L5 f s a b).CM p=true:=by
 simp only[L5,Sc,AA.Ca,Sb,zH,hp,ha,hb,GR]
theorem AFP (hp:p 0 []=true){f:AI}{s:AM}{a b:AA}(ha:a.CM p=true)(hb:b.CM p=true):(Jn f s a [b]).CM p=true:=by
 have hS:(DQ f s a).CM p=true:=Sf hp (jw f KO (GC f s a) (EU f s));simp only[Jn,m8,Sc,AA.Ca,Bg,Bh,Sb,zH,hp,ha,hb,hS,GR]
theorem zA (hp:p 0 []=true){f:AI}{s:AM}{t:ByteArray}{a b:AA}(ha:a.CM p=true)(hb:b.CM p=true):(Na f s t b a).CM p=true:=by
 simp only[Na,Sc,AA.Ca,Sb,hp,ha,hb,GR]
theorem AF7 (hp:p 0 []=true){f:AI}{s:AM}{b:AA}{l r:List AA}(hb:b.CM p=true)(hl:AA.Ca p l=true)(hr:AA.Ca p r=true):(Iz f s b l r).CM p=true:=by
 simp only[Iz,Sc,hp,B5];unfold Qi;cases l<;>cases r<;>simp only[AA.Ca,Bh,Bg,Sb,An,and_true]at hb hl hr ⊢
 . exact hb
 . exact⟨hb,hr.1⟩
 . exact⟨hb,hl.1⟩
 . exact⟨hb,hl.1,hr.1⟩
theorem ADh (hp:p 0 []=true){f:AI}{s:AM}{b:AA}{l r:List AA}(hb:b.CM p=true)(hl:AA.Ca p l=true)(hr:AA.Ca p r=true):(Iu f s b l r).CM p=true:=by
 simp only[Iu,Sc,hp,B5];unfold TQ;cases l<;>cases r<;>simp only[AA.Ca,Bh,Bg,Sb,An,and_true]at hb hl hr ⊢
 . exact hb
 . exact⟨hb,hr.1⟩
 . exact⟨hb,hl.1⟩
 . exact⟨hb,hl.1,hr.1⟩
theorem AKt (hp:p 0 []=true){f:AI}{t:ByteArray}{b c:AA}{z:Int}(hb:b.CM p=true)(h:okB (Ig f t b z)=some c):c.CM p=true:=by
 unfold Ig at h;split at h
 . simp[okB]at h
 . split at h
   . simp[okB]at h
   . refine fh hp ?_ h;simp only[AA.Ca,Sb,hb,Sf hp (qv _ _ _ _),GR]
theorem qf (q:Int)(AF:Nat)(cells:List AA)(top:Int):∀(l:List AA) (i:Nat),AA.Ca p l=true->AA.Ca p (JA q AF cells top i l)=true
 | [],i,_=>rfl
 | b::l,i,h=>by
   simp only[AA.Ca,An]at h;simp only[JA,AA.Ca,Yf,Sb,h.1,qf q AF cells top l _ h.2,GR]
theorem AJR (hp:p 0 []=true){f:AI}{s:AM}{AF:Nat}{l:List AA}{c:AA}(h:AA.Ca p l=true)(e:okB (ID f s AF l)=some c):c.CM p=true:=by
 unfold ID at e;split at e
 . simp[okB]at e
 . rw[(ET e).1];simp only[T4,Sc,hp,qf _ _ _ _ l _ h,GR]
theorem ke (hp:p 0 []=true){l:List AA}(h:AA.Ca p l=true)(i:Nat):(l.getD i AA.zero).CM p=true:=by
 simp only[List.getD_eq_getElem?_getD];cases hi:l[i]? with
 | none=>simp[hp]
 | some b=>exact qU.1 h b (List.mem_of_getElem? hi)
theorem ng (hp:p 0 []=true){l:List AA}(h:AA.Ca p l=true)(k:Int):AA.Ca p (Jt k l)=true:=by
 unfold Jt;split
 . rfl
 . simp only[AA.Ca,ke hp h,GR]
theorem ni (hp:p 0 []=true){l:List AA}(h:AA.Ca p l=true)(k:Int):AA.Ca p (Ju k l)=true:=by
 unfold Ju;split
 . rfl
 . simp only[AA.Ca,ke hp h,GR]
theorem AAe (kids:List Nd){b:AA}(h:b.CM p=true):(LR kids b).CM p=true:=by
 unfold LR;split
 . simp[h]
 . exact h
theorem AC1 (hp:p 0 []=true){x:Ae}{s:AM}{k:Int}{t:ByteArray}{c:Int}{kids:List Nd}{l:List AA}{b:AA}(hl:AA.Ca p l=true)(h:Dz x s k t c kids l=some b):b.CM p=true:=by
 have hg:=ke hp hl;unfold Dz at h;split at h
 . exact Sf hp (qx h)
 . split at h
   . exact Sf hp (cC h)
   . split at h
     . rw[(ET h).1];exact ABF hp (hg 0) (hg 1)
     . split at h
       . rw[(ET h).1];exact AFP hp (hg 1) (AAe _ (hg 0))
       . split at h
         . rw[(ET h).1];exact zA hp (Sf hp (Vz _ _ _)) (hg 0)
         . split at h
           . exact AKt hp (hg 0) h
           . split at h
             . exact AJR hp hl h
             . split at h
               . rw[(ET h).1];exact ADh hp (hg 0) (ng hp hl k) (ni hp hl k)
               . rw[(ET h).1];exact AF7 hp (hg 0) (ng hp hl k) (ni hp hl k)
end
theorem nI {x:Ae}{s:AM}{A:List Int}{n:Nd}{b:AA}(h:Db x s A n=some b):b.cnt<=20000:=by
 obtain⟨k,t,c,kids⟩:=n;unfold Db at h;split at h
 . cases h;show AA.cnt _<=20000;simp[Ae.empty,AA.mark,CB,AA.cnt,AA.A9]
 . split at h
   . cases h
   . split at h
     . cases h
     . rename_i C hC;cases h;have:=(DS (ZV hC)).2.2.2;cases C;exact this
end Go.Proofs.YtpodcjcajanldaaGreat
