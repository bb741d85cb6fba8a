/- Part of the proof of layoutRows.proved. Conditions: none. (Joined and shortened by a program.) -/
import Derived.Test.YtpodcjcajanldaaGreatL49
import Derived.Test.YtpodcjcajanldaaGreatL50
import Derived.Test.YtpodcjcajanldaaGreatL58
set_option linter.unusedVariables false
set_option linter.unusedSimpArgs false
set_option maxRecDepth 100000
set_option maxHeartbeats 16000000
open List renaming getElem?_eq_some_iff→Bv,replicate→As,getElem?_set_self→EG,replicate_succ→Ao,replicate_zero→C8,cons_append→Bg,nil_append→Bh,drop_succ_cons→Be,drop_zero→BO,mem_map→DC,length_set→DU,getElem?_set_ne→Di,set_append_right→YB,set_cons_zero→Ax,append_nil→D8,set_cons_succ→Az,set_set→R9,getElem?_append_left→FK,getElem?_append_right→IP,length_append→C3,append_assoc→EW,set_append_left→Vd,getElem?_map→Co,map_cons→Al,flatten_cons→GS,getElem?_eq_getElem→BP,length_pos_iff→NP,mem_of_getElem?→C6,length_cons→BQ,length_nil→B6,map_nil→A8,foldl_cons→Bl,foldl_nil→B7,mem_append→I4,length_map→Cg
open Go.Proofs.Tryz renaming f135→iI,prog→AD,results82→i9,func37→pD,ntmps37→pR,results37→bE,func10→iK,results10→aY
open Go.IntKind renaming i64→Ad
open Nat renaming le_refl→BW,zero_le→Cc,lt_irrefl→Lp,add_comm→aB,zero_add→Cu
open Bool renaming and_eq_true→An
open Option.some renaming injEq→BE
namespace Go.Proofs.YtpodcjcajanldaaGreat
open Go.RowKit
namespace DN
theorem AGG {α:Type}{l:List α}{i:Nat}{v:α}(h:l[i]?=some v):l.set i v=l:=by
 apply List.ext_getElem?;intro j;rw[List.getElem?_set];by_cases e:i=j
 . subst e;have hl:=(Bv.1 h).1;simp only[if_true,hl];exact h.symm
 . simp[e]
def cN:Option Code->Code
 | some (.seq _ (.seq _ (.seq (.loop c) _)))=>c
 | some (.seq _ (.seq _ (.seq (.block _ (.loop c)) _)))=>c
 | some (.seq _ (.seq _ (.seq c _)))=>c
 | _=>.skip
def H0 (st:List V)(j:Nat):O:=.box 136 (st++As j .any) false
def LQ (n:Nat):List V:=[.any,.ptr 0 0,.ptr 1 0,.own 2 0 n 1]++As 59 .any
noncomputable def Gt:Code:=cN (iI).body
noncomputable def cS:Code:=match Gt with
 | .seq _ (.block _ (.seq _ (.seq _ (.seq _ (.seq _ (.seq _ (.seq _ (.seq _ (.block _ (.loop c))))))))))=>c
 | _=>.skip
theorem AKO {K:Exit->St->Prop}(H:List O)(n k off:Nat)(ty:TypeId)(cs Nc:List V)(h2:H[2]?=some (.box 136 Nc false))(hk:H[k]?=some (.box ty cs false))(hk2:k≠2)(hp:Nc[n]?=some (.ptr k off))(hn:n<1000000)(Hq:cs[off+3]?=some (.c (.sl [])))(hK : ∀t,t.length=63->t.take 4=[.any,.ptr 0 0,.ptr 1 0,.own 2 0 n 1]->LA ⟨none,0⟩ AD Gt K ⟨t,H.set k (.box ty (cs.set (off+3) (.full [])) false)⟩) :
 AW ⟨none,0⟩ AD Gt (LM (LA ⟨none,0⟩ AD Gt K) K) ⟨LQ (n+1),H⟩:=by
 have Bp:k<H.length:=(Bv.1 hk).1;have Ih:2<H.length:=(Bv.1 h2).1;have hw:Ad.wrap (n:Int)=(n:Int):=Aq;have Nn:off+3<cs.length:=(Bv.1 Hq).1;have S7:H[k]'Bp=.box ty cs false:=(Bv.1 hk).2;have TA:off+3+1<=cs.length:=Nn;have hH1:(H.set k (.box ty (cs.set (off+3) (.full [])) false))[k]?=some (.box ty (cs.set (off+3) (.full [])) false):=by rw[EG Bp]
 have WW:(cs.set (off+3) (.full []))[off+3]?=some (.full []):=by rw[EG Nn]
 conv=>arg 3;unfold Gt
 simp only[cN,iI,LQ,Ao,C8,Bg,Bh];have hlt:(0:Int)<(n:Int)+1:=by omega
 have QH:(n:Int)<(n:Int)+1:=by omega
 refine go (cj @hw<|cj @h2<|cj @hp<|cj @hn<|cj @hlt<|@QH) ?_;with_reducible refine AW.DM ?_
 refine SW.take 4 ?_;with_reducible refine Bw (by simp[Ao,hw];first|exact rfl|exact⟨rfl,rfl⟩) ?_
 refine B9 ?_;simp only[Be,BO];refine SW.Jm (fun v t=>t=none/\v=.own 2 0 n 1) (by simp[gate]) ?_ ?_
 . intro S0 w0 x a w g ht hkk;exact⟨_,_,fun _ _ h=>(by cases h),⟨rfl,rfl⟩,mQ (P:=AD) (n:=n) (len:=n+1) g rfl (by simp;exact⟨rfl,rfl⟩) (Hn ht rfl) (Hn ht rfl) (by omega)⟩
 rintro v t ⟨rfl,rfl⟩;refine SW.take 1 ?_;with_reducible refine Bw (by simp[Ao];first|exact rfl|exact⟨rfl,rfl⟩) ?_
 refine B9 ?_;simp only[Be,BO];refine SW.nil ?_;refine go (cj @hk<|@Hq) ?_;refine go (cj @S7<|cj @Bp<|@TA) ?_;with_reducible refine AW.DM ?_
 refine SW.take 5 ?_;with_reducible refine Bw (by simp[Ao,hH1,WW];first|exact rfl|exact⟨rfl,rfl⟩) ?_
 refine B9 ?_;simp only[Be,BO];refine SW.Jm (fun v t=>t=none/\v=.c (.int .i64 0)) (by simp[gate]) ?_ ?_
 . intro S0 w0 x a w g ht hkk;exact⟨_,_,fun _ _ h=>(by cases h),⟨rfl,rfl⟩,AEI (P:=AD) g rfl (by simp;exact⟨rfl,rfl,rfl⟩) (by have:=Hn (v:=.full []) ht (i:=41) rfl;simp only[CV]at this;obtain⟨_,_,h⟩:=this;exact h) (cU ht rfl)⟩
 rintro v t ⟨rfl,rfl⟩;refine SW.nil ?_;refine go (cj @hH1<|@WW) ?_;with_reducible refine LA.loop ?_
 with_reducible refine LA.round ?_
 refine Ac ?_;exact hK _ rfl rfl
def Pm (n m i k off:Nat):List V:=[.any,.ptr 0 0,.ptr 1 0,.own 2 0 (n+i) 1,.ptr k off]++As 43 .any++[.c (.int .i64 (m:Int)),.c (.int .i64 (i:Int))]++As 13 .any
def E7 (L m:Nat):List V:=(List.range m).map fun i=>.ptr L (i*4)
theorem vh (L m:Nat):E7 L (m+1)=E7 L m++[.ptr L (m*4)]:=by simp[E7,List.range_succ]
theorem AE7 (L m:Nat):(E7 L m).length=m:=by simp[E7]
theorem vf {L N:Nat}(m:Nat)(h:L<N)(h2:L≠2):V.DB N (E7 L m)=true:=by
 rw[VJ];intro v hv;simp only[E7,DC]at hv;obtain⟨i,_,rfl⟩:=hv;simp[V.sf,h,h2]
theorem AFC {G h':List O}{t:List V}{n m i k off L q:Nat}{st:List V}{c':List V}(hG:FY G)(h2:2<G.length)(QE:k<G.length)(hk2:k≠2)(Sr:L<G.length)(Je:L≠2)(hst:V.DB G.length st=true)(hn:st.length=n)(hq:q=2\/G.length<=q)(C7:h'[q]?=some (.box 136 (st++E7 L (i+1)++c') false))(hh : ∀a,a<G.length->a≠2->h'[a]?=G[a]?)(ht:Cv (FH q) G.length t (Pm n m (i+1) k off)):Le ⟨none,0⟩ ⟨t,h'⟩ ⟨Pm n m (i+1) k off,G.set 2 (H0 (st++E7 L (i+1)) c'.length)⟩:=by
 have hl:(G.set 2 (H0 (st++E7 L (i+1)) c'.length)).length=G.length:=DU ..;refine Le.Em q (by rw[hl];exact hq) (by rw[hl];exact ht) ⟨_,_,C7,EG h2,?_⟩ (fun a o' ha ho=>?_)
 . rw[hl];refine⟨rfl,rfl,?_⟩;refine Cv.append ?_ (Cv.any c');exact Kg (N:=G.length) (VI.2 ⟨hst,vf _ Sr Je⟩) (BW _)
 . rw[Di (fun e=>ha e.symm)]at ho;have Et:a<G.length:=(Bv.1 ho).1;exact⟨o',by rw[hh a Et ha];exact ho,by rw[hl];exact T1 (hG a o' ha ho) (BW _)⟩
theorem ATd {α:Type}{l:List α}{n j:Nat}{x v:α}(h:l.length=n):(l++As (j+1) x).set n v=l++[v]++As j x:=by
 subst h;rw[YB _ _ (BW _),Nat.sub_self,Ao,Ax];simp
theorem AKS {K:Exit->St->Prop}(H:List O)(n k off L m j:Nat)(ty:TypeId)(cs st:List V)(h2:H[2]?=some (H0 st j))(hst:st.length=n)(hk:H[k]?=some (.box ty cs false))(hk2:k≠2)(hc:cs[off+3]?=some (.own L 0 m 4))(hL:L<H.length)(Je:L≠2)(Gw:FY H)(Ji:V.DB H.length st=true)(hb:n+m<1000000)(hK : ∀j',K (.exit 2) ⟨(Pm n m m k off).set 50 (.c (.bool false)),H.set 2 (H0 (st++E7 L m) j')⟩):AW ⟨none,0⟩ AD (.loop cS) K ⟨Pm n m 0 k off,H⟩:=by
 have Bp:k<H.length:=(Bv.1 hk).1;have Ih:2<H.length:=(Bv.1 h2).1;refine AW.loop (ι:={ p:Nat×Nat // p.1<=m }) (fun p=>⟨Pm n m p.1.1 k off,H.set 2 (H0 (st++E7 L p.1.1) p.1.2)⟩) (fun p=>m - p.1.1) ⟨(0,j),Cc _⟩ ?_ ?_
 . have e:H.set 2 (H0 (st++E7 L 0) j)=H:=by
    have:E7 L 0=[]:=rfl;rw[this,D8];exact AGG h2
   simp only[e];exact Le.refl _
 rintro ⟨⟨i,j⟩,hi⟩;simp only at hi ⊢;obtain⟨G,hG⟩:∃G,G=H.set 2 (H0 (st++E7 L i) j):=⟨_,rfl⟩
 have g2:G[2]?=some (H0 (st++E7 L i) j):=by rw[hG,EG Ih]
 have gk:G[k]?=some (.box ty cs false):=by rw[hG,Di (fun e=>hk2 e.symm)];exact hk
 have gl:G.length=H.length:=by rw[hG,DU]
 rw[<-hG];conv=>arg 3;unfold cS
 simp only[Gt,cN,iI,Pm,Ao,C8,Bg,Bh];by_cases hlt:i<m
 . have CA:(i:Int)<(m:Int):=by omega
   have hw:Ad.wrap ((i:Int)+1)=((i+1:Nat):Int):=by rw[Aq];simp
   with_reducible refine AW.seq ?_
   refine go @CA ?_;with_reducible refine AW.DM ?_
   refine SW.take 7 ?_;with_reducible refine Bw (by simp[Ao,gk,hc,hlt];first|exact rfl|exact⟨rfl,rfl⟩) ?_
   refine B9 ?_;simp only[Be,BO];refine SW.Jm (fun v t=>v=.own G.length 0 1 1/\t=some (G.length,.box 136 [.ptr L (i*4)] false)) (by simp[gate]) ?_ ?_
   . intro S0 w0 x a w g ht hkk;exact⟨_,_,fun _ _ h=>(by cases h;exact BW _),⟨rfl,rfl⟩,mP (P:=AD) (Bu:=8) g rfl (by simp) (Hn ht (i:=58) rfl) rfl _ hkk⟩
   rintro v t ⟨rfl,rfl⟩;simp only[St.step,St.put,CG,Lp,if_false,Az,Ax];have dF : ∀X,H.set 2 X=G.set 2 X:=by intro X;rw[hG,R9]
   have P2:2<G.length:=by omega
   have dA:1<G.length:=by omega
   have cz:0<G.length:=by omega
   have QE:k<G.length:=by omega
   have Sr:L<G.length:=by omega
   have dM:FY G:=by rw[hG];intro a o ha ho;rw[Di (fun e=>ha e.symm)]at ho;rw[DU];exact Gw a o ha ho
   have eK:V.DB G.length st=true:=by rw[gl];exact Ji
   obtain⟨G',P3⟩:∃G',G'=G++[.box 136 [.ptr L (i*4)] false]:=⟨_,rfl⟩
   have Sl:G'[2]?=some (.box 136 (st++E7 L i++As j V.any) false):=by rw[P3,FK P2];exact g2
   have sH:G'[G.length]?=some (.box 136 [.ptr L (i*4)] false):=by rw[P3,IP (BW _)];simp
   have gl':G'.length=G.length+1:=by rw[P3];simp
   have cu : ∀a,a<G.length->G'[a]?=G[a]?:=fun a ha=>by rw[P3,FK ha]
   have S9:(st++E7 L i).length=n+i:=by rw[C3,hst,AE7]
   rw[<-P3];refine SW.Jm (fun (v:V) (t:Option (Nat×O))=>(n+i<(st++E7 L i++As j V.any).length/\v=.own 2 0 (n+i+1) 1/\t=some (2,.box 136 ((st++E7 L i++As j V.any).set (n+i) (.ptr L (i*4))) false))\/∃j',v=.own G'.length 0 (n+i+1) 1/\t=some (G'.length,.box 136 ((st++E7 L i++As j V.any).take (n+i)++ .ptr L (i*4)::As j' V.any) false)) (by simp[gate]) ?_ ?_
   . intro S0 w0 x a w g ht hkk;exact AEH (P:=AD) (Bu:=8) g _ rfl (by simp) (Hn ht (i:=52) rfl) (Hn ht (i:=59) rfl) Sl sH rfl (by unfold maxLen;omega) (by omega) (by rw[C3,S9];omega) hkk (by show 2<=G'.length;omega)
   rintro v t (⟨JP,rfl,rfl⟩|⟨j',rfl,rfl⟩)
   . have hu:CG G' (some (2,.box 136 ((st++E7 L i++As j V.any).set (n+i) (.ptr L (i*4))) false))=G'.set 2 (.box 136 ((st++E7 L i++As j V.any).set (n+i) (.ptr L (i*4))) false):=by simp only[CG];rw[if_pos (by omega)]
     obtain⟨G2,L8⟩:∃G2,G2=G'.set 2 (.box 136 ((st++E7 L i++As j V.any).set (n+i) (.ptr L (i*4))) false):=⟨_,rfl⟩
     simp only[St.step,St.put,hu,<-L8,Az,Ax];have hj : ∃jj,j=jj+1:=by rw[C3,S9,List.length_replicate]at JP;exact⟨j - 1,by omega⟩
     obtain⟨jj,rfl⟩:=hj;refine SW.take 1 ?_;with_reducible refine Bw (by simp[Ao];first|exact rfl|exact⟨rfl,rfl⟩) ?_
     refine B9 ?_;simp only[Be,BO];refine SW.nil ?_;refine go @hw ?_;refine⟨⟨(i+1,(As jj (V.any)).length),by omega⟩,by simp only;omega,?_⟩;simp only[dF];refine AFC (q:=2) dM P2 QE hk2 Sr Je eK hst (.inl rfl) ?_ ?_ ?_
     . rw[L8,EG (by omega),vh,ATd S9];simp
     . intro a ha IG;rw[L8,Di (fun e=>IG e.symm)];exact cu a ha
     . simp[Cv,Wk,V.Ec,V.BA,Pm,FH,QE,hk2,P2,cz,dA];omega
   . have hu:CG G' (some (G'.length,.box 136 ((st++E7 L i++As j V.any).take (n+i)++ .ptr L (i*4)::As j' V.any) false))=G'++[.box 136 ((st++E7 L i++As j V.any).take (n+i)++ .ptr L (i*4)::As j' V.any) false]:=by simp only[CG];rw[if_neg (by omega)]
     obtain⟨G2,L8⟩:∃G2,G2=G'++[.box 136 ((st++E7 L i++As j V.any).take (n+i)++ .ptr L (i*4)::As j' V.any) false]:=⟨_,rfl⟩
     obtain⟨q,hq⟩:∃q,q=G'.length:=⟨_,rfl⟩
     simp only[St.step,St.put,hu,<-L8,Az,Ax];rw[<-hq];refine SW.take 1 ?_;with_reducible refine Bw (by simp[Ao];first|exact rfl|exact⟨rfl,rfl⟩) ?_
     refine B9 ?_;simp only[Be,BO];refine SW.nil ?_;refine go @hw ?_;refine⟨⟨(i+1,(As j' (V.any)).length),by omega⟩,by simp only;omega,?_⟩;simp only[dF];refine AFC (q:=q) dM P2 QE hk2 Sr Je eK hst (.inr (by omega)) ?_ ?_ ?_
     . rw[L8,hq,IP (BW _),vh,List.take_left' S9];simp
     . intro a ha IG;rw[L8,FK (by omega)];exact cu a ha
     . simp[Cv,Wk,V.Ec,V.BA,Pm,FH,QE,hk2,P2,cz,dA];omega
 . have CA : ¬(i:Int)<(m:Int):=by omega
   have tS:i=m:=by omega
   subst tS;refine go @CA ?_;rw[hG];exact hK j
end DN
namespace DN
theorem AKQ {K:Exit->St->Prop}(H:List O)(n k off:Nat)(ty:TypeId)(cs:List V)(rows:List (List C))(st:List V)(j:Nat)(hst:st.length=n)(h2:H[2]?=some (H0 (st++[.ptr k off]) j))(hk:H[k]?=some (.box ty cs false))(hk2:k≠2)(hn:n<1000000)(Hq:cs[off+3]?=some (.c (.sl rows)))(FT:0<rows.length)(HW:rows.length<=1000000)(Ra : ∀r∈rows,r.length=4)(Gw:FY H)(Ji:V.DB H.length st=true)(hb:n+rows.length<1000000)(hK : ∀j',LA ⟨none,0⟩ AD Gt K ⟨(Pm n rows.length rows.length k off).set 50 (.c (.bool false)),(H.set k (O.box ty (cs.set (off+3) (.own H.length 0 rows.length 4)) false)++[O.box 33 (rows.flatten.map V.c) false]).set 2 (H0 (st++E7 H.length rows.length) j')⟩) :
 AW ⟨none,0⟩ AD Gt (LM (LA ⟨none,0⟩ AD Gt K) K) ⟨LQ (n+1),H⟩:=by
 have hp:(st++[V.ptr k off]++As j .any)[n]?=some (.ptr k off):=by rw[EW,IP (by omega),hst];simp
 obtain⟨Nc,UY⟩:∃Nc,Nc=st++[V.ptr k off]++As j .any:=⟨_,rfl⟩
 unfold H0 at h2;rw[<-UY]at hp h2;have Bp:k<H.length:=(Bv.1 hk).1;have Ih:2<H.length:=(Bv.1 h2).1;have hw:Ad.wrap (n:Int)=(n:Int):=Aq;have Nn:off+3<cs.length:=(Bv.1 Hq).1;have S7:H[k]'Bp=.box ty cs false:=(Bv.1 hk).2;have TA:off+3+1<=cs.length:=Nn;have hH1:(H.set k (.box ty (cs.set (off+3) (.full [])) false))[k]?=some (.box ty (cs.set (off+3) (.full [])) false):=by rw[EG Bp]
 have WW:(cs.set (off+3) (.full []))[off+3]?=some (.full []):=by rw[EG Nn]
 conv=>arg 3;unfold Gt
 simp only[cN,iI,LQ,Ao,C8,Bg,Bh];have hlt:(0:Int)<(n:Int)+1:=by omega
 have QH:(n:Int)<(n:Int)+1:=by omega
 refine go (cj @hw<|cj @h2<|cj @hp<|cj @hn<|cj @hlt<|@QH) ?_;with_reducible refine AW.DM ?_
 refine SW.take 4 ?_;with_reducible refine Bw (by simp[Ao,hw];first|exact rfl|exact⟨rfl,rfl⟩) ?_
 refine B9 ?_;simp only[Be,BO];refine SW.Jm (fun v t=>t=none/\v=.own 2 0 n 1) (by simp[gate]) ?_ ?_
 . intro S0 w0 x a w g ht hkk;exact⟨_,_,fun _ _ h=>(by cases h),⟨rfl,rfl⟩,mQ (P:=AD) (n:=n) (len:=n+1) g rfl (by simp;exact⟨rfl,rfl⟩) (Hn ht rfl) (Hn ht rfl) (by omega)⟩
 rintro v t ⟨rfl,rfl⟩;refine SW.take 1 ?_;with_reducible refine Bw (by simp[Ao];first|exact rfl|exact⟨rfl,rfl⟩) ?_
 refine B9 ?_;simp only[Be,BO];refine SW.nil ?_;refine go (cj @hk<|@Hq) ?_;have JQ:(0:Int)<(rows.length:Int):=by omega
 have uA:56*(rows.length:Int)<=281474976710656:=by omega
 have M3:(rows.length:Int)<=9223372036854775807:=by omega
 refine go (cj @S7<|cj @Bp<|cj @TA<|cj @FT<|@JQ) ?_;with_reducible refine AW.DM ?_
 refine SW.take 4 ?_;with_reducible refine Bw (by simp[Ao,uA,M3];first|exact rfl|exact⟨rfl,rfl⟩) ?_
 refine B9 ?_;simp only[Be,BO];have tT : ∀a b:List O,(if k<H.length+1 then a else b)=a:=fun a b=>if_pos (by omega)
 have JL : ∀(o:O) (X:O),(H.set k o++[X])[k]?=some o:=fun o X=>by rw[FK (by simpa using Bp),EG Bp]
 have uE : ∀(o o':O) (X:O),(H.set k o++[X]).set k o'=H.set k o'++[X]:=fun o o' X=>by rw[Vd _ _ (by simpa using Bp),R9]
 have hss : ∀a b:V,(cs.set (off+3) a).set (off+3) b=cs.set (off+3) b:=fun a b=>R9 ..
 refine SW.take 3 ?_;with_reducible refine Bw (by simp[Ao,tT,JL,uE,hss,TA];first|exact rfl|exact⟨rfl,rfl⟩) ?_
 refine B9 ?_;simp only[Be,BO];refine SW.nil ?_;obtain⟨Z,hZ⟩:∃Z:List V,Z=(As rows.length [V.c (C.int Ad 0),V.c (C.str { data:=#[] }),V.c (C.int Ad 0),V.full []]).flatten:=⟨_,rfl⟩
 rw[<-hZ];have KA:Z.length=rows.length*4:=by rw[hZ];simp[List.length_flatten]
 have hc3:(cs.set (off+3) (.own H.length 0 rows.length 4))[off+3]?=some (.own H.length 0 rows.length 4):=by rw[EG Nn]
 refine Ac ?_;with_reducible refine AW.DM ?_
 refine SW.take 5 ?_;with_reducible refine Bw (by simp[Ao,JL,hc3];first|exact rfl|exact⟨rfl,rfl⟩) ?_
 refine B9 ?_;simp only[Be,BO];obtain⟨H3,hH3⟩:∃H3,H3=H.set k (O.box ty (cs.set (off+3) (.own H.length 0 rows.length 4)) false)++[O.box 33 Z false]:=⟨_,rfl⟩
 rw[<-hH3];have sM:H3[H.length]?=some (.box 33 Z false):=by rw[hH3,IP (by simp)];simp
 have h3l:H3.length=H.length+1:=by rw[hH3];simp
 refine SW.Jm (fun v t=>v=.c (.int .i64 rows.length)/\t=some (H.length,.box 33 (rows.flatten.map V.c) false)) (by simp[gate]) ?_ ?_
 . intro S0 w0 x a w g ht hkk;exact⟨_,_,fun _ _ h=>(by cases h;show H.length<=H3.length;omega),⟨rfl,rfl⟩,AEJ (P:=AD) (Bu:=56) (es:=4) g rfl (by simp;exact rfl) (Hn ht (i:=41) rfl) (cU ht (i:=42) rfl) Ra sM KA⟩
 rintro v t ⟨rfl,rfl⟩;have hu:CG H3 (some (H.length,.box 33 (rows.flatten.map V.c) false))=H.set k (O.box ty (cs.set (off+3) (.own H.length 0 rows.length 4)) false)++[O.box 33 (rows.flatten.map V.c) false]:=by
  simp only[CG];rw[if_pos (by omega),hH3,YB _ _ (by simp)];simp
 simp only[St.step,St.put,hu,Az,Ax];refine SW.nil ?_;obtain⟨D,hD⟩:∃D,D=rows.flatten.map V.c:=⟨_,rfl⟩
 have sR:V.DB H.length D=true:=by rw[hD];exact Zi _
 rw[<-hD]at hK ⊢;refine go (cj @JL<|@hc3) ?_;obtain⟨H4,Jd⟩:∃H4,H4=H.set k (O.box ty (cs.set (off+3) (.own H.length 0 rows.length 4)) false)++[O.box 33 D false]:=⟨_,rfl⟩
 rw[<-Jd]at hK ⊢;have e4:H4=(H++[O.box 33 D false]).set k (O.box ty (cs.set (off+3) (.own H.length 0 rows.length 4)) false):=by rw[Jd,Vd _ _ Bp]
 have l4:H4.length=H.length+1:=by rw[Jd];simp
 obtain⟨_,_,_,Fs,MF⟩:=Gw k _ hk2 hk;cases Fs;have s4:FY H4:=by
  rw[e4];refine FY.set (FY.push Gw sR) (nR ?_ ?_)
  . exact(Mb (by simp) cs MF).2
  . simp[V.sf];omega
 have k4:H4[k]?=some (.box ty (cs.set (off+3) (.own H.length 0 rows.length 4)) false):=by rw[Jd];exact JL _ _
 have g4:H4[2]?=some (.box 136 Nc false):=by rw[e4,Di hk2,FK Ih];exact h2
 have Qj:V.DB H4.length st=true:=(Mb (by omega) st Ji).2;refine AW.le (s':=⟨Pm n rows.length 0 k off,H4.set 2 (H0 st (j+1))⟩) ?_ ?_
 . refine Le.Em 2 (.inl rfl) ?_ ⟨_,_,g4,EG (by omega),?_⟩ (fun a o' ha ho=>?_)
   . rw[DU];simp[Cv,Wk,V.Ec,V.BA,Pm,FH,hk2,l4];omega
   . rw[DU,UY,EW];exact⟨rfl,rfl,Cv.append (Kg Qj (BW _)) (by have:=Cv.any (ρ:=FH 2) (N:=H4.length) ([V.ptr k off]++As j .any);simpa [aB]using this)⟩
   . rw[Di (fun e=>ha e.symm)]at ho;exact⟨o',ho,by rw[DU];exact T1 (s4 a o' ha ho) (BW _)⟩
 . refine AKS (H4.set 2 (H0 st (j+1))) n k off H.length rows.length (j+1) ty (cs.set (off+3) (.own H.length 0 rows.length 4)) st (EG (by omega)) hst (by rw[Di (fun e=>hk2 e.symm)];exact k4) hk2 hc3 (by rw[DU];omega) (by omega) ?_ (by rw[DU];exact Qj) hb (fun j'=>?_)
   . intro a o ha ho;rw[Di (fun e=>ha e.symm)]at ho;rw[DU];exact s4 a o ha ho
   . rw[R9];with_reducible refine NZ ?_
     refine Ac ?_;exact hK j'
end DN
namespace DN
theorem AEC (l:List Nd):∀r∈Nd.rows l,r.length=4:=by
 rw[ND];intro r hr;obtain⟨b,_,rfl⟩:=DC.1 hr;exact b.Lh
theorem AK1 {l:List Nd}{i q:Nat}{b:Nd}(h:l[i]?=some b)(hq:q<4):((Nd.rows l).flatten.map V.c)[i*4+q]?=(b.row.map V.c)[q]?:=by
 rw[Co,Co];congr 1
 rw[ND];induction l generalizing i with
 | nil=>simp at h
 | cons x l ih =>
   cases i with
   | zero =>
     simp at h;subst h;rw[Al,GS,Nat.zero_mul,Cu,FK (by rw[Nd.Lh];exact hq)]
   | succ i =>
     rw[Al,GS,IP (by rw[Nd.Lh];omega),Nd.Lh,<-ih (i:=i) (by simpa using h)];congr 1
     omega
theorem y7 {N:Nat} : ∀ {l:List V} {i:Nat},l[i]?=some (.c (.sl []))->V.DB N l=true->Cv (FH 2) N (l.set i (.full [])) l
 | [],i,h,_=>by simp at h
 | v::l,0,h,hs=>by
   simp at h;subst h;simp only[V.DB,An]at hs;exact⟨.inr (.inr ⟨[],rfl,rfl⟩),Kg hs.2 (BW _)⟩
 | v::l,i+1,h,hs=>by
   simp only[V.DB,An]at hs;rw[Az];exact⟨.inr (.inl ⟨(wP (N:=N) (fun k _ hk=>by simp[FH,hk]) v hs.1).symm,(wO (BW _) v hs.1).1⟩),y7 (by simpa using h) hs.2⟩
theorem rZ {N n:Nat}{t:List V}(hN:2<N)(hl:t.length=63)(ht:t.take 4=[.any,.ptr 0 0,.ptr 1 0,.own 2 0 n 1]):Cv (FH 2) N t (LQ n):=by
 have e:t=[.any,.ptr 0 0,.ptr 1 0,.own 2 0 n 1]++t.drop 4:=by rw[<-ht,List.take_append_drop]
 rw[e];have e2:(59:Nat)=(t.drop 4).length:=by rw[List.length_drop,hl]
 unfold LQ;rw[e2];refine Cv.append ?_ (Cv.any _);have h0:0<N:=by omega
 have h1:1<N:=by omega
 simp[Cv,Wk,V.Ec,V.BA,FH,hN,h0,h1]
section
variable {K:Exit->St->Prop}
abbrev jI (K:Exit->St->Prop)(s:St):Prop:=LA ⟨none,0⟩ AD Gt K s
def bP (K:Exit->St->Prop)(b:Nd):Prop:=∀(H:List O) (st:List V) (j k off:Nat) (ty:TypeId) (cs:List V),H[2]?=some (H0 (st++[.ptr k off]) j)->H[k]?=some (.box ty cs false)->k≠2->(∀q,q<4->cs[off+q]?=(b.row.map V.c)[q]?)->FY H->V.DB H.length st=true->st.length+b.cnt<1000000->
 (∀j',jI K ⟨LQ st.length,H.set 2 (H0 st j')⟩)->jI K ⟨LQ (st.length+1),H⟩
theorem AAb (kids:List Nd)(hk : ∀(i:Nat) (b:Nd),kids[i]?=some b->bP K b)(G:List O)(st:List V)(L:Nat)(hL:G[L]?=some (.box 33 ((Nd.rows kids).flatten.map V.c) false))(Je:L≠2)(h2:2<G.length)(hG:FY G)(hst:V.DB G.length st=true)(hb:st.length+Nd.A9 kids<1000000)(hK : ∀j',jI K ⟨LQ st.length,G.set 2 (H0 st j')⟩):∀(i j:Nat),i<=kids.length->jI K ⟨LQ (st.length+i),G.set 2 (H0 (st++E7 L i) j)⟩
 | 0,j,_=>by
   have:E7 L 0=[]:=rfl;rw[this,D8];exact hK j
 | i+1,j,hi=>by
   have hlt:i<kids.length:=hi;obtain⟨b,hb'⟩:∃b,kids[i]?=some b:=⟨_,BP hlt⟩
   have Fm:L<G.length:=(Bv.1 hL).1;have:=u6 kids i b hb';have hl:(st++E7 L i).length=st.length+i:=by rw[C3,AE7]
   have:=hk i b hb' (G.set 2 (H0 (st++E7 L (i+1)) j)) (st++E7 L i) j L (i*4) 33 _ (by rw[EG h2,vh,EW]) (by rw[Di (fun e=>Je e.symm)];exact hL) Je (fun q hq=>AK1 hb' hq)
    (by intro a o ha ho;rw[Di (fun e=>ha e.symm)]at ho;rw[DU];exact hG a o ha ho) (by rw[DU];exact VI.2 ⟨hst,vf _ Fm Je⟩) (by rw[hl];omega)
    (fun j'=>by rw[R9,hl];exact AAb kids hk G st L hL Je h2 hG hst hb hK i j' (by omega))
   rw[hl]at this;exact this
theorem AKU (b:Nd)(hk0:b.kids=[]):bP K b:=by
 intro H st j k off ty cs h2 hk hk2 BU Gw Ji hb hK;obtain⟨b0,b1,b2,kids⟩:=b;simp only at hk0;subst hk0;have Hq:cs[off+3]?=some (.c (.sl [])):=BU 3 (by omega);have Ih:2<H.length:=(Bv.1 h2).1;obtain⟨_,_,_,Fs,MF⟩:=Gw k _ hk2 hk;cases Fs;refine LA.round (AKO H st.length k off ty cs _ h2 hk hk2 ?_ (by omega) Hq fun t hl ht=>?_)
 . rw[EW,IP (BW _)];simp
 . refine LA.le (Le.Em 2 (.inl rfl) ?_ ⟨H0 (st++[.ptr k off]) j,_,?_,EG Ih,?_⟩ (fun a o' ha ho=>?_)) (hK (j+1))
   . rw[DU];exact rZ Ih hl ht
   . rw[Di hk2];exact h2
   . rw[DU];unfold H0;rw[EW];exact⟨rfl,rfl,Cv.append (Kg Ji (BW _)) (by have:=Cv.any (ρ:=FH 2) (N:=H.length) ([V.ptr k off]++As j .any);simpa [aB]using this)⟩
   . rw[Di (fun e=>ha e.symm)]at ho;rw[DU];by_cases e:a=k
     . subst e;rw[hk]at ho;cases ho;exact⟨_,EG (Bv.1 hk).1,rfl,rfl,y7 Hq MF⟩
     . exact⟨o',by rw[Di (fun h=>e h.symm)];exact ho,T1 (Gw a o' ha ho) (BW _)⟩
theorem toCs_mapN : ∀l:List C,toCs (l.map V.c)=some l
 | []=>rfl
 | c::l=>by simp only[Al,toCs,toC,toCs_mapN l]
theorem AKW (b:Nd)(hk0:b.kids≠[])(ih : ∀(i:Nat) (c:Nd),b.kids[i]?=some c->bP K c):bP K b:=by
 intro H st j k off ty cs h2 hk hk2 BU Gw Ji hb hK;obtain⟨b0,b1,b2,kids⟩:=b;simp only at hk0 ih;simp only[Nd.cnt]at hb;have Hq:cs[off+3]?=some (.c (.sl (Nd.rows kids))):=BU 3 (by omega);have Ih:2<H.length:=(Bv.1 h2).1;have Bp:k<H.length:=(Bv.1 hk).1;have Am:(Nd.rows kids).length=kids.length:=by rw[ND];simp
 have hkp:0<kids.length:=NP.2 hk0;have CU:=Ny kids;obtain⟨_,_,_,Fs,MF⟩:=Gw k _ hk2 hk;cases Fs;refine LA.round (AKQ H st.length k off ty cs (Nd.rows kids) st j rfl h2 hk hk2 (by omega) Hq (by omega) (by omega) (AEC kids) Gw Ji (by omega) fun j'=>?_);obtain⟨H4,Jd⟩:∃H4,H4=H.set k (O.box ty (cs.set (off+3) (.own H.length 0 (Nd.rows kids).length 4)) false)++[O.box 33 ((Nd.rows kids).flatten.map V.c) false]:=⟨_,rfl⟩
 have e4:H4=(H++[O.box 33 ((Nd.rows kids).flatten.map V.c) false]).set k (O.box ty (cs.set (off+3) (.own H.length 0 (Nd.rows kids).length 4)) false):=by rw[Jd,Vd _ _ Bp]
 have l4:H4.length=H.length+1:=by rw[Jd];simp
 have s4:FY H4:=by
  rw[e4];refine FY.set (FY.push Gw (Zi _)) (nR ?_ ?_)
  . exact(Mb (by simp) cs MF).2
  . simp[V.sf];omega
 have L4:H4[H.length]?=some (.box 33 ((Nd.rows kids).flatten.map V.c) false):=by rw[Jd,IP (by simp)];simp
 rw[<-Jd];have Qj:V.DB H4.length st=true:=(Mb (by omega) st Ji).2;have key:=AAb kids ih H4 st H.length L4 (by omega) (by omega) s4 Qj (by omega) (fun j2=>?_) kids.length j' (BW _)
 . refine LA.le (Le.Em 2 (.inl rfl) ?_ ⟨_,_,EG (by omega),EG (by omega),?_⟩ (fun a o' ha ho=>?_)) key
   . rw[DU];rw[Am];exact rZ (by omega) rfl rfl
   . rw[DU,Am];exact⟨rfl,rfl,Cv.append (Kg (VI.2 ⟨Qj,vf _ (by omega) (by omega)⟩) (BW _)) (by have:=Cv.any (ρ:=FH 2) (N:=H4.length) (As j' V.any);simpa using this)⟩
   . rw[DU];rw[Di (fun e=>ha e.symm)]at ho;exact⟨o',by rw[Di (fun e=>ha e.symm)];exact ho,T1 (s4 a o' ha ho) (BW _)⟩
 .
   refine LA.le (Le.trans (Le.freeze H.length (row:=(Nd.rows kids).flatten) (by rw[Di (by omega)];exact L4) (toCs_mapN _)) (Le.Em 2 (.inl rfl) ?_ ⟨O.AR H.length (Nd.rows kids).flatten (H0 st j2),_,?_,EG Ih,?_⟩ (fun a o' ha ho=>?_))) (hK j2)
   . rw[DU];have:V.BG H.length (Nd.rows kids).flatten (LQ st.length)=LQ st.length:=by
      have sL : ¬2=H.length:=by omega
      have dB : ¬1=H.length:=by omega
      have Ys : ¬0=H.length:=by omega
      simp[LQ,Ao,V.BG,V.AR,sL,dB,Ys]
     rw[this];exact rZ Ih rfl rfl
   . rw[Co,Di (by omega),EG (by omega)];rfl
   . rw[DU];have hs:V.DB H.length (st++As j2 .any)=true:=VI.2 ⟨Ji,VJ.2 fun v hv=>by rw[(List.mem_replicate.1 hv).2];rfl⟩;simp only[O.AR,H0];rw[Rx (BW _) _ hs];exact⟨rfl,rfl,Kg hs (BW _)⟩
   . rw[DU];rw[Di (fun e=>ha e.symm)]at ho;have Et:a<H.length:=(Bv.1 ho).1;rw[Co,Di (by omega),Di (fun e=>ha e.symm),e4];by_cases e:a=k
     . subst e;rw[hk]at ho;cases ho;rw[EG (by simp;omega)];refine⟨_,rfl,?_⟩;simp only[O.AR];have:V.BG H.length (Nd.rows kids).flatten (cs.set (off+3) (.own H.length 0 (Nd.rows kids).length 4))=cs:=by
        rw[cb,List.map_set,<-cb,Rx (BW _) _ MF];simp only[V.AR,if_true,BO];rw[V8 _ (AEC kids)];exact AGG Hq
       rw[this];exact⟨rfl,rfl,Kg MF (BW _)⟩
     . rw[Di (fun h=>e h.symm),FK Et,ho];obtain⟨Fy,cs',ca,rfl,hs⟩:=Gw a o' ha ho;refine⟨_,rfl,?_⟩;simp only[O.AR];rw[Rx (BW _) _ hs];exact⟨rfl,rfl,Kg hs (BW _)⟩
theorem AAd : ∀(b:Nd),bP K b
 | ⟨b0,b1,b2,kids⟩=>by
   by_cases hk0:kids=[]
   . exact AKU _ hk0
   . refine AKW _ hk0 fun i c hc=>?_
     have hm:c∈kids:=C6 hc;exact AAd c
 termination_by b=>SizeOf.sizeOf b
 decreasing_by
 have:=List.sizeOf_lt_of_mem hm;simp only[Nd.mk.sizeOf_spec];omega
end
theorem AKM (b:Nd)(hc:b.cnt<999999):AC AD 135 [At b] (At b):=by
 obtain⟨R,hR⟩:∃R,R=b.vs:=⟨_,rfl⟩
 have L9:R.length=4:=by rw[hR];simp
 have Eu:R.all V.one=true:=by rw[hR];simp
 have tO : ∀x∈R,x.one=true:=by simpa using Eu
 unfold At;refine en Tryz.func135 Tryz.ntmps135 ?_;rw[<-hR];refine go (cj @L9<|cj @Eu<|@tO) ?_;with_reducible refine AW.DM ?_
 refine SW.Jm (fun v t=>v=.own 2 0 1 1/\t=some (2,.box 136 [.ptr 0 0] false)) (by simp[gate]) ?_ ?_
 . intro S0 w0 x a w g ht hkk;exact⟨_,_,fun _ _ h=>(by cases h;exact BW _),⟨rfl,rfl⟩,mP (P:=AD) (Bu:=8) g rfl (by simp) (Hn ht (i:=1) rfl) rfl _ hkk⟩
 rintro v t ⟨rfl,rfl⟩;simp only[St.step,St.put,CG,BQ,B6,Nat.reduceAdd,Lp,if_false,Az,Ax,Bg,Bh];refine SW.take 1 ?_;with_reducible refine Bw (by simp[Ao];first|exact rfl|exact⟨rfl,rfl⟩) ?_
 refine B9 ?_;simp only[Be,BO];refine SW.nil ?_;with_reducible refine G7 ?_
 with_reducible refine AW.seq ?_
 with_reducible refine AW.block ?_
 with_reducible refine LA.loop ?_
 refine LA.le (s':=⟨LQ 1,_⟩) (Le.BV (by simp[A5,LQ,Ao])) ?_;refine AAd b _ [] 0 0 0 33 R rfl rfl (by omega) (fun q hq=>by rw[hR,Cu];rfl) ?_ rfl (by simp only[B6];omega) (fun j'=>?_)
 . intro a o ha ho;match a,ho with
   | 0,ho=>cases ho;exact⟨_,_,_,rfl,by rw[hR];exact Zi _⟩
   | 1,ho=>cases ho;exact⟨_,_,_,rfl,rfl⟩
   | 2,ho=>exact absurd rfl ha
   | a+3,ho=>simp at ho
 . refine LA.round ?_;conv=>arg 3;unfold Gt
   obtain⟨b0,b1,b2,kids⟩:=b;simp only[Nd.vs,Nd.row,Al,A8]at hR;subst hR;simp only[cN,iI,LQ,Ao,C8,Bg,Bh,B6,Az,Ax,H0];refine Ac ?_;simp[Aj,AV,AZ,Aa,V.AP,V.AO,AU,Tryz.results135,Nd.row]
end DN
theorem ARm (n:Nd)(l:List Int)(Au:n.Bc)(hc:n.cnt<=100000)(hl:l.length<=1000000):AC AD 82 [At n,.c (Ab l)] (fK (Xm n l)):=by
 have hv:=mr n Au (by omega);have hf:=AQz n l Au hl;have hz:X6.vs=[.c (.int .i64 0),.c (.str ⟨#[]⟩),.c (.int .i64 0),.c (.sl [])]:=rfl;obtain⟨L,hL⟩:=AE (Ab l);rw[hL]at hf ⊢;obtain⟨k1,k2⟩:=AA2 n l;unfold Xm fK;cases Ns:n.Av with
 | false =>
   rw[Ns]at hv;simp only[if_true];unfold At at *
   refine en Tryz.func82 Tryz.ntmps82 ?_;exact wz (cj @hz<|i9) (cj hv<|trivial)
 | true =>
   rw[Ns]at hv;simp only[Bool.true_eq_false,if_false];cases EP:EO n l with
   | none =>
     have:=k2 EP;obtain⟨⟨p,b⟩,hp⟩:=AE (Oc n l);rw[hp]at hf this;simp only at hf this;subst this;unfold At at *
     refine en Tryz.func82 Tryz.ntmps82 ?_;refine wu (CJ.mk 3) i9 (cj hv<|trivial) ⟨?_⟩;refine AW.AR 0 rfl (by simp[toCs,toC];exact rfl) (by simp[V.BG,V.AR];exact rfl) (by simp[O.AR,V.BG,V.AR];exact rfl) ?_;exact wz (cj @hz<|i9) (cj hf<|trivial)
   | some m =>
     have hd:=DN.AKM m (by have:=ka n l m EP;omega);rw[k1 m EP]at hf;simp only at hf ⊢;unfold At at *
     refine en Tryz.func82 Tryz.ntmps82 ?_;refine wu (CJ.mk 3) i9 (cj hv<|trivial) ⟨?_⟩;refine AW.AR 0 rfl (by simp[toCs,toC];exact rfl) (by simp[V.BG,V.AR];exact rfl) (by simp[O.AR,V.BG,V.AR];exact rfl) ?_;exact wz i9 (cj hf<|cj hd<|trivial)
def VP:Nd->List Int->AM->AM
 | n,i::j::r,s=>match Ez n i with
   | none=>s
   | some m=>match Ez m j with
     | none=>s
     | some q=>VP q r (DZ m.kind j s)
 | _,_,s=>s
def nf (n:Nd)(l:List Int)(s:AM):AM×Int:=
 if n.Av=false\/s.ok=false then(⟨0,false⟩,1)else match EO n l with
  | none=>(⟨0,false⟩,8)
  | some _=>(VP n l s,0)
theorem sB {k:Int} : ∀ {l:List Nd} {a:Nat} {b:Nd},Nd.GX k l=true->l[a]?=some b->IK k b.kind=false/\b.F5=true
 | [],a,b,_,h=>by simp at h
 | x::l,0,b,hf,h=>by
   simp at h;subst h;simp only[Nd.GX,An,Bool.not_eq_true']at hf;exact hf.1
 | x::l,a+1,b,hf,h=>by
   simp only[Nd.GX,An]at hf;exact sB hf.2 (by simpa using h)
theorem AUF {k c:Int}{n:Nat}{j:Nat}(h:Dh k c n=true)(hj:j<n)(hk:k≠1):(j:Int)<GQ k:=by
 unfold Dh at h;unfold GQ;by_cases vk:k=12
 . rw[if_pos vk]at h;subst vk;simp only[An,decide_eq_true_eq]at h;have:=h.2.2.2.1;simp;omega
 rw[if_neg vk]at h;by_cases qc:c≠0
 . rw[if_pos qc]at h;cases h
 rw[if_neg qc,if_neg hk]at h;by_cases q2:k=2\/k=3\/k=4
 . rw[if_pos q2]at h;have:=of_decide_eq_true h;omega
 rw[if_neg q2]at h;by_cases q5:k=5\/k=6\/k=7\/k=8
 . rw[if_pos q5]at h ⊢;have:=of_decide_eq_true h;omega
 rw[if_neg q5]at h ⊢;by_cases q9:k=9
 . rw[if_pos q9]at h ⊢;have:=of_decide_eq_true h;omega
 rw[if_neg q9]at h ⊢;by_cases mu:k=10\/k=11
 . rw[if_pos mu]at h ⊢;have:=of_decide_eq_true h;omega
 rw[if_neg mu]at h;cases h
theorem AGV {k i:Int}{s:AM}(h:s.ok=true):(DZ k i s).ok=true:=by
 obtain⟨l,c⟩:=s;have hl:0<=l/\l<=3:=by unfold AM.ok at h;simpa using h
 have key : ∀(L:Int) (b:Bool),0<=L->L<=3->AM.ok ⟨L,b⟩=true:=by intro L b h1 h2;unfold AM.ok;simp[h1,h2]
 unfold DZ Rv;simp only;by_cases h1:k=5
 . rw[if_pos h1];exact key _ _ (by split<;>omega) (by split<;>omega)
 rw[if_neg h1];by_cases h2:k=6
 . rw[if_pos h2];split
   . exact key _ _ (by omega) (by omega)
   . exact key _ _ hl.1 hl.2
 rw[if_neg h2];by_cases h3:k=7\/k=8\/k=9
 . rw[if_pos h3];split
   . exact key _ _ hl.1 hl.2
   . exact key _ _ (by split<;>omega) (by split<;>omega)
 rw[if_neg h3];split
 . exact key _ _ hl.1 hl.2
 . split
   . exact key _ _ (by split<;>omega) (by split<;>omega)
   . exact key _ _ hl.1 hl.2
def Ze (n:Nd):Prop:=n.kind=1/\n.F5=true/\n.Bc
theorem AFl {n m q:Nd}{i j:Int}(hn:Ze n)(hm:Ez n i=some m)(hq:Ez m j=some q)(s:AM)(hs:s.ok=true):Ze q/\Rz m.kind j s=(DZ m.kind j s,0):=by
 obtain⟨h1,h2,h3⟩:=hn;obtain⟨a,rfl,ha,_,IG⟩:=Nv hm;obtain⟨b,rfl,hb,_,Gx⟩:=Nv hq;rw[U2,An,h1]at h2;obtain⟨m1,m2⟩:=sB h2.2 IG;have BX:m.kind≠1:=by intro e;rw[e]at m1;simp[IK]at m1
 rw[U2,An]at m2;obtain⟨q1,q2⟩:=sB m2.2 Gx;have MI:q.kind=1:=by
  unfold IK at q1;rw[decide_eq_false BX]at q1;by_cases e:q.kind=1
  . exact e
  . rw[decide_eq_false e]at q1;cases q1
 have hown:=m2.1;unfold Nd.CZ at hown;rw[An]at hown;have DG:=AUF hown.2 hb BX;refine⟨⟨MI,q2,ZT (ZT h3 hm) hq⟩,?_⟩;unfold Rz;rw[if_neg (by rw[hs];intro h;rcases h with h|h;(· cases h);(· omega)),if_neg (by omega)]
def AGu (r:AM×Int):V:=.Bk [Ai r.1,.c (.int .i64 r.2)]
theorem ARw (n:Nd)(l:List Int)(s:AM)(Au:n.Bc)(hc:n.cnt<=100000)(hl:l.length<=1000000):AC AD 37 [At n,.c (Ab l),Ai s] (AGu (nf n l s)):=by
 have hv:=mr n Au (by omega);have hr:=ARm n l Au hc hl;have hs:=Xy s;obtain⟨L,hL⟩:=AE (Ab l);unfold AGu nf;unfold fK Xm at hr;cases Ns:n.Av with
 | false =>
   rw[Ns]at hv;rw[if_pos (.inl rfl),hL];unfold At Ai at *
   refine en pD pR ?_;exact wz bE (cj hv<|trivial)
 | true =>
 rw[Ns]at hv;rw[if_neg (by rw[Ns];simp)]at hr;cases O1:s.ok with
 | false =>
   rw[O1]at hs;rw[if_pos (.inr rfl),hL];unfold At Ai at *
   refine en pD pR ?_;exact wz bE (cj hv<|cj hs<|trivial)
 | true =>
 rw[O1]at hs;rw[if_neg (by simp)];cases EP:EO n l with
 | none =>
   rw[EP]at hr;rw[hL]at hr ⊢;unfold At Ai at *
   refine en pD pR ?_;exact wz bE (cj hv<|cj hs<|cj hr<|trivial)
 | some m =>
   rw[EP]at hr;obtain⟨R,hR⟩:=AE (VP n l s);simp only at hr ⊢;rw[hR];unfold At Ai at *
   refine en pD pR ?_;refine wy bE (cj hv<|cj hs<|cj hr<|trivial) ⟨?_⟩;have BU:Ze n:=by
    unfold Nd.Av at Ns;simp only[An,decide_eq_true_eq]at Ns;exact⟨Ns.1,Ns.2.1,Au⟩
   have AMI : ∃x,EO n l=some x:=⟨m,EP⟩
   clear hr hv hs hL L;unfold Ab;refine lp (ι:={ p:Nd×List Int×AM // p.2.1.length<=1000000/\(∃x,EO p.1 p.2.1=some x)/\VP p.1 p.2.1 p.2.2=R/\Ze p.1/\p.2.2.ok=true }) (fun p=>[(1,.c (.sl (p.1.2.1.map fun n=>[.int .i64 n])))]) (fun p=>[.box 33 p.1.1.vs false,.box 35 [.c (.int .i64 p.1.2.2.level),.c (.bool p.1.2.2.GJ)] false,.box 35 [.c (.int .i64 0),.c (.bool false)] false,.box 33 m.vs false]) (fun p=>p.1.2.1.length) ⟨(n,l,s),hl,AMI,hR,BU,O1⟩ ?_ ?_;all_goals simp only[Br,Bl,B7,Ax,Az]
   . exact wd 4
   rintro ⟨⟨n,l,s⟩,hl,⟨x,hx⟩,hR,BU,O1⟩;simp only at hl hx hR BU O1 ⊢;match l,hl,hx,hR with
   | [],hl,hx,hR =>
     simp only[VP]at hR;subst hR;exact wz bE trivial
   | [i],hl,hx,hR=>simp[EO]at hx
   | i::j::r,hl,hx,hR =>
     simp only[EO]at hx;simp only[VP]at hR;have h2:(0:Int)<(r.length:Int)+1+1:=by omega
     cases hm:Ez n i with
     | none=>rw[hm]at hx;simp at hx
     | some m' =>
       rw[hm]at hx hR;simp only at hx hR;cases hq:Ez m' j with
       | none=>rw[hq]at hx;simp at hx
       | some q =>
         rw[hq]at hx hR;simp only at hx hR;obtain⟨M4,ANd⟩:=AFl BU hm hq s O1;have ACf:=AGV (k:=m'.kind) (i:=j) O1;have DG:=mj m'.kind j s;rw[ANd]at DG;obtain⟨S',GL⟩:∃S',DZ m'.kind j s=S':=⟨_,rfl⟩
         rw[GL]at DG ACf hR;unfold VO Ai Af at DG;simp only at DG;obtain⟨a,rfl,ha,Hu,_⟩:=Nv hm;obtain⟨b,rfl,hb,Kt,_⟩:=Nv hq;have Np:=gx Hu;have TE:=gx Kt;have KE:=G0 n.kids;have M1:=G0 m'.kids;have ha0 : ¬((a:Int)<0):=by omega
         have hb0 : ¬((b:Int)<0):=by omega
         have h22:(2:Int)<=(r.length:Int)+1+1:=by omega
         refine wy (cj @h2<|cj @h22<|cj @Hu<|cj @Np<|cj @Kt<|cj @TE<|cj @KE<|cj @M1<|cj @ha<|cj @hb<|cj @ha0<|cj @hb0<|bE) (cj DG<|trivial) ⟨?_⟩;rw[rU a b r];refine⟨⟨(q,r,S'),by simp only[BQ]at hl;show r.length<=1000000;omega,⟨x,hx⟩,hR,M4,ACf⟩,by simp only[BQ];show r.length<_;omega,?_⟩;exact wd 4
structure Pk (n:Nd)(s:AM)(u:List Int)(r:Rw):Prop where
 JE:EO n u=some r.nd
 NJ:VP n u s=r.NJ
 ok:s.ok=true->Ze n->Ze r.nd/\r.NJ.ok=true
 BB:r.nd.BB+u.length<=n.BB
 pos:Dm u=true
 ev:u.length % 2=0
theorem Pk.nil (n:Nd)(s:AM)(src:List Int):Pk n s [] ⟨src,n,s⟩:=⟨rfl,rfl,fun hs h=>⟨h,hs⟩,BW _,rfl,rfl⟩
theorem u9 : ∀ {l:List Nd} {j:Nat} {a:Nd},l[j]?=some a->a.BB<=Nd.deps l
 | x::l,0,a,h=>by
   simp only[List.getElem?_cons_zero,BE]at h;subst h;simp only[Nd.deps];omega
 | x::l,j+1,a,h=>by
   have:=u9 (l:=l) (by simpa using h);simp only[Nd.deps];omega
 | [],_,_,h=>by simp at h
theorem Pk.step {n a b:Nd}{s:AM}{u:List Int}{r:Rw}{j q:Nat}(h1:n.kids[j]?=some a)(h2:a.kids[q]?=some b)(h:Pk b (DZ a.kind (q:Int) s) u r):Pk n s ((j:Int)::(q:Int)::u) r:=by
 have k1:=u9 h1;have k2:=u9 h2;have k3:=TU n;have k4:=TU a;have e1:Ez n (j:Int)=some a:=by rw[uY,h1]
 have e2:Ez a (q:Int)=some b:=by rw[uY,h2]
 refine⟨?_,?_,fun hs hn=>?_,?_,?_,?_⟩
 . simp only[EO,e1,e2];exact h.JE
 . simp only[VP,e1,e2];exact h.NJ
 . exact h.ok (AGV hs) (AFl hn e1 e2 s hs).1
 . have:=h.BB;simp only[BQ];omega
 . have:=h.pos;unfold Dm at *
   simp only[List.all_cons,this,Bool.and_true,An,decide_eq_true_eq];omega
 . have:=h.ev;simp only[BQ];omega
mutual
theorem AFn : ∀(n:Nd) (s:AM) (src:List Int) (r:Rw),r∈G1 s src n->∃u,r.path=src++u/\Pk n s u r
 | ⟨k,t,c,kids⟩,s,src,r,h=>by
   simp only[G1,List.mem_cons]at h;rcases h with rfl|h
   . exact⟨[],by simp,Pk.nil _ _ _⟩
   . obtain⟨j,q,u,a,b,e,h1,h2,h3⟩:=ADD kids s src 0 r h;rw[Cu]at e;exact⟨_,e,Pk.step (n:=⟨k,t,c,kids⟩) h1 h2 h3⟩
theorem ADD : ∀(l:List Nd) (s:AM) (src:List Int) (i:Nat) (r:Rw),r∈It s src i l->∃(j q:Nat) (u:List Int) (a b:Nd),r.path=src++(((i+j:Nat):Int)::(q:Int)::u)/\l[j]?=some a/\a.kids[q]?=some b/\Pk b (DZ a.kind (q:Int) s) u r
 | [],s,src,i,r,h=>by simp[It]at h
 | n::l,s,src,i,r,h=>by
   simp only[It,I4]at h;rcases h with h|h
   . obtain⟨q,u,b,e,h2,h3⟩:=AOT n s _ r h;exact⟨0,q,u,n,b,by rw[e];simp,rfl,h2,h3⟩
   . obtain⟨j,q,u,a,b,e,h1,h2,h3⟩:=ADD l s src (i+1) r h;exact⟨j+1,q,u,a,b,by rw[e,show i+1+j=i+(j+1)by omega],by simpa using h1,h2,h3⟩
theorem AOT : ∀(n:Nd) (s:AM) (src:List Int) (r:Rw),r∈K3 s src n->∃(q:Nat) (u:List Int) (b:Nd),r.path=src++((q:Int)::u)/\n.kids[q]?=some b/\Pk b (DZ n.kind (q:Int) s) u r
 | ⟨k,t,c,kids⟩,s,src,r,h=>by
   simp only[K3]at h;obtain⟨q,u,b,e,h2,h3⟩:=AGc kids s src k 0 r h;rw[Cu]at e h3;exact⟨q,u,b,e,h2,h3⟩
theorem AGc : ∀(l:List Nd) (s:AM) (src:List Int) (k:Int) (i:Nat) (r:Rw),r∈Hz s src k i l->∃(q:Nat) (u:List Int) (b:Nd),r.path=src++(((i+q:Nat):Int)::u)/\l[q]?=some b/\Pk b (DZ k ((i+q:Nat):Int) s) u r
 | [],s,src,k,i,r,h=>by simp[Hz]at h
 | n::l,s,src,k,i,r,h=>by
   simp only[Hz,I4]at h;rcases h with h|h
   . obtain⟨u,e,h3⟩:=AFn n _ _ r h;exact⟨0,u,n,by rw[e];simp,rfl,h3⟩
   . obtain⟨q,u,b,e,h2,h3⟩:=AGc l s src k (i+1) r h;have e4:i+1+q=i+(q+1):=by omega
     rw[e4]at e h3;exact⟨q+1,u,b,e,by simpa using h2,h3⟩
end
theorem ASt {x:Ae}{s:AM}{src:List Int}{n:Nd}{b:AA}(h:Db x s src n=some b):b.at_ 0 0=b:=by
 obtain⟨k,t,c,kids⟩:=n;unfold Db at h;split at h
 . cases h;rfl
 . split at h
   . cases h
   . split at h
     . cases h
     . rename_i C hC;cases h;rw[(VD hC).1];rfl
theorem AS4 {x:Ae}{n:Nd}{s:AM}{r:Rw}{m:AA}(ho:x.okB s=true)(hv:n.Av=true)(Au:n.Bc)(hr:r∈G1 s [] n)(hm:RM x m r):nf n r.path s=(r.NJ,0)/\r.nd.Bc/\r.nd.cnt<=n.cnt/\∃k,LD x r.NJ r.path r.nd=.Bk [BD k,Af 0]/\(r.nd.kids≠[]->k=m)/\Db x r.NJ r.path r.nd=some k:=by
 obtain⟨u,e,h⟩:=AFn n s [] r hr;rw[Bh]at e;unfold Ae.okB at ho;simp only[An]at ho;have hv':=hv;unfold Nd.Av at hv';simp only[An,decide_eq_true_eq]at hv';obtain⟨⟨k1,k2,k3⟩,k4⟩:=h.ok ho.2.2 ⟨hv'.1,hv'.2.1,Au⟩;have Im:=ka n u r.nd h.JE;have hd:=h.BB;have Y0:=TU r.nd;have hev:=h.ev;refine⟨?_,k3,Im,?_⟩
 . unfold nf;rw[if_neg (by rw[hv,ho.2.2];simp),e,h.JE,h.NJ]
 . have ZH:r.nd.Av=true:=by
    unfold Nd.Av;simp only[An,decide_eq_true_eq];exact⟨k1,k2,by omega,by omega⟩
   have hsp:Ql r.path 0=true:=by
    unfold Ql;rw[e];simp only[An,decide_eq_true_eq];exact⟨h.pos,by omega,by omega⟩
   have BU : ∃k,Db x r.NJ r.path r.nd=some k/\(r.nd.kids≠[]->k=m):=by
    by_cases hk:r.nd.kids=[]
    . obtain⟨rp,rn,rs⟩:=r;obtain⟨a1,a2,a3,a4⟩:=rn;simp only at hk;subst hk;exact⟨_,by unfold Db;rw[if_pos rfl],fun h=>absurd rfl h⟩
    . obtain⟨m',h1,h2⟩:=hm.box hk;exact⟨m',h1,fun _=>by rw[h2,ASt h1]⟩
   obtain⟨k,h1,h2⟩:=BU;refine⟨k,?_,h2,h1⟩;unfold LD Ae.okB;rw[ho.1,ho.2.1,k4,ZH,hsp,h1];rfl
theorem AS3 (x:Ae)(n:Nd)(s:AM)(hf:x.f.Fit)(hl:x.d.length<=maxLen)(Nl : ∀e∈x.d,e.text.size<=maxLen)(hn:n.Bc):AC AD 10 [.agg (Gf x),At n,Ai s] (.c (.bool true)):=by
 have h0:=jv;have h1:=kX x n 40 hf hl hn (by omega) (by omega);cases hfw:RE x n 40 with
 | false =>
   rw[hfw]at h1;obtain⟨kd,t,c,kids⟩:=n;obtain⟨lv,cr⟩:=s;simp only[At,Nd.vs,Ai,Nd.row,Al,A8]at h1 ⊢;refine en iK Tryz.ntmps10 ?_;exact wz aY (cj h0<|cj h1<|trivial)
 | true =>
   rw[hfw]at h1;unfold RE at hfw;simp only[An,decide_eq_true_eq]at hfw;have h2:=uv x n s hf hfw.2.1 Nl hn (by omega);rcases wD x s n with ⟨e,he,hr⟩|⟨b,ho,hv,Am,hr⟩
   . rw[hr]at h2;have h3:=Xi AA.zero (by simp[AA.zero,AA.fit,AA.fits]);obtain⟨kd,t,c,kids⟩:=n;obtain⟨lv,cr⟩:=s;simp only[At,Nd.vs,Ai,Nd.row,Al,A8,BD,Af,AA.zero,AA.row,AA.rows,Ab]at h1 h2 h3 ⊢;refine en iK Tryz.ntmps10 ?_;exact wz (cj @he<|aY) (cj h0<|cj h1<|cj h2<|cj h3<|trivial)
   . rw[hr]at h2;have hB:=zy hv Am;have Yy:=nI Am;have hd:n.BB<=24:=by
      unfold Nd.Av at hv;simp only[An,decide_eq_true_eq]at hv;omega
     have hsm:b.small:=wc b (nJ x n s [] b (by simp;omega) Am);have HU:=AEj n [] hn (by simp;omega);rw[<-wF n s []]at HU;have eO:=wG n s [];have BU : ∀r∈G1 s [] n,AC AD 19 [At n,.c (Ab r.path)] (.Bk [At r.nd,.c (.int .i64 0)])/\r.path.length<=200:=fun r hr=>by
      obtain⟨t,e,EP⟩:=nO n s [] r hr;rw[Bh]at e;have h5:=r7 n t r.nd EP;have h4:=AFw n r.path hn (by omega) (by rw[e];omega);rw[AFq hv hr]at h4;exact⟨h4,by rw[e];omega⟩
     have kx : ∀r∈G1 s [] n,∀m,RM x m r->AC AD 37 [At n,.c (Ab r.path),Ai s] (.Bk [Ai r.NJ,.c (.int .i64 0)])/\∃k,AC AD 24 [.agg x.f.vs,.c (Dj x.d),At r.nd,.c (Ab r.path),Ai r.NJ] (.Bk [BD k,Af 0])/\(r.nd.kids≠[]->k=m)/\k.fit:=fun r hr m hm=>by
      have hpl:=(BU r hr).2;obtain⟨a1,a2,a3,k,a4,a5,a6⟩:=AS4 ho hv hn hr hm;have h4:=ARw n r.path s hn (by omega) (by omega);rw[a1]at h4;have h5:=ez x r.nd r.path r.NJ hf hfw.2.1 Nl a2 (by omega) (by unfold maxLen;omega);rw[a4]at h5;refine⟨h4,k,h5,a5,?_⟩;have hdp:=u7 _ r.nd (Nat.lt_succ_self _);have hS:=nJ x r.nd r.NJ r.path k (by omega) a6;have:=et (g:=fun _ s=>s) k (nI a6) hS;rwa [lx]at this
     obtain⟨T,hT⟩:=AE (G1 s [] n);rw[hT]at hB HU eO BU kx;obtain⟨PS,WO⟩:=AE ((T.map Rw.path).map KK);have RN:PS.length=T.length:=by rw[<-WO,Cg,Cg]
     rw[WO]at HU;obtain⟨N,hN⟩:=AE T.length;rw[hN]at RN eO;have hz:Ab []=.sl []:=rfl;rw[hz]at HU;have dm:At n=.agg n.vs:=rfl;obtain⟨lv,cr⟩:=s;rw[dm]at h1 h2 HU ⊢;simp only[dm]at BU kx;clear hT Am hr;simp only[Ai,Ay,Af]at h1 h2 kx ⊢;refine en iK Tryz.ntmps10 ?_;refine wy (cj @RN<|aY) (cj h0<|cj h1<|cj h2<|cj HU<|trivial) ⟨?_⟩;refine lp (ι:={ k:Nat // k<=N }) (fun k=>[(10,.c (.int .i64 (k.1:Int)))]) (fun _=>[O.box 30 (Gf x) false,O.box 33 n.vs false,O.box 35 [.c (.int .i64 lv),.c (.bool cr)] false,O.box 41 b.vs false]) (fun k=>N - k.1) ⟨0,Cc _⟩ ?_ ?_;all_goals simp only[Br,Bl,B7,Ax,Az]
     . refine Le.BV (by simp[A5])
     . rintro ⟨k,hkN⟩;simp only;by_cases hlt:k<N
       . obtain⟨r,hr⟩:∃r,T[k]?=some r:=⟨_,BP (by omega)⟩
         have hrm:=C6 hr;obtain⟨hro,Kt⟩:=BU r hrm;obtain⟨m,X,Y,S4,kq⟩:=hB.JE r hrm;obtain⟨lf,K,Ua,hKm,hKf⟩:=kx r hrm _ kq;have DX:=AA0 b 1 r.path (by omega) Yy hsm;rw[S4]at DX;have Ft:PS[k]?=some [Ab r.path]:=by rw[<-WO];exact AEV hr
         have M2:=gx Ft;have dy:k<PS.length:=by omega
         have hw:Ad.wrap ((k:Int)+1)=((k+1:Nat):Int):=by rw[Aq];simp
         have hat:=ASE m 0 0;have heq:=Xi K hKf;obtain⟨rp,rn,rst⟩:=r;obtain⟨rk,rt,rc,VC⟩:=rn;obtain⟨lv',cr'⟩:=rst;simp only at hro DX Ft M2 hKm lf Ua;obtain⟨qs,TD⟩:=AE (Nd.rows VC);have RY:qs.length=VC.length:=by rw[<-TD,ND,Cg]
         obtain⟨RP,se⟩:=AE (Ab rp);rw[se]at hro DX Ft M2 lf Ua;simp only[RH,Ay,At,Nd.vs,Nd.row,Al,A8,TD]at hro DX Ua hat heq;by_cases hk0:VC=[]
         . have hl0 : ¬(0:Int)<(VC.length:Int):=by rw[hk0];simp
           refine wy (cj @RN<|cj @hlt<|cj @dy<|cj @Ft<|cj @M2<|cj @RY<|cj @hl0<|cj @hw<|aY) (cj hro<|cj lf<|cj Ua<|cj DX<|trivial) ⟨?_⟩;refine⟨⟨k+1,hlt⟩,by simp only;omega,?_⟩;exact wd 4
         . have hl0:(0:Int)<(VC.length:Int):=by have:=NP.2 hk0;omega
           have ALm:=hKm hk0;subst ALm;refine wy (cj @RN<|cj @hlt<|cj @dy<|cj @Ft<|cj @M2<|cj @RY<|cj @hl0<|cj @hw<|aY) (cj hro<|cj lf<|cj Ua<|cj DX<|cj hat<|cj heq<|trivial) ⟨?_⟩;refine⟨⟨k+1,hlt⟩,by simp only;omega,?_⟩;exact wd 4
       . obtain rfl:k=N:=by omega
         exact wz (cj @RN<|cj @hlt<|aY) trivial
end Go.Proofs.YtpodcjcajanldaaGreat
