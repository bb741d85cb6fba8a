/- Part of the proof of breakpointLength.proved. Conditions: none. (Joined and shortened by a program.) -/
import Derived.Test.YtpodcjcajanldaaGreatP48
set_option linter.unusedVariables false
set_option linter.unusedSimpArgs false
set_option maxRecDepth 100000
set_option maxHeartbeats 16000000
open List renaming getD_eq_getElem?_getD→G5,mem_of_getElem?→C6,map_cons→Al,map_nil→A8,length_cons→BQ,length_nil→B6,set_cons_zero→BC,set_cons_succ→Az,cons_append→Bg,nil_append→Bh,length_append→C3,getElem?_eq_getElem→BP,getElem?_map→Co,replicate_succ→Ao,drop_succ_cons→Be,drop_zero→BO,getD_cons_succ→ABc,getD_cons_zero→AIH,length_map→Cg
open Go.Proofs.Tryz renaming prog→AD,results41→RM
open Nat renaming zero_add→Cu
open Go.IntKind renaming i64→Ad
open Go.Op renaming operands→CN
open Go.Call renaming operands→D7
namespace Go.Proofs.YtpodcjcajanldaaGreat
open Go.RowKit
def Rw (q:Int×Int×Int):List C:=[.int .i64 q.1,.int .i64 q.2.1,.int .i64 q.2.2]
def MS (cls W sp:List Int):Nat->List (Int×Int×Int)×(Int×Int×Int)
 | 0=>([],(W.getD 0 0,0,0))
 | k+1=>if permB cls (k+1)=true then((MS cls W sp k).1++[(MS cls W sp k).2],(W.getD (k+1) 0,sp.getD (k+1) 0,if cls.getD (k+1) 0=3 then 50 else 150))else((MS cls W sp k).1,((MS cls W sp k).2.1+(sp.getD (k+1) 0+W.getD (k+1) 0),(MS cls W sp k).2.2))
def eb (cls W sp:List Int)(k:Nat):List (Int×Int×Int):=(MS cls W sp k).1++[(MS cls W sp k).2]
def pcS (cls W sp:List Int):Nat->V
 | 0=>.gr 6 3 []
 | k+1=>.hot 6 3 ((MS cls W sp k).1.map Rw)
def pcO (cls W sp:List Int):Nat->O
 | 0=>.tok 82 3 0
 | k+1=>.hot 82 3 ((MS cls W sp k).1.length+1) ((Rw (MS cls W sp k).2).map V.c)
theorem ABm {n:Int}(h1 : -9223372036854775808<=n)(h2:n<=9223372036854775807):(Lit.int .i64 n).wf=true:=by
 have:=gO .i64 n;rwa [wrap_i64 h1 h2]at this
theorem ABe (k es n:Nat)(row:List C)(b:AA):b.vs.map (V.Gs k es n row)=b.vs:=rT k es n row b.row
theorem ABu (cls W sp:List Int)(hW : ∀k,-1073741824<=W.getD k 0/\W.getD k 0<=1073741824)(hs : ∀k,-1073741824<=sp.getD k 0/\sp.getD k 0<=1073741824):∀k:Nat,-((k:Int)+1)*2147483648<=(MS cls W sp k).2.1/\(MS cls W sp k).2.1<=((k:Int)+1)*2147483648
 | 0=>by have:=hW 0;simp only[MS];omega
 | k+1=>by
   have h1:=ABu cls W sp hW hs k;have h2:=hW (k+1);have h3:=hs (k+1);simp only[MS];split
   . simp only;omega
   . simp only;omega
theorem ABh (cls W sp:List Int):∀k,(MS cls W sp k).1.length<=k
 | 0=>Nat.le_refl _
 | k+1=>by
   have:=ABh cls W sp k;simp only[MS];split
   . simp;omega
   . simp only;omega
theorem ABY {l:List Int}(h : ∀v∈l,-1073741824<=v/\v<=1073741824)(k:Nat): -1073741824<=l.getD k 0/\l.getD k 0<=1073741824:=by
 rw[G5];cases hk:l[k]? with
 | none=>simp
 | some v=>exact h v (C6 hk)
def la (q:Int×Int×Int):Bool:=decide (0<=q.1) && (decide (q.1<=10000000) && (decide (-20000<=q.2.1) && decide (q.2.1<=20000)))
def ABi (L:List (Int×Int×Int)):Bool:=decide (L.length<=64) && L.all la
theorem ACk (f:AI)(D:C)(kids:List Nd)(s:AM)(b:AA)(PL:C)(cls sp:List Int)(N:Nat)(hT:AC AD 15 [.agg f.vs,.c D,At (EV kids),Ai s] (.Bk [BD b,Af 0]))(hP:AC AD 85 [.c D,.c (.sl (Nd.rows kids))] (.Bk [.c PL,Af 0]))(hC:AC AD 86 [.c D,.c (.sl (Nd.rows kids))] (.Bk [.c (Ab cls),Af 0]))(hS:AC AD 87 [.agg f.vs,.c D,.c (.sl (Nd.rows kids)),Ai s] (.Bk [.c (Ab sp),Af 0]))(eT : ∀c∈b.kids,-1073741824<=c.w/\c.w<=1073741824)(WY : ∀v∈cls,-1073741824<=v/\v<=1073741824)(hsb : ∀v∈sp,-1073741824<=v/\v<=1073741824)(h0:0<N)(h1:N<=100)(hk:b.kids.length=N)(hc:cls.length=N)(hs:sp.length=N) :
 AC AD 41 [.agg f.vs,.c D,At (EV kids),Ai s] (if ABi (eb cls (b.kids.map AA.w) sp (N - 1))=true then .Bk [.c (.sl ((eb cls (b.kids.map AA.w) sp (N - 1)).map Rw)),.c PL,Af 0]else .Bk [.c (.sl []),.c (.sl []),Af 6]):=by
 have hV:=ACo cls sp;have hI:=ACn cls sp (by omega) (by omega);obtain⟨rs,Ak⟩:=AE (AA.rows b.kids);have Am:rs.length=N:=by rw[<-Ak,LF,hk]
 obtain⟨ns,KF⟩:=AE (Nd.rows kids);obtain⟨CL,hCL⟩:=AE (Ab cls);obtain⟨SP,hSP⟩:=AE (Ab sp);obtain⟨lv,cr⟩:=s;rw[KF]at hP hC hS;rw[hCL]at hC hV hI;rw[hSP]at hS hV hI;simp only[At,Nd.vs,Ai,Nd.row,EV,Al,A8,Ay,Af,KF]at hT hP hC hS ⊢;refine en Tryz.func41 Tryz.ntmps41 ?_;refine wy (cj @Ak<|cj @Am<|RM) (cj hT<|cj hP<|cj hC<|cj hS<|cj hV<|trivial) ⟨?_⟩;obtain⟨W,hW⟩:=AE (b.kids.map AA.w);rw[hW];simp only[hc]at hI;have hWb : ∀v∈W,-1073741824<=v/\v<=1073741824:=fun v hv=>by
  rw[<-hW]at hv;obtain⟨c,h1,rfl⟩:=List.mem_map.1 hv;exact eT c h1
 refine AW.le (Le.Zm 5 0 82 3 rfl rfl) ?_;simp only[BQ,B6,Nat.reduceAdd,BC,Az,Bg,Bh];refine AW.ACl (α:=Unit) rfl rfl rfl rfl rfl rfl (caps:=[.cp [CL] 0,.cp [SP] 0]) (by simp[ev]) rfl Tryz.func141 (by kernel_rfl) (by kernel_rfl) (fun pre _=>pa cls sp pre.length) (fun pre _=>ABl cls sp pre.length) N ?_ ?_ tyz_124 (fun _ _=>rfl) ty1_124 _ hI
  (fun pre=>[O.box 27 f.vs false,O.box 33 [.c (.int .i64 1),.c (.str ⟨#[]⟩),.c (.int .i64 0),.c (.sl ns)] false,O.box 35 [.c (.int .i64 lv),.c (.bool cr)] false,O.box 41 b.vs false,O.box 39 [.c CL] false,O.box 77 [pcS cls W sp pre.length] false,pcO cls W sp pre.length]) ?_ 7 (fun _=>rfl) (by simp) (by simp) (by decide) ?_ ?_ ?_ ?_
 . intro pre y S w hN;have b1:=ABY WY pre.length;have b2:=ABY hsb pre.length;simp only[ABl,pa,Bj,Ap];exact⟨_,_,rfl,⟨rfl,ABm (by omega) (by omega)⟩,_,_,rfl,⟨rfl,ABm (by omega) (by omega)⟩,_,_,rfl,⟨rfl,ABm (by omega) (by omega)⟩,rfl⟩
 . intro pre y v hv;simp only[pa,List.mem_cons,List.not_mem_nil,or_false]at hv;rcases hv with rfl|rfl|rfl<;>rfl
 . rfl
 . rintro lp pre ⟨⟩ hN;simp only[C3,BQ,B6,Cu,BC,Az];obtain⟨k,hk'⟩:=AE pre.length;simp only[hk']at hN ⊢;clear hk' pre;obtain⟨c,hck⟩:∃c,b.kids[k]?=some c:=⟨_,BP (by omega)⟩
   have BN:rs[k]?=some c.row:=by rw[<-Ak,Ed,Co,hck];rfl
   have CH:=gx BN;have QJ:k<rs.length:=by omega
   have uK:W.getD k 0=c.w:=by rw[<-hW,G5,Co,hck];rfl
   have hcw:=eT c (C6 hck);have hsw:=hsb (sp.getD k 0) (by rw[G5,BP (by omega)];exact List.getElem_mem _);simp only[ABl,Al,A8];obtain⟨cv,hcv⟩:=AE (cls.getD k 0);obtain⟨sv,Rc⟩:=AE (sp.getD k 0);rw[Rc]at hsw;simp only[hcv,Rc];obtain⟨b0,b1,b2,b3,b4,b5,b6,b7,bk,bo,bs⟩:=c;simp only[AA.row]at BN CH uK hcw;rcases k with _|j
   . simp only[pcS,pcO,MS,uK,Rw,Al,A8];refine wu (CJ.mk 23) (cj @Ak<|cj @Am<|cj @BN<|cj @CH<|cj @QJ<|RM) trivial ⟨?_⟩;refine AW.ABk rfl ?_;refine SW.take 3 ?_;with_reducible refine Bw (by simp[Ao];first|exact rfl|exact⟨rfl,rfl⟩) ?_
     refine B9 ?_;simp only[Be,BO];refine SW.mR (.hot 6 3 []) (some (6,.hot 82 3 1 [.c (.int .i64 b3),.c (.int .i64 0),.c (.int .i64 0)])) (fun k ob e=>by cases e;simp) rfl (fun S0 w0 x a w g ht=>?_) ?_
     . have hY:=EH ht (.tmp 115);have hZ:=EH ht (.tmp 117);simp only[ev,ABc,AIH,CV]at hY hZ;obtain⟨_,_,hZ⟩:=hZ;exact APj g rfl tye_77 (by simp only[CV];exact hY) hZ (by decide) rfl (by decide) (by decide) rfl
     simp only[St.step,St.put,CG,BQ,B6,Nat.reduceAdd,Nat.reduceLT,if_true,BC,Az];refine SW.take 1 ?_;with_reducible refine Bw (by simp[Ao];first|exact rfl|exact⟨rfl,rfl⟩) ?_
     refine B9 ?_;simp only[Be,BO];refine SW.nil ⟨rfl,?_⟩;refine OM ?_;exact⟨rfl,_,wd 7 (hs:=AG0 _) (hh:=rfl) (hb:=zq 7 _)⟩
   . have hbn:=ABu cls W sp (ABY hWb) (ABY hsb) j;obtain⟨⟨R,w,u,p⟩,hq⟩:=AE (MS cls W sp j);have hper:=ppermitted_a cls (j+1) (by omega) (by omega);rw[hCL]at hper;have Gv:permB cls (j+1)=true->MS cls W sp (j+1)=(R++[(w,u,p)],(b3,sv,if cv=3 then 50 else 150)):=fun h=>by simp only[MS];rw[if_pos h,hq,uK,Rc,hcv]
     have Hp:permB cls (j+1)=false->MS cls W sp (j+1)=(R,(w+(sv+b3),u,p)):=fun h=>by simp only[MS];rw[if_neg (by rw[h];simp),hq,uK,Rc]
     have L9:R.length<=j:=by rw[<-show (MS cls W sp j).1=R by rw[hq]];exact ABh cls W sp j
     rw[hq]at hbn;simp only at hbn;simp only[pcS,pcO,hq];cases CK:permB cls (j+1)with
     | false =>
       rw[CK]at hper;rw[Hp CK];clear Gv Hp CK;obtain⟨K,hK⟩:=AE (j+1);rw[hK]at hN hck BN QJ uK hcv Rc hper ⊢;have CH:=gx BN;have hK0:0<(K:Int):=by omega
       obtain⟨M,hM⟩:=AE R.length;obtain⟨RR,dI⟩:=AE (R.map Rw);have kq:RR.length=M:=by rw[<-dI,Cg,hM]
       rw[hM,dI];simp only[Rw,Al,A8];refine wu (CJ.mk 16) (cj @Ak<|cj @Am<|cj @BN<|cj @CH<|cj @QJ<|cj @hK0<|RM) (cj hper<|trivial) ⟨?_⟩;have e1:Ad.wrap (((M+1:Nat):Int) - 1)=(M:Int):=by rw[Aq];omega
       have e1':Ad.wrap (M:Int)=(M:Int):=Aq;have e2:Ad.wrap (sv+b3)=sv+b3:=Aq;have e3:Ad.wrap (w+(sv+b3))=w+(sv+b3):=Aq;refine AW.Py GZ (.inr (by decide)) ?_;refine TW.take 2 (Fh (by simp;first|exact rfl|exact⟨rfl,rfl⟩|exact⟨rfl,rfl,rfl⟩) (Ly ?_));simp only[Be,BO];refine TW.op ⟨.c (.int .i64 ((M+1:Nat):Int)),none,none⟩ rfl (by intro k ob h;cases h) (fun S0 w0 x a w' H g hop BN=>?_) ?_
       . have hY:CV x w' (.hot 6 3 RR) (a.eval (.tmp 87)):=hop (.tmp 87) (by simp[CN,D7]);rw[<-kq];exact ACO g rfl tyl_77 hY (by unfold maxLen;omega)
       simp only[St.step,St.put,CG,BQ,B6,Nat.reduceAdd,Nat.reduceLT,if_true,BC,Az,Bh,Bg,Be,BO];refine TW.take 1 (Fh (by simp[e1,e1'];first|exact rfl|exact⟨rfl,rfl⟩|exact⟨rfl,rfl,rfl⟩) (Ly ?_));simp only[Be,BO];refine TW.op ⟨.hp 6 (M+1) (M*3),none,some 6⟩ rfl (by intro k ob h;cases h) (fun S0 w0 x a w' H g hop BN=>?_) ?_
       . have hY:CV x w' (.hot 6 3 RR) (a.eval (.tmp 86)):=hop (.tmp 86) (by simp[CN,D7]);have hZ:CV x w' (.c (.int .i64 (M:Int))) (a.eval (.tmp 89)):=hop (.tmp 89) (by simp[CN]);have hH:=BN 6 rfl;rw[<-kq]at hZ hH ⊢;exact APt g rfl hY hZ tye_77 hH
       simp only[St.step,St.put,CG,BQ,B6,Nat.reduceAdd,Nat.reduceLT,if_true,BC,Az,Bh,Bg,Be,BO];refine TW.op ⟨.hp 6 (M+1) (M*3),none,some 6⟩ rfl (by intro k ob h;cases h) (fun S0 w0 x a w' H g hop BN=>?_) ?_
       . have hY:CV x w' (.hp 6 (M+1) (M*3)) (a.eval (.tmp 90)):=hop (.tmp 90) (by simp[CN]);exact ABs g rfl tyf_82_0 (by decide) hY (BN 6 rfl)
       simp only[St.step,St.put,CG,BQ,B6,Nat.reduceAdd,Nat.reduceLT,if_true,BC,Az,Bh,Bg,Be,BO];refine TW.op ⟨.c (.int .i64 w),none,some 6⟩ rfl (by intro k ob h;cases h) (fun S0 w0 x a w' H g hop BN=>?_) ?_
       . have hY:CV x w' (.hp 6 (M+1) ((M+1 - 1)*3+0)) (a.eval (.tmp 91)):=hop (.tmp 91) (by simp[CN]);exact ACT g rfl AY4 hY (BN 6 rfl) rfl
       simp only[St.step,St.put,CG,BQ,B6,Nat.reduceAdd,Nat.reduceLT,if_true,BC,Az,Bh,Bg,Be,BO];refine TW.take 5 (Fh (by simp[e2,e3];first|exact rfl|exact⟨rfl,rfl⟩|exact⟨rfl,rfl,rfl⟩) (Ly ?_));simp only[Be,BO];refine TW.op ⟨.hp 6 (M+1) (M*3),none,some 6⟩ rfl (by intro k ob h;cases h) (fun S0 w0 x a w' H g hop BN=>?_) ?_
       . have hY:CV x w' (.hot 6 3 RR) (a.eval (.tmp 86)):=hop (.tmp 86) (by simp[CN,D7]);have hZ:CV x w' (.c (.int .i64 (M:Int))) (a.eval (.tmp 89)):=hop (.tmp 89) (by simp[CN]);have hH:=BN 6 rfl;rw[<-kq]at hZ hH ⊢;exact APt g rfl hY hZ tye_77 hH
       simp only[St.step,St.put,CG,BQ,B6,Nat.reduceAdd,Nat.reduceLT,if_true,BC,Az,Bh,Bg,Be,BO];refine TW.op ⟨.hp 6 (M+1) (M*3),none,some 6⟩ rfl (by intro k ob h;cases h) (fun S0 w0 x a w' H g hop BN=>?_) ?_
       . have hY:CV x w' (.hp 6 (M+1) (M*3)) (a.eval (.tmp 98)):=hop (.tmp 98) (by simp[CN]);exact ABs g rfl tyf_82_0 (by decide) hY (BN 6 rfl)
       simp only[St.step,St.put,CG,BQ,B6,Nat.reduceAdd,Nat.reduceLT,if_true,BC,Az,Bh,Bg,Be,BO];refine TW.op ⟨.any,some (6,.hot 82 3 (M+1) [.c (.int .i64 (w+(sv+b3))),.c (.int .i64 u),.c (.int .i64 p)]),some 6⟩ rfl (by intro k ob h;cases h;simp) (fun S0 w0 x a w' H g hop BN=>?_) ?_
       . have hY:CV x w' (.hp 6 (M+1) (M*3)) (a.eval (.tmp 99)):=hop (.tmp 99) (by simp[CN]);have hZ:=hop (.tmp 97) (by simp[CN]);exact ACV g (e:=ev _) rfl AY4 hY hZ (BN 6 rfl) rfl rfl rfl
       simp only[St.step,St.put,CG,BQ,B6,Nat.reduceAdd,Nat.reduceLT,if_true,BC,Az,Bh,Bg,Be,BO];refine TW.nil ⟨by kernel_rfl,?_⟩;refine Ac ?_;exact⟨rfl,_,wd 7 (hs:=AG0 _) (hh:=rfl) (hb:=zq 7 _)⟩
     | true =>
       rw[CK]at hper;rw[Gv CK];clear Gv Hp CK;obtain⟨K,hK⟩:=AE (j+1);rw[hK]at hN hck BN QJ uK hcv Rc hper ⊢;have CH:=gx BN;have hK0:0<(K:Int):=by omega
       have hK1 : ¬(K:Int)=0:=by omega
       obtain⟨M,hM⟩:=AE R.length;obtain⟨RR,dI⟩:=AE (R.map Rw);have kq:RR.length=M:=by rw[<-dI,Cg,hM]
       simp only[List.map_append,C3,BQ,B6,Cu,hM,dI,Rw,Al,A8];by_cases hc3:cv=3
       . rw[if_pos hc3];refine wu (CJ.mk 23) (cj @Ak<|cj @Am<|cj @BN<|cj @CH<|cj @QJ<|cj @hK0<|cj @hK1<|cj @hc3<|RM) (cj hper<|trivial) ⟨?_⟩;refine AW.le (Le.Gs 6 (ty:=82) (es:=3) (n:=M) (cs:=[.c (.int .i64 w),.c (.int .i64 u),.c (.int .i64 p)]) (row:=[.int .i64 w,.int .i64 u,.int .i64 p]) rfl rfl ?_) ?_
         . intro j ty es cur cs h;iterate 6 (rcases j with _|j;· simp at h)
           rcases j with _|j
           . rfl
           rcases j with _|j
           . simp at h
           . simp at h
         simp only[Al,A8,V.Gs,O.Gs,kq,and_self,if_true,AVn,ABe];obtain⟨R2,hR2⟩:=AE (RR++[[C.int .i64 w,.int .i64 u,.int .i64 p]]);have e4:M+1=R2.length:=by rw[<-hR2];simp[kq]
         rw[hR2,e4];refine AW.ABk rfl ?_;refine SW.take 3 ?_;with_reducible refine Bw (by simp[Ao];first|exact rfl|exact⟨rfl,rfl⟩) ?_
         refine B9 ?_;simp only[Be,BO];refine SW.mR (.hot 6 3 R2) (some (6,.hot 82 3 (R2.length+1) [.c (.int .i64 b3),.c (.int .i64 sv),.c (.int .i64 50)])) (fun k ob e=>by cases e;simp) rfl (fun S0 w0 x a w' g ht=>?_) ?_
         . have hY:=EH ht (.tmp 115);have hZ:=EH ht (.tmp 117);simp only[ev,ABc,AIH]at hY hZ;simp only[CV]at hZ;obtain⟨_,_,hZ⟩:=hZ;exact APj g rfl tye_77 hY hZ (by decide) rfl (by rw[<-e4];unfold maxLen;omega) (by rw[<-e4];omega) rfl
         simp only[St.step,St.put,CG,BQ,B6,Nat.reduceAdd,Nat.reduceLT,if_true,BC,Az];refine SW.take 1 ?_;with_reducible refine Bw (by simp[Ao];first|exact rfl|exact⟨rfl,rfl⟩) ?_
         refine B9 ?_;simp only[Be,BO];refine SW.nil ⟨rfl,?_⟩;refine OM ?_;exact⟨rfl,_,wd 7 (hs:=AG0 _) (hh:=rfl) (hb:=zq 7 _)⟩
       . rw[if_neg hc3];refine wu (CJ.mk 23) (cj @Ak<|cj @Am<|cj @BN<|cj @CH<|cj @QJ<|cj @hK0<|cj @hK1<|cj @hc3<|RM) (cj hper<|trivial) ⟨?_⟩;refine AW.le (Le.Gs 6 (ty:=82) (es:=3) (n:=M) (cs:=[.c (.int .i64 w),.c (.int .i64 u),.c (.int .i64 p)]) (row:=[.int .i64 w,.int .i64 u,.int .i64 p]) rfl rfl ?_) ?_
         . intro j ty es cur cs h;iterate 6 (rcases j with _|j;· simp at h)
           rcases j with _|j
           . rfl
           rcases j with _|j
           . simp at h
           . simp at h
         simp only[Al,A8,V.Gs,O.Gs,kq,and_self,if_true,AVn,ABe];obtain⟨R2,hR2⟩:=AE (RR++[[C.int .i64 w,.int .i64 u,.int .i64 p]]);have e4:M+1=R2.length:=by rw[<-hR2];simp[kq]
         rw[hR2,e4];refine AW.ABk rfl ?_;refine SW.take 3 ?_;with_reducible refine Bw (by simp[Ao];first|exact rfl|exact⟨rfl,rfl⟩) ?_
         refine B9 ?_;simp only[Be,BO];refine SW.mR (.hot 6 3 R2) (some (6,.hot 82 3 (R2.length+1) [.c (.int .i64 b3),.c (.int .i64 sv),.c (.int .i64 150)])) (fun k ob e=>by cases e;simp) rfl (fun S0 w0 x a w' g ht=>?_) ?_
         . have hY:=EH ht (.tmp 115);have hZ:=EH ht (.tmp 117);simp only[ev,ABc,AIH]at hY hZ;simp only[CV]at hZ;obtain⟨_,_,hZ⟩:=hZ;exact APj g rfl tye_77 hY hZ (by decide) rfl (by rw[<-e4];unfold maxLen;omega) (by rw[<-e4];omega) rfl
         simp only[St.step,St.put,CG,BQ,B6,Nat.reduceAdd,Nat.reduceLT,if_true,BC,Az];refine SW.take 1 ?_;with_reducible refine Bw (by simp[Ao];first|exact rfl|exact⟨rfl,rfl⟩) ?_
         refine B9 ?_;simp only[Be,BO];refine SW.nil ⟨rfl,?_⟩;refine OM ?_;exact⟨rfl,_,wd 7 (hs:=AG0 _) (hh:=rfl) (hb:=zq 7 _)⟩
 . rintro xs hx;simp only[hx];obtain⟨M,hM⟩:∃M,N=M+1:=⟨N - 1,by omega⟩
   subst hM;simp only[Nat.add_sub_cancel];obtain⟨⟨R,w,u,p⟩,hq⟩:=AE (MS cls W sp M);have L9:R.length<=M:=by rw[<-show (MS cls W sp M).1=R by rw[hq]];exact ABh cls W sp M
   unfold eb;simp only[pcS,pcO,hq,Rw,Al,A8];refine OM ?_;refine G7 ?_;refine AW.le (Le.Gs 6 (ty:=82) (es:=3) (n:=R.length) (cs:=[.c (.int .i64 w),.c (.int .i64 u),.c (.int .i64 p)]) (row:=[.int .i64 w,.int .i64 u,.int .i64 p]) rfl rfl ?_) ?_
   . intro j ty es cur cs h;iterate 6 (rcases j with _|j;· simp at h)
     rcases j with _|j
     . rfl
     . simp at h
   simp only[Al,A8,V.Gs,O.Gs,and_self,if_true,Cg,AVn,ABe];obtain⟨L,hL⟩:=AE (R++[(w,u,p)]);have hLR:R.map Rw++[[.int .i64 w,.int .i64 u,.int .i64 p]]=L.map Rw:=by rw[<-hL];simp[Rw]
   have Fm:R.length+1=L.length:=by rw[<-hL];simp
   rw[hLR,Fm];simp only[hL];obtain⟨n,hn⟩:=AE L.length;obtain⟨LR,hLR2⟩:=AE (L.map Rw);have hLRl:LR.length=n:=by rw[<-hLR2,Cg,hn]
   unfold ABi;rw[hn,hLR2];by_cases h64:(n:Int)<=64
   . have h64':n<=64:=by omega
     have hno : ¬64<(n:Int):=by omega
     rw[decide_eq_true h64',Bool.true_and];refine wy (cj @hLRl<|cj @hno<|RM) trivial ⟨?_⟩;refine lp (ι:={ k:Nat // k<=n/\(L.take k).all la=true }) (fun k=>[(124,.c (.int .i64 (k.1:Int)))]) (fun _=>[O.box 27 f.vs false,O.box 33 [.c (.int .i64 1),.c (.str ⟨#[]⟩),.c (.int .i64 0),.c (.sl ns)] false,O.box 35 [.c (.int .i64 lv),.c (.bool cr)] false,O.box 41 b.vs false,O.box 39 [.c CL] false,O.box 77 [.gr 6 3 LR] false,O.tok 82 3 n]) (fun k=>n - k.1) ⟨0,by simp⟩ ?_ ?_;all_goals simp only[Br,List.foldl_cons,List.foldl_nil,BC,Az]
     . refine Le.BV (by simp[A5])
     . rintro ⟨k,hk,hall⟩;simp only at hk ⊢;by_cases hlt:k<n
       . obtain⟨⟨q1,q2,q3⟩,MI⟩:∃q,L[k]?=some q:=⟨_,BP (by omega)⟩
         have BN:LR[k]?=some [.int .i64 q1,.int .i64 q2,.int .i64 q3]:=by rw[<-hLR2,Co,MI];rfl
         have CH:=gx BN;have QJ:k<LR.length:=by omega
         have hw:Ad.wrap ((k:Int)+1)=((k+1:Nat):Int):=by rw[Aq];simp
         cases Au:la (q1,q2,q3)with
         | false =>
           rw[if_neg (by
            intro ha;have:=List.all_eq_true.1 ha _ (C6 MI);rw[Au]at this;cases this)]
           have hok':q1<0\/10000000<q1\/q2 < -20000\/20000<q2:=by
            simp only[la,Bool.and_eq_false_iff,decide_eq_false_iff_not]at Au;omega
           clear Au hall;by_cases g1:q1<0
           . exact wz (cj @hlt<|cj @hLRl<|cj @BN<|cj @CH<|cj @QJ<|cj @g1<|RM) trivial
           . by_cases g2:10000000<q1
             . exact wz (cj @hlt<|cj @hLRl<|cj @BN<|cj @CH<|cj @QJ<|cj @g1<|cj @g2<|RM) trivial
             . by_cases g3:q2 < -20000
               . exact wz (cj @hlt<|cj @hLRl<|cj @BN<|cj @CH<|cj @QJ<|cj @g1<|cj @g2<|cj @g3<|RM) trivial
               . have g4:20000<q2:=by omega
                 exact wz (cj @hlt<|cj @hLRl<|cj @BN<|cj @CH<|cj @QJ<|cj @g1<|cj @g2<|cj @g3<|cj @g4<|RM) trivial
         | true =>
           have kv:(L.take (k+1)).all la=true:=by
            rw[List.take_add_one,MI,List.all_append,hall];simp[Au]
           simp only[la,Bool.and_eq_true,decide_eq_true_eq]at Au;obtain⟨o1,o2,o3,o4⟩:=Au;have g1 : ¬q1<0:=by omega
           have g2 : ¬10000000<q1:=by omega
           have g3 : ¬q2 < -20000:=by omega
           have g4 : ¬20000<q2:=by omega
           clear hall;refine wy (cj @hlt<|cj @hLRl<|cj @BN<|cj @CH<|cj @QJ<|cj @g1<|cj @g2<|cj @g3<|cj @g4<|cj @hw<|RM) trivial ⟨?_⟩;exact⟨⟨k+1,by omega,kv⟩,by simp only;omega,wd 7⟩
       . have ek:k=n:=by omega
         subst ek;rw[<-hn,List.take_length]at hall;rw[if_pos hall];clear hall;exact wz (cj @hlt<|cj @hLRl<|RM) trivial
   . rw[decide_eq_false (by omega),Bool.false_and,if_neg (by simp)];have h64':64<(n:Int):=by omega
     exact wz (cj @hLRl<|cj @h64'<|RM) trivial
 . rintro (_|⟨_,_⟩)<;>rfl
 . rintro (_|⟨_,_⟩)<;>rfl
end Go.Proofs.YtpodcjcajanldaaGreat
