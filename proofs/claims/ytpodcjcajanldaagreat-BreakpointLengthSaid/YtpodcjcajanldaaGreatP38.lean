/- Part of the proof of breakpointLength.proved. Conditions: none. (Joined and shortened by a program.) -/
import Derived.Test.YtpodcjcajanldaaGreatP36
set_option linter.unusedVariables false
set_option linter.unusedSimpArgs false
set_option maxRecDepth 100000
set_option maxHeartbeats 16000000
open Nat renaming mul_comm→YC,mul_le_mul_left→iF,zero_add→Cu,add_zero→SA,div_lt_iff_lt_mul→xx,mod_add_div→AIb,le_of_ble_eq_true→Fg,succ_mul→oZ,mul_le_mul_right→Tp
open List renaming getElem?_eq_getElem→BP,getElem_mem→LL,map_cons→Al,map_nil→A8,length_cons→BQ,length_nil→B6,replicate_succ→Ao,replicate_zero→C8,cons_append→Bg,nil_append→Bh,set_cons_zero→BC,set_cons_succ→Az,map_append→EX,length_map→Cg,getElem_map→Vb
open Go.Proofs.Tryz renaming prog→AD,func246→aL,func303→aO,func302→o8,func106→IB,func140→oo,ntmps140→pI,results140→pY
open Int renaming mul_comm→Z4
open Bool renaming eq_iff_iff→Ka
open Go.IntKind renaming i64→Ad
namespace Go.Proofs.YtpodcjcajanldaaGreat
open Go.RowKit
structure YW (q:Int)(AF rows:Nat)(cells:List AA):Prop where
 n:cells.length=rows*AF
 c1:1<=AF
 c2:AF<=16
 r1:1<=rows
 n2:cells.length<=256
 q0:0<=q
 q1:q<=1073741824
 w : ∀b∈cells,0<=b.w/\b.w<=1073741824
theorem zZ {q:Int}{AF rows:Nat}{cells:List AA}(h:YW q AF rows cells)(c:Nat):0<=JB AF cells c/\JB AF cells c<=1073741824:=by
 have key : ∀(l:List AA) (i:Nat) (w:Int),0<=w->w<=1073741824->(∀b∈l,b.w<=1073741824)->0<=If AF i w l/\If AF i w l<=1073741824:=by
  intro l;induction l with
  | nil=>intro i w h0 h1 _;exact⟨h0,h1⟩
  | cons b l ih =>
    intro i w h0 h1 hb;simp only[If];have hb0:=hb b List.mem_cons_self;refine ih _ _ ?_ ?_ fun b hb'=>hb b (List.mem_cons_of_mem _ hb')
    . split
      . unfold mx;split<;>omega
      . exact h0
    . split
      . unfold mx;split<;>omega
      . exact h1
 exact key _ _ _ (by omega) (by omega) fun b hb=>(h.w b (List.mem_of_mem_drop hb)).2
theorem za {q:Int}{AF rows:Nat}{cells:List AA}(h:YW q AF rows cells):∀c,0<=Gp q AF cells c/\Gp q AF cells c<=(c:Int)*2147483648
 | 0=>by simp[Gp]
 | c+1=>by
   have h1:=za h c;have h2:=zZ h c;have h3:=h.q0;have h4:=h.q1;simp only[Gp];push_cast
   omega
theorem AJQ {q:Int}{AF rows:Nat}{cells:List AA}(h:YW q AF rows cells){i:Nat}(hi:i<cells.length):(DO cells i).w<=JB AF cells (i % AF):=by
 have hc:0<AF:=h.c1;have hm:=Nat.mod_lt i hc;have hn:=h.n;obtain⟨l,hl,hv⟩:=eh (p:=fun j=>j<cells.length) (i % AF) AF rows fun k hk=>by
  rw[hn];have:AF*k+AF<=rows*AF:=by rw[YC rows AF,<-Nat.mul_succ];exact iF _ hk
  omega
 have hf:=rQ (fun y : { j:Nat // j<cells.length }=>y.val) (c:=i % AF) hc cells l 0 0 (fun y _=>y.2) (fun k y hy=>by rw[Cu];exact hv k y hy) (by rw[Cu,hl,hn,YC rows AF];omega);rw[Nat.mul_zero,SA]at hf;show _<=If AF 0 0 (cells.drop (i % AF));rw[<-hf];have hk:i / AF<l.length:=by rw[hl];exact(xx hc).2 (by rw[<-hn];exact hi)
 have hg:l[i / AF]?=some l[i / AF]:=BP hk;have hy:=hv _ _ hg;have he:l[i / AF].val=i:=by rw[hy,AIb]
 refine(ABE _ 0).2 _ (List.mem_map.2 ⟨_,LL hk,?_⟩);rw[he]
theorem AR3 (b:AA)(x:Int):({ b with x:=x }:AA).row=b.row.set 6 (.int .i64 x):=by cases b;rfl
theorem wL (b:AA):(b.row.map V.c)[3]?=some (.c (.int .i64 b.w)):=by cases b;rfl
def Vw (q:Int)(AF:Nat)(cells:List AA)(c:Nat):Int:=if c=0 then 0 else Gp q AF cells (c - 1)+JB AF cells (c - 1)
theorem AAX (cells:List AA)(Z:List C)(AF rows:Nat)(q:Int)(h:YW q AF rows cells):AY AD 244 [.own 0 0 cells.length 11,.c (.int .i64 (AF:Int)),.c (.int .i64 q)] 41 (EY cells Z) (EY (Fi q AF cells AF) Z) (.Bk [.c (.int .i64 (Gp q AF cells (AF - 1)+JB AF cells (AF - 1))),.c (.bool true)]):=by
 obtain⟨hn,hc1,Dk,HW,KD,lV,No,eT⟩:=id h;obtain⟨N,hN⟩:=AE cells.length;rw[hN]at hn KD ⊢;have CU : ∀c,(Fi q AF cells c).length=N:=fun c=>by unfold Fi;rw[VU,hN]
 have ky:Fi q AF cells 0=cells:=AHS _ _ _ fun i _=>by simp
 have hr2:rows<=256:=by have:rows*1<=rows*AF:=iF _ hc1;omega
 have AW3:(AF:Int)<=9223372036854775807:=by omega
 refine AY.intro Tryz.func244 rfl ?_;simp only[Tryz.ntmps244,Al,A8,BQ,B6,Nat.reduceAdd,Nat.reduceSub,Ao,C8,Bg,Bh];refine Ac ?_;have e0:EY cells Z=EY (Fi q AF cells 0) Z:=by rw[ky]
 rw[e0];refine lp (ι:={ c:Nat // c<=AF }) (fun c=>[(15,.c (.int .i64 (c.1:Int)))]) (fun c=>[O.box 41 (EY (Fi q AF cells c.1) Z) false,O.box 38 [.own 0 0 N 11] false,O.box 3 [.c (.int .i64 (Vw q AF cells c.1))] false,O.box 4 [.c (.bool false)] false,O.box 3 [.c (.int .i64 (Gp q AF cells c.1))] false]) (fun c=>AF - c.1) ⟨0,Nat.zero_le _⟩ ?_ ?_;all_goals simp only[Br,List.foldl_cons,List.foldl_nil,BC,Az]
 . refine Le.BV (by simp[A5,Vw,Gp])
 . rintro ⟨c,hc⟩;simp only at hc ⊢;by_cases hlt:c<AF
   . have hcN : ∀k,k<rows->c+AF*k<N/\(c+AF*k) % AF=c:=fun k hk=>by
      have h1:AF*k+AF<=rows*AF:=by rw[YC rows AF,<-Nat.mul_succ];exact iF _ hk
      refine⟨by omega,?_⟩;rw[Nat.add_mul_mod_self_left,Nat.mod_eq_of_lt hlt]
     obtain⟨l,hl,hv⟩:=eh (p:=fun j=>j<N/\j % AF=c) c AF rows hcN;have Iq : ∀y∈l,y.val<cells.length:=fun y _=>by rw[hN];exact y.2.1
     have ZE:=kU (fun y : { j:Nat // j<N/\j % AF=c }=>((y.val:Nat):Int)) l (c:Int) (N:Int) (AF:Int) (by omega) (by omega) (by omega) (by omega) (by omega) (fun k y hy=>by have:=hv k y hy;rw[this];push_cast;rfl) (fun y _=>by have:=y.2.1;omega) (by
      rw[hl];have e:(N:Int)=(rows:Int)*(AF:Int):=by rw[hn];push_cast;rfl
      rw[e,Z4];omega)
     have hW:=rQ (fun y : { j:Nat // j<N/\j % AF=c }=>y.val) (c:=c) hc1 cells l 0 0 Iq (fun k y hy=>by rw[Cu];exact hv k y hy) (by rw[Cu,hl,hN,hn,YC rows AF];omega);rw[Nat.mul_zero,SA]at hW;have Oi:(l.map fun i=>(DO cells i.val).w).foldl mx 0=JB AF cells c:=hW;obtain⟨A,hA⟩:=AE (EY (Fi q AF cells c) Z);have WK:N*11<=A.length:=by rw[<-hA,jr,CU];omega
     have kh : ∀n,V.BT n A=true:=fun n=>by rw[<-hA];exact Q9 n _ _
     have hAw : ∀y : { j:Nat // j<N/\j % AF=c },A[y.val*11+3]?=some (.c (.int .i64 (DO cells y.val).w)):=fun y=>by
      have hy:y.val<cells.length:=by rw[hN];exact y.2.1
      rw[<-hA,jq (b:=if (decide (y.val % AF<c))=true then Sd q AF cells y.val cells[y.val]else cells[y.val]) (by unfold Fi;rw[Zq,BP hy];rfl) (by omega),Yg hy];split
      . exact wL _
      . exact wL _
     rw[hA];refine go @hlt ?_;refine BY (cV (c:Int) (N:Int) (AF:Int)) aL ?_;refine Ac ?_;refine AW.le (Le.Zm 5 0 3 1 rfl rfl) ?_;simp only[BQ,B6,Nat.reduceAdd,BC,Az,Bg,Bh];refine AW.range (α:={ j:Nat // j<N/\j % AF=c }) rfl rfl rfl (caps:=[.cp [.int .i64 (c:Int)] 0,.cp [.int .i64 (N:Int)] 0,.cp [.int .i64 (AF:Int)] 0]) rfl rfl aO (by kernel_rfl) (by kernel_rfl) (fun y=>.int .i64 ((y.val:Nat):Int)) (fun y=>.c (.int .i64 ((y.val:Nat):Int))) ?_ (fun xs=>xs=l) l.length ZE
      (fun pre=>[O.box 41 A false,O.box 38 [.own 0 0 N 11] false,O.box 3 [.c (.int .i64 (Vw q AF cells c))] false,O.box 4 [.c (.bool false)] false,O.box 3 [.c (.int .i64 (Gp q AF cells c))] false,O.box 39 [.gr 6 1 ((pre.map fun i=>(DO cells i.val).w).map fun n=>[C.int .i64 n])] false,O.tok 3 1 ((pre.map fun i=>(DO cells i.val).w).map fun n=>[C.int .i64 n]).length]) ?_ 7 (fun _=>rfl) (by simp) ?_ ?_
     . intro x' W y;simp only[CV,Ap];exact⟨trivial,Qs (by have:=y.2.1;unfold maxLen;omega)⟩
     . simp
     . rintro lp pre y eG;have Ku:=y.2.1;have hg:=hAw y;have F6:=gx hg;have hfit:y.val*11+3<A.length:=by omega
       obtain⟨wv,lj⟩:=AE ((DO cells y.val).w);rw[lj]at hg F6;simp only[EX,Al,A8,lj];obtain⟨R,hR⟩:=AE (((pre.map fun i=>(DO cells i.val).w).map fun n=>[C.int .i64 n]));have L9:R.length<rows:=by rw[<-hR];simp;omega
       rw[hR];have F8:R.length+1<=maxLen:=by unfold maxLen;omega
       have Fp:(R.length+1)*8<=140737488355328:=by omega
       obtain⟨yv,ML⟩:=AE y.val;rw[ML]at Ku hg F6 hfit ⊢;refine go (cj @Ku<|cj @hg<|cj @F6<|cj @hfit<|cj @F8<|@Fp) ?_;refine⟨rfl,_,Le.Y4 7 (Fg rfl) ?_ ?_⟩
       . simp
       . simp[O.BA,V.BT,V.BA,kh]
     . rintro xs MK;rw[MK];clear MK xs;have hgr:=sI 0 (l.map fun i=>(DO cells i.val).w) (by simp;omega);rw[Oi]at hgr;unfold Ab at hgr;obtain⟨R,hR⟩:=AE (((l.map fun i=>(DO cells i.val).w).map fun n=>[C.int .i64 n]));rw[hR]at hgr ⊢;refine Ac ?_;refine BY (hgr) o8 ?_;refine Ac ?_;refine BY (cV (c:Int) (N:Int) (AF:Int)) aL ?_;refine Ac ?_;have hWb:=zZ h c;have hXb:=za h c;have sY:A=EY (Gj (fun j=>decide (j % AF<c) || ([]:List { j:Nat // j<N/\j % AF=c }).any fun z=>decide (j=z.val)) (Sd q AF cells) cells) Z:=by
        rw[<-hA];unfold Fi;simp
       have tC:Gj (fun j=>decide (j % AF<c) || l.any fun z=>decide (j=z.val)) (Sd q AF cells) cells=Fi q AF cells (c+1):=by
        unfold Fi;refine AHR fun i hi=>?_
        rw[hN]at hi;have key:(l.any fun z=>decide (i=z.val))=decide (i % AF=c):=by
         rw[Ka,List.any_eq_true,decide_eq_true_eq];constructor
         . rintro ⟨z,_,hz⟩;rw[decide_eq_true_eq]at hz;rw[hz];exact z.2.2
         . intro hm;have hk:i / AF<l.length:=by rw[hl];exact(xx hc1).2 (by rw[<-hn];exact hi)
           refine⟨l[i / AF],LL hk,?_⟩;rw[decide_eq_true_eq,hv _ _ (BP hk)];have:=AIb i AF;omega
        rw[key,Ka];simp only[Bool.or_eq_true,decide_eq_true_eq];omega
       obtain⟨X,hX⟩:=AE (Gp q AF cells c);obtain⟨W,Yw⟩:=AE (JB AF cells c);have hX':Gp q AF cells (c+1)=X+W+q:=by simp only[Gp,hX,Yw]
       have sS:Vw q AF cells (c+1)=X+W:=by simp[Vw,hX,Yw]
       obtain⟨E,hE⟩:=AE (Vw q AF cells c);rw[hX]at hXb;rw[Yw]at hWb;rw[hX,Yw,hE];refine AW.range (α:={ j:Nat // j<N/\j % AF=c }) rfl rfl rfl (caps:=[.cp [.int .i64 (c:Int)] 0,.cp [.int .i64 (N:Int)] 0,.cp [.int .i64 (AF:Int)] 0]) rfl rfl aO (by kernel_rfl) (by kernel_rfl) (fun y=>.int .i64 ((y.val:Nat):Int)) (fun y=>.c (.int .i64 ((y.val:Nat):Int))) ?_ (fun xs=>xs=l) l.length ZE
        (fun pre=>[O.box 41 (EY (Gj (fun j=>decide (j % AF<c) || pre.any fun z=>decide (j=z.val)) (Sd q AF cells) cells) Z) false,O.box 38 [.own 0 0 N 11] false,O.box 3 [.c (.int .i64 E)] false,O.box 4 [.c (.bool false)] false,O.box 3 [.c (.int .i64 X)] false,O.box 39 [.gr 6 1 R] false,O.tok 3 1 R.length,O.box 3 [.c (.int .i64 W)] false]) ?_ 8 (fun _=>rfl) (by simp) ?_ ?_
       . intro x' W y;simp only[CV,Ap];exact⟨trivial,Qs (by have:=y.2.1;unfold maxLen;omega)⟩
       . rw[sY]
       . rintro lp pre y eG;have Ku:=y.2.1;have Uj:y.val<cells.length:=by rw[hN];exact Ku
         have hput:=AHT (fun y : { j:Nat // j<N/\j % AF=c }=>y.val) (fun j=>decide (j % AF<c)) (Sd q AF cells) cells pre y Uj;obtain⟨Q,hQ⟩:=AE (Gj (fun j=>decide (j % AF<c) || pre.any fun z=>decide (j=z.val)) (Sd q AF cells) cells);have sb:Q.length=N:=by rw[<-hQ,VU,hN]
         have sa : ∃B,Q[y.val]?=some B/\B.w=(DO cells y.val).w/\Sd q AF cells y.val cells[y.val]={ B with x:=X+half (W - (DO cells y.val).w) }:=by
          rw[<-hQ,Zq,BP Uj,Option.map_some,Yg Uj];refine⟨_,rfl,?_,?_⟩
          . split<;>rfl
          . unfold Sd;rw[y.2.2,hX,Yw];split<;>rfl
         obtain⟨B,Ni,WL,ki⟩:=sa;have hbw:=eT _ (zj Uj);have hge:=AJQ h Uj;rw[y.2.2,Yw]at hge;rw[hQ]at hput ⊢;rw[<-hput];clear hput;rw[ki];have hg:=jq (Z:=Z) Ni (q:=3) (by omega);rw[wL,WL]at hg;have MJ:=zR (Z:=Z) (v:=.int .i64 (X+half (W - (DO cells y.val).w))) Ni (by omega:6<11) (AR3 B _);obtain⟨wv,lj⟩:=AE ((DO cells y.val).w);rw[lj]at hg MJ hbw hge ki ⊢;obtain⟨Q',dH⟩:∃Q',EY (Q.set y.val { B with x:=X+half (W - wv) }) Z=Q':=⟨_,rfl⟩
         rw[dH]at MJ ⊢;have sZ : ∀n,V.BT n Q'=true:=fun n=>by rw[<-dH];exact Q9 n _ _
         obtain⟨A',BR⟩:∃A',EY Q Z=A':=⟨_,rfl⟩
         have ALT:N*11<=A'.length:=by rw[<-BR,jr,sb];omega
         rw[BR]at hg MJ ⊢;have F6:=gx hg;have hfit:y.val*11+3<A'.length:=by omega
         have Wc:y.val*11+6+1<=A'.length:=by omega
         have hhb:=JI (W - wv);have hw1:Ad.wrap (W - wv)=W - wv:=Aq;have hw2:Ad.wrap (X+half (W - wv))=X+half (W - wv):=Aq;have Gy:=NB (W - wv);rw[show Aw (W - wv)=true by unfold Aw;simp;omega]at Gy;have lN:=KM (W - wv);obtain⟨hf,JM⟩:=AE (half (W - wv));rw[JM]at hw2 lN MJ;obtain⟨yv,ML⟩:=AE y.val;rw[ML]at Ku hg F6 hfit Wc MJ ⊢;refine go (cj @Ku<|cj @hg<|cj @F6<|cj @hfit<|@hw1) ?_;refine BY (Gy) Tryz.func170 ?_;refine go (cj @Ku<|cj @hg<|cj @F6<|cj @hfit<|@hw1) ?_;refine gc (cj @Ku<|cj @hg<|cj @F6<|cj @hfit<|cj @Wc<|cj @hw1<|cj @hw2<|@MJ) (lN) Tryz.func228 ?_;refine Ac ?_;refine⟨rfl,_,Le.Y4 8 (Fg rfl) ?_ ?_⟩
         . simp
         . simp[O.BA,V.BT,V.BA,sZ]
       . rintro xs MK;rw[MK,tC];have hw1:Ad.wrap (X+W)=X+W:=Aq;have hw2:Ad.wrap (X+W+q)=X+W+q:=Aq;have hw3:Ad.wrap ((c:Int)+1)=((c+1:Nat):Int):=by rw[Aq];push_cast;rfl
         refine go (cj @hw1<|cj @hw2<|@hw3) ?_;refine⟨⟨c+1,by omega⟩,by simp only;omega,?_⟩;simp only[hX',sS];exact wd 5
   . obtain rfl:c=AF:=by omega
     have sS:Vw q c cells c=Gp q c cells (c - 1)+JB c cells (c - 1):=if_neg (by omega);rw[sS];have hpb:=Ye 0 (Fi q c cells c) Z;refine go @hlt ?_;all_goals simp[FL,AV,AZ,Aa,V.AP,V.AO,AU,Tryz.results244, *]
theorem ATP (b:AA):(b.row.map V.c)[4]?=some (.c (.int .i64 b.h)):=by cases b;rfl
theorem ATQ (b:AA):(b.row.map V.c)[5]?=some (.c (.int .i64 b.d)):=by cases b;rfl
def mE (q:Int)(AF:Nat)(cells:List AA)(r:Nat):List C:=[.int .i64 (JZ q (Fj AF cells r)),.int .i64 (Kh q (Fj AF cells r))]
def Up (q:Int)(AF:Nat)(cells:List AA)(rows:Nat):List (List C):=(List.range rows).map (mE q AF cells)
theorem AO2 (cells cells':List AA)(Z:List C)(AF rows:Nat)(q:Int)(h:YW q AF rows cells)(hl':cells'.length=cells.length)(hc' : ∀i,(DO cells' i).h=(DO cells i).h/\(DO cells' i).d=(DO cells i).d):AY AD 245 [.own 0 0 cells.length 11,.c (.int .i64 (AF:Int)),.c (.int .i64 q)] 41 (EY cells' Z) (EY cells' Z) (.c (.sl (Up q AF cells rows))):=by
 obtain⟨hn,hc1,Dk,HW,KD,lV,No,eT⟩:=id h;obtain⟨N,hN⟩:=AE cells.length;rw[hN]at hn KD hl' ⊢;have hr2:rows<=256:=by have:rows*1<=rows*AF:=iF _ hc1;omega
 obtain⟨A,hA⟩:=AE (EY cells' Z);have WK:N*11<=A.length:=by rw[<-hA,jr,hl'];omega
 have kh : ∀n,V.BT n A=true:=fun n=>by rw[<-hA];exact Q9 n _ _
 have hAp:V.DJ 0 A=some A:=by rw[<-hA];exact Ye 0 _ _
 have hAh : ∀i,i<N->A[i*11+4]?=some (.c (.int .i64 (DO cells i).h)):=fun i hi=>by
  rw[<-hA,jq (qo (by omega)) (by omega),<-(hc' i).1];exact ATP _
 have hAd : ∀i,i<N->A[i*11+5]?=some (.c (.int .i64 (DO cells i).d)):=fun i hi=>by
  rw[<-hA,jq (qo (by omega)) (by omega),<-(hc' i).2];exact ATQ _
 rw[hA];obtain⟨l,hl,hv⟩:=eh (p:=fun j=>j<N/\∃r,r<rows/\j=r*AF) 0 AF rows fun k hk=>by
  have h1:k*AF+AF<=rows*AF:=by rw[<-oZ];exact Tp _ hk
  refine⟨by rw[YC];omega,k,hk,by rw[Cu,YC]⟩
 have ZE:=kU (fun y : { j:Nat // j<N/\∃r,r<rows/\j=r*AF }=>((y.val:Nat):Int)) l 0 (N:Int) (AF:Int) (by omega) (by omega) (by omega) (by omega) (by omega) (fun k y hy=>by have:=hv k y hy;rw[this];push_cast;rfl) (fun y _=>by have:=y.2.1;omega) (by
  rw[hl];have e:(N:Int)=(rows:Int)*(AF:Int):=by rw[hn];push_cast;rfl
  rw[e,Z4];omega)
 obtain⟨lr,Ua⟩:∃lr : { j:Nat // j<N/\∃r,r<rows/\j=r*AF }->List C,lr=fun y=>mE q AF cells (y.val / AF):=⟨_,rfl⟩
 have eJ:l.map lr=Up q AF cells rows:=by
  rw[Ua];unfold Up;apply List.ext_getElem
  . simp[hl]
  . intro i h1 h2;rw[Cg]at h1;rw[Vb,Vb,List.getElem_range];have hg:l[i]?=some l[i]:=BP h1;rw[hv _ _ hg,Cu,Nat.mul_div_cancel_left _ hc1]
 refine AY.intro Tryz.func245 rfl ?_;simp only[Tryz.ntmps245,Al,A8,BQ,B6,Nat.reduceAdd,Nat.reduceSub,Ao,C8,Bg,Bh];refine Ac ?_;refine BY (cV 0 (N:Int) (AF:Int)) aL ?_;refine Ac ?_;refine AW.le (Le.Zm 4 0 249 2 rfl rfl) ?_;simp only[BQ,B6,Nat.reduceAdd,BC,Az,Bg,Bh];refine AW.ASD (α:={ j:Nat // j<N/\∃r,r<rows/\j=r*AF }) rfl rfl rfl (caps:=[.cp [.int .i64 0] 0,.cp [.int .i64 (N:Int)] 0,.cp [.int .i64 (AF:Int)] 0]) rfl rfl aO (by kernel_rfl) (by kernel_rfl) (fun y=>.int .i64 ((y.val:Nat):Int)) (fun y=>.c (.int .i64 ((y.val:Nat):Int))) ?_ (fun xs=>xs=l) l.length ZE
  (fun pre=>[O.box 41 A false,O.box 38 [.own 0 0 N 11] false,O.box 3 [.c (.int .i64 (AF:Int))] false,O.box 3 [.c (.int .i64 q)] false,O.box 246 [.gr 5 2 (pre.map lr)] false,O.tok 249 2 (pre.map lr).length]) ?_ 6 (fun _=>rfl) (by simp) ?_ ?_
 . intro x' W y;simp only[CV,Ap];exact⟨trivial,Qs (by have:=y.2.1;unfold maxLen;omega)⟩
 . simp
 . rintro lp pre y eG;obtain⟨r,hr,hyr⟩:=y.2.2;have hrc:r*AF+AF<=rows*AF:=by rw[<-oZ];exact Tp _ hr
   have AM6:lr y=mE q AF cells r:=by rw[Ua];simp only;rw[hyr,Nat.mul_div_cancel _ hc1]
   simp only[EX,Al,A8,AM6];obtain⟨R,hR⟩:=AE (pre.map lr);have L9:R.length<rows:=by rw[<-hR,Cg];omega
   rw[hR,hyr];obtain⟨I,hI⟩:=AE (r*AF);rw[hI]at hrc ⊢;have hw:Ad.wrap ((I:Int)+(AF:Int))=(I:Int)+(AF:Int):=Aq;obtain⟨l2,Fp,Rf⟩:=eh (p:=fun j=>j<N) I 1 AF fun k hk=>by omega
   have ANe:=kU (fun y : { j:Nat // j<N }=>((y.val:Nat):Int)) l2 (I:Int) ((I:Int)+(AF:Int)) 1 (by omega) (by omega) (by omega) (by omega) (by omega) (fun k y hy=>by have:=Rf k y hy;rw[this];push_cast;rfl) (fun y hy=>by
    obtain⟨k,hk⟩:=List.getElem?_of_mem hy;have h1:=Rf k y hk;have h2:=(List.getElem?_eq_some_iff.1 hk).1;omega) (by rw[Fp];omega)
   obtain⟨fH,fD⟩:=AJL (fun y : { j:Nat // j<N }=>y.val) (r:=r) q cells l2 (fun y _=>by rw[hN];exact y.2) Fp (fun k y hy=>by rw[Rf k y hy,hI,Nat.one_mul]);refine GV.block (GV.seq (GV.of ?_));refine Ac ?_;refine GV.seq (GV.seq (GV.of ?_));refine go @hw ?_;refine BY (cV (I:Int) ((I:Int)+(AF:Int)) 1) aL ?_;refine Ac ?_;refine GV.le (Le.Zm 6 0 3 1 rfl rfl) ?_;simp only[BQ,B6,Nat.reduceAdd,BC,Az,Bg,Bh];refine GV.le (Le.Zm 7 0 3 1 rfl rfl) ?_;simp only[BQ,B6,Nat.reduceAdd,BC,Az,Bg,Bh];refine GV.block (GV.range (α:={ j:Nat // j<N }) rfl rfl rfl (caps:=[.cp [.int .i64 (I:Int)] 0,.cp [.int .i64 ((I:Int)+(AF:Int))] 0,.cp [.int .i64 1] 0]) rfl rfl aO (by kernel_rfl) (by kernel_rfl) (fun y=>.int .i64 ((y.val:Nat):Int)) (fun y=>.c (.int .i64 ((y.val:Nat):Int))) ?_ (fun xs=>xs=l2) l2.length ANe
    (fun pre=>[O.box 41 A false,O.box 38 [.own 0 0 N 11] false,O.box 3 [.c (.int .i64 (AF:Int))] false,O.box 3 [.c (.int .i64 q)] false,O.box 246 [.gr 5 2 R] false,O.tok 249 2 R.length,O.box 39 [.gr 8 1 ((pre.map fun i=>(DO cells i.val).h).map fun n=>[C.int .i64 n])] false,O.box 39 [.gr 9 1 ((pre.map fun i=>(DO cells i.val).d).map fun n=>[C.int .i64 n])] false,O.tok 3 1 ((pre.map fun i=>(DO cells i.val).h).map fun n=>[C.int .i64 n]).length,O.tok 3 1 ((pre.map fun i=>(DO cells i.val).d).map fun n=>[C.int .i64 n]).length]) ?_ 10 (fun _=>rfl) (by simp) ?_ ?_)
   . intro x' W y;simp only[CV,Ap];exact⟨trivial,Qs (by have:=y.2;unfold maxLen;omega)⟩
   . simp
   . rintro lp2 AEz y2 AXF;have Ku:=y2.2;have hg:=hAh y2.val Ku;have F6:=gx hg;have hd:=hAd y2.val Ku;have Yz:=gx hd;have hfit:y2.val*11+4<A.length:=by omega
     have ACD:y2.val*11+5<A.length:=by omega
     obtain⟨hh,We⟩:=AE ((DO cells y2.val).h);obtain⟨dd,HN⟩:=AE ((DO cells y2.val).d);rw[We]at hg F6;rw[HN]at hd Yz;simp only[EX,Al,A8,We,HN];obtain⟨H1,hH1⟩:=AE (((AEz.map fun i=>(DO cells i.val).h).map fun n=>[C.int .i64 n]));obtain⟨D1,kj⟩:=AE (((AEz.map fun i=>(DO cells i.val).d).map fun n=>[C.int .i64 n]));have hHl:H1.length<AF:=by rw[<-hH1];simp;omega
     have Dg:D1.length<AF:=by rw[<-kj];simp;omega
     rw[hH1,kj];have ER:H1.length+1<=maxLen:=by unfold maxLen;omega
     have Ew:(H1.length+1)*8<=140737488355328:=by omega
     have FR:D1.length+1<=maxLen:=by unfold maxLen;omega
     have hm4:(D1.length+1)*8<=140737488355328:=by omega
     obtain⟨yv,ML⟩:=AE y2.val;rw[ML]at Ku hg F6 hd Yz hfit ACD ⊢;refine go (cj @Ku<|cj @hg<|cj @F6<|cj @hd<|cj @Yz<|cj @hfit<|cj @ACD<|cj @ER<|cj @Ew<|cj @FR<|@hm4) ?_;refine⟨rfl,_,Le.Y4 10 (Fg rfl) ?_ ?_⟩
     . simp
     . simp[O.BA,V.BT,V.BA,kh]
   . rintro xs MK;rw[MK];clear MK xs;have g1:=sI (scale q 70) (l2.map fun i=>(DO cells i.val).h) (by simp;omega);have g2:=sI (scale q 30) (l2.map fun i=>(DO cells i.val).d) (by simp;omega);rw[fH]at g1;rw[fD]at g2;unfold Ab at g1 g2;obtain⟨H1,hH1⟩:=AE (((l2.map fun i=>(DO cells i.val).h).map fun n=>[C.int .i64 n]));obtain⟨D1,kj⟩:=AE (((l2.map fun i=>(DO cells i.val).d).map fun n=>[C.int .i64 n]));rw[hH1]at g1 ⊢;rw[kj]at g2 ⊢;have ER:R.length+1<=maxLen:=by unfold maxLen;omega
     have Ew:(R.length+1)*16<=140737488355328:=by omega
     refine OM (G7 (GV.of ?_));refine Ac ?_;refine BY (Dn q 70) IB ?_;refine BY (g1) o8 ?_;refine BY (Dn q 30) IB ?_;refine gc (cj @ER<|@Ew) (g2) o8 ?_;refine Ac ?_;refine⟨rfl,_,Le.Y4 6 (Fg rfl) ?_ ?_⟩
     . simp[mE]
     . simp[O.BA,V.BT,V.BA,kh]
 . rintro xs MK;rw[MK,eJ];clear MK xs;refine Ac ?_;all_goals simp[FL,AV,AZ,Aa,V.AP,V.AO,AU,Tryz.results245, *]
theorem ARu (q:Int)(l r:Nat)(s:AM)(hl:l<8)(hr:r<8):AC AD 140 [.c (.int .i64 q),.c (.int .i64 (l:Int)),.c (.int .i64 (r:Int)),Ai s] (.c (.int .i64 (Md q l r s.level))):=by
 have hb:=wg l r hl hr;have Dv:=AUQ l r hl hr;have Wr:=ARx;unfold wh at Wr;obtain⟨T,hT⟩:=AE ((VL.flatten.map fun n=>V.c (.int .i64 n)));have dN:T.length=64:=by rw[<-hT];rfl
 rw[hT]at Dv Wr;obtain⟨Z,hZ⟩:=AE ((T.drop (l*8)).take 8);have KA:Z.length=8:=by rw[<-hZ];simp[dN];omega
 rw[hZ]at Dv;have Ws:=gx Dv;have h1:(l:Int)<8:=by omega
 have h2:(r:Int)<8:=by omega
 have h3:l*8+8<=64:=by omega
 unfold Md Lk;obtain⟨E,hE⟩:=AE (PM l r);rw[hE]at hb Dv Ws ⊢;unfold Ai;rcases Int.lt_trichotomy E 0 with h|h|h
 . have hm:=AEw q (-E+2) (by omega);have h0 : ¬ -E=0:=by omega
   rw[if_pos h];by_cases hv:1<s.level
   . rw[if_pos hv,if_pos rfl];refine en oo pI ?_;exact wz (cj @h1<|cj @h2<|cj @h3<|cj @dN<|cj @KA<|cj @Dv<|cj @Ws<|cj @hZ<|cj @h<|cj @hv<|pY) (cj Wr<|cj hm<|trivial)
   . rw[if_neg hv,if_neg h0];refine en oo pI ?_;exact wz (cj @h1<|cj @h2<|cj @h3<|cj @dN<|cj @KA<|cj @Dv<|cj @Ws<|cj @hZ<|cj @h<|cj @hv<|cj @h0<|pY) (cj Wr<|cj hm<|trivial)
 . subst h;simp only[Int.lt_irrefl,if_false,if_true];refine en oo pI ?_;exact wz (cj @h1<|cj @h2<|cj @h3<|cj @dN<|cj @KA<|cj @Dv<|cj @Ws<|cj @hZ<|pY) (cj Wr<|trivial)
 . have hm:=AEw q (E+2) (by omega);have h0 : ¬E=0:=by omega
   have h4 : ¬E<0:=by omega
   rw[if_neg h4,if_neg h0];refine en oo pI ?_;exact wz (cj @h1<|cj @h2<|cj @h3<|cj @dN<|cj @KA<|cj @Dv<|cj @Ws<|cj @hZ<|cj @h4<|cj @h0<|pY) (cj Wr<|cj hm<|trivial)
end Go.Proofs.YtpodcjcajanldaaGreat
