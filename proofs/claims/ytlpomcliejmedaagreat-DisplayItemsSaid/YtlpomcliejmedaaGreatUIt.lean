/- For every input the law displayItems returns true, and its input reads behind the call as it read before. Conditions: none. -/
import Derived.Test.YtlpomcliejmedaaGreatU14
import Derived.Test.YtlpomcliejmedaaGreatRows
import Derived.WalkKit
import Derived.ProofKit
import Derived.OpenShut
set_option linter.unusedVariables false
set_option linter.unusedSimpArgs false
set_option maxRecDepth 100000
set_option maxHeartbeats 16000000
open Option.some renaming injEq→BL
open Prod.mk renaming injEq→Cr
open Go.Proofs.Tryz renaming prog→AF,results5→gv,f5→Ju,checked→RF
open List renaming foldl_cons→Bw,foldl_nil→CO,set_cons_zero→Ag,set_cons_succ→Ai,map_cons→Ap,map_nil→BB,replicate_succ→BY,getElem?_eq_getElem→BE,getElem?_map→CM,getD_eq_getElem?_getD→Bv
open Go.IntKind renaming i64→AZ
open Nat renaming le_of_ble_eq_true→F2
open SizeOf renaming sizeOf→UF
open Go.Proofs.YtlpomcliejmedaaGreat.Rows renaming displayItemsRow→IB,displayItemsSpec→Pw
open Go.ChangeSpec renaming witness6→uD
namespace Go.Proofs.YtlpomcliejmedaaGreat
open Go.RowKit Proofs.Tryz
theorem oo (q:Int){K A6:List AA}(W:Int)(B:K≠[])(E:A6.length<=1):(Gq q K A6 W).length=K.length+A6.length:=by
 rcases iR q W B E with ⟨rfl,h⟩|⟨F,y,rfl,h,_⟩
 rw[h,Za];rfl;rw[h,List.length_append,Za];rfl
theorem iQ (q:Int){K A6:List AA}(W:Int)(E:K≠[])(F:A6.length<=1){k:Nat}(B:k<K.length):(Gq q K A6 W)[k]?=some ((A4 K k).AS (A4 K k).x (Mr q K k)):=by
 rcases iR q W E F with ⟨rfl,h⟩|⟨G,y,rfl,h,_⟩
 rw[h,ZY B];rw[h,List.getElem?_append_left (by rw[Za];exact B),ZY B]
section
section
variable {B:AA} {sp S:List Int} {N:Nat} {W ind:Int}
theorem AIK {k m:Nat}(h:k<m):A4 (I3 B.AE sp S N W ind m) k=Jj B.AE sp S N W ind k:=by
 unfold A4 I3;rw[List.getD_eq_getElem?_getD,List.getElem?_map,List.getElem?_range h];rfl
end
end
section
section
def Zu (P:Program)(ds:List (Option Nat)):Nat->List Oper->St->Option (List Oper×St)
 | 0,l,s=>some (l,s)
 | _+1,[],s=>some ([],s)
 | n+1,o::r,s=>match QE ds s.t o.guard with
   | some true=>match Ka o.op with
     | false=>match Qw P o s with
       | some s'=>Zu P ds n r s'
       | none=>none
     | true=>some (o::r,s)
   | some false=>Zu P ds n r (s.put o.dst (.A7 []))
   | none=>none
variable {P:Program} {K:St->Prop} {ops:List Oper}
theorem wI {J:List (Option Nat)}(Q:ops.map (·.dst)=J):∀(n:Nat) {l F:List Oper} {s s':St},Zu P J n l s=some (F,s')->Eg P ops K F s'->Eg P ops K l s
 | 0,l,F,s,s',h,E=>by simp only[Zu,BL,Cr]at h;obtain⟨rfl,rfl⟩:=h;exact E
 | n+1,[],F,s,s',h,E=>by simp only[Zu,BL,Cr]at h;obtain⟨rfl,rfl⟩:=h;exact E
 | n+1,o::r,F,s,s',h,E=>by
   subst Q;unfold Zu at h;rw[jG]at h;split at h;rename_i I;split at h;rename_i M;split at h;rename_i R G;have ih:=wI rfl n h E;unfold Qw at G;split at G;rename_i v t H;cases G;unfold Eg;refine IF I ?_;unfold RP;rw[YC M];simp only;rw[H];exact ih;cases G;cases h;simp only[BL,Cr]at h;obtain⟨rfl,rfl⟩:=h;exact E;rename_i I;unfold Eg;exact X8 I (wI rfl n h E);cases h
end
theorem AA.pq : ∀ {l:List AA},AA.fits l->∀b∈l,b.fit
 | [],_,b,h=>by cases h
 | x::l,E,b,h=>by
   simp only[AA.fits]at E;rcases List.mem_cons.1 h with rfl|h
   exact E.1;exact AA.pq E.2 b h
theorem AX9 (l:List Int)(F:l.length<=maxLen):AC AF 46 [.c (AV l),.c (AV l)] (.c (.bool true)):=by
 unfold maxLen at F;unfold AV;refine en func46 ntmps46 ?_;refine Ah ?_;refine lp (ι:={ k:Nat // k<=l.length }) (λk=>[(4,.c (.bool false)),(5,.c (.int .i64 (k.1:Int)))]) (λ_=>[]) (λk=>l.length - k.1) ⟨0,by simp⟩ ?_ ?_;all_goals simp only[CG,Bw,CO,Ag,Ai]
 exact DH;rintro ⟨k,I⟩;by_cases E:k<l.length;obtain⟨z,H⟩:=AI (l[k]);have G:AZ.wrap ((k:Int)+1)=((k+1:Nat):Int):=by rw[Ac];simp
 refine go (cj2 @E @H @G) ?_;refine⟨⟨k+1,by omega⟩,by simp only;omega,?_⟩;exact DH;refine go @E ?_;exact At results46
theorem AXj (I:Int)(J:ByteArray)(M Q R U q z:Int)(AE:List AA)(o:Int)(src:List Int)(f1:AE.length<=maxLen)(f2:src.length<=maxLen)(ih : ∀c∈AE,AC AF 14 [Ao c,Ao c] (.c (.bool true))):AC AF 14 [Ao ⟨I,J,M,Q,R,U,q,z,AE,o,src⟩,Ao ⟨I,J,M,Q,R,U,q,z,AE,o,src⟩] (.c (.bool true)):=by
 have Tc:=AX9 src f2;unfold maxLen at f1;simp only[Ao,AA.row,Ap,BB];rw[Dt];obtain⟨G,E⟩:∃G,G=([.c (.int .i64 I),.c (.str J),.c (.int .i64 M),.c (.int .i64 Q),.c (.int .i64 R),.c (.int .i64 U),.c (.int .i64 q),.c (.int .i64 z),.c (.sl (AE.map AA.row)),.c (.int .i64 o),.c (AV src)]:List V):=⟨_,rfl⟩
 refine en func14 ntmps14 ?_;with_reducible refine AW.seq ?_
 with_reducible refine AW.region ?_
 with_reducible refine If (by simp[BY];first|exact rfl|exact⟨rfl,rfl⟩) ?_
 with_reducible refine Kz ?_
 with_reducible refine G3 ?_
 with_reducible refine AW.seq ?_
 with_reducible refine AW.seq ?_
 with_reducible refine AW.region ?_
 iterate 7 (with_reducible refine wI (by simp only[List.append_eq,List.cons_append,List.nil_append,Ap,BB];exact rfl) 10 (by as_aux_lemma=>simp[Zu,QE,BY];first|exact rfl|exact⟨rfl,rfl⟩) ?_)
 refine BZ (Tc) func46 ?_;refine Ah ?_;refine lp (ι:={ k:Nat // k<=AE.length }) (λk=>[(5,.c (.int .i64 (k.1:Int))),(4,.c (.bool false))]) (λ_=>[.box 41 G false,.box 41 G false]) (λk=>AE.length - k.1) ⟨0,by simp⟩ ?_ ?_;all_goals simp only[CG,Bw,CO,Ag,Ai]
 refine Le.MI 2 (F2 rfl) (by simp[DG,E]) (by simp[E]) (by simp[V.BI,V.A8]) (by simp[O.A8,V.BI,V.A8,E]);rintro ⟨j,hj⟩;by_cases H:j<AE.length;obtain⟨c,F⟩:=AI (AE[j]);have ihc:=ih c (F ▸ List.getElem_mem H);have Av:c.row.length=11:=by cases c;rfl
 have hw:AZ.wrap ((j:Int)+1)=((j+1:Nat):Int):=by rw[Ac];simp
 obtain⟨ck,cn,cs,cw,ch,cd,cx,cy,A0,co,A1⟩:=c;simp only[Ao,AA.row,Ap,BB]at ihc;refine go (cj3 @E @H @F @AA.row.eq_1) ?_;refine BZ (ihc) func14 ?_;refine go (cj @E<|@hw) ?_;refine⟨⟨j+1,by omega⟩,by simp only;omega,?_⟩;refine Le.MI 2 (F2 rfl) (by simp[DG,E]) (by simp[E]) (by simp[V.BI,V.A8]) (by simp[O.A8,V.BI,V.A8,E]);refine go (cj @E<|@H) ?_;exact At results14
theorem AKP : ∀(n:Nat) (b:AA),UF b<n->b.fit->AC AF 14 [Ao b,Ao b] (.c (.bool true))
 | 0,b,h,_=>absurd h (by omega)
 | n+1,⟨H,I,J,M,Q,R,U,q,G,o,src⟩,z,E=>by
   simp only[AA.fit]at E;exact AXj H I J M Q R U q G o src E.1 E.2.1 λc F=>AKP n c (by
    have:=List.sizeOf_lt_of_mem F;simp only[AA.mk.sizeOf_spec]at z;omega) (AA.pq E.2.2 c F)
theorem AKO (b:AA)(h:b.fit):AC AF 14 [Ao b,Ao b] (.c (.bool true)):=AKP (UF b+1) b (by omega) h
section
variable {B:AA} {sp S:List Int} {N:Nat} {W ind:Int}
theorem Lc.items (h:Lc B sp S N W ind){k:Nat}(o:k<S.length):∃a e:Nat,S.getD k 0=(a:Int)/\(S++[(N:Int)]).getD (k+1) 0=(e:Int)/\a<e/\e<=N/\(Jj B.AE sp S N W ind k).AE.length=e - a/\(∀i,a<=i->i<e->∃c p,B.AE[i]?=some c/\(Jj B.AE sp S N W ind k).AE[i - a]?=some (c.AS p c.y))/\0<=(Jj B.AE sp S N W ind k).h/\0<=(Jj B.AE sp S N W ind k).d:=by
 obtain⟨a,e,M,Q,F,G,J,_,_⟩:=h.line o;obtain⟨A,H⟩:=h.au;obtain⟨c,v,_,_,_,_,_,_,_,_,_,_,E,U,R⟩:=rh H h.val h.nn h.sn F (by rw[h.len];exact G);have hN:=h.len;have DJ:sp.length=B.AE.length:=H.len;have l1:(GC B.AE a (e - a)).length=e - a:=tG (by omega);have l2:(KI sp a (e - a)).length=e - a:=tH (by omega);have l3:(FT (GC B.AE a (e - a)) (KI sp a (e - a)) 0).length=(GC B.AE a (e - a)).length:=VK _ (by omega);rw[J];refine⟨a,e,M,Q,F,G,?_,λi i1 i2=>?_,U,R⟩;show (GQ B.AE sp a e).AE.length=_;rw[E,kv l3,l1];have I:B.AE[i]?=some (B.AE[i]'(by omega)):=BE (by omega);have z:(GC B.AE a (e - a))[i - a]?=some (B.AE[i]'(by omega)):=by
  unfold GC;rw[List.getElem?_take_of_lt (by omega),List.getElem?_drop,show a+(i - a)=i by omega,I]
 obtain⟨p,q⟩:∃p,(FT (GC B.AE a (e - a)) (KI sp a (e - a)) 0)[i - a]?=some p:=⟨_,BE (by omega)⟩
 refine⟨_,p,I,?_⟩;show (GQ B.AE sp a e).AE[i - a]?=_;rw[E];exact ABB z q
mutual
theorem AFf : ∀b:AA,b.BX->b.cnt<=1000000->b.fit
 | ⟨_,_,_,_,_,_,_,_,E,_,src⟩,h,F=>by
   simp only[AA.BX]at h;simp only[AA.cnt]at F;have:=Ud E;simp only[AA.fit];exact⟨by unfold maxLen;omega,h.2.1,xY E h.2.2 (by omega)⟩
theorem xY : ∀l:List AA,AA.FY l->AA.Az l<=1000000->AA.fits l
 | [],_,_=>trivial
 | b::l,h,E=>by
   simp only[AA.Az]at E;exact⟨AFf b h.1 (by omega),xY l h.2 (by omega)⟩
end
end
end
section
theorem AKJ (b:AA)(x y:Int):AC Tryz.prog 21 [Ao b,.c (.int .i64 x),.c (.int .i64 y)] (Ao (b.AS x y)):=by
 obtain⟨F,G,H,I,J,K,M,Q,E,o,src⟩:=b;simp only[Ao,AA.AS,AA.row,List.map_cons,List.map_nil];refine en func21 ntmps21 ?_;refine Ah ?_;exact At results21
section
variable {B:AA} {sp S:List Int} {N:Nat} {W ind:Int}
theorem AaO {b:AA}(h:b.Ad=true):b.fit:=by
 simp only[AA.Ad,Bool.and_eq_true,decide_eq_true_eq]at h;refine AFf b ?_ (by omega);have:=Ze [b] (by simp only[AA.FU,h.1,Bool.and_self]);exact this.1
end
end
theorem AOz (x:Af)(n:Nd)(W:Int)(sn:ByteArray)(hf:x.f.Fit)(hl:x.d.length<=maxLen)(DS : ∀e∈x.d,e.text.size<=maxLen)(hn:n.BX)(hs:sn.size<=maxLen):AC Tryz.prog 5 [.agg (HD x),Am n,Ms W sn] (.c (.bool true)):=by
 have h0:=ou;rcases rm x n W sn hf hl DS hn hs with ⟨B,T,R,F⟩|⟨b,L,P,A6,hc,hD,F⟩
 unfold Ms at *
 simp only[Am,As]at F ⊢;refine en func5 ntmps5 ?_;exact wz gv (cj2 h0 F trivial);obtain⟨d1,d2,d3,d4,d6⟩:=hD.facts;have Yt:=hD.Qd.XS;have U:=hD.Qd;have CA:=U.val;have A1:=U.n80;have M:=U.lR;have cL:=U.len;have J:=λ(k:Nat) (E:k<(DF x L P W).length)=>U.items E
 obtain⟨S,hS⟩:=AI (DF x L P W);have cN:=U.s0;rw[hS]at d1 d2 d6 Yt J F cN M;have Av:=eZ S (n.AE.length:Int) S.length;have H : ∀k,k<S.length->(Jr S (n.AE.length:Int) S.length)[k]?=some [.sl [],.int .i64 (S.getD k 0),.int .i64 ((S++[(n.AE.length:Int)]).getD (k+1) 0)]:=λk E=>by unfold Jr;rw[CM,List.getElem?_range E];rfl
 have I : ∀k,k<S.length->A4 (Ii x n b S W) k=Jj b.AE (x.CC ⟨0,false⟩ n.AE) S n.AE.length W (HA x.f.params.Al W) k:=λk E=>AIK E
 have Dz:=AaO CA;obtain⟨K,hK⟩:=AI (Ii x n b S W);rw[hK]at d1 d2 d6 F I;generalize Iy:x.f.params.Al=q at d6 F;have A5:=oo q W d1 d3;have Ir:=λ(k:Nat) (E:k<K.length)=>iQ q W d1 d3 E
 obtain⟨N,hN⟩:=AI (Gq q K A6 W);rw[hN]at A5 Ir;have eB : ∃w h d,GZ q K A6 W=Bf w h d N:=⟨_,_,_,by unfold GZ;rw[hN]⟩
 obtain⟨w,h,d,eB⟩:=eB;rw[eB]at F;obtain⟨R,hR⟩:=AI (Jr S (n.AE.length:Int) S.length);rw[hR]at F Av H;generalize hm:S.length=m at Av H I d2 Yt J M;obtain⟨o,Fg⟩:=AI (AA.AG N);have IJ:m<=o.length:=by rw[<-Fg,GA];omega
 have B3:o.length<=1000:=by rw[<-Fg,GA];omega
 obtain⟨ts,FK⟩:=AI (AA.AG b.AE);have zu:ts.length=n.AE.length:=by rw[<-FK,GA,cL]
 have row : ∀k (z:AA),N[k]?=some z->o[k]?=some z.row:=λk z E=>by rw[<-Fg,Dt,CM,E];rfl
 have A0 : ∀k (z:AA),b.AE[k]?=some z->ts[k]?=some z.row:=λk z E=>by rw[<-FK,Dt,CM,E];rfl
 have qk : ∀k,k<m->∃(a e:Nat) (z:AA),S.getD k 0=(a:Int)/\(S++[(n.AE.length:Int)]).getD (k+1) 0=(e:Int)/\a<e/\e<=n.AE.length/\N[k]?=some z/\z.AE.length=e - a/\∀i,a<=i->i<e->∃c p,b.AE[i]?=some c/\z.AE[i - a]?=some (c.AS p c.y):=λk E=>by
  obtain⟨a,e,e1,e2,e3,e4,e5,e6,_⟩:=J k E;have F:=Ir k (by omega);rw[I k E]at F;exact⟨a,e,_,e1,e2,e3,e4,F,e5,e6⟩
 have A3 : ∀c∈b.AE,c.fit:=λc hc=>by
  cases b;simp only[AA.fit]at Dz;exact AA.pq Dz.2.2 c hc
 have zG:(S++[(n.AE.length:Int)]).getD m 0=(n.AE.length:Int):=by rw[Bv,List.getElem?_append_right (by omega),show m - S.length=0 by omega];rfl
 have qU : ∀k,k<m->(S++[(n.AE.length:Int)]).getD k 0=S.getD k 0:=λk E=>by rw[Bv,List.getElem?_append_left (by omega),<-Bv]
 clear hD U J Ir I hR hK hN hS eB d1 d3 d4 d6 Dz CA;obtain⟨kd,t,cl,AE⟩:=n;simp only at zu A1 zG qU qk H;obtain⟨Q,hQ⟩:=AI AE.length;obtain⟨qs,A7⟩:=AI (Nd.AG AE);have B1:qs.length=Q:=by rw[<-A7,Zd,List.length_map,hQ]
 rw[hQ]at zu A1 zG qU qk H;unfold Ms at *
 obtain⟨b0,b1,b2,b3,b4,b5,b6,b7,bk,b9,Oz⟩:=b;simp only[Am,Nd.vs,Nd.row,Ao,AA.row,Bf,AV,Ap,BB,Fg,A7]at F ⊢;simp only at FK qk A0 A3;rw[FK]at F;obtain⟨bs,OD⟩:=AI ((Oz.map λn=>[C.int .i64 n]));rw[OD]at F;refine en func5 ntmps5 ?_;refine wy gv (cj2 h0 F trivial) ⟨?_⟩;refine lp (ι:={ k:Nat // k<=m }) (λk=>[(11,.c (.int .i64 ((S++[(Q:Int)]).getD k.1 0))),(12,.c (.int .i64 (k.1:Int)))]) (λ_=>[O.box 30 (HD x) false,O.box 33 [.c (.int .i64 kd),.c (.str t),.c (.int .i64 cl),.c (.sl qs)] false,O.box 35 [.c (.int .i64 W),.c (.str sn)] false,O.box 41 [.c (.int .i64 3),.c (.str ⟨#[]⟩),.c (.int .i64 0),.c (.int .i64 w),.c (.int .i64 h),.c (.int .i64 d),.c (.int .i64 0),.c (.int .i64 0),.c (.sl o),.c (.int .i64 0),.c (.sl [])] false,O.box 41 [.c (.int .i64 b0),.c (.str b1),.c (.int .i64 b2),.c (.int .i64 b3),.c (.int .i64 b4),.c (.int .i64 b5),.c (.int .i64 b6),.c (.int .i64 b7),.c (.sl ts),.c (.int .i64 b9),.c (.sl bs)] false]) (λk=>m - k.1) ⟨0,Nat.zero_le _⟩ ?_ ?_;all_goals simp only[CG,Bw,CO,Ag,Ai]
 have:(S++[(Q:Int)]).getD 0 0=0:=by
  rw[qU 0 M,cN]
 rw[this];exact DH;rintro ⟨k,E⟩;simp only;by_cases G:k<m
 . obtain⟨a,e,z,e1,e2,e3,e4,hz,A9,A8⟩:=qk k G;have rk:=H k G;rw[e1,e2]at rk;have eQ:=gx rk;have rz:=row k z hz;rw[qU k G,e1];obtain⟨z0,z1,z2,z3,z4,z5,z6,z7,zk,z9,B8⟩:=z;simp only at A9 A8;obtain⟨ks,TU⟩:=AI (AA.AG zk);have Ce:ks.length=e - a:=by rw[<-TU,GA,A9]
   have B0 : ∀i (c:AA),zk[i]?=some c->ks[i]?=some c.row:=λi c hi=>by rw[<-TU,Dt,CM,hi];rfl
   simp only[AA.row,TU]at rz;have su:=gx rz;clear row hz;have l1:k<R.length:=by omega
   have l2:k<o.length:=by omega
   have q1 : ¬(e:Int)<=(a:Int):=by omega
   have q2 : ¬(o.length:Int)<=(k:Int):=by omega
   have q3:AZ.wrap ((e:Int) - (a:Int))=((e - a:Nat):Int):=by rw[Ac];omega
   have v7:AZ.wrap ((k:Int)+1)=((k+1:Nat):Int):=by rw[Ac];simp
   refine wy (cj9 @G @Av @rk @eQ @rz @su @l1 @l2 @q1<|cj3 @q2 @q3 @Ce gv) trivial ⟨?_⟩;refine lp (ι:={ i:Nat // a<=i/\i<=e }) (λi=>[(13,.c (.int .i64 (i.1:Int)))]) (λ_=>[O.box 30 (HD x) false,O.box 33 [.c (.int .i64 kd),.c (.str t),.c (.int .i64 cl),.c (.sl qs)] false,O.box 35 [.c (.int .i64 W),.c (.str sn)] false,O.box 41 [.c (.int .i64 3),.c (.str ⟨#[]⟩),.c (.int .i64 0),.c (.int .i64 w),.c (.int .i64 h),.c (.int .i64 d),.c (.int .i64 0),.c (.int .i64 0),.c (.sl o),.c (.int .i64 0),.c (.sl [])] false,O.box 41 [.c (.int .i64 b0),.c (.str b1),.c (.int .i64 b2),.c (.int .i64 b3),.c (.int .i64 b4),.c (.int .i64 b5),.c (.int .i64 b6),.c (.int .i64 b7),.c (.sl ts),.c (.int .i64 b9),.c (.sl bs)] false]) (λi=>e - i.1) ⟨a,Nat.le_refl _,by omega⟩ ?_ ?_;all_goals simp only[CG,Bw,CO,Ag,Ai]
   exact DH;rintro ⟨i,i1,i2⟩;simp only;by_cases BD:i<e;obtain⟨c,p,HL,GM⟩:=A8 i i1 BD;have rt:=A0 i c HL;have rc:=B0 (i - a) _ GM;have he:=AKO (c.AS 0 0) (by have:=A3 c (List.mem_of_getElem? HL);cases c;exact this);have A2:=AKJ (c.AS p c.y) 0 0;have jY:=AKJ c 0 0;obtain⟨c0,c1,c2,c3,c4,c5,c6,c7,c8,c9,B7⟩:=c;simp only[Ao,AA.AS,AA.row,Ap,BB]at rt rc he A2 jY;have B2:=gx rt;have Ph:=gx rc;have l3:i<ts.length:=by omega
   have l4:i - a<ks.length:=by omega
   have q4 : ¬(Q:Int)<=(i:Int):=by omega
   have q5:AZ.wrap ((i:Int) - (a:Int))=((i - a:Nat):Int):=by rw[Ac];omega
   have v8:AZ.wrap ((i:Int)+1)=((i+1:Nat):Int):=by rw[Ac];simp
   refine wy (cj9 @BD @zu @rk @eQ @rz @su @l1 @l2 @rt<|cj8 @B2 @rc @Ph @l3 @l4 @q4 @q5 @v8 gv) (cj3 A2 jY he trivial) ⟨?_⟩;exact⟨⟨i+1,by omega,by omega⟩,by simp only;omega,wd 5⟩;obtain rfl:i=e:=by omega
   refine wy (cj5 @BD @rk @eQ @l1 @v7 gv) trivial ⟨?_⟩;rw[<-e2];exact⟨⟨k+1,by omega⟩,by simp only;omega,wd 5⟩
 obtain rfl:k=m:=by omega
 rw[zG];exact wz (cj3 @G @Av @B1 gv) trivial
end Go.Proofs.YtlpomcliejmedaaGreat
namespace Go.Proofs.YtlpomcliejmedaaGreat.displayItems
open Go.ChangeShapes Go.WideShapes Go.ChangeAt Go.RowKit
theorem j0:IB.wf (OpenSpec.ofChange Pw)=true:=by kernel_rfl
theorem j3:Ju.params.all (AF.readableRec ·)=true:=by kernel_rfl
theorem j4:namedTie AF IB.named Pw.vars=true:=by kernel_rfl
theorem j5:(IB.stops ==[])=true:=by kernel_rfl
theorem j7:(IB.knobs ==[])=true:=by kernel_rfl
theorem j9:(IB.inPlace==AF.inPlace 5)=true:=by kernel_rfl
theorem ZA:(IB.unfollowed==AF.unfollowed 5)=true:=by kernel_rfl
theorem ZB:(IB.recurses==AF.recurses 5)=true:=by kernel_rfl
theorem ZC:(IB.named==AF.varsNamed 5)=true:=by kernel_rfl
theorem ZD:(IB.maps==(Ju.params.toList++Pw.plain.varTypes AF).any (AF.mapsRec ·))=true:=by kernel_rfl
theorem ZE:(IB.ifaces==(Ju.params.toList++Pw.plain.varTypes AF).any (AF.ifacesRec ·))=true:=by kernel_rfl
theorem ZF:(IB.mapsOut==AF.mapsAmong Ju.resultTypes.toList)=true:=by kernel_rfl
theorem ZG:(IB.loops==(Ju.params.toList++Pw.plain.varTypes AF).any (AF.loopsFrom ·))=true:=by kernel_rfl
theorem ZH:(IB.wideKeys==(Ju.params.toList++Pw.plain.varTypes AF++Ju.resultTypes.toList).any (AF.wideKeysFrom ·))=true:=by kernel_rfl
theorem ZI:Pw.vars.all (AF.varReadable ·)=true:=by kernel_rfl
theorem ZJ:Ju.resultTypes.all (λt=>AF.readableRec t && decide (t<AF.types.size))=true:=by kernel_rfl
theorem ZK:(IB.ifacesOut==Ju.resultTypes.toList.any (AF.ifacesRec ·))=true:=by kernel_rfl
theorem ZL:(IB.loopsOut==Ju.resultTypes.toList.any (AF.loopsFrom ·))=true:=by kernel_rfl
theorem ZM:(IB.pinned==IB.pinnedBy)=true:=by kernel_rfl
theorem ZN:(IB.veiled==(Ju.params.toList++Pw.plain.varTypes AF++Ju.resultTypes.toList).any (AF.veiledRec ·))=true:=by kernel_rfl
theorem ZO:IB.veiledFits AF Ju.params.toList (Ju.params.toList++Pw.plain.varTypes AF++Ju.resultTypes.toList)=true:=by kernel_rfl
theorem lifted (os:Os)(E:os.Started)(H:Type)(enc:TypeId×Value->H) :
 ReturnsInHanded {} RF os 5 .any (Pw.pre6 enc AF Ju IB.domain false) (Pw.post enc AF Ju false true false false):=by
 refine returnsInHanded_of_change (C:=RF) own E (by kernel_rfl) Tryz.func5
  (uD (enc:=enc) (C:=RF) false ⟨#[],#[.agg (#[.slice none 0 0,.slice none 0 0]++Array.replicate 20 (.int .i64 0)++#[.slice none 0 0]),.agg #[.int .i64 0,.string ⟨#[]⟩,.int .i64 0,.slice none 0 0],.agg #[.int .i64 0,.string ⟨#[]⟩]],[]⟩ 8 (by kernel_rfl) (by kernel_rfl) (by kernel_rfl) (by kernel_rfl)) ?_
 intro W G args ds gs before M U o _;have B : ∀(j:Nat) t v,Ju.params[j]?=some t->args[j]?=some v->Value.okWide AF W .any G t v:=M;have QJ:=U;obtain⟨p,q,K,hV,rfl,cm,TV⟩:=U;have S:DataW.TrodAll enc AF W 0 (λ_=>true) true Ju.params.toList args.toList ds p:=K;rw[Tryz.params5]at S B;obtain⟨I,v1,F,d0,d1,d2,p0,p1,p2,rfl,rfl,rfl,h0,h1,h2⟩:=trodAll_three S;clear K M;obtain⟨x,J,c0⟩:=Qi Tryz.underlying30 (B 0 30 I rfl rfl) h0 (λ_=>sA);obtain⟨b,hb,c1⟩:=Qi Tryz.underlying33 (B 1 33 v1 rfl rfl) h1 (λ_=>km _);obtain⟨m,hm,c2⟩:=Qi Tryz.underlying35 (B 2 35 F rfl rfl) h2 (λ_=>r9);exact rW (args:=#[I,v1,F]) (AOz x b m.1 m.2 J.1 J.2.1 J.2.2 hb hm) (by
  simp only[AO];exact⟨I,[v1,F],rfl,c0,v1,[F],rfl,c1,F,[],rfl,c2,rfl⟩) (Q:=λv R=>Pw.post enc AF Ju false true false false W #[I,v1,F] v R) (λR hk=>rX QJ rfl rfl Tryz.underlying4 laid hk (by
  rw[Tryz.params5];intro t z;simp only[List.mem_cons,List.not_mem_nil,or_false]at z;rcases z with rfl|rfl|rfl<;>exact⟨by kernel_rfl,of_decide_eq_true (by kernel_rfl)⟩) rfl rfl rfl)
theorem closed:joinedFacts AF 5 Ju Pw IB=true:=by
 have J:laidOutB AF=true:=q1;have K:mapsRowed AF=true:=q2;have M:(AF.stops ==[])=true:=q6;have Q:(AF.stopKnobs ==[])=true:=q8;have B:(IB.plainKeys==AF.plainKeys)=true:=sO;have E:IB.shortTexts.isNone=true:=sP;have F:AF.stopsHeard=true:=sQ;have G:AF.mayEnter=true:=sR;have H:(IB.lifted==AF.liftsFinal)=true:=sS;have I:(AF.make==some IB.make)=true:=sT;unfold joinedFacts;simp only[j0,J,K,j3,j4,j5,M,j7,Q,j9,ZA,ZB,ZC,ZD,ZE,ZF,ZG,ZH,ZI,ZJ,ZK,ZL,B,E,F,G,H,I,ZM,ZN,ZO,Bool.and_self,Bool.true_and,Bool.and_true];rfl
theorem over:IB.holds Tryz.pinned (OpenSpec.ofChange Pw):=
 OpenClaim.holds_of_wide 5 Ju rfl rfl rfl rfl rfl rfl rfl ⟨rfl,rfl,rfl,rfl,rfl⟩ rfl rfl rfl rfl rfl (by kernel_rfl) Tryz.func5 closed
  (of_decide_eq_true (by kernel_rfl)) (by unfold Func.isWrapper;first|(rw[if_pos (by decide +kernel)];kernel_rfl)|(rw[if_neg (by decide +kernel)];exact⟨rfl,rfl⟩))
  (λos B H E _=>lifted os B H E)
theorem proved:Rows.DisplayItemsSaid:=
 over
#print axioms proved
end Go.Proofs.YtlpomcliejmedaaGreat.displayItems
