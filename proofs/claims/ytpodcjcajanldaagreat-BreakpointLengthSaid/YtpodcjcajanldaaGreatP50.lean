/- Part of the proof of breakpointLength.proved. Conditions: none. (Joined and shortened by a program.) -/
import Derived.Test.YtpodcjcajanldaaGreatP46
import Derived.Test.YtpodcjcajanldaaGreatP47
import Derived.Test.YtpodcjcajanldaaGreatP49
set_option linter.unusedVariables false
set_option linter.unusedSimpArgs false
set_option maxRecDepth 100000
set_option maxHeartbeats 16000000
open List renaming cons_append→Bg,nil_append→Bh,map_cons→Al,map_nil→A8,all_eq_true→Ee,getD_eq_getElem?_getD→G5,getElem?_map→Co,length_map→Cg
open Go.Proofs.Tryz renaming prog→AD,func41→AAk,ntmps41→AAv,results41→RM,func12→AAj,results12→rn
open Bool renaming and_eq_true→An
open Go.IntKind renaming i64→Ad
namespace Go.Proofs.YtpodcjcajanldaaGreat
open Go.RowKit
theorem ABw (cls W sp:List Int):∀k,(eb cls W sp k).length=(plcs cls (k+1)).length
 | 0=>by simp[eb,MS,plcs,permB_0]
 | k+1=>by
   have h:=ABw cls W sp k;unfold eb at h ⊢;simp only[MS];rw[plcs];cases hp:permB cls (k+1)with
   | true=>simp at h ⊢;omega
   | false=>simp at h ⊢;omega
def PB:List (Int×Int×Int)->Int
 | []=>0
 | q::l=>q.1+q.2.1+PB l
theorem ABb : ∀a b,PB (a++b)=PB a+PB b
 | [],b=>by simp[PB]
 | q::a,b=>by simp only[Bg,PB,ABb a b];omega
theorem ABx {cls W sp:List Int}{A:Nat->Int}{N:Nat}(h0:A 0=0)(hs:sp.getD 0 0=0)(hA : ∀k,k<N->A (k+1)=A k+sp.getD k 0+W.getD k 0):∀k,k<N->PB (eb cls W sp k)=A (k+1)
 | 0,h=>by
   have:=hA 0 h;simp only[eb,MS,Bh,PB];omega
 | k+1,h=>by
   have h1:=ABx (cls:=cls) h0 hs hA k (by omega);have h2:=hA (k+1) h;unfold eb at h1 ⊢;simp only[MS];split
   . simp only[ABb,PB]at h1 ⊢;omega
   . simp only[ABb,PB]at h1 ⊢;omega
theorem ABv (cls W sp:List Int):∀k,((MS cls W sp k).1=[]->(MS cls W sp k).2.2.1=0)/\∀q r,(MS cls W sp k).1=q::r->q.2.1=0
 | 0=>⟨fun _=>rfl,fun q r h=>by simp[MS]at h⟩
 | k+1=>by
   obtain⟨h1,h2⟩:=ABv cls W sp k;simp only[MS];split
   . refine⟨fun h=>by simp at h,fun q r h=>?_⟩;simp only at h;cases hI:(MS cls W sp k).1 with
     | nil=>rw[hI,Bh]at h;cases h;exact h1 hI
     | cons a l=>rw[hI,Bg]at h;cases h;exact h2 _ _ hI
   . exact⟨h1,h2⟩
theorem ACW (cls W sp:List Int)(k:Nat):∀q r,eb cls W sp k=q::r->q.2.1=0:=fun q r h=>by
 obtain⟨h1,h2⟩:=ABv cls W sp k;unfold eb at h;cases hI:(MS cls W sp k).1 with
 | nil=>rw[hI,Bh]at h;cases h;exact h1 hI
 | cons a l=>rw[hI,Bg]at h;cases h;exact h2 _ _ hI
theorem ACm (q v:Int)(l:List Int):(DK q v l).getD 0 0=0:=by cases l<;>rfl
structure PcH (b:AA)(L:List (Int×Int×Int))(P:List Int):Prop where
 len:L.length=P.length
 l64:L.length<=64
 ok:L.all la=true
 sum:PB L=b.w
 first : ∀q r,L=q::r->q.2.1=0
theorem ACg (x:Ae)(n:Nd)(s:AM)(hf:x.f.Fit)(hl:x.d.length<=300)(Nl : ∀e∈x.d,e.text.size<=maxLen)(hn:n.Bc)(hc:n.cnt<=80) :
 (∃e:Int,e≠0/\AC AD 41 [.agg x.f.vs,.c (Dj x.d),At n,Ai s] (.Bk [.c (.sl []),.c (.sl []),Af e]))\/
 (∃b L P,LD x s [] n=.Bk [BD b,Af 0]/\PcH b L P/\AC AD 41 [.agg x.f.vs,.c (Dj x.d),At n,Ai s] (.Bk [.c (.sl (L.map Rw)),.c (Ab P),Af 0])):=by
 have h1:=uv x n s hf hl Nl hn hc;have Au:(EV n.kids).Bc:=by cases n;exact⟨by decide,hn.2⟩
 have Im:(EV n.kids).cnt=n.cnt:=by cases n;rfl
 have hP:=ABt x.d n.kids (by omega) Nl Au (by omega);rcases wD x s n with ⟨e,he,hr⟩|⟨b,ho,hv,Am,hr⟩
 . rw[hr]at h1;left;obtain⟨⟨PL,e2⟩,hpl⟩:=AE (plcR x.d n.kids);rw[hpl]at hP;unfold uq at hP;simp only at hP;obtain⟨PC,hPC⟩:=AE (Ab PL);rw[hPC]at hP;clear hPC hpl Im Au hr;obtain⟨kd,t,c,kids⟩:=n;obtain⟨lv,cr⟩:=s;simp only[At,Nd.vs,Ai,Nd.row,Al,A8,BD,Af,AA.zero,AA.row,AA.rows]at h1 hP ⊢;rw[show Ab []=.sl []from rfl]at h1;obtain⟨rs,Ak⟩:=AE (Nd.rows kids);rw[Ak]at h1 hP ⊢;by_cases RT:e=1
   . subst RT;refine⟨1,by decide,?_⟩;refine en AAk AAv ?_;exact wz RM (cj h1<|trivial)
   . by_cases h2:e2=0
     . subst h2;refine⟨e,he,?_⟩;refine en AAk AAv ?_;exact wz (cj @he<|cj @RT<|RM) (cj h1<|cj hP<|trivial)
     . refine⟨e2,h2,?_⟩;refine en AAk AAv ?_;exact wz (cj @RT<|cj @h2<|RM) (cj h1<|cj hP<|trivial)
 . rw[hr]at h1;have O2:=hv;unfold Nd.Av at O2;simp only[An,decide_eq_true_eq]at O2;unfold Ae.okB at ho;simp only[An]at ho;have hx:x.Ok:=⟨hf,ho.1,hl,ho.2.1⟩
   obtain⟨kids,dt⟩:∃kids,n=EV kids:=⟨n.kids,AFk O2.2.1 O2.1⟩
   subst dt;have hP:AC AD 85 [.c (Dj x.d),.c (.sl (Nd.rows kids))] (uq (plcR x.d kids)):=hP;have Au:(EV kids).Bc:=Au;by_cases h0:kids.length=0
   . left;obtain rfl:kids=[]:=List.eq_nil_of_length_eq_zero h0;have e8:plcR x.d []=([],8):=by
      have c1:rL x.d []=(LB (Ga x.d []),0):=by unfold rL;rw[if_neg (by rw[ho.2.1,hv];simp)]
      unfold plcR;rw[c1,if_neg (by simp)];rfl
     rw[e8]at hP;unfold uq at hP;refine⟨8,by decide,?_⟩;obtain⟨lv,cr⟩:=s;clear hr Am;simp only[At,Nd.vs,Ai,Nd.row,EV,Al,A8,Ay,Af,Nd.rows]at h1 hP ⊢;rw[show Ab []=.sl []from rfl]at hP;refine en AAk AAv ?_;exact wz RM (cj h1<|cj hP<|trivial)
   . obtain⟨A,hA⟩:=AI0 Am;have hC:=pClasses_a x.d kids (by omega) Nl Au (by omega);have hS:=ARv x s kids hx ho.2.2 Au (by omega) hv;have c1:rL x.d kids=(LB (Ga x.d kids),0):=by unfold rL;rw[if_neg (by rw[ho.2.1,hv];simp)]
     have c2:plcR x.d kids=(plcs (LB (Ga x.d kids)) kids.length,0):=by
      unfold plcR;rw[c1,if_neg (by simp),if_neg h0]
     rw[c1]at hC;rw[c2]at hP;unfold uq at hC hP;simp only at hC hP;have DG:(x.DK s kids).length=kids.length:=by unfold Ae.DK;rw[Xw,nH,U4]
     have Bp:b.kids.length=kids.length:=by rw[<-hA.len];exact DG
     have CU:(LB (Ga x.d kids)).length=kids.length:=by rw[nH,U4]
     have eT : ∀c∈b.kids,-1073741824<=c.w/\c.w<=1073741824:=fun c hcm=>by
      obtain⟨k,hk⟩:=List.getElem?_of_mem hcm;have hlt:=(List.getElem?_eq_some_iff.1 hk).1;obtain⟨c',v,h3,_,_,_,_,_,_,h4⟩:=hA.FI k hlt;rw[hk]at h3;cases h3;exact(AO0 h4).1
     have hsb : ∀v∈x.DK s kids,-1073741824<=v/\v<=1073741824:=fun v hvm=>by
      have:=Ee.1 (AUU hx ho.2.2 kids) v hvm;simpa [Aw]using this
     have WY : ∀v∈LB (Ga x.d kids),-1073741824<=v/\v<=1073741824:=fun v hvm=>by
      have:=vN ho.2.1 kids v hvm;omega
     have hk80:kids.length<=80:=by
      have:=Ny kids;have h2:=uk kids;omega
     have hmain:=ACk x.f (Dj x.d) kids s b (Ab (plcs (LB (Ga x.d kids)) kids.length)) (LB (Ga x.d kids)) (x.DK s kids) kids.length h1 hP hC hS eT WY hsb (by omega) (by omega) Bp CU DG;split at hmain
     . right;rename_i hg;unfold ABi at hg;simp only[An,decide_eq_true_eq]at hg;obtain⟨M,hM⟩:∃M,kids.length=M+1:=⟨kids.length - 1,by omega⟩
       refine⟨b,_,_,hr,⟨?_,hg.1,hg.2,?_,ACW _ _ _ _⟩,hmain⟩
       . rw[ABw,hM];rfl
       . have hsp0:(x.DK s kids).getD 0 0=0:=ACm _ _ _;rw[ABx (A:=A) (N:=kids.length) hA.a0 hsp0 (fun k hk=>?_) _ (by omega),<-hA.ae,Bp,hM];rfl;obtain⟨c',v,h3,h4,h5,_,_,_,h6,_⟩:=hA.FI k (by omega);have h4:(x.DK s kids)[k]?=some v:=h4;rw[G5,h4,G5,Co,h3];simp only[Option.map_some,Option.getD_some];omega
     . exact .inl ⟨6,by decide,hmain⟩
theorem AB5 : ∀L:List (Int×Int×Int),L.all la=true-> -(L.length:Int)*20000<=PB L/\PB L<=(L.length:Int)*10020000
 | [],_=>by simp[PB]
 | q::L,h=>by
   simp only[List.all_cons,An,la,decide_eq_true_eq]at h;have:=AB5 L h.2;simp only[PB,List.length_cons];omega
theorem length43_a (x:Ae)(n:Nd)(s:AM)(hf:x.f.Fit)(hl:x.d.length<=maxLen)(Nl : ∀e∈x.d,e.text.size<=maxLen)(hn:n.Bc):AC AD 12 [.agg (Gf x),At n,Ai s] (.c (.bool true)):=by
 have h0:=ACK;have h1:=kX x n 40 hf hl hn (by omega) (by omega);cases hfw:RE x n 40 with
 | false =>
   rw[hfw]at h1;obtain⟨kd,t,c,kids⟩:=n;obtain⟨lv,cr⟩:=s;simp only[At,Nd.vs,Ai,Nd.row,Al,A8]at h1 ⊢;refine en AAj Tryz.ntmps12 ?_;exact wz rn (cj h0<|cj h1<|trivial)
 | true =>
   rw[hfw]at h1;unfold RE at hfw;simp only[An,decide_eq_true_eq]at hfw;have h2:=uv x n s hf hfw.2.1 Nl hn (by omega);rcases ACg x n s hf hfw.2.1 Nl hn (by omega)with ⟨e,he,h3⟩|⟨b,L,P,hr,hH,h3⟩
   . obtain⟨kd,t,c,kids⟩:=n;obtain⟨lv,cr⟩:=s;simp only[At,Nd.vs,Ai,Nd.row,Al,A8,Af]at h1 h3 ⊢;refine en AAj Tryz.ntmps12 ?_;exact wz (cj @he<|rn) (cj h0<|cj h1<|cj h3<|trivial)
   . rw[hr]at h2;clear hr;obtain⟨k1,k2,k3,k4,k5⟩:=hH;obtain⟨N,hN⟩:=AE L.length;obtain⟨PR,hPR⟩:=AE (P.map TL);have RN:PR.length=N:=by rw[<-hPR,Cg,<-k1,hN]
     have hPC:Ab P=.sl PR:=by rw[AOO,hPR]
     obtain⟨LR,hLR⟩:=AE (L.map Rw);have Fm:LR.length=N:=by rw[<-hLR,Cg,hN]
     rw[hPC,hLR]at h3;clear hPC hPR k1;obtain⟨lv,cr⟩:=s;obtain⟨kd,t,c,kids⟩:=n;simp only[At,Nd.vs,Ai,Nd.row,Al,A8,Ay,Af]at h1 h2 h3 ⊢;obtain⟨ns,KF⟩:=AE (Nd.rows kids);rw[KF]at h1 h2 h3 ⊢;refine en AAj Tryz.ntmps12 ?_;refine wy (cj @Fm<|cj @RN<|rn) (cj h0<|cj h1<|cj h2<|cj h3<|trivial) ⟨?_⟩;refine lp (ι:={ k:Nat // k<=N }) (fun k=>[(12,.c (.int .i64 (PB (L.take k.1)))),(13,.c (.int .i64 (k.1:Int)))]) (fun k=>[O.box 30 (Gf x) false,O.box 33 [.c (.int .i64 kd),.c (.str t),.c (.int .i64 c),.c (.sl ns)] false,O.box 35 [.c (.int .i64 lv),.c (.bool cr)] false,O.box 41 b.vs false]) (fun k=>N - k.1) ⟨0,Nat.zero_le _⟩ ?_ ?_;all_goals simp only[Br,List.foldl_cons,List.foldl_nil,List.set_cons_zero,List.set_cons_succ]
     . refine Le.BV (by simp[A5,PB])
     . rintro ⟨k,hkN⟩;simp only at hkN ⊢;by_cases hlt:k<N
       . obtain⟨⟨q1,q2,q3⟩,MI⟩:∃q,L[k]?=some q:=⟨_,List.getElem?_eq_getElem (by omega)⟩
         have BN:LR[k]?=some [.int .i64 q1,.int .i64 q2,.int .i64 q3]:=by rw[<-hLR,Co,MI];rfl
         have CH:=gx BN;have QJ:k<LR.length:=by omega
         have hw:Ad.wrap ((k:Int)+1)=((k+1:Nat):Int):=by rw[Aq];simp
         have JJ:=AB5 (L.take k) (by
          rw[Ee]at k3 ⊢;exact fun q hq=>k3 q (List.mem_of_mem_take hq))
         have Au:=Ee.1 k3 _ (List.mem_of_getElem? MI);simp only[la,An,decide_eq_true_eq]at Au;have hsm:PB (L.take (k+1))=PB (L.take k)+(q1+q2):=by
          rw[List.take_add_one,MI,ABb];simp[PB]
         have hlk:((L.take k).length:Int)<=64:=by rw[List.length_take];omega
         obtain⟨T,hT⟩:=AE (PB (L.take k));rw[hT]at JJ hsm;have hwa:Ad.wrap (T+q1)=T+q1:=Aq;by_cases hk0:k=0
         . subst hk0;have Ug:q2=0:=by
            cases hLc:L with
            | nil=>rw[hLc]at MI;simp at MI
            | cons q r=>rw[hLc]at MI;simp at MI;have:=k5 q r hLc;rw[MI]at this;exact this
           have hsm':PB (L.take (0+1))=T+q1:=by omega
           rw[hT];refine wy (cj @hlt<|cj @Fm<|cj @BN<|cj @CH<|cj @QJ<|cj @hwa<|rn) trivial ⟨?_⟩;refine⟨⟨0+1,by omega⟩,by simp only;omega,?_⟩;rw[hsm'];exact wd 4
         . have Ev:0<(k:Int):=by omega
           have hwc:Ad.wrap (T+q1+q2)=PB (L.take (k+1)):=by rw[Aq];omega
           rw[hT];refine wy (cj @hlt<|cj @Fm<|cj @BN<|cj @CH<|cj @QJ<|cj @hw<|cj @hwa<|cj @hwc<|cj @Ev<|rn) trivial ⟨?_⟩;refine⟨⟨k+1,by omega⟩,by simp only;omega,?_⟩;exact wd 4
       . obtain rfl:k=N:=by omega
         have Y2:PB (L.take L.length)=b.w:=by rw[List.take_length];exact k4
         rw[hN]at Y2;rw[Y2];exact wz (cj @hlt<|cj @Fm<|cj @RN<|rn) trivial
end Go.Proofs.YtpodcjcajanldaaGreat
