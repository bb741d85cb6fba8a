/- Part of the proof of some laws. Conditions: none. -/
import Derived.Test.YtglaipbdiofkfaaGreatY7
set_option linter.unusedVariables false
set_option linter.unusedSimpArgs false
set_option maxRecDepth 100000
set_option maxHeartbeats 16000000
open Go.Proofs.Tryz renaming prog→AF,func177→nB,func273→AF6,results228→Abl,func259→um,ntmps259→vA,func173→R3,results259→vP,func175→AFV,func263→Sa,results193→ADJ,func143→AQP,func37→DC,results143→Abc,func255→cf,results255→gi,func174→Jy,results174→ARs,func110→AQM,results110→ga,results16→ANp,results111→ANk,func112→AAC,ntmps112→ALR,results112→eT,func176→L6,func60→IB,ntmps60→AM7,results60→ACK,func285→cv,ntmps285→ARQ,results285→ASH,func287→AKB,func286→fv,ntmps286→ABU,results286→u3,func299→UJ,func289→AKC,results289→AGX,func256→AKA,ntmps256→ARH,results256→aU,func261→AQc,results261→ADM
open Go.IntKind renaming i64→AZ
open List renaming map_cons→Ap,map_nil→BB,length_cons→BA,length_nil→BO,replicate_succ→BY,replicate_zero→Cy,cons_append→BK,nil_append→BU,foldl_cons→Bw,foldl_nil→CO,set_cons_zero→Ag,set_cons_succ→Ai,drop_eq_getElem_cons→D5,drop_of_length_le→FA,getElem_mem→Kq,all_cons→Ep,take_succ_eq_append_getElem→UD,mem_cons_of_mem→Gk,eq_nil_of_length_eq_zero→Nr,mem_cons→Cf,replicate→Aq,length_append→Cp,length_replicate→H6,length_pos_iff→Kr
open Bool renaming true_and→Cd,false_and→D4,and_false→LV,and_true→Km,eq_iff_iff→Oj,false_or→tf,and_eq_true→Ak
open Option.some renaming injEq→BL
open Option renaming map_some→Nu,map_eq_some_iff→Ia
open Nat renaming eq_zero_or_pos→AMx,le_of_ble_eq_true→F2,zero_add→Cz
open Int renaming mul_comm→fu,sub_zero→Aa3
open Option renaming some→J,none→E
open Bool renaming false→U,true→I
open List renaming length→G
namespace Go.Proofs.YtglaipbdiofkfaaGreat
open Go.RowKit Tryz
variable (g:BG)
theorem po :AC AF 294 [Hg g] (.c (.int .i64 (AZ.wrap (g.h+g.d)))):=by
 unfold Hg;refine AC.intro func294 rfl ?_;simp only[ntmps294,Ap,BB,BA,BO,Nat.reduceAdd,Nat.reduceSub,BY,Cy,BK,BU,BG.row];refine Ah ?_;exact At results294
theorem Y0 :AC AF 177 [Hg g] (.c (.int .i64 (AZ.wrap (g.h+g.d)))):=by
 unfold Hg;refine AC.intro nB rfl ?_;simp only[ntmps177,Ap,BB,BA,BO,Nat.reduceAdd,Nat.reduceSub,BY,Cy,BK,BU,BG.row];refine Ah ?_;exact At results177
theorem lK (n p:Int):AC AF 273 [.c (.int .i64 n),.cp [.int .i64 p] 0] (.c (.int .i64 (AU n p))):=by
 refine en AF6 ntmps273 ?_;refine Ah ?_;refine BZ (EI n p) func52 ?_;refine Ah ?_;exact At results273
def XT (q:BG×Int):V:=.A7 [Hg q.1,AR q.2]
theorem sw (p:Int):AC AF 228 [Hg g,.c (.int .i64 p)] (XT (Hm g p)):=by
 unfold Hg;refine AC.intro func228 rfl ?_;simp only[ntmps228,Ap,BB,BA,BO,Nat.reduceAdd,Nat.reduceSub,BY,Cy,BK,BU,BG.row];with_reducible refine AW.seq ?_
 with_reducible refine AW.region ?_
 with_reducible refine If (by simp[BY];first|exact rfl|exact⟨F,F⟩) ?_
 with_reducible refine Kz ?_
 with_reducible refine G3 ?_
 refine Cn 1 ?_;refine Ah ?_;refine gc @AV.eq_1 (Xg 1 1000 [p] (by simp[maxLen])) func74 ?_;cases K:DX 1 1000 [p]with
 | false=>refine Ah ?_;exact At (cj7 Abl @XT.eq_1 @Hg.eq_1 @AR.eq_1 @Hm.eq_1 @K @BG.zero.eq_1 @BG.row.eq_1)
 | true =>
   refine Ah ?_;refine gc (cj @AV.eq_1<|@BG.OQ.eq_1) (Xg (-20000) 20000 g.OQ (by simp[maxLen,BG.OQ])) func74 ?_;cases H:DX (-20000) 20000 g.OQ with
   | false=>have B:=H;simp only[BG.OQ]at B;refine go @B ?_;exact At (cj8 Abl @XT.eq_1 @Hg.eq_1 @AR.eq_1 @Hm.eq_1 @K @H @BG.zero.eq_1 @BG.row.eq_1)
   | true=>have B:=H;simp only[BG.OQ]at B;refine go @B ?_;refine BZ (lK g.w p) AF6 ?_;refine BZ (lK g.h p) AF6 ?_;refine BZ (lK g.d p) AF6 ?_;refine BZ (lK g.Ey p) AF6 ?_;refine BZ (lK g.attach p) AF6 ?_;refine Ah ?_;exact At (cj8 Abl @XT.eq_1 @Hg.eq_1 @AR.eq_1 @Hm.eq_1 @K @H @BG.scaled.eq_1 @BG.row.eq_1)
theorem Ano {n p:Int}(B : -20000<=n)(H:n<=20000)(K:1<=p)(M:p<=1000):Ea (n*p) 100=AU n p:=by
 unfold AU;rw[if_pos ⟨by simp[An];omega,by omega,by omega⟩]
theorem AHT {n p:Int}(B : -20000<=n)(H:n<=20000)(K:1<=p)(M:p<=1000):AC AF 263 [.c (.int .i64 n),.c (.int .i64 p)] (.c (.int .i64 (AU n p))):=by
 rw[<-Ano B H K M];exact Ajo n p (by omega) (by omega) (by omega) (by omega)
theorem AnR (p:Int):AC AF 259 [Hg g,.c (.int .i64 p)] (XT (Hm g p)):=by
 have K:Hg g=.agg (g.row.map V.c):=F;cases B:DX 1 1000 [p]with
 | false=>rw[K];refine AC.intro um rfl ?_;simp only[vA,Ap,BB,BA,BO,Nat.reduceAdd,Nat.reduceSub,BY,Cy,BK,BU,BG.row];refine Ah ?_;refine gc @B (bf p 1 1000) R3 ?_;refine Ah ?_;exact At (cj7 vP @XT.eq_1 @Hg.eq_1 @AR.eq_1 @Hm.eq_1 @B @BG.zero.eq_1 @BG.row.eq_1)
 | true =>
   cases H:DX (-20000) 20000 g.OQ with
   | false=>rw[K];refine AC.intro um rfl ?_;simp only[vA,Ap,BB,BA,BO,Nat.reduceAdd,Nat.reduceSub,BY,Cy,BK,BU,BG.row];refine Ah ?_;refine gc @B (bf p 1 1000) R3 ?_;refine Ah ?_;refine gc (cj2 @H @Hg.eq_1 @BG.row.eq_1) (AHO g) AFV ?_;refine Ah ?_;exact At (cj8 vP @XT.eq_1 @Hg.eq_1 @AR.eq_1 @Hm.eq_1 @B @H @BG.zero.eq_1 @BG.row.eq_1)
   | true=>have M:=B;have Q:=H;simp[DX,BG.OQ]at M Q;rw[K];refine AC.intro um rfl ?_;simp only[vA,Ap,BB,BA,BO,Nat.reduceAdd,Nat.reduceSub,BY,Cy,BK,BU,BG.row];refine Ah ?_;refine gc @B (bf p 1 1000) R3 ?_;refine Ah ?_;refine gc (cj2 @H @Hg.eq_1 @BG.row.eq_1) (AHO g) AFV ?_;refine Ah ?_;refine BZ (AHT (n:=g.w) (p:=p) (by omega) (by omega) (by omega) (by omega)) Sa ?_;refine BZ (AHT (n:=g.h) (p:=p) (by omega) (by omega) (by omega) (by omega)) Sa ?_;refine BZ (AHT (n:=g.d) (p:=p) (by omega) (by omega) (by omega) (by omega)) Sa ?_;refine BZ (AHT (n:=g.Ey) (p:=p) (by omega) (by omega) (by omega) (by omega)) Sa ?_;refine BZ (AHT (n:=g.attach) (p:=p) (by omega) (by omega) (by omega) (by omega)) Sa ?_;refine Ah ?_;exact At (cj8 vP @XT.eq_1 @Hg.eq_1 @AR.eq_1 @Hm.eq_1 @B @H @BG.scaled.eq_1 @BG.row.eq_1)
def DB (f:AP)(name:ByteArray)(p:Int):AA×Int:=
 if (Hm (f.pick name) p).2=0 then(N7 (Hm (f.pick name) p).1 p,0)else(AA.zero,(Hm (f.pick name) p).2)
def Ba (q:AA×Int):V:=.A7 [Ao q.1,AR q.2]
theorem AQA (f:AP)(name:ByteArray)(p:Int)(o:G f.DR<=maxLen):AC AF 193 [.agg f.vs,.c (.str name),.c (.int .i64 p)] (Ba (DB f name p)):=by
 have H:DB f name p=if (Hm (f.pick name) p).2=0 then(N7 (Hm (f.pick name) p).1 p,0)else(AA.zero,(Hm (f.pick name) p).2):=F
 have K:(Hm (f.pick name) p).2=0->(-200000<=(Hm (f.pick name) p).1.w/\(Hm (f.pick name) p).1.w<=200000)/\(-200000<=(Hm (f.pick name) p).1.Ey/\(Hm (f.pick name) p).1.Ey<=200000):=by
  intro h;obtain⟨Q,R,S⟩:=AYW _ _ h;have:=AKg _ _ Q R;rw[S];exact⟨this.1,this.2.2.2⟩
 refine en func193 ntmps193 ?_;refine Ah ?_;refine gc (cj @Hg.eq_1<|@BG.row.eq_1) (AP2 f name o) func260 ?_;refine gc (cj3 @XT.eq_1 @Hg.eq_1 @AR.eq_1 @BG.row.eq_1) (AnR (f.pick name) p) um ?_;generalize hq:Hm (f.pick name) p=q at H K ⊢;obtain⟨g,M⟩:=q;simp only at H K ⊢;by_cases B:M=0;obtain⟨b1,b2⟩:=K B;have z:AZ.wrap (g.w+if 0<g.Ey then g.Ey else 0)=g.w+if 0<g.Ey then g.Ey else 0:=by split<;>exact Ac
 refine go (cj @B<|@z) ?_;exact At (cj9 ADJ @Ba.eq_1 @Ao.eq_1 @AR.eq_1 @H @B @N7.eq_1 @AA.row.eq_1 @AA.AG.eq_1<|cj2 @AA.AG.eq_2 @AV.eq_1 @mx.eq_1);refine go @B ?_;exact At (cj9 ADJ @Ba.eq_1 @Ao.eq_1 @AR.eq_1 @H @B @AA.zero.eq_1 @AA.row.eq_1 @AA.AG.eq_1<|cj @AA.AG.eq_2 @AV.eq_1)
def QC (f:AP)(name:ByteArray)(p:Int):AA×Int:=if f.valid=I then DB f name p else(AA.zero,1)
theorem pn (f:AP)(name:ByteArray)(p:Int)(z:G f.DR<=maxLen):AC AF 143 [.agg f.vs,.c (.str name),.c (.int .i64 p)] (Ba (QC f name p)):=by
 have K:DB f name p=if (Hm (f.pick name) p).2=0 then(N7 (Hm (f.pick name) p).1 p,0)else(AA.zero,(Hm (f.pick name) p).2):=F
 have M:(Hm (f.pick name) p).2=0->(-200000<=(Hm (f.pick name) p).1.w/\(Hm (f.pick name) p).1.w<=200000)/\(-200000<=(Hm (f.pick name) p).1.Ey/\(Hm (f.pick name) p).1.Ey<=200000):=by
  intro h;obtain⟨R,S,o⟩:=AYW _ _ h;have:=AKg _ _ R S;rw[o];exact⟨this.1,this.2.2.2⟩
 cases H:f.valid with
 | false=>refine en AQP ntmps143 ?_;refine Ah ?_;refine gc @H (Ma f) DC ?_;refine Ah ?_;exact At (cj9 Abc @Ba.eq_1 @Ao.eq_1 @AR.eq_1 @QC.eq_1 @H @AA.zero.eq_1 @AA.row.eq_1 @AA.AG.eq_1<|cj @AA.AG.eq_2 @AV.eq_1)
 | true =>
   refine en AQP ntmps143 ?_;refine Ah ?_;refine gc @H (Ma f) DC ?_;refine Ah ?_;refine gc (cj @Hg.eq_1<|@BG.row.eq_1) (dy f name z) func229 ?_;refine gc (cj3 @XT.eq_1 @Hg.eq_1 @AR.eq_1 @BG.row.eq_1) (sw (f.pick name) p) func228 ?_;generalize hq:Hm (f.pick name) p=q at K M ⊢;obtain⟨g,Q⟩:=q;simp only at K M ⊢;by_cases B:Q=0;obtain⟨b1,b2⟩:=M B;have hw:AZ.wrap (g.w+if 0<g.Ey then g.Ey else 0)=g.w+if 0<g.Ey then g.Ey else 0:=by split<;>exact Ac
   refine go (cj @B<|@hw) ?_;exact At (cj9 Abc @Ba.eq_1 @Ao.eq_1 @AR.eq_1 @QC.eq_1 @H @K @B @N7.eq_1<|cj4 @AA.row.eq_1 @AA.AG.eq_1 @AA.AG.eq_2 @AV.eq_1 @mx.eq_1);refine go @B ?_;exact At (cj9 Abc @Ba.eq_1 @Ao.eq_1 @AR.eq_1 @QC.eq_1 @H @K @B @AA.zero.eq_1<|cj3 @AA.row.eq_1 @AA.AG.eq_1 @AA.AG.eq_2 @AV.eq_1)
def Bc.zero:Bc:=⟨⟨#[]⟩,[],[],0⟩
def IU (s:Bc):V:=.agg (s.row.map V.c)
def NK (o:Option Bc):V:=.A7 [IU (o.getD Bc.zero),.c (.bool o.isSome)]
theorem ae (f:AP)(name:ByteArray)(R:G f.C5<=maxLen):AC AF 255 [.agg f.vs,.c (.str name)] (NK (f.I8 name)):=by
 unfold maxLen at R;refine en cf ntmps255 ?_;refine go @MG.eq_1 ?_;refine lp (ι:={ k:Nat // k<=G f.C5/\f.I8 name=XZ name (f.C5.drop k) }) (λk=>[(6,.c (.int .i64 (k.1:Int))),(5,.c (.bool U))]) (λ_=>[.box 27 f.vs U,.box 74 [.c (.str ⟨#[]⟩),.Bg [],.Bg [],.c (.int .i64 0)] U]) (λk=>G f.C5 - k.1) ⟨0,by simp[AP.I8]⟩ ?_ ?_;all_goals simp only[CG,Bw,CO,Ag,Ai]
 exact DH;rintro ⟨k,o,K⟩;by_cases B:k<G f.C5;obtain⟨g,Q⟩:=AI (f.C5[k]);rw[D5 B,Q]at K;by_cases H:g.name=name;have M:f.I8 name=J g:=by rw[K];simp[XZ,H]
 refine go (cj4 @B @Q @H @MG.eq_1 @Bc.row.eq_1) ?_;exact At (cj5 gi @NK.eq_1 @IU.eq_1 @M @Bc.row.eq_1 @H);have S:AZ.wrap ((k:Int)+1)=((k+1:Nat):Int):=by rw[Ac];simp
 refine go (cj5 @B @Q @H @MG.eq_1 @Bc.row.eq_1 @S) ?_;refine⟨⟨k+1,by omega,by rw[K];simp[XZ,H]⟩,by simp only;omega,?_⟩;exact DH;have M:f.I8 name=none:=by rw[K,FA (by omega)];rfl
 refine go (cj @B<|@MG.eq_1) ?_;exact At (cj7 gi @NK.eq_1 @IU.eq_1 @M @Bc.zero.eq_1 @Bc.row.eq_1 @Gv.eq_1 @Ek.eq_1)
theorem AZb (f:AP)(name:ByteArray)(z:G f.C5<=maxLen)(hs : ∀s∈f.C5,G s.sizes<=1000/\(G s.parts)<=1000):AC AF 140 [.agg f.vs,.c (.str name)] (NK (f.I8 name)):=by
 unfold maxLen at z;refine en func140 ntmps140 ?_;refine go @MG.eq_1 ?_;refine lp (ι:={ k:Nat // k<=G f.C5/\f.I8 name=XZ name (f.C5.drop k) }) (λk=>[(11,.c (.int .i64 (k.1:Int))),(5,.c (.bool U))]) (λ_=>[.box 27 f.vs U,.box 74 [.c (.str ⟨#[]⟩),.Bg [],.Bg [],.c (.int .i64 0)] U]) (λk=>G f.C5 - k.1) ⟨0,by simp[AP.I8]⟩ ?_ ?_;all_goals simp only[CG,Bw,CO,Ag,Ai]
 exact DH;rintro ⟨k,hk,K⟩;by_cases B:k<G f.C5;obtain⟨g,M⟩:=AI (f.C5[k]);rw[D5 B,M]at K;have hm:=hs f.C5[k] (Kq B);rw[M]at hm;by_cases H:g.name=name;have Q:f.I8 name=J g:=by rw[K];simp[XZ,H]
 have R:G g.sizes<=maxLen:=by unfold maxLen;omega
 have S:G g.parts<=maxLen:=by unfold maxLen;omega
 have o:G g.sizes*16<=140737488355328:=by omega
 have q:G g.parts*24<=140737488355328:=by omega
 refine go (cj9 @B @M @H @MG.eq_1 @Bc.row.eq_1 @Gv.eq_1 @Ek.eq_1 @CR.row.eq_1 @R<|cj2 @S @o @q) ?_;exact At (cj7 results140 @NK.eq_1 @IU.eq_1 @Q @Bc.row.eq_1 @Gv.eq_1 @Ek.eq_1 @H);have hw:AZ.wrap ((k:Int)+1)=((k+1:Nat):Int):=by rw[Ac];simp
 refine go (cj5 @B @M @H @MG.eq_1 @Bc.row.eq_1 @hw) ?_;refine⟨⟨k+1,by omega,by rw[K];simp[XZ,H]⟩,by simp only;omega,?_⟩;exact wd 2;have Q:f.I8 name=none:=by rw[K,FA (by omega)];rfl
 refine go (cj @B<|@MG.eq_1) ?_;exact At (cj7 results140 @NK.eq_1 @IU.eq_1 @Q @Bc.zero.eq_1 @Bc.row.eq_1 @Gv.eq_1 @Ek.eq_1)
theorem XN (s:ByteArray)(o:s.size<=maxLen):AC AF 174 [.c (.str s)] (.c (.bool (Ck s))):=by
 unfold maxLen at o;refine en Jy ntmps174 ?_;refine Ah ?_;refine lp (ι:={ k:Nat // k<=s.size/\s.data.toList.all Dx=(s.data.toList.drop k).all Dx }) (λk=>[(3,.c (.int .i64 (k.1:Int))),(2,.c (.bool U))]) (λ_=>[]) (λk=>s.size - k.1) ⟨0,by simp⟩ ?_ ?_;all_goals simp only[CG,Bw,CO,Ag,Ai]
 exact DH;rintro ⟨k,hk,K⟩;by_cases B:k<s.size;have S:s.data.toList.drop k=(s.data[k]'B)::s.data.toList.drop (k+1):=by rw[D5 (by simpa using B)];simp
 rw[S,Ep]at K;obtain⟨b,M⟩:=AI (s.data[k]'B);rw[M]at K;have q:AZ.wrap ((k:Int)+1)=((k+1:Nat):Int):=by rw[Ac];simp
 by_cases H:(b.toNat:Int)<32;have e:Dx b=false:=by simp[Dx];omega
 refine go (cj2 @B @M @H) ?_;exact At (cj3 ARs @Ck.eq_1 @K @e);by_cases R:(126:Int)<(b.toNat:Int);have e:Dx b=false:=by simp[Dx];omega
 refine go (cj3 @B @M @H @R) ?_;exact At (cj3 ARs @Ck.eq_1 @K @e);have e:Dx b=true:=by simp[Dx];omega
 refine go (cj4 @B @M @H @R @q) ?_;refine⟨⟨k+1,by omega,by rw[K,e,Cd]⟩,by simp only;omega,?_⟩;exact DH;have Hh:k=s.size:=by omega
 have e:s.data.toList.all Dx=true:=by rw[K,FA (by simp;omega)];rfl
 have z:s.size=s.data.size:=F;by_cases H:(1:Int)<=(s.size:Int);have Q:Ck s=decide ((s.size:Int)<=16):=by
  unfold Ck;rw[e,Cd,decide_eq_true (show 1<=s.size by omega),Cd,decide_eq_decide];omega
 refine go (cj @B<|@H) ?_;exact At (cj ARs<| @Q);have Q:Ck s=false:=by
  unfold Ck;rw[decide_eq_false (show ¬1<=s.size by omega),D4,LV]
 refine go (cj @B<|@H) ?_;exact At (cj ARs<| @Q)
theorem ATy (H B n:Int)(l:List Int):DX H B (n::l)=(DX H B [n] && DX H B l):=by simp[DX]
theorem AmE (p:Params):G p.lens=17:=F
theorem AUn (p:Params):AC AF 110 [.agg p.vs] (.c (.bool (Qk p))):=by
 have S:Qk p=(DX 1 100 p.SK && DX 0 20000 p.lens):=F;have hl:=AmE p;refine AC.intro AQM rfl ?_;simp only[ntmps110,Ap,BB,BA,BO,Nat.reduceAdd,Nat.reduceSub,BY,Cy,BK,BU,Params.vs,Params.list];refine Ah ?_;refine lp (ι:={ k:Nat // k<=G p.lens/\DX 0 20000 p.lens=DX 0 20000 (p.lens.drop k) }) (λk=>[(4,.c (.int .i64 (k.1:Int))),(2,.c (.bool U)),(3,.Bg (p.lens.map λn=>[C.int .i64 n]))]) (λ_=>[.box 25 p.vs U]) (λk=>G p.lens - k.1) ⟨0,by simp⟩ ?_ ?_;all_goals simp only[CG,Bw,CO,Ag,Ai]
 exact ER (cj2 @Params.lens.eq_1 @Params.vs.eq_1 @Params.list.eq_1);rintro ⟨k,z,Q⟩;by_cases B:k<G p.lens;obtain⟨n,o⟩:=AI (p.lens[k]);rw[D5 B,o,ATy]at Q;have q:AZ.wrap ((k:Int)+1)=((k+1:Nat):Int):=by rw[Ac];simp
 refine go (cj @B<|@o) ?_;refine BZ (bf n 0 20000) R3 ?_;cases R:DX 0 20000 [n]with
 | false =>
   have e:Qk p=false:=by rw[S,Q,R];simp
   refine go @R ?_;exact At (cj ga<| @e)
 | true=>refine go (cj @R<|@q) ?_;refine⟨⟨k+1,by omega,by rw[Q,R,Cd]⟩,by simp only;omega,?_⟩;exact DH
 have e:DX 0 20000 p.lens=true:=by rw[Q,FA (by omega)];rfl
 have K:Qk p=(DX 1 100 [p.script] && (DX 1 100 [p.Qr] && DX 1 100 [p.TD])):=by
  rw[S,e,Km];unfold Params.SK;rw[ATy,ATy 1 100 p.Qr]
 cases H:DX 1 100 [p.script]with
 | false=>rw[H,D4]at K;refine go (cj2 @B @Params.vs.eq_1 @Params.list.eq_1) ?_;refine gc @H (bf p.script 1 100) R3 ?_;refine Ah ?_;exact At (cj ga<| @K)
 | true =>
   cases M:DX 1 100 [p.Qr]with
   | false=>rw[H,M,D4,LV]at K;refine go (cj2 @B @Params.vs.eq_1 @Params.list.eq_1) ?_;refine gc @H (bf p.script 1 100) R3 ?_;refine gc @M (bf p.Qr 1 100) R3 ?_;refine Ah ?_;exact At (cj ga<| @K)
   | true=>rw[H,M,Cd,Cd]at K;refine go (cj2 @B @Params.vs.eq_1 @Params.list.eq_1) ?_;refine gc @H (bf p.script 1 100) R3 ?_;refine gc @M (bf p.Qr 1 100) R3 ?_;refine BZ (bf p.TD 1 100) R3 ?_;refine Ah ?_;exact At (cj ga<| @K)
def O6 (f:AP):Bool:=(decide (G f.DR<=500) && decide (G f.C5<=50)) && f.C5.all λs=>decide (G s.sizes<=50) && decide (G s.parts<=50)
theorem APV (f:AP)(z:G f.DR<=maxLen):AC AF 16 [.agg f.vs] (.c (.bool (O6 f))):=by
 by_cases M:(500:Int)<(G f.DR:Int);have e:O6 f=false:=by simp[O6];omega
 refine en func16 ntmps16 ?_;refine go (cj @M<|@O8.eq_1) ?_;exact At (cj ANp<| @e)
 . by_cases R:(50:Int)<(G f.C5:Int);have e:O6 f=false:=by simp[O6];omega
   refine en func16 ntmps16 ?_;refine go (cj3 @M @R @O8.eq_1 @MG.eq_1) ?_;exact At (cj ANp<| @e)
   . have o:O6 f=f.C5.all λs=>decide (G s.sizes<=50) && decide (G s.parts<=50):=by
      unfold O6;rw[decide_eq_true (show G f.DR<=500 by omega),decide_eq_true (show G f.C5<=50 by omega)];rfl
     refine en func16 ntmps16 ?_;refine go (cj3 @M @R @O8.eq_1 @MG.eq_1) ?_;refine lp (ι:={ k:Nat // k<=G f.C5/\O6 f=(f.C5.drop k).all λs=>decide (G s.sizes<=50) && decide (G s.parts<=50) }) (λk=>[(3,.c (.int .i64 (k.1:Int))),(2,.c (.bool U))]) (λ_=>[.box 27 f.vs U]) (λk=>G f.C5 - k.1) ⟨0,by simp[o]⟩ ?_ ?_;all_goals simp only[CG,Bw,CO,Ag,Ai]
     exact DH;rintro ⟨k,hk,H⟩;by_cases B:k<G f.C5;obtain⟨s,K⟩:=AI (f.C5[k]);rw[D5 B,K,Ep]at H;by_cases Q:(50:Int)<(G s.sizes:Int);have e:O6 f=false:=by rw[H];simp;omega
     refine go (cj6 @B @K @Q @MG.eq_1 @Bc.row.eq_1 @Gv.eq_1 @Ek.eq_1) ?_;exact At (cj ANp<| @e);by_cases S:(50:Int)<(G s.parts:Int);have e:O6 f=false:=by rw[H];simp;omega
     refine go (cj7 @B @K @Q @S @MG.eq_1 @Bc.row.eq_1 @Gv.eq_1 @Ek.eq_1) ?_;exact At (cj ANp<| @e);have q:AZ.wrap ((k:Int)+1)=((k+1:Nat):Int):=by rw[Ac];simp
     refine go (cj8 @B @K @Q @S @MG.eq_1 @Bc.row.eq_1 @Gv.eq_1 @Ek.eq_1 @q) ?_;refine⟨⟨k+1,by omega,by rw[H,decide_eq_true (show G s.sizes<=50 by omega),decide_eq_true (show G s.parts<=50 by omega)];rfl⟩,by simp only;omega,?_⟩;exact DH;have e:O6 f=true:=by rw[H,FA (by omega)];rfl
     refine go (cj @B<|@MG.eq_1) ?_;exact At (cj ANp<| @e)
theorem APF :Lo g=(Ck g.name && (DX (-20000) 20000 g.OQ && decide (0<=g.w))):=by
 unfold Lo;cases Ck g.name with
 | false=>rfl
 | true=>simp only[Cd];rw[Oj];simp[DX,BG.OQ];omega
theorem AiS (l:List BG)(hl:G l<=1000)(hn : ∀g∈l,g.name.size<=maxLen):AC AF 111 [.c (O8 l)] (.c (.bool (Ul [] l))):=by
 refine en func111 ntmps111 ?_;refine Ah ?_;refine lp (ι:={ k:Nat // k<=G l/\Ul [] l=Ul (l.take k) (l.drop k) }) (λk=>[(3,.c (.int .i64 (k.1:Int))),(2,.c (.bool U))]) (λ_=>[]) (λk=>G l - k.1) ⟨0,by simp⟩ ?_ ?_;all_goals simp only[CG,Bw,CO,Ag,Ai]
 exact DH
 . rintro ⟨k,hk,K⟩;by_cases B:k<G l
   . obtain⟨g,H⟩:=AI (l[k]);have R:=hn l[k] (Kq B);rw[H]at R;have GP:l.take k++[g]=l.take (k+1):=by rw[UD B,H]
     rw[D5 B,H]at K;simp only[Ul]at K;rw[GP]at K;have hw:AZ.wrap ((k:Int)+1)=((k+1:Nat):Int):=by rw[Ac];simp
     cases M:Ck g.name with
     | false =>
       have e:Ul [] l=false:=by rw[K,APF,M];rfl
       refine go (cj3 @B @H @O8.eq_1 @BG.row.eq_1) ?_;refine gc @M (XN g.name R) Jy ?_;refine Ah ?_;exact At (cj ANk<| @e)
     | true =>
       cases Q:DX (-20000) 20000 g.OQ with
       | false =>
         have e:Ul [] l=false:=by rw[K,APF,M,Q];rfl
         refine go (cj3 @B @H @O8.eq_1 @BG.row.eq_1) ?_;refine gc (cj4 @M @B @H @BG.row.eq_1 @Hg.eq_1) (XN g.name R) Jy ?_;refine gc (cj4 @Q @B @H @BG.row.eq_1 @Hg.eq_1) (AHO g) AFV ?_;refine Ah ?_;exact At (cj ANk<| @e)
       | true =>
         by_cases c3:g.w<0;have e:Ul [] l=false:=by rw[K,APF,M,Q,decide_eq_false (show ¬0<=g.w by omega)];rfl
         refine go (cj3 @B @H @O8.eq_1 @BG.row.eq_1) ?_;refine gc (cj4 @M @B @H @BG.row.eq_1 @Hg.eq_1) (XN g.name R) Jy ?_;refine gc (cj5 @Q @B @H @BG.row.eq_1 @Hg.eq_1 @c3) (AHO g) AFV ?_;refine Ah ?_;exact At (cj ANk<| @e)
         . rw[APF,M,Q,decide_eq_true (show 0<=g.w by omega)]at K;simp only[Cd,Bool.and_self]at K;refine go (cj3 @B @H @O8.eq_1 @BG.row.eq_1) ?_;refine gc (cj4 @M @B @H @BG.row.eq_1 @Hg.eq_1) (XN g.name R) Jy ?_;refine gc (cj5 @Q @B @H @BG.row.eq_1 @Hg.eq_1 @c3) (AHO g) AFV ?_;refine Ah ?_;refine lp (ι:={ j:Nat // j<=k/\hasName g.name (l.take k)=hasName g.name ((l.take k).drop j) }) (λj=>[(4,.c (.int .i64 (j.1:Int))),(2,.c (.bool U))]) (λ_=>[]) (λj=>k - j.1) ⟨0,by simp⟩ ?_ ?_;all_goals simp only[CG,Bw,CO,Ag,Ai]
           exact DH;rintro ⟨j,hj,S⟩;by_cases z:j<k;have Rq:j<G l:=by omega
           obtain⟨q,hq⟩:=AI (l[j]);have hd:(l.take k).drop j=q::(l.take k).drop (j+1):=by
            rw[D5 (by simp;omega)];simp[hq]
           rw[hd]at S;simp only[hasName]at S;by_cases o:q.name=g.name;have e:Ul [] l=false:=by rw[K,S,decide_eq_true o];rfl
           refine go (cj7 @z @Rq @hq @B @H @o @O8.eq_1 @BG.row.eq_1) ?_;exact At (cj ANk<| @e);have A0:AZ.wrap ((j:Int)+1)=((j+1:Nat):Int):=by rw[Ac];simp
           refine go (cj8 @z @Rq @hq @B @H @o @O8.eq_1 @BG.row.eq_1 @A0) ?_;refine⟨⟨j+1,by omega,by rw[S,decide_eq_false o,tf]⟩,by simp only;omega,?_⟩;exact DH;have e:hasName g.name (l.take k)=false:=by rw[S,FA (by simp;omega)];rfl
           refine go (cj @z<|@hw) ?_;refine⟨⟨k+1,by omega,by rw[K,e];rfl⟩,by simp only;omega,?_⟩;exact ER @O8.eq_1
   have e:Ul [] l=true:=by rw[K,FA (by omega)];rfl
   refine go (cj @B<|@O8.eq_1) ?_;exact At (cj ANk<| @e)
def Tl (f:AP):Nat->Int->List ByteArray->Bool
 | _,_,[]=>I
 | i,last,n::r=>match f.find n with
   | none=>U
   | some g=> !(decide (0<i) && decide (g.Dy<=last)) && Tl f (i+1) g.Dy r
def PL (f:AP)(ov:Int):Bool->List CR->Option Bool
 | e,[]=>J e
 | e,p::r=>match f.find p.name with
   | none=>E
   | some g=>if g.Dy<=ov then E else PL f ov (e || p.ext) r
def PM (f:AP)(s:Bc):Bool:=
 (Ck s.name && (decide (1<=G s.sizes) && (decide (G s.sizes<=16) && decide (G s.parts<=8)))) && (Tl f 0 0 s.sizes && (if s.parts=[]then decide (s.Dc=0)else match PL f s.Dc U s.parts with
   | none=>U
   | some e=>e && decide (0<=s.Dc)))
theorem AiO {name:ByteArray}{g:BG} : ∀ {l:List BG},KU name l=J g->g∈l
 | [],h=>by simp[KU]at h
 | x::r,h=>by
   simp only[KU]at h;split at h;simp only[BL]at h;subst h;simp;exact Gk _ (AiO h)
theorem ADk {f:AP}(B : ∀g∈f.DR,Lo g=I){name:ByteArray}{g:BG}(h:f.find name=J g): -40000<=g.Dy/\g.Dy<=40000/\AZ.wrap (g.h+g.d)=g.Dy:=by
 have:=B g (AiO h);simp[Lo,DX]at this;unfold BG.Dy;exact⟨by omega,by omega,Ac⟩
theorem Ajs {f:AP}(K : ∀g∈f.DR,Lo g=I):∀(l:List ByteArray) (i:Nat) (B H:Int),(0<i->H=B)->(i=0->H < -40000)->Tl f i B l=Sc f.ht H l
 | [],_,_,_,_,_=>rfl
 | n::r,i,B,H,M,Q=>by
   simp only[Tl,Sc,AP.ht];cases R:f.find n with
   | none=>rfl
   | some g =>
     obtain⟨S,o,_⟩:=ADk K R;simp only[Nu];rw[Ajs K r (i+1) g.Dy g.Dy (λ_=>rfl) (λe=>by omega)];congr 1
     rw[Oj];simp;rcases AMx i with e|e
     have:=Q e;omega;have:=M e;omega
theorem Ajl {f:AP}(M : ∀g∈f.DR,Lo g=I)(B:Int):∀(l:List CR) (e:Bool) (least:Int),B<least->
 (match PL f B e l with|none=>U|some e=>e && decide (0<=B))=(match OW f.ht least e l with|none=>U|some (m,e)=>e && DX 0 (m - 1) [B])
 | [],e,least,K=>by
   simp only[PL,OW,DX,Ep,List.all_nil,Km];congr 1
   rw[decide_eq_true (show B<=least - 1 by omega),Km]
 | p::r,e,least,K=>by
   simp only[PL,OW,AP.ht];cases R:f.find p.name with
   | none=>rfl
   | some g =>
     simp only[Nu];by_cases H:g.Dy<=B;rw[if_pos H];have key : ∀(l:List CR) (e:Bool) (m:Int),m<=B->(match OW f.ht m e l with|none=>U|some (m,e)=>e && DX 0 (m - 1) [B])=false:=by
      intro l;induction l with
      | nil=>intro e m Q;simp[OW,DX];omega
      | cons p l ih =>
        intro e m Q;simp only[OW];cases f.ht p.name with
        | none=>rfl
        | some h=>exact ih _ _ (by split<;>omega)
     have:=key r (e || p.ext) (if g.Dy<least then g.Dy else least) (by split<;>omega);exact this.symm;rw[if_neg H];exact Ajl M B r _ _ (by split<;>omega)
theorem Anl {f:AP}(B : ∀g∈f.DR,Lo g=I)(s:Bc):PM f s=Oh f.ht s:=by
 unfold PM Oh;rw[Ajs B s.sizes 0 0 (-60000) (λh=>absurd h (by omega)) (λ_=>by omega)];have K:(Ck s.name && (decide (1<=G s.sizes) && (decide (G s.sizes<=16) && decide (G s.parts<=8))))=(Ck s.name && (DX 1 16 [(G s.sizes:Int)] && decide (G s.parts<=8))):=by
  congr 1
  rw[Oj];simp[DX];omega
 rw[K];congr 2
 split;rfl;rename_i S;unfold du;by_cases R:s.Dc<60000;exact Ajl B s.Dc s.parts U 60000 R
 .
   obtain⟨p,r,H⟩:=List.exists_cons_of_ne_nil S;rw[H];simp only[PL,OW,AP.ht];cases M:f.find p.name with
   | none=>rfl
   | some g =>
     obtain⟨o,q,_⟩:=ADk B M;simp only[Nu];rw[if_pos (by omega)];have key : ∀(l:List CR) (e:Bool) (m:Int),m<=s.Dc->(match OW f.ht m e l with|none=>U|some (m,e)=>e && DX 0 (m - 1) [s.Dc])=false:=by
      intro l;induction l with
      | nil=>intro e m Q;simp[OW,DX];omega
      | cons p l ih =>
        intro e m Q;simp only[OW];cases f.ht p.name with
        | none=>rfl
        | some h=>exact ih _ _ (by split<;>omega)
     have:=key r (U || p.ext) (if g.Dy<60000 then g.Dy else 60000) (by split<;>omega);exact this.symm
theorem Aju (f:AP)(s:Bc)(A5 : ∀g∈f.DR,Lo g=I)(TQ:G f.DR<=maxLen)(R:s.name.size<=maxLen):AC AF 112 [.agg f.vs,IU s] (.c (.bool (PM f s))):=by
 have hS:PM f s=((Ck s.name && (decide (1<=G s.sizes) && (decide (G s.sizes<=16) && decide (G s.parts<=8)))) && (Tl f 0 0 s.sizes && (if s.parts=[]then decide (s.Dc=0)else match PL f s.Dc U s.parts with
  | none=>U
  | some e=>e && decide (0<=s.Dc)))):=F
 unfold IU;cases c1:Ck s.name with
 | false =>
   have e:PM f s=false:=by rw[hS,c1];rfl
   refine AC.intro AAC rfl ?_;simp only[ALR,Ap,BB,BA,BO,Nat.reduceAdd,Nat.reduceSub,BY,Cy,BK,BU,Bc.row];refine Ah ?_;refine gc @c1 (XN s.name R) Jy ?_;refine Ah ?_;exact At (cj eT<| @e)
 | true =>
   by_cases c2:(G s.sizes:Int)<1;have e:PM f s=false:=by rw[hS,decide_eq_false (show ¬1<=G s.sizes by omega)];simp
   refine AC.intro AAC rfl ?_;simp only[ALR,Ap,BB,BA,BO,Nat.reduceAdd,Nat.reduceSub,BY,Cy,BK,BU,Bc.row];refine Ah ?_;refine gc (cj2 @c1 @c2 @Gv.eq_1) (XN s.name R) Jy ?_;refine Ah ?_;exact At (cj eT<| @e)
   . by_cases c3:(16:Int)<(G s.sizes:Int);have e:PM f s=false:=by rw[hS,decide_eq_false (show ¬G s.sizes<=16 by omega)];simp
     refine AC.intro AAC rfl ?_;simp only[ALR,Ap,BB,BA,BO,Nat.reduceAdd,Nat.reduceSub,BY,Cy,BK,BU,Bc.row];refine Ah ?_;refine gc (cj3 @c1 @c2 @c3 @Gv.eq_1) (XN s.name R) Jy ?_;refine Ah ?_;exact At (cj eT<| @e)
     . by_cases c4:(8:Int)<(G s.parts:Int);have e:PM f s=false:=by rw[hS,decide_eq_false (show ¬G s.parts<=8 by omega)];simp
       refine AC.intro AAC rfl ?_;simp only[ALR,Ap,BB,BA,BO,Nat.reduceAdd,Nat.reduceSub,BY,Cy,BK,BU,Bc.row];refine Ah ?_;refine gc (cj5 @c1 @c2 @c3 @c4 @Gv.eq_1 @Ek.eq_1) (XN s.name R) Jy ?_;refine Ah ?_;exact At (cj eT<| @e)
       . have M:PM f s=(Tl f 0 0 s.sizes && (if s.parts=[]then decide (s.Dc=0)else match PL f s.Dc U s.parts with
          | none=>U
          | some e=>e && decide (0<=s.Dc))):=by
          rw[hS,c1,decide_eq_true (show 1<=G s.sizes by omega),decide_eq_true (show G s.sizes<=16 by omega),decide_eq_true (show G s.parts<=8 by omega)];rfl
         refine AC.intro AAC rfl ?_;simp only[ALR,Ap,BB,BA,BO,Nat.reduceAdd,Nat.reduceSub,BY,Cy,BK,BU,Bc.row];refine Ah ?_;refine gc (cj5 @c1 @c2 @c3 @c4 @Gv.eq_1 @Ek.eq_1) (XN s.name R) Jy ?_;refine Ah ?_;refine lp (ι:={ q:Nat×Int // q.1<=G s.sizes/\Tl f 0 0 s.sizes=Tl f q.1 q.2 (s.sizes.drop q.1) }) (λq=>[(6,.c (.int .i64 (q.1.1:Int))),(5,.c (.int .i64 q.1.2)),(4,.c (.bool U))]) (λ_=>[.box 27 f.vs U,.box 74 (s.row.map V.c) U]) (λq=>G s.sizes - q.1.1) ⟨(0,0),by simp⟩ ?_ ?_;all_goals simp only[CG,Bw,CO,Ag,Ai]
         exact ER (cj2 @Bc.row.eq_1 @Gv.eq_1 @Ek.eq_1)
         . rintro ⟨⟨k,A1⟩,hk,Q⟩;simp only at hk Q ⊢;by_cases K:k<G s.sizes;obtain⟨n,R⟩:=AI (s.sizes[k]);rw[D5 K,R]at Q;simp only[Tl]at Q;have hw:AZ.wrap ((k:Int)+1)=((k+1:Nat):Int):=by rw[Ac];simp
           cases H:f.find n with
           | none =>
             rw[H]at Q;have e:PM f s=false:=by rw[M,Q];rfl
             refine go (cj3 @K @R @Bc.row.eq_1 @Gv.eq_1) ?_;refine gc (cj3 @YK.eq_1 @H @BG.row.eq_1 @BG.zero.eq_1) (L5 f n TQ) L6 ?_;refine Ah ?_;exact At (cj eT<| @e)
           | some g =>
             rw[H]at Q;obtain⟨b1,b2,b3⟩:=ADk A5 H;rcases AMx k with k0|k0
             subst k0;have EK:AZ.wrap 1=1:=Ac;simp only[Nat.lt_irrefl,decide_false,D4,Bool.not_false,Cd]at Q;refine go (cj3 @K @R @Bc.row.eq_1 @Gv.eq_1) ?_;refine gc (cj2 @YK.eq_1 @H @BG.row.eq_1) (L5 f n TQ) L6 ?_;refine Ah ?_;refine gc (cj2 @b3 @Hg.eq_1 @BG.row.eq_1) (Y0 g) nB ?_;refine go @EK ?_;refine⟨⟨(1,g.Dy),by omega,Q⟩,by simp only;omega,?_⟩;refine Le.MI 2 (F2 F) (by simp[DG,Bc.row,Gv,Ek]) (by simp[Bc.row,Gv,Ek]) (by simp[V.BI,V.A8]) (by simp[O.A8,V.BI,V.A8,Bc.row,Gv,Ek]);have o:(0:Int)<(k:Int):=by omega
             by_cases B:g.Dy<=A1;have e:PM f s=false:=by rw[M,Q];simp[B,k0]
             refine go (cj3 @K @R @Bc.row.eq_1 @Gv.eq_1) ?_;refine gc (cj2 @YK.eq_1 @H @BG.row.eq_1) (L5 f n TQ) L6 ?_;refine go (cj @k0<|@o) ?_;refine gc (cj5 @b3 @Hg.eq_1 @BG.row.eq_1 @k0 @o @B) (Y0 g) nB ?_;refine Ah ?_;exact At (cj eT<| @e);have A2:Tl f 0 0 s.sizes=Tl f (k+1) g.Dy (s.sizes.drop (k+1)):=by rw[Q];simp[B]
             refine go (cj3 @K @R @Bc.row.eq_1 @Gv.eq_1) ?_;refine gc (cj2 @YK.eq_1 @H @BG.row.eq_1) (L5 f n TQ) L6 ?_;refine go (cj @k0<|@o) ?_;refine gc (cj5 @b3 @Hg.eq_1 @BG.row.eq_1 @k0 @o @B) (Y0 g) nB ?_;refine Ah ?_;refine gc (cj2 @b3 @Hg.eq_1 @BG.row.eq_1) (Y0 g) nB ?_;refine go @hw ?_;refine⟨⟨(k+1,g.Dy),by omega,A2⟩,by simp only;omega,?_⟩;refine Le.MI 2 (F2 F) (by simp[DG,Bc.row,Gv,Ek]) (by simp[Bc.row,Gv,Ek]) (by simp[V.BI,V.A8]) (by simp[O.A8,V.BI,V.A8,Bc.row,Gv,Ek])
           . have e:Tl f 0 0 s.sizes=true:=by rw[Q,FA (by omega)];rfl
             rw[e,Cd]at M;by_cases hp:s.parts=[]
             have Wl:G s.parts=0:=by rw[hp];rfl
             rw[if_pos hp]at M;refine go (cj4 @K @Bc.row.eq_1 @Gv.eq_1 @Ek.eq_1 @hp) ?_;exact At (cj eT<| @M)
             . have Wl : ¬G s.parts=0:=λh=>hp (Nr h)
               rw[if_neg hp]at M;refine go (cj4 @K @Bc.row.eq_1 @Gv.eq_1 @Ek.eq_1 @hp) ?_;refine lp (ι:={ q:Nat×Bool // q.1<=G s.parts/\PL f s.Dc U s.parts=PL f s.Dc q.2 (s.parts.drop q.1) }) (λq=>[(10,.c (.int .i64 (q.1.1:Int))),(9,.c (.bool q.1.2)),(4,.c (.bool U))]) (λ_=>[.box 27 f.vs U,.box 74 (s.row.map V.c) U]) (λq=>G s.parts - q.1.1) ⟨(0,U),by simp⟩ ?_ ?_;all_goals simp only[CG,Bw,CO,Ag,Ai]
               exact ER (cj2 @Bc.row.eq_1 @Gv.eq_1 @Ek.eq_1);rintro ⟨⟨j,ext⟩,hj,S⟩;simp only at hj S ⊢;by_cases z:j<G s.parts;obtain⟨q,hq⟩:=AI (s.parts[j]);rw[D5 z,hq]at S;simp only[PL]at S;have hw:AZ.wrap ((j:Int)+1)=((j+1:Nat):Int):=by rw[Ac];simp
               cases H:f.find q.name with
               | none =>
                 rw[H]at S;have e:PM f s=false:=by rw[M,S]
                 refine go (cj4 @z @hq @Bc.row.eq_1 @Ek.eq_1 @CR.row.eq_1) ?_;refine gc (cj3 @YK.eq_1 @H @BG.row.eq_1 @BG.zero.eq_1) (L5 f q.name TQ) L6 ?_;refine Ah ?_;exact At (cj eT<| @e)
               | some g =>
                 rw[H]at S;obtain⟨b1,b2,b3⟩:=ADk A5 H;by_cases B:g.Dy<=s.Dc;have e:PM f s=false:=by rw[M,S];simp[B]
                 refine go (cj4 @z @hq @Bc.row.eq_1 @Ek.eq_1 @CR.row.eq_1) ?_;refine gc (cj2 @YK.eq_1 @H @BG.row.eq_1) (L5 f q.name TQ) L6 ?_;refine go @Bc.row.eq_1 ?_;refine gc (cj3 @b3 @Hg.eq_1 @BG.row.eq_1 @B) (Y0 g) nB ?_;refine Ah ?_;exact At (cj eT<| @e);have A0:PL f s.Dc U s.parts=PL f s.Dc (ext || q.ext) (s.parts.drop (j+1)):=by rw[S];simp[B]
                 cases ext with
                 | true=>refine go (cj4 @z @hq @Bc.row.eq_1 @Ek.eq_1 @CR.row.eq_1) ?_;refine gc (cj2 @YK.eq_1 @H @BG.row.eq_1) (L5 f q.name TQ) L6 ?_;refine go @Bc.row.eq_1 ?_;refine gc (cj3 @b3 @Hg.eq_1 @BG.row.eq_1 @B) (Y0 g) nB ?_;refine go @hw ?_;refine⟨⟨(j+1,I),by omega,by simpa using A0⟩,by simp only;omega,?_⟩;refine Le.MI 2 (F2 F) (by simp[DG,Bc.row,Gv,Ek]) (by simp[Bc.row,Gv,Ek]) (by simp[V.BI,V.A8]) (by simp[O.A8,V.BI,V.A8,Bc.row,Gv,Ek])
                 | false=>refine go (cj4 @z @hq @Bc.row.eq_1 @Ek.eq_1 @CR.row.eq_1) ?_;refine gc (cj2 @YK.eq_1 @H @BG.row.eq_1) (L5 f q.name TQ) L6 ?_;refine go @Bc.row.eq_1 ?_;refine gc (cj3 @b3 @Hg.eq_1 @BG.row.eq_1 @B) (Y0 g) nB ?_;refine go (cj4 @hw @z @hq @Ek.eq_1 @CR.row.eq_1) ?_;refine⟨⟨(j+1,q.ext),by omega,by simpa using A0⟩,by simp only;omega,?_⟩;refine Le.MI 2 (F2 F) (by simp[DG,Bc.row,Gv,Ek]) (by simp[Bc.row,Gv,Ek]) (by simp[V.BI,V.A8]) (by simp[O.A8,V.BI,V.A8,Bc.row,Gv,Ek])
               have e2:PL f s.Dc U s.parts=J ext:=by rw[S,FA (by omega)];rfl
               rw[e2]at M;simp only at M;cases ext with
               | true=>refine go (cj2 @z @Bc.row.eq_1 @Ek.eq_1) ?_;exact At (cj eT<| @M)
               | false=>refine go (cj2 @z @Bc.row.eq_1 @Ek.eq_1) ?_;exact At (cj eT<| @M)
structure AP.Fit (f:AP):Prop where
 gl:G f.DR<=maxLen
 sl:G f.C5<=maxLen
 gn : ∀g∈f.DR,g.name.size<=maxLen
 sn : ∀s∈f.C5,s.name.size<=maxLen
theorem AiR : ∀(l seen:List BG),Ul seen l=I->∀g∈l,Lo g=I
 | [],_,_,g,B=>by cases B
 | x::r,seen,h,g,B=>by
   simp only[Ul,Ak]at h;rcases Cf.1 B with rfl|B
   exact h.1.1;exact AiR r _ h.2 g B
theorem ba (f:AP)(z:f.Fit):AC AF 60 [.agg f.vs] (.c (.bool f.valid)):=by
 have o:f.valid=((decide (G f.DR<=400) && (decide (G f.C5<=40) && Qk f.params)) && (Ul [] f.DR && Xa f.ht [] f.C5)):=F;by_cases M:(400:Int)<(G f.DR:Int);have e:f.valid=false:=by rw[o,decide_eq_false (show ¬G f.DR<=400 by omega)];rfl
 refine en IB AM7 ?_;refine go (cj @M<|@O8.eq_1) ?_;exact At (cj ACK<| @e)
 . by_cases c2:(40:Int)<(G f.C5:Int);have e:f.valid=false:=by rw[o,decide_eq_false (show ¬G f.C5<=40 by omega)];simp
   refine en IB AM7 ?_;refine go (cj3 @M @c2 @O8.eq_1 @MG.eq_1) ?_;exact At (cj ACK<| @e)
   . cases Q:Qk f.params with
     | false =>
       have e:f.valid=false:=by rw[o,Q];simp
       refine en IB AM7 ?_;refine go (cj3 @M @c2 @O8.eq_1 @MG.eq_1) ?_;refine gc (cj2 @Q @Params.vs.eq_1 @Params.list.eq_1) (AUn f.params) AQM ?_;refine Ah ?_;exact At (cj ACK<| @e)
     | true =>
       cases R:Ul [] f.DR with
       | false =>
         have e:f.valid=false:=by rw[o,R];simp
         refine en IB AM7 ?_;refine go (cj3 @M @c2 @O8.eq_1 @MG.eq_1) ?_;refine gc (cj2 @Q @Params.vs.eq_1 @Params.list.eq_1) (AUn f.params) AQM ?_;refine gc @R (AiS f.DR (by omega) z.gn) func111 ?_;refine Ah ?_;exact At (cj ACK<| @e)
       | true =>
         have A5:=AiR _ _ R;have A0:f.valid=Xa f.ht [] f.C5:=by
          rw[o,decide_eq_true (show G f.DR<=400 by omega),decide_eq_true (show G f.C5<=40 by omega),Q,R];rfl
         refine en IB AM7 ?_;refine go (cj3 @M @c2 @O8.eq_1 @MG.eq_1) ?_;refine gc (cj2 @Q @Params.vs.eq_1 @Params.list.eq_1) (AUn f.params) AQM ?_;refine gc @R (AiS f.DR (by omega) z.gn) func111 ?_;refine Ah ?_;refine lp (ι:={ k:Nat // k<=G f.C5/\f.valid=Xa f.ht (f.C5.take k) (f.C5.drop k) }) (λk=>[(3,.c (.int .i64 (k.1:Int))),(2,.c (.bool U))]) (λ_=>[.box 27 f.vs U]) (λk=>G f.C5 - k.1) ⟨0,by simpa using A0⟩ ?_ ?_;all_goals simp only[CG,Bw,CO,Ag,Ai]
         exact DH
         . rintro ⟨k,hk,H⟩;by_cases B:k<G f.C5
           . obtain⟨s,K⟩:=AI (f.C5[k]);have Fg:=z.sn f.C5[k] (Kq B);rw[K]at Fg;have GP:f.C5.take k++[s]=f.C5.take (k+1):=by rw[UD B,K]
             rw[D5 B,K]at H;simp only[Xa]at H;rw[GP,<-Anl A5]at H;have hw:AZ.wrap ((k:Int)+1)=((k+1:Nat):Int):=by rw[Ac];simp
             cases c5:PM f s with
             | false=>rw[c5]at H;simp only[D4]at H;refine go (cj3 @B @K @MG.eq_1 @Bc.row.eq_1) ?_;refine gc (cj2 @c5 @IU.eq_1 @Bc.row.eq_1) (Aju f s A5 z.gl Fg) AAC ?_;refine Ah ?_;exact At (cj ACK<| @H)
             | true =>
               rw[c5,Cd]at H;refine go (cj3 @B @K @MG.eq_1 @Bc.row.eq_1) ?_;refine gc (cj2 @c5 @IU.eq_1 @Bc.row.eq_1) (Aju f s A5 z.gl Fg) AAC ?_;refine Ah ?_;refine lp (ι:={ j:Nat // j<=k/\cV s.name (f.C5.take k)=cV s.name ((f.C5.take k).drop j) }) (λj=>[(4,.c (.int .i64 (j.1:Int))),(2,.c (.bool U))]) (λ_=>[.box 27 f.vs U]) (λj=>k - j.1) ⟨0,by simp⟩ ?_ ?_;all_goals simp only[CG,Bw,CO,Ag,Ai]
               exact DH;rintro ⟨j,hj,S⟩;by_cases Hx:j<k;have Rq:j<G f.C5:=by omega
               obtain⟨q,hq⟩:=AI (f.C5[j]);have hd:(f.C5.take k).drop j=q::(f.C5.take k).drop (j+1):=by
                rw[D5 (by simp;omega)];simp[hq]
               rw[hd]at S;simp only[cV]at S;by_cases he:q.name=s.name;have e:f.valid=false:=by rw[H,S,decide_eq_true he];rfl
               refine go (cj7 @Hx @Rq @hq @B @K @he @MG.eq_1 @Bc.row.eq_1) ?_;exact At (cj ACK<| @e);have A1:AZ.wrap ((j:Int)+1)=((j+1:Nat):Int):=by rw[Ac];simp
               refine go (cj8 @Hx @Rq @hq @B @K @he @MG.eq_1 @Bc.row.eq_1 @A1) ?_;refine⟨⟨j+1,by omega,by rw[S,decide_eq_false he,tf]⟩,by simp only;omega,?_⟩;exact DH;have e:cV s.name (f.C5.take k)=false:=by rw[S,FA (by simp;omega)];rfl
               refine go (cj @Hx<|@hw) ?_;refine⟨⟨k+1,by omega,by rw[H,e];rfl⟩,by simp only;omega,?_⟩;exact DH
           have e:f.valid=true:=by rw[H,FA (by omega)];rfl
           refine go (cj @B<|@MG.eq_1) ?_;exact At (cj ACK<| @e)
def JF (f:AP)(p:Int):Int:=if f.valid=U then 1 else if p<1\/100<p then 2 else 0
def times (r:Int)(q:CR):Int:=if q.ext=I then r else 1
def M3 (f:AP)(r:Int):Int->Int->List CR->Int×Int
 | h,c,[]=>(h,c)
 | h,c,q::l=>M3 f r (h+times r q*(f.pick q.name).Dy) (c+times r q) l
def LO (f:AP)(s:Bc)(r:Int):Int:=(M3 f r 0 0 s.parts).1 - ((M3 f r 0 0 s.parts).2 - 1)*s.Dc
def XV (f:AP)(name:ByteArray)(p:Int):Int:=(Hm (f.pick name) p).1.h+(Hm (f.pick name) p).1.d
structure Choice where
 Ln:ByteArray
 Jo:Int
def BG.Small (g:BG):Prop:=(-20000<=g.w/\g.w<=20000)/\(-20000<=g.h/\g.h<=20000)/\(-20000<=g.d/\g.d<=20000)/\(-20000<=g.Ey/\g.Ey<=20000)/\(-20000<=g.attach/\g.attach<=20000)
theorem AK5 {g:BG}(h:Lo g=I):g.Small:=by
 simp[Lo,DX]at h;unfold BG.Small;omega
theorem AY1 (name:ByteArray):({ BG.zero with name:=name }:BG).Small:=by simp[BG.Small,BG.zero]
theorem AF0 : ∀(l seen:List BG),Ul seen l=I->∀g∈l,Lo g=I
 | [],_,_,g,B=>by cases B
 | x::r,seen,h,g,B=>by
   simp only[Ul,Ak]at h;rcases Cf.1 B with rfl|B
   exact h.1.1;exact AF0 r _ h.2 g B
theorem ALL (H:ByteArray->Option Int):∀(l seen:List Bc),Xa H seen l=I->∀s∈l,Oh H s=I
 | [],_,_,g,B=>by cases B
 | x::r,seen,h,g,B=>by
   simp only[Xa,Ak]at h;rcases Cf.1 B with rfl|B
   exact h.1.1;exact ALL H r _ h.2 g B
theorem Z8 {f:AP}(h:f.valid=I):∀g∈f.DR,Lo g=true:=by
 simp only[AP.valid,Ak]at h;exact AF0 _ _ h.2.1
theorem Ql {f:AP}(h:f.valid=I)(name:ByteArray):(f.pick name).Small:=by
 unfold AP.pick;cases B:f.find name with
 | some g=>exact AK5 (Z8 h g (cA B))
 | none =>
   cases H:f.find ⟨#[63]⟩with
   | some g=>exact AK5 (Z8 h g (cA H))
   | none=>exact AY1 name
theorem Z9 {f:AP}(h:f.valid=I):∀s∈f.C5,Oh f.ht s=true:=by
 simp only[AP.valid,Ak]at h;exact ALL _ _ _ h.2.2
theorem Se {name:ByteArray}{s:Bc} : ∀ {l:List Bc},XZ name l=J s->s∈l/\s.name=name
 | [],h=>by simp[XZ]at h
 | x::r,h=>by
   simp only[XZ]at h;split at h;simp only[BL]at h;subst h;exact⟨by simp,by assumption⟩;have:=Se h;exact⟨Gk _ this.1,this.2⟩
theorem AJM (H:ByteArray->Option Int):∀(l:List CR) (a:Int) (e:Bool) (b:Int) (B:Bool),OW H a e l=J (b,B)->b<=a/\∀q∈l,∃h,H q.name=J h/\b<=h
 | [],a,e,b,B,h=>by simp[OW]at h;exact⟨by omega,by simp⟩
 | q::r,a,e,b,B,h=>by
   simp only[OW]at h;cases K:H q.name with
   | none=>rw[K]at h;cases h
   | some y =>
     rw[K]at h;obtain⟨R,S⟩:=AJM H r _ _ b B h;have Q:b<=a/\b<=y:=by split at R<;>omega
     refine⟨Q.1,λx M=>?_⟩;rcases Cf.1 M with rfl|M
     exact⟨y,K,Q.2⟩;exact S x M
structure AM5 (f:AP)(s:Bc):Prop where
 AKw:1<=G s.sizes
 AKx:G s.sizes<=16
 parts:G s.parts<=8
 AcS:0<=s.Dc
 AcT:s.Dc<=60000
 AdU : ∀q∈s.parts,s.Dc<(f.pick q.name).Dy
theorem ASt {f:AP}{name:ByteArray}{h:Int}(e:f.ht name=J h):(f.pick name).Dy=h:=by
 simp only[AP.ht,Ia]at e;obtain⟨g,B,rfl⟩:=e;simp[AP.pick,B]
theorem QG {f:AP}(hv:f.valid=I){s:Bc}(z:s∈f.C5):AM5 f s:=by
 have h:=Z9 hv s z;simp only[Oh,Ak]at h;obtain⟨⟨_,Q,H⟩,h3,B⟩:=h;simp[DX]at Q H;by_cases M:s.parts=[]
 rw[if_pos M]at B;simp at B;exact⟨by omega,by omega,H,by omega,by omega,by simp[M]⟩;rw[if_neg M]at B;unfold du at B;cases K:OW f.ht 60000 U s.parts with
 | none=>rw[K]at B;cases B
 | some x=>obtain⟨b,e⟩:=x;rw[K]at B;simp[DX]at B;obtain⟨hb,o⟩:=AJM _ _ _ _ _ _ K;refine⟨by omega,by omega,H,by omega,by omega,λq S=>?_⟩;obtain⟨y,hy,R⟩:=o q S;rw[ASt hy];omega
def TG (f:AP)(p AD:Int):List ByteArray->Option ByteArray
 | []=>E
 | n::r=>if AD<=XV f n p then J n else TG f p AD r
def LM (f:AP)(s:Bc)(p AD:Int):Nat->Int
 | 0=>1000
 | n+1=>if AD<=AU (LO f s (1000 - ((n:Int)+1))) p then 1000 - ((n:Int)+1)else LM f s p AD n
def WA (f:AP)(s:Bc)(AD p:Int):Choice:=
 match TG f p AD s.sizes with
 | some n=>⟨n,0⟩
 | none=>if s.parts=[]then⟨s.sizes.getD (G s.sizes - 1) ⟨#[]⟩,0⟩else⟨⟨#[]⟩,LM f s p AD 999⟩
def J2 (f:AP)(name:ByteArray)(AD p:Int):Choice:=
 match f.I8 name with
 | none=>⟨name,0⟩
 | some s=>WA f s AD p
def N4 (c:Choice):V:=.agg [.c (.str c.Ln),.c (.int .i64 c.Jo)]
def JR (r:Int):List CR->List CR
 | []=>[]
 | q::l=>Aq (times r q).toNat q++JR r l
def kt (f:AP)(p ANy:Int)(q:CR):AA:={ (DB f q.name p).1 with y:=AU ANy p+(DB f q.name p).1.d }
def Gp (f:AP)(ov p:Int):Int->List CR->List AA
 | _,[]=>[]
 | b,q::l=>kt f p b q::Gp f ov p (b+((f.pick q.name).Dy - ov)) l
def IS:Int->List AA->Int
 | m,[]=>m
 | m,b::l=>IS (mx m b.w) l
def V4 (f:AP)(s:Bc)(r p:Int):AA:=⟨3,⟨#[]⟩,0,IS 0 (Gp f s.Dc p 0 (JR r s.parts)),AU (LO f s r) p,0,0,0,Gp f s.Dc p 0 (JR r s.parts),0,[]⟩
def KX (x:ByteArray):List ByteArray->Bool
 | []=>U
 | y::r=>if y=x then I else KX x r
def KH (f:AP)(name:ByteArray)(c:Choice):Bool:=
 match f.I8 name with
 | none=>decide (c.Jo=0) && decide (c.Ln=name)
 | some s=>if c.Jo=0 then KX c.Ln s.sizes else decide (c.Ln=⟨#[]⟩) && (decide (0<G s.parts) && (decide (1<=c.Jo) && decide (c.Jo<=1000)))
def K5 (f:AP)(name:ByteArray)(c:Choice)(p:Int):AA×Int:=
 if JF f p≠0 then(AA.zero,JF f p)
 else if KH f name c=U then(AA.zero,8)
 else if c.Jo=0 then((DB f c.Ln p).1,0)
 else(V4 f ((f.I8 name).getD Bc.zero) c.Jo p,0)
def ec (f:AP)(name:ByteArray)(AD p:Int):Choice×Int:=
 if JF f p≠0 then(⟨⟨#[]⟩,0⟩,JF f p)else(J2 f name AD p,0)
theorem AjR {f:AP}{name:ByteArray}{g:BG}(h:f.find name=J g):f.pick name=g:=by simp[AP.pick,h]
theorem AB4 {r:Int}(B:1<=r)(H:r<=1000)(q:CR):1<=times r q/\times r q<=1000:=by unfold times;split<;>omega
theorem Pk {f:AP}(H:f.valid=I){p:Int}(K:1<=p)(M:p<=100)(name:ByteArray):DB f name p=(N7 ((f.pick name).scaled p) p,0)/\Hm (f.pick name) p=((f.pick name).scaled p,0):=by
 have B:=Ql H name;have e:Hm (f.pick name) p=((f.pick name).scaled p,0):=by
  unfold Hm;rw[if_neg (by simp[DX];omega),if_neg];unfold BG.Small at B;simp[DX,BG.OQ];omega
 unfold DB;rw[e];simp
theorem Zv {f:AP}(H:f.valid=I){p:Int}(K:1<=p)(M:p<=100)(name:ByteArray):(-200000<=((f.pick name).scaled p).w/\((f.pick name).scaled p).w<=200000)/\(-200000<=((f.pick name).scaled p).h/\((f.pick name).scaled p).h<=200000)/\(-200000<=((f.pick name).scaled p).d/\((f.pick name).scaled p).d<=200000)/\(-200000<=((f.pick name).scaled p).Ey/\((f.pick name).scaled p).Ey<=200000):=by
 have B:=Ql H name;unfold BG.Small at B;exact AKg _ _ (by simp[DX];omega) (by simp[DX,BG.OQ];omega)
theorem Anq {f:AP}(K:f.valid=I){p:Int}(B:1<=p)(H:p<=100)(name:ByteArray):AZ.wrap ((DB f name p).1.h+(DB f name p).1.d)=XV f name p:=by
 obtain⟨M,Q⟩:=Pk K B H name;have:=Zv K B H name;rw[M];unfold XV;rw[Q];exact wrap_i64 (by simp only[N7];omega) (by simp only[N7];omega)
theorem ALV (f:AP)(r:Int)(B : ∀name,(f.pick name).Small)(H:1<=r)(K:r<=1000):∀(l:List CR) (h c:Int),h - 40000000*(G l:Int)<=(M3 f r h c l).1/\(M3 f r h c l).1<=h+40000000*(G l:Int)/\c+(G l:Int)<=(M3 f r h c l).2/\(M3 f r h c l).2<=c+1000*(G l:Int)
 | [],h,c=>by simp[M3]
 | q::l,h,c=>by
   have ih:=ALV f r B H K l (h+times r q*(f.pick q.name).Dy) (c+times r q);have M:=B q.name;unfold BG.Small at M;obtain⟨t1,t2⟩:=AB4 H K q;have m:=Qh (f.pick q.name).Dy (times r q) 40000 1000 (by unfold BG.Dy;omega) (by unfold BG.Dy;omega) (by omega) t2;rw[fu (f.pick q.name).Dy]at m;simp only[M3,BA]at ih ⊢;simp only[Int.natCast_add,Int.natCast_one]at ih ⊢;omega
theorem AB3 {f:AP}(B:f.valid=I){s:Bc}(Q:s∈f.C5){r:Int}(K:1<=r)(M:r<=1000): -1000000000<=LO f s r/\LO f s r<=1000000000:=by
 obtain⟨_,_,R,S,H,o⟩:=QG B Q;have:=ALV f r (Ql B) K M s.parts 0 0;have m:=Qh s.Dc ((M3 f r 0 0 s.parts).2) 60000 8000 (by omega) H (by omega) (by omega);rw[fu s.Dc]at m;unfold LO;rw[Int.sub_mul];omega
theorem ABa {n p:Int}(B : -1073741824<=n)(H:n<=1073741824)(K:0<=p)(M:p<=10000):Ea (n*p) 100=AU n p:=by
 unfold AU;rw[if_pos ⟨by simp[An];omega,by omega,by omega⟩]
theorem AZF (f:AP)(s:Bc)(p B r:Int)(Q:1<=r)(R:r<1000):LM f s p B (1000 - r).toNat=if B<=AU (LO f s r) p then r else LM f s p B (1000 - (r+1)).toNat:=by
 obtain⟨n,M⟩:∃n:Nat,r=1000 - ((n:Int)+1):=⟨(999 - r).toNat,by omega⟩
 subst M;have H:(1000 - (1000 - ((n:Int)+1))).toNat=n+1:=by omega
 have K:(1000 - (1000 - ((n:Int)+1)+1)).toNat=n:=by omega
 rw[H,K];rfl
def ls (q:Choice×Int):V:=.A7 [N4 q.1,AR q.2]
theorem AIZ : ∀(l:List AA) (m:Int) (b:AA),IS m (l++[b])=mx (IS m l) b.w
 | [],m,b=>rfl
 | x::l,m,b=>by simp only[BK,IS];exact AIZ l _ b
theorem lG : ∀(l:List AA) (b:AA),AA.AG (l++[b])=AA.AG l++[b.row]
 | [],b=>rfl
 | x::l,b=>by simp only[BK,AA.AG];rw[lG l b]
@[simp] theorem GA : ∀(l:List AA),G (AA.AG l)=G l
 | []=>rfl
 | x::l=>by simp only[AA.AG,BA];rw[GA l]
theorem sH {r:Int}(B:1<=r)(H:r<=1000):∀l:List CR,G (JR r l)<=1000*G l
 | []=>by simp[JR]
 | q::l=>by
   have:=sH B H l;obtain⟨t1,t2⟩:=AB4 B H q;simp only[JR,Cp,H6,BA];omega
theorem AKe {n p:Int}(B:0<=n)(R:n<=1000000000)(H:0<=p)(K:p<=100):0<=AU n p/\AU n p<=1000000001:=by
 have M:0<=n*p:=Int.mul_nonneg B H;have Q:n*p<=n*100:=Int.mul_le_mul_of_nonneg_left K B;rw[<-ABa (by omega) (by omega) H (by omega)];unfold Ea;rw[if_pos M];omega
def Nf (w h:Int)(AE:V):List V:=[.c (.int .i64 3),.c (.str ⟨#[]⟩),.c (.int .i64 0),.c (.int .i64 w),.c (.int .i64 h),.c (.int .i64 0),.c (.int .i64 0),.c (.int .i64 0),AE,.c (.int .i64 0),.Bg []]
def BT:List V:=[.c (.int .i64 0),.c (.str ⟨#[]⟩),.c (.int .i64 0),.c (.int .i64 0),.c (.int .i64 0),.c (.int .i64 0),.c (.int .i64 0),.c (.int .i64 0),.Bg [],.c (.int .i64 0),.Bg []]
theorem AEl {f:AP}{p:Int}(B:JF f p=0):f.valid=I/\1<=p/\p<=100:=by
 unfold JF at B;have H:f.valid=true:=by cases h:f.valid<;>simp[h]at B;rfl
 rw[if_neg (by simp[H])]at B;refine⟨H,?_⟩;split at B<;>omega
theorem AAI {f:AP}{name cg:ByteArray}{cr:Int}(K : ¬cr=0)(B:KH f name ⟨cg,cr⟩=I):∃s,f.I8 name=J s/\s.parts≠[]/\1<=cr/\cr<=1000/\cg=⟨#[]⟩:=by
 unfold KH at B;cases H:f.I8 name with
 | none=>rw[H]at B;simp[K]at B
 | some s=>rw[H]at B;simp[K]at B;exact⟨s,F,Kr.1 B.2.1,by omega,by omega,B.1⟩
def Hv (f:AP)(name:ByteArray)(AD p:Int):AA×Int:=if JF f p≠0 then(AA.zero,JF f p)else K5 f name (J2 f name AD p) p
theorem x5 (f:AP)(p:Int)(M:f.Fit):AC AF 285 [.agg f.vs,.c (.int .i64 p)] (AR (JF f p)):=by
 cases B:f.valid with
 | false=>refine en cv ARQ ?_;refine Ah ?_;refine gc @B (ba f M) IB ?_;refine Ah ?_;exact At (cj3 ASH @AR.eq_1 @JF.eq_1 @B)
 | true =>
   by_cases H:p<1;refine en cv ARQ ?_;refine Ah ?_;refine gc @B (ba f M) IB ?_;refine go @H ?_;exact At (cj4 ASH @AR.eq_1 @JF.eq_1 @B @H);by_cases K:100<p;refine en cv ARQ ?_;refine Ah ?_;refine gc @B (ba f M) IB ?_;refine go (cj @H<|@K) ?_;exact At (cj5 ASH @AR.eq_1 @JF.eq_1 @B @H @K);refine en cv ARQ ?_;refine Ah ?_;refine gc @B (ba f M) IB ?_;refine go (cj @H<|@K) ?_;exact At (cj5 ASH @AR.eq_1 @JF.eq_1 @B @H @K)
theorem AZk (f:AP)(name:ByteArray)(p:Int)(H:G f.DR<=maxLen):AC AF 287 [.agg f.vs,.c (.str name),.c (.int .i64 p)] (Ao (DB f name p).1):=by
 have B:=AQA f name p H;generalize M:DB f name p=q at B ⊢;obtain⟨b,e⟩:=q;obtain⟨k,n,s,w,h,d,x,y,K,o,src⟩:=b;simp only[Ba,Ao,AR,AA.row,Ap,BB]at B ⊢;refine en AKB ntmps287 ?_;refine Ah ?_;refine BZ (B) func193 ?_;refine Ah ?_;exact At results287
theorem AYL (f:AP)(name:ByteArray)(c:Choice)(o:G f.C5<=maxLen)(hz : ∀s∈f.C5,G s.sizes<=1000):AC AF 286 [.agg f.vs,.c (.str name),N4 c] (.c (.bool (KH f name c))):=by
 obtain⟨K,Q⟩:=c;unfold N4;cases B:f.I8 name with
 | none =>
   have H:KH f name ⟨K,Q⟩=(decide (Q=0) && decide (K=name)):=by unfold KH;rw[B]
   by_cases M:Q=0;subst M;refine en fv ABU ?_;refine Ah ?_;refine gc (cj4 @NK.eq_1 @IU.eq_1 @Bc.row.eq_1 @B @Bc.zero.eq_1) (ae f name o) cf ?_;refine Ah ?_;exact At (cj u3<| @H);refine en fv ABU ?_;refine Ah ?_;refine gc (cj4 @NK.eq_1 @IU.eq_1 @Bc.row.eq_1 @B @Bc.zero.eq_1) (ae f name o) cf ?_;refine go @M ?_;exact At (cj2 u3 @H @M)
 | some s =>
   have DJ:=hz s (Se B).1;have H:KH f name ⟨K,Q⟩=if Q=0 then KX K s.sizes else decide (K=⟨#[]⟩) && (decide (0<G s.parts) && (decide (1<=Q) && decide (Q<=1000))):=by unfold KH;rw[B]
   by_cases M:Q=0
   . rw[if_pos M]at H;subst M;refine en fv ABU ?_;refine Ah ?_;refine gc (cj3 @NK.eq_1 @IU.eq_1 @Bc.row.eq_1 @B) (ae f name o) cf ?_;refine Ah ?_;refine lp (ι:={ k:Nat // k<=G s.sizes/\KX K s.sizes=KX K (s.sizes.drop k) }) (λk=>[(9,.c (.int .i64 (k.1:Int))),(6,.c (.bool U))]) (λ_=>[.box 27 f.vs U,.box 247 [.c (.str K),.c (.int .i64 0)] U,.box 74 (s.row.map V.c) U]) (λk=>G s.sizes - k.1) ⟨0,by simp⟩ ?_ ?_;all_goals simp only[CG,Bw,CO,Ag,Ai]
     exact ER @Bc.row.eq_1;rintro ⟨k,hk,S⟩;by_cases R:k<G s.sizes;obtain⟨n,hn⟩:=AI (s.sizes[k]);rw[D5 R,hn]at S;simp only[KX]at S;by_cases he:n=K;rw[if_pos he]at S;rw[S]at H;refine go (cj4 @R @hn @he @Bc.row.eq_1 @Gv.eq_1) ?_;exact At (cj u3<| @H);rw[if_neg he]at S;have hw:AZ.wrap ((k:Int)+1)=((k+1:Nat):Int):=by rw[Ac];simp
     refine go (cj5 @R @hn @he @Bc.row.eq_1 @Gv.eq_1 @hw) ?_;refine⟨⟨k+1,by omega,S⟩,by simp only;omega,?_⟩;exact ER (cj @Bc.row.eq_1<|@Gv.eq_1);have e:KX K s.sizes=false:=by rw[S,FA (by omega)];rfl
     rw[e]at H;refine go (cj2 @R @Bc.row.eq_1 @Gv.eq_1) ?_;exact At (cj u3<| @H)
   rw[if_neg M]at H;by_cases h2:K=⟨#[]⟩
   subst h2;by_cases h3:(0:Int)<(G s.parts:Int);have z:0<G s.parts:=by omega
   by_cases h4:1<=Q;refine en fv ABU ?_;refine Ah ?_;refine gc (cj3 @NK.eq_1 @IU.eq_1 @Bc.row.eq_1 @B) (ae f name o) cf ?_;refine go (cj4 @M @h3 @z @h4 @Ek.eq_1) ?_;exact At (cj3 u3 @H @z @h4);refine en fv ABU ?_;refine Ah ?_;refine gc (cj3 @NK.eq_1 @IU.eq_1 @Bc.row.eq_1 @B) (ae f name o) cf ?_;refine go (cj4 @M @h3 @z @h4 @Ek.eq_1) ?_;exact At (cj3 u3 @H @z @h4);have z : ¬0<G s.parts:=by omega
   have q:s.parts=[]:=Nr (by omega);refine en fv ABU ?_;refine Ah ?_;refine gc (cj3 @NK.eq_1 @IU.eq_1 @Bc.row.eq_1 @B) (ae f name o) cf ?_;refine go (cj2 @M @q @Ek.eq_1) ?_;exact At (cj2 u3 @H @q);refine en fv ABU ?_;refine Ah ?_;refine gc (cj3 @NK.eq_1 @IU.eq_1 @Bc.row.eq_1 @B) (ae f name o) cf ?_;refine go (cj @M<|@h2) ?_;exact At (cj2 u3 @H @h2)
theorem AjQ {f:AP}(z:f.valid=I){s:Bc}(o:s∈f.C5):∀q∈s.parts,∃g,f.find q.name=J g:=by
 have h:=Z9 z s o;simp only[Oh,Ak]at h;obtain⟨⟨_,_,_⟩,_,H⟩:=h;intro q K;have S : ¬s.parts=[]:=λe=>by rw[e]at K;cases K
 rw[if_neg S]at H;unfold du at H;cases M:OW f.ht 60000 U s.parts with
 | none=>rw[M]at H;cases H
 | some x=>obtain⟨b,e⟩:=x;obtain⟨_,B⟩:=AJM _ _ _ _ _ _ M;obtain⟨h,Q,_⟩:=B q K;simp only[AP.ht,Ia]at Q;obtain⟨g,R,_⟩:=Q;exact⟨g,R⟩
theorem AXc (f:AP)(s:Bc)(r:Int)(hf:f.Fit)(hv:f.valid=I)(hs:s∈f.C5)(HP:1<=r)(G9:r<=1000)(hp:s.parts≠[]):AC AF 299 [.agg f.vs,IU s,.c (.int .i64 r)] (.c (.int .i64 (LO f s r))):=by
 obtain⟨_,_,g3,g4,g5,g6⟩:=QG hv hs;have A0:=AjQ hv hs;have A5:=Z8 hv;have A3:0<G s.parts:=Kr.2 hp;have hT:LO f s r=(M3 f r 0 0 s.parts).1 - ((M3 f r 0 0 s.parts).2 - 1)*s.Dc:=F;unfold IU;refine AC.intro UJ rfl ?_;simp only[ntmps299,Ap,BB,BA,BO,Nat.reduceAdd,Nat.reduceSub,BY,Cy,BK,BU,Bc.row];refine Ah ?_;refine lp (ι:={ q:Nat×Int×Int // q.1<=G s.parts/\M3 f r 0 0 s.parts=M3 f r q.2.1 q.2.2 (s.parts.drop q.1)/\ -(40000000*(q.1:Int))<=q.2.1/\q.2.1<=40000000*(q.1:Int)/\(q.1:Int)<=q.2.2/\q.2.2<=1000*(q.1:Int) }) (λq=>[(9,.c (.int .i64 (q.1.1:Int))),(7,.c (.int .i64 (q.1.2.1 - q.1.2.2*s.Dc))),(8,.c (.int .i64 q.1.2.2)),(6,.c (.int .i64 0))]) (λ_=>[.box 27 f.vs U,.box 74 (s.row.map V.c) U]) (λq=>G s.parts - q.1.1) ⟨(0,0,0),by simp⟩ ?_ ?_;all_goals simp only[CG,Bw,CO,Ag,Ai]
 exact ER @Bc.row.eq_1;rintro ⟨⟨k,M,B⟩,hk,K,b1,b2,b3,b4⟩;simp only at hk K b1 b2 b3 b4 ⊢;have zh:=Qh s.Dc B 60000 8000 (by omega) g5 (by omega) (by omega);rw[fu s.Dc B]at zh;by_cases H:k<G s.parts;obtain⟨q,z⟩:=AI (s.parts[k]);rw[D5 H,z]at K;simp only[M3]at K;obtain⟨g,S⟩:=A0 s.parts[k] (Kq H);rw[z]at S;obtain⟨e1,e2,e3⟩:=ADk A5 S;rw[AjR S]at K;obtain⟨t1,t2⟩:=AB4 HP G9 q;have hw:AZ.wrap ((k:Int)+1)=((k+1:Nat):Int):=by rw[Ac];simp
 have w1:AZ.wrap (g.Dy - s.Dc)=g.Dy - s.Dc:=Ac;have m1:=Qh (g.Dy - s.Dc) (times r q) 100000 1000 (by omega) (by omega) (by omega) t2;rw[fu (g.Dy - s.Dc)]at m1;have m2:=Qh g.Dy (times r q) 40000 1000 (by omega) (by omega) (by omega) t2;rw[fu g.Dy]at m2;have o:AZ.wrap (times r q*(g.Dy - s.Dc))=times r q*(g.Dy - s.Dc):=Ac;have R:AZ.wrap (M - B*s.Dc+times r q*(g.Dy - s.Dc))=M - B*s.Dc+times r q*(g.Dy - s.Dc):=Ac;have w4:AZ.wrap (B+times r q)=B+times r q:=Ac;have Q:M - B*s.Dc+times r q*(g.Dy - s.Dc)=(M+times r q*g.Dy) - (B+times r q)*s.Dc:=by rw[Int.mul_sub,Int.add_mul];omega
 rw[Q]at R;have A2:=Q;cases hx:q.ext with
 | true =>
   have ht:times r q=r:=by simp[times,hx]
   rw[ht]at o R w4 K m2 t1 t2 Q;refine go (cj5 @H @z @Bc.row.eq_1 @Ek.eq_1 @CR.row.eq_1 @hx) ?_;refine gc (cj2 @YK.eq_1 @S @BG.row.eq_1) (L5 f q.name hf.gl) L6 ?_;refine go @Bc.row.eq_1 ?_;refine gc (cj6 @e3 @Hg.eq_1 @BG.row.eq_1 @w1 @o @Q @R) (Y0 g) nB ?_;refine go (cj @w4<|@hw) ?_;refine⟨⟨(k+1,M+r*g.Dy,B+r),by omega,K,by simp only;omega,by simp only;omega,by simp only;omega,by simp only;omega⟩,by simp only;omega,?_⟩;refine Le.MI 2 (F2 F) (by simp[DG,Bc.row,Ek]) (by simp[Bc.row,Ek]) (by simp[V.BI,V.A8]) (by simp[O.A8,V.BI,V.A8,Bc.row,Ek])
 | false =>
   have ht:times r q=1:=by simp[times,hx]
   rw[ht]at o R w4 K m2 t1 t2 Q;simp only[Int.one_mul]at o R Q K m2;refine go (cj5 @H @z @Bc.row.eq_1 @Ek.eq_1 @CR.row.eq_1 @hx) ?_;refine gc (cj2 @YK.eq_1 @S @BG.row.eq_1) (L5 f q.name hf.gl) L6 ?_;refine go @Bc.row.eq_1 ?_;refine gc (cj6 @e3 @Hg.eq_1 @BG.row.eq_1 @w1 @o @Q @R) (Y0 g) nB ?_;refine go (cj @w4<|@hw) ?_;refine⟨⟨(k+1,M+g.Dy,B+1),by omega,K,by simp only;omega,by simp only;omega,by simp only;omega,by simp only;omega⟩,by simp only;omega,?_⟩;refine Le.MI 2 (F2 F) (by simp[DG,Bc.row,Ek]) (by simp[Bc.row,Ek]) (by simp[V.BI,V.A8]) (by simp[O.A8,V.BI,V.A8,Bc.row,Ek])
 have e:M3 f r 0 0 s.parts=(M,B):=by rw[K,FA (by omega)];rfl
 have A1 : ¬B=0:=by omega
 have hR:LO f s r=M - B*s.Dc+s.Dc:=by rw[hT,e];simp only[Int.sub_mul];omega
 have w1:AZ.wrap (M - B*s.Dc+s.Dc)=M - B*s.Dc+s.Dc:=Ac;refine go (cj4 @H @Bc.row.eq_1 @Ek.eq_1 @A1 @w1) ?_;exact At (cj results299<| @hR)
theorem ee {n p:Int}(B : -1073741824<=n)(H:n<=1073741824)(K:0<=p)(M:p<=10000):AC AF 263 [.c (.int .i64 n),.c (.int .i64 p)] (.c (.int .i64 (AU n p))):=by
 rw[<-ABa B H K M];exact Ajo n p (by omega) (by omega) (by omega) (by omega)
theorem Ajv (f:AP)(name g:ByteArray)(p:Int)(Q:f.Fit)(R:f.valid=I)(K:1<=p)(M:p<=100):AC AF 300 [.agg f.vs,.c (.str name),.agg [.c (.str g),.c (.int .i64 0)],.c (.int .i64 p)] (.c (.int .i64 (XV f g p))):=by
 have B:=AZk f g p Q.gl;have H:=Anq R K M g;generalize q:(DB f g p).1=b at B H;obtain⟨k,n,s,w,h,d,x,y,S,o,src⟩:=b;simp only[Ao,AA.row,Ap,BB]at B H;refine en func300 ntmps300 ?_;refine Ah ?_;refine BZ (B) AKB ?_;refine go @H ?_;exact At results300
theorem Amj (f:AP)(name:ByteArray)(B p:Int)(R:f.Fit):AC AF 289 [.agg f.vs,.c (.str name),.c (.int .i64 B),.c (.int .i64 p)] (ls (ec f name B p)):=by
 by_cases hc:JF f p=0
 . have hk:=hc;unfold JF at hk;have hv:f.valid=true:=by cases h:f.valid<;>simp[h]at hk;rfl
   have S:1<=p/\p<=100:=by
    rw[if_neg (by simp[hv])]at hk;split at hk<;>omega
   have M:ec f name B p=(J2 f name B p,0):=by unfold ec;rw[if_neg (by simp[hc])]
   cases Q:f.I8 name with
   | none =>
     have YU:J2 f name B p=⟨name,0⟩:=by unfold J2;rw[Q]
     rw[YU]at M;refine en AKC ntmps289 ?_;refine Ah ?_;refine gc (cj @hc<|@AR.eq_1) (x5 f p R) cv ?_;refine Ah ?_;refine gc (cj4 @NK.eq_1 @IU.eq_1 @Bc.row.eq_1 @Q @Bc.zero.eq_1) (ae f name R.sl) cf ?_;refine Ah ?_;exact At (cj4 AGX @M @ls.eq_1 @N4.eq_1 @AR.eq_1)
   | some s =>
     have hs:=(Se Q).1;have hG:=QG hv hs;obtain⟨g1,g2,g3,g4,g5,g6⟩:=hG;have YU:J2 f name B p=WA f s B p:=by unfold J2;rw[Q]
     rw[YU]at M;clear YU hk;refine en AKC ntmps289 ?_;refine Ah ?_;refine gc (cj @hc<|@AR.eq_1) (x5 f p R) cv ?_;refine Ah ?_;refine gc (cj3 @NK.eq_1 @IU.eq_1 @Bc.row.eq_1 @Q) (ae f name R.sl) cf ?_;refine Ah ?_;refine lp (ι:={ k:Nat // k<=G s.sizes/\TG f p B s.sizes=TG f p B (s.sizes.drop k) }) (λk=>[(13,.c (.int .i64 (k.1:Int))),(9,.c (.int .i64 0))]) (λ_=>[.box 27 f.vs U,.box 247 [.c (.str ⟨#[]⟩),.c (.int .i64 0)] U,.box 74 (s.row.map V.c) U]) (λk=>G s.sizes - k.1) ⟨0,by simp⟩ ?_ ?_;all_goals simp only[CG,Bw,CO,Ag,Ai]
     exact ER @Bc.row.eq_1
     . rintro ⟨k,Ce,z⟩;by_cases H:k<G s.sizes;obtain⟨n,K⟩:=AI (s.sizes[k]);rw[D5 H,K]at z;simp only[TG]at z;by_cases he:B<=XV f n p;rw[if_pos he]at z;have q:ec f name B p=(⟨n,0⟩,0):=by rw[M];unfold WA;rw[z]
       refine go (cj3 @H @K @Bc.row.eq_1 @Gv.eq_1) ?_;refine gc @he (Ajv f name n p R hv S.1 S.2) func300 ?_;refine go (cj4 @H @K @he @Bc.row.eq_1 @Gv.eq_1) ?_;exact At (cj4 AGX @q @ls.eq_1 @N4.eq_1 @AR.eq_1);rw[if_neg he]at z;have hw:AZ.wrap ((k:Int)+1)=((k+1:Nat):Int):=by rw[Ac];simp
       refine go (cj3 @H @K @Bc.row.eq_1 @Gv.eq_1) ?_;refine gc @he (Ajv f name n p R hv S.1 S.2) func300 ?_;refine go (cj5 @H @K @he @Bc.row.eq_1 @Gv.eq_1 @hw) ?_;refine⟨⟨k+1,by omega,z⟩,by simp only;omega,?_⟩;exact ER (cj @Bc.row.eq_1<|@Gv.eq_1)
       . have e:TG f p B s.sizes=none:=by rw[z,FA (by omega)];rfl
         have q:WA f s B p=if s.parts=[]then⟨s.sizes.getD (G s.sizes - 1) ⟨#[]⟩,0⟩else⟨⟨#[]⟩,LM f s p B 999⟩:=by unfold WA;rw[e]
         by_cases o:s.parts=[]
         rw[if_pos o]at q;obtain⟨m,hm⟩:∃m,G s.sizes=m+1:=⟨G s.sizes - 1,by omega⟩
         have A0:m<G s.sizes:=by omega
         obtain⟨n,K⟩:=AI (s.sizes[m]);have hw:AZ.wrap ((G s.sizes:Int) - 1)=(m:Int):=by rw[Ac];omega
         have hg:s.sizes.getD (G s.sizes - 1) ⟨#[]⟩=n:=by rw[hm];simp[List.getD,A0,K]
         rw[hg]at q;rw[q]at M;refine go (cj7 @H @o @Bc.row.eq_1 @Gv.eq_1 @Ek.eq_1 @hw @A0 @K) ?_;exact At (cj4 AGX @M @ls.eq_1 @N4.eq_1 @AR.eq_1)
         . rw[if_neg o]at q;have A1 : ¬G s.parts=0:=by simpa using o
           rw[q]at M;refine go (cj5 @H @o @A1 @Bc.row.eq_1 @Gv.eq_1 @Ek.eq_1) ?_;refine lp (ι:={ r:Int // 1<=r/\r<=1000/\LM f s p B 999=LM f s p B (1000 - r).toNat }) (λr=>[(14,.c (.int .i64 r.1))]) (λ_=>[.box 27 f.vs U,.box 247 [.c (.str ⟨#[]⟩),.c (.int .i64 0)] U,.box 74 (s.row.map V.c) U]) (λr=>(1000 - r.1).toNat) ⟨1,by simp⟩ ?_ ?_;all_goals simp only[CG,Bw,CO,Ag,Ai]
           exact ER @Bc.row.eq_1;rintro ⟨r,r1,r2,hS⟩;by_cases hr:r<1000;rw[AZF f s p B r r1 hr]at hS;obtain⟨b1,b2⟩:=AB3 hv hs r1 r2;by_cases K:B<=AU (LO f s r) p;rw[if_pos K]at hS;rw[hS]at M;have F6 : ¬AU (LO f s r) p<B:=by omega
           refine go (cj @hr<|@Bc.row.eq_1) ?_;refine gc (cj2 @IU.eq_1 @Bc.row.eq_1 @hr) (AXc f s r R hv hs r1 r2 o) UJ ?_;refine gc (cj @F6<|@K) (ee (n:=LO f s r) (p:=p) (by omega) (by omega) (by omega) (by omega)) Sa ?_;refine go (cj @K<|@F6) ?_;exact At (cj4 AGX @M @ls.eq_1 @N4.eq_1 @AR.eq_1);rw[if_neg K]at hS;have F6:AU (LO f s r) p<B:=by omega
           have hw:AZ.wrap (r+1)=r+1:=Ac;refine go (cj @hr<|@Bc.row.eq_1) ?_;refine gc (cj2 @IU.eq_1 @Bc.row.eq_1 @hr) (AXc f s r R hv hs r1 r2 o) UJ ?_;refine gc (cj @F6<|@K) (ee (n:=LO f s r) (p:=p) (by omega) (by omega) (by omega) (by omega)) Sa ?_;refine go (cj2 @K @F6 @hw) ?_;refine⟨⟨r+1,by omega,by omega,hS⟩,by simp only;omega,?_⟩;exact ER @Bc.row.eq_1;have e1:r=1000:=by omega
           subst e1;have e2:LM f s p B (1000 - 1000:Int).toNat=1000:=F;rw[e2]at hS;rw[hS]at M;refine go @Bc.row.eq_1 ?_;exact At (cj4 AGX @M @ls.eq_1 @N4.eq_1 @AR.eq_1)
 have M:ec f name B p=(⟨⟨#[]⟩,0⟩,JF f p):=by unfold ec;rw[if_pos (by simp[hc])]
 refine en AKC ntmps289 ?_;refine Ah ?_;refine gc @AR.eq_1 (x5 f p R) cv ?_;refine go @hc ?_;exact At (cj4 AGX @M @ls.eq_1 @N4.eq_1 @AR.eq_1)
theorem Amf (f:AP)(s:Bc)(r p:Int)(hf:f.Fit)(hv:f.valid=I)(hs:s∈f.C5)(HP:1<=r)(G9:r<=1000)(G8:1<=p)(HN:p<=100)(hp:s.parts≠[]):AC AF 288 [.agg f.vs,IU s,.c (.int .i64 r),.c (.int .i64 p)] (Ao (V4 f s r p)):=by
 obtain⟨_,_,g3,g4,g5,g6⟩:=QG hv hs;have A3:=AjQ hv hs;have A5:=Z8 hv;have B3:0<G s.parts:=Kr.2 hp;obtain⟨B0,B1⟩:=AB3 hv hs HP G9;have B2:=sH HP G9 s.parts;have hR:Ao (V4 f s r p)=.agg [.c (.int .i64 3),.c (.str ⟨#[]⟩),.c (.int .i64 0),.c (.int .i64 (IS 0 (Gp f s.Dc p 0 (JR r s.parts)))),.c (.int .i64 (AU (LO f s r) p)),.c (.int .i64 0),.c (.int .i64 0),.c (.int .i64 0),.c (.sl (AA.AG (Gp f s.Dc p 0 (JR r s.parts)))),.c (.int .i64 0),.c (.sl [])]:=by simp[Ao,V4,AA.row,AV]
 rw[hR];clear hR;obtain⟨ALL,A1⟩:=AI (Gp f s.Dc p 0 (JR r s.parts));rw[A1];have yS:=AXc f s r hf hv hs HP G9 hp;generalize hT:LO f s r=T at yS B0 B1 ⊢;unfold IU at yS ⊢;refine AC.intro func288 rfl ?_;simp only[ntmps288,Ap,BB,BA,BO,Nat.reduceAdd,Nat.reduceSub,BY,Cy,BK,BU,Bc.row];refine Ah ?_;refine gc @Bc.row.eq_1 (yS) UJ ?_;refine BZ (ee (n:=T) (p:=p) (by omega) (by omega) (by omega) (by omega)) Sa ?_;refine Ah ?_;refine AW.le (Le.T4 3 8 41 11 rfl F) ?_;simp only[BA,BO,Nat.reduceAdd,Ag,Ai,BK,BU];refine lp (ι:={ q:Nat×Int×List AA // q.1<=G s.parts/\ALL=q.2.2++Gp f s.Dc p q.2.1 (JR r (s.parts.drop q.1))/\0<=q.2.1/\q.2.1<=40000*(q.2.2.length:Int)/\q.2.2.length+G (JR r (s.parts.drop q.1))<=8000 }) (λq=>[(11,.c (.int .i64 (q.1.1:Int))),(10,.c (.int .i64 q.1.2.1))]) (λq=>[.box 27 f.vs U,.box 74 (s.row.map V.c) U,.box 41 BT U,.box 41 (Nf (IS 0 q.1.2.2) (AU T p) (.gr 4 11 (AA.AG q.1.2.2))) U,.tok 41 11 q.1.2.2.length]) (λq=>G s.parts - q.1.1) ⟨(0,0,[]),by simp[A1];omega⟩ ?_ ?_;all_goals simp only[CG,Bw,CO,Ag,Ai]
 exact ER (cj6 @Bc.row.eq_1 @BT.eq_1 @Nf.eq_1 @IS.eq_1 @IS.eq_2 @AA.AG.eq_1 @AA.AG.eq_2)
 . rintro ⟨⟨k,b,K⟩,hk,H,o,b2,Q⟩;simp only at hk H o b2 Q ⊢;by_cases R:k<G s.parts
   . obtain⟨q,hq⟩:=AI (s.parts[k]);have U5:q∈s.parts:=hq ▸ Kq R;have A9:=g6 q U5;obtain⟨g,hg⟩:=A3 q U5;obtain⟨e1,e2,e3⟩:=ADk A5 hg;have KZ:=AjR hg;rw[KZ]at A9;rw[D5 R,hq]at H Q;simp only[JR,Cp,H6]at H Q;obtain⟨t1,t2⟩:=AB4 HP G9 q;have hw:AZ.wrap ((k:Int)+1)=((k+1:Nat):Int):=by rw[Ac];simp
     have hc:=AZk f q.name p hf.gl;have YR : ∃B,(DB f q.name p).1=B/\ -200000<=B.d/\B.d<=200000:=by
      refine⟨_,F,?_⟩;rw[(Pk hv G8 HN q.name).1];have:=Zv hv G8 HN q.name;simp only[N7];omega
     obtain⟨⟨bk,bn,bs,S,bh,M,bx,Bq,EU,bo,Et⟩,hB,A6,A7⟩:=YR;have yK : ∀z,kt f p z q=⟨bk,bn,bs,S,bh,M,bx,AU z p+M,EU,bo,Et⟩:=by intro z;simp only[kt,hB]
     rw[hB]at hc;simp only[Ao,AA.row,Ap,BB]at hc A6 A7;have A2:AZ.wrap (g.Dy - s.Dc)=g.Dy - s.Dc:=Ac;cases hx:q.ext with
     | true =>
       have ht:times r q=r:=by simp[times,hx]
       rw[ht]at H Q t1 t2;refine go (cj5 @R @hq @Bc.row.eq_1 @Ek.eq_1 @CR.row.eq_1 @hx) ?_;refine gc (cj2 @YK.eq_1 @hg @BG.row.eq_1) (L5 f q.name hf.gl) L6 ?_;refine Ah ?_;refine lp (ι:={ x:Int×Int×List AA // 0<=x.1/\x.1<=r/\ALL=x.2.2++Gp f s.Dc p x.2.1 (Aq (r - x.1).toNat q++JR r (s.parts.drop (k+1)))/\0<=x.2.1/\x.2.1<=40000*(x.2.2.length:Int)/\x.2.2.length+((r - x.1).toNat+G (JR r (s.parts.drop (k+1))))<=8000 }) (λx=>[(15,.c (.int .i64 x.1.1)),(10,.c (.int .i64 x.1.2.1))]) (λx=>[.box 27 f.vs U,.box 74 (s.row.map V.c) U,.box 41 BT U,.box 41 (Nf (IS 0 x.1.2.2) (AU T p) (.gr 4 11 (AA.AG x.1.2.2))) U,.tok 41 11 x.1.2.2.length,.box 54 (g.row.map V.c) U]) (λx=>(r - x.1.1).toNat) ⟨(0,b,K),by simp only[Aa3];exact⟨by omega,by omega,H,o,b2,Q⟩⟩ ?_ ?_;all_goals simp only[CG,Bw,CO,Ag,Ai]
       exact ER (cj @Bc.row.eq_1<|@BG.row.eq_1);clear H o b2 Q;rintro ⟨⟨j,b,K⟩,j1,j2,H,o,b2,Q⟩;simp only at j1 j2 H o b2 Q ⊢;by_cases hj:j<r;have hd:(r - j).toNat=(r - (j+1)).toNat+1:=by omega
       rw[hd]at H Q;simp only[BY,BK,Gp,yK,KZ]at H;have Y2:=AKe (n:=b) (p:=p) (by omega) (by omega) (by omega) (by omega);have PC:AZ.wrap (j+1)=j+1:=Ac;have A0:AZ.wrap (AU b p+M)=AU b p+M:=Ac;have Ws:AZ.wrap (b+(g.Dy - s.Dc))=b+(g.Dy - s.Dc):=Ac;have FO:G K+1<=maxLen:=by unfold maxLen;omega
       have EX:(G K+1)*128<=140737488355328:=by omega
       have Bn:AA.AG (K++[⟨bk,bn,bs,S,bh,M,bx,AU b p+M,EU,bo,Et⟩])=AA.AG K++[[.int .i64 bk,.str bn,.int .i64 bs,.int .i64 S,.int .i64 bh,.int .i64 M,.int .i64 bx,.int .i64 (AU b p+M),.sl (AA.AG EU),.int .i64 bo,AV Et]]:=by rw[lG];rfl
       have l9:IS 0 (K++[⟨bk,bn,bs,S,bh,M,bx,AU b p+M,EU,bo,Et⟩])=if IS 0 K<S then S else IS 0 K:=by rw[AIZ];rfl
       refine go (cj5 @hj @R @hq @Bc.row.eq_1 @Ek.eq_1 @CR.row.eq_1) ?_;refine BZ (hc) AKB ?_;refine Ah ?_;refine gc @A0 (ee (n:=b) (p:=p) (by omega) (by omega) (by omega) (by omega)) Sa ?_;refine go (cj3 @Nf.eq_1 @FO @EX @BG.row.eq_1) ?_;refine gc (cj5 @e3 @Hg.eq_1 @BG.row.eq_1 @A2 @Ws @Bc.row.eq_1) (Y0 g) nB ?_;refine go @PC ?_;refine⟨⟨(j+1,b+(g.Dy - s.Dc),K++[⟨bk,bn,bs,S,bh,M,bx,AU b p+M,EU,bo,Et⟩]),by simp only;omega,by simp only;omega,by simpa using H,by simp only;omega,by simp;omega,by simp;omega⟩,by simp only;omega,?_⟩;refine Le.MI 6 (F2 F) (by simp[DG,Bc.row,Ek,BG.row,Nf,Bn,l9,BT]) (by simp[Bc.row,Ek,BG.row,Nf,Bn,l9,BT]) (by simp[V.BI,V.A8]) (by simp[O.A8,V.BI,V.A8,Bc.row,Ek,BG.row,Nf,Bn,l9,BT]);have hd:(r - j).toNat=0:=by omega
       rw[hd]at H Q;simp only[Cy,BU,Cz]at H Q;refine go (cj @hj<|@hw) ?_;refine⟨⟨(k+1,b,K),by omega,H,o,b2,Q⟩,by simp only;omega,?_⟩;refine Le.MI 5 (F2 F) (by simp[DG,Bc.row,Ek,Nf,BT]) (by simp[Bc.row,Ek,Nf,BT]) (by simp[V.BI,V.A8]) (by simp[O.A8,V.BI,V.A8,Bc.row,Ek,Nf,BT])
     | false =>
       have ht:times r q=1:=by simp[times,hx]
       rw[ht]at H Q t1 t2;refine go (cj5 @R @hq @Bc.row.eq_1 @Ek.eq_1 @CR.row.eq_1 @hx) ?_;refine gc (cj2 @YK.eq_1 @hg @BG.row.eq_1) (L5 f q.name hf.gl) L6 ?_;refine Ah ?_;refine lp (ι:={ x:Int×Int×List AA // 0<=x.1/\x.1<=1/\ALL=x.2.2++Gp f s.Dc p x.2.1 (Aq (1 - x.1).toNat q++JR r (s.parts.drop (k+1)))/\0<=x.2.1/\x.2.1<=40000*(x.2.2.length:Int)/\x.2.2.length+((1 - x.1).toNat+G (JR r (s.parts.drop (k+1))))<=8000 }) (λx=>[(15,.c (.int .i64 x.1.1)),(10,.c (.int .i64 x.1.2.1))]) (λx=>[.box 27 f.vs U,.box 74 (s.row.map V.c) U,.box 41 BT U,.box 41 (Nf (IS 0 x.1.2.2) (AU T p) (.gr 4 11 (AA.AG x.1.2.2))) U,.tok 41 11 x.1.2.2.length,.box 54 (g.row.map V.c) U]) (λx=>(1 - x.1.1).toNat) ⟨(0,b,K),by simp only[Aa3];exact⟨by omega,by omega,H,o,b2,Q⟩⟩ ?_ ?_;all_goals simp only[CG,Bw,CO,Ag,Ai]
       exact ER (cj @Bc.row.eq_1<|@BG.row.eq_1);clear H o b2 Q;rintro ⟨⟨j,b,K⟩,j1,j2,H,o,b2,Q⟩;simp only at j1 j2 H o b2 Q ⊢;by_cases hj:j<1;have hd:(1 - j).toNat=(1 - (j+1)).toNat+1:=by omega
       rw[hd]at H Q;simp only[BY,BK,Gp,yK,KZ]at H;have Y2:=AKe (n:=b) (p:=p) (by omega) (by omega) (by omega) (by omega);have PC:AZ.wrap (j+1)=j+1:=Ac;have A0:AZ.wrap (AU b p+M)=AU b p+M:=Ac;have Ws:AZ.wrap (b+(g.Dy - s.Dc))=b+(g.Dy - s.Dc):=Ac;have FO:G K+1<=maxLen:=by unfold maxLen;omega
       have EX:(G K+1)*128<=140737488355328:=by omega
       have Bn:AA.AG (K++[⟨bk,bn,bs,S,bh,M,bx,AU b p+M,EU,bo,Et⟩])=AA.AG K++[[.int .i64 bk,.str bn,.int .i64 bs,.int .i64 S,.int .i64 bh,.int .i64 M,.int .i64 bx,.int .i64 (AU b p+M),.sl (AA.AG EU),.int .i64 bo,AV Et]]:=by rw[lG];rfl
       have l9:IS 0 (K++[⟨bk,bn,bs,S,bh,M,bx,AU b p+M,EU,bo,Et⟩])=if IS 0 K<S then S else IS 0 K:=by rw[AIZ];rfl
       refine go (cj5 @hj @R @hq @Bc.row.eq_1 @Ek.eq_1 @CR.row.eq_1) ?_;refine BZ (hc) AKB ?_;refine Ah ?_;refine gc @A0 (ee (n:=b) (p:=p) (by omega) (by omega) (by omega) (by omega)) Sa ?_;refine go (cj3 @Nf.eq_1 @FO @EX @BG.row.eq_1) ?_;refine gc (cj5 @e3 @Hg.eq_1 @BG.row.eq_1 @A2 @Ws @Bc.row.eq_1) (Y0 g) nB ?_;refine go @PC ?_;refine⟨⟨(j+1,b+(g.Dy - s.Dc),K++[⟨bk,bn,bs,S,bh,M,bx,AU b p+M,EU,bo,Et⟩]),by simp only;omega,by simp only;omega,by simpa using H,by simp only;omega,by simp;omega,by simp;omega⟩,by simp only;omega,?_⟩;refine Le.MI 6 (F2 F) (by simp[DG,Bc.row,Ek,BG.row,Nf,Bn,l9,BT]) (by simp[Bc.row,Ek,BG.row,Nf,Bn,l9,BT]) (by simp[V.BI,V.A8]) (by simp[O.A8,V.BI,V.A8,Bc.row,Ek,BG.row,Nf,Bn,l9,BT]);have hd:(1 - j).toNat=0:=by omega
       rw[hd]at H Q;simp only[Cy,BU,Cz]at H Q;refine go (cj @hj<|@hw) ?_;refine⟨⟨(k+1,b,K),by omega,H,o,b2,Q⟩,by simp only;omega,?_⟩;refine Le.MI 5 (F2 F) (by simp[DG,Bc.row,Ek,Nf,BT]) (by simp[Bc.row,Ek,Nf,BT]) (by simp[V.BI,V.A8]) (by simp[O.A8,V.BI,V.A8,Bc.row,Ek,Nf,BT])
   have e:ALL=K:=by rw[H,FA (by omega)];simp[JR,Gp]
   subst e;refine go (cj4 @R @Bc.row.eq_1 @Ek.eq_1 @Nf.eq_1 @BT.eq_1) ?_;exact At (cj results288<| @Nf.eq_1)
theorem AjZ (f:AP)(name:ByteArray)(c:Choice)(p:Int)(K:f.Fit)(hz : ∀s∈f.C5,G s.sizes<=1000):AC AF 256 [.agg f.vs,.c (.str name),N4 c,.c (.int .i64 p)] (Ba (K5 f name c p)):=by
 obtain⟨B,H⟩:=c;by_cases M:JF f p=0;obtain⟨hv,G8,HN⟩:=AEl M;cases S:KH f name ⟨B,H⟩with
 | false =>
   have R:K5 f name ⟨B,H⟩ p=(AA.zero,8):=by unfold K5;rw[if_neg (by simp[M]),if_pos S]
   rw[R];unfold N4;refine en AKA ARH ?_;refine Ah ?_;refine gc (cj @M<|@AR.eq_1) (x5 f p K) cv ?_;refine Ah ?_;refine gc (cj @S<|@N4.eq_1) (AYL f name ⟨B,H⟩ K.sl hz) fv ?_;refine Ah ?_;exact At (cj8 aU @AR.eq_1 @Ba.eq_1 @Ao.eq_1 @AA.zero.eq_1 @AA.row.eq_1 @AA.AG.eq_1 @AA.AG.eq_2 @AV.eq_1)
 | true =>
   by_cases z:H=0;subst z;have R:K5 f name ⟨B,0⟩ p=((DB f B p).1,0):=by unfold K5;rw[if_neg (by simp[M]),if_neg (by simp[S]),if_pos rfl]
   rw[R];have Q:=AZk f B p K.gl;obtain⟨b,hq⟩:=AI ((DB f B p).1);rw[hq]at Q ⊢;obtain⟨k,n,s,w,h,d,x,y,AE,o,src⟩:=b;simp only[Ba,AR,Ao,AA.row,Ap,BB]at Q ⊢;unfold N4;refine en AKA ARH ?_;refine Ah ?_;refine gc (cj @M<|@AR.eq_1) (x5 f p K) cv ?_;refine Ah ?_;refine gc (cj @S<|@N4.eq_1) (AYL f name ⟨B,0⟩ K.sl hz) fv ?_;refine Ah ?_;refine BZ (Q) AKB ?_;refine Ah ?_;exact At aU;obtain⟨s,q,HO,r1,r2,_⟩:=AAI z S;have hs:=(Se q).1;have R:K5 f name ⟨B,H⟩ p=(V4 f s H p,0):=by unfold K5;rw[if_neg (by simp[M]),if_neg (by simp[S]),if_neg z,q];rfl
   rw[R];have Q:=Amf f s H p K hv hs r1 r2 G8 HN HO;generalize hq:V4 f s H p=b at Q ⊢;obtain⟨bk,bn,bs,bw,bh,bd,bx,Bq,AE,bo,src⟩:=b;simp only[Ba,AR,Ao,AA.row,Ap,BB]at Q ⊢;unfold N4;refine en AKA ARH ?_;refine Ah ?_;refine gc (cj @M<|@AR.eq_1) (x5 f p K) cv ?_;refine Ah ?_;refine gc (cj @S<|@N4.eq_1) (AYL f name ⟨B,H⟩ K.sl hz) fv ?_;refine go @z ?_;refine gc (cj3 @NK.eq_1 @IU.eq_1 @Bc.row.eq_1 @q) (ae f name K.sl) cf ?_;refine Ah ?_;refine gc (cj @IU.eq_1<|@Bc.row.eq_1) (Q) func288 ?_;refine Ah ?_;exact At aU
 have R:K5 f name ⟨B,H⟩ p=(AA.zero,JF f p):=by unfold K5;rw[if_pos (by simp[M])]
 rw[R];unfold N4;refine en AKA ARH ?_;refine Ah ?_;refine gc @AR.eq_1 (x5 f p K) cv ?_;refine go @M ?_;exact At (cj8 aU @AR.eq_1 @Ba.eq_1 @Ao.eq_1 @AA.zero.eq_1 @AA.row.eq_1 @AA.AG.eq_1 @AA.AG.eq_2 @AV.eq_1)
theorem Ajd (f:AP)(name:ByteArray)(H p:Int)(z:f.Fit)(hz : ∀s∈f.C5,G s.sizes<=1000):AC AF 261 [.agg f.vs,.c (.str name),.c (.int .i64 H),.c (.int .i64 p)] (Ba (Hv f name H p)):=by
 have B:=Amj f name H p z;by_cases K:JF f p=0;have R:Hv f name H p=K5 f name (J2 f name H p) p:=by unfold Hv;rw[if_neg (by simp[K])]
 have Q:ec f name H p=(J2 f name H p,0):=by unfold ec;rw[if_neg (by simp[K])]
 rw[R];rw[Q]at B;generalize A0:J2 f name H p=c at B ⊢;obtain⟨S,o⟩:=c;simp only[ls,N4,AR]at B;have M:=AjZ f name ⟨S,o⟩ p z hz;generalize hq:K5 f name ⟨S,o⟩ p=q at M ⊢;obtain⟨⟨bk,bn,bs,bw,bh,bd,bx,Bq,AE,bo,src⟩,e⟩:=q;simp only[N4,Ba,AR,Ao,AA.row,Ap,BB]at M ⊢;refine en AQc ntmps261 ?_;refine Ah ?_;refine BZ (B) AKC ?_;refine Ah ?_;refine BZ (M) AKA ?_;refine Ah ?_;exact At ADM;have R:Hv f name H p=(AA.zero,JF f p):=by unfold Hv;rw[if_pos (by simp[K])]
 have Q:ec f name H p=(⟨⟨#[]⟩,0⟩,JF f p):=by unfold ec;rw[if_pos (by simp[K])]
 rw[R];rw[Q]at B;simp only[ls,N4,AR]at B;refine en AQc ntmps261 ?_;refine Ah ?_;refine BZ (B) AKC ?_;refine go @K ?_;exact At (cj8 ADM @AR.eq_1 @Ba.eq_1 @Ao.eq_1 @AA.zero.eq_1 @AA.row.eq_1 @AA.AG.eq_1 @AA.AG.eq_2 @AV.eq_1)
end Go.Proofs.YtglaipbdiofkfaaGreat
