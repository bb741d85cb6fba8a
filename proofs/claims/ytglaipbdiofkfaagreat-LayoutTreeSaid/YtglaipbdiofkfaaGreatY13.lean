/- Part of the proof of some laws. Conditions: none. -/
import Derived.Laws.StructEq
import Derived.Test.YtglaipbdiofkfaaGreatY8
import Derived.Test.YtglaipbdiofkfaaGreatY10
set_option linter.unusedVariables false
set_option linter.unusedSimpArgs false
set_option maxRecDepth 100000
set_option maxHeartbeats 16000000
open Go.Proofs.Tryz renaming prog→AF,underlying9→Lb,underlying3→Fo,func226→th,ntmps226→ARA,func37→DC,results226→ASC,func229→AFr,func281→AQf,func294→AKD,func140→e9,results233→ANr,func52→ID,func271→nn,ntmps271→AGI,results271→AGW,func227→AIo,results227→Abk,func143→AQP,func152→AHi,func302→uq,underlying165→AcE,underlying87→AcG,results241→GY
open Go.IntKind renaming i64→AZ
open List renaming map_cons→Ap,map_nil→BB,length_cons→BA,length_nil→BO,replicate_succ→BY,replicate_zero→Cy,cons_append→BK,nil_append→BU,foldl_cons→Bw,foldl_nil→CO,set_cons_zero→Ag,set_cons_succ→Ai,drop_eq_getElem_cons→D5,drop_of_length_le→FA,eq_nil_of_length_eq_zero→Nr,drop_succ_cons→CU,drop_zero→B9,replicate→Aq,finRange→ACu,take_succ_eq_append_getElem→UD,flatMap_append→AMd,take_of_length_le→Gl,length_append→Cp,length_replicate→H6,replicate_succ'→Sj,append_assoc→GX,length_map→Ch,length_take→Fa,eq_of_mem_replicate→UA,mem_map→Da,flatten_cons→Hp,map_append→Fm,flatten_append→Vd,mem_append→MJ,mem_flatten→gA,mem_cons→Cf,mem_singleton→LY,map→Vf,take_length→Sn,flatten_nil→RC,append_nil→E5,map_map→M7,mem_cons_self→GH,mem_cons_of_mem→Gk,length_pos_iff→Kr,getElem_mem→Kq,mem_of_getElem?→Cj,getElem?_eq_getElem→BE
open Int renaming mul_comm→fu,natCast_zero→AMX,mul_nonneg→RB
open Nat renaming le_of_ble_eq_true→F2,min_eq_left→Vi,le_of_lt→LZ,sub_self→La,zero_le→CI,le_refl→BN
open Array renaming toList_inj→Gx,getD_eq_getD_getElem?→Kl,getElem?_toList→VZ,toList_push→AMP
open Go.Op renaming operands→Bl
open Go.Call renaming operands→Df
open Option.some renaming injEq→BL,inj→ML
open Go.Instr renaming findAsking→fj,findKey→ACk,lookup→fk,mapUpdate→mJ
open Array.mk renaming injEq→ACd
open List.cons renaming injEq→Vb
open Go.Value.string renaming injEq→AM3
open Go.MapKept renaming run_getObj_map→ACz
open Option renaming some→J,none→E
open Bool renaming false→U,true→I
open List renaming length→G
namespace Go.Proofs.YtglaipbdiofkfaaGreat
open Go.RowKit Tryz
variable {fuel:Nat}{s:ByteArray}{i:Nat}{M:ByteArray->Int->Bool}(r:Int)(n:Nat)(l:List CR)(k:Nat)
section
variable {H:Type} {enc:TypeId×Value->H} {w:World}
theorem AVb :Dq enc AF w fuel 54 BG.row (λg=>g.name.size<=maxLen):=by
 cases fuel with
 | zero=>exact Dq.zero
 | succ fuel=>exact(VJ underlying54 (by kernel_rfl) (C6.cons (o:=0) (o':=1) rfl (by kernel_rfl) (by decide) (Zf Lb) (C6.cons (o:=1) (o':=2) rfl (by kernel_rfl) (by decide) (Ge Fo) (C6.cons (o:=2) (o':=3) rfl (by kernel_rfl) (by decide) (Ge Fo) (C6.cons (o:=3) (o':=4) rfl (by kernel_rfl) (by decide) (Ge Fo) (C6.cons (o:=4) (o':=5) rfl (by kernel_rfl) (by decide) (Ge Fo) (C6.cons (o:=5) (o':=6) rfl (by kernel_rfl) (by decide) (Ge Fo) (C6.nil)))))))).conv (λq=>⟨q.1,q.2.1,q.2.2.1,q.2.2.2.1,q.2.2.2.2.1,q.2.2.2.2.2.1⟩) (λq=>rfl) (λq h=>h.1)
theorem AVf :Dq enc AF w fuel 152 CR.row (λ_=>True):=by
 cases fuel with
 | zero=>exact Dq.zero
 | succ fuel=>exact(VJ underlying152 (by kernel_rfl) (C6.cons (o:=0) (o':=1) rfl (by kernel_rfl) (by decide) (Zf Lb) (C6.cons (o:=1) (o':=2) rfl (by kernel_rfl) (by decide) (AAw underlying4) (C6.nil)))).conv (λq=>⟨q.1,q.2.1⟩) (λq=>rfl) (λq h=>trivial)
theorem AVh :Dq enc AF w fuel 71 (λl:List ByteArray=>[.sl (l.map λs=>[.str s])]) (λl=>G l<=maxLen/\∀a∈l,a.size<=maxLen):=by
 cases fuel with
 | zero=>exact Dq.zero
 | succ fuel=>exact dq (n:=1) underlying71 (by kernel_rfl) (by decide) (Zf Lb)
theorem AVg :Dq enc AF w fuel 72 (λl:List CR=>[.sl (l.map CR.row)]) (λl=>G l<=maxLen/\∀a∈l,True):=by
 cases fuel with
 | zero=>exact Dq.zero
 | succ fuel=>exact dq (n:=2) underlying72 (by kernel_rfl) (by decide) AVf
theorem AVi :Dq enc AF w fuel 74 Bc.row (λs=>s.name.size<=maxLen):=by
 cases fuel with
 | zero=>exact Dq.zero
 | succ fuel=>exact(VJ underlying74 (by kernel_rfl) (C6.cons (o:=0) (o':=1) rfl (by kernel_rfl) (by decide) (Zf Lb) (C6.cons (o:=1) (o':=2) rfl (by kernel_rfl) (by decide) (AVh) (C6.cons (o:=2) (o':=3) rfl (by kernel_rfl) (by decide) (AVg) (C6.cons (o:=3) (o':=4) rfl (by kernel_rfl) (by decide) (Ge Fo) (C6.nil)))))).conv (λq=>⟨q.1,q.2.1,q.2.2.1,q.2.2.2.1⟩) (λq=>rfl) (λq h=>h.1)
theorem AVc :Dq enc AF w fuel 22 (λl:List BG=>[.sl (l.map BG.row)]) (λl=>G l<=maxLen/\∀a∈l,a.name.size<=maxLen):=by
 cases fuel with
 | zero=>exact Dq.zero
 | succ fuel=>exact dq (n:=6) underlying22 (by kernel_rfl) (by decide) AVb
theorem AVj :Dq enc AF w fuel 23 (λl:List Bc=>[.sl (l.map Bc.row)]) (λl=>G l<=maxLen/\∀a∈l,a.name.size<=maxLen):=by
 cases fuel with
 | zero=>exact Dq.zero
 | succ fuel=>exact dq (n:=4) underlying23 (by kernel_rfl) (by decide) AVi
theorem AVe :Dq enc AF w fuel 25 (λp:Params=>p.list.map (C.int .i64)) (λ_=>True):=by
 cases fuel with
 | zero=>exact Dq.zero
 | succ fuel=>exact(VJ underlying25 (by kernel_rfl) (C6.cons (o:=0) (o':=1) rfl (by kernel_rfl) (by decide) (Ge Fo) (C6.cons (o:=1) (o':=2) rfl (by kernel_rfl) (by decide) (Ge Fo) (C6.cons (o:=2) (o':=3) rfl (by kernel_rfl) (by decide) (Ge Fo) (C6.cons (o:=3) (o':=4) rfl (by kernel_rfl) (by decide) (Ge Fo) (C6.cons (o:=4) (o':=5) rfl (by kernel_rfl) (by decide) (Ge Fo) (C6.cons (o:=5) (o':=6) rfl (by kernel_rfl) (by decide) (Ge Fo) (C6.cons (o:=6) (o':=7) rfl (by kernel_rfl) (by decide) (Ge Fo) (C6.cons (o:=7) (o':=8) rfl (by kernel_rfl) (by decide) (Ge Fo) (C6.cons (o:=8) (o':=9) rfl (by kernel_rfl) (by decide) (Ge Fo) (C6.cons (o:=9) (o':=10) rfl (by kernel_rfl) (by decide) (Ge Fo) (C6.cons (o:=10) (o':=11) rfl (by kernel_rfl) (by decide) (Ge Fo) (C6.cons (o:=11) (o':=12) rfl (by kernel_rfl) (by decide) (Ge Fo) (C6.cons (o:=12) (o':=13) rfl (by kernel_rfl) (by decide) (Ge Fo) (C6.cons (o:=13) (o':=14) rfl (by kernel_rfl) (by decide) (Ge Fo) (C6.cons (o:=14) (o':=15) rfl (by kernel_rfl) (by decide) (Ge Fo) (C6.cons (o:=15) (o':=16) rfl (by kernel_rfl) (by decide) (Ge Fo) (C6.cons (o:=16) (o':=17) rfl (by kernel_rfl) (by decide) (Ge Fo) (C6.cons (o:=17) (o':=18) rfl (by kernel_rfl) (by decide) (Ge Fo) (C6.cons (o:=18) (o':=19) rfl (by kernel_rfl) (by decide) (Ge Fo) (C6.cons (o:=19) (o':=20) rfl (by kernel_rfl) (by decide) (Ge Fo) (C6.nil)))))))))))))))))))))).conv (λq=>⟨q.1,q.2.1,q.2.2.1,q.2.2.2.1,q.2.2.2.2.1,q.2.2.2.2.2.1,q.2.2.2.2.2.2.1,q.2.2.2.2.2.2.2.1,q.2.2.2.2.2.2.2.2.1,q.2.2.2.2.2.2.2.2.2.1,q.2.2.2.2.2.2.2.2.2.2.1,q.2.2.2.2.2.2.2.2.2.2.2.1,q.2.2.2.2.2.2.2.2.2.2.2.2.1,q.2.2.2.2.2.2.2.2.2.2.2.2.2.1,q.2.2.2.2.2.2.2.2.2.2.2.2.2.2.1,q.2.2.2.2.2.2.2.2.2.2.2.2.2.2.2.1,q.2.2.2.2.2.2.2.2.2.2.2.2.2.2.2.2.1,q.2.2.2.2.2.2.2.2.2.2.2.2.2.2.2.2.2.1,q.2.2.2.2.2.2.2.2.2.2.2.2.2.2.2.2.2.2.1,q.2.2.2.2.2.2.2.2.2.2.2.2.2.2.2.2.2.2.2.1⟩) (λq=>rfl) (λq h=>trivial)
theorem AVa :Dq enc AF w fuel 27 AP.row AP.Fit:=by
 cases fuel with
 | zero=>exact Dq.zero
 | succ fuel=>exact(VJ underlying27 (by kernel_rfl) (C6.cons (o:=0) (o':=1) rfl (by kernel_rfl) (by decide) (AVc) (C6.cons (o:=1) (o':=2) rfl (by kernel_rfl) (by decide) (AVj) (C6.cons (o:=2) (o':=22) rfl (by kernel_rfl) (by decide) (AVe) (C6.nil))))).conv (λq=>⟨q.1,q.2.1,q.2.2.1⟩) (λq=>by simp[AP.row,O8,MG]) (λq h=>⟨h.1.1,h.2.1.1,h.1.2,h.2.1.2⟩)
end
theorem tV (f:AP)(p:Int):AC AF 226 [.agg f.vs,.c (.int .i64 p)] (AR (JF f p)):=by
 cases B:f.valid with
 | false=>refine en th ARA ?_;refine Ah ?_;refine gc @B (Ma f) DC ?_;refine Ah ?_;exact At (cj3 ASC @AR.eq_1 @JF.eq_1 @B)
 | true =>
   by_cases K:p<1;refine en th ARA ?_;refine Ah ?_;refine gc @B (Ma f) DC ?_;refine go @K ?_;exact At (cj4 ASC @AR.eq_1 @JF.eq_1 @B @K);by_cases Q:100<p;refine en th ARA ?_;refine Ah ?_;refine gc @B (Ma f) DC ?_;refine go (cj @K<|@Q) ?_;exact At (cj5 ASC @AR.eq_1 @JF.eq_1 @B @K @Q);refine en th ARA ?_;refine Ah ?_;refine gc @B (Ma f) DC ?_;refine go (cj @K<|@Q) ?_;exact At (cj5 ASC @AR.eq_1 @JF.eq_1 @B @K @Q)
theorem AMA (f:AP)(name:ByteArray)(p:Int)(hl:f.DR.length<=maxLen)(S:f.valid=I)(K:1<=p)(Q:p<=100):AC AF 280 [.agg f.vs,.c (.str name),.c (.int .i64 p)] (.c (.int .i64 (XV f name p))):=by
 obtain⟨_,R⟩:=Pk S K Q name;have hb:=Zv S K Q name;have z:XV f name p=((f.pick name).scaled p).h+((f.pick name).scaled p).d:=by unfold XV;rw[R]
 have q:AZ.wrap (((f.pick name).scaled p).h+((f.pick name).scaled p).d)=XV f name p:=by rw[z];exact Ac
 have B:=sw (f.pick name) p;rw[R]at B;generalize hG:(f.pick name).scaled p=G at B q;refine en func280 ntmps280 ?_;refine Ah ?_;refine BZ (dy f name hl) AFr ?_;refine gc (cj3 @XT.eq_1 @AR.eq_1 @Hg.eq_1 @BG.row.eq_1) (B) func228 ?_;refine go @q ?_;exact At results280
theorem ACT (f:AP)(s:Bc)(r:Int)(hf:f.Fit)(hv:f.valid=I)(hs:s∈f.C5)(HP:1<=r)(G9:r<=1000):AC AF 281 [.agg f.vs,IU s,.c (.int .i64 r)] (.c (.int .i64 (LO f s r))):=by
 obtain⟨_,_,g3,g4,g5,g6⟩:=QG hv hs;have hT:LO f s r=(M3 f r 0 0 s.parts).1 - ((M3 f r 0 0 s.parts).2 - 1)*s.Dc:=F;unfold IU;refine AC.intro AQf rfl ?_;simp only[ntmps281,Ap,BB,BA,BO,Nat.reduceAdd,Nat.reduceSub,BY,Cy,BK,BU,Bc.row];refine go @Ek.eq_1 ?_;refine lp (ι:={ q:Nat×Int×Int // q.1<=G s.parts/\M3 f r 0 0 s.parts=M3 f r q.2.1 q.2.2 (s.parts.drop q.1)/\ -(40000000*(q.1:Int))<=q.2.1/\q.2.1<=40000000*(q.1:Int)/\(q.1:Int)<=q.2.2/\q.2.2<=1000*(q.1:Int) }) (λq=>[(15,.c (.int .i64 (q.1.1:Int))),(7,.c (.int .i64 q.1.2.1)),(8,.c (.int .i64 q.1.2.2))]) (λ_=>[.box 27 f.vs U,.box 74 (s.row.map V.c) U]) (λq=>G s.parts - q.1.1) ⟨(0,0,0),by simp⟩ ?_ ?_;all_goals simp only[CG,Bw,CO,Ag,Ai]
 exact ER (cj @Bc.row.eq_1<|@Ek.eq_1);rintro ⟨⟨k,R,B⟩,hk,K,b1,b2,b3,b4⟩;simp only at hk K b1 b2 b3 b4 ⊢;have zh:=Qh s.Dc B 60000 8000 (by omega) g5 (by omega) (by omega);rw[fu s.Dc B]at zh;by_cases Q:k<G s.parts;obtain⟨q,hq⟩:=AI (s.parts[k]);rw[D5 Q,hq]at K;simp only[M3]at K;have z:=Ql hv q.name;unfold BG.Small at z;have QS:=dy f q.name hf.gl;generalize hg:f.pick q.name=g at z K QS;have e3:AZ.wrap (g.h+g.d)=g.Dy:=Ac;have e1 : -40000<=g.Dy/\g.Dy<=40000:=by unfold BG.Dy;omega
 obtain⟨t1,t2⟩:=AB4 HP G9 q;have hw:AZ.wrap ((k:Int)+1)=((k+1:Nat):Int):=by rw[Ac];simp
 have m2:=Qh g.Dy (times r q) 40000 1000 (by omega) (by omega) (by omega) t2;rw[fu g.Dy]at m2;have S:AZ.wrap (times r q*g.Dy)=times r q*g.Dy:=Ac;have w3:AZ.wrap (R+times r q*g.Dy)=R+times r q*g.Dy:=Ac;have w4:AZ.wrap (B+times r q)=B+times r q:=Ac;cases hx:q.ext with
 | true =>
   have ht:times r q=r:=by simp[times,hx]
   rw[ht]at S w3 w4 K m2 t1 t2;refine go (cj5 @Q @hq @Bc.row.eq_1 @Ek.eq_1 @CR.row.eq_1 @hx) ?_;refine gc (cj @Hg.eq_1<|@BG.row.eq_1) (QS) AFr ?_;refine gc (cj4 @Hg.eq_1 @BG.row.eq_1 @e3 @S @w3) (po g) AKD ?_;refine go (cj @w4<|@hw) ?_;refine⟨⟨(k+1,R+r*g.Dy,B+r),by omega,K,by simp only;omega,by simp only;omega,by simp only;omega,by simp only;omega⟩,by simp only;omega,?_⟩;refine Le.MI 2 (F2 F) (by simp[DG,Bc.row,Ek]) (by simp[Bc.row,Ek]) (by simp[V.BI,V.A8]) (by simp[O.A8,V.BI,V.A8,Bc.row,Ek])
 | false =>
   have ht:times r q=1:=by simp[times,hx]
   rw[ht]at S w3 w4 K m2 t1 t2;simp only[Int.one_mul]at S w3 K m2;refine go (cj5 @Q @hq @Bc.row.eq_1 @Ek.eq_1 @CR.row.eq_1 @hx) ?_;refine gc (cj @Hg.eq_1<|@BG.row.eq_1) (QS) AFr ?_;refine gc (cj4 @Hg.eq_1 @BG.row.eq_1 @e3 @S @w3) (po g) AKD ?_;refine go (cj @w4<|@hw) ?_;refine⟨⟨(k+1,R+g.Dy,B+1),by omega,K,by simp only;omega,by simp only;omega,by simp only;omega,by simp only;omega⟩,by simp only;omega,?_⟩;refine Le.MI 2 (F2 F) (by simp[DG,Bc.row,Ek]) (by simp[Bc.row,Ek]) (by simp[V.BI,V.A8]) (by simp[O.A8,V.BI,V.A8,Bc.row,Ek])
 have e:M3 f r 0 0 s.parts=(R,B):=by rw[K,FA (by omega)];rfl
 have hR:LO f s r=R - (B - 1)*s.Dc:=by rw[hT,e]
 have A0:(B - 1)*s.Dc=B*s.Dc - s.Dc:=by rw[Int.sub_mul];omega
 have w0:AZ.wrap (B - 1)=B - 1:=Ac;have w1:AZ.wrap ((B - 1)*s.Dc)=(B - 1)*s.Dc:=Ac;have S:AZ.wrap (R - (B - 1)*s.Dc)=R - (B - 1)*s.Dc:=Ac;refine go (cj5 @Q @Bc.row.eq_1 @Ek.eq_1 @w0 @w1 @S) ?_;exact At (cj results281<| @hR)
theorem T7 (f:AP)(name:ByteArray)(Q:f.Fit)(K:f.valid=I):AC AF 140 [.agg f.vs,.c (.str name)] (NK (f.I8 name)):=
 AZb f name Q.sl λs B=>⟨by have:=(QG K B).AKx;omega,by have:=(QG K B).parts;omega⟩
theorem AaU (f:AP)(name:ByteArray)(B p:Int)(hf:f.Fit)(hv:f.valid=I)(G8:1<=p)(HN:p<=100):AC AF 233 [.agg f.vs,.c (.str name),.c (.int .i64 B),.c (.int .i64 p)] (N4 (J2 f name B p)):=by
 cases R:f.I8 name with
 | none =>
   have YU:J2 f name B p=⟨name,0⟩:=by unfold J2;rw[R]
   rw[YU];refine en func233 ntmps233 ?_;refine Ah ?_;refine gc (cj4 @NK.eq_1 @IU.eq_1 @Bc.row.eq_1 @R @Bc.zero.eq_1) (T7 f name hf hv) e9 ?_;refine Ah ?_;exact At (cj ANr<| @N4.eq_1)
 | some s =>
   have hs:=(Se R).1;obtain⟨g1,g2,g3,g4,g5,g6⟩:=QG hv hs;have S:J2 f name B p=WA f s B p:=by unfold J2;rw[R]
   refine en func233 ntmps233 ?_;refine Ah ?_;refine gc (cj3 @NK.eq_1 @IU.eq_1 @Bc.row.eq_1 @R) (T7 f name hf hv) e9 ?_;refine go @Gv.eq_1 ?_;refine lp (ι:={ k:Nat // k<=G s.sizes/\TG f p B s.sizes=TG f p B (s.sizes.drop k) }) (λk=>[(27,.c (.int .i64 (k.1:Int)))]) (λ_=>[.box 27 f.vs U,.box 159 [.c (.str ⟨#[]⟩),.c (.int .i64 0)] U,.box 74 (s.row.map V.c) U]) (λk=>G s.sizes - k.1) ⟨0,by simp⟩ ?_ ?_;all_goals simp only[CG,Bw,CO,Ag,Ai]
   exact ER (cj @Bc.row.eq_1<|@Gv.eq_1)
   . rintro ⟨k,Ce,z⟩;by_cases K:k<G s.sizes;obtain⟨n,Q⟩:=AI (s.sizes[k]);rw[D5 K,Q]at z;simp only[TG]at z;by_cases he:B<=XV f n p;rw[if_pos he]at z;have q:J2 f name B p=⟨n,0⟩:=by rw[S];unfold WA;rw[z]
     refine go (cj3 @K @Q @Bc.row.eq_1 @Gv.eq_1) ?_;refine gc @he (AMA f n p hf.gl hv G8 HN) func280 ?_;refine go (cj4 @K @Q @he @Bc.row.eq_1 @Gv.eq_1) ?_;exact At (cj2 ANr @q @N4.eq_1);rw[if_neg he]at z;have hw:AZ.wrap ((k:Int)+1)=((k+1:Nat):Int):=by rw[Ac];simp
     refine go (cj3 @K @Q @Bc.row.eq_1 @Gv.eq_1) ?_;refine gc @he (AMA f n p hf.gl hv G8 HN) func280 ?_;refine go (cj5 @K @Q @he @Bc.row.eq_1 @Gv.eq_1 @hw) ?_;refine⟨⟨k+1,by omega,z⟩,by simp only;omega,?_⟩;exact ER (cj @Bc.row.eq_1<|@Gv.eq_1)
     . have e:TG f p B s.sizes=none:=by rw[z,FA (by omega)];rfl
       have q:WA f s B p=if s.parts=[]then⟨s.sizes.getD (G s.sizes - 1) ⟨#[]⟩,0⟩else⟨⟨#[]⟩,LM f s p B 999⟩:=by unfold WA;rw[e]
       by_cases HO:s.parts=[]
       rw[if_pos HO]at q;obtain⟨m,hm⟩:∃m,G s.sizes=m+1:=⟨G s.sizes - 1,by omega⟩
       have A0:m<G s.sizes:=by omega
       obtain⟨n,Q⟩:=AI (s.sizes[m]);have hw:AZ.wrap ((G s.sizes:Int) - 1)=(m:Int):=by rw[Ac];omega
       have hg:s.sizes.getD (G s.sizes - 1) ⟨#[]⟩=n:=by rw[hm];simp[List.getD,A0,Q]
       rw[hg]at q;rw[q]at S;refine go (cj7 @K @HO @Bc.row.eq_1 @Gv.eq_1 @Ek.eq_1 @hw @A0 @Q) ?_;exact At (cj2 ANr @S @N4.eq_1)
       . rw[if_neg HO]at q;have A1 : ¬G s.parts=0:=by simpa using HO
         rw[q]at S;refine go (cj5 @K @HO @A1 @Bc.row.eq_1 @Gv.eq_1 @Ek.eq_1) ?_;refine lp (ι:={ r:Int // 1<=r/\r<=1000/\LM f s p B 999=LM f s p B (1000 - r).toNat }) (λr=>[(13,.c (.int .i64 r.1))]) (λ_=>[.box 27 f.vs U,.box 159 [.c (.str ⟨#[]⟩),.c (.int .i64 0)] U,.box 74 (s.row.map V.c) U]) (λr=>(1000 - r.1).toNat) ⟨1,by simp⟩ ?_ ?_;all_goals simp only[CG,Bw,CO,Ag,Ai]
         exact ER @Bc.row.eq_1;rintro ⟨r,r1,r2,hS⟩;by_cases hr:r<1000;rw[AZF f s p B r r1 hr]at hS;by_cases Q:B<=AU (LO f s r) p;rw[if_pos Q]at hS;rw[hS]at S;refine go (cj @hr<|@Bc.row.eq_1) ?_;refine gc (cj @IU.eq_1<|@Bc.row.eq_1) (ACT f s r hf hv hs r1 r2) AQf ?_;refine gc @Q (EI (LO f s r) p) ID ?_;refine go @Q ?_;exact At (cj2 ANr @S @N4.eq_1);rw[if_neg Q]at hS;have hw:AZ.wrap (r+1)=r+1:=Ac;refine go (cj @hr<|@Bc.row.eq_1) ?_;refine gc (cj @IU.eq_1<|@Bc.row.eq_1) (ACT f s r hf hv hs r1 r2) AQf ?_;refine gc @Q (EI (LO f s r) p) ID ?_;refine go (cj @Q<|@hw) ?_;refine⟨⟨r+1,by omega,by omega,hS⟩,by simp only;omega,?_⟩;exact ER @Bc.row.eq_1;have e1:r=1000:=by omega
         subst e1;have e2:LM f s p B (1000 - 1000:Int).toNat=1000:=F;rw[e2]at hS;rw[hS]at S;refine Ah ?_;exact At (cj2 ANr @S @N4.eq_1)
def PY (x:ByteArray):List ByteArray->Nat->Int
 | [],_=> -1
 | y::r,k=>if x=y then(k:Int)else PY x r (k+1)
theorem AHr (x:ByteArray):∀(l:List ByteArray) (k:Nat),decide (0<=PY x l k)=KX x l
 | [],k=>by simp[PY,KX]
 | y::r,k=>by
   have ih:=AHr x r (k+1);by_cases h:x=y;have B:PY x (y::r) k=(k:Int):=by simp[PY,h]
   have K:KX x (y::r)=true:=by simp[KX,h]
   rw[K,decide_eq_true_eq,B];omega;have B:PY x (y::r) k=PY x r (k+1):=by simp[PY,h]
   have K:KX x (y::r)=KX x r:=by simp only[KX];exact if_neg λe=>h e.symm
   rw[K,<-ih,decide_eq_decide,B]
theorem ATY (l:List ByteArray)(x:ByteArray)(z:G l<=1000):AC AF 282 [.c (Gv l),.c (.str x)] (.c (.int .i64 (PY x l 0))):=by
 unfold Gv;refine en func282 ntmps282 ?_;refine Ah ?_;refine lp (ι:={ k:Nat // k<=G l/\PY x l 0=PY x (l.drop k) k }) (λk=>[(8,.c (.int .i64 (k.1:Int)))]) (λ_=>[]) (λk=>G l - k.1) ⟨0,by simp⟩ ?_ ?_;all_goals simp only[CG,Bw,CO,Ag,Ai]
 exact DH;rintro ⟨k,q,K⟩;by_cases B:k<G l;obtain⟨y,R⟩:=AI (l[k]);rw[D5 B,R]at K;simp only[PY]at K;by_cases Q:x=y;rw[if_pos Q]at K;refine go (cj2 @B @R @Q) ?_;exact At (cj results282<| @K);rw[if_neg Q]at K;have S:AZ.wrap ((k:Int)+1)=((k+1:Nat):Int):=by rw[Ac];simp
 refine go (cj3 @B @R @Q @S) ?_;refine⟨⟨k+1,by omega,K⟩,by simp only;omega,?_⟩;exact DH;have e:PY x l 0= -1:=by rw[K,FA (by omega)];rfl
 refine go @B ?_;exact At (cj results282<| @e)
theorem AE1 (l:List ByteArray)(x:ByteArray)(Q:G l<=1000):AC AF 237 [.c (Gv l),.c (.str x)] (.c (.bool (KX x l))):=by
 have K:=AHr x l 0;have B:=ATY l x Q;unfold Gv at B ⊢;refine en func237 ntmps237 ?_;refine Ah ?_;refine BZ (B) func282 ?_;refine Ah ?_;exact At (cj results237<| @K)
theorem AT4 (f:AP)(name cg:ByteArray)(cr:Int)(s:Bc)(q:f.Fit)(R:f.valid=I)(B:f.I8 name=J s):AC AF 271 [.agg f.vs,.c (.str name),.agg [.c (.str cg),.c (.int .i64 cr)]] (.c (.bool (KH f name ⟨cg,cr⟩))):=by
 have hs:=(Se B).1;have hG:=QG R hs;have Q:KH f name ⟨cg,cr⟩=if cr=0 then KX cg s.sizes else decide (cg=⟨#[]⟩) && (decide (0<G s.parts) && (decide (1<=cr) && decide (cr<=1000))):=by unfold KH;rw[B]
 by_cases K:cr=0;rw[if_pos K]at Q;subst K;have FN:=AE1 s.sizes cg (by have:=hG.AKx;omega);refine en nn AGI ?_;refine Ah ?_;refine gc (cj3 @NK.eq_1 @IU.eq_1 @Bc.row.eq_1 @B) (T7 f name q R) e9 ?_;refine Ah ?_;refine BZ (FN) func237 ?_;refine Ah ?_;exact At (cj AGW<| @Q);rw[if_neg K]at Q;by_cases h2:cg=⟨#[]⟩
 subst h2;by_cases h3:(0:Int)<(G s.parts:Int);have z:0<G s.parts:=by omega
 by_cases h4:1<=cr;refine en nn AGI ?_;refine Ah ?_;refine gc (cj3 @NK.eq_1 @IU.eq_1 @Bc.row.eq_1 @B) (T7 f name q R) e9 ?_;refine go (cj4 @K @h3 @z @h4 @Ek.eq_1) ?_;exact At (cj3 AGW @Q @z @h4);refine en nn AGI ?_;refine Ah ?_;refine gc (cj3 @NK.eq_1 @IU.eq_1 @Bc.row.eq_1 @B) (T7 f name q R) e9 ?_;refine go (cj4 @K @h3 @z @h4 @Ek.eq_1) ?_;exact At (cj3 AGW @Q @z @h4);have S:s.parts=[]:=Nr (by omega);refine en nn AGI ?_;refine Ah ?_;refine gc (cj3 @NK.eq_1 @IU.eq_1 @Bc.row.eq_1 @B) (T7 f name q R) e9 ?_;refine go (cj2 @K @S @Ek.eq_1) ?_;exact At (cj2 AGW @Q @S);refine en nn AGI ?_;refine Ah ?_;refine gc (cj3 @NK.eq_1 @IU.eq_1 @Bc.row.eq_1 @B) (T7 f name q R) e9 ?_;refine go (cj @K<|@h2) ?_;exact At (cj2 AGW @Q @h2)
theorem AT3 (f:AP)(name cg:ByteArray)(cr:Int)(hf:f.Fit)(hv:f.valid=I)(hst:f.I8 name=E):AC AF 271 [.agg f.vs,.c (.str name),.agg [.c (.str cg),.c (.int .i64 cr)]] (.c (.bool (KH f name ⟨cg,cr⟩))):=by
 have hR:KH f name ⟨cg,cr⟩=(decide (cr=0) && decide (cg=name)):=by unfold KH;rw[hst]
 refine en nn AGI ?_;refine Ah ?_;refine gc (cj4 @NK.eq_1 @IU.eq_1 @Bc.row.eq_1 @hst @Bc.zero.eq_1) (T7 f name hf hv) e9 ?_;refine Ah ?_;refine AW.DA ?_;refine SW.take 3 ?_;with_reducible refine If (by simp[BY];first|exact rfl|exact⟨F,F⟩) ?_
 refine Kz ?_;simp only[CU,B9];refine SW.op (.c (.bool (decide (cr=0) && decide (cg=name)))) (by simp[BQ]) rfl ?_ ?_
 . intro S0 w0 x a w hA;obtain⟨u,hu,K⟩:=hA.2.get 18 _ F;obtain⟨u',S,B⟩:=hA.2.get 20 _ F;simp only[CV,AO,Ab]at K B;refine BW.pure hA.1 (u:=.bool (decide (cr=0) && decide (cg=name))) ?_ (by simp only[CV,Ab]);obtain⟨vs,rfl,_,_,R,⟨rfl,_⟩,_,_,rfl,⟨rfl,_⟩,rfl⟩:=K;obtain⟨z,rfl,_,_,q,⟨rfl,_⟩,_,_,rfl,⟨rfl,_⟩,rfl⟩:=B;have WI:vs=#[.string cg,.int .i64 cr]:=Gx.1 R;have Q:z=#[.string name,.int .i64 0]:=Gx.1 q;subst WI Q;have e1:a.eval (.tmp 18)=.agg #[.string cg,.int .i64 cr]:=by simp[Act.eval,Kl,<-VZ,hu]
   have e2:a.eval (.tmp 20)=.agg #[.string name,.int .i64 0]:=by simp[Act.eval,Kl,<-VZ,S]
   clear hA hu S R q;by_cases h1:cg=name
   . subst h1;by_cases h2:cr=0
     . subst h2;simp only[execOp,e1,e2];go_simp
     . have J3:(cr==0)=false:=by simpa using h2
       simp only[execOp,e1,e2];go_simp
   . have Jc:=AZa h1;simp only[execOp,e1,e2];go_simp
 refine SW.take 1 ?_;with_reducible refine If (by simp[BY];first|exact rfl|exact⟨F,F⟩) ?_
 refine Kz ?_;simp only[CU,B9];refine SW.nil ?_;refine Ah ?_;exact At (cj AGW<| @hR)
theorem AT2 (f:AP)(name:ByteArray)(c:Choice)(R:f.Fit)(S:f.valid=I):AC AF 271 [.agg f.vs,.c (.str name),N4 c] (.c (.bool (KH f name c))):=by
 obtain⟨K,Q⟩:=c;cases B:f.I8 name with
 | none=>exact AT3 f name K Q R S B
 | some s=>exact AT4 f name K Q s R S B
def n7:Prop:=∀(f:AP) (s:Bc) (r p:Int),f.Fit->f.valid=I->s∈f.C5->1<=r->r<=1000->1<=p->p<=100->s.parts≠[]->AC AF 272 [.agg f.vs,IU s,.c (.int .i64 r),.c (.int .i64 p)] (Ba (V4 f s r p,0))
theorem AET (TM:n7)(f:AP)(name:ByteArray)(c:Choice)(p:Int)(hf:f.Fit)(hc:JF f p=0):AC AF 227 [.agg f.vs,.c (.str name),N4 c,.c (.int .i64 p)] (Ba (K5 f name c p)):=by
 obtain⟨hv,G8,HN⟩:=AEl hc;obtain⟨B,K⟩:=c;have hk:=AT2 f name ⟨B,K⟩ hf hv;simp only[N4]at hk ⊢;cases R:KH f name ⟨B,K⟩with
 | false =>
   have z:K5 f name ⟨B,K⟩ p=(AA.zero,8):=by unfold K5;rw[if_neg (by simp[hc]),if_pos R]
   rw[z];refine en AIo ntmps227 ?_;refine Ah ?_;refine gc @R (hk) nn ?_;refine Ah ?_;exact At (cj8 Abk @AR.eq_1 @Ba.eq_1 @Ao.eq_1 @AA.zero.eq_1 @AA.row.eq_1 @AA.AG.eq_1 @AA.AG.eq_2 @AV.eq_1)
 | true =>
   by_cases h0:K=0;subst h0;have z:K5 f name ⟨B,0⟩ p=QC f B p:=by
    unfold K5 QC;rw[if_neg (by simp[hc]),if_neg (by simp[R]),if_pos F,if_pos hv,(Pk hv G8 HN B).1]
   rw[z];have Q:=pn f B p hf.gl;obtain⟨q,hq⟩:=AI (QC f B p);rw[hq]at Q ⊢;obtain⟨⟨bk,bn,bs,bw,bh,bd,bx,Bq,AE,bo,src⟩,e⟩:=q;simp only[Ba,AR,Ao,AA.row,Ap,BB]at Q ⊢;refine en AIo ntmps227 ?_;refine Ah ?_;refine gc @R (hk) nn ?_;refine Ah ?_;refine BZ (Q) AQP ?_;refine Ah ?_;exact At Abk;obtain⟨s,S,HO,r1,r2,_⟩:=AAI h0 R;have hs:=(Se S).1;have z:K5 f name ⟨B,K⟩ p=(V4 f s K p,0):=by unfold K5;rw[if_neg (by simp[hc]),if_neg (by simp[R]),if_neg h0,S];rfl
   rw[z];have Q:=TM f s K p hf hv hs r1 r2 G8 HN HO;generalize hq:V4 f s K p=b at Q ⊢;obtain⟨bk,bn,bs,bw,bh,bd,bx,Bq,AE,bo,src⟩:=b;simp only[Ba,AR,Ao,AA.row,Ap,BB]at Q ⊢;refine en AIo ntmps227 ?_;refine Ah ?_;refine gc @R (hk) nn ?_;refine go @h0 ?_;refine gc (cj3 @NK.eq_1 @IU.eq_1 @Bc.row.eq_1 @S) (T7 f name hf hv) e9 ?_;refine Ah ?_;refine gc (cj @IU.eq_1<|@Bc.row.eq_1) (Q) func272 ?_;refine Ah ?_;exact At Abk
theorem AaE (S:n7)(f:AP)(name:ByteArray)(c:Choice)(p:Int)(hf:f.Fit):AC AF 141 [.agg f.vs,.c (.str name),N4 c,.c (.int .i64 p)] (Ba (K5 f name c p)):=by
 obtain⟨Q,R⟩:=c;by_cases B:JF f p=0;have K:=AET S f name ⟨Q,R⟩ p hf B;generalize hq:K5 f name ⟨Q,R⟩ p=q at K ⊢;obtain⟨⟨bk,bn,bs,bw,bh,bd,bx,Bq,AE,bo,src⟩,e⟩:=q;simp only[N4,Ba,AR,Ao,AA.row,Ap,BB]at K ⊢;refine en func141 ntmps141 ?_;refine Ah ?_;refine gc (cj @B<|@AR.eq_1) (tV f p) th ?_;refine Ah ?_;refine BZ (K) AIo ?_;refine Ah ?_;exact At results141;have z:K5 f name ⟨Q,R⟩ p=(AA.zero,JF f p):=by unfold K5;rw[if_pos (by simp[B])]
 rw[z];unfold N4;refine en func141 ntmps141 ?_;refine Ah ?_;refine gc @AR.eq_1 (tV f p) th ?_;refine go @B ?_;exact At (cj8 results141 @AR.eq_1 @Ba.eq_1 @Ao.eq_1 @AA.zero.eq_1 @AA.row.eq_1 @AA.AG.eq_1 @AA.AG.eq_2 @AV.eq_1)
theorem ACC (TM:n7)(f:AP)(name:ByteArray)(B p:Int)(hf:f.Fit):AC AF 152 [.agg f.vs,.c (.str name),.c (.int .i64 B),.c (.int .i64 p)] (Ba (Hv f name B p)):=by
 by_cases Q:JF f p=0;obtain⟨hv,G8,HN⟩:=AEl Q;have S:Hv f name B p=K5 f name (J2 f name B p) p:=by unfold Hv;rw[if_neg (by simp[Q])]
 rw[S];have K:=AaU f name B p hf hv G8 HN;generalize A0:J2 f name B p=c at K ⊢;obtain⟨z,cr⟩:=c;have R:=AET TM f name ⟨z,cr⟩ p hf Q;generalize hq:K5 f name ⟨z,cr⟩ p=q at R ⊢;obtain⟨⟨bk,bn,bs,bw,bh,bd,bx,Bq,AE,bo,src⟩,e⟩:=q;simp only[N4,Ba,AR,Ao,AA.row,Ap,BB]at K R ⊢;refine en AHi ntmps152 ?_;refine Ah ?_;refine gc (cj @Q<|@AR.eq_1) (tV f p) th ?_;refine Ah ?_;refine BZ (K) func233 ?_;refine BZ (R) AIo ?_;refine Ah ?_;exact At results152;have S:Hv f name B p=(AA.zero,JF f p):=by unfold Hv;rw[if_pos (by simp[Q])]
 rw[S];refine en AHi ntmps152 ?_;refine Ah ?_;refine gc @AR.eq_1 (tV f p) th ?_;refine go @Q ?_;exact At (cj8 results152 @AR.eq_1 @Ba.eq_1 @Ao.eq_1 @AA.zero.eq_1 @AA.row.eq_1 @AA.AG.eq_1 @AA.AG.eq_2 @AV.eq_1)
theorem AWH (s:Bc)(r:Int):AC AF 295 [IU s,.c (.int .i64 r)] (.fn 302 [.cp s.row 0,.cp [.int .i64 r] 0]):=by
 unfold IU;refine AC.intro func295 rfl ?_;simp only[ntmps295,Ap,BB,BA,BO,Nat.reduceAdd,Nat.reduceSub,BY,Cy,BK,BU,Bc.row];with_reducible refine AW.seq ?_
 with_reducible refine AW.region ?_
 with_reducible refine If (by simp[BY];first|exact rfl|exact⟨F,F⟩) ?_
 with_reducible refine Kz ?_
 with_reducible refine G3 ?_
 refine Cn 0 ?_;refine Cn 1 ?_;refine Ah ?_;exact At (cj results295<| @Bc.row.eq_1)
def XJ (r:Int)(l:List CR)(i:Fin (G l)):List (Fin (G l)):=Aq (times r l[i]).toNat i
def upto (r:Int)(l:List CR)(k:Nat):List (Fin (G l)):=((ACu (G l)).take k).flatMap (XJ r l)
def whole (r:Int)(l:List CR):List (Fin (G l)):=upto r l (G l)
theorem tS (h:k<G l):upto r l (k+1)=upto r l k++XJ r l ⟨k,h⟩:=by
 unfold upto;rw[UD (by simpa using h),AMd];simp
theorem ALs (h:k<=G l):∃t,whole r l=upto r l k++t:=by
 refine⟨((ACu (G l)).drop k).flatMap (XJ r l),?_⟩;unfold whole upto;rw[<-AMd,List.take_append_drop,Gl (by simp)]
def xU (l:List CR)(i:Fin (G l)):Value:=.int .i64 (i.val:Int)
def tD (y:Nat)(s:Bc)(r:Int)(k:Nat):List V:=[.yl y,.cp s.row 0,.cp [.int .i64 r] 0,.any,.any,.any,.any,.cp s.row 2,.c (Ek s.parts),.c (.int .i64 (G s.parts)),.c (.int .i64 k),.any,.any,.any,.any,.any,.any,.any,.any,.any,.any,.any,.any,.any,.any,.any,.any]
def LN (y:Nat)(s:Bc)(r:Int)(k:Nat)(m:Int)(j:Nat):List V:=[.yl y,.cp s.row 0,.cp [.int .i64 r] 0,.any,.c (.int .i64 k),.any,.any,.cp s.row 2,.c (Ek s.parts),.c (.int .i64 (G s.parts)),.c (.int .i64 k),.any,.any,.any,.any,.any,.any,.any,.c (.int .i64 m),.c (.int .i64 j),.any,.any,.any,.any,.any,.any,.any]
theorem AWG (s:Bc)(r:Int)(hp:G s.parts<=8)(HP:1<=r)(G9:r<=1000):UU AF 302 [.cp s.row 0,.cp [.int .i64 r] 0] (λy=>#[xU s.parts y]) (λxs=>xs=whole r s.parts) (G (whole r s.parts)):=by
 refine UU.intro uq rfl rfl λY=>?_
 simp only[ntmps302,BA,BO,Nat.reduceAdd,Nat.reduceSub,BY,Cy,BK,BU];refine ED (cj @Bc.row.eq_1<|@Ek.eq_1) ?_;refine IW.loop (ι:={ k:Nat // k<=G s.parts }) (λk=>(⟨upto r s.parts k.1,U⟩,⟨tD Y.l s r k.1,[]⟩)) (λk=>G s.parts - k.1) ⟨0,by omega⟩ (by simp[upto]) ?_ ?_;refine G1.drop (by simp[DG,tD,Bc.row,Ek]) (by simp[V.BI,V.A8,tD]);rintro ⟨k,hk⟩;simp only[tD];by_cases B:k<G s.parts
 . obtain⟨q,S⟩:=AI (s.parts[k]);have hw:AZ.wrap ((k:Int)+1)=((k+1:Nat):Int):=by rw[Ac];simp
   cases z:q.ext with
   | true =>
     have ht:times r q=r:=by simp[times,z]
     have R:XJ r s.parts ⟨k,B⟩=Aq (r:Int).toNat ⟨k,B⟩:=by
      unfold XJ;rw[show s.parts[(⟨k,B⟩:Fin (G s.parts))]=q from S,ht]
     refine ED (cj5 @B @S @Bc.row.eq_1 @Ek.eq_1 @CR.row.eq_1 @z) ?_;refine IW.loop (ι:={ j:Nat // (j:Int)<=r }) (λj=>(⟨upto r s.parts k++Aq j.1 ⟨k,B⟩,U⟩,⟨LN Y.l s r k r j.1,[]⟩)) (λj=>(r:Int).toNat - j.1) ⟨0,by simp only[AMX];omega⟩ (by simp) ?_ ?_;refine G1.drop (by simp[DG,LN,Bc.row,Ek]) (by simp[V.BI,V.A8,LN]);rintro ⟨j,hj⟩;simp only[LN];by_cases Q:(j:Int)<r
     . have K:AZ.wrap ((j:Int)+1)=((j+1:Nat):Int):=by rw[Ac];simp
       refine ED @Q ?_;refine IL.yield ⟨k,B⟩ (LN Y.l s r k r j) rfl rfl (by simp[ev]) (by first|(simp[ev];exact⟨F,F⟩)|(simp[ev];done)) rfl ?_ (by simp[DG,LN]) (by simp[V.BI,V.A8,LN]) ?_ ?_;obtain⟨t,dH⟩:=ALs r s.parts (k+1) B;rw[dH,tS r s.parts k B,R];simp only[Cp,H6];omega;simp only[St.put,LN,Ag,Ai,BA,BO,Nat.reduceAdd,BY,Cy];refine ED @K ?_;refine⟨⟨j+1,by omega⟩,by simp only;omega,?_,?_⟩;simp[Sj,GX];exact G1.drop (by simp[DG]) (by simp[V.BI,V.A8]);simp only[St.put,LN,Ag,Ai,BA,BO,Nat.reduceAdd,BY,Cy];refine ED trivial ?_;exact⟨.inr F,λh=>nomatch h⟩
     have Uz:j=(r:Int).toNat:=by omega
     refine ED (cj @Q<|@hw) ?_;refine⟨⟨k+1,B⟩,by simp only;omega,?_,?_⟩;simp only[tS r s.parts k B,R,Uz];exact G1.drop (by simp[DG]) (by simp[V.BI,V.A8])
   | false =>
     have ht:times r q=1:=by simp[times,z]
     have R:XJ r s.parts ⟨k,B⟩=Aq (1:Int).toNat ⟨k,B⟩:=by
      unfold XJ;rw[show s.parts[(⟨k,B⟩:Fin (G s.parts))]=q from S,ht]
     refine ED (cj5 @B @S @Bc.row.eq_1 @Ek.eq_1 @CR.row.eq_1 @z) ?_;refine IW.loop (ι:={ j:Nat // (j:Int)<=1 }) (λj=>(⟨upto r s.parts k++Aq j.1 ⟨k,B⟩,U⟩,⟨LN Y.l s r k 1 j.1,[]⟩)) (λj=>(1:Int).toNat - j.1) ⟨0,by simp only[AMX];omega⟩ (by simp) ?_ ?_;refine G1.drop (by simp[DG,LN,Bc.row,Ek]) (by simp[V.BI,V.A8,LN]);rintro ⟨j,hj⟩;simp only[LN];by_cases Q:(j:Int)<1
     . have K:AZ.wrap ((j:Int)+1)=((j+1:Nat):Int):=by rw[Ac];simp
       refine ED @Q ?_;refine IL.yield ⟨k,B⟩ (LN Y.l s r k 1 j) rfl rfl (by simp[ev]) (by first|(simp[ev];exact⟨F,F⟩)|(simp[ev];done)) rfl ?_ (by simp[DG,LN]) (by simp[V.BI,V.A8,LN]) ?_ ?_;obtain⟨t,dH⟩:=ALs r s.parts (k+1) B;rw[dH,tS r s.parts k B,R];simp only[Cp,H6];omega;simp only[St.put,LN,Ag,Ai,BA,BO,Nat.reduceAdd,BY,Cy];refine ED @K ?_;refine⟨⟨j+1,by omega⟩,by simp only;omega,?_,?_⟩;simp[Sj,GX];exact G1.drop (by simp[DG]) (by simp[V.BI,V.A8]);simp only[St.put,LN,Ag,Ai,BA,BO,Nat.reduceAdd,BY,Cy];refine ED trivial ?_;exact⟨.inr F,λh=>nomatch h⟩
     have Uz:j=(1:Int).toNat:=by omega
     refine ED (cj @Q<|@hw) ?_;refine⟨⟨k+1,B⟩,by simp only;omega,?_,?_⟩;simp only[tS r s.parts k B,R,Uz];exact G1.drop (by simp[DG]) (by simp[V.BI,V.A8])
 refine ED @B ?_;have Ce:k=G s.parts:=by omega
 subst Ce;exact⟨.inl F,λ_=>rfl⟩
theorem sK : ∀(vs cs pre post:List V),G cs=G vs->E8 (pre++cs++post) (G pre) vs=pre++vs++post
 | [],cs,pre,post,h=>by have:cs=[]:=Nr h;subst this;simp[E8]
 | v::vs,[],pre,post,h=>by simp at h
 | v::vs,c::cs,pre,post,h=>by
   have ih:=sK vs cs (pre++[v]) post (by simpa using h);simp only[Cp,BA,BO,Nat.zero_add]at ih;simp only[E8];rw[show (pre++c::cs++post).set (G pre) v=pre++[v]++cs++post by simp,ih];simp
def Ih (f:AP)(p:Int)(l:List CR)(k:Nat):List V:=((l.take k).map λq=>(DB f q.name p).1.row.map V.c).flatten++(Aq (G l - k) BT).flatten
def I0 (f:AP)(l:List CR)(k:Nat):List V:=((l.take k).map λq=>[V.c (.int .i64 (f.pick q.name).Dy)]).flatten++(Aq (G l - k) [V.c (.int .i64 0)]).flatten
theorem sq : ∀b:AA,G b.row=11:=by rintro ⟨_,_,_,_,_,_,_,_,_,_,_⟩;rfl
theorem AN2 (f:AP)(p:Int)(l:List CR)(k:Nat)(h:k<=G l):G (Ih f p l k)=G l*11:=by
 unfold Ih;rw[Cp,K7 (es:=11),K7 (es:=11)];simp only[Ch,Fa,H6,Vi h,<-Nat.add_mul];congr 1
 omega;intro r B;rw[UA B];rfl;intro r B;obtain⟨q,_,rfl⟩:=Da.1 B;rw[Ch,sq]
theorem ASq (f:AP)(l:List CR)(k:Nat)(h:k<=G l):G (I0 f l k)=G l:=by
 unfold I0;rw[Cp,K7 (es:=1),K7 (es:=1)];simp only[Ch,Fa,H6,Vi h];omega;intro r B;rw[UA B];rfl;intro r B;obtain⟨q,_,rfl⟩:=Da.1 B;rfl
theorem AN3 (f:AP)(p:Int)(l:List CR)(k:Nat)(h:k<G l):E8 (Ih f p l k) (k*11) ((DB f l[k].name p).1.row.map V.c)=Ih f p l (k+1):=by
 have B:G (((l.take k).map λq=>(DB f q.name p).1.row.map V.c).flatten)=k*11:=by
  rw[K7 (es:=11)];simp only[Ch,Fa,Vi (LZ h)];intro r K;obtain⟨q,_,rfl⟩:=Da.1 K;rw[Ch,sq]
 have e:G l - k=(G l - (k+1))+1:=by omega
 unfold Ih;rw[e,BY,Hp,<-GX,<-B,sK _ _ _ _ (by rw[Ch,sq];rfl),UD h,Fm,Vd];simp
theorem ASr (f:AP)(l:List CR)(k:Nat)(h:k<G l):E8 (I0 f l k) k [V.c (.int .i64 (f.pick l[k].name).Dy)]=I0 f l (k+1):=by
 have B:G (((l.take k).map λq=>[V.c (.int .i64 (f.pick q.name).Dy)]).flatten)=k:=by
  rw[K7 (es:=1)];simp only[Ch,Fa,Vi (LZ h),Nat.mul_one];intro r K;obtain⟨q,_,rfl⟩:=Da.1 K;rfl
 have e:G l - k=(G l - (k+1))+1:=by omega
 unfold I0;rw[e,BY,Hp,<-GX];conv=>lhs;arg 2;rw[<-B]
 rw[sK _ [V.c (.int .i64 0)] _ _ (by simp),UD h,Fm,Vd];simp
theorem ew {n p:Int}(B:0<=n)(K:0<=p):0<=AU n p:=by
 unfold AU;split;unfold Ea;rw[if_pos (RB B K)];have:=RB B K;omega;omega
theorem AWF {f:AP}(h:f.valid=I)(name:ByteArray):0<=(f.pick name).w:=by
 have key : ∀g∈f.DR,0<=g.w:=by
  intro g Q;have:=Z8 h g Q;simp[Lo,DX]at this;omega
 unfold AP.pick;cases B:f.find name with
 | some g=>exact key g (cA B)
 | none =>
   cases K:f.find ⟨#[63]⟩with
   | some g=>exact key g (cA K)
   | none=>simp[BG.zero]
theorem ACX {f:AP}(B:f.valid=I){p:Int}(K:1<=p)(Q:p<=100)(name:ByteArray):0<=(DB f name p).1.w/\(DB f name p).1.w<=400000/\ -200000<=(DB f name p).1.d/\(DB f name p).1.d<=200000:=by
 rw[(Pk B K Q name).1];have q:=Zv B K Q name;have R:=AWF B name;have z:0<=((f.pick name).scaled p).w:=ew R (by omega);have S:=Ql B name;unfold BG.Small at S;have h6:=lJ (f.pick name).Ey p (by omega) (by omega) K (by omega);simp only[N7,mx];have e:((f.pick name).scaled p).Ey=AU (f.pick name).Ey p:=F;rw[e];split<;>omega
theorem oy (n:Nat):∀l:List V,V.BI n l=I↔∀v∈l,v.A8 n=I
 | []=>by simp[V.BI]
 | v::l=>by simp[V.BI,oy n l]
theorem pA (f:AP)(p:Int)(l:List CR)(k:Nat):V.BI n (Ih f p l k)=true:=by
 rw[oy];intro v B;unfold Ih at B;rcases MJ.1 B with h|h
 obtain⟨r,K,B⟩:=gA.1 h;obtain⟨q,_,rfl⟩:=Da.1 K;obtain⟨c,_,rfl⟩:=Da.1 B;rfl;obtain⟨r,K,B⟩:=gA.1 h;rw[UA K]at B;simp only[BT,Cf,List.not_mem_nil,or_false]at B;rcases B with rfl|rfl|rfl|rfl|rfl|rfl|rfl|rfl|rfl|rfl|rfl<;>rfl
theorem rJ (f:AP)(l:List CR)(k:Nat):V.BI n (I0 f l k)=true:=by
 rw[oy];intro v B;unfold I0 at B;rcases MJ.1 B with h|h
 obtain⟨r,K,B⟩:=gA.1 h;obtain⟨q,_,rfl⟩:=Da.1 K;simp only[LY]at B;subst B;rfl;obtain⟨r,K,B⟩:=gA.1 h;rw[UA K]at B;simp only[LY]at B;subst B;rfl
def Li (f:AP)(p:Int)(l:List CR):List (List C):=l.map λq=>(DB f q.name p).1.row
def FK (f:AP)(l:List CR):List (List C):=l.map λq=>[.int .i64 (f.pick q.name).Dy]
theorem toCs_mapV : ∀l:List C,toCs (l.map V.c)=J l
 | []=>rfl
 | c::l=>by simp only[Ap,toCs,toC,toCs_mapV l]
theorem WN : ∀l:List (List C),(l.map (Vf V.c)).flatten=l.flatten.map V.c
 | []=>rfl
 | r::l=>by simp only[Ap,Hp,Fm,WN l]
theorem AN0 (f:AP)(p:Int)(l:List CR):toCs (Ih f p l (G l))=J (Li f p l).flatten:=by
 have e:Ih f p l (G l)=(Li f p l).flatten.map V.c:=by
  unfold Ih Li;rw[Sn,La,Cy,RC,E5,<-WN,M7];rfl
 rw[e,toCs_mapV]
theorem ASo (f:AP)(l:List CR):toCs (I0 f l (G l))=J (FK f l).flatten:=by
 have e:I0 f l (G l)=(FK f l).flatten.map V.c:=by
  unfold I0 FK;rw[Sn,La,Cy,RC,E5,<-WN,M7];rfl
 rw[e,toCs_mapV]
theorem AEU (f:AP)(p:Int)(l:List CR):Hc 11 (G l) (Li f p l).flatten=Li f p l:=by
 have:=bZ (es:=11) (Li f p l) (by intro r B;obtain⟨q,_,rfl⟩:=Da.1 B;exact sq _);rwa [show G (Li f p l)=G l by simp[Li]]at this
theorem AHa (f:AP)(l:List CR):Hc 1 (G l) (FK f l).flatten=FK f l:=by
 have:=bZ (es:=1) (FK f l) (by intro r B;obtain⟨q,_,rfl⟩:=Da.1 B;rfl);rwa [show G (FK f l)=G l by simp[FK]]at this
theorem AFl (row:List C)(f:AP)(p:Int)(l:List CR):V.Cs k row (Ih f p l (G l))=Ih f p l (G l):=by
 have e:Ih f p l (G l)=(Li f p l).flatten.map V.c:=by
  unfold Ih Li;rw[Sn,La,Cy,RC,E5,<-WN,M7];rfl
 rw[e,YN]
theorem AFn (row:List C)(f:AP)(l:List CR):V.Cs k row (I0 f l (G l))=I0 f l (G l):=by
 have e:I0 f l (G l)=(FK f l).flatten.map V.c:=by
  unfold I0 FK;rw[Sn,La,Cy,RC,E5,<-WN,M7];rfl
 rw[e,YN]
def bot (f:AP)(ov:Int):Int->List CR->Int
 | b,[]=>b
 | b,q::l=>bot f ov (b+((f.pick q.name).Dy - ov)) l
theorem AER (f:AP)(B:Int):∀(l:List CR) (b:Int) (q:CR),bot f B b (l++[q])=bot f B b l+((f.pick q.name).Dy - B)
 | [],b,q=>rfl
 | x::l,b,q=>by simp only[BK,bot];exact AER f B l _ q
theorem AH9 (f:AP)(B p:Int):∀(l:List CR) (b:Int) (q:CR),Gp f B p b (l++[q])=Gp f B p b l++[kt f p (bot f B b l) q]
 | [],b,q=>rfl
 | x::l,b,q=>by simp only[BK,Gp,bot];rw[AH9 f B p l _ q]
theorem AAQ (f:AP)(B p:Int):∀(l:List CR) (b:Int),G (Gp f B p b l)=G l
 | [],b=>rfl
 | x::l,b=>by simp only[Gp,BA,AAQ f B p l]
theorem AEQ (f:AP)(B:Int)(A:Int):∀(l:List CR) (b:Int),(∀q∈l,0<=(f.pick q.name).Dy - B/\(f.pick q.name).Dy - B<=A)->b<=bot f B b l/\bot f B b l<=b+A*(G l:Int)
 | [],b,_=>by simp[bot]
 | q::l,b,h=>by
   have Q:=h q (by simp);have ih:=AEQ f B A l (b+((f.pick q.name).Dy - B)) λq K=>h q (by simp[K])
   simp only[bot,BA];have:A*((G l+1:Nat):Int)=A*(G l:Int)+A:=by rw[Int.natCast_add,Int.mul_add];simp
   omega
theorem AJZ (r:Int):∀l:List CR,JR r l=l.flatMap λq=>Aq (times r q).toNat q
 | []=>rfl
 | q::l=>by simp only[JR,List.flatMap_cons,AJZ r l]
theorem AMB :(whole r l).map (λi=>l[i])=JR r l:=by
 rw[AJZ];unfold whole upto;rw[Gl (by simp),List.map_flatMap];have e:(ACu (G l)).map (λi=>l[i])=l:=by
  apply List.ext_getElem;simp;intro i B K;simp
 conv=>rhs;rw[<-e]
 rw[List.flatMap_map];congr 1
 funext i;simp[XJ]
theorem AIY : ∀(l:List AA) (m k:Int),k<=m->(m=k\/∃b∈l,m<=b.w)->IS m l=IS k l
 | [],m,k,h,K=>by
   rcases K with rfl|⟨b,Q,_⟩
   rfl;cases Q
 | b::l,m,k,h,K=>by
   simp only[IS];refine AIY l _ _ (by unfold mx;split<;>split<;>omega) ?_;by_cases R:m<=b.w;left;unfold mx;split<;>split<;>omega;rcases K with rfl|⟨c,B,S⟩
   exact .inl F;rcases Cf.1 B with rfl|B
   omega;right;exact⟨c,B,by unfold mx;split<;>omega⟩
theorem AIA (f:AP)(B p:Int):∀(l:List CR) (b:Int) (q:CR),q∈l->∃k∈Gp f B p b l,k.w=(DB f q.name p).1.w
 | [],b,q,h=>by cases h
 | x::l,b,q,h=>by
   simp only[Gp];rcases Cf.1 h with rfl|h
   exact⟨_,GH,F⟩;obtain⟨k,K,e⟩:=AIA f B p l _ q h;exact⟨k,Gk _ K,e⟩
theorem AIa {r:Int}(B:1<=r):∀ {l:List CR} {q:CR},q∈l->q∈JR r l
 | x::l,q,h=>by
   simp only[JR,MJ];rcases Cf.1 h with rfl|h
   left;rw[List.mem_replicate];refine⟨?_,F⟩;unfold times;split<;>omega;exact .inr (AIa B h)
theorem AN4 {f:AP}{p:Int}{l:List CR}(h:i<G l):∀B,(Li f p l)[i]'B=(DB f l[i].name p).1.row:=by simp[Li]
theorem AS0 {f:AP}{l:List CR}(h:i<G l):∀B,(FK f l)[i]'B=[.int .i64 (f.pick l[i].name).Dy]:=by simp[FK]
@[simp] theorem AbT (f:AP)(p:Int)(l:List CR):G (Li f p l)=G l:=by simp[Li]
@[simp] theorem AcI (f:AP)(l:List CR):G (FK f l)=G l:=by simp[FK]
theorem Q0 : ∀t:List V,DG t (Aq (G t) .any)
 | []=>rfl
 | v::t=>⟨.inl F,Q0 t⟩
theorem P5 (n:Nat):∀k:Nat,V.BI n (Aq k .any)=I
 | 0=>rfl
 | k+1=>by simp only[BY,V.BI,V.A8,Bool.true_and,P5 n k]
theorem Le.ct {m:Mo}{t:List V}{h B:List O}(Q:m.n0<=n)(K:h.take n=B)(R:(B.all (O.A8 n))=I):Le m ⟨t,h⟩ ⟨Aq (G t) .any,B⟩:=Le.MI n Q (Q0 t) K (P5 n _) R
def tj:List C:=[.int .i64 0,.str ⟨#[]⟩,.int .i64 0,.int .i64 0,.int .i64 0,.int .i64 0,.int .i64 0,.int .i64 0,.sl [],.int .i64 0,.sl []]
theorem pT (k es n:Nat)(row:List C)(l:List C):(l.map V.c).map (V.Db k es n row)=l.map V.c:=by
 rw[M7];rfl
theorem lh (k es n:Nat)(row:List C)(f:AP):f.vs.map (V.Db k es n row)=f.vs:=pT k es n row f.row
theorem AN1 (k es n:Nat)(row:List C)(f:AP)(p:Int)(l:List CR):(Ih f p l (G l)).map (V.Db k es n row)=Ih f p l (G l):=by
 have e:Ih f p l (G l)=(Li f p l).flatten.map V.c:=by
  unfold Ih Li;rw[Sn,La,Cy,RC,E5,<-WN,M7];rfl
 rw[e,pT]
theorem ASp (k es n:Nat)(row:List C)(f:AP)(l:List CR):(I0 f l (G l)).map (V.Db k es n row)=I0 f l (G l):=by
 have e:I0 f l (G l)=(FK f l).flatten.map V.c:=by
  unfold I0 FK;rw[Sn,La,Cy,RC,E5,<-WN,M7];rfl
 rw[e,pT]
theorem tU:n7:=by
 intro f s r p hf hv hs HP G9 G8 HN hp;obtain⟨_,_,g3,g4,g5,g6⟩:=QG hv hs;have D0:0<G s.parts:=Kr.2 hp;obtain⟨B1,B2⟩:=AB3 hv hs HP G9;have yS:=ACT f s r hf hv hs HP G9;obtain⟨T,hT⟩:=AI (LO f s r);rw[hT]at yS B1 B2;have Ew:128*(G s.parts:Int)<=281474976710656:=by omega
 have FP:8*(G s.parts:Int)<=281474976710656:=by omega
 have GO:(G s.parts:Int)<=9223372036854775807:=by omega
 unfold IU at yS ⊢;refine AC.intro func272 rfl ?_;simp only[ntmps272,Ap,BB,BA,BO,Nat.reduceAdd,Nat.reduceSub,BY,Cy,BK,BU,Bc.row];refine go (cj3 @Ek.eq_1 @Ew @FP @GO) ?_;refine gc (cj @Bc.row.eq_1<|@Ek.eq_1) (yS) AQf ?_;refine BZ (EI T p) ID ?_;refine go @Ek.eq_1 ?_;have e4:(Aq (G s.parts) BT).flatten=Ih f p s.parts 0:=by simp[Ih]
 have e6:Aq (G s.parts) (V.c (.int .i64 0))=I0 f s.parts 0:=by simp[I0]
 simp only[BT]at e4;rw[e4,e6];refine lp (ι:={ q:Nat×Int // q.1<=G s.parts/\0<=q.2/\q.2<=400000/\(q.1≠0->∃pt∈s.parts,q.2=(DB f pt.name p).1.w) }) (λq=>[(38,.c (.int .i64 (q.1.1:Int)))]) (λq=>[O.box 27 f.vs U,O.box 74 [.c (.str s.name),.c (Gv s.sizes),.c (.sl (s.parts.map CR.row)),.c (.int .i64 s.Dc)] U,O.box 3 [.c (.int .i64 p)] U,O.box 41 BT U,O.box 41 (Ih f p s.parts q.1.1) U,O.box 38 [.own 4 0 (G s.parts) 11] U,O.box 3 (I0 f s.parts q.1.1) U,O.box 39 [.own 6 0 (G s.parts) 1] U,O.box 41 (Nf q.1.2 (AU T p) (.Bg [])) U]) (λq=>G s.parts - q.1.1) ⟨(0,0),CI _,by simp,by simp,by simp⟩ ?_ ?_;all_goals simp only[CG,Bw,CO,Ag,Ai]
 exact ER (cj @Nf.eq_1<|@BT.eq_1)
 . rintro ⟨⟨k,wl⟩,hk,w1,w2,w3⟩;simp only at hk w1 w2 w3 ⊢;by_cases Q:k<G s.parts
   . obtain⟨q,hq⟩:=AI (s.parts[k]);have U5:q∈s.parts:=hq ▸ Kq Q;have hw:AZ.wrap ((k:Int)+1)=((k+1:Nat):Int):=by rw[Ac];simp
     have hc:=pn f q.name p hf.gl;have Yy:=AN3 f p s.parts k Q;have dE:=ASr f s.parts k Q;have qe:k*11+11<=G (Ih f p s.parts k):=by rw[AN2 _ _ _ _ hk];omega
     have Yn:k+1<=G (I0 f s.parts k):=by rw[ASq _ _ _ hk];omega
     rw[hq]at Yy dE;have Y7:=ACX hv G8 HN q.name;have PI:QC f q.name p=((DB f q.name p).1,0):=by
      unfold QC;rw[if_pos hv,(Pk hv G8 HN q.name).1]
     rw[PI]at hc;obtain⟨B,hB⟩:=AI ((DB f q.name p).1);have A0 : ∃pt∈s.parts,B.w=(DB f pt.name p).1.w:=⟨q,U5,by rw[hB]⟩
     rw[hB]at hc Yy Y7;obtain⟨bk,bn,bs,bw,bh,S,bx,Bq,EU,bo,Et⟩:=B;simp only[Ba,AR,Ao,AA.row,Ap,BB]at hc Yy Y7 A0;have z:=Ql hv q.name;unfold BG.Small at z;have QS:=dy f q.name hf.gl;obtain⟨g,hg⟩:=AI (f.pick q.name);rw[hg]at z QS dE;have e3:AZ.wrap (g.h+g.d)=g.Dy:=Ac;refine go (cj2 @Q @hq @CR.row.eq_1) ?_;refine BZ (hc) AQP ?_;refine Ah ?_;refine gc (cj @Hg.eq_1<|@BG.row.eq_1) (QS) AFr ?_;(with_reducible first|refine oX (po g) AKD (by kernel_rfl) (by kernel_rfl) ?_ ?_ ?_|refine Xz (po g) AKD (by kernel_rfl) (by kernel_rfl) ?_ ?_ ?_)
     focus (simp[BQ,Hg,BG.row,e3,Yy,dE,qe,Yn,Q];done)
     focus (simp[Ee,Hg,BG.row,e3,Yy,dE,qe,Yn,Q];done)
     first|(with_reducible refine If (by simp[BY,-E8,Hg,BG.row,e3,Yy,dE,qe,Yn,Q];first|exact rfl|exact⟨F,F⟩) ?_)|(with_reducible refine Es (by simp[BY,-E8,Hg,BG.row,e3,Yy,dE,qe,Yn,Q];first|exact rfl|exact⟨F,F,F⟩) ?_)
     refine go (cj @Nf.eq_1<|@hw) ?_;refine⟨⟨(k+1,bw),by simp only;omega,by simp only;omega,by simp only;omega,λ_=>A0⟩,by simp only;omega,?_⟩;refine Le.MI 9 (F2 F) (by simp[DG,Nf,BT,pA,rJ]) (by simp[Nf,BT,pA,rJ]) (by simp[V.BI,V.A8]) (by simp[O.A8,V.BI,V.A8,Nf,BT,pA,rJ])
   . obtain rfl:k=G s.parts:=by omega
     have w3:=w3 (by omega);refine Ah ?_;refine gc (cj2 @IU.eq_1 @Bc.row.eq_1 @Ek.eq_1) (AWH s r) func295 ?_;refine Ah ?_;refine AW.Bi 4 rfl (AN0 f p s.parts) (by simp[V.Cs,V.Bi,AEU];exact rfl) (by simp[O.Bi,V.Cs,V.Bi,AEU,AFl,AFn,Nf,BT];exact rfl) ?_;refine AW.Bi 6 rfl (ASo f s.parts) (by simp[V.Cs,V.Bi,AHa];exact rfl) (by simp[O.Bi,V.Cs,V.Bi,AHa,AFl,AFn,Nf,BT];exact rfl) ?_;refine AW.le (Le.T4 8 8 41 11 rfl F) ?_;simp only[BA,BO,Nat.reduceAdd,Ag,Ai,BK,BU];have mU:G (whole r s.parts)<=8000:=by
      have h1:=sH HP G9 s.parts;rw[<-AMB,Ch]at h1;omega
     refine AW.range (α:=Fin (G s.parts)) rfl rfl rfl (caps:=[.cp s.row 0,.cp [.int .i64 r] 0]) rfl rfl uq (by kernel_rfl) (by kernel_rfl) (xU s.parts) (λy=>.c (.int .i64 ((y.val:Nat):Int))) ?_ (λxs=>xs=whole r s.parts) (G (whole r s.parts)) (AWG s r g3 HP G9)
      (λpre=>[O.box 27 f.vs U,O.box 74 [.c (.str s.name),.c (Gv s.sizes),.c (.sl (s.parts.map CR.row)),.c (.int .i64 s.Dc)] U,O.box 3 [.c (.int .i64 p)] U,O.box 41 BT U,O.box 41 (Ih f p s.parts (G s.parts)) I,O.box 38 [.c (.sl (Li f p s.parts))] U,O.box 3 (I0 f s.parts (G s.parts)) I,O.box 39 [.c (.sl (FK f s.parts))] U,O.box 41 (Nf (IS wl (Gp f s.Dc p 0 (pre.map λi=>s.parts[i]))) (AU T p) (.gr 10 11 (AA.AG (Gp f s.Dc p 0 (pre.map λi=>s.parts[i]))))) U,O.box 3 [.c (.int .i64 (bot f s.Dc 0 (pre.map λi=>s.parts[i])))] U,O.tok 41 11 (G (Gp f s.Dc p 0 (pre.map λi=>s.parts[i])))]) ?_ 11 (λ_=>rfl) (by simp) ?_ ?_
     intro x' W y;simp only[CV,Ab,xU];exact⟨trivial,Q8 (by have:=y.isLt;unfold maxLen;omega)⟩;simp[Gp,IS,AA.AG,bot,Nf,BT]
     . rintro lp pre ⟨i,hi⟩ hN;simp only[Fm,Ap,BB,AH9,AER,Ag,Ai];obtain⟨L,hL⟩:=AI ((pre.map λi=>s.parts[i]));have Io:G L<8000:=by rw[<-hL,Ch];omega
       have A2 : ∀q∈L,q∈s.parts:=by
        intro q hq;rw[<-hL]at hq;obtain⟨j,_,rfl⟩:=Da.1 hq;exact Kq j.isLt
       have A3:=AEQ f s.Dc 40000 L 0 (λq hq=>by
        have h1:=g6 q (A2 q hq);have z:=Ql hv q.name;unfold BG.Small at z;unfold BG.Dy at h1 ⊢;omega)
       rw[hL];obtain⟨b,hb⟩:=AI (bot f s.Dc 0 L);have Ce:G (Gp f s.Dc p 0 L)=G L:=AAQ _ _ _ _ _;obtain⟨K,QO⟩:=AI (Gp f s.Dc p 0 L);rw[hb]at A3;rw[QO]at Ce;simp only[hb,QO];obtain⟨q,hq⟩:=AI (s.parts[i]);have U5:q∈s.parts:=hq ▸ Kq hi;have A5:=g6 q U5;have Ct:=AN4 (f:=f) (p:=p) hi;have jq:=AS0 (f:=f) hi;have Y7:=ACX hv G8 HN q.name;rw[hq]at Ct jq;have HM:s.parts[(⟨i,hi⟩:Fin (G s.parts))]=q:=hq;simp only[HM];have yK:kt f p b q={ (DB f q.name p).1 with y:=AU b p+(DB f q.name p).1.d }:=F;generalize hB:(DB f q.name p).1=B at Ct Y7 yK;obtain⟨bk,bn,bs,bw,bh,S,bx,Bq,EU,bo,Et⟩:=B;simp only[AA.row]at Ct Y7 yK;have z:=Ql hv q.name;unfold BG.Small at z;obtain⟨g,hg⟩:=AI (f.pick q.name);rw[hg]at z A5 jq;simp only[yK,hg];have B8:g.Dy=g.h+g.d:=F;have B3:AZ.wrap (g.Dy - s.Dc)=g.Dy - s.Dc:=Ac;have wb:AZ.wrap (b+(g.Dy - s.Dc))=b+(g.Dy - s.Dc):=Ac;have Y2:=AKe (n:=b) (p:=p) (by omega) (by omega) (by omega) (by omega);have B0:AZ.wrap (AU b p+S)=AU b p+S:=Ac;have FO:G K+1<=maxLen:=by unfold maxLen;omega
       have EX:(G K+1)*128<=140737488355328:=by omega
       have Bn:AA.AG (K++[⟨bk,bn,bs,bw,bh,S,bx,AU b p+S,EU,bo,Et⟩])=AA.AG K++[[.int .i64 bk,.str bn,.int .i64 bs,.int .i64 bw,.int .i64 bh,.int .i64 S,.int .i64 bx,.int .i64 (AU b p+S),.sl (AA.AG EU),.int .i64 bo,AV Et]]:=by rw[lG];rfl
       have l9:IS wl (K++[⟨bk,bn,bs,bw,bh,S,bx,AU b p+S,EU,bo,Et⟩])=if IS wl K<bw then bw else IS wl K:=by rw[AIZ];rfl
       refine go (cj2 @hi @Ct @Nf.eq_1) ?_;refine gc @B0 (EI b p) ID ?_;refine go @Nf.eq_1 ?_;have A1:G (AA.AG K)+1<=maxLen:=by rw[GA];exact FO
       have U3:(G (AA.AG K)+1)*128<=140737488355328:=by rw[GA];exact EX
       refine AW.Lm Fz (.inr (by decide)) ?_;refine TW.take 5 (Es (by simp[BY];exact⟨F,F⟩) (HI ?_));simp only[CU,B9];refine TW.op ⟨.Be 10 11 (AA.AG K),J (10,.Be 41 11 (G (AA.AG K)+1) (tj.map V.c)),J 10⟩ rfl (by intro k ob h;cases h;simp) ?_ ?_;intro S0 w0 x a w H g R A9;have hY:CV x w (.gr 10 11 (AA.AG K)) (a.eval (.tmp 93)):=R (.tmp 93) (by simp[Bl,Df]);have hZ:CV x w (.Bg [tj]) (a.eval (.tmp 96)):=R (.tmp 96) (by simp[Bl,Df]);simp only[CV]at hZ;obtain⟨_,_,hZ⟩:=hZ;exact dk g rfl lX hY hZ (by omega) rfl A1 U3 (by rw[A9 10 rfl,GA];rfl);simp only[St.step,St.put,Bk,BA,BO,Nat.reduceAdd,Nat.reduceLT,if_true,Ag,Ai,BU,BK];refine TW.op ⟨.hp 10 (G (AA.AG K)+1) (G (AA.AG K)*11),E,J 10⟩ rfl (by intro k ob h;cases h) ?_ ?_;intro S0 w0 x a w H g R A9;have hY:CV x w (.Be 10 11 (AA.AG K)) (a.eval (.tmp 97)):=R (.tmp 97) (by simp[Bl]);have hZ:CV x w (.c (.int .i64 (G K:Int))) (a.eval (.tmp 95)):=R (.tmp 95) (by simp[Bl]);exact r7 g rfl hY (by rw[GA];exact hZ) lX (A9 10 F);simp only[St.step,St.put,Bk,BA,BO,Nat.reduceAdd,Nat.reduceLT,if_true,Ag,Ai,BU,BK];refine TW.op ⟨.any,J (10,.Be 41 11 (G (AA.AG K)+1) [.c (.int .i64 bk),.c (.str bn),.c (.int .i64 bs),.c (.int .i64 bw),.c (.int .i64 bh),.c (.int .i64 S),.c (.int .i64 bx),.c (.int .i64 (AU b p+S)),.c (.sl (AA.AG EU)),.c (.int .i64 bo),.c (AV Et)]),J 10⟩ rfl (by intro k ob h;cases h;simp) ?_ ?_;intro S0 w0 x a w H g R A9;have hY:CV x w (.hp 10 (G (AA.AG K)+1) (G (AA.AG K)*11)) (a.eval (.tmp 98)):=R (.tmp 98) (by simp[Bl]);have hZ:=R (.tmp 94) (by simp[Bl]);exact AI5 g (q:=(I,11)) rfl tO hY hZ (A9 10 F) rfl rfl rfl F;simp only[St.step,St.put,Bk,BA,BO,Nat.reduceAdd,Nat.reduceLT,if_true,Ag,Ai,BU,BK];refine TW.take 2 (Es (by simp[BY];exact⟨F,F⟩) (HI (TW.nil ⟨by kernel_rfl,?_⟩)));refine G3 ?_;refine AW.le (Le.Db 10 (ty:=41) (es:=11) (n:=G K) (cs:=Vf V.c [.int .i64 bk,.str bn,.int .i64 bs,.int .i64 bw,.int .i64 bh,.int .i64 S,.int .i64 bx,.int .i64 (AU b p+S),.sl (AA.AG EU),.int .i64 bo,AV Et]) (row:=[.int .i64 bk,.str bn,.int .i64 bs,.int .i64 bw,.int .i64 bh,.int .i64 S,.int .i64 bx,.int .i64 (AU b p+S),.sl (AA.AG EU),.int .i64 bo,AV Et]) rfl (toCs_mapV _) ?_) ?_
       . intro j ty es B7 cs h;iterate 10 (rcases j with _|j;· simp at h)
         rcases j with _|j
         rfl;rcases j with _|j
         simp at h;simp at h
       simp only[Ap,BB,V.Db,O.Db,GA,and_self,if_true,AN1,ASp,lh,BT];refine go (cj3 @hi @jq @B3 @wb) ?_;refine⟨F,_,Le.ct 11 (F2 F) ?_ ?_⟩;simp[Bn,l9,Nf,BT];simp[O.A8,V.BI,V.A8,Nf,BT,pA,rJ]
     rintro xs rfl;rw[AMB];obtain⟨K,QO⟩:=AI (Gp f s.Dc p 0 (JR r s.parts));have A6:IS wl K=IS 0 K:=by
      obtain⟨pt,kE,e⟩:=w3;obtain⟨b,hb,e2⟩:=AIA f s.Dc p (JR r s.parts) 0 pt (AIa HP kE);rw[QO]at hb;exact AIY K wl 0 w1 (.inr ⟨b,hb,by omega⟩)
     have hR:Ba (V4 f s r p,0)=.A7 [.agg [.c (.int .i64 3),.c (.str ⟨#[]⟩),.c (.int .i64 0),.c (.int .i64 (IS 0 K)),.c (.int .i64 (AU T p)),.c (.int .i64 0),.c (.int .i64 0),.c (.int .i64 0),.c (.sl (AA.AG K)),.c (.int .i64 0),.c (.sl [])],.c (.int .i64 0)]:=by
      unfold Ba Ao V4;rw[QO,hT];rfl
     rw[hR];simp only[QO,A6];refine go (cj @Nf.eq_1<|@BT.eq_1) ?_;exact At results272
theorem AKd {n p:Int}(Q : -1000000000<=n)(R:n<=1000000000)(B:0<=p)(K:p<=100): -1000000001<=AU n p/\AU n p<=1000000001:=by
 rw[<-ABa (by omega) (by omega) B (by omega)];have m:=Qh n p 1000000000 100 (by omega) (by omega) B K;unfold Ea;split<;>omega
theorem AFp {f:AP}{p K:Int} : ∀ {l:List ByteArray} {n:ByteArray},TG f p K l=J n->∃j:Nat,l[j]?=J n/\K<=XV f n p/\∀(i:Nat) (m:ByteArray),i<j->l[i]?=J m->XV f m p<K
 | [],n,h=>by simp[TG]at h
 | x::r,n,h=>by
   simp only[TG]at h;split at h;simp only[BL]at h;subst h;exact⟨0,F,by assumption,λi m q=>by omega⟩;rename_i z;obtain⟨j,Q,R,S⟩:=AFp h;refine⟨j+1,by simpa using Q,R,λi m q B=>?_⟩;match i,B with
   | 0,B=>simp at B;subst B;omega
   | i+1,B=>exact S i m (by omega) (by simpa using B)
theorem ALG (f:AP)(s:Bc)(p B:Int):∀k:Nat,1000 - (k:Int)<=LM f s p B k/\LM f s p B k<=1000/\(∀r:Int,1000 - (k:Int)<=r->r<LM f s p B k->AU (LO f s r) p<B)/\(LM f s p B k<1000->B<=AU (LO f s (LM f s p B k)) p)
 | 0=>by simp[LM];intro r S Q;omega
 | k+1=>by
   obtain⟨S,Q,q,z⟩:=ALG f s p B k;simp only[LM];split;rename_i h;refine⟨by push_cast;omega,by omega,λr K R=>by push_cast at K;omega,λ_=>h⟩;rename_i h;refine⟨by push_cast;omega,Q,λr K R=>?_,z⟩;by_cases e:r=1000 - ((k:Int)+1)
   subst e;omega;exact q r (by push_cast at K;omega) R
theorem yk {x:ByteArray} : ∀ {l:List ByteArray},x∈l->KX x l=I
 | y::r,h=>by
   simp only[KX];split;rfl;rename_i B;rcases Cf.1 h with rfl|h
   exact absurd rfl B;exact yk h
theorem AUW {α:Type}{l:List α}{x:α}(h:l[i]?=J x):x∈l:=Cj h
theorem AEm {f:AP}(hv:f.valid=I)(name:ByteArray)(K p:Int):KH f name (J2 f name K p)=true:=by
 cases B:f.I8 name with
 | none =>
   have e:J2 f name K p=⟨name,0⟩:=by unfold J2;rw[B]
   rw[e];unfold KH;rw[B];simp
 | some s =>
   obtain⟨g1,_⟩:=QG hv (Se B).1;cases R:TG f p K s.sizes with
   | some n =>
     have e:J2 f name K p=⟨n,0⟩:=by unfold J2;rw[B];simp only[WA];rw[R]
     obtain⟨j,q,_⟩:=AFp R;rw[e];unfold KH;rw[B];simp only[if_true];exact yk (AUW q)
   | none =>
     by_cases S:s.parts=[]
     have Q:G s.sizes - 1<G s.sizes:=by omega
     have e:J2 f name K p=⟨s.sizes[G s.sizes - 1],0⟩:=by
      unfold J2;rw[B];simp only[WA];rw[R];simp only[S,if_true];rw[List.getD_eq_getElem?_getD,BE Q];rfl
     rw[e];unfold KH;rw[B];simp only[if_true];exact yk (Kq Q);have e:J2 f name K p=⟨⟨#[]⟩,LM f s p K 999⟩:=by unfold J2;rw[B];simp only[WA];rw[R];simp only[S,if_false]
     obtain⟨q,h2,_⟩:=ALG f s p K 999;have hl:0<G s.parts:=Kr.2 S;have z:1<=LM f s p K 999:=by omega
     have h0 : ¬LM f s p K 999=0:=by omega
     rw[e];unfold KH;rw[B];simp[h0,hl,z,h2]
theorem AQ.AVk {P:Program}{f:FuncId}{args:List V}{m:Nat}{ι:Type}{R:ι->Obj->Prop}{R':Obj->Prop}{out:Out}(h : ∀i,AQ P f args m (R i) R' out):AQ P f args m (λB=>∃i,R i B) R' out:=λS w us B K Q q z h5=>let ⟨i,hi⟩:=z;h i S w us B K Q q hi h5
def ADf (f:AP)(e:MapEntry):Prop:=∃(s:ByteArray) (n:Int),e.key=.agg #[.string s,.int .i64 n]/\∀x w,CV x w (Ao (DB f s n).1) e.val
def P0 (f:AP)(M:ByteArray->Int->Bool)(ob:Obj):Prop:=∃es cl,ob=.map es cl/\(∀e∈es.toList,ADf f e)/\∀s n,M s n=I↔∃e∈es.toList,e.key=.agg #[.string s,.int .i64 n]
def BM (f:AP)(ob:Obj):Prop:=∃M,P0 f M ob
def fP (M:ByteArray->Int->Bool)(s:ByteArray)(n:Int):ByteArray->Int->Bool:=λs' n'=>M s' n' || (decide (s'=s) && decide (n'=n))
theorem AN8 {s s':ByteArray}(h:s≠s'):(s==s')=false:=by
 cases B:(s==s')with
 | false=>rfl
 | true=>exact absurd ((MapKept.bytes_beq _ _).1 B) h
theorem geq (s s':ByteArray)(n n':Int)(w:World):(Op.equal 165 (.agg #[.string s,.int .i64 n]) (.agg #[.string s',.int .i64 n'])).run AF w=.ok (decide (s=s') && decide (n=n')) w:=by
 have e:Op.equal 165 (.agg #[.string s,.int .i64 n]) (.agg #[.string s',.int .i64 n'])=Op.equalIn (9999+1) 165 (.agg #[.string s,.int .i64 n]) (.agg #[.string s',.int .i64 n']):=F;rw[e,run_equalIn_agg _ _ _ _ _ (by kernel_rfl) (by kernel_rfl)];have h1:(s.toList==s'.toList)=decide (s=s'):=by
  rw[<-beq_toListBytes];by_cases h:s=s';subst h;simp[(MapKept.bytes_beq s s).2 rfl];simp[AN8 h,h]
 have h2:(n==n')=decide (n=n'):=by
  by_cases h:n=n'<;>simp[h]
 go_simp;by_cases h3:s=s'<;>by_cases h4:n=n'<;>simp[h3,h4]
theorem xf (f:AP)(s:ByteArray)(n:Int)(w:World):∀(es:List MapEntry) (i:Nat),(∀e∈es,ADf f e)->∃r,(fj 165 (.agg #[.string s,.int .i64 n]) es i).run AF w=.ok r w/\(r=E->∀e∈es,e.key≠.agg #[.string s,.int .i64 n])/\∀j v,r=J (j,v)->(∃e∈es,e.key=.agg #[.string s,.int .i64 n])/\∀x w,CV x w (Ao (DB f s n).1) v
 | [],i,_=>⟨E,by simp[fj],(λ_ e q=>by cases q),(λ_ _ h=>by cases h)⟩
 | e::es,i,h=>by
   obtain⟨s',n',Q,hv⟩:=h e GH;obtain⟨r,i1,i2,i3⟩:=xf f s n w es (i+1) λe q=>h e (Gk _ q)
   by_cases S:s=s'/\n=n';obtain⟨rfl,rfl⟩:=S;refine⟨J (i,e.val),?_,λh=>by(cases h),λj v z=>?_⟩;simp[fj,Q,geq];cases z;exact⟨⟨e,GH,Q⟩,hv⟩;have hd:(decide (s=s') && decide (n=n'))=false:=by
    by_cases a:s=s';have b:n≠n':=λb=>S ⟨a,b⟩
    simp[b];simp[a]
   refine⟨r,?_,λhr R B=>?_,λj v z=>?_⟩;simp only[fj,Q,Sem.run_bind,geq,hd];simpa using i1;rcases Cf.1 B with rfl|B
   rw[Q];intro K;injection K with K
   simp only[ACd,Vb,AM3,Value.int.injEq,and_true,true_and]at K;exact S ⟨K.1.symm,K.2.symm⟩;exact i2 hr R B;obtain⟨⟨R,B,Hh⟩,A0⟩:=i3 j v z;exact⟨⟨R,Gk _ B,Hh⟩,A0⟩
theorem AFx {n:Int}{es:List MapEntry}{r:Option (Nat×Value)}{w:World}(h:(fj 165 (.agg #[.string s,.int .i64 n]) es 0).run AF w=.ok r w):(ACk 165 (.agg #[.string s,.int .i64 n]) es).run AF w=.ok r w:=by
 cases es with
 | nil=>simpa [ACk,run_underlying AcE,Instr.findNow,fj]using h
 | cons e es=>simpa [ACk,run_underlying AcE,Instr.findNow,Instr.sameNow]using h
theorem Aa6 (x:Cx)(w:World):∃z,(zeroValue 41).run AF w=.ok z w/\CV x w (Ao AA.zero) z:=by
 refine⟨.agg #[.int .i64 0,.string ⟨#[]⟩,.int .i64 0,.int .i64 0,.int .i64 0,.int .i64 0,.int .i64 0,.int .i64 0,.slice E 0 0,.int .i64 0,.slice E 0 0],by kernel_rfl,?_⟩;have B:(Lit.int .i64 0).wf=true:=by decide +kernel
 simp only[Ao,AA.zero,AA.row,AA.AG,AV,Ap,BB,CV,AO,Ab];exact⟨_,F,_,_,F,⟨F,B⟩,_,_,F,⟨F,by decide +kernel⟩,_,_,F,⟨F,B⟩,_,_,F,⟨F,B⟩,_,_,F,⟨F,B⟩,_,_,F,⟨F,B⟩,_,_,F,⟨F,B⟩,_,_,F,⟨F,B⟩,_,_,F,⟨E,0,F,BN _,CI _,λh=>absurd rfl h⟩,_,_,F,⟨F,B⟩,_,_,F,⟨E,0,F,BN _,CI _,λh=>absurd rfl h⟩,F⟩
section
variable {S0:BF} {w0:Bs} {x:Cx} {w:World} {H:Bx} {a:Act} {o:Oper}
theorem AVK (g:Good S0 w0 x w H){y z:Operand}(ho:o.op=.lookup 87 y z I){k m:Nat}{n:Int}{f:AP}(hy:CV x w (.c (.MA m)) (a.eval y))(K:CV x w (.agg [.c (.str s),.c (.int .i64 n)]) (a.eval z))(hk:H k=J (.mp (Ci m (P0 f M)))):
 BW AF o a S0 w0 x w H (.A7 [Ao (if M s n=I then(DB f s n).1 else AA.zero),.c (.bool (M s n))]) none:=by
 have K:=AFy K;simp only[CV,Ab]at hy;obtain⟨_,_,_,ob,S,_,hm,es,cl,rfl,hE,hM⟩:=g.ok k _ hk;rw[hm]at S;obtain⟨r,h1,h2,h3⟩:=xf f s n w es.toList 0 hE;have qf:=AFx h1;obtain⟨zv,Y9,IN⟩:=Aa6 x w;cases r with
 | none =>
   have Q:M s n=false:=by
    cases hc:M s n with
    | false=>rfl
    | true=>obtain⟨e,q,hk⟩:=(hM s n).1 hc;exact absurd hk (h2 rfl e q)
   rw[Q];refine BW.pure g (u:=.tuple #[zv,.bool U]) ?_ ?_;have B:(fk 87 (.map (J m)) (.agg #[.string s,.int .i64 n]) I).run AF w=.ok (.tuple #[zv,.bool U]) w:=by
    simp[fk,run_underlying AcG,ACz S,ABg,qf,Y9]
   simp[execOp,ho,hy,K,B];rw[if_neg (by simp)];simp only[CV,AO,Ab];exact⟨_,F,_,_,F,IN,_,_,F,F,F⟩
 | some p =>
   obtain⟨j,v⟩:=p;obtain⟨⟨e,q,A0⟩,hv⟩:=h3 j v F;have R:M s n=true:=(hM s n).2 ⟨e,q,A0⟩;rw[R];refine BW.pure g (u:=.tuple #[v,.bool I]) ?_ ?_;have B:(fk 87 (.map (J m)) (.agg #[.string s,.int .i64 n]) I).run AF w=.ok (.tuple #[v,.bool I]) w:=by
    simp[fk,run_underlying AcG,ACz S,ABg,qf]
   simp[execOp,ho,hy,K,B];rw[if_pos rfl];simp only[CV,AO,Ab];exact⟨_,F,_,_,F,hv x w,_,_,F,F,F⟩
theorem AVL (g:Good S0 w0 x w H){y z q:Operand}(ho:o.op=.mapUpdate 87 y z q){k m:Nat}{n:Int}{f:AP}(hy:CV x w (.c (.MA m)) (a.eval y))(hz:CV x w (.agg [.c (.str s),.c (.int .i64 n)]) (a.eval z))(hq : ∀x w,CV x w (Ao (DB f s n).1) (a.eval q))(A0:M s n=U)(hk:H k=J (.mp (Ci m (P0 f M)))):
 BW AF o a S0 w0 x w H .any (J (k,.mp (Ci m (P0 f (fP M s n))))):=by
 have hz:=AFy hz;simp only[CV,Ab]at hy;obtain⟨hd,h1,h2,ob,hb,A3,hm,es,cl,rfl,hE,hM⟩:=g.ok k _ hk;obtain⟨r,f1,f2,f3⟩:=xf f s n w es.toList 0 hE;have qf:=AFx f1;have hr:r=none:=by
  cases r with
  | none=>rfl
  | some p =>
    obtain⟨j,v⟩:=p;have:=(hM s n).2 (f3 j v F).1;rw[A0]at this;cases this
 subst hr;obtain⟨K,Iw⟩:∃K,K=Obj.map (es.push { key:=.agg #[.string s,.int .i64 n],val:=a.eval q,born:=cl }) (cl+1):=⟨_,rfl⟩
 have Q:(mJ 87 (.map (J (x.loc k).b)) (.agg #[.string s,.int .i64 n]) (a.eval q)).run AF w=.ok () (w.putObj (x.loc k).b K):=by
  rw[Iw];simp[mJ,run_underlying AcG,ACz hb,ABg,qf,MapKept.run_setObj_map _ hb];rfl
 have jT:P0 f (fP M s n) K:=by
  refine⟨_,_,Iw,λe B=>?_,λs' n'=>?_⟩;simp only[AMP,MJ,LY]at B;rcases B with B|rfl
  exact hE e B;exact⟨s,n,F,hq⟩;simp only[fP,Bool.or_eq_true,Bool.and_eq_true,decide_eq_true_eq,hM,AMP,MJ,LY];constructor;rintro (⟨e,B,h⟩|⟨rfl,rfl⟩);exact⟨e,.inl B,h⟩;exact⟨_,.inr F,F⟩;rintro ⟨e,B|rfl,h⟩;exact .inl ⟨e,B,h⟩;simp only at h;injection h with h
  simp only[ACd,Vb,AM3,Value.int.injEq,and_true,true_and]at h;exact .inr ⟨h.1.symm,h.2.symm⟩
 have R:w.grownBy (w.putObj (x.loc k).b K) (J (x.loc k).b):=grownBy_putObj' w _ _;have A1:=(Array.getElem?_eq_some_iff.1 hb).1;have CT:(w.putObj (x.loc k).b K).heap[(x.loc k).b]?=J K:=World.putObj_heap_same A1;have ar:Ar x.S x.S w (w.putObj (x.loc k).b K):=⟨λ_ _ h=>h,λb j v hS hc=>by
  have A2:b≠(x.loc k).b:=λe=>by
   subst e;unfold World.cell? at hc;simp[hb]at hc
  exact(World.cell?_of_block (R.block b (g.ex b j hS) λe=>A2 (ML e))).trans hc⟩
 have B:Ext x x w (w.putObj (x.loc k).b K):=⟨ar,λ_ h=>h,λ_ _=>FM.refl _⟩
 have g':=g.H5 k (.mp (Ci m (P0 f (fP M s n)))) B ⟨R.os,R.tape,R.output,R.size,λb Fc KY=>R.block b Fc λe=>KY ⟨hd,h2,(ML e).symm⟩⟩ (λi=>⟨.inl,λh=>h.elim id λe=>e ▸ hd⟩) (λ_ _=>rfl) (λ_=>.inl ⟨hd,h2,rfl⟩) ⟨h1,h2,K,CT,(by rw[Iw];rfl),hm,jT⟩ (λb j h=>.inl h) (λj hx=>hx.elim);refine⟨.skip,_,x,undef,?_,.inr ⟨F,F⟩,by simp only[CV],g',B,λ_ h=>.inl h,λ_=>rfl⟩;rw[hm]at Q;simp[execOp,ho,hy,hz,Q,hm]
end
theorem AOg {b:AA}(B:b.AE=[])(K:b.src=[]){x:Cx}{w:World}{u:Value}(h:CV x w (Ao b) u)(x':Cx)(w':World):CV x' w' (Ao b) u:=by
 obtain⟨Q,R,S,q,z,b5,b6,b7,AE,o,src⟩:=b;simp only at B K;subst B K;simpa [Ao,AA.row,AA.AG,AV,CV,AO,Ab]using h
def Ui (y:Nat)(b e d:Int)(k:Nat):List V:=[.yl y,.cp [.int .i64 b] 0,.cp [.int .i64 e] 0,.cp [.int .i64 d] 0,.any,.c (.int .i64 (b+d*k)),.any,.any,.any,.any,.any,.any,.any,.any,.any,.any,.any]
theorem pk {α:Type}(val:α->Int)(l:List α)(b e d:Int)(hb:0<=b)(Fc:b<=1000000)(hd:0<=d)(QL:d<=1000000)(TO:e<=1000000)(hv : ∀(k:Nat) (y:α),l[k]?=J y->val y=b+d*(k:Int))(S : ∀y∈l,val y<e)(JL:e<=b+d*(G l:Int)) :
 UU AF 242 [.cp [.int .i64 b] 0,.cp [.int .i64 e] 0,.cp [.int .i64 d] 0] (λy=>#[.int .i64 (val y)]) (λxs=>xs=l) (G l):=by
 refine UU.intro func242 rfl rfl λY=>?_
 simp only[ntmps242,BA,BO,Nat.reduceAdd,Nat.reduceSub,BY,Cy,BK,BU];refine ED trivial ?_;refine IW.loop (ι:={ k:Nat // k<=G l }) (λk=>(⟨l.take k.1,U⟩,⟨Ui Y.l b e d k.1,[]⟩)) (λk=>G l - k.1) ⟨0,by omega⟩ (by simp) ?_ ?_;refine G1.drop (by simp[DG,Ui]) (by simp[V.BI,V.A8,Ui]);rintro ⟨k,hk⟩;simp only[Ui];by_cases K:k<G l
 . obtain⟨y,q⟩:=AI (l[k]);have B:l[k]?=J y:=by rw[BE K,q]
   have Q:=hv k y B;have R:=S y (Cj B);rw[Q]at R;have Iu:0<=d*(k:Int):=RB hd (by omega);have e1:b+d*(k:Int)+d=b+d*((k+1:Nat):Int):=by push_cast;rw[Int.mul_add];omega
   have hw:AZ.wrap (b+d*(k:Int)+d)=b+d*((k+1:Nat):Int):=by rw[Ac,e1]
   refine ED @R ?_;refine IL.yield y (Ui Y.l b e d k) rfl rfl (by simp[ev]) (by first|(simp[ev];exact⟨F,F⟩)|(simp[ev];done)) (by rw[Q]) (by rw[Fa];omega) (by simp[DG,Ui]) (by simp[V.BI,V.A8,Ui]) ?_ ?_;simp only[St.put,Ui,Ag,Ai,BA,BO,Nat.reduceAdd,BY,Cy];refine ED @hw ?_;refine⟨⟨k+1,by omega⟩,by simp only;omega,?_,?_⟩;simp only[UD K,q];exact G1.drop (by simp[DG]) (by simp[V.BI,V.A8]);simp only[St.put,Ui,Ag,Ai,BA,BO,Nat.reduceAdd,BY,Cy];refine ED trivial ?_;exact⟨.inr F,λh=>nomatch h⟩
 have z:k=G l:=by omega
 subst z;have R : ¬(b+d*(G l:Int)<e):=by omega
 refine ED @R ?_;refine⟨.inl F,λ_=>?_⟩;simp
theorem iw (b e d:Int):AC AF 167 [.c (.int .i64 b),.c (.int .i64 e),.c (.int .i64 d)] (.fn 242 [.cp [.int .i64 b] 0,.cp [.int .i64 e] 0,.cp [.int .i64 d] 0]):=by
 refine en func167 ntmps167 ?_;with_reducible refine AW.seq ?_
 with_reducible refine AW.region ?_
 with_reducible refine If (by simp[BY];first|exact rfl|exact⟨F,F⟩) ?_
 with_reducible refine Kz ?_
 with_reducible refine G3 ?_
 refine Cn 0 ?_;refine Cn 1 ?_;refine Cn 2 ?_;refine Ah ?_;exact At results167
theorem xh (a:Int)(l:List Int)(hl:G l<=1000000):AC AF 241 [.c (.int .i64 a),.c (AV l)] (.c (.int .i64 (l.foldl mx a))):=by
 obtain⟨K,R⟩:=AI (l.map (λn=>[C.int .i64 n]));have Q:G K=G l:=by rw[<-R];simp
 have Wd:AV l=.sl K:=by rw[<-R];rfl
 rw[Wd];refine en func241 ntmps241 ?_;refine go @Q ?_;refine lp (ι:={ k:Nat // k<=G l }) (λk=>[(0,.c (.int .i64 ((l.take k.1).foldl mx a))),(9,.c (.int .i64 (k.1:Int)))]) (λ_=>[]) (λk=>G l - k.1) ⟨0,by omega⟩ ?_ ?_;all_goals simp only[CG,Bw,CO,Ag,Ai]
 exact DH;rintro ⟨k,hk⟩;simp only;by_cases B:k<G l;obtain⟨y,hy⟩:=AI (l[k]);have z:K[k]?=J [.int .i64 y]:=by rw[<-R,List.getElem?_map,BE B,hy];rfl
 have Ei:=gx z;have Dp:k<G K:=by omega
 have hw:AZ.wrap ((k:Int)+1)=((k+1:Nat):Int):=by rw[Ac];simp
 have q:(l.take (k+1)).foldl mx a=mx ((l.take k).foldl mx a) y:=by rw[UD B,hy,List.foldl_append];rfl
 obtain⟨M,S⟩:=AI ((l.take k).foldl mx a);rw[S]at q;simp only[S];refine wy (cj6 @B @Q @Dp @z @Ei @hw GY) trivial ⟨?_⟩;refine⟨⟨k+1,by omega⟩,by simp only;omega,?_⟩;simp only[q,mx];exact DH;obtain rfl:k=G l:=by omega
 exact wz (cj2 @B @Q GY) W
end Go.Proofs.YtglaipbdiofkfaaGreat
