/- Part of the proof of breakpointLength.proved. Conditions: none. (Joined and shortened by a program.) -/
import Derived.Test.YtpodcjcajanldaaGreatP14
import Derived.Test.YtpodcjcajanldaaGreatP15
import Derived.Test.YtpodcjcajanldaaGreatP19
set_option linter.unusedVariables false
set_option linter.unusedSimpArgs false
set_option maxRecDepth 100000
set_option maxHeartbeats 16000000
open Go.Proofs.Tryz renaming prog→AD,func228→YG,func170→Ls,func106→IB,func97→Q4,ntmps97→ig,func81→YI,results97→jA,func92→Gm
open List renaming map_cons→Al,map_nil→A8,take_of_length_le→D9,length_cons→BQ,length_nil→B6,set_cons_zero→BC,set_cons_succ→Az,cons_append→Bg,foldl_cons→Bl,getElem?_map→Co,getElem?_eq_getElem→BP,mem_cons_self→Er,mem_cons_of_mem→Ff,mem_cons→Cb,map→Vc,map_set→g7
open Option.some renaming inj→JW,injEq→BE
open Go.IntKind renaming i64→Ad
open Bool renaming and_eq_true→An
open Nat renaming zero_le→Cc,le_refl→BW
open Prod.mk renaming injEq→Cp
open Array renaming toList_inj→Gk
open Go.Deferred renaming ofValue→Pa
open Go.Op renaming operands→CN
open Go.Call renaming operands→D7
namespace Go.Proofs.YtpodcjcajanldaaGreat
open Go.RowKit
theorem KM (n:Int):AC AD 228 [.c (.int .i64 n)] (.c (.int .i64 (half n))):=by
 cases hv:Aw n with
 | false =>
   have hs:half n=0:=by simp[half,hv]
   refine en YG Tryz.ntmps228 ?_;refine Ac ?_;refine gc @hv (NB n) Ls ?_;refine go @hv ?_;simp[Aj,AV,AZ,Aa,V.AP,V.AO,AU,Tryz.results228,hs]
 | true =>
   have hs:half n=quot n 2:=by rw[ASA];simp[half,hv]
   have hv':=hv;simp[Aw]at hv';refine en YG Tryz.ntmps228 ?_;refine Ac ?_;refine gc @hv (NB n) Ls ?_;refine go @hv ?_;refine BY (AFK n 2 (by omega) (by omega) (.inr rfl)) Tryz.func171 ?_;refine Ac ?_;simp[Aj,AV,AZ,Aa,V.AP,V.AO,AU,Tryz.results228,hs]
theorem Gc (b:AA)(x y:Int)(hs:b.src.length<=1000000):AC AD 227 [BD b,.c (.int .i64 x),.c (.int .i64 y)] (BD (b.at_ x y)):=by
 obtain⟨b0,b1,b2,b3,b4,b5,b6,b7,kids,o,src⟩:=b;have hc:=kH src hs;simp only[BD,AA.at_,AA.row,Al,A8];refine en Tryz.func227 Tryz.ntmps227 ?_;refine Ac ?_;refine BY (hc) Tryz.func172 ?_;refine Ac ?_;simp[Aj,AV,AZ,Aa,V.AP,V.AO,AU,Tryz.results227]
theorem vZ (w h d:Int):AC AD 229 [.c (.int .i64 w),.c (.int .i64 h),.c (.int .i64 d)] (BD (Dw w h d)):=by
 simp only[BD,Dw,AA.row,AA.rows,Al,A8];refine en Tryz.func229 Tryz.ntmps229 ?_;refine Ac ?_;simp[Aj,AV,AZ,Aa,V.AP,V.AO,AU,Tryz.results229,Ab]
theorem mY (n p q:Int):AC AD 230 [.c (.int .i64 n),.c (.int .i64 q),.cp [.int .i64 p] 0] (.c (.int .i64 (scale (scale n p) q))):=by
 refine en Tryz.func230 Tryz.ntmps230 ?_;refine Ac ?_;refine BY (Dn n p) IB ?_;refine BY (Dn (scale n p) q) IB ?_;refine Ac ?_;simp[Aj,AV,AZ,Aa,V.AP,V.AO,AU,Tryz.results230]
@[simp] theorem AI.AcO (f:AI):f.vs[17]?=some (.c (.int .i64 f.params.Jo)):=rfl
@[simp] theorem AI.AcB (f:AI)(h:17<f.vs.length):f.vs[17]'h=.c (.int .i64 f.params.Jo):=rfl
@[simp] theorem AI.AcP (f:AI):f.vs[18]?=some (.c (.int .i64 f.params.Jp)):=rfl
@[simp] theorem AI.AcC (f:AI)(h:18<f.vs.length):f.vs[18]'h=.c (.int .i64 f.params.Jp):=rfl
def AA.vs (b:AA):List V:=b.row.map V.c
theorem Ay (b:AA):BD b=.agg b.vs:=rfl
section
variable (b:AA)
@[simp] theorem AA.VV:b.vs.length=11:=by cases b;rfl
@[simp] theorem AA.xH:b.vs.all V.one=true:=by cases b;rfl
@[simp] theorem AA.xI:b.vs.take 11=b.vs:=D9 (by simp)
@[simp] theorem AA.xE:b.vs[0]?=some (.c (.int .i64 b.kind)):=by cases b;rfl
@[simp] theorem AA.xC (h:0<b.vs.length):b.vs[0]'h=.c (.int .i64 b.kind):=by cases b;rfl
@[simp] theorem AA.xF:b.vs[3]?=some (.c (.int .i64 b.w)):=by cases b;rfl
@[simp] theorem AA.xD (h:3<b.vs.length):b.vs[3]'h=.c (.int .i64 b.w):=by cases b;rfl
@[simp] theorem AA.AVi:b.vs[4]?=some (.c (.int .i64 b.h)):=by cases b;rfl
@[simp] theorem AA.AVd (h:4<b.vs.length):b.vs[4]'h=.c (.int .i64 b.h):=by cases b;rfl
@[simp] theorem AA.AVj:b.vs[5]?=some (.c (.int .i64 b.d)):=by cases b;rfl
@[simp] theorem AA.AVe (h:5<b.vs.length):b.vs[5]'h=.c (.int .i64 b.d):=by cases b;rfl
@[simp] theorem AA.AVk:b.vs[6]?=some (.c (.int .i64 b.x)):=by cases b;rfl
@[simp] theorem AA.AVf (h:6<b.vs.length):b.vs[6]'h=.c (.int .i64 b.x):=by cases b;rfl
@[simp] theorem AA.AVl:b.vs[7]?=some (.c (.int .i64 b.y)):=by cases b;rfl
@[simp] theorem AA.AVg (h:7<b.vs.length):b.vs[7]'h=.c (.int .i64 b.y):=by cases b;rfl
@[simp] theorem AA.AVm:b.vs[8]?=some (.c (.sl (AA.rows b.kids))):=by cases b;rfl
@[simp] theorem AA.AVh (h:8<b.vs.length):b.vs[8]'h=.c (.sl (AA.rows b.kids)):=by cases b;rfl
@[simp] theorem AA.nt:V.AO b.vs=some b.vs:=Xg b.row
@[simp] theorem AA.xJ:toCs b.vs=some b.row:=toCs_c b.row
@[simp] theorem AA.AHe (cs:List V)(h:cs.length=11):Ek cs 0 b.vs=b.vs:=Zd (by simp[h])
@[simp] theorem AA.Lh:b.row.length=11:=by cases b;rfl
@[simp] theorem AA.wE:b.row.map V.c=b.vs:=rfl
@[simp] theorem AA.AFm:b.row.take 11=b.row:=D9 (by simp)
@[simp] theorem AA.xG (n:Nat):V.BT n b.vs=true:=by cases b;simp[AA.vs,AA.row,V.BT,V.BA]
end
def Ha (f:AI)(s:AM):Int×Int:=if s.ok=false\/f.valid=false then(0,1)else(BK f.params s,0)
theorem KL (f:AI)(s:AM):AC AD 97 [.agg f.vs,Ai s] (.Bk [.c (.int .i64 (Ha f s).1),Af (Ha f s).2]):=by
 have hs:=Xy s;have hv:=Mv f;cases ho:s.ok with
 | false =>
   have e:Ha f s=(0,1):=if_pos (.inl ho);rw[e];rw[ho]at hs;unfold Ai at hs ⊢;refine en Q4 ig ?_;refine Ac ?_;refine BY (hs) YI ?_;refine Ac ?_;simp[Aj,AV,AZ,Aa,V.AP,V.AO,AU,jA,Af]
 | true =>
   rw[ho]at hs;cases hf:f.valid with
   | false =>
     have e:Ha f s=(0,1):=if_pos (.inr hf);rw[e];rw[hf]at hv;unfold Ai at hs ⊢;refine en Q4 ig ?_;refine Ac ?_;refine BY (hs) YI ?_;refine BY (hv) Gm ?_;refine Ac ?_;simp[Aj,AV,AZ,Aa,V.AP,V.AO,AU,jA,Af]
   | true =>
     rw[hf]at hv;have e:Ha f s=(BK f.params s,0):=if_neg (by simp[ho,hf]);rw[e];have e2:BK f.params s=if s.level=2 then f.params.Jo else if s.level=3 then f.params.Jp else 100:=if_neg (by simp[ho])
     rw[e2];clear e e2;unfold Ai at hs ⊢;by_cases h2:s.level=2
     . refine en Q4 ig ?_;refine Ac ?_;refine BY (hs) YI ?_;refine BY (hv) Gm ?_;refine go @h2 ?_;simp[Aj,AV,AZ,Aa,V.AP,V.AO,AU,jA,Af,h2]
     . by_cases h3:s.level=3
       . refine en Q4 ig ?_;refine Ac ?_;refine BY (hs) YI ?_;refine BY (hv) Gm ?_;refine go @h3 ?_;simp[Aj,AV,AZ,Aa,V.AP,V.AO,AU,jA,Af,h3]
       . refine en Q4 ig ?_;refine Ac ?_;refine BY (hs) YI ?_;refine BY (hv) Gm ?_;refine go (cj @h2<|@h3) ?_;simp[Aj,AV,AZ,Aa,V.AP,V.AO,AU,jA,Af,h2,h3]
def Cm (b:AA):AA×Int:=if b.Av=true then(b,0)else(AA.zero,6)
theorem Eo:AA.zero.vs=[.c (.int .i64 0),.c (.str ⟨#[]⟩),.c (.int .i64 0),.c (.int .i64 0),.c (.int .i64 0),.c (.int .i64 0),.c (.int .i64 0),.c (.int .i64 0),.c (.sl []),.c (.int .i64 0),.c (.sl [])]:=rfl
theorem AFt (l:List AA)(k:Nat)(h:k<l.length):AA.rows (l.take (k+1))=AA.rows (l.take k)++[(l[k]).row]:=by
 rw[Ed,Ed,List.take_succ_eq_append_getElem h,List.map_append];rfl
def Ur (w h d:Int)(kids:V):List V:=[.c (.int .i64 3),.c (.str ⟨#[]⟩),.c (.int .i64 0),.c (.int .i64 w),.c (.int .i64 h),.c (.int .i64 d),.c (.int .i64 0),.c (.int .i64 0),kids,.c (.int .i64 0),.full []]
theorem MX (w h d:Int)(kids:List AA)(hd:AA.Jb kids)(hc:AA.A9 kids<999999):AC AD 109 [.c (.int .i64 w),.c (.int .i64 h),.c (.int .i64 d),.c (.sl (AA.rows kids))] (BD (CB w h d kids)):=by
 have Bp:=OY kids;have hR:BD (CB w h d kids)=.agg [.c (.int .i64 3),.c (.str ⟨#[]⟩),.c (.int .i64 0),.c (.int .i64 w),.c (.int .i64 h),.c (.int .i64 d),.c (.int .i64 0),.c (.int .i64 0),.c (.sl (AA.rows kids)),.c (.int .i64 0),.c (.sl [])]:=by simp[BD,CB,AA.row,Ab]
 rw[hR];clear hR;obtain⟨rs,Ak⟩:=AE (AA.rows kids);have Am:rs.length=kids.length:=by rw[<-Ak,Ed];simp
 rw[Ak];refine en Tryz.func109 Tryz.ntmps109 ?_;refine Ac ?_;refine AW.le (Le.Zm 1 8 41 11 rfl rfl) ?_;simp only[BQ,B6,Nat.reduceAdd,BC,Az,Bg,List.nil_append];refine lp (ι:={ k:Nat // k<=kids.length }) (fun k=>[(18,.c (.int .i64 (k.1:Int)))]) (fun k=>[.box 41 Bo false,.box 41 (Ur w h d (.gr 2 11 (AA.rows (kids.take k.1)))) false,.tok 41 11 k.1]) (fun k=>kids.length - k.1) ⟨0,by simp⟩ ?_ ?_;all_goals simp only[Br,Bl,List.foldl_nil,BC,Az]
 . refine Le.BV (by simp[A5,Bo,Ur,AA.rows])
 . rintro ⟨k,hk⟩;simp only;by_cases hlt:k<kids.length
   . obtain⟨c,hcc⟩:=AE (kids[k]);have BN:rs[k]?=some c.row:=by rw[<-Ak,Ed,Co,BP hlt,hcc];rfl
     have CH : ∀hx:k<rs.length,rs[k]'hx=c.row:=by intro hx;rw[BP hx]at BN;exact JW BN
     have kz:c.Fk:=rh kids k c hd (by rw[BP hlt,hcc]);have Im:=kK kids k c (by rw[BP hlt,hcc]);have Wa:=ra c kz (by omega);rw[Ay]at Wa;have hw:Ad.wrap ((k:Int)+1)=((k+1:Nat):Int):=by rw[Aq];simp
     have F8:k+1<=maxLen:=by unfold maxLen;omega
     have Fp:(k+1)*128<=140737488355328:=by omega
     have Dv:(AA.rows (kids.take k)).length=k:=by rw[Ed];simp;omega
     have BU:AA.rows (kids.take (k+1))=AA.rows (kids.take k)++[c.row]:=by rw[AFt kids k hlt,hcc]
     have CW:k<rs.length:=by omega
     refine go (cj @Am<|cj @hlt<|cj @BN<|cj @CH<|cj @CW<|cj @Ur.eq_1<|@Bo.eq_1) ?_;refine gc (cj @F8<|cj @Fp<|cj @Dv<|@Ur.eq_1) (Wa) Tryz.func173 ?_;refine go @hw ?_;refine⟨⟨k+1,by omega⟩,by simp only;omega,?_⟩;refine Le.H5 3 (Nat.le_of_ble_eq_true rfl) (by simp[A5,Bo,Ur,BU,Am]) (by simp[Bo,Ur,BU,Am]) (by simp[V.BT,V.BA]) (by simp[O.BA,V.BT,V.BA,Bo,Ur,BU,Am])
   . have e:kids.take k=kids:=D9 (by omega);rw[e,Ak];refine go (cj @Am<|cj @hlt<|cj @Ur.eq_1<|@Bo.eq_1) ?_;simp[Aj,AV,AZ,Aa,V.AP,V.AO,AU,Tryz.results109]
theorem DA {p:Int}(n:Int)(h1:0<=p)(h2:p<=100): -1073741824<=scale n p/\scale n p<=1073741824:=by
 unfold scale;split
 . rename_i h;obtain⟨hv,_,_⟩:=h;simp[Aw]at hv;have:=PA n p 1073741824 100 (by omega) (by omega) (by omega) (by omega);exact AFf _ _ (by omega) (by omega)
 . omega
theorem JI (n:Int): -1073741824<=half n/\half n<=1073741824:=by
 unfold half;split
 . rename_i hv;simp[Aw]at hv;unfold FI;split<;>omega
 . omega
theorem WD {name:ByteArray}{g:Ag} : ∀ {l:List Ag},G9 name l=some g->g∈l/\g.name=name
 | [],h=>by simp[G9]at h
 | x::r,h=>by
   simp only[G9]at h;split at h
   . cases h;exact⟨Er,by assumption⟩
   . have:=WD h;exact⟨Ff _ this.1,this.2⟩
theorem AQ2 {f:AI}(hv:f.valid=true)(name:ByteArray)(hn:name.size<=16):0<=(f.pick name).w/\(f.pick name).name.size<=16:=by
 have Au : ∀g∈f.CO,0<=g.w/\g.name.size<=16:=by
  intro g hg;have:=X4 hv g hg;simp[GK,Bn,F2]at this;omega
 unfold AI.pick;split
 . rename_i g hg;exact Au g (WD hg).1
 . split
   . rename_i g hg;exact Au g (WD hg).1
   . simp[Ag.zero,hn]
structure jS (b:AA):Prop where
 Fk:b.Fk
 Bc:b.Bc
 fit:b.fit
 cnt:b.cnt<=8001
 h1 : -1000000001<=b.h
 h2:b.h<=1000000001
 d1 : -1000000001<=b.d
 d2:b.d<=1000000001
 w1:0<=b.w
 w2:b.w<=400000
theorem fx {f:AI}(hv:f.valid=true){p:Int}(h1:1<=p)(h2:p<=100){name:ByteArray}(hn:name.size<=16):jS (Cl f name p).1/\(Cl f name p).1.kids=[]/\(Cl f name p).1.cnt=1:=by
 obtain⟨e,_⟩:=N8 hv h1 h2 name;have hb:=Xq hv h1 h2 name;obtain⟨k1,k2⟩:=AQ2 hv name hn;rw[e];have hw:0<=((f.pick name).scaled p).w:=Zg k1 (by omega);have hn':((f.pick name).scaled p).name.size<=16:=k2;obtain⟨G,hG⟩:=AE ((f.pick name).scaled p);rw[hG]at hb hw hn' ⊢;have hm:0<=mx 0 G.DY/\mx 0 G.DY<=200000:=by rw[D6];omega
 refine⟨⟨?_,?_,?_,?_,?_,?_,?_,?_,?_,?_⟩,rfl,?_⟩
 . simp[Mw,AA.Fk,AA.Jb]
 . simp[Mw,AA.Bc,AA.GB,maxLen];omega
 . simp[Mw,AA.fit,AA.fits,maxLen]
 . simp[Mw,AA.cnt,AA.A9]
 all_goals simp only[Mw,AA.cnt,AA.A9]
 all_goals omega
theorem vU {f:AI}(hv:f.valid=true){p:Int}(h1:1<=p)(h2:p<=100)(ov:Int):∀(l:List Part) (b:Int),(∀q∈l,q.name.size<=16)->AA.Jb (FM f ov p b l)/\AA.GB (FM f ov p b l)/\AA.fits (FM f ov p b l)/\AA.A9 (FM f ov p b l)=l.length/\∀m,0<=m->m<=400000->0<=GO m (FM f ov p b l)/\GO m (FM f ov p b l)<=400000
 | [],b,_=>by
   simp only[FM,AA.Jb,AA.GB,AA.fits,AA.A9,GO,B6,true_and];exact fun m h1 h2=>⟨h1,h2⟩
 | q::l,b,hq=>by
   obtain⟨i1,i2,i3,i4,i5⟩:=vU hv h1 h2 ov l (b+((f.pick q.name).Ch - ov)) fun x hx=>hq x (Ff _ hx)
   obtain⟨ho,hk,hc⟩:=fx hv h1 h2 (hq q Er);simp only[FM,ZY,AA.Jb,AA.GB,AA.fits,AA.A9,GO];obtain⟨B,hB⟩:=AE ((Cl f q.name p).1);rw[hB]at ho hk hc ⊢;obtain⟨o1,o2,o3,o4,_,_,_,_,o9,o10⟩:=ho;obtain⟨bk,bn,bs,bw,bh,bd,bx,Bu,Dt,bo,EC⟩:=B;simp only[AA.Fk,AA.Bc,AA.fit,AA.cnt]at o1 o2 o3 hc o9 o10 ⊢;refine⟨⟨o1,i1⟩,⟨o2,i2⟩,⟨o3,i3⟩,by rw[hc,i4,BQ];omega,fun m m1 m2=>i5 _ ?_ ?_⟩;all_goals (rw[D6];omega)
theorem vR (ht:ByteArray->Option Int):∀(l:List Part) (a:Int) (e:Bool) (r:Int×Bool),Gb ht a e l=some r->∀q∈l,∃h,ht q.name=some h
 | [],a,e,r,_,q,hq=>by cases hq
 | x::l,a,e,r,h,q,hq=>by
   simp only[Gb]at h;cases hx:ht x.name with
   | none=>rw[hx]at h;cases h
   | some y =>
     rw[hx]at h;rcases Cb.1 hq with rfl|hq
     . exact⟨y,hx⟩
     . exact vR ht l _ _ r h q hq
theorem ACh {f:AI}(hv:f.valid=true){name:ByteArray}{h:Int}(e:f.ht name=some h):name.size<=16:=by
 simp only[AI.ht,Option.map_eq_some_iff]at e;obtain⟨g,hg,_⟩:=e;obtain⟨m,rfl⟩:=WD hg;have:=X4 hv g m;simp[GK,F2]at this;omega
theorem AQm {f:AI}(hv:f.valid=true){s:A6}(hs:s∈f.CD):∀q∈s.parts,q.name.size<=16:=by
 intro q hq;have h:=X5 hv s hs;simp only[Hd,An]at h;obtain⟨_,_,h4⟩:=h;rw[if_neg (by intro e;rw[e]at hq;cases hq)]at h4;unfold QZ at h4;cases hf:Gb f.ht 60000 false s.parts with
 | none=>rw[hf]at h4;cases h4
 | some x =>
   obtain⟨y,hy⟩:=vR _ _ _ _ _ hf q hq;exact ACh hv hy
theorem AGS {f:AI}(hv:f.valid=true):∀(l:List ByteArray) (a:Int),Jr f.ht a l=true->∀n∈l,n.size<=16
 | [],a,_,n,hn=>by cases hn
 | x::l,a,h,n,hn=>by
   simp only[Jr]at h;cases hx:f.ht x with
   | none=>rw[hx]at h;cases h
   | some y =>
     rw[hx]at h;simp only[An]at h;rcases Cb.1 hn with rfl|hn
     . exact ACh hv hx
     . exact AGS hv l _ h.2 n hn
theorem s6 {x:ByteArray} : ∀ {l:List ByteArray},Jf x l=true->x∈l
 | [],h=>by simp[Jf]at h
 | y::l,h=>by
   simp only[Jf]at h;split at h
   . rename_i e;subst e;exact Er
   . exact Ff _ (s6 h)
theorem ma {r:Int} : ∀ {l:List Part} {q:Part},q∈IM r l->q∈l
 | [],q,h=>by simp[IM]at h
 | x::l,q,h=>by
   simp only[IM,List.mem_append]at h;rcases h with h|h
   . rw[List.eq_of_mem_replicate h];exact Er
   . exact Ff _ (ma h)
theorem find_ok {f:AI}(hv:f.valid=true){p:Int}(h1:1<=p)(h2:p<=100){name:ByteArray}(hn:name.size<=16)(need:Int):(F4 f name need p).2=0/\jS (F4 f name need p).1:=by
 have hk:IE f p=0:=by unfold IE;rw[if_neg (by simp[hv]),if_neg (by omega)]
 have Ip:=AAG hv name need p;obtain⟨c,hc⟩:=AE (JC f name need p);unfold F4;rw[if_neg (by simp[hk]),hc];rw[hc]at Ip;unfold Ja;rw[if_neg (by simp[hk]),if_neg (by simp[Ip])];by_cases h0:c.Iy=0
 . rw[if_pos h0];refine⟨by first|rfl|(rw[(N8 hv h1 h2 c.J7).1]),(fx hv h1 h2 ?_).1⟩;unfold JS at Ip;cases hst:f.H2 name with
   | none=>rw[hst]at Ip;simp[h0]at Ip;rw[Ip];exact hn
   | some s =>
     rw[hst]at Ip;simp[h0]at Ip;have hs:=(Qm hst).1;have h:=X5 hv s hs;simp only[Hd,An]at h;exact AGS hv _ _ h.2.1 _ (s6 Ip)
 . rw[if_neg h0];obtain⟨s,hst,Ey,r1,r2,_⟩:=uR (cg:=c.J7) (cr:=c.Iy) h0 Ip;have hs:=(Qm hst).1;obtain⟨_,_,g3,_⟩:=Oh hv hs;have hl:=mc r1 r2 s.parts;have Ht : ∀q∈IM c.Iy s.parts,q.name.size<=16:=fun q hq=>AQm hv hs q (ma hq)
   obtain⟨i1,i2,i3,i4,i5⟩:=vU hv h1 h2 s.CX (IM c.Iy s.parts) 0 Ht;have hw:=i5 0 (by omega) (by omega);obtain⟨t1,t2⟩:=wo hv hs r1 r2;have hh:=AF8 (n:=KX f s c.Iy) (p:=p) t1 t2 (by omega) h2;refine⟨rfl,?_⟩;rw[hst];simp only[Option.getD_some,Se];refine⟨?_,?_,?_,?_,?_,?_,?_,?_,?_,?_⟩
   . simp only[AA.Fk];exact⟨by simp,i1⟩
   . simp only[AA.Bc];exact⟨(Cc _:0<=maxLen),(Cc _:0<=maxLen),i2⟩
   . simp only[AA.fit];exact⟨by rw[ua];unfold maxLen;omega,(Cc _:0<=maxLen),i3⟩
   . simp only[AA.cnt];omega
   all_goals simp only
   all_goals omega
theorem GD {f:AI}{s:AM}(hv:f.valid=true)(ho:s.ok=true):1<=BK f.params s/\BK f.params s<=100:=by
 have hp:JU f.params=true:=by simp only[AI.valid,An]at hv;exact hv.1.2.2
 simp[JU,Bn,Params.PG]at hp;unfold BK;rw[if_neg (by simp[ho])];split
 . omega
 . split<;>omega
def KO:ByteArray:=⟨#[114,111,111,116]⟩
def EU (f:AI)(s:AM):Int:=BK f.params s
def Gd (f:AI)(s:AM):Int:=scale f.params.rule (EU f s)
def KN (f:AI)(s:AM):Int:=if s.level=0 then Gd f s+scale (scale f.params.FV (EU f s)) 25 else Gd f s+scale (Gd f s) 25
def GC (f:AI)(s:AM)(b:AA):Int:=b.h+b.d+KN f s+Gd f s
def DQ (f:AI)(s:AM)(b:AA):AA:=(F4 f KO (GC f s b) (EU f s)).1
def Qb (f:AI)(s:AM)(b:AA):Int:=if GC f s b<(DQ f s b).h+(DQ f s b).d then KN f s+half ((DQ f s b).h+(DQ f s b).d - GC f s b)else KN f s
def Qc (f:AI)(s:AM)(b:AA):Int:=b.h+Qb f s b
def K9 (f:AI)(s:AM)(b:AA):Int:=Qc f s b+Gd f s
def N5 (f:AI)(s:AM)(b:AA):Int:=K9 f s b - (DQ f s b).h - (DQ f s b).d
def vn (f:AI)(s:AM):Int:=scale f.params.BZ (EU f s)
def Rt (f:AI)(s:AM)(g:AA):Int:=mx 0 (scale (vn f s) 28+g.w - scale (vn f s) 56)
def Tb (f:AI)(s:AM)(b g:AA):Int:=N5 f s b+scale (K9 f s b - N5 f s b) 60+mx 0 g.d
def Xh (f:AI)(s:AM):List AA->Int
 | []=>0
 | g::_=>Rt f s g
def rdH (f:AI)(s:AM)(b:AA):List AA->Int
 | []=>mx (K9 f s b) b.h
 | g::_=>mx (mx (K9 f s b) b.h) (Tb f s b g+g.h)
def rdD (f:AI)(s:AM)(b:AA):List AA->Int
 | []=>mx (-(N5 f s b)) b.d
 | g::_=>mx (mx (-(N5 f s b)) b.d) (g.d - Tb f s b g)
def m8 (f:AI)(s:AM)(b:AA):List AA->List AA
 | []=>[]
 | g::_=>[g.at_ (Rt f s g+scale (vn f s) 56 - g.w) (Tb f s b g)]
def Jn (f:AI)(s:AM)(b:AA)(G8:List AA):AA:=
 CB (Xh f s G8+(DQ f s b).w+mx 0 b.w) (rdH f s b G8) (rdD f s b G8)
  (m8 f s b G8++[(DQ f s b).at_ (Xh f s G8) (K9 f s b - (DQ f s b).h),(Dw (mx 0 b.w) (Gd f s) 0).at_ (Xh f s G8+(DQ f s b).w) (Qc f s b),b.at_ (Xh f s G8+(DQ f s b).w) 0])
def Ta (f:AI)(s:AM)(b:AA)(G8:List AA):AA×Int:=
 if f.valid=false\/s.ok=false\/b.Av=false\/G8.all AA.Av=false\/1<G8.length then(AA.zero,1)else Cm (Jn f s b G8)
theorem DS {b:AA}(h:b.Av=true):(-1073741824<=b.w/\b.w<=1073741824)/\(-1073741824<=b.h/\b.h<=1073741824)/\(-1073741824<=b.d/\b.d<=1073741824)/\b.cnt<=20000:=by
 simp only[AA.Av,An,decide_eq_true_eq]at h;obtain⟨h1,h2,h3⟩:=h;obtain⟨bk,bn,bs,bw,bh,bd,bx,Bu,Dt,bo,EC⟩:=b;simp only[AA.EE,AA.CZ,AA.lens,An,List.all_cons]at h1;simp[Aw]at h1;simp only;omega
mutual
theorem vY : ∀b:AA,b.EE=true->b.Fk
 | ⟨bk,bn,bs,bw,bh,bd,bx,Bu,Dt,bo,EC⟩,h=>by
   simp only[AA.EE,AA.CZ,An,AA.I0]at h;simp only[AA.Fk];refine⟨?_,AE2 Dt h.2⟩;have h1:=h.1.2.2.2;simp only[Gg]at h1;split at h1
   . simp only[decide_eq_true_eq]at h1;omega
   . split at h1
     . simp only[An,decide_eq_true_eq]at h1;omega
     . split at h1
       . simp only[An,decide_eq_true_eq]at h1;omega
       . cases h1
theorem AE2 : ∀l:List AA,AA.Hb l=true->AA.Jb l
 | [],_=>by simp[AA.Jb]
 | b::l,h=>by
   simp only[AA.Hb,An]at h;simp only[AA.Jb];exact⟨vY b h.1,AE2 l h.2⟩
end
theorem Fz {b:AA}(h:b.Av=true):b.Fk:=by
 simp only[AA.Av,An]at h;exact vY b h.1
theorem GH {b:AA}(x y:Int)(h:b.Fk):(b.at_ x y).Fk:=by cases b;exact h
theorem FA {b:AA}(x y:Int)(h:b.Bc):(b.at_ x y).Bc:=by cases b;exact h
theorem GW (b:AA)(x y:Int):(b.at_ x y).cnt=b.cnt:=by cases b;rfl
theorem wI (w h d:Int):(Dw w h d).Fk:=by simp[Dw,AA.Fk,AA.Jb]
theorem wJ (w h d:Int):(Dw w h d).Bc:=⟨(Cc _:0<=maxLen),(Cc _:0<=maxLen),trivial⟩
theorem fk (w h d:Int):(Dw w h d).cnt=1:=by simp[Dw,AA.cnt,AA.A9]
structure AIr (f:AI)(s:AM)(b:AA):Prop where
 p1:1<=EU f s
 p2:EU f s<=100
 r1 : -1073741824<=Gd f s
 r2:Gd f s<=1073741824
 l1 : -2147483648<=KN f s
 l2:KN f s<=2147483648
 sg:jS (DQ f s b)
 g1 : -4294967296<=Qb f s b
 g2:Qb f s b<=4294967296
theorem AFS {f:AI}{s:AM}{b:AA}(hv:f.valid=true)(ho:s.ok=true):AIr f s b:=by
 obtain⟨p1,p2⟩:=GD hv ho;have hr:=DA (p:=EU f s) f.params.rule (by unfold EU;omega) p2;have hx:=DA (p:=25) (scale f.params.FV (EU f s)) (by omega) (by omega);have hx2:=DA (p:=25) (Gd f s) (by omega) (by omega);have hl : -2147483648<=KN f s/\KN f s<=2147483648:=by
  unfold KN Gd at *
  split<;>omega
 have hs:=(find_ok hv p1 p2 (name:=KO) (by simp[KO,ByteArray.size]) (GC f s b)).2;have hh:=JI ((DQ f s b).h+(DQ f s b).d - GC f s b);refine⟨p1,p2,hr.1,hr.2,hl.1,hl.2,hs,?_,?_⟩;all_goals
  unfold Qb;split<;>omega
@[simp] theorem AA.AHd (b:AA)(k:Nat)(row:List C):V.BG k row b.vs=b.vs:=by cases b;simp[AA.vs,AA.row,V.BG,V.AR]
section
variable (b:AA) (x y:Int)
@[simp] theorem AWX:(b.at_ x y).w=b.w:=rfl
@[simp] theorem AWW:(b.at_ x y).h=b.h:=rfl
@[simp] theorem AWV:(b.at_ x y).d=b.d:=rfl
@[simp] theorem AWY:(b.at_ x y).x=x:=rfl
@[simp] theorem AWZ:(b.at_ x y).y=y:=rfl
end
@[simp] theorem AXh (w h d:Int):(Dw w h d).w=w:=rfl
@[simp] theorem AXg (w h d:Int):(Dw w h d).h=h:=rfl
@[simp] theorem AXf (w h d:Int):(Dw w h d).d=d:=rfl
def Ck (l:List Int):List V:=l.map fun n=>V.c (.int .i64 n)
theorem Xa (l:List Int):(Ck l).length=l.length:=by simp[Ck]
@[simp] theorem AXc (m:Nat)(l:List Int):V.BT m (Ck l)=true:=by
 induction l with
 | nil=>rfl
 | cons c r ih=>simp only[Ck,Al,V.BT,V.BA,Bool.true_and];exact ih
theorem Xb : ∀l:List Int,toCs (Ck l)=some (l.map (C.int .i64))
 | []=>rfl
 | c::r=>by simp only[Ck,Al,toCs,toC];rw[show Vc (fun n=>V.c (C.int Ad n)) r=Ck r from rfl,Xb r]
@[simp] theorem XZ (k:Nat)(row:List C):∀l:List Int,V.BG k row (Ck l)=Ck l
 | []=>rfl
 | c::r=>by simp only[Ck,Al,V.BG,V.AR];rw[show Vc (fun n=>V.c (C.int Ad n)) r=Ck r from rfl,XZ k row r]
theorem XY : ∀(l r:List Int),Gr 1 l.length ((l++r).map (C.int .i64))=l.map fun n=>[C.int .i64 n]
 | [],_=>rfl
 | c::l,r=>by simp only[BQ,Bg,Al,Gr,List.take_succ_cons,List.take_zero,List.drop_succ_cons,List.drop_zero];rw[XY l r]
section
variable {D r:List Int} {c:Int} {k:Nat}
theorem AEl (h:D.length=k):(Ck (D++c::r))[k]?=some (.c (.int .i64 c)):=by
 subst h;simp[Ck]
theorem mh (h:D.length=k)(v:Int):(Ck (D++c::r)).set k (.c (.int .i64 v))=Ck (D++v::r):=by
 subst h;unfold Ck;rw[<-g7 (f:=fun n=>V.c (.int .i64 n))];congr 1
 rw[List.set_append_right _ _ (BW _)];simp
theorem fR (h:D.length=k+1):(Ck (D++r))[k]?=some (.c (.int .i64 (D.getD k 0))):=by
 have hlt:k<D.length:=by omega
 unfold Ck;rw[Co,List.getElem?_append_left hlt,BP hlt];simp[List.getD_eq_getElem?_getD,BP hlt]
theorem mi (h:D.length=k+1)(v:Int):(Ck (D++r)).set k (.c (.int .i64 v))=Ck (D.set k v++r):=by
 unfold Ck;rw[<-g7 (f:=fun n=>V.c (.int .i64 n))];congr 1
 rw[List.set_append_left _ _ (by omega)]
end
def TY (c:Int):Bool:=decide (c=2) || (decide (c=1) || (decide (c=3) || (decide (c=4) || decide (c=6))))
def RB (c:Int):Bool:=decide (c=3) || (decide (c=5) || decide (c=6))
def HY (d:List Int):Int:=d.getD (d.length - 1) 0
def N9 (d:List Int)(c:Int):List Int:=
 if c=2/\(d.length=0\/TY (HY d)=true)then d++[0]
 else if RB c=true/\0<d.length/\HY d=2 then d.set (d.length - 1) 0++[c]
 else d++[c]
theorem AUn (d:List Int)(c:Int):(N9 d c).length=d.length+1:=by
 unfold N9;split
 . simp
 . split<;>simp
def Fl (own:List Int):List Int:=own.foldl N9 []
def Nh (d:List Int):List Int:=if 0<d.length/\HY d=2 then d.set (d.length - 1) 0 else d
def LB (own:List Int):List Int:=Nh (Fl own)
theorem ABB {own:List Int}{k:Nat}{c:Int}(h:own[k]?=some c):Fl (own.take (k+1))=N9 (Fl (own.take k)) c:=by
 unfold Fl;rw[List.take_add_one,h,List.foldl_append];rfl
theorem ABD : ∀(own d:List Int),(own.foldl N9 d).length=d.length+own.length
 | [],d=>by simp
 | c::r,d=>by simp only[Bl,ABD r,AUn,BQ];omega
theorem cZ (own:List Int):(Fl own).length=own.length:=by unfold Fl;rw[ABD];simp
theorem AKx (d:List Int):(Nh d).length=d.length:=by unfold Nh;split<;>simp
theorem nH (own:List Int):(LB own).length=own.length:=by unfold LB;rw[AKx,cZ]
section
variable {P:Program} {K:Exit->St->Prop} {ops:List Oper} {s:St}
theorem SW.AJ0 {o:Oper}{r:List Oper}{f gf:FuncId}{ty:TypeId}{cs:List C}{vs:Array Value}{fn:Func}(hN : ∀w:World,Calls P f #[] w fun e w'=>e=.returned (.func (.func gf) #[] #[.pointer (some ⟨w.heap.size,0,none⟩)])/\w'=w.alloc (.cells vs ty))(Nt : ∀(S:Ba) (w:World),Bj S w cs vs.toList)(hf:P.funcs[f]?=some fn)(hb:fn.body.isSome=true)(hn:(fn.name == "runtime.NumGoroutine")=false)(hg:gate ops s.t o.guard=some true)(hc:DE (ev s.t) o.op=some (f,[]))(h:SW P ops K r (s.step o.dst (.fn gf [.ptr s.h.length 0]) (some (s.h.length,.box ty (cs.map V.c) false)))):SW P ops K (o::r) s:=fun S0 w0 x a w hA=>by
 have hw:Region.wanted o (yielded ops.toArray a.tmps)=true:=by
  have:=J2 (o:=o) hA.tm (Hj (ops:=ops) (K1:=True) (K2:=False) hg trivial);exact Classical.byContradiction fun h=>this.2 h
 unfold wpList;rw[if_pos hw];refine .inl ?_;unfold DE at hc;split at hc
 case h_2=>cases hc
 rename_i fo ar He ho;split at hc
 case h_2=>cases hc
 rename_i f' caps Fo;simp only[BE,Cp,List.append_eq_nil_iff,List.map_eq_nil_iff]at hc;obtain⟨rfl,DF,rfl⟩:=hc;have AME:ar=#[]:=Gk.1 DF;subst AME;have CY:=Qq (EH hA.tm fo);rw[Fo]at CY;simp only[CV]at CY;obtain⟨Dx,CY,EZ⟩:=CY;have hv0:Dx=#[]:=by
  simp only[AL]at EZ;exact Gk.1 EZ
 subst hv0;have g:=hA.good;have hb':fn.body≠none:=by intro e;rw[e]at hb;cases hb
 have hn':fn.name≠ "runtime.NumGoroutine":=by simpa using hn
 have hrun:(execOp a.eval o).run P w=.ok (.enter f' #[]) w:=by
  simp[execOp,ho,resolve,CY,Pa,invoke,callFunc,program,Sem.run,hf,hn',hb']
 unfold Oper.wp;rw[hrun];refine(hN w).mono ?_;rintro r' w' ⟨rfl,rfl⟩;have hk : ¬x.dom s.h.length:=fun hd=>by
  obtain⟨ob,h⟩:=g.dom _ hd;simp at h
 obtain⟨g',he⟩:=g.XU s.h.length hk ty (cs.map V.c) vs (AL.N2 (Nt x.S w));have hnc:NC w (w.alloc (.cells vs ty)):=.GA ((AS.refl w).alloc _);have e:=Lm s.h (some (s.h.length,O.box ty (cs.map V.c) false)) (fun k' o' e=>by cases e;exact BW _);have g'':Good S0 w0 (x.Dl s.h.length ⟨w.heap.size,vs.size,false,0,false⟩) (w.alloc (.cells vs ty)) (fun i=>(CG s.h (some (s.h.length,O.box ty (cs.map V.c) false)))[i]?):=by rw[e];exact g'
 exact h S0 w0 _ _ _ (CT.put hA.tm (hA.df.mono hnc) he g'' (by
  simp only[CV,AL,Cx.Dl,if_true];exact⟨_,rfl,_,_,rfl,⟨.inr trivial,trivial,rfl⟩,rfl⟩) o.dst)
end
section
variable {P:Program} {ops:List Oper} {K:List Ef->St->Prop}
theorem TW.kE {o:Oper}{r:List Oper}{acc:List Ef}{s:St}{f:FuncId}{args Bx:List V}{ty:TypeId}{cs:List V}{cells cells':List C}{res:V}{fn:Func}(k:Nat)(KC:AX P f Bx ty cells cells' res)(hf:P.funcs[f]?=some fn)(hb:fn.body.isSome=true)(hn:(fn.name == "runtime.NumGoroutine")=false)(hg:gate ops s.t o.guard=some true)(hc:DE (ev s.t) o.op=some (f,args))(hp:V.DJ k args=some Bx)(hk:s.h[k]?=some (.box ty cs false))(hcs:toCs cs=some cells)(h:TW P ops K r (acc++[⟨res,some (k,.box ty (cells'.map V.c) false),some k⟩]) (s.step o.dst res (some (k,.box ty (cells'.map V.c) false)))):TW P ops K (o::r) acc s:=by
 obtain⟨es,s2,h2,h3⟩:=h;refine⟨⟨res,some (k,.box ty (cells'.map V.c) false),some k⟩::es,s2,⟨_,es,rfl,?_,(fun k' ob e=>by cases e;exact Nat.le_of_lt (List.getElem?_eq_some_iff.1 hk).1),h2⟩,by simpa using h3⟩;intro S0 w0 x w a H g hl hr _ Q next D5;rw[Og hl hg];show o.wp P a w next Q;have hop:=Ow hl;have hHk:H k=some (.box ty cs false):=(hr k (.inl rfl)).trans hk;unfold DE at hc;split at hc
 case h_2=>cases hc
 rename_i fo ar He ho;split at hc
 case h_2=>cases hc
 rename_i f' caps Fo;simp only[BE,Cp]at hc;obtain⟨rfl,rfl⟩:=hc;have CY:=Qq (hop fo (by simp[ho,CN,D7]));rw[Fo]at CY;simp only[CV]at CY;obtain⟨Dx,CY,EZ⟩:=CY;have Ik:AL x w (ar.toList.map (ev s.t)++caps) (ar.toList.map a.eval++Dx.toList):=(AL.of_map fun y hy=>hop y (by simp[ho,CN,D7];exact .inr (by simpa using hy))).append EZ;obtain⟨hd,b1,b2,vs,b3,b4,b5⟩:=g.ok k _ hHk;have EK:=toCs_ok hcs b5;have Nm : ∀j,j<vs.size->¬x.S (x.loc k).b j:=fun j hj=>g.EI k _ j hHk ⟨rfl,by omega⟩
 have hcall:=KC x.S w _ (x.loc k).b vs g.ex Nm b3 EK (PI _ _ _ hp Ik);have hb':fn.body≠none:=by intro e;rw[e]at hb;cases hb
 have hn':fn.name≠ "runtime.NumGoroutine":=by simpa using hn
 have hrun:(execOp a.eval o).run P w=.ok (.enter f' (ar.toList.map a.eval++Dx.toList).toArray) w:=by
  have e1:(ar.map a.eval++Dx)=(ar.toList.map a.eval++Dx.toList).toArray:=by apply Gk.1;simp
  simp[execOp,ho,resolve,CY,Pa,invoke,callFunc,program,Sem.run,hf,hn',hb',e1]
 unfold Oper.wp;rw[hrun];refine hcall.mono ?_;rintro r' w' ⟨u,S',CQ,rfl,hkb,DF,Hs,h1,h2,h3,h4⟩;have hlt:=(g.ok k _ hHk).2.lt b2;have he:Ext x { x with S:=S' } w w':=⟨DF,fun _ h=>h,fun _ _=>Es.refl _⟩
 have g':=g.IN (x':={ x with S:=S' }) k (.box ty (cells'.map V.c) false) he (hkb.wide fun b e=>⟨hd,b2,e.symm⟩) (fun i=>⟨.inl,fun h=>h.elim id fun e=>e ▸ hd⟩) (fun _ _=>rfl) (fun _=>.inl ⟨hd,b2,rfl⟩)
  ⟨b1,b2,CQ,h1,by rw[h2,b4],AL.N2 h3⟩ (fun b j hs=>(Hs b j hs).imp id fun h=>h.elim (fun h=>⟨h.2,.inl h.1,fun e=>by have:(x.loc k).b=b:=e;omega⟩) (fun h=>⟨by rw[h.1];exact Nat.lt_of_lt_of_le hlt hkb.size,.inr ⟨hd,b2,h.1.symm⟩,fun _ hx=>by have h5:j<(x.loc k).n:=hx.2;have h6:=h.2;omega⟩)) (fun j hx=>g.EI k _ j hHk hx)
 exact D5 u _ w' g' he (CV.mono (UA S' x w') _ _ h4)
end
end Go.Proofs.YtpodcjcajanldaaGreat
