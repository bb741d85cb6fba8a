/- Part of the proof of breakpointPieces.proved. Conditions: none. -/
import Derived.Test.YtegconioojpgmaaGreatY3
set_option linter.unusedVariables false
set_option linter.unusedSimpArgs false
set_option maxRecDepth 100000
set_option maxHeartbeats 16000000
open List renaming length_nil->BO,replicate->Aq,map_toArray->AMl,getElem?_replicate->mT,contains_iff_mem->mR,nodup_cons->Xm,any_eq_true->aH
open Go.Proofs.Tryz renaming prog->AF,func61->Xs,results61->ACU,func62->mY,ntmps62->uv,results62->c8,func33->nI,ntmps33->nU,results33->UQ,func104->fB,results104->Oq,results209->Akx,results278->Ak1,results58->Ak4,func101->ey,ntmps101->tt,results101->tz,func281->AQf
open Int renaming lt_tmod_of_pos->ft,mul_assoc->AEW
open Go.IntKind renaming i64->AZ
open Go.Region renaming wanted->FB
open Prod.mk renaming injEq->Cr
open Go.Deferred renaming ofValue->M5
open Go.Sem renaming run->HW,run_bind->Jt
open Go.Oper renaming wp->Er
open Go.Fence renaming wide->Cg
open Array renaming replicate->M4,toList_replicate->T8
open Go.Addr renaming add->aD
open Go.Instr renaming fill->fi
open Go.Result renaming andThen_ok->Oo
open Go.Op renaming equal->Pt,equalIn->aP,operands->Bl
open Go.Builtin renaming copy_->tw,firstCells->fc,lenOf->tx,append_->aE,zeroCells->KN
open Go.Call renaming operands->Df
open Go.World renaming putObj_heap_other->Pz
open Option renaming some->J,none->E
open Bool renaming false->U,true->I
open List renaming length->G
namespace Go.Proofs.YtegconioojpgmaaGreat
open Go.RowKit Tryz
variable {n:Nat}{o:Oper}{r:List Oper}{ty:TypeId}{cs:List V}{res:V}{fn:Func}{Ae:TypeId}{Bq:Nat}{c:Code}{Q:Exit->Act->World->Prop}{w:World}{K:Exit->St->Prop}{s:St}{x:Cx}{m:Nat}{P:Program}{acc:List Ef}{ops:List Oper}{e:Ef}{Bd:List V}{α:Type}{args:List V}{b:Bool}{v:V}{ch:List PanicEntry}{s1:St}{R:Obj->Prop}(k:Nat)
def BG.row (g:BG):List C:=[.str g.name,.int .i64 g.w,.int .i64 g.h,.int .i64 g.d,.int .i64 g.Ey,.int .i64 g.attach]
def CR.row (p:CR):List C:=[.str p.name,.bool p.ext]
def Gv (l:List ByteArray):C:=.sl (l.map λn=>[.str n])
def Ek (l:List CR):C:=.sl (l.map CR.row)
def Bc.row (s:Bc):List C:=[.str s.name,Gv s.sizes,Ek s.parts,.int .i64 s.Dc]
def O8 (l:List BG):C:=.sl (l.map BG.row)
def MG (l:List Bc):C:=.sl (l.map Bc.row)
def Params.list (p:Params):List Int:=[p.Al,p.Gj,p.FD,p.rule,p.VH,p.Tp,p.Uf,p.TE,p.Zy,p.Zz,p.Z0,p.Qx,p.Qy,p.Q5,p.Qz,p.script,p.Qr,p.TD,p.RY,p.RO]
def AP.row (f:AP):List C:=O8 f.DR::MG f.C5::f.params.list.map (C.int .i64)
def AP.vs (f:AP):List V:=f.row.map V.c
def AV (l:List Int):C:=.sl (l.map λn=>[.int .i64 n])
structure AA where
 kind:Int
 name:ByteArray
 size:Int
 w:Int
 h:Int
 d:Int
 x:Int
 y:Int
 AE:List AA
 of_:Int
 src:List Int
mutual
def AA.row:AA->List C
 | ⟨k,n,s,w,h,d,x,y,AE,o,src⟩=>[.int .i64 k,.str n,.int .i64 s,.int .i64 w,.int .i64 h,.int .i64 d,.int .i64 x,.int .i64 y,.sl (AA.AG AE),.int .i64 o,AV src]
def AA.AG:List AA->List (List C)
 | []=>[]
 | b::l=>AA.row b::AA.AG l
end
def AA.zero:AA:=⟨0,⟨#[]⟩,0,0,0,0,0,0,[],0,[]⟩
def Hg (g:BG):V:=.agg (g.row.map V.c)
def Ao (b:AA):V:=.agg (b.row.map V.c)
def AR (n:Int):V:=.c (.int .i64 n)
def N7 (g:BG)(p:Int):AA:=⟨1,g.name,p,g.w+mx 0 g.Ey,g.h,g.d,0,0,[],0,[]⟩
theorem AJ6 : ∀(vs cs:List V) (pre:List V),G cs=G vs->E8 (pre++cs) (G pre) vs=pre++vs
 | [],cs,pre,h=>by have:cs=[]:=(Nr (by simpa using h));subst this;simp[E8]
 | v::vs,c::cs,pre,h=>by
   simp only[E8];have:=AJ6 vs cs (pre++[v]) (by simpa using h);simp only[Cp,BA,BO,Cz,GX,BK,BU]at this;rw[<-this];congr 1
   simp
theorem kz {vs cs:List V}(h:G cs=G vs):E8 cs 0 vs=vs:=by simpa using AJ6 vs cs [] h
section
variable (f:AP)
@[simp] theorem AP.Xf:G f.vs=22:=by simp[AP.vs,AP.row,Params.list]
@[simp] theorem AP.ACP:f.vs.all V.one=true:=by simp[AP.vs,V.one]
@[simp] theorem AP.ACR:f.vs.take 22=f.vs:=Gl ZA
@[simp] theorem AP.ACN:f.vs[0]?=J (.c (O8 f.DR)):=F
@[simp] theorem AP.ACG (h:0<G f.vs):f.vs[0]'h=.c (O8 f.DR):=F
@[simp] theorem AP.AL7:f.vs[1]?=J (.c (MG f.C5)):=F
@[simp] theorem AP.AL5 (h:1<G f.vs):f.vs[1]'h=.c (MG f.C5):=F
@[simp] theorem AP.AL8:f.vs[2]?=J (.c (.int .i64 f.params.Al)):=F
@[simp] theorem AP.AL6 (h:2<G f.vs):f.vs[2]'h=.c (.int .i64 f.params.Al):=F
@[simp] theorem AP.ACO:f.vs[3]?=J (.c (.int .i64 f.params.Gj)):=F
@[simp] theorem AP.ACI (h:3<G f.vs):f.vs[3]'h=.c (.int .i64 f.params.Gj):=F
@[simp] theorem AP.Aad:f.vs[4]?=J (.c (.int .i64 f.params.FD)):=F
@[simp] theorem AP.AaV (h:4<G f.vs):f.vs[4]'h=.c (.int .i64 f.params.FD):=F
@[simp] theorem AP.Aae:f.vs[5]?=J (.c (.int .i64 f.params.rule)):=F
@[simp] theorem AP.AaW (h:5<G f.vs):f.vs[5]'h=.c (.int .i64 f.params.rule):=F
@[simp] theorem AP.AiF:f.vs[19]?=J (.c (.int .i64 f.params.TD)):=F
@[simp] theorem AP.Ah2 (h:19<G f.vs):f.vs[19]'h=.c (.int .i64 f.params.TD):=F
@[simp] theorem AP.AiG:f.vs[20]?=J (.c (.int .i64 f.params.RY)):=F
@[simp] theorem AP.Ah3 (h:20<G f.vs):f.vs[20]'h=.c (.int .i64 f.params.RY):=F
theorem Zq : ∀l:List C,V.CF (l.map V.c)=J (l.map V.c)
 | []=>rfl
 | c::l=>by simp[V.CF,V.CP,Zq l]
@[simp] theorem AP.tX:V.CF f.vs=J f.vs:=Zq f.row
theorem toCs_c : ∀l:List C,toCs (l.map V.c)=J l
 | []=>rfl
 | c::l=>by simp[toCs,toC,toCs_c l]
@[simp] theorem AP.ACS:toCs f.vs=J f.row:=toCs_c f.row
def Params.vs (p:Params):List V:=p.list.map λn=>V.c (.int .i64 n)
@[simp] theorem AP.AiJ (f:AP):(f.vs.drop 2).take 20=f.params.vs:=by simp[AP.vs,AP.row,Params.vs,Params.list]
@[simp] theorem Params.tX (p:Params):V.CF p.vs=J p.vs:=by
 have e:p.vs=(p.list.map (C.int .i64)).map V.c:=by simp[Params.vs]
 rw[e];exact Zq _
@[simp] theorem AP.tW (f:AP)(n:Nat):V.BI n f.vs=true:=by
 have : ∀l:List C,V.BI n (l.map V.c)=true:=by
  intro l;induction l with
  | nil=>rfl
  | cons c l ih=>simp[V.BI,V.A8,ih]
 exact this f.row
@[simp] theorem Params.tW (p:Params)(n:Nat):V.BI n p.vs=true:=by simp[Params.vs,Params.list,V.BI,V.A8]
@[simp] theorem Params.ACQ (p:Params)(k:Nat)(row:List C):V.Cs k row p.vs=p.vs:=by simp[Params.vs,Params.list,V.Cs,V.Bi]
theorem YN (k:Nat)(row:List C):∀l:List C,V.Cs k row (l.map V.c)=l.map V.c
 | []=>rfl
 | c::l=>by simp only[Ap,V.Cs,V.Bi,YN k row l]
@[simp] theorem AFm (row:List C)(f:AP):V.Cs k row f.vs=f.vs:=YN k row f.row
end
theorem Ng (n:Int):AC AF 61 [n] (.c (.bool (An n))):=by
 by_cases B : -1073741824<=n;refine en Xs ntmps61 ?_;refine go @B ?_;exact At (cj2 ACU @An.eq_1 @B);refine en Xs ntmps61 ?_;refine go @B ?_;exact At (cj2 ACU @An.eq_1 @B)
theorem AKG (a b:Int)(ha : -9000000000000000000<=a)(A0:a<=9000000000000000000)(hb:b=100\/b=2):AC AF 62 [a,b] (quot a b:Int):=by
 have h1:=Int.mul_tdiv_add_tmod a b;have Ew : -b<a.tmod b/\a.tmod b<b:=by
  rcases hb with rfl|rfl
  exact⟨by have:=ft a (b:=100) Ux;omega,aG a Ux⟩;exact⟨by have:=ft a (b:=2) Ux;omega,aG a Ux⟩
 have NO : ¬b<0:=Ux;have G5 : ¬b=0:=Ux;obtain⟨q,hq⟩:=AI (a.tdiv b);obtain⟨r,z⟩:=AI (a.tmod b);have hQ:quot a b=if 0<=r/\b - r<=r then q+1 else if r<0/\b+r<= -r then q - 1 else q:=by unfold quot;rw[hq,z]
 rw[hq,z]at h1;rw[z]at Ew;have A1 : -9000000000000000001<=q/\q<=9000000000000000001:=by rcases hb with rfl|rfl<;>omega
 have w1:AZ.wrap q=q:=Ac;have w2:AZ.wrap r=r:=Ac;have w3:AZ.wrap (b - r)=b - r:=Ac;have w4:AZ.wrap (b+r)=b+r:=Ac;have w5:AZ.wrap (-r)= -r:=Ac;have w6:AZ.wrap (q+1)=q+1:=Ac;have w7:AZ.wrap (q - 1)=q - 1:=Ac;rw[hQ];clear hQ h1;by_cases M:0<=r;by_cases B:b - r<=r;refine en mY uv ?_;refine go (cj9 @NO @G5 @hq @z @w1 @w2 @w3 @w6 @M @B) ?_;exact At (cj2 c8 @M @B);have S : ¬r<0:=Ux;refine en mY uv ?_;refine go (cj9 @NO @G5 @hq @z @w1 @w2 @w3 @w6 @M<|cj @B @S) ?_;exact At (cj3 c8 @M @B @S);have S:r<0:=Ux;by_cases B:b+r<= -r;refine en mY uv ?_;refine go (cj9 @NO @G5 @hq @z @w1 @w2 @w4 @w5 @w7<|cj2 @M @B @S) ?_;exact At (cj3 c8 @M @B @S);refine en mY uv ?_;refine go (cj9 @NO @G5 @hq @z @w1 @w2 @w4 @w5 @w7<|cj2 @M @B @S) ?_;exact At (cj3 c8 @M @B @S)
theorem EI (n p:Int):AC AF 33 [n,p] (AU n p:Int):=by
 cases B:An n with
 | false =>
   have M:AU n p=0:=by simp[AU,B]
   refine en nI nU ?_;refine Ah ?_;refine gc @B (Ng n) Xs ?_;refine go @B ?_;exact At (cj UQ<| @M)
 | true =>
   have q:=B;simp[An]at q;by_cases S:p<0;have M:AU n p=0:=by unfold AU;rw[Awf];omega
   refine en nI nU ?_;refine Ah ?_;refine gc (cj @B<|@S) (Ng n) Xs ?_;refine go @B ?_;exact At (cj UQ<| @M);by_cases z:10000<p;have M:AU n p=0:=by unfold AU;rw[Awf];omega
   refine en nI nU ?_;refine Ah ?_;refine gc (cj2 @B @S @z) (Ng n) Xs ?_;refine go @B ?_;exact At (cj UQ<| @M);have M:AU n p=quot (n*p) 100:=by rw[AXT];unfold AU;rw[Awd ⟨B,Ux,Ux⟩]
   have hb:=Qh n p 1073741824 10000 Ux Ux Ux Ux;have hw:AZ.wrap (n*p)=n*p:=Ac;refine en nI nU ?_;refine Ah ?_;refine gc (cj2 @B @S @z) (Ng n) Xs ?_;refine go (cj @B<|@hw) ?_;refine BZ (AKG (n*p) 100 Ux Ux (.inl F)) mY ?_;refine Ah ?_;exact At (cj UQ<| @M)
def YK (o:Option BG):V:=.A7 [.agg ((o.getD BG.zero).row.map V.c),.c (.bool o.isSome)]
theorem xX (f:AP)(name:ByteArray)(hl:G f.DR<=maxLen):AC AF 128 [.agg f.vs,.c (.str name)] (YK (f.find name)):=by
 unfold maxLen at hl;refine en func128 ntmps128 ?_;refine go @O8.eq_1 ?_;refine CX (ι:={ k:Nat // k<=G f.DR/\f.find name=KU name (f.DR.drop k) }) (λk=>[(10,(k.1:Int)),(5,.c (.bool U))]) (λ_=>[.box 27 f.vs U,.box 103 (BG.zero.row.map V.c) U]) (λk=>G f.DR - k.1) ⟨0,by simp[AP.find]⟩ ?_ ?_;exact ER (cj @BG.zero.eq_1<|@BG.row.eq_1);rintro ⟨k,hk,S⟩;by_cases B:k<G f.DR;obtain⟨g,z⟩:=AI (f.DR[k]);rw[D5 B,z]at S;by_cases M:g.name=name;have q:f.find name=J g:=by rw[S];simp[KU,M]
 refine go (cj4 @B @z @M @O8.eq_1 @BG.row.eq_1) ?_;exact At (cj4 results128 @YK.eq_1 @q @BG.row.eq_1 @M);have hw:AZ.wrap ((k:Int)+1)=((k+1:Nat):Int):=by rw[Ac];simp
 refine go (cj5 @B @z @M @O8.eq_1 @BG.row.eq_1 @hw) ?_;refine⟨⟨k+1,Ux,by rw[S];simp[KU,M]⟩,by simp only;omega,?_⟩;exact ER (cj @BG.zero.eq_1<|@BG.row.eq_1);have q:f.find name=none:=by rw[S,FA Ux];rfl
 refine go (cj2 @B @BG.zero.eq_1 @BG.row.eq_1) ?_;exact At (cj4 results128 @YK.eq_1 @q @BG.zero.eq_1 @BG.row.eq_1)
theorem L5 (f:AP)(name:ByteArray)(hl:G f.DR<=maxLen):AC AF 104 [.agg f.vs,.c (.str name)] (YK (f.find name)):=by
 unfold maxLen at hl;refine en fB ntmps104 ?_;refine go @O8.eq_1 ?_;refine CX (ι:={ k:Nat // k<=G f.DR/\f.find name=KU name (f.DR.drop k) }) (λk=>[(6,(k.1:Int)),(5,.c (.bool U))]) (λ_=>[.box 27 f.vs U,.box 103 (BG.zero.row.map V.c) U]) (λk=>G f.DR - k.1) ⟨0,by simp[AP.find]⟩ ?_ ?_;exact ER (cj @BG.zero.eq_1<|@BG.row.eq_1);rintro ⟨k,hk,S⟩;by_cases B:k<G f.DR;obtain⟨g,z⟩:=AI (f.DR[k]);rw[D5 B,z]at S;by_cases M:g.name=name;have q:f.find name=J g:=by rw[S];simp[KU,M]
 refine go (cj4 @B @z @M @O8.eq_1 @BG.row.eq_1) ?_;exact At (cj4 Oq @YK.eq_1 @q @BG.row.eq_1 @M);have hw:AZ.wrap ((k:Int)+1)=((k+1:Nat):Int):=by rw[Ac];simp
 refine go (cj5 @B @z @M @O8.eq_1 @BG.row.eq_1 @hw) ?_;refine⟨⟨k+1,Ux,by rw[S];simp[KU,M]⟩,by simp only;omega,?_⟩;exact ER (cj @BG.zero.eq_1<|@BG.row.eq_1);have q:f.find name=none:=by rw[S,FA Ux];rfl
 refine go (cj3 @B @BG.zero.eq_1 @BG.row.eq_1 @O8.eq_1) ?_;exact At (cj4 Oq @YK.eq_1 @q @BG.zero.eq_1 @BG.row.eq_1)
theorem dy (f:AP)(name:ByteArray)(M:G f.DR<=maxLen):AC AF 209 [.agg f.vs,.c (.str name)] (Hg (f.pick name)):=by
 refine en func209 ntmps209 ?_;refine Ah ?_;refine gc (cj @YK.eq_1<|@BG.row.eq_1) (xX f name M) func128 ?_;cases B:f.find name with
 | some g=>refine go @BG.row.eq_1 ?_;exact At (cj4 Akx @Hg.eq_1 @AP.pick.eq_1 @B @BG.row.eq_1)
 | none =>
   refine go (cj @BG.zero.eq_1<|@BG.row.eq_1) ?_;refine gc (cj @YK.eq_1<|@BG.row.eq_1) (xX f ⟨#[63]⟩ M) func128 ?_;cases S:f.find ⟨#[63]⟩with
   | some g=>refine go @BG.row.eq_1 ?_;exact At (cj5 Akx @Hg.eq_1 @AP.pick.eq_1 @B @S @BG.row.eq_1)
   | none=>refine go (cj @BG.zero.eq_1<|@BG.row.eq_1) ?_;exact At (cj6 Akx @Hg.eq_1 @AP.pick.eq_1 @B @S @BG.zero.eq_1 @BG.row.eq_1)
theorem AP2 (f:AP)(name:ByteArray)(M:G f.DR<=maxLen):AC AF 278 [.agg f.vs,.c (.str name)] (Hg (f.pick name)):=by
 refine en func278 ntmps278 ?_;refine Ah ?_;refine gc (cj @YK.eq_1<|@BG.row.eq_1) (L5 f name M) fB ?_;cases B:f.find name with
 | some g=>refine go @BG.row.eq_1 ?_;exact At (cj4 Ak1 @Hg.eq_1 @AP.pick.eq_1 @B @BG.row.eq_1)
 | none =>
   refine go (cj @BG.zero.eq_1<|@BG.row.eq_1) ?_;refine gc (cj @YK.eq_1<|@BG.row.eq_1) (L5 f ⟨#[63]⟩ M) fB ?_;cases S:f.find ⟨#[63]⟩with
   | some g=>refine go @BG.row.eq_1 ?_;exact At (cj5 Ak1 @Hg.eq_1 @AP.pick.eq_1 @B @S @BG.row.eq_1)
   | none=>refine go (cj @BG.zero.eq_1<|@BG.row.eq_1) ?_;exact At (cj6 Ak1 @Hg.eq_1 @AP.pick.eq_1 @B @S @BG.zero.eq_1 @BG.row.eq_1)
theorem Xg (S M:Int)(l:List Int)(hl:G l<=maxLen):AC AF 58 [S,M,.c (AV l)] (.c (.bool (DX S M l))):=by
 unfold maxLen at hl;refine en func58 ntmps58 ?_;refine go @AV.eq_1 ?_;refine CX (ι:={ k:Nat // k<=G l/\DX S M l=DX S M (l.drop k) }) (λk=>[(11,(k.1:Int)),(6,.c (.bool U))]) (λ_=>[]) (λk=>G l - k.1) ⟨0,ZA⟩ ?_ ?_;exact DH;rintro ⟨k,hk,q⟩;by_cases B:k<G l;obtain⟨n,z⟩:=AI (l[k]);rw[D5 B,z]at q;by_cases h1:n<S;have e:DX S M l=false:=by rw[q];simp[DX];omega
 refine go (cj3 @B @z @h1 @AV.eq_1) ?_;exact At (cj Ak4<| @e);by_cases h2:M<n;have e:DX S M l=false:=by rw[q];simp[DX];omega
 refine go (cj4 @B @z @h1 @h2 @AV.eq_1) ?_;exact At (cj Ak4<| @e);have hw:AZ.wrap ((k:Int)+1)=((k+1:Nat):Int):=by rw[Ac];simp
 refine go (cj5 @B @z @h1 @h2 @AV.eq_1 @hw) ?_;refine⟨⟨k+1,Ux,by rw[q];simp[DX];omega⟩,by simp only;omega,?_⟩;exact DH;have e:DX S M l=true:=by rw[q,FA Ux];rfl
 refine go (cj @B<|@AV.eq_1) ?_;exact At (cj Ak4<| @e)
theorem bf (n M S:Int):AC AF 101 [n,M,S] (.c (.bool (DX M S [n]))):=by
 by_cases B:M<=n;refine en ey tt ?_;refine go @B ?_;exact At (cj2 tz @DX.eq_1 @B);refine en ey tt ?_;refine go @B ?_;exact At (cj2 tz @DX.eq_1 @B)
theorem AHO (g:BG):AC AF 103 [Hg g] (.c (.bool (DX (-20000) 20000 g.OQ))):=by
 unfold Hg;refine AC.intro func103 rfl ?_;simp only[ntmps103,Ap,BB,BA,BO,Nat.reduceAdd,Nat.reduceSub,BY,Cy,BK,BU,BG.row];refine Ah ?_;refine CX (ι:={ k:Nat // k<=5/\DX (-20000) 20000 g.OQ=DX (-20000) 20000 (g.OQ.drop k) }) (λk=>[(4,(k.1:Int)),(2,.c (.bool U))]) (λ_=>[.box 103 (g.row.map V.c) U]) (λk=>5 - k.1) ⟨0,ZA⟩ ?_ ?_;exact ER @BG.row.eq_1;rintro ⟨k,hk,M⟩;by_cases B:k<5;have z:G g.OQ=5:=F;obtain⟨n,hn⟩:∃n,g.OQ[k]'(by rw[z];exact B)=n:=⟨_,rfl⟩
 rw[D5 (by rw[z];exact B),hn]at M;have Bn:([[C.int AZ g.w],[C.int AZ g.h],[C.int AZ g.d],[C.int AZ g.Ey],[C.int AZ g.attach]]:List (List C))[k]?=J [.int .i64 n]:=by
  have e:([[C.int AZ g.w],[C.int AZ g.h],[C.int AZ g.d],[C.int AZ g.Ey],[C.int AZ g.attach]]:List (List C))=g.OQ.map λn=>[C.int .i64 n]:=F
  rw[e,CM,BE (by rw[z];exact B),hn];rfl
 have q:(k:Int)<5:=Ux;refine go (cj @q<|@Bn) ?_;refine BZ (bf n (-20000) 20000) ey ?_;cases S:DX (-20000) 20000 [n]with
 | false =>
   have e:DX (-20000) 20000 g.OQ=false:=by rw[M];simp[DX]at S ⊢;omega
   refine go @S ?_;exact At (cj results103<| @e)
 | true =>
   have hw:AZ.wrap ((k:Int)+1)=((k+1:Nat):Int):=by rw[Ac];simp
   refine go (cj @S<|@hw) ?_;refine⟨⟨k+1,Ux,by rw[M];simp[DX]at S ⊢;omega⟩,by simp only;omega,?_⟩;exact ER @BG.row.eq_1
 have e:DX (-20000) 20000 g.OQ=true:=by rw[M,FA (by show 5<=k;omega)];rfl
 have q : ¬(k:Int)<5:=Ux;refine go @q ?_;exact At (cj results103<| @e)
theorem Ajp (n p:Int)(S:0<=n)(q:n<=1099511627776)(M:0<=p)(z:p<=10000):AC AF 281 [n,p] (Ea (n*p) 100:Int):=by
 have hb:=Qh n p 1099511627776 10000 Ux q M z;have hn:0<=n*p:=Int.mul_nonneg S M;have B : ¬n<0:=Ux;have w1:AZ.wrap (2*n)=2*n:=Ac;have w2:AZ.wrap (2*n*p)=2*n*p:=wrap_i64 (by rw[AEW];omega) (by rw[AEW];omega);have w3:AZ.wrap (2*n*p+100)=2*n*p+100:=wrap_i64 (by rw[AEW];omega) (by rw[AEW];omega);have e:Ea (n*p) 100=(2*n*p+100).tdiv 200:=by
  unfold Ea;rw[Awd hn,Int.tdiv_eq_ediv_of_nonneg (by rw[AEW];omega),AEW];rfl
 have w4:AZ.wrap ((2*n*p+100).tdiv 200)=Ea (n*p) 100:=by
  rw[<-e];have:=AKS (n*p) 109951162777600 Ux Ux;exact Ac
 refine en AQf ntmps281 ?_;refine go (cj4 @B @w1 @w2 @w3 @w4) ?_;exact At results281
theorem Am6 (a:Int):Ea (-a) 100= -Ea a 100:=by
 unfold Ea;split<;>split<;>omega
theorem Ajo (n p:Int)(z : -1099511627776<=n)(q:n<=1099511627776)(M:0<=p)(S:p<=10000):AC AF 281 [n,p] (Ea (n*p) 100:Int):=by
 by_cases B:n<0;have hb:=Qh n p 1099511627776 10000 z q M S;have w1:AZ.wrap (-n)= -n:=Ac;have hr:=AKS (n*p) 109951162777600 Ux Ux;have w2:AZ.wrap (Ea (n*p) 100)=Ea (n*p) 100:=Ac;have e:Ea (-n*p) 100= -Ea (n*p) 100:=by rw[Int.neg_mul,Am6]
 refine en AQf ntmps281 ?_;refine go (cj @B<|@w1) ?_;refine gc (cj @e<|@w2) (Ajp (-n) p Ux Ux M S) AQf ?_;refine Ah ?_;exact At results281;exact Ajp n p Ux q M S
def Cx.one (S:BF)(b n:Nat):Cx:={ dom:=λk=>k=0,loc:=λ_=>⟨b,n,U,0,U⟩,S:=S }
def AX (P:Program)(f:FuncId)(args:List V)(ty:TypeId)(cells cells':List C)(res:V):Prop:=
 ∀(S:BF) (w:World) (us:List Value) (b:Nat) (vs:Array Value),(∀b' j,S b' j->b'<w.heap.size)->(∀j,j<vs.size->¬S b j)->w.heap[b]?=J (.cells vs ty (0,0))->B4 S w cells vs.toList->AO (Cx.one S b vs.size) w args us->
  Calls P f us.toArray w λr w'=>∃u S' Bz,r=.returned u/\KB (λk=>k=b) w w'/\Ar S S' w w'/\(∀b' j,S' b' j->S b' j\/(w.heap.size<=b'/\b'<w'.heap.size)\/(b'=b/\vs.size<=j))/\w'.heap[b]?=J (.cells Bz ty (0,0))/\Bz.size=vs.size/\B4 S' w' cells' Bz.toList/\CV (Cx.bare S') w' res u
mutual
def V.Di (k:Nat):V->Option V
 | .ptr i off=>if i=k then J (.ptr 0 off)else E
 | .c d=>J (.c d)
 | .Bg r=>J (.c (.sl r))
 | .gr _ _ r=>J (.c (.sl r))
 | .cp row off=>J (.cp row off)
 | .agg l=>(V.Dj k l).map V.agg
 | .A7 l=>(V.Dj k l).map V.A7
 | .fn f caps=>(V.Dj k caps).map (V.fn f)
 | .yl l=>J (.yl l)
 | .mp _=>E
 | .any=>J .any
 | .own _ _ _ _=>E
 | .Be _ _ _=>E
 | .hp _ _ _=>E
def V.Dj (k:Nat):List V->Option (List V)
 | []=>J []
 | v::l=>match V.Di k v,V.Dj k l with
   | some y,J r=>J (y::r)
   | _,_=>E
end
mutual
theorem AJ1 {x:Cx}{w:World}{k n:Nat} : ∀(v M:V) (u:Value),V.Di k v=J M->CV x w v u->CV (Cx.one x.S (x.loc k).b n) w M u
 | .ptr i z,M,u,h,B=>by
   simp only[V.Di]at h;split at h;rename_i e;cases h;subst e;simp only[CV,Cx.one]at B ⊢;exact⟨W,W,B.2.2⟩;cases h
 | .c c,M,u,h,B=>by simp only[V.Di,BL]at h;subst h;simpa only[CV,Cx.one]using B
 | .Bg r,M,u,h,B=>by simp only[V.Di,BL]at h;subst h;simp only[CV]at B ⊢;obtain⟨_,_,B⟩:=B;exact B
 | .gr k es r,M,u,h,B=>by simp only[V.Di,BL]at h;subst h;simp only[CV]at B ⊢;exact B.2.2.1
 | .cp row z,M,u,h,B=>by simp only[V.Di,BL]at h;subst h;simpa only[CV,Cx.one]using B
 | .yl l,M,u,h,B=>by simp only[V.Di,BL]at h;subst h;simpa only[CV]using B
 | .mp _,_,_,h,_=>by simp[V.Di]at h
 | .agg l,M,u,h,B=>by
   simp only[V.Di,Ia]at h;obtain⟨r,h,rfl⟩:=h;simp only[CV]at B ⊢;obtain⟨vs,e,B⟩:=B;exact⟨vs,e,Qn l r _ h B⟩
 | .A7 l,M,u,h,B=>by
   simp only[V.Di,Ia]at h;obtain⟨r,h,rfl⟩:=h;simp only[CV]at B ⊢;obtain⟨vs,e,B⟩:=B;exact⟨vs,e,Qn l r _ h B⟩
 | .fn f q,M,u,h,B=>by
   simp only[V.Di,Ia]at h;obtain⟨r,h,rfl⟩:=h;simp only[CV]at B ⊢;obtain⟨vs,e,B⟩:=B;exact⟨vs,e,Qn q r _ h B⟩
 | .any,M,u,h,_=>by simp only[V.Di,BL]at h;subst h;simp only[CV]
 | .own _ _ _ _,_,_,h,_=>by simp[V.Di]at h
 | .Be _ _ _,_,_,h,_=>by simp[V.Di]at h
 | .hp _ _ _,_,_,h,_=>by simp[V.Di]at h
theorem Qn {x:Cx}{w:World}{k n:Nat} : ∀(l M:List V) (us:List Value),V.Dj k l=J M->AO x w l us->AO (Cx.one x.S (x.loc k).b n) w M us
 | [],M,us,h,B=>by simp only[V.Dj,BL]at h;subst h;simpa only[AO]using B
 | v::l,M,us,h,B=>by
   simp only[AO]at B;obtain⟨u,q,rfl,z,h2⟩:=B;unfold V.Dj at h;split at h;rename_i y r hy hr;cases h;simp only[AO];exact⟨u,q,F,AJ1 v y u hy z,Qn l r q hr h2⟩;cases h
end
section
variable {P:Program} {K:Exit->St->Prop} {ops:List Oper} {s:St}
theorem SW.pJ {f:FuncId}{args Bd:List V}{cells B:List C}(K9:AX P f Bd ty cells B res)(hf:P.funcs[f]?=J fn)(hb:fn.body.isSome=I)(hn:(fn.name == "runtime.NumGoroutine")=U)(hg:BQ ops s.t o.guard=J I)(q:C7 (ev s.t) o.op=J (f,args))(hp:V.Dj k args=J Bd)(hk:s.h[k]?=J (.box ty cs U))(A3:toCs cs=J cells)(h:SW P ops K r (s.step o.dst res (J (k,.box ty (B.map V.c) U)))):SW P ops K (o::r) s:=λS0 w0 x a w z=>by
 have hw:FB o (yielded ops.toArray a.tmps)=true:=by
  have:=KR (o:=o) z.tm (IF (ops:=ops) (K1:=True) (K2:=False) hg W);exact Kn λh=>this.2 h
 unfold wpList;rw[Awd hw];refine .inl ?_;unfold C7 at q;split at q
 case h_2=>cases q
 rename_i fo ar Fk ho;split at q
 case h_2=>cases q
 rename_i f' A0 FG;simp only[BL,Cr]at q;obtain⟨rfl,rfl⟩:=q;have CN:=Pp (CW z.tm fo);rw[FG]at CN;simp only[CV]at CN;obtain⟨Dl,CN,EP⟩:=CN;have Hw:AO x w (ar.toList.map (ev s.t)++A0) (ar.toList.map a.eval++Dl.toList):=(AO.of_map λy _=>CW z.tm y).append EP;have g:=z.good;obtain⟨hd,b1,b2,vs,b3,b4,b5⟩:=g.ok k _ hk;have Fh:=toCs_ok A3 b5;have PO : ∀j,j<vs.size->¬x.S (x.loc k).b j:=λj hj=>g.EA k _ j hk ⟨rfl,Ux⟩
 have Co:=K9 x.S w _ (x.loc k).b vs g.ex PO b3 Fh (Qn _ _ _ hp Hw);have CT:fn.body≠none:=by intro e;rw[e]at hb;cases hb
 have F6:fn.name≠ "runtime.NumGoroutine":=by simpa using hn
 have A1:(execOp a.eval o).run P w=.ok (.enter f' (ar.toList.map a.eval++Dl.toList).toArray) w:=by
  have e1:(ar.map a.eval++Dl)=(ar.toList.map a.eval++Dl.toList).toArray:=by apply Gx.1;simp
  simp[execOp,ho,resolve,CN,M5,invoke,callFunc,program,HW,hf,F6,CT,e1]
 unfold Er;rw[A1];refine Co.mono ?_;rintro r' w' ⟨u,S',Bz,rfl,M,CZ,Gc,h1,h2,h3,h4⟩;have A5:=(g.ok k _ hk).2.lt b2;have he:Ext x { x with S:=S' } w w':=⟨CZ,λ_ h=>h,λ_ _=>FM.refl _⟩
 have g':=g.H5 (x':={ x with S:=S' }) k (.box ty (B.map V.c) U) he (M.wide λb e=>⟨hd,b2,e.symm⟩) (λi=>⟨.inl,λh=>h.elim id λe=>e ▸ hd⟩) (λ_ _=>rfl) (λ_=>.inl ⟨hd,b2,rfl⟩)
  ⟨b1,b2,Bz,h1,by rw[h2,b4],AO.OS h3⟩ (λb j hs=>(Gc b j hs).imp id λh=>h.elim (λh=>⟨h.2,.inl h.1,λe=>by have:(x.loc k).b=b:=e;omega⟩) (λh=>⟨by rw[h.1];exact H7 A5 M.size,.inr ⟨hd,b2,h.1.symm⟩,λ_ hx=>by have h5:j<(x.loc k).n:=hx.2;have h6:=h.2;omega⟩)) (λj hx=>g.EA k _ j hk hx)
 have CB:NC w w':=⟨M.size,λb ob D7 II=>(M.block b (DO.1 D7).1 λe=>by subst e;rw[b3]at D7;cases D7;cases II).trans D7⟩
 have e:=Kj s.h (J (k,O.box ty (B.map V.c) U)) (λk' o' e=>by cases e;exact LZ (Br.1 hk).1);have A2:Good S0 w0 { x with S:=S' } w' (λi=>(Bk s.h (J (k,O.box ty (B.map V.c) U)))[i]?):=by rw[e];exact g'
 exact h S0 w0 _ _ w' (Bo.put z.tm (z.df.mono CB) he A2 (CV.mono (Ub S' x w') _ _ h4) o.dst)
def Xy (P:Program)(l:List ResultVar)(res:V)(ty:TypeId)(cells':List C):Exit->St->Prop
 | .normal,s=>DV P s l=J res/\∃cs,s.h[0]?=J (.box ty cs U)/\toCs cs=J cells'
 | .ret,s=>DV P s l=J res/\∃cs,s.h[0]?=J (.box ty cs U)/\toCs cs=J cells'
 | _,_=>False
theorem AX.intro {f:FuncId}{fn:Func}{c:Code}{args:List V}{ty:TypeId}{cells M:List C}{res:V}(hf:P.funcs[f]?=J fn)(hb:fn.body=J c)(h:AW ⟨E,1⟩ P c (Xy P fn.results.toList res ty M) ⟨args++Aq (fn.ntmps - G args) .any,[.box ty (cells.map V.c) U]⟩):AX P f args ty cells M res:=by
 intro S w us b vs hS PO FF Fh B7;have A5:b<w.heap.size:=(DO.1 FF).1;refine callsIn_wide.1 (callsIn_of_wp_marks (F:=Cg) (n:=0) hf hb trivial ?_);let B:Bs:=⟨w,λk=>k<w.heap.size/\k≠b,λ_ h=>h.1,Cx.one S b vs.size,1,λk hk=>by have:k=0:=hk;omega⟩
 have hA:Bo S B (Cx.one S b vs.size) ⟨args++Aq (fn.ntmps - G args) .any,[.box ty (cells.map V.c) U]⟩ { tmps:=us.toArray++M4 (fn.ntmps - us.toArray.size) undef,defers:=[] } w:=by
  refine⟨⟨λk o h=>?_,λk h=>?_,λk k' o o' h h' A0=>?_,λk o j h hx=>?_,hS,λk o h _ hF=>hF.2 rfl,λb j h=>.inl h,λb j h=>h,.FR (Ay.refl w),Ext.refl _ _⟩,?_,Marks.nil _ _⟩;match k,h with
  | 0,h =>
    cases h;exact⟨rfl,rfl,rfl,vs,FF,rfl,AO.OS Fh⟩
  | k+1,h=>simp at h
  have:k=0:=h;subst this;exact⟨_,rfl⟩;match k,k',h,h' with
  | 0,0,_,_=>exact absurd rfl A0
  | 0,k'+1,_,h'=>simp at h'
  | k+1,_,h,_=>simp at h
  match k,h with
  | 0,h=>cases h;exact PO j hx.2
  | k+1,h=>simp at h
  simp only[Pq,T8];have hl:us.toArray.size=G args:=by simpa using B7.len
  rw[hl];exact B7.append (SQ _ _ _ _)
 refine wpIn_mono (h 0 S B _ _ w (BN _) hA) λe a' w' ⟨x,s,Au,hK⟩=>?_
 have A1 : ∀ {R:Ending->World->Prop},(∀u w' S' Bz,KB (λk=>k=b) w w'->Ar S S' w w'->(∀q j,S' q j->S q j\/(w.heap.size<=q/\q<w'.heap.size)\/(q=b/\vs.size<=j))->w'.heap[b]?=J (.cells Bz ty (0,0))->Bz.size=vs.size->B4 S' w' M Bz.toList->CV (Cx.bare S') w' res u->R (.returned u) w')->
  (DV P s fn.results.toList=J res/\∃cs,s.h[0]?=J (.box ty cs U)/\toCs cs=J M)->LeavesInM Cg 0 P fn a'.tmps R a'.defers .returning w':=by
  rintro R hR ⟨hr,cs,h0,A2⟩;obtain⟨Ds,e,h1,h2⟩:=Au.df;rw[e];refine kS hr Ds w' h1 h2 Au.good Au.tm λw2 u g hu=>?_
  have Lu:=g.ext.loc 0 rfl;have z:x.loc 0=⟨b,vs.size,U,0,U⟩:=by
   rcases Lu.2 with e|e
   exact e.symm;cases e.1
  obtain⟨_,_,_,Bz,k3,k4,k5⟩:=g.ok 0 _ h0;rw[z]at k3 k4;refine hR u w2 x.S Bz ⟨g.keep.os,g.keep.tape,g.keep.output,g.keep.size,λk hk A0=>g.keep.block k hk λhn=>hn ⟨hk,A0⟩⟩ ⟨g.sub,λq j v hs hc=>g.ext.ar.cell q j v hs hc⟩ (λq j hs=>?_) k3 k4 (toCs_ok A2 k5) hu;rcases g.new q j hs with hq|hq
  exact .inl hq;by_cases e:q=b;subst e;by_cases hj:j<vs.size;exact absurd (by rw[z];exact hs) (g.EA 0 _ j h0 ⟨rfl,by rw[z];exact hj⟩);exact .inr (.inr ⟨rfl,Ux⟩);exact .inr (.inl ⟨Hq λA3=>hq ⟨A3,e⟩,g.ex q j hs⟩)
 cases e with
 | normal=>exact A1 (λu w' S' Bz h1 h2 h3 h4 h5 h6 h7=>⟨u,S',Bz,rfl,h1,h2,h3,h4,h5,h6,h7⟩) hK
 | ret=>exact A1 (λu w' S' Bz h1 h2 h3 h4 h5 h6 h7=>⟨u,S',Bz,rfl,h1,h2,h3,h4,h5,h6,h7⟩) hK
 | _=>exact hK.elim
end
section
variable {P:Program} {K:Exit->St->Prop} {ops:List Oper} {s:St}
theorem SW.OU (G:V->Option (Nat×O)->Prop)(hg:BQ ops s.t o.guard=J I)(hR : ∀(S0:BF) (w0:Bs) (x:Cx) (a:Act) (w:World),Good S0 w0 x w (λk=>s.h[k]?)->AO x w s.t a.tmps.toList->¬x.dom s.h.length->∃v t,(∀k ob,t=J (k,ob)->k<=s.h.length)/\G v t/\BW P o a S0 w0 x w (λk=>s.h[k]?) v t)(h : ∀v t,G v t->SW P ops K r (s.step o.dst v t)):SW P ops K (o::r) s:=λS0 w0 x a w B=>by
 have hw:FB o (yielded ops.toArray a.tmps)=true:=by
  have:=KR (o:=o) B.tm (IF (ops:=ops) (K1:=True) (K2:=False) hg W);exact Kn λh=>this.2 h
 unfold wpList;rw[Awd hw];refine .inl ?_;obtain⟨v,t,A0,hG,nx,w',x',u,hr,EH,q,M,z,_⟩:=hR x.S (w0.re w B.good.keep.size) x a w B.good.XR B.tm B.fresh;rw[<-Kj _ _ A0]at M;obtain⟨M,CB⟩:=B.good.Sg z M;unfold Er;rw[hr];rcases EH with rfl|⟨rfl,rfl⟩
 exact h v t hG S0 w0 x' _ w' (Bo.put B.tm (B.df.mono CB) z M q o.dst);exact h v t hG S0 w0 x' _ w' (Bo.put B.tm (B.df.mono CB) z M q o.dst)
end
section
variable {P:Program} {S0:BF} {w0:Bs} {x:Cx} {w:World} {H:Bx} {a:Act} {o:Oper} {v:V}
theorem AI4 (g:Good S0 w0 x w H){t:TypeId}{y z:Operand}(ho:o.op=.slice t y E (J z) E){es Bq:Nat}(hT:Dk P t=J (Ae,es,Bq)){k off len n:Nat}{kd:IntKind}(B:CV x w (.own k off len es) (a.eval y))(S:CV x w (.c (.int kd (n:Int))) (a.eval z))(hn:n<=len):
 BW P o a S0 w0 x w H (.own k off n es) none:=by
 obtain⟨hu,ie,zv,q,_,M,_,_⟩:=JS hT;simp only[CV,Ab]at B S;obtain⟨h1,h2,cap,B,h3,h4,h5⟩:=B;have h6:(n:Int)<=(cap:Int):=Ux;refine BW.pure g (u:=.slice (J ⟨(x.loc k).b,off,E⟩) n cap) ?_ ?_;simp[execOp,ho,B,S.1,Instr.sliceAt,Instr.slice,run_underlying hu,Instr.sliceBounds,Instr.sliceBound,asIntOf,sizeOf,typeInfo,q,h6,M,aD];intro h;omega;simp only[CV];exact⟨h1,h2,cap,F,Ux,h4,h5⟩
theorem AIw (g:Good S0 w0 x w H){t:TypeId}{y:Operand}(ho:o.op=.buildSlice t 1 #[(0,y)])(hT:Dk P t=J (Ae,1,Bq))(z:CV x w v (a.eval y))(S:v.one=I)(M:Nat)(hk : ¬x.dom M):
 BW P o a S0 w0 x w H (.own M 0 1 1) (J (M,.box Ae [v] U)):=by
 obtain⟨hu,ie,zv,EB,hz,B,_,_⟩:=JS hT;have ze:=z.one S;have hr:=run_buildSlice (P:=P) w t Ae 1 #[(0,a.eval y)] #[a.eval y] ie zv hu EB hz (by rw[B];omega) (by rw[B];omega) (by
  rw[B];simp only[fi,AEj ze];simp;refine Array.ext ZA λi S q=>?_
  simp at q;subst q;simp)
 obtain⟨g',he⟩:=g.Zc M hk Ae [v] #[a.eval y] (by simp only[AO];exact⟨_,[],F,z,F⟩);refine⟨_,_,_,.slice (J ⟨w.heap.size,0,E⟩) 1 1,by simp only[execOp,ho,Jt,AMl,Ap,BB,hr,Oo];rfl,.inl F,?_,g',he,λk h=>h.elim .inl λe=>.inr ⟨.box Ae [v] U,by rw[e]⟩,λ_=>rfl⟩;simp only[CV,Cx.C4,Awg];exact⟨.inr W,W,1,F,BN _,by unfold maxLen;omega,ZA⟩
theorem AIv (g:Good S0 w0 x w H){t:TypeId}(ho:o.op=.buildSlice t 0 #[]){es Bq:Nat}(q:Dk P t=J (Ae,es,Bq)):BW P o a S0 w0 x w H (.Bg []) none:=by
 obtain⟨hu,ie,zv,M,hz,A0,_,_⟩:=JS q;obtain⟨A,w',hr,B,hs⟩:∃A w',(Instr.buildSlice t 0 #[]).run P w=.ok (.slice A 0 0) w'/\Ay w w'/\w'.heap.size>=w.heap.size:=by
  refine⟨J ⟨w.heap.size,0,E⟩,w.alloc (.cells (Array.map (λx=>default) (Array.range 0)) Ae),?_,(Ay.refl w).alloc _,ZA⟩;simp[Instr.buildSlice,run_underlying hu,sizeOf,typeInfo,zeroValue,M,hz,fi,newRow]
 obtain⟨S,he⟩:=g.MF (x':=x) B ⟨λ_ _ h=>h,λb j v _ z=>B.cell z⟩ rfl rfl (λb j h=>.inl h);refine⟨_,_,x,.slice A 0 0,by simp only[execOp,ho,Jt,AMl,BB,hr,Oo];rfl,.inl F,?_,S,he,λk h=>.inl h,λ_=>rfl⟩;simp only[CV,Ab];exact⟨A,F,A,0,F,BN _,Ux,λh=>absurd rfl h⟩
theorem AVN (g:Good S0 w0 x w H){t t':TypeId}{y z:Operand}(ho:o.op=.binOp .eql t y z t'){es Bq:Nat}(q:Dk P t=J (Ae,es,Bq)){AG:List (List C)}(B:Ab x.S w (.sl AG) (a.eval y))(hz:a.eval z=.slice E 0 0):
 ∃b:Bool,(b=I->AG=[])/\BW P o a S0 w0 x w H (.c (.bool b)) none:=by
 obtain⟨hu,ie,zv,EB,_,A0,_,_⟩:=JS q;simp only[Ab]at B;obtain⟨A,c,B,h1,h2,M⟩:=B;refine⟨A.isNone,λh=>?_,BW.pure g (u:=.bool A.isNone) ?_ (by simp only[CV,Ab])⟩;cases A with
 | none =>
   by_cases e:AG=[]
   exact e;obtain⟨_,_,_,h,_⟩:=M e;cases h
 | some _=>cases h
 have hb : ∀A n c,(binOp .eql t (.slice A n c) (.slice E 0 0))=(do pure (.bool (<-Pt t (.slice A n c) (.slice E 0 0)))):=λ_ _ _=>rfl
 have he : ∀A n c,(Pt t (.slice A n c) (.slice E 0 0)).run P w=.ok A.isNone w:=by
  intro A n c;have e:Pt t (.slice A n c) (.slice E 0 0)=aP (9999+1) t (.slice A n c) (.slice E 0 0):=F;rw[e];unfold aP;cases A<;>simp[run_underlying hu]
 have hq:(eqGuard .eql t y z (.slice A (G AG) c) (.slice E 0 0)).run P w=.ok () w:=F;simp only[execOp,ho,B,hz,Jt,hq,hb,he,Oo,Sem.run_pure]
theorem AI2 (g:Good S0 w0 x w H)(n:Nat){t t':TypeId}{y z:Operand}(ho:o.op=.binOp .eql t y z t'){es Bq:Nat}(q:Dk P t=J (Ae,es,Bq)){AG:List (List C)}(hy:Ab x.S w (.sl AG) (a.eval y))(hz:a.eval z=.slice E 0 0):
 ∃v t,(∀k ob,t=J (k,ob)->k<=n)/\(t=E/\∃b:Bool,v=.c (.bool b)/\(b=I->AG=[]))/\BW P o a S0 w0 x w H v t:=by
 obtain⟨b,B,M⟩:=AVN g ho q hy hz;exact⟨_,_,λ_ _ h=>(by cases h),⟨F,b,F,B⟩,M⟩
theorem AU2 (g:Good S0 w0 x w H){t:TypeId}{y z:Operand}(ho:o.op=.call ⟨.builtin .copy,#[y,z],#[t,t]⟩){es Bq:Nat}(hT:Dk P t=J (Ae,es,Bq)){k:Nat}{AG:List (List C)}(hy:CV x w (.own k 0 (G AG) es) (a.eval y))(hz:Ab x.S w (.sl AG) (a.eval z))(hr : ∀r∈AG,G r=es)(hk:H k=J (.box ty cs U))(hl:G cs=G AG*es):BW P o a S0 w0 x w H (.c (.int .i64 (G AG))) (J (k,.box ty (AG.flatten.map V.c) U)):=by
 obtain⟨hu,ie,zv,EB,_,A3,_,_⟩:=JS hT;obtain⟨hd,A5⟩:=g.ok k _ hk;obtain⟨b1,b2,vs,hb,hn,A2⟩:=A5;simp only[CV]at hy;obtain⟨_,_,cap,hy,h3,h4,h5⟩:=hy;obtain⟨A,c,B,e,k1,k2,k3,k4,k5,k6⟩:=T0 hz hr;have dK:vs.size=G AG*es:=by have:=A2.len;simp only[FW]at this;omega
 have A1:=k3.r8;have A0:=run_storeCells_at (P:=P) (t:=ty) (off:=0) B 0 w vs hb (by simp;omega) A1;have FH:=cC B 0 0 vs (by simp;omega);obtain⟨M,dM⟩:∃M,((B.zipIdx 0).foldl (λ(c:Array Value) (p:Value×Nat)=>c.setIfInBounds (0+p.2) p.1) vs)=M:=⟨_,rfl⟩
 rw[dM]at A0 FH;have kH:M.toList=B:=by rw[FH];simp;omega
 have q:(tw #[t,t] o.type #[.slice (J ⟨(x.loc k).b,0,E⟩) (G AG) cap,.slice A (G AG) c]).run P w=.ok (goInt (G AG)) (w.setRow (x.loc k).b M):=by
  have zH:(fc es (G AG) (.slice A (G AG) c)).run P w=.ok B.toArray w:=by
   cases A with
   | none =>
     have:AG=[]:=by
      by_cases e:AG=[]
      exact e;obtain⟨_,_,h,_⟩:=k6 e;cases h
     subst this;have:B=[]:=Nr (by simpa using k4);subst this;simp[fc]
   | some ad=>exact run_firstCells_some (P:=P) w es (G AG) ad (G AG) c B k4 (k5 _ F)
  simp[tw,run_underlying hu,tx,sizeOf,typeInfo,EB,A3,zH,A0]
 obtain⟨g',he⟩:=g.ACa k ty cs (AG.flatten.map V.c) hk vs M hb (by rw[<-FW,kH,k4,dK]) (by rw[kH];exact AO.OS k3);refine⟨_,_,x,goInt (G AG),by simp[execOp,ho,resolve,invoke,builtin,hy,e,q],.inl F,?_,g',he,λ_ h=>.inl h,λ_=>rfl⟩;simp only[CV,Ab,goInt];exact⟨W,Q8 Ux⟩
theorem AU1 (g:Good S0 w0 x w H){t:TypeId}{y z:Operand}(ho:o.op=.call ⟨.builtin .copy,#[y,z],#[t,t]⟩){es Bq:Nat}(hT:Dk P t=J (Ae,es,Bq))(q:Ab x.S w (.sl []) (a.eval y))(hz:Ab x.S w (.sl []) (a.eval z)):BW P o a S0 w0 x w H (.c (.int .i64 0)) none:=by
 obtain⟨hu,ie,zv,EB,_,A0,_,_⟩:=JS hT;simp only[Ab,BO]at q hz;obtain⟨A,c,q,_⟩:=q;obtain⟨B,d,hz,_⟩:=hz;have hl : ∀(y:Addr),(loadCells y 0).run P w=.ok #[] w:=λy=>by simpa using run_loadCells_list (P:=P) w y [] ZA
 have M:(tw #[t,t] o.type #[.slice A 0 c,.slice B 0 d]).run P w=.ok (goInt 0) w:=by
  cases A<;>cases B<;>simp[tw,run_underlying hu,tx,fc,sizeOf,typeInfo,EB,storeCells,hl]
 refine BW.pure g (u:=goInt 0) (by simp[execOp,ho,resolve,invoke,builtin,q,hz,M]) ?_;simp only[CV,Ab,goInt];exact⟨W,Q8 (n:=0) Ux⟩
theorem AUw (g:Good S0 w0 x w H){t:TypeId}{y z:Operand}(ho:o.op=.call ⟨.builtin .append,#[y,z],#[t,t]⟩)(hT:Dk P t=J (Ae,1,Bq)){k k2 len:Nat}(hy:CV x w (.own k 0 len 1) (a.eval y))(hz:CV x w (.own k2 0 1 1) (a.eval z))(hk:H k=J (.box Ae cs U)){tP:TypeId}{fr:Bool}(EG:H k2=J (.box tP [v] fr))(Fv:v.one=I)(hm:len+1<=maxLen)(hb:(len+1)*Bq<=140737488355328)(hl:len<=G cs)(k0:Nat)(Iu : ¬x.dom k0):
 (len<G cs/\BW P o a S0 w0 x w H (.own k 0 (len+1) 1) (J (k,.box Ae (cs.set len v) U)))\/(∃n,BW P o a S0 w0 x w H (.own k0 0 (len+1) 1) (J (k0,.box Ae (cs.take len++v::Aq n .any) U))):=by
 obtain⟨hu,ie,zv,EB,R7,A0,A7,B2⟩:=JS hT;obtain⟨hd,b1,b2,vs,cW,hn,S⟩:=g.ok k _ hk;obtain⟨QL,c1,c2,us,NP,KY,jh⟩:=g.ok k2 _ EG;simp only[CV]at hy hz;obtain⟨_,_,cap,hy,h3,h4,h5⟩:=hy;obtain⟨_,_,wc,hz,_,_,_⟩:=hz;simp only[AO]at jh;obtain⟨u,ur,B7,Y6,rfl⟩:=jh;have dK:vs.size=G cs:=by have:=S.len;simpa using this
 have B1:=Y6.one Fv;have A2 : ∀(j:Nat) (q:Value),([u]:List Value)[j]?=J q->w.cell? (aD ⟨(x.loc k2).b,0,E⟩ j)=J q:=by
  intro j q hq;rw[J0,Cz,cell_of_row w _ j us tP (0,0) NP];rw[<-VZ,B7];exact hq
 by_cases M:len+1<=cap;left;have A3:len<G cs:=Ux;refine⟨A3,?_⟩;have DK:w.cell? ⟨(x.loc k).b,len,E⟩=J vs[len]:=by rw[cell_of_row w _ len vs Ae (0,0) cW];simp[dK,A3]
 have B0:(storeCells ⟨(x.loc k).b,len,E⟩ [u] 0).run P w=.ok () (w.setRow (x.loc k).b (vs.setIfInBounds len u)):=by
  have:=run_storeCells_at (P:=P) (t:=Ae) (off:=len) [u] 0 w vs cW (by simp;omega) (by simpa using B1);simpa using this
 have zH:=run_firstCells_some (P:=P) w 1 1 ⟨(x.loc k2).b,0,E⟩ 1 wc [u] ZA A2;have B:(aE #[t,t] o.type #[.slice (J ⟨(x.loc k).b,0,E⟩) len cap,.slice (J ⟨(x.loc k2).b,0,E⟩) 1 wc]).run P w=.ok (.slice (J ⟨(x.loc k).b,0,E⟩) (len+1) cap) (w.setRow (x.loc k).b (vs.setIfInBounds len u)):=by
  simp[aE,run_underlying hu,sizeOf,typeInfo,EB,A0,tx,M,zH,Addr.add_lit,B0]
 obtain⟨g',he⟩:=g.ACa k Ae cs (cs.set len v) hk vs (vs.setIfInBounds len u) cW ZA (by simpa using S.set len Y6);refine⟨.value (.slice (J ⟨(x.loc k).b,0,E⟩) (len+1) cap),w.setRow (x.loc k).b (vs.setIfInBounds len u),x,.slice (J ⟨(x.loc k).b,0,E⟩) (len+1) cap,by simp[execOp,ho,resolve,invoke,builtin,hy,hz,B],.inl F,?_,g',he,λ_ h=>.inl h,λOD=>rfl⟩;simp only[CV];exact⟨hd,b1,cap,F,M,h4,h5⟩;right;have DK:cap=len:=Ux;subst DK;have A5 : ∀(j:Nat) (q:Value),(vs.toList.take cap)[j]?=J q->w.cell? (aD ⟨(x.loc k).b,0,E⟩ j)=J q:=by
  intro j q hq;rw[J0,Cz,cell_of_row w _ j vs Ae (0,0) cW,<-VZ];rw[KO]at hq;split at hq;exact hq;cases hq
 have B:=run_append_grow (P:=P) w t o.type Ae ie zv hu EB R7 ⟨(x.loc k).b,0,E⟩ cap cap (vs.toList.take cap) (by rw[Fa,A0];simp;omega) A5 ⟨(x.loc k2).b,0,E⟩ 1 wc [u] (by rw[A0];rfl) A2 Ux (by unfold maxLen at hm;omega) (growslice_fits Ux (by rw[A7];exact hb));have JL:=grownCap_ge w (cap+1) cap Ae;have A9:=grownCap_le_maxLen w (cap+1) cap Ae hm;refine⟨grownCap w (cap+1) cap Ae - (cap+1),?_⟩;obtain⟨arr,Ft⟩:=AI ((vs.toList.take cap).toArray++[u].toArray++KN zv.cells (grownCap w (cap+1) cap Ae - (cap+1)));rw[Ft]at B;have A1:(KN zv.cells (grownCap w (cap+1) cap Ae - (cap+1))).toList.length=grownCap w (cap+1) cap Ae - (cap+1):=by simp[size_zeroCells,B2]
 have FE:arr.toList=vs.toList.take cap++u::(KN zv.cells (grownCap w (cap+1) cap Ae - (cap+1))).toList:=by rw[<-Ft];simp
 have A6:arr.size=grownCap w (cap+1) cap Ae:=by rw[<-FW,FE];simp only[Cp,BA,Fa,FW,A1];rw[FW]at A1;omega
 have LB:Ay w w.drew:=(Ay.refl w).drew;obtain⟨gd,ca⟩:=g.MF (x':=x) LB ⟨λ_ _ h=>h,λb j v _ hc=>LB.cell hc⟩ rfl rfl (λb j h=>.inl h);have A8:AO x w.drew (cs.take cap++v::Aq (grownCap w (cap+1) cap Ae - (cap+1)) .any) arr.toList:=by
  rw[FE];refine(AO.mono ca _ _ (S.take cap)).append ?_;simp only[AO];refine⟨u,_,F,CV.mono ca _ _ Y6,AO.SI (by rw[A1];simp) λi v' u' h1 _=>?_⟩;rw[mT]at h1;split at h1;cases h1;simp only[CV];cases h1
 obtain⟨g',he⟩:=gd.Zc k0 Iu Ae _ arr A8;refine⟨.value (.slice (J ⟨w.heap.size,0,E⟩) (cap+1) (grownCap w (cap+1) cap Ae)),w.drew.alloc (.cells arr Ae),_,.slice (J ⟨w.heap.size,0,E⟩) (cap+1) (grownCap w (cap+1) cap Ae),by simp[execOp,ho,resolve,invoke,builtin,hy,hz,B],.inl F,?_,g',ca.trans he,λk h=>h.elim .inl λe=>.inr ⟨.box Ae (cs.take cap++v::Aq (grownCap w (cap+1) cap Ae - (cap+1)) .any) U,by rw[e]⟩,λOD=>by rw[ho]at OD;cases OD⟩;simp only[CV,Cx.C4,Awg];exact⟨.inr W,W,_,F,JL,A9,by rw[A6];omega⟩
theorem AUx (g:Good S0 w0 x w H)(n:Nat){t:TypeId}{y z:Operand}(ho:o.op=.call ⟨.builtin .append,#[y,z],#[t,t]⟩)(hT:Dk P t=J (Ae,1,Bq)){k q len:Nat}(hy:CV x w (.own k 0 len 1) (a.eval y))(hz:CV x w (.own q 0 1 1) (a.eval z))(hk:H k=J (.box Ae cs U)){tP:TypeId}{fr:Bool}(EG:H q=J (.box tP [v] fr))(Fv:v.one=I)(hm:len+1<=maxLen)(hb:(len+1)*Bq<=140737488355328)(hl:len<=G cs)(hn : ¬x.dom n)(Ej:k<=n):
 ∃S B,(∀k ob,B=J (k,ob)->k<=n)/\((len<G cs/\S=.own k 0 (len+1) 1/\B=J (k,.box Ae (cs.set len v) U))\/∃j,S=.own n 0 (len+1) 1/\B=J (n,.box Ae (cs.take len++v::Aq j .any) U))/\BW P o a S0 w0 x w H S B:=by
 rcases AUw g ho hT hy hz hk EG Fv hm hb hl n hn with ⟨h1,M⟩|⟨j,M⟩
 exact⟨_,_,λ_ _ h=>(by cases h;exact Ej),.inl ⟨h1,F,F⟩,M⟩;exact⟨_,_,λ_ _ h=>(by cases h;exact BN _),.inr ⟨j,F,F⟩,M⟩
end
section
variable {P:Program} {m:Mo}
def Xv (F:Fence)(n:Nat)(P:Program)(c:Code)(Q:Exit->Act->World->Prop)(a:Act)(w:World):Prop:=
 ∀(b:Frame) (k:List Item) (cs:List Frame),b.roundOf=F.round->F.fn b.fn->F.room (G cs+1+n)->
  ∃e a' w',Q e a' w'/\ArrivesIn (Machine.fenced P F) P (lone (b.atR a (.code c:: .inLoop c::k)) cs w) b k cs e a' w'
theorem Xv.round {F:Fence}{a:Act}(h:c.wpIn F n P (Exit.then (Xv F n P c Q) Q) a w):Xv F n P c Q a w:=by
 intro b k cs A0 hb hr;obtain⟨e,B,M,q,S⟩:=h b (.inLoop c::k) cs A0 hb hr;cases e with
 | normal=>obtain⟨e₂,z,w₂,zp,yh⟩:=q b k cs A0 hb hr;exact⟨e₂,z,w₂,zp,.of_steps (StepsIn.trans S (.one (fenced_calm hb hr rfl) stepR_inLoop)) yh⟩
 | exit id=>exact⟨_,B,M,q,.pass (x:=.inLoop c) rfl (λ_ _=>.inl ZA) S⟩
 | goto l=>exact⟨_,B,M,q,.pass (x:=.inLoop c) rfl (λ_ _=>.inl ZA) S⟩
 | ret=>exact⟨_,B,M,q,.pass (x:=.inLoop c) rfl (λ_ _=>.inl ZA) S⟩
 | panic ch=>exact⟨_,B,M,q,.pass (x:=.inLoop c) rfl (λ_ _=>.inl ZA) S⟩
 | outgrown=>exact⟨_,B,M,q,.pass (x:=.inLoop c) rfl (λ_ _=>.inl ZA) S⟩
theorem Xv.loop {F:Fence}{a:Act}(h:Xv F n P c Q a w):(Code.loop c).wpIn F n P Q a w:=by
 intro b k cs B M S;obtain⟨e,z,w',hq,q⟩:=h b k cs B M S;exact⟨e,z,w',hq,.of_steps (.one (fenced_calm M S rfl) stepR_loop) q⟩
def LA (m:Mo)(P:Program)(c:Code)(K:Exit->St->Prop)(s:St):Prop:=
 ∀(n:Nat) (S0:BF) (w0:Bs) (x:Cx) (a:Act) (w:World),w0.n0<=m.n0->Bo S0 w0 x s a w->Xv (fz m) n P c (λe a w=>∃x s,Bo S0 w0 x s a w/\K e s) a w
theorem LA.loop (h:LA m P c K s):AW m P (.loop c) K s:=λn S0 w0 x a w M B=>(h n S0 w0 x a w M B).loop
theorem LA.round (h:AW m P c (NH (LA m P c K) K) s):LA m P c K s:=λn S0 w0 x a w S q=>Xv.round (wpIn_mono (h n S0 w0 x a w S q) λe a w ⟨x,s,B,M⟩=>by
 cases e with
 | normal=>exact M n S0 w0 x a w S B
 | _=>exact⟨x,s,B,M⟩)
theorem LA.le {s s':St}(q:Le m s s')(h:LA m P c K s'):LA m P c K s:=λn S0 w0 x a w B S=>let ⟨x',M⟩:=q S0 w0 x a w B S;h n S0 w0 x' a w B M
end
mutual
def V.GS (ρ:Nat->Nat):V->V
 | .ptr k off=>.ptr (ρ k) off
 | .own k off len es=>.own (ρ k) off len es
 | .gr k es AG=>.gr (ρ k) es AG
 | .Be k es AG=>.Be (ρ k) es AG
 | .hp k n pos=>.hp (ρ k) n pos
 | .agg l=>.agg (V.SO ρ l)
 | .A7 l=>.A7 (V.SO ρ l)
 | .fn f l=>.fn f (V.SO ρ l)
 | .any=>.any
 | .c d=>.c d
 | .cp r off=>.cp r off
 | .Bg r=>.Bg r
 | .yl l=>.yl l
 | .mp k=>.mp (ρ k)
def V.SO (ρ:Nat->Nat):List V->List V
 | []=>[]
 | v::l=>V.GS ρ v::V.SO ρ l
end
def Cx.pull (x:Cx)(ρ:Nat->Nat)(N:Nat):Cx:={ dom:=λk=>k<N/\x.dom (ρ k),loc:=λk=>x.loc (ρ k),S:=x.S }
mutual
theorem CV.pull {x:Cx}{w:World}{ρ:Nat->Nat}{N:Nat} : ∀(v:V) (u:Value),v.A8 N=I->CV x w (V.GS ρ v) u->CV (x.pull ρ N) w v u
 | .ptr k M,u,B,h=>by simp only[V.A8,Awe]at B;simp only[V.GS,CV,Cx.pull]at h ⊢;exact⟨⟨B,h.1⟩,h.2⟩
 | .own k M len es,u,B,h=>by simp only[V.A8,Awe]at B;simp only[V.GS,CV,Cx.pull]at h ⊢;exact⟨⟨B,h.1⟩,h.2⟩
 | .gr k es S,u,B,h=>by simp only[V.A8,Awe]at B;simp only[V.GS,CV,Cx.pull]at h ⊢;exact⟨⟨B,h.1⟩,h.2⟩
 | .Be k es S,u,B,h=>by simp only[V.A8,Awe]at B;simp only[V.GS,CV,Cx.pull]at h ⊢;exact⟨⟨B,h.1⟩,h.2⟩
 | .hp k m pos,u,B,h=>by simp only[V.A8,Awe]at B;simp only[V.GS,CV,Cx.pull]at h ⊢;exact⟨⟨B,h.1⟩,h.2⟩
 | .agg l,u,B,h=>by simp only[V.A8]at B;simp only[V.GS,CV]at h ⊢;obtain⟨vs,e,h⟩:=h;exact⟨vs,e,AO.pull l _ B h⟩
 | .A7 l,u,B,h=>by simp only[V.A8]at B;simp only[V.GS,CV]at h ⊢;obtain⟨vs,e,h⟩:=h;exact⟨vs,e,AO.pull l _ B h⟩
 | .fn f l,u,B,h=>by simp only[V.A8]at B;simp only[V.GS,CV]at h ⊢;obtain⟨vs,e,h⟩:=h;exact⟨vs,e,AO.pull l _ B h⟩
 | .any,u,_,h=>by simp only[CV]
 | .c _,u,_,h=>by simpa only[V.GS,CV,Cx.pull]using h
 | .cp _ _,u,_,h=>by simpa only[V.GS,CV,Cx.pull]using h
 | .Bg _,u,_,h=>by simpa only[V.GS,CV,Cx.pull]using h
 | .yl l,u,_,h=>by simpa only[V.GS,CV]using h
 | .mp k,u,B,h=>by simp only[V.A8,Awe]at B;simp only[V.GS,CV,Cx.pull]at h ⊢;exact⟨⟨B,h.1⟩,h.2⟩
theorem AO.pull {x:Cx}{w:World}{ρ:Nat->Nat}{N:Nat} : ∀(l:List V) (us:List Value),V.BI N l=I->AO x w (V.SO ρ l) us->AO (x.pull ρ N) w l us
 | [],us,_,h=>by simpa only[V.SO,AO]using h
 | v::l,us,B,h=>by
   simp only[V.BI,Ak]at B;simp only[V.SO,AO]at h ⊢;obtain⟨u,M,e,S,q⟩:=h;exact⟨u,M,e,CV.pull v u B.1 S,AO.pull l M B.2 q⟩
end
def Wk (ρ:Nat->Nat)(N:Nat)(v v':V):Prop:=v'=.any\/(v=v'.GS ρ/\v'.A8 N=I)\/∃AG,v=.Bg AG/\v'=.c (.sl AG)
def EM (ρ:Nat->Nat)(N:Nat):List V->List V->Prop
 | [],l'=>l'=[]
 | v::l,v'::l'=>Wk ρ N v v'/\EM ρ N l l'
 | _::_,[]=>False
theorem Wk.ok {ρ:Nat->Nat}{N:Nat}{v M:V}{u:Value}(h:Wk ρ N v M)(B:CV x w v u):CV (x.pull ρ N) w M u:=by
 rcases h with rfl|⟨rfl,h⟩|⟨S,rfl,rfl⟩
 simp only[CV];exact CV.pull M u h B;simp only[CV]at B ⊢;obtain⟨_,_,B⟩:=B;exact B
theorem EM.ok {x:Cx}{w:World}{ρ:Nat->Nat}{N:Nat} : ∀ {l M:List V} {us:List Value},EM ρ N l M->AO x w l us->AO (x.pull ρ N) w M us
 | [],M,us,h,B=>by simp only[EM]at h;subst h;simpa only[AO]using B
 | v::l,[],us,h,_=>by simp[EM]at h
 | v::l,v'::M,us,h,B=>by
   simp only[EM]at h;simp only[AO]at B ⊢;obtain⟨u,z,e,S,q⟩:=B;exact⟨u,z,e,h.1.ok S,EM.ok h.2 q⟩
theorem EM.append {ρ:Nat->Nat}{N:Nat} : ∀ {l B k k':List V},EM ρ N l B->EM ρ N k k'->EM ρ N (l++k) (B++k')
 | [],B,k,k',h,M=>by simp only[EM]at h;subst h;exact M
 | v::l,[],k,k',h,_=>by simp[EM]at h
 | v::l,S::B,k,k',h,M=>by simp only[EM]at h;exact⟨h.1,EM.append h.2 M⟩
theorem EM.any {ρ:Nat->Nat}{N:Nat} : ∀(l:List V),EM ρ N l (Aq (G l) .any)
 | []=>rfl
 | v::l=>⟨.inl F,EM.any l⟩
theorem EM.same {ρ:Nat->Nat}{N:Nat} : ∀ {l:List V},V.SO ρ l=l->V.BI N l=I->EM ρ N l l
 | [],_,_=>rfl
 | v::l,h,B=>by
   simp only[V.SO,List.cons.injEq]at h;simp only[V.BI,Ak]at B;exact⟨.inr (.inl ⟨h.1.symm,B.1⟩),EM.same h.2 B.2⟩
def Wo (ρ:Nat->Nat)(N:Nat):O->O->Prop
 | .box ty cs fr,.box GV cs' py=>ty=GV/\fr=py/\EM ρ N cs cs'
 | .tok ty es cur,.tok GV es' YE=>ty=GV/\es=es'/\cur=YE
 | _,_=>False
theorem Le.GS {rd:Option Nat}{t t':List V}{h S:List O}(ρ:Nat->Nat)(A0 : ∀i j,i<G S->j<G S->ρ i=ρ j->i=j)(ht:EM ρ (G S) t t')(hh : ∀k o',S[k]?=J o'->∃o,h[ρ k]?=J o/\Wo ρ (G S) o o'):Le ⟨rd,0⟩ ⟨t,h⟩ ⟨t',S⟩:=λS0 w0 x a w hm hA=>by
 have g:=hA.good;have NR : ∀k,¬w0.x0.dom k:=λk M=>by have:=w0.dl k M;have:w0.n0<=0:=hm;omega
 have q : ∀ {k o'},S[k]?=J o'->k<G S:=λM=>(Br.1 M).1
 have zh : ∀ {k o o'},Wo ρ (G S) o o'->Ld x w (ρ k) o->Ld (x.pull ρ (G S)) w k o':=by
  intro k o o' B A5;cases o with
  | box ty cs fr =>
    cases o' with
    | box GV A1 py=>obtain⟨rfl,rfl,hc⟩:=B;obtain⟨a1,a2,vs,a3,a4,a5⟩:=A5;exact⟨a1,a2,vs,a3,a4,hc.ok a5⟩
    | tok _ _ _=>exact B.elim
    | Be _ _ _ _=>exact B.elim
    | mp _=>exact B.elim
  | tok ty es A2 =>
    cases o' with
    | tok GV A3 YE=>obtain⟨rfl,rfl,rfl⟩:=B;exact A5
    | box _ _ _=>exact B.elim
    | Be _ _ _ _=>exact B.elim
    | mp _=>exact B.elim
  | Be _ _ _ _=>exact B.elim
  | mp _=>exact B.elim
 have A6 : ∀ {k o o' j},Wo ρ (G S) o o'->Ex (x.pull ρ (G S)) k o' j->Ex x (ρ k) o j:=by
  intro k o o' j B hx;cases o with
  | box ty cs fr =>
    cases o' with
    | box GV A1 py=>obtain⟨rfl,rfl,hc⟩:=B;exact hx
    | tok _ _ _=>exact B.elim
    | Be _ _ _ _=>exact B.elim
    | mp _=>exact B.elim
  | tok ty es A2 =>
    cases o' with
    | tok GV A3 YE=>obtain⟨rfl,rfl,rfl⟩:=B;exact hx
    | box _ _ _=>exact B.elim
    | Be _ _ _ _=>exact B.elim
    | mp _=>exact B.elim
  | Be _ _ _ _=>exact B.elim
  | mp _=>exact B.elim
 refine⟨x.pull ρ (G S),⟨λk o' M=>?_,λk M=>?_,λk k' o o' h1 h2 A7 hv A8=>?_,λk o' j M hx=>?_,g.ex,λk o' M hv=>?_,g.new,g.sub,g.keep,g.ext.ar,λk M=>(NR k M).elim,λk M=>(NR k M).elim⟩,ht.ok hA.tm,hA.df⟩;obtain⟨o,z,B⟩:=hh k o' M;obtain⟨h1,h2⟩:=g.ok _ o z;exact⟨⟨q M,h1⟩,zh B h2⟩;exact⟨_,BE M.1⟩;obtain⟨p,hp,_⟩:=hh k o h1;obtain⟨p',U7,_⟩:=hh k' o' h2;exact g.inj _ _ p p' hp U7 (λe=>A7 (A0 _ _ (q h1) (q h2) e)) hv A8;obtain⟨o,z,B⟩:=hh k o' M;exact g.EA _ o j z (A6 B hx);obtain⟨o,z,_⟩:=hh k o' M;exact g.own _ o z hv
theorem jn {m:Mo}{c d:Code}{t:List V}{h:List O}{ι:Type}(f:ι->List (Nat×V)){ws:List Nat}{t0:List V}(hc:AW m P c (NH (λs'=>∃i:ι,Le m s' ⟨CG (f i) t0,h⟩) K) ⟨t,h⟩)(hr : ∀i:ι,AW m P d K ⟨CG (f i) t0,h⟩)(hw:wr c=ws:=by simp only[wr,lq,BK,BU,E5,GX];exact rfl)(ht:jb ws t=t0:=by simp only[jb,Bw,CO,Ag,Ai];exact rfl):AW m P c (NH (AW m P d K) K) ⟨t,h⟩:=
 hc.mono λe s h=>by
  cases e with
  | normal=>obtain⟨i,hi⟩:=h;exact AW.le hi (hr i)
  | _=>exact h
mutual
def V.Q6:V->Bool
 | .ptr _ _=>I
 | .c _=>I
 | .cp _ _=>I
 | .agg l=>V.Pn l
 | .A7 l=>V.Pn l
 | .fn _ l=>V.Pn l
 | .yl _=>I
 | .any=>I
 | _=>U
def V.Pn:List V->Bool
 | []=>I
 | v::l=>v.Q6 && V.Pn l
end
mutual
theorem AXH {x:Cx}{w:World}{k b n:Nat}(hd:x.dom k)(ht:(x.loc k).tok=U)(hb:(x.loc k).b=b):∀(v q:V) (u:Value),V.Q6 v=I->V.Di k v=J q->CV (Cx.one x.S b n) w q u->CV x w v u
 | .ptr i A0,q,u,_,h,B=>by
   simp only[V.Di]at h;split at h;rename_i e;cases h;subst e;simp only[CV,Cx.one]at B ⊢;exact⟨hd,ht,by rw[hb];exact B.2.2⟩;cases h
 | .c c,q,u,_,h,B=>by simp only[V.Di,BL]at h;subst h;simpa only[CV,Cx.one]using B
 | .cp row A0,q,u,_,h,B=>by simp only[V.Di,BL]at h;subst h;simpa only[CV,Cx.one]using B
 | .yl l,q,u,_,h,B=>by simp only[V.Di,BL]at h;subst h;simpa only[CV]using B
 | .agg l,q,u,M,h,B=>by
   simp only[V.Di,Ia]at h;obtain⟨r,h,rfl⟩:=h;simp only[V.Q6]at M;simp only[CV]at B ⊢;obtain⟨vs,e,B⟩:=B;exact⟨vs,e,Zo hd ht hb l r _ M h B⟩
 | .A7 l,q,u,M,h,B=>by
   simp only[V.Di,Ia]at h;obtain⟨r,h,rfl⟩:=h;simp only[V.Q6]at M;simp only[CV]at B ⊢;obtain⟨vs,e,B⟩:=B;exact⟨vs,e,Zo hd ht hb l r _ M h B⟩
 | .fn f z,q,u,M,h,B=>by
   simp only[V.Di,Ia]at h;obtain⟨r,h,rfl⟩:=h;simp only[V.Q6]at M;simp only[CV]at B ⊢;obtain⟨vs,e,B⟩:=B;exact⟨vs,e,Zo hd ht hb z r _ M h B⟩
 | .any,q,u,_,h,B=>by simp only[CV]
 | .Bg _,_,_,M,_,_=>by simp[V.Q6]at M
 | .gr _ _ _,_,_,M,_,_=>by simp[V.Q6]at M
 | .own _ _ _ _,_,_,M,_,_=>by simp[V.Q6]at M
 | .mp _,_,_,M,_,_=>by simp[V.Q6]at M
 | .Be _ _ _,_,_,M,_,_=>by simp[V.Q6]at M
 | .hp _ _ _,_,_,M,_,_=>by simp[V.Q6]at M
theorem Zo {x:Cx}{w:World}{k b n:Nat}(z:x.dom k)(ht:(x.loc k).tok=U)(hb:(x.loc k).b=b):∀(l M:List V) (us:List Value),V.Pn l=I->V.Dj k l=J M->AO (Cx.one x.S b n) w M us->AO x w l us
 | [],M,us,_,h,B=>by simp only[V.Dj,BL]at h;subst h;simpa only[AO]using B
 | v::l,M,us,q,h,B=>by
   simp only[V.Pn,Ak]at q;unfold V.Dj at h;split at h;rename_i y r hy hr;cases h;simp only[AO]at B ⊢;obtain⟨u,ur,rfl,h1,h2⟩:=B;exact⟨u,ur,F,AXH z ht hb v y u q.1 hy h1,Zo z ht hb l r ur q.2 hr h2⟩;cases h
end
def AY (P:Program)(f:FuncId)(args:List V)(ty:TypeId)(cells cells':List V)(res:V):Prop:=
 ∀(S:BF) (w:World) (us:List Value) (b:Nat) (vs:Array Value),(∀b' j,S b' j->b'<w.heap.size)->(∀j,j<vs.size->¬S b j)->w.heap[b]?=J (.cells vs ty (0,0))->AO (Cx.one S b vs.size) w cells vs.toList->AO (Cx.one S b vs.size) w args us->
  Calls P f us.toArray w λr w'=>∃u S' Bz,r=.returned u/\KB (λk=>k=b) w w'/\Ar S S' w w'/\(∀b' j,S' b' j->S b' j\/(w.heap.size<=b'/\b'<w'.heap.size)\/(b'=b/\vs.size<=j))/\w'.heap[b]?=J (.cells Bz ty (0,0))/\Bz.size=vs.size/\AO (Cx.one S' b vs.size) w' cells' Bz.toList/\CV (Cx.bare S') w' res u
section
variable {P:Program} {K:Exit->St->Prop} {ops:List Oper} {s:St}
theorem SW.V9 {f:FuncId}{args Bd:List V}{cells B cs cs':List V}(K9:AY P f Bd ty cells B res)(hf:P.funcs[f]?=J fn)(hb:fn.body.isSome=I)(hn:(fn.name == "runtime.NumGoroutine")=U)(hg:BQ ops s.t o.guard=J I)(q:C7 (ev s.t) o.op=J (f,args))(hp:V.Dj k args=J Bd)(hk:s.h[k]?=J (.box ty cs U))(A3:V.Dj k cs=J cells)(jg:V.Dj k cs'=J B)(R5:V.Pn cs'=I)(h:SW P ops K r (s.step o.dst res (J (k,.box ty cs' U)))):SW P ops K (o::r) s:=λS0 w0 x a w z=>by
 have hw:FB o (yielded ops.toArray a.tmps)=true:=by
  have:=KR (o:=o) z.tm (IF (ops:=ops) (K1:=True) (K2:=False) hg W);exact Kn λh=>this.2 h
 unfold wpList;rw[Awd hw];refine .inl ?_;unfold C7 at q;split at q
 case h_2=>cases q
 rename_i fo ar Fk ho;split at q
 case h_2=>cases q
 rename_i f' A0 FG;simp only[BL,Cr]at q;obtain⟨rfl,rfl⟩:=q;have CN:=Pp (CW z.tm fo);rw[FG]at CN;simp only[CV]at CN;obtain⟨Dl,CN,EP⟩:=CN;have Hw:AO x w (ar.toList.map (ev s.t)++A0) (ar.toList.map a.eval++Dl.toList):=(AO.of_map λy _=>CW z.tm y).append EP;have g:=z.good;obtain⟨hd,b1,b2,vs,b3,b4,b5⟩:=g.ok k _ hk;have Fh:=Qn (n:=vs.size) _ _ _ A3 b5;have PO : ∀j,j<vs.size->¬x.S (x.loc k).b j:=λj hj=>g.EA k _ j hk ⟨rfl,Ux⟩
 have Co:=K9 x.S w _ (x.loc k).b vs g.ex PO b3 Fh (Qn _ _ _ hp Hw);have CT:fn.body≠none:=by intro e;rw[e]at hb;cases hb
 have F6:fn.name≠ "runtime.NumGoroutine":=by simpa using hn
 have A1:(execOp a.eval o).run P w=.ok (.enter f' (ar.toList.map a.eval++Dl.toList).toArray) w:=by
  have e1:(ar.map a.eval++Dl)=(ar.toList.map a.eval++Dl.toList).toArray:=by apply Gx.1;simp
  simp[execOp,ho,resolve,CN,M5,invoke,callFunc,program,HW,hf,F6,CT,e1]
 unfold Er;rw[A1];refine Co.mono ?_;rintro r' w' ⟨u,S',Bz,rfl,M,CZ,Gc,h1,h2,h3,h4⟩;have A5:=(g.ok k _ hk).2.lt b2;have he:Ext x { x with S:=S' } w w':=⟨CZ,λ_ h=>h,λ_ _=>FM.refl _⟩
 have g':=g.H5 (x':={ x with S:=S' }) k (.box ty cs' U) he (M.wide λb e=>⟨hd,b2,e.symm⟩) (λi=>⟨.inl,λh=>h.elim id λe=>e ▸ hd⟩) (λ_ _=>rfl) (λ_=>.inl ⟨hd,b2,rfl⟩)
  ⟨b1,b2,Bz,h1,by rw[h2,b4],Zo (x:={ x with S:=S' }) hd b1 rfl _ _ _ R5 jg h3⟩ (λb j hs=>(Gc b j hs).imp id λh=>h.elim (λh=>⟨h.2,.inl h.1,λe=>by have:(x.loc k).b=b:=e;omega⟩) (λh=>⟨by rw[h.1];exact H7 A5 M.size,.inr ⟨hd,b2,h.1.symm⟩,λ_ hx=>by have h5:j<(x.loc k).n:=hx.2;have h6:=h.2;omega⟩)) (λj hx=>g.EA k _ j hk hx)
 have CB:NC w w':=⟨M.size,λb ob D7 II=>(M.block b (DO.1 D7).1 λe=>by subst e;rw[b3]at D7;cases D7;cases II).trans D7⟩
 have e:=Kj s.h (J (k,O.box ty cs' U)) (λk' o' e=>by cases e;exact LZ (Br.1 hk).1);have A2:Good S0 w0 { x with S:=S' } w' (λi=>(Bk s.h (J (k,O.box ty cs' U)))[i]?):=by rw[e];exact g'
 exact h S0 w0 _ _ w' (Bo.put z.tm (z.df.mono CB) he A2 (CV.mono (Ub S' x w') _ _ h4) o.dst)
def GI (P:Program)(l:List ResultVar)(res:V)(ty:TypeId)(cells':List V):Exit->St->Prop
 | .normal,s=>DV P s l=J res/\s.h[0]?=J (.box ty cells' U)/\V.Dj 0 cells'=J cells'
 | .ret,s=>DV P s l=J res/\s.h[0]?=J (.box ty cells' U)/\V.Dj 0 cells'=J cells'
 | _,_=>False
theorem AY.intro {f:FuncId}{fn:Func}{c:Code}{args:List V}{ty:TypeId}{cells M:List V}{res:V}(hf:P.funcs[f]?=J fn)(hb:fn.body=J c)(h:AW ⟨E,1⟩ P c (GI P fn.results.toList res ty M) ⟨args++Aq (fn.ntmps - G args) .any,[.box ty cells U]⟩):AY P f args ty cells M res:=by
 intro S w us b vs hS PO FF Fh B7;have A5:b<w.heap.size:=(DO.1 FF).1;refine callsIn_wide.1 (callsIn_of_wp_marks (F:=Cg) (n:=0) hf hb trivial ?_);let B:Bs:=⟨w,λk=>k<w.heap.size/\k≠b,λ_ h=>h.1,Cx.one S b vs.size,1,λk hk=>by have:k=0:=hk;omega⟩
 have hA:Bo S B (Cx.one S b vs.size) ⟨args++Aq (fn.ntmps - G args) .any,[.box ty cells U]⟩ { tmps:=us.toArray++M4 (fn.ntmps - us.toArray.size) undef,defers:=[] } w:=by
  refine⟨⟨λk o h=>?_,λk h=>?_,λk k' o o' h h' A0=>?_,λk o j h hx=>?_,hS,λk o h _ hF=>hF.2 rfl,λb j h=>.inl h,λb j h=>h,.FR (Ay.refl w),Ext.refl _ _⟩,?_,Marks.nil _ _⟩;match k,h with
  | 0,h =>
    cases h;exact⟨rfl,rfl,rfl,vs,FF,rfl,Fh⟩
  | k+1,h=>simp at h
  have:k=0:=h;subst this;exact⟨_,rfl⟩;match k,k',h,h' with
  | 0,0,_,_=>exact absurd rfl A0
  | 0,k'+1,_,h'=>simp at h'
  | k+1,_,h,_=>simp at h
  match k,h with
  | 0,h=>cases h;exact PO j hx.2
  | k+1,h=>simp at h
  simp only[Pq,T8];have hl:us.toArray.size=G args:=by simpa using B7.len
  rw[hl];exact B7.append (SQ _ _ _ _)
 refine wpIn_mono (h 0 S B _ _ w (BN _) hA) λe a' w' ⟨x,s,Au,hK⟩=>?_
 have A1 : ∀ {R:Ending->World->Prop},(∀u w' S' Bz,KB (λk=>k=b) w w'->Ar S S' w w'->(∀z j,S' z j->S z j\/(w.heap.size<=z/\z<w'.heap.size)\/(z=b/\vs.size<=j))->w'.heap[b]?=J (.cells Bz ty (0,0))->Bz.size=vs.size->AO (Cx.one S' b vs.size) w' M Bz.toList->CV (Cx.bare S') w' res u->R (.returned u) w')->
  (DV P s fn.results.toList=J res/\s.h[0]?=J (.box ty M U)/\V.Dj 0 M=J M)->LeavesInM Cg 0 P fn a'.tmps R a'.defers .returning w':=by
  rintro R hR ⟨hr,h0,A2⟩;obtain⟨Ds,e,h1,h2⟩:=Au.df;rw[e];refine kS hr Ds w' h1 h2 Au.good Au.tm λw2 u g hu=>?_
  have Lu:=g.ext.loc 0 rfl;have q:x.loc 0=⟨b,vs.size,U,0,U⟩:=by
   rcases Lu.2 with e|e
   exact e.symm;cases e.1
  obtain⟨_,_,_,Bz,k3,k4,k5⟩:=g.ok 0 _ h0;rw[q]at k3 k4;refine hR u w2 x.S Bz ⟨g.keep.os,g.keep.tape,g.keep.output,g.keep.size,λk hk A0=>g.keep.block k hk λhn=>hn ⟨hk,A0⟩⟩ ⟨g.sub,λz j v hs hc=>g.ext.ar.cell z j v hs hc⟩ (λz j hs=>?_) k3 k4 (by have:=Qn (n:=vs.size) _ _ _ A2 k5;rwa [q]at this) hu;rcases g.new z j hs with hq|hq
  exact .inl hq;by_cases e:z=b;subst e;by_cases hj:j<vs.size;exact absurd (by rw[q];exact hs) (g.EA 0 _ j h0 ⟨rfl,by rw[q];exact hj⟩);exact .inr (.inr ⟨rfl,Ux⟩);exact .inr (.inl ⟨Hq λA3=>hq ⟨A3,e⟩,g.ex z j hs⟩)
 cases e with
 | normal=>exact A1 (λu w' S' Bz h1 h2 h3 h4 h5 h6 h7=>⟨u,S',Bz,rfl,h1,h2,h3,h4,h5,h6,h7⟩) hK
 | ret=>exact A1 (λu w' S' Bz h1 h2 h3 h4 h5 h6 h7=>⟨u,S',Bz,rfl,h1,h2,h3,h4,h5,h6,h7⟩) hK
 | _=>exact hK.elim
end
section
variable {P:Program} {ops:List Oper} {K:List Ef->St->Prop}
theorem TW.V9 {f:FuncId}{args Bd:List V}{cells B cs cs':List V}(K9:AY P f Bd ty cells B res)(hf:P.funcs[f]?=J fn)(hb:fn.body.isSome=I)(hn:(fn.name == "runtime.NumGoroutine")=U)(hg:BQ ops s.t o.guard=J I)(M:C7 (ev s.t) o.op=J (f,args))(hp:V.Dj k args=J Bd)(hk:s.h[k]?=J (.box ty cs U))(A5:V.Dj k cs=J cells)(jg:V.Dj k cs'=J B)(R5:V.Pn cs'=I)(h:TW P ops K r (acc++[⟨res,J (k,.box ty cs' U),J k⟩]) (s.step o.dst res (J (k,.box ty cs' U)))):TW P ops K (o::r) acc s:=by
 obtain⟨es,s2,h2,h3⟩:=h;refine⟨⟨res,J (k,.box ty cs' U),J k⟩::es,s2,⟨_,es,F,?_,(λk' ob e=>by cases e;exact LZ (Br.1 hk).1),h2⟩,by simpa using h3⟩;intro S0 w0 x w a H g hl hr _ Q next EH;rw[QF hl hg];show o.wp P a w next Q;have A2:=QR hl;have QH:H k=J (.box ty cs U):=(hr k (.inl F)).trans hk;unfold C7 at M;split at M
 case h_2=>cases M
 rename_i fo z Fk ho;split at M
 case h_2=>cases M
 rename_i f' A0 FG;simp only[BL,Cr]at M;obtain⟨rfl,rfl⟩:=M;have q:=Pp (A2 fo (by simp[ho,Bl,Df]));rw[FG]at q;simp only[CV]at q;obtain⟨Dl,q,EP⟩:=q;have Hw:AO x w (z.toList.map (ev s.t)++A0) (z.toList.map a.eval++Dl.toList):=(AO.of_map λy hy=>A2 y (by simp[ho,Bl,Df];exact .inr (by simpa using hy))).append EP;obtain⟨hd,b1,b2,vs,b3,b4,b5⟩:=g.ok k _ QH;have Fh:=Qn (n:=vs.size) _ _ _ A5 b5;have PO : ∀j,j<vs.size->¬x.S (x.loc k).b j:=λj hj=>g.EA k _ j QH ⟨rfl,Ux⟩
 have Co:=K9 x.S w _ (x.loc k).b vs g.ex PO b3 Fh (Qn _ _ _ hp Hw);have CT:fn.body≠none:=by intro e;rw[e]at hb;cases hb
 have F6:fn.name≠ "runtime.NumGoroutine":=by simpa using hn
 have A3:(execOp a.eval o).run P w=.ok (.enter f' (z.toList.map a.eval++Dl.toList).toArray) w:=by
  have e1:(z.map a.eval++Dl)=(z.toList.map a.eval++Dl.toList).toArray:=by apply Gx.1;simp
  simp[execOp,ho,resolve,q,M5,invoke,callFunc,program,HW,hf,F6,CT,e1]
 unfold Er;rw[A3];refine Co.mono ?_;rintro r' w' ⟨u,S',Bz,rfl,A1,CZ,Gc,h1,h2,h3,h4⟩;have A6:=(g.ok k _ QH).2.lt b2;have he:Ext x { x with S:=S' } w w':=⟨CZ,λ_ h=>h,λ_ _=>FM.refl _⟩
 have g':=g.H5 (x':={ x with S:=S' }) k (.box ty cs' U) he (A1.wide λb e=>⟨hd,b2,e.symm⟩) (λi=>⟨.inl,λh=>h.elim id λe=>e ▸ hd⟩) (λ_ _=>rfl) (λ_=>.inl ⟨hd,b2,rfl⟩)
  ⟨b1,b2,Bz,h1,by rw[h2,b4],Zo (x:={ x with S:=S' }) hd b1 rfl _ _ _ R5 jg h3⟩ (λb j hs=>(Gc b j hs).imp id λh=>h.elim (λh=>⟨h.2,.inl h.1,λe=>by have:(x.loc k).b=b:=e;omega⟩) (λh=>⟨by rw[h.1];exact H7 A6 A1.size,.inr ⟨hd,b2,h.1.symm⟩,λ_ hx=>by have h5:j<(x.loc k).n:=hx.2;have h6:=h.2;omega⟩)) (λj hx=>g.EA k _ j QH hx)
 exact EH u _ w' g' he (CV.mono (Ub S' x w') _ _ h4)
end
theorem UZ {K:List Ef->St->Prop}(h:K acc s):Ie P ops K [] acc s:=h
def LL (P:Program)(ds:List (Option Nat)):Nat->Bool->List Oper->St->Option (List Oper×St)
 | _,I,[],_=>E
 | _,U,[],s=>J ([],s)
 | 0,_,l,s=>J (l,s)
 | n+1,I,o::r,s=>match QE ds s.t o.guard with
   | some I=>match Ka o.op with
     | false=>match Qw P o s with
       | some s'=>LL P ds n U r s'
       | none=>E
     | true=>E
   | some U=>LL P ds n U r (s.put o.dst (.A7 []))
   | none=>E
 | n+1,U,o::r,s=>match o.guard with
   | some _=>J (o::r,s)
   | none=>match Ka o.op with
     | false=>match Qw P o s with
       | some s'=>LL P ds n U r s'
       | none=>E
     | true=>J (o::r,s)
section
variable {P:Program} {K:St->Prop} {ops:List Oper}
theorem oY {ds:List (Option Nat)}(hd:ops.map (·.dst)=ds):∀(n:Nat) (b:Bool) {l q:List Oper} {s s':St},LL P ds n b l s=J (q,s')->Eg P ops K q s'->Eg P ops K l s
 | n,I,[],q,s,s',h,B=>by simp[LL]at h
 | n,U,[],q,s,s',h,B=>by simp only[LL,BL,Cr]at h;obtain⟨rfl,rfl⟩:=h;exact B
 | 0,b,o::r,q,s,s',h,B=>by simp only[LL,BL,Cr]at h;obtain⟨rfl,rfl⟩:=h;exact B
 | n+1,I,o::r,q,s,s',h,B=>by
   subst hd;unfold LL at h;rw[jG]at h;split at h;rename_i z;split at h;rename_i hc;split at h;rename_i s1 M;have ih:=oY rfl n _ h B;unfold Qw at M;split at M;rename_i v t S;cases M;unfold Eg;refine IF z ?_;unfold RP;rw[YC hc];simp only;rw[S];exact ih;cases M;cases h;cases h;rename_i z;unfold Eg;exact X8 z (oY rfl n _ h B);cases h
 | n+1,U,o::r,q,s,s',h,B=>by
   subst hd;unfold LL at h;split at h;simp only[BL,Cr]at h;obtain⟨rfl,rfl⟩:=h;exact B;rename_i Ro;have z:BQ ops s.t o.guard=J true:=by rw[Ro];rfl
   split at h;rename_i hc;split at h;rename_i s1 M;have ih:=oY rfl n _ h B;unfold Qw at M;split at M;rename_i v t S;cases M;unfold Eg;refine IF z ?_;unfold RP;rw[YC hc];simp only;rw[S];exact ih;cases M;cases h;simp only[BL,Cr]at h;obtain⟨rfl,rfl⟩:=h;exact B
end
def SX (P:Program)(ds:List (Option Nat)):Nat->Bool->List Oper->List (Option Nat×Option Nat)->St->Option (List Oper×List (Option Nat×Option Nat)×St)
 | _,I,[],_,_=>E
 | _,U,[],ks,s=>J ([],ks,s)
 | 0,_,l,ks,s=>J (l,ks,s)
 | n+1,I,o::r,ks,s=>match QE ds s.t o.guard with
   | some I=>match Ka o.op with
     | false=>match Qv P o s with
       | some (e,s')=>SX P ds n U r (ks++[e.ks]) s'
       | none=>E
     | true=>E
   | some U=>SX P ds n U r (ks++[(E,E)]) (s.put o.dst (.A7 []))
   | none=>E
 | n+1,U,o::r,ks,s=>match o.guard with
   | some _=>J (o::r,ks,s)
   | none=>match Ka o.op with
     | false=>match Qv P o s with
       | some (e,s')=>SX P ds n U r (ks++[e.ks]) s'
       | none=>E
     | true=>J (o::r,ks,s)
section
variable {P:Program} {K:St->Prop} {ops:List Oper}
theorem ADu {ks:List (Option Nat×Option Nat)}{s s1:St}(q:BQ ops s.t o.guard=J I)(S:Ka o.op=U)(hs:Qv P o s=J (e,s1))(ih:AK P ops K r (ks++[e.ks]) s1):AK P ops K (o::r) ks s:=λacc M=>by
 unfold Qv at hs;split at hs;rename_i v t B;simp only[BL,Cr]at hs;obtain⟨rfl,rfl⟩:=hs;unfold Ie;refine IF q ?_;unfold iN;rw[YC S];simp only;rw[B];exact ih _ (by rw[Fm,M];rfl);cases hs
theorem ANL {ks:List (Option Nat×Option Nat)}(M:BQ ops s.t o.guard=J U)(ih:AK P ops K r (ks++[(E,E)]) (s.put o.dst (.A7 []))):AK P ops K (o::r) ks s:=λacc B=>by
 unfold Ie;exact X8 M (ih _ (by rw[Fm,B];rfl))
theorem oS {ds:List (Option Nat)}(hd:ops.map (·.dst)=ds):∀(n:Nat) (b:Bool) {l S:List Oper} {ks M:List (Option Nat×Option Nat)} {s s':St},SX P ds n b l ks s=J (S,M,s')->AK P ops K S M s'->AK P ops K l ks s
 | n,I,[],S,ks,M,s,s',h,B=>by simp[SX]at h
 | n,U,[],S,ks,M,s,s',h,B=>by simp only[SX,BL,Cr]at h;obtain⟨rfl,rfl,rfl⟩:=h;exact B
 | 0,b,o::r,S,ks,M,s,s',h,B=>by simp only[SX,BL,Cr]at h;obtain⟨rfl,rfl,rfl⟩:=h;exact B
 | n+1,I,o::r,S,ks,M,s,s',h,B=>by
   subst hd;unfold SX at h;rw[jG]at h;split at h;rename_i q;split at h;rename_i z;split at h;rename_i e s1 hs;exact ADu q z hs (oS rfl n _ h B);cases h;cases h;rename_i q;exact ANL q (oS rfl n _ h B);cases h
 | n+1,U,o::r,S,ks,M,s,s',h,B=>by
   subst hd;unfold SX at h;split at h;simp only[BL,Cr]at h;obtain⟨rfl,rfl,rfl⟩:=h;exact B;rename_i Ro;have q:BQ ops s.t o.guard=J true:=by rw[Ro];rfl
   split at h;rename_i z;split at h;rename_i e s1 hs;exact ADu q z hs (oS rfl n _ h B);cases h;simp only[BL,Cr]at h;obtain⟨rfl,rfl,rfl⟩:=h;exact B
def Fp (P:Program)(f:FuncId):Bool:=match P.funcs[f]? with
 | some fn=>fn.body.isSome && !(fn.name == "runtime.NumGoroutine")
 | none=>U
theorem P7 {f:FuncId}(h:Fp P f=I):∃fn,P.funcs[f]?=J fn/\fn.body.isSome=I/\(fn.name == "runtime.NumGoroutine")=false:=by
 unfold Fp at h;split at h;rename_i fn B;simp only[Ak,Bool.not_eq_true']at h;exact⟨fn,B,h.1,h.2⟩;cases h
theorem ADy {f:FuncId}(M:AC P f Bd res)(B:Fp P f=I)(hg:BQ ops s.t o.guard=J I)(hc:Ee (ev s.t) o.op=J (f,Bd))(h:Eg P ops K r (s.step o.dst res E)):Eg P ops K (o::r) s:=
 let ⟨_,S,q,z⟩:=P7 B
 oX M S q z hg hc h
theorem ANI {ks:List (Option Nat×Option Nat)}{f:FuncId}(M:AC P f Bd res)(B:Fp P f=I)(hg:BQ ops s.t o.guard=J I)(hc:Ee (ev s.t) o.op=J (f,Bd))(h:AK P ops K r (ks++[(E,E)]) (s.step o.dst res E)):AK P ops K (o::r) ks s:=
 let ⟨_,S,q,z⟩:=P7 B
 ANH M S q z hg hc h
theorem ABk {l:List α}{d:Nat}{v B:α}(h:l.getD d B=v)(M:d<G l):l.set d v=l:=by
 have e:l[d]=v:=by
  rw[Bv,BE M]at h;simpa using h
 rw[<-e];exact List.set_getElem_self M
theorem AY8 {d:Nat}{b M:Bool}(B:s.t.getD d .any=.c (.bool b))(e:b=M):(⟨s.t.set d (.c (.bool M)),s.h⟩:St)=s:=by
 subst e;have S:d<G s.t:=Kn λh=>by
  rw[Bv,M6 Ux]at B;cases B
 rw[ABk B S]
end
def AJt (l:List Oper):List (List Nat):=l.foldl (λacc o=>acc++[((GL o).flatMap λj=>j::acc.getD j []).eraseDups]) []
theorem AFw (l:List α)(x d:α)(i:Nat):(l++[x]).getD i d=if i=G l then x else l.getD i d:=by
 simp only[Bv];rcases Nat.lt_trichotomy i (G l) with h|h|h
 rw[EJ h,Awf Ux];subst h;simp;rw[M6 (by simp;omega),M6 Ux,Awf Ux]
theorem AJu : ∀(l:List Oper) (A B:List (List Nat)),G A=G B->(∀i j,j∈A.getD i []↔j∈B.getD i [])->∀i j,j∈(l.foldl (λacc o=>acc++[(GL o).flatMap λj=>j::acc.getD j []]) A).getD i []↔j∈(l.foldl (λacc o=>acc++[((GL o).flatMap λj=>j::acc.getD j []).eraseDups]) B).getD i []
 | [],_,_,_,h=>h
 | o::l,A,B,M,h=>by
   simp only[Bw];refine AJu l _ _ (by simp[M]) λi j=>?_
   rw[AFw,AFw,M];split;simp only[List.mem_eraseDups,List.mem_flatMap,Cf,h];exact h i j
theorem AOa {l:List Oper}{ks:Ks}{T U:List (List Nat)}(h : ∀i j,j∈T.getD i []↔j∈U.getD i [])(i:Nat):WB l ks T i=WB l ks U i:=by
 have M:(T.getD i []).all (λj=>decide (j<i))=(U.getD i []).all (λj=>decide (j<i)):=by
  rw[Oj,ES,ES];exact⟨λk j B=>k j ((h i j).2 B),λk j B=>k j ((h i j).1 B)⟩
 have S : ∀j,(T.getD i []).contains j=(U.getD i []).contains j:=λj=>by
  rw[Oj,mR,mR];exact h i j
 unfold WB;simp only[M,S]
def pQ (l:List Oper)(ks:Ks):Bool:=(List.range (G l)).all (WB l ks (AJt l))
theorem bl {l:List Oper}{ks:Ks}(h:pQ l ks=I):Lk l ks=true:=by
 unfold pQ at h;unfold Lk;have e:WB l ks (eI l)=WB l ks (AJt l):=funext λi=>AOa (AJu l [] [] rfl λ_ _=>Iff.rfl) i
 rw[e];exact h
theorem ANK {K:St->Prop}{ks:List (Option Nat×Option Nat)}(B:pQ ops ks=I)(h:K s):AK P ops K [] ks s:=ANJ (bl B) h
structure AH (P:Program)(ops:List Oper)(K:St->Prop)(l:List Oper)(s:St):Prop where
 out:Eg P ops K l s
structure AJ (P:Program)(ops:List Oper)(K:St->Prop)(l:List Oper)(ks:List (Option Nat×Option Nat))(s:St):Prop where
 out:AK P ops K l ks s
section
variable {P:Program} {ops:List Oper}
theorem AH.I2 {m:Mo}{id:Nat}(h:AH P ops (K .normal) ops s):AW m P (.region id ops.toArray U) K s:=AW.region h.out
theorem AH.done {K:St->Prop}(h:K s):AH P ops K [] s:=⟨h⟩
theorem AH.h {K:St->Prop}{B:List (Option Nat)}(S:ops.map (·.dst)=B)(n:Nat)(b:Bool){l M:List Oper}{s s':St}(q:LL P B n b l s=J (M,s'))(h:AH P ops K M s'):AH P ops K l s:=⟨oY S n b q h.out⟩
theorem AH.c2 {K:St->Prop}{f:FuncId}(M:AC P f Bd res)(B:Fp P f=I)(q:BQ ops s.t o.guard=J I)(S:Ee (ev s.t) o.op=J (f,Bd))(h:AH P ops K r (s.step o.dst res E)):AH P ops K (o::r) s:=⟨ADy M B q S h.out⟩
theorem AJ.I2 {m:Mo}{id:Nat}(M:P.follows .mixedOrders=I)(B:m.rd=E\/Pb ops=I)(h:AJ P ops (K .normal) ops [] s):AW m P (.region id ops.toArray I) K s:=AW.AO9 M B h.out
theorem AJ.done {K:St->Prop}{ks:List (Option Nat×Option Nat)}(B:pQ ops ks=I)(h:K s):AJ P ops K [] ks s:=⟨ANK B h⟩
theorem AJ.h {K:St->Prop}{M:List (Option Nat)}(q:ops.map (·.dst)=M)(n:Nat)(b:Bool){l S:List Oper}{ks B:List (Option Nat×Option Nat)}{s s':St}(z:SX P M n b l ks s=J (S,B,s'))(h:AJ P ops K S B s'):AJ P ops K l ks s:=⟨oS q n b z h.out⟩
theorem AJ.c2 {K:St->Prop}{ks:List (Option Nat×Option Nat)}{f:FuncId}(M:AC P f Bd res)(B:Fp P f=I)(q:BQ ops s.t o.guard=J I)(S:Ee (ev s.t) o.op=J (f,Bd))(h:AJ P ops K r (ks++[(E,E)]) (s.step o.dst res E)):AJ P ops K (o::r) ks s:=⟨ANI M B q S h.out⟩
end
theorem Eo {p q:Prop}(h:q)(k:q->p:=by
 intro h;(with_reducible first|refine AW.seq ?_|refine AW.block ?_|refine G3 ?_|refine MV ?_|refine AW.ret ?_|refine S7 ?_|refine S4 ?_|refine AH.done ?_|refine AW.skip ?_|refine AW.exit ?_|refine S6 ?_|refine RN ?_|refine AW.label ?_|refine AW.scope ?_|refine UY ?_|refine S5 ?_|refine UX ?_|refine AH.I2 ?_|refine AJ.I2 Fz (.inl rfl) ?_|refine AJ.I2 Fz (.inr ZB) ?_|refine AJ.done ZC ?_|refine S3 ZB ?_)
 repeat (with_reducible first|refine AW.seq ?_|refine AW.block ?_|refine G3 ?_|refine MV ?_|refine AW.ret ?_|refine S7 ?_|refine S4 ?_|refine AH.done ?_|refine AW.skip ?_|refine AW.exit ?_|refine S6 ?_|refine RN ?_|refine AW.label ?_|refine AW.scope ?_|refine UY ?_|refine S5 ?_|refine UX ?_|refine AH.I2 ?_|refine AJ.I2 Fz (.inl rfl) ?_|refine AJ.I2 Fz (.inr ZB) ?_|refine AJ.done ZC ?_|refine S3 ZB ?_)
 with_reducible exact h):p:=k h
theorem AH.Pj {m:Mo}{id:Nat}(_:KQ n)(_:Nat.beq id n=U)(h:AH P ops (K .normal) ops s):AW m P (.region id ops.toArray U) K s:=AH.I2 h
theorem AJ.Pj {m:Mo}{id:Nat}(_:KQ n)(_:Nat.beq id n=U)(M:P.follows .mixedOrders=I)(B:m.rd=E\/Pb ops=I)(h:AJ P ops (K .normal) ops [] s):AW m P (.region id ops.toArray I) K s:=AJ.I2 M B h
theorem Qu {p q:Prop}(m:KQ n)(h:q)(k:KQ n->q->p:=by
 intro m h;(with_reducible first|refine AW.seq ?_|refine AW.block ?_|refine G3 ?_|refine MV ?_|refine AW.ret ?_|refine S7 ?_|refine S4 ?_|refine AH.done ?_|refine AW.skip ?_|refine AW.exit ?_|refine S6 ?_|refine RN ?_|refine AW.label ?_|refine AW.scope ?_|refine UY ?_|refine S5 ?_|refine UX ?_|refine AH.Pj m rfl ?_|refine AJ.Pj m rfl Fz (.inl rfl) ?_|refine AJ.Pj m rfl Fz (.inr ZB) ?_|refine AJ.done ZC ?_|refine S3 ZB ?_)
 repeat (with_reducible first|refine AW.seq ?_|refine AW.block ?_|refine G3 ?_|refine MV ?_|refine AW.ret ?_|refine S7 ?_|refine S4 ?_|refine AH.done ?_|refine AW.skip ?_|refine AW.exit ?_|refine S6 ?_|refine RN ?_|refine AW.label ?_|refine AW.scope ?_|refine UY ?_|refine S5 ?_|refine UX ?_|refine AH.Pj m rfl ?_|refine AJ.Pj m rfl Fz (.inl rfl) ?_|refine AJ.Pj m rfl Fz (.inr ZB) ?_|refine AJ.done ZC ?_|refine S3 ZB ?_)
 with_reducible exact h):p:=k m h
theorem De {F p q:Prop}(f:F)(h:q)(k:F->q->p:=by
 intro f h;first
 | (with_reducible refine AH.h (by simp only[List.append_eq,BK,BU,Ap,BB];exact rfl) 4 true (by as_aux_lemma=>(simp (disch:=first|assumption|(simp<;>fail)|omega) [LL,QE,wrap_i64,Awd,Awf,BY,f];first|exact rfl|exact⟨rfl,rfl⟩)) ?_)
 | (with_reducible refine AJ.h (by simp only[List.append_eq,BK,BU,Ap,BB];exact rfl) 4 true (by as_aux_lemma=>(simp (disch:=first|assumption|(simp<;>fail)|omega) [SX,QE,Ef.ks,wrap_i64,Awd,Awf,BY,f];first|exact rfl|exact⟨rfl,rfl,rfl⟩)) ?_)
 with_reducible exact h):p:=k f h
theorem BV {F p q:Prop}{g:FuncId}(f:F)(C9:AC P g args res)(h:q)(k:F->AC P g args res->q->p:=by
 intro f c h;(with_reducible first|refine AH.c2 c (by first|(simp only[f];done)|kernel_rfl) ?_ ?_ ?_|refine AJ.c2 c (by first|(simp only[f];done)|kernel_rfl) ?_ ?_ ?_)
 focus (simp[BQ,f]<;>fail)
 focus (simp (disch:=first|assumption|(simp<;>fail)|omega) [Ee,wrap_i64,f]<;>fail)
 (simp only[St.step,St.put,Bk];with_reducible exact h)):p:=k f C9 h
theorem Bt {F p:Prop}(f:F)(k:F->p:=by
 intro f;with_reducible show iK _ _ _ _ _
 simp (disch:=first|assumption|(simp<;>fail)|omega) [iK,DV,C0,DE,V.CP,V.CF,CJ,wrap_i64, *]<;>fail):p:=k f
theorem DI {F p q:Prop}(f:F)(h:q)(k:F->q->p:=by
 intro f h;first
 | ((with_reducible refine xE ?_ ?_);focus (simp[ev,f];done))
 | ((with_reducible refine xD ?_ ?_);focus (simp[ev,f];done))
 with_reducible exact h):p:=k f h
def D6 (_:Bool):Prop:=True
theorem D6.t:D6 true:=W
theorem D6.f:D6 false:=W
theorem D6.mk (b:Bool):D6 b:=W
theorem pS {m:Mo}{c:Operand}{d B:Code}(S:ev s.t c=v)(hb:v=.c (.bool b))(q:D6 b)(h:b=I->AW m P d K s)(M:b=U->AW m P B K s):AW m P (.cond c d B) K s:=AW.cond (by rw[S,hb];exact⟨h,M⟩)
def N8 (ops:List Oper)(t:List V):Option (Nat×Bool)->V
 | none=>.any
 | some (j,_)=>match (ops[j]?).bind (·.dst)with
   | some d=>t.getD d .any
   | none=>.any
def Hn (ops:List Oper)(t:List V)(b:Bool):Option (Nat×Bool)->List V
 | none=>t
 | some (j,_)=>match (ops[j]?).bind (·.dst)with
   | some d=>t.set d (.c (.bool b))
   | none=>t
theorem sx {g:Option (Nat×Bool)}{b M:Bool}(B:N8 ops s.t g=v)(hb:v=.c (.bool b))(e:b=M):(⟨Hn ops s.t M g,s.h⟩:St)=s:=by
 subst hb;unfold N8 at B;unfold Hn;cases g with
 | none=>rfl
 | some p =>
   obtain⟨j,w⟩:=p;simp only at B ⊢;cases S:(ops[j]?).bind (·.dst)with
   | none=>rfl
   | some d=>rw[S]at B;exact AY8 B e
theorem ANS {K:St->Prop}{t1 t2:List V}(B:N8 ops s.t o.guard=v)(hb:v=.c (.bool b))(hl:D6 b)(M:Hn ops s.t I o.guard=t1)(S:Hn ops s.t U o.guard=t2)(q:b=I->Eg P ops K (o::r) ⟨t1,s.h⟩)(z:b=U->Eg P ops K (o::r) ⟨t2,s.h⟩):Eg P ops K (o::r) s:=by
 subst M S;cases e:b with
 | true=>have:=q e;rwa [sx B hb e]at this
 | false=>have:=z e;rwa [sx B hb e]at this
theorem AH.VY {K:St->Prop}{t1 t2:List V}(hv:N8 ops s.t o.guard=v)(hb:v=.c (.bool b))(z:D6 b)(B:Hn ops s.t I o.guard=t1)(M:Hn ops s.t U o.guard=t2)(S:b=I->AH P ops K (o::r) ⟨t1,s.h⟩)(q:b=U->AH P ops K (o::r) ⟨t2,s.h⟩):AH P ops K (o::r) s:=⟨ANS hv hb z B M (λe=>(S e).out) (λe=>(q e).out)⟩
theorem ANM {K:St->Prop}{ks:List (Option Nat×Option Nat)}{t1 t2:List V}(B:N8 ops s.t o.guard=v)(hb:v=.c (.bool b))(hl:D6 b)(M:Hn ops s.t I o.guard=t1)(S:Hn ops s.t U o.guard=t2)(q:b=I->AK P ops K (o::r) ks ⟨t1,s.h⟩)(z:b=U->AK P ops K (o::r) ks ⟨t2,s.h⟩):AK P ops K (o::r) ks s:=by
 subst M S;cases e:b with
 | true=>have:=q e;rwa [sx B hb e]at this
 | false=>have:=z e;rwa [sx B hb e]at this
theorem AJ.VY {K:St->Prop}{ks:List (Option Nat×Option Nat)}{t1 t2:List V}(hv:N8 ops s.t o.guard=v)(hb:v=.c (.bool b))(z:D6 b)(B:Hn ops s.t I o.guard=t1)(M:Hn ops s.t U o.guard=t2)(S:b=I->AJ P ops K (o::r) ks ⟨t1,s.h⟩)(q:b=U->AJ P ops K (o::r) ks ⟨t2,s.h⟩):AJ P ops K (o::r) ks s:=⟨ANM hv hb z B M (λe=>(S e).out) (λe=>(q e).out)⟩
theorem JC {F p q q' c:Prop}[Decidable c](f:F)(h1:c->q)(h2 : ¬c->q')(k:F->(decide c=true->q)->(decide c=false->q')->p:=by
 intro f h1 h2;first
 | (with_reducible refine pS (by simp[ev,f];exact rfl) (by with_reducible exact rfl) (by(fail_if_success with_reducible exact D6.t);(fail_if_success with_reducible exact D6.f);exact D6.mk _) h1 h2)
 | (with_reducible refine AH.VY (by simp[N8,f];exact rfl) (by with_reducible exact rfl) (by(fail_if_success with_reducible exact D6.t);(fail_if_success with_reducible exact D6.f);exact D6.mk _) (by simp[Hn];exact rfl) (by simp[Hn];exact rfl) h1 h2)
 | (with_reducible refine AJ.VY (by simp[N8,f];exact rfl) (by with_reducible exact rfl) (by(fail_if_success with_reducible exact D6.t);(fail_if_success with_reducible exact D6.f);exact D6.mk _) (by simp[Hn];exact rfl) (by simp[Hn];exact rfl) h1 h2)):p:=k f (λh=>h1 (of_decide_eq_true h)) λh=>h2 (of_decide_eq_false h)
theorem JD {F p q q':Prop}{c:Bool}(f:F)(h1:c=false->q)(h2:c=true->q')(k:F->((!c)=true->q)->((!c)=false->q')->p:=by
 intro f h1 h2;first
 | (with_reducible refine pS (by simp[ev,f];exact rfl) (by with_reducible exact rfl) (by(fail_if_success with_reducible exact D6.t);(fail_if_success with_reducible exact D6.f);exact D6.mk _) h1 h2)
 | (with_reducible refine AH.VY (by simp[N8,f];exact rfl) (by with_reducible exact rfl) (by(fail_if_success with_reducible exact D6.t);(fail_if_success with_reducible exact D6.f);exact D6.mk _) (by simp[Hn];exact rfl) (by simp[Hn];exact rfl) h1 h2)
 | (with_reducible refine AJ.VY (by simp[N8,f];exact rfl) (by with_reducible exact rfl) (by(fail_if_success with_reducible exact D6.t);(fail_if_success with_reducible exact D6.f);exact D6.mk _) (by simp[Hn];exact rfl) (by simp[Hn];exact rfl) h1 h2)):p:=k f (λh=>h1 (by simpa using h)) λh=>h2 (by simpa using h)
theorem JE {F p q q' c:Prop}[Decidable c](f:F)(h1 : ¬c->q)(h2:c->q')(k:F->((!decide c)=true->q)->((!decide c)=false->q')->p:=by
 intro f h1 h2;first
 | (with_reducible refine pS (by simp[ev,f];exact rfl) (by with_reducible exact rfl) (by(fail_if_success with_reducible exact D6.t);(fail_if_success with_reducible exact D6.f);exact D6.mk _) h1 h2)
 | (with_reducible refine AH.VY (by simp[N8,f];exact rfl) (by with_reducible exact rfl) (by(fail_if_success with_reducible exact D6.t);(fail_if_success with_reducible exact D6.f);exact D6.mk _) (by simp[Hn];exact rfl) (by simp[Hn];exact rfl) h1 h2)
 | (with_reducible refine AJ.VY (by simp[N8,f];exact rfl) (by with_reducible exact rfl) (by(fail_if_success with_reducible exact D6.t);(fail_if_success with_reducible exact D6.f);exact D6.mk _) (by simp[Hn];exact rfl) (by simp[Hn];exact rfl) h1 h2)):p:=k f (λh=>h1 (by simpa using h)) λh=>h2 (by simpa using h)
theorem gx {l:List α}{k:Nat}{x:α}(h:l[k]?=J x):∀B:k<G l,l[k]'B=x:=λB=>by rw[BE B]at h;exact ML h
structure Sw (p:Prop):Prop where
 out:p
theorem pK {F C p q:Prop}(f:F)(c:C)(h:q)(k:F->C->q->p:=by
 intro f c h;first
 | (refine BV f c.1 ?_;exact h)
 | (refine BV f c.2.1 ?_;exact h)
 | (refine BV f c.2.2.1 ?_;exact h)
 | (refine BV f c.2.2.2.1 ?_;exact h)
 | (refine BV f c.2.2.2.2.1 ?_;exact h)
 | (refine BV f c.2.2.2.2.2.1 ?_;exact h)
 | (refine BV f c.2.2.2.2.2.2.1 ?_;exact h)
 | (refine BV f c.2.2.2.2.2.2.2.1 ?_;exact h)):p:=k f c h
theorem Du {F C p q:Prop}(f:F)(c:C)(h:Sw q)(k:F->C->Sw q->p:=by
 intro ff cc hh;first|refine Eo ?_|refine De ff ?_|refine pK ff cc ?_|refine DI ff ?_
 with_reducible exact hh.out):p:=k f c h
theorem Dv {F p q q' a b:Prop}(f:F)(h1:a->q)(h2:b->q')(k:F->(a->q)->(b->q')->p:=by
 intro ff h1 h2;first|exact JC ff h1 h2|exact JE ff h1 h2|exact JD ff h1 h2|exact JY ff h1 h2):p:=k f h1 h2
theorem Dw {p:Prop}(h:False:=by first|omega|contradiction):p:=h.elim
theorem wz {F C p:Prop}(f:F)(c:C)(k:F->C->p:=by
 intro ff cc;repeat any_goals (first|refine Eo ?_|exact Bt ff|refine De ff ?_|refine pK ff cc ?_|refine DI ff ?_|((first|refine JC ff ?_ ?_|refine JE ff ?_ ?_|refine JD ff ?_ ?_|refine JY ff ?_ ?_)<;>intro h<;>try (exfalso;first|omega|contradiction)))):p:=k f c
theorem wy {F C p q:Prop}(f:F)(c:C)(h:Sw q)(k:F->C->Sw q->p:=by
 intro ff cc hh;repeat any_goals (first|refine Eo ?_|exact Bt ff|refine De ff ?_|refine pK ff cc ?_|refine DI ff ?_|((first|refine JC ff ?_ ?_|refine JE ff ?_ ?_|refine JD ff ?_ ?_|refine JY ff ?_ ?_)<;>intro h<;>try (exfalso;first|omega|contradiction)))
 with_reducible exact hh.out):p:=k f c h
theorem wu {F C p q:Prop}(m:KQ n)(f:F)(c:C)(h:Sw q)(k:KQ n->F->C->Sw q->p:=by
 intro mm ff cc hh;repeat any_goals (first|refine Qu mm ?_|exact Bt ff|refine De ff ?_|refine pK ff cc ?_|refine DI ff ?_|((first|refine JC ff ?_ ?_|refine JE ff ?_ ?_|refine JD ff ?_ ?_|refine JY ff ?_ ?_)<;>intro h<;>try (exfalso;first|omega|contradiction)))
 with_reducible exact hh.out):p:=k m f c h
section
variable {P:Program} {S0:BF} {w0:Bs} {x x':Cx} {w w':World} {H:Bx} {s:St} {a:Act}
def GJ (P:Program)(s:St)(l:List ResultVar):Option V:=
 match C0 P s l with
 | some [v]=>J v
 | some vs=>J (.A7 vs)
 | none=>E
theorem AD8 (hA:Bo S0 w0 x s a w)(h:GJ P s fn.results.toList=J res):∃u,(results fn a.tmps).run P w=.ok u w/\CV x w res u:=by
 unfold GJ at h;cases S:C0 P s fn.results.toList with
 | none=>rw[S]at h;cases h
 | some vs =>
   rw[S]at h;obtain⟨us,hr,B⟩:=wO hA S;have z:(results fn a.tmps).run P w=.ok (if h:us.toArray.size=1 then us.toArray[0]else .tuple us.toArray) w:=by
    have e:results fn a.tmps=(fn.results.mapM (lD a.tmps) >>=λvs=>pure (if h:vs.size=1 then vs[0]else .tuple vs)):=F;rw[e,Array.mapM_eq_mapM_toList];simp[hr]
   refine⟨_,z,?_⟩;match vs,h,B with
   | [v],h,B =>
     simp only[AO]at B;obtain⟨u,ur,rfl,q,rfl⟩:=B;cases h;exact q
   | [],h,B =>
     simp only[AO]at B;subst B;cases h;simp only[CV];exact⟨#[],F,by simp only[AO]⟩
   | v::v'::r,h,B =>
     have M:=B.len;rw[dif_neg (by simp[M])];cases h;simp only[CV];exact⟨_,F,B⟩
theorem dR {fn:Func}{R:Ending->World->Prop}{res:V}(hr:GJ P s fn.results.toList=J res){tmps:Array Value} : ∀(B:List Nat) (w:World),B.Nodup->(∀D∈B,¬w0.F D/\w.heap[D]?=J (.deferred (J [])))->Good S0 w0 x w (λk=>s.h[k]?)->AO x w s.t tmps.toList->
 (∀w u,Good S0 w0 x w (λk=>s.h[k]?)->CV x w res u->R (.returned u) w)->LeavesInM Cg 0 P fn tmps R (B.map λD=>{ target:=.collected D,args:=#[] }) .returning w
 | [],w,_,_,g,ht,q=>by
   obtain⟨u,S,M⟩:=AD8 (fn:=fn) (a:={ tmps:=tmps,defers:=[] }) ⟨g,ht,Marks.nil _ _⟩ hr;exact⟨u,S,q w u g M⟩
 | D::B,w,z,hD,g,ht,q=>by
   obtain⟨S,M⟩:=hD D ZA;have hg:w.grownBy (w.putObj D (.deferred E)) (J D):=grownBy_putObj' w D _;obtain⟨g',he⟩:=g.grown hg λr e=>by cases e;exact⟨S,_,M,F⟩
   rw[Xm]at z;refine⟨ZA,.inl ⟨D,_,F,run_takeDeferred M,dR hr B _ z.2 (λD' Fs=>?_) g' (AO.mono he _ _ ht) q⟩⟩;obtain⟨k1,k2⟩:=hD D' (by simp[Fs]);have A0:D'≠D:=λe=>z.1 (by rw[<-e];exact Fs)
   exact⟨k1,by rw[Pz A0];exact k2⟩
end
inductive Out where
 | ret (v:V)
 | HB (ch:List PanicEntry)
def Lf (x:Cx)(w:World):Out->Ending->Prop
 | .ret v,r=>∃u,r=.returned u/\CV x w v u
 | .HB ch,r=>r=.panicked ch
structure HC (P:Program)(f:FuncId)(args:List V)(h:List O)(out:Out)(h':List O):Prop where
 ok:Fp P f=I
 calls : ∀ {S0:BF} {w0:Bs} {x:Cx} {w:World} {us:List Value},Good S0 w0 x w (λk=>h[k]?)->AO x w args us->
  Calls P f us.toArray w λr w'=>∃x',Good S0 w0 x' w' (λk=>h'[k]?)/\Ext x x' w w'/\NC w w'/\Lf x' w' out r
theorem kT {P:Program}{S0:BF}{w0:Bs}{x:Cx}{s:St}{fn:Func}{R:Ending->World->Prop}{ch:List PanicEntry}{tmps:Array Value} : ∀(B:List Nat) (w:World),B.Nodup->(∀D∈B,¬w0.F D/\w.heap[D]?=J (.deferred (J [])))->Good S0 w0 x w (λk=>s.h[k]?)->AO x w s.t tmps.toList->
 (∀w,Good S0 w0 x w (λk=>s.h[k]?)->R (.panicked ch) w)->LeavesInM Cg 0 P fn tmps R (B.map λD=>{ target:=.collected D,args:=#[] }) (.panicking ch) w
 | [],w,_,_,g,ht,M=>M w g
 | D::B,w,S,hD,g,ht,M=>by
   obtain⟨h1,h2⟩:=hD D ZA;have hg:w.grownBy (w.putObj D (.deferred E)) (J D):=grownBy_putObj' w D _;obtain⟨g',he⟩:=g.grown hg λr e=>by cases e;exact⟨h1,_,h2,F⟩
   rw[Xm]at S;refine⟨ZA,.inl ⟨D,_,F,run_takeDeferred h2,kT B _ S.2 (λz Fs=>?_) g' (AO.mono he _ _ ht) M⟩⟩;obtain⟨k1,k2⟩:=hD z (by simp[Fs]);have q:z≠D:=λe=>S.1 (by rw[<-e];exact Fs)
   exact⟨k1,by rw[Pz q];exact k2⟩
section
variable {P:Program} {K:Exit->St->Prop} {ops:List Oper} {s:St}
theorem SW.AEZ {f:FuncId}{out:Out}{h':List O}(hc:HC P f args s.h out h')(hg:BQ ops s.t o.guard=J I)(M:C7 (ev s.t) o.op=J (f,args))(hr : ∀v,out=.ret v->SW P ops K r (St.put ⟨s.t,h'⟩ o.dst v))(hp : ∀ch,out=.HB ch->K (.panic ch) ⟨s.t,h'⟩):SW P ops K (o::r) s:=λS0 w0 x a w B=>by
 have hw:FB o (yielded ops.toArray a.tmps)=true:=by
  have:=KR (o:=o) B.tm (IF (ops:=ops) (K1:=True) (K2:=False) hg W);exact Kn λh=>this.2 h
 unfold wpList;rw[Awd hw];refine .inl ?_;unfold C7 at M;split at M
 case h_2=>cases M
 rename_i fo q Fk ho;split at M
 case h_2=>cases M
 rename_i f' z FG;simp only[BL,Cr]at M;obtain⟨rfl,rfl⟩:=M;have S:=Pp (CW B.tm fo);rw[FG]at S;simp only[CV]at S;obtain⟨Dl,S,EP⟩:=S;have Hw:AO x w (q.toList.map (ev s.t)++z) (q.toList.map a.eval++Dl.toList):=(AO.of_map λy _=>CW B.tm y).append EP;obtain⟨fn,hf,hb,hn⟩:=P7 hc.ok;have CT:fn.body≠none:=by intro e;rw[e]at hb;cases hb
 have F6:fn.name≠ "runtime.NumGoroutine":=by simpa using hn
 have A0:(execOp a.eval o).run P w=.ok (.enter f' (q.toList.map a.eval++Dl.toList).toArray) w:=by
  have e1:(q.map a.eval++Dl)=(q.toList.map a.eval++Dl.toList).toArray:=by apply Gx.1;simp
  simp[execOp,ho,resolve,S,M5,invoke,callFunc,program,HW,hf,F6,CT,e1]
 unfold Er;rw[A0];refine(hc.calls B.good Hw).mono ?_;rintro r' w' ⟨x',g',he,CB,Hz⟩;cases out with
 | ret v=>obtain⟨u,rfl,hv⟩:=Hz;exact hr v rfl S0 w0 x' _ w' (Bo.put B.tm (B.df.mono CB) he g' hv o.dst)
 | HB ch=>have e:r'=.panicked ch:=Hz;subst e;exact⟨x',⟨s.t,h'⟩,⟨g',AO.mono he _ _ B.tm,B.df.mono CB⟩,hp ch F⟩
theorem SW.wZ {f:FuncId}{B:List O}(S:HC P f args s.h (.ret res) B)(q:BQ ops s.t o.guard=J I)(M:C7 (ev s.t) o.op=J (f,args))(h:SW P ops K r (St.put ⟨s.t,B⟩ o.dst res)):SW P ops K (o::r) s:=SW.AEZ S q M (λv e=>by cases e;exact h) (λ_ e=>nomatch e)
end
def Cx.de (S:BF)(m:Nat):Cx:={ dom:=λk=>k=0,loc:=λ_=>⟨m,0,U,0,U⟩,S:=S }
def Ci (m:Nat)(R:Obj->Prop)(b:Nat)(ob:Obj):Prop:=b=m/\R ob
def AQ (P:Program)(f:FuncId)(args:List V)(m:Nat)(R R':Obj->Prop)(out:Out):Prop:=
 ∀(S:BF) (w:World) (us:List Value) (ob:Obj),(∀b j,S b j->b<w.heap.size)->w.heap[m]?=J ob->still ob=U->R ob->AO (Cx.bare S) w args us->
  Calls P f us.toArray w λr w'=>∃S' Cw,KB (λk=>k=m) w w'/\Ar S S' w w'/\(∀b j,S' b j->S b j\/(w.heap.size<=b/\b<w'.heap.size)\/b=m)/\w'.heap[m]?=J Cw/\still Cw=U/\R' Cw/\Lf (Cx.bare S') w' out r
theorem AQ.mono {f:FuncId}{R R' M q:Obj->Prop}{out:Out}(h:AQ P f args m R R' out)(h1 : ∀B,M B->R B)(h2 : ∀B,R' B->q B):AQ P f args m M q out:=λS w us B k1 k2 k3 k4 k5 =>
 (h S w us B k1 k2 k3 (h1 _ k4) k5).mono λr w' ⟨S',z,a1,a2,a3,a4,a5,a6,a7⟩=>⟨S',z,a1,a2,a3,a4,a5,h2 _ a6,a7⟩
def oM (P:Program)(l:List ResultVar)(out:Out)(m:Nat)(R':Obj->Prop):Exit->St->Prop
 | .normal,s=>∃v,out=.ret v/\DV P s l=J v/\s.h[0]?=J (.mp (Ci m R'))
 | .ret,s=>∃v,out=.ret v/\DV P s l=J v/\s.h[0]?=J (.mp (Ci m R'))
 | .panic ch,s=>out=.HB ch/\s.h[0]?=J (.mp (Ci m R'))
 | _,_=>False
theorem AQ.intro {P:Program}{f:FuncId}{fn:Func}{c:Code}{args:List V}{m:Nat}{R R':Obj->Prop}{out:Out}(hf:P.funcs[f]?=J fn)(hb:fn.body=J c)(h:AW ⟨E,1⟩ P c (oM P fn.results.toList out m R') ⟨args++Aq (fn.ntmps - G args) .any,[.mp (Ci m R)]⟩):AQ P f args m R R' out:=by
 intro S w us ob hS FF A5 hR B7;refine callsIn_wide.1 (callsIn_of_wp_marks (F:=Cg) (n:=0) hf hb trivial ?_);let B:Bs:=⟨w,λk=>k<w.heap.size/\k≠m,λ_ h=>h.1,Cx.de S m,1,λk hk=>by have:k=0:=hk;omega⟩
 have zF:Ext (Cx.bare S) (Cx.de S m) w w:=⟨Ar.refl _ _,λ_ h=>h.elim,λ_ h=>h.elim⟩
 have hA:Bo S B (Cx.de S m) ⟨args++Aq (fn.ntmps - G args) .any,[.mp (Ci m R)]⟩ { tmps:=us.toArray++M4 (fn.ntmps - us.toArray.size) undef,defers:=[] } w:=by
  refine⟨⟨λk o h=>?_,λk h=>?_,λk k' o o' h h' A0=>?_,λk o j h hx=>?_,hS,λk o h _ hF=>hF.2 rfl,λb j h=>.inl h,λb j h=>h,.FR (Ay.refl w),Ext.refl _ _⟩,?_,Marks.nil _ _⟩;match k,h with
  | 0,h=>cases h;exact⟨rfl,rfl,rfl,ob,FF,A5,rfl,hR⟩
  | k+1,h=>simp at h
  have:k=0:=h;subst this;exact⟨_,rfl⟩;match k,k',h,h' with
  | 0,0,_,_=>exact absurd rfl A0
  | 0,k'+1,_,h'=>simp at h'
  | k+1,_,h,_=>simp at h
  match k,h with
  | 0,h=>cases h;exact hx.elim
  | k+1,h=>simp at h
  simp only[Pq,T8];have hl:us.toArray.size=G args:=by simpa using B7.len
  rw[hl];exact(AO.mono zF _ _ B7).append (SQ _ _ _ _)
 refine wpIn_mono (h 0 S B _ _ w (BN _) hA) λe a' w' ⟨x,s,Au,hK⟩=>?_
 have post : ∀ {x:Cx} {w2:World} {z:Bx},Good S B x w2 z->z 0=J (.mp (Ci m R'))->∃q M,q=x.S/\KB (λk=>k=m) w w2/\Ar S q w w2/\(∀b j,q b j->S b j\/(w.heap.size<=b/\b<w2.heap.size)\/b=m)/\w2.heap[m]?=J M/\still M=U/\R' M:=by
  intro x w2 z g h0;have Lu:=g.ext.loc 0 rfl;have A2:x.loc 0=⟨m,0,U,0,U⟩:=by
   rcases Lu.2 with e|e
   exact e.symm;cases e.1
  obtain⟨_,_,_,M,k3,k4,_,k5⟩:=g.ok 0 _ h0;rw[A2]at k3;refine⟨x.S,M,rfl,⟨g.keep.os,g.keep.tape,g.keep.output,g.keep.size,λk hk A0=>g.keep.block k hk λhn=>hn ⟨hk,A0⟩⟩,⟨g.sub,λb' j v hs hc=>g.ext.ar.cell b' j v hs hc⟩,λb' j hs=>?_,k3,k4,k5⟩;rcases g.new b' j hs with hq|hq
  exact .inl hq;by_cases e:b'=m;exact .inr (.inr e);exact .inr (.inl ⟨Hq λA3=>hq ⟨A3,e⟩,g.ex b' j hs⟩)
 have A1 : ∀ {Q:Ending->World->Prop},(∀r w' q M,KB (λk=>k=m) w w'->Ar S q w w'->(∀b j,q b j->S b j\/(w.heap.size<=b/\b<w'.heap.size)\/b=m)->w'.heap[m]?=J M->still M=U->R' M->Lf (Cx.bare q) w' out r->Q r w')->
  (∃v,out=.ret v/\DV P s fn.results.toList=J v/\s.h[0]?=J (.mp (Ci m R')))->LeavesInM Cg 0 P fn a'.tmps Q a'.defers .returning w':=by
  rintro Q hQ ⟨v,rfl,hr,h0⟩;obtain⟨Ds,e,h1,z⟩:=Au.df;rw[e];refine kS hr Ds w' h1 z Au.good Au.tm λw2 u g hu=>?_
  obtain⟨q,M,rfl,p1,p2,p3,p4,p5,p6⟩:=post g h0;exact hQ _ w2 _ M p1 p2 p3 p4 p5 p6 ⟨u,rfl,hu⟩
 cases e with
 | normal=>exact A1 (λr w' q M h1 z h3 h4 h5 h6 h7=>⟨q,M,h1,z,h3,h4,h5,h6,h7⟩) hK
 | ret=>exact A1 (λr w' q M h1 z h3 h4 h5 h6 h7=>⟨q,M,h1,z,h3,h4,h5,h6,h7⟩) hK
 | panic ch =>
   obtain⟨rfl,h0⟩:=hK;obtain⟨Ds,e,h1,z⟩:=Au.df;show LeavesInM Cg 0 P fn a'.tmps _ a'.defers (.panicking ch) w';rw[e];refine kT Ds w' h1 z Au.good Au.tm λw2 g=>?_
   obtain⟨q,M,rfl,p1,p2,p3,p4,p5,p6⟩:=post g h0;exact⟨_,M,p1,p2,p3,p4,p5,p6,rfl⟩
 | _=>exact hK.elim
section
variable {P:Program} {ops:List Oper} {S0:BF} {w0:Bs} {x:Cx} {w:World} {H:Bx} {a:Act} {o:Oper} {s:St}
theorem pF {f:FuncId}{args Bd:List V}{R R':Obj->Prop}{out:Out}(g:Good S0 w0 x w H)(A1 : ∀y∈o.op.operands.toList,CV x w (ev s.t y) (a.eval y))(KW:AQ P f Bd m R R' out)(A5:Fp P f=I)(M:C7 (ev s.t) o.op=J (f,args))(hp:V.CF args=J Bd)(hk:H k=J (.mp (Ci m R))){next:Act->World->Prop}(hn : ∀res,out=.ret res->∀u x' w',Good S0 w0 x' w' (H.upd (J (k,.mp (Ci m R'))))->Ext x x' w w'->NC w w'->CV x' w' res u->next (a.put o.dst u) w')(HO : ∀ch,out=.HB ch->∀x' w',Good S0 w0 x' w' (H.upd (J (k,.mp (Ci m R'))))->Ext x x' w w'->NC w w'->Q (.panic ch) a w'):o.wp P a w next Q:=by
 unfold C7 at M;split at M
 case h_2=>cases M
 rename_i fo z Fk ho;split at M
 case h_2=>cases M
 rename_i f' A0 FG;simp only[BL,Cr]at M;obtain⟨rfl,rfl⟩:=M;have q:=Pp (A1 fo (by simp[ho,Bl,Df]));rw[FG]at q;simp only[CV]at q;obtain⟨Dl,q,EP⟩:=q;have Hw:AO x w (z.toList.map (ev s.t)++A0) (z.toList.map a.eval++Dl.toList):=(AO.of_map λy hy=>A1 y (by simp[ho,Bl,Df];exact .inr (by simpa using hy))).append EP;obtain⟨fn,hf,hb,F6⟩:=P7 A5;have CT:fn.body≠none:=by intro e;rw[e]at hb;cases hb
 have F6:fn.name≠ "runtime.NumGoroutine":=by simpa using F6
 have A2:(execOp a.eval o).run P w=.ok (.enter f' (z.toList.map a.eval++Dl.toList).toArray) w:=by
  have e1:(z.map a.eval++Dl)=(z.toList.map a.eval++Dl.toList).toArray:=by apply Gx.1;simp
  simp[execOp,ho,resolve,q,M5,invoke,callFunc,program,HW,hf,F6,CT,e1]
 obtain⟨hd,b1,b2,ob,b3,b4,hm,b5⟩:=g.ok k _ hk;subst hm;unfold Er;rw[A2];refine(KW x.S w _ ob g.ex b3 b4 b5 (MC _ _ _ hp Hw)).mono ?_;rintro r' w' ⟨S',Cw,B,CZ,Gc,h1,h2,h3,Hz⟩;have A3:=(DO.1 b3).1;have he:Ext x { x with S:=S' } w w':=⟨CZ,λ_ h=>h,λ_ _=>FM.refl _⟩
 have g':=g.H5 (x':={ x with S:=S' }) k (.mp (Ci (x.loc k).b R')) he (B.wide λb e=>⟨hd,b2,e.symm⟩) (λi=>⟨.inl,λh=>h.elim id λe=>e ▸ hd⟩) (λ_ _=>rfl) (λ_=>.inl ⟨hd,b2,rfl⟩)
  ⟨b1,b2,Cw,h1,h2,rfl,h3⟩ (λb j hs=>(Gc b j hs).imp id λh=>h.elim (λh=>⟨h.2,.inl h.1,λe=>by have:(x.loc k).b=b:=e;omega⟩) (λh=>⟨by rw[h];exact H7 A3 B.size,.inr ⟨hd,b2,h.symm⟩,λ_ hx=>hx.elim⟩)) (λj hx=>hx.elim)
 have CB:NC w w':=⟨B.size,λb A6 D7 II=>(B.block b (DO.1 D7).1 λe=>by subst e;rw[b3]at D7;cases D7;rw[b4]at II;cases II).trans D7⟩
 cases out with
 | ret v=>obtain⟨u,rfl,h4⟩:=Hz;exact hn v rfl u _ w' g' he CB (CV.mono (Ub S' x w') _ _ h4)
 | HB ch=>have e:r'=.panicked ch:=Hz;subst e;exact HO ch rfl _ w' g' he CB
theorem SW.pE {f:FuncId}{args Bd:List V}{R R':Obj->Prop}(KW:AQ P f Bd m R R' (.ret res))(z:Fp P f=I)(hg:BQ ops s.t o.guard=J I)(Co:C7 (ev s.t) o.op=J (f,args))(hp:V.CF args=J Bd)(q:s.h[k]?=J (.mp (Ci m R)))(h:SW P ops K r (s.step o.dst res (J (k,.mp (Ci m R'))))):SW P ops K (o::r) s:=λS0 w0 x a w B=>by
 have hw:FB o (yielded ops.toArray a.tmps)=true:=by
  have:=KR (o:=o) B.tm (IF (ops:=ops) (K1:=True) (K2:=False) hg W);exact Kn λh=>this.2 h
 unfold wpList;rw[Awd hw];refine .inl ?_;refine pF k B.good (λy _=>CW B.tm y) KW z Co hp q (λ_ er u x' w' g' he CB S=>?_) (λ_ e=>nomatch e);cases er;have e:=Kj s.h (J (k,O.mp (Ci m R'))) (λk' o' e=>by cases e;exact LZ (Br.1 q).1);have M:Good S0 w0 x' w' (λi=>(Bk s.h (J (k,O.mp (Ci m R'))))[i]?):=by rw[e];exact g'
 exact h S0 w0 _ _ w' (Bo.put B.tm (B.df.mono CB) he M S o.dst)
theorem SW.AEd {f:FuncId}{args Bd:List V}{R R':Obj->Prop}(KW:AQ P f Bd m R R' (.HB ch))(q:Fp P f=I)(hg:BQ ops s.t o.guard=J I)(Co:C7 (ev s.t) o.op=J (f,args))(hp:V.CF args=J Bd)(S:s.h[k]?=J (.mp (Ci m R)))(h:K (.panic ch) ⟨s.t,Bk s.h (J (k,.mp (Ci m R')))⟩):SW P ops K (o::r) s:=λS0 w0 x a w B=>by
 have hw:FB o (yielded ops.toArray a.tmps)=true:=by
  have:=KR (o:=o) B.tm (IF (ops:=ops) (K1:=True) (K2:=False) hg W);exact Kn λh=>this.2 h
 unfold wpList;rw[Awd hw];refine .inl ?_;refine pF k B.good (λy _=>CW B.tm y) KW q Co hp S (λ_ e=>nomatch e) λA0 er x' w' g' he z=>?_
 cases er;have e:=Kj s.h (J (k,O.mp (Ci m R'))) (λk' o' e=>by cases e;exact LZ (Br.1 S).1);have M:Good S0 w0 x' w' (λi=>(Bk s.h (J (k,O.mp (Ci m R'))))[i]?):=by rw[e];exact g'
 exact⟨x',⟨s.t,Bk s.h (J (k,.mp (Ci m R')))⟩,⟨M,AO.mono he _ _ B.tm,B.df.mono z⟩,h⟩
end
def Tf:V:=.c (.int .i64 100000000000000000000)
def V.Wx:V->Bool
 | .c (.int .i64 n)=>n==100000000000000000000
 | _=>U
theorem AHv {u:Value}(h:v.Wx=I)(B:CV x w v u):False:=by
 unfold V.Wx at h;split at h;have e:=eq_of_beq h;subst e;simp only[CV,Ab]at B;exact absurd B.2 (by decide +kernel);cases h
def yi (t:List V):Prop:=∃(d:Nat) (v:V),t[d]?=J v/\v.Wx=I
def TZ (P:Program)(Z:List PanicEntry->Prop)(ops:List Oper)(K:List Ef->St->Prop)(l:List Oper)(acc:List Ef)(s:St):Prop:=∃es s',iI P Z ops l s es s'/\K (acc++es) s'
section
variable {P:Program} {Z:List PanicEntry->Prop} {ops:List Oper} {K:List Ef->St->Prop} {acc:List Ef} {s:St}
theorem TZ.nil (h:K acc s):TZ P Z ops K [] acc s:=⟨[],s,⟨rfl,rfl⟩,by simpa using h⟩
theorem TZ.cons (e:Ef)(B:oA P Z ops o s e)(M : ∀k z,e.t=J (k,z)->k<=G s.h)(h:TZ P Z ops K r (acc++[e]) (s.step o.dst e.v e.t)):TZ P Z ops K (o::r) acc s:=by
 obtain⟨es,s2,S,q⟩:=h;exact⟨e::es,s2,⟨e,es,F,B,M,S⟩,by simpa using q⟩
theorem TZ.step (hg:BQ ops s.t o.guard=J I)(hc:Ka o.op=U)(hs:Qv P o s=J (e,s1))(h:TZ P Z ops K r (acc++[e]) s1):TZ P Z ops K (o::r) acc s:=by
 unfold Qv at hs;split at hs
 . rename_i v t B;simp only[BL,Cr]at hs;obtain⟨rfl,rfl⟩:=hs;refine TZ.cons _ (Xu.z ?_) (oZ B) h;intro S0 w0 x w a H g hl hr q Q next hn;rw[QF hl hg];have ye:(P2 P (ev s.t) o.op).ap H (G s.h)=J (v,t):=by rw[<-B];exact ADz λk q=>hr k (.inl q)
   obtain⟨nx,w',x',u,S,EH,M,g',he,_⟩:=oW g (QR hl) q ye;show o.wp P a w next Q;unfold Er;rw[S];rcases EH with rfl|⟨rfl,rfl⟩
   exact hn u x' w' g' he M;exact hn undef x' w' g' he M
 cases hs
theorem TZ.off (B:BQ ops s.t o.guard=J U)(h:TZ P Z ops K r (acc++[⟨.A7 [],E,E⟩]) (s.put o.dst (.A7 []))):TZ P Z ops K (o::r) acc s:=TZ.cons _ (AFK B).z (λ_ _ e=>by cases e) h
theorem TZ.call {f:FuncId}(C9:AC P f Bd res)(q:Fp P f=I)(hg:BQ ops s.t o.guard=J I)(B:Ee (ev s.t) o.op=J (f,Bd))(h:TZ P Z ops K r (acc++[⟨res,E,E⟩]) (s.step o.dst res E)):TZ P Z ops K (o::r) acc s:=by
 obtain⟨args,B,hp⟩:=Tv B;refine TZ.cons ⟨res,E,E⟩ (Xu.z ?_) (λ_ _ e=>by cases e) h;intro S0 w0 x w a H g S hr hk Q next hn;rw[QF S hg];obtain⟨fn,h1,h2,h3⟩:=P7 q;exact AEa g (QR S) B (K:=λv=>v=res) ⟨Bd,res,hp,C9,⟨fn,h1,h2,by simpa using h3⟩,rfl⟩ λv u x' w' hv g' he M=>by subst hv;exact hn u x' w' g' he M
theorem TZ.pE {f:FuncId}{R R':Obj->Prop}(KW:AQ P f Bd m R R' (.ret res))(q:Fp P f=I)(hg:BQ ops s.t o.guard=J I)(hc:Ee (ev s.t) o.op=J (f,Bd))(M:s.h[k]?=J (.mp (Ci m R)))(h:TZ P Z ops K r (acc++[⟨res,J (k,.mp (Ci m R')),J k⟩]) (s.step o.dst res (J (k,.mp (Ci m R'))))):TZ P Z ops K (o::r) acc s:=by
 obtain⟨args,Co,hp⟩:=Tv hc;refine TZ.cons ⟨res,J (k,.mp (Ci m R')),J k⟩ (Xu.z ?_) (λk' ob e=>by cases e;exact LZ (Br.1 M).1) h;intro S0 w0 x w a H g S hr _ Q next EH;rw[QF S hg];show o.wp P a w next Q;exact pF k g (QR S) KW q Co hp ((hr k (.inl F)).trans M) (λ_ er u x' w' g' he _ B=>by cases er;exact EH u x' w' g' he B) (λ_ e=>nomatch e)
theorem TZ.HB {f:FuncId}(KW:AQ P f Bd m R R (.HB ch))(S:Fp P f=I)(hg:BQ ops s.t o.guard=J I)(hc:Ee (ev s.t) o.op=J (f,Bd))(hk:s.h[k]?=J (.mp (Ci m R)))(hz:Z ch)(h:TZ P Z ops K r (acc++[⟨Tf,E,J k⟩]) (s.step o.dst Tf E)):TZ P Z ops K (o::r) acc s:=by
 obtain⟨args,q,hp⟩:=Tv hc;refine TZ.cons ⟨Tf,E,J k⟩ ?_ (λ_ _ e=>by cases e) h;intro S0 w0 x w a H g M hr _ Q next z EH;rw[QF M hg];show o.wp P a w next Q;have B:=(hr k (.inl F)).trans hk;refine pF k g (QR M) KW S q hp B (λ_ e=>nomatch e) λA0 er x' w' g' he CB=>?_
 cases er;refine z ch x' w' hz ?_ he;have e:H.upd (J (k,O.mp (Ci m R)))=H:=by
  funext i;simp only[Bx.upd,Bx.set];split;rename_i h;subst h;exact B.symm;rfl
 rwa [e]at g'
theorem TZ.dead (B:o.op.operands.toList.any (λy=>(ev s.t y).Wx)=I)(h:TZ P Z ops K r (acc++[⟨Tf,E,E⟩]) (s.step o.dst Tf E)):TZ P Z ops K (o::r) acc s:=by
 refine TZ.cons ⟨Tf,E,E⟩ ?_ (λ_ _ e=>by cases e) h;intro S0 w0 x w a H g S hr _ Q next HO z;obtain⟨y,q,M⟩:=aH.1 B;exact(AHv M (QR S y q)).elim
end
theorem Good.AOf {S0:BF}{w0:Bs}{H:Bx}{h:List O}(g:Good S0 w0 x w H)(n:Nat)(hn:w0.n0<=n)(hH : ∀k,k<n->H k=h[k]?)(q:((h.take n).all (O.A8 n))=I):Good S0 w0 (x.cut n) w (λk=>(h.take n)[k]?):=by
 have M : ∀k o,(h.take n)[k]?=J o->H k=J o/\k<n:=by
  intro k o B;rw[KO]at B;split at B;rename_i h;exact⟨(hH k h).trans B,h⟩;cases B
 refine⟨λk o B=>?_,λk B=>?_,λk k' o o' h1 h2=>g.inj k k' o o' (M k o h1).1 (M k' o' h2).1,λk o j B hx=>g.EA k o j (M k o B).1 (by cases o<;>exact hx),g.ex,λk o B=>g.own k o (M k o B).1,g.new,g.sub,g.keep,g.ext.ar,λk B=>⟨g.ext.dom k B,H7 (w0.dl k B) hn⟩,g.ext.loc⟩;obtain⟨h1,h2⟩:=M k o B;obtain⟨h3,S⟩:=g.ok k o h1;refine⟨⟨h3,h2⟩,?_⟩;cases o with
 | box ty cs fr=>obtain⟨z,a2,vs,a3,a4,a5⟩:=S;rw[ES]at q;exact⟨z,a2,vs,a3,a4,AO.cut cs _ (q _ (Cj B)) a5⟩
 | tok ty es A0=>exact S
 | mp R=>exact S
 | Be ty es A0 cs=>obtain⟨z,a2,a3,a4,a5,vs,a6,a7,a8,a9⟩:=S;rw[ES]at q;exact⟨z,a2,a3,a4,a5,vs,a6,a7,a8,AO.cut cs _ (q _ (Cj B)) a9⟩
 obtain⟨o,Hz⟩:=g.dom k B.1;refine⟨o,?_⟩;rw[KO,Awd B.2,<-hH k B.2];exact Hz
def ZW (O0:O)(e:Ef):Prop:=∀ob,e.t=J (0,ob)->ob=O0
theorem AW.APA {Z:List PanicEntry->Prop}{n0 id:Nat}{R:Nat->Obj->Prop}(hm:P.follows .mixedOrders=I)(hn:n0<=1)(B:s.h[0]?=J (.mp R))(h:TZ P Z ops (λes s'=>Lk ops (es.map Ef.ks)=I/\(∀e∈es,ZW (.mp R) e)/\(yi s'.t\/K .normal s')) ops [] s)(hp : ∀ch,Z ch->K (.panic ch) ⟨Aq (G s.t) .any,[.mp R]⟩):AW ⟨E,n0⟩ P (.region id ops.toArray I) K s:=λn S0 w0 x a w qq M=>by
 have e:({ w with drawn:=w.drawn+1 }:World)=w.drew:=F;have Au:Bo S0 w0 x s a w.drew:=by
  obtain⟨g,z⟩:=M.good.MF (x':=x) (w':=w.drew) (Ay.refl w).drew ⟨λ_ _ h=>h,λb j v _ S=>(Ay.refl w).drew.cell S⟩ rfl rfl (λb j h=>.inl h);exact⟨g,AO.mono z _ _ M.tm,M.df.mono (.FR (Ay.refl w).drew)⟩
 obtain⟨es,s',ht,S,QP,hK⟩:=h;simp only[BU]at S QP hK;refine wpIn_wide.2 (wp_region_any hm ?_);rw[e];refine pY (K:=λs=>yi s.t\/K .normal s) (n:=1) ht S hK (λx s a w h M=>?_) (λe z k ob hk ht=>?_) (λch x a w H hz g hH FK Fu=>?_) Au;rcases h with ⟨d,v,h1,h2⟩|h
 obtain⟨u,_,hu⟩:=M.tm.get d v h1;exact(AHv h2 hu).elim;exact⟨x,s,M,h⟩;have:k=0:=Ux;subst this;rw[QP e z ob ht];exact B;have Td:s.h.take 1=[.mp R]:=by
  cases hs:s.h with
  | nil=>rw[hs]at B;simp at B
  | cons o r=>rw[hs]at B;simp only[LX,BL]at B;rw[B];rfl
 have g2:=g.AOf 1 (Ps qq hn) hH (by rw[Td];rfl);rw[Td]at g2;refine⟨x.cut 1,⟨Aq (G s.t) .any,[.mp R]⟩,⟨g2,?_,Fu⟩,hp ch hz⟩;have:=SQ (x.cut 1) w (G s.t);refine AO.SI (by simp[FK]) λi v u q _=>?_
 rw[mT]at q;split at q;cases q;simp only[CV];cases q
section
variable {P:Program} {K:Exit->St->Prop} {ops:List Oper} {s:St}
structure BH (P:Program)(ops:List Oper)(K:Exit->St->Prop)(l:List Oper)(s:St):Prop where
 out:SW P ops K l s
theorem BH.I2 {B id:Nat}(h:BH P ops K ops s):AW ⟨E,B⟩ P (.region id ops.toArray U) K s:=AW.DA h.out
theorem BH.done (h:K .normal s):BH P ops K [] s:=⟨SW.nil h⟩
theorem ALP (S:BQ ops s.t o.guard=J I)(M:Ka o.op=U)(hs:Qw P o s=J s1)(h:SW P ops K r s1):SW P ops K (o::r) s:=SW.take 1 (by
 show Eg P ops _ [o] s;unfold Qw at hs;split at hs;rename_i v t B;cases hs;unfold Eg;refine IF S ?_;unfold RP;rw[YC M];simp only;rw[B];exact h;cases hs)
theorem AZe (B:BQ ops s.t o.guard=J U)(h:SW P ops K r (s.put o.dst (.A7 []))):SW P ops K (o::r) s:=SW.take 1 (by
 show Eg P ops _ [o] s;unfold Eg;exact X8 B h)
theorem BH.h {ds:List (Option Nat)}(hd:ops.map (·.dst)=ds):∀(n:Nat) (b:Bool) {l M:List Oper} {s s':St},LL P ds n b l s=J (M,s')->BH P ops K M s'->BH P ops K l s
 | n,I,[],M,s,s',h,B=>by simp[LL]at h
 | n,U,[],M,s,s',h,B=>by simp only[LL,BL,Cr]at h;obtain⟨rfl,rfl⟩:=h;exact B
 | 0,b,o::r,M,s,s',h,B=>by simp only[LL,BL,Cr]at h;obtain⟨rfl,rfl⟩:=h;exact B
 | n+1,I,o::r,M,s,s',h,B=>by
   subst hd;unfold LL at h;rw[jG]at h;split at h;rename_i S;split at h;rename_i q;split at h;rename_i s1 z;exact⟨ALP S q z (BH.h rfl n _ h B).out⟩;cases h;cases h;rename_i S;exact⟨AZe S (BH.h rfl n _ h B).out⟩;cases h
 | n+1,U,o::r,M,s,s',h,B=>by
   subst hd;unfold LL at h;split at h;simp only[BL,Cr]at h;obtain⟨rfl,rfl⟩:=h;exact B;rename_i Ro;have S:BQ ops s.t o.guard=J true:=by rw[Ro];rfl
   split at h;rename_i q;split at h;rename_i s1 z;exact⟨ALP S q z (BH.h rfl n _ h B).out⟩;cases h;simp only[BL,Cr]at h;obtain⟨rfl,rfl⟩:=h;exact B
theorem BH.c2 {f:FuncId}(M:AC P f Bd res)(B:Fp P f=I)(q:BQ ops s.t o.guard=J I)(S:Ee (ev s.t) o.op=J (f,Bd))(h:BH P ops K r (s.step o.dst res E)):BH P ops K (o::r) s:=⟨SW.take 1 (ADy M B q S h.out)⟩
theorem BH.q {f:FuncId}{R R':Obj->Prop}(S:AQ P f Bd m R R' (.ret res))(B:Fp P f=I)(hg:BQ ops s.t o.guard=J I)(z:Ee (ev s.t) o.op=J (f,Bd))(hk:s.h[0]?=J (.mp (Ci m R)))(h:BH P ops K r (s.step o.dst res (J (0,.mp (Ci m R'))))):BH P ops K (o::r) s:=by
 obtain⟨args,M,hp⟩:=Tv z;exact⟨SW.pE 0 S B hg M hp hk h.out⟩
theorem BH.p {f:FuncId}{R R':Obj->Prop}(S:AQ P f Bd m R R' (.HB ch))(B:Fp P f=I)(z:BQ ops s.t o.guard=J I)(q:Ee (ev s.t) o.op=J (f,Bd))(hk:s.h[0]?=J (.mp (Ci m R)))(h:K (.panic ch) ⟨s.t,Bk s.h (J (0,.mp (Ci m R')))⟩):BH P ops K (o::r) s:=by
 obtain⟨args,M,hp⟩:=Tv q;exact⟨SW.AEd 0 S B z M hp hk h⟩
end
def SY (P:Program)(ds:List (Option Nat)):Nat->Bool->List Oper->List (Option Nat×Option Nat)->St->Option (List Oper×List (Option Nat×Option Nat)×St)
 | _,I,[],_,_=>E
 | _,U,[],ks,s=>J ([],ks,s)
 | 0,_,l,ks,s=>J (l,ks,s)
 | n+1,I,o::r,ks,s=>match QE ds s.t o.guard with
   | some I=>match Ka o.op with
     | false=>match Qv P o s with
       | some (e,s')=>if e.ks.1=J 0 then E else SY P ds n U r (ks++[e.ks]) s'
       | none=>E
     | true=>E
   | some U=>SY P ds n U r (ks++[(E,E)]) (s.put o.dst (.A7 []))
   | none=>E
 | n+1,U,o::r,ks,s=>match o.guard with
   | some _=>J (o::r,ks,s)
   | none=>match Ka o.op with
     | false=>match Qv P o s with
       | some (e,s')=>if e.ks.1=J 0 then E else SY P ds n U r (ks++[e.ks]) s'
       | none=>E
     | true=>J (o::r,ks,s)
section
variable {P:Program} {Z:List PanicEntry->Prop} {O0:O} {K:St->Prop} {ops:List Oper} {ks:List (Option Nat×Option Nat)} {s:St}
structure BJ (P:Program)(Z:List PanicEntry->Prop)(O0:O)(ops:List Oper)(K:St->Prop)(l:List Oper)(ks:List (Option Nat×Option Nat))(s:St):Prop where
 out : ∀acc:List Ef,acc.map Ef.ks=ks->(∀e∈acc,ZW O0 e)->TZ P Z ops (λes s'=>Lk ops (es.map Ef.ks)=I/\(∀e∈es,ZW O0 e)/\(yi s'.t\/K s')) l acc s
theorem BJ.I2 {B id:Nat}{R:Nat->Obj->Prop}{K:Exit->St->Prop}(S:P.follows .mixedOrders=I)(q:B<=1)(M:s.h[0]?=J (.mp R))(h:BJ P (λch=>K (.panic ch) ⟨Aq (G s.t) .any,[.mp R]⟩) (.mp R) ops (K .normal) ops [] s):AW ⟨E,B⟩ P (.region id ops.toArray I) K s:=AW.APA S q M (h.out [] rfl ZA) λ_ h=>h
theorem BJ.done (B:Lk ops ks=I)(h:K s):BJ P Z O0 ops K [] ks s:=⟨λacc e M=>TZ.nil ⟨by rw[e];exact B,M,.inr h⟩⟩
theorem BJ.gone (B:Lk ops ks=I)(h:s.t.any V.Wx=I):BJ P Z O0 ops K [] ks s:=⟨λacc e q=>TZ.nil ⟨by rw[e];exact B,q,.inl (by
 obtain⟨v,z,S⟩:=aH.1 h;obtain⟨d,M⟩:=List.mem_iff_getElem?.1 z;exact⟨d,v,M,S⟩)⟩⟩
theorem dP (h : ∀e∈acc,ZW O0 e)(S:ZW O0 e):∀M∈acc++[e],ZW O0 M:=by
 intro M B;rcases MJ.1 B with B|B
 exact h M B;rw[LY.1 B];exact S
theorem ATo (h:e.ks.1≠J 0):ZW O0 e:=λM B=>by
 unfold Ef.ks at h;rw[B]at h;exact absurd rfl h
theorem BJ.step (S:BQ ops s.t o.guard=J I)(M:Ka o.op=U)(hs:Qv P o s=J (e,s1))(q:e.ks.1≠J 0)(h:BJ P Z O0 ops K r (ks++[e.ks]) s1):BJ P Z O0 ops K (o::r) ks s:=⟨λacc B z=>TZ.step S M hs (h.out _ (by rw[Fm,B];rfl) (dP z (ATo q)))⟩
theorem BJ.off (M:BQ ops s.t o.guard=J U)(h:BJ P Z O0 ops K r (ks++[(E,E)]) (s.put o.dst (.A7 []))):BJ P Z O0 ops K (o::r) ks s:=⟨λacc B S=>TZ.off M (h.out _ (by rw[Fm,B];rfl) (dP S λq e=>by cases e))⟩
theorem BJ.h {ds:List (Option Nat)}(hd:ops.map (·.dst)=ds):∀(n:Nat) (b:Bool) {l S:List Oper} {ks M:List (Option Nat×Option Nat)} {s s':St},SY P ds n b l ks s=J (S,M,s')->BJ P Z O0 ops K S M s'->BJ P Z O0 ops K l ks s
 | n,I,[],S,ks,M,s,s',h,B=>by simp[SY]at h
 | n,U,[],S,ks,M,s,s',h,B=>by simp only[SY,BL,Cr]at h;obtain⟨rfl,rfl,rfl⟩:=h;exact B
 | 0,b,o::r,S,ks,M,s,s',h,B=>by simp only[SY,BL,Cr]at h;obtain⟨rfl,rfl,rfl⟩:=h;exact B
 | n+1,I,o::r,S,ks,M,s,s',h,B=>by
   subst hd;unfold SY at h;rw[jG]at h;split at h;rename_i q;split at h;rename_i z;split at h;rename_i e s1 hs;split at h;cases h;rename_i hk;exact BJ.step q z hs hk (BJ.h rfl n _ h B);cases h;cases h;rename_i q;exact BJ.off q (BJ.h rfl n _ h B);cases h
 | n+1,U,o::r,S,ks,M,s,s',h,B=>by
   subst hd;unfold SY at h;split at h;simp only[BL,Cr]at h;obtain⟨rfl,rfl,rfl⟩:=h;exact B;rename_i Ro;have q:BQ ops s.t o.guard=J true:=by rw[Ro];rfl
   split at h;rename_i z;split at h;rename_i e s1 hs;split at h;cases h;rename_i hk;exact BJ.step q z hs hk (BJ.h rfl n _ h B);cases h;simp only[BL,Cr]at h;obtain⟨rfl,rfl,rfl⟩:=h;exact B
theorem BJ.c2 {f:FuncId}(M:AC P f Bd res)(B:Fp P f=I)(z:BQ ops s.t o.guard=J I)(q:Ee (ev s.t) o.op=J (f,Bd))(h:BJ P Z O0 ops K r (ks++[(E,E)]) (s.step o.dst res E)):BJ P Z O0 ops K (o::r) ks s:=⟨λacc S hp=>TZ.call M B z q (h.out _ (by rw[Fm,S];rfl) (dP hp λob e=>by cases e))⟩
theorem BJ.q {f:FuncId}(M:AQ P f Bd m R R (.ret res))(B:Fp P f=I)(hg:BQ ops s.t o.guard=J I)(z:Ee (ev s.t) o.op=J (f,Bd))(hk:s.h[0]?=J (.mp (Ci m R)))(h:BJ P Z (.mp (Ci m R)) ops K r (ks++[(J 0,J 0)]) (s.step o.dst res (J (0,.mp (Ci m R))))):BJ P Z (.mp (Ci m R)) ops K (o::r) ks s:=⟨λacc S hp=>TZ.pE 0 M B hg z hk (h.out _ (by rw[Fm,S];rfl) (dP hp λob e=>by cases e;rfl))⟩
theorem BJ.p {f:FuncId}(M:AQ P f Bd m R R (.HB ch))(B:Fp P f=I)(z:BQ ops s.t o.guard=J I)(q:Ee (ev s.t) o.op=J (f,Bd))(hk:s.h[0]?=J (.mp (Ci m R)))(hz:Z ch)(h:BJ P Z O0 ops K r (ks++[(E,J 0)]) (s.step o.dst Tf E)):BJ P Z O0 ops K (o::r) ks s:=⟨λacc S hp=>TZ.HB 0 M B z q hk hz (h.out _ (by rw[Fm,S];rfl) (dP hp λob e=>by cases e))⟩
theorem BJ.d (M:o.op.operands.toList.any (λy=>(ev s.t y).Wx)=I)(h:BJ P Z O0 ops K r (ks++[(E,E)]) (s.step o.dst Tf E)):BJ P Z O0 ops K (o::r) ks s:=⟨λacc B S=>TZ.dead M (h.out _ (by rw[Fm,B];rfl) (dP S λq e=>by cases e))⟩
end
end Go.Proofs.YtegconioojpgmaaGreat
