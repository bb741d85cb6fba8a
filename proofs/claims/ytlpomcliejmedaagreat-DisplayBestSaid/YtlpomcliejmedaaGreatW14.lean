/- Part of the proof of displayBest.proved. Conditions: none. -/
import Derived.Test.YtlpomcliejmedaaGreatW13
set_option linter.unusedVariables false
set_option linter.unusedSimpArgs false
set_option maxRecDepth 100000
set_option maxHeartbeats 16000000
open Go.Proofs.Tryz renaming prog→AF,func20→nD,ntmps20→nR,results20→nf,results25→Yc,results62→c8,results63→ki,results9→Yd
open Bool renaming and_eq_true→Ak,false_eq_true→GW
open ByteArray renaming size_append→fe
open List renaming all_eq_true→ES,mem_singleton→LY,getElem?_eq_some_iff→Br,getD_eq_getElem?_getD→Bv,map_cons→Ap,map_nil→BB,mem_cons→Cf,replicate_succ→BY,range'→fY,append_assoc→GX,length_append→Cp,length_map→Ch,length_range'→AHh,getElem?_append_right→Gy,getElem?_map→CM,replicate→Aq,length_cons→BA,length_nil→BO,replicate_zero→Cy,cons_append→BK,nil_append→BU,length_replicate→H6,set_cons_zero→Ag,set_cons_succ→Ai,replicate_succ'→Sj,foldl_cons→Bw,take_add_one→UC,foldl_append→uN,mem_map→Da,mem_range'_1→tp,getElem?_eq_getElem→BE,getElem_mem→Kq,mem_of_getElem?→Cj,drop_zero→B9,foldl_nil→CO,range'_concat→AMI,getElem?_cons_zero→LX,mem_filterMap→mX,pairwise_iff_getElem→mZ
open Nat renaming zero_le→CI,le_refl→BN,add_assoc→mg,zero_add→Cz,one_mul→gE,add_zero→M8,sub_self→La
open Option renaming getD_some→Dm
open Go.IntKind renaming i64→AZ
open Go.Lit renaming int→I9
open Int renaming le_refl→IV
open Option.some renaming injEq→BL
namespace Go.Proofs.YtlpomcliejmedaaGreat
open Go.RowKit Tryz
variable {b:AA}{i:Nat}(L:List (Int×Int×Int))(PR:List (List C))
section
variable {H:Type} {enc:TypeId×Value->H} {w:World}
theorem r9 {B:Nat}:Dq enc AF w B 35 (λm:Int×ByteArray=>[.int .i64 m.1,.str m.2]) (λm=>m.2.size<=maxLen):=by
 cases B with
 | zero=>exact Dq.zero
 | succ B=>exact(VJ underlying35 (by kernel_rfl) (C6.cons (o:=0) (o':=1) rfl (by kernel_rfl) (by decide) (Ge underlying3) (C6.cons (o:=1) (o':=2) rfl (by kernel_rfl) (by decide) (Zf underlying9) (C6.nil)))).conv (λq=>⟨q.1,q.2.1⟩) (λq=>rfl) (λq h=>h.2.1)
end
def DF (x:Af)(L:List (Int×Int×Int))(P:List Int)(W:Int):List Int:=Hj P (ME L W (HA x.f.params.Al W))
def Ii (x:Af)(n:Nd)(b:AA)(S:List Int)(W:Int):List AA:=I3 b.AE (x.CC ⟨0,false⟩ n.AE) S n.AE.length W (HA x.f.params.Al W) S.length
def iH (x:Af)(W:Int)(sn:ByteArray)(A6:List AA):Prop:=(sn=⟨#[]⟩/\A6=[])\/(¬sn=⟨#[]⟩/\∃nb,Fw x ⟨0,false⟩ [0] (OR sn)=some nb/\A6=[XE nb W])
structure ADi (W:Int)(c:AA):Prop where
 val:c.Ad=true
 src:c.src=[]
 w0:0<=c.w
 x:c.x=mx 0 (W - c.w)
theorem AUk {sn:ByteArray}(h:Pd sn=true):(OR sn).Jb=true:=by
 unfold Pd at h;simp only[Ak,decide_eq_true_eq]at h;have B:(⟨#[40]⟩:ByteArray).size=1:=rfl;have E:(⟨#[41]⟩:ByteArray).size=1:=rfl;have F:((⟨#[40]⟩:ByteArray)++sn++⟨#[41]⟩).size=sn.size+2:=by rw[fe,fe,B,E];omega
 have G:((⟨#[40]⟩:ByteArray)++sn++⟨#[41]⟩).data.toList=40::(sn.data.toList++[41]):=by simp
 have I:FC Qm ((⟨#[40]⟩:ByteArray)++sn++⟨#[41]⟩)=true:=by
  have:sn.data.toList.all (λb=>Qm b.toNat)=true:=by
   rw[ES]at h ⊢;intro b J;have:=h.1 b J;unfold Dx at this;unfold Qm;simp at this ⊢;omega
  unfold FC;rw[G,List.all_cons,List.all_append,this];rfl
 unfold OR;simp[Nd.Jb,Nd.MY,Ki,FL,I,F];omega
theorem AAm {x:Af}(I:x.Ok){W:Int}(J:1<=W)(K:W<=10000000){sn:ByteArray}(M:Pd sn=true){A6:List AA}(h:iH x W sn A6):A6.length<=1/\∀c∈A6,ADi W c:=by
 rcases h with ⟨_,rfl⟩|⟨_,R,B,rfl⟩
 exact⟨CI _,λc h=>by cases h⟩;refine⟨BN _,λc h=>?_⟩;rw[LY]at h;subst h;have E:=AUk M;have G:=AH1 I (OR sn) ⟨0,false⟩ [0] R rfl E B;have F:=E;rw[dg,Ak]at F;have Q:=(AH0 I (s:=⟨0,false⟩) rfl F.1 (show (4:Int)≠1 by decide) (src:=[0]) ⟨rfl,rfl,show (1:Nat)+1<=49 by decide⟩ B).1;exact⟨AUe Q J K G,rfl,G,rfl⟩
section
variable {x:Af} {n:Nd} {W:Int}
theorem AIl (x:Af)(sn:ByteArray)(W:Int)(S:x.f.Fit)(K:x.Ok)(M : ∀e∈x.d,e.text.size<=maxLen)(hs:sn.size<=1000)(U:Pd sn=true)(F:1<=W)(G:W<=10000000) :
 (∃e:Int,¬sn=⟨#[]⟩/\PC AF 34 [.agg x.f.vs,.c (Cc x.d),.c (.str sn),.c (.int .i64 W)] (Tr e)/\(e≠0/\0<=e/\e<=9)/\Wy x ⟨0,false⟩ [0] (OR sn)=.A7 [Ao AA.zero,AR e])\/
 ∃A6,iH x W sn A6/\((sn=⟨#[]⟩/\A6=[])\/(¬sn=⟨#[]⟩/\∃E,A6=[E]/\AC AF 34 [.agg x.f.vs,.c (Cc x.d),.c (.str sn),.c (.int .i64 W)] (Ao E))):=by
 by_cases B:sn=⟨#[]⟩
 exact .inr ⟨[],.inl ⟨B,rfl⟩,.inl ⟨B,rfl⟩⟩;rcases AUm x sn W S K.dl M hs F G with ⟨e,h,R,o⟩|⟨E,Q,h⟩
 exact .inl ⟨e,B,h,R,o⟩;have I:iH x W sn [XE E W]:=.inr ⟨B,E,Q,rfl⟩;have J:=((AAm K F G U I).2 _ (LY.2 rfl)).val;simp only[AA.Ad,Ak]at J;exact .inr ⟨_,I,.inr ⟨B,_,rfl,h (Mq J.1).1⟩⟩
theorem xK {L:List (Int×Int×Int)}{P:List Int}(hf:x.f.Fit)(E:x.Ok)(M : ∀e∈x.d,e.text.size<=maxLen)(J:n.BX)(U:n.cnt<=80)(hr:Ob x ⟨0,false⟩ [] n=.A7 [Ao b,AR 0])(I:af x ⟨0,false⟩ n b L P)(F:Lc b (x.CC ⟨0,false⟩ n.AE) (DF x L P W) n.AE.length W (HA x.f.params.Al W))(K:AC AF 33 [.agg x.f.vs,.c (Cc x.d),Am n,.c (.int .i64 W)] (.A7 [.c (AV (DF x L P W)),AR 0])){sn:ByteArray}(hs:sn.size<=1000)(Q:Pd sn=true){A6:List AA}(hN:iH x W sn A6)(yH:(sn=⟨#[]⟩/\A6=[])\/(¬sn=⟨#[]⟩/\∃o,A6=[o]/\AC AF 34 [.agg x.f.vs,.c (Cc x.d),.c (.str sn),.c (.int .i64 W)] (Ao o))):
 AC AF 12 [.agg x.f.vs,.c (Cc x.d),Am n,.c (.int .i64 W),.c (.str sn)] (.A7 [Ao (if K3 x.f.params.Al (Ii x n b (DF x L P W) W) A6 W=true then GZ x.f.params.Al (Ii x n b (DF x L P W) W) A6 W else AA.zero),AR (if K3 x.f.params.Al (Ii x n b (DF x L P W) W) A6 W=true then 0 else 6)]):=by
 have G:=I.nv;unfold Nd.Ad at G;simp only[Ak,decide_eq_true_eq]at G;obtain⟨AE,hk⟩:∃AE,n=Dd AE:=⟨n.AE,ABc G.2.1 G.1⟩
 subst hk;have B:=pZ x (Dd AE) E.dl M J U;rw[E.val,E.dv,I.nv]at B;have R:=AIn sn (by unfold maxLen;omega);rw[Q]at R;have S:=AAc x (Dd AE) ⟨0,false⟩ hf E.dl M J U;rw[hr]at S;have z:=ABJ x ⟨0,false⟩ AE E rfl J (by omega) I.nv;have hI:=rR x.f W E.val F.w1 F.w2;obtain⟨v1,q⟩:=AAm E F.w1 F.w2 Q hN;exact AO5 x.f (Cc x.d) (Dd AE) W sn B R K (AOn (AE:=AE) F S z hI) (AOl F E.val A6 v1 (λc h=>(q c h).val) λc h=>(q c h).src) yH
structure n8 (x:Af)(n:Nd)(W:Int)(sn:ByteArray)(b:AA)(L:List (Int×Int×Int))(P:List Int)(A6:List AA):Prop where
 hx:x.Ok
 num:iH x W sn A6
 nb:Pd sn=true
 row:Ob x ⟨0,false⟩ [] n=.A7 [Ao b,AR 0]
 pH:oC b L P
 pD:af x ⟨0,false⟩ n b L P
 pv:Gg L=true
 Qd:Lc b (x.CC ⟨0,false⟩ n.AE) (DF x L P W) n.AE.length W (HA x.f.params.Al W)
 ok:K3 x.f.params.Al (Ii x n b (DF x L P W) W) A6 W=true
 make:AC AF 12 [.agg x.f.vs,.c (Cc x.d),Am n,.c (.int .i64 W),.c (.str sn)] (.A7 [Ao (GZ x.f.params.Al (Ii x n b (DF x L P W) W) A6 W),AR 0])
 bare:AC AF 12 [.agg x.f.vs,.c (Cc x.d),Am n,.c (.int .i64 W),.c (.str ⟨#[]⟩)] (.A7 [Ao (if K3 x.f.params.Al (Ii x n b (DF x L P W) W) [] W=true then GZ x.f.params.Al (Ii x n b (DF x L P W) W) [] W else AA.zero),AR (if K3 x.f.params.Al (Ii x n b (DF x L P W) W) [] W=true then 0 else 6)])
 lines:AC AF 15 [.agg x.f.vs,.c (Cc x.d),Am n,.c (.int .i64 W)] (.A7 [.c (.sl (Jr (DF x L P W) (n.AE.length:Int) (DF x L P W).length)),AR 0])
theorem AO2 {L:List (Int×Int×Int)}{P:List Int}(G:x.Ok)(J : ∀e∈x.d,e.text.size<=maxLen)(Q:n.BX)(M:n.cnt<=80)(F:n.Ad=true)(B:Lc b (x.CC ⟨0,false⟩ n.AE) (DF x L P W) n.AE.length W (HA x.f.params.Al W))(E:AC AF 33 [.agg x.f.vs,.c (Cc x.d),Am n,.c (.int .i64 W)] (.A7 [.c (AV (DF x L P W)),AR 0])):
 AC AF 15 [.agg x.f.vs,.c (Cc x.d),Am n,.c (.int .i64 W)] (.A7 [.c (.sl (Jr (DF x L P W) (n.AE.length:Int) (DF x L P W).length)),AR 0]):=by
 have U:=B.XS;have o:=B.n80;refine AOi x n W (DF x L P W) G.dl J Q M (by rw[G.val,G.dv,F];rfl) (by omega) (λv F=>?_) E;obtain⟨k,I⟩:=List.getElem?_of_mem F;obtain⟨a,e,K,_,R,S⟩:=B.ck k (Br.1 I).1;rw[Bv,I,Dm]at K;omega
theorem AOy (x:Af)(n:Nd)(W:Int)(sn:ByteArray)(o:x.f.Fit)(z:x.d.length<=300)(J : ∀e∈x.d,e.text.size<=maxLen)(S:n.BX)(Q:n.cnt<=80)(hs:sn.size<=1000) :
 (∃B e R el,(e≠0\/el≠0)/\AC AF 12 [.agg x.f.vs,.c (Cc x.d),Am n,.c (.int .i64 W),.c (.str sn)] (.A7 [Ao B,AR e])/\AC AF 15 [.agg x.f.vs,.c (Cc x.d),Am n,.c (.int .i64 W)] (.A7 [.c (.sl R),AR el]))\/
 ∃b L P A6,n8 x n W sn b L P A6:=by
 have E:=pZ x n z J S Q;have K:=AIn sn (by unfold maxLen;omega);rcases AFE x n W o z J S Q with ⟨e,q,_,F⟩|⟨b,L,P,h1,h2,hr,hH,M,hv,F⟩
 obtain⟨el,Mh,I⟩:=AOj x n W e z J S Q q F;cases G:(x.f.valid && (Ll x.d && n.Ad)) && Pd sn with
 | false=>exact .inl ⟨_,_,_,_,.inl (by decide),AFB x.f (Cc x.d) n W sn E K G,I⟩
 | true=>rw[Ak]at G;rw[G.1]at E;rw[G.2]at K;exact .inl ⟨_,_,_,_,.inl q,AO3 x.f (Cc x.d) n W sn E K q F,I⟩
 have ho:=M.ok;unfold Af.Bj at ho;simp only[Ak]at ho;have U:x.Ok:=⟨o,ho.1,z,ho.2.1⟩
 have hL:Lc b (x.CC ⟨0,false⟩ n.AE) (DF x L P W) n.AE.length W (HA x.f.params.Al W):=AII o z S Q h1 h2 hH M hv;have F:AC AF 33 [.agg x.f.vs,.c (Cc x.d),Am n,.c (.int .i64 W)] (.A7 [.c (AV (DF x L P W)),AR 0]):=F;have I:=AO2 U J S Q M.nv hL F;rw[U.val,U.dv,M.nv]at E;cases G:Pd sn with
 | false=>rw[G]at K;exact .inl ⟨_,_,_,_,.inl (by decide),AFB x.f (Cc x.d) n W sn E K rfl,I⟩
 | true =>
   rw[G]at K;rcases AIl x sn W o U J hs G h1 h2 with ⟨e,h0,hp,q,_⟩|⟨A6,hN,yH⟩
   exact .inl ⟨_,_,_,_,.inl q.1,AO4 x.f (Cc x.d) n W sn E K F h0 (Q7 (by omega) (by omega)) hp,I⟩;have hM:=xK o U J S Q hr M hL F hs G hN yH;have hB:=xK o U J S Q hr M hL F (sn:=⟨#[]⟩) (CI _) rfl (A6:=[]) (.inl ⟨rfl,rfl⟩) (.inl ⟨rfl,rfl⟩);cases A5:K3 x.f.params.Al (Ii x n b (DF x L P W) W) A6 W with
   | false=>rw[A5]at hM;exact .inl ⟨_,_,_,_,.inl (show (6:Int)≠0 by decide),hM,I⟩
   | true=>rw[A5]at hM;exact .inr ⟨b,L,P,A6,U,hN,G,hr,hH,M,hv,hL,A5,hM,hB,I⟩
end
def Ms (W:Int)(sn:ByteArray):V:=.agg [.c (.int .i64 W),.c (.str sn)]
theorem rm (x:Af)(n:Nd)(W:Int)(sn:ByteArray)(o:x.f.Fit)(hl:x.d.length<=maxLen)(z : ∀e∈x.d,e.text.size<=maxLen)(q:n.BX)(hs:sn.size<=maxLen) :
 (∃B T R,AC AF 20 [.agg (HD x),Am n,Ms W sn] (.A7 [Ao B,Ao T,.c (.sl R),.c (.bool false)]))\/
 ∃b L P A6,n.cnt<=80/\n8 x n W sn b L P A6/\AC AF 20 [.agg (HD x),Am n,Ms W sn] (.A7 [Ao (GZ x.f.params.Al (Ii x n b (DF x L P W) W) A6 W),Ao b,.c (.sl (Jr (DF x L P W) (n.AE.length:Int) (DF x L P W).length)),.c (.bool true)]):=by
 have F:=APU x n 60 o hl q (by omega) (by omega);unfold Ms;by_cases hg:jA x n 60=true/\¬(100:Int)<(sn.size:Int);rotate_left
 refine .inl ⟨AA.zero,AA.zero,[],?_⟩;cases E:jA x n 60 with
 | false=>rw[E]at F;simp only[Am,Ao,AA.zero,AA.row,AA.AG,AV,Ap,BB]at F ⊢;refine en nD nR ?_;exact wz nf (cj F<|trivial)
 | true =>
   have S:(100:Int)<(sn.size:Int):=by
    by_cases h:(100:Int)<(sn.size:Int);exact h;exact absurd ⟨E,h⟩ hg
   rw[E]at F;simp only[Am,Ao,AA.zero,AA.row,AA.AG,AV,Ap,BB]at F ⊢;refine en nD nR ?_;exact wz (cj @S<|nf) (cj F<|trivial)
 obtain⟨E,K⟩:=hg;rw[E]at F;unfold jA at E;simp only[Ak,decide_eq_true_eq]at E;have U:n.cnt<=80:=by omega
 have J:=AAc x n ⟨0,false⟩ o E.2.1 z q U;rcases AOy x n W sn o E.2.1 z q U (by omega)with ⟨B,e,R,el,he,I,G⟩|⟨b,L,P,A6,M⟩
 obtain⟨T,e3,hr⟩:=AKU x ⟨0,false⟩ [] n;rw[hr]at J;refine .inl ⟨B,T,R,?_⟩;simp only[Am,As,Aj,AR]at F J I G ⊢;by_cases Q:e=0;have S:el≠0:=he.resolve_left (λh=>h Q);subst Q;refine en nD nR ?_;exact wz (cj2 @K @S nf) (cj4 F I G J trivial);refine en nD nR ?_;exact wz (cj2 @K @Q nf) (cj4 F I G J trivial);refine .inr ⟨b,L,P,A6,U,M,?_⟩;have I:=M.make;have G:=M.lines;have A0:=M.Qd.lR;have Av:=eZ (DF x L P W) (n.AE.length:Int) (DF x L P W).length;rw[M.row]at J;obtain⟨R,hR⟩:=AI (Jr (DF x L P W) (n.AE.length:Int) (DF x L P W).length);obtain⟨B,hB⟩:=AI (GZ x.f.params.Al (Ii x n b (DF x L P W) W) A6 W);rw[hR]at G Av ⊢;rw[hB]at I ⊢;have hp:(0:Int)<(R.length:Int):=by omega
 clear M;simp only[Am,As,Aj,AR]at F J I G ⊢;refine en nD nR ?_;exact wz (cj2 @K @hp nf) (cj4 F I G J trivial)
theorem AVV {sp S:List Int}{W F:Int}(h:Lc b sp S 1 W F):S=[0]:=by
 have G:=h.lR;obtain⟨a,e,B,E,R,U⟩:=h.ck 0 G;match S,G,h,B,E with
 | [v],_,_,B,_=>simp at B;rw[B,show a=0 by omega];rfl
 | v::u::r,_,h,_,E=>obtain⟨M,Q,I,_,K,J⟩:=h.ck 1 (by simp);simp at E I;omega
def K4:Af:=⟨⟨[⟨⟨#[120]⟩,430,431,0,0,0⟩,⟨⟨#[63]⟩,100,700,0,0,0⟩],[],{ script:=70,Qr:=50,TD:=90,FD:=0,rule:=0,Gj:=0,Al:=1000,VH:=0,Tp:=0,Uf:=0,TE:=0,Zy:=0,Zz:=0,Z0:=0,Qx:=0,Qy:=0,Q5:=0,Qz:=0,RY:=0,RO:=0 }⟩,[]⟩
def V5:Nd:=Dd [⟨2,⟨#[120]⟩,0,[]⟩]
def X7 (x:Int):AA:=⟨1,⟨#[63]⟩,100,100,700,0,x,0,[],0,[]⟩
def bI:AA:=⟨3,⟨#[]⟩,0,430,431,0,0,0,[⟨1,⟨#[120]⟩,100,430,431,0,0,0,[],2,[0]⟩],1,[]⟩
def ot:AA:=⟨3,⟨#[]⟩,0,300,700,0,0,0,[X7 0,X7 100,X7 200],2,[0]⟩
def AEG:AA:=⟨3,⟨#[]⟩,0,5000,700,0,0,0,[⟨3,⟨#[]⟩,0,430,431,0,2285,0,[⟨1,⟨#[120]⟩,100,430,431,0,0,0,[],2,[0]⟩],0,[]⟩,⟨3,⟨#[]⟩,0,300,700,0,4700,0,[X7 0,X7 100,X7 200],0,[]⟩],0,[]⟩
theorem AEH:GU K4 ⟨0,false⟩ [] V5=some bI:=by kernel_rfl
theorem ANm:Fw K4 ⟨0,false⟩ [0] (OR ⟨#[55]⟩)=some ot:=by kernel_rfl
theorem ou:AC AF 10 [] (.c (.bool true)):=by
 have q:=AYC [⟨2,⟨#[120]⟩,0,[]⟩];have o:(0:Nat)<=maxLen:=CI _;have G:(1:Nat)<=maxLen:=by unfold maxLen;omega
 have m2:(2:Nat)<=maxLen:=by unfold maxLen;omega
 have B : ∀g∈K4.f.DR,g.name.size<=maxLen:=λg B=>by
  rcases Cf.1 B with rfl|B
  exact G;rcases Cf.1 B with rfl|B
  exact G;cases B
 have E:K4.f.Fit:=⟨m2,o,B,λs hs=>(by cases hs)⟩
 have Q:V5.BX:=⟨o,G,⟨G,o,trivial⟩,trivial⟩
 have I : ∀e∈K4.d,e.text.size<=maxLen:=λe F=>by cases F
 have U:K4.Ok:=⟨E,by kernel_rfl,CI _,by kernel_rfl⟩
 have M:=rR K4.f 5000 U.val (by decide) (by decide);rw[show HA K4.f.params.Al 5000=2000 by kernel_rfl]at M;rcases AFE K4 V5 5000 E (CI _) I Q (by decide)with ⟨e,F,hN,_⟩|⟨b,L,P,w1,w2,hr,hH,K,hv,S⟩
 have:=hN bI (by kernel_rfl) (by kernel_rfl) AEH (λh=>nomatch h) (by decide) (by decide);rw[show (Zk (dx K4 V5 ⟨0,false⟩ bI) && Gg (dx K4 V5 ⟨0,false⟩ bI))=true by kernel_rfl]at this;cases this;cases AEH.symm.trans K.row;have z:=AII E (CI _) Q (by decide) w1 w2 hH K hv;have hS:DF K4 L P 5000=[0]:=AVV z;rcases AIl K4 ⟨#[55]⟩ 5000 E U I (by decide) (by kernel_rfl) w1 w2 with ⟨e,_,_,F,R⟩|⟨A6,hn,KY⟩
 rw[show Wy K4 ⟨0,false⟩ [0] (OR ⟨#[55]⟩)=.A7 [Ao ot,AR 0]by kernel_rfl]at R;simp[AR]at R;exact absurd R.2.symm F.1;have J:=xK E U I Q (by decide) hr K z S (by decide) (by kernel_rfl) hn KY;rcases hn with ⟨h,_⟩|⟨_,nb,hb,rfl⟩
 exact absurd h (by decide);cases ANm.symm.trans hb;rw[hS,show K3 K4.f.params.Al (Ii K4 V5 bI [0] 5000) [XE ot 5000] 5000=true by kernel_rfl,if_pos rfl,if_pos rfl,show GZ K4.f.params.Al (Ii K4 V5 bI [0] 5000) [XE ot 5000] 5000=AEG by kernel_rfl]at J;simp only[V5,K4,AEG,X7,Am,Nd.vs,Nd.AG,Dd,Nd.row,AR,Ao,AA.row,AA.AG,AV,Cc,AP.vs,AP.row,O8,MG,Params.list,BG.row,Ap,BB]at q J M;refine en func10 ntmps10 ?_;exact wz results10 (cj3 q J M trivial)
theorem AAO (w d:Int)(J:L.length<=1000000)(E:1<=w)(F:w<=10000000)(G:0<=d)(I:d<w):AC AF 59 [XI (L.map El) w d] (.c (.bool (Gg L))):=by
 have B:=AFF L J;unfold XI;cases K:Gg L;all_goals
  rw[K]at B;refine en func59 ntmps59 ?_;exact wz (cj4 @E @F @G @I results59) (cj B<|trivial)
def c9 (L:List (Int×Int×Int))(w d:Int)(i j:Nat):V:=.A7 [.c (.int .i64 (if (IQ L (LU w d i) i j).2=true then(IQ L (LU w d i) i j).1 else 0)),.c (.bool (IQ L (LU w d i) i j).2)]
theorem ln (w d:Int)(i j:Nat)(J:i<j)(K:j<=L.length)(M:Gg L=true)(R:1<=w)(S:w<=10000000)(U:0<=d)(o:d<w):AC AF 61 [XI (L.map El) w d,.c (.int .i64 (i:Int)),.c (.int .i64 (j:Int))] (c9 L w d i j):=by
 have Q:AZ.wrap (w - d)=w - d:=Ac;have B:=AOh L (LU w d i) i j J K M (by unfold LU;split<;>omega) (by unfold LU;split<;>omega);unfold c9;unfold AAZ AR at B;unfold XI;have I:(LU w d i=w - d/\(0:Int)<(i:Int))\/(LU w d i=w/\¬(0:Int)<(i:Int)):=by unfold LU;split<;>omega
 obtain⟨W,F⟩:=AI (LU w d i);rw[F]at B I ⊢;obtain⟨⟨D,b⟩,E⟩:=AI (IQ L W i j);rw[E]at B ⊢;simp only at B ⊢;clear F E;rcases I with ⟨rfl,G⟩|⟨rfl,G⟩<;>cases b
 all_goals
  simp only[if_true,if_false,GW,reduceCtorEq]at B ⊢;refine en func61 ntmps61 ?_;exact wz (cj2 @G @Q results61) (cj B<|trivial)
theorem AAN (w d:Int):AC AF 60 [XI PR w d] (.fn 111 [.cp [.sl PR,.int .i64 w,.int .i64 d] 0]):=by
 unfold XI;refine en func60 ntmps60 ?_;with_reducible refine AW.seq ?_
 with_reducible refine AW.region ?_
 with_reducible refine If (by simp[BY];first|exact rfl|exact⟨rfl,rfl⟩) ?_
 with_reducible refine Kz ?_
 with_reducible refine G3 ?_
 refine Cn 0 ?_;refine Ah ?_;exact At results60
def EE (n:Nat):Nat->List (Nat×Nat)
 | 0=>[]
 | m+1=>EE n m++(fY (n - m) (m+1)).map λj=>(n - 1 - m,j)
theorem AGz (n m:Nat):∀k,∃r,EE n (m+k)=EE n m++r
 | 0=>⟨[],by simp⟩
 | k+1=>by
   obtain⟨r,h⟩:=AGz n m k;exact⟨_,by rw[<-mg,EE,h,GX]⟩
theorem ATI (n m:Nat):(EE n (m+1)).length=(EE n m).length+(m+1):=by
 rw[EE,Cp,Ch,AHh]
theorem ATH {n m c:Nat}(E:m<n)(B:c<m+1):(EE n n)[(EE n m).length+c]?=some (n - 1 - m,n - m+c):=by
 obtain⟨r,h⟩:=AGz n (m+1) (n - (m+1));rw[show m+1+(n - (m+1))=n by omega]at h;rw[h,EE,GX,Gy (by omega),Nat.add_sub_cancel_left,List.getElem?_append_left (by rw[Ch,AHh];exact B),CM,List.getElem?_range' B];simp
def UP (n k:Nat):Nat×Nat:=(EE n n).getD k (0,0)
def MD (y:Nat)(PR:List (List C))(w d:Int)(n:Nat)(i:Int)(j:V):List V:=[.yl y,.cp [.sl PR,.int .i64 w,.int .i64 d] 0,.any,.c (.int .i64 (n:Int)),.c (.int .i64 i),j]++Aq 21 .any
theorem AAM (w d:Int)(n:Nat)(z:PR.length=n)(S:n<=64):MS AF 111 [.cp [.sl PR,.int .i64 w,.int .i64 d] 0]
 (λ(pre:List Unit) (_:Unit)=>#[.int .i64 ((UP n pre.length).1:Int),.int .i64 ((UP n pre.length).2:Int)]) (λxs=>xs.length=(EE n n).length) (EE n n).length:=by
 have w1:AZ.wrap ((n:Int) - 1)=(n:Int) - 1:=Ac;refine MS.intro func111 rfl rfl λY=>?_
 simp only[ntmps111,BA,BO,Nat.reduceAdd,Nat.reduceSub,BY,Cy,BK,BU];refine ED (cj @z<|@w1) ?_;refine IW.loop (ι:={ m:Nat // m<=n }) (λm=>(⟨Aq (EE n m.1).length (),false⟩,⟨MD Y.l PR w d n ((n:Int) - 1 - (m.1:Int)) .any,[]⟩)) (λm=>n - m.1) ⟨0,CI _⟩ rfl ?_ ?_;refine G1.drop (by simp[DG,MD]) (by simp[V.BI,V.A8,MD]);rintro ⟨m,hm⟩;simp only[MD,BY,Cy,BK,BU];by_cases J:m<n;obtain⟨i,hi⟩:∃i:Nat,n=i+1+m:=⟨n - 1 - m,by omega⟩
 have R:(n:Int) - 1 - (m:Int)=(i:Int):=by omega
 rw[R];have F:(0:Int)<=(i:Int):=by omega
 have w2:AZ.wrap ((i:Int)+1)=((i+1:Nat):Int):=by rw[Ac];simp
 have K:=λ(c:Nat) (M:c<m+1)=>ATH J M
 have B:=ATI n m;generalize hq:(EE n m).length=q at K B ⊢;refine ED (cj @F<|@w2) ?_;refine IW.loop (ι:={ c:Nat // c<=m+1 }) (λc=>(⟨Aq (q+c.1) (),false⟩,⟨MD Y.l PR w d n (i:Int) (.c (.int .i64 ((i+1+c.1:Nat):Int))),[]⟩)) (λc=>m+1 - c.1) ⟨0,CI _⟩ rfl ?_ ?_;refine G1.drop (by simp[DG,MD]) (by simp[V.BI,V.A8,MD]);rintro ⟨c,M⟩;simp only[MD,BY,Cy,BK,BU];obtain⟨j,Q⟩:=AI (i+1+c);rw[Q];by_cases I:c<m+1;have E:(j:Int)<=(n:Int):=by omega
 have G:=K c I;rw[show n - 1 - m=i by omega,show n - m+c=j by omega]at G;have o:UP n (q+c)=(i,j):=by unfold UP;rw[Bv,G];rfl
 have U:=(Br.1 G).1;have hw:AZ.wrap ((j:Int)+1)=((j+1:Nat):Int):=by rw[Ac];simp
 refine ED @E ?_;refine IL.lu () (i1:=(i:Int)) (i2:=(j:Int)) rfl (by simp[BQ]) (by simp[ev]) (by simp[ev]) (by simp[ev]) (by rw[H6,o]) (by rw[H6];exact U) (by simp[V.BI,V.A8]) ?_ ?_;simp only[St.put,Ag,Ai];refine ED @hw ?_;refine⟨⟨c+1,by omega⟩,by simp only;omega,?_,?_⟩;simp[Sj,<-mg];exact G1.drop (by simp[DG,MD,<-Q];omega) (by simp[V.BI,V.A8,MD]);simp only[St.put,Ap,BB,V.VT,Ag,Ai];refine ED trivial ?_;exact⟨.inr rfl,λh=>nomatch h⟩;have E : ¬(j:Int)<=(n:Int):=by omega
 have w3:AZ.wrap ((i:Int) - 1)=(n:Int) - 1 - ((m+1:Nat):Int):=by rw[Ac];omega
 refine ED (cj @E<|@w3) ?_;refine⟨⟨m+1,by omega⟩,by simp only;omega,?_,?_⟩;simp only[B];rw[show c=m+1 by omega];exact G1.drop (by simp[DG,MD]) (by simp[V.BI,V.A8,MD]);have F : ¬(m:Int)<=(n:Int) - 1:=by omega
 refine ED @F ?_;exact⟨.inl rfl,λ_=>by rw[H6,show m=n by omega]⟩
def PQ (L:List (Int×Int×Int))(w d:Int)(A:List Int)(q:Nat×Nat):List Int:=
 if (IQ L (LU w d q.1) q.1 q.2).2=true then
  if q.2=q.1+1\/AZ.wrap ((IQ L (LU w d q.1) q.1 q.2).1+A.getD q.2 0)<A.getD q.1 0 then A.set q.1 (AZ.wrap ((IQ L (LU w d q.1) q.1 q.2).1+A.getD q.2 0))else A
 else A
def LH (L:List (Int×Int×Int))(w d:Int)(k:Nat):List Int:=((EE L.length L.length).take k).foldl (PQ L w d) (Aq (L.length+1) 0)
theorem AUp (w d:Int)(A:List Int)(q:Nat×Nat):(PQ L w d A q).length=A.length:=by
 unfold PQ;split;split;rw[List.length_set];rfl;rfl
theorem ABS (L:List (Int×Int×Int))(w d:Int):∀(l:List (Nat×Nat)) (A:List Int),(l.foldl (PQ L w d) A).length=A.length
 | [],A=>rfl
 | q::l,A=>by rw[Bw,ABS L w d l,AUp]
theorem ATL (w d:Int)(k:Nat):(LH L w d k).length=L.length+1:=by
 unfold LH;rw[ABS,H6]
theorem ATM {L:List (Int×Int×Int)}{w d:Int}{k:Nat}{q:Nat×Nat}(h:(EE L.length L.length)[k]?=some q):LH L w d (k+1)=PQ L w d (LH L w d k) q:=by
 unfold LH;rw[UC,h,uN];rfl
theorem uu {n:Nat} : ∀m,m<=n->∀q∈EE n m,q.1<q.2/\q.2<=n
 | 0,_,q,h=>by cases h
 | m+1,E,q,h=>by
   rw[EE]at h;rcases List.mem_append.1 h with h|h
   exact uu m (by omega) q h;obtain⟨j,B,rfl⟩:=Da.1 h;rw[tp]at B;simp only;omega
theorem AKk (w d:Int)(hv:Gg L=true)(h1:1<=w)(h2:w<=10000000)(h3:0<=d)(h4:d<w):AC AF 25 [.c (.sl (L.map El)),.c (.int .i64 w),.c (.int .i64 d)] (.A7 [.c (AV (LH L w d (EE L.length L.length).length)),AR 0]):=by
 have FQ:=hv;unfold Gg at FQ;simp only[Ak,decide_eq_true_eq]at FQ;have hp:=AAO L w d (by omega) h1 h2 h3 h4;rw[hv]at hp;have hL:=AAN (L.map El) w d;have z:=λ(i j:Nat) (Is:i<j) (hj:j<=L.length)=>ln L w d i j Is hj hv h1 h2 h3 h4
 have B:=λ(k:Nat) (q:Nat×Nat) (h:(EE L.length L.length)[k]?=some q)=>ATM (w:=w) (d:=d) h
 have Q:=uu (n:=L.length) L.length (BN _);have F:=ATL L w d;obtain⟨PR,EO⟩:=AI (L.map El);have Ed:PR.length=L.length:=by rw[<-EO,Ch]
 rw[EO]at hp hL z ⊢;have hI:=AAM PR w d L.length Ed FQ.2.1;obtain⟨n,hn⟩:=AI L.length;obtain⟨K,Gr⟩:=AI (LH L w d);have hz:K 0=Aq (n+1) 0:=by rw[<-Gr];unfold LH;rw[hn];rfl
 rw[hn]at Ed hI z B Q F ⊢;simp only[Gr]at B F ⊢;obtain⟨G,hG⟩:=AI (EE n n);have hQ : ∀k,UP n k=G.getD k (0,0):=λk=>by unfold UP;rw[hG]
 simp only[hQ]at hI;rw[hG]at hI B Q ⊢;have rM : ∀k,k<G.length->(I9 .i64 ((G.getD k (0,0)).1:Int)).wf=true/\(I9 .i64 ((G.getD k (0,0)).2:Int)).wf=true:=λk hk=>by
  have hm:G.getD k (0,0)∈G:=by rw[Bv,BE hk];exact Kq _
  have:=Q _ hm;exact⟨Q7 (by omega) (by omega),Q7 (by omega) (by omega)⟩
 have w0:AZ.wrap ((n:Int)+1)=((n+1:Nat):Int):=by rw[Ac];simp
 have q1:8*((n+1:Nat):Int)<=281474976710656:=by omega
 have q2:((n+1:Nat):Int)<=9223372036854775807:=by omega
 unfold XI AR at *
 refine en func25 ntmps25 ?_;refine wy (cj4 @Ed @w0 @q1 @q2 Yc) (cj2 hp hL trivial) ⟨?_⟩;have F7:V.c (.int .i64 0)::Aq n (V.c (.int .i64 0))=CK (K 0):=by rw[hz];simp[CK,BY]
 rw[F7];refine AW.sW (α:=Unit) rfl rfl rfl rfl rfl rfl (by decide) (by decide) (caps:=[.cp [.sl PR,.int .i64 w,.int .i64 d] 0]) (by simp[ev]) rfl func111 (by kernel_rfl) (by kernel_rfl) (λpre _=>.int .i64 ((G.getD pre.length (0,0)).1:Int)) (λpre _=>.int .i64 ((G.getD pre.length (0,0)).2:Int)) (λpre _=>.c (.int .i64 ((G.getD pre.length (0,0)).1:Int))) (λpre _=>.c (.int .i64 ((G.getD pre.length (0,0)).2:Int))) G.length
  (λ_ _ pre _ h=>by simp only[CV,Ab];exact⟨trivial,(rM _ h).1⟩) (λ_ _ pre _ h=>by simp only[CV,Ab];exact⟨trivial,(rM _ h).2⟩) _ hI (λ_=>True) (λ_=>False) trivial
  (λpre=>[O.box 109 [.c (.sl PR),.c (.int .i64 w),.c (.int .i64 d)] false,O.box 3 (CK (K pre.length)) false,O.box 39 [.own 1 0 (n+1) 1] false]) (λ_=>[]) rfl 3 (λ_=>rfl) (by simp) (by simp) ?_ ?_ (λ_ h=>h.elim)
 rintro lp pre ⟨⟩ hN _;obtain⟨k,hk⟩:=AI pre.length;simp only[VQ,Ag,Ai,Cp,BA,BO,Cz,hk]at hN ⊢;clear hk pre;obtain⟨⟨i,j⟩,hq⟩:∃q,G[k]?=some q:=⟨_,BE hN⟩
 have YY:G.getD k (0,0)=(i,j):=by rw[Bv,hq];rfl
 obtain⟨Is,GN⟩:=Q _ (Cj hq);simp only at Is GN;rw[B k _ hq,YY];have I:=z i j Is GN;have M:=F k;obtain⟨A,hA⟩:=AI (K k);rw[hA]at M ⊢;obtain⟨a,ha⟩:∃a,A[i]?=some a:=⟨_,BE (by omega)⟩
 obtain⟨c,XX⟩:∃c,A[j]?=some c:=⟨_,BE (by omega)⟩
 unfold c9 at I;unfold PQ;simp only;obtain⟨⟨D,b⟩,hD⟩:=AI (IQ L (LU w d i) i j);have ea:A.getD i 0=a:=by rw[Bv,ha];rfl
 have ec:A.getD j 0=c:=by rw[Bv,XX];rfl
 rw[hD]at I ⊢;rw[ea,ec];simp only at I ⊢;obtain⟨E,hE⟩:=AI (AZ.wrap (D+c));rw[hE];have U:(CK A)[j]?=some (.c (.int .i64 c)):=by rw[CK,CM,XX];rfl
 have r2:(CK A)[i]?=some (.c (.int .i64 a)):=by rw[CK,CM,ha];rfl
 have o:(CK A).set i (.c (.int .i64 E))=CK (A.set i E):=by rw[CK,CK,List.map_set]
 have Mz:=gx U;have Pg:=gx r2;have f1:j<n+1:=by omega
 have f2:i<n+1:=by omega
 have J:(CK A).length=n+1:=by rw[Ts,M]
 have hw:AZ.wrap ((i:Int)+1)=(i:Int)+1:=Ac;clear hA ea ec ha XX hD hq YY B Q rM z hQ Gr;obtain⟨PA,eP⟩:=AI (CK A);have R : ∀m,V.BI m PA=true:=λm=>by rw[<-eP];exact AcU m A
 rw[eP]at U r2 Mz Pg o J ⊢;cases b with
 | false=>simp only[GW,if_false]at I ⊢;rw[eP];refine wy Yc (cj I<|trivial) ⟨?_⟩;exact .inl ⟨rfl,trivial,_,wd 3 (hs:=Q0 _) (hh:=rfl) (hb:=P5 3 _) (ho:=by simp[O.A8,V.BI,V.A8,R])⟩
 | true =>
   simp only[if_true]at I ⊢;by_cases e1:j=i+1;have e2:(j:Int)=(i:Int)+1↔True:=⟨λ_=>trivial,λ_=>by omega⟩
   rw[if_pos (.inl e1),<-o];clear e1;refine wy (cj8 @f1 @f2 @U @Mz @J @hE @hw @e2 Yc) (cj I<|trivial) ⟨?_⟩;exact .inl ⟨rfl,trivial,_,wd 3 (hs:=Q0 _) (hh:=rfl) (hb:=P5 3 _) (ho:=by simp[O.A8,V.BI,V.A8,o])⟩;have e2 : ¬(j:Int)=(i:Int)+1:=by omega
   by_cases e3:E<a;rw[if_pos (.inr e3),<-o];refine wy (cj9 @f1 @f2 @U @Mz @r2 @Pg @J @hE @hw<|cj2 @e2 @e3 Yc) (cj I<|trivial) ⟨?_⟩;exact .inl ⟨rfl,trivial,_,wd 3 (hs:=Q0 _) (hh:=rfl) (hb:=P5 3 _) (ho:=by simp[O.A8,V.BI,V.A8,o])⟩;rw[if_neg (λh=>h.elim e1 e3),eP];refine wy (cj9 @f1 @f2 @U @Mz @r2 @Pg @J @hE @hw<|cj2 @e2 @e3 Yc) (cj I<|trivial) ⟨?_⟩;exact .inl ⟨rfl,trivial,_,wd 3 (hs:=Q0 _) (hh:=rfl) (hb:=P5 3 _) (ho:=by simp[O.A8,V.BI,V.A8,R])⟩
 rintro xs hS _;simp only[hS];have M:=F G.length;generalize hA:K G.length=A at M ⊢;have S:Hc 1 (n+1) (A.map (C.int .i64))=A.map λn=>[C.int .i64 n]:=by have:=Zl A [];rw[List.append_nil,M]at this;exact this
 refine wu (.mk 13) Yc trivial ⟨?_⟩;simp only[Ai,Ag];refine AW.Bi 1 rfl (XK _) (by simp only[V.Cs,V.Bi,B9,S,if_true];exact rfl) (by simp only[Ai,Ag,Ap,BB,O.Bi,Zm,V.Cs,V.Bi,B9,S,if_true];exact rfl) ?_;rw[show C.sl (A.map λn=>[C.int .i64 n])=AV A from rfl];exact wz Yc trivial
theorem AKl (w d:Int)(A:List Int)(hv:Gg L=true)(h1:1<=w)(h2:w<=10000000)(h3:0<=d)(h4:d<w)(KV:A.length=L.length+1)(Gr:A[L.length]?=some 0)(hb : ∀a∈A,-1099511627776<=a/\a<=1099511627776)(hs : ∀i j,i<j->j<=L.length->(IQ L (LU w d i) i j).2=true->A.getD i 0<=AZ.wrap ((IQ L (LU w d i) i j).1+A.getD j 0)):AC AF 62 [XI (L.map El) w d,.c (AV A)] (.c (.bool true)):=by
 have J:=hv;unfold Gg at J;simp only[Ak,decide_eq_true_eq]at J;have hL:=AAN (L.map El) w d;have z:=λ(i j:Nat) (Is:i<j) (hj:j<=L.length)=>ln L w d i j Is hj hv h1 h2 h3 h4
 have M:=uu (n:=L.length) L.length (BN _);obtain⟨PR,EO⟩:=AI (L.map El);have Ed:PR.length=L.length:=by rw[<-EO,Ch]
 rw[EO]at hL z ⊢;have Q:=AAM PR w d L.length Ed J.2.1;generalize hn:L.length=n at Ed Q z M KV Gr hs J;obtain⟨G,hG⟩:=AI (EE n n);have hQ : ∀k,UP n k=G.getD k (0,0):=λk=>by unfold UP;rw[hG]
 simp only[hQ]at Q;rw[hG]at Q M;have rM : ∀k,k<G.length->(I9 .i64 ((G.getD k (0,0)).1:Int)).wf=true/\(I9 .i64 ((G.getD k (0,0)).2:Int)).wf=true:=λk hk=>by
  have hm:G.getD k (0,0)∈G:=by rw[Bv,BE hk];exact Kq _
  have:=M _ hm;exact⟨Q7 (by omega) (by omega),Q7 (by omega) (by omega)⟩
 have w0:AZ.wrap ((n:Int)+1)=((n+1:Nat):Int):=by rw[Ac];simp
 unfold XI at *
 unfold AV;have F : ∀(i:Nat) (a:Int),A[i]?=some a->(A.map λn=>[C.int .i64 n])[i]?=some [.int .i64 a]:=λi a h=>by rw[CM,h];rfl
 have K:(A.map λn=>[C.int .i64 n]).length=n+1:=by rw[Ch,KV]
 obtain⟨R,hR⟩:=AI ((A.map λn=>[C.int .i64 n]));rw[hR]at F K ⊢;have hz:=F n 0 Gr;have F7:=gx hz;have dC:n<n+1:=by omega
 refine en func62 ntmps62 ?_;refine wy (cj6 @Ed @w0 @K @hz @F7 @dC c8) trivial ⟨?_⟩;refine lp (ι:={ k:Nat // k<=n+1 }) (λk=>[(29,.c (.int .i64 (k.1:Int)))]) (λ_=>[O.box 109 [.c (.sl PR),.c (.int .i64 w),.c (.int .i64 d)] false,O.box 39 [.c (.sl R)] false,O.box 4 [.c (.bool false)] false]) (λk=>n+1 - k.1) ⟨0,CI _⟩ ?_ ?_;all_goals simp only[puts,Bw,CO,Ag,Ai]
 exact DH;rintro ⟨k,hk⟩;simp only;by_cases S:k<n+1;obtain⟨a,I⟩:∃a,A[k]?=some a:=⟨_,BE (by omega)⟩
 have A0:=hb a (Cj I);have U:=F k a I;have Mz:=gx U;have q1 : ¬a < -1099511627776:=by omega
 have q2 : ¬(1099511627776:Int)<a:=by omega
 have q3:k<R.length:=by omega
 have hw:AZ.wrap ((k:Int)+1)=((k+1:Nat):Int):=by rw[Ac];simp
 refine wy (cj8 @K @S @U @Mz @q1 @q2 @q3 @hw c8) trivial ⟨?_⟩;exact⟨⟨k+1,by omega⟩,by simp only;omega,wd 3⟩;obtain rfl:k=n+1:=by omega
 refine wy (cj2 @K @S c8) (cj hL<|trivial) ⟨?_⟩;refine AW.sW (α:=Unit) rfl rfl rfl rfl rfl rfl (by decide) (by decide) (caps:=[.cp [.sl PR,.int .i64 w,.int .i64 d] 0]) (by simp[ev]) rfl func111 (by kernel_rfl) (by kernel_rfl) (λpre _=>.int .i64 ((G.getD pre.length (0,0)).1:Int)) (λpre _=>.int .i64 ((G.getD pre.length (0,0)).2:Int)) (λpre _=>.c (.int .i64 ((G.getD pre.length (0,0)).1:Int))) (λpre _=>.c (.int .i64 ((G.getD pre.length (0,0)).2:Int))) G.length
  (λ_ _ pre _ h=>by simp only[CV,Ab];exact⟨trivial,(rM _ h).1⟩) (λ_ _ pre _ h=>by simp only[CV,Ab];exact⟨trivial,(rM _ h).2⟩) _ Q (λ_=>True) (λ_=>False) trivial
  (λ_=>[O.box 109 [.c (.sl PR),.c (.int .i64 w),.c (.int .i64 d)] false,O.box 39 [.c (.sl R)] false,O.box 4 [.c (.bool false)] false]) (λ_=>[]) rfl 3 (λ_=>rfl) (by simp) (by simp) ?_ ?_ (λ_ h=>h.elim)
 rintro lp pre ⟨⟩ hN _;obtain⟨k,Hh⟩:=AI pre.length;simp only[VQ,Ag,Ai,Cp,BA,BO,Cz,Hh]at hN ⊢;obtain⟨⟨i,j⟩,hq⟩:∃q,G[k]?=some q:=⟨_,BE hN⟩
 have YY:G.getD k (0,0)=(i,j):=by rw[Bv,hq];rfl
 have hm:=M _ (Cj hq);simp only at hm;obtain⟨Is,hj⟩:=hm;rw[YY];simp only;have B:=z i j Is hj;have o:=hs i j Is hj;obtain⟨a,I⟩:∃a,A[i]?=some a:=⟨_,BE (by omega)⟩
 obtain⟨c,XX⟩:∃c,A[j]?=some c:=⟨_,BE (by omega)⟩
 unfold c9 at B;obtain⟨⟨D,b⟩,hD⟩:=AI (IQ L (LU w d i) i j);rw[hD,Bv,Bv,I,XX]at o;rw[hD]at B;simp only[Dm]at B o;obtain⟨E,hE⟩:=AI (AZ.wrap (D+c));rw[hE]at o;have U:=F j c XX;have r2:=F i a I;have Mz:=gx U;have Pg:=gx r2;have f1:j<n+1:=by omega
 have f2:i<n+1:=by omega
 clear rM Q M hs hb z F YY hq J hz F7 hD I XX Gr hQ hG EO;cases b with
 | false=>simp only[GW,if_false]at B;refine wy c8 (cj B<|trivial) ⟨?_⟩;exact .inl ⟨rfl,trivial,_,wd 3 (hs:=Q0 _) (hb:=P5 3 _)⟩
 | true =>
   have e3 : ¬E<a:=by have:=o rfl;omega
   simp only[if_true]at B;refine wy (cj9 @f1 @f2 @U @Mz @r2 @Pg @K @hE @e3 c8) (cj B<|trivial) ⟨?_⟩;exact .inl ⟨rfl,trivial,_,wd 3 (hs:=Q0 _) (hb:=P5 3 _)⟩
 rintro xs _ _;exact wz c8 trivial
theorem AKq (w d:Int)(A:List Int)(S:List Nat)(hv:Gg L=true)(h1:1<=w)(h2:w<=10000000)(h3:0<=d)(h4:d<w)(KV:A.length=L.length+1)(cN:S[0]?=some 0)(PF:S.length<=1000000)(hs : ∀k a,S[k]?=some a->a<S.getD (k+1) L.length/\S.getD (k+1) L.length<=L.length/\(IQ L (LU w d a) a (S.getD (k+1) L.length)).2=true/\A.getD a 0=AZ.wrap ((IQ L (LU w d a) a (S.getD (k+1) L.length)).1+A.getD (S.getD (k+1) L.length) 0)):AC AF 63 [XI (L.map El) w d,.c (AV (S.map λ(n:Nat)=>(n:Int))),.c (AV A)] (.c (.bool true)):=by
 have J:=hv;unfold Gg at J;simp only[Ak,decide_eq_true_eq]at J;have K:=λ(i j:Nat) (Is:i<j) (hj:j<=L.length)=>ln L w d i j Is hj hv h1 h2 h3 h4
 obtain⟨PR,EO⟩:=AI (L.map El);have Ed:PR.length=L.length:=by rw[<-EO,Ch]
 rw[EO]at K ⊢;generalize hn:L.length=n at Ed K KV hs J;unfold XI at *
 unfold AV;have I : ∀(i:Nat) (a:Int),A[i]?=some a->(A.map λn=>[C.int .i64 n])[i]?=some [.int .i64 a]:=λi a h=>by rw[CM,h];rfl
 have Md:(A.map λn=>[C.int .i64 n]).length=n+1:=by rw[Ch,KV]
 obtain⟨R,hR⟩:=AI ((A.map λn=>[C.int .i64 n]));have F : ∀(i a:Nat),S[i]?=some a->((S.map λ(n:Nat)=>(n:Int)).map λn=>[C.int .i64 n])[i]?=some [.int .i64 (a:Int)]:=λi a h=>by rw[CM,CM,h];rfl
 have E:((S.map λ(n:Nat)=>(n:Int)).map λn=>[C.int .i64 n]).length=S.length:=by rw[Ch,Ch]
 obtain⟨T,hT⟩:=AI (((S.map λ(n:Nat)=>(n:Int)).map λn=>[C.int .i64 n]));rw[hR]at I Md ⊢;rw[hT]at F E ⊢;obtain⟨m,hm⟩:=AI S.length;rw[hm]at E PF;have hz:=F 0 0 cN;have F7:=gx hz;have zV:0<m:=by rw[<-hm];exact(Br.1 cN).1
 have Ew : ¬(m:Int)=0:=by omega
 refine en func63 ntmps63 ?_;refine wy (cj6 @Ed @E @hz @F7 @zV @Ew ki) trivial ⟨?_⟩;refine lp (ι:={ k:Nat // k<=m }) (λk=>[(27,.c (.int .i64 (k.1:Int)))]) (λ_=>[O.box 109 [.c (.sl PR),.c (.int .i64 w),.c (.int .i64 d)] false]) (λk=>m - k.1) ⟨0,CI _⟩ ?_ ?_;all_goals simp only[puts,Bw,CO,Ag,Ai]
 exact DH;rintro ⟨k,hk⟩;simp only;by_cases B:k<m;obtain⟨a,ha⟩:∃a,S[k]?=some a:=⟨_,BE (by omega)⟩
 obtain⟨p1,p2,p3,G⟩:=hs k a ha;have o:S.getD (k+1) n=if k+1<m then S.getD (k+1) n else n:=by
  split;rfl;rw[Bv,List.getElem?_eq_none (by omega)];rfl
 have q : ∀(h:k+1<m),S[k+1]?=some (S.getD (k+1) n):=λh=>by rw[Bv,BE (by omega)];rfl
 generalize hb:S.getD (k+1) n=b at p1 p2 p3 G o q;have Q:=K a b p1 p2;obtain⟨x,hx⟩:∃x,A[a]?=some x:=⟨_,BE (by omega)⟩
 obtain⟨y,hy⟩:∃y,A[b]?=some y:=⟨_,BE (by omega)⟩
 unfold c9 at Q;obtain⟨⟨D,z⟩,M⟩:=AI (IQ L (LU w d a) a b);rw[M]at p3;simp only at p3;subst p3;rw[M,Bv,Bv,hx,hy]at G;simp only[Dm]at G;rw[M]at Q;simp only[if_true]at Q;have e1:AZ.wrap (D+y)=x:=G.symm;have t1:=F k a ha;have U:=gx t1;have r1:=I a x hx;have r2:=I b y hy;have Mz:=gx r1;have Pg:=gx r2;have f1:a<n+1:=by omega
 have f2:b<n+1:=by omega
 have q1 : ¬(n:Int)<=(a:Int):=by omega
 have q2 : ¬(b:Int)<=(a:Int):=by omega
 have q3 : ¬(n:Int)<(b:Int):=by omega
 have hw:AZ.wrap ((k:Int)+1)=((k+1:Nat):Int):=by rw[Ac];simp
 by_cases hl:k+1<m;have t2:=F (k+1) b (q hl);have A0:=gx t2;have q4:((k+1:Nat):Int)<(m:Int):=by omega
 clear hs K I F hz F7 q o G M hx hy J;refine wy (cj9 @E @B @hl @t1 @U @t2 @A0 @q1 @q2<|cj9 @q3 @q4 @f1 @f2 @r1 @Mz @r2 @Pg @Md<|cj2 @e1 @hw ki) (cj Q<|trivial) ⟨?_⟩;exact⟨⟨k+1,by omega⟩,by simp only;omega,wd 1⟩;have q4 : ¬((k+1:Nat):Int)<(m:Int):=by omega
 rw[if_neg hl]at o;subst o;clear hs K I F hz F7 q G M hx hy J;refine wy (cj9 @E @B @hl @t1 @U @q1 @q2 @q3 @q4<|cj9 @f1 @f2 @r1 @Mz @r2 @Pg @Md @e1 @hw ki) (cj Q<|trivial) ⟨?_⟩;exact⟨⟨k+1,by omega⟩,by simp only;omega,wd 1⟩;obtain rfl:k=m:=by omega
 exact wz (cj2 @E @B ki) trivial
theorem AKE (w d:Int)(A:List Int)(S:List Nat)(B:Gg L=true)(F:1<=w)(G:w<=10000000)(I:0<=d)(J:d<w)(hs:AC AF 62 [XI (L.map El) w d,.c (AV A)] (.c (.bool true)))(K:AC AF 63 [XI (L.map El) w d,.c (AV (S.map λ(n:Nat)=>(n:Int))),.c (AV A)] (.c (.bool true))):AC AF 26 [.c (.sl (L.map El)),.c (.int .i64 w),.c (.int .i64 d),.c (AV (S.map λ(n:Nat)=>(n:Int))),.c (AV A)] (.c (.bool true)):=by
 have E:=AAO L w d (by unfold Gg at B;simp only[Ak,decide_eq_true_eq]at B;omega) F G I J;rw[B]at E;unfold XI at *
 unfold AV at *
 refine en func26 ntmps26 ?_;exact wz results26 (cj3 E hs K trivial)
theorem z9 (b c:Tl)(n:Int)(hb:b.there=true)(B:c.there=true):(YB b c n).there=true/\(YB b c n).RZ=if c.RZ<b.RZ then c.RZ else b.RZ:=by
 unfold YB;rw[if_neg (by rw[hb];decide)];by_cases F:b.RZ<c.RZ;rw[if_pos (.inr F),if_neg (by omega)];exact⟨hb,rfl⟩;rw[if_neg (λh=>h.elim (λh=>by rw[B]at h;cases h) F)];by_cases E:c.RZ<b.RZ;rw[if_pos (.inl E),if_pos E];exact⟨B,rfl⟩;have e:c.RZ=b.RZ:=by omega
 rw[if_neg E];split;exact⟨B,e⟩;split;exact⟨hb,rfl⟩;exact⟨B,e⟩
def Mm (L:List (Int×Int×Int))(w:Int)(i c:Nat):List (Nat×Int):=(fY (i+1) c).filterMap λj=>if (IQ L w i j).2 then some (j,(IQ L w i j).1)else none
theorem AGo (w:Int)(i c:Nat):Mm L w i (c+1)=Mm L w i c++if (IQ L w i (i+1+c)).2 then [(i+1+c,(IQ L w i (i+1+c)).1)]else []:=by
 unfold Mm;rw[AMI,List.filterMap_append,gE];congr 1
 by_cases h:(IQ L w i (i+1+c)).2=true;simp[h];simp[h]
theorem AG2 (L:List (Int×Int×Int))(w d:Int)(T:Nat->Tl)(n i:Nat)(A:List Int)(J:i<A.length):∀c,(∀j,i<j->j<=i+(c+1)->A.getD j 0=(T j).RZ/\(T j).there=true)->
 ((Mm L (LU w d i) i (c+1)).foldl (N6 T n) Tl.zero).there=true/\((fY (i+1) (c+1)).map λj=>(i,j)).foldl (PQ L w d) A=A.set i ((Mm L (LU w d i) i (c+1)).foldl (N6 T n) Tl.zero).RZ
 | 0,h=>by
   obtain⟨B,E⟩:=h (i+1) (by omega) (by omega);have K:=AUF L (LU w d i) i;have e:Mm L (LU w d i) i (0+1)=[(i+1,(IQ L (LU w d i) i (i+1)).1)]:=by
    rw[AGo,M8,K];rfl
   rw[e];simp only[Bw,CO,N6,E,if_true,YB,Tl.zero,List.range'_succ,List.range'_zero,Ap,BB,Cz,PQ,K,true_or,B,and_self]
 | c+1,h=>by
   obtain⟨I,S⟩:=AG2 L w d T n i A J c λj R U=>h j R (by omega)
   obtain⟨B,E⟩:=h (i+1+(c+1)) (by omega) (by omega);rw[AGo,AMI,gE,List.map_append,uN,uN,S];generalize o:(Mm L (LU w d i) i (c+1)).foldl (N6 T n) Tl.zero=b at I ⊢;generalize q:i+1+(c+1)=j at B E ⊢;simp only[Ap,BB,Bw,CO,PQ];have M:(A.set i b.RZ).getD j 0=(T j).RZ:=by rw[Bv,List.getElem?_set_ne (by omega),<-Bv,B]
   have Q:(A.set i b.RZ).getD i 0=b.RZ:=by rw[Bv,List.getElem?_set_self J];rfl
   rw[M,Q];by_cases G:(IQ L (LU w d i) i j).2=true;rw[if_pos G,if_pos G];simp only[Bw,CO,N6,E,if_true];obtain⟨q1,q2⟩:=z9 b ⟨true,AZ.wrap ((IQ L (LU w d i) i j).1+(T j).RZ),(j:Int)⟩ (n:Int) I rfl;refine⟨q1,?_⟩;rw[q2];simp only;by_cases F:AZ.wrap ((IQ L (LU w d i) i j).1+(T j).RZ)<b.RZ;rw[if_pos (.inr F),if_pos F,List.set_set];rw[if_neg (λh=>h.elim (λe=>by omega) F),if_neg F];rw[if_neg G,if_neg G];exact⟨I,rfl⟩
theorem AG3 (L:List (Int×Int×Int))(w d:Int):∀m,m<=L.length->(EE L.length m).foldl (PQ L w d) (Aq (L.length+1) 0)=Aq (L.length - m) 0++(HV L w d m).map Tl.RZ
 | 0,_=>by simp[EE,HV,Sj]
 | m+1,U=>by
   have K:=AG3 L w d m (by omega);obtain⟨i,F⟩:=AI (L.length - (m+1));have S:=fN L w d m;have B:L.length - m=i+1:=by omega
   rw[EE,uN,K,B,show L.length - 1 - m=i by omega,F];have I:=fO L w d m (by omega);have M : ∀j,i<j->j<=i+(m+1)->(Aq (i+1) (0:Int)++(HV L w d m).map Tl.RZ).getD j 0=((HV L w d m).getD (j - (i+1)) Tl.zero).RZ/\((HV L w d m).getD (j - (i+1)) Tl.zero).there=true:=by
    intro j R E;obtain⟨t,G⟩:∃t,(HV L w d m)[j - (i+1)]?=some t:=⟨_,BE (by omega)⟩
    rw[Bv,Gy (by rw[H6];omega),H6,CM,Bv,G];exact⟨rfl,(I _ t G).1⟩
   obtain⟨_,E⟩:=AG2 L w d (λj=>(HV L w d m).getD (j - (i+1)) Tl.zero) L.length i (Aq (i+1) (0:Int)++(HV L w d m).map Tl.RZ) (by rw[Cp,H6];omega) m M;rw[E,HV,Ap];have J:TF L (if 0<L.length - (m+1)then w - d else w) (λj=>(HV L w d m).getD (j - (L.length - m)) Tl.zero) (L.length - (m+1))=(Mm L (LU w d i) i (m+1)).foldl (N6 (λj=>(HV L w d m).getD (j - (i+1)) Tl.zero) L.length) Tl.zero:=by
    unfold TF Nb Mm;rw[F,B,show L.length - i=m+1 by omega];rfl
   rw[J,Sj,GX];obtain⟨x,Q⟩:=AI (((Mm L (LU w d i) i (m+1)).foldl (N6 (λj=>(HV L w d m).getD (j - (i+1)) Tl.zero) L.length) Tl.zero).RZ);rw[Q,List.set_append_right _ _ (by rw[H6];omega),H6,La];rfl
theorem ATK (w d:Int):LH L w d (EE L.length L.length).length=(HV L w d L.length).map Tl.RZ:=by
 unfold LH;rw[List.take_length,AG3 L w d L.length (BN _),La];rfl
theorem mD (T:Nat->Tl)(n:Nat):∀(l:List (Nat×Int)) (b:Tl),(∀q∈l,(T q.1).there=true)->
 (b.there=true->(l.foldl (N6 T n) b).there=true/\(l.foldl (N6 T n) b).RZ<=b.RZ)/\(∀q∈l,(l.foldl (N6 T n) b).there=true/\(l.foldl (N6 T n) b).RZ<=AZ.wrap (q.2+(T q.1).RZ))/\(l.foldl (N6 T n) b=b\/∃q∈l,l.foldl (N6 T n) b=⟨true,AZ.wrap (q.2+(T q.1).RZ),(q.1:Int)⟩)
 | [],b,_=>⟨λh=>⟨h,IV _⟩,λq J=>(by cases J),.inl rfl⟩
 | q::l,b,M=>by
   have J:=M q (by simp);obtain⟨c,E⟩:∃c:Tl,(⟨true,AZ.wrap (q.2+(T q.1).RZ),(q.1:Int)⟩:Tl)=c:=⟨_,rfl⟩
   have K:c.there=true:=by rw[<-E]
   have yu:c.RZ=AZ.wrap (q.2+(T q.1).RZ):=by rw[<-E]
   have z:N6 T n b q=YB b c (n:Int):=by unfold N6;rw[if_pos J,E]
   rw[Bw,z];obtain⟨r1,r2,r3⟩:=mD T n l (YB b c (n:Int)) λr B=>M r (by simp[B])
   have I:(YB b c (n:Int)).there=true/\(YB b c (n:Int)).RZ<=c.RZ/\(b.there=true->(YB b c (n:Int)).RZ<=b.RZ):=by
    by_cases G:b.there=true;obtain⟨U,o⟩:=z9 b c n G K;rw[o];refine⟨U,?_,λ_=>?_⟩<;>split<;>omega;have e:YB b c (n:Int)=c:=by unfold YB;rw[if_pos (by simpa using G)]
    rw[e];exact⟨K,IV _,λh=>absurd h G⟩
   obtain⟨R,b2,S⟩:=I;obtain⟨Q,k2⟩:=r1 R;refine⟨λh=>⟨Q,by have:=S h;omega⟩,λr B=>?_,?_⟩;rcases Cf.1 B with rfl|B
   exact⟨Q,by omega⟩;exact r2 r B;rcases r3 with e|⟨r,B,e⟩
   rcases AEK b c (n:Int)with ⟨F,_⟩|F
   exact .inl (by rw[e,F]);exact .inr ⟨q,by simp,by rw[e,F,E]⟩;exact .inr ⟨r,by simp[B],e⟩
theorem AHd (L:List (Int×Int×Int))(w d:Int)(m:Nat):∀k,(HV L w d (k+m)).drop k=HV L w d m
 | 0=>by rw[Cz];rfl
 | k+1=>by
   rw[show k+1+m=(k+m)+1 by omega,HV,List.drop_succ_cons];exact AHd L w d m k
theorem yy (w d:Int)(j:Nat)(B:i<=L.length):(HV L w d L.length)[i+j]?=(HV L w d (L.length - i))[j]?:=by
 rw[<-AHd L w d (L.length - i) i,List.getElem?_drop,show i+(L.length - i)=L.length by omega]
theorem AHb (w d:Int)(F:i<L.length):(HV L w d L.length).getD i Tl.zero=(Nb L (LU w d i) i).foldl (N6 (λj=>(HV L w d L.length).getD j Tl.zero) L.length) Tl.zero:=by
 obtain⟨m,G⟩:∃m,L.length - i=m+1:=⟨L.length - i - 1,by omega⟩
 have B:=yy L w d 0 (Nat.le_of_lt F);rw[G,M8,HV,LX]at B;rw[Bv,B,Dm,show L.length - (m+1)=i by omega];unfold TF;refine AFR _ _ λq I=>?_
 obtain⟨q1,q2⟩:=AAY L _ i q I;have E:=yy L w d (i:=i+1) (q.1 - (i+1)) (by omega);rw[show i+1+(q.1 - (i+1))=q.1 by omega,show L.length - (i+1)=m by omega]at E;rw[Bv,Bv,E,show L.length - m=i+1 by omega]
theorem yb (w d:Int)(E:i<=L.length):((HV L w d L.length).getD i Tl.zero).there=true:=by
 have F:=fN L w d L.length;obtain⟨t,B⟩:∃t,(HV L w d L.length)[i]?=some t:=⟨_,BE (by omega)⟩
 rw[Bv,B];exact(fO L w d L.length (BN _) i t B).1
theorem eC (w d:Int)(E:i<=L.length):((HV L w d L.length).map Tl.RZ).getD i 0=((HV L w d L.length).getD i Tl.zero).RZ:=by
 have F:=fN L w d L.length;obtain⟨t,B⟩:∃t,(HV L w d L.length)[i]?=some t:=⟨_,BE (by omega)⟩
 rw[Bv,Bv,CM,B];rfl
theorem AXR (w d:Int){i j:Nat}(F:i<j)(B:j<=L.length)(h:(IQ L (LU w d i) i j).2=true):((HV L w d L.length).map Tl.RZ).getD i 0<=AZ.wrap ((IQ L (LU w d i) i j).1+((HV L w d L.length).map Tl.RZ).getD j 0):=by
 rw[eC L w d (by omega),eC L w d B,AHb L w d (by omega)];refine((mD _ L.length (Nb L (LU w d i) i) Tl.zero λq E=>yb L w d (AAY L _ i q E).2).2.1 (j,(IQ L (LU w d i) i j).1) ?_).2;unfold Nb;rw[mX];exact⟨j,by rw[tp];omega,by rw[if_pos h]⟩
theorem yc (w d:Int)(I:i<L.length):∃j:Nat,((HV L w d L.length).getD i Tl.zero).fin=(j:Int)/\i<j/\j<=L.length/\(IQ L (LU w d i) i j).2=true/\((HV L w d L.length).map Tl.RZ).getD i 0=AZ.wrap ((IQ L (LU w d i) i j).1+((HV L w d L.length).map Tl.RZ).getD j 0):=by
 obtain⟨_,Q,R⟩:=mD (λj=>(HV L w d L.length).getD j Tl.zero) L.length (Nb L (LU w d i) i) Tl.zero λq E=>yb L w d (AAY L _ i q E).2
 obtain⟨q,E,_⟩:=AT8 L (LU w d i) i I;have J:=(Q q E).1;rcases R with e|⟨r,F,e⟩
 rw[e]at J;cases J;obtain⟨K,G⟩:=AAY L _ i r F;unfold Nb at F;obtain⟨j,S,B⟩:=mX.1 F;split at B;rename_i M;cases B;rw[<-AHb L w d I]at e;simp only at K G e;refine⟨j,by rw[e],K,G,M,?_⟩;rw[eC L w d (by omega),eC L w d G,e];cases B
theorem AHc (w d:Int):((HV L w d L.length).map Tl.RZ)[L.length]?=some 0:=by
 have h:=yy L w d (i:=L.length) 0 (BN _);rw[M8,La,HV]at h;rw[CM,h];rfl
theorem AXQ (w d:Int)(B:Gg L=true)(J:1<=w)(K:w<=10000000)(M:0<=d)(Q:d<w):∀m i,i+m=L.length-> -((m:Int)*1000000000)<=((HV L w d L.length).map Tl.RZ).getD i 0/\((HV L w d L.length).map Tl.RZ).getD i 0<=(m:Int)*1000000000:=by
 intro m;induction m using Nat.strongRecOn with
 | ind m ih =>
   intro i U;unfold Gg at B;simp only[Ak,decide_eq_true_eq]at B;by_cases E:m=0;subst E;have e:i=L.length:=by omega
   rw[e,Bv,AHc];simp;obtain⟨j,_,G,I,_,e⟩:=yc L w d (i:=i) (by omega);have R:=ih (L.length - j) (by omega) j (by omega);have S:=AUD (w:=LU w d i) B.2.2 B.2.1 (by unfold LU;split<;>omega) (by unfold LU;split<;>omega) G I;have F:=wrap_i64 (n:=(IQ L (LU w d i) i j).1+((HV L w d L.length).map Tl.RZ).getD j 0) (by omega) (by omega);rw[e,F];omega
theorem AAG (T:List Tl)(n:Nat)(G : ∀i,i<n->Vv n i (T.getD i Tl.zero)):∀f i,n - i<=f->∀k a,(KT T n f i)[k]?=some a->a<n/\(KT T n f i).getD (k+1) n=(T.getD a Tl.zero).fin.toNat
 | 0,i,h,k,a,B=>by simp[KT]at B
 | f+1,i,h,k,a,B=>by
   unfold KT at B ⊢;by_cases F:i<n;rw[if_pos F]at B ⊢;obtain⟨_,t1,t2⟩:=G i F;rw[List.getD_cons_succ];cases k with
   | zero =>
     simp only[LX,BL]at B;subst B;refine⟨F,?_⟩;obtain⟨z,I⟩:=AI ((T.getD i Tl.zero).fin.toNat);have K:i<z:=by omega
     have J:z<=n:=by omega
     rw[I];cases f with
     | zero=>unfold KT;simp;omega
     | succ f =>
       unfold KT;by_cases E:z<n;rw[if_pos E];rfl;rw[if_neg E];simp;omega
   | succ k=>rw[List.getElem?_cons_succ]at B;exact AAG T n G f _ (by omega) k a B
   rw[if_neg F]at B;simp at B
theorem AUo (w d:Int){k a:Nat}(h:(ME L w d)[k]?=some a):a<(ME L w d).getD (k+1) L.length/\(ME L w d).getD (k+1) L.length<=L.length/\(IQ L (LU w d a) a ((ME L w d).getD (k+1) L.length)).2=true/\((HV L w d L.length).map Tl.RZ).getD a 0=AZ.wrap ((IQ L (LU w d a) a ((ME L w d).getD (k+1) L.length)).1+((HV L w d L.length).map Tl.RZ).getD ((ME L w d).getD (k+1) L.length) 0):=by
 have F : ∀i,i<L.length->Vv L.length i ((HV L w d L.length).getD i Tl.zero):=λi G=>by
  obtain⟨j,e,B,E,_,_⟩:=yc L w d G;exact⟨yb L w d (by omega),by omega,by omega⟩
 unfold ME at h ⊢;obtain⟨I,J⟩:=AAG _ L.length F L.length 0 (by omega) k a h;rw[J];obtain⟨j,e,B,E,j3,j4⟩:=yc L w d I;rw[e,Int.toNat_natCast];exact⟨B,E,j3,j4⟩
theorem AAD (T:List Tl)(n:Nat):∀f i,(KT T n f i).length<=f
 | 0,i=>BN _
 | f+1,i=>by
   unfold KT;split;rw[BA];exact Nat.succ_le_succ (AAD T n f _);exact CI _
theorem AKN (w d:Int)(B:Gg L=true)(E:1<=w)(F:w<=10000000)(G:0<=d)(I:d<w):
 AC AF 26 [.c (.sl (L.map El)),.c (.int .i64 w),.c (.int .i64 d),.c (AV ((ME L w d).map λ(n:Nat)=>(n:Int))),.c (AV (LH L w d (EE L.length L.length).length))] (.c (.bool true)):=by
 have J:=B;unfold Gg at J;simp only[Ak,decide_eq_true_eq]at J;have K:((HV L w d L.length).map Tl.RZ).length=L.length+1:=by rw[Ch,fN]
 have Q:(ME L w d)[0]?=some 0:=by
  unfold ME;obtain⟨m,q⟩:∃m,L.length=m+1:=⟨L.length - 1,by omega⟩
  rw[q,KT,if_pos (by omega)];rfl
 have M:(ME L w d).length<=1000000:=by
  have:=AAD (HV L w d L.length) L.length L.length 0;unfold ME;omega
 have U : ∀a∈(HV L w d L.length).map Tl.RZ,-1099511627776<=a/\a<=1099511627776:=λa S=>by
  obtain⟨i,o,e⟩:=List.mem_iff_getElem.1 S;have:=AXQ L w d B E F G I (L.length - i) i (by omega);rw[Bv,BE o,Dm,e]at this;omega
 rw[ATK];exact AKE L w d _ _ B E F G I (AKl L w d _ B E F G I K (AHc L w d) U λi j h R e=>AXR L w d h R e) (AKq L w d _ _ B E F G I K Q M λk a h=>AUo L w d h)
theorem ASx (T:List Nat):AV (T.map λ(n:Nat)=>(n:Int))=.sl (Lw T):=by
 unfold AV Lw;rw[List.map_map];rfl
theorem ASv {T:List Nat}{k s:Nat}(h:T[k]?=some s):Lw (T.take k)++[[C.int .i64 (s:Int)]]=Lw (T.take (k+1)):=by
 rw[UC,h];simp[Lw]
theorem ASw (T:List Nat):((Lw T).all λr=>r.length==1)=true:=by
 rw[ES];intro r B;obtain⟨n,_,rfl⟩:=Da.1 B;rfl
theorem AKr (x:Af)(n:Nd)(W:Int)(sn:ByteArray)(hf:x.f.Fit)(hl:x.d.length<=maxLen)(DS : ∀e∈x.d,e.text.size<=maxLen)(hn:n.BX)(hs:sn.size<=maxLen):AC AF 9 [.agg (HD x),Am n,Ms W sn] (.c (.bool true)):=by
 have h0:=ou;rcases rm x n W sn hf hl DS hn hs with ⟨B,T,R,J⟩|⟨b,L,P,A6,hc,E,J⟩
 unfold Ms at *
 simp only[Am,As]at J ⊢;refine en func9 ntmps9 ?_;exact wz Yd (cj2 h0 J trivial);generalize GZ x.f.params.Al (Ii x n b (DF x L P W) W) A6 W=B at J;have K:=E.Qd;have w1:=K.w1;have w2:=K.w2;have i1:=K.i1;have i2:=K.i2;have Yt:=K.XS;have hI:=rR x.f W E.hx.val w1 w2;have hp:AC AF 22 [.agg x.f.vs,.c (Cc x.d),Am n,Aj ⟨0,false⟩] (.A7 [.c (.sl (L.map El)),.c (AV P),AR 0]):=by
  rcases AJr x n ⟨0,false⟩ hf E.hx.dl DS hn hc with ⟨e,_,hN,_⟩|⟨b',L',P',_,_,Fs,h⟩
  exfalso;have:=hN b E.pD.ok E.pD.nv E.pD.row (λh=>by
   obtain⟨a,e,_,_,J,h2⟩:=K.ck 0 K.lR;rw[h]at h2;simp at h2;omega)
  rw[<-E.pD.eq]at this;unfold Zk at this;rw[E.pH.ok,decide_eq_true E.pH.ra]at this;exact absurd this (by decide);cases E.pD.row.symm.trans Fs.row;rw[<-E.pD.eq.trans Fs.eq.symm,<-E.pD.Pw.trans Fs.Pw.symm]at h;exact h
 obtain⟨A,_,cG⟩:=E.pD.au;obtain⟨_,_,A0⟩:=AA6 cG;have D7:=E.pH.len;have D8:=E.pH.ra;have Q:=E.pv;have Gs:0<L.length:=by
  have:=Q;unfold Gg at this;simp only[Ak,decide_eq_true_eq]at this;omega
 obtain⟨F,U⟩:=AI (HA x.f.params.Al W);have eS:DF x L P W=Hj P (ME L W F):=by unfold DF;rw[U]
 rw[U]at hI i1 i2;have ZZ:=AKk L W F Q w1 w2 i1 i2;have I:=AKN L W F Q w1 w2 i1 i2;obtain⟨hT,_,_⟩:=ABy L W F Gs;obtain⟨T,Ya⟩:=AI (ME L W F);rw[Ya]at I hT eS;have D0 : ∀t∈T,t<P.length:=λt ht=>by have:=hT t ht;omega
 obtain⟨KP,A3⟩:=AI (LH L W F (EE L.length L.length).length);rw[A3]at ZZ I;rw[ASx]at I;obtain⟨KR,A5⟩:=AI (KP.map PX);rw[rS,A5]at ZZ I;have mH : ∀k s:Nat,T[k]?=some s->(DF x L P W).getD k 0=P.getD s 0:=λk s h=>by rw[eS];unfold Hj;rw[Bv,CM,h];rfl
 have PF:(DF x L P W).length=T.length:=by rw[eS];unfold Hj;rw[Ch]
 obtain⟨S,hS⟩:=AI (DF x L P W);rw[hS]at J Yt mH PF;have G : ∀k,k<S.length->(Jr S (n.AE.length:Int) S.length)[k]?=some [.sl [],.int .i64 (S.getD k 0),.int .i64 ((S++[(n.AE.length:Int)]).getD (k+1) 0)]:=λk hk=>by unfold Jr;rw[CM,List.getElem?_range hk];rfl
 have z:=eZ S (n.AE.length:Int) S.length;obtain⟨R,hR⟩:=AI (Jr S (n.AE.length:Int) S.length);rw[hR]at J z G;rw[PF]at z G Yt;generalize hm:T.length=m at z G Yt;obtain⟨LC,jP⟩:=AI (L.map El);obtain⟨PR,EO⟩:=AI (P.map PX);have Ut:AV P=.sl PR:=by rw[rS,EO]
 obtain⟨M,hM⟩:=AI P.length;have o:PR.length=M:=by rw[<-EO,Ch,hM]
 have B7 : ∀(i:Nat) (v:Int),P[i]?=some v->PR[i]?=some [.int .i64 v]:=λi v hi=>by rw[<-EO,CM,hi];rfl
 rw[jP]at hp ZZ I;rw[Ut]at hp;have KV:=λk=>ASw (T.take k)
 have Lp : ∀k,k<=m->(Lw (T.take k)).length=k:=λk hk=>by unfold Lw;rw[Ch,List.length_take];omega
 have B0:T.take m=T:=List.take_of_length_le (by omega);obtain⟨JD,A1⟩:∃JD:Nat->List (List C),(λk=>Lw (T.take k))=JD:=⟨_,rfl⟩
 have eG : ∀k,Lw (T.take k)=JD k:=λk=>congrFun A1 k
 have mI:=λk s (h:T[k]?=some s)=>ASv h
 have A2:Lw T=JD m:=by rw[<-eG,B0]
 simp only[eG]at KV Lp mI;rw[A2]at I;have jM:JD 0=[]:=by rw[<-eG];rfl
 clear E K U hS hR jP Ut A3 A5 Ya eS eG A1 B0 A2;unfold Ms at *
 simp only[Am,As,Aj,AR]at J hp ZZ ⊢;refine en func9 ntmps9 ?_;refine wy (cj @z<|Yd) (cj3 h0 J hp trivial) ⟨?_⟩;refine AW.le (Le.tL 14 3 1 rfl) ?_;simp only[BA,BO,Nat.reduceAdd,Ag,Ai,BK,BU];refine lp (ι:={ k:Nat // k<=m }) (λk=>[(15,.c (.int .i64 (k.1:Int))),(14,.gr 5 1 (JD k.1))]) (λk=>[O.box 30 (HD x) false,O.box 33 n.vs false,O.box 35 [.c (.int .i64 W),.c (.str sn)] false,O.box 41 B.vs false,O.box 41 b.vs false,.tok 3 1 k.1]) (λk=>m - k.1) ⟨0,CI _⟩ ?_ ?_;all_goals simp only[puts,Bw,CO,Ag,Ai]
 exact ER @jM;rintro ⟨k,hk⟩;simp only;by_cases B1:k<m
 . obtain⟨s,hs⟩:∃s,T[k]?=some s:=⟨_,BE (by omega)⟩
   have D2:=D0 s (Cj hs);obtain⟨lo,KD⟩:∃v,P[s]?=some v:=⟨_,BE D2⟩
   have B8:S.getD k 0=lo:=by rw[mH k s hs,Bv,KD];rfl
   have rk:=G k (by omega);rw[B8]at rk;have eQ:=gx rk;have l1:k<R.length:=by omega
   have A8:=mI k s hs;have q0:(if s<0 then k+1 else k)=k:=if_neg (Nat.not_lt_zero _);have D1:s<M:=by omega
   obtain⟨B2,rE⟩:=Br.1 KD;clear mH G mI I ZZ hI;refine wy (cj2 @B1 @z Yd) trivial ⟨?_⟩;refine lp (ι:={ i:Nat // i<=M }) (λi=>[(16,.c (.int .i64 (i.1:Int))),(14,.gr 5 1 (JD (if s<i.1 then k+1 else k)))]) (λi=>[O.box 30 (HD x) false,O.box 33 n.vs false,O.box 35 [.c (.int .i64 W),.c (.str sn)] false,O.box 41 B.vs false,O.box 41 b.vs false,.tok 3 1 (if s<i.1 then k+1 else k)]) (λi=>M - i.1) ⟨0,CI _⟩ ?_ ?_;all_goals simp only[puts,Bw,CO,Ag,Ai]
   exact ER @q0;rintro ⟨i,cq⟩;simp only;by_cases BD:i<M;obtain⟨v,Q⟩:∃v,P[i]?=some v:=⟨_,BE (by omega)⟩
   have rp:=B7 i v Q;have B3:=gx rp;have l3:i<PR.length:=by omega
   have v7:AZ.wrap ((i:Int)+1)=((i+1:Nat):Int):=by rw[Ac];simp
   by_cases c1:i=s;subst c1;rw[KD]at Q;cases Q;have q1:(if i<i+1 then k+1 else k)=k+1:=if_pos (Nat.lt_succ_self i);rw[if_neg (Nat.lt_irrefl i)];have Md:=Lp k hk;have A9:=KV k;obtain⟨RR,YW⟩:=AI (JD k);rw[YW]at A8 Md A9 ⊢;have FO:k+1<=maxLen:=by unfold maxLen;omega
   have EX:(k+1)*8<=140737488355328:=by omega
   refine wy (cj9 @BD @o @rk @eQ @l1 @rp @B3 @l3 @v7<|cj4 @Md @FO @EX @A8 Yd) trivial ⟨?_⟩;refine⟨⟨i+1,by omega⟩,by simp only;omega,?_⟩;simp only[q1];exact wd 6;have c2 : ¬v=lo:=λe=>by
    subst e;obtain⟨g1,g2⟩:=Br.1 Q;rcases Nat.lt_or_gt_of_ne c1 with h|h
    have:=mZ.1 A0 i s g1 B2 h;omega;have:=mZ.1 A0 s i B2 g1 h;omega
   have q1:(if s<i+1 then k+1 else k)=if s<i then k+1 else k:=by split<;>split<;>omega
   obtain⟨q,hq⟩:=AI ((if s<i then k+1 else k));rw[hq]at q1 ⊢;refine wy (cj9 @BD @o @rk @eQ @l1 @rp @B3 @l3 @v7<|cj @c2 Yd) trivial ⟨?_⟩;refine⟨⟨i+1,by omega⟩,by simp only;omega,?_⟩;simp only[q1];exact wd 6;obtain rfl:i=M:=by omega
   rw[if_pos D1];have v7:AZ.wrap ((k:Int)+1)=((k+1:Nat):Int):=by rw[Ac];simp
   refine wy (cj3 @BD @o @v7 Yd) trivial ⟨?_⟩;exact⟨⟨k+1,by omega⟩,by simp only;omega,wd 6⟩
 obtain rfl:k=m:=by omega
 have Im:=Lp k (BN _);generalize YW:JD k=RR at Im I ⊢;exact wz (cj3 @B1 @z @Im Yd) (cj3 hI ZZ I trivial)
end Go.Proofs.YtlpomcliejmedaaGreat
