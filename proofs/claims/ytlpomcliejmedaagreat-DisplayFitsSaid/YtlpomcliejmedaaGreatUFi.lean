/- For every input the law displayFits returns true, and its input reads behind the call as it read before. Conditions: none. -/
import Derived.Test.YtlpomcliejmedaaGreatU14
import Derived.Test.YtlpomcliejmedaaGreatU12
import Derived.Test.YtlpomcliejmedaaGreatRows
import Derived.WalkKit
import Derived.ProofKit
import Derived.OpenShut
set_option linter.unusedVariables false
set_option linter.unusedSimpArgs false
set_option maxRecDepth 100000
set_option maxHeartbeats 16000000
open Int renaming le_refl→IV
open List renaming mem_cons→Cf,getElem?_eq_getElem→BE,getD_eq_getElem?_getD→Bv,getElem?_eq_some_iff→Br,getElem?_append_left→EJ,getElem?_cons_zero→LX,getElem?_cons_succ→JU,cons_append→BK,countP_append→ACp,countP_cons→ACq,countP_eq_zero→fx,getElem_of_mem→AMf,length_take→Fa,mem_of_getElem?→Cj,getElem?_map→CM,getElem?_append_right→Gy,pairwise_iff_getElem→mZ,length_map→Ch,foldl_cons→Bw,foldl_nil→CO,set_cons_zero→Ag,set_cons_succ→Ai
open Nat renaming add_zero→M8,le_refl→BN,zero_le→CI
open Option renaming getD_some→Dm
open Option.some renaming injEq→BL
open Bool renaming and_eq_true→Ak
open Go.Proofs.Tryz renaming prog→AF,results23→ADK,results6→AAB,f6→Jv,checked→RF
open Go.IntKind renaming i64→AZ
open Go.Proofs.YtlpomcliejmedaaGreat.Rows renaming displayFitsRow→H9,displayFitsSpec→Pv
open Go.ChangeSpec renaming witness6→uD
namespace Go.Proofs.YtlpomcliejmedaaGreat
open Go.RowKit Proofs.Tryz
theorem oo (q:Int){K A6:List AA}(W:Int)(B:K≠[])(E:A6.length<=1):(Gq q K A6 W).length=K.length+A6.length:=by
 rcases iR q W B E with ⟨rfl,h⟩|⟨F,y,rfl,h,_⟩
 rw[h,Za];rfl;rw[h,List.length_append,Za];rfl
theorem iQ (q:Int){K A6:List AA}(W:Int)(E:K≠[])(F:A6.length<=1){k:Nat}(B:k<K.length):(Gq q K A6 W)[k]?=some ((A4 K k).AS (A4 K k).x (Mr q K k)):=by
 rcases iR q W E F with ⟨rfl,h⟩|⟨G,y,rfl,h,_⟩
 rw[h,ZY B];rw[h,List.getElem?_append_left (by rw[Za];exact B),ZY B]
section
section
variable {B:AA} {sp S:List Int} {N:Nat} {W ind:Int}
theorem AIK {k m:Nat}(h:k<m):A4 (I3 B.AE sp S N W ind m) k=Jj B.AE sp S N W ind k:=by
 unfold A4 I3;rw[List.getD_eq_getElem?_getD,List.getElem?_map,List.getElem?_range h];rfl
end
end
theorem AFN : ∀(l:List AA) (e:Int×Int×Int×Int),(e.2.1<=(JZ e l).2.1/\e.2.2.1<=(JZ e l).2.2.1/\e.2.2.2<=(JZ e l).2.2.2)/\∀b∈l,b.x+b.w<=(JZ e l).2.1/\b.y+b.h<=(JZ e l).2.2.1/\b.d - b.y<=(JZ e l).2.2.2
 | [],e=>⟨⟨IV _,IV _,IV _⟩,λb h=>by cases h⟩
 | b::l,e=>by
   obtain⟨⟨F,G,H⟩,E⟩:=AFN l (mn e.1 b.x,mx e.2.1 (b.x+b.w),mx e.2.2.1 (b.y+b.h),mx e.2.2.2 (b.d - b.y));simp only[DU]at F G H;simp only[JZ,DU]at E ⊢;refine⟨by omega,λc B=>?_⟩;rcases Cf.1 B with rfl|B
   omega;exact E c B
theorem ix : ∀ {l:List AA} {b:AA},b∈l->b.x+b.w<=(DQ l).2.1/\b.y+b.h<=(DQ l).2.2.1/\b.d - b.y<=(DQ l).2.2.2
 | a::l,b,h=>by
   obtain⟨⟨B,E,F⟩,G⟩:=AFN l (a.x,a.x+a.w,a.y+a.h,a.d - a.y);rcases Cf.1 h with rfl|h
   exact⟨B,E,F⟩;exact G b h
section
variable {L:List (Int×Int×Int)}
theorem AWS {k count own E B:Int}(hi:0<=B)(I:B<E)(K:0<=k)(J:k<count)(ho:0<=own) :
 0<=OY k count own E B/\(0<k->B<=OY k count own E B)/\(own<=(if 0<k then E - B else E)->OY k count own E B+own<=E):=by
 unfold OY;simp only[DU];by_cases F:count=1;rw[if_pos F,if_neg (by omega)];refine⟨by omega,λh=>by omega,λh=>?_⟩;have:=AGd (n:=E - own) (by omega);omega;rw[if_neg F];by_cases G:k=0;rw[if_pos G,if_neg (by omega)];exact⟨by omega,λh=>by omega,λh=>by omega⟩;rw[if_neg G,if_pos (show 0<k by omega)];by_cases H:k=count - 1;rw[if_pos H];exact⟨by omega,λh=>by omega,λh=>by omega⟩;rw[if_neg H];exact⟨by omega,λh=>by omega,λh=>by omega⟩
theorem AA3 {sp:List Int}{A:Nat->Int}{n:Nat} : ∀ {L:List (Int×Int×Int)} {P:List Int},Sy sp A L P n->∀(j:Nat) (q:Int×Int×Int),L[j]?=some q->∃p p':Nat,P[j]?=some (p:Int)/\(P++[(n:Int)])[j+1]?=some (p':Int)/\p<p'/\vu sp A q p p'
 | [],_,_,j,q,B=>by simp at B
 | [x],[p],h,0,q,B=>by
   simp at B;subst B;obtain⟨a,e,E,F⟩:=h;exact⟨a,n,by rw[e];rfl,rfl,E,F⟩
 | [x],[p],h,j+1,q,B=>by simp at B
 | [x],[],h,_,_,_=>by cases h
 | [x],_::_::_,h,_,_,_=>by cases h
 | x::y::L,[],h,_,_,_=>by cases h
 | x::y::L,[p],h,_,_,_=>by cases h
 | x::y::L,p::p'::r,h,0,q,B=>by
   simp at B;subst B;obtain⟨⟨a,b,G,H,E,F⟩,_⟩:=h;exact⟨a,b,by rw[G];rfl,by rw[H];rfl,E,F⟩
 | x::y::L,p::p'::r,h,j+1,q,B=>by
   obtain⟨a,b,I,J,K⟩:=AA3 h.2 j q (by simpa using B);exact⟨a,b,by simpa using I,by simpa using J,K⟩
theorem AUA {sp:List Int}{A:Nat->Int}{n:Nat}{P:List Int}(h:Sy sp A L P n){i a:Nat}(R:P[i]?=some (a:Int)):∀m:Nat,i+(m+1)<=L.length->∀b:Nat,(P++[(n:Int)])[i+(m+1)]?=some (b:Int)->HQ L i (m+1)=A b - A a - sp.getD a 0:=by
 have key : ∀m:Nat,i+(m+1)<=L.length->∃b:Nat,(P++[(n:Int)])[i+(m+1)]?=some (b:Int)/\HQ L i (m+1)=A b - A a - sp.getD a 0:=by
  intro m;induction m with
  | zero =>
    intro I;obtain⟨q,E⟩:∃q,L[i]?=some q:=⟨_,BE (by omega)⟩
    obtain⟨p,M,F,J,_,_,K⟩:=AA3 h i q E;rw[R]at F;have:a=p:=by simp at F;omega
    subst this;refine⟨M,J,?_⟩;simp only[HQ,M8,if_true,JQ,Bv,E,Dm]at K ⊢;omega
  | succ m ih =>
    intro I;obtain⟨b,B,G⟩:=ih (by omega);obtain⟨q,E⟩:∃q,L[i+(m+1)]?=some q:=⟨_,BE (by omega)⟩
    obtain⟨p,M,F,J,_,U,K⟩:=AA3 h _ q E;have H:=(Br.1 F).1;rw[EJ H,F]at B;have:p=b:=by simp at B;omega
    subst this;refine⟨M,J,?_⟩;rw[HQ,G,if_neg (Nat.succ_ne_zero m)];simp only[JQ,Bv,E,Dm]at K U ⊢;omega
 intro m I b S;obtain⟨Q,B,G⟩:=key m I;rw[S]at B;have:b=Q:=by simp at B;omega
 rw[this];exact G
theorem AUE {w:Int}{i j:Nat}(h:(IQ L w i j).2=true):j=i+1\/HQ L i (j - i)<=w:=by
 unfold IQ at h;simp only at h;split at h;exact .inl (by simpa using h);exact .inr (by omega)
theorem AFS (T:Nat->Tl)(n:Nat):∀(l:List (Nat×Int)) (b:Tl),l.foldl (N6 T n) b=b\/∃q∈l,(l.foldl (N6 T n) b).fin=(q.1:Int)
 | [],b=>.inl rfl
 | q::l,b=>by
   simp only[List.foldl_cons];rcases AFS T n l (N6 T n b q)with h|⟨r,B,h⟩
   rw[h];unfold N6;split;rcases AEK b ⟨true,IntKind.i64.wrap (q.2+(T q.1).RZ),(q.1:Int)⟩ (n:Int)with ⟨e,_⟩|e
   rw[e];exact .inl rfl;rw[e];exact .inr ⟨q,by simp,rfl⟩;exact .inl rfl;exact .inr ⟨r,by simp[B],h⟩
theorem ALU (L:List (Int×Int×Int))(w d:Int):∀k,k<=L.length->∀m t,m<k->(HV L w d k)[m]?=some t->∃j:Nat,t.fin=(j:Int)/\(IQ L (LU w d (L.length - k+m)) (L.length - k+m) j).2=true
 | 0,_,m,t,F,h=>by omega
 | k+1,J,m,t,F,h=>by
   have B:=(fO L w d (k+1) J m t h).2 F;simp only[HV]at h;cases m with
   | zero =>
     simp only[LX,BL]at h;rw[M8]at B ⊢;unfold TF at h;rw[show (if 0<L.length - (k+1)then w - d else w)=LU w d (L.length - (k+1))from rfl]at h;generalize K:LU w d (L.length - (k+1))=W at h ⊢;rcases AFS (λj=>(HV L w d k).getD (j - (L.length - k)) Tl.zero) L.length (Nb L W (L.length - (k+1))) Tl.zero with e|⟨q,G,e⟩
     rw[h]at e;rw[e]at B;exact absurd B.1 (by decide);rw[h]at e;refine⟨q.1,e,?_⟩;unfold Nb at G;obtain⟨j,_,E⟩:=List.mem_filterMap.1 G;split at E;cases E;assumption;cases E
   | succ m=>simp only[JU]at h;obtain⟨j,H,I⟩:=ALU L w d k (by omega) m t (by omega) h;rw[show L.length - (k+1)+(m+1)=L.length - k+m by omega];exact⟨j,H,I⟩
theorem AEk (T:List Tl)(n:Nat)(E : ∀i,i<n->Vv n i (T.getD i Tl.zero)):∀f i,n - i<=f->∀k a,(KT T n f i)[k]?=some a->(KT T n f i++[n])[k+1]?=some ((T.getD a Tl.zero).fin.toNat)
 | 0,i,h,k,a,B=>by simp[KT]at B
 | f+1,i,h,k,a,B=>by
   unfold KT at B ⊢;by_cases F:i<n;rw[if_pos F]at B ⊢;obtain⟨_,t1,t2⟩:=E i F;cases k with
   | zero =>
     simp only[LX,BL]at B;subst B;rw[BK,JU];generalize I:(T.getD i Tl.zero).fin.toNat=j;by_cases G:j<n;obtain⟨_,_,H⟩:=pL T n E f j (by omega);have:=H G;rw[List.head?_eq_getElem?]at this;rw[EJ (Br.1 this).1];exact this;have e:KT T n f j=[]:=by
      cases f with
      | zero=>rfl
      | succ f=>unfold KT;rw[if_neg G]
     rw[e];have:j=n:=by omega
     rw[this];rfl
   | succ k=>simp only[JU]at B;have:=AEk T n E f _ (by omega) k a B;rw[BK,JU];exact this
   rw[if_neg F]at B;simp at B
theorem AZR (L:List (Int×Int×Int))(w d:Int){k a b:Nat}(H:(ME L w d)[k]?=some a)(hb:(ME L w d++[L.length])[k+1]?=some b):a<b/\b<=L.length/\(b=a+1\/HQ L a (b - a)<=LU w d a):=by
 have F : ∀i,i<L.length->Vv L.length i ((HV L w d L.length).getD i Tl.zero):=λi K=>by
  have M:=fN L w d L.length;obtain⟨t,E⟩:∃t,(HV L w d L.length)[i]?=some t:=⟨_,BE (by omega)⟩
  rw[Bv,E];have:=(fO L w d L.length (BN _) i t E).2 K;rwa [show L.length - L.length+i=i by omega]at this
 have M:=fN L w d L.length;have B:a<L.length:=(pL _ _ F L.length 0 (by omega)).1 a (List.mem_of_getElem? H) |>.2
 have I:=AEk _ _ F L.length 0 (by omega) k a H;unfold ME at hb;rw[hb,BL]at I;obtain⟨_,t1,t2⟩:=F a B;obtain⟨t,E⟩:∃t,(HV L w d L.length)[a]?=some t:=⟨_,BE (by omega)⟩
 have J:(HV L w d L.length).getD a Tl.zero=t:=by rw[Bv,E];rfl
 rw[J]at I t1 t2;obtain⟨j,Q,G⟩:=ALU L w d L.length (BN _) a t B E;rw[show L.length - L.length+a=a by omega]at G;have:j=b:=by omega
 subst this;exact⟨by omega,by omega,AUE G⟩
end
theorem AOe (P:List Int){a:Nat}(H:a<P.length)(p:Int->Bool)(h : ∀j (B:j<P.length),j≠a->p P[j]=false):P.countP p<=1:=by
 have e:=List.take_append_drop a P;rw[List.drop_eq_getElem_cons H]at e;rw[<-e,ACp,ACq];have F:(P.take a).countP p=0:=by
  rw[fx];intro v E;obtain⟨j,B,rfl⟩:=AMf E;rw[Fa]at B;rw[List.getElem_take,h j (by omega) (by omega)];decide
 have G:(P.drop (a+1)).countP p=0:=by
  rw[fx];intro v E;obtain⟨j,B,rfl⟩:=AMf E;rw[List.length_drop]at B;rw[List.getElem_drop,h _ (by omega) (by omega)];decide
 rw[F,G];split<;>omega
def rQ (lo hi v:Int):Bool:=decide (lo<=v) && decide (v<hi)
theorem APZ {x:Af}{n:Nd}{W:Int}{b:AA}{L:List (Int×Int×Int)}{P:List Int}(hD:af x ⟨0,false⟩ n b L P)(hv:Gg L=true)(h:Lc b (x.CC ⟨0,false⟩ n.AE) (DF x L P W) n.AE.length W (HA x.f.params.Al W)){k:Nat}(M:k<(DF x L P W).length) :
 0<=(Jj b.AE (x.CC ⟨0,false⟩ n.AE) (DF x L P W) n.AE.length W (HA x.f.params.Al W) k).x/\(0<k->HA x.f.params.Al W<=(Jj b.AE (x.CC ⟨0,false⟩ n.AE) (DF x L P W) n.AE.length W (HA x.f.params.Al W) k).x)/\(1<P.countP (rQ ((DF x L P W).getD k 0) ((DF x L P W++[(n.AE.length:Int)]).getD (k+1) 0))->(Jj b.AE (x.CC ⟨0,false⟩ n.AE) (DF x L P W) n.AE.length W (HA x.f.params.Al W) k).x+(Jj b.AE (x.CC ⟨0,false⟩ n.AE) (DF x L P W) n.AE.length W (HA x.f.params.Al W) k).w<=W):=by
 obtain⟨A,hA,hP⟩:=hD.au;obtain⟨k1,k2,k3⟩:=AA6 hP;obtain⟨a,e,K,G,h1,h2,J,_,_⟩:=h.line M;obtain⟨c,v,_,QW,cY,_,hw,A0,_⟩:=rh hA h.val h.nn h.sn h1 (by rw[h.len];exact h2);obtain⟨B,hi⟩:=AI (HA x.f.params.Al W);have eS:DF x L P W=Hj P (ME L W B):=by unfold DF;rw[hi]
 have i1:=h.i1;have i2:=h.i2;rw[hi]at i1 i2 J ⊢;have Gs:0<L.length:=by
  unfold Gg at hv;simp only[Ak,decide_eq_true_eq]at hv;omega
 obtain⟨R,s2,s3⟩:=ABy L W B Gs;have I:=λ{k a b:Nat}=>AZR L W B (k:=k) (a:=a) (b:=b)
 rw[eS]at K G M J ⊢;have o:(Hj P (ME L W B)).length=(ME L W B).length:=by simp[Hj]
 rw[o]at M J;generalize hT:ME L W B=T at R s2 s3 I K G M J o ⊢;have zj:=AWS (k:=(k:Int)) (count:=(T.length:Int)) (own:=(GQ b.AE (x.CC ⟨0,false⟩ n.AE) a e).w) i1 i2 (by omega) (by omega) A0;rw[J];refine⟨zj.1,λh=>zj.2.1 (by omega),λhc=>zj.2.2 ?_⟩;obtain⟨t,H⟩:∃t,T[k]?=some t:=⟨_,BE M⟩
 have A6:=R t (Cj H);have get : ∀ {j u:Nat},T[j]?=some u->∃p:Int,P[u]?=some p/\(Hj P T)[j]?=some p:=λ{j u} F=>by
  have Te:=R u (Cj F);refine⟨P[u]'(by omega),BE (by omega),?_⟩;unfold Hj;rw[CM,F,Option.map_some,Bv,BE (by omega)];rfl
 obtain⟨p,G8,HN⟩:=get H;have ep:p=(a:Int):=by rw[Bv,HN]at K;exact K
 obtain⟨u,F,yL⟩:∃u,(T++[L.length])[k+1]?=some u/\(P++[(n.AE.length:Int)])[u]?=some (e:Int):=by
  by_cases E:k+1<T.length;obtain⟨u,F⟩:∃u,T[k+1]?=some u:=⟨_,BE E⟩
  obtain⟨p',S,U⟩:=get F;have Te:=R u (Cj F);refine⟨u,by rw[EJ E,F],?_⟩;rw[EJ (by omega),S];rw[Bv,EJ (by omega),U]at G;exact congrArg some G;refine⟨L.length,by rw[Gy (by omega),show k+1 - T.length=0 by omega];rfl,?_⟩;rw[Bv,Gy (by omega),o,show k+1 - T.length=0 by omega]at G;rw[Gy (by omega),show L.length - P.length=0 by omega];exact congrArg some G
 obtain⟨f1,f2,f3⟩:=I H F;subst ep;rcases f3 with rfl|f3
 exfalso;have A2:=AOe P (a:=t) (by omega) (rQ ((Hj P T).getD k 0) ((Hj P T++[(n.AE.length:Int)]).getD (k+1) 0)) (λj q A5=>by
  have A3:P[j]?=some P[j]:=BE q;obtain⟨Td,dH⟩:=Br.1 G8;rw[K,G];unfold rQ;rw[Bool.and_eq_false_iff,decide_eq_false_iff_not,decide_eq_false_iff_not];by_cases z:j<t;left;have:=mZ.1 k3 j t q Td z;omega;right;by_cases E:t+1<P.length;rw[EJ E]at yL;obtain⟨Y6,A7⟩:=Br.1 yL;by_cases he:j=t+1;subst he;omega;have:=mZ.1 k3 (t+1) j Y6 q (by omega);omega;omega)
 omega;obtain⟨m,rfl⟩:∃m,u=t+(m+1):=⟨u - t - 1,by omega⟩
 have A1:=AUA hP G8 m f2 e yL;rw[show t+(m+1) - t=m+1 by omega]at f3;have kF:(x.CC ⟨0,false⟩ n.AE).getD a 0=v:=by rw[Bv,QW];rfl
 have Y7:LU W B t=if 0<(k:Int)then W - B else W:=by
  unfold LU;have Q:T[0]?=some 0:=by rw[<-List.head?_eq_getElem?];exact s3
  by_cases h0:k=0;subst h0;rw[Q]at H;cases H;rfl;obtain⟨g1,g2⟩:=Br.1 Q;obtain⟨g3,g4⟩:=Br.1 H;have:=mZ.1 s2 0 k g1 g3 (by omega);rw[if_pos (by omega),if_pos (by omega)]
 rw[Y7]at f3;omega
theorem ANj (q:Int)(K A6:List AA)(W:Int):W<=(GZ q K A6 W).w/\∀c∈Gq q K A6 W,c.x+c.w<=(GZ q K A6 W).w:=by
 refine⟨Mt _ _,λc B=>Int.le_trans (ix B).1 (rq _ _)⟩
theorem ti {n lo hi:Int}(B:lo<=n)(E:n<=hi):AC AF 57 [.c (.int .i64 n),.c (.int .i64 lo),.c (.int .i64 hi)] (.c (.bool true)):=by
 refine en func57 ntmps57 ?_;exact wz (cj2 @B @E results57) trivial
theorem AaM (L:List (Int×Int×Int))(J:Gg L=true):AC AF 23 [.c (.sl (L.map El))] (.c (.bool true)):=by
 unfold Gg at J;simp only[Ak,decide_eq_true_eq]at J;have hb:=kp J.2.2;obtain⟨N,hN⟩:=AI L.length;obtain⟨I,G⟩:=AI (L.map El);have M:I.length=N:=by rw[<-G,Ch,hN]
 have hr : ∀k,k<N->I[k]?=some [.int .i64 (JQ L k).1,.int .i64 (JQ L k).2.1,.int .i64 (JQ L k).2.2]:=λk hk=>by rw[<-G,CM,BE (by omega)];simp[JQ,Bv,BE (show k<L.length by omega),El]
 have z:=ti (n:=(N:Int)) (lo:=1) (hi:=64) (by omega) (by omega);rw[G];clear G;refine en func23 ntmps23 ?_;refine wy ADK trivial ⟨?_⟩;refine lp (ι:={ k:Nat // k<=N }) (λk=>[(3,.c (.int .i64 (k.1:Int)))]) (λ_=>[]) (λk=>N - k.1) ⟨0,CI _⟩ ?_ ?_;all_goals simp only[CG,Bw,CO,Ag,Ai]
 exact DH;rintro ⟨k,hk⟩;simp only;by_cases B:k<N;have H:=hr k B;obtain⟨⟨Q,R⟩,⟨S,U⟩,W,o⟩:=hb k;obtain⟨⟨q1,q2,q3⟩,hq⟩:=AI (JQ L k);rw[hq]at H Q R S U W o;have q:=gx H;have l1:k<I.length:=by omega
 have K:=ti Q R;have E:=ti S U;have F:=ti W o;have v7:AZ.wrap ((k:Int)+1)=((k+1:Nat):Int):=by rw[Ac];simp
 simp only at H q K E F;refine wy (cj6 @B @M @H @q @l1 @v7 ADK) (cj3 K E F trivial) ⟨?_⟩;exact⟨⟨k+1,by omega⟩,by simp only;omega,wd 0⟩;obtain rfl:k=N:=by omega
 exact wz (cj2 @B @M ADK) (cj z<|trivial)
theorem AOw (x:Af)(n:Nd)(W:Int)(sn:ByteArray)(hf:x.f.Fit)(hl:x.d.length<=maxLen)(DS : ∀e∈x.d,e.text.size<=maxLen)(hn:n.BX)(hs:sn.size<=maxLen):AC AF 6 [.agg (HD x),Am n,Ms W sn] (.c (.bool true)):=by
 have h0:=ou;rcases rm x n W sn hf hl DS hn hs with ⟨B,T,R,F⟩|⟨b,L,P,A6,hc,E,F⟩
 unfold Ms at *
 simp only[Am,As]at F ⊢;refine en func6 ntmps6 ?_;exact wz AAB (cj2 h0 F trivial);obtain⟨d1,d2,d3,d4,d6⟩:=E.facts;have G6:=E.Qd;have Yt:=G6.XS;have Dz:=λ(k:Nat) (I:k<(DF x L P W).length)=>APZ E.pD E.pv G6 I
 have hV:=AaM L E.pv;have hI:=rR x.f W E.hx.val G6.w1 G6.w2;have hp:AC AF 22 [.agg x.f.vs,.c (Cc x.d),Am n,Aj ⟨0,false⟩] (.A7 [.c (.sl (L.map El)),.c (AV P),AR 0]):=by
  rcases AJr x n ⟨0,false⟩ hf E.hx.dl DS hn hc with ⟨e,_,hN,_⟩|⟨b',L',P',_,_,Fs,h⟩
  exfalso;have:=hN b E.pD.ok E.pD.nv E.pD.row (λh=>by
   obtain⟨a,e,_,_,F,h2⟩:=G6.seg 0 G6.lR;rw[h]at h2;simp at h2;omega)
  rw[<-E.pD.eq]at this;unfold Zk at this;rw[E.pH.ok,decide_eq_true E.pH.l64]at this;exact absurd this (by decide);cases E.pD.row.symm.trans Fs.row;rw[<-E.pD.eq.trans Fs.eq.symm,<-E.pD.eqP.trans Fs.eqP.symm]at h;exact h
 have Ed:P.length<=64:=by have F:=E.pH.len;have h2:=E.pH.l64;omega
 obtain⟨S,hS⟩:=AI (DF x L P W);rw[hS]at d1 d2 d6 Yt Dz F;have Q : ∀k,k<S.length->A4 (Ii x n b S W) k=Jj b.AE (x.CC ⟨0,false⟩ n.AE) S n.AE.length W (HA x.f.params.Al W) k:=λk I=>AIK I
 have A1 : ∀k,k<S.length->(Jr S (n.AE.length:Int) S.length)[k]?=some [.sl [],.int .i64 (S.getD k 0),.int .i64 ((S++[(n.AE.length:Int)]).getD (k+1) 0)]:=λk I=>by unfold Jr;rw[CM,List.getElem?_range I];rfl
 have Av:=eZ S (n.AE.length:Int) S.length;obtain⟨K,hK⟩:=AI (Ii x n b S W);rw[hK]at d1 d2 d6 F Q;obtain⟨A9,A3⟩:=AI (HA x.f.params.Al W);rw[A3]at Dz hI Q;generalize Iy:x.f.params.Al=q at d6 F;have A8:=oo q W d1 d3;have Ir:=λ(k:Nat) (I:k<K.length)=>iQ q W d1 d3 I
 obtain⟨EK,A0⟩:=ANj q K A6 W;obtain⟨N,hN⟩:=AI (Gq q K A6 W);rw[hN]at A8 Ir A0 d6;have eB : ∃w h d,GZ q K A6 W=Bf w h d N:=⟨_,_,_,by unfold GZ;rw[hN]⟩
 obtain⟨w,h,d,eB⟩:=eB;rw[eB]at F EK A0;obtain⟨R,hR⟩:=AI (Jr S (n.AE.length:Int) S.length);rw[hR]at F Av A1;generalize hm:S.length=m at Av A1 Q d2 Yt Dz;obtain⟨ns,Fg⟩:=AI (AA.AG N);have IJ:m<=ns.length:=by rw[<-Fg,GA];omega
 have row : ∀k (z:AA),N[k]?=some z->ns[k]?=some z.row:=λk z I=>by rw[<-Fg,Dt,CM,I];rfl
 have A5 : ∀k,k<m->∃z,N[k]?=some z/\z.D8=true/\0<=z.x/\(0<k->A9<=z.x)/\(1<P.countP (rQ (S.getD k 0) ((S++[(n.AE.length:Int)]).getD (k+1) 0))->z.x+z.w<=W)/\z.x+z.w<=w:=λk I=>by
  have F:=Ir k (by omega);rw[Q k I]at F;obtain⟨g1,g2,g3⟩:=Dz k I;exact⟨_,F,Tt d6 _ (Cj F),g1,g2,g3,A0 _ (Cj F)⟩
 obtain⟨LC,jP⟩:=AI (L.map El);obtain⟨PR,EO⟩:=AI (P.map PX);have Ut:AV P=.sl PR:=by rw[rS,EO]
 obtain⟨M,hM⟩:=AI P.length;have U:PR.length=M:=by rw[<-EO,Ch,hM]
 have B0 : ∀(i:Nat) (v:Int),P[i]?=some v->PR[i]?=some [.int .i64 v]:=λi v H=>by rw[<-EO,CM,H];rfl
 rw[jP]at hV hp;rw[Ut]at hp;have EK:W<=w:=EK;have f2 : ¬(ns.length:Int)<(m:Int):=by omega
 clear E G6 Dz Ir Q A0 hS hK hN hR eB d1 d3 d4 d6 jP EO Ut A3;unfold Ms at *
 simp only[Am,As,Bf,Aj,AR]at F hp ⊢;simp only[AA.vs,AA.row,List.map_cons,List.map_nil,AV,Fg]at F;refine en func6 ntmps6 ?_;refine wy (cj2 @Av @f2 AAB) (cj4 h0 F hp hV trivial) ⟨?_⟩;refine lp (ι:={ k:Nat // k<=m }) (λk=>[(14,.c (.int .i64 (k.1:Int)))]) (λ_=>[O.box 30 (HD x) false,O.box 33 n.vs false,O.box 35 [.c (.int .i64 W),.c (.str sn)] false,O.box 41 [.c (.int .i64 3),.c (.str ⟨#[]⟩),.c (.int .i64 0),.c (.int .i64 w),.c (.int .i64 h),.c (.int .i64 d),.c (.int .i64 0),.c (.int .i64 0),.c (.sl ns),.c (.int .i64 0),.c (.sl [])] false,O.box 41 b.vs false]) (λk=>m - k.1) ⟨0,CI _⟩ ?_ ?_;all_goals simp only[CG,Bw,CO,Ag,Ai]
 exact DH;rintro ⟨k,I⟩;simp only;by_cases o:k<m
 . obtain⟨z,hz,zp,z1,z2,z3,z4⟩:=A5 k o;have zl:=Mq zp;have rk:=A1 k o;have eQ:=gx rk;have rz:=row k z hz;obtain⟨J,KD⟩:=AI (S.getD k 0);obtain⟨H,B1⟩:=AI ((S++[(n.AE.length:Int)]).getD (k+1) 0);rw[KD,B1]at rk z3;have eQ:=gx rk;obtain⟨g0,g1,g2,g3,g4,g5,g6,g7,g8,g9,B2⟩:=z;simp only[AA.row]at rz z1 z2 z3 z4 zl;have su:=gx rz;clear A5 row hz zp;have l1:k<R.length:=by omega
   have l2:k<ns.length:=by omega
   refine wy (cj2 @o @Av AAB) trivial ⟨?_⟩;refine lp (ι:={ i:Nat // i<=M }) (λi=>[(15,.c (.int .i64 (((P.take i.1).countP (rQ J H):Nat):Int))),(16,.c (.int .i64 (i.1:Int)))]) (λ_=>[O.box 30 (HD x) false,O.box 33 n.vs false,O.box 35 [.c (.int .i64 W),.c (.str sn)] false,O.box 41 [.c (.int .i64 3),.c (.str ⟨#[]⟩),.c (.int .i64 0),.c (.int .i64 w),.c (.int .i64 h),.c (.int .i64 d),.c (.int .i64 0),.c (.int .i64 0),.c (.sl ns),.c (.int .i64 0),.c (.sl [])] false,O.box 41 b.vs false]) (λi=>M - i.1) ⟨0,CI _⟩ ?_ ?_;all_goals simp only[CG,Bw,CO,Ag,Ai]
   have t0:(P.take 0).countP (rQ J H)=0:=rfl;exact ER @t0;rintro ⟨i,cq⟩;simp only;by_cases BD:i<M;obtain⟨v,hv⟩:∃v,P[i]?=some v:=⟨_,BE (by omega)⟩
   have rp:=B0 i v hv;have A2:=gx rp;have l3:i<PR.length:=by omega
   have G:(P.take (i+1)).countP (rQ J H)=(P.take i).countP (rQ J H)+if rQ J H v=true then 1 else 0:=by rw[List.take_add_one,hv,ACp];simp[ACq]
   have DK:=List.countP_le_length (p:=rQ J H) (l:=P.take i);rw[Fa]at DK;obtain⟨c,hc⟩:=AI ((P.take i).countP (rQ J H));rw[hc]at G DK ⊢;have v7:AZ.wrap ((i:Int)+1)=((i+1:Nat):Int):=by rw[Ac];simp
   have v8:AZ.wrap ((c:Int)+1)=((c+1:Nat):Int):=by rw[Ac];simp
   by_cases c1:J<=v;by_cases c2:v<H;have e:rQ J H v=true:=by unfold rQ;rw[decide_eq_true c1,decide_eq_true c2];rfl
   rw[e,if_pos rfl]at G;refine wy (cj9 @BD @U @rk @eQ @l1 @rp @A2 @l3 @c1<|cj3 @c2 @v7 @v8 AAB) trivial ⟨?_⟩;refine⟨⟨i+1,by omega⟩,by simp only;omega,?_⟩;simp only[G];exact wd 5;have e:rQ J H v=false:=by unfold rQ;rw[decide_eq_false c2,Bool.and_false]
   rw[e,if_neg (by decide),M8]at G;refine wy (cj9 @BD @U @rk @eQ @l1 @rp @A2 @l3 @c1<|cj2 @c2 @v7 AAB) trivial ⟨?_⟩;refine⟨⟨i+1,by omega⟩,by simp only;omega,?_⟩;simp only[G];exact wd 5;have e:rQ J H v=false:=by unfold rQ;rw[decide_eq_false c1,Bool.false_and]
   rw[e,if_neg (by decide),M8]at G;refine wy (cj9 @BD @U @rk @eQ @l1 @rp @A2 @l3 @c1<|cj @v7 AAB) trivial ⟨?_⟩;refine⟨⟨i+1,by omega⟩,by simp only;omega,?_⟩;simp only[G];exact wd 5
   . obtain rfl:i=M:=by omega
     rw[List.take_of_length_le (by omega)];generalize hc:P.countP (rQ J H)=c at z3 ⊢;have v7:AZ.wrap ((k:Int)+1)=((k+1:Nat):Int):=by rw[Ac];simp
     have v8:AZ.wrap (g6+g3)=g6+g3:=Ac;have q1 : ¬g6<0:=by omega
     have q2 : ¬w<g6+g3:=by omega
     have b1:((1:Int)<(c:Int)/\¬W<g6+g3)\/(¬(1:Int)<(c:Int)/\(0:Int)=0):=by
      by_cases h:(1:Int)<(c:Int);have:=z3 (by omega);exact .inl ⟨h,by omega⟩;exact .inr ⟨h,rfl⟩
     have b2:((0:Int)<(k:Int)/\¬g6<A9)\/(¬(0:Int)<(k:Int)/\(0:Int)=0):=by
      by_cases h:(0:Int)<(k:Int);have:=z2 (by omega);exact .inl ⟨h,by omega⟩;exact .inr ⟨h,rfl⟩
     clear z2 z3;rcases b1 with ⟨c1,q3⟩|⟨c1,q3⟩<;>rcases b2 with ⟨c2,q4⟩|⟨c2,q4⟩
     all_goals
      refine wy (cj9 @BD @U @rz @su @l2 @v7 @v8 @q1 @q2<|cj4 @q3 @q4 @c1 @c2 AAB) (cj hI<|trivial) ⟨?_⟩;exact⟨⟨k+1,by omega⟩,by simp only;omega,wd 5⟩
 obtain rfl:k=m:=by omega
 exact wz (cj3 @o @Av @EK AAB) trivial
end Go.Proofs.YtlpomcliejmedaaGreat
namespace Go.Proofs.YtlpomcliejmedaaGreat.displayFits
open Go.ChangeShapes Go.WideShapes Go.ChangeAt Go.RowKit
theorem j0:H9.wf (OpenSpec.ofChange Pv)=true:=by kernel_rfl
theorem j3:Jv.params.all (AF.readableRec ·)=true:=by kernel_rfl
theorem j4:namedTie AF H9.named Pv.vars=true:=by kernel_rfl
theorem j5:(H9.stops ==[])=true:=by kernel_rfl
theorem j7:(H9.knobs ==[])=true:=by kernel_rfl
theorem j9:(H9.inPlace==AF.inPlace 6)=true:=by kernel_rfl
theorem ZA:(H9.unfollowed==AF.unfollowed 6)=true:=by kernel_rfl
theorem ZB:(H9.recurses==AF.recurses 6)=true:=by kernel_rfl
theorem ZC:(H9.named==AF.varsNamed 6)=true:=by kernel_rfl
theorem ZD:(H9.maps==(Jv.params.toList++Pv.plain.varTypes AF).any (AF.mapsRec ·))=true:=by kernel_rfl
theorem ZE:(H9.ifaces==(Jv.params.toList++Pv.plain.varTypes AF).any (AF.ifacesRec ·))=true:=by kernel_rfl
theorem ZF:(H9.mapsOut==AF.mapsAmong Jv.resultTypes.toList)=true:=by kernel_rfl
theorem ZG:(H9.loops==(Jv.params.toList++Pv.plain.varTypes AF).any (AF.loopsFrom ·))=true:=by kernel_rfl
theorem ZH:(H9.wideKeys==(Jv.params.toList++Pv.plain.varTypes AF++Jv.resultTypes.toList).any (AF.wideKeysFrom ·))=true:=by kernel_rfl
theorem ZI:Pv.vars.all (AF.varReadable ·)=true:=by kernel_rfl
theorem ZJ:Jv.resultTypes.all (λt=>AF.readableRec t && decide (t<AF.types.size))=true:=by kernel_rfl
theorem ZK:(H9.ifacesOut==Jv.resultTypes.toList.any (AF.ifacesRec ·))=true:=by kernel_rfl
theorem ZL:(H9.loopsOut==Jv.resultTypes.toList.any (AF.loopsFrom ·))=true:=by kernel_rfl
theorem ZM:(H9.pinned==H9.pinnedBy)=true:=by kernel_rfl
theorem ZN:(H9.veiled==(Jv.params.toList++Pv.plain.varTypes AF++Jv.resultTypes.toList).any (AF.veiledRec ·))=true:=by kernel_rfl
theorem ZO:H9.veiledFits AF Jv.params.toList (Jv.params.toList++Pv.plain.varTypes AF++Jv.resultTypes.toList)=true:=by kernel_rfl
theorem lifted (os:Os)(E:os.Started)(H:Type)(enc:TypeId×Value->H) :
 ReturnsInHanded {} RF os 6 .any (Pv.pre6 enc AF Jv H9.domain false) (Pv.post enc AF Jv false true false false):=by
 refine returnsInHanded_of_change (C:=RF) own E (by kernel_rfl) Tryz.func6
  (uD (enc:=enc) (C:=RF) false ⟨#[],#[.agg (#[.slice none 0 0,.slice none 0 0]++Array.replicate 20 (.int .i64 0)++#[.slice none 0 0]),.agg #[.int .i64 0,.string ⟨#[]⟩,.int .i64 0,.slice none 0 0],.agg #[.int .i64 0,.string ⟨#[]⟩]],[]⟩ 8 (by kernel_rfl) (by kernel_rfl) (by kernel_rfl) (by kernel_rfl)) ?_
 intro W G args ds gs before M U o _;have B : ∀(j:Nat) t v,Jv.params[j]?=some t->args[j]?=some v->Value.okWide AF W .any G t v:=M;have QJ:=U;obtain⟨p,q,K,hV,rfl,cm,TV⟩:=U;have S:DataW.TrodAll enc AF W 0 (λ_=>true) true Jv.params.toList args.toList ds p:=K;rw[Tryz.params6]at S B;obtain⟨I,v1,F,d0,d1,d2,p0,p1,p2,rfl,rfl,rfl,h0,h1,h2⟩:=trodAll_three S;clear K M;obtain⟨x,J,c0⟩:=Qi Tryz.underlying30 (B 0 30 I rfl rfl) h0 (λ_=>sA);obtain⟨b,hb,c1⟩:=Qi Tryz.underlying33 (B 1 33 v1 rfl rfl) h1 (λ_=>km _);obtain⟨m,hm,c2⟩:=Qi Tryz.underlying35 (B 2 35 F rfl rfl) h2 (λ_=>r9);exact rW (args:=#[I,v1,F]) (AOw x b m.1 m.2 J.1 J.2.1 J.2.2 hb hm) (by
  simp only[AO];exact⟨I,[v1,F],rfl,c0,v1,[F],rfl,c1,F,[],rfl,c2,rfl⟩) (Q:=λv R=>Pv.post enc AF Jv false true false false W #[I,v1,F] v R) (λR hk=>rX QJ rfl rfl Tryz.underlying4 laid hk (by
  rw[Tryz.params6];intro t z;simp only[List.mem_cons,List.not_mem_nil,or_false]at z;rcases z with rfl|rfl|rfl<;>exact⟨by kernel_rfl,of_decide_eq_true (by kernel_rfl)⟩) rfl rfl rfl)
theorem closed:joinedFacts AF 6 Jv Pv H9=true:=by
 have J:laidOutB AF=true:=q1;have K:mapsRowed AF=true:=q2;have M:(AF.stops ==[])=true:=q6;have Q:(AF.stopKnobs ==[])=true:=q8;have B:(H9.plainKeys==AF.plainKeys)=true:=sO;have E:H9.shortTexts.isNone=true:=sP;have F:AF.stopsHeard=true:=sQ;have G:AF.mayEnter=true:=sR;have H:(H9.lifted==AF.liftsFinal)=true:=sS;have I:(AF.make==some H9.make)=true:=sT;unfold joinedFacts;simp only[j0,J,K,j3,j4,j5,M,j7,Q,j9,ZA,ZB,ZC,ZD,ZE,ZF,ZG,ZH,ZI,ZJ,ZK,ZL,B,E,F,G,H,I,ZM,ZN,ZO,Bool.and_self,Bool.true_and,Bool.and_true];rfl
theorem over:H9.holds Tryz.pinned (OpenSpec.ofChange Pv):=
 OpenClaim.holds_of_wide 6 Jv rfl rfl rfl rfl rfl rfl rfl ⟨rfl,rfl,rfl,rfl,rfl⟩ rfl rfl rfl rfl rfl (by kernel_rfl) Tryz.func6 closed
  (of_decide_eq_true (by kernel_rfl)) (by unfold Func.isWrapper;first|(rw[if_pos (by decide +kernel)];kernel_rfl)|(rw[if_neg (by decide +kernel)];exact⟨rfl,rfl⟩))
  (λos B H E _=>lifted os B H E)
theorem proved:Rows.DisplayFitsSaid:=
 over
#print axioms proved
end Go.Proofs.YtlpomcliejmedaaGreat.displayFits
