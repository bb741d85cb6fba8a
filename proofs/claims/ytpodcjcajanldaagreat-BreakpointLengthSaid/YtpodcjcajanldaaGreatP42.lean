/- Part of the proof of breakpointLength.proved. Conditions: none. (Joined and shortened by a program.) -/
import Derived.Test.YtpodcjcajanldaaGreatP38
set_option linter.unusedVariables false
set_option linter.unusedSimpArgs false
set_option maxRecDepth 100000
set_option maxHeartbeats 16000000
open List renaming length_cons→BQ,getElem?_cons_succ→Kd,replicate→As,replicate_succ→Ao,set_cons_zero→BC,set_cons_succ→Az,getElem?_eq_getElem→BP,mem_of_getElem?→C6,getElem?_map→Co
open Option.some renaming injEq→BE
open Bool renaming and_eq_true→An
open Go.Proofs.Tryz renaming results87→qD
open Go.IntKind renaming i64→Ad
namespace Go.Proofs.YtpodcjcajanldaaGreat
open Go.RowKit
theorem AGo (q v:Int):∀(l:List Int) (p:Int),(R0 q v p l).length=l.length
 | [],_=>rfl
 | c::l,p=>by simp only[R0,BQ,AGo q v l]
theorem Xw (q v:Int)(l:List Int):(DK q v l).length=l.length:=by
 cases l with
 | nil=>rfl
 | cons c l=>simp only[DK,BQ,AGo]
theorem AGm (q v:Int):∀(l:List Int) (p:Int) (i:Nat) (a b:Int),(p::l)[i]?=some a->l[i]?=some b->(R0 q v p l)[i]?=some (Md q a.toNat b.toNat v)
 | [],_,_,_,_,_,h=>by simp at h
 | c::l,p,0,a,b,h1,h2=>by
   simp only[List.getElem?_cons_zero,BE]at h1 h2;subst h1 h2;rfl
 | c::l,p,i+1,a,b,h1,h2=>by
   simp only[R0,Kd]at h1 h2 ⊢;exact AGm q v l c i a b h1 h2
theorem AUT (q v:Int){l:List Int}{i:Nat}{a b:Int}(h1:l[i]?=some a)(h2:l[i+1]?=some b):(DK q v l)[i+1]?=some (Md q a.toNat b.toNat v):=by
 cases l with
 | nil=>simp at h1
 | cons c l =>
   simp only[DK,Kd]at h2 ⊢;exact AGm q v l c i a b h1 h2
theorem AUW (q v:Int)(l:List Int):(DK q v l).take 1++As (l.length - 1) 0=As l.length 0:=by
 cases l with
 | nil=>rfl
 | cons c l=>simp[DK,Ao]
theorem AGq {q v:Int}{l:List Int}{i:Nat}{a b:Int}(h1:l[i]?=some a)(h2:l[i+1]?=some b):(DK q v l).take (i+1+1)=(DK q v l).take (i+1)++[Md q a.toNat b.toNat v]:=by
 rw[List.take_add_one,AUT q v h1 h2];rfl
theorem AAf {l:List En}(h:Mr l=true):∀e∈l,e.text.size<=maxLen:=fun e he=>by
 unfold Mr at h;rw[An]at h;have:=sD l [] h.1 e he;simp only[En.ok,An,decide_eq_true_eq]at this;unfold maxLen;omega
theorem rP : ∀l:List Nd,l.length<=Nd.A9 l
 | []=>Nat.le_refl _
 | b::l=>by
   have:=rP l;simp only[Nd.A9,BQ];have:0<b.cnt:=by cases b;simp only[Nd.cnt];omega
   omega
theorem ARv (x:Ae)(s:AM)(kids:List Nd)(hx:x.Ok)(hs:s.ok=true)(Au:(EV kids).Bc)(hc:(EV kids).cnt<=900000)(hv:(EV kids).Av=true):AC Tryz.prog 87 [.agg x.f.vs,.c (Dj x.d),.c (.sl (Nd.rows kids)),Ai s] (.Bk [.c (Ab (x.DK s kids)),Af 0]):=by
 have hd:=hx.dl;have ED:=Mv x.f;rw[hx.val]at ED;have HN:=AFH x.d (by omega) (AAf hx.dv);rw[hx.dv]at HN;have Rc:=Xy s;rw[hs]at Rc;have dg:=AR1 kids Au hc;rw[hv]at dg;have Bp:kids.length<=900000:=by have:=uk kids;have:=rP kids;omega
 have CU:=AQv x.d kids (by omega) (by omega) (ADi Au);have WY:=vN hx.dv kids;have Ir:=KL x.f s;rw[show Ha x.f s=(x.sz s,0)from if_neg (by simp[hs,hx.val])]at Ir;have hsc:=Dn x.f.params.BZ (x.sz s);unfold Ae.DK;have hq:scale x.f.params.BZ (x.sz s)=x.BZ s:=rfl;rw[hq]at hsc;obtain⟨Q,hQ⟩:=AE (x.BZ s);rw[hQ]at hsc ⊢;obtain⟨cl,hcc⟩:=AE (LB (Ga x.d kids));have AMQ:cl.length=kids.length:=by rw[<-hcc,nH,U4]
 rw[hcc]at CU WY ⊢;obtain⟨n,hn⟩:=AE cl.length;have hn9:n<=900000:=by omega
 have Ew:(n:Int)<=9223372036854775807:=by omega
 have FR:8*(n:Int)<=281474976710656:=by omega
 obtain⟨rs,Ak⟩:=AE (cl.map (fun n=>[C.int .i64 n]));have Am:rs.length=n:=by rw[<-Ak];simp[hn]
 have LY:Ab cl=.sl rs:=by rw[<-Ak];rfl
 rw[LY]at CU;have hsp:=ARu Q;unfold Ai at Rc Ir hsp ⊢;simp only[Af]at Ir ⊢;refine en Tryz.func87 Tryz.ntmps87 ?_;refine wy (cj @Am<|cj @Ew<|cj @FR<|qD) (cj ED<|cj HN<|cj Rc<|cj dg<|cj Ir<|cj hsc<|cj CU<|trivial) ⟨?_⟩;rw[show As n (V.c (C.int .i64 0))=Ck ((DK Q s.level cl).take 1++As (n - 1) 0)by rw[<-hn,AUW];simp[Ck]];refine lp (ι:={ k:Nat // k=0\/k+1<=n }) (fun k=>[(15,.c (.int .i64 ((k.1:Int)+1)))]) (fun k=>[.box 27 x.f.vs false,.box 35 [.c (.int .i64 s.level),.c (.bool s.GJ)] false,.box 3 (Ck ((DK Q s.level cl).take (k.1+1)++As (n - (k.1+1)) 0)) false]) (fun k=>n - k.1) ⟨0,.inl rfl⟩ ?_ ?_;all_goals simp only[Br,List.foldl_cons,List.foldl_nil,BC,Az]
 . refine Le.BV (by simp[A5])
 . rintro ⟨k,hk⟩;simp only;by_cases hlt:k+1<n
   . obtain⟨a,ha⟩:∃a,cl[k]?=some a:=⟨_,BP (by omega)⟩
     obtain⟨b,hb⟩:∃b,cl[k+1]?=some b:=⟨_,BP (by omega)⟩
     have hab:=WY a (C6 ha);have dQ:=WY b (C6 hb);have Hu:rs[k]?=some [.int .i64 a]:=by rw[<-Ak,Co,ha];rfl
     have Kt:rs[k+1]?=some [.int .i64 b]:=by rw[<-Ak,Co,hb];rfl
     have Np:=gx Hu;have TE:=gx Kt;have hc1:=hsp a.toNat b.toNat s (by omega) (by omega);rw[show ((a.toNat:Nat):Int)=a by omega,show ((b.toNat:Nat):Int)=b by omega]at hc1;have Dv:=AGq (q:=Q) (v:=s.level) ha hb;have Dg:((DK Q s.level cl).take (k+1)).length=k+1:=by rw[List.length_take,Xw];omega
     obtain⟨D,hD⟩:=AE ((DK Q s.level cl).take (k+1));rw[hD]at Dv Dg ⊢;obtain⟨v,M7⟩:=AE (Md Q a.toNat b.toNat s.level);rw[M7]at hc1 Dv;obtain⟨r,hr⟩:=AE (n - (k+1+1));have dt:n - (k+1)=r+1:=by omega
     rw[dt,Ao];obtain⟨Z,hZ⟩:=AE (Ck (D++0::As r 0));have KA:Z.length=n:=by rw[<-hZ,Xa];simp;omega
     have z0:Z.set (k+1) (.c (.int .i64 v))=Ck (D++[v]++As r 0):=by rw[<-hZ,mh Dg v];simp
     have hkn:k<n:=by omega
     have CA:(k:Int)+1<(n:Int):=by omega
     have hw:Ad.wrap ((k:Int)+1 - 1)=(k:Int):=by rw[Aq];omega
     have hw2:Ad.wrap ((k:Int)+1+1)=((k+1:Nat):Int)+1:=by rw[Aq];push_cast;rfl
     have htn:((k:Int)+1).toNat=k+1:=by omega
     have RW : ¬(k:Int)+1<0:=by omega
     have AMx:0<=(k:Int)+1:=by omega
     rw[hZ];refine wy (cj @Am<|cj @hlt<|cj @CA<|cj @Hu<|cj @Kt<|cj @Np<|cj @TE<|cj @KA<|cj @z0<|cj @hw<|cj @hw2<|cj @htn<|cj @RW<|cj @AMx<|cj @hkn<|qD) (cj hc1<|trivial) ⟨?_⟩;refine⟨⟨k+1,.inr (by omega)⟩,by first|omega|(simp only;omega),?_⟩;simp only[Dv,hr,List.append_assoc,List.cons_append,List.nil_append];refine Le.BV (by simp[A5])
   . have CA : ¬(k:Int)+1<(n:Int):=by omega
     have Dv:(DK Q s.level cl).take (k+1)++As (n - (k+1)) 0=DK Q s.level cl:=by
      rw[List.take_of_length_le (by rw[Xw];omega),show n - (k+1)=0 by omega];simp
     rw[Dv];have hpl:(DK Q s.level cl).length=n:=by rw[Xw,hn]
     obtain⟨D,hD⟩:=AE (DK Q s.level cl);rw[hD]at hpl ⊢;have hch:Gr 1 n (D.map (C.int .i64))=D.map fun n=>[C.int .i64 n]:=by have:=XY D [];rw[List.append_nil,hpl]at this;exact this
     refine wu (CJ.mk 13) (cj @Am<|cj @CA<|cj @hlt<|qD) trivial ⟨?_⟩;refine AW.AR 2 rfl (Xb _) (by simp only[V.BG,V.AR,List.drop_zero,hch,if_true];exact rfl) (by simp only[Az,BC,List.map_cons,List.map_nil,O.AR,XZ,V.BG,V.AR];exact rfl) ?_;exact wz (cj @Ab.eq_1<|qD) trivial
end Go.Proofs.YtpodcjcajanldaaGreat
