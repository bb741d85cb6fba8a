/- Part of the proof of breakpointLength.proved. Conditions: none. (Joined and shortened by a program.) -/
import Derived.Test.YtpodcjcajanldaaGreatP30
set_option linter.unusedVariables false
set_option linter.unusedSimpArgs false
set_option maxRecDepth 100000
set_option maxHeartbeats 16000000
open Go.Proofs.Tryz renaming prog→AD,results85→tx,results43→ABn
open List renaming set_cons_zero→BC,set_cons_succ→Az,foldl_cons→Bl,foldl_nil→B7,length_map→Cg
namespace Go.Proofs.YtpodcjcajanldaaGreat
open Go.RowKit
theorem AU9 {S0:Ba}{w0:Bs}{x:Cx}{w:World}{h:List O}(g:Good S0 w0 x w (fun k=>h[k]?))(Ah:TypeId)(es n:Nat) :
 Good S0 w0 (x.grow h.length ⟨0,0,true,n,true⟩ 0) w (fun k=>(h++[O.tok Ah es n])[k]?)/\Ext x (x.grow h.length ⟨0,0,true,n,true⟩ 0) w w:=by
 have hk : ¬x.dom h.length:=fun hd=>by obtain⟨o,ho⟩:=g.dom _ hd;simp at ho
 have he:Ext x (x.grow h.length ⟨0,0,true,n,true⟩ 0) w w:=⟨⟨fun _ _ h=>.inl h,fun _ _ _ _ h=>h⟩,fun _ h=>.inl h,fun i hi=>by
  have:i≠h.length:=fun e=>hk (e ▸ hi)
  simp[Cx.grow,this,Es.refl]⟩
 have g':=g.IN h.length (.tok Ah es n) he (.GA (AS.refl w)) (fun i=>Iff.rfl) (fun i hi=>by simp[Cx.grow,hi]) (fun h=>by simp[Cx.grow]at h) ⟨by simp[Cx.grow],by simp[Cx.grow],fun h=>by simp[Cx.grow]at h⟩ (fun b j h=>h.elim .inl fun h=>by omega) (fun j hx=>by have:=hx.1;simp[Cx.grow]at this);refine⟨?_,he⟩;have e:=Lm h (some (h.length,O.tok Ah es n)) (fun k o e=>by cases e;exact Nat.le_refl _);simp only[CG,Nat.lt_irrefl,if_false,Heap.upd]at e;rw[e];exact g'
theorem ALK {x:Cx}{w:World}{k es:Nat}{rows:List (List C)}{u:Value}(hr : ∀r∈rows,r.length=es)(h:CV x w (.full rows) u):CV (x.grow k ⟨0,0,true,rows.length,true⟩ 0) w (.gr k es rows) u:=by
 simp only[CV]at h ⊢;obtain⟨A,e,h⟩:=h;refine⟨.inr rfl,by simp[Cx.grow],Ap.mono ⟨fun _ _ h=>.inl h,fun _ _ _ _ h=>h⟩ _ _ h,hr,by simp[Cx.grow],fun _=>?_⟩;simp only[Cx.grow,if_true];exact⟨A,e⟩
theorem Le.AU8 {m:Mo}{t:List V}{h:List O}(i:Nat)(Ah:TypeId)(es:Nat)(rows:List (List C))(hi:t[i]?=some (.full rows))(hr : ∀r∈rows,r.length=es):Le m ⟨t,h⟩ ⟨t.set i (.gr h.length es rows),h++[.tok Ah es rows.length]⟩:=fun S0 w0 x a w hm hA=>by
 obtain⟨g',he⟩:=AU9 hA.good Ah es rows.length;obtain⟨u,hu,hc⟩:=hA.tm.get i _ hi;refine⟨_,g',?_,hA.df⟩;have:=(AL.mono he _ _ hA.tm).set i (ALK (k:=h.length) (es:=es) hr hc);have e:a.tmps.toList.set i u=a.tmps.toList:=by
  apply List.ext_getElem?;intro j;rw[List.getElem?_set];split
  . rename_i e;subst e;split
    . rw[hu]
    . rename_i hlt;rw[List.getElem?_eq_none (by omega)]
  . rfl
 rw[e]at this;exact this
theorem ACZ (cls:List Int)(k:Nat)(h:permB cls k=true):(plcs cls (k+1)).map TL=(plcs cls k).map TL++[TL (k:Int)]:=by simp only[plcs,if_pos h,List.map_append];rfl
theorem AB2 (cls:List Int)(k:Nat)(h:permB cls k=false):plcs cls (k+1)=plcs cls k:=by simp only[plcs];rw[if_neg (by rw[h];simp),List.append_nil]
theorem ABt (d:List En)(l:List Nd)(hd:d.length<=1000000)(hs : ∀e∈d,e.text.size<=maxLen)(Au:(EV l).Bc)(hc:(EV l).cnt<=100000):AC AD 85 [.c (Dj d),.c (.sl (Nd.rows l))] (uq (plcR d l)):=by
 have h1:=pClasses_a d l hd hs Au (by omega);have Fq:=Ny l;have lB:=uk l;have hlen:=@clsR_len d l;unfold plcR;obtain⟨⟨cls,e⟩,hR⟩:=AE (rL d l);rw[hR]at h1 hlen ⊢;unfold uq Af at *
 simp only at h1 hlen ⊢;have hz:Ab []=.sl []:=rfl;obtain⟨rs,Ak⟩:=AE (Nd.rows l);have Am:rs.length=l.length:=by rw[<-Ak];exact G0 l
 rw[Ak]at h1 ⊢;obtain⟨n,hn⟩:=AE l.length;rw[hn]at Am Fq hlen ⊢;by_cases he:e=0
 . rw[if_neg (by omega)];have CU:=hlen he;subst he;by_cases h0:n=0
   . rw[if_pos h0];simp only;rw[hz];have Mx:(rs.length:Int)=0:=by omega
     subst h0;refine en Tryz.func85 Tryz.ntmps85 ?_;exact wz (cj @Am<|cj @Mx<|tx) (cj h1<|trivial)
   . rw[if_neg h0];simp only;have Mx : ¬(n:Int)=0:=by omega
     have hper:=fun k hk=>ppermitted_a cls k hk (by omega)
     obtain⟨CL,hC⟩:=AE (Ab cls);rw[hC]at h1 hper;refine en Tryz.func85 Tryz.ntmps85 ?_;refine wy (cj @Am<|cj @Mx<|tx) (cj h1<|trivial) ⟨?_⟩;refine AW.le (Le.AU8 8 3 1 [[.int .i64 0]] rfl (by simp)) ?_;simp only[List.length_nil,List.length_cons,Nat.reduceAdd,BC,Az,List.nil_append];refine lp (ι:={ k:Nat // k<=n }) (fun k=>[(8,.gr 0 1 ((plcs cls k.1).map TL)),(25,.c (.int .i64 (k.1:Int)))]) (fun k=>[.tok 3 1 (plcs cls k.1).length]) (fun k=>n - k.1) ⟨0,by simp⟩ ?_ ?_;all_goals simp only[Br,Bl,B7,BC,Az]
     . refine Le.BV (by simp[A5,plcs,TL])
     . rintro ⟨k,hk⟩;simp only;by_cases hlt:k<n
       . have hp:=hper k (by omega);have hpl:=plcs_len cls k;obtain⟨M,hM⟩:=AE ((plcs cls k).length);cases hb:permB cls k with
         | false =>
           rw[hb]at hp;rw[<-AB2 cls k hb];have hM':M=(plcs cls (k+1)).length:=by rw[AB2 cls k hb,hM]
           refine wy (cj @hlt<|tx) (cj hp<|trivial) ⟨?_⟩;exact⟨⟨k+1,by omega⟩,by simp only;omega,wd 1⟩
         | true =>
           rw[hb]at hp;have Dv:=ACZ cls k hb;have hM':M+1=(plcs cls (k+1)).length:=by simp only[plcs,if_pos hb,List.length_append,hM];rfl
           have L9:((plcs cls k).map TL).length=M:=by rw[Cg,hM]
           have hall:=AN8 (plcs cls k);obtain⟨RR,dI⟩:=AE ((plcs cls k).map TL);rw[dI]at Dv L9 hall ⊢;have F8:M+1<=maxLen:=by unfold maxLen;omega
           have Fp:(M+1)*8<=140737488355328:=by omega
           have Ws:RR++[[C.int .i64 (k:Int)]]=(plcs cls (k+1)).map TL:=Dv.symm;clear Dv;rw[hM];refine wy (cj @hlt<|cj @L9<|cj @F8<|cj @Fp<|cj @Ws<|cj @hM'<|tx) (cj hp<|trivial) ⟨?_⟩;exact⟨⟨k+1,by omega⟩,by simp only;omega,wd 1⟩
       . have ek:k=n:=by omega
         subst ek;rw[AOO (plcs cls k)];exact wz (cj @hlt<|tx) trivial
 . rw[if_pos he];simp only;rw[hz];refine en Tryz.func85 Tryz.ntmps85 ?_;exact wz (cj @he<|tx) (cj h1<|trivial)
theorem ACL (L:List Int)(hl:L.length<=1000000):AC AD 43 [.c (Ab L),.c (Ab L)] (.c (.bool true)):=by
 obtain⟨rs,Ak⟩:=AE (L.map TL);have Am:rs.length=L.length:=by rw[<-Ak,Cg]
 rw[AOO,Ak];refine en Tryz.func43 Tryz.ntmps43 ?_;refine wy (cj @Am<|ABn) trivial ⟨?_⟩;refine lp (ι:={ k:Nat // k<=L.length }) (fun k=>[(4,.c (.bool false)),(5,.c (.int .i64 (k.1:Int)))]) (fun _=>[]) (fun k=>L.length - k.1) ⟨0,by simp⟩ ?_ ?_;all_goals simp only[Br,Bl,B7,BC,Az]
 . refine Le.BV (by simp[A5])
 . rintro ⟨k,hk⟩;simp only;by_cases hlt:k<L.length
   . obtain⟨c,hc⟩:∃c,L[k]?=some c:=⟨_,List.getElem?_eq_getElem hlt⟩
     have BN:rs[k]?=some [.int .i64 c]:=by rw[<-Ak,List.getElem?_map,hc];rfl
     have CW:k<rs.length:=by omega
     have CH:=gx BN;refine wy (cj @Am<|cj @hlt<|cj @CW<|cj @BN<|cj @CH<|ABn) trivial ⟨?_⟩;exact⟨⟨k+1,by omega⟩,by simp only;omega,wd 0⟩
   . exact wz (cj @Am<|cj @hlt<|ABn) trivial
def ea:Nd:=⟨2,⟨#[97]⟩,0,[]⟩
def nz:Nd:=⟨2,⟨#[43]⟩,0,[]⟩
def nb:List En:=[⟨⟨#[43]⟩,2,false,false⟩]
theorem ACJ:plcR nb [ea,nz,ea]=([0,1],0):=by
 have h1:Mr nb=true:=by decide +kernel
 have h2:(EV [ea,nz,ea]).Av=true:=by decide +kernel
 have c1:LO nb ea=0:=by rw[rK];decide +kernel
 have c2:LO nb nz=2:=by rw[rK];decide +kernel
 have e:Ga nb [ea,nz,ea]=[0,2,0]:=by simp[Ga,c1,c2]
 have ec:rL nb [ea,nz,ea]=(LB [0,2,0],0):=by unfold rL;rw[if_neg (by rw[h1,h2];simp),e]
 unfold plcR;rw[ec];decide +kernel
theorem ACK:AC AD 40 [] (.c (.bool true)):=by
 have hp:=ABt nb [ea,nz,ea] (by decide) (by decide +kernel) ⟨by decide,by decide,⟨by decide,by decide,trivial⟩,⟨by decide,by decide,trivial⟩,⟨by decide,by decide,trivial⟩,trivial⟩ (by decide +kernel);rw[ACJ]at hp;have hs:=ACL [0,1] (by decide);have e1:Dj nb=.sl [[.str ⟨#[43]⟩,.int .i64 2,.bool false,.bool false]]:=rfl;have e2:Nd.rows [ea,nz,ea]=[[.int .i64 2,.str ⟨#[97]⟩,.int .i64 0,.sl []],[.int .i64 2,.str ⟨#[43]⟩,.int .i64 0,.sl []],[.int .i64 2,.str ⟨#[97]⟩,.int .i64 0,.sl []]]:=rfl;have e3:Ab [0,1]=.sl [[.int .i64 0],[.int .i64 1]]:=rfl;unfold uq Af at hp;rw[e1,e2,e3]at hp;rw[e3]at hs;clear e1 e2 e3;refine en Tryz.func40 Tryz.ntmps40 ?_;exact wz Tryz.results40 (cj hp<|cj hs<|trivial)
end Go.Proofs.YtpodcjcajanldaaGreat
