/- Part of the proof of layoutAdvance.proved. Conditions: none. (Joined and shortened by a program.) -/
import Derived.Test.YtpodcjcajanldaaGreatL52
set_option linter.unusedVariables false
set_option linter.unusedSimpArgs false
set_option maxRecDepth 100000
set_option maxHeartbeats 16000000
open Go.Proofs.Tryz renaming prog→AD,func114→aE,ntmps114→aR,results114→NU,results115→Lt,results56→i6,results116→pV,results25→pz,func5→iV,results5→iz
open List renaming mem_cons_self→Er,replicate→As,replicate_succ→Ao,map_cons→Al,mem_map→DC,length_map→Cg,length_pos_iff→NP,nil_append→Bh,set_cons_succ→Az,set_cons_zero→Ax,drop_succ_cons→Be,drop_zero→BO,length_nil→B6,foldl_cons→Bl,foldl_nil→B7,getElem?_eq_getElem→BP,length_take→FW,cons_append→Bg,take_of_length_le→D9,map_nil→A8,mem_of_getElem?→C6,getElem?_map→Co,map_append→EX,mem_cons→Cb,getElem?_cons_succ→Kd
open Go.Builtin renaming zeroCells→JV
open Go.Value renaming int→YV
open Nat renaming mul_le_mul→oY,zero_add→Cu,le_refl→BW,zero_le→Cc
open Go.IntKind renaming i64→Ad
open Option.some renaming injEq→BE
open Int renaming le_refl→Mh
open Bool renaming and_eq_true→An
namespace Go.Proofs.YtpodcjcajanldaaGreat
open Go.RowKit
theorem ASG (l:List En)(hl:l.length<=1000000):∀b:Nd,b.Bc->AC AD 114 [.c (Dj l),At b] (.c (.int .i64 (LO l b))):=AD6 fun b ih Au=>by
 obtain⟨_,hlen,Ov⟩:=K7 b Au;have DX:=ASb l b.text hl;have Fq:=G0 b.kids;rw[rK];unfold At at *
 unfold Mt at DX;obtain⟨R,hR⟩:=AE (FC l b.text);rw[hR]at DX ⊢;obtain⟨k,hk⟩:=AE b.kind;rw[hk];by_cases k2:k=2
 . rw[if_pos k2];refine en aE aR ?_;have ff:=(cj @hk<|cj @k2<|NU)
   repeat any_goals (first|refine CC ?_|exact Bq ff|refine Bt ff ?_|refine A4 ff (DX) ?_|refine Bi ff ?_|((first|refine By ff ?_ ?_|refine B4 ff ?_ ?_|refine Bz ff ?_ ?_|refine B3 ff ?_ ?_)<;>intro h<;>try (exfalso;first|omega|contradiction)))
 rw[if_neg k2];by_cases k7:k=7\/k=8\/k=9
 . rw[if_pos k7];have hkk : ∀(n:Int),(n=7\/n=8\/n=9)->k=n->AC AD 114 [.c (Dj l),.agg b.vs] (.c (.int .i64 (V9 l b.kids))):=by
    intro n hn hkn;subst hkn;obtain⟨rs,Ak⟩:=AE (Nd.rows b.kids);rw[Ak]at Fq;cases QF:b.kids with
    | nil =>
      rw[QF]at Fq;have e0:rs=[]:=List.eq_nil_of_length_eq_zero Fq;rw[AAO];rw[e0]at Ak;clear ih DX;refine en aE aR ?_;rcases hn with hn|hn|hn
      . have ff:=(cj @hk<|cj @hn<|cj @Ak<|NU)
        repeat any_goals (first|refine CC ?_|exact Bq ff|refine Bt ff ?_|refine Bi ff ?_|((first|refine By ff ?_ ?_|refine B4 ff ?_ ?_|refine Bz ff ?_ ?_|refine B3 ff ?_ ?_)<;>intro h<;>try (exfalso;first|omega|contradiction)))
      . have ff:=(cj @hk<|cj @hn<|cj @Ak<|NU)
        repeat any_goals (first|refine CC ?_|exact Bq ff|refine Bt ff ?_|refine Bi ff ?_|((first|refine By ff ?_ ?_|refine B4 ff ?_ ?_|refine Bz ff ?_ ?_|refine B3 ff ?_ ?_)<;>intro h<;>try (exfalso;first|omega|contradiction)))
      . have ff:=(cj @hk<|cj @hn<|cj @Ak<|NU)
        repeat any_goals (first|refine CC ?_|exact Bq ff|refine Bt ff ?_|refine Bi ff ?_|((first|refine By ff ?_ ?_|refine B4 ff ?_ ?_|refine Bz ff ?_ ?_|refine B3 ff ?_ ?_)<;>intro h<;>try (exfalso;first|omega|contradiction)))
    | cons kd r =>
      rw[QF]at Fq Ov;have FT:rs[0]?=some kd.row:=by rw[<-Ak,QF];rfl
      have JQ:=gx FT;have hlt:0<rs.length:=by rw[Fq];simp
      have tp:kd.Bc:=Ov.1;have Fp:=G0 kd.kids;obtain⟨PK,JR⟩:=AE (Nd.rows kd.kids);rw[JR]at Fp;have hlp:(0:Int)<(rs.length:Int):=by omega
      by_cases h1:kd.kids.length=1
      . obtain⟨x,hx⟩:∃x,kd.kids=[x]:=List.length_eq_one_iff.1 h1;rw[AAP l kd x r hx];have hr2:PK[0]?=some x.row:=by rw[<-JR,hx];rfl
        have M3:=gx hr2;have JP:0<PK.length:=by omega
        have Kr:PK.length=1:=by omega
        have FP:=ih kd (by rw[QF];exact Er) x (by rw[hx];exact Er) (N0 (K7 kd tp).2.2 x (by rw[hx];exact Er));clear ih DX;refine en aE aR ?_;rcases hn with hn|hn|hn
        . have ff:=(cj @hk<|cj @hn<|cj @Ak<|cj @FT<|cj @JQ<|cj @hlt<|cj @hlp<|cj @JR<|cj @hr2<|cj @M3<|cj @JP<|cj @Kr<|NU)
          repeat any_goals (first|refine CC ?_|exact Bq ff|refine Bt ff ?_|refine A4 ff (FP) ?_|refine Bi ff ?_|((first|refine By ff ?_ ?_|refine B4 ff ?_ ?_|refine Bz ff ?_ ?_|refine B3 ff ?_ ?_)<;>intro h<;>try (exfalso;first|omega|contradiction)))
        . have ff:=(cj @hk<|cj @hn<|cj @Ak<|cj @FT<|cj @JQ<|cj @hlt<|cj @hlp<|cj @JR<|cj @hr2<|cj @M3<|cj @JP<|cj @Kr<|NU)
          repeat any_goals (first|refine CC ?_|exact Bq ff|refine Bt ff ?_|refine A4 ff (FP) ?_|refine Bi ff ?_|((first|refine By ff ?_ ?_|refine B4 ff ?_ ?_|refine Bz ff ?_ ?_|refine B3 ff ?_ ?_)<;>intro h<;>try (exfalso;first|omega|contradiction)))
        . have ff:=(cj @hk<|cj @hn<|cj @Ak<|cj @FT<|cj @JQ<|cj @hlt<|cj @hlp<|cj @JR<|cj @hr2<|cj @M3<|cj @JP<|cj @Kr<|NU)
          repeat any_goals (first|refine CC ?_|exact Bq ff|refine Bt ff ?_|refine A4 ff (FP) ?_|refine Bi ff ?_|((first|refine By ff ?_ ?_|refine B4 ff ?_ ?_|refine Bz ff ?_ ?_|refine B3 ff ?_ ?_)<;>intro h<;>try (exfalso;first|omega|contradiction)))
      . rw[AAQ l kd r h1];have Kr : ¬PK.length=1:=by omega
        have Wg : ¬(PK.length:Int)=1:=by omega
        clear ih DX;refine en aE aR ?_;rcases hn with hn|hn|hn
        . have ff:=(cj @hk<|cj @hn<|cj @Ak<|cj @FT<|cj @JQ<|cj @hlt<|cj @hlp<|cj @JR<|cj @Kr<|cj @Wg<|NU)
          repeat any_goals (first|refine CC ?_|exact Bq ff|refine Bt ff ?_|refine Bi ff ?_|((first|refine By ff ?_ ?_|refine B4 ff ?_ ?_|refine Bz ff ?_ ?_|refine B3 ff ?_ ?_)<;>intro h<;>try (exfalso;first|omega|contradiction)))
        . have ff:=(cj @hk<|cj @hn<|cj @Ak<|cj @FT<|cj @JQ<|cj @hlt<|cj @hlp<|cj @JR<|cj @Kr<|cj @Wg<|NU)
          repeat any_goals (first|refine CC ?_|exact Bq ff|refine Bt ff ?_|refine Bi ff ?_|((first|refine By ff ?_ ?_|refine B4 ff ?_ ?_|refine Bz ff ?_ ?_|refine B3 ff ?_ ?_)<;>intro h<;>try (exfalso;first|omega|contradiction)))
        . have ff:=(cj @hk<|cj @hn<|cj @Ak<|cj @FT<|cj @JQ<|cj @hlt<|cj @hlp<|cj @JR<|cj @Kr<|cj @Wg<|NU)
          repeat any_goals (first|refine CC ?_|exact Bq ff|refine Bt ff ?_|refine Bi ff ?_|((first|refine By ff ?_ ?_|refine B4 ff ?_ ?_|refine Bz ff ?_ ?_|refine B3 ff ?_ ?_)<;>intro h<;>try (exfalso;first|omega|contradiction)))
   exact hkk k k7 rfl
 rw[if_neg k7];simp only[not_or]at k7;obtain⟨x1,x2,x3⟩:=k7;by_cases k5:k=5\/k=11\/k=12
 . rw[if_pos k5];refine en aE aR ?_;rcases k5 with k5|k5|k5
   . have ff:=(cj @hk<|cj @k5<|NU)
     repeat any_goals (first|refine CC ?_|exact Bq ff|refine Bt ff ?_|refine Bi ff ?_|((first|refine By ff ?_ ?_|refine B4 ff ?_ ?_|refine Bz ff ?_ ?_|refine B3 ff ?_ ?_)<;>intro h<;>try (exfalso;first|omega|contradiction)))
   . have ff:=(cj @hk<|cj @k5<|NU)
     repeat any_goals (first|refine CC ?_|exact Bq ff|refine Bt ff ?_|refine Bi ff ?_|((first|refine By ff ?_ ?_|refine B4 ff ?_ ?_|refine Bz ff ?_ ?_|refine B3 ff ?_ ?_)<;>intro h<;>try (exfalso;first|omega|contradiction)))
   . have ff:=(cj @hk<|cj @k5<|NU)
     repeat any_goals (first|refine CC ?_|exact Bq ff|refine Bt ff ?_|refine Bi ff ?_|((first|refine By ff ?_ ?_|refine B4 ff ?_ ?_|refine Bz ff ?_ ?_|refine B3 ff ?_ ?_)<;>intro h<;>try (exfalso;first|omega|contradiction)))
 . rw[if_neg k5];simp only[not_or]at k5;obtain⟨y1,y2,y3⟩:=k5;refine en aE aR ?_;have ff:=(cj @hk<|cj @k2<|cj @x1<|cj @x2<|cj @x3<|cj @y1<|cj @y2<|cj @y3<|NU)
   repeat any_goals (first|refine CC ?_|exact Bq ff|refine Bt ff ?_|refine Bi ff ?_|((first|refine By ff ?_ ?_|refine B4 ff ?_ ?_|refine Bz ff ?_ ?_|refine B3 ff ?_ ?_)<;>intro h<;>try (exfalso;first|omega|contradiction)))
theorem AQ9 (l r:List Int):Ck (l++r)=Ck l++Ck r:=by simp[Ck]
section
variable {P:Program} {S0:Ba} {w0:Bs} {x:Cx} {w:World} {H:Heap} {a:Act} {o:Oper}
theorem AWG {z:Array Value}(h:z.toList=[.int .i64 0])(m:Nat):(JV z m).toList=(Ck (As m 0)).map (fun _=>YV .i64 0):=by
 have hz:z=#[.int .i64 0]:=Array.toList_inj.1 h;subst hz;apply List.ext_getElem
 . simp[JV,Ck]
 . intro i h1 h2;simp[JV,Ck,Nat.mod_one]
theorem AWE (m:Nat):AL x w (Ck (As m 0)) ((Ck (As m 0)).map (fun _=>YV .i64 0)):=by
 induction m with
 | zero=>simp[Ck,AL]
 | succ m ih =>
   rw[Ao];simp only[Ck,Al,AL,CV,Ap];exact⟨_,_,rfl,⟨rfl,by decide +kernel⟩,ih⟩
theorem AA7 : ∀l:List Int,(l.map fun n=>[C.int .i64 n]).flatten=l.map (C.int .i64)
 | []=>rfl
 | c::r=>by rw[Al,List.flatten_cons,AA7 r];rfl
theorem APd (g:Good S0 w0 x w H){t:TypeId}{y z:Operand}(ho:o.op=.call ⟨.builtin .append,#[y,z],#[t,t]⟩){Ah:TypeId}{Bu:Nat}(hT:Dd P t=some (Ah,1,Bu))(Rh:DR P Ah=some [.c (.int .i64 0)]){l:List Int}(hY:CV x w (.full []) (a.eval y))(hZ:CV x w (.c (Ab l)) (a.eval z))(hne:l≠[])(hlen:l.length<=1000000)(hby:Bu<=8)(k0:Nat)(hk : ¬x.dom k0) :
 ∃m:Nat,Bm P o a S0 w0 x w H (.own k0 0 l.length 1) (some (k0,.box Ah (Ck (l++As m 0)) false)):=by
 obtain⟨hu,ie,zv,hie,hz,hsz,dR,hzs⟩:=I1 hT;obtain⟨xR,hz1,Is,i2,hi2,QP⟩:=Zl (x:=x) (w:=w) Rh;rw[hie]at hi2;cases hi2;rw[hz]at QP;cases QP;simp only[AL,CV,Ap]at Is;obtain⟨u0,ur0,Is,⟨rfl,_⟩,rfl⟩:=Is;simp only[CV]at hY hZ;obtain⟨A,hA,_⟩:=hY;have Am : ∀r∈(l.map fun n=>[C.int .i64 n]),r.length=1:=by intro r hr;obtain⟨n,_,rfl⟩:=DC.1 hr;rfl
 obtain⟨B,c',zs,TJ,k1,k2,k3,k4,k5,k6⟩:=Ry hZ Am;obtain⟨b,off,rfl,_⟩:=k6 (by simpa using hne);rw[Cg]at TJ k1 k4;have Eu:=AA7 l;rw[Eu]at k3;have hpos:0<l.length:=NP.2 hne;have hfit:l.length*ie.bytes<=281474976710656:=by rw[dR];have:=oY hlen hby;omega
 have Oo:AS w w.drew:=(AS.refl w).drew;obtain⟨g1,RT⟩:=g.Tf (x':=x) (w':=w.drew) Oo ⟨fun _ _ h=>h,fun b j v _ hc=>Oo.cell hc⟩ rfl rfl (fun b j h=>.inl h);have hrun : ∃m cap:Nat,(Builtin.append_ #[t,t] o.type #[a.eval y,a.eval z]).run P w=.ok (.slice (some ⟨w.heap.size,0,none⟩) l.length cap) (w.drew.alloc (.cells (zs.toArray++JV zv.cells m) Ah))/\cap=l.length+m/\cap<=maxLen:=by
  have hge:=grownCap_ge w l.length 0 Ah;have hle:=grownCap_le_maxLen w l.length 0 Ah (by unfold maxLen;omega);refine⟨grownCap w l.length 0 Ah - l.length,grownCap w l.length 0 Ah,?_,by omega,hle⟩;rw[hA,TJ];cases A with
  | none=>exact run_append_nil (P:=P) w t o.type Ah ie zv hu hie hz ⟨b,off,none⟩ l.length c' zs (by rw[k4,hsz]) (k5 _ rfl) hpos (by omega) hfit
  | some ad =>
    have:=run_append_grow (P:=P) w t o.type Ah ie zv hu hie hz ad 0 0 [] (by simp) (fun j v h=>by simp at h) ⟨b,off,none⟩ l.length c' zs (by rw[k4,hsz]) (k5 _ rfl) (by omega) (by simp only[Cu];omega) (growslice_fits (by omega) (by rw[dR];simp only[Cu];have:=oY hlen hby;omega));simp only[Cu,Bh]at this;refine this.trans ?_;simp
 obtain⟨m,cap,hrun,hcap,hcm⟩:=hrun;have hcv:AL x w.drew (Ck (l++As m 0)) (zs.toArray++JV zv.cells m).toList:=by
  rw[Array.toList_append,AWG Is,AQ9];refine AL.append ?_ (AWE m);have:=AL.mono RT _ _ (AL.N2 k3);rwa [List.map_map]at this
 obtain⟨g',he⟩:=g1.XU k0 hk Ah _ _ hcv;refine⟨m,_,_,_,_,by simp[execOp,ho,resolve,invoke,builtin,hrun];rfl,.inl rfl,?_,g',RT.trans he,fun k h=>h.elim .inl fun e=>.inr ⟨.box Ah (Ck (l++As m 0)) false,by rw[e]⟩,fun hb=>by rw[ho]at hb;cases hb⟩;simp only[CV,Cx.Dl,if_true];refine⟨.inr trivial,trivial,cap,rfl,by omega,hcm,?_⟩;have:=hcv.len;rw[Xa]at this;simp only[List.length_append,List.length_replicate,Array.length_toList]at this;show 0+cap*1<=(zs.toArray++JV zv.cells m).size;omega
theorem APg (g:Good S0 w0 x w H){t:TypeId}{y z:Operand}(ho:o.op=.call ⟨.builtin .append,#[y,z],#[t,t]⟩){Ah:TypeId}{Bu:Nat}(hT:Dd P t=some (Ah,1,Bu))(Rh:DR P Ah=some [.c (.int .i64 0)]){l:List Int}(hY:CV x w (.full []) (a.eval y))(hZ:CV x w (.c (Ab l)) (a.eval z))(hne:l≠[])(hlen:l.length<=1000000)(hby:Bu<=8)(k0:Nat)(hk : ¬x.dom k0) :
 ∃v t',(∀k ob,t'=some (k,ob)->k<=k0)/\(∃m:Nat,v=.own k0 0 l.length 1/\t'=some (k0,.box Ah (Ck (l++As m 0)) false))/\Bm P o a S0 w0 x w H v t':=by
 obtain⟨m,hm⟩:=APd g ho hT Rh hY hZ hne hlen hby k0 hk;exact⟨_,_,fun k ob e=>by cases e;exact BW _,⟨m,rfl,rfl⟩,hm⟩
end
theorem ASr (c:Int):AC AD 180 [.c (.int .i64 c)] (.c (.bool (TY c))):=by
 unfold TY;refine en Tryz.func180 Tryz.ntmps180 ?_;exact wz Tryz.results180 trivial
theorem ASH (c:Int):AC AD 181 [.c (.int .i64 c)] (.c (.bool (RB c))):=by
 unfold RB;refine en Tryz.func181 Tryz.ntmps181 ?_;exact wz Tryz.results181 trivial
theorem AS7 (own:List Int)(hl:own.length<=1000000):AC AD 115 [.c (Ab own)] (.c (Ab (LB own))):=by
 by_cases hne:own=[]
 . subst hne;have e:Ab (LB [])=.sl []:=rfl;have e2:Ab []=.sl []:=rfl;rw[e,e2];refine en Tryz.func115 Tryz.ntmps115 ?_;refine wu (CJ.mk 1) Lt trivial ⟨?_⟩;refine AW.DM ?_;refine SW.op (.full []) rfl rfl (fun S0 w0 x a w ⟨g,_⟩=>fL g rfl (by simp;exact⟨rfl,rfl,rfl⟩)) ?_;simp only[St.step,St.put,CG,Az,Ax];refine SW.take 3 ?_;with_reducible refine Bw (by simp[Ao];first|exact rfl|exact⟨rfl,rfl⟩) ?_
   refine B9 ?_;simp only[Be,BO];refine SW.nil ?_;refine wy Lt trivial ⟨?_⟩;refine LA.loop (LA.round ?_);exact wz Lt trivial
 . have Am:(own.map fun n=>[C.int .i64 n]).length=own.length:=by rw[Cg]
   obtain⟨n,hn⟩:=AE own.length;have hn0:0<n:=by rw[<-hn];exact NP.2 hne
   refine en Tryz.func115 Tryz.ntmps115 ?_;refine wu (CJ.mk 1) Lt trivial ⟨?_⟩;refine AW.DM ?_;refine SW.op (.full []) rfl rfl (fun S0 w0 x a w ⟨g,_⟩=>fL g rfl (by simp;exact⟨rfl,rfl,rfl⟩)) ?_;simp only[St.step,St.put,CG,Az,Ax];refine SW.take 1 ?_;with_reducible refine Bw (by simp[Ao];first|exact rfl|exact⟨rfl,rfl⟩) ?_
   refine B9 ?_;simp only[Be,BO];refine SW.Jm (fun v t=>∃m:Nat,v=.own 0 0 own.length 1/\t=some (0,.box 3 (Ck (own++As m 0)) false)) rfl (fun S0 w0 x a w g ht hd=>?_) ?_
   . exact APg (t:=39) (Ah:=3) (Bu:=8) g rfl (by simp) (by simp) (EH ht (.tmp 6)) (EH ht (.tmp 7)) hne hl (by decide) 0 hd
   rintro v t ⟨m,rfl,rfl⟩;simp only[St.step,St.put,CG,B6,Bh,Nat.lt_irrefl,if_false,Az,Ax];refine SW.take 1 ?_;with_reducible refine Bw (by simp[Ao];first|exact rfl|exact⟨rfl,rfl⟩) ?_
   refine B9 ?_;simp only[Be,BO];refine SW.nil ?_;rw[hn];refine wy Lt trivial ⟨?_⟩;refine lp (ι:={ k:Nat // k<=n }) (fun k=>[(4,.c (.int .i64 (k.1:Int)))]) (fun k=>[.box 3 (Ck (Fl (own.take k.1)++(own.drop k.1++As m 0))) false]) (fun k=>n - k.1) ⟨0,by simp⟩ ?_ ?_;all_goals simp only[Br,Bl,B7,Ax,Az]
   . refine Le.BV (by simp[A5,Fl])
   . rintro ⟨k,hk⟩;simp only;by_cases hlt:k<n
     . obtain⟨c,hcc⟩:∃c,own[k]?=some c:=⟨_,BP (by omega)⟩
       have hdr:own.drop k=c::own.drop (k+1):=by rw[List.drop_eq_getElem_cons (by omega),gx hcc]
       have FQ:=ABB hcc;have Dg:(Fl (own.take k)).length=k:=by rw[cZ,FW];omega
       have lY:(own.drop (k+1)).length=n - (k+1):=by rw[List.length_drop,hn]
       rw[hdr,Bg];obtain⟨D,hD⟩:=AE (Fl (own.take k));rw[hD]at FQ Dg ⊢;obtain⟨X,hX⟩:=AE (Ck (D++c::(own.drop (k+1)++As m 0)));have Ii:X.length=n+m:=by rw[<-hX,Xa];simp;omega
       have g0:X[k]?=some (.c (.int .i64 c)):=by rw[<-hX];exact AEl Dg
       have L7:=gx g0;have s0:X.set k (.c (.int .i64 0))=Ck ((D++[0])++(own.drop (k+1)++As m 0)):=by rw[<-hX,mh Dg 0,OQ]
       have MH:k+1<=n+m:=by omega
       have Wf:k<n+m:=by omega
       rw[hX];have CU:=ASH c;clear Am;by_cases Dk:c=2
       . cases k with
         | zero =>
           rw[nZ Dk (.inl Dg)]at FQ;rw[<-FQ]at s0;refine wy (cj @hlt<|cj @Ii<|cj @g0<|cj @L7<|cj @s0<|cj @MH<|cj @Wf<|cj @Dk<|Lt) trivial ⟨?_⟩;exact⟨⟨0+1,by omega⟩,by simp only;omega,wd 1⟩
         | succ j =>
           have g1:X[j]?=some (.c (.int .i64 (HY D))):=by rw[<-hX,ew Dg];exact fR Dg
           have Ho:=gx g1;have hop:=ASr (HY D);have hj:j<n:=by omega
           have hji:(j:Int)+1<(n:Int):=by omega
           have QC : ¬(j:Int)+1=0:=by omega
           have hj2:(0:Int)<=(j:Int)+1:=by omega
           have di:j<n+m:=by omega
           cases ho:TY (HY D)with
           | true =>
             rw[nZ Dk (.inr ho)]at FQ;rw[<-FQ]at s0;rw[ho]at hop;refine wy (cj @hlt<|cj @Ii<|cj @g0<|cj @L7<|cj @s0<|cj @MH<|cj @Wf<|cj @Dk<|cj @g1<|cj @Ho<|cj @hj<|cj @hji<|cj @QC<|cj @hj2<|cj @di<|Lt) (cj hop<|trivial) ⟨?_⟩;exact⟨⟨j+1+1,by omega⟩,by simp only;omega,wd 1⟩
           | false =>
             rw[VM (fun e=>by rcases e.2 with e|e;omega;rw[ho]at e;cases e) (fun e=>by rw[Dk,rJ]at e;cases e.1)]at FQ;rw[Dk,rJ]at CU;rw[ho]at hop;have MA:X=Ck (Fl (own.take (j+1+1))++(own.drop (j+1+1)++As m 0)):=by rw[<-hX,FQ,OQ]
             refine wy (cj @hlt<|cj @Ii<|cj @g0<|cj @L7<|cj @MH<|cj @Wf<|cj @Dk<|cj @g1<|cj @Ho<|cj @hj<|cj @hji<|cj @QC<|cj @hj2<|cj @di<|Lt) (cj hop<|cj CU<|trivial) ⟨?_⟩;rw[MA];exact⟨⟨j+1+1,by omega⟩,by simp only;omega,wd 1⟩
       . cases Om:RB c with
         | false =>
           rw[VM (fun e=>Dk e.1) (fun e=>by rw[Om]at e;cases e.1)]at FQ;rw[Om]at CU;have MA:X=Ck (Fl (own.take (k+1))++(own.drop (k+1)++As m 0)):=by rw[<-hX,FQ,OQ]
           refine wy (cj @hlt<|cj @Ii<|cj @g0<|cj @L7<|cj @MH<|cj @Wf<|cj @Dk<|Lt) (cj CU<|trivial) ⟨?_⟩;rw[MA];exact⟨⟨k+1,by omega⟩,by simp only;omega,wd 1⟩
         | true =>
           rw[Om]at CU;cases k with
           | zero =>
             rw[VM (fun e=>Dk e.1) (fun e=>by have:=e.2.1;omega)]at FQ;have MA:X=Ck (Fl (own.take (0+1))++(own.drop (0+1)++As m 0)):=by rw[<-hX,FQ,OQ]
             refine wy (cj @hlt<|cj @Ii<|cj @g0<|cj @L7<|cj @MH<|cj @Wf<|cj @Dk<|Lt) (cj CU<|trivial) ⟨?_⟩;rw[MA];exact⟨⟨0+1,by omega⟩,by simp only;omega,wd 1⟩
           | succ j =>
             have g1:X[j]?=some (.c (.int .i64 (HY D))):=by rw[<-hX,ew Dg];exact fR Dg
             have Ho:=gx g1;have hj:j<n:=by omega
             have hji:(j:Int)+1<(n:Int):=by omega
             have QC:(0:Int)<(j:Int)+1:=by omega
             have hj2:(0:Int)<=(j:Int)+1:=by omega
             have di:j<n+m:=by omega
             have tU:j+1<=n+m:=by omega
             by_cases hla:HY D=2
             . rw[AGw Dk Om (by omega) hla,Dg,show j+1 - 1=j by omega]at FQ;have s1:X.set j (.c (.int .i64 0))=Ck (Fl (own.take (j+1+1))++(own.drop (j+1+1)++As m 0)):=by rw[<-hX,mi Dg 0,FQ,OQ]
               refine wy (cj @hlt<|cj @Ii<|cj @g0<|cj @L7<|cj @MH<|cj @Wf<|cj @Dk<|cj @g1<|cj @Ho<|cj @hj<|cj @hji<|cj @QC<|cj @hj2<|cj @di<|cj @tU<|cj @hla<|cj @s1<|Lt) (cj CU<|trivial) ⟨?_⟩;exact⟨⟨j+1+1,by omega⟩,by simp only;omega,wd 1⟩
             . rw[VM (fun e=>Dk e.1) (fun e=>hla e.2.2)]at FQ;have MA:X=Ck (Fl (own.take (j+1+1))++(own.drop (j+1+1)++As m 0)):=by rw[<-hX,FQ,OQ]
               refine wy (cj @hlt<|cj @Ii<|cj @g0<|cj @L7<|cj @MH<|cj @Wf<|cj @Dk<|cj @g1<|cj @Ho<|cj @hj<|cj @hji<|cj @QC<|cj @hj2<|cj @di<|cj @hla<|Lt) (cj CU<|trivial) ⟨?_⟩;rw[MA];exact⟨⟨j+1+1,by omega⟩,by simp only;omega,wd 1⟩
     . have e1:own.take k=own:=D9 (by omega);have e2:own.drop k=[]:=List.drop_of_length_le (by omega);have ek:k=n:=by omega
       rw[e1,e2,Bh];have Dg:(Fl own).length=n:=by rw[cZ,hn]
       unfold LB;obtain⟨D,hD⟩:=AE (Fl own);rw[hD]at Dg ⊢;obtain⟨p,hp⟩:∃p,n=p+1:=⟨n - 1,by omega⟩
       subst ek;subst hp;obtain⟨X,hX⟩:=AE (Ck (D++As m 0));have Ii:X.length=p+1+m:=by rw[<-hX,Xa];simp;omega
       have g1:X[p]?=some (.c (.int .i64 (HY D))):=by rw[<-hX,ew Dg];exact fR Dg
       have Ho:=gx g1;have dx:p<p+1+m:=by omega
       have ACY:p+1<=p+1+m:=by omega
       have hpl:(p:Int)<(p:Int)+1:=by omega
       by_cases hla:HY D=2
       . have hF:Nh D=D.set p 0:=by unfold Nh;rw[if_pos ⟨by omega,hla⟩,Dg];rfl
         have s1:X.set p (.c (.int .i64 0))=Ck (D.set p 0++As m 0):=by rw[<-hX];exact mi Dg 0
         have hch:=XY (D.set p 0) (As m 0);rw[List.length_set,Dg]at hch;rw[hF,hX];refine wu (CJ.mk 12) (cj @hlt<|cj @Ii<|cj @g1<|cj @Ho<|cj @dx<|cj @ACY<|cj @hpl<|cj @hla<|cj @s1<|Lt) trivial ⟨?_⟩;refine AW.AR 0 rfl (Xb _) (by simp only[V.BG,V.AR,BO,hch,if_true];exact rfl) (by simp only[Ax,Al,A8,O.AR,XZ];exact rfl) ?_;unfold Ab;exact wz Lt trivial
       . have hF:Nh D=D:=by unfold Nh;rw[if_neg (fun e=>hla e.2)]
         have hch:=XY D (As m 0);rw[Dg]at hch;rw[hF,hX];refine wu (CJ.mk 12) (cj @hlt<|cj @Ii<|cj @g1<|cj @Ho<|cj @dx<|cj @ACY<|cj @hpl<|cj @hla<|Lt) trivial ⟨?_⟩;rw[<-hX];refine AW.AR 0 rfl (Xb _) (by simp only[V.BG,V.AR,BO,hch,if_true];exact rfl) (by simp only[Ax,Al,A8,O.AR,XZ];exact rfl) ?_;unfold Ab;exact wz Lt trivial
def rL (d:List En)(l:List Nd):List Int×Int:=if Mr d=false\/(EV l).Av=false then([],1)else(LB (Ga d l),0)
def uq (p:List Int×Int):V:=.Bk [.c (Ab p.1),Af p.2]
def TL (n:Int):List C:=[.int .i64 n]
theorem AOO (l:List Int):Ab l=.sl (l.map TL):=rfl
theorem AN8 (l:List Int):((l.map TL).all fun r=>r.length==1)=true:=by
 rw[List.all_eq_true];intro r hr;obtain⟨n,_,rfl⟩:=DC.1 hr;rfl
theorem ASC (d:List En)(l:List Nd)(hd:d.length<=1000000)(hs : ∀e∈d,e.text.size<=maxLen)(Au:(EV l).Bc)(hc:(EV l).cnt<=100000):AC AD 56 [.c (Dj d),.c (.sl (Nd.rows l))] (uq (rL d l)):=by
 have h1:=ATM d hd hs;have h2:=ATN l Au hc;have Fq:=Ny l;have lB:=uk l;have h4:=AS7 (Ga d l) (by rw[U4];omega);have lA:=ASG d hd;obtain⟨R,hR⟩:=AE (LB (Ga d l));unfold rL uq;rw[hR]at h4 ⊢;have hz:Ab []=.sl []:=rfl;cases e1:Mr d with
 | false =>
   rw[e1]at h1;rw[if_pos (.inl rfl)];unfold Af;rw[hz];refine en Tryz.func56 Tryz.ntmps56 ?_;exact wz i6 (cj h1<|trivial)
 | true =>
   rw[e1]at h1;cases e2:(EV l).Av with
   | false =>
     rw[e2]at h2;rw[if_pos (.inr rfl)];unfold Af;rw[hz];refine en Tryz.func56 Tryz.ntmps56 ?_;exact wz i6 (cj h1<|cj h2<|trivial)
   | true =>
     rw[e2]at h2;rw[if_neg (by simp)];unfold Af;obtain⟨rs,Ak⟩:=AE (Nd.rows l);have Am:rs.length=l.length:=by rw[<-Ak];exact G0 l
     rw[Ak]at h2 ⊢;obtain⟨n,hn⟩:=AE l.length;rw[hn]at Am Fq;refine en Tryz.func56 Tryz.ntmps56 ?_;refine wy (cj @Am<|i6) (cj h1<|cj h2<|trivial) ⟨?_⟩;refine AW.le (Le.gH 6 3 1 rfl) ?_;simp only[B6,Ax,Az,Bh];refine lp (ι:={ k:Nat // k<=n }) (fun k=>[(6,.gr 0 1 (((Ga d l).take k.1).map TL)),(7,.c (.int .i64 (k.1:Int)))]) (fun k=>[.tok 3 1 k.1]) (fun k=>n - k.1) ⟨0,by simp⟩ ?_ ?_;all_goals simp only[Br,Bl,B7,Ax,Az]
     . refine Le.BV (by simp[A5])
     . rintro ⟨k,hk⟩;simp only;by_cases hlt:k<n
       . obtain⟨b,hb⟩:∃b,l[k]?=some b:=⟨_,BP (by omega)⟩
         have BN:rs[k]?=some b.row:=by rw[<-Ak];exact N1 hb
         have CW:k<rs.length:=by omega
         have CH:=gx BN;have FP:=lA b (N0 (ADi Au) b (C6 hb));unfold At at FP;obtain⟨c,hcc⟩:=AE (LO d b);rw[hcc]at FP;have hgo:(Ga d l)[k]?=some c:=by unfold Ga;rw[Co,hb,<-hcc];rfl
         have Dv:((Ga d l).take (k+1)).map TL=((Ga d l).take k).map TL++[TL c]:=by rw[List.take_add_one,hgo,EX];rfl
         have L9:(((Ga d l).take k).map TL).length=k:=by rw[Cg,FW,U4];omega
         have hall:=AN8 ((Ga d l).take k);obtain⟨RR,dI⟩:=AE (((Ga d l).take k).map TL);rw[dI]at Dv L9 hall ⊢;have F8:k+1<=maxLen:=by unfold maxLen;omega
         have Fp:(k+1)*8<=140737488355328:=by omega
         have Ws:RR++[[C.int .i64 c]]=((Ga d l).take (k+1)).map TL:=Dv.symm;clear Dv;refine wy (cj @Am<|cj @hlt<|cj @CW<|cj @BN<|cj @CH<|cj @L9<|cj @F8<|cj @Fp<|cj @Ws<|i6) (cj FP<|trivial) ⟨?_⟩;exact⟨⟨k+1,by omega⟩,by simp only;omega,wd 1⟩
       . have e3:(Ga d l).take k=Ga d l:=D9 (by rw[U4];omega);rw[e3];rw[AOO (Ga d l)]at h4;exact wz (cj @Am<|cj @hlt<|i6) (cj h4<|trivial)
theorem ASm (n a:Int)(ha:1<=a/\a<=10):AC AD 117 [.c (.int .i64 n),.c (.int .i64 a),.c (.int .i64 18)] (.c (.int .i64 (XP n a))):=by
 have h1:=Xl n;have h2:=Xl a;have h3:=Xl 18;rw[show Aw a=true by simp[Aw];omega]at h2;rw[show Aw 18=true by decide +kernel]at h3;unfold XP;cases hv:Aw n with
 | false =>
   rw[hv]at h1;rw[if_neg (by simp)];refine en Tryz.func117 Tryz.ntmps117 ?_;exact wz (cj @Af.eq_1<|Tryz.results117) (cj h1<|cj h2<|cj h3<|trivial)
 | true =>
   rw[hv]at h1;rw[if_pos rfl];simp[Aw]at hv;have hb:=AD1 hv ha;have h4:=AFv (n*a) 18 (by omega) (by omega) (.inr (.inr rfl));have hw:Ad.wrap (n*a)=n*a:=Aq;obtain⟨M,hM⟩:=AE (n*a);rw[hM]at h4 hw ⊢;refine en Tryz.func117 Tryz.ntmps117 ?_;exact wz (cj @Af.eq_1<|cj @hM<|cj @hw<|Tryz.results117) (cj h1<|cj h2<|cj h3<|cj h4<|trivial)
theorem AUM : ∀l<8,∀r<8,VL.flatten[l*8+r]?=some (PM l r):=by decide +kernel
theorem AUL : ∀l<8,∀r<8,-3<=PM l r/\PM l r<=1:=by decide +kernel
theorem ATA (l r v:Nat)(hl:l<8)(hr:r<8)(hv:v<4):AC AD 116 [.c (.int .i64 (l:Int)),.c (.int .i64 (r:Int)),.c (.int .i64 (v:Int))] (.c (.int .i64 (Lk l r v))):=by
 have hg:=AUM l hl r hr;obtain⟨b1,b2⟩:=AUL l hl r hr;unfold Lk;obtain⟨E,hE⟩:=AE (PM l r);rw[hE]at hg b1 b2 ⊢;obtain⟨CS,RK⟩:=AE ((VL.flatten.map fun n=>V.c (.int .i64 n)));have Y8:CS[l*8+r]?=some (.c (.int .i64 E)):=by rw[<-RK,Co,hg];rfl
 have CU:CS.length=64:=by rw[<-RK];rfl
 have hw:Ad.wrap (-E)= -E:=Aq;have Fq:(l:Int)<8:=by omega
 have Ra:(r:Int)<8:=by omega
 have hgx:=gx Y8;have hlt:l*8+r<CS.length:=by omega
 have CA:l*8+r<64:=by omega
 have hput : ∀cs:List V,cs.length=64->Ek cs 0 CS=CS:=fun cs h=>Zd (by rw[CU,h])
 have Eu:CS.all V.one=true:=by rw[<-RK];rfl
 refine en Tryz.func116 Tryz.ntmps116 ?_;refine wu (CJ.mk 1) pV trivial ⟨?_⟩;refine AW.DM ?_;refine SW.take 8 ?_;with_reducible refine Bw (by simp[Ao];first|exact rfl|exact⟨rfl,rfl⟩) ?_
 refine B9 ?_;simp only[Be,BO];refine SW.op (.agg CS) (by simp[gate]) rfl (fun S0 w0 x a w hA=>vH hA.1 rfl (fun p _=>EH hA.2 p.2) AHN AHM (by rw[<-RK];kernel_rfl)) ?_;simp only[St.step,St.put,CG,Az,Ax];refine SW.take 2 ?_;with_reducible refine Bw (by simp[Ao,hput,CU,Eu];first|exact rfl|exact⟨rfl,rfl⟩) ?_
 refine B9 ?_;simp only[Be,BO];refine SW.nil ?_;by_cases h0:E<0
 . rw[if_pos h0];by_cases h1:(1:Int)<v
   . have FO:(2:Int)<=v:=by omega
     rw[if_pos h1];exact wz (cj @CU<|cj @Y8<|cj @hgx<|cj @hlt<|cj @CA<|cj @Fq<|cj @Ra<|cj @hl<|cj @hr<|cj @hw<|cj @h0<|cj @FO<|pV) trivial
   . have FO : ¬(2:Int)<=v:=by omega
     rw[if_neg h1];exact wz (cj @CU<|cj @Y8<|cj @hgx<|cj @hlt<|cj @CA<|cj @Fq<|cj @Ra<|cj @hl<|cj @hr<|cj @hw<|cj @h0<|cj @FO<|pV) trivial
 . rw[if_neg h0];exact wz (cj @CU<|cj @Y8<|cj @hgx<|cj @hlt<|cj @CA<|cj @Fq<|cj @Ra<|cj @hl<|cj @hr<|cj @hw<|cj @h0<|pV) trivial
theorem AD2 (a b:Int):b<=mx a b:=by unfold mx;split<;>omega
theorem ASl (x:Ae)(l r:Nat)(s:AM)(hs:s.ok=true)(hl:l<8)(hr:r<8):AC AD 57 [.agg x.f.vs,.c (.int .i64 (l:Int)),.c (.int .i64 (r:Int)),Ai s] (.c (.int .i64 (Md (x.BZ s) l r s.level))):=by
 have Gy:=ZO hs;obtain⟨v,hv⟩:∃v:Nat,s.level=(v:Int):=⟨s.level.toNat,by omega⟩
 have hsp:=ATA l r v hl hr (by omega);have hsz:=ATD x.f s;have hsc:=AS9 x.f.params.BZ (x.sz s);have hkb:0<=Lk l r v/\Lk l r v<=3:=by
  have:=wg l r hl hr;unfold Lk;split
  . split<;>omega
  . omega
 have th:=ASm (x.BZ s) (Lk l r v+2) (by omega);have hq:scale x.f.params.BZ (x.sz s)=x.BZ s:=rfl;have hz:BK x.f.params s=x.sz s:=rfl;rw[hq]at hsc;rw[hz]at hsz;rw[hv];unfold Ai at hsz ⊢;rw[hv]at hsz ⊢;unfold Md;obtain⟨K,hK⟩:=AE (Lk l r v);rw[hK]at hsp th hkb ⊢;obtain⟨Q,hQ⟩:=AE (x.BZ s);rw[hQ]at hsc th ⊢;have hw:Ad.wrap (K+2)=K+2:=Aq;by_cases h0:K=0
 . subst h0;refine en Tryz.func57 Tryz.ntmps57 ?_;exact wz Tryz.results57 (cj hsp<|trivial)
 . refine en Tryz.func57 Tryz.ntmps57 ?_;exact wz (cj @h0<|cj @hw<|Tryz.results57) (cj hsp<|cj hsz<|cj hsc<|cj th<|trivial)
theorem ATB (x:Ae)(s:AM)(kids:List Nd)(hx:x.Ok)(hs:s.ok=true)(Au:(EV kids).Bc)(hc:(EV kids).cnt<=100000)(hv:(EV kids).Av=true):AC AD 25 [.agg x.f.vs,.c (Dj x.d),.c (.sl (Nd.rows kids)),Ai s] (.Bk [.c (Ab (x.DK s kids)),Af 0]):=by
 have hd:=hx.dl;have ED:=ATO x.f hx.fit;rw[hx.val]at ED;have Rc:=AF0 s;rw[hs]at Rc;have CU:=ASC x.d kids (by omega) (AAf hx.dv) Au hc;rw[show rL x.d kids=(LB (Ga x.d kids),0)from if_neg (by simp[hx.dv,hv])]at CU;have WY:=vN hx.dv kids;have Wh:=fun l r hl hr=>ASl x l r s hs hl hr
 unfold Ae.DK;obtain⟨Q,hQ⟩:=AE (x.BZ s);rw[hQ]at Wh ⊢;obtain⟨cl,hcc⟩:=AE (LB (Ga x.d kids));have Bp:kids.length<=100000:=by have:=uk kids;have:=rP kids;omega
 have AMQ:cl.length=kids.length:=by rw[<-hcc,nH,U4]
 rw[hcc]at CU WY ⊢;obtain⟨n,hn⟩:=AE cl.length;have hn9:n<=100000:=by omega
 obtain⟨rs,Ak⟩:=AE (cl.map (fun n=>[C.int .i64 n]));have Am:rs.length=n:=by rw[<-Ak];simp[hn]
 have LY:Ab cl=.sl rs:=by rw[<-Ak];rfl
 unfold uq at CU;simp only[LY,Af]at CU ⊢;unfold Ai at Rc Wh ⊢;refine en Tryz.func25 Tryz.ntmps25 ?_;refine wy (cj @Am<|pz) (cj CU<|cj ED<|cj Rc<|trivial) ⟨?_⟩;refine AW.le (Le.gH 12 3 1 rfl) ?_;simp only[List.length_cons,B6,Nat.reduceAdd,Ax,Az,Bg,Bh];refine lp (ι:={ k:Nat // k<=n }) (fun k=>[(12,.gr 2 1 (((DK Q s.level cl).take k.1).map fun n=>[C.int .i64 n])),(13,.c (.int .i64 (k.1:Int)))]) (fun k=>[.box 27 x.f.vs false,.box 35 [.c (.int .i64 s.level),.c (.bool s.GJ)] false,.tok 3 1 k.1]) (fun k=>n - k.1) ⟨0,Cc _⟩ ?_ ?_;all_goals simp only[Br,Bl,B7,Ax,Az]
 . refine Le.BV (by simp[A5])
 . rintro ⟨k,hk⟩;simp only;have Dg:((DK Q s.level cl).take k).length=k:=by rw[FW,Xw];omega
   by_cases hlt:k<n
   . obtain⟨b,hb⟩:∃b,cl[k]?=some b:=⟨_,BP (by omega)⟩
     have dQ:=WY b (C6 hb);have Kt:rs[k]?=some [.int .i64 b]:=by rw[<-Ak,Co,hb];rfl
     have TE:=gx Kt;have hw2:Ad.wrap ((k:Int)+1)=((k+1:Nat):Int):=by rw[Aq];push_cast;rfl
     have F8:k+1<=maxLen:=by unfold maxLen;omega
     have Fp:(k+1)*8<=140737488355328:=by omega
     cases k with
     | zero =>
       have Dv:(DK Q s.level cl).take 1=[0]:=by
        cases cl with
        | nil=>simp at hb
        | cons c l=>rfl
       refine wy (cj @Am<|cj @hlt<|cj @F8<|cj @Fp<|cj @hw2<|pz) trivial ⟨?_⟩;refine⟨⟨0+1,by omega⟩,by first|omega|(simp only;omega),?_⟩;simp only[Cu,Dv];exact wd 3
     | succ k =>
       obtain⟨a,ha⟩:∃a,cl[k]?=some a:=⟨_,BP (by omega)⟩
       have hab:=WY a (C6 ha);have Hu:rs[k]?=some [.int .i64 a]:=by rw[<-Ak,Co,ha];rfl
       have Np:=gx Hu;have hc1:=Wh a.toNat b.toNat (by omega) (by omega);rw[show ((a.toNat:Nat):Int)=a by omega,show ((b.toNat:Nat):Int)=b by omega]at hc1;have Dv:=AGq (q:=Q) (v:=s.level) ha hb;obtain⟨D,hD⟩:=AE ((DK Q s.level cl).take (k+1));rw[hD]at Dv Dg ⊢;obtain⟨v,M7⟩:=AE (Md Q a.toNat b.toNat s.level);rw[M7]at hc1 Dv;have hw:Ad.wrap (((k+1:Nat):Int) - 1)=(k:Int):=by rw[Aq];omega
       have RW:(0:Int)<((k+1:Nat):Int):=by omega
       have hkn:k<n:=by omega
       refine wy (cj @Am<|cj @hlt<|cj @Hu<|cj @Kt<|cj @Np<|cj @TE<|cj @hw<|cj @hw2<|cj @RW<|cj @hkn<|cj @Dg<|cj @F8<|cj @Fp<|pz) (cj hc1<|trivial) ⟨?_⟩;refine⟨⟨k+1+1,by omega⟩,by first|omega|(simp only;omega),?_⟩;simp only[Dv,EX,Al,A8];exact wd 3
   . obtain rfl:k=n:=by omega
     rw[D9 (by rw[Xw,hn];exact BW _)];exact wz (cj @Am<|cj @hlt<|cj @Ab.eq_1<|pz) trivial
theorem nL {kids:List AA}{sp:List Int}{c:AA}(h:okB (El kids sp)=some c):c.y=0:=by
 rw[(VD h).1];rfl
theorem ALI (x:Ae)(s:AM)(t:ByteArray):(x.gl s t).y=0:=by
 unfold Ae.gl Cl;split<;>rfl
theorem AU2 {x:Ae}{s:AM}{t:ByteArray}{b:AA}(h:x.sym s t=some b):b.y=0:=by
 unfold Ae.sym at h;split at h
 . unfold Ae.QY at h;split at h
   . cases h
   . exact nL h
 . split at h
   . cases h;exact ALI x s t
   . exact nL h
theorem AON {x:Ae}{s:AM}{k:Int}{t:ByteArray}{c:Int}{kids:List Nd}{L:List AA}{b:AA}(h:Dz x s k t c kids L=some b):b.y=0:=by
 unfold Dz at h;split at h
 . exact AU2 h
 . split at h
   . exact nL h
   . split at h
     . rw[(ET h).1];rfl
     . split at h
       . rw[(ET h).1];rfl
       . split at h
         . rw[(ET h).1];rfl
         . split at h
           . unfold Ig at h;split at h
             . simp[okB]at h
             . split at h
               . simp[okB]at h
               . exact nL h
           . split at h
             . unfold ID at h;split at h
               . simp[okB]at h
               . rw[(ET h).1];rfl
             . split at h
               . rw[(ET h).1];rfl
               . rw[(ET h).1];rfl
theorem AOa {x:Ae} : ∀(n:Nd) {s:AM} {src:List Int} {b:AA},Ei x s src n=some b->b.y=0
 | ⟨k,t,c,kids⟩,s,src,b,h=>by
   unfold Ei at h;split at h
   . cases h
   . split at h
     . cases h
     . rename_i c' hc;cases h;have h2:=AON hc;show c'.y=0;exact h2
theorem ADK {x:Ae}{s:AM}{src:List Int} : ∀(l:List Nd) (i:Nat) (L:List AA),FF x s src i l=some L->(∀b∈L,b.y=0)/\L.length=l.length
 | [],i,L,h=>by
   simp only[FF,BE]at h;subst h;exact⟨fun b hb=>(by cases hb),rfl⟩
 | n::l,i,L,h=>by
   unfold FF at h;split at h
   . cases h
   . rename_i a ha;split at h
     . cases h
     . rename_i r hr;cases h;obtain⟨h1,h2⟩:=ADK l (i+1) r hr;refine⟨fun b hb=>?_,by simp[h2]⟩;rcases Cb.1 hb with rfl|hb
       . exact AOa n ha
       . exact h1 b hb
theorem AHF : ∀(l:List AA) (h:Int),h<=I3 l h/\∀b∈l,b.y+b.h<=I3 l h
 | [],h=>⟨Mh _,fun b hb=>by cases hb⟩
 | c::l,h=>by
   obtain⟨h1,h2⟩:=AHF l (mx h (c.y+c.h));have e1:=Nx h (c.y+c.h);have e2:=AD2 h (c.y+c.h);simp only[I3];refine⟨by omega,fun b hb=>?_⟩;rcases Cb.1 hb with rfl|hb
   . omega
   . exact h2 b hb
theorem zt : ∀(l:List AA) (h:Int),h<=Ib l h/\∀b∈l,b.d - b.y<=Ib l h
 | [],h=>⟨Mh _,fun b hb=>by cases hb⟩
 | c::l,h=>by
   obtain⟨h1,h2⟩:=zt l (mx h (c.d - c.y));have e1:=Nx h (c.d - c.y);have e2:=AD2 h (c.d - c.y);simp only[Ib];refine⟨by omega,fun b hb=>?_⟩;rcases Cb.1 hb with rfl|hb
   . omega
   . exact h2 b hb
theorem AEs : ∀ {l:List AA} {t:List Int} {k:Nat} {b:AA} {s:Int} (e:Int),l[k]?=some b->t[k]?=some s->(FG l t e)[k]?=some (Eh (l.take k) (t.take k) e+s)
 | b'::l,s'::t,0,b,s,e,h1,h2=>by simp at h1 h2;subst h1 h2;rfl
 | b'::l,s'::t,k+1,b,s,e,h1,h2=>by
   simp only[Kd]at h1 h2;simp only[FG,Kd,List.take_succ_cons,Eh];exact AEs _ h1 h2
 | [],_,_,_,_,_,h,_=>by simp at h
 | _::_,[],_,_,_,_,_,h=>by simp at h
theorem AE3 : ∀ {l:List AA},AA.Hb l=true->∀c∈l,c.EE=true
 | b::l,h,c,hc=>by
   simp only[AA.Hb,An]at h;rcases Cb.1 hc with rfl|hc
   . exact h.1
   . exact AE3 h.2 c hc
theorem AO0 {b:AA}(h:b.EE=true):(-1073741824<=b.w/\b.w<=1073741824)/\(-1073741824<=b.h/\b.h<=1073741824)/\(-1073741824<=b.d/\b.d<=1073741824)/\(-1073741824<=b.x/\b.x<=1073741824):=by
 obtain⟨k,n,s,w,h',d,x,y,kids,o,src⟩:=b;simp only[AA.EE,An,AA.CZ,AA.lens,List.all_cons,Aw,decide_eq_true_eq]at h;show (-1073741824<=w/\w<=1073741824)/\(-1073741824<=h'/\h'<=1073741824)/\(-1073741824<=d/\d<=1073741824)/\(-1073741824<=x/\x<=1073741824)
 omega
structure yf (B:AA)(sp:List Int)(A:Nat->Int):Prop where
 len:sp.length=B.kids.length
 k9:B.kids.length<=20000
 a0:A 0=0
 ae:A B.kids.length=B.w
 FI : ∀k,k<B.kids.length->∃c v,B.kids[k]?=some c/\sp[k]?=some v/\c.x=A k+v/\c.y=0/\c.h<=B.h/\c.d<=B.d/\A (k+1)=c.x+c.w/\c.EE=true
theorem AI0 {x:Ae}{s:AM}{n:Nd}{b:AA}(h:Db x s [] n=some b):∃A,yf b (x.DK s n.kids) A:=by
 obtain⟨k,t,c,kids⟩:=n;unfold Db at h;split at h
 . rename_i hk;cases h;subst hk;exact⟨fun _=>0,rfl,Cc _,rfl,rfl,fun k hk=>absurd hk (Nat.not_lt_zero _)⟩
 . split at h
   . cases h
   . rename_i L hL;split at h
     . cases h
     . rename_i C hC;cases h;obtain⟨h1,h2⟩:=ADK _ _ _ hL;obtain⟨r1,r2,r3⟩:=VD hC;obtain⟨v1,v2,v3,v4⟩:=DS r3;have hpl:=U6 (l:=L) 0 r2;have Bp:(D3 L (FG L (x.DK s kids) 0)).length=L.length:=ZZ hpl;have Oq:(C.mark 1 []).kids=D3 L (FG L (x.DK s kids) 0):=by rw[r1];rfl
       have eF:AA.Hb C.kids=true:=by
        have:C.EE=true:=by
         simp only[AA.Av,An]at r3;exact r3.1
        cases C;simp only[AA.EE,An]at this;exact this.2
       have hck:C.kids=D3 L (FG L (x.DK s kids) 0):=Oq;have Im:(C.mark 1 []).kids.length<=20000:=by
        have e:C.cnt=1+AA.A9 C.kids:=by cases C;rfl
        have:=OY C.kids;show C.kids.length<=20000;omega
       refine⟨fun k=>Eh (L.take k) ((x.DK s kids).take k) 0,by rw[Oq,Bp];exact r2,Im,by simp[Eh],?_,fun k hk=>?_⟩
       . rw[Oq,Bp,D9 (BW _),D9 (by omega)];show _=C.w;rw[r1];rfl
       . rw[Oq,Bp]at hk;obtain⟨c,hc⟩:∃c,L[k]?=some c:=⟨_,BP hk⟩
         obtain⟨v,hv⟩:∃v,(x.DK s kids)[k]?=some v:=⟨_,BP (by omega)⟩
         have hy:=h1 c (C6 hc);have hg:=vW hc (AEs 0 hc hv);refine⟨c.at_ (Eh (L.take k) ((x.DK s kids).take k) 0+v) c.y,v,by rw[Oq];exact hg,hv,rfl,hy,?_,?_,(by have e:=rz 0 hc hv;exact e),AE3 eF _ (by rw[hck];exact C6 hg)⟩
         . have:=(AHF L 0).2 c (C6 hc);show c.h<=C.h;rw[r1];show c.h<=I3 L 0;omega
         . have:=(zt L 0).2 c (C6 hc);show c.d<=C.d;rw[r1];show c.d<=Ib L 0;omega
theorem AI1 (x:Ae)(n:Nd)(s:AM)(hf:x.f.Fit)(hl:x.d.length<=maxLen)(Nl : ∀e∈x.d,e.text.size<=maxLen)(hn:n.Bc):AC AD 5 [.agg (Gf x),At n,Ai s] (.c (.bool true)):=by
 have h0:=jv;have h1:=kX x n 40 hf hl hn (by omega) (by omega);cases hfw:RE x n 40 with
 | false =>
   rw[hfw]at h1;obtain⟨kd,t,c,kids⟩:=n;obtain⟨lv,cr⟩:=s;simp only[At,Nd.vs,Ai,Nd.row,Al,A8]at h1 ⊢;refine en iV Tryz.ntmps5 ?_;exact wz iz (cj h0<|cj h1<|trivial)
 | true =>
   rw[hfw]at h1;unfold RE at hfw;simp only[An,decide_eq_true_eq]at hfw;have h2:=ez x n [] s hf hfw.2.1 Nl hn (by omega) (Cc _);rcases wD x s n with ⟨e,he,hr⟩|⟨b,ho,hv,Am,hr⟩
   . rw[hr]at h2;have h3:=Xi AA.zero (by simp[AA.zero,AA.fit,AA.fits]);obtain⟨kd,t,c,kids⟩:=n;obtain⟨lv,cr⟩:=s;simp only[At,Nd.vs,Ai,Nd.row,Al,A8,BD,Af,AA.zero,AA.row,AA.rows,Ab]at h1 h2 h3 ⊢;refine en iV Tryz.ntmps5 ?_;exact wz (cj @he<|iz) (cj h0<|cj h1<|cj h2<|cj h3<|trivial)
   . rw[hr]at h2;obtain⟨A,hA⟩:=AI0 Am;unfold Ae.okB at ho;simp only[An]at ho;have O2:=hv;unfold Nd.Av at O2;simp only[An,decide_eq_true_eq]at O2;have hx:x.Ok:=⟨hf,ho.1,hfw.2.1,ho.2.1⟩
     obtain⟨kids,dt⟩:∃kids,n=EV kids:=⟨n.kids,AFk O2.2.1 O2.1⟩
     subst dt;have h3:=ATB x s kids hx ho.2.2 hn (by omega) hv;have BR:yf b (x.DK s kids) A:=hA;obtain⟨WK,hA9,FD,hAe,dC⟩:=BR;have Bp:kids.length=b.kids.length:=by
      rw[<-WK];unfold Ae.DK;rw[Xw,nH,U4]
     obtain⟨sp,hsp⟩:=AE (x.DK s kids);rw[hsp]at h3 WK dC;obtain⟨N,hN⟩:=AE b.kids.length;rw[hN]at WK hA9 hAe dC Bp;obtain⟨rs,Ak⟩:=AE (AA.rows b.kids);have lY:rs.length=N:=by rw[<-Ak,LF,hN]
     have KE:(Nd.rows kids).length=N:=by rw[ND,Cg,Bp]
     obtain⟨ns,KF⟩:=AE (Nd.rows kids);rw[KF]at KE;have LY:Ab sp=.sl (sp.map fun n=>[.int .i64 n]):=rfl;obtain⟨ss,hss⟩:=AE ((sp.map fun n=>[C.int .i64 n]));rw[hss]at LY;have DG:ss.length=N:=by rw[<-hss,Cg,WK]
     obtain⟨lv,cr⟩:=s;simp only[At,Nd.vs,Ai,Nd.row,EV,Al,A8,Ay,Af,KF,LY]at h1 h2 h3 ⊢;rw[show Ab []=.sl []from rfl]at h2;refine en iV Tryz.ntmps5 ?_;refine wy (cj @Ak<|cj @lY<|cj @KE<|cj @DG<|iz) (cj h0<|cj h1<|cj h2<|cj h3<|trivial) ⟨?_⟩;refine lp (ι:={ k:Nat // k<=N }) (fun k=>[(11,.c (.int .i64 (A k.1))),(12,.c (.int .i64 (k.1:Int)))]) (fun k=>[O.box 30 (Gf x) false,O.box 33 [.c (.int .i64 1),.c (.str ⟨#[]⟩),.c (.int .i64 0),.c (.sl ns)] false,O.box 35 [.c (.int .i64 lv),.c (.bool cr)] false,O.box 41 b.vs false]) (fun k=>N - k.1) ⟨0,Cc _⟩ ?_ ?_;all_goals simp only[Br,Bl,B7,Ax,Az]
     . refine Le.BV (by simp[A5,FD])
     . rintro ⟨k,hkN⟩;simp only at hkN ⊢;by_cases hlt:k<N
       . obtain⟨c,v,hc,hv',hcx,tF,hch,kz,WU,hcp⟩:=dC k hlt;obtain⟨⟨w1,w2⟩,_,_,w3,w4⟩:=AO0 hcp;have BN:rs[k]?=some c.row:=by rw[<-Ak,Ed,Co,hc];rfl
         have hsk:ss[k]?=some [.int .i64 v]:=by rw[<-hss,Co,hv'];rfl
         have CH:=gx BN;have QJ:k<rs.length:=by omega
         have ANc:k<ss.length:=by omega
         have ANb:=gx hsk;have hw:Ad.wrap ((k:Int)+1)=((k+1:Nat):Int):=by rw[Aq];simp
         obtain⟨X,hX⟩:=AE c.x;obtain⟨Y,hY⟩:=AE c.w;rw[hX]at hcx WU w3 w4;rw[hY]at WU w1 w2;have hwa:Ad.wrap (A k+v)=X:=by rw[Aq];omega
         have eT:Ad.wrap (X+Y)=A (k+1):=by rw[Aq];omega
         have S8 : ¬b.h<c.h:=by omega
         have KD : ¬b.d<c.d:=by omega
         obtain⟨b0,b1,b2,b3,b4,b5,b6,b7,bk,bo,bs⟩:=c;simp only at hX hY tF S8 KD hch kz;subst hX hY tF;simp only[AA.row]at BN CH;refine wy (cj @hlt<|cj @Ak<|cj @lY<|cj @DG<|cj @BN<|cj @CH<|cj @hsk<|cj @ANb<|cj @QJ<|cj @ANc<|cj @hw<|cj @hwa<|cj @eT<|cj @S8<|cj @KD<|cj @hch<|cj @kz<|iz) trivial ⟨?_⟩;refine⟨⟨k+1,hlt⟩,by simp only;omega,?_⟩;exact wd 4
       . obtain rfl:k=N:=by omega
         exact wz (cj @hlt<|cj @Ak<|cj @lY<|cj @hAe<|iz) trivial
end Go.Proofs.YtpodcjcajanldaaGreat
