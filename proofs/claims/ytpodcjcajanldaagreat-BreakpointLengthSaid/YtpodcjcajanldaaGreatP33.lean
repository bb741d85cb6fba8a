/- Part of the proof of breakpointLength.proved. Conditions: none. (Joined and shortened by a program.) -/
import Derived.Laws.StructEq
import Derived.Test.YtpodcjcajanldaaGreatP32
set_option linter.unusedVariables false
set_option linter.unusedSimpArgs false
set_option maxRecDepth 100000
set_option maxHeartbeats 16000000
open Bool renaming and_eq_true→An
open ByteArray renaming size_extract→Zw
open List renaming all_eq_true→Ee,map_cons→Al,map_nil→A8,drop_succ_cons→Be,drop_zero→BO,set_cons_succ→Az,set_cons_zero→BC,replicate→As,mem_cons_self→Er,mem_cons_of_mem→Ff,mem_cons→Cb,mem_append→I4,mem_singleton→Qy,map→Vc,replicate_succ→Ao,length_map→Cg,length_take→FW,eq_of_mem_replicate→R6,mem_map→DC,flatten_cons→GS,map_append→EX,mem_flatten→Z8,getElem?_eq_getElem→BP,drop_eq_getElem_cons→Cz,foldl_cons→Bl,getElem?_eq_some_iff→Bv,mem_of_getElem?→C6,ext_getElem→Tj,ext_getElem?→R7,getElem?_eq_none→Ln
open Go.Proofs.Tryz renaming prog→AD,results168→yG,underlying225→yX,underlying137→yU,func164→ox,ntmps164→pM,results164→pf,results159→ik
open Nat renaming zero_le→Cc,le_refl→BW,min_eq_left→To,add_mul→F1,le_of_lt→NS,sub_self→SD,zero_add→Cu,mod_eq_of_lt→oX,mod_lt→iE,mul_le_mul→oY
open Go.Op renaming operands→CN
open Go.Instr renaming findAsking→Z0,findKey→xc,lookup→VY,mapUpdate→ga
open Array.mk renaming injEq→xW
open List.cons renaming injEq→R5
open Go.Value.string renaming injEq→AIf
open Go.MapKept renaming run_getObj_map→xw
open Array renaming toList_push→AHw,getElem?_eq_some_iff→Dy
open Option.some renaming inj→JW,injEq→BE
open Go.Region renaming wanted→DV
open Classical renaming byContradiction→Kb
open Go.Oper renaming wp→EL
open Go.Builtin renaming zeroCells→JV
namespace Go.Proofs.YtpodcjcajanldaaGreat
open Go.RowKit
def Hc (s:ByteArray)(i:Nat):ByteArray:=s.extract i (i+1)
def Ig (f:AI)(names:ByteArray)(b:AA)(p:Int):AA×Int:=
 if f.valid=false\/b.Av=false\/MW names=false then(AA.zero,1)
 else if p<1\/100<p then(AA.zero,2)
 else El [(Hl f (Hc names 0) (JD f b p) p).1,b.at_ 0 0,(Hl f (Hc names 1) (JD f b p) p).1] [0,0,0]
theorem mX {s:ByteArray}(h:MW s=true):s.size=2:=by
 unfold MW at h;simp only[An,decide_eq_true_eq]at h;exact h.2
theorem mW {s:ByteArray}(h:MW s=true)(i:Nat)(hi:i<2):F2 (Hc s i)=true:=by
 have hs:=mX h;unfold MW at h;simp only[An,decide_eq_true_eq]at h;have hm : ∀b∈(Hc s i).data.toList,b∈s.data.toList:=fun b hb=>mem_extract hb
 have hsz:(Hc s i).size=1:=by unfold Hc;rw[Zw];omega
 have hall:(Hc s i).data.toList.all DH=true:=by
  rw[Ee];intro b hb;have:=Ee.1 h.1 b (hm b hb);have hp : ∀b:UInt8,PD b=true->DH b=true:=by
   intro b hb;have h2:b∈Fc.data.toList:=by simpa [PD]using hb
   have : ∀c∈Fc.data.toList,DH c=true:=by decide
   exact this b h2
  exact hp b this
 unfold F2;rw[hall,hsz];rfl
theorem AGL (f:AI)(names:ByteArray)(need p:Int)(i:Nat)(hi:i<2)(hs:names.size=2)(hf:f.Fit)(hz : ∀s∈f.CD,s.Bb.length<=1000):AC AD 242 [.c (.int .i64 i),.cp f.row 0,.cp [.str names] 0,.cp [.int .i64 need] 0,.cp [.int .i64 p] 0] (Bd (Hl f (Hc names i) need p)):=by
 have hsz:(Hc names i).size<=maxLen:=by unfold Hc;rw[Zw,hs];unfold maxLen;omega
 have hm:=ARS f (Hc names i) need p hf hsz hz;have hfr:f.row.length=22:=by simp[AI.row,Params.list]
 have ED:f.row.map V.c=f.vs:=rfl;obtain⟨Y,hY⟩:=AE (Hl f (Hc names i) need p);rw[hY]at hm ⊢;unfold Hc at hm;have hi2:i<=1:=by omega
 simp only[Bd,Ay,Af]at hm ⊢;refine en Tryz.func242 Tryz.ntmps242 ?_;exact wz (cj @hs<|cj @ED<|cj @hi2<|Tryz.results242) (cj hm<|trivial)
theorem AAg {f:AI}(hv:f.valid=true){p:Int}(h1:1<=p)(h2:p<=100){name:ByteArray}(hn:F2 name=true)(need:Int):∃L,Hl f name need p=(L,0)/\L.Bc/\L.cnt<=8001:=by
 rcases rf hv h1 h2 hn need with ⟨_,e⟩|⟨_,S,hs,_,_,_,_,e⟩
 . exact⟨_,e,⟨(Cc _:0<=maxLen),(Cc _:0<=maxLen),trivial⟩,by simp[CB,AA.cnt,AA.A9]⟩
 . exact⟨_,e,FA _ _ hs.Bc,by rw[GW];exact hs.cnt⟩
theorem AQy (f:AI)(names:ByteArray)(b:AA)(p:Int)(hf:f.Fit)(hz : ∀s∈f.CD,s.Bb.length<=1000)(ho:b.Bc)(hc:b.cnt<=800000)(hn:names.size<=maxLen):AC AD 168 [.agg f.vs,.c (.str names),BD b,.c (.int .i64 p)] (Bd (Ig f names b p)):=by
 have ED:=Mv f;have Cd:=D2 b ho (by omega);have eF:=AQf names;have hne:=ARW f b p hf ho (by omega);obtain⟨N,hN⟩:=AE (JD f b p);unfold Ig;rw[hN]at hne ⊢;simp only[Bd,Ay,Af]at Cd hne ⊢;refine en Tryz.func168 Tryz.ntmps168 ?_;have ff:=(cj @Bd.eq_1<|cj @Ay<|cj @Af.eq_1<|cj @Eo<|yG)
 repeat any_goals (first|refine PN (CJ.mk 6) ?_|exact Bq ff|refine Bt ff ?_|refine A4 ff (ED) ?_|refine A4 ff (Cd) ?_|refine A4 ff (eF) ?_|refine A4 ff (hne) ?_|refine Bi ff ?_|((first|refine By ff ?_ ?_|refine B4 ff ?_ ?_|refine Bz ff ?_ ?_|refine B3 ff ?_ ?_)<;>intro h<;>try (exfalso;first|omega|contradiction)))
 have hv:f.valid=true:=‹_›;have DW:b.Av=true:=‹_›;have Ey:MW names=true:=‹_›;have p1:1<=p:=by omega
 have p2:p<=100:=by omega
 rw[if_neg (by simp[hv,DW,Ey]),if_neg (by omega)];obtain⟨L,hL,l1,l2⟩:=AAg hv p1 p2 (mW Ey 0 (by omega)) N;obtain⟨R,hR,r1,r2⟩:=AAg hv p1 p2 (mW Ey 1 (by omega)) N;have QL:=AGL f names N p 0 (by omega) (mX Ey) hf hz;have hs1:=AGL f names N p 1 (by omega) (mX Ey) hf hz;have BU:=mf [L,b.at_ 0 0,R] [0,0,0] ⟨l1,FA _ _ ho,r1,trivial⟩ (by simp only[AA.A9,GW];omega) (by simp) (by simp);have hat:=Gc b 0 0 (by have:=Fz DW;cases b;simp only[AA.Fk]at this;exact this.1);rw[hL]at QL ⊢;rw[hR]at hs1 ⊢;obtain⟨Y,hY⟩:=AE (El [L,b.at_ 0 0,R] [0,0,0]);simp only[hY]at BU ⊢;obtain⟨A,hA⟩:=AE (b.at_ 0 0);rw[hA]at BU hat;simp only[Bd,Ay,Af,AA.rows,Ab,Al,A8]at QL hs1 BU hat ⊢;refine AW.AR 0 rfl (by simp[toCs,toC];exact rfl) (by simp[V.BG,V.AR];exact rfl) (by simp[O.AR,V.BG,V.AR];exact rfl) ?_;refine AW.AR 1 rfl (by simp[toCs,toC];exact rfl) (by simp[V.BG,V.AR];exact rfl) (by simp[O.AR,V.BG,V.AR];exact rfl) ?_;refine AW.AR 3 rfl (by simp[toCs,toC];exact rfl) (by simp[V.BG,V.AR];exact rfl) (by simp[O.AR,V.BG,V.AR];exact rfl) ?_;refine AW.AR 5 rfl (by simp[toCs,toC];exact rfl) (by simp[V.BG,V.AR];exact rfl) (by simp[O.AR,V.BG,V.AR];exact rfl) ?_;refine wu (CJ.mk 13) yG (cj QL<|cj hs1<|trivial) ⟨?_⟩;refine AW.Py GZ (.inl rfl) ?_;refine TW.take 5 (Fh (by simp;first|exact rfl|exact⟨rfl,rfl⟩|exact⟨rfl,rfl,rfl⟩) ?_);refine BY (hat) Tryz.func227 ?_;refine Ly ?_;simp only[Be,BO];refine TW.vM ⟨.full [[.int .i64 0],[.int .i64 0],[.int .i64 0]],none,none⟩ rfl (fun _ _ h=>by cases h) ?_ ?_
 . intro S0 w0 x a w H g hop _;have h3:CV x w (.c (.int .i64 3)) (a.eval (.const (.int .i64 3))):=by
    have:=hop (.const (.int .i64 3)) (by simp[CN]);simpa [ev]using this
   have ht:Dd AD 39=some (3,1,8):=by simp
   have hz:DR AD 3=some [.c (.int .i64 0)]:=by simp
   exact AEK g rfl ht h3 h3 hz rfl (by omega) (by omega) (by omega)
 simp only[St.step,St.put,CG,Az,BC];refine TW.take 6 ?_;simp only[List.take_succ_cons,List.take_nil,List.take_zero];refine BY (BU) Tryz.func112 ?_;refine Ly (TW.nil ⟨by kernel_rfl,?_⟩);exact wz (cj @Bd.eq_1<|yG) trivial
def R0 (q v:Int):Int->List Int->List Int
 | _,[]=>[]
 | p,c::l=>Md q p.toNat c.toNat v::R0 q v c l
def DK (q v:Int):List Int->List Int
 | []=>[]
 | c::l=>0::R0 q v c l
def If (AF:Nat):Nat->Int->List AA->Int
 | _,w,[]=>w
 | i,w,b::l=>If AF (i+1) (if i % AF=0 then mx w b.w else w) l
def JB (AF:Nat)(cells:List AA)(c:Nat):Int:=If AF 0 0 (cells.drop c)
def JZ (q:Int)(row:List AA):Int:=row.foldl (fun h b=>mx h b.h) (scale q 70)
def Kh (q:Int)(row:List AA):Int:=row.foldl (fun h b=>mx h b.d) (scale q 30)
def Fj (AF:Nat)(cells:List AA)(r:Nat):List AA:=(cells.drop (r*AF)).take AF
def Gp (q:Int)(AF:Nat)(cells:List AA):Nat->Int
 | 0=>0
 | c+1=>Gp q AF cells c+JB AF cells c+q
def Vx (q:Int)(AF:Nat)(cells:List AA)(r:Nat):Int:=JZ q (Fj AF cells r)+Kh q (Fj AF cells r)
def J1 (q:Int)(AF:Nat)(cells:List AA):Nat->Int
 | 0=>0
 | r+1=>J1 q AF cells r+Vx q AF cells r
def Lz (q:Int)(AF:Nat)(cells:List AA)(r:Nat):Int:=J1 q AF cells r+(r:Int)*scale q 20
def LN (q:Int)(AF:Nat)(cells:List AA)(rows:Nat):Int:=((rows:Int) - 1)*scale q 20+J1 q AF cells rows
def Yf (q:Int)(AF:Nat)(cells:List AA)(top:Int)(i:Nat)(b:AA):AA:=
 b.at_ (Gp q AF cells (i % AF)+half (JB AF cells (i % AF) - b.w)) (top - Lz q AF cells (i / AF) - JZ q (Fj AF cells (i / AF)))
def JA (q:Int)(AF:Nat)(cells:List AA)(top:Int):Nat->List AA->List AA
 | _,[]=>[]
 | i,b::l=>Yf q AF cells top i b::JA q AF cells top (i+1) l
def T4 (q ax:Int)(AF:Nat)(cells:List AA):AA:=
 CB (Gp q AF cells (AF - 1)+JB AF cells (AF - 1)) (ax+half (LN q AF cells (cells.length / AF))) (LN q AF cells (cells.length / AF) - (ax+half (LN q AF cells (cells.length / AF))))
  (JA q AF cells (ax+half (LN q AF cells (cells.length / AF))) 0 cells)
def ID (f:AI)(s:AM)(AF:Nat)(cells:List AA):AA×Int:=
 if Aw (LN (scale f.params.BZ (BK f.params s)) AF cells (cells.length / AF))=false then(AA.zero,6)
 else Cm (T4 (scale f.params.BZ (BK f.params s)) (scale f.params.EB (BK f.params s)) AF cells)
structure Ae where
 f:AI
 d:List En
def okB (r:AA×Int):Option AA:=if r.2=0 then some r.1 else none
def Ae.sz (x:Ae)(s:AM):Int:=BK x.f.params s
def Ae.BZ (x:Ae)(s:AM):Int:=scale x.f.params.BZ (x.sz s)
def Ae.gl (x:Ae)(s:AM)(name:ByteArray):AA:=(Cl x.f name (x.sz s)).1
def Ae.OX (x:Ae)(s:AM)(c:UInt8):AA:=if c=32 then CB (scale (x.BZ s) 25) 0 0 []else x.gl s ⟨#[c]⟩
def Ae.Sh (x:Ae)(s:AM)(t:ByteArray):List AA:=t.data.toList.map (x.OX s)
def Ae.NM (x:Ae)(s:AM)(t:ByteArray):Option AA:=okB (El (x.Sh s t) (As t.size 0))
def Ae.K8 (x:Ae)(s:AM)(t:ByteArray):Choice:=
 match x.f.H2 t with
 | none=>⟨t,0⟩
 | some st=>⟨st.Bb.getD (if s.level=0/\2<=st.Bb.length then 1 else 0) ⟨#[]⟩,0⟩
def Ae.QY (x:Ae)(s:AM)(t:ByteArray):Option AA:=
 match okB (Ic (x.gl s (x.K8 s t).J7) (scale x.f.params.EB (x.sz s)))with
 | none=>none
 | some b=>okB (El [b] [0])
def Ae.sym (x:Ae)(s:AM)(t:ByteArray):Option AA:=
 if (FC x.d t).cls=1/\(FC x.d t).str=true then x.QY s t
 else if t.size=1\/(x.f.find t).isSome=true then some (x.gl s t)
 else x.NM s t
def Nw (x:Ae)(s:AM)(base:Nd):Bool:=
 match base.kids with
 | [i]=>decide (s.level=0) && (decide (i.kind=2) && (FC x.d i.text).lim)
 | _=>false
def AA.Pz (b:AA):AA:={ b with w:=0,h:=0,d:=0 }
def na (kids:List Nd)(b:AA):AA:=if (kids.getD 0 ⟨0,⟨#[]⟩,0,[]⟩).kids=[]then b.Pz else b
def Jt (k:Int)(l:List AA):List AA:=if k=8 then []else [l.getD 1 AA.zero]
def Ju (k:Int)(l:List AA):List AA:=if k=7 then []else [l.getD (l.length - 1) AA.zero]
def Dz (x:Ae)(s:AM)(k:Int)(t:ByteArray)(c:Int)(kids:List Nd)(l:List AA):Option AA:=
 if k=2 then x.sym s t
 else if k=3\/k=4 then x.NM s t
 else if k=5 then okB (Cm (L5 x.f s (l.getD 0 AA.zero) (l.getD 1 AA.zero)))
 else if k=6 then okB (Cm (Jn x.f s (l.getD 1 AA.zero) [na kids (l.getD 0 AA.zero)]))
 else if k=10 then okB (Cm (Na x.f s t (l.getD 0 AA.zero) (x.gl s t)))
 else if k=11 then okB (Ig x.f t (l.getD 0 AA.zero) (x.sz s))
 else if k=12 then okB (ID x.f s c.toNat l)
 else if Nw x s (kids.getD 0 ⟨0,⟨#[]⟩,0,[]⟩)=true then okB (Cm (Iu x.f s (l.getD 0 AA.zero) (Jt k l) (Ju k l)))
 else okB (Cm (Iz x.f s (l.getD 0 AA.zero) (Jt k l) (Ju k l)))
def Ae.DK (x:Ae)(s:AM)(kids:List Nd):List Int:=Go.Proofs.YtpodcjcajanldaaGreat.DK (x.BZ s) s.level (LB (Ga x.d kids))
def Ae.empty (x:Ae)(s:AM)(src:List Int):AA:=(CB (if src=[]then 0 else scale (x.BZ s) 50) (scale x.f.params.FV (x.sz s)) 0 []).mark 1 src
mutual
def Db (x:Ae)(s:AM)(src:List Int):Nd->Option AA
 | ⟨_,_,_,kids⟩ =>
   if kids=[]then some (x.empty s src)
   else match FF x s src 0 kids with
    | none=>none
    | some l=>match okB (El l (x.DK s kids))with
      | none=>none
      | some b=>some (b.mark 1 src)
def FF (x:Ae)(s:AM)(src:List Int)(i:Nat):List Nd->Option (List AA)
 | []=>some []
 | n::l=>match Ei x s (src++[(i:Int)]) n with
   | none=>none
   | some b=>match FF x s src (i+1) l with
     | none=>none
     | some r=>some (b::r)
def Ei (x:Ae)(s:AM)(src:List Int):Nd->Option AA
 | ⟨k,t,c,kids⟩=>match FJ x s src k 0 kids with
   | none=>none
   | some l=>match Dz x s k t c kids l with
     | none=>none
     | some b=>some (b.mark 2 src)
def FJ (x:Ae)(s:AM)(src:List Int)(k:Int)(i:Nat):List Nd->Option (List AA)
 | []=>some []
 | n::l=>match Db x (DZ k i s) (src++[(i:Int)]) n with
   | none=>none
   | some b=>match FJ x s src k (i+1) l with
     | none=>none
     | some r=>some (b::r)
end
theorem AQ.AQW {P:Program}{f:FuncId}{args:List V}{m:Nat}{ι:Type}{R:ι->Obj->Prop}{R':Obj->Prop}{out:Out}(h : ∀i,AQ P f args m (R i) R' out):AQ P f args m (fun ob=>∃i,R i ob) R' out:=fun S w us ob h1 h2 h3 h4 h5=>let ⟨i,hi⟩:=h4;h i S w us ob h1 h2 h3 hi h5
def yi (f:AI)(e:MapEntry):Prop:=∃(s:ByteArray) (n:Int),e.key=.agg #[.string s,.int .i64 n]/\∀x w,CV x w (BD (Cl f s n).1) e.val
def OL (f:AI)(M:ByteArray->Int->Bool)(ob:Obj):Prop:=∃es cl,ob=.map es cl/\(∀e∈es.toList,yi f e)/\∀s n,M s n=true↔∃e∈es.toList,e.key=.agg #[.string s,.int .i64 n]
def BI (f:AI)(ob:Obj):Prop:=∃M,OL f M ob
def Zp (M:ByteArray->Int->Bool)(s:ByteArray)(n:Int):ByteArray->Int->Bool:=fun s' n'=>M s' n' || (decide (s'=s) && decide (n'=n))
theorem AJv {s s':ByteArray}(h:s≠s'):(s==s')=false:=by
 cases hk:(s==s')with
 | false=>rfl
 | true=>exact absurd ((MapKept.bytes_beq _ _).1 hk) h
theorem geq (s s':ByteArray)(n n':Int)(w:World):(Op.equal 225 (.agg #[.string s,.int .i64 n]) (.agg #[.string s',.int .i64 n'])).run AD w=.ok (decide (s=s') && decide (n=n')) w:=by
 have e:Op.equal 225 (.agg #[.string s,.int .i64 n]) (.agg #[.string s',.int .i64 n'])=Op.equalIn (9999+1) 225 (.agg #[.string s,.int .i64 n]) (.agg #[.string s',.int .i64 n']):=rfl;rw[e,run_equalIn_agg _ _ _ _ _ (by kernel_rfl) (by kernel_rfl)];have h1:(s.toList==s'.toList)=decide (s=s'):=by
  rw[<-beq_toListBytes];by_cases h:s=s'
  . subst h;simp[(MapKept.bytes_beq s s).2 rfl]
  . simp[AJv h,h]
 have h2:(n==n')=decide (n=n'):=by
  by_cases h:n=n'<;>simp[h]
 go_simp;by_cases h3:s=s'<;>by_cases h4:n=n'<;>simp[h3,h4]
theorem sF (f:AI)(s:ByteArray)(n:Int)(w:World):∀(es:List MapEntry) (i:Nat),(∀e∈es,yi f e)->∃r,(Z0 225 (.agg #[.string s,.int .i64 n]) es i).run AD w=.ok r w/\(r=none->∀e∈es,e.key≠.agg #[.string s,.int .i64 n])/\∀j v,r=some (j,v)->(∃e∈es,e.key=.agg #[.string s,.int .i64 n])/\∀x w,CV x w (BD (Cl f s n).1) v
 | [],i,_=>⟨none,by simp[Z0],(fun _ e he=>by cases he),(fun _ _ h=>by cases h)⟩
 | e::es,i,h=>by
   obtain⟨s',n',hk,hv⟩:=h e Er;obtain⟨r,i1,i2,i3⟩:=sF f s n w es (i+1) fun e he=>h e (Ff _ he)
   by_cases hc:s=s'/\n=n'
   . obtain⟨rfl,rfl⟩:=hc;refine⟨some (i,e.val),?_,fun h=>by(cases h),fun j v hj=>?_⟩
     . simp[Z0,hk,geq]
     . cases hj;exact⟨⟨e,Er,hk⟩,hv⟩
   . have hd:(decide (s=s') && decide (n=n'))=false:=by
      by_cases a:s=s'
      . have b:n≠n':=fun b=>hc ⟨a,b⟩
        simp[b]
      . simp[a]
     refine⟨r,?_,fun hr e' P9=>?_,fun j v hj=>?_⟩
     . simp only[Z0,hk,Sem.run_bind,geq,hd];simpa using i1
     . rcases Cb.1 P9 with rfl|P9
       . rw[hk];intro hh;injection hh with hh
         simp only[xW,R5,AIf,Value.int.injEq,and_true,true_and]at hh;exact hc ⟨hh.1.symm,hh.2.symm⟩
       . exact i2 hr e' P9
     . obtain⟨⟨e',P9,hk'⟩,hv'⟩:=i3 j v hj;exact⟨⟨e',Ff _ P9,hk'⟩,hv'⟩
theorem ABM {s:ByteArray}{n:Int}{es:List MapEntry}{r:Option (Nat×Value)}{w:World}(h:(Z0 225 (.agg #[.string s,.int .i64 n]) es 0).run AD w=.ok r w):(xc 225 (.agg #[.string s,.int .i64 n]) es).run AD w=.ok r w:=by
 cases es with
 | nil=>simpa [xc,run_underlying yX,Instr.findNow,Z0]using h
 | cons e es=>simpa [xc,run_underlying yX,Instr.findNow,Instr.sameNow]using h
theorem AWD (x:Cx)(w:World):∃z,(zeroValue 41).run AD w=.ok z w/\CV x w (BD AA.zero) z:=by
 refine⟨.agg #[.int .i64 0,.string ⟨#[]⟩,.int .i64 0,.int .i64 0,.int .i64 0,.int .i64 0,.int .i64 0,.int .i64 0,.slice none 0 0,.int .i64 0,.slice none 0 0],by kernel_rfl,?_⟩;have e0:(Lit.int .i64 0).wf=true:=by decide +kernel
 simp only[BD,AA.zero,AA.row,AA.rows,Ab,Al,A8,CV,AL,Ap];exact⟨_,rfl,_,_,rfl,⟨rfl,e0⟩,_,_,rfl,⟨rfl,by decide +kernel⟩,_,_,rfl,⟨rfl,e0⟩,_,_,rfl,⟨rfl,e0⟩,_,_,rfl,⟨rfl,e0⟩,_,_,rfl,⟨rfl,e0⟩,_,_,rfl,⟨rfl,e0⟩,_,_,rfl,⟨rfl,e0⟩,_,_,rfl,⟨none,0,rfl,BW _,Cc _,fun h=>absurd rfl h⟩,_,_,rfl,⟨rfl,e0⟩,_,_,rfl,⟨none,0,rfl,BW _,Cc _,fun h=>absurd rfl h⟩,rfl⟩
section
variable {S0:Ba} {w0:Bs} {x:Cx} {w:World} {H:Heap} {a:Act} {o:Oper}
theorem AP1 (g:Good S0 w0 x w H){y z:Operand}(ho:o.op=.lookup 137 y z true){k m:Nat}{s:ByteArray}{n:Int}{f:AI}{M:ByteArray->Int->Bool}(hy:CV x w (.c (.Rm m)) (a.eval y))(hz:CV x w (.agg [.c (.str s),.c (.int .i64 n)]) (a.eval z))(hk:H k=some (.mp (Cf m (OL f M)))) :
 Bm AD o a S0 w0 x w H (.Bk [BD (if M s n=true then(Cl f s n).1 else AA.zero),.c (.bool (M s n))]) none:=by
 have hz:=ABN hz;simp only[CV,Ap]at hy;obtain⟨_,_,_,ob,hb,_,hm,es,cl,rfl,hE,hM⟩:=g.ok k _ hk;rw[hm]at hb;obtain⟨r,h1,h2,h3⟩:=sF f s n w es.toList 0 hE;have lI:=ABM h1;obtain⟨zv,hz1,Is⟩:=AWD x w;cases r with
 | none =>
   have hMf:M s n=false:=by
    cases hc:M s n with
    | false=>rfl
    | true=>obtain⟨e,he,hk⟩:=(hM s n).1 hc;exact absurd hk (h2 rfl e he)
   rw[hMf];refine Bm.pure g (u:=.tuple #[zv,.bool false]) ?_ ?_
   . have hrun:(VY 137 (.map (some m)) (.agg #[.string s,.int .i64 n]) true).run AD w=.ok (.tuple #[zv,.bool false]) w:=by
      simp[VY,run_underlying yU,xw hb,wK,lI,hz1]
     simp[execOp,ho,hy,hz,hrun]
   . rw[if_neg (by simp)];simp only[CV,AL,Ap];exact⟨_,rfl,_,_,rfl,Is,_,_,rfl,rfl,rfl⟩
 | some p =>
   obtain⟨j,v⟩:=p;obtain⟨⟨e,he,hke⟩,hv⟩:=h3 j v rfl;have hMt:M s n=true:=(hM s n).2 ⟨e,he,hke⟩;rw[hMt];refine Bm.pure g (u:=.tuple #[v,.bool true]) ?_ ?_
   . have hrun:(VY 137 (.map (some m)) (.agg #[.string s,.int .i64 n]) true).run AD w=.ok (.tuple #[v,.bool true]) w:=by
      simp[VY,run_underlying yU,xw hb,wK,lI]
     simp[execOp,ho,hy,hz,hrun]
   . rw[if_pos rfl];simp only[CV,AL,Ap];exact⟨_,rfl,_,_,rfl,hv x w,_,_,rfl,rfl,rfl⟩
theorem AP2 (g:Good S0 w0 x w H){y z q:Operand}(ho:o.op=.mapUpdate 137 y z q){k m:Nat}{s:ByteArray}{n:Int}{f:AI}{M:ByteArray->Int->Bool}(hy:CV x w (.c (.Rm m)) (a.eval y))(hz:CV x w (.agg [.c (.str s),.c (.int .i64 n)]) (a.eval z))(hq : ∀x w,CV x w (BD (Cl f s n).1) (a.eval q))(hM0:M s n=false)(hk:H k=some (.mp (Cf m (OL f M)))) :
 Bm AD o a S0 w0 x w H .any (some (k,.mp (Cf m (OL f (Zp M s n))))):=by
 have hz:=ABN hz;simp only[CV,Ap]at hy;obtain⟨hd,h1,h2,ob,hb,hst,hm,es,cl,rfl,hE,hM⟩:=g.ok k _ hk;obtain⟨r,f1,f2,f3⟩:=sF f s n w es.toList 0 hE;have lI:=ABM f1;have hr:r=none:=by
  cases r with
  | none=>rfl
  | some p =>
    obtain⟨j,v⟩:=p;have:=(hM s n).2 (f3 j v rfl).1;rw[hM0]at this;cases this
 subst hr;obtain⟨Cy,Fs⟩:∃Cy,Cy=Obj.map (es.push { key:=.agg #[.string s,.int .i64 n],val:=a.eval q,born:=cl }) (cl+1):=⟨_,rfl⟩
 have hrun:(ga 137 (.map (some (x.loc k).b)) (.agg #[.string s,.int .i64 n]) (a.eval q)).run AD w=.ok () (w.putObj (x.loc k).b Cy):=by
  rw[Fs];simp[ga,run_underlying yU,xw hb,wK,lI,MapKept.run_setObj_map _ hb];rfl
 have hR':OL f (Zp M s n) Cy:=by
  refine⟨_,_,Fs,fun e he=>?_,fun s' n'=>?_⟩
  . simp only[AHw,I4,Qy]at he;rcases he with he|rfl
    . exact hE e he
    . exact⟨s,n,rfl,hq⟩
  . simp only[Zp,Bool.or_eq_true,An,decide_eq_true_eq,hM,AHw,I4,Qy];constructor
    . rintro (⟨e,he,h⟩|⟨rfl,rfl⟩)
      . exact⟨e,.inl he,h⟩
      . exact⟨_,.inr rfl,rfl⟩
    . rintro ⟨e,he|rfl,h⟩
      . exact .inl ⟨e,he,h⟩
      . simp only at h;injection h with h
        simp only[xW,R5,AIf,Value.int.injEq,and_true,true_and]at h;exact .inr ⟨h.1.symm,h.2.symm⟩
 have hg:w.grownBy (w.putObj (x.loc k).b Cy) (some (x.loc k).b):=grownBy_putObj' w _ _;have hlt:=(Dy.1 hb).1;have hb':(w.putObj (x.loc k).b Cy).heap[(x.loc k).b]?=some Cy:=World.putObj_heap_same hlt;have ar:Ar x.S x.S w (w.putObj (x.loc k).b Cy):=⟨fun _ _ h=>h,fun b j v hS hc=>by
  have hne:b≠(x.loc k).b:=fun e=>by
   subst e;unfold World.cell? at hc;simp[hb]at hc
  exact(World.cell?_of_block (hg.block b (g.ex b j hS) fun e=>hne (JW e))).trans hc⟩
 have he:Ext x x w (w.putObj (x.loc k).b Cy):=⟨ar,fun _ h=>h,fun _ _=>Es.refl _⟩
 have g':=g.IN k (.mp (Cf m (OL f (Zp M s n)))) he ⟨hg.os,hg.tape,hg.output,hg.size,fun b Gx KD=>hg.block b Gx fun e=>KD ⟨hd,h2,(JW e).symm⟩⟩ (fun i=>⟨.inl,fun h=>h.elim id fun e=>e ▸ hd⟩) (fun _ _=>rfl) (fun _=>.inl ⟨hd,h2,rfl⟩) ⟨h1,h2,Cy,hb',(by rw[Fs];rfl),hm,hR'⟩ (fun b j h=>.inl h) (fun j hx=>hx.elim);refine⟨.skip,_,x,undef,?_,.inr ⟨rfl,rfl⟩,by simp only[CV],g',he,fun _ h=>.inl h,fun _=>rfl⟩;rw[hm]at hrun;simp[execOp,ho,hy,hz,hrun,hm]
end
theorem AKL {b:AA}(hk:b.kids=[])(hs:b.src=[]){x:Cx}{w:World}{u:Value}(h:CV x w (BD b) u)(x':Cx)(w':World):CV x' w' (BD b) u:=by
 obtain⟨b0,b1,b2,b3,b4,b5,b6,b7,kids,o,src⟩:=b;simp only at hk hs;subst hk hs;simpa [BD,AA.row,AA.rows,Ab,CV,AL,Ap]using h
@[simp] theorem En.AHc (b:En):b.vs[2]?=some (.c (.bool b.lim)):=rfl
@[simp] theorem En.AHa (b:En)(h:2<b.vs.length):b.vs[2]'h=.c (.bool b.lim):=rfl
@[simp] theorem En.xF (b:En):b.vs[3]?=some (.c (.bool b.str)):=rfl
@[simp] theorem En.xD (b:En)(h:3<b.vs.length):b.vs[3]'h=.c (.bool b.str):=rfl
@[simp] theorem En.ASw (b:En):b.row[2]?=some (.bool b.lim):=rfl
@[simp] theorem En.ASx (b:En):b.row[3]?=some (.bool b.str):=rfl
def Ce (x:Ae)(m:Nat):List C:=x.f.row++[Dj x.d,.int .i64 100,.int .i64 100,.int .i64 x.f.params.Jo,.int .i64 x.f.params.Jp,.Rm m,.Cn,.Cn,.Du 98,.Du 99,.Du 99,.Du 100,.Du 101,.Du 102,.Du 102,.Du 102,.Du 103,.Du 104,.Du 105]
def Bf (x:Ae)(m:Nat):V:=.cp (Ce x m) 0
section
variable (x:Ae) (m:Nat)
@[simp] theorem AYZ:(Ce x m).length=41:=rfl
@[simp] theorem AYX:(Vc V.c (Ce x m)).take 22=x.f.vs:=rfl
@[simp] theorem AYY:Vc V.c ((Ce x m).take 22)=x.f.vs:=rfl
@[simp] theorem AYD:(Ce x m)[2]?=some (.int .i64 x.f.params.BZ):=rfl
@[simp] theorem AXs (h:2<(Ce x m).length):(Ce x m)[2]'h=.int .i64 x.f.params.BZ:=rfl
@[simp] theorem AYK:(Ce x m)[3]?=some (.int .i64 x.f.params.FV):=rfl
@[simp] theorem AXz (h:3<(Ce x m).length):(Ce x m)[3]'h=.int .i64 x.f.params.FV:=rfl
@[simp] theorem AYV:(Ce x m)[4]?=some (.int .i64 x.f.params.EB):=rfl
@[simp] theorem AYA (h:4<(Ce x m).length):(Ce x m)[4]'h=.int .i64 x.f.params.EB:=rfl
@[simp] theorem AYE:(Ce x m)[22]?=some (Dj x.d):=rfl
@[simp] theorem AXt (h:22<(Ce x m).length):(Ce x m)[22]'h=Dj x.d:=rfl
@[simp] theorem AYF:(Ce x m)[23]?=some (.int .i64 100):=rfl
@[simp] theorem AXu (h:23<(Ce x m).length):(Ce x m)[23]'h=.int .i64 100:=rfl
@[simp] theorem AYG:(Ce x m)[24]?=some (.int .i64 100):=rfl
@[simp] theorem AXv (h:24<(Ce x m).length):(Ce x m)[24]'h=.int .i64 100:=rfl
@[simp] theorem AYH:(Ce x m)[25]?=some (.int .i64 x.f.params.Jo):=rfl
@[simp] theorem AXw (h:25<(Ce x m).length):(Ce x m)[25]'h=.int .i64 x.f.params.Jo:=rfl
@[simp] theorem AYI:(Ce x m)[26]?=some (.int .i64 x.f.params.Jp):=rfl
@[simp] theorem AXx (h:26<(Ce x m).length):(Ce x m)[26]'h=.int .i64 x.f.params.Jp:=rfl
@[simp] theorem AYJ:(Ce x m)[27]?=some (.Rm m):=rfl
@[simp] theorem AXy (h:27<(Ce x m).length):(Ce x m)[27]'h=.Rm m:=rfl
@[simp] theorem AYL:(Ce x m)[30]?=some (.Du 98):=rfl
@[simp] theorem AX0 (h:30<(Ce x m).length):(Ce x m)[30]'h=.Du 98:=rfl
@[simp] theorem AYM:(Ce x m)[31]?=some (.Du 99):=rfl
@[simp] theorem AX1 (h:31<(Ce x m).length):(Ce x m)[31]'h=.Du 99:=rfl
@[simp] theorem AYN:(Ce x m)[32]?=some (.Du 99):=rfl
@[simp] theorem AX2 (h:32<(Ce x m).length):(Ce x m)[32]'h=.Du 99:=rfl
@[simp] theorem AYO:(Ce x m)[33]?=some (.Du 100):=rfl
@[simp] theorem AX3 (h:33<(Ce x m).length):(Ce x m)[33]'h=.Du 100:=rfl
@[simp] theorem AYP:(Ce x m)[34]?=some (.Du 101):=rfl
@[simp] theorem AX4 (h:34<(Ce x m).length):(Ce x m)[34]'h=.Du 101:=rfl
@[simp] theorem AYQ:(Ce x m)[35]?=some (.Du 102):=rfl
@[simp] theorem AX5 (h:35<(Ce x m).length):(Ce x m)[35]'h=.Du 102:=rfl
@[simp] theorem AYR:(Ce x m)[36]?=some (.Du 102):=rfl
@[simp] theorem AX6 (h:36<(Ce x m).length):(Ce x m)[36]'h=.Du 102:=rfl
@[simp] theorem AYS:(Ce x m)[37]?=some (.Du 102):=rfl
@[simp] theorem AX7 (h:37<(Ce x m).length):(Ce x m)[37]'h=.Du 102:=rfl
@[simp] theorem AYT:(Ce x m)[38]?=some (.Du 103):=rfl
@[simp] theorem AX8 (h:38<(Ce x m).length):(Ce x m)[38]'h=.Du 103:=rfl
@[simp] theorem AYU:(Ce x m)[39]?=some (.Du 104):=rfl
@[simp] theorem AX9 (h:39<(Ce x m).length):(Ce x m)[39]'h=.Du 104:=rfl
@[simp] theorem AYW:(Ce x m)[40]?=some (.Du 105):=rfl
@[simp] theorem AYB (h:40<(Ce x m).length):(Ce x m)[40]'h=.Du 105:=rfl
end
theorem ZO {s:AM}(h:s.ok=true):s.level=0\/s.level=1\/s.level=2\/s.level=3:=by
 simp only[AM.ok,An,decide_eq_true_eq]at h;omega
theorem nY (x:Ae)(m:Nat){s:AM}(h:s.ok=true):(Ce x m)[23+s.level.toNat]?=some (.int .i64 (x.sz s)):=by
 obtain⟨l,c⟩:=s;rcases ZO h with h1|h1|h1|h1
 all_goals
  simp only at h1;subst h1;simp[Ae.sz,BK,h]
structure Ae.Ok (x:Ae):Prop where
 fit:x.f.Fit
 val:x.f.valid=true
 dl:x.d.length<=300
 dv:Mr x.d=true
theorem nW (x:Ae)(m:Nat)(n:Int)(s:AM)(hs:s.ok=true):AC AD 107 [Bf x m,.c (.int .i64 n),Ai s] (.c (.int .i64 (scale n (x.sz s)))):=by
 have hz:=nY x m hs;have hl:=ZO hs;have k0:0<=s.level:=by omega
 have k1:s.level<4:=by omega
 unfold Bf Ai;refine en Tryz.func107 Tryz.ntmps107 ?_;exact wz (cj @hz<|cj @k0<|cj @k1<|Tryz.results107) (cj (Dn n (x.sz s))<|trivial)
def fP:List PanicEntry:=[⟨.iface 42 (.int .i64 6),false,false⟩]
def BS:Option AA->Out
 | some b=>.ret (BD b)
 | none=>.JT fP
section
variable {P:Program} {K:Exit->St->Prop} {ops:List Oper} {s:St}
theorem SW.API {o1 o2:Oper}{r:List Oper}{ty:TypeId}{y:Operand}{d:Nat}{k k0:IntKind}{n:Int}(hty:P.underlying ty=some (.int k0))(h1:o1.op=.makeInterface ty y)(hd:o1.dst=some d)(h2:o2.op=.panic (.tmp d))(hg:gate ops s.t o1.guard=some true)(lK:o2.guard=none)(hy:ev s.t y=.c (.int k n))(hdl:d<s.t.length)(h:K (.panic [⟨.iface ty (.int k n),false,false⟩]) (s.put (some d) .any)):SW P ops K (o1::o2::r) s:=fun S0 w0 x a w hA=>by
 have hw:DV o1 (yielded ops.toArray a.tmps)=true:=by
  have:=J2 (o:=o1) hA.tm (Hj (ops:=ops) (K1:=True) (K2:=False) hg trivial);exact Kb fun h=>this.2 h
 have ML:=EH hA.tm y;rw[hy]at ML;simp only[CV,Ap]at ML;have hrun:(execOp a.eval o1).run P w=.ok (.value (.iface ty (.int k n))) w:=by simp[execOp,h1,ML.1,Instr.makeInterface,run_underlying hty]
 have Hp:CT S0 w0 x (s.put (some d) .any) (a.put (some d) (.iface ty (.int k n))) w:=by
  have:=CT.put hA.tm hA.df (Ext.refl x w) hA.good (v:=.any) (u:=.iface ty (.int k n)) (by simp only[CV]) (some d);exact this
 have hev:(a.put (some d) (.iface ty (.int k n))).eval (.tmp d)=.iface ty (.int k n):=by
  have hl:d<a.tmps.size:=by have:=hA.tm.len;simp at this;omega
  simp[Act.put,Act.eval,hl]
 have ANY:(execOp (a.put (some d) (.iface ty (.int k n))).eval o2).run P w=.halt (.panic (.iface ty (.int k n))) w:=by simp[execOp,h2,hev,Instr.panic,goPanic,Sem.run,Result.andThen]
 have hw2:DV o2 (yielded ops.toArray (a.put (some d) (.iface ty (.int k n))).tmps)=true:=by simp[DV,lK]
 unfold wpList;rw[if_pos hw];refine .inl ?_;unfold EL;rw[hrun];show wpList P ops.toArray _ (o2::r) (a.put o1.dst _) w;rw[hd];unfold wpList;rw[if_pos hw2];refine .inl ?_;unfold EL;rw[ANY];exact⟨x,_,Hp,h⟩
end
theorem Ix (b:AA):AC AD 111 [BD b,Af 0] (BD b):=by
 unfold Af;simp only[Ay];refine en Tryz.func111 Tryz.ntmps111 ?_;exact wz Tryz.results111 trivial
theorem KI (b:AA)(m:Nat)(R:Obj->Prop):AQ AD 111 [BD b,Af 6] m R R (.JT fP):=by
 unfold Af;simp only[Ay];refine CP Tryz.func111 Tryz.ntmps111 ?_;refine qu (CJ.mk 2) Tryz.results111 trivial ⟨?_⟩;refine AW.DM ?_;refine SW.take 1 ?_;with_reducible refine Bw (by simp[Ao];first|exact rfl|exact⟨rfl,rfl⟩) ?_
 refine B9 ?_;simp only[Be,BO];exact SW.API (hty:=Tryz.underlying42) rfl rfl rfl rfl rfl rfl (Nat.le_of_ble_eq_true rfl) ⟨rfl,rfl⟩
theorem wW (x:Ae)(m:Nat)(n:Nd)(s:AM)(hx:x.Ok):AC AD 164 [Bf x m,At n,Ai s] (.c (.bool (Nw x s n))):=by
 have hd:x.d.length<=1000000:=by have:=hx.dl;omega
 obtain⟨k,t,c,kids⟩:=n;unfold Bf Ai;simp only[At,Nd.vs,Nd.row,Al,A8];by_cases h0:s.level=0
 . by_cases h1:kids.length=1
   . match kids,h1 with
     | [⟨k',t',c',uZ⟩],_ =>
       simp only[Nd.rows,Nd.row];by_cases h2:k'=2
       . subst h2;have hf:=vT x.d t' hd;have e:Nw x s ⟨k,t,c,[⟨2,t',c',uZ⟩]⟩=(FC x.d t').lim:=by simp[Nw,h0]
         rw[e];unfold Mt at hf;refine en ox pM ?_;exact wz (cj @h0<|pf) (cj hf<|trivial)
       . have e:Nw x s ⟨k,t,c,[⟨k',t',c',uZ⟩]⟩=false:=by simp[Nw,h2]
         rw[e];refine en ox pM ?_;exact wz (cj @h0<|cj @h2<|pf) trivial
   . have e:Nw x s ⟨k,t,c,kids⟩=false:=by
      unfold Nw;split
      . rename_i hk;simp only at hk;rw[hk]at h1;exact absurd rfl h1
      . rfl
     rw[e];have hl:=G0 kids;obtain⟨rs,Ak⟩:=AE (Nd.rows kids);rw[Ak]at hl ⊢;rw[<-hl]at h1;refine en ox pM ?_;exact wz (cj @h0<|cj @h1<|pf) trivial
 . have e:Nw x s ⟨k,t,c,kids⟩=false:=by
    unfold Nw;split<;>simp[h0]
   rw[e];refine en ox pM ?_;exact wz (cj @h0<|pf) trivial
theorem ALF (x:Ae)(s:AM)(name:ByteArray):(x.gl s name).kids=[]/\(x.gl s name).src=[]:=by
 unfold Ae.gl Cl;split<;>exact⟨rfl,rfl⟩
theorem AEM {S0:Ba}{w0:Bs}{x:Cx}{w:World}{H:Heap}{a:Act}{o:Oper}(g:Good S0 w0 x w H){y z:Operand}(ho:o.op=.lookup 137 y z true){k m:Nat}{s:ByteArray}{n:Int}{f:AI}{M:ByteArray->Int->Bool}{v:V}(hv : .Bk [BD (if M s n=true then(Cl f s n).1 else AA.zero),.c (.bool (M s n))]=v)(hy:CV x w (.c (.Rm m)) (a.eval y))(hz:CV x w (.agg [.c (.str s),.c (.int .i64 n)]) (a.eval z))(hk:H k=some (.mp (Cf m (OL f M)))) :
 Bm AD o a S0 w0 x w H v none:=hv ▸ AP1 g ho hy hz hk
theorem AGH (x:Ae)(m:Nat)(name:ByteArray)(s:AM)(hx:x.Ok)(hs:s.ok=true):AQ AD 159 [Bf x m,.c (.str name),Ai s] m (BI x.f) (BI x.f) (.ret (BD (x.gl s name))):=by
 have hz:=nY x m hs;have hl:=ZO hs;have k0:0<=s.level:=by omega
 have k1:s.level<4:=by omega
 obtain⟨p1,p2⟩:=GD hx.val hs;have Nk:=kW x.f name (x.sz s) hx.fit.1;rw[show Oa x.f name (x.sz s)=(x.gl s name,0)from by
  have:=(N8 hx.val p1 p2 name).1;unfold Oa Ae.gl Ae.sz;rw[if_pos hx.val,this]]at Nk
 have CF:=Ix (x.gl s name);obtain⟨gk,gs⟩:=ALF x s name;have LX:(Cl x.f name (x.sz s)).1=x.gl s name:=rfl;obtain⟨B,hB⟩:=AE (x.gl s name);rw[hB]at gk gs Nk CF LX ⊢;simp only[Bd,Af,Ay]at Nk CF ⊢;refine AQ.AQW fun M=>?_
 cases hM:M name (x.sz s)with
 | true =>
   refine AQ.mono (R:=OL x.f M) (R':=OL x.f M) ?_ (fun _ h=>h) fun ob h=>⟨M,h⟩
   unfold Bf Ai;refine CP Tryz.func159 Tryz.ntmps159 ?_;refine qu (CJ.mk 2) (cj @hz<|cj @k0<|cj @k1<|ik) trivial ⟨?_⟩;refine AW.Py GZ (.inl rfl) ?_;refine TW.take 5 (Fh (by simp;first|exact rfl|exact⟨rfl,rfl⟩|exact⟨rfl,rfl,rfl⟩) (Ly ?_));simp only[Be,BO];refine TW.op ⟨.Bk [.agg B.vs,.c (.bool true)],none,some 0⟩ rfl (fun _ _ h=>by cases h) ?_ ?_
   . intro S0 w0 y w a H g hop hr;exact AEM (M:=M) (s:=name) (n:=x.sz s) (f:=x.f) g rfl (by rw[hM,if_pos rfl,LX];rfl) (hop (.tmp 23) (by simp[CN])) (hop (.tmp 24) (by simp[CN])) (hr 0 rfl)
   simp only[St.step,St.put,Zo,Az,BC];refine TW.take 6 (Fh (by simp;first|exact rfl|exact⟨rfl,rfl⟩|exact⟨rfl,rfl,rfl⟩) (Ly (TW.nil ⟨by kernel_rfl,?_⟩)));exact qz ik trivial
 | false =>
   refine AQ.mono (R:=OL x.f M) (R':=OL x.f (Zp M name (x.sz s))) ?_ (fun _ h=>h) fun ob h=>⟨_,h⟩
   unfold Bf Ai;refine CP Tryz.func159 Tryz.ntmps159 ?_;refine qu (CJ.mk 2) (cj @hz<|cj @k0<|cj @k1<|ik) trivial ⟨?_⟩;refine AW.Py GZ (.inl rfl) ?_;refine TW.take 5 (Fh (by simp;first|exact rfl|exact⟨rfl,rfl⟩|exact⟨rfl,rfl,rfl⟩) (Ly ?_));simp only[Be,BO];refine TW.op ⟨.Bk [.agg AA.zero.vs,.c (.bool false)],none,some 0⟩ rfl (fun _ _ h=>by cases h) ?_ ?_
   . intro S0 w0 y w a H g hop hr;exact AEM (M:=M) (s:=name) (n:=x.sz s) (f:=x.f) g rfl (by rw[hM,if_neg (by simp)];rfl) (hop (.tmp 23) (by simp[CN])) (hop (.tmp 24) (by simp[CN])) (hr 0 rfl)
   simp only[St.step,St.put,Zo,Az,BC];refine TW.take 6 (Fh (by simp;first|exact rfl|exact⟨rfl,rfl⟩|exact⟨rfl,rfl,rfl⟩) (Ly (TW.nil ⟨by kernel_rfl,?_⟩)));refine qu (CJ.mk 5) ik (cj Nk<|cj CF<|trivial) ⟨?_⟩;refine AW.Py GZ (.inl rfl) ?_;refine TW.take 6 (Fh (by simp;first|exact rfl|exact⟨rfl,rfl⟩|exact⟨rfl,rfl,rfl⟩) (Ly ?_));simp only[Be,BO];refine TW.op ⟨.any,some (0,.mp (Cf m (OL x.f (Zp M name (x.sz s))))),some 0⟩ rfl (fun k ob e=>by cases e;exact Cc _) ?_ ?_
   . intro S0 w0 y w a H g hop hr;have hb:=hop (.tmp 46) (by simp[CN]);refine AP2 (M:=M) (s:=name) (n:=x.sz s) (f:=x.f) g rfl (hop (.tmp 44) (by simp[CN])) (hop (.tmp 45) (by simp[CN])) ?_ hM (hr 0 rfl);intro y' w';rw[LX];exact AKL gk gs (b:=B) hb y' w'
   simp only[St.step,St.put,Az,BC,AHQ];refine TW.nil ⟨by kernel_rfl,?_⟩;exact qz ik trivial
structure Vp (b:AA):Prop where
 v:b.Av=true
 o:b.Bc
 w:0<=b.w
theorem kf {x:Ae}(hx:x.Ok){s:AM}(hs:s.ok=true){name:ByteArray}(hn:F2 name=true):Vp (x.gl s name)/\(x.gl s name).cnt=1:=by
 obtain⟨p1,p2⟩:=GD hx.val hs;have ANF:name.size<=16:=by simp only[F2,An,decide_eq_true_eq]at hn;exact hn.2.2
 obtain⟨a1,a2,a3⟩:=fx hx.val p1 p2 ANF;obtain⟨b1,b2⟩:=wU hx.val p1 p2 hn (y:=0) (by decide);rw[AGP hx.val p1 p2 name]at b1 b2;have e:x.gl s name=(Cl x.f name (BK x.f.params s)).1:=rfl;rw[e];exact⟨⟨cG b1 (by omega) (by omega),a1.Bc,a1.w1⟩,a3⟩
theorem AO9 {w h:Int}(hw:Aw w=true)(hh:Aw h=true)(h0:0<=w):Vp (CB w h 0 [])/\(CB w h 0 []).cnt=1:=by
 refine⟨⟨cG ?_ (by simp[CB,AA.cnt,AA.A9]) (by simp[CB,AA.nest,AA.Nz]),⟨(Cc _:0<=maxLen),(Cc _:0<=maxLen),trivial⟩,h0⟩,rfl⟩;have e0:Aw 0=true:=by decide
 simp[AA.EE,AA.Hb,AA.CZ,AA.lens,AA.Ej,AA.I0,CB,hw,hh,e0,Dm,Gg]
theorem U8 {x:Ae}(hx:x.Ok){s:AM}(hs:s.ok=true):0<=x.BZ s:=by
 obtain⟨p1,p2⟩:=GD hx.val hs;refine Zg ?_ (by unfold Ae.sz;omega);have:=hx.val;simp[AI.valid,JU,Params.lens,Params.PG,Bn]at this;omega
theorem AKB {x:Ae}(hx:x.Ok){s:AM}(hs:s.ok=true){c:UInt8}(hc:DH c=true):Vp (x.OX s c)/\(x.OX s c).cnt=1:=by
 unfold Ae.OX;split
 . have h1:=U8 hx hs;have h2:=DA (p:=25) (x.BZ s) (by omega) (by omega);refine AO9 ?_ (by decide) (Zg h1 (by omega));simp[Aw];omega
 . refine kf hx hs ?_;simp[F2,hc,ByteArray.size]
def Gq (l:List AA)(k:Nat):List V:=((l.take k).map AA.vs).flatten++(As (l.length - k) Bo).flatten
theorem cD (l:List AA){n:Nat}(h:n=l.length):(As n Bo).flatten=Gq l 0:=by subst h;simp[Gq]
theorem VV (b:AA):b.vs.length=11:=by unfold AA.vs;rw[Cg,Lh]
theorem cE (l:List AA)(k:Nat)(h:k<=l.length):(Gq l k).length=l.length*11:=by
 unfold Gq;rw[List.length_append,J5 (es:=11),J5 (es:=11)]
 . simp only[Cg,FW,List.length_replicate,To h,<-F1];congr 1
   omega
 . intro r hr;rw[R6 hr];rfl
 . intro r hr;obtain⟨q,_,rfl⟩:=DC.1 hr;exact VV q
theorem cF (l:List AA)(k:Nat)(h:k<l.length):Ek (Gq l k) (k*11) (l[k]).vs=Gq l (k+1):=by
 have hpl:(((l.take k).map AA.vs).flatten).length=k*11:=by
  rw[J5 (es:=11)]
  . simp only[Cg,FW,To (NS h)]
  . intro r hr;obtain⟨q,_,rfl⟩:=DC.1 hr;exact VV q
 have e:l.length - k=(l.length - (k+1))+1:=by omega
 unfold Gq;rw[e,Ao,GS,<-List.append_assoc,<-hpl,mo _ _ _ _ (by rw[VV];rfl),List.take_succ_eq_append_getElem h,EX,List.flatten_append];simp
theorem OU (n:Nat)(l:List AA)(k:Nat):V.BT n (Gq l k)=true:=by
 rw[jz];intro v hv;unfold Gq at hv;rcases I4.1 hv with h|h
 . obtain⟨r,hr,hv⟩:=Z8.1 h;obtain⟨q,_,rfl⟩:=DC.1 hr;obtain⟨c,_,rfl⟩:=DC.1 hv;rfl
 . obtain⟨r,hr,hv⟩:=Z8.1 h;rw[R6 hr]at hv;simp only[Bo,Cb,List.not_mem_nil,or_false]at hv;rcases hv with rfl|rfl|rfl|rfl|rfl|rfl|rfl|rfl|rfl|rfl|rfl<;>rfl
theorem fj : ∀l:List AA,AA.rows l=l.map AA.row
 | []=>rfl
 | b::l=>by simp only[AA.rows,Al,fj l]
theorem rA (l:List AA):Gq l l.length=(AA.rows l).flatten.map V.c:=by
 unfold Gq;rw[List.take_length,SD,List.replicate_zero,List.flatten_nil,List.append_nil,<-UR,fj,List.map_map];rfl
theorem zn (l:List AA):toCs (Gq l l.length)=some (AA.rows l).flatten:=by rw[rA,toCs_mapV]
theorem jy (l:List AA):Gr 11 l.length (AA.rows l).flatten=AA.rows l:=by
 have:=V8 (es:=11) (AA.rows l) (by intro r hr;rw[fj]at hr;obtain⟨q,_,rfl⟩:=DC.1 hr;exact Lh _);rwa [show (AA.rows l).length=l.length by rw[fj,Cg]]at this
theorem zo (k:Nat)(row:List C)(l:List AA):V.BG k row (Gq l l.length)=Gq l l.length:=by rw[rA,Yr]
theorem AAW (AF:Nat):∀(l:List AA) (i:Nat) (w:Int),If AF (i+AF) w l=If AF i w l
 | [],_,_=>rfl
 | b::l,i,w=>by
   simp only[If,Nat.add_mod_right];rw[show i+AF+1=i+1+AF by omega];exact AAW AF l _ _
theorem AAV (AF:Nat):∀(l:List AA) (i:Nat) (w:Int),0<i->i<=AF->If AF i w l=If AF 0 w (l.drop (AF - i))
 | [],i,w,_,_=>by rw[List.drop_nil];rfl
 | b::l,i,w,h0,h1=>by
   by_cases e:i=AF
   . subst e;rw[SD,BO];have:=AAW i (b::l) 0 w;rwa [Cu]at this
   . have hm:i % AF≠0:=by rw[oX (by omega)];omega
     simp only[If,if_neg hm];rw[AAV AF l (i+1) w (by omega) (by omega),show AF - i=(AF - (i+1))+1 by omega,Be]
theorem AKF {AF:Nat}(hc:0<AF)(b:AA)(l:List AA)(w:Int):If AF 0 w (b::l)=If AF 0 (mx w b.w) ((b::l).drop AF):=by
 simp only[If,Nat.zero_mod,if_true,Cu];rw[AAV AF l 1 _ (by omega) hc];obtain⟨k,rfl⟩:∃k,AF=k+1:=⟨AF - 1,by omega⟩
 rw[Be,Nat.add_sub_cancel]
def DO (cells:List AA)(i:Nat):AA:=cells.getD i AA.zero
theorem Yg {cells:List AA}{i:Nat}(h:i<cells.length):DO cells i=cells[i]:=by simp[DO,h]
theorem qo {cells:List AA}{i:Nat}(h:i<cells.length):cells[i]?=some (DO cells i):=by rw[Yg h];exact BP h
theorem zj {cells:List AA}{i:Nat}(h:i<cells.length):DO cells i∈cells:=by rw[Yg h];exact List.getElem_mem h
theorem rQ {α:Type}(val:α->Nat){AF c:Nat}(hc:0<AF)(cells:List AA):∀(l:List α) (j:Nat) (w:Int),(∀y∈l,val y<cells.length)->(∀k y,l[k]?=some y->val y=c+AF*(j+k))->cells.length<=c+AF*(j+l.length)->(l.map fun i=>(DO cells (val i)).w).foldl mx w=If AF 0 w (cells.drop (c+AF*j))
 | [],j,w,_,_,h=>by
   rw[List.drop_eq_nil_of_le (by simpa using h)];rfl
 | y::l,j,w,hb,hv,h=>by
   have hy:val y=c+AF*j:=by have:=hv 0 y rfl;simpa using this
   have hlt:c+AF*j<cells.length:=by have:=hb y Er;omega
   rw[Cz hlt,AKF hc,Al,Bl];have e:(cells[c+AF*j]::cells.drop (c+AF*j+1)).drop AF=cells.drop (c+AF*(j+1)):=by
    rw[<-Cz hlt,List.drop_drop,Nat.mul_add,Nat.mul_one];congr 1
    omega
   rw[e,<-rQ val hc cells l (j+1) _ (fun z hz=>hb z (Ff _ hz)) (fun k z hz=>by have:=hv (k+1) z (by simpa using hz);rw[this];congr 2;omega) (by rw[List.length_cons]at h;rw[show j+1+l.length=j+(l.length+1)by omega];exact h)];rw[hy,Yg hlt]
theorem eh {p:Nat->Prop}(b d cnt:Nat)(h : ∀k,k<cnt->p (b+d*k)):∃l:List { i:Nat // p i },l.length=cnt/\∀(k:Nat) (y : { i:Nat // p i }),l[k]?=some y->y.val=b+d*k:=by
 refine⟨List.ofFn fun k:Fin cnt=>⟨b+d*k.val,h k.val k.isLt⟩,List.length_ofFn,fun k y hy=>?_⟩;obtain⟨hk,e⟩:=Bv.1 hy;rw[List.getElem_ofFn]at e;rw[<-e]
theorem AJO {α:Type}(val:α->Nat){AF r:Nat}(cells:List AA)(l:List α)(hb : ∀y∈l,val y<cells.length)(hl:l.length=AF)(hv : ∀k y,l[k]?=some y->val y=r*AF+k):l.map (fun i=>DO cells (val i))=Fj AF cells r:=by
 unfold Fj;have hle:AF=0\/r*AF+AF<=cells.length:=by
  rcases Nat.eq_zero_or_pos AF with h|h
  . exact .inl h
  . right;have hk:l[AF - 1]?=some (l[AF - 1]'(by omega)):=BP (by omega);have h1:=hv _ _ hk;have h2:=hb _ (C6 hk);omega
 apply Tj
 . rw[Cg,hl,FW,List.length_drop];omega
 . intro i h1 h2;rw[Cg]at h1;rw[List.getElem_map,List.getElem_take,List.getElem_drop];have hk:l[i]?=some l[i]:=BP h1;have:=hv _ _ hk;have hlt:=hb _ (C6 hk);rw[Yg hlt];simp only[this]
theorem AJL {α:Type}(val:α->Nat){AF r:Nat}(q:Int)(cells:List AA)(l:List α)(hb : ∀y∈l,val y<cells.length)(hl:l.length=AF)(hv : ∀k y,l[k]?=some y->val y=r*AF+k):(l.map fun i=>(DO cells (val i)).h).foldl mx (scale q 70)=JZ q (Fj AF cells r)/\(l.map fun i=>(DO cells (val i)).d).foldl mx (scale q 30)=Kh q (Fj AF cells r):=by
 have e:=AJO val cells l hb hl hv;unfold JZ Kh;rw[<-e];simp only[List.foldl_map];exact⟨trivial,trivial⟩
theorem ABE : ∀(l:List Int) (a:Int),a<=l.foldl mx a/\∀x∈l,x<=l.foldl mx a
 | [],a=>⟨Int.le_refl _,fun _ h=>by cases h⟩
 | x::l,a=>by
   rw[Bl];obtain⟨h1,h2⟩:=ABE l (mx a x);have h3:a<=mx a x/\x<=mx a x:=by unfold mx;split<;>omega
   refine⟨by omega,fun y hy=>?_⟩;rcases Cb.1 hy with rfl|hy
   . omega
   . exact h2 y hy
def Gj (p:Nat->Bool)(g:Nat->AA->AA)(l:List AA):List AA:=l.mapIdx fun i b=>if p i=true then g i b else b
theorem VU (p:Nat->Bool)(g:Nat->AA->AA)(l:List AA):(Gj p g l).length=l.length:=by simp[Gj]
theorem Zq (p:Nat->Bool)(g:Nat->AA->AA)(l:List AA)(i:Nat):(Gj p g l)[i]?=l[i]?.map fun b=>if p i=true then g i b else b:=by simp[Gj]
theorem gK (p:Nat->Bool)(g:Nat->AA->AA)(l:List AA)(i:Nat)(h:i<l.length):(Gj p g l)[i]'(by rw[VU];exact h)=if p i=true then g i l[i]else l[i]:=by simp[Gj]
theorem AVG (p:Nat->Bool)(g:Nat->AA->AA)(l:List AA)(i:Nat)(h:i<l.length):(Gj p g l).set i (g i l[i])=Gj (fun j=>p j || decide (j=i)) g l:=by
 apply Tj
 . simp[Gj]
 . intro j h1 h2;rw[List.getElem_set];rw[List.length_set,VU]at h1;rw[gK _ _ _ _ h1,gK _ _ _ _ h1];by_cases e:i=j
   . subst e;simp
   . have e' : ¬j=i:=fun h=>e h.symm
     simp[e,e']
theorem AHT {α:Type}(val:α->Nat)(p:Nat->Bool)(g:Nat->AA->AA)(l:List AA)(pre:List α)(y:α)(h:val y<l.length):(Gj (fun j=>p j || pre.any fun z=>decide (j=val z)) g l).set (val y) (g (val y) l[val y])=Gj (fun j=>p j || (pre++[y]).any fun z=>decide (j=val z)) g l:=by
 rw[AVG _ _ _ _ h];congr 1
 funext j;simp[Bool.or_assoc]
theorem AHS (p:Nat->Bool)(g:Nat->AA->AA)(l:List AA)(h : ∀i,i<l.length->p i=false):Gj p g l=l:=by
 apply Tj
 . simp[Gj]
 . intro j h1 h2;rw[gK _ _ _ _ h2,h j h2];simp
theorem AHR {p p':Nat->Bool}{g:Nat->AA->AA}{l:List AA}(h : ∀i,i<l.length->p i=p' i):Gj p g l=Gj p' g l:=by
 apply Tj
 . simp[Gj]
 . intro j h1 h2;rw[VU]at h1;rw[gK _ _ _ _ h1,gK _ _ _ _ h1,h j h1]
def Sd (q:Int)(AF:Nat)(cells:List AA)(i:Nat)(b:AA):AA:={ b with x:=Gp q AF cells (i % AF)+half (JB AF cells (i % AF) - b.w) }
def T5 (q:Int)(AF:Nat)(cells:List AA)(top:Int)(i:Nat)(b:AA):AA:={ b with y:=top - Lz q AF cells (i / AF) - JZ q (Fj AF cells (i / AF)) }
def Fi (q:Int)(AF:Nat)(cells:List AA)(c:Nat):List AA:=Gj (fun i=>decide (i % AF<c)) (Sd q AF cells) cells
def OS (q:Int)(AF:Nat)(cells:List AA)(top:Int)(r:Nat):List AA:=Gj (fun i=>decide (i / AF<r)) (T5 q AF cells top) (Fi q AF cells AF)
theorem zV (q:Int)(AF:Nat)(cells:List AA)(top:Int):∀(l:List AA) (i j:Nat),(JA q AF cells top i l)[j]?=l[j]?.map fun b=>Yf q AF cells top (i+j) b
 | [],i,j=>by simp[JA]
 | b::l,i,0=>by simp[JA]
 | b::l,i,j+1=>by
   simp only[JA,List.getElem?_cons_succ];rw[zV q AF cells top l (i+1) j,show i+1+j=i+(j+1)by omega]
theorem AJM (q:Int){AF rows:Nat}(hc:0<AF)(cells:List AA)(hn:cells.length=rows*AF)(top:Int):OS q AF cells top rows=JA q AF cells top 0 cells:=by
 apply R7;intro j;rw[zV,Cu];unfold OS Fi;rw[Zq,Zq];cases hj:cells[j]? with
 | none=>rfl
 | some b =>
   have hlt:j<rows*AF:=by rw[<-hn];exact(Bv.1 hj).1
   have h1:j % AF<AF:=iE _ hc;have h2:j / AF<rows:=(Nat.div_lt_iff_lt_mul hc).2 hlt;simp only[Option.map_some,h1,h2,decide_true,if_true];rfl
def V.fY (k:Nat):V->Option V
 | .own i off len es=>if i=k then some (.own 0 off len es)else none
 | v=>V.DI k v
def V.Xf (k:Nat):List V->Option (List V)
 | []=>some []
 | v::l=>match V.fY k v,V.Xf k l with
   | some y,some r=>some (y::r)
   | _,_=>none
theorem ARz {x:Cx}{w:World}{k n:Nat}(hn:n=(x.loc k).n):∀(v v':V) (u:Value),V.fY k v=some v'->CV x w v u->CV (Cx.one x.S (x.loc k).b n) w v' u:=by
 intro v v' u h hv;cases v with
 | own i off len es =>
   simp only[V.fY]at h;split at h
   . rename_i e;cases h;subst e;simp only[CV,Cx.one]at hv ⊢;obtain⟨_,_,cap,h1,h2,h3,h4⟩:=hv;exact⟨trivial,trivial,cap,h1,h2,h3,by rw[hn];exact h4⟩
   . cases h
 | _=>exact AE8 _ _ _ h hv
theorem AE9 {x:Cx}{w:World}{k n:Nat}(hn:n=(x.loc k).n):∀(l l':List V) (us:List Value),V.Xf k l=some l'->AL x w l us->AL (Cx.one x.S (x.loc k).b n) w l' us
 | [],l',us,h,hv=>by simp only[V.Xf,BE]at h;subst h;simpa only[AL]using hv
 | v::l,l',us,h,hv=>by
   simp only[AL]at hv;obtain⟨u,ur,rfl,h1,h2⟩:=hv;unfold V.Xf at h;split at h
   . rename_i y r hy hr;cases h;simp only[AL];exact⟨u,ur,rfl,ARz hn v y u hy h1,AE9 hn l r ur hr h2⟩
   . cases h
section
variable {P:Program} {K:Exit->St->Prop} {ops:List Oper} {s:St}
theorem SW.AAA {o:Oper}{r:List Oper}{f:FuncId}{args Bx:List V}{ty:TypeId}{cells cells' cs cs':List V}{res:V}{fn:Func}(k:Nat)(KC:AY P f Bx ty cells cells' res)(hf:P.funcs[f]?=some fn)(hb:fn.body.isSome=true)(hn:(fn.name == "runtime.NumGoroutine")=false)(hg:gate ops s.t o.guard=some true)(hc:DE (ev s.t) o.op=some (f,args))(hp:V.Xf k args=some Bx)(hk:s.h[k]?=some (.box ty cs false))(hcs:V.DJ k cs=some cells)(dV:V.DJ k cs'=some cells')(QN:V.OF cs'=true)(h:SW P ops K r (s.step o.dst res (some (k,.box ty cs' false)))):SW P ops K (o::r) s:=fun S0 w0 x a w hA=>by
 have hw:DV o (yielded ops.toArray a.tmps)=true:=by
  have:=J2 (o:=o) hA.tm (Hj (ops:=ops) (K1:=True) (K2:=False) hg trivial);exact Kb fun h=>this.2 h
 unfold wpList;rw[if_pos hw];refine .inl ?_;unfold DE at hc;split at hc
 case h_2=>cases hc
 rename_i fo ar He ho;split at hc
 case h_2=>cases hc
 rename_i f' caps Fo;simp only[BE,Prod.mk.injEq]at hc;obtain⟨rfl,rfl⟩:=hc;have CY:=Qq (EH hA.tm fo);rw[Fo]at CY;simp only[CV]at CY;obtain⟨Dx,CY,EZ⟩:=CY;have Ik:AL x w (ar.toList.map (ev s.t)++caps) (ar.toList.map a.eval++Dx.toList):=(AL.of_map fun y _=>EH hA.tm y).append EZ;have g:=hA.good;obtain⟨hd,b1,b2,vs,b3,b4,b5⟩:=g.ok k _ hk;have EK:=PI (n:=vs.size) _ _ _ hcs b5;have Nm : ∀j,j<vs.size->¬x.S (x.loc k).b j:=fun j hj=>g.EI k _ j hk ⟨rfl,by omega⟩
 have hcall:=KC x.S w _ (x.loc k).b vs g.ex Nm b3 EK (AE9 (by first|exact b4|exact b4.symm) _ _ _ hp Ik);have hb':fn.body≠none:=by intro e;rw[e]at hb;cases hb
 have hn':fn.name≠ "runtime.NumGoroutine":=by simpa using hn
 have hrun:(execOp a.eval o).run P w=.ok (.enter f' (ar.toList.map a.eval++Dx.toList).toArray) w:=by
  have e1:(ar.map a.eval++Dx)=(ar.toList.map a.eval++Dx.toList).toArray:=by apply Array.toList_inj.1;simp
  simp[execOp,ho,resolve,CY,Deferred.ofValue,invoke,callFunc,program,Sem.run,hf,hn',hb',e1]
 unfold EL;rw[hrun];refine hcall.mono ?_;rintro r' w' ⟨u,S',CQ,rfl,hkb,DF,Hs,h1,h2,h3,h4⟩;have hlt:=(g.ok k _ hk).2.lt b2;have he:Ext x { x with S:=S' } w w':=⟨DF,fun _ h=>h,fun _ _=>Es.refl _⟩
 have g':=g.IN (x':={ x with S:=S' }) k (.box ty cs' false) he (hkb.wide fun b e=>⟨hd,b2,e.symm⟩) (fun i=>⟨.inl,fun h=>h.elim id fun e=>e ▸ hd⟩) (fun _ _=>rfl) (fun _=>.inl ⟨hd,b2,rfl⟩)
  ⟨b1,b2,CQ,h1,by rw[h2,b4],Xd (x:={ x with S:=S' }) hd b1 rfl _ _ _ QN dV h3⟩ (fun b j hs=>(Hs b j hs).imp id fun h=>h.elim (fun h=>⟨h.2,.inl h.1,fun e=>by have:(x.loc k).b=b:=e;omega⟩) (fun h=>⟨by rw[h.1];exact Nat.lt_of_lt_of_le hlt hkb.size,.inr ⟨hd,b2,h.1.symm⟩,fun _ hx=>by have h5:j<(x.loc k).n:=hx.2;have h6:=h.2;omega⟩)) (fun j hx=>g.EI k _ j hk hx)
 have hnc:NC w w':=⟨hkb.size,fun b ob DW hnb=>(hkb.block b (Dy.1 DW).1 fun e=>by subst e;rw[b3]at DW;cases DW;cases hnb).trans DW⟩
 have e:=Lm s.h (some (k,O.box ty cs' false)) (fun k' o' e=>by cases e;exact NS (Bv.1 hk).1);have g'':Good S0 w0 { x with S:=S' } w' (fun i=>(CG s.h (some (k,O.box ty cs' false)))[i]?):=by rw[e];exact g'
 exact h S0 w0 _ _ w' (CT.put hA.tm (hA.df.mono hnc) he g'' (CV.mono (UA S' x w') _ _ h4) o.dst)
end
section
variable {P:Program} {S0:Ba} {w0:Bs} {x:Cx} {w:World} {H:Heap} {a:Act} {o:Oper}
theorem AA8 {α:Type}{l:List α}(h0:0<l.length):∀(m i:Nat),i<m*l.length->(As m l).flatten[i]?=l[i % l.length]?
 | 0,i,h=>by simp at h
 | m+1,i,h=>by
   rw[Ao,GS];by_cases hlt:i<l.length
   . rw[List.getElem?_append_left hlt,oX hlt]
   . rw[List.getElem?_append_right (by omega),AA8 h0 m (i - l.length) (by rw[F1,Nat.one_mul]at h;omega)];rw[<-Nat.mod_eq_sub_mod (by omega)]
theorem AWF {z:Array Value}(h0:0<z.size)(m:Nat):(JV z m).toList=(As m z.toList).flatten:=by
 apply R7;intro i;by_cases hi:i<m*z.size
 . rw[AA8 (by simpa using h0) m i (by simpa using hi)];have hm:i % z.size<z.size:=iE _ h0;simp[JV,hi,hm]
 . have h1:(JV z m).toList.length<=i:=by simp[JV];omega
   have h2:((As m z.toList).flatten).length<=i:=by simp;omega
   rw[Ln h1,Ln h2]
theorem toCs_mapC : ∀l:List C,toCs (l.map V.c)=some l
 | []=>rfl
 | c::l=>by simp only[Al,toCs,toC,toCs_mapC l]
theorem APe (g:Good S0 w0 x w H){t:TypeId}{y z:Operand}(ho:o.op=.call ⟨.builtin .append,#[y,z],#[t,t]⟩){Ah:TypeId}{es Bu:Nat}(hT:Dd P t=some (Ah,es,Bu)){zs:List V}(Rh:DR P Ah=some zs){zc:List C}(hzc:V.AO zs=some (zc.map V.c))(h0:0<es){rows:List (List C)}(hes : ∀r∈rows,r.length=es)(hY:CV x w (.full []) (a.eval y))(hZ:CV x w (.c (.sl rows)) (a.eval z))(hne:rows≠[])(hlen:rows.length<=1000000)(hby:Bu<=200)(k0:Nat)(hk : ¬x.dom k0) :
 ∃m:Nat,Bm P o a S0 w0 x w H (.own k0 0 rows.length es) (some (k0,.box Ah ((rows.flatten++(As m zc).flatten).map V.c) false)):=by
 obtain⟨hu,ie,zv,hie,hz,hsz,dR,hzs⟩:=I1 hT;obtain⟨xR,hz1,Is,i2,hi2,QP⟩:=Zl (x:=x) (w:=w) Rh;rw[hie]at hi2;cases hi2;rw[hz]at QP;cases QP;have hz3:=PJ _ _ _ hzc Is;simp only[CV]at hY hZ;obtain⟨A,hA,_⟩:=hY;obtain⟨B,c',xs,TJ,k1,k2,k3,k4,k5,k6⟩:=Ry hZ hes;obtain⟨b,off,rfl,_⟩:=k6 hne;have hpos:0<rows.length:=List.length_pos_iff.2 hne;have hfit:rows.length*ie.bytes<=281474976710656:=by rw[dR];have:=oY hlen hby;omega
 have Oo:AS w w.drew:=(AS.refl w).drew;obtain⟨g1,RT⟩:=g.Tf (x':=x) (w':=w.drew) Oo ⟨fun _ _ h=>h,fun b j v _ hc=>Oo.cell hc⟩ rfl rfl (fun b j h=>.inl h);have hrun : ∃m cap:Nat,(Builtin.append_ #[t,t] o.type #[a.eval y,a.eval z]).run P w=.ok (.slice (some ⟨w.heap.size,0,none⟩) rows.length cap) (w.drew.alloc (.cells (xs.toArray++JV zv.cells m) Ah))/\cap=rows.length+m/\cap<=maxLen:=by
  have hge:=grownCap_ge w rows.length 0 Ah;have hle:=grownCap_le_maxLen w rows.length 0 Ah (by unfold maxLen;omega);refine⟨grownCap w rows.length 0 Ah - rows.length,grownCap w rows.length 0 Ah,?_,by omega,hle⟩;rw[hA,TJ];cases A with
  | none=>exact run_append_nil (P:=P) w t o.type Ah ie zv hu hie hz ⟨b,off,none⟩ rows.length c' xs (by rw[k4,hsz]) (k5 _ rfl) hpos (by omega) hfit
  | some ad =>
    have:=run_append_grow (P:=P) w t o.type Ah ie zv hu hie hz ad 0 0 [] (by simp) (fun j v h=>by simp at h) ⟨b,off,none⟩ rows.length c' xs (by rw[k4,hsz]) (k5 _ rfl) (by omega) (by simp only[Cu];omega) (growslice_fits (by omega) (by rw[dR];simp only[Cu];have:=oY hlen hby;omega));simp only[Cu,List.nil_append]at this;refine this.trans ?_;simp
 obtain⟨m,cap,hrun,hcap,hcm⟩:=hrun;have hzf:=AWF (z:=zv.cells) (by rw[hzs];exact h0) m;have hcv:AL x w.drew ((rows.flatten++(As m zc).flatten).map V.c) (xs.toArray++JV zv.cells m).toList:=by
  rw[Array.toList_append,hzf,EX];refine AL.append (AL.mono RT _ _ (AL.N2 k3)) ?_;have hr:=toCs_ok (toCs_mapC zc) hz3;have h4:AL x w (zc.map V.c) zv.cells.toList:=AL.N2 hr;have h5:=h4.kb m;rw[show (As m (zc.map V.c)).flatten=((As m zc).flatten).map V.c by rw[List.map_flatten,List.map_replicate]]at h5;exact AL.mono RT _ _ h5
 obtain⟨g',he⟩:=g1.XU k0 hk Ah _ _ hcv;refine⟨m,_,_,_,_,by simp[execOp,ho,resolve,invoke,builtin,hrun];rfl,.inl rfl,?_,g',RT.trans he,fun k h=>h.elim .inl fun e=>.inr ⟨.box Ah ((rows.flatten++(As m zc).flatten).map V.c) false,by rw[e]⟩,fun hb=>by rw[ho]at hb;cases hb⟩;simp only[CV,Cx.Dl,if_true];refine⟨.inr trivial,trivial,cap,rfl,by omega,hcm,?_⟩;have hzl:(JV zv.cells m).size=m*es:=by rw[size_zeroCells,hzs]
 show 0+cap*es<=(xs.toArray++JV zv.cells m).size;rw[Array.size_append,List.size_toArray,hzl,k4,hcap,F1];omega
theorem APf (g:Good S0 w0 x w H){t:TypeId}{y z:Operand}(ho:o.op=.call ⟨.builtin .append,#[y,z],#[t,t]⟩){Ah:TypeId}{es Bu:Nat}(hT:Dd P t=some (Ah,es,Bu)){zs:List V}(Rh:DR P Ah=some zs){zc:List C}(hzc:V.AO zs=some (zc.map V.c))(h0:0<es){rows:List (List C)}(hes : ∀r∈rows,r.length=es)(hY:CV x w (.full []) (a.eval y))(hZ:CV x w (.c (.sl rows)) (a.eval z))(hne:rows≠[])(hlen:rows.length<=1000000)(hby:Bu<=200)(k0:Nat)(hk : ¬x.dom k0) :
 ∃v t',(∀k ob,t'=some (k,ob)->k<=k0)/\(∃m:Nat,v=.own k0 0 rows.length es/\t'=some (k0,.box Ah ((rows.flatten++(As m zc).flatten).map V.c) false))/\Bm P o a S0 w0 x w H v t':=by
 obtain⟨m,hm⟩:=APe g ho hT Rh hzc h0 hes hY hZ hne hlen hby k0 hk;exact⟨_,_,fun k ob e=>by cases e;exact BW _,⟨m,rfl,rfl⟩,hm⟩
theorem ADm : ∀l:List C,V.OF (l.map V.c)=true
 | []=>rfl
 | c::l=>by simp only[Al,V.OF,V.PT,Bool.true_and];exact ADm l
theorem ADl (k:Nat):∀l:List C,V.DJ k (l.map V.c)=some (l.map V.c)
 | []=>rfl
 | c::l=>by simp only[Al,V.DJ,V.DI,ADl k l]
end
end Go.Proofs.YtpodcjcajanldaaGreat
