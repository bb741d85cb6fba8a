/- Part of the proof of breakpointLength.proved. Conditions: none. (Joined and shortened by a program.) -/
import Derived.Test.YtpodcjcajanldaaGreatP0
set_option linter.unusedVariables false
set_option linter.unusedSimpArgs false
set_option maxRecDepth 100000
set_option maxHeartbeats 16000000
open Go.Proofs.Tryz renaming prog→AD,func146→ot,ntmps146→pJ,func92→Gm,ntmps92→pT
open Go.Lib renaming hid→Cr
open Nat renaming zero_le→Cc
open List renaming drop_eq_getElem_cons→Cz,drop_of_length_le→C5,cons_append→Bg,take_succ_eq_append_getElem→NR,take_succ_cons→E9,take_zero→Ke,take_nil→iB,reverse_cons→g9,reverse_nil→iA,nil_append→Bh,drop_succ_cons→Be,drop_zero→BO,drop_nil→gp,setIfInBounds_toArray→Z9,set_cons_succ→Az,set_cons_zero→BC
open Option renaming getD_none→Gl,isSome_none→H7,getD_some→EM,isSome_some→Hg,map_eq_none_iff→AId,map_eq_some_iff→G6
open Go.Instr renaming makeMap→Z1,lookup→VY
open Option.some renaming injEq→BE
open Go.World renaming size_alloc→qH
open Go.Oper renaming looksAt→GG
open Go.Op renaming operands→CN
open Go.Call renaming operands→D7
open Go.Act renaming put→PX
open Eq renaming symm→Zy
namespace Go.Proofs.YtpodcjcajanldaaGreat
open Go.RowKit
def Jw (w:World)(v:Value)(zs:List Int):Prop:=
 ∃A c,v=.slice A zs.length c/\∀i (h:i<zs.length),∃b off,A=some ⟨b,off,none⟩/\w.cell? ⟨b,off+i,none⟩=some (.int .i64 zs[i])
theorem Jw.keep {w w':World}{v:Value}{zs:List Int}(h:Jw w v zs)(hk:AS w w'):Jw w' v zs:=by
 obtain⟨A,c,e,h⟩:=h;exact⟨A,c,e,fun i hi=>by obtain⟨b,off,hA,hc⟩:=h i hi;exact⟨b,off,hA,hk.cell hc⟩⟩
theorem Jw.TX {w:World}{b off:Nat}{zs:List Int}(c:Nat)(h:IC w b off (zs.map (Value.int .i64)).toArray):Jw w (.slice (some ⟨b,off,none⟩) zs.length c) zs:=
 ⟨_,c,rfl,fun i hi=>⟨b,off,rfl,by rw[h i (by simpa using hi)];simp[hi]⟩⟩
theorem Tg (lo hi:Int)(v:Value)(zs:List Int)(w:World)(hl:zs.length<=1000000)(hz:Jw w v zs) :
 Calls AD 144 #[.int .i64 lo,.int .i64 hi,v] w fun r w'=>r=.returned (.bool (Bn lo hi zs))/\w=w':=by
 obtain⟨A,c,rfl,hz⟩:=hz;have HZ:=Cr hz;clear hz;go_enter Tryz.func144,Tryz.ntmps144;go_wp2;go_loop [11] (fun i=>∃k:Nat,k<=zs.length/\i=.int .i64 k/\Hid (Bn lo hi zs=Bn lo hi (zs.drop k))) (fun i=>zs.length - (intOf i).toNat)
 case atStart=>exact⟨0,Cc _,rfl,rfl⟩
 case round =>
  obtain⟨k,hk,rfl,HI⟩:=hrel;by_cases hlt:k<zs.length
  . obtain⟨b,off,rfl,hc⟩:=HZ.out k hlt;have hd:zs.drop k=zs[k]::zs.drop (k+1):=Cz hlt;have HD:=Cr hd;clear hd;generalize zs[k]=z at *
    by_cases h1:z<lo
    . go_wp2;go_ret;exact⟨by rw[HI.out,HD.out];simp[Bn];omega,rfl⟩
    . by_cases h2:hi<z
      . go_wp2;go_ret;exact⟨by rw[HI.out,HD.out];simp[Bn];omega,rfl⟩
      . go_wp2;go_round
        case rel=>exact⟨k+1,by omega,by go_num,by unfold Hid;rw[HI.out,HD.out];simp[Bn];omega⟩
        case measure=>simp[intOf];omega
  . go_wp2;go_ret;exact⟨by rw[HI.out,C5 (by omega)];rfl,rfl⟩
theorem fG (s:ByteArray)(w:World)(hs:s.size<=maxLen) :
 Calls AD 143 #[.string s] w fun r w'=>r=.returned (.bool (F2 s))/\w=w':=by
 unfold maxLen at hs;have HF:Hid (F2 s=(s.data.toList.all DH && (decide (1<=s.size) && decide (s.size<=16)))):=rfl;have hsz:s.data.toList.length=s.size:=by rw[Array.length_toList];rfl
 have HS:=Cr hsz;clear hsz;go_enter Tryz.func143,Tryz.ntmps143;go_wp2;go_loop [3] (fun i=>∃k:Nat,k<=s.size/\i=.int .i64 k/\Hid (s.data.toList.all DH=(s.data.toList.drop k).all DH)) (fun i=>s.size - (intOf i).toNat)
 case atStart=>exact⟨0,Cc _,rfl,rfl⟩
 case round =>
  obtain⟨k,hk,rfl,HI⟩:=hrel;by_cases hlt:k<s.size
  . have hd:s.data.toList.drop k=s[k]::s.data.toList.drop (k+1):=Cz (by rw[HS.out];exact hlt);have HD:=Cr hd;clear hd;by_cases h1:(s[k].toNat:Int)<32
    . go_wp2;go_ret;exact⟨by rw[HF.out,HI.out,HD.out];simp[DH];omega,rfl⟩
    . by_cases h2:126<(s[k].toNat:Int)
      . go_wp2;go_ret;exact⟨by rw[HF.out,HI.out,HD.out];simp[DH];omega,rfl⟩
      . go_wp2;go_round
        case rel=>exact⟨k+1,by omega,by go_num,by unfold Hid;rw[HI.out,HD.out];simp[DH];omega⟩
        case measure=>simp[intOf];omega
  . have hall:s.data.toList.all DH=true:=by rw[HI.out,C5 (by rw[HS.out];omega)];rfl
    have HA:=Cr hall;clear hall;go_wp2;all_goals go_ret
    . exact⟨by rw[HF.out,HA.out];simp;rw[Bool.eq_iff_iff];simp;omega,rfl⟩
    . exact⟨by rw[HF.out,HA.out];simp;omega,rfl⟩
def found:Option Ag->Ag×Bool
 | some g=>(g,true)
 | none=>(Ag.zero,false)
def AI.F4 (f:AI)(name:ByteArray):Ag×Bool:=found (f.find name)
def Ag.Small (g:Ag):Prop:=(-20000<=g.w/\g.w<=20000)/\(-20000<=g.h/\g.h<=20000)/\(-20000<=g.d/\g.d<=20000)/\(-20000<=g.DY/\g.DY<=20000)/\(-20000<=g.attach/\g.attach<=20000)
theorem AHX (p:Params)(w:World) :
 Calls AD 142 #[.agg p.cells] w fun r w'=>r=.returned (.bool (JU p))/\AS w w':=by
 have c0:p.cells[0]?=some (.int .i64 p.BZ):=rfl;have c1:p.cells[1]?=some (.int .i64 p.FV):=rfl;have c2:p.cells[2]?=some (.int .i64 p.EB):=rfl;have c3:p.cells[3]?=some (.int .i64 p.rule):=rfl;have c4:p.cells[4]?=some (.int .i64 p.Ro):=rfl;have c5:p.cells[5]?=some (.int .i64 p.QW):=rfl;have c6:p.cells[6]?=some (.int .i64 p.RD):=rfl;have c7:p.cells[7]?=some (.int .i64 p.Px):=rfl;have c8:p.cells[8]?=some (.int .i64 p.VQ):=rfl;have c9:p.cells[9]?=some (.int .i64 p.VR):=rfl;have c10:p.cells[10]?=some (.int .i64 p.VS):=rfl;have c11:p.cells[11]?=some (.int .i64 p.OA):=rfl;have c12:p.cells[12]?=some (.int .i64 p.OC):=rfl;have c13:p.cells[13]?=some (.int .i64 p.OE):=rfl;have c14:p.cells[14]?=some (.int .i64 p.OD):=rfl;have c15:p.cells[15]?=some (.int .i64 p.Jo):=rfl;have c16:p.cells[16]?=some (.int .i64 p.Jp):=rfl;have c17:p.cells[17]?=some (.int .i64 p.Nf):=rfl;have c18:p.cells[18]?=some (.int .i64 p.OZ):=rfl;have c19:p.cells[19]?=some (.int .i64 p.OO):=rfl;cases hb:Bn 1 100 p.PG with
 | false =>
   have HS:Hid (JU p=false):=by unfold Hid JU;rw[hb];rfl
   go_enter Tryz.func142,Tryz.ntmps142;go_wp2_with fail
   refine(Tg 1 100 _ p.PG _ (by simp[Params.PG]) (Jw.TX (b:=w.heap.size+1) (off:=0) 3 (B8.row (B8.at_ _ 3 _ (by simp))))).mono ?_;rintro e w1 ⟨rfl,rfl⟩;go_wp2_with fail
   go_ret;exact⟨by rw[HS.out];rfl,(by repeat (with_reducible first|exact AS.refl _|assumption|apply AS.alloc|apply AS.drew|apply AS.drewN|(refine AS.setRow ?_ (by omega) _)|refine AS.trans ?_ (by assumption)))⟩
 | true =>
   have HS:Hid (JU p=Bn 0 20000 p.lens):=by unfold Hid JU;rw[hb];rfl
   go_enter Tryz.func142,Tryz.ntmps142;go_wp2_with fail
   refine(Tg 1 100 _ p.PG _ (by simp[Params.PG]) (Jw.TX (b:=w.heap.size+1) (off:=0) 3 (B8.row (B8.at_ _ 3 _ (by simp))))).mono ?_;rintro e w1 ⟨rfl,rfl⟩;go_wp2_with fail
   refine(Tg 0 20000 _ p.lens _ (by simp[Params.lens]) (Jw.TX (b:=w.heap.size+2) (off:=0) 17 (B8.row (B8.at_ _ 3 _ (by simp))))).mono ?_;rintro e w1 ⟨rfl,rfl⟩;go_wp2_with fail
   go_ret;exact⟨by rw[HS.out];rfl,(by repeat (with_reducible first|exact AS.refl _|assumption|apply AS.alloc|apply AS.drew|apply AS.drewN|(refine AS.setRow ?_ (by omega) _)|refine AS.trans ?_ (by assumption)))⟩
theorem gM (name:ByteArray)(hb mb n:Nat)(M:ByteArray->Option Int)(w:World)(hs:name.size<=maxLen)(hc:w.cell? ⟨hb,0,none⟩=some (.map (some mb)))(hm:IZ w mb n M) :
 Calls AD 145 #[.string name,.pointer (some ⟨hb,0,none⟩)] w fun r w'=>r=.returned (.tuple #[.int .i64 ((M name).getD 0),.bool (M name).isSome])/\w=w':=by
 have hl:=hm.look hs;clear hm;go_enter Tryz.func145,Tryz.ntmps145;go_wp2;go_ret2
 exact⟨rfl,rfl⟩
theorem jd (p:Part):I7 AD 109 p.cells.size:=I7.mk' Tryz.underlying109 rfl (by kernel_rfl)
theorem AET (p:Part):SU p.cells:=by intro v hv;simp[Part.cells]at hv;rcases hv with rfl|rfl<;>rfl
theorem AVZ (s:A6)(cs:Array Value)(hb mb n:Nat)(M:ByteArray->Option Int)(w:World)(hs:Rd w s.ds cs.toList)(hc:w.cell? ⟨hb,0,none⟩=some (.map (some mb)))(hm:IZ w mb n M)(hM : ∀x h,M x=some h-> -60000<=h/\h<=60000) :
 Calls AD 146 #[.agg cs,.func (.func 145) #[] #[.pointer (some ⟨hb,0,none⟩)]] w fun r w'=>r=.returned (.bool (Hd M s))/\AS w w':=by
 obtain⟨zv,pv,hz,h0,h1,h2,h3,hn,hzv,hpv,du⟩:=wi hs;obtain⟨A,c,rfl,hlc,hcm,hZ⟩:=AUA hzv;obtain⟨B,d,rfl,Y8,tH,hP⟩:=AT8 hpv;have HC:=Cr hc;have HM:=Cr hm;have jL:=Cr hM;have HZ:=Cr hZ;have HP:=Cr hP;have hbl:=block_lt_of_cell hc;simp only at hbl;obtain⟨o1,o2⟩:=du;unfold maxLen at hcm tH;clear hs hc hm hzv hpv hz hZ hP hM;cases JJ:F2 s.name with
 | false =>
   have HS:Hid (Hd M s=false):=by unfold Hid Hd;rw[JJ];rfl
   go_enter ot,pJ;go_wp2_with fail
   refine(fG _ _ hn).mono ?_;rintro e w1 ⟨rfl,rfl⟩;go_wp2_with fail
   go_ret;exact⟨by rw[HS.out];rfl,(by repeat (with_reducible first|exact AS.refl _|assumption|apply AS.alloc|apply AS.drew|apply AS.drewN|(refine AS.setRow ?_ (by omega) _)|refine AS.trans ?_ (by assumption)))⟩
 | true =>
 cases Gx:Bn 1 16 [(s.Bb.length:Int)]with
 | false =>
   have HS:Hid (Hd M s=false):=by unfold Hid Hd;rw[JJ,Gx];rfl
   go_enter ot,pJ;go_wp2_with fail
   refine(fG _ _ hn).mono ?_;rintro e w1 ⟨rfl,rfl⟩;go_wp2_with fail
   refine(Tg 1 16 _ [(s.Bb.length:Int)] _ (by simp) (Jw.TX (b:=w.heap.size+1) (off:=0) 1 (B8.row (B8.at_ _ 3 _ (by simp))))).mono ?_;rintro e w1 ⟨rfl,rfl⟩;go_wp2_with fail
   go_ret;exact⟨by rw[HS.out];rfl,(by repeat (with_reducible first|exact AS.refl _|assumption|apply AS.alloc|apply AS.drew|apply AS.drewN|(refine AS.setRow ?_ (by omega) _)|refine AS.trans ?_ (by assumption)))⟩
 | true =>
 by_cases P6:s.parts.length<=8
 case neg =>
  have HS:Hid (Hd M s=false):=by unfold Hid Hd;rw[JJ,Gx];simp[P6]
  go_enter ot,pJ;go_wp2_with fail
  refine(fG _ _ hn).mono ?_;rintro e w1 ⟨rfl,rfl⟩;go_wp2_with fail
  refine(Tg 1 16 _ [(s.Bb.length:Int)] _ (by simp) (Jw.TX (b:=w.heap.size+1) (off:=0) 1 (B8.row (B8.at_ _ 3 _ (by simp))))).mono ?_;rintro e w1 ⟨rfl,rfl⟩;go_wp2_with fail
  go_ret;exact⟨by rw[HS.out];rfl,(by repeat (with_reducible first|exact AS.refl _|assumption|apply AS.alloc|apply AS.drew|apply AS.drewN|(refine AS.setRow ?_ (by omega) _)|refine AS.trans ?_ (by assumption)))⟩
 have HS:Hid (Hd M s=(Jr M (-60000) s.Bb && (if s.parts=[]then decide (s.CX=0)else QZ M s))):=by unfold Hid Hd;rw[JJ,Gx];simp[P6]
 have h8:decide ((8:Int)<(s.parts.length:Int))=false:=by simp;omega
 go_enter ot,pJ;go_wp2_with fail
 refine(fG _ _ hn).mono ?_;rintro e w1 ⟨rfl,rfl⟩;go_wp2_with fail
 refine(Tg 1 16 _ [(s.Bb.length:Int)] _ (by simp) (Jw.TX (b:=w.heap.size+1) (off:=0) 1 (B8.row (B8.at_ _ 3 _ (by simp))))).mono ?_;rintro e w1 ⟨rfl,rfl⟩;go_wp2_with fail
 clear h8;have kw:AS w ((w.alloc (.cells cs 106)).alloc (.cells #[.int .i64 (s.Bb.length:Int)] 3)):=(by repeat (with_reducible first|exact AS.refl _|assumption|apply AS.alloc|apply AS.drew|apply AS.drewN|(refine AS.setRow ?_ (by omega) _)|refine AS.trans ?_ (by assumption)))
 have hcW:=kw.cell HC.out;have bT:=Cr (HM.out.keep kw);have bQ:=Cr hcW;have b0:B8 ((w.alloc (.cells cs 106)).alloc (.cells #[.int .i64 (s.Bb.length:Int)] 3)) w.heap.size 106 cs:=(B8.new _ _ _).alloc _;have KW:=Cr kw;have B0:=Cr b0;clear hcW kw b0;go_loop [5,37] (fun last i=>∃(k:Nat) (z:Int),k<=s.Bb.length/\i=.int .i64 k/\last=.int .i64 z/\ -60000<=z/\z<=60000/\Hid (Jr M (-60000) s.Bb=Jr M z (s.Bb.drop k))) (fun _ i=>s.Bb.length - (intOf i).toNat)
 case atStart=>exact⟨0,-60000,Cc _,rfl,rfl,by omega,by omega,rfl⟩
 case round =>
  obtain⟨k,z,hk,rfl,rfl,z1,z2,HI⟩:=hrel;by_cases hlt:k<s.Bb.length
  . obtain⟨hsz,b,off,rfl,dQ,hcc⟩:=HZ.out k hlt;have hd:s.Bb.drop k=s.Bb[k]::s.Bb.drop (k+1):=Cz hlt;have HD:=Cr hd;clear hd;generalize s.Bb[k]=x at *
    cases Km:M x with
    | none =>
      have HF:Hid (Jr M (-60000) s.Bb=false):=by unfold Hid;rw[HI.out,HD.out];simp[Jr,Km]
      have HX:=Cr Km;clear Km;go_wp2_with (go_at_call 145;refine(gM x hb mb n M _ hsz bQ.out bT.out).mono ?_;rintro e w1 ⟨rfl,rfl⟩;rw[HX.out];simp only[Gl,H7])
      go_ret;exact⟨by rw[HS.out,HF.out];rfl,KW.out⟩
    | some h =>
      obtain⟨m1,m2⟩:=jL.out x h Km;have HX:=Cr Km;by_cases hle:h<=z
      . have HF:Hid (Jr M (-60000) s.Bb=false):=by unfold Hid;rw[HI.out,HD.out];simp[Jr,Km];omega
        clear Km;go_wp2_with (go_at_call 145;refine(gM x hb mb n M _ hsz bQ.out bT.out).mono ?_;rintro e w1 ⟨rfl,rfl⟩;rw[HX.out];simp only[EM,Hg])
        go_ret;exact⟨by rw[HS.out,HF.out];rfl,KW.out⟩
      . have HF:Hid (Jr M (-60000) s.Bb=Jr M h (s.Bb.drop (k+1))):=by unfold Hid;rw[HI.out,HD.out];simp[Jr,Km];omega
        clear Km;go_wp2_with (go_at_call 145;refine(gM x hb mb n M _ hsz bQ.out bT.out).mono ?_;rintro e w1 ⟨rfl,rfl⟩;rw[HX.out];simp only[EM,Hg])
        go_round
        case rel=>exact⟨k+1,h,by omega,by go_num,rfl,m1,m2,HF⟩
        case measure=>simp[intOf];omega
  . have HT:Hid (Jr M (-60000) s.Bb=true):=by unfold Hid;rw[HI.out,C5 (by omega)];rfl
    by_cases Ue:s.parts.length=0
    . have Ey:s.parts=[]:=List.eq_nil_of_length_eq_zero Ue;have HF:Hid (Hd M s=decide (s.CX=0)):=by unfold Hid;rw[HS.out,HT.out,if_pos Ey];rfl
      clear Ey;go_wp2_with fail
      go_ret;refine⟨?_,KW.out⟩;rw[HF.out];show Ending.returned (Value.bool (s.CX==0))=_;by_cases ho:s.CX=0<;>simp[ho]
    . have Ey : ¬s.parts=[]:=fun e=>Ue (by rw[e];rfl)
      have HF:Hid (Hd M s=QZ M s):=by unfold Hid;rw[HS.out,HT.out,if_neg Ey];rfl
      have HQ:((s.parts.length:Int)==0)=false:=by rw[beq_eq_false_iff_ne];omega
      clear Ey HI;go_wp2_with fail
      go_loopw [10,11,66] (fun least ext i wr=>∃(j:Nat) (l:Int) (x:Bool),j<=s.parts.length/\i=.int .i64 j/\least=.int .i64 l/\ext=.bool x/\ -60000<=l/\l<=60000/\Hid (Gb M 60000 false s.parts=Gb M l x (s.parts.drop j))/\
       AS ((w.alloc (.cells cs 106)).alloc (.cells #[.int .i64 (s.Bb.length:Int)] 3)) wr) (fun _ _ i _=>s.parts.length - (intOf i).toNat)
      case atStart=>exact⟨0,60000,false,Cc _,rfl,rfl,rfl,by omega,by omega,rfl,AS.refl _⟩
      case round =>
       obtain⟨j,l,x,hj,rfl,rfl,rfl,l1,l2,HI,Ot⟩:=hrel;have ep:=KW.out.trans Ot;have hzr:=ep.size;have KR:=Cr Ot;have jN:=Cr ep;clear Ot ep;by_cases EJ:j<s.parts.length
       . obtain⟨HU,b,off,rfl,dQ,Ra⟩:=HP.out j EJ;have hd:s.parts.drop j=s.parts[j]::s.parts.drop (j+1):=Cz EJ;have HD:=Cr hd;have HR:=Cr (jN.out.row Ra);clear hd Ra;generalize s.parts[j]=p at *
         have q0:p.cells[0]?=some (.string p.name):=rfl;have q1:p.cells[1]?=some (.bool p.ext):=rfl;cases Km:M p.name with
         | none =>
           have jK:Hid (QZ M s=false):=by unfold Hid QZ;rw[HI.out,HD.out];simp[Gb,Km]
           have HX:=Cr Km;clear Km;go_wp2_with (first
            | ((with_reducible refine VW (ty:=109) (b) (off+j*2) (p.cells) ?_ ?_ ?_ ?_ ?_);(focus rfl);(focus exact HR.out);(focus exact jd p);(focus rfl))
            | ((with_reducible refine gP (ty:=109) (wr.heap.size) (p.cells) ?_ ?_ ?_ ?_ ?_ ?_ ?_ ?_);(focus rfl);(focus rfl);(focus simp);(focus first|rfl|simp[*]);(focus exact AET p);(focus exact jd p);(focus rfl))
            | (go_at_call 145;refine(gM p.name hb mb n M _ HU ((KR.out.alloc _).cell bQ.out) (bT.out.keep (KR.out.alloc _))).mono ?_;rintro e w1 ⟨rfl,rfl⟩;rw[HX.out];simp only[Gl,H7]))
           go_ret;exact⟨by rw[HF.out,jK.out];rfl,jN.out.alloc _⟩
         | some h =>
           obtain⟨m1,m2⟩:=jL.out p.name h Km;have jK:Hid (Gb M 60000 false s.parts=Gb M (if h<l then h else l) (x || p.ext) (s.parts.drop (j+1))):=by unfold Hid;rw[HI.out,HD.out];simp[Gb,Km]
           have HX:=Cr Km;clear Km;go_wp2_with (first
            | ((with_reducible refine VW (ty:=109) (b) (off+j*2) (p.cells) ?_ ?_ ?_ ?_ ?_);(focus rfl);(focus exact HR.out);(focus exact jd p);(focus rfl))
            | ((with_reducible refine gP (ty:=109) (wr.heap.size) (p.cells) ?_ ?_ ?_ ?_ ?_ ?_ ?_ ?_);(focus rfl);(focus rfl);(focus simp);(focus first|rfl|simp[*]);(focus exact AET p);(focus exact jd p);(focus rfl))
            | (go_at_call 145;refine(gM p.name hb mb n M _ HU ((KR.out.alloc _).cell bQ.out) (bT.out.keep (KR.out.alloc _))).mono ?_;rintro e w1 ⟨rfl,rfl⟩;rw[HX.out];simp only[EM,Hg]))
           . go_roundw
             case rel=>exact⟨j+1,_,true,by omega,by go_num,rfl,rfl,by split<;>omega,by split<;>omega,by unfold Hid;rw[jK.out];simp[*],KR.out.alloc _⟩
             case measure=>simp[intOf];omega
           . go_roundw
             case rel=>exact⟨j+1,_,p.ext,by omega,by go_num,rfl,rfl,by split<;>omega,by split<;>omega,by unfold Hid;rw[jK.out];simp[*],KR.out.alloc _⟩
             case measure=>simp[intOf];omega
       . have HE:Hid (QZ M s=(x && Bn 0 (l - 1) [s.CX])):=by unfold Hid QZ;rw[HI.out,C5 (by omega)];rfl
         have hcell:=(KR.out.blk B0.out).cell;cases x with
         | false =>
           go_wp2_with fail
           go_ret;exact⟨by rw[HF.out,HE.out];rfl,jN.out⟩
         | true =>
           go_wp2_with fail
           refine(Tg 0 (l - 1) _ [s.CX] _ (by simp) (Jw.TX (b:=wr.heap.size) (off:=0) 1 (B8.row (B8.at_ _ 3 _ (by simp))))).mono ?_;rintro e w1 ⟨rfl,rfl⟩;go_wp2_with fail
           go_ret;exact⟨by rw[HF.out,HE.out];rfl,jN.out.alloc _⟩
theorem zC (p:Params):I7 AD 25 p.cells.size:=I7.mk' Tryz.underlying25 rfl (by kernel_rfl)
theorem ATH {P:Program}(t k e:TypeId)(kd:IntKind)(n:Int)(ht:P.underlying t=some (.map k e))(w:World) :
 (Z1 t (some (.int kd n))).run P w=.ok (.map (some w.heap.size)) (w.alloc (.map #[] 0)):=by
 simp[Z1,run_underlying ht];rfl
theorem AV3 {P:Program}{ops:Array Oper}{rest:List Oper}{a:Act}{w:World}{Q:Exit->Act->World->Prop}{dst:Option Tmp}{PU:TypeId}{pos:String}{after:Array Edge}{t:TypeId}{m x v:Operand}(M X V:Value)(w':World)(hm:a.eval m=M)(hx:a.eval x=X)(hv:a.eval v=V)(hrun:(Instr.mapUpdate t M X V).run P w=.ok () w')(h:wpList P ops Q rest (a.put dst undef) w'):wpList P ops Q (⟨dst,.mapUpdate t m x v,PU,pos,after,none⟩::rest) a w:=
 wpList_plain rfl fun _ hK=>by
  unfold Oper.wp execOp;simp only[hm,hx,hv,Sem.run_bind,Sem.run_pure,Result.andThen_ok,hrun];exact hK _ _ h
theorem AC3 (zs:List Int):y5 (fun v W=>Jw W v zs):=fun _ _ _ hk h=>h.keep hk
theorem AAo (E:Value):y5 (fun v _=>v=E):=fun _ _ _ _ h=>h
def Re (l:List Ag)(name:ByteArray):Option Int:=(G9 name l).map Ag.Ch
theorem s5 (name:ByteArray):∀l:List Ag,hasName name l=(G9 name l).isSome
 | []=>rfl
 | g::r=>by
   simp only[hasName,G9];by_cases h:g.name=name
   . simp[h]
   . simp[h,s5 name r]
theorem ANl (l:List Ag)(g:Ag)(h:Re l g.name=none)(x:ByteArray):upd (Re l) g.name g.Ch x=Re (l++[g]) x:=by
 have hap : ∀l:List Ag,G9 x (l++[g])=(G9 x l).or (if g.name=x then some g else none):=by
  intro l;induction l with
  | nil=>simp[G9]
  | cons y r ih=>simp only[Bg,G9,ih];split<;>simp
 simp only[upd,Re,hap];by_cases hx:x=g.name
 . subst hx;simp only[Re,AId]at h;simp[h]
 . have : ¬g.name=x:=fun e=>hx e.symm
   simp[hx,this]
theorem B8.grown {w w':World}{g:Nat}{t:TypeId}{cs:Array Value}{row:Option Nat}(h:B8 w g t cs)(hb:w.grownBy w' row)(hg:some g≠row):B8 w' g t cs:=(hb.block g h.lt hg).trans h
theorem zD {row:Array Value}(h:row.size=4):I7 AD 106 row.size:=by rw[h];exact I7.mk' Tryz.underlying106 rfl (by kernel_rfl)
theorem Yp {name:ByteArray}{g:Ag} : ∀ {l:List Ag},G9 name l=some g->g∈l
 | [],h=>by simp[G9]at h
 | x::r,h=>by
   simp only[G9]at h;split at h
   . simp only[BE]at h;subst h;simp
   . exact List.mem_cons_of_mem _ (Yp h)
theorem ANn (f:AI)(h : ∀g∈f.CO,GK g=true)(x:ByteArray)(y:Int)(hy:f.ht x=some y): -60000<=y/\y<=60000:=by
 simp only[AI.ht,AI.find,G6]at hy;obtain⟨g,hg,rfl⟩:=hy;have:=h g (Yp hg);simp[GK,Bn]at this;simp only[Ag.Ch];omega
theorem AVa (f:AI)(cs:Array Value)(w:World)(hf:Rd w f.ds cs.toList) :
 Calls AD 92 #[.agg cs] w fun r w'=>r=.returned (.bool f.valid)/\AS w w':=by
 obtain⟨gv,sv,hz,h0,h1,hp,F7,Rc,hi⟩:=AK5 hf;obtain⟨A,c,rfl,hlc,hcm,hG⟩:=AT6 F7;obtain⟨B,d,rfl,Y8,tH,hS⟩:=AT9 Rc;have HG:=Cr hG;have yo:=Cr hS;have b0:B8 (w.alloc (.cells cs 27)) w.heap.size 27 cs:=B8.new _ _ _;have rp:IC (w.alloc (.cells cs 27)) w.heap.size 2 f.params.cells:=by
  have:=b0.row.sub 2 20 (by rw[hz];decide);rw[show (2+20:Nat)=22 from rfl,hp]at this;exact this
 have B0:=Cr b0;have RP:=Cr rp;unfold maxLen at hcm tH;clear hf hG hS F7 Rc hp hz hi b0 rp;by_cases Kq:f.CO.length<=400
 case neg =>
  have HS:Hid (f.valid=false):=by unfold Hid AI.valid;simp[Kq]
  go_enter Gm,pT;go_wp2_with fail
  go_ret;exact⟨by rw[HS.out];rfl,(by repeat (with_reducible first|exact AS.refl _|assumption|apply AS.alloc|apply AS.drew|apply AS.drewN|(refine AS.setRow ?_ (by omega) _)|refine AS.trans ?_ (by assumption)))⟩
 by_cases lK:f.CD.length<=40
 case neg =>
  have HS:Hid (f.valid=false):=by unfold Hid AI.valid;simp[lK]
  go_enter Gm,pT;go_wp2_with fail
  go_ret;exact⟨by rw[HS.out];rfl,(by repeat (with_reducible first|exact AS.refl _|assumption|apply AS.alloc|apply AS.drew|apply AS.drewN|(refine AS.setRow ?_ (by omega) _)|refine AS.trans ?_ (by assumption)))⟩
 have WR:decide ((400:Int)<(f.CO.length:Int))=false:=by simp;omega
 have IG:decide ((40:Int)<(f.CD.length:Int))=false:=by simp;omega
 cases lL:JU f.params with
 | false =>
   have HS:Hid (f.valid=false):=by unfold Hid AI.valid;simp[lL]
   go_enter Gm,pT;go_wp2_with (first
    | ((with_reducible refine VW (ty:=25) (w.heap.size) (2) (f.params.cells) ?_ ?_ ?_ ?_ ?_);(focus rfl);(focus exact RP.out);(focus exact zC _);(focus rfl)))
   refine(AHX f.params _).mono ?_;rintro e w1 ⟨rfl,Ev⟩;rw[lL];go_wp2_with fail
   go_ret;exact⟨by rw[HS.out];rfl,(by repeat (with_reducible first|exact AS.refl _|assumption|apply AS.alloc|apply AS.drew|apply AS.drewN|(refine AS.setRow ?_ (by omega) _)|refine AS.trans ?_ (by assumption)))⟩
 | true =>
 have HS:Hid (f.valid=(HH [] f.CO && Mf f.ht [] f.CD)):=by unfold Hid AI.valid;simp[Kq,lK,lL]
 have BX:=fun (n:Int) (W:World)=>ATH (P:=AD) 177 _ _ .i64 n Tryz.underlying177 W
 go_enter Gm,pT;go_wp2_with (first
  | ((with_reducible refine VW (ty:=25) (w.heap.size) (2) (f.params.cells) ?_ ?_ ?_ ?_ ?_);(focus rfl);(focus exact RP.out);(focus exact zC _);(focus rfl)))
 refine(AHX f.params _).mono ?_;rintro e w1 ⟨rfl,Ev⟩;rw[lL];have hz1:=Ev.size;simp only[qH]at hz1;have On:=(Ev.blk B0.out).cell;have F8:w.heap.size<w1.heap.size:=by omega
 have Fp:w.heap.size<w1.heap.size+1:=by omega
 go_wp2_with fail
 have kw:AS w ((w1.alloc (.map #[] 0)).alloc (.cells #[.map (some w1.heap.size)] 177)):=(by repeat (with_reducible first|exact AS.refl _|assumption|apply AS.alloc|apply AS.drew|apply AS.drewN|(refine AS.setRow ?_ (by omega) _)|refine AS.trans ?_ (by assumption)))
 have mm:IZ ((w1.alloc (.map #[] 0)).alloc (.cells #[.map (some w1.heap.size)] 177)) w1.heap.size 0 (Re (f.CO.take 0)):=((IZ.made w1).keep (by repeat (with_reducible first|exact AS.refl _|assumption|apply AS.alloc|apply AS.drew|apply AS.drewN|(refine AS.setRow ?_ (by omega) _)|refine AS.trans ?_ (by assumption)))).congr fun _=>rfl
 have bm:B8 ((w1.alloc (.map #[] 0)).alloc (.cells #[.map (some w1.heap.size)] 177)) (w1.heap.size+1) 177 #[.map (some w1.heap.size)]:=B8.at_ _ _ _ (by simp);have bf:B8 ((w1.alloc (.map #[] 0)).alloc (.cells #[.map (some w1.heap.size)] 177)) w.heap.size 27 cs:=((Ev.blk B0.out).alloc _).alloc _;clear BX Fp On WR IG;go_loopw [36] (fun i wr=>∃k:Nat,k<=f.CO.length/\i=.int .i64 k/\AS w wr/\B8 wr w.heap.size 27 cs/\B8 wr (w1.heap.size+1) 177 #[.map (some w1.heap.size)]/\
  IZ wr w1.heap.size k (Re (f.CO.take k))/\Hid (HH [] f.CO=HH (f.CO.take k) (f.CO.drop k))/\Hid (∀g∈f.CO.take k,GK g=true)) (fun i _=>f.CO.length - (intOf i).toNat)
 case atStart=>exact⟨0,Cc _,rfl,kw,bf,bm,mm,rfl,by intro g hg;simp at hg⟩
 case round =>
  obtain⟨k,hk,rfl,Ot,WV,Yx,lU,HI,HA⟩:=hrel;have KR:=Cr Ot;have ep:=Ot;have BF:=Cr WV;have BM:=Cr Yx;have MM:=Cr lU;have On:=WV.cell;have hzr:=Ot.size;clear Ot ep WV Yx lU kw mm bm bf;by_cases hlt:k<f.CO.length
  . obtain⟨Au,b,off,rfl,hb,hr⟩:=HG.out k hlt;have hd:f.CO.drop k=f.CO[k]::f.CO.drop (k+1):=Cz hlt;have ht:f.CO.take (k+1)=f.CO.take k++[f.CO[k]]:=NR hlt;have HD:=Cr hd;have HT:=Cr ht;have HR:=Cr (KR.out.row hr);clear hd ht hr;generalize f.CO[k]=g at *
    have hlk:(k:Int)<(f.CO.length:Int):=by omega
    go_wp2_with fail
    refine n5 36 mixed (by kernel_rfl) rfl ?_;intro w2 hk2;simp only[E9,Ke,iB];have e0 : ∀W,AS w2 W->W.cell? ⟨b,off+k*6,none⟩=some (.string g.name):=fun W h=>h.cell (hk2.cell (HR.out.at_ (j:=0) rfl))
    have e1 : ∀W,AS w2 W->W.cell? ⟨b,off+k*6+1,none⟩=some (.int .i64 g.w):=fun W h=>h.cell (hk2.cell (HR.out.at_ (j:=1) rfl))
    have e2 : ∀W,AS w2 W->W.cell? ⟨b,off+k*6+2,none⟩=some (.int .i64 g.h):=fun W h=>h.cell (hk2.cell (HR.out.at_ (j:=2) rfl))
    have e3 : ∀W,AS w2 W->W.cell? ⟨b,off+k*6+3,none⟩=some (.int .i64 g.d):=fun W h=>h.cell (hk2.cell (HR.out.at_ (j:=3) rfl))
    have e4 : ∀W,AS w2 W->W.cell? ⟨b,off+k*6+4,none⟩=some (.int .i64 g.DY):=fun W h=>h.cell (hk2.cell (HR.out.at_ (j:=4) rfl))
    have e5 : ∀W,AS w2 W->W.cell? ⟨b,off+k*6+5,none⟩=some (.int .i64 g.attach):=fun W h=>h.cell (hk2.cell (HR.out.at_ (j:=5) rfl))
    repeat (with_reducible apply Xj rfl;· (intro a W hk hf;(try simp[looks,GG,CN,D7,C0]at hf);go_simp;rfl))
    with_reducible apply ASe rfl
    . intro a W hk hf;simp[looks,GG,CN,D7,C0]at hf;go_simp;exact⟨rfl,rfl⟩
    . intro W hk;exact(fG _ _ Au.1).mono fun e W' h=>⟨h.1,h.2 ▸ AS.refl _⟩
    repeat (with_reducible apply Xj rfl;· (intro a W hk hf;(try simp[looks,GG,CN,D7,C0]at hf);go_simp;rfl))
    repeat (with_reducible apply nC rfl rfl;(· (intro v W h;simp[C0]at h;exact h));· (intro Jc a W hk hf;simp[looks,GG,CN,D7,C0,Jc]at hf;go_simp;rfl))
    with_reducible apply vx (fun v W=>Jw W v [g.w]) (AC3 _) rfl rfl
    . intro v W h;simp[C0]at h;exact h
    . intro Jc a W hk hf;simp[looks,GG,CN,D7,C0,Jc]at hf;refine⟨_,_,by go_simp;exact⟨rfl,rfl⟩,?_,?_⟩
      . exact Jw.TX (zs:=[g.w]) (off:=0) 1 (B8.new _ _ _).row
      . exact(AS.refl _).alloc _
    with_reducible apply AFb (fun v _=>v=.bool (Bn 0 20000 [g.w])) (AAo _) rfl rfl
    . intro v W h;simp[C0]at h;exact h
    . intro Jc a W hk hf;simp[looks,GG,CN,D7,C0,Jc]at hf;refine⟨_,_,by go_simp;exact⟨rfl,rfl⟩,?_⟩;exact(Tg _ _ _ [g.w] W (by simp) hf.1).mono fun e W' h=>⟨_,h.1,rfl,h.2 ▸ AS.refl _⟩
    repeat (with_reducible apply nC rfl rfl;(· (intro v W h;simp[C0]at h;exact h));· (intro Jc a W hk hf;simp[looks,GG,CN,D7,C0,Jc]at hf;go_simp;rfl))
    with_reducible apply AFd
    . (intro v W h;simp[C0]at h;exact h)
    . (intro v W h Jc;simp[C0,Jc]at h;exact h)
    repeat (with_reducible apply Xj rfl;· (intro a W hk hf;(try simp[looks,GG,CN,D7,C0]at hf);go_simp;rfl))
    repeat (with_reducible apply nC rfl rfl;(· (intro v W h;simp[C0]at h;exact h));· (intro Jc a W hk hf;simp[looks,GG,CN,D7,C0,Jc]at hf;go_simp;rfl))
    with_reducible apply vx (fun v W=>Jw W v [g.h,g.d,g.DY,g.attach]) (AC3 _) rfl rfl
    . intro v W h;simp[C0]at h;exact h
    . intro Jc a W hk hf;simp[looks,GG,CN,D7,C0,Jc]at hf;refine⟨_,_,by go_simp;exact⟨rfl,rfl⟩,?_,?_⟩
      . exact Jw.TX (zs:=[g.h,g.d,g.DY,g.attach]) (off:=0) 4 (B8.new _ _ _).row
      . exact(AS.refl _).alloc _
    with_reducible apply AFb (fun v _=>v=.bool (Bn (-20000) 20000 [g.h,g.d,g.DY,g.attach])) (AAo _) rfl rfl
    . intro v W h;simp[C0]at h;exact h
    . intro Jc a W hk hf;simp[looks,GG,CN,D7,C0,Jc]at hf;refine⟨_,_,by go_simp;exact⟨rfl,rfl⟩,?_⟩;exact(Tg _ _ _ [g.h,g.d,g.DY,g.attach] W (by simp) hf.1).mono fun e W' h=>⟨_,h.1,rfl,h.2 ▸ AS.refl _⟩
    repeat (with_reducible apply nC rfl rfl;(· (intro v W h;simp[C0]at h;exact h));· (intro Jc a W hk hf;simp[looks,GG,CN,D7,C0,Jc]at hf;go_simp;rfl))
    with_reducible apply AFd
    . (intro v W h;simp[C0]at h;exact h)
    . (intro v W h Jc;simp[C0,Jc]at h;exact h)
    with_reducible apply fc
    intro W3 Jg;simp only[g9,iA,Bh,Bg,Be,BO,gp];repeat (first|with_reducible apply kZ|(with_reducible apply AKy;intro v _))
    with_reducible apply cY
    simp only[PX,Z9,Az,BC];clear e0 e1 e2 e3 e4 e5;cases hgo:GK g with
    | false =>
      have hq:(!F2 g.name || !Bn 0 20000 [g.w] || !Bn (-20000) 20000 [g.h,g.d,g.DY,g.attach])=true:=by
       simp only[GK]at hgo;cases h1:F2 g.name<;>cases h2:Bn 0 20000 [g.w]<;>cases h3:Bn (-20000) 20000 [g.h,g.d,g.DY,g.attach]<;>simp_all
      have HF:Hid (f.valid=false):=by unfold Hid;rw[HS.out,HI.out,HD.out];simp[HH,hgo]
      simp only[hq];clear hq hgo;go_wp2_with fail
      go_ret;exact⟨by rw[HF.out];rfl,KR.out.trans (hk2.trans Jg)⟩
    | true =>
      have hq:(!F2 g.name || !Bn 0 20000 [g.w] || !Bn (-20000) 20000 [g.h,g.d,g.DY,g.attach])=false:=by
       simp only[GK]at hgo;cases h1:F2 g.name<;>cases h2:Bn 0 20000 [g.w]<;>cases h3:Bn (-20000) 20000 [g.h,g.d,g.DY,g.attach]<;>simp_all
      simp only[hq];clear hq;have qJ:=Cr hgo;clear hgo;go_wp2_with fail
      have ACQ:AS wr W3:=hk2.trans Jg;have yk:=Cr ACQ;clear hk2 Jg ACQ;cases hM:Re (f.CO.take k) g.name with
      | some v =>
        have HF:Hid (f.valid=false):=by
         unfold Hid;rw[HS.out,HI.out,HD.out];have:hasName g.name (f.CO.take k)=true:=by rw[s5];simp only[Re,G6]at hM;obtain⟨y,hy,_⟩:=hM;simp[hy]
         simp[HH,this]
        have bS:=Cr hM;clear hM;refine n5 11 mixed (by kernel_rfl) rfl ?_;intro w4 lP;simp only[E9,Ke,iB];have Rk:=yk.out.trans lP;have e0 : ∀W,AS w4 W->W.cell? ⟨b,off+k*6,none⟩=some (.string g.name):=fun W h=>(Rk.trans h).cell (HR.out.at_ (j:=0) rfl)
        have em : ∀W,AS w4 W->W.cell? ⟨w1.heap.size+1,0,none⟩=some (.map (some w1.heap.size)):=fun W h=>(Rk.trans h).cell (BM.out.cell 0)
        have el : ∀W,AS w4 W->(VY 177 (.map (some w1.heap.size)) (.string g.name) true).run AD W=.ok (.tuple #[.int .i64 v,.bool true]) W:=fun W h=>by
         have:=(MM.out.keep (Rk.trans h)).look Au.1;rw[bS.out]at this;exact this
        repeat (with_reducible apply Xj rfl;· (intro a W hk hf;(try simp[looks,GG,CN,D7,C0]at hf);go_simp;rfl))
        with_reducible apply fc
        intro W5 lQ;simp only[g9,iA,Bh,Bg,Be,BO,gp];repeat (with_reducible apply kZ)
        with_reducible apply cY
        simp only[PX,Z9,Az,BC];clear e0 em el;go_wp2_with fail
        go_ret;exact⟨by rw[HF.out];rfl,KR.out.trans (Rk.trans lQ)⟩
      | none =>
        have bS:=Cr hM;clear hM;refine n5 11 mixed (by kernel_rfl) rfl ?_;intro w4 lP;simp only[E9,Ke,iB];have Rk:=yk.out.trans lP;have e0 : ∀W,AS w4 W->W.cell? ⟨b,off+k*6,none⟩=some (.string g.name):=fun W h=>(Rk.trans h).cell (HR.out.at_ (j:=0) rfl)
        have em : ∀W,AS w4 W->W.cell? ⟨w1.heap.size+1,0,none⟩=some (.map (some w1.heap.size)):=fun W h=>(Rk.trans h).cell (BM.out.cell 0)
        have el : ∀W,AS w4 W->(VY 177 (.map (some w1.heap.size)) (.string g.name) true).run AD W=.ok (.tuple #[.int .i64 0,.bool false]) W:=fun W h=>by
         have:=(MM.out.keep (Rk.trans h)).look Au.1;rw[bS.out]at this;exact this
        repeat (with_reducible apply Xj rfl;· (intro a W hk hf;(try simp[looks,GG,CN,D7,C0]at hf);go_simp;rfl))
        with_reducible apply fc
        intro W5 lQ;simp only[g9,iA,Bh,Bg,Be,BO,gp];repeat (with_reducible apply kZ)
        with_reducible apply cY
        simp only[PX,Z9,Az,BC];clear e0 em el;have kr5:=Cr (Rk.trans lQ);clear Rk lP lQ;go_wp2_with fail
        have hsm : -40000<=g.h+g.d/\g.h+g.d<=40000:=by
         have:=qJ.out;simp[GK,Bn]at this;omega
        obtain⟨hs1,Oz⟩:=hsm;have ANz:=AV7 (n:=g.h+g.d) (by omega) (by omega);refine n5 14 mixed (by kernel_rfl) rfl ?_;intro w6 hk6;simp only[E9,Ke,iB];have ZK:=kr5.out.trans hk6;have e0 : ∀W,AS w6 W->W.cell? ⟨b,off+k*6,none⟩=some (.string g.name):=fun W h=>(ZK.trans h).cell (HR.out.at_ (j:=0) rfl)
        have e2 : ∀W,AS w6 W->W.cell? ⟨b,off+k*6+2,none⟩=some (.int .i64 g.h):=fun W h=>(ZK.trans h).cell (HR.out.at_ (j:=2) rfl)
        have e3 : ∀W,AS w6 W->W.cell? ⟨b,off+k*6+3,none⟩=some (.int .i64 g.d):=fun W h=>(ZK.trans h).cell (HR.out.at_ (j:=3) rfl)
        have em : ∀W,AS w6 W->W.cell? ⟨w1.heap.size+1,0,none⟩=some (.map (some w1.heap.size)):=fun W h=>(ZK.trans h).cell (BM.out.cell 0)
        repeat (with_reducible apply Xj rfl;· (intro a W hk hf;(try simp[looks,GG,CN,D7,C0]at hf);go_simp;rfl))
        with_reducible apply fc
        intro W7 hk7;simp only[g9,iA,Bh,Bg,Be,BO,gp];repeat (with_reducible apply kZ)
        with_reducible apply cY
        simp only[PX,Z9,Az,BC];clear e0 e2 e3 em ANz;have ub:=ZK.trans hk7;have mm7:=MM.out.keep ub;obtain⟨w8,hrun,hgr,hm8⟩:=mm7.store (by unfold maxLen;omega) Au.1 (v:=g.h+g.d) (TK.2 ⟨by omega,by omega⟩);have AIn:=Cr hrun;have qK:=Cr hgr;have HM8:=Cr hm8;have qL:=Cr ub;clear hrun hgr hm8 mm7 ub ZK hk6 hk7;go_wp2_with (first
         | (with_reducible refine AV3 (.map (some w1.heap.size)) (.string g.name) (.int .i64 (g.h+g.d)) w8 ?_ ?_ ?_ AIn.out ?_
            . rfl
            . rfl
            . rfl))
        go_roundw
        case rel =>
         have QH:hasName g.name (f.CO.take k)=false:=by
          rw[s5];have:=bS.out;simp only[Re,AId]at this;simp[this]
         refine⟨k+1,by omega,by go_num,AS.APb (KR.out.trans qL.out) qK.out (fun j e=>by cases e;omega),(qL.out.blk BF.out).grown qK.out (fun e=>by injection e with e;omega),(qL.out.blk BM.out).grown qK.out (fun e=>by injection e with e;omega),
          HM8.out.congr fun x=>by rw[HT.out];exact ANl _ _ bS.out x,?_,?_⟩
         . unfold Hid;rw[HI.out,HD.out,HT.out];simp[HH,qJ.out,QH]
         . intro x hx;rw[HT.out]at hx;rcases List.mem_append.1 hx with hx|hx
           . exact HA.out x hx
           . simp only[List.mem_singleton]at hx;rw[hx];exact qJ.out
        case measure=>simp[intOf];omega
  . have Bp:k=f.CO.length:=by omega
    subst Bp;have HGT:Hid (HH [] f.CO=true):=by unfold Hid;rw[HI.out,C5 (Nat.le_refl _)];rfl
    have Dv:f.CO.take f.CO.length=f.CO:=List.take_length;have HAA:Hid (∀g∈f.CO,GK g=true):=by have:=HA.out;rw[Dv]at this;exact this
    have MMM:Hid (IZ wr w1.heap.size f.CO.length f.ht):=by have:=MM.out;rw[Dv]at this;exact this
    clear Dv HI HA MM;have jL:Hid (∀x h,f.ht x=some h-> -60000<=h/\h<=60000):=ANn f HAA.out;have HV:Hid (f.valid=Mf f.ht [] f.CD):=by unfold Hid;rw[HS.out,HGT.out];rfl
    go_wp2_with fail
    obtain⟨wa,rfl⟩:∃wa:World,wa=wr:=⟨_,rfl⟩
    go_loopw [108] (fun i wq=>∃k:Nat,k<=f.CD.length/\i=.int .i64 k/\AS wa wq/\Hid (Mf f.ht [] f.CD=Mf f.ht (f.CD.take k) (f.CD.drop k))) (fun i _=>f.CD.length - (intOf i).toNat)
    case atStart=>exact⟨0,Cc _,rfl,AS.refl _,rfl⟩
    case round =>
     obtain⟨k,hk,rfl,tX,HI⟩:=hrel;have KQ:=Cr tX;have hzq:=tX.size;clear tX;by_cases hlt:k<f.CD.length
     . obtain⟨b,off,row,rfl,hb,uC,BU,EK⟩:=yo.out k hlt;have hd:f.CD.drop k=f.CD[k]::f.CD.drop (k+1):=Cz hlt;have ht:f.CD.take (k+1)=f.CD.take k++[f.CD[k]]:=NR hlt;have HD:=Cr hd;have HT:=Cr ht;have ACR:=KR.out.trans KQ.out;have HR:=Cr (ACR.row BU);have yn:=Cr (Rd.keep ACR _ _ EK);have AG:=zD uC;have ON:=AES EK;have HZ1:=Cr uC;clear hd ht BU EK uC;generalize f.CD[k]=s at *
       obtain⟨zv,pv,-,q0,q1,q2,q3,hn,-,-,-⟩:=wi yn.out;go_wp2_with (first
        | ((with_reducible refine VW (ty:=106) (b) (off+k*4) (row) ?_ ?_ ?_ ?_ ?_);(focus rfl);(focus exact HR.out);(focus exact AG);(focus rfl))
        | ((with_reducible refine gP (ty:=106) (wr.heap.size) (row) ?_ ?_ ?_ ?_ ?_ ?_ ?_ ?_);(focus rfl);(focus rfl);(focus simp);(focus exact Zy (HZ1.out));(focus exact ON);(focus exact AG);(focus rfl))
        | ((with_reducible refine VW (ty:=106) (wr.heap.size) (0) (row) ?_ ?_ ?_ ?_ ?_);(focus rfl);(focus exact(B8.new _ _ _).row);(focus exact AG);(focus rfl)))
       refine(AVZ s row (w1.heap.size+1) w1.heap.size f.CO.length f.ht _ (Rd.keep (by repeat (with_reducible first|exact AS.refl _|assumption|apply AS.alloc|apply AS.drew|apply AS.drewN|(refine AS.setRow ?_ (by omega) _)|refine AS.trans ?_ (by assumption))) _ _ yn.out) ((KQ.out.alloc _).cell (BM.out.cell 0)) (MMM.out.keep (KQ.out.alloc _)) jL.out).mono ?_;rintro e wz ⟨rfl,RW⟩;have hzz:=RW.size;simp only[qH]at hzz;cases O1:Hd f.ht s with
       | false =>
         have HF:Hid (f.valid=false):=by unfold Hid;rw[HV.out,HI.out,HD.out];simp[Mf,O1]
         clear O1;go_wp2_with fail
         go_ret;exact⟨by rw[HF.out];rfl,KR.out.trans (KQ.out.trans (((AS.refl _).alloc _).trans RW))⟩
       | true =>
         have HSO:=Cr O1;clear O1;have On:=((((KQ.out.alloc _).trans RW)).blk BF.out).cell;have LZ:k<=d:=by omega
         have HB:=Cr (RW.blk (B8.new _ _ _));go_wp2_with fail
         obtain⟨wb,rfl⟩:∃wb:World,wb=wr:=⟨_,rfl⟩
         have AMT:=HB.out.cell;have KZ:=Cr RW;clear RW On;go_loopw [122] (fun i wy=>∃j:Nat,j<=k/\i=.int .i64 j/\AS wz wy/\Hid (Oj s.name (f.CD.take k)=Oj s.name ((f.CD.take k).drop j))) (fun i _=>k - (intOf i).toNat)
         case atStart=>exact⟨0,Cc _,rfl,AS.refl _,rfl⟩
         case round =>
          obtain⟨j,hj,rfl,lR,HJ⟩:=hrel;have KY:=Cr lR;have hzy:=lR.size;have tF:=(lR.blk HB.out).cell;have Iq:wb.heap.size<wr.heap.size:=by omega
          clear lR AMT;have hlen:(f.CD.take k).length=k:=by rw[List.length_take];omega
          have HL:=Cr hlen;clear hlen;by_cases hjk:j<k
          . obtain⟨b2,AXZ,nG,WL,Gx,uD,ACc,uB⟩:=yo.out j (by omega);simp only[BE,Addr.mk.injEq,and_true]at WL;obtain⟨rfl,rfl⟩:=WL;have hd:(f.CD.take k).drop j=f.CD[j]::(f.CD.take k).drop (j+1):=by
             rw[Cz (by rw[HL.out];exact hjk),List.getElem_take]
            have yj:=Cr hd;have tY:=KR.out.trans (KQ.out.trans (((AS.refl _).alloc _).trans (KZ.out.trans KY.out)));have ym:=Cr (tY.row ACc);have AIm:=Cr (Rd.keep tY _ _ uB);have jF:=zD uD;have yu:=AES uB;have yp:=Cr uD;clear hd ACc uB tY uD;generalize f.CD[j]=s2 at *
            obtain⟨zv2,pv2,-,p0,-,-,-,-,-,-,-⟩:=wi AIm.out;by_cases Ht:s2.name=s.name
            . have HF:Hid (f.valid=false):=by
               unfold Hid;rw[HV.out,HI.out,HD.out];have:Oj s.name (f.CD.take k)=true:=by rw[HJ.out,yj.out];simp[Oj,Ht]
               simp[Mf,this]
              go_wp2_with (first
               | ((with_reducible refine VW (ty:=106) (b) (off+j*4) (nG) ?_ ?_ ?_ ?_ ?_);(focus rfl);(focus exact ym.out);(focus exact jF);(focus rfl))
               | ((with_reducible refine gP (ty:=106) (wr.heap.size) (nG) ?_ ?_ ?_ ?_ ?_ ?_ ?_ ?_);(focus rfl);(focus rfl);(focus simp);(focus exact Zy (yp.out));(focus exact yu);(focus exact jF);(focus rfl)))
              go_ret;exact⟨by rw[HF.out];rfl,(KR.out.trans (KQ.out.trans (((AS.refl _).alloc _).trans (KZ.out.trans KY.out)))).alloc _⟩
            . have hne:=AGy Ht;go_wp2_with (first
               | ((with_reducible refine VW (ty:=106) (b) (off+j*4) (nG) ?_ ?_ ?_ ?_ ?_);(focus rfl);(focus exact ym.out);(focus exact jF);(focus rfl))
               | ((with_reducible refine gP (ty:=106) (wr.heap.size) (nG) ?_ ?_ ?_ ?_ ?_ ?_ ?_ ?_);(focus rfl);(focus rfl);(focus simp);(focus exact Zy (yp.out));(focus exact yu);(focus exact jF);(focus rfl)))
              go_roundw
              case rel=>exact⟨j+1,by omega,by go_num,KY.out.alloc _,by unfold Hid;rw[HJ.out,yj.out];simp[Oj,Ht]⟩
              case measure=>simp[intOf];omega
          . have HNS:Hid (Oj s.name (f.CD.take k)=false):=by unfold Hid;rw[HJ.out,C5 (by rw[HL.out];omega)];rfl
            go_wp2_with fail
            go_roundw
            case rel=>exact⟨k+1,by omega,by go_num,KQ.out.trans (((AS.refl _).alloc _).trans (KZ.out.trans KY.out)),by unfold Hid;rw[HI.out,HD.out,HT.out];simp[Mf,HSO.out,HNS.out]⟩
            case measure=>simp[intOf];omega
     . have HF:Hid (f.valid=true):=by unfold Hid;rw[HV.out,HI.out,C5 (by omega)];rfl
       go_wp2_with fail
       go_ret;exact⟨by rw[HF.out];rfl,KR.out.trans KQ.out⟩
end Go.Proofs.YtpodcjcajanldaaGreat
