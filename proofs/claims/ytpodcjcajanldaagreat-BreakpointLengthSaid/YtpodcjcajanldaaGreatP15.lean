/- Part of the proof of breakpointLength.proved. Conditions: none. (Joined and shortened by a program.) -/
import Derived.Test.YtpodcjcajanldaaGreatP13
set_option linter.unusedVariables false
set_option linter.unusedSimpArgs false
set_option maxRecDepth 100000
set_option maxHeartbeats 16000000
open Go.Proofs.Tryz renaming prog→AD,func323→Tu,ntmps323→YJ,results323→GU,func339→aQ,func340→pC,results292→iw
open List renaming foldl_cons→Bl,foldl_nil→B7,set_cons_zero→BC,set_cons_succ→Az,drop_eq_getElem_cons→Cz,all_cons→Dr,getElem?_eq_getElem→BP,drop_of_length_le→C5,eq_nil_of_length_eq_zero→LJ,map_cons→Al,map_nil→A8,replicate_succ→Ao,drop_succ_cons→Be,drop_zero→BO,nodup_cons→g8
open Go.IntKind renaming i64→Ad
open Bool renaming true_and→B5
open SizeOf renaming sizeOf→I6
open Go.Fence renaming wide→EF
open Go.World renaming putObj_heap_other→qG
open Option.some renaming injEq→BE
namespace Go.Proofs.YtpodcjcajanldaaGreat
open Go.RowKit
theorem ARd (b1:ByteArray)(b2 b3 b4 b5 b6 b7:Int)(kids:List AA)(o:Int)(src:List Int)(hn:b1.size<=maxLen)(hs:src.length<=maxLen)(Bp:kids.length<=1000000):AC AD 323 [.cp (AA.row ⟨1,b1,b2,b3,b4,b5,b6,b7,kids,o,src⟩) 0] (.c (.bool (AA.CZ ⟨1,b1,b2,b3,b4,b5,b6,b7,kids,o,src⟩))):=by
 have hsrc:=Xc (1) b1 b2 b3 b4 b5 b6 b7 kids o src hs;obtain⟨SB,JH⟩:=AE (AA.I0 ⟨1,b1,b2,b3,b4,b5,b6,b7,kids,o,src⟩);rw[JH]at hsrc;obtain⟨KB,JF⟩:=AE (AA.Ej ⟨1,b1,b2,b3,b4,b5,b6,b7,kids,o,src⟩);obtain⟨L,hL⟩:∃L,L=[b3,b4,b5,b6,b7]:=⟨_,rfl⟩
 have Fm:L.length=5:=by rw[hL];rfl
 have hR:AA.CZ ⟨1,b1,b2,b3,b4,b5,b6,b7,kids,o,src⟩=(L.all Aw && (KB && SB)):=by
  simp only[AA.CZ,JH,JF,AA.lens,hL]
 have hkb:KB=AA.Ej ⟨1,b1,b2,b3,b4,b5,b6,b7,kids,o,src⟩:=JF.symm;rw[hR];have Am:(AA.rows kids).length=kids.length:=by rw[Ed];simp
 simp only[AA.row]at hsrc ⊢;refine en Tu YJ ?_;refine Ac ?_;refine lp (ι:={ k:Nat // k<=5/\L.all Aw=(L.drop k).all Aw }) (fun k=>[(25,.agg (L.map fun n=>.c (.int .i64 n))),(26,.c (.int .i64 (k.1:Int))),(2,.c (.bool false))]) (fun _=>[]) (fun k=>5 - k.1) ⟨0,by simp⟩ ?_ ?_;all_goals simp only[Br,Bl,B7,BC,Az]
 . refine Le.BV (by simp[A5,hL])
 . rintro ⟨i,hi,hA⟩;by_cases hlt:i<5
   . have CA:i<L.length:=by omega
     have BL:(i:Int)<5:=by omega
     rw[Cz CA,Dr]at hA;obtain⟨z,hz⟩:=AE (L[i]);have hz':L[i]?=some z:=by rw[BP CA,hz]
     rw[hz]at hA;have hw:Ad.wrap ((i:Int)+1)=((i+1:Nat):Int):=by rw[Aq];simp
     by_cases h1:z < -1073741824
     . have e:L.all Aw=false:=by rw[hA];simp[Aw];omega
       refine go (cj @BL<|cj @hz'<|@h1) ?_;simp[Aj,AV,AZ,Aa,V.AP,V.AO,AU,GU,hR,e]
     . by_cases h2:1073741824<z
       . have e:L.all Aw=false:=by rw[hA];simp[Aw];omega
         refine go (cj @BL<|cj @hz'<|cj @h1<|@h2) ?_;simp[Aj,AV,AZ,Aa,V.AP,V.AO,AU,GU,hR,e]
       . have e:L.all Aw=(L.drop (i+1)).all Aw:=by
          have:Aw z=true:=by simp[Aw];omega
          rw[hA,this,B5]
         refine go (cj @BL<|cj @hz'<|cj @h1<|cj @h2<|@hw) ?_;refine⟨⟨i+1,by omega,e⟩,by simp only;omega,?_⟩;refine Le.BV (by simp[A5])
   . have BR:L.all Aw=true:=by rw[hA,C5 (by omega)];rfl
     have BL : ¬(i:Int)<5:=by omega
     have hA:=BR;have Ht:=AJj b1 hn;have LZ:KB=(F2 b1 && (decide (1<=b2) && (decide (b2<=1000) && decide (kids.length=0)))):=hkb;cases hnb:F2 b1 with
     | false =>
       rw[hnb]at Ht LZ;have hK:KB=false:=LZ;refine go @BL ?_;refine BY (Ht) aQ ?_;refine Ac ?_;simp[Aj,AV,AZ,Aa,V.AP,V.AO,AU,GU,hR,hK]
     | true =>
       rw[hnb]at Ht LZ;by_cases s1:1<=b2
       . by_cases s2:b2<=1000
         . by_cases s3:kids.length=0
           . have hK:KB=true:=by rw[LZ];simp[s1,s2];exact LJ (by omega)
             refine go @BL ?_;refine gc (cj @s1<|cj @s2<|cj @s3<|@Am) (Ht) aQ ?_;refine BY (hsrc) pC ?_;refine Ac ?_;simp[Aj,AV,AZ,Aa,V.AP,V.AO,AU,GU,hR,hK,hA]
           . have hK:KB=false:=by rw[LZ];simp[s1,s2];intro h;rw[h]at s3;simp at s3
             have wM : ¬((kids.length:Nat):Int)=0:=by omega
             refine go @BL ?_;refine gc (cj @s1<|cj @s2<|cj @s3<|cj @Am<|@wM) (Ht) aQ ?_;refine Ac ?_;simp[Aj,AV,AZ,Aa,V.AP,V.AO,AU,GU,hR,hK]
         . have hK:KB=false:=by rw[LZ];simp[s2]
           refine go @BL ?_;refine gc (cj @s1<|@s2) (Ht) aQ ?_;refine Ac ?_;simp[Aj,AV,AZ,Aa,V.AP,V.AO,AU,GU,hR,hK]
       . have hK:KB=false:=by rw[LZ];simp[s1]
         refine go @BL ?_;refine gc @s1 (Ht) aQ ?_;refine Ac ?_;simp[Aj,AV,AZ,Aa,V.AP,V.AO,AU,GU,hR,hK]
theorem ARe (b1:ByteArray)(b2 b3 b4 b5 b6 b7:Int)(kids:List AA)(o:Int)(src:List Int)(n1:b1=⟨#[]⟩)(s0:b2=0)(s3:kids.length=0)(hn:b1.size<=maxLen)(hs:src.length<=maxLen)(Bp:kids.length<=1000000):AC AD 323 [.cp (AA.row ⟨2,b1,b2,b3,b4,b5,b6,b7,kids,o,src⟩) 0] (.c (.bool (AA.CZ ⟨2,b1,b2,b3,b4,b5,b6,b7,kids,o,src⟩))):=by
 have hsrc:=Xc (2) b1 b2 b3 b4 b5 b6 b7 kids o src hs;obtain⟨SB,JH⟩:=AE (AA.I0 ⟨2,b1,b2,b3,b4,b5,b6,b7,kids,o,src⟩);rw[JH]at hsrc;obtain⟨KB,JF⟩:=AE (AA.Ej ⟨2,b1,b2,b3,b4,b5,b6,b7,kids,o,src⟩);obtain⟨L,hL⟩:∃L,L=[b3,b4,b5,b6,b7]:=⟨_,rfl⟩
 have Fm:L.length=5:=by rw[hL];rfl
 have hR:AA.CZ ⟨2,b1,b2,b3,b4,b5,b6,b7,kids,o,src⟩=(L.all Aw && (KB && SB)):=by
  simp only[AA.CZ,JH,JF,AA.lens,hL]
 have hkb:KB=AA.Ej ⟨2,b1,b2,b3,b4,b5,b6,b7,kids,o,src⟩:=JF.symm;rw[hR];have Am:(AA.rows kids).length=kids.length:=by rw[Ed];simp
 simp only[AA.row]at hsrc ⊢;refine en Tu YJ ?_;refine Ac ?_;refine lp (ι:={ k:Nat // k<=5/\L.all Aw=(L.drop k).all Aw }) (fun k=>[(25,.agg (L.map fun n=>.c (.int .i64 n))),(26,.c (.int .i64 (k.1:Int))),(2,.c (.bool false))]) (fun _=>[]) (fun k=>5 - k.1) ⟨0,by simp⟩ ?_ ?_;all_goals simp only[Br,Bl,B7,BC,Az]
 . refine Le.BV (by simp[A5,hL])
 . rintro ⟨i,hi,hA⟩;by_cases hlt:i<5
   . have CA:i<L.length:=by omega
     have BL:(i:Int)<5:=by omega
     rw[Cz CA,Dr]at hA;obtain⟨z,hz⟩:=AE (L[i]);have hz':L[i]?=some z:=by rw[BP CA,hz]
     rw[hz]at hA;have hw:Ad.wrap ((i:Int)+1)=((i+1:Nat):Int):=by rw[Aq];simp
     by_cases h1:z < -1073741824
     . have e:L.all Aw=false:=by rw[hA];simp[Aw];omega
       refine go (cj @BL<|cj @hz'<|@h1) ?_;simp[Aj,AV,AZ,Aa,V.AP,V.AO,AU,GU,hR,e]
     . by_cases h2:1073741824<z
       . have e:L.all Aw=false:=by rw[hA];simp[Aw];omega
         refine go (cj @BL<|cj @hz'<|cj @h1<|@h2) ?_;simp[Aj,AV,AZ,Aa,V.AP,V.AO,AU,GU,hR,e]
       . have e:L.all Aw=(L.drop (i+1)).all Aw:=by
          have:Aw z=true:=by simp[Aw];omega
          rw[hA,this,B5]
         refine go (cj @BL<|cj @hz'<|cj @h1<|cj @h2<|@hw) ?_;refine⟨⟨i+1,by omega,e⟩,by simp only;omega,?_⟩;refine Le.BV (by simp[A5])
   . have BR:L.all Aw=true:=by rw[hA,C5 (by omega)];rfl
     have BL : ¬(i:Int)<5:=by omega
     have hA:=BR;subst n1 s0;have hK:KB=true:=by rw[hkb];simp[AA.Ej];exact LJ (by omega)
     refine go (cj @BL<|cj @s3<|@Am) ?_;refine BY (hsrc) pC ?_;refine Ac ?_;simp[Aj,AV,AZ,Aa,V.AP,V.AO,AU,GU,hR,hK,hA]
theorem ARf (b1:ByteArray)(b2 b3 b4 b5 b6 b7:Int)(kids:List AA)(o:Int)(src:List Int)(n1:b1=⟨#[]⟩)(s0:b2=0)(s3 : ¬kids.length=0)(hn:b1.size<=maxLen)(hs:src.length<=maxLen)(Bp:kids.length<=1000000):AC AD 323 [.cp (AA.row ⟨2,b1,b2,b3,b4,b5,b6,b7,kids,o,src⟩) 0] (.c (.bool (AA.CZ ⟨2,b1,b2,b3,b4,b5,b6,b7,kids,o,src⟩))):=by
 have hsrc:=Xc (2) b1 b2 b3 b4 b5 b6 b7 kids o src hs;obtain⟨SB,JH⟩:=AE (AA.I0 ⟨2,b1,b2,b3,b4,b5,b6,b7,kids,o,src⟩);rw[JH]at hsrc;obtain⟨KB,JF⟩:=AE (AA.Ej ⟨2,b1,b2,b3,b4,b5,b6,b7,kids,o,src⟩);obtain⟨L,hL⟩:∃L,L=[b3,b4,b5,b6,b7]:=⟨_,rfl⟩
 have Fm:L.length=5:=by rw[hL];rfl
 have hR:AA.CZ ⟨2,b1,b2,b3,b4,b5,b6,b7,kids,o,src⟩=(L.all Aw && (KB && SB)):=by
  simp only[AA.CZ,JH,JF,AA.lens,hL]
 have hkb:KB=AA.Ej ⟨2,b1,b2,b3,b4,b5,b6,b7,kids,o,src⟩:=JF.symm;rw[hR];have Am:(AA.rows kids).length=kids.length:=by rw[Ed];simp
 simp only[AA.row]at hsrc ⊢;refine en Tu YJ ?_;refine Ac ?_;refine lp (ι:={ k:Nat // k<=5/\L.all Aw=(L.drop k).all Aw }) (fun k=>[(25,.agg (L.map fun n=>.c (.int .i64 n))),(26,.c (.int .i64 (k.1:Int))),(2,.c (.bool false))]) (fun _=>[]) (fun k=>5 - k.1) ⟨0,by simp⟩ ?_ ?_;all_goals simp only[Br,Bl,B7,BC,Az]
 . refine Le.BV (by simp[A5,hL])
 . rintro ⟨i,hi,hA⟩;by_cases hlt:i<5
   . have CA:i<L.length:=by omega
     have BL:(i:Int)<5:=by omega
     rw[Cz CA,Dr]at hA;obtain⟨z,hz⟩:=AE (L[i]);have hz':L[i]?=some z:=by rw[BP CA,hz]
     rw[hz]at hA;have hw:Ad.wrap ((i:Int)+1)=((i+1:Nat):Int):=by rw[Aq];simp
     by_cases h1:z < -1073741824
     . have e:L.all Aw=false:=by rw[hA];simp[Aw];omega
       refine go (cj @BL<|cj @hz'<|@h1) ?_;simp[Aj,AV,AZ,Aa,V.AP,V.AO,AU,GU,hR,e]
     . by_cases h2:1073741824<z
       . have e:L.all Aw=false:=by rw[hA];simp[Aw];omega
         refine go (cj @BL<|cj @hz'<|cj @h1<|@h2) ?_;simp[Aj,AV,AZ,Aa,V.AP,V.AO,AU,GU,hR,e]
       . have e:L.all Aw=(L.drop (i+1)).all Aw:=by
          have:Aw z=true:=by simp[Aw];omega
          rw[hA,this,B5]
         refine go (cj @BL<|cj @hz'<|cj @h1<|cj @h2<|@hw) ?_;refine⟨⟨i+1,by omega,e⟩,by simp only;omega,?_⟩;refine Le.BV (by simp[A5])
   . have BR:L.all Aw=true:=by rw[hA,C5 (by omega)];rfl
     have BL : ¬(i:Int)<5:=by omega
     have hA:=BR;subst n1 s0;have hK:KB=false:=by rw[hkb];simp[AA.Ej];intro h;rw[h]at s3;simp at s3
     have wM : ¬((kids.length:Nat):Int)=0:=by omega
     refine go (cj @BL<|cj @s3<|cj @Am<|@wM) ?_;simp[Aj,AV,AZ,Aa,V.AP,V.AO,AU,GU,hR,hK]
theorem ARg (b1:ByteArray)(b2 b3 b4 b5 b6 b7:Int)(kids:List AA)(o:Int)(src:List Int)(n1:b1=⟨#[]⟩)(s0 : ¬b2=0)(hn:b1.size<=maxLen)(hs:src.length<=maxLen)(Bp:kids.length<=1000000):AC AD 323 [.cp (AA.row ⟨2,b1,b2,b3,b4,b5,b6,b7,kids,o,src⟩) 0] (.c (.bool (AA.CZ ⟨2,b1,b2,b3,b4,b5,b6,b7,kids,o,src⟩))):=by
 have hsrc:=Xc (2) b1 b2 b3 b4 b5 b6 b7 kids o src hs;obtain⟨SB,JH⟩:=AE (AA.I0 ⟨2,b1,b2,b3,b4,b5,b6,b7,kids,o,src⟩);rw[JH]at hsrc;obtain⟨KB,JF⟩:=AE (AA.Ej ⟨2,b1,b2,b3,b4,b5,b6,b7,kids,o,src⟩);obtain⟨L,hL⟩:∃L,L=[b3,b4,b5,b6,b7]:=⟨_,rfl⟩
 have Fm:L.length=5:=by rw[hL];rfl
 have hR:AA.CZ ⟨2,b1,b2,b3,b4,b5,b6,b7,kids,o,src⟩=(L.all Aw && (KB && SB)):=by
  simp only[AA.CZ,JH,JF,AA.lens,hL]
 have hkb:KB=AA.Ej ⟨2,b1,b2,b3,b4,b5,b6,b7,kids,o,src⟩:=JF.symm;rw[hR];have Am:(AA.rows kids).length=kids.length:=by rw[Ed];simp
 simp only[AA.row]at hsrc ⊢;refine en Tu YJ ?_;refine Ac ?_;refine lp (ι:={ k:Nat // k<=5/\L.all Aw=(L.drop k).all Aw }) (fun k=>[(25,.agg (L.map fun n=>.c (.int .i64 n))),(26,.c (.int .i64 (k.1:Int))),(2,.c (.bool false))]) (fun _=>[]) (fun k=>5 - k.1) ⟨0,by simp⟩ ?_ ?_;all_goals simp only[Br,Bl,B7,BC,Az]
 . refine Le.BV (by simp[A5,hL])
 . rintro ⟨i,hi,hA⟩;by_cases hlt:i<5
   . have CA:i<L.length:=by omega
     have BL:(i:Int)<5:=by omega
     rw[Cz CA,Dr]at hA;obtain⟨z,hz⟩:=AE (L[i]);have hz':L[i]?=some z:=by rw[BP CA,hz]
     rw[hz]at hA;have hw:Ad.wrap ((i:Int)+1)=((i+1:Nat):Int):=by rw[Aq];simp
     by_cases h1:z < -1073741824
     . have e:L.all Aw=false:=by rw[hA];simp[Aw];omega
       refine go (cj @BL<|cj @hz'<|@h1) ?_;simp[Aj,AV,AZ,Aa,V.AP,V.AO,AU,GU,hR,e]
     . by_cases h2:1073741824<z
       . have e:L.all Aw=false:=by rw[hA];simp[Aw];omega
         refine go (cj @BL<|cj @hz'<|cj @h1<|@h2) ?_;simp[Aj,AV,AZ,Aa,V.AP,V.AO,AU,GU,hR,e]
       . have e:L.all Aw=(L.drop (i+1)).all Aw:=by
          have:Aw z=true:=by simp[Aw];omega
          rw[hA,this,B5]
         refine go (cj @BL<|cj @hz'<|cj @h1<|cj @h2<|@hw) ?_;refine⟨⟨i+1,by omega,e⟩,by simp only;omega,?_⟩;refine Le.BV (by simp[A5])
   . have BR:L.all Aw=true:=by rw[hA,C5 (by omega)];rfl
     have BL : ¬(i:Int)<5:=by omega
     have hA:=BR;have hK:KB=false:=by rw[hkb];simp[AA.Ej,s0]
     subst n1;refine go (cj @BL<|@s0) ?_;simp[Aj,AV,AZ,Aa,V.AP,V.AO,AU,GU,hR,hK]
theorem ARh (b1:ByteArray)(b2 b3 b4 b5 b6 b7:Int)(kids:List AA)(o:Int)(src:List Int)(n1 : ¬b1=⟨#[]⟩)(hn:b1.size<=maxLen)(hs:src.length<=maxLen)(Bp:kids.length<=1000000):AC AD 323 [.cp (AA.row ⟨2,b1,b2,b3,b4,b5,b6,b7,kids,o,src⟩) 0] (.c (.bool (AA.CZ ⟨2,b1,b2,b3,b4,b5,b6,b7,kids,o,src⟩))):=by
 have hsrc:=Xc (2) b1 b2 b3 b4 b5 b6 b7 kids o src hs;obtain⟨SB,JH⟩:=AE (AA.I0 ⟨2,b1,b2,b3,b4,b5,b6,b7,kids,o,src⟩);rw[JH]at hsrc;obtain⟨KB,JF⟩:=AE (AA.Ej ⟨2,b1,b2,b3,b4,b5,b6,b7,kids,o,src⟩);obtain⟨L,hL⟩:∃L,L=[b3,b4,b5,b6,b7]:=⟨_,rfl⟩
 have Fm:L.length=5:=by rw[hL];rfl
 have hR:AA.CZ ⟨2,b1,b2,b3,b4,b5,b6,b7,kids,o,src⟩=(L.all Aw && (KB && SB)):=by
  simp only[AA.CZ,JH,JF,AA.lens,hL]
 have hkb:KB=AA.Ej ⟨2,b1,b2,b3,b4,b5,b6,b7,kids,o,src⟩:=JF.symm;rw[hR];have Am:(AA.rows kids).length=kids.length:=by rw[Ed];simp
 simp only[AA.row]at hsrc ⊢;refine en Tu YJ ?_;refine Ac ?_;refine lp (ι:={ k:Nat // k<=5/\L.all Aw=(L.drop k).all Aw }) (fun k=>[(25,.agg (L.map fun n=>.c (.int .i64 n))),(26,.c (.int .i64 (k.1:Int))),(2,.c (.bool false))]) (fun _=>[]) (fun k=>5 - k.1) ⟨0,by simp⟩ ?_ ?_;all_goals simp only[Br,Bl,B7,BC,Az]
 . refine Le.BV (by simp[A5,hL])
 . rintro ⟨i,hi,hA⟩;by_cases hlt:i<5
   . have CA:i<L.length:=by omega
     have BL:(i:Int)<5:=by omega
     rw[Cz CA,Dr]at hA;obtain⟨z,hz⟩:=AE (L[i]);have hz':L[i]?=some z:=by rw[BP CA,hz]
     rw[hz]at hA;have hw:Ad.wrap ((i:Int)+1)=((i+1:Nat):Int):=by rw[Aq];simp
     by_cases h1:z < -1073741824
     . have e:L.all Aw=false:=by rw[hA];simp[Aw];omega
       refine go (cj @BL<|cj @hz'<|@h1) ?_;simp[Aj,AV,AZ,Aa,V.AP,V.AO,AU,GU,hR,e]
     . by_cases h2:1073741824<z
       . have e:L.all Aw=false:=by rw[hA];simp[Aw];omega
         refine go (cj @BL<|cj @hz'<|cj @h1<|@h2) ?_;simp[Aj,AV,AZ,Aa,V.AP,V.AO,AU,GU,hR,e]
       . have e:L.all Aw=(L.drop (i+1)).all Aw:=by
          have:Aw z=true:=by simp[Aw];omega
          rw[hA,this,B5]
         refine go (cj @BL<|cj @hz'<|cj @h1<|cj @h2<|@hw) ?_;refine⟨⟨i+1,by omega,e⟩,by simp only;omega,?_⟩;refine Le.BV (by simp[A5])
   . have BR:L.all Aw=true:=by rw[hA,C5 (by omega)];rfl
     have BL : ¬(i:Int)<5:=by omega
     have hA:=BR;have hK:KB=false:=by rw[hkb];simp[AA.Ej,n1]
     refine go (cj @BL<|@n1) ?_;simp[Aj,AV,AZ,Aa,V.AP,V.AO,AU,GU,hR,hK]
theorem ARi (b1:ByteArray)(b2 b3 b4 b5 b6 b7:Int)(kids:List AA)(o:Int)(src:List Int)(hn:b1.size<=maxLen)(hs:src.length<=maxLen)(Bp:kids.length<=1000000):AC AD 323 [.cp (AA.row ⟨3,b1,b2,b3,b4,b5,b6,b7,kids,o,src⟩) 0] (.c (.bool (AA.CZ ⟨3,b1,b2,b3,b4,b5,b6,b7,kids,o,src⟩))):=by
 have hsrc:=Xc (3) b1 b2 b3 b4 b5 b6 b7 kids o src hs;obtain⟨SB,JH⟩:=AE (AA.I0 ⟨3,b1,b2,b3,b4,b5,b6,b7,kids,o,src⟩);rw[JH]at hsrc;obtain⟨KB,JF⟩:=AE (AA.Ej ⟨3,b1,b2,b3,b4,b5,b6,b7,kids,o,src⟩);obtain⟨L,hL⟩:∃L,L=[b3,b4,b5,b6,b7]:=⟨_,rfl⟩
 have Fm:L.length=5:=by rw[hL];rfl
 have hR:AA.CZ ⟨3,b1,b2,b3,b4,b5,b6,b7,kids,o,src⟩=(L.all Aw && (KB && SB)):=by
  simp only[AA.CZ,JH,JF,AA.lens,hL]
 have hkb:KB=AA.Ej ⟨3,b1,b2,b3,b4,b5,b6,b7,kids,o,src⟩:=JF.symm;rw[hR];have Am:(AA.rows kids).length=kids.length:=by rw[Ed];simp
 simp only[AA.row]at hsrc ⊢;refine en Tu YJ ?_;refine Ac ?_;refine lp (ι:={ k:Nat // k<=5/\L.all Aw=(L.drop k).all Aw }) (fun k=>[(25,.agg (L.map fun n=>.c (.int .i64 n))),(26,.c (.int .i64 (k.1:Int))),(2,.c (.bool false))]) (fun _=>[]) (fun k=>5 - k.1) ⟨0,by simp⟩ ?_ ?_;all_goals simp only[Br,Bl,B7,BC,Az]
 . refine Le.BV (by simp[A5,hL])
 . rintro ⟨i,hi,hA⟩;by_cases hlt:i<5
   . have CA:i<L.length:=by omega
     have BL:(i:Int)<5:=by omega
     rw[Cz CA,Dr]at hA;obtain⟨z,hz⟩:=AE (L[i]);have hz':L[i]?=some z:=by rw[BP CA,hz]
     rw[hz]at hA;have hw:Ad.wrap ((i:Int)+1)=((i+1:Nat):Int):=by rw[Aq];simp
     by_cases h1:z < -1073741824
     . have e:L.all Aw=false:=by rw[hA];simp[Aw];omega
       refine go (cj @BL<|cj @hz'<|@h1) ?_;simp[Aj,AV,AZ,Aa,V.AP,V.AO,AU,GU,hR,e]
     . by_cases h2:1073741824<z
       . have e:L.all Aw=false:=by rw[hA];simp[Aw];omega
         refine go (cj @BL<|cj @hz'<|cj @h1<|@h2) ?_;simp[Aj,AV,AZ,Aa,V.AP,V.AO,AU,GU,hR,e]
       . have e:L.all Aw=(L.drop (i+1)).all Aw:=by
          have:Aw z=true:=by simp[Aw];omega
          rw[hA,this,B5]
         refine go (cj @BL<|cj @hz'<|cj @h1<|cj @h2<|@hw) ?_;refine⟨⟨i+1,by omega,e⟩,by simp only;omega,?_⟩;refine Le.BV (by simp[A5])
   . have BR:L.all Aw=true:=by rw[hA,C5 (by omega)];rfl
     have BL : ¬(i:Int)<5:=by omega
     have hA:=BR;by_cases n1:b1=⟨#[]⟩
     . by_cases s0:b2=0
       . subst n1 s0;have hK:KB=true:=by rw[hkb];simp[AA.Ej]
         refine go @BL ?_;refine BY (hsrc) pC ?_;refine Ac ?_;simp[Aj,AV,AZ,Aa,V.AP,V.AO,AU,GU,hR,hK,hA]
       . have hK:KB=false:=by rw[hkb];simp[AA.Ej,s0]
         subst n1;refine go (cj @BL<|@s0) ?_;simp[Aj,AV,AZ,Aa,V.AP,V.AO,AU,GU,hR,hK]
     . have hK:KB=false:=by rw[hkb];simp[AA.Ej,n1]
       refine go (cj @BL<|@n1) ?_;simp[Aj,AV,AZ,Aa,V.AP,V.AO,AU,GU,hR,hK]
theorem ARj (b0:Int)(b1:ByteArray)(b2 b3 b4 b5 b6 b7:Int)(kids:List AA)(o:Int)(src:List Int)(k1 : ¬b0=1)(k2 : ¬b0=2)(k3 : ¬b0=3)(hn:b1.size<=maxLen)(hs:src.length<=maxLen)(Bp:kids.length<=1000000):AC AD 323 [.cp (AA.row ⟨b0,b1,b2,b3,b4,b5,b6,b7,kids,o,src⟩) 0] (.c (.bool (AA.CZ ⟨b0,b1,b2,b3,b4,b5,b6,b7,kids,o,src⟩))):=by
 have hsrc:=Xc b0 b1 b2 b3 b4 b5 b6 b7 kids o src hs;obtain⟨SB,JH⟩:=AE (AA.I0 ⟨b0,b1,b2,b3,b4,b5,b6,b7,kids,o,src⟩);rw[JH]at hsrc;obtain⟨KB,JF⟩:=AE (AA.Ej ⟨b0,b1,b2,b3,b4,b5,b6,b7,kids,o,src⟩);obtain⟨L,hL⟩:∃L,L=[b3,b4,b5,b6,b7]:=⟨_,rfl⟩
 have Fm:L.length=5:=by rw[hL];rfl
 have hR:AA.CZ ⟨b0,b1,b2,b3,b4,b5,b6,b7,kids,o,src⟩=(L.all Aw && (KB && SB)):=by
  simp only[AA.CZ,JH,JF,AA.lens,hL]
 have hkb:KB=AA.Ej ⟨b0,b1,b2,b3,b4,b5,b6,b7,kids,o,src⟩:=JF.symm;rw[hR];have Am:(AA.rows kids).length=kids.length:=by rw[Ed];simp
 simp only[AA.row]at hsrc ⊢;refine en Tu YJ ?_;refine Ac ?_;refine lp (ι:={ k:Nat // k<=5/\L.all Aw=(L.drop k).all Aw }) (fun k=>[(25,.agg (L.map fun n=>.c (.int .i64 n))),(26,.c (.int .i64 (k.1:Int))),(2,.c (.bool false))]) (fun _=>[]) (fun k=>5 - k.1) ⟨0,by simp⟩ ?_ ?_;all_goals simp only[Br,Bl,B7,BC,Az]
 . refine Le.BV (by simp[A5,hL])
 . rintro ⟨i,hi,hA⟩;by_cases hlt:i<5
   . have CA:i<L.length:=by omega
     have BL:(i:Int)<5:=by omega
     rw[Cz CA,Dr]at hA;obtain⟨z,hz⟩:=AE (L[i]);have hz':L[i]?=some z:=by rw[BP CA,hz]
     rw[hz]at hA;have hw:Ad.wrap ((i:Int)+1)=((i+1:Nat):Int):=by rw[Aq];simp
     by_cases h1:z < -1073741824
     . have e:L.all Aw=false:=by rw[hA];simp[Aw];omega
       refine go (cj @BL<|cj @hz'<|@h1) ?_;simp[Aj,AV,AZ,Aa,V.AP,V.AO,AU,GU,hR,e]
     . by_cases h2:1073741824<z
       . have e:L.all Aw=false:=by rw[hA];simp[Aw];omega
         refine go (cj @BL<|cj @hz'<|cj @h1<|@h2) ?_;simp[Aj,AV,AZ,Aa,V.AP,V.AO,AU,GU,hR,e]
       . have e:L.all Aw=(L.drop (i+1)).all Aw:=by
          have:Aw z=true:=by simp[Aw];omega
          rw[hA,this,B5]
         refine go (cj @BL<|cj @hz'<|cj @h1<|cj @h2<|@hw) ?_;refine⟨⟨i+1,by omega,e⟩,by simp only;omega,?_⟩;refine Le.BV (by simp[A5])
   . have BR:L.all Aw=true:=by rw[hA,C5 (by omega)];rfl
     have BL : ¬(i:Int)<5:=by omega
     have hA:=BR;have hK:KB=false:=by rw[hkb];simp[AA.Ej,k1,k2,k3]
     refine go (cj @BL<|cj @k1<|cj @k2<|@k3) ?_;simp[Aj,AV,AZ,Aa,V.AP,V.AO,AU,GU,hR,hK]
theorem ARc (b0:Int)(b1:ByteArray)(b2 b3 b4 b5 b6 b7:Int)(kids:List AA)(o:Int)(src:List Int)(hn:b1.size<=maxLen)(hs:src.length<=maxLen)(Bp:kids.length<=1000000):AC AD 323 [.cp (AA.row ⟨b0,b1,b2,b3,b4,b5,b6,b7,kids,o,src⟩) 0] (.c (.bool (AA.CZ ⟨b0,b1,b2,b3,b4,b5,b6,b7,kids,o,src⟩))):=by
 by_cases k1:b0=1
 . subst k1;exact ARd b1 b2 b3 b4 b5 b6 b7 kids o src hn hs Bp
 . by_cases k2:b0=2
   . subst k2;by_cases n1:b1=⟨#[]⟩
     . by_cases s0:b2=0
       . by_cases s3:kids.length=0
         . exact ARe b1 b2 b3 b4 b5 b6 b7 kids o src n1 s0 s3 hn hs Bp
         . exact ARf b1 b2 b3 b4 b5 b6 b7 kids o src n1 s0 s3 hn hs Bp
       . exact ARg b1 b2 b3 b4 b5 b6 b7 kids o src n1 s0 hn hs Bp
     . exact ARh b1 b2 b3 b4 b5 b6 b7 kids o src n1 hn hs Bp
   . by_cases k3:b0=3
     . subst k3;exact ARi b1 b2 b3 b4 b5 b6 b7 kids o src hn hs Bp
     . exact ARj b0 b1 b2 b3 b4 b5 b6 b7 kids o src k1 k2 k3 hn hs Bp
theorem AR2 (b0:Int)(b1:ByteArray)(b2 b3 b4 b5 b6 b7:Int)(kids:List AA)(o:Int)(src:List Int)(BB c:Nat)(hn:b1.size<=maxLen)(hs:src.length<=maxLen)(hd:BB<=101)(hc:c+AA.cnt ⟨b0,b1,b2,b3,b4,b5,b6,b7,kids,o,src⟩<=1000000)(ih : ∀k∈kids,∀(BB c:Nat),BB<=101->c+k.cnt<=1000000->AX AD 292 [.cp (AA.row k) 0,.c (.int .i64 ((BB:Nat):Int)),.ptr 0 0] 3 [.int .i64 ((c:Nat):Int)] [.int .i64 ((AA.pv BB k c).2:Int)] (.c (.bool (AA.pv BB k c).1))):AX AD 292 [.cp (AA.row ⟨b0,b1,b2,b3,b4,b5,b6,b7,kids,o,src⟩) 0,.c (.int .i64 ((BB:Nat):Int)),.ptr 0 0] 3 [.int .i64 ((c:Nat):Int)] [.int .i64 ((AA.pv BB ⟨b0,b1,b2,b3,b4,b5,b6,b7,kids,o,src⟩ c).2:Int)] (.c (.bool (AA.pv BB ⟨b0,b1,b2,b3,b4,b5,b6,b7,kids,o,src⟩ c).1)):=by
 have Im:AA.cnt ⟨b0,b1,b2,b3,b4,b5,b6,b7,kids,o,src⟩=1+AA.A9 kids:=rfl;rw[Im]at hc;have Bp:=OY kids;have hown:=ARc b0 b1 b2 b3 b4 b5 b6 b7 kids o src hn hs (by omega);obtain⟨OB,kp⟩:=AE (AA.CZ ⟨b0,b1,b2,b3,b4,b5,b6,b7,kids,o,src⟩);rw[kp]at hown;have hR:AA.pv BB ⟨b0,b1,b2,b3,b4,b5,b6,b7,kids,o,src⟩ c=if 20000<c+1\/100<BB\/OB=false then(false,c+1)else AA.GP (BB+1) kids (c+1):=by simp only[AA.pv,kp]
 have hwc:Ad.wrap ((c:Int)+1)=((c+1:Nat):Int):=by rw[Aq];simp
 simp only[AA.row]at hown ⊢;rw[Ed]at hown ⊢;refine AX.intro Tryz.func292 rfl ?_;simp only[Tryz.ntmps292,Al,A8,List.length_cons,List.length_nil,Nat.reduceAdd,Nat.reduceSub,Ao,List.replicate_zero,List.cons_append,List.nil_append];by_cases h1:20000<c+1
 . rw[if_pos (.inl h1)]at hR;have FO:(20000:Int)<((c+1:Nat):Int):=by omega
   obtain⟨C,hC⟩:∃C:Int,((c+1:Nat):Int)=C:=⟨_,rfl⟩
   rw[hR];simp only;rw[hC]at hwc FO ⊢;refine go (cj @hwc<|@FO) ?_;simp[Vs,AV,AZ,Aa,V.AP,V.AO,AU,toCs,toC,iw]
 . have FO : ¬(20000:Int)<((c+1:Nat):Int):=by omega
   by_cases h2:100<BB
   . rw[if_pos (.inr (.inl h2))]at hR;have Fa:(100:Int)<((BB:Nat):Int):=by omega
     obtain⟨C,hC⟩:∃C:Int,((c+1:Nat):Int)=C:=⟨_,rfl⟩
     rw[hR];simp only;rw[hC]at hwc FO ⊢;refine go (cj @hwc<|cj @FO<|@Fa) ?_;simp[Vs,AV,AZ,Aa,V.AP,V.AO,AU,toCs,toC,iw]
   . have Fa : ¬(100:Int)<((BB:Nat):Int):=by omega
     cases OB with
     | false =>
       rw[if_pos (.inr (.inr rfl))]at hR;obtain⟨C,hC⟩:∃C:Int,((c+1:Nat):Int)=C:=⟨_,rfl⟩
       rw[hR];simp only;rw[hC]at hwc FO ⊢;refine go (cj @hwc<|cj @FO<|@Fa) ?_;refine BY (hown) Tu ?_;refine Ac ?_;simp[Vs,AV,AZ,Aa,V.AP,V.AO,AU,toCs,toC,iw]
     | true =>
       rw[if_neg (by rintro (h|h|h)<;>first|omega|cases h)]at hR;rw[hR];have hwd:Ad.wrap ((BB:Int)+1)=((BB+1:Nat):Int):=by rw[Aq];simp
       obtain⟨Q,hQ⟩:=AE (AA.GP (BB+1) kids (c+1));rw[hQ];obtain⟨C,hC⟩:∃C:Int,((c+1:Nat):Int)=C:=⟨_,rfl⟩
       rw[hC]at hwc FO;refine go (cj @hwc<|cj @FO<|@Fa) ?_;refine BY (hown) Tu ?_;refine Ac ?_;subst hC;refine lp (ι:={ k:Nat×Nat // k.1<=kids.length/\k.2+AA.A9 (kids.drop k.1)<=1000000/\Q=AA.GP (BB+1) (kids.drop k.1) k.2 }) (fun k=>[(31,.c (.int .i64 (k.1.1:Int))),(6,.c (.bool false))]) (fun k=>[.box 3 [.c (.int .i64 (k.1.2:Int))] false]) (fun k=>kids.length - k.1.1) ⟨(0,c+1),by simp,by simp;omega,by simp[hQ]⟩ ?_ ?_;all_goals simp only[Br,Bl,B7,BC,Az]
       . refine Le.BV (by simp[A5])
       . rintro ⟨⟨j,n⟩,hj,hb,hI⟩;simp only at hj hb hI ⊢;by_cases hlj:j<kids.length
         . rw[Cz hlj]at hI hb;obtain⟨k,hkk⟩:=AE (kids[j]);rw[hkk]at hI hb;simp only[AA.A9]at hb;simp only[AA.GP]at hI;have TM:=ih k (hkk ▸ List.getElem_mem hlj) (BB+1) n (by omega) (by omega);have Am:k.row.length=11:=by cases k;rfl
           have hpb:=(vj (BB+1) k n).1;have hw:Ad.wrap ((j:Int)+1)=((j+1:Nat):Int):=by rw[Aq];simp
           obtain⟨⟨r,n'⟩,hr⟩:=AE (AA.pv (BB+1) k n);rw[hr]at TM hI hpb;simp only at TM hI hpb;obtain⟨D,hD⟩:∃D:Int,((BB+1:Nat):Int)=D:=⟨_,rfl⟩
           rw[hD]at TM hwd;refine go @hlj ?_;with_reducible refine AW.DM ?_
           refine SW.take 9 ?_;with_reducible refine Bw (by simp[Ao,hlj,hkk,hwd,Am];first|exact rfl|exact⟨rfl,rfl⟩) ?_
           refine B9 ?_;simp only[Be,BO];refine SW.kE 0 TM Tryz.func292 (by kernel_rfl) (by kernel_rfl) (by simp[gate]) (by simp[DE,hkk,hwd];first|exact rfl|exact⟨rfl,rfl⟩) (by simp[V.DJ,V.DI,hkk];try exact rfl) (by rfl) (by simp[toCs,toC]) ?_;cases r with
           | false =>
             rw[if_neg (by simp)]at hI;refine SW.take 1 ?_;with_reducible refine Bw (by simp[Ao];first|exact rfl|exact⟨rfl,rfl⟩) ?_
             refine B9 ?_;simp only[Be,BO];refine SW.nil ?_;refine Ac ?_;simp[Vs,AV,AZ,Aa,V.AP,V.AO,AU,toCs,toC,iw,hI]
           | true =>
             rw[if_pos rfl]at hI;refine SW.take 1 ?_;with_reducible refine Bw (by simp[Ao];first|exact rfl|exact⟨rfl,rfl⟩) ?_
             refine B9 ?_;simp only[Be,BO];refine SW.nil ?_;refine go @hw ?_;refine⟨⟨(j+1,n'),by simp only;omega,by simp only;omega,hI⟩,by simp only;omega,?_⟩;refine Le.BV (by simp[A5])
         . rw[C5 (by omega)]at hI;simp only[AA.GP]at hI;refine go @hlj ?_;simp[Vs,AV,AZ,Aa,V.AP,V.AO,AU,toCs,toC,iw,hI]
theorem AQA (b0:Int)(b1:ByteArray)(b2 b3 b4 b5 b6 b7:Int)(kids:List AA)(o:Int)(src:List Int)(h:AA.Bc ⟨b0,b1,b2,b3,b4,b5,b6,b7,kids,o,src⟩):b1.size<=maxLen/\src.length<=maxLen/\AA.GB kids:=by simpa only[AA.Bc]using h
theorem AFI : ∀(n:Nat) (b:AA),I6 b<n->b.Bc->∀(BB c:Nat),BB<=101->c+b.cnt<=1000000->AX AD 292 [.cp (AA.row b) 0,.c (.int .i64 ((BB:Nat):Int)),.ptr 0 0] 3 [.int .i64 ((c:Nat):Int)] [.int .i64 ((AA.pv BB b c).2:Int)] (.c (.bool (AA.pv BB b c).1))
 | 0,b,h,_=>absurd h (by omega)
 | n+1,⟨b0,b1,b2,b3,b4,b5,b6,b7,kids,o,src⟩,hn,Au=>by
   obtain⟨o1,o2,o3⟩:=AQA b0 b1 b2 b3 b4 b5 b6 b7 kids o src Au;intro BB c hd hc;exact AR2 b0 b1 b2 b3 b4 b5 b6 b7 kids o src BB c o1 o2 hd hc fun k hk=>AFI n k (by
    have:=List.sizeOf_lt_of_mem hk;simp only[AA.mk.sizeOf_spec]at hn;omega) (vI o3 k hk)
theorem D2 (b:AA)(h:b.Bc)(hc:b.cnt<=1000000):AC AD 224 [BD b] (.c (.bool b.Av)):=by
 have h1:=AFI (I6 b+1) b (by omega) h 1 0 (by omega) (by omega);rw[<-AR0];obtain⟨⟨r,n⟩,hr⟩:=AE (AA.pv 1 b 0);rw[hr]at h1 ⊢;simp only at h1 ⊢;obtain⟨b0,b1,b2,b3,b4,b5,b6,b7,kids,o,src⟩:=b;simp only[BD,AA.row,Al,A8]at h1 ⊢;refine en Tryz.func224 Tryz.ntmps224 ?_;with_reducible refine AW.seq ?_
 with_reducible refine AW.region ?_
 with_reducible refine Bw (by simp[Ao];first|exact rfl|exact⟨rfl,rfl⟩) ?_
 with_reducible refine B9 ?_
 with_reducible refine G7 ?_
 with_reducible refine AW.seq ?_
 with_reducible refine AW.region ?_
 with_reducible refine Bw (by simp[Ao];first|exact rfl|exact⟨rfl,rfl⟩) ?_
 with_reducible refine B9 ?_
 with_reducible refine G7 ?_
 refine AW.AR 0 rfl (by simp[toCs,toC];exact rfl) (by simp[V.BG,V.AR];exact rfl) (by simp[O.AR,V.BG,V.AR];exact rfl) ?_;with_reducible refine AW.seq ?_
 with_reducible refine AW.DM ?_
 refine SW.kE 1 h1 Tryz.func292 (by kernel_rfl) (by kernel_rfl) (by simp[gate]) (by simp[DE];first|exact rfl|exact⟨rfl,rfl⟩) (by simp[V.DJ,V.DI];try exact rfl) (by rfl) (by simp[toCs,toC]) ?_;refine SW.take 1 ?_;with_reducible refine Bw (by simp[Ao];first|exact rfl|exact⟨rfl,rfl⟩) ?_
 refine B9 ?_;simp only[Be,BO];refine SW.nil ?_;refine Ac ?_;simp[Aj,AV,AZ,Aa,V.AP,V.AO,AU,Tryz.results224]
section
variable {P:Program} {S0:Ba} {w0:Bs} {x x':Cx} {w w':World} {H:Heap} {s:St} {a:Act}
def OT (P:Program)(s:St)(l:List ResultVar):Option V:=
 match AZ P s l with
 | some [v]=>some v
 | some vs=>some (.Bk vs)
 | none=>none
theorem AJV (hA:CT S0 w0 x s a w){fn:Func}{res:V}(h:OT P s fn.results.toList=some res):∃u,(results fn a.tmps).run P w=.ok u w/\CV x w res u:=by
 unfold OT at h;cases hl:AZ P s fn.results.toList with
 | none=>rw[hl]at h;cases h
 | some vs =>
   rw[hl]at h;obtain⟨us,hr,hc⟩:=qk hA hl;have hr':(results fn a.tmps).run P w=.ok (if h:us.toArray.size=1 then us.toArray[0]else .tuple us.toArray) w:=by
    have e:results fn a.tmps=(fn.results.mapM (fb a.tmps) >>=fun vs=>pure (if h:vs.size=1 then vs[0]else .tuple vs)):=rfl;rw[e,Array.mapM_eq_mapM_toList];simp[hr]
   refine⟨_,hr',?_⟩;match vs,h,hc with
   | [v],h,hc =>
     simp only[AL]at hc;obtain⟨u,ur,rfl,Dk,rfl⟩:=hc;cases h;exact Dk
   | [],h,hc =>
     simp only[AL]at hc;subst hc;cases h;simp only[CV];exact⟨#[],rfl,by simp only[AL]⟩
   | v::v'::r,h,hc =>
     have hlen:=hc.len;rw[dif_neg (by simp[hlen])];cases h;simp only[CV];exact⟨_,rfl,hc⟩
theorem mB {fn:Func}{R:Ending->World->Prop}{res:V}(hr:OT P s fn.results.toList=some res){tmps:Array Value} : ∀(Ds:List Nat) (w:World),Ds.Nodup->(∀D∈Ds,¬w0.F D/\w.heap[D]?=some (.deferred (some [])))->Good S0 w0 x w (fun k=>s.h[k]?)->AL x w s.t tmps.toList->
 (∀w u,Good S0 w0 x w (fun k=>s.h[k]?)->CV x w res u->R (.returned u) w)->LeavesInM EF 0 P fn tmps R (Ds.map fun D=>{ target:=.collected D,args:=#[] }) .returning w
 | [],w,_,_,g,ht,hR=>by
   obtain⟨u,h1,h2⟩:=AJV (fn:=fn) (a:={ tmps:=tmps,defers:=[] }) ⟨g,ht,Marks.nil _ _⟩ hr;exact⟨u,h1,hR w u g h2⟩
 | D::Ds,w,hn,hD,g,ht,hR=>by
   obtain⟨h1,h2⟩:=hD D (by simp);have hg:w.grownBy (w.putObj D (.deferred none)) (some D):=grownBy_putObj' w D _;obtain⟨g',he⟩:=g.grown hg fun r e=>by cases e;exact⟨h1,_,h2,rfl⟩
   rw[g8]at hn;refine⟨by simp,.inl ⟨D,_,rfl,run_takeDeferred h2,mB hr Ds _ hn.2 (fun D' J9=>?_) g' (AL.mono he _ _ ht) hR⟩⟩;obtain⟨k1,k2⟩:=hD D' (by simp[J9]);have hne:D'≠D:=fun e=>hn.1 (by rw[<-e];exact J9)
   exact⟨k1,by rw[qG hne];exact k2⟩
def Bs.vu (w0:Bs)(w:World)(h:w0.w.heap.size<=w.heap.size)(x:Cx)(n0:Nat)(hd : ∀k,x.dom k->k<n0):Bs:=⟨w,(w0.re w h).F,(w0.re w h).lt,x,n0,hd⟩
theorem Good.ASS (g:Good S0 w0 x w H)(n0:Nat)(hd : ∀k,x.dom k->k<n0):Good x.S (w0.vu w g.keep.size x n0 hd) x w H:=
 let r:=g.VA
 ⟨r.ok,r.dom,r.inj,r.EI,r.ex,r.own,r.new,r.sub,r.keep,Ext.refl x w⟩
theorem Good.AHP {H':Heap}{n0:Nat}{hd : ∀k,x.dom k->k<n0}(g:Good S0 w0 x w H)(g':Good x.S (w0.vu w g.keep.size x n0 hd) x' w' H'):(Good S0 w0 x' w' H'/\NC w w')/\Ext x x' w w':=
 ⟨g.Qp (x':=x') g'.ext ⟨g'.ok,g'.dom,g'.inj,g'.EI,g'.ex,g'.own,g'.new,g'.sub,g'.keep,Ext.none _ _ _⟩,g'.ext⟩
end
inductive Out where
 | ret (v:V)
 | JT (ch:List PanicEntry)
def SX (x:Cx)(w:World):Out->Ending->Prop
 | .ret v,r=>∃u,r=.returned u/\CV x w v u
 | .JT ch,r=>r=.panicked ch
def AIt (P:Program)(l:List ResultVar)(n0:Nat)(out:Out)(h':List O):Exit->St->Prop
 | .normal,s=>∃v,out=.ret v/\∃s',Le ⟨none,n0⟩ s s'/\OT P s' l=some v/\s'.h=h'
 | .ret,s=>∃v,out=.ret v/\∃s',Le ⟨none,n0⟩ s s'/\OT P s' l=some v/\s'.h=h'
 | .panic ch,s=>out=.JT ch/\∃s',Le ⟨none,n0⟩ s s'/\s'.h=h'
 | _,_=>False
structure HC (P:Program)(f:FuncId)(args:List V)(h:List O)(out:Out)(h':List O):Prop where
 ok:GI P f=true
 calls : ∀ {S0:Ba} {w0:Bs} {x:Cx} {w:World} {us:List Value},Good S0 w0 x w (fun k=>h[k]?)->AL x w args us->
  Calls P f us.toArray w fun r w'=>∃x',Good S0 w0 x' w' (fun k=>h'[k]?)/\Ext x x' w w'/\NC w w'/\SX x' w' out r
theorem um {P:Program}{S0:Ba}{w0:Bs}{x:Cx}{s:St}{fn:Func}{R:Ending->World->Prop}{ch:List PanicEntry}{tmps:Array Value} : ∀(Ds:List Nat) (w:World),Ds.Nodup->(∀D∈Ds,¬w0.F D/\w.heap[D]?=some (.deferred (some [])))->Good S0 w0 x w (fun k=>s.h[k]?)->AL x w s.t tmps.toList->
 (∀w,Good S0 w0 x w (fun k=>s.h[k]?)->R (.panicked ch) w)->LeavesInM EF 0 P fn tmps R (Ds.map fun D=>{ target:=.collected D,args:=#[] }) (.panicking ch) w
 | [],w,_,_,g,ht,hR=>hR w g
 | D::Ds,w,hn,hD,g,ht,hR=>by
   obtain⟨h1,h2⟩:=hD D (by simp);have hg:w.grownBy (w.putObj D (.deferred none)) (some D):=grownBy_putObj' w D _;obtain⟨g',he⟩:=g.grown hg fun r e=>by cases e;exact⟨h1,_,h2,rfl⟩
   rw[g8]at hn;refine⟨by simp,.inl ⟨D,_,rfl,run_takeDeferred h2,um Ds _ hn.2 (fun D' J9=>?_) g' (AL.mono he _ _ ht) hR⟩⟩;obtain⟨k1,k2⟩:=hD D' (by simp[J9]);have hne:D'≠D:=fun e=>hn.1 (by rw[<-e];exact J9)
   exact⟨k1,by rw[qG hne];exact k2⟩
theorem HC.intro {P:Program}{f:FuncId}{fn:Func}{c:Code}{args:List V}{h h':List O}{out:Out}(hf:P.funcs[f]?=some fn)(hb:fn.body=some c)(haw:AW ⟨none,h.length⟩ P c (AIt P fn.results.toList h.length out h') ⟨args++List.replicate (fn.ntmps - args.length) .any,h⟩)(hn:(fn.name == "runtime.NumGoroutine")=false:=by kernel_rfl):HC P f args h out h':=by
 refine⟨by unfold GI;rw[hf];simp[hb,hn],fun {S0 w0 x w us} g C9=>?_⟩;have hd : ∀k,x.dom k->k<h.length:=fun k hk=>by obtain⟨o,ho⟩:=g.dom k hk;exact(List.getElem?_eq_some_iff.1 ho).1
 refine callsIn_wide.1 (callsIn_of_wp_marks (F:=Fence.wide) (n:=0) hf hb trivial ?_);have hA:CT x.S (w0.vu w g.keep.size x h.length hd) x ⟨args++List.replicate (fn.ntmps - args.length) .any,h⟩ { tmps:=us.toArray++Array.replicate (fn.ntmps - us.toArray.size) undef,defers:=[] } w:=by
  refine⟨g.ASS h.length hd,?_,Marks.nil _ _⟩;simp only[Array.toList_append,Array.toList_replicate];have hl:us.toArray.size=args.length:=by simpa using C9.len
  rw[hl];exact C9.append (Tc _ _ _ _)
 refine wpIn_mono (haw 0 x.S _ _ _ w (Nat.le_refl _) hA) fun e a' w' ⟨x1,s,BR,hK⟩=>?_
 have fin : ∀ {R:Ending->World->Prop},(∀r w' x',Good S0 w0 x' w' (fun k=>h'[k]?)->Ext x x' w w'->NC w w'->SX x' w' out r->R r w')->(∃v,out=.ret v/\∃s',Le ⟨none,h.length⟩ s s'/\OT P s' fn.results.toList=some v/\s'.h=h')->LeavesInM Fence.wide 0 P fn a'.tmps R a'.defers .returning w':=by
  rintro R hR ⟨v,rfl,s',hle,hr,rfl⟩;obtain⟨x2,Hp⟩:=hle x.S _ x1 a' w' (Nat.le_refl _) BR;obtain⟨Ds,e,h1,h2⟩:=Hp.df;rw[e];refine mB hr Ds w' h1 h2 Hp.good Hp.tm fun w2 u g2 hu=>?_
  obtain⟨⟨g3,hnc⟩,IH⟩:=g.AHP g2;exact hR _ w2 x2 g3 IH hnc ⟨u,rfl,hu⟩
 cases e with
 | normal=>exact fin (fun r w' x' h1 h2 h3 h4=>⟨x',h1,h2,h3,h4⟩) hK
 | ret=>exact fin (fun r w' x' h1 h2 h3 h4=>⟨x',h1,h2,h3,h4⟩) hK
 | panic ch =>
   obtain⟨rfl,s',hle,rfl⟩:=hK;obtain⟨x2,Hp⟩:=hle x.S _ x1 a' w' (Nat.le_refl _) BR;obtain⟨Ds,e,h1,h2⟩:=Hp.df;show LeavesInM Fence.wide 0 P fn a'.tmps _ a'.defers (.panicking ch) w';rw[e];refine um Ds w' h1 h2 Hp.good Hp.tm fun w2 g2=>?_
   obtain⟨⟨g3,hnc⟩,IH⟩:=g.AHP g2;exact⟨x2,g3,IH,hnc,rfl⟩
 | _=>exact hK.elim
section
variable {P:Program} {K:Exit->St->Prop} {ops:List Oper} {s:St}
theorem SW.AJx {o:Oper}{r:List Oper}{f:FuncId}{args:List V}{out:Out}{h':List O}(hc:HC P f args s.h out h')(hg:gate ops s.t o.guard=some true)(hcall:DE (ev s.t) o.op=some (f,args))(hr : ∀v,out=.ret v->SW P ops K r (St.put ⟨s.t,h'⟩ o.dst v))(hp : ∀ch,out=.JT ch->K (.panic ch) ⟨s.t,h'⟩):SW P ops K (o::r) s:=fun S0 w0 x a w hA=>by
 have hw:Region.wanted o (yielded ops.toArray a.tmps)=true:=by
  have:=J2 (o:=o) hA.tm (Hj (ops:=ops) (K1:=True) (K2:=False) hg trivial);exact Classical.byContradiction fun h=>this.2 h
 unfold wpList;rw[if_pos hw];refine .inl ?_;unfold DE at hcall;split at hcall
 case h_2=>cases hcall
 rename_i fo ar He ho;split at hcall
 case h_2=>cases hcall
 rename_i f' caps Fo;simp only[BE,Prod.mk.injEq]at hcall;obtain⟨rfl,rfl⟩:=hcall;have CY:=Qq (EH hA.tm fo);rw[Fo]at CY;simp only[CV]at CY;obtain⟨Dx,CY,EZ⟩:=CY;have Ik:AL x w (ar.toList.map (ev s.t)++caps) (ar.toList.map a.eval++Dx.toList):=(AL.of_map fun y _=>EH hA.tm y).append EZ;obtain⟨fn,hf,hb,hn⟩:=UB hc.ok;have hb':fn.body≠none:=by intro e;rw[e]at hb;cases hb
 have hn':fn.name≠ "runtime.NumGoroutine":=by simpa using hn
 have hrun:(execOp a.eval o).run P w=.ok (.enter f' (ar.toList.map a.eval++Dx.toList).toArray) w:=by
  have e1:(ar.map a.eval++Dx)=(ar.toList.map a.eval++Dx.toList).toArray:=by apply Array.toList_inj.1;simp
  simp[execOp,ho,resolve,CY,Deferred.ofValue,invoke,callFunc,program,Sem.run,hf,hn',hb',e1]
 unfold Oper.wp;rw[hrun];refine(hc.calls hA.good Ik).mono ?_;rintro r' w' ⟨x',g',he,hnc,ho'⟩;cases out with
 | ret v =>
   obtain⟨u,rfl,hv⟩:=ho';exact hr v rfl S0 w0 x' _ w' (CT.put hA.tm (hA.df.mono hnc) he g' hv o.dst)
 | JT ch =>
   have e:r'=.panicked ch:=ho';subst e;exact⟨x',⟨s.t,h'⟩,⟨g',AL.mono he _ _ hA.tm,hA.df.mono hnc⟩,hp ch rfl⟩
theorem SW.AJz {o:Oper}{r:List Oper}{f:FuncId}{args:List V}{res:V}{h':List O}(hc:HC P f args s.h (.ret res) h')(hg:gate ops s.t o.guard=some true)(hcall:DE (ev s.t) o.op=some (f,args))(h:SW P ops K r (St.put ⟨s.t,h'⟩ o.dst res)):SW P ops K (o::r) s:=SW.AJx hc hg hcall (fun v e=>by cases e;exact h) (fun _ e=>nomatch e)
end
end Go.Proofs.YtpodcjcajanldaaGreat
