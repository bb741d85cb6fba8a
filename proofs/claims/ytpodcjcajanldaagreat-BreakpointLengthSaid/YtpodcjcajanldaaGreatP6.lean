/- Part of the proof of breakpointLength.proved. Conditions: none. (Joined and shortened by a program.) -/
import Derived.Test.YtpodcjcajanldaaGreatP5
set_option linter.unusedVariables false
set_option linter.unusedSimpArgs false
set_option maxRecDepth 100000
set_option maxHeartbeats 16000000
open Go.Proofs.Tryz renaming prog→AD,results46→iy
open List renaming foldl_cons→Bl,foldl_nil→B7,set_cons_zero→BC,set_cons_succ→Az,drop_eq_getElem_cons→Cz,drop_of_length_le→C5
open Go.IntKind renaming i64→Ad
namespace Go.Proofs.YtpodcjcajanldaaGreat
open Go.RowKit
@[simp] theorem AI.xG (f:AI)(n:Nat):V.BT n f.vs=true:=by
 have : ∀l:List C,V.BT n (l.map V.c)=true:=by
  intro l;induction l with
  | nil=>rfl
  | cons c l ih=>simp[V.BT,V.BA,ih]
 exact this f.row
theorem AUt (f:AI)(name:ByteArray)(hl:f.CD.length<=maxLen)(hs : ∀s∈f.CD,s.Bb.length<=1000/\s.parts.length<=1000):AC AD 220 [.agg f.vs,.c (.str name)] (L3 (f.H2 name)):=by
 unfold maxLen at hl;refine en Tryz.func220 Tryz.ntmps220 ?_;refine go @G3.eq_1 ?_;refine lp (ι:={ k:Nat // k<=f.CD.length/\f.H2 name=VN name (f.CD.drop k) }) (fun k=>[(11,.c (.int .i64 (k.1:Int))),(5,.c (.bool false))]) (fun _=>[.box 27 f.vs false,.box 106 [.c (.str ⟨#[]⟩),.full [],.full [],.c (.int .i64 0)] false]) (fun k=>f.CD.length - k.1) ⟨0,by simp[AI.H2]⟩ ?_ ?_;all_goals simp only[Br,Bl,B7,BC,Az]
 . refine Le.BV (by simp[A5])
 . rintro ⟨k,hk,hI⟩;by_cases hlt:k<f.CD.length
   . obtain⟨g,hg⟩:=AE (f.CD[k]);rw[Cz hlt,hg]at hI;have hm:=hs f.CD[k] (List.getElem_mem hlt);rw[hg]at hm;by_cases he:g.name=name
     . have hF:f.H2 name=some g:=by rw[hI];simp[VN,he]
       have h1:g.Bb.length<=maxLen:=by unfold maxLen;omega
       have h2:g.parts.length<=maxLen:=by unfold maxLen;omega
       have h3:g.Bb.length*16<=140737488355328:=by omega
       have h4:g.parts.length*24<=140737488355328:=by omega
       refine go (cj @hlt<|cj @hg<|cj @he<|cj @G3.eq_1<|cj @A6.row.eq_1<|cj @DT.eq_1<|cj @Ci.eq_1<|cj @Part.row.eq_1<|cj @h1<|cj @h2<|cj @h3<|@h4) ?_;simp[Aj,AV,AZ,Aa,V.AP,V.AO,AU,Tryz.results220,L3,GF,hF,A6.row,DT,Ci,he]
     . have hw:Ad.wrap ((k:Int)+1)=((k+1:Nat):Int):=by rw[Aq];simp
       refine go (cj @hlt<|cj @hg<|cj @he<|cj @G3.eq_1<|cj @A6.row.eq_1<|@hw) ?_;refine⟨⟨k+1,by omega,by rw[hI];simp[VN,he]⟩,by simp only;omega,?_⟩;exact wd 2
   . have hF:f.H2 name=none:=by rw[hI,C5 (by omega)];rfl
     refine go (cj @hlt<|@G3.eq_1) ?_;simp[Aj,AV,AZ,Aa,V.AP,V.AO,AU,Tryz.results220,L3,GF,hF,A6.zero,A6.row,DT,Ci]
def Params.vs (p:Params):List V:=p.list.map fun n=>V.c (.int .i64 n)
@[simp] theorem AI.AcU (f:AI):(f.vs.drop 2).take 20=f.params.vs:=by simp[AI.vs,AI.row,Params.vs,Params.list]
def Ng (f:AI):Bool:=(decide (f.CO.length<=500) && decide (f.CD.length<=50)) && f.CD.all fun s=>decide (s.Bb.length<=50) && decide (s.parts.length<=50)
theorem AKw (f:AI)(hg:f.CO.length<=maxLen):AC AD 46 [.agg f.vs] (.c (.bool (Ng f))):=by
 by_cases h1:(500:Int)<(f.CO.length:Int)
 . have e:Ng f=false:=by simp[Ng];omega
   refine en Tryz.func46 Tryz.ntmps46 ?_;refine go (cj @h1<|@FZ.eq_1) ?_;simp[Aj,AV,AZ,Aa,V.AP,V.AO,AU,iy,e]
 . by_cases h2:(50:Int)<(f.CD.length:Int)
   . have e:Ng f=false:=by simp[Ng];omega
     refine en Tryz.func46 Tryz.ntmps46 ?_;refine go (cj @h1<|cj @h2<|cj @FZ.eq_1<|@G3.eq_1) ?_;simp[Aj,AV,AZ,Aa,V.AP,V.AO,AU,iy,e]
   . have hF:Ng f=f.CD.all fun s=>decide (s.Bb.length<=50) && decide (s.parts.length<=50):=by
      unfold Ng;rw[decide_eq_true (show f.CO.length<=500 by omega),decide_eq_true (show f.CD.length<=50 by omega)];rfl
     refine en Tryz.func46 Tryz.ntmps46 ?_;refine go (cj @h1<|cj @h2<|cj @FZ.eq_1<|@G3.eq_1) ?_;refine lp (ι:={ k:Nat // k<=f.CD.length/\Ng f=(f.CD.drop k).all fun s=>decide (s.Bb.length<=50) && decide (s.parts.length<=50) }) (fun k=>[(3,.c (.int .i64 (k.1:Int))),(2,.c (.bool false))]) (fun _=>[.box 27 f.vs false]) (fun k=>f.CD.length - k.1) ⟨0,by simp[hF]⟩ ?_ ?_;all_goals simp only[Br,Bl,B7,BC,Az]
     . refine Le.BV (by simp[A5])
     . rintro ⟨k,hk,hI⟩;by_cases hlt:k<f.CD.length
       . obtain⟨s,hs⟩:=AE (f.CD[k]);rw[Cz hlt,hs,List.all_cons]at hI;by_cases h3:(50:Int)<(s.Bb.length:Int)
         . have e:Ng f=false:=by rw[hI];simp;omega
           refine go (cj @hlt<|cj @hs<|cj @h3<|cj @G3.eq_1<|cj @A6.row.eq_1<|cj @DT.eq_1<|@Ci.eq_1) ?_;simp[Aj,AV,AZ,Aa,V.AP,V.AO,AU,iy,e]
         . by_cases h4:(50:Int)<(s.parts.length:Int)
           . have e:Ng f=false:=by rw[hI];simp;omega
             refine go (cj @hlt<|cj @hs<|cj @h3<|cj @h4<|cj @G3.eq_1<|cj @A6.row.eq_1<|cj @DT.eq_1<|@Ci.eq_1) ?_;simp[Aj,AV,AZ,Aa,V.AP,V.AO,AU,iy,e]
           . have hw:Ad.wrap ((k:Int)+1)=((k+1:Nat):Int):=by rw[Aq];simp
             refine go (cj @hlt<|cj @hs<|cj @h3<|cj @h4<|cj @G3.eq_1<|cj @A6.row.eq_1<|cj @DT.eq_1<|cj @Ci.eq_1<|@hw) ?_;refine⟨⟨k+1,by omega,by rw[hI,decide_eq_true (show s.Bb.length<=50 by omega),decide_eq_true (show s.parts.length<=50 by omega)];rfl⟩,by simp only;omega,?_⟩;refine Le.BV (by simp[A5])
       . have e:Ng f=true:=by rw[hI,C5 (by omega)];rfl
         refine go (cj @hlt<|@G3.eq_1) ?_;simp[Aj,AV,AZ,Aa,V.AP,V.AO,AU,iy,e]
structure AI.Fit (f:AI):Prop where
 gl:f.CO.length<=maxLen
 sl:f.CD.length<=maxLen
 gn : ∀g∈f.CO,g.name.size<=maxLen
 sn : ∀s∈f.CD,s.name.size<=maxLen
end Go.Proofs.YtpodcjcajanldaaGreat
