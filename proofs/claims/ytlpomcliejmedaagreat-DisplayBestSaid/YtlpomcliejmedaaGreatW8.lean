/- Part of the proof of displayBest.proved. Conditions: none. -/
import Derived.Laws.Runes
import Derived.Lib.IndexLaws
import Derived.Laws.StructEq
import Derived.Test.YtlpomcliejmedaaGreatW7
set_option linter.unusedVariables false
set_option linter.unusedSimpArgs false
set_option maxRecDepth 100000
set_option maxHeartbeats 16000000
open Go.Proofs.Tryz renaming prog→AF,underlying9→Lb,underlying3→Fo,results74→ve,func126→UG,ntmps126→Xp,results126→Xq,results132→ADC,results134→ADD,results77→g8,func371→ux,ntmps371→vC,results371→aX,results263→ADN,underlying290→ADa,underlying219→ADZ,func259→um,ntmps259→vA,results259→vP,results254→ng,results255→gi,results346→Xs,results310→gj,results312→UO
open List renaming map_cons→Ap,map_nil→BB,take_succ_cons→DP,foldl_cons→Bw,foldl_nil→CO,set_cons_zero→Ag,set_cons_succ→Ai,getElem?_eq_getElem→BE,getElem?_map→CM,mem_of_getElem?→Cj,take_of_length_le→Gl,length_cons→BA,getElem?_cons_succ→JU,cons_append→BK,all_cons→Ep,all_nil→Nq,length_append→Cp,length_nil→BO,append_assoc→GX,replicate→Aq,flatten_cons→Hp,replicate_succ→BY,length_map→Ch,set_append_right→Vg,map_append→Fm,flatten_append→Vd,flatten_nil→RC,append_nil→E5,drop_eq_getElem_cons→D5,drop_of_length_le→FA,length_take→Fa,map→Vf,all_eq_true→ES,mem_cons_self→GH,mem_cons_of_mem→Gk,drop_succ_cons→CU,drop_zero→B9,mem_cons→Cf,take_zero→ET,mem_append→MJ,mem_singleton→LY,length_replicate→H6,eq_of_mem_replicate→UA,mem_map→Da,mem_flatten→gA,map_replicate→uR
open Int renaming mul_tdiv_add_tmod→mN,lt_or_le→fq,tmod_nonneg→Sl,neg_tmod→mO,lt_tmod_of_pos→ft,tmod_lt_of_pos→aG
open Go.IntKind renaming i64→AZ,i32→uK
open Bool renaming and_eq_true→Ak,and_self→LW,true_and→Cd,false_and→D4,eq_iff_iff→Oj
open Option.some renaming inj→ML
open Nat renaming zero_le→CI,le_of_ble_eq_true→F2,le_refl→BN,min_eq_left→Vi,add_mul→Gz
open Option renaming getD_some→Dm
open Go.Lib renaming indexByte→EF
open Go.Utf8 renaming encode→iA,decode→g9
open ByteArray renaming mk→uB,size_extract→fg
open Go.Instr renaming next→Xj,findAsking→fj,findKey→ACk,lookup→fk,mapUpdate→mJ
open Go.Op renaming operands→Bl
open Array.mk renaming injEq→ACd
open List.cons renaming injEq→Vb
open Go.Value.string renaming injEq→AM3
open Go.MapKept renaming run_getObj_map→ACz
open Array renaming toList_push→AMP,length_toList→FW
open Go.Region renaming wanted→FB
open Classical renaming byContradiction→Kn
open Go.Oper renaming wp→Er
namespace Go.Proofs.YtlpomcliejmedaaGreat
open Go.RowKit Tryz
variable {fuel:Nat}{o:Oper}{name:ByteArray}{s:ByteArray}{r:List Oper}{P:Program}{M:ByteArray->Int->Bool}{K:Exit->St->Prop}(AE:List AA)(l:List AA)(b:AA)(m:Nat)(k:Nat)
section
variable {H:Type} {enc:TypeId×Value->H} {w:World}
theorem AVb :Dq enc AF w fuel 70 BG.row (λg=>g.name.size<=maxLen):=by
 cases fuel with
 | zero=>exact Dq.zero
 | succ fuel=>exact(VJ underlying70 (by kernel_rfl) (C6.cons (o:=0) (o':=1) rfl (by kernel_rfl) (by decide) (Zf Lb) (C6.cons (o:=1) (o':=2) rfl (by kernel_rfl) (by decide) (Ge Fo) (C6.cons (o:=2) (o':=3) rfl (by kernel_rfl) (by decide) (Ge Fo) (C6.cons (o:=3) (o':=4) rfl (by kernel_rfl) (by decide) (Ge Fo) (C6.cons (o:=4) (o':=5) rfl (by kernel_rfl) (by decide) (Ge Fo) (C6.cons (o:=5) (o':=6) rfl (by kernel_rfl) (by decide) (Ge Fo) (C6.nil)))))))).conv (λq=>⟨q.1,q.2.1,q.2.2.1,q.2.2.2.1,q.2.2.2.2.1,q.2.2.2.2.2.1⟩) (λq=>rfl) (λq h=>h.1)
theorem AVf :Dq enc AF w fuel 205 CR.row (λ_=>True):=by
 cases fuel with
 | zero=>exact Dq.zero
 | succ fuel=>exact(VJ underlying205 (by kernel_rfl) (C6.cons (o:=0) (o':=1) rfl (by kernel_rfl) (by decide) (Zf Lb) (C6.cons (o:=1) (o':=2) rfl (by kernel_rfl) (by decide) (AAw underlying4) (C6.nil)))).conv (λq=>⟨q.1,q.2.1⟩) (λq=>rfl) (λq h=>trivial)
theorem AVh :Dq enc AF w fuel 114 (λl:List ByteArray=>[.sl (l.map λs=>[.str s])]) (λl=>l.length<=maxLen/\∀a∈l,a.size<=maxLen):=by
 cases fuel with
 | zero=>exact Dq.zero
 | succ fuel=>exact dq (n:=1) underlying114 (by kernel_rfl) (by decide) (Zf Lb)
theorem AVg :Dq enc AF w fuel 115 (λl:List CR=>[.sl (l.map CR.row)]) (λl=>l.length<=maxLen/\∀a∈l,True):=by
 cases fuel with
 | zero=>exact Dq.zero
 | succ fuel=>exact dq (n:=2) underlying115 (by kernel_rfl) (by decide) AVf
theorem AVi :Dq enc AF w fuel 117 Bc.row (λs=>s.name.size<=maxLen):=by
 cases fuel with
 | zero=>exact Dq.zero
 | succ fuel=>exact(VJ underlying117 (by kernel_rfl) (C6.cons (o:=0) (o':=1) rfl (by kernel_rfl) (by decide) (Zf Lb) (C6.cons (o:=1) (o':=2) rfl (by kernel_rfl) (by decide) (AVh) (C6.cons (o:=2) (o':=3) rfl (by kernel_rfl) (by decide) (AVg) (C6.cons (o:=3) (o':=4) rfl (by kernel_rfl) (by decide) (Ge Fo) (C6.nil)))))).conv (λq=>⟨q.1,q.2.1,q.2.2.1,q.2.2.2.1⟩) (λq=>rfl) (λq h=>h.1)
theorem AVc :Dq enc AF w fuel 22 (λl:List BG=>[.sl (l.map BG.row)]) (λl=>l.length<=maxLen/\∀a∈l,a.name.size<=maxLen):=by
 cases fuel with
 | zero=>exact Dq.zero
 | succ fuel=>exact dq (n:=6) underlying22 (by kernel_rfl) (by decide) AVb
theorem AVj :Dq enc AF w fuel 23 (λl:List Bc=>[.sl (l.map Bc.row)]) (λl=>l.length<=maxLen/\∀a∈l,a.name.size<=maxLen):=by
 cases fuel with
 | zero=>exact Dq.zero
 | succ fuel=>exact dq (n:=4) underlying23 (by kernel_rfl) (by decide) AVi
theorem AVe :Dq enc AF w fuel 25 (λp:Params=>p.list.map (C.int .i64)) (λ_=>True):=by
 cases fuel with
 | zero=>exact Dq.zero
 | succ fuel=>exact(VJ underlying25 (by kernel_rfl) (C6.cons (o:=0) (o':=1) rfl (by kernel_rfl) (by decide) (Ge Fo) (C6.cons (o:=1) (o':=2) rfl (by kernel_rfl) (by decide) (Ge Fo) (C6.cons (o:=2) (o':=3) rfl (by kernel_rfl) (by decide) (Ge Fo) (C6.cons (o:=3) (o':=4) rfl (by kernel_rfl) (by decide) (Ge Fo) (C6.cons (o:=4) (o':=5) rfl (by kernel_rfl) (by decide) (Ge Fo) (C6.cons (o:=5) (o':=6) rfl (by kernel_rfl) (by decide) (Ge Fo) (C6.cons (o:=6) (o':=7) rfl (by kernel_rfl) (by decide) (Ge Fo) (C6.cons (o:=7) (o':=8) rfl (by kernel_rfl) (by decide) (Ge Fo) (C6.cons (o:=8) (o':=9) rfl (by kernel_rfl) (by decide) (Ge Fo) (C6.cons (o:=9) (o':=10) rfl (by kernel_rfl) (by decide) (Ge Fo) (C6.cons (o:=10) (o':=11) rfl (by kernel_rfl) (by decide) (Ge Fo) (C6.cons (o:=11) (o':=12) rfl (by kernel_rfl) (by decide) (Ge Fo) (C6.cons (o:=12) (o':=13) rfl (by kernel_rfl) (by decide) (Ge Fo) (C6.cons (o:=13) (o':=14) rfl (by kernel_rfl) (by decide) (Ge Fo) (C6.cons (o:=14) (o':=15) rfl (by kernel_rfl) (by decide) (Ge Fo) (C6.cons (o:=15) (o':=16) rfl (by kernel_rfl) (by decide) (Ge Fo) (C6.cons (o:=16) (o':=17) rfl (by kernel_rfl) (by decide) (Ge Fo) (C6.cons (o:=17) (o':=18) rfl (by kernel_rfl) (by decide) (Ge Fo) (C6.cons (o:=18) (o':=19) rfl (by kernel_rfl) (by decide) (Ge Fo) (C6.cons (o:=19) (o':=20) rfl (by kernel_rfl) (by decide) (Ge Fo) (C6.nil)))))))))))))))))))))).conv (λq=>⟨q.1,q.2.1,q.2.2.1,q.2.2.2.1,q.2.2.2.2.1,q.2.2.2.2.2.1,q.2.2.2.2.2.2.1,q.2.2.2.2.2.2.2.1,q.2.2.2.2.2.2.2.2.1,q.2.2.2.2.2.2.2.2.2.1,q.2.2.2.2.2.2.2.2.2.2.1,q.2.2.2.2.2.2.2.2.2.2.2.1,q.2.2.2.2.2.2.2.2.2.2.2.2.1,q.2.2.2.2.2.2.2.2.2.2.2.2.2.1,q.2.2.2.2.2.2.2.2.2.2.2.2.2.2.1,q.2.2.2.2.2.2.2.2.2.2.2.2.2.2.2.1,q.2.2.2.2.2.2.2.2.2.2.2.2.2.2.2.2.1,q.2.2.2.2.2.2.2.2.2.2.2.2.2.2.2.2.2.1,q.2.2.2.2.2.2.2.2.2.2.2.2.2.2.2.2.2.2.1,q.2.2.2.2.2.2.2.2.2.2.2.2.2.2.2.2.2.2.2.1⟩) (λq=>rfl) (λq h=>trivial)
theorem AVa :Dq enc AF w fuel 27 AP.row AP.Fit:=by
 cases fuel with
 | zero=>exact Dq.zero
 | succ fuel=>exact(VJ underlying27 (by kernel_rfl) (C6.cons (o:=0) (o':=1) rfl (by kernel_rfl) (by decide) (AVc) (C6.cons (o:=1) (o':=2) rfl (by kernel_rfl) (by decide) (AVj) (C6.cons (o:=2) (o':=22) rfl (by kernel_rfl) (by decide) (AVe) (C6.nil))))).conv (λq=>⟨q.1,q.2.1,q.2.2.1⟩) (λq=>by simp[AP.row,O8,MG]) (λq h=>⟨h.1.1,h.2.1.1,h.1.2,h.2.1.2⟩)
end
@[simp] theorem AP.Aaf (f:AP):f.vs[6]?=some (.c (.int .i64 f.params.VH)):=rfl
@[simp] theorem AP.AaX (f:AP)(h:6<f.vs.length):f.vs[6]'h=.c (.int .i64 f.params.VH):=rfl
@[simp] theorem AP.Aag (f:AP):f.vs[7]?=some (.c (.int .i64 f.params.Tp)):=rfl
@[simp] theorem AP.AaY (f:AP)(h:7<f.vs.length):f.vs[7]'h=.c (.int .i64 f.params.Tp):=rfl
@[simp] theorem AP.Aah (f:AP):f.vs[8]?=some (.c (.int .i64 f.params.Uf)):=rfl
@[simp] theorem AP.AaZ (f:AP)(h:8<f.vs.length):f.vs[8]'h=.c (.int .i64 f.params.Uf):=rfl
@[simp] theorem AP.AiI (f:AP):f.vs[9]?=some (.c (.int .i64 f.params.TE)):=rfl
@[simp] theorem AP.Ah5 (f:AP)(h:9<f.vs.length):f.vs[9]'h=.c (.int .i64 f.params.TE):=rfl
@[simp] theorem AP.Ah6 (f:AP):f.vs[10]?=some (.c (.int .i64 f.params.Zy)):=rfl
@[simp] theorem AP.Aht (f:AP)(h:10<f.vs.length):f.vs[10]'h=.c (.int .i64 f.params.Zy):=rfl
@[simp] theorem AP.Ah7 (f:AP):f.vs[11]?=some (.c (.int .i64 f.params.Zz)):=rfl
@[simp] theorem AP.Ahu (f:AP)(h:11<f.vs.length):f.vs[11]'h=.c (.int .i64 f.params.Zz):=rfl
@[simp] theorem AP.Ah8 (f:AP):f.vs[12]?=some (.c (.int .i64 f.params.Z0)):=rfl
@[simp] theorem AP.Ahv (f:AP)(h:12<f.vs.length):f.vs[12]'h=.c (.int .i64 f.params.Z0):=rfl
@[simp] theorem AP.Ah9 (f:AP):f.vs[13]?=some (.c (.int .i64 f.params.Qx)):=rfl
@[simp] theorem AP.Ahw (f:AP)(h:13<f.vs.length):f.vs[13]'h=.c (.int .i64 f.params.Qx):=rfl
@[simp] theorem AP.AiA (f:AP):f.vs[14]?=some (.c (.int .i64 f.params.Qy)):=rfl
@[simp] theorem AP.Ahx (f:AP)(h:14<f.vs.length):f.vs[14]'h=.c (.int .i64 f.params.Qy):=rfl
@[simp] theorem AP.AiB (f:AP):f.vs[15]?=some (.c (.int .i64 f.params.Q5)):=rfl
@[simp] theorem AP.Ahy (f:AP)(h:15<f.vs.length):f.vs[15]'h=.c (.int .i64 f.params.Q5):=rfl
@[simp] theorem AP.AiC (f:AP):f.vs[16]?=some (.c (.int .i64 f.params.Qz)):=rfl
@[simp] theorem AP.Ahz (f:AP)(h:16<f.vs.length):f.vs[16]'h=.c (.int .i64 f.params.Qz):=rfl
@[simp] theorem AP.AiH (f:AP):f.vs[21]?=some (.c (.int .i64 f.params.RO)):=rfl
@[simp] theorem AP.Ah4 (f:AP)(h:21<f.vs.length):f.vs[21]'h=.c (.int .i64 f.params.RO):=rfl
def NL (f:AP)(s:Aa):Int:=AU f.params.rule (BS f.params s)
def MZ (f:AP)(s:Aa):Int:=AU f.params.FD (BS f.params s) - Bm (NL f s)
def TH (f:AP)(s:Aa):Int:=if s.By=0 then 3*NL f s else NL f s
def YM (f:AP)(s:Aa):Int:=AU (if s.By=0 then f.params.VH else f.params.Tp) (BS f.params s)
def YL (f:AP)(s:Aa):Int:=AU (if s.By=0 then f.params.Uf else f.params.TE) (BS f.params s)
def cF (f:AP)(s:Aa)(n:AA):Int:=mx (YM f s) (MZ f s+NL f s+TH f s+n.d)
def cD (f:AP)(s:Aa)(d:AA):Int:=mx (YL f s) (d.h+TH f s - MZ f s)
def TJ (n d:AA):Int:=mx (mx 0 n.w) d.w
def WO (f:AP)(s:Aa)(n d:AA):AA:=
 Bf (TJ n d) (mx (cF f s n+n.h) (MZ f s+NL f s)) (mx (d.d+cD f s d) (-(MZ f s)))
  [n.AS (Bm (TJ n d - n.w)) (cF f s n),(FV (TJ n d) (NL f s) 0).AS 0 (MZ f s),d.AS (Bm (TJ n d - d.w)) (-(cD f s d))]
def cE (f:AP)(s:Aa)(n d:AA):AA×Int:=if f.valid=false\/s.ok=false\/n.Ad=false\/d.Ad=false then(AA.zero,1)else C8 (WO f s n d)
mutual
def AA.simp:AA->Option AA
 | ⟨k,n,s,w,h,d,x,y,AE,o,src⟩=>if k=1 then some ⟨k,n,s,w,h,d,x,y,AE,o,src⟩else if k=3 then AA.VW AE else none
def AA.VW:List AA->Option AA
 | []=>none
 | c::l=>match l with
   | []=>if c.x=0/\c.y=0 then c.simp else none
   | _::_=>none
end
theorem AYe :b.simp=if b.kind=1 then some b else if b.kind=3 then AA.VW b.AE else none:=by cases b;rfl
def F8 (f:AP)(b:AA):Int:=match b.simp with
 | some g=>mx 0 (AU (f.pick g.name).Ey g.size)
 | none=>0
def atR (f:AP)(b:AA):Int:=match b.simp with
 | some g=>AU (f.pick g.name).attach g.size
 | none=>Bm b.w
def JZ:Int×Int×Int×Int->List AA->Int×Int×Int×Int
 | e,[]=>e
 | e,b::l=>JZ (mn e.1 b.x,mx e.2.1 (b.x+b.w),mx e.2.2.1 (b.y+b.h),mx e.2.2.2 (b.d - b.y)) l
def DQ:List AA->Int×Int×Int×Int
 | []=>(0,0,0,0)
 | b::l=>JZ (b.x,b.x+b.w,b.y+b.h,b.d - b.y) l
def Kf (s:Aa):Aa:=GB 8 1 s
def M1 (f:AP)(s:Aa):Int:=AU f.params.Gj (BS f.params s)
def Qs (f:AP)(s:Aa)(b:AA):Int:=if b.simp.isSome then 0 else b.h - AU f.params.Q5 (BS f.params (Kf s))
def Od (f:AP)(s:Aa)(b:AA):Int:=if b.simp.isSome then 0 else b.d+AU f.params.Qz (BS f.params (Kf s))
def XO (p:Params)(s:Aa):Int:=if s.Hd=true then p.Z0 else if s.By=0 then p.Zy else p.Zz
def H0 (f:AP)(s:Aa)(b:AA):List AA->Int
 | []=>Qs f s b
 | c::_=>mx (mx (Qs f s b) (AU (XO f.params s) (BS f.params s))) (c.d+AU (M1 f s) 25)
def Nm (f:AP)(s:Aa)(b:AA):Int:=mx (Od f s b) (AU f.params.Qy (BS f.params s))
def s8 (f:AP)(s:Aa)(b c d:AA):Int:=H0 f s b [d] - d.d - (c.h - Nm f s b)
def Sb (f:AP)(s:Aa):Int:=4*AU f.params.rule (BS f.params s)
def s9 (f:AP)(s:Aa)(b d:AA):Int:=AU (M1 f s) 80 - (H0 f s b [d] - d.d)
def Ez (f:AP)(s:Aa)(b:AA):List AA->List AA->Int×Int
 | [],sup=>(H0 f s b sup,Od f s b)
 | c::_,[]=>(H0 f s b [],mx (mx (Od f s b) (AU f.params.Qx (BS f.params s))) (c.h - AU (M1 f s) 80))
 | c::_,d::_ =>
   if s8 f s b c d<Sb f s then
    (if 0<s9 f s b d then(H0 f s b [d]+s9 f s b d,Nm f s b+(Sb f s - s8 f s b c d) - s9 f s b d)
     else(H0 f s b [d],Nm f s b+(Sb f s - s8 f s b c d)))
   else(H0 f s b [d],Nm f s b)
def eu (f:AP)(s:Aa)(b:AA)(sub sup:List AA):List AA:=
 b.AS 0 0::((match sub with | []=>[]|c::_=>[c.AS (b.w - F8 f b) (-(Ez f s b sub sup).2)])++(match sup with | []=>[]|c::_=>[c.AS b.w (Ez f s b sub sup).1]))
def Oc (f:AP)(s:Aa)(b:AA)(sub sup:List AA):AA:=
 Bf (DQ (eu f s b sub sup)).2.1 (DQ (eu f s b sub sup)).2.2.1 (DQ (eu f s b sub sup)).2.2.2 (eu f s b sub sup)
def Gd (f:AP)(s:Aa)(p:Int):Int:=AU (AU f.params.Al (BS f.params s)) p
def I4 (b:AA)(sub sup:List AA):Int:=IS (IS (mx 0 b.w) sub) sup
def Jk (f:AP)(b:AA):Int:=Bm (F8 f b)
def HR (f:AP)(b:AA)(sub sup:List AA):Int:=Bm (I4 b sub sup - b.w)
def Kd (f:AP)(b:AA)(sub sup:List AA)(c:AA):Int:=Bm (I4 b sub sup - c.w) - Jk f b
def Kc (f:AP)(b:AA)(sub sup:List AA)(c:AA):Int:=Bm (I4 b sub sup - c.w)+Jk f b
def DY (f:AP)(b:AA)(sub sup:List AA):Int:=
 let l:=mn 0 (HR f b sub sup)
 let l:=match sub with | []=>l|c::_=>mn l (Kd f b sub sup c)
 match sup with | []=>l|c::_=>mn l (Kc f b sub sup c)
def Ti (f:AP)(s:Aa)(b c:AA):Int:=b.d+Gd f s 17+c.h
def Tj (f:AP)(s:Aa)(b c:AA):Int:=b.h+Gd f s 11+c.d
def ri (f:AP)(s:Aa)(b:AA)(sub sup:List AA):List AA:=
 b.AS (HR f b sub sup - DY f b sub sup) 0::
  ((match sub with | []=>[]|c::_=>[c.AS (Kd f b sub sup c - DY f b sub sup) (-(Ti f s b c))])++
   (match sup with | []=>[]|c::_=>[c.AS (Kc f b sub sup c - DY f b sub sup) (Tj f s b c)]))
def kV:Int->List AA->Int
 | w,[]=>w
 | w,b::l=>kV (mx w (b.x+b.w)) l
def OP (f:AP)(s:Aa)(b:AA)(sub sup:List AA):AA:=
 Bf (kV (I4 b sub sup) (ri f s b sub sup))
  (match sup with | []=>b.h|c::_=>mx b.h (Tj f s b c+c.h+Gd f s 10))
  (match sub with | []=>b.d|c::_=>mx b.d (Ti f s b c+c.d+Gd f s 10)) (ri f s b sub sup)
def Vx (f:AP)(s:Aa)(b:AA):Int:=b.h - mn b.h (AU f.params.RO (BS f.params s))
def Vy (f:AP)(s:Aa)(name:ByteArray)(b:AA):Int:=atR f b - AU (f.pick name).attach (BS f.params s)
def S8 (f:AP)(s:Aa)(name:ByteArray)(b:AA):Int:=mx 0 (-(Vy f s name b))
def al (f:AP)(s:Aa)(name:ByteArray)(b a:AA):AA:=
 Bf (mx (mx 0 (Vy f s name b+S8 f s name b+a.w)) (S8 f s name b+b.w)) (mx b.h (Vx f s b+a.h)) (mx b.d (a.d - Vx f s b))
  [a.AS (Vy f s name b+S8 f s name b) (Vx f s b),b.AS (S8 f s name b) 0]
def AA.mark (b:AA)(o:Int)(src:List Int):AA:={ b with of_:=o,src:=src }
theorem OZ (o:Int)(src:List Int)(hs:src.length<=1000000):AC AF 68 [Ao b,.c (.int .i64 o),.c (AV src)] (Ao (b.mark o src)):=by
 have B:=pO src hs;obtain⟨E,F,G,I,J,Q,R,S,AE,W,U⟩:=b;simp only[Ao,AA.mark,AA.row,Ap,BB];refine en func68 ntmps68 ?_;exact wz (cj @AR.eq_1<|results68) (cj B<|trivial)
theorem AFP : ∀(l:List AA) (k:Nat) (b:AA) (e:Int×Int×Int×Int),l[k]?=some b->JZ e (l.take (k+1))=(mn (JZ e (l.take k)).1 b.x,mx (JZ e (l.take k)).2.1 (b.x+b.w),mx (JZ e (l.take k)).2.2.1 (b.y+b.h),mx (JZ e (l.take k)).2.2.2 (b.d - b.y))
 | [],_,_,_,h=>by simp at h
 | x::l,0,b,e,h=>by simp at h;subst h;rfl
 | x::l,k+1,b,e,h=>by simp only[DP,JZ];exact AFP l k b _ (by simpa using h)
def Oi (n:Int):Prop:= -1000000000000<=n/\n<=1000000000000
structure oI (b:AA):Prop where
 x:Oi b.x
 y:Oi b.y
 w:Oi b.w
 h:Oi b.h
 d:Oi b.d
theorem APO {l:List AA}{k:Nat}{b:AA}(B:l[k]?=some b):DQ (l.take (k+1))=if k=0 then(b.x,b.x+b.w,b.y+b.h,b.d - b.y)else(mn (DQ (l.take k)).1 b.x,mx (DQ (l.take k)).2.1 (b.x+b.w),mx (DQ (l.take k)).2.2.1 (b.y+b.h),mx (DQ (l.take k)).2.2.2 (b.d - b.y)):=by
 match l,k,B with
 | [],_,h=>simp at h
 | c::l,0,h=>simp at h;subst h;simp[DQ,JZ]
 | c::l,k+1,h=>rw[if_neg (by omega)];simp only[DP,DQ];exact AFP l k b _ (by simpa using h)
def YG (e:Int×Int×Int×Int):List V:=[.c (.int .i64 e.1),.c (.int .i64 e.2.1),.c (.int .i64 e.2.2.1),.c (.int .i64 e.2.2.2)]
theorem kq (hl:l.length<=1000000)(ht : ∀b∈l,oI b):AC AF 74 [.c (.sl (AA.AG l))] (.A7 (YG (DQ l))):=by
 obtain⟨U,J⟩:=AI (AA.AG l);have G:U.length=l.length:=by rw[<-J,Dt];simp
 rw[J];refine en func74 ntmps74 ?_;refine wy (cj2 @G @AR.eq_1 ve) trivial ⟨?_⟩;refine lp (ι:={ k:Nat // k<=l.length }) (λk=>[(2,.c (.int .i64 (DQ (l.take k.1)).1)),(3,.c (.int .i64 (DQ (l.take k.1)).2.1)),(4,.c (.int .i64 (DQ (l.take k.1)).2.2.1)),(5,.c (.int .i64 (DQ (l.take k.1)).2.2.2)),(10,.c (.int .i64 (k.1:Int)))]) (λ_=>[]) (λk=>l.length - k.1) ⟨0,by simp⟩ ?_ ?_;all_goals simp only[puts,Bw,CO,Ag,Ai]
 exact ER (cj @DQ.eq_1<|@DQ.eq_2);rintro ⟨k,hk⟩;simp only;by_cases B:k<l.length;obtain⟨c,R⟩:=AI (l[k]);have Q:l[k]?=some c:=by rw[BE B,R]
 have I:U[k]?=some c.row:=by rw[<-J,Dt,CM,Q];rfl
 have z:k<U.length:=by omega
 have q:=gx I;obtain⟨cx,cy,cw,ch,cd⟩:=ht c (Cj Q);unfold Oi at cx cy cw ch cd;have F:=APO Q;obtain⟨E,cH⟩:=AI (DQ (l.take k));obtain⟨E',W⟩:=AI (DQ (l.take (k+1)));rw[cH,W]at F;rw[cH];have A0 : ∀(K:Exit->St->Prop),True:=λ_=>trivial
 by_cases h0:k=0;rw[if_pos h0]at F;have S:(k:Int)=0↔True:=iff_true_intro (by omega);refine wy (cj6 @G @B @z @I @q @S ve) trivial ⟨?_⟩;exact⟨⟨k+1,by omega⟩,by simp only;omega,by rw[W,F];exact wd 0⟩;rw[if_neg h0]at F;have S : ¬(k:Int)=0:=by omega
 simp only[mx,mn]at F;refine wy (cj6 @G @B @z @I @q @S ve) trivial ⟨?_⟩;exact⟨⟨k+1,by omega⟩,by simp only;omega,by rw[W,F];exact wd 0⟩;have e:l.take k=l:=Gl (by omega);rw[e];unfold YG;exact wz (cj2 @G @B ve) trivial
theorem AXU (a:Int):quot a 18=Ea a 18:=by
 unfold quot Ea;have F:=mN a 18;rcases fq a 0 with h|h
 . have B:a.tmod 18<=0:=by have:=Sl (a:= -a) 18 (by omega);rw[mO]at this;omega
   have E : -18<a.tmod 18:=by have:=ft a (b:=18) (by omega);omega
   generalize a.tmod 18=r at *
   generalize a.tdiv 18=q at *
   repeat' split
   all_goals omega
 . have B:0<=a.tmod 18:=Sl 18 h;have E:a.tmod 18<18:=aG a (by omega);generalize a.tmod 18=r at *
   generalize a.tdiv 18=q at *
   repeat' split
   all_goals omega
theorem AXW (a:Int)(ha : -9000000000000000000<=a)(A0:a<=9000000000000000000):AC AF 126 [.c (.int .i64 a),.c (.int .i64 18)] (.c (.int .i64 (quot a 18))):=by
 have z:=mN a 18;have hr : -18<a.tmod 18/\a.tmod 18<18:=by
  rcases fq a 0 with h|h
  have h2:a.tmod 18<=0:=by have:=Sl (a:= -a) 18 (by omega);rw[mO]at this;omega
  have h3 : -18<a.tmod 18:=by have:=ft a (b:=18) (by omega);omega
  omega;have h2:0<=a.tmod 18:=Sl 18 h;have h3:a.tmod 18<18:=aG a (by omega);omega
 have e:quot a 18=if 0<=a.tmod 18/\18 - a.tmod 18<=a.tmod 18 then a.tdiv 18+1 else if a.tmod 18<0/\18+a.tmod 18<= -a.tmod 18 then a.tdiv 18 - 1 else a.tdiv 18:=rfl
 rw[e];have F:AZ.wrap (a.tdiv 18)=a.tdiv 18:=Ac;have B:AZ.wrap (a.tmod 18)=a.tmod 18:=Ac;obtain⟨R,J⟩:=AI (a.tmod 18);obtain⟨D,I⟩:=AI (a.tdiv 18);rw[J]at hr B z ⊢;rw[I]at F z ⊢;have bD : -9000000000000000000<=D/\D<=9000000000000000000:=by omega
 clear z e;by_cases E:0<=R;by_cases Q:18 - R<=R;rw[if_pos ⟨E,Q⟩];have W:=iff_true_intro E;have wX:=iff_true_intro Q;refine en UG Xp ?_;exact wz (cj6 @J @I @F @B @W @wX Xq) trivial;rw[if_neg (λh=>Q h.2),if_neg (λh=>by omega)];have W:=iff_true_intro E;have S : ¬R<0:=by omega
 refine en UG Xp ?_;exact wz (cj7 @J @I @F @B @W @Q @S Xq) trivial;have S:R<0:=by omega
 have G:=iff_true_intro S;by_cases U:18+R<= -R;rw[if_neg (λh=>E h.1),if_pos ⟨S,U⟩];have q:=iff_true_intro U;refine en UG Xp ?_;exact wz (cj7 @J @I @F @B @E @G @q Xq) trivial;rw[if_neg (λh=>E h.1),if_neg (λh=>U h.2)];refine en UG Xp ?_;exact wz (cj7 @J @I @F @B @E @G @U Xq) trivial
def ka (n a:Int):Int:=if An n=true then Ea (n*a) 18 else 0
theorem AUb {n a:Int}(E : -1073741824<=n/\n<=1073741824)(B:1<=a/\a<=10): -10737418240<=n*a/\n*a<=10737418240:=by
 have:=Qh n a 1073741824 10 (by omega) (by omega) (by omega) (by omega);omega
theorem AJn (n a:Int)(R:1<=a/\a<=10):AC AF 173 [.c (.int .i64 n),.c (.int .i64 a),.c (.int .i64 18)] (.c (.int .i64 (ka n a))):=by
 have B:=Ng n;have F:=Ng a;have G:=Ng 18;rw[show An a=true by simp[An];omega]at F;rw[show An 18=true by decide +kernel]at G;unfold ka;cases E:An n with
 | false=>rw[E]at B;rw[if_neg (by simp)];refine en func173 ntmps173 ?_;exact wz (cj @AR.eq_1<|results173) (cj3 B F G trivial)
 | true=>rw[E]at B;rw[if_pos rfl];simp[An]at E;have S:=AUb E R;have I:=AXW (n*a) (by omega) (by omega);rw[AXU]at I;have Q:AZ.wrap (n*a)=n*a:=Ac;obtain⟨M,J⟩:=AI (n*a);rw[J]at I Q ⊢;refine en func173 ntmps173 ?_;exact wz (cj3 @AR.eq_1 @J @Q results173) (cj4 B F G I trivial)
def fE:List (List Int):=[[0,1,-2,-3,0,0,0,-1],[1,1,0,-3,0,0,0,-1],[-2,-2,0,0,-2,0,0,-2],[-3,-3,0,0,-3,0,0,-3],[0,0,0,0,0,0,0,0],[0,1,-2,-3,0,0,0,-1],[-1,-1,0,-1,-1,-1,-1,-1],[-1,1,-2,-3,-1,0,-1,-1]]
def XY (l r:Nat):Int:=(fE.getD l []).getD r 0
def VX (l r:Nat)(v:Int):Int:=if XY l r<0 then(if v > 1 then 0 else -(XY l r))else XY l r
def Qt (q:Int)(l r:Nat)(v:Int):Int:=if VX l r v=0 then 0 else ka q (VX l r v+2)
def ABu:V:=.agg (fE.flatten.map λn=>.c (.int .i64 n))
theorem AXG:AC AF 172 [] ABu:=by
 unfold ABu;obtain⟨B,F⟩:=AI ((fE.flatten.map λn=>V.c (.int .i64 n)));have G:B.length=64:=by rw[<-F];rfl
 have E : ∀I:List V,I.length=64->E8 I 0 B=B:=λI h=>kz (by rw[G,h])
 have J:B.all V.one=true:=by rw[<-F];rfl
 have GP:B.take 64=B:=Gl (by omega);have R:V.CF B=some B:=by rw[<-F];rfl
 rw[F];refine en func172 ntmps172 ?_;refine wu (.mk 1) results172 trivial ⟨?_⟩;refine AW.DA ?_;refine CY (.mk 8) trivial ?_;refine SW.op (.agg B) (by simp[BQ]) rfl (λS0 w0 x a w Q=>AIu Q.1 rfl (λp _=>CW Q.2 p.2) AZ2 AZ0 (by rw[<-F];kernel_rfl)) ?_;simp only[St.step,St.put,Bk,Ai,Ag];refine CY (.mk 1) (cj2 @E @G @J) ?_;refine SW.nil ?_;exact wz (cj4 @G @J @R @GP results172) trivial
def KL:List AA->Int->Int
 | [],h=>h
 | b::l,h=>KL l (mx h (b.y+b.h))
def J1:List AA->Int->Int
 | [],d=>d
 | b::l,d=>J1 l (mx d (b.d - b.y))
def EY:List AA->List Int->List AA
 | b::l,p::q=>b.AS p b.y::EY l q
 | _,_=>[]
def Qf (AE:List AA)(places:List Int)(w:Int):AA:=Bf w (KL AE 0) (J1 AE 0) (EY AE places)
def Tk (AE:List AA)(places:List Int)(w:Int):AA×Int:=if (Qf AE places w).Ad=false then(AA.zero,6)else(Qf AE places w,0)
theorem dz : ∀ {AE:List AA} {pl:List Int},pl.length=AE.length->AA.Az (EY AE pl)=AA.Az AE
 | [],_,_=>by cases ‹List Int›<;>rfl
 | b::l,p::q,h=>by simp only[EY,AA.Az,Hb,dz (AE:=l) (pl:=q) (by simpa using h)]
 | b::l,[],h=>by simp at h
theorem AJb : ∀ {AE:List AA} {pl:List Int},AA.JH AE->AA.JH (EY AE pl)
 | [],[],_=>trivial
 | [],_::_,_=>trivial
 | b::l,[],_=>trivial
 | b::l,p::q,h=>by simp only[EY,AA.JH]at h ⊢;exact⟨HJ _ _ h.1,AJb h.2⟩
theorem AJd : ∀ {AE:List AA} {pl:List Int},AA.FY AE->AA.FY (EY AE pl)
 | [],[],_=>trivial
 | [],_::_,_=>trivial
 | b::l,[],_=>trivial
 | b::l,p::q,h=>by simp only[EY,AA.FY]at h ⊢;exact⟨F4 _ _ h.1,AJd h.2⟩
theorem kv : ∀ {AE:List AA} {pl:List Int},pl.length=AE.length->(EY AE pl).length=AE.length
 | [],_,_=>by cases ‹List Int›<;>rfl
 | b::l,p::q,h=>by simp only[EY,BA,kv (AE:=l) (pl:=q) (by simpa using h)]
 | b::l,[],h=>by simp at h
theorem ABB : ∀ {AE:List AA} {pl:List Int} {k:Nat} {b:AA} {p:Int},AE[k]?=some b->pl[k]?=some p->(EY AE pl)[k]?=some (b.AS p b.y)
 | b'::l,F::q,0,b,p,B,E=>by simp at B E;subst B E;rfl
 | b'::l,F::q,k+1,b,p,B,E=>by simp only[EY,JU]at *;exact ABB B E
 | [],_,_,_,_,h,_=>by simp at h
 | _::_,[],_,_,_,_,h=>by simp at h
theorem AJf : ∀ {AE:List AA} {pl:List Int} {k:Nat} {b:AA} {p:Int},AE[k]?=some b->pl[k]?=some p->EY (AE.take (k+1)) (pl.take (k+1))=EY (AE.take k) (pl.take k)++[b.AS p b.y]
 | b'::l,F::q,0,b,p,B,E=>by simp at B E;subst B E;rfl
 | b'::l,F::q,k+1,b,p,B,E=>by
   simp only[JU]at B E;have:=AJf B E;simp only[DP,EY,BK]at this ⊢;rw[this]
 | [],_,_,_,_,h,_=>by simp at h
 | _::_,[],_,_,_,_,h=>by simp at h
theorem ALc : ∀(l:List AA) (k:Nat) (b:AA) (h:Int),l[k]?=some b->KL (l.take (k+1)) h=mx (KL (l.take k) h) (b.y+b.h)
 | [],_,_,_,h=>by simp at h
 | x::l,0,b,h,B=>by simp at B;subst B;rfl
 | x::l,k+1,b,h,B=>by simp only[DP,KL];exact ALc l k b _ (by simpa using B)
theorem AEP : ∀(l:List AA) (k:Nat) (b:AA) (h:Int),l[k]?=some b->J1 (l.take (k+1)) h=mx (J1 (l.take k) h) (b.d - b.y)
 | [],_,_,_,h=>by simp at h
 | x::l,0,b,h,B=>by simp at B;subst B;rfl
 | x::l,k+1,b,h,B=>by simp only[DP,J1];exact AEP l k b _ (by simpa using B)
theorem AaP {b:AA}(h:b.Ad=true):(-1073741824<=b.x/\b.x<=1073741824)/\(-1073741824<=b.y/\b.y<=1073741824):=by
 obtain⟨S,U,q,z,R,Q,bx,G,I,W,J⟩:=b;simp only[AA.Ad,Ak,decide_eq_true_eq]at h;obtain⟨B,h2,h3⟩:=h;simp only[AA.D8,AA.Cl,AA.lens,Ak,Ep,Nq]at B;obtain⟨⟨⟨l1,l2,l3,E,F,_⟩,k1,k2⟩,h4⟩:=B;simp[An]at E F;exact⟨E,F⟩
theorem ABN : ∀(vs cs pre post:List V),cs.length=vs.length->E8 (pre++(cs++post)) pre.length vs=pre++(vs++post)
 | [],cs,pre,post,h=>by
   have:cs=[]:=List.eq_nil_of_length_eq_zero (by simpa using h);subst this;simp[E8]
 | v::vs,c::cs,pre,post,h=>by
   simp only[E8,BK];have:=ABN vs cs (pre++[v]) post (by simpa using h);simp only[Cp,BA,BO,Nat.zero_add,GX,BK,List.nil_append]at this;rw[<-this];congr 1
   simp
def arr (l:List AA)(n:Nat):List V:=(AA.AG l).flatten.map V.c++(Aq n BT).flatten
theorem AKY :(AA.AG l).flatten.length=l.length*11:=by
 induction l with
 | nil=>rfl
 | cons b l ih=>simp only[AA.AG,Hp,Cp,ih,BA,AA.Nk];omega
theorem ANd (n:Nat):(arr l n).length=(l.length+n)*11:=by
 have B:(Aq n BT).flatten.length=n*11:=by
  induction n with
  | zero=>rfl
  | succ n ih=>rw[BY,Hp,Cp,ih];simp[BT];omega
 unfold arr;rw[Cp,Ch,AKY,B];omega
theorem ib {n:Nat} : ∀ {a b:List V},V.BI n (a++b)=(V.BI n a && V.BI n b)
 | [],b=>by simp[V.BI]
 | v::a,b=>by simp only[BK,V.BI,ib (a:=a),Bool.and_assoc]
@[simp] theorem Aa5 :V.BI m BT=true:=by simp[BT,V.BI,V.A8]
@[simp] theorem AbJ (l:List AA)(n:Nat):V.BI m (arr l n)=true:=by
 have B : ∀r:List C,V.BI m (r.map V.c)=true:=by
  intro r;induction r with
  | nil=>rfl
  | cons c r ih=>simp only[Ap,V.BI,V.A8,ih,LW]
 have E:V.BI m (Aq n BT).flatten=true:=by
  induction n with
  | zero=>rfl
  | succ n ih=>rw[BY,Hp,ib,ih,Aa5];rfl
 unfold arr;rw[ib,B,E];rfl
theorem ANe (n:Nat)(b:AA)(p:Int):(E8 (arr l (n+1)) (l.length*11) b.vs).set (l.length*11+6) (.c (.int .i64 p))=arr (l++[b.AS p b.y]) n:=by
 have G:((AA.AG l).flatten.map V.c).length=l.length*11:=by rw[Ch,AKY]
 have B:arr l (n+1)=(AA.AG l).flatten.map V.c++(BT++(Aq n BT).flatten):=by
  unfold arr;rw[BY,Hp]
 rw[B,<-G,ABN _ _ _ _ (by rw[AA.Xf];rfl),Vg _ _ (by omega),show ((AA.AG l).flatten.map V.c).length+6 - ((AA.AG l).flatten.map V.c).length=6 by omega];have E:(b.vs++(Aq n BT).flatten).set 6 (.c (.int .i64 p))=(b.AS p b.y).vs++(Aq n BT).flatten:=by cases b;rfl
 rw[E];unfold arr;have F:AA.AG (l++[b.AS p b.y])=AA.AG l++[(b.AS p b.y).row]:=by rw[Dt,Dt,Fm];rfl
 rw[F,Vd,Fm,GX];simp only[Hp,RC,E5];rfl
theorem AS7 (ho:AA.FY AE)(hc:AA.Az AE<=1000000):AC AF 132 [.c (.sl (AA.AG AE))] (.c (.bool (AE.all AA.Ad))):=by
 obtain⟨F,J⟩:=AI (AA.AG AE);have I:F.length=AE.length:=by rw[<-J,Dt];simp
 have Ce:=Ud AE;rw[J];refine en func132 ntmps132 ?_;refine wy (cj @I<|ADC) trivial ⟨?_⟩;refine lp (ι:={ k:Nat // k<=AE.length/\AE.all AA.Ad=(AE.drop k).all AA.Ad }) (λk=>[(2,.c (.bool false)),(6,.c (.int .i64 (k.1:Int)))]) (λ_=>[]) (λk=>AE.length - k.1) ⟨0,by simp⟩ ?_ ?_;all_goals simp only[puts,Bw,CO,Ag,Ai]
 exact DH
 . rintro ⟨k,hk,S⟩;simp only;by_cases B:k<AE.length
   . obtain⟨c,E⟩:=AI (AE[k]);have Q:AE[k]?=some c:=by rw[BE B,E]
     rw[D5 B,E,Ep]at S;have G:F[k]?=some c.row:=by rw[<-J,Dt,CM,Q];rfl
     have z:k<F.length:=by omega
     have q : ∀U:k<F.length,F[k]'U=c.row:=by intro U;rw[BE U]at G;exact ML G
     have FX:=bj AE k c Q;have W:=EL c (kl ho c (Cj Q)) (by omega);rw[As]at W;have R:=(cj5 @I @B @z @G @q ADC)
     have cc:=(cj W<|trivial)
     repeat any_goals (first|refine Du R cc ⟨?_⟩|exact Bt R|(refine Dv R ?_ ?_<;>intro h<;>try exact Dw))
     all_goals exact⟨⟨k+1,by omega,by rw[S,h,Cd]⟩,by simp only;omega,wd 0⟩
   rw[FA (by omega),Nq]at S;exact wz (cj2 @I @B ADC) trivial
theorem ARw (pl:List Int)(w:Int)(hv : ∀b∈AE,b.Ad=true)(ho:AA.FY AE)(hd:AA.JH AE)(R:pl.length=AE.length)(hc:AA.Az AE<=900000)(A3:AE.length<=10000):AC AF 134 [.c (.sl (AA.AG AE)),.c (AV pl),.c (.int .i64 w)] (Ba (Tk AE pl w)):=by
 obtain⟨S,Aw⟩:=AI (AA.AG AE);have Av:S.length=AE.length:=by rw[<-Aw,Dt];simp
 obtain⟨I,Ru⟩:=AI (pl.map (λn=>[C.int .i64 n]));have A2:I.length=AE.length:=by rw[<-Ru,Ch,R]
 have U:=My w (KL AE 0) (J1 AE 0) (EY AE pl) (AJb hd) (by rw[dz R];omega);have CA:=EL (Qf AE pl w) (show AA.BX (Bf _ _ _ _)from⟨(CI _:0<=maxLen),(CI _:0<=maxLen),AJd ho⟩) (by show AA.cnt (Bf _ _ _ _)<=_;simp only[Bf,AA.cnt,dz R];omega);have A0:Bf w (KL AE 0) (J1 AE 0) (EY AE pl)=Qf AE pl w:=rfl;rw[A0]at U;obtain⟨B,hB⟩:=AI (Qf AE pl w);unfold Tk;rw[hB]at U CA ⊢;have Wd:AV pl=.sl I:=by rw[<-Ru];rfl
 rw[Aw,Wd];simp only[As]at U CA;have dC:128*(AE.length:Int)<=281474976710656:=by omega
 have za:(AE.length:Int)<=9223372036854775807:=by omega
 have KY : ¬(20000:Int)<=(AE.length:Int):=by omega
 refine en func134 ntmps134 ?_;refine wy (cj3 @Av @dC @za ADD) trivial ⟨?_⟩;refine lp (ι:={ k:Nat // k<=AE.length/\KL (AE.take k) 0<=3000000000/\0<=KL (AE.take k) 0/\J1 (AE.take k) 0<=3000000000/\0<=J1 (AE.take k) 0 }) (λk=>[(9,.c (.int .i64 (KL (AE.take k.1) 0))),(10,.c (.int .i64 (J1 (AE.take k.1) 0))),(18,.c (.int .i64 (k.1:Int)))]) (λk=>[.box 41 BT false,.box 41 (arr (EY (AE.take k.1) (pl.take k.1)) (AE.length - k.1)) false]) (λk=>AE.length - k.1) ⟨0,by simp[KL,J1]⟩ ?_ ?_;all_goals simp only[puts,Bw,CO,Ag,Ai]
 exact ER (cj3 @KL.eq_1 @KL.eq_2 @J1.eq_1 @J1.eq_2);rintro ⟨k,hk,t1,t2,b1,b2⟩;simp only;by_cases F:k<AE.length;obtain⟨c,A1⟩:=AI (AE[k]);have J:AE[k]?=some c:=by rw[BE F,A1]
 have A9:S[k]?=some c.row:=by rw[<-Aw,Dt,CM,J];rfl
 have Dp:k<S.length:=by omega
 have qo:k<I.length:=by omega
 have Bu : ∀G:k<S.length,S[k]'G=c.row:=by intro G;rw[BE G]at A9;exact ML A9
 obtain⟨p,hp⟩:∃p,pl[k]?=some p:=⟨_,BE (by omega)⟩
 have KZ:I[k]?=some [.int .i64 p]:=by rw[<-Ru,CM,hp];rfl
 have rB : ∀G:k<I.length,I[k]'G=[.int .i64 p]:=by intro G;rw[BE G]at KZ;exact ML KZ
 have Q:=hv c (Cj J);obtain⟨cw,ch,cd,_⟩:=D3 Q;obtain⟨cx,cy⟩:=AaP Q;have hA:arr (EY (AE.take k) (pl.take k)) (AE.length - k)=arr (EY (AE.take k) (pl.take k)) (AE.length - (k+1)+1):=by rw[show AE.length - (k+1)+1=AE.length - k by omega]
 have HO:(EY (AE.take k) (pl.take k)).length=k:=by rw[kv (by simp[R]),Fa];omega
 have E:=ANe (EY (AE.take k) (pl.take k)) (AE.length - (k+1)) c p;have W:=ANd (EY (AE.take k) (pl.take k)) (AE.length - k);rw[<-hA,HO,<-AJf J hp]at E;rw[HO,show k+(AE.length - k)=AE.length by omega]at W;have z:=ALc AE k c 0 J;have q:=AEP AE k c 0 J;generalize Rg:arr (EY (AE.take k) (pl.take k)) (AE.length - k)=X0 at E W ⊢;obtain⟨X1,yX⟩:=AI (E8 X0 (k*11) c.vs);have cT:X1.length=AE.length*11:=by rw[<-yX,AJ5,W]
 rw[yX]at E;obtain⟨T,hT⟩:=AI (KL (AE.take k) 0);obtain⟨D,hD⟩:=AI (J1 (AE.take k) 0);rw[hT]at z t1 t2 ⊢;rw[hD]at q b1 b2 ⊢;have Ew:(if T<c.y+c.h then c.y+c.h else T)=KL (AE.take (k+1)) 0:=z.symm;have FP:(if D<c.d - c.y then c.d - c.y else D)=J1 (AE.take (k+1)) 0:=q.symm;have NT:k*11+11<=AE.length*11:=by omega
 have Ta:k*11+6<AE.length*11:=by omega
 refine wy (cj9 @Av @A2 @F @Dp @qo @A9 @Bu @KZ @rB<|cj8 @W @yX @cT @E @NT @Ta @Ew @FP ADD) trivial ⟨?_⟩;exact⟨⟨k+1,by omega,by rw[z,DU];omega,by rw[z,DU];omega,by rw[q,DU];omega,by rw[q,DU];omega⟩,by simp only;omega,wd 2⟩;have e1:AE.take k=AE:=Gl (by omega);have e2:pl.take k=pl:=Gl (by omega);rw[e1]at t1 t2 b1 b2 ⊢;rw[e2];have hz:AE.length - k=0:=by omega
 rw[hz];have e3:arr (EY AE pl) 0=(AA.AG (EY AE pl)).flatten.map V.c:=by simp[arr]
 have e4:Hc 11 AE.length (AA.AG (EY AE pl)).flatten=AA.AG (EY AE pl):=by
  have:=bZ (AA.AG (EY AE pl)) (lE _);rwa [show (AA.AG (EY AE pl)).length=AE.length by rw[Dt,Ch,kv R]]at this
 rw[e3];refine AW.Bi 1 rfl (toCs_map _) (by simp[V.Cs,V.Bi,e4];exact rfl) (by simp[O.Bi,V.Cs,V.Bi,BT];exact rfl) ?_;exact wz (cj8 @Av @F @KY @Ba.eq_1 @As @AR.eq_1 @Fl @BT.eq_1 ADD) (cj2 U CA trivial)
def Eh:List AA->List Int->Int->Int
 | b::l,s::t,e=>Eh l t (e+s+b.w)
 | _,_,e=>e
def FT:List AA->List Int->Int->List Int
 | b::l,s::t,e=>(e+s)::FT l t (e+s+b.w)
 | _,_,_=>[]
def F9 (AE:List AA)(sp:List Int):AA×Int:=
 if AE.all AA.Ad=false then(AA.zero,1)
 else if sp.length≠AE.length\/sp.all An=false then(AA.zero,2)
 else Tk AE (FT AE sp 0) (Eh AE sp 0)
theorem xV : ∀ {l:List AA} {t:List Int} {k:Nat} {b:AA} {s:Int} (e:Int),l[k]?=some b->t[k]?=some s->Eh (l.take (k+1)) (t.take (k+1)) e=Eh (l.take k) (t.take k) e+s+b.w
 | b'::l,F::t,0,b,s,e,B,E=>by simp at B E;subst B E;rfl
 | b'::l,F::t,k+1,b,s,e,B,E=>by
   simp only[JU]at B E;simp only[DP,Eh];exact xV _ B E
 | [],_,_,_,_,_,h,_=>by simp at h
 | _::_,[],_,_,_,_,_,h=>by simp at h
theorem AJl : ∀ {l:List AA} {t:List Int} {k:Nat} {b:AA} {s:Int} (e:Int),l[k]?=some b->t[k]?=some s->FT (l.take (k+1)) (t.take (k+1)) e=FT (l.take k) (t.take k) e++[Eh (l.take k) (t.take k) e+s]
 | b'::l,F::t,0,b,s,e,B,E=>by simp at B E;subst B E;rfl
 | b'::l,F::t,k+1,b,s,e,B,E=>by
   simp only[JU]at B E;simp only[DP,FT,Eh,BK];rw[AJl _ B E]
 | [],_,_,_,_,_,h,_=>by simp at h
 | _::_,[],_,_,_,_,_,h=>by simp at h
theorem VK : ∀ {l:List AA} {t:List Int} (e:Int),t.length=l.length->(FT l t e).length=l.length
 | [],[],_,_=>rfl
 | b::l,s::t,e,h=>by simp only[FT,BA];rw[VK _ (by simpa using h)]
 | b::l,[],_,h=>by simp at h
 | [],_::_,_,h=>by simp at h
def NX (l:List Int)(n:Nat):List V:=l.map (λn=>V.c (.int .i64 n))++Aq n (.c (.int .i64 0))
theorem AHp (l:List Int)(n:Nat):(NX l n).length=l.length+n:=by simp[NX]
theorem ATP (l:List Int)(n:Nat)(v:Int):(NX l (n+1)).set l.length (.c (.int .i64 v))=NX (l++[v]) n:=by
 unfold NX;rw[Vg _ _ (by simp)];simp[BY]
theorem ATO (l:List Int)(n:Nat)(v:Int):(NX (l++[v]) n)[l.length]?=some (.c (.int .i64 v)):=by
 unfold NX;rw[List.getElem?_append_left (by simp)];simp
@[simp] theorem AcN (l:List Int)(n:Nat):V.BI m (NX l n)=true:=by
 unfold NX;rw[ib];have B:V.BI m (l.map λn=>V.c (.int .i64 n))=true:=by
  induction l with
  | nil=>rfl
  | cons c r ih=>simp only[Ap,V.BI,V.A8,ih,LW]
 have E:V.BI m (Aq n (.c (.int .i64 0)))=true:=by
  induction n with
  | zero=>rfl
  | succ n ih=>simp only[BY,V.BI,V.A8,ih,LW]
 rw[B,E];rfl
theorem ATQ (l:List Int):toCs (NX l 0)=some (l.map (C.int .i64)):=by
 have e:NX l 0=(l.map (C.int .i64)).map V.c:=by simp[NX]
 rw[e];exact toCs_c _
theorem AEo : ∀l:List Int,Hc 1 l.length (l.map (C.int .i64))=l.map λn=>[C.int .i64 n]
 | []=>rfl
 | n::l=>by simp only[BA,Ap,Hc];rw[show (C.int AZ n::Vf (C.int AZ) l).drop 1=l.map (C.int .i64)from rfl,AEo l];rfl
theorem ANN {l:List AA}(h:l.all AA.Ad=true):∀b∈l,b.Ad=true:=λb B=>ES.1 h b B
theorem ADw : ∀ {l:List AA},(∀b∈l,b.Ad=true)->AA.JH l
 | [],_=>trivial
 | b::l,h=>⟨GD (h b GH),ADw λc B=>h c (Gk _ B)⟩
theorem kx (sp:List Int)(ho:AA.FY AE)(hc:AA.Az AE<=900000)(A3:AE.length<=10000)(A6:sp.length<=1000000):AC AF 77 [.c (.sl (AA.AG AE)),.c (AV sp)] (Ba (F9 AE sp)):=by
 obtain⟨rs,Aw⟩:=AI (AA.AG AE);have Q:rs.length=AE.length:=by rw[<-Aw,Dt];simp
 obtain⟨q,Ru⟩:=AI (sp.map (λn=>[C.int .i64 n]));have I:q.length=sp.length:=by rw[<-Ru,Ch]
 have Wd:AV sp=.sl q:=by rw[<-Ru];rfl
 have J:=AS7 AE ho (by omega);rw[Aw]at J;unfold F9;rw[Aw,Wd];have dC:8*(AE.length:Int)<=281474976710656:=by omega
 have za:(AE.length:Int)<=9223372036854775807:=by omega
 refine en func77 ntmps77 ?_;have B:=(cj8 @Q @I @dC @za @Ba.eq_1 @As @AR.eq_1 @Fl g8)
 repeat any_goals (first|refine Qu (.mk 6) ?_|exact Bt B|refine De B ?_|refine BV B (J) ?_|refine DI B ?_|((first|refine JC B ?_ ?_|refine JE B ?_ ?_|refine JD B ?_ ?_|refine JY B ?_ ?_)<;>intro h<;>try (exfalso;first|omega|contradiction)))
 have A5:sp.length≠AE.length:=by omega
 exact wz (cj6 @Q @I @Ba.eq_1 @As @AR.eq_1 @Fl g8) trivial
 . have hl:sp.length=AE.length:=by omega
   have dJ:AE.all AA.Ad=true:=‹_›;have Mk:=ANN dJ;rw[if_neg (by simp[dJ])];rw[show Aq AE.length (V.c (C.int AZ 0))=NX [] AE.length from rfl];refine AW.DA ?_;refine SW.AOB AUa (cs:=[.int .i64 0]) (λS w=>by simp only[B4,Ab];exact⟨_,_,rfl,⟨rfl,by decide +kernel⟩,rfl⟩) func133 rfl rfl rfl rfl ?_;refine CY (.mk 1) trivial ?_;refine SW.nil ?_;have B:=(cj3 @Q @I @dC g8)
   have cc:=trivial;repeat any_goals (first|refine Du B cc ⟨?_⟩|exact Bt B|(refine Dv B ?_ ?_<;>intro h<;>try exact Dw))
   refine lp (ι:={ k:Nat // k<=AE.length/\sp.all An=(sp.drop k).all An/\ -(k:Int)*2147483648<=Eh (AE.take k) (sp.take k) 0/\Eh (AE.take k) (sp.take k) 0<=(k:Int)*2147483648 }) (λk=>[(5,.c (.int .i64 0)),(8,.c (.int .i64 (Eh (AE.take k.1) (sp.take k.1) 0))),(26,.c (.int .i64 (k.1:Int)))]) (λk=>[.box 41 BT false,.box 3 (NX (FT (AE.take k.1) (sp.take k.1) 0) (AE.length - k.1)) false,.box 3 [.c (.int .i64 (Eh (AE.take k.1) (sp.take k.1) 0))] false]) (λk=>AE.length - k.1) ⟨0,by simp[Eh]⟩ ?_ ?_;all_goals simp only[puts,Bw,CO,Ag,Ai]
   exact ER (cj @Eh.eq_1<|@Eh.eq_2)
   . rintro ⟨k,hk,hI,b1,b2⟩;simp only;by_cases G:k<AE.length
     . obtain⟨c,A2⟩:=AI (AE[k]);have Ev:AE[k]?=some c:=by rw[BE G,A2]
       have A0:k<sp.length:=by omega
       obtain⟨s,Cu⟩:=AI (sp[k]);have OE:sp[k]?=some s:=by rw[BE A0,Cu]
       rw[D5 A0,Cu,Ep]at hI;have z:rs[k]?=some c.row:=by rw[<-Aw,Dt,CM,Ev];rfl
       have Dp:k<rs.length:=by omega
       have qo:k<q.length:=by omega
       have Bu : ∀W:k<rs.length,rs[k]'W=c.row:=by intro W;rw[BE W]at z;exact ML z
       have KZ:q[k]?=some [.int .i64 s]:=by rw[<-Ru,CM,OE];rfl
       have rB : ∀W:k<q.length,q[k]'W=[.int .i64 s]:=by intro W;rw[BE W]at KZ;exact ML KZ
       obtain⟨cw,ch,cd,_⟩:=D3 (Mk c (Cj Ev));have hE:=xV 0 Ev OE;have kE:=AJl 0 Ev OE;have HO:(FT (AE.take k) (sp.take k) 0).length=k:=by rw[VK _ (by simp[hl]),Fa];omega
       have F:=ATP (FT (AE.take k) (sp.take k) 0) (AE.length - (k+1)) (Eh (AE.take k) (sp.take k) 0+s);have Ir:=ATO (FT (AE.take k) (sp.take k) 0) (AE.length - (k+1)) (Eh (AE.take k) (sp.take k) 0+s);have FE:=AHp (FT (AE.take k) (sp.take k) 0) (AE.length - k);have cT:=AHp (FT (AE.take (k+1)) (sp.take (k+1)) 0) (AE.length - (k+1));rw[<-kE,HO]at F Ir;rw[HO,show k+(AE.length - k)=AE.length by omega]at FE;rw[kE,Cp,HO,List.length_singleton,<-kE,show k+1+(AE.length - (k+1))=AE.length by omega]at cT;rw[show AE.length - (k+1)+1=AE.length - k by omega]at F;obtain⟨X0,Rg⟩:=AI (NX (FT (AE.take k) (sp.take k) 0) (AE.length - k));obtain⟨E,cH⟩:=AI (Eh (AE.take k) (sp.take k) 0);rw[Rg]at F FE ⊢;rw[cH]at F Ir hE b1 b2 ⊢;have G7:=Ng s;have B:=(cj9 @Q @I @G @Dp @qo @z @Bu @KZ @rB<|cj5 @Ba.eq_1 @As @AR.eq_1 @Fl @BT.eq_1 g8)
       repeat any_goals (first|refine Qu (.mk 13) ?_|exact Bt B|refine De B ?_|refine BV B (G7) ?_|refine DI B ?_|((first|refine JC B ?_ ?_|refine JE B ?_ ?_|refine JD B ?_ ?_|refine JY B ?_ ?_)<;>intro h<;>try (exfalso;first|omega|contradiction)))
       have hs:An s=true:=‹_›;simp[An]at hs;have FJ:k+1<=AE.length:=by omega
       refine AW.Lm Fz (.inl rfl) ?_;refine TW.take 12 (Es (by simp[Q,G,Dp,qo,z,Bu,KZ,rB];first|exact rfl|exact⟨rfl,rfl⟩|exact⟨rfl,rfl,rfl⟩) (HI ?_));simp only[CU,B9];refine TW.pJ 2 (AUZ E s c.w (by omega) (by omega) (by omega) (by omega)) func196 rfl rfl rfl rfl rfl rfl rfl ?_;simp only[St.step,St.put,Bk,BA,BO,Nat.reduceAdd,Nat.reduceLT,if_true,Ai,Ag,Ap,BB];refine TW.take 2 (Es (by simp[G,FJ,FE,F];first|exact rfl|exact⟨rfl,rfl⟩|exact⟨rfl,rfl,rfl⟩) (HI (TW.nil ⟨by kernel_rfl,?_⟩)));have A1:=gx Ir;refine wy (cj9 @Q @G @Dp @z @Bu @Ir @A1 @cT @hE.symm g8) trivial ⟨?_⟩;refine⟨⟨k+1,by omega,by rw[hI];simp[h],by rw[hE];omega,by rw[hE];omega⟩,by simp only;omega,?_⟩;refine Le.MI 3 (F2 rfl) (by simp[DG,BT]) (by simp[BT]) (by simp[V.BI,V.A8]) (by simp[O.A8,V.BI,V.A8,BT])
     have hz:AE.length - k=0:=by omega
     have e1:AE.take k=AE:=Gl (by omega);have e2:sp.take k=sp:=Gl (by omega);rw[FA (by omega),Nq]at hI;rw[e1,e2]at b1 b2 ⊢;rw[hz,if_neg (by simp[hI,hl])];have BD:=ARw AE (FT AE sp 0) (Eh AE sp 0) Mk ho (ADw Mk) (VK 0 hl) hc A3;have U:=AEo (FT AE sp 0);rw[VK 0 hl]at U;rw[Aw]at BD;obtain⟨E,cH⟩:=AI (Eh AE sp 0);obtain⟨L,hL⟩:=AI (FT AE sp 0);obtain⟨R,hR⟩:=AI (Tk AE L E);rw[cH,hL]at BD ⊢;rw[hL]at U;rw[hR]at BD ⊢;simp only[Ba,As,AR,AV]at BD ⊢;refine AW.Bi 1 rfl (ATQ L) (by simp[V.Cs,V.Bi,U];exact rfl) (by simp[O.Bi,V.Cs,V.Bi,BT];exact rfl) ?_;exact wz (cj3 @Q @G @BT.eq_1 g8) (cj BD<|trivial)
theorem Mp {n:Int}(B : -1073741824<=n)(E:n<=1073741824):An n=true:=by simp[An,B,E]
theorem AWC {f:AP}(G:f.valid=true)(name:ByteArray)(F:Ck name=true):Ck (f.pick name).name=true:=by
 have E : ∀g∈f.DR,Ck g.name=true:=by
  intro g B;have:=Z8 G g B;simp only[Lo,Ak]at this;exact this.1
 unfold AP.pick;split;rename_i g B;exact E g (YJ B).1;split;rename_i g B;exact E g (YJ B).1;exact F
theorem AHY {f:AP}(E:f.valid=true){h:Int}(e:f.ht name=some h):Ck name=true:=by
 simp only[AP.ht,Option.map_eq_some_iff]at e;obtain⟨g,B,_⟩:=e;obtain⟨m,rfl⟩:=YJ B;have:=Z8 E g m;simp only[Lo,Ak]at this;exact this.1
theorem ABp {f:AP}(E:f.valid=true){p:Int}(B:1<=p)(I:p<=100)(R:Ck name=true){y:Int}(S:An y=true):({ (DB f name p).1 with y:=y }:AA).D8=true/\({ (DB f name p).1 with y:=y }:AA).nest=1:=by
 obtain⟨e,_⟩:=Pk E B I name;have J:=Zv E B I name;have Q:=AWC E name R;rw[e];have F:Ck ((f.pick name).scaled p).name=true:=Q;generalize hG:(f.pick name).scaled p=G at J F ⊢;have hm:0<=mx 0 G.Ey/\mx 0 G.Ey<=200000:=by rw[DU];omega
 refine⟨?_,rfl⟩;have U:An (G.w+mx 0 G.Ey)=true:=Mp (by omega) (by omega);have W:An G.h=true:=Mp (by omega) (by omega);have q:An G.d=true:=Mp (by omega) (by omega);have z:An 0=true:=Mp (by omega) (by omega);simp[N7,AA.D8,AA.FU,AA.Cl,AA.lens,AA.Fi,AA.Js,U,W,q,z,S,F,B,show p<=1000 by omega,HT,I7]
theorem AKv {f:AP}(F:f.valid=true){p:Int}(B:1<=p)(E:p<=100)(name:ByteArray):({ (DB f name p).1 with y:=0 }:AA)=(DB f name p).1:=by
 obtain⟨e,_⟩:=Pk F B E name;rw[e];rfl
theorem AEC {f:AP}(E:f.valid=true){p:Int}(F:1<=p)(G:p<=100)(B:Int)(ho:0<=B):∀(l:List CR) (b:Int),0<=b->b+40000*(l.length:Int)<=400000000->(∀q∈l,Ck q.name=true/\B<(f.pick q.name).Dy)->AA.FU (Gp f B p b l)=true/\AA.Hk (Gp f B p b l)<=1
 | [],b,_,_,_=>⟨rfl,CI _⟩
 | q::l,b,hb,R,I=>by
   obtain⟨J,S⟩:=I q GH;have U:=Ql E q.name;unfold BG.Small at U;have Q:(f.pick q.name).Dy=(f.pick q.name).h+(f.pick q.name).d:=rfl;simp only[BA]at R;obtain⟨z,i2⟩:=AEC E F G B ho l (b+((f.pick q.name).Dy - B)) (by omega) (by omega) λx W=>I x (Gk _ W)
   have Y2:=AKe (n:=b) (p:=p) (by omega) (by omega) (by omega) (by omega);have kF : -200000<=(DB f q.name p).1.d/\(DB f q.name p).1.d<=200000:=by
    rw[(Pk E F G q.name).1];have:=Zv E F G q.name;simp only[N7];omega
   obtain⟨j1,j2⟩:=ABp E F G J (y:=AU b p+(DB f q.name p).1.d) (Mp (by omega) (by omega));simp only[Gp,kt,AA.FU,AA.Hk];rw[j1,z,j2];exact⟨rfl,Nat.max_le.2 ⟨BN _,i2⟩⟩
theorem ABq {f:AP}(F:f.valid=true):∀(l:List ByteArray) (a:Int),Sc f.ht a l=true->∀n∈l,Ck n=true
 | [],a,_,n,B=>by cases B
 | x::l,a,h,n,B=>by
   simp only[Sc]at h;cases E:f.ht x with
   | none=>rw[E]at h;cases h
   | some y =>
     rw[E]at h;simp only[Ak]at h;rcases Cf.1 B with rfl|B
     exact AHY F E;exact ABq F l _ h.2 n B
theorem AV0 {f:AP}(G:f.valid=true){s:Bc}(hs:s∈f.C5):∀q∈s.parts,Ck q.name=true:=by
 intro q E;have h:=Z9 G s hs;simp only[Oh,Ak]at h;obtain⟨_,_,B⟩:=h;rw[if_neg (by intro e;rw[e]at E;cases E)]at B;unfold du at B;cases F:OW f.ht 60000 false s.parts with
 | none=>rw[F]at B;cases B
 | some x=>obtain⟨y,I⟩:=AA0 _ _ _ _ _ F q E;exact AHY G I
theorem ic {b:AA}(B:b.D8=true)(E:b.cnt<=20000)(F:b.nest<=100):b.Ad=true:=by
 unfold AA.Ad;rw[B,decide_eq_true E,decide_eq_true F];rfl
theorem AFc {f:AP}(E:f.valid=true){p:Int}(J:1<=p)(I:p<=100)(S:Ck name=true)(B:Int):(Hv f name B p).1.Ad=true/\ -1000400000<=(Hv f name B p).1.h - (Hv f name B p).1.d/\(Hv f name B p).1.h - (Hv f name B p).1.d<=1000400000:=by
 have hk:JF f p=0:=by unfold JF;rw[if_neg (by simp[E]),if_neg (by omega)]
 have G:=AEm E name B p;obtain⟨c,z⟩:=AI (J2 f name B p);unfold Hv;rw[if_neg (by simp[hk]),z];rw[z]at G;unfold K5;rw[if_neg (by simp[hk]),if_neg (by simp[G])];have sv : ∀n,Ck n=true->(DB f n p).1.Ad=true/\ -1000400000<=(DB f n p).1.h - (DB f n p).1.d/\(DB f n p).1.h - (DB f n p).1.d<=1000400000:=λn S=>by
  have hb:=Zv E J I n;have hE : -1000400000<=(DB f n p).1.h - (DB f n p).1.d/\(DB f n p).1.h - (DB f n p).1.d<=1000400000:=by rw[(Pk E J I n).1];simp only[N7];omega
  refine⟨?_,hE⟩;obtain⟨j1,j2⟩:=ABp E J I S (y:=0) (Mp (by omega) (by omega));rw[AKv E J I]at j1 j2;have:=(lQ E J I (kc S)).2.2;exact ic j1 (by omega) (by omega)
 by_cases Q:c.Jo=0;rw[if_pos Q];refine sv _ ?_;unfold KH at G;cases F:f.I8 name with
 | none=>rw[F]at G;simp[Q]at G;rw[G];exact S
 | some s=>rw[F]at G;simp[Q]at G;have R:=(Se F).1;have h:=Z9 E s R;simp only[Oh,Ak]at h;exact ABq E _ _ h.2.1 _ (yj G)
 rw[if_neg Q];obtain⟨s,F,HO,r1,r2,_⟩:=AAI (cg:=c.Ln) (cr:=c.Jo) Q G;have R:=(Se F).1;obtain⟨_,_,g3,g4,g5,g6⟩:=QG E R;have hl:=sH r1 r2 s.parts;have W : ∀q∈JR c.Jo s.parts,Ck q.name=true/\s.overlap<(f.pick q.name).Dy:=λq U=>⟨AV0 E R q (sG U),g6 q (sG U)⟩
 obtain⟨i1,i2⟩:=AEC E J I s.overlap g4 (JR c.Jo s.parts) 0 (by omega) (by omega) W;obtain⟨k1,k2,k3,k4,k5⟩:=AA9 E J I s.overlap (JR c.Jo s.parts) 0 λq U=>kc (W q U).1
 have hw:=k5 0 (by omega) (by omega);obtain⟨t1,t2⟩:=AB3 E R r1 r2;have hh:=AKd (n:=LO f s c.Jo) (p:=p) t1 t2 (by omega) I;rw[F];simp only[Dm,V4];refine⟨ic ?_ ?_ ?_,by omega,by omega⟩;have q1:An (IS 0 (Gp f s.overlap p 0 (JR c.Jo s.parts)))=true:=Mp (by omega) (by omega);have q2:An (AU (LO f s c.Jo) p)=true:=Mp (by omega) (by omega);have q3:An 0=true:=Mp (by omega) (by omega);simp[AA.D8,AA.Cl,AA.lens,AA.Fi,AA.Js,q1,q2,q3,i1,HT,I7];simp only[AA.cnt];omega;simp only[AA.nest];omega
theorem AQq {n:Int}(B : -1000400000<=n)(E:n<=1000400000): -500200001<=Bm n/\Bm n<=500200001/\ -1<=n - 2*Bm n/\n - 2*Bm n<=1:=by
 unfold Bm;rw[if_pos (Mp (by omega) (by omega))];unfold Ea;split<;>omega
theorem AEI {f:AP}(B:f.valid=true){p:Int}(I:1<=p)(E:p<=100):0<=Hu f p/\Hu f p<=20001:=by
 have F:Qk f.params=true:=by simp only[AP.valid,Ak]at B;exact B.1.2.2
 simp[Qk,DX,Params.lens]at F;unfold Hu;have G:0<=f.params.FD*p:=Int.mul_nonneg (by omega) (by omega);have J:=Int.mul_le_mul_of_nonneg_left E (show 0<=f.params.FD by omega);rw[<-ABa (by omega) (by omega) (by omega) (by omega)];unfold Ea;rw[if_pos G];omega
theorem xJ {f:AP}(E:f.valid=true){p:Int}(F:1<=p)(G:p<=100)(I:Ck name=true)(B:Int):(name=bp/\MX f name B p=(Bf 0 0 0 [],0))\/(name≠bp/\∃S,oH S/\S.Ad=true/\(Hv f name B p).1=S/\An (Hu f p - Bm (S.h - S.d))=true/\An (S.h - S.d)=true/\MX f name B p=(S.AS S.x (Hu f p - Bm (S.h - S.d)),0)):=by
 unfold MX;rw[if_neg (by simp[E,I]),if_neg (by omega)];by_cases J:name=bp;rw[if_pos J];exact .inl ⟨J,rfl⟩;rw[if_neg J];refine .inr ⟨J,_,(find_ok E F G (kc I) B).2,(AFc E F G I B).1,rfl,?_⟩;have q:=(find_ok E F G (kc I) B).2;obtain⟨U,Q,R⟩:=AFc E F G I B;generalize hS:(Hv f name B p).1=S at q U Q R ⊢;obtain⟨z,a2⟩:=AEI E F G;obtain⟨c1,c2,_⟩:=AQq Q R;have q1:An (Hu f p)=true:=Mp (by omega) (by omega);have q2:An (S.h - S.d)=true:=Mp (by omega) (by omega);have W:An (Hu f p - Bm (S.h - S.d))=true:=Mp (by omega) (by omega);refine⟨W,q2,?_⟩;unfold KS;rw[if_neg (by simp[U]),if_neg (by simp[q1,q2]),if_neg (by simp[W])]
theorem ALx (r:Int)(w:World):Calls AF 375 #[.int .i32 r] w λe w'=>e=.returned (.bool (validRune r))/\w'=w:=by
 go_enter func375,ntmps375;go_wp2;all_goals go_ret
 all_goals refine⟨?_,rfl⟩
 all_goals simp[validRune]
 all_goals omega
theorem ATT (s:ByteArray)(r:Int)(w:World)(h0:128<=r)(h1:r<=1114111)(h2:r≠65533)(h3:validRune r=false):Calls AF 371 #[.string s,.int .i32 r] w λe w'=>e=.returned (.int .i64 (-1))/\w'=w:=by
 go_enter ux,vC;go_wp2_with (go_at_call 375;refine(ALx _ _).mono ?_;rintro e w' ⟨rfl,rfl⟩)
 go_ret;exact⟨rfl,rfl⟩
theorem AHy : ∀(l:List UInt8) (c:UInt8),(∀x∈l,x.toNat<128)->128<=c.toNat->EF l c= -1
 | [],c,_,_=>rfl
 | x::l,c,h,B=>by
   have E:x≠c:=λe=>by have:=h x GH;rw[e]at this;omega
   have ih:=AHy l c (λy F=>h y (Gk _ F)) B;simp[EF,E,ih]
theorem AAy : ∀x∈Gf.data.toList,x.toNat<128:=by decide
theorem AVv (a e:Nat)(c:UInt8)(h:128<=c.toNat):EF (Gf.extract a e).data.toList c= -1:=AHy _ _ (λx B=>AAy x (mem_extract B)) h
theorem ALn (b:UInt8):((b.toNat:Int)).toNat.toUInt8=b:=by simp
theorem APL (r:Int)(F:128<=r)(B:validRune r=true):(∃a b:UInt8,128<=b.toNat/\iA r=⟨#[a,b]⟩)\/(∃a b c:UInt8,128<=c.toNat/\iA r=⟨#[a,b,c]⟩)\/(∃a b c d:UInt8,128<=d.toNat/\iA r=⟨#[a,b,c,d]⟩):=by
 have E : ¬r.toNat<128:=by omega
 rw[<-validRune_eq]at B;unfold iA;simp only[B,if_true,E,if_false];split;exact .inl ⟨_,_,by simp;omega,rfl⟩;split;exact .inr (.inl ⟨_,_,_,by simp;omega,rfl⟩);exact .inr (.inr ⟨_,_,_,_,by simp;omega,rfl⟩)
theorem AaN (r:Int):AC AF 375 [.c (.int .i32 r)] (.c (.bool (validRune r))):=by
 intro S w us E B;simp only[AO,CV,Ab]at B;obtain⟨u,F,rfl,⟨rfl,_⟩,rfl⟩:=B;refine(ALx r w).mono ?_;rintro e G ⟨rfl,rfl⟩;exact⟨_,S,rfl,Ay.refl _,Ar.refl _ _,λb j h=>.inl h,by simp only[CV,Ab]⟩
theorem AAz (a e:Nat)(c:UInt8)(h:128<=c.toNat):AC AF 249 [.c (.str (Gf.extract a e)),.c (.int .u8 c.toNat)] (.c (.int .i64 (-1))):=by
 intro S w us F B;simp only[AO,CV,Ab]at B;obtain⟨u,I,rfl,⟨rfl,_⟩,G,E,rfl,⟨rfl,_⟩,rfl⟩:=B;refine(AHx _ _ w).mono ?_;rintro e J ⟨rfl,rfl⟩;rw[ALn,AVv _ _ _ h];exact⟨_,S,rfl,Ay.refl _,Ar.refl _ _,λb j h=>.inl h,by simp only[CV,Ab];exact⟨trivial,by decide +kernel⟩⟩
theorem Zj:Gf.size=11:=rfl
theorem AJH:Gf.data.toList[1]?=some 41:=rfl
theorem AJI:Gf.data.toList[2]?=some 123:=rfl
theorem AJJ:Gf.data.toList[3]?=some 125:=rfl
theorem ATV (r:Int)(h0:128<=r)(h1:r<=1114111)(h2:r≠65533)(U:validRune r=true):AC AF 371 [.c (.str Gf),.c (.int .i32 r)] (.c (.int .i64 (-1))):=by
 have G : ∀W:World,(convert 21 9 (.int .i32 r)).run AF W=.ok (.string (iA r)) W:=λW=>run_convert_int_string W _ _ _ _ (by kernel_rfl) (by kernel_rfl)
 have S:=APL r h0 U;obtain⟨R,z⟩:=AI (iA r);rw[z]at S G;have rK:=AaN r;rw[U]at rK;have J:R.size<=maxLen:=by
  unfold maxLen;rcases S with ⟨a,b,E,rfl⟩|⟨a,b,c,E,rfl⟩|⟨a,b,c,d,E,rfl⟩
  show 2<=_;omega;show 3<=_;omega;show 4<=_;omega
 have I : ¬r<128:=by omega
 have n0:0<=r:=by omega
 refine en ux vC ?_;refine wu (.mk 1) (cj3 @I @n0 @h2 aX) (cj rK<|trivial) ⟨?_⟩;refine AW.DA ?_;refine CY (.mk 1) trivial ?_;refine SW.op (.c (.str R)) (by simp[BQ]) rfl ?_ ?_;rintro S0 w0 x a w ⟨g,ht⟩;have Q:=CW ht (.tmp 17);simp only[ev,CV,Ab,List.getD_cons_succ,List.getD_cons_zero]at Q;exact BW.pure g (u:=.string R) (by simp[execOp,Q.1,G]) (by simp only[CV,Ab];exact⟨trivial,J⟩);simp only[St.step,St.put,Bk,Ai,Ag];refine CY (.mk 1) trivial ?_;refine SW.nil ?_;clear z G J;rcases S with ⟨a,b,E,rfl⟩|⟨a,b,c,E,rfl⟩|⟨a,b,c,d,E,rfl⟩
 have F:=AAz 2 11 b E;have q : ¬(41:Int)=(b.toNat:Int):=by omega
 have B:(uB #[a,b]).size=2:=rfl;refine wy (cj4 @I @Zj @AJH @B aX) (cj F<|trivial) ⟨?_⟩;refine LA.loop (LA.round ?_);exact wz (cj5 @I @Zj @AJH @B @q aX) (cj F<|trivial);have F:=AAz 3 11 c E;have q : ¬(123:Int)=(c.toNat:Int):=by omega
 have B:(uB #[a,b,c]).size=3:=rfl;refine wy (cj4 @I @Zj @AJI @B aX) (cj F<|trivial) ⟨?_⟩;refine LA.loop (LA.round ?_);exact wz (cj5 @I @Zj @AJI @B @q aX) (cj F<|trivial);have F:=AAz 4 11 d E;have q : ¬(125:Int)=(d.toNat:Int):=by omega
 have B:(uB #[a,b,c,d]).size=4:=rfl;refine wy (cj4 @I @Zj @AJJ @B aX) (cj F<|trivial) ⟨?_⟩;refine LA.loop (LA.round ?_);exact wz (cj5 @I @Zj @AJJ @B @q aX) (cj F<|trivial)
theorem ATW (w:World):Calls AF 371 #[.string Gf,.int .i32 65533] w λe w'=>e=.returned (.int .i64 (-1))/\Ay w w':=by
 go_enter ux,vC;go_wp2;go_loopw [5,6] (λ_ _ w'=>∃(pos:Nat),w'=w.iter Gf pos) (λ_ _ w'=>Gf.size - w'.iterPos w.heap.size)
 case atStart=>exact⟨0,rfl⟩
 case round =>
  obtain⟨pos,rfl⟩:=hrel;by_cases hp:pos<Gf.size
  . have ha:(Gf[pos]'hp).toNat<128:=AAy _ (Array.getElem_mem_toList (xs:=Gf.data) hp);obtain⟨b,hb⟩:=AI ((Gf[pos]'hp));have B : ∀ty,(Xj (.pointer (some ⟨w.heap.size,0,none⟩)) true ty).run AF (w.iter Gf pos)=.ok (.tuple #[.bool true,.int .i64 pos,.int .i32 (b.toNat:Int)]) (w.iter Gf (pos+1)):=λty=>by rw[run_next_ascii w Gf pos ty hp ha,hb]
    rw[hb]at ha;go_wp2;all_goals first
     | (exfalso;omega)
     | (refine⟨⟨pos+1,rfl⟩,?_⟩
        simp;omega)
     | trace_state
  . have B : ∀ty,(Xj (.pointer (some ⟨w.heap.size,0,none⟩)) true ty).run AF (w.iter Gf pos)=_:=λty=>run_next_end w Gf pos ty hp
    go_wp2;go_ret;exact⟨rfl,kN _ _ _⟩
theorem ATX (r:Int)(w:World)(E:128<=r)(F:r<=1114111):Calls AF 371 #[.string Gf,.int .i32 r] w λe w'=>e=.returned (.int .i64 (-1))/\Ay w w':=by
 by_cases B:r=65533;subst B;exact ATW w;cases G:validRune r with
 | false=>exact(ATT Gf r w E F B G).mono λe w' h=>⟨h.1,by rw[h.2];exact Ay.refl _⟩
 | true =>
   have wf:(Lit.int .i32 r).wf=true:=by
    have J:uK.min= -2147483648:=by decide +kernel
    have Q:uK.max=2147483647:=by decide +kernel
    simp[Lit.wf,J,Q];omega
   refine(ATV r E F B G (λ_ _=>False) w [.string Gf,.int .i32 r] (λ_ _ h=>h.elim) ?_).mono ?_;simp only[AO,CV,Ab];exact⟨_,_,rfl,⟨rfl,by rw[Zj];decide⟩,_,_,rfl,⟨rfl,wf⟩,rfl⟩;rintro e w' ⟨u,S,rfl,R,_,_,I⟩;simp only[CV,Ab]at I;exact⟨by rw[I.1],R⟩
theorem AOc (r:Int)(w:World)(h0:128<=r)(h1:r<=1114111):Calls AF 351 #[.string Gf,.int .i32 r] w λe w'=>e=.returned (.bool false)/\Ay w w':=by
 go_enter func351,ntmps351;go_wp2_with (go_at_call 371;refine(ATX _ _ h0 h1).mono ?_;rintro e w' ⟨rfl,hk⟩)
 go_ret;exact⟨rfl,hk⟩
def Qj (b:UInt8):Bool:=Gf.data.toList.contains b
def Nh (s:ByteArray):Bool:=s.data.toList.all Qj && decide (s.size=2)
def SU (s:ByteArray)(pos:Nat):Bool:=(s.data.toList.drop pos).all Qj
theorem AXm {pos:Nat}(h : ¬pos<s.size):SU s pos=true:=by
 unfold SU;rw[FA (by simpa using h)];rfl
theorem AXn {pos:Nat}(h:pos<s.size):SU s pos=(Qj (s[pos]'h) && SU s (pos+1)):=by
 unfold SU;have B:pos<s.data.toList.length:=by simpa using h
 rw[D5 B,Ep];rfl
theorem AJG (h:SU s 0=false):Nh s=false:=by
 unfold SU at h;rw[B9]at h;unfold Nh;rw[h,D4]
theorem AVr (h:SU s 0=true):Nh s=decide (s.size=2):=by
 unfold SU at h;rw[B9]at h;unfold Nh;rw[h,Cd]
theorem AHt : ∀(l:List UInt8) (c:UInt8),0<=EF l c↔c∈l
 | [],c=>by simp[EF]
 | x::l,c=>by
   have ih:=AHt l c;have E:=Lib.indexByte_ge l c;by_cases h:x=c;subst h;simp[EF];have B : ¬c=x:=λe=>h e.symm
   rw[Cf,or_iff_right B,<-ih];simp only[EF,beq_iff_eq,h,if_false];split<;>omega
theorem ATR (l:List UInt8)(c:UInt8):decide (0<=EF l c)=l.contains c:=by
 rw[Oj,decide_eq_true_iff,AHt,List.contains_iff_mem]
theorem AVs {b:UInt8}(h:Qj b=true):b.toNat<128:=AAy b (by simpa [Qj]using h)
theorem decode_le (s:ByteArray)(i:Nat):(g9 s i).1<=1114111:=by
 unfold g9;dsimp only;repeat' split
 all_goals first
  | (simp only[Utf8.runeError];omega)
  | (rename_i h;simp[Utf8.valid]at h ⊢;omega)
  | ((try simp only[]);omega)
theorem AVu (s:ByteArray)(w:World):Calls AF 316 #[.string s] w λe w'=>e=.returned (.bool (Nh s))/\Ay w w':=by
 go_enter func316,ntmps316;go_wp2;go_loopw [2,4] (λr c w'=>∃(pos:Nat),w'=w.iter s pos/\r=.bool false/\SU s pos=SU s 0) (λ_ _ w'=>s.size - w'.iterPos w.heap.size)
 case atStart=>exact⟨0,rfl,rfl,rfl⟩
 case round =>
  obtain⟨pos,rfl,rfl,hc⟩:=hrel;by_cases hp:pos<s.size
  . obtain⟨b,hb⟩:=AI ((s[pos]'hp));have hst:=AXn hp;rw[hb]at hst;by_cases ha:b.toNat<128
    . have G : ∀ty,(Xj (.pointer (some ⟨w.heap.size,0,none⟩)) true ty).run AF (w.iter s pos)=.ok (.tuple #[.bool true,.int .i64 pos,.int .i32 (b.toNat:Int)]) (w.iter s (pos+1)):=λty=>by rw[run_next_ascii w s pos ty hp (by rw[hb];exact ha),hb]
      have E:=λW=>AOb Gf b.toNat W (by omega) (by omega)
      rw[ALn,ATR]at E;cases B:Qj b with
      | true =>
        have F : ∀W:World,Calls AF 351 #[.string Gf,.int .i32 b.toNat] W λe w'=>e=.returned (.bool true)/\w'=W:=λW=>(E W).mono λe w' h=>⟨by rw[h.1];exact congrArg _ (congrArg _ B),h.2⟩
        go_wp2_with (go_at_call 351;refine(F _).mono ?_;rintro e w' ⟨rfl,rfl⟩)
        rw[B,Cd]at hst;exact⟨⟨pos+1,rfl,rfl,hst.symm.trans hc⟩,by simp;omega⟩
      | false =>
        have F : ∀W:World,Calls AF 351 #[.string Gf,.int .i32 b.toNat] W λe w'=>e=.returned (.bool false)/\w'=W:=λW=>(E W).mono λe w' h=>⟨by rw[h.1];exact congrArg _ (congrArg _ B),h.2⟩
        go_wp2_with (go_at_call 351;refine(F _).mono ?_;rintro e w' ⟨rfl,rfl⟩)
        go_ret;rw[B,D4]at hst;rw[AJG (hc.symm.trans hst)];exact⟨rfl,kN _ _ _⟩
    . have I:=decode_high s pos hp (by rw[hb];omega);have hl:=decode_le s pos;obtain⟨D,hD⟩:=AI ((g9 s pos).1);rw[hD]at I hl;have G : ∀ty,(Xj (.pointer (some ⟨w.heap.size,0,none⟩)) true ty).run AF (w.iter s pos)=.ok (.tuple #[.bool true,.int .i64 pos,.int .i32 (D:Int)]) (w.iter s (pos+(g9 s pos).2)):=λty=>by rw[run_next_any w s pos ty hp,hD]
      go_wp2_with (go_at_call 351;refine(AOc _ _ (by omega) (by omega)).mono ?_;rintro e w' ⟨rfl,hk⟩)
      go_ret;have B:Qj b=false:=by
       cases e:Qj b with
       | false=>rfl
       | true=>exact absurd (AVs e) ha
      rw[B,D4]at hst;rw[AJG (hc.symm.trans hst)];exact⟨rfl,(kN _ _ _).trans hk⟩
  . have G : ∀ty,(Xj (.pointer (some ⟨w.heap.size,0,none⟩)) true ty).run AF (w.iter s pos)=_:=λty=>run_next_end w s pos ty hp
    have ht:=AVr (hc.symm.trans (AXm hp));go_wp2;go_ret;rw[ht];refine⟨?_,kN _ _ _⟩;simp;rw[Oj];simp;omega
theorem AVt (s:ByteArray):AC AF 316 [.c (.str s)] (.c (.bool (Nh s))):=by
 intro S w us G B;simp only[AO,CV,Ab]at B;obtain⟨u,I,rfl,⟨rfl,_⟩,rfl⟩:=B;refine(AVu s w).mono ?_;rintro e J ⟨rfl,E⟩;exact⟨_,S,rfl,E,⟨λ_ _ h=>h,λb j v _ F=>E.cell F⟩,λb j h=>.inl h,by simp only[CV,Ab]⟩
def Kg (s:ByteArray)(i:Nat):ByteArray:=s.extract i (i+1)
def O5 (f:AP)(names:ByteArray)(b:AA)(p:Int):AA×Int:=
 if f.valid=false\/b.Ad=false\/Nh names=false then(AA.zero,1)
 else if p<1\/100<p then(AA.zero,2)
 else F9 [(MX f (Kg names 0) (P9 f b p) p).1,b.AS 0 0,(MX f (Kg names 1) (P9 f b p) p).1] [0,0,0]
theorem sC (h:Nh s=true):s.size=2:=by
 unfold Nh at h;simp only[Ak,decide_eq_true_eq]at h;exact h.2
theorem sB (h:Nh s=true)(i:Nat)(Q:i<2):Ck (Kg s i)=true:=by
 have R:=sC h;unfold Nh at h;simp only[Ak,decide_eq_true_eq]at h;have I : ∀b∈(Kg s i).data.toList,b∈s.data.toList:=λb E=>mem_extract E
 have F:(Kg s i).size=1:=by unfold Kg;rw[fg];omega
 have B:(Kg s i).data.toList.all Dx=true:=by
  rw[ES];intro b E;have:=ES.1 h.1 b (I b E);have J : ∀b:UInt8,Qj b=true->Dx b=true:=by
   intro b E;have G:b∈Gf.data.toList:=by simpa [Qj]using E
   have : ∀c∈Gf.data.toList,Dx c=true:=by decide
   exact this b G
  exact J b this
 unfold Ck;rw[B,F];rfl
theorem AKs (f:AP)(B:ByteArray)(E p:Int)(i:Nat)(W:i<2)(hs:B.size=2)(Q:f.Fit)(S : ∀s∈f.C5,s.sizes.length<=1000):AC AF 318 [.c (.int .i64 i),.cp f.row 0,.cp [.str B] 0,.cp [.int .i64 E] 0,.cp [.int .i64 p] 0] (Ba (MX f (Kg B i) E p)):=by
 have G:(Kg B i).size<=maxLen:=by unfold Kg;rw[fg,hs];unfold maxLen;omega
 have F:=AWl f (Kg B i) E p Q G S;have R:f.row.length=22:=by simp[AP.row,Params.list]
 have I:f.row.map V.c=f.vs:=rfl;generalize U:MX f (Kg B i) E p=Y at F ⊢;unfold Kg at F;have J:i<=1:=by omega
 simp only[Ba,As,AR]at F ⊢;refine en func318 ntmps318 ?_;exact wz (cj3 @hs @I @J results318) (cj F<|trivial)
theorem AE7 {f:AP}(J:f.valid=true){p:Int}(F:1<=p)(G:p<=100)(I:Ck name=true)(B:Int):∃L,MX f name B p=(L,0)/\L.BX/\L.cnt<=8001:=by
 rcases xJ J F G I B with ⟨_,e⟩|⟨_,S,E,_,_,_,_,e⟩
 exact⟨_,e,⟨(CI _:0<=maxLen),(CI _:0<=maxLen),trivial⟩,by simp[Bf,AA.cnt,AA.Az]⟩;exact⟨_,e,F4 _ _ E.BX,by rw[Hb];exact E.cnt⟩
theorem AV9 (f:AP)(B:ByteArray)(b:AA)(p:Int)(W:f.Fit)(S : ∀s∈f.C5,s.sizes.length<=1000)(ho:b.BX)(hc:b.cnt<=800000)(hn:B.size<=maxLen):AC AF 263 [.agg f.vs,.c (.str B),Ao b,.c (.int .i64 p)] (Ba (O5 f B b p)):=by
 have EW:=Ma f;have CA:=EL b ho (by omega);have Wm:=AVt B;have G:=AWp f b p W ho (by omega);obtain⟨N,hN⟩:=AI (P9 f b p);unfold O5;rw[hN]at G ⊢;simp only[Ba,As,AR]at CA G ⊢;refine en func263 ntmps263 ?_;have E:=(cj4 @Ba.eq_1 @As @AR.eq_1 @Fl ADN)
 repeat any_goals (first|refine Qu (.mk 6) ?_|exact Bt E|refine De E ?_|refine BV E (EW) ?_|refine BV E (CA) ?_|refine BV E (Wm) ?_|refine BV E (G) ?_|refine DI E ?_|((first|refine JC E ?_ ?_|refine JE E ?_ ?_|refine JD E ?_ ?_|refine JY E ?_ ?_)<;>intro h<;>try (exfalso;first|omega|contradiction)))
 have z:f.valid=true:=‹_›;have D7:b.Ad=true:=‹_›;have J:Nh B=true:=‹_›;have p1:1<=p:=by omega
 have p2:p<=100:=by omega
 rw[if_neg (by simp[z,D7,J]),if_neg (by omega)];obtain⟨L,hL,l1,l2⟩:=AE7 z p1 p2 (sB J 0 (by omega)) N;obtain⟨R,hR,r1,r2⟩:=AE7 z p1 p2 (sB J 1 (by omega)) N;have U:=AKs f B N p 0 (by omega) (sC J) W S;have I:=AKs f B N p 1 (by omega) (sC J) W S;have Q:=kx [L,b.AS 0 0,R] [0,0,0] ⟨l1,F4 _ _ ho,r1,trivial⟩ (by simp only[AA.Az,Hb];omega) (by simp) (by simp);have F:=Gu b 0 0 (by have:=GD D7;cases b;simp only[AA.Fq]at this;exact this.1);rw[hL]at U ⊢;rw[hR]at I ⊢;obtain⟨Y,hY⟩:=AI (F9 [L,b.AS 0 0,R] [0,0,0]);simp only[hY]at Q ⊢;generalize hA:b.AS 0 0=A at Q F;simp only[Ba,As,AR,AA.AG,AV,Ap,BB]at U I Q F ⊢;refine Cn 0 ?_;refine Cn 1 ?_;refine Cn 3 ?_;refine Cn 5 ?_;refine wu (.mk 13) ADN (cj2 U I trivial) ⟨?_⟩;refine AW.Lm Fz (.inl rfl) ?_;refine TW.take 5 (Es (by simp;first|exact rfl|exact⟨rfl,rfl⟩|exact⟨rfl,rfl,rfl⟩) ?_);refine BZ (F) func71 ?_;refine HI ?_;simp only[CU,B9];refine TW.ub ⟨.Bg [[.int .i64 0],[.int .i64 0],[.int .i64 0]],none,none⟩ rfl (λ_ _ h=>by cases h) ?_ ?_;intro S0 w0 x a w H g q _;have h3:CV x w (.c (.int .i64 3)) (a.eval (.const (.int .i64 3))):=by
  have:=q (.const (.int .i64 3)) (by simp[Bl]);simpa [ev]using this
 have ht:Dk AF 39=some (3,1,8):=by simp
 have S:C2 AF 3=some [.c (.int .i64 0)]:=by simp
 exact AIy g rfl ht h3 h3 S rfl (by omega) (by omega) (by omega);simp only[St.step,St.put,Bk,Ai,Ag];refine TW.take 6 ?_;simp only[DP,List.take_nil,ET];refine BZ (Q) func77 ?_;refine HI (TW.nil ⟨by kernel_rfl,?_⟩);exact wz (cj @Ba.eq_1<|ADN) trivial
def T1 (q v:Int):Int->List Int->List Int
 | _,[]=>[]
 | p,c::l=>Qt q p.toNat c.toNat v::T1 q v c l
def CC (q v:Int):List Int->List Int
 | []=>[]
 | c::l=>0::T1 q v c l
def K6 (AL:Nat):Nat->Int->List AA->Int
 | _,w,[]=>w
 | i,w,b::l=>K6 AL (i+1) (if i % AL=0 then mx w b.w else w) l
def Lh (AL:Nat)(cells:List AA)(c:Nat):Int:=K6 AL 0 0 (cells.drop c)
def MW (q:Int)(row:List AA):Int:=row.foldl (λh b=>mx h b.h) (AU q 70)
def N1 (q:Int)(row:List AA):Int:=row.foldl (λh b=>mx h b.d) (AU q 30)
def Ha (AL:Nat)(cells:List AA)(r:Nat):List AA:=(cells.drop (r*AL)).take AL
def Ig (q:Int)(AL:Nat)(cells:List AA):Nat->Int
 | 0=>0
 | c+1=>Ig q AL cells c+Lh AL cells c+q
def oh (q:Int)(AL:Nat)(cells:List AA)(r:Nat):Int:=MW q (Ha AL cells r)+N1 q (Ha AL cells r)
def NI (q:Int)(AL:Nat)(cells:List AA):Nat->Int
 | 0=>0
 | r+1=>NI q AL cells r+oh q AL cells r
def N3 (q:Int)(AL:Nat)(cells:List AA)(r:Nat):Int:=NI q AL cells r+(r:Int)*AU q 20
def Oy (q:Int)(AL:Nat)(cells:List AA)(AG:Nat):Int:=((AG:Int) - 1)*AU q 20+NI q AL cells AG
def wN (q:Int)(AL:Nat)(cells:List AA)(top:Int)(i:Nat)(b:AA):AA:=
 b.AS (Ig q AL cells (i % AL)+Bm (Lh AL cells (i % AL) - b.w)) (top - N3 q AL cells (i / AL) - MW q (Ha AL cells (i / AL)))
def Ox (q:Int)(AL:Nat)(cells:List AA)(top:Int):Nat->List AA->List AA
 | _,[]=>[]
 | i,b::l=>wN q AL cells top i b::Ox q AL cells top (i+1) l
def oe (q ax:Int)(AL:Nat)(cells:List AA):AA:=
 Bf (Ig q AL cells (AL - 1)+Lh AL cells (AL - 1)) (ax+Bm (Oy q AL cells (cells.length / AL))) (Oy q AL cells (cells.length / AL) - (ax+Bm (Oy q AL cells (cells.length / AL))))
  (Ox q AL cells (ax+Bm (Oy q AL cells (cells.length / AL))) 0 cells)
def N2 (f:AP)(s:Aa)(AL:Nat)(cells:List AA):AA×Int:=
 if An (Oy (AU f.params.Al (BS f.params s)) AL cells (cells.length / AL))=false then(AA.zero,6)
 else C8 (oe (AU f.params.Al (BS f.params s)) (AU f.params.FD (BS f.params s)) AL cells)
structure Af where
 f:AP
 d:List En
def Bj (r:AA×Int):Option AA:=if r.2=0 then some r.1 else none
def Af.sz (x:Af)(s:Aa):Int:=BS x.f.params s
def Af.Al (x:Af)(s:Aa):Int:=AU x.f.params.Al (x.sz s)
def Af.gl (x:Af)(s:Aa)(name:ByteArray):AA:=(DB x.f name (x.sz s)).1
def Af.RW (x:Af)(s:Aa)(c:UInt8):AA:=if c=32 then Bf (AU (x.Al s) 25) 0 0 []else x.gl s ⟨#[c]⟩
def Af.Uc (x:Af)(s:Aa)(t:ByteArray):List AA:=t.data.toList.map (x.RW s)
def Af.txt (x:Af)(s:Aa)(t:ByteArray):Option AA:=Bj (F9 (x.Uc s t) (Aq t.size 0))
def Af.Mw (x:Af)(s:Aa)(t:ByteArray):Choice:=
 match x.f.I8 t with
 | none=>⟨t,0⟩
 | some st=>⟨st.sizes.getD (if s.By=0/\2<=st.sizes.length then 1 else 0) ⟨#[]⟩,0⟩
def Af.VI (x:Af)(s:Aa)(t:ByteArray):Option AA:=
 match Bj (KS (x.gl s (x.Mw s t).Ln) (AU x.f.params.FD (x.sz s)))with
 | none=>none
 | some b=>Bj (F9 [b] [0])
def Af.sym (x:Af)(s:Aa)(t:ByteArray):Option AA:=
 if (He x.d t).cls=1/\(He x.d t).str=true then x.VI s t
 else if t.size=1\/(x.f.find t).isSome=true then some (x.gl s t)
 else x.txt s t
def PZ (x:Af)(s:Aa)(base:Nd):Bool:=
 match base.AE with
 | [i]=>decide (s.By=0) && (decide (i.kind=2) && (He x.d i.text).dW)
 | _=>false
def AA.cB (b:AA):AA:={ b with w:=0,h:=0,d:=0 }
def Ue (AE:List Nd)(b:AA):AA:=if (AE.getD 0 ⟨0,⟨#[]⟩,0,[]⟩).AE=[]then b.cB else b
def Xb (k:Int)(l:List AA):List AA:=if k=8 then []else [l.getD 1 AA.zero]
def Xc (k:Int)(l:List AA):List AA:=if k=7 then []else [l.getD (l.length - 1) AA.zero]
def Ji (x:Af)(s:Aa)(k:Int)(t:ByteArray)(c:Int)(AE:List Nd)(l:List AA):Option AA:=
 if k=2 then x.sym s t
 else if k=3\/k=4 then x.txt s t
 else if k=5 then Bj (C8 (WO x.f s (l.getD 0 AA.zero) (l.getD 1 AA.zero)))
 else if k=6 then Bj (C8 (Qp x.f s (l.getD 1 AA.zero) [Ue AE (l.getD 0 AA.zero)]))
 else if k=10 then Bj (C8 (al x.f s t (l.getD 0 AA.zero) (x.gl s t)))
 else if k=11 then Bj (O5 x.f t (l.getD 0 AA.zero) (x.sz s))
 else if k=12 then Bj (N2 x.f s c.toNat l)
 else if PZ x s (AE.getD 0 ⟨0,⟨#[]⟩,0,[]⟩)=true then Bj (C8 (OP x.f s (l.getD 0 AA.zero) (Xb k l) (Xc k l)))
 else Bj (C8 (Oc x.f s (l.getD 0 AA.zero) (Xb k l) (Xc k l)))
def Af.CC (x:Af)(s:Aa)(AE:List Nd):List Int:=Go.Proofs.YtlpomcliejmedaaGreat.CC (x.Al s) s.By (I6 (JP x.d AE))
def Af.empty (x:Af)(s:Aa)(src:List Int):AA:=(Bf (if src=[]then 0 else AU (x.Al s) 50) (AU x.f.params.Gj (x.sz s)) 0 []).mark 1 src
mutual
def GU (x:Af)(s:Aa)(src:List Int):Nd->Option AA
 | ⟨_,_,_,AE⟩ =>
   if AE=[]then some (x.empty s src)
   else match Kb x s src 0 AE with
    | none=>none
    | some l=>match Bj (F9 l (x.CC s AE))with
      | none=>none
      | some b=>some (b.mark 1 src)
def Kb (x:Af)(s:Aa)(src:List Int)(i:Nat):List Nd->Option (List AA)
 | []=>some []
 | n::l=>match Fw x s (src++[(i:Int)]) n with
   | none=>none
   | some b=>match Kb x s src (i+1) l with
     | none=>none
     | some r=>some (b::r)
def Fw (x:Af)(s:Aa)(src:List Int):Nd->Option AA
 | ⟨k,t,c,AE⟩=>match Kh x s src k 0 AE with
   | none=>none
   | some l=>match Ji x s k t c AE l with
     | none=>none
     | some b=>some (b.mark 2 src)
def Kh (x:Af)(s:Aa)(src:List Int)(k:Int)(i:Nat):List Nd->Option (List AA)
 | []=>some []
 | n::l=>match GU x (GB k i s) (src++[(i:Int)]) n with
   | none=>none
   | some b=>match Kh x s src k (i+1) l with
     | none=>none
     | some r=>some (b::r)
end
theorem AQ.AVk {f:FuncId}{args:List V}{m:Nat}{ι:Type}{R:ι->Obj->Prop}{R':Obj->Prop}{out:Out}(h : ∀i,AQ P f args m (R i) R' out):AQ P f args m (λB=>∃i,R i B) R' out:=λS w us B E F G I J=>let ⟨i,Q⟩:=I;h i S w us B E F G Q J
def ADf (f:AP)(e:MapEntry):Prop:=∃(s:ByteArray) (n:Int),e.key=.agg #[.string s,.int .i64 n]/\∀x w,CV x w (Ao (DB f s n).1) e.val
def P0 (f:AP)(M:ByteArray->Int->Bool)(ob:Obj):Prop:=∃es cl,ob=.map es cl/\(∀e∈es.toList,ADf f e)/\∀s n,M s n=true↔∃e∈es.toList,e.key=.agg #[.string s,.int .i64 n]
def BM (f:AP)(ob:Obj):Prop:=∃M,P0 f M ob
def fP (M:ByteArray->Int->Bool)(s:ByteArray)(n:Int):ByteArray->Int->Bool:=λs' n'=>M s' n' || (decide (s'=s) && decide (n'=n))
theorem AN8 {s s':ByteArray}(h:s≠s'):(s==s')=false:=by
 cases B:(s==s')with
 | false=>rfl
 | true=>exact absurd ((MapKept.bytes_beq _ _).1 B) h
theorem geq (s s':ByteArray)(n n':Int)(w:World):(Op.equal 290 (.agg #[.string s,.int .i64 n]) (.agg #[.string s',.int .i64 n'])).run AF w=.ok (decide (s=s') && decide (n=n')) w:=by
 have e:Op.equal 290 (.agg #[.string s,.int .i64 n]) (.agg #[.string s',.int .i64 n'])=Op.equalIn (9999+1) 290 (.agg #[.string s,.int .i64 n]) (.agg #[.string s',.int .i64 n']):=rfl;rw[e,run_equalIn_agg _ _ _ _ _ (by kernel_rfl) (by kernel_rfl)];have h1:(s.toList==s'.toList)=decide (s=s'):=by
  rw[<-beq_toListBytes];by_cases h:s=s';subst h;simp[(MapKept.bytes_beq s s).2 rfl];simp[AN8 h,h]
 have h2:(n==n')=decide (n=n'):=by
  by_cases h:n=n'<;>simp[h]
 go_simp;by_cases h3:s=s'<;>by_cases h4:n=n'<;>simp[h3,h4]
theorem xf (f:AP)(s:ByteArray)(n:Int)(w:World):∀(es:List MapEntry) (i:Nat),(∀e∈es,ADf f e)->∃r,(fj 290 (.agg #[.string s,.int .i64 n]) es i).run AF w=.ok r w/\(r=none->∀e∈es,e.key≠.agg #[.string s,.int .i64 n])/\∀j v,r=some (j,v)->(∃e∈es,e.key=.agg #[.string s,.int .i64 n])/\∀x w,CV x w (Ao (DB f s n).1) v
 | [],i,_=>⟨none,by simp[fj],(λ_ e J=>by cases J),(λ_ _ h=>by cases h)⟩
 | e::es,i,h=>by
   obtain⟨U,S,F,hv⟩:=h e GH;obtain⟨r,i1,i2,i3⟩:=xf f s n w es (i+1) λe J=>h e (Gk _ J)
   by_cases I:s=U/\n=S;obtain⟨rfl,rfl⟩:=I;refine⟨some (i,e.val),?_,λh=>by(cases h),λj v Q=>?_⟩;simp[fj,F,geq];cases Q;exact⟨⟨e,GH,F⟩,hv⟩;have q:(decide (s=U) && decide (n=S))=false:=by
    by_cases a:s=U;have b:n≠S:=λb=>I ⟨a,b⟩
    simp[b];simp[a]
   refine⟨r,?_,λz G B=>?_,λj v Q=>?_⟩;simp only[fj,F,Sem.run_bind,geq,q];simpa using i1;rcases Cf.1 B with rfl|B
   rw[F];intro E;injection E with E
   simp only[ACd,Vb,AM3,Value.int.injEq,and_true,true_and]at E;exact I ⟨E.1.symm,E.2.symm⟩;exact i2 z G B;obtain⟨⟨G,B,W⟩,R⟩:=i3 j v Q;exact⟨⟨G,Gk _ B,W⟩,R⟩
theorem AFx {n:Int}{es:List MapEntry}{r:Option (Nat×Value)}{w:World}(h:(fj 290 (.agg #[.string s,.int .i64 n]) es 0).run AF w=.ok r w):(ACk 290 (.agg #[.string s,.int .i64 n]) es).run AF w=.ok r w:=by
 cases es with
 | nil=>simpa [ACk,run_underlying ADa,Instr.findNow,fj]using h
 | cons e es=>simpa [ACk,run_underlying ADa,Instr.findNow,Instr.sameNow]using h
theorem Aa6 (x:Cx)(w:World):∃z,(zeroValue 41).run AF w=.ok z w/\CV x w (Ao AA.zero) z:=by
 refine⟨.agg #[.int .i64 0,.string ⟨#[]⟩,.int .i64 0,.int .i64 0,.int .i64 0,.int .i64 0,.int .i64 0,.int .i64 0,.slice none 0 0,.int .i64 0,.slice none 0 0],by kernel_rfl,?_⟩;have B:(Lit.int .i64 0).wf=true:=by decide +kernel
 simp only[Ao,AA.zero,AA.row,AA.AG,AV,Ap,BB,CV,AO,Ab];exact⟨_,rfl,_,_,rfl,⟨rfl,B⟩,_,_,rfl,⟨rfl,by decide +kernel⟩,_,_,rfl,⟨rfl,B⟩,_,_,rfl,⟨rfl,B⟩,_,_,rfl,⟨rfl,B⟩,_,_,rfl,⟨rfl,B⟩,_,_,rfl,⟨rfl,B⟩,_,_,rfl,⟨rfl,B⟩,_,_,rfl,⟨none,0,rfl,BN _,CI _,λh=>absurd rfl h⟩,_,_,rfl,⟨rfl,B⟩,_,_,rfl,⟨none,0,rfl,BN _,CI _,λh=>absurd rfl h⟩,rfl⟩
section
variable {S0:BF} {w0:Bs} {x:Cx} {w:World} {H:Bx} {a:Act} {o:Oper}
theorem AVK (g:Good S0 w0 x w H){y z:Operand}(ho:o.op=.lookup 219 y z true){k m:Nat}{n:Int}{f:AP}(S:CV x w (.c (.MA m)) (a.eval y))(E:CV x w (.agg [.c (.str s),.c (.int .i64 n)]) (a.eval z))(Q:H k=some (.mp (Ci m (P0 f M)))):
 BW AF o a S0 w0 x w H (.A7 [Ao (if M s n=true then(DB f s n).1 else AA.zero),.c (.bool (M s n))]) none:=by
 have E:=AFy E;simp only[CV,Ab]at S;obtain⟨_,_,_,ob,I,_,hm,es,cl,rfl,hE,U⟩:=g.ok k _ Q;rw[hm]at I;obtain⟨r,h1,h2,h3⟩:=xf f s n w es.toList 0 hE;have W:=AFx h1;obtain⟨q,Y9,IN⟩:=Aa6 x w;cases r with
 | none =>
   have F:M s n=false:=by
    cases hc:M s n with
    | false=>rfl
    | true=>obtain⟨e,J,Q⟩:=(U s n).1 hc;exact absurd Q (h2 rfl e J)
   rw[F];refine BW.pure g (u:=.tuple #[q,.bool false]) ?_ ?_;have B:(fk 219 (.map (some m)) (.agg #[.string s,.int .i64 n]) true).run AF w=.ok (.tuple #[q,.bool false]) w:=by
    simp[fk,run_underlying ADZ,ACz I,ABg,W,Y9]
   simp[execOp,ho,S,E,B];rw[if_neg (by simp)];simp only[CV,AO,Ab];exact⟨_,rfl,_,_,rfl,IN,_,_,rfl,rfl,rfl⟩
 | some p =>
   obtain⟨j,v⟩:=p;obtain⟨⟨e,J,R⟩,hv⟩:=h3 j v rfl;have G:M s n=true:=(U s n).2 ⟨e,J,R⟩;rw[G];refine BW.pure g (u:=.tuple #[v,.bool true]) ?_ ?_;have B:(fk 219 (.map (some m)) (.agg #[.string s,.int .i64 n]) true).run AF w=.ok (.tuple #[v,.bool true]) w:=by
    simp[fk,run_underlying ADZ,ACz I,ABg,W]
   simp[execOp,ho,S,E,B];rw[if_pos rfl];simp only[CV,AO,Ab];exact⟨_,rfl,_,_,rfl,hv x w,_,_,rfl,rfl,rfl⟩
theorem AVL (g:Good S0 w0 x w H){y z q:Operand}(ho:o.op=.mapUpdate 219 y z q){k m:Nat}{n:Int}{f:AP}(hy:CV x w (.c (.MA m)) (a.eval y))(hz:CV x w (.agg [.c (.str s),.c (.int .i64 n)]) (a.eval z))(hq : ∀x w,CV x w (Ao (DB f s n).1) (a.eval q))(R:M s n=false)(hk:H k=some (.mp (Ci m (P0 f M)))):
 BW AF o a S0 w0 x w H .any (some (k,.mp (Ci m (P0 f (fP M s n))))):=by
 have hz:=AFy hz;simp only[CV,Ab]at hy;obtain⟨W,h1,Q,ob,I,A2,hm,es,cl,rfl,hE,hM⟩:=g.ok k _ hk;obtain⟨r,f1,f2,f3⟩:=xf f s n w es.toList 0 hE;have qf:=AFx f1;have hr:r=none:=by
  cases r with
  | none=>rfl
  | some p =>
    obtain⟨j,v⟩:=p;have:=(hM s n).2 (f3 j v rfl).1;rw[R]at this;cases this
 subst hr;obtain⟨E,J⟩:∃E,E=Obj.map (es.push { key:=.agg #[.string s,.int .i64 n],val:=a.eval q,born:=cl }) (cl+1):=⟨_,rfl⟩
 have F:(mJ 219 (.map (some (x.loc k).b)) (.agg #[.string s,.int .i64 n]) (a.eval q)).run AF w=.ok () (w.putObj (x.loc k).b E):=by
  rw[J];simp[mJ,run_underlying ADZ,ACz I,ABg,qf,MapKept.run_setObj_map _ I];rfl
 have jT:P0 f (fP M s n) E:=by
  refine⟨_,_,J,λe B=>?_,λs' n'=>?_⟩;simp only[AMP,MJ,LY]at B;rcases B with B|rfl
  exact hE e B;exact⟨s,n,rfl,hq⟩;simp only[fP,Bool.or_eq_true,Ak,decide_eq_true_eq,hM,AMP,MJ,LY];constructor;rintro (⟨e,B,h⟩|⟨rfl,rfl⟩);exact⟨e,.inl B,h⟩;exact⟨_,.inr rfl,rfl⟩;rintro ⟨e,B|rfl,h⟩;exact .inl ⟨e,B,h⟩;simp only at h;injection h with h
  simp only[ACd,Vb,AM3,Value.int.injEq,and_true,true_and]at h;exact .inr ⟨h.1.symm,h.2.symm⟩
 have G:w.grownBy (w.putObj (x.loc k).b E) (some (x.loc k).b):=grownBy_putObj' w _ _;have A0:=(Array.getElem?_eq_some_iff.1 I).1;have CT:(w.putObj (x.loc k).b E).heap[(x.loc k).b]?=some E:=World.putObj_heap_same A0;have ar:Ar x.S x.S w (w.putObj (x.loc k).b E):=⟨λ_ _ h=>h,λb j v hS U=>by
  have A1:b≠(x.loc k).b:=λe=>by
   subst e;unfold World.cell? at U;simp[I]at U
  exact(World.cell?_of_block (G.block b (g.ex b j hS) λe=>A1 (ML e))).trans U⟩
 have B:Ext x x w (w.putObj (x.loc k).b E):=⟨ar,λ_ h=>h,λ_ _=>FM.refl _⟩
 have g':=g.H5 k (.mp (Ci m (P0 f (fP M s n)))) B ⟨G.os,G.tape,G.output,G.size,λb Fc KY=>G.block b Fc λe=>KY ⟨W,Q,(ML e).symm⟩⟩ (λi=>⟨.inl,λh=>h.elim id λe=>e ▸ W⟩) (λ_ _=>rfl) (λ_=>.inl ⟨W,Q,rfl⟩) ⟨h1,Q,E,CT,(by rw[J];rfl),hm,jT⟩ (λb j h=>.inl h) (λj hx=>hx.elim);refine⟨.skip,_,x,undef,?_,.inr ⟨rfl,rfl⟩,by simp only[CV],g',B,λ_ h=>.inl h,λ_=>rfl⟩;rw[hm]at F;simp[execOp,ho,hy,hz,F,hm]
end
theorem AOg {b:AA}(B:b.AE=[])(hs:b.src=[]){x:Cx}{w:World}{u:Value}(h:CV x w (Ao b) u)(x':Cx)(w':World):CV x' w' (Ao b) u:=by
 obtain⟨E,F,G,I,J,Q,R,S,AE,o,src⟩:=b;simp only at B hs;subst B hs;simpa [Ao,AA.row,AA.AG,AV,CV,AO,Ab]using h
@[simp] theorem En.AL8 (b:En):b.vs[2]?=some (.c (.bool b.dW)):=rfl
@[simp] theorem En.AL6 (b:En)(h:2<b.vs.length):b.vs[2]'h=.c (.bool b.dW):=rfl
@[simp] theorem En.ACO (b:En):b.vs[3]?=some (.c (.bool b.str)):=rfl
@[simp] theorem En.ACI (b:En)(h:3<b.vs.length):b.vs[3]'h=.c (.bool b.str):=rfl
@[simp] theorem En.AX1 (b:En):b.row[2]?=some (.bool b.dW):=rfl
@[simp] theorem En.AX2 (b:En):b.row[3]?=some (.bool b.str):=rfl
def Cm (x:Af)(m:Nat):List C:=x.f.row++[Cc x.d,.int .i64 100,.int .i64 100,.int .i64 x.f.params.script,.int .i64 x.f.params.Qr,.MA m,.Cv,.Cv,.EV 186,.EV 187,.EV 187,.EV 188,.EV 189,.EV 190,.EV 190,.EV 190,.EV 191,.EV 192,.EV 193]
def Bb (x:Af)(m:Nat):V:=.cp (Cm x m) 0
section
variable (x:Af) (m:Nat)
@[simp] theorem AdT:(Cm x m).length=41:=rfl
@[simp] theorem AdR:(Vf V.c (Cm x m)).take 22=x.f.vs:=rfl
@[simp] theorem AdS:Vf V.c ((Cm x m).take 22)=x.f.vs:=rfl
@[simp] theorem Ac7:(Cm x m)[2]?=some (.int .i64 x.f.params.Al):=rfl
@[simp] theorem Acl (h:2<(Cm x m).length):(Cm x m)[2]'h=.int .i64 x.f.params.Al:=rfl
@[simp] theorem AdE:(Cm x m)[3]?=some (.int .i64 x.f.params.Gj):=rfl
@[simp] theorem Acs (h:3<(Cm x m).length):(Cm x m)[3]'h=.int .i64 x.f.params.Gj:=rfl
@[simp] theorem AdP:(Cm x m)[4]?=some (.int .i64 x.f.params.FD):=rfl
@[simp] theorem Ac4 (h:4<(Cm x m).length):(Cm x m)[4]'h=.int .i64 x.f.params.FD:=rfl
@[simp] theorem Ac8:(Cm x m)[22]?=some (Cc x.d):=rfl
@[simp] theorem Acm (h:22<(Cm x m).length):(Cm x m)[22]'h=Cc x.d:=rfl
@[simp] theorem Ac9:(Cm x m)[23]?=some (.int .i64 100):=rfl
@[simp] theorem Acn (h:23<(Cm x m).length):(Cm x m)[23]'h=.int .i64 100:=rfl
@[simp] theorem AdA:(Cm x m)[24]?=some (.int .i64 100):=rfl
@[simp] theorem Aco (h:24<(Cm x m).length):(Cm x m)[24]'h=.int .i64 100:=rfl
@[simp] theorem AdB:(Cm x m)[25]?=some (.int .i64 x.f.params.script):=rfl
@[simp] theorem Acp (h:25<(Cm x m).length):(Cm x m)[25]'h=.int .i64 x.f.params.script:=rfl
@[simp] theorem AdC:(Cm x m)[26]?=some (.int .i64 x.f.params.Qr):=rfl
@[simp] theorem Acq (h:26<(Cm x m).length):(Cm x m)[26]'h=.int .i64 x.f.params.Qr:=rfl
@[simp] theorem AdD:(Cm x m)[27]?=some (.MA m):=rfl
@[simp] theorem Acr (h:27<(Cm x m).length):(Cm x m)[27]'h=.MA m:=rfl
@[simp] theorem AdF:(Cm x m)[30]?=some (.EV 186):=rfl
@[simp] theorem Acu (h:30<(Cm x m).length):(Cm x m)[30]'h=.EV 186:=rfl
@[simp] theorem AdG:(Cm x m)[31]?=some (.EV 187):=rfl
@[simp] theorem Acv (h:31<(Cm x m).length):(Cm x m)[31]'h=.EV 187:=rfl
@[simp] theorem AdH:(Cm x m)[32]?=some (.EV 187):=rfl
@[simp] theorem Acw (h:32<(Cm x m).length):(Cm x m)[32]'h=.EV 187:=rfl
@[simp] theorem AdI:(Cm x m)[33]?=some (.EV 188):=rfl
@[simp] theorem Acx (h:33<(Cm x m).length):(Cm x m)[33]'h=.EV 188:=rfl
@[simp] theorem AdJ:(Cm x m)[34]?=some (.EV 189):=rfl
@[simp] theorem Acy (h:34<(Cm x m).length):(Cm x m)[34]'h=.EV 189:=rfl
@[simp] theorem AdK:(Cm x m)[35]?=some (.EV 190):=rfl
@[simp] theorem Acz (h:35<(Cm x m).length):(Cm x m)[35]'h=.EV 190:=rfl
@[simp] theorem AdL:(Cm x m)[36]?=some (.EV 190):=rfl
@[simp] theorem Ac0 (h:36<(Cm x m).length):(Cm x m)[36]'h=.EV 190:=rfl
@[simp] theorem AdM:(Cm x m)[37]?=some (.EV 190):=rfl
@[simp] theorem Ac1 (h:37<(Cm x m).length):(Cm x m)[37]'h=.EV 190:=rfl
@[simp] theorem AdN:(Cm x m)[38]?=some (.EV 191):=rfl
@[simp] theorem Ac2 (h:38<(Cm x m).length):(Cm x m)[38]'h=.EV 191:=rfl
@[simp] theorem AdO:(Cm x m)[39]?=some (.EV 192):=rfl
@[simp] theorem Ac3 (h:39<(Cm x m).length):(Cm x m)[39]'h=.EV 192:=rfl
@[simp] theorem AdQ:(Cm x m)[40]?=some (.EV 193):=rfl
@[simp] theorem Ac5 (h:40<(Cm x m).length):(Cm x m)[40]'h=.EV 193:=rfl
end
theorem kW {s:Aa}(h:s.ok=true):s.By=0\/s.By=1\/s.By=2\/s.By=3:=by
 simp only[Aa.ok,Ak,decide_eq_true_eq]at h;omega
theorem tE (x:Af)(m:Nat){s:Aa}(h:s.ok=true):(Cm x m)[23+s.By.toNat]?=some (.int .i64 (x.sz s)):=by
 obtain⟨l,c⟩:=s;rcases kW h with B|B|B|B
 all_goals
  simp only at B;subst B;simp[Af.sz,BS,h]
structure Af.Ok (x:Af):Prop where
 fit:x.f.Fit
 val:x.f.valid=true
 dl:x.d.length<=300
 dv:Ll x.d=true
theorem tC (x:Af)(m:Nat)(n:Int)(s:Aa)(hs:s.ok=true):AC AF 238 [Bb x m,.c (.int .i64 n),Aj s] (.c (.int .i64 (AU n (x.sz s)))):=by
 have B:=tE x m hs;have G:=kW hs;have E:0<=s.By:=by omega
 have F:s.By<4:=by omega
 unfold Bb Aj;refine en func238 ntmps238 ?_;exact wz (cj3 @B @E @F results238) (cj (EI n (x.sz s))<|trivial)
def ko:List PanicEntry:=[⟨.iface 42 (.int .i64 6),false,false⟩]
def BP:Option AA->Out
 | some b=>.ret (Ao b)
 | none=>.HB ko
section
variable {P:Program} {K:Exit->St->Prop} {ops:List Oper} {s:St}
theorem SW.rp {B F:Oper}{ty:TypeId}{y:Operand}{d:Nat}{k k0:IntKind}{n:Int}(hty:P.underlying ty=some (.int k0))(U:B.op=.makeInterface ty y)(q:B.dst=some d)(W:F.op=.panic (.tmp d))(z:BQ ops s.t B.guard=some true)(zK:F.guard=none)(hy:ev s.t y=.c (.int k n))(Ls:d<s.t.length)(h:K (.panic [⟨.iface ty (.int k n),false,false⟩]) (s.put (some d) .any)):SW P ops K (B::F::r) s:=λS0 w0 x a w E=>by
 have hw:FB B (yielded ops.toArray a.tmps)=true:=by
  have:=KR (o:=B) E.tm (IF (ops:=ops) (K1:=True) (K2:=False) z trivial);exact Kn λh=>this.2 h
 have J:=CW E.tm y;rw[hy]at J;simp only[CV,Ab]at J;have G:(execOp a.eval B).run P w=.ok (.value (.iface ty (.int k n))) w:=by simp[execOp,U,J.1,Instr.makeInterface,run_underlying hty]
 have S:Bo S0 w0 x (s.put (some d) .any) (a.put (some d) (.iface ty (.int k n))) w:=by
  have:=Bo.put E.tm E.df (Ext.refl x w) E.good (v:=.any) (u:=.iface ty (.int k n)) (by simp only[CV]) (some d);exact this
 have Q:(a.put (some d) (.iface ty (.int k n))).eval (.tmp d)=.iface ty (.int k n):=by
  have hl:d<a.tmps.size:=by have:=E.tm.len;simp at this;omega
  simp[Act.put,Act.eval,hl]
 have I:(execOp (a.put (some d) (.iface ty (.int k n))).eval F).run P w=.halt (.panic (.iface ty (.int k n))) w:=by simp[execOp,W,Q,Instr.panic,goPanic,Sem.run,Result.andThen]
 have R:FB F (yielded ops.toArray (a.put (some d) (.iface ty (.int k n))).tmps)=true:=by simp[FB,zK]
 unfold wpList;rw[if_pos hw];refine .inl ?_;unfold Er;rw[G];show wpList P ops.toArray _ (F::r) (a.put B.dst _) w;rw[q];unfold wpList;rw[if_pos R];refine .inl ?_;unfold Er;rw[I];exact⟨x,_,S,h⟩
end
theorem Jl :AC AF 240 [Ao b,AR 0] (Ao b):=by
 unfold AR;simp only[As];refine en func240 ntmps240 ?_;exact wz results240 trivial
theorem LG (R:Obj->Prop):AQ AF 240 [Ao b,AR 6] m R R (.HB ko):=by
 unfold AR;simp only[As];refine CH func240 ntmps240 ?_;refine qu (.mk 2) results240 trivial ⟨?_⟩;refine AW.DA ?_;refine CY (.mk 1) trivial ?_;exact SW.rp (hty:=underlying42) rfl rfl rfl rfl rfl rfl (F2 rfl) ⟨rfl,rfl⟩
theorem ABr (x:Af)(m:Nat)(n:Nd)(s:Aa)(W:x.Ok):AC AF 259 [Bb x m,Am n,Aj s] (.c (.bool (PZ x s n))):=by
 have U:x.d.length<=1000000:=by have:=W.dl;omega
 obtain⟨k,t,c,AE⟩:=n;unfold Bb Aj;simp only[Am,Nd.vs,Nd.row,Ap,BB];by_cases B:s.By=0;by_cases F:AE.length=1;match AE,F with
 | [⟨k',G,J,E⟩],_ =>
   simp only[Nd.AG,Nd.row];by_cases I:k'=2;subst I;have Q:=AA8 x.d G U;have e:PZ x s ⟨k,t,c,[⟨2,G,J,E⟩]⟩=(He x.d G).dW:=by simp[PZ,B]
   rw[e];unfold WH at Q;refine en um vA ?_;exact wz (cj @B<|vP) (cj Q<|trivial);have e:PZ x s ⟨k,t,c,[⟨k',G,J,E⟩]⟩=false:=by simp[PZ,I]
   rw[e];refine en um vA ?_;exact wz (cj2 @B @I vP) trivial
 have e:PZ x s ⟨k,t,c,AE⟩=false:=by
  unfold PZ;split;rename_i R;simp only at R;rw[R]at F;exact absurd rfl F;rfl
 rw[e];have S:=Pc AE;generalize q:Nd.AG AE=z at S ⊢;rw[<-S]at F;refine en um vA ?_;exact wz (cj2 @B @F vP) trivial;have e:PZ x s ⟨k,t,c,AE⟩=false:=by
  unfold PZ;split<;>simp[B]
 rw[e];refine en um vA ?_;exact wz (cj @B<|vP) trivial
theorem APp (x:Af)(s:Aa)(name:ByteArray):(x.gl s name).AE=[]/\(x.gl s name).src=[]:=by
 unfold Af.gl DB;split<;>exact⟨rfl,rfl⟩
theorem AI0 {S0:BF}{w0:Bs}{x:Cx}{w:World}{H:Bx}{a:Act}(g:Good S0 w0 x w H){y z:Operand}(ho:o.op=.lookup 219 y z true){k m:Nat}{n:Int}{f:AP}{v:V}(E : .A7 [Ao (if M s n=true then(DB f s n).1 else AA.zero),.c (.bool (M s n))]=v)(F:CV x w (.c (.MA m)) (a.eval y))(G:CV x w (.agg [.c (.str s),.c (.int .i64 n)]) (a.eval z))(B:H k=some (.mp (Ci m (P0 f M)))):
 BW AF o a S0 w0 x w H v none:=E ▸ AVK g ho F G B
theorem AKp (x:Af)(m:Nat)(name:ByteArray)(s:Aa)(I:x.Ok)(hs:s.ok=true):AQ AF 254 [Bb x m,.c (.str name),Aj s] m (BM x.f) (BM x.f) (.ret (Ao (x.gl s name))):=by
 have q:=tE x m hs;have hl:=kW hs;have z:0<=s.By:=by omega
 have k1:s.By<4:=by omega
 obtain⟨p1,p2⟩:=HE I.val hs;have G:=pn x.f name (x.sz s) I.fit.1;rw[show QC x.f name (x.sz s)=(x.gl s name,0)from by
  have:=(Pk I.val p1 p2 name).1;unfold QC Af.gl Af.sz;rw[if_pos I.val,this]]at G
 have J:=Jl (x.gl s name);obtain⟨U,W⟩:=APp x s name;have Q:(DB x.f name (x.sz s)).1=x.gl s name:=rfl;generalize hB:x.gl s name=B at U W G J Q ⊢;simp only[Ba,AR,As]at G J ⊢;refine AQ.AVk λM=>?_
 cases S:M name (x.sz s)with
 | true =>
   refine AQ.mono (R:=P0 x.f M) (R':=P0 x.f M) ?_ (λ_ h=>h) λob h=>⟨M,h⟩
   unfold Bb Aj;refine CH func254 ntmps254 ?_;refine qu (.mk 2) (cj3 @q @z @k1 ng) trivial ⟨?_⟩;refine AW.Lm Fz (.inl rfl) ?_;refine TW.take 5 (Es (by simp;first|exact rfl|exact⟨rfl,rfl⟩|exact⟨rfl,rfl,rfl⟩) (HI ?_));simp only[CU,B9];refine TW.op ⟨.A7 [.agg B.vs,.c (.bool true)],none,some 0⟩ rfl (λ_ _ h=>by cases h) ?_ ?_;intro S0 w0 y w a H g E F;exact AI0 (M:=M) (s:=name) (n:=x.sz s) (f:=x.f) g rfl (by rw[S,if_pos rfl,Q];rfl) (E (.tmp 23) (by simp[Bl])) (E (.tmp 24) (by simp[Bl])) (F 0 rfl);simp only[St.step,St.put,Z7,Ai,Ag];refine TW.take 6 (Es (by simp;first|exact rfl|exact⟨rfl,rfl⟩|exact⟨rfl,rfl,rfl⟩) (HI (TW.nil ⟨by kernel_rfl,?_⟩)));exact qz ng trivial
 | false =>
   refine AQ.mono (R:=P0 x.f M) (R':=P0 x.f (fP M name (x.sz s))) ?_ (λ_ h=>h) λob h=>⟨_,h⟩
   unfold Bb Aj;refine CH func254 ntmps254 ?_;refine qu (.mk 2) (cj3 @q @z @k1 ng) trivial ⟨?_⟩;refine AW.Lm Fz (.inl rfl) ?_;refine TW.take 5 (Es (by simp;first|exact rfl|exact⟨rfl,rfl⟩|exact⟨rfl,rfl,rfl⟩) (HI ?_));simp only[CU,B9];refine TW.op ⟨.A7 [.agg AA.zero.vs,.c (.bool false)],none,some 0⟩ rfl (λ_ _ h=>by cases h) ?_ ?_;intro S0 w0 y w a H g E F;exact AI0 (M:=M) (s:=name) (n:=x.sz s) (f:=x.f) g rfl (by rw[S,if_neg (by simp)];rfl) (E (.tmp 23) (by simp[Bl])) (E (.tmp 24) (by simp[Bl])) (F 0 rfl);simp only[St.step,St.put,Z7,Ai,Ag];refine TW.take 6 (Es (by simp;first|exact rfl|exact⟨rfl,rfl⟩|exact⟨rfl,rfl,rfl⟩) (HI (TW.nil ⟨by kernel_rfl,?_⟩)));refine qu (.mk 5) ng (cj2 G J trivial) ⟨?_⟩;refine AW.Lm Fz (.inl rfl) ?_;refine TW.take 6 (Es (by simp;first|exact rfl|exact⟨rfl,rfl⟩|exact⟨rfl,rfl,rfl⟩) (HI ?_));simp only[CU,B9];refine TW.op ⟨.any,some (0,.mp (Ci m (P0 x.f (fP M name (x.sz s))))),some 0⟩ rfl (λk ob e=>by cases e;exact CI _) ?_ ?_;intro S0 w0 y w a H g E F;have hb:=E (.tmp 46) (by simp[Bl]);refine AVL (M:=M) (s:=name) (n:=x.sz s) (f:=x.f) g rfl (E (.tmp 44) (by simp[Bl])) (E (.tmp 45) (by simp[Bl])) ?_ S (F 0 rfl);intro y' w';rw[Q];exact AOg U W (b:=B) hb y' w';simp only[St.step,St.put,Ai,Ag,ALo];refine TW.nil ⟨by kernel_rfl,?_⟩;exact qz ng trivial
structure Xt (b:AA):Prop where
 v:b.Ad=true
 o:b.BX
 w:0<=b.w
theorem qA {x:Af}(B:x.Ok){s:Aa}(hs:s.ok=true)(F:Ck name=true):Xt (x.gl s name)/\(x.gl s name).cnt=1:=by
 obtain⟨G,I⟩:=HE B.val hs;have E:name.size<=16:=by simp only[Ck,Ak,decide_eq_true_eq]at F;exact F.2.2
 obtain⟨J,U,R⟩:=lQ B.val G I E;obtain⟨Q,S⟩:=ABp B.val G I F (y:=0) (by decide);rw[AKv B.val G I name]at Q S;have e:x.gl s name=(DB x.f name (BS x.f.params s)).1:=rfl;rw[e];exact⟨⟨ic Q (by omega) (by omega),J.BX,J.w1⟩,R⟩
theorem AUQ {w h:Int}(F:An w=true)(hh:An h=true)(E:0<=w):Xt (Bf w h 0 [])/\(Bf w h 0 []).cnt=1:=by
 refine⟨⟨ic ?_ (by simp[Bf,AA.cnt,AA.Az]) (by simp[Bf,AA.nest,AA.Hk]),⟨(CI _:0<=maxLen),(CI _:0<=maxLen),trivial⟩,E⟩,rfl⟩;have B:An 0=true:=by decide
 simp[AA.D8,AA.FU,AA.Cl,AA.lens,AA.Fi,AA.Js,Bf,F,hh,B,HT,I7]
theorem VN {x:Af}(B:x.Ok){s:Aa}(hs:s.ok=true):0<=x.Al s:=by
 obtain⟨E,F⟩:=HE B.val hs;refine ew ?_ (by unfold Af.sz;omega);have:=B.val;simp[AP.valid,Qk,Params.lens,Params.SK,DX]at this;omega
theorem AOL {x:Af}(B:x.Ok){s:Aa}(hs:s.ok=true){c:UInt8}(F:Dx c=true):Xt (x.RW s c)/\(x.RW s c).cnt=1:=by
 unfold Af.RW;split;have E:=VN B hs;have G:=DM (p:=25) (x.Al s) (by omega) (by omega);refine AUQ ?_ (by decide) (ew E (by omega));simp[An];omega;refine qA B hs ?_;simp[Ck,F,ByteArray.size]
def Ht (l:List AA)(k:Nat):List V:=((l.take k).map AA.vs).flatten++(Aq (l.length - k) BT).flatten
theorem iY {n:Nat}(h:n=l.length):(Aq n BT).flatten=Ht l 0:=by subst h;simp[Ht]
theorem Xf :b.vs.length=11:=by unfold AA.vs;rw[Ch,Nk]
theorem iZ (h:k<=l.length):(Ht l k).length=l.length*11:=by
 unfold Ht;rw[Cp,K7 (es:=11),K7 (es:=11)];simp only[Ch,Fa,H6,Vi h,<-Gz];congr 1
 omega;intro r B;rw[UA B];rfl;intro r B;obtain⟨q,_,rfl⟩:=Da.1 B;exact Xf q
theorem ia (h:k<l.length):E8 (Ht l k) (k*11) (l[k]).vs=Ht l (k+1):=by
 have B:(((l.take k).map AA.vs).flatten).length=k*11:=by
  rw[K7 (es:=11)];simp only[Ch,Fa,Vi (Nat.le_of_lt h)];intro r E;obtain⟨q,_,rfl⟩:=Da.1 E;exact Xf q
 have e:l.length - k=(l.length - (k+1))+1:=by omega
 unfold Ht;rw[e,BY,Hp,<-GX,<-B,sK _ _ _ _ (by rw[Xf];rfl),List.take_succ_eq_append_getElem h,Fm,Vd];simp
theorem P4 (n:Nat)(l:List AA)(k:Nat):V.BI n (Ht l k)=true:=by
 rw[oy];intro v B;unfold Ht at B;rcases MJ.1 B with h|h
 obtain⟨r,E,B⟩:=gA.1 h;obtain⟨q,_,rfl⟩:=Da.1 E;obtain⟨c,_,rfl⟩:=Da.1 B;rfl;obtain⟨r,E,B⟩:=gA.1 h;rw[UA E]at B;simp only[BT,Cf,List.not_mem_nil,or_false]at B;rcases B with rfl|rfl|rfl|rfl|rfl|rfl|rfl|rfl|rfl|rfl|rfl<;>rfl
theorem lF : ∀l:List AA,AA.AG l=l.map AA.row
 | []=>rfl
 | b::l=>by simp only[AA.AG,Ap,lF l]
theorem wU :Ht l l.length=(AA.AG l).flatten.map V.c:=by
 unfold Ht;rw[List.take_length,Nat.sub_self,List.replicate_zero,RC,E5,<-WN,lF,List.map_map];rfl
theorem AEL :toCs (Ht l l.length)=some (AA.AG l).flatten:=by rw[wU,toCs_mapV]
theorem ox :Hc 11 l.length (AA.AG l).flatten=AA.AG l:=by
 have:=bZ (es:=11) (AA.AG l) (by intro r B;rw[lF]at B;obtain⟨q,_,rfl⟩:=Da.1 B;exact Nk _);rwa [show (AA.AG l).length=l.length by rw[lF,Ch]]at this
theorem AEM (row:List C)(l:List AA):V.Cs k row (Ht l l.length)=Ht l l.length:=by rw[wU,YN]
theorem SW.ub {ops:List Oper}{s:St}(v:V)(W:BQ ops s.t o.guard=some true)(U : ∀(S0:BF) (w0:Bs) (x:Cx) (a:Act) (w:World),Good S0 w0 x w (λk=>s.h[k]?)->AO x w s.t a.tmps.toList->vx P o a S0 w0 x w (λk=>s.h[k]?) v none)(h:SW P ops K r (s.step o.dst v none)):SW P ops K (o::r) s:=λS0 w0 x a w B=>by
 have z:FB o (yielded ops.toArray a.tmps)=true:=by
  have:=KR (o:=o) B.tm (IF (ops:=ops) (K1:=True) (K2:=False) W trivial);exact Kn λh=>this.2 h
 unfold wpList;rw[if_pos z];refine .inl ?_;obtain⟨nx,J,Q,u,q,R,E,F,G⟩:=U x.S (w0.re w B.good.keep.size) x a w B.good.XR B.tm;obtain⟨F,I⟩:=B.good.Sg G F;unfold Er;rw[q];rcases R with rfl|⟨rfl,rfl⟩
 exact h S0 w0 Q _ J (Bo.put B.tm (B.df.mono I) G F E o.dst);exact h S0 w0 Q _ J (Bo.put B.tm (B.df.mono I) G F E o.dst)
theorem AKh (x:Af)(m:Nat)(c:UInt8)(s:Aa)(S:x.Ok)(hs:s.ok=true):AQ AF 252 [Bb x m,.c (.str ⟨#[c]⟩),Aj s] m (BM x.f) (BM x.f) (.ret (Ao (x.RW s c))):=by
 by_cases E:c=32;subst E;have J:=tC x m x.f.params.Al s hs;have R:=EI (AU x.f.params.Al (x.sz s)) 25;have G:=My (AU (AU x.f.params.Al (x.sz s)) 25) 0 0 [] trivial (by simp[AA.Az]);have e:x.RW s 32=Bf (AU (AU x.f.params.Al (x.sz s)) 25) 0 0 []:=rfl;rw[e];obtain⟨B,Q⟩:=AI (Bf (AU (AU x.f.params.Al (x.sz s)) 25) 0 0 []);rw[Q]at G ⊢;simp only[As,AA.AG]at G ⊢;unfold Bb Aj at *
 refine CH func252 ntmps252 ?_;exact qz results252 (cj3 J R G trivial);have e:x.RW s c=x.gl s ⟨#[c]⟩:=if_neg E;have F:=AKp x m ⟨#[c]⟩ s S hs;rw[e];generalize Q:x.gl s ⟨#[c]⟩=B at F ⊢;simp only[As]at F ⊢;have I : ¬(⟨#[c]⟩:ByteArray)=⟨#[32]⟩:=by
  intro h;injection h with h
  simp only[ACd,Vb,and_true]at h;exact E h
 unfold Bb Aj at *
 refine CH func252 ntmps252 ?_;exact qz (cj @I<|results252) (cj F<|trivial)
theorem AFU (t:ByteArray)(k:Nat)(h:k<t.size):t.extract k (k+1)=⟨#[t.data.toList[k]'(by rw[FW];exact h)]⟩:=by
 have B:k<t.data.toList.length:=by rw[FW];exact h
 have e:(t.extract k (k+1)).data.toList=[t.data.toList[k]]:=by
  rw[ByteArray.data_extract,Array.toList_extract];simp only[List.extract_eq_take_drop];rw[D5 B];simp
 apply ByteArray.ext;apply Array.toList_inj.1;rw[e]
theorem AEq (x:Af)(s:Aa)(t:ByteArray):(x.Uc s t).length=t.size:=by
 unfold Af.Uc;rw[Ch,FW];rfl
theorem AEr {x:Af}(G:x.Ok){s:Aa}(hs:s.ok=true){t:ByteArray}(F:t.data.toList.all Dx=true):∀b∈x.Uc s t,Xt b/\b.cnt=1:=by
 intro b B;obtain⟨c,E,rfl⟩:=Da.1 B;exact AOL G hs (ES.1 F c E)
theorem AI7 : ∀ {l:List AA},(∀b∈l,Xt b)->AA.FY l/\l.all AA.Ad=true
 | [],_=>⟨trivial,rfl⟩
 | b::l,h=>by
   obtain⟨E,F⟩:=AI7 λc G=>h c (Gk _ G)
   have B:=h b GH;exact⟨⟨B.o,E⟩,by simp[B.v,F]⟩
theorem wx {n:Nat} : ∀ {l:List AA},(∀b∈l,b.cnt<=n)->AA.Az l<=l.length*n
 | [],_=>by simp[AA.Az]
 | b::l,h=>by
   have E:=wx λc B=>h c (Gk _ B)
   have F:=h b GH;simp only[AA.Az,BA,Gz];omega
theorem sm {AE:List AA}{sp:List Int}(B:AE.all AA.Ad=true)(E:sp.length=AE.length)(hs:sp.all An=true):F9 AE sp=((Bj (F9 AE sp)).getD AA.zero,if (Bj (F9 AE sp)).isSome=true then 0 else 6):=by
 unfold F9;rw[if_neg (by rw[B];simp),if_neg (by rw[hs];simp[E])];unfold Tk;split;simp[Bj];simp[Bj]
theorem AKi (x:Af)(m:Nat)(t:ByteArray)(s:Aa)(hx:x.Ok)(hs:s.ok=true)(z:t.data.toList.all Dx=true)(hn:t.size<=1000):AQ AF 255 [Bb x m,.c (.str t),Aj s] m (BM x.f) (BM x.f) (BP (x.txt s t)):=by
 have A5:=AEr hx hs z;obtain⟨o1,o2⟩:=AI7 λb q=>(A5 b q).1
 have E:=AEq x s t;have FX:AA.Az (x.Uc s t)<=900000:=by
  have:=wx (n:=1) λb q=>Nat.le_of_eq (A5 b q).2
  omega
 have J:=kx (x.Uc s t) (Aq t.size 0) o1 FX (by omega) (by rw[H6];omega);have Tb:=sm (sp:=Aq t.size 0) o2 (by rw[H6,E]) (by rw[ES];intro i hi;rw[UA hi];decide);have Mj:x.txt s t=Bj (F9 (x.Uc s t) (Aq t.size 0)):=rfl;rw[<-Mj]at Tb;rw[Tb]at J;obtain⟨L,hL⟩:=AI (x.Uc s t);have Ir : ∀k (h:k<t.size) (h':k<L.length),L[k]=x.RW s (t.data.toList[k]'(by rw[FW];exact h)):=by intro k h h';subst hL;simp[Af.Uc]
 rw[hL]at E J;unfold Bb Aj;refine CH func255 ntmps255 ?_;refine qy (cj @E<|gi) trivial ⟨?_⟩;have e0:=iY L E.symm;simp only[BT]at e0;rw[e0];refine lp (ι:={ k:Nat // k<=t.size }) (λk=>[(14,.c (.int .i64 (k.1:Int)))]) (λk=>[O.mp (Ci m (BM x.f)),O.box 63 [.c (.int .i64 s.By),.c (.bool s.Hd)] false,O.box 41 BT false,O.box 41 (Ht L k.1) false]) (λk=>t.size - k.1) ⟨0,CI _⟩ ?_ ?_;all_goals simp only[puts,Bw,CO,Ag,Ai]
 exact ER @BT.eq_1
 . rintro ⟨k,hk⟩;simp only at hk ⊢;by_cases F:k<t.size;have hw:AZ.wrap ((k:Int)+1)=((k+1:Nat):Int):=by rw[Ac];simp
   have OC:k<L.length:=by omega
   have R:=AKh x m (t.data.toList[k]'(by rw[FW];exact F)) s hx hs;have S:t.extract k (k+1)=⟨#[t.data.toList[k]'(by rw[FW];exact F)]⟩:=AFU t k F;have G:=ia L k OC;have Dz:k*11+11<=(Ht L k).length:=by rw[iZ _ _ (by omega)];omega
   rw[Ir k F OC]at G;obtain⟨c,hcc⟩:∃c,t.data.toList[k]'(by rw[FW];exact F)=c:=⟨_,rfl⟩
   rw[hcc]at R S G;generalize hB:x.RW s c=B at R G;unfold Bb Aj at R;simp only[As]at R;have U:k<=k+1:=Nat.le_succ k;have W:k+1<=t.size:=F;refine qy (cj7 @F @hw @S @Dz @G @U @W gi) (cj R<|trivial) ⟨?_⟩;refine⟨⟨k+1,by omega⟩,by simp only;omega,?_⟩;exact ER @BT.eq_1
   . obtain rfl:k=t.size:=by omega
     refine qu (.mk 7) gi trivial ⟨?_⟩;rw[<-E]at J ⊢;refine AW.Bi 3 rfl (AEL L) (by simp[V.Cs,V.Bi,ox];exact rfl) (by simp[O.Bi,V.Cs,V.Bi,ox,AEM,BT];exact rfl) ?_;refine AW.DA ?_;refine CY (.mk 3) trivial ?_;refine SW.ub (.Bg (Aq L.length [.int .i64 0])) rfl ?_ ?_;intro S0 w0 y w a g z;have h1:=CW z (.tmp 31);have dI:Dk AF 39=some (3,1,8):=by simp
     have A0:C2 AF 3=some [.c (.int .i64 0)]:=by simp
     exact AIy g rfl dI h1 h1 A0 rfl (by omega) (by omega) (by omega);simp only[St.step,St.put,Z7,Ai,Ag];cases hq:x.txt s t with
     | some b =>
       have Q:=Jl b;rw[hq]at J;simp only[Dm,Option.isSome_some,if_true,Ba,AR,As,AV,uR]at J Q;simp only[BP,As];refine SW.take 5 (AH.out ?_);simp only[DP,ET];have I:=(gi)
       repeat any_goals (first|refine Eo ?_|exact Bt I|refine De I ?_|refine BV I (J) ?_|refine BV I (Q) ?_|refine DI I ?_)
       simp only[CU,B9];refine SW.nil ?_;exact qz (cj2 @BP.eq_1 @BP.eq_2 gi) trivial
     | none =>
       have Q:=LG AA.zero m (BM x.f);rw[hq]at J;simp only[Option.getD_none,Option.isSome_none,Bool.false_eq_true,if_false,Ba,AR,As,AV,uR]at J Q;simp only[BP,As];refine SW.take 3 (AH.out ?_);simp only[DP,ET];have I:=(gi)
       repeat any_goals (first|refine Eo ?_|exact Bt I|refine De I ?_|refine BV I (J) ?_|refine DI I ?_)
       simp only[CU,B9];refine SW.AEd 0 Q (by kernel_rfl) (by simp[BQ]) (by simp[C7];first|exact rfl|exact⟨rfl,rfl⟩) (by simp[V.CF,V.CP]) rfl ⟨rfl,rfl⟩
section
variable {P:Program} {K:Exit->St->Prop} {ops:List Oper} {s:St}
theorem SW.eF {op:BinOp}{t S:TypeId}{j:Nat}{v:V}{b res:Bool}(ho:o.op=.binOp op t (.tmp j) (.const (.pointer none)) S)(E:op=.eql/\b=false\/op=.neq/\b=true)(G:lV P t=true)(Q:BQ ops s.t o.guard=some true)(J:Ka o.op=false)(R:s.t[j]?=some v)(I:(v=.c .XF/\res= !b)\/(∃row off,v=.cp row off)/\res=b)(h:SW P ops K r (s.step o.dst (.c (.bool res)) none)):SW P ops K (o::r) s:=by
 refine SW.op (.c (.bool res)) Q J ?_ h;intro S0 w0 x a w F;have B:=O4 F.2 R;rcases I with ⟨rfl,rfl⟩|⟨⟨row,off,rfl⟩,rfl⟩
 simp only[CV,Ab]at B;have:=AI3 F.1 ho E G B rfl;simpa using this;simp only[CV]at B;obtain⟨U,W,B,_⟩:=B;have:=AI3 F.1 ho E G B rfl;simpa using this
end
theorem Nn {b:AA}(h:b.Ad=true):b.src.length<=1000000:=by have:=GD h;cases b;simp only[AA.Fq]at this;exact this.1
def Pf:Option AA->V
 | some g=>.cp g.row 0
 | none=>.c .XF
theorem ABA :AC AF 346 [.cp b.row 0] (Pf b.simp):=by
 refine en func346 ntmps346 ?_;refine wy (cj @AR.eq_1<|Xs) trivial ⟨?_⟩;refine lp (ι:={ c:AA // c.simp=b.simp }) (λc=>[(0,.cp c.1.row 0)]) (λ_=>[]) (λc=>SizeOf.sizeOf c.1) ⟨b,rfl⟩ ?_ ?_;all_goals simp only[puts,Bw,CO,Ag,Ai]
 exact DH;rintro ⟨⟨k,n,s,w,h,d,x,y,AE,o,src⟩,hI⟩;simp only;rw[<-hI,AYe];simp only[AA.row];by_cases B:k=1;have W:k=1↔True:=iff_true_intro B;rw[if_pos B];unfold Pf;simp only[AA.row];exact wz (cj @W<|Xs) trivial;rw[if_neg B];by_cases F:k=3;have E:k=3↔True:=iff_true_intro F;rw[if_pos F];match AE with
 | []=>simp only[AA.VW,AA.AG,Pf];exact wz (cj2 @B @E Xs) trivial
 | [⟨k2,n2,s2,w2,z,d2,S,U,J,o2,Q⟩] =>
   simp only[AA.VW,AA.AG];by_cases G:S=0;have ON:S=0↔True:=iff_true_intro G;by_cases I:U=0;have q:U=0↔True:=iff_true_intro I;rw[if_pos ⟨G,I⟩];simp only[AA.row];refine wy (cj4 @B @E @ON @q Xs) trivial ⟨?_⟩;refine⟨⟨⟨k2,n2,s2,w2,z,d2,S,U,J,o2,Q⟩,?_⟩,?_,?_⟩;rfl;simp only[AA.mk.sizeOf_spec,List.cons.sizeOf_spec];omega;simp only[AA.row];exact wd 0;rw[if_neg (λh=>I h.2)];simp only[AA.row,Pf];exact wz (cj4 @B @E @ON @I Xs) trivial;rw[if_neg (λh=>G h.1)];simp only[AA.row,Pf];exact wz (cj3 @B @E @G Xs) trivial
 | c::c2::l =>
   have hl : ¬(AA.AG l).length+1+1=1:=by omega
   have R : ¬((AA.AG l).length:Int)+1+1=1:=by omega
   simp only[AA.VW,AA.AG,Pf];exact wz (cj4 @B @E @hl @R Xs) trivial
 rw[if_neg F];simp only[Pf];exact wz (cj2 @B @F Xs) trivial
mutual
theorem ABo : ∀(b g:AA),b.D8=true->b.simp=some g->g.D8=true/\g.kind=1
 | ⟨k,n,s,w,h,d,x,y,AE,o,src⟩,g,E,B=>by
   simp only[AA.simp]at B;split at B;rename_i F;cases B;exact⟨E,F⟩;split at B;simp only[AA.D8,Ak]at E;exact AYh AE g E.2 B;cases B
theorem AYh : ∀(l:List AA) (g:AA),AA.FU l=true->AA.VW l=some g->g.D8=true/\g.kind=1
 | [],g,E,B=>by cases B
 | c::l,g,E,B=>by
   simp only[AA.FU,Ak]at E;match l,B with
   | [],B =>
     simp only[AA.VW]at B;split at B;exact ABo c g E.1 B;cases B
   | _::_,B=>cases B
end
theorem tA {b g:AA}(hb:b.Ad=true)(hs:b.simp=some g):1<=g.size/\g.size<=1000:=by
 simp only[AA.Ad,Ak]at hb;obtain⟨B,E⟩:=ABo b g hb.1 hs;obtain⟨k,n,s,w,h,d,x,y,AE,o,src⟩:=g;simp only at E;subst E;simp only[AA.D8,AA.Cl,AA.Fi,Ak,if_true,decide_eq_true_eq]at B;exact⟨B.1.2.1.2.1,B.1.2.1.2.2.1⟩
theorem AKf {f:AP}(E:f.valid=true){p:Int}(F:1<=p)(G:p<=1000)(name:ByteArray):Hm (f.pick name) p=((f.pick name).scaled p,0):=by
 have B:=Ql E name;unfold Hm;rw[if_neg (by simp[DX];omega),if_neg];unfold BG.Small at B;simp[DX,BG.OQ];omega
theorem ku (f:AP)(b:AA)(W:f.Fit)(U:f.valid=true)(hb:b.Ad=true)(ho:b.BX):AC AF 310 [.agg f.vs,Ao b] (.c (.int .i64 (F8 f b))):=by
 have R:=Ma f;rw[U]at R;have Q:=EL b ho (by have:=(D3 hb).2.2.2;omega);rw[hb]at Q;have E:=ABA b;have J:F8 f b=match b.simp with|some g=>mx 0 (AU (f.pick g.name).Ey g.size)|none=>0:=rfl
 rw[J];rw[As]at *
 cases S:b.simp with
 | none=>rw[S]at E;simp only[Pf]at E;refine en func310 ntmps310 ?_;refine wu (.mk 3) (cj @AR.eq_1<|gj) (cj2 R Q trivial) ⟨?_⟩;refine Cn 1 ?_;refine wu (.mk 4) gj (cj E<|trivial) ⟨?_⟩;refine Og (.mk 1) trivial ?_;refine SW.eF (b:=false) (res:=true) rfl (.inl ⟨rfl,rfl⟩) (by kernel_rfl) rfl rfl rfl (.inl ⟨rfl,rfl⟩) ?_;simp only[St.step,St.put,Bk,Ai,Ag];refine SW.nil ?_;exact wz (cj @AR.eq_1<|gj) trivial
 | some g=>obtain⟨q,z⟩:=tA hb S;have F:=dy f g.name W.1;have B:=sw (f.pick g.name) g.size;rw[AKf U q z g.name]at B;have I:(if 0<AU (f.pick g.name).Ey g.size then AU (f.pick g.name).Ey g.size else 0)=mx 0 (AU (f.pick g.name).Ey g.size):=rfl;simp only;generalize hM:mx 0 (AU (f.pick g.name).Ey g.size)=M at I ⊢;obtain⟨k,n,sz,w,h,d,x,y,AE,o,src⟩:=g;simp only at F B I;generalize hG:f.pick n=G at F B I;rw[S]at E;simp only[Pf,AA.row]at E;simp only[XT,Hg,BG.row,BG.scaled,AR,Ap,BB]at F B;refine en func310 ntmps310 ?_;refine wu (.mk 3) (cj @AR.eq_1<|gj) (cj2 R Q trivial) ⟨?_⟩;refine Cn 1 ?_;refine wu (.mk 4) gj (cj E<|trivial) ⟨?_⟩;refine Og (.mk 1) trivial ?_;refine SW.eF (b:=false) (res:=false) rfl (.inl ⟨rfl,rfl⟩) (by kernel_rfl) rfl rfl rfl (.inr ⟨⟨_,_,rfl⟩,rfl⟩) ?_;simp only[St.step,St.put,Bk,Ai,Ag];refine SW.nil ?_;exact wz (cj @I<|gj) (cj2 F B trivial)
theorem SW.AWq {ops:List Oper}{s:St}{t I:TypeId}{j:Nat}{q:Option AA}(ho:o.op=.binOp .eql t (.tmp j) (.const (.pointer none)) I)(F:lV P t=true)(E:BQ ops s.t o.guard=some true)(B:Ka o.op=false)(G:s.t[j]?=some (Pf q))(h:SW P ops K r (s.step o.dst (.c (.bool q.isNone)) none)):SW P ops K (o::r) s:=by
 cases q with
 | none=>exact SW.eF (b:=false) ho (.inl ⟨rfl,rfl⟩) F E B G (.inl ⟨rfl,rfl⟩) h
 | some g=>exact SW.eF (b:=false) ho (.inl ⟨rfl,rfl⟩) F E B G (.inr ⟨⟨_,_,rfl⟩,rfl⟩) h
theorem fK (F:l.length<=1)(G : ∀c∈l,c.Ad=true/\c.BX):AC AF 311 [.c (.sl (AA.AG l))] (.c (.bool true)):=by
 match l,F with
 | [],_=>simp only[AA.AG];refine en func311 ntmps311 ?_;exact wz (cj @AR.eq_1<|results311) trivial
 | [c],_=>obtain⟨B,E⟩:=G c (by simp);have h:=EL c E (by have:=(D3 B).2.2.2;omega);rw[B,As]at h;simp only[AA.AG];refine en func311 ntmps311 ?_;exact wz (cj @AR.eq_1<|results311) (cj h<|trivial)
theorem AIH {s:Aa}(ho:s.ok=true):s.By=0\/s.By=1\/s.By=2\/s.By=3:=by simp[Aa.ok]at ho;omega
theorem AW6 (p:Params)(s:Aa)(ho:s.ok=true):AC AF 348 [.agg p.vs,Aj s] (.c (.int .i64 (XO p s))):=by
 have B:=AIH ho;obtain⟨l,c⟩:=s;simp only at B;unfold Aj XO Params.vs Params.list;simp only[Ap,BB];rcases B with rfl|rfl|rfl|rfl<;>cases c
 all_goals
  refine en func348 ntmps348 ?_;exact wz (cj @AR.eq_1<|results348) trivial
theorem lO (n p:Int):AC AF 347 [.c (.int .i64 n),.cp [.int .i64 p] 0] (.c (.int .i64 (AU n p))):=by
 refine en func347 ntmps347 ?_;exact wz (cj @AR.eq_1<|results347) (cj (EI n p)<|trivial)
theorem AYy {s:Aa}(ho:s.ok=true):XW 8 1 s=(Kf s,0)/\(Kf s).ok=true:=by
 have B:=AIH ho;refine⟨?_,?_⟩;unfold XW;rw[if_neg (by simp[ho,H2]),if_neg (by simp[H2])];rfl;unfold Kf GB;obtain⟨l,c⟩:=s;simp only at B;rcases B with rfl|rfl|rfl|rfl<;>simp[Aa.ok,VU]
theorem ABH (f:AP)(s:Aa)(b:AA)(sub sup:List AA)(hv:f.valid=true)(ho:s.ok=true)(hb:b.Ad=true)(l1:sub.length<=1)(l2:sup.length<=1)(h1 : ∀c∈sub,c.Ad=true)(h2 : ∀c∈sup,c.Ad=true) :
 AC AF 312 [.agg f.vs,Aj s,.c (.int .i64 (BS f.params s)),Ao b,.c (.sl (AA.AG sub)),.c (.sl (AA.AG sup))] (.A7 [.c (.int .i64 (Ez f s b sub sup).1),.c (.int .i64 (Ez f s b sub sup).2)]):=by
 obtain⟨p1,p2⟩:=HE hv ho;obtain⟨bw,bh,bd,bc⟩:=D3 hb;obtain⟨e8,rz⟩:=AYy ho;obtain⟨q1,q2⟩:=HE hv rz;have Ca:=ABA b;have z:=ABI 8 1 s;rw[e8]at z;have Jg:=LI f (Kf s);rw[show IT f (Kf s)=(BS f.params (Kf s),0)from if_neg (by simp[rz,hv])]at Jg;have Yz:=AW6 f.params s ho;have cQ:Qs f s b=if b.simp.isSome then 0 else b.h - AU f.params.Q5 (BS f.params (Kf s)):=rfl
 have cR:Od f s b=if b.simp.isSome then 0 else b.d+AU f.params.Qz (BS f.params (Kf s)):=rfl
 have yY:M1 f s=AU f.params.Gj (BS f.params s):=rfl;have wV:=DM (p:=BS f.params (Kf s)) f.params.Q5 (by omega) q2;have wW:=DM (p:=BS f.params (Kf s)) f.params.Qz (by omega) q2;have bU : -2147483648<=Qs f s b/\Qs f s b<=2147483648:=by rw[cQ];split<;>omega
 have bV : -2147483648<=Od f s b/\Od f s b<=2147483648:=by rw[cR];split<;>omega
 have bR:=DM (p:=BS f.params s) (XO f.params s) (by omega) p2;have wS:=DM (p:=BS f.params s) f.params.Qx (by omega) p2;have wT:=DM (p:=BS f.params s) f.params.Qy (by omega) p2;have wR:=DM (p:=BS f.params s) f.params.rule (by omega) p2;have iX:=DM (p:=25) (M1 f s) (by omega) (by omega);have wP:=DM (p:=80) (M1 f s) (by omega) (by omega);have hx:=lO f.params.Gj (BS f.params s);rw[<-yY]at hx;have I:=EI (M1 f s) 25;have E:=EI (M1 f s) 80;have kF:=EI f.params.Q5 (BS f.params (Kf s));have Iq:=EI f.params.Qz (BS f.params (Kf s));have cM:=lO (XO f.params s) (BS f.params s);have cO:=lO f.params.Qx (BS f.params s);have YX:=lO f.params.Qy (BS f.params s);have jV:=lO f.params.rule (BS f.params s);have dU : ∀c l,H0 f s b (c::l)=mx (mx (Qs f s b) (AU (XO f.params s) (BS f.params s))) (c.d+AU (M1 f s) 25):=λ_ _=>rfl
 have YF:Nm f s b=mx (Od f s b) (AU f.params.Qy (BS f.params s)):=rfl;have dL:Sb f s=4*AU f.params.rule (BS f.params s):=rfl;have iq : ∀c l,Ez f s b (c::l) []=(Qs f s b,mx (mx (Od f s b) (AU f.params.Qx (BS f.params s))) (c.h - AU (M1 f s) 80)):=λ_ _=>rfl
 have pU:Ez f s b [] []=(Qs f s b,Od f s b):=rfl;have xG : ∀c l,Ez f s b [] (c::l)=(H0 f s b (c::l),Od f s b):=λ_ _=>rfl
 have pV : ∀c d,Ez f s b [c] [d]=if H0 f s b [d] - d.d - (c.h - Nm f s b)<Sb f s then(if 0<AU (M1 f s) 80 - (H0 f s b [d] - d.d)then(H0 f s b [d]+(AU (M1 f s) 80 - (H0 f s b [d] - d.d)),Nm f s b+(Sb f s - (H0 f s b [d] - d.d - (c.h - Nm f s b))) - (AU (M1 f s) 80 - (H0 f s b [d] - d.d)))else(H0 f s b [d],Nm f s b+(Sb f s - (H0 f s b [d] - d.d - (c.h - Nm f s b)))))else(H0 f s b [d],Nm f s b):=λ_ _=>rfl
 obtain⟨A3,F⟩:=AI (Ez f s b sub sup);rw[F];obtain⟨T,hT⟩:=AI (Kf s);rw[hT]at z Jg cQ cR wV wW kF Iq q1 q2;obtain⟨P,hP⟩:=AI (BS f.params s);obtain⟨Q,hQ⟩:=AI (BS f.params T);rw[hQ]at Jg cQ cR wV wW kF Iq q1 q2;rw[hP]at p1 p2 bR wS wT wR hx cM cO YX jV YF dL yY ⊢;simp only[hP]at dU iq;obtain⟨X,hX⟩:=AI (M1 f s);rw[hX]at iX wP hx I E;simp only[hX]at dU iq pV;obtain⟨iJ,xN⟩:=AI (AU X 25);obtain⟨oK,pg⟩:=AI (AU X 80);obtain⟨G,xR⟩:=AI (Qs f s b);obtain⟨R,ph⟩:=AI (Od f s b);obtain⟨J,xP⟩:=AI (AU (XO f.params s) P);obtain⟨S1,xQ⟩:=AI (AU f.params.Qx P);obtain⟨S2,A1⟩:=AI (AU f.params.Qy P);obtain⟨RU,A0⟩:=AI (AU f.params.rule P);obtain⟨V2,xS⟩:=AI (Nm f s b);obtain⟨LS,xO⟩:=AI (Sb f s);rw[xN]at iX I;rw[pg]at wP E;rw[xR]at cQ bU pU;rw[ph]at cR bV pU YF;rw[xP]at bR cM;rw[xQ]at wS cO;rw[A1]at wT YX YF;rw[A0]at wR jV dL;rw[xS]at YF;rw[xO]at dL;simp only[xR,xN,xP,ph,xQ,pg]at dU iq;simp only[pg,xS,xO]at pV;simp only[ph]at xG;have A6 : -2147483648<=V2/\V2<=2147483648:=by rw[YF,DU];omega
 have bL : -4294967296<=LS/\LS<=4294967296:=by omega
 clear yY hX hP hQ hT xN pg xR ph xP xQ A1 A0 xS xO hb ho hv e8 rz;rw[As];unfold Aj Zx at *
 simp only[Aj,AR]at z Jg;obtain⟨A9,q⟩:=AI (AA.AG sub);obtain⟨ei,W⟩:=AI (AA.AG sup);rw[q,W];refine en func312 ntmps312 ?_;refine wu (.mk 1) (cj @AR.eq_1<|UO) trivial ⟨?_⟩;refine Cn 2 ?_;refine Cn 3 ?_;refine wu (.mk 2) (cj @AR.eq_1<|UO) trivial ⟨?_⟩;refine AW.DA ?_;refine SW.take 1 (AH.out ?_);simp only[DP,ET];have B:=(cj @AR.eq_1<|UO)
 repeat any_goals (first|refine Eo ?_|exact Bt B|refine De B ?_|refine BV B (Ca) ?_|refine DI B ?_)
 simp only[CU,B9];refine SW.AWq rfl (by kernel_rfl) rfl rfl rfl ?_;simp only[St.step,St.put,Bk,Ai,Ag];refine SW.nil ?_;refine G3 ?_;refine jn (λ_:Unit=>[(12,.c (.int .i64 G)),(13,.c (.int .i64 R))]) ?_ ?_;all_goals simp only[puts,Bw,CO,Ag,Ai]
 cases hs:b.simp with
 | some g =>
   have e1:G=0:=by rw[cQ,hs];rfl
   have e2:R=0:=by rw[cR,hs];rfl
   refine go @e1 ?_;refine⟨(),?_⟩;exact ER (cj @e1<|@e2)
 | none =>
   have e1:b.h - AU f.params.Q5 Q=G:=by rw[cQ,hs];rfl
   have e2:b.d+AU f.params.Qz Q=R:=by rw[cR,hs];rfl
   refine wy (cj3 @AR.eq_1 @e1 @e2 UO) (cj4 z Jg kF Iq trivial) ⟨?_⟩;refine⟨(),?_⟩;exact wd 4 (hb:=by simp[V.BI,V.A8,Pf])
 . intro _;match sub,sup,l1,l2 with
   | [],[],_,_ =>
     simp only[AA.AG]at q W;subst q W;rw[pU]at F;subst F;have B:=(cj @AR.eq_1<|UO)
     have S:=(cj2 hx E trivial)
     repeat any_goals (first|refine Du B S ⟨?_⟩|exact Bt B|(with_reducible refine LA.loop (LA.round ?_))|(with_reducible refine LA.round ?_)|(refine Dv B ?_ ?_<;>intro h<;>try exact Dw))
   | [],[d],_,_ =>
     simp only[AA.AG]at q W;subst q W;obtain⟨dw,dh,dd,_⟩:=D3 (h2 d (by simp));rw[xG,dU]at F;subst F;have U:(if G<J then J else G)=mx G J:=rfl;have bM : -2147483648<=mx G J/\mx G J<=2147483648:=by rw[DU];omega
     obtain⟨M,hM⟩:=AI (mx G J);rw[hM]at U bM ⊢;have m2:(if M<d.d+iJ then d.d+iJ else M)=mx M (d.d+iJ):=rfl;have B:=(cj3 @AR.eq_1 @U @m2 UO)
     have S:=(cj5 hx E Yz cM I trivial)
     repeat any_goals (first|refine Du B S ⟨?_⟩|exact Bt B|(with_reducible refine LA.loop (LA.round ?_))|(with_reducible refine LA.round ?_)|(refine Dv B ?_ ?_<;>intro h<;>try exact Dw))
   | [c],[],_,_ =>
     simp only[AA.AG]at q W;subst q W;obtain⟨cw,ch,cd,_⟩:=D3 (h1 c (by simp));rw[iq]at F;subst F;have U:(if R<S1 then S1 else R)=mx R S1:=rfl;have bM : -2147483648<=mx R S1/\mx R S1<=2147483648:=by rw[DU];omega
     obtain⟨M,hM⟩:=AI (mx R S1);rw[hM]at U bM ⊢;have m2:(if M<c.h - oK then c.h - oK else M)=mx M (c.h - oK):=rfl;have B:=(cj3 @AR.eq_1 @U @m2 UO)
     have S:=(cj3 hx E cO trivial)
     repeat any_goals (first|refine Du B S ⟨?_⟩|exact Bt B|(with_reducible refine LA.loop (LA.round ?_))|(with_reducible refine LA.round ?_)|(refine Dv B ?_ ?_<;>intro h<;>try exact Dw))
   | [c],[d],_,_ =>
     simp only[AA.AG]at q W;subst q W;obtain⟨cw,ch,cd,_⟩:=D3 (h1 c (by simp));obtain⟨dw,dh,dd,_⟩:=D3 (h2 d (by simp));rw[pV]at F;have iu:=dU d [];obtain⟨U1,A2⟩:=AI (H0 f s b [d]);rw[A2]at F iu;have U:(if G<J then J else G)=mx G J:=rfl;have bM : -2147483648<=mx G J/\mx G J<=2147483648:=by rw[DU];omega
     obtain⟨M,hM⟩:=AI (mx G J);rw[hM]at U bM iu;have m2:(if M<d.d+iJ then d.d+iJ else M)=U1:=iu.symm;have A5 : -2147483648<=U1/\U1<=2147483648:=by rw[iu,DU];omega
     have m3:(if R<S2 then S2 else R)=V2:=YF.symm;have m4:4*RU=LS:=dL.symm;clear iu hM A2 dU pU xG iq pV YF dL;by_cases c1:U1 - d.d - (c.h - V2)<LS
     . rw[if_pos c1]at F;by_cases c2:0<oK - (U1 - d.d)
       . rw[if_pos c2]at F;subst F;have P6:=iff_true_intro c1;have wX:=iff_true_intro c2;have B:=(cj7 @AR.eq_1 @U @m2 @m3 @m4 @P6 @wX UO)
         have S:=(cj7 hx E Yz cM I YX jV trivial)
         repeat any_goals (first|refine Du B S ⟨?_⟩|exact Bt B|(with_reducible refine LA.loop (LA.round ?_))|(with_reducible refine LA.round ?_)|(refine Dv B ?_ ?_<;>intro h<;>try exact Dw))
       . rw[if_neg c2]at F;subst F;have P6:=iff_true_intro c1;have B:=(cj7 @AR.eq_1 @U @m2 @m3 @m4 @P6 @c2 UO)
         have S:=(cj7 hx E Yz cM I YX jV trivial)
         repeat any_goals (first|refine Du B S ⟨?_⟩|exact Bt B|(with_reducible refine LA.loop (LA.round ?_))|(with_reducible refine LA.round ?_)|(refine Dv B ?_ ?_<;>intro h<;>try exact Dw))
     . rw[if_neg c1]at F;subst F;have B:=(cj6 @AR.eq_1 @U @m2 @m3 @m4 @c1 UO)
       have S:=(cj7 hx E Yz cM I YX jV trivial)
       repeat any_goals (first|refine Du B S ⟨?_⟩|exact Bt B|(with_reducible refine LA.loop (LA.round ?_))|(with_reducible refine LA.round ?_)|(refine Dv B ?_ ?_<;>intro h<;>try exact Dw))
section
variable {P:Program} {m:Mo}
def HZ (m:Mo)(P:Program)(c:Code)(K:Exit->St->Prop)(s:St):Prop:=
 ∀(n:Nat) (S0:BF) (w0:Bs) (x:Cx) (a:Act) (w:World),w0.n0<=m.n0->2<=n->(∃lp,m.rd=some lp/\w0.F lp/\∃r,w0.w.heap[lp]?=some (.loop r))->Bo S0 w0 x s a w->c.wpIn (fz m) n P (λe a w=>∃x s,Bo S0 w0 x s a w/\K e s) a w
theorem HZ.of {c:Code}{s:St}(h:AW m P c K s):HZ m P c K s:=λn S0 w0 x a w E _ _ B=>h n S0 w0 x a w E B
theorem HZ.seq {c d:Code}{s:St}(h:HZ m P c (NH (HZ m P d K) K) s):HZ m P (.seq c d) K s:=λn S0 w0 x a w G I F J=>wpIn_seq (wpIn_mono (h n S0 w0 x a w G I F J) λe a w ⟨x,s,B,E⟩=>by
 cases e with
 | normal=>exact E n S0 w0 x a w G I F B
 | _=>exact⟨x,s,B,E⟩)
theorem HZ.le {c:Code}{s s':St}(I:Le m s s')(h:HZ m P c K s'):HZ m P c K s:=λn S0 w0 x a w E J B G=>let ⟨Q,F⟩:=I S0 w0 x a w E G;h n S0 w0 Q a w E J B F
theorem HZ.block {id:Nat}{c:Code}{s:St}(h:HZ m P c (Sz id K) s):HZ m P (.block id c) K s:=λn S0 w0 x a w I J G F=>wpIn_block (wpIn_mono (h n S0 w0 x a w I J G F) λe a w ⟨x,s,E,B⟩=>by
 cases e with
 | exit i=>simp only[Sz,Exit.inBlock]at B ⊢;split;rename_i e;rw[if_pos e]at B;exact⟨x,s,E,B⟩;rename_i e;rw[if_neg e]at B;exact⟨x,s,E,B⟩
 | _=>exact⟨x,s,E,B⟩)
theorem AW.AXa {α:Type}{n1:Nat}{s:St}{g:Operand}{p d:Tmp}{id:Nat}{body:Code}{gf:FuncId}{caps Lj:List V}{fn:Func}(ho:o.op=.assign (.tmp p))(Rs:o.dst=some d)(hgd:o.guard=none)(hg:ev s.t g=.fn gf caps)(hp:V.CF caps=some Lj)(Ff:P.funcs[gf]?=some fn)(Iq:fn.body.isSome=true)(Hy:(fn.name == "runtime.NumGoroutine")=false)(enc:α->Value)(Ij:α->V)(Wb : ∀x' W y,CV x' W (Ij y) (enc y))(Sx:List α->Prop)(N:Nat)(NU:UU P gf Lj (λy=>#[enc y]) Sx N)(hf:List α->List O)(h0:s.h=hf [])(n0:Nat)(hlen : ∀pre,(hf pre).length=n0)(hpl:p<s.t.length)(HK : ∀(lp:Nat) (pre:List α) (y:α),pre.length<N->HZ ⟨some lp,n0⟩ P body (λe s'=>e=.normal/\∃t',Le ⟨some lp,n0⟩ s' ⟨t',hf (pre++[y])⟩) ⟨(s.t.set p (Ij y)).set d (Ij y),hf pre⟩)(hdone : ∀xs,Sx xs->K .normal ⟨s.t,hf xs⟩)(Hi : ∀pre,((hf pre).all O.Tn)=true:=by intro _;rfl):AW ⟨none,n1⟩ P (.rangeFunc g #[p] (.region id #[o] false) body) K s:=λn S0 w0 x a w hm hA=>by
 have FI:=CW hA.tm g;rw[hg]at FI;simp only[CV]at FI;obtain⟨lb,FI,EP⟩:=FI;have hc':=MC _ _ _ hp EP;have hb:fn.body≠none:=by intro e;rw[e]at Iq;cases Iq
 have hn:fn.name≠ "runtime.NumGoroutine":=by simpa using Hy
 have eg : ∀args w,(callFunc gf args).run P w=.ok (.enter gf args) w:=λargs w=>by simp[callFunc,program,Sem.run,Ff,hn,hb]
 have hsize : ∀ {D:Nat},w.heap.size<=D->¬w0.F D:=λh=>hA.good.fresh h
 have PA : ∀Ds:List Nat,a.defers=Ds.map (λD=>{ target:=.collected D,args:=#[] })->∀D∈Ds,D<w.heap.size:=by
  intro Ds e D hD;obtain⟨n9,f1,f2,f3⟩:=hA.df;have hm:({ target:=.collected D,args:=#[] }:Deferred)∈a.defers:=by rw[e];exact List.mem_map.2 ⟨D,hD,rfl⟩
  rw[f1]at hm;obtain⟨D',Fs,e'⟩:=List.mem_map.1 hm;have:D'=D:=by injection e' with e1 e2;injection e1
  subst this;exact(Array.getElem?_eq_some_iff.1 (f3 D' Fs).2).1
 have hs:s=⟨s.t,hf []⟩:=by rw[<-h0]
 refine wpIn_wide.2 ((wpIn_wide (n:=5)).1 (wpIn_rangeFunc_ownH (F:=Fence.wide) (n:=5) (α:=α) (ps:=#[p]) (encs:=λy=>#[enc y]) (Kp:=F3 x.S) (S:=Sx) (Sp:=λ_=>True) (N:=N) (w0:=w) rfl (by omega) FI trivial eg (NU _ x.S w lb hA.good.ex hc') (λh k=>h.trans k) (λW l o o' _ h hc _=>F3.put W l o o' h hc) (Below.refl _ _) (λ_=>rfl)
  (λpre W=>∃x',Bo S0 w0 x' ⟨s.t,hf pre⟩ a W/\Ar x.S x'.S w W) (λ_ _ _=>False) ?_ (λ_ _ _ _ _ h=>h.elim) ⟨x,by rw[<-hs];exact hA,Ar.refl _ _⟩
  (λy a' _=>a'={ tmps:=((#[p].zip #[enc y]).foldl (λt (p,v)=>t.setIfInBounds p v) a.tmps).setIfInBounds d (((#[p].zip #[enc y]).foldl (λt (p,v)=>t.setIfInBounds p v) a.tmps).getD p undef),defers:=[] }) (λ_ _ _ _ _ _ h _ _=>h) ?_ ?_ ?_ (λ_ _ _ _ _ _ h _=>h.elim)))
 rintro pre W W' row ⟨x',Au,CZ⟩ hgr hr;obtain⟨g',he⟩:=Au.good.jI (To (Hi pre)) hgr λr e=>⟨hsize (hr r e).1,(hr r e).2⟩
 refine⟨x',⟨g',AO.mono he _ _ Au.tm,?_⟩,CZ.trans he.ar⟩;obtain⟨Ds,e1,e2,e3⟩:=Au.df;refine⟨Ds,e1,e2,λD hD=>⟨(e3 D hD).1,?_⟩⟩;have h2:=(e3 D hD).2;rw[hgr.block D (Array.getElem?_eq_some_iff.1 h2).1 (λe=>by have:=(hr D e.symm).1;have:=PA Ds e1 D hD;omega)];exact h2;intro l pre y W K hI hK;exact iP ho Rs hgd (hK _ W (KeepsFrom.refl _ _) (F3.refl _ _) hI rfl);rintro l pre y a' W hl Iz ⟨x',Au,CZ⟩ rfl hN;have Ls : ∀k,x'.dom k->k<n0:=λk hk=>by
  obtain⟨o,ho⟩:=Au.good.dom k hk;have:=(List.getElem?_eq_some_iff.1 ho).1;rw[<-hlen pre];exact this
 have hsl:AO x' W ((s.t.set p (Ij y)).set d (Ij y)) (((#[p].zip #[enc y]).foldl (λt (p,v)=>t.setIfInBounds p v) a.tmps).setIfInBounds d (((#[p].zip #[enc y]).foldl (λt (p,v)=>t.setIfInBounds p v) a.tmps).getD p undef)).toList:=by
  have e1:((#[p].zip #[enc y]).foldl (λ(t:Array Value) (q:Tmp×Value)=>t.setIfInBounds q.1 q.2) a.tmps)=a.tmps.setIfInBounds p (enc y):=by simp
  have hl:a.tmps.size=s.t.length:=by have:=Au.tm.len;simpa using this
  have e2:(a.tmps.setIfInBounds p (enc y)).getD p undef=enc y:=by
   rw[Array.getD_eq_getD_getElem?,Array.getElem?_setIfInBounds_self_of_lt (by rw[hl];exact hpl)];rfl
  rw[e1,e2];simp only[Array.toList_setIfInBounds];exact(Au.tm.set p (Wb _ _ _)).set d (Wb _ _ _)
 have Ec:Bo x'.S (w0.XQ W Au.good.keep.size x' n0 Ls) x' ⟨(s.t.set p (Ij y)).set d (Ij y),hf pre⟩ { tmps:=((#[p].zip #[enc y]).foldl (λt (p,v)=>t.setIfInBounds p v) a.tmps).setIfInBounds d (((#[p].zip #[enc y]).foldl (λt (p,v)=>t.setIfInBounds p v) a.tmps).getD p undef),defers:=[] } W:=⟨Au.good.lB (To (Hi pre)) n0 Ls,hsl,Marks.nil _ _⟩
 refine wpIn_mono (HK l pre y hN _ _ _ _ _ _ (Nat.le_refl _) (by omega) ⟨l,rfl,?_,Iz⟩ Ec) λe oL Xx Rd=>?_
 obtain⟨r,hr⟩:=Iz;exact .inr ⟨_,hr,rfl⟩;obtain⟨x2,s2,Fb,rfl,t',hle⟩:=Rd;obtain⟨x3,Ik⟩:=hle _ _ _ _ _ (Nat.le_refl _) Fb;obtain⟨g3,CB⟩:=Au.good.lZ Ik.good;have Fe:Ext x' x3 W Xx:=Ik.good.ext;exact⟨⟨CB.size,λk o _ hk ho=>CB.same k o hk ho⟩,⟨CB.size,λ_ _ h=>h,λb j v h hc=>Fe.ar.cell b j v (CZ.sub b j h) hc⟩,x3,⟨g3,AO.mono Fe _ _ Au.tm,Au.df.mono CB.nc⟩,CZ.trans Fe.ar⟩;rintro D xs W hD hS ⟨x',Au,CZ⟩ Rm;obtain⟨Ds,e1,e2,e3⟩:=Au.df;refine⟨x',⟨s.t,hf xs⟩,⟨Au.good,Au.tm,D::Ds,by simp[e1],List.nodup_cons.2 ⟨λh=>by have:=PA Ds e1 D h;omega,e2⟩,λD' Fs=>?_⟩,hdone xs hS⟩;rcases List.mem_cons.1 Fs with rfl|h
 exact⟨hsize hD,Rm⟩;exact e3 D' h
theorem HZ.range {α:Type}{l0 n1:Nat}{s:St}{g:Operand}{p d:Tmp}{id:Nat}{body:Code}{gf:FuncId}{caps Lj:List V}{fn:Func}(ho:o.op=.assign (.tmp p))(Rs:o.dst=some d)(hgd:o.guard=none)(hg:ev s.t g=.fn gf caps)(hp:V.CF caps=some Lj)(Ff:P.funcs[gf]?=some fn)(Iq:fn.body.isSome=true)(Hy:(fn.name == "runtime.NumGoroutine")=false)(enc:α->Value)(Ij:α->V)(Wb : ∀x' W y,CV x' W (Ij y) (enc y))(Sx:List α->Prop)(N:Nat)(NU:UU P gf Lj (λy=>#[enc y]) Sx N)(hf:List α->List O)(h0:s.h=hf [])(n0:Nat)(hlen : ∀pre,(hf pre).length=n0)(hpl:p<s.t.length)(HK : ∀(lp:Nat) (pre:List α) (y:α),pre.length<N->AW ⟨some lp,n0⟩ P body (λe s'=>e=.normal/\∃t',Le ⟨some lp,n0⟩ s' ⟨t',hf (pre++[y])⟩) ⟨(s.t.set p (Ij y)).set d (Ij y),hf pre⟩)(hdone : ∀xs,Sx xs->K .normal ⟨s.t,hf xs⟩)(Hi : ∀pre,((hf pre).all O.Tn)=true:=by intro _;rfl):HZ ⟨some l0,n1⟩ P (.rangeFunc g #[p] (.region id #[o] false) body) K s:=λn S0 w0 x a w hm KY Av hA=>by
 obtain⟨lp0,e0,hF0,r0,Jh⟩:=Av;cases e0;have hL0:w.heap[l0]?=some (.loop r0):=(hA.good.keep.block l0 (Array.getElem?_eq_some_iff.1 Jh).1 λhn=>hn hF0).trans Jh;have FI:=CW hA.tm g;rw[hg]at FI;simp only[CV]at FI;obtain⟨lb,FI,EP⟩:=FI;have hc':=MC _ _ _ hp EP;have hb:fn.body≠none:=by intro e;rw[e]at Iq;cases Iq
 have hn:fn.name≠ "runtime.NumGoroutine":=by simpa using Hy
 have eg : ∀args w,(callFunc gf args).run P w=.ok (.enter gf args) w:=λargs w=>by simp[callFunc,program,Sem.run,Ff,hn,hb]
 have hsize : ∀ {D:Nat},w.heap.size<=D->¬w0.F D:=λh=>hA.good.fresh h
 have PA : ∀Ds:List Nat,a.defers=Ds.map (λD=>{ target:=.collected D,args:=#[] })->∀D∈Ds,D<w.heap.size:=by
  intro Ds e D hD;obtain⟨n9,f1,f2,f3⟩:=hA.df;have hm:({ target:=.collected D,args:=#[] }:Deferred)∈a.defers:=by rw[e];exact List.mem_map.2 ⟨D,hD,rfl⟩
  rw[f1]at hm;obtain⟨D',Fs,e'⟩:=List.mem_map.1 hm;have:D'=D:=by injection e' with e1 e2;injection e1
  subst this;exact(Array.getElem?_eq_some_iff.1 (f3 D' Fs).2).1
 have hs:s=⟨s.t,hf []⟩:=by rw[<-h0]
 refine wpIn_rangeFunc_ownN (F:=Fence.wide.inRound l0) (n:=n) (α:=α) (ps:=#[p]) (encs:=λy=>#[enc y]) (Kp:=F3 x.S) (S:=Sx) (Sp:=λ_=>True) (N:=N) (w0:=w) rfl hL0 (by omega) FI trivial eg ((NU _ x.S w lb hA.good.ex hc').inRound l0) (λh k=>h.trans k) (λW l o o' _ h hc _=>F3.put W l o o' h hc) (Below.refl _ _) (λ_=>rfl)
  (λpre W=>∃x',Bo S0 w0 x' ⟨s.t,hf pre⟩ a W/\Ar x.S x'.S w W) (λ_ _ _=>False) ?_ (λ_ _ _ _ _ h=>h.elim) ⟨x,by rw[<-hs];exact hA,Ar.refl _ _⟩
  (λy a' _=>a'={ tmps:=((#[p].zip #[enc y]).foldl (λt (p,v)=>t.setIfInBounds p v) a.tmps).setIfInBounds d (((#[p].zip #[enc y]).foldl (λt (p,v)=>t.setIfInBounds p v) a.tmps).getD p undef),defers:=[] }) (λ_ _ _ _ _ _ h _ _=>h) ?_ ?_ ?_ (λ_ _ _ _ h _=>h.elim)
 rintro pre W W' row ⟨x',Au,CZ⟩ hgr hr;obtain⟨g',he⟩:=Au.good.jI (To (Hi pre)) hgr λr e=>⟨hsize (hr r e).1,(hr r e).2⟩
 refine⟨x',⟨g',AO.mono he _ _ Au.tm,?_⟩,CZ.trans he.ar⟩;obtain⟨Ds,e1,e2,e3⟩:=Au.df;refine⟨Ds,e1,e2,λD hD=>⟨(e3 D hD).1,?_⟩⟩;have h2:=(e3 D hD).2;rw[hgr.block D (Array.getElem?_eq_some_iff.1 h2).1 (λe=>by have:=(hr D e.symm).1;have:=PA Ds e1 D hD;omega)];exact h2;intro l pre y W K hI hK;exact iP ho Rs hgd (hK _ W (KeepsFrom.refl _ _) (F3.refl _ _) hI rfl);rintro l pre y a' W hl Iz ⟨x',Au,CZ⟩ rfl hN;have Ls : ∀k,x'.dom k->k<n0:=λk hk=>by
  obtain⟨o,ho⟩:=Au.good.dom k hk;have:=(List.getElem?_eq_some_iff.1 ho).1;rw[<-hlen pre];exact this
 have hsl:AO x' W ((s.t.set p (Ij y)).set d (Ij y)) (((#[p].zip #[enc y]).foldl (λt (p,v)=>t.setIfInBounds p v) a.tmps).setIfInBounds d (((#[p].zip #[enc y]).foldl (λt (p,v)=>t.setIfInBounds p v) a.tmps).getD p undef)).toList:=by
  have e1:((#[p].zip #[enc y]).foldl (λ(t:Array Value) (q:Tmp×Value)=>t.setIfInBounds q.1 q.2) a.tmps)=a.tmps.setIfInBounds p (enc y):=by simp
  have hl:a.tmps.size=s.t.length:=by have:=Au.tm.len;simpa using this
  have e2:(a.tmps.setIfInBounds p (enc y)).getD p undef=enc y:=by
   rw[Array.getD_eq_getD_getElem?,Array.getElem?_setIfInBounds_self_of_lt (by rw[hl];exact hpl)];rfl
  rw[e1,e2];simp only[Array.toList_setIfInBounds];exact(Au.tm.set p (Wb _ _ _)).set d (Wb _ _ _)
 have Ec:Bo x'.S (w0.XQ W Au.good.keep.size x' n0 Ls) x' ⟨(s.t.set p (Ij y)).set d (Ij y),hf pre⟩ { tmps:=((#[p].zip #[enc y]).foldl (λt (p,v)=>t.setIfInBounds p v) a.tmps).setIfInBounds d (((#[p].zip #[enc y]).foldl (λt (p,v)=>t.setIfInBounds p v) a.tmps).getD p undef),defers:=[] } W:=⟨Au.good.lB (To (Hi pre)) n0 Ls,hsl,Marks.nil _ _⟩
 refine wpIn_mono (HK l pre y hN _ _ _ _ _ _ (Nat.le_refl _) Ec) λe oL Xx Rd=>?_
 obtain⟨x2,s2,Fb,rfl,t',hle⟩:=Rd;obtain⟨x3,Ik⟩:=hle _ _ _ _ _ (Nat.le_refl _) Fb;obtain⟨g3,CB⟩:=Au.good.lZ Ik.good;have Fe:Ext x' x3 W Xx:=Ik.good.ext;exact⟨⟨CB.size,λk o _ hk ho=>CB.same k o hk ho⟩,⟨CB.size,λ_ _ h=>h,λb j v h hc=>Fe.ar.cell b j v (CZ.sub b j h) hc⟩,x3,⟨g3,AO.mono Fe _ _ Au.tm,Au.df.mono CB.nc⟩,CZ.trans Fe.ar⟩;rintro xs W hS ⟨x',Au,CZ⟩;exact⟨x',⟨s.t,hf xs⟩,Au,hdone xs hS⟩
end
end Go.Proofs.YtlpomcliejmedaaGreat
