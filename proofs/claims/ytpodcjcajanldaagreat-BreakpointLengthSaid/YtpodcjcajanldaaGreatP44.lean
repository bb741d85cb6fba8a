/- Part of the proof of breakpointLength.proved. Conditions: none. (Joined and shortened by a program.) -/
import Derived.Defers
import Derived.Recover
import Derived.Test.YtpodcjcajanldaaGreatP43
set_option linter.unusedVariables false
set_option linter.unusedSimpArgs false
set_option maxRecDepth 100000
set_option maxHeartbeats 16000000
open Go.Proofs.Tryz renaming prog→AD,underlying9→Mp,underlying3→Eg
open Bool renaming and_eq_true→An
open Classical renaming not_not→oE
open Nat renaming zero_add→Cu,lt_of_lt_of_le→H6
open Go.Instr renaming makeFunc→xd
open Go.Sem renaming run→I5
open Go.World renaming size_alloc→qH
open Go.Lib renaming hid→Cr
open Go.Region renaming wanted→DV
open Option.some renaming injEq→BE
namespace Go.Proofs.YtpodcjcajanldaaGreat
open Go.RowKit
section
variable {H:Type} {enc:TypeId×Value->H} {w:World}
theorem AQK {fuel:Nat}:DD enc AD w fuel 84 Ag.row (fun g=>g.name.size<=maxLen):=by
 cases fuel with
 | zero=>exact DD.zero
 | succ fuel=>exact(Rr Tryz.underlying84 (by kernel_rfl) (Cj.cons (o:=0) (o':=1) rfl (by kernel_rfl) (by decide) (ZW Mp) (Cj.cons (o:=1) (o':=2) rfl (by kernel_rfl) (by decide) (FU Eg) (Cj.cons (o:=2) (o':=3) rfl (by kernel_rfl) (by decide) (FU Eg) (Cj.cons (o:=3) (o':=4) rfl (by kernel_rfl) (by decide) (FU Eg) (Cj.cons (o:=4) (o':=5) rfl (by kernel_rfl) (by decide) (FU Eg) (Cj.cons (o:=5) (o':=6) rfl (by kernel_rfl) (by decide) (FU Eg) (Cj.nil)))))))).conv (fun q=>⟨q.1,q.2.1,q.2.2.1,q.2.2.2.1,q.2.2.2.2.1,q.2.2.2.2.2.1⟩) (fun q=>rfl) (fun q h=>h.1)
theorem AQP {fuel:Nat}:DD enc AD w fuel 109 Part.row (fun _=>True):=by
 cases fuel with
 | zero=>exact DD.zero
 | succ fuel=>exact(Rr Tryz.underlying109 (by kernel_rfl) (Cj.cons (o:=0) (o':=1) rfl (by kernel_rfl) (by decide) (ZW Mp) (Cj.cons (o:=1) (o':=2) rfl (by kernel_rfl) (by decide) (mS Tryz.underlying4) (Cj.nil)))).conv (fun q=>⟨q.1,q.2.1⟩) (fun q=>rfl) (fun q h=>trivial)
theorem AQS {fuel:Nat}:DD enc AD w fuel 102 (fun l:List ByteArray=>[.sl (l.map fun s=>[.str s])]) (fun l=>l.length<=maxLen/\∀a∈l,a.size<=maxLen):=by
 cases fuel with
 | zero=>exact DD.zero
 | succ fuel=>exact XV (n:=1) Tryz.underlying102 (by kernel_rfl) (by decide) (ZW Mp)
theorem AQQ {fuel:Nat}:DD enc AD w fuel 104 (fun l:List Part=>[.sl (l.map Part.row)]) (fun l=>l.length<=maxLen/\∀a∈l,True):=by
 cases fuel with
 | zero=>exact DD.zero
 | succ fuel=>exact XV (n:=2) Tryz.underlying104 (by kernel_rfl) (by decide) AQP
theorem AQU {fuel:Nat}:DD enc AD w fuel 106 A6.row (fun s=>s.name.size<=maxLen):=by
 cases fuel with
 | zero=>exact DD.zero
 | succ fuel=>exact(Rr Tryz.underlying106 (by kernel_rfl) (Cj.cons (o:=0) (o':=1) rfl (by kernel_rfl) (by decide) (ZW Mp) (Cj.cons (o:=1) (o':=2) rfl (by kernel_rfl) (by decide) (AQS) (Cj.cons (o:=2) (o':=3) rfl (by kernel_rfl) (by decide) (AQQ) (Cj.cons (o:=3) (o':=4) rfl (by kernel_rfl) (by decide) (FU Eg) (Cj.nil)))))).conv (fun q=>⟨q.1,q.2.1,q.2.2.1,q.2.2.2.1⟩) (fun q=>rfl) (fun q h=>h.1)
theorem AQL {fuel:Nat}:DD enc AD w fuel 22 (fun l:List Ag=>[.sl (l.map Ag.row)]) (fun l=>l.length<=maxLen/\∀a∈l,a.name.size<=maxLen):=by
 cases fuel with
 | zero=>exact DD.zero
 | succ fuel=>exact XV (n:=6) Tryz.underlying22 (by kernel_rfl) (by decide) AQK
theorem AQV {fuel:Nat}:DD enc AD w fuel 23 (fun l:List A6=>[.sl (l.map A6.row)]) (fun l=>l.length<=maxLen/\∀a∈l,a.name.size<=maxLen):=by
 cases fuel with
 | zero=>exact DD.zero
 | succ fuel=>exact XV (n:=4) Tryz.underlying23 (by kernel_rfl) (by decide) AQU
theorem AQN {fuel:Nat}:DD enc AD w fuel 25 (fun p:Params=>p.list.map (C.int .i64)) (fun _=>True):=by
 cases fuel with
 | zero=>exact DD.zero
 | succ fuel=>exact(Rr Tryz.underlying25 (by kernel_rfl) (Cj.cons (o:=0) (o':=1) rfl (by kernel_rfl) (by decide) (FU Eg) (Cj.cons (o:=1) (o':=2) rfl (by kernel_rfl) (by decide) (FU Eg) (Cj.cons (o:=2) (o':=3) rfl (by kernel_rfl) (by decide) (FU Eg) (Cj.cons (o:=3) (o':=4) rfl (by kernel_rfl) (by decide) (FU Eg) (Cj.cons (o:=4) (o':=5) rfl (by kernel_rfl) (by decide) (FU Eg) (Cj.cons (o:=5) (o':=6) rfl (by kernel_rfl) (by decide) (FU Eg) (Cj.cons (o:=6) (o':=7) rfl (by kernel_rfl) (by decide) (FU Eg) (Cj.cons (o:=7) (o':=8) rfl (by kernel_rfl) (by decide) (FU Eg) (Cj.cons (o:=8) (o':=9) rfl (by kernel_rfl) (by decide) (FU Eg) (Cj.cons (o:=9) (o':=10) rfl (by kernel_rfl) (by decide) (FU Eg) (Cj.cons (o:=10) (o':=11) rfl (by kernel_rfl) (by decide) (FU Eg) (Cj.cons (o:=11) (o':=12) rfl (by kernel_rfl) (by decide) (FU Eg) (Cj.cons (o:=12) (o':=13) rfl (by kernel_rfl) (by decide) (FU Eg) (Cj.cons (o:=13) (o':=14) rfl (by kernel_rfl) (by decide) (FU Eg) (Cj.cons (o:=14) (o':=15) rfl (by kernel_rfl) (by decide) (FU Eg) (Cj.cons (o:=15) (o':=16) rfl (by kernel_rfl) (by decide) (FU Eg) (Cj.cons (o:=16) (o':=17) rfl (by kernel_rfl) (by decide) (FU Eg) (Cj.cons (o:=17) (o':=18) rfl (by kernel_rfl) (by decide) (FU Eg) (Cj.cons (o:=18) (o':=19) rfl (by kernel_rfl) (by decide) (FU Eg) (Cj.cons (o:=19) (o':=20) rfl (by kernel_rfl) (by decide) (FU Eg) (Cj.nil)))))))))))))))))))))).conv (fun q=>⟨q.1,q.2.1,q.2.2.1,q.2.2.2.1,q.2.2.2.2.1,q.2.2.2.2.2.1,q.2.2.2.2.2.2.1,q.2.2.2.2.2.2.2.1,q.2.2.2.2.2.2.2.2.1,q.2.2.2.2.2.2.2.2.2.1,q.2.2.2.2.2.2.2.2.2.2.1,q.2.2.2.2.2.2.2.2.2.2.2.1,q.2.2.2.2.2.2.2.2.2.2.2.2.1,q.2.2.2.2.2.2.2.2.2.2.2.2.2.1,q.2.2.2.2.2.2.2.2.2.2.2.2.2.2.1,q.2.2.2.2.2.2.2.2.2.2.2.2.2.2.2.1,q.2.2.2.2.2.2.2.2.2.2.2.2.2.2.2.2.1,q.2.2.2.2.2.2.2.2.2.2.2.2.2.2.2.2.2.1,q.2.2.2.2.2.2.2.2.2.2.2.2.2.2.2.2.2.2.1,q.2.2.2.2.2.2.2.2.2.2.2.2.2.2.2.2.2.2.2.1⟩) (fun q=>rfl) (fun q h=>trivial)
theorem AQJ {fuel:Nat}:DD enc AD w fuel 27 AI.row AI.Fit:=by
 cases fuel with
 | zero=>exact DD.zero
 | succ fuel=>exact(Rr Tryz.underlying27 (by kernel_rfl) (Cj.cons (o:=0) (o':=1) rfl (by kernel_rfl) (by decide) (AQL) (Cj.cons (o:=1) (o':=2) rfl (by kernel_rfl) (by decide) (AQV) (Cj.cons (o:=2) (o':=22) rfl (by kernel_rfl) (by decide) (AQN) (Cj.nil))))).conv (fun q=>⟨q.1,q.2.1,q.2.2.1⟩) (fun q=>by simp[AI.row,FZ,G3]) (fun q h=>⟨h.1.1,h.2.1.1,h.1.2,h.2.1.2⟩)
end
structure yq (x:Ae)(n:Nd)(src:List Int)(s:AM):Prop where
 hx:x.Ok
 hs:s.ok=true
 k1:n.kind≠1
 form:n.F5=true
 ok:n.Bc
 cn:n.cnt<=80
 dp:n.BB<=24
 sr:Src src 1 n.BB
theorem ADL {n k:Nd}(hf:n.F5=true)(ho:n.Bc)(hk:k∈n.kids):k.F5=true/\IK n.kind k.kind=false/\k.Bc/\k.cnt<n.cnt/\k.BB<n.BB:=by
 obtain⟨kd,t,c,kids⟩:=n;simp only at hk;rw[U2,An]at hf;have hf2:=hf.2;simp only at hf2 ⊢;have key : ∀l:List Nd,Nd.GX kd l=true->k∈l->k.F5=true/\IK kd k.kind=false/\k.cnt<=Nd.A9 l:=by
  intro l;induction l with
  | nil=>intro _ h;cases h
  | cons a l ih =>
    intro h hm;simp only[Nd.GX,An]at h;simp only[Nd.A9];rcases List.mem_cons.1 hm with rfl|hm
    . exact⟨h.1.2,by simpa using h.1.1,by omega⟩
    . obtain⟨h1,h2,h3⟩:=ih h.2 hm;exact⟨h1,h2,by omega⟩
 obtain⟨h1,h2,h3⟩:=key kids hf2 hk;have h4:=AD9 kids k hk;have h5:=Jk ⟨kd,t,c,kids⟩;have h6:=TU ⟨kd,t,c,kids⟩;simp only at h5 h6;exact⟨h1,h2,N0 ho.2.2 k hk,by omega,by omega⟩
theorem get_mem {l:List Nd}{j:Nat}{k:Nd}(h:l[j]?=some k):k∈l:=List.mem_of_getElem? h
theorem AOl {n:Nd}(ho:n.CZ=true)(h1:n.kind≠1):n.kind=2\/n.kind=3\/n.kind=4\/n.kind=5\/n.kind=6\/n.kind=7\/n.kind=8\/n.kind=9\/n.kind=10\/n.kind=11\/n.kind=12:=by
 have h:=O5 ho;unfold Dh at h;repeat' split at h
 all_goals first
  | (exact absurd rfl (by simpa using h))
  | omega
  | (cases h)
theorem ls {n:Nd}(ho:n.CZ=true)(hk:n.kind=6\/n.kind=7\/n.kind=8\/n.kind=9):∃a r,n.kids=a::r:=by
 have h:=O5 ho;cases hq:n.kids with
 | cons a r=>exact⟨a,r,rfl⟩
 | nil =>
   rw[hq]at h;rcases hk with e|e|e|e<;>rw[e]at h<;>simp[Dh]at h
theorem AT2 (x:Ae)(m:Nat)(n:Nd)(src:List Int)(s:AM)(h:yq x n src s)(DG:y0 x m n src s):AQ AD 78 [Bf x m,At n,.c (Ab src),Ai s] m (BI x.f) (BI x.f) (BS (Ei x s src n)):=by
 have hf:=h.form;rw[U2,An]at hf;have hI:Pj x m n src s:=⟨h.hx,h.hs,hf.1,h.k1,hf.2,h.sr,h.cn,DG⟩
 have hl:src.length<=100:=by have:=h.sr.len;omega
 have ht:=Xz hf.1;rcases AOl hf.1 h.k1 with e|e|e|e|e|e|e|e|e|e|e
 . refine ATu x m n src s hl e ?_;rw[uS x s src hf.1 (.inl e),if_pos e];exact AUl x m n src s h.hx h.hs (by rw[e]at ht;simpa [I2]using ht)
 . refine ATv x m n src s hl e ?_;rw[uS x s src hf.1 (.inr (.inl e)),if_neg (by omega)];obtain⟨t1,t2⟩:=AED (t:=n.text) (by rw[e]at ht;simpa [I2]using ht);exact AGx x m n src s h.hx h.hs t1 t2
 . refine ATw x m n src s hl e ?_;rw[uS x s src hf.1 (.inr (.inr e)),if_neg (by omega)];obtain⟨t1,t2⟩:=AE4 (t:=n.text) (by rw[e]at ht;simpa [I2]using ht);exact AGx x m n src s h.hx h.hs t1 t2
 . exact ATx x m n src s hl e (ATg hI e)
 . obtain⟨a,r,hk⟩:=ls hf.1 (.inl e);exact ATy x m n src s hl e (AUc hI e a r hk)
 . obtain⟨a,r,hk⟩:=ls hf.1 (.inr (.inl e));exact ATz x m n src s hl e (AUg hI e a r hk)
 . obtain⟨a,r,hk⟩:=ls hf.1 (.inr (.inr (.inl e)));exact AT0 x m n src s hl e (AUh hI e a r hk)
 . obtain⟨a,r,hk⟩:=ls hf.1 (.inr (.inr (.inr e)));exact AT1 x m n src s hl e (AUi hI e a r hk)
 . exact ATr x m n src s hl e (ATW hI e)
 . exact ATs x m n src s hl e (ATf hI e)
 . exact ATt x m n src s hl e (AUH hI e)
theorem AS1 (x:Ae)(m:Nat):∀n:Nd,(∀src s,jQ x n src s->AQ AD 55 [Bf x m,At n,.c (Ab src),Ai s] m (BI x.f) (BI x.f) (BS (Db x s src n)))/\(∀src s,yq x n src s->AQ AD 78 [Bf x m,At n,.c (Ab src),Ai s] m (BI x.f) (BI x.f) (BS (Ei x s src n))):=ZR fun n ih=>by
 refine⟨fun src s h=>?_,fun src s h=>?_⟩
 . by_cases hn:n.kids=[]
   . exact AUd x m n src s h hn
   have kl:jM x m n src s:=fun j k hj=>by
    obtain⟨f1,f2,f3,f4,f5⟩:=ADL h.form h.ok (get_mem hj);have Ev:k.kind≠1:=by intro e;rw[h.k1,e]at f2;simp[IK]at f2
    have ES:=h.sr;have Im:=h.cn;have hdp:=h.dp;obtain⟨d,hd⟩:∃d,n.BB=d+1:=⟨n.BB - 1,by omega⟩
    rw[hd]at ES;exact(ih k (get_mem hj)).2 _ _ ⟨h.hx,h.hs,Ev,f1,f3,by omega,by omega,ES.add j (by omega)⟩
   by_cases ha : ∀j k,n.kids[j]?=some k->MP x s src j k≠none
   . exact AUe x m n src s h hn kl ha
   . obtain⟨j,k,hj,hjn,hb⟩:=AA6 (p:=fun j k=>MP x s src j k≠none) n.kids ha;exact AUf x m n src s h kl j k hj (oE.1 hjn) fun i q hi hq=>hb i q hi hq
 . have hf:=h.form;rw[U2,An]at hf;have hRA:jR x m n src s:=fun j k hj=>by
    obtain⟨f1,f2,f3,f4,f5⟩:=ADL h.form h.ok (get_mem hj);have Ev:k.kind=1:=by
     have hk:=h.k1;by_cases e:k.kind=1
     . exact e
     . simp[IK,hk,e]at f2
    have ES:=h.sr;have Im:=h.cn;have hdp:=h.dp;obtain⟨d,hd⟩:∃d,n.BB=d+1:=⟨n.BB - 1,by omega⟩
    rw[hd]at ES;exact(ih k (get_mem hj)).1 _ _ ⟨h.hx,wX h.hs,Ev,f1,f3,by omega,by omega,ES.add j (by omega)⟩
   refine AT2 x m n src s h ?_;have hkn:=O5 hf.1;have tD:=Jk n;have Bp:=Ny n.kids;have Im:=h.cn;have Wh:=h.sr.len;by_cases ha : ∀j k,n.kids[j]?=some k->Lj x s src n.kind j k≠none
   . refine .inl ⟨NI x s src n.kind 0 n.kids,AGY x s src n.kind 0 n.kids fun j k hj=>by rw[Cu];exact ha j k hj,?_⟩;have:=AUj x m n src s h.hs hkn h.k1 (by omega) (by omega) hRA ha;rwa [show n.kids.length=(AA.rows (NI x s src n.kind 0 n.kids)).length by rw[LF,nV]]at this
   . obtain⟨j,k,hj,hjn,hb⟩:=AA6 (p:=fun j k=>Lj x s src n.kind j k≠none) n.kids ha;exact .inr ⟨AGa x s src n.kind 0 n.kids j k hj (by rw[Cu];exact oE.1 hjn),AUk x m n src s h.hs hkn h.k1 (by omega) (by omega) hRA j k hj (oE.1 hjn) fun i q hi hq=>hb i q hi hq⟩
theorem AJ4 (p q:Addr)(w:World):CallsD AD 96 #[.pointer (some p),.pointer (some q)] .returning w fun e u' w'=>e=.returned (.tuple #[])/\u'=.returning/\w'=w:=by
 refine callsD_of_wpS Tryz.func96 rfl fun rW cs hu=>?_
 apply wpS_seq;apply wpS_region;simp[wpOpsS,go_sem,recoverD,hu,Tryz.ntmps96,Exit.thenS];refine wpS_of_wp ?_;cases rW;go_wp2;simp_all [bodyPostS,results,Tryz.results96]
theorem jc:I7 AD 41 11:=I7.mk' Tryz.underlying41 rfl (by kernel_rfl)
def F0:Array Value:=#[.int .i64 0,.string ⟨#[]⟩,.int .i64 0,.int .i64 0,.int .i64 0,.int .i64 0,.int .i64 0,.int .i64 0,.slice none 0 0,.int .i64 0,.slice none 0 0]
theorem AJ2 (f:FuncId)(caps:Array Value)(w:World)(Z:Array Value->World->Prop)(hcall : ∀w1,AS w w1->w1.heap.size=w.heap.size+2->Calls AD f caps w1 fun r w2=>∃cs,r=.returned (.agg cs)/\cs.size=11/\SU cs/\AS w1 w2/\Z cs w2)(hf : ∃fn,AD.funcs[f]?=some fn/\fn.body≠none/\fn.name≠ "runtime.NumGoroutine") :
 Calls AD 52 #[.func (.func f) #[] caps] w fun r w'=>∃cs w2,r=.returned (.tuple #[.agg cs,.int .i64 0])/\AS w w'/\Z cs w2/\KB (fun b=>b=w.heap.size\/b=w.heap.size+1) w2 w':=by
 have hmf : ∀(fn:Fn) (first cap:Array Value) (w:World),(xd fn first cap).run AD w=.ok (.func fn first cap) w:=fun _ _ _ _=>rfl
 obtain⟨fn,EP,ME,hname⟩:=hf;go_enter_defers Tryz.func52,Tryz.ntmps52
 have hrun : ∀W:World,(callFunc f caps).run AD W=.ok (.enter f caps) W:=fun W=>by simp[callFunc,program,I5,EP,hname,ME]
 go_wp2;refine(hcall _ (by repeat (with_reducible first|exact AS.refl _|assumption|apply AS.alloc|apply AS.drew|apply AS.drewN|(refine AS.setRow ?_ (by omega) _)|refine AS.trans ?_ (by assumption))) (by simp)).mono ?_;rintro r w2 ⟨cs,rfl,hs,h1,hk,hz⟩;have Sy:I7 AD 41 cs.size:=by rw[hs];exact jc
 have Is:=hk.size;simp only[qH]at Is;have b0:B8 w2 w.heap.size 41 F0:=hk.blk ((B8.new _ _ _).alloc _);have b1:B8 w2 (w.heap.size+1) 42 #[.int .i64 0]:=hk.blk (B8.at_ _ _ _ (by simp));have c1:(w2.setRow w.heap.size cs).cell? ⟨w.heap.size+1,0,none⟩=some (.int .i64 0):=(B8.LU b1 cs (g:=w.heap.size) (by omega)).cell 0;have d1:=(B8.LU b1 cs (g:=w.heap.size) (by omega)).frozen 0;have B0:=Cr b0;have B1:=Cr b1;clear b0 b1;go_wp2_with (((with_reducible refine xP (ty:=41) (w.heap.size) (cs) ?_ ?_ ?_ ?_ ?_ ?_ ?_);(focus rfl);(focus rfl);(focus exact⟨_,_,B0.out,Eq.symm (hs)⟩);(focus exact h1);(focus exact Sy);(focus rfl)))
 have hs1:(w2.setRow w.heap.size cs).setCell ⟨w.heap.size+1,0,none⟩ (.int .i64 0)=(w2.setRow w.heap.size cs).setRow (w.heap.size+1) #[.int .i64 0]:=by
  rw[setCell_eq_setRow _ _ 0 #[.int .i64 0] 42 (0,0) _ (B8.LU B1.out cs (g:=w.heap.size) (by omega))];rfl
 rw[hs1];have hb0:B8 ((w2.setRow w.heap.size cs).setRow (w.heap.size+1) #[.int .i64 0]) w.heap.size 41 cs:=B8.LU (B0.out.Xr cs) _ (by omega);have JJ:B8 ((w2.setRow w.heap.size cs).setRow (w.heap.size+1) #[.int .i64 0]) (w.heap.size+1) 42 #[.int .i64 0]:=(B8.LU B1.out cs (g:=w.heap.size) (by omega)).Xr _;obtain⟨W,hW⟩:=AE ((w2.setRow w.heap.size cs).setRow (w.heap.size+1) #[.int .i64 0]);have hkb:KB (fun b=>b=w.heap.size\/b=w.heap.size+1) w2 W:=by
  rw[<-hW];refine⟨rfl,rfl,rfl,by simp,fun k _ hn=>?_⟩;rw[setRow_other _ _ _ _ (fun e=>hn (.inr e)),setRow_other _ _ _ _ (fun e=>hn (.inl e))]
 rw[hW]at hb0 JJ ⊢;refine leaves_cons (f:=96) (args:=#[.pointer (some ⟨w.heap.size,0,none⟩),.pointer (some ⟨w.heap.size+1,0,none⟩)]) (by simp) (by simp[go_sem]) ?_;refine(AJ4 ⟨w.heap.size,0,none⟩ ⟨w.heap.size+1,0,none⟩ W).mono ?_;rintro e u' w'' ⟨rfl,rfl,rfl⟩;have hl0:(loadVar 41 ⟨w.heap.size,0,none⟩).run AD w''=.ok (.agg cs) w'':=nP hb0.row Sy;have F8:(loadVar 42 ⟨w.heap.size+1,0,none⟩).run AD w''=.ok (.int .i64 0) w'':=by
  have:(isAgg 42).run AD w''=.ok false w'':=by kernel_rfl
  simp[loadVar,this,load,I5,JJ.cell]
 have Y7:AS w w'':=by
  have:=hkb.after (w:=w) (AS.trans ((((AS.refl w).alloc _).alloc _)) hk) (fun k hk2=>by omega);exact this
 refine⟨.tuple #[.agg cs,.int .i64 0],?_,cs,w2,rfl,Y7,hz,hkb⟩;simp[results,Tryz.results52,asAddr,hl0,F8]
theorem AJ1 (g:FuncId)(caps:List V)(l:List V)(Cs:AC AD g caps (.agg l))(Au:GI AD g=true)(hl:l.length=11)(h1:l.all V.one=true):AC AD 52 [.fn g caps] (.Bk [.agg l,.c (.int .i64 0)]):=by
 intro S w us hS C9;simp only[AL,CV]at C9;obtain⟨u,r,rfl,⟨vs,rfl,EZ⟩,rfl⟩:=C9;obtain⟨fn,hf,hb,hn⟩:=UB Au;refine(AJ2 g vs w (fun cs w2=>∃S',(∀b j,S b j->S' b j)/\(∀b j,S' b j->S b j\/(w.heap.size+2<=b/\b<w2.heap.size))/\CV (Cx.bare S') w2 (.agg l) (.agg cs)) (fun w1 Ev hs1=>?_) ⟨fn,hf,(by intro e;rw[e]at hb;cases hb),by simpa using hn⟩).mono ?_
 . have tA:=AL.mono (x':=Cx.bare S) (w':=w1) ⟨⟨fun _ _ h=>h,fun b j v _ hc=>Ev.cell hc⟩,fun _ h=>h.elim,fun _ h=>h.elim⟩ _ _ EZ;refine(Cs S w1 vs.toList (fun b j h=>H6 (hS b j h) Ev.size) tA).mono ?_;rintro r w2 ⟨u,S',rfl,hk2,DF,Hs,hcv⟩;have AB8:=hcv;simp only[CV]at AB8;obtain⟨cs,rfl,hcs⟩:=AB8;refine⟨cs,rfl,by have:=hcs.len;simpa [hl]using this,fun y hy=>?_,hk2,S',DF.sub,fun b j h=>(Hs b j h).imp id fun h=>⟨by omega,h.2⟩,hcv⟩;have dS:=CV.cells (v:=.agg l) hcv (by simpa [V.flat]using h1);exact dS.2 y (by simpa [Value.cells]using hy)
 . rintro r w' ⟨cs,w2,rfl,hk,⟨S',Nr,Hs,hcv⟩,hkb⟩;have DF:Ar S' S' w2 w':=⟨fun _ _ h=>h,fun b j v hs hc=>hkb.cell (by
    rcases Hs b j hs with h|h
    . have:=hS b j h;omega
    . omega) hc⟩
   have AB7:=CV.mono (x:=Cx.bare S') (x':=Cx.bare S') (w':=w') ⟨DF,fun _ h=>h.elim,fun _ h=>h.elim⟩ _ _ hcv;refine⟨_,S',rfl,hk,⟨Nr,fun b j v _ hc=>hk.cell hc⟩,fun b j h=>(Hs b j h).imp id fun h=>⟨by omega,H6 h.2 hkb.size⟩,?_⟩;simp only[CV,AL,Ap]at AB7 ⊢;exact⟨_,rfl,_,_,rfl,AB7,_,_,rfl,⟨rfl,by decide +kernel⟩,rfl⟩
section
variable {P:Program} {Q:Exit->Act->World->Prop} {K:World->World->Prop} {a0:Act} {w0:World} {l:List Oper} {m n:Nat}
theorem AST [Grow K]{id:Nat}(n:Nat)(hm:P.follows .mixedOrders=true)(hc:(NF l 0 n && fu l n l.length)=true)(hz:((l.take n).all fun o=>match o.dst with|some d=>decide (d<a0.tmps.size)|none=>true)=true)(h : ∀w1,AS w0 w1->RG P l.toArray Q K a0 w1 (l.take n) [] fun acc=>∀W,K w1 W->Gn (wpList P l.toArray Q (l.drop n)) acc.reverse a0 W):(Code.region id l.toArray true).wp P Q a0 w0:=by
 rw[An]at hc;refine AFY hm (AHk (K:=K) hc.1 hz ?_);have:=h w0.drew (AS.refl _).drew;have hn:=nD hc.1;have mono : ∀(r:List (Option Tmp×Post)) (a:Act) (W:World),Gn (wpList P l.toArray Q (l.drop n)) r a W->Gn (PV P l Q n) r a W:=by
  intro r;induction r with
  | nil =>
    intro a W h;simp only[Gn]at h ⊢;refine AHl hc.2 hn (l.length - n) n a W (by omega) (Nat.le_refl _) ?_;rw[List.take_of_length_le (by simp)];exact n4 h
  | cons q r ih=>obtain⟨d,p⟩:=q;intro a W h v hv;exact ih _ _ (h v hv)
 have vy : ∀(r:List Oper) (acc:List (Option Tmp×Post)) (f g:List (Option Tmp×Post)->Prop),(∀x,f x->g x)->RG P l.toArray Q K a0 w0.drew r acc f->RG P l.toArray Q K a0 w0.drew r acc g:=by
  intro r;induction r with
  | nil=>intro acc f g Wb h;exact Wb _ h
  | cons o r ih=>intro acc f g Wb h;obtain⟨p,h1,h2,h3⟩:=h;exact⟨p,h1,h2,ih _ _ _ Wb h3⟩
 exact vy _ _ (fun acc=>∀W,K w0.drew W->Gn (wpList P l.toArray Q (l.drop n)) acc.reverse a0 W) _ (fun acc h W hW=>mono _ _ _ (h W hW)) (by simpa using this)
theorem fe [Grow K]{ops:Array Oper}{o:Oper}{r:List Oper}{acc:List (Option Tmp×Post)}{fin:List (Option Tmp×Post)->Prop}(p:Post)(hst:Q8 K p)(hg:o.guard=none)(h : ∀(a:Act) (W:World),K w0 W->(∀t∈looks ops o,C0 a0 acc t (a.tmps.getD t undef) W)->∃v W',(execOp a.eval o).run P W=.ok (.value v) W'/\p v W'/\K W W')(hr:RG P ops Q K a0 w0 r ((o.dst,p)::acc) fin):RG P ops Q K a0 w0 (o::r) acc fin:=by
 refine⟨p,hst,fun a W hk hf=>?_,hr⟩;have hw:DV o (yielded ops a.tmps)=true:=by simp[DV,hg]
 rw[if_pos hw];unfold Oper.wp;obtain⟨v,W',h1,h2,h3⟩:=h a W hk hf;rw[h1];exact⟨v,rfl,h3,h2⟩
theorem ASf [Grow K]{ops:Array Oper}{o:Oper}{r:List Oper}{acc:List (Option Tmp×Post)}{fin:List (Option Tmp×Post)->Prop}(p:Post)(hst:Q8 K p)(hg:o.guard=none)(h : ∀(a:Act) (W:World),K w0 W->(∀t∈looks ops o,C0 a0 acc t (a.tmps.getD t undef) W)->∃f args,(execOp a.eval o).run P W=.ok (.enter f args) W/\
   Calls P f args W fun e W'=>∃v,e=.returned v/\p v W'/\K W W')(hr:RG P ops Q K a0 w0 r ((o.dst,p)::acc) fin):RG P ops Q K a0 w0 (o::r) acc fin:=by
 refine⟨p,hst,fun a W hk hf=>?_,hr⟩;have hw:DV o (yielded ops a.tmps)=true:=by simp[DV,hg]
 rw[if_pos hw];unfold Oper.wp;obtain⟨f,args,h1,h2⟩:=h a W hk hf;rw[h1];refine h2.mono ?_;rintro e W' ⟨v,rfl,hv,hk'⟩;exact⟨v,rfl,hk',hv⟩
end
theorem AWB:SU F0:=by
 intro y hy;simp[F0]at hy;rcases hy with rfl|rfl|rfl|rfl|rfl|rfl|rfl|rfl|rfl|rfl|rfl<;>rfl
theorem AU4 (n:Int)(w:World):(Instr.typeAssert (.iface 42 (.int .i64 n)) 20 42 true).run AD w=.ok (.tuple #[.int .i64 n,.bool true]) w:=by
 unfold Instr.typeAssert;simp only[Sem.run_bind,run_underlying Tryz.underlying42,Result.andThen_ok];rfl
theorem AJ6 (g0 g1:Nat)(hne:g0≠g1)(n:Int)(cs0:Array Value)(w:World)(b0:B8 w g0 41 cs0)(QL:cs0.size=11)(b1:B8 w g1 42 #[.int .i64 0]) :
 CallsD AD 96 #[.pointer (some ⟨g0,0,none⟩),.pointer (some ⟨g1,0,none⟩)] (.panicking [⟨.iface 42 (.int .i64 n),false,false⟩]) w fun e u' w'=>e=.returned (.tuple #[])/\u'=.panicking [⟨.iface 42 (.int .i64 n),true,false⟩]/\w'=(w.setRow g0 F0).setRow g1 #[.int .i64 n]:=by
 refine callsD_of_wpS Tryz.func96 rfl fun rW cs hu=>?_
 apply wpS_seq;apply wpS_region;simp[wpOpsS,go_sem,recoverD,hu,Tryz.ntmps96,Exit.thenS];refine wpS_of_wp ?_;have hz:(zeroValue 41).run AD w=.ok (.agg F0) w:=by kernel_rfl
 have B0:=Cr b0;have B1:=Cr b1;have Wr:=AU4 n w;have Sy:I7 AD 41 F0.size:=jc;have c1:(w.setRow g0 F0).cell? ⟨g1,0,none⟩=some (.int .i64 0):=(B8.LU b1 F0 (g:=g0) (by omega)).cell 0;have d1:=(B8.LU b1 F0 (g:=g0) (by omega)).frozen 0;clear b0 b1;cases rW;change Code.wp _ _ _ { tmps:=#[.pointer (some ⟨g0,0,none⟩),.pointer (some ⟨g1,0,none⟩),undef,undef,undef,.iface 42 (.int .i64 n),undef,undef,undef,undef,undef,undef,undef],defers:=[] } w;go_wp2_with (((with_reducible refine xP (ty:=41) (g0) (F0) ?_ ?_ ?_ ?_ ?_ ?_ ?_);(focus rfl);(focus rfl);(focus exact⟨_,_,B0.out,Eq.symm (QL.symm)⟩);(focus exact AWB);(focus exact Sy);(focus rfl)))
 have hs1:(w.setRow g0 F0).setCell ⟨g1,0,none⟩ (.int .i64 n)=(w.setRow g0 F0).setRow g1 #[.int .i64 n]:=by
  rw[setCell_eq_setRow _ _ 0 #[.int .i64 0] 42 (0,0) _ (B8.LU B1.out F0 (g:=g0) (by omega))];rfl
 exact⟨rfl,_,rfl,.tuple #[],by simp[results,Tryz.results96],rfl,rfl,hs1⟩
theorem AJ5 (f:FuncId)(caps:Array Value)(w:World)(n:Int)(hcall : ∀w1,AS w w1->w1.heap.size=w.heap.size+2->Calls AD f caps w1 fun r w2=>r=.panicked [⟨.iface 42 (.int .i64 n),false,false⟩]/\AS w1 w2)(hf : ∃fn,AD.funcs[f]?=some fn/\fn.body≠none/\fn.name≠ "runtime.NumGoroutine") :
 Calls AD 52 #[.func (.func f) #[] caps] w fun r w'=>r=.returned (.tuple #[.agg F0,.int .i64 n])/\AS w w':=by
 have hmf : ∀(fn:Fn) (first cap:Array Value) (w:World),(xd fn first cap).run AD w=.ok (.func fn first cap) w:=fun _ _ _ _=>rfl
 obtain⟨fn,EP,ME,hname⟩:=hf;go_enter_defers Tryz.func52,Tryz.ntmps52
 have hrun : ∀W:World,(callFunc f caps).run AD W=.ok (.enter f caps) W:=fun W=>by simp[callFunc,program,I5,EP,hname,ME]
 go_wp2;refine(hcall _ (by repeat (with_reducible first|exact AS.refl _|assumption|apply AS.alloc|apply AS.drew|apply AS.drewN|(refine AS.setRow ?_ (by omega) _)|refine AS.trans ?_ (by assumption))) (by simp)).mono ?_;rintro r w2 ⟨rfl,hk⟩;have Is:=hk.size;simp only[qH]at Is;have b0:B8 w2 w.heap.size 41 F0:=hk.blk ((B8.new _ _ _).alloc _);have b1:B8 w2 (w.heap.size+1) 42 #[.int .i64 0]:=hk.blk (B8.at_ _ _ _ (by simp));have Sy:I7 AD 41 F0.size:=jc;have hb0:B8 ((w2.setRow w.heap.size F0).setRow (w.heap.size+1) #[.int .i64 n]) w.heap.size 41 F0:=B8.LU (b0.Xr F0) _ (by omega);have JJ:B8 ((w2.setRow w.heap.size F0).setRow (w.heap.size+1) #[.int .i64 n]) (w.heap.size+1) 42 #[.int .i64 n]:=(B8.LU b1 F0 (g:=w.heap.size) (by omega)).Xr _;obtain⟨W,hW⟩:=AE ((w2.setRow w.heap.size F0).setRow (w.heap.size+1) #[.int .i64 n]);have hkb:KB (fun b=>b=w.heap.size\/b=w.heap.size+1) w2 W:=by
  rw[<-hW];refine⟨rfl,rfl,rfl,by simp,fun k _ hn=>?_⟩;rw[setRow_other _ _ _ _ (fun e=>hn (.inr e)),setRow_other _ _ _ _ (fun e=>hn (.inl e))]
 refine leaves_cons (f:=96) (args:=#[.pointer (some ⟨w.heap.size,0,none⟩),.pointer (some ⟨w.heap.size+1,0,none⟩)]) (by simp) (by simp[go_sem]) ?_;refine(AJ6 w.heap.size (w.heap.size+1) (by omega) n F0 w2 b0 rfl b1).mono ?_;rintro e u' w'' ⟨rfl,rfl,rfl⟩;rw[hW]at hb0 JJ ⊢;have hl0:(loadVar 41 ⟨w.heap.size,0,none⟩).run AD W=.ok (.agg F0) W:=nP hb0.row Sy;have F8:(loadVar 42 ⟨w.heap.size+1,0,none⟩).run AD W=.ok (.int .i64 n) W:=by
  have:(isAgg 42).run AD W=.ok false W:=by kernel_rfl
  simp[loadVar,this,load,I5,JJ.cell]
 have Y7:AS w W:=hkb.after (w:=w) (AS.trans ((((AS.refl w).alloc _).alloc _)) hk) (fun k hk2=>by omega);refine⟨.tuple #[.agg F0,.int .i64 n],?_,rfl,Y7⟩;simp[results,Tryz.results52,asAddr,hl0,F8]
theorem VD {kids:List AA}{sp:List Int}{c:AA}(h:okB (El kids sp)=some c):c=NA kids (FG kids sp 0) (Eh kids sp 0)/\sp.length=kids.length/\c.Av=true:=by
 have hv:=ZV h;unfold El at h;split at h
 . simp[okB]at h
 . split at h
   . simp[okB]at h
   . rename_i h2;unfold Rl at h;split at h
     . simp[okB]at h
     . simp only[okB,if_true,BE]at h;exact⟨h.symm,by omega,hv⟩
end Go.Proofs.YtpodcjcajanldaaGreat
