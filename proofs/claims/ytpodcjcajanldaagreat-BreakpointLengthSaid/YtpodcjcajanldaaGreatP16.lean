/- Part of the proof of breakpointLength.proved. Conditions: none. (Joined and shortened by a program.) -/
import Derived.MapKept
import Derived.Test.YtpodcjcajanldaaGreatP15
set_option linter.unusedVariables false
set_option linter.unusedSimpArgs false
set_option maxRecDepth 100000
set_option maxHeartbeats 16000000
open Go.Proofs.Tryz renaming prog→AD
open Go.Proofs.YtpodcjcajanldaaGreat.Rows renaming layoutStyleRow→ABd
open Go.Instr renaming makeMap→Z1,checkKey→oH
open Go.Sem renaming run_bind→H9
open Go.Op renaming equal→OI,equalIn→YD
open Go.MapKept renaming run_checkKey→AIW
namespace Go.Proofs.YtpodcjcajanldaaGreat
open Go.RowKit
section
open Go.ChangeShapes Go.WideShapes Go.ChangeAt Go.RowKit
theorem q1:laidOutB AD=true:=by kernel_rfl
theorem q2:mapsRowed AD=true:=by kernel_rfl
theorem q6:(AD.stops ==[])=true:=by kernel_rfl
theorem q8:(AD.stopKnobs ==[])=true:=by kernel_rfl
theorem mv:(ABd.plainKeys==AD.plainKeys)=true:=by kernel_rfl
theorem mw:ABd.shortTexts.isNone=true:=by kernel_rfl
end
def gG (P:Program)(t:TypeId):Bool:=
 match P.underlying t with
 | some (.pointer _)=>true
 | _=>false
section
variable {P:Program} {S0:Ba} {w0:Bs} {x:Cx} {w:World} {H:Heap} {a:Act} {o:Oper} {e:Operand->V} {v:V}
theorem AP3 (g:Good S0 w0 x w H){R:Nat->Obj->Prop}(hR : ∀b,R b (.map #[] 0)){t:TypeId}{r:Option Operand}(ho:o.op=.makeMap t r)(hr:(Z1 t (r.map a.eval)).run P w=.ok (.map (some w.heap.size)) (w.alloc (.map #[] 0)))(k:Nat)(hk : ¬x.dom k):Bm P o a S0 w0 x w H (.mp k) (some (k,.mp R)):=by
 have Et:AS w (w.alloc (.map #[] 0)):=(AS.refl w).alloc _;have he:Ext x (x.Dl k ⟨w.heap.size,0,false,0,false⟩) w (w.alloc (.map #[] 0)):=Good.kV k _ hk fun b j v _ hc=>Et.cell hc
 have g':=g.IN k (.mp R) he (.GA Et) (fun i=>Iff.rfl) (fun i hi=>by simp[Cx.Dl,hi]) (fun _=>.inr (by simp[Cx.Dl])) ⟨by simp[Cx.Dl],by simp[Cx.Dl],_,by simp only[Cx.Dl,if_true];exact heap_alloc_new w _,rfl,hR _⟩ (fun b j h=>.inl h) (fun j hx hs=>hx);refine⟨_,_,_,.map (some w.heap.size),?_,.inl rfl,?_,g',he,fun k' h=>h.elim .inl fun e=>.inr ⟨.mp R,by rw[e]⟩,fun _=>rfl⟩
 . simp only[execOp,ho,H9,hr,Result.andThen_ok];rfl
 . simp only[CV,Cx.Dl,if_true];exact⟨.inr trivial,trivial,trivial⟩
theorem ATI (t:TypeId)(w:World):(Z1 t none).run P w=.ok (.map (some w.heap.size)) (w.alloc (.map #[] 0)):=by simp[Z1]
theorem AU3 {t:TypeId}(h:gG P t=true):∃te,P.underlying t=some (.pointer te):=by
 unfold gG at h;split at h
 . rename_i te e;exact⟨te,e⟩
 . cases h
theorem AEO (g:Good S0 w0 x w H){op:BinOp}{t t':TypeId}{y z:Operand}{b:Bool}(ho:o.op=.binOp op t y z t')(hop:op=.eql/\b=false\/op=.neq/\b=true)(ht:gG P t=true){A:Option Addr}(hy:a.eval y=.pointer A)(hz:a.eval z=.pointer none):Bm P o a S0 w0 x w H (.c (.bool (b ^^ A.isNone))) none:=by
 obtain⟨te,hu⟩:=AU3 ht;have he:(OI t (.pointer A) (.pointer none)).run P w=.ok A.isNone w:=by
  have e:OI t (.pointer A) (.pointer none)=YD (9999+1) t (.pointer A) (.pointer none):=rfl;rw[e];unfold YD;cases A<;>simp[run_underlying hu]
 refine Bm.pure g (u:=.bool (b ^^ A.isNone)) ?_ (by simp only[CV,Ap]);rcases hop with ⟨rfl,rfl⟩|⟨rfl,rfl⟩
 . have hq:(eqGuard .eql t y z (.pointer A) (.pointer none)).run P w=.ok () w:=rfl;have hb:binOp .eql t (.pointer A) (.pointer none)=(do pure (.bool (<-OI t (.pointer A) (.pointer none)))):=rfl;simp[execOp,ho,hy,hz,H9,hq,hb,he]
 . have hq:(eqGuard .neq t y z (.pointer A) (.pointer none)).run P w=.ok () w:=rfl;have hb:binOp .neq t (.pointer A) (.pointer none)=(do pure (.bool (!(<-OI t (.pointer A) (.pointer none))))):=rfl;simp[execOp,ho,hy,hz,H9,hq,hb,he]
end
section
variable {S0:Ba} {w0:Bs} {x:Cx} {w:World} {H:Heap} {a:Act} {o:Oper} {e:Operand->V} {v:V}
theorem wK (em:Bool)(s:ByteArray)(n:Int)(w:World):(oH em 10000 225 (.agg #[.string s,.int .i64 n])).run AD w=.ok () w:=by
 have h:(10000:Nat)=9999+1:=rfl;rw[h];unfold oH;have h1 : ∀w,(oH em 9999 9 (.string s)).run AD w=.ok () w:=fun w=>AIW (k:=.string s) Tryz.underlying9 trivial em 9998
 have h2 : ∀w,(oH em 9999 3 (.int .i64 n)).run AD w=.ok () w:=fun w=>AIW (k:=.int .i64 n) Tryz.underlying3 (by simp[MapKept.IsKey]) em 9998
 have p1 : ∀w,(part 9 #[.string s,.int .i64 n] 0).run AD w=.ok (.string s) w:=fun w=>by
  have:(isAgg 9).run AD w=.ok false w:=by kernel_rfl
  simp[part,this]
 have p2 : ∀w,(part 3 #[.string s,.int .i64 n] 1).run AD w=.ok (.int .i64 n) w:=fun w=>by
  have:(isAgg 3).run AD w=.ok false w:=by kernel_rfl
  simp[part,this]
 simp[run_underlying Tryz.underlying225,h1,h2,p1,p2]
theorem ABN {s:ByteArray}{n:Int}{u:Value}(h:CV x w (.agg [.c (.str s),.c (.int .i64 n)]) u):u=.agg #[.string s,.int .i64 n]:=by
 simp only[CV,AL,Ap]at h;obtain⟨vs,rfl,u1,r1,e1,⟨rfl,_⟩,u2,r2,rfl,⟨rfl,_⟩,rfl⟩:=h;congr 1
 exact Array.toList_inj.1 e1
end
end Go.Proofs.YtpodcjcajanldaaGreat
