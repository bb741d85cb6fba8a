/-
  catch (layer 38): a call whose panic, if there is one, a deferred closure recovers.
-/
import Derived.Test.YtnpenchciinmmaaGreatQa
import Derived.Tactics
import Derived.Tactics2
import Derived.Defers
import Derived.Recover
namespace Go.Proofs.YtnpenchciinmmaaGreat
open Go.RowKit
set_option linter.unusedSimpArgs false
set_option linter.unusedVariables false
set_option maxRecDepth 100000

theorem catch_idle (p q : Addr) (w : World) : CallsD Tryz.prog 70 #[.pointer (some p), .pointer (some q)] .returning w fun e u' w' => e = .returned (.tuple #[]) ∧ u' = .returning ∧ w' = w := by
  refine callsD_of_wpS Tryz.func70 rfl fun c₀ cs hu => ?_
  apply wpS_seq
  apply wpS_region
  simp [wpOpsS, go_sem, recoverD, hu, Tryz.ntmps70, Exit.thenS]
  refine wpS_of_wp ?_
  cases c₀
  go_wp2
  simp_all [bodyPostS, results, Tryz.results70]
theorem agg_box46 : AggTy Tryz.prog 36 11 := AggTy.mk' Tryz.underlying36 rfl (by kernel_rfl)
def zBox46 : Array Value := #[.int .i64 0, .string ⟨#[]⟩, .int .i64 0, .int .i64 0, .int .i64 0, .int .i64 0, .int .i64 0, .int .i64 0, .slice none 0 0, .int .i64 0, .slice none 0 0]
set_option maxHeartbeats 1600000 in
theorem catch_c (f : FuncId) (caps : Array Value) (w : World) (Z : Array Value → World → Prop)
    (hcall : ∀ w1, Keep w w1 → w1.heap.size = w.heap.size + 2 → Calls Tryz.prog f caps w1 fun r w2 => ∃ cs, r = .returned (.agg cs) ∧ cs.size = 11 ∧ Ones cs ∧ Keep w1 w2 ∧ Z cs w2) (hf : ∃ fn, Tryz.prog.funcs[f]? = some fn ∧ fn.body ≠ none ∧ fn.name ≠ "runtime.NumGoroutine") :
    Calls Tryz.prog 51 #[.func (.func f) #[] caps] w fun r w' => ∃ cs w2, r = .returned (.tuple #[.agg cs, .int .i64 0]) ∧ Keep w w' ∧ Z cs w2 ∧ KB (fun b => b = w.heap.size ∨ b = w.heap.size + 1) w2 w' := by
  have hmf : ∀ (fn : Fn) (first cap : Array Value) (w : World), (Instr.makeFunc fn first cap).run Tryz.prog w = .ok (.func fn first cap) w := fun _ _ _ _ => rfl
  obtain ⟨fn, hfn, hbody, hname⟩ := hf
  go_enter_defers Tryz.func51, Tryz.ntmps51
  have hrun : ∀ W : World, (callFunc f caps).run Tryz.prog W = .ok (.enter f caps) W := fun W => by simp [callFunc, program, Sem.run, hfn, hname, hbody]
  go_wp2
  refine (hcall _ (by repeat (with_reducible first | exact Keep.refl _ | assumption | apply Keep.alloc | apply Keep.drew | apply Keep.drewN | (refine Keep.setRow ?_ (by omega) _) | refine Keep.trans ?_ (by assumption))) (by simp)).mono ?_
  rintro r w2 ⟨cs, rfl, hs, h1, hk, hz⟩
  have hag : AggTy Tryz.prog 36 cs.size := by rw [hs]; exact agg_box46
  have hz2 := hk.size
  simp only [World.size_alloc] at hz2
  have b0 : Blk w2 w.heap.size 36 zBox46 := hk.blk ((Blk.new _ _ _).alloc _)
  have b1 : Blk w2 (w.heap.size + 1) 29 #[.int .i64 0] := hk.blk (Blk.at_ _ _ _ (by simp))
  have c1 : (w2.setRow w.heap.size cs).cell? ⟨w.heap.size + 1, 0, none⟩ = some (.int .i64 0) := (Blk.far b1 cs (g := w.heap.size) (by omega)).cell 0
  have d1 := (Blk.far b1 cs (g := w.heap.size) (by omega)).frozen 0
  have B0 := Lib.hid b0
  have B1 := Lib.hid b1
  clear b0 b1
  go_wp2_with ((with_reducible refine wl_store_in (ty := 36) (w.heap.size) (cs) ?_ ?_ ?_ ?_ ?_ ?_ ?_
                · rfl
                · rfl
                · exact ⟨_, _, B0.out, Eq.symm (hs)⟩
                · exact h1
                · exact hag
                · rfl))
  have hs1 : (w2.setRow w.heap.size cs).setCell ⟨w.heap.size + 1, 0, none⟩ (.int .i64 0) = (w2.setRow w.heap.size cs).setRow (w.heap.size + 1) #[.int .i64 0] := by
    rw [setCell_eq_setRow _ _ 0 #[.int .i64 0] 29 (0, 0) _ (Blk.far B1.out cs (g := w.heap.size) (by omega))]
    rfl
  rw [hs1]
  have hb0 : Blk ((w2.setRow w.heap.size cs).setRow (w.heap.size + 1) #[.int .i64 0]) w.heap.size 36 cs := Blk.far (B0.out.set_ cs) _ (by omega)
  have hb1 : Blk ((w2.setRow w.heap.size cs).setRow (w.heap.size + 1) #[.int .i64 0]) (w.heap.size + 1) 29 #[.int .i64 0] := (Blk.far B1.out cs (g := w.heap.size) (by omega)).set_ _
  obtain ⟨W, hW⟩ : ∃ W, (w2.setRow w.heap.size cs).setRow (w.heap.size + 1) #[.int .i64 0] = W := ⟨_, rfl⟩
  have hkb : KB (fun b => b = w.heap.size ∨ b = w.heap.size + 1) w2 W := by
    rw [← hW]
    refine ⟨rfl, rfl, rfl, by simp, fun k _ hn => ?_⟩
    rw [setRow_other _ _ _ _ (fun e => hn (.inr e)), setRow_other _ _ _ _ (fun e => hn (.inl e))]
  rw [hW] at hb0 hb1 ⊢
  refine leaves_cons (f := 70) (args := #[.pointer (some ⟨w.heap.size, 0, none⟩), .pointer (some ⟨w.heap.size + 1, 0, none⟩)]) (by simp) (by simp [go_sem]) ?_
  refine (catch_idle ⟨w.heap.size, 0, none⟩ ⟨w.heap.size + 1, 0, none⟩ W).mono ?_
  rintro e u' w'' ⟨rfl, rfl, rfl⟩
  have hl0 : (loadVar 36 ⟨w.heap.size, 0, none⟩).run Tryz.prog w'' = .ok (.agg cs) w'' := run_loadVar_at hb0.row hag
  have hl1 : (loadVar 29 ⟨w.heap.size + 1, 0, none⟩).run Tryz.prog w'' = .ok (.int .i64 0) w'' := by
    have : (isAgg 29).run Tryz.prog w'' = .ok false w'' := by kernel_rfl
    simp [loadVar, this, load, Sem.run, hb1.cell]
  have hkw : Keep w w'' := by
    have := hkb.after (w := w) (Keep.trans ((((Keep.refl w).alloc _).alloc _)) hk) (fun k hk2 => by omega)
    exact this
  refine ⟨.tuple #[.agg cs, .int .i64 0], ?_, cs, w2, rfl, hkw, hz, hkb⟩
  simp [results, Tryz.results51, asAddr, hl0, hl1]
/-- catch, as a contract on data -/
theorem catch_ac (g : FuncId) (caps : List V) (l : List V) (hac : AC Tryz.prog g caps (.agg l)) (hok : callOk Tryz.prog g = true) (hl : l.length = 11) (h1 : l.all V.one = true) : AC Tryz.prog 51 [.fn g caps] (.tup [.agg l, .c (.int .i64 0)]) := by
  intro S w us hS hus
  simp only [CVs, CV] at hus
  obtain ⟨u, r, rfl, ⟨vs, rfl, hcaps⟩, rfl⟩ := hus
  obtain ⟨fn, hf, hb, hn⟩ := callOk_ok hok
  refine (catch_c g vs w (fun cs w2 => ∃ S', (∀ b j, S b j → S' b j) ∧ (∀ b j, S' b j → S b j ∨ (w.heap.size + 2 ≤ b ∧ b < w2.heap.size)) ∧ CV (Cx.bare S') w2 (.agg l) (.agg cs)) (fun w1 hk1 hs1 => ?_) ⟨fn, hf, (by intro e; rw [e] at hb; cases hb), by simpa using hn⟩).mono ?_
  · have hcaps1 := CVs.mono (x' := Cx.bare S) (w' := w1) ⟨⟨fun _ _ h => h, fun b j v _ hc => hk1.cell hc⟩, fun _ h => h.elim, fun _ h => h.elim⟩ _ _ hcaps
    refine (hac S w1 vs.toList (fun b j h => Nat.lt_of_lt_of_le (hS b j h) hk1.size) hcaps1).mono ?_
    rintro r w2 ⟨u, S', rfl, hk2, har, hnew, hcv⟩
    have hcv0 := hcv
    simp only [CV] at hcv0
    obtain ⟨cs, rfl, hcs⟩ := hcv0
    refine ⟨cs, rfl, by have := hcs.len; simpa [hl] using this, fun y hy => ?_, hk2, S', har.sub, fun b j h => (hnew b j h).imp id fun h => ⟨by omega, h.2⟩, hcv⟩
    have hcells := CV.cells (v := .agg l) hcv (by simpa [V.flat] using h1)
    exact hcells.2 y (by simpa [Value.cells] using hy)
  · rintro r w' ⟨cs, w2, rfl, hk, ⟨S', hsub, hnew, hcv⟩, hkb⟩
    have har : Ar S' S' w2 w' := ⟨fun _ _ h => h, fun b j v hs hc => hkb.cell (by
      rcases hnew b j hs with h | h
      · have := hS b j h; omega
      · omega) hc⟩
    have hcv' := CV.mono (x := Cx.bare S') (x' := Cx.bare S') (w' := w') ⟨har, fun _ h => h.elim, fun _ h => h.elim⟩ _ _ hcv
    refine ⟨_, S', rfl, hk, ⟨hsub, fun b j v _ hc => hk.cell hc⟩, fun b j h => (hnew b j h).imp id fun h => ⟨by omega, Nat.lt_of_lt_of_le h.2 hkb.size⟩, ?_⟩
    simp only [CV, CVs, RdC] at hcv' ⊢
    exact ⟨_, rfl, _, _, rfl, hcv', _, _, rfl, ⟨rfl, by decide +kernel⟩, rfl⟩
end Go.Proofs.YtnpenchciinmmaaGreat
