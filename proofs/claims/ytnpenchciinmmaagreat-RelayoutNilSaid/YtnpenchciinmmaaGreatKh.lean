/-
  slices.Grow of an empty slice: a room of its own.
-/
import Derived.Test.YtnpenchciinmmaaGreatKg
import Derived.Lib.AppendZerosOnto
import Derived.Tactics
import Derived.Tactics2
namespace Go.Proofs.YtnpenchciinmmaaGreat
open Go.RowKit
set_option linter.unusedSimpArgs false
set_option linter.unusedVariables false
set_option maxRecDepth 100000

set_option maxHeartbeats 1600000 in
theorem grow_run (A : Option Addr) (n : Nat) (h0 : 0 < n) (hn : n ≤ 1000000) (w : World) : Calls Tryz.prog 119 #[.slice A 0 0, .int .i64 n] w fun r w' =>
    ∃ cap vs, r = .returned (.slice (some ⟨w.heap.size, 0, none⟩) 0 cap) ∧ w' = w.drew.alloc (.cells vs 3) ∧ vs.size = cap ∧ cap ≤ maxLen := by
  have hi : ¬ ((n : Int) < 0) := by omega
  have hw : IntKind.i64.wrap (n : Int) = n := wrap_i64 (by omega) (by omega)
  have hgt : (n : Int) > 0 := by omega
  obtain ⟨hu, ie, zv, hie, hz, hsz, hby, hzs⟩ := tElem_ok (show tElem Tryz.prog 22 = some (3, 1, 8) by kernel_rfl)
  have hnx : Builtin.nextslicecap (0 + n) 0 * ie.bytes ≤ 281474976710656 := by rw [hby]; exact growslice_fits (by omega) (by omega)
  have happ := Go.Lib.run_append_grow_zeros (P := Tryz.prog) w 22 3 22 3 ie zv .i64 .i64 hu (by kernel_rfl) hie hz A 0 0 [] (by cases A with
    | none => simp [Builtin.firstCells]
    | some ad => simpa [Builtin.firstCells] using run_loadCells_list (P := Tryz.prog) w.drew ad [] (by simp)) n h0 (by omega) (by omega) (by omega) (by rw [hby]; omega) hnx
  have hge := grownCap_ge w (0 + n) 0 3
  have hle := grownCap_le_maxLen w (0 + n) 0 3 (by unfold maxLen; omega)
  obtain ⟨arr, harr⟩ : ∃ arr, ([] : List Value).toArray ++ Builtin.zeroCells zv.cells n ++ Builtin.zeroCells zv.cells (grownCap w (0 + n) 0 3 - (0 + n)) = arr := ⟨_, rfl⟩
  rw [harr] at happ
  have hsize : arr.size = grownCap w (0 + n) 0 3 := by rw [← harr]; simp [size_zeroCells, hzs]; rw [Nat.zero_add] at hge; omega
  obtain ⟨cap, hcap⟩ : ∃ cap, grownCap w (0 + n) 0 3 = cap := ⟨_, rfl⟩
  rw [hcap] at happ hge hle hsize
  have hc0 : ¬ ((cap : Int) < 0) := by omega
  clear hcap harr hnx hz hie hu
  go_enter Tryz.func119, Tryz.ntmps119
  go_wp2_with (at_builtin; refine Go.Lib.wpList_append_run _ rfl _ _ _ _ rfl _ _ rfl rfl _ _ happ ?_)
  simp [bodyPost, results, Tryz.results119]
  exact ⟨arr, rfl, hsize, hle⟩
theorem grow_h (n : Nat) (h0 : 0 < n) (hn : n ≤ 1000000) (h : List O) : HC Tryz.prog 119 [.full [], .c (.int .i64 n)] h (.ret (.gr h.length 1 [])) (h ++ [.tok 3 1 0]) := by
  refine ⟨by kernel_rfl, fun {S0 w0 x w us} g hus => ?_⟩
  simp only [CVs, CV, RdC] at hus
  obtain ⟨u1, r1, rfl, ⟨A, rfl, _⟩, u2, r2, rfl, ⟨rfl, _⟩, rfl⟩ := hus
  refine (grow_run A n h0 hn w).mono ?_
  rintro r w' ⟨cap, vs, rfl, rfl, hsz, hle⟩
  have hk : ¬ x.dom h.length := fun hd => by obtain ⟨o, ho⟩ := g.dom _ hd; simp at ho
  obtain ⟨g', he, _⟩ := g.growTok h.length (ety := 3) (es := 1) (m := 0) (cap := cap) (vs := vs) (fun o ho => by simp at ho) (by omega) (l := []) (by simp [RdL]) (by simp) (by omega)
  have e := updH_eq h (some (h.length, O.tok 3 1 0)) (fun k o e => by cases e; exact Nat.le_refl _)
  simp only [updH, Nat.lt_irrefl, if_false, Heap.upd] at e
  refine ⟨_, by rw [e]; exact g', he, .of_keep ((Keep.refl w).drew.alloc _), _, rfl, ?_⟩
  simp only [CV, RdC, Cx.grow, if_true, List.length_nil, Bool.false_eq_true, if_false]
  refine ⟨.inr trivial, trivial, ⟨some ⟨w.heap.size, 0, none⟩, cap, rfl, by omega, hle, fun h => absurd rfl h⟩, by simp, Nat.le_refl _, fun _ => ⟨cap, rfl, rfl⟩⟩
end Go.Proofs.YtnpenchciinmmaaGreat
