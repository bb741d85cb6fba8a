/-
  slices.Concat of rows of nodes.
-/
import Derived.Test.YtnpenchciinmmaaGreatKh
import Derived.Test.YtnpenchciinmmaaGreatBa
import Derived.Test.YtnpenchciinmmaaGreatTz
import Derived.Lib.AppendZerosOnto
import Derived.Tactics
import Derived.Tactics2
namespace Go.Proofs.YtnpenchciinmmaaGreat
open Go.RowKit
set_option linter.unusedSimpArgs false
set_option linter.unusedVariables false
set_option maxRecDepth 100000

set_option maxHeartbeats 1600000 in
theorem growN_run (A : Option Addr) (n : Nat) (h0 : 0 < n) (hn : n ≤ 1000000) (w : World) : Calls Tryz.prog 128 #[.slice A 0 0, .int .i64 n] w fun r w' =>
    ∃ cap vs, r = .returned (.slice (some ⟨w.heap.size, 0, none⟩) 0 cap) ∧ w' = w.drew.alloc (.cells vs 40) ∧ vs.size = cap * 4 ∧ cap ≤ maxLen := by
  have hi : ¬ ((n : Int) < 0) := by omega
  have hw : IntKind.i64.wrap (n : Int) = n := wrap_i64 (by omega) (by omega)
  have hgt : (n : Int) > 0 := by omega
  obtain ⟨hu, ie, zv, hie, hz, hsz, hby, hzs⟩ := tElem_ok (show tElem Tryz.prog 23 = some (40, 4, 56) by kernel_rfl)
  have hnx : Builtin.nextslicecap (0 + n) 0 * ie.bytes ≤ 281474976710656 := by rw [hby]; exact growslice_fits (by omega) (by omega)
  have happ := Go.Lib.run_append_grow_zeros (P := Tryz.prog) w 23 3 23 40 ie zv .i64 .i64 hu (by kernel_rfl) hie hz A 0 0 [] (by cases A with
    | none => simp [Builtin.firstCells]
    | some ad => simpa [Builtin.firstCells] using run_loadCells_list (P := Tryz.prog) w.drew ad [] (by simp)) n h0 (by omega) (by omega) (by omega) (by rw [hby]; omega) hnx
  have hge := grownCap_ge w (0 + n) 0 40
  have hle := grownCap_le_maxLen w (0 + n) 0 40 (by unfold maxLen; omega)
  obtain ⟨arr, harr⟩ : ∃ arr, ([] : List Value).toArray ++ Builtin.zeroCells zv.cells n ++ Builtin.zeroCells zv.cells (grownCap w (0 + n) 0 40 - (0 + n)) = arr := ⟨_, rfl⟩
  rw [harr] at happ
  have hsize : arr.size = grownCap w (0 + n) 0 40 * 4 := by rw [← harr]; simp [size_zeroCells, hzs]; rw [Nat.zero_add] at hge; omega
  obtain ⟨cap, hcap⟩ : ∃ cap, grownCap w (0 + n) 0 40 = cap := ⟨_, rfl⟩
  rw [hcap] at happ hge hle hsize
  have hc0 : ¬ ((cap : Int) < 0) := by omega
  clear hcap harr hnx hz hie hu
  go_enter Tryz.func128, Tryz.ntmps128
  go_wp2_with (at_builtin; refine Go.Lib.wpList_append_run _ rfl _ _ _ _ rfl _ _ rfl rfl _ _ happ ?_)
  simp [bodyPost, results, Tryz.results128]
  exact ⟨arr, rfl, hsize, hle⟩
theorem growN_h (n : Nat) (h0 : 0 < n) (hn : n ≤ 1000000) (h : List O) : HC Tryz.prog 128 [.full [], .c (.int .i64 n)] h (.ret (.gr h.length 4 [])) (h ++ [.tok 40 4 0]) := by
  refine ⟨by kernel_rfl, fun {S0 w0 x w us} g hus => ?_⟩
  simp only [CVs, CV, RdC] at hus
  obtain ⟨u1, r1, rfl, ⟨A, rfl, _⟩, u2, r2, rfl, ⟨rfl, _⟩, rfl⟩ := hus
  refine (growN_run A n h0 hn w).mono ?_
  rintro r w' ⟨cap, vs, rfl, rfl, hsz, hle⟩
  have hk : ¬ x.dom h.length := fun hd => by obtain ⟨o, ho⟩ := g.dom _ hd; simp at ho
  obtain ⟨g', he, _⟩ := g.growTok h.length (ety := 40) (es := 4) (m := 0) (cap := cap) (vs := vs) (fun o ho => by simp at ho) (by omega) (l := []) (by simp [RdL]) (by simp) (by omega)
  have e := updH_eq h (some (h.length, O.tok 40 4 0)) (fun k o e => by cases e; exact Nat.le_refl _)
  simp only [updH, Nat.lt_irrefl, if_false, Heap.upd] at e
  refine ⟨_, by rw [e]; exact g', he, .of_keep ((Keep.refl w).drew.alloc _), _, rfl, ?_⟩
  simp only [CV, RdC, Cx.grow, if_true, List.length_nil, Bool.false_eq_true, if_false]
  refine ⟨.inr trivial, trivial, ⟨some ⟨w.heap.size, 0, none⟩, cap, rfl, by omega, hle, fun h => absurd rfl h⟩, by simp, Nat.le_refl _, fun _ => ⟨cap, rfl, rfl⟩⟩
theorem concatN_a (A B D : List (List C)) (ha : A.length ≤ 100000) (hb : B.length ≤ 100000) (hd : D.length ≤ 100000) (hp : 0 < A.length + B.length + D.length) (hAr : ∀ r ∈ A, r.length = 4) (hBr : ∀ r ∈ B, r.length = 4) (hDr : ∀ r ∈ D, r.length = 4) : AC Tryz.prog 95 [.c (.sl [[.sl A], [.sl B], [.sl D]])] (.c (.sl (A ++ B ++ D))) := by
  have hw0 : IntKind.i64.wrap (A.length : Int) = (A.length : Int) := wrap_i64 (by omega) (by omega)
  obtain ⟨M, hM⟩ : ∃ M, A.length + B.length = M := ⟨_, rfl⟩
  obtain ⟨N, hN⟩ : ∃ N, M + D.length = N := ⟨_, rfl⟩
  have hw1 : IntKind.i64.wrap ((A.length : Int) + (B.length : Int)) = (M : Int) := by rw [wrap_i64 (by omega) (by omega)]; omega
  have hw2 : IntKind.i64.wrap ((M : Int) + (D.length : Int)) = (N : Int) := by rw [wrap_i64 (by omega) (by omega)]; omega
  have hn0 : ¬ ((A.length : Int) < 0) := by omega
  have hn1 : ¬ ((M : Int) < 0) := by omega
  have hn2 : ¬ ((N : Int) < 0) := by omega
  have k1 : IntKind.i64.wrap (0 + 1) = 1 := by decide +kernel
  have k2 : IntKind.i64.wrap (1 + 1) = 2 := by decide +kernel
  have k5 : IntKind.i64.wrap (2 + 1) = 3 := by decide +kernel
  have k3 : IntKind.i64.wrap 1 = 1 := by decide +kernel
  have k4 : IntKind.i64.wrap 2 = 2 := by decide +kernel
  have k6 : IntKind.i64.wrap 3 = 3 := by decide +kernel
  refine en Tryz.func95 Tryz.ntmps95 ?_
  refine go0 ?_
  refine LA.loop (LA.round ?_)
  refine go (cj @hw0 <| cj @hn0 <| cj @k1 <| @k3) ?_
  refine LA.round ?_
  refine go (cj @hw1 <| cj @hn1 <| cj @k2 <| @k4) ?_
  refine LA.round ?_
  refine go (cj @hw2 <| cj @hn2 <| cj @k5 <| @k6) ?_
  refine LA.round ?_
  have ff := (Tryz.results95)
  repeat any_goals (first | refine stN (RegN.mk 9) ?_ | exact lfW ff | refine ruW ff ?_ | refine cdW ff ?_ | ((first | refine bdW ff ?_ ?_ | refine bxW ff ?_ ?_ | refine bnW ff ?_ ?_ | refine brW ff ?_ ?_) <;> intro h <;> try (exfalso; first | omega | contradiction)))
  with_reducible refine AW.regionS ?_
  refine SW.take 1 ?_
  with_reducible refine aops_run (by simp [List.replicate_succ]; first | exact rfl | exact ⟨rfl, rfl⟩) ?_
  refine aops_done ?_
  simp only [List.drop_succ_cons, List.drop_zero]
  refine SW.callh (growN_h N (by omega) (by omega) []) (by simp [gate]) (by simp [callOf, ev]) ?_
  refine SW.take 1 ?_
  with_reducible refine aops_run (by simp [List.replicate_succ]; first | exact rfl | exact ⟨rfl, rfl⟩) ?_
  refine aops_done ?_
  simp only [List.drop_succ_cons, List.drop_zero]
  refine SW.nil ?_
  refine go0 ?_
  refine LA.loop (LA.round ?_)
  have g1 : A.length ≤ maxLen := by unfold maxLen; omega
  have g2 : A.length * 56 ≤ 140737488355328 := by omega
  have g3 : A.length + B.length ≤ maxLen := by unfold maxLen; omega
  have g4 : (A.length + B.length) * 56 ≤ 140737488355328 := by omega
  have g5 : (A ++ B).length + D.length ≤ maxLen := by unfold maxLen; simp only [List.length_append]; omega
  have g6 : ((A ++ B).length + D.length) * 56 ≤ 140737488355328 := by simp only [List.length_append]; omega
  simp only [List.length_append] at g5 g6
  have hAi : (∀ r ∈ A, r.length = 4) ↔ True := iff_true_intro hAr
  have hBi : (∀ r ∈ B, r.length = 4) ↔ True := iff_true_intro hBr
  have hDi : (∀ r ∈ D, r.length = 4) ↔ True := iff_true_intro hDr
  refine go (cj @k1 <| cj @k3 <| cj @g1 <| cj @g2 <| @hAi) ?_
  refine LA.round ?_
  refine go (cj @k2 <| cj @k4 <| cj @g3 <| cj @g4 <| cj @hAi <| @hBi) ?_
  refine LA.round ?_
  refine go (cj @k5 <| cj @k6 <| cj @g5 <| cj @g6 <| cj @hAi <| cj @hBi <| @hDi) ?_
  refine LA.round ?_
  refine go0 ?_
  simp [aRet, ares, aresL, ares1, V.pub, V.pubs, ldV, Tryz.results95]
end Go.Proofs.YtnpenchciinmmaaGreat
