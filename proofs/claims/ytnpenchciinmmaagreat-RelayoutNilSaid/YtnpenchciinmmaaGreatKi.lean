/-
  slices.Concat of two rows of numbers.
-/
import Derived.Test.YtnpenchciinmmaaGreatKh
import Derived.Test.YtnpenchciinmmaaGreatBa
import Derived.Test.YtnpenchciinmmaaGreatTz
namespace Go.Proofs.YtnpenchciinmmaaGreat
open Go.RowKit
set_option linter.unusedSimpArgs false
set_option linter.unusedVariables false
set_option maxRecDepth 100000

theorem concat_a (a b : List Int) (ha : a.length ≤ 100000) (hb : b.length ≤ 100000) (hp : 0 < b.length) : AC Tryz.prog 85 [.c (.sl [[intsC a], [intsC b]])] (.c (intsC (a ++ b))) := by
  obtain ⟨A, hA⟩ : ∃ A, a.map (fun n => [C.int .i64 n]) = A := ⟨_, rfl⟩
  obtain ⟨B, hB⟩ : ∃ B, b.map (fun n => [C.int .i64 n]) = B := ⟨_, rfl⟩
  have hAl : A.length = a.length := by rw [← hA]; simp
  have hBl : B.length = b.length := by rw [← hB]; simp
  have hAr : ∀ r ∈ A, r.length = 1 := by rw [← hA]; simp
  have hBr : ∀ r ∈ B, r.length = 1 := by rw [← hB]; simp
  unfold intsC
  rw [List.map_append, hA, hB]
  have hw0 : IntKind.i64.wrap (A.length : Int) = (A.length : Int) := wrap_i64 (by omega) (by omega)
  obtain ⟨N, hN⟩ : ∃ N, A.length + B.length = N := ⟨_, rfl⟩
  have hw1 : IntKind.i64.wrap ((A.length : Int) + (B.length : Int)) = (N : Int) := by rw [wrap_i64 (by omega) (by omega)]; omega
  have hn0 : ¬ ((A.length : Int) < 0) := by omega
  have hn1 : ¬ ((N : Int) < 0) := by omega
  have k1 : IntKind.i64.wrap (0 + 1) = 1 := by decide +kernel
  have k2 : IntKind.i64.wrap (1 + 1) = 2 := by decide +kernel
  have k3 : IntKind.i64.wrap 1 = 1 := by decide +kernel
  have k4 : IntKind.i64.wrap 2 = 2 := by decide +kernel
  refine en Tryz.func85 Tryz.ntmps85 ?_
  refine go0 ?_
  refine LA.loop (LA.round ?_)
  refine go (cj @hw0 <| cj @hn0 <| cj @k1 <| @k3) ?_
  refine LA.round ?_
  refine go (cj @hw1 <| cj @hn1 <| cj @k2 <| @k4) ?_
  refine LA.round ?_
  have ff := (Tryz.results85)
  repeat any_goals (first | refine stN (RegN.mk 9) ?_ | exact lfW ff | refine ruW ff ?_ | refine cdW ff ?_ | ((first | refine bdW ff ?_ ?_ | refine bxW ff ?_ ?_ | refine bnW ff ?_ ?_ | refine brW ff ?_ ?_) <;> intro h <;> try (exfalso; first | omega | contradiction)))
  with_reducible refine AW.regionS ?_
  refine SW.take 1 ?_
  with_reducible refine aops_run (by simp [List.replicate_succ]; first | exact rfl | exact ⟨rfl, rfl⟩) ?_
  refine aops_done ?_
  simp only [List.drop_succ_cons, List.drop_zero]
  refine SW.callh (grow_h N (by omega) (by omega) []) (by simp [gate]) (by simp [callOf, ev]) ?_
  refine SW.take 1 ?_
  with_reducible refine aops_run (by simp [List.replicate_succ]; first | exact rfl | exact ⟨rfl, rfl⟩) ?_
  refine aops_done ?_
  simp only [List.drop_succ_cons, List.drop_zero]
  refine SW.nil ?_
  refine go0 ?_
  refine LA.loop (LA.round ?_)
  have g1 : A.length ≤ maxLen := by unfold maxLen; omega
  have g2 : A.length * 8 ≤ 140737488355328 := by omega
  have g3 : A.length + B.length ≤ maxLen := by unfold maxLen; omega
  have g4 : (A.length + B.length) * 8 ≤ 140737488355328 := by omega
  have hAi : (∀ r ∈ A, r.length = 1) ↔ True := iff_true_intro hAr
  have hBi : (∀ r ∈ B, r.length = 1) ↔ True := iff_true_intro hBr
  refine go (cj @k1 <| cj @k3 <| cj @g1 <| cj @g2 <| @hAi) ?_
  refine LA.round ?_
  refine go (cj @k2 <| cj @k4 <| cj @g3 <| cj @g4 <| cj @hAi <| @hBi) ?_
  refine LA.round ?_
  refine go0 ?_
  simp [aRet, ares, aresL, ares1, V.pub, V.pubs, ldV, Tryz.results85]
end Go.Proofs.YtnpenchciinmmaaGreat
