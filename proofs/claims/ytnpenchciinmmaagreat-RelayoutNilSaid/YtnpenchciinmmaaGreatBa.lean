/-
  slices.Clone of numbers, on the abstract machine.
-/
import Derived.Test.YtnpenchciinmmaaGreatGB
import Derived.Test.YtnpenchciinmmaaGreatRow
namespace Go.Proofs.YtnpenchciinmmaaGreat
open Go.RowKit
set_option linter.unusedSimpArgs false
set_option linter.unusedVariables false
set_option maxRecDepth 100000

theorem eval_of {x : Cx} {w : World} {t : List V} {a : Act} (h : CVs x w t a.tmps.toList) {i : Nat} {v : V} (hi : t[i]? = some v) : CV x w v (a.eval (.tmp i)) := by
  have := ev_ok h (.tmp i)
  simpa [ev, List.getD_eq_getElem?_getD, hi] using this

theorem eval_c {x : Cx} {w : World} {t : List V} {a : Act} (h : CVs x w t a.tmps.toList) {i : Nat} {c : C} (hi : t[i]? = some (.c c)) : RdC x.S w c (a.eval (.tmp i)) := by
  have := eval_of h hi
  simpa only [CV] using this
theorem clone_a (l : List Int) (hl : l.length ≤ 1000000) : AC Tryz.prog 37 [.c (intsC l)] (.c (intsC l)) := by
  have f1 : l.length ≤ maxLen := by unfold maxLen; omega
  have f2 : l.length * 8 ≤ 140737488355328 := by omega
  unfold intsC
  refine en Tryz.func37 Tryz.ntmps37 ?_
  with_reducible refine AW.seq ?_
  with_reducible refine AW.region ?_
  with_reducible refine aops_run (by simp [List.replicate_succ]; first | exact rfl | exact ⟨rfl, rfl⟩) ?_
  with_reducible refine aops_done ?_
  with_reducible refine aThen_n ?_
  with_reducible refine AW.seq ?_
  with_reducible refine AW.seq ?_
  with_reducible refine AW.regionS ?_
  refine SW.take 1 ?_
  with_reducible refine aops_run (by simp [List.replicate_succ]; first | exact rfl | exact ⟨rfl, rfl⟩) ?_
  refine aops_done ?_
  simp only [List.drop_succ_cons, List.drop_zero]
  refine SW.opX (fun v t => t = none ∧ ∃ b : Bool, v = .c (.bool b) ∧ (b = true → l.map (fun n => [C.int IntKind.i64 n]) = [])) (by simp [gate]) ?_ ?_
  · intro S0 w0 x a w g ht hk
    exact ok_nilX (P := Tryz.prog) g _ rfl (by simp; exact ⟨rfl, rfl, rfl⟩) (eval_c ht rfl) rfl
  rintro v t ⟨rfl, b, rfl, hb⟩
  cases b with
  | true =>
    have : l = [] := by simpa using hb rfl
    subst this
    refine SW.nil ?_
    refine go0 ?_
    simp [aRet, ares, aresL, ares1, V.pub, V.pubs, ldV, Tryz.results37]
  | false =>
    refine SW.nil ?_
    refine go0 ?_
    with_reducible refine AW.regionS ?_
    refine SW.opX (fun v t => t = none ∧ v = .full []) (by simp [gate]) ?_ ?_
    · intro S0 w0 x a w g ht hk
      exact ⟨_, _, fun _ _ h => (by cases h), ⟨rfl, rfl⟩, ok_build_none (P := Tryz.prog) g (t := 22) rfl (ety := 3) (es := 1) (by_ := 8) (by simp)⟩
    rintro v t ⟨rfl, rfl⟩
    refine SW.take 3 ?_
    with_reducible refine aops_run (by simp [List.replicate_succ, f1, f2]; first | exact rfl | exact ⟨rfl, rfl⟩) ?_
    refine aops_done ?_
    simp only [List.drop_succ_cons, List.drop_zero]
    refine SW.nil ?_
    refine go0 ?_
    simp [aRet, ares, aresL, ares1, V.pub, V.pubs, ldV, Tryz.results37]
end Go.Proofs.YtnpenchciinmmaaGreat
