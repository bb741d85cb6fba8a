/-
  slices.Clone of rows.
-/
import Derived.Test.YtnpenchciinmmaaGreatBa
namespace Go.Proofs.YtnpenchciinmmaaGreat
open Go.RowKit
set_option linter.unusedSimpArgs false
set_option linter.unusedVariables false
set_option maxRecDepth 100000

theorem cloneG_a (rows : List (List C)) (hl : rows.length ≤ 1000000) (hr : ∀ r ∈ rows, r.length = 6) : AC Tryz.prog 33 [.c (.sl rows)] (.c (.sl rows)) := by
  have f1 : rows.length ≤ maxLen := by unfold maxLen; omega
  have f2 : rows.length * 56 ≤ 140737488355328 := by omega
  have hri : (∀ r ∈ rows, r.length = 6) ↔ True := iff_true_intro hr
  refine en Tryz.func33 Tryz.ntmps33 ?_
  with_reducible refine AW.seq ?_
  with_reducible refine AW.region ?_
  with_reducible refine aops_run (by simp [List.replicate_succ]; first | exact rfl | exact ⟨rfl, rfl⟩) ?_
  with_reducible refine aops_done ?_
  with_reducible refine aThen_n ?_
  with_reducible refine AW.seq ?_
  with_reducible refine AW.seq ?_
  with_reducible refine AW.regionS ?_
  refine SW.take 1 ?_
  with_reducible refine aops_run (by simp [List.replicate_succ]; first | exact rfl | exact ⟨rfl, rfl⟩) ?_
  refine aops_done ?_
  simp only [List.drop_succ_cons, List.drop_zero]
  refine SW.opX (fun v t => t = none ∧ ∃ b : Bool, v = .c (.bool b) ∧ (b = true → rows = [])) (by simp [gate]) ?_ ?_
  · intro S0 w0 x a w g ht hk
    exact ok_nilX (P := Tryz.prog) g _ rfl (by simp; exact ⟨rfl, rfl, rfl⟩) (eval_c ht rfl) rfl
  rintro v t ⟨rfl, b, rfl, hb⟩
  cases b with
  | true =>
    have : rows = [] := by simpa using hb rfl
    subst this
    refine SW.nil ?_
    refine go0 ?_
    simp [aRet, ares, aresL, ares1, V.pub, V.pubs, ldV, Tryz.results33]
  | false =>
    refine SW.nil ?_
    refine go0 ?_
    with_reducible refine AW.regionS ?_
    refine SW.opX (fun v t => t = none ∧ v = .full []) (by simp [gate]) ?_ ?_
    · intro S0 w0 x a w g ht hk
      exact ⟨_, _, fun _ _ h => (by cases h), ⟨rfl, rfl⟩, ok_build_none (P := Tryz.prog) g (t := 44) rfl (ety := 43) (es := 6) (by_ := 56) (by simp)⟩
    rintro v t ⟨rfl, rfl⟩
    refine SW.take 3 ?_
    with_reducible refine aops_run (by simp [List.replicate_succ, f1, f2, hri]; first | exact rfl | exact ⟨rfl, rfl⟩) ?_
    refine aops_done ?_
    simp only [List.drop_succ_cons, List.drop_zero]
    refine SW.nil ?_
    refine go0 ?_
    simp [aRet, ares, aresL, ares1, V.pub, V.pubs, ldV, Tryz.results33]
theorem cloneS_a (rows : List (List C)) (hl : rows.length ≤ 1000000) (hr : ∀ r ∈ rows, r.length = 4) : AC Tryz.prog 34 [.c (.sl rows)] (.c (.sl rows)) := by
  have f1 : rows.length ≤ maxLen := by unfold maxLen; omega
  have f2 : rows.length * 72 ≤ 140737488355328 := by omega
  have hri : (∀ r ∈ rows, r.length = 4) ↔ True := iff_true_intro hr
  refine en Tryz.func34 Tryz.ntmps34 ?_
  with_reducible refine AW.seq ?_
  with_reducible refine AW.region ?_
  with_reducible refine aops_run (by simp [List.replicate_succ]; first | exact rfl | exact ⟨rfl, rfl⟩) ?_
  with_reducible refine aops_done ?_
  with_reducible refine aThen_n ?_
  with_reducible refine AW.seq ?_
  with_reducible refine AW.seq ?_
  with_reducible refine AW.regionS ?_
  refine SW.take 1 ?_
  with_reducible refine aops_run (by simp [List.replicate_succ]; first | exact rfl | exact ⟨rfl, rfl⟩) ?_
  refine aops_done ?_
  simp only [List.drop_succ_cons, List.drop_zero]
  refine SW.opX (fun v t => t = none ∧ ∃ b : Bool, v = .c (.bool b) ∧ (b = true → rows = [])) (by simp [gate]) ?_ ?_
  · intro S0 w0 x a w g ht hk
    exact ok_nilX (P := Tryz.prog) g _ rfl (by simp; exact ⟨rfl, rfl, rfl⟩) (eval_c ht rfl) rfl
  rintro v t ⟨rfl, b, rfl, hb⟩
  cases b with
  | true =>
    have : rows = [] := by simpa using hb rfl
    subst this
    refine SW.nil ?_
    refine go0 ?_
    simp [aRet, ares, aresL, ares1, V.pub, V.pubs, ldV, Tryz.results34]
  | false =>
    refine SW.nil ?_
    refine go0 ?_
    with_reducible refine AW.regionS ?_
    refine SW.opX (fun v t => t = none ∧ v = .full []) (by simp [gate]) ?_ ?_
    · intro S0 w0 x a w g ht hk
      exact ⟨_, _, fun _ _ h => (by cases h), ⟨rfl, rfl⟩, ok_build_none (P := Tryz.prog) g (t := 47) rfl (ety := 89) (es := 4) (by_ := 72) (by simp)⟩
    rintro v t ⟨rfl, rfl⟩
    refine SW.take 3 ?_
    with_reducible refine aops_run (by simp [List.replicate_succ, f1, f2, hri]; first | exact rfl | exact ⟨rfl, rfl⟩) ?_
    refine aops_done ?_
    simp only [List.drop_succ_cons, List.drop_zero]
    refine SW.nil ?_
    refine go0 ?_
    simp [aRet, ares, aresL, ares1, V.pub, V.pubs, ldV, Tryz.results34]
theorem cloneE_a (rows : List (List C)) (hl : rows.length ≤ 1000000) (hr : ∀ r ∈ rows, r.length = 4) : AC Tryz.prog 20 [.c (.sl rows)] (.c (.sl rows)) := by
  have f1 : rows.length ≤ maxLen := by unfold maxLen; omega
  have f2 : rows.length * 32 ≤ 140737488355328 := by omega
  have hri : (∀ r ∈ rows, r.length = 4) ↔ True := iff_true_intro hr
  refine en Tryz.func20 Tryz.ntmps20 ?_
  with_reducible refine AW.seq ?_
  with_reducible refine AW.region ?_
  with_reducible refine aops_run (by simp [List.replicate_succ]; first | exact rfl | exact ⟨rfl, rfl⟩) ?_
  with_reducible refine aops_done ?_
  with_reducible refine aThen_n ?_
  with_reducible refine AW.seq ?_
  with_reducible refine AW.seq ?_
  with_reducible refine AW.regionS ?_
  refine SW.take 1 ?_
  with_reducible refine aops_run (by simp [List.replicate_succ]; first | exact rfl | exact ⟨rfl, rfl⟩) ?_
  refine aops_done ?_
  simp only [List.drop_succ_cons, List.drop_zero]
  refine SW.opX (fun v t => t = none ∧ ∃ b : Bool, v = .c (.bool b) ∧ (b = true → rows = [])) (by simp [gate]) ?_ ?_
  · intro S0 w0 x a w g ht hk
    exact ok_nilX (P := Tryz.prog) g _ rfl (by simp; exact ⟨rfl, rfl, rfl⟩) (eval_c ht rfl) rfl
  rintro v t ⟨rfl, b, rfl, hb⟩
  cases b with
  | true =>
    have : rows = [] := by simpa using hb rfl
    subst this
    refine SW.nil ?_
    refine go0 ?_
    simp [aRet, ares, aresL, ares1, V.pub, V.pubs, ldV, Tryz.results20]
  | false =>
    refine SW.nil ?_
    refine go0 ?_
    with_reducible refine AW.regionS ?_
    refine SW.opX (fun v t => t = none ∧ v = .full []) (by simp [gate]) ?_ ?_
    · intro S0 w0 x a w g ht hk
      exact ⟨_, _, fun _ _ h => (by cases h), ⟨rfl, rfl⟩, ok_build_none (P := Tryz.prog) g (t := 58) rfl (ety := 69) (es := 4) (by_ := 32) (by simp)⟩
    rintro v t ⟨rfl, rfl⟩
    refine SW.take 3 ?_
    with_reducible refine aops_run (by simp [List.replicate_succ, f1, f2, hri]; first | exact rfl | exact ⟨rfl, rfl⟩) ?_
    refine aops_done ?_
    simp only [List.drop_succ_cons, List.drop_zero]
    refine SW.nil ?_
    refine go0 ?_
    simp [aRet, ares, aresL, ares1, V.pub, V.pubs, ldV, Tryz.results20]
end Go.Proofs.YtnpenchciinmmaaGreat
