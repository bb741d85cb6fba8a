/-
  variant.known on the abstract machine: no such stretch.
-/
import Derived.Test.YthbcljjpmdfflaaVh
namespace Go.Proofs.Ythbcljjpmdfflaa
open Go.RowKit
set_option linter.unusedSimpArgs false
set_option linter.unusedVariables false
set_option maxRecDepth 100000

theorem known_n (f : Font) (name cg : ByteArray) (cr : Int) (hf : f.Fit) (hv : f.valid = true) (hst : f.stretch name = none) : AC Try.prog 108 [.agg f.vs, .c (.str name), .agg [.c (.str cg), .c (.int .i64 cr)]] (.c (.bool (isR f name ⟨cg, cr⟩))) := by
  have hR : isR f name ⟨cg, cr⟩ = (decide (cr = 0) && decide (cg = name)) := by unfold isR; rw [hst]
  refine AC.intro Try.func108 rfl ?_
  simp only [Try.ntmps108, List.map_cons, List.map_nil, List.length_cons, List.length_nil, Nat.reduceAdd, Nat.reduceSub, List.replicate_succ, List.replicate_zero, List.cons_append, List.nil_append]
  repeat (first
   | (with_reducible first | refine AW.seq ?_ | refine AW.block ?_ | refine aThen_n ?_ | refine aBlk_n ?_ | refine AW.ret ?_ | refine aThen_r ?_ | refine aBlk_r ?_ | refine aops_done ?_ | refine AW.skip ?_ | refine AW.exit ?_ | refine aThen_e ?_ | refine aBlk_hit ?_ | refine AW.label ?_ | refine AW.scope ?_ | refine aNg_n ?_ | refine aNg_r ?_ | refine aNg_e ?_)
   | ((with_reducible refine AW.region ?_); with_reducible refine aops_run (by simp [List.replicate_succ]; first | exact rfl | exact ⟨rfl, rfl⟩) ?_)
   | ((with_reducible refine AW.draw mixedP ?_ ?_); (focus first | exact .inl rfl | exact .inr (by decide)); with_reducible refine adraw_go (by simp [List.replicate_succ]; first | exact rfl | exact ⟨rfl, rfl, rfl⟩) ?_)
   | (with_reducible refine adraw_done (by kernel_rfl) ?_)
   | ((with_reducible refine aBlk_miss ?_ ?_); focus decide)
   | ((with_reducible refine cond_t ?_ ?_); focus (simp [ev]; done))
   | ((with_reducible refine cond_f ?_ ?_); focus (simp [ev]; done)))
  (with_reducible first | refine aops_c (vstretch_a f name hf hv) Try.func103 (by kernel_rfl) (by kernel_rfl) ?_ ?_ ?_ | refine adraw_c (vstretch_a f name hf hv) Try.func103 (by kernel_rfl) (by kernel_rfl) ?_ ?_ ?_)
  focus (simp [gate, foundS, stretchV, Stretch.row, hst, Stretch.zero]; done)
  focus (simp [pubCall, foundS, stretchV, Stretch.row, hst, Stretch.zero]; done)
  first | (with_reducible refine aops_run (by simp [List.replicate_succ, foundS, stretchV, Stretch.row, hst, Stretch.zero]; first | exact rfl | exact ⟨rfl, rfl⟩) ?_) | (with_reducible refine adraw_go (by simp [List.replicate_succ, foundS, stretchV, Stretch.row, hst, Stretch.zero]; first | exact rfl | exact ⟨rfl, rfl, rfl⟩) ?_)
  repeat (first
   | (with_reducible first | refine AW.seq ?_ | refine AW.block ?_ | refine aThen_n ?_ | refine aBlk_n ?_ | refine AW.ret ?_ | refine aThen_r ?_ | refine aBlk_r ?_ | refine aops_done ?_ | refine AW.skip ?_ | refine AW.exit ?_ | refine aThen_e ?_ | refine aBlk_hit ?_ | refine AW.label ?_ | refine AW.scope ?_ | refine aNg_n ?_ | refine aNg_r ?_ | refine aNg_e ?_)
   | ((with_reducible refine AW.region ?_); with_reducible refine aops_run (by simp [List.replicate_succ]; first | exact rfl | exact ⟨rfl, rfl⟩) ?_)
   | ((with_reducible refine AW.draw mixedP ?_ ?_); (focus first | exact .inl rfl | exact .inr (by decide)); with_reducible refine adraw_go (by simp [List.replicate_succ]; first | exact rfl | exact ⟨rfl, rfl, rfl⟩) ?_)
   | (with_reducible refine adraw_done (by kernel_rfl) ?_)
   | ((with_reducible refine aBlk_miss ?_ ?_); focus decide)
   | ((with_reducible refine cond_t ?_ ?_); focus (simp [ev]; done))
   | ((with_reducible refine cond_f ?_ ?_); focus (simp [ev]; done)))
  refine AW.regionS ?_
  refine SW.take 3 ?_
  with_reducible refine aops_run (by simp [List.replicate_succ]; first | exact rfl | exact ⟨rfl, rfl⟩) ?_
  refine aops_done ?_
  simp only [List.drop_succ_cons, List.drop_zero]
  refine SW.op (.c (.bool (decide (cr = 0) && decide (cg = name)))) (by simp [gate]) rfl ?_ ?_
  · intro S0 w0 x a w hA
    obtain ⟨u, hu, hcu⟩ := hA.2.get 18 _ rfl
    obtain ⟨u', hu', hcu'⟩ := hA.2.get 20 _ rfl
    simp only [CV, CVs, RdC] at hcu hcu'
    refine RunOk.pure hA.1 (u := .bool (decide (cr = 0) && decide (cg = name))) ?_ (by simp only [CV, RdC])
    obtain ⟨vs, rfl, _, _, hvs, ⟨rfl, _⟩, _, _, rfl, ⟨rfl, _⟩, rfl⟩ := hcu
    obtain ⟨vs', rfl, _, _, hvs', ⟨rfl, _⟩, _, _, rfl, ⟨rfl, _⟩, rfl⟩ := hcu'
    have ev1 : vs = #[.string cg, .int .i64 cr] := Array.toList_inj.1 hvs
    have ev2 : vs' = #[.string name, .int .i64 0] := Array.toList_inj.1 hvs'
    subst ev1 ev2
    have e1 : a.eval (.tmp 18) = .agg #[.string cg, .int .i64 cr] := by simp [Act.eval, Array.getD_eq_getD_getElem?, ← Array.getElem?_toList, hu]
    have e2 : a.eval (.tmp 20) = .agg #[.string name, .int .i64 0] := by simp [Act.eval, Array.getD_eq_getD_getElem?, ← Array.getElem?_toList, hu']
    clear hA hu hu' hvs hvs'
    by_cases h1 : cg = name
    · subst h1
      by_cases h2 : cr = 0
      · subst h2
        simp only [execOp, e1, e2]
        go_simp
      · have h2' : (cr == 0) = false := by simpa using h2
        simp only [execOp, e1, e2]
        go_simp
    · have h1' := str_ne h1
      simp only [execOp, e1, e2]
      go_simp
  · refine SW.take 1 ?_
    with_reducible refine aops_run (by simp [List.replicate_succ]; first | exact rfl | exact ⟨rfl, rfl⟩) ?_
    refine aops_done ?_
    simp only [List.drop_succ_cons, List.drop_zero]
    refine SW.nil ?_
    repeat (first
     | (with_reducible first | refine AW.seq ?_ | refine AW.block ?_ | refine aThen_n ?_ | refine aBlk_n ?_ | refine AW.ret ?_ | refine aThen_r ?_ | refine aBlk_r ?_ | refine aops_done ?_ | refine AW.skip ?_ | refine AW.exit ?_ | refine aThen_e ?_ | refine aBlk_hit ?_ | refine AW.label ?_ | refine AW.scope ?_ | refine aNg_n ?_ | refine aNg_r ?_ | refine aNg_e ?_)
     | ((with_reducible refine AW.region ?_); with_reducible refine aops_run (by simp [List.replicate_succ]; first | exact rfl | exact ⟨rfl, rfl⟩) ?_)
     | ((with_reducible refine AW.draw mixedP ?_ ?_); (focus first | exact .inl rfl | exact .inr (by decide)); with_reducible refine adraw_go (by simp [List.replicate_succ]; first | exact rfl | exact ⟨rfl, rfl, rfl⟩) ?_)
     | (with_reducible refine adraw_done (by kernel_rfl) ?_)
     | ((with_reducible refine aBlk_miss ?_ ?_); focus decide)
     | ((with_reducible refine cond_t ?_ ?_); focus (simp [ev]; done))
     | ((with_reducible refine cond_f ?_ ?_); focus (simp [ev]; done)))
    simp [aRet, ares, aresL, ares1, V.pub, V.pubs, ldV, Try.results108, hR]
theorem known_a (f : Font) (name : ByteArray) (c : Choice) (hf : f.Fit) (hv : f.valid = true) : AC Try.prog 108 [.agg f.vs, .c (.str name), choiceV c] (.c (.bool (isR f name c))) := by
  obtain ⟨cg, cr⟩ := c
  cases hst : f.stretch name with
  | none => exact known_n f name cg cr hf hv hst
  | some s => exact known_s f name cg cr s hf hv hst
end Go.Proofs.Ythbcljjpmdfflaa
